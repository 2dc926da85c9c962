/- Page tables walked; a new memory with bytes; a new unit. -/
import Derived.Test.YtobjiljkfmcalaaGreatSpH
import Derived.Test.YtobjiljkfmcalaaGreatInkS
set_option linter.unusedSimpArgs false
set_option linter.unusedVariables false
set_option maxRecDepth 100000
namespace Go.Ink
open Go.RowKit
theorem and1 {v : Int} (h : u32 v) : bits .and .u32 v 1 = v % 2 := bits_mask .u32 32 (by decide) wraps_u32 1 (by decide) v h.1 (by have := h.2; omega)
theorem and15' {v : Int} (h : u32 v) : bits .and .u32 v 15 = v % 16 := bits_mask .u32 32 (by decide) wraps_u32 4 (by decide) v h.1 (by have := h.2; omega)
theorem and63' {v : Int} (h : u32 v) : bits .and .u32 v 63 = v % 64 := bits_mask .u32 32 (by decide) wraps_u32 6 (by decide) v h.1 (by have := h.2; omega)
theorem shrE (a : Int) (n : Nat) : a.fdiv (2 ^ n) = a / 2 ^ n := Int.fdiv_eq_ediv_of_nonneg a (by exact Int.le_of_lt (Int.pow_pos (by decide)))
theorem andNot63' (v : Nat) (h : v ≤ 4294967295) : bits .andNot .u32 (v : Int) 63 = ((v / 64 * 64 : Nat) : Int) := by
  show IntKind.u32.wrap (((BitVec.ofInt 32 (v : Int)) &&& ~~~ (BitVec.ofInt 32 63)).toNat : Int) = _
  have e1 : (BitVec.ofInt 32 (v : Int)).toNat = v := by rw [BitVec.ofInt_natCast, BitVec.toNat_ofNat]; exact Nat.mod_eq_of_lt (by omega)
  have h1 : v &&& 4294967232 = (v / 64) * 64 := by
    apply Nat.eq_of_testBit_eq
    intro i
    have e : (4294967232 : Nat) = (2 ^ 26 - 1) * 2 ^ 6 := by decide
    rw [e, Nat.testBit_and, show (v / 64) * 64 = (v / 2 ^ 6) * 2 ^ 6 from rfl]
    rw [Nat.testBit_mul_two_pow, Nat.testBit_mul_two_pow, Nat.testBit_two_pow_sub_one, Nat.testBit_div_two_pow]
    by_cases hi : 6 ≤ i
    · simp only [hi, decide_true, Bool.true_and, show i - 6 + 6 = i by omega]
      by_cases h26 : i - 6 < 26
      · simp [h26]
      have : v.testBit i = false := Nat.testBit_lt_two_pow (Nat.lt_of_lt_of_le (show v < 2 ^ 32 by omega) (Nat.pow_le_pow_right (by omega) (by omega)))
      simp [this]
    simp [hi]
  rw [BitVec.toNat_and, e1, show (~~~ (BitVec.ofInt 32 63)).toNat = 4294967232 from by decide, h1]
  exact u32_wrap_id _ (by omega) (by omega)
def entV (o : Option Int) : Value := match o with | some e => .tuple #[.int .u32 e, .bool true] | none => .tuple #[.int .u32 0, .bool false]
theorem entryOf_u32 {n : Nat} {d : List Int} {a : Nat} {e : Int} (h : u8s d) (he : entryOf n d a = some e) : u32 e ∧ a + 4 ≤ n * 64 := by
  unfold entryOf at he
  cases hc : decide (a + 4 ≤ n * 64) with
  | true =>
    rw [hc] at he
    simp only [cond_true, Option.some.injEq] at he
    subst he
    exact ⟨wordAt_u32 h a, of_decide_eq_true hc⟩
  | false => rw [hc] at he; cases he
theorem lookUp_in {n : Nat} {d : List Int} {root va a : Nat} {l : Int} (h : u8s d) (hl : lookUp n d root va = some (a, l)) : u32 l ∧ a + 4 ≤ n * 64 := by
  unfold lookUp at hl
  cases hc : decide (16384 ≤ va) with
  | true => rw [hc] at hl; cases hl
  | false =>
    rw [hc] at hl
    simp only [cond_false] at hl
    obtain ⟨e, h1, h2⟩ := Option.bind_eq_some_iff.1 hl
    unfold look2 at h2
    cases hc2 : (e % 2 == 0) with
    | true => rw [hc2] at h2; cases h2
    | false =>
      rw [hc2] at h2
      simp only [cond_false] at h2
      obtain ⟨l', h3, h4⟩ := Option.map_eq_some_iff.1 h2
      simp only [Prod.mk.injEq] at h4
      obtain ⟨rfl, rfl⟩ := h4
      exact entryOf_u32 h h3
theorem bits_u32 (op : BinOp) (a b : Int) : u32 (bits op .u32 a b) := by
  cases op <;> exact ⟨by show 0 ≤ IntKind.u32.wrap _; rw [IntKind.wrap_u32]; omega, by show IntKind.u32.wrap _ ≤ _; rw [IntKind.wrap_u32]; omega⟩
theorem marked_u32 (l : Int) (kind : Int) : u32 (marked l kind) := by
  unfold marked
  cases (kind == 3)
  · exact bits_u32 .or _ _
  exact bits_u32 .or _ _
end Go.Ink
namespace Go.Proofs.YtobjiljkfmcalaaGreat
open Go.RowKit Go.Ink

theorem entry_ok (L : MLoc) (M : Mem) (a : Nat) (ha : a ≤ 4294967295000) (w : World) (h : (memC L M).ok w) : Ctr Tryz.prog 185 [.pointer (some ⟨L.bm, 0, none⟩), .int .u64 a] w [] (fun v cs => v = entV (entryOf L.n M.data a) ∧ cs = []) := by
  obtain ⟨n1, n64, hdl, hdb, htl⟩ := mem_n h
  refine fn_ctr Tryz.func185 rfl Tryz.ntmps185 rfl (Inv.start w) ?_
  refine Zs (Zr (Zg rfl (Zg rfl (Zn (Zt (Zs (Zs (Zr (Zm rfl (Zm rfl (wl_t (t_call rfl (fun _ _ => rfl) (fun w hi => rsize_ok L M w (Chunk.old h hi))) rfl ?_)))))))))))
  rintro _ _ ⟨_, ⟨rfl, rfl⟩, rfl⟩
  refine Zy (y_conv rfl rfl (Zv rfl) (by first | exact IntWalk.u64_in _ ⟨by omega, by omega⟩ | exact rfl)) ?_
  refine Zy (y_gtr (Zv rfl) (Zv rfl) rfl) (Zn (Zt ?_))
  refine wc_cond _ rfl (fun hc1 => ?_) (fun hc1 => ?_)
  · simp only [decide_eq_true_eq] at hc1
    have hc : decide (a + 4 ≤ L.n * 64) = false := decide_eq_false (by omega)
    refine Zs (Zr (Zg rfl (Zg rfl (Zn (Zt (Ze (Zw (ret2 (cs' := []) (.inl rfl) Zu rfl rfl rfl ?_))))))))
    unfold entV entryOf
    rw [hc]
    exact ⟨rfl, rfl⟩
  simp only [decide_eq_false_iff_not] at hc1
  refine Zc (Zt (Zs ?_))
  refine (Bool.eq_false_or_eq_true (decide (a + 4 ≤ L.n * 64))).elim (fun h0 => ?_) (fun h0 => ?_)
  · refine Zr (Zm rfl (Zm rfl (Zy (y_conv rfl rfl (Zv rfl) (u32_wrap_id _ (by omega) (by omega))) ?_)))
    refine wl_t (t_call rfl (fun _ _ => rfl) (fun w hi => rword_ok L M a (by omega) w (Chunk.old h hi))) rfl ?_
    rintro _ _ ⟨_, ⟨rfl, rfl⟩, rfl⟩
    unfold entV entryOf wordV
    rw [h0]
    simp only [cond_true]
    refine Zy (y_extractN (Zv rfl) (.zero _ _)) (Zy (y_extractN (Zv rfl) (.succ _ (.zero _ _))) (Zg rfl (Zg rfl (Zn (Zt (Ze (ret2 (cs' := []) (.inl rfl) Zu rfl rfl rfl ?_)))))))
    exact ⟨rfl, rfl⟩
  refine Zr (Zm rfl (Zm rfl (Zy (y_conv rfl rfl (Zv rfl) (u32_wrap_id _ (by omega) (by omega))) ?_)))
  refine wl_t (t_call rfl (fun _ _ => rfl) (fun w hi => rword_ok L M a (by omega) w (Chunk.old h hi))) rfl ?_
  rintro _ _ ⟨_, ⟨rfl, rfl⟩, rfl⟩
  unfold entV entryOf wordV
  rw [h0]
  simp only [cond_false]
  refine Zy (y_extractN (Zv rfl) (.zero _ _)) (Zy (y_extractN (Zv rfl) (.succ _ (.zero _ _))) (Zg rfl (Zg rfl (Zn (Zt (Ze (ret2 (cs' := []) (.inl rfl) Zu rfl rfl rfl ?_)))))))
  exact ⟨rfl, rfl⟩
set_option maxHeartbeats 1000000 in
theorem look_ok (L : MLoc) (M : Mem) (root va : Nat) (hroot : root ≤ 4294967295) (hva : va ≤ 4294967295) (w : World) (h : (memC L M).ok w) : Ctr Tryz.prog 181 [.pointer (some ⟨L.bm, 0, none⟩), .int .u32 root, .int .u32 va] w [] (fun v cs => v = lookV (lookUp L.n M.data root va) ∧ cs = []) := by
  obtain ⟨n1, n64, hdl, hdb, htl⟩ := mem_n h
  obtain ⟨e1, he1⟩ : ∃ e, entryOf L.n M.data (at1 root va) = e := ⟨_, rfl⟩
  have HE1 := entry_ok L M (at1 root va) (by unfold at1; omega)
  rw [he1] at HE1
  refine fn_ctr Tryz.func181 rfl Tryz.ntmps181 rfl (Inv.start w) ?_
  refine Zs (Zr (Zg rfl (Zg rfl (Zg rfl (Zn (Zt (Zs (Zs (Zr (Zm rfl (Zy (y_pnil rfl (Zv rfl)) (Zm rfl (Zyn rfl rfl (y_move (Zv rfl)) ?_)))))))))))))
  refine Zyn rfl rfl (y_geq (ev_g rfl) (Zv rfl) rfl) ?_
  refine Zy (y_or (Zv rfl) (pk_no rfl (fun _ => rfl))) (Zn (Zt ?_))
  refine wc_cond _ rfl (fun hc1 => ?_) (fun hc1 => ?_)
  · have hc : decide (16384 ≤ va) = true := by (have h0 : (16384 : Int) ≤ va := by simpa using hc1); exact decide_eq_true (by omega)
    have hl : lookUp L.n M.data root va = none := by (unfold lookUp; rw [hc]; rfl)
    rw [hl]
    refine Zs (Zr (Zg rfl (Zg rfl (Zg rfl (Zn (Zt (Ze (Zw (ret3 (cs' := []) (.inl rfl) Zu rfl rfl rfl rfl ?_)))))))))
    exact ⟨rfl, rfl⟩
  have hlt : va < 16384 := by (have h0 : ¬ (16384 : Int) ≤ va := by simpa using hc1); omega
  have hl : lookUp L.n M.data root va = e1.bind (look2 L.n M.data va) := by (unfold lookUp; rw [decide_eq_false (by omega), he1]; rfl)
  rw [hl]
  refine Zc (Zt (Zs ?_))
  revert HE1 he1
  refine Option.rec (fun he1 HE1 => ?_) (fun e he1 HE1 => ?_) e1
  · refine Zr (Zm rfl (Zm rfl (Zy (y_andNot (Zv rfl) (Zv rfl) (andNot63' root hroot)) ?_)))
    refine Zy (y_conv rfl rfl (Zv rfl) (by first | exact IntWalk.u64_in _ ⟨by omega, by omega⟩ | exact rfl)) ?_
    refine Zm rfl (Zy (y_shr (Zv rfl) (Zv rfl) (by omega) (show _ = ((va / 1024 : Nat) : Int) from (shrE _ 10).trans (by omega))) ?_)
    refine Zy (y_and_ (Zv rfl) (Zv rfl) (show _ = ((va / 1024 % 16 : Nat) : Int) from (and15' ⟨by omega, by omega⟩).trans (by omega))) ?_
    refine Zy (y_mul (Zv rfl) (Zv rfl) (show _ = ((4 * (va / 1024 % 16) : Nat) : Int) from (u32_wrap_id _ (by omega) (by omega)).trans (by omega))) ?_
    refine Zy (y_conv rfl rfl (Zv rfl) (by first | exact IntWalk.u64_in _ ⟨by omega, by omega⟩ | exact rfl)) ?_
    refine Zy (y_add (Zv rfl) (Zv rfl) (show _ = ((at1 root va : Nat) : Int) from (u64_wrap_id _ (by omega) (by omega)).trans (by unfold at1; omega))) ?_
    refine wl_t (t_call rfl (fun _ _ => rfl) (fun w hi => HE1 w (Chunk.old h hi))) rfl ?_
    rintro _ _ ⟨_, ⟨rfl, rfl⟩, rfl⟩
    simp only [entV]
    refine Zm rfl (Zy (y_extractN (Zv rfl) (.zero _ _)) (Zy (y_extractN (Zv rfl) (.succ _ (.zero _ _))) (Zg rfl (Zg rfl (Zn (Zt (Zs (Zs (Zr (Zm rfl (Zy (y_not (Zv rfl) rfl) (Zm rfl (Zyn rfl rfl (y_move (Zv rfl)) ?_)))))))))))))
    refine Zyn rfl rfl (y_and_ (ev_g rfl) (Zv rfl) rfl) ?_
    refine Zyn rfl rfl (y_eql (ev_g rfl) (Zv rfl) rfl) ?_
    refine Zy (y_or (Zv rfl) (pk_no rfl (fun _ => rfl))) (Zn (Zt (wc_cond_t rfl (rfl) ?_)))
    refine Zs (Zr (Zg rfl (Zg rfl (Zg rfl (Zn (Zt (Ze (Zw (ret3 (cs' := []) (.inl rfl) Zu rfl rfl rfl rfl ?_)))))))))
    exact ⟨rfl, rfl⟩
  refine Zr (Zm rfl (Zm rfl (Zy (y_andNot (Zv rfl) (Zv rfl) (andNot63' root hroot)) ?_)))
  refine Zy (y_conv rfl rfl (Zv rfl) (by first | exact IntWalk.u64_in _ ⟨by omega, by omega⟩ | exact rfl)) ?_
  refine Zm rfl (Zy (y_shr (Zv rfl) (Zv rfl) (by omega) (show _ = ((va / 1024 : Nat) : Int) from (shrE _ 10).trans (by omega))) ?_)
  refine Zy (y_and_ (Zv rfl) (Zv rfl) (show _ = ((va / 1024 % 16 : Nat) : Int) from (and15' ⟨by omega, by omega⟩).trans (by omega))) ?_
  refine Zy (y_mul (Zv rfl) (Zv rfl) (show _ = ((4 * (va / 1024 % 16) : Nat) : Int) from (u32_wrap_id _ (by omega) (by omega)).trans (by omega))) ?_
  refine Zy (y_conv rfl rfl (Zv rfl) (by first | exact IntWalk.u64_in _ ⟨by omega, by omega⟩ | exact rfl)) ?_
  refine Zy (y_add (Zv rfl) (Zv rfl) (show _ = ((at1 root va : Nat) : Int) from (u64_wrap_id _ (by omega) (by omega)).trans (by unfold at1; omega))) ?_
  refine wl_t (t_call rfl (fun _ _ => rfl) (fun w hi => HE1 w (Chunk.old h hi))) rfl ?_
  rintro _ _ ⟨_, ⟨rfl, rfl⟩, rfl⟩
  simp only [entV]
  refine Zm rfl (Zy (y_extractN (Zv rfl) (.zero _ _)) (Zy (y_extractN (Zv rfl) (.succ _ (.zero _ _))) (Zg rfl (Zg rfl (Zn (Zt (Zs (Zs (Zr ?_)))))))))
  have heu := (entryOf_u32 hdb he1).1
  obtain ⟨eu0, eu1⟩ := heu
  refine Zm rfl (Zy (y_not (Zv rfl) rfl) (Zm rfl (Zyn rfl rfl (y_move (Zv rfl)) ?_)))
  refine Zyn rfl rfl (y_and_ (ev_g rfl) (Zv rfl) (and1 ⟨eu0, eu1⟩)) ?_
  refine Zyn rfl rfl (y_eql (ev_g rfl) (Zv rfl) rfl) ?_
  refine Zy (y_or (Zv rfl) (pk_no rfl (fun _ => rfl))) (Zn (Zt ?_))
  refine wc_cond _ rfl (fun hc4 => ?_) (fun hc4 => ?_)
  · have hc : (e % 2 == 0) = true := hc4
    have hl2 : (some e).bind (look2 L.n M.data va) = none := by (simp only [Option.bind_some]; unfold look2; rw [hc]; rfl)
    rw [hl2]
    refine Zs (Zr (Zg rfl (Zg rfl (Zg rfl (Zn (Zt (Ze (Zw (ret3 (cs' := []) (.inl rfl) Zu rfl rfl rfl rfl ?_)))))))))
    exact ⟨rfl, rfl⟩
  have hc : (e % 2 == 0) = false := hc4
  have hl2 : (some e).bind (look2 L.n M.data va) = (entryOf L.n M.data (at2 e va)).map fun l => (at2 e va, l) := by (simp only [Option.bind_some]; unfold look2; rw [hc]; rfl)
  rw [hl2]
  obtain ⟨e2, he2⟩ : ∃ x, entryOf L.n M.data (at2 e va) = x := ⟨_, rfl⟩
  have HE2 := entry_ok L M (at2 e va) (by unfold at2; omega)
  rw [he2] at HE2 ⊢
  have hat : ((at2 e va : Nat) : Int) = e / 256 * 64 + 4 * ((va / 64 % 16 : Nat) : Int) := (by unfold at2; omega)
  refine Zc (Zt (Zs (Zr (Zm rfl (Zy (y_shr (Zv rfl) (Zv rfl) (by omega) (show _ = e / 256 from shrE _ 8)) ?_)))))
  refine Zy (y_conv rfl rfl (Zv rfl) (by first | exact IntWalk.u64_in _ ⟨by omega, by omega⟩ | exact rfl)) ?_
  refine Zy (y_mul (Zv rfl) (Zv rfl) (show _ = e / 256 * 64 from u64_wrap_id _ (by omega) (by omega))) ?_
  refine Zm rfl (Zy (y_shr (Zv rfl) (Zv rfl) (by omega) (show _ = ((va / 64 : Nat) : Int) from (shrE _ 6).trans (by omega))) ?_)
  refine Zy (y_and_ (Zv rfl) (Zv rfl) (show _ = ((va / 64 % 16 : Nat) : Int) from (and15' ⟨by omega, by omega⟩).trans (by omega))) ?_
  refine Zy (y_mul (Zv rfl) (Zv rfl) (show _ = ((4 * (va / 64 % 16) : Nat) : Int) from (u32_wrap_id _ (by omega) (by omega)).trans (by omega))) ?_
  refine Zy (y_conv rfl rfl (Zv rfl) (by first | exact IntWalk.u64_in _ ⟨by omega, by omega⟩ | exact rfl)) ?_
  refine Zy (y_add (Zv rfl) (Zv rfl) (show _ = ((at2 e va : Nat) : Int) from (u64_wrap_id _ (by omega) (by omega)).trans (by omega))) ?_
  refine Zg rfl (Zn (Zt (Zs ?_)))
  revert HE2 he2
  refine Option.rec (fun he2 HE2 => ?_) (fun l he2 HE2 => ?_) e2
  · refine Zr (Zm rfl (Zm rfl (wl_t (t_call rfl (fun _ _ => rfl) (fun w hi => HE2 w (Chunk.old h hi))) rfl ?_)))
    rintro _ _ ⟨_, ⟨rfl, rfl⟩, rfl⟩
    simp only [entV]
    refine Zm rfl (Zy (y_extractN (Zv rfl) (.zero _ _)) (Zy (y_extractN (Zv rfl) (.succ _ (.zero _ _))) (Zg rfl (Zg rfl (Zn (Zt (Zs (Zs (Zr (Zm rfl (Zy (y_not (Zv rfl) rfl) (Zn (Zt (wc_cond_t rfl (rfl) ?_))))))))))))))
    refine Zs (Zr (Zg rfl (Zg rfl (Zg rfl (Zn (Zt (Ze (Zw (ret3 (cs' := []) (.inl rfl) Zu rfl rfl rfl rfl ?_)))))))))
    exact ⟨rfl, rfl⟩
  refine Zr (Zm rfl (Zm rfl (wl_t (t_call rfl (fun _ _ => rfl) (fun w hi => HE2 w (Chunk.old h hi))) rfl ?_)))
  rintro _ _ ⟨_, ⟨rfl, rfl⟩, rfl⟩
  simp only [entV]
  refine Zm rfl (Zy (y_extractN (Zv rfl) (.zero _ _)) (Zy (y_extractN (Zv rfl) (.succ _ (.zero _ _))) (Zg rfl (Zg rfl (Zn (Zt (Zs (Zs (Zr (Zm rfl (Zy (y_not (Zv rfl) rfl) (Zn (Zt (wc_cond_f rfl (rfl) ?_))))))))))))))
  refine Zc (Zt (Zs (Zr ?_)))
  have h2in := (entryOf_u32 hdb he2).2
  refine Zm rfl (Zy (y_conv rfl rfl (Zv rfl) (u32_wrap_id _ (by omega) (by omega))) ?_)
  refine Zm rfl (Zg rfl (Zg rfl (Zg rfl (Zn (Zt (Ze (ret3 (cs' := []) (.inl rfl) Zu rfl rfl rfl rfl ?_)))))))
  exact ⟨rfl, rfl⟩
theorem wdo_ok (L : MLoc) (M : Mem) (root va : Nat) (hroot : root ≤ 4294967295) (hva : va ≤ 4294967295) (kind : Int) (super : Bool) (w : World) (hi : Inv w (blocks [memC L M]) [memC L M] w) :
    Ctr Tryz.prog 174 [.pointer (some ⟨L.bm, 0, none⟩), .int .u32 root, .int .u32 va, .int .i64 kind, .bool super] w [memC L M] (fun v cs => v = .tuple #[(walkTo L.n M root va kind super).1.1.v, (walkTo L.n M root va kind super).1.2.v] ∧ cs = [memC L (walkTo L.n M root va kind super).2]) := by
  obtain ⟨n1, n64, hdl, hdb, htl⟩ := mem_n (hi.ok _ (List.mem_cons_self ..))
  obtain ⟨fk, hfk⟩ : ∃ x, fault kind = x := ⟨_, rfl⟩
  obtain ⟨wb, hwb⟩ : ∃ x, wbits kind super = x := ⟨_, rfl⟩
  obtain ⟨lk, hlk⟩ : ∃ x, lookUp L.n M.data root va = x := ⟨_, rfl⟩
  have HF := fault_ok kind
  have HB := wbits_ok kind super
  have HL := look_ok L M root va hroot hva
  unfold walkTo
  rw [hfk] at HF ⊢
  rw [hwb] at HB ⊢
  rw [hlk] at HL ⊢
  refine fn_ctr Tryz.func174 rfl Tryz.ntmps174 rfl hi ?_
  refine Zs (Zr (wl_t (t_alloc (fun _ => rfl) rfl) rfl ?_))
  rintro _ _ ⟨b10, rfl, rfl⟩
  refine wl_t (t_alloc (fun _ => rfl) rfl) rfl ?_
  rintro _ _ ⟨b11, rfl, rfl⟩
  refine Zn (Zt (Zs (Zr (Zm rfl (wl_t (t_call rfl (fun _ _ => rfl) (fun w hi => HF w)) rfl ?_)))))
  rintro _ _ ⟨_, ⟨rfl, rfl⟩, rfl⟩
  refine Zg rfl (Zn (Zt (Zs (Zs (Zr (Zm rfl (Zy (y_pnil rfl (Zv rfl)) (Zm rfl (Zyn rfl rfl (y_move (Zv rfl)) ?_)))))))))
  refine Zyn rfl rfl (y_eql (ev_g rfl) (Zv rfl) rfl) ?_
  refine Zy (y_or (Zv rfl) (pk_no rfl (fun _ => rfl))) (Zn (Zt ?_))
  refine wc_cond _ rfl (fun hc2 => ?_) (fun hc2 => ?_)
  · have hc : (fk == 0) = true := hc2
    rw [hc]
    simp only [cond_true]
    refine Zs (Zr (Zy (y_build rfl rfl (fun _ => rfl) rfl rfl rfl Zb) ?_))
    refine Zm rfl (Zy (y_build rfl rfl (fun _ => rfl) rfl rfl rfl Zb) ?_)
    refine wl_t0 (t_storeN (fun _ => rfl) rfl rfl (allT rfl) Za (by exact rfl)) ?_
    rintro _ _ ⟨rfl, rfl⟩
    refine wl_t0 (t_storeN (fun _ => rfl) rfl rfl (allT rfl) Za (by exact rfl)) ?_
    rintro _ _ ⟨rfl, rfl⟩
    refine Zn (Zt (Ze (Zw (retCC (cs' := [exC _ _ _ _]) (.inl rfl) Zu rfl rfl rfl Zh Zh (fun _ => rfl) (fun _ => rfl) (fun _ => rfl) (fun _ => rfl) ?_))))
    exact ⟨rfl, rfl⟩
  have hc : (fk == 0) = false := hc2
  rw [hc]
  simp only [cond_false]
  refine Zc (Zt (Zs (Zr (Zm rfl (Zm rfl (wl_t (t_call rfl (fun _ _ => rfl) (fun w hi => HB w)) rfl ?_))))))
  rintro _ _ ⟨_, ⟨rfl, rfl⟩, rfl⟩
  refine Zg rfl (Zn (Zt (Zs ?_)))
  revert HL hlk
  refine Option.rec (fun hlk HL => ?_) (fun al hlk HL => ?_) lk
  · refine Zr (Zm rfl (Zm rfl (Zm rfl (wl_t (t_call rfl (fun _ _ => rfl) (fun w hi => HL w (hi.get Zh))) rfl ?_))))
    rintro _ _ ⟨_, ⟨rfl, rfl⟩, rfl⟩
    simp only [lookV]
    refine Zm rfl (Zy (y_extractN (Zv rfl) (.zero _ _)) (Zy (y_extractN (Zv rfl) (.succ _ (.zero _ _))) (Zy (y_extractN (Zv rfl) (.succ _ (.succ _ (.zero _ _)))) ?_)))
    refine Zg rfl (Zg rfl (Zg rfl (Zn (Zt (Zs (Zs (Zr (Zm rfl (Zy (y_not (Zv rfl) rfl) (Zm rfl (Zyn rfl rfl (y_move (Zv rfl)) ?_)))))))))))
    refine Zyn rfl rfl (y_move (Zv rfl)) ?_
    refine Zyn rfl rfl (y_and_ (ev_g rfl) (ev_g rfl) rfl) ?_
    refine Zyn rfl rfl (y_move (Zv rfl)) ?_
    refine Zyn rfl rfl (y_neq (ev_g rfl) (ev_g rfl) rfl) ?_
    refine Zy (y_or (Zv rfl) (pk_no rfl (fun _ => rfl))) (Zn (Zt (wc_cond_t rfl (rfl) ?_)))
    refine Zs (Zr (Zy (y_build rfl rfl (fun _ => rfl) rfl rfl rfl Zb) ?_))
    refine Zm rfl (Zm rfl (Zy (y_build rfl rfl (fun _ => rfl) rfl rfl rfl Zb) ?_))
    refine wl_t0 (t_storeN (fun _ => rfl) rfl rfl (allT rfl) Za (by exact rfl)) ?_
    rintro _ _ ⟨rfl, rfl⟩
    refine wl_t0 (t_storeN (fun _ => rfl) rfl rfl (allT rfl) Za (by exact rfl)) ?_
    rintro _ _ ⟨rfl, rfl⟩
    refine Zn (Zt (Ze (Zw (retCC (cs' := [exC _ _ _ _]) (.inl rfl) Zu rfl rfl rfl Zh Zh (fun _ => rfl) (fun _ => rfl) (fun _ => rfl) (fun _ => rfl) ?_))))
    exact ⟨rfl, rfl⟩
  obtain ⟨a, l⟩ := al
  have hin := lookUp_in hdb hlk
  obtain ⟨lu, ain⟩ := hin
  obtain ⟨lu0, lu1⟩ := lu
  have mu := marked_u32 l kind
  simp only
  refine Zr (Zm rfl (Zm rfl (Zm rfl (wl_t (t_call rfl (fun _ _ => rfl) (fun w hi => HL w (hi.get Zh))) rfl ?_))))
  rintro _ _ ⟨_, ⟨rfl, rfl⟩, rfl⟩
  simp only [lookV]
  refine Zm rfl (Zy (y_extractN (Zv rfl) (.zero _ _)) (Zy (y_extractN (Zv rfl) (.succ _ (.zero _ _))) (Zy (y_extractN (Zv rfl) (.succ _ (.succ _ (.zero _ _)))) ?_)))
  refine Zg rfl (Zg rfl (Zg rfl (Zn (Zt (Zs (Zs (Zr (Zm rfl (Zy (y_not (Zv rfl) rfl) (Zm rfl (Zyn rfl rfl (y_move (Zv rfl)) ?_)))))))))))
  refine Zyn rfl rfl (y_move (Zv rfl)) ?_
  refine Zyn rfl rfl (y_and_ (ev_g rfl) (ev_g rfl) rfl) ?_
  refine Zyn rfl rfl (y_move (Zv rfl)) ?_
  refine Zyn rfl rfl (y_neq (ev_g rfl) (ev_g rfl) rfl) ?_
  refine Zy (y_or (Zv rfl) (pk_no rfl (fun _ => rfl))) (Zn (Zt ?_))
  refine wc_cond _ rfl (fun hc6 => ?_) (fun hc6 => ?_)
  · have hc6' : (bits .and .u32 l wb != wb) = true := hc6
    rw [hc6']
    simp only [cond_true]
    refine Zs (Zr (Zy (y_build rfl rfl (fun _ => rfl) rfl rfl rfl Zb) ?_))
    refine Zm rfl (Zm rfl (Zy (y_build rfl rfl (fun _ => rfl) rfl rfl rfl Zb) ?_))
    refine wl_t0 (t_storeN (fun _ => rfl) rfl rfl (allT rfl) Za (by exact rfl)) ?_
    rintro _ _ ⟨rfl, rfl⟩
    refine wl_t0 (t_storeN (fun _ => rfl) rfl rfl (allT rfl) Za (by exact rfl)) ?_
    rintro _ _ ⟨rfl, rfl⟩
    refine Zn (Zt (Ze (Zw (retCC (cs' := [exC _ _ _ _]) (.inl rfl) Zu rfl rfl rfl Zh Zh (fun _ => rfl) (fun _ => rfl) (fun _ => rfl) (fun _ => rfl) ?_))))
    exact ⟨rfl, rfl⟩
  have hc6' : (bits .and .u32 l wb != wb) = false := hc6
  rw [hc6']
  simp only [cond_false]
  refine Zc (Zt (Zs (Zr (Zm rfl (Zg rfl (Zn (Zt (Zs (Zr (Zm rfl (Zy (y_or_ (Zv rfl) (Zv rfl) rfl) ?_)))))))))))
  refine Zg rfl (Zn (Zt (Zs (Zs (Zr (Zm rfl (Zy (y_eql (Zv rfl) (Zv rfl) rfl) (Zn (Zt ?_)))))))))
  refine wc_cond _ rfl (fun hc10 => ?_) (fun hc10 => ?_)
  · have hm : marked l kind = bits .or .u32 (bits .or .u32 l 32) 64 := by (unfold marked; rw [hc10]; rfl)
    rw [hm] at mu ⊢
    obtain ⟨m, hmm⟩ : ∃ x, bits .or .u32 (bits .or .u32 l 32) 64 = x := ⟨_, rfl⟩
    refine Zr (Zm rfl (Zy (y_or_ (Zv rfl) (Zv rfl) rfl) ?_))
    refine Zg rfl (Zn (Zt (Zs (Zs (Zr ?_)))))
    rw [hmm] at mu ⊢
    refine Zm rfl (Zm rfl (Zy (y_neq (Zv rfl) (Zv rfl) rfl) (Zn (Zt ?_))))
    refine wc_cond _ rfl (fun hc12 => ?_) (fun hc12 => ?_)
    · rw [hc12]
      simp only [cond_true]
      refine Zr (Zm rfl (Zm rfl (Zm rfl (wl_t (t_callS ([memC L M]) rfl (fun _ _ => rfl) Zi (fun w hi hin => rputword_ok L M a m ain mu w hin)) rfl ?_))))
      rintro _ _ ⟨_, ⟨rfl, rfl⟩, rfl⟩
      refine Zn (Zt (Zs (Zr (Zm rfl (Zy (y_quo (Zv rfl) (Zv rfl) (by omega) (show _ = ((va / 64 : Nat) : Int) from by rw [Int.tdiv_eq_ediv_of_nonneg (by omega), u32_wrap_id _ (by omega) (by omega)]; omega)) ?_)))))
      refine Zm rfl (Zy (y_shr (Zv rfl) (Zv rfl) (by omega) (show _ = m / 256 from shrE _ 8)) ?_)
      refine Zm rfl (Zy (y_and_ (Zv rfl) (Zv rfl) rfl) ?_)
      refine Zy (y_build rfl rfl (fun _ => rfl) rfl rfl rfl Zb) ?_
      refine Zy (y_build rfl rfl (fun _ => rfl) rfl rfl rfl Zb) ?_
      refine wl_t0 (t_storeN (fun _ => rfl) rfl rfl (allT rfl) Za (by exact rfl)) ?_
      rintro _ _ ⟨rfl, rfl⟩
      refine wl_t0 (t_storeN (fun _ => rfl) rfl rfl (allT rfl) Za (by exact rfl)) ?_
      rintro _ _ ⟨rfl, rfl⟩
      refine Zn (Zt (Ze (retCC (cs' := [exC _ _ _ _]) (.inl rfl) Zu rfl rfl rfl Zh Zh (fun _ => rfl) (fun _ => rfl) (fun _ => rfl) (fun _ => rfl) ?_)))
      exact ⟨rfl, rfl⟩
    rw [hc12]
    simp only [cond_false]
    refine Zc (Zt (Zs (Zr (Zm rfl (Zy (y_quo (Zv rfl) (Zv rfl) (by omega) (show _ = ((va / 64 : Nat) : Int) from by rw [Int.tdiv_eq_ediv_of_nonneg (by omega), u32_wrap_id _ (by omega) (by omega)]; omega)) ?_)))))
    refine Zm rfl (Zy (y_shr (Zv rfl) (Zv rfl) (by omega) (show _ = m / 256 from shrE _ 8)) ?_)
    refine Zm rfl (Zy (y_and_ (Zv rfl) (Zv rfl) rfl) ?_)
    refine Zy (y_build rfl rfl (fun _ => rfl) rfl rfl rfl Zb) ?_
    refine Zy (y_build rfl rfl (fun _ => rfl) rfl rfl rfl Zb) ?_
    refine wl_t0 (t_storeN (fun _ => rfl) rfl rfl (allT rfl) Za (by exact rfl)) ?_
    rintro _ _ ⟨rfl, rfl⟩
    refine wl_t0 (t_storeN (fun _ => rfl) rfl rfl (allT rfl) Za (by exact rfl)) ?_
    rintro _ _ ⟨rfl, rfl⟩
    refine Zn (Zt (Ze (retCC (cs' := [exC _ _ _ _]) (.inl rfl) Zu rfl rfl rfl Zh Zh (fun _ => rfl) (fun _ => rfl) (fun _ => rfl) (fun _ => rfl) ?_)))
    exact ⟨rfl, rfl⟩
  have hm : marked l kind = bits .or .u32 l 32 := by (unfold marked; rw [hc10]; rfl)
  rw [hm] at mu ⊢
  obtain ⟨m, hmm⟩ : ∃ x, bits .or .u32 l 32 = x := ⟨_, rfl⟩
  refine Zc (Zt (Zs (Zs (Zr ?_))))
  rw [hmm] at mu ⊢
  refine Zm rfl (Zm rfl (Zy (y_neq (Zv rfl) (Zv rfl) rfl) (Zn (Zt ?_))))
  refine wc_cond _ rfl (fun hc12 => ?_) (fun hc12 => ?_)
  · rw [hc12]
    simp only [cond_true]
    refine Zr (Zm rfl (Zm rfl (Zm rfl (wl_t (t_callS ([memC L M]) rfl (fun _ _ => rfl) Zi (fun w hi hin => rputword_ok L M a m ain mu w hin)) rfl ?_))))
    rintro _ _ ⟨_, ⟨rfl, rfl⟩, rfl⟩
    refine Zn (Zt (Zs (Zr (Zm rfl (Zy (y_quo (Zv rfl) (Zv rfl) (by omega) (show _ = ((va / 64 : Nat) : Int) from by rw [Int.tdiv_eq_ediv_of_nonneg (by omega), u32_wrap_id _ (by omega) (by omega)]; omega)) ?_)))))
    refine Zm rfl (Zy (y_shr (Zv rfl) (Zv rfl) (by omega) (show _ = m / 256 from shrE _ 8)) ?_)
    refine Zm rfl (Zy (y_and_ (Zv rfl) (Zv rfl) rfl) ?_)
    refine Zy (y_build rfl rfl (fun _ => rfl) rfl rfl rfl Zb) ?_
    refine Zy (y_build rfl rfl (fun _ => rfl) rfl rfl rfl Zb) ?_
    refine wl_t0 (t_storeN (fun _ => rfl) rfl rfl (allT rfl) Za (by exact rfl)) ?_
    rintro _ _ ⟨rfl, rfl⟩
    refine wl_t0 (t_storeN (fun _ => rfl) rfl rfl (allT rfl) Za (by exact rfl)) ?_
    rintro _ _ ⟨rfl, rfl⟩
    refine Zn (Zt (Ze (retCC (cs' := [exC _ _ _ _]) (.inl rfl) Zu rfl rfl rfl Zh Zh (fun _ => rfl) (fun _ => rfl) (fun _ => rfl) (fun _ => rfl) ?_)))
    exact ⟨rfl, rfl⟩
  rw [hc12]
  simp only [cond_false]
  refine Zc (Zt (Zs (Zr (Zm rfl (Zy (y_quo (Zv rfl) (Zv rfl) (by omega) (show _ = ((va / 64 : Nat) : Int) from by rw [Int.tdiv_eq_ediv_of_nonneg (by omega), u32_wrap_id _ (by omega) (by omega)]; omega)) ?_)))))
  refine Zm rfl (Zy (y_shr (Zv rfl) (Zv rfl) (by omega) (show _ = m / 256 from shrE _ 8)) ?_)
  refine Zm rfl (Zy (y_and_ (Zv rfl) (Zv rfl) rfl) ?_)
  refine Zy (y_build rfl rfl (fun _ => rfl) rfl rfl rfl Zb) ?_
  refine Zy (y_build rfl rfl (fun _ => rfl) rfl rfl rfl Zb) ?_
  refine wl_t0 (t_storeN (fun _ => rfl) rfl rfl (allT rfl) Za (by exact rfl)) ?_
  rintro _ _ ⟨rfl, rfl⟩
  refine wl_t0 (t_storeN (fun _ => rfl) rfl rfl (allT rfl) Za (by exact rfl)) ?_
  rintro _ _ ⟨rfl, rfl⟩
  refine Zn (Zt (Ze (retCC (cs' := [exC _ _ _ _]) (.inl rfl) Zu rfl rfl rfl Zh Zh (fun _ => rfl) (fun _ => rfl) (fun _ => rfl) (fun _ => rfl) ?_)))
  exact ⟨rfl, rfl⟩
end Go.Proofs.YtobjiljkfmcalaaGreat
