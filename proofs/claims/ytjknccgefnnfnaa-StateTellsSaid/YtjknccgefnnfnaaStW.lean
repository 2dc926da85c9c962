/- The reader's number and stack; Decode; Cut. -/
import Derived.Test.YtjknccgefnnfnaaStV
set_option linter.unusedSimpArgs false
set_option linter.unusedVariables false
namespace Go.Ink
open Go.RowKit
/-- What the k-th to the last of so many u8s make. -/
theorem leV_step {l : List Int} (hb : u8s l) (hl : l.length ≤ 4) {k : Nat} (h : k < l.length) : bits .or .u32 (IntKind.u32.wrap (leV (l.drop (k + 1)) * 2 ^ (min (8 : Int).toNat IntKind.u32.bits))) (IntKind.u32.wrap (l[k]'h)) = leV (l.drop k) := by
  have h1 := leV_rng (bytes_drop hb (k + 1))
  have h2 := hb _ (List.getElem_mem h)
  have h3 : (l.drop (k + 1)).length ≤ 3 := by rw [List.length_drop]; omega
  have e : l.drop k = l[k]'h :: l.drop (k + 1) := List.drop_eq_getElem_cons h
  rw [e]
  simp only [leV]
  generalize leV (l.drop (k + 1)) = v at h1
  generalize (l.drop (k + 1)).length = m at h1 h3
  have hv : 0 ≤ v ∧ v < 16777216 := by
    obtain rfl | rfl | rfl | rfl : m = 0 ∨ m = 1 ∨ m = 2 ∨ m = 3 := by omega
    all_goals (simp at h1; omega)
  have e1 : (2 : Int) ^ (min (8 : Int).toNat IntKind.u32.bits) = 256 := rfl
  rw [e1, u32_wrap_id _ (by omega) (by omega), u32_wrap_id _ (by omega) (by omega)]
  rw [bits_join .u32 32 (by decide) wraps_u32 8 (v * 256) _ (by omega) (by omega) (by omega) (by omega) (by omega) (by omega)]
  omega
theorem RdV.drop_ {w : World} {n c : Nat} {A : Option Addr} {xs : List Value} (h : RdV w 1 A n c xs) {k : Nat} (hk : k ≤ n) : RdV w 1 (if c = k then A else A.map (·.add (k * 1))) (n - k) (c - k) (xs.drop k) := by
  have hl := h.len
  have := h.cut (lo := k) (hi := n) hk (Nat.le_refl _)
  rw [List.take_of_length_le (by omega)] at this
  exact this
theorem RdV.take_ {w : World} {n c : Nat} {A : Option Addr} {xs : List Value} (h : RdV w 1 A n c xs) {k : Nat} (hk : k ≤ n) : RdV w 1 A k c (xs.take k) := by
  have hl := h.len
  have hc := h.cap
  refine ⟨by rw [List.length_take]; omega, by omega, h.max, fun e => ?_, fun ad e j u hu => ?_⟩
  · have := h.nil e; omega
  · rw [List.getElem?_take] at hu
    split at hu
    · exact h.at_ ad e j u hu
    · cases hu
theorem Rd.len' {w : World} {k : IntKind} {n c : Nat} {A : Option Addr} {xs : List Int} (h : Rd w k A n c xs) : xs.length = n := by
  have := h.len
  rw [ints_length] at this
  omega
/-- Whatever reads as the first reads as the second, too. -/
def Sub (A : Option Addr) (c : Nat) (xs : List Int) (A' : Option Addr) (c' : Nat) (xs' : List Int) : Prop := ∀ w, Rd w .u8 A xs.length c xs → Rd w .u8 A' xs'.length c' xs'
theorem Sub.refl (A : Option Addr) (c : Nat) (xs : List Int) : Sub A c xs A c xs := fun _ h => h
theorem Sub.trans {A A' A2 : Option Addr} {c c' c2 : Nat} {xs xs' xs2 : List Int} (h : Sub A c xs A' c' xs') (h' : Sub A' c' xs' A2 c2 xs2) : Sub A c xs A2 c2 xs2 := fun w hw => h' w (h w hw)
theorem rd_nil (w : World) (k : IntKind) : Rd w k none 0 0 [] := ⟨by simp [ints], Nat.le_refl _, by decide, fun _ => ⟨rfl, rfl⟩, fun _ h => by cases h⟩
theorem Keep.trans {S : List Nat} {w w' w2 : World} (h : Keep S w w') (h' : Keep S w' w2) : Keep S w w2 :=
  ⟨h'.os.trans h.os, h'.tape.trans h.tape, h'.output.trans h.output, Nat.le_trans h.size h'.size, fun b hb hS => (h'.block b (Nat.lt_of_lt_of_le hb h.size) hS).trans (h.block b hb hS)⟩
theorem Sub.nil (A : Option Addr) (c : Nat) (xs : List Int) : Sub A c xs none 0 [] := fun w _ => rd_nil w .u8
theorem Sub.drop (A : Option Addr) (c : Nat) (xs : List Int) {k : Nat} (hk : k ≤ xs.length) : Sub A c xs (if c = k then A else A.map (·.add (k * 1))) (c - k) (xs.drop k) := fun w h => by
  have := h.drop_ hk
  rw [ints_drop] at this
  rw [List.length_drop]
  exact this
theorem bit_of : ∀ v : Fin 256, (bits .and .u32 (v.val : Int) 1 != 0) = bit v.val 0 ∧ (bits .and .u32 (v.val : Int) 2 != 0) = bit v.val 1 ∧ (bits .and .u32 (v.val : Int) 4 != 0) = bit v.val 2 ∧ (bits .and .u32 (v.val : Int) 8 != 0) = bit v.val 3 ∧ (bits .and .u32 (v.val : Int) 16 != 0) = bit v.val 4 ∧ (bits .and .u32 (v.val : Int) 32 != 0) = bit v.val 5 := by decide +kernel
theorem bit_at {v : Int} (h : 0 ≤ v ∧ v ≤ 255) : (bits .and .u32 v 1 != 0) = bit v 0 ∧ (bits .and .u32 v 2 != 0) = bit v 1 ∧ (bits .and .u32 v 4 != 0) = bit v 2 ∧ (bits .and .u32 v 8 != 0) = bit v 3 ∧ (bits .and .u32 v 16 != 0) = bit v 4 ∧ (bits .and .u32 v 32 != 0) = bit v 5 := by
  obtain ⟨h0, h1⟩ := h
  obtain ⟨n, rfl⟩ := Int.eq_ofNat_of_zero_le h0
  exact bit_of ⟨n, by omega⟩
def dec (b : List Int) : St := bif bad b then St.zero else raw b
def decE (b : List Int) : Int := bif bad b then 12 else 0
theorem rnum_lack {n : Nat} {l : List Int} {b : Bool} (h : l.length < n) : rnum n (l, b) = (0, [], true) := by simp [rnum, h]
theorem rnum_there {n : Nat} {l : List Int} {b : Bool} (h : ¬ l.length < n) : rnum n (l, b) = (leV (l.take n), l.drop n, b) := by simp [rnum, h]
end Go.Ink
namespace Go.Proofs.Ytjknccgefnnfnaa
open Go.RowKit Go.Ink

abbrev rdr (bb : Nat) (A : Option Addr) (c : Nat) (r : Rdr) : Chunk := row bb [.slice A r.1.length c, .bool r.2] 58
set_option maxRecDepth 100000 in
theorem rnumber_ok (bb : Nat) (A : Option Addr) (c : Nat) (r : Rdr) (n : Nat) (q : Int × Rdr) (hq : rnum n r = q) (hn : 1 ≤ n ∧ n ≤ 4) (hb : u8s r.1) (w : World) (hi : Inv w (blocks [rdr bb A c r]) [rdr bb A c r] w) (h : ∀ w', Keep (blocks [rdr bb A c r]) w w' → Rd w' .u8 A r.1.length c r.1) :
    Ctr Try.prog 31 [.pointer (some ⟨bb, 0, none⟩), .int .i64 n] w [rdr bb A c r] (fun v cs => ∃ c1, cs = [c1] ∧ ∃ A' cc, v = .int .u32 q.1 ∧ Sub A c r.1 A' cc q.2.1 ∧ c1 = rdr bb A' cc q.2) := by
  subst hq
  obtain ⟨xs, bad⟩ := r
  obtain ⟨n1, n4⟩ := hn
  have hw := h w (Keep.refl _ _)
  have hm := hw.max
  have hc := hw.cap
  simp only [maxLen] at hm
  simp only at hb hc
  refine fn_ctr Try.func31 rfl Try.ntmps31 rfl hi ?_
  refine wc_seq ?_
  refine wc_region ?_
  refine wl_y (y_assign (ev_rfl rfl)) (fun _ _ => trivial) rfl ?_
  refine wl_nil ?_
  refine q_then ?_
  refine wc_seq ?_
  refine wc_seq ?_
  refine wc_region ?_
  refine wl_y (y_move (ev_rfl rfl)) (fun _ _ => trivial) rfl ?_
  refine wl_y (y_nil (ev_rfl rfl)) (fun _ _ => trivial) rfl ?_
  refine wl_y (y_field 0 rfl (ev_rfl rfl) (by first | exact Nat.zero_add _ | exact rfl)) (fun _ _ => trivial) rfl ?_
  refine wl_y (y_load (fun _ => rfl) (ev_rfl rfl)) (row_cell (by first | exact hasC0 | exact hasC1 | exact hasC2 | exact hasC3 | exact hasC4 | exact hasC5 | exact hasC6 | exact hasC7 | exact hasC8 | exact hasC9 | exact hasC10 | exact hasC11 | exact hasC12 | exact hasC13 | exact hasC14 | exact hasC15 | exact hasC16 | exact hasC17 | exact hasC18 | exact hasC19 | exact hasC20 | exact hasC21 | exact hasC22 | exact hasC23) rfl) rfl ?_
  refine wl_y (y_len ⟨_, rfl⟩ (ev_rfl rfl)) (fun _ _ => trivial) rfl ?_
  refine wl_y (y_move (ev_rfl rfl)) (fun _ _ => trivial) rfl ?_
  refine wl_y (y_lss (ev_rfl rfl) (ev_rfl rfl) rfl) (fun _ _ => trivial) rfl ?_
  refine wl_nil ?_
  refine q_then ?_
  refine wc_cond _ rfl (fun hc1 => ?_) (fun hc1 => ?_)
  · have hlt : xs.length < n := by (simp only [decide_eq_true_eq] at hc1; omega)
    refine wc_seq ?_
    refine wc_region ?_
    refine wl_y (y_move (ev_rfl rfl)) (fun _ _ => trivial) rfl ?_
    refine wl_y (y_move (ev_rfl rfl)) (fun _ _ => trivial) rfl ?_
    refine wl_y (y_nil (ev_rfl rfl)) (fun _ _ => trivial) rfl ?_
    refine wl_y (y_field 0 rfl (ev_rfl rfl) (by first | exact Nat.zero_add _ | exact rfl)) (fun _ _ => trivial) rfl ?_
    refine wl_t0 (t_store (fun _ => rfl) rfl rfl rfl (by first | exact atC0 | exact atC1 | exact atC2 | exact atC3 | exact atC4 | exact atC5 | exact atC6 | exact atC7 | exact atC8 | exact atC9 | exact atC10 | exact atC11 | exact atC12 | exact atC13 | exact atC14 | exact atC15 | exact atC16 | exact atC17 | exact atC18 | exact atC19 | exact atC20 | exact atC21 | exact atC22 | exact atC23) (by (repeat (first | exact SetAt.zero _ _ _ | apply SetAt.succ)))) ?_
    rintro _ _ ⟨rfl, rfl⟩
    refine wl_y (y_nil (ev_rfl rfl)) (fun _ _ => trivial) rfl ?_
    refine wl_y (y_field 1 rfl (ev_rfl rfl) (by first | exact Nat.zero_add _ | exact rfl)) (fun _ _ => trivial) rfl ?_
    refine wl_t0 (t_store (fun _ => rfl) rfl rfl rfl (by first | exact atC0 | exact atC1 | exact atC2 | exact atC3 | exact atC4 | exact atC5 | exact atC6 | exact atC7 | exact atC8 | exact atC9 | exact atC10 | exact atC11 | exact atC12 | exact atC13 | exact atC14 | exact atC15 | exact atC16 | exact atC17 | exact atC18 | exact atC19 | exact atC20 | exact atC21 | exact atC22 | exact atC23) (by (repeat (first | exact SetAt.zero _ _ _ | apply SetAt.succ)))) ?_
    rintro _ _ ⟨rfl, rfl⟩
    refine wl_nil ?_
    refine q_then ?_
    refine wc_seq ?_
    refine wc_region ?_
    refine wl_y (y_assign (ev_rfl rfl)) (fun _ _ => trivial) rfl ?_
    refine wl_nil ?_
    refine q_then ?_
    refine wc_ret ?_
    refine q_then_ret ?_
    refine ret1 (cs' := [row _ _ _]) (.inl rfl) (by ((repeat (first | exact List.Sublist.slnil | refine List.Sublist.cons_cons _ ?_ | refine List.Sublist.cons _ ?_)))) rfl rfl ?_
    rw [rnum_lack hlt]
    exact ⟨_, rfl, none, 0, rfl, Sub.nil _ _ _, rfl⟩
  · have hlt : ¬ xs.length < n := by (simp only [decide_eq_false_iff_not] at hc1; omega)
    obtain ⟨ad, rfl⟩ := hw.some_ (show 0 < xs.length by omega)
    refine wc_skip ?_
    refine q_then ?_
    refine wc_seq ?_
    refine wc_region ?_
    have e0 : (0 : Int) = leV ((xs.take n).drop n) := by (rw [List.drop_eq_nil_of_le (by rw [List.length_take]; omega)]; rfl)
    refine wl_y (y_assign (ev_rfl rfl)) (fun _ _ => trivial) rfl ?_
    refine wl_nil ?_
    refine q_then ?_
    refine wc_seq ?_
    refine wc_seq ?_
    refine wc_region ?_
    refine wl_y (y_move (ev_rfl rfl)) (fun _ _ => trivial) rfl ?_
    refine wl_y (y_sub (ev_rfl rfl) (ev_rfl rfl) (by first | exact IntWalk.i64_in _ ⟨by omega, by omega⟩ | exact rfl)) (fun _ _ => trivial) rfl ?_
    refine wl_y (y_assign (ev_rfl rfl)) (fun _ _ => trivial) rfl ?_
    refine wl_nil ?_
    refine q_then ?_
    refine wc_block ?_
    refine wc_loop (fun k : Nat => [(0, .pointer (some ⟨bb, 0, none⟩)), (1, .int .i64 n), (5, .int .u32 (leV ((xs.take n).drop k))), (6, .int .i64 ((k : Int) - 1))]) (fun _ => [rdr bb (some ad) c (xs, bad)]) (fun k => k ≤ n) (fun k => k) (n) ?_ ?_ ?_ ?_
    · exact Nat.le_refl _
    · ((repeat' (refine Wk.cons ?_ ?_)) <;> first | exact Wk.nil | exact rfl | exact trivial | exact wk_num rfl (by omega) | exact wk_num rfl (by simp))
    · ((repeat (first | exact List.Sublist.slnil | refine List.Sublist.cons_cons _ ?_ | refine List.Sublist.cons _ ?_)))
    · rintro k hk
      refine wc_seq ?_
      refine wc_seq ?_
      refine wc_region ?_
      refine wl_y (y_move (ev_rfl rfl)) (fun _ _ => trivial) rfl ?_
      refine wl_y (y_geq (ev_rfl rfl) (ev_rfl rfl) rfl) (fun _ _ => trivial) rfl ?_
      refine wl_nil ?_
      refine q_then ?_
      refine wc_cond _ rfl (fun hc6 => ?_) (fun hc6 => ?_)
      · simp only [decide_eq_true_eq] at hc6
        obtain ⟨j, rfl⟩ : ∃ j, k = j + 1 := ⟨k - 1, by omega⟩
        have hjl : j < (xs.take n).length := by (rw [List.length_take]; omega)
        have hjx : j < xs.length := by omega
        refine wc_skip ?_
        refine q_then ?_
        refine wc_seq ?_
        refine wc_block ?_
        refine wc_region ?_
        refine wl_y (y_move (ev_rfl rfl)) (fun _ _ => trivial) rfl ?_
        refine wl_y (y_shl (ev_rfl rfl) (ev_rfl rfl) (by omega) rfl) (fun _ _ => trivial) rfl ?_
        refine wl_y (y_move (ev_rfl rfl)) (fun _ _ => trivial) rfl ?_
        refine wl_y (y_nil (ev_rfl rfl)) (fun _ _ => trivial) rfl ?_
        refine wl_y (y_field 0 rfl (ev_rfl rfl) (by first | exact Nat.zero_add _ | exact rfl)) (fun _ _ => trivial) rfl ?_
        refine wl_y (y_load (fun _ => rfl) (ev_rfl rfl)) (row_cell (by first | exact hasC0 | exact hasC1 | exact hasC2 | exact hasC3 | exact hasC4 | exact hasC5 | exact hasC6 | exact hasC7 | exact hasC8 | exact hasC9 | exact hasC10 | exact hasC11 | exact hasC12 | exact hasC13 | exact hasC14 | exact hasC15 | exact hasC16 | exact hasC17 | exact hasC18 | exact hasC19 | exact hasC20 | exact hasC21 | exact hasC22 | exact hasC23) rfl) rfl ?_
        refine wl_y (y_move (ev_rfl rfl)) (fun _ _ => trivial) rfl ?_
        refine wl_y (y_index (j := j)  rfl (fun _ => rfl) (ev_rfl rfl) (ev_rfl rfl)  (fun _ => by omega) (fun _ => hjx)) (fun _ _ => trivial) rfl ?_
        refine wl_y (y_load (fun _ => rfl) (ev_rfl rfl)) (rd_cellK h (show (ints .u8 xs)[j]? = some (.int .u8 ((xs.take n)[j]'hjl)) from by rw [ints_get (show j < xs.length by omega)]; simp [List.getElem_take])) rfl ?_
        refine wl_y (y_conv rfl rfl (ev_rfl rfl) rfl) (fun _ _ => trivial) rfl ?_
        refine wl_y (y_or_ (ev_rfl rfl) (ev_rfl rfl) (leV_step (bytes_take hb n) (by rw [List.length_take]; omega) hjl)) (fun _ _ => trivial) rfl ?_
        refine wl_y (y_assign (ev_rfl rfl)) (fun _ _ => trivial) rfl ?_
        refine wl_nil ?_
        refine q_block ?_
        refine q_then ?_
        refine wc_region ?_
        refine wl_y (y_move (ev_rfl rfl)) (fun _ _ => trivial) rfl ?_
        refine wl_y (y_sub (ev_rfl rfl) (ev_rfl rfl) (by first | exact IntWalk.i64_in _ ⟨by omega, by omega⟩ | exact rfl)) (fun _ _ => trivial) rfl ?_
        refine wl_y (y_assign (ev_rfl rfl)) (fun _ _ => trivial) rfl ?_
        refine wl_nil ?_
        refine q_mid (j) ?_ ?_ ?_
        · exact ⟨by omega, by omega⟩
        · ((repeat' (refine Wk.cons ?_ ?_)) <;> first | exact Wk.nil | exact rfl | exact trivial | exact wk_num rfl (by omega) | exact wk_num rfl (by simp))
        · ((repeat (first | exact List.Sublist.slnil | refine List.Sublist.cons_cons _ ?_ | refine List.Sublist.cons _ ?_)))
      · simp only [decide_eq_false_iff_not] at hc6
        obtain rfl : k = 0 := by omega
        refine wc_exit ?_
        refine q_then_exit ?_
        refine q_then_exit ?_
        refine q_block_same rfl ?_
        refine q_then ?_
        refine wc_seq ?_
        refine wc_region ?_
        refine wl_y (y_move (ev_rfl rfl)) (fun _ _ => trivial) rfl ?_
        refine wl_y (y_move (ev_rfl rfl)) (fun _ _ => trivial) rfl ?_
        refine wl_y (y_nil (ev_rfl rfl)) (fun _ _ => trivial) rfl ?_
        refine wl_y (y_field 0 rfl (ev_rfl rfl) (by first | exact Nat.zero_add _ | exact rfl)) (fun _ _ => trivial) rfl ?_
        refine wl_y (y_load (fun _ => rfl) (ev_rfl rfl)) (row_cell (by first | exact hasC0 | exact hasC1 | exact hasC2 | exact hasC3 | exact hasC4 | exact hasC5 | exact hasC6 | exact hasC7 | exact hasC8 | exact hasC9 | exact hasC10 | exact hasC11 | exact hasC12 | exact hasC13 | exact hasC14 | exact hasC15 | exact hasC16 | exact hasC17 | exact hasC18 | exact hasC19 | exact hasC20 | exact hasC21 | exact hasC22 | exact hasC23) rfl) rfl ?_
        refine wl_y (y_move (ev_rfl rfl)) (fun _ _ => trivial) rfl ?_
        refine wl_y (y_slice (lo := n) (hi := xs.length) rfl (fun _ => rfl) (ev_rfl rfl) (.inr ⟨_, _, rfl, (ev_rfl rfl)⟩) (.inl ⟨rfl, rfl⟩) (by omega) (by omega)) (fun _ _ => trivial) rfl ?_
        refine wl_y (y_nil (ev_rfl rfl)) (fun _ _ => trivial) rfl ?_
        refine wl_y (y_field 0 rfl (ev_rfl rfl) (by first | exact Nat.zero_add _ | exact rfl)) (fun _ _ => trivial) rfl ?_
        refine wl_t0 (t_store (fun _ => rfl) rfl rfl rfl (by first | exact atC0 | exact atC1 | exact atC2 | exact atC3 | exact atC4 | exact atC5 | exact atC6 | exact atC7 | exact atC8 | exact atC9 | exact atC10 | exact atC11 | exact atC12 | exact atC13 | exact atC14 | exact atC15 | exact atC16 | exact atC17 | exact atC18 | exact atC19 | exact atC20 | exact atC21 | exact atC22 | exact atC23) (by (repeat (first | exact SetAt.zero _ _ _ | apply SetAt.succ)))) ?_
        rintro _ _ ⟨rfl, rfl⟩
        refine wl_nil ?_
        refine q_then ?_
        refine wc_seq ?_
        refine wc_region ?_
        refine wl_y (y_move (ev_rfl rfl)) (fun _ _ => trivial) rfl ?_
        refine wl_y (y_assign (ev_rfl rfl)) (fun _ _ => trivial) rfl ?_
        refine wl_nil ?_
        refine q_then ?_
        refine wc_ret ?_
        refine ret1 (cs' := [row _ _ _]) (.inl rfl) (by ((repeat (first | exact List.Sublist.slnil | refine List.Sublist.cons_cons _ ?_ | refine List.Sublist.cons _ ?_)))) rfl rfl ?_
        rw [rnum_there hlt]
        refine ⟨_, rfl, _, _, rfl, Sub.drop (some ad) c xs (k := n) (by omega), ?_⟩
        show _ = row bb [.slice _ (xs.drop n).length _, .bool bad] _
        rw [List.length_drop]
        rfl

set_option maxRecDepth 100000 in
theorem rstack_ok (bb : Nat) (A : Option Addr) (c : Nat) (r : Rdr) (q : List Int × Rdr) (hq : rstack r = q) (hb : u8s r.1) (w : World) (hi : Inv w (blocks [rdr bb A c r]) [rdr bb A c r] w) (h : ∀ w', Keep (blocks [rdr bb A c r]) w w' → Rd w' .u8 A r.1.length c r.1) :
    Ctr Try.prog 32 [.pointer (some ⟨bb, 0, none⟩)] w [rdr bb A c r] (fun v cs => ∃ c1 news, cs = c1 :: news ∧ ∃ A' cc Ao co, v = .slice Ao q.1.length co ∧ Sub A c r.1 A' cc q.2.1 ∧ c1 = rdr bb A' cc q.2 ∧ news = [sl .u32 22 Ao q.1.length co q.1]) := by
  have n0 := rnum_rng (n := 4) hb (by omega)
  have nb := rnum_bytes (n := 4) hb
  obtain ⟨m, hm⟩ : ∃ m, rnum 4 r = m := ⟨_, rfl⟩
  unfold rstack at hq
  rw [hm] at hq n0 nb
  obtain ⟨N, hN⟩ := Int.eq_ofNat_of_zero_le n0.1
  have hN' : m.1.toNat = N := by omega
  rw [hN'] at hq
  obtain ⟨n00, n01⟩ := n0
  refine fn_ctr Try.func32 rfl Try.ntmps32 rfl hi ?_
  refine wc_seq ?_
  refine wc_region ?_
  refine wl_y (y_assign (ev_rfl rfl)) (fun _ _ => trivial) rfl ?_
  refine wl_nil ?_
  refine q_then ?_
  refine wc_seq ?_
  refine wc_region ?_
  refine wl_y (y_assign (ev_rfl rfl)) (fun _ _ => trivial) rfl ?_
  refine wl_nil ?_
  refine q_then ?_
  refine wc_seq ?_
  refine wc_region ?_
  refine wl_y (y_move (ev_rfl rfl)) (fun _ _ => trivial) rfl ?_
  refine wl_t (t_call1s rfl (fun _ _ => rfl) (by first | exact atC0 | exact atC1 | exact atC2 | exact atC3 | exact atC4 | exact atC5 | exact atC6 | exact atC7 | exact atC8 | exact atC9 | exact atC10 | exact atC11 | exact atC12 | exact atC13 | exact atC14 | exact atC15 | exact atC16 | exact atC17 | exact atC18 | exact atC19 | exact atC20 | exact atC21 | exact atC22 | exact atC23) (fun w hi => (rnumber_ok bb A c r 4 m hm ⟨by omega, by omega⟩ hb w (hi.one (by first | exact hasC0 | exact hasC1 | exact hasC2 | exact hasC3 | exact hasC4 | exact hasC5 | exact hasC6 | exact hasC7 | exact hasC8 | exact hasC9 | exact hasC10 | exact hasC11 | exact hasC12 | exact hasC13 | exact hasC14 | exact hasC15 | exact hasC16 | exact hasC17 | exact hasC18 | exact hasC19 | exact hasC20 | exact hasC21 | exact hasC22 | exact hasC23)) (fun w' hk => h w' (hi.keep.trans hk))))) rfl ?_
  rintro _ _ ⟨_, ⟨A1, c1, rfl, hsub, rfl⟩, rfl⟩
  refine wl_y (y_assign (ev_rfl rfl)) (fun _ _ => trivial) rfl ?_
  refine wl_nil ?_
  refine q_then ?_
  refine wc_seq ?_
  refine wc_region ?_
  rw [hN]
  refine wl_y (y_move (ev_rfl rfl)) (fun _ _ => trivial) rfl ?_
  refine wl_y (y_move (ev_rfl rfl)) (fun _ _ => trivial) rfl ?_
  refine wl_y (y_nil (ev_rfl rfl)) (fun _ _ => trivial) rfl ?_
  refine wl_y (y_field 1 rfl (ev_rfl rfl) (by first | exact Nat.zero_add _ | exact rfl)) (fun _ _ => trivial) rfl ?_
  refine wl_y (y_load (fun _ => rfl) (ev_rfl rfl)) (row_cell (by first | exact hasC0 | exact hasC1 | exact hasC2 | exact hasC3 | exact hasC4 | exact hasC5 | exact hasC6 | exact hasC7 | exact hasC8 | exact hasC9 | exact hasC10 | exact hasC11 | exact hasC12 | exact hasC13 | exact hasC14 | exact hasC15 | exact hasC16 | exact hasC17 | exact hasC18 | exact hasC19 | exact hasC20 | exact hasC21 | exact hasC22 | exact hasC23) rfl) rfl ?_
  refine wl_y (y_move (ev_rfl rfl)) (fun _ _ => trivial) rfl ?_
  refine wl_yg (guard_no rfl rfl) (y_move (ev_rfl rfl)) (fun _ _ => trivial) rfl ?_
  refine wl_yg (guard_no rfl rfl) (y_gtr (ev_g rfl) (ev_rfl rfl) rfl) (fun _ _ => trivial) rfl ?_
  refine wl_y (y_or (ev_rfl rfl) (pk_no rfl (fun _ => rfl))) (fun _ _ => trivial) rfl ?_
  refine wl_y (y_nil (ev_rfl rfl)) (fun _ _ => trivial) rfl ?_
  refine wl_y (y_field 1 rfl (ev_rfl rfl) (by first | exact Nat.zero_add _ | exact rfl)) (fun _ _ => trivial) rfl ?_
  refine wl_t0 (t_store (fun _ => rfl) rfl rfl rfl (by first | exact atC0 | exact atC1 | exact atC2 | exact atC3 | exact atC4 | exact atC5 | exact atC6 | exact atC7 | exact atC8 | exact atC9 | exact atC10 | exact atC11 | exact atC12 | exact atC13 | exact atC14 | exact atC15 | exact atC16 | exact atC17 | exact atC18 | exact atC19 | exact atC20 | exact atC21 | exact atC22 | exact atC23) (by (repeat (first | exact SetAt.zero _ _ _ | apply SetAt.succ)))) ?_
  rintro _ _ ⟨rfl, rfl⟩
  rw [hN] at hq
  refine wl_nilc 22 1 ?_
  refine wl_nil ?_
  refine q_then ?_
  refine wc_seq ?_
  refine wc_block ?_
  refine wc_loop (fun s : (Nat × List Int × Rdr) × (Option Addr × Nat) × (Option Addr × Nat) => [(0, .pointer (some ⟨bb, 0, none⟩)), (3, .slice s.2.1.1 s.1.2.1.length s.2.1.2), (4, .int .u32 s.1.1)]) (fun s => [rdr bb s.2.2.1 s.2.2.2 s.1.2.2, sl .u32 22 s.2.1.1 s.1.2.1.length s.2.1.2 s.1.2.1]) (fun s => rwords s.1.1 s.1.2.1 s.1.2.2 = q ∧ Sub A c r.1 s.2.2.1 s.2.2.2 s.1.2.2.1 ∧ u8s s.1.2.2.1 ∧ (s.1.2.2.2 = false → s.1.2.1.length + s.1.1 ≤ 16) ∧ s.1.1 ≤ 4294967295) (fun s => s.1.1) (((N, [], m.2.1, m.2.2 || decide ((16 : Int) < (N : Int))), (none, 0), (A1, c1))) ?_ ?_ ?_ ?_
  · exact ⟨hq, hsub, nb, (fun hf => by simp only [Bool.or_eq_false_iff, decide_eq_false_iff_not] at hf; simp only [List.length_nil]; omega), by show N ≤ 4294967295; omega⟩
  · ((repeat' (refine Wk.cons ?_ ?_)) <;> first | exact Wk.nil | exact rfl | exact trivial | exact wk_num rfl (by omega) | exact wk_num rfl (by simp))
  · ((repeat (first | exact List.Sublist.slnil | refine List.Sublist.cons_cons _ ?_ | refine List.Sublist.cons _ ?_)))
  · rintro ⟨⟨k, out, r1⟩, ⟨Ao, co⟩, ⟨A2, c2⟩⟩ ⟨hr, hs, hb1, hl, hk⟩
    dsimp only at hr hs hb1 hl hk ⊢
    refine wc_seq ?_
    refine wc_seq ?_
    refine wc_region ?_
    refine wl_y (y_move (ev_rfl rfl)) (fun _ _ => trivial) rfl ?_
    refine wl_y (y_gtr (ev_rfl rfl) (ev_rfl rfl) rfl) (fun _ _ => trivial) rfl ?_
    refine wl_y (y_move (ev_rfl rfl)) (fun _ _ => trivial) rfl ?_
    refine wl_yg (guard_yes rfl rfl) (y_move (ev_rfl rfl)) (fun _ _ => trivial) rfl ?_
    refine wl_yg (guard_yes rfl rfl) (y_nil (ev_g rfl)) (fun _ _ => trivial) rfl ?_
    refine wl_yg (guard_yes rfl rfl) (y_field 1 rfl (ev_g rfl) (by first | exact Nat.zero_add _ | exact rfl)) (fun _ _ => trivial) rfl ?_
    refine wl_yg (guard_yes rfl rfl) (y_load (fun _ => rfl) (ev_g rfl)) (row_cell (by first | exact hasC0 | exact hasC1 | exact hasC2 | exact hasC3 | exact hasC4 | exact hasC5 | exact hasC6 | exact hasC7 | exact hasC8 | exact hasC9 | exact hasC10 | exact hasC11 | exact hasC12 | exact hasC13 | exact hasC14 | exact hasC15 | exact hasC16 | exact hasC17 | exact hasC18 | exact hasC19 | exact hasC20 | exact hasC21 | exact hasC22 | exact hasC23) rfl) rfl ?_
    refine wl_yg (guard_yes rfl rfl) (y_not (ev_g rfl) rfl) (fun _ _ => trivial) rfl ?_
    refine wl_y (y_and (ev_rfl rfl) (pk_yes rfl (fun _ => rfl))) (fun _ _ => trivial) rfl ?_
    refine wl_nil ?_
    refine q_then ?_
    refine wc_cond _ rfl (fun hc4 => ?_) (fun hc4 => ?_)
    · have hk0 : 0 < k ∧ r1.2 = false := by simpa using hc4
      obtain ⟨j, rfl⟩ : ∃ j, k = j + 1 := ⟨k - 1, by omega⟩
      have hr' : rwords j (out ++ [(rnum 4 r1).1]) (rnum 4 r1).2 = q := by (rw [← hr]; show _ = (bif r1.2 then _ else _); rw [hk0.2]; rfl)
      have hlo := hl hk0.2
      refine wc_skip ?_
      refine q_then ?_
      refine wc_seq ?_
      refine wc_block ?_
      refine wc_region ?_
      refine wl_y (y_move (ev_rfl rfl)) (fun _ _ => trivial) rfl ?_
      refine wl_y (y_move (ev_rfl rfl)) (fun _ _ => trivial) rfl ?_
      refine wl_t (t_call1s rfl (fun _ _ => rfl) (by first | exact atC0 | exact atC1 | exact atC2 | exact atC3 | exact atC4 | exact atC5 | exact atC6 | exact atC7 | exact atC8 | exact atC9 | exact atC10 | exact atC11 | exact atC12 | exact atC13 | exact atC14 | exact atC15 | exact atC16 | exact atC17 | exact atC18 | exact atC19 | exact atC20 | exact atC21 | exact atC22 | exact atC23) (fun w hi => (rnumber_ok bb A2 c2 r1 4 _ rfl ⟨by omega, by omega⟩ hb1 w (hi.one (by first | exact hasC0 | exact hasC1 | exact hasC2 | exact hasC3 | exact hasC4 | exact hasC5 | exact hasC6 | exact hasC7 | exact hasC8 | exact hasC9 | exact hasC10 | exact hasC11 | exact hasC12 | exact hasC13 | exact hasC14 | exact hasC15 | exact hasC16 | exact hasC17 | exact hasC18 | exact hasC19 | exact hasC20 | exact hasC21 | exact hasC22 | exact hasC23)) (fun w' hk => hs w' (h w' (hi.keep.trans hk)))))) rfl ?_
      rintro _ _ ⟨_, ⟨A3, c3, rfl, hsub3, rfl⟩, rfl⟩
      refine wl_t (t_buildSl1 rfl rfl (fun _ => rfl) (fun _ => rfl) rfl rfl) rfl ?_
      rintro _ _ ⟨b32, rfl, rfl⟩
      refine wl_t (t_append (e := 22) (sz := 1) (bytes := 4) rfl rfl (by first | exact atC0 | exact atC1 | exact atC2 | exact atC3 | exact atC4 | exact atC5 | exact atC6 | exact atC7 | exact atC8 | exact atC9 | exact atC10 | exact atC11 | exact atC12 | exact atC13 | exact atC14 | exact atC15 | exact atC16 | exact atC17 | exact atC18 | exact atC19 | exact atC20 | exact atC21 | exact atC22 | exact atC23) rfl rfl (fun w hi => hi.rd (.tail _ (.tail _ (.head _ _)))) (allT rfl) (by simp only [maxLen]; omega) (by omega)) rfl ?_
      rintro _ _ ⟨A4, c4, rfl, rfl⟩
      rw [show out.length + 1 = (out ++ [(rnum 4 r1).1]).length by simp, show ints .u32 out ++ [Value.int .u32 (rnum 4 r1).1] = ints .u32 (out ++ [(rnum 4 r1).1]) from ints_append out [_]]
      refine wl_y (y_assign (ev_rfl rfl)) (fun _ _ => trivial) rfl ?_
      refine wl_nil ?_
      refine q_block ?_
      refine q_then ?_
      refine wc_region ?_
      refine wl_y (y_move (ev_rfl rfl)) (fun _ _ => trivial) rfl ?_
      refine wl_y (y_sub (ev_rfl rfl) (ev_rfl rfl) (show IntKind.u32.wrap (((j + 1 : Nat) : Int) - 1) = (j : Int) by rw [u32_wrap]; omega)) (fun _ _ => trivial) rfl ?_
      refine wl_y (y_assign (ev_rfl rfl)) (fun _ _ => trivial) rfl ?_
      refine wl_nil ?_
      refine q_mid (((j, out ++ [(rnum 4 r1).1], (rnum 4 r1).2), (A4, c4), (A3, c3))) ?_ ?_ ?_
      · exact ⟨⟨hr', hs.trans hsub3, rnum_bytes hb1, (fun hf => by simp only [List.length_append, List.length_cons, List.length_nil]; omega), by show j ≤ 4294967295; omega⟩, by show j < j + 1; omega⟩
      · ((repeat' (refine Wk.cons ?_ ?_)) <;> first | exact Wk.nil | exact rfl | exact trivial | exact wk_num rfl (by omega) | exact wk_num rfl (by simp))
      · ((repeat (first | exact List.Sublist.slnil | refine List.Sublist.cons_cons _ ?_ | refine List.Sublist.cons _ ?_)))
    · have hk0 : k = 0 ∨ r1.2 = true := by { cases hb2 : r1.2 with | true => exact .inr rfl | false => (rw [hb2] at hc4; left; simp at hc4; omega) }
      have hq2 : (out, r1) = q := by (rw [← hr]; exact hk0.elim (fun e => by subst e; rfl) (fun e => (rwords_bad e).symm))
      refine wc_exit ?_
      refine q_then_exit ?_
      refine q_then_exit ?_
      refine q_block_same rfl ?_
      refine q_then ?_
      refine wc_seq ?_
      refine wc_region ?_
      refine wl_y (y_move (ev_rfl rfl)) (fun _ _ => trivial) rfl ?_
      refine wl_y (y_assign (ev_rfl rfl)) (fun _ _ => trivial) rfl ?_
      refine wl_nil ?_
      refine q_then ?_
      refine wc_ret ?_
      refine ret1 (cs' := [row _ _ _, slv _ _ _ _ _ _]) (.inl rfl) (by ((repeat (first | exact List.Sublist.slnil | refine List.Sublist.cons_cons _ ?_ | refine List.Sublist.cons _ ?_)))) rfl rfl ?_
      subst hq2
      exact ⟨_, _, rfl, A2, c2, Ao, co, rfl, hs, rfl, rfl⟩
end Go.Proofs.Ytjknccgefnnfnaa
