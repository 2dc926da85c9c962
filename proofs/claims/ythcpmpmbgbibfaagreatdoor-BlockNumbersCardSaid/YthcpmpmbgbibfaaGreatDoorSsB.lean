/- The document's page tables. -/
import Derived.Test.YthcpmpmbgbibfaaGreatDoorSsA
import Derived.Test.YthcpmpmbgbibfaaGreatDoorInkA
set_option linter.unusedSimpArgs false
set_option linter.unusedVariables false
set_option maxRecDepth 100000
namespace Go.Ink
open Go.RowKit
theorem fault_in {k : Int} (h : 1 ≤ k ∧ k ≤ 3) : fault k = k + 6 := by
 obtain rfl | rfl | rfl : k = 1 ∨ k = 2 ∨ k = 3 := by omega
 all_goals rfl
theorem fault_out {k : Int} (h : ¬ (1 ≤ k ∧ k ≤ 3)) : fault k = 0 := by
 have e1 : (k == 1) = false := by simp; omega
 have e2 : (k == 2) = false := by simp; omega
 have e3 : (k == 3) = false := by simp; omega
 unfold fault
 rw [e1, e2, e3]
 rfl
def lookW (r : Option (Nat × Int)) : Value := match r with | some (a, l) => .tuple #[.int .u64 a, .int .u32 l, .bool true] | none => .tuple #[.int .u64 0, .int .u32 0, .bool false]
theorem look_no1 {n : Nat} {d : List Int} {root va : Nat} (h : (decide ((16384 : Int) ≤ (va : Int)) || !decide (at1 root va + 4 ≤ n * 64)) = true) : lookUp n d root va = none := by
 unfold lookUp entryOf
 by_cases h1 : 16384 ≤ va
 ·rw [decide_eq_true h1]; rfl
 rw [decide_eq_false h1]
 have h2 : decide (at1 root va + 4 ≤ n * 64) = false := by simpa [show ¬ (16384 : Int) ≤ va by omega] using h
 rw [h2]
 rfl
theorem look_yes1 {n : Nat} {d : List Int} {root va : Nat} (h : (decide ((16384 : Int) ≤ (va : Int)) || !decide (at1 root va + 4 ≤ n * 64)) = false) : va < 16384 ∧ at1 root va + 4 ≤ n * 64 ∧ lookUp n d root va = look2 n d va (wordAt d (at1 root va)) := by
 simp only [Bool.or_eq_false_iff, decide_eq_false_iff_not, Bool.not_eq_false', decide_eq_true_eq] at h
 obtain ⟨h1, h2⟩ := h
 refine ⟨by omega, h2, ?_⟩
 unfold lookUp entryOf
 rw [decide_eq_false (by omega), decide_eq_true h2]
 rfl
theorem look_no2 {n : Nat} {d : List Int} {va : Nat} {e : Int} (h : ((e % 2 == 0) || !decide (at2 e va + 4 ≤ n * 64)) = true) : look2 n d va e = none := by
 unfold look2 entryOf
 cases h1 : (e % 2 == 0) with
 | true => rfl
 | false =>
  rw [h1] at h
  have h2 : decide (at2 e va + 4 ≤ n * 64) = false := by simpa using h
  rw [h2]
  rfl
theorem look_yes2 {n : Nat} {d : List Int} {va : Nat} {e : Int} (h : ((e % 2 == 0) || !decide (at2 e va + 4 ≤ n * 64)) = false) : at2 e va + 4 ≤ n * 64 ∧ look2 n d va e = some (at2 e va, wordAt d (at2 e va)) := by
 simp only [Bool.or_eq_false_iff, Bool.not_eq_false', decide_eq_true_eq] at h
 obtain ⟨h1, h2⟩ := h
 refine ⟨h2, ?_⟩
 unfold look2 entryOf
 rw [h1, decide_eq_true h2]
 rfl
theorem wbyte_shrU (v : Int) {k : Nat} (hk : k < 4) : IntKind.u8.wrap (v.fdiv (2 ^ (min ((8 * k : Nat) : Int).toNat IntKind.u32.bits))) = wbyte v k := by
 rw [← wbyte_shr v hk]
 obtain rfl | rfl | rfl | rfl : k = 0 ∨ k = 1 ∨ k = 2 ∨ k = 3 := by omega
 all_goals rfl
end Go.Ink
namespace Go.Proofs.YthcpmpmbgbibfaaGreatDoor
open Go.RowKit Go.Ink
attribute [local irreducible] OpY GuardIs

theorem reffault_ok (kind : Int) (w : World) : Ctr Tryz.prog 134 [.int .i64 kind] w [] (fun x cs => x = .int .i64 (fault kind) ∧ cs = []) := by
 refine fn_ctr Tryz.func134 rfl Tryz.ntmps134 rfl (Inv.start w) ?_
 refine Zs (Zr (ZA ?_))
 refine Zn (Zt (Zs (Zs (Zr (ZA ?_)))))
 iterate 2 refine ZA ?_
 iterate 2 refine ZB ?_
 refine ZA ?_
 refine Zn (Zt ?_)
 refine wc_cond _ rfl (fun hc1 => ?_) (fun hc1 => ?_)
 ·simp only [Bool.and_eq_true, decide_eq_true_eq] at hc1
  refine Zs (Zr (ZA ?_))
  refine Zy (y_add (Zv rfl) (Zv rfl) (show _ = 7 + kind from IntWalk.i64_in _ ⟨by omega, by omega⟩)) ?_
  refine Zy (y_sub (Zv rfl) (Zv rfl) (show _ = fault kind from (IntWalk.i64_in _ ⟨by omega, by omega⟩).trans ((fault_in hc1).trans (by omega)).symm)) ?_
  refine ZA ?_
  refine Zn (Zt (Ze (Zw (ret1 (cs' := []) (.inl rfl) Zu rfl rfl ?_))))
  exact ⟨rfl, rfl⟩
 simp only [Bool.and_eq_false_iff, decide_eq_false_iff_not] at hc1
 refine Zc (Zt (Zs (Zr (ZA ?_))))
 refine Zn (Zt (Ze (ret1 (cs' := []) (.inl rfl) Zu rfl rfl ?_)))
 rw [fault_out (by omega)]
 exact ⟨rfl, rfl⟩
theorem refbits_ok (kind : Int) (super : Bool) (w : World) : Ctr Tryz.prog 133 [.int .i64 kind, .bool super] w [] (fun x cs => x = .int .u32 (wbits kind super) ∧ cs = []) := by
 refine fn_ctr Tryz.func133 rfl Tryz.ntmps133 rfl (Inv.start w) ?_
 refine Zs (Zr (ZA ?_))
 refine Zn (Zt (Zs (Zr (ZA ?_))))
 refine Zn (Zt (Zs (Zs (Zr (ZA ?_)))))
 refine Zn (Zt (Zx (Zs (Zr (ZA ?_)))))
 refine ZA ?_
 refine Zn (Zt ?_)
 refine wc_cond _ rfl (fun hc3 => ?_) (fun hc3 => ?_)
 ·refine Zr (ZA ?_)
  iterate 2 refine ZA ?_
  refine Zn (Zo (Zt (Zs (Zs (Zr (ZA ?_))))))
  refine ZA ?_
  refine Zn (Zt ?_)
  refine wc_cond _ rfl (fun hc9 => ?_) (fun hc9 => ?_)
  ·have hs : super = false := by simpa using hc9
   refine Zr (ZA ?_)
   iterate 2 refine ZA ?_
   refine Zn (Zt (Zs (Zr (ZA ?_))))
   refine ZA ?_
   refine Zn (Zt (Ze (ret1 (cs' := []) (.inl rfl) Zu rfl rfl ?_)))
   refine ⟨?_, rfl⟩
   simp only [wbits, orUser, *, cond_true, cond_false]
  have hs : super = true := by simpa using hc9
  refine Zc (Zt (Zs (Zr (ZA ?_))))
  refine ZA ?_
  refine Zn (Zt (Ze (ret1 (cs' := []) (.inl rfl) Zu rfl rfl ?_)))
  refine ⟨?_, rfl⟩
  simp only [wbits, orUser, *, cond_true, cond_false]
 refine Zs (Zr (ZA ?_))
 refine ZA ?_
 refine Zn (Zt ?_)
 refine wc_cond _ rfl (fun hc5 => ?_) (fun hc5 => ?_)
 ·refine Zr (ZA ?_)
  iterate 2 refine ZA ?_
  refine Zn (Zo (Zt (Zs (Zs (Zr (ZA ?_))))))
  refine ZA ?_
  refine Zn (Zt ?_)
  refine wc_cond _ rfl (fun hc9 => ?_) (fun hc9 => ?_)
  ·have hs : super = false := by simpa using hc9
   refine Zr (ZA ?_)
   iterate 2 refine ZA ?_
   refine Zn (Zt (Zs (Zr (ZA ?_))))
   refine ZA ?_
   refine Zn (Zt (Ze (ret1 (cs' := []) (.inl rfl) Zu rfl rfl ?_)))
   refine ⟨?_, rfl⟩
   simp only [wbits, orUser, *, cond_true, cond_false]
  have hs : super = true := by simpa using hc9
  refine Zc (Zt (Zs (Zr (ZA ?_))))
  refine ZA ?_
  refine Zn (Zt (Ze (ret1 (cs' := []) (.inl rfl) Zu rfl rfl ?_)))
  refine ⟨?_, rfl⟩
  simp only [wbits, orUser, *, cond_true, cond_false]
 refine Zs (Zr (ZA ?_))
 refine ZA ?_
 refine Zn (Zt ?_)
 refine wc_cond _ rfl (fun hc7 => ?_) (fun hc7 => ?_)
 ·refine Zr (ZA ?_)
  iterate 2 refine ZA ?_
  refine Zn (Zo (Zt (Zs (Zs (Zr (ZA ?_))))))
  refine ZA ?_
  refine Zn (Zt ?_)
  refine wc_cond _ rfl (fun hc9 => ?_) (fun hc9 => ?_)
  ·have hs : super = false := by simpa using hc9
   refine Zr (ZA ?_)
   iterate 2 refine ZA ?_
   refine Zn (Zt (Zs (Zr (ZA ?_))))
   refine ZA ?_
   refine Zn (Zt (Ze (ret1 (cs' := []) (.inl rfl) Zu rfl rfl ?_)))
   refine ⟨?_, rfl⟩
   simp only [wbits, orUser, *, cond_true, cond_false]
  have hs : super = true := by simpa using hc9
  refine Zc (Zt (Zs (Zr (ZA ?_))))
  refine ZA ?_
  refine Zn (Zt (Ze (ret1 (cs' := []) (.inl rfl) Zu rfl rfl ?_)))
  refine ⟨?_, rfl⟩
  simp only [wbits, orUser, *, cond_true, cond_false]
 refine Zc (Zo (Zt (Zs (Zs (Zr (ZA ?_))))))
 refine ZA ?_
 refine Zn (Zt ?_)
 refine wc_cond _ rfl (fun hc9 => ?_) (fun hc9 => ?_)
 ·have hs : super = false := by simpa using hc9
  refine Zr (ZA ?_)
  iterate 2 refine ZA ?_
  refine Zn (Zt (Zs (Zr (ZA ?_))))
  refine ZA ?_
  refine Zn (Zt (Ze (ret1 (cs' := []) (.inl rfl) Zu rfl rfl ?_)))
  refine ⟨?_, rfl⟩
  simp only [wbits, orUser, *, cond_true, cond_false]
 have hs : super = true := by simpa using hc9
 refine Zc (Zt (Zs (Zr (ZA ?_))))
 refine ZA ?_
 refine Zn (Zt (Ze (ret1 (cs' := []) (.inl rfl) Zu rfl rfl ?_)))
 refine ⟨?_, rfl⟩
 simp only [wbits, orUser, *, cond_true, cond_false]
set_option maxHeartbeats 1000000 in
theorem reflook_ok (K : RMLoc) (n : Nat) (M : Mem) (hM : MOk n M) (root va : Nat) (hroot : root ≤ 4294967295) (hva : va ≤ 4294967295) (w : World) (h : (rmRow K n).ok w) (h2 : (rmB K n M).ok w) :
  Ctr Tryz.prog 135 [.pointer (some ⟨K.bm, 0, none⟩), .int .u32 root, .int .u32 va] w [] (fun v cs => v = lookW (lookUp n M.data root va) ∧ cs = []) := by
 have hn := hM.n64
 have hdb := hM.m.db
 have hat1 : at1 root va = root / 64 * 64 + 4 * (va / 1024 % 16) := rfl
 obtain ⟨a1, ha1⟩ : ∃ a, at1 root va = a := ⟨_, rfl⟩
 have hno1 := look_no1 (n := n) (d := M.data) (root := root) (va := va)
 have hye1 := look_yes1 (n := n) (d := M.data) (root := root) (va := va)
 rw [ha1] at hat1 hno1 hye1
 obtain ⟨lk, hlk⟩ : ∃ l, lookUp n M.data root va = l := ⟨_, rfl⟩
 rw [hlk] at hno1 hye1 ⊢
 refine fn_ctr Tryz.func135 rfl Tryz.ntmps135 rfl (Inv.start w) ?_
 refine Zs (Zr (ZA ?_))
 iterate 2 refine ZA ?_
 refine Zn (Zt (Zs (Zr (ZA ?_))))
 refine Zy (y_quo (Zv rfl) (Zv rfl) (by omega) (show _ = ((root / 64 : Nat) : Int) from by rw [Int.tdiv_eq_ediv_of_nonneg (by omega), u32_wrap_id _ (by omega) (by omega)]; omega)) ?_
 refine Zy (y_mul (Zv rfl) (Zv rfl) (show _ = ((root / 64 * 64 : Nat) : Int) from (u32_wrap_id _ (by omega) (by omega)).trans (by omega))) ?_
 refine Zy (y_conv rfl rfl (Zv rfl) (u64_wrap_id _ (by omega) (by omega))) ?_
 refine ZA ?_
 refine Zy (y_shr (Zv rfl) (Zv rfl) (by omega) (show _ = ((va / 1024 : Nat) : Int) from (shrE _ 10).trans (by omega))) ?_
 refine Zy (y_and_ (Zv rfl) (Zv rfl) (show _ = ((va / 1024 % 16 : Nat) : Int) from (and15' ⟨by omega, by omega⟩).trans (by omega))) ?_
 refine Zy (y_mul (Zv rfl) (Zv rfl) (show _ = ((4 * (va / 1024 % 16) : Nat) : Int) from (u32_wrap_id _ (by omega) (by omega)).trans (by omega))) ?_
 refine Zy (y_conv rfl rfl (Zv rfl) (u64_wrap_id _ (by omega) (by omega))) ?_
 refine Zy (y_add (Zv rfl) (Zv rfl) (show _ = ((a1 : Nat) : Int) from (u64_wrap_id _ (by omega) (by omega)).trans (by omega))) ?_
 refine ZA ?_
 refine Zn (Zt (Zs (Zs (Zr (ZA ?_)))))
 iterate 2 refine ZA ?_
 iterate 2 refine ZB ?_
 refine wl_callg (guard_no rfl rfl) (.cons (ev_g rfl) (.cons (ev_g rfl) (.cons (Zv rfl) .nil))) (fun _ _ => rfl) (fun hg w hi => refhas_ok K n hn a1 4 (by omega) (by decide) w (Chunk.old h hi)) rfl ?_
 refine ZB ?_
 refine ZA ?_
 refine Zn (Zt ?_)
 refine wc_cond _ rfl (fun hc2 => ?_) (fun hc2 => ?_)
 ·rw [hno1 hc2]
  refine Zs (Zr (ZA ?_))
  iterate 2 refine ZA ?_
  refine Zn (Zt (Ze (Zw (ret3 (cs' := []) (.inl rfl) Zu rfl rfl rfl rfl ?_))))
  exact ⟨rfl, rfl⟩
 obtain ⟨hv1, hl1, hlk2⟩ := hye1 hc2
 rw [hlk2]
 have heu := wordAt_u32 hdb a1
 have HW := refword_ok8 K n M hM a1 hl1
 obtain ⟨e, he⟩ : ∃ e, wordAt M.data a1 = e := ⟨_, rfl⟩
 rw [he] at heu HW ⊢
 obtain ⟨eu0, eu1⟩ := heu
 have hat2 : at2 e va = (e / 256).toNat * 64 + 4 * (va / 64 % 16) := rfl
 have hno2 := look_no2 (n := n) (d := M.data) (va := va) (e := e)
 have hye2 := look_yes2 (n := n) (d := M.data) (va := va) (e := e)
 obtain ⟨a2, ha2⟩ : ∃ a, at2 e va = a := ⟨_, rfl⟩
 rw [ha2] at hat2 hno2 hye2
 obtain ⟨l2, hl2⟩ : ∃ l, look2 n M.data va e = l := ⟨_, rfl⟩
 rw [hl2] at hno2 hye2 ⊢
 refine Zc (Zt (Zs (Zr (ZA ?_))))
 refine ZA ?_
 refine ZS (fun w hi => HW w (Chunk.old h hi) (Chunk.old h2 hi)) ?_
 rintro _ _ ⟨_, ⟨rfl, rfl⟩, rfl⟩
 refine ZA ?_
 refine Zn (Zt (Zs (Zr (ZA ?_))))
 refine Zy (y_shr (Zv rfl) (Zv rfl) (by omega) (show _ = e / 256 from shrE _ 8)) ?_
 refine Zy (y_conv rfl rfl (Zv rfl) (u64_wrap_id _ (by omega) (by omega))) ?_
 refine Zy (y_mul (Zv rfl) (Zv rfl) (show _ = e / 256 * 64 from u64_wrap_id _ (by omega) (by omega))) ?_
 refine ZA ?_
 refine Zy (y_shr (Zv rfl) (Zv rfl) (by omega) (show _ = ((va / 64 : Nat) : Int) from (shrE _ 6).trans (by omega))) ?_
 refine Zy (y_and_ (Zv rfl) (Zv rfl) (show _ = ((va / 64 % 16 : Nat) : Int) from (and15' ⟨by omega, by omega⟩).trans (by omega))) ?_
 refine Zy (y_mul (Zv rfl) (Zv rfl) (show _ = ((4 * (va / 64 % 16) : Nat) : Int) from (u32_wrap_id _ (by omega) (by omega)).trans (by omega))) ?_
 refine Zy (y_conv rfl rfl (Zv rfl) (u64_wrap_id _ (by omega) (by omega))) ?_
 refine Zy (y_add (Zv rfl) (Zv rfl) (show _ = ((a2 : Nat) : Int) from (u64_wrap_id _ (by omega) (by omega)).trans (by omega))) ?_
 refine ZA ?_
 refine Zn (Zt (Zs (Zs (Zr (ZA ?_)))))
 refine Zy (y_and_ (Zv rfl) (Zv rfl) (and1 ⟨eu0, eu1⟩)) ?_
 iterate 2 refine ZA ?_
 iterate 2 refine ZB ?_
 refine wl_callg (guard_no rfl rfl) (.cons (ev_g rfl) (.cons (ev_g rfl) (.cons (Zv rfl) .nil))) (fun _ _ => rfl) (fun hg w hi => refhas_ok K n hn a2 4 (by omega) (by decide) w (Chunk.old h hi)) rfl ?_
 refine ZB ?_
 refine ZA ?_
 refine Zn (Zt ?_)
 refine wc_cond _ rfl (fun hc6 => ?_) (fun hc6 => ?_)
 ·rw [hno2 hc6]
  refine Zs (Zr (ZA ?_))
  iterate 2 refine ZA ?_
  refine Zn (Zt (Ze (Zw (ret3 (cs' := []) (.inl rfl) Zu rfl rfl rfl rfl ?_))))
  exact ⟨rfl, rfl⟩
 obtain ⟨hv2, hlk3⟩ := hye2 hc6
 rw [hlk3]
 refine Zc (Zt (Zs (Zr (ZA ?_))))
 iterate 2 refine ZA ?_
 refine ZS (fun w hi => refword_ok8 K n M hM a2 hv2 w (Chunk.old h hi) (Chunk.old h2 hi)) ?_
 rintro _ _ ⟨_, ⟨rfl, rfl⟩, rfl⟩
 iterate 3 refine ZA ?_
 refine Zn (Zt (Ze (ret3 (cs' := []) (.inl rfl) Zu rfl rfl rfl rfl ?_)))
 exact ⟨rfl, rfl⟩
theorem _root_.Go.Ink.MOk.walk {n : Nat} {M : Mem} (hM : MOk n M) (root va : Nat) (kind : Int) (super : Bool) : MOk n (walkTo n M root va kind super).2 := by
 unfold walkTo
 refine cond_all (fun q : (TE × Tr) × Mem => MOk n q.2) hM ?_
 cases hl : lookUp n M.data root va with
 | none => exact hM
 | some q =>
  obtain ⟨a, l⟩ := q
  have hin := (lookUp_in hM.m.db hl).2
  refine cond_all (fun q : (TE × Tr) × Mem => MOk n q.2) hM ?_
  exact cond_all (fun q : Mem => MOk n q) (hM.putTo _ 4 hin) hM
set_option maxHeartbeats 1000000 in
theorem refdo8_ok (K : RMLoc) (n : Nat) (M : Mem) (hM : MOk n M) (root va : Nat) (hroot : root ≤ 4294967295) (hva : va ≤ 4294967295) (kind : Int) (super : Bool) (w : World) (hi : Inv w (blocks (rmF K n M)) (rmF K n M) w) :
  Ctr Tryz.prog 107 [.pointer (some ⟨K.bm, 0, none⟩), .int .u32 root, .int .u32 va, .int .i64 kind, .bool super] w (rmF K n M) (fun v cs => v = .tuple #[(walkTo n M root va kind super).1.1.v, (walkTo n M root va kind super).1.2.v] ∧ cs = rmF K n (walkTo n M root va kind super).2) := by
 have hn := hM.n64
 have hdb := hM.m.db
 obtain ⟨fk, hfk⟩ : ∃ x, fault kind = x := ⟨_, rfl⟩
 obtain ⟨wb, hwb⟩ : ∃ x, wbits kind super = x := ⟨_, rfl⟩
 obtain ⟨lk, hlk⟩ : ∃ x, lookUp n M.data root va = x := ⟨_, rfl⟩
 have HF := reffault_ok kind
 have HB := refbits_ok kind super
 have HL := reflook_ok K n M hM root va hroot hva
 unfold walkTo
 rw [hfk] at HF ⊢
 rw [hwb] at HB ⊢
 rw [hlk] at HL ⊢
 refine fn_ctr Tryz.func107 rfl Tryz.ntmps107 rfl hi ?_
 refine Zs (Zr (ZN fun b10 => ?_))
 refine ZN fun b11 => ?_
 refine Zn (Zt (Zs (Zs (Zr (ZA ?_)))))
 refine ZS (fun w hi => HF w) ?_
 rintro _ _ ⟨_, ⟨rfl, rfl⟩, rfl⟩
 refine ZA ?_
 refine Zn (Zt ?_)
 refine wc_cond _ rfl (fun hc1 => ?_) (fun hc1 => ?_)
 ·have hc : (fk == 0) = true := hc1
  rw [hc]
  simp only [cond_true]
  refine Zs (Zr (ZA ?_))
  iterate 2 refine ZA ?_
  refine ZM ?_
  refine ZM ?_
  refine Zn (Zt (Ze (Zw (retCC (cs' := [row _ _ _, slv _ _ _ _ _ _, slv _ _ _ _ _ _]) (.inl rfl) Zu rfl rfl rfl Zh Zh (fun _ => rfl) (fun _ => rfl) (fun _ => rfl) (fun _ => rfl) ?_))))
  exact ⟨rfl, rfl⟩
 have hc : (fk == 0) = false := hc1
 rw [hc]
 simp only [cond_false]
 refine Zc (Zt (Zs ?_))
 revert HL hlk
 refine Option.rec (fun hlk HL => ?_) (fun al hlk HL => ?_) lk
 ·refine Zr (ZA ?_)
  iterate 2 refine ZA ?_
  refine ZS (fun w hi => HL w (hi.get Zh) (hi.get Zh)) ?_
  rintro _ _ ⟨_, ⟨rfl, rfl⟩, rfl⟩
  simp only [lookW]
  iterate 7 refine ZA ?_
  refine Zn (Zt (Zs (Zr (ZA ?_))))
  refine ZA ?_
  refine ZS (fun w hi => HB w) ?_
  rintro _ _ ⟨_, ⟨rfl, rfl⟩, rfl⟩
  refine ZA ?_
  refine Zn (Zt (Zs (Zs (Zr (ZA ?_)))))
  iterate 2 refine ZA ?_
  iterate 5 refine ZB ?_
  refine ZA ?_
  refine Zn (Zt (wc_cond_t rfl (rfl) ?_))
  refine Zs (Zr (ZA ?_))
  refine ZA ?_
  refine ZS (fun w hi => HF w) ?_
  rintro _ _ ⟨_, ⟨rfl, rfl⟩, rfl⟩
  iterate 2 refine ZA ?_
  refine ZM ?_
  refine ZM ?_
  refine Zn (Zt (Ze (Zw (retCC (cs' := [row _ _ _, slv _ _ _ _ _ _, slv _ _ _ _ _ _]) (.inl rfl) Zu rfl rfl rfl Zh Zh (fun _ => rfl) (fun _ => rfl) (fun _ => rfl) (fun _ => rfl) ?_))))
  exact ⟨rfl, rfl⟩
 obtain ⟨a, l⟩ := al
 have hin := lookUp_in hdb hlk
 obtain ⟨lu, ain⟩ := hin
 have hmd := marked_div lu kind
 obtain ⟨lu0, lu1⟩ := lu
 have mu := marked_u32 l kind
 simp only
 refine Zr (ZA ?_)
 iterate 2 refine ZA ?_
 refine ZS (fun w hi => HL w (hi.get Zh) (hi.get Zh)) ?_
 rintro _ _ ⟨_, ⟨rfl, rfl⟩, rfl⟩
 simp only [lookW]
 iterate 7 refine ZA ?_
 refine Zn (Zt (Zs (Zr (ZA ?_))))
 refine ZA ?_
 refine ZS (fun w hi => HB w) ?_
 rintro _ _ ⟨_, ⟨rfl, rfl⟩, rfl⟩
 refine ZA ?_
 refine Zn (Zt (Zs (Zs (Zr (ZA ?_)))))
 iterate 2 refine ZA ?_
 iterate 5 refine ZB ?_
 refine ZA ?_
 refine Zn (Zt ?_)
 refine wc_cond _ rfl (fun hc5 => ?_) (fun hc5 => ?_)
 ·have hc6' : (bits .and .u32 l wb != wb) = true := hc5
  rw [hc6']
  simp only [cond_true]
  refine Zs (Zr (ZA ?_))
  refine ZA ?_
  refine ZS (fun w hi => HF w) ?_
  rintro _ _ ⟨_, ⟨rfl, rfl⟩, rfl⟩
  iterate 2 refine ZA ?_
  refine ZM ?_
  refine ZM ?_
  refine Zn (Zt (Ze (Zw (retCC (cs' := [row _ _ _, slv _ _ _ _ _ _, slv _ _ _ _ _ _]) (.inl rfl) Zu rfl rfl rfl Zh Zh (fun _ => rfl) (fun _ => rfl) (fun _ => rfl) (fun _ => rfl) ?_))))
  exact ⟨rfl, rfl⟩
 have hc6' : (bits .and .u32 l wb != wb) = false := hc5
 rw [hc6']
 simp only [cond_false]
 refine Zc (Zt (Zs (Zr (ZA ?_))))
 iterate 2 refine ZA ?_
 refine Zn (Zt (Zs (Zs (Zr (ZA ?_)))))
 refine ZA ?_
 refine Zn (Zt ?_)
 refine wc_cond _ rfl (fun hc8 => ?_) (fun hc8 => ?_)
 ·have hm : marked l kind = bits .or .u32 (bits .or .u32 l 32) 64 := by (unfold marked; rw [hc8]; rfl)
  rw [hm] at mu hmd ⊢
  obtain ⟨m, hmm⟩ : ∃ x, bits .or .u32 (bits .or .u32 l 32) 64 = x := ⟨_, rfl⟩
  refine Zr (ZA ?_)
  iterate 2 refine ZA ?_
  refine Zn (Zt (Zs (Zs (Zr ?_))))
  rw [hmm] at mu hmd ⊢
  iterate 3 refine ZA ?_
  refine Zn (Zt ?_)
  refine wc_cond _ rfl (fun hc10 => ?_) (fun hc10 => ?_)
  ·rw [hc10]
   simp only [cond_true]
   unfold Mem.putW
   refine Zs (Zr (ZA ?_))
   refine Zn (Zt (Zx ?_))
   refine wc_loop (fun k : Nat => [(0, .pointer (some ⟨K.bm, 0, none⟩)), (2, .int .u32 (va : Int)), (10, .pointer (some ⟨b10, 0, none⟩)), (11, .pointer (some ⟨b11, 0, none⟩)), (12, .int .u64 (a : Int)), (13, .int .u32 l), (16, .int .u32 m), (17, .int .u64 (k : Int))]) (fun k => rmF K n (M.putTo a m k) ++ [row b10 [.bool false, .int .u32 0, .int .u32 0, .int .u32 0] 114, row b11 [.int .i64 0, .int .u32 0] 131]) (fun k => k ≤ 4) (fun k => 4 - k) (0) ?_ ?_ ?_ ?_
   ·exact Nat.zero_le _
   ·exact Zwk
   ·((repeat (first | exact List.Sublist.slnil | refine List.Sublist.cons_cons _ ?_ | refine List.Sublist.cons _ ?_)))
   rintro k hk
   refine Zs (Zs (Zr (ZA ?_)))
   refine ZA ?_
   refine Zn (Zt ?_)
   refine wc_cond _ rfl (fun hc12 => ?_) (fun hc12 => ?_)
   ·simp only [decide_eq_true_eq] at hc12
    have hk4 : k < 4 := (by omega)
    refine Zc (Zt (Zs (Zx (Zr (ZA ?_)))))
    iterate 2 refine ZA ?_
    refine Zy (y_add (Zv rfl) (Zv rfl) (show _ = ((a + k : Nat) : Int) from (u64_wrap_id _ (by omega) (by omega)).trans (by omega))) ?_
    refine Zy (y_conv rfl rfl (Zv rfl) (u32_wrap_id _ (by omega) (by omega))) ?_
    iterate 2 refine ZA ?_
    refine Zy (y_mul (Zv rfl) (Zv rfl) (show _ = ((8 * k : Nat) : Int) from (u64_wrap_id _ (by omega) (by omega)).trans (by omega))) ?_
    refine Zy (y_shr (Zv rfl) (Zv rfl) (by omega) rfl) ?_
    refine Zy (y_conv rfl rfl (Zv rfl) (wbyte_shrU m hk4)) ?_
    refine wl_t (t_callS (rmF K n (M.putTo a m k)) rfl (fun _ _ => rfl) Zi (fun w hi hin => refput_ok K n (M.putTo a m k) (hM.putTo m k (by omega)) (a + k) (by omega) (wbyte m k) w hin)) rfl ?_
    rintro _ _ ⟨_, ⟨rfl, rfl⟩, rfl⟩
    refine Zn (Zo (Zt (Zr (ZA ?_))))
    refine Zy (y_add (Zv rfl) (Zv rfl) (show _ = ((k + 1 : Nat) : Int) from (u64_wrap_id _ (by omega) (by omega)).trans (by omega))) ?_
    refine ZA ?_
    refine Zn ?_
    refine q_midP (k + 1) ?_ ?_ ?_
    ·exact ⟨by show k + 1 ≤ 4; omega, by show 4 - (k + 1) < 4 - k; omega⟩
    ·exact Zwk
    exact Zj
   simp only [decide_eq_false_iff_not] at hc12
   obtain rfl : k = 4 := (by omega)
   refine wc_exit ?_
   refine q_then_exit ?_
   refine q_then_exit ?_
   refine q_block_same rfl ?_
   refine Zt (Zs (Zr (ZA ?_)))
   refine Zy (y_quo (Zv rfl) (Zv rfl) (by omega) (show _ = ((va / 64 : Nat) : Int) from by rw [Int.tdiv_eq_ediv_of_nonneg (by omega), u32_wrap_id _ (by omega) (by omega)]; omega)) ?_
   refine ZA ?_
   refine Zy (y_shr (Zv rfl) (Zv rfl) (by omega) (show _ = m / 256 from (shrE _ 8).trans hmd.symm)) ?_
   iterate 4 refine ZA ?_
   refine ZM ?_
   refine ZM ?_
   refine Zn (Zt (Ze (retCC (cs' := [row _ _ _, slv _ _ _ _ _ _, slv _ _ _ _ _ _]) (.inl rfl) Zu rfl rfl rfl Zh Zh (fun _ => rfl) (fun _ => rfl) (fun _ => rfl) (fun _ => rfl) ?_)))
   exact ⟨rfl, rfl⟩
  rw [hc10]
  simp only [cond_false]
  refine Zc (Zt (Zs (Zr (ZA ?_))))
  refine Zy (y_quo (Zv rfl) (Zv rfl) (by omega) (show _ = ((va / 64 : Nat) : Int) from by rw [Int.tdiv_eq_ediv_of_nonneg (by omega), u32_wrap_id _ (by omega) (by omega)]; omega)) ?_
  refine ZA ?_
  refine Zy (y_shr (Zv rfl) (Zv rfl) (by omega) (show _ = m / 256 from (shrE _ 8).trans hmd.symm)) ?_
  iterate 4 refine ZA ?_
  refine ZM ?_
  refine ZM ?_
  refine Zn (Zt (Ze (retCC (cs' := [row _ _ _, slv _ _ _ _ _ _, slv _ _ _ _ _ _]) (.inl rfl) Zu rfl rfl rfl Zh Zh (fun _ => rfl) (fun _ => rfl) (fun _ => rfl) (fun _ => rfl) ?_)))
  exact ⟨rfl, rfl⟩
 have hm : marked l kind = bits .or .u32 l 32 := by (unfold marked; rw [hc8]; rfl)
 rw [hm] at mu hmd ⊢
 obtain ⟨m, hmm⟩ : ∃ x, bits .or .u32 l 32 = x := ⟨_, rfl⟩
 refine Zc (Zt (Zs (Zs (Zr ?_))))
 rw [hmm] at mu hmd ⊢
 iterate 3 refine ZA ?_
 refine Zn (Zt ?_)
 refine wc_cond _ rfl (fun hc10 => ?_) (fun hc10 => ?_)
 ·rw [hc10]
  simp only [cond_true]
  unfold Mem.putW
  refine Zs (Zr (ZA ?_))
  refine Zn (Zt (Zx ?_))
  refine wc_loop (fun k : Nat => [(0, .pointer (some ⟨K.bm, 0, none⟩)), (2, .int .u32 (va : Int)), (10, .pointer (some ⟨b10, 0, none⟩)), (11, .pointer (some ⟨b11, 0, none⟩)), (12, .int .u64 (a : Int)), (13, .int .u32 l), (16, .int .u32 m), (17, .int .u64 (k : Int))]) (fun k => rmF K n (M.putTo a m k) ++ [row b10 [.bool false, .int .u32 0, .int .u32 0, .int .u32 0] 114, row b11 [.int .i64 0, .int .u32 0] 131]) (fun k => k ≤ 4) (fun k => 4 - k) (0) ?_ ?_ ?_ ?_
  ·exact Nat.zero_le _
  ·exact Zwk
  ·((repeat (first | exact List.Sublist.slnil | refine List.Sublist.cons_cons _ ?_ | refine List.Sublist.cons _ ?_)))
  rintro k hk
  refine Zs (Zs (Zr (ZA ?_)))
  refine ZA ?_
  refine Zn (Zt ?_)
  refine wc_cond _ rfl (fun hc12 => ?_) (fun hc12 => ?_)
  ·simp only [decide_eq_true_eq] at hc12
   have hk4 : k < 4 := (by omega)
   refine Zc (Zt (Zs (Zx (Zr (ZA ?_)))))
   iterate 2 refine ZA ?_
   refine Zy (y_add (Zv rfl) (Zv rfl) (show _ = ((a + k : Nat) : Int) from (u64_wrap_id _ (by omega) (by omega)).trans (by omega))) ?_
   refine Zy (y_conv rfl rfl (Zv rfl) (u32_wrap_id _ (by omega) (by omega))) ?_
   iterate 2 refine ZA ?_
   refine Zy (y_mul (Zv rfl) (Zv rfl) (show _ = ((8 * k : Nat) : Int) from (u64_wrap_id _ (by omega) (by omega)).trans (by omega))) ?_
   refine Zy (y_shr (Zv rfl) (Zv rfl) (by omega) rfl) ?_
   refine Zy (y_conv rfl rfl (Zv rfl) (wbyte_shrU m hk4)) ?_
   refine wl_t (t_callS (rmF K n (M.putTo a m k)) rfl (fun _ _ => rfl) Zi (fun w hi hin => refput_ok K n (M.putTo a m k) (hM.putTo m k (by omega)) (a + k) (by omega) (wbyte m k) w hin)) rfl ?_
   rintro _ _ ⟨_, ⟨rfl, rfl⟩, rfl⟩
   refine Zn (Zo (Zt (Zr (ZA ?_))))
   refine Zy (y_add (Zv rfl) (Zv rfl) (show _ = ((k + 1 : Nat) : Int) from (u64_wrap_id _ (by omega) (by omega)).trans (by omega))) ?_
   refine ZA ?_
   refine Zn ?_
   refine q_midP (k + 1) ?_ ?_ ?_
   ·exact ⟨by show k + 1 ≤ 4; omega, by show 4 - (k + 1) < 4 - k; omega⟩
   ·exact Zwk
   exact Zj
  simp only [decide_eq_false_iff_not] at hc12
  obtain rfl : k = 4 := (by omega)
  refine wc_exit ?_
  refine q_then_exit ?_
  refine q_then_exit ?_
  refine q_block_same rfl ?_
  refine Zt (Zs (Zr (ZA ?_)))
  refine Zy (y_quo (Zv rfl) (Zv rfl) (by omega) (show _ = ((va / 64 : Nat) : Int) from by rw [Int.tdiv_eq_ediv_of_nonneg (by omega), u32_wrap_id _ (by omega) (by omega)]; omega)) ?_
  refine ZA ?_
  refine Zy (y_shr (Zv rfl) (Zv rfl) (by omega) (show _ = m / 256 from (shrE _ 8).trans hmd.symm)) ?_
  iterate 4 refine ZA ?_
  refine ZM ?_
  refine ZM ?_
  refine Zn (Zt (Ze (retCC (cs' := [row _ _ _, slv _ _ _ _ _ _, slv _ _ _ _ _ _]) (.inl rfl) Zu rfl rfl rfl Zh Zh (fun _ => rfl) (fun _ => rfl) (fun _ => rfl) (fun _ => rfl) ?_)))
  exact ⟨rfl, rfl⟩
 rw [hc10]
 simp only [cond_false]
 refine Zc (Zt (Zs (Zr (ZA ?_))))
 refine Zy (y_quo (Zv rfl) (Zv rfl) (by omega) (show _ = ((va / 64 : Nat) : Int) from by rw [Int.tdiv_eq_ediv_of_nonneg (by omega), u32_wrap_id _ (by omega) (by omega)]; omega)) ?_
 refine ZA ?_
 refine Zy (y_shr (Zv rfl) (Zv rfl) (by omega) (show _ = m / 256 from (shrE _ 8).trans hmd.symm)) ?_
 iterate 4 refine ZA ?_
 refine ZM ?_
 refine ZM ?_
 refine Zn (Zt (Ze (retCC (cs' := [row _ _ _, slv _ _ _ _ _ _, slv _ _ _ _ _ _]) (.inl rfl) Zu rfl rfl rfl Zh Zh (fun _ => rfl) (fun _ => rfl) (fun _ => rfl) (fun _ => rfl) ?_)))
 exact ⟨rfl, rfl⟩
end Go.Proofs.YthcpmpmbgbibfaaGreatDoor
