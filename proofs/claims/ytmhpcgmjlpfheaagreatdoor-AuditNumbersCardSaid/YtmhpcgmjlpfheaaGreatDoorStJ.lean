/- slices.Equal, the program's Same. -/
import Derived.Test.YtmhpcgmjlpfheaaGreatDoorStAll
import Derived.Test.YtmhpcgmjlpfheaaGreatDoorInkA
set_option linter.unusedSimpArgs false
set_option linter.unusedVariables false
set_option maxRecDepth 100000
namespace Go.Ink
theorem St.same_iff (a b : St) : a.same b = true ↔ a = b := by
 unfold St.same
 constructor
 ·intro h
  simp only [Bool.and_eq_true, beq_iff_eq] at h
  obtain ⟨⟨⟨⟨⟨h1, h2⟩, ⟨⟨⟨⟨⟨⟨h3, h4⟩, h5⟩, h6⟩, h7⟩, h8⟩, h9⟩⟩, ⟨⟨⟨⟨h10, h11⟩, h12⟩, h13⟩, h14⟩⟩, h15⟩, h16⟩ := h
  cases a; cases b; simp_all
 rintro rfl
 simp
theorem St.same_self (a : St) : a.same a = true := (St.same_iff a a).2 rfl
theorem St.same_rsame (a b : St) : a.same b = a.rsame b := by
 by_cases h : a = b
 ·rw [(St.same_iff a b).2 h, (St.rsame_iff a b).2 h]
 rw [Bool.eq_false_iff.2 (fun e => h ((St.same_iff a b).1 e)), Bool.eq_false_iff.2 (fun e => h ((St.rsame_iff a b).1 e))]
end Go.Ink
namespace Go.Proofs.YtmhpcgmjlpfheaaGreatDoor
open Go.RowKit Go.Ink
attribute [local irreducible] OpY GuardIs

theorem equal_ok (A A2 : Option Addr) (c c2 : Nat) (xs ys : List Int) (w : World) (h : Rd w .u32 A xs.length c xs) (h2 : Rd w .u32 A2 ys.length c2 ys) :
  Ctr Tryz.prog 19 [.slice A xs.length c, .slice A2 ys.length c2] w [] (fun v cs => v = .bool (xs == ys) ∧ cs = []) := by
 have hm := h.max
 have hc := h.cap
 unfold maxLen at hm
 refine fn_ctr Tryz.func19 rfl Tryz.ntmps19 rfl (Inv.start w) ?_
 refine Zs (Zr (ZA ?_))
 refine Zn (Zt (Zs (Zs (Zr (ZA ?_)))))
 iterate 4 refine ZA ?_
 refine Zn (Zt ?_)
 refine wc_cond _ rfl (fun hc1 => ?_) (fun hc1 => ?_)
 ·have hne : (xs == ys) = false := by rw [beq_eq_false_iff_ne]; rintro rfl; simp at hc1
  refine Zs (Zr (ZA ?_))
  refine Zn (Zt (Ze (Zw (ret1 (cs' := []) (.inl rfl) Zu rfl rfl ?_))))
  exact ⟨by rw [hne], rfl⟩
 have hlen : xs.length = ys.length := by (have : (xs.length : Int) = ys.length := by simpa using hc1); omega
 refine Zc (Zt (Zs (Zs (Zr (ZA ?_)))))
 iterate 2 refine ZA ?_
 refine Zn (Zt (Zx ?_))
 refine wc_loop (fun k : Nat => [(13, .int .i64 (k : Int)), (12, .int .i64 xs.length), (0, .slice A xs.length c), (1, .slice A2 ys.length c2)]) (fun _ => []) (fun k => k ≤ xs.length ∧ xs.take k = ys.take k) (fun k => xs.length - k) (0) ?_ ?_ ?_ ?_
 ·exact ⟨Nat.zero_le _, rfl⟩
 ·exact Zwk
 ·((repeat (first | exact List.Sublist.slnil | refine List.Sublist.cons_cons _ ?_ | refine List.Sublist.cons _ ?_)))
 rintro k ⟨hk, he⟩
 refine Zs (Zr (ZA ?_))
 refine Zn (Zt (Zs ?_))
 refine wc_cond _ rfl (fun hc4 => ?_) (fun hc4 => ?_)
 ·simp only [decide_eq_true_eq] at hc4
  obtain ⟨ad, rfl⟩ := h.some_ (by omega)
  obtain ⟨ad2, rfl⟩ := h2.some_ (by omega)
  refine Zc (Zt (Zs (Zx (Zs (Zr (ZA ?_))))))
  refine ZA ?_
  refine Zn (Zt (Zs (wc_draw ⟨fun j => List.elem j [], []⟩ Zk ?_)))
  refine ZE 0 ?_
  refine ZE 1 ?_
  refine wa_yn 2 rfl Zk Zk Zk (y_index  rfl (fun _ => rfl) (Zv rfl) (Zv rfl)  (fun _ => rfl) (fun _ => by omega)) rfl ?_
  refine wa_ln 3 rfl Zk Zk Zk Zk (y_load (fun _ => rfl) (Zv rfl)) (rd_cell h (ints_get (show k < xs.length by omega))) rfl ?_
  refine ZE 4 ?_
  refine ZE 5 ?_
  refine wa_yn 6 rfl Zk Zk Zk (y_index  rfl (fun _ => rfl) (Zv rfl) (Zv rfl)  (fun _ => rfl) (fun _ => by omega)) rfl ?_
  refine wa_ln 7 rfl Zk Zk Zk Zk (y_load (fun _ => rfl) (Zv rfl)) (rd_cell h2 (ints_get (show k < ys.length by omega))) rfl ?_
  refine ZE 8 ?_
  refine wa_done Zk ?_
  refine Zt ?_
  refine wc_cond _ rfl (fun hc6 => ?_) (fun hc6 => ?_)
  ·have hne : (xs == ys) = false := by rw [beq_eq_false_iff_ne]; rintro rfl; simp at hc6
   refine Zs (Zr (ZA ?_))
   refine Zn (Zt (Ze (Zq (Zw (Zw (Zq (Zw (ret1 (cs' := []) (.inl rfl) Zu rfl rfl ?_))))))))
   exact ⟨by rw [hne], rfl⟩
  have heq : xs[k]'(by omega) = ys[k]'(by omega) := by simpa using hc6
  refine Zc (Zo (Zt (Zr (Zy (y_add (Zv rfl) (Zv rfl) Zl) ?_))))
  refine ZA ?_
  refine Zn ?_
  refine q_mid (k + 1) ?_ ?_ ?_
  ·refine ⟨⟨by omega, ?_⟩, by omega⟩; rw [List.take_succ_eq_append_getElem (by omega), List.take_succ_eq_append_getElem (by omega), he, heq]
  ·exact Zwk
  ((repeat (first | exact List.Sublist.slnil | refine List.Sublist.cons_cons _ ?_ | refine List.Sublist.cons _ ?_)))
 simp only [decide_eq_false_iff_not] at hc4
 refine wc_exit ?_
 refine q_then_exit ?_
 refine q_then_exit ?_
 refine q_block_same rfl ?_
 refine Zt (Zs (Zr (ZA ?_)))
 refine Zn (Zt (Ze (ret1 (cs' := []) (.inl rfl) Zu rfl rfl ?_)))
 refine ⟨?_, rfl⟩
 have hkk : k = xs.length := by omega
 subst hkk
 rw [List.take_length] at he
 rw [he, hlen, List.take_length]
 simp

set_option maxRecDepth 100000 in
theorem same_ok (s t : St) (Ad Ar Bd Br : Option Addr) (cd cr ed er : Nat) (w : World) (h : RdSt w s Ad Ar cd cr) (h2 : RdSt w t Bd Br ed er) :
  Ctr Tryz.prog 12 [sv s Ad cd Ar cr, sv t Bd ed Br er] w [] (fun v cs => v = .bool (s.same t) ∧ cs = []) := by
 refine fn_ctr Tryz.func12 rfl Tryz.ntmps12 rfl (Inv.start w) ?_
 refine Zs (Zr (ZO fun b2 => ?_))
 refine ZO fun b3 => ?_
 refine ZA ?_
 refine Zn (Zt (Zs (Zr (ZFa 1 ?_))))
 refine ZC ?_
 refine ZFa 1 ?_
 refine ZC ?_
 refine wl_callg guard_none (.cons (Zv rfl) (.cons (Zv rfl) .nil)) (fun _ _ => rfl) (fun hg w hi => equal_ok Ad Bd cd ed s.d t.d w (h.d.oldN hi) (h2.d.oldN hi)) rfl ?_
 refine ZA ?_
 refine ZFb 2 ?_
 refine ZD ?_
 refine ZFb 2 ?_
 refine ZD ?_
 refine wl_callg (guard_yes rfl rfl) (.cons (ev_g rfl) (.cons (ev_g rfl) .nil)) (fun _ _ => rfl) (fun hg w hi => equal_ok Ar Br cr er s.r t.r w (h.r.oldN hi) (h2.r.oldN hi)) rfl ?_
 iterate 2 refine ZA ?_
 refine Zn (Zt (Zs (Zr (ZFa 0 ?_))))
 refine ZC ?_
 refine ZFa 0 ?_
 refine ZC ?_
 iterate 2 refine ZA ?_
 refine ZFb 3 ?_
 refine ZD ?_
 refine ZFb 3 ?_
 refine ZD ?_
 refine ZB ?_
 iterate 2 refine ZA ?_
 refine ZFb 4 ?_
 refine ZD ?_
 refine ZFb 4 ?_
 refine ZD ?_
 refine ZB ?_
 iterate 2 refine ZA ?_
 refine ZFb 5 ?_
 refine ZD ?_
 refine ZFb 5 ?_
 refine ZD ?_
 refine ZB ?_
 iterate 2 refine ZA ?_
 refine ZFb 6 ?_
 refine ZD ?_
 refine ZFb 6 ?_
 refine ZD ?_
 refine ZB ?_
 iterate 2 refine ZA ?_
 refine ZFb 7 ?_
 refine ZD ?_
 refine ZFb 7 ?_
 refine ZD ?_
 refine ZB ?_
 iterate 2 refine ZA ?_
 refine ZFb 8 ?_
 refine ZD ?_
 refine ZFb 8 ?_
 refine ZD ?_
 refine ZB ?_
 iterate 2 refine ZA ?_
 refine Zn (Zt (Zs (Zr (ZFa 9 ?_))))
 refine ZC ?_
 refine ZFa 9 ?_
 refine ZC ?_
 iterate 2 refine ZA ?_
 refine ZFb 10 ?_
 refine ZD ?_
 refine ZFb 10 ?_
 refine ZD ?_
 refine ZB ?_
 iterate 2 refine ZA ?_
 refine ZFb 11 ?_
 refine ZD ?_
 refine ZFb 11 ?_
 refine ZD ?_
 refine ZB ?_
 iterate 2 refine ZA ?_
 refine ZFb 12 ?_
 refine ZD ?_
 refine ZFb 12 ?_
 refine ZD ?_
 refine ZB ?_
 iterate 2 refine ZA ?_
 refine ZFb 13 ?_
 refine ZD ?_
 refine ZFb 13 ?_
 refine ZD ?_
 refine ZB ?_
 iterate 2 refine ZA ?_
 refine Zn (Zt (Zs (Zr (ZA ?_))))
 refine ZA ?_
 refine ZB ?_
 iterate 2 refine ZA ?_
 refine ZB ?_
 iterate 2 refine ZA ?_
 refine ZFb 14 ?_
 refine ZD ?_
 refine ZFb 14 ?_
 refine ZD ?_
 refine ZB ?_
 iterate 2 refine ZA ?_
 refine ZFb 15 ?_
 refine ZD ?_
 refine ZFb 15 ?_
 refine ZD ?_
 refine ZB ?_
 iterate 2 refine ZA ?_
 refine Zn (Zt (Ze (ret1 (cs' := []) (.inl rfl) Zu rfl rfl ?_)))
 exact ⟨rfl, rfl⟩
end Go.Proofs.YtmhpcgmjlpfheaaGreatDoor
