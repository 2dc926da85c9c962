/- The law BlockCounts: how many instructions a block and a run do. -/
import Derived.Test.YthcpmpmbgbibfaaGreatDoorBkU
import Derived.Test.YthcpmpmbgbibfaaGreatDoorInkA
set_option linter.unusedSimpArgs false
set_option linter.unusedVariables false
set_option maxRecDepth 100000
namespace Go.Ink
open Go.RowKit
theorem block_halted {n : Nat} {s : St} {U : Mmu} {d : Dev} (h : s.halted = true) : blockTo n s U d = (s, U, d) := by
 unfold blockTo
 rw [beginTo_no (by rw [h, Bool.or_true])]
 rfl
theorem run_lt {n : Nat} {m f : Int} (hm : m ≤ 60) {o0 i : Nat} {q : St × Mmu × Dev} (h : RunOk n m f o0 i q) : i ≤ 1000000 := by
 obtain ⟨c, h3, h4, h5, h6⟩ := h.cnt
 cases e : decide (0 < m) with
 | true => rw [e, cond_true] at h6; omega
 | false => rw [e, cond_false] at h6; omega
theorem runGo_end {n : Nat} {m f : Int} (hm : m ≤ 60) {o0 : Nat} : ∀ (k i : Nat) (q : St × Mmu × Dev), RunOk n m f o0 i q → m.toNat ≤ i + k → ∃ i', RunOk n m f o0 i' (runGo n m f k q) ∧ runCond m f (runGo n m f k q).1 = false
 | 0, i, q, h, hk => by
  refine ⟨i, h, ?_⟩
  cases hc : runCond m f q.1 with
  | false => exact hc
  | true => have := (run_step (by omega) (run_lt hm h) h hc).2; omega
 | k + 1, i, q, h, hk => by
  cases hc : runCond m f q.1 with
  | false => rw [runGo_stop hc]; exact ⟨i, h, hc⟩
  | true =>
   rw [runGo_go hc]
   exact runGo_end hm k (i + 1) _ (run_step (by omega) (run_lt hm h) h hc).1 (by omega)
/-- What a run comes to, as the law asks for it. -/
theorem run_counts {n : Nat} {m : Int} (hm : m ≤ 60) {s : St} {U : Mmu} {d : Dev} (h : GOk n s U d) :
  ∃ c : Nat, IntKind.u64.wrap ((runTo n m s U d).1.count - s.count) = (c : Int) ∧ c < 68 ∧
   ((decide (m < 1) || s.halted) = true → c = 0 ∧ runTo n m s U d = (s, U, d)) ∧
   ((decide (m < 1) || s.halted) = false → ((runTo n m s U d).1.halted || decide (m ≤ (c : Int))) = true ∧ (c : Int) < m + 8) := by
 have h0 : RunOk n m s.count d.out.length 0 (s, U, d) := ⟨h, Nat.le_refl _, 0, by show IntKind.u64.wrap (s.count - s.count) = 0; rw [Int.sub_self]; rfl, Nat.le_refl _, Nat.le_refl _, by cases hd : decide (0 < m) with | false => (show (0 : Int) < 0 + 8; omega) | true => (simp only [decide_eq_true_eq] at hd; show (0 : Int) < m + 8; omega)⟩
 cases hc : (decide (m < 1) || s.halted) with
 | true =>
  have e : runTo n m s U d = (s, U, d) := by
   unfold runTo
   exact runGo_stop (by
    unfold runCond
    cases hh : s.halted with
    | true => simp
    | false => rw [hh, Bool.or_false, decide_eq_true_eq] at hc; rw [decide_eq_false (show ¬ 0 < m by omega)]; rfl)
  refine ⟨0, ?_, by omega, fun _ => ⟨rfl, e⟩, (by intro q; cases q)⟩
  rw [e]
  show IntKind.u64.wrap (s.count - s.count) = 0
  rw [Int.sub_self]; rfl
 | false =>
  have hm1 : ¬ m < 1 := fun q => by rw [decide_eq_true q] at hc; cases hc
  obtain ⟨i', r1, r2⟩ := runGo_end hm m.toNat 0 (s, U, d) h0 (by omega)
  obtain ⟨c, h3, h4, h5, h6⟩ := r1.cnt
  rw [decide_eq_true (show 0 < m by omega), cond_true] at h6
  refine ⟨c, h3, by omega, (by intro q; cases q), fun _ => ⟨?_, h6⟩⟩
  unfold runCond at r2
  rw [h3, decide_eq_true (show 0 < m by omega), Bool.true_and] at r2
  show ((runGo n m s.count m.toNat (s, U, d)).1.halted || decide (m ≤ (c : Int))) = true
  cases hh : (runGo n m s.count m.toNat (s, U, d)).1.halted with
  | true => rfl
  | false =>
   rw [hh] at r2
   simp only [Bool.not_false, Bool.true_and, decide_eq_false_iff_not] at r2
   rw [Bool.false_or, decide_eq_true_eq]; omega
end Go.Ink
namespace Go.Proofs.YthcpmpmbgbibfaaGreatDoor
open Go.RowKit Go.Ink
attribute [local irreducible] OpY GuardIs

theorem within2_ok (n lo hi : Int) (w : World) (h0 : -1000 ≤ lo) (h1 : lo ≤ hi) (h2 : hi ≤ 1000000000000) : Ctr Tryz.prog 10 [.int .i64 n, .int .i64 lo, .int .i64 hi] w [] (fun v cs => v = .int .i64 (within n lo hi) ∧ cs = []) := by
 obtain ⟨m, hm⟩ : ∃ m, m = hi - lo + 1 := ⟨_, rfl⟩
 obtain ⟨t, ht⟩ : ∃ t, t = n.tmod m := ⟨_, rfl⟩
 have e1 : t < m := by rw [ht]; exact Int.tmod_lt_of_pos _ (by omega)
 have e2 : - m < t := by
  have := Int.tmod_lt_of_pos (-n) (b := m) (by omega)
  rw [Int.neg_tmod] at this
  omega
 have e3 : t % m = n % m := by
  rw [ht, Int.tmod_eq_emod]
  split
  ·simp
  rw [Int.natAbs_of_nonneg (by omega)]; simp
 rw [hm] at ht e1 e2
 refine fn_ctr Tryz.func10 rfl Tryz.ntmps10 rfl (Inv.start w) ?_
 refine Zs (Zr (ZA ?_))
 refine Zn (Zt (Zs (Zr (ZA ?_))))
 iterate 2 refine ZA ?_
 refine Zy (y_sub (Zv rfl) (Zv rfl) Zl) ?_
 refine Zy (y_add (Zv rfl) (Zv rfl) Zl) ?_
 refine Zy (y_rem (Zv rfl) (Zv rfl) (by omega) (show _ = t from by rw [ht])) ?_
 refine ZA ?_
 refine Zn (Zt (Zs (Zs (Zr (ZA ?_)))))
 refine ZA ?_
 refine Zn (Zt ?_)
 refine wc_cond _ rfl (fun hc2 => ?_) (fun hc2 => ?_)
 ·refine Zr (ZA ?_)
  refine ZA ?_
  refine Zy (y_add (Zv rfl) (Zv rfl) Zl) ?_
  refine ZA ?_
  refine Zy (y_sub (Zv rfl) (Zv rfl) Zl) ?_
  refine Zy (y_add (Zv rfl) (Zv rfl) Zl) ?_
  refine ZA ?_
  refine Zn (Zt (Zs (Zr (ZA ?_))))
  refine ZA ?_
  refine Zy (y_add (Zv rfl) (Zv rfl) Zl) ?_
  refine ZA ?_
  refine Zn (Zt (Ze (ret1 (cs' := []) (.inl rfl) Zu rfl rfl ?_)))
  simp only [decide_eq_true_eq] at hc2
  refine ⟨congrArg _ ?_, rfl⟩
  unfold within
  rw [← hm, ← e3]
  have e4 : (t + m) % m = t % m := by simp
  rw [← e4, Int.emod_eq_of_lt (by omega) (by omega)]
  omega
 refine Zc (Zt (Zs (Zr (ZA ?_))))
 refine ZA ?_
 refine Zy (y_add (Zv rfl) (Zv rfl) Zl) ?_
 refine ZA ?_
 refine Zn (Zt (Ze (ret1 (cs' := []) (.inl rfl) Zu rfl rfl ?_)))
 simp only [decide_eq_false_iff_not] at hc2
 refine ⟨congrArg _ ?_, rfl⟩
 unfold within
 rw [← hm, ← e3, Int.emod_eq_of_lt (by omega) (by omega)]
end Go.Proofs.YthcpmpmbgbibfaaGreatDoor
