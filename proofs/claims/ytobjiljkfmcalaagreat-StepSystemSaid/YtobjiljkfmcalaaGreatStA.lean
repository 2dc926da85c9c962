/- The small functions: number, Within, Clone, Copy. -/
import Derived.Test.YtobjiljkfmcalaaGreatProg
import Derived.Test.YtobjiljkfmcalaaGreatInkS
import Derived.Test.YtobjiljkfmcalaaGreatStM
set_option linter.unusedSimpArgs false
set_option linter.unusedVariables false
set_option maxRecDepth 100000
namespace Go.Proofs.YtobjiljkfmcalaaGreat
open Go.RowKit Go.Ink

theorem number_ok (b : Bool) (w : World) : Ctr Tryz.prog 91 [.bool b] w [] (fun v cs => v = .int .u32 (b2i b) ∧ cs = []) := by
  refine fn_ctr Tryz.func91 rfl Tryz.ntmps91 rfl (Inv.start w) ?_
  refine Zs (Zr (Zg rfl (Zn (Zt (Zs (Zs (Zr (Zm rfl (Zn (Zt ?_))))))))))
  refine wc_cond _ rfl (fun hc1 => ?_) (fun hc1 => ?_)
  · subst hc1
    refine Zs (Zr (Zg rfl (Zn (Zt (Ze (Zw (ret1 (cs' := []) (.inl rfl) Zu rfl rfl ?_)))))))
    exact ⟨rfl, rfl⟩
  subst hc1
  refine Zc (Zt (Zs (Zr (Zg rfl (Zn (Zt (Ze (ret1 (cs' := []) (.inl rfl) Zu rfl rfl ?_))))))))
  exact ⟨rfl, rfl⟩

theorem within_ok (n lo hi : Int) (w : World) (h0 : 0 ≤ lo) (h1 : lo ≤ hi) (h2 : hi ≤ 1000000000000) : Ctr Tryz.prog 20 [.int .i64 n, .int .i64 lo, .int .i64 hi] w [] (fun v cs => v = .int .i64 (within n lo hi) ∧ cs = []) := by
  obtain ⟨m, hm⟩ : ∃ m, m = hi - lo + 1 := ⟨_, rfl⟩
  obtain ⟨t, ht⟩ : ∃ t, t = n.tmod m := ⟨_, rfl⟩
  have e1 : t < m := by rw [ht]; exact Int.tmod_lt_of_pos _ (by omega)
  have e2 : - m < t := by
    have := Int.tmod_lt_of_pos (-n) (b := m) (by omega)
    rw [Int.neg_tmod] at this
    omega
  have e3 : t % m = n % m := by
    rw [ht, Int.tmod_eq_emod]
    split
    · simp
    rw [Int.natAbs_of_nonneg (by omega)]; simp
  rw [hm] at ht e1 e2
  refine fn_ctr Tryz.func20 rfl Tryz.ntmps20 rfl (Inv.start w) ?_
  refine Zs (Zr (Zg rfl (Zn (Zt (Zs (Zr (Zm rfl (Zm rfl (Zm rfl (Zy (y_sub (Zv rfl) (Zv rfl) Zl) ?_))))))))))
  refine Zy (y_add (Zv rfl) (Zv rfl) Zl) ?_
  refine Zy (y_rem (Zv rfl) (Zv rfl) (by omega) (show _ = t from by rw [ht])) ?_
  refine Zg rfl (Zn (Zt (Zs (Zs (Zr (Zm rfl (Zy (y_lss (Zv rfl) (Zv rfl) rfl) (Zn (Zt ?_)))))))))
  refine wc_cond _ rfl (fun hc2 => ?_) (fun hc2 => ?_)
  · refine Zr (Zm rfl (Zm rfl (Zy (y_add (Zv rfl) (Zv rfl) Zl) ?_)))
    refine Zm rfl (Zy (y_sub (Zv rfl) (Zv rfl) Zl) ?_)
    refine Zy (y_add (Zv rfl) (Zv rfl) Zl) ?_
    refine Zg rfl (Zn (Zt (Zs (Zr (Zm rfl (Zm rfl (Zy (y_add (Zv rfl) (Zv rfl) Zl) ?_)))))))
    refine Zg rfl (Zn (Zt (Ze (ret1 (cs' := []) (.inl rfl) Zu rfl rfl ?_))))
    simp only [decide_eq_true_eq] at hc2
    refine ⟨congrArg _ ?_, rfl⟩
    unfold within
    rw [← hm, ← e3]
    have e4 : (t + m) % m = t % m := by simp
    rw [← e4, Int.emod_eq_of_lt (by omega) (by omega)]
    omega
  refine Zc (Zt (Zs (Zr (Zm rfl (Zm rfl (Zy (y_add (Zv rfl) (Zv rfl) Zl) ?_))))))
  refine Zg rfl (Zn (Zt (Ze (ret1 (cs' := []) (.inl rfl) Zu rfl rfl ?_))))
  simp only [decide_eq_false_iff_not] at hc2
  refine ⟨congrArg _ ?_, rfl⟩
  unfold within
  rw [← hm, ← e3, Int.emod_eq_of_lt (by omega) (by omega)]
end Go.Proofs.YtobjiljkfmcalaaGreat
