/- The small functions: number, Within, Clone, Copy. -/
import Derived.Test.YtjknccgefnnfnaaProg
import Derived.Test.YtjknccgefnnfnaaStM
set_option linter.unusedSimpArgs false
set_option linter.unusedVariables false
namespace Go.Proofs.Ytjknccgefnnfnaa
open Go.RowKit Go.Ink

theorem number_ok (b : Bool) (w : World) : Ctr Try.prog 25 [.bool b] w [] (fun v cs => v = .int .u32 (b2i b) ∧ cs = []) := by
  refine fn_ctr Try.func25 rfl Try.ntmps25 rfl (Inv.start w) ?_
  refine wc_seq ?_
  refine wc_region ?_
  refine wl_y (y_assign (ev_rfl rfl)) (fun _ _ => trivial) rfl ?_
  refine wl_nil ?_
  refine q_then ?_
  refine wc_seq ?_
  refine wc_seq ?_
  refine wc_region ?_
  refine wl_y (y_move (ev_rfl rfl)) (fun _ _ => trivial) rfl ?_
  refine wl_nil ?_
  refine q_then ?_
  refine wc_cond _ rfl (fun hc1 => ?_) (fun hc1 => ?_)
  · subst hc1
    refine wc_seq ?_
    refine wc_region ?_
    refine wl_y (y_assign (ev_rfl rfl)) (fun _ _ => trivial) rfl ?_
    refine wl_nil ?_
    refine q_then ?_
    refine wc_ret ?_
    refine q_then_ret ?_
    refine ret1 (cs' := []) (.inl rfl) (by ((repeat (first | exact List.Sublist.slnil | refine List.Sublist.cons_cons _ ?_ | refine List.Sublist.cons _ ?_)))) rfl rfl ?_
    exact ⟨rfl, rfl⟩
  · subst hc1
    refine wc_skip ?_
    refine q_then ?_
    refine wc_seq ?_
    refine wc_region ?_
    refine wl_y (y_assign (ev_rfl rfl)) (fun _ _ => trivial) rfl ?_
    refine wl_nil ?_
    refine q_then ?_
    refine wc_ret ?_
    refine ret1 (cs' := []) (.inl rfl) (by ((repeat (first | exact List.Sublist.slnil | refine List.Sublist.cons_cons _ ?_ | refine List.Sublist.cons _ ?_)))) rfl rfl ?_
    exact ⟨rfl, rfl⟩

theorem within_ok (n lo hi : Int) (w : World) (h0 : 0 ≤ lo) (h1 : lo ≤ hi) (h2 : hi ≤ 1000000000000) : Ctr Try.prog 10 [.int .i64 n, .int .i64 lo, .int .i64 hi] w [] (fun v cs => v = .int .i64 (within n lo hi) ∧ cs = []) := by
  obtain ⟨m, hm⟩ : ∃ m, m = hi - lo + 1 := ⟨_, rfl⟩
  obtain ⟨t, ht⟩ : ∃ t, t = n.tmod m := ⟨_, rfl⟩
  have e1 : t < m := by rw [ht]; exact Int.tmod_lt_of_pos _ (by omega)
  have e2 : - m < t := by
    have := Int.tmod_lt_of_pos (-n) (b := m) (by omega)
    rw [Int.neg_tmod] at this
    omega
  have e3 : t % m = n % m := by
    rw [ht, Int.tmod_eq_emod]
    split
    · simp
    · rw [Int.natAbs_of_nonneg (by omega)]; simp
  rw [hm] at ht e1 e2
  refine fn_ctr Try.func10 rfl Try.ntmps10 rfl (Inv.start w) ?_
  refine wc_seq ?_
  refine wc_region ?_
  refine wl_y (y_assign (ev_rfl rfl)) (fun _ _ => trivial) rfl ?_
  refine wl_nil ?_
  refine q_then ?_
  refine wc_seq ?_
  refine wc_region ?_
  refine wl_y (y_move (ev_rfl rfl)) (fun _ _ => trivial) rfl ?_
  refine wl_y (y_move (ev_rfl rfl)) (fun _ _ => trivial) rfl ?_
  refine wl_y (y_move (ev_rfl rfl)) (fun _ _ => trivial) rfl ?_
  refine wl_y (y_sub (ev_rfl rfl) (ev_rfl rfl) (by first | exact IntWalk.i64_in _ ⟨by omega, by omega⟩ | exact rfl)) (fun _ _ => trivial) rfl ?_
  refine wl_y (y_add (ev_rfl rfl) (ev_rfl rfl) (by first | exact IntWalk.i64_in _ ⟨by omega, by omega⟩ | exact rfl)) (fun _ _ => trivial) rfl ?_
  refine wl_y (y_rem (ev_rfl rfl) (ev_rfl rfl) (by omega) (show _ = t from by rw [ht])) (fun _ _ => trivial) rfl ?_
  refine wl_y (y_assign (ev_rfl rfl)) (fun _ _ => trivial) rfl ?_
  refine wl_nil ?_
  refine q_then ?_
  refine wc_seq ?_
  refine wc_seq ?_
  refine wc_region ?_
  refine wl_y (y_move (ev_rfl rfl)) (fun _ _ => trivial) rfl ?_
  refine wl_y (y_lss (ev_rfl rfl) (ev_rfl rfl) rfl) (fun _ _ => trivial) rfl ?_
  refine wl_nil ?_
  refine q_then ?_
  refine wc_cond _ rfl (fun hc2 => ?_) (fun hc2 => ?_)
  · refine wc_region ?_
    refine wl_y (y_move (ev_rfl rfl)) (fun _ _ => trivial) rfl ?_
    refine wl_y (y_move (ev_rfl rfl)) (fun _ _ => trivial) rfl ?_
    refine wl_y (y_add (ev_rfl rfl) (ev_rfl rfl) (by first | exact IntWalk.i64_in _ ⟨by omega, by omega⟩ | exact rfl)) (fun _ _ => trivial) rfl ?_
    refine wl_y (y_move (ev_rfl rfl)) (fun _ _ => trivial) rfl ?_
    refine wl_y (y_sub (ev_rfl rfl) (ev_rfl rfl) (by first | exact IntWalk.i64_in _ ⟨by omega, by omega⟩ | exact rfl)) (fun _ _ => trivial) rfl ?_
    refine wl_y (y_add (ev_rfl rfl) (ev_rfl rfl) (by first | exact IntWalk.i64_in _ ⟨by omega, by omega⟩ | exact rfl)) (fun _ _ => trivial) rfl ?_
    refine wl_y (y_assign (ev_rfl rfl)) (fun _ _ => trivial) rfl ?_
    refine wl_nil ?_
    refine q_then ?_
    refine wc_seq ?_
    refine wc_region ?_
    refine wl_y (y_move (ev_rfl rfl)) (fun _ _ => trivial) rfl ?_
    refine wl_y (y_move (ev_rfl rfl)) (fun _ _ => trivial) rfl ?_
    refine wl_y (y_add (ev_rfl rfl) (ev_rfl rfl) (by first | exact IntWalk.i64_in _ ⟨by omega, by omega⟩ | exact rfl)) (fun _ _ => trivial) rfl ?_
    refine wl_y (y_assign (ev_rfl rfl)) (fun _ _ => trivial) rfl ?_
    refine wl_nil ?_
    refine q_then ?_
    refine wc_ret ?_
    refine ret1 (cs' := []) (.inl rfl) (by ((repeat (first | exact List.Sublist.slnil | refine List.Sublist.cons_cons _ ?_ | refine List.Sublist.cons _ ?_)))) rfl rfl ?_
    simp only [decide_eq_true_eq] at hc2
    refine ⟨congrArg _ ?_, rfl⟩
    unfold within
    rw [← hm, ← e3]
    have e4 : (t + m) % m = t % m := by simp
    rw [← e4, Int.emod_eq_of_lt (by omega) (by omega)]
    omega
  · refine wc_skip ?_
    refine q_then ?_
    refine wc_seq ?_
    refine wc_region ?_
    refine wl_y (y_move (ev_rfl rfl)) (fun _ _ => trivial) rfl ?_
    refine wl_y (y_move (ev_rfl rfl)) (fun _ _ => trivial) rfl ?_
    refine wl_y (y_add (ev_rfl rfl) (ev_rfl rfl) (by first | exact IntWalk.i64_in _ ⟨by omega, by omega⟩ | exact rfl)) (fun _ _ => trivial) rfl ?_
    refine wl_y (y_assign (ev_rfl rfl)) (fun _ _ => trivial) rfl ?_
    refine wl_nil ?_
    refine q_then ?_
    refine wc_ret ?_
    refine ret1 (cs' := []) (.inl rfl) (by ((repeat (first | exact List.Sublist.slnil | refine List.Sublist.cons_cons _ ?_ | refine List.Sublist.cons _ ?_)))) rfl rfl ?_
    simp only [decide_eq_false_iff_not] at hc2
    refine ⟨congrArg _ ?_, rfl⟩
    unfold within
    rw [← hm, ← e3, Int.emod_eq_of_lt (by omega) (by omega)]
end Go.Proofs.Ytjknccgefnnfnaa
