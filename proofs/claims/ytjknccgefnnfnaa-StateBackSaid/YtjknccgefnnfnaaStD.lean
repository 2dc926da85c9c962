/- The reference's Copy, same, Same; Trim. -/
import Derived.Test.YtjknccgefnnfnaaStC
set_option linter.unusedSimpArgs false
set_option linter.unusedVariables false
namespace Go.Proofs.Ytjknccgefnnfnaa
open Go.RowKit Go.Ink

theorem refcopy_ok (s : St) (Ad Ar : Option Addr) (cd cr : Nat) (w : World) (h : RdSt w s Ad Ar cd cr) : Ctr Try.prog 18 [sv s Ad cd Ar cr] w [] (OwnSt s) := by
  have hd := h.hd
  have hr := h.hr
  refine fn_ctr Try.func18 rfl Try.ntmps18 rfl (Inv.start w) ?_
  refine wc_seq ?_
  refine wc_region ?_
  refine wl_t (t_box rfl rfl) rfl ?_
  rintro _ _ ⟨b1, rfl, rfl⟩
  refine wl_t (t_alloc (fun _ => rfl) rfl) rfl ?_
  rintro _ _ ⟨b2, rfl, rfl⟩
  refine wl_nil ?_
  refine q_then ?_
  refine wc_seq ?_
  refine wc_region ?_
  refine wl_t (t_buildSl1 rfl rfl (fun _ => rfl) (fun _ => rfl) rfl rfl) rfl ?_
  rintro _ _ ⟨b3, rfl, rfl⟩
  refine wl_y (y_field 1 rfl (ev_rfl rfl) (by first | exact Nat.zero_add _ | exact rfl)) (fun _ _ => trivial) rfl ?_
  refine wl_y (y_load (fun _ => rfl) (ev_rfl rfl)) (row_cell (by first | exact hasC0 | exact hasC1 | exact hasC2 | exact hasC3 | exact hasC4 | exact hasC5 | exact hasC6 | exact hasC7 | exact hasC8 | exact hasC9 | exact hasC10 | exact hasC11 | exact hasC12 | exact hasC13 | exact hasC14 | exact hasC15 | exact hasC16 | exact hasC17 | exact hasC18 | exact hasC19 | exact hasC20 | exact hasC21 | exact hasC22 | exact hasC23) rfl) rfl ?_
  refine wl_t (t_append (e := 22) (sz := 1) (bytes := 4) rfl rfl (by first | exact atC0 | exact atC1 | exact atC2 | exact atC3 | exact atC4 | exact atC5 | exact atC6 | exact atC7 | exact atC8 | exact atC9 | exact atC10 | exact atC11 | exact atC12 | exact atC13 | exact atC14 | exact atC15 | exact atC16 | exact atC17 | exact atC18 | exact atC19 | exact atC20 | exact atC21 | exact atC22 | exact atC23) rfl rfl (fun w hi => h.d.oldN hi) ints_one (by simp only [maxLen]; omega) (by omega)) rfl ?_
  rintro _ _ ⟨A1, c1, rfl, rfl⟩
  simp only [Nat.zero_add, List.nil_append]
  refine wl_y (y_field 1 rfl (ev_rfl rfl) (by first | exact Nat.zero_add _ | exact rfl)) (fun _ _ => trivial) rfl ?_
  refine wl_t0 (t_store (fun _ => rfl) rfl rfl rfl (by first | exact atC0 | exact atC1 | exact atC2 | exact atC3 | exact atC4 | exact atC5 | exact atC6 | exact atC7 | exact atC8 | exact atC9 | exact atC10 | exact atC11 | exact atC12 | exact atC13 | exact atC14 | exact atC15 | exact atC16 | exact atC17 | exact atC18 | exact atC19 | exact atC20 | exact atC21 | exact atC22 | exact atC23) (by (repeat (first | exact SetAt.zero _ _ _ | apply SetAt.succ)))) ?_
  rintro _ _ ⟨rfl, rfl⟩
  refine wl_nil ?_
  refine q_then ?_
  refine wc_seq ?_
  refine wc_region ?_
  refine wl_t (t_buildSl1 rfl rfl (fun _ => rfl) (fun _ => rfl) rfl rfl) rfl ?_
  rintro _ _ ⟨b8, rfl, rfl⟩
  refine wl_y (y_field 2 rfl (ev_rfl rfl) (by first | exact Nat.zero_add _ | exact rfl)) (fun _ _ => trivial) rfl ?_
  refine wl_y (y_load (fun _ => rfl) (ev_rfl rfl)) (row_cell (by first | exact hasC0 | exact hasC1 | exact hasC2 | exact hasC3 | exact hasC4 | exact hasC5 | exact hasC6 | exact hasC7 | exact hasC8 | exact hasC9 | exact hasC10 | exact hasC11 | exact hasC12 | exact hasC13 | exact hasC14 | exact hasC15 | exact hasC16 | exact hasC17 | exact hasC18 | exact hasC19 | exact hasC20 | exact hasC21 | exact hasC22 | exact hasC23) rfl) rfl ?_
  refine wl_t (t_append (e := 22) (sz := 1) (bytes := 4) rfl rfl (by first | exact atC0 | exact atC1 | exact atC2 | exact atC3 | exact atC4 | exact atC5 | exact atC6 | exact atC7 | exact atC8 | exact atC9 | exact atC10 | exact atC11 | exact atC12 | exact atC13 | exact atC14 | exact atC15 | exact atC16 | exact atC17 | exact atC18 | exact atC19 | exact atC20 | exact atC21 | exact atC22 | exact atC23) rfl rfl (fun w hi => h.r.oldN hi) ints_one (by simp only [maxLen]; omega) (by omega)) rfl ?_
  rintro _ _ ⟨A2, c2, rfl, rfl⟩
  simp only [Nat.zero_add, List.nil_append]
  refine wl_y (y_field 2 rfl (ev_rfl rfl) (by first | exact Nat.zero_add _ | exact rfl)) (fun _ _ => trivial) rfl ?_
  refine wl_t0 (t_store (fun _ => rfl) rfl rfl rfl (by first | exact atC0 | exact atC1 | exact atC2 | exact atC3 | exact atC4 | exact atC5 | exact atC6 | exact atC7 | exact atC8 | exact atC9 | exact atC10 | exact atC11 | exact atC12 | exact atC13 | exact atC14 | exact atC15 | exact atC16 | exact atC17 | exact atC18 | exact atC19 | exact atC20 | exact atC21 | exact atC22 | exact atC23) (by (repeat (first | exact SetAt.zero _ _ _ | apply SetAt.succ)))) ?_
  rintro _ _ ⟨rfl, rfl⟩
  refine wl_nil ?_
  refine q_then ?_
  refine wc_seq ?_
  refine wc_region ?_
  refine wl_loadRow (by first | exact hasC0 | exact hasC1 | exact hasC2 | exact hasC3 | exact hasC4 | exact hasC5 | exact hasC6 | exact hasC7 | exact hasC8 | exact hasC9 | exact hasC10 | exact hasC11 | exact hasC12 | exact hasC13 | exact hasC14 | exact hasC15 | exact hasC16 | exact hasC17 | exact hasC18 | exact hasC19 | exact hasC20 | exact hasC21 | exact hasC22 | exact hasC23) (fun _ => rfl) (fun _ => rfl) (ev_rfl rfl) rfl ?_
  refine wl_t0 (t_storeN (fun _ => rfl) rfl rfl (allT rfl) (by first | exact atC0 | exact atC1 | exact atC2 | exact atC3 | exact atC4 | exact atC5 | exact atC6 | exact atC7 | exact atC8 | exact atC9 | exact atC10 | exact atC11 | exact atC12 | exact atC13 | exact atC14 | exact atC15 | exact atC16 | exact atC17 | exact atC18 | exact atC19 | exact atC20 | exact atC21 | exact atC22 | exact atC23) (by exact rfl)) ?_
  rintro _ _ ⟨rfl, rfl⟩
  refine wl_nil ?_
  refine q_then ?_
  refine wc_ret ?_
  refine retC (cs' := [slv _ _ _ _ _ _, slv _ _ _ _ _ _]) (.inl rfl) (by ((repeat (first | exact List.Sublist.slnil | refine List.Sublist.cons_cons _ ?_ | refine List.Sublist.cons _ ?_)))) rfl rfl (by first | exact hasC0 | exact hasC1 | exact hasC2 | exact hasC3 | exact hasC4 | exact hasC5 | exact hasC6 | exact hasC7 | exact hasC8 | exact hasC9 | exact hasC10 | exact hasC11 | exact hasC12 | exact hasC13 | exact hasC14 | exact hasC15 | exact hasC16 | exact hasC17 | exact hasC18 | exact hasC19 | exact hasC20 | exact hasC21 | exact hasC22 | exact hasC23) (fun _ => rfl) (fun _ => rfl) ?_
  exact ⟨A1, c1, A2, c2, rfl, rfl⟩

theorem rsame_ok (A A2 : Option Addr) (c c2 : Nat) (xs ys : List Int) (w : World) (h : Rd w .u32 A xs.length c xs) (h2 : Rd w .u32 A2 ys.length c2 ys) :
    Ctr Try.prog 26 [.slice A xs.length c, .slice A2 ys.length c2] w [] (fun v cs => v = .bool (xs == ys) ∧ cs = []) := by
  have hm := h.max
  have hc := h.cap
  unfold maxLen at hm
  refine fn_ctr Try.func26 rfl Try.ntmps26 rfl (Inv.start w) ?_
  refine wc_seq ?_
  refine wc_region ?_
  refine wl_y (y_assign (ev_rfl rfl)) (fun _ _ => trivial) rfl ?_
  refine wl_nil ?_
  refine q_then ?_
  refine wc_seq ?_
  refine wc_seq ?_
  refine wc_region ?_
  refine wl_y (y_move (ev_rfl rfl)) (fun _ _ => trivial) rfl ?_
  refine wl_y (y_len ⟨_, rfl⟩ (ev_rfl rfl)) (fun _ _ => trivial) rfl ?_
  refine wl_y (y_move (ev_rfl rfl)) (fun _ _ => trivial) rfl ?_
  refine wl_y (y_len ⟨_, rfl⟩ (ev_rfl rfl)) (fun _ _ => trivial) rfl ?_
  refine wl_y (y_neq (ev_rfl rfl) (ev_rfl rfl) rfl) (fun _ _ => trivial) rfl ?_
  refine wl_nil ?_
  refine q_then ?_
  refine wc_cond _ rfl (fun hc1 => ?_) (fun hc1 => ?_)
  · have hne : (xs == ys) = false := by rw [beq_eq_false_iff_ne]; rintro rfl; simp at hc1
    refine wc_seq ?_
    refine wc_region ?_
    refine wl_y (y_assign (ev_rfl rfl)) (fun _ _ => trivial) rfl ?_
    refine wl_nil ?_
    refine q_then ?_
    refine wc_ret ?_
    refine q_then_ret ?_
    refine ret1 (cs' := []) (.inl rfl) (by ((repeat (first | exact List.Sublist.slnil | refine List.Sublist.cons_cons _ ?_ | refine List.Sublist.cons _ ?_)))) rfl rfl ?_
    exact ⟨by rw [hne], rfl⟩
  · have hlen : xs.length = ys.length := by (have : (xs.length : Int) = ys.length := by simpa using hc1); omega
    refine wc_skip ?_
    refine q_then ?_
    refine wc_seq ?_
    refine wc_seq ?_
    refine wc_region ?_
    refine wl_y (y_assign (ev_rfl rfl)) (fun _ _ => trivial) rfl ?_
    refine wl_nil ?_
    refine q_then ?_
    refine wc_block ?_
    refine wc_loop (fun k : Nat => [(5, .int .i64 (k : Int)), (0, .slice A xs.length c), (1, .slice A2 ys.length c2)]) (fun _ => []) (fun k => k ≤ xs.length ∧ xs.take k = ys.take k) (fun k => xs.length - k) (0) ?_ ?_ ?_ ?_
    · exact ⟨Nat.zero_le _, rfl⟩
    · ((repeat' (refine Wk.cons ?_ ?_)) <;> first | exact Wk.nil | exact rfl | exact trivial | exact wk_num rfl (by omega) | exact wk_num rfl (by simp))
    · ((repeat (first | exact List.Sublist.slnil | refine List.Sublist.cons_cons _ ?_ | refine List.Sublist.cons _ ?_)))
    · rintro k ⟨hk, he⟩
      refine wc_seq ?_
      refine wc_seq ?_
      refine wc_region ?_
      refine wl_y (y_move (ev_rfl rfl)) (fun _ _ => trivial) rfl ?_
      refine wl_y (y_move (ev_rfl rfl)) (fun _ _ => trivial) rfl ?_
      refine wl_y (y_len ⟨_, rfl⟩ (ev_rfl rfl)) (fun _ _ => trivial) rfl ?_
      refine wl_y (y_lss (ev_rfl rfl) (ev_rfl rfl) rfl) (fun _ _ => trivial) rfl ?_
      refine wl_nil ?_
      refine q_then ?_
      refine wc_cond _ rfl (fun hc4 => ?_) (fun hc4 => ?_)
      · simp only [decide_eq_true_eq] at hc4
        obtain ⟨ad, rfl⟩ := h.some_ (by omega)
        obtain ⟨ad2, rfl⟩ := h2.some_ (by omega)
        refine wc_skip ?_
        refine q_then ?_
        refine wc_seq ?_
        refine wc_block ?_
        refine wc_seq ?_
        refine wc_draw ⟨fun j => List.elem j [], []⟩ (by kernel_rfl) ?_
        refine wa_yn 0 rfl (by kernel_rfl) (by kernel_rfl) (by kernel_rfl) (y_move (ev_rfl rfl)) rfl ?_
        refine wa_yn 1 rfl (by kernel_rfl) (by kernel_rfl) (by kernel_rfl) (y_move (ev_rfl rfl)) rfl ?_
        refine wa_yn 2 rfl (by kernel_rfl) (by kernel_rfl) (by kernel_rfl) (y_index  rfl (fun _ => rfl) (ev_rfl rfl) (ev_rfl rfl)  (fun _ => rfl) (fun _ => by omega)) rfl ?_
        refine wa_ln 3 rfl (by kernel_rfl) (by kernel_rfl) (by kernel_rfl) (by kernel_rfl) (y_load (fun _ => rfl) (ev_rfl rfl)) (rd_cell h (ints_get (show k < xs.length by omega))) rfl ?_
        refine wa_yn 4 rfl (by kernel_rfl) (by kernel_rfl) (by kernel_rfl) (y_move (ev_rfl rfl)) rfl ?_
        refine wa_yn 5 rfl (by kernel_rfl) (by kernel_rfl) (by kernel_rfl) (y_move (ev_rfl rfl)) rfl ?_
        refine wa_yn 6 rfl (by kernel_rfl) (by kernel_rfl) (by kernel_rfl) (y_index  rfl (fun _ => rfl) (ev_rfl rfl) (ev_rfl rfl)  (fun _ => rfl) (fun _ => by omega)) rfl ?_
        refine wa_ln 7 rfl (by kernel_rfl) (by kernel_rfl) (by kernel_rfl) (by kernel_rfl) (y_load (fun _ => rfl) (ev_rfl rfl)) (rd_cell h2 (ints_get (show k < ys.length by omega))) rfl ?_
        refine wa_yn 8 rfl (by kernel_rfl) (by kernel_rfl) (by kernel_rfl) (y_neq (ev_rfl rfl) (ev_rfl rfl) rfl) rfl ?_
        refine wa_done (by kernel_rfl) ?_
        refine q_then ?_
        refine wc_cond _ rfl (fun hc6 => ?_) (fun hc6 => ?_)
        · have hne : (xs == ys) = false := by rw [beq_eq_false_iff_ne]; rintro rfl; simp at hc6
          refine wc_seq ?_
          refine wc_region ?_
          refine wl_y (y_assign (ev_rfl rfl)) (fun _ _ => trivial) rfl ?_
          refine wl_nil ?_
          refine q_then ?_
          refine wc_ret ?_
          refine q_block_ret ?_
          refine q_then_ret ?_
          refine q_then_ret ?_
          refine q_block_ret ?_
          refine q_then_ret ?_
          refine ret1 (cs' := []) (.inl rfl) (by ((repeat (first | exact List.Sublist.slnil | refine List.Sublist.cons_cons _ ?_ | refine List.Sublist.cons _ ?_)))) rfl rfl ?_
          exact ⟨by rw [hne], rfl⟩
        · have heq : xs[k]'(by omega) = ys[k]'(by omega) := by simpa using hc6
          refine wc_skip ?_
          refine q_block ?_
          refine q_then ?_
          refine wc_region ?_
          refine wl_y (y_move (ev_rfl rfl)) (fun _ _ => trivial) rfl ?_
          refine wl_y (y_add (ev_rfl rfl) (ev_rfl rfl) (by first | exact IntWalk.i64_in _ ⟨by omega, by omega⟩ | exact rfl)) (fun _ _ => trivial) rfl ?_
          refine wl_y (y_assign (ev_rfl rfl)) (fun _ _ => trivial) rfl ?_
          refine wl_nil ?_
          refine q_mid (k + 1) ?_ ?_ ?_
          · refine ⟨⟨by omega, ?_⟩, by omega⟩; rw [List.take_succ_eq_append_getElem (by omega), List.take_succ_eq_append_getElem (by omega), he, heq]
          · ((repeat' (refine Wk.cons ?_ ?_)) <;> first | exact Wk.nil | exact rfl | exact trivial | exact wk_num rfl (by omega) | exact wk_num rfl (by simp))
          · ((repeat (first | exact List.Sublist.slnil | refine List.Sublist.cons_cons _ ?_ | refine List.Sublist.cons _ ?_)))
      · simp only [decide_eq_false_iff_not] at hc4
        refine wc_exit ?_
        refine q_then_exit ?_
        refine q_then_exit ?_
        refine q_block_same rfl ?_
        refine q_then ?_
        refine wc_seq ?_
        refine wc_region ?_
        refine wl_y (y_assign (ev_rfl rfl)) (fun _ _ => trivial) rfl ?_
        refine wl_nil ?_
        refine q_then ?_
        refine wc_ret ?_
        refine ret1 (cs' := []) (.inl rfl) (by ((repeat (first | exact List.Sublist.slnil | refine List.Sublist.cons_cons _ ?_ | refine List.Sublist.cons _ ?_)))) rfl rfl ?_
        refine ⟨?_, rfl⟩
        have hkk : k = xs.length := by omega
        subst hkk
        rw [List.take_length] at he
        rw [he, hlen, List.take_length]
        simp
end Go.Proofs.Ytjknccgefnnfnaa
