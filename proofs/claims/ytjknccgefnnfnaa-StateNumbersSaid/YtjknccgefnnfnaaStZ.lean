/- StateNumbers: the walk. -/
import Derived.Test.YtjknccgefnnfnaaStU
import Derived.Test.YtjknccgefnnfnaaStX
set_option linter.unusedSimpArgs false
set_option linter.unusedVariables false
namespace Go.Ink
open Go.RowKit
def bounds16 : List Int := [0, 1, 15, 16, 63, 64, 4294967295]
theorem bounds16_at {j : Nat} (h : j < 7) : ∃ v, bounds16[j]? = some v ∧ u32 v := by
  have hl : bounds16.length = 7 := rfl
  refine ⟨bounds16[j], List.getElem?_eq_getElem (by omega), ?_⟩
  have : ∀ v, v ∈ bounds16 → u32 v := by unfold u32 bounds16; decide
  exact this _ (List.getElem_mem _)
theorem u32_0 : u32 0 := ⟨by decide, by decide⟩
theorem u32_7 : u32 7 := ⟨by decide, by decide⟩
theorem rep_ints (k : IntKind) (n : Nat) (a : Int) : List.replicate n (Value.int k a) = ints k (List.replicate n a) := by simp [ints]
/-- The state that is asked. -/
def St.asked (n k : Nat) (v c : Int) : St :=
  ⟨v, List.replicate n 0, List.replicate (30 - n) 0, (n : Int) - 1, ((k : Int) - 1).tmod 2 == 0, v == 1, (n : Int).tmod 2 == 0, 0, 0, 7, 0, 0, false, (k : Int) - 1 == 3, c, (n : Int) == 16⟩
end Go.Ink
namespace Go.Proofs.Ytjknccgefnnfnaa
open Go.RowKit Go.Ink
theorem lawsame_ok' (s : St) (hs : s.wf) (Ad Ar : Option Addr) (cd cr nd nr : Nat) (cause addr reg v : Int) (hv : u32 v) (w : World) (hd : nd = s.d.length) (hr : nr = s.r.length) (h : RdSt w s Ad Ar cd cr) :
    Ctr Try.prog 23 [.agg (s.cells (.slice Ad nd cd) (.slice Ar nr cr)).toArray, .int .i64 cause, .int .u32 addr, .int .i64 reg, .int .u32 v] w [] (fun v cs => v = .bool true ∧ cs = []) := by
  subst hd hr
  exact lawsame_ok s hs Ad Ar cd cr cause addr reg v hv w h
theorem asked_ok {n k : Nat} {v c : Int} (hn : 14 ≤ n ∧ n ≤ 18) (hv : u32 v) (hc : 0 ≤ c ∧ c ≤ 18446744073709551615) : (St.asked n k v c).wf := by
  obtain ⟨n0, n1⟩ := hn
  refine ⟨hv, ⟨by show 0 ≤ (n : Int) - 1; omega, by show (n : Int) - 1 ≤ _; omega⟩, u32_0, u32_0, u32_7, u32_0, u32_0, hc, fun x hx => ?_, fun x hx => ?_⟩
  · have := List.eq_of_mem_replicate hx; subst this; exact ⟨by decide, by decide⟩
  · have := List.eq_of_mem_replicate hx; subst this; exact ⟨by decide, by decide⟩
theorem asked_rd {w w' : World} {S : List Nat} {cs : List Chunk} {n k : Nat} {v c : Int} {b b' : Nat} (hn : 14 ≤ n ∧ n ≤ 18) (hi : Inv w' S cs w) (h1 : Has cs (slv 22 1 (some ⟨b, 0, none⟩) n n (ints .u32 (List.replicate n 0)))) (h2 : Has cs (slv 22 1 (some ⟨b', 0, none⟩) (30 - n) (30 - n) (ints .u32 (List.replicate (30 - n) 0)))) :
    RdSt w (St.asked n k v c) (some ⟨b, 0, none⟩) (some ⟨b', 0, none⟩) n (30 - n) := by
  have e1 : (St.asked n k v c).d.length = n := List.length_replicate
  have e2 : (St.asked n k v c).r.length = 30 - n := List.length_replicate
  refine ⟨?_, ?_, by omega, by omega⟩
  · rw [e1]; exact hi.rd h1
  · rw [e2]; exact hi.rd h2
set_option maxRecDepth 100000 in
set_option maxHeartbeats 4000000 in
theorem stateNumbers_ok (w : World) : Ctr Try.prog 8 [] w [] (fun v cs => v = .bool true ∧ cs = []) := by
  refine fn_ctr Try.func8 rfl Try.ntmps8 rfl (Inv.start w) ?_
  refine wc_seq ?_
  refine wc_region ?_
  refine wl_y (y_assign (ev_rfl rfl)) (fun _ _ => trivial) rfl ?_
  refine wl_nil ?_
  refine q_then ?_
  refine wc_seq ?_
  refine wc_seq ?_
  refine wc_region ?_
  refine wl_t (t_call rfl (fun _ _ => rfl) (fun w hi => new_ok w)) rfl ?_
  rintro _ _ ⟨_, ⟨rfl, rfl⟩, rfl⟩
  refine wl_y (y_build rfl rfl (fun _ => rfl) rfl rfl rfl (by (repeat (first | exact BuildTo.nil _ | (apply BuildTo.cons; (repeat (first | exact SetAt.zero _ _ _ | apply SetAt.succ))))))) (fun _ _ => trivial) rfl ?_
  refine wl_t (t_call rfl (fun _ _ => rfl) (fun w hi => rSame_ok St.new St.new none none none none 0 0 0 0 w (RdSt.nil_ w rfl rfl) (RdSt.nil_ w rfl rfl))) rfl ?_
  rintro _ _ ⟨_, ⟨rfl, rfl⟩, rfl⟩
  rw [St.rsame_self]
  refine wl_y (y_not (ev_rfl rfl) rfl) (fun _ _ => trivial) rfl ?_
  refine wl_nil ?_
  refine q_then ?_
  refine wc_cond_f rfl (rfl) ?_
  refine wc_skip ?_
  refine q_then ?_
  refine wc_seq ?_
  refine wc_seq ?_
  refine wc_region ?_
  refine wl_y (y_assign (ev_rfl rfl)) (fun _ _ => trivial) rfl ?_
  refine wl_nil ?_
  refine q_then ?_
  refine wc_block ?_
  refine wc_loop (fun n : Nat => [(1, .int .i64 (n : Int))]) (fun _ => []) (fun n => 14 ≤ n ∧ n ≤ 19) (fun n => 19 - n) (14) ?_ ?_ ?_ ?_
  · exact ⟨by omega, by omega⟩
  · ((repeat' (refine Wk.cons ?_ ?_)) <;> first | exact Wk.nil | exact rfl | exact trivial | exact wk_num rfl (by omega) | exact wk_num rfl (by simp))
  · ((repeat (first | exact List.Sublist.slnil | refine List.Sublist.cons_cons _ ?_ | refine List.Sublist.cons _ ?_)))
  · rintro n ⟨hn0, hn1⟩
    refine wc_seq ?_
    refine wc_seq ?_
    refine wc_region ?_
    refine wl_y (y_move (ev_rfl rfl)) (fun _ _ => trivial) rfl ?_
    refine wl_y (y_lss (ev_rfl rfl) (ev_rfl rfl) rfl) (fun _ _ => trivial) rfl ?_
    refine wl_nil ?_
    refine q_then ?_
    refine wc_cond _ rfl (fun hc4 => ?_) (fun hc4 => ?_)
    · simp only [decide_eq_true_eq] at hc4
      have hn : 14 ≤ n ∧ n ≤ 18 := ⟨hn0, by omega⟩
      refine wc_skip ?_
      refine q_then ?_
      refine wc_seq ?_
      refine wc_block ?_
      refine wc_seq ?_
      refine wc_region ?_
      refine wl_y (y_assign (ev_rfl rfl)) (fun _ _ => trivial) rfl ?_
      refine wl_nil ?_
      refine q_then ?_
      refine wc_block ?_
      refine wc_loop (fun k : Nat => [(1, .int .i64 (n : Int)), (2, .int .i64 ((k : Int) - 1))]) (fun _ => []) (fun k => k ≤ 14) (fun k => 14 - k) (0) ?_ ?_ ?_ ?_
      · exact Nat.zero_le _
      · ((repeat' (refine Wk.cons ?_ ?_)) <;> first | exact Wk.nil | exact rfl | exact trivial | exact wk_num rfl (by omega) | exact wk_num rfl (by simp))
      · ((repeat (first | exact List.Sublist.slnil | refine List.Sublist.cons_cons _ ?_ | refine List.Sublist.cons _ ?_)))
      · rintro k hk
        refine wc_seq ?_
        refine wc_seq ?_
        refine wc_region ?_
        refine wl_y (y_move (ev_rfl rfl)) (fun _ _ => trivial) rfl ?_
        refine wl_y (y_lss (ev_rfl rfl) (ev_rfl rfl) rfl) (fun _ _ => trivial) rfl ?_
        refine wl_nil ?_
        refine q_then ?_
        refine wc_cond _ rfl (fun hc7 => ?_) (fun hc7 => ?_)
        · simp only [decide_eq_true_eq] at hc7
          refine wc_skip ?_
          refine q_then ?_
          refine wc_seq ?_
          refine wc_block ?_
          refine wc_seq ?_
          refine wc_region ?_
          refine wl_t (t_buildSl1 rfl rfl (fun _ => rfl) (fun _ => rfl) rfl rfl) rfl ?_
          rintro _ _ ⟨b20, rfl, rfl⟩
          refine wl_y (y_len ⟨_, rfl⟩ (ev_rfl rfl)) (fun _ _ => trivial) rfl ?_
          refine wl_y (y_move (ev_rfl rfl)) (fun _ _ => trivial) rfl ?_
          refine wl_nil ?_
          refine q_then ?_
          refine wc_block ?_
          refine wc_loop (fun j : Nat => [(1, .int .i64 (n : Int)), (2, .int .i64 ((k : Int) - 1)), (20, .slice (some ⟨b20, 0, none⟩) 7 7), (21, .int .i64 7), (22, .int .i64 (j : Int))]) (fun _ => [sl .u32 22 (some ⟨b20, 0, none⟩) 7 7 bounds16]) (fun j => j ≤ 7) (fun j => 7 - j) (0) ?_ ?_ ?_ ?_
          · exact Nat.zero_le _
          · ((repeat' (refine Wk.cons ?_ ?_)) <;> first | exact Wk.nil | exact rfl | exact trivial | exact wk_num rfl (by omega) | exact wk_num rfl (by simp))
          · ((repeat (first | exact List.Sublist.slnil | refine List.Sublist.cons_cons _ ?_ | refine List.Sublist.cons _ ?_)))
          · rintro j hj
            refine wc_seq ?_
            refine wc_region ?_
            refine wl_y (y_lss (ev_rfl rfl) (ev_rfl rfl) rfl) (fun _ _ => trivial) rfl ?_
            refine wl_nil ?_
            refine q_then ?_
            refine wc_seq ?_
            refine wc_cond _ rfl (fun hc10 => ?_) (fun hc10 => ?_)
            · simp only [decide_eq_true_eq] at hc10
              obtain ⟨v, hv1, hv2⟩ := bounds16_at (show j < 7 by omega)
              obtain ⟨v0, v1⟩ := hv2
              refine wc_skip ?_
              refine q_then ?_
              refine wc_seq ?_
              refine wc_block ?_
              refine wc_seq ?_
              refine wc_region ?_
              refine wl_y (y_indexR (j := j) (sz := 1) (r := j) rfl (fun _ => rfl) (ev_rfl rfl) (ev_rfl rfl) (fun _ => by omega) (fun _ => by omega) (by omega)) (fun _ _ => trivial) rfl ?_
              refine wl_y (y_load (fun _ => rfl) (ev_rfl rfl)) (sl_cellR (by first | exact hasC0 | exact hasC1 | exact hasC2 | exact hasC3 | exact hasC4 | exact hasC5 | exact hasC6 | exact hasC7 | exact hasC8 | exact hasC9 | exact hasC10 | exact hasC11 | exact hasC12 | exact hasC13 | exact hasC14 | exact hasC15 | exact hasC16 | exact hasC17 | exact hasC18 | exact hasC19 | exact hasC20 | exact hasC21 | exact hasC22 | exact hasC23) (ints_at hv1)) rfl ?_
              refine wl_y (y_assign (ev_rfl rfl)) (fun _ _ => trivial) rfl ?_
              refine wl_nil ?_
              refine q_then ?_
              refine wc_seq ?_
              refine wc_draw ⟨fun j => List.elem j [26], []⟩ (by kernel_rfl) ?_
              refine wa_yn 0 rfl (by kernel_rfl) (by kernel_rfl) (by kernel_rfl) (y_move (ev_rfl rfl)) rfl ?_
              refine wa_yn 1 rfl (by kernel_rfl) (by kernel_rfl) (by kernel_rfl) (y_move (ev_rfl rfl)) rfl ?_
              refine wa_yn 3 rfl (by kernel_rfl) (by kernel_rfl) (by kernel_rfl) (y_move (ev_rfl rfl)) rfl ?_
              refine wa_yn 4 rfl (by kernel_rfl) (by kernel_rfl) (by kernel_rfl) (y_sub (ev_rfl rfl) (ev_rfl rfl) (by first | exact IntWalk.i64_in _ ⟨by omega, by omega⟩ | exact rfl)) rfl ?_
              refine wa_yn 6 rfl (by kernel_rfl) (by kernel_rfl) (by kernel_rfl) (y_move (ev_rfl rfl)) rfl ?_
              refine wa_yn 7 rfl (by kernel_rfl) (by kernel_rfl) (by kernel_rfl) (y_conv rfl rfl (ev_rfl rfl) (u32_wrap_id _ (by omega) (by omega))) rfl ?_
              refine wa_yn 8 rfl (by kernel_rfl) (by kernel_rfl) (by kernel_rfl) (y_sub (ev_rfl rfl) (ev_rfl rfl) (u32_wrap_id _ (by omega) (by omega))) rfl ?_
              refine wa_yn 9 rfl (by kernel_rfl) (by kernel_rfl) (by kernel_rfl) (y_move (ev_rfl rfl)) rfl ?_
              refine wa_yn 10 rfl (by kernel_rfl) (by kernel_rfl) (by kernel_rfl) (y_rem (ev_rfl rfl) (ev_rfl rfl) (by omega) (by first | exact IntWalk.rem_in _ _ (by omega) | exact rfl)) rfl ?_
              refine wa_yn 11 rfl (by kernel_rfl) (by kernel_rfl) (by kernel_rfl) (y_eql (ev_rfl rfl) (ev_rfl rfl) rfl) rfl ?_
              refine wa_yn 12 rfl (by kernel_rfl) (by kernel_rfl) (by kernel_rfl) (y_move (ev_rfl rfl)) rfl ?_
              refine wa_yn 13 rfl (by kernel_rfl) (by kernel_rfl) (by kernel_rfl) (y_rem (ev_rfl rfl) (ev_rfl rfl) (by omega) (by first | exact IntWalk.rem_in _ _ (by omega) | exact rfl)) rfl ?_
              refine wa_yn 14 rfl (by kernel_rfl) (by kernel_rfl) (by kernel_rfl) (y_eql (ev_rfl rfl) (ev_rfl rfl) rfl) rfl ?_
              refine wa_yn 15 rfl (by kernel_rfl) (by kernel_rfl) (by kernel_rfl) (y_move (ev_rfl rfl)) rfl ?_
              refine wa_yn 16 rfl (by kernel_rfl) (by kernel_rfl) (by kernel_rfl) (y_eql (ev_rfl rfl) (ev_rfl rfl) rfl) rfl ?_
              refine wa_yn 17 rfl (by kernel_rfl) (by kernel_rfl) (by kernel_rfl) (y_move (ev_rfl rfl)) rfl ?_
              refine wa_yn 18 rfl (by kernel_rfl) (by kernel_rfl) (by kernel_rfl) (y_eql (ev_rfl rfl) (ev_rfl rfl) rfl) rfl ?_
              refine wa_yn 19 rfl (by kernel_rfl) (by kernel_rfl) (by kernel_rfl) (y_move (ev_rfl rfl)) rfl ?_
              refine wa_yn 20 rfl (by kernel_rfl) (by kernel_rfl) (by kernel_rfl) (y_conv rfl rfl (ev_rfl rfl) (u64_wrap_id _ (by omega) (by omega))) rfl ?_
              refine wa_yn 21 rfl (by kernel_rfl) (by kernel_rfl) (by kernel_rfl) (y_shl (ev_rfl rfl) (ev_rfl rfl) (by omega) (show IntKind.u64.wrap (v * 1048576) = v * 1048576 from u64_wrap_id _ (by omega) (by omega))) rfl ?_
              refine wa_yn 22 rfl (by kernel_rfl) (by kernel_rfl) (by kernel_rfl) (y_move (ev_rfl rfl)) rfl ?_
              refine wa_yn 23 rfl (by kernel_rfl) (by kernel_rfl) (by kernel_rfl) (y_eql (ev_rfl rfl) (ev_rfl rfl) rfl) rfl ?_
              refine wa_3 2 5 25 (by kernel_rfl) ?_ ?_ ?_
              · refine wi_t rfl rfl (t_make (bytes := 4) (n := n) rfl rfl rfl rfl rfl rfl rfl (by omega) (by simp only [maxLen]; omega)) (fun _ _ _ _ _ _ _ h => by cases h) rfl ?_
                rintro _ _ ⟨b28, rfl, rfl⟩
                rw [rep_ints]
                refine wa_2 5 25 (by kernel_rfl) ?_ ?_
                · refine wi_t rfl rfl (t_make (bytes := 4) (n := 30 - n) rfl rfl rfl rfl rfl (by omega) (by omega) (by omega) (by simp only [maxLen]; omega)) (fun _ _ _ _ _ _ _ h => by cases h) rfl ?_
                  rintro _ _ ⟨b31, rfl, rfl⟩
                  rw [rep_ints]
                  refine wa_yn 24 rfl (by kernel_rfl) (by kernel_rfl) (by kernel_rfl) (y_build rfl rfl (fun _ => rfl) rfl rfl rfl (by (repeat (first | exact BuildTo.nil _ | (apply BuildTo.cons; (repeat (first | exact SetAt.zero _ _ _ | apply SetAt.succ))))))) rfl ?_
                  refine wa_1 25 (by kernel_rfl) ?_
                  refine wi_t rfl rfl (t_alloc (fun _ => rfl) rfl) (fun _ _ _ _ _ _ _ h => by cases h) rfl ?_
                  rintro _ _ ⟨b5, rfl, rfl⟩
                  refine wa_1 26 (by kernel_rfl) ?_
                  refine wi_t0 rfl rfl (t_storeN (fun _ => rfl) rfl rfl (allT rfl) (by first | exact atC0 | exact atC1 | exact atC2 | exact atC3 | exact atC4 | exact atC5 | exact atC6 | exact atC7 | exact atC8 | exact atC9 | exact atC10 | exact atC11 | exact atC12 | exact atC13 | exact atC14 | exact atC15 | exact atC16 | exact atC17 | exact atC18 | exact atC19 | exact atC20 | exact atC21 | exact atC22 | exact atC23) (by exact rfl)) (fun _ _ _ _ _ _ _ h => by cases h) ?_
                  rintro _ _ ⟨rfl, rfl⟩
                  refine wa_done (by kernel_rfl) ?_
                  refine q_then ?_
                  refine wc_seq ?_
                  refine wc_region ?_
                  refine wl_loadRow (by first | exact hasC0 | exact hasC1 | exact hasC2 | exact hasC3 | exact hasC4 | exact hasC5 | exact hasC6 | exact hasC7 | exact hasC8 | exact hasC9 | exact hasC10 | exact hasC11 | exact hasC12 | exact hasC13 | exact hasC14 | exact hasC15 | exact hasC16 | exact hasC17 | exact hasC18 | exact hasC19 | exact hasC20 | exact hasC21 | exact hasC22 | exact hasC23) (fun _ => rfl) (fun _ => rfl) (ev_rfl rfl) rfl ?_
                  refine wl_y (y_move (ev_rfl rfl)) (fun _ _ => trivial) rfl ?_
                  refine wl_y (y_rem (ev_rfl rfl) (ev_rfl rfl) (by omega) (by first | exact IntWalk.rem_in _ _ (by omega) | exact rfl)) (fun _ _ => trivial) rfl ?_
                  refine wl_y (y_conv rfl rfl (ev_rfl rfl) (show _ = v.tmod 40 from by (rw [IntKind.wrap_i64]; have h1 := Int.tmod_eq_emod_of_nonneg v0 (b := 40); omega))) (fun _ _ => trivial) rfl ?_
                  refine wl_y (y_move (ev_rfl rfl)) (fun _ _ => trivial) rfl ?_
                  refine wl_y (y_move (ev_rfl rfl)) (fun _ _ => trivial) rfl ?_
                  refine wl_y (y_move (ev_rfl rfl)) (fun _ _ => trivial) rfl ?_
                  refine wl_t (t_call rfl (fun _ _ => rfl) (fun w hi => lawsame_ok' (St.asked n k v (v * 1048576)) (asked_ok hn ⟨v0, v1⟩ ⟨by omega, by omega⟩) (some ⟨b28, 0, none⟩) (some ⟨b31, 0, none⟩) n (30 - n) n (30 - n) (v.tmod 40) v ((k : Int) - 1) v ⟨v0, v1⟩ w List.length_replicate.symm List.length_replicate.symm (asked_rd hn hi (by first | exact hasC0 | exact hasC1 | exact hasC2 | exact hasC3 | exact hasC4 | exact hasC5 | exact hasC6 | exact hasC7 | exact hasC8 | exact hasC9 | exact hasC10 | exact hasC11 | exact hasC12 | exact hasC13 | exact hasC14 | exact hasC15 | exact hasC16 | exact hasC17 | exact hasC18 | exact hasC19 | exact hasC20 | exact hasC21 | exact hasC22 | exact hasC23) (by first | exact hasC0 | exact hasC1 | exact hasC2 | exact hasC3 | exact hasC4 | exact hasC5 | exact hasC6 | exact hasC7 | exact hasC8 | exact hasC9 | exact hasC10 | exact hasC11 | exact hasC12 | exact hasC13 | exact hasC14 | exact hasC15 | exact hasC16 | exact hasC17 | exact hasC18 | exact hasC19 | exact hasC20 | exact hasC21 | exact hasC22 | exact hasC23)))) rfl ?_
                  rintro _ _ ⟨_, ⟨rfl, rfl⟩, rfl⟩
                  refine wl_y (y_not (ev_rfl rfl) rfl) (fun _ _ => trivial) rfl ?_
                  refine wl_nil ?_
                  refine q_then ?_
                  refine wc_cond_f rfl (rfl) ?_
                  refine wc_skip ?_
                  refine q_block ?_
                  refine q_then ?_
                  refine wc_region ?_
                  refine wl_y (y_add (ev_rfl rfl) (ev_rfl rfl) (by first | exact IntWalk.i64_in _ ⟨by omega, by omega⟩ | exact rfl)) (fun _ _ => trivial) rfl ?_
                  refine wl_y (y_move (ev_rfl rfl)) (fun _ _ => trivial) rfl ?_
                  refine wl_nil ?_
                  refine q_mid (j + 1) ?_ ?_ ?_
                  · exact ⟨by omega, by omega⟩
                  · ((repeat' (refine Wk.cons ?_ ?_)) <;> first | exact Wk.nil | exact rfl | exact trivial | exact wk_num rfl (by omega) | exact wk_num rfl (by simp))
                  · ((repeat (first | exact List.Sublist.slnil | refine List.Sublist.cons_cons _ ?_ | refine List.Sublist.cons _ ?_)))
                · refine wi_t rfl rfl (t_alloc (fun _ => rfl) rfl) (fun _ _ _ _ _ _ _ h => by cases h) rfl ?_
                  rintro _ _ ⟨b5, rfl, rfl⟩
                  refine wa_1 5 (by kernel_rfl) ?_
                  refine wi_t rfl rfl (t_make (bytes := 4) (n := 30 - n) rfl rfl rfl rfl rfl (by omega) (by omega) (by omega) (by simp only [maxLen]; omega)) (fun _ _ _ _ _ _ _ h => by cases h) rfl ?_
                  rintro _ _ ⟨b31, rfl, rfl⟩
                  rw [rep_ints]
                  refine wa_yn 24 rfl (by kernel_rfl) (by kernel_rfl) (by kernel_rfl) (y_build rfl rfl (fun _ => rfl) rfl rfl rfl (by (repeat (first | exact BuildTo.nil _ | (apply BuildTo.cons; (repeat (first | exact SetAt.zero _ _ _ | apply SetAt.succ))))))) rfl ?_
                  refine wa_1 26 (by kernel_rfl) ?_
                  refine wi_t0 rfl rfl (t_storeN (fun _ => rfl) rfl rfl (allT rfl) (by first | exact atC0 | exact atC1 | exact atC2 | exact atC3 | exact atC4 | exact atC5 | exact atC6 | exact atC7 | exact atC8 | exact atC9 | exact atC10 | exact atC11 | exact atC12 | exact atC13 | exact atC14 | exact atC15 | exact atC16 | exact atC17 | exact atC18 | exact atC19 | exact atC20 | exact atC21 | exact atC22 | exact atC23) (by exact rfl)) (fun _ _ _ _ _ _ _ h => by cases h) ?_
                  rintro _ _ ⟨rfl, rfl⟩
                  refine wa_done (by kernel_rfl) ?_
                  refine q_then ?_
                  refine wc_seq ?_
                  refine wc_region ?_
                  refine wl_loadRow (by first | exact hasC0 | exact hasC1 | exact hasC2 | exact hasC3 | exact hasC4 | exact hasC5 | exact hasC6 | exact hasC7 | exact hasC8 | exact hasC9 | exact hasC10 | exact hasC11 | exact hasC12 | exact hasC13 | exact hasC14 | exact hasC15 | exact hasC16 | exact hasC17 | exact hasC18 | exact hasC19 | exact hasC20 | exact hasC21 | exact hasC22 | exact hasC23) (fun _ => rfl) (fun _ => rfl) (ev_rfl rfl) rfl ?_
                  refine wl_y (y_move (ev_rfl rfl)) (fun _ _ => trivial) rfl ?_
                  refine wl_y (y_rem (ev_rfl rfl) (ev_rfl rfl) (by omega) (by first | exact IntWalk.rem_in _ _ (by omega) | exact rfl)) (fun _ _ => trivial) rfl ?_
                  refine wl_y (y_conv rfl rfl (ev_rfl rfl) (show _ = v.tmod 40 from by (rw [IntKind.wrap_i64]; have h1 := Int.tmod_eq_emod_of_nonneg v0 (b := 40); omega))) (fun _ _ => trivial) rfl ?_
                  refine wl_y (y_move (ev_rfl rfl)) (fun _ _ => trivial) rfl ?_
                  refine wl_y (y_move (ev_rfl rfl)) (fun _ _ => trivial) rfl ?_
                  refine wl_y (y_move (ev_rfl rfl)) (fun _ _ => trivial) rfl ?_
                  refine wl_t (t_call rfl (fun _ _ => rfl) (fun w hi => lawsame_ok' (St.asked n k v (v * 1048576)) (asked_ok hn ⟨v0, v1⟩ ⟨by omega, by omega⟩) (some ⟨b28, 0, none⟩) (some ⟨b31, 0, none⟩) n (30 - n) n (30 - n) (v.tmod 40) v ((k : Int) - 1) v ⟨v0, v1⟩ w List.length_replicate.symm List.length_replicate.symm (asked_rd hn hi (by first | exact hasC0 | exact hasC1 | exact hasC2 | exact hasC3 | exact hasC4 | exact hasC5 | exact hasC6 | exact hasC7 | exact hasC8 | exact hasC9 | exact hasC10 | exact hasC11 | exact hasC12 | exact hasC13 | exact hasC14 | exact hasC15 | exact hasC16 | exact hasC17 | exact hasC18 | exact hasC19 | exact hasC20 | exact hasC21 | exact hasC22 | exact hasC23) (by first | exact hasC0 | exact hasC1 | exact hasC2 | exact hasC3 | exact hasC4 | exact hasC5 | exact hasC6 | exact hasC7 | exact hasC8 | exact hasC9 | exact hasC10 | exact hasC11 | exact hasC12 | exact hasC13 | exact hasC14 | exact hasC15 | exact hasC16 | exact hasC17 | exact hasC18 | exact hasC19 | exact hasC20 | exact hasC21 | exact hasC22 | exact hasC23)))) rfl ?_
                  rintro _ _ ⟨_, ⟨rfl, rfl⟩, rfl⟩
                  refine wl_y (y_not (ev_rfl rfl) rfl) (fun _ _ => trivial) rfl ?_
                  refine wl_nil ?_
                  refine q_then ?_
                  refine wc_cond_f rfl (rfl) ?_
                  refine wc_skip ?_
                  refine q_block ?_
                  refine q_then ?_
                  refine wc_region ?_
                  refine wl_y (y_add (ev_rfl rfl) (ev_rfl rfl) (by first | exact IntWalk.i64_in _ ⟨by omega, by omega⟩ | exact rfl)) (fun _ _ => trivial) rfl ?_
                  refine wl_y (y_move (ev_rfl rfl)) (fun _ _ => trivial) rfl ?_
                  refine wl_nil ?_
                  refine q_mid (j + 1) ?_ ?_ ?_
                  · exact ⟨by omega, by omega⟩
                  · ((repeat' (refine Wk.cons ?_ ?_)) <;> first | exact Wk.nil | exact rfl | exact trivial | exact wk_num rfl (by omega) | exact wk_num rfl (by simp))
                  · ((repeat (first | exact List.Sublist.slnil | refine List.Sublist.cons_cons _ ?_ | refine List.Sublist.cons _ ?_)))
              · refine wi_t rfl rfl (t_make (bytes := 4) (n := 30 - n) rfl rfl rfl rfl rfl (by omega) (by omega) (by omega) (by simp only [maxLen]; omega)) (fun _ _ _ _ _ _ _ h => by cases h) rfl ?_
                rintro _ _ ⟨b31, rfl, rfl⟩
                rw [rep_ints]
                refine wa_2 2 25 (by kernel_rfl) ?_ ?_
                · refine wi_t rfl rfl (t_make (bytes := 4) (n := n) rfl rfl rfl rfl rfl rfl rfl (by omega) (by simp only [maxLen]; omega)) (fun _ _ _ _ _ _ _ h => by cases h) rfl ?_
                  rintro _ _ ⟨b28, rfl, rfl⟩
                  rw [rep_ints]
                  refine wa_yn 24 rfl (by kernel_rfl) (by kernel_rfl) (by kernel_rfl) (y_build rfl rfl (fun _ => rfl) rfl rfl rfl (by (repeat (first | exact BuildTo.nil _ | (apply BuildTo.cons; (repeat (first | exact SetAt.zero _ _ _ | apply SetAt.succ))))))) rfl ?_
                  refine wa_1 25 (by kernel_rfl) ?_
                  refine wi_t rfl rfl (t_alloc (fun _ => rfl) rfl) (fun _ _ _ _ _ _ _ h => by cases h) rfl ?_
                  rintro _ _ ⟨b5, rfl, rfl⟩
                  refine wa_1 26 (by kernel_rfl) ?_
                  refine wi_t0 rfl rfl (t_storeN (fun _ => rfl) rfl rfl (allT rfl) (by first | exact atC0 | exact atC1 | exact atC2 | exact atC3 | exact atC4 | exact atC5 | exact atC6 | exact atC7 | exact atC8 | exact atC9 | exact atC10 | exact atC11 | exact atC12 | exact atC13 | exact atC14 | exact atC15 | exact atC16 | exact atC17 | exact atC18 | exact atC19 | exact atC20 | exact atC21 | exact atC22 | exact atC23) (by exact rfl)) (fun _ _ _ _ _ _ _ h => by cases h) ?_
                  rintro _ _ ⟨rfl, rfl⟩
                  refine wa_done (by kernel_rfl) ?_
                  refine q_then ?_
                  refine wc_seq ?_
                  refine wc_region ?_
                  refine wl_loadRow (by first | exact hasC0 | exact hasC1 | exact hasC2 | exact hasC3 | exact hasC4 | exact hasC5 | exact hasC6 | exact hasC7 | exact hasC8 | exact hasC9 | exact hasC10 | exact hasC11 | exact hasC12 | exact hasC13 | exact hasC14 | exact hasC15 | exact hasC16 | exact hasC17 | exact hasC18 | exact hasC19 | exact hasC20 | exact hasC21 | exact hasC22 | exact hasC23) (fun _ => rfl) (fun _ => rfl) (ev_rfl rfl) rfl ?_
                  refine wl_y (y_move (ev_rfl rfl)) (fun _ _ => trivial) rfl ?_
                  refine wl_y (y_rem (ev_rfl rfl) (ev_rfl rfl) (by omega) (by first | exact IntWalk.rem_in _ _ (by omega) | exact rfl)) (fun _ _ => trivial) rfl ?_
                  refine wl_y (y_conv rfl rfl (ev_rfl rfl) (show _ = v.tmod 40 from by (rw [IntKind.wrap_i64]; have h1 := Int.tmod_eq_emod_of_nonneg v0 (b := 40); omega))) (fun _ _ => trivial) rfl ?_
                  refine wl_y (y_move (ev_rfl rfl)) (fun _ _ => trivial) rfl ?_
                  refine wl_y (y_move (ev_rfl rfl)) (fun _ _ => trivial) rfl ?_
                  refine wl_y (y_move (ev_rfl rfl)) (fun _ _ => trivial) rfl ?_
                  refine wl_t (t_call rfl (fun _ _ => rfl) (fun w hi => lawsame_ok' (St.asked n k v (v * 1048576)) (asked_ok hn ⟨v0, v1⟩ ⟨by omega, by omega⟩) (some ⟨b28, 0, none⟩) (some ⟨b31, 0, none⟩) n (30 - n) n (30 - n) (v.tmod 40) v ((k : Int) - 1) v ⟨v0, v1⟩ w List.length_replicate.symm List.length_replicate.symm (asked_rd hn hi (by first | exact hasC0 | exact hasC1 | exact hasC2 | exact hasC3 | exact hasC4 | exact hasC5 | exact hasC6 | exact hasC7 | exact hasC8 | exact hasC9 | exact hasC10 | exact hasC11 | exact hasC12 | exact hasC13 | exact hasC14 | exact hasC15 | exact hasC16 | exact hasC17 | exact hasC18 | exact hasC19 | exact hasC20 | exact hasC21 | exact hasC22 | exact hasC23) (by first | exact hasC0 | exact hasC1 | exact hasC2 | exact hasC3 | exact hasC4 | exact hasC5 | exact hasC6 | exact hasC7 | exact hasC8 | exact hasC9 | exact hasC10 | exact hasC11 | exact hasC12 | exact hasC13 | exact hasC14 | exact hasC15 | exact hasC16 | exact hasC17 | exact hasC18 | exact hasC19 | exact hasC20 | exact hasC21 | exact hasC22 | exact hasC23)))) rfl ?_
                  rintro _ _ ⟨_, ⟨rfl, rfl⟩, rfl⟩
                  refine wl_y (y_not (ev_rfl rfl) rfl) (fun _ _ => trivial) rfl ?_
                  refine wl_nil ?_
                  refine q_then ?_
                  refine wc_cond_f rfl (rfl) ?_
                  refine wc_skip ?_
                  refine q_block ?_
                  refine q_then ?_
                  refine wc_region ?_
                  refine wl_y (y_add (ev_rfl rfl) (ev_rfl rfl) (by first | exact IntWalk.i64_in _ ⟨by omega, by omega⟩ | exact rfl)) (fun _ _ => trivial) rfl ?_
                  refine wl_y (y_move (ev_rfl rfl)) (fun _ _ => trivial) rfl ?_
                  refine wl_nil ?_
                  refine q_mid (j + 1) ?_ ?_ ?_
                  · exact ⟨by omega, by omega⟩
                  · ((repeat' (refine Wk.cons ?_ ?_)) <;> first | exact Wk.nil | exact rfl | exact trivial | exact wk_num rfl (by omega) | exact wk_num rfl (by simp))
                  · ((repeat (first | exact List.Sublist.slnil | refine List.Sublist.cons_cons _ ?_ | refine List.Sublist.cons _ ?_)))
                · refine wi_t rfl rfl (t_alloc (fun _ => rfl) rfl) (fun _ _ _ _ _ _ _ h => by cases h) rfl ?_
                  rintro _ _ ⟨b5, rfl, rfl⟩
                  refine wa_1 2 (by kernel_rfl) ?_
                  refine wi_t rfl rfl (t_make (bytes := 4) (n := n) rfl rfl rfl rfl rfl rfl rfl (by omega) (by simp only [maxLen]; omega)) (fun _ _ _ _ _ _ _ h => by cases h) rfl ?_
                  rintro _ _ ⟨b28, rfl, rfl⟩
                  rw [rep_ints]
                  refine wa_yn 24 rfl (by kernel_rfl) (by kernel_rfl) (by kernel_rfl) (y_build rfl rfl (fun _ => rfl) rfl rfl rfl (by (repeat (first | exact BuildTo.nil _ | (apply BuildTo.cons; (repeat (first | exact SetAt.zero _ _ _ | apply SetAt.succ))))))) rfl ?_
                  refine wa_1 26 (by kernel_rfl) ?_
                  refine wi_t0 rfl rfl (t_storeN (fun _ => rfl) rfl rfl (allT rfl) (by first | exact atC0 | exact atC1 | exact atC2 | exact atC3 | exact atC4 | exact atC5 | exact atC6 | exact atC7 | exact atC8 | exact atC9 | exact atC10 | exact atC11 | exact atC12 | exact atC13 | exact atC14 | exact atC15 | exact atC16 | exact atC17 | exact atC18 | exact atC19 | exact atC20 | exact atC21 | exact atC22 | exact atC23) (by exact rfl)) (fun _ _ _ _ _ _ _ h => by cases h) ?_
                  rintro _ _ ⟨rfl, rfl⟩
                  refine wa_done (by kernel_rfl) ?_
                  refine q_then ?_
                  refine wc_seq ?_
                  refine wc_region ?_
                  refine wl_loadRow (by first | exact hasC0 | exact hasC1 | exact hasC2 | exact hasC3 | exact hasC4 | exact hasC5 | exact hasC6 | exact hasC7 | exact hasC8 | exact hasC9 | exact hasC10 | exact hasC11 | exact hasC12 | exact hasC13 | exact hasC14 | exact hasC15 | exact hasC16 | exact hasC17 | exact hasC18 | exact hasC19 | exact hasC20 | exact hasC21 | exact hasC22 | exact hasC23) (fun _ => rfl) (fun _ => rfl) (ev_rfl rfl) rfl ?_
                  refine wl_y (y_move (ev_rfl rfl)) (fun _ _ => trivial) rfl ?_
                  refine wl_y (y_rem (ev_rfl rfl) (ev_rfl rfl) (by omega) (by first | exact IntWalk.rem_in _ _ (by omega) | exact rfl)) (fun _ _ => trivial) rfl ?_
                  refine wl_y (y_conv rfl rfl (ev_rfl rfl) (show _ = v.tmod 40 from by (rw [IntKind.wrap_i64]; have h1 := Int.tmod_eq_emod_of_nonneg v0 (b := 40); omega))) (fun _ _ => trivial) rfl ?_
                  refine wl_y (y_move (ev_rfl rfl)) (fun _ _ => trivial) rfl ?_
                  refine wl_y (y_move (ev_rfl rfl)) (fun _ _ => trivial) rfl ?_
                  refine wl_y (y_move (ev_rfl rfl)) (fun _ _ => trivial) rfl ?_
                  refine wl_t (t_call rfl (fun _ _ => rfl) (fun w hi => lawsame_ok' (St.asked n k v (v * 1048576)) (asked_ok hn ⟨v0, v1⟩ ⟨by omega, by omega⟩) (some ⟨b28, 0, none⟩) (some ⟨b31, 0, none⟩) n (30 - n) n (30 - n) (v.tmod 40) v ((k : Int) - 1) v ⟨v0, v1⟩ w List.length_replicate.symm List.length_replicate.symm (asked_rd hn hi (by first | exact hasC0 | exact hasC1 | exact hasC2 | exact hasC3 | exact hasC4 | exact hasC5 | exact hasC6 | exact hasC7 | exact hasC8 | exact hasC9 | exact hasC10 | exact hasC11 | exact hasC12 | exact hasC13 | exact hasC14 | exact hasC15 | exact hasC16 | exact hasC17 | exact hasC18 | exact hasC19 | exact hasC20 | exact hasC21 | exact hasC22 | exact hasC23) (by first | exact hasC0 | exact hasC1 | exact hasC2 | exact hasC3 | exact hasC4 | exact hasC5 | exact hasC6 | exact hasC7 | exact hasC8 | exact hasC9 | exact hasC10 | exact hasC11 | exact hasC12 | exact hasC13 | exact hasC14 | exact hasC15 | exact hasC16 | exact hasC17 | exact hasC18 | exact hasC19 | exact hasC20 | exact hasC21 | exact hasC22 | exact hasC23)))) rfl ?_
                  rintro _ _ ⟨_, ⟨rfl, rfl⟩, rfl⟩
                  refine wl_y (y_not (ev_rfl rfl) rfl) (fun _ _ => trivial) rfl ?_
                  refine wl_nil ?_
                  refine q_then ?_
                  refine wc_cond_f rfl (rfl) ?_
                  refine wc_skip ?_
                  refine q_block ?_
                  refine q_then ?_
                  refine wc_region ?_
                  refine wl_y (y_add (ev_rfl rfl) (ev_rfl rfl) (by first | exact IntWalk.i64_in _ ⟨by omega, by omega⟩ | exact rfl)) (fun _ _ => trivial) rfl ?_
                  refine wl_y (y_move (ev_rfl rfl)) (fun _ _ => trivial) rfl ?_
                  refine wl_nil ?_
                  refine q_mid (j + 1) ?_ ?_ ?_
                  · exact ⟨by omega, by omega⟩
                  · ((repeat' (refine Wk.cons ?_ ?_)) <;> first | exact Wk.nil | exact rfl | exact trivial | exact wk_num rfl (by omega) | exact wk_num rfl (by simp))
                  · ((repeat (first | exact List.Sublist.slnil | refine List.Sublist.cons_cons _ ?_ | refine List.Sublist.cons _ ?_)))
              · refine wi_t rfl rfl (t_alloc (fun _ => rfl) rfl) (fun _ _ _ _ _ _ _ h => by cases h) rfl ?_
                rintro _ _ ⟨b5, rfl, rfl⟩
                refine wa_2 2 5 (by kernel_rfl) ?_ ?_
                · refine wi_t rfl rfl (t_make (bytes := 4) (n := n) rfl rfl rfl rfl rfl rfl rfl (by omega) (by simp only [maxLen]; omega)) (fun _ _ _ _ _ _ _ h => by cases h) rfl ?_
                  rintro _ _ ⟨b28, rfl, rfl⟩
                  rw [rep_ints]
                  refine wa_1 5 (by kernel_rfl) ?_
                  refine wi_t rfl rfl (t_make (bytes := 4) (n := 30 - n) rfl rfl rfl rfl rfl (by omega) (by omega) (by omega) (by simp only [maxLen]; omega)) (fun _ _ _ _ _ _ _ h => by cases h) rfl ?_
                  rintro _ _ ⟨b31, rfl, rfl⟩
                  rw [rep_ints]
                  refine wa_yn 24 rfl (by kernel_rfl) (by kernel_rfl) (by kernel_rfl) (y_build rfl rfl (fun _ => rfl) rfl rfl rfl (by (repeat (first | exact BuildTo.nil _ | (apply BuildTo.cons; (repeat (first | exact SetAt.zero _ _ _ | apply SetAt.succ))))))) rfl ?_
                  refine wa_1 26 (by kernel_rfl) ?_
                  refine wi_t0 rfl rfl (t_storeN (fun _ => rfl) rfl rfl (allT rfl) (by first | exact atC0 | exact atC1 | exact atC2 | exact atC3 | exact atC4 | exact atC5 | exact atC6 | exact atC7 | exact atC8 | exact atC9 | exact atC10 | exact atC11 | exact atC12 | exact atC13 | exact atC14 | exact atC15 | exact atC16 | exact atC17 | exact atC18 | exact atC19 | exact atC20 | exact atC21 | exact atC22 | exact atC23) (by exact rfl)) (fun _ _ _ _ _ _ _ h => by cases h) ?_
                  rintro _ _ ⟨rfl, rfl⟩
                  refine wa_done (by kernel_rfl) ?_
                  refine q_then ?_
                  refine wc_seq ?_
                  refine wc_region ?_
                  refine wl_loadRow (by first | exact hasC0 | exact hasC1 | exact hasC2 | exact hasC3 | exact hasC4 | exact hasC5 | exact hasC6 | exact hasC7 | exact hasC8 | exact hasC9 | exact hasC10 | exact hasC11 | exact hasC12 | exact hasC13 | exact hasC14 | exact hasC15 | exact hasC16 | exact hasC17 | exact hasC18 | exact hasC19 | exact hasC20 | exact hasC21 | exact hasC22 | exact hasC23) (fun _ => rfl) (fun _ => rfl) (ev_rfl rfl) rfl ?_
                  refine wl_y (y_move (ev_rfl rfl)) (fun _ _ => trivial) rfl ?_
                  refine wl_y (y_rem (ev_rfl rfl) (ev_rfl rfl) (by omega) (by first | exact IntWalk.rem_in _ _ (by omega) | exact rfl)) (fun _ _ => trivial) rfl ?_
                  refine wl_y (y_conv rfl rfl (ev_rfl rfl) (show _ = v.tmod 40 from by (rw [IntKind.wrap_i64]; have h1 := Int.tmod_eq_emod_of_nonneg v0 (b := 40); omega))) (fun _ _ => trivial) rfl ?_
                  refine wl_y (y_move (ev_rfl rfl)) (fun _ _ => trivial) rfl ?_
                  refine wl_y (y_move (ev_rfl rfl)) (fun _ _ => trivial) rfl ?_
                  refine wl_y (y_move (ev_rfl rfl)) (fun _ _ => trivial) rfl ?_
                  refine wl_t (t_call rfl (fun _ _ => rfl) (fun w hi => lawsame_ok' (St.asked n k v (v * 1048576)) (asked_ok hn ⟨v0, v1⟩ ⟨by omega, by omega⟩) (some ⟨b28, 0, none⟩) (some ⟨b31, 0, none⟩) n (30 - n) n (30 - n) (v.tmod 40) v ((k : Int) - 1) v ⟨v0, v1⟩ w List.length_replicate.symm List.length_replicate.symm (asked_rd hn hi (by first | exact hasC0 | exact hasC1 | exact hasC2 | exact hasC3 | exact hasC4 | exact hasC5 | exact hasC6 | exact hasC7 | exact hasC8 | exact hasC9 | exact hasC10 | exact hasC11 | exact hasC12 | exact hasC13 | exact hasC14 | exact hasC15 | exact hasC16 | exact hasC17 | exact hasC18 | exact hasC19 | exact hasC20 | exact hasC21 | exact hasC22 | exact hasC23) (by first | exact hasC0 | exact hasC1 | exact hasC2 | exact hasC3 | exact hasC4 | exact hasC5 | exact hasC6 | exact hasC7 | exact hasC8 | exact hasC9 | exact hasC10 | exact hasC11 | exact hasC12 | exact hasC13 | exact hasC14 | exact hasC15 | exact hasC16 | exact hasC17 | exact hasC18 | exact hasC19 | exact hasC20 | exact hasC21 | exact hasC22 | exact hasC23)))) rfl ?_
                  rintro _ _ ⟨_, ⟨rfl, rfl⟩, rfl⟩
                  refine wl_y (y_not (ev_rfl rfl) rfl) (fun _ _ => trivial) rfl ?_
                  refine wl_nil ?_
                  refine q_then ?_
                  refine wc_cond_f rfl (rfl) ?_
                  refine wc_skip ?_
                  refine q_block ?_
                  refine q_then ?_
                  refine wc_region ?_
                  refine wl_y (y_add (ev_rfl rfl) (ev_rfl rfl) (by first | exact IntWalk.i64_in _ ⟨by omega, by omega⟩ | exact rfl)) (fun _ _ => trivial) rfl ?_
                  refine wl_y (y_move (ev_rfl rfl)) (fun _ _ => trivial) rfl ?_
                  refine wl_nil ?_
                  refine q_mid (j + 1) ?_ ?_ ?_
                  · exact ⟨by omega, by omega⟩
                  · ((repeat' (refine Wk.cons ?_ ?_)) <;> first | exact Wk.nil | exact rfl | exact trivial | exact wk_num rfl (by omega) | exact wk_num rfl (by simp))
                  · ((repeat (first | exact List.Sublist.slnil | refine List.Sublist.cons_cons _ ?_ | refine List.Sublist.cons _ ?_)))
                · refine wi_t rfl rfl (t_make (bytes := 4) (n := 30 - n) rfl rfl rfl rfl rfl (by omega) (by omega) (by omega) (by simp only [maxLen]; omega)) (fun _ _ _ _ _ _ _ h => by cases h) rfl ?_
                  rintro _ _ ⟨b31, rfl, rfl⟩
                  rw [rep_ints]
                  refine wa_1 2 (by kernel_rfl) ?_
                  refine wi_t rfl rfl (t_make (bytes := 4) (n := n) rfl rfl rfl rfl rfl rfl rfl (by omega) (by simp only [maxLen]; omega)) (fun _ _ _ _ _ _ _ h => by cases h) rfl ?_
                  rintro _ _ ⟨b28, rfl, rfl⟩
                  rw [rep_ints]
                  refine wa_yn 24 rfl (by kernel_rfl) (by kernel_rfl) (by kernel_rfl) (y_build rfl rfl (fun _ => rfl) rfl rfl rfl (by (repeat (first | exact BuildTo.nil _ | (apply BuildTo.cons; (repeat (first | exact SetAt.zero _ _ _ | apply SetAt.succ))))))) rfl ?_
                  refine wa_1 26 (by kernel_rfl) ?_
                  refine wi_t0 rfl rfl (t_storeN (fun _ => rfl) rfl rfl (allT rfl) (by first | exact atC0 | exact atC1 | exact atC2 | exact atC3 | exact atC4 | exact atC5 | exact atC6 | exact atC7 | exact atC8 | exact atC9 | exact atC10 | exact atC11 | exact atC12 | exact atC13 | exact atC14 | exact atC15 | exact atC16 | exact atC17 | exact atC18 | exact atC19 | exact atC20 | exact atC21 | exact atC22 | exact atC23) (by exact rfl)) (fun _ _ _ _ _ _ _ h => by cases h) ?_
                  rintro _ _ ⟨rfl, rfl⟩
                  refine wa_done (by kernel_rfl) ?_
                  refine q_then ?_
                  refine wc_seq ?_
                  refine wc_region ?_
                  refine wl_loadRow (by first | exact hasC0 | exact hasC1 | exact hasC2 | exact hasC3 | exact hasC4 | exact hasC5 | exact hasC6 | exact hasC7 | exact hasC8 | exact hasC9 | exact hasC10 | exact hasC11 | exact hasC12 | exact hasC13 | exact hasC14 | exact hasC15 | exact hasC16 | exact hasC17 | exact hasC18 | exact hasC19 | exact hasC20 | exact hasC21 | exact hasC22 | exact hasC23) (fun _ => rfl) (fun _ => rfl) (ev_rfl rfl) rfl ?_
                  refine wl_y (y_move (ev_rfl rfl)) (fun _ _ => trivial) rfl ?_
                  refine wl_y (y_rem (ev_rfl rfl) (ev_rfl rfl) (by omega) (by first | exact IntWalk.rem_in _ _ (by omega) | exact rfl)) (fun _ _ => trivial) rfl ?_
                  refine wl_y (y_conv rfl rfl (ev_rfl rfl) (show _ = v.tmod 40 from by (rw [IntKind.wrap_i64]; have h1 := Int.tmod_eq_emod_of_nonneg v0 (b := 40); omega))) (fun _ _ => trivial) rfl ?_
                  refine wl_y (y_move (ev_rfl rfl)) (fun _ _ => trivial) rfl ?_
                  refine wl_y (y_move (ev_rfl rfl)) (fun _ _ => trivial) rfl ?_
                  refine wl_y (y_move (ev_rfl rfl)) (fun _ _ => trivial) rfl ?_
                  refine wl_t (t_call rfl (fun _ _ => rfl) (fun w hi => lawsame_ok' (St.asked n k v (v * 1048576)) (asked_ok hn ⟨v0, v1⟩ ⟨by omega, by omega⟩) (some ⟨b28, 0, none⟩) (some ⟨b31, 0, none⟩) n (30 - n) n (30 - n) (v.tmod 40) v ((k : Int) - 1) v ⟨v0, v1⟩ w List.length_replicate.symm List.length_replicate.symm (asked_rd hn hi (by first | exact hasC0 | exact hasC1 | exact hasC2 | exact hasC3 | exact hasC4 | exact hasC5 | exact hasC6 | exact hasC7 | exact hasC8 | exact hasC9 | exact hasC10 | exact hasC11 | exact hasC12 | exact hasC13 | exact hasC14 | exact hasC15 | exact hasC16 | exact hasC17 | exact hasC18 | exact hasC19 | exact hasC20 | exact hasC21 | exact hasC22 | exact hasC23) (by first | exact hasC0 | exact hasC1 | exact hasC2 | exact hasC3 | exact hasC4 | exact hasC5 | exact hasC6 | exact hasC7 | exact hasC8 | exact hasC9 | exact hasC10 | exact hasC11 | exact hasC12 | exact hasC13 | exact hasC14 | exact hasC15 | exact hasC16 | exact hasC17 | exact hasC18 | exact hasC19 | exact hasC20 | exact hasC21 | exact hasC22 | exact hasC23)))) rfl ?_
                  rintro _ _ ⟨_, ⟨rfl, rfl⟩, rfl⟩
                  refine wl_y (y_not (ev_rfl rfl) rfl) (fun _ _ => trivial) rfl ?_
                  refine wl_nil ?_
                  refine q_then ?_
                  refine wc_cond_f rfl (rfl) ?_
                  refine wc_skip ?_
                  refine q_block ?_
                  refine q_then ?_
                  refine wc_region ?_
                  refine wl_y (y_add (ev_rfl rfl) (ev_rfl rfl) (by first | exact IntWalk.i64_in _ ⟨by omega, by omega⟩ | exact rfl)) (fun _ _ => trivial) rfl ?_
                  refine wl_y (y_move (ev_rfl rfl)) (fun _ _ => trivial) rfl ?_
                  refine wl_nil ?_
                  refine q_mid (j + 1) ?_ ?_ ?_
                  · exact ⟨by omega, by omega⟩
                  · ((repeat' (refine Wk.cons ?_ ?_)) <;> first | exact Wk.nil | exact rfl | exact trivial | exact wk_num rfl (by omega) | exact wk_num rfl (by simp))
                  · ((repeat (first | exact List.Sublist.slnil | refine List.Sublist.cons_cons _ ?_ | refine List.Sublist.cons _ ?_)))
            · refine wc_exit ?_
              refine q_then_exit ?_
              refine q_then_exit ?_
              refine q_block_same rfl ?_
              refine q_block ?_
              refine q_then ?_
              refine wc_region ?_
              refine wl_y (y_move (ev_rfl rfl)) (fun _ _ => trivial) rfl ?_
              refine wl_y (y_add (ev_rfl rfl) (ev_rfl rfl) (by first | exact IntWalk.i64_in _ ⟨by omega, by omega⟩ | exact rfl)) (fun _ _ => trivial) rfl ?_
              refine wl_y (y_assign (ev_rfl rfl)) (fun _ _ => trivial) rfl ?_
              refine wl_nil ?_
              refine q_mid (k + 1) ?_ ?_ ?_
              · exact ⟨by omega, by omega⟩
              · ((repeat' (refine Wk.cons ?_ ?_)) <;> first | exact Wk.nil | exact rfl | exact trivial | exact wk_num rfl (by omega) | exact wk_num rfl (by simp))
              · ((repeat (first | exact List.Sublist.slnil | refine List.Sublist.cons_cons _ ?_ | refine List.Sublist.cons _ ?_)))
        · refine wc_exit ?_
          refine q_then_exit ?_
          refine q_then_exit ?_
          refine q_block_same rfl ?_
          refine q_block ?_
          refine q_then ?_
          refine wc_region ?_
          refine wl_y (y_move (ev_rfl rfl)) (fun _ _ => trivial) rfl ?_
          refine wl_y (y_add (ev_rfl rfl) (ev_rfl rfl) (by first | exact IntWalk.i64_in _ ⟨by omega, by omega⟩ | exact rfl)) (fun _ _ => trivial) rfl ?_
          refine wl_y (y_assign (ev_rfl rfl)) (fun _ _ => trivial) rfl ?_
          refine wl_nil ?_
          refine q_mid (n + 1) ?_ ?_ ?_
          · exact ⟨⟨by omega, by omega⟩, by omega⟩
          · ((repeat' (refine Wk.cons ?_ ?_)) <;> first | exact Wk.nil | exact rfl | exact trivial | exact wk_num rfl (by omega) | exact wk_num rfl (by simp))
          · ((repeat (first | exact List.Sublist.slnil | refine List.Sublist.cons_cons _ ?_ | refine List.Sublist.cons _ ?_)))
    · refine wc_exit ?_
      refine q_then_exit ?_
      refine q_then_exit ?_
      refine q_block_same rfl ?_
      refine q_then ?_
      refine wc_seq ?_
      refine wc_region ?_
      refine wl_t (t_call rfl (fun _ _ => rfl) (fun w hi => decode_ok none 0 [] (fun x hx => by cases hx) w (rd_nil w .u8))) rfl ?_
      rintro _ _ ⟨_, ⟨A1, c1, A2, c2, rfl, rfl⟩, rfl⟩
      refine wl_y (y_move (ev_rfl rfl)) (fun _ _ => trivial) rfl ?_
      refine wl_y (y_extract (ev_rfl rfl) rfl) (fun _ _ => trivial) rfl ?_
      refine wl_y (y_extract (ev_rfl rfl) rfl) (fun _ _ => trivial) rfl ?_
      refine wl_t (t_alloc (fun _ => rfl) rfl) rfl ?_
      rintro _ _ ⟨b6, rfl, rfl⟩
      refine wl_t0 (t_storeN (fun _ => rfl) rfl rfl (allT rfl) (by first | exact atC0 | exact atC1 | exact atC2 | exact atC3 | exact atC4 | exact atC5 | exact atC6 | exact atC7 | exact atC8 | exact atC9 | exact atC10 | exact atC11 | exact atC12 | exact atC13 | exact atC14 | exact atC15 | exact atC16 | exact atC17 | exact atC18 | exact atC19 | exact atC20 | exact atC21 | exact atC22 | exact atC23) (by exact rfl)) ?_
      rintro _ _ ⟨rfl, rfl⟩
      refine wl_y (y_assign (ev_rfl rfl)) (fun _ _ => trivial) rfl ?_
      refine wl_nil ?_
      refine q_then ?_
      refine wc_seq ?_
      refine wc_region ?_
      refine wl_y (y_move (ev_rfl rfl)) (fun _ _ => trivial) rfl ?_
      refine wl_y (y_eql (ev_rfl rfl) (ev_rfl rfl) rfl) (fun _ _ => trivial) rfl ?_
      refine wl_y (y_move (ev_rfl rfl)) (fun _ _ => trivial) rfl ?_
      refine wl_callg (guard_yes rfl rfl) .nil (fun _ _ => rfl) (fun hg w hi => known_ok w) rfl ?_
      refine wl_y (y_and (ev_rfl rfl) (pk_yes rfl (fun _ => rfl))) (fun _ _ => trivial) rfl ?_
      refine wl_y (y_assign (ev_rfl rfl)) (fun _ _ => trivial) rfl ?_
      refine wl_nil ?_
      refine q_then ?_
      refine wc_ret ?_
      refine ret1 (cs' := []) (.inl rfl) (by ((repeat (first | exact List.Sublist.slnil | refine List.Sublist.cons_cons _ ?_ | refine List.Sublist.cons _ ?_)))) rfl rfl ?_
      exact ⟨congrArg Value.bool (by decide), rfl⟩
end Go.Proofs.Ytjknccgefnnfnaa
