/- The law's test 'same': all that is told of a state is what the document says. -/
import Derived.Test.YtjknccgefnnfnaaStT
set_option linter.unusedSimpArgs false
set_option linter.unusedVariables false
namespace Go.Ink
theorem bnn (b : Bool) : (b != b) = false := by cases b <;> rfl
theorem bnni (b : Int) : (b != b) = false := by simp
end Go.Ink
namespace Go.Proofs.Ytjknccgefnnfnaa
open Go.RowKit Go.Ink

theorem RdSt.set' {w : World} {s : St} {Ad Ar : Option Addr} {cd cr : Nat} (h : RdSt w s Ad Ar cd cr) (r v : Int) : RdSt w (s.set r v).1 Ad Ar cd cr := by
  have e1 : (s.set r v).1.d = s.d := by
    unfold St.set
    repeat' (first | rfl | (rw [Bool.cond_eq_ite]; split))
  have e2 : (s.set r v).1.r = s.r := by
    unfold St.set
    repeat' (first | rfl | (rw [Bool.cond_eq_ite]; split))
  exact ⟨by rw [e1]; exact h.d, by rw [e2]; exact h.r, by rw [e1]; exact h.hd, by rw [e2]; exact h.hr⟩
set_option maxRecDepth 100000 in
set_option maxHeartbeats 4000000 in
theorem lawsame_ok (s : St) (hs : s.wf) (Ad Ar : Option Addr) (cd cr : Nat) (cause addr reg v : Int) (hv : u32 v) (w : World) (h : RdSt w s Ad Ar cd cr) :
    Ctr Try.prog 23 [sv s Ad cd Ar cr, .int .i64 cause, .int .u32 addr, .int .i64 reg, .int .u32 v] w [] (fun v cs => v = .bool true ∧ cs = []) := by
  have hd4 := h.hd
  have hr4 := h.hr
  refine fn_ctr Try.func23 rfl Try.ntmps23 rfl (Inv.start w) ?_
  refine wc_seq ?_
  refine wc_region ?_
  refine wl_t (t_box rfl rfl) rfl ?_
  rintro _ _ ⟨b5, rfl, rfl⟩
  refine wl_y (y_assign (ev_rfl rfl)) (fun _ _ => trivial) rfl ?_
  refine wl_nil ?_
  refine q_then ?_
  refine wc_seq ?_
  refine wc_seq ?_
  refine wc_draw ⟨fun j => List.elem j [], []⟩ (by kernel_rfl) ?_
  refine wa_loadRow 0 rfl (by kernel_rfl) (by kernel_rfl) (by kernel_rfl) (by kernel_rfl) (by first | exact hasC0 | exact hasC1 | exact hasC2 | exact hasC3 | exact hasC4 | exact hasC5 | exact hasC6 | exact hasC7 | exact hasC8 | exact hasC9 | exact hasC10 | exact hasC11 | exact hasC12 | exact hasC13 | exact hasC14 | exact hasC15 | exact hasC16 | exact hasC17 | exact hasC18 | exact hasC19 | exact hasC20 | exact hasC21 | exact hasC22 | exact hasC23) (fun _ => rfl) (fun _ => rfl) (ev_rfl rfl) rfl ?_
  refine wa_loadRow 2 rfl (by kernel_rfl) (by kernel_rfl) (by kernel_rfl) (by kernel_rfl) (by first | exact hasC0 | exact hasC1 | exact hasC2 | exact hasC3 | exact hasC4 | exact hasC5 | exact hasC6 | exact hasC7 | exact hasC8 | exact hasC9 | exact hasC10 | exact hasC11 | exact hasC12 | exact hasC13 | exact hasC14 | exact hasC15 | exact hasC16 | exact hasC17 | exact hasC18 | exact hasC19 | exact hasC20 | exact hasC21 | exact hasC22 | exact hasC23) (fun _ => rfl) (fun _ => rfl) (ev_rfl rfl) rfl ?_
  refine wa_1 1 (by kernel_rfl) ?_
  refine wi_t rfl rfl (t_call rfl (fun _ _ => rfl) (fun w hi => right_ok s Ad Ar cd cr w)) (fun _ _ _ _ _ _ _ h => by cases h) rfl ?_
  rintro _ _ ⟨_, ⟨rfl, rfl⟩, rfl⟩
  refine wa_1 3 (by kernel_rfl) ?_
  refine wi_t rfl rfl (t_call rfl (fun _ _ => rfl) (fun w hi => refright_ok s Ad Ar cd cr w)) (fun _ _ _ _ _ _ _ h => by cases h) rfl ?_
  rintro _ _ ⟨_, ⟨rfl, rfl⟩, rfl⟩
  refine wa_yn 4 rfl (by kernel_rfl) (by kernel_rfl) (by kernel_rfl) (y_neqb rfl (ev_rfl rfl) (ev_rfl rfl) rfl) rfl ?_
  rw [bnn]
  refine wa_yn 5 rfl (by kernel_rfl) (by kernel_rfl) (by kernel_rfl) (y_move (ev_rfl rfl)) rfl ?_
  refine wa_loadRowg 6 rfl (by kernel_rfl) (by kernel_rfl) (by kernel_rfl) (by kernel_rfl) (guard_no rfl rfl) (by first | exact hasC0 | exact hasC1 | exact hasC2 | exact hasC3 | exact hasC4 | exact hasC5 | exact hasC6 | exact hasC7 | exact hasC8 | exact hasC9 | exact hasC10 | exact hasC11 | exact hasC12 | exact hasC13 | exact hasC14 | exact hasC15 | exact hasC16 | exact hasC17 | exact hasC18 | exact hasC19 | exact hasC20 | exact hasC21 | exact hasC22 | exact hasC23) (fun _ => rfl) (fun _ => rfl) (ev_rfl rfl) rfl ?_
  refine wa_loadRowg 8 rfl (by kernel_rfl) (by kernel_rfl) (by kernel_rfl) (by kernel_rfl) (guard_no rfl rfl) (by first | exact hasC0 | exact hasC1 | exact hasC2 | exact hasC3 | exact hasC4 | exact hasC5 | exact hasC6 | exact hasC7 | exact hasC8 | exact hasC9 | exact hasC10 | exact hasC11 | exact hasC12 | exact hasC13 | exact hasC14 | exact hasC15 | exact hasC16 | exact hasC17 | exact hasC18 | exact hasC19 | exact hasC20 | exact hasC21 | exact hasC22 | exact hasC23) (fun _ => rfl) (fun _ => rfl) (ev_rfl rfl) rfl ?_
  refine wa_1 7 (by kernel_rfl) ?_
  refine wi_tg rfl rfl (guard_no rfl rfl) rfl (t_call rfl (fun _ _ => rfl) (fun w hi => copy_ok s Ad Ar cd cr w (h.oldN hi))) (fun _ _ _ _ _ _ _ h => by cases h) rfl ?_
  rintro _ _ ⟨_, ⟨A1, c1, A2, c2, rfl, rfl⟩, rfl⟩
  refine wa_1 9 (by kernel_rfl) ?_
  refine wi_tg rfl rfl (guard_no rfl rfl) rfl (t_call rfl (fun _ _ => rfl) (fun w hi => rSame_ok s s A1 A2 Ad Ar c1 c2 cd cr w (hi.rdSt (s := s) (by first | exact hasC0 | exact hasC1 | exact hasC2 | exact hasC3 | exact hasC4 | exact hasC5 | exact hasC6 | exact hasC7 | exact hasC8 | exact hasC9 | exact hasC10 | exact hasC11 | exact hasC12 | exact hasC13 | exact hasC14 | exact hasC15 | exact hasC16 | exact hasC17 | exact hasC18 | exact hasC19 | exact hasC20 | exact hasC21 | exact hasC22 | exact hasC23) (by first | exact hasC0 | exact hasC1 | exact hasC2 | exact hasC3 | exact hasC4 | exact hasC5 | exact hasC6 | exact hasC7 | exact hasC8 | exact hasC9 | exact hasC10 | exact hasC11 | exact hasC12 | exact hasC13 | exact hasC14 | exact hasC15 | exact hasC16 | exact hasC17 | exact hasC18 | exact hasC19 | exact hasC20 | exact hasC21 | exact hasC22 | exact hasC23) hd4 hr4) (h.oldN hi))) (fun _ _ _ _ _ _ _ h => by cases h) rfl ?_
  rintro _ _ ⟨_, ⟨rfl, rfl⟩, rfl⟩
  rw [St.rsame_self]
  refine wa_y 10 rfl (by kernel_rfl) (by kernel_rfl) (by kernel_rfl) (guard_no rfl rfl) (y_not (ev_g rfl) rfl) rfl ?_
  refine wa_yn 11 rfl (by kernel_rfl) (by kernel_rfl) (by kernel_rfl) (y_or (ev_rfl rfl) (pk_no rfl (fun _ => rfl))) rfl ?_
  refine wa_yn 12 rfl (by kernel_rfl) (by kernel_rfl) (by kernel_rfl) (y_move (ev_rfl rfl)) rfl ?_
  refine wa_loadRowg 13 rfl (by kernel_rfl) (by kernel_rfl) (by kernel_rfl) (by kernel_rfl) (guard_no rfl rfl) (by first | exact hasC0 | exact hasC1 | exact hasC2 | exact hasC3 | exact hasC4 | exact hasC5 | exact hasC6 | exact hasC7 | exact hasC8 | exact hasC9 | exact hasC10 | exact hasC11 | exact hasC12 | exact hasC13 | exact hasC14 | exact hasC15 | exact hasC16 | exact hasC17 | exact hasC18 | exact hasC19 | exact hasC20 | exact hasC21 | exact hasC22 | exact hasC23) (fun _ => rfl) (fun _ => rfl) (ev_rfl rfl) rfl ?_
  refine wa_y 14 rfl (by kernel_rfl) (by kernel_rfl) (by kernel_rfl) (guard_no rfl rfl) (y_move (ev_rfl rfl)) rfl ?_
  refine wa_y 15 rfl (by kernel_rfl) (by kernel_rfl) (by kernel_rfl) (guard_no rfl rfl) (y_move (ev_rfl rfl)) rfl ?_
  refine wa_loadRowg 17 rfl (by kernel_rfl) (by kernel_rfl) (by kernel_rfl) (by kernel_rfl) (guard_no rfl rfl) (by first | exact hasC0 | exact hasC1 | exact hasC2 | exact hasC3 | exact hasC4 | exact hasC5 | exact hasC6 | exact hasC7 | exact hasC8 | exact hasC9 | exact hasC10 | exact hasC11 | exact hasC12 | exact hasC13 | exact hasC14 | exact hasC15 | exact hasC16 | exact hasC17 | exact hasC18 | exact hasC19 | exact hasC20 | exact hasC21 | exact hasC22 | exact hasC23) (fun _ => rfl) (fun _ => rfl) (ev_rfl rfl) rfl ?_
  refine wa_y 18 rfl (by kernel_rfl) (by kernel_rfl) (by kernel_rfl) (guard_no rfl rfl) (y_move (ev_rfl rfl)) rfl ?_
  refine wa_y 19 rfl (by kernel_rfl) (by kernel_rfl) (by kernel_rfl) (guard_no rfl rfl) (y_move (ev_rfl rfl)) rfl ?_
  refine wa_1 16 (by kernel_rfl) ?_
  refine wi_tg rfl rfl (guard_no rfl rfl) rfl (t_call rfl (fun _ _ => rfl) (fun w hi => trap_ok s Ad Ar cd cr cause addr w (h.oldN hi))) (fun _ _ _ _ _ _ _ h => by cases h) rfl ?_
  rintro _ _ ⟨_, ⟨A3, c3, A4, c4, rfl, rfl⟩, rfl⟩
  refine wa_1 20 (by kernel_rfl) ?_
  refine wi_tg rfl rfl (guard_no rfl rfl) rfl (t_call rfl (fun _ _ => rfl) (fun w hi => reftrap_ok s Ad Ar cd cr cause addr w (h.oldN hi))) (fun _ _ _ _ _ _ _ h => by cases h) rfl ?_
  rintro _ _ ⟨_, ⟨A5, c5, A6, c6, rfl, rfl⟩, rfl⟩
  refine wa_1 21 (by kernel_rfl) ?_
  refine wi_tg rfl rfl (guard_no rfl rfl) rfl (t_call rfl (fun _ _ => rfl) (fun w hi => rSame_ok (s.trap cause addr) (s.trap cause addr) A3 A4 A5 A6 c3 c4 c5 c6 w (hi.rdSt (s := s.trap cause addr) (by first | exact hasC0 | exact hasC1 | exact hasC2 | exact hasC3 | exact hasC4 | exact hasC5 | exact hasC6 | exact hasC7 | exact hasC8 | exact hasC9 | exact hasC10 | exact hasC11 | exact hasC12 | exact hasC13 | exact hasC14 | exact hasC15 | exact hasC16 | exact hasC17 | exact hasC18 | exact hasC19 | exact hasC20 | exact hasC21 | exact hasC22 | exact hasC23) (by first | exact hasC0 | exact hasC1 | exact hasC2 | exact hasC3 | exact hasC4 | exact hasC5 | exact hasC6 | exact hasC7 | exact hasC8 | exact hasC9 | exact hasC10 | exact hasC11 | exact hasC12 | exact hasC13 | exact hasC14 | exact hasC15 | exact hasC16 | exact hasC17 | exact hasC18 | exact hasC19 | exact hasC20 | exact hasC21 | exact hasC22 | exact hasC23) hd4 hr4) (hi.rdSt (s := s.trap cause addr) (by first | exact hasC0 | exact hasC1 | exact hasC2 | exact hasC3 | exact hasC4 | exact hasC5 | exact hasC6 | exact hasC7 | exact hasC8 | exact hasC9 | exact hasC10 | exact hasC11 | exact hasC12 | exact hasC13 | exact hasC14 | exact hasC15 | exact hasC16 | exact hasC17 | exact hasC18 | exact hasC19 | exact hasC20 | exact hasC21 | exact hasC22 | exact hasC23) (by first | exact hasC0 | exact hasC1 | exact hasC2 | exact hasC3 | exact hasC4 | exact hasC5 | exact hasC6 | exact hasC7 | exact hasC8 | exact hasC9 | exact hasC10 | exact hasC11 | exact hasC12 | exact hasC13 | exact hasC14 | exact hasC15 | exact hasC16 | exact hasC17 | exact hasC18 | exact hasC19 | exact hasC20 | exact hasC21 | exact hasC22 | exact hasC23) hd4 hr4))) (fun _ _ _ _ _ _ _ h => by cases h) rfl ?_
  rintro _ _ ⟨_, ⟨rfl, rfl⟩, rfl⟩
  rw [St.rsame_self]
  refine wa_y 22 rfl (by kernel_rfl) (by kernel_rfl) (by kernel_rfl) (guard_no rfl rfl) (y_not (ev_g rfl) rfl) rfl ?_
  refine wa_yn 23 rfl (by kernel_rfl) (by kernel_rfl) (by kernel_rfl) (y_or (ev_rfl rfl) (pk_no rfl (fun _ => rfl))) rfl ?_
  refine wa_yn 24 rfl (by kernel_rfl) (by kernel_rfl) (by kernel_rfl) (y_move (ev_rfl rfl)) rfl ?_
  refine wa_loadRowg 25 rfl (by kernel_rfl) (by kernel_rfl) (by kernel_rfl) (by kernel_rfl) (guard_no rfl rfl) (by first | exact hasC0 | exact hasC1 | exact hasC2 | exact hasC3 | exact hasC4 | exact hasC5 | exact hasC6 | exact hasC7 | exact hasC8 | exact hasC9 | exact hasC10 | exact hasC11 | exact hasC12 | exact hasC13 | exact hasC14 | exact hasC15 | exact hasC16 | exact hasC17 | exact hasC18 | exact hasC19 | exact hasC20 | exact hasC21 | exact hasC22 | exact hasC23) (fun _ => rfl) (fun _ => rfl) (ev_rfl rfl) rfl ?_
  refine wa_loadRowg 27 rfl (by kernel_rfl) (by kernel_rfl) (by kernel_rfl) (by kernel_rfl) (guard_no rfl rfl) (by first | exact hasC0 | exact hasC1 | exact hasC2 | exact hasC3 | exact hasC4 | exact hasC5 | exact hasC6 | exact hasC7 | exact hasC8 | exact hasC9 | exact hasC10 | exact hasC11 | exact hasC12 | exact hasC13 | exact hasC14 | exact hasC15 | exact hasC16 | exact hasC17 | exact hasC18 | exact hasC19 | exact hasC20 | exact hasC21 | exact hasC22 | exact hasC23) (fun _ => rfl) (fun _ => rfl) (ev_rfl rfl) rfl ?_
  refine wa_1 26 (by kernel_rfl) ?_
  refine wi_tg rfl rfl (guard_no rfl rfl) rfl (t_call rfl (fun _ _ => rfl) (fun w hi => return_ok s Ad Ar cd cr w (h.oldN hi))) (fun _ _ _ _ _ _ _ h => by cases h) rfl ?_
  rintro _ _ ⟨_, ⟨A7, c7, A8, c8, rfl, rfl⟩, rfl⟩
  refine wa_1 28 (by kernel_rfl) ?_
  refine wi_tg rfl rfl (guard_no rfl rfl) rfl (t_call rfl (fun _ _ => rfl) (fun w hi => refreturn_ok s Ad Ar cd cr w (h.oldN hi))) (fun _ _ _ _ _ _ _ h => by cases h) rfl ?_
  rintro _ _ ⟨_, ⟨A9, c9, A10, c10, rfl, rfl⟩, rfl⟩
  refine wa_1 29 (by kernel_rfl) ?_
  refine wi_tg rfl rfl (guard_no rfl rfl) rfl (t_call rfl (fun _ _ => rfl) (fun w hi => rSame_ok s.back s.back A7 A8 A9 A10 c7 c8 c9 c10 w (hi.rdSt (s := s.back) (by first | exact hasC0 | exact hasC1 | exact hasC2 | exact hasC3 | exact hasC4 | exact hasC5 | exact hasC6 | exact hasC7 | exact hasC8 | exact hasC9 | exact hasC10 | exact hasC11 | exact hasC12 | exact hasC13 | exact hasC14 | exact hasC15 | exact hasC16 | exact hasC17 | exact hasC18 | exact hasC19 | exact hasC20 | exact hasC21 | exact hasC22 | exact hasC23) (by first | exact hasC0 | exact hasC1 | exact hasC2 | exact hasC3 | exact hasC4 | exact hasC5 | exact hasC6 | exact hasC7 | exact hasC8 | exact hasC9 | exact hasC10 | exact hasC11 | exact hasC12 | exact hasC13 | exact hasC14 | exact hasC15 | exact hasC16 | exact hasC17 | exact hasC18 | exact hasC19 | exact hasC20 | exact hasC21 | exact hasC22 | exact hasC23) hd4 hr4) (hi.rdSt (s := s.back) (by first | exact hasC0 | exact hasC1 | exact hasC2 | exact hasC3 | exact hasC4 | exact hasC5 | exact hasC6 | exact hasC7 | exact hasC8 | exact hasC9 | exact hasC10 | exact hasC11 | exact hasC12 | exact hasC13 | exact hasC14 | exact hasC15 | exact hasC16 | exact hasC17 | exact hasC18 | exact hasC19 | exact hasC20 | exact hasC21 | exact hasC22 | exact hasC23) (by first | exact hasC0 | exact hasC1 | exact hasC2 | exact hasC3 | exact hasC4 | exact hasC5 | exact hasC6 | exact hasC7 | exact hasC8 | exact hasC9 | exact hasC10 | exact hasC11 | exact hasC12 | exact hasC13 | exact hasC14 | exact hasC15 | exact hasC16 | exact hasC17 | exact hasC18 | exact hasC19 | exact hasC20 | exact hasC21 | exact hasC22 | exact hasC23) hd4 hr4))) (fun _ _ _ _ _ _ _ h => by cases h) rfl ?_
  rintro _ _ ⟨_, ⟨rfl, rfl⟩, rfl⟩
  rw [St.rsame_self]
  refine wa_y 30 rfl (by kernel_rfl) (by kernel_rfl) (by kernel_rfl) (guard_no rfl rfl) (y_not (ev_g rfl) rfl) rfl ?_
  refine wa_yn 31 rfl (by kernel_rfl) (by kernel_rfl) (by kernel_rfl) (y_or (ev_rfl rfl) (pk_no rfl (fun _ => rfl))) rfl ?_
  refine wa_done (by kernel_rfl) ?_
  refine q_then ?_
  refine wc_cond_f rfl (rfl) ?_
  refine wc_skip ?_
  refine q_then ?_
  refine wc_seq ?_
  refine wc_region ?_
  refine wl_loadRow (by first | exact hasC0 | exact hasC1 | exact hasC2 | exact hasC3 | exact hasC4 | exact hasC5 | exact hasC6 | exact hasC7 | exact hasC8 | exact hasC9 | exact hasC10 | exact hasC11 | exact hasC12 | exact hasC13 | exact hasC14 | exact hasC15 | exact hasC16 | exact hasC17 | exact hasC18 | exact hasC19 | exact hasC20 | exact hasC21 | exact hasC22 | exact hasC23) (fun _ => rfl) (fun _ => rfl) (ev_rfl rfl) rfl ?_
  refine wl_y (y_move (ev_rfl rfl)) (fun _ _ => trivial) rfl ?_
  refine wl_t (t_call rfl (fun _ _ => rfl) (fun w hi => get_ok s _ _ reg w)) rfl ?_
  rintro _ _ ⟨_, ⟨rfl, rfl⟩, rfl⟩
  refine wl_y (y_move (ev_rfl rfl)) (fun _ _ => trivial) rfl ?_
  refine wl_y (y_extract (ev_rfl rfl) rfl) (fun _ _ => trivial) rfl ?_
  refine wl_y (y_extract (ev_rfl rfl) rfl) (fun _ _ => trivial) rfl ?_
  refine wl_y (y_assign (ev_rfl rfl)) (fun _ _ => trivial) rfl ?_
  refine wl_y (y_assign (ev_rfl rfl)) (fun _ _ => trivial) rfl ?_
  refine wl_nil ?_
  refine q_then ?_
  refine wc_seq ?_
  refine wc_region ?_
  refine wl_loadRow (by first | exact hasC0 | exact hasC1 | exact hasC2 | exact hasC3 | exact hasC4 | exact hasC5 | exact hasC6 | exact hasC7 | exact hasC8 | exact hasC9 | exact hasC10 | exact hasC11 | exact hasC12 | exact hasC13 | exact hasC14 | exact hasC15 | exact hasC16 | exact hasC17 | exact hasC18 | exact hasC19 | exact hasC20 | exact hasC21 | exact hasC22 | exact hasC23) (fun _ => rfl) (fun _ => rfl) (ev_rfl rfl) rfl ?_
  refine wl_y (y_move (ev_rfl rfl)) (fun _ _ => trivial) rfl ?_
  refine wl_t (t_call rfl (fun _ _ => rfl) (fun w hi => refget_ok s _ _ reg w)) rfl ?_
  rintro _ _ ⟨_, ⟨rfl, rfl⟩, rfl⟩
  refine wl_y (y_move (ev_rfl rfl)) (fun _ _ => trivial) rfl ?_
  refine wl_y (y_extract (ev_rfl rfl) rfl) (fun _ _ => trivial) rfl ?_
  refine wl_y (y_extract (ev_rfl rfl) rfl) (fun _ _ => trivial) rfl ?_
  refine wl_y (y_assign (ev_rfl rfl)) (fun _ _ => trivial) rfl ?_
  refine wl_y (y_assign (ev_rfl rfl)) (fun _ _ => trivial) rfl ?_
  refine wl_nil ?_
  refine q_then ?_
  refine wc_seq ?_
  refine wc_region ?_
  refine wl_loadRow (by first | exact hasC0 | exact hasC1 | exact hasC2 | exact hasC3 | exact hasC4 | exact hasC5 | exact hasC6 | exact hasC7 | exact hasC8 | exact hasC9 | exact hasC10 | exact hasC11 | exact hasC12 | exact hasC13 | exact hasC14 | exact hasC15 | exact hasC16 | exact hasC17 | exact hasC18 | exact hasC19 | exact hasC20 | exact hasC21 | exact hasC22 | exact hasC23) (fun _ => rfl) (fun _ => rfl) (ev_rfl rfl) rfl ?_
  refine wl_y (y_move (ev_rfl rfl)) (fun _ _ => trivial) rfl ?_
  refine wl_y (y_move (ev_rfl rfl)) (fun _ _ => trivial) rfl ?_
  refine wl_t (t_call rfl (fun _ _ => rfl) (fun w hi => set_ok s Ad Ar cd cr reg v w (h.oldN hi))) rfl ?_
  rintro _ _ ⟨_, ⟨B1, e1, B2, e2, rfl, rfl⟩, rfl⟩
  refine wl_y (y_move (ev_rfl rfl)) (fun _ _ => trivial) rfl ?_
  refine wl_y (y_extract (ev_rfl rfl) rfl) (fun _ _ => trivial) rfl ?_
  refine wl_y (y_extract (ev_rfl rfl) rfl) (fun _ _ => trivial) rfl ?_
  refine wl_t (t_alloc (fun _ => rfl) rfl) rfl ?_
  rintro _ _ ⟨b15, rfl, rfl⟩
  refine wl_t0 (t_storeN (fun _ => rfl) rfl rfl (allT rfl) (by first | exact atC0 | exact atC1 | exact atC2 | exact atC3 | exact atC4 | exact atC5 | exact atC6 | exact atC7 | exact atC8 | exact atC9 | exact atC10 | exact atC11 | exact atC12 | exact atC13 | exact atC14 | exact atC15 | exact atC16 | exact atC17 | exact atC18 | exact atC19 | exact atC20 | exact atC21 | exact atC22 | exact atC23) (by exact rfl)) ?_
  rintro _ _ ⟨rfl, rfl⟩
  refine wl_y (y_assign (ev_rfl rfl)) (fun _ _ => trivial) rfl ?_
  refine wl_nil ?_
  refine q_then ?_
  refine wc_seq ?_
  refine wc_region ?_
  refine wl_loadRow (by first | exact hasC0 | exact hasC1 | exact hasC2 | exact hasC3 | exact hasC4 | exact hasC5 | exact hasC6 | exact hasC7 | exact hasC8 | exact hasC9 | exact hasC10 | exact hasC11 | exact hasC12 | exact hasC13 | exact hasC14 | exact hasC15 | exact hasC16 | exact hasC17 | exact hasC18 | exact hasC19 | exact hasC20 | exact hasC21 | exact hasC22 | exact hasC23) (fun _ => rfl) (fun _ => rfl) (ev_rfl rfl) rfl ?_
  refine wl_y (y_move (ev_rfl rfl)) (fun _ _ => trivial) rfl ?_
  refine wl_y (y_move (ev_rfl rfl)) (fun _ _ => trivial) rfl ?_
  refine wl_t (t_call rfl (fun _ _ => rfl) (fun w hi => refset_ok s Ad Ar cd cr reg v hv w (h.oldN hi))) rfl ?_
  rintro _ _ ⟨_, ⟨B3, e3, B4, e4, rfl, rfl⟩, rfl⟩
  refine wl_y (y_move (ev_rfl rfl)) (fun _ _ => trivial) rfl ?_
  refine wl_y (y_extract (ev_rfl rfl) rfl) (fun _ _ => trivial) rfl ?_
  refine wl_y (y_extract (ev_rfl rfl) rfl) (fun _ _ => trivial) rfl ?_
  refine wl_t (t_alloc (fun _ => rfl) rfl) rfl ?_
  rintro _ _ ⟨b17, rfl, rfl⟩
  refine wl_t0 (t_storeN (fun _ => rfl) rfl rfl (allT rfl) (by first | exact atC0 | exact atC1 | exact atC2 | exact atC3 | exact atC4 | exact atC5 | exact atC6 | exact atC7 | exact atC8 | exact atC9 | exact atC10 | exact atC11 | exact atC12 | exact atC13 | exact atC14 | exact atC15 | exact atC16 | exact atC17 | exact atC18 | exact atC19 | exact atC20 | exact atC21 | exact atC22 | exact atC23) (by exact rfl)) ?_
  rintro _ _ ⟨rfl, rfl⟩
  refine wl_y (y_assign (ev_rfl rfl)) (fun _ _ => trivial) rfl ?_
  refine wl_nil ?_
  refine q_then ?_
  refine wc_seq ?_
  refine wc_seq ?_
  refine wc_region ?_
  refine wl_y (y_move (ev_rfl rfl)) (fun _ _ => trivial) rfl ?_
  refine wl_y (y_move (ev_rfl rfl)) (fun _ _ => trivial) rfl ?_
  refine wl_y (y_neq (ev_rfl rfl) (ev_rfl rfl) rfl) (fun _ _ => trivial) rfl ?_
  rw [bnni]
  refine wl_y (y_move (ev_rfl rfl)) (fun _ _ => trivial) rfl ?_
  refine wl_yg (guard_no rfl rfl) (y_move (ev_rfl rfl)) (fun _ _ => trivial) rfl ?_
  refine wl_yg (guard_no rfl rfl) (y_move (ev_rfl rfl)) (fun _ _ => trivial) rfl ?_
  refine wl_yg (guard_no rfl rfl) (y_neqb rfl (ev_g rfl) (ev_g rfl) rfl) (fun _ _ => trivial) rfl ?_
  rw [bnn]
  refine wl_y (y_or (ev_rfl rfl) (pk_no rfl (fun _ => rfl))) (fun _ _ => trivial) rfl ?_
  refine wl_y (y_move (ev_rfl rfl)) (fun _ _ => trivial) rfl ?_
  refine wl_yg (guard_no rfl rfl) (y_move (ev_rfl rfl)) (fun _ _ => trivial) rfl ?_
  refine wl_yg (guard_no rfl rfl) (y_move (ev_rfl rfl)) (fun _ _ => trivial) rfl ?_
  refine wl_yg (guard_no rfl rfl) (y_neqb rfl (ev_g rfl) (ev_g rfl) rfl) (fun _ _ => trivial) rfl ?_
  rw [bnn]
  refine wl_y (y_or (ev_rfl rfl) (pk_no rfl (fun _ => rfl))) (fun _ _ => trivial) rfl ?_
  refine wl_y (y_move (ev_rfl rfl)) (fun _ _ => trivial) rfl ?_
  refine wl_loadRowg (guard_no rfl rfl) (by first | exact hasC0 | exact hasC1 | exact hasC2 | exact hasC3 | exact hasC4 | exact hasC5 | exact hasC6 | exact hasC7 | exact hasC8 | exact hasC9 | exact hasC10 | exact hasC11 | exact hasC12 | exact hasC13 | exact hasC14 | exact hasC15 | exact hasC16 | exact hasC17 | exact hasC18 | exact hasC19 | exact hasC20 | exact hasC21 | exact hasC22 | exact hasC23) (fun _ => rfl) (fun _ => rfl) (ev_rfl rfl) rfl ?_
  refine wl_loadRowg (guard_no rfl rfl) (by first | exact hasC0 | exact hasC1 | exact hasC2 | exact hasC3 | exact hasC4 | exact hasC5 | exact hasC6 | exact hasC7 | exact hasC8 | exact hasC9 | exact hasC10 | exact hasC11 | exact hasC12 | exact hasC13 | exact hasC14 | exact hasC15 | exact hasC16 | exact hasC17 | exact hasC18 | exact hasC19 | exact hasC20 | exact hasC21 | exact hasC22 | exact hasC23) (fun _ => rfl) (fun _ => rfl) (ev_rfl rfl) rfl ?_
  refine wl_tg (guard_no rfl rfl) rfl (t_call rfl (fun _ _ => rfl) (fun w hi => rSame_ok (s.set reg v).1 (s.set reg v).1 B1 B2 B3 B4 e1 e2 e3 e4 w ((hi.rdSt (s := s) (by first | exact hasC0 | exact hasC1 | exact hasC2 | exact hasC3 | exact hasC4 | exact hasC5 | exact hasC6 | exact hasC7 | exact hasC8 | exact hasC9 | exact hasC10 | exact hasC11 | exact hasC12 | exact hasC13 | exact hasC14 | exact hasC15 | exact hasC16 | exact hasC17 | exact hasC18 | exact hasC19 | exact hasC20 | exact hasC21 | exact hasC22 | exact hasC23) (by first | exact hasC0 | exact hasC1 | exact hasC2 | exact hasC3 | exact hasC4 | exact hasC5 | exact hasC6 | exact hasC7 | exact hasC8 | exact hasC9 | exact hasC10 | exact hasC11 | exact hasC12 | exact hasC13 | exact hasC14 | exact hasC15 | exact hasC16 | exact hasC17 | exact hasC18 | exact hasC19 | exact hasC20 | exact hasC21 | exact hasC22 | exact hasC23) hd4 hr4).set' reg v) ((hi.rdSt (s := s) (by first | exact hasC0 | exact hasC1 | exact hasC2 | exact hasC3 | exact hasC4 | exact hasC5 | exact hasC6 | exact hasC7 | exact hasC8 | exact hasC9 | exact hasC10 | exact hasC11 | exact hasC12 | exact hasC13 | exact hasC14 | exact hasC15 | exact hasC16 | exact hasC17 | exact hasC18 | exact hasC19 | exact hasC20 | exact hasC21 | exact hasC22 | exact hasC23) (by first | exact hasC0 | exact hasC1 | exact hasC2 | exact hasC3 | exact hasC4 | exact hasC5 | exact hasC6 | exact hasC7 | exact hasC8 | exact hasC9 | exact hasC10 | exact hasC11 | exact hasC12 | exact hasC13 | exact hasC14 | exact hasC15 | exact hasC16 | exact hasC17 | exact hasC18 | exact hasC19 | exact hasC20 | exact hasC21 | exact hasC22 | exact hasC23) hd4 hr4).set' reg v))) rfl ?_
  rintro _ _ ⟨_, ⟨rfl, rfl⟩, rfl⟩
  rw [St.rsame_self]
  refine wl_yg (guard_no rfl rfl) (y_not (ev_g rfl) rfl) (fun _ _ => trivial) rfl ?_
  refine wl_y (y_or (ev_rfl rfl) (pk_no rfl (fun _ => rfl))) (fun _ _ => trivial) rfl ?_
  refine wl_nil ?_
  refine q_then ?_
  refine wc_cond_f rfl (rfl) ?_
  refine wc_skip ?_
  refine q_then ?_
  refine wc_seq ?_
  refine wc_region ?_
  refine wl_loadRow (by first | exact hasC0 | exact hasC1 | exact hasC2 | exact hasC3 | exact hasC4 | exact hasC5 | exact hasC6 | exact hasC7 | exact hasC8 | exact hasC9 | exact hasC10 | exact hasC11 | exact hasC12 | exact hasC13 | exact hasC14 | exact hasC15 | exact hasC16 | exact hasC17 | exact hasC18 | exact hasC19 | exact hasC20 | exact hasC21 | exact hasC22 | exact hasC23) (fun _ => rfl) (fun _ => rfl) (ev_rfl rfl) rfl ?_
  refine wl_t (t_call rfl (fun _ _ => rfl) (fun w hi => encode_ok s hs Ad Ar cd cr w (h.oldN hi))) rfl ?_
  rintro _ _ ⟨_, ⟨A11, c11, rfl, rfl⟩, rfl⟩
  refine wl_y (y_move (ev_rfl rfl)) (fun _ _ => trivial) rfl ?_
  refine wl_y (y_extract (ev_rfl rfl) rfl) (fun _ _ => trivial) rfl ?_
  refine wl_y (y_extract (ev_rfl rfl) rfl) (fun _ _ => trivial) rfl ?_
  refine wl_y (y_assign (ev_rfl rfl)) (fun _ _ => trivial) rfl ?_
  refine wl_y (y_assign (ev_rfl rfl)) (fun _ _ => trivial) rfl ?_
  refine wl_nil ?_
  refine q_then ?_
  refine wc_seq ?_
  refine wc_seq ?_
  refine wc_region ?_
  refine wl_loadRow (by first | exact hasC0 | exact hasC1 | exact hasC2 | exact hasC3 | exact hasC4 | exact hasC5 | exact hasC6 | exact hasC7 | exact hasC8 | exact hasC9 | exact hasC10 | exact hasC11 | exact hasC12 | exact hasC13 | exact hasC14 | exact hasC15 | exact hasC16 | exact hasC17 | exact hasC18 | exact hasC19 | exact hasC20 | exact hasC21 | exact hasC22 | exact hasC23) (fun _ => rfl) (fun _ => rfl) (ev_rfl rfl) rfl ?_
  refine wl_t (t_call rfl (fun _ _ => rfl) (fun w hi => refright_ok s Ad Ar cd cr w)) rfl ?_
  rintro _ _ ⟨_, ⟨rfl, rfl⟩, rfl⟩
  refine wl_y (y_not (ev_rfl rfl) rfl) (fun _ _ => trivial) rfl ?_
  refine wl_nil ?_
  refine q_then ?_
  refine wc_cond _ rfl (fun hc10 => ?_) (fun hc10 => ?_)
  · have hr : s.right = false := by simpa using hc10
    have he : s.encOf = [] := by simp [St.encOf, hr]
    have he2 : s.encE = 12 := by simp [St.encE, hr]
    rw [he, he2]
    refine wc_seq ?_
    refine wc_region ?_
    refine wl_y (y_move (ev_rfl rfl)) (fun _ _ => trivial) rfl ?_
    refine wl_y (y_eql (ev_rfl rfl) (ev_rfl rfl) rfl) (fun _ _ => trivial) rfl ?_
    refine wl_y (y_move (ev_rfl rfl)) (fun _ _ => trivial) rfl ?_
    refine wl_yg (guard_yes rfl rfl) (y_move (ev_rfl rfl)) (fun _ _ => trivial) rfl ?_
    refine wl_yg (guard_yes rfl rfl) (y_len ⟨_, rfl⟩ (ev_g rfl)) (fun _ _ => trivial) rfl ?_
    refine wl_yg (guard_yes rfl rfl) (y_eql (ev_g rfl) (ev_rfl rfl) rfl) (fun _ _ => trivial) rfl ?_
    refine wl_y (y_and (ev_rfl rfl) (pk_yes rfl (fun _ => rfl))) (fun _ _ => trivial) rfl ?_
    refine wl_y (y_assign (ev_rfl rfl)) (fun _ _ => trivial) rfl ?_
    refine wl_nil ?_
    refine q_then ?_
    refine wc_ret ?_
    refine q_then_ret ?_
    refine ret1 (cs' := []) (.inl rfl) (by ((repeat (first | exact List.Sublist.slnil | refine List.Sublist.cons_cons _ ?_ | refine List.Sublist.cons _ ?_)))) rfl rfl ?_
    exact ⟨rfl, rfl⟩
  · have hr : s.right = true := by simpa using hc10
    have he : s.encOf = s.enc := by simp [St.encOf, hr]
    have he2 : s.encE = 0 := by simp [St.encE, hr]
    rw [he, he2]
    refine wc_skip ?_
    refine q_then ?_
    refine wc_seq ?_
    refine wc_draw ⟨fun j => List.elem j [], []⟩ (by kernel_rfl) ?_
    refine wa_yn 0 rfl (by kernel_rfl) (by kernel_rfl) (by kernel_rfl) (y_move (ev_rfl rfl)) rfl ?_
    refine wa_yn 1 rfl (by kernel_rfl) (by kernel_rfl) (by kernel_rfl) (y_eql (ev_rfl rfl) (ev_rfl rfl) rfl) rfl ?_
    refine wa_yn 2 rfl (by kernel_rfl) (by kernel_rfl) (by kernel_rfl) (y_move (ev_rfl rfl)) rfl ?_
    refine wa_y 3 rfl (by kernel_rfl) (by kernel_rfl) (by kernel_rfl) (guard_yes rfl rfl) (y_move (ev_rfl rfl)) rfl ?_
    refine wa_fact (fun w hi => rd_any (hi.rd (show Has _ (sl .u8 5 A11 s.enc.length c11 s.enc) from (by first | exact hasC0 | exact hasC1 | exact hasC2 | exact hasC3 | exact hasC4 | exact hasC5 | exact hasC6 | exact hasC7 | exact hasC8 | exact hasC9 | exact hasC10 | exact hasC11 | exact hasC12 | exact hasC13 | exact hasC14 | exact hasC15 | exact hasC16 | exact hasC17 | exact hasC18 | exact hasC19 | exact hasC20 | exact hasC21 | exact hasC22 | exact hasC23)))) (fun hrd117 => ?_)
    refine wa_l 4 rfl (by kernel_rfl) (by kernel_rfl) (by kernel_rfl) (by kernel_rfl) (guard_yes rfl rfl) (y_bstr rfl rfl rfl (ev_g rfl) hrd117) (fun w hi => RdV.cellsO (hi.rd (show Has _ (sl .u8 5 A11 s.enc.length c11 s.enc) from (by first | exact hasC0 | exact hasC1 | exact hasC2 | exact hasC3 | exact hasC4 | exact hasC5 | exact hasC6 | exact hasC7 | exact hasC8 | exact hasC9 | exact hasC10 | exact hasC11 | exact hasC12 | exact hasC13 | exact hasC14 | exact hasC15 | exact hasC16 | exact hasC17 | exact hasC18 | exact hasC19 | exact hasC20 | exact hasC21 | exact hasC22 | exact hasC23)))) rfl ?_
    refine wa_loadRowg 5 rfl (by kernel_rfl) (by kernel_rfl) (by kernel_rfl) (by kernel_rfl) (guard_yes rfl rfl) (by first | exact hasC0 | exact hasC1 | exact hasC2 | exact hasC3 | exact hasC4 | exact hasC5 | exact hasC6 | exact hasC7 | exact hasC8 | exact hasC9 | exact hasC10 | exact hasC11 | exact hasC12 | exact hasC13 | exact hasC14 | exact hasC15 | exact hasC16 | exact hasC17 | exact hasC18 | exact hasC19 | exact hasC20 | exact hasC21 | exact hasC22 | exact hasC23) (fun _ => rfl) (fun _ => rfl) (ev_rfl rfl) rfl ?_
    refine wa_1 6 (by kernel_rfl) ?_
    refine wi_tg rfl rfl (guard_yes rfl rfl) rfl (t_call rfl (fun _ _ => rfl) (fun w hi => refencode_ok s hs hr Ad Ar cd cr w (h.oldN hi))) (fun _ _ _ _ _ _ _ h => by cases h) rfl ?_
    rintro _ _ ⟨_, ⟨A12, c12, rfl, rfl⟩, rfl⟩
    refine wa_fact (fun w hi => rd_any (hi.rd (show Has _ (sl .u8 5 A12 s.enc.length c12 s.enc) from (by first | exact hasC0 | exact hasC1 | exact hasC2 | exact hasC3 | exact hasC4 | exact hasC5 | exact hasC6 | exact hasC7 | exact hasC8 | exact hasC9 | exact hasC10 | exact hasC11 | exact hasC12 | exact hasC13 | exact hasC14 | exact hasC15 | exact hasC16 | exact hasC17 | exact hasC18 | exact hasC19 | exact hasC20 | exact hasC21 | exact hasC22 | exact hasC23)))) (fun hrd120 => ?_)
    refine wa_l 7 rfl (by kernel_rfl) (by kernel_rfl) (by kernel_rfl) (by kernel_rfl) (guard_yes rfl rfl) (y_bstr rfl rfl rfl (ev_g rfl) hrd120) (fun w hi => RdV.cellsO (hi.rd (show Has _ (sl .u8 5 A12 s.enc.length c12 s.enc) from (by first | exact hasC0 | exact hasC1 | exact hasC2 | exact hasC3 | exact hasC4 | exact hasC5 | exact hasC6 | exact hasC7 | exact hasC8 | exact hasC9 | exact hasC10 | exact hasC11 | exact hasC12 | exact hasC13 | exact hasC14 | exact hasC15 | exact hasC16 | exact hasC17 | exact hasC18 | exact hasC19 | exact hasC20 | exact hasC21 | exact hasC22 | exact hasC23)))) rfl ?_
    refine wa_y 8 rfl (by kernel_rfl) (by kernel_rfl) (by kernel_rfl) (guard_yes rfl rfl) (y_eqlS rfl (ev_g rfl) (ev_g rfl) rfl) rfl ?_
    refine wa_yn 9 rfl (by kernel_rfl) (by kernel_rfl) (by kernel_rfl) (y_and (ev_rfl rfl) (pk_yes rfl (fun _ => rfl))) rfl ?_
    refine wa_yn 10 rfl (by kernel_rfl) (by kernel_rfl) (by kernel_rfl) (y_assign (ev_rfl rfl)) rfl ?_
    refine wa_done (by kernel_rfl) ?_
    refine q_then ?_
    refine wc_ret ?_
    refine ret1 (cs' := []) (.inl rfl) (by ((repeat (first | exact List.Sublist.slnil | refine List.Sublist.cons_cons _ ?_ | refine List.Sublist.cons _ ?_)))) rfl rfl ?_
    refine ⟨congrArg Value.bool ?_, rfl⟩
    simp
end Go.Proofs.Ytjknccgefnnfnaa
