/- Trap, Return, New, Get, Set, Right. -/
import Derived.Test.YtjknccgefnnfnaaStB
set_option linter.unusedSimpArgs false
set_option linter.unusedVariables false
namespace Go.Proofs.Ytjknccgefnnfnaa
open Go.RowKit Go.Ink

theorem trap_ok (s : St) (Ad Ar : Option Addr) (cd cr : Nat) (cause addr : Int) (w : World) (h : RdSt w s Ad Ar cd cr) : Ctr Try.prog 15 [sv s Ad cd Ar cr, .int .i64 cause, .int .u32 addr] w [] (OwnSt (s.trap cause addr)) := by
  refine fn_ctr Try.func15 rfl Try.ntmps15 rfl (Inv.start w) ?_
  refine wc_seq ?_
  refine wc_region ?_
  refine wl_t (t_box rfl rfl) rfl ?_
  rintro _ _ ⟨b3, rfl, rfl⟩
  refine wl_t (t_alloc (fun _ => rfl) rfl) rfl ?_
  rintro _ _ ⟨b6, rfl, rfl⟩
  refine wl_nil ?_
  refine q_then ?_
  refine wc_seq ?_
  refine wc_region ?_
  refine wl_loadRow (by first | exact hasC0 | exact hasC1 | exact hasC2 | exact hasC3 | exact hasC4 | exact hasC5 | exact hasC6 | exact hasC7 | exact hasC8 | exact hasC9 | exact hasC10 | exact hasC11 | exact hasC12 | exact hasC13 | exact hasC14 | exact hasC15 | exact hasC16 | exact hasC17 | exact hasC18 | exact hasC19 | exact hasC20 | exact hasC21 | exact hasC22 | exact hasC23) (fun _ => rfl) (fun _ => rfl) (ev_rfl rfl) rfl ?_
  refine wl_t (t_call rfl (fun _ _ => rfl) (fun w hi => copy_ok s Ad Ar cd cr w (h.oldN hi))) rfl ?_
  rintro _ _ ⟨_, ⟨A1, c1, A2, c2, rfl, rfl⟩, rfl⟩
  refine wl_t0 (t_storeN (fun _ => rfl) rfl rfl (allT rfl) (by first | exact atC0 | exact atC1 | exact atC2 | exact atC3 | exact atC4 | exact atC5 | exact atC6 | exact atC7 | exact atC8 | exact atC9 | exact atC10 | exact atC11 | exact atC12 | exact atC13 | exact atC14 | exact atC15 | exact atC16 | exact atC17 | exact atC18 | exact atC19 | exact atC20 | exact atC21 | exact atC22 | exact atC23) (by exact rfl)) ?_
  rintro _ _ ⟨rfl, rfl⟩
  refine wl_nil ?_
  refine q_then ?_
  refine wc_seq ?_
  refine wc_region ?_
  refine wl_y (y_field 0 rfl (ev_rfl rfl) (by first | exact Nat.zero_add _ | exact rfl)) (fun _ _ => trivial) rfl ?_
  refine wl_y (y_load (fun _ => rfl) (ev_rfl rfl)) (row_cell (by first | exact hasC0 | exact hasC1 | exact hasC2 | exact hasC3 | exact hasC4 | exact hasC5 | exact hasC6 | exact hasC7 | exact hasC8 | exact hasC9 | exact hasC10 | exact hasC11 | exact hasC12 | exact hasC13 | exact hasC14 | exact hasC15 | exact hasC16 | exact hasC17 | exact hasC18 | exact hasC19 | exact hasC20 | exact hasC21 | exact hasC22 | exact hasC23) rfl) rfl ?_
  refine wl_y (y_move (ev_rfl rfl)) (fun _ _ => trivial) rfl ?_
  refine wl_y (y_conv rfl rfl (ev_rfl rfl) rfl) (fun _ _ => trivial) rfl ?_
  refine wl_y (y_move (ev_rfl rfl)) (fun _ _ => trivial) rfl ?_
  refine wl_y (y_field 4 rfl (ev_rfl rfl) (by first | exact Nat.zero_add _ | exact rfl)) (fun _ _ => trivial) rfl ?_
  refine wl_y (y_load (fun _ => rfl) (ev_rfl rfl)) (row_cell (by first | exact hasC0 | exact hasC1 | exact hasC2 | exact hasC3 | exact hasC4 | exact hasC5 | exact hasC6 | exact hasC7 | exact hasC8 | exact hasC9 | exact hasC10 | exact hasC11 | exact hasC12 | exact hasC13 | exact hasC14 | exact hasC15 | exact hasC16 | exact hasC17 | exact hasC18 | exact hasC19 | exact hasC20 | exact hasC21 | exact hasC22 | exact hasC23) rfl) rfl ?_
  refine wl_y (y_field 6 rfl (ev_rfl rfl) (by first | exact Nat.zero_add _ | exact rfl)) (fun _ _ => trivial) rfl ?_
  refine wl_y (y_load (fun _ => rfl) (ev_rfl rfl)) (row_cell (by first | exact hasC0 | exact hasC1 | exact hasC2 | exact hasC3 | exact hasC4 | exact hasC5 | exact hasC6 | exact hasC7 | exact hasC8 | exact hasC9 | exact hasC10 | exact hasC11 | exact hasC12 | exact hasC13 | exact hasC14 | exact hasC15 | exact hasC16 | exact hasC17 | exact hasC18 | exact hasC19 | exact hasC20 | exact hasC21 | exact hasC22 | exact hasC23) rfl) rfl ?_
  refine wl_y (y_field 9 rfl (ev_rfl rfl) (by first | exact Nat.zero_add _ | exact rfl)) (fun _ _ => trivial) rfl ?_
  refine wl_t0 (t_store (fun _ => rfl) rfl rfl rfl (by first | exact atC0 | exact atC1 | exact atC2 | exact atC3 | exact atC4 | exact atC5 | exact atC6 | exact atC7 | exact atC8 | exact atC9 | exact atC10 | exact atC11 | exact atC12 | exact atC13 | exact atC14 | exact atC15 | exact atC16 | exact atC17 | exact atC18 | exact atC19 | exact atC20 | exact atC21 | exact atC22 | exact atC23) (by (repeat (first | exact SetAt.zero _ _ _ | apply SetAt.succ)))) ?_
  rintro _ _ ⟨rfl, rfl⟩
  refine wl_y (y_field 10 rfl (ev_rfl rfl) (by first | exact Nat.zero_add _ | exact rfl)) (fun _ _ => trivial) rfl ?_
  refine wl_t0 (t_store (fun _ => rfl) rfl rfl rfl (by first | exact atC0 | exact atC1 | exact atC2 | exact atC3 | exact atC4 | exact atC5 | exact atC6 | exact atC7 | exact atC8 | exact atC9 | exact atC10 | exact atC11 | exact atC12 | exact atC13 | exact atC14 | exact atC15 | exact atC16 | exact atC17 | exact atC18 | exact atC19 | exact atC20 | exact atC21 | exact atC22 | exact atC23) (by (repeat (first | exact SetAt.zero _ _ _ | apply SetAt.succ)))) ?_
  rintro _ _ ⟨rfl, rfl⟩
  refine wl_y (y_field 11 rfl (ev_rfl rfl) (by first | exact Nat.zero_add _ | exact rfl)) (fun _ _ => trivial) rfl ?_
  refine wl_t0 (t_store (fun _ => rfl) rfl rfl rfl (by first | exact atC0 | exact atC1 | exact atC2 | exact atC3 | exact atC4 | exact atC5 | exact atC6 | exact atC7 | exact atC8 | exact atC9 | exact atC10 | exact atC11 | exact atC12 | exact atC13 | exact atC14 | exact atC15 | exact atC16 | exact atC17 | exact atC18 | exact atC19 | exact atC20 | exact atC21 | exact atC22 | exact atC23) (by (repeat (first | exact SetAt.zero _ _ _ | apply SetAt.succ)))) ?_
  rintro _ _ ⟨rfl, rfl⟩
  refine wl_y (y_field 12 rfl (ev_rfl rfl) (by first | exact Nat.zero_add _ | exact rfl)) (fun _ _ => trivial) rfl ?_
  refine wl_t0 (t_store (fun _ => rfl) rfl rfl rfl (by first | exact atC0 | exact atC1 | exact atC2 | exact atC3 | exact atC4 | exact atC5 | exact atC6 | exact atC7 | exact atC8 | exact atC9 | exact atC10 | exact atC11 | exact atC12 | exact atC13 | exact atC14 | exact atC15 | exact atC16 | exact atC17 | exact atC18 | exact atC19 | exact atC20 | exact atC21 | exact atC22 | exact atC23) (by (repeat (first | exact SetAt.zero _ _ _ | apply SetAt.succ)))) ?_
  rintro _ _ ⟨rfl, rfl⟩
  refine wl_y (y_field 13 rfl (ev_rfl rfl) (by first | exact Nat.zero_add _ | exact rfl)) (fun _ _ => trivial) rfl ?_
  refine wl_t0 (t_store (fun _ => rfl) rfl rfl rfl (by first | exact atC0 | exact atC1 | exact atC2 | exact atC3 | exact atC4 | exact atC5 | exact atC6 | exact atC7 | exact atC8 | exact atC9 | exact atC10 | exact atC11 | exact atC12 | exact atC13 | exact atC14 | exact atC15 | exact atC16 | exact atC17 | exact atC18 | exact atC19 | exact atC20 | exact atC21 | exact atC22 | exact atC23) (by (repeat (first | exact SetAt.zero _ _ _ | apply SetAt.succ)))) ?_
  rintro _ _ ⟨rfl, rfl⟩
  refine wl_nil ?_
  refine q_then ?_
  refine wc_seq ?_
  refine wc_region ?_
  refine wl_y (y_field 8 rfl (ev_rfl rfl) (by first | exact Nat.zero_add _ | exact rfl)) (fun _ _ => trivial) rfl ?_
  refine wl_y (y_load (fun _ => rfl) (ev_rfl rfl)) (row_cell (by first | exact hasC0 | exact hasC1 | exact hasC2 | exact hasC3 | exact hasC4 | exact hasC5 | exact hasC6 | exact hasC7 | exact hasC8 | exact hasC9 | exact hasC10 | exact hasC11 | exact hasC12 | exact hasC13 | exact hasC14 | exact hasC15 | exact hasC16 | exact hasC17 | exact hasC18 | exact hasC19 | exact hasC20 | exact hasC21 | exact hasC22 | exact hasC23) rfl) rfl ?_
  refine wl_y (y_field 4 rfl (ev_rfl rfl) (by first | exact Nat.zero_add _ | exact rfl)) (fun _ _ => trivial) rfl ?_
  refine wl_t0 (t_store (fun _ => rfl) rfl rfl rfl (by first | exact atC0 | exact atC1 | exact atC2 | exact atC3 | exact atC4 | exact atC5 | exact atC6 | exact atC7 | exact atC8 | exact atC9 | exact atC10 | exact atC11 | exact atC12 | exact atC13 | exact atC14 | exact atC15 | exact atC16 | exact atC17 | exact atC18 | exact atC19 | exact atC20 | exact atC21 | exact atC22 | exact atC23) (by (repeat (first | exact SetAt.zero _ _ _ | apply SetAt.succ)))) ?_
  rintro _ _ ⟨rfl, rfl⟩
  refine wl_y (y_field 6 rfl (ev_rfl rfl) (by first | exact Nat.zero_add _ | exact rfl)) (fun _ _ => trivial) rfl ?_
  refine wl_t0 (t_store (fun _ => rfl) rfl rfl rfl (by first | exact atC0 | exact atC1 | exact atC2 | exact atC3 | exact atC4 | exact atC5 | exact atC6 | exact atC7 | exact atC8 | exact atC9 | exact atC10 | exact atC11 | exact atC12 | exact atC13 | exact atC14 | exact atC15 | exact atC16 | exact atC17 | exact atC18 | exact atC19 | exact atC20 | exact atC21 | exact atC22 | exact atC23) (by (repeat (first | exact SetAt.zero _ _ _ | apply SetAt.succ)))) ?_
  rintro _ _ ⟨rfl, rfl⟩
  refine wl_y (y_field 0 rfl (ev_rfl rfl) (by first | exact Nat.zero_add _ | exact rfl)) (fun _ _ => trivial) rfl ?_
  refine wl_t0 (t_store (fun _ => rfl) rfl rfl rfl (by first | exact atC0 | exact atC1 | exact atC2 | exact atC3 | exact atC4 | exact atC5 | exact atC6 | exact atC7 | exact atC8 | exact atC9 | exact atC10 | exact atC11 | exact atC12 | exact atC13 | exact atC14 | exact atC15 | exact atC16 | exact atC17 | exact atC18 | exact atC19 | exact atC20 | exact atC21 | exact atC22 | exact atC23) (by (repeat (first | exact SetAt.zero _ _ _ | apply SetAt.succ)))) ?_
  rintro _ _ ⟨rfl, rfl⟩
  refine wl_nil ?_
  refine q_then ?_
  refine wc_seq ?_
  refine wc_region ?_
  refine wl_loadRow (by first | exact hasC0 | exact hasC1 | exact hasC2 | exact hasC3 | exact hasC4 | exact hasC5 | exact hasC6 | exact hasC7 | exact hasC8 | exact hasC9 | exact hasC10 | exact hasC11 | exact hasC12 | exact hasC13 | exact hasC14 | exact hasC15 | exact hasC16 | exact hasC17 | exact hasC18 | exact hasC19 | exact hasC20 | exact hasC21 | exact hasC22 | exact hasC23) (fun _ => rfl) (fun _ => rfl) (ev_rfl rfl) rfl ?_
  refine wl_t0 (t_storeN (fun _ => rfl) rfl rfl (allT rfl) (by first | exact atC0 | exact atC1 | exact atC2 | exact atC3 | exact atC4 | exact atC5 | exact atC6 | exact atC7 | exact atC8 | exact atC9 | exact atC10 | exact atC11 | exact atC12 | exact atC13 | exact atC14 | exact atC15 | exact atC16 | exact atC17 | exact atC18 | exact atC19 | exact atC20 | exact atC21 | exact atC22 | exact atC23) (by exact rfl)) ?_
  rintro _ _ ⟨rfl, rfl⟩
  refine wl_nil ?_
  refine q_then ?_
  refine wc_ret ?_
  refine retC (cs' := [slv _ _ _ _ _ _, slv _ _ _ _ _ _]) (.inl rfl) (by ((repeat (first | exact List.Sublist.slnil | refine List.Sublist.cons_cons _ ?_ | refine List.Sublist.cons _ ?_)))) rfl rfl (by first | exact hasC0 | exact hasC1 | exact hasC2 | exact hasC3 | exact hasC4 | exact hasC5 | exact hasC6 | exact hasC7 | exact hasC8 | exact hasC9 | exact hasC10 | exact hasC11 | exact hasC12 | exact hasC13 | exact hasC14 | exact hasC15 | exact hasC16 | exact hasC17 | exact hasC18 | exact hasC19 | exact hasC20 | exact hasC21 | exact hasC22 | exact hasC23) (fun _ => rfl) (fun _ => rfl) ?_
  exact ⟨_, _, _, _, rfl, rfl⟩
theorem return_ok (s : St) (Ad Ar : Option Addr) (cd cr : Nat) (w : World) (h : RdSt w s Ad Ar cd cr) : Ctr Try.prog 16 [sv s Ad cd Ar cr] w [] (OwnSt s.back) := by
  refine fn_ctr Try.func16 rfl Try.ntmps16 rfl (Inv.start w) ?_
  refine wc_seq ?_
  refine wc_region ?_
  refine wl_t (t_box rfl rfl) rfl ?_
  rintro _ _ ⟨b1, rfl, rfl⟩
  refine wl_t (t_alloc (fun _ => rfl) rfl) rfl ?_
  rintro _ _ ⟨b2, rfl, rfl⟩
  refine wl_nil ?_
  refine q_then ?_
  refine wc_seq ?_
  refine wc_region ?_
  refine wl_loadRow (by first | exact hasC0 | exact hasC1 | exact hasC2 | exact hasC3 | exact hasC4 | exact hasC5 | exact hasC6 | exact hasC7 | exact hasC8 | exact hasC9 | exact hasC10 | exact hasC11 | exact hasC12 | exact hasC13 | exact hasC14 | exact hasC15 | exact hasC16 | exact hasC17 | exact hasC18 | exact hasC19 | exact hasC20 | exact hasC21 | exact hasC22 | exact hasC23) (fun _ => rfl) (fun _ => rfl) (ev_rfl rfl) rfl ?_
  refine wl_t (t_call rfl (fun _ _ => rfl) (fun w hi => copy_ok s Ad Ar cd cr w (h.oldN hi))) rfl ?_
  rintro _ _ ⟨_, ⟨A1, c1, A2, c2, rfl, rfl⟩, rfl⟩
  refine wl_t0 (t_storeN (fun _ => rfl) rfl rfl (allT rfl) (by first | exact atC0 | exact atC1 | exact atC2 | exact atC3 | exact atC4 | exact atC5 | exact atC6 | exact atC7 | exact atC8 | exact atC9 | exact atC10 | exact atC11 | exact atC12 | exact atC13 | exact atC14 | exact atC15 | exact atC16 | exact atC17 | exact atC18 | exact atC19 | exact atC20 | exact atC21 | exact atC22 | exact atC23) (by exact rfl)) ?_
  rintro _ _ ⟨rfl, rfl⟩
  refine wl_nil ?_
  refine q_then ?_
  refine wc_seq ?_
  refine wc_region ?_
  refine wl_y (y_field 9 rfl (ev_rfl rfl) (by first | exact Nat.zero_add _ | exact rfl)) (fun _ _ => trivial) rfl ?_
  refine wl_y (y_load (fun _ => rfl) (ev_rfl rfl)) (row_cell (by first | exact hasC0 | exact hasC1 | exact hasC2 | exact hasC3 | exact hasC4 | exact hasC5 | exact hasC6 | exact hasC7 | exact hasC8 | exact hasC9 | exact hasC10 | exact hasC11 | exact hasC12 | exact hasC13 | exact hasC14 | exact hasC15 | exact hasC16 | exact hasC17 | exact hasC18 | exact hasC19 | exact hasC20 | exact hasC21 | exact hasC22 | exact hasC23) rfl) rfl ?_
  refine wl_y (y_field 12 rfl (ev_rfl rfl) (by first | exact Nat.zero_add _ | exact rfl)) (fun _ _ => trivial) rfl ?_
  refine wl_y (y_load (fun _ => rfl) (ev_rfl rfl)) (row_cell (by first | exact hasC0 | exact hasC1 | exact hasC2 | exact hasC3 | exact hasC4 | exact hasC5 | exact hasC6 | exact hasC7 | exact hasC8 | exact hasC9 | exact hasC10 | exact hasC11 | exact hasC12 | exact hasC13 | exact hasC14 | exact hasC15 | exact hasC16 | exact hasC17 | exact hasC18 | exact hasC19 | exact hasC20 | exact hasC21 | exact hasC22 | exact hasC23) rfl) rfl ?_
  refine wl_y (y_field 13 rfl (ev_rfl rfl) (by first | exact Nat.zero_add _ | exact rfl)) (fun _ _ => trivial) rfl ?_
  refine wl_y (y_load (fun _ => rfl) (ev_rfl rfl)) (row_cell (by first | exact hasC0 | exact hasC1 | exact hasC2 | exact hasC3 | exact hasC4 | exact hasC5 | exact hasC6 | exact hasC7 | exact hasC8 | exact hasC9 | exact hasC10 | exact hasC11 | exact hasC12 | exact hasC13 | exact hasC14 | exact hasC15 | exact hasC16 | exact hasC17 | exact hasC18 | exact hasC19 | exact hasC20 | exact hasC21 | exact hasC22 | exact hasC23) rfl) rfl ?_
  refine wl_y (y_field 0 rfl (ev_rfl rfl) (by first | exact Nat.zero_add _ | exact rfl)) (fun _ _ => trivial) rfl ?_
  refine wl_t0 (t_store (fun _ => rfl) rfl rfl rfl (by first | exact atC0 | exact atC1 | exact atC2 | exact atC3 | exact atC4 | exact atC5 | exact atC6 | exact atC7 | exact atC8 | exact atC9 | exact atC10 | exact atC11 | exact atC12 | exact atC13 | exact atC14 | exact atC15 | exact atC16 | exact atC17 | exact atC18 | exact atC19 | exact atC20 | exact atC21 | exact atC22 | exact atC23) (by (repeat (first | exact SetAt.zero _ _ _ | apply SetAt.succ)))) ?_
  rintro _ _ ⟨rfl, rfl⟩
  refine wl_y (y_field 4 rfl (ev_rfl rfl) (by first | exact Nat.zero_add _ | exact rfl)) (fun _ _ => trivial) rfl ?_
  refine wl_t0 (t_store (fun _ => rfl) rfl rfl rfl (by first | exact atC0 | exact atC1 | exact atC2 | exact atC3 | exact atC4 | exact atC5 | exact atC6 | exact atC7 | exact atC8 | exact atC9 | exact atC10 | exact atC11 | exact atC12 | exact atC13 | exact atC14 | exact atC15 | exact atC16 | exact atC17 | exact atC18 | exact atC19 | exact atC20 | exact atC21 | exact atC22 | exact atC23) (by (repeat (first | exact SetAt.zero _ _ _ | apply SetAt.succ)))) ?_
  rintro _ _ ⟨rfl, rfl⟩
  refine wl_y (y_field 6 rfl (ev_rfl rfl) (by first | exact Nat.zero_add _ | exact rfl)) (fun _ _ => trivial) rfl ?_
  refine wl_t0 (t_store (fun _ => rfl) rfl rfl rfl (by first | exact atC0 | exact atC1 | exact atC2 | exact atC3 | exact atC4 | exact atC5 | exact atC6 | exact atC7 | exact atC8 | exact atC9 | exact atC10 | exact atC11 | exact atC12 | exact atC13 | exact atC14 | exact atC15 | exact atC16 | exact atC17 | exact atC18 | exact atC19 | exact atC20 | exact atC21 | exact atC22 | exact atC23) (by (repeat (first | exact SetAt.zero _ _ _ | apply SetAt.succ)))) ?_
  rintro _ _ ⟨rfl, rfl⟩
  refine wl_nil ?_
  refine q_then ?_
  refine wc_seq ?_
  refine wc_region ?_
  refine wl_loadRow (by first | exact hasC0 | exact hasC1 | exact hasC2 | exact hasC3 | exact hasC4 | exact hasC5 | exact hasC6 | exact hasC7 | exact hasC8 | exact hasC9 | exact hasC10 | exact hasC11 | exact hasC12 | exact hasC13 | exact hasC14 | exact hasC15 | exact hasC16 | exact hasC17 | exact hasC18 | exact hasC19 | exact hasC20 | exact hasC21 | exact hasC22 | exact hasC23) (fun _ => rfl) (fun _ => rfl) (ev_rfl rfl) rfl ?_
  refine wl_t0 (t_storeN (fun _ => rfl) rfl rfl (allT rfl) (by first | exact atC0 | exact atC1 | exact atC2 | exact atC3 | exact atC4 | exact atC5 | exact atC6 | exact atC7 | exact atC8 | exact atC9 | exact atC10 | exact atC11 | exact atC12 | exact atC13 | exact atC14 | exact atC15 | exact atC16 | exact atC17 | exact atC18 | exact atC19 | exact atC20 | exact atC21 | exact atC22 | exact atC23) (by exact rfl)) ?_
  rintro _ _ ⟨rfl, rfl⟩
  refine wl_nil ?_
  refine q_then ?_
  refine wc_ret ?_
  refine retC (cs' := [slv _ _ _ _ _ _, slv _ _ _ _ _ _]) (.inl rfl) (by ((repeat (first | exact List.Sublist.slnil | refine List.Sublist.cons_cons _ ?_ | refine List.Sublist.cons _ ?_)))) rfl rfl (by first | exact hasC0 | exact hasC1 | exact hasC2 | exact hasC3 | exact hasC4 | exact hasC5 | exact hasC6 | exact hasC7 | exact hasC8 | exact hasC9 | exact hasC10 | exact hasC11 | exact hasC12 | exact hasC13 | exact hasC14 | exact hasC15 | exact hasC16 | exact hasC17 | exact hasC18 | exact hasC19 | exact hasC20 | exact hasC21 | exact hasC22 | exact hasC23) (fun _ => rfl) (fun _ => rfl) ?_
  exact ⟨_, _, _, _, rfl, rfl⟩
theorem new_ok (w : World) : Ctr Try.prog 24 [] w [] (fun v cs => v = sv St.new none 0 none 0 ∧ cs = []) := by
  refine fn_ctr Try.func24 rfl Try.ntmps24 rfl (Inv.start w) ?_
  refine wc_seq ?_
  refine wc_region ?_
  refine wl_t (t_alloc (fun _ => rfl) rfl) rfl ?_
  rintro _ _ ⟨b0, rfl, rfl⟩
  refine wl_nil ?_
  refine q_then ?_
  refine wc_seq ?_
  refine wc_region ?_
  refine wl_y (y_build rfl rfl (fun _ => rfl) rfl rfl rfl (by (repeat (first | exact BuildTo.nil _ | (apply BuildTo.cons; (repeat (first | exact SetAt.zero _ _ _ | apply SetAt.succ))))))) (fun _ _ => trivial) rfl ?_
  refine wl_t0 (t_storeN (fun _ => rfl) rfl rfl (allT rfl) (by first | exact atC0 | exact atC1 | exact atC2 | exact atC3 | exact atC4 | exact atC5 | exact atC6 | exact atC7 | exact atC8 | exact atC9 | exact atC10 | exact atC11 | exact atC12 | exact atC13 | exact atC14 | exact atC15 | exact atC16 | exact atC17 | exact atC18 | exact atC19 | exact atC20 | exact atC21 | exact atC22 | exact atC23) (by exact rfl)) ?_
  rintro _ _ ⟨rfl, rfl⟩
  refine wl_nil ?_
  refine q_then ?_
  refine wc_ret ?_
  refine retC (cs' := []) (.inl rfl) (by ((repeat (first | exact List.Sublist.slnil | refine List.Sublist.cons_cons _ ?_ | refine List.Sublist.cons _ ?_)))) rfl rfl (by first | exact hasC0 | exact hasC1 | exact hasC2 | exact hasC3 | exact hasC4 | exact hasC5 | exact hasC6 | exact hasC7 | exact hasC8 | exact hasC9 | exact hasC10 | exact hasC11 | exact hasC12 | exact hasC13 | exact hasC14 | exact hasC15 | exact hasC16 | exact hasC17 | exact hasC18 | exact hasC19 | exact hasC20 | exact hasC21 | exact hasC22 | exact hasC23) (fun _ => rfl) (fun _ => rfl) ?_
  exact ⟨rfl, rfl⟩
theorem get_ok (s : St) (dv rv : Value) (reg : Int) (w : World) : Ctr Try.prog 12 [.agg (s.cells dv rv).toArray, .int .i64 reg] w [] (fun v cs => v = .tuple #[.int .u32 (s.get reg).1, .bool (s.get reg).2] ∧ cs = []) := by
  refine fn_ctr Try.func12 rfl Try.ntmps12 rfl (Inv.start w) ?_
  refine wc_seq ?_
  refine wc_region ?_
  refine wl_t (t_box rfl rfl) rfl ?_
  rintro _ _ ⟨b2, rfl, rfl⟩
  refine wl_y (y_assign (ev_rfl rfl)) (fun _ _ => trivial) rfl ?_
  refine wl_y (y_assign (ev_rfl rfl)) (fun _ _ => trivial) rfl ?_
  refine wl_nil ?_
  refine q_then ?_
  refine wc_seq ?_
  refine wc_seq ?_
  refine wc_region ?_
  refine wl_y (y_move (ev_rfl rfl)) (fun _ _ => trivial) rfl ?_
  refine wl_nil ?_
  refine q_then ?_
  refine wc_block ?_
  refine wc_seq ?_
  refine wc_region ?_
  refine wl_y (y_eql (ev_rfl rfl) (ev_rfl rfl) rfl) (fun _ _ => trivial) rfl ?_
  refine wl_y (y_assign (ev_rfl rfl)) (fun _ _ => trivial) rfl ?_
  refine wl_nil ?_
  refine q_then ?_
  refine wc_cond _ rfl (fun hc2 => ?_) (fun hc2 => ?_)
  · refine wc_seq ?_
    refine wc_region ?_
    refine wl_y (y_field 6 rfl (ev_rfl rfl) (by first | exact Nat.zero_add _ | exact rfl)) (fun _ _ => trivial) rfl ?_
    refine wl_y (y_load (fun _ => rfl) (ev_rfl rfl)) (row_cell (by first | exact hasC0 | exact hasC1 | exact hasC2 | exact hasC3 | exact hasC4 | exact hasC5 | exact hasC6 | exact hasC7 | exact hasC8 | exact hasC9 | exact hasC10 | exact hasC11 | exact hasC12 | exact hasC13 | exact hasC14 | exact hasC15 | exact hasC16 | exact hasC17 | exact hasC18 | exact hasC19 | exact hasC20 | exact hasC21 | exact hasC22 | exact hasC23) rfl) rfl ?_
    refine wl_t (t_call rfl (fun _ _ => rfl) (fun w hi => number_ok _ w)) rfl ?_
    rintro _ _ ⟨_, ⟨rfl, rfl⟩, rfl⟩
    refine wl_y (y_assign (ev_rfl rfl)) (fun _ _ => trivial) rfl ?_
    refine wl_y (y_assign (ev_rfl rfl)) (fun _ _ => trivial) rfl ?_
    refine wl_nil ?_
    refine q_then ?_
    refine wc_ret ?_
    refine q_block_ret ?_
    refine q_then_ret ?_
    refine ret2 (cs' := []) (.inl rfl) (by ((repeat (first | exact List.Sublist.slnil | refine List.Sublist.cons_cons _ ?_ | refine List.Sublist.cons _ ?_)))) rfl rfl rfl ?_
    refine ⟨?_, rfl⟩
    simp only [St.get, *, cond_true, cond_false]
  · refine wc_seq ?_
    refine wc_region ?_
    refine wl_y (y_eql (ev_rfl rfl) (ev_rfl rfl) rfl) (fun _ _ => trivial) rfl ?_
    refine wl_y (y_assign (ev_rfl rfl)) (fun _ _ => trivial) rfl ?_
    refine wl_nil ?_
    refine q_then ?_
    refine wc_cond _ rfl (fun hc4 => ?_) (fun hc4 => ?_)
    · refine wc_seq ?_
      refine wc_region ?_
      refine wl_y (y_field 5 rfl (ev_rfl rfl) (by first | exact Nat.zero_add _ | exact rfl)) (fun _ _ => trivial) rfl ?_
      refine wl_y (y_load (fun _ => rfl) (ev_rfl rfl)) (row_cell (by first | exact hasC0 | exact hasC1 | exact hasC2 | exact hasC3 | exact hasC4 | exact hasC5 | exact hasC6 | exact hasC7 | exact hasC8 | exact hasC9 | exact hasC10 | exact hasC11 | exact hasC12 | exact hasC13 | exact hasC14 | exact hasC15 | exact hasC16 | exact hasC17 | exact hasC18 | exact hasC19 | exact hasC20 | exact hasC21 | exact hasC22 | exact hasC23) rfl) rfl ?_
      refine wl_t (t_call rfl (fun _ _ => rfl) (fun w hi => number_ok _ w)) rfl ?_
      rintro _ _ ⟨_, ⟨rfl, rfl⟩, rfl⟩
      refine wl_y (y_assign (ev_rfl rfl)) (fun _ _ => trivial) rfl ?_
      refine wl_y (y_assign (ev_rfl rfl)) (fun _ _ => trivial) rfl ?_
      refine wl_nil ?_
      refine q_then ?_
      refine wc_ret ?_
      refine q_block_ret ?_
      refine q_then_ret ?_
      refine ret2 (cs' := []) (.inl rfl) (by ((repeat (first | exact List.Sublist.slnil | refine List.Sublist.cons_cons _ ?_ | refine List.Sublist.cons _ ?_)))) rfl rfl rfl ?_
      refine ⟨?_, rfl⟩
      simp only [St.get, *, cond_true, cond_false]
    · refine wc_seq ?_
      refine wc_region ?_
      refine wl_y (y_eql (ev_rfl rfl) (ev_rfl rfl) rfl) (fun _ _ => trivial) rfl ?_
      refine wl_y (y_assign (ev_rfl rfl)) (fun _ _ => trivial) rfl ?_
      refine wl_nil ?_
      refine q_then ?_
      refine wc_cond _ rfl (fun hc6 => ?_) (fun hc6 => ?_)
      · refine wc_seq ?_
        refine wc_region ?_
        refine wl_y (y_field 7 rfl (ev_rfl rfl) (by first | exact Nat.zero_add _ | exact rfl)) (fun _ _ => trivial) rfl ?_
        refine wl_y (y_load (fun _ => rfl) (ev_rfl rfl)) (row_cell (by first | exact hasC0 | exact hasC1 | exact hasC2 | exact hasC3 | exact hasC4 | exact hasC5 | exact hasC6 | exact hasC7 | exact hasC8 | exact hasC9 | exact hasC10 | exact hasC11 | exact hasC12 | exact hasC13 | exact hasC14 | exact hasC15 | exact hasC16 | exact hasC17 | exact hasC18 | exact hasC19 | exact hasC20 | exact hasC21 | exact hasC22 | exact hasC23) rfl) rfl ?_
        refine wl_y (y_assign (ev_rfl rfl)) (fun _ _ => trivial) rfl ?_
        refine wl_y (y_assign (ev_rfl rfl)) (fun _ _ => trivial) rfl ?_
        refine wl_nil ?_
        refine q_then ?_
        refine wc_ret ?_
        refine q_block_ret ?_
        refine q_then_ret ?_
        refine ret2 (cs' := []) (.inl rfl) (by ((repeat (first | exact List.Sublist.slnil | refine List.Sublist.cons_cons _ ?_ | refine List.Sublist.cons _ ?_)))) rfl rfl rfl ?_
        refine ⟨?_, rfl⟩
        simp only [St.get, *, cond_true, cond_false]
      · refine wc_seq ?_
        refine wc_region ?_
        refine wl_y (y_eql (ev_rfl rfl) (ev_rfl rfl) rfl) (fun _ _ => trivial) rfl ?_
        refine wl_y (y_assign (ev_rfl rfl)) (fun _ _ => trivial) rfl ?_
        refine wl_nil ?_
        refine q_then ?_
        refine wc_cond _ rfl (fun hc8 => ?_) (fun hc8 => ?_)
        · refine wc_seq ?_
          refine wc_region ?_
          refine wl_y (y_field 8 rfl (ev_rfl rfl) (by first | exact Nat.zero_add _ | exact rfl)) (fun _ _ => trivial) rfl ?_
          refine wl_y (y_load (fun _ => rfl) (ev_rfl rfl)) (row_cell (by first | exact hasC0 | exact hasC1 | exact hasC2 | exact hasC3 | exact hasC4 | exact hasC5 | exact hasC6 | exact hasC7 | exact hasC8 | exact hasC9 | exact hasC10 | exact hasC11 | exact hasC12 | exact hasC13 | exact hasC14 | exact hasC15 | exact hasC16 | exact hasC17 | exact hasC18 | exact hasC19 | exact hasC20 | exact hasC21 | exact hasC22 | exact hasC23) rfl) rfl ?_
          refine wl_y (y_assign (ev_rfl rfl)) (fun _ _ => trivial) rfl ?_
          refine wl_y (y_assign (ev_rfl rfl)) (fun _ _ => trivial) rfl ?_
          refine wl_nil ?_
          refine q_then ?_
          refine wc_ret ?_
          refine q_block_ret ?_
          refine q_then_ret ?_
          refine ret2 (cs' := []) (.inl rfl) (by ((repeat (first | exact List.Sublist.slnil | refine List.Sublist.cons_cons _ ?_ | refine List.Sublist.cons _ ?_)))) rfl rfl rfl ?_
          refine ⟨?_, rfl⟩
          simp only [St.get, *, cond_true, cond_false]
        · refine wc_seq ?_
          refine wc_region ?_
          refine wl_y (y_eql (ev_rfl rfl) (ev_rfl rfl) rfl) (fun _ _ => trivial) rfl ?_
          refine wl_y (y_assign (ev_rfl rfl)) (fun _ _ => trivial) rfl ?_
          refine wl_nil ?_
          refine q_then ?_
          refine wc_cond _ rfl (fun hc10 => ?_) (fun hc10 => ?_)
          · refine wc_seq ?_
            refine wc_region ?_
            refine wl_y (y_field 9 rfl (ev_rfl rfl) (by first | exact Nat.zero_add _ | exact rfl)) (fun _ _ => trivial) rfl ?_
            refine wl_y (y_load (fun _ => rfl) (ev_rfl rfl)) (row_cell (by first | exact hasC0 | exact hasC1 | exact hasC2 | exact hasC3 | exact hasC4 | exact hasC5 | exact hasC6 | exact hasC7 | exact hasC8 | exact hasC9 | exact hasC10 | exact hasC11 | exact hasC12 | exact hasC13 | exact hasC14 | exact hasC15 | exact hasC16 | exact hasC17 | exact hasC18 | exact hasC19 | exact hasC20 | exact hasC21 | exact hasC22 | exact hasC23) rfl) rfl ?_
            refine wl_y (y_assign (ev_rfl rfl)) (fun _ _ => trivial) rfl ?_
            refine wl_y (y_assign (ev_rfl rfl)) (fun _ _ => trivial) rfl ?_
            refine wl_nil ?_
            refine q_then ?_
            refine wc_ret ?_
            refine q_block_ret ?_
            refine q_then_ret ?_
            refine ret2 (cs' := []) (.inl rfl) (by ((repeat (first | exact List.Sublist.slnil | refine List.Sublist.cons_cons _ ?_ | refine List.Sublist.cons _ ?_)))) rfl rfl rfl ?_
            refine ⟨?_, rfl⟩
            simp only [St.get, *, cond_true, cond_false]
          · refine wc_seq ?_
            refine wc_region ?_
            refine wl_y (y_eql (ev_rfl rfl) (ev_rfl rfl) rfl) (fun _ _ => trivial) rfl ?_
            refine wl_y (y_assign (ev_rfl rfl)) (fun _ _ => trivial) rfl ?_
            refine wl_nil ?_
            refine q_then ?_
            refine wc_cond _ rfl (fun hc12 => ?_) (fun hc12 => ?_)
            · refine wc_seq ?_
              refine wc_region ?_
              refine wl_y (y_field 10 rfl (ev_rfl rfl) (by first | exact Nat.zero_add _ | exact rfl)) (fun _ _ => trivial) rfl ?_
              refine wl_y (y_load (fun _ => rfl) (ev_rfl rfl)) (row_cell (by first | exact hasC0 | exact hasC1 | exact hasC2 | exact hasC3 | exact hasC4 | exact hasC5 | exact hasC6 | exact hasC7 | exact hasC8 | exact hasC9 | exact hasC10 | exact hasC11 | exact hasC12 | exact hasC13 | exact hasC14 | exact hasC15 | exact hasC16 | exact hasC17 | exact hasC18 | exact hasC19 | exact hasC20 | exact hasC21 | exact hasC22 | exact hasC23) rfl) rfl ?_
              refine wl_y (y_assign (ev_rfl rfl)) (fun _ _ => trivial) rfl ?_
              refine wl_y (y_assign (ev_rfl rfl)) (fun _ _ => trivial) rfl ?_
              refine wl_nil ?_
              refine q_then ?_
              refine wc_ret ?_
              refine q_block_ret ?_
              refine q_then_ret ?_
              refine ret2 (cs' := []) (.inl rfl) (by ((repeat (first | exact List.Sublist.slnil | refine List.Sublist.cons_cons _ ?_ | refine List.Sublist.cons _ ?_)))) rfl rfl rfl ?_
              refine ⟨?_, rfl⟩
              simp only [St.get, *, cond_true, cond_false]
            · refine wc_seq ?_
              refine wc_region ?_
              refine wl_y (y_eql (ev_rfl rfl) (ev_rfl rfl) rfl) (fun _ _ => trivial) rfl ?_
              refine wl_y (y_assign (ev_rfl rfl)) (fun _ _ => trivial) rfl ?_
              refine wl_nil ?_
              refine q_then ?_
              refine wc_cond _ rfl (fun hc14 => ?_) (fun hc14 => ?_)
              · refine wc_seq ?_
                refine wc_region ?_
                refine wl_y (y_field 11 rfl (ev_rfl rfl) (by first | exact Nat.zero_add _ | exact rfl)) (fun _ _ => trivial) rfl ?_
                refine wl_y (y_load (fun _ => rfl) (ev_rfl rfl)) (row_cell (by first | exact hasC0 | exact hasC1 | exact hasC2 | exact hasC3 | exact hasC4 | exact hasC5 | exact hasC6 | exact hasC7 | exact hasC8 | exact hasC9 | exact hasC10 | exact hasC11 | exact hasC12 | exact hasC13 | exact hasC14 | exact hasC15 | exact hasC16 | exact hasC17 | exact hasC18 | exact hasC19 | exact hasC20 | exact hasC21 | exact hasC22 | exact hasC23) rfl) rfl ?_
                refine wl_y (y_assign (ev_rfl rfl)) (fun _ _ => trivial) rfl ?_
                refine wl_y (y_assign (ev_rfl rfl)) (fun _ _ => trivial) rfl ?_
                refine wl_nil ?_
                refine q_then ?_
                refine wc_ret ?_
                refine q_block_ret ?_
                refine q_then_ret ?_
                refine ret2 (cs' := []) (.inl rfl) (by ((repeat (first | exact List.Sublist.slnil | refine List.Sublist.cons_cons _ ?_ | refine List.Sublist.cons _ ?_)))) rfl rfl rfl ?_
                refine ⟨?_, rfl⟩
                simp only [St.get, *, cond_true, cond_false]
              · refine wc_seq ?_
                refine wc_region ?_
                refine wl_y (y_eql (ev_rfl rfl) (ev_rfl rfl) rfl) (fun _ _ => trivial) rfl ?_
                refine wl_y (y_assign (ev_rfl rfl)) (fun _ _ => trivial) rfl ?_
                refine wl_nil ?_
                refine q_then ?_
                refine wc_cond _ rfl (fun hc16 => ?_) (fun hc16 => ?_)
                · refine wc_seq ?_
                  refine wc_region ?_
                  refine wl_y (y_field 12 rfl (ev_rfl rfl) (by first | exact Nat.zero_add _ | exact rfl)) (fun _ _ => trivial) rfl ?_
                  refine wl_y (y_load (fun _ => rfl) (ev_rfl rfl)) (row_cell (by first | exact hasC0 | exact hasC1 | exact hasC2 | exact hasC3 | exact hasC4 | exact hasC5 | exact hasC6 | exact hasC7 | exact hasC8 | exact hasC9 | exact hasC10 | exact hasC11 | exact hasC12 | exact hasC13 | exact hasC14 | exact hasC15 | exact hasC16 | exact hasC17 | exact hasC18 | exact hasC19 | exact hasC20 | exact hasC21 | exact hasC22 | exact hasC23) rfl) rfl ?_
                  refine wl_t (t_call rfl (fun _ _ => rfl) (fun w hi => number_ok _ w)) rfl ?_
                  rintro _ _ ⟨_, ⟨rfl, rfl⟩, rfl⟩
                  refine wl_y (y_assign (ev_rfl rfl)) (fun _ _ => trivial) rfl ?_
                  refine wl_y (y_assign (ev_rfl rfl)) (fun _ _ => trivial) rfl ?_
                  refine wl_nil ?_
                  refine q_then ?_
                  refine wc_ret ?_
                  refine q_block_ret ?_
                  refine q_then_ret ?_
                  refine ret2 (cs' := []) (.inl rfl) (by ((repeat (first | exact List.Sublist.slnil | refine List.Sublist.cons_cons _ ?_ | refine List.Sublist.cons _ ?_)))) rfl rfl rfl ?_
                  refine ⟨?_, rfl⟩
                  simp only [St.get, *, cond_true, cond_false]
                · refine wc_seq ?_
                  refine wc_region ?_
                  refine wl_y (y_eql (ev_rfl rfl) (ev_rfl rfl) rfl) (fun _ _ => trivial) rfl ?_
                  refine wl_y (y_assign (ev_rfl rfl)) (fun _ _ => trivial) rfl ?_
                  refine wl_nil ?_
                  refine q_then ?_
                  refine wc_cond _ rfl (fun hc18 => ?_) (fun hc18 => ?_)
                  · refine wc_seq ?_
                    refine wc_region ?_
                    refine wl_y (y_field 13 rfl (ev_rfl rfl) (by first | exact Nat.zero_add _ | exact rfl)) (fun _ _ => trivial) rfl ?_
                    refine wl_y (y_load (fun _ => rfl) (ev_rfl rfl)) (row_cell (by first | exact hasC0 | exact hasC1 | exact hasC2 | exact hasC3 | exact hasC4 | exact hasC5 | exact hasC6 | exact hasC7 | exact hasC8 | exact hasC9 | exact hasC10 | exact hasC11 | exact hasC12 | exact hasC13 | exact hasC14 | exact hasC15 | exact hasC16 | exact hasC17 | exact hasC18 | exact hasC19 | exact hasC20 | exact hasC21 | exact hasC22 | exact hasC23) rfl) rfl ?_
                    refine wl_t (t_call rfl (fun _ _ => rfl) (fun w hi => number_ok _ w)) rfl ?_
                    rintro _ _ ⟨_, ⟨rfl, rfl⟩, rfl⟩
                    refine wl_y (y_assign (ev_rfl rfl)) (fun _ _ => trivial) rfl ?_
                    refine wl_y (y_assign (ev_rfl rfl)) (fun _ _ => trivial) rfl ?_
                    refine wl_nil ?_
                    refine q_then ?_
                    refine wc_ret ?_
                    refine q_block_ret ?_
                    refine q_then_ret ?_
                    refine ret2 (cs' := []) (.inl rfl) (by ((repeat (first | exact List.Sublist.slnil | refine List.Sublist.cons_cons _ ?_ | refine List.Sublist.cons _ ?_)))) rfl rfl rfl ?_
                    refine ⟨?_, rfl⟩
                    simp only [St.get, *, cond_true, cond_false]
                  · refine wc_seq ?_
                    refine wc_region ?_
                    refine wl_y (y_eql (ev_rfl rfl) (ev_rfl rfl) rfl) (fun _ _ => trivial) rfl ?_
                    refine wl_y (y_assign (ev_rfl rfl)) (fun _ _ => trivial) rfl ?_
                    refine wl_nil ?_
                    refine q_then ?_
                    refine wc_cond _ rfl (fun hc20 => ?_) (fun hc20 => ?_)
                    · refine wc_seq ?_
                      refine wc_region ?_
                      refine wl_y (y_field 14 rfl (ev_rfl rfl) (by first | exact Nat.zero_add _ | exact rfl)) (fun _ _ => trivial) rfl ?_
                      refine wl_y (y_load (fun _ => rfl) (ev_rfl rfl)) (row_cell (by first | exact hasC0 | exact hasC1 | exact hasC2 | exact hasC3 | exact hasC4 | exact hasC5 | exact hasC6 | exact hasC7 | exact hasC8 | exact hasC9 | exact hasC10 | exact hasC11 | exact hasC12 | exact hasC13 | exact hasC14 | exact hasC15 | exact hasC16 | exact hasC17 | exact hasC18 | exact hasC19 | exact hasC20 | exact hasC21 | exact hasC22 | exact hasC23) rfl) rfl ?_
                      refine wl_y (y_conv rfl rfl (ev_rfl rfl) rfl) (fun _ _ => trivial) rfl ?_
                      refine wl_y (y_assign (ev_rfl rfl)) (fun _ _ => trivial) rfl ?_
                      refine wl_y (y_assign (ev_rfl rfl)) (fun _ _ => trivial) rfl ?_
                      refine wl_nil ?_
                      refine q_then ?_
                      refine wc_ret ?_
                      refine q_block_ret ?_
                      refine q_then_ret ?_
                      refine ret2 (cs' := []) (.inl rfl) (by ((repeat (first | exact List.Sublist.slnil | refine List.Sublist.cons_cons _ ?_ | refine List.Sublist.cons _ ?_)))) rfl rfl rfl ?_
                      refine ⟨?_, rfl⟩
                      simp only [St.get, *, cond_true, cond_false]
                    · refine wc_seq ?_
                      refine wc_region ?_
                      refine wl_y (y_eql (ev_rfl rfl) (ev_rfl rfl) rfl) (fun _ _ => trivial) rfl ?_
                      refine wl_y (y_assign (ev_rfl rfl)) (fun _ _ => trivial) rfl ?_
                      refine wl_nil ?_
                      refine q_then ?_
                      refine wc_cond _ rfl (fun hc22 => ?_) (fun hc22 => ?_)
                      · refine wc_seq ?_
                        refine wc_region ?_
                        refine wl_y (y_field 3 rfl (ev_rfl rfl) (by first | exact Nat.zero_add _ | exact rfl)) (fun _ _ => trivial) rfl ?_
                        refine wl_y (y_load (fun _ => rfl) (ev_rfl rfl)) (row_cell (by first | exact hasC0 | exact hasC1 | exact hasC2 | exact hasC3 | exact hasC4 | exact hasC5 | exact hasC6 | exact hasC7 | exact hasC8 | exact hasC9 | exact hasC10 | exact hasC11 | exact hasC12 | exact hasC13 | exact hasC14 | exact hasC15 | exact hasC16 | exact hasC17 | exact hasC18 | exact hasC19 | exact hasC20 | exact hasC21 | exact hasC22 | exact hasC23) rfl) rfl ?_
                        refine wl_y (y_assign (ev_rfl rfl)) (fun _ _ => trivial) rfl ?_
                        refine wl_y (y_assign (ev_rfl rfl)) (fun _ _ => trivial) rfl ?_
                        refine wl_nil ?_
                        refine q_then ?_
                        refine wc_ret ?_
                        refine q_block_ret ?_
                        refine q_then_ret ?_
                        refine ret2 (cs' := []) (.inl rfl) (by ((repeat (first | exact List.Sublist.slnil | refine List.Sublist.cons_cons _ ?_ | refine List.Sublist.cons _ ?_)))) rfl rfl rfl ?_
                        refine ⟨?_, rfl⟩
                        simp only [St.get, *, cond_true, cond_false]
                      · refine wc_skip ?_
                        refine q_block ?_
                        refine q_then ?_
                        refine wc_seq ?_
                        refine wc_region ?_
                        refine wl_y (y_assign (ev_rfl rfl)) (fun _ _ => trivial) rfl ?_
                        refine wl_y (y_assign (ev_rfl rfl)) (fun _ _ => trivial) rfl ?_
                        refine wl_nil ?_
                        refine q_then ?_
                        refine wc_ret ?_
                        refine ret2 (cs' := []) (.inl rfl) (by ((repeat (first | exact List.Sublist.slnil | refine List.Sublist.cons_cons _ ?_ | refine List.Sublist.cons _ ?_)))) rfl rfl rfl ?_
                        refine ⟨?_, rfl⟩
                        simp only [St.get, *, cond_true, cond_false]
theorem set_ok (s : St) (Ad Ar : Option Addr) (cd cr : Nat) (reg v : Int) (w : World) (h : RdSt w s Ad Ar cd cr) : Ctr Try.prog 11 [sv s Ad cd Ar cr, .int .i64 reg, .int .u32 v] w []
    (fun x cs => ∃ Ad' cd' Ar' cr', x = .tuple #[sv (s.set reg v).1 Ad' cd' Ar' cr', .bool (s.set reg v).2] ∧ cs = [slD s Ad' cd', slR s Ar' cr']) := by
  refine fn_ctr Try.func11 rfl Try.ntmps11 rfl (Inv.start w) ?_
  refine wc_seq ?_
  refine wc_region ?_
  refine wl_t (t_box rfl rfl) rfl ?_
  rintro _ _ ⟨b3, rfl, rfl⟩
  refine wl_t (t_alloc (fun _ => rfl) rfl) rfl ?_
  rintro _ _ ⟨b6, rfl, rfl⟩
  refine wl_y (y_assign (ev_rfl rfl)) (fun _ _ => trivial) rfl ?_
  refine wl_nil ?_
  refine q_then ?_
  refine wc_seq ?_
  refine wc_region ?_
  refine wl_loadRow (by first | exact hasC0 | exact hasC1 | exact hasC2 | exact hasC3 | exact hasC4 | exact hasC5 | exact hasC6 | exact hasC7 | exact hasC8 | exact hasC9 | exact hasC10 | exact hasC11 | exact hasC12 | exact hasC13 | exact hasC14 | exact hasC15 | exact hasC16 | exact hasC17 | exact hasC18 | exact hasC19 | exact hasC20 | exact hasC21 | exact hasC22 | exact hasC23) (fun _ => rfl) (fun _ => rfl) (ev_rfl rfl) rfl ?_
  refine wl_t (t_call rfl (fun _ _ => rfl) (fun w hi => copy_ok s Ad Ar cd cr w (h.oldN hi))) rfl ?_
  rintro _ _ ⟨_, ⟨A1, c1, A2, c2, rfl, rfl⟩, rfl⟩
  refine wl_t0 (t_storeN (fun _ => rfl) rfl rfl (allT rfl) (by first | exact atC0 | exact atC1 | exact atC2 | exact atC3 | exact atC4 | exact atC5 | exact atC6 | exact atC7 | exact atC8 | exact atC9 | exact atC10 | exact atC11 | exact atC12 | exact atC13 | exact atC14 | exact atC15 | exact atC16 | exact atC17 | exact atC18 | exact atC19 | exact atC20 | exact atC21 | exact atC22 | exact atC23) (by exact rfl)) ?_
  rintro _ _ ⟨rfl, rfl⟩
  refine wl_nil ?_
  refine q_then ?_
  refine wc_seq ?_
  refine wc_seq ?_
  refine wc_region ?_
  refine wl_y (y_move (ev_rfl rfl)) (fun _ _ => trivial) rfl ?_
  refine wl_nil ?_
  refine q_then ?_
  refine wc_block ?_
  refine wc_seq ?_
  refine wc_region ?_
  refine wl_y (y_eql (ev_rfl rfl) (ev_rfl rfl) rfl) (fun _ _ => trivial) rfl ?_
  refine wl_y (y_assign (ev_rfl rfl)) (fun _ _ => trivial) rfl ?_
  refine wl_nil ?_
  refine q_then ?_
  refine wc_cond _ rfl (fun hc4 => ?_) (fun hc4 => ?_)
  · refine wc_region ?_
    refine wl_y (y_move (ev_rfl rfl)) (fun _ _ => trivial) rfl ?_
    refine wl_y (y_neq (ev_rfl rfl) (ev_rfl rfl) rfl) (fun _ _ => trivial) rfl ?_
    refine wl_y (y_field 6 rfl (ev_rfl rfl) (by first | exact Nat.zero_add _ | exact rfl)) (fun _ _ => trivial) rfl ?_
    refine wl_t0 (t_store (fun _ => rfl) rfl rfl rfl (by first | exact atC0 | exact atC1 | exact atC2 | exact atC3 | exact atC4 | exact atC5 | exact atC6 | exact atC7 | exact atC8 | exact atC9 | exact atC10 | exact atC11 | exact atC12 | exact atC13 | exact atC14 | exact atC15 | exact atC16 | exact atC17 | exact atC18 | exact atC19 | exact atC20 | exact atC21 | exact atC22 | exact atC23) (by (repeat (first | exact SetAt.zero _ _ _ | apply SetAt.succ)))) ?_
    rintro _ _ ⟨rfl, rfl⟩
    refine wl_nil ?_
    refine q_block ?_
    refine q_then ?_
    refine wc_seq ?_
    refine wc_region ?_
    refine wl_loadRow (by first | exact hasC0 | exact hasC1 | exact hasC2 | exact hasC3 | exact hasC4 | exact hasC5 | exact hasC6 | exact hasC7 | exact hasC8 | exact hasC9 | exact hasC10 | exact hasC11 | exact hasC12 | exact hasC13 | exact hasC14 | exact hasC15 | exact hasC16 | exact hasC17 | exact hasC18 | exact hasC19 | exact hasC20 | exact hasC21 | exact hasC22 | exact hasC23) (fun _ => rfl) (fun _ => rfl) (ev_rfl rfl) rfl ?_
    refine wl_t0 (t_storeN (fun _ => rfl) rfl rfl (allT rfl) (by first | exact atC0 | exact atC1 | exact atC2 | exact atC3 | exact atC4 | exact atC5 | exact atC6 | exact atC7 | exact atC8 | exact atC9 | exact atC10 | exact atC11 | exact atC12 | exact atC13 | exact atC14 | exact atC15 | exact atC16 | exact atC17 | exact atC18 | exact atC19 | exact atC20 | exact atC21 | exact atC22 | exact atC23) (by exact rfl)) ?_
    rintro _ _ ⟨rfl, rfl⟩
    refine wl_y (y_assign (ev_rfl rfl)) (fun _ _ => trivial) rfl ?_
    refine wl_nil ?_
    refine q_then ?_
    refine wc_ret ?_
    refine retC1 (cs' := [slv _ _ _ _ _ _, slv _ _ _ _ _ _]) (.inl rfl) (by ((repeat (first | exact List.Sublist.slnil | refine List.Sublist.cons_cons _ ?_ | refine List.Sublist.cons _ ?_)))) rfl rfl rfl (by first | exact hasC0 | exact hasC1 | exact hasC2 | exact hasC3 | exact hasC4 | exact hasC5 | exact hasC6 | exact hasC7 | exact hasC8 | exact hasC9 | exact hasC10 | exact hasC11 | exact hasC12 | exact hasC13 | exact hasC14 | exact hasC15 | exact hasC16 | exact hasC17 | exact hasC18 | exact hasC19 | exact hasC20 | exact hasC21 | exact hasC22 | exact hasC23) (fun _ => rfl) (fun _ => rfl) ?_
    refine ⟨A1, c1, A2, c2, ?_, rfl⟩
    clear h
    simp only [St.set, *, cond_true, cond_false]
  · refine wc_seq ?_
    refine wc_region ?_
    refine wl_y (y_eql (ev_rfl rfl) (ev_rfl rfl) rfl) (fun _ _ => trivial) rfl ?_
    refine wl_y (y_assign (ev_rfl rfl)) (fun _ _ => trivial) rfl ?_
    refine wl_nil ?_
    refine q_then ?_
    refine wc_cond _ rfl (fun hc6 => ?_) (fun hc6 => ?_)
    · refine wc_region ?_
      refine wl_y (y_move (ev_rfl rfl)) (fun _ _ => trivial) rfl ?_
      refine wl_y (y_neq (ev_rfl rfl) (ev_rfl rfl) rfl) (fun _ _ => trivial) rfl ?_
      refine wl_y (y_field 5 rfl (ev_rfl rfl) (by first | exact Nat.zero_add _ | exact rfl)) (fun _ _ => trivial) rfl ?_
      refine wl_t0 (t_store (fun _ => rfl) rfl rfl rfl (by first | exact atC0 | exact atC1 | exact atC2 | exact atC3 | exact atC4 | exact atC5 | exact atC6 | exact atC7 | exact atC8 | exact atC9 | exact atC10 | exact atC11 | exact atC12 | exact atC13 | exact atC14 | exact atC15 | exact atC16 | exact atC17 | exact atC18 | exact atC19 | exact atC20 | exact atC21 | exact atC22 | exact atC23) (by (repeat (first | exact SetAt.zero _ _ _ | apply SetAt.succ)))) ?_
      rintro _ _ ⟨rfl, rfl⟩
      refine wl_nil ?_
      refine q_block ?_
      refine q_then ?_
      refine wc_seq ?_
      refine wc_region ?_
      refine wl_loadRow (by first | exact hasC0 | exact hasC1 | exact hasC2 | exact hasC3 | exact hasC4 | exact hasC5 | exact hasC6 | exact hasC7 | exact hasC8 | exact hasC9 | exact hasC10 | exact hasC11 | exact hasC12 | exact hasC13 | exact hasC14 | exact hasC15 | exact hasC16 | exact hasC17 | exact hasC18 | exact hasC19 | exact hasC20 | exact hasC21 | exact hasC22 | exact hasC23) (fun _ => rfl) (fun _ => rfl) (ev_rfl rfl) rfl ?_
      refine wl_t0 (t_storeN (fun _ => rfl) rfl rfl (allT rfl) (by first | exact atC0 | exact atC1 | exact atC2 | exact atC3 | exact atC4 | exact atC5 | exact atC6 | exact atC7 | exact atC8 | exact atC9 | exact atC10 | exact atC11 | exact atC12 | exact atC13 | exact atC14 | exact atC15 | exact atC16 | exact atC17 | exact atC18 | exact atC19 | exact atC20 | exact atC21 | exact atC22 | exact atC23) (by exact rfl)) ?_
      rintro _ _ ⟨rfl, rfl⟩
      refine wl_y (y_assign (ev_rfl rfl)) (fun _ _ => trivial) rfl ?_
      refine wl_nil ?_
      refine q_then ?_
      refine wc_ret ?_
      refine retC1 (cs' := [slv _ _ _ _ _ _, slv _ _ _ _ _ _]) (.inl rfl) (by ((repeat (first | exact List.Sublist.slnil | refine List.Sublist.cons_cons _ ?_ | refine List.Sublist.cons _ ?_)))) rfl rfl rfl (by first | exact hasC0 | exact hasC1 | exact hasC2 | exact hasC3 | exact hasC4 | exact hasC5 | exact hasC6 | exact hasC7 | exact hasC8 | exact hasC9 | exact hasC10 | exact hasC11 | exact hasC12 | exact hasC13 | exact hasC14 | exact hasC15 | exact hasC16 | exact hasC17 | exact hasC18 | exact hasC19 | exact hasC20 | exact hasC21 | exact hasC22 | exact hasC23) (fun _ => rfl) (fun _ => rfl) ?_
      refine ⟨A1, c1, A2, c2, ?_, rfl⟩
      clear h
      simp only [St.set, *, cond_true, cond_false]
    · refine wc_seq ?_
      refine wc_region ?_
      refine wl_y (y_eql (ev_rfl rfl) (ev_rfl rfl) rfl) (fun _ _ => trivial) rfl ?_
      refine wl_y (y_assign (ev_rfl rfl)) (fun _ _ => trivial) rfl ?_
      refine wl_nil ?_
      refine q_then ?_
      refine wc_cond _ rfl (fun hc8 => ?_) (fun hc8 => ?_)
      · refine wc_region ?_
        refine wl_y (y_move (ev_rfl rfl)) (fun _ _ => trivial) rfl ?_
        refine wl_y (y_andNot (ev_rfl rfl) (ev_rfl rfl) rfl) (fun _ _ => trivial) rfl ?_
        refine wl_y (y_field 7 rfl (ev_rfl rfl) (by first | exact Nat.zero_add _ | exact rfl)) (fun _ _ => trivial) rfl ?_
        refine wl_t0 (t_store (fun _ => rfl) rfl rfl rfl (by first | exact atC0 | exact atC1 | exact atC2 | exact atC3 | exact atC4 | exact atC5 | exact atC6 | exact atC7 | exact atC8 | exact atC9 | exact atC10 | exact atC11 | exact atC12 | exact atC13 | exact atC14 | exact atC15 | exact atC16 | exact atC17 | exact atC18 | exact atC19 | exact atC20 | exact atC21 | exact atC22 | exact atC23) (by (repeat (first | exact SetAt.zero _ _ _ | apply SetAt.succ)))) ?_
        rintro _ _ ⟨rfl, rfl⟩
        refine wl_nil ?_
        refine q_block ?_
        refine q_then ?_
        refine wc_seq ?_
        refine wc_region ?_
        refine wl_loadRow (by first | exact hasC0 | exact hasC1 | exact hasC2 | exact hasC3 | exact hasC4 | exact hasC5 | exact hasC6 | exact hasC7 | exact hasC8 | exact hasC9 | exact hasC10 | exact hasC11 | exact hasC12 | exact hasC13 | exact hasC14 | exact hasC15 | exact hasC16 | exact hasC17 | exact hasC18 | exact hasC19 | exact hasC20 | exact hasC21 | exact hasC22 | exact hasC23) (fun _ => rfl) (fun _ => rfl) (ev_rfl rfl) rfl ?_
        refine wl_t0 (t_storeN (fun _ => rfl) rfl rfl (allT rfl) (by first | exact atC0 | exact atC1 | exact atC2 | exact atC3 | exact atC4 | exact atC5 | exact atC6 | exact atC7 | exact atC8 | exact atC9 | exact atC10 | exact atC11 | exact atC12 | exact atC13 | exact atC14 | exact atC15 | exact atC16 | exact atC17 | exact atC18 | exact atC19 | exact atC20 | exact atC21 | exact atC22 | exact atC23) (by exact rfl)) ?_
        rintro _ _ ⟨rfl, rfl⟩
        refine wl_y (y_assign (ev_rfl rfl)) (fun _ _ => trivial) rfl ?_
        refine wl_nil ?_
        refine q_then ?_
        refine wc_ret ?_
        refine retC1 (cs' := [slv _ _ _ _ _ _, slv _ _ _ _ _ _]) (.inl rfl) (by ((repeat (first | exact List.Sublist.slnil | refine List.Sublist.cons_cons _ ?_ | refine List.Sublist.cons _ ?_)))) rfl rfl rfl (by first | exact hasC0 | exact hasC1 | exact hasC2 | exact hasC3 | exact hasC4 | exact hasC5 | exact hasC6 | exact hasC7 | exact hasC8 | exact hasC9 | exact hasC10 | exact hasC11 | exact hasC12 | exact hasC13 | exact hasC14 | exact hasC15 | exact hasC16 | exact hasC17 | exact hasC18 | exact hasC19 | exact hasC20 | exact hasC21 | exact hasC22 | exact hasC23) (fun _ => rfl) (fun _ => rfl) ?_
        refine ⟨A1, c1, A2, c2, ?_, rfl⟩
        clear h
        simp only [St.set, *, cond_true, cond_false]
      · refine wc_seq ?_
        refine wc_region ?_
        refine wl_y (y_eql (ev_rfl rfl) (ev_rfl rfl) rfl) (fun _ _ => trivial) rfl ?_
        refine wl_y (y_assign (ev_rfl rfl)) (fun _ _ => trivial) rfl ?_
        refine wl_nil ?_
        refine q_then ?_
        refine wc_cond _ rfl (fun hc10 => ?_) (fun hc10 => ?_)
        · refine wc_region ?_
          refine wl_y (y_move (ev_rfl rfl)) (fun _ _ => trivial) rfl ?_
          refine wl_y (y_field 8 rfl (ev_rfl rfl) (by first | exact Nat.zero_add _ | exact rfl)) (fun _ _ => trivial) rfl ?_
          refine wl_t0 (t_store (fun _ => rfl) rfl rfl rfl (by first | exact atC0 | exact atC1 | exact atC2 | exact atC3 | exact atC4 | exact atC5 | exact atC6 | exact atC7 | exact atC8 | exact atC9 | exact atC10 | exact atC11 | exact atC12 | exact atC13 | exact atC14 | exact atC15 | exact atC16 | exact atC17 | exact atC18 | exact atC19 | exact atC20 | exact atC21 | exact atC22 | exact atC23) (by (repeat (first | exact SetAt.zero _ _ _ | apply SetAt.succ)))) ?_
          rintro _ _ ⟨rfl, rfl⟩
          refine wl_nil ?_
          refine q_block ?_
          refine q_then ?_
          refine wc_seq ?_
          refine wc_region ?_
          refine wl_loadRow (by first | exact hasC0 | exact hasC1 | exact hasC2 | exact hasC3 | exact hasC4 | exact hasC5 | exact hasC6 | exact hasC7 | exact hasC8 | exact hasC9 | exact hasC10 | exact hasC11 | exact hasC12 | exact hasC13 | exact hasC14 | exact hasC15 | exact hasC16 | exact hasC17 | exact hasC18 | exact hasC19 | exact hasC20 | exact hasC21 | exact hasC22 | exact hasC23) (fun _ => rfl) (fun _ => rfl) (ev_rfl rfl) rfl ?_
          refine wl_t0 (t_storeN (fun _ => rfl) rfl rfl (allT rfl) (by first | exact atC0 | exact atC1 | exact atC2 | exact atC3 | exact atC4 | exact atC5 | exact atC6 | exact atC7 | exact atC8 | exact atC9 | exact atC10 | exact atC11 | exact atC12 | exact atC13 | exact atC14 | exact atC15 | exact atC16 | exact atC17 | exact atC18 | exact atC19 | exact atC20 | exact atC21 | exact atC22 | exact atC23) (by exact rfl)) ?_
          rintro _ _ ⟨rfl, rfl⟩
          refine wl_y (y_assign (ev_rfl rfl)) (fun _ _ => trivial) rfl ?_
          refine wl_nil ?_
          refine q_then ?_
          refine wc_ret ?_
          refine retC1 (cs' := [slv _ _ _ _ _ _, slv _ _ _ _ _ _]) (.inl rfl) (by ((repeat (first | exact List.Sublist.slnil | refine List.Sublist.cons_cons _ ?_ | refine List.Sublist.cons _ ?_)))) rfl rfl rfl (by first | exact hasC0 | exact hasC1 | exact hasC2 | exact hasC3 | exact hasC4 | exact hasC5 | exact hasC6 | exact hasC7 | exact hasC8 | exact hasC9 | exact hasC10 | exact hasC11 | exact hasC12 | exact hasC13 | exact hasC14 | exact hasC15 | exact hasC16 | exact hasC17 | exact hasC18 | exact hasC19 | exact hasC20 | exact hasC21 | exact hasC22 | exact hasC23) (fun _ => rfl) (fun _ => rfl) ?_
          refine ⟨A1, c1, A2, c2, ?_, rfl⟩
          clear h
          simp only [St.set, *, cond_true, cond_false]
        · refine wc_seq ?_
          refine wc_region ?_
          refine wl_y (y_eql (ev_rfl rfl) (ev_rfl rfl) rfl) (fun _ _ => trivial) rfl ?_
          refine wl_y (y_assign (ev_rfl rfl)) (fun _ _ => trivial) rfl ?_
          refine wl_nil ?_
          refine q_then ?_
          refine wc_cond _ rfl (fun hc12 => ?_) (fun hc12 => ?_)
          · refine wc_region ?_
            refine wl_y (y_move (ev_rfl rfl)) (fun _ _ => trivial) rfl ?_
            refine wl_y (y_field 9 rfl (ev_rfl rfl) (by first | exact Nat.zero_add _ | exact rfl)) (fun _ _ => trivial) rfl ?_
            refine wl_t0 (t_store (fun _ => rfl) rfl rfl rfl (by first | exact atC0 | exact atC1 | exact atC2 | exact atC3 | exact atC4 | exact atC5 | exact atC6 | exact atC7 | exact atC8 | exact atC9 | exact atC10 | exact atC11 | exact atC12 | exact atC13 | exact atC14 | exact atC15 | exact atC16 | exact atC17 | exact atC18 | exact atC19 | exact atC20 | exact atC21 | exact atC22 | exact atC23) (by (repeat (first | exact SetAt.zero _ _ _ | apply SetAt.succ)))) ?_
            rintro _ _ ⟨rfl, rfl⟩
            refine wl_nil ?_
            refine q_block ?_
            refine q_then ?_
            refine wc_seq ?_
            refine wc_region ?_
            refine wl_loadRow (by first | exact hasC0 | exact hasC1 | exact hasC2 | exact hasC3 | exact hasC4 | exact hasC5 | exact hasC6 | exact hasC7 | exact hasC8 | exact hasC9 | exact hasC10 | exact hasC11 | exact hasC12 | exact hasC13 | exact hasC14 | exact hasC15 | exact hasC16 | exact hasC17 | exact hasC18 | exact hasC19 | exact hasC20 | exact hasC21 | exact hasC22 | exact hasC23) (fun _ => rfl) (fun _ => rfl) (ev_rfl rfl) rfl ?_
            refine wl_t0 (t_storeN (fun _ => rfl) rfl rfl (allT rfl) (by first | exact atC0 | exact atC1 | exact atC2 | exact atC3 | exact atC4 | exact atC5 | exact atC6 | exact atC7 | exact atC8 | exact atC9 | exact atC10 | exact atC11 | exact atC12 | exact atC13 | exact atC14 | exact atC15 | exact atC16 | exact atC17 | exact atC18 | exact atC19 | exact atC20 | exact atC21 | exact atC22 | exact atC23) (by exact rfl)) ?_
            rintro _ _ ⟨rfl, rfl⟩
            refine wl_y (y_assign (ev_rfl rfl)) (fun _ _ => trivial) rfl ?_
            refine wl_nil ?_
            refine q_then ?_
            refine wc_ret ?_
            refine retC1 (cs' := [slv _ _ _ _ _ _, slv _ _ _ _ _ _]) (.inl rfl) (by ((repeat (first | exact List.Sublist.slnil | refine List.Sublist.cons_cons _ ?_ | refine List.Sublist.cons _ ?_)))) rfl rfl rfl (by first | exact hasC0 | exact hasC1 | exact hasC2 | exact hasC3 | exact hasC4 | exact hasC5 | exact hasC6 | exact hasC7 | exact hasC8 | exact hasC9 | exact hasC10 | exact hasC11 | exact hasC12 | exact hasC13 | exact hasC14 | exact hasC15 | exact hasC16 | exact hasC17 | exact hasC18 | exact hasC19 | exact hasC20 | exact hasC21 | exact hasC22 | exact hasC23) (fun _ => rfl) (fun _ => rfl) ?_
            refine ⟨A1, c1, A2, c2, ?_, rfl⟩
            clear h
            simp only [St.set, *, cond_true, cond_false]
          · refine wc_seq ?_
            refine wc_region ?_
            refine wl_y (y_eql (ev_rfl rfl) (ev_rfl rfl) rfl) (fun _ _ => trivial) rfl ?_
            refine wl_y (y_assign (ev_rfl rfl)) (fun _ _ => trivial) rfl ?_
            refine wl_nil ?_
            refine q_then ?_
            refine wc_cond _ rfl (fun hc14 => ?_) (fun hc14 => ?_)
            · refine wc_region ?_
              refine wl_y (y_move (ev_rfl rfl)) (fun _ _ => trivial) rfl ?_
              refine wl_y (y_field 10 rfl (ev_rfl rfl) (by first | exact Nat.zero_add _ | exact rfl)) (fun _ _ => trivial) rfl ?_
              refine wl_t0 (t_store (fun _ => rfl) rfl rfl rfl (by first | exact atC0 | exact atC1 | exact atC2 | exact atC3 | exact atC4 | exact atC5 | exact atC6 | exact atC7 | exact atC8 | exact atC9 | exact atC10 | exact atC11 | exact atC12 | exact atC13 | exact atC14 | exact atC15 | exact atC16 | exact atC17 | exact atC18 | exact atC19 | exact atC20 | exact atC21 | exact atC22 | exact atC23) (by (repeat (first | exact SetAt.zero _ _ _ | apply SetAt.succ)))) ?_
              rintro _ _ ⟨rfl, rfl⟩
              refine wl_nil ?_
              refine q_block ?_
              refine q_then ?_
              refine wc_seq ?_
              refine wc_region ?_
              refine wl_loadRow (by first | exact hasC0 | exact hasC1 | exact hasC2 | exact hasC3 | exact hasC4 | exact hasC5 | exact hasC6 | exact hasC7 | exact hasC8 | exact hasC9 | exact hasC10 | exact hasC11 | exact hasC12 | exact hasC13 | exact hasC14 | exact hasC15 | exact hasC16 | exact hasC17 | exact hasC18 | exact hasC19 | exact hasC20 | exact hasC21 | exact hasC22 | exact hasC23) (fun _ => rfl) (fun _ => rfl) (ev_rfl rfl) rfl ?_
              refine wl_t0 (t_storeN (fun _ => rfl) rfl rfl (allT rfl) (by first | exact atC0 | exact atC1 | exact atC2 | exact atC3 | exact atC4 | exact atC5 | exact atC6 | exact atC7 | exact atC8 | exact atC9 | exact atC10 | exact atC11 | exact atC12 | exact atC13 | exact atC14 | exact atC15 | exact atC16 | exact atC17 | exact atC18 | exact atC19 | exact atC20 | exact atC21 | exact atC22 | exact atC23) (by exact rfl)) ?_
              rintro _ _ ⟨rfl, rfl⟩
              refine wl_y (y_assign (ev_rfl rfl)) (fun _ _ => trivial) rfl ?_
              refine wl_nil ?_
              refine q_then ?_
              refine wc_ret ?_
              refine retC1 (cs' := [slv _ _ _ _ _ _, slv _ _ _ _ _ _]) (.inl rfl) (by ((repeat (first | exact List.Sublist.slnil | refine List.Sublist.cons_cons _ ?_ | refine List.Sublist.cons _ ?_)))) rfl rfl rfl (by first | exact hasC0 | exact hasC1 | exact hasC2 | exact hasC3 | exact hasC4 | exact hasC5 | exact hasC6 | exact hasC7 | exact hasC8 | exact hasC9 | exact hasC10 | exact hasC11 | exact hasC12 | exact hasC13 | exact hasC14 | exact hasC15 | exact hasC16 | exact hasC17 | exact hasC18 | exact hasC19 | exact hasC20 | exact hasC21 | exact hasC22 | exact hasC23) (fun _ => rfl) (fun _ => rfl) ?_
              refine ⟨A1, c1, A2, c2, ?_, rfl⟩
              clear h
              simp only [St.set, *, cond_true, cond_false]
            · refine wc_seq ?_
              refine wc_region ?_
              refine wl_y (y_eql (ev_rfl rfl) (ev_rfl rfl) rfl) (fun _ _ => trivial) rfl ?_
              refine wl_y (y_assign (ev_rfl rfl)) (fun _ _ => trivial) rfl ?_
              refine wl_nil ?_
              refine q_then ?_
              refine wc_cond _ rfl (fun hc16 => ?_) (fun hc16 => ?_)
              · refine wc_region ?_
                refine wl_y (y_move (ev_rfl rfl)) (fun _ _ => trivial) rfl ?_
                refine wl_y (y_field 11 rfl (ev_rfl rfl) (by first | exact Nat.zero_add _ | exact rfl)) (fun _ _ => trivial) rfl ?_
                refine wl_t0 (t_store (fun _ => rfl) rfl rfl rfl (by first | exact atC0 | exact atC1 | exact atC2 | exact atC3 | exact atC4 | exact atC5 | exact atC6 | exact atC7 | exact atC8 | exact atC9 | exact atC10 | exact atC11 | exact atC12 | exact atC13 | exact atC14 | exact atC15 | exact atC16 | exact atC17 | exact atC18 | exact atC19 | exact atC20 | exact atC21 | exact atC22 | exact atC23) (by (repeat (first | exact SetAt.zero _ _ _ | apply SetAt.succ)))) ?_
                rintro _ _ ⟨rfl, rfl⟩
                refine wl_nil ?_
                refine q_block ?_
                refine q_then ?_
                refine wc_seq ?_
                refine wc_region ?_
                refine wl_loadRow (by first | exact hasC0 | exact hasC1 | exact hasC2 | exact hasC3 | exact hasC4 | exact hasC5 | exact hasC6 | exact hasC7 | exact hasC8 | exact hasC9 | exact hasC10 | exact hasC11 | exact hasC12 | exact hasC13 | exact hasC14 | exact hasC15 | exact hasC16 | exact hasC17 | exact hasC18 | exact hasC19 | exact hasC20 | exact hasC21 | exact hasC22 | exact hasC23) (fun _ => rfl) (fun _ => rfl) (ev_rfl rfl) rfl ?_
                refine wl_t0 (t_storeN (fun _ => rfl) rfl rfl (allT rfl) (by first | exact atC0 | exact atC1 | exact atC2 | exact atC3 | exact atC4 | exact atC5 | exact atC6 | exact atC7 | exact atC8 | exact atC9 | exact atC10 | exact atC11 | exact atC12 | exact atC13 | exact atC14 | exact atC15 | exact atC16 | exact atC17 | exact atC18 | exact atC19 | exact atC20 | exact atC21 | exact atC22 | exact atC23) (by exact rfl)) ?_
                rintro _ _ ⟨rfl, rfl⟩
                refine wl_y (y_assign (ev_rfl rfl)) (fun _ _ => trivial) rfl ?_
                refine wl_nil ?_
                refine q_then ?_
                refine wc_ret ?_
                refine retC1 (cs' := [slv _ _ _ _ _ _, slv _ _ _ _ _ _]) (.inl rfl) (by ((repeat (first | exact List.Sublist.slnil | refine List.Sublist.cons_cons _ ?_ | refine List.Sublist.cons _ ?_)))) rfl rfl rfl (by first | exact hasC0 | exact hasC1 | exact hasC2 | exact hasC3 | exact hasC4 | exact hasC5 | exact hasC6 | exact hasC7 | exact hasC8 | exact hasC9 | exact hasC10 | exact hasC11 | exact hasC12 | exact hasC13 | exact hasC14 | exact hasC15 | exact hasC16 | exact hasC17 | exact hasC18 | exact hasC19 | exact hasC20 | exact hasC21 | exact hasC22 | exact hasC23) (fun _ => rfl) (fun _ => rfl) ?_
                refine ⟨A1, c1, A2, c2, ?_, rfl⟩
                clear h
                simp only [St.set, *, cond_true, cond_false]
              · refine wc_seq ?_
                refine wc_region ?_
                refine wl_y (y_eql (ev_rfl rfl) (ev_rfl rfl) rfl) (fun _ _ => trivial) rfl ?_
                refine wl_y (y_assign (ev_rfl rfl)) (fun _ _ => trivial) rfl ?_
                refine wl_nil ?_
                refine q_then ?_
                refine wc_cond _ rfl (fun hc18 => ?_) (fun hc18 => ?_)
                · refine wc_region ?_
                  refine wl_y (y_move (ev_rfl rfl)) (fun _ _ => trivial) rfl ?_
                  refine wl_y (y_neq (ev_rfl rfl) (ev_rfl rfl) rfl) (fun _ _ => trivial) rfl ?_
                  refine wl_y (y_field 12 rfl (ev_rfl rfl) (by first | exact Nat.zero_add _ | exact rfl)) (fun _ _ => trivial) rfl ?_
                  refine wl_t0 (t_store (fun _ => rfl) rfl rfl rfl (by first | exact atC0 | exact atC1 | exact atC2 | exact atC3 | exact atC4 | exact atC5 | exact atC6 | exact atC7 | exact atC8 | exact atC9 | exact atC10 | exact atC11 | exact atC12 | exact atC13 | exact atC14 | exact atC15 | exact atC16 | exact atC17 | exact atC18 | exact atC19 | exact atC20 | exact atC21 | exact atC22 | exact atC23) (by (repeat (first | exact SetAt.zero _ _ _ | apply SetAt.succ)))) ?_
                  rintro _ _ ⟨rfl, rfl⟩
                  refine wl_nil ?_
                  refine q_block ?_
                  refine q_then ?_
                  refine wc_seq ?_
                  refine wc_region ?_
                  refine wl_loadRow (by first | exact hasC0 | exact hasC1 | exact hasC2 | exact hasC3 | exact hasC4 | exact hasC5 | exact hasC6 | exact hasC7 | exact hasC8 | exact hasC9 | exact hasC10 | exact hasC11 | exact hasC12 | exact hasC13 | exact hasC14 | exact hasC15 | exact hasC16 | exact hasC17 | exact hasC18 | exact hasC19 | exact hasC20 | exact hasC21 | exact hasC22 | exact hasC23) (fun _ => rfl) (fun _ => rfl) (ev_rfl rfl) rfl ?_
                  refine wl_t0 (t_storeN (fun _ => rfl) rfl rfl (allT rfl) (by first | exact atC0 | exact atC1 | exact atC2 | exact atC3 | exact atC4 | exact atC5 | exact atC6 | exact atC7 | exact atC8 | exact atC9 | exact atC10 | exact atC11 | exact atC12 | exact atC13 | exact atC14 | exact atC15 | exact atC16 | exact atC17 | exact atC18 | exact atC19 | exact atC20 | exact atC21 | exact atC22 | exact atC23) (by exact rfl)) ?_
                  rintro _ _ ⟨rfl, rfl⟩
                  refine wl_y (y_assign (ev_rfl rfl)) (fun _ _ => trivial) rfl ?_
                  refine wl_nil ?_
                  refine q_then ?_
                  refine wc_ret ?_
                  refine retC1 (cs' := [slv _ _ _ _ _ _, slv _ _ _ _ _ _]) (.inl rfl) (by ((repeat (first | exact List.Sublist.slnil | refine List.Sublist.cons_cons _ ?_ | refine List.Sublist.cons _ ?_)))) rfl rfl rfl (by first | exact hasC0 | exact hasC1 | exact hasC2 | exact hasC3 | exact hasC4 | exact hasC5 | exact hasC6 | exact hasC7 | exact hasC8 | exact hasC9 | exact hasC10 | exact hasC11 | exact hasC12 | exact hasC13 | exact hasC14 | exact hasC15 | exact hasC16 | exact hasC17 | exact hasC18 | exact hasC19 | exact hasC20 | exact hasC21 | exact hasC22 | exact hasC23) (fun _ => rfl) (fun _ => rfl) ?_
                  refine ⟨A1, c1, A2, c2, ?_, rfl⟩
                  clear h
                  simp only [St.set, *, cond_true, cond_false]
                · refine wc_seq ?_
                  refine wc_region ?_
                  refine wl_y (y_eql (ev_rfl rfl) (ev_rfl rfl) rfl) (fun _ _ => trivial) rfl ?_
                  refine wl_y (y_assign (ev_rfl rfl)) (fun _ _ => trivial) rfl ?_
                  refine wl_nil ?_
                  refine q_then ?_
                  refine wc_cond _ rfl (fun hc20 => ?_) (fun hc20 => ?_)
                  · refine wc_region ?_
                    refine wl_y (y_move (ev_rfl rfl)) (fun _ _ => trivial) rfl ?_
                    refine wl_y (y_neq (ev_rfl rfl) (ev_rfl rfl) rfl) (fun _ _ => trivial) rfl ?_
                    refine wl_y (y_field 13 rfl (ev_rfl rfl) (by first | exact Nat.zero_add _ | exact rfl)) (fun _ _ => trivial) rfl ?_
                    refine wl_t0 (t_store (fun _ => rfl) rfl rfl rfl (by first | exact atC0 | exact atC1 | exact atC2 | exact atC3 | exact atC4 | exact atC5 | exact atC6 | exact atC7 | exact atC8 | exact atC9 | exact atC10 | exact atC11 | exact atC12 | exact atC13 | exact atC14 | exact atC15 | exact atC16 | exact atC17 | exact atC18 | exact atC19 | exact atC20 | exact atC21 | exact atC22 | exact atC23) (by (repeat (first | exact SetAt.zero _ _ _ | apply SetAt.succ)))) ?_
                    rintro _ _ ⟨rfl, rfl⟩
                    refine wl_nil ?_
                    refine q_block ?_
                    refine q_then ?_
                    refine wc_seq ?_
                    refine wc_region ?_
                    refine wl_loadRow (by first | exact hasC0 | exact hasC1 | exact hasC2 | exact hasC3 | exact hasC4 | exact hasC5 | exact hasC6 | exact hasC7 | exact hasC8 | exact hasC9 | exact hasC10 | exact hasC11 | exact hasC12 | exact hasC13 | exact hasC14 | exact hasC15 | exact hasC16 | exact hasC17 | exact hasC18 | exact hasC19 | exact hasC20 | exact hasC21 | exact hasC22 | exact hasC23) (fun _ => rfl) (fun _ => rfl) (ev_rfl rfl) rfl ?_
                    refine wl_t0 (t_storeN (fun _ => rfl) rfl rfl (allT rfl) (by first | exact atC0 | exact atC1 | exact atC2 | exact atC3 | exact atC4 | exact atC5 | exact atC6 | exact atC7 | exact atC8 | exact atC9 | exact atC10 | exact atC11 | exact atC12 | exact atC13 | exact atC14 | exact atC15 | exact atC16 | exact atC17 | exact atC18 | exact atC19 | exact atC20 | exact atC21 | exact atC22 | exact atC23) (by exact rfl)) ?_
                    rintro _ _ ⟨rfl, rfl⟩
                    refine wl_y (y_assign (ev_rfl rfl)) (fun _ _ => trivial) rfl ?_
                    refine wl_nil ?_
                    refine q_then ?_
                    refine wc_ret ?_
                    refine retC1 (cs' := [slv _ _ _ _ _ _, slv _ _ _ _ _ _]) (.inl rfl) (by ((repeat (first | exact List.Sublist.slnil | refine List.Sublist.cons_cons _ ?_ | refine List.Sublist.cons _ ?_)))) rfl rfl rfl (by first | exact hasC0 | exact hasC1 | exact hasC2 | exact hasC3 | exact hasC4 | exact hasC5 | exact hasC6 | exact hasC7 | exact hasC8 | exact hasC9 | exact hasC10 | exact hasC11 | exact hasC12 | exact hasC13 | exact hasC14 | exact hasC15 | exact hasC16 | exact hasC17 | exact hasC18 | exact hasC19 | exact hasC20 | exact hasC21 | exact hasC22 | exact hasC23) (fun _ => rfl) (fun _ => rfl) ?_
                    refine ⟨A1, c1, A2, c2, ?_, rfl⟩
                    clear h
                    simp only [St.set, *, cond_true, cond_false]
                  · refine wc_seq ?_
                    refine wc_region ?_
                    refine wl_y (y_eql (ev_rfl rfl) (ev_rfl rfl) rfl) (fun _ _ => trivial) rfl ?_
                    refine wl_y (y_assign (ev_rfl rfl)) (fun _ _ => trivial) rfl ?_
                    refine wl_nil ?_
                    refine q_then ?_
                    refine wc_cond _ rfl (fun hc22 => ?_) (fun hc22 => ?_)
                    · refine wc_region ?_
                      refine wl_y (y_move (ev_rfl rfl)) (fun _ _ => trivial) rfl ?_
                      refine wl_y (y_and_ (ev_rfl rfl) (ev_rfl rfl) rfl) (fun _ _ => trivial) rfl ?_
                      refine wl_y (y_field 3 rfl (ev_rfl rfl) (by first | exact Nat.zero_add _ | exact rfl)) (fun _ _ => trivial) rfl ?_
                      refine wl_t0 (t_store (fun _ => rfl) rfl rfl rfl (by first | exact atC0 | exact atC1 | exact atC2 | exact atC3 | exact atC4 | exact atC5 | exact atC6 | exact atC7 | exact atC8 | exact atC9 | exact atC10 | exact atC11 | exact atC12 | exact atC13 | exact atC14 | exact atC15 | exact atC16 | exact atC17 | exact atC18 | exact atC19 | exact atC20 | exact atC21 | exact atC22 | exact atC23) (by (repeat (first | exact SetAt.zero _ _ _ | apply SetAt.succ)))) ?_
                      rintro _ _ ⟨rfl, rfl⟩
                      refine wl_nil ?_
                      refine q_block ?_
                      refine q_then ?_
                      refine wc_seq ?_
                      refine wc_region ?_
                      refine wl_loadRow (by first | exact hasC0 | exact hasC1 | exact hasC2 | exact hasC3 | exact hasC4 | exact hasC5 | exact hasC6 | exact hasC7 | exact hasC8 | exact hasC9 | exact hasC10 | exact hasC11 | exact hasC12 | exact hasC13 | exact hasC14 | exact hasC15 | exact hasC16 | exact hasC17 | exact hasC18 | exact hasC19 | exact hasC20 | exact hasC21 | exact hasC22 | exact hasC23) (fun _ => rfl) (fun _ => rfl) (ev_rfl rfl) rfl ?_
                      refine wl_t0 (t_storeN (fun _ => rfl) rfl rfl (allT rfl) (by first | exact atC0 | exact atC1 | exact atC2 | exact atC3 | exact atC4 | exact atC5 | exact atC6 | exact atC7 | exact atC8 | exact atC9 | exact atC10 | exact atC11 | exact atC12 | exact atC13 | exact atC14 | exact atC15 | exact atC16 | exact atC17 | exact atC18 | exact atC19 | exact atC20 | exact atC21 | exact atC22 | exact atC23) (by exact rfl)) ?_
                      rintro _ _ ⟨rfl, rfl⟩
                      refine wl_y (y_assign (ev_rfl rfl)) (fun _ _ => trivial) rfl ?_
                      refine wl_nil ?_
                      refine q_then ?_
                      refine wc_ret ?_
                      refine retC1 (cs' := [slv _ _ _ _ _ _, slv _ _ _ _ _ _]) (.inl rfl) (by ((repeat (first | exact List.Sublist.slnil | refine List.Sublist.cons_cons _ ?_ | refine List.Sublist.cons _ ?_)))) rfl rfl rfl (by first | exact hasC0 | exact hasC1 | exact hasC2 | exact hasC3 | exact hasC4 | exact hasC5 | exact hasC6 | exact hasC7 | exact hasC8 | exact hasC9 | exact hasC10 | exact hasC11 | exact hasC12 | exact hasC13 | exact hasC14 | exact hasC15 | exact hasC16 | exact hasC17 | exact hasC18 | exact hasC19 | exact hasC20 | exact hasC21 | exact hasC22 | exact hasC23) (fun _ => rfl) (fun _ => rfl) ?_
                      refine ⟨A1, c1, A2, c2, ?_, rfl⟩
                      clear h
                      simp only [St.set, *, cond_true, cond_false]
                    · refine wc_seq ?_
                      refine wc_region ?_
                      refine wl_loadRow (by first | exact hasC0 | exact hasC1 | exact hasC2 | exact hasC3 | exact hasC4 | exact hasC5 | exact hasC6 | exact hasC7 | exact hasC8 | exact hasC9 | exact hasC10 | exact hasC11 | exact hasC12 | exact hasC13 | exact hasC14 | exact hasC15 | exact hasC16 | exact hasC17 | exact hasC18 | exact hasC19 | exact hasC20 | exact hasC21 | exact hasC22 | exact hasC23) (fun _ => rfl) (fun _ => rfl) (ev_rfl rfl) rfl ?_
                      refine wl_t0 (t_storeN (fun _ => rfl) rfl rfl (allT rfl) (by first | exact atC0 | exact atC1 | exact atC2 | exact atC3 | exact atC4 | exact atC5 | exact atC6 | exact atC7 | exact atC8 | exact atC9 | exact atC10 | exact atC11 | exact atC12 | exact atC13 | exact atC14 | exact atC15 | exact atC16 | exact atC17 | exact atC18 | exact atC19 | exact atC20 | exact atC21 | exact atC22 | exact atC23) (by exact rfl)) ?_
                      rintro _ _ ⟨rfl, rfl⟩
                      refine wl_y (y_assign (ev_rfl rfl)) (fun _ _ => trivial) rfl ?_
                      refine wl_nil ?_
                      refine q_then ?_
                      refine wc_ret ?_
                      refine q_block_ret ?_
                      refine q_then_ret ?_
                      refine retC1 (cs' := [slv _ _ _ _ _ _, slv _ _ _ _ _ _]) (.inl rfl) (by ((repeat (first | exact List.Sublist.slnil | refine List.Sublist.cons_cons _ ?_ | refine List.Sublist.cons _ ?_)))) rfl rfl rfl (by first | exact hasC0 | exact hasC1 | exact hasC2 | exact hasC3 | exact hasC4 | exact hasC5 | exact hasC6 | exact hasC7 | exact hasC8 | exact hasC9 | exact hasC10 | exact hasC11 | exact hasC12 | exact hasC13 | exact hasC14 | exact hasC15 | exact hasC16 | exact hasC17 | exact hasC18 | exact hasC19 | exact hasC20 | exact hasC21 | exact hasC22 | exact hasC23) (fun _ => rfl) (fun _ => rfl) ?_
                      refine ⟨A1, c1, A2, c2, ?_, rfl⟩
                      clear h
                      simp only [St.set, *, cond_true, cond_false]
theorem right_ok (s : St) (Ad Ar : Option Addr) (cd cr : Nat) (w : World) : Ctr Try.prog 28 [sv s Ad cd Ar cr] w [] (fun v cs => v = .bool s.right ∧ cs = []) := by
  refine fn_ctr Try.func28 rfl Try.ntmps28 rfl (Inv.start w) ?_
  refine wc_seq ?_
  refine wc_region ?_
  refine wl_t (t_box rfl rfl) rfl ?_
  rintro _ _ ⟨b1, rfl, rfl⟩
  refine wl_y (y_assign (ev_rfl rfl)) (fun _ _ => trivial) rfl ?_
  refine wl_nil ?_
  refine q_then ?_
  refine wc_seq ?_
  refine wc_region ?_
  refine wl_y (y_field 1 rfl (ev_rfl rfl) (by first | exact Nat.zero_add _ | exact rfl)) (fun _ _ => trivial) rfl ?_
  refine wl_y (y_load (fun _ => rfl) (ev_rfl rfl)) (row_cell (by first | exact hasC0 | exact hasC1 | exact hasC2 | exact hasC3 | exact hasC4 | exact hasC5 | exact hasC6 | exact hasC7 | exact hasC8 | exact hasC9 | exact hasC10 | exact hasC11 | exact hasC12 | exact hasC13 | exact hasC14 | exact hasC15 | exact hasC16 | exact hasC17 | exact hasC18 | exact hasC19 | exact hasC20 | exact hasC21 | exact hasC22 | exact hasC23) rfl) rfl ?_
  refine wl_y (y_len ⟨_, rfl⟩ (ev_rfl rfl)) (fun _ _ => trivial) rfl ?_
  refine wl_y (y_leq (ev_rfl rfl) (ev_rfl rfl) rfl) (fun _ _ => trivial) rfl ?_
  refine wl_y (y_move (ev_rfl rfl)) (fun _ _ => trivial) rfl ?_
  refine wl_yg (guard_yes rfl rfl) (y_field 2 rfl (ev_rfl rfl) (by first | exact Nat.zero_add _ | exact rfl)) (fun _ _ => trivial) rfl ?_
  refine wl_yg (guard_yes rfl rfl) (y_load (fun _ => rfl) (ev_g rfl)) (row_cell (by first | exact hasC0 | exact hasC1 | exact hasC2 | exact hasC3 | exact hasC4 | exact hasC5 | exact hasC6 | exact hasC7 | exact hasC8 | exact hasC9 | exact hasC10 | exact hasC11 | exact hasC12 | exact hasC13 | exact hasC14 | exact hasC15 | exact hasC16 | exact hasC17 | exact hasC18 | exact hasC19 | exact hasC20 | exact hasC21 | exact hasC22 | exact hasC23) rfl) rfl ?_
  refine wl_yg (guard_yes rfl rfl) (y_len ⟨_, rfl⟩ (ev_g rfl)) (fun _ _ => trivial) rfl ?_
  refine wl_yg (guard_yes rfl rfl) (y_leq (ev_g rfl) (ev_rfl rfl) rfl) (fun _ _ => trivial) rfl ?_
  refine wl_y (y_and (ev_rfl rfl) (pk_yes rfl (fun _ => rfl))) (fun _ _ => trivial) rfl ?_
  refine wl_y (y_move (ev_rfl rfl)) (fun _ _ => trivial) rfl ?_
  refine wl_yg (guard_yes rfl rfl) (y_field 3 rfl (ev_rfl rfl) (by first | exact Nat.zero_add _ | exact rfl)) (fun _ _ => trivial) rfl ?_
  refine wl_yg (guard_yes rfl rfl) (y_load (fun _ => rfl) (ev_g rfl)) (row_cell (by first | exact hasC0 | exact hasC1 | exact hasC2 | exact hasC3 | exact hasC4 | exact hasC5 | exact hasC6 | exact hasC7 | exact hasC8 | exact hasC9 | exact hasC10 | exact hasC11 | exact hasC12 | exact hasC13 | exact hasC14 | exact hasC15 | exact hasC16 | exact hasC17 | exact hasC18 | exact hasC19 | exact hasC20 | exact hasC21 | exact hasC22 | exact hasC23) rfl) rfl ?_
  refine wl_yg (guard_yes rfl rfl) (y_leq (ev_g rfl) (ev_rfl rfl) rfl) (fun _ _ => trivial) rfl ?_
  refine wl_y (y_and (ev_rfl rfl) (pk_yes rfl (fun _ => rfl))) (fun _ _ => trivial) rfl ?_
  refine wl_y (y_assign (ev_rfl rfl)) (fun _ _ => trivial) rfl ?_
  refine wl_nil ?_
  refine q_then ?_
  refine wc_ret ?_
  refine ret1 (cs' := []) (.inl rfl) (by ((repeat (first | exact List.Sublist.slnil | refine List.Sublist.cons_cons _ ?_ | refine List.Sublist.cons _ ?_)))) rfl rfl ?_
  exact ⟨rfl, rfl⟩
end Go.Proofs.Ytjknccgefnnfnaa
