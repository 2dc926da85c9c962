/- Clone, Copy, Trap, Return. -/
import Derived.Test.YtjknccgefnnfnaaStA
set_option linter.unusedSimpArgs false
set_option linter.unusedVariables false
namespace Go.Proofs.Ytjknccgefnnfnaa
open Go.RowKit Go.Ink

theorem clone_ok (A : Option Addr) (n c : Nat) (xs : List Int) (w : World) (h : Rd w .u32 A n c xs) (hn : n * 4 ≤ 140737488355328) : Ctr Try.prog 27 [.slice A n c] w [] (fun v cs => ∃ A' c', v = .slice A' n c' ∧ cs = [sl .u32 22 A' n c' xs]) := by
  refine fn_ctr Try.func27 rfl Try.ntmps27 rfl (Inv.start w) ?_
  refine wc_seq ?_
  refine wc_region ?_
  refine wl_y (y_assign (ev_rfl rfl)) (fun _ _ => trivial) rfl ?_
  refine wl_nil ?_
  refine q_then ?_
  refine wc_seq ?_
  refine wc_seq ?_
  refine wc_region ?_
  refine wl_y (y_move (ev_rfl rfl)) (fun _ _ => trivial) rfl ?_
  refine wl_y (y_slnil rfl (ev_rfl rfl)) (fun _ _ => trivial) rfl ?_
  refine wl_nil ?_
  refine q_then ?_
  refine wc_cond _ rfl (fun hc1 => ?_) (fun hc1 => ?_)
  · obtain rfl : A = none := by simpa using hc1
    obtain ⟨rfl, rfl⟩ := h.nil rfl
    obtain rfl : xs = [] := by have := h.len; simpa [ints] using this
    refine wc_seq ?_
    refine wc_region ?_
    refine wl_nilc 22 1 ?_
    refine wl_y (y_assign (ev_rfl rfl)) (fun _ _ => trivial) rfl ?_
    refine wl_nil ?_
    refine q_then ?_
    refine wc_ret ?_
    refine q_then_ret ?_
    refine ret1 (cs' := [slv _ _ _ _ _ _]) (.inl rfl) (by ((repeat (first | exact List.Sublist.slnil | refine List.Sublist.cons_cons _ ?_ | refine List.Sublist.cons _ ?_)))) rfl rfl ?_
    exact ⟨_, _, rfl, rfl⟩
  · refine wc_skip ?_
    refine q_then ?_
    refine wc_seq ?_
    refine wc_region ?_
    refine wl_t (t_buildSl1 rfl rfl (fun _ => rfl) (fun _ => rfl) rfl rfl) rfl ?_
    rintro _ _ ⟨b5, rfl, rfl⟩
    refine wl_y (y_move (ev_rfl rfl)) (fun _ _ => trivial) rfl ?_
    refine wl_t (t_append (e := 22) (sz := 1) (bytes := 4) rfl rfl (by first | exact atC0 | exact atC1 | exact atC2 | exact atC3 | exact atC4 | exact atC5 | exact atC6 | exact atC7 | exact atC8 | exact atC9 | exact atC10 | exact atC11 | exact atC12 | exact atC13 | exact atC14 | exact atC15 | exact atC16 | exact atC17 | exact atC18 | exact atC19 | exact atC20 | exact atC21 | exact atC22 | exact atC23) rfl rfl (fun w hi => h.oldN hi) ints_one (by simp only [maxLen]; omega) (by omega)) rfl ?_
    rintro _ _ ⟨A', c', rfl, rfl⟩
    simp only [Nat.zero_add, List.nil_append]
    refine wl_y (y_assign (ev_rfl rfl)) (fun _ _ => trivial) rfl ?_
    refine wl_nil ?_
    refine q_then ?_
    refine wc_ret ?_
    refine ret1 (cs' := [slv _ _ _ _ _ _]) (.inl rfl) (by ((repeat (first | exact List.Sublist.slnil | refine List.Sublist.cons_cons _ ?_ | refine List.Sublist.cons _ ?_)))) rfl rfl ?_
    exact ⟨_, _, rfl, rfl⟩

/-- A state and its two stacks, as they are read. -/
structure RdSt (w : World) (s : St) (Ad Ar : Option Addr) (cd cr : Nat) : Prop where
  d : Rd w .u32 Ad s.d.length cd s.d
  r : Rd w .u32 Ar s.r.length cr s.r
  hd : s.d.length * 4 ≤ 140737488355328
  hr : s.r.length * 4 ≤ 140737488355328
theorem RdSt.oldN {w0 w : World} {cs : List Chunk} {s : St} {Ad Ar : Option Addr} {cd cr : Nat} (h : RdSt w0 s Ad Ar cd cr) (hi : Inv w0 [] cs w) : RdSt w s Ad Ar cd cr := ⟨h.d.oldN hi, h.r.oldN hi, h.hd, h.hr⟩
abbrev sv (s : St) (Ad : Option Addr) (cd : Nat) (Ar : Option Addr) (cr : Nat) : Value := .agg (s.cells (.slice Ad s.d.length cd) (.slice Ar s.r.length cr)).toArray
abbrev slD (s : St) (A : Option Addr) (c : Nat) : Chunk := sl .u32 22 A s.d.length c s.d
abbrev slR (s : St) (A : Option Addr) (c : Nat) : Chunk := sl .u32 22 A s.r.length c s.r
/-- A state of the call's own. -/
def OwnSt (s : St) (v : Value) (cs : List Chunk) : Prop := ∃ Ad cd Ar cr, v = sv s Ad cd Ar cr ∧ cs = [slD s Ad cd, slR s Ar cr]
theorem _root_.Go.Ink.Inv.rdSt {w0 w : World} {S : List Nat} {cs : List Chunk} {s : St} {Ad Ar : Option Addr} {cd cr : Nat} (hi : Inv w0 S cs w) (h1 : Has cs (slD s Ad cd)) (h2 : Has cs (slR s Ar cr)) (hd : s.d.length * 4 ≤ 140737488355328) (hr : s.r.length * 4 ≤ 140737488355328) : RdSt w s Ad Ar cd cr :=
  ⟨hi.rd h1, hi.rd h2, hd, hr⟩

theorem copy_ok (s : St) (Ad Ar : Option Addr) (cd cr : Nat) (w : World) (h : RdSt w s Ad Ar cd cr) : Ctr Try.prog 17 [sv s Ad cd Ar cr] w [] (OwnSt s) := by
  refine fn_ctr Try.func17 rfl Try.ntmps17 rfl (Inv.start w) ?_
  refine wc_seq ?_
  refine wc_region ?_
  refine wl_t (t_box rfl rfl) rfl ?_
  rintro _ _ ⟨b1, rfl, rfl⟩
  refine wl_t (t_alloc (fun _ => rfl) rfl) rfl ?_
  rintro _ _ ⟨b2, rfl, rfl⟩
  refine wl_nil ?_
  refine q_then ?_
  refine wc_seq ?_
  refine wc_draw ⟨fun j => List.elem j [7, 9], []⟩ (by kernel_rfl) ?_
  refine wa_yn 0 rfl (by kernel_rfl) (by kernel_rfl) (by kernel_rfl) (y_field 1 rfl (ev_rfl rfl) (by first | exact Nat.zero_add _ | exact rfl)) rfl ?_
  refine wa_ln 1 rfl (by kernel_rfl) (by kernel_rfl) (by kernel_rfl) (by kernel_rfl) (y_load (fun _ => rfl) (ev_rfl rfl)) (row_cell (by first | exact hasC0 | exact hasC1 | exact hasC2 | exact hasC3 | exact hasC4 | exact hasC5 | exact hasC6 | exact hasC7 | exact hasC8 | exact hasC9 | exact hasC10 | exact hasC11 | exact hasC12 | exact hasC13 | exact hasC14 | exact hasC15 | exact hasC16 | exact hasC17 | exact hasC18 | exact hasC19 | exact hasC20 | exact hasC21 | exact hasC22 | exact hasC23) rfl) rfl ?_
  refine wa_yn 3 rfl (by kernel_rfl) (by kernel_rfl) (by kernel_rfl) (y_field 2 rfl (ev_rfl rfl) (by first | exact Nat.zero_add _ | exact rfl)) rfl ?_
  refine wa_ln 4 rfl (by kernel_rfl) (by kernel_rfl) (by kernel_rfl) (by kernel_rfl) (y_load (fun _ => rfl) (ev_rfl rfl)) (row_cell (by first | exact hasC0 | exact hasC1 | exact hasC2 | exact hasC3 | exact hasC4 | exact hasC5 | exact hasC6 | exact hasC7 | exact hasC8 | exact hasC9 | exact hasC10 | exact hasC11 | exact hasC12 | exact hasC13 | exact hasC14 | exact hasC15 | exact hasC16 | exact hasC17 | exact hasC18 | exact hasC19 | exact hasC20 | exact hasC21 | exact hasC22 | exact hasC23) rfl) rfl ?_
  refine wa_1 2 (by kernel_rfl) ?_
  refine wi_t rfl rfl (t_call rfl (fun _ _ => rfl) (fun w hi => clone_ok Ad _ cd s.d w (h.d.oldN hi) h.hd)) (fun _ _ _ _ _ _ _ h => by cases h) rfl ?_
  rintro _ _ ⟨_, ⟨A1, c1, rfl, rfl⟩, rfl⟩
  refine wa_yn 6 rfl (by kernel_rfl) (by kernel_rfl) (by kernel_rfl) (y_field 1 rfl (ev_rfl rfl) (by first | exact Nat.zero_add _ | exact rfl)) rfl ?_
  refine wa_1 5 (by kernel_rfl) ?_
  refine wi_t rfl rfl (t_call rfl (fun _ _ => rfl) (fun w hi => clone_ok Ar _ cr s.r w (h.r.oldN hi) h.hr)) (fun _ _ _ _ _ _ _ h => by cases h) rfl ?_
  rintro _ _ ⟨_, ⟨A2, c2, rfl, rfl⟩, rfl⟩
  refine wa_1 7 (by kernel_rfl) ?_
  refine wi_t0 rfl rfl (t_store (fun _ => rfl) rfl rfl rfl (by first | exact atC0 | exact atC1 | exact atC2 | exact atC3 | exact atC4 | exact atC5 | exact atC6 | exact atC7 | exact atC8 | exact atC9 | exact atC10 | exact atC11 | exact atC12 | exact atC13 | exact atC14 | exact atC15 | exact atC16 | exact atC17 | exact atC18 | exact atC19 | exact atC20 | exact atC21 | exact atC22 | exact atC23) (by (repeat (first | exact SetAt.zero _ _ _ | apply SetAt.succ)))) (fun _ _ _ _ _ _ _ h => by cases h) ?_
  rintro _ _ ⟨rfl, rfl⟩
  refine wa_yn 8 rfl (by kernel_rfl) (by kernel_rfl) (by kernel_rfl) (y_field 2 rfl (ev_rfl rfl) (by first | exact Nat.zero_add _ | exact rfl)) rfl ?_
  refine wa_1 9 (by kernel_rfl) ?_
  refine wi_t0 rfl rfl (t_store (fun _ => rfl) rfl rfl rfl (by first | exact atC0 | exact atC1 | exact atC2 | exact atC3 | exact atC4 | exact atC5 | exact atC6 | exact atC7 | exact atC8 | exact atC9 | exact atC10 | exact atC11 | exact atC12 | exact atC13 | exact atC14 | exact atC15 | exact atC16 | exact atC17 | exact atC18 | exact atC19 | exact atC20 | exact atC21 | exact atC22 | exact atC23) (by (repeat (first | exact SetAt.zero _ _ _ | apply SetAt.succ)))) (fun _ _ _ _ _ _ _ h => by cases h) ?_
  rintro _ _ ⟨rfl, rfl⟩
  refine wa_done (by kernel_rfl) ?_
  refine q_then ?_
  refine wc_seq ?_
  refine wc_region ?_
  refine wl_loadRow (by first | exact hasC0 | exact hasC1 | exact hasC2 | exact hasC3 | exact hasC4 | exact hasC5 | exact hasC6 | exact hasC7 | exact hasC8 | exact hasC9 | exact hasC10 | exact hasC11 | exact hasC12 | exact hasC13 | exact hasC14 | exact hasC15 | exact hasC16 | exact hasC17 | exact hasC18 | exact hasC19 | exact hasC20 | exact hasC21 | exact hasC22 | exact hasC23) (fun _ => rfl) (fun _ => rfl) (ev_rfl rfl) rfl ?_
  refine wl_t0 (t_storeN (fun _ => rfl) rfl rfl (allT rfl) (by first | exact atC0 | exact atC1 | exact atC2 | exact atC3 | exact atC4 | exact atC5 | exact atC6 | exact atC7 | exact atC8 | exact atC9 | exact atC10 | exact atC11 | exact atC12 | exact atC13 | exact atC14 | exact atC15 | exact atC16 | exact atC17 | exact atC18 | exact atC19 | exact atC20 | exact atC21 | exact atC22 | exact atC23) (by exact rfl)) ?_
  rintro _ _ ⟨rfl, rfl⟩
  refine wl_nil ?_
  refine q_then ?_
  refine wc_ret ?_
  refine retC (cs' := [slv _ _ _ _ _ _, slv _ _ _ _ _ _]) (.inl rfl) (by ((repeat (first | exact List.Sublist.slnil | refine List.Sublist.cons_cons _ ?_ | refine List.Sublist.cons _ ?_)))) rfl rfl (by first | exact hasC0 | exact hasC1 | exact hasC2 | exact hasC3 | exact hasC4 | exact hasC5 | exact hasC6 | exact hasC7 | exact hasC8 | exact hasC9 | exact hasC10 | exact hasC11 | exact hasC12 | exact hasC13 | exact hasC14 | exact hasC15 | exact hasC16 | exact hasC17 | exact hasC18 | exact hasC19 | exact hasC20 | exact hasC21 | exact hasC22 | exact hasC23) (fun _ => rfl) (fun _ => rfl) ?_
  exact ⟨_, _, _, _, rfl, rfl⟩
end Go.Proofs.Ytjknccgefnnfnaa
