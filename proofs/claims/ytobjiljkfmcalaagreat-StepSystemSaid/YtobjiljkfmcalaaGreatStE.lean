/- The reference's Same; Trim; known. -/
import Derived.Test.YtobjiljkfmcalaaGreatStD
import Derived.Test.YtobjiljkfmcalaaGreatInkS
set_option linter.unusedSimpArgs false
set_option linter.unusedVariables false
set_option maxRecDepth 100000
namespace Go.Ink
/-- The reference's test, in its order. -/
def St.rsame (a b : St) : Bool :=
  (((((((((((((((a.pc == b.pc) && (a.d == b.d)) && (a.r == b.r)) && (a.flags == b.flags)) && (a.super == b.super)) && (a.paging == b.paging)) && (a.ie == b.ie)) && (a.root == b.root)) && (a.vec == b.vec)) && (a.epc == b.epc)) && (a.cause == b.cause)) && (a.addr == b.addr)) && (a.esuper == b.esuper)) && (a.eie == b.eie)) && (a.count == b.count)) && (a.halted == b.halted)
theorem St.rsame_iff (a b : St) : a.rsame b = true ↔ a = b := by
  unfold St.rsame
  constructor
  · intro h
    simp only [Bool.and_eq_true, beq_iff_eq] at h
    obtain ⟨⟨⟨⟨⟨⟨⟨⟨⟨⟨⟨⟨⟨⟨⟨h1, h2⟩, h3⟩, h4⟩, h5⟩, h6⟩, h7⟩, h8⟩, h9⟩, h10⟩, h11⟩, h12⟩, h13⟩, h14⟩, h15⟩, h16⟩ := h
    cases a; cases b; simp_all
  rintro rfl
  simp
theorem St.rsame_self (a : St) : a.rsame a = true := (St.rsame_iff a a).2 rfl
def St.trim (s : St) : St := { s with d := s.d.take 16, r := s.r.take 16, flags := s.flags % 16, count := s.count % 1099511627776 }
end Go.Ink
namespace Go.Proofs.YtobjiljkfmcalaaGreat
open Go.RowKit Go.Ink

set_option maxRecDepth 100000 in
theorem rSame_ok (s t : St) (Ad Ar Bd Br : Option Addr) (cd cr ed er : Nat) (w : World) (h : RdSt w s Ad Ar cd cr) (h2 : RdSt w t Bd Br ed er) :
    Ctr Tryz.prog 24 [sv s Ad cd Ar cr, sv t Bd ed Br er] w [] (fun v cs => v = .bool (s.rsame t) ∧ cs = []) := by
  refine fn_ctr Tryz.func24 rfl Tryz.ntmps24 rfl (Inv.start w) ?_
  refine Zs (Zr (wl_t (t_box rfl rfl) rfl ?_))
  rintro _ _ ⟨b2, rfl, rfl⟩
  refine wl_t (t_box rfl rfl) rfl ?_
  rintro _ _ ⟨b3, rfl, rfl⟩
  refine Zg rfl (Zn (Zt (Zs (Zr (Zy (y_field 0 rfl (Zv rfl) Zf) ?_)))))
  refine Zz rfl ?_
  refine Zy (y_field 0 rfl (Zv rfl) Zf) ?_
  refine Zz rfl ?_
  refine Zy (y_eql (Zv rfl) (Zv rfl) rfl) (Zm rfl (Zyy rfl rfl (y_field 1 rfl (Zv rfl) Zf) ?_))
  refine wl_yg (guard_yes rfl rfl) (y_load (fun _ => rfl) (ev_g rfl)) (row_cell Zh rfl) rfl ?_
  refine Zyy rfl rfl (y_field 1 rfl (Zv rfl) Zf) ?_
  refine wl_yg (guard_yes rfl rfl) (y_load (fun _ => rfl) (ev_g rfl)) (row_cell Zh rfl) rfl ?_
  refine wl_callg (guard_yes rfl rfl) (.cons (ev_g rfl) (.cons (ev_g rfl) .nil)) (fun _ _ => rfl) (fun hg w hi => rsame_ok Ad Bd cd ed s.d t.d w (h.d.oldN hi) (h2.d.oldN hi)) rfl ?_
  refine Zy (y_and (Zv rfl) (pk_yes rfl (fun _ => rfl))) (Zm rfl (Zyy rfl rfl (y_field 2 rfl (Zv rfl) Zf) ?_))
  refine wl_yg (guard_yes rfl rfl) (y_load (fun _ => rfl) (ev_g rfl)) (row_cell Zh rfl) rfl ?_
  refine Zyy rfl rfl (y_field 2 rfl (Zv rfl) Zf) ?_
  refine wl_yg (guard_yes rfl rfl) (y_load (fun _ => rfl) (ev_g rfl)) (row_cell Zh rfl) rfl ?_
  refine wl_callg (guard_yes rfl rfl) (.cons (ev_g rfl) (.cons (ev_g rfl) .nil)) (fun _ _ => rfl) (fun hg w hi => rsame_ok Ar Br cr er s.r t.r w (h.r.oldN hi) (h2.r.oldN hi)) rfl ?_
  refine Zy (y_and (Zv rfl) (pk_yes rfl (fun _ => rfl))) (Zm rfl (Zyy rfl rfl (y_field 3 rfl (Zv rfl) Zf) ?_))
  refine wl_yg (guard_yes rfl rfl) (y_load (fun _ => rfl) (ev_g rfl)) (row_cell Zh rfl) rfl ?_
  refine Zyy rfl rfl (y_field 3 rfl (Zv rfl) Zf) ?_
  refine wl_yg (guard_yes rfl rfl) (y_load (fun _ => rfl) (ev_g rfl)) (row_cell Zh rfl) rfl ?_
  refine Zyy rfl rfl (y_eql (ev_g rfl) (ev_g rfl) rfl) ?_
  refine Zy (y_and (Zv rfl) (pk_yes rfl (fun _ => rfl))) (Zm rfl (Zyy rfl rfl (y_field 4 rfl (Zv rfl) Zf) ?_))
  refine wl_yg (guard_yes rfl rfl) (y_load (fun _ => rfl) (ev_g rfl)) (row_cell Zh rfl) rfl ?_
  refine Zyy rfl rfl (y_field 4 rfl (Zv rfl) Zf) ?_
  refine wl_yg (guard_yes rfl rfl) (y_load (fun _ => rfl) (ev_g rfl)) (row_cell Zh rfl) rfl ?_
  refine Zyy rfl rfl (y_eqlb rfl (ev_g rfl) (ev_g rfl) rfl) ?_
  refine Zy (y_and (Zv rfl) (pk_yes rfl (fun _ => rfl))) (Zm rfl (Zyy rfl rfl (y_field 5 rfl (Zv rfl) Zf) ?_))
  refine wl_yg (guard_yes rfl rfl) (y_load (fun _ => rfl) (ev_g rfl)) (row_cell Zh rfl) rfl ?_
  refine Zyy rfl rfl (y_field 5 rfl (Zv rfl) Zf) ?_
  refine wl_yg (guard_yes rfl rfl) (y_load (fun _ => rfl) (ev_g rfl)) (row_cell Zh rfl) rfl ?_
  refine Zyy rfl rfl (y_eqlb rfl (ev_g rfl) (ev_g rfl) rfl) ?_
  refine Zy (y_and (Zv rfl) (pk_yes rfl (fun _ => rfl))) (Zm rfl (Zyy rfl rfl (y_field 6 rfl (Zv rfl) Zf) ?_))
  refine wl_yg (guard_yes rfl rfl) (y_load (fun _ => rfl) (ev_g rfl)) (row_cell Zh rfl) rfl ?_
  refine Zyy rfl rfl (y_field 6 rfl (Zv rfl) Zf) ?_
  refine wl_yg (guard_yes rfl rfl) (y_load (fun _ => rfl) (ev_g rfl)) (row_cell Zh rfl) rfl ?_
  refine Zyy rfl rfl (y_eqlb rfl (ev_g rfl) (ev_g rfl) rfl) ?_
  refine Zy (y_and (Zv rfl) (pk_yes rfl (fun _ => rfl))) (Zm rfl (Zyy rfl rfl (y_field 7 rfl (Zv rfl) Zf) ?_))
  refine wl_yg (guard_yes rfl rfl) (y_load (fun _ => rfl) (ev_g rfl)) (row_cell Zh rfl) rfl ?_
  refine Zyy rfl rfl (y_field 7 rfl (Zv rfl) Zf) ?_
  refine wl_yg (guard_yes rfl rfl) (y_load (fun _ => rfl) (ev_g rfl)) (row_cell Zh rfl) rfl ?_
  refine Zyy rfl rfl (y_eql (ev_g rfl) (ev_g rfl) rfl) ?_
  refine Zy (y_and (Zv rfl) (pk_yes rfl (fun _ => rfl))) (Zm rfl (Zyy rfl rfl (y_field 8 rfl (Zv rfl) Zf) ?_))
  refine wl_yg (guard_yes rfl rfl) (y_load (fun _ => rfl) (ev_g rfl)) (row_cell Zh rfl) rfl ?_
  refine Zyy rfl rfl (y_field 8 rfl (Zv rfl) Zf) ?_
  refine wl_yg (guard_yes rfl rfl) (y_load (fun _ => rfl) (ev_g rfl)) (row_cell Zh rfl) rfl ?_
  refine Zyy rfl rfl (y_eql (ev_g rfl) (ev_g rfl) rfl) ?_
  refine Zy (y_and (Zv rfl) (pk_yes rfl (fun _ => rfl))) (Zm rfl (Zyy rfl rfl (y_field 9 rfl (Zv rfl) Zf) ?_))
  refine wl_yg (guard_yes rfl rfl) (y_load (fun _ => rfl) (ev_g rfl)) (row_cell Zh rfl) rfl ?_
  refine Zyy rfl rfl (y_field 9 rfl (Zv rfl) Zf) ?_
  refine wl_yg (guard_yes rfl rfl) (y_load (fun _ => rfl) (ev_g rfl)) (row_cell Zh rfl) rfl ?_
  refine Zyy rfl rfl (y_eql (ev_g rfl) (ev_g rfl) rfl) ?_
  refine Zy (y_and (Zv rfl) (pk_yes rfl (fun _ => rfl))) (Zm rfl (Zyy rfl rfl (y_field 10 rfl (Zv rfl) Zf) ?_))
  refine wl_yg (guard_yes rfl rfl) (y_load (fun _ => rfl) (ev_g rfl)) (row_cell Zh rfl) rfl ?_
  refine Zyy rfl rfl (y_field 10 rfl (Zv rfl) Zf) ?_
  refine wl_yg (guard_yes rfl rfl) (y_load (fun _ => rfl) (ev_g rfl)) (row_cell Zh rfl) rfl ?_
  refine Zyy rfl rfl (y_eql (ev_g rfl) (ev_g rfl) rfl) ?_
  refine Zy (y_and (Zv rfl) (pk_yes rfl (fun _ => rfl))) (Zm rfl (Zyy rfl rfl (y_field 11 rfl (Zv rfl) Zf) ?_))
  refine wl_yg (guard_yes rfl rfl) (y_load (fun _ => rfl) (ev_g rfl)) (row_cell Zh rfl) rfl ?_
  refine Zyy rfl rfl (y_field 11 rfl (Zv rfl) Zf) ?_
  refine wl_yg (guard_yes rfl rfl) (y_load (fun _ => rfl) (ev_g rfl)) (row_cell Zh rfl) rfl ?_
  refine Zyy rfl rfl (y_eql (ev_g rfl) (ev_g rfl) rfl) ?_
  refine Zy (y_and (Zv rfl) (pk_yes rfl (fun _ => rfl))) (Zm rfl (Zyy rfl rfl (y_field 12 rfl (Zv rfl) Zf) ?_))
  refine wl_yg (guard_yes rfl rfl) (y_load (fun _ => rfl) (ev_g rfl)) (row_cell Zh rfl) rfl ?_
  refine Zyy rfl rfl (y_field 12 rfl (Zv rfl) Zf) ?_
  refine wl_yg (guard_yes rfl rfl) (y_load (fun _ => rfl) (ev_g rfl)) (row_cell Zh rfl) rfl ?_
  refine Zyy rfl rfl (y_eqlb rfl (ev_g rfl) (ev_g rfl) rfl) ?_
  refine Zy (y_and (Zv rfl) (pk_yes rfl (fun _ => rfl))) (Zm rfl (Zyy rfl rfl (y_field 13 rfl (Zv rfl) Zf) ?_))
  refine wl_yg (guard_yes rfl rfl) (y_load (fun _ => rfl) (ev_g rfl)) (row_cell Zh rfl) rfl ?_
  refine Zyy rfl rfl (y_field 13 rfl (Zv rfl) Zf) ?_
  refine wl_yg (guard_yes rfl rfl) (y_load (fun _ => rfl) (ev_g rfl)) (row_cell Zh rfl) rfl ?_
  refine Zyy rfl rfl (y_eqlb rfl (ev_g rfl) (ev_g rfl) rfl) ?_
  refine Zy (y_and (Zv rfl) (pk_yes rfl (fun _ => rfl))) (Zm rfl (Zyy rfl rfl (y_field 14 rfl (Zv rfl) Zf) ?_))
  refine wl_yg (guard_yes rfl rfl) (y_load (fun _ => rfl) (ev_g rfl)) (row_cell Zh rfl) rfl ?_
  refine Zyy rfl rfl (y_field 14 rfl (Zv rfl) Zf) ?_
  refine wl_yg (guard_yes rfl rfl) (y_load (fun _ => rfl) (ev_g rfl)) (row_cell Zh rfl) rfl ?_
  refine Zyy rfl rfl (y_eql (ev_g rfl) (ev_g rfl) rfl) ?_
  refine Zy (y_and (Zv rfl) (pk_yes rfl (fun _ => rfl))) (Zm rfl (Zyy rfl rfl (y_field 15 rfl (Zv rfl) Zf) ?_))
  refine wl_yg (guard_yes rfl rfl) (y_load (fun _ => rfl) (ev_g rfl)) (row_cell Zh rfl) rfl ?_
  refine Zyy rfl rfl (y_field 15 rfl (Zv rfl) Zf) ?_
  refine wl_yg (guard_yes rfl rfl) (y_load (fun _ => rfl) (ev_g rfl)) (row_cell Zh rfl) rfl ?_
  refine Zyy rfl rfl (y_eqlb rfl (ev_g rfl) (ev_g rfl) rfl) ?_
  refine Zy (y_and (Zv rfl) (pk_yes rfl (fun _ => rfl))) (Zg rfl (Zn (Zt (Ze (ret1 (cs' := []) (.inl rfl) Zu rfl rfl ?_)))))
  exact ⟨rfl, rfl⟩

theorem trim_ok (s : St) (hs : s.wf) (Ad Ar : Option Addr) (cd cr : Nat) (w : World) (h : RdSt w s Ad Ar cd cr) : Ctr Tryz.prog 14 [sv s Ad cd Ar cr] w [] (OwnSt s.trim) := by
  obtain ⟨f1, f2⟩ := hs.flags
  obtain ⟨c1, c2⟩ := hs.count
  have hcd := h.d.cap
  have hcr := h.r.cap
  refine fn_ctr Tryz.func14 rfl Tryz.ntmps14 rfl (Inv.start w) ?_
  refine Zs (Zr (wl_t (t_box rfl rfl) rfl ?_))
  rintro _ _ ⟨b1, rfl, rfl⟩
  refine wl_t (t_alloc (fun _ => rfl) rfl) rfl ?_
  rintro _ _ ⟨b2, rfl, rfl⟩
  refine Zn (Zt (Zs (Zr (wl_loadRow Zh (fun _ => rfl) (fun _ => rfl) (Zv rfl) rfl ?_))))
  refine wl_t (t_call rfl (fun _ _ => rfl) (fun w hi => refcopy_ok s Ad Ar cd cr w (h.oldN hi))) rfl ?_
  rintro _ _ ⟨_, ⟨A1, c1', A2, c2', rfl, rfl⟩, rfl⟩
  refine wl_fact (fun w hi => (hi.rd (show Has _ (slD s A1 c1') from Zh)).cap) (fun hcap1 => ?_)
  refine wl_fact (fun w hi => (hi.rd (show Has _ (slR s A2 c2') from Zh)).cap) (fun hcap2 => ?_)
  refine wl_t0 (t_storeN (fun _ => rfl) rfl rfl (allT rfl) Za (by exact rfl)) ?_
  rintro _ _ ⟨rfl, rfl⟩
  refine Zn (Zt (Zs (Zs (Zr (Zy (y_field 1 rfl (Zv rfl) Zf) ?_)))))
  refine Zz rfl ?_
  refine Zy (y_len ⟨_, rfl⟩ (Zv rfl)) ?_
  refine Zy (y_gtr (Zv rfl) (Zv rfl) rfl) (Zn (Zt ?_))
  refine wc_cond _ rfl (fun hc2 => ?_) (fun hc2 => ?_)
  · simp only [decide_eq_true_eq] at hc2
    refine Zr (Zy (y_field 1 rfl (Zv rfl) Zf) ?_)
    refine Zz rfl ?_
    refine Zy (y_slice0 16 rfl (fun _ => rfl) (Zv rfl) (Zv rfl) (fun _ => by first | rfl | omega) (fun _ => by omega)) ?_
    refine Zy (y_field 1 rfl (Zv rfl) Zf) ?_
    refine wl_t0 (t_store (fun _ => rfl) rfl rfl rfl Za Zp) ?_
    rintro _ _ ⟨rfl, rfl⟩
    refine Zn (Zt (Zs (Zs (Zr (wl_conv (c := slD s A1 c1') (c' := slD s.trim A1 c1') Za rfl (fun w h => sl_cut h) ?_)))))
    refine Zy (y_field 2 rfl (Zv rfl) Zf) ?_
    refine Zz rfl ?_
    refine Zy (y_len ⟨_, rfl⟩ (Zv rfl)) ?_
    refine Zy (y_gtr (Zv rfl) (Zv rfl) rfl) (Zn (Zt ?_))
    refine wc_cond _ rfl (fun hc4 => ?_) (fun hc4 => ?_)
    · simp only [decide_eq_true_eq] at hc4
      refine Zr (Zy (y_field 2 rfl (Zv rfl) Zf) ?_)
      refine Zz rfl ?_
      refine Zy (y_slice0 16 rfl (fun _ => rfl) (Zv rfl) (Zv rfl) (fun _ => by first | rfl | omega) (fun _ => by omega)) ?_
      refine Zy (y_field 2 rfl (Zv rfl) Zf) ?_
      refine wl_t0 (t_store (fun _ => rfl) rfl rfl rfl Za Zp) ?_
      rintro _ _ ⟨rfl, rfl⟩
      refine Zn (Zt (Zs (Zr (wl_conv (c := slR s A2 c2') (c' := slR s.trim A2 c2') Za rfl (fun w h => sl_cut h) ?_))))
      refine Zy (y_field 3 rfl (Zv rfl) Zf) ?_
      refine Zz rfl ?_
      refine Zy (y_rem (Zv rfl) (Zv rfl) (by omega) (by first | exact IntWalk.rem_in _ _ (by omega) | exact rfl)) ?_
      refine Zy (y_field 3 rfl (Zv rfl) Zf) ?_
      refine wl_t0 (t_store (fun _ => rfl) rfl rfl rfl Za Zp) ?_
      rintro _ _ ⟨rfl, rfl⟩
      refine Zn (Zt (Zs (Zr (Zy (y_field 14 rfl (Zv rfl) Zf) ?_))))
      refine Zz rfl ?_
      refine Zy (y_rem (Zv rfl) (Zv rfl) (by omega) (by first | exact IntWalk.rem_in _ _ (by omega) | exact rfl)) ?_
      refine Zy (y_field 14 rfl (Zv rfl) Zf) ?_
      refine wl_t0 (t_store (fun _ => rfl) rfl rfl rfl Za Zp) ?_
      rintro _ _ ⟨rfl, rfl⟩
      refine Zn (Zt (Zs (Zr (wl_loadRow Zh (fun _ => rfl) (fun _ => rfl) (Zv rfl) rfl ?_))))
      refine wl_t0 (t_storeN (fun _ => rfl) rfl rfl (allT rfl) Za (by exact rfl)) ?_
      rintro _ _ ⟨rfl, rfl⟩
      refine Zn (Zt (Ze (retC (cs' := [slD s.trim A1 c1', slR s.trim A2 c2']) (.inl rfl) Zu rfl rfl Zh (fun _ => rfl) (fun _ => rfl) ?_)))
      have e1 : s.trim.d.length = 16 := by simp [St.trim]; omega
      have e2 : s.trim.r.length = 16 := by simp [St.trim]; omega
      refine ⟨A1, c1', A2, c2', ?_, rfl⟩
      unfold sv
      rw [e1, e2]
      rfl
    simp only [decide_eq_false_iff_not] at hc4
    refine Zc (Zt (Zs (Zr (wl_conv (c := slR s A2 c2') (c' := slR s.trim A2 c2') Za rfl (fun w h => sl_cut h) ?_))))
    refine Zy (y_field 3 rfl (Zv rfl) Zf) ?_
    refine Zz rfl ?_
    refine Zy (y_rem (Zv rfl) (Zv rfl) (by omega) (by first | exact IntWalk.rem_in _ _ (by omega) | exact rfl)) ?_
    refine Zy (y_field 3 rfl (Zv rfl) Zf) ?_
    refine wl_t0 (t_store (fun _ => rfl) rfl rfl rfl Za Zp) ?_
    rintro _ _ ⟨rfl, rfl⟩
    refine Zn (Zt (Zs (Zr (Zy (y_field 14 rfl (Zv rfl) Zf) ?_))))
    refine Zz rfl ?_
    refine Zy (y_rem (Zv rfl) (Zv rfl) (by omega) (by first | exact IntWalk.rem_in _ _ (by omega) | exact rfl)) ?_
    refine Zy (y_field 14 rfl (Zv rfl) Zf) ?_
    refine wl_t0 (t_store (fun _ => rfl) rfl rfl rfl Za Zp) ?_
    rintro _ _ ⟨rfl, rfl⟩
    refine Zn (Zt (Zs (Zr (wl_loadRow Zh (fun _ => rfl) (fun _ => rfl) (Zv rfl) rfl ?_))))
    refine wl_t0 (t_storeN (fun _ => rfl) rfl rfl (allT rfl) Za (by exact rfl)) ?_
    rintro _ _ ⟨rfl, rfl⟩
    refine Zn (Zt (Ze (retC (cs' := [slD s.trim A1 c1', slR s.trim A2 c2']) (.inl rfl) Zu rfl rfl Zh (fun _ => rfl) (fun _ => rfl) ?_)))
    have e1 : s.trim.d.length = 16 := by simp [St.trim]; omega
    have e2 : s.trim.r.length = s.r.length := by simp [St.trim]; omega
    refine ⟨A1, c1', A2, c2', ?_, rfl⟩
    unfold sv
    rw [e1, e2]
    rfl
  simp only [decide_eq_false_iff_not] at hc2
  refine Zc (Zt (Zs (Zs (Zr (wl_conv (c := slD s A1 c1') (c' := slD s.trim A1 c1') Za rfl (fun w h => sl_cut h) ?_)))))
  refine Zy (y_field 2 rfl (Zv rfl) Zf) ?_
  refine Zz rfl ?_
  refine Zy (y_len ⟨_, rfl⟩ (Zv rfl)) ?_
  refine Zy (y_gtr (Zv rfl) (Zv rfl) rfl) (Zn (Zt ?_))
  refine wc_cond _ rfl (fun hc4 => ?_) (fun hc4 => ?_)
  · simp only [decide_eq_true_eq] at hc4
    refine Zr (Zy (y_field 2 rfl (Zv rfl) Zf) ?_)
    refine Zz rfl ?_
    refine Zy (y_slice0 16 rfl (fun _ => rfl) (Zv rfl) (Zv rfl) (fun _ => by first | rfl | omega) (fun _ => by omega)) ?_
    refine Zy (y_field 2 rfl (Zv rfl) Zf) ?_
    refine wl_t0 (t_store (fun _ => rfl) rfl rfl rfl Za Zp) ?_
    rintro _ _ ⟨rfl, rfl⟩
    refine Zn (Zt (Zs (Zr (wl_conv (c := slR s A2 c2') (c' := slR s.trim A2 c2') Za rfl (fun w h => sl_cut h) ?_))))
    refine Zy (y_field 3 rfl (Zv rfl) Zf) ?_
    refine Zz rfl ?_
    refine Zy (y_rem (Zv rfl) (Zv rfl) (by omega) (by first | exact IntWalk.rem_in _ _ (by omega) | exact rfl)) ?_
    refine Zy (y_field 3 rfl (Zv rfl) Zf) ?_
    refine wl_t0 (t_store (fun _ => rfl) rfl rfl rfl Za Zp) ?_
    rintro _ _ ⟨rfl, rfl⟩
    refine Zn (Zt (Zs (Zr (Zy (y_field 14 rfl (Zv rfl) Zf) ?_))))
    refine Zz rfl ?_
    refine Zy (y_rem (Zv rfl) (Zv rfl) (by omega) (by first | exact IntWalk.rem_in _ _ (by omega) | exact rfl)) ?_
    refine Zy (y_field 14 rfl (Zv rfl) Zf) ?_
    refine wl_t0 (t_store (fun _ => rfl) rfl rfl rfl Za Zp) ?_
    rintro _ _ ⟨rfl, rfl⟩
    refine Zn (Zt (Zs (Zr (wl_loadRow Zh (fun _ => rfl) (fun _ => rfl) (Zv rfl) rfl ?_))))
    refine wl_t0 (t_storeN (fun _ => rfl) rfl rfl (allT rfl) Za (by exact rfl)) ?_
    rintro _ _ ⟨rfl, rfl⟩
    refine Zn (Zt (Ze (retC (cs' := [slD s.trim A1 c1', slR s.trim A2 c2']) (.inl rfl) Zu rfl rfl Zh (fun _ => rfl) (fun _ => rfl) ?_)))
    have e1 : s.trim.d.length = s.d.length := by simp [St.trim]; omega
    have e2 : s.trim.r.length = 16 := by simp [St.trim]; omega
    refine ⟨A1, c1', A2, c2', ?_, rfl⟩
    unfold sv
    rw [e1, e2]
    rfl
  simp only [decide_eq_false_iff_not] at hc4
  refine Zc (Zt (Zs (Zr (wl_conv (c := slR s A2 c2') (c' := slR s.trim A2 c2') Za rfl (fun w h => sl_cut h) ?_))))
  refine Zy (y_field 3 rfl (Zv rfl) Zf) ?_
  refine Zz rfl ?_
  refine Zy (y_rem (Zv rfl) (Zv rfl) (by omega) (by first | exact IntWalk.rem_in _ _ (by omega) | exact rfl)) ?_
  refine Zy (y_field 3 rfl (Zv rfl) Zf) ?_
  refine wl_t0 (t_store (fun _ => rfl) rfl rfl rfl Za Zp) ?_
  rintro _ _ ⟨rfl, rfl⟩
  refine Zn (Zt (Zs (Zr (Zy (y_field 14 rfl (Zv rfl) Zf) ?_))))
  refine Zz rfl ?_
  refine Zy (y_rem (Zv rfl) (Zv rfl) (by omega) (by first | exact IntWalk.rem_in _ _ (by omega) | exact rfl)) ?_
  refine Zy (y_field 14 rfl (Zv rfl) Zf) ?_
  refine wl_t0 (t_store (fun _ => rfl) rfl rfl rfl Za Zp) ?_
  rintro _ _ ⟨rfl, rfl⟩
  refine Zn (Zt (Zs (Zr (wl_loadRow Zh (fun _ => rfl) (fun _ => rfl) (Zv rfl) rfl ?_))))
  refine wl_t0 (t_storeN (fun _ => rfl) rfl rfl (allT rfl) Za (by exact rfl)) ?_
  rintro _ _ ⟨rfl, rfl⟩
  refine Zn (Zt (Ze (retC (cs' := [slD s.trim A1 c1', slR s.trim A2 c2']) (.inl rfl) Zu rfl rfl Zh (fun _ => rfl) (fun _ => rfl) ?_)))
  have e1 : s.trim.d.length = s.d.length := by simp [St.trim]; omega
  have e2 : s.trim.r.length = s.r.length := by simp [St.trim]; omega
  refine ⟨A1, c1', A2, c2', ?_, rfl⟩
  unfold sv
  rw [e1, e2]
  rfl

theorem RdSt.nil_ (w : World) {s : St} (hd : s.d = []) (hr : s.r = []) : RdSt w s none none 0 0 := by
  obtain ⟨pc, d, r, f3, f4, f5, f6, f7, f8, f9, f10, f11, f12, f13, f14, f15⟩ := s
  simp only at hd hr
  subst hd hr
  exact ⟨⟨rfl, by simp, by simp, by simp, by simp⟩, ⟨rfl, by simp, by simp, by simp, by simp⟩, by simp, by simp⟩
end Go.Proofs.YtobjiljkfmcalaaGreat
