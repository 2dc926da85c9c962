/- What keeps an instruction from being done. -/
import Derived.Test.YtobjiljkfmcalaaGreatSpS
import Derived.Test.YtobjiljkfmcalaaGreatInkS
set_option linter.unusedSimpArgs false
set_option linter.unusedVariables false
set_option maxRecDepth 100000
namespace Go.Ink
open Go.RowKit
theorem cond_all {α : Type} (p : α → Prop) {c : Bool} {x y : α} (hx : p x) (hy : p y) : p (bif c then x else y) := by cases c <;> assumption
def NeedsLe (q : (Nat × Nat) × (Nat × Nat)) : Prop := q.1.1 ≤ 3 ∧ q.1.2 ≤ 3 ∧ q.2.1 ≤ 3 ∧ q.2.2 ≤ 3
theorem needs_le (op : Int) : NeedsLe (opNeeds op) := by
  unfold opNeeds
  repeat (refine cond_all NeedsLe ⟨by decide, by decide, by decide, by decide⟩ ?_)
  exact ⟨by decide, by decide, by decide, by decide⟩
def needOf (s : St) (q : (Nat × Nat) × (Nat × Nat)) : Int :=
  bif decide ((s.d.length : Int) < (q.1.1 : Int)) || decide ((s.r.length : Int) < (q.2.1 : Int)) then 3 else
  bif decide (16 < (s.d.length : Int) - (q.1.1 : Int) + (q.1.2 : Int)) || decide (16 < (s.r.length : Int) - (q.2.1 : Int) + (q.2.2 : Int)) then 4 else 0
def checkOf (s : St) (op n : Int) : Int :=
  bif !opRight op n then 1 else bif opSuper op && !s.super then 2 else bif op == 66 && !(s.get n).2 then 1 else bif op == 67 && !(s.set n 0).2 then 1 else needOf s (opNeeds op)
end Go.Ink
namespace Go.Proofs.YtobjiljkfmcalaaGreat
open Go.RowKit Go.Ink

set_option maxHeartbeats 1000000 in
theorem check_ok (s : St) (Ad Ar : Option Addr) (cd cr : Nat) (op n : Int) (hu : u32 n) (w : World) (h : RdSt w s Ad Ar cd cr) :
    Ctr Tryz.prog 19 [sv s Ad cd Ar cr, .agg #[.int .i64 op, .int .u32 n]] w [] (fun v cs => v = .int .i64 (checkOf s op n) ∧ cs = []) := by
  have hu1 := hu.1
  have hu2 := hu.2
  have hD := h.hd
  have hR := h.hr
  have HR := gright_ok op n
  have HS := gsuper_ok op
  have HN := needs_ok op
  have HG := get_ok s (.slice Ad s.d.length cd) (.slice Ar s.r.length cr) n
  have HE := set_ok s Ad Ar cd cr n 0
  obtain ⟨q1, hq1⟩ : ∃ q, opRight op n = q := ⟨_, rfl⟩
  obtain ⟨q2, hq2⟩ : ∃ q, opSuper op = q := ⟨_, rfl⟩
  obtain ⟨⟨g0, g⟩, hq3⟩ : ∃ q, s.get n = q := ⟨_, rfl⟩
  obtain ⟨⟨e0, e⟩, hq4⟩ : ∃ q, s.set n 0 = q := ⟨_, rfl⟩
  have hle := needs_le op
  unfold checkOf
  rw [hq1] at HR ⊢
  rw [hq2] at HS ⊢
  rw [hq3] at HG ⊢
  rw [hq4] at HE ⊢
  obtain ⟨⟨⟨a, b⟩, ⟨c, d⟩⟩, hq5⟩ : ∃ q, opNeeds op = q := ⟨_, rfl⟩
  rw [hq5] at HN hle ⊢
  obtain ⟨ha, hb, hc, hd⟩ := hle
  have ha : a ≤ 3 := ha
  have hb : b ≤ 3 := hb
  have hc : c ≤ 3 := hc
  have hd : d ≤ 3 := hd
  refine fn_ctr Tryz.func19 rfl Tryz.ntmps19 rfl (Inv.start w) ?_
  refine Zs (Zr (wl_t (t_box rfl rfl) rfl ?_))
  rintro _ _ ⟨b2, rfl, rfl⟩
  refine wl_t (t_box rfl rfl) rfl ?_
  rintro _ _ ⟨b3, rfl, rfl⟩
  refine Zg rfl (Zn (Zt (Zs (Zx (Zs (Zr (wl_loadRow Zh (fun _ => rfl) (fun _ => rfl) (Zv rfl) rfl ?_)))))))
  refine wl_t (t_call rfl (fun _ _ => rfl) (fun w hi => HR w)) rfl ?_
  rintro _ _ ⟨_, ⟨rfl, rfl⟩, rfl⟩
  refine Zy (y_not (Zv rfl) rfl) (Zg rfl (Zn (Zt ?_)))
  refine wc_cond _ rfl (fun hc1 => ?_) (fun hc1 => ?_)
  · refine Zs (Zr (Zg rfl (Zn (Zt (Ze (Zq (Zw (ret1 (cs' := []) (.inl rfl) Zu rfl rfl ?_))))))))
    refine ⟨?_, rfl⟩
    simp only [needOf, *, cond_true, cond_false]
  refine Zs (Zr (Zy (y_field 0 rfl (Zv rfl) Zf) ?_))
  refine Zz rfl ?_
  refine wl_t (t_call rfl (fun _ _ => rfl) (fun w hi => HS w)) rfl ?_
  rintro _ _ ⟨_, ⟨rfl, rfl⟩, rfl⟩
  refine Zm rfl (Zyy rfl rfl (y_field 4 rfl (Zv rfl) Zf) ?_)
  refine wl_yg (guard_yes rfl rfl) (y_load (fun _ => rfl) (ev_g rfl)) (row_cell Zh rfl) rfl ?_
  refine Zyy rfl rfl (y_not (ev_g rfl) rfl) ?_
  refine Zy (y_and (Zv rfl) (pk_yes rfl (fun _ => rfl))) (Zg rfl (Zn (Zt ?_)))
  refine wc_cond _ rfl (fun hc3 => ?_) (fun hc3 => ?_)
  · refine Zs (Zr (Zg rfl (Zn (Zt (Ze (Zq (Zw (ret1 (cs' := []) (.inl rfl) Zu rfl rfl ?_))))))))
    refine ⟨?_, rfl⟩
    simp only [needOf, *, cond_true, cond_false]
  refine Zc (Zo (Zt (Zs (Zs (Zr (wl_loadRow Zh (fun _ => rfl) (fun _ => rfl) (Zv rfl) rfl ?_))))))
  refine Zy (y_field 1 rfl (Zv rfl) Zf) ?_
  refine Zz rfl ?_
  refine Zy (y_conv rfl rfl (Zv rfl) Zl) ?_
  refine wl_t (t_call rfl (fun _ _ => rfl) (fun w hi => HG w)) rfl ?_
  rintro _ _ ⟨_, ⟨rfl, rfl⟩, rfl⟩
  refine Zm rfl (Zy (y_extractN (Zv rfl) (.zero _ _)) (Zy (y_extractN (Zv rfl) (.succ _ (.zero _ _))) (Zg rfl (Zg rfl (Zn (Zt (Zs (Zr (Zy (y_field 0 rfl (Zv rfl) Zf) ?_)))))))))
  refine Zz rfl ?_
  refine Zy (y_eql (Zv rfl) (Zv rfl) rfl) (Zm rfl (Zyy rfl rfl (y_move (Zv rfl)) ?_))
  refine Zyy rfl rfl (y_not (ev_g rfl) rfl) ?_
  refine Zy (y_and (Zv rfl) (pk_yes rfl (fun _ => rfl))) (Zn (Zt ?_))
  refine wc_cond _ rfl (fun hc6 => ?_) (fun hc6 => ?_)
  · refine Zs (Zr (Zg rfl (Zn (Zt (Ze (Zw (ret1 (cs' := []) (.inl rfl) Zu rfl rfl ?_)))))))
    refine ⟨?_, rfl⟩
    simp only [needOf, *, cond_true, cond_false]
  refine Zc (Zt (Zs (Zs (Zr (wl_loadRow Zh (fun _ => rfl) (fun _ => rfl) (Zv rfl) rfl ?_)))))
  refine Zy (y_field 1 rfl (Zv rfl) Zf) ?_
  refine Zz rfl ?_
  refine Zy (y_conv rfl rfl (Zv rfl) Zl) ?_
  refine wl_t (t_call rfl (fun _ _ => rfl) (fun w hi => HE w (h.oldN hi))) rfl ?_
  rintro _ _ ⟨_, ⟨A1, c1, A2, c2, rfl, rfl⟩, rfl⟩
  refine Zm rfl (Zy (y_extractN (Zv rfl) (.zero _ _)) (Zy (y_extractN (Zv rfl) (.succ _ (.zero _ _))) (wl_t (t_alloc (fun _ => rfl) rfl) rfl ?_)))
  rintro _ _ ⟨b7, rfl, rfl⟩
  refine wl_t0 (t_storeN (fun _ => rfl) rfl rfl (allT rfl) Za (by exact rfl)) ?_
  rintro _ _ ⟨rfl, rfl⟩
  refine Zg rfl (Zn (Zt (Zs (Zr (Zy (y_field 0 rfl (Zv rfl) Zf) ?_)))))
  refine Zz rfl ?_
  refine Zy (y_eql (Zv rfl) (Zv rfl) rfl) (Zm rfl (Zyy rfl rfl (y_move (Zv rfl)) ?_))
  refine Zyy rfl rfl (y_not (ev_g rfl) rfl) ?_
  refine Zy (y_and (Zv rfl) (pk_yes rfl (fun _ => rfl))) (Zn (Zt ?_))
  refine wc_cond _ rfl (fun hc9 => ?_) (fun hc9 => ?_)
  · refine Zs (Zr (Zg rfl (Zn (Zt (Ze (Zw (ret1 (cs' := []) (.inl rfl) Zu rfl rfl ?_)))))))
    refine ⟨?_, rfl⟩
    simp only [needOf, *, cond_true, cond_false]
  refine Zc (Zt (Zs (Zr (Zy (y_field 0 rfl (Zv rfl) Zf) ?_))))
  refine Zz rfl ?_
  refine wl_t (t_call rfl (fun _ _ => rfl) (fun w hi => HN w)) rfl ?_
  rintro _ _ ⟨_, ⟨rfl, rfl⟩, rfl⟩
  refine Zm rfl (Zy (y_extractN (Zv rfl) (.zero _ _)) (Zy (y_extractN (Zv rfl) (.succ _ (.zero _ _))) (Zy (y_extractN (Zv rfl) (.succ _ (.succ _ (.zero _ _)))) ?_)))
  refine Zy (y_extractN (Zv rfl) (.succ _ (.succ _ (.succ _ (.zero _ _))))) ?_
  refine Zg rfl (Zg rfl (Zg rfl (Zg rfl (Zn (Zt (Zs (Zx (Zs (Zr (Zy (y_field 1 rfl (Zv rfl) Zf) ?_))))))))))
  refine Zz rfl ?_
  refine Zy (y_len ⟨_, rfl⟩ (Zv rfl)) ?_
  refine Zm rfl (Zy (y_lss (Zv rfl) (Zv rfl) rfl) (Zm rfl (Zyn rfl rfl (y_field 2 rfl (Zv rfl) Zf) ?_)))
  refine wl_yg (guard_no rfl rfl) (y_load (fun _ => rfl) (ev_g rfl)) (row_cell Zh rfl) rfl ?_
  refine Zyn rfl rfl (y_len ⟨_, rfl⟩ (ev_g rfl)) ?_
  refine Zyn rfl rfl (y_move (Zv rfl)) ?_
  refine Zyn rfl rfl (y_lss (ev_g rfl) (ev_g rfl) rfl) ?_
  refine Zy (y_or (Zv rfl) (pk_no rfl (fun _ => rfl))) (Zg rfl (Zn (Zt ?_)))
  refine wc_cond _ rfl (fun hc12 => ?_) (fun hc12 => ?_)
  · refine Zs (Zr (Zg rfl (Zn (Zt (Ze (Zq (Zw (ret1 (cs' := []) (.inl rfl) Zu rfl rfl ?_))))))))
    refine ⟨?_, rfl⟩
    simp only [needOf, *, cond_true, cond_false]
  refine Zs (Zr (Zy (y_field 1 rfl (Zv rfl) Zf) ?_))
  refine Zz rfl ?_
  refine Zy (y_len ⟨_, rfl⟩ (Zv rfl)) ?_
  refine Zm rfl (Zy (y_sub (Zv rfl) (Zv rfl) Zl) ?_)
  refine Zm rfl (Zy (y_add (Zv rfl) (Zv rfl) Zl) ?_)
  refine Zy (y_gtr (Zv rfl) (Zv rfl) rfl) (Zm rfl (Zyn rfl rfl (y_field 2 rfl (Zv rfl) Zf) ?_))
  refine wl_yg (guard_no rfl rfl) (y_load (fun _ => rfl) (ev_g rfl)) (row_cell Zh rfl) rfl ?_
  refine Zyn rfl rfl (y_len ⟨_, rfl⟩ (ev_g rfl)) ?_
  refine Zyn rfl rfl (y_move (Zv rfl)) ?_
  refine Zyn rfl rfl (y_sub (ev_g rfl) (ev_g rfl) Zl) ?_
  refine Zyn rfl rfl (y_move (Zv rfl)) ?_
  refine Zyn rfl rfl (y_add (ev_g rfl) (ev_g rfl) Zl) ?_
  refine Zyn rfl rfl (y_gtr (ev_g rfl) (Zv rfl) rfl) ?_
  refine Zy (y_or (Zv rfl) (pk_no rfl (fun _ => rfl))) (Zg rfl (Zn (Zt ?_)))
  refine wc_cond _ rfl (fun hc14 => ?_) (fun hc14 => ?_)
  · refine Zs (Zr (Zg rfl (Zn (Zt (Ze (Zq (Zw (ret1 (cs' := []) (.inl rfl) Zu rfl rfl ?_))))))))
    refine ⟨?_, rfl⟩
    simp only [needOf, *, cond_true, cond_false]
  refine Zc (Zo (Zt (Zs (Zr (Zg rfl (Zn (Zt (Ze (ret1 (cs' := []) (.inl rfl) Zu rfl rfl ?_)))))))))
  refine ⟨?_, rfl⟩
  simp only [needOf, *, cond_true, cond_false]
end Go.Proofs.YtobjiljkfmcalaaGreat
