/- Trap, Return, New, Get, Set, Right. -/
import Derived.Test.YtobjiljkfmcalaaGreatStB
import Derived.Test.YtobjiljkfmcalaaGreatInkS
set_option linter.unusedSimpArgs false
set_option linter.unusedVariables false
set_option maxRecDepth 100000
namespace Go.Proofs.YtobjiljkfmcalaaGreat
open Go.RowKit Go.Ink

theorem trap_ok (s : St) (Ad Ar : Option Addr) (cd cr : Nat) (cause addr : Int) (w : World) (h : RdSt w s Ad Ar cd cr) : Ctr Tryz.prog 43 [sv s Ad cd Ar cr, .int .i64 cause, .int .u32 addr] w [] (OwnSt (s.trap cause addr)) := by
  refine fn_ctr Tryz.func43 rfl Tryz.ntmps43 rfl (Inv.start w) ?_
  refine Zs (Zr (wl_t (t_box rfl rfl) rfl ?_))
  rintro _ _ ⟨b3, rfl, rfl⟩
  refine wl_t (t_alloc (fun _ => rfl) rfl) rfl ?_
  rintro _ _ ⟨b6, rfl, rfl⟩
  refine Zn (Zt (Zs (Zr (wl_loadRow Zh (fun _ => rfl) (fun _ => rfl) (Zv rfl) rfl ?_))))
  refine wl_t (t_call rfl (fun _ _ => rfl) (fun w hi => copy_ok s Ad Ar cd cr w (h.oldN hi))) rfl ?_
  rintro _ _ ⟨_, ⟨A1, c1, A2, c2, rfl, rfl⟩, rfl⟩
  refine wl_t0 (t_storeN (fun _ => rfl) rfl rfl (allT rfl) Za (by exact rfl)) ?_
  rintro _ _ ⟨rfl, rfl⟩
  refine Zn (Zt (Zs (Zr (Zy (y_field 0 rfl (Zv rfl) Zf) ?_))))
  refine Zz rfl ?_
  refine Zm rfl (Zy (y_conv rfl rfl (Zv rfl) rfl) ?_)
  refine Zm rfl (Zy (y_field 4 rfl (Zv rfl) Zf) ?_)
  refine Zz rfl ?_
  refine Zy (y_field 6 rfl (Zv rfl) Zf) ?_
  refine Zz rfl ?_
  refine Zy (y_field 9 rfl (Zv rfl) Zf) ?_
  refine wl_t0 (t_store (fun _ => rfl) rfl rfl rfl Za Zp) ?_
  rintro _ _ ⟨rfl, rfl⟩
  refine Zy (y_field 10 rfl (Zv rfl) Zf) ?_
  refine wl_t0 (t_store (fun _ => rfl) rfl rfl rfl Za Zp) ?_
  rintro _ _ ⟨rfl, rfl⟩
  refine Zy (y_field 11 rfl (Zv rfl) Zf) ?_
  refine wl_t0 (t_store (fun _ => rfl) rfl rfl rfl Za Zp) ?_
  rintro _ _ ⟨rfl, rfl⟩
  refine Zy (y_field 12 rfl (Zv rfl) Zf) ?_
  refine wl_t0 (t_store (fun _ => rfl) rfl rfl rfl Za Zp) ?_
  rintro _ _ ⟨rfl, rfl⟩
  refine Zy (y_field 13 rfl (Zv rfl) Zf) ?_
  refine wl_t0 (t_store (fun _ => rfl) rfl rfl rfl Za Zp) ?_
  rintro _ _ ⟨rfl, rfl⟩
  refine Zn (Zt (Zs (Zr (Zy (y_field 8 rfl (Zv rfl) Zf) ?_))))
  refine Zz rfl ?_
  refine Zy (y_field 4 rfl (Zv rfl) Zf) ?_
  refine wl_t0 (t_store (fun _ => rfl) rfl rfl rfl Za Zp) ?_
  rintro _ _ ⟨rfl, rfl⟩
  refine Zy (y_field 6 rfl (Zv rfl) Zf) ?_
  refine wl_t0 (t_store (fun _ => rfl) rfl rfl rfl Za Zp) ?_
  rintro _ _ ⟨rfl, rfl⟩
  refine Zy (y_field 0 rfl (Zv rfl) Zf) ?_
  refine wl_t0 (t_store (fun _ => rfl) rfl rfl rfl Za Zp) ?_
  rintro _ _ ⟨rfl, rfl⟩
  refine Zn (Zt (Zs (Zr (wl_loadRow Zh (fun _ => rfl) (fun _ => rfl) (Zv rfl) rfl ?_))))
  refine wl_t0 (t_storeN (fun _ => rfl) rfl rfl (allT rfl) Za (by exact rfl)) ?_
  rintro _ _ ⟨rfl, rfl⟩
  refine Zn (Zt (Ze (retC (cs' := [slv _ _ _ _ _ _, slv _ _ _ _ _ _]) (.inl rfl) Zu rfl rfl Zh (fun _ => rfl) (fun _ => rfl) ?_)))
  exact ⟨_, _, _, _, rfl, rfl⟩
theorem return_ok (s : St) (Ad Ar : Option Addr) (cd cr : Nat) (w : World) (h : RdSt w s Ad Ar cd cr) : Ctr Tryz.prog 88 [sv s Ad cd Ar cr] w [] (OwnSt s.back) := by
  refine fn_ctr Tryz.func88 rfl Tryz.ntmps88 rfl (Inv.start w) ?_
  refine Zs (Zr (wl_t (t_box rfl rfl) rfl ?_))
  rintro _ _ ⟨b1, rfl, rfl⟩
  refine wl_t (t_alloc (fun _ => rfl) rfl) rfl ?_
  rintro _ _ ⟨b2, rfl, rfl⟩
  refine Zn (Zt (Zs (Zr (wl_loadRow Zh (fun _ => rfl) (fun _ => rfl) (Zv rfl) rfl ?_))))
  refine wl_t (t_call rfl (fun _ _ => rfl) (fun w hi => copy_ok s Ad Ar cd cr w (h.oldN hi))) rfl ?_
  rintro _ _ ⟨_, ⟨A1, c1, A2, c2, rfl, rfl⟩, rfl⟩
  refine wl_t0 (t_storeN (fun _ => rfl) rfl rfl (allT rfl) Za (by exact rfl)) ?_
  rintro _ _ ⟨rfl, rfl⟩
  refine Zn (Zt (Zs (Zr (Zy (y_field 9 rfl (Zv rfl) Zf) ?_))))
  refine Zz rfl ?_
  refine Zy (y_field 12 rfl (Zv rfl) Zf) ?_
  refine Zz rfl ?_
  refine Zy (y_field 13 rfl (Zv rfl) Zf) ?_
  refine Zz rfl ?_
  refine Zy (y_field 0 rfl (Zv rfl) Zf) ?_
  refine wl_t0 (t_store (fun _ => rfl) rfl rfl rfl Za Zp) ?_
  rintro _ _ ⟨rfl, rfl⟩
  refine Zy (y_field 4 rfl (Zv rfl) Zf) ?_
  refine wl_t0 (t_store (fun _ => rfl) rfl rfl rfl Za Zp) ?_
  rintro _ _ ⟨rfl, rfl⟩
  refine Zy (y_field 6 rfl (Zv rfl) Zf) ?_
  refine wl_t0 (t_store (fun _ => rfl) rfl rfl rfl Za Zp) ?_
  rintro _ _ ⟨rfl, rfl⟩
  refine Zn (Zt (Zs (Zr (wl_loadRow Zh (fun _ => rfl) (fun _ => rfl) (Zv rfl) rfl ?_))))
  refine wl_t0 (t_storeN (fun _ => rfl) rfl rfl (allT rfl) Za (by exact rfl)) ?_
  rintro _ _ ⟨rfl, rfl⟩
  refine Zn (Zt (Ze (retC (cs' := [slv _ _ _ _ _ _, slv _ _ _ _ _ _]) (.inl rfl) Zu rfl rfl Zh (fun _ => rfl) (fun _ => rfl) ?_)))
  exact ⟨_, _, _, _, rfl, rfl⟩
theorem get_ok (s : St) (dv rv : Value) (reg : Int) (w : World) : Ctr Tryz.prog 51 [.agg (s.cells dv rv).toArray, .int .i64 reg] w [] (fun v cs => v = .tuple #[.int .u32 (s.get reg).1, .bool (s.get reg).2] ∧ cs = []) := by
  refine fn_ctr Tryz.func51 rfl Tryz.ntmps51 rfl (Inv.start w) ?_
  refine Zs (Zr (wl_t (t_box rfl rfl) rfl ?_))
  rintro _ _ ⟨b2, rfl, rfl⟩
  refine Zg rfl (Zg rfl (Zn (Zt (Zs (Zs (Zr (Zm rfl (Zn (Zt (Zx (Zs (Zr (Zy (y_eql (Zv rfl) (Zv rfl) rfl) (Zg rfl (Zn (Zt ?_))))))))))))))))
  refine wc_cond _ rfl (fun hc2 => ?_) (fun hc2 => ?_)
  · refine Zs (Zr (Zy (y_field 6 rfl (Zv rfl) Zf) ?_))
    refine Zz rfl ?_
    refine wl_t (t_call rfl (fun _ _ => rfl) (fun w hi => number_ok _ w)) rfl ?_
    rintro _ _ ⟨_, ⟨rfl, rfl⟩, rfl⟩
    refine Zg rfl (Zg rfl (Zn (Zt (Ze (Zq (Zw (ret2 (cs' := []) (.inl rfl) Zu rfl rfl rfl ?_)))))))
    refine ⟨?_, rfl⟩
    simp only [St.get, *, cond_true, cond_false]
  refine Zs (Zr (Zy (y_eql (Zv rfl) (Zv rfl) rfl) (Zg rfl (Zn (Zt ?_)))))
  refine wc_cond _ rfl (fun hc4 => ?_) (fun hc4 => ?_)
  · refine Zs (Zr (Zy (y_field 5 rfl (Zv rfl) Zf) ?_))
    refine Zz rfl ?_
    refine wl_t (t_call rfl (fun _ _ => rfl) (fun w hi => number_ok _ w)) rfl ?_
    rintro _ _ ⟨_, ⟨rfl, rfl⟩, rfl⟩
    refine Zg rfl (Zg rfl (Zn (Zt (Ze (Zq (Zw (ret2 (cs' := []) (.inl rfl) Zu rfl rfl rfl ?_)))))))
    refine ⟨?_, rfl⟩
    simp only [St.get, *, cond_true, cond_false]
  refine Zs (Zr (Zy (y_eql (Zv rfl) (Zv rfl) rfl) (Zg rfl (Zn (Zt ?_)))))
  refine wc_cond _ rfl (fun hc6 => ?_) (fun hc6 => ?_)
  · refine Zs (Zr (Zy (y_field 7 rfl (Zv rfl) Zf) ?_))
    refine Zz rfl ?_
    refine Zg rfl (Zg rfl (Zn (Zt (Ze (Zq (Zw (ret2 (cs' := []) (.inl rfl) Zu rfl rfl rfl ?_)))))))
    refine ⟨?_, rfl⟩
    simp only [St.get, *, cond_true, cond_false]
  refine Zs (Zr (Zy (y_eql (Zv rfl) (Zv rfl) rfl) (Zg rfl (Zn (Zt ?_)))))
  refine wc_cond _ rfl (fun hc8 => ?_) (fun hc8 => ?_)
  · refine Zs (Zr (Zy (y_field 8 rfl (Zv rfl) Zf) ?_))
    refine Zz rfl ?_
    refine Zg rfl (Zg rfl (Zn (Zt (Ze (Zq (Zw (ret2 (cs' := []) (.inl rfl) Zu rfl rfl rfl ?_)))))))
    refine ⟨?_, rfl⟩
    simp only [St.get, *, cond_true, cond_false]
  refine Zs (Zr (Zy (y_eql (Zv rfl) (Zv rfl) rfl) (Zg rfl (Zn (Zt ?_)))))
  refine wc_cond _ rfl (fun hc10 => ?_) (fun hc10 => ?_)
  · refine Zs (Zr (Zy (y_field 9 rfl (Zv rfl) Zf) ?_))
    refine Zz rfl ?_
    refine Zg rfl (Zg rfl (Zn (Zt (Ze (Zq (Zw (ret2 (cs' := []) (.inl rfl) Zu rfl rfl rfl ?_)))))))
    refine ⟨?_, rfl⟩
    simp only [St.get, *, cond_true, cond_false]
  refine Zs (Zr (Zy (y_eql (Zv rfl) (Zv rfl) rfl) (Zg rfl (Zn (Zt ?_)))))
  refine wc_cond _ rfl (fun hc12 => ?_) (fun hc12 => ?_)
  · refine Zs (Zr (Zy (y_field 10 rfl (Zv rfl) Zf) ?_))
    refine Zz rfl ?_
    refine Zg rfl (Zg rfl (Zn (Zt (Ze (Zq (Zw (ret2 (cs' := []) (.inl rfl) Zu rfl rfl rfl ?_)))))))
    refine ⟨?_, rfl⟩
    simp only [St.get, *, cond_true, cond_false]
  refine Zs (Zr (Zy (y_eql (Zv rfl) (Zv rfl) rfl) (Zg rfl (Zn (Zt ?_)))))
  refine wc_cond _ rfl (fun hc14 => ?_) (fun hc14 => ?_)
  · refine Zs (Zr (Zy (y_field 11 rfl (Zv rfl) Zf) ?_))
    refine Zz rfl ?_
    refine Zg rfl (Zg rfl (Zn (Zt (Ze (Zq (Zw (ret2 (cs' := []) (.inl rfl) Zu rfl rfl rfl ?_)))))))
    refine ⟨?_, rfl⟩
    simp only [St.get, *, cond_true, cond_false]
  refine Zs (Zr (Zy (y_eql (Zv rfl) (Zv rfl) rfl) (Zg rfl (Zn (Zt ?_)))))
  refine wc_cond _ rfl (fun hc16 => ?_) (fun hc16 => ?_)
  · refine Zs (Zr (Zy (y_field 12 rfl (Zv rfl) Zf) ?_))
    refine Zz rfl ?_
    refine wl_t (t_call rfl (fun _ _ => rfl) (fun w hi => number_ok _ w)) rfl ?_
    rintro _ _ ⟨_, ⟨rfl, rfl⟩, rfl⟩
    refine Zg rfl (Zg rfl (Zn (Zt (Ze (Zq (Zw (ret2 (cs' := []) (.inl rfl) Zu rfl rfl rfl ?_)))))))
    refine ⟨?_, rfl⟩
    simp only [St.get, *, cond_true, cond_false]
  refine Zs (Zr (Zy (y_eql (Zv rfl) (Zv rfl) rfl) (Zg rfl (Zn (Zt ?_)))))
  refine wc_cond _ rfl (fun hc18 => ?_) (fun hc18 => ?_)
  · refine Zs (Zr (Zy (y_field 13 rfl (Zv rfl) Zf) ?_))
    refine Zz rfl ?_
    refine wl_t (t_call rfl (fun _ _ => rfl) (fun w hi => number_ok _ w)) rfl ?_
    rintro _ _ ⟨_, ⟨rfl, rfl⟩, rfl⟩
    refine Zg rfl (Zg rfl (Zn (Zt (Ze (Zq (Zw (ret2 (cs' := []) (.inl rfl) Zu rfl rfl rfl ?_)))))))
    refine ⟨?_, rfl⟩
    simp only [St.get, *, cond_true, cond_false]
  refine Zs (Zr (Zy (y_eql (Zv rfl) (Zv rfl) rfl) (Zg rfl (Zn (Zt ?_)))))
  refine wc_cond _ rfl (fun hc20 => ?_) (fun hc20 => ?_)
  · refine Zs (Zr (Zy (y_field 14 rfl (Zv rfl) Zf) ?_))
    refine Zz rfl ?_
    refine Zy (y_conv rfl rfl (Zv rfl) rfl) ?_
    refine Zg rfl (Zg rfl (Zn (Zt (Ze (Zq (Zw (ret2 (cs' := []) (.inl rfl) Zu rfl rfl rfl ?_)))))))
    refine ⟨?_, rfl⟩
    simp only [St.get, *, cond_true, cond_false]
  refine Zs (Zr (Zy (y_eql (Zv rfl) (Zv rfl) rfl) (Zg rfl (Zn (Zt ?_)))))
  refine wc_cond _ rfl (fun hc22 => ?_) (fun hc22 => ?_)
  · refine Zs (Zr (Zy (y_field 3 rfl (Zv rfl) Zf) ?_))
    refine Zz rfl ?_
    refine Zg rfl (Zg rfl (Zn (Zt (Ze (Zq (Zw (ret2 (cs' := []) (.inl rfl) Zu rfl rfl rfl ?_)))))))
    refine ⟨?_, rfl⟩
    simp only [St.get, *, cond_true, cond_false]
  refine Zc (Zo (Zt (Zs (Zr (Zg rfl (Zg rfl (Zn (Zt (Ze (ret2 (cs' := []) (.inl rfl) Zu rfl rfl rfl ?_))))))))))
  refine ⟨?_, rfl⟩
  simp only [St.get, *, cond_true, cond_false]
theorem set_ok (s : St) (Ad Ar : Option Addr) (cd cr : Nat) (reg v : Int) (w : World) (h : RdSt w s Ad Ar cd cr) : Ctr Tryz.prog 52 [sv s Ad cd Ar cr, .int .i64 reg, .int .u32 v] w []
    (fun x cs => ∃ Ad' cd' Ar' cr', x = .tuple #[sv (s.set reg v).1 Ad' cd' Ar' cr', .bool (s.set reg v).2] ∧ cs = [slD s Ad' cd', slR s Ar' cr']) := by
  refine fn_ctr Tryz.func52 rfl Tryz.ntmps52 rfl (Inv.start w) ?_
  refine Zs (Zr (wl_t (t_box rfl rfl) rfl ?_))
  rintro _ _ ⟨b3, rfl, rfl⟩
  refine wl_t (t_alloc (fun _ => rfl) rfl) rfl ?_
  rintro _ _ ⟨b6, rfl, rfl⟩
  refine Zg rfl (Zn (Zt (Zs (Zr (wl_loadRow Zh (fun _ => rfl) (fun _ => rfl) (Zv rfl) rfl ?_)))))
  refine wl_t (t_call rfl (fun _ _ => rfl) (fun w hi => copy_ok s Ad Ar cd cr w (h.oldN hi))) rfl ?_
  rintro _ _ ⟨_, ⟨A1, c1, A2, c2, rfl, rfl⟩, rfl⟩
  refine wl_t0 (t_storeN (fun _ => rfl) rfl rfl (allT rfl) Za (by exact rfl)) ?_
  rintro _ _ ⟨rfl, rfl⟩
  refine Zn (Zt (Zs (Zs (Zr (Zm rfl (Zn (Zt (Zx (Zs (Zr (Zy (y_eql (Zv rfl) (Zv rfl) rfl) (Zg rfl (Zn (Zt ?_))))))))))))))
  refine wc_cond _ rfl (fun hc4 => ?_) (fun hc4 => ?_)
  · refine Zr (Zm rfl (Zy (y_neq (Zv rfl) (Zv rfl) rfl) (Zy (y_field 6 rfl (Zv rfl) Zf) ?_)))
    refine wl_t0 (t_store (fun _ => rfl) rfl rfl rfl Za Zp) ?_
    rintro _ _ ⟨rfl, rfl⟩
    refine Zn (Zo (Zt (Zs (Zr (wl_loadRow Zh (fun _ => rfl) (fun _ => rfl) (Zv rfl) rfl ?_)))))
    refine wl_t0 (t_storeN (fun _ => rfl) rfl rfl (allT rfl) Za (by exact rfl)) ?_
    rintro _ _ ⟨rfl, rfl⟩
    refine Zg rfl (Zn (Zt (Ze (retC1 (cs' := [slv _ _ _ _ _ _, slv _ _ _ _ _ _]) (.inl rfl) Zu rfl rfl rfl Zh (fun _ => rfl) (fun _ => rfl) ?_))))
    refine ⟨A1, c1, A2, c2, ?_, rfl⟩
    clear h
    simp only [St.set, *, cond_true, cond_false]
  refine Zs (Zr (Zy (y_eql (Zv rfl) (Zv rfl) rfl) (Zg rfl (Zn (Zt ?_)))))
  refine wc_cond _ rfl (fun hc6 => ?_) (fun hc6 => ?_)
  · refine Zr (Zm rfl (Zy (y_neq (Zv rfl) (Zv rfl) rfl) (Zy (y_field 5 rfl (Zv rfl) Zf) ?_)))
    refine wl_t0 (t_store (fun _ => rfl) rfl rfl rfl Za Zp) ?_
    rintro _ _ ⟨rfl, rfl⟩
    refine Zn (Zo (Zt (Zs (Zr (wl_loadRow Zh (fun _ => rfl) (fun _ => rfl) (Zv rfl) rfl ?_)))))
    refine wl_t0 (t_storeN (fun _ => rfl) rfl rfl (allT rfl) Za (by exact rfl)) ?_
    rintro _ _ ⟨rfl, rfl⟩
    refine Zg rfl (Zn (Zt (Ze (retC1 (cs' := [slv _ _ _ _ _ _, slv _ _ _ _ _ _]) (.inl rfl) Zu rfl rfl rfl Zh (fun _ => rfl) (fun _ => rfl) ?_))))
    refine ⟨A1, c1, A2, c2, ?_, rfl⟩
    clear h
    simp only [St.set, *, cond_true, cond_false]
  refine Zs (Zr (Zy (y_eql (Zv rfl) (Zv rfl) rfl) (Zg rfl (Zn (Zt ?_)))))
  refine wc_cond _ rfl (fun hc8 => ?_) (fun hc8 => ?_)
  · refine Zr (Zm rfl (Zy (y_andNot (Zv rfl) (Zv rfl) rfl) ?_))
    refine Zy (y_field 7 rfl (Zv rfl) Zf) ?_
    refine wl_t0 (t_store (fun _ => rfl) rfl rfl rfl Za Zp) ?_
    rintro _ _ ⟨rfl, rfl⟩
    refine Zn (Zo (Zt (Zs (Zr (wl_loadRow Zh (fun _ => rfl) (fun _ => rfl) (Zv rfl) rfl ?_)))))
    refine wl_t0 (t_storeN (fun _ => rfl) rfl rfl (allT rfl) Za (by exact rfl)) ?_
    rintro _ _ ⟨rfl, rfl⟩
    refine Zg rfl (Zn (Zt (Ze (retC1 (cs' := [slv _ _ _ _ _ _, slv _ _ _ _ _ _]) (.inl rfl) Zu rfl rfl rfl Zh (fun _ => rfl) (fun _ => rfl) ?_))))
    refine ⟨A1, c1, A2, c2, ?_, rfl⟩
    clear h
    simp only [St.set, *, cond_true, cond_false]
  refine Zs (Zr (Zy (y_eql (Zv rfl) (Zv rfl) rfl) (Zg rfl (Zn (Zt ?_)))))
  refine wc_cond _ rfl (fun hc10 => ?_) (fun hc10 => ?_)
  · refine Zr (Zm rfl (Zy (y_field 8 rfl (Zv rfl) Zf) ?_))
    refine wl_t0 (t_store (fun _ => rfl) rfl rfl rfl Za Zp) ?_
    rintro _ _ ⟨rfl, rfl⟩
    refine Zn (Zo (Zt (Zs (Zr (wl_loadRow Zh (fun _ => rfl) (fun _ => rfl) (Zv rfl) rfl ?_)))))
    refine wl_t0 (t_storeN (fun _ => rfl) rfl rfl (allT rfl) Za (by exact rfl)) ?_
    rintro _ _ ⟨rfl, rfl⟩
    refine Zg rfl (Zn (Zt (Ze (retC1 (cs' := [slv _ _ _ _ _ _, slv _ _ _ _ _ _]) (.inl rfl) Zu rfl rfl rfl Zh (fun _ => rfl) (fun _ => rfl) ?_))))
    refine ⟨A1, c1, A2, c2, ?_, rfl⟩
    clear h
    simp only [St.set, *, cond_true, cond_false]
  refine Zs (Zr (Zy (y_eql (Zv rfl) (Zv rfl) rfl) (Zg rfl (Zn (Zt ?_)))))
  refine wc_cond _ rfl (fun hc12 => ?_) (fun hc12 => ?_)
  · refine Zr (Zm rfl (Zy (y_field 9 rfl (Zv rfl) Zf) ?_))
    refine wl_t0 (t_store (fun _ => rfl) rfl rfl rfl Za Zp) ?_
    rintro _ _ ⟨rfl, rfl⟩
    refine Zn (Zo (Zt (Zs (Zr (wl_loadRow Zh (fun _ => rfl) (fun _ => rfl) (Zv rfl) rfl ?_)))))
    refine wl_t0 (t_storeN (fun _ => rfl) rfl rfl (allT rfl) Za (by exact rfl)) ?_
    rintro _ _ ⟨rfl, rfl⟩
    refine Zg rfl (Zn (Zt (Ze (retC1 (cs' := [slv _ _ _ _ _ _, slv _ _ _ _ _ _]) (.inl rfl) Zu rfl rfl rfl Zh (fun _ => rfl) (fun _ => rfl) ?_))))
    refine ⟨A1, c1, A2, c2, ?_, rfl⟩
    clear h
    simp only [St.set, *, cond_true, cond_false]
  refine Zs (Zr (Zy (y_eql (Zv rfl) (Zv rfl) rfl) (Zg rfl (Zn (Zt ?_)))))
  refine wc_cond _ rfl (fun hc14 => ?_) (fun hc14 => ?_)
  · refine Zr (Zm rfl (Zy (y_field 10 rfl (Zv rfl) Zf) ?_))
    refine wl_t0 (t_store (fun _ => rfl) rfl rfl rfl Za Zp) ?_
    rintro _ _ ⟨rfl, rfl⟩
    refine Zn (Zo (Zt (Zs (Zr (wl_loadRow Zh (fun _ => rfl) (fun _ => rfl) (Zv rfl) rfl ?_)))))
    refine wl_t0 (t_storeN (fun _ => rfl) rfl rfl (allT rfl) Za (by exact rfl)) ?_
    rintro _ _ ⟨rfl, rfl⟩
    refine Zg rfl (Zn (Zt (Ze (retC1 (cs' := [slv _ _ _ _ _ _, slv _ _ _ _ _ _]) (.inl rfl) Zu rfl rfl rfl Zh (fun _ => rfl) (fun _ => rfl) ?_))))
    refine ⟨A1, c1, A2, c2, ?_, rfl⟩
    clear h
    simp only [St.set, *, cond_true, cond_false]
  refine Zs (Zr (Zy (y_eql (Zv rfl) (Zv rfl) rfl) (Zg rfl (Zn (Zt ?_)))))
  refine wc_cond _ rfl (fun hc16 => ?_) (fun hc16 => ?_)
  · refine Zr (Zm rfl (Zy (y_field 11 rfl (Zv rfl) Zf) ?_))
    refine wl_t0 (t_store (fun _ => rfl) rfl rfl rfl Za Zp) ?_
    rintro _ _ ⟨rfl, rfl⟩
    refine Zn (Zo (Zt (Zs (Zr (wl_loadRow Zh (fun _ => rfl) (fun _ => rfl) (Zv rfl) rfl ?_)))))
    refine wl_t0 (t_storeN (fun _ => rfl) rfl rfl (allT rfl) Za (by exact rfl)) ?_
    rintro _ _ ⟨rfl, rfl⟩
    refine Zg rfl (Zn (Zt (Ze (retC1 (cs' := [slv _ _ _ _ _ _, slv _ _ _ _ _ _]) (.inl rfl) Zu rfl rfl rfl Zh (fun _ => rfl) (fun _ => rfl) ?_))))
    refine ⟨A1, c1, A2, c2, ?_, rfl⟩
    clear h
    simp only [St.set, *, cond_true, cond_false]
  refine Zs (Zr (Zy (y_eql (Zv rfl) (Zv rfl) rfl) (Zg rfl (Zn (Zt ?_)))))
  refine wc_cond _ rfl (fun hc18 => ?_) (fun hc18 => ?_)
  · refine Zr (Zm rfl (Zy (y_neq (Zv rfl) (Zv rfl) rfl) (Zy (y_field 12 rfl (Zv rfl) Zf) ?_)))
    refine wl_t0 (t_store (fun _ => rfl) rfl rfl rfl Za Zp) ?_
    rintro _ _ ⟨rfl, rfl⟩
    refine Zn (Zo (Zt (Zs (Zr (wl_loadRow Zh (fun _ => rfl) (fun _ => rfl) (Zv rfl) rfl ?_)))))
    refine wl_t0 (t_storeN (fun _ => rfl) rfl rfl (allT rfl) Za (by exact rfl)) ?_
    rintro _ _ ⟨rfl, rfl⟩
    refine Zg rfl (Zn (Zt (Ze (retC1 (cs' := [slv _ _ _ _ _ _, slv _ _ _ _ _ _]) (.inl rfl) Zu rfl rfl rfl Zh (fun _ => rfl) (fun _ => rfl) ?_))))
    refine ⟨A1, c1, A2, c2, ?_, rfl⟩
    clear h
    simp only [St.set, *, cond_true, cond_false]
  refine Zs (Zr (Zy (y_eql (Zv rfl) (Zv rfl) rfl) (Zg rfl (Zn (Zt ?_)))))
  refine wc_cond _ rfl (fun hc20 => ?_) (fun hc20 => ?_)
  · refine Zr (Zm rfl (Zy (y_neq (Zv rfl) (Zv rfl) rfl) (Zy (y_field 13 rfl (Zv rfl) Zf) ?_)))
    refine wl_t0 (t_store (fun _ => rfl) rfl rfl rfl Za Zp) ?_
    rintro _ _ ⟨rfl, rfl⟩
    refine Zn (Zo (Zt (Zs (Zr (wl_loadRow Zh (fun _ => rfl) (fun _ => rfl) (Zv rfl) rfl ?_)))))
    refine wl_t0 (t_storeN (fun _ => rfl) rfl rfl (allT rfl) Za (by exact rfl)) ?_
    rintro _ _ ⟨rfl, rfl⟩
    refine Zg rfl (Zn (Zt (Ze (retC1 (cs' := [slv _ _ _ _ _ _, slv _ _ _ _ _ _]) (.inl rfl) Zu rfl rfl rfl Zh (fun _ => rfl) (fun _ => rfl) ?_))))
    refine ⟨A1, c1, A2, c2, ?_, rfl⟩
    clear h
    simp only [St.set, *, cond_true, cond_false]
  refine Zs (Zr (Zy (y_eql (Zv rfl) (Zv rfl) rfl) (Zg rfl (Zn (Zt ?_)))))
  refine wc_cond _ rfl (fun hc22 => ?_) (fun hc22 => ?_)
  · refine Zr (Zm rfl (Zy (y_and_ (Zv rfl) (Zv rfl) rfl) ?_))
    refine Zy (y_field 3 rfl (Zv rfl) Zf) ?_
    refine wl_t0 (t_store (fun _ => rfl) rfl rfl rfl Za Zp) ?_
    rintro _ _ ⟨rfl, rfl⟩
    refine Zn (Zo (Zt (Zs (Zr (wl_loadRow Zh (fun _ => rfl) (fun _ => rfl) (Zv rfl) rfl ?_)))))
    refine wl_t0 (t_storeN (fun _ => rfl) rfl rfl (allT rfl) Za (by exact rfl)) ?_
    rintro _ _ ⟨rfl, rfl⟩
    refine Zg rfl (Zn (Zt (Ze (retC1 (cs' := [slv _ _ _ _ _ _, slv _ _ _ _ _ _]) (.inl rfl) Zu rfl rfl rfl Zh (fun _ => rfl) (fun _ => rfl) ?_))))
    refine ⟨A1, c1, A2, c2, ?_, rfl⟩
    clear h
    simp only [St.set, *, cond_true, cond_false]
  refine Zs (Zr (wl_loadRow Zh (fun _ => rfl) (fun _ => rfl) (Zv rfl) rfl ?_))
  refine wl_t0 (t_storeN (fun _ => rfl) rfl rfl (allT rfl) Za (by exact rfl)) ?_
  rintro _ _ ⟨rfl, rfl⟩
  refine Zg rfl (Zn (Zt (Ze (Zq (Zw (retC1 (cs' := [slv _ _ _ _ _ _, slv _ _ _ _ _ _]) (.inl rfl) Zu rfl rfl rfl Zh (fun _ => rfl) (fun _ => rfl) ?_))))))
  refine ⟨A1, c1, A2, c2, ?_, rfl⟩
  clear h
  simp only [St.set, *, cond_true, cond_false]
theorem right_ok (s : St) (Ad Ar : Option Addr) (cd cr : Nat) (w : World) : Ctr Tryz.prog 39 [sv s Ad cd Ar cr] w [] (fun v cs => v = .bool s.right ∧ cs = []) := by
  refine fn_ctr Tryz.func39 rfl Tryz.ntmps39 rfl (Inv.start w) ?_
  refine Zs (Zr (wl_t (t_box rfl rfl) rfl ?_))
  rintro _ _ ⟨b1, rfl, rfl⟩
  refine Zg rfl (Zn (Zt (Zs (Zr (Zy (y_field 1 rfl (Zv rfl) Zf) ?_)))))
  refine Zz rfl ?_
  refine Zy (y_len ⟨_, rfl⟩ (Zv rfl)) ?_
  refine Zy (y_leq (Zv rfl) (Zv rfl) rfl) (Zm rfl (Zyy rfl rfl (y_field 2 rfl (Zv rfl) Zf) ?_))
  refine wl_yg (guard_yes rfl rfl) (y_load (fun _ => rfl) (ev_g rfl)) (row_cell Zh rfl) rfl ?_
  refine Zyy rfl rfl (y_len ⟨_, rfl⟩ (ev_g rfl)) ?_
  refine Zyy rfl rfl (y_leq (ev_g rfl) (Zv rfl) rfl) ?_
  refine Zy (y_and (Zv rfl) (pk_yes rfl (fun _ => rfl))) (Zm rfl (Zyy rfl rfl (y_field 3 rfl (Zv rfl) Zf) ?_))
  refine wl_yg (guard_yes rfl rfl) (y_load (fun _ => rfl) (ev_g rfl)) (row_cell Zh rfl) rfl ?_
  refine Zyy rfl rfl (y_leq (ev_g rfl) (Zv rfl) rfl) ?_
  refine Zy (y_and (Zv rfl) (pk_yes rfl (fun _ => rfl))) (Zg rfl (Zn (Zt (Ze (ret1 (cs' := []) (.inl rfl) Zu rfl rfl ?_)))))
  exact ⟨rfl, rfl⟩
end Go.Proofs.YtobjiljkfmcalaaGreat
