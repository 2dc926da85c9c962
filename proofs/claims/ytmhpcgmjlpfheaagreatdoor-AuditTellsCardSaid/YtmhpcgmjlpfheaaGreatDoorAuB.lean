/- The law AuditTells: views held against one another, frames that are told; what is refused. -/
import Derived.Test.YtmhpcgmjlpfheaaGreatDoorAuA
import Derived.Test.YtmhpcgmjlpfheaaGreatDoorInkA
set_option linter.unusedSimpArgs false
set_option linter.unusedVariables false
set_option maxRecDepth 100000
namespace Go.Proofs.YtmhpcgmjlpfheaaGreatDoor
open Go.RowKit Go.Ink
attribute [local irreducible] OpY GuardIs

theorem kstate_ok (s t : St) (Ad Ar Bd Br : Option Addr) (cd cr ed er : Nat) (w : World) (h : RdSt w s Ad Ar cd cr) (h2 : RdSt w t Bd Br ed er) :
  Ctr Tryz.prog 18 [sv s Ad cd Ar cr, sv t Bd ed Br er] w [] (fun v cs => v = .bool (s.rsame t) ∧ cs = []) := by
 have HS := fun w h h2 => rSame_ok s t Ad Ar Bd Br cd cr ed er w h h2
 refine fn_ctr Tryz.func18 rfl Tryz.ntmps18 rfl (Inv.start w) ?_
 refine Zs (Zr (ZO fun b2 => ?_))
 refine ZO fun b3 => ?_
 refine ZA ?_
 refine Zn (Zt (Zs (Zr (wl_loadRow Zh (fun _ => rfl) (fun _ => rfl) (Zv rfl) rfl ?_))))
 refine wl_loadRow Zh (fun _ => rfl) (fun _ => rfl) (Zv rfl) rfl ?_
 refine wl_callg guard_none (.cons (Zv rfl) (.cons (Zv rfl) .nil)) (fun _ _ => rfl) (fun hg w hi => HS w (h.oldN hi) (h2.oldN hi)) rfl ?_
 refine ZA ?_
 refine Zn (Zt (Ze (ret1 (cs' := []) (.inl rfl) Zu rfl rfl ?_)))
 exact ⟨rfl, rfl⟩
set_option maxHeartbeats 1000000 in
theorem kview_ok (a b : Vw) (Y Z : VAd) (ha : a.wf) (hb : b.wf) (w : World) (h : RdVw w a Y) (h2 : RdVw w b Z) :
  Ctr Tryz.prog 10 [vv a Y, vv b Z] w [] (fun v cs => (∃ r, v = .bool r ∧ (r = true ↔ a = b)) ∧ cs = []) := by
 refine fn_ctr Tryz.func10 rfl Tryz.ntmps10 rfl (Inv.start w) ?_
 refine Zs (Zr (ZO fun b2 => ?_))
 refine ZO fun b3 => ?_
 refine ZA ?_
 refine Zn (Zt (Zs (Zr (ZFa 0 ?_))))
 refine wl_y (y_loadN (vs := a.s.cells (.slice Y.X.Ad a.s.d.length Y.X.cd) (.slice Y.X.Ar a.s.r.length Y.X.cr)) (fun _ => rfl) (fun _ => rfl) (Zv rfl)) (row_cells (o := 0) Zh rfl) rfl ?_
 refine ZFa 0 ?_
 refine wl_y (y_loadN (vs := b.s.cells (.slice Z.X.Ad b.s.d.length Z.X.cd) (.slice Z.X.Ar b.s.r.length Z.X.cr)) (fun _ => rfl) (fun _ => rfl) (Zv rfl)) (row_cells (o := 0) Zh rfl) rfl ?_
 refine ZS (fun w hi => kstate_ok a.s b.s Y.X.Ad Y.X.Ar Z.X.Ad Z.X.Ar Y.X.cd Y.X.cr Z.X.cd Z.X.cr w (h.s.oldN hi) (h2.s.oldN hi)) ?_
 rintro _ _ ⟨_, ⟨rfl, rfl⟩, rfl⟩
 refine ZA ?_
 refine ZFb 16 ?_
 refine ZD ?_
 refine wl_fact (fun w hi => rd_any (h.m.oldN hi)) (fun hrd13 => ?_)
 refine wl_yg (guard_yes rfl rfl) (y_bstr rfl rfl rfl (ev_g rfl) hrd13) (fun w hi => RdV.cellsO (h.m.oldN hi)) rfl ?_
 refine ZFb 16 ?_
 refine ZD ?_
 refine wl_fact (fun w hi => rd_any (h2.m.oldN hi)) (fun hrd16 => ?_)
 refine wl_yg (guard_yes rfl rfl) (y_bstr rfl rfl rfl (ev_g rfl) hrd16) (fun w hi => RdV.cellsO (h2.m.oldN hi)) rfl ?_
 refine Zyy rfl rfl (y_eqlS rfl (ev_g rfl) (ev_g rfl) (strs_beq ha.m hb.m)) ?_
 iterate 2 refine ZA ?_
 refine ZFb 17 ?_
 refine ZD ?_
 refine wl_fact (fun w hi => rd_any (h.o.oldN hi)) (fun hrd22 => ?_)
 refine wl_yg (guard_yes rfl rfl) (y_bstr rfl rfl rfl (ev_g rfl) hrd22) (fun w hi => RdV.cellsO (h.o.oldN hi)) rfl ?_
 refine ZFb 17 ?_
 refine ZD ?_
 refine wl_fact (fun w hi => rd_any (h2.o.oldN hi)) (fun hrd25 => ?_)
 refine wl_yg (guard_yes rfl rfl) (y_bstr rfl rfl rfl (ev_g rfl) hrd25) (fun w hi => RdV.cellsO (h2.o.oldN hi)) rfl ?_
 refine Zyy rfl rfl (y_eqlS rfl (ev_g rfl) (ev_g rfl) (strs_beq ha.o hb.o)) ?_
 iterate 2 refine ZA ?_
 refine ZFb 18 ?_
 refine ZD ?_
 refine wl_fact (fun w hi => rd_any (h.i.oldN hi)) (fun hrd31 => ?_)
 refine wl_yg (guard_yes rfl rfl) (y_bstr rfl rfl rfl (ev_g rfl) hrd31) (fun w hi => RdV.cellsO (h.i.oldN hi)) rfl ?_
 refine ZFb 18 ?_
 refine ZD ?_
 refine wl_fact (fun w hi => rd_any (h2.i.oldN hi)) (fun hrd34 => ?_)
 refine wl_yg (guard_yes rfl rfl) (y_bstr rfl rfl rfl (ev_g rfl) hrd34) (fun w hi => RdV.cellsO (h2.i.oldN hi)) rfl ?_
 refine Zyy rfl rfl (y_eqlS rfl (ev_g rfl) (ev_g rfl) (strs_beq ha.i hb.i)) ?_
 iterate 2 refine ZA ?_
 refine ZFb 19 ?_
 refine ZD ?_
 refine wl_fact (fun w hi => rd_any (h.k.oldN hi)) (fun hrd40 => ?_)
 refine wl_yg (guard_yes rfl rfl) (y_bstr rfl rfl rfl (ev_g rfl) hrd40) (fun w hi => RdV.cellsO (h.k.oldN hi)) rfl ?_
 refine ZFb 19 ?_
 refine ZD ?_
 refine wl_fact (fun w hi => rd_any (h2.k.oldN hi)) (fun hrd43 => ?_)
 refine wl_yg (guard_yes rfl rfl) (y_bstr rfl rfl rfl (ev_g rfl) hrd43) (fun w hi => RdV.cellsO (h2.k.oldN hi)) rfl ?_
 refine Zyy rfl rfl (y_eqlS rfl (ev_g rfl) (ev_g rfl) (strs_beq ha.k hb.k)) ?_
 iterate 2 refine ZA ?_
 refine ZFb 20 ?_
 refine ZD ?_
 refine ZFb 20 ?_
 refine ZD ?_
 refine ZB ?_
 iterate 2 refine ZA ?_
 refine ZFb 21 ?_
 refine ZD ?_
 refine ZFb 21 ?_
 refine ZD ?_
 refine ZB ?_
 iterate 2 refine ZA ?_
 refine ZFb 22 ?_
 refine ZD ?_
 refine ZFb 22 ?_
 refine ZD ?_
 refine ZB ?_
 iterate 2 refine ZA ?_
 refine Zn (Zt (Ze (ret1 (cs' := []) (.inl rfl) Zu rfl rfl ?_)))
 refine ⟨⟨_, rfl, ?_⟩, rfl⟩
 simp only [Bool.and_eq_true, beq_iff_eq, St.rsame_iff]
 constructor
 ·rintro ⟨⟨⟨⟨⟨⟨⟨q1, q2⟩, q3⟩, q4⟩, q5⟩, q6⟩, q7⟩, q8⟩; cases a; cases b; simp_all
 rintro rfl; simp
theorem gpages_ok (n : Nat) (hn : n ≤ 4611686018427387904) (w : World) : Ctr Tryz.prog 28 [.int .i64 n] w [] (fun v cs => v = .int .i64 (((n + 63) / 64 : Nat) : Int) ∧ cs = []) := by
 refine fn_ctr Tryz.func28 rfl Tryz.ntmps28 rfl (Inv.start w) ?_
 refine Zs (Zr (ZA ?_))
 refine Zn (Zt (Zs (Zr (ZA ?_))))
 refine Zy (y_add (Zv rfl) (Zv rfl) Zl) ?_
 refine Zy (y_sub (Zv rfl) (Zv rfl) Zl) ?_
 refine Zy (y_quo (Zv rfl) (Zv rfl) (by omega) (show _ = (((n + 63) / 64 : Nat) : Int) from by rw [IntWalk.i64_quo _ _ ⟨by omega, by omega, by omega⟩]; omega)) ?_
 refine ZA ?_
 refine Zn (Zt (Ze (ret1 (cs' := []) (.inl rfl) Zu rfl rfl ?_)))
 exact ⟨rfl, rfl⟩
/-- A table of too many pages is refused. -/
theorem nnew_no (bp o n : Nat) (ho : o < 4) (hn : 64 < n) (w : World) : Ctr Tryz.prog 29 [.pointer (some ⟨bp, 0, none⟩), .int .i64 o, .int .i64 n] w [] (fun v cs => v = .tuple #[.pointer none, .int .i64 1] ∧ cs = []) := by
 refine fn_ctr Tryz.func29 rfl Tryz.ntmps29 rfl (Inv.start w) ?_
 refine Zs (Zr (ZA ?_))
 refine ZA ?_
 refine Zn (Zt (Zs (Zs (Zr (ZA ?_)))))
 iterate 2 refine ZA ?_
 iterate 2 refine ZB ?_
 iterate 2 refine ZA ?_
 iterate 2 refine ZB ?_
 iterate 2 refine ZA ?_
 iterate 2 refine ZB ?_
 iterate 2 refine ZA ?_
 iterate 2 refine ZB ?_
 refine ZA ?_
 refine Zn (Zt (wc_cond_t rfl ((by rw [decide_eq_true (show (64 : Int) < n by omega), Bool.or_true])) ?_))
 refine Zs (Zr (ZA ?_))
 refine ZA ?_
 refine Zn (Zt (Ze (Zw (ret2 (cs' := []) (.inl rfl) Zu rfl rfl rfl ?_))))
 exact ⟨rfl, rfl⟩
/-- A guest of too many pages is refused. -/
theorem gnew_no (bp o : Nat) (ho : o < 4) (tr : Bool) (w : World) : Ctr Tryz.prog 21 [.pointer (some ⟨bp, 0, none⟩), .int .i64 o, .agg #[.slice none 0 0, .slice none 0 0, .int .i64 65], .bool tr] w [] (fun v cs => v = .tuple #[.pointer none, .int .i64 1] ∧ cs = []) := by
 refine fn_ctr Tryz.func21 rfl Tryz.ntmps21 rfl (Inv.start w) ?_
 refine Zs (Zr (ZO fun b6 => ?_))
 iterate 2 refine ZA ?_
 refine Zn (Zt (Zs (Zx (Zs (Zr (ZA ?_))))))
 iterate 2 refine ZA ?_
 refine Zn (Zt (wc_cond_f rfl (rfl) ?_))
 refine Zs (wc_draw ⟨fun j => List.elem j [], []⟩ Zk ?_)
 refine ZFe 0 0 ?_
 refine ZG 1 ?_
 refine ZE 2 ?_
 refine ZFe 4 2 ?_
 refine ZG 5 ?_
 refine wa_yn 6 rfl Zk Zk Zk (y_max (Zv rfl) (Zv rfl) rfl) rfl ?_
 refine wa_1 3 Zk ?_
 refine ZT (fun w hi => gpages_ok 0 (by decide) w) ?_
 rintro _ _ ⟨_, ⟨rfl, rfl⟩, rfl⟩
 refine ZE 7 ?_
 refine ZE 8 ?_
 refine ZFf 9 1 ?_
 refine wa_l 10 rfl Zk Zk Zk Zk (guard_no rfl rfl) (y_load (fun _ => rfl) (ev_g rfl)) (row_cell Zh rfl) rfl ?_
 refine ZF 11 ?_
 refine ZF 12 ?_
 refine ZE 13 ?_
 refine ZE 14 ?_
 refine wa_done Zk ?_
 refine Zt (wc_cond_f rfl (rfl) ?_)
 refine Zc (Zo (Zt (Zs (Zr (ZA ?_)))))
 refine ZA ?_
 refine ZFa 2 ?_
 refine ZC ?_
 refine ZS (fun w hi => nnew_no bp o 65 ho (by decide) w) ?_
 rintro _ _ ⟨_, ⟨rfl, rfl⟩, rfl⟩
 iterate 5 refine ZA ?_
 refine Zn (Zt (Zs (Zs (Zr (ZA ?_)))))
 refine ZA ?_
 refine Zn (Zt (wc_cond_t rfl (rfl) ?_))
 refine Zs (Zr (ZA ?_))
 iterate 2 refine ZA ?_
 refine Zn (Zt (Ze (Zw (ret2 (cs' := []) (.inl rfl) Zu rfl rfl rfl ?_))))
 exact ⟨rfl, rfl⟩
theorem boot_nil (tr : Bool) (w : World) : Ctr Tryz.prog 13 [.bool tr, .slice none 0 0] w [] (fun v cs => v = .tuple #[.pointer none, .int .i64 1] ∧ cs = []) := by
 refine fn_ctr Tryz.func13 rfl Tryz.ntmps13 rfl (Inv.start w) ?_
 refine Zs (Zr (ZA ?_))
 refine ZA ?_
 refine Zn (Zt (Zs (Zs (Zr (ZA ?_)))))
 iterate 3 refine ZA ?_
 iterate 3 refine ZB ?_
 refine ZA ?_
 refine Zn (Zt (wc_cond_t rfl (rfl) ?_))
 refine Zs (Zr (ZA ?_))
 refine ZA ?_
 refine Zn (Zt (Ze (Zw (ret2 (cs' := []) (.inl rfl) Zu rfl rfl rfl ?_))))
 exact ⟨rfl, rfl⟩
theorem boot_no (ad : Addr) (c : Nat) (tr : Bool) (w : World) (h : RdV w 3 (some ad) 1 c [.slice none 0 0, .slice none 0 0, .int .i64 65]) : Ctr Tryz.prog 13 [.bool tr, .slice (some ad) 1 c] w [] (fun v cs => v = .tuple #[.pointer none, .int .i64 1] ∧ cs = []) := by
 refine fn_ctr Tryz.func13 rfl Tryz.ntmps13 rfl (Inv.start w) ?_
 refine Zs (Zr (ZA ?_))
 refine ZA ?_
 refine Zn (Zt (Zs (Zs (Zr (ZA ?_)))))
 iterate 3 refine ZA ?_
 iterate 3 refine ZB ?_
 refine ZA ?_
 refine Zn (Zt (wc_cond_f rfl (rfl) ?_))
 refine Zc (Zt (Zs (Zr (ZS (fun w hi => fnew_ok w) ?_))))
 rintro _ _ ⟨_, ⟨bp, rfl, rfl⟩, rfl⟩
 refine ZA ?_
 refine ZO fun b21 => ?_
 refine ZA ?_
 refine Zn (Zt (Zs (Zs (Zr (ZA ?_)))))
 iterate 2 refine ZA ?_
 refine Zn (Zt (Zx ?_))
 refine wc_loop (fun _ : Unit => [(0, .bool tr), (6, .pointer (some ⟨b21, 0, none⟩)), (22, .slice (some ad) 1 c), (23, .int .i64 1), (24, .int .i64 0)]) (fun _ => [row b21 [.pointer (some ⟨bp, 0, none⟩), .slice none 0 0] 63]) (fun _ => True) (fun _ => 0) (()) ?_ ?_ ?_ ?_
 ·trivial
 ·exact Zwk
 ·((repeat (first | exact List.Sublist.slnil | refine List.Sublist.cons_cons _ ?_ | refine List.Sublist.cons _ ?_)))
 rintro - -
 refine Zs (Zr (ZA ?_))
 refine Zn (Zt (Zs (wc_cond_t rfl (rfl) ?_)))
 refine Zc (Zt (Zs (Zx (Zs (Zr (ZA ?_))))))
 refine Zy (y_index (j := 0)  rfl (fun _ => rfl) (Zv rfl) (Zv rfl)  (fun _ => by omega) (fun _ => by omega)) ?_
 refine wl_y (y_loadN (vs := [.slice none 0 0, .slice none 0 0, .int .i64 65]) (fun _ => rfl) (fun _ => rfl) (Zv rfl)) (rdR_cells h (b := 0 * 3) (fun j v hj => by simpa using hj)) rfl ?_
 refine ZN fun b8 => ?_
 refine ZA ?_
 refine ZM ?_
 refine Zn (Zt (Zs (wc_draw ⟨fun j => List.elem j [], []⟩ Zk ?_)))
 refine ZE 0 ?_
 refine ZE 1 ?_
 refine ZFe 2 0 ?_
 refine ZG 3 ?_
 refine ZE 4 ?_
 refine ZI 5 ?_
 refine ZE 6 ?_
 refine wa_1 7 Zk ?_
 refine ZT (fun w hi => gnew_no bp 0 (by decide) tr w) ?_
 rintro _ _ ⟨_, ⟨rfl, rfl⟩, rfl⟩
 refine ZE 8 ?_
 refine ZE 9 ?_
 refine ZE 10 ?_
 refine ZE 11 ?_
 refine ZE 12 ?_
 refine wa_done Zk ?_
 refine Zt (Zs (Zs (Zr (ZA ?_))))
 refine ZA ?_
 refine Zn (Zt (wc_cond_t rfl (rfl) ?_))
 refine Zs (Zr (ZA ?_))
 iterate 2 refine ZA ?_
 refine Zn (Zt (Ze (Zw (Zq (Zw (Zw (Zq (Zw (ret2 (cs' := []) (.inl rfl) Zu rfl rfl rfl ?_)))))))))
 exact ⟨rfl, rfl⟩
theorem twin_nil (w : World) : Ctr Tryz.prog 7 [.slice none 0 0, .slice none 0 0] w [] (fun v cs => v = .tuple #[.int .i64 0, .bool true] ∧ cs = []) := by
 refine fn_ctr Tryz.func7 rfl Tryz.ntmps7 rfl (Inv.start w) ?_
 refine Zs (Zr (ZA ?_))
 refine ZA ?_
 refine Zn (Zt (Zs (Zr (ZA ?_))))
 refine ZS (fun w hi => boot_nil true w) ?_
 rintro _ _ ⟨_, ⟨rfl, rfl⟩, rfl⟩
 iterate 5 refine ZA ?_
 refine Zn (Zt (Zs (Zr (ZA ?_))))
 refine ZS (fun w hi => boot_nil false w) ?_
 rintro _ _ ⟨_, ⟨rfl, rfl⟩, rfl⟩
 iterate 5 refine ZA ?_
 refine Zn (Zt (Zs (Zs (Zr (ZA ?_)))))
 iterate 2 refine ZA ?_
 iterate 2 refine ZB ?_
 refine ZA ?_
 refine Zn (Zt (wc_cond_t rfl (rfl) ?_))
 refine Zs (Zr (ZA ?_))
 iterate 4 refine ZA ?_
 refine Zn (Zt (Ze (Zw (ret2 (cs' := []) (.inl rfl) Zu rfl rfl rfl ?_))))
 exact ⟨rfl, rfl⟩
theorem twin_no (ad : Addr) (c : Nat) (v : Value) (w : World) (h : RdV w 3 (some ad) 1 c [.slice none 0 0, .slice none 0 0, .int .i64 65]) : Ctr Tryz.prog 7 [.slice (some ad) 1 c, v] w [] (fun v cs => v = .tuple #[.int .i64 0, .bool true] ∧ cs = []) := by
 refine fn_ctr Tryz.func7 rfl Tryz.ntmps7 rfl (Inv.start w) ?_
 refine Zs (Zr (ZA ?_))
 refine ZA ?_
 refine Zn (Zt (Zs (Zr (ZA ?_))))
 refine ZS (fun w hi => boot_no ad c true w (h.oldN hi)) ?_
 rintro _ _ ⟨_, ⟨rfl, rfl⟩, rfl⟩
 iterate 5 refine ZA ?_
 refine Zn (Zt (Zs (Zr (ZA ?_))))
 refine ZS (fun w hi => boot_no ad c false w (h.oldN hi)) ?_
 rintro _ _ ⟨_, ⟨rfl, rfl⟩, rfl⟩
 iterate 5 refine ZA ?_
 refine Zn (Zt (Zs (Zs (Zr (ZA ?_)))))
 iterate 2 refine ZA ?_
 iterate 2 refine ZB ?_
 refine ZA ?_
 refine Zn (Zt (wc_cond_t rfl (rfl) ?_))
 refine Zs (Zr (ZA ?_))
 iterate 4 refine ZA ?_
 refine Zn (Zt (Ze (Zw (ret2 (cs' := []) (.inl rfl) Zu rfl rfl rfl ?_))))
 exact ⟨rfl, rfl⟩
theorem sound_nil (w : World) : Ctr Tryz.prog 16 [.pointer none] w [] (fun v cs => v = .bool false ∧ cs = []) := by
 refine fn_ctr Tryz.func16 rfl Tryz.ntmps16 rfl (Inv.start w) ?_
 refine Zs (Zr (ZA ?_))
 refine Zn (Zt (Zs (Zs (Zr (ZA ?_)))))
 refine ZA ?_
 refine Zn (Zt (wc_cond_t rfl (rfl) ?_))
 refine Zs (Zr (ZA ?_))
 refine Zn (Zt (Ze (Zw (ret1 (cs' := []) (.inl rfl) Zu rfl rfl ?_))))
 exact ⟨rfl, rfl⟩
theorem frOk_all {l : List Int} (h1 : l.all (fun f => decide (16 ≤ f) && decide (f < 256)) = true) (h2 : l.Nodup) : frOk l := ⟨fun f hf => by simpa using List.all_eq_true.1 h1 f hf, h2⟩
theorem frOk_bad {l : List Int} (h1 : l.all (fun f => decide (16 ≤ f) && decide (f < 256)) = false ∨ ¬ l.Nodup) : ¬ frOk l := fun ⟨h3, h4⟩ => by
 rcases h1 with h1 | h1
 ·have : l.all (fun f => decide (16 ≤ f) && decide (f < 256)) = true := List.all_eq_true.2 fun f hf => by simpa using h3 f hf
  rw [this] at h1; cases h1
 exact h1 h4
theorem known27_ok (w : World) : Ctr Tryz.prog 8 [] w [] (fun v cs => v = .bool true ∧ cs = []) := by
 refine fn_ctr Tryz.func8 rfl Tryz.ntmps8 rfl (Inv.start w) ?_
 refine Zs (Zr (ZA ?_))
 refine Zn (Zt (Zs (Zr (ZS (fun w hi => twin_nil w) ?_))))
 rintro _ _ ⟨_, ⟨rfl, rfl⟩, rfl⟩
 iterate 5 refine ZA ?_
 refine Zn (Zt (Zs (Zr (wl_t (t_buildSl1 rfl rfl (fun _ => rfl) (fun _ => rfl) rfl rfl) rfl ?_))))
 rintro _ _ ⟨b7, rfl, rfl⟩
 refine wl_t (t_buildSl1 rfl rfl (fun _ => rfl) (fun _ => rfl) rfl rfl) rfl ?_
 rintro _ _ ⟨b8, rfl, rfl⟩
 refine wl_t (t_buildSl1 rfl rfl (fun _ => rfl) (fun _ => rfl) rfl rfl) rfl ?_
 rintro _ _ ⟨b9, rfl, rfl⟩
 refine ZS (fun w hi => aframes_ok (some ⟨b9, 0, none⟩) 2 [⟨some ⟨b7, 0, none⟩, 2, [16, 17]⟩, ⟨some ⟨b8, 0, none⟩, 1, [18]⟩] w (hi.rd Zh) (fun x hx => by simp only [List.mem_cons, List.mem_nil_iff, or_false] at hx; rcases hx with rfl | rfl; exact (hi.rd (show Has _ (slv 3 1 (some ⟨b7, 0, none⟩) 2 2 [.int .i64 16, .int .i64 17]) from Zh)); exact (hi.rd (show Has _ (slv 3 1 (some ⟨b8, 0, none⟩) 1 1 [.int .i64 18]) from Zh)))) ?_
 rintro _ _ ⟨_, ⟨⟨r, rfl, hr⟩, rfl⟩, rfl⟩
 obtain rfl : r = true := hr.2 (frOk_all rfl (show ([16, 17, 18] : List Int).Nodup by decide))
 refine ZA ?_
 refine wl_tg (guard_yes rfl rfl) rfl (t_buildSl1 rfl rfl (fun _ => rfl) (fun _ => rfl) rfl rfl) rfl ?_
 rintro _ _ ⟨b12, rfl, rfl⟩
 refine wl_tg (guard_yes rfl rfl) rfl (t_buildSl1 rfl rfl (fun _ => rfl) (fun _ => rfl) rfl rfl) rfl ?_
 rintro _ _ ⟨b13, rfl, rfl⟩
 refine wl_tg (guard_yes rfl rfl) rfl (t_call rfl (fun _ _ => rfl) (fun w hi => aframes_ok (some ⟨b13, 0, none⟩) 1 [⟨some ⟨b12, 0, none⟩, 1, [3]⟩] w (hi.rd Zh) (fun x hx => by rw [List.mem_singleton.1 hx]; exact (hi.rd (show Has _ (slv 3 1 (some ⟨b12, 0, none⟩) 1 1 [.int .i64 3]) from Zh))))) rfl ?_
 rintro _ _ ⟨_, ⟨⟨r2, rfl, hr2⟩, rfl⟩, rfl⟩
 obtain rfl : r2 = false := (by cases r2 with | false => rfl | true => exact absurd (hr2.1 rfl) (frOk_bad (Or.inl rfl)))
 refine ZB ?_
 iterate 2 refine ZA ?_
 refine wl_tg (guard_yes rfl rfl) rfl (t_buildSl1 rfl rfl (fun _ => rfl) (fun _ => rfl) rfl rfl) rfl ?_
 rintro _ _ ⟨b18, rfl, rfl⟩
 refine wl_tg (guard_yes rfl rfl) rfl (t_buildSl1 rfl rfl (fun _ => rfl) (fun _ => rfl) rfl rfl) rfl ?_
 rintro _ _ ⟨b19, rfl, rfl⟩
 refine wl_tg (guard_yes rfl rfl) rfl (t_buildSl1 rfl rfl (fun _ => rfl) (fun _ => rfl) rfl rfl) rfl ?_
 rintro _ _ ⟨b20, rfl, rfl⟩
 refine wl_tg (guard_yes rfl rfl) rfl (t_call rfl (fun _ _ => rfl) (fun w hi => aframes_ok (some ⟨b20, 0, none⟩) 2 [⟨some ⟨b18, 0, none⟩, 1, [16]⟩, ⟨some ⟨b19, 0, none⟩, 1, [16]⟩] w (hi.rd Zh) (fun x hx => by simp only [List.mem_cons, List.mem_nil_iff, or_false] at hx; rcases hx with rfl | rfl; exact (hi.rd (show Has _ (slv 3 1 (some ⟨b18, 0, none⟩) 1 1 [.int .i64 16]) from Zh)); exact (hi.rd (show Has _ (slv 3 1 (some ⟨b19, 0, none⟩) 1 1 [.int .i64 16]) from Zh))))) rfl ?_
 rintro _ _ ⟨_, ⟨⟨r3, rfl, hr3⟩, rfl⟩, rfl⟩
 obtain rfl : r3 = false := (by cases r3 with | false => rfl | true => exact absurd (hr3.1 rfl) (frOk_bad (Or.inr (show ¬ ([16, 16] : List Int).Nodup by decide))))
 refine ZB ?_
 iterate 2 refine ZA ?_
 iterate 2 refine ZB ?_
 iterate 2 refine ZA ?_
 refine ZB ?_
 iterate 2 refine ZA ?_
 refine wl_tg (guard_yes rfl rfl) rfl (t_call rfl (fun _ _ => rfl) (fun w hi => sound_nil w)) rfl ?_
 rintro _ _ ⟨_, ⟨rfl, rfl⟩, rfl⟩
 refine ZB ?_
 iterate 2 refine ZA ?_
 refine Zn (Zt (Ze (ret1 (cs' := []) (.inl rfl) Zu rfl rfl ?_)))
 exact ⟨rfl, rfl⟩
/-- A view with its state trimmed. -/
abbrev Vw.trim (v : Vw) : Vw := ⟨v.s.trim, v.m, v.o, v.i, v.k, v.pend, v.mask, v.killed⟩
abbrev VAd.wX (Y : VAd) (X : SAdr) : VAd := ⟨X, Y.Am, Y.cm, Y.Ao, Y.co, Y.Ai, Y.ci, Y.Ak, Y.ck⟩
theorem frOk_step {l : List Int} {i : Nat} {x : Int} (hx : l[i]? = some x) : frOk (l.take (i + 1)) ↔ frOk (l.take i) ∧ (16 ≤ x ∧ x < 256) ∧ ∀ j y, j < i → l[j]? = some y → x ≠ y := by
 have e : l.take (i + 1) = l.take i ++ [x] := by rw [List.take_add_one, hx]; rfl
 have hm : ∀ y, y ∈ l.take i ↔ ∃ j, j < i ∧ l[j]? = some y := fun y => by
  rw [List.mem_iff_getElem?]
  constructor
  ·rintro ⟨j, hj⟩
   rw [List.getElem?_take] at hj
   split at hj
   ·exact ⟨j, by assumption, hj⟩
   cases hj
  rintro ⟨j, h1, h2⟩
  exact ⟨j, by rw [List.getElem?_take, if_pos h1]; exact h2⟩
 rw [e]
 constructor
 ·rintro ⟨h1, h2⟩
  rw [List.nodup_append] at h2
  exact ⟨⟨fun f hf => h1 f (by simp [hf]), h2.1⟩, h1 x (by simp), fun j y hj hy he => h2.2.2 y ((hm y).2 ⟨j, hj, hy⟩) x (by simp) he.symm⟩
 rintro ⟨h1, h2, h3⟩
 exact frOk_snoc h1 h2 (fun hin => by obtain ⟨j, hj, hy⟩ := (hm x).1 hin; exact h3 j x hj hy rfl)
set_option maxHeartbeats 4000000 in
theorem auditTells_ok (a b : Vw) (Y Z : VAd) (A B : Option Addr) (ca cb : Nat) (l m : List Int) (ha : a.wf) (hb : b.wf) (w : World) (h : RdVw w a Y) (h2 : RdVw w b Z) (hl : Rd w .i64 A l.length ca l) (hm : Rd w .i64 B m.length cb m) :
  Ctr Tryz.prog 4 [vv a Y, vv b Z, .slice A l.length ca, .slice B m.length cb] w [] (fun v cs => v = .bool true ∧ cs = []) := by
 have hlc := hl.cap
 have hmc := hm.cap
 obtain ⟨l', hl'⟩ : ∃ x, l.take 30 = x := ⟨_, rfl⟩
 obtain ⟨m', hm'⟩ : ∃ x, m.take 30 = x := ⟨_, rfl⟩
 have hl2 := rd_take hl 30
 have hm2 := rd_take hm 30
 rw [hl'] at hl2
 rw [hm'] at hm2
 have nl : l'.length ≤ 30 := by rw [← hl', List.length_take]; omega
 have nm : m'.length ≤ 30 := by rw [← hm', List.length_take]; omega
 have el : l'.length = min 30 l.length := by rw [← hl', List.length_take]
 have em : m'.length = min 30 m.length := by rw [← hm', List.length_take]
 have haw : (Vw.trim a).wf := ⟨St.tr_wf ha.s, ha.m, ha.o, ha.i, ha.k⟩
 have hbw : (Vw.trim b).wf := ⟨St.tr_wf hb.s, hb.m, hb.o, hb.i, hb.k⟩
 have hra : a.s.trim.right = true := St.tr_right
 have hrb : b.s.trim.right = true := St.tr_right
 obtain ⟨ad16, ar16, -⟩ := St.fits hra
 obtain ⟨bd16, br16, -⟩ := St.fits hrb
 have fa1 : a.s.trim.d.length * 4 ≤ 140737488355328 := by omega
 have fa2 : a.s.trim.r.length * 4 ≤ 140737488355328 := by omega
 have fb1 : b.s.trim.d.length * 4 ≤ 140737488355328 := by omega
 have fb2 : b.s.trim.r.length * 4 ≤ 140737488355328 := by omega
 refine fn_ctr Tryz.func4 rfl Tryz.ntmps4 rfl (Inv.start w) ?_
 refine Zs (Zr (ZO fun b4 => ?_))
 refine ZO fun b5 => ?_
 refine ZA ?_
 refine Zn (Zt ?_)
 refine wc_seq_mid (fun _ : SAdr × SAdr => [(2, .slice A l.length ca), (3, .slice B m.length cb), (4, .pointer (some ⟨b4, 0, none⟩)), (5, .pointer (some ⟨b5, 0, none⟩))]) (fun q => [row b4 ((Vw.trim a).cells (Y.wX q.1)) 31, row b5 ((Vw.trim b).cells (Z.wX q.2)) 31, slD a.s.trim q.1.Ad q.1.cd, slR a.s.trim q.1.Ar q.1.cr, slD b.s.trim q.2.Ad q.2.cd, slR b.s.trim q.2.Ar q.2.cr]) (fun _ => True) ?_ ?_
 ·refine wc_draw ⟨fun j => List.elem j [7, 9], []⟩ Zk ?_
  refine ZFe 0 0 ?_
  refine wa_ln 1 rfl Zk Zk Zk Zk (y_loadN (vs := a.s.cells (.slice Y.X.Ad a.s.d.length Y.X.cd) (.slice Y.X.Ar a.s.r.length Y.X.cr)) (fun _ => rfl) (fun _ => rfl) (Zv rfl)) (row_cells (o := 0) Zh rfl) rfl ?_
  refine ZFe 3 0 ?_
  refine wa_2 2 4 Zk ?_ ?_
  ·refine ZT (fun w hi => trim_ok a.s ha.s Y.X.Ad Y.X.Ar Y.X.cd Y.X.cr w (h.s.oldN hi)) ?_
   rintro _ _ ⟨_, ⟨A1, c1, A2, c2, rfl, rfl⟩, rfl⟩
   refine ZFe 6 0 ?_
   refine wa_1 4 Zk ?_
   refine wi_yn rfl (y_loadN (vs := b.s.cells (.slice Z.X.Ad b.s.d.length Z.X.cd) (.slice Z.X.Ar b.s.r.length Z.X.cr)) (fun _ => rfl) (fun _ => rfl) (Zv rfl)) (row_cells (o := 0) Zh rfl) rfl ?_
   refine wa_1 5 Zk ?_
   refine ZT (fun w hi => trim_ok b.s hb.s Z.X.Ad Z.X.Ar Z.X.cd Z.X.cr w (h2.s.oldN hi)) ?_
   rintro _ _ ⟨_, ⟨A3, c3, A4, c4, rfl, rfl⟩, rfl⟩
   refine wa_1 7 Zk ?_
   refine wi_t0 rfl rfl (t_storeRX (ys := (Vw.trim a).cells (Y.wX ⟨A1, c1, A2, c2⟩)) (n := 16) (vs := a.s.trim.cells (.slice A1 a.s.trim.d.length c1) (.slice A2 a.s.trim.r.length c2)) rfl (fun _ => rfl) rfl rfl (allT rfl) Za rfl (Nat.le_of_ble_eq_true rfl)) (fun _ _ _ _ _ _ _ h => by cases h) ?_
   rintro _ _ ⟨rfl, rfl⟩
   refine ZFe 8 0 ?_
   refine wa_1 9 Zk ?_
   refine wi_t0 rfl rfl (t_storeRX (ys := (Vw.trim b).cells (Z.wX ⟨A3, c3, A4, c4⟩)) (n := 16) (vs := b.s.trim.cells (.slice A3 b.s.trim.d.length c3) (.slice A4 b.s.trim.r.length c4)) rfl (fun _ => rfl) rfl rfl (allT rfl) Za rfl (Nat.le_of_ble_eq_true rfl)) (fun _ _ _ _ _ _ _ h => by cases h) ?_
   rintro _ _ ⟨rfl, rfl⟩
   refine wa_done Zk ?_
   refine q_midP ((⟨⟨A1, c1, A2, c2⟩, ⟨A3, c3, A4, c4⟩⟩ : SAdr × SAdr)) ?_ ?_ ?_
   ·trivial
   ·exact Zwk
   exact Zj
  refine wi_yn rfl (y_loadN (vs := b.s.cells (.slice Z.X.Ad b.s.d.length Z.X.cd) (.slice Z.X.Ar b.s.r.length Z.X.cr)) (fun _ => rfl) (fun _ => rfl) (Zv rfl)) (row_cells (o := 0) Zh rfl) rfl ?_
  refine wa_1 2 Zk ?_
  refine ZT (fun w hi => trim_ok a.s ha.s Y.X.Ad Y.X.Ar Y.X.cd Y.X.cr w (h.s.oldN hi)) ?_
  rintro _ _ ⟨_, ⟨A1, c1, A2, c2, rfl, rfl⟩, rfl⟩
  refine ZFe 6 0 ?_
  refine wa_1 5 Zk ?_
  refine ZT (fun w hi => trim_ok b.s hb.s Z.X.Ad Z.X.Ar Z.X.cd Z.X.cr w (h2.s.oldN hi)) ?_
  rintro _ _ ⟨_, ⟨A3, c3, A4, c4, rfl, rfl⟩, rfl⟩
  refine wa_1 7 Zk ?_
  refine wi_t0 rfl rfl (t_storeRX (ys := (Vw.trim a).cells (Y.wX ⟨A1, c1, A2, c2⟩)) (n := 16) (vs := a.s.trim.cells (.slice A1 a.s.trim.d.length c1) (.slice A2 a.s.trim.r.length c2)) rfl (fun _ => rfl) rfl rfl (allT rfl) Za rfl (Nat.le_of_ble_eq_true rfl)) (fun _ _ _ _ _ _ _ h => by cases h) ?_
  rintro _ _ ⟨rfl, rfl⟩
  refine ZFe 8 0 ?_
  refine wa_1 9 Zk ?_
  refine wi_t0 rfl rfl (t_storeRX (ys := (Vw.trim b).cells (Z.wX ⟨A3, c3, A4, c4⟩)) (n := 16) (vs := b.s.trim.cells (.slice A3 b.s.trim.d.length c3) (.slice A4 b.s.trim.r.length c4)) rfl (fun _ => rfl) rfl rfl (allT rfl) Za rfl (Nat.le_of_ble_eq_true rfl)) (fun _ _ _ _ _ _ _ h => by cases h) ?_
  rintro _ _ ⟨rfl, rfl⟩
  refine wa_done Zk ?_
  refine q_midP ((⟨⟨A1, c1, A2, c2⟩, ⟨A3, c3, A4, c4⟩⟩ : SAdr × SAdr)) ?_ ?_ ?_
  ·trivial
  ·exact Zwk
  exact Zj
 rintro ⟨⟨A1, c1, A2, c2⟩, ⟨A3, c3, A4, c4⟩⟩ -
 dsimp only
 refine wc_seq_mid (fun _ : Unit => [(2, .slice A l'.length ca), (3, .slice B m.length cb), (4, .pointer (some ⟨b4, 0, none⟩)), (5, .pointer (some ⟨b5, 0, none⟩))]) (fun _ => [row b4 ((Vw.trim a).cells (Y.wX ⟨A1, c1, A2, c2⟩)) 31, row b5 ((Vw.trim b).cells (Z.wX ⟨A3, c3, A4, c4⟩)) 31, slD a.s.trim A1 c1, slR a.s.trim A2 c2, slD b.s.trim A3 c3, slR b.s.trim A4 c4]) (fun _ => True) ?_ ?_
 ·refine Zs (Zr (ZA ?_))
  iterate 2 refine ZA ?_
  refine Zn (Zt ?_)
  refine wc_cond _ rfl (fun hc2 => ?_) (fun hc2 => ?_)
  ·simp only [decide_eq_true_eq] at hc2
   have e : l'.length = 30 := (by omega)
   rw [e]
   refine Zr (ZA ?_)
   refine Zy (y_slice0 30 rfl (fun _ => rfl) (Zv rfl) (Zv rfl) (fun _ => by first | rfl | omega) (fun _ => by omega)) ?_
   refine ZA ?_
   refine Zn ?_
   refine q_midP (()) ?_ ?_ ?_
   ·trivial
   ·exact Zwk
   exact Zj
  simp only [decide_eq_false_iff_not] at hc2
  have e : l'.length = l.length := (by omega)
  rw [e]
  refine Zc ?_
  refine q_midP (()) ?_ ?_ ?_
  ·trivial
  ·exact Zwk
  exact Zj
 rintro - -
 refine wc_seq_mid (fun _ : Unit => [(2, .slice A l'.length ca), (3, .slice B m'.length cb), (4, .pointer (some ⟨b4, 0, none⟩)), (5, .pointer (some ⟨b5, 0, none⟩))]) (fun _ => [row b4 ((Vw.trim a).cells (Y.wX ⟨A1, c1, A2, c2⟩)) 31, row b5 ((Vw.trim b).cells (Z.wX ⟨A3, c3, A4, c4⟩)) 31, slD a.s.trim A1 c1, slR a.s.trim A2 c2, slD b.s.trim A3 c3, slR b.s.trim A4 c4]) (fun _ => True) ?_ ?_
 ·refine Zs (Zr (ZA ?_))
  iterate 2 refine ZA ?_
  refine Zn (Zt ?_)
  refine wc_cond _ rfl (fun hc4 => ?_) (fun hc4 => ?_)
  ·simp only [decide_eq_true_eq] at hc4
   have e : m'.length = 30 := (by omega)
   rw [e]
   refine Zr (ZA ?_)
   refine Zy (y_slice0 30 rfl (fun _ => rfl) (Zv rfl) (Zv rfl) (fun _ => by first | rfl | omega) (fun _ => by omega)) ?_
   refine ZA ?_
   refine Zn ?_
   refine q_midP (()) ?_ ?_ ?_
   ·trivial
   ·exact Zwk
   exact Zj
  simp only [decide_eq_false_iff_not] at hc4
  have e : m'.length = m.length := (by omega)
  rw [e]
  refine Zc ?_
  refine q_midP (()) ?_ ?_ ?_
  ·trivial
  ·exact Zwk
  exact Zj
 rintro - -
 refine Zs (Zr (ZA ?_))
 refine Zn (Zt (Zs (Zr (wl_t (t_buildSl1 rfl rfl (fun _ => rfl) (fun _ => rfl) rfl rfl) rfl ?_))))
 rintro _ _ ⟨b31, rfl, rfl⟩
 refine ZA ?_
 refine wl_t (t_append (e := 3) (sz := 1) (bytes := 8) rfl rfl Za rfl rfl (fun w hi => hl2.oldN hi) ints_one (by simp only [maxLen]; omega) (by omega)) rfl ?_
 rintro _ _ ⟨A6, c6, rfl, rfl⟩
 simp only [Nat.zero_add, List.nil_append]
 refine ZA ?_
 refine wl_t (t_append (e := 3) (sz := 1) (bytes := 8) rfl rfl Za rfl rfl (fun w hi => hm2.oldN hi) ints_one (by simp only [maxLen]; omega) (by omega)) rfl ?_
 rintro _ _ ⟨A7, c7, rfl, rfl⟩
 obtain ⟨al, hal⟩ : ∃ x, l' ++ m' = x := ⟨_, rfl⟩
 have e1 : l'.length + m'.length = al.length := (by rw [← hal, List.length_append])
 have e2 : ints .i64 l' ++ ints .i64 m' = ints .i64 al := (by rw [← hal]; simp [ints])
 have nal : al.length ≤ 60 := (by omega)
 rw [e1, e2]
 refine ZA ?_
 refine Zn (Zt (Zs (Zs (Zr (ZA ?_)))))
 refine Zn (Zt (Zx ?_))
 refine wc_loop (fun q : Nat × Bool => [(2, .slice A l'.length ca), (3, .slice B m'.length cb), (4, .pointer (some ⟨b4, 0, none⟩)), (5, .pointer (some ⟨b5, 0, none⟩)), (9, .bool q.2), (10, .slice A7 al.length c7), (11, .int .i64 (q.1 : Int))]) (fun _ => [row b4 ((Vw.trim a).cells (Y.wX ⟨A1, c1, A2, c2⟩)) 31, row b5 ((Vw.trim b).cells (Z.wX ⟨A3, c3, A4, c4⟩)) 31, slD a.s.trim A1 c1, slR a.s.trim A2 c2, slD b.s.trim A3 c3, slR b.s.trim A4 c4, sl .i64 3 A7 al.length c7 al]) (fun q => q.1 ≤ al.length ∧ (q.2 = true ↔ frOk (al.take q.1))) (fun q => al.length - q.1) (⟨0, true⟩) ?_ ?_ ?_ ?_
 ·exact ⟨Nat.zero_le _, ⟨fun _ => by simp [frOk], fun _ => rfl⟩⟩
 ·exact Zwk
 ·((repeat (first | exact List.Sublist.slnil | refine List.Sublist.cons_cons _ ?_ | refine List.Sublist.cons _ ?_)))
 rintro ⟨i, g⟩ ⟨hi_, hg⟩
 dsimp only at hi_ hg ⊢
 refine wc_fact (fun w hi => (hi.rd (show Has _ (sl .i64 3 A7 al.length c7 al) from Zh)).nil) (fun hnil => ?_)
 refine Zs (Zs (Zr (ZA ?_)))
 iterate 3 refine ZA ?_
 refine Zn (Zt ?_)
 refine wc_cond _ rfl (fun hc9 => ?_) (fun hc9 => ?_)
 ·simp only [decide_eq_true_eq] at hc9
  obtain ⟨ad, rfl⟩ : ∃ ad, A7 = some ad := (by cases A7 with | none => (have := (hnil rfl).1; omega) | some ad => exact ⟨ad, rfl⟩)
  obtain ⟨x, hx⟩ : ∃ x, al[i]? = some x := ⟨_, List.getElem?_eq_getElem (show i < al.length by omega)⟩
  have hst := frOk_step hx
  refine Zc (Zt (Zs (Zx (Zs (Zr (ZA ?_))))))
  refine ZA ?_
  iterate 2 refine ZB ?_
  refine Zyy rfl rfl (y_index (j := i)  rfl (fun _ => rfl) (ev_g rfl) (ev_g rfl)  (fun _ => by omega) (fun _ => by omega)) ?_
  refine wl_yg (guard_yes rfl rfl) (y_load (fun _ => rfl) (ev_g rfl)) (sl_cell Zh (ints_at hx)) rfl ?_
  refine ZB ?_
  iterate 2 refine ZA ?_
  iterate 2 refine ZB ?_
  refine Zyy rfl rfl (y_index (j := i)  rfl (fun _ => rfl) (ev_g rfl) (ev_g rfl)  (fun _ => by omega) (fun _ => by omega)) ?_
  refine wl_yg (guard_yes rfl rfl) (y_load (fun _ => rfl) (ev_g rfl)) (sl_cell Zh (ints_at hx)) rfl ?_
  refine ZB ?_
  iterate 2 refine ZA ?_
  refine Zn (Zt (Zs (Zr (ZA ?_))))
  refine Zn (Zt (Zx ?_))
  refine wc_loop (fun q : Nat × Bool => [(2, .slice A l'.length ca), (3, .slice B m'.length cb), (4, .pointer (some ⟨b4, 0, none⟩)), (5, .pointer (some ⟨b5, 0, none⟩)), (9, .bool q.2), (10, .slice (some ad) al.length c7), (11, .int .i64 (i : Int)), (12, .int .i64 (q.1 : Int))]) (fun _ => [row b4 ((Vw.trim a).cells (Y.wX ⟨A1, c1, A2, c2⟩)) 31, row b5 ((Vw.trim b).cells (Z.wX ⟨A3, c3, A4, c4⟩)) 31, slD a.s.trim A1 c1, slR a.s.trim A2 c2, slD b.s.trim A3 c3, slR b.s.trim A4 c4, sl .i64 3 (some ad) al.length c7 al]) (fun q => q.1 ≤ i ∧ (q.2 = true ↔ frOk (al.take i) ∧ (16 ≤ x ∧ x < 256) ∧ ∀ j y, j < q.1 → al[j]? = some y → x ≠ y)) (fun q => i - q.1) (⟨0, (g && decide (16 ≤ x)) && decide (x < 256)⟩) ?_ ?_ ?_ ?_
  ·exact ⟨Nat.zero_le _, by simp only [Bool.and_eq_true, decide_eq_true_eq, hg]; constructor; exact fun ⟨⟨q1, q2⟩, q3⟩ => ⟨q1, ⟨q2, q3⟩, fun j y hj => absurd hj (by omega)⟩; exact fun ⟨q1, ⟨q2, q3⟩, _⟩ => ⟨⟨q1, q2⟩, q3⟩⟩
  ·exact Zwk
  ·((repeat (first | exact List.Sublist.slnil | refine List.Sublist.cons_cons _ ?_ | refine List.Sublist.cons _ ?_)))
  rintro ⟨k, g2⟩ ⟨hk, hg2⟩
  dsimp only at hk hg2 ⊢
  refine Zs (Zs (Zr (ZA ?_)))
  iterate 2 refine ZA ?_
  refine Zn (Zt ?_)
  refine wc_cond _ rfl (fun hc13 => ?_) (fun hc13 => ?_)
  ·simp only [decide_eq_true_eq] at hc13
   obtain ⟨y, hy⟩ : ∃ y, al[k]? = some y := ⟨_, List.getElem?_eq_getElem (show k < al.length by omega)⟩
   refine Zc (Zt (Zs (Zx (wc_draw ⟨fun j => List.elem j [], []⟩ Zk ?_))))
   refine ZE 0 ?_
   refine ZE 1 ?_
   refine ZF 2 ?_
   refine ZF 3 ?_
   refine wa_y 4 rfl Zk Zk Zk (guard_yes rfl rfl) (y_index (j := i)  rfl (fun _ => rfl) (ev_g rfl) (ev_g rfl)  (fun _ => by omega) (fun _ => by omega)) rfl ?_
   refine wa_l 5 rfl Zk Zk Zk Zk (guard_yes rfl rfl) (y_load (fun _ => rfl) (ev_g rfl)) (sl_cell Zh (ints_at hx)) rfl ?_
   refine ZF 6 ?_
   refine ZF 7 ?_
   refine wa_y 8 rfl Zk Zk Zk (guard_yes rfl rfl) (y_index (j := k)  rfl (fun _ => rfl) (ev_g rfl) (ev_g rfl)  (fun _ => by omega) (fun _ => by omega)) rfl ?_
   refine wa_l 9 rfl Zk Zk Zk Zk (guard_yes rfl rfl) (y_load (fun _ => rfl) (ev_g rfl)) (sl_cell Zh (ints_at hy)) rfl ?_
   refine ZF 10 ?_
   refine ZE 11 ?_
   refine ZE 12 ?_
   refine wa_done Zk ?_
   refine Zo (Zt (Zr (ZA ?_)))
   refine Zy (y_add (Zv rfl) (Zv rfl) Zl) ?_
   refine ZA ?_
   refine Zn ?_
   refine q_mid ((⟨k + 1, g2 && (x != y)⟩ : Nat × Bool)) ?_ ?_ ?_
   ·refine ⟨⟨by omega, ?_⟩, by omega⟩; rw [Bool.and_eq_true, hg2, bne_iff_ne]; constructor; exact fun ⟨⟨q1, q2, q3⟩, q4⟩ => ⟨q1, q2, fun j z hj hz => by (by_cases e : j = k; subst e; rw [hy] at hz; obtain rfl := Option.some.inj hz; exact q4; exact q3 j z (by omega) hz)⟩; exact fun ⟨q1, q2, q3⟩ => ⟨⟨q1, q2, fun j z hj hz => q3 j z (by omega) hz⟩, q3 k y (by omega) hy⟩
   ·exact Zwk
   ((repeat (first | exact List.Sublist.slnil | refine List.Sublist.cons_cons _ ?_ | refine List.Sublist.cons _ ?_)))
  simp only [decide_eq_false_iff_not] at hc13
  obtain rfl : k = i := by omega
  refine wc_exit ?_
  refine q_then_exit ?_
  refine q_then_exit ?_
  refine q_block_same rfl ?_
  refine Zo (Zt (Zr (ZA ?_)))
  refine Zy (y_add (Zv rfl) (Zv rfl) Zl) ?_
  refine ZA ?_
  refine Zn ?_
  refine q_mid ((⟨k + 1, g2⟩ : Nat × Bool)) ?_ ?_ ?_
  ·exact ⟨⟨by omega, by rw [hg2, hst]⟩, by omega⟩
  ·exact Zwk
  ((repeat (first | exact List.Sublist.slnil | refine List.Sublist.cons_cons _ ?_ | refine List.Sublist.cons _ ?_)))
 simp only [decide_eq_false_iff_not] at hc9
 obtain rfl : i = al.length := by omega
 refine wc_exit ?_
 refine q_then_exit ?_
 refine q_then_exit ?_
 refine q_block_same rfl ?_
 refine Zt (Zs (wc_draw ⟨fun j => List.elem j [], []⟩ Zk ?_))
 have hok : g = true ↔ frOk al := (by rw [hg, List.take_length])
 refine ZI 0 ?_
 refine ZI 1 ?_
 refine ZI 3 ?_
 refine ZI 4 ?_
 refine wa_1 2 Zk ?_
 refine ZT (fun w hi => asame_ok (Vw.trim a) (Vw.trim b) (Y.wX ⟨A1, c1, A2, c2⟩) (Z.wX ⟨A3, c3, A4, c4⟩) haw hbw w ⟨hi.rdSt (show Has _ (slD a.s.trim A1 c1) from Zh) (show Has _ (slR a.s.trim A2 c2) from Zh) fa1 fa2, h.m.oldN hi, h.o.oldN hi, h.i.oldN hi, h.k.oldN hi⟩ ⟨hi.rdSt (show Has _ (slD b.s.trim A3 c3) from Zh) (show Has _ (slR b.s.trim A4 c4) from Zh) fb1 fb2, h2.m.oldN hi, h2.o.oldN hi, h2.i.oldN hi, h2.k.oldN hi⟩) ?_
 rintro _ _ ⟨_, ⟨⟨r1, rfl, hr1⟩, rfl⟩, rfl⟩
 refine wa_1 5 Zk ?_
 refine ZT (fun w hi => kview_ok (Vw.trim a) (Vw.trim b) (Y.wX ⟨A1, c1, A2, c2⟩) (Z.wX ⟨A3, c3, A4, c4⟩) haw hbw w ⟨hi.rdSt (show Has _ (slD a.s.trim A1 c1) from Zh) (show Has _ (slR a.s.trim A2 c2) from Zh) fa1 fa2, h.m.oldN hi, h.o.oldN hi, h.i.oldN hi, h.k.oldN hi⟩ ⟨hi.rdSt (show Has _ (slD b.s.trim A3 c3) from Zh) (show Has _ (slR b.s.trim A4 c4) from Zh) fb1 fb2, h2.m.oldN hi, h2.o.oldN hi, h2.i.oldN hi, h2.k.oldN hi⟩) ?_
 rintro _ _ ⟨_, ⟨⟨r2, rfl, hr2⟩, rfl⟩, rfl⟩
 obtain rfl : r1 = r2 := Bool.eq_iff_iff.2 (hr1.trans hr2.symm)
 refine wa_yn 6 rfl Zk Zk Zk (y_eqlb rfl (Zv rfl) (Zv rfl) (beq_self_eq_true _)) rfl ?_
 refine ZE 7 ?_
 refine wa_loadRowg 8 rfl Zk Zk Zk Zk (guard_yes rfl rfl) Zh (fun _ => rfl) (fun _ => rfl) (Zv rfl) rfl ?_
 refine wa_loadRowg 9 rfl Zk Zk Zk Zk (guard_yes rfl rfl) Zh (fun _ => rfl) (fun _ => rfl) (Zv rfl) rfl ?_
 refine wa_1 10 Zk ?_
 refine wi_tg rfl rfl (guard_yes rfl rfl) rfl (t_call rfl (fun _ _ => rfl) (fun w hi => asame_ok (Vw.trim a) (Vw.trim a) (Y.wX ⟨A1, c1, A2, c2⟩) (Y.wX ⟨A1, c1, A2, c2⟩) haw haw w ⟨hi.rdSt (show Has _ (slD a.s.trim A1 c1) from Zh) (show Has _ (slR a.s.trim A2 c2) from Zh) fa1 fa2, h.m.oldN hi, h.o.oldN hi, h.i.oldN hi, h.k.oldN hi⟩ ⟨hi.rdSt (show Has _ (slD a.s.trim A1 c1) from Zh) (show Has _ (slR a.s.trim A2 c2) from Zh) fa1 fa2, h.m.oldN hi, h.o.oldN hi, h.i.oldN hi, h.k.oldN hi⟩)) (fun _ _ _ _ _ _ _ h => by cases h) rfl ?_
 rintro _ _ ⟨_, ⟨⟨r3, rfl, hr3⟩, rfl⟩, rfl⟩
 obtain rfl : r3 = true := hr3.2 rfl
 refine ZE 11 ?_
 refine ZE 12 ?_
 refine ZF 13 ?_
 refine ZF 14 ?_
 refine ZF 17 ?_
 refine wa_1 15 Zk ?_
 refine wi_tg rfl rfl (guard_yes rfl rfl) rfl (t_buildSl1 rfl rfl (fun _ => rfl) (fun _ => rfl) rfl rfl) (fun _ _ _ _ _ _ _ h => by cases h) rfl ?_
 rintro _ _ ⟨b89, rfl, rfl⟩
 refine wa_1 16 Zk ?_
 refine wi_tg rfl rfl (guard_yes rfl rfl) rfl (t_call rfl (fun _ _ => rfl) (fun w hi => aframes_ok (some ⟨b89, 0, none⟩) 2 [⟨A, ca, l'⟩, ⟨B, cb, m'⟩] w (hi.rd Zh) (fun x hx => by simp only [List.mem_cons, List.mem_nil_iff, or_false] at hx; rcases hx with rfl | rfl; exact hl2.oldN hi; exact hm2.oldN hi))) (fun _ _ _ _ _ _ _ h => by cases h) rfl ?_
 rintro _ _ ⟨_, ⟨⟨r4, rfl, hr4⟩, rfl⟩, rfl⟩
 obtain rfl : r4 = g := Bool.eq_iff_iff.2 (hr4.trans (by rw [hok, ← hal]; simp))
 refine wa_y 18 rfl Zk Zk Zk (guard_yes rfl rfl) (y_eqlb rfl (ev_g rfl) (ev_g rfl) (beq_self_eq_true _)) rfl ?_
 refine ZE 19 ?_
 refine ZE 20 ?_
 refine wa_1 21 Zk ?_
 refine wi_tg rfl rfl (guard_yes rfl rfl) rfl (t_call rfl (fun _ _ => rfl) (fun w hi => known27_ok w)) (fun _ _ _ _ _ _ _ h => by cases h) rfl ?_
 rintro _ _ ⟨_, ⟨rfl, rfl⟩, rfl⟩
 refine ZE 22 ?_
 refine ZE 23 ?_
 refine wa_done Zk ?_
 refine Zt (Ze (ret1 (cs' := []) (.inl rfl) Zu rfl rfl ?_))
 exact ⟨rfl, rfl⟩
end Go.Proofs.YtmhpcgmjlpfheaaGreatDoor
