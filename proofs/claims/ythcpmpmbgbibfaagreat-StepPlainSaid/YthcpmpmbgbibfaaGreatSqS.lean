/- A guest's parts and the document's are alike. -/
import Derived.Test.YthcpmpmbgbibfaaGreatSqL
import Derived.Test.YthcpmpmbgbibfaaGreatInkA
import Derived.Test.YthcpmpmbgbibfaaGreatInkP
set_option linter.unusedSimpArgs false
set_option linter.unusedVariables false
set_option maxRecDepth 100000
namespace Go.Proofs.YthcpmpmbgbibfaaGreat
open Go.RowKit Go.Ink
attribute [local irreducible] OpY GuardIs

theorem conout_ok (b : Nat) (Ao : Option Addr) (co : Nat) (o : List Int) (Ai : Option Addr) (ni ci : Nat) (ho : o.length ≤ 1000000000) (w : World) (h : (conC b Ao o.length co Ai ni ci).ok w) (h2 : (b8 Ao co o).ok w) :
  Ctr Tryz.prog 40 [.pointer (some ⟨b, 0, none⟩)] w [] (fun v cs => ∃ A' c', v = .slice A' o.length c' ∧ cs = [b8 A' c' o]) := by
 refine fn_ctr Tryz.func40 rfl Tryz.ntmps40 rfl (Inv.start w) ?_
 refine Zs (Zr (ZA ?_))
 refine Zn (Zt (Zs (Zr (ZA ?_))))
 refine ZA ?_
 refine ZFa 0 ?_
 refine wl_y (y_load (fun _ => rfl) (Zv rfl)) (old_row (by assumption) rfl) rfl ?_
 refine ZS (fun w hi => cloneb_ok Ao _ co o w (RdV.oldN (slv_rd h2) hi) (by omega)) ?_
 rintro _ _ ⟨_, ⟨A', c', rfl, rfl⟩, rfl⟩
 refine ZA ?_
 refine Zn (Zt (Ze (ret1 (cs' := [slv _ _ _ _ _ _]) (.inl rfl) Zu rfl rfl ?_)))
 exact ⟨_, _, rfl, rfl⟩
theorem conin_ok (b : Nat) (Ao : Option Addr) (no co : Nat) (Ai : Option Addr) (ci : Nat) (i : List Int) (ho : i.length ≤ 1000000000) (w : World) (h : (conC b Ao no co Ai i.length ci).ok w) (h2 : (b8 Ai ci i).ok w) :
  Ctr Tryz.prog 41 [.pointer (some ⟨b, 0, none⟩)] w [] (fun v cs => ∃ A' c', v = .slice A' i.length c' ∧ cs = [b8 A' c' i]) := by
 refine fn_ctr Tryz.func41 rfl Tryz.ntmps41 rfl (Inv.start w) ?_
 refine Zs (Zr (ZA ?_))
 refine Zn (Zt (Zs (Zr (ZA ?_))))
 refine ZA ?_
 refine ZFa 1 ?_
 refine wl_y (y_load (fun _ => rfl) (Zv rfl)) (old_row (by assumption) rfl) rfl ?_
 refine ZS (fun w hi => cloneb_ok Ai _ ci i w (RdV.oldN (slv_rd h2) hi) (by omega)) ?_
 rintro _ _ ⟨_, ⟨A', c', rfl, rfl⟩, rfl⟩
 refine ZA ?_
 refine Zn (Zt (Ze (ret1 (cs' := [slv _ _ _ _ _ _]) (.inl rfl) Zu rfl rfl ?_)))
 exact ⟨_, _, rfl, rfl⟩
theorem driall_ok (b bd : Nat) (l : List Int) (w : World) (h : (driC b bd).ok w) (h2 : (dskC bd l).ok w) :
  Ctr Tryz.prog 42 [.pointer (some ⟨b, 0, none⟩)] w [] (fun v cs => ∃ A' c', v = .slice A' 1024 c' ∧ cs = [sl .u8 5 A' 1024 c' l]) := by
 refine fn_ctr Tryz.func42 rfl Tryz.ntmps42 rfl (Inv.start w) ?_
 refine Zs (Zr (ZA ?_))
 refine Zn (Zt (Zs (Zr (ZA ?_))))
 refine ZA ?_
 refine ZFa 0 ?_
 refine wl_y (y_load (fun _ => rfl) (Zv rfl)) (old_row (by assumption) rfl) rfl ?_
 refine ZS (fun w hi => cloneb_ok (some ⟨bd, 0, none⟩) 1024 1024 l w (RdV.oldN (slv_rd h2) hi) (by decide)) ?_
 rintro _ _ ⟨_, ⟨A', c', rfl, rfl⟩, rfl⟩
 refine ZA ?_
 refine Zn (Zt (Ze (ret1 (cs' := [slv _ _ _ _ _ _]) (.inl rfl) Zu rfl rfl ?_)))
 exact ⟨_, _, rfl, rfl⟩
theorem entry_eq (e : TE) : EqV Tryz.prog 10000 83 e.v e.v :=
 .struct rfl Zk (EqF.cons (by decide) (fun _ => rfl) (fun _ => rfl) (.bool rfl) (EqF.cons (by decide) (fun _ => rfl) (fun _ => rfl) (.int rfl) (EqF.cons (by decide) (fun _ => rfl) (fun _ => rfl) (.int rfl) (EqF.cons (by decide) (fun _ => rfl) (fun _ => rfl) (.int rfl) EqF.nil))))
theorem entry_guard : Tryz.prog.eqGuardType Tryz.prog.depth 83 = false := by kernel_rfl
abbrev bothF (F : FLoc) (Y Z : DAdr) (U : Mmu) (tu : List Bool) (d : Dev) : List Chunk := worldRow F :: (ubF F.bu F.bb F.L F.D Y U d ++ worldR F Z U.m.data tu U.t d)
set_option maxHeartbeats 2000000 in
theorem alike_ok (F : FLoc) (Y Z : DAdr) (U : Mmu) (tu : List Bool) (d : Dev) (hU : UOk F.L.n U) (hn : F.L.n ≤ 64) (hd : d.ok) (ho : d.out.length ≤ 1000000000) (w : World) (hi : Inv w (blocks (bothF F Y Z U tu d)) (bothF F Y Z U tu d) w) :
  Ctr Tryz.prog 10 [.pointer (some ⟨F.bw, 0, none⟩)] w (bothF F Y Z U tu d) (fun v cs => v = .bool true ∧ cs = bothF F Y Z U tu d) := by
 have hin : d.inp.length ≤ 1000000000 := Nat.le_trans hd.wf.inp (by decide)
 obtain ⟨UM, T⟩ := U
 have hdl : UM.data.length = F.L.n * 64 := hU.m.dl
 have hT : T.length = 16 := hU.t
 refine fn_ctr Tryz.func10 rfl Tryz.ntmps10 rfl hi ?_
 refine Zs (Zr (ZA ?_))
 refine Zn (Zt (Zs (Zr (ZA ?_))))
 refine ZA ?_
 refine ZFa 0 ?_
 refine ZC ?_
 refine ZS (fun w hi => ubuf_ok F.bu F.L.bm F.bb w (hi.get Zh)) ?_
 rintro _ _ ⟨_, ⟨rfl, rfl⟩, rfl⟩
 refine ZA ?_
 refine Zn (Zt (Zs (Zs (ws_draw ⟨fun j => List.elem j [], []⟩ [(0, 0), (1, 0), (2, 0), (3, 0), (4, 0), (5, 0), (6, 1), (9, 0), (10, 0), (11, 0), (12, 1), (13, 0), (14, 0), (15, 1), (16, 0), (17, 0), (18, 1), (19, 1), (7, 2), (8, 1), (20, 0), (21, 0), (22, 0), (23, 0), (24, 0), (25, 0), (26, 1), (27, 0), (28, 0), (29, 1), (31, 0), (32, 0), (33, 0), (34, 1), (35, 0), (36, 0), (37, 1), (30, 2), (38, 0), (39, 0), (40, 0), (41, 0), (42, 0), (43, 0), (44, 1), (45, 0), (46, 0), (47, 1), (49, 0), (50, 0), (51, 0), (52, 1), (53, 0), (54, 0), (55, 1), (48, 2), (56, 0), (57, 0), (58, 0), (59, 0), (60, 0), (61, 0), (62, 1), (63, 0), (64, 0), (65, 1), (67, 0), (68, 0), (69, 0), (70, 1), (71, 0), (72, 0), (73, 1), (66, 2), (74, 0), (75, 0), (76, 0), (77, 0), (78, 0), (79, 0), (80, 1), (81, 0), (82, 0), (83, 1), (86, 0), (87, 0), (88, 0), (89, 1), (90, 0), (91, 0), (92, 1), (93, 1), (84, 2), (85, 1), (94, 0), (95, 0), (96, 0), (97, 0), (98, 0), (99, 0), (100, 1), (101, 0), (102, 0), (103, 1), (106, 0), (107, 0), (108, 0), (109, 1), (110, 0), (111, 0), (112, 1), (113, 1), (104, 2), (105, 1), (114, 0), (115, 0), (116, 0), (117, 0), (118, 0), (119, 0), (120, 1), (121, 0), (122, 0), (123, 1), (126, 0), (127, 0), (128, 0), (129, 1), (130, 0), (131, 0), (132, 1), (133, 1), (124, 2), (125, 1), (134, 0), (135, 0)] Zk Zk ?_))))
 refine ws_yn rfl (y_move (Zv rfl)) rfl ?_
 refine ws_yn rfl (y_pnil rfl (Zv rfl)) rfl ?_
 refine ws_yn rfl (y_move (Zv rfl)) rfl ?_
 refine ws_y rfl (guard_no rfl rfl) (y_move (Zv rfl)) rfl ?_
 refine ws_y rfl (guard_no rfl rfl) (y_nil (ev_g rfl)) rfl ?_
 refine ws_y rfl (guard_no rfl rfl) (y_field 2 rfl (ev_g rfl) Zf) rfl ?_
 refine ws_l rfl (guard_no rfl rfl) (y_load (fun _ => rfl) (ev_g rfl)) (row_cell Zh rfl) rfl ?_
 refine ws_y rfl (guard_no rfl rfl) (y_move (Zv rfl)) rfl ?_
 refine ws_y rfl (guard_no rfl rfl) (y_nil (ev_g rfl)) rfl ?_
 refine ws_y rfl (guard_no rfl rfl) (y_field 3 rfl (ev_g rfl) Zf) rfl ?_
 refine ws_l rfl (guard_no rfl rfl) (y_load (fun _ => rfl) (ev_g rfl)) (row_cell Zh rfl) rfl ?_
 refine ws_y rfl (guard_no rfl rfl) (y_nil (ev_g rfl)) rfl ?_
 refine ws_y rfl (guard_no rfl rfl) (y_field 0 rfl (ev_g rfl) Zf) rfl ?_
 refine ws_l rfl (guard_no rfl rfl) (y_load (fun _ => rfl) (ev_g rfl)) (row_cell Zh rfl) rfl ?_
 refine ws_y rfl (guard_no rfl rfl) (y_nil (ev_g rfl)) rfl ?_
 refine ws_y rfl (guard_no rfl rfl) (y_field 0 rfl (ev_g rfl) Zf) rfl ?_
 refine ws_l rfl (guard_no rfl rfl) (y_load (fun _ => rfl) (ev_g rfl)) (row_cell Zh rfl) rfl ?_
 refine ws_fact (fun w hi => rd_any (hi.rd (show Has _ (sl .u8 5 (some ⟨F.K.bB, 0, none⟩) (F.L.n * 64) (F.L.n * 64) UM.data) from Zh))) (fun hrd29 => ?_)
 refine ws_l rfl (guard_no rfl rfl) (y_bstr rfl rfl rfl (ev_g rfl) hrd29) (fun w hi => RdV.cellsO (hi.rd (show Has _ (sl .u8 5 (some ⟨F.K.bB, 0, none⟩) (F.L.n * 64) (F.L.n * 64) UM.data) from Zh))) rfl ?_
 refine ws_1 rfl ?_
 refine wsi_tg rfl rfl (guard_no rfl rfl) rfl (t_call rfl (fun _ _ => rfl) (fun w hi => rall_ok F.L UM w (hi.get Zh))) (fun _ _ _ _ _ _ _ h => by cases h) rfl ?_
 rintro _ _ ⟨_, ⟨bx, rfl, rfl⟩, rfl⟩
 refine ws_fact (fun w hi => rd_any (hi.rd (show Has _ (sl .u8 5 (some ⟨bx, 0, none⟩) UM.data.length UM.data.length UM.data) from Zh))) (fun hrd18 => ?_)
 refine ws_l rfl (guard_no rfl rfl) (y_bstr rfl rfl rfl (ev_g rfl) hrd18) (fun w hi => RdV.cellsO (hi.rd (show Has _ (sl .u8 5 (some ⟨bx, 0, none⟩) UM.data.length UM.data.length UM.data) from Zh))) rfl ?_
 refine ws_y rfl (guard_no rfl rfl) (y_neqS rfl (ev_g rfl) (ev_g rfl) (bne_self_eq_false _)) rfl ?_
 refine ws_yn rfl (y_or (Zv rfl) (pk_no rfl (fun _ => rfl))) rfl ?_
 refine ws_yn rfl (y_move (Zv rfl)) rfl ?_
 refine ws_y rfl (guard_no rfl rfl) (y_move (Zv rfl)) rfl ?_
 refine ws_y rfl (guard_no rfl rfl) (y_nil (ev_g rfl)) rfl ?_
 refine ws_y rfl (guard_no rfl rfl) (y_field 1 rfl (ev_g rfl) Zf) rfl ?_
 refine ws_l rfl (guard_no rfl rfl) (y_load (fun _ => rfl) (ev_g rfl)) (row_cell Zh rfl) rfl ?_
 refine ws_y rfl (guard_no rfl rfl) (y_nil (ev_g rfl)) rfl ?_
 refine ws_y rfl (guard_no rfl rfl) (y_field 0 rfl (ev_g rfl) Zf) rfl ?_
 refine ws_l rfl (guard_no rfl rfl) (y_load (fun _ => rfl) (ev_g rfl)) (row_cell Zh rfl) rfl ?_
 refine ws_y rfl (guard_no rfl rfl) (y_move (Zv rfl)) rfl ?_
 refine ws_y rfl (guard_no rfl rfl) (y_nil (ev_g rfl)) rfl ?_
 refine ws_y rfl (guard_no rfl rfl) (y_field 4 rfl (ev_g rfl) Zf) rfl ?_
 refine ws_l rfl (guard_no rfl rfl) (y_load (fun _ => rfl) (ev_g rfl)) (row_cell Zh rfl) rfl ?_
 refine ws_y rfl (guard_no rfl rfl) (y_nil (ev_g rfl)) rfl ?_
 refine ws_y rfl (guard_no rfl rfl) (y_field 1 rfl (ev_g rfl) Zf) rfl ?_
 refine ws_l rfl (guard_no rfl rfl) (y_load (fun _ => rfl) (ev_g rfl)) (row_cell Zh rfl) rfl ?_
 refine ws_1 rfl ?_
 refine wsi_tg rfl rfl (guard_no rfl rfl) rfl (t_call rfl (fun _ _ => rfl) (fun w hi => pending_ok F.D.bi d.pend d.mask w (hi.get Zh))) (fun _ _ _ _ _ _ _ h => by cases h) rfl ?_
 rintro _ _ ⟨_, ⟨rfl, rfl⟩, rfl⟩
 refine ws_y rfl (guard_no rfl rfl) (y_neq (ev_g rfl) (ev_g rfl) (bne_self_eq_false _)) rfl ?_
 refine ws_yn rfl (y_or (Zv rfl) (pk_no rfl (fun _ => rfl))) rfl ?_
 refine ws_yn rfl (y_move (Zv rfl)) rfl ?_
 refine ws_y rfl (guard_no rfl rfl) (y_move (Zv rfl)) rfl ?_
 refine ws_y rfl (guard_no rfl rfl) (y_nil (ev_g rfl)) rfl ?_
 refine ws_y rfl (guard_no rfl rfl) (y_field 1 rfl (ev_g rfl) Zf) rfl ?_
 refine ws_l rfl (guard_no rfl rfl) (y_load (fun _ => rfl) (ev_g rfl)) (row_cell Zh rfl) rfl ?_
 refine ws_y rfl (guard_no rfl rfl) (y_nil (ev_g rfl)) rfl ?_
 refine ws_y rfl (guard_no rfl rfl) (y_field 0 rfl (ev_g rfl) Zf) rfl ?_
 refine ws_l rfl (guard_no rfl rfl) (y_load (fun _ => rfl) (ev_g rfl)) (row_cell Zh rfl) rfl ?_
 refine ws_y rfl (guard_no rfl rfl) (y_move (Zv rfl)) rfl ?_
 refine ws_y rfl (guard_no rfl rfl) (y_nil (ev_g rfl)) rfl ?_
 refine ws_y rfl (guard_no rfl rfl) (y_field 4 rfl (ev_g rfl) Zf) rfl ?_
 refine ws_l rfl (guard_no rfl rfl) (y_load (fun _ => rfl) (ev_g rfl)) (row_cell Zh rfl) rfl ?_
 refine ws_y rfl (guard_no rfl rfl) (y_nil (ev_g rfl)) rfl ?_
 refine ws_y rfl (guard_no rfl rfl) (y_field 2 rfl (ev_g rfl) Zf) rfl ?_
 refine ws_l rfl (guard_no rfl rfl) (y_load (fun _ => rfl) (ev_g rfl)) (row_cell Zh rfl) rfl ?_
 refine ws_1 rfl ?_
 refine wsi_tg rfl rfl (guard_no rfl rfl) rfl (t_call rfl (fun _ _ => rfl) (fun w hi => mask_ok F.D.bi d.pend d.mask w (hi.get Zh))) (fun _ _ _ _ _ _ _ h => by cases h) rfl ?_
 rintro _ _ ⟨_, ⟨rfl, rfl⟩, rfl⟩
 refine ws_y rfl (guard_no rfl rfl) (y_neq (ev_g rfl) (ev_g rfl) (bne_self_eq_false _)) rfl ?_
 refine ws_yn rfl (y_or (Zv rfl) (pk_no rfl (fun _ => rfl))) rfl ?_
 refine ws_yn rfl (y_move (Zv rfl)) rfl ?_
 refine ws_y rfl (guard_no rfl rfl) (y_move (Zv rfl)) rfl ?_
 refine ws_y rfl (guard_no rfl rfl) (y_nil (ev_g rfl)) rfl ?_
 refine ws_y rfl (guard_no rfl rfl) (y_field 1 rfl (ev_g rfl) Zf) rfl ?_
 refine ws_l rfl (guard_no rfl rfl) (y_load (fun _ => rfl) (ev_g rfl)) (row_cell Zh rfl) rfl ?_
 refine ws_y rfl (guard_no rfl rfl) (y_nil (ev_g rfl)) rfl ?_
 refine ws_y rfl (guard_no rfl rfl) (y_field 1 rfl (ev_g rfl) Zf) rfl ?_
 refine ws_l rfl (guard_no rfl rfl) (y_load (fun _ => rfl) (ev_g rfl)) (row_cell Zh rfl) rfl ?_
 refine ws_y rfl (guard_no rfl rfl) (y_move (Zv rfl)) rfl ?_
 refine ws_y rfl (guard_no rfl rfl) (y_nil (ev_g rfl)) rfl ?_
 refine ws_y rfl (guard_no rfl rfl) (y_field 4 rfl (ev_g rfl) Zf) rfl ?_
 refine ws_l rfl (guard_no rfl rfl) (y_load (fun _ => rfl) (ev_g rfl)) (row_cell Zh rfl) rfl ?_
 refine ws_y rfl (guard_no rfl rfl) (y_nil (ev_g rfl)) rfl ?_
 refine ws_y rfl (guard_no rfl rfl) (y_field 3 rfl (ev_g rfl) Zf) rfl ?_
 refine ws_l rfl (guard_no rfl rfl) (y_load (fun _ => rfl) (ev_g rfl)) (row_cell Zh rfl) rfl ?_
 refine ws_1 rfl ?_
 refine wsi_tg rfl rfl (guard_no rfl rfl) rfl (t_call rfl (fun _ _ => rfl) (fun w hi => timat_ok F.D.bti d.timer w (hi.get Zh))) (fun _ _ _ _ _ _ _ h => by cases h) rfl ?_
 rintro _ _ ⟨_, ⟨rfl, rfl⟩, rfl⟩
 refine ws_y rfl (guard_no rfl rfl) (y_neq (ev_g rfl) (ev_g rfl) (bne_self_eq_false _)) rfl ?_
 refine ws_yn rfl (y_or (Zv rfl) (pk_no rfl (fun _ => rfl))) rfl ?_
 refine ws_yn rfl (y_move (Zv rfl)) rfl ?_
 refine ws_y rfl (guard_no rfl rfl) (y_move (Zv rfl)) rfl ?_
 refine ws_y rfl (guard_no rfl rfl) (y_nil (ev_g rfl)) rfl ?_
 refine ws_y rfl (guard_no rfl rfl) (y_field 1 rfl (ev_g rfl) Zf) rfl ?_
 refine ws_l rfl (guard_no rfl rfl) (y_load (fun _ => rfl) (ev_g rfl)) (row_cell Zh rfl) rfl ?_
 refine ws_y rfl (guard_no rfl rfl) (y_nil (ev_g rfl)) rfl ?_
 refine ws_y rfl (guard_no rfl rfl) (y_field 2 rfl (ev_g rfl) Zf) rfl ?_
 refine ws_l rfl (guard_no rfl rfl) (y_load (fun _ => rfl) (ev_g rfl)) (row_cell Zh rfl) rfl ?_
 refine ws_y rfl (guard_no rfl rfl) (y_move (Zv rfl)) rfl ?_
 refine ws_y rfl (guard_no rfl rfl) (y_nil (ev_g rfl)) rfl ?_
 refine ws_y rfl (guard_no rfl rfl) (y_field 4 rfl (ev_g rfl) Zf) rfl ?_
 refine ws_l rfl (guard_no rfl rfl) (y_load (fun _ => rfl) (ev_g rfl)) (row_cell Zh rfl) rfl ?_
 refine ws_y rfl (guard_no rfl rfl) (y_nil (ev_g rfl)) rfl ?_
 refine ws_y rfl (guard_no rfl rfl) (y_field 4 rfl (ev_g rfl) Zf) rfl ?_
 refine ws_l rfl (guard_no rfl rfl) (y_load (fun _ => rfl) (ev_g rfl)) (row_cell Zh rfl) rfl ?_
 refine ws_fact (fun w hi => rd_any (hi.rd (show Has _ (b8 Z.Ao Z.co d.out) from Zh))) (fun hrd103 => ?_)
 refine ws_l rfl (guard_no rfl rfl) (y_bstr rfl rfl rfl (ev_g rfl) hrd103) (fun w hi => RdV.cellsO (hi.rd (show Has _ (b8 Z.Ao Z.co d.out) from Zh))) rfl ?_
 refine ws_1 rfl ?_
 refine wsi_tg rfl rfl (guard_no rfl rfl) rfl (t_call rfl (fun _ _ => rfl) (fun w hi => conout_ok F.D.bcn Y.Ao Y.co d.out Y.Ai d.inp.length Y.ci ho w (hi.get Zh) (hi.get Zh))) (fun _ _ _ _ _ _ _ h => by cases h) rfl ?_
 rintro _ _ ⟨_, ⟨A1, c1, rfl, rfl⟩, rfl⟩
 refine ws_fact (fun w hi => rd_any (hi.rd (show Has _ (b8 A1 c1 d.out) from Zh))) (fun hrd95 => ?_)
 refine ws_l rfl (guard_no rfl rfl) (y_bstr rfl rfl rfl (ev_g rfl) hrd95) (fun w hi => RdV.cellsO (hi.rd (show Has _ (b8 A1 c1 d.out) from Zh))) rfl ?_
 refine ws_y rfl (guard_no rfl rfl) (y_neqS rfl (ev_g rfl) (ev_g rfl) (bne_self_eq_false _)) rfl ?_
 refine ws_yn rfl (y_or (Zv rfl) (pk_no rfl (fun _ => rfl))) rfl ?_
 refine ws_yn rfl (y_move (Zv rfl)) rfl ?_
 refine ws_y rfl (guard_no rfl rfl) (y_move (Zv rfl)) rfl ?_
 refine ws_y rfl (guard_no rfl rfl) (y_nil (ev_g rfl)) rfl ?_
 refine ws_y rfl (guard_no rfl rfl) (y_field 1 rfl (ev_g rfl) Zf) rfl ?_
 refine ws_l rfl (guard_no rfl rfl) (y_load (fun _ => rfl) (ev_g rfl)) (row_cell Zh rfl) rfl ?_
 refine ws_y rfl (guard_no rfl rfl) (y_nil (ev_g rfl)) rfl ?_
 refine ws_y rfl (guard_no rfl rfl) (y_field 2 rfl (ev_g rfl) Zf) rfl ?_
 refine ws_l rfl (guard_no rfl rfl) (y_load (fun _ => rfl) (ev_g rfl)) (row_cell Zh rfl) rfl ?_
 refine ws_y rfl (guard_no rfl rfl) (y_move (Zv rfl)) rfl ?_
 refine ws_y rfl (guard_no rfl rfl) (y_nil (ev_g rfl)) rfl ?_
 refine ws_y rfl (guard_no rfl rfl) (y_field 4 rfl (ev_g rfl) Zf) rfl ?_
 refine ws_l rfl (guard_no rfl rfl) (y_load (fun _ => rfl) (ev_g rfl)) (row_cell Zh rfl) rfl ?_
 refine ws_y rfl (guard_no rfl rfl) (y_nil (ev_g rfl)) rfl ?_
 refine ws_y rfl (guard_no rfl rfl) (y_field 5 rfl (ev_g rfl) Zf) rfl ?_
 refine ws_l rfl (guard_no rfl rfl) (y_load (fun _ => rfl) (ev_g rfl)) (row_cell Zh rfl) rfl ?_
 refine ws_fact (fun w hi => rd_any (rdC_rd (hi.get (show Has _ (rdC Z.Ai d.inp.length Z.ci (ints .u8 d.inp)) from Zh)))) (fun hrd123 => ?_)
 refine ws_l rfl (guard_no rfl rfl) (y_bstr rfl rfl rfl (ev_g rfl) hrd123) (fun w hi => RdV.cellsO (rdC_rd (hi.get (show Has _ (rdC Z.Ai d.inp.length Z.ci (ints .u8 d.inp)) from Zh)))) rfl ?_
 refine ws_1 rfl ?_
 refine wsi_tg rfl rfl (guard_no rfl rfl) rfl (t_call rfl (fun _ _ => rfl) (fun w hi => conin_ok F.D.bcn Y.Ao d.out.length Y.co Y.Ai Y.ci d.inp hin w (hi.get Zh) (hi.get Zh))) (fun _ _ _ _ _ _ _ h => by cases h) rfl ?_
 rintro _ _ ⟨_, ⟨A2, c2, rfl, rfl⟩, rfl⟩
 refine ws_fact (fun w hi => rd_any (hi.rd (show Has _ (b8 A2 c2 d.inp) from Zh))) (fun hrd115 => ?_)
 refine ws_l rfl (guard_no rfl rfl) (y_bstr rfl rfl rfl (ev_g rfl) hrd115) (fun w hi => RdV.cellsO (hi.rd (show Has _ (b8 A2 c2 d.inp) from Zh))) rfl ?_
 refine ws_y rfl (guard_no rfl rfl) (y_neqS rfl (ev_g rfl) (ev_g rfl) (bne_self_eq_false _)) rfl ?_
 refine ws_yn rfl (y_or (Zv rfl) (pk_no rfl (fun _ => rfl))) rfl ?_
 refine ws_yn rfl (y_move (Zv rfl)) rfl ?_
 refine ws_y rfl (guard_no rfl rfl) (y_move (Zv rfl)) rfl ?_
 refine ws_y rfl (guard_no rfl rfl) (y_nil (ev_g rfl)) rfl ?_
 refine ws_y rfl (guard_no rfl rfl) (y_field 1 rfl (ev_g rfl) Zf) rfl ?_
 refine ws_l rfl (guard_no rfl rfl) (y_load (fun _ => rfl) (ev_g rfl)) (row_cell Zh rfl) rfl ?_
 refine ws_y rfl (guard_no rfl rfl) (y_nil (ev_g rfl)) rfl ?_
 refine ws_y rfl (guard_no rfl rfl) (y_field 3 rfl (ev_g rfl) Zf) rfl ?_
 refine ws_l rfl (guard_no rfl rfl) (y_load (fun _ => rfl) (ev_g rfl)) (row_cell Zh rfl) rfl ?_
 refine ws_y rfl (guard_no rfl rfl) (y_move (Zv rfl)) rfl ?_
 refine ws_y rfl (guard_no rfl rfl) (y_nil (ev_g rfl)) rfl ?_
 refine ws_y rfl (guard_no rfl rfl) (y_field 4 rfl (ev_g rfl) Zf) rfl ?_
 refine ws_l rfl (guard_no rfl rfl) (y_load (fun _ => rfl) (ev_g rfl)) (row_cell Zh rfl) rfl ?_
 refine ws_y rfl (guard_no rfl rfl) (y_nil (ev_g rfl)) rfl ?_
 refine ws_y rfl (guard_no rfl rfl) (y_field 6 rfl (ev_g rfl) Zf) rfl ?_
 refine ws_l rfl (guard_no rfl rfl) (y_load (fun _ => rfl) (ev_g rfl)) (row_cell Zh rfl) rfl ?_
 refine ws_fact (fun w hi => rd_any (hi.rd (show Has _ (dskC F.bd d.disk) from Zh))) (fun hrd143 => ?_)
 refine ws_l rfl (guard_no rfl rfl) (y_bstr rfl rfl rfl (ev_g rfl) hrd143) (fun w hi => RdV.cellsO (hi.rd (show Has _ (dskC F.bd d.disk) from Zh))) rfl ?_
 refine ws_1 rfl ?_
 refine wsi_tg rfl rfl (guard_no rfl rfl) rfl (t_call rfl (fun _ _ => rfl) (fun w hi => driall_ok F.D.bdr F.D.bdk d.disk w (hi.get Zh) (hi.get Zh))) (fun _ _ _ _ _ _ _ h => by cases h) rfl ?_
 rintro _ _ ⟨_, ⟨A3, c3, rfl, rfl⟩, rfl⟩
 refine ws_fact (fun w hi => rd_any (hi.rd (show Has _ (sl .u8 5 A3 1024 c3 d.disk) from Zh))) (fun hrd135 => ?_)
 refine ws_l rfl (guard_no rfl rfl) (y_bstr rfl rfl rfl (ev_g rfl) hrd135) (fun w hi => RdV.cellsO (hi.rd (show Has _ (sl .u8 5 A3 1024 c3 d.disk) from Zh))) rfl ?_
 refine ws_y rfl (guard_no rfl rfl) (y_neqS rfl (ev_g rfl) (ev_g rfl) (bne_self_eq_false _)) rfl ?_
 refine ws_yn rfl (y_or (Zv rfl) (pk_no rfl (fun _ => rfl))) rfl ?_
 refine ws_done ?_
 refine Zt (wc_cond_f rfl (rfl) ?_)
 refine Zc (Zt (Zs (Zs (Zr (wl_pick (bothF F Y Z ⟨UM, T⟩ tu d) Zj ?_)))))
 refine ZA ?_
 refine Zn (Zt (Zx ?_))
 refine wc_loop (fun k : Nat => [(0, .pointer (some ⟨F.bw, 0, none⟩)), (3, .pointer (some ⟨F.bb, 0, none⟩)), (4, .int .i64 (k : Int))]) (fun _ => bothF F Y Z ⟨UM, T⟩ tu d) (fun k => k ≤ 16) (fun k => 16 - k) (0) ?_ ?_ ?_ ?_
 ·exact Nat.zero_le _
 ·exact Zwk
 ·exact List.Sublist.refl _
 rintro k hk
 refine Zs (Zs (Zr (ZA ?_)))
 refine ZA ?_
 refine Zn (Zt ?_)
 refine wc_cond _ rfl (fun hc5 => ?_) (fun hc5 => ?_)
 ·simp only [decide_eq_true_eq] at hc5
  have hk16 : k < 16 := (by omega)
  have he : T[k]? = some (T.getD k TE.zero) := (by simp [show k < T.length by omega])
  have HA := fun w h => tat_ok F.bb T hT k hk16 w h
  obtain ⟨e, hee⟩ : ∃ e, T.getD k TE.zero = e := ⟨_, rfl⟩
  rw [hee] at he HA
  refine Zc (Zt (Zs (Zx (Zs (wc_draw ⟨fun j => List.elem j [], []⟩ Zk ?_)))))
  refine ZE 0 ?_
  refine ZE 1 ?_
  refine ZE 3 ?_
  refine ZE 4 ?_
  refine ZFe 5 3 ?_
  refine ZG 6 ?_
  refine ZE 7 ?_
  refine ZE 8 ?_
  refine ZFe 9 1 ?_
  refine wa_yn 10 rfl Zk Zk Zk (y_indexA (j := k) (sz := 4) (r := 1 + k * 4) rfl (fun _ => rfl) (Zv rfl) (Zv rfl) (fun _ => by omega) (fun _ => by omega) (by omega)) rfl ?_
  refine wa_ln 11 rfl Zk Zk Zk Zk (y_loadN (vs := e.cells) (fun _ => rfl) (fun _ => rfl) (Zv rfl)) (row_cells (o := 1 + k * 4) Zh (by rw [Nat.add_comm]; exact tlbCells_get he)) rfl ?_
  refine wa_1 2 Zk ?_
  refine ZT (fun w hi => HA w (hi.get Zh)) ?_
  rintro _ _ ⟨_, ⟨rfl, rfl⟩, rfl⟩
  refine wa_yn 12 rfl Zk Zk Zk (y_neqT entry_guard (entry_eq e) (Zv rfl) (Zv rfl)) rfl ?_
  refine wa_done Zk ?_
  refine Zt (wc_cond_f rfl (rfl) ?_)
  refine Zc (Zo (Zt (Zr (ZA ?_))))
  refine Zy (y_add (Zv rfl) (Zv rfl) Zl) ?_
  refine ZA ?_
  refine Zn ?_
  refine q_mid (k + 1) ?_ ?_ ?_
  ·exact ⟨show k + 1 ≤ 16 by omega, show 16 - (k + 1) < 16 - k by omega⟩
  ·exact Zwk
  exact List.Sublist.refl _
 refine wc_exit ?_
 refine q_then_exit ?_
 refine q_then_exit ?_
 refine q_block_same rfl ?_
 refine Zt (Zs (Zr (ZA ?_)))
 refine Zn (Zt (Ze (qok_pick (bothF F Y Z ⟨UM, T⟩ tu d) Zj ?_)))
 refine ret1 (cs' := (bothF F Y Z ⟨UM, T⟩ tu d)) (.inl rfl) (List.Sublist.refl _) rfl rfl ?_
 exact ⟨rfl, rfl⟩
end Go.Proofs.YthcpmpmbgbibfaaGreat
