/- The law StepTraps. -/
import Derived.Test.YtobjiljkfmcalaaGreatSqT
import Derived.Test.YtobjiljkfmcalaaGreatInkA
set_option linter.unusedSimpArgs false
set_option linter.unusedVariables false
set_option maxRecDepth 100000
namespace Go.Proofs.YtobjiljkfmcalaaGreat
open Go.RowKit Go.Ink
set_option maxHeartbeats 4000000 in
theorem stepTraps_ok (s : St) (hs : s.wf) (Ad Ar B : Option Addr) (cd cr cb : Nat) (b : List Int) (hb : u8s b) (n v : Int) (hv : u32 v) (w : World) (h : RdSt w s Ad Ar cd cr) (hB : Rd w .u8 B b.length cb b) :
    Ctr Tryz.prog 10 [sv s Ad cd Ar cr, .slice B b.length cb, .int .i64 n, .int .u32 v] w [] (fun v cs => v = .bool true ∧ cs = []) := by
  have hnil : u8s [] := fun x hx => by cases hx
  have hb1 := u8s_take hb 256
  have hbl : (b.take 256).length ≤ 256 := by rw [List.length_take]; omega
  have hB1 := rd_take hB 256
  have HCut := fun w => cut_ok B cb b 256 w hB.cap
  obtain ⟨bb, hbb⟩ : ∃ bb, b.take 256 = bb := ⟨_, rfl⟩
  rw [hbb] at hb1 hbl hB1 HCut
  have HF := fun w h => fresh_ok B none cb 0 4 bb [] (by decide) (by decide) hbl hb1 (by decide) w h (rdNil w .u8)
  have HT := trim_ok s hs Ad Ar cd cr
  have htw := St.tr_wf hs
  have htr := St.tr_right (s := s)
  have hfit := St.fits htr
  obtain ⟨⟨pc, d, r, fl, su, pg, ie, rt, ve, ep, ca, ad, es, ei, co, ha⟩, ht⟩ : ∃ t, s.trim = t := ⟨_, rfl⟩
  rw [ht] at HT htw htr hfit
  obtain ⟨hd16, hr16, hf15⟩ := hfit
  have hd16 : d.length ≤ 16 := hd16
  have hr16 : r.length ≤ 16 := hr16
  have hU0 : UOk 4 ⟨Mem.init 4 bb, tflush⟩ := ⟨init_ok hbl hb1, tflush_len⟩
  have hd0 := Dev.init_ok (l := []) (by decide) hnil
  have ho0 : (Dev.init []).out.length ≤ 0 := by decide
  have hrd : refData 4 bb = (Mem.init 4 bb).data := rfl
  rw [hrd] at HF
  obtain ⟨M, hM⟩ : ∃ M, Mem.init 4 bb = M := ⟨_, rfl⟩
  obtain ⟨d0, hdd⟩ : ∃ d, Dev.init [] = d := ⟨_, rfl⟩
  obtain ⟨T0, hTT⟩ : ∃ T, tflush = T := ⟨_, rfl⟩
  obtain ⟨tu, htu⟩ : ∃ T, List.replicate 4 false = T := ⟨_, rfl⟩
  rw [hM, hTT, hdd, htu] at HF
  rw [hM, hTT] at hU0
  rw [hdd] at hd0 ho0
  have hw' : (⟨pc, d, r, fl, su, false, ie, rt, ve, ep, ca, ad, es, ei, co, ha⟩ : St).wf := ⟨htw.pc, htw.flags, htw.root, htw.vec, htw.epc, htw.cause, htw.addr, htw.count, htw.d, htw.r⟩
  have hr' : (⟨pc, d, r, fl, su, false, ie, rt, ve, ep, ca, ad, es, ei, co, ha⟩ : St).right = true := St.mkr hd16 hr16 hf15
  have HS := fun A B C D c1 c2 c3 c4 w h h2 => rSame_ok ⟨pc, d, r, fl, su, false, ie, rt, ve, ep, ca, ad, es, ei, co, ha⟩ ⟨pc, d, r, fl, su, false, ie, rt, ve, ep, ca, ad, es, ei, co, ha⟩ A B C D c1 c2 c3 c4 w h h2
  rw [St.rsame_self] at HS
  refine fn_ctr Tryz.func10 rfl Tryz.ntmps10 rfl (Inv.start w) ?_
  refine Zs (Zr (wl_t (t_box rfl rfl) rfl ?_))
  rintro _ _ ⟨b4, rfl, rfl⟩
  refine Zg rfl (Zn (Zt (Zs (Zr (Zm rfl (wl_t (t_call rfl (fun _ _ => rfl) (fun w hi => HCut w)) rfl ?_))))))
  rintro _ _ ⟨_, ⟨rfl, rfl⟩, rfl⟩
  refine wl_t (t_call rfl (fun _ _ => rfl) (fun w hi => HF w (hB1.oldN hi))) rfl ?_
  rintro _ _ ⟨_, ⟨F, hF, rfl, rfl⟩, rfl⟩
  refine Zg rfl (Zn (Zt (Zs (Zs (Zr (Zm rfl (Zy (y_pnil rfl (Zv rfl)) (Zn (Zt (wc_cond_f rfl (rfl) ?_))))))))))
  refine Zc (Zt (Zs (Zr (wl_loadRow Zh (fun _ => rfl) (fun _ => rfl) (Zv rfl) rfl ?_))))
  refine wl_t (t_call rfl (fun _ _ => rfl) (fun w hi => HT w (h.oldN hi))) rfl ?_
  rintro _ _ ⟨_, ⟨A1, c1, A2, c2, rfl, rfl⟩, rfl⟩
  refine wl_t0 (t_storeN (fun _ => rfl) rfl rfl (allT rfl) Za (by exact rfl)) ?_
  rintro _ _ ⟨rfl, rfl⟩
  refine Zn (Zt (Zs (Zr (Zy (y_field 5 rfl (Zv rfl) Zf) ?_))))
  refine wl_t0 (t_store (fun _ => rfl) rfl rfl rfl Za Zp) ?_
  rintro _ _ ⟨rfl, rfl⟩
  refine Zn (Zt (Zs (Zr (wl_loadRow Zh (fun _ => rfl) (fun _ => rfl) (Zv rfl) rfl ?_))))
  refine wl_t (t_call rfl (fun _ _ => rfl) (fun w hi => refcopy_ok ⟨pc, d, r, fl, su, false, ie, rt, ve, ep, ca, ad, es, ei, co, ha⟩ A1 A2 c1 c2 w (hi.rdSt Zh Zh (show d.length * 4 ≤ _ by omega) (show r.length * 4 ≤ _ by omega)))) rfl ?_
  rintro _ _ ⟨_, ⟨A5, c5, A6, c6, rfl, rfl⟩, rfl⟩
  refine wl_t (t_alloc (fun _ => rfl) rfl) rfl ?_
  rintro _ _ ⟨b10, rfl, rfl⟩
  refine wl_t0 (t_storeN (fun _ => rfl) rfl rfl (allT rfl) Za (by exact rfl)) ?_
  rintro _ _ ⟨rfl, rfl⟩
  refine Zn (Zt (Zs (Zr (Zm rfl (Zm rfl (wl_t (t_call rfl (fun _ _ => rfl) (fun w hi => instr_ok n v hv w)) rfl ?_))))))
  rintro _ _ ⟨_, ⟨⟨op, nn, rfl, hnu, -⟩, rfl⟩, rfl⟩
  have HD := fun w hin h => do_ok F.bu F.bb F.L F.D ⟨none, 0, none, 0⟩ ⟨pc, d, r, fl, su, false, ie, rt, ve, ep, ca, ad, es, ei, co, ha⟩ A1 A2 c1 c2 op nn ⟨M, T0⟩ d0 hw' hnu hU0.t hd0.wf (by omega) w hin h
  have hG := do_goes (op := op) (nn := nn) hw' hr' hnu hU0 hd0
  have hDD := do_did (op := op) (nn := nn) hw' hr' hnu hU0 hd0
  have hTr := do_trapped (n := 4) (op := op) (nn := nn) (U := ⟨M, T0⟩) (d := d0) hw' hr' hnu hU0 hd0 rfl
  have HC := check_ok ⟨pc, d, r, fl, su, false, ie, rt, ve, ep, ca, ad, es, ei, co, ha⟩ A1 A2 c1 c2 op nn hnu
  rw [hF] at HD
  obtain ⟨⟨q, U1, d1⟩, hq⟩ : ∃ q, doTo 4 ⟨pc, d, r, fl, su, false, ie, rt, ve, ep, ca, ad, es, ei, co, ha⟩ op nn ⟨M, T0⟩ d0 = q := ⟨_, rfl⟩
  rw [hq] at HD hG hDD hTr
  obtain ⟨ck, hck⟩ : ∃ c, checkOf ⟨pc, d, r, fl, su, false, ie, rt, ve, ep, ca, ad, es, ei, co, ha⟩ op nn = c := ⟨_, rfl⟩
  rw [hck] at HC hDD
  obtain ⟨g1, g2, g3, g4, g5, g6⟩ := hG
  obtain ⟨⟨pc', d2, r2, fl', su', pg', ie', rt', ve', ep', ca', ad', es', ei', co', ha'⟩, tr', dv', pgs'⟩ := q
  dsimp only at g3 hDD hTr
  have hDD : tr' = false → ck = 0 := fun h => (hDD h).1
  refine wl_t (t_alloc (fun _ => rfl) rfl) rfl ?_
  rintro _ _ ⟨b11, rfl, rfl⟩
  refine wl_t0 (t_storeN (fun _ => rfl) rfl rfl (allT rfl) Za (by exact rfl)) ?_
  rintro _ _ ⟨rfl, rfl⟩
  refine Zn (Zt (Zs (Zr (Zm rfl (Zy (y_nil (Zv rfl)) (Zy (y_field 2 rfl (Zv rfl) Zf) ?_))))))
  refine Zz rfl ?_
  refine wl_t (t_call rfl (fun _ _ => rfl) (fun w hi => rall_ok F.L M w (hi.get Zh))) rfl ?_
  rintro _ _ ⟨_, ⟨bx, rfl, rfl⟩, rfl⟩
  refine wl_fact (fun w hi => rd_any (hi.rd (show Has _ (sl .u8 5 (some ⟨bx, 0, none⟩) M.data.length M.data.length M.data) from Zh))) (fun hrd33 => ?_)
  refine wl_y (y_bstr rfl rfl rfl (Zv rfl) hrd33) (fun w hi => RdV.cellsO (hi.rd (show Has _ (sl .u8 5 (some ⟨bx, 0, none⟩) M.data.length M.data.length M.data) from Zh))) rfl ?_
  refine Zg rfl (Zn (Zt ?_))
  refine wc_seq_mid (fun q : SAdr × DAdr × (Option Addr × Nat) × Nat => [(4, .pointer (some ⟨b4, 0, none⟩)), (9, .pointer (some ⟨F.bw, 0, none⟩)), (10, .pointer (some ⟨b10, 0, none⟩)), (11, .pointer (some ⟨b11, 0, none⟩)), (12, .string (strOfNums M.data)), (13, .pointer (some ⟨q.2.2.2, 0, none⟩))]) (fun q => [row b4 (St.cells ⟨pc, d, r, fl, su, false, ie, rt, ve, ep, ca, ad, es, ei, co, ha⟩ (.slice A1 d.length c1) (.slice A2 r.length c2)) 26, sl .u32 22 A1 d.length c1 d, sl .u32 22 A2 r.length c2 r, row b10 (St.cells ⟨pc, d, r, fl, su, false, ie, rt, ve, ep, ca, ad, es, ei, co, ha⟩ (.slice A5 d.length c5) (.slice A6 r.length c6)) 26, sl .u32 22 A5 d.length c5 d, sl .u32 22 A6 r.length c6 r, row b11 [.int .i64 op, .int .u32 nn] 33] ++ (worldRow F :: (ubF F.bu F.bb F.L F.D q.2.1 U1 d1 ++ worldR F ⟨none, 0, none, 0⟩ M.data tu T0 d0)) ++ (row q.2.2.2 (resCells ⟨⟨pc', d2, r2, fl', su', pg', ie', rt', ve', ep', ca', ad', es', ei', co', ha'⟩, tr', dv', pgs'⟩ q.1 q.2.2.1.1 q.2.2.1.2) 37 :: resF ⟨⟨pc', d2, r2, fl', su', pg', ie', rt', ve', ep', ca', ad', es', ei', co', ha'⟩, tr', dv', pgs'⟩ q.1 q.2.2.1.1 q.2.2.1.2)) (fun q => True) ?_ ?_
  · refine wc_draw ⟨fun j => List.elem j [10, 12], []⟩ Zk ?_
    refine wa_loadRow 0 rfl Zk Zk Zk Zk Zh (fun _ => rfl) (fun _ => rfl) (Zv rfl) rfl ?_
    refine wa_loadRow 1 rfl Zk Zk Zk Zk Zh (fun _ => rfl) (fun _ => rfl) (Zv rfl) rfl ?_
    refine wa_yn 2 rfl Zk Zk Zk (y_move (Zv rfl)) rfl ?_
    refine wa_yn 3 rfl Zk Zk Zk (y_nil (Zv rfl)) rfl ?_
    refine wa_yn 4 rfl Zk Zk Zk (y_field 0 rfl (Zv rfl) Zf) rfl ?_
    refine wa_ln 5 rfl Zk Zk Zk Zk (y_load (fun _ => rfl) (Zv rfl)) (row_cell Zh rfl) rfl ?_
    refine wa_yn 6 rfl Zk Zk Zk (y_move (Zv rfl)) rfl ?_
    refine wa_yn 7 rfl Zk Zk Zk (y_nil (Zv rfl)) rfl ?_
    refine wa_yn 8 rfl Zk Zk Zk (y_field 1 rfl (Zv rfl) Zf) rfl ?_
    refine wa_ln 9 rfl Zk Zk Zk Zk (y_load (fun _ => rfl) (Zv rfl)) (row_cell Zh rfl) rfl ?_
    refine wa_2 10 11 Zk ?_ ?_
    · refine wi_t rfl rfl (t_callS (ubF F.bu F.bb F.L F.D ⟨none, 0, none, 0⟩ ⟨M, T0⟩ d0) rfl (fun _ _ => rfl) Zi (fun w hi hin => HD w hin (fun w' hk => hi.rdStKs Zi (show Has _ (sl .u32 22 A1 d.length c1 d) from Zh) (show Has _ (sl .u32 22 A2 r.length c2 r) from Zh) (show d.length * 4 ≤ _ by omega) (show r.length * 4 ≤ _ by omega) hk))) (fun _ _ _ _ _ _ _ h => by cases h) rfl ?_
      rintro _ _ ⟨_, ⟨X1, Y1, Ap, cp, rfl, rfl⟩, rfl⟩
      refine wa_1 11 Zk ?_
      refine wi_t rfl rfl (t_alloc (fun _ => rfl) rfl) (fun _ _ _ _ _ _ _ h => by cases h) rfl ?_
      rintro _ _ ⟨b13, rfl, rfl⟩
      refine wa_1 12 Zk ?_
      refine wi_t0 rfl rfl (t_storeN (fun _ => rfl) rfl rfl (allT rfl) Za (by exact rfl)) (fun _ _ _ _ _ _ _ h => by cases h) ?_
      rintro _ _ ⟨rfl, rfl⟩
      refine wa_done Zk ?_
      refine q_midP ((⟨X1, Y1, ⟨Ap, cp⟩, b13⟩ : SAdr × DAdr × (Option Addr × Nat) × Nat)) ?_ ?_ ?_
      · trivial
      · ((repeat' (refine Wk.cons ?_ ?_)) <;> first | exact Wk.nil | exact rfl | exact trivial | exact wk_num rfl (by omega) | exact wk_num rfl (by simp))
      exact Zj
    refine wi_t rfl rfl (t_alloc (fun _ => rfl) rfl) (fun _ _ _ _ _ _ _ h => by cases h) rfl ?_
    rintro _ _ ⟨b13, rfl, rfl⟩
    refine wa_1 10 Zk ?_
    refine wi_t rfl rfl (t_callS (ubF F.bu F.bb F.L F.D ⟨none, 0, none, 0⟩ ⟨M, T0⟩ d0) rfl (fun _ _ => rfl) Zi (fun w hi hin => HD w hin (fun w' hk => hi.rdStKs Zi (show Has _ (sl .u32 22 A1 d.length c1 d) from Zh) (show Has _ (sl .u32 22 A2 r.length c2 r) from Zh) (show d.length * 4 ≤ _ by omega) (show r.length * 4 ≤ _ by omega) hk))) (fun _ _ _ _ _ _ _ h => by cases h) rfl ?_
    rintro _ _ ⟨_, ⟨X1, Y1, Ap, cp, rfl, rfl⟩, rfl⟩
    refine wa_1 12 Zk ?_
    refine wi_t0 rfl rfl (t_storeN (fun _ => rfl) rfl rfl (allT rfl) Za (by exact rfl)) (fun _ _ _ _ _ _ _ h => by cases h) ?_
    rintro _ _ ⟨rfl, rfl⟩
    refine wa_done Zk ?_
    refine q_midP ((⟨X1, Y1, ⟨Ap, cp⟩, b13⟩ : SAdr × DAdr × (Option Addr × Nat) × Nat)) ?_ ?_ ?_
    · trivial
    · ((repeat' (refine Wk.cons ?_ ?_)) <;> first | exact Wk.nil | exact rfl | exact trivial | exact wk_num rfl (by omega) | exact wk_num rfl (by simp))
    exact Zj
  rintro ⟨⟨A3, c3, A4, c4⟩, Y1, ⟨Ap, cp⟩, b13⟩ -
  dsimp only
  refine Zs (Zr (Zy (y_field 0 rfl (Zv rfl) Zf) ?_))
  refine wl_y (y_loadN (vs := St.cells ⟨pc', d2, r2, fl', su', pg', ie', rt', ve', ep', ca', ad', es', ei', co', ha'⟩ (.slice A3 d2.length c3) (.slice A4 r2.length c4)) (fun _ => rfl) (fun _ => rfl) (Zv rfl)) (row_cells Zh rfl) rfl ?_
  refine wl_t (t_alloc (fun _ => rfl) rfl) rfl ?_
  rintro _ _ ⟨b14, rfl, rfl⟩
  refine wl_t0 (t_storeN (fun _ => rfl) rfl rfl (allT rfl) Za (by exact rfl)) ?_
  rintro _ _ ⟨rfl, rfl⟩
  refine Zn (Zt (Zs (Zs (Zr (wl_loadRow Zh (fun _ => rfl) (fun _ => rfl) (Zv rfl) rfl ?_)))))
  refine wl_loadRow Zh (fun _ => rfl) (fun _ => rfl) (Zv rfl) rfl ?_
  refine wl_t (t_call rfl (fun _ _ => rfl) (fun w hi => HS A1 A2 A5 A6 c1 c2 c5 c6 w (hi.rdSt (show Has _ (sl .u32 22 A1 d.length c1 d) from Zh) (show Has _ (sl .u32 22 A2 r.length c2 r) from Zh) (show d.length * 4 ≤ _ by omega) (show r.length * 4 ≤ _ by omega)) (hi.rdSt (show Has _ (sl .u32 22 A5 d.length c5 d) from Zh) (show Has _ (sl .u32 22 A6 r.length c6 r) from Zh) (show d.length * 4 ≤ _ by omega) (show r.length * 4 ≤ _ by omega)))) rfl ?_
  rintro _ _ ⟨_, ⟨rfl, rfl⟩, rfl⟩
  refine Zy (y_not (Zv rfl) rfl) (Zm rfl (Zyn rfl rfl (y_field 14 rfl (Zv rfl) Zf) ?_))
  refine wl_yg (guard_no rfl rfl) (y_load (fun _ => rfl) (ev_g rfl)) (row_cell Zh rfl) rfl ?_
  refine Zyn rfl rfl (y_field 14 rfl (Zv rfl) Zf) ?_
  refine wl_yg (guard_no rfl rfl) (y_load (fun _ => rfl) (ev_g rfl)) (row_cell Zh rfl) rfl ?_
  refine Zyn rfl rfl (y_add (ev_g rfl) (Zv rfl) g3.symm) ?_
  refine Zyn rfl rfl (y_neq (ev_g rfl) (ev_g rfl) (bne_self_eq_false co')) ?_
  refine Zy (y_or (Zv rfl) (pk_no rfl (fun _ => rfl))) (Zn (Zt (wc_cond_f rfl (rfl) ?_)))
  refine Zc (Zt (Zs (Zs (Zr (Zy (y_field 16 rfl (Zv rfl) Zf) ?_)))))
  refine Zz rfl ?_
  refine Zy (y_not (Zv rfl) rfl) (Zn (Zt ?_))
  refine wc_cond _ rfl (fun hc13 => ?_) (fun hc13 => ?_)
  · obtain rfl := hDD (by simpa using hc13)
    refine Zs (Zr (wl_loadRow Zh (fun _ => rfl) (fun _ => rfl) (Zv rfl) rfl ?_))
    refine wl_loadRow Zh (fun _ => rfl) (fun _ => rfl) (Zv rfl) rfl ?_
    refine wl_t (t_call rfl (fun _ _ => rfl) (fun w hi => HC w (hi.rdSt (show Has _ (sl .u32 22 A1 d.length c1 d) from Zh) (show Has _ (sl .u32 22 A2 r.length c2 r) from Zh) (show d.length * 4 ≤ _ by omega) (show r.length * 4 ≤ _ by omega)))) rfl ?_
    rintro _ _ ⟨_, ⟨rfl, rfl⟩, rfl⟩
    refine Zy (y_eql (Zv rfl) (Zv rfl) (beq_self_eq_true _)) ?_
    refine Zm rfl (wl_tg (guard_yes rfl rfl) rfl (t_call rfl (fun _ _ => rfl) (fun w hi => known_ok w)) rfl ?_)
    rintro _ _ ⟨_, ⟨rfl, rfl⟩, rfl⟩
    refine Zy (y_and (Zv rfl) (pk_yes rfl (fun _ => rfl))) (Zg rfl (Zn (Zt (Ze (Zw (ret1 (cs' := []) (.inl rfl) Zu rfl rfl ?_))))))
    exact ⟨rfl, rfl⟩
  obtain ⟨cz, az, dz, hcz, e⟩ := hTr (by simpa using hc13)
  simp only [St.trap, Prod.mk.injEq, Res.mk.injEq, St.mk.injEq] at e
  obtain ⟨⟨⟨rfl, rfl, rfl, rfl, rfl, rfl, rfl, rfl, rfl, rfl, rfl, rfl, rfl, rfl, rfl, rfl⟩, rfl, rfl, rfl⟩, rfl, rfl⟩ := e
  refine Zc (Zt (Zs (Zr (Zy (y_field 1 rfl (Zv rfl) Zf) ?_))))
  refine Zz rfl ?_
  refine Zy (y_field 1 rfl (Zv rfl) Zf) ?_
  refine Zz rfl ?_
  refine wl_t (t_call rfl (fun _ _ => rfl) (fun w hi => wordsEq_ok A3 A5 c3 c5 d2 w (hi.rd (show Has _ (sl .u32 22 A3 d2.length c3 d2) from Zh)) (hi.rd (show Has _ (sl .u32 22 A5 d2.length c5 d2) from Zh)))) rfl ?_
  rintro _ _ ⟨_, ⟨rfl, rfl⟩, rfl⟩
  refine Zm rfl (Zyy rfl rfl (y_field 2 rfl (Zv rfl) Zf) ?_)
  refine wl_yg (guard_yes rfl rfl) (y_load (fun _ => rfl) (ev_g rfl)) (row_cell Zh rfl) rfl ?_
  refine Zyy rfl rfl (y_field 2 rfl (Zv rfl) Zf) ?_
  refine wl_yg (guard_yes rfl rfl) (y_load (fun _ => rfl) (ev_g rfl)) (row_cell Zh rfl) rfl ?_
  refine wl_tg (guard_yes rfl rfl) rfl (t_call rfl (fun _ _ => rfl) (fun w hi => wordsEq_ok A4 A6 c4 c6 r2 w (hi.rd (show Has _ (sl .u32 22 A4 r2.length c4 r2) from Zh)) (hi.rd (show Has _ (sl .u32 22 A6 r2.length c6 r2) from Zh)))) rfl ?_
  rintro _ _ ⟨_, ⟨rfl, rfl⟩, rfl⟩
  refine Zy (y_and (Zv rfl) (pk_yes rfl (fun _ => rfl))) (Zm rfl (Zyy rfl rfl (y_field 3 rfl (Zv rfl) Zf) ?_))
  refine wl_yg (guard_yes rfl rfl) (y_load (fun _ => rfl) (ev_g rfl)) (row_cell Zh rfl) rfl ?_
  refine Zyy rfl rfl (y_field 3 rfl (Zv rfl) Zf) ?_
  refine wl_yg (guard_yes rfl rfl) (y_load (fun _ => rfl) (ev_g rfl)) (row_cell Zh rfl) rfl ?_
  refine Zyy rfl rfl (y_eql (ev_g rfl) (ev_g rfl) (beq_self_eq_true _)) ?_
  refine Zy (y_and (Zv rfl) (pk_yes rfl (fun _ => rfl))) (Zm rfl (Zyy rfl rfl (y_field 9 rfl (Zv rfl) Zf) ?_))
  refine wl_yg (guard_yes rfl rfl) (y_load (fun _ => rfl) (ev_g rfl)) (row_cell Zh rfl) rfl ?_
  refine Zyy rfl rfl (y_field 0 rfl (Zv rfl) Zf) ?_
  refine wl_yg (guard_yes rfl rfl) (y_load (fun _ => rfl) (ev_g rfl)) (row_cell Zh rfl) rfl ?_
  refine Zyy rfl rfl (y_eql (ev_g rfl) (ev_g rfl) (beq_self_eq_true _)) ?_
  refine Zy (y_and (Zv rfl) (pk_yes rfl (fun _ => rfl))) (Zm rfl (Zyy rfl rfl (y_field 12 rfl (Zv rfl) Zf) ?_))
  refine wl_yg (guard_yes rfl rfl) (y_load (fun _ => rfl) (ev_g rfl)) (row_cell Zh rfl) rfl ?_
  refine Zyy rfl rfl (y_field 4 rfl (Zv rfl) Zf) ?_
  refine wl_yg (guard_yes rfl rfl) (y_load (fun _ => rfl) (ev_g rfl)) (row_cell Zh rfl) rfl ?_
  refine Zyy rfl rfl (y_eqlb rfl (ev_g rfl) (ev_g rfl) (beq_self_eq_true _)) ?_
  refine Zy (y_and (Zv rfl) (pk_yes rfl (fun _ => rfl))) (Zm rfl (Zyy rfl rfl (y_field 13 rfl (Zv rfl) Zf) ?_))
  refine wl_yg (guard_yes rfl rfl) (y_load (fun _ => rfl) (ev_g rfl)) (row_cell Zh rfl) rfl ?_
  refine Zyy rfl rfl (y_field 6 rfl (Zv rfl) Zf) ?_
  refine wl_yg (guard_yes rfl rfl) (y_load (fun _ => rfl) (ev_g rfl)) (row_cell Zh rfl) rfl ?_
  refine Zyy rfl rfl (y_eqlb rfl (ev_g rfl) (ev_g rfl) (beq_self_eq_true _)) ?_
  refine Zy (y_and (Zv rfl) (pk_yes rfl (fun _ => rfl))) (Zm rfl (Zyy rfl rfl (y_field 4 rfl (Zv rfl) Zf) ?_))
  refine wl_yg (guard_yes rfl rfl) (y_load (fun _ => rfl) (ev_g rfl)) (row_cell Zh rfl) rfl ?_
  refine Zy (y_and (Zv rfl) (pk_yes rfl (fun _ => rfl))) (Zm rfl (Zyy rfl rfl (y_field 6 rfl (Zv rfl) Zf) ?_))
  refine wl_yg (guard_yes rfl rfl) (y_load (fun _ => rfl) (ev_g rfl)) (row_cell Zh rfl) rfl ?_
  refine Zyy rfl rfl (y_not (ev_g rfl) rfl) ?_
  refine Zy (y_and (Zv rfl) (pk_yes rfl (fun _ => rfl))) (Zm rfl (Zyy rfl rfl (y_field 0 rfl (Zv rfl) Zf) ?_))
  refine wl_yg (guard_yes rfl rfl) (y_load (fun _ => rfl) (ev_g rfl)) (row_cell Zh rfl) rfl ?_
  refine Zyy rfl rfl (y_field 8 rfl (Zv rfl) Zf) ?_
  refine wl_yg (guard_yes rfl rfl) (y_load (fun _ => rfl) (ev_g rfl)) (row_cell Zh rfl) rfl ?_
  refine Zyy rfl rfl (y_eql (ev_g rfl) (ev_g rfl) (beq_self_eq_true _)) ?_
  refine Zy (y_and (Zv rfl) (pk_yes rfl (fun _ => rfl))) (Zm rfl (Zyy rfl rfl (y_field 10 rfl (Zv rfl) Zf) ?_))
  refine wl_yg (guard_yes rfl rfl) (y_load (fun _ => rfl) (ev_g rfl)) (row_cell Zh rfl) rfl ?_
  refine Zyy rfl rfl (y_neq (ev_g rfl) (Zv rfl) (show _ = true from by rw [u32_wrap_id _ (by omega) (by omega)]; simpa using hcz.1)) ?_
  refine Zy (y_and (Zv rfl) (pk_yes rfl (fun _ => rfl))) (Zm rfl (Zyy rfl rfl (y_field 5 rfl (Zv rfl) Zf) ?_))
  refine wl_yg (guard_yes rfl rfl) (y_load (fun _ => rfl) (ev_g rfl)) (row_cell Zh rfl) rfl ?_
  refine Zyy rfl rfl (y_field 5 rfl (Zv rfl) Zf) ?_
  refine wl_yg (guard_yes rfl rfl) (y_load (fun _ => rfl) (ev_g rfl)) (row_cell Zh rfl) rfl ?_
  refine Zyy rfl rfl (y_eqlb rfl (ev_g rfl) (ev_g rfl) (beq_self_eq_true _)) ?_
  refine Zy (y_and (Zv rfl) (pk_yes rfl (fun _ => rfl))) (Zm rfl (Zyy rfl rfl (y_field 7 rfl (Zv rfl) Zf) ?_))
  refine wl_yg (guard_yes rfl rfl) (y_load (fun _ => rfl) (ev_g rfl)) (row_cell Zh rfl) rfl ?_
  refine Zyy rfl rfl (y_field 7 rfl (Zv rfl) Zf) ?_
  refine wl_yg (guard_yes rfl rfl) (y_load (fun _ => rfl) (ev_g rfl)) (row_cell Zh rfl) rfl ?_
  refine Zyy rfl rfl (y_eql (ev_g rfl) (ev_g rfl) (beq_self_eq_true _)) ?_
  refine Zy (y_and (Zv rfl) (pk_yes rfl (fun _ => rfl))) (Zm rfl (Zyy rfl rfl (y_move (Zv rfl)) ?_))
  refine Zyy rfl rfl (y_nil (ev_g rfl)) ?_
  refine Zyy rfl rfl (y_field 2 rfl (ev_g rfl) Zf) ?_
  refine wl_yg (guard_yes rfl rfl) (y_load (fun _ => rfl) (ev_g rfl)) (row_cell Zh rfl) rfl ?_
  refine wl_tg (guard_yes rfl rfl) rfl (t_call rfl (fun _ _ => rfl) (fun w hi => rall_ok F.L M.calm w (hi.get Zh))) rfl ?_
  rintro _ _ ⟨_, ⟨by_, rfl, rfl⟩, rfl⟩
  refine wl_fact (fun w hi => rd_any (hi.rd (show Has _ (sl .u8 5 (some ⟨by_, 0, none⟩) M.calm.data.length M.calm.data.length M.calm.data) from Zh))) (fun hrd150 => ?_)
  refine wl_yg (guard_yes rfl rfl) (y_bstr rfl rfl rfl (ev_g rfl) hrd150) (fun w hi => RdV.cellsO (hi.rd (show Has _ (sl .u8 5 (some ⟨by_, 0, none⟩) M.calm.data.length M.calm.data.length M.calm.data) from Zh))) rfl ?_
  refine Zyy rfl rfl (y_move (Zv rfl)) ?_
  refine Zyy rfl rfl (y_eqlS rfl (ev_g rfl) (ev_g rfl) (beq_self_eq_true _)) ?_
  refine Zy (y_and (Zv rfl) (pk_yes rfl (fun _ => rfl))) (Zm rfl (Zyy rfl rfl (y_field 18 rfl (Zv rfl) Zf) ?_))
  refine wl_yg (guard_yes rfl rfl) (y_load (fun _ => rfl) (ev_g rfl)) (row_cell Zh rfl) rfl ?_
  refine Zyy rfl rfl (y_len ⟨_, rfl⟩ (ev_g rfl)) ?_
  refine Zyy rfl rfl (y_eql (ev_g rfl) (Zv rfl) (beq_self_eq_true _)) ?_
  refine Zy (y_and (Zv rfl) (pk_yes rfl (fun _ => rfl))) (Zm rfl (Zyy rfl rfl (y_move (Zv rfl)) ?_))
  refine wl_tg (guard_yes rfl rfl) rfl (t_callS (bothF F Y1 ⟨none, 0, none, 0⟩ ⟨M.calm, T0⟩ tu d1) rfl (fun _ _ => rfl) Zi (fun w hi hin => alike_ok F Y1 ⟨none, 0, none, 0⟩ ⟨M.calm, T0⟩ tu d1 (hF ▸ ⟨hU0.m.calm, hU0.t⟩) (hF ▸ by decide) hd0 (by omega) w hin)) rfl ?_
  rintro _ _ ⟨_, ⟨rfl, rfl⟩, rfl⟩
  refine Zy (y_and (Zv rfl) (pk_yes rfl (fun _ => rfl))) (Zm rfl (wl_tg (guard_yes rfl rfl) rfl (t_call rfl (fun _ _ => rfl) (fun w hi => known_ok w)) rfl ?_))
  rintro _ _ ⟨_, ⟨rfl, rfl⟩, rfl⟩
  refine Zy (y_and (Zv rfl) (pk_yes rfl (fun _ => rfl))) (Zg rfl (Zn (Zt (Ze (ret1 (cs' := []) (.inl rfl) Zu rfl rfl ?_)))))
  exact ⟨rfl, rfl⟩
end Go.Proofs.YtobjiljkfmcalaaGreat
