/- The law StepStacks. -/
import Derived.Test.YtobjiljkfmcalaaGreatSqL
import Derived.Test.YtobjiljkfmcalaaGreatInkA
set_option linter.unusedSimpArgs false
set_option linter.unusedVariables false
set_option maxRecDepth 100000
namespace Go.Proofs.YtobjiljkfmcalaaGreat
open Go.RowKit Go.Ink
set_option maxHeartbeats 4000000 in
theorem stepStacks_ok (s : St) (hs : s.wf) (Ad Ar B : Option Addr) (cd cr cb : Nat) (b : List Int) (hb : u8s b) (n v : Int) (hv : u32 v) (w : World) (h : RdSt w s Ad Ar cd cr) (hB : Rd w .u8 B b.length cb b) :
    Ctr Tryz.prog 3 [sv s Ad cd Ar cr, .slice B b.length cb, .int .i64 n, .int .u32 v] w [] (fun v cs => v = .bool true ∧ cs = []) := by
  have hnil : u8s [] := fun x hx => by cases hx
  have hb1 := u8s_take hb 256
  have hbl : (b.take 256).length ≤ 256 := by rw [List.length_take]; omega
  have hB1 := rd_take hB 256
  have HCut := fun w => cut_ok B cb b 256 w hB.cap
  obtain ⟨bb, hbb⟩ : ∃ bb, b.take 256 = bb := ⟨_, rfl⟩
  rw [hbb] at hb1 hbl hB1 HCut
  have HF := fun w h => fresh_ok B none cb 0 4 bb [] (by decide) (by decide) hbl hb1 (by decide) w h (rdNil w .u8)
  have HT := trim_ok s hs Ad Ar cd cr
  have htw := St.tr_wf hs
  have htr := St.tr_right (s := s)
  have hfit := St.fits htr
  obtain ⟨⟨pc, d, r, fl, su, pg, ie, rt, ve, ep, ca, ad, es, ei, co, ha⟩, ht⟩ : ∃ t, s.trim = t := ⟨_, rfl⟩
  rw [ht] at HT htw htr hfit
  obtain ⟨hd16, hr16, hf15⟩ := hfit
  have hd16 : d.length ≤ 16 := hd16
  have hr16 : r.length ≤ 16 := hr16
  have hU0 : UOk 4 ⟨Mem.init 4 bb, tflush⟩ := ⟨init_ok hbl hb1, tflush_len⟩
  have hd0 := Dev.init_ok (l := []) (by decide) hnil
  have ho0 : (Dev.init []).out.length ≤ 0 := by decide
  obtain ⟨v, rfl⟩ : ∃ m : Nat, v = m := Int.eq_ofNat_of_zero_le hv.1
  obtain ⟨M, hM⟩ : ∃ M, Mem.init 4 bb = M := ⟨_, rfl⟩
  obtain ⟨d0, hdd⟩ : ∃ d, Dev.init [] = d := ⟨_, rfl⟩
  obtain ⟨T0, hTT⟩ : ∃ T, tflush = T := ⟨_, rfl⟩
  rw [hM, hTT, hdd] at HF
  rw [hM, hTT] at hU0
  rw [hdd] at hd0 ho0
  refine fn_ctr Tryz.func3 rfl Tryz.ntmps3 rfl (Inv.start w) ?_
  refine Zs (Zr (wl_t (t_box rfl rfl) rfl ?_))
  rintro _ _ ⟨b4, rfl, rfl⟩
  refine Zg rfl (Zn (Zt (Zs (Zr (Zm rfl (wl_t (t_call rfl (fun _ _ => rfl) (fun w hi => HCut w)) rfl ?_))))))
  rintro _ _ ⟨_, ⟨rfl, rfl⟩, rfl⟩
  refine wl_t (t_call rfl (fun _ _ => rfl) (fun w hi => HF w (hB1.oldN hi))) rfl ?_
  rintro _ _ ⟨_, ⟨F, hF, rfl, rfl⟩, rfl⟩
  refine Zg rfl (Zn (Zt (Zs (Zs (Zr (Zm rfl (Zy (y_pnil rfl (Zv rfl)) (Zn (Zt (wc_cond_f rfl (rfl) ?_))))))))))
  refine Zc (Zt (Zs (Zr (wl_loadRow Zh (fun _ => rfl) (fun _ => rfl) (Zv rfl) rfl ?_))))
  refine wl_t (t_call rfl (fun _ _ => rfl) (fun w hi => HT w (h.oldN hi))) rfl ?_
  rintro _ _ ⟨_, ⟨A1, c1, A2, c2, rfl, rfl⟩, rfl⟩
  refine wl_t0 (t_storeN (fun _ => rfl) rfl rfl (allT rfl) Za (by exact rfl)) ?_
  rintro _ _ ⟨rfl, rfl⟩
  refine Zn (Zt (Zs (Zr (Zy (y_field 5 rfl (Zv rfl) Zf) ?_))))
  refine wl_t0 (t_store (fun _ => rfl) rfl rfl rfl Za Zp) ?_
  rintro _ _ ⟨rfl, rfl⟩
  refine Zn (Zt ?_)
  refine wc_seq_mid (fun d' : List Int => [(2, .int .i64 n), (3, .int .u32 (v : Int)), (4, .pointer (some ⟨b4, 0, none⟩)), (9, .pointer (some ⟨F.bw, 0, none⟩))]) (fun d' => [row b4 [.int .u32 pc, .slice A1 d.length c1, .slice A2 r.length c2, .int .u32 fl, .bool su, .bool false, .bool ie, .int .u32 rt, .int .u32 ve, .int .u32 ep, .int .u32 ca, .int .u32 ad, .bool es, .bool ei, .int .u64 co, .bool ha] 26, sl .u32 22 A1 d.length c1 d', sl .u32 22 A2 r.length c2 r, worldRow F] ++ ubF F.bu F.bb F.L F.D ⟨none, 0, none, 0⟩ ⟨M, T0⟩ d0) (fun d' => d'.length = d.length ∧ ∀ x, x ∈ d' → u32 x) ?_ ?_
  · refine Zs (Zr (Zy (y_field 1 rfl (Zv rfl) Zf) ?_))
    refine Zz rfl ?_
    refine Zy (y_len ⟨_, rfl⟩ (Zv rfl)) ?_
    refine Zy (y_gtr (Zv rfl) (Zv rfl) rfl) (Zm rfl (Zyy rfl rfl (y_move (Zv rfl)) ?_))
    refine Zyy rfl rfl (y_rem (ev_g rfl) (Zv rfl) (by omega) (show _ = ((v % 2 : Nat) : Int) from by rw [Int.tmod_eq_emod_of_nonneg (by omega)]; omega)) ?_
    refine Zyy rfl rfl (y_eql (ev_g rfl) (Zv rfl) rfl) ?_
    refine Zy (y_and (Zv rfl) (pk_yes rfl (fun _ => rfl))) (Zn (Zt ?_))
    refine wc_cond _ rfl (fun hc6 => ?_) (fun hc6 => ?_)
    · simp only [Bool.and_eq_true, decide_eq_true_eq] at hc6
      have hdl : 0 < d.length := (by omega)
      refine wc_fact (fun w hi => slv_some (hi.get (show Has _ (sl .u32 22 A1 d.length c1 d) from Zh)) hdl) (fun hA => ?_)
      obtain ⟨bA, rfl⟩ := hA
      obtain ⟨l0, x0, rfl⟩ := snoc_of hdl
      have hdu : ∀ z, z ∈ l0 ++ [x0] → u32 z := htw.d
      have hx0 := allR hdu
      obtain ⟨x0, rfl⟩ : ∃ m : Nat, x0 = m := Int.eq_ofNat_of_zero_le hx0.1
      have hlen : (l0 ++ [(x0 : Int)]).length = l0.length + 1 := (by simp)
      have hlen2 : (⟨pc, l0 ++ [(x0 : Int)], r, fl, su, pg, ie, rt, ve, ep, ca, ad, es, ei, co, ha⟩ : St).d.length = l0.length + 1 := hlen
      have hl16 : l0.length ≤ 15 := (by omega)
      refine wc_draw ⟨fun j => List.elem j [17], []⟩ Zk ?_
      refine wa_yn 0 rfl Zk Zk Zk (y_field 1 rfl (Zv rfl) Zf) rfl ?_
      refine wa_ln 1 rfl Zk Zk Zk Zk (y_load (fun _ => rfl) (Zv rfl)) (row_cell Zh rfl) rfl ?_
      refine wa_yn 2 rfl Zk Zk Zk (y_field 1 rfl (Zv rfl) Zf) rfl ?_
      refine wa_ln 3 rfl Zk Zk Zk Zk (y_load (fun _ => rfl) (Zv rfl)) (row_cell Zh rfl) rfl ?_
      refine wa_yn 4 rfl Zk Zk Zk (y_len ⟨_, rfl⟩ (Zv rfl)) rfl ?_
      refine wa_yn 5 rfl Zk Zk Zk (y_sub (Zv rfl) (Zv rfl) (show _ = (l0.length : Int) from by rw [hlen]; exact IntWalk.i64_in _ ⟨by omega, by omega⟩ |>.trans (by omega))) rfl ?_
      refine wa_yn 6 rfl Zk Zk Zk (y_field 1 rfl (Zv rfl) Zf) rfl ?_
      refine wa_ln 7 rfl Zk Zk Zk Zk (y_load (fun _ => rfl) (Zv rfl)) (row_cell Zh rfl) rfl ?_
      refine wa_yn 8 rfl Zk Zk Zk (y_field 1 rfl (Zv rfl) Zf) rfl ?_
      refine wa_ln 9 rfl Zk Zk Zk Zk (y_load (fun _ => rfl) (Zv rfl)) (row_cell Zh rfl) rfl ?_
      refine wa_yn 10 rfl Zk Zk Zk (y_len ⟨_, rfl⟩ (Zv rfl)) rfl ?_
      refine wa_yn 11 rfl Zk Zk Zk (y_sub (Zv rfl) (Zv rfl) (show _ = (l0.length : Int) from by rw [hlen]; exact IntWalk.i64_in _ ⟨by omega, by omega⟩ |>.trans (by omega))) rfl ?_
      refine wa_yn 12 rfl Zk Zk Zk (y_indexR (j := l0.length) (sz := 1) (r := l0.length) rfl (fun _ => rfl) (Zv rfl) (Zv rfl) (fun _ => by omega) (fun _ => by omega) (by omega)) rfl ?_
      refine wa_ln 13 rfl Zk Zk Zk Zk (y_load (fun _ => rfl) (Zv rfl)) (sl_cellR Zh (ints_at (snoc_get l0 (x0 : Int)))) rfl ?_
      refine wa_yn 14 rfl Zk Zk Zk (y_rem (Zv rfl) (Zv rfl) (by omega) (show _ = ((x0 % 64 : Nat) : Int) from by rw [Int.tmod_eq_emod_of_nonneg (by omega)]; omega)) rfl ?_
      refine wa_yn 15 rfl Zk Zk Zk (y_mul (Zv rfl) (Zv rfl) (show _ = ((x0 % 64 * 4 : Nat) : Int) from by rw [u32_wrap_id _ (by omega) (by omega)]; omega)) rfl ?_
      refine wa_yn 16 rfl Zk Zk Zk (y_indexR (j := l0.length) (sz := 1) (r := l0.length) rfl (fun _ => rfl) (Zv rfl) (Zv rfl) (fun _ => by omega) (fun _ => by omega) (by omega)) rfl ?_
      refine wa_1 17 Zk ?_
      refine wi_t0 rfl rfl (t_storeS (fun _ => rfl) rfl rfl rfl Za (by omega)) (fun _ _ _ _ _ _ _ h => by cases h) ?_
      rintro _ _ ⟨rfl, rfl⟩
      rw [ints_set', set_last]
      refine wa_done Zk ?_
      refine q_midP ((l0 ++ [((x0 % 64 * 4 : Nat) : Int)])) ?_ ?_ ?_
      · exact ⟨by simp, all1 (allL hdu) (u32_nat (by omega))⟩
      · ((repeat' (refine Wk.cons ?_ ?_)) <;> first | exact Wk.nil | exact rfl | exact trivial | exact wk_num rfl (by omega) | exact wk_num rfl (by simp))
      exact Zj
    refine Zc ?_
    refine q_midP (d) ?_ ?_ ?_
    · exact ⟨rfl, htw.d⟩
    · ((repeat' (refine Wk.cons ?_ ?_)) <;> first | exact Wk.nil | exact rfl | exact trivial | exact wk_num rfl (by omega) | exact wk_num rfl (by simp))
    exact Zj
  rintro d' ⟨hlen, hdu⟩
  rw [← hlen]
  have hd16' : d'.length ≤ 16 := (by omega)
  have hw' : (⟨pc, d', r, fl, su, false, ie, rt, ve, ep, ca, ad, es, ei, co, ha⟩ : St).wf := ⟨htw.pc, htw.flags, htw.root, htw.vec, htw.epc, htw.cause, htw.addr, htw.count, hdu, htw.r⟩
  have hr' : (⟨pc, d', r, fl, su, false, ie, rt, ve, ep, ca, ad, es, ei, co, ha⟩ : St).right = true := St.mkr hd16' hr16 hf15
  refine Zs (Zr (Zm rfl (Zm rfl (wl_t (t_call rfl (fun _ _ => rfl) (fun w hi => instr_ok n v hv w)) rfl ?_))))
  rintro _ _ ⟨_, ⟨⟨op, nn, rfl, hnu, -⟩, rfl⟩, rfl⟩
  have HD := fun w hin h => do_ok F.bu F.bb F.L F.D ⟨none, 0, none, 0⟩ ⟨pc, d', r, fl, su, false, ie, rt, ve, ep, ca, ad, es, ei, co, ha⟩ A1 A2 c1 c2 op nn ⟨M, T0⟩ d0 hw' hnu hU0.t hd0.wf (by omega) w hin h
  have hG := do_goes (op := op) (nn := nn) hw' hr' hnu hU0 hd0
  have hDD := do_did (op := op) (nn := nn) hw' hr' hnu hU0 hd0
  have HC := check_ok ⟨pc, d', r, fl, su, false, ie, rt, ve, ep, ca, ad, es, ei, co, ha⟩ A1 A2 c1 c2 op nn hnu
  have HN := needs_ok op
  have hle := needs_le op
  have hcz : checkOf ⟨pc, d', r, fl, su, false, ie, rt, ve, ep, ca, ad, es, ei, co, ha⟩ op nn = 0 → _ := checkOf_zero
  rw [hF] at HD
  obtain ⟨⟨q, U1, d1⟩, hq⟩ : ∃ q, doTo 4 ⟨pc, d', r, fl, su, false, ie, rt, ve, ep, ca, ad, es, ei, co, ha⟩ op nn ⟨M, T0⟩ d0 = q := ⟨_, rfl⟩
  rw [hq] at HD hG hDD
  obtain ⟨ck, hck⟩ : ∃ c, checkOf ⟨pc, d', r, fl, su, false, ie, rt, ve, ep, ca, ad, es, ei, co, ha⟩ op nn = c := ⟨_, rfl⟩
  rw [hck] at HC hDD hcz
  obtain ⟨g1, g2, g3, g4, g5, g6⟩ := hG
  obtain ⟨⟨pc', d2, r2, fl', su', pg', ie', rt', ve', ep', ca', ad', es', ei', co', ha'⟩, tr', dv', pgs'⟩ := q
  dsimp only at g3 hDD
  have hDD : tr' = false → ck = 0 ∧ d2.length + (opNeeds op).1.1 = d'.length + (opNeeds op).1.2 ∧ d2.take (d'.length - (opNeeds op).1.1) = d'.take (d'.length - (opNeeds op).1.1) ∧ r2.length + (opNeeds op).2.1 = r.length + (opNeeds op).2.2 ∧ r2.take (r.length - (opNeeds op).2.1) = r.take (r.length - (opNeeds op).2.1) := fun h => ⟨(hDD h).1, (hDD h).2.dl, (hDD h).2.dt, (hDD h).2.rl, (hDD h).2.rt⟩
  have hcz : ck = 0 → (opNeeds op).1.1 ≤ d'.length ∧ (opNeeds op).2.1 ≤ r.length := hcz
  obtain ⟨⟨⟨na, nc⟩, ⟨ne, ng⟩⟩, hq5⟩ : ∃ q, opNeeds op = q := ⟨_, rfl⟩
  rw [hq5] at HN hle hDD hcz
  obtain ⟨k1, k2, k3, k4⟩ := hle
  have k1 : na ≤ 3 := k1
  have k2 : nc ≤ 3 := k2
  have k3 : ne ≤ 3 := k3
  have k4 : ng ≤ 3 := k4
  dsimp only at hDD hcz HN
  refine wl_t (t_alloc (fun _ => rfl) rfl) rfl ?_
  rintro _ _ ⟨b10, rfl, rfl⟩
  refine wl_t0 (t_storeN (fun _ => rfl) rfl rfl (allT rfl) Za (by exact rfl)) ?_
  rintro _ _ ⟨rfl, rfl⟩
  refine Zn (Zt (Zs (wc_draw ⟨fun j => List.elem j [10, 12], []⟩ Zk ?_)))
  refine wa_loadRow 0 rfl Zk Zk Zk Zk Zh (fun _ => rfl) (fun _ => rfl) (Zv rfl) rfl ?_
  refine wa_loadRow 1 rfl Zk Zk Zk Zk Zh (fun _ => rfl) (fun _ => rfl) (Zv rfl) rfl ?_
  refine wa_yn 2 rfl Zk Zk Zk (y_move (Zv rfl)) rfl ?_
  refine wa_yn 3 rfl Zk Zk Zk (y_nil (Zv rfl)) rfl ?_
  refine wa_yn 4 rfl Zk Zk Zk (y_field 0 rfl (Zv rfl) Zf) rfl ?_
  refine wa_ln 5 rfl Zk Zk Zk Zk (y_load (fun _ => rfl) (Zv rfl)) (row_cell Zh rfl) rfl ?_
  refine wa_yn 6 rfl Zk Zk Zk (y_move (Zv rfl)) rfl ?_
  refine wa_yn 7 rfl Zk Zk Zk (y_nil (Zv rfl)) rfl ?_
  refine wa_yn 8 rfl Zk Zk Zk (y_field 1 rfl (Zv rfl) Zf) rfl ?_
  refine wa_ln 9 rfl Zk Zk Zk Zk (y_load (fun _ => rfl) (Zv rfl)) (row_cell Zh rfl) rfl ?_
  refine wa_2 10 11 Zk ?_ ?_
  · refine wi_t rfl rfl (t_callS (ubF F.bu F.bb F.L F.D ⟨none, 0, none, 0⟩ ⟨M, T0⟩ d0) rfl (fun _ _ => rfl) Zi (fun w hi hin => HD w hin (fun w' hk => hi.rdStKs Zi Zh Zh (show d'.length * 4 ≤ _ by omega) (show r.length * 4 ≤ _ by omega) hk))) (fun _ _ _ _ _ _ _ h => by cases h) rfl ?_
    rintro _ _ ⟨_, ⟨⟨A3, c3, A4, c4⟩, Y1, Ap, cp, rfl, rfl⟩, rfl⟩
    refine wa_1 11 Zk ?_
    refine wi_t rfl rfl (t_alloc (fun _ => rfl) rfl) (fun _ _ _ _ _ _ _ h => by cases h) rfl ?_
    rintro _ _ ⟨b11, rfl, rfl⟩
    refine wa_1 12 Zk ?_
    refine wi_t0 rfl rfl (t_storeN (fun _ => rfl) rfl rfl (allT rfl) Za (by exact rfl)) (fun _ _ _ _ _ _ _ h => by cases h) ?_
    rintro _ _ ⟨rfl, rfl⟩
    refine wa_done Zk ?_
    refine Zt (Zs (Zr (Zy (y_field 0 rfl (Zv rfl) Zf) ?_)))
    refine Zz rfl ?_
    refine wl_t (t_call rfl (fun _ _ => rfl) (fun w hi => HN w)) rfl ?_
    rintro _ _ ⟨_, ⟨rfl, rfl⟩, rfl⟩
    refine Zm rfl (Zy (y_extractN (Zv rfl) (.zero _ _)) (Zy (y_extractN (Zv rfl) (.succ _ (.zero _ _))) (Zy (y_extractN (Zv rfl) (.succ _ (.succ _ (.zero _ _)))) ?_)))
    refine Zy (y_extractN (Zv rfl) (.succ _ (.succ _ (.succ _ (.zero _ _))))) ?_
    refine Zg rfl (Zg rfl (Zg rfl (Zg rfl (Zn (Zt (Zs (Zs (Zr (Zy (y_field 16 rfl (Zv rfl) Zf) ?_)))))))))
    refine Zz rfl ?_
    refine Zn (Zt ?_)
    refine wc_cond _ rfl (fun hc11 => ?_) (fun hc11 => ?_)
    · refine Zs (Zr (wl_t (t_call rfl (fun _ _ => rfl) (fun w hi => known_ok w)) rfl ?_))
      rintro _ _ ⟨_, ⟨rfl, rfl⟩, rfl⟩
      refine Zg rfl (Zn (Zt (Ze (Zw (ret1 (cs' := []) (.inl rfl) Zu rfl rfl ?_)))))
      exact ⟨rfl, rfl⟩
    obtain ⟨rfl, e1, e2, e3, e4⟩ := hDD hc11
    obtain ⟨z1, z2⟩ := hcz rfl
    refine Zc (Zt (Zs (Zr (Zy (y_field 0 rfl (Zv rfl) Zf) ?_))))
    refine wl_y (y_loadN (vs := St.cells ⟨pc', d2, r2, fl', su', pg', ie', rt', ve', ep', ca', ad', es', ei', co', ha'⟩ (.slice A3 d2.length c3) (.slice A4 r2.length c4)) (fun _ => rfl) (fun _ => rfl) (Zv rfl)) (row_cells Zh rfl) rfl ?_
    refine wl_t (t_alloc (fun _ => rfl) rfl) rfl ?_
    rintro _ _ ⟨b16, rfl, rfl⟩
    refine wl_t0 (t_storeN (fun _ => rfl) rfl rfl (allT rfl) Za (by exact rfl)) ?_
    rintro _ _ ⟨rfl, rfl⟩
    refine Zn (Zt (Zs (Zs (Zr (Zy (y_field 1 rfl (Zv rfl) Zf) ?_)))))
    refine Zz rfl ?_
    refine Zy (y_len ⟨_, rfl⟩ (Zv rfl)) ?_
    refine Zy (y_field 1 rfl (Zv rfl) Zf) ?_
    refine Zz rfl ?_
    refine Zy (y_len ⟨_, rfl⟩ (Zv rfl)) ?_
    refine Zm rfl (Zy (y_sub (Zv rfl) (Zv rfl) Zl) ?_)
    refine Zm rfl (Zy (y_add (Zv rfl) (Zv rfl) Zl) ?_)
    refine Zy (y_neq (Zv rfl) (Zv rfl) (bne_f (by omega))) ?_
    refine Zm rfl (Zyn rfl rfl (y_field 2 rfl (Zv rfl) Zf) ?_)
    refine wl_yg (guard_no rfl rfl) (y_load (fun _ => rfl) (ev_g rfl)) (row_cell Zh rfl) rfl ?_
    refine Zyn rfl rfl (y_len ⟨_, rfl⟩ (ev_g rfl)) ?_
    refine Zyn rfl rfl (y_field 2 rfl (Zv rfl) Zf) ?_
    refine wl_yg (guard_no rfl rfl) (y_load (fun _ => rfl) (ev_g rfl)) (row_cell Zh rfl) rfl ?_
    refine Zyn rfl rfl (y_len ⟨_, rfl⟩ (ev_g rfl)) ?_
    refine Zyn rfl rfl (y_move (Zv rfl)) ?_
    refine Zyn rfl rfl (y_sub (ev_g rfl) (ev_g rfl) Zl) ?_
    refine Zyn rfl rfl (y_move (Zv rfl)) ?_
    refine Zyn rfl rfl (y_add (ev_g rfl) (ev_g rfl) Zl) ?_
    refine Zyn rfl rfl (y_neq (ev_g rfl) (ev_g rfl) (bne_f (by omega))) ?_
    refine Zy (y_or (Zv rfl) (pk_no rfl (fun _ => rfl))) (Zm rfl (wl_loadRowg (guard_no rfl rfl) Zh (fun _ => rfl) (fun _ => rfl) (Zv rfl) rfl ?_))
    refine wl_loadRowg (guard_no rfl rfl) Zh (fun _ => rfl) (fun _ => rfl) (Zv rfl) rfl ?_
    refine wl_tg (guard_no rfl rfl) rfl (t_call rfl (fun _ _ => rfl) (fun w hi => HC w (hi.rdSt Zh Zh (show d'.length * 4 ≤ _ by omega) (show r.length * 4 ≤ _ by omega)))) rfl ?_
    rintro _ _ ⟨_, ⟨rfl, rfl⟩, rfl⟩
    refine Zyn rfl rfl (y_neq (ev_g rfl) (Zv rfl) rfl) ?_
    refine Zy (y_or (Zv rfl) (pk_no rfl (fun _ => rfl))) (Zn (Zt (wc_cond_f rfl (rfl) ?_)))
    refine Zc (Zt (Zs (Zs (Zr (wl_pick [row b4 [.int .u32 pc, .slice A1 d'.length c1, .slice A2 r.length c2, .int .u32 fl, .bool su, .bool false, .bool ie, .int .u32 rt, .int .u32 ve, .int .u32 ep, .int .u32 ca, .int .u32 ad, .bool es, .bool ei, .int .u64 co, .bool ha] 26, sl .u32 22 A1 d'.length c1 d', sl .u32 22 A2 r.length c2 r, row b16 [.int .u32 pc', .slice A3 d2.length c3, .slice A4 r2.length c4, .int .u32 fl', .bool su', .bool pg', .bool ie', .int .u32 rt', .int .u32 ve', .int .u32 ep', .int .u32 ca', .int .u32 ad', .bool es', .bool ei', .int .u64 co', .bool ha'] 26, sl .u32 22 A3 d2.length c3 d2, sl .u32 22 A4 r2.length c4 r2] Zj ?_)))))
    refine Zg rfl (Zn (Zt (Zx ?_)))
    refine wc_loop (fun k : Nat => [(4, .pointer (some ⟨b4, 0, none⟩)), (12, .int .i64 (na : Int)), (14, .int .i64 (ne : Int)), (16, .pointer (some ⟨b16, 0, none⟩)), (17, .int .i64 (k : Int))]) (fun k => [row b4 [.int .u32 pc, .slice A1 d'.length c1, .slice A2 r.length c2, .int .u32 fl, .bool su, .bool false, .bool ie, .int .u32 rt, .int .u32 ve, .int .u32 ep, .int .u32 ca, .int .u32 ad, .bool es, .bool ei, .int .u64 co, .bool ha] 26, sl .u32 22 A1 d'.length c1 d', sl .u32 22 A2 r.length c2 r, row b16 [.int .u32 pc', .slice A3 d2.length c3, .slice A4 r2.length c4, .int .u32 fl', .bool su', .bool pg', .bool ie', .int .u32 rt', .int .u32 ve', .int .u32 ep', .int .u32 ca', .int .u32 ad', .bool es', .bool ei', .int .u64 co', .bool ha'] 26, sl .u32 22 A3 d2.length c3 d2, sl .u32 22 A4 r2.length c4 r2]) (fun k => k ≤ 20) (fun k => 40 - k) (0) ?_ ?_ ?_ ?_
    · exact Nat.zero_le _
    · ((repeat' (refine Wk.cons ?_ ?_)) <;> first | exact Wk.nil | exact rfl | exact trivial | exact wk_num rfl (by omega) | exact wk_num rfl (by simp))
    · ((repeat (first | exact List.Sublist.slnil | refine List.Sublist.cons_cons _ ?_ | refine List.Sublist.cons _ ?_)))
    rintro k hk20
    refine Zs (Zs (Zr (Zm rfl (Zy (y_field 1 rfl (Zv rfl) Zf) ?_))))
    refine Zz rfl ?_
    refine Zy (y_len ⟨_, rfl⟩ (Zv rfl)) ?_
    refine Zm rfl (Zy (y_sub (Zv rfl) (Zv rfl) Zl) ?_)
    refine Zy (y_lss (Zv rfl) (Zv rfl) rfl) (Zn (Zt ?_))
    refine wc_cond _ rfl (fun hc17 => ?_) (fun hc17 => ?_)
    · simp only [decide_eq_true_eq] at hc17
      have hk1 : k < d'.length - na := (by omega)
      have hkd : k < d'.length := (by omega)
      refine wc_fact (fun w hi => slv_some (hi.get (show Has _ (sl .u32 22 A1 d'.length c1 d') from Zh)) (by omega)) (fun hA => ?_)
      obtain ⟨bA, rfl⟩ := hA
      have hx2 : d'[k]? = some (d'[k]'hkd) := List.getElem?_eq_getElem hkd
      obtain ⟨x, hxx⟩ : ∃ x, d'[k]'hkd = x := ⟨_, rfl⟩
      rw [hxx] at hx2
      have hx1 := (take_get e2 hk1).trans hx2
      have hk2 := (List.getElem?_eq_some_iff.1 hx1).1
      refine wc_fact (fun w hi => slv_some (hi.get (show Has _ (sl .u32 22 A3 d2.length c3 d2) from Zh)) (by omega)) (fun hA => ?_)
      obtain ⟨bC, rfl⟩ := hA
      refine Zc (Zt (Zs (Zx (Zs (wc_draw ⟨fun j => List.elem j [], []⟩ Zk ?_)))))
      refine wa_yn 0 rfl Zk Zk Zk (y_field 1 rfl (Zv rfl) Zf) rfl ?_
      refine wa_ln 1 rfl Zk Zk Zk Zk (y_load (fun _ => rfl) (Zv rfl)) (row_cell Zh rfl) rfl ?_
      refine wa_yn 2 rfl Zk Zk Zk (y_move (Zv rfl)) rfl ?_
      refine wa_yn 3 rfl Zk Zk Zk (y_indexR (j := k) (sz := 1) (r := k) rfl (fun _ => rfl) (Zv rfl) (Zv rfl) (fun _ => by omega) (fun _ => by omega) (by omega)) rfl ?_
      refine wa_ln 4 rfl Zk Zk Zk Zk (y_load (fun _ => rfl) (Zv rfl)) (sl_cellR Zh (ints_at hx1)) rfl ?_
      refine wa_yn 5 rfl Zk Zk Zk (y_field 1 rfl (Zv rfl) Zf) rfl ?_
      refine wa_ln 6 rfl Zk Zk Zk Zk (y_load (fun _ => rfl) (Zv rfl)) (row_cell Zh rfl) rfl ?_
      refine wa_yn 7 rfl Zk Zk Zk (y_move (Zv rfl)) rfl ?_
      refine wa_yn 8 rfl Zk Zk Zk (y_indexR (j := k) (sz := 1) (r := k) rfl (fun _ => rfl) (Zv rfl) (Zv rfl) (fun _ => by omega) (fun _ => by omega) (by omega)) rfl ?_
      refine wa_ln 9 rfl Zk Zk Zk Zk (y_load (fun _ => rfl) (Zv rfl)) (sl_cellR Zh (ints_at hx2)) rfl ?_
      refine wa_yn 10 rfl Zk Zk Zk (y_neq (Zv rfl) (Zv rfl) (bne_self_eq_false x)) rfl ?_
      refine wa_done Zk ?_
      refine Zt (wc_cond_f rfl (rfl) ?_)
      refine Zc (Zo (Zt (Zr (Zm rfl (Zy (y_add (Zv rfl) (Zv rfl) Zl) ?_)))))
      refine Zg rfl (Zn ?_)
      refine q_mid (k + 1) ?_ ?_ ?_
      · exact ⟨show k + 1 ≤ 20 by omega, show 40 - (k + 1) < 40 - k by omega⟩
      · ((repeat' (refine Wk.cons ?_ ?_)) <;> first | exact Wk.nil | exact rfl | exact trivial | exact wk_num rfl (by omega) | exact wk_num rfl (by simp))
      ((repeat (first | exact List.Sublist.slnil | refine List.Sublist.cons_cons _ ?_ | refine List.Sublist.cons _ ?_)))
    refine wc_exit ?_
    refine q_then_exit ?_
    refine q_then_exit ?_
    refine q_block_same rfl ?_
    refine Zt (Zs (Zs (Zr (Zg rfl (Zn (Zt (Zx ?_)))))))
    refine wc_loop (fun k : Nat => [(4, .pointer (some ⟨b4, 0, none⟩)), (14, .int .i64 (ne : Int)), (16, .pointer (some ⟨b16, 0, none⟩)), (18, .int .i64 (k : Int))]) (fun k => [row b4 [.int .u32 pc, .slice A1 d'.length c1, .slice A2 r.length c2, .int .u32 fl, .bool su, .bool false, .bool ie, .int .u32 rt, .int .u32 ve, .int .u32 ep, .int .u32 ca, .int .u32 ad, .bool es, .bool ei, .int .u64 co, .bool ha] 26, sl .u32 22 A1 d'.length c1 d', sl .u32 22 A2 r.length c2 r, row b16 [.int .u32 pc', .slice A3 d2.length c3, .slice A4 r2.length c4, .int .u32 fl', .bool su', .bool pg', .bool ie', .int .u32 rt', .int .u32 ve', .int .u32 ep', .int .u32 ca', .int .u32 ad', .bool es', .bool ei', .int .u64 co', .bool ha'] 26, sl .u32 22 A3 d2.length c3 d2, sl .u32 22 A4 r2.length c4 r2]) (fun k => k ≤ 20) (fun k => 40 - k) (0) ?_ ?_ ?_ ?_
    · exact Nat.zero_le _
    · ((repeat' (refine Wk.cons ?_ ?_)) <;> first | exact Wk.nil | exact rfl | exact trivial | exact wk_num rfl (by omega) | exact wk_num rfl (by simp))
    · ((repeat (first | exact List.Sublist.slnil | refine List.Sublist.cons_cons _ ?_ | refine List.Sublist.cons _ ?_)))
    rintro k hk20
    refine Zs (Zs (Zr (Zm rfl (Zy (y_field 2 rfl (Zv rfl) Zf) ?_))))
    refine Zz rfl ?_
    refine Zy (y_len ⟨_, rfl⟩ (Zv rfl)) ?_
    refine Zm rfl (Zy (y_sub (Zv rfl) (Zv rfl) Zl) ?_)
    refine Zy (y_lss (Zv rfl) (Zv rfl) rfl) (Zn (Zt ?_))
    refine wc_cond _ rfl (fun hc22 => ?_) (fun hc22 => ?_)
    · simp only [decide_eq_true_eq] at hc22
      have hk1 : k < r.length - ne := (by omega)
      have hkd : k < r.length := (by omega)
      refine wc_fact (fun w hi => slv_some (hi.get (show Has _ (sl .u32 22 A2 r.length c2 r) from Zh)) (by omega)) (fun hA => ?_)
      obtain ⟨bA, rfl⟩ := hA
      have hx2 : r[k]? = some (r[k]'hkd) := List.getElem?_eq_getElem hkd
      obtain ⟨x, hxx⟩ : ∃ x, r[k]'hkd = x := ⟨_, rfl⟩
      rw [hxx] at hx2
      have hx1 := (take_get e4 hk1).trans hx2
      have hk2 := (List.getElem?_eq_some_iff.1 hx1).1
      refine wc_fact (fun w hi => slv_some (hi.get (show Has _ (sl .u32 22 A4 r2.length c4 r2) from Zh)) (by omega)) (fun hA => ?_)
      obtain ⟨bC, rfl⟩ := hA
      refine Zc (Zt (Zs (Zx (Zs (wc_draw ⟨fun j => List.elem j [], []⟩ Zk ?_)))))
      refine wa_yn 0 rfl Zk Zk Zk (y_field 2 rfl (Zv rfl) Zf) rfl ?_
      refine wa_ln 1 rfl Zk Zk Zk Zk (y_load (fun _ => rfl) (Zv rfl)) (row_cell Zh rfl) rfl ?_
      refine wa_yn 2 rfl Zk Zk Zk (y_move (Zv rfl)) rfl ?_
      refine wa_yn 3 rfl Zk Zk Zk (y_indexR (j := k) (sz := 1) (r := k) rfl (fun _ => rfl) (Zv rfl) (Zv rfl) (fun _ => by omega) (fun _ => by omega) (by omega)) rfl ?_
      refine wa_ln 4 rfl Zk Zk Zk Zk (y_load (fun _ => rfl) (Zv rfl)) (sl_cellR Zh (ints_at hx1)) rfl ?_
      refine wa_yn 5 rfl Zk Zk Zk (y_field 2 rfl (Zv rfl) Zf) rfl ?_
      refine wa_ln 6 rfl Zk Zk Zk Zk (y_load (fun _ => rfl) (Zv rfl)) (row_cell Zh rfl) rfl ?_
      refine wa_yn 7 rfl Zk Zk Zk (y_move (Zv rfl)) rfl ?_
      refine wa_yn 8 rfl Zk Zk Zk (y_indexR (j := k) (sz := 1) (r := k) rfl (fun _ => rfl) (Zv rfl) (Zv rfl) (fun _ => by omega) (fun _ => by omega) (by omega)) rfl ?_
      refine wa_ln 9 rfl Zk Zk Zk Zk (y_load (fun _ => rfl) (Zv rfl)) (sl_cellR Zh (ints_at hx2)) rfl ?_
      refine wa_yn 10 rfl Zk Zk Zk (y_neq (Zv rfl) (Zv rfl) (bne_self_eq_false x)) rfl ?_
      refine wa_done Zk ?_
      refine Zt (wc_cond_f rfl (rfl) ?_)
      refine Zc (Zo (Zt (Zr (Zm rfl (Zy (y_add (Zv rfl) (Zv rfl) Zl) ?_)))))
      refine Zg rfl (Zn ?_)
      refine q_mid (k + 1) ?_ ?_ ?_
      · exact ⟨show k + 1 ≤ 20 by omega, show 40 - (k + 1) < 40 - k by omega⟩
      · ((repeat' (refine Wk.cons ?_ ?_)) <;> first | exact Wk.nil | exact rfl | exact trivial | exact wk_num rfl (by omega) | exact wk_num rfl (by simp))
      ((repeat (first | exact List.Sublist.slnil | refine List.Sublist.cons_cons _ ?_ | refine List.Sublist.cons _ ?_)))
    refine wc_exit ?_
    refine q_then_exit ?_
    refine q_then_exit ?_
    refine q_block_same rfl ?_
    refine Zt (Zs (Zr (Zy (y_field 14 rfl (Zv rfl) Zf) ?_)))
    refine Zz rfl ?_
    refine Zy (y_field 14 rfl (Zv rfl) Zf) ?_
    refine Zz rfl ?_
    refine Zy (y_add (Zv rfl) (Zv rfl) g3.symm) ?_
    refine Zy (y_eql (Zv rfl) (Zv rfl) (beq_self_eq_true co')) ?_
    refine Zm rfl (wl_tg (guard_yes rfl rfl) rfl (t_call rfl (fun _ _ => rfl) (fun w hi => known_ok w)) rfl ?_)
    rintro _ _ ⟨_, ⟨rfl, rfl⟩, rfl⟩
    refine Zy (y_and (Zv rfl) (pk_yes rfl (fun _ => rfl))) (Zg rfl (Zn (Zt (Ze (ret1 (cs' := []) (.inl rfl) Zu rfl rfl ?_)))))
    exact ⟨rfl, rfl⟩
  refine wi_t rfl rfl (t_alloc (fun _ => rfl) rfl) (fun _ _ _ _ _ _ _ h => by cases h) rfl ?_
  rintro _ _ ⟨b11, rfl, rfl⟩
  refine wa_1 10 Zk ?_
  refine wi_t rfl rfl (t_callS (ubF F.bu F.bb F.L F.D ⟨none, 0, none, 0⟩ ⟨M, T0⟩ d0) rfl (fun _ _ => rfl) Zi (fun w hi hin => HD w hin (fun w' hk => hi.rdStKs Zi Zh Zh (show d'.length * 4 ≤ _ by omega) (show r.length * 4 ≤ _ by omega) hk))) (fun _ _ _ _ _ _ _ h => by cases h) rfl ?_
  rintro _ _ ⟨_, ⟨⟨A3, c3, A4, c4⟩, Y1, Ap, cp, rfl, rfl⟩, rfl⟩
  refine wa_1 12 Zk ?_
  refine wi_t0 rfl rfl (t_storeN (fun _ => rfl) rfl rfl (allT rfl) Za (by exact rfl)) (fun _ _ _ _ _ _ _ h => by cases h) ?_
  rintro _ _ ⟨rfl, rfl⟩
  refine wa_done Zk ?_
  refine Zt (Zs (Zr (Zy (y_field 0 rfl (Zv rfl) Zf) ?_)))
  refine Zz rfl ?_
  refine wl_t (t_call rfl (fun _ _ => rfl) (fun w hi => HN w)) rfl ?_
  rintro _ _ ⟨_, ⟨rfl, rfl⟩, rfl⟩
  refine Zm rfl (Zy (y_extractN (Zv rfl) (.zero _ _)) (Zy (y_extractN (Zv rfl) (.succ _ (.zero _ _))) (Zy (y_extractN (Zv rfl) (.succ _ (.succ _ (.zero _ _)))) ?_)))
  refine Zy (y_extractN (Zv rfl) (.succ _ (.succ _ (.succ _ (.zero _ _))))) ?_
  refine Zg rfl (Zg rfl (Zg rfl (Zg rfl (Zn (Zt (Zs (Zs (Zr (Zy (y_field 16 rfl (Zv rfl) Zf) ?_)))))))))
  refine Zz rfl ?_
  refine Zn (Zt ?_)
  refine wc_cond _ rfl (fun hc11 => ?_) (fun hc11 => ?_)
  · refine Zs (Zr (wl_t (t_call rfl (fun _ _ => rfl) (fun w hi => known_ok w)) rfl ?_))
    rintro _ _ ⟨_, ⟨rfl, rfl⟩, rfl⟩
    refine Zg rfl (Zn (Zt (Ze (Zw (ret1 (cs' := []) (.inl rfl) Zu rfl rfl ?_)))))
    exact ⟨rfl, rfl⟩
  obtain ⟨rfl, e1, e2, e3, e4⟩ := hDD hc11
  obtain ⟨z1, z2⟩ := hcz rfl
  refine Zc (Zt (Zs (Zr (Zy (y_field 0 rfl (Zv rfl) Zf) ?_))))
  refine wl_y (y_loadN (vs := St.cells ⟨pc', d2, r2, fl', su', pg', ie', rt', ve', ep', ca', ad', es', ei', co', ha'⟩ (.slice A3 d2.length c3) (.slice A4 r2.length c4)) (fun _ => rfl) (fun _ => rfl) (Zv rfl)) (row_cells Zh rfl) rfl ?_
  refine wl_t (t_alloc (fun _ => rfl) rfl) rfl ?_
  rintro _ _ ⟨b16, rfl, rfl⟩
  refine wl_t0 (t_storeN (fun _ => rfl) rfl rfl (allT rfl) Za (by exact rfl)) ?_
  rintro _ _ ⟨rfl, rfl⟩
  refine Zn (Zt (Zs (Zs (Zr (Zy (y_field 1 rfl (Zv rfl) Zf) ?_)))))
  refine Zz rfl ?_
  refine Zy (y_len ⟨_, rfl⟩ (Zv rfl)) ?_
  refine Zy (y_field 1 rfl (Zv rfl) Zf) ?_
  refine Zz rfl ?_
  refine Zy (y_len ⟨_, rfl⟩ (Zv rfl)) ?_
  refine Zm rfl (Zy (y_sub (Zv rfl) (Zv rfl) Zl) ?_)
  refine Zm rfl (Zy (y_add (Zv rfl) (Zv rfl) Zl) ?_)
  refine Zy (y_neq (Zv rfl) (Zv rfl) (bne_f (by omega))) ?_
  refine Zm rfl (Zyn rfl rfl (y_field 2 rfl (Zv rfl) Zf) ?_)
  refine wl_yg (guard_no rfl rfl) (y_load (fun _ => rfl) (ev_g rfl)) (row_cell Zh rfl) rfl ?_
  refine Zyn rfl rfl (y_len ⟨_, rfl⟩ (ev_g rfl)) ?_
  refine Zyn rfl rfl (y_field 2 rfl (Zv rfl) Zf) ?_
  refine wl_yg (guard_no rfl rfl) (y_load (fun _ => rfl) (ev_g rfl)) (row_cell Zh rfl) rfl ?_
  refine Zyn rfl rfl (y_len ⟨_, rfl⟩ (ev_g rfl)) ?_
  refine Zyn rfl rfl (y_move (Zv rfl)) ?_
  refine Zyn rfl rfl (y_sub (ev_g rfl) (ev_g rfl) Zl) ?_
  refine Zyn rfl rfl (y_move (Zv rfl)) ?_
  refine Zyn rfl rfl (y_add (ev_g rfl) (ev_g rfl) Zl) ?_
  refine Zyn rfl rfl (y_neq (ev_g rfl) (ev_g rfl) (bne_f (by omega))) ?_
  refine Zy (y_or (Zv rfl) (pk_no rfl (fun _ => rfl))) (Zm rfl (wl_loadRowg (guard_no rfl rfl) Zh (fun _ => rfl) (fun _ => rfl) (Zv rfl) rfl ?_))
  refine wl_loadRowg (guard_no rfl rfl) Zh (fun _ => rfl) (fun _ => rfl) (Zv rfl) rfl ?_
  refine wl_tg (guard_no rfl rfl) rfl (t_call rfl (fun _ _ => rfl) (fun w hi => HC w (hi.rdSt Zh Zh (show d'.length * 4 ≤ _ by omega) (show r.length * 4 ≤ _ by omega)))) rfl ?_
  rintro _ _ ⟨_, ⟨rfl, rfl⟩, rfl⟩
  refine Zyn rfl rfl (y_neq (ev_g rfl) (Zv rfl) rfl) ?_
  refine Zy (y_or (Zv rfl) (pk_no rfl (fun _ => rfl))) (Zn (Zt (wc_cond_f rfl (rfl) ?_)))
  refine Zc (Zt (Zs (Zs (Zr (wl_pick [row b4 [.int .u32 pc, .slice A1 d'.length c1, .slice A2 r.length c2, .int .u32 fl, .bool su, .bool false, .bool ie, .int .u32 rt, .int .u32 ve, .int .u32 ep, .int .u32 ca, .int .u32 ad, .bool es, .bool ei, .int .u64 co, .bool ha] 26, sl .u32 22 A1 d'.length c1 d', sl .u32 22 A2 r.length c2 r, row b16 [.int .u32 pc', .slice A3 d2.length c3, .slice A4 r2.length c4, .int .u32 fl', .bool su', .bool pg', .bool ie', .int .u32 rt', .int .u32 ve', .int .u32 ep', .int .u32 ca', .int .u32 ad', .bool es', .bool ei', .int .u64 co', .bool ha'] 26, sl .u32 22 A3 d2.length c3 d2, sl .u32 22 A4 r2.length c4 r2] Zj ?_)))))
  refine Zg rfl (Zn (Zt (Zx ?_)))
  refine wc_loop (fun k : Nat => [(4, .pointer (some ⟨b4, 0, none⟩)), (12, .int .i64 (na : Int)), (14, .int .i64 (ne : Int)), (16, .pointer (some ⟨b16, 0, none⟩)), (17, .int .i64 (k : Int))]) (fun k => [row b4 [.int .u32 pc, .slice A1 d'.length c1, .slice A2 r.length c2, .int .u32 fl, .bool su, .bool false, .bool ie, .int .u32 rt, .int .u32 ve, .int .u32 ep, .int .u32 ca, .int .u32 ad, .bool es, .bool ei, .int .u64 co, .bool ha] 26, sl .u32 22 A1 d'.length c1 d', sl .u32 22 A2 r.length c2 r, row b16 [.int .u32 pc', .slice A3 d2.length c3, .slice A4 r2.length c4, .int .u32 fl', .bool su', .bool pg', .bool ie', .int .u32 rt', .int .u32 ve', .int .u32 ep', .int .u32 ca', .int .u32 ad', .bool es', .bool ei', .int .u64 co', .bool ha'] 26, sl .u32 22 A3 d2.length c3 d2, sl .u32 22 A4 r2.length c4 r2]) (fun k => k ≤ 20) (fun k => 40 - k) (0) ?_ ?_ ?_ ?_
  · exact Nat.zero_le _
  · ((repeat' (refine Wk.cons ?_ ?_)) <;> first | exact Wk.nil | exact rfl | exact trivial | exact wk_num rfl (by omega) | exact wk_num rfl (by simp))
  · ((repeat (first | exact List.Sublist.slnil | refine List.Sublist.cons_cons _ ?_ | refine List.Sublist.cons _ ?_)))
  rintro k hk20
  refine Zs (Zs (Zr (Zm rfl (Zy (y_field 1 rfl (Zv rfl) Zf) ?_))))
  refine Zz rfl ?_
  refine Zy (y_len ⟨_, rfl⟩ (Zv rfl)) ?_
  refine Zm rfl (Zy (y_sub (Zv rfl) (Zv rfl) Zl) ?_)
  refine Zy (y_lss (Zv rfl) (Zv rfl) rfl) (Zn (Zt ?_))
  refine wc_cond _ rfl (fun hc17 => ?_) (fun hc17 => ?_)
  · simp only [decide_eq_true_eq] at hc17
    have hk1 : k < d'.length - na := (by omega)
    have hkd : k < d'.length := (by omega)
    refine wc_fact (fun w hi => slv_some (hi.get (show Has _ (sl .u32 22 A1 d'.length c1 d') from Zh)) (by omega)) (fun hA => ?_)
    obtain ⟨bA, rfl⟩ := hA
    have hx2 : d'[k]? = some (d'[k]'hkd) := List.getElem?_eq_getElem hkd
    obtain ⟨x, hxx⟩ : ∃ x, d'[k]'hkd = x := ⟨_, rfl⟩
    rw [hxx] at hx2
    have hx1 := (take_get e2 hk1).trans hx2
    have hk2 := (List.getElem?_eq_some_iff.1 hx1).1
    refine wc_fact (fun w hi => slv_some (hi.get (show Has _ (sl .u32 22 A3 d2.length c3 d2) from Zh)) (by omega)) (fun hA => ?_)
    obtain ⟨bC, rfl⟩ := hA
    refine Zc (Zt (Zs (Zx (Zs (wc_draw ⟨fun j => List.elem j [], []⟩ Zk ?_)))))
    refine wa_yn 0 rfl Zk Zk Zk (y_field 1 rfl (Zv rfl) Zf) rfl ?_
    refine wa_ln 1 rfl Zk Zk Zk Zk (y_load (fun _ => rfl) (Zv rfl)) (row_cell Zh rfl) rfl ?_
    refine wa_yn 2 rfl Zk Zk Zk (y_move (Zv rfl)) rfl ?_
    refine wa_yn 3 rfl Zk Zk Zk (y_indexR (j := k) (sz := 1) (r := k) rfl (fun _ => rfl) (Zv rfl) (Zv rfl) (fun _ => by omega) (fun _ => by omega) (by omega)) rfl ?_
    refine wa_ln 4 rfl Zk Zk Zk Zk (y_load (fun _ => rfl) (Zv rfl)) (sl_cellR Zh (ints_at hx1)) rfl ?_
    refine wa_yn 5 rfl Zk Zk Zk (y_field 1 rfl (Zv rfl) Zf) rfl ?_
    refine wa_ln 6 rfl Zk Zk Zk Zk (y_load (fun _ => rfl) (Zv rfl)) (row_cell Zh rfl) rfl ?_
    refine wa_yn 7 rfl Zk Zk Zk (y_move (Zv rfl)) rfl ?_
    refine wa_yn 8 rfl Zk Zk Zk (y_indexR (j := k) (sz := 1) (r := k) rfl (fun _ => rfl) (Zv rfl) (Zv rfl) (fun _ => by omega) (fun _ => by omega) (by omega)) rfl ?_
    refine wa_ln 9 rfl Zk Zk Zk Zk (y_load (fun _ => rfl) (Zv rfl)) (sl_cellR Zh (ints_at hx2)) rfl ?_
    refine wa_yn 10 rfl Zk Zk Zk (y_neq (Zv rfl) (Zv rfl) (bne_self_eq_false x)) rfl ?_
    refine wa_done Zk ?_
    refine Zt (wc_cond_f rfl (rfl) ?_)
    refine Zc (Zo (Zt (Zr (Zm rfl (Zy (y_add (Zv rfl) (Zv rfl) Zl) ?_)))))
    refine Zg rfl (Zn ?_)
    refine q_mid (k + 1) ?_ ?_ ?_
    · exact ⟨show k + 1 ≤ 20 by omega, show 40 - (k + 1) < 40 - k by omega⟩
    · ((repeat' (refine Wk.cons ?_ ?_)) <;> first | exact Wk.nil | exact rfl | exact trivial | exact wk_num rfl (by omega) | exact wk_num rfl (by simp))
    ((repeat (first | exact List.Sublist.slnil | refine List.Sublist.cons_cons _ ?_ | refine List.Sublist.cons _ ?_)))
  refine wc_exit ?_
  refine q_then_exit ?_
  refine q_then_exit ?_
  refine q_block_same rfl ?_
  refine Zt (Zs (Zs (Zr (Zg rfl (Zn (Zt (Zx ?_)))))))
  refine wc_loop (fun k : Nat => [(4, .pointer (some ⟨b4, 0, none⟩)), (14, .int .i64 (ne : Int)), (16, .pointer (some ⟨b16, 0, none⟩)), (18, .int .i64 (k : Int))]) (fun k => [row b4 [.int .u32 pc, .slice A1 d'.length c1, .slice A2 r.length c2, .int .u32 fl, .bool su, .bool false, .bool ie, .int .u32 rt, .int .u32 ve, .int .u32 ep, .int .u32 ca, .int .u32 ad, .bool es, .bool ei, .int .u64 co, .bool ha] 26, sl .u32 22 A1 d'.length c1 d', sl .u32 22 A2 r.length c2 r, row b16 [.int .u32 pc', .slice A3 d2.length c3, .slice A4 r2.length c4, .int .u32 fl', .bool su', .bool pg', .bool ie', .int .u32 rt', .int .u32 ve', .int .u32 ep', .int .u32 ca', .int .u32 ad', .bool es', .bool ei', .int .u64 co', .bool ha'] 26, sl .u32 22 A3 d2.length c3 d2, sl .u32 22 A4 r2.length c4 r2]) (fun k => k ≤ 20) (fun k => 40 - k) (0) ?_ ?_ ?_ ?_
  · exact Nat.zero_le _
  · ((repeat' (refine Wk.cons ?_ ?_)) <;> first | exact Wk.nil | exact rfl | exact trivial | exact wk_num rfl (by omega) | exact wk_num rfl (by simp))
  · ((repeat (first | exact List.Sublist.slnil | refine List.Sublist.cons_cons _ ?_ | refine List.Sublist.cons _ ?_)))
  rintro k hk20
  refine Zs (Zs (Zr (Zm rfl (Zy (y_field 2 rfl (Zv rfl) Zf) ?_))))
  refine Zz rfl ?_
  refine Zy (y_len ⟨_, rfl⟩ (Zv rfl)) ?_
  refine Zm rfl (Zy (y_sub (Zv rfl) (Zv rfl) Zl) ?_)
  refine Zy (y_lss (Zv rfl) (Zv rfl) rfl) (Zn (Zt ?_))
  refine wc_cond _ rfl (fun hc22 => ?_) (fun hc22 => ?_)
  · simp only [decide_eq_true_eq] at hc22
    have hk1 : k < r.length - ne := (by omega)
    have hkd : k < r.length := (by omega)
    refine wc_fact (fun w hi => slv_some (hi.get (show Has _ (sl .u32 22 A2 r.length c2 r) from Zh)) (by omega)) (fun hA => ?_)
    obtain ⟨bA, rfl⟩ := hA
    have hx2 : r[k]? = some (r[k]'hkd) := List.getElem?_eq_getElem hkd
    obtain ⟨x, hxx⟩ : ∃ x, r[k]'hkd = x := ⟨_, rfl⟩
    rw [hxx] at hx2
    have hx1 := (take_get e4 hk1).trans hx2
    have hk2 := (List.getElem?_eq_some_iff.1 hx1).1
    refine wc_fact (fun w hi => slv_some (hi.get (show Has _ (sl .u32 22 A4 r2.length c4 r2) from Zh)) (by omega)) (fun hA => ?_)
    obtain ⟨bC, rfl⟩ := hA
    refine Zc (Zt (Zs (Zx (Zs (wc_draw ⟨fun j => List.elem j [], []⟩ Zk ?_)))))
    refine wa_yn 0 rfl Zk Zk Zk (y_field 2 rfl (Zv rfl) Zf) rfl ?_
    refine wa_ln 1 rfl Zk Zk Zk Zk (y_load (fun _ => rfl) (Zv rfl)) (row_cell Zh rfl) rfl ?_
    refine wa_yn 2 rfl Zk Zk Zk (y_move (Zv rfl)) rfl ?_
    refine wa_yn 3 rfl Zk Zk Zk (y_indexR (j := k) (sz := 1) (r := k) rfl (fun _ => rfl) (Zv rfl) (Zv rfl) (fun _ => by omega) (fun _ => by omega) (by omega)) rfl ?_
    refine wa_ln 4 rfl Zk Zk Zk Zk (y_load (fun _ => rfl) (Zv rfl)) (sl_cellR Zh (ints_at hx1)) rfl ?_
    refine wa_yn 5 rfl Zk Zk Zk (y_field 2 rfl (Zv rfl) Zf) rfl ?_
    refine wa_ln 6 rfl Zk Zk Zk Zk (y_load (fun _ => rfl) (Zv rfl)) (row_cell Zh rfl) rfl ?_
    refine wa_yn 7 rfl Zk Zk Zk (y_move (Zv rfl)) rfl ?_
    refine wa_yn 8 rfl Zk Zk Zk (y_indexR (j := k) (sz := 1) (r := k) rfl (fun _ => rfl) (Zv rfl) (Zv rfl) (fun _ => by omega) (fun _ => by omega) (by omega)) rfl ?_
    refine wa_ln 9 rfl Zk Zk Zk Zk (y_load (fun _ => rfl) (Zv rfl)) (sl_cellR Zh (ints_at hx2)) rfl ?_
    refine wa_yn 10 rfl Zk Zk Zk (y_neq (Zv rfl) (Zv rfl) (bne_self_eq_false x)) rfl ?_
    refine wa_done Zk ?_
    refine Zt (wc_cond_f rfl (rfl) ?_)
    refine Zc (Zo (Zt (Zr (Zm rfl (Zy (y_add (Zv rfl) (Zv rfl) Zl) ?_)))))
    refine Zg rfl (Zn ?_)
    refine q_mid (k + 1) ?_ ?_ ?_
    · exact ⟨show k + 1 ≤ 20 by omega, show 40 - (k + 1) < 40 - k by omega⟩
    · ((repeat' (refine Wk.cons ?_ ?_)) <;> first | exact Wk.nil | exact rfl | exact trivial | exact wk_num rfl (by omega) | exact wk_num rfl (by simp))
    ((repeat (first | exact List.Sublist.slnil | refine List.Sublist.cons_cons _ ?_ | refine List.Sublist.cons _ ?_)))
  refine wc_exit ?_
  refine q_then_exit ?_
  refine q_then_exit ?_
  refine q_block_same rfl ?_
  refine Zt (Zs (Zr (Zy (y_field 14 rfl (Zv rfl) Zf) ?_)))
  refine Zz rfl ?_
  refine Zy (y_field 14 rfl (Zv rfl) Zf) ?_
  refine Zz rfl ?_
  refine Zy (y_add (Zv rfl) (Zv rfl) g3.symm) ?_
  refine Zy (y_eql (Zv rfl) (Zv rfl) (beq_self_eq_true co')) ?_
  refine Zm rfl (wl_tg (guard_yes rfl rfl) rfl (t_call rfl (fun _ _ => rfl) (fun w hi => known_ok w)) rfl ?_)
  rintro _ _ ⟨_, ⟨rfl, rfl⟩, rfl⟩
  refine Zy (y_and (Zv rfl) (pk_yes rfl (fun _ => rfl))) (Zg rfl (Zn (Zt (Ze (ret1 (cs' := []) (.inl rfl) Zu rfl rfl ?_)))))
  exact ⟨rfl, rfl⟩
end Go.Proofs.YtobjiljkfmcalaaGreat
