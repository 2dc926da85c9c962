/- The law StepPlays. -/
import Derived.Test.YtobjiljkfmcalaaGreatSsN
import Derived.Test.YtobjiljkfmcalaaGreatInkA
set_option linter.unusedSimpArgs false
set_option linter.unusedVariables false
set_option maxRecDepth 100000
namespace Go.Ink
open Go.RowKit
theorem MOk.init {n : Nat} {b : List Int} (h1 : 1 ≤ n) (h64 : n ≤ 64) (h : b.length ≤ n * 64) (hb : u8s b) : MOk n (Mem.init n b) :=
  ⟨init_ok h hb, h1, h64, fun j hj => by
    show (List.replicate 64 false).getD j false = false
    rw [List.getD_eq_getElem?_getD]
    cases hx : (List.replicate 64 false)[j]? with
    | none => rfl
    | some b => exact (List.mem_replicate.1 (List.mem_of_getElem? hx)).2⟩
theorem St.wd_wf {pc : Int} {d r d' : List Int} {fl : Int} {su pg ie : Bool} {rt ve ep ca ad : Int} {es ei : Bool} {co : Int} {ha su' : Bool} (h : (⟨pc, d, r, fl, su, pg, ie, rt, ve, ep, ca, ad, es, ei, co, ha⟩ : St).wf) (hd : ∀ x, x ∈ d' → u32 x) : (⟨pc, d', r, fl, su', pg, ie, rt, ve, ep, ca, ad, es, ei, co, ha⟩ : St).wf :=
  ⟨h.pc, h.flags, h.root, h.vec, h.epc, h.cause, h.addr, h.count, hd, h.r⟩
end Go.Ink
namespace Go.Proofs.YtobjiljkfmcalaaGreat
open Go.RowKit Go.Ink

theorem freshT_ok (A B : Option Addr) (c e n : Nat) (l k : List Int) (hn0 : 1 ≤ n) (hn : n ≤ 64) (hl : l.length ≤ n * 64) (hb : u8s l) (hk : k.length ≤ 1024) (w : World) (h : Rd w .u8 A l.length c l) (hB : Rd w .u8 B k.length e k) :
    Ctr Tryz.prog 12 [.slice A l.length c, .slice B k.length e, .int .i64 n] w []
    (fun v cs => ∃ F, F.L.n = n ∧ v = .pointer (some ⟨F.bw, 0, none⟩) ∧ cs = worldRow F :: (ubF F.bu F.bb F.L F.D ⟨none, 0, none, 0⟩ ⟨Mem.init n l, tflush⟩ (Dev.init k) ++ (rmF F.K n (Mem.init n l) ++ [refURow F.bx F.K.bm tflush] ++ refBF F.by_ F.K.bm F.bd ⟨none, 0, none, 0⟩ (Dev.init k)))) := by
  refine (fresh_ok A B c e n l k hn0 hn hl hb hk w h hB).mono ?_
  rintro v cs ⟨F, hF, rfl, rfl⟩
  refine ⟨F, hF, rfl, ?_⟩
  have e : (Mem.init n l).turned.take n = List.replicate n false := by show (List.replicate 64 false).take n = _; rw [List.take_replicate, Nat.min_eq_left hn]
  unfold worldR worldP rmF
  rw [hF, e]
  rfl
abbrev plB (b4 : Nat) (s : St) (A A' : Option Addr) (c c' : Nat) : List Chunk := [row b4 (s.cells (.slice A s.d.length c) (.slice A' s.r.length c')) 26, slD s A c, slR s A' c']
set_option maxHeartbeats 4000000 in
theorem stepPlays_ok (s : St) (hs : s.wf) (Ad Ar B G E : Option Addr) (cd cr cb cg ce : Nat) (b g : List Int) (hb : u8s b) (l : List AskR) (w : World) (h : RdSt w s Ad Ar cd cr) (hB : Rd w .u8 B b.length cb b) (hG : Rd w .u8 G g.length cg g) (hE : RdV w 6 E l.length ce (l.flatMap AskR.cells)) (hl : ∀ a, a ∈ l → a.ok w) (hgu : u8s g) :
    Ctr Tryz.prog 9 [sv s Ad cd Ar cr, .slice B b.length cb, .slice G g.length cg, .slice E l.length ce] w [] (fun v cs => v = .bool true ∧ cs = []) := by
  have hb1 := u8s_take hb 512
  have hbl : (b.take 512).length ≤ 512 := by rw [List.length_take]; omega
  have hB1 := rd_take hB 512
  have HCut := fun w => cut_ok B cb b 512 w hB.cap
  obtain ⟨bb, hbb⟩ : ∃ bb, b.take 512 = bb := ⟨_, rfl⟩
  rw [hbb] at hb1 hbl hB1 HCut
  have hg1 := u8s_take hgu 300
  have hgl : (g.take 300).length ≤ 300 := by rw [List.length_take]; omega
  have hG1 := rd_take hG 300
  have HCut2 := fun w => cut_ok G cg g 300 w hG.cap
  obtain ⟨gg, hgg⟩ : ∃ bb, g.take 300 = bb := ⟨_, rfl⟩
  rw [hgg] at hg1 hgl hG1 HCut2
  have HF := fun w h h2 => freshT_ok B G cb cg 8 bb gg (by decide) (by decide) hbl hb1 (by omega) w h h2
  have HT := trim_ok s hs Ad Ar cd cr
  have htw := St.tr_wf hs
  have htr := St.tr_right (s := s)
  obtain ⟨⟨pc, d, r, fl, su, pg, ie, rt, ve, ep, ca, ad, es, ei, co, ha⟩, ht⟩ : ∃ t, s.trim = t := ⟨_, rfl⟩
  rw [ht] at HT htw htr
  have hM0 : MOk 8 (Mem.init 8 bb) := MOk.init (by decide) (by decide) hbl hb1
  have hd0 := Dev.init_ok (l := gg) (by omega) hg1
  have ho0 : (Dev.init gg).out.length ≤ 0 := Nat.le_refl _
  obtain ⟨M, hM⟩ : ∃ M, Mem.init 8 bb = M := ⟨_, rfl⟩
  obtain ⟨d0, hdd⟩ : ∃ d, Dev.init gg = d := ⟨_, rfl⟩
  have hT0 := tflush_len
  obtain ⟨T0, hTT⟩ : ∃ T, tflush = T := ⟨_, rfl⟩
  rw [hM, hTT, hdd] at HF
  rw [hM] at hM0
  rw [hTT] at hT0
  rw [hdd] at hd0 ho0
  have hlm : l.length ≤ maxLen := Nat.le_trans hE.cap hE.max
  simp only [maxLen] at hlm
  have htw0 : (⟨pc, d, r, fl, su, pg, ie, 0, ve, ep, ca, ad, es, ei, co, ha⟩ : St).wf := ⟨htw.pc, htw.flags, u0, htw.vec, htw.epc, htw.cause, htw.addr, htw.count, htw.d, htw.r⟩
  obtain ⟨hd16, hr16, hf15⟩ := St.fits htr
  have htr0 : (⟨pc, d, r, fl, su, pg, ie, 0, ve, ep, ca, ad, es, ei, co, ha⟩ : St).right = true := St.mkr hd16 hr16 hf15
  refine fn_ctr Tryz.func9 rfl Tryz.ntmps9 rfl (Inv.start w) ?_
  refine Zs (Zr (wl_t (t_box rfl rfl) rfl ?_))
  rintro _ _ ⟨b4, rfl, rfl⟩
  refine Zg rfl (Zn (Zt (Zs (Zr (Zm rfl (wl_t (t_call rfl (fun _ _ => rfl) (fun w hi => HCut w)) rfl ?_))))))
  rintro _ _ ⟨_, ⟨rfl, rfl⟩, rfl⟩
  refine Zm rfl (wl_t (t_call rfl (fun _ _ => rfl) (fun w hi => HCut2 w)) rfl ?_)
  rintro _ _ ⟨_, ⟨rfl, rfl⟩, rfl⟩
  refine wl_t (t_call rfl (fun _ _ => rfl) (fun w hi => HF w (hB1.oldN hi) (hG1.oldN hi))) rfl ?_
  rintro _ _ ⟨_, ⟨F, hF, rfl, rfl⟩, rfl⟩
  refine Zg rfl (Zn (Zt (Zs (Zs (Zr (Zm rfl (Zy (y_pnil rfl (Zv rfl)) (Zn (Zt (wc_cond_f rfl (rfl) ?_))))))))))
  refine Zc (Zt (Zs (Zr (wl_loadRow Zh (fun _ => rfl) (fun _ => rfl) (Zv rfl) rfl ?_))))
  refine wl_t (t_call rfl (fun _ _ => rfl) (fun w hi => HT w (h.oldN hi))) rfl ?_
  rintro _ _ ⟨_, ⟨A1, c1, A2, c2, rfl, rfl⟩, rfl⟩
  refine wl_t0 (t_storeN (fun _ => rfl) rfl rfl (allT rfl) Za (by exact rfl)) ?_
  rintro _ _ ⟨rfl, rfl⟩
  refine Zn (Zt (Zs (Zr (Zy (y_field 7 rfl (Zv rfl) Zf) ?_))))
  refine wl_t0 (t_store (fun _ => rfl) rfl rfl rfl Za Zp) ?_
  rintro _ _ ⟨rfl, rfl⟩
  refine Zn (Zt (Zs (Zr (wl_pick (plB b4 ⟨pc, d, r, fl, su, pg, ie, 0, ve, ep, ca, ad, es, ei, co, ha⟩ A1 A2 c1 c2 ++ togF F 8 ⟨none, 0, none, 0⟩ ⟨none, 0, none, 0⟩ ⟨M, T0⟩ d0) Zj ?_))))
  refine Zg rfl (Zn (Zt (Zs (Zs (Zr (Zg rfl (Zn (Zt (Zx ?_)))))))))
  refine wc_loop (fun q : Nat × St × SAdr × (DAdr × DAdr) × Mmu × Dev => [(3, .slice E l.length ce), (4, .pointer (some ⟨b4, 0, none⟩)), (9, .pointer (some ⟨F.bw, 0, none⟩)), (10, .bool true), (11, .int .i64 (q.1 : Int))]) (fun q => plB b4 q.2.1 q.2.2.1.Ad q.2.2.1.Ar q.2.2.1.cd q.2.2.1.cr ++ togF F 8 q.2.2.2.1.1 q.2.2.2.1.2 q.2.2.2.2.1 q.2.2.2.2.2) (fun q => q.1 ≤ l.length ∧ q.1 ≤ 50 ∧ q.2.1.wf ∧ q.2.1.right = true ∧ MOk 8 q.2.2.2.2.1.m ∧ q.2.2.2.2.1.t.length = 16 ∧ q.2.2.2.2.2.ok ∧ q.2.2.2.2.2.out.length ≤ q.1) (fun q => 60 - q.1) (⟨0, ⟨pc, d, r, fl, su, pg, ie, 0, ve, ep, ca, ad, es, ei, co, ha⟩, ⟨A1, c1, A2, c2⟩, ⟨⟨none, 0, none, 0⟩, ⟨none, 0, none, 0⟩⟩, ⟨M, T0⟩, d0⟩) ?_ ?_ ?_ ?_
  · exact ⟨Nat.zero_le _, Nat.zero_le _, htw0, htr0, hM0, hT0, hd0, ho0⟩
  · ((repeat' (refine Wk.cons ?_ ?_)) <;> first | exact Wk.nil | exact rfl | exact trivial | exact wk_num rfl (by omega) | exact wk_num rfl (by simp))
  · ((repeat (first | exact List.Sublist.slnil | refine List.Sublist.cons_cons _ ?_ | refine List.Sublist.cons _ ?_)))
  rintro ⟨k, ⟨pc, d, r, fl, su, pg, ie, rt, ve, ep, ca, ad, es, ei, co, ha⟩, X, ⟨Y, Z⟩, U, dv⟩ ⟨hk1, hk50, hw, hr, hM, hT, hd, ho⟩
  dsimp only at hk1 hk50 hw hr hM hT hd ho ⊢
  refine Zs (Zs (Zr (Zm rfl (Zm rfl (Zy (y_len ⟨_, rfl⟩ (Zv rfl)) ?_)))))
  refine Zy (y_lss (Zv rfl) (Zv rfl) rfl) (Zm rfl (Zyy rfl rfl (y_move (Zv rfl)) ?_))
  refine Zyy rfl rfl (y_lss (ev_g rfl) (Zv rfl) rfl) ?_
  refine Zy (y_and (Zv rfl) (pk_yes rfl (fun _ => rfl))) (Zn (Zt ?_))
  refine wc_cond _ rfl (fun hc8 => ?_) (fun hc8 => ?_)
  · simp only [Bool.and_eq_true, decide_eq_true_eq] at hc8
    have hkl : k < l.length := (by omega)
    obtain ⟨ae, rfl⟩ := hE.some_ (by omega)
    have hla : l[k]? = some (l[k]'hkl) := List.getElem?_eq_getElem hkl
    have hao := hl _ (List.getElem_mem hkl)
    obtain ⟨⟨an, av, At, ct, ts, raw, aop, ann⟩, ha_⟩ : ∃ a, l[k]'hkl = a := ⟨_, rfl⟩
    rw [ha_] at hla hao
    obtain ⟨hd16, hr16, hf15⟩ := St.fits hr
    have hd16 : d.length ≤ 16 := hd16
    have hr16 : r.length ≤ 16 := hr16
    have htsm : ts.length ≤ maxLen := Nat.le_trans hao.rd.cap hao.rd.max
    simp only [maxLen] at htsm
    refine Zc (Zt (Zs (Zx (Zs (Zs (Zr (Zg rfl (Zn (Zt (Zx ?_))))))))))
    refine wc_loop (fun q : Nat × List Int × Option Addr × Nat => [(3, .slice (some ae) l.length ce), (4, .pointer (some ⟨b4, 0, none⟩)), (9, .pointer (some ⟨F.bw, 0, none⟩)), (10, .bool true), (11, .int .i64 (k : Int)), (12, .int .i64 (q.1 : Int))]) (fun q => plB b4 ⟨pc, q.2.1, r, fl, su, pg, ie, rt, ve, ep, ca, ad, es, ei, co, ha⟩ q.2.2.1 X.Ar q.2.2.2 X.cr ++ togF F 8 Y Z U dv) (fun q => q.1 ≤ ts.length ∧ q.1 ≤ 3 ∧ q.2.1.length ≤ 16 ∧ ∀ x, x ∈ q.2.1 → u32 x) (fun q => 10 - q.1) (⟨0, d, X.Ad, X.cd⟩) ?_ ?_ ?_ ?_
    · exact ⟨Nat.zero_le _, Nat.zero_le _, hd16, hw.d⟩
    · ((repeat' (refine Wk.cons ?_ ?_)) <;> first | exact Wk.nil | exact rfl | exact trivial | exact wk_num rfl (by omega) | exact wk_num rfl (by simp))
    · ((repeat (first | exact List.Sublist.slnil | refine List.Sublist.cons_cons _ ?_ | refine List.Sublist.cons _ ?_)))
    rintro ⟨j, dd, A5, c5⟩ ⟨hj1, hj3, hdd16, hdw⟩
    dsimp only at hj1 hj3 hdd16 hdw ⊢
    refine Zs (Zs (Zr (Zm rfl (Zm rfl (Zm rfl (Zy (y_index (j := k)  rfl (fun _ => rfl) (Zv rfl) (Zv rfl)  (fun _ => by omega) (fun _ => by omega)) ?_))))))
    refine Zy (y_fieldA 2 rfl (Zv rfl) ((add_of_add ae (k * 6) 2))) ?_
    refine wl_y (y_load (fun _ => rfl) (Zv rfl)) (rdR_cell hE (flat_at AskR.cells_len (i := 2) hla rfl)) rfl ?_
    refine Zy (y_len ⟨_, rfl⟩ (Zv rfl)) ?_
    refine Zy (y_lss (Zv rfl) (Zv rfl) rfl) (Zm rfl (Zyy rfl rfl (y_move (Zv rfl)) ?_))
    refine Zyy rfl rfl (y_lss (ev_g rfl) (Zv rfl) rfl) ?_
    refine Zy (y_and (Zv rfl) (pk_yes rfl (fun _ => rfl))) (Zm rfl (Zyy rfl rfl (y_field 1 rfl (Zv rfl) Zf) ?_))
    refine wl_yg (guard_yes rfl rfl) (y_load (fun _ => rfl) (ev_g rfl)) (row_cell Zh rfl) rfl ?_
    refine Zyy rfl rfl (y_len ⟨_, rfl⟩ (ev_g rfl)) ?_
    refine Zyy rfl rfl (y_lss (ev_g rfl) (Zv rfl) rfl) ?_
    refine Zy (y_and (Zv rfl) (pk_yes rfl (fun _ => rfl))) (Zn (Zt ?_))
    refine wc_cond _ rfl (fun hc11 => ?_) (fun hc11 => ?_)
    · simp only [Bool.and_eq_true, decide_eq_true_eq] at hc11
      have hjl : j < ts.length := (by omega)
      obtain ⟨at_, rfl⟩ := hao.rd.some_ (show 0 < ts.length by omega)
      have hx : ts[j]? = some (ts[j]'hjl) := List.getElem?_eq_getElem hjl
      have hxu := hao.ts _ (List.getElem_mem hjl)
      obtain ⟨x, hxx⟩ : ∃ x, ts[j]'hjl = x := ⟨_, rfl⟩
      rw [hxx] at hx hxu
      obtain ⟨x, rfl⟩ : ∃ m : Nat, x = m := Int.eq_ofNat_of_zero_le hxu.1
      have hxle : (x : Int) ≤ 4294967295 := hxu.2
      have hdl : dd.length < 16 := (by omega)
      have hdlS : (⟨pc, dd, r, fl, su, pg, ie, rt, ve, ep, ca, ad, es, ei, co, ha⟩ : St).d.length < 16 := hdl
      refine Zc (Zt (Zs (Zx (Zs (Zr (Zm rfl (Zm rfl (Zy (y_index (j := k)  rfl (fun _ => rfl) (Zv rfl) (Zv rfl)  (fun _ => by omega) (fun _ => by omega)) ?_))))))))
      refine Zy (y_fieldA 2 rfl (Zv rfl) ((add_of_add ae (k * 6) 2))) ?_
      refine wl_y (y_load (fun _ => rfl) (Zv rfl)) (rdR_cell hE (flat_at AskR.cells_len (i := 2) hla rfl)) rfl ?_
      refine Zm rfl (Zy (y_index (j := j)  rfl (fun _ => rfl) (Zv rfl) (Zv rfl)  (fun _ => by omega) (fun _ => by omega)) ?_)
      refine wl_y (y_load (fun _ => rfl) (Zv rfl)) (rd_cell hao.rd (ints_at hx)) rfl ?_
      refine Zg rfl (Zn (Zt ?_))
      refine wc_seq_mid (fun y : Int => [(3, .slice (some ae) l.length ce), (4, .pointer (some ⟨b4, 0, none⟩)), (9, .pointer (some ⟨F.bw, 0, none⟩)), (10, .bool true), (11, .int .i64 (k : Int)), (12, .int .i64 (j : Int)), (13, .int .u32 y)]) (fun _ => plB b4 ⟨pc, dd, r, fl, su, pg, ie, rt, ve, ep, ca, ad, es, ei, co, ha⟩ A5 X.Ar c5 X.cr ++ togF F 8 Y Z U dv) (fun y => u32 y) ?_ ?_
      · refine Zs (Zr (Zm rfl (Zy (y_rem (Zv rfl) (Zv rfl) (by omega) (show _ = ((x % 3 : Nat) : Int) from by rw [Int.tmod_eq_emod_of_nonneg (by omega)]; omega)) ?_)))
        refine Zn (Zt (Zx (Zs (Zr (Zy (y_eql (Zv rfl) (Zv rfl) rfl) (Zg rfl (Zn (Zt ?_))))))))
        refine wc_cond _ rfl (fun hc15 => ?_) (fun hc15 => ?_)
        · refine Zr (Zm rfl (Zy (y_rem (Zv rfl) (Zv rfl) (by omega) (show _ = ((x % 600 : Nat) : Int) from by rw [Int.tmod_eq_emod_of_nonneg (by omega)]; omega)) ?_))
          refine Zg rfl (Zn (Zo ?_))
          refine q_midP (((x % 600 : Nat) : Int)) ?_ ?_ ?_
          · exact u32_nat (by omega)
          · ((repeat' (refine Wk.cons ?_ ?_)) <;> first | exact Wk.nil | exact rfl | exact trivial | exact wk_num rfl (by omega) | exact wk_num rfl (by simp))
          exact Zj
        refine Zs (Zr (Zy (y_eql (Zv rfl) (Zv rfl) rfl) (Zg rfl (Zn (Zt ?_)))))
        refine wc_cond _ rfl (fun hc17 => ?_) (fun hc17 => ?_)
        · refine Zr (Zm rfl (Zy (y_rem (Zv rfl) (Zv rfl) (by omega) (show _ = ((x % 16 : Nat) : Int) from by rw [Int.tmod_eq_emod_of_nonneg (by omega)]; omega)) ?_))
          refine Zy (y_mul (Zv rfl) (Zv rfl) (show _ = ((x % 16 * 4 : Nat) : Int) from by rw [u32_wrap_id _ (by omega) (by omega)]; omega)) ?_
          refine Zy (y_add (Zv rfl) (Zv rfl) (show _ = ((32768 + x % 16 * 4 : Nat) : Int) from by rw [u32_wrap_id _ (by omega) (by omega)]; omega)) ?_
          refine Zg rfl (Zn (Zo ?_))
          refine q_midP (((32768 + x % 16 * 4 : Nat) : Int)) ?_ ?_ ?_
          · exact u32_nat (by omega)
          · ((repeat' (refine Wk.cons ?_ ?_)) <;> first | exact Wk.nil | exact rfl | exact trivial | exact wk_num rfl (by omega) | exact wk_num rfl (by simp))
          exact Zj
        refine Zc (Zo ?_)
        refine q_midP ((x : Int)) ?_ ?_ ?_
        · exact hxu
        · ((repeat' (refine Wk.cons ?_ ?_)) <;> first | exact Wk.nil | exact rfl | exact trivial | exact wk_num rfl (by omega) | exact wk_num rfl (by simp))
        exact Zj
      rintro y hy
      refine Zr (wl_t (t_buildSl1 rfl rfl (fun _ => rfl) (fun _ => rfl) rfl rfl) rfl ?_)
      rintro _ _ ⟨b75, rfl, rfl⟩
      refine Zy (y_field 1 rfl (Zv rfl) Zf) ?_
      refine Zz rfl ?_
      refine wl_t (t_append (e := 22) (sz := 1) (bytes := 4) rfl rfl Za rfl rfl (fun w hi => hi.rd (show Has _ (sl .u32 22 A5 dd.length c5 dd) from Zh)) ints_one (by simp only [maxLen]; omega) (by omega)) rfl ?_
      rintro _ _ ⟨A6, c6, rfl, rfl⟩
      simp only [Nat.zero_add, List.nil_append]
      refine Zm rfl (wl_t (t_buildSl1 rfl rfl (fun _ => rfl) (fun _ => rfl) rfl rfl) rfl ?_)
      rintro _ _ ⟨b80, rfl, rfl⟩
      refine wl_t (t_append (e := 22) (sz := 1) (bytes := 4) rfl rfl Za rfl rfl (fun w hi => hi.rd (show Has _ (slv 22 1 (some ⟨b80, 0, none⟩) 1 1 (ints .u32 [y])) from Zh)) ints_one (by simp only [maxLen]; omega) (by omega)) rfl ?_
      rintro _ _ ⟨A7, c7, rfl, rfl⟩
      rw [ints_append, show dd.length + 1 = (dd ++ [y]).length by simp]
      refine Zy (y_field 1 rfl (Zv rfl) Zf) ?_
      refine wl_t0 (t_store (fun _ => rfl) rfl rfl rfl Za Zp) ?_
      rintro _ _ ⟨rfl, rfl⟩
      refine Zn (Zo (Zt (Zr (Zm rfl (Zy (y_add (Zv rfl) (Zv rfl) Zl) ?_)))))
      refine Zg rfl (Zn ?_)
      refine q_midP ((⟨j + 1, dd ++ [y], A7, c7⟩ : Nat × List Int × Option Addr × Nat)) ?_ ?_ ?_
      · exact ⟨⟨show j + 1 ≤ ts.length by omega, show j + 1 ≤ 3 by omega, by simp; omega, fun x hx => (by rcases List.mem_append.1 hx with h | h; exact hdw x h; obtain rfl := List.mem_singleton.1 h; exact hy)⟩, show 10 - (j + 1) < 10 - j by omega⟩
      · ((repeat' (refine Wk.cons ?_ ?_)) <;> first | exact Wk.nil | exact rfl | exact trivial | exact wk_num rfl (by omega) | exact wk_num rfl (by simp))
      exact Zj
    refine wc_exit ?_
    refine q_then_exit ?_
    refine q_then_exit ?_
    refine q_block_same rfl ?_
    refine Zt ?_
    refine wc_seq_mid (fun q : Int × Int × Nat => [(3, .slice (some ae) l.length ce), (4, .pointer (some ⟨b4, 0, none⟩)), (9, .pointer (some ⟨F.bw, 0, none⟩)), (11, .int .i64 (k : Int)), (14, .pointer (some ⟨q.2.2, 0, none⟩))]) (fun q => plB b4 ⟨pc, dd, r, fl, su, pg, ie, rt, ve, ep, ca, ad, es, ei, co, ha⟩ A5 X.Ar c5 X.cr ++ togF F 8 Y Z U dv ++ [twI q.2.2 q.1 q.2.1]) (fun q => u32 q.2.1) ?_ ?_
    · refine wc_draw ⟨fun j => List.elem j [12], []⟩ Zk ?_
      refine wa_yn 0 rfl Zk Zk Zk (y_move (Zv rfl)) rfl ?_
      refine wa_yn 1 rfl Zk Zk Zk (y_move (Zv rfl)) rfl ?_
      refine wa_yn 2 rfl Zk Zk Zk (y_index (j := k)  rfl (fun _ => rfl) (Zv rfl) (Zv rfl)  (fun _ => by omega) (fun _ => by omega)) rfl ?_
      refine wa_yn 3 rfl Zk Zk Zk (y_fieldA 0 rfl (Zv rfl) ((add_of_add ae (k * 6) 0))) rfl ?_
      refine wa_ln 4 rfl Zk Zk Zk Zk (y_load (fun _ => rfl) (Zv rfl)) (rdR_cell hE (flat_at AskR.cells_len (i := 0) hla rfl)) rfl ?_
      refine wa_yn 5 rfl Zk Zk Zk (y_move (Zv rfl)) rfl ?_
      refine wa_yn 6 rfl Zk Zk Zk (y_move (Zv rfl)) rfl ?_
      refine wa_yn 7 rfl Zk Zk Zk (y_index (j := k)  rfl (fun _ => rfl) (Zv rfl) (Zv rfl)  (fun _ => by omega) (fun _ => by omega)) rfl ?_
      refine wa_yn 8 rfl Zk Zk Zk (y_fieldA 1 rfl (Zv rfl) ((add_of_add ae (k * 6) 1))) rfl ?_
      refine wa_ln 9 rfl Zk Zk Zk Zk (y_load (fun _ => rfl) (Zv rfl)) (rdR_cell hE (flat_at AskR.cells_len (i := 1) hla rfl)) rfl ?_
      refine wa_2 10 11 Zk ?_ ?_
      · refine wi_t rfl rfl (t_call rfl (fun _ _ => rfl) (fun w hi => instr_ok an av hao.v w)) (fun _ _ _ _ _ _ _ h => by cases h) rfl ?_
        rintro _ _ ⟨_, ⟨⟨op, nn, rfl, hnu, -⟩, rfl⟩, rfl⟩
        refine wa_1 11 Zk ?_
        refine wi_t rfl rfl (t_alloc (fun _ => rfl) rfl) (fun _ _ _ _ _ _ _ h => by cases h) rfl ?_
        rintro _ _ ⟨b14, rfl, rfl⟩
        refine wa_1 12 Zk ?_
        refine wi_t0 rfl rfl (t_storeN (fun _ => rfl) rfl rfl (allT rfl) Za (by exact rfl)) (fun _ _ _ _ _ _ _ h => by cases h) ?_
        rintro _ _ ⟨rfl, rfl⟩
        refine wa_done Zk ?_
        refine q_midP ((⟨op, nn, b14⟩ : Int × Int × Nat)) ?_ ?_ ?_
        · exact hnu
        · ((repeat' (refine Wk.cons ?_ ?_)) <;> first | exact Wk.nil | exact rfl | exact trivial | exact wk_num rfl (by omega) | exact wk_num rfl (by simp))
        exact Zj
      refine wi_t rfl rfl (t_alloc (fun _ => rfl) rfl) (fun _ _ _ _ _ _ _ h => by cases h) rfl ?_
      rintro _ _ ⟨b14, rfl, rfl⟩
      refine wa_1 10 Zk ?_
      refine wi_t rfl rfl (t_call rfl (fun _ _ => rfl) (fun w hi => instr_ok an av hao.v w)) (fun _ _ _ _ _ _ _ h => by cases h) rfl ?_
      rintro _ _ ⟨_, ⟨⟨op, nn, rfl, hnu, -⟩, rfl⟩, rfl⟩
      refine wa_1 12 Zk ?_
      refine wi_t0 rfl rfl (t_storeN (fun _ => rfl) rfl rfl (allT rfl) Za (by exact rfl)) (fun _ _ _ _ _ _ _ h => by cases h) ?_
      rintro _ _ ⟨rfl, rfl⟩
      refine wa_done Zk ?_
      refine q_midP ((⟨op, nn, b14⟩ : Int × Int × Nat)) ?_ ?_ ?_
      · exact hnu
      · ((repeat' (refine Wk.cons ?_ ?_)) <;> first | exact Wk.nil | exact rfl | exact trivial | exact wk_num rfl (by omega) | exact wk_num rfl (by simp))
      exact Zj
    rintro ⟨op, nn, b14⟩ hnu
    dsimp only at hnu ⊢
    refine wc_seq_mid (fun q : Int × Int => [(3, .slice (some ae) l.length ce), (4, .pointer (some ⟨b4, 0, none⟩)), (9, .pointer (some ⟨F.bw, 0, none⟩)), (11, .int .i64 (k : Int)), (14, .pointer (some ⟨b14, 0, none⟩))]) (fun q => plB b4 ⟨pc, dd, r, fl, su, pg, ie, rt, ve, ep, ca, ad, es, ei, co, ha⟩ A5 X.Ar c5 X.cr ++ togF F 8 Y Z U dv ++ [twI b14 q.1 q.2]) (fun q => u32 q.2) ?_ ?_
    · refine Zs (Zr (Zm rfl (Zm rfl (Zy (y_index (j := k)  rfl (fun _ => rfl) (Zv rfl) (Zv rfl)  (fun _ => by omega) (fun _ => by omega)) ?_))))
      refine Zy (y_fieldA 3 rfl (Zv rfl) ((add_of_add ae (k * 6) 3))) ?_
      refine wl_y (y_load (fun _ => rfl) (Zv rfl)) (rdR_cell hE (flat_at AskR.cells_len (i := 3) hla rfl)) rfl ?_
      refine Zn (Zt ?_)
      refine wc_cond _ rfl (fun hc21 => ?_) (fun hc21 => ?_)
      · refine Zr (Zm rfl (Zm rfl (Zy (y_index (j := k)  rfl (fun _ => rfl) (Zv rfl) (Zv rfl)  (fun _ => by omega) (fun _ => by omega)) ?_)))
        refine Zy (y_fieldA 4 rfl (Zv rfl) ((add_of_add ae (k * 6) 4))) ?_
        refine wl_y (y_loadN (vs := [.int .i64 aop, .int .u32 ann]) (fun _ => rfl) (fun _ => rfl) (Zv rfl)) (rdR_cells hE (fun j v hj => (by have := flat_at AskR.cells_len (i := 4 + j) (v := v) hla (by rcases j with _ | _ | j; exact hj; exact hj; simp at hj); rwa [← Nat.add_assoc] at this))) rfl ?_
        refine wl_t0 (t_storeN (fun _ => rfl) rfl rfl (allT rfl) Za (by exact rfl)) ?_
        rintro _ _ ⟨rfl, rfl⟩
        refine Zn ?_
        refine q_midP ((⟨aop, ann⟩ : Int × Int)) ?_ ?_ ?_
        · exact hao.nn
        · ((repeat' (refine Wk.cons ?_ ?_)) <;> first | exact Wk.nil | exact rfl | exact trivial | exact wk_num rfl (by omega) | exact wk_num rfl (by simp))
        exact Zj
      refine Zc ?_
      refine q_midP ((⟨op, nn⟩ : Int × Int)) ?_ ?_ ?_
      · exact hnu
      · ((repeat' (refine Wk.cons ?_ ?_)) <;> first | exact Wk.nil | exact rfl | exact trivial | exact wk_num rfl (by omega) | exact wk_num rfl (by simp))
      exact Zj
    rintro ⟨op, nn⟩ hnu
    dsimp only at hnu
    refine wc_seq_mid (fun su : Bool => [(3, .slice (some ae) l.length ce), (4, .pointer (some ⟨b4, 0, none⟩)), (9, .pointer (some ⟨F.bw, 0, none⟩)), (11, .int .i64 (k : Int)), (14, .pointer (some ⟨b14, 0, none⟩))]) (fun su => plB b4 ⟨pc, dd, r, fl, su, pg, ie, rt, ve, ep, ca, ad, es, ei, co, ha⟩ A5 X.Ar c5 X.cr ++ togF F 8 Y Z U dv ++ [twI b14 op nn]) (fun _ => True) ?_ ?_
    · refine Zs (Zr (Zm rfl (Zy (y_rem (Zv rfl) (Zv rfl) (by omega) (by first | exact IntWalk.rem_in _ _ (by omega) | exact rfl)) ?_)))
      refine Zy (y_eql (Zv rfl) (Zv rfl) rfl) (Zn (Zt ?_))
      refine wc_cond _ rfl (fun hc23 => ?_) (fun hc23 => ?_)
      · refine Zr (Zy (y_field 4 rfl (Zv rfl) Zf) ?_)
        refine wl_t0 (t_store (fun _ => rfl) rfl rfl rfl Za Zp) ?_
        rintro _ _ ⟨rfl, rfl⟩
        refine Zn ?_
        refine q_midP (true) ?_ ?_ ?_
        · trivial
        · ((repeat' (refine Wk.cons ?_ ?_)) <;> first | exact Wk.nil | exact rfl | exact trivial | exact wk_num rfl (by omega) | exact wk_num rfl (by simp))
        exact Zj
      refine Zc ?_
      refine q_midP (su) ?_ ?_ ?_
      · trivial
      · ((repeat' (refine Wk.cons ?_ ?_)) <;> first | exact Wk.nil | exact rfl | exact trivial | exact wk_num rfl (by omega) | exact wk_num rfl (by simp))
      exact Zj
    rintro su -
    have hw2 := St.wd_wf (su' := su) hw hdw
    have hr2 : (⟨pc, dd, r, fl, su, pg, ie, rt, ve, ep, ca, ad, es, ei, co, ha⟩ : St).right = true := St.mkr hdd16 hr16 hf15
    have HD := fun w hin h => worldDo_ok F 8 hF Y Z ⟨pc, dd, r, fl, su, pg, ie, rt, ve, ep, ca, ad, es, ei, co, ha⟩ hr2 hw2 U dv hM hT hd (by omega) op nn hnu A5 X.Ar c5 X.cr w hin h
    have hG := do_goes (op := op) (nn := nn) hw2 hr2 hnu ⟨hM.m, hT⟩ hd
    have hM1 := hM.do hd.wf hw2.d op nn
    obtain ⟨⟨q, U1, d1⟩, hq⟩ : ∃ q, doTo 8 ⟨pc, dd, r, fl, su, pg, ie, rt, ve, ep, ca, ad, es, ei, co, ha⟩ op nn U dv = q := ⟨_, rfl⟩
    rw [hq] at HD hG hM1
    obtain ⟨g1, g2, g3, g4, g5, g6⟩ := hG
    dsimp only at g1 g2 g3 g4 g5 g6 hM1
    obtain ⟨⟨pc', d2, r', fl', su', pg', ie', rt', ve', ep', ca', ad', es', ei', co', ha'⟩, tr', dv', pgs'⟩ := q
    refine Zs (Zr (Zm rfl (wl_loadRow Zh (fun _ => rfl) (fun _ => rfl) (Zv rfl) rfl ?_)))
    refine wl_loadRow Zh (fun _ => rfl) (fun _ => rfl) (Zv rfl) rfl ?_
    refine wl_t (t_callS (togF F 8 Y Z U dv) rfl (fun _ _ => rfl) Zi (fun w hi hin => HD w hin (fun w' hk => hi.rdStKs Zi (show Has _ (sl .u32 22 A5 dd.length c5 dd) from Zh) (show Has _ (sl .u32 22 X.Ar r.length X.cr r) from Zh) (show dd.length * 4 ≤ _ by omega) (show r.length * 4 ≤ _ by omega) hk))) rfl ?_
    rintro _ _ ⟨_, ⟨X1, Y1, Z1, rfl, rfl⟩, rfl⟩
    refine Zm rfl (Zy (y_extractN (Zv rfl) (.zero _ _)) (Zy (y_extractN (Zv rfl) (.succ _ (.zero _ _))) (wl_t0 (t_storeN (fun _ => rfl) rfl rfl (allT rfl) Za (by exact rfl)) ?_)))
    rintro _ _ ⟨rfl, rfl⟩
    refine Zg rfl (Zn (Zt (Zs (Zr (Zm rfl (Zy (y_not (Zv rfl) rfl) (Zn (Zt (wc_cond_f rfl (rfl) ?_)))))))))
    refine Zc (Zo (Zt (Zr (Zm rfl (Zy (y_add (Zv rfl) (Zv rfl) Zl) ?_)))))
    refine Zg rfl (Zn ?_)
    refine q_midP ((⟨k + 1, ⟨pc', d2, r', fl', su', pg', ie', rt', ve', ep', ca', ad', es', ei', co', ha'⟩, X1, ⟨Y1, Z1⟩, U1, d1⟩ : Nat × St × SAdr × (DAdr × DAdr) × Mmu × Dev)) ?_ ?_ ?_
    · exact ⟨⟨show k + 1 ≤ l.length by omega, show k + 1 ≤ 50 by omega, g1, g2, hM1, g4.t, g5, show d1.out.length ≤ k + 1 by omega⟩, show 60 - (k + 1) < 60 - k by omega⟩
    · ((repeat' (refine Wk.cons ?_ ?_)) <;> first | exact Wk.nil | exact rfl | exact trivial | exact wk_num rfl (by omega) | exact wk_num rfl (by simp))
    exact Zj
  have HA := fun w hin => alike_ok F Y Z U (U.m.turned.take 8) dv ⟨hF ▸ hM.m, hT⟩ (by omega) hd (by omega) w hin
  unfold bothF worldR at HA
  rw [hF] at HA
  refine wc_exit ?_
  refine q_then_exit ?_
  refine q_then_exit ?_
  refine q_block_same rfl ?_
  refine Zt (Zs (Zr (Zm rfl (wl_t (t_callS ((worldRow F :: (ubF F.bu F.bb F.L F.D Y U dv ++ (refMF F.K 8 U.m.data (U.m.turned.take 8) ++ [refURow F.bx F.K.bm U.t] ++ refBF F.by_ F.K.bm F.bd Z dv)))) rfl (fun _ _ => rfl) Zi (fun w hi hin => HA w hin)) rfl ?_))))
  rintro _ _ ⟨_, ⟨rfl, rfl⟩, rfl⟩
  refine Zm rfl (wl_tg (guard_yes rfl rfl) rfl (t_call rfl (fun _ _ => rfl) (fun w hi => known_ok w)) rfl ?_)
  rintro _ _ ⟨_, ⟨rfl, rfl⟩, rfl⟩
  refine Zy (y_and (Zv rfl) (pk_yes rfl (fun _ => rfl))) (Zg rfl (Zn (Zt (Ze (ret1 (cs' := []) (.inl rfl) Zu rfl rfl ?_)))))
  exact ⟨rfl, rfl⟩
end Go.Proofs.YtobjiljkfmcalaaGreat
