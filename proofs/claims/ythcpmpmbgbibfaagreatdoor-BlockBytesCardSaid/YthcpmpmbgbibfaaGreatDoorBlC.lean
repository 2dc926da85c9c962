/- The law BlockBytes: any bytes as an image, from any state. -/
import Derived.Test.YthcpmpmbgbibfaaGreatDoorBlAll
import Derived.Test.YthcpmpmbgbibfaaGreatDoorInkA
set_option linter.unusedSimpArgs false
set_option linter.unusedVariables false
set_option maxRecDepth 100000
namespace Go.Proofs.YthcpmpmbgbibfaaGreatDoor
open Go.RowKit Go.Ink
attribute [local irreducible] OpY GuardIs
/-- Two slices of a state's are there. -/
def TwoRd (cin : List Chunk) (s : St) (X V : SAdr) : Prop := ∀ w, (joinC cin).ok w → RdSt w s X.Ad X.Ar X.cd X.cr ∧ RdSt w s V.Ad V.Ar V.cd V.cr
theorem two_one {s : St} (h : s.right = true) (X : SAdr) : TwoRd [slD s X.Ad X.cd, slR s X.Ar X.cr] s X X := fun w hw => by
 obtain ⟨hd16, hr16, -⟩ := St.fits h
 have h1 := joinC_ok hw
 have h2 : RdSt w s X.Ad X.Ar X.cd X.cr := ⟨slv_rd (h1 _ (List.mem_cons_self ..)), slv_rd (h1 _ (List.mem_cons_of_mem _ (List.mem_cons_self ..))), by omega, by omega⟩
 exact ⟨h2, h2⟩
theorem two_two {s : St} (h : s.right = true) (X V : SAdr) : TwoRd [slD s X.Ad X.cd, slR s X.Ar X.cr, slD s V.Ad V.cd, slR s V.Ar V.cr] s X V := fun w hw => by
 obtain ⟨hd16, hr16, -⟩ := St.fits h
 have h1 := joinC_ok hw
 exact ⟨⟨slv_rd (h1 _ (List.mem_cons_self ..)), slv_rd (h1 _ (List.mem_cons_of_mem _ (List.mem_cons_self ..))), by omega, by omega⟩, ⟨slv_rd (h1 _ (List.mem_cons_of_mem _ (List.mem_cons_of_mem _ (List.mem_cons_self ..)))), slv_rd (h1 _ (List.mem_cons_of_mem _ (List.mem_cons_of_mem _ (List.mem_cons_of_mem _ (List.mem_cons_self ..))))), by omega, by omega⟩⟩
abbrev bytS (t : St) (pc : Int) : St := ⟨pc, t.d, t.r, t.flags, t.super, t.paging, t.ie, t.root % 256, t.vec, t.epc, t.cause, t.addr, t.esuper, t.eie, t.count, t.halted⟩
theorem bytS_wf {t : St} {pc : Int} (h : t.wf) (hp : u32 pc) : (bytS t pc).wf := by
 obtain ⟨r0, r1⟩ := h.root
 exact ⟨hp, h.flags, ⟨by show 0 ≤ t.root % 256; omega, by show t.root % 256 ≤ _; omega⟩, h.vec, h.epc, h.cause, h.addr, h.count, h.d, h.r⟩
abbrev bytF (F : GLoc) (s : St) (X V : SAdr) (cin : List Chunk) (Y Z : DAdr) (U : Mmu) (d : Dev) : List Chunk := w18X F s X :: g18X F s V :: joinC cin :: (ubF F.bu F.bb F.L F.D Y U d ++ rgF F.K F.bx 4 F.by_ F.bd Z U d)
set_option maxHeartbeats 8000000 in
theorem blockBytes_ok (A Ad Ar : Option Addr) (c cd cr : Nat) (b : List Int) (hb : u8s b) (s : St) (hs : s.wf) (w : World) (h : Rd w .u8 A b.length c b) (hS : RdSt w s Ad Ar cd cr) (ht : TabOk w) :
  Ctr Tryz.prog 4 [.slice A b.length c, sv s Ad cd Ar cr] w [] (fun v cs => v = .bool true ∧ cs = []) := by
 have hnil : u8s ([] : List Int) := fun x hx => by cases hx
 have hb1 := u8s_take hb 256
 have hbl : (b.take 256).length ≤ 256 := by rw [List.length_take]; omega
 have h1 := rd_take h 256
 have HCut := fun w => cut_ok A c b 256 w h.cap
 obtain ⟨bb, hbb⟩ : ∃ bb, b.take 256 = bb := ⟨_, rfl⟩
 rw [hbb] at hb1 hbl h1 HCut
 have hG0 := fresh_g18 (n := 4) (l := bb) (k := []) (by decide) (by decide) hbl hb1 (by decide) hnil
 have HF := fun w h => freshG_ok A none c 0 4 bb [] (by decide) (by decide) hbl hb1 (by decide) w h (rdNil w .u8)
 obtain ⟨M0, hM0⟩ : ∃ M, Mem.init 4 bb = M := ⟨_, rfl⟩
 obtain ⟨T0, hTT⟩ : ∃ T, tflush = T := ⟨_, rfl⟩
 obtain ⟨d0, hd⟩ : ∃ d, Dev.init [] = d := ⟨_, rfl⟩
 rw [hM0, hTT, hd] at HF hG0
 have htw := St.tr_wf hs
 have htr := St.tr_right (s := s)
 have HT := trim_ok s hs Ad Ar cd cr
 obtain ⟨t, htt⟩ : ∃ t, s.trim = t := ⟨_, rfl⟩
 rw [htt] at htw htr HT
 obtain ⟨hd16, hr16, hf15⟩ := St.fits htr
 obtain ⟨p0, p1⟩ := htw.pc
 refine fn_ctr Tryz.func4 rfl Tryz.ntmps4 rfl (Inv.start w) ?_
 refine Zs (Zr (ZO fun b3 => ?_))
 refine ZA ?_
 refine Zn (Zt (Zs (Zr (ZA ?_))))
 refine ZS (fun w hi => HCut w) ?_
 rintro _ _ ⟨_, ⟨rfl, rfl⟩, rfl⟩
 refine ZA ?_
 refine ZS (fun w hi => HF w (h1.oldN hi)) ?_
 rintro _ _ ⟨_, ⟨F, hF, rfl, rfl⟩, rfl⟩
 refine ZA ?_
 refine Zn (Zt (Zs (Zs (Zr (ZA ?_)))))
 refine ZA ?_
 refine Zn (Zt (wc_cond_f rfl (rfl) ?_))
 refine Zc (Zt (Zs (Zr (wl_loadRow Zh (fun _ => rfl) (fun _ => rfl) (Zv rfl) rfl ?_))))
 refine ZS (fun w hi => HT w (hS.oldN hi)) ?_
 rintro _ _ ⟨_, ⟨A2, c2, A3, c3, rfl, rfl⟩, rfl⟩
 refine ZM ?_
 refine Zn (Zt ?_)
 refine wc_seq_mid (fun pc : Int => [(3, .pointer (some ⟨b3, 0, none⟩)), (5, .pointer (some ⟨F.bw, 0, none⟩))]) (fun pc => row b3 (St.cells ⟨pc, t.d, t.r, t.flags, t.super, t.paging, t.ie, t.root, t.vec, t.epc, t.cause, t.addr, t.esuper, t.eie, t.count, t.halted⟩ (.slice A2 t.d.length c2) (.slice A3 t.r.length c3)) 34 :: slD t A2 c2 :: slR t A3 c3 :: st18F F 4 M0 T0 d0) (fun pc => u32 pc) ?_ ?_
 ·refine Zs (Zr (ZFa 0 ?_))
  refine ZC ?_
  refine Zy (y_rem (Zv rfl) (Zv rfl) (by omega) (Int.tmod_eq_emod_of_nonneg p0)) ?_
  refine ZA ?_
  refine Zn (Zt ?_)
  refine wc_cond _ rfl (fun hc5 => ?_) (fun hc5 => ?_)
  ·refine Zr (ZFa 0 ?_)
   refine ZC ?_
   refine Zy (y_rem (Zv rfl) (Zv rfl) (by omega) (Int.tmod_eq_emod_of_nonneg p0)) ?_
   refine ZFa 0 ?_
   refine ZL ?_
   refine Zn ?_
   refine q_midP ((t.pc % 260)) ?_ ?_ ?_
   ·exact ⟨by omega, by omega⟩
   ·exact Zwk
   exact Zj
  refine Zc ?_
  refine q_midP (t.pc) ?_ ?_ ?_
  ·exact ⟨p0, p1⟩
  ·exact Zwk
  exact Zj
 rintro pc hpc
 have hb1 := bytS_wf htw hpc
 have hb2 : (bytS t pc).right = true := St.mkr hd16 hr16 hf15
 have hG1 : G18 4 0 (bytS t pc) ⟨M0, T0⟩ d0 := ⟨⟨hb1, hb2, hG0.g.u, hG0.g.dv, hG0.g.lines⟩, hG0.m, hG0.i, hG0.o⟩
 have h21 := two_one hb2 ⟨A2, c2, A3, c3⟩
 refine Zs (Zr (ZFa 7 ?_))
 refine ZC ?_
 refine Zy (y_rem (Zv rfl) (Zv rfl) (by omega) (Int.tmod_eq_emod_of_nonneg htw.root.1)) ?_
 refine ZFa 7 ?_
 refine ZL ?_
 refine Zn (Zt ?_)
 refine wc_seq_mid (fun _ : Nat => [(5, .pointer (some ⟨F.bw, 0, none⟩))]) (fun _ => w18X F (bytS t pc) ⟨A2, c2, A3, c3⟩ :: g18X F (bytS t pc) ⟨A2, c2, A3, c3⟩ :: slD (bytS t pc) A2 c2 :: slR (bytS t pc) A3 c3 :: (ubF F.bu F.bb F.L F.D ⟨none, 0, none, 0⟩ ⟨M0, T0⟩ d0 ++ rgF F.K F.bx 4 F.by_ F.bd ⟨none, 0, none, 0⟩ ⟨M0, T0⟩ d0)) (fun _ => True) ?_ ?_
 ·refine wc_draw ⟨fun j => List.elem j [9, 12], []⟩ Zk ?_
  refine ZE 0 ?_
  refine ZE 1 ?_
  refine ZE 2 ?_
  refine ZFe 3 19 ?_
  refine ZG 4 ?_
  refine ZI 5 ?_
  refine ZE 7 ?_
  refine ZFe 8 3 ?_
  refine wa_2 6 9 Zk ?_ ?_
  ·refine wi_loadRown rfl Zh (fun _ => rfl) (fun _ => rfl) (Zv rfl) rfl ?_
   refine wa_1 9 Zk ?_
   refine wi_t0 rfl rfl (t_storeRX (ys := w18L F (bytS t pc) ⟨A2, c2, A3, c3⟩) (n := 16) (vs := (bytS t pc).cells (.slice A2 t.d.length c2) (.slice A3 t.r.length c3)) rfl (fun _ => rfl) rfl rfl (allT rfl) Za rfl (Nat.le_of_ble_eq_true rfl)) (fun _ _ _ _ _ _ _ h => by cases h) ?_
   rintro _ _ ⟨rfl, rfl⟩
   refine ZE 10 ?_
   refine ZFe 11 0 ?_
   refine wa_1 12 Zk ?_
   refine wi_t0 rfl rfl (t_storeRX (ys := g18L F (bytS t pc) ⟨A2, c2, A3, c3⟩) (n := 16) (vs := (bytS t pc).cells (.slice A2 t.d.length c2) (.slice A3 t.r.length c3)) rfl (fun _ => rfl) rfl rfl (allT rfl) Za rfl (Nat.le_of_ble_eq_true rfl)) (fun _ _ _ _ _ _ _ h => by cases h) ?_
   rintro _ _ ⟨rfl, rfl⟩
   refine wa_done Zk ?_
   refine q_midP (0) ?_ ?_ ?_
   ·trivial
   ·exact Zwk
   exact Zj
  refine wi_t0 rfl rfl (t_storeRX (ys := w18L F (bytS t pc) ⟨A2, c2, A3, c3⟩) (n := 16) (vs := (bytS t pc).cells (.slice A2 t.d.length c2) (.slice A3 t.r.length c3)) rfl (fun _ => rfl) rfl rfl (allT rfl) Za rfl (Nat.le_of_ble_eq_true rfl)) (fun _ _ _ _ _ _ _ h => by cases h) ?_
  rintro _ _ ⟨rfl, rfl⟩
  refine ZI 6 ?_
  refine ZE 10 ?_
  refine ZFe 11 0 ?_
  refine wa_1 12 Zk ?_
  refine wi_t0 rfl rfl (t_storeRX (ys := g18L F (bytS t pc) ⟨A2, c2, A3, c3⟩) (n := 16) (vs := (bytS t pc).cells (.slice A2 t.d.length c2) (.slice A3 t.r.length c3)) rfl (fun _ => rfl) rfl rfl (allT rfl) Za rfl (Nat.le_of_ble_eq_true rfl)) (fun _ _ _ _ _ _ _ h => by cases h) ?_
  rintro _ _ ⟨rfl, rfl⟩
  refine wa_done Zk ?_
  refine q_midP (0) ?_ ?_ ?_
  ·trivial
  ·exact Zwk
  exact Zj
 rintro - -
 refine Zs (Zs (Zr (wl_join [slD (bytS t pc) A2 c2, slR (bytS t pc) A3 c3] Zi ?_)))
 refine wl_pick (bytF F (bytS t pc) ⟨A2, c2, A3, c3⟩ ⟨A2, c2, A3, c3⟩ [slD (bytS t pc) A2 c2, slR (bytS t pc) A3 c3] ⟨none, 0, none, 0⟩ ⟨none, 0, none, 0⟩ ⟨M0, T0⟩ d0) Zj ?_
 refine ZA ?_
 refine Zn (Zt (Zx ?_))
 refine wc_loop (fun q : (Nat × St × List Chunk) × (SAdr × SAdr) × (DAdr × DAdr) × Mmu × Dev => [(5, .pointer (some ⟨F.bw, 0, none⟩)), (6, .int .i64 (q.1.1 : Int))]) (fun q => bytF F q.1.2.1 q.2.1.1 q.2.1.2 q.1.2.2 q.2.2.1.1 q.2.2.1.2 q.2.2.2.1 q.2.2.2.2) (fun q => G18 4 q.1.1 q.1.2.1 q.2.2.2.1 q.2.2.2.2 ∧ q.1.1 ≤ 25 ∧ TwoRd q.1.2.2 q.1.2.1 q.2.1.1 q.2.1.2) (fun q => 25 - q.1.1) (⟨⟨0, bytS t pc, [slD (bytS t pc) A2 c2, slR (bytS t pc) A3 c3]⟩, ⟨⟨A2, c2, A3, c3⟩, ⟨A2, c2, A3, c3⟩⟩, ⟨⟨none, 0, none, 0⟩, ⟨none, 0, none, 0⟩⟩, ⟨M0, T0⟩, d0⟩) ?_ ?_ ?_ ?_
 ·exact ⟨hG1, Nat.zero_le _, h21⟩
 ·exact Zwk
 ·exact List.Sublist.refl _
 rintro ⟨⟨j, s, cin⟩, ⟨X, V⟩, ⟨Y, Z⟩, U, d⟩ ⟨hG, hj, h2⟩
 dsimp only at hG hj h2 ⊢
 have ho := hG.o
 have HB := fun w hi h ht => block_ok F.bu F.bb F.L F.D Y s X.Ad X.Ar X.cd X.cr U d (hF ▸ hG.g) (by omega) w hi h ht
 have HRB := fun w hi h => refblock_ok F.K F.bx 4 F.by_ F.bd Z s V.Ad V.Ar V.cd V.cr U d hG.g hG.m (by omega) w hi h
 have hG2 := hG.block (fun root va kind super => hG.m.walk root va kind super)
 rw [hF] at HB
 obtain ⟨⟨s2, U2, d2⟩, hq⟩ : ∃ q, blockTo 4 s U d = q := ⟨_, rfl⟩
 rw [hq] at HB HRB hG2
 dsimp only at hG2
 have ho2 := hG2.o
 refine Zs (Zs (Zr (ZA ?_)))
 refine ZA ?_
 refine Zn (Zt ?_)
 refine wc_cond _ rfl (fun hc10 => ?_) (fun hc10 => ?_)
 ·simp only [decide_eq_true_eq] at hc10
  have HA := fun X V Y Z w hi => alike18_ok F 4 hF s2 hG2.g.right X V Y Z U2 d2 hG2.g.u (by decide) hG2.g.dv (by omega) w hi
  refine Zc (Zt (Zs (Zx ?_)))
  refine wc_seq_mid (fun q : SAdr × DAdr => [(5, .pointer (some ⟨F.bw, 0, none⟩)), (6, .int .i64 (j : Int))]) (fun q => w18X F s2 q.1 :: g18X F s V :: slD s2 q.1.Ad q.1.cd :: slR s2 q.1.Ar q.1.cr :: joinC cin :: (ubF F.bu F.bb F.L F.D q.2 U2 d2 ++ rgF F.K F.bx 4 F.by_ F.bd Z U d)) (fun _ => True) ?_ ?_
  ·refine wc_draw ⟨fun j => List.elem j [13, 16], []⟩ Zk ?_
   refine ZE 0 ?_
   refine ZE 1 ?_
   refine ZE 2 ?_
   refine ZFe 3 3 ?_
   refine wa_ln 4 rfl Zk Zk Zk Zk (y_loadN (vs := s.cells (.slice X.Ad s.d.length X.cd) (.slice X.Ar s.r.length X.cr)) (fun _ => rfl) (fun _ => rfl) (Zv rfl)) (row_cells Zh rfl) rfl ?_
   refine ZE 5 ?_
   refine ZE 6 ?_
   refine ZFe 7 0 ?_
   refine ZG 8 ?_
   refine ZE 9 ?_
   refine ZE 10 ?_
   refine ZFe 11 1 ?_
   refine ZG 12 ?_
   refine wa_1 13 Zk ?_
   refine wi_t rfl rfl (t_callS (ubF F.bu F.bb F.L F.D Y U d) rfl (fun _ _ => rfl) Zi (fun w hi hin => HB w hin (fun w' hk => (h2 w' (hi.okKs Zi (show Has _ (joinC cin) from Zh) hk)).1) (fun w' hk => RdV.oldKs ht hi Zi hk))) (fun _ _ _ _ _ _ _ h => by cases h) rfl ?_
   rintro _ _ ⟨_, ⟨X2, Y2, rfl, rfl⟩, rfl⟩
   refine ZE 14 ?_
   refine ZFe 15 3 ?_
   refine wa_1 16 Zk ?_
   refine wi_t0 rfl rfl (t_storeRX (ys := w18L F s2 X2) (n := 16) (vs := s2.cells (.slice X2.Ad s2.d.length X2.cd) (.slice X2.Ar s2.r.length X2.cr)) rfl (fun _ => rfl) rfl rfl (allT rfl) Za rfl (Nat.le_of_ble_eq_true rfl)) (fun _ _ _ _ _ _ _ h => by cases h) ?_
   rintro _ _ ⟨rfl, rfl⟩
   refine wa_done Zk ?_
   refine q_midP ((⟨X2, Y2⟩ : SAdr × DAdr)) ?_ ?_ ?_
   ·trivial
   ·exact Zwk
   exact Zj
  rintro ⟨X2, Y2⟩ -
  dsimp only
  refine wc_seq_mid (fun q : SAdr × DAdr => [(5, .pointer (some ⟨F.bw, 0, none⟩)), (6, .int .i64 (j : Int))]) (fun q => b18F F 4 s2 X2 q.1 Y2 q.2 U2 d2) (fun _ => True) ?_ ?_
  ·refine wc_draw ⟨fun j => List.elem j [25, 28], rowL F.bw (w18L F s2 X2)⟩ Zk ?_
   refine ZE 0 ?_
   refine ZE 1 ?_
   refine ZFe 2 19 ?_
   refine wa_lkn 3 rfl Zk Zk Zk (y_load (fun _ => rfl) (Zv rfl)) (by first | exact rowL_mem rfl | exact List.mem_append_left _ (rowL_mem rfl) | exact List.mem_append_right _ (rowL_mem rfl)) (rowL_cells (t := 41) Zh) rfl ?_
   refine ZE 4 ?_
   refine ZE 5 ?_
   refine ZFe 6 19 ?_
   refine ZE 11 ?_
   refine ZE 12 ?_
   refine ZFe 13 19 ?_
   refine ZE 18 ?_
   refine ZE 19 ?_
   refine ZFe 20 19 ?_
   refine wa_3 7 14 21 Zk ?_ ?_ ?_
   ·refine wi_yn rfl (y_load (fun _ => rfl) (Zv rfl)) (row_cell Zh rfl) rfl ?_
    refine ZE 8 ?_
    refine ZFe 9 0 ?_
    refine wa_ln 10 rfl Zk Zk Zk Zk (y_loadN (vs := s.cells (.slice V.Ad s.d.length V.cd) (.slice V.Ar s.r.length V.cr)) (fun _ => rfl) (fun _ => rfl) (Zv rfl)) (row_cells Zh rfl) rfl ?_
    refine wa_2 14 21 Zk ?_ ?_
    ·refine wi_yn rfl (y_load (fun _ => rfl) (Zv rfl)) (row_cell Zh rfl) rfl ?_
     refine ZE 15 ?_
     refine ZFe 16 16 ?_
     refine ZG 17 ?_
     refine wa_1 21 Zk ?_
     refine wi_yn rfl (y_load (fun _ => rfl) (Zv rfl)) (row_cell Zh rfl) rfl ?_
     refine ZE 22 ?_
     refine ZFe 23 17 ?_
     refine ZG 24 ?_
     refine wa_1 25 Zk ?_
     refine wi_t rfl rfl (t_callS (rgF F.K F.bx 4 F.by_ F.bd Z U d) rfl (fun _ _ => rfl) Zi (fun w hi hin => HRB w hin (fun w' hk => (h2 w' (hi.okKs Zi (show Has _ (joinC cin) from Zh) hk)).2))) (fun _ => by rintro _ _ ⟨_, ⟨V2, Z2, rfl, rfl⟩, rfl⟩; exact rowL_cells (t := 41) Zh) rfl ?_
     rintro _ _ ⟨_, ⟨V2, Z2, rfl, rfl⟩, rfl⟩
     refine ZE 26 ?_
     refine ZFe 27 0 ?_
     refine wa_1 28 Zk ?_
     refine wi_t0 rfl rfl (t_storeRX (ys := g18L F s2 V2) (n := 16) (vs := s2.cells (.slice V2.Ad s2.d.length V2.cd) (.slice V2.Ar s2.r.length V2.cr)) rfl (fun _ => rfl) rfl rfl (allT rfl) Za rfl (Nat.le_of_ble_eq_true rfl)) (fun _ => by rintro _ _ ⟨rfl, rfl⟩; exact rowL_cells (t := 41) Zh) ?_
     rintro _ _ ⟨rfl, rfl⟩
     refine wa_done Zk ?_
     refine q_midP ((⟨V2, Z2⟩ : SAdr × DAdr)) ?_ ?_ ?_
     ·trivial
     ·exact Zwk
     exact Zj
    refine wi_yn rfl (y_load (fun _ => rfl) (Zv rfl)) (row_cell Zh rfl) rfl ?_
    refine ZE 22 ?_
    refine ZFe 23 17 ?_
    refine ZG 24 ?_
    refine wa_1 14 Zk ?_
    refine wi_yn rfl (y_load (fun _ => rfl) (Zv rfl)) (row_cell Zh rfl) rfl ?_
    refine ZE 15 ?_
    refine ZFe 16 16 ?_
    refine ZG 17 ?_
    refine wa_1 25 Zk ?_
    refine wi_t rfl rfl (t_callS (rgF F.K F.bx 4 F.by_ F.bd Z U d) rfl (fun _ _ => rfl) Zi (fun w hi hin => HRB w hin (fun w' hk => (h2 w' (hi.okKs Zi (show Has _ (joinC cin) from Zh) hk)).2))) (fun _ => by rintro _ _ ⟨_, ⟨V2, Z2, rfl, rfl⟩, rfl⟩; exact rowL_cells (t := 41) Zh) rfl ?_
    rintro _ _ ⟨_, ⟨V2, Z2, rfl, rfl⟩, rfl⟩
    refine ZE 26 ?_
    refine ZFe 27 0 ?_
    refine wa_1 28 Zk ?_
    refine wi_t0 rfl rfl (t_storeRX (ys := g18L F s2 V2) (n := 16) (vs := s2.cells (.slice V2.Ad s2.d.length V2.cd) (.slice V2.Ar s2.r.length V2.cr)) rfl (fun _ => rfl) rfl rfl (allT rfl) Za rfl (Nat.le_of_ble_eq_true rfl)) (fun _ => by rintro _ _ ⟨rfl, rfl⟩; exact rowL_cells (t := 41) Zh) ?_
    rintro _ _ ⟨rfl, rfl⟩
    refine wa_done Zk ?_
    refine q_midP ((⟨V2, Z2⟩ : SAdr × DAdr)) ?_ ?_ ?_
    ·trivial
    ·exact Zwk
    exact Zj
   ·refine wi_yn rfl (y_load (fun _ => rfl) (Zv rfl)) (row_cell Zh rfl) rfl ?_
    refine ZE 15 ?_
    refine ZFe 16 16 ?_
    refine ZG 17 ?_
    refine wa_2 7 21 Zk ?_ ?_
    ·refine wi_yn rfl (y_load (fun _ => rfl) (Zv rfl)) (row_cell Zh rfl) rfl ?_
     refine ZE 8 ?_
     refine ZFe 9 0 ?_
     refine wa_ln 10 rfl Zk Zk Zk Zk (y_loadN (vs := s.cells (.slice V.Ad s.d.length V.cd) (.slice V.Ar s.r.length V.cr)) (fun _ => rfl) (fun _ => rfl) (Zv rfl)) (row_cells Zh rfl) rfl ?_
     refine wa_1 21 Zk ?_
     refine wi_yn rfl (y_load (fun _ => rfl) (Zv rfl)) (row_cell Zh rfl) rfl ?_
     refine ZE 22 ?_
     refine ZFe 23 17 ?_
     refine ZG 24 ?_
     refine wa_1 25 Zk ?_
     refine wi_t rfl rfl (t_callS (rgF F.K F.bx 4 F.by_ F.bd Z U d) rfl (fun _ _ => rfl) Zi (fun w hi hin => HRB w hin (fun w' hk => (h2 w' (hi.okKs Zi (show Has _ (joinC cin) from Zh) hk)).2))) (fun _ => by rintro _ _ ⟨_, ⟨V2, Z2, rfl, rfl⟩, rfl⟩; exact rowL_cells (t := 41) Zh) rfl ?_
     rintro _ _ ⟨_, ⟨V2, Z2, rfl, rfl⟩, rfl⟩
     refine ZE 26 ?_
     refine ZFe 27 0 ?_
     refine wa_1 28 Zk ?_
     refine wi_t0 rfl rfl (t_storeRX (ys := g18L F s2 V2) (n := 16) (vs := s2.cells (.slice V2.Ad s2.d.length V2.cd) (.slice V2.Ar s2.r.length V2.cr)) rfl (fun _ => rfl) rfl rfl (allT rfl) Za rfl (Nat.le_of_ble_eq_true rfl)) (fun _ => by rintro _ _ ⟨rfl, rfl⟩; exact rowL_cells (t := 41) Zh) ?_
     rintro _ _ ⟨rfl, rfl⟩
     refine wa_done Zk ?_
     refine q_midP ((⟨V2, Z2⟩ : SAdr × DAdr)) ?_ ?_ ?_
     ·trivial
     ·exact Zwk
     exact Zj
    refine wi_yn rfl (y_load (fun _ => rfl) (Zv rfl)) (row_cell Zh rfl) rfl ?_
    refine ZE 22 ?_
    refine ZFe 23 17 ?_
    refine ZG 24 ?_
    refine wa_1 7 Zk ?_
    refine wi_yn rfl (y_load (fun _ => rfl) (Zv rfl)) (row_cell Zh rfl) rfl ?_
    refine ZE 8 ?_
    refine ZFe 9 0 ?_
    refine wa_ln 10 rfl Zk Zk Zk Zk (y_loadN (vs := s.cells (.slice V.Ad s.d.length V.cd) (.slice V.Ar s.r.length V.cr)) (fun _ => rfl) (fun _ => rfl) (Zv rfl)) (row_cells Zh rfl) rfl ?_
    refine wa_1 25 Zk ?_
    refine wi_t rfl rfl (t_callS (rgF F.K F.bx 4 F.by_ F.bd Z U d) rfl (fun _ _ => rfl) Zi (fun w hi hin => HRB w hin (fun w' hk => (h2 w' (hi.okKs Zi (show Has _ (joinC cin) from Zh) hk)).2))) (fun _ => by rintro _ _ ⟨_, ⟨V2, Z2, rfl, rfl⟩, rfl⟩; exact rowL_cells (t := 41) Zh) rfl ?_
    rintro _ _ ⟨_, ⟨V2, Z2, rfl, rfl⟩, rfl⟩
    refine ZE 26 ?_
    refine ZFe 27 0 ?_
    refine wa_1 28 Zk ?_
    refine wi_t0 rfl rfl (t_storeRX (ys := g18L F s2 V2) (n := 16) (vs := s2.cells (.slice V2.Ad s2.d.length V2.cd) (.slice V2.Ar s2.r.length V2.cr)) rfl (fun _ => rfl) rfl rfl (allT rfl) Za rfl (Nat.le_of_ble_eq_true rfl)) (fun _ => by rintro _ _ ⟨rfl, rfl⟩; exact rowL_cells (t := 41) Zh) ?_
    rintro _ _ ⟨rfl, rfl⟩
    refine wa_done Zk ?_
    refine q_midP ((⟨V2, Z2⟩ : SAdr × DAdr)) ?_ ?_ ?_
    ·trivial
    ·exact Zwk
    exact Zj
   refine wi_yn rfl (y_load (fun _ => rfl) (Zv rfl)) (row_cell Zh rfl) rfl ?_
   refine ZE 22 ?_
   refine ZFe 23 17 ?_
   refine ZG 24 ?_
   refine wa_2 7 14 Zk ?_ ?_
   ·refine wi_yn rfl (y_load (fun _ => rfl) (Zv rfl)) (row_cell Zh rfl) rfl ?_
    refine ZE 8 ?_
    refine ZFe 9 0 ?_
    refine wa_ln 10 rfl Zk Zk Zk Zk (y_loadN (vs := s.cells (.slice V.Ad s.d.length V.cd) (.slice V.Ar s.r.length V.cr)) (fun _ => rfl) (fun _ => rfl) (Zv rfl)) (row_cells Zh rfl) rfl ?_
    refine wa_1 14 Zk ?_
    refine wi_yn rfl (y_load (fun _ => rfl) (Zv rfl)) (row_cell Zh rfl) rfl ?_
    refine ZE 15 ?_
    refine ZFe 16 16 ?_
    refine ZG 17 ?_
    refine wa_1 25 Zk ?_
    refine wi_t rfl rfl (t_callS (rgF F.K F.bx 4 F.by_ F.bd Z U d) rfl (fun _ _ => rfl) Zi (fun w hi hin => HRB w hin (fun w' hk => (h2 w' (hi.okKs Zi (show Has _ (joinC cin) from Zh) hk)).2))) (fun _ => by rintro _ _ ⟨_, ⟨V2, Z2, rfl, rfl⟩, rfl⟩; exact rowL_cells (t := 41) Zh) rfl ?_
    rintro _ _ ⟨_, ⟨V2, Z2, rfl, rfl⟩, rfl⟩
    refine ZE 26 ?_
    refine ZFe 27 0 ?_
    refine wa_1 28 Zk ?_
    refine wi_t0 rfl rfl (t_storeRX (ys := g18L F s2 V2) (n := 16) (vs := s2.cells (.slice V2.Ad s2.d.length V2.cd) (.slice V2.Ar s2.r.length V2.cr)) rfl (fun _ => rfl) rfl rfl (allT rfl) Za rfl (Nat.le_of_ble_eq_true rfl)) (fun _ => by rintro _ _ ⟨rfl, rfl⟩; exact rowL_cells (t := 41) Zh) ?_
    rintro _ _ ⟨rfl, rfl⟩
    refine wa_done Zk ?_
    refine q_midP ((⟨V2, Z2⟩ : SAdr × DAdr)) ?_ ?_ ?_
    ·trivial
    ·exact Zwk
    exact Zj
   refine wi_yn rfl (y_load (fun _ => rfl) (Zv rfl)) (row_cell Zh rfl) rfl ?_
   refine ZE 15 ?_
   refine ZFe 16 16 ?_
   refine ZG 17 ?_
   refine wa_1 7 Zk ?_
   refine wi_yn rfl (y_load (fun _ => rfl) (Zv rfl)) (row_cell Zh rfl) rfl ?_
   refine ZE 8 ?_
   refine ZFe 9 0 ?_
   refine wa_ln 10 rfl Zk Zk Zk Zk (y_loadN (vs := s.cells (.slice V.Ad s.d.length V.cd) (.slice V.Ar s.r.length V.cr)) (fun _ => rfl) (fun _ => rfl) (Zv rfl)) (row_cells Zh rfl) rfl ?_
   refine wa_1 25 Zk ?_
   refine wi_t rfl rfl (t_callS (rgF F.K F.bx 4 F.by_ F.bd Z U d) rfl (fun _ _ => rfl) Zi (fun w hi hin => HRB w hin (fun w' hk => (h2 w' (hi.okKs Zi (show Has _ (joinC cin) from Zh) hk)).2))) (fun _ => by rintro _ _ ⟨_, ⟨V2, Z2, rfl, rfl⟩, rfl⟩; exact rowL_cells (t := 41) Zh) rfl ?_
   rintro _ _ ⟨_, ⟨V2, Z2, rfl, rfl⟩, rfl⟩
   refine ZE 26 ?_
   refine ZFe 27 0 ?_
   refine wa_1 28 Zk ?_
   refine wi_t0 rfl rfl (t_storeRX (ys := g18L F s2 V2) (n := 16) (vs := s2.cells (.slice V2.Ad s2.d.length V2.cd) (.slice V2.Ar s2.r.length V2.cr)) rfl (fun _ => rfl) rfl rfl (allT rfl) Za rfl (Nat.le_of_ble_eq_true rfl)) (fun _ => by rintro _ _ ⟨rfl, rfl⟩; exact rowL_cells (t := 41) Zh) ?_
   rintro _ _ ⟨rfl, rfl⟩
   refine wa_done Zk ?_
   refine q_midP ((⟨V2, Z2⟩ : SAdr × DAdr)) ?_ ?_ ?_
   ·trivial
   ·exact Zwk
   exact Zj
  rintro ⟨V2, Z2⟩ -
  dsimp only
  refine Zs (Zr (ZA ?_))
  refine wl_t (t_callS (b18F F 4 s2 X2 V2 Y2 Z2 U2 d2) rfl (fun _ _ => rfl) Zi (fun w hi hin => HA X2 V2 Y2 Z2 w hin)) rfl ?_
  rintro _ _ ⟨_, ⟨rfl, rfl⟩, rfl⟩
  refine wl_join [slD s2 X2.Ad X2.cd, slR s2 X2.Ar X2.cr, slD s2 V2.Ad V2.cd, slR s2 V2.Ar V2.cr] Zi ?_
  refine ZA ?_
  refine Zn (Zt (wc_cond_f rfl (rfl) ?_))
  refine Zc (Zo (Zt (Zr (ZA ?_))))
  refine Zy (y_add (Zv rfl) (Zv rfl) Zl) ?_
  refine ZA ?_
  refine Zn ?_
  refine q_midP ((⟨⟨j + 1, s2, [slD s2 X2.Ad X2.cd, slR s2 X2.Ar X2.cr, slD s2 V2.Ad V2.cd, slR s2 V2.Ar V2.cr]⟩, ⟨X2, V2⟩, ⟨Y2, Z2⟩, U2, d2⟩ : (Nat × St × List Chunk) × (SAdr × SAdr) × (DAdr × DAdr) × Mmu × Dev)) ?_ ?_ ?_
  ·exact ⟨⟨hG2, show j + 1 ≤ 25 by omega, two_two hG2.g.right X2 V2⟩, show 25 - (j + 1) < 25 - j by omega⟩
  ·exact Zwk
  exact Zj
 refine wc_exit ?_
 refine q_then_exit ?_
 refine q_then_exit ?_
 refine q_block_same rfl ?_
 refine Zt (Zs (Zr (ZS (fun w hi => known18_ok w (ht.old hi)) ?_)))
 rintro _ _ ⟨_, ⟨rfl, rfl⟩, rfl⟩
 refine ZA ?_
 refine Zn (Zt (Ze (ret1 (cs' := []) (.inl rfl) Zu rfl rfl ?_)))
 exact ⟨rfl, rfl⟩
end Go.Proofs.YthcpmpmbgbibfaaGreatDoor
