/- The law BlockPlays: the program's guest and the document's, block by block, with what comes from outside between. -/
import Derived.Test.YthcpmpmbgbibfaaGreatDoorBlAll
import Derived.Test.YthcpmpmbgbibfaaGreatDoorInkA
import Derived.Test.YthcpmpmbgbibfaaGreatDoorBkTU
set_option linter.unusedSimpArgs false
set_option linter.unusedVariables false
set_option maxRecDepth 100000
namespace Go.Proofs.YthcpmpmbgbibfaaGreatDoor
open Go.RowKit Go.Ink
attribute [local irreducible] OpY GuardIs
set_option maxRecDepth 100000 in
theorem open_event {W : World} {es : List Value} (h : Arg Tryz.prog W 65 es) : ∃ a : EvR, es = a.cells ∧ a.ok W := by
 obtain ⟨hl, hf⟩ := h.struct rfl
 have hl : es.length = 3 := hl
 match es, hl with
 | [c0, c1, c2], _ =>
  have k0 : Arg Tryz.prog W _ [c0] := hf 0 _ rfl
  have k1 : Arg Tryz.prog W _ [c1] := hf 1 _ rfl
  have k2 : Arg Tryz.prog W _ [c2] := hf 2 _ rfl
  obtain ⟨n0, rfl, m0⟩ := arg1 rfl k0
  obtain ⟨n1, rfl, m1⟩ := arg1 rfl k1
  obtain ⟨A2, d2, x2, e2, r2, b2, z2⟩ := k2.ints (e := 5) (k := .u8) rfl rfl rfl
  obtain rfl : c2 = _ := by simpa using e2
  exact ⟨⟨n0, n1, A2, d2, x2⟩, rfl, ⟨r2, fun x hx => wf_u8 (z2 x hx)⟩⟩
set_option maxRecDepth 100000 in
theorem open_events {W : World} {v : Value} (h : ArgV Tryz.prog W 66 v) : ∃ (A : Option Addr) (c : Nat) (l : List EvR), v = .slice A l.length c ∧ RdV W 3 A l.length c (l.flatMap EvR.cells) ∧ ∀ a, a ∈ l → a.ok W := by
 obtain ⟨A, c, xs, h1, h2, h3, h4⟩ := ArgV.rows (e := 65) rfl rfl EvR.cells_len ⟨0, 0, none, 0, []⟩ (fun es he => open_event he) h
 exact ⟨A, c, xs, h1, h2, h3⟩
set_option maxHeartbeats 8000000 in
theorem blockPlays_ok (A B E : Option Addr) (c e ce : Nat) (l : List RawR) (pages : Int) (k : List Int) (hk : u8s k) (evs : List EvR) (w : World) (h : RdV w 5 A l.length c (l.flatMap RawR.cells)) (hl : ∀ a, a ∈ l → a.ok w) (hB : Rd w .u8 B k.length e k) (hE : RdV w 3 E evs.length ce (evs.flatMap EvR.cells)) (hel : ∀ a, a ∈ evs → a.ok w) (ht : TabOk w) :
  Ctr Tryz.prog 6 [.slice A l.length c, .int .i64 pages, .slice B k.length e, .slice E evs.length ce] w [] (fun v cs => v = .bool true ∧ cs = []) := by
 have hem : evs.length ≤ maxLen := Nat.le_trans hE.cap hE.max
 simp only [maxLen] at hem
 have HI := fun w h hl hB => image_ok A B c e l pages k hk w h hl hB
 have hk2 : (k.take 1024).length ≤ 1024 := by rw [List.length_take]; omega
 have hkb : u8s (k.take 1024) := fun x hx => hk x (List.mem_of_mem_take hx)
 have hB2 := rd_take hB 1024
 refine fn_ctr Tryz.func6 rfl Tryz.ntmps6 rfl (Inv.start w) ?_
 refine Zs (Zr (ZA ?_))
 refine Zn (Zt (Zs (Zr (ZA ?_))))
 iterate 2 refine ZA ?_
 refine ZS (fun w hi => HI w (h.oldN hi) (fun a ha => ⟨(hl a ha).v, (hl a ha).at_, (hl a ha).rd.oldN hi, (hl a ha).bs⟩) (hB.oldN hi)) ?_
 rintro _ _ ⟨_, ⟨A1, c1, E1, E2, N, ⟨hE1, ⟨hn1, hn2⟩, hE2⟩, rfl, rfl⟩, rfl⟩
 have hE1' : u8s (E1.take (N * 64)) := (fun x hx => hE1 x (List.mem_of_mem_take hx))
 have hG0 := fresh_g18 (n := N) hn1 (by omega) hE2 hE1' hk2 hkb
 have HF := fun w h hB => freshG_ok A1 B c1 e N (E1.take (N * 64)) (k.take 1024) hn1 (by omega) hE2 hE1' hk2 w h hB
 obtain ⟨M0, hM0⟩ : ∃ M, Mem.init N (E1.take (N * 64)) = M := ⟨_, rfl⟩
 obtain ⟨T0, hTT⟩ : ∃ T, tflush = T := ⟨_, rfl⟩
 obtain ⟨d0, hd⟩ : ∃ d, Dev.init (k.take 1024) = d := ⟨_, rfl⟩
 rw [hM0, hTT, hd] at HF hG0
 refine ZS (fun w hi => HF w (rd_take (hi.rd (show Has _ (sl .u8 5 A1 E1.length c1 E1) from Zh)) (N * 64)) (hB2.oldN hi)) ?_
 rintro _ _ ⟨_, ⟨F, hF, rfl, rfl⟩, rfl⟩
 refine ZA ?_
 refine Zn (Zt (Zs (Zs (Zr (ZA ?_)))))
 refine ZA ?_
 refine Zn (Zt (wc_cond_f rfl (rfl) ?_))
 refine Zc (Zt (Zs (Zs (Zr (wl_nilc 30 1 ?_)))))
 refine wl_nilc 30 1 ?_
 refine wl_nilc 30 1 ?_
 refine wl_nilc 30 1 ?_
 refine wl_pick (b18F F N St.new ⟨none, 0, none, 0⟩ ⟨none, 0, none, 0⟩ ⟨none, 0, none, 0⟩ ⟨none, 0, none, 0⟩ ⟨M0, T0⟩ d0) Zj ?_
 refine ZA ?_
 refine Zn (Zt (Zx ?_))
 refine wc_loop (fun q : Nat × St × (SAdr × SAdr) × (DAdr × DAdr) × Mmu × Dev => [(3, .slice E evs.length ce), (9, .pointer (some ⟨F.bw, 0, none⟩)), (10, .int .i64 (q.1 : Int))]) (fun q => b18F F N q.2.1 q.2.2.1.1 q.2.2.1.2 q.2.2.2.1.1 q.2.2.2.1.2 q.2.2.2.2.1 q.2.2.2.2.2) (fun q => G18 N q.1 q.2.1 q.2.2.2.2.1 q.2.2.2.2.2 ∧ q.1 ≤ 40) (fun q => 40 - q.1) (⟨0, St.new, ⟨⟨none, 0, none, 0⟩, ⟨none, 0, none, 0⟩⟩, ⟨⟨none, 0, none, 0⟩, ⟨none, 0, none, 0⟩⟩, ⟨M0, T0⟩, d0⟩) ?_ ?_ ?_ ?_
 ·exact ⟨hG0, Nat.zero_le _⟩
 ·exact Zwk
 ·exact List.Sublist.refl _
 rintro ⟨j, s, ⟨X, V⟩, ⟨Y, Z⟩, U, d⟩ ⟨hG, hj⟩
 dsimp only at hG hj ⊢
 refine Zs (Zs (Zr (ZA ?_)))
 refine ZA ?_
 refine Zn (Zt ?_)
 refine wc_cond _ rfl (fun hc5 => ?_) (fun hc5 => ?_)
 ·simp only [decide_eq_true_eq] at hc5
  refine Zc (Zt (Zs (Zx (Zs ?_))))
  refine wc_seq_mid (fun q : DAdr × DAdr × Dev => [(3, .slice E evs.length ce), (9, .pointer (some ⟨F.bw, 0, none⟩)), (10, .int .i64 (j : Int)), (34, .bool false)]) (fun q => b18F F N s X V q.1 q.2.1 U q.2.2) (fun q => G18 N j s U q.2.2) ?_ ?_
  ·refine (Nat.lt_or_ge j evs.length).elim (fun hke => ?_) (fun hke => ?_)
   ·obtain ⟨ae, rfl⟩ := hE.some_ (by omega)
    have hla : evs[j]? = some (evs[j]'hke) := List.getElem?_eq_getElem hke
    have hok := hel _ (List.getElem_mem hke)
    obtain ⟨r, hr⟩ : ∃ r, evs[j]'hke = r := ⟨_, rfl⟩
    rw [hr] at hla hok
    obtain ⟨kd, en, eB, ecb, ebs⟩ := r
    obtain ⟨hrd, hbs⟩ := hok
    dsimp only at hrd hbs
    refine Zr (ZA ?_)
    iterate 2 refine ZA ?_
    refine Zy (y_lss (Zv rfl) (Zv rfl) (decide_eq_true (show (j : Int) < (evs.length : Int) by omega))) ?_
    refine ZA ?_
    iterate 3 refine ZB ?_
    refine Zyy rfl rfl (y_index (j := j)  rfl (fun _ => rfl) (ev_g rfl) (ev_g rfl)  (fun _ => by omega) (fun _ => by omega)) ?_
    refine wl_yg (guard_yes rfl rfl) (y_loadN (vs := EvR.cells ⟨kd, en, eB, ecb, ebs⟩) (fun _ => rfl) (fun _ => rfl) (ev_g rfl)) (rdR_cells hE (fun j v hj => flat_at EvR.cells_len (i := j) hla hj)) rfl ?_
    refine wl_tg (guard_yes rfl rfl) rfl (t_callS (evF F s s X V Y Z d) rfl (fun _ _ => rfl) Zi (fun w hi hin => event_ok F s s X V Y Z d hG.i.i64 kd en eB ecb ebs w hin (fun w' hk => RdV.oldKs hrd hi Zi hk))) rfl ?_
    rintro _ _ ⟨_, ⟨Y2, Z2, rfl, rfl⟩, rfl⟩
    refine ZB ?_
    refine ZA ?_
    refine Zn ?_
    refine q_midP ((⟨Y2, Z2, evTo kd en ebs d⟩ : DAdr × DAdr × Dev)) ?_ ?_ ?_
    ·exact hG.event kd en hbs
    ·exact Zwk
    exact Zj
   refine Zr (ZA ?_)
   iterate 2 refine ZA ?_
   refine Zy (y_lss (Zv rfl) (Zv rfl) (decide_eq_false (show ¬ (j : Int) < (evs.length : Int) by omega))) ?_
   refine ZA ?_
   iterate 3 refine ZB ?_
   refine wl_skip (guard_yes rfl rfl) rfl rfl ?_
   refine wl_skip (guard_yes rfl rfl) rfl rfl ?_
   refine wl_skip (guard_yes rfl rfl) rfl rfl ?_
   refine wl_skip (guard_yes rfl rfl) rfl rfl ?_
   refine Zy (y_and (q := false) (Zv rfl) ⟨_, rfl, fun _ e => by simp at e⟩) ?_
   refine Zn ?_
   refine q_midP ((⟨Y, Z, d⟩ : DAdr × DAdr × Dev)) ?_ ?_ ?_
   ·exact hG
   ·exact Zwk
   exact Zj
  clear hG
  rintro ⟨Y, Z, d⟩ hG
  dsimp only at hG ⊢
  obtain ⟨hd16, hr16, -⟩ := St.fits hG.g.right
  have ho := hG.o
  have HB := fun w hi h ht => block_ok F.bu F.bb F.L F.D Y s X.Ad X.Ar X.cd X.cr U d (hF ▸ hG.g) (by omega) w hi h ht
  have HRB := fun w hi h => refblock_ok F.K F.bx N F.by_ F.bd Z s V.Ad V.Ar V.cd V.cr U d hG.g hG.m (by omega) w hi h
  have hG2 := hG.block (fun root va kind super => hG.m.walk root va kind super)
  rw [hF] at HB
  obtain ⟨⟨s2, U2, d2⟩, hq⟩ : ∃ q, blockTo N s U d = q := ⟨_, rfl⟩
  rw [hq] at HB HRB hG2
  dsimp only at hG2
  have ho2 := hG2.o
  have HA := fun X V Y Z w hi => alike18_ok F N hF s2 hG2.g.right X V Y Z U2 d2 hG2.g.u (by omega) hG2.g.dv (by omega) w hi
  refine wc_cond_f rfl (rfl) ?_
  refine Zc (Zt ?_)
  refine wc_seq_mid (fun q : SAdr × DAdr => [(3, .slice E evs.length ce), (9, .pointer (some ⟨F.bw, 0, none⟩)), (10, .int .i64 (j : Int))]) (fun q => w18X F s2 q.1 :: g18X F s V :: slD s2 q.1.Ad q.1.cd :: slR s2 q.1.Ar q.1.cr :: slD s V.Ad V.cd :: slR s V.Ar V.cr :: (ubF F.bu F.bb F.L F.D q.2 U2 d2 ++ rgF F.K F.bx N F.by_ F.bd Z U d)) (fun _ => True) ?_ ?_
  ·refine wc_draw ⟨fun j => List.elem j [13, 16], []⟩ Zk ?_
   refine ZE 0 ?_
   refine ZE 1 ?_
   refine ZE 2 ?_
   refine ZFe 3 3 ?_
   refine wa_ln 4 rfl Zk Zk Zk Zk (y_loadN (vs := s.cells (.slice X.Ad s.d.length X.cd) (.slice X.Ar s.r.length X.cr)) (fun _ => rfl) (fun _ => rfl) (Zv rfl)) (row_cells Zh rfl) rfl ?_
   refine ZE 5 ?_
   refine ZE 6 ?_
   refine ZFe 7 0 ?_
   refine ZG 8 ?_
   refine ZE 9 ?_
   refine ZE 10 ?_
   refine ZFe 11 1 ?_
   refine ZG 12 ?_
   refine wa_1 13 Zk ?_
   refine wi_t rfl rfl (t_callS (ubF F.bu F.bb F.L F.D Y U d) rfl (fun _ _ => rfl) Zi (fun w hi hin => HB w hin (fun w' hk => hi.rdStKs Zi (show Has _ (slD s X.Ad X.cd) from Zh) (show Has _ (slR s X.Ar X.cr) from Zh) (by omega) (by omega) hk) (fun w' hk => RdV.oldKs ht hi Zi hk))) (fun _ _ _ _ _ _ _ h => by cases h) rfl ?_
   rintro _ _ ⟨_, ⟨X2, Y2, rfl, rfl⟩, rfl⟩
   refine ZE 14 ?_
   refine ZFe 15 3 ?_
   refine wa_1 16 Zk ?_
   refine wi_t0 rfl rfl (t_storeRX (ys := w18L F s2 X2) (n := 16) (vs := s2.cells (.slice X2.Ad s2.d.length X2.cd) (.slice X2.Ar s2.r.length X2.cr)) rfl (fun _ => rfl) rfl rfl (allT rfl) Za rfl (Nat.le_of_ble_eq_true rfl)) (fun _ _ _ _ _ _ _ h => by cases h) ?_
   rintro _ _ ⟨rfl, rfl⟩
   refine wa_done Zk ?_
   refine q_midP ((⟨X2, Y2⟩ : SAdr × DAdr)) ?_ ?_ ?_
   ·trivial
   ·exact Zwk
   exact Zj
  rintro ⟨X2, Y2⟩ -
  dsimp only
  refine wc_seq_mid (fun q : SAdr × DAdr => [(3, .slice E evs.length ce), (9, .pointer (some ⟨F.bw, 0, none⟩)), (10, .int .i64 (j : Int))]) (fun q => b18F F N s2 X2 q.1 Y2 q.2 U2 d2) (fun _ => True) ?_ ?_
  ·refine wc_draw ⟨fun j => List.elem j [25, 28], rowL F.bw (w18L F s2 X2)⟩ Zk ?_
   refine ZE 0 ?_
   refine ZE 1 ?_
   refine ZFe 2 19 ?_
   refine wa_lkn 3 rfl Zk Zk Zk (y_load (fun _ => rfl) (Zv rfl)) (by first | exact rowL_mem rfl | exact List.mem_append_left _ (rowL_mem rfl) | exact List.mem_append_right _ (rowL_mem rfl)) (rowL_cells (t := 41) Zh) rfl ?_
   refine ZE 4 ?_
   refine ZE 5 ?_
   refine ZFe 6 19 ?_
   refine ZE 11 ?_
   refine ZE 12 ?_
   refine ZFe 13 19 ?_
   refine ZE 18 ?_
   refine ZE 19 ?_
   refine ZFe 20 19 ?_
   refine wa_3 7 14 21 Zk ?_ ?_ ?_
   ·refine wi_yn rfl (y_load (fun _ => rfl) (Zv rfl)) (row_cell Zh rfl) rfl ?_
    refine ZE 8 ?_
    refine ZFe 9 0 ?_
    refine wa_ln 10 rfl Zk Zk Zk Zk (y_loadN (vs := s.cells (.slice V.Ad s.d.length V.cd) (.slice V.Ar s.r.length V.cr)) (fun _ => rfl) (fun _ => rfl) (Zv rfl)) (row_cells Zh rfl) rfl ?_
    refine wa_2 14 21 Zk ?_ ?_
    ·refine wi_yn rfl (y_load (fun _ => rfl) (Zv rfl)) (row_cell Zh rfl) rfl ?_
     refine ZE 15 ?_
     refine ZFe 16 16 ?_
     refine ZG 17 ?_
     refine wa_1 21 Zk ?_
     refine wi_yn rfl (y_load (fun _ => rfl) (Zv rfl)) (row_cell Zh rfl) rfl ?_
     refine ZE 22 ?_
     refine ZFe 23 17 ?_
     refine ZG 24 ?_
     refine wa_1 25 Zk ?_
     refine wi_t rfl rfl (t_callS (rgF F.K F.bx N F.by_ F.bd Z U d) rfl (fun _ _ => rfl) Zi (fun w hi hin => HRB w hin (fun w' hk => hi.rdStKs Zi (show Has _ (slD s V.Ad V.cd) from Zh) (show Has _ (slR s V.Ar V.cr) from Zh) (by omega) (by omega) hk))) (fun _ => by rintro _ _ ⟨_, ⟨V2, Z2, rfl, rfl⟩, rfl⟩; exact rowL_cells (t := 41) Zh) rfl ?_
     rintro _ _ ⟨_, ⟨V2, Z2, rfl, rfl⟩, rfl⟩
     refine ZE 26 ?_
     refine ZFe 27 0 ?_
     refine wa_1 28 Zk ?_
     refine wi_t0 rfl rfl (t_storeRX (ys := g18L F s2 V2) (n := 16) (vs := s2.cells (.slice V2.Ad s2.d.length V2.cd) (.slice V2.Ar s2.r.length V2.cr)) rfl (fun _ => rfl) rfl rfl (allT rfl) Za rfl (Nat.le_of_ble_eq_true rfl)) (fun _ => by rintro _ _ ⟨rfl, rfl⟩; exact rowL_cells (t := 41) Zh) ?_
     rintro _ _ ⟨rfl, rfl⟩
     refine wa_done Zk ?_
     refine q_midP ((⟨V2, Z2⟩ : SAdr × DAdr)) ?_ ?_ ?_
     ·trivial
     ·exact Zwk
     exact Zj
    refine wi_yn rfl (y_load (fun _ => rfl) (Zv rfl)) (row_cell Zh rfl) rfl ?_
    refine ZE 22 ?_
    refine ZFe 23 17 ?_
    refine ZG 24 ?_
    refine wa_1 14 Zk ?_
    refine wi_yn rfl (y_load (fun _ => rfl) (Zv rfl)) (row_cell Zh rfl) rfl ?_
    refine ZE 15 ?_
    refine ZFe 16 16 ?_
    refine ZG 17 ?_
    refine wa_1 25 Zk ?_
    refine wi_t rfl rfl (t_callS (rgF F.K F.bx N F.by_ F.bd Z U d) rfl (fun _ _ => rfl) Zi (fun w hi hin => HRB w hin (fun w' hk => hi.rdStKs Zi (show Has _ (slD s V.Ad V.cd) from Zh) (show Has _ (slR s V.Ar V.cr) from Zh) (by omega) (by omega) hk))) (fun _ => by rintro _ _ ⟨_, ⟨V2, Z2, rfl, rfl⟩, rfl⟩; exact rowL_cells (t := 41) Zh) rfl ?_
    rintro _ _ ⟨_, ⟨V2, Z2, rfl, rfl⟩, rfl⟩
    refine ZE 26 ?_
    refine ZFe 27 0 ?_
    refine wa_1 28 Zk ?_
    refine wi_t0 rfl rfl (t_storeRX (ys := g18L F s2 V2) (n := 16) (vs := s2.cells (.slice V2.Ad s2.d.length V2.cd) (.slice V2.Ar s2.r.length V2.cr)) rfl (fun _ => rfl) rfl rfl (allT rfl) Za rfl (Nat.le_of_ble_eq_true rfl)) (fun _ => by rintro _ _ ⟨rfl, rfl⟩; exact rowL_cells (t := 41) Zh) ?_
    rintro _ _ ⟨rfl, rfl⟩
    refine wa_done Zk ?_
    refine q_midP ((⟨V2, Z2⟩ : SAdr × DAdr)) ?_ ?_ ?_
    ·trivial
    ·exact Zwk
    exact Zj
   ·refine wi_yn rfl (y_load (fun _ => rfl) (Zv rfl)) (row_cell Zh rfl) rfl ?_
    refine ZE 15 ?_
    refine ZFe 16 16 ?_
    refine ZG 17 ?_
    refine wa_2 7 21 Zk ?_ ?_
    ·refine wi_yn rfl (y_load (fun _ => rfl) (Zv rfl)) (row_cell Zh rfl) rfl ?_
     refine ZE 8 ?_
     refine ZFe 9 0 ?_
     refine wa_ln 10 rfl Zk Zk Zk Zk (y_loadN (vs := s.cells (.slice V.Ad s.d.length V.cd) (.slice V.Ar s.r.length V.cr)) (fun _ => rfl) (fun _ => rfl) (Zv rfl)) (row_cells Zh rfl) rfl ?_
     refine wa_1 21 Zk ?_
     refine wi_yn rfl (y_load (fun _ => rfl) (Zv rfl)) (row_cell Zh rfl) rfl ?_
     refine ZE 22 ?_
     refine ZFe 23 17 ?_
     refine ZG 24 ?_
     refine wa_1 25 Zk ?_
     refine wi_t rfl rfl (t_callS (rgF F.K F.bx N F.by_ F.bd Z U d) rfl (fun _ _ => rfl) Zi (fun w hi hin => HRB w hin (fun w' hk => hi.rdStKs Zi (show Has _ (slD s V.Ad V.cd) from Zh) (show Has _ (slR s V.Ar V.cr) from Zh) (by omega) (by omega) hk))) (fun _ => by rintro _ _ ⟨_, ⟨V2, Z2, rfl, rfl⟩, rfl⟩; exact rowL_cells (t := 41) Zh) rfl ?_
     rintro _ _ ⟨_, ⟨V2, Z2, rfl, rfl⟩, rfl⟩
     refine ZE 26 ?_
     refine ZFe 27 0 ?_
     refine wa_1 28 Zk ?_
     refine wi_t0 rfl rfl (t_storeRX (ys := g18L F s2 V2) (n := 16) (vs := s2.cells (.slice V2.Ad s2.d.length V2.cd) (.slice V2.Ar s2.r.length V2.cr)) rfl (fun _ => rfl) rfl rfl (allT rfl) Za rfl (Nat.le_of_ble_eq_true rfl)) (fun _ => by rintro _ _ ⟨rfl, rfl⟩; exact rowL_cells (t := 41) Zh) ?_
     rintro _ _ ⟨rfl, rfl⟩
     refine wa_done Zk ?_
     refine q_midP ((⟨V2, Z2⟩ : SAdr × DAdr)) ?_ ?_ ?_
     ·trivial
     ·exact Zwk
     exact Zj
    refine wi_yn rfl (y_load (fun _ => rfl) (Zv rfl)) (row_cell Zh rfl) rfl ?_
    refine ZE 22 ?_
    refine ZFe 23 17 ?_
    refine ZG 24 ?_
    refine wa_1 7 Zk ?_
    refine wi_yn rfl (y_load (fun _ => rfl) (Zv rfl)) (row_cell Zh rfl) rfl ?_
    refine ZE 8 ?_
    refine ZFe 9 0 ?_
    refine wa_ln 10 rfl Zk Zk Zk Zk (y_loadN (vs := s.cells (.slice V.Ad s.d.length V.cd) (.slice V.Ar s.r.length V.cr)) (fun _ => rfl) (fun _ => rfl) (Zv rfl)) (row_cells Zh rfl) rfl ?_
    refine wa_1 25 Zk ?_
    refine wi_t rfl rfl (t_callS (rgF F.K F.bx N F.by_ F.bd Z U d) rfl (fun _ _ => rfl) Zi (fun w hi hin => HRB w hin (fun w' hk => hi.rdStKs Zi (show Has _ (slD s V.Ad V.cd) from Zh) (show Has _ (slR s V.Ar V.cr) from Zh) (by omega) (by omega) hk))) (fun _ => by rintro _ _ ⟨_, ⟨V2, Z2, rfl, rfl⟩, rfl⟩; exact rowL_cells (t := 41) Zh) rfl ?_
    rintro _ _ ⟨_, ⟨V2, Z2, rfl, rfl⟩, rfl⟩
    refine ZE 26 ?_
    refine ZFe 27 0 ?_
    refine wa_1 28 Zk ?_
    refine wi_t0 rfl rfl (t_storeRX (ys := g18L F s2 V2) (n := 16) (vs := s2.cells (.slice V2.Ad s2.d.length V2.cd) (.slice V2.Ar s2.r.length V2.cr)) rfl (fun _ => rfl) rfl rfl (allT rfl) Za rfl (Nat.le_of_ble_eq_true rfl)) (fun _ => by rintro _ _ ⟨rfl, rfl⟩; exact rowL_cells (t := 41) Zh) ?_
    rintro _ _ ⟨rfl, rfl⟩
    refine wa_done Zk ?_
    refine q_midP ((⟨V2, Z2⟩ : SAdr × DAdr)) ?_ ?_ ?_
    ·trivial
    ·exact Zwk
    exact Zj
   refine wi_yn rfl (y_load (fun _ => rfl) (Zv rfl)) (row_cell Zh rfl) rfl ?_
   refine ZE 22 ?_
   refine ZFe 23 17 ?_
   refine ZG 24 ?_
   refine wa_2 7 14 Zk ?_ ?_
   ·refine wi_yn rfl (y_load (fun _ => rfl) (Zv rfl)) (row_cell Zh rfl) rfl ?_
    refine ZE 8 ?_
    refine ZFe 9 0 ?_
    refine wa_ln 10 rfl Zk Zk Zk Zk (y_loadN (vs := s.cells (.slice V.Ad s.d.length V.cd) (.slice V.Ar s.r.length V.cr)) (fun _ => rfl) (fun _ => rfl) (Zv rfl)) (row_cells Zh rfl) rfl ?_
    refine wa_1 14 Zk ?_
    refine wi_yn rfl (y_load (fun _ => rfl) (Zv rfl)) (row_cell Zh rfl) rfl ?_
    refine ZE 15 ?_
    refine ZFe 16 16 ?_
    refine ZG 17 ?_
    refine wa_1 25 Zk ?_
    refine wi_t rfl rfl (t_callS (rgF F.K F.bx N F.by_ F.bd Z U d) rfl (fun _ _ => rfl) Zi (fun w hi hin => HRB w hin (fun w' hk => hi.rdStKs Zi (show Has _ (slD s V.Ad V.cd) from Zh) (show Has _ (slR s V.Ar V.cr) from Zh) (by omega) (by omega) hk))) (fun _ => by rintro _ _ ⟨_, ⟨V2, Z2, rfl, rfl⟩, rfl⟩; exact rowL_cells (t := 41) Zh) rfl ?_
    rintro _ _ ⟨_, ⟨V2, Z2, rfl, rfl⟩, rfl⟩
    refine ZE 26 ?_
    refine ZFe 27 0 ?_
    refine wa_1 28 Zk ?_
    refine wi_t0 rfl rfl (t_storeRX (ys := g18L F s2 V2) (n := 16) (vs := s2.cells (.slice V2.Ad s2.d.length V2.cd) (.slice V2.Ar s2.r.length V2.cr)) rfl (fun _ => rfl) rfl rfl (allT rfl) Za rfl (Nat.le_of_ble_eq_true rfl)) (fun _ => by rintro _ _ ⟨rfl, rfl⟩; exact rowL_cells (t := 41) Zh) ?_
    rintro _ _ ⟨rfl, rfl⟩
    refine wa_done Zk ?_
    refine q_midP ((⟨V2, Z2⟩ : SAdr × DAdr)) ?_ ?_ ?_
    ·trivial
    ·exact Zwk
    exact Zj
   refine wi_yn rfl (y_load (fun _ => rfl) (Zv rfl)) (row_cell Zh rfl) rfl ?_
   refine ZE 15 ?_
   refine ZFe 16 16 ?_
   refine ZG 17 ?_
   refine wa_1 7 Zk ?_
   refine wi_yn rfl (y_load (fun _ => rfl) (Zv rfl)) (row_cell Zh rfl) rfl ?_
   refine ZE 8 ?_
   refine ZFe 9 0 ?_
   refine wa_ln 10 rfl Zk Zk Zk Zk (y_loadN (vs := s.cells (.slice V.Ad s.d.length V.cd) (.slice V.Ar s.r.length V.cr)) (fun _ => rfl) (fun _ => rfl) (Zv rfl)) (row_cells Zh rfl) rfl ?_
   refine wa_1 25 Zk ?_
   refine wi_t rfl rfl (t_callS (rgF F.K F.bx N F.by_ F.bd Z U d) rfl (fun _ _ => rfl) Zi (fun w hi hin => HRB w hin (fun w' hk => hi.rdStKs Zi (show Has _ (slD s V.Ad V.cd) from Zh) (show Has _ (slR s V.Ar V.cr) from Zh) (by omega) (by omega) hk))) (fun _ => by rintro _ _ ⟨_, ⟨V2, Z2, rfl, rfl⟩, rfl⟩; exact rowL_cells (t := 41) Zh) rfl ?_
   rintro _ _ ⟨_, ⟨V2, Z2, rfl, rfl⟩, rfl⟩
   refine ZE 26 ?_
   refine ZFe 27 0 ?_
   refine wa_1 28 Zk ?_
   refine wi_t0 rfl rfl (t_storeRX (ys := g18L F s2 V2) (n := 16) (vs := s2.cells (.slice V2.Ad s2.d.length V2.cd) (.slice V2.Ar s2.r.length V2.cr)) rfl (fun _ => rfl) rfl rfl (allT rfl) Za rfl (Nat.le_of_ble_eq_true rfl)) (fun _ => by rintro _ _ ⟨rfl, rfl⟩; exact rowL_cells (t := 41) Zh) ?_
   rintro _ _ ⟨rfl, rfl⟩
   refine wa_done Zk ?_
   refine q_midP ((⟨V2, Z2⟩ : SAdr × DAdr)) ?_ ?_ ?_
   ·trivial
   ·exact Zwk
   exact Zj
  rintro ⟨V2, Z2⟩ -
  dsimp only
  refine Zs (Zr (ZA ?_))
  refine wl_t (t_callS (b18F F N s2 X2 V2 Y2 Z2 U2 d2) rfl (fun _ _ => rfl) Zi (fun w hi hin => HA X2 V2 Y2 Z2 w hin)) rfl ?_
  rintro _ _ ⟨_, ⟨rfl, rfl⟩, rfl⟩
  refine ZA ?_
  refine Zn (Zt (wc_cond_f rfl (rfl) ?_))
  refine Zc (Zo (Zt (Zr (ZA ?_))))
  refine Zy (y_add (Zv rfl) (Zv rfl) Zl) ?_
  refine ZA ?_
  refine Zn ?_
  refine q_midP ((⟨j + 1, s2, ⟨X2, V2⟩, ⟨Y2, Z2⟩, U2, d2⟩ : Nat × St × (SAdr × SAdr) × (DAdr × DAdr) × Mmu × Dev)) ?_ ?_ ?_
  ·exact ⟨⟨hG2, show j + 1 ≤ 40 by omega⟩, show 40 - (j + 1) < 40 - j by omega⟩
  ·exact Zwk
  exact Zj
 refine wc_exit ?_
 refine q_then_exit ?_
 refine q_then_exit ?_
 refine q_block_same rfl ?_
 refine Zt (Zs (Zr (ZS (fun w hi => known18_ok w (ht.old hi)) ?_)))
 rintro _ _ ⟨_, ⟨rfl, rfl⟩, rfl⟩
 refine ZA ?_
 refine Zn (Zt (Ze (ret1 (cs' := []) (.inl rfl) Zu rfl rfl ?_)))
 exact ⟨rfl, rfl⟩
end Go.Proofs.YthcpmpmbgbibfaaGreatDoor
