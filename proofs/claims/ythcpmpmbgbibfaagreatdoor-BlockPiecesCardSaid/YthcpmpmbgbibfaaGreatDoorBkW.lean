/- The law BlockPieces: a run is its blocks. -/
import Derived.Test.YthcpmpmbgbibfaaGreatDoorBkV
import Derived.Test.YthcpmpmbgbibfaaGreatDoorInkA
import Derived.Test.YthcpmpmbgbibfaaGreatDoorSqS
set_option linter.unusedSimpArgs false
set_option linter.unusedVariables false
set_option maxRecDepth 100000
namespace Go.Ink
open Go.RowKit
/-- Where the law's own loop stops, the run stops too. -/
theorem pieces_stop {n k : Nat} {m : Int} {q z : St × Mmu × Dev} (hk : k ≤ m.toNat) (hw : 0 ≤ q.1.count ∧ q.1.count ≤ 18446744073709551615) (h : runGo n m 0 (m.toNat - k) q = z) (hc : ((decide ((k : Int) < m) && decide (q.1.count < m)) && !q.1.halted) = false) : q = z := by
 by_cases e : k = m.toNat
 ·subst e; rw [Nat.sub_self] at h; exact h
 rw [runGo_stop] at h
 ·exact h
 unfold runCond
 rw [decide_eq_true (show (k : Int) < m by omega), Bool.true_and] at hc
 rw [show IntKind.u64.wrap (q.1.count - 0) = q.1.count by rw [IntKind.wrap_u64]; omega, decide_eq_true (show 0 < m by omega), Bool.true_and, Bool.and_comm]
 exact hc
theorem pieces_go {n k : Nat} {m : Int} {q z : St × Mmu × Dev} (hk : k ≤ m.toNat) (hw : 0 ≤ q.1.count ∧ q.1.count ≤ 18446744073709551615) (h : runGo n m 0 (m.toNat - k) q = z) (hc : ((decide ((k : Int) < m) && decide (q.1.count < m)) && !q.1.halted) = true) : k < m.toNat ∧ q.1.halted = false ∧ runGo n m 0 (m.toNat - (k + 1)) (blockTo n q.1 q.2.1 q.2.2) = z := by
 simp only [Bool.and_eq_true, decide_eq_true_eq, Bool.not_eq_true'] at hc
 obtain ⟨⟨h1, h2⟩, h3⟩ := hc
 refine ⟨by omega, h3, ?_⟩
 rw [show m.toNat - k = (m.toNat - (k + 1)) + 1 by omega, runGo_go] at h
 ·exact h
 unfold runCond
 rw [show IntKind.u64.wrap (q.1.count - 0) = q.1.count by rw [IntKind.wrap_u64]; omega, decide_eq_true (show 0 < m by omega), h3, decide_eq_true h2]
 rfl
end Go.Ink
namespace Go.Proofs.YthcpmpmbgbibfaaGreatDoor
open Go.RowKit Go.Ink
attribute [local irreducible] OpY GuardIs

set_option maxHeartbeats 4000000 in
theorem blockPieces_ok (A : Option Addr) (c : Nat) (l : List RawR) (pages n : Int) (w : World) (h : RdV w 5 A l.length c (l.flatMap RawR.cells)) (hl : ∀ a, a ∈ l → a.ok w) (ht : TabOk w) :
  Ctr Tryz.prog 3 [.slice A l.length c, .int .i64 pages, .int .i64 n] w [] (fun v cs => v = .bool true ∧ cs = []) := by
 have HI := fun w h hl => image_ok A none c 0 l pages [] (fun x hx => by cases hx) w h hl (rdNil w .u8)
 obtain ⟨m, hm⟩ : ∃ m, within n 0 120 = m := ⟨_, rfl⟩
 have hmr := within_rng n 0 120 (by decide)
 rw [hm] at hmr
 have HW := fun w => hm ▸ within_ok n 0 120 w (by decide) (by decide) (by decide)
 refine fn_ctr Tryz.func3 rfl Tryz.ntmps3 rfl (Inv.start w) ?_
 refine Zs (Zr (ZA ?_))
 refine Zn (Zt (Zs (Zr (ZA ?_))))
 refine ZA ?_
 refine ZS (fun w hi => HI w (h.oldN hi) (fun a ha => ⟨(hl a ha).v, (hl a ha).at_, (hl a ha).rd.oldN hi, (hl a ha).bs⟩)) ?_
 rintro _ _ ⟨_, ⟨A1, c1, E, E2, N, ⟨hE1, ⟨hn1, hn2⟩, hE2⟩, rfl, rfl⟩, rfl⟩
 have hE1' : u8s (E.take (N * 64)) := (fun x hx => hE1 x (List.mem_of_mem_take hx))
 have hG0 := fresh_gok (n := N) (l := E.take (N * 64)) (k := []) hE2 hE1' (by decide) (fun x hx => by cases hx)
 have ho0 : (Dev.init []).out.length ≤ 0 := Nat.le_refl _
 have HF := fun w h => fresh18_ok A1 none c1 0 N (E.take (N * 64)) [] hn1 (by omega) hE2 hE1' (by decide) w h (rdNil w .u8)
 unfold fr18 at HF
 obtain ⟨data, hda⟩ : ∃ d, refData N (E.take (N * 64)) = d := ⟨_, rfl⟩
 obtain ⟨tu, htu⟩ : ∃ d, List.replicate N false = d := ⟨_, rfl⟩
 obtain ⟨U0, hU⟩ : ∃ M, (⟨Mem.init N (E.take (N * 64)), tflush⟩ : Mmu) = M := ⟨_, rfl⟩
 obtain ⟨T0, hTT⟩ : ∃ T, tflush = T := ⟨_, rfl⟩
 obtain ⟨d0, hd⟩ : ∃ d, Dev.init [] = d := ⟨_, rfl⟩
 rw [hda, htu, hU, hd, hTT] at HF
 rw [hU, hd] at hG0
 rw [hd] at ho0
 refine ZN fun b7 => ?_
 refine ZM ?_
 refine Zn (Zt (Zs (wc_draw ⟨fun j => List.elem j [], []⟩ Zk ?_)))
 refine ZI 0 ?_
 refine ZI 2 ?_
 refine wa_1 1 Zk ?_
 refine ZT (fun w hi => HF w (rd_take (hi.rd (show Has _ (sl .u8 5 A1 E.length c1 E) from Zh)) (N * 64))) ?_
 rintro _ _ ⟨_, ⟨F, hF, rfl, rfl⟩, rfl⟩
 refine wa_1 3 Zk ?_
 refine ZT (fun w hi => HF w (rd_take (hi.rd (show Has _ (sl .u8 5 A1 E.length c1 E) from Zh)) (N * 64))) ?_
 rintro _ _ ⟨_, ⟨G, hGn, rfl, rfl⟩, rfl⟩
 refine ZE 4 ?_
 refine ZE 5 ?_
 refine wa_done Zk ?_
 refine Zt (Zs (Zs (Zr (ZA ?_))))
 iterate 2 refine ZA ?_
 iterate 2 refine ZB ?_
 refine ZA ?_
 refine Zn (Zt (wc_cond_f rfl (rfl) ?_))
 refine Zc (Zt (Zs (Zr (ZA ?_))))
 refine ZS (fun w hi => HW w) ?_
 rintro _ _ ⟨_, ⟨rfl, rfl⟩, rfl⟩
 obtain ⟨⟨s3, U3, d3⟩, hq3⟩ : ∃ q, runTo N m St.new U0 d0 = q := ⟨_, rfl⟩
 have HR := fun w hi h ht => run_ok F.bu F.bb F.L F.D ⟨none, 0, none, 0⟩ St.new none none 0 0 U0 d0 (hF ▸ hG0) m (by omega) (by omega) (by omega) w hi h ht
 rw [hF, hq3] at HR
 have hR0 : runGo N m 0 (m.toNat - 0) (St.new, U0, d0) = (s3, U3, d3) := hq3
 refine ZA ?_
 refine Zn (Zt ?_)
 refine wc_seq_mid (fun q : SAdr × DAdr × Nat => [(8, .pointer (some ⟨F.bw, 0, none⟩)), (9, .pointer (some ⟨G.bw, 0, none⟩)), (10, .int .i64 m), (11, .pointer (some ⟨q.2.2, 0, none⟩))]) (fun q => row q.2.2 (s3.cells (.slice q.1.Ad s3.d.length q.1.cd) (.slice q.1.Ar s3.r.length q.1.cr)) 34 :: w18Row F St.new :: w18Row G St.new :: (guF F.bu F.bb F.L F.D s3 q.1 q.2.1 U3 d3 ++ ubF G.bu G.bb G.L G.D ⟨none, 0, none, 0⟩ U0 d0)) (fun _ => True) ?_ ?_
 ·refine wc_draw ⟨fun j => List.elem j [13, 15], []⟩ Zk ?_
  refine ZE 0 ?_
  refine ZE 1 ?_
  refine ZFe 2 3 ?_
  refine wa_ln 3 rfl Zk Zk Zk Zk (y_loadN (vs := St.new.cells (.slice none 0 0) (.slice none 0 0)) (fun _ => rfl) (fun _ => rfl) (Zv rfl)) (row_cells Zh rfl) rfl ?_
  refine ZE 4 ?_
  refine ZE 5 ?_
  refine ZFe 6 0 ?_
  refine ZG 7 ?_
  refine ZE 8 ?_
  refine ZE 9 ?_
  refine ZFe 10 1 ?_
  refine ZG 11 ?_
  refine ZE 12 ?_
  refine wa_2 13 14 Zk ?_ ?_
  ·refine wi_t rfl rfl (t_callS (ubF F.bu F.bb F.L F.D ⟨none, 0, none, 0⟩ U0 d0) rfl (fun _ _ => rfl) Zi (fun w hi hin => HR w hin (fun w' hk => RdSt.nil_ w' rfl rfl) (fun w' hk => RdV.oldKs ht hi Zi hk))) (fun _ _ _ _ _ _ _ h => by cases h) rfl ?_
   rintro _ _ ⟨_, ⟨X3, Y3, rfl, rfl⟩, rfl⟩
   refine wa_1 14 Zk ?_
   refine ZP fun b11 => ?_
   refine wa_1 15 Zk ?_
   refine ZR ?_
   refine wa_done Zk ?_
   refine q_midP ((⟨X3, Y3, b11⟩ : SAdr × DAdr × Nat)) ?_ ?_ ?_
   ·trivial
   ·exact Zwk
   exact Zj
  refine ZP fun b11 => ?_
  refine wa_1 13 Zk ?_
  refine wi_t rfl rfl (t_callS (ubF F.bu F.bb F.L F.D ⟨none, 0, none, 0⟩ U0 d0) rfl (fun _ _ => rfl) Zi (fun w hi hin => HR w hin (fun w' hk => RdSt.nil_ w' rfl rfl) (fun w' hk => RdV.oldKs ht hi Zi hk))) (fun _ _ _ _ _ _ _ h => by cases h) rfl ?_
  rintro _ _ ⟨_, ⟨X3, Y3, rfl, rfl⟩, rfl⟩
  refine wa_1 15 Zk ?_
  refine ZR ?_
  refine wa_done Zk ?_
  refine q_midP ((⟨X3, Y3, b11⟩ : SAdr × DAdr × Nat)) ?_ ?_ ?_
  ·trivial
  ·exact Zwk
  exact Zj
 rintro ⟨X3, Y3, b11⟩ -
 dsimp only
 refine Zs (Zr (ZA ?_))
 refine ZA ?_
 refine ZFa 3 ?_
 refine wl_y (y_loadN (vs := St.new.cells (.slice none 0 0) (.slice none 0 0)) (fun _ => rfl) (fun _ => rfl) (Zv rfl)) (row_cells Zh rfl) rfl ?_
 refine ZN fun b12 => ?_
 refine ZM ?_
 refine Zn (Zt (Zs (Zs (Zr (wl_nilc 30 1 ?_)))))
 refine wl_nilc 30 1 ?_
 refine wl_pick (row b12 (St.new.cells (.slice none 0 0) (.slice none 0 0)) 34 :: row b11 (s3.cells (.slice X3.Ad s3.d.length X3.cd) (.slice X3.Ar s3.r.length X3.cr)) 34 :: w18Row F St.new :: w18Row G St.new :: (guF F.bu F.bb F.L F.D s3 X3 Y3 U3 d3 ++ guF G.bu G.bb G.L G.D St.new ⟨none, 0, none, 0⟩ ⟨none, 0, none, 0⟩ U0 d0)) Zj ?_
 refine ZA ?_
 refine Zn (Zt (Zx ?_))
 refine wc_loop (fun q : Nat × St × SAdr × DAdr × Mmu × Dev => [(8, .pointer (some ⟨F.bw, 0, none⟩)), (9, .pointer (some ⟨G.bw, 0, none⟩)), (10, .int .i64 m), (11, .pointer (some ⟨b11, 0, none⟩)), (12, .pointer (some ⟨b12, 0, none⟩)), (13, .int .i64 (q.1 : Int))]) (fun q => row b12 (q.2.1.cells (.slice q.2.2.1.Ad q.2.1.d.length q.2.2.1.cd) (.slice q.2.2.1.Ar q.2.1.r.length q.2.2.1.cr)) 34 :: row b11 (s3.cells (.slice X3.Ad s3.d.length X3.cd) (.slice X3.Ar s3.r.length X3.cr)) 34 :: w18Row F St.new :: w18Row G St.new :: (guF F.bu F.bb F.L F.D s3 X3 Y3 U3 d3 ++ guF G.bu G.bb G.L G.D q.2.1 q.2.2.1 q.2.2.2.1 q.2.2.2.2.1 q.2.2.2.2.2)) (fun q => GOk N q.2.1 q.2.2.2.2.1 q.2.2.2.2.2 ∧ q.1 ≤ m.toNat ∧ q.2.2.2.2.2.out.length ≤ 8 * q.1 ∧ runGo N m 0 (m.toNat - q.1) (q.2.1, q.2.2.2.2.1, q.2.2.2.2.2) = (s3, U3, d3)) (fun q => m.toNat - q.1) (⟨0, St.new, ⟨none, 0, none, 0⟩, ⟨none, 0, none, 0⟩, U0, d0⟩) ?_ ?_ ?_ ?_
 ·exact ⟨hG0, Nat.zero_le _, ho0, hR0⟩
 ·exact Zwk
 ·exact List.Sublist.refl _
 rintro ⟨k, s, X, Y, U, d⟩ ⟨hG, hk, ho, hR⟩
 dsimp only at hG hk ho hR ⊢
 obtain ⟨hd16, hr16, -⟩ := St.fits hG.right
 have hwc := hG.wf.count
 refine Zs (Zs (Zr (ZA ?_)))
 iterate 3 refine ZA ?_
 refine ZFb 14 ?_
 refine ZD ?_
 refine ZB ?_
 refine Zyy rfl rfl (y_conv rfl rfl (ev_g rfl) (show IntKind.u64.wrap m = m from by rw [IntKind.wrap_u64]; omega)) ?_
 refine ZB ?_
 iterate 2 refine ZA ?_
 refine ZFb 15 ?_
 refine ZD ?_
 refine ZB ?_
 refine ZA ?_
 refine Zn (Zt ?_)
 refine wc_cond _ rfl (fun hc9 => ?_) (fun hc9 => ?_)
 ·obtain ⟨hkm, hh, hRk⟩ := pieces_go (q := (s, U, d)) hk hwc hR hc9
  have hbl := block_live hG hh
  have HB := fun w hi h ht => block_ok G.bu G.bb G.L G.D Y s X.Ad X.Ar X.cd X.cr U d (hGn ▸ hG) (by omega) w hi h ht
  rw [hGn] at HB
  obtain ⟨⟨s2, U2, d2⟩, hq⟩ : ∃ q, blockTo N s U d = q := ⟨_, rfl⟩
  dsimp only at hRk
  rw [hq] at HB hbl hRk
  have hb1 := hbl.g
  have hb2 := hbl.out
  dsimp only at hb1 hb2
  refine Zc (Zt (Zs (Zx (wc_draw ⟨fun j => List.elem j [9, 10], []⟩ Zk ?_))))
  refine ZI 0 ?_
  refine ZE 1 ?_
  refine ZE 2 ?_
  refine ZFe 3 0 ?_
  refine ZG 4 ?_
  refine ZE 5 ?_
  refine ZE 6 ?_
  refine ZFe 7 1 ?_
  refine ZG 8 ?_
  refine wa_1 9 Zk ?_
  refine wi_t rfl rfl (t_callS (ubF G.bu G.bb G.L G.D Y U d) rfl (fun _ _ => rfl) Zi (fun w hi hin => HB w hin (fun w' hk => hi.rdStKs Zi (show Has _ (slD s X.Ad X.cd) from Zh) (show Has _ (slR s X.Ar X.cr) from Zh) (by omega) (by omega) hk) (fun w' hk => RdV.oldKs ht hi Zi hk))) (fun _ _ _ _ _ _ _ h => by cases h) rfl ?_
  rintro _ _ ⟨_, ⟨X2, Y2, rfl, rfl⟩, rfl⟩
  refine wa_1 10 Zk ?_
  refine ZR ?_
  refine wa_done Zk ?_
  refine Zo (Zt (Zr (ZA ?_)))
  refine Zy (y_add (Zv rfl) (Zv rfl) Zl) ?_
  refine ZA ?_
  refine Zn ?_
  refine q_midP ((⟨k + 1, s2, X2, Y2, U2, d2⟩ : Nat × St × SAdr × DAdr × Mmu × Dev)) ?_ ?_ ?_
  ·exact ⟨⟨hb1, show k + 1 ≤ m.toNat by omega, show d2.out.length ≤ 8 * (k + 1) by omega, hRk⟩, show m.toNat - (k + 1) < m.toNat - k by omega⟩
  ·exact Zwk
  exact Zj
 have e := pieces_stop (q := (s, U, d)) hk hwc hR hc9
 rw [Prod.mk.injEq, Prod.mk.injEq] at e
 obtain ⟨rfl, rfl, rfl⟩ := e
 refine wc_exit ?_
 refine q_then_exit ?_
 refine q_then_exit ?_
 refine q_block_same rfl ?_
 refine Zt (Zs (wc_draw ⟨fun j => List.elem j [], []⟩ Zk ?_))
 refine ZI 0 ?_
 refine ZI 1 ?_
 refine wa_1 2 Zk ?_
 refine ZT (fun w hi => keepState_ok s s X3.Ad X3.Ar X.Ad X.Ar X3.cd X3.cr X.cd X.cr w (hi.rdSt (show Has _ (slD s X3.Ad X3.cd) from Zh) (show Has _ (slR s X3.Ar X3.cr) from Zh) (by omega) (by omega)) (hi.rdSt (show Has _ (slD s X.Ad X.cd) from Zh) (show Has _ (slR s X.Ar X.cr) from Zh) (by omega) (by omega))) ?_
 rintro _ _ ⟨_, ⟨rfl, rfl⟩, rfl⟩
 rw [St.rsame_self]
 refine ZE 3 ?_
 refine ZF 4 ?_
 refine ZF 5 ?_
 refine ZFf 6 2 ?_
 refine wa_l 7 rfl Zk Zk Zk Zk (guard_yes rfl rfl) (y_load (fun _ => rfl) (ev_g rfl)) (row_cell Zh rfl) rfl ?_
 refine ZF 10 ?_
 refine ZF 11 ?_
 refine ZFf 12 2 ?_
 refine wa_l 13 rfl Zk Zk Zk Zk (guard_yes rfl rfl) (y_load (fun _ => rfl) (ev_g rfl)) (row_cell Zh rfl) rfl ?_
 refine wa_1 8 Zk ?_
 refine wi_tg rfl rfl (guard_yes rfl rfl) rfl (t_call rfl (fun _ _ => rfl) (fun w hi => rall_ok F.L U.m w (hi.get Zh))) (fun _ _ _ _ _ _ _ h => by cases h) rfl ?_
 rintro _ _ ⟨_, ⟨bx, rfl, rfl⟩, rfl⟩
 refine wa_fact (fun w hi => rd_any (hi.rd (show Has _ (sl .u8 5 (some ⟨bx, 0, none⟩) U.m.data.length U.m.data.length U.m.data) from Zh))) (fun hrd83 => ?_)
 refine wa_l 9 rfl Zk Zk Zk Zk (guard_yes rfl rfl) (y_bstr rfl rfl rfl (ev_g rfl) hrd83) (fun w hi => RdV.cellsO (hi.rd (show Has _ (sl .u8 5 (some ⟨bx, 0, none⟩) U.m.data.length U.m.data.length U.m.data) from Zh))) rfl ?_
 refine wa_1 14 Zk ?_
 refine wi_tg rfl rfl (guard_yes rfl rfl) rfl (t_call rfl (fun _ _ => rfl) (fun w hi => rall_ok G.L U.m w (hi.get Zh))) (fun _ _ _ _ _ _ _ h => by cases h) rfl ?_
 rintro _ _ ⟨_, ⟨by_, rfl, rfl⟩, rfl⟩
 refine wa_fact (fun w hi => rd_any (hi.rd (show Has _ (sl .u8 5 (some ⟨by_, 0, none⟩) U.m.data.length U.m.data.length U.m.data) from Zh))) (fun hrd89 => ?_)
 refine wa_l 15 rfl Zk Zk Zk Zk (guard_yes rfl rfl) (y_bstr rfl rfl rfl (ev_g rfl) hrd89) (fun w hi => RdV.cellsO (hi.rd (show Has _ (sl .u8 5 (some ⟨by_, 0, none⟩) U.m.data.length U.m.data.length U.m.data) from Zh))) rfl ?_
 refine wa_y 16 rfl Zk Zk Zk (guard_yes rfl rfl) (y_eqlS rfl (ev_g rfl) (ev_g rfl) (beq_self_eq_true _)) rfl ?_
 refine ZE 17 ?_
 refine ZE 18 ?_
 refine ZF 19 ?_
 refine ZF 20 ?_
 refine ZFf 21 1 ?_
 refine wa_l 22 rfl Zk Zk Zk Zk (guard_yes rfl rfl) (y_load (fun _ => rfl) (ev_g rfl)) (row_cell Zh rfl) rfl ?_
 refine ZF 23 ?_
 refine ZFf 24 2 ?_
 refine wa_l 25 rfl Zk Zk Zk Zk (guard_yes rfl rfl) (y_load (fun _ => rfl) (ev_g rfl)) (row_cell Zh rfl) rfl ?_
 refine ZF 28 ?_
 refine ZF 29 ?_
 refine ZFf 30 1 ?_
 refine wa_l 31 rfl Zk Zk Zk Zk (guard_yes rfl rfl) (y_load (fun _ => rfl) (ev_g rfl)) (row_cell Zh rfl) rfl ?_
 refine ZF 32 ?_
 refine ZFf 33 2 ?_
 refine wa_l 34 rfl Zk Zk Zk Zk (guard_yes rfl rfl) (y_load (fun _ => rfl) (ev_g rfl)) (row_cell Zh rfl) rfl ?_
 refine wa_1 26 Zk ?_
 refine wi_tg rfl rfl (guard_yes rfl rfl) rfl (t_call rfl (fun _ _ => rfl) (fun w hi => conout_ok F.D.bcn Y3.Ao Y3.co d.out Y3.Ai d.inp.length Y3.ci (by omega) w (hi.get Zh) (hi.get Zh))) (fun _ _ _ _ _ _ _ h => by cases h) rfl ?_
 rintro _ _ ⟨_, ⟨A5, c5, rfl, rfl⟩, rfl⟩
 refine wa_fact (fun w hi => rd_any (hi.rd (show Has _ (b8 A5 c5 d.out) from Zh))) (fun hrd101 => ?_)
 refine wa_l 27 rfl Zk Zk Zk Zk (guard_yes rfl rfl) (y_bstr rfl rfl rfl (ev_g rfl) hrd101) (fun w hi => RdV.cellsO (hi.rd (show Has _ (b8 A5 c5 d.out) from Zh))) rfl ?_
 refine wa_1 35 Zk ?_
 refine wi_tg rfl rfl (guard_yes rfl rfl) rfl (t_call rfl (fun _ _ => rfl) (fun w hi => conout_ok G.D.bcn Y.Ao Y.co d.out Y.Ai d.inp.length Y.ci (by omega) w (hi.get Zh) (hi.get Zh))) (fun _ _ _ _ _ _ _ h => by cases h) rfl ?_
 rintro _ _ ⟨_, ⟨A6, c6, rfl, rfl⟩, rfl⟩
 refine wa_fact (fun w hi => rd_any (hi.rd (show Has _ (b8 A6 c6 d.out) from Zh))) (fun hrd110 => ?_)
 refine wa_l 36 rfl Zk Zk Zk Zk (guard_yes rfl rfl) (y_bstr rfl rfl rfl (ev_g rfl) hrd110) (fun w hi => RdV.cellsO (hi.rd (show Has _ (b8 A6 c6 d.out) from Zh))) rfl ?_
 refine wa_y 37 rfl Zk Zk Zk (guard_yes rfl rfl) (y_eqlS rfl (ev_g rfl) (ev_g rfl) (beq_self_eq_true _)) rfl ?_
 refine ZE 38 ?_
 refine ZE 39 ?_
 refine wa_1 40 Zk ?_
 refine wi_tg rfl rfl (guard_yes rfl rfl) rfl (t_call rfl (fun _ _ => rfl) (fun w hi => known18_ok w (ht.old hi))) (fun _ _ _ _ _ _ _ h => by cases h) rfl ?_
 rintro _ _ ⟨_, ⟨rfl, rfl⟩, rfl⟩
 refine ZE 41 ?_
 refine ZE 42 ?_
 refine wa_done Zk ?_
 refine Zt (Ze (ret1 (cs' := []) (.inl rfl) Zu rfl rfl ?_))
 exact ⟨rfl, rfl⟩
end Go.Proofs.YthcpmpmbgbibfaaGreatDoor
