/- The law StepPlain. -/
import Derived.Test.YthcpmpmbgbibfaaGreatSqS
import Derived.Test.YthcpmpmbgbibfaaGreatInkA
import Derived.Test.YthcpmpmbgbibfaaGreatSqT
import Derived.Test.YthcpmpmbgbibfaaGreatInkY
set_option linter.unusedSimpArgs false
set_option linter.unusedVariables false
set_option maxRecDepth 100000
namespace Go.Ink
open Go.RowKit
def plainOp (op : Int) : Bool := decide (0 ≤ op) && decide (op ≤ 8) || decide (16 ≤ op) && decide (op ≤ 25) && op != 24 || decide (32 ≤ op) && decide (op ≤ 40)
def endsOp (op : Int) : Bool := decide (32 ≤ op) && decide (op ≤ 40) || decide (64 ≤ op) && decide (op ≤ 69)
theorem bif_dev {b : Bool} {x y : Run} (hx : x.device = false) (hy : y.device = false) : (bif b then x else y).device = false := by cases b <;> assumption
theorem plain_cases {op : Int} (h : plainOp op = true) : (0 ≤ op ∧ op ≤ 8) ∨ (16 ≤ op ∧ op ≤ 23) ∨ op = 25 ∨ (32 ≤ op ∧ op ≤ 40) := by
 unfold plainOp at h
 by_cases h1 : 0 ≤ op <;> by_cases h2 : op ≤ 8 <;> by_cases h3 : 16 ≤ op <;> by_cases h4 : op ≤ 25 <;> by_cases h5 : op = 24 <;> by_cases h6 : 32 ≤ op <;> by_cases h7 : op ≤ 40 <;> simp [h1, h2, h3, h4, h5, h6, h7] at h <;> omega
section
variable {n : Nat} {op nn : Int} {s : St} {U : Mmu} {d : Dev}
theorem plain_mid (h : plainOp op = true) : ∃ R : Run, R.device = false ∧ midTo n s op nn U d = ⟨R, U, d⟩ ∧ midN s op nn = R := by
 have hc : op = 0 ∨ op = 1 ∨ op = 2 ∨ op = 3 ∨ op = 4 ∨ op = 5 ∨ op = 6 ∨ op = 7 ∨ op = 8 ∨ op = 16 ∨ op = 17 ∨ op = 18 ∨ op = 19 ∨ op = 20 ∨ op = 21 ∨ op = 22 ∨ op = 23 ∨ op = 25 ∨ op = 32 ∨ op = 33 ∨ op = 34 ∨ op = 35 ∨ op = 36 ∨ op = 37 ∨ op = 38 ∨ op = 39 ∨ op = 40 := by
  rcases plain_cases h with h | h | h | h <;> omega
 rcases hc with rfl | rfl | rfl | rfl | rfl | rfl | rfl | rfl | rfl | rfl | rfl | rfl | rfl | rfl | rfl | rfl | rfl | rfl | rfl | rfl | rfl | rfl | rfl | rfl | rfl | rfl | rfl <;>
  first
  | exact ⟨_, rfl, rfl, rfl⟩
  | exact ⟨_, bif_dev rfl rfl, rfl, rfl⟩
  | (refine ⟨_, ?_, rfl, rfl⟩; exact bif_dev (b := (arDo _ (run0 s _).pop.top (run0 s _).top).2.2) (x := (run0 s _).pop.pop) (y := (run0 s _).pop.pop.wt ⟨5, 0⟩) rfl rfl)
theorem plain_do (h : plainOp op = true) (hr : s.right = true) : doTo n s op nn U d = (doN s op nn, ⟨U.m.calm, U.t⟩, d) ∧ (doN s op nn).device = false ∧ (doN s op nn).pages = [] := by
 obtain ⟨R, h1, h2, h3⟩ := plain_mid (n := n) (s := s) (nn := nn) (U := ⟨U.m.calm, U.t⟩) (d := d) h
 unfold doTo doN
 rw [hr, h2, h3]
 simp only [Bool.not_true, cond_false]
 cases (checkOf s op nn != 0) with
 | true => exact ⟨rfl, rfl, rfl⟩
 | false =>
  simp only [cond_false]
  have e : endTo s ⟨R, ⟨U.m.calm, U.t⟩, d⟩ = endN s R := by
   unfold endTo endN
   rw [show trues U.m.calm.turned 64 = [] from trues_calm]
  rw [e]
  unfold endN
  cases (R.trap.cause != 0) with
  | true => exact ⟨rfl, h1, rfl⟩
  | false => exact ⟨rfl, h1, rfl⟩
end
end Go.Ink
namespace Go.Proofs.YthcpmpmbgbibfaaGreat
open Go.RowKit Go.Ink
attribute [local irreducible] OpY GuardIs
theorem refplain_ok (op : Int) (w : World) : Ctr Tryz.prog 21 [.int .i64 op] w [] (fun v cs => v = .bool (plainOp op) ∧ cs = []) := by
 refine fn_ctr Tryz.func21 rfl Tryz.ntmps21 rfl (Inv.start w) ?_
 refine Zs (Zr (ZA ?_))
 refine Zn (Zt (Zs (Zr (ZA ?_))))
 iterate 2 refine ZA ?_
 iterate 2 refine ZB ?_
 iterate 2 refine ZA ?_
 iterate 10 refine ZB ?_
 iterate 2 refine ZA ?_
 iterate 6 refine ZB ?_
 iterate 2 refine ZA ?_
 refine Zn (Zt (Ze (ret1 (cs' := []) (.inl rfl) Zu rfl rfl ?_)))
 exact ⟨rfl, rfl⟩
theorem refends_ok (op : Int) (w : World) : Ctr Tryz.prog 22 [.int .i64 op] w [] (fun v cs => v = .bool (endsOp op) ∧ cs = []) := by
 refine fn_ctr Tryz.func22 rfl Tryz.ntmps22 rfl (Inv.start w) ?_
 refine Zs (Zr (ZA ?_))
 refine Zn (Zt (Zs (Zr (ZA ?_))))
 iterate 2 refine ZA ?_
 iterate 2 refine ZB ?_
 iterate 2 refine ZA ?_
 iterate 6 refine ZB ?_
 iterate 2 refine ZA ?_
 refine Zn (Zt (Ze (ret1 (cs' := []) (.inl rfl) Zu rfl rfl ?_)))
 exact ⟨rfl, rfl⟩
set_option maxHeartbeats 1000000 in
theorem keepplain_ok (n v : Int) (ends : Bool) (hv : u32 v) (w : World) : Ctr Tryz.prog 7 [.int .i64 n, .int .u32 v, .bool ends] w [] (fun x cs => (∃ op nn, x = .agg #[.int .i64 op, .int .u32 nn] ∧ u32 nn ∧ plainOp op = true) ∧ cs = []) := by
 obtain ⟨x, hx⟩ : ∃ x, within n 0 1073741824 = x := ⟨_, rfl⟩
 have hxr := within_rng n 0 1073741824 (by decide)
 rw [hx] at hxr
 have HW := fun w => within_e hx w (by decide) (by decide) (by decide)
 refine fn_ctr Tryz.func7 rfl Tryz.ntmps7 rfl (Inv.start w) ?_
 refine Zs (Zr (ZN fun b6 => ?_))
 refine Zn (Zt (Zs (Zs (Zr (ZA ?_)))))
 refine Zn (Zt (Zx ?_))
 refine wc_loop (fun k : Nat => [(0, .int .i64 n), (1, .int .u32 v), (2, .bool ends), (6, .pointer (some ⟨b6, 0, none⟩)), (7, .int .i64 (k : Int))]) (fun _ => [row b6 [.int .i64 0, .int .u32 0] 33]) (fun k => k ≤ 50) (fun k => 60 - k) (0) ?_ ?_ ?_ ?_
 ·exact Nat.zero_le _
 ·exact Zwk
 ·((repeat (first | exact List.Sublist.slnil | refine List.Sublist.cons_cons _ ?_ | refine List.Sublist.cons _ ?_)))
 rintro k hk
 have hk : k ≤ 50 := hk
 refine Zs (Zs (Zr (ZA ?_)))
 refine ZA ?_
 refine Zn (Zt ?_)
 refine wc_cond _ rfl (fun hc2 => ?_) (fun hc2 => ?_)
 ·simp only [decide_eq_true_eq] at hc2
  refine Zc (Zt (Zs (Zx (Zs (Zr (ZA ?_))))))
  refine ZS (fun w hi => HW w) ?_
  rintro _ _ ⟨_, ⟨rfl, rfl⟩, rfl⟩
  refine ZA ?_
  refine Zy (y_add (Zv rfl) (Zv rfl) Zl) ?_
  refine ZA ?_
  refine ZS (fun w hi => instr_ok _ v hv w) ?_
  rintro _ _ ⟨_, ⟨⟨op, nn, rfl, hnu, -⟩, rfl⟩, rfl⟩
  refine ZN fun b8 => ?_
  refine ZM ?_
  refine Zn (Zt (Zs (Zr (ZFa 0 ?_))))
  refine ZC ?_
  refine ZS (fun w hi => refplain_ok op w) ?_
  rintro _ _ ⟨_, ⟨rfl, rfl⟩, rfl⟩
  refine ZA ?_
  refine ZFb 0 ?_
  refine ZD ?_
  refine wl_callg (guard_yes rfl rfl) (.cons (ev_g rfl) .nil) (fun _ _ => rfl) (fun hg w hi => refends_ok op w) rfl ?_
  iterate 2 refine ZB ?_
  refine ZA ?_
  refine Zn (Zt ?_)
  refine wc_cond _ rfl (fun hc5 => ?_) (fun hc5 => ?_)
  ·have hp : plainOp op = true := (by cases hq : plainOp op with | true => rfl | false => (rw [hq] at hc5; cases hc5))
   refine Zs (Zr (wl_loadRow Zh (fun _ => rfl) (fun _ => rfl) (Zv rfl) rfl ?_))
   refine ZM ?_
   refine Zn (Zt (Ze (Zq (Zw (Zw (Zq (Zw (retC (cs' := []) (.inl rfl) Zu rfl rfl Zh (fun _ => rfl) (fun _ => rfl) ?_))))))))
   exact ⟨⟨op, nn, rfl, hnu, hp⟩, rfl⟩
  refine Zc (Zo (Zt (Zr (ZA ?_))))
  refine Zy (y_add (Zv rfl) (Zv rfl) Zl) ?_
  refine ZA ?_
  refine Zn ?_
  refine q_mid (k + 1) ?_ ?_ ?_
  ·exact ⟨show k + 1 ≤ 50 by omega, show 60 - (k + 1) < 60 - k by omega⟩
  ·exact Zwk
  ((repeat (first | exact List.Sublist.slnil | refine List.Sublist.cons_cons _ ?_ | refine List.Sublist.cons _ ?_)))
 refine wc_exit ?_
 refine q_then_exit ?_
 refine q_then_exit ?_
 refine q_block_same rfl ?_
 refine Zt (Zs (Zr (ZA ?_)))
 refine ZM ?_
 refine Zn (Zt (Ze (retC (cs' := []) (.inl rfl) Zu rfl rfl Zh (fun _ => rfl) (fun _ => rfl) ?_)))
 exact ⟨⟨0, 0, rfl, u0, rfl⟩, rfl⟩
abbrev wlR (F : FLoc) : List Value := [.pointer (some ⟨F.bu, 0, none⟩), .pointer (some ⟨F.D.bs, 0, none⟩), .pointer (some ⟨F.L.bm, 0, none⟩), .pointer (some ⟨F.bx, 0, none⟩), .pointer (some ⟨F.by_, 0, none⟩)]
abbrev zRes : List Value := St.zero.cells (.slice none 0 0) (.slice none 0 0) ++ [.bool false, .bool false, .slice none 0 0]
abbrev plR : List PA := [⟨25, 14, zRes, 37⟩, ⟨26, 15, zRes, 37⟩, ⟨27, 16, zRes, 37⟩]
set_option maxHeartbeats 8000000 in
theorem stepPlain_ok (s : St) (hs : s.wf) (Ad Ar B : Option Addr) (cd cr cb : Nat) (b : List Int) (hb : u8s b) (n v : Int) (hv : u32 v) (ends : Bool) (w : World) (h : RdSt w s Ad Ar cd cr) (hB : Rd w .u8 B b.length cb b) :
  Ctr Tryz.prog 3 [sv s Ad cd Ar cr, .slice B b.length cb, .int .i64 n, .int .u32 v, .bool ends] w [] (fun v cs => v = .bool true ∧ cs = []) := by
 have hnil : u8s [] := fun x hx => by cases hx
 have hb1 := u8s_take hb 256
 have hbl : (b.take 256).length ≤ 256 := by rw [List.length_take]; omega
 have hB1 := rd_take hB 256
 have HCut := fun w => cut_ok B cb b 256 w hB.cap
 obtain ⟨bb, hbb⟩ : ∃ bb, b.take 256 = bb := ⟨_, rfl⟩
 rw [hbb] at hb1 hbl hB1 HCut
 have HF := fun w h => fresh_ok B none cb 0 4 bb [] (by decide) (by decide) hbl hb1 (by decide) w h (rdNil w .u8)
 have HG := fun w => fresh_ok none none 0 0 1 [] [] (by decide) (by decide) (by decide) hnil (by decide) w (rdNil w .u8) (rdNil w .u8)
 have HT := trim_ok s hs Ad Ar cd cr
 have htw := St.tr_wf hs
 have htr := St.tr_right (s := s)
 obtain ⟨t, ht⟩ : ∃ t, s.trim = t := ⟨_, rfl⟩
 rw [ht] at HT htw htr
 obtain ⟨hd16, hr16, hf15⟩ := St.fits htr
 have hU0 : UOk 4 ⟨Mem.init 4 bb, tflush⟩ := ⟨init_ok hbl hb1, tflush_len⟩
 have hV0 : UOk 1 ⟨Mem.init 1 [], tflush⟩ := ⟨init_ok (by decide) hnil, tflush_len⟩
 have hd0 := Dev.init_ok (l := []) (by decide) hnil
 have ho0 : (Dev.init []).out.length ≤ 0 := by decide
 have hrd : refData 4 bb = (Mem.init 4 bb).data := rfl
 rw [hrd] at HF
 obtain ⟨M, hM⟩ : ∃ M, Mem.init 4 bb = M := ⟨_, rfl⟩
 obtain ⟨N, hN⟩ : ∃ M, Mem.init 1 [] = M := ⟨_, rfl⟩
 obtain ⟨d0, hdd⟩ : ∃ d, Dev.init [] = d := ⟨_, rfl⟩
 obtain ⟨T0, hTT⟩ : ∃ T, tflush = T := ⟨_, rfl⟩
 obtain ⟨tu, htu⟩ : ∃ T, List.replicate 4 false = T := ⟨_, rfl⟩
 rw [hM, hTT, hdd, htu] at HF
 rw [hN, hTT, hdd] at HG
 rw [hM, hTT] at hU0
 rw [hN, hTT] at hV0
 rw [hdd] at hd0 ho0
 have hU1 : UOk 4 ⟨M.calm, T0⟩ := ⟨hU0.m.calm, hU0.t⟩
 refine fn_ctr Tryz.func3 rfl Tryz.ntmps3 rfl (Inv.start w) ?_
 refine Zs (Zr (ZO fun b5 => ?_))
 refine ZA ?_
 refine Zn (Zt (Zs (Zr (ZA ?_))))
 refine ZS (fun w hi => HCut w) ?_
 rintro _ _ ⟨_, ⟨rfl, rfl⟩, rfl⟩
 refine ZS (fun w hi => HF w (hB1.oldN hi)) ?_
 rintro _ _ ⟨_, ⟨F, hF, rfl, rfl⟩, rfl⟩
 refine ZS (fun w hi => HG w) ?_
 rintro _ _ ⟨_, ⟨F2, hF2, rfl, rfl⟩, rfl⟩
 iterate 2 refine ZA ?_
 refine Zn (Zt (Zs (Zs (Zr (ZA ?_)))))
 iterate 2 refine ZA ?_
 iterate 2 refine ZB ?_
 refine ZA ?_
 refine Zn (Zt (wc_cond_f rfl (rfl) ?_))
 refine Zc (Zt (Zs (Zr (wl_loadRow Zh (fun _ => rfl) (fun _ => rfl) (Zv rfl) rfl ?_))))
 refine ZS (fun w hi => HT w (h.oldN hi)) ?_
 rintro _ _ ⟨_, ⟨A1, c1, A2, c2, rfl, rfl⟩, rfl⟩
 refine ZM ?_
 refine Zn (Zt (Zs (Zr (ZA ?_))))
 iterate 2 refine ZA ?_
 refine ZS (fun w hi => keepplain_ok n v ends hv w) ?_
 rintro _ _ ⟨_, ⟨⟨op, nn, rfl, hnu, hpl⟩, rfl⟩, rfl⟩
 have HD1 := fun w hin h => do_ok F.bu F.bb F.L F.D ⟨none, 0, none, 0⟩ t A1 A2 c1 c2 op nn ⟨M, T0⟩ d0 htw hnu hU0.t hd0.wf (by omega) w hin h
 have HD2 := fun w hin h => do_ok F2.bu F2.bb F2.L F2.D ⟨none, 0, none, 0⟩ t A1 A2 c1 c2 op nn ⟨N, T0⟩ d0 htw hnu hV0.t hd0.wf (by omega) w hin h
 have HD3 := doN_ok t A1 A2 c1 c2 op nn htw hnu
 have hG := do_goes (op := op) (nn := nn) htw htr hnu hU0 hd0
 rw [hF, (plain_do hpl htr).1] at HD1
 rw [hF2, (plain_do hpl htr).1] at HD2
 rw [(plain_do hpl htr).1] at hG
 have hdev := (plain_do (n := 4) (nn := nn) (U := ⟨M, T0⟩) (d := d0) hpl htr).2
 obtain ⟨q, hq⟩ : ∃ q, doN t op nn = q := ⟨_, rfl⟩
 rw [hq] at HD1 HD2 HD3 hG hdev
 obtain ⟨g1, g2, -⟩ := hG
 obtain ⟨e16, f16, -⟩ := St.fits g2
 have HQ := fun A B C D c1 c2 c3 c4 w h h2 => rSame_ok q.s q.s A B C D c1 c2 c3 c4 w h h2
 rw [St.rsame_self] at HQ
 obtain ⟨⟨pc', d2, r2, fl', su', pg', ie', rt', ve', ep', ca', ad', es', ei', co', ha'⟩, tr', dv', pgs'⟩ := q
 obtain ⟨rfl, rfl⟩ := hdev
 have e16 : d2.length ≤ 16 := e16
 have f16 : r2.length ≤ 16 := f16
 refine ZN fun b13 => ?_
 refine ZM ?_
 refine Zn (Zt ?_)
 refine wc_seq_mid (fun q : (SAdr × DAdr × Nat × (Option Addr × Nat)) × (SAdr × Nat × (Option Addr × Nat)) × (SAdr × Nat × (Option Addr × Nat)) => [(11, .pointer (some ⟨F.bw, 0, none⟩)), (14, .pointer (some ⟨q.1.2.2.1, 0, none⟩)), (15, .pointer (some ⟨q.2.1.2.1, 0, none⟩)), (16, .pointer (some ⟨q.2.2.2.1, 0, none⟩))]) (fun q => worldRow F :: (ubF F.bu F.bb F.L F.D q.1.2.1 ⟨M.calm, T0⟩ d0 ++ worldR F ⟨none, 0, none, 0⟩ M.data tu T0 d0) ++ (row q.1.2.2.1 (resCells ⟨⟨pc', d2, r2, fl', su', pg', ie', rt', ve', ep', ca', ad', es', ei', co', ha'⟩, tr', false, []⟩ q.1.1 q.1.2.2.2.1 q.1.2.2.2.2) 37 :: resF ⟨⟨pc', d2, r2, fl', su', pg', ie', rt', ve', ep', ca', ad', es', ei', co', ha'⟩, tr', false, []⟩ q.1.1 q.1.2.2.2.1 q.1.2.2.2.2) ++ (row q.2.1.2.1 (resCells ⟨⟨pc', d2, r2, fl', su', pg', ie', rt', ve', ep', ca', ad', es', ei', co', ha'⟩, tr', false, []⟩ q.2.1.1 q.2.1.2.2.1 q.2.1.2.2.2) 37 :: resF ⟨⟨pc', d2, r2, fl', su', pg', ie', rt', ve', ep', ca', ad', es', ei', co', ha'⟩, tr', false, []⟩ q.2.1.1 q.2.1.2.2.1 q.2.1.2.2.2) ++ (row q.2.2.2.1 (resCells ⟨⟨pc', d2, r2, fl', su', pg', ie', rt', ve', ep', ca', ad', es', ei', co', ha'⟩, tr', false, []⟩ q.2.2.1 q.2.2.2.2.1 q.2.2.2.2.2) 37 :: resF ⟨⟨pc', d2, r2, fl', su', pg', ie', rt', ve', ep', ca', ad', es', ei', co', ha'⟩, tr', false, []⟩ q.2.2.1 q.2.2.2.2.1 q.2.2.2.2.2)) (fun q => True) ?_ ?_
 ·refine wc_draw ⟨fun j => List.elem j [10, 21, 24, 28, 29, 30], rowL b5 (t.cells (.slice A1 t.d.length c1) (.slice A2 t.r.length c2)) ++ (rowL b13 [.int .i64 op, .int .u32 nn] ++ (rowL F.bw (wlR F) ++ rowL F2.bw (wlR F2)))⟩ Zk ?_
  refine wa_lkV 0 rfl Zk Zk Zk (y_loadN (vs := t.cells (.slice A1 t.d.length c1) (.slice A2 t.r.length c2)) (fun _ => rfl) (fun _ => rfl) (Zv rfl)) (fun x hx => List.mem_append_left _ (cellsFrom_rowL x hx)) (cells_append (rowL_cells (t := 26) Zh) (cells_append (rowL_cells (t := 33) Zh) (cells_append (rowL_cells (t := 45) Zh) (rowL_cells (t := 45) Zh)))) rfl ?_
  refine wa_lkV 1 rfl Zk Zk Zk (y_loadN (vs := [.int .i64 op, .int .u32 nn]) (fun _ => rfl) (fun _ => rfl) (Zv rfl)) (fun x hx => List.mem_append_right _ (List.mem_append_left _ (cellsFrom_rowL x hx))) (cells_append (rowL_cells (t := 26) Zh) (cells_append (rowL_cells (t := 33) Zh) (cells_append (rowL_cells (t := 45) Zh) (rowL_cells (t := 45) Zh)))) rfl ?_
  refine ZE 2 ?_
  refine ZE 3 ?_
  refine ZFe 4 0 ?_
  refine wa_lkn 5 rfl Zk Zk Zk (y_load (fun _ => rfl) (Zv rfl)) (by first | exact rowL_mem rfl | exact List.mem_append_left _ (rowL_mem rfl) | exact List.mem_append_right _ (rowL_mem rfl) | exact List.mem_append_right _ (List.mem_append_right _ (List.mem_append_left _ (rowL_mem rfl))) | exact List.mem_append_right _ (List.mem_append_right _ (List.mem_append_right _ (rowL_mem rfl)))) (cells_append (rowL_cells (t := 26) Zh) (cells_append (rowL_cells (t := 33) Zh) (cells_append (rowL_cells (t := 45) Zh) (rowL_cells (t := 45) Zh)))) rfl ?_
  refine ZE 6 ?_
  refine ZE 7 ?_
  refine ZFe 8 1 ?_
  refine wa_lkn 9 rfl Zk Zk Zk (y_load (fun _ => rfl) (Zv rfl)) (by first | exact rowL_mem rfl | exact List.mem_append_left _ (rowL_mem rfl) | exact List.mem_append_right _ (rowL_mem rfl) | exact List.mem_append_right _ (List.mem_append_right _ (List.mem_append_left _ (rowL_mem rfl))) | exact List.mem_append_right _ (List.mem_append_right _ (List.mem_append_right _ (rowL_mem rfl)))) (cells_append (rowL_cells (t := 26) Zh) (cells_append (rowL_cells (t := 33) Zh) (cells_append (rowL_cells (t := 45) Zh) (rowL_cells (t := 45) Zh)))) rfl ?_
  refine wa_lkV 11 rfl Zk Zk Zk (y_loadN (vs := t.cells (.slice A1 t.d.length c1) (.slice A2 t.r.length c2)) (fun _ => rfl) (fun _ => rfl) (Zv rfl)) (fun x hx => List.mem_append_left _ (cellsFrom_rowL x hx)) (cells_append (rowL_cells (t := 26) Zh) (cells_append (rowL_cells (t := 33) Zh) (cells_append (rowL_cells (t := 45) Zh) (rowL_cells (t := 45) Zh)))) rfl ?_
  refine wa_lkV 12 rfl Zk Zk Zk (y_loadN (vs := [.int .i64 op, .int .u32 nn]) (fun _ => rfl) (fun _ => rfl) (Zv rfl)) (fun x hx => List.mem_append_right _ (List.mem_append_left _ (cellsFrom_rowL x hx))) (cells_append (rowL_cells (t := 26) Zh) (cells_append (rowL_cells (t := 33) Zh) (cells_append (rowL_cells (t := 45) Zh) (rowL_cells (t := 45) Zh)))) rfl ?_
  refine ZE 13 ?_
  refine ZE 14 ?_
  refine ZFe 15 0 ?_
  refine wa_lkn 16 rfl Zk Zk Zk (y_load (fun _ => rfl) (Zv rfl)) (by first | exact rowL_mem rfl | exact List.mem_append_left _ (rowL_mem rfl) | exact List.mem_append_right _ (rowL_mem rfl) | exact List.mem_append_right _ (List.mem_append_right _ (List.mem_append_left _ (rowL_mem rfl))) | exact List.mem_append_right _ (List.mem_append_right _ (List.mem_append_right _ (rowL_mem rfl)))) (cells_append (rowL_cells (t := 26) Zh) (cells_append (rowL_cells (t := 33) Zh) (cells_append (rowL_cells (t := 45) Zh) (rowL_cells (t := 45) Zh)))) rfl ?_
  refine ZE 17 ?_
  refine ZE 18 ?_
  refine ZFe 19 1 ?_
  refine wa_lkn 20 rfl Zk Zk Zk (y_load (fun _ => rfl) (Zv rfl)) (by first | exact rowL_mem rfl | exact List.mem_append_left _ (rowL_mem rfl) | exact List.mem_append_right _ (rowL_mem rfl) | exact List.mem_append_right _ (List.mem_append_right _ (List.mem_append_left _ (rowL_mem rfl))) | exact List.mem_append_right _ (List.mem_append_right _ (List.mem_append_right _ (rowL_mem rfl)))) (cells_append (rowL_cells (t := 26) Zh) (cells_append (rowL_cells (t := 33) Zh) (cells_append (rowL_cells (t := 45) Zh) (rowL_cells (t := 45) Zh)))) rfl ?_
  refine wa_lkV 22 rfl Zk Zk Zk (y_loadN (vs := t.cells (.slice A1 t.d.length c1) (.slice A2 t.r.length c2)) (fun _ => rfl) (fun _ => rfl) (Zv rfl)) (fun x hx => List.mem_append_left _ (cellsFrom_rowL x hx)) (cells_append (rowL_cells (t := 26) Zh) (cells_append (rowL_cells (t := 33) Zh) (cells_append (rowL_cells (t := 45) Zh) (rowL_cells (t := 45) Zh)))) rfl ?_
  refine wa_lkV 23 rfl Zk Zk Zk (y_loadN (vs := [.int .i64 op, .int .u32 nn]) (fun _ => rfl) (fun _ => rfl) (Zv rfl)) (fun x hx => List.mem_append_right _ (List.mem_append_left _ (cellsFrom_rowL x hx))) (cells_append (rowL_cells (t := 26) Zh) (cells_append (rowL_cells (t := 33) Zh) (cells_append (rowL_cells (t := 45) Zh) (rowL_cells (t := 45) Zh)))) rfl ?_
  refine wp_start (fuel := 6) plR ?_
  refine wp_op (fuel := 5) 10 (PLok.of (all3 (pa_ok rfl rfl rfl (fun _ => rfl) rfl) (pa_ok rfl rfl rfl (fun _ => rfl) rfl) (pa_ok rfl rfl rfl (fun _ => rfl) rfl)) rfl (by decide) Zk) rfl rfl rfl Zk Zk Zk (t_callSX (ubF F.bu F.bb F.L F.D ⟨none, 0, none, 0⟩ ⟨M, T0⟩ d0) (fun _ => rfl) (fun _ _ => rfl) Zi (fun w ec hi hin => HD1 w hin (fun w' hk => hi.rdStKs Zi (show Has _ (slD t A1 c1) from Zh) (show Has _ (slR t A2 c2) from Zh) (by omega) (by omega) hk))) (fun _ => by rintro _ _ ec ⟨_, ⟨X1, Y1, Ap, cp, rfl, rfl⟩, rfl⟩; exact cells_append (rowL_cells (t := 26) Zh) (cells_append (rowL_cells (t := 33) Zh) (cells_append (rowL_cells (t := 45) Zh) (rowL_cells (t := 45) Zh)))) ?_
  rintro _ _ ⟨_, ⟨X1, Y1, Ap, cp, rfl, rfl⟩, rfl⟩
  refine wp_op (fuel := 4) 21 (PLok.of (all3 (pa_ok rfl rfl rfl (fun _ => rfl) rfl) (pa_ok rfl rfl rfl (fun _ => rfl) rfl) (pa_ok rfl rfl rfl (fun _ => rfl) rfl)) rfl (by decide) Zk) rfl rfl rfl Zk Zk Zk (t_callSX (ubF F2.bu F2.bb F2.L F2.D ⟨none, 0, none, 0⟩ ⟨N, T0⟩ d0) (fun _ => rfl) (fun _ _ => rfl) Zi (fun w ec hi hin => HD2 w hin (fun w' hk => hi.rdStKs Zi (show Has _ (slD t A1 c1) from Zh) (show Has _ (slR t A2 c2) from Zh) (by omega) (by omega) hk))) (fun _ => by rintro _ _ ec ⟨_, ⟨X2, Y2, Aq, cq, rfl, rfl⟩, rfl⟩; exact cells_append (rowL_cells (t := 26) Zh) (cells_append (rowL_cells (t := 33) Zh) (cells_append (rowL_cells (t := 45) Zh) (rowL_cells (t := 45) Zh)))) ?_
  rintro _ _ ⟨_, ⟨X2, Y2, Aq, cq, rfl, rfl⟩, rfl⟩
  refine wp_op (fuel := 3) 24 (PLok.of (all3 (pa_ok rfl rfl rfl (fun _ => rfl) rfl) (pa_ok rfl rfl rfl (fun _ => rfl) rfl) (pa_ok rfl rfl rfl (fun _ => rfl) rfl)) rfl (by decide) Zk) rfl rfl rfl Zk Zk Zk (t_callX (fun _ => rfl) (fun _ _ => rfl) (fun w ec hi => HD3 w (hi.rdSt (show Has _ (slD t A1 c1) from Zh) (show Has _ (slR t A2 c2) from Zh) (by omega) (by omega)))) (fun _ => by rintro _ _ ec ⟨_, ⟨X3, Ar3, cr3, rfl, rfl⟩, rfl⟩; exact cells_append (rowL_cells (t := 26) Zh) (cells_append (rowL_cells (t := 33) Zh) (cells_append (rowL_cells (t := 45) Zh) (rowL_cells (t := 45) Zh)))) ?_
  rintro _ _ ⟨_, ⟨X3, Ar3, cr3, rfl, rfl⟩, rfl⟩
  refine wp_end (PLok.of (all3 (pa_ok rfl rfl rfl (fun _ => rfl) rfl) (pa_ok rfl rfl rfl (fun _ => rfl) rfl) (pa_ok rfl rfl rfl (fun _ => rfl) rfl)) rfl (by decide) Zk) Zk ?_
  intro D hD
  obtain ⟨b14, b15, b16, rfl⟩ := pl_three hD
  refine wa_1 28 Zk ?_
  refine wi_t0 rfl rfl (t_storeN (fun _ => rfl) rfl rfl (allT rfl) Za (by exact rfl)) (fun _ => by rintro _ _ ⟨rfl, rfl⟩; exact cells_append (rowL_cells (t := 26) Zh) (cells_append (rowL_cells (t := 33) Zh) (cells_append (rowL_cells (t := 45) Zh) (rowL_cells (t := 45) Zh)))) ?_
  rintro _ _ ⟨rfl, rfl⟩
  refine wa_1 29 Zk ?_
  refine wi_t0 rfl rfl (t_storeN (fun _ => rfl) rfl rfl (allT rfl) Za (by exact rfl)) (fun _ => by rintro _ _ ⟨rfl, rfl⟩; exact cells_append (rowL_cells (t := 26) Zh) (cells_append (rowL_cells (t := 33) Zh) (cells_append (rowL_cells (t := 45) Zh) (rowL_cells (t := 45) Zh)))) ?_
  rintro _ _ ⟨rfl, rfl⟩
  refine wa_1 30 Zk ?_
  refine wi_t0 rfl rfl (t_storeN (fun _ => rfl) rfl rfl (allT rfl) Za (by exact rfl)) (fun _ => by rintro _ _ ⟨rfl, rfl⟩; exact cells_append (rowL_cells (t := 26) Zh) (cells_append (rowL_cells (t := 33) Zh) (cells_append (rowL_cells (t := 45) Zh) (rowL_cells (t := 45) Zh)))) ?_
  rintro _ _ ⟨rfl, rfl⟩
  refine wa_done Zk ?_
  refine q_midP ((⟨⟨X1, Y1, b14, ⟨Ap, cp⟩⟩, ⟨X2, b15, ⟨Aq, cq⟩⟩, ⟨X3, b16, ⟨Ar3, cr3⟩⟩⟩ : (SAdr × DAdr × Nat × (Option Addr × Nat)) × (SAdr × Nat × (Option Addr × Nat)) × (SAdr × Nat × (Option Addr × Nat)))) ?_ ?_ ?_
  ·trivial
  ·exact Zwk
  exact Zj
 rintro ⟨⟨⟨A3, c3, A4, c4⟩, Y1, b14, ⟨Ap, cp⟩⟩, ⟨⟨A5, c5, A6, c6⟩, b15, ⟨Aq, cq⟩⟩, ⟨⟨A7, c7, A8, c8⟩, b16, ⟨Ar3, cr3⟩⟩⟩ -
 dsimp only
 have HA := fun w hin => alike_ok F Y1 ⟨none, 0, none, 0⟩ ⟨M.calm, T0⟩ tu d0 (hF ▸ hU1) (by omega) hd0 (by omega) w hin
 refine Zs (Zr (ZFa 0 ?_))
 refine wl_y (y_loadN (vs := St.cells ⟨pc', d2, r2, fl', su', pg', ie', rt', ve', ep', ca', ad', es', ei', co', ha'⟩ (.slice A3 d2.length c3) (.slice A4 r2.length c4)) (fun _ => rfl) (fun _ => rfl) (Zv rfl)) (row_cells Zh rfl) rfl ?_
 refine ZFa 0 ?_
 refine wl_y (y_loadN (vs := St.cells ⟨pc', d2, r2, fl', su', pg', ie', rt', ve', ep', ca', ad', es', ei', co', ha'⟩ (.slice A5 d2.length c5) (.slice A6 r2.length c6)) (fun _ => rfl) (fun _ => rfl) (Zv rfl)) (row_cells Zh rfl) rfl ?_
 refine ZS (fun w hi => HQ A3 A4 A5 A6 c3 c4 c5 c6 w (hi.rdSt (show Has _ (sl .u32 22 A3 d2.length c3 d2) from Zh) (show Has _ (sl .u32 22 A4 r2.length c4 r2) from Zh) (show d2.length * 4 ≤ _ by omega) (show r2.length * 4 ≤ _ by omega)) (hi.rdSt (show Has _ (sl .u32 22 A5 d2.length c5 d2) from Zh) (show Has _ (sl .u32 22 A6 r2.length c6 r2) from Zh) (show d2.length * 4 ≤ _ by omega) (show r2.length * 4 ≤ _ by omega))) ?_
 rintro _ _ ⟨_, ⟨rfl, rfl⟩, rfl⟩
 refine ZA ?_
 refine ZFb 0 ?_
 refine wl_yg (guard_yes rfl rfl) (y_loadN (vs := St.cells ⟨pc', d2, r2, fl', su', pg', ie', rt', ve', ep', ca', ad', es', ei', co', ha'⟩ (.slice A3 d2.length c3) (.slice A4 r2.length c4)) (fun _ => rfl) (fun _ => rfl) (ev_g rfl)) (row_cells Zh rfl) rfl ?_
 refine ZFb 0 ?_
 refine wl_yg (guard_yes rfl rfl) (y_loadN (vs := St.cells ⟨pc', d2, r2, fl', su', pg', ie', rt', ve', ep', ca', ad', es', ei', co', ha'⟩ (.slice A7 d2.length c7) (.slice A8 r2.length c8)) (fun _ => rfl) (fun _ => rfl) (ev_g rfl)) (row_cells Zh rfl) rfl ?_
 refine wl_tg (guard_yes rfl rfl) rfl (t_call rfl (fun _ _ => rfl) (fun w hi => HQ A3 A4 A7 A8 c3 c4 c7 c8 w (hi.rdSt (show Has _ (sl .u32 22 A3 d2.length c3 d2) from Zh) (show Has _ (sl .u32 22 A4 r2.length c4 r2) from Zh) (show d2.length * 4 ≤ _ by omega) (show r2.length * 4 ≤ _ by omega)) (hi.rdSt (show Has _ (sl .u32 22 A7 d2.length c7 d2) from Zh) (show Has _ (sl .u32 22 A8 r2.length c8 r2) from Zh) (show d2.length * 4 ≤ _ by omega) (show r2.length * 4 ≤ _ by omega)))) rfl ?_
 rintro _ _ ⟨_, ⟨rfl, rfl⟩, rfl⟩
 iterate 2 refine ZA ?_
 refine ZFb 16 ?_
 refine ZD ?_
 refine ZFb 16 ?_
 refine ZD ?_
 refine Zyy rfl rfl (y_eqlb rfl (ev_g rfl) (ev_g rfl) (beq_self_eq_true tr')) ?_
 iterate 2 refine ZA ?_
 refine ZFb 16 ?_
 refine ZD ?_
 refine ZFb 16 ?_
 refine ZD ?_
 refine Zyy rfl rfl (y_eqlb rfl (ev_g rfl) (ev_g rfl) (beq_self_eq_true tr')) ?_
 iterate 2 refine ZA ?_
 refine ZFb 17 ?_
 refine ZD ?_
 refine ZB ?_
 iterate 2 refine ZA ?_
 refine ZFb 18 ?_
 refine ZD ?_
 iterate 2 refine ZB ?_
 iterate 2 refine ZA ?_
 refine ZB ?_
 refine wl_tg (guard_yes rfl rfl) rfl (t_callS (bothF F Y1 ⟨none, 0, none, 0⟩ ⟨M.calm, T0⟩ tu d0) rfl (fun _ _ => rfl) Zi (fun w hi hin => HA w hin)) rfl ?_
 rintro _ _ ⟨_, ⟨rfl, rfl⟩, rfl⟩
 iterate 2 refine ZA ?_
 refine wl_tg (guard_yes rfl rfl) rfl (t_call rfl (fun _ _ => rfl) (fun w hi => known_ok w)) rfl ?_
 rintro _ _ ⟨_, ⟨rfl, rfl⟩, rfl⟩
 iterate 2 refine ZA ?_
 refine Zn (Zt (Ze (ret1 (cs' := []) (.inl rfl) Zu rfl rfl ?_)))
 exact ⟨rfl, rfl⟩
end Go.Proofs.YthcpmpmbgbibfaaGreat
