/- Some of the runs; the law BlockEnds. -/
import Derived.Test.YthcpmpmbgbibfaaGreatDoorBkK
import Derived.Test.YthcpmpmbgbibfaaGreatDoorInkA
set_option linter.unusedSimpArgs false
set_option linter.unusedVariables false
set_option maxRecDepth 100000
namespace Go.Ink
open Go.RowKit
theorem known_fin {s : St} {U : Mmu} {d : Dev} (h : runTo 1 9 St.new ⟨Mem.init 1 [1, 1, 69], tflush⟩ (Dev.init []) = (s, U, d)) : s.halted = true ∧ s.count = 2 ∧ s.d = [1] := by
 have h1 := known_run
 rw [h] at h1
 simpa [knownSay, and_assoc] using h1
end Go.Ink
namespace Go.Proofs.YthcpmpmbgbibfaaGreatDoor
open Go.RowKit Go.Ink
attribute [local irreducible] OpY GuardIs

set_option maxHeartbeats 2000000 in
theorem known18_ok (w : World) (ht : TabOk w) : Ctr Tryz.prog 16 [] w [] (fun v cs => v = .bool true ∧ cs = []) := by
 have HC := fun A c w h => code_ok A c [(1, 1), (69, 0)] (by decide) w h
 have hb : u8s [1, 1, 69] := by rw [← known_code]; exact codeTo_u8 _ _
 rw [known_code] at HC
 have HF := fun A c w h => fresh18_ok A none c 0 1 [1, 1, 69] [] (by decide) (by decide) (by decide) hb (by decide) w h (rdNil w .u8)
 have hG := fresh_gok (n := 1) (l := [1, 1, 69]) (k := []) (by decide) hb (by decide) (fun x hx => by cases hx)
 obtain ⟨⟨s9, U9, d9⟩, hR⟩ : ∃ q, runTo 1 9 St.new ⟨Mem.init 1 [1, 1, 69], tflush⟩ (Dev.init []) = q := ⟨_, rfl⟩
 obtain ⟨k1, k2, k3⟩ := known_fin hR
 have ho : (Dev.init []).out.length ≤ 0 := Nat.le_refl _
 unfold fr18 at HF
 obtain ⟨data, hda⟩ : ∃ d, refData 1 [1, 1, 69] = d := ⟨_, rfl⟩
 obtain ⟨tu, htu⟩ : ∃ d, List.replicate 1 false = d := ⟨_, rfl⟩
 obtain ⟨M, hM⟩ : ∃ M, Mem.init 1 [1, 1, 69] = M := ⟨_, rfl⟩
 obtain ⟨d0, hd⟩ : ∃ d, Dev.init [] = d := ⟨_, rfl⟩
 obtain ⟨T0, hTT⟩ : ∃ T, tflush = T := ⟨_, rfl⟩
 rw [hda, htu, hM, hd, hTT] at HF
 rw [hM, hd, hTT] at hG hR
 rw [hd] at ho
 obtain ⟨pc', dd, r', fl', su', pg', ie', rt', ve', ep', ca', ad', es', ei', co', ha'⟩ := s9
 dsimp only at k1 k2 k3
 subst k1 k2 k3
 refine fn_ctr Tryz.func16 rfl Tryz.ntmps16 rfl (Inv.start w) ?_
 refine Zs (Zr (ZA ?_))
 refine Zn (Zt (Zs (Zr (ZA ?_))))
 refine ZA ?_
 refine wl_t (t_buildSl rfl rfl (fun _ => rfl) (fun _ => rfl) rfl rfl rfl) rfl ?_
 rintro _ _ ⟨b5, rfl, rfl⟩
 refine ZS (fun w hi => HC (some ⟨b5, 0, none⟩) 2 w (hi.rd (show Has _ (slv 79 2 (some ⟨b5, 0, none⟩) 2 2 ([((1 : Int), (1 : Int)), (69, 0)].flatMap insCells)) from Zh))) ?_
 rintro _ _ ⟨_, ⟨A1, c1, rfl, rfl⟩, rfl⟩
 refine ZA ?_
 refine ZS (fun w hi => HF A1 c1 w (hi.rd (show Has _ (sl .u8 5 A1 3 c1 [1, 1, 69]) from Zh))) ?_
 rintro _ _ ⟨_, ⟨F, hF, rfl, rfl⟩, rfl⟩
 have HR := fun w hi h ht => run_ok F.bu F.bb F.L F.D ⟨none, 0, none, 0⟩ St.new none none 0 0 ⟨M, T0⟩ d0 (hF ▸ hG) 9 (by decide) (by decide) (by rw [show (9 : Int).toNat = 9 from rfl]; omega) w hi h ht
 rw [hF, hR] at HR
 refine ZA ?_
 refine Zn (Zt (Zs (Zs (Zr (ZA ?_)))))
 refine ZA ?_
 refine Zn (Zt (wc_cond_f rfl (rfl) ?_))
 refine Zc (Zt ?_)
 refine wc_seq_mid (fun q : (Option Addr × Nat) × (Option Addr × Nat) × Nat => [(2, .pointer (some ⟨q.2.2, 0, none⟩))]) (fun q => [row q.2.2 (St.cells ⟨pc', [1], r', fl', su', pg', ie', rt', ve', ep', ca', ad', es', ei', 2, true⟩ (.slice q.1.1 1 q.1.2) (.slice q.2.1.1 r'.length q.2.1.2)) 34, sl .u32 30 q.1.1 1 q.1.2 [1]]) (fun _ => True) ?_ ?_
 ·refine wc_draw ⟨fun j => List.elem j [12, 14], []⟩ Zk ?_
  refine ZE 0 ?_
  refine ZE 1 ?_
  refine ZFe 2 3 ?_
  refine wa_ln 3 rfl Zk Zk Zk Zk (y_loadN (vs := St.new.cells (.slice none 0 0) (.slice none 0 0)) (fun _ => rfl) (fun _ => rfl) (Zv rfl)) (row_cells Zh rfl) rfl ?_
  refine ZE 4 ?_
  refine ZE 5 ?_
  refine ZFe 6 0 ?_
  refine ZG 7 ?_
  refine ZE 8 ?_
  refine ZE 9 ?_
  refine ZFe 10 1 ?_
  refine ZG 11 ?_
  refine wa_2 12 13 Zk ?_ ?_
  ·refine wi_t rfl rfl (t_callS (ubF F.bu F.bb F.L F.D ⟨none, 0, none, 0⟩ ⟨M, T0⟩ d0) rfl (fun _ _ => rfl) Zi (fun w hi hin => HR w hin (fun w' hk => RdSt.nil_ w' rfl rfl) (fun w' hk => RdV.oldKs ht hi Zi hk))) (fun _ _ _ _ _ _ _ h => by cases h) rfl ?_
   rintro _ _ ⟨_, ⟨X1, Y1, rfl, rfl⟩, rfl⟩
   refine wa_1 13 Zk ?_
   refine ZP fun b2 => ?_
   refine wa_1 14 Zk ?_
   refine ZR ?_
   refine wa_done Zk ?_
   refine q_midP ((⟨⟨X1.Ad, X1.cd⟩, ⟨X1.Ar, X1.cr⟩, b2⟩ : (Option Addr × Nat) × (Option Addr × Nat) × Nat)) ?_ ?_ ?_
   ·trivial
   ·exact Zwk
   exact Zj
  refine ZP fun b2 => ?_
  refine wa_1 12 Zk ?_
  refine wi_t rfl rfl (t_callS (ubF F.bu F.bb F.L F.D ⟨none, 0, none, 0⟩ ⟨M, T0⟩ d0) rfl (fun _ _ => rfl) Zi (fun w hi hin => HR w hin (fun w' hk => RdSt.nil_ w' rfl rfl) (fun w' hk => RdV.oldKs ht hi Zi hk))) (fun _ _ _ _ _ _ _ h => by cases h) rfl ?_
  rintro _ _ ⟨_, ⟨X1, Y1, rfl, rfl⟩, rfl⟩
  refine wa_1 14 Zk ?_
  refine ZR ?_
  refine wa_done Zk ?_
  refine q_midP ((⟨⟨X1.Ad, X1.cd⟩, ⟨X1.Ar, X1.cr⟩, b2⟩ : (Option Addr × Nat) × (Option Addr × Nat) × Nat)) ?_ ?_ ?_
  ·trivial
  ·exact Zwk
  exact Zj
 rintro ⟨⟨A2, c2⟩, ⟨A3, c3⟩, b2⟩ -
 dsimp only
 refine wc_fact (fun w hi => slv_some (hi.get (show Has _ (sl .u32 30 A2 1 c2 [1]) from Zh)) (by decide)) (fun hA => ?_)
 obtain ⟨bd, rfl⟩ := hA
 refine Zs (Zr (ZFa 15 ?_))
 refine ZC ?_
 refine ZA ?_
 refine ZFb 14 ?_
 refine ZD ?_
 refine ZB ?_
 iterate 2 refine ZA ?_
 refine ZFb 1 ?_
 refine ZD ?_
 iterate 2 refine ZB ?_
 iterate 2 refine ZA ?_
 refine ZFb 1 ?_
 refine ZD ?_
 refine Zyy rfl rfl (y_indexR (j := 0) (sz := 1) (r := 0) rfl (fun _ => rfl) (ev_g rfl) (Zv rfl) (fun _ => by omega) (fun _ => by omega) (by omega)) ?_
 refine wl_yg (guard_yes rfl rfl) (y_load (fun _ => rfl) (ev_g rfl)) (sl_cellR Zh (ints_at (l := [1]) (j := 0) rfl)) rfl ?_
 refine ZB ?_
 iterate 2 refine ZA ?_
 refine Zn (Zt (Ze (ret1 (cs' := []) (.inl rfl) Zu rfl rfl ?_)))
 exact ⟨rfl, rfl⟩
end Go.Proofs.YthcpmpmbgbibfaaGreatDoor
