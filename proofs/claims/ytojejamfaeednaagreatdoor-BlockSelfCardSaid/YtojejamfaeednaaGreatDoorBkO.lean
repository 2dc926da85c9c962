/- The law BlockSelf: code that turns its own next instruction. -/
import Derived.Test.YtojejamfaeednaaGreatDoorBkM
import Derived.Test.YtojejamfaeednaaGreatDoorInkA
import Derived.Test.YtojejamfaeednaaGreatDoorBkN
set_option linter.unusedSimpArgs false
set_option linter.unusedVariables false
set_option maxRecDepth 100000
namespace Go.Proofs.YtojejamfaeednaaGreatDoor
open Go.RowKit Go.Ink
attribute [local irreducible] OpY GuardIs

set_option maxHeartbeats 4000000 in
theorem blockSelf_ok (v n : Int) (hv : u32 v) (w : World) (ht : TabOk w) :
  Ctr Tryz.prog 5 [.int .u32 v, .int .i64 n] w [] (fun v cs => v = .bool true ∧ cs = []) := by
 obtain ⟨hv0, hv1⟩ := hv
 obtain ⟨v, rfl⟩ : ∃ m : Nat, v = m := Int.eq_ofNat_of_zero_le hv0
 obtain ⟨m, hm⟩ : ∃ m, within n 0 4 = m := ⟨_, rfl⟩
 have hmr := within_rng n 0 4 (by decide)
 rw [hm] at hmr
 have HW := fun w => hm ▸ within_ok n 0 4 w (by decide) (by decide) (by decide)
 obtain ⟨k, rfl⟩ : ∃ q : Nat, m = q := Int.eq_ofNat_of_zero_le hmr.1
 have hk4 : k ≤ 4 := by omega
 obtain ⟨x, hx⟩ : ∃ x, v % 256 = x := ⟨_, rfl⟩
 have hx256 : x < 256 := by omega
 have hself := self_all hx256 (show k < 5 by omega)
 unfold selfSay at hself
 have hlen := self_len x k
 have HC := fun A c w h => code_ok A c (selfCode x k) (by omega) w h
 have hcl : (codeOf (selfCode x k)).length ≤ 128 := Nat.le_trans (codeTo_len _ _) (by omega)
 have hb : u8s (codeOf (selfCode x k)) := codeTo_u8 _ _
 have hfin := pad_fin x k
 rw [hlen] at HC
 obtain ⟨bb, hbb⟩ : ∃ b, codeOf (selfCode x k) = b := ⟨_, rfl⟩
 rw [hbb] at HC hself hcl hb
 obtain ⟨LL, hLL⟩ : ∃ b, (selfCode x k).flatMap insCells = b := ⟨_, rfl⟩
 rw [hLL] at HC hfin
 have HF := fun A c w h => fresh18_ok A none c 0 2 bb [] (by decide) (by decide) (by omega) hb (by decide) w h (rdNil w .u8)
 have hG := fresh_gok (n := 2) (l := bb) (k := []) (by omega) hb (by decide) (fun x hx => by cases hx)
 have ho : (Dev.init []).out.length ≤ 0 := Nat.le_refl _
 unfold fr18 at HF
 obtain ⟨data, hda⟩ : ∃ d, refData 2 bb = d := ⟨_, rfl⟩
 obtain ⟨tu, htu⟩ : ∃ d, List.replicate 2 false = d := ⟨_, rfl⟩
 obtain ⟨M, hM⟩ : ∃ M, Mem.init 2 bb = M := ⟨_, rfl⟩
 obtain ⟨d0, hd⟩ : ∃ d, Dev.init [] = d := ⟨_, rfl⟩
 obtain ⟨T0, hTT⟩ : ∃ T, tflush = T := ⟨_, rfl⟩
 rw [hda, htu, hM, hd, hTT] at HF
 rw [hM, hd, hTT] at hG hself
 rw [hd] at ho
 have hL := block_live hG rfl
 obtain ⟨⟨s, U1, d1⟩, hQ⟩ : ∃ q, blockTo 2 St.new ⟨M, T0⟩ d0 = q := ⟨_, rfl⟩
 rw [hQ] at hself hL
 obtain ⟨hG1, ho1, -⟩ := hL
 dsimp only at hself hG1 ho1
 obtain ⟨⟨t, U2, d2⟩, hR⟩ : ∃ q, runTo 2 20 s U1 d1 = q := ⟨_, rfl⟩
 rw [hR] at hself
 simp only [selfIs, Bool.and_eq_true, beq_iff_eq] at hself
 obtain ⟨⟨⟨hs3, hth⟩, htd⟩, htc⟩ := hself
 obtain ⟨pc', dd, r', fl', su', pg', ie', rt', ve', ep', ca', ad', es', ei', co', ha'⟩ := t
 dsimp only at hth htd htc
 subst hth htd htc
 refine fn_ctr Tryz.func5 rfl Tryz.ntmps5 rfl (Inv.start w) ?_
 refine Zs (Zr (ZA ?_))
 refine Zn (Zt (Zs (Zr (ZA ?_))))
 refine ZS (fun w hi => HW w) ?_
 rintro _ _ ⟨_, ⟨rfl, rfl⟩, rfl⟩
 refine ZA ?_
 refine Zn (Zt (Zs (Zr (ZA ?_))))
 refine Zy (y_rem (Zv rfl) (Zv rfl) (by omega) (show _ = ((x : Nat) : Int) from by rw [Int.tmod_eq_emod_of_nonneg (by omega)]; omega)) ?_
 iterate 2 refine ZA ?_
 refine Zy (y_add (Zv rfl) (Zv rfl) Zl) ?_
 refine Zy (y_add (Zv rfl) (Zv rfl) Zl) ?_
 refine Zy (y_conv rfl rfl (Zv rfl) (by first | exact IntWalk.u32_in _ ⟨by omega, by omega⟩ | exact rfl)) ?_
 iterate 2 refine ZA ?_
 refine wl_t (t_buildSl rfl rfl (fun _ => rfl) (fun _ => rfl) rfl rfl rfl) rfl ?_
 rintro _ _ ⟨b22, rfl, rfl⟩
 refine ZA ?_
 refine Zn (Zt (Zs (Zs (Zr (wl_pick [slv 48 2 (some ⟨b22, 0, none⟩) (3 + 0) 3 ((padTo x k 0).flatMap insCells)] Zj ?_)))))
 refine ZA ?_
 refine Zn (Zt (Zx ?_))
 refine wc_loop (fun q : Nat × Option Addr × Nat => [(0, .int .u32 (v : Int)), (5, .int .i64 (k : Int)), (6, .slice q.2.1 (3 + q.1) q.2.2), (7, .int .i64 (q.1 : Int))]) (fun q => [slv 48 2 q.2.1 (3 + q.1) q.2.2 ((padTo x k q.1).flatMap insCells)]) (fun q => q.1 ≤ k) (fun q => k - q.1) (⟨0, some ⟨b22, 0, none⟩, 3⟩) ?_ ?_ ?_ ?_
 ·exact Nat.zero_le _
 ·exact Zwk
 ·((repeat (first | exact List.Sublist.slnil | refine List.Sublist.cons_cons _ ?_ | refine List.Sublist.cons _ ?_)))
 rintro ⟨j, A1, c1⟩ hj
 dsimp only at hj ⊢
 have hst := pad_step x k j
 obtain ⟨xs, hxs⟩ : ∃ y, (padTo x k j).flatMap insCells = y := ⟨_, rfl⟩
 obtain ⟨ys, hys⟩ : ∃ y, (padTo x k (j + 1)).flatMap insCells = y := ⟨_, rfl⟩
 rw [hxs] at hst ⊢
 rw [hys] at hst
 refine Zs (Zs (Zr (ZA ?_)))
 iterate 2 refine ZA ?_
 refine Zn (Zt ?_)
 refine wc_cond _ rfl (fun hc4 => ?_) (fun hc4 => ?_)
 ·simp only [decide_eq_true_eq] at hc4
  refine Zc (Zt (Zs (Zx (Zr (ZA ?_)))))
  refine ZA ?_
  refine wl_t (t_buildSl rfl rfl (fun _ => rfl) (fun _ => rfl) rfl rfl rfl) rfl ?_
  rintro _ _ ⟨b30, rfl, rfl⟩
  refine wl_t (t_append (e := 48) (sz := 2) (bytes := 16) rfl rfl Za rfl rfl (fun w hi => hi.rd (show Has _ (slv 48 2 (some ⟨b30, 0, none⟩) 1 1 [.int .i64 0, .int .u32 0]) from Zh)) (allT rfl) (by simp only [maxLen]; omega) (by omega)) rfl ?_
  rintro _ _ ⟨A2, c2, rfl, rfl⟩
  rw [hst, ← hys]
  refine ZA ?_
  refine Zn (Zo (Zt (Zr (ZA ?_))))
  refine Zy (y_add (Zv rfl) (Zv rfl) Zl) ?_
  refine ZA ?_
  refine Zn ?_
  refine q_midP ((⟨j + 1, A2, c2⟩ : Nat × Option Addr × Nat)) ?_ ?_ ?_
  ·exact ⟨show j + 1 ≤ k by omega, show k - (j + 1) < k - j by omega⟩
  ·exact Zwk
  exact Zj
 simp only [decide_eq_false_iff_not] at hc4
 obtain rfl : j = k := (by omega)
 rw [hxs] at hfin
 refine wc_exit ?_
 refine q_then_exit ?_
 refine q_then_exit ?_
 refine q_block_same rfl ?_
 refine Zt (Zs (Zr (ZA ?_)))
 iterate 2 refine ZA ?_
 refine wl_t (t_buildSl rfl rfl (fun _ => rfl) (fun _ => rfl) rfl rfl rfl) rfl ?_
 rintro _ _ ⟨b35, rfl, rfl⟩
 refine wl_t (t_append (e := 48) (sz := 2) (bytes := 16) rfl rfl Za rfl rfl (fun w hi => hi.rd (show Has _ (slv 48 2 (some ⟨b35, 0, none⟩) 2 2 [.int .i64 1, .int .u32 77, .int .i64 69, .int .u32 0]) from Zh)) (allT rfl) (by simp only [maxLen]; omega) (by omega)) rfl ?_
 rintro _ _ ⟨A3, c3, rfl, rfl⟩
 rw [hfin]
 refine ZA ?_
 refine Zn (Zt (Zs (Zr (ZA ?_))))
 refine ZS (fun w hi => HC A3 c3 w (hi.rd (show Has _ (slv 48 2 A3 (3 + j + 2) c3 LL) from Zh))) ?_
 rintro _ _ ⟨_, ⟨A4, c4, rfl, rfl⟩, rfl⟩
 refine ZA ?_
 refine ZS (fun w hi => HF A4 c4 w (hi.rd (show Has _ (sl .u8 5 A4 bb.length c4 bb) from Zh))) ?_
 rintro _ _ ⟨_, ⟨F, hF, rfl, rfl⟩, rfl⟩
 have HD := fun w hi h ht => block_ok F.bu F.bb F.L F.D ⟨none, 0, none, 0⟩ St.new none none 0 0 ⟨M, T0⟩ d0 (hF ▸ hG) (by omega) w hi h ht
 rw [hF, hQ] at HD
 refine ZA ?_
 refine Zn (Zt (Zs (Zs (Zr (ZA ?_)))))
 refine ZA ?_
 refine Zn (Zt (wc_cond_f rfl (rfl) ?_))
 refine Zc (Zt ?_)
 refine wc_seq_mid (fun q : SAdr × DAdr × Nat => [(0, .int .u32 (v : Int)), (5, .int .i64 (j : Int)), (8, .pointer (some ⟨F.bw, 0, none⟩)), (9, .pointer (some ⟨q.2.2, 0, none⟩))]) (fun q => row q.2.2 (s.cells (.slice q.1.Ad s.d.length q.1.cd) (.slice q.1.Ar s.r.length q.1.cr)) 36 :: w18Row F St.new :: guF F.bu F.bb F.L F.D s q.1 q.2.1 U1 d1) (fun _ => True) ?_ ?_
 ·refine wc_draw ⟨fun j => List.elem j [12, 14], []⟩ Zk ?_
  refine ZE 0 ?_
  refine ZE 1 ?_
  refine ZFe 2 3 ?_
  refine wa_ln 3 rfl Zk Zk Zk Zk (y_loadN (vs := St.new.cells (.slice none 0 0) (.slice none 0 0)) (fun _ => rfl) (fun _ => rfl) (Zv rfl)) (row_cells Zh rfl) rfl ?_
  refine ZE 4 ?_
  refine ZE 5 ?_
  refine ZFe 6 0 ?_
  refine ZG 7 ?_
  refine ZE 8 ?_
  refine ZE 9 ?_
  refine ZFe 10 1 ?_
  refine ZG 11 ?_
  refine wa_2 12 13 Zk ?_ ?_
  ·refine wi_t rfl rfl (t_callS (ubF F.bu F.bb F.L F.D ⟨none, 0, none, 0⟩ ⟨M, T0⟩ d0) rfl (fun _ _ => rfl) Zi (fun w hi hin => HD w hin (fun w' hk => RdSt.nil_ w' rfl rfl) (fun w' hk => RdV.oldKs ht hi Zi hk))) (fun _ _ _ _ _ _ _ h => by cases h) rfl ?_
   rintro _ _ ⟨_, ⟨X1, Y1, rfl, rfl⟩, rfl⟩
   refine wa_1 13 Zk ?_
   refine ZP fun b9 => ?_
   refine wa_1 14 Zk ?_
   refine ZR ?_
   refine wa_done Zk ?_
   refine q_midP ((⟨X1, Y1, b9⟩ : SAdr × DAdr × Nat)) ?_ ?_ ?_
   ·trivial
   ·exact Zwk
   exact Zj
  refine ZP fun b9 => ?_
  refine wa_1 12 Zk ?_
  refine wi_t rfl rfl (t_callS (ubF F.bu F.bb F.L F.D ⟨none, 0, none, 0⟩ ⟨M, T0⟩ d0) rfl (fun _ _ => rfl) Zi (fun w hi hin => HD w hin (fun w' hk => RdSt.nil_ w' rfl rfl) (fun w' hk => RdV.oldKs ht hi Zi hk))) (fun _ _ _ _ _ _ _ h => by cases h) rfl ?_
  rintro _ _ ⟨_, ⟨X1, Y1, rfl, rfl⟩, rfl⟩
  refine wa_1 14 Zk ?_
  refine ZR ?_
  refine wa_done Zk ?_
  refine q_midP ((⟨X1, Y1, b9⟩ : SAdr × DAdr × Nat)) ?_ ?_ ?_
  ·trivial
  ·exact Zwk
  exact Zj
 rintro ⟨X1, Y1, b9⟩ -
 dsimp only
 have HR := fun w hi h ht => run_ok F.bu F.bb F.L F.D Y1 s X1.Ad X1.Ar X1.cd X1.cr U1 d1 (hF ▸ hG1) 20 (by decide) (by decide) (by rw [show (20 : Int).toNat = 20 from rfl]; omega) w hi h ht
 rw [hF, hR] at HR
 obtain ⟨hd16, hr16, -⟩ := St.fits hG1.right
 refine wc_seq_mid (fun q : (Option Addr × Nat) × (Option Addr × Nat) × Nat => [(0, .int .u32 (v : Int)), (5, .int .i64 (j : Int)), (9, .pointer (some ⟨b9, 0, none⟩)), (10, .pointer (some ⟨q.2.2, 0, none⟩))]) (fun q => [row b9 (s.cells (.slice X1.Ad s.d.length X1.cd) (.slice X1.Ar s.r.length X1.cr)) 36, row q.2.2 (St.cells ⟨pc', [(x : Int)], r', fl', su', pg', ie', rt', ve', ep', ca', ad', es', ei', 3 + (j : Int) + 2, true⟩ (.slice q.1.1 1 q.1.2) (.slice q.2.1.1 r'.length q.2.1.2)) 36, sl .u32 32 q.1.1 1 q.1.2 [(x : Int)]]) (fun _ => True) ?_ ?_
 ·refine wc_draw ⟨fun j => List.elem j [9, 11], []⟩ Zk ?_
  refine wa_ln 0 rfl Zk Zk Zk Zk (y_loadN (vs := s.cells (.slice X1.Ad s.d.length X1.cd) (.slice X1.Ar s.r.length X1.cr)) (fun _ => rfl) (fun _ => rfl) (Zv rfl)) (row_cells Zh rfl) rfl ?_
  refine ZE 1 ?_
  refine ZE 2 ?_
  refine ZFe 3 0 ?_
  refine ZG 4 ?_
  refine ZE 5 ?_
  refine ZE 6 ?_
  refine ZFe 7 1 ?_
  refine ZG 8 ?_
  refine wa_2 9 10 Zk ?_ ?_
  ·refine wi_t rfl rfl (t_callS (ubF F.bu F.bb F.L F.D Y1 U1 d1) rfl (fun _ _ => rfl) Zi (fun w hi hin => HR w hin (fun w' hk => hi.rdStKs Zi (show Has _ (slD s X1.Ad X1.cd) from Zh) (show Has _ (slR s X1.Ar X1.cr) from Zh) (by omega) (by omega) hk) (fun w' hk => RdV.oldKs ht hi Zi hk))) (fun _ _ _ _ _ _ _ h => by cases h) rfl ?_
   rintro _ _ ⟨_, ⟨X2, Y2, rfl, rfl⟩, rfl⟩
   refine wa_1 10 Zk ?_
   refine ZP fun b10 => ?_
   refine wa_1 11 Zk ?_
   refine ZR ?_
   refine wa_done Zk ?_
   refine q_midP ((⟨⟨X2.Ad, X2.cd⟩, ⟨X2.Ar, X2.cr⟩, b10⟩ : (Option Addr × Nat) × (Option Addr × Nat) × Nat)) ?_ ?_ ?_
   ·trivial
   ·exact Zwk
   exact Zj
  refine ZP fun b10 => ?_
  refine wa_1 9 Zk ?_
  refine wi_t rfl rfl (t_callS (ubF F.bu F.bb F.L F.D Y1 U1 d1) rfl (fun _ _ => rfl) Zi (fun w hi hin => HR w hin (fun w' hk => hi.rdStKs Zi (show Has _ (slD s X1.Ad X1.cd) from Zh) (show Has _ (slR s X1.Ar X1.cr) from Zh) (by omega) (by omega) hk) (fun w' hk => RdV.oldKs ht hi Zi hk))) (fun _ _ _ _ _ _ _ h => by cases h) rfl ?_
  rintro _ _ ⟨_, ⟨X2, Y2, rfl, rfl⟩, rfl⟩
  refine wa_1 11 Zk ?_
  refine ZR ?_
  refine wa_done Zk ?_
  refine q_midP ((⟨⟨X2.Ad, X2.cd⟩, ⟨X2.Ar, X2.cr⟩, b10⟩ : (Option Addr × Nat) × (Option Addr × Nat) × Nat)) ?_ ?_ ?_
  ·trivial
  ·exact Zwk
  exact Zj
 rintro ⟨⟨A5, c5⟩, ⟨A6, c6⟩, b10⟩ -
 dsimp only
 refine wc_fact (fun w hi => slv_some (hi.get (show Has _ (sl .u32 32 A5 1 c5 [(x : Int)]) from Zh)) (by decide)) (fun hA => ?_)
 obtain ⟨bd, rfl⟩ := hA
 refine Zs (Zr (ZFa 14 ?_))
 refine ZC ?_
 refine Zy (y_eql (Zv rfl) (Zv rfl) (show _ = true from by rw [hs3]; rfl)) ?_
 refine ZA ?_
 refine ZFb 15 ?_
 refine ZD ?_
 iterate 2 refine ZA ?_
 refine ZFb 1 ?_
 refine ZD ?_
 iterate 2 refine ZB ?_
 iterate 2 refine ZA ?_
 refine ZFb 1 ?_
 refine ZD ?_
 refine Zyy rfl rfl (y_indexR (j := 0) (sz := 1) (r := 0) rfl (fun _ => rfl) (ev_g rfl) (Zv rfl) (fun _ => by omega) (fun _ => by omega) (by omega)) ?_
 refine wl_yg (guard_yes rfl rfl) (y_load (fun _ => rfl) (ev_g rfl)) (sl_cellR Zh (ints_at (l := [(x : Int)]) (j := 0) rfl)) rfl ?_
 refine ZB ?_
 refine Zyy rfl rfl (y_rem (ev_g rfl) (Zv rfl) (by omega) (show _ = ((x : Nat) : Int) from by rw [Int.tmod_eq_emod_of_nonneg (by omega)]; omega)) ?_
 refine Zyy rfl rfl (y_eql (ev_g rfl) (ev_g rfl) (beq_self_eq_true _)) ?_
 iterate 2 refine ZA ?_
 refine ZFb 14 ?_
 refine ZD ?_
 refine ZB ?_
 refine Zyy rfl rfl (y_add (Zv rfl) (ev_g rfl) Zl) ?_
 refine Zyy rfl rfl (y_add (ev_g rfl) (Zv rfl) Zl) ?_
 refine Zyy rfl rfl (y_conv rfl rfl (ev_g rfl) (by first | exact IntWalk.u64_in _ ⟨by omega, by omega⟩ | exact rfl)) ?_
 refine Zyy rfl rfl (y_eql (ev_g rfl) (ev_g rfl) (beq_self_eq_true _)) ?_
 iterate 2 refine ZA ?_
 refine wl_tg (guard_yes rfl rfl) rfl (t_call rfl (fun _ _ => rfl) (fun w hi => known18_ok w (ht.old hi))) rfl ?_
 rintro _ _ ⟨_, ⟨rfl, rfl⟩, rfl⟩
 iterate 2 refine ZA ?_
 refine Zn (Zt (Ze (ret1 (cs' := []) (.inl rfl) Zu rfl rfl ?_)))
 exact ⟨rfl, rfl⟩
end Go.Proofs.YtojejamfaeednaaGreatDoor
