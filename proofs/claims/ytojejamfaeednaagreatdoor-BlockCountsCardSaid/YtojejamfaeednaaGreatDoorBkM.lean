/- A fetch outside of what is there is a trap, again and again; the law BlockTraps. -/
import Derived.Test.YtojejamfaeednaaGreatDoorBkL
import Derived.Test.YtojejamfaeednaaGreatDoorInkA
import Derived.Test.YtojejamfaeednaaGreatDoorSqP
set_option linter.unusedSimpArgs false
set_option linter.unusedVariables false
set_option maxRecDepth 100000
namespace Go.Ink
open Go.RowKit
theorem beginGo_trap {n : Nat} {s : St} {U : Mmu} {d : Dev} (hpg : s.paging = false) (h0 : 0 ≤ s.pc) (hpc : n * 64 ≤ s.pc.toNat) : beginGo n s U d = ⟨s.next.trap 10 s.pc, 0, false, U, d⟩ := by
 have e1 : decide (((s.pc.toNat : Nat) : Int) < ((n * 64 : Nat) : Int)) = false := decide_eq_false (by omega)
 have e2 : ((s.pc.toNat : Nat) : Int) = s.pc := Int.toNat_of_nonneg h0
 have e3 : placeTo n U s.space s.pc.toNat 1 = ((0, ⟨10, s.pc⟩), U) := by
  unfold placeTo
  rw [turned_plain (s := s.space) hpg]
  dsimp only
  rw [e1, e2]
  rfl
 unfold beginGo
 rw [e3]
 rfl
theorem tick_none {d : Dev} (ht : d.timer = 0) (c : Int) : d.tick c = d := by
 unfold Dev.tick
 rw [ht]
 rfl
theorem and_none (m : Int) : bits .and .u32 0 m = ((0 : Nat) : Int) := by
 unfold bits
 simp only
 rw [IntKind.wrap_u32]
 simp
theorem block_trap {n : Nat} {s : St} {U : Mmu} {d : Dev} (hpg : s.paging = false) (hr : s.right = true) (hh : s.halted = false) (h0 : 0 ≤ s.pc) (hpc : n * 64 ≤ s.pc.toNat) (ht : d.timer = 0) (hp : d.pend = 0) : blockTo n s U d = (s.next.trap 10 s.pc, U, d) := by
 have e : beginTo n s U d = ⟨s.next.trap 10 s.pc, 0, false, U, d⟩ := by
  rw [beginTo_go (by rw [hr, hh]; rfl) (tick_none ht _) (told_no (x := 0) (by rw [hp]; exact and_none _) (by rw [low_zero]; rfl))]
  exact beginGo_trap hpg h0 hpc
 unfold blockTo
 rw [e]
 rfl
/-- A state that traps at each fetch. -/
structure TrapSt (s : St) : Prop where
 wf : s.wf
 pg : s.paging = false
 ha : s.halted = false
 d : s.d = []
 r : s.r = []
 fl : s.right = true
 pc : 64 ≤ s.pc ∧ s.pc ≤ 1063
 ve : 64 ≤ s.vec ∧ s.vec ≤ 1063
theorem TrapSt.next {s : St} (h : TrapSt s) : TrapSt (s.next.trap 10 s.pc) :=
 ⟨trapWf (nextWf h.wf) _ h.wf.pc, h.pg, h.ha, h.d, h.r, h.fl, h.ve, h.ve⟩
end Go.Ink
namespace Go.Proofs.YtojejamfaeednaaGreatDoor
open Go.RowKit Go.Ink
attribute [local irreducible] OpY GuardIs

theorem rdSt_all {w : World} {s : St} {X : SAdr} (hd : s.d = []) (hr : s.r = []) (h : RdSt w s X.Ad X.Ar X.cd X.cr) (w' : World) : RdSt w' s X.Ad X.Ar X.cd X.cr := by
 obtain ⟨pc, d, r, f3, f4, f5, f6, f7, f8, f9, f10, f11, f12, f13, f14, f15⟩ := s
 simp only at hd hr
 subst hd hr
 exact ⟨⟨h.d.len, h.d.cap, h.d.max, h.d.nil, fun _ _ j u hu => by simp [ints] at hu⟩, ⟨h.r.len, h.r.cap, h.r.max, h.r.nil, fun _ _ j u hu => by simp [ints] at hu⟩, h.hd, h.hr⟩
set_option maxHeartbeats 4000000 in
theorem blockTraps_ok (p v n : Int) (hp : u32 p) (hv : u32 v) (w : World) (ht : TabOk w) :
  Ctr Tryz.prog 6 [.int .u32 p, .int .u32 v, .int .i64 n] w [] (fun v cs => v = .bool true ∧ cs = []) := by
 have HF := fun w => fresh18_ok none none 0 0 1 [] [] (by decide) (by decide) (by decide) (fun x hx => by cases hx) (by decide) w (rdNil w .u8) (rdNil w .u8)
 have hG := fresh_gok (n := 1) (l := []) (k := []) (by decide) (fun x hx => by cases hx) (by decide) (fun x hx => by cases hx)
 have htm : (Dev.init []).timer = 0 := rfl
 have hpd : (Dev.init []).pend = 0 := rfl
 have ho : (Dev.init []).out.length ≤ 0 := Nat.le_refl _
 unfold fr18 at HF
 obtain ⟨data, hda⟩ : ∃ d, refData 1 [] = d := ⟨_, rfl⟩
 obtain ⟨tu, htu⟩ : ∃ d, List.replicate 1 false = d := ⟨_, rfl⟩
 obtain ⟨M, hM⟩ : ∃ M, Mem.init 1 [] = M := ⟨_, rfl⟩
 obtain ⟨d0, hd⟩ : ∃ d, Dev.init [] = d := ⟨_, rfl⟩
 obtain ⟨T0, hTT⟩ : ∃ T, tflush = T := ⟨_, rfl⟩
 rw [hda, htu, hM, hd, hTT] at HF
 rw [hM, hd, hTT] at hG
 rw [hd] at ho htm hpd
 obtain ⟨m, hm⟩ : ∃ m, within n 0 30 = m := ⟨_, rfl⟩
 have hmr := within_rng n 0 30 (by decide)
 rw [hm] at hmr
 have HW := fun w => hm ▸ within_ok n 0 30 w (by decide) (by decide) (by decide)
 have hv' := hv
 obtain ⟨hv0, hv1⟩ := hv'
 have hp' := hp
 obtain ⟨hp0, hp1⟩ := hp'
 obtain ⟨pc, hpc⟩ : ∃ x, 64 + v % 1000 = x := ⟨_, rfl⟩
 obtain ⟨ve, hve⟩ : ∃ x, 64 + p % 1000 = x := ⟨_, rfl⟩
 have hpr : 64 ≤ pc ∧ pc ≤ 1063 := by omega
 have hvr : 64 ≤ ve ∧ ve ≤ 1063 := by omega
 have hS0 : TrapSt ⟨pc, [], [], 0, true, false, false, 0, ve, 0, 0, 0, false, false, 0, false⟩ :=
  ⟨⟨(show u32 pc from ⟨by omega, by omega⟩), u0, u0, (show u32 ve from ⟨by omega, by omega⟩), u0, u0, u0, new_wf.count, new_wf.d, new_wf.r⟩, rfl, rfl, rfl, rfl, rfl, hpr, hvr⟩
 refine fn_ctr Tryz.func6 rfl Tryz.ntmps6 rfl (Inv.start w) ?_
 refine Zs (Zr (ZA ?_))
 refine Zn (Zt (Zs (Zr (ZA ?_))))
 refine ZS (fun w hi => HF w) ?_
 rintro _ _ ⟨_, ⟨F, hF, rfl, rfl⟩, rfl⟩
 refine ZA ?_
 refine Zn (Zt (Zs (Zs (Zr (ZA ?_)))))
 refine ZA ?_
 refine Zn (Zt (wc_cond_f rfl (rfl) ?_))
 refine Zc (Zt (Zs (Zr (ZA ?_))))
 refine ZA ?_
 refine ZFa 3 ?_
 refine wl_y (y_loadN (vs := St.new.cells (.slice none 0 0) (.slice none 0 0)) (fun _ => rfl) (fun _ => rfl) (Zv rfl)) (row_cells Zh rfl) rfl ?_
 refine ZN fun b8 => ?_
 refine ZM ?_
 refine Zn (Zt (Zs (Zr (ZA ?_))))
 refine Zy (y_rem (Zv rfl) (Zv rfl) (by omega) (show _ = v % 1000 from by rw [Int.tmod_eq_emod_of_nonneg (by omega)])) ?_
 refine Zy (y_add (Zv rfl) (Zv rfl) (show _ = pc from by rw [u32_wrap_id _ (by omega) (by omega)]; exact hpc)) ?_
 refine ZA ?_
 refine Zy (y_rem (Zv rfl) (Zv rfl) (by omega) (show _ = p % 1000 from by rw [Int.tmod_eq_emod_of_nonneg (by omega)])) ?_
 refine Zy (y_add (Zv rfl) (Zv rfl) (show _ = ve from by rw [u32_wrap_id _ (by omega) (by omega)]; exact hve)) ?_
 refine ZFa 0 ?_
 refine ZL ?_
 refine ZFa 8 ?_
 refine ZL ?_
 refine Zn (Zt (Zs (Zr (ZA ?_))))
 refine ZS (fun w hi => HW w) ?_
 rintro _ _ ⟨_, ⟨rfl, rfl⟩, rfl⟩
 refine ZA ?_
 refine Zn (Zt (Zs (Zs (Zr (wl_pick (row b8 (St.cells ⟨pc, [], [], 0, true, false, false, 0, ve, 0, 0, 0, false, false, 0, false⟩ (.slice none 0 0) (.slice none 0 0)) 36 :: w18Row F St.new :: ubF F.bu F.bb F.L F.D ⟨none, 0, none, 0⟩ ⟨M, T0⟩ d0) Zj ?_)))))
 refine ZA ?_
 refine Zn (Zt (Zx ?_))
 refine wc_loop (fun q : Nat × St × SAdr × DAdr => [(7, .pointer (some ⟨F.bw, 0, none⟩)), (8, .pointer (some ⟨b8, 0, none⟩)), (9, .int .i64 m), (10, .int .i64 (q.1 : Int))]) (fun q => row b8 (q.2.1.cells (.slice q.2.2.1.Ad q.2.1.d.length q.2.2.1.cd) (.slice q.2.2.1.Ar q.2.1.r.length q.2.2.1.cr)) 36 :: w18Row F St.new :: ubF F.bu F.bb F.L F.D q.2.2.2 ⟨M, T0⟩ d0) (fun q => TrapSt q.2.1 ∧ q.1 ≤ 30 ∧ (∀ w', RdSt w' q.2.1 q.2.2.1.Ad q.2.2.1.Ar q.2.2.1.cd q.2.2.1.cr)) (fun q => 30 - q.1) (⟨0, ⟨pc, [], [], 0, true, false, false, 0, ve, 0, 0, 0, false, false, 0, false⟩, ⟨none, 0, none, 0⟩, ⟨none, 0, none, 0⟩⟩) ?_ ?_ ?_ ?_
 ·exact ⟨hS0, by omega, fun w' => RdSt.nil_ w' rfl rfl⟩
 ·exact Zwk
 ·((repeat (first | exact List.Sublist.slnil | refine List.Sublist.cons_cons _ ?_ | refine List.Sublist.cons _ ?_)))
 rintro ⟨k, s, X, Y⟩ ⟨hs, hk, hRd⟩
 dsimp only at hs hk hRd ⊢
 have hGs : GOk 1 s ⟨M, T0⟩ d0 := ⟨hs.wf, hs.fl, hG.u, hG.dv, hG.lines⟩
 have HB := fun w hi h ht => block_ok F.bu F.bb F.L F.D Y s X.Ad X.Ar X.cd X.cr ⟨M, T0⟩ d0 (hF ▸ hGs) (by omega) w hi h ht
 have hs2 := hs.next
 have hp2 := hs.pc
 rw [hF, block_trap (n := 1) (U := ⟨M, T0⟩) hs.pg hs.fl hs.ha (by omega) (by omega) htm hpd] at HB
 obtain ⟨pc1, dd, r, fl, su, pg, ie, rt, ve1, ep, ca, ad, es, ei, co, ha⟩ := s
 obtain ⟨-, hq1, hq2, hq3, hq4, -, -, -⟩ := hs
 dsimp only at hq1 hq2 hq3 hq4
 subst hq1 hq2 hq3 hq4
 refine Zs (Zs (Zr (ZA ?_)))
 iterate 2 refine ZA ?_
 refine Zn (Zt ?_)
 refine wc_cond _ rfl (fun hc8 => ?_) (fun hc8 => ?_)
 ·simp only [decide_eq_true_eq] at hc8
  refine Zc (Zt (Zs (Zx (Zs (Zr (wl_y (y_loadN (vs := St.cells ⟨pc1, [], [], fl, su, false, ie, rt, ve1, ep, ca, ad, es, ei, co, false⟩ (.slice X.Ad 0 X.cd) (.slice X.Ar 0 X.cr)) (fun _ => rfl) (fun _ => rfl) (Zv rfl)) (row_cells Zh rfl) rfl ?_))))))
  refine ZN fun b11 => ?_
  refine ZM ?_
  refine Zn (Zt ?_)
  refine wc_seq_mid (fun q : SAdr × DAdr => [(7, .pointer (some ⟨F.bw, 0, none⟩)), (8, .pointer (some ⟨b8, 0, none⟩)), (9, .int .i64 m), (10, .int .i64 (k : Int)), (11, .pointer (some ⟨b11, 0, none⟩))]) (fun q => row b8 (St.cells (St.trap (St.next ⟨pc1, [], [], fl, su, false, ie, rt, ve1, ep, ca, ad, es, ei, co, false⟩) 10 pc1) (.slice q.1.Ad 0 q.1.cd) (.slice q.1.Ar 0 q.1.cr)) 36 :: row b11 (St.cells ⟨pc1, [], [], fl, su, false, ie, rt, ve1, ep, ca, ad, es, ei, co, false⟩ (.slice X.Ad 0 X.cd) (.slice X.Ar 0 X.cr)) 36 :: w18Row F St.new :: guF F.bu F.bb F.L F.D (St.trap (St.next ⟨pc1, [], [], fl, su, false, ie, rt, ve1, ep, ca, ad, es, ei, co, false⟩) 10 pc1) q.1 q.2 ⟨M, T0⟩ d0) (fun _ => True) ?_ ?_
  ·refine wc_draw ⟨fun j => List.elem j [9, 10], []⟩ Zk ?_
   refine wa_ln 0 rfl Zk Zk Zk Zk (y_loadN (vs := St.cells ⟨pc1, [], [], fl, su, false, ie, rt, ve1, ep, ca, ad, es, ei, co, false⟩ (.slice X.Ad 0 X.cd) (.slice X.Ar 0 X.cr)) (fun _ => rfl) (fun _ => rfl) (Zv rfl)) (row_cells Zh rfl) rfl ?_
   refine ZE 1 ?_
   refine ZE 2 ?_
   refine ZFe 3 0 ?_
   refine ZG 4 ?_
   refine ZE 5 ?_
   refine ZE 6 ?_
   refine ZFe 7 1 ?_
   refine ZG 8 ?_
   refine wa_1 9 Zk ?_
   refine wi_t rfl rfl (t_callS (ubF F.bu F.bb F.L F.D Y ⟨M, T0⟩ d0) rfl (fun _ _ => rfl) Zi (fun w hi hin => HB w hin (fun w' hk => hRd w') (fun w' hk => RdV.oldKs ht hi Zi hk))) (fun _ _ _ _ _ _ _ h => by cases h) rfl ?_
   rintro _ _ ⟨_, ⟨X2, Y2, rfl, rfl⟩, rfl⟩
   refine wa_1 10 Zk ?_
   refine ZR ?_
   refine wa_done Zk ?_
   refine q_midP ((⟨X2, Y2⟩ : SAdr × DAdr)) ?_ ?_ ?_
   ·trivial
   ·exact Zwk
   exact Zj
  rintro ⟨X2, Y2⟩ -
  dsimp only
  refine wc_fact (fun w hi => rdSt_all (s := St.trap (St.next ⟨pc1, [], [], fl, su, false, ie, rt, ve1, ep, ca, ad, es, ei, co, false⟩) 10 pc1) (X := X2) rfl rfl (hi.rdSt (show Has _ (slD (St.trap (St.next ⟨pc1, [], [], fl, su, false, ie, rt, ve1, ep, ca, ad, es, ei, co, false⟩) 10 pc1) X2.Ad X2.cd) from Zh) (show Has _ (slR (St.trap (St.next ⟨pc1, [], [], fl, su, false, ie, rt, ve1, ep, ca, ad, es, ei, co, false⟩) 10 pc1) X2.Ar X2.cr) from Zh) (Nat.zero_le _) (Nat.zero_le _))) (fun hRd2 => ?_)
  refine Zs (Zr (ZFa 14 ?_))
  refine ZC ?_
  refine ZFa 14 ?_
  refine ZC ?_
  refine Zy (y_add (Zv rfl) (Zv rfl) rfl) ?_
  refine Zy (y_neq (Zv rfl) (Zv rfl) (bne_self_eq_false _)) ?_
  refine ZA ?_
  refine ZFb 0 ?_
  refine ZD ?_
  refine ZFb 8 ?_
  refine ZD ?_
  refine Zyn rfl rfl (y_neq (ev_g rfl) (ev_g rfl) (bne_self_eq_false _)) ?_
  iterate 2 refine ZA ?_
  refine ZFb 9 ?_
  refine ZD ?_
  refine ZFb 0 ?_
  refine ZD ?_
  refine Zyn rfl rfl (y_neq (ev_g rfl) (ev_g rfl) (bne_self_eq_false _)) ?_
  iterate 2 refine ZA ?_
  refine ZFb 10 ?_
  refine ZD ?_
  refine Zyn rfl rfl (y_neq (ev_g rfl) (Zv rfl) (show _ = false from rfl)) ?_
  iterate 2 refine ZA ?_
  refine ZFb 11 ?_
  refine ZD ?_
  refine ZFb 0 ?_
  refine ZD ?_
  refine Zyn rfl rfl (y_neq (ev_g rfl) (ev_g rfl) (bne_self_eq_false _)) ?_
  iterate 2 refine ZA ?_
  refine ZFb 15 ?_
  refine ZD ?_
  refine ZA ?_
  refine Zn (Zt (wc_cond_f rfl (rfl) ?_))
  refine Zc (Zo (Zt (Zr (ZA ?_))))
  refine Zy (y_add (Zv rfl) (Zv rfl) Zl) ?_
  refine ZA ?_
  refine Zn ?_
  refine q_midP ((⟨k + 1, St.trap (St.next ⟨pc1, [], [], fl, su, false, ie, rt, ve1, ep, ca, ad, es, ei, co, false⟩) 10 pc1, X2, Y2⟩ : Nat × St × SAdr × DAdr)) ?_ ?_ ?_
  ·exact ⟨⟨hs2, show k + 1 ≤ 30 by omega, hRd2⟩, show 30 - (k + 1) < 30 - k by omega⟩
  ·exact Zwk
  exact Zj
 refine wc_exit ?_
 refine q_then_exit ?_
 refine q_then_exit ?_
 refine q_block_same rfl ?_
 refine Zt (Zs (Zr (ZS (fun w hi => known18_ok w (ht.old hi)) ?_)))
 rintro _ _ ⟨_, ⟨rfl, rfl⟩, rfl⟩
 refine ZA ?_
 refine Zn (Zt (Ze (ret1 (cs' := []) (.inl rfl) Zu rfl rfl ?_)))
 exact ⟨rfl, rfl⟩
end Go.Proofs.YtojejamfaeednaaGreatDoor
