/- A block, and blocks, walked. -/
import Derived.Test.YthcpmpmbgbibfaaGreatDoorBkH
import Derived.Test.YthcpmpmbgbibfaaGreatDoorInkA
set_option linter.unusedSimpArgs false
set_option linter.unusedVariables false
set_option maxRecDepth 100000
namespace Go.Ink
open Go.RowKit
theorem blockTo_no {n : Nat} {s s1 : St} {U U1 : Mmu} {d d1 : Dev} {pl : Int} (h : beginTo n s U d = ⟨s1, pl, false, U1, d1⟩) : blockTo n s U d = (s1, U1, d1) := by
 unfold blockTo
 rw [h]
 rfl
theorem blockTo_yes {n : Nat} {s s1 : St} {U U1 : Mmu} {d d1 : Dev} {pl : Nat} (h : beginTo n s U d = ⟨s1, (pl : Int), true, U1, d1⟩) : blockTo n s U d = restTo n (pl / 64) 8 s1 pl U1 d1 := by
 unfold blockTo
 rw [h]
 rfl
/-- Does a run go on? -/
def runCond (m from_ : Int) (s : St) : Bool := decide (0 < m) && !s.halted && decide (IntKind.u64.wrap (s.count - from_) < m)
def runTo (n : Nat) (m : Int) (s : St) (U : Mmu) (d : Dev) : St × Mmu × Dev := runGo n m s.count m.toNat (s, U, d)
theorem runGo_stop {n k : Nat} {m from_ : Int} {q : St × Mmu × Dev} (h : runCond m from_ q.1 = false) : runGo n m from_ k q = q := by
 cases k with
 | zero => rfl
 | succ k =>
  show (bif runCond m from_ q.1 then _ else q) = q
  rw [h]
  rfl
theorem runGo_go {n k : Nat} {m from_ : Int} {q : St × Mmu × Dev} (h : runCond m from_ q.1 = true) : runGo n m from_ (k + 1) q = runGo n m from_ k (blockTo n q.1 q.2.1 q.2.2) := by
 show (bif runCond m from_ q.1 then _ else q) = _
 rw [h]
 rfl
/-- What a run goes through: so many blocks were done, so many instructions. -/
structure RunOk (n : Nat) (m from_ : Int) (o0 i : Nat) (q : St × Mmu × Dev) : Prop where
 g : GOk n q.1 q.2.1 q.2.2
 out : q.2.2.out.length ≤ o0 + 8 * i
 cnt : ∃ c : Nat, IntKind.u64.wrap (q.1.count - from_) = (c : Int) ∧ i ≤ c ∧ c ≤ 8 * i ∧ (c : Int) < (bif decide (0 < m) then m else 0) + 8
theorem run_step {n : Nat} {m from_ : Int} (hm : m ≤ 1000000) {o0 i : Nat} (hi : i ≤ 1000000) {q : St × Mmu × Dev} (h : RunOk n m from_ o0 i q) (hc : runCond m from_ q.1 = true) : RunOk n m from_ o0 (i + 1) (blockTo n q.1 q.2.1 q.2.2) ∧ (i : Int) < m := by
 obtain ⟨h1, h2, c, h3, h4, h5, h6⟩ := h
 simp only [runCond, Bool.and_eq_true, decide_eq_true_eq, Bool.not_eq_true'] at hc
 obtain ⟨⟨hm0, hh⟩, hlt⟩ := hc
 rw [decide_eq_true hm0, cond_true] at h6
 obtain ⟨b1, b2, j, b3, b4, b5⟩ := block_live h1 hh
 refine ⟨⟨b1, by omega, c + j, ?_, by omega, by omega, ?_⟩, by omega⟩
 ·rw [b5]
  rw [IntKind.wrap_u64] at h3 ⊢
  rw [IntKind.wrap_u64]
  omega
 rw [decide_eq_true hm0, cond_true]; omega
end Go.Ink
namespace Go.Proofs.YthcpmpmbgbibfaaGreatDoor
open Go.RowKit Go.Ink
attribute [local irreducible] OpY GuardIs

set_option maxHeartbeats 2000000 in
theorem block_ok (bu bb : Nat) (L : MLoc) (D : DLoc) (Y : DAdr) (s : St) (Ad Ar : Option Addr) (cd cr : Nat) (U : Mmu) (d : Dev) (hG : GOk L.n s U d) (ho : d.out.length + 8 ≤ 1000000000) (w : World) (hi : Inv w (blocks (ubF bu bb L D Y U d)) (ubF bu bb L D Y U d) w)
  (h : ∀ w', Keep (blocks (ubF bu bb L D Y U d)) w w' → RdSt w' s Ad Ar cd cr) (ht : ∀ w', Keep (blocks (ubF bu bb L D Y U d)) w w' → TabOk w') :
  Ctr Tryz.prog 12 [sv s Ad cd Ar cr, .pointer (some ⟨bu, 0, none⟩), .pointer (some ⟨D.bs, 0, none⟩)] w (ubF bu bb L D Y U d)
   (fun v cs => ∃ X' Y', v = sv (blockTo L.n s U d).1 X'.Ad X'.cd X'.Ar X'.cr ∧ cs = guF bu bb L D (blockTo L.n s U d).1 X' Y' (blockTo L.n s U d).2.1 (blockTo L.n s U d).2.2) := by
 have HB := fun w hi h ht => begin_ok bu bb L D Y s hG.wf Ad Ar cd cr U hG.u.t d (tick_lines hG.lines _) w hi h ht
 have hb := begin_goes hG
 have hN := fun s1 U1 d1 pl h => blockTo_no (n := L.n) (s := s) (s1 := s1) (U := U) (U1 := U1) (d := d) (d1 := d1) (pl := pl) h
 have hY := fun s1 U1 d1 pl h => blockTo_yes (n := L.n) (s := s) (s1 := s1) (U := U) (U1 := U1) (d := d) (d1 := d1) (pl := pl) h
 obtain ⟨⟨s1, pl, rn, U1, d1⟩, hbe⟩ : ∃ b, beginTo L.n s U d = b := ⟨_, rfl⟩
 rw [hbe] at HB hb hN hY
 obtain ⟨hg1, hpl, hout, -, -, -⟩ := hb
 dsimp only at hg1 hpl hout
 obtain ⟨pl, rfl⟩ : ∃ m : Nat, pl = m := Int.eq_ofNat_of_zero_le hpl.1
 have hpl2 := hpl.2
 have HR := fun X w hi => rest_ok bu bb L D Y s1 X pl (by omega) 8 (by decide) U1 d1 hg1 (by rw [hout]; exact ho) w hi
 obtain ⟨⟨s9, U9, d9⟩, hR⟩ : ∃ q, blockTo L.n s U d = q := ⟨_, rfl⟩
 rw [hR] at hN hY ⊢
 refine fn_ctr Tryz.func12 rfl Tryz.ntmps12 rfl hi ?_
 refine Zs (Zr (ZO fun b3 => ?_))
 refine ZN fun b6 => ?_
 refine Zn (Zt (Zs (Zr (wl_loadRow Zh (fun _ => rfl) (fun _ => rfl) (Zv rfl) rfl ?_))))
 iterate 2 refine ZA ?_
 refine wl_t (t_callS (ubF bu bb L D Y U d) rfl (fun _ _ => rfl) Zi (fun w hi hin => HB w hin (fun w' hk => h w' (hi.past (fun c hc => by simp only [ubF, uF, busF, List.mem_append, List.mem_cons, List.mem_nil_iff] at hc ⊢; grind) hk)) (fun w' hk => ht w' (hi.past (fun c hc => by simp only [ubF, uF, busF, List.mem_append, List.mem_cons, List.mem_nil_iff] at hc ⊢; grind) hk)))) rfl ?_
 rintro _ _ ⟨_, ⟨X1, rfl, rfl⟩, rfl⟩
 refine ZN fun b7 => ?_
 refine ZM ?_
 refine Zn (Zt (Zs (Zs (Zr (ZFa 17 ?_)))))
 refine ZC ?_
 refine ZA ?_
 refine Zn (Zt ?_)
 refine wc_cond _ rfl (fun hc2 => ?_) (fun hc2 => ?_)
 ·obtain rfl : rn = false := (by cases rn with | false => rfl | true => cases hc2)
  have e := hN s1 U1 d1 pl rfl
  rw [Prod.mk.injEq, Prod.mk.injEq] at e
  obtain ⟨rfl, rfl, rfl⟩ := e
  refine Zs (Zr (ZFa 0 ?_))
  refine wl_y (y_loadN (vs := s9.cells (.slice X1.Ad s9.d.length X1.cd) (.slice X1.Ar s9.r.length X1.cr)) (fun _ => rfl) (fun _ => rfl) (Zv rfl)) (row_cells Zh rfl) rfl ?_
  refine ZM ?_
  refine Zn (Zt (Ze (Zw (qok_pick (row b6 (s9.cells (.slice X1.Ad s9.d.length X1.cd) (.slice X1.Ar s9.r.length X1.cr)) 34 :: guF bu bb L D s9 X1 Y U9 d9) Zj ?_))))
  refine retC (cs' := (guF bu bb L D s9 X1 Y U9 d9)) (.inl rfl) Zu rfl rfl Zh (fun _ => rfl) (fun _ => rfl) ?_
  exact ⟨X1, Y, rfl, rfl⟩
 obtain rfl : rn = true := (by cases rn with | true => rfl | false => cases hc2)
 have e := hY s1 U1 d1 pl rfl
 rw [← e] at HR
 refine Zc (Zt (Zs (Zr (ZFa 0 ?_))))
 refine wl_y (y_loadN (vs := s1.cells (.slice X1.Ad s1.d.length X1.cd) (.slice X1.Ar s1.r.length X1.cr)) (fun _ => rfl) (fun _ => rfl) (Zv rfl)) (row_cells Zh rfl) rfl ?_
 refine ZFa 16 ?_
 refine ZC ?_
 iterate 2 refine ZA ?_
 refine wl_t (t_callS (guF bu bb L D s1 X1 Y U1 d1) rfl (fun _ _ => rfl) Zi (fun w hi hin => HR X1 w hin)) rfl ?_
 rintro _ _ ⟨_, ⟨X2, Y2, rfl, rfl⟩, rfl⟩
 refine ZM ?_
 refine Zn (Zt (Ze (qok_pick (row b6 (s9.cells (.slice X2.Ad s9.d.length X2.cd) (.slice X2.Ar s9.r.length X2.cr)) 34 :: guF bu bb L D s9 X2 Y2 U9 d9) Zj ?_)))
 refine retC (cs' := (guF bu bb L D s9 X2 Y2 U9 d9)) (.inl rfl) Zu rfl rfl Zh (fun _ => rfl) (fun _ => rfl) ?_
 exact ⟨X2, Y2, rfl, rfl⟩
set_option maxHeartbeats 2000000 in
theorem run_ok (bu bb : Nat) (L : MLoc) (D : DLoc) (Y : DAdr) (s : St) (Ad Ar : Option Addr) (cd cr : Nat) (U : Mmu) (d : Dev) (hG : GOk L.n s U d) (m : Int) (hm0 : -1000000 ≤ m) (hm : m ≤ 1000000) (ho : d.out.length + 8 * m.toNat + 8 ≤ 1000000000) (w : World) (hi : Inv w (blocks (ubF bu bb L D Y U d)) (ubF bu bb L D Y U d) w)
  (h : ∀ w', Keep (blocks (ubF bu bb L D Y U d)) w w' → RdSt w' s Ad Ar cd cr) (ht : ∀ w', Keep (blocks (ubF bu bb L D Y U d)) w w' → TabOk w') :
  Ctr Tryz.prog 11 [sv s Ad cd Ar cr, .pointer (some ⟨bu, 0, none⟩), .pointer (some ⟨D.bs, 0, none⟩), .int .i64 m] w (ubF bu bb L D Y U d)
   (fun v cs => ∃ X' Y', v = sv (runTo L.n m s U d).1 X'.Ad X'.cd X'.Ar X'.cr ∧ cs = guF bu bb L D (runTo L.n m s U d).1 X' Y' (runTo L.n m s U d).2.1 (runTo L.n m s U d).2.2) := by
 have HR2 := fun A B c e w => right_ok s A B c e w
 rw [hG.right] at HR2
 obtain ⟨hd16, hr16, -⟩ := St.fits hG.right
 obtain ⟨⟨s9, U9, d9⟩, hR⟩ : ∃ q, runTo L.n m s U d = q := ⟨_, rfl⟩
 rw [hR]
 have hR0 : runGo L.n m s.count (m.toNat - 0) (s, U, d) = (s9, U9, d9) := hR
 have hk0 : RunOk L.n m s.count d.out.length 0 (s, U, d) := ⟨hG, Nat.le_refl _, 0, by show IntKind.u64.wrap (s.count - s.count) = 0; rw [Int.sub_self]; rfl, Nat.le_refl _, Nat.le_refl _, by cases hd : decide (0 < m) with | false => (show (0 : Int) < 0 + 8; omega) | true => (simp only [decide_eq_true_eq] at hd; show (0 : Int) < m + 8; omega)⟩
 obtain ⟨from_, hfr⟩ : ∃ q, s.count = q := ⟨_, rfl⟩
 obtain ⟨o0, hoo⟩ : ∃ q, d.out.length = q := ⟨_, rfl⟩
 rw [hfr] at hR0 hk0
 rw [hoo] at ho hk0
 refine fn_ctr Tryz.func11 rfl Tryz.ntmps11 rfl hi ?_
 refine Zs (Zr (ZO fun b4 => ?_))
 refine ZN fun b8 => ?_
 refine Zn (Zt (Zs (Zr (wl_loadRow Zh (fun _ => rfl) (fun _ => rfl) (Zv rfl) rfl ?_))))
 refine ZS (fun w hi => copy_ok s Ad Ar cd cr w (h w hi.keep)) ?_
 rintro _ _ ⟨_, ⟨A1, c1, A2, c2, rfl, rfl⟩, rfl⟩
 refine ZM ?_
 refine Zn (Zt (Zs (Zs (Zr (wl_loadRow Zh (fun _ => rfl) (fun _ => rfl) (Zv rfl) rfl ?_)))))
 refine ZS (fun w hi => HR2 A1 A2 c1 c2 w) ?_
 rintro _ _ ⟨_, ⟨rfl, rfl⟩, rfl⟩
 iterate 2 refine ZA ?_
 iterate 2 refine ZB ?_
 iterate 2 refine ZA ?_
 iterate 2 refine ZB ?_
 refine ZA ?_
 refine Zn (Zt (wc_cond_f rfl (rfl) ?_))
 refine Zc (Zt (Zs (Zr (wl_pick (row b4 (s.cells (.slice A1 s.d.length c1) (.slice A2 s.r.length c2)) 34 :: row b8 (St.zero.cells (.slice none 0 0) (.slice none 0 0)) 34 :: guF bu bb L D s ⟨A1, c1, A2, c2⟩ Y U d) Zj ?_))))
 refine ZFa 14 ?_
 refine ZC ?_
 refine ZA ?_
 refine Zn (Zt (Zs (Zx ?_)))
 refine wc_loop (fun q : Nat × St × SAdr × DAdr × Mmu × Dev => [(1, .pointer (some ⟨bu, 0, none⟩)), (2, .pointer (some ⟨D.bs, 0, none⟩)), (3, .int .i64 m), (4, .pointer (some ⟨b4, 0, none⟩)), (8, .pointer (some ⟨b8, 0, none⟩)), (9, .int .u64 from_)]) (fun q => row b4 (q.2.1.cells (.slice q.2.2.1.Ad q.2.1.d.length q.2.2.1.cd) (.slice q.2.2.1.Ar q.2.1.r.length q.2.2.1.cr)) 34 :: row b8 (St.zero.cells (.slice none 0 0) (.slice none 0 0)) 34 :: guF bu bb L D q.2.1 q.2.2.1 q.2.2.2.1 q.2.2.2.2.1 q.2.2.2.2.2) (fun q => RunOk L.n m from_ o0 q.1 (q.2.1, q.2.2.2.2.1, q.2.2.2.2.2) ∧ q.1 ≤ m.toNat ∧ runGo L.n m from_ (m.toNat - q.1) (q.2.1, q.2.2.2.2.1, q.2.2.2.2.2) = (s9, U9, d9)) (fun q => m.toNat - q.1) (⟨0, s, ⟨A1, c1, A2, c2⟩, Y, U, d⟩) ?_ ?_ ?_ ?_
 ·exact ⟨hk0, Nat.zero_le _, hR0⟩
 ·exact Zwk
 ·((repeat (first | exact List.Sublist.slnil | refine List.Sublist.cons_cons _ ?_ | refine List.Sublist.cons _ ?_)))
 rintro ⟨i, s, X, Y, U, d⟩ ⟨hk, him, hRi⟩
 dsimp only at hk him hRi ⊢
 have hrc : runCond m from_ s = ((decide (0 < m) && !s.halted) && decide (IntKind.u64.wrap (s.count - from_) < m)) := rfl
 refine Zs (Zs (Zr (ZA ?_)))
 iterate 2 refine ZA ?_
 refine ZFb 15 ?_
 refine ZD ?_
 refine ZB ?_
 iterate 2 refine ZA ?_
 refine ZFb 14 ?_
 refine ZD ?_
 refine ZB ?_
 refine Zyy rfl rfl (y_sub (ev_g rfl) (ev_g rfl) rfl) ?_
 refine ZB ?_
 refine Zyy rfl rfl (y_conv rfl rfl (ev_g rfl) (show _ = (bif decide (0 < m) then m else IntKind.u64.wrap m) from by cases hd : decide (0 < m) with | false => rfl | true => (rw [cond_true, IntKind.wrap_u64]; simp only [decide_eq_true_eq] at hd; omega))) ?_
 refine ZB ?_
 refine ZA ?_
 refine Zn (Zt ?_)
 refine wc_cond _ rfl (fun hc5 => ?_) (fun hc5 => ?_)
 ·have hc : runCond m from_ s = true := (by rw [hrc]; revert hc5; cases decide (0 < m) with | false => (intro h; cases h) | true => exact fun h => h)
  obtain ⟨hk2, hilt⟩ := run_step hm (by omega) hk hc
  obtain ⟨k, hkk⟩ : ∃ k, m.toNat - i = k + 1 := ⟨m.toNat - i - 1, by omega⟩
  rw [hkk, runGo_go hc] at hRi
  obtain ⟨hd16, hr16, -⟩ := St.fits hk.g.right
  have hok := hk.out
  dsimp only at hok hd16 hr16
  have HB := fun w hi h ht => block_ok bu bb L D Y s X.Ad X.Ar X.cd X.cr U d hk.g (by omega) w hi h ht
  obtain ⟨⟨s2, U2, d2⟩, hq⟩ : ∃ q, blockTo L.n s U d = q := ⟨_, rfl⟩
  dsimp only at hRi hk2
  rw [hq] at HB hRi hk2
  refine Zc (Zt (Zx (Zr (wl_loadRow Zh (fun _ => rfl) (fun _ => rfl) (Zv rfl) rfl ?_))))
  iterate 2 refine ZA ?_
  refine wl_t (t_callS (ubF bu bb L D Y U d) rfl (fun _ _ => rfl) Zi (fun w hi hin => HB w hin (fun w' hk => hi.rdStKs Zi (show Has _ (slD s X.Ad X.cd) from Zh) (show Has _ (slR s X.Ar X.cr) from Zh) (by omega) (by omega) hk) (fun w' hk => ht w' (hi.past (fun c hc => by simp only [guF, ubF, uF, busF, List.mem_append, List.mem_cons, List.mem_nil_iff] at hc ⊢; grind) hk)))) rfl ?_
  rintro _ _ ⟨_, ⟨X2, Y2, rfl, rfl⟩, rfl⟩
  refine ZM ?_
  refine Zn (Zo ?_)
  refine q_midP ((⟨i + 1, s2, X2, Y2, U2, d2⟩ : Nat × St × SAdr × DAdr × Mmu × Dev)) ?_ ?_ ?_
  ·exact ⟨⟨hk2, show i + 1 ≤ m.toNat by omega, by show runGo L.n m from_ (m.toNat - (i + 1)) (s2, U2, d2) = _; rw [show m.toNat - (i + 1) = k by omega]; exact hRi⟩, show m.toNat - (i + 1) < m.toNat - i by omega⟩
  ·exact Zwk
  exact Zj
 have hc : runCond m from_ s = false := (by rw [hrc]; revert hc5; cases decide (0 < m) with | false => exact fun _ => rfl | true => exact fun h => h)
 rw [runGo_stop hc, Prod.mk.injEq, Prod.mk.injEq] at hRi
 obtain ⟨rfl, rfl, rfl⟩ := hRi
 refine wc_exit ?_
 refine q_then_exit ?_
 refine q_then_exit ?_
 refine q_block_same rfl ?_
 refine Zt (Zs (Zr (wl_loadRow Zh (fun _ => rfl) (fun _ => rfl) (Zv rfl) rfl ?_)))
 refine ZM ?_
 refine Zn (Zt (Ze (qok_pick (row b8 (s.cells (.slice X.Ad s.d.length X.cd) (.slice X.Ar s.r.length X.cr)) 34 :: guF bu bb L D s X Y U d) Zj ?_)))
 refine retC (cs' := (guF bu bb L D s X Y U d)) (.inl rfl) Zu rfl rfl Zh (fun _ => rfl) (fun _ => rfl) ?_
 exact ⟨X, Y, rfl, rfl⟩
end Go.Proofs.YthcpmpmbgbibfaaGreatDoor
