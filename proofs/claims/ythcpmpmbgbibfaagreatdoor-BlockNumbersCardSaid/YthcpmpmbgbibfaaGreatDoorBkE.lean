/- A block's beginning. -/
import Derived.Test.YthcpmpmbgbibfaaGreatDoorBkD
import Derived.Test.YthcpmpmbgbibfaaGreatDoorInkA
set_option linter.unusedSimpArgs false
set_option linter.unusedVariables false
set_option maxRecDepth 100000
namespace Go.Ink
open Go.RowKit
theorem lowFrom_lt {b : Nat} : ∀ {m k x : Nat}, lowFrom b k m = some x → x < k + m
 | 0, _, _, h => by cases h
 | m + 1, k, x, h => by
  unfold lowFrom at h
  cases hc : (b / 2 ^ k % 2 == 1) with
  | true => rw [hc, cond_true] at h; obtain rfl := Option.some.inj h; omega
  | false => rw [hc, cond_false] at h; have := lowFrom_lt h; omega
theorem low_lt {b x : Nat} (h : lowOf b = some x) : x < 8 := by have := lowFrom_lt h; omega
/-- The devices' lines. -/
structure Dev.lines (d : Dev) : Prop where
 mask : 0 ≤ d.mask ∧ d.mask ≤ 255
theorem and_le {p m : Int} (hm : 0 ≤ m ∧ m ≤ 255) : ∃ x : Nat, bits .and .u32 p m = (x : Int) ∧ x < 256 := by
 unfold bits
 simp only
 rw [IntKind.wrap_u32]
 have hmt : (BitVec.ofInt IntKind.u32.bits m).toNat ≤ 255 := by
  rw [BitVec.toNat_ofInt]
  have : (m % ((2 ^ IntKind.u32.bits : Nat) : Int)) = m := Int.emod_eq_of_lt hm.1 (by have : ((2 ^ IntKind.u32.bits : Nat) : Int) = 4294967296 := rfl; omega)
  rw [this]; omega
 have h1 := Nat.and_le_right (n := (BitVec.ofInt IntKind.u32.bits p).toNat) (m := (BitVec.ofInt IntKind.u32.bits m).toNat)
 refine ⟨(BitVec.ofInt IntKind.u32.bits p &&& BitVec.ofInt IntKind.u32.bits m).toNat % 4294967296, ?_, ?_⟩
 ·simp
 rw [BitVec.toNat_and]; omega
theorem beginTo_no {n : Nat} {s : St} {U : Mmu} {d : Dev} (h : (!s.right || s.halted) = true) : beginTo n s U d = ⟨s, 0, false, U, d⟩ := by
 unfold beginTo
 rw [h]
 rfl
theorem beginTo_go {n : Nat} {s s1 : St} {U : Mmu} {d d1 : Dev} (h : (!s.right || s.halted) = false) (hd : d.tick s.count = d1) (hs : told s d1 = s1) : beginTo n s U d = beginGo n s1 U d1 := by
 unfold beginTo
 rw [h, hd, hs]
 rfl
theorem told_yes {s : St} {d : Dev} {x k : Nat} (hx : bits .and .u32 d.pend d.mask = (x : Int)) (ho : lowOf x = some k) (hie : s.ie = true) : told s d = s.trap ((16 + k : Nat) : Int) 0 := by
 unfold told irqOf
 rw [hx, Int.toNat_natCast, ho]
 show (bif s.ie then _ else _) = _
 rw [hie]
 rfl
theorem told_no {s : St} {d : Dev} {x : Nat} (hx : bits .and .u32 d.pend d.mask = (x : Int)) (h : ((lowOf x).isSome && s.ie) = false) : told s d = s := by
 unfold told irqOf
 rw [hx, Int.toNat_natCast]
 cases ho : lowOf x with
 | none => rfl
 | some k =>
  rw [ho] at h
  show (bif s.ie then _ else _) = _
  cases hie : s.ie with
  | true => rw [hie] at h; cases h
  | false => rfl
end Go.Ink
namespace Go.Proofs.YthcpmpmbgbibfaaGreatDoor
open Go.RowKit Go.Ink
attribute [local irreducible] OpY GuardIs

set_option maxHeartbeats 2000000 in
theorem begin_ok (bu bb : Nat) (L : MLoc) (D : DLoc) (Y : DAdr) (s : St) (hwf : s.wf) (Ad Ar : Option Addr) (cd cr : Nat) (U : Mmu) (hT : U.t.length = 16) (d : Dev) (hm : (d.tick s.count).lines) (w : World) (hi : Inv w (blocks (ubF bu bb L D Y U d)) (ubF bu bb L D Y U d) w)
  (h : ∀ w', Keep (blocks (ubF bu bb L D Y U d)) w w' → RdSt w' s Ad Ar cd cr) (ht : ∀ w', Keep (blocks (ubF bu bb L D Y U d)) w w' → TabOk w') :
  Ctr Tryz.prog 24 [sv s Ad cd Ar cr, .pointer (some ⟨bu, 0, none⟩), .pointer (some ⟨D.bs, 0, none⟩)] w (ubF bu bb L D Y U d)
   (fun v cs => ∃ X, v = .agg (begCells (beginTo L.n s U d) X).toArray ∧ cs = [slD (beginTo L.n s U d).s X.Ad X.cd, slR (beginTo L.n s U d).s X.Ar X.cr] ++ ubF bu bb L D Y (beginTo L.n s U d).u (beginTo L.n s U d).d) := by
 have HR := right_ok s Ad Ar cd cr
 have HR2 := fun A B c e w => right_ok s A B c e w
 cases hrh : (!s.right || s.halted) with
 | true =>
  rw [beginTo_no hrh]
  obtain ⟨rt, hrt⟩ : ∃ b, s.right = b := ⟨_, rfl⟩
  rw [hrt] at HR2 hrh
  refine fn_ctr Tryz.func24 rfl Tryz.ntmps24 rfl hi ?_
  refine Zs (Zr (ZO fun b3 => ?_))
  refine ZN fun b6 => ?_
  refine Zn (Zt (Zs (Zr (wl_loadRow Zh (fun _ => rfl) (fun _ => rfl) (Zv rfl) rfl ?_))))
  refine ZS (fun w hi => copy_ok s Ad Ar cd cr w (h w hi.keep)) ?_
  rintro _ _ ⟨_, ⟨A1, c1, A2, c2, rfl, rfl⟩, rfl⟩
  refine ZM ?_
  refine Zn (Zt (Zs (Zs (Zr (wl_loadRow Zh (fun _ => rfl) (fun _ => rfl) (Zv rfl) rfl ?_)))))
  refine ZS (fun w hi => HR2 A1 A2 c1 c2 w) ?_
  rintro _ _ ⟨_, ⟨rfl, rfl⟩, rfl⟩
  iterate 2 refine ZA ?_
  refine ZFb 15 ?_
  refine ZD ?_
  iterate 2 refine ZA ?_
  iterate 2 refine ZB ?_
  iterate 2 refine ZA ?_
  iterate 2 refine ZB ?_
  refine ZA ?_
  refine Zn (Zt (wc_cond_t rfl ((by rw [hrh]; rfl)) ?_))
  refine Zs (Zr (wl_loadRow Zh (fun _ => rfl) (fun _ => rfl) (Zv rfl) rfl ?_))
  refine ZA ?_
  refine ZM ?_
  refine Zn (Zt (Ze (Zw (qok_pick ([row b6 (begCells ⟨s, 0, false, U, d⟩ ⟨A1, c1, A2, c2⟩) 74, slD s A1 c1, slR s A2 c2] ++ ubF bu bb L D Y U d) Zj ?_))))
  refine retC (cs' := ([slD s A1 c1, slR s A2 c2] ++ ubF bu bb L D Y U d)) (.inl rfl) Zu rfl rfl Zh (fun _ => rfl) (fun _ => rfl) ?_
  exact ⟨⟨A1, c1, A2, c2⟩, rfl, rfl⟩
 | false =>
  simp only [Bool.or_eq_false_iff, Bool.not_eq_false'] at hrh
  obtain ⟨hr, hh⟩ := hrh
  obtain ⟨hd16, hr16, hf15⟩ := St.fits hr
  obtain ⟨d1, hd1⟩ : ∃ q, d.tick s.count = q := ⟨_, rfl⟩
  obtain ⟨s1, hs1⟩ : ∃ q, told s d1 = q := ⟨_, rfl⟩
  rw [beginTo_go (by rw [hr, hh]; rfl) hd1 hs1]
  rw [hd1] at hm
  obtain ⟨x, hx, hx256⟩ := and_le (p := d1.pend) hm.mask
  have HN := fun w h ht => irqnext_ok D.bi x d1.pend d1.mask hx hx256 w h ht
  have HK := fun w hi => tick_ok D L.bm Y d s.count w hi
  rw [hd1] at HK
  have hY := fun k h1 h2 => told_yes (s := s) (d := d1) (x := x) (k := k) hx h1 h2
  have hN := fun h1 => told_no (s := s) (d := d1) (x := x) hx h1
  have hlt := fun k (h : lowOf x = some k) => low_lt h
  obtain ⟨o, ho⟩ : ∃ o, lowOf x = o := ⟨_, rfl⟩
  rw [ho] at HN hY hN hlt
  have hw1 : s1.wf ∧ s1.d.length ≤ 16 ∧ s1.r.length ≤ 16 := by
   cases hc : (o.isSome && s.ie) with
   | true =>
    cases o with
    | none => cases hc
    | some k =>
     have hie : s.ie = true := hc
     rw [← hs1, hY k rfl hie]
     exact ⟨⟨hwf.vec, hwf.flags, hwf.root, hwf.vec, hwf.pc, wrap_u32 _, u0, hwf.count, hwf.d, hwf.r⟩, hd16, hr16⟩
   | false => rw [← hs1, hN hc]; exact ⟨hwf, hd16, hr16⟩
  obtain ⟨hwf1, hs16, hq16⟩ := hw1
  refine fn_ctr Tryz.func24 rfl Tryz.ntmps24 rfl hi ?_
  refine Zs (Zr (ZO fun b3 => ?_))
  refine ZN fun b6 => ?_
  refine Zn (Zt (Zs (Zr (wl_loadRow Zh (fun _ => rfl) (fun _ => rfl) (Zv rfl) rfl ?_))))
  refine ZS (fun w hi => copy_ok s Ad Ar cd cr w (h w hi.keep)) ?_
  rintro _ _ ⟨_, ⟨A1, c1, A2, c2, rfl, rfl⟩, rfl⟩
  refine ZM ?_
  refine Zn (Zt (Zs (Zs (Zr (wl_loadRow Zh (fun _ => rfl) (fun _ => rfl) (Zv rfl) rfl ?_)))))
  refine ZS (fun w hi => HR2 A1 A2 c1 c2 w) ?_
  rintro _ _ ⟨_, ⟨rfl, rfl⟩, rfl⟩
  iterate 2 refine ZA ?_
  refine ZFb 15 ?_
  refine ZD ?_
  iterate 2 refine ZA ?_
  iterate 2 refine ZB ?_
  iterate 2 refine ZA ?_
  iterate 2 refine ZB ?_
  refine ZA ?_
  refine Zn (Zt (wc_cond_f rfl ((by rw [hr, hh]; rfl)) ?_))
  refine Zc (Zt (Zs (Zr (ZA ?_))))
  refine ZFa 14 ?_
  refine ZC ?_
  refine wl_t (t_callS (busF D L.bm Y d) rfl (fun _ _ => rfl) Zi (fun w hi hin => HK w hin)) rfl ?_
  rintro _ _ ⟨_, ⟨rfl, rfl⟩, rfl⟩
  refine Zn (Zt ?_)
  refine wc_seq_mid (fun X : SAdr => [(1, .pointer (some ⟨bu, 0, none⟩)), (3, .pointer (some ⟨b3, 0, none⟩)), (6, .pointer (some ⟨b6, 0, none⟩))]) (fun X => [row b3 (s1.cells (.slice X.Ad s1.d.length X.cd) (.slice X.Ar s1.r.length X.cr)) 34, row b6 (begCells ⟨St.zero, 0, false, U, d⟩ ⟨none, 0, none, 0⟩) 74, slD s1 X.Ad X.cd, slR s1 X.Ar X.cr] ++ ubF bu bb L D Y U d1) (fun _ => True) ?_ ?_
  ·refine Zs (Zr (ZA ?_))
   refine ZA ?_
   refine ZFa 0 ?_
   refine ZC ?_
   refine ZS (fun w hi => HN w (hi.get Zh) (ht w hi.keep)) ?_
   rintro _ _ ⟨_, ⟨rfl, rfl⟩, rfl⟩
   iterate 5 refine ZA ?_
   refine Zn (Zt (Zs (Zr (ZA ?_))))
   refine ZA ?_
   refine ZFb 6 ?_
   refine ZD ?_
   refine ZA ?_
   refine Zn (Zt ?_)
   refine wc_cond _ rfl (fun hc6 => ?_) (fun hc6 => ?_)
   ·obtain ⟨k, rfl⟩ : ∃ k, o = some k := (by cases o with | none => cases hc6 | some k => exact ⟨k, rfl⟩)
    have hk8 := hlt k rfl
    obtain rfl : s1 = s.trap ((16 + k : Nat) : Int) 0 := (by rw [← hs1]; exact hY k rfl hc6)
    refine Zr (wl_loadRow Zh (fun _ => rfl) (fun _ => rfl) (Zv rfl) rfl ?_)
    refine ZA ?_
    refine Zy (y_add (Zv rfl) (Zv rfl) (show _ = ((16 + k : Nat) : Int) from by rw [IntWalk.i64_in _ ⟨by show -9223372036854775808 ≤ (16 : Int) + ((k : Nat) : Int); omega, by show (16 : Int) + ((k : Nat) : Int) ≤ 9223372036854775807; omega⟩]; show (16 : Int) + ((k : Nat) : Int) = _; omega)) ?_
    refine ZS (fun w hi => trap_ok s A1 A2 c1 c2 ((16 + k : Nat) : Int) 0 w (hi.rdSt (show Has _ (slD s A1 c1) from Zh) (show Has _ (slR s A2 c2) from Zh) (by omega) (by omega))) ?_
    rintro _ _ ⟨_, ⟨A3, c3, A4, c4, rfl, rfl⟩, rfl⟩
    refine ZM ?_
    refine Zn ?_
    refine q_midP ((⟨A3, c3, A4, c4⟩ : SAdr)) ?_ ?_ ?_
    ·trivial
    ·exact Zwk
    exact Zj
   obtain rfl : s1 = s := (by rw [← hs1]; exact hN hc6)
   refine Zc ?_
   refine q_midP ((⟨A1, c1, A2, c2⟩ : SAdr)) ?_ ?_ ?_
   ·trivial
   ·exact Zwk
   exact Zj
  rintro ⟨A5, c5, A6, c6⟩ -
  clear hY hN hs1
  obtain ⟨pc, dd, rr, fl, su, pg, ie, rt, ve, ep, ca, ad, es, ei, co, ha⟩ := s1
  obtain ⟨pcN, rfl⟩ : ∃ m : Nat, pc = m := Int.eq_ofNat_of_zero_le hwf1.pc.1
  obtain ⟨rtN, rfl⟩ : ∃ m : Nat, rt = m := Int.eq_ofNat_of_zero_le hwf1.root.1
  have hpc2 := hwf1.pc.2
  have hrt2 := hwf1.root.2
  dsimp only at hpc2 hrt2 hs16 hq16
  have HP := fun w hi => uplace_ok bu bb L U hT ⟨pg, su, rtN⟩ (show rtN ≤ 4294967295 by omega) pcN (by omega) 1 w hi
  have hgo : beginGo L.n ⟨pcN, dd, rr, fl, su, pg, ie, rtN, ve, ep, ca, ad, es, ei, co, ha⟩ U d1 = (bif (placeTo L.n U ⟨pg, su, rtN⟩ pcN 1).1.2.cause != 0 then ⟨St.trap (St.next ⟨pcN, dd, rr, fl, su, pg, ie, rtN, ve, ep, ca, ad, es, ei, co, ha⟩) (placeTo L.n U ⟨pg, su, rtN⟩ pcN 1).1.2.cause (placeTo L.n U ⟨pg, su, rtN⟩ pcN 1).1.2.addr, 0, false, (placeTo L.n U ⟨pg, su, rtN⟩ pcN 1).2, d1⟩ else ⟨⟨pcN, dd, rr, fl, su, pg, ie, rtN, ve, ep, ca, ad, es, ei, co, ha⟩, (placeTo L.n U ⟨pg, su, rtN⟩ pcN 1).1.1, true, (placeTo L.n U ⟨pg, su, rtN⟩ pcN 1).2, d1⟩) := rfl
  obtain ⟨⟨⟨pl, ⟨tc, ta⟩⟩, U1⟩, hq⟩ : ∃ q, placeTo L.n U ⟨pg, su, rtN⟩ pcN 1 = q := ⟨_, rfl⟩
  rw [hq] at HP hgo
  dsimp only at hgo
  rw [hgo]
  refine Zs (Zr (ZA ?_))
  refine ZFa 5 ?_
  refine ZC ?_
  refine ZFa 4 ?_
  refine ZC ?_
  refine ZFa 7 ?_
  refine ZC ?_
  refine ZA ?_
  refine ZFa 0 ?_
  refine ZC ?_
  refine wl_t (t_callS (uF bu bb L U) rfl (fun _ _ => rfl) Zi (fun w hi hin => HP w hin)) rfl ?_
  rintro _ _ ⟨_, ⟨rfl, rfl⟩, rfl⟩
  iterate 3 refine ZA ?_
  refine ZN fun b10 => ?_
  refine ZA ?_
  refine ZM ?_
  refine Zn (Zt (Zs (Zs (Zr (ZFa 0 ?_)))))
  refine ZC ?_
  refine ZA ?_
  refine Zn (Zt ?_)
  refine wc_cond _ rfl (fun hc9 => ?_) (fun hc9 => ?_)
  ·rw [hc9, cond_true]
   refine Zs (Zr (ZFa 14 ?_))
   refine ZC ?_
   refine Zy (y_add (Zv rfl) (Zv rfl) rfl) ?_
   refine ZFa 14 ?_
   refine ZL ?_
   refine Zn (Zt (Zs (Zr (wl_loadRow Zh (fun _ => rfl) (fun _ => rfl) (Zv rfl) rfl ?_))))
   refine ZFa 0 ?_
   refine ZC ?_
   refine ZFa 1 ?_
   refine ZC ?_
   refine ZS (fun w hi => trap_ok (St.next ⟨pcN, dd, rr, fl, su, pg, ie, rtN, ve, ep, ca, ad, es, ei, co, ha⟩) A5 A6 c5 c6 tc ta w (hi.rdSt (show Has _ (sl .u32 30 A5 dd.length c5 dd) from Zh) (show Has _ (sl .u32 30 A6 rr.length c6 rr) from Zh) (show dd.length * 4 ≤ _ by omega) (show rr.length * 4 ≤ _ by omega))) ?_
   rintro _ _ ⟨_, ⟨A7, c7, A8, c8, rfl, rfl⟩, rfl⟩
   refine ZA ?_
   refine ZM ?_
   refine Zn (Zt (Ze (Zw (qok_pick ([row b6 (begCells ⟨St.trap (St.next ⟨pcN, dd, rr, fl, su, pg, ie, rtN, ve, ep, ca, ad, es, ei, co, ha⟩) tc ta, 0, false, U1, d1⟩ ⟨A7, c7, A8, c8⟩) 74, sl .u32 30 A7 dd.length c7 dd, sl .u32 30 A8 rr.length c8 rr] ++ ubF bu bb L D Y U1 d1) Zj ?_))))
   refine retC (cs' := ([sl .u32 30 A7 dd.length c7 dd, sl .u32 30 A8 rr.length c8 rr] ++ ubF bu bb L D Y U1 d1)) (.inl rfl) Zu rfl rfl Zh (fun _ => rfl) (fun _ => rfl) ?_
   exact ⟨⟨A7, c7, A8, c8⟩, rfl, rfl⟩
  rw [hc9, cond_false]
  refine Zc (Zt (Zs (Zr (wl_loadRow Zh (fun _ => rfl) (fun _ => rfl) (Zv rfl) rfl ?_))))
  iterate 2 refine ZA ?_
  refine ZM ?_
  refine Zn (Zt (Ze (qok_pick ([row b6 (begCells ⟨⟨pcN, dd, rr, fl, su, pg, ie, rtN, ve, ep, ca, ad, es, ei, co, ha⟩, pl, true, U1, d1⟩ ⟨A5, c5, A6, c6⟩) 74, sl .u32 30 A5 dd.length c5 dd, sl .u32 30 A6 rr.length c6 rr] ++ ubF bu bb L D Y U1 d1) Zj ?_)))
  refine retC (cs' := ([sl .u32 30 A5 dd.length c5 dd, sl .u32 30 A6 rr.length c6 rr] ++ ubF bu bb L D Y U1 d1)) (.inl rfl) Zu rfl rfl Zh (fun _ => rfl) (fun _ => rfl) ?_
  exact ⟨⟨A5, c5, A6, c6⟩, rfl, rfl⟩
end Go.Proofs.YthcpmpmbgbibfaaGreatDoor
