/- The document's Ld and St. -/
import Derived.Test.YthcpmpmbgbibfaaGreatDoorSsD
import Derived.Test.YthcpmpmbgbibfaaGreatDoorInkA
import Derived.Test.YthcpmpmbgbibfaaGreatDoorSsE
import Derived.Test.YthcpmpmbgbibfaaGreatDoorSsG
set_option linter.unusedSimpArgs false
set_option linter.unusedVariables false
set_option maxRecDepth 100000
namespace Go.Ink
open Go.RowKit
theorem keepCell {w : World} {S : List Nat} {cs : List Chunk} {n c j : Nat} {ad : Addr} {xs : List Value} {v : Value} (h : ∀ w', Keep S w w' → RdV w' 1 (some ad) n c xs) (hv : xs[j]? = some v) : ∀ w', Inv w S cs w' → cells [(ad.add (j * 1), v)] w' := fun w' hi z hz => by
 rw [List.mem_singleton] at hz
 subst hz
 rw [Nat.mul_one]
 exact (h w' hi.keep).at_ ad rfl j v hv
theorem devNot {n v p : Nat} (h : PlaceOk n v (p : Int)) (hn : n ≤ 64) : (!decide (p + 1 ≤ n * 64)) = decide ((32768 : Int) ≤ (p : Int)) := by
 rcases h.r with h1 | h1
 ·rw [decide_eq_true (show p + 1 ≤ n * 64 by omega), decide_eq_false (by omega)]; rfl
 unfold isDev at h1
 simp only [Bool.and_eq_true, decide_eq_true_eq] at h1
 rw [decide_eq_false (show ¬ (p + 1 ≤ n * 64) by omega), decide_eq_true h1.1]; rfl
section
variable {n : Nat} {R : Run} {U U' : Mmu} {d : Dev} {va v : Nat} {p : Nat} {tr : Tr}
theorem lodeTo_mis (h : (((va % 4 : Nat) : Int) != 0) = true) : lodeTo n R U d va = ⟨R.wt ⟨6, va⟩, U, d⟩ := by
 unfold lodeTo wholeTo
 rw [h]
 rfl
theorem lodeTo_trap (h : (((va % 4 : Nat) : Int) != 0) = false) (hp : placeTo n U R.sp va 2 = (((p : Int), tr), U')) (hc : (tr.cause != 0) = true) : lodeTo n R U d va = ⟨R.wdv tr false, U', d⟩ := by
 have e : (tr.cause == 0) = false := by simpa using hc
 unfold lodeTo wholeTo
 rw [h, hp]
 simp only [cond_false, e, Bool.not_false, cond_true, Bool.false_and]
theorem lodeTo_in (h : (((va % 4 : Nat) : Int) != 0) = false) (hp : placeTo n U R.sp va 2 = (((p : Int), Tr.none), U')) : lodeTo n R U d va = bif decide ((32768 : Int) ≤ (p : Int)) then lodeIn ⟨(p : Int), true, R.wdv Tr.none true, U'⟩ (devLoad d (devK p) R.count).2 va (devLoad d (devK p) R.count).1.1 (devLoad d (devK p) R.count).1.2 else lodeIn ⟨(p : Int), true, R.wdv Tr.none false, U'⟩ d va (wordOf n U'.m p).1 (wordOf n U'.m p).2 := by
 have e : (Tr.none.cause == 0) = true := rfl
 unfold lodeTo wholeTo
 rw [h, hp]
 simp only [cond_false, e, Bool.not_true, Bool.true_and, Int.toNat_natCast]
 cases decide ((32768 : Int) ≤ (p : Int)) <;> rfl
theorem stowTo_mis (h : (((va % 4 : Nat) : Int) != 0) = true) : stowTo n R U d va v = ⟨R.wt ⟨6, va⟩, U, d⟩ := by
 unfold stowTo wholeTo
 rw [h]
 rfl
theorem stowTo_trap (h : (((va % 4 : Nat) : Int) != 0) = false) (hp : placeTo n U R.sp va 3 = (((p : Int), tr), U')) (hc : (tr.cause != 0) = true) : stowTo n R U d va v = ⟨R.wdv tr false, U', d⟩ := by
 have e : (tr.cause == 0) = false := by simpa using hc
 unfold stowTo wholeTo
 rw [h, hp]
 simp only [cond_false, e, Bool.not_false, cond_true, Bool.false_and]
theorem stowTo_in (h : (((va % 4 : Nat) : Int) != 0) = false) (hp : placeTo n U R.sp va 3 = (((p : Int), Tr.none), U')) : stowTo n R U d va v = bif decide ((32768 : Int) ≤ (p : Int)) then ⟨bif !(devStore n U'.m d (devK p) v).1 then (R.wdv Tr.none true).wt ⟨10, va⟩ else R.wdv Tr.none true, ⟨(devStore n U'.m d (devK p) v).2.1, U'.t⟩, (devStore n U'.m d (devK p) v).2.2⟩ else ⟨R.wdv Tr.none false, ⟨U'.m.putW p v, U'.t⟩, d⟩ := by
 have e : (Tr.none.cause == 0) = true := rfl
 unfold stowTo wholeTo
 rw [h, hp]
 simp only [cond_false, e, Bool.not_true, Bool.true_and, Int.toNat_natCast]
 cases decide ((32768 : Int) ≤ (p : Int)) <;> rfl
end
end Go.Ink
namespace Go.Proofs.YthcpmpmbgbibfaaGreatDoor
open Go.RowKit Go.Ink
attribute [local irreducible] OpY GuardIs

abbrev reF (br : Nat) (X : SAdr) (x : St) (dv : Bool) (K : RMLoc) (bx n : Nat) (U : Mmu) (b bd : Nat) (Z : DAdr) (d : Dev) : List Chunk := rsF br X x dv ++ (ruF K bx n U ++ refBF b K.bm bd Z d)
/-- What a part of the document's instruction comes to. -/
def ReTo (br : Nat) (K : RMLoc) (bx n b bd : Nat) (m : Mach) (v : Value) (cs : List Chunk) : Prop :=
 ∃ X' x' Z', v = .tuple #[.int .i64 m.r.trap.cause, .int .u32 m.r.trap.addr] ∧ cs = reF br X' x' m.r.device K bx n m.u b bd Z' m.d ∧ (m.r.trap.cause = 0 → x' = m.r.s)
set_option maxHeartbeats 4000000 in
theorem refwholeL_ok (br : Nat) (X : SAdr) (R : Run) (K : RMLoc) (bx n : Nat) (U : Mmu) (b bd : Nat) (Z : DAdr) (d : Dev) (hM : MOk n U.m) (hT : U.t.length = 16) (hd : d.wf) (pc nn : Int) (l : List Int) (va : Nat) (hva : va ≤ 4294967295) (hl : l.length ≤ 100000) (hroot : u32 R.s.root) (hdv : R.device = false) (hcn : R.count = R.s.count)
  (Ad Ar : Option Addr) (cd cr : Nat) (w : World) (hi : Inv w (blocks (reF br X (R.wd (l ++ [(va : Int)])).s false K bx n U b bd Z d)) (reF br X (R.wd (l ++ [(va : Int)])).s false K bx n U b bd Z d) w)
  (h : ∀ w', Keep (blocks (reF br X (R.wd (l ++ [(va : Int)])).s false K bx n U b bd Z d)) w w' → RdSt w' ((R.wd (l ++ [(va : Int)])).s.wpc pc) Ad Ar cd cr) :
  Ctr Tryz.prog 165 [sv ((R.wd (l ++ [(va : Int)])).s.wpc pc) Ad cd Ar cr, .agg #[.int .i64 48, .int .u32 nn], .pointer (some ⟨bx, 0, none⟩), .pointer (some ⟨b, 0, none⟩), .pointer (some ⟨br, 0, none⟩)] w (reF br X (R.wd (l ++ [(va : Int)])).s false K bx n U b bd Z d)
   (ReTo br K bx n b bd (lodeTo n (R.wd l) U d va)) := by
 have hn := hM.n64
 obtain ⟨rt, hrt⟩ : ∃ m : Nat, R.s.root = m := Int.eq_ofNat_of_zero_le hroot.1
 have hrt2 : (rt : Int) ≤ 4294967295 := by rw [← hrt]; exact hroot.2
 have hlen : (l ++ [(va : Int)]).length = l.length + 1 := by simp
 have hdl : ((R.wd (l ++ [(va : Int)])).s.wpc pc).d.length = l.length + 1 := hlen
 have hdl2 : (R.wd (l ++ [(va : Int)])).s.d.length = l.length + 1 := hlen
 have hdl3 : (⟨R.s.pc, l ++ [(va : Int)], R.s.r, R.s.flags, R.s.super, R.s.paging, R.s.ie, R.s.root, R.s.vec, R.s.epc, R.s.cause, R.s.addr, R.s.esuper, R.s.eie, R.s.count, R.s.halted⟩ : St).d.length = l.length + 1 := hlen
 obtain ⟨ad, rfl⟩ := (h w (Keep.refl _ _)).d.some_ (by rw [hdl]; omega)
 have HP := refplace_ok K bx n U hM hT R.s.paging R.s.super rt va (by omega) hva 2
 have hsp : (R.wd l).sp = ⟨R.s.paging, R.s.super, rt⟩ := by unfold Run.sp; rw [show (R.wd l).s.root = R.s.root from rfl, hrt]; rfl
 have hpo := placeTo_fact n U ⟨R.s.paging, R.s.super, rt⟩ va hva 2
 have hto := placeTo_told n U ⟨R.s.paging, R.s.super, rt⟩ va 2
 have hMo := hM.placeTo ⟨R.s.paging, R.s.super, rt⟩ va 2 (hM.walk _ _ _ _)
 unfold ReTo
 obtain ⟨⟨⟨p, tr⟩, U'⟩, hp⟩ : ∃ x, placeTo n U ⟨R.s.paging, R.s.super, rt⟩ va 2 = x := ⟨_, rfl⟩
 rw [hp] at HP hpo hto hMo
 rw [← hsp] at hp
 rw [← hrt] at HP
 dsimp only at HP hpo hto hMo
 obtain ⟨p, rfl⟩ : ∃ m : Nat, p = m := Int.eq_ofNat_of_zero_le hpo.1.1
 have hpu : (p : Int) ≤ 4294967295 := hpo.1.2
 refine fn_ctr Tryz.func165 rfl Tryz.ntmps165 rfl hi ?_
 refine Zs (Zr (ZO fun b5 => ?_))
 refine ZO fun b6 => ?_
 iterate 2 refine ZA ?_
 refine Zn (Zt (Zs (Zr (ZA ?_))))
 refine ZA ?_
 refine ZFa 0 ?_
 refine ZA ?_
 refine Zn (Zt (Zs (Zr (ZFa 1 ?_))))
 refine ZC ?_
 iterate 2 refine ZA ?_
 refine Zn (Zt (Zs (Zr (ZFa 1 ?_))))
 refine ZC ?_
 refine ZA ?_
 refine Zy (y_sub (Zv rfl) (Zv rfl) (show _ = (l.length : Int) from by rw [hdl]; exact IntWalk.i64_in _ ⟨by omega, by omega⟩ |>.trans (by omega))) ?_
 refine Zy (y_index (j := l.length)  rfl (fun _ => rfl) (Zv rfl) (Zv rfl)  (fun _ => by omega) (fun _ => by omega)) ?_
 refine wl_y (y_load (fun _ => rfl) (Zv rfl)) (keepCell (fun w' hk => (h w' hk).d) (ints_at (snoc_get l (va : Int)))) rfl ?_
 refine ZA ?_
 refine Zn (Zt (Zs (Zr (ZA ?_))))
 refine Zn (Zt (Zs (Zs (Zr (ZFa 0 ?_)))))
 refine ZC ?_
 refine ZA ?_
 refine Zn (Zt (wc_cond_f rfl (rfl) ?_))
 refine Zc (Zt (Zs (Zs (Zr (ZA ?_)))))
 refine Zy (y_rem (Zv rfl) (Zv rfl) (by omega) (show _ = ((va % 4 : Nat) : Int) from by rw [Int.tmod_eq_emod_of_nonneg (by omega)]; omega)) ?_
 refine ZA ?_
 refine Zn (Zt ?_)
 refine wc_cond _ rfl (fun hc7 => ?_) (fun hc7 => ?_)
 ·rw [lodeTo_mis hc7]
  refine Zs (Zr (ZA ?_))
  iterate 2 refine ZA ?_
  refine Zn (Zt (Ze (Zw (ret2 (cs' := [row _ _ _, slv _ _ _ _ _ _, slv _ _ _ _ _ _, row _ _ _, row _ _ _, slv _ _ _ _ _ _, slv _ _ _ _ _ _, row _ _ _, slv _ _ _ _ _ _, rdC _ _ _ _, slv _ _ _ _ _ _]) (.inl rfl) Zu rfl rfl rfl ?_))))
  refine ⟨X, (R.wd (l ++ [(va : Int)])).s, Z, rfl, ?_, fun e => by cases e⟩
  show _ = reF br X (R.wd (l ++ [(va : Int)])).s R.device K bx n U b bd Z d
  rw [hdv]
  rfl
 refine Zc (Zt (Zs (Zr (ZA ?_))))
 refine ZFa 5 ?_
 refine ZC ?_
 refine ZFa 4 ?_
 refine ZC ?_
 refine ZFa 7 ?_
 refine ZC ?_
 iterate 2 refine ZA ?_
 refine wl_t (t_callS (ruF K bx n U) rfl (fun _ _ => rfl) Zi (fun w hi hin => HP w hin)) rfl ?_
 rintro _ _ ⟨_, ⟨rfl, rfl⟩, rfl⟩
 iterate 3 refine ZA ?_
 refine ZN fun b17 => ?_
 refine ZA ?_
 refine wl_t0 (t_storeN (vs := tr.cells) (fun _ => rfl) rfl rfl (allT rfl) Za (by exact rfl)) ?_
 rintro _ _ ⟨rfl, rfl⟩
 refine Zn (Zt (Zs (Zs (Zr (ZFa 0 ?_)))))
 refine ZC ?_
 refine ZA ?_
 refine Zn (Zt ?_)
 refine wc_cond _ rfl (fun hc10 => ?_) (fun hc10 => ?_)
 ·rw [lodeTo_trap hc7 hp hc10]
  refine Zs (wc_draw ⟨fun j => List.elem j [], []⟩ Zk ?_)
  refine ZFe 0 0 ?_
  refine ZG 1 ?_
  refine ZFe 2 1 ?_
  refine ZG 3 ?_
  refine ZE 4 ?_
  refine ZE 5 ?_
  refine wa_done Zk ?_
  refine Zt (Ze (Zw (qok_pick (reF br X (R.wd (l ++ [(va : Int)])).s false K bx n U' b bd Z d) Zj ?_)))
  refine ret2 (cs' := [row _ _ _, slv _ _ _ _ _ _, slv _ _ _ _ _ _, row _ _ _, row _ _ _, slv _ _ _ _ _ _, slv _ _ _ _ _ _, row _ _ _, slv _ _ _ _ _ _, rdC _ _ _ _, slv _ _ _ _ _ _]) (.inl rfl) Zu rfl rfl rfl ?_
  exact ⟨X, (R.wd (l ++ [(va : Int)])).s, Z, rfl, rfl, fun e => by (have e : tr.cause = 0 := e; rw [e] at hc10; cases hc10)⟩
 obtain rfl := hto (by simpa using hc10)
 have hP := hpo.2 rfl
 have hin4 : p % 64 = va % 64 := (by have := hP.m; omega)
 have hva4 : va % 4 = 0 := (by have h1 : ((va % 4 : Nat) : Int) = 0 := (by simpa using hc7); omega)
 rw [lodeTo_in hc7 hp]
 have hdn := devNot hP hn
 have hbig : ¬ (32768 : Int) ≤ (p : Int) → p + 4 ≤ n * 64 := (fun hx => by have := dev_big (by unfold isDev; rw [decide_eq_false hx]; rfl) hP; omega)
 refine Zc (Zt (Zs (Zr (ZA ?_))))
 refine ZA ?_
 refine ZFa 0 ?_
 refine ZC ?_
 refine ZA ?_
 refine Zy (y_conv rfl rfl (Zv rfl) (u64_wrap_id _ (by omega) (by omega))) ?_
 refine ZS (fun w hi => refhas_ok K n hn p 1 (by omega) (by decide) w (hi.get Zh)) ?_
 rintro _ _ ⟨_, ⟨rfl, rfl⟩, rfl⟩
 refine ZA ?_
 rw [hdn]
 obtain ⟨dv, hdv2⟩ : ∃ x, decide ((32768 : Int) ≤ (p : Int)) = x := ⟨_, rfl⟩
 rw [hdv2]
 refine ZA ?_
 refine Zn (Zt (Zs (Zr (ZA ?_))))
 iterate 2 refine ZA ?_
 refine ZFa 17 ?_
 refine ZL ?_
 refine Zn (Zt (Zs (Zs (Zr (ZA ?_)))))
 refine ZA ?_
 refine Zn (Zt (wc_cond_t rfl (rfl) ?_))
 refine Zs (Zr (ZA ?_))
 refine ZA ?_
 refine Zn (Zt ?_)
 refine wc_seq_mid (fun q : (Int × Bool) × DAdr × Dev => [(12, .pointer (some ⟨br, 0, none⟩)), (13, .int .i64 ((l.length + 1 : Nat) : Int)), (14, .int .u32 (va : Int)), (19, .int .u32 q.1.1), (20, .bool q.1.2)]) (fun q => reF br X (R.wd (l ++ [(va : Int)])).s dv K bx n U' b bd q.2.1 q.2.2) (fun q => (bif dv then lodeIn ⟨(p : Int), true, (R.wd l).wdv Tr.none true, U'⟩ (devLoad d (devK p) R.count).2 va (devLoad d (devK p) R.count).1.1 (devLoad d (devK p) R.count).1.2 else lodeIn ⟨(p : Int), true, (R.wd l).wdv Tr.none false, U'⟩ d va (wordOf n U'.m p).1 (wordOf n U'.m p).2) = lodeIn ⟨(p : Int), true, (R.wd l).wdv Tr.none dv, U'⟩ q.2.2 va q.1.1 q.1.2) ?_ ?_
 ·refine Zs (Zr (ZA ?_))
  refine Zn (Zt ?_)
  refine wc_cond _ rfl (fun hc16 => ?_) (fun hc16 => ?_)
  ·obtain rfl : dv = true := hc16
   refine Zr (ZA ?_)
   refine ZA ?_
   refine ZFa 14 ?_
   refine ZC ?_
   refine wl_t (t_callS (refBF b K.bm bd Z d) rfl (fun _ _ => rfl) Zi (fun w hi hin => refbload_ok b K.bm bd Z d hd p R.s.count w hin)) rfl ?_
   rintro _ _ ⟨_, ⟨Z', rfl, rfl⟩, rfl⟩
   iterate 5 refine ZA ?_
   refine Zn ?_
   refine q_midP ((⟨⟨(devLoad d (devK p) R.s.count).1.1, (devLoad d (devK p) R.s.count).1.2⟩, Z', (devLoad d (devK p) R.s.count).2⟩ : (Int × Bool) × DAdr × Dev)) ?_ ?_ ?_
   ·(show (bif true then lodeIn ⟨(p : Int), true, (R.wd l).wdv Tr.none true, U'⟩ (devLoad d (devK p) R.count).2 va (devLoad d (devK p) R.count).1.1 (devLoad d (devK p) R.count).1.2 else _) = _; rw [hcn]; rfl)
   ·exact Zwk
   exact Zj
  obtain rfl : dv = false := hc16
  have hp4 := hbig (by simpa using hdv2)
  have hwo : wordOf n U'.m p = (wordAt U'.m.data p, true) := (by unfold wordOf; rw [decide_eq_true hp4]; rfl)
  refine Zr (ZA ?_)
  refine ZA ?_
  refine ZFa 0 ?_
  refine ZC ?_
  refine ZA ?_
  refine Zy (y_conv rfl rfl (Zv rfl) (u64_wrap_id _ (by omega) (by omega))) ?_
  refine ZS (fun w hi => refword_ok8 K n U'.m hMo p hp4 w (hi.get Zh) (hi.get (show Has _ (rmB K n U'.m) from Zh))) ?_
  rintro _ _ ⟨_, ⟨rfl, rfl⟩, rfl⟩
  refine ZA ?_
  refine Zn ?_
  refine q_midP ((⟨⟨wordAt U'.m.data p, true⟩, Z, d⟩ : (Int × Bool) × DAdr × Dev)) ?_ ?_ ?_
  ·(show (bif false then _ else lodeIn ⟨(p : Int), true, (R.wd l).wdv Tr.none false, U'⟩ d va (wordOf n U'.m p).1 (wordOf n U'.m p).2) = _; rw [hwo]; rfl)
  ·exact Zwk
  exact Zj
 rintro ⟨⟨v1, ok1⟩, Z', d'⟩ hq
 dsimp only at hq ⊢
 rw [hq]
 refine Zs (Zs (Zr (ZA ?_)))
 refine ZA ?_
 refine Zn (Zt ?_)
 refine wc_cond _ rfl (fun hc19 => ?_) (fun hc19 => ?_)
 ·have hk : ok1 = false := (by simpa using hc19)
  subst hk
  refine Zs (Zr (ZA ?_))
  iterate 2 refine ZA ?_
  refine Zn (Zt (Ze (Zw (Zw (ret2 (cs' := [row _ _ _, slv _ _ _ _ _ _, slv _ _ _ _ _ _, row _ _ _, row _ _ _, slv _ _ _ _ _ _, slv _ _ _ _ _ _, row _ _ _, slv _ _ _ _ _ _, rdC _ _ _ _, slv _ _ _ _ _ _]) (.inl rfl) Zu rfl rfl rfl ?_)))))
  exact ⟨X, (R.wd (l ++ [(va : Int)])).s, Z', rfl, rfl, fun e => by cases e⟩
 have hk : ok1 = true := (by simpa using hc19)
 subst hk
 obtain ⟨XA, Xc, XB, Xd⟩ := X
 refine wc_fact (fun w hi => slv_some (hi.get (show Has _ (slD (R.wd (l ++ [(va : Int)])).s XA Xc) from Zh)) (show 0 < (l ++ [(va : Int)]).length by omega)) (fun hA => ?_)
 obtain ⟨bd2, rfl⟩ := hA
 refine Zc (Zt (Zr (ZA ?_)))
 refine ZA ?_
 refine ZFa 1 ?_
 refine ZC ?_
 refine ZA ?_
 refine Zy (y_sub (Zv rfl) (Zv rfl) (show _ = (l.length : Int) from IntWalk.i64_in _ ⟨by omega, by omega⟩ |>.trans (by omega))) ?_
 refine ZA ?_
 refine Zy (y_indexR (j := l.length) (sz := 1) (r := l.length) rfl (fun _ => rfl) (Zv rfl) (Zv rfl) (fun _ => by omega) (fun _ => by omega) (by omega)) ?_
 refine wl_t0 (t_storeS (fun _ => rfl) rfl rfl rfl Za (by omega)) ?_
 rintro _ _ ⟨rfl, rfl⟩
 rw [ints_set', show (R.wd (l ++ [(va : Int)])).s.d.set l.length v1 = l ++ [v1] from set_last l va v1]
 refine Zn (Zt (Zs (Zr (ZA ?_))))
 refine ZA ?_
 refine Zn (Zt (Ze (ret2 (cs' := [row _ _ _, slv _ _ _ _ _ _, slv _ _ _ _ _ _, row _ _ _, row _ _ _, slv _ _ _ _ _ _, slv _ _ _ _ _ _, row _ _ _, slv _ _ _ _ _ _, rdC _ _ _ _, slv _ _ _ _ _ _]) (.inl rfl) Zu rfl rfl rfl ?_)))
 refine ⟨⟨some ⟨bd2, 0, none⟩, Xc, XB, Xd⟩, (R.wd (l ++ [v1])).s, Z', rfl, ?_, fun _ => rfl⟩
 show _ = reF br ⟨some ⟨bd2, 0, none⟩, Xc, XB, Xd⟩ (R.wd (l ++ [v1])).s dv K bx n U' b bd Z' d'
 simp only [reF, rsF, rsRow, slD, slR, List.length_append, List.length_cons, List.length_nil, List.cons_append, List.nil_append]
set_option maxHeartbeats 4000000 in
theorem refwholeS_ok (br : Nat) (X : SAdr) (R : Run) (K : RMLoc) (bx n : Nat) (U : Mmu) (b bd : Nat) (Z : DAdr) (d : Dev) (hM : MOk n U.m) (hT : U.t.length = 16) (hd : d.wf) (ho : d.out.length ≤ 1000000000) (pc nn : Int) (l : List Int) (v va : Nat) (hv : v ≤ 4294967295) (hva : va ≤ 4294967295) (hl : l.length ≤ 100000) (hroot : u32 R.s.root) (hdv : R.device = false)
  (Ad Ar : Option Addr) (cd cr : Nat) (w : World) (hi : Inv w (blocks (reF br X (R.wd ((l ++ [(v : Int)]) ++ [(va : Int)])).s false K bx n U b bd Z d)) (reF br X (R.wd ((l ++ [(v : Int)]) ++ [(va : Int)])).s false K bx n U b bd Z d) w)
  (h : ∀ w', Keep (blocks (reF br X (R.wd ((l ++ [(v : Int)]) ++ [(va : Int)])).s false K bx n U b bd Z d)) w w' → RdSt w' ((R.wd ((l ++ [(v : Int)]) ++ [(va : Int)])).s.wpc pc) Ad Ar cd cr) :
  Ctr Tryz.prog 165 [sv ((R.wd ((l ++ [(v : Int)]) ++ [(va : Int)])).s.wpc pc) Ad cd Ar cr, .agg #[.int .i64 49, .int .u32 nn], .pointer (some ⟨bx, 0, none⟩), .pointer (some ⟨b, 0, none⟩), .pointer (some ⟨br, 0, none⟩)] w (reF br X (R.wd ((l ++ [(v : Int)]) ++ [(va : Int)])).s false K bx n U b bd Z d)
   (ReTo br K bx n b bd (stowTo n (R.wd l) U d va v)) := by
 have hn := hM.n64
 obtain ⟨rt, hrt⟩ : ∃ m : Nat, R.s.root = m := Int.eq_ofNat_of_zero_le hroot.1
 have hrt2 : (rt : Int) ≤ 4294967295 := by rw [← hrt]; exact hroot.2
 have hlen : ((l ++ [(v : Int)]) ++ [(va : Int)]).length = l.length + 2 := by simp
 have hdl : ((R.wd ((l ++ [(v : Int)]) ++ [(va : Int)])).s.wpc pc).d.length = l.length + 2 := hlen
 have hdl2 : (R.wd ((l ++ [(v : Int)]) ++ [(va : Int)])).s.d.length = l.length + 2 := hlen
 have hdl3 : (⟨R.s.pc, (l ++ [(v : Int)]) ++ [(va : Int)], R.s.r, R.s.flags, R.s.super, R.s.paging, R.s.ie, R.s.root, R.s.vec, R.s.epc, R.s.cause, R.s.addr, R.s.esuper, R.s.eie, R.s.count, R.s.halted⟩ : St).d.length = l.length + 2 := hlen
 obtain ⟨ad, rfl⟩ := (h w (Keep.refl _ _)).d.some_ (by rw [hdl]; omega)
 have HP := refplace_ok K bx n U hM hT R.s.paging R.s.super rt va (by omega) hva 3
 have hsp : (R.wd l).sp = ⟨R.s.paging, R.s.super, rt⟩ := by unfold Run.sp; rw [show (R.wd l).s.root = R.s.root from rfl, hrt]; rfl
 have hpo := placeTo_fact n U ⟨R.s.paging, R.s.super, rt⟩ va hva 3
 have hto := placeTo_told n U ⟨R.s.paging, R.s.super, rt⟩ va 3
 have hMo := hM.placeTo ⟨R.s.paging, R.s.super, rt⟩ va 3 (hM.walk _ _ _ _)
 unfold ReTo
 obtain ⟨⟨⟨p, tr⟩, U'⟩, hp⟩ : ∃ x, placeTo n U ⟨R.s.paging, R.s.super, rt⟩ va 3 = x := ⟨_, rfl⟩
 rw [hp] at HP hpo hto hMo
 rw [← hsp] at hp
 rw [← hrt] at HP
 dsimp only at HP hpo hto hMo
 obtain ⟨p, rfl⟩ : ∃ m : Nat, p = m := Int.eq_ofNat_of_zero_le hpo.1.1
 have hpu : (p : Int) ≤ 4294967295 := hpo.1.2
 refine fn_ctr Tryz.func165 rfl Tryz.ntmps165 rfl hi ?_
 refine Zs (Zr (ZO fun b5 => ?_))
 refine ZO fun b6 => ?_
 iterate 2 refine ZA ?_
 refine Zn (Zt (Zs (Zr (ZA ?_))))
 refine ZA ?_
 refine ZFa 0 ?_
 refine ZA ?_
 refine Zn (Zt (Zs (Zr (ZFa 1 ?_))))
 refine ZC ?_
 iterate 2 refine ZA ?_
 refine Zn (Zt (Zs (Zr (ZFa 1 ?_))))
 refine ZC ?_
 refine ZA ?_
 refine Zy (y_sub (Zv rfl) (Zv rfl) (show _ = ((l.length + 1 : Nat) : Int) from by rw [hdl]; exact IntWalk.i64_in _ ⟨by omega, by omega⟩ |>.trans (by omega))) ?_
 refine Zy (y_index (j := (l.length + 1))  rfl (fun _ => rfl) (Zv rfl) (Zv rfl)  (fun _ => by omega) (fun _ => by omega)) ?_
 refine wl_y (y_load (fun _ => rfl) (Zv rfl)) (keepCell (fun w' hk => (h w' hk).d) (ints_at (snoc2_get1 l (v : Int) (va : Int)))) rfl ?_
 refine ZA ?_
 refine Zn (Zt (Zs (Zr (ZA ?_))))
 refine Zn (Zt (Zs (Zs (Zr (ZFa 0 ?_)))))
 refine ZC ?_
 refine ZA ?_
 refine Zn (Zt (wc_cond_t rfl (rfl) ?_))
 refine Zr (ZA ?_)
 refine Zn (Zt (Zs (Zs (Zr (ZA ?_)))))
 refine Zy (y_rem (Zv rfl) (Zv rfl) (by omega) (show _ = ((va % 4 : Nat) : Int) from by rw [Int.tmod_eq_emod_of_nonneg (by omega)]; omega)) ?_
 refine ZA ?_
 refine Zn (Zt ?_)
 refine wc_cond _ rfl (fun hc7 => ?_) (fun hc7 => ?_)
 ·rw [stowTo_mis hc7]
  refine Zs (Zr (ZA ?_))
  iterate 2 refine ZA ?_
  refine Zn (Zt (Ze (Zw (ret2 (cs' := [row _ _ _, slv _ _ _ _ _ _, slv _ _ _ _ _ _, row _ _ _, row _ _ _, slv _ _ _ _ _ _, slv _ _ _ _ _ _, row _ _ _, slv _ _ _ _ _ _, rdC _ _ _ _, slv _ _ _ _ _ _]) (.inl rfl) Zu rfl rfl rfl ?_))))
  refine ⟨X, (R.wd ((l ++ [(v : Int)]) ++ [(va : Int)])).s, Z, rfl, ?_, fun e => by cases e⟩
  show _ = reF br X (R.wd ((l ++ [(v : Int)]) ++ [(va : Int)])).s R.device K bx n U b bd Z d
  rw [hdv]
  rfl
 refine Zc (Zt (Zs (Zr (ZA ?_))))
 refine ZFa 5 ?_
 refine ZC ?_
 refine ZFa 4 ?_
 refine ZC ?_
 refine ZFa 7 ?_
 refine ZC ?_
 iterate 2 refine ZA ?_
 refine wl_t (t_callS (ruF K bx n U) rfl (fun _ _ => rfl) Zi (fun w hi hin => HP w hin)) rfl ?_
 rintro _ _ ⟨_, ⟨rfl, rfl⟩, rfl⟩
 iterate 3 refine ZA ?_
 refine ZN fun b17 => ?_
 refine ZA ?_
 refine wl_t0 (t_storeN (vs := tr.cells) (fun _ => rfl) rfl rfl (allT rfl) Za (by exact rfl)) ?_
 rintro _ _ ⟨rfl, rfl⟩
 refine Zn (Zt (Zs (Zs (Zr (ZFa 0 ?_)))))
 refine ZC ?_
 refine ZA ?_
 refine Zn (Zt ?_)
 refine wc_cond _ rfl (fun hc10 => ?_) (fun hc10 => ?_)
 ·rw [stowTo_trap hc7 hp hc10]
  refine Zs (wc_draw ⟨fun j => List.elem j [], []⟩ Zk ?_)
  refine ZFe 0 0 ?_
  refine ZG 1 ?_
  refine ZFe 2 1 ?_
  refine ZG 3 ?_
  refine ZE 4 ?_
  refine ZE 5 ?_
  refine wa_done Zk ?_
  refine Zt (Ze (Zw (qok_pick (reF br X (R.wd ((l ++ [(v : Int)]) ++ [(va : Int)])).s false K bx n U' b bd Z d) Zj ?_)))
  refine ret2 (cs' := [row _ _ _, slv _ _ _ _ _ _, slv _ _ _ _ _ _, row _ _ _, row _ _ _, slv _ _ _ _ _ _, slv _ _ _ _ _ _, row _ _ _, slv _ _ _ _ _ _, rdC _ _ _ _, slv _ _ _ _ _ _]) (.inl rfl) Zu rfl rfl rfl ?_
  exact ⟨X, (R.wd ((l ++ [(v : Int)]) ++ [(va : Int)])).s, Z, rfl, rfl, fun e => by (have e : tr.cause = 0 := e; rw [e] at hc10; cases hc10)⟩
 obtain rfl := hto (by simpa using hc10)
 have hP := hpo.2 rfl
 have hin4 : p % 64 = va % 64 := (by have := hP.m; omega)
 have hva4 : va % 4 = 0 := (by have h1 : ((va % 4 : Nat) : Int) = 0 := (by simpa using hc7); omega)
 rw [stowTo_in hc7 hp]
 have hdn := devNot hP hn
 have hbig : ¬ (32768 : Int) ≤ (p : Int) → p + 4 ≤ n * 64 := (fun hx => by have := dev_big (by unfold isDev; rw [decide_eq_false hx]; rfl) hP; omega)
 refine Zc (Zt (Zs (Zr (ZA ?_))))
 refine ZA ?_
 refine ZFa 0 ?_
 refine ZC ?_
 refine ZA ?_
 refine Zy (y_conv rfl rfl (Zv rfl) (u64_wrap_id _ (by omega) (by omega))) ?_
 refine ZS (fun w hi => refhas_ok K n hn p 1 (by omega) (by decide) w (hi.get Zh)) ?_
 rintro _ _ ⟨_, ⟨rfl, rfl⟩, rfl⟩
 refine ZA ?_
 rw [hdn]
 obtain ⟨dv, hdv2⟩ : ∃ x, decide ((32768 : Int) ≤ (p : Int)) = x := ⟨_, rfl⟩
 rw [hdv2]
 refine ZA ?_
 refine Zn (Zt (Zs (Zr (ZA ?_))))
 iterate 2 refine ZA ?_
 refine ZFa 17 ?_
 refine ZL ?_
 refine Zn (Zt (Zs (Zs (Zr (ZA ?_)))))
 refine ZA ?_
 refine Zn (Zt (wc_cond_f rfl (rfl) ?_))
 refine wc_seq_mid (fun q : DAdr × Mmu × Dev => [(12, .pointer (some ⟨br, 0, none⟩)), (13, .int .i64 ((l.length + 2 : Nat) : Int))]) (fun q => reF br X (R.wd ((l ++ [(v : Int)]) ++ [(va : Int)])).s dv K bx n q.2.1 b bd q.1 q.2.2) (fun q => (bif dv then (⟨bif !(devStore n U'.m d (devK p) v).1 then ((R.wd l).wdv Tr.none true).wt ⟨10, va⟩ else (R.wd l).wdv Tr.none true, ⟨(devStore n U'.m d (devK p) v).2.1, U'.t⟩, (devStore n U'.m d (devK p) v).2.2⟩ : Mach) else ⟨(R.wd l).wdv Tr.none false, ⟨U'.m.putW p v, U'.t⟩, d⟩) = ⟨(R.wd l).wdv Tr.none dv, q.2.1, q.2.2⟩) ?_ ?_
 ·refine Zs (Zr (ZA ?_))
  refine Zn (Zt ?_)
  refine wc_cond _ rfl (fun hc22 => ?_) (fun hc22 => ?_)
  ·obtain rfl : dv = true := hc22
   simp only [cond_true]
   have HB := fun w hin => refbstore_ok b bd K n U'.m hMo Z d hd ho p v hv w hin
   obtain ⟨⟨ok1, M1, d1⟩, hq1⟩ : ∃ q, devStore n U'.m d (devK p) v = q := ⟨_, rfl⟩
   rw [hq1] at HB ⊢
   refine Zs (Zr (ZA ?_))
   refine ZA ?_
   refine ZFa 1 ?_
   refine ZC ?_
   refine ZA ?_
   refine Zy (y_sub (Zv rfl) (Zv rfl) (show _ = (l.length : Int) from by first | exact IntWalk.i64_in _ ⟨by omega, by omega⟩ |>.trans (by omega) | (rw [hdl]; exact IntWalk.i64_in _ ⟨by omega, by omega⟩ |>.trans (by omega)))) ?_
   refine Zy (y_index (j := l.length)  rfl (fun _ => rfl) (Zv rfl) (Zv rfl)  (fun _ => by omega) (fun _ => by omega)) ?_
   refine wl_y (y_load (fun _ => rfl) (Zv rfl)) (keepCell (fun w' hk => (h w' hk).d) (ints_at (snoc2_get l (v : Int) (va : Int)))) rfl ?_
   refine wl_t (t_callS (refBF b K.bm bd Z d ++ rmF K n U'.m) rfl (fun _ _ => rfl) Zi (fun w hi hin => HB w hin)) rfl ?_
   rintro _ _ ⟨_, ⟨Z', rfl, rfl⟩, rfl⟩
   refine ZA ?_
   refine Zn (Zt ?_)
   refine wc_cond _ rfl (fun hc23 => ?_) (fun hc23 => ?_)
   ·have hk : ok1 = false := (by simpa using hc23)
    subst hk
    refine Zs (Zr (ZA ?_))
    iterate 2 refine ZA ?_
    refine Zn (Zt (Ze (Zw (Zw (qok_pick (reF br X (R.wd ((l ++ [(v : Int)]) ++ [(va : Int)])).s true K bx n ⟨M1, U'.t⟩ b bd Z' d1) Zj ?_)))))
    refine ret2 (cs' := [row _ _ _, slv _ _ _ _ _ _, slv _ _ _ _ _ _, row _ _ _, row _ _ _, slv _ _ _ _ _ _, slv _ _ _ _ _ _, row _ _ _, slv _ _ _ _ _ _, rdC _ _ _ _, slv _ _ _ _ _ _]) (.inl rfl) Zu rfl rfl rfl ?_
    exact ⟨X, (R.wd ((l ++ [(v : Int)]) ++ [(va : Int)])).s, Z', rfl, rfl, fun e => by cases e⟩
   have hk : ok1 = true := (by simpa using hc23)
   subst hk
   refine Zc ?_
   refine q_midP ((⟨Z', ⟨M1, U'.t⟩, d1⟩ : DAdr × Mmu × Dev)) ?_ ?_ ?_
   ·exact rfl
   ·exact Zwk
   exact Zj
  obtain rfl : dv = false := hc22
  simp only [cond_false]
  have hp4 := hbig (by simpa using hdv2)
  refine Zs (Zr (wl_pick (reF br X (R.wd ((l ++ [(v : Int)]) ++ [(va : Int)])).s false K bx n U' b bd Z d ++ [row b5 (((R.wd ((l ++ [(v : Int)]) ++ [(va : Int)])).s.wpc pc).cells (.slice (some ad) ((R.wd ((l ++ [(v : Int)]) ++ [(va : Int)])).s.wpc pc).d.length cd) (.slice Ar R.s.r.length cr)) 34]) Zj ?_))
  refine ZA ?_
  refine Zn (Zt (Zx ?_))
  refine wc_loop (fun k : Nat => [(2, .pointer (some ⟨bx, 0, none⟩)), (5, .pointer (some ⟨b5, 0, none⟩)), (12, .pointer (some ⟨br, 0, none⟩)), (13, .int .i64 ((l.length + 2 : Nat) : Int)), (16, .int .u32 (p : Int)), (21, .int .u32 (k : Int))]) (fun k => reF br X (R.wd ((l ++ [(v : Int)]) ++ [(va : Int)])).s false K bx n ⟨U'.m.putTo p v k, U'.t⟩ b bd Z d ++ [row b5 (((R.wd ((l ++ [(v : Int)]) ++ [(va : Int)])).s.wpc pc).cells (.slice (some ad) ((R.wd ((l ++ [(v : Int)]) ++ [(va : Int)])).s.wpc pc).d.length cd) (.slice Ar R.s.r.length cr)) 34]) (fun k => k ≤ 4) (fun k => 4 - k) (0) ?_ ?_ ?_ ?_
  ·exact Nat.zero_le _
  ·exact Zwk
  ·((repeat (first | exact List.Sublist.slnil | refine List.Sublist.cons_cons _ ?_ | refine List.Sublist.cons _ ?_)))
  rintro k hk
  refine Zs (Zs (Zr (ZA ?_)))
  refine ZA ?_
  refine Zn (Zt ?_)
  refine wc_cond _ rfl (fun hc26 => ?_) (fun hc26 => ?_)
  ·simp only [decide_eq_true_eq] at hc26
   have hk4 : k < 4 := (by omega)
   refine Zc (Zt (Zs (Zx (wc_draw ⟨fun j => List.elem j [17], []⟩ Zk ?_))))
   refine ZE 0 ?_
   refine ZE 1 ?_
   refine ZFe 2 0 ?_
   refine ZG 3 ?_
   refine ZE 4 ?_
   refine ZE 5 ?_
   refine wa_yn 6 rfl Zk Zk Zk (y_add (Zv rfl) (Zv rfl) (show _ = ((p + k : Nat) : Int) from (u32_wrap_id _ (by omega) (by omega)).trans (by omega))) rfl ?_
   refine ZFe 7 1 ?_
   refine ZE 9 ?_
   refine wa_yn 10 rfl Zk Zk Zk (y_sub (Zv rfl) (Zv rfl) (show _ = (l.length : Int) from IntWalk.i64_in _ ⟨by omega, by omega⟩ |>.trans (by omega))) rfl ?_
   refine ZE 13 ?_
   refine wa_yn 14 rfl Zk Zk Zk (y_mul (Zv rfl) (Zv rfl) (show _ = ((8 * k : Nat) : Int) from (u32_wrap_id _ (by omega) (by omega)).trans (by omega))) rfl ?_
   refine wa_1 8 Zk ?_
   refine wi_yn rfl (y_load (fun _ => rfl) (Zv rfl)) (row_cell Zh rfl) rfl ?_
   refine wa_yn 11 rfl Zk Zk Zk (y_index (j := l.length)  rfl (fun _ => rfl) (Zv rfl) (Zv rfl)  (fun _ => by omega) (fun _ => by omega)) rfl ?_
   refine wa_1 12 Zk ?_
   refine wi_yn rfl (y_load (fun _ => rfl) (Zv rfl)) (keepCell (fun w' hk => (h w' hk).d) (ints_at (snoc2_get l (v : Int) (va : Int)))) rfl ?_
   refine wa_yn 15 rfl Zk Zk Zk (y_shr (Zv rfl) (Zv rfl) (by omega) rfl) rfl ?_
   refine wa_yn 16 rfl Zk Zk Zk (y_conv rfl rfl (Zv rfl) (wbyte_shrU (v : Int) hk4)) rfl ?_
   refine wa_1 17 Zk ?_
   refine wi_t rfl rfl (t_callS (rmF K n (U'.m.putTo p v k)) rfl (fun _ _ => rfl) Zi (fun w hi hin => refput_ok K n (U'.m.putTo p v k) (hMo.putTo (v : Int) k (by omega)) (p + k) (by omega) (wbyte v k) w hin)) (fun _ _ _ _ _ _ _ h => by cases h) rfl ?_
   rintro _ _ ⟨_, ⟨rfl, rfl⟩, rfl⟩
   refine wa_done Zk ?_
   refine Zo (Zt (Zr (ZA ?_)))
   refine Zy (y_add (Zv rfl) (Zv rfl) (show _ = ((k + 1 : Nat) : Int) from (u32_wrap_id _ (by omega) (by omega)).trans (by omega))) ?_
   refine ZA ?_
   refine Zn ?_
   refine q_midP (k + 1) ?_ ?_ ?_
   ·exact ⟨by show k + 1 ≤ 4; omega, by show 4 - (k + 1) < 4 - k; omega⟩
   ·exact Zwk
   exact Zj
  simp only [decide_eq_false_iff_not] at hc26
  obtain rfl : k = 4 := (by omega)
  refine wc_exit ?_
  refine q_then_exit ?_
  refine q_then_exit ?_
  refine q_block_same rfl ?_
  refine q_midP ((⟨Z, ⟨U'.m.putTo p v 4, U'.t⟩, d⟩ : DAdr × Mmu × Dev)) ?_ ?_ ?_
  ·exact rfl
  ·exact Zwk
  exact Zj
 rintro ⟨Z', U2, d'⟩ hq
 dsimp only at hq ⊢
 rw [hq]
 obtain ⟨XA, Xc, XB, Xd⟩ := X
 refine wc_fact (fun w hi => slv_some (hi.get (show Has _ (slD (R.wd ((l ++ [(v : Int)]) ++ [(va : Int)])).s XA Xc) from Zh)) (show 0 < ((l ++ [(v : Int)]) ++ [(va : Int)]).length by omega)) (fun hA => ?_)
 obtain ⟨bd2, rfl⟩ := hA
 refine wc_fact (fun w hi => (slvok_rd (hi.get (show Has _ (slD (R.wd ((l ++ [(v : Int)]) ++ [(va : Int)])).s (some ⟨bd2, 0, none⟩) Xc) from Zh))).cap) (fun hcap => ?_)
 have hcap : ((l ++ [(v : Int)]) ++ [(va : Int)]).length ≤ Xc := hcap
 have hcap2 : ((l ++ [(v : Int)]) ++ [(va : Int)]).length ≤ (SAdr.mk (some ⟨bd2, 0, none⟩) Xc XB Xd).cd := hcap
 refine Zr (ZA ?_)
 iterate 2 refine ZA ?_
 refine ZFa 1 ?_
 refine ZC ?_
 refine ZA ?_
 refine Zy (y_sub (Zv rfl) (Zv rfl) (show _ = (l.length : Int) from IntWalk.i64_in _ ⟨by omega, by omega⟩ |>.trans (by omega))) ?_
 refine Zy (y_slice0 (l.length) rfl (fun _ => rfl) (Zv rfl) (Zv rfl) (fun _ => by first | rfl | omega) (fun _ => by omega)) ?_
 refine ZA ?_
 refine ZFa 1 ?_
 refine ZL ?_
 refine Zn (Zt (Zs (Zr (ZA ?_))))
 refine ZA ?_
 refine Zn (Zt (Ze (qok_conv (c := slD (R.wd ((l ++ [(v : Int)]) ++ [(va : Int)])).s (some ⟨bd2, 0, none⟩) Xc) (c' := slD (R.wd l).s (some ⟨bd2, 0, none⟩) Xc) Za rfl (fun w h => sl_pop (sl_pop h)) ?_)))
 refine ret2 (cs' := [row _ _ _, slv _ _ _ _ _ _, slv _ _ _ _ _ _, row _ _ _, row _ _ _, slv _ _ _ _ _ _, slv _ _ _ _ _ _, row _ _ _, slv _ _ _ _ _ _, rdC _ _ _ _, slv _ _ _ _ _ _]) (.inl rfl) Zu rfl rfl rfl ?_
 exact ⟨⟨some ⟨bd2, 0, none⟩, Xc, XB, Xd⟩, (R.wd l).s, Z', rfl, rfl, fun _ => rfl⟩
end Go.Proofs.YthcpmpmbgbibfaaGreatDoor
