/- The document's loads and stores, wherever they begin. -/
import Derived.Test.YthcpmpmbgbibfaaGreatDoorSsH
import Derived.Test.YthcpmpmbgbibfaaGreatDoorInkA
set_option linter.unusedSimpArgs false
set_option linter.unusedVariables false
set_option maxRecDepth 100000
namespace Go.Ink
open Go.RowKit
theorem keep_trans {S : List Nat} {w0 w w' : World} (h : Keep S w0 w) (h2 : Keep S w w') : Keep S w0 w' :=
 ⟨h2.os.trans h.os, h2.tape.trans h.tape, h2.output.trans h.output, Nat.le_trans h.size h2.size, fun b hb hS => (h2.block b (Nat.lt_of_lt_of_le hb h.size) hS).trans (h.block b hb hS)⟩
theorem spanTo_told (n : Nat) (U : Mmu) (s : Sp) (va k : Nat) (kind : Int) : (spanTo n U s va k kind).1.2.cause = 0 → (spanTo n U s va k kind).1.2 = Tr.none := by
 have h1 := placeTo_told n U s va kind
 have h2 := placeTo_told n (placeTo n U s va kind).2 s (nextPage va) kind
 have hE : ∀ a b t V, (t.cause = 0 → t = Tr.none) → (spanEnd a b va k t V).1.2.cause = 0 → (spanEnd a b va k t V).1.2 = Tr.none := fun a b t V ht => by
  unfold spanEnd
  refine cond_all (fun q : (List Int × Tr) × Mmu => q.1.2.cause = 0 → q.1.2 = Tr.none) (fun e => by cases e) ?_
  exact cond_all (fun q : (List Int × Tr) × Mmu => q.1.2.cause = 0 → q.1.2 = Tr.none) (fun e => by cases e) ht
 unfold spanTo span1
 refine cond_all (fun q : (List Int × Tr) × Mmu => q.1.2.cause = 0 → q.1.2 = Tr.none) h1 ?_
 refine cond_all (fun q : (List Int × Tr) × Mmu => q.1.2.cause = 0 → q.1.2 = Tr.none) ?_ (hE _ _ _ _ h1)
 unfold span2
 exact cond_all (fun q : (List Int × Tr) × Mmu => q.1.2.cause = 0 → q.1.2 = Tr.none) h2 (hE _ _ _ _ h2)
end Go.Ink
namespace Go.Proofs.YthcpmpmbgbibfaaGreatDoor
open Go.RowKit Go.Ink
attribute [local irreducible] OpY GuardIs

set_option maxHeartbeats 4000000 in
theorem refreachL_ok (br : Nat) (X : SAdr) (R : Run) (K : RMLoc) (bx n : Nat) (U : Mmu) (b bd : Nat) (Z : DAdr) (d : Dev) (hM : MOk n U.m) (hT : U.t.length = 16) (hd : d.wf) (pc nn : Int) (l : List Int) (va : Nat) (hva : va ≤ 4294967295) (hl : l.length ≤ 100000) (hroot : u32 R.s.root) (hdv : R.device = false) (hcn : R.count = R.s.count)
  (Ad Ar : Option Addr) (cd cr : Nat) (w : World) (hi : Inv w (blocks (reF br X (R.wd (l ++ [(va : Int)])).s false K bx n U b bd Z d)) (reF br X (R.wd (l ++ [(va : Int)])).s false K bx n U b bd Z d) w)
  (h : ∀ w', Keep (blocks (reF br X (R.wd (l ++ [(va : Int)])).s false K bx n U b bd Z d)) w w' → RdSt w' ((R.wd (l ++ [(va : Int)])).s.wpc pc) Ad Ar cd cr) :
  Ctr Tryz.prog 128 [sv ((R.wd (l ++ [(va : Int)])).s.wpc pc) Ad cd Ar cr, .agg #[.int .i64 48, .int .u32 nn], .pointer (some ⟨bx, 0, none⟩), .pointer (some ⟨b, 0, none⟩), .pointer (some ⟨br, 0, none⟩)] w (reF br X (R.wd (l ++ [(va : Int)])).s false K bx n U b bd Z d)
   (ReTo br K bx n b bd (lodeTo n (R.wd l) U d va)) := by
 have hlen : (l ++ [(va : Int)]).length = l.length + 1 := by simp
 have hdl : ((R.wd (l ++ [(va : Int)])).s.wpc pc).d.length = l.length + 1 := hlen
 obtain ⟨ad, rfl⟩ := (h w (Keep.refl _ _)).d.some_ (by rw [hdl]; omega)
 have HW := fun w hin h => refwholeL_ok br X R K bx n U b bd Z d hM hT hd pc nn l va hva hl hroot hdv hcn (some ad) Ar cd cr w hin h
 refine fn_ctr Tryz.func128 rfl Tryz.ntmps128 rfl hi ?_
 refine Zs (Zr (ZO fun b5 => ?_))
 refine ZO fun b6 => ?_
 iterate 2 refine ZA ?_
 refine Zn (Zt (Zs (Zr (ZA ?_))))
 refine ZA ?_
 refine ZFa 0 ?_
 refine ZA ?_
 refine Zn (Zt (Zs (Zr (ZFa 1 ?_))))
 refine ZC ?_
 iterate 2 refine ZA ?_
 refine Zn (Zt (Zs (Zr (ZFa 1 ?_))))
 refine ZC ?_
 refine ZA ?_
 refine Zy (y_sub (Zv rfl) (Zv rfl) (show _ = (l.length : Int) from by rw [hdl]; exact IntWalk.i64_in _ ⟨by omega, by omega⟩ |>.trans (by omega))) ?_
 refine Zy (y_index (j := l.length)  rfl (fun _ => rfl) (Zv rfl) (Zv rfl)  (fun _ => by omega) (fun _ => by omega)) ?_
 refine wl_y (y_load (fun _ => rfl) (Zv rfl)) (keepCell (fun w' hk => (h w' hk).d) (ints_at (snoc_get l (va : Int)))) rfl ?_
 refine ZA ?_
 refine Zn (Zt (Zs (Zs (Zr (ZA ?_)))))
 iterate 2 refine ZA ?_
 iterate 2 refine ZB ?_
 refine ZA ?_
 refine Zn (Zt (wc_cond_f rfl (rfl) ?_))
 refine Zc (Zt (Zs (Zr (ZA ?_))))
 refine Zn (Zt (Zs (Zs (Zr (ZFa 0 ?_)))))
 refine ZC ?_
 iterate 2 refine ZA ?_
 refine ZFb 0 ?_
 refine ZD ?_
 refine ZB ?_
 refine ZA ?_
 refine Zn (Zt (wc_cond_f rfl (rfl) ?_))
 refine Zc (Zt (Zs (Zs (Zr (ZFa 0 ?_)))))
 refine ZC ?_
 iterate 2 refine ZA ?_
 refine ZFb 0 ?_
 refine ZD ?_
 refine ZB ?_
 refine ZA ?_
 refine Zn (Zt (wc_cond_t rfl (rfl) ?_))
 refine Zs (Zr (wl_loadRow Zh (fun _ => rfl) (fun _ => rfl) (Zv rfl) rfl ?_))
 refine wl_loadRow Zh (fun _ => rfl) (fun _ => rfl) (Zv rfl) rfl ?_
 iterate 3 refine ZA ?_
 refine wl_t (t_callS (reF br X (R.wd (l ++ [(va : Int)])).s false K bx n U b bd Z d) rfl (fun _ _ => rfl) Zi (fun w hi hin => HW w hin (fun w' hk => h w' (keep_trans hi.keep hk)))) rfl ?_
 rintro _ _ ⟨_, ⟨X', x', Z', rfl, rfl, hz⟩, rfl⟩
 iterate 4 refine ZA ?_
 refine Zn (Zt (Ze (Zw (qok_pick (reF br X' x' (lodeTo n (R.wd l) U d va).r.device K bx n (lodeTo n (R.wd l) U d va).u b bd Z' (lodeTo n (R.wd l) U d va).d) Zj ?_))))
 refine ret2 (cs' := [row _ _ _, slv _ _ _ _ _ _, slv _ _ _ _ _ _, row _ _ _, row _ _ _, slv _ _ _ _ _ _, slv _ _ _ _ _ _, row _ _ _, slv _ _ _ _ _ _, rdC _ _ _ _, slv _ _ _ _ _ _]) (.inl rfl) Zu rfl rfl rfl ?_
 exact ⟨X', x', Z', rfl, rfl, hz⟩
set_option maxHeartbeats 4000000 in
theorem refreachS_ok (br : Nat) (X : SAdr) (R : Run) (K : RMLoc) (bx n : Nat) (U : Mmu) (b bd : Nat) (Z : DAdr) (d : Dev) (hM : MOk n U.m) (hT : U.t.length = 16) (hd : d.wf) (ho : d.out.length ≤ 1000000000) (pc nn : Int) (l : List Int) (v va : Nat) (hv : v ≤ 4294967295) (hva : va ≤ 4294967295) (hl : l.length ≤ 100000) (hroot : u32 R.s.root) (hdv : R.device = false)
  (Ad Ar : Option Addr) (cd cr : Nat) (w : World) (hi : Inv w (blocks (reF br X (R.wd ((l ++ [(v : Int)]) ++ [(va : Int)])).s false K bx n U b bd Z d)) (reF br X (R.wd ((l ++ [(v : Int)]) ++ [(va : Int)])).s false K bx n U b bd Z d) w)
  (h : ∀ w', Keep (blocks (reF br X (R.wd ((l ++ [(v : Int)]) ++ [(va : Int)])).s false K bx n U b bd Z d)) w w' → RdSt w' ((R.wd ((l ++ [(v : Int)]) ++ [(va : Int)])).s.wpc pc) Ad Ar cd cr) :
  Ctr Tryz.prog 128 [sv ((R.wd ((l ++ [(v : Int)]) ++ [(va : Int)])).s.wpc pc) Ad cd Ar cr, .agg #[.int .i64 49, .int .u32 nn], .pointer (some ⟨bx, 0, none⟩), .pointer (some ⟨b, 0, none⟩), .pointer (some ⟨br, 0, none⟩)] w (reF br X (R.wd ((l ++ [(v : Int)]) ++ [(va : Int)])).s false K bx n U b bd Z d)
   (ReTo br K bx n b bd (stowTo n (R.wd l) U d va v)) := by
 have hlen : ((l ++ [(v : Int)]) ++ [(va : Int)]).length = l.length + 2 := by simp
 have hdl : ((R.wd ((l ++ [(v : Int)]) ++ [(va : Int)])).s.wpc pc).d.length = l.length + 2 := hlen
 obtain ⟨ad, rfl⟩ := (h w (Keep.refl _ _)).d.some_ (by rw [hdl]; omega)
 have HW := fun w hin h => refwholeS_ok br X R K bx n U b bd Z d hM hT hd ho pc nn l v va hv hva hl hroot hdv (some ad) Ar cd cr w hin h
 refine fn_ctr Tryz.func128 rfl Tryz.ntmps128 rfl hi ?_
 refine Zs (Zr (ZO fun b5 => ?_))
 refine ZO fun b6 => ?_
 iterate 2 refine ZA ?_
 refine Zn (Zt (Zs (Zr (ZA ?_))))
 refine ZA ?_
 refine ZFa 0 ?_
 refine ZA ?_
 refine Zn (Zt (Zs (Zr (ZFa 1 ?_))))
 refine ZC ?_
 iterate 2 refine ZA ?_
 refine Zn (Zt (Zs (Zr (ZFa 1 ?_))))
 refine ZC ?_
 refine ZA ?_
 refine Zy (y_sub (Zv rfl) (Zv rfl) (show _ = ((l.length + 1 : Nat) : Int) from by rw [hdl]; exact IntWalk.i64_in _ ⟨by omega, by omega⟩ |>.trans (by omega))) ?_
 refine Zy (y_index (j := (l.length + 1))  rfl (fun _ => rfl) (Zv rfl) (Zv rfl)  (fun _ => by omega) (fun _ => by omega)) ?_
 refine wl_y (y_load (fun _ => rfl) (Zv rfl)) (keepCell (fun w' hk => (h w' hk).d) (ints_at (snoc2_get1 l (v : Int) (va : Int)))) rfl ?_
 refine ZA ?_
 refine Zn (Zt (Zs (Zs (Zr (ZA ?_)))))
 iterate 2 refine ZA ?_
 iterate 2 refine ZB ?_
 refine ZA ?_
 refine Zn (Zt (wc_cond_f rfl (rfl) ?_))
 refine Zc (Zt (Zs (Zr (ZA ?_))))
 refine Zn (Zt (Zs (Zs (Zr (ZFa 0 ?_)))))
 refine ZC ?_
 iterate 2 refine ZA ?_
 refine ZFb 0 ?_
 refine ZD ?_
 refine ZB ?_
 refine ZA ?_
 refine Zn (Zt (wc_cond_f rfl (rfl) ?_))
 refine Zc (Zt (Zs (Zs (Zr (ZFa 0 ?_)))))
 refine ZC ?_
 iterate 2 refine ZA ?_
 refine ZFb 0 ?_
 refine ZD ?_
 refine ZB ?_
 refine ZA ?_
 refine Zn (Zt (wc_cond_t rfl (rfl) ?_))
 refine Zs (Zr (wl_loadRow Zh (fun _ => rfl) (fun _ => rfl) (Zv rfl) rfl ?_))
 refine wl_loadRow Zh (fun _ => rfl) (fun _ => rfl) (Zv rfl) rfl ?_
 iterate 3 refine ZA ?_
 refine wl_t (t_callS (reF br X (R.wd ((l ++ [(v : Int)]) ++ [(va : Int)])).s false K bx n U b bd Z d) rfl (fun _ _ => rfl) Zi (fun w hi hin => HW w hin (fun w' hk => h w' (keep_trans hi.keep hk)))) rfl ?_
 rintro _ _ ⟨_, ⟨X', x', Z', rfl, rfl, hz⟩, rfl⟩
 iterate 4 refine ZA ?_
 refine Zn (Zt (Ze (Zw (qok_pick (reF br X' x' (stowTo n (R.wd l) U d va v).r.device K bx n (stowTo n (R.wd l) U d va v).u b bd Z' (stowTo n (R.wd l) U d va v).d) Zj ?_))))
 refine ret2 (cs' := [row _ _ _, slv _ _ _ _ _ _, slv _ _ _ _ _ _, row _ _ _, row _ _ _, slv _ _ _ _ _ _, slv _ _ _ _ _ _, row _ _ _, slv _ _ _ _ _ _, rdC _ _ _ _, slv _ _ _ _ _ _]) (.inl rfl) Zu rfl rfl rfl ?_
 exact ⟨X', x', Z', rfl, rfl, hz⟩
set_option maxHeartbeats 4000000 in
theorem refreachU_ok (br : Nat) (X : SAdr) (R : Run) (K : RMLoc) (bx n : Nat) (U : Mmu) (b bd : Nat) (Z : DAdr) (d : Dev) (hM : MOk n U.m) (hT : U.t.length = 16) (op : Int) (k : Nat) (hop : (op = 50 ∧ k = 4) ∨ (op = 52 ∧ k = 1)) (pc nn : Int) (l : List Int) (va : Nat) (hva : va ≤ 4294967295) (hl : l.length ≤ 100000) (hroot : u32 R.s.root) (hdv : R.device = false)
  (Ad Ar : Option Addr) (cd cr : Nat) (w : World) (hi : Inv w (blocks (reF br X (R.wd (l ++ [(va : Int)])).s false K bx n U b bd Z d)) (reF br X (R.wd (l ++ [(va : Int)])).s false K bx n U b bd Z d) w)
  (h : ∀ w', Keep (blocks (reF br X (R.wd (l ++ [(va : Int)])).s false K bx n U b bd Z d)) w w' → RdSt w' ((R.wd (l ++ [(va : Int)])).s.wpc pc) Ad Ar cd cr) :
  Ctr Tryz.prog 128 [sv ((R.wd (l ++ [(va : Int)])).s.wpc pc) Ad cd Ar cr, .agg #[.int .i64 op, .int .u32 nn], .pointer (some ⟨bx, 0, none⟩), .pointer (some ⟨b, 0, none⟩), .pointer (some ⟨br, 0, none⟩)] w (reF br X (R.wd (l ++ [(va : Int)])).s false K bx n U b bd Z d)
   (ReTo br K bx n b bd (Mach.of (sameL n (R.wd l) U va k) d)) := by
 have hk : 1 ≤ k ∧ k ≤ 4 := by omega
 obtain ⟨rt, hrt⟩ : ∃ m : Nat, R.s.root = m := Int.eq_ofNat_of_zero_le hroot.1
 have hrt2 : (rt : Int) ≤ 4294967295 := by rw [← hrt]; exact hroot.2
 have hlen : (l ++ [(va : Int)]).length = l.length + 1 := by simp
 have hdl : ((R.wd (l ++ [(va : Int)])).s.wpc pc).d.length = l.length + 1 := hlen
 have hdl3 : (⟨R.s.pc, l ++ [(va : Int)], R.s.r, R.s.flags, R.s.super, R.s.paging, R.s.ie, R.s.root, R.s.vec, R.s.epc, R.s.cause, R.s.addr, R.s.esuper, R.s.eie, R.s.count, R.s.halted⟩ : St).d.length = l.length + 1 := hlen
 have hdl2 : (R.wd (l ++ [(va : Int)])).s.d.length = l.length + 1 := hlen
 obtain ⟨ad, rfl⟩ := (h w (Keep.refl _ _)).d.some_ (by rw [hdl]; omega)
 have hsp : (R.wd l).sp = ⟨R.s.paging, R.s.super, rt⟩ := by unfold Run.sp; rw [show (R.wd l).s.root = R.s.root from rfl, hrt]; rfl
 have HL := refload_ok K bx n U hM hT R.s.paging R.s.super rt va k (by omega) hva hk.1 hk.2
 have hto := spanTo_told n U ⟨R.s.paging, R.s.super, rt⟩ va k 2
 have hto2 : (loadTo n U ⟨R.s.paging, R.s.super, rt⟩ va k).1.2.cause = 0 → (loadTo n U ⟨R.s.paging, R.s.super, rt⟩ va k).1.2 = Tr.none := hto
 have hsm : sameL n (R.wd l) U va k = (((R.wd l).wt (loadTo n U ⟨R.s.paging, R.s.super, rt⟩ va k).1.2).push [(loadTo n U ⟨R.s.paging, R.s.super, rt⟩ va k).1.1], (loadTo n U ⟨R.s.paging, R.s.super, rt⟩ va k).2) := by unfold sameL; rw [hsp]
 obtain ⟨⟨⟨v1, tr⟩, U'⟩, hq⟩ : ∃ q, loadTo n U ⟨R.s.paging, R.s.super, rt⟩ va k = q := ⟨_, rfl⟩
 rw [hq] at HL hto2 hsm
 rw [← hrt] at HL
 unfold ReTo
 rw [hsm]
 dsimp only at HL hto2
 refine fn_ctr Tryz.func128 rfl Tryz.ntmps128 rfl hi ?_
 refine Zs (Zr (ZO fun b5 => ?_))
 refine ZO fun b6 => ?_
 iterate 2 refine ZA ?_
 refine Zn (Zt (Zs (Zr (ZA ?_))))
 refine ZA ?_
 refine ZFa 0 ?_
 refine ZA ?_
 refine Zn (Zt (Zs (Zr (ZFa 1 ?_))))
 refine ZC ?_
 iterate 2 refine ZA ?_
 refine Zn (Zt (Zs (Zr (ZFa 1 ?_))))
 refine ZC ?_
 refine ZA ?_
 refine Zy (y_sub (Zv rfl) (Zv rfl) (show _ = (l.length : Int) from by rw [hdl]; exact IntWalk.i64_in _ ⟨by omega, by omega⟩ |>.trans (by omega))) ?_
 refine Zy (y_index (j := l.length)  rfl (fun _ => rfl) (Zv rfl) (Zv rfl)  (fun _ => by omega) (fun _ => by omega)) ?_
 refine wl_y (y_load (fun _ => rfl) (Zv rfl)) (keepCell (fun w' hk => (h w' hk).d) (ints_at (snoc_get l (va : Int)))) rfl ?_
 refine ZA ?_
 refine Zn (Zt (Zs (Zs (Zr (ZA ?_)))))
 iterate 2 refine ZA ?_
 iterate 2 refine ZB ?_
 refine ZA ?_
 refine Zn (Zt (wc_cond_f rfl (rfl) ?_))
 refine Zc (Zt (Zs (Zr (ZA ?_))))
 refine Zn (Zt ?_)
 refine wc_seq_mid (fun _ : Unit => [(2, .pointer (some ⟨bx, 0, none⟩)), (5, .pointer (some ⟨b5, 0, none⟩)), (6, .pointer (some ⟨b6, 0, none⟩)), (12, .pointer (some ⟨br, 0, none⟩)), (13, .int .i64 ((R.wd (l ++ [(va : Int)])).s.wpc pc).d.length), (14, .int .u32 (va : Int)), (15, .int .i64 (k : Int))]) (fun _ => reF br X (R.wd (l ++ [(va : Int)])).s false K bx n U b bd Z d ++ [row b5 (((R.wd (l ++ [(va : Int)])).s.wpc pc).cells (.slice (some ad) ((R.wd (l ++ [(va : Int)])).s.wpc pc).d.length cd) (.slice Ar R.s.r.length cr)) 34, row b6 [.int .i64 op, .int .u32 nn] 79]) (fun _ => True) ?_ ?_
 ·refine Zs (Zr (ZFa 0 ?_))
  refine ZC ?_
  iterate 2 refine ZA ?_
  refine ZFb 0 ?_
  refine ZD ?_
  refine ZB ?_
  refine ZA ?_
  refine Zn (Zt ?_)
  refine wc_cond _ rfl (fun hc7 => ?_) (fun hc7 => ?_)
  ·have hk1 : k = 1 := (by rcases hop with ⟨rfl, rfl⟩ | ⟨rfl, rfl⟩; cases hc7; rfl)
   subst hk1
   refine Zr (ZA ?_)
   refine Zn ?_
   refine q_midP (()) ?_ ?_ ?_
   ·trivial
   ·exact Zwk
   exact Zj
  have hk4 : k = 4 := (by rcases hop with ⟨rfl, rfl⟩ | ⟨rfl, rfl⟩; rfl; cases hc7)
  subst hk4
  refine Zc ?_
  refine q_midP (()) ?_ ?_ ?_
  ·trivial
  ·exact Zwk
  exact Zj
 rintro - -
 refine Zs (Zs (Zr (ZFa 0 ?_)))
 refine ZC ?_
 iterate 2 refine ZA ?_
 refine ZFb 0 ?_
 refine ZD ?_
 refine ZB ?_
 refine ZA ?_
 refine Zn (Zt (wc_cond_f rfl ((by rcases hop with ⟨rfl, rfl⟩ | ⟨rfl, rfl⟩; rfl; rfl)) ?_))
 refine Zc (Zt (Zs (Zs (Zr (ZFa 0 ?_)))))
 refine ZC ?_
 iterate 2 refine ZA ?_
 refine ZFb 0 ?_
 refine ZD ?_
 refine ZB ?_
 refine ZA ?_
 refine Zn (Zt (wc_cond_t rfl ((by rcases hop with ⟨rfl, rfl⟩ | ⟨rfl, rfl⟩; rfl; rfl)) ?_))
 refine Zs (Zr (ZA ?_))
 refine ZFa 5 ?_
 refine ZC ?_
 refine ZFa 4 ?_
 refine ZC ?_
 refine ZFa 7 ?_
 refine ZC ?_
 iterate 2 refine ZA ?_
 refine wl_t (t_callS (ruF K bx n U) rfl (fun _ _ => rfl) Zi (fun w hi hin => HL w hin)) rfl ?_
 rintro _ _ ⟨_, ⟨rfl, rfl⟩, rfl⟩
 iterate 3 refine ZA ?_
 refine ZN fun b17 => ?_
 refine ZA ?_
 refine wl_t0 (t_storeN (vs := tr.cells) (fun _ => rfl) rfl rfl (allT rfl) Za (by exact rfl)) ?_
 rintro _ _ ⟨rfl, rfl⟩
 refine Zn (Zt (Zs (Zs (Zr (ZFa 0 ?_)))))
 refine ZC ?_
 refine ZA ?_
 refine Zn (Zt ?_)
 refine wc_cond _ rfl (fun hc13 => ?_) (fun hc13 => ?_)
 ·refine Zs (wc_draw ⟨fun j => List.elem j [], []⟩ Zk ?_)
  refine ZFe 0 0 ?_
  refine ZG 1 ?_
  refine ZFe 2 1 ?_
  refine ZG 3 ?_
  refine ZE 4 ?_
  refine ZE 5 ?_
  refine wa_done Zk ?_
  refine Zt (Ze (Zw (Zw (qok_pick (reF br X (R.wd (l ++ [(va : Int)])).s false K bx n U' b bd Z d) Zj ?_))))
  refine ret2 (cs' := [row _ _ _, slv _ _ _ _ _ _, slv _ _ _ _ _ _, row _ _ _, row _ _ _, slv _ _ _ _ _ _, slv _ _ _ _ _ _, row _ _ _, slv _ _ _ _ _ _, rdC _ _ _ _, slv _ _ _ _ _ _]) (.inl rfl) Zu rfl rfl rfl ?_
  refine ⟨X, (R.wd (l ++ [(va : Int)])).s, Z, rfl, ?_, fun e => by (have e : tr.cause = 0 := e; rw [e] at hc13; cases hc13)⟩
  show _ = reF br X (R.wd (l ++ [(va : Int)])).s R.device K bx n U' b bd Z d
  rw [hdv]
  rfl
 obtain rfl := hto2 (by simpa using hc13)
 obtain ⟨XA, Xc, XB, Xd⟩ := X
 refine wc_fact (fun w hi => slv_some (hi.get (show Has _ (slD (R.wd (l ++ [(va : Int)])).s XA Xc) from Zh)) (show 0 < (l ++ [(va : Int)]).length by omega)) (fun hA => ?_)
 obtain ⟨bd2, rfl⟩ := hA
 refine Zc (Zt (Zs (Zr (ZA ?_))))
 refine ZA ?_
 refine ZFa 1 ?_
 refine ZC ?_
 refine ZA ?_
 refine Zy (y_sub (Zv rfl) (Zv rfl) (show _ = (l.length : Int) from by rw [hdl]; exact IntWalk.i64_in _ ⟨by omega, by omega⟩ |>.trans (by omega))) ?_
 refine ZA ?_
 refine Zy (y_indexR (j := l.length) (sz := 1) (r := l.length) rfl (fun _ => rfl) (Zv rfl) (Zv rfl) (fun _ => by omega) (fun _ => by omega) (by omega)) ?_
 refine wl_t0 (t_storeS (fun _ => rfl) rfl rfl rfl Za (by omega)) ?_
 rintro _ _ ⟨rfl, rfl⟩
 rw [ints_set', show (R.wd (l ++ [(va : Int)])).s.d.set l.length v1 = l ++ [v1] from set_last l va v1]
 refine Zn (Zt (Zs (Zr (ZA ?_))))
 refine ZA ?_
 refine Zn (Zt (Ze (Zw (qok_pick ([rsRow br ⟨some ⟨bd2, 0, none⟩, Xc, XB, Xd⟩ (R.wd (l ++ [(va : Int)])).s false false, sl .u32 30 (some ⟨bd2, 0, none⟩) (R.wd (l ++ [(va : Int)])).s.d.length Xc (l ++ [v1]), slR R.s XB Xd] ++ (ruF K bx n U' ++ refBF b K.bm bd Z d)) Zj ?_))))
 refine ret2 (cs' := [row _ _ _, slv _ _ _ _ _ _, slv _ _ _ _ _ _, row _ _ _, row _ _ _, slv _ _ _ _ _ _, slv _ _ _ _ _ _, row _ _ _, slv _ _ _ _ _ _, rdC _ _ _ _, slv _ _ _ _ _ _]) (.inl rfl) Zu rfl rfl rfl ?_
 refine ⟨⟨some ⟨bd2, 0, none⟩, Xc, XB, Xd⟩, (R.wd (l ++ [v1])).s, Z, rfl, ?_, fun _ => rfl⟩
 show _ = reF br ⟨some ⟨bd2, 0, none⟩, Xc, XB, Xd⟩ (R.wd (l ++ [v1])).s R.device K bx n U' b bd Z d
 rw [hdv]
 simp only [reF, rsF, rsRow, slD, slR, List.length_append, List.length_cons, List.length_nil, List.cons_append, List.nil_append]
set_option maxHeartbeats 4000000 in
theorem refreachW_ok (br : Nat) (X : SAdr) (R : Run) (K : RMLoc) (bx n : Nat) (U : Mmu) (b bd : Nat) (Z : DAdr) (d : Dev) (hM : MOk n U.m) (hT : U.t.length = 16) (op : Int) (k : Nat) (hop : (op = 51 ∧ k = 4) ∨ (op = 53 ∧ k = 1)) (pc nn : Int) (l : List Int) (v : Int) (va : Nat) (hva : va ≤ 4294967295) (hl : l.length ≤ 100000) (hroot : u32 R.s.root) (hdv : R.device = false)
  (Ad Ar : Option Addr) (cd cr : Nat) (w : World) (hi : Inv w (blocks (reF br X (R.wd ((l ++ [v]) ++ [(va : Int)])).s false K bx n U b bd Z d)) (reF br X (R.wd ((l ++ [v]) ++ [(va : Int)])).s false K bx n U b bd Z d) w)
  (h : ∀ w', Keep (blocks (reF br X (R.wd ((l ++ [v]) ++ [(va : Int)])).s false K bx n U b bd Z d)) w w' → RdSt w' ((R.wd ((l ++ [v]) ++ [(va : Int)])).s.wpc pc) Ad Ar cd cr) :
  Ctr Tryz.prog 128 [sv ((R.wd ((l ++ [v]) ++ [(va : Int)])).s.wpc pc) Ad cd Ar cr, .agg #[.int .i64 op, .int .u32 nn], .pointer (some ⟨bx, 0, none⟩), .pointer (some ⟨b, 0, none⟩), .pointer (some ⟨br, 0, none⟩)] w (reF br X (R.wd ((l ++ [v]) ++ [(va : Int)])).s false K bx n U b bd Z d)
   (ReTo br K bx n b bd (Mach.of (sameS n (R.wd l) U va k v) d)) := by
 have hk : 1 ≤ k ∧ k ≤ 4 := by omega
 obtain ⟨rt, hrt⟩ : ∃ m : Nat, R.s.root = m := Int.eq_ofNat_of_zero_le hroot.1
 have hrt2 : (rt : Int) ≤ 4294967295 := by rw [← hrt]; exact hroot.2
 have hlen : ((l ++ [v]) ++ [(va : Int)]).length = l.length + 2 := by simp
 have hdl : ((R.wd ((l ++ [v]) ++ [(va : Int)])).s.wpc pc).d.length = l.length + 2 := hlen
 have hdl2 : (R.wd ((l ++ [v]) ++ [(va : Int)])).s.d.length = l.length + 2 := hlen
 have hdl3 : (⟨R.s.pc, (l ++ [v]) ++ [(va : Int)], R.s.r, R.s.flags, R.s.super, R.s.paging, R.s.ie, R.s.root, R.s.vec, R.s.epc, R.s.cause, R.s.addr, R.s.esuper, R.s.eie, R.s.count, R.s.halted⟩ : St).d.length = l.length + 2 := hlen
 obtain ⟨ad, rfl⟩ := (h w (Keep.refl _ _)).d.some_ (by rw [hdl]; omega)
 have hsp : (R.wd l).sp = ⟨R.s.paging, R.s.super, rt⟩ := by unfold Run.sp; rw [show (R.wd l).s.root = R.s.root from rfl, hrt]; rfl
 have HL := refstore_ok K bx n U hM hT R.s.paging R.s.super rt va k v (by omega) hva hk.1 hk.2
 have hsm : sameS n (R.wd l) U va k v = ((R.wd l).wt (storeTo n U ⟨R.s.paging, R.s.super, rt⟩ va k v).1, (storeTo n U ⟨R.s.paging, R.s.super, rt⟩ va k v).2) := by unfold sameS; rw [hsp]
 obtain ⟨⟨tr, U'⟩, hq⟩ : ∃ q, storeTo n U ⟨R.s.paging, R.s.super, rt⟩ va k v = q := ⟨_, rfl⟩
 rw [hq] at HL hsm
 rw [← hrt] at HL
 unfold ReTo
 rw [hsm]
 dsimp only at HL
 refine fn_ctr Tryz.func128 rfl Tryz.ntmps128 rfl hi ?_
 refine Zs (Zr (ZO fun b5 => ?_))
 refine ZO fun b6 => ?_
 iterate 2 refine ZA ?_
 refine Zn (Zt (Zs (Zr (ZA ?_))))
 refine ZA ?_
 refine ZFa 0 ?_
 refine ZA ?_
 refine Zn (Zt (Zs (Zr (ZFa 1 ?_))))
 refine ZC ?_
 iterate 2 refine ZA ?_
 refine Zn (Zt (Zs (Zr (ZFa 1 ?_))))
 refine ZC ?_
 refine ZA ?_
 refine Zy (y_sub (Zv rfl) (Zv rfl) (show _ = ((l.length + 1 : Nat) : Int) from by rw [hdl]; exact IntWalk.i64_in _ ⟨by omega, by omega⟩ |>.trans (by omega))) ?_
 refine Zy (y_index (j := (l.length + 1))  rfl (fun _ => rfl) (Zv rfl) (Zv rfl)  (fun _ => by omega) (fun _ => by omega)) ?_
 refine wl_y (y_load (fun _ => rfl) (Zv rfl)) (keepCell (fun w' hk => (h w' hk).d) (ints_at (snoc2_get1 l v (va : Int)))) rfl ?_
 refine ZA ?_
 refine Zn (Zt (Zs (Zs (Zr (ZA ?_)))))
 iterate 2 refine ZA ?_
 iterate 2 refine ZB ?_
 refine ZA ?_
 refine Zn (Zt (wc_cond_f rfl (rfl) ?_))
 refine Zc (Zt (Zs (Zr (ZA ?_))))
 refine Zn (Zt ?_)
 refine wc_seq_mid (fun _ : Unit => [(2, .pointer (some ⟨bx, 0, none⟩)), (5, .pointer (some ⟨b5, 0, none⟩)), (6, .pointer (some ⟨b6, 0, none⟩)), (12, .pointer (some ⟨br, 0, none⟩)), (13, .int .i64 ((R.wd ((l ++ [v]) ++ [(va : Int)])).s.wpc pc).d.length), (14, .int .u32 (va : Int)), (15, .int .i64 (k : Int))]) (fun _ => reF br X (R.wd ((l ++ [v]) ++ [(va : Int)])).s false K bx n U b bd Z d ++ [row b5 (((R.wd ((l ++ [v]) ++ [(va : Int)])).s.wpc pc).cells (.slice (some ad) ((R.wd ((l ++ [v]) ++ [(va : Int)])).s.wpc pc).d.length cd) (.slice Ar R.s.r.length cr)) 34, row b6 [.int .i64 op, .int .u32 nn] 79]) (fun _ => True) ?_ ?_
 ·refine Zs (Zr (ZFa 0 ?_))
  refine ZC ?_
  iterate 2 refine ZA ?_
  refine ZFb 0 ?_
  refine ZD ?_
  refine ZB ?_
  refine ZA ?_
  refine Zn (Zt ?_)
  refine wc_cond _ rfl (fun hc7 => ?_) (fun hc7 => ?_)
  ·have hk1 : k = 1 := (by rcases hop with ⟨rfl, rfl⟩ | ⟨rfl, rfl⟩; cases hc7; rfl)
   subst hk1
   refine Zr (ZA ?_)
   refine Zn ?_
   refine q_midP (()) ?_ ?_ ?_
   ·trivial
   ·exact Zwk
   exact Zj
  have hk4 : k = 4 := (by rcases hop with ⟨rfl, rfl⟩ | ⟨rfl, rfl⟩; rfl; cases hc7)
  subst hk4
  refine Zc ?_
  refine q_midP (()) ?_ ?_ ?_
  ·trivial
  ·exact Zwk
  exact Zj
 rintro - -
 refine Zs (Zs (Zr (ZFa 0 ?_)))
 refine ZC ?_
 iterate 2 refine ZA ?_
 refine ZFb 0 ?_
 refine ZD ?_
 refine ZB ?_
 refine ZA ?_
 refine Zn (Zt (wc_cond_f rfl ((by rcases hop with ⟨rfl, rfl⟩ | ⟨rfl, rfl⟩; rfl; rfl)) ?_))
 refine Zc (Zt (Zs (Zs (Zr (ZFa 0 ?_)))))
 refine ZC ?_
 iterate 2 refine ZA ?_
 refine ZFb 0 ?_
 refine ZD ?_
 refine ZB ?_
 refine ZA ?_
 refine Zn (Zt (wc_cond_f rfl ((by rcases hop with ⟨rfl, rfl⟩ | ⟨rfl, rfl⟩; rfl; rfl)) ?_))
 refine Zc (Zt ?_)
 refine wc_seq_mid (fun b18 : Nat => [(12, .pointer (some ⟨br, 0, none⟩)), (13, .int .i64 ((R.wd ((l ++ [v]) ++ [(va : Int)])).s.wpc pc).d.length), (18, .pointer (some ⟨b18, 0, none⟩))]) (fun b18 => reF br X (R.wd ((l ++ [v]) ++ [(va : Int)])).s false K bx n U' b bd Z d ++ [trC b18 tr]) (fun _ => True) ?_ ?_
 ·refine wc_draw ⟨fun j => List.elem j [15, 17], rowL b5 (((R.wd ((l ++ [v]) ++ [(va : Int)])).s.wpc pc).cells (.slice (some ad) ((R.wd ((l ++ [v]) ++ [(va : Int)])).s.wpc pc).d.length cd) (.slice Ar R.s.r.length cr))⟩ Zk ?_
  refine ZE 0 ?_
  refine ZFe 1 5 ?_
  refine wa_lkn 2 rfl Zk Zk Zk (y_load (fun _ => rfl) (Zv rfl)) (by first | exact rowL_mem rfl | exact List.mem_append_left _ (rowL_mem rfl) | exact List.mem_append_right _ (rowL_mem rfl)) (rowL_cells Zh) rfl ?_
  refine ZFe 3 4 ?_
  refine wa_lkn 4 rfl Zk Zk Zk (y_load (fun _ => rfl) (Zv rfl)) (by first | exact rowL_mem rfl | exact List.mem_append_left _ (rowL_mem rfl) | exact List.mem_append_right _ (rowL_mem rfl)) (rowL_cells Zh) rfl ?_
  refine ZFe 5 7 ?_
  refine wa_lkn 6 rfl Zk Zk Zk (y_load (fun _ => rfl) (Zv rfl)) (by first | exact rowL_mem rfl | exact List.mem_append_left _ (rowL_mem rfl) | exact List.mem_append_right _ (rowL_mem rfl)) (rowL_cells Zh) rfl ?_
  refine ZE 7 ?_
  refine ZFe 8 1 ?_
  refine wa_lkn 9 rfl Zk Zk Zk (y_load (fun _ => rfl) (Zv rfl)) (by first | exact rowL_mem rfl | exact List.mem_append_left _ (rowL_mem rfl) | exact List.mem_append_right _ (rowL_mem rfl)) (rowL_cells Zh) rfl ?_
  refine ZE 10 ?_
  refine wa_yn 11 rfl Zk Zk Zk (y_sub (Zv rfl) (Zv rfl) (show _ = (l.length : Int) from by rw [hdl]; exact IntWalk.i64_in _ ⟨by omega, by omega⟩ |>.trans (by omega))) rfl ?_
  refine wa_yn 12 rfl Zk Zk Zk (y_index (j := l.length)  rfl (fun _ => rfl) (Zv rfl) (Zv rfl)  (fun _ => by omega) (fun _ => by omega)) rfl ?_
  refine wa_ln 13 rfl Zk Zk Zk Zk (y_load (fun _ => rfl) (Zv rfl)) (keepCell (fun w' hk => (h w' hk).d) (ints_at (snoc2_get l v (va : Int)))) rfl ?_
  refine ZE 14 ?_
  refine wa_2 15 16 Zk ?_ ?_
  ·refine wi_t rfl rfl (t_callS (ruF K bx n U) rfl (fun _ _ => rfl) Zi (fun w hi hin => HL w hin)) (fun _ => by rintro _ _ ⟨_, ⟨rfl, rfl⟩, rfl⟩; exact rowL_cells Zh) rfl ?_
   rintro _ _ ⟨_, ⟨rfl, rfl⟩, rfl⟩
   refine wa_1 16 Zk ?_
   refine wi_t rfl rfl (t_alloc (fun _ => rfl) rfl) (fun _ => by rintro _ _ ⟨b18, rfl, rfl⟩; exact rowL_cells Zh) rfl ?_
   rintro _ _ ⟨b18, rfl, rfl⟩
   refine wa_1 17 Zk ?_
   refine wi_t0 rfl rfl (t_storeN (vs := tr.cells) (fun _ => rfl) rfl rfl (allT rfl) Za (by exact rfl)) (fun _ => by rintro _ _ ⟨rfl, rfl⟩; exact rowL_cells Zh) ?_
   rintro _ _ ⟨rfl, rfl⟩
   refine wa_done Zk ?_
   refine q_midP (b18) ?_ ?_ ?_
   ·trivial
   ·exact Zwk
   exact Zj
  refine wi_t rfl rfl (t_alloc (fun _ => rfl) rfl) (fun _ => by rintro _ _ ⟨b18, rfl, rfl⟩; exact rowL_cells Zh) rfl ?_
  rintro _ _ ⟨b18, rfl, rfl⟩
  refine wa_1 15 Zk ?_
  refine wi_t rfl rfl (t_callS (ruF K bx n U) rfl (fun _ _ => rfl) Zi (fun w hi hin => HL w hin)) (fun _ => by rintro _ _ ⟨_, ⟨rfl, rfl⟩, rfl⟩; exact rowL_cells Zh) rfl ?_
  rintro _ _ ⟨_, ⟨rfl, rfl⟩, rfl⟩
  refine wa_1 17 Zk ?_
  refine wi_t0 rfl rfl (t_storeN (vs := tr.cells) (fun _ => rfl) rfl rfl (allT rfl) Za (by exact rfl)) (fun _ => by rintro _ _ ⟨rfl, rfl⟩; exact rowL_cells Zh) ?_
  rintro _ _ ⟨rfl, rfl⟩
  refine wa_done Zk ?_
  refine q_midP (b18) ?_ ?_ ?_
  ·trivial
  ·exact Zwk
  exact Zj
 rintro b18 -
 obtain ⟨XA, Xc, XB, Xd⟩ := X
 refine wc_fact (fun w hi => slv_some (hi.get (show Has _ (slD (R.wd ((l ++ [v]) ++ [(va : Int)])).s XA Xc) from Zh)) (show 0 < ((l ++ [v]) ++ [(va : Int)]).length by omega)) (fun hA => ?_)
 obtain ⟨bd2, rfl⟩ := hA
 refine wc_fact (fun w hi => (slvok_rd (hi.get (show Has _ (slD (R.wd ((l ++ [v]) ++ [(va : Int)])).s (some ⟨bd2, 0, none⟩) Xc) from Zh))).cap) (fun hcap => ?_)
 have hcap : ((l ++ [v]) ++ [(va : Int)]).length ≤ Xc := hcap
 have hcap2 : ((l ++ [v]) ++ [(va : Int)]).length ≤ (SAdr.mk (some ⟨bd2, 0, none⟩) Xc XB Xd).cd := hcap
 refine Zs (Zr (ZA ?_))
 iterate 2 refine ZA ?_
 refine ZFa 1 ?_
 refine ZC ?_
 refine ZA ?_
 refine Zy (y_sub (Zv rfl) (Zv rfl) (show _ = (l.length : Int) from by rw [hdl]; exact IntWalk.i64_in _ ⟨by omega, by omega⟩ |>.trans (by omega))) ?_
 refine Zy (y_slice0 (l.length) rfl (fun _ => rfl) (Zv rfl) (Zv rfl) (fun _ => by first | rfl | omega) (fun _ => by omega)) ?_
 refine ZA ?_
 refine ZFa 1 ?_
 refine ZL ?_
 refine Zn (Zt (Zs (wc_draw ⟨fun j => List.elem j [], []⟩ Zk ?_)))
 refine ZFe 0 0 ?_
 refine ZG 1 ?_
 refine ZFe 2 1 ?_
 refine ZG 3 ?_
 refine ZE 4 ?_
 refine ZE 5 ?_
 refine wa_done Zk ?_
 refine Zt (Ze (qok_conv (c := slD (R.wd ((l ++ [v]) ++ [(va : Int)])).s (some ⟨bd2, 0, none⟩) Xc) (c' := slD (R.wd l).s (some ⟨bd2, 0, none⟩) Xc) Za rfl (fun w h => sl_pop (sl_pop h)) ?_))
 refine ret2 (cs' := [row _ _ _, slv _ _ _ _ _ _, slv _ _ _ _ _ _, row _ _ _, row _ _ _, slv _ _ _ _ _ _, slv _ _ _ _ _ _, row _ _ _, slv _ _ _ _ _ _, rdC _ _ _ _, slv _ _ _ _ _ _]) (.inl rfl) Zu rfl rfl rfl ?_
 refine ⟨⟨some ⟨bd2, 0, none⟩, Xc, XB, Xd⟩, (R.wd l).s, Z, rfl, ?_, fun _ => rfl⟩
 show _ = reF br ⟨some ⟨bd2, 0, none⟩, Xc, XB, Xd⟩ (R.wd l).s R.device K bx n U' b bd Z d
 rw [hdv]
 rfl
end Go.Proofs.YthcpmpmbgbibfaaGreatDoor
