/- The document's instruction, that Check lets by. -/
import Derived.Test.YthcpmpmbgbibfaaGreatDoorSsJ
import Derived.Test.YthcpmpmbgbibfaaGreatDoorInkA
set_option linter.unusedSimpArgs false
set_option linter.unusedVariables false
set_option maxRecDepth 100000
namespace Go.Ink
open Go.RowKit
/-- The instruction itself, on what is being done. -/
def actTo (n : Nat) (op nn : Int) (R : Run) (U : Mmu) (d : Dev) : Mach :=
 match stackTo op nn R with
 | some R => ⟨R, U, d⟩
 | none => bif (reckonTo op nn R).1 then ⟨(reckonTo op nn R).2, U, d⟩ else otherTo n op nn ⟨(reckonTo op nn R).2, U, d⟩
theorem mid_act (n : Nat) (s : St) (op nn : Int) (U : Mmu) (d : Dev) : midTo n s op nn U d = actTo n op nn (run0 s op) U d := rfl
def opIn (op : Int) : Prop := (0 ≤ op ∧ op ≤ 8) ∨ (16 ≤ op ∧ op ≤ 25) ∨ (32 ≤ op ∧ op ≤ 40) ∨ (48 ≤ op ∧ op ≤ 53) ∨ (64 ≤ op ∧ op ≤ 69)
theorem right_in {op nn : Int} (h : opRight op nn = true) : opIn op := by
 by_cases h0 : opSize op = 0
 ·unfold opRight at h
  rw [h0] at h
  cases h
 rw [← size_ref] at h0
 unfold opIn
 revert h0
 unfold sizeR
 by_cases e : op = 2
 ·subst e; intro _; omega
 have e2 : (op == 2) = false := by simpa using e
 rw [e2]
 cases h2 : ((((op == 1) || (decide (32 ≤ op) && decide (op ≤ 38))) || (op == 66)) || (op == 67)) with
 | true =>
  simp only [Bool.or_eq_true, beq_iff_eq, Bool.and_eq_true, decide_eq_true_eq] at h2
  intro _; omega
 | false =>
  cases h3 : (((((decide (0 ≤ op) && decide (op ≤ 8)) || (decide (16 ≤ op) && decide (op ≤ 25))) || (op == 39)) || (op == 40)) || (decide (48 ≤ op) && decide (op ≤ 53))) || (decide (64 ≤ op) && decide (op ≤ 69)) with
  | true =>
   simp only [Bool.or_eq_true, beq_iff_eq, Bool.and_eq_true, decide_eq_true_eq] at h3
   intro _; omega
  | false => intro h0; exact absurd rfl h0
theorem stack_some {op : Int} (h : 0 ≤ op ∧ op ≤ 8) (nn : Int) (R : Run) : ∃ R', stackTo op nn R = some R' ∧ R'.trap = R.trap ∧ R'.device = R.device := by
 obtain rfl | rfl | rfl | rfl | rfl | rfl | rfl | rfl | rfl : op = 0 ∨ op = 1 ∨ op = 2 ∨ op = 3 ∨ op = 4 ∨ op = 5 ∨ op = 6 ∨ op = 7 ∨ op = 8 := by omega
 all_goals exact ⟨_, rfl, rfl, rfl⟩
theorem stack_not {op : Int} (h : 9 ≤ op) (nn : Int) (R : Run) : stackTo op nn R = none := by
 have e : ∀ k : Int, k ≤ 8 → (op == k) = false := fun k hk => by simp only [beq_eq_false_iff_ne, ne_eq]; omega
 exact stackTo_none nn R (e 0 (by decide)) (e 1 (by decide)) (e 2 (by decide)) (e 3 (by decide)) (e 4 (by decide)) (e 5 (by decide)) (e 6 (by decide)) (e 7 (by decide)) (e 8 (by decide))
theorem jump_yes {op : Int} (h : 32 ≤ op ∧ op ≤ 40) (nn : Int) (R : Run) : (reckonTo op nn R).1 = true ∧ (reckonTo op nn R).2.trap = R.trap ∧ (reckonTo op nn R).2.device = R.device := by
 have key : ∀ c (g : Bool), (bif c then R.wpc (thereOf R nn) else R).trap = R.trap ∧ (bif c then R.wpc (thereOf R nn) else R).device = R.device := fun c g => by cases c <;> exact ⟨rfl, rfl⟩
 obtain rfl | rfl | rfl | rfl | rfl | rfl | rfl | rfl | rfl : op = 32 ∨ op = 33 ∨ op = 34 ∨ op = 35 ∨ op = 36 ∨ op = 37 ∨ op = 38 ∨ op = 39 ∨ op = 40 := by omega
 ·exact ⟨rfl, rfl, rfl⟩
 ·exact ⟨rfl, key _ true⟩
 ·exact ⟨rfl, key _ true⟩
 ·exact ⟨rfl, key _ true⟩
 ·exact ⟨rfl, key _ true⟩
 ·exact ⟨rfl, key _ true⟩
 ·exact ⟨rfl, rfl, rfl⟩
 ·exact ⟨rfl, rfl, rfl⟩
 exact ⟨rfl, rfl, rfl⟩
theorem reckon_not {op : Int} (h : 41 ≤ op) (nn : Int) (R : Run) : reckonTo op nn R = (false, R) := by
 have e : ∀ k : Int, k ≤ 40 → (op == k) = false := fun k hk => by simp only [beq_eq_false_iff_ne, ne_eq]; omega
 have r : (decide (16 ≤ op) && decide (op ≤ 25)) = false := by rw [Bool.and_eq_false_iff, decide_eq_false_iff_not, decide_eq_false_iff_not]; omega
 unfold reckonTo arHolds
 simp only [r, e 38 (by decide), e 32 (by decide), e 39 (by decide), e 40 (by decide), e 33 (by decide), e 34 (by decide), e 35 (by decide), e 36 (by decide), e 37 (by decide), cond_false]
theorem act_stack {n : Nat} {op nn : Int} {R R' : Run} {U : Mmu} {d : Dev} (h : stackTo op nn R = some R') : actTo n op nn R U d = ⟨R', U, d⟩ := by unfold actTo; rw [h]
theorem act_reckon {n : Nat} {op nn : Int} {R : Run} {U : Mmu} {d : Dev} (h : 9 ≤ op) (h1 : (reckonTo op nn R).1 = true) : actTo n op nn R U d = ⟨(reckonTo op nn R).2, U, d⟩ := by
 unfold actTo
 rw [stack_not h]
 simp only [h1, cond_true]
theorem act_other {n : Nat} {op nn : Int} {R : Run} {U : Mmu} {d : Dev} (h : 41 ≤ op) : actTo n op nn R U d = otherTo n op nn ⟨R, U, d⟩ := by
 unfold actTo
 rw [stack_not (by omega), reckon_not h]
 rfl
theorem other_dev {n : Nat} {op nn : Int} (h : 64 ≤ op ∧ op ≤ 69) (R : Run) (U : Mmu) (d : Dev) : (otherTo n op nn ⟨R, U, d⟩).d = d := by
 obtain rfl | rfl | rfl | rfl | rfl | rfl : op = 64 ∨ op = 65 ∨ op = 66 ∨ op = 67 ∨ op = 68 ∨ op = 69 := by omega
 all_goals rfl
theorem keep_more {S S' : List Nat} {w w' : World} (h : Keep S w w') (hs : ∀ b, b ∈ S → b ∈ S') : Keep S' w w' :=
 ⟨h.os, h.tape, h.output, h.size, fun b hb hn => h.block b hb fun hm => hn (hs b hm)⟩
theorem reckon_ar {op : Int} (h : 16 ≤ op ∧ op ≤ 25) (nn : Int) (R : Run) (l : List Int) (x y : Int) : reckonTo op nn (R.wd ((l ++ [x]) ++ [y])) = (true, bif op != 25 then ((bif (arDo op x y).2.2 then R.wd l else (R.wd l).wt ⟨5, 0⟩).wfl (arDo op x y).2.1).push [(arDo op x y).1] else (bif (arDo op x y).2.2 then R.wd l else (R.wd l).wt ⟨5, 0⟩).wfl (arDo op x y).2.1) := by
 have ha : (decide (16 ≤ op) && decide (op ≤ 25)) = true := by rw [decide_eq_true h.1, decide_eq_true h.2]; rfl
 simp only [reckonTo, ha, cond_true, Run.top_wd, Run.pop_wd]
end Go.Ink
namespace Go.Proofs.YthcpmpmbgbibfaaGreatDoor
open Go.RowKit Go.Ink
attribute [local irreducible] OpY GuardIs

theorem refreach_ok (br : Nat) (X : SAdr) (R : Run) (K : RMLoc) (bx n : Nat) (U : Mmu) (b bd : Nat) (Z : DAdr) (d : Dev) (hM : MOk n U.m) (hT : U.t.length = 16) (hd : d.wf) (ho : d.out.length ≤ 1000000000) (op nn pc : Int) (hop : 48 ≤ op ∧ op ≤ 53) (hw : ∀ x, x ∈ R.s.d → u32 x) (hdl : R.s.d.length ≤ 100000) (hn : (opNeeds op).1.1 ≤ R.s.d.length) (hroot : u32 R.s.root) (hdv : R.device = false) (hcn : R.count = R.s.count)
  (Ad Ar : Option Addr) (cd cr : Nat) (w : World) (hi : Inv w (blocks (reF br X R.s false K bx n U b bd Z d)) (reF br X R.s false K bx n U b bd Z d) w)
  (h : ∀ w', Keep (blocks (reF br X R.s false K bx n U b bd Z d)) w w' → RdSt w' (R.s.wpc pc) Ad Ar cd cr) :
  Ctr Tryz.prog 128 [sv (R.s.wpc pc) Ad cd Ar cr, .agg #[.int .i64 op, .int .u32 nn], .pointer (some ⟨bx, 0, none⟩), .pointer (some ⟨b, 0, none⟩), .pointer (some ⟨br, 0, none⟩)] w (reF br X R.s false K bx n U b bd Z d)
   (ReTo br K bx n b bd (otherTo n op nn ⟨R, U, d⟩)) := by
 have one : (opNeeds op).1.1 = 1 → ∃ R0 l va, va ≤ 4294967295 ∧ l.length ≤ 100000 ∧ R = Run.wd R0 (l ++ [((va : Nat) : Int)]) := fun e => by
  obtain ⟨R0, l, x, rfl⟩ := Run.snoc (show 1 ≤ R.s.d.length by omega)
  have hx := allR (l := l) hw
  obtain ⟨va, rfl⟩ : ∃ va : Nat, x = va := Int.eq_ofNat_of_zero_le hx.1
  have h2 : (va : Int) ≤ _ := hx.2
  have h3 : (l ++ [(va : Int)]).length ≤ 100000 := hdl
  exact ⟨R0, l, va, by omega, by simp at h3; omega, rfl⟩
 have two : (opNeeds op).1.1 = 2 → ∃ R0 l v va, v ≤ 4294967295 ∧ va ≤ 4294967295 ∧ l.length ≤ 100000 ∧ R = Run.wd R0 ((l ++ [((v : Nat) : Int)]) ++ [((va : Nat) : Int)]) := fun e => by
  obtain ⟨R0, l, y, x, rfl⟩ := Run.snoc2 (show 2 ≤ R.s.d.length by omega)
  have hx := allR (l := l ++ [y]) hw
  have hy := allR (l := l) (allL (l := l ++ [y]) hw)
  obtain ⟨va, rfl⟩ : ∃ va : Nat, x = va := Int.eq_ofNat_of_zero_le hx.1
  obtain ⟨v, rfl⟩ : ∃ v : Nat, y = v := Int.eq_ofNat_of_zero_le hy.1
  have h2 : (va : Int) ≤ _ := hx.2
  have h4 : (v : Int) ≤ _ := hy.2
  have h3 : ((l ++ [(v : Int)]) ++ [(va : Int)]).length ≤ 100000 := hdl
  exact ⟨R0, l, v, va, by omega, by omega, by simp at h3; omega, rfl⟩
 obtain rfl | rfl | rfl | rfl | rfl | rfl : op = 48 ∨ op = 49 ∨ op = 50 ∨ op = 51 ∨ op = 52 ∨ op = 53 := by omega
 ·obtain ⟨R, l, va, hva, hl, rfl⟩ := one rfl
  have he : otherTo n 48 nn ⟨R.wd (l ++ [(va : Int)]), U, d⟩ = lodeTo n (R.wd l) U d va := by show lodeTo _ _ _ _ _ = _; rw [Run.pop_wd, Run.top_wd]; rfl
  rw [he]
  exact refreachL_ok br X R K bx n U b bd Z d hM hT hd pc nn l va hva hl hroot hdv hcn Ad Ar cd cr w hi h
 ·obtain ⟨R, l, v, va, hv, hva, hl, rfl⟩ := two rfl
  have he : otherTo n 49 nn ⟨R.wd ((l ++ [(v : Int)]) ++ [(va : Int)]), U, d⟩ = stowTo n (R.wd l) U d va v := by show stowTo _ _ _ _ _ _ = _; rw [Run.pop_wd, Run.top_wd, Run.pop_wd, Run.top_wd]; rfl
  rw [he]
  exact refreachS_ok br X R K bx n U b bd Z d hM hT hd ho pc nn l v va hv hva hl hroot hdv Ad Ar cd cr w hi h
 ·obtain ⟨R, l, va, hva, hl, rfl⟩ := one rfl
  have he : otherTo n 50 nn ⟨R.wd (l ++ [(va : Int)]), U, d⟩ = Mach.of (sameL n (R.wd l) U va 4) d := by show Mach.of (sameL _ _ _ _ _) _ = _; rw [Run.pop_wd, Run.top_wd]; rfl
  rw [he]
  exact refreachU_ok br X R K bx n U b bd Z d hM hT 50 4 (.inl ⟨rfl, rfl⟩) pc nn l va hva hl hroot hdv Ad Ar cd cr w hi h
 ·obtain ⟨R, l, v, va, hv, hva, hl, rfl⟩ := two rfl
  have he : otherTo n 51 nn ⟨R.wd ((l ++ [(v : Int)]) ++ [(va : Int)]), U, d⟩ = Mach.of (sameS n (R.wd l) U va 4 v) d := by show Mach.of (sameS _ _ _ _ _ _) _ = _; rw [Run.pop_wd, Run.top_wd, Run.pop_wd, Run.top_wd]; rfl
  rw [he]
  exact refreachW_ok br X R K bx n U b bd Z d hM hT 51 4 (.inl ⟨rfl, rfl⟩) pc nn l v va hva hl hroot hdv Ad Ar cd cr w hi h
 ·obtain ⟨R, l, va, hva, hl, rfl⟩ := one rfl
  have he : otherTo n 52 nn ⟨R.wd (l ++ [(va : Int)]), U, d⟩ = Mach.of (sameL n (R.wd l) U va 1) d := by show Mach.of (sameL _ _ _ _ _) _ = _; rw [Run.pop_wd, Run.top_wd]; rfl
  rw [he]
  exact refreachU_ok br X R K bx n U b bd Z d hM hT 52 1 (.inr ⟨rfl, rfl⟩) pc nn l va hva hl hroot hdv Ad Ar cd cr w hi h
 obtain ⟨R, l, v, va, hv, hva, hl, rfl⟩ := two rfl
 have he : otherTo n 53 nn ⟨R.wd ((l ++ [(v : Int)]) ++ [(va : Int)]), U, d⟩ = Mach.of (sameS n (R.wd l) U va 1 v) d := by show Mach.of (sameS _ _ _ _ _ _) _ = _; rw [Run.pop_wd, Run.top_wd, Run.pop_wd, Run.top_wd]; rfl
 rw [he]
 exact refreachW_ok br X R K bx n U b bd Z d hM hT 53 1 (.inr ⟨rfl, rfl⟩) pc nn l v va hva hl hroot hdv Ad Ar cd cr w hi h
set_option maxHeartbeats 4000000 in
theorem refact_ok (br : Nat) (X : SAdr) (R : Run) (K : RMLoc) (bx n : Nat) (U : Mmu) (b bd : Nat) (Z : DAdr) (d : Dev) (hM : MOk n U.m) (hT : U.t.length = 16) (hd : d.wf) (ho : d.out.length ≤ 1000000000) (op nn pc : Int) (hop : opIn op) (hnu : u32 nn) (hw : ∀ x, x ∈ R.s.d → u32 x) (hdl : R.s.d.length ≤ 100000) (hrl : R.s.r.length ≤ 100000) (hn : (opNeeds op).1.1 ≤ R.s.d.length) (hnr : (opNeeds op).2.1 ≤ R.s.r.length) (hroot : u32 R.s.root) (ht : R.trap = Tr.none) (hdv : R.device = false) (hcn : R.count = R.s.count)
  (Ad Ar : Option Addr) (cd cr : Nat) (w : World) (hi : Inv w (blocks (reF br X R.s false K bx n U b bd Z d)) (reF br X R.s false K bx n U b bd Z d) w)
  (h : ∀ w', Keep (blocks (reF br X R.s false K bx n U b bd Z d)) w w' → RdSt w' (R.s.wpc pc) Ad Ar cd cr) :
  Ctr Tryz.prog 96 [sv (R.s.wpc pc) Ad cd Ar cr, .agg #[.int .i64 op, .int .u32 nn], .pointer (some ⟨bx, 0, none⟩), .pointer (some ⟨b, 0, none⟩), .pointer (some ⟨br, 0, none⟩)] w (reF br X R.s false K bx n U b bd Z d)
   (ReTo br K bx n b bd (actTo n op nn R U d)) := by
 unfold ReTo
 refine fn_ctr Tryz.func96 rfl Tryz.ntmps96 rfl hi ?_
 refine Zs (Zr (ZO fun b5 => ?_))
 refine ZO fun b6 => ?_
 iterate 2 refine ZA ?_
 refine Zn (Zt (Zs (Zr (ZA ?_))))
 refine ZA ?_
 refine ZFa 0 ?_
 refine ZA ?_
 refine Zn (Zt (Zs (Zr (ZFa 1 ?_))))
 refine ZC ?_
 iterate 2 refine ZA ?_
 refine Zn (Zt (Zs (Zx (Zs (Zr (ZFa 0 ?_))))))
 refine ZC ?_
 iterate 2 refine ZA ?_
 refine Zn (Zt ?_)
 refine wc_cond _ rfl (fun hc4 => ?_) (fun hc4 => ?_)
 ·have h8 : 0 ≤ op ∧ op ≤ 8 := (by simp only [decide_eq_true_eq] at hc4; unfold opIn at hop; omega)
  obtain ⟨R', hst, htr, hde⟩ := stack_some h8 nn R
  rw [act_stack hst]
  refine Zr (ZA ?_)
  refine wl_loadRow Zh (fun _ => rfl) (fun _ => rfl) (Zv rfl) rfl ?_
  refine wl_t (t_callS (rsF br X R.s false) rfl (fun _ _ => rfl) Zi (fun w hi hin => refstacks_ok br X R false op nn h8.1 h8.2 hdl hrl hn hnr w hin)) rfl ?_
  rintro _ _ ⟨_, ⟨X', rfl, rfl⟩, rfl⟩
  rw [show (stackTo op nn R).getD R = R' by rw [hst]; rfl]
  refine Zn (Zo (Zt (Zs (Zr (ZA ?_)))))
  refine ZA ?_
  refine Zn (Zt (Ze (qok_pick (reF br X' R'.s false K bx n U b bd Z d) Zj ?_)))
  refine ret2 (cs' := [row _ _ _, slv _ _ _ _ _ _, slv _ _ _ _ _ _, row _ _ _, row _ _ _, slv _ _ _ _ _ _, slv _ _ _ _ _ _, row _ _ _, slv _ _ _ _ _ _, rdC _ _ _ _, slv _ _ _ _ _ _]) (.inl rfl) Zu rfl rfl rfl ?_
  refine ⟨X', R'.s, Z, ?_, ?_, fun _ => rfl⟩
  ·show _ = Value.tuple #[.int .i64 R'.trap.cause, .int .u32 R'.trap.addr]; rw [htr, ht]; rfl
  show _ = reF br X' R'.s R'.device K bx n U b bd Z d; rw [hde, hdv]; rfl
 refine Zs (Zr (ZFa 0 ?_))
 refine ZC ?_
 iterate 2 refine ZA ?_
 refine Zn (Zt ?_)
 refine wc_cond _ rfl (fun hc6 => ?_) (fun hc6 => ?_)
 ·simp only [decide_eq_true_eq] at hc6
  simp only [decide_eq_false_iff_not] at hc4
  have h25 : 16 ≤ op ∧ op ≤ 25 := (by unfold opIn at hop; omega)
  have hn2 := needs_ar (op := op) (by rw [decide_eq_true h25.1, decide_eq_true h25.2]; rfl)
  rw [hn2] at hn
  obtain ⟨R, l, x, y, rfl⟩ := Run.snoc2 hn
  have hr1 := reckon_ar h25 nn R l x y
  rw [act_reckon (by omega) (by rw [hr1]), hr1]
  have hy := allR (l := l ++ [x]) hw
  have hx := allR (l := l) (allL (l := l ++ [x]) hw)
  have HA := refdo1_ok op x y hx hy
  obtain ⟨⟨v1, fl1, ok1⟩, hq⟩ : ∃ q, arDo op x y = q := ⟨_, rfl⟩
  rw [hq] at HA ⊢
  dsimp only at HA ⊢
  have hlen : ((l ++ [x]) ++ [y]).length = l.length + 2 := (by simp)
  have hdl1 : ((R.wd ((l ++ [x]) ++ [y])).s.wpc pc).d.length = l.length + 2 := hlen
  have hdl2 : (R.wd ((l ++ [x]) ++ [y])).s.d.length = l.length + 2 := hlen
  obtain ⟨ad, rfl⟩ := (h w (Keep.refl _ _)).d.some_ (by rw [hdl1]; omega)
  obtain ⟨XA, Xc, XB, Xd⟩ := X
  refine Zs (wc_draw ⟨fun j => List.elem j [], []⟩ Zk ?_)
  refine ZFe 0 0 ?_
  refine ZG 1 ?_
  refine ZFe 2 1 ?_
  refine ZG 3 ?_
  refine ZE 4 ?_
  refine wa_yn 5 rfl Zk Zk Zk (y_sub (Zv rfl) (Zv rfl) (show _ = (l.length : Int) from by rw [hdl1]; exact IntWalk.i64_in _ ⟨by omega, by omega⟩ |>.trans (by omega))) rfl ?_
  refine wa_yn 6 rfl Zk Zk Zk (y_index (j := l.length)  rfl (fun _ => rfl) (Zv rfl) (Zv rfl)  (fun _ => by omega) (fun _ => by omega)) rfl ?_
  refine wa_ln 7 rfl Zk Zk Zk Zk (y_load (fun _ => rfl) (Zv rfl)) (keepCell (fun w' hk => (h w' hk).d) (ints_at (snoc2_get l x y))) rfl ?_
  refine ZFe 8 1 ?_
  refine ZG 9 ?_
  refine ZE 10 ?_
  refine wa_yn 11 rfl Zk Zk Zk (y_sub (Zv rfl) (Zv rfl) (show _ = ((l.length + 1 : Nat) : Int) from by rw [hdl1]; exact IntWalk.i64_in _ ⟨by omega, by omega⟩ |>.trans (by omega))) rfl ?_
  refine wa_yn 12 rfl Zk Zk Zk (y_index (j := (l.length + 1))  rfl (fun _ => rfl) (Zv rfl) (Zv rfl)  (fun _ => by omega) (fun _ => by omega)) rfl ?_
  refine wa_ln 13 rfl Zk Zk Zk Zk (y_load (fun _ => rfl) (Zv rfl)) (keepCell (fun w' hk => (h w' hk).d) (ints_at (snoc2_get1 l x y))) rfl ?_
  refine wa_1 14 Zk ?_
  refine ZT (fun w hi => HA w) ?_
  rintro _ _ ⟨_, ⟨rfl, rfl⟩, rfl⟩
  refine ZE 15 ?_
  refine ZE 16 ?_
  refine ZE 17 ?_
  refine ZE 18 ?_
  refine ZE 19 ?_
  refine ZE 20 ?_
  refine ZE 21 ?_
  refine wa_done Zk ?_
  refine Zt (Zs (Zs (Zr (ZA ?_))))
  refine ZA ?_
  refine Zn (Zt ?_)
  refine wc_cond _ rfl (fun hc8 => ?_) (fun hc8 => ?_)
  ·have hk : ok1 = false := (by simpa using hc8)
   subst hk
   refine Zs (Zr (ZA ?_))
   refine ZA ?_
   refine Zn (Zt (Ze (Zw (Zq (Zw (ret2 (cs' := [row _ _ _, slv _ _ _ _ _ _, slv _ _ _ _ _ _, row _ _ _, row _ _ _, slv _ _ _ _ _ _, slv _ _ _ _ _ _, row _ _ _, slv _ _ _ _ _ _, rdC _ _ _ _, slv _ _ _ _ _ _]) (.inl rfl) Zu rfl rfl rfl ?_))))))
   refine ⟨⟨XA, Xc, XB, Xd⟩, (R.wd ((l ++ [x]) ++ [y])).s, Z, ?_, ?_, ?_⟩
   ·cases hb : (op != 25) <;> rfl
   ·cases hb : (op != 25) <;> (show _ = reF br _ _ R.device K bx n U b bd Z d) <;> rw [show R.device = false from hdv] <;> rfl
   cases hb : (op != 25) <;> exact fun e => by cases e
  have hk : ok1 = true := (by simpa using hc8)
  subst hk
  simp only [cond_true]
  refine wc_fact (fun w hi => slv_some (hi.get (show Has _ (slD (R.wd ((l ++ [x]) ++ [y])).s XA Xc) from Zh)) (show 0 < ((l ++ [x]) ++ [y]).length by omega)) (fun hA => ?_)
  obtain ⟨bd2, rfl⟩ := hA
  refine wc_fact (fun w hi => (slvok_rd (hi.get (show Has _ (slD (R.wd ((l ++ [x]) ++ [y])).s (some ⟨bd2, 0, none⟩) Xc) from Zh))).cap) (fun hcap => ?_)
  have hcap : ((l ++ [x]) ++ [y]).length ≤ Xc := hcap
  have hcap2 : ((l ++ [x]) ++ [y]).length ≤ (SAdr.mk (some ⟨bd2, 0, none⟩) Xc XB Xd).cd := hcap
  refine Zc (Zt (Zs (Zr (ZA ?_))))
  iterate 2 refine ZA ?_
  refine ZFa 3 ?_
  refine ZL ?_
  refine Zn (Zt (Zs (Zr (ZA ?_))))
  iterate 2 refine ZA ?_
  refine ZFa 1 ?_
  refine ZC ?_
  refine ZA ?_
  refine Zy (y_sub (Zv rfl) (Zv rfl) (show _ = (l.length : Int) from by rw [hdl1]; exact IntWalk.i64_in _ ⟨by omega, by omega⟩ |>.trans (by omega))) ?_
  refine Zy (y_slice0 (l.length) rfl (fun _ => rfl) (Zv rfl) (Zv rfl) (fun _ => by first | rfl | omega) (fun _ => by omega)) ?_
  refine ZA ?_
  refine ZFa 1 ?_
  refine ZL ?_
  refine Zn (Zt (Zs (Zr (wl_conv (c := slD (R.wd ((l ++ [x]) ++ [y])).s (some ⟨bd2, 0, none⟩) Xc) (c' := sl .u32 30 (some ⟨bd2, 0, none⟩) l.length Xc l) Za rfl (fun w h => sl_pop (sl_pop h)) ?_))))
  refine ZFa 0 ?_
  refine ZC ?_
  refine ZA ?_
  refine Zn (Zt ?_)
  refine wc_cond _ rfl (fun hc12 => ?_) (fun hc12 => ?_)
  ·rw [hc12]
   simp only [cond_true]
   refine Zr (ZA ?_)
   iterate 2 refine ZA ?_
   refine ZFa 1 ?_
   refine ZC ?_
   refine ZA ?_
   refine wl_t (t_buildSl1 rfl rfl (fun _ => rfl) (fun _ => rfl) rfl rfl) rfl ?_
   rintro _ _ ⟨b85, rfl, rfl⟩
   refine wl_t (t_append (e := 30) (sz := 1) (bytes := 4) rfl rfl Za rfl rfl (fun w hi => hi.rd (show Has _ (slv 30 1 (some ⟨b85, 0, none⟩) 1 1 (ints .u32 [v1])) from Zh)) ints_one (by simp only [maxLen]; omega) (by omega)) rfl ?_
   rintro _ _ ⟨A', c', rfl, rfl⟩
   refine ZA ?_
   refine ZFa 1 ?_
   refine ZL ?_
   refine Zn (Zo (Zt (Zs (Zr (ZA ?_)))))
   refine ZA ?_
   refine Zn (Zt (Ze (qok_pick ([row br [.int .u32 R.s.pc, .slice A' (l.length + 1) c', .slice XB R.s.r.length Xd, .int .u32 fl1, .bool R.s.super, .bool R.s.paging, .bool R.s.ie, .int .u32 R.s.root, .int .u32 R.s.vec, .int .u32 R.s.epc, .int .u32 R.s.cause, .int .u32 R.s.addr, .bool R.s.esuper, .bool R.s.eie, .int .u64 R.s.count, .bool R.s.halted, .bool false, .bool false, .slice none 0 0] 105, slv 30 1 A' (l.length + 1) c' (ints .u32 l ++ ints .u32 [v1]), slR R.s XB Xd] ++ (ruF K bx n U ++ refBF b K.bm bd Z d)) Zj ?_)))
   refine ret2 (cs' := [row _ _ _, slv _ _ _ _ _ _, slv _ _ _ _ _ _, row _ _ _, row _ _ _, slv _ _ _ _ _ _, slv _ _ _ _ _ _, row _ _ _, slv _ _ _ _ _ _, rdC _ _ _ _, slv _ _ _ _ _ _]) (.inl rfl) Zu rfl rfl rfl ?_
   refine ⟨⟨A', c', XB, Xd⟩, (((R.wd l).wfl fl1).push [v1]).s, Z, ?_, ?_, fun _ => rfl⟩
   ·show _ = Value.tuple #[.int .i64 R.trap.cause, .int .u32 R.trap.addr]; rw [show R.trap = Tr.none from ht]; rfl
   show _ = reF br ⟨A', c', XB, Xd⟩ ((R.wfl fl1).wd (l ++ [v1])).s R.device K bx n U b bd Z d; rw [show R.device = false from hdv]; simp only [reF, rsF, rsRow, slD, slR, List.length_append, ints_append, List.length_cons, List.length_nil, Nat.zero_add, List.cons_append, List.nil_append]
  rw [hc12]
  simp only [cond_false]
  refine Zc (Zo (Zt (Zs (Zr (ZA ?_)))))
  refine ZA ?_
  refine Zn (Zt (Ze (qok_pick (reF br ⟨some ⟨bd2, 0, none⟩, Xc, XB, Xd⟩ ((R.wfl fl1).wd l).s false K bx n U b bd Z d) Zj ?_)))
  refine ret2 (cs' := [row _ _ _, slv _ _ _ _ _ _, slv _ _ _ _ _ _, row _ _ _, row _ _ _, slv _ _ _ _ _ _, slv _ _ _ _ _ _, row _ _ _, slv _ _ _ _ _ _, rdC _ _ _ _, slv _ _ _ _ _ _]) (.inl rfl) Zu rfl rfl rfl ?_
  refine ⟨⟨some ⟨bd2, 0, none⟩, Xc, XB, Xd⟩, ((R.wfl fl1).wd l).s, Z, ?_, ?_, fun _ => rfl⟩
  ·show _ = Value.tuple #[.int .i64 R.trap.cause, .int .u32 R.trap.addr]; rw [show R.trap = Tr.none from ht]; rfl
  show _ = reF br _ _ R.device K bx n U b bd Z d; rw [show R.device = false from hdv]; rfl
 refine Zs (Zr (ZFa 0 ?_))
 refine ZC ?_
 iterate 2 refine ZA ?_
 refine Zn (Zt ?_)
 refine wc_cond _ rfl (fun hc14 => ?_) (fun hc14 => ?_)
 ·simp only [decide_eq_true_eq] at hc14
  simp only [decide_eq_false_iff_not] at hc4 hc6
  have h40 : 32 ≤ op ∧ op ≤ 40 := (by unfold opIn at hop; omega)
  obtain ⟨j1, j2, j3⟩ := jump_yes h40 nn R
  rw [act_reckon (by omega) j1]
  refine Zr (ZA ?_)
  refine wl_loadRow Zh (fun _ => rfl) (fun _ => rfl) (Zv rfl) rfl ?_
  refine wl_t (t_callS (rsF br X R.s false) rfl (fun _ _ => rfl) Zi (fun w hi hin => refjump_ok br X R false op nn hnu h40.1 h40.2 hdl hrl hn hnr w hin)) rfl ?_
  rintro _ _ ⟨_, ⟨X', rfl, rfl⟩, rfl⟩
  refine Zn (Zo (Zt (Zs (Zr (ZA ?_)))))
  refine ZA ?_
  refine Zn (Zt (Ze (qok_pick (reF br X' (reckonTo op nn R).2.s false K bx n U b bd Z d) Zj ?_)))
  refine ret2 (cs' := [row _ _ _, slv _ _ _ _ _ _, slv _ _ _ _ _ _, row _ _ _, row _ _ _, slv _ _ _ _ _ _, slv _ _ _ _ _ _, row _ _ _, slv _ _ _ _ _ _, rdC _ _ _ _, slv _ _ _ _ _ _]) (.inl rfl) Zu rfl rfl rfl ?_
  refine ⟨X', (reckonTo op nn R).2.s, Z, ?_, ?_, fun _ => rfl⟩
  ·show _ = Value.tuple #[.int .i64 (reckonTo op nn R).2.trap.cause, .int .u32 (reckonTo op nn R).2.trap.addr]; rw [j2, ht]; rfl
  show _ = reF br X' (reckonTo op nn R).2.s (reckonTo op nn R).2.device K bx n U b bd Z d; rw [j3, hdv]; rfl
 simp only [decide_eq_false_iff_not] at hc4 hc6 hc14
 rw [act_other (by omega)]
 refine Zs (Zr (ZFa 0 ?_))
 refine ZC ?_
 iterate 2 refine ZA ?_
 refine Zn (Zt ?_)
 refine wc_cond _ rfl (fun hc16 => ?_) (fun hc16 => ?_)
 ·simp only [decide_eq_true_eq] at hc16
  have h53 : 48 ≤ op ∧ op ≤ 53 := (by unfold opIn at hop; omega)
  refine Zs (Zr (wl_loadRow Zh (fun _ => rfl) (fun _ => rfl) (Zv rfl) rfl ?_))
  refine wl_loadRow Zh (fun _ => rfl) (fun _ => rfl) (Zv rfl) rfl ?_
  iterate 3 refine ZA ?_
  refine wl_t (t_callS (reF br X R.s false K bx n U b bd Z d) rfl (fun _ _ => rfl) Zi (fun w hi hin => refreach_ok br X R K bx n U b bd Z d hM hT hd ho op nn pc h53 hw hdl hn hroot hdv hcn Ad Ar cd cr w hin (fun w' hk => h w' (keep_trans hi.keep hk)))) rfl ?_
  rintro _ _ ⟨_, ⟨X', x', Z', rfl, rfl, hz⟩, rfl⟩
  iterate 4 refine ZA ?_
  refine Zn (Zt (Ze (Zq (Zw (qok_pick (reF br X' x' (otherTo n op nn ⟨R, U, d⟩).r.device K bx n (otherTo n op nn ⟨R, U, d⟩).u b bd Z' (otherTo n op nn ⟨R, U, d⟩).d) Zj ?_)))))
  refine ret2 (cs' := [row _ _ _, slv _ _ _ _ _ _, slv _ _ _ _ _ _, row _ _ _, row _ _ _, slv _ _ _ _ _ _, slv _ _ _ _ _ _, row _ _ _, slv _ _ _ _ _ _, rdC _ _ _ _, slv _ _ _ _ _ _]) (.inl rfl) Zu rfl rfl rfl ?_
  exact ⟨X', x', Z', rfl, rfl, hz⟩
 simp only [decide_eq_false_iff_not] at hc16
 have h69 : 64 ≤ op ∧ op ≤ 69 := (by unfold opIn at hop; omega)
 have hmd : (otherTo n op nn ⟨R, U, d⟩).d = d := other_dev h69 R U d
 refine Zs (Zr (wl_loadRow Zh (fun _ => rfl) (fun _ => rfl) (Zv rfl) rfl ?_))
 refine wl_loadRow Zh (fun _ => rfl) (fun _ => rfl) (Zv rfl) rfl ?_
 iterate 2 refine ZA ?_
 refine wl_t (t_callS (rsF br X R.s false ++ ruF K bx n U) rfl (fun _ _ => rfl) Zi (fun w hi hin => refspecial_ok br X R K bx n U d hT op nn pc h69.1 h69.2 hnu hw hdl hrl hn ht hdv hcn Ad Ar cd cr w hin (fun w' hk => h w' (keep_trans hi.keep (keep_more hk (fun b hb => by simp only [reF, blocks_append, List.mem_append] at hb ⊢; rcases hb with hb | hb; exact .inl hb; exact .inr (.inl hb))))))) rfl ?_
 rintro _ _ ⟨_, ⟨X', x', rfl, rfl, hz⟩, rfl⟩
 iterate 4 refine ZA ?_
 refine Zn (Zt (Ze (Zq (Zw (qok_pick (reF br X' x' (otherTo n op nn ⟨R, U, d⟩).r.device K bx n (otherTo n op nn ⟨R, U, d⟩).u b bd Z d) Zj ?_)))))
 refine ret2 (cs' := [row _ _ _, slv _ _ _ _ _ _, slv _ _ _ _ _ _, row _ _ _, row _ _ _, slv _ _ _ _ _ _, slv _ _ _ _ _ _, row _ _ _, slv _ _ _ _ _ _, rdC _ _ _ _, slv _ _ _ _ _ _]) (.inl rfl) Zu rfl rfl rfl ?_
 exact ⟨X', x', Z, rfl, by rw [hmd]; rfl, hz⟩
end Go.Proofs.YthcpmpmbgbibfaaGreatDoor
