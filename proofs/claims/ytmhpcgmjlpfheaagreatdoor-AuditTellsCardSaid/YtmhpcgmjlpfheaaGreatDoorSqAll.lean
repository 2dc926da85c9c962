/- Joined: SpX SpY SpZ SqA SqN SqO SqB SqC SqD SqE. -/
import Derived.Test.YtmhpcgmjlpfheaaGreatDoorSpBll
import Derived.Test.YtmhpcgmjlpfheaaGreatDoorInkA
import Derived.Test.YtmhpcgmjlpfheaaGreatDoorInkA
import Derived.Test.YtmhpcgmjlpfheaaGreatDoorStAll
import Derived.Test.YtmhpcgmjlpfheaaGreatDoorInkQ
/- An instruction that is being done: what is left. -/
set_option linter.unusedSimpArgs false
set_option linter.unusedVariables false
set_option maxRecDepth 100000
namespace Go.Ink
open Go.RowKit
abbrev Mach.of (p : Run × Mmu) (d : Dev) : Mach := ⟨p.1, p.2, d⟩
abbrev Run.ws (R : Run) (s : St) : Run := ⟨s, R.count, R.trap, R.device⟩
abbrev St.wcount (s : St) (c : Int) : St := ⟨s.pc, s.d, s.r, s.flags, s.super, s.paging, s.ie, s.root, s.vec, s.epc, s.cause, s.addr, s.esuper, s.eie, c, s.halted⟩
abbrev St.halt (s : St) : St := ⟨s.pc, s.d, s.r, s.flags, s.super, s.paging, s.ie, s.root, s.vec, s.epc, s.cause, s.addr, s.esuper, s.eie, s.count, true⟩
def otherTo (n : Nat) (op nn : Int) (m : Mach) : Mach :=
 bif op == 48 then lodeTo n m.r.pop m.u m.d m.r.top.toNat else
 bif op == 49 then stowTo n m.r.pop.pop m.u m.d m.r.top.toNat m.r.pop.top.toNat else
 bif op == 50 then Mach.of (sameL n m.r.pop m.u m.r.top.toNat 4) m.d else
 bif op == 51 then Mach.of (sameS n m.r.pop.pop m.u m.r.top.toNat 4 m.r.pop.top) m.d else
 bif op == 52 then Mach.of (sameL n m.r.pop m.u m.r.top.toNat 1) m.d else
 bif op == 53 then Mach.of (sameS n m.r.pop.pop m.u m.r.top.toNat 1 m.r.pop.top) m.d else
 bif op == 64 then ⟨m.r.wt ⟨11, 0⟩, m.u, m.d⟩ else
 bif op == 65 then ⟨m.r.ws m.r.s.back, m.u, m.d⟩ else
 bif op == 66 then ⟨m.r.push [((m.r.s.wcount m.r.count).get nn).1], m.u, m.d⟩ else
 bif op == 67 then ⟨m.r.pop.ws (m.r.pop.s.set nn m.r.top).1, bif nn == 1 || nn == 2 then ⟨m.u.m, tflush⟩ else m.u, m.d⟩ else
 bif op == 68 then ⟨m.r.pop, ⟨m.u.m, tdrop m.u.t m.r.top.toNat⟩, m.d⟩ else
 bif op == 69 then ⟨m.r.ws m.r.s.halt, m.u, m.d⟩ else m
theorem St.set_dr (s : St) (reg v : Int) : (s.set reg v).1.d = s.d ∧ (s.set reg v).1.r = s.r := by
 unfold St.set
 repeat (refine cond_all (fun q : St × Bool => q.1.d = s.d ∧ q.1.r = s.r) ⟨rfl, rfl⟩ ?_)
 exact ⟨rfl, rfl⟩
end Go.Ink
namespace Go.Proofs.YtmhpcgmjlpfheaaGreatDoor
open Go.RowKit Go.Ink
attribute [local irreducible] OpY GuardIs

set_option maxHeartbeats 4000000 in
theorem rother_ok (br bu bb : Nat) (L : MLoc) (D : DLoc) (X : SAdr) (Y : DAdr) (R : Run) (U : Mmu) (d : Dev) (op nn : Int) (hnn : u32 nn) (hw : ∀ x, x ∈ R.s.d → u32 x) (hdl : R.s.d.length ≤ 100000) (hrl : R.s.r.length ≤ 100000) (hn : (opNeeds op).1.1 ≤ R.s.d.length) (hT : U.t.length = 16) (hroot : u32 R.s.root) (hd : d.wf) (ho : d.out.length ≤ 1000000000)
  (w : World) (hi : Inv w (blocks (allF br bu bb L D X Y ⟨R, U, d⟩)) (allF br bu bb L D X Y ⟨R, U, d⟩) w) :
  Ctr Tryz.prog 153 [.pointer (some ⟨br, 0, none⟩), .agg #[.int .i64 op, .int .u32 nn]] w (allF br bu bb L D X Y ⟨R, U, d⟩) (fun v cs => ∃ X' Y', v = .tuple #[] ∧ cs = allF br bu bb L D X' Y' (otherTo L.n op nn ⟨R, U, d⟩)) := by
 have hu1 := hnn.1
 have hu2 := hnn.2
 refine fn_ctr Tryz.func153 rfl Tryz.ntmps153 rfl hi ?_
 refine Zs (Zr (ZO fun b3 => ?_))
 refine Zn (Zt (Zs (Zr (ZFa 0 ?_))))
 refine ZC ?_
 refine Zn (Zt (Zx (Zs (Zr (ZA ?_)))))
 refine ZA ?_
 refine Zn (Zt ?_)
 refine wc_cond _ rfl (fun hc2 => ?_) (fun hc2 => ?_)
 ·obtain rfl := beqZ hc2
  obtain ⟨R, l, x, rfl⟩ := Run.snoc (show 1 ≤ R.s.d.length from hn)
  obtain ⟨hx1, hx2⟩ := hw x (by simp)
  obtain ⟨va, rfl⟩ : ∃ va : Nat, x = va := Int.eq_ofNat_of_zero_le hx1
  have hva : va ≤ 4294967295 := (by omega)
  have hll : l.length ≤ 100000 := (by have : (l ++ [(va : Int)]).length ≤ 100000 := hdl; simp only [List.length_append, List.length_cons, List.length_nil] at this; omega)
  have HC := fun w hin => lode_ok br bu bb L D X Y R U d l va hva hll hT hroot hd w hin
  have hst : otherTo L.n 48 nn ⟨R.wd (l ++ [(va : Int)]), U, d⟩ = lodeTo L.n (R.wd l) U d va := (by show lodeTo _ _ _ _ _ = _; rw [Run.pop_wd, Run.top_wd]; rfl)
  obtain ⟨m', hm'⟩ : ∃ m', lodeTo L.n (R.wd l) U d va = m' := ⟨_, rfl⟩
  rw [hm'] at HC
  rw [hm'] at hst
  refine Zr (ZA ?_)
  refine wl_t (t_callS (allF br bu bb L D X Y ⟨R.wd (l ++ [(va : Int)]), U, d⟩) rfl (fun _ _ => rfl) Zi (fun w hi hin => HC w hin)) rfl ?_
  rintro _ _ ⟨_, ⟨X', Y', rfl, rfl⟩, rfl⟩
  refine Zn (Zo (qok_pick (allF br bu bb L D X' Y' m') Zj ?_))
  refine ret0 (cs' := [row _ _ _, slv _ _ _ _ _ _, slv _ _ _ _ _ _, row _ _ _, exC _ _ _ _, row _ _ _, row _ _ _, row _ _ _, row _ _ _, row _ _ _, slv _ _ _ _ _ _, slv _ _ _ _ _ _, row _ _ _, slv _ _ _ _ _ _]) (.inr rfl) Zu rfl ?_
  rw [hst]
  exact ⟨X', Y', rfl, rfl⟩
 refine Zs (Zr (ZA ?_))
 refine ZA ?_
 refine Zn (Zt ?_)
 refine wc_cond _ rfl (fun hc4 => ?_) (fun hc4 => ?_)
 ·obtain rfl := beqZ hc4
  obtain ⟨R, l, y, x, rfl⟩ := Run.snoc2 (show 2 ≤ R.s.d.length from hn)
  obtain ⟨hx1, hx2⟩ := hw x (by simp)
  obtain ⟨hy1, hy2⟩ := hw y (by simp)
  obtain ⟨va, rfl⟩ : ∃ va : Nat, x = va := Int.eq_ofNat_of_zero_le hx1
  obtain ⟨v, rfl⟩ : ∃ v : Nat, y = v := Int.eq_ofNat_of_zero_le hy1
  have hva : va ≤ 4294967295 := (by omega)
  have hv : v ≤ 4294967295 := (by omega)
  have hll : l.length ≤ 100000 := (by have : ((l ++ [(v : Int)]) ++ [(va : Int)]).length ≤ 100000 := hdl; simp only [List.length_append, List.length_cons, List.length_nil] at this; omega)
  have HC := fun w hin => stow_ok br bu bb L D X Y R U d l va v hva hv hT hroot hd ho w hin
  have hst : otherTo L.n 49 nn ⟨R.wd ((l ++ [(v : Int)]) ++ [(va : Int)]), U, d⟩ = stowTo L.n (R.wd l) U d va v := (by show stowTo _ _ _ _ _ _ = _; rw [Run.pop_wd, Run.top_wd, Run.pop_wd, Run.top_wd]; rfl)
  obtain ⟨m', hm'⟩ : ∃ m', stowTo L.n (R.wd l) U d va v = m' := ⟨_, rfl⟩
  rw [hm'] at HC
  rw [hm'] at hst
  refine Zr (ZA ?_)
  refine wl_t (t_callS (allF br bu bb L D X Y ⟨R.wd ((l ++ [(v : Int)]) ++ [(va : Int)]), U, d⟩) rfl (fun _ _ => rfl) Zi (fun w hi hin => HC w hin)) rfl ?_
  rintro _ _ ⟨_, ⟨Y', rfl, rfl⟩, rfl⟩
  refine Zn (Zo (qok_pick (allF br bu bb L D X Y' m') Zj ?_))
  refine ret0 (cs' := [row _ _ _, slv _ _ _ _ _ _, slv _ _ _ _ _ _, row _ _ _, exC _ _ _ _, row _ _ _, row _ _ _, row _ _ _, row _ _ _, row _ _ _, slv _ _ _ _ _ _, slv _ _ _ _ _ _, row _ _ _, slv _ _ _ _ _ _]) (.inr rfl) Zu rfl ?_
  rw [hst]
  exact ⟨X, Y', rfl, rfl⟩
 refine Zs (Zr (ZA ?_))
 refine ZA ?_
 refine Zn (Zt ?_)
 refine wc_cond _ rfl (fun hc6 => ?_) (fun hc6 => ?_)
 ·obtain rfl := beqZ hc6
  obtain ⟨R, l, x, rfl⟩ := Run.snoc (show 1 ≤ R.s.d.length from hn)
  obtain ⟨hx1, hx2⟩ := hw x (by simp)
  obtain ⟨va, rfl⟩ : ∃ va : Nat, x = va := Int.eq_ofNat_of_zero_le hx1
  have hva : va ≤ 4294967295 := (by omega)
  have hll : l.length ≤ 100000 := (by have : (l ++ [(va : Int)]).length ≤ 100000 := hdl; simp only [List.length_append, List.length_cons, List.length_nil] at this; omega)
  have HC := fun w hin => someL_ok br bu bb L D X R U l va 4 hva (by decide) (by decide) hll hT hroot w hin
  have hst : otherTo L.n 50 nn ⟨R.wd (l ++ [(va : Int)]), U, d⟩ = Mach.of (sameL L.n (R.wd l) U va 4) d := (by show Mach.of (sameL _ _ _ _ _) _ = _; rw [Run.pop_wd, Run.top_wd]; rfl)
  obtain ⟨m', hm'⟩ : ∃ m', sameL L.n (R.wd l) U va 4 = m' := ⟨_, rfl⟩
  rw [hm'] at HC
  rw [hm'] at hst
  refine Zr (ZA ?_)
  refine wl_t (t_callS (runF (kOf br bu D) X (R.wd (l ++ [(va : Int)])) ++ uF bu bb L U) rfl (fun _ _ => rfl) Zi (fun w hi hin => HC w hin)) rfl ?_
  rintro _ _ ⟨_, ⟨X', rfl, rfl⟩, rfl⟩
  refine Zn (Zo (qok_pick (allF br bu bb L D X' Y ⟨m'.1, m'.2, d⟩) Zj ?_))
  refine ret0 (cs' := [row _ _ _, slv _ _ _ _ _ _, slv _ _ _ _ _ _, row _ _ _, exC _ _ _ _, row _ _ _, row _ _ _, row _ _ _, row _ _ _, row _ _ _, slv _ _ _ _ _ _, slv _ _ _ _ _ _, row _ _ _, slv _ _ _ _ _ _]) (.inr rfl) Zu rfl ?_
  rw [hst]
  exact ⟨X', Y, rfl, rfl⟩
 refine Zs (Zr (ZA ?_))
 refine ZA ?_
 refine Zn (Zt ?_)
 refine wc_cond _ rfl (fun hc8 => ?_) (fun hc8 => ?_)
 ·obtain rfl := beqZ hc8
  obtain ⟨R, l, y, x, rfl⟩ := Run.snoc2 (show 2 ≤ R.s.d.length from hn)
  obtain ⟨hx1, hx2⟩ := hw x (by simp)
  obtain ⟨hy1, hy2⟩ := hw y (by simp)
  obtain ⟨va, rfl⟩ : ∃ va : Nat, x = va := Int.eq_ofNat_of_zero_le hx1
  obtain ⟨v, rfl⟩ : ∃ v : Nat, y = v := Int.eq_ofNat_of_zero_le hy1
  have hva : va ≤ 4294967295 := (by omega)
  have hv : v ≤ 4294967295 := (by omega)
  have hll : l.length ≤ 100000 := (by have : ((l ++ [(v : Int)]) ++ [(va : Int)]).length ≤ 100000 := hdl; simp only [List.length_append, List.length_cons, List.length_nil] at this; omega)
  have HC := fun w hin => someS_ok br bu bb L D X R U l va 4 v hva (by decide) (by decide) hll hT hroot w hin
  have hst : otherTo L.n 51 nn ⟨R.wd ((l ++ [(v : Int)]) ++ [(va : Int)]), U, d⟩ = Mach.of (sameS L.n (R.wd l) U va 4 v) d := (by show Mach.of (sameS _ _ _ _ _ _) _ = _; rw [Run.pop_wd, Run.top_wd, Run.pop_wd, Run.top_wd]; rfl)
  obtain ⟨m', hm'⟩ : ∃ m', sameS L.n (R.wd l) U va 4 v = m' := ⟨_, rfl⟩
  rw [hm'] at HC
  rw [hm'] at hst
  refine Zr (ZA ?_)
  refine wl_t (t_callS (runF (kOf br bu D) X (R.wd ((l ++ [(v : Int)]) ++ [(va : Int)])) ++ uF bu bb L U) rfl (fun _ _ => rfl) Zi (fun w hi hin => HC w hin)) rfl ?_
  rintro _ _ ⟨_, ⟨rfl, rfl⟩, rfl⟩
  refine Zn (Zo (qok_pick (allF br bu bb L D X Y ⟨m'.1, m'.2, d⟩) Zj ?_))
  refine ret0 (cs' := [row _ _ _, slv _ _ _ _ _ _, slv _ _ _ _ _ _, row _ _ _, exC _ _ _ _, row _ _ _, row _ _ _, row _ _ _, row _ _ _, row _ _ _, slv _ _ _ _ _ _, slv _ _ _ _ _ _, row _ _ _, slv _ _ _ _ _ _]) (.inr rfl) Zu rfl ?_
  rw [hst]
  exact ⟨X, Y, rfl, rfl⟩
 refine Zs (Zr (ZA ?_))
 refine ZA ?_
 refine Zn (Zt ?_)
 refine wc_cond _ rfl (fun hc10 => ?_) (fun hc10 => ?_)
 ·obtain rfl := beqZ hc10
  obtain ⟨R, l, x, rfl⟩ := Run.snoc (show 1 ≤ R.s.d.length from hn)
  obtain ⟨hx1, hx2⟩ := hw x (by simp)
  obtain ⟨va, rfl⟩ : ∃ va : Nat, x = va := Int.eq_ofNat_of_zero_le hx1
  have hva : va ≤ 4294967295 := (by omega)
  have hll : l.length ≤ 100000 := (by have : (l ++ [(va : Int)]).length ≤ 100000 := hdl; simp only [List.length_append, List.length_cons, List.length_nil] at this; omega)
  have HC := fun w hin => someL_ok br bu bb L D X R U l va 1 hva (by decide) (by decide) hll hT hroot w hin
  have hst : otherTo L.n 52 nn ⟨R.wd (l ++ [(va : Int)]), U, d⟩ = Mach.of (sameL L.n (R.wd l) U va 1) d := (by show Mach.of (sameL _ _ _ _ _) _ = _; rw [Run.pop_wd, Run.top_wd]; rfl)
  obtain ⟨m', hm'⟩ : ∃ m', sameL L.n (R.wd l) U va 1 = m' := ⟨_, rfl⟩
  rw [hm'] at HC
  rw [hm'] at hst
  refine Zr (ZA ?_)
  refine wl_t (t_callS (runF (kOf br bu D) X (R.wd (l ++ [(va : Int)])) ++ uF bu bb L U) rfl (fun _ _ => rfl) Zi (fun w hi hin => HC w hin)) rfl ?_
  rintro _ _ ⟨_, ⟨X', rfl, rfl⟩, rfl⟩
  refine Zn (Zo (qok_pick (allF br bu bb L D X' Y ⟨m'.1, m'.2, d⟩) Zj ?_))
  refine ret0 (cs' := [row _ _ _, slv _ _ _ _ _ _, slv _ _ _ _ _ _, row _ _ _, exC _ _ _ _, row _ _ _, row _ _ _, row _ _ _, row _ _ _, row _ _ _, slv _ _ _ _ _ _, slv _ _ _ _ _ _, row _ _ _, slv _ _ _ _ _ _]) (.inr rfl) Zu rfl ?_
  rw [hst]
  exact ⟨X', Y, rfl, rfl⟩
 refine Zs (Zr (ZA ?_))
 refine ZA ?_
 refine Zn (Zt ?_)
 refine wc_cond _ rfl (fun hc12 => ?_) (fun hc12 => ?_)
 ·obtain rfl := beqZ hc12
  obtain ⟨R, l, y, x, rfl⟩ := Run.snoc2 (show 2 ≤ R.s.d.length from hn)
  obtain ⟨hx1, hx2⟩ := hw x (by simp)
  obtain ⟨hy1, hy2⟩ := hw y (by simp)
  obtain ⟨va, rfl⟩ : ∃ va : Nat, x = va := Int.eq_ofNat_of_zero_le hx1
  obtain ⟨v, rfl⟩ : ∃ v : Nat, y = v := Int.eq_ofNat_of_zero_le hy1
  have hva : va ≤ 4294967295 := (by omega)
  have hv : v ≤ 4294967295 := (by omega)
  have hll : l.length ≤ 100000 := (by have : ((l ++ [(v : Int)]) ++ [(va : Int)]).length ≤ 100000 := hdl; simp only [List.length_append, List.length_cons, List.length_nil] at this; omega)
  have HC := fun w hin => someS_ok br bu bb L D X R U l va 1 v hva (by decide) (by decide) hll hT hroot w hin
  have hst : otherTo L.n 53 nn ⟨R.wd ((l ++ [(v : Int)]) ++ [(va : Int)]), U, d⟩ = Mach.of (sameS L.n (R.wd l) U va 1 v) d := (by show Mach.of (sameS _ _ _ _ _ _) _ = _; rw [Run.pop_wd, Run.top_wd, Run.pop_wd, Run.top_wd]; rfl)
  obtain ⟨m', hm'⟩ : ∃ m', sameS L.n (R.wd l) U va 1 v = m' := ⟨_, rfl⟩
  rw [hm'] at HC
  rw [hm'] at hst
  refine Zr (ZA ?_)
  refine wl_t (t_callS (runF (kOf br bu D) X (R.wd ((l ++ [(v : Int)]) ++ [(va : Int)])) ++ uF bu bb L U) rfl (fun _ _ => rfl) Zi (fun w hi hin => HC w hin)) rfl ?_
  rintro _ _ ⟨_, ⟨rfl, rfl⟩, rfl⟩
  refine Zn (Zo (qok_pick (allF br bu bb L D X Y ⟨m'.1, m'.2, d⟩) Zj ?_))
  refine ret0 (cs' := [row _ _ _, slv _ _ _ _ _ _, slv _ _ _ _ _ _, row _ _ _, exC _ _ _ _, row _ _ _, row _ _ _, row _ _ _, row _ _ _, row _ _ _, slv _ _ _ _ _ _, slv _ _ _ _ _ _, row _ _ _, slv _ _ _ _ _ _]) (.inr rfl) Zu rfl ?_
  rw [hst]
  exact ⟨X, Y, rfl, rfl⟩
 refine Zs (Zr (ZA ?_))
 refine ZA ?_
 refine Zn (Zt ?_)
 refine wc_cond _ rfl (fun hc14 => ?_) (fun hc14 => ?_)
 ·obtain rfl := beqZ hc14
  refine Zr (ZA ?_)
  refine wl_t (t_callS (runF (kOf br bu D) X R) rfl (fun _ _ => rfl) Zi (fun w hi hin => fail_ok (kOf br bu D) X R 11 0 w hin)) rfl ?_
  rintro _ _ ⟨_, ⟨rfl, rfl⟩, rfl⟩
  refine Zn (Zo (qok_pick (allF br bu bb L D X Y ⟨R.wt ⟨11, 0⟩, U, d⟩) Zj ?_))
  refine ret0 (cs' := [row _ _ _, slv _ _ _ _ _ _, slv _ _ _ _ _ _, row _ _ _, exC _ _ _ _, row _ _ _, row _ _ _, row _ _ _, row _ _ _, row _ _ _, slv _ _ _ _ _ _, slv _ _ _ _ _ _, row _ _ _, slv _ _ _ _ _ _]) (.inr rfl) Zu rfl ?_
  exact ⟨X, Y, rfl, rfl⟩
 refine Zs (Zr (ZA ?_))
 refine ZA ?_
 refine Zn (Zt ?_)
 refine wc_cond _ rfl (fun hc16 => ?_) (fun hc16 => ?_)
 ·obtain rfl := beqZ hc16
  have hR := return_ok R.s X.Ad X.Ar X.cd X.cr
  refine Zr (ZA ?_)
  iterate 2 refine ZA ?_
  refine ZFa 0 ?_
  refine wl_y (y_loadN (vs := R.s.cells (.slice X.Ad R.s.d.length X.cd) (.slice X.Ar R.s.r.length X.cr)) (fun _ => rfl) (fun _ => rfl) (Zv rfl)) (row_cells Zh rfl) rfl ?_
  refine ZS (fun w hi => hR w (hi.rdSt (show Has _ (slD R.s X.Ad X.cd) from Zh) (show Has _ (slR R.s X.Ar X.cr) from Zh) (by omega) (by omega))) ?_
  rintro _ _ ⟨_, ⟨A1, c1, A2, c2, rfl, rfl⟩, rfl⟩
  refine ZA ?_
  refine ZFa 0 ?_
  refine wl_t0 (t_storeRX (ys := runCells (kOf br bu D) ⟨A1, c1, A2, c2⟩ (R.ws R.s.back)) (n := 16) (vs := R.s.back.cells (.slice A1 R.s.back.d.length c1) (.slice A2 R.s.back.r.length c2)) rfl (fun _ => rfl) rfl rfl (allT rfl) Za rfl (by simp only [List.length_cons, List.length_nil]; omega)) ?_
  rintro _ _ ⟨rfl, rfl⟩
  refine Zn (Zo (qok_pick (allF br bu bb L D ⟨A1, c1, A2, c2⟩ Y ⟨R.ws R.s.back, U, d⟩) Zj ?_))
  refine ret0 (cs' := [row _ _ _, slv _ _ _ _ _ _, slv _ _ _ _ _ _, row _ _ _, exC _ _ _ _, row _ _ _, row _ _ _, row _ _ _, row _ _ _, row _ _ _, slv _ _ _ _ _ _, slv _ _ _ _ _ _, row _ _ _, slv _ _ _ _ _ _]) (.inr rfl) Zu rfl ?_
  exact ⟨⟨A1, c1, A2, c2⟩, Y, rfl, rfl⟩
 refine Zs (Zr (ZA ?_))
 refine ZA ?_
 refine Zn (Zt ?_)
 refine wc_cond _ rfl (fun hc18 => ?_) (fun hc18 => ?_)
 ·obtain rfl := beqZ hc18
  have HG := get_ok (R.s.wcount R.count) (.slice X.Ad R.s.d.length X.cd) (.slice X.Ar R.s.r.length X.cr) nn
  obtain ⟨⟨g, gk⟩, hg⟩ : ∃ q, (R.s.wcount R.count).get nn = q := ⟨_, rfl⟩
  rw [hg] at HG
  have hst : otherTo L.n 66 nn ⟨R, U, d⟩ = ⟨R.push [g], U, d⟩ := (by show Mach.mk (R.push [((R.s.wcount R.count).get nn).1]) U d = _; rw [hg])
  refine Zs (Zr (ZA ?_))
  refine ZA ?_
  refine ZFa 0 ?_
  refine wl_y (y_loadN (vs := R.s.cells (.slice X.Ad R.s.d.length X.cd) (.slice X.Ar R.s.r.length X.cr)) (fun _ => rfl) (fun _ => rfl) (Zv rfl)) (row_cells Zh rfl) rfl ?_
  refine ZN fun b4 => ?_
  refine ZM ?_
  refine Zn (Zt (Zs (Zr (ZA ?_))))
  refine ZA ?_
  refine ZFa 16 ?_
  refine ZC ?_
  refine ZFa 14 ?_
  refine ZL ?_
  refine Zn (Zt (Zs (Zr (wl_loadRow Zh (fun _ => rfl) (fun _ => rfl) (Zv rfl) rfl ?_))))
  refine ZFa 1 ?_
  refine ZC ?_
  refine Zy (y_conv rfl rfl (Zv rfl) Zl) ?_
  refine ZS (fun w hi => HG w) ?_
  rintro _ _ ⟨_, ⟨rfl, rfl⟩, rfl⟩
  iterate 5 refine ZA ?_
  refine Zn (Zt (Zr (ZA ?_)))
  refine ZA ?_
  refine wl_t (t_buildSl1 rfl rfl (fun _ => rfl) (fun _ => rfl) rfl rfl) rfl ?_
  rintro _ _ ⟨b70, rfl, rfl⟩
  refine wl_t (t_callS (runF (kOf br bu D) X R) rfl (fun _ _ => rfl) Zi (fun w hi hin => push_ok (kOf br bu D) X R _ 1 1 [g] (by omega) w hin (fun w' hk => hi.rdKs Zi Zh hk))) rfl ?_
  rintro _ _ ⟨_, ⟨A', c', rfl, rfl⟩, rfl⟩
  refine Zn (Zo (qok_pick (allF br bu bb L D ⟨A', c', X.Ar, X.cr⟩ Y ⟨R.wd (R.s.d ++ [g]), U, d⟩) Zj ?_))
  refine ret0 (cs' := [row _ _ _, slv _ _ _ _ _ _, slv _ _ _ _ _ _, row _ _ _, exC _ _ _ _, row _ _ _, row _ _ _, row _ _ _, row _ _ _, row _ _ _, slv _ _ _ _ _ _, slv _ _ _ _ _ _, row _ _ _, slv _ _ _ _ _ _]) (.inr rfl) Zu rfl ?_
  rw [hst]
  exact ⟨⟨A', c', X.Ar, X.cr⟩, Y, rfl, rfl⟩
 refine Zs (Zr (ZA ?_))
 refine ZA ?_
 refine Zn (Zt ?_)
 refine wc_cond _ rfl (fun hc23 => ?_) (fun hc23 => ?_)
 ·obtain rfl := beqZ hc23
  obtain ⟨R, l, x, rfl⟩ := Run.snoc (show 1 ≤ R.s.d.length from hn)
  obtain ⟨hx1, hx2⟩ := hw x (by simp)
  obtain ⟨va, rfl⟩ : ∃ va : Nat, x = va := Int.eq_ofNat_of_zero_le hx1
  have hva : va ≤ 4294967295 := (by omega)
  have hll : l.length ≤ 100000 := (by have : (l ++ [(va : Int)]).length ≤ 100000 := hdl; simp only [List.length_append, List.length_cons, List.length_nil] at this; omega)
  have HE := set_ok (R.wd l).s X.Ad X.Ar X.cd X.cr nn va
  have hdr := St.set_dr (R.wd l).s nn va
  have hst : otherTo L.n 67 nn ⟨R.wd (l ++ [(va : Int)]), U, d⟩ = ⟨(R.wd l).ws ((R.wd l).s.set nn va).1, bif nn == 1 || nn == 2 then ⟨U.m, tflush⟩ else U, d⟩ := (by show Mach.mk _ _ _ = _; rw [Run.pop_wd, Run.top_wd])
  obtain ⟨⟨⟨pc', d', r', fl', su', pg', ie', rt', ve', ep', ca', ad', es', ei', co', ha'⟩, kn⟩, hq⟩ : ∃ q, (R.wd l).s.set nn va = q := ⟨_, rfl⟩
  rw [hq] at HE hst hdr
  obtain ⟨hd', hr'⟩ := hdr
  have hd' : l = d' := hd'.symm
  have hr' : R.s.r = r' := hr'.symm
  subst hd'
  subst hr'
  refine Zs (Zr (ZA ?_))
  refine wl_t (t_callS (runF (kOf br bu D) X (R.wd (l ++ [(va : Int)]))) rfl (fun _ _ => rfl) Zi (fun w hi hin => pop_ok (kOf br bu D) X R l va w hin)) rfl ?_
  rintro _ _ ⟨_, ⟨rfl, rfl⟩, rfl⟩
  refine ZA ?_
  refine Zn (Zt (Zs (wc_draw ⟨fun j => List.elem j [15], []⟩ Zk ?_)))
  refine ZE 0 ?_
  refine ZE 1 ?_
  refine ZE 2 ?_
  refine ZFe 3 0 ?_
  refine wa_ln 4 rfl Zk Zk Zk Zk (y_loadN (vs := (R.wd l).s.cells (.slice X.Ad (R.wd l).s.d.length X.cd) (.slice X.Ar (R.wd l).s.r.length X.cr)) (fun _ => rfl) (fun _ => rfl) (Zv rfl)) (row_cells Zh rfl) rfl ?_
  refine ZFe 5 1 ?_
  refine ZG 6 ?_
  refine wa_yn 7 rfl Zk Zk Zk (y_conv rfl rfl (Zv rfl) Zl) rfl ?_
  refine ZE 8 ?_
  refine wa_1 9 Zk ?_
  refine ZT (fun w hi => HE w (hi.rdSt (show Has _ (slD (R.wd l).s X.Ad X.cd) from Zh) (show Has _ (slR (R.wd l).s X.Ar X.cr) from Zh) (by show l.length * 4 ≤ _; omega) (by show R.s.r.length * 4 ≤ _; have : R.s.r.length ≤ 100000 := hrl; omega))) ?_
  rintro _ _ ⟨_, ⟨A1, c1, A2, c2, rfl, rfl⟩, rfl⟩
  refine ZE 10 ?_
  refine ZE 11 ?_
  refine ZE 12 ?_
  refine ZE 13 ?_
  refine ZFe 14 0 ?_
  refine wa_1 15 Zk ?_
  refine wi_t0 rfl rfl (t_storeRX (ys := runCells (kOf br bu D) ⟨A1, c1, A2, c2⟩ ((R.wd l).ws ⟨pc', l, R.s.r, fl', su', pg', ie', rt', ve', ep', ca', ad', es', ei', co', ha'⟩)) (n := 16) (vs := (St.mk pc' l R.s.r fl' su' pg' ie' rt' ve' ep' ca' ad' es' ei' co' ha').cells (.slice A1 l.length c1) (.slice A2 R.s.r.length c2)) rfl (fun _ => rfl) rfl rfl (allT rfl) Za rfl (by simp only [List.length_cons, List.length_nil]; omega)) (fun _ _ _ _ _ _ _ h => by cases h) ?_
  rintro _ _ ⟨rfl, rfl⟩
  refine wa_done Zk ?_
  refine Zt (Zs (Zr (ZFa 1 ?_)))
  refine ZC ?_
  iterate 2 refine ZA ?_
  refine ZFb 1 ?_
  refine ZD ?_
  refine ZB ?_
  iterate 2 refine ZA ?_
  iterate 2 refine ZB ?_
  refine ZFb 17 ?_
  refine ZD ?_
  refine ZB ?_
  refine ZA ?_
  refine Zn (Zt ?_)
  refine wc_cond _ rfl (fun hc26 => ?_) (fun hc26 => ?_)
  ·have h12 : (nn == 1 || nn == 2) = true := (by simpa using hc26)
   refine Zr (ZA ?_)
   refine ZA ?_
   refine ZFa 17 ?_
   refine ZC ?_
   refine wl_t (t_callS (uF bu bb L U) rfl (fun _ _ => rfl) Zi (fun w hi hin => uflush_ok bu bb L U hT w hin)) rfl ?_
   rintro _ _ ⟨_, ⟨rfl, rfl⟩, rfl⟩
   refine Zn (Zo (qok_pick (allF br bu bb L D ⟨A1, c1, A2, c2⟩ Y ⟨((R.wd l).ws ⟨pc', l, R.s.r, fl', su', pg', ie', rt', ve', ep', ca', ad', es', ei', co', ha'⟩), ⟨U.m, tflush⟩, d⟩) Zj ?_))
   refine ret0 (cs' := [row _ _ _, slv _ _ _ _ _ _, slv _ _ _ _ _ _, row _ _ _, exC _ _ _ _, row _ _ _, row _ _ _, row _ _ _, row _ _ _, row _ _ _, slv _ _ _ _ _ _, slv _ _ _ _ _ _, row _ _ _, slv _ _ _ _ _ _]) (.inr rfl) Zu rfl ?_
   rw [hst, condT h12]
   exact ⟨⟨A1, c1, A2, c2⟩, Y, rfl, rfl⟩
  have h12 : (nn == 1 || nn == 2) = false := (by simpa using hc26)
  refine Zc (Zo (qok_pick (allF br bu bb L D ⟨A1, c1, A2, c2⟩ Y ⟨((R.wd l).ws ⟨pc', l, R.s.r, fl', su', pg', ie', rt', ve', ep', ca', ad', es', ei', co', ha'⟩), U, d⟩) Zj ?_))
  refine ret0 (cs' := [row _ _ _, slv _ _ _ _ _ _, slv _ _ _ _ _ _, row _ _ _, exC _ _ _ _, row _ _ _, row _ _ _, row _ _ _, row _ _ _, row _ _ _, slv _ _ _ _ _ _, slv _ _ _ _ _ _, row _ _ _, slv _ _ _ _ _ _]) (.inr rfl) Zu rfl ?_
  rw [hst, condF h12]
  exact ⟨⟨A1, c1, A2, c2⟩, Y, rfl, rfl⟩
 refine Zs (Zr (ZA ?_))
 refine ZA ?_
 refine Zn (Zt ?_)
 refine wc_cond _ rfl (fun hc28 => ?_) (fun hc28 => ?_)
 ·obtain rfl := beqZ hc28
  obtain ⟨R, l, x, rfl⟩ := Run.snoc (show 1 ≤ R.s.d.length from hn)
  obtain ⟨hx1, hx2⟩ := hw x (by simp)
  obtain ⟨va, rfl⟩ : ∃ va : Nat, x = va := Int.eq_ofNat_of_zero_le hx1
  have hva : va ≤ 4294967295 := (by omega)
  have hll : l.length ≤ 100000 := (by have : (l ++ [(va : Int)]).length ≤ 100000 := hdl; simp only [List.length_append, List.length_cons, List.length_nil] at this; omega)
  have hst : otherTo L.n 68 nn ⟨R.wd (l ++ [(va : Int)]), U, d⟩ = ⟨R.wd l, ⟨U.m, tdrop U.t va⟩, d⟩ := (by show Mach.mk _ _ _ = _; rw [Run.pop_wd, Run.top_wd]; rfl)
  refine Zs (Zr (ZA ?_))
  refine wl_t (t_callS (runF (kOf br bu D) X (R.wd (l ++ [(va : Int)]))) rfl (fun _ _ => rfl) Zi (fun w hi hin => pop_ok (kOf br bu D) X R l va w hin)) rfl ?_
  rintro _ _ ⟨_, ⟨rfl, rfl⟩, rfl⟩
  refine ZA ?_
  refine Zn (Zt (Zs (Zr (ZA ?_))))
  refine ZA ?_
  refine ZFa 17 ?_
  refine ZC ?_
  refine ZA ?_
  refine Zn (Zt ?_)
  refine wc_cond _ rfl (fun hc30 => ?_) (fun hc30 => ?_)
  ·refine Zr (ZA ?_)
   refine ZA ?_
   refine ZFa 17 ?_
   refine ZC ?_
   refine ZA ?_
   refine wl_t (t_callS (uF bu bb L U) rfl (fun _ _ => rfl) Zi (fun w hi hin => udrop_ok bu bb L U hT va hva w hin)) rfl ?_
   rintro _ _ ⟨_, ⟨rfl, rfl⟩, rfl⟩
   refine Zn (Zo (qok_pick (allF br bu bb L D X Y ⟨R.wd l, ⟨U.m, tdrop U.t va⟩, d⟩) Zj ?_))
   refine ret0 (cs' := [row _ _ _, slv _ _ _ _ _ _, slv _ _ _ _ _ _, row _ _ _, exC _ _ _ _, row _ _ _, row _ _ _, row _ _ _, row _ _ _, row _ _ _, slv _ _ _ _ _ _, slv _ _ _ _ _ _, row _ _ _, slv _ _ _ _ _ _]) (.inr rfl) Zu rfl ?_
   rw [hst]
   exact ⟨X, Y, rfl, rfl⟩
  exact absurd hc30 (by simp)
 refine Zs (Zr (ZA ?_))
 refine ZA ?_
 refine Zn (Zt ?_)
 refine wc_cond _ rfl (fun hc32 => ?_) (fun hc32 => ?_)
 ·obtain rfl := beqZ hc32
  refine Zr (ZA ?_)
  refine ZA ?_
  refine ZFa 0 ?_
  refine ZFa 15 ?_
  refine ZL ?_
  refine Zn (Zo (qok_pick (allF br bu bb L D X Y ⟨R.ws R.s.halt, U, d⟩) Zj ?_))
  refine ret0 (cs' := [row _ _ _, slv _ _ _ _ _ _, slv _ _ _ _ _ _, row _ _ _, exC _ _ _ _, row _ _ _, row _ _ _, row _ _ _, row _ _ _, row _ _ _, slv _ _ _ _ _ _, slv _ _ _ _ _ _, row _ _ _, slv _ _ _ _ _ _]) (.inr rfl) Zu rfl ?_
  exact ⟨X, Y, rfl, rfl⟩
 have hst : otherTo L.n op nn ⟨R, U, d⟩ = ⟨R, U, d⟩ := (by simp only [otherTo, *, cond_false])
 refine Zc (Zo (qok_pick (allF br bu bb L D X Y ⟨R, U, d⟩) Zj ?_))
 refine ret0 (cs' := [row _ _ _, slv _ _ _ _ _ _, slv _ _ _ _ _ _, row _ _ _, exC _ _ _ _, row _ _ _, row _ _ _, row _ _ _, row _ _ _, row _ _ _, slv _ _ _ _ _ _, slv _ _ _ _ _ _, row _ _ _, slv _ _ _ _ _ _]) (.inr rfl) Zu rfl ?_
 rw [hst]
 exact ⟨X, Y, rfl, rfl⟩
end Go.Proofs.YtmhpcgmjlpfheaaGreatDoor
/- An instruction: what comes of it. -/
set_option linter.unusedSimpArgs false
set_option linter.unusedVariables false
set_option maxRecDepth 100000
namespace Go.Ink
open Go.RowKit
structure Res where
 s : St
 trapped : Bool
 device : Bool
 pages : List Int
/-- The state as it was, one instruction later. -/
abbrev St.next (s : St) : St := s.wcount (IntKind.u64.wrap (s.count + 1))
abbrev St.wpc (s : St) (x : Int) : St := ⟨x, s.d, s.r, s.flags, s.super, s.paging, s.ie, s.root, s.vec, s.epc, s.cause, s.addr, s.esuper, s.eie, s.count, s.halted⟩
def run0 (s : St) (op : Int) : Run := ⟨s.next.wpc (IntKind.u32.wrap (s.pc + IntKind.u32.wrap (opSize op))), s.count, Tr.none, false⟩
/-- The instruction itself. -/
def midTo (n : Nat) (s : St) (op nn : Int) (U : Mmu) (d : Dev) : Mach :=
 match stackTo op nn (run0 s op) with
 | some R => ⟨R, U, d⟩
 | none => bif (reckonTo op nn (run0 s op)).1 then ⟨(reckonTo op nn (run0 s op)).2, U, d⟩ else otherTo n op nn ⟨(reckonTo op nn (run0 s op)).2, U, d⟩
def endTo (s : St) (m : Mach) : Res :=
 bif m.r.trap.cause != 0 then ⟨s.next.trap m.r.trap.cause m.r.trap.addr, true, m.r.device, trues m.u.m.turned 64⟩ else ⟨m.r.s, false, m.r.device, trues m.u.m.turned 64⟩
def doTo (n : Nat) (s : St) (op nn : Int) (U : Mmu) (d : Dev) : Res × Mmu × Dev :=
 bif !s.right then (⟨s, false, false, []⟩, U, d) else
 bif checkOf s op nn != 0 then (⟨s.next.trap (checkOf s op nn) 0, true, false, []⟩, ⟨U.m.calm, U.t⟩, d) else
 (endTo s (midTo n s op nn ⟨U.m.calm, U.t⟩ d), (midTo n s op nn ⟨U.m.calm, U.t⟩ d).u, (midTo n s op nn ⟨U.m.calm, U.t⟩ d).d)
end Go.Ink
/- An instruction: the walk of Do. -/
set_option linter.unusedSimpArgs false
set_option linter.unusedVariables false
set_option maxRecDepth 100000
namespace Go.Ink
open Go.RowKit
theorem holds_no (op f : Int) (h : (arHolds op f).2 = false) : (arHolds op f).1 = false := by
 revert h
 unfold arHolds
 repeat (refine cond_all (fun q : Bool × Bool => q.2 = false → q.1 = false) (fun h => by cases h) ?_)
 exact fun _ => rfl
theorem reckonTo_none (op n : Int) (R : Run) (h : (reckonTo op n R).1 = false) : (reckonTo op n R).2 = R := by
 revert h
 unfold reckonTo
 repeat (refine cond_all (fun q : Bool × Run => q.1 = false → q.2 = R) (fun h => by cases h) ?_)
 intro h
 show (bif (arHolds op R.s.flags).1 then _ else R) = R
 rw [holds_no op R.s.flags h]
 rfl
theorem needOf_zero {s : St} {q : (Nat × Nat) × (Nat × Nat)} (h : needOf s q = 0) : q.1.1 ≤ s.d.length ∧ q.2.1 ≤ s.r.length := by
 unfold needOf at h
 cases hc : (decide ((s.d.length : Int) < (q.1.1 : Int)) || decide ((s.r.length : Int) < (q.2.1 : Int))) with
 | true => rw [hc] at h; cases h
 | false =>
  simp only [Bool.or_eq_false_iff, decide_eq_false_iff_not] at hc
  omega
theorem checkOf_zero {s : St} {op n : Int} (h : checkOf s op n = 0) : (opNeeds op).1.1 ≤ s.d.length ∧ (opNeeds op).2.1 ≤ s.r.length := by
 unfold checkOf at h
 revert h
 refine cond_all (fun x : Int => x = 0 → (opNeeds op).1.1 ≤ s.d.length ∧ (opNeeds op).2.1 ≤ s.r.length) (fun h => by cases h) ?_
 refine cond_all (fun x : Int => x = 0 → (opNeeds op).1.1 ≤ s.d.length ∧ (opNeeds op).2.1 ≤ s.r.length) (fun h => by cases h) ?_
 refine cond_all (fun x : Int => x = 0 → (opNeeds op).1.1 ≤ s.d.length ∧ (opNeeds op).2.1 ≤ s.r.length) (fun h => by cases h) ?_
 refine cond_all (fun x : Int => x = 0 → (opNeeds op).1.1 ≤ s.d.length ∧ (opNeeds op).2.1 ≤ s.r.length) (fun h => by cases h) ?_
 exact needOf_zero
end Go.Ink
namespace Go.Proofs.YtmhpcgmjlpfheaaGreatDoor
open Go.RowKit Go.Ink
attribute [local irreducible] OpY GuardIs

abbrev resCells (r : Res) (X : SAdr) (Ap : Option Addr) (cp : Nat) : List Value := [.int .u32 r.s.pc, .slice X.Ad r.s.d.length X.cd, .slice X.Ar r.s.r.length X.cr, .int .u32 r.s.flags, .bool r.s.super, .bool r.s.paging, .bool r.s.ie, .int .u32 r.s.root, .int .u32 r.s.vec, .int .u32 r.s.epc, .int .u32 r.s.cause, .int .u32 r.s.addr, .bool r.s.esuper, .bool r.s.eie, .int .u64 r.s.count, .bool r.s.halted, .bool r.trapped, .bool r.device, .slice Ap r.pages.length cp]
abbrev resF (r : Res) (X : SAdr) (Ap : Option Addr) (cp : Nat) : List Chunk := [slD r.s X.Ad X.cd, slR r.s X.Ar X.cr, sl .i64 3 Ap r.pages.length cp r.pages]
end Go.Proofs.YtmhpcgmjlpfheaaGreatDoor
/- An instruction: the walk of Do, with a guest's parts there. -/
set_option linter.unusedSimpArgs false
set_option linter.unusedVariables false
set_option maxRecDepth 100000
namespace Go.Ink
theorem St.fits {s : St} (h : s.right = true) : s.d.length ≤ 16 ∧ s.r.length ≤ 16 ∧ s.flags ≤ 15 := by
 simp only [St.right, Bool.and_eq_true, decide_eq_true_eq] at h
 omega
end Go.Ink
namespace Go.Proofs.YtmhpcgmjlpfheaaGreatDoor
open Go.RowKit Go.Ink
attribute [local irreducible] OpY GuardIs

abbrev ubF (bu bb : Nat) (L : MLoc) (D : DLoc) (Y : DAdr) (U : Mmu) (d : Dev) : List Chunk := uF bu bb L U ++ busF D L.bm Y d
set_option maxHeartbeats 4000000 in
theorem do_ok (bu bb : Nat) (L : MLoc) (D : DLoc) (Y : DAdr) (s : St) (Ad Ar : Option Addr) (cd cr : Nat) (op nn : Int) (U : Mmu) (d : Dev) (hwf : s.wf) (hnn : u32 nn) (hT : U.t.length = 16) (hd : d.wf) (ho : d.out.length ≤ 1000000000)
  (w : World) (hi : Inv w (blocks (ubF bu bb L D Y U d)) (ubF bu bb L D Y U d) w) (h : ∀ w', Keep (blocks (ubF bu bb L D Y U d)) w w' → RdSt w' s Ad Ar cd cr) :
  Ctr Tryz.prog 127 [sv s Ad cd Ar cr, .agg #[.int .i64 op, .int .u32 nn], .pointer (some ⟨bu, 0, none⟩), .pointer (some ⟨D.bs, 0, none⟩)] w (ubF bu bb L D Y U d)
   (fun v cs => ∃ X Y' Ap cp, v = .agg (resCells (doTo L.n s op nn U d).1 X Ap cp).toArray ∧ cs = resF (doTo L.n s op nn U d).1 X Ap cp ++ ubF bu bb L D Y' (doTo L.n s op nn U d).2.1 (doTo L.n s op nn U d).2.2) := by
 have HR := right_ok s Ad Ar cd cr
 have HK := check_ok s Ad Ar cd cr op nn hnn
 have hbd := (h w (Keep.refl _ _)).hd
 have hbr := (h w (Keep.refl _ _)).hr
 unfold doTo
 obtain ⟨rt, hrt⟩ : ∃ b, s.right = b := ⟨_, rfl⟩
 obtain ⟨ck, hck⟩ : ∃ b, checkOf s op nn = b := ⟨_, rfl⟩
 rw [hrt] at HR ⊢
 rw [hck] at HK ⊢
 obtain ⟨UM, UT⟩ := U
 have HM := rcalm_ok L UM
 have HZ := size_ok op
 obtain ⟨R0, hR0⟩ : ∃ R, run0 s op = R := ⟨_, rfl⟩
 have hmid : midTo L.n s op nn ⟨UM.calm, UT⟩ d = (match stackTo op nn R0 with
  | some R => ⟨R, ⟨UM.calm, UT⟩, d⟩
  | none => bif (reckonTo op nn R0).1 then ⟨(reckonTo op nn R0).2, ⟨UM.calm, UT⟩, d⟩ else otherTo L.n op nn ⟨(reckonTo op nn R0).2, ⟨UM.calm, UT⟩, d⟩) := by rw [← hR0]; rfl
 unfold run0 at hR0
 obtain ⟨sz, hsz⟩ : ∃ b, opSize op = b := ⟨_, rfl⟩
 rw [hsz] at HZ hR0
 obtain ⟨pc', hpc⟩ : ∃ b, IntKind.u32.wrap (s.pc + IntKind.u32.wrap sz) = b := ⟨_, rfl⟩
 rw [hpc] at hR0
 refine fn_ctr Tryz.func127 rfl Tryz.ntmps127 rfl hi ?_
 refine Zs (Zr (ZO fun b4 => ?_))
 refine ZO fun b5 => ?_
 refine ZN fun b8 => ?_
 refine Zn (Zt (Zs (Zs (Zr (wl_loadRow Zh (fun _ => rfl) (fun _ => rfl) (Zv rfl) rfl ?_)))))
 refine ZS (fun w hi => HR w) ?_
 rintro _ _ ⟨_, ⟨rfl, rfl⟩, rfl⟩
 refine ZA ?_
 refine Zn (Zt ?_)
 refine wc_cond _ rfl (fun hc1 => ?_) (fun hc1 => ?_)
 ·refine Zs (Zr (wl_loadRow Zh (fun _ => rfl) (fun _ => rfl) (Zv rfl) rfl ?_))
  refine ZS (fun w hi => copy_ok s Ad Ar cd cr w (h w hi.keep)) ?_
  rintro _ _ ⟨_, ⟨A1, c1, A2, c2, rfl, rfl⟩, rfl⟩
  refine ZA ?_
  refine wl_nilc 3 1 ?_
  refine ZM ?_
  refine Zn (Zt (Ze (Zw (qok_pick ([row b8 (resCells ⟨s, false, false, []⟩ ⟨A1, c1, A2, c2⟩ none 0) 222] ++ (resF ⟨s, false, false, []⟩ ⟨A1, c1, A2, c2⟩ none 0 ++ ubF bu bb L D Y ⟨UM, UT⟩ d)) Zj ?_))))
  refine retC (cs' := [slv _ _ _ _ _ _, slv _ _ _ _ _ _, slv _ _ _ _ _ _, row _ _ _, exC _ _ _ _, row _ _ _, row _ _ _, row _ _ _, row _ _ _, row _ _ _, slv _ _ _ _ _ _, slv _ _ _ _ _ _, row _ _ _, slv _ _ _ _ _ _]) (.inl rfl) Zu rfl rfl Zh (fun _ => rfl) (fun _ => rfl) ?_
  rw [condT hc1]
  exact ⟨⟨A1, c1, A2, c2⟩, Y, none, 0, rfl, rfl⟩
 refine Zc (Zt (Zs (Zs (Zr (ZA ?_)))))
 refine ZA ?_
 refine Zn (Zt ?_)
 refine wc_cond _ rfl (fun hc3 => ?_) (fun hc3 => ?_)
 ·refine Zr (ZA ?_)
  refine ZS (fun w hi => umem_ok bu L.bm bb w (hi.get Zh)) ?_
  rintro _ _ ⟨_, ⟨rfl, rfl⟩, rfl⟩
  refine wl_t (t_callS ([memC L UM]) rfl (fun _ _ => rfl) Zi (fun w hi hin => HM w hin)) rfl ?_
  rintro _ _ ⟨_, ⟨rfl, rfl⟩, rfl⟩
  refine Zn (Zt (Zs (Zr (wl_loadRow Zh (fun _ => rfl) (fun _ => rfl) (Zv rfl) rfl ?_))))
  refine ZS (fun w hi => copy_ok s Ad Ar cd cr w (h w hi.keep)) ?_
  rintro _ _ ⟨_, ⟨A1, c1, A2, c2, rfl, rfl⟩, rfl⟩
  refine ZN fun b9 => ?_
  refine ZM ?_
  refine Zn (Zt (Zs (Zr (ZFa 14 ?_))))
  refine ZC ?_
  refine Zy (y_add (Zv rfl) (Zv rfl) rfl) ?_
  refine ZFa 14 ?_
  refine ZL ?_
  refine Zn (Zt (Zs (Zs (Zr (wl_loadRow Zh (fun _ => rfl) (fun _ => rfl) (Zv rfl) rfl ?_)))))
  refine wl_loadRow Zh (fun _ => rfl) (fun _ => rfl) (Zv rfl) rfl ?_
  refine ZS (fun w hi => HK w (h w hi.keep)) ?_
  rintro _ _ ⟨_, ⟨rfl, rfl⟩, rfl⟩
  refine ZA ?_
  refine Zn (Zt (Zs (Zr (ZA ?_))))
  refine ZA ?_
  refine Zn (Zt ?_)
  refine wc_cond _ rfl (fun hc8 => ?_) (fun hc8 => ?_)
  ·refine Zs (Zr (wl_loadRow Zh (fun _ => rfl) (fun _ => rfl) (Zv rfl) rfl ?_))
   refine ZA ?_
   refine ZS (fun w hi => trap_ok s.next A1 A2 c1 c2 ck 0 w (hi.rdSt (show Has _ (slD s A1 c1) from Zh) (show Has _ (slR s A2 c2) from Zh) hbd hbr)) ?_
   rintro _ _ ⟨_, ⟨A3, c3, A4, c4, rfl, rfl⟩, rfl⟩
   refine ZA ?_
   refine wl_nilc 3 1 ?_
   refine ZM ?_
   refine Zn (Zt (Ze (Zw (qok_pick ([row b8 (resCells ⟨s.next.trap ck 0, true, false, []⟩ ⟨A3, c3, A4, c4⟩ none 0) 222] ++ (resF ⟨s.next.trap ck 0, true, false, []⟩ ⟨A3, c3, A4, c4⟩ none 0 ++ ubF bu bb L D Y ⟨UM.calm, UT⟩ d)) Zj ?_))))
   refine retC (cs' := [slv _ _ _ _ _ _, slv _ _ _ _ _ _, slv _ _ _ _ _ _, row _ _ _, exC _ _ _ _, row _ _ _, row _ _ _, row _ _ _, row _ _ _, row _ _ _, slv _ _ _ _ _ _, slv _ _ _ _ _ _, row _ _ _, slv _ _ _ _ _ _]) (.inl rfl) Zu rfl rfl Zh (fun _ => rfl) (fun _ => rfl) ?_
   rw [condF hc1, condT hc8]
   exact ⟨⟨A3, c3, A4, c4⟩, Y, none, 0, rfl, rfl⟩
  refine Zc (Zt (Zs (wc_draw ⟨fun j => List.elem j [], []⟩ Zk ?_)))
  refine ZI 0 ?_
  refine ZFe 2 14 ?_
  refine ZG 3 ?_
  refine ZE 4 ?_
  refine ZE 5 ?_
  refine wa_1 1 Zk ?_
  refine ZT (fun w hi => copy_ok s.next A1 A2 c1 c2 w (hi.rdSt (show Has _ (slD s A1 c1) from Zh) (show Has _ (slR s A2 c2) from Zh) hbd hbr)) ?_
  rintro _ _ ⟨_, ⟨A5, c5, A6, c6, rfl, rfl⟩, rfl⟩
  refine ZE 6 ?_
  refine wa_1 7 Zk ?_
  refine wi_t rfl rfl (t_box rfl rfl) (fun _ _ _ _ _ _ _ h => by cases h) rfl ?_
  rintro _ _ ⟨b46, rfl, rfl⟩
  refine ZE 8 ?_
  refine wa_done Zk ?_
  refine Zt (Zs (wc_draw ⟨fun j => List.elem j [13], []⟩ Zk ?_))
  refine ZE 0 ?_
  refine ZE 1 ?_
  refine ZFe 2 0 ?_
  refine ZFe 3 0 ?_
  refine ZG 4 ?_
  refine ZFe 5 0 ?_
  refine ZG 6 ?_
  refine wa_1 7 Zk ?_
  refine ZT (fun w hi => HZ w) ?_
  rintro _ _ ⟨_, ⟨rfl, rfl⟩, rfl⟩
  refine wa_yn 8 rfl Zk Zk Zk (y_conv rfl rfl (Zv rfl) rfl) rfl ?_
  refine wa_yn 9 rfl Zk Zk Zk (y_add (Zv rfl) (Zv rfl) hpc) rfl ?_
  refine ZE 10 ?_
  refine ZFe 11 0 ?_
  refine ZFe 12 0 ?_
  refine wa_1 13 Zk ?_
  refine ZQ ?_
  refine wa_done Zk ?_
  refine Zt ?_
  refine wc_seq_mid (fun q : SAdr × DAdr × Mach => [(2, .pointer (some ⟨bu, 0, none⟩)), (8, .pointer (some ⟨b8, 0, none⟩)), (9, .pointer (some ⟨b9, 0, none⟩)), (11, .pointer (some ⟨b46, 0, none⟩))]) (fun q => allF b46 bu bb L D q.1 q.2.1 q.2.2 ++ [row b8 [.int .u32 0, .slice none 0 0, .slice none 0 0, .int .u32 0, .bool false, .bool false, .bool false, .int .u32 0, .int .u32 0, .int .u32 0, .int .u32 0, .int .u32 0, .bool false, .bool false, .int .u64 0, .bool false, .bool false, .bool false, .slice none 0 0] 222, row b9 (s.next.cells (.slice A1 s.next.d.length c1) (.slice A2 s.next.r.length c2)) 28, slD s.next A1 c1, slR s.next A2 c2]) (fun q => midTo L.n s op nn ⟨UM.calm, UT⟩ d = q.2.2) ?_ ?_
  ·refine Zs ?_
   subst hR0
   have hrt1 : rt = true := (by simpa using hc1)
   obtain ⟨hd16, hr16, -⟩ := St.fits (hrt.trans hrt1)
   have hck0 : ck = 0 := (by simpa using hc8)
   obtain ⟨n1, n2⟩ := checkOf_zero (hck.trans hck0)
   have HS := fun w hin => stack_ok (kOf b46 bu D) ⟨A5, c5, A6, c6⟩ ⟨s.next.wpc pc', s.count, Tr.none, false⟩ op nn (show s.d.length ≤ 100000 by omega) (show s.r.length ≤ 100000 by omega) n1 n2 w hin
   rcases hst : stackTo op nn ⟨s.next.wpc pc', s.count, Tr.none, false⟩ with _ | R1
   ·rw [hst] at HS
    simp only [Option.isSome_none, Option.getD_none] at HS
    have HQ := fun X w hin => reckon_ok (kOf b46 bu D) X ⟨s.next.wpc pc', s.count, Tr.none, false⟩ op nn hwf.d (show s.d.length ≤ 100000 by omega) (show s.r.length ≤ 100000 by omega) n1 n2 w hin
    obtain ⟨⟨bq, R2⟩, hq⟩ : ∃ q, reckonTo op nn ⟨s.next.wpc pc', s.count, Tr.none, false⟩ = q := ⟨_, rfl⟩
    rw [hq] at HQ
    refine Zr (ZA ?_)
    refine wl_loadRow Zh (fun _ => rfl) (fun _ => rfl) (Zv rfl) rfl ?_
    refine wl_t (t_callS (runF (kOf b46 bu D) ⟨A5, c5, A6, c6⟩ ⟨s.next.wpc pc', s.count, Tr.none, false⟩) rfl (fun _ _ => rfl) Zi (fun w hi hin => HS w hin)) rfl ?_
    rintro _ _ ⟨_, ⟨X1, rfl, rfl⟩, rfl⟩
    iterate 2 refine ZA ?_
    refine ZB ?_
    refine wl_loadRowg (guard_yes rfl rfl) Zh (fun _ => rfl) (fun _ => rfl) (Zv rfl) rfl ?_
    refine wl_tg (guard_yes rfl rfl) rfl (t_callS (runF (kOf b46 bu D) X1 ⟨s.next.wpc pc', s.count, Tr.none, false⟩) rfl (fun _ _ => rfl) Zi (fun w hi hin => HQ X1 w hin)) rfl ?_
    rintro _ _ ⟨_, ⟨X2, rfl, rfl⟩, rfl⟩
    refine ZB ?_
    refine ZA ?_
    refine Zn (Zt ?_)
    refine wc_cond _ rfl (fun hc12 => ?_) (fun hc12 => ?_)
    ·obtain rfl : bq = false := (by simpa using hc12)
     have he := reckonTo_none op nn ⟨s.next.wpc pc', s.count, Tr.none, false⟩ (by rw [hq])
     rw [hq] at he
     have he : R2 = _ := he
     subst he
     have HO := fun X w hin => rother_ok b46 bu bb L D X Y ⟨s.next.wpc pc', s.count, Tr.none, false⟩ ⟨UM.calm, UT⟩ d op nn hnn hwf.d (show s.d.length ≤ 100000 by omega) (show s.r.length ≤ 100000 by omega) n1 hT hwf.root hd ho w hin
     obtain ⟨m', hm'⟩ : ∃ m', otherTo L.n op nn ⟨⟨s.next.wpc pc', s.count, Tr.none, false⟩, ⟨UM.calm, UT⟩, d⟩ = m' := ⟨_, rfl⟩
     rw [hm'] at HO
     refine Zr (ZA ?_)
     refine wl_loadRow Zh (fun _ => rfl) (fun _ => rfl) (Zv rfl) rfl ?_
     refine wl_t (t_callS (allF b46 bu bb L D X2 Y ⟨⟨s.next.wpc pc', s.count, Tr.none, false⟩, ⟨UM.calm, UT⟩, d⟩) rfl (fun _ _ => rfl) Zi (fun w hi hin => HO X2 w hin)) rfl ?_
     rintro _ _ ⟨_, ⟨X3, Y3, rfl, rfl⟩, rfl⟩
     refine Zn ?_
     refine q_midP ((⟨X3, Y3, m'⟩ : SAdr × DAdr × Mach)) ?_ ?_ ?_
     ·exact (by rw [hmid]; simp only [hst, hq, cond_false]; exact hm')
     ·exact Zwk
     exact Zj
    obtain rfl : bq = true := (by simpa using hc12)
    refine Zc ?_
    refine q_midP ((⟨X2, Y, ⟨R2, ⟨UM.calm, UT⟩, d⟩⟩ : SAdr × DAdr × Mach)) ?_ ?_ ?_
    ·exact (by rw [hmid]; simp only [hst, hq, cond_true])
    ·exact Zwk
    exact Zj
   rw [hst] at HS
   simp only [Option.isSome_some, Option.getD_some] at HS
   refine Zr (ZA ?_)
   refine wl_loadRow Zh (fun _ => rfl) (fun _ => rfl) (Zv rfl) rfl ?_
   refine wl_t (t_callS (runF (kOf b46 bu D) ⟨A5, c5, A6, c6⟩ ⟨s.next.wpc pc', s.count, Tr.none, false⟩) rfl (fun _ _ => rfl) Zi (fun w hi hin => HS w hin)) rfl ?_
   rintro _ _ ⟨_, ⟨X1, rfl, rfl⟩, rfl⟩
   iterate 2 refine ZA ?_
   refine wl_skip (guard_yes rfl rfl) rfl rfl ?_
   refine wl_skip (guard_yes rfl rfl) rfl rfl ?_
   refine wl_skip (guard_yes rfl rfl) rfl rfl ?_
   refine wl_skip (guard_yes rfl rfl) rfl rfl ?_
   refine Zy (y_and (q := false) (Zv rfl) ⟨_, rfl, fun _ e => by simp at e⟩) ?_
   refine Zn (Zt (wc_cond_f rfl (rfl) ?_))
   refine Zc ?_
   refine q_midP ((⟨X1, Y, ⟨R1, ⟨UM.calm, UT⟩, d⟩⟩ : SAdr × DAdr × Mach)) ?_ ?_ ?_
   ·exact (by rw [hmid]; simp only [hst])
   ·exact Zwk
   exact Zj
  rintro ⟨X, Y', m⟩ hm
  dsimp only at hm ⊢
  refine Zs (wc_draw ⟨fun j => List.elem j [10], []⟩ Zk ?_)
  refine ZE 0 ?_
  refine ZE 1 ?_
  refine ZFe 2 0 ?_
  refine wa_ln 3 rfl Zk Zk Zk Zk (y_loadN (vs := m.r.s.cells (.slice X.Ad m.r.s.d.length X.cd) (.slice X.Ar m.r.s.r.length X.cr)) (fun _ => rfl) (fun _ => rfl) (Zv rfl)) (row_cells Zh rfl) rfl ?_
  refine ZE 4 ?_
  refine ZE 5 ?_
  refine ZFe 6 21 ?_
  refine ZG 7 ?_
  refine ZE 8 ?_
  refine wa_1 9 Zk ?_
  refine ZP fun b12 => ?_
  refine wa_1 10 Zk ?_
  refine ZR ?_
  refine wa_done Zk ?_
  refine Zt (Zs (Zs (Zr (ZA ?_))))
  refine ZA ?_
  refine ZFa 19 ?_
  refine ZFa 0 ?_
  refine ZC ?_
  refine ZA ?_
  refine Zn (Zt ?_)
  refine wc_cond _ rfl (fun hc15 => ?_) (fun hc15 => ?_)
  ·have he : endTo s m = ⟨s.next.trap m.r.trap.cause m.r.trap.addr, true, m.r.device, trues m.u.m.turned 64⟩ := condT hc15
   refine wc_draw ⟨fun j => List.elem j [13, 15], []⟩ Zk ?_
   refine ZI 0 ?_
   refine ZE 1 ?_
   refine ZE 2 ?_
   refine ZFe 3 19 ?_
   refine ZFe 4 0 ?_
   refine ZG 5 ?_
   refine ZE 6 ?_
   refine ZE 7 ?_
   refine ZFe 8 19 ?_
   refine ZFe 9 1 ?_
   refine ZG 10 ?_
   refine wa_1 11 Zk ?_
   refine ZT (fun w hi => trap_ok s.next A1 A2 c1 c2 m.r.trap.cause m.r.trap.addr w (hi.rdSt (show Has _ (slD s.next A1 c1) from Zh) (show Has _ (slR s.next A2 c2) from Zh) hbd hbr)) ?_
   rintro _ _ ⟨_, ⟨A7, c7, A8, c8, rfl, rfl⟩, rfl⟩
   refine ZFe 12 0 ?_
   refine wa_1 13 Zk ?_
   refine wi_t0 rfl rfl (t_storeRX (ys := resCells ⟨s.next.trap m.r.trap.cause m.r.trap.addr, false, m.r.device, []⟩ ⟨A7, c7, A8, c8⟩ none 0) (n := 16) (vs := (s.next.trap m.r.trap.cause m.r.trap.addr).cells (.slice A7 (s.next.trap m.r.trap.cause m.r.trap.addr).d.length c7) (.slice A8 (s.next.trap m.r.trap.cause m.r.trap.addr).r.length c8)) rfl (fun _ => rfl) rfl rfl (allT rfl) Za rfl (by simp only [List.length_cons, List.length_nil]; omega)) (fun _ _ _ _ _ _ _ h => by cases h) ?_
   rintro _ _ ⟨rfl, rfl⟩
   refine ZFe 14 16 ?_
   refine wa_1 15 Zk ?_
   refine ZQ ?_
   refine wa_done Zk ?_
   refine Zt (Zs (Zs (Zr (ZA ?_))))
   refine ZA ?_
   refine Zn (Zt ?_)
   refine wc_cond _ rfl (fun hc17 => ?_) (fun hc17 => ?_)
   ·refine Zr (ZA ?_)
    refine ZS (fun w hi => umem_ok bu L.bm bb w (hi.get Zh)) ?_
    rintro _ _ ⟨_, ⟨rfl, rfl⟩, rfl⟩
    refine ZS (fun w hi => rturned_ok L m.u.m w (hi.get Zh)) ?_
    rintro _ _ ⟨_, ⟨Ap, cp, rfl, rfl⟩, rfl⟩
    refine ZFa 18 ?_
    refine ZL ?_
    refine Zn (Zt (Zs (Zr (wl_loadRow Zh (fun _ => rfl) (fun _ => rfl) (Zv rfl) rfl ?_))))
    refine ZM ?_
    refine Zn (Zt (Ze (qok_pick ([row b8 (resCells ⟨s.next.trap m.r.trap.cause m.r.trap.addr, true, m.r.device, trues m.u.m.turned 64⟩ ⟨A7, c7, A8, c8⟩ Ap cp) 222] ++ (resF ⟨s.next.trap m.r.trap.cause m.r.trap.addr, true, m.r.device, trues m.u.m.turned 64⟩ ⟨A7, c7, A8, c8⟩ Ap cp ++ ubF bu bb L D Y' m.u m.d)) Zj ?_)))
    refine retC (cs' := [slv _ _ _ _ _ _, slv _ _ _ _ _ _, slv _ _ _ _ _ _, row _ _ _, exC _ _ _ _, row _ _ _, row _ _ _, row _ _ _, row _ _ _, row _ _ _, slv _ _ _ _ _ _, slv _ _ _ _ _ _, row _ _ _, slv _ _ _ _ _ _]) (.inl rfl) Zu rfl rfl Zh (fun _ => rfl) (fun _ => rfl) ?_
    rw [condF hc1, condF hc8, hm, he]
    exact ⟨⟨A7, c7, A8, c8⟩, Y', Ap, cp, rfl, rfl⟩
   exact absurd hc17 (by simp)
  have he : endTo s m = ⟨m.r.s, false, m.r.device, trues m.u.m.turned 64⟩ := condF hc15
  refine Zc (Zt (Zs (Zs (Zr (ZA ?_)))))
  refine ZA ?_
  refine Zn (Zt ?_)
  refine wc_cond _ rfl (fun hc17 => ?_) (fun hc17 => ?_)
  ·refine Zr (ZA ?_)
   refine ZS (fun w hi => umem_ok bu L.bm bb w (hi.get Zh)) ?_
   rintro _ _ ⟨_, ⟨rfl, rfl⟩, rfl⟩
   refine ZS (fun w hi => rturned_ok L m.u.m w (hi.get Zh)) ?_
   rintro _ _ ⟨_, ⟨Ap, cp, rfl, rfl⟩, rfl⟩
   refine ZFa 18 ?_
   refine ZL ?_
   refine Zn (Zt (Zs (Zr (wl_loadRow Zh (fun _ => rfl) (fun _ => rfl) (Zv rfl) rfl ?_))))
   refine ZM ?_
   refine Zn (Zt (Ze (qok_pick ([row b8 (resCells ⟨m.r.s, false, m.r.device, trues m.u.m.turned 64⟩ X Ap cp) 222] ++ (resF ⟨m.r.s, false, m.r.device, trues m.u.m.turned 64⟩ X Ap cp ++ ubF bu bb L D Y' m.u m.d)) Zj ?_)))
   refine retC (cs' := [slv _ _ _ _ _ _, slv _ _ _ _ _ _, slv _ _ _ _ _ _, row _ _ _, exC _ _ _ _, row _ _ _, row _ _ _, row _ _ _, row _ _ _, row _ _ _, slv _ _ _ _ _ _, slv _ _ _ _ _ _, row _ _ _, slv _ _ _ _ _ _]) (.inl rfl) Zu rfl rfl Zh (fun _ => rfl) (fun _ => rfl) ?_
   rw [condF hc1, condF hc8, hm, he]
   exact ⟨X, Y', Ap, cp, rfl, rfl⟩
  exact absurd hc17 (by simp)
 exact absurd hc3 (by simp)
end Go.Proofs.YtmhpcgmjlpfheaaGreatDoor
/- An instruction without a memory and devices. -/
set_option linter.unusedSimpArgs false
set_option linter.unusedVariables false
set_option maxRecDepth 100000
namespace Go.Ink
open Go.RowKit
def wholeN (R : Run) (va : Nat) : Run := bif ((va % 4 : Nat) : Int) != 0 then R.wt ⟨6, va⟩ else R.wt ⟨10, va⟩
def otherN (op nn : Int) (R : Run) : Run :=
 bif op == 48 then wholeN R.pop R.top.toNat else
 bif op == 49 then wholeN R.pop.pop R.top.toNat else
 bif op == 50 then R.pop.wt ⟨10, R.top⟩ else
 bif op == 51 then R.pop.wt ⟨10, R.top⟩ else
 bif op == 52 then R.pop.wt ⟨10, R.top⟩ else
 bif op == 53 then R.pop.wt ⟨10, R.top⟩ else
 bif op == 64 then R.wt ⟨11, 0⟩ else
 bif op == 65 then R.ws R.s.back else
 bif op == 66 then R.push [((R.s.wcount R.count).get nn).1] else
 bif op == 67 then R.pop.ws (R.pop.s.set nn R.top).1 else
 bif op == 68 then R.pop else
 bif op == 69 then R.ws R.s.halt else R
def midN (s : St) (op nn : Int) : Run :=
 match stackTo op nn (run0 s op) with
 | some R => R
 | none => bif (reckonTo op nn (run0 s op)).1 then (reckonTo op nn (run0 s op)).2 else otherN op nn (reckonTo op nn (run0 s op)).2
def endN (s : St) (R : Run) : Res :=
 bif R.trap.cause != 0 then ⟨s.next.trap R.trap.cause R.trap.addr, true, R.device, []⟩ else ⟨R.s, false, R.device, []⟩
/-- An instruction of a guest that has neither memory nor devices. -/
def doN (s : St) (op nn : Int) : Res :=
 bif !s.right then ⟨s, false, false, []⟩ else
 bif checkOf s op nn != 0 then ⟨s.next.trap (checkOf s op nn) 0, true, false, []⟩ else
 endN s (midN s op nn)
end Go.Ink
namespace Go.Proofs.YtmhpcgmjlpfheaaGreatDoor
open Go.RowKit Go.Ink
attribute [local irreducible] OpY GuardIs

abbrev kNil (br : Nat) : RLoc := ⟨br, none, none⟩
set_option maxHeartbeats 1000000 in
theorem wholeN_ok (br : Nat) (X : SAdr) (R : Run) (va : Nat) (kind : Int) (w : World) (hi : Inv w (blocks (runF (kNil br) X R)) (runF (kNil br) X R) w) :
  Ctr Tryz.prog 234 [.pointer (some ⟨br, 0, none⟩), .int .u32 va, .int .i64 kind] w (runF (kNil br) X R)
   (fun v cs => v = .tuple #[.int .u32 0, .bool false] ∧ cs = runF (kNil br) X (wholeN R va)) := by
 unfold wholeN
 refine fn_ctr Tryz.func234 rfl Tryz.ntmps234 rfl hi ?_
 refine Zs (Zr (ZA ?_))
 refine ZA ?_
 refine Zn (Zt (Zs (Zx (Zs (Zr (ZA ?_))))))
 refine Zy (y_rem (Zv rfl) (Zv rfl) (by omega) (show _ = ((va % 4 : Nat) : Int) from by rw [Int.tmod_eq_emod_of_nonneg (by omega)]; omega)) ?_
 iterate 2 refine ZA ?_
 refine Zn (Zt ?_)
 refine wc_cond _ rfl (fun hc1 => ?_) (fun hc1 => ?_)
 ·refine Zs (Zr (ZA ?_))
  refine ZA ?_
  refine wl_t (t_callS (runF (kNil br) X R) rfl (fun _ _ => rfl) Zi (fun w hi hin => fail_ok (kNil br) X R 6 va w hin)) rfl ?_
  rintro _ _ ⟨_, ⟨rfl, rfl⟩, rfl⟩
  refine Zn (Zt (Zs (Zr (ZA ?_))))
  refine ZA ?_
  refine Zn (Zt (Ze (Zq (Zw (ret2 (cs' := [row _ _ _, slv _ _ _ _ _ _, slv _ _ _ _ _ _]) (.inl rfl) Zu rfl rfl rfl ?_)))))
  rw [hc1]
  exact ⟨rfl, rfl⟩
 refine Zs (Zr (ZA ?_))
 refine ZA ?_
 refine ZFa 17 ?_
 refine ZC ?_
 iterate 2 refine ZA ?_
 refine wl_skip (guard_no rfl rfl) rfl rfl ?_
 refine wl_skip (guard_no rfl rfl) rfl rfl ?_
 refine wl_skip (guard_no rfl rfl) rfl rfl ?_
 refine wl_skip (guard_no rfl rfl) rfl rfl ?_
 refine wl_skip (guard_no rfl rfl) rfl rfl ?_
 refine Zy (y_or (q := false) (Zv rfl) ⟨_, rfl, fun _ e => by simp at e⟩) ?_
 refine ZA ?_
 refine Zn (Zt ?_)
 refine wc_cond _ rfl (fun hc4 => ?_) (fun hc4 => ?_)
 ·refine Zs (Zr (ZA ?_))
  refine ZA ?_
  refine wl_t (t_callS (runF (kNil br) X R) rfl (fun _ _ => rfl) Zi (fun w hi hin => fail_ok (kNil br) X R 10 va w hin)) rfl ?_
  rintro _ _ ⟨_, ⟨rfl, rfl⟩, rfl⟩
  refine Zn (Zt (Zs (Zr (ZA ?_))))
  refine ZA ?_
  refine Zn (Zt (Ze (Zq (Zw (ret2 (cs' := [row _ _ _, slv _ _ _ _ _ _, slv _ _ _ _ _ _]) (.inl rfl) Zu rfl rfl rfl ?_)))))
  rw [hc1]
  exact ⟨rfl, rfl⟩
 exact absurd hc4 (by simp)
theorem lodeN_ok (br : Nat) (X : SAdr) (R : Run) (l : List Int) (va : Nat) (w : World) (hi : Inv w (blocks (runF (kNil br) X (R.wd (l ++ [(va : Int)])))) (runF (kNil br) X (R.wd (l ++ [(va : Int)]))) w) :
  Ctr Tryz.prog 191 [.pointer (some ⟨br, 0, none⟩)] w (runF (kNil br) X (R.wd (l ++ [(va : Int)]))) (fun v cs => v = .tuple #[] ∧ cs = runF (kNil br) X (wholeN (R.wd l) va)) := by
 have HW := wholeN_ok br X (R.wd l) va 2
 obtain ⟨R', hR'⟩ : ∃ R', wholeN (R.wd l) va = R' := ⟨_, rfl⟩
 rw [hR'] at HW ⊢
 refine fn_ctr Tryz.func191 rfl Tryz.ntmps191 rfl hi ?_
 refine Zs (Zr (ZA ?_))
 refine wl_t (t_callS (runF (kNil br) X (R.wd (l ++ [(va : Int)]))) rfl (fun _ _ => rfl) Zi (fun w hi hin => pop_ok (kNil br) X R l va w hin)) rfl ?_
 rintro _ _ ⟨_, ⟨rfl, rfl⟩, rfl⟩
 refine ZA ?_
 refine Zn (Zt (Zs (Zr (ZA ?_))))
 refine ZA ?_
 refine wl_t (t_callS (runF (kNil br) X (R.wd l)) rfl (fun _ _ => rfl) Zi (fun w hi hin => HW w hin)) rfl ?_
 rintro _ _ ⟨_, ⟨rfl, rfl⟩, rfl⟩
 iterate 5 refine ZA ?_
 refine Zn (Zt (Zs (Zs (Zr (ZA ?_)))))
 refine ZA ?_
 refine Zn (Zt (wc_cond_t rfl (rfl) ?_))
 refine Ze (Zw (ret0 (cs' := [row _ _ _, slv _ _ _ _ _ _, slv _ _ _ _ _ _]) (.inl rfl) Zu rfl ?_))
 exact ⟨rfl, rfl⟩
theorem stowN_ok (br : Nat) (X : SAdr) (R : Run) (l : List Int) (v : Int) (va : Nat) (w : World) (hi : Inv w (blocks (runF (kNil br) X (R.wd ((l ++ [v]) ++ [(va : Int)])))) (runF (kNil br) X (R.wd ((l ++ [v]) ++ [(va : Int)]))) w) :
  Ctr Tryz.prog 192 [.pointer (some ⟨br, 0, none⟩)] w (runF (kNil br) X (R.wd ((l ++ [v]) ++ [(va : Int)]))) (fun x cs => x = .tuple #[] ∧ cs = runF (kNil br) X (wholeN (R.wd l) va)) := by
 have HW := wholeN_ok br X (R.wd l) va 3
 obtain ⟨R', hR'⟩ : ∃ R', wholeN (R.wd l) va = R' := ⟨_, rfl⟩
 rw [hR'] at HW ⊢
 refine fn_ctr Tryz.func192 rfl Tryz.ntmps192 rfl hi ?_
 refine Zs (Zr (ZA ?_))
 refine wl_t (t_callS (runF (kNil br) X (R.wd ((l ++ [v]) ++ [(va : Int)]))) rfl (fun _ _ => rfl) Zi (fun w hi hin => pop_ok (kNil br) X R (l ++ [v]) va w hin)) rfl ?_
 rintro _ _ ⟨_, ⟨rfl, rfl⟩, rfl⟩
 refine ZA ?_
 refine Zn (Zt (Zs (Zr (ZA ?_))))
 refine wl_t (t_callS (runF (kNil br) X (R.wd (l ++ [v]))) rfl (fun _ _ => rfl) Zi (fun w hi hin => pop_ok (kNil br) X R l v w hin)) rfl ?_
 rintro _ _ ⟨_, ⟨rfl, rfl⟩, rfl⟩
 refine ZA ?_
 refine Zn (Zt (Zs (Zr (ZA ?_))))
 refine ZA ?_
 refine wl_t (t_callS (runF (kNil br) X (R.wd l)) rfl (fun _ _ => rfl) Zi (fun w hi hin => HW w hin)) rfl ?_
 rintro _ _ ⟨_, ⟨rfl, rfl⟩, rfl⟩
 iterate 5 refine ZA ?_
 refine Zn (Zt (Zs (Zs (Zr (ZA ?_)))))
 refine ZA ?_
 refine Zn (Zt (wc_cond_t rfl (rfl) ?_))
 refine Ze (Zw (ret0 (cs' := [row _ _ _, slv _ _ _ _ _ _, slv _ _ _ _ _ _]) (.inl rfl) Zu rfl ?_))
 exact ⟨rfl, rfl⟩
theorem someN_ok (br : Nat) (X : SAdr) (R : Run) (l : List Int) (va : Int) (k : Int) (b : Bool) (w : World) (hi : Inv w (blocks (runF (kNil br) X (R.wd (l ++ [va])))) (runF (kNil br) X (R.wd (l ++ [va]))) w) :
  Ctr Tryz.prog 193 [.pointer (some ⟨br, 0, none⟩), .int .i64 k, .bool b] w (runF (kNil br) X (R.wd (l ++ [va]))) (fun x cs => x = .tuple #[] ∧ cs = runF (kNil br) X ((R.wd l).wt ⟨10, va⟩)) := by
 refine fn_ctr Tryz.func193 rfl Tryz.ntmps193 rfl hi ?_
 refine Zs (Zr (ZA ?_))
 refine wl_t (t_callS (runF (kNil br) X (R.wd (l ++ [va]))) rfl (fun _ _ => rfl) Zi (fun w hi hin => pop_ok (kNil br) X R l va w hin)) rfl ?_
 rintro _ _ ⟨_, ⟨rfl, rfl⟩, rfl⟩
 refine ZA ?_
 refine Zn (Zt (Zx (Zs (Zr (ZA ?_)))))
 refine ZA ?_
 refine ZFa 17 ?_
 refine ZC ?_
 iterate 2 refine ZA ?_
 refine wl_skip (guard_no rfl rfl) rfl rfl ?_
 refine wl_skip (guard_no rfl rfl) rfl rfl ?_
 refine wl_skip (guard_no rfl rfl) rfl rfl ?_
 refine wl_skip (guard_no rfl rfl) rfl rfl ?_
 refine wl_skip (guard_no rfl rfl) rfl rfl ?_
 refine Zy (y_or (q := false) (Zv rfl) ⟨_, rfl, fun _ e => by simp at e⟩) ?_
 refine ZA ?_
 refine Zn (Zt (wc_cond_t rfl (rfl) ?_))
 refine Zr (ZA ?_)
 refine ZA ?_
 refine wl_t (t_callS (runF (kNil br) X (R.wd l)) rfl (fun _ _ => rfl) Zi (fun w hi hin => fail_ok (kNil br) X (R.wd l) 10 va w hin)) rfl ?_
 rintro _ _ ⟨_, ⟨rfl, rfl⟩, rfl⟩
 refine Zn (Zo (ret0 (cs' := [row _ _ _, slv _ _ _ _ _ _, slv _ _ _ _ _ _]) (.inr rfl) Zu rfl ?_))
 exact ⟨rfl, rfl⟩
end Go.Proofs.YtmhpcgmjlpfheaaGreatDoor
/- An instruction without a memory and devices: what is left. -/
set_option linter.unusedSimpArgs false
set_option linter.unusedVariables false
set_option maxRecDepth 100000
namespace Go.Proofs.YtmhpcgmjlpfheaaGreatDoor
open Go.RowKit Go.Ink
attribute [local irreducible] OpY GuardIs

set_option maxHeartbeats 4000000 in
theorem rotherN_ok (br : Nat) (X : SAdr) (R : Run) (op nn : Int) (hnn : u32 nn) (hw : ∀ x, x ∈ R.s.d → u32 x) (hdl : R.s.d.length ≤ 100000) (hrl : R.s.r.length ≤ 100000) (hn : (opNeeds op).1.1 ≤ R.s.d.length)
  (w : World) (hi : Inv w (blocks (runF (kNil br) X R)) (runF (kNil br) X R) w) :
  Ctr Tryz.prog 153 [.pointer (some ⟨br, 0, none⟩), .agg #[.int .i64 op, .int .u32 nn]] w (runF (kNil br) X R) (fun v cs => ∃ X', v = .tuple #[] ∧ cs = runF (kNil br) X' (otherN op nn R)) := by
 have hu1 := hnn.1
 have hu2 := hnn.2
 refine fn_ctr Tryz.func153 rfl Tryz.ntmps153 rfl hi ?_
 refine Zs (Zr (ZO fun b3 => ?_))
 refine Zn (Zt (Zs (Zr (ZFa 0 ?_))))
 refine ZC ?_
 refine Zn (Zt (Zx (Zs (Zr (ZA ?_)))))
 refine ZA ?_
 refine Zn (Zt ?_)
 refine wc_cond _ rfl (fun hc2 => ?_) (fun hc2 => ?_)
 ·obtain rfl := beqZ hc2
  obtain ⟨R, l, x, rfl⟩ := Run.snoc (show 1 ≤ R.s.d.length from hn)
  obtain ⟨hx1, hx2⟩ := hw x (by simp)
  obtain ⟨va, rfl⟩ : ∃ va : Nat, x = va := Int.eq_ofNat_of_zero_le hx1
  have HC := fun w hin => lodeN_ok br X R l va w hin
  have hst : otherN 48 nn (R.wd (l ++ [(va : Int)])) = wholeN (R.wd l) va := (by show wholeN _ _ = _; rw [Run.pop_wd, Run.top_wd]; rfl)
  obtain ⟨m', hm'⟩ : ∃ m', wholeN (R.wd l) va = m' := ⟨_, rfl⟩
  rw [hm'] at HC
  rw [hm'] at hst
  refine Zr (ZA ?_)
  refine wl_t (t_callS (runF (kNil br) X (R.wd (l ++ [(va : Int)]))) rfl (fun _ _ => rfl) Zi (fun w hi hin => HC w hin)) rfl ?_
  rintro _ _ ⟨_, ⟨rfl, rfl⟩, rfl⟩
  refine Zn (Zo (ret0 (cs' := [row _ _ _, slv _ _ _ _ _ _, slv _ _ _ _ _ _]) (.inr rfl) Zu rfl ?_))
  rw [hst]
  exact ⟨X, rfl, rfl⟩
 refine Zs (Zr (ZA ?_))
 refine ZA ?_
 refine Zn (Zt ?_)
 refine wc_cond _ rfl (fun hc4 => ?_) (fun hc4 => ?_)
 ·obtain rfl := beqZ hc4
  obtain ⟨R, l, y, x, rfl⟩ := Run.snoc2 (show 2 ≤ R.s.d.length from hn)
  obtain ⟨hx1, hx2⟩ := hw x (by simp)
  obtain ⟨va, rfl⟩ : ∃ va : Nat, x = va := Int.eq_ofNat_of_zero_le hx1
  have HC := fun w hin => stowN_ok br X R l y va w hin
  have hst : otherN 49 nn (R.wd ((l ++ [y]) ++ [(va : Int)])) = wholeN (R.wd l) va := (by show wholeN _ _ = _; rw [Run.pop_wd, Run.top_wd, Run.pop_wd]; rfl)
  obtain ⟨m', hm'⟩ : ∃ m', wholeN (R.wd l) va = m' := ⟨_, rfl⟩
  rw [hm'] at HC
  rw [hm'] at hst
  refine Zr (ZA ?_)
  refine wl_t (t_callS (runF (kNil br) X (R.wd ((l ++ [y]) ++ [(va : Int)]))) rfl (fun _ _ => rfl) Zi (fun w hi hin => HC w hin)) rfl ?_
  rintro _ _ ⟨_, ⟨rfl, rfl⟩, rfl⟩
  refine Zn (Zo (ret0 (cs' := [row _ _ _, slv _ _ _ _ _ _, slv _ _ _ _ _ _]) (.inr rfl) Zu rfl ?_))
  rw [hst]
  exact ⟨X, rfl, rfl⟩
 refine Zs (Zr (ZA ?_))
 refine ZA ?_
 refine Zn (Zt ?_)
 refine wc_cond _ rfl (fun hc6 => ?_) (fun hc6 => ?_)
 ·obtain rfl := beqZ hc6
  obtain ⟨R, l, x, rfl⟩ := Run.snoc (show 1 ≤ R.s.d.length from hn)
  have HC := fun w hin => someN_ok br X R l x 4 false w hin
  have hst : otherN 50 nn (R.wd (l ++ [x])) = (R.wd l).wt ⟨10, x⟩ := (by show Run.wt _ _ = _; rw [Run.pop_wd, Run.top_wd])
  refine Zr (ZA ?_)
  refine wl_t (t_callS (runF (kNil br) X (R.wd (l ++ [x]))) rfl (fun _ _ => rfl) Zi (fun w hi hin => HC w hin)) rfl ?_
  rintro _ _ ⟨_, ⟨rfl, rfl⟩, rfl⟩
  refine Zn (Zo (ret0 (cs' := [row _ _ _, slv _ _ _ _ _ _, slv _ _ _ _ _ _]) (.inr rfl) Zu rfl ?_))
  rw [hst]
  exact ⟨X, rfl, rfl⟩
 refine Zs (Zr (ZA ?_))
 refine ZA ?_
 refine Zn (Zt ?_)
 refine wc_cond _ rfl (fun hc8 => ?_) (fun hc8 => ?_)
 ·obtain rfl := beqZ hc8
  obtain ⟨R, l, x, rfl⟩ := Run.snoc (show 1 ≤ R.s.d.length from Nat.le_trans (show 1 ≤ 2 by omega) hn)
  have HC := fun w hin => someN_ok br X R l x 4 true w hin
  have hst : otherN 51 nn (R.wd (l ++ [x])) = (R.wd l).wt ⟨10, x⟩ := (by show Run.wt _ _ = _; rw [Run.pop_wd, Run.top_wd])
  refine Zr (ZA ?_)
  refine wl_t (t_callS (runF (kNil br) X (R.wd (l ++ [x]))) rfl (fun _ _ => rfl) Zi (fun w hi hin => HC w hin)) rfl ?_
  rintro _ _ ⟨_, ⟨rfl, rfl⟩, rfl⟩
  refine Zn (Zo (ret0 (cs' := [row _ _ _, slv _ _ _ _ _ _, slv _ _ _ _ _ _]) (.inr rfl) Zu rfl ?_))
  rw [hst]
  exact ⟨X, rfl, rfl⟩
 refine Zs (Zr (ZA ?_))
 refine ZA ?_
 refine Zn (Zt ?_)
 refine wc_cond _ rfl (fun hc10 => ?_) (fun hc10 => ?_)
 ·obtain rfl := beqZ hc10
  obtain ⟨R, l, x, rfl⟩ := Run.snoc (show 1 ≤ R.s.d.length from hn)
  have HC := fun w hin => someN_ok br X R l x 1 false w hin
  have hst : otherN 52 nn (R.wd (l ++ [x])) = (R.wd l).wt ⟨10, x⟩ := (by show Run.wt _ _ = _; rw [Run.pop_wd, Run.top_wd])
  refine Zr (ZA ?_)
  refine wl_t (t_callS (runF (kNil br) X (R.wd (l ++ [x]))) rfl (fun _ _ => rfl) Zi (fun w hi hin => HC w hin)) rfl ?_
  rintro _ _ ⟨_, ⟨rfl, rfl⟩, rfl⟩
  refine Zn (Zo (ret0 (cs' := [row _ _ _, slv _ _ _ _ _ _, slv _ _ _ _ _ _]) (.inr rfl) Zu rfl ?_))
  rw [hst]
  exact ⟨X, rfl, rfl⟩
 refine Zs (Zr (ZA ?_))
 refine ZA ?_
 refine Zn (Zt ?_)
 refine wc_cond _ rfl (fun hc12 => ?_) (fun hc12 => ?_)
 ·obtain rfl := beqZ hc12
  obtain ⟨R, l, x, rfl⟩ := Run.snoc (show 1 ≤ R.s.d.length from Nat.le_trans (show 1 ≤ 2 by omega) hn)
  have HC := fun w hin => someN_ok br X R l x 1 true w hin
  have hst : otherN 53 nn (R.wd (l ++ [x])) = (R.wd l).wt ⟨10, x⟩ := (by show Run.wt _ _ = _; rw [Run.pop_wd, Run.top_wd])
  refine Zr (ZA ?_)
  refine wl_t (t_callS (runF (kNil br) X (R.wd (l ++ [x]))) rfl (fun _ _ => rfl) Zi (fun w hi hin => HC w hin)) rfl ?_
  rintro _ _ ⟨_, ⟨rfl, rfl⟩, rfl⟩
  refine Zn (Zo (ret0 (cs' := [row _ _ _, slv _ _ _ _ _ _, slv _ _ _ _ _ _]) (.inr rfl) Zu rfl ?_))
  rw [hst]
  exact ⟨X, rfl, rfl⟩
 refine Zs (Zr (ZA ?_))
 refine ZA ?_
 refine Zn (Zt ?_)
 refine wc_cond _ rfl (fun hc14 => ?_) (fun hc14 => ?_)
 ·obtain rfl := beqZ hc14
  refine Zr (ZA ?_)
  refine wl_t (t_callS (runF (kNil br) X R) rfl (fun _ _ => rfl) Zi (fun w hi hin => fail_ok (kNil br) X R 11 0 w hin)) rfl ?_
  rintro _ _ ⟨_, ⟨rfl, rfl⟩, rfl⟩
  refine Zn (Zo (ret0 (cs' := [row _ _ _, slv _ _ _ _ _ _, slv _ _ _ _ _ _]) (.inr rfl) Zu rfl ?_))
  exact ⟨X, rfl, rfl⟩
 refine Zs (Zr (ZA ?_))
 refine ZA ?_
 refine Zn (Zt ?_)
 refine wc_cond _ rfl (fun hc16 => ?_) (fun hc16 => ?_)
 ·obtain rfl := beqZ hc16
  have hR := return_ok R.s X.Ad X.Ar X.cd X.cr
  refine Zr (ZA ?_)
  iterate 2 refine ZA ?_
  refine ZFa 0 ?_
  refine wl_y (y_loadN (vs := R.s.cells (.slice X.Ad R.s.d.length X.cd) (.slice X.Ar R.s.r.length X.cr)) (fun _ => rfl) (fun _ => rfl) (Zv rfl)) (row_cells Zh rfl) rfl ?_
  refine ZS (fun w hi => hR w (hi.rdSt (show Has _ (slD R.s X.Ad X.cd) from Zh) (show Has _ (slR R.s X.Ar X.cr) from Zh) (by omega) (by omega))) ?_
  rintro _ _ ⟨_, ⟨A1, c1, A2, c2, rfl, rfl⟩, rfl⟩
  refine ZA ?_
  refine ZFa 0 ?_
  refine wl_t0 (t_storeRX (ys := runCells (kNil br) ⟨A1, c1, A2, c2⟩ (R.ws R.s.back)) (n := 16) (vs := R.s.back.cells (.slice A1 R.s.back.d.length c1) (.slice A2 R.s.back.r.length c2)) rfl (fun _ => rfl) rfl rfl (allT rfl) Za rfl (by simp only [List.length_cons, List.length_nil]; omega)) ?_
  rintro _ _ ⟨rfl, rfl⟩
  refine Zn (Zo (qok_pick (runF (kNil br) ⟨A1, c1, A2, c2⟩ (R.ws R.s.back)) Zj ?_))
  refine ret0 (cs' := [row _ _ _, slv _ _ _ _ _ _, slv _ _ _ _ _ _]) (.inr rfl) Zu rfl ?_
  exact ⟨⟨A1, c1, A2, c2⟩, rfl, rfl⟩
 refine Zs (Zr (ZA ?_))
 refine ZA ?_
 refine Zn (Zt ?_)
 refine wc_cond _ rfl (fun hc18 => ?_) (fun hc18 => ?_)
 ·obtain rfl := beqZ hc18
  have HG := get_ok (R.s.wcount R.count) (.slice X.Ad R.s.d.length X.cd) (.slice X.Ar R.s.r.length X.cr) nn
  obtain ⟨⟨g, gk⟩, hg⟩ : ∃ q, (R.s.wcount R.count).get nn = q := ⟨_, rfl⟩
  rw [hg] at HG
  have hst : otherN 66 nn R = R.push [g] := (by show R.push [((R.s.wcount R.count).get nn).1] = _; rw [hg])
  refine Zs (Zr (ZA ?_))
  refine ZA ?_
  refine ZFa 0 ?_
  refine wl_y (y_loadN (vs := R.s.cells (.slice X.Ad R.s.d.length X.cd) (.slice X.Ar R.s.r.length X.cr)) (fun _ => rfl) (fun _ => rfl) (Zv rfl)) (row_cells Zh rfl) rfl ?_
  refine ZN fun b4 => ?_
  refine ZM ?_
  refine Zn (Zt (Zs (Zr (ZA ?_))))
  refine ZA ?_
  refine ZFa 16 ?_
  refine ZC ?_
  refine ZFa 14 ?_
  refine ZL ?_
  refine Zn (Zt (Zs (Zr (wl_loadRow Zh (fun _ => rfl) (fun _ => rfl) (Zv rfl) rfl ?_))))
  refine ZFa 1 ?_
  refine ZC ?_
  refine Zy (y_conv rfl rfl (Zv rfl) Zl) ?_
  refine ZS (fun w hi => HG w) ?_
  rintro _ _ ⟨_, ⟨rfl, rfl⟩, rfl⟩
  iterate 5 refine ZA ?_
  refine Zn (Zt (Zr (ZA ?_)))
  refine ZA ?_
  refine wl_t (t_buildSl1 rfl rfl (fun _ => rfl) (fun _ => rfl) rfl rfl) rfl ?_
  rintro _ _ ⟨b70, rfl, rfl⟩
  refine wl_t (t_callS (runF (kNil br) X R) rfl (fun _ _ => rfl) Zi (fun w hi hin => push_ok (kNil br) X R _ 1 1 [g] (by omega) w hin (fun w' hk => hi.rdKs Zi Zh hk))) rfl ?_
  rintro _ _ ⟨_, ⟨A', c', rfl, rfl⟩, rfl⟩
  refine Zn (Zo (qok_pick (runF (kNil br) ⟨A', c', X.Ar, X.cr⟩ (R.wd (R.s.d ++ [g]))) Zj ?_))
  refine ret0 (cs' := [row _ _ _, slv _ _ _ _ _ _, slv _ _ _ _ _ _]) (.inr rfl) Zu rfl ?_
  rw [hst]
  exact ⟨⟨A', c', X.Ar, X.cr⟩, rfl, rfl⟩
 refine Zs (Zr (ZA ?_))
 refine ZA ?_
 refine Zn (Zt ?_)
 refine wc_cond _ rfl (fun hc23 => ?_) (fun hc23 => ?_)
 ·obtain rfl := beqZ hc23
  obtain ⟨R, l, x, rfl⟩ := Run.snoc (show 1 ≤ R.s.d.length from hn)
  have hll : l.length ≤ 100000 := (by have : (l ++ [x]).length ≤ 100000 := hdl; simp only [List.length_append, List.length_cons, List.length_nil] at this; omega)
  have HE := set_ok (R.wd l).s X.Ad X.Ar X.cd X.cr nn x
  have hdr := St.set_dr (R.wd l).s nn x
  have hst : otherN 67 nn (R.wd (l ++ [x])) = (R.wd l).ws ((R.wd l).s.set nn x).1 := (by show Run.ws _ _ = _; rw [Run.pop_wd, Run.top_wd])
  obtain ⟨⟨⟨pc', d', r', fl', su', pg', ie', rt', ve', ep', ca', ad', es', ei', co', ha'⟩, kn⟩, hq⟩ : ∃ q, (R.wd l).s.set nn x = q := ⟨_, rfl⟩
  rw [hq] at HE hst hdr
  obtain ⟨hd', hr'⟩ := hdr
  have hd' : l = d' := hd'.symm
  have hr' : R.s.r = r' := hr'.symm
  subst hd'
  subst hr'
  refine Zs (Zr (ZA ?_))
  refine wl_t (t_callS (runF (kNil br) X (R.wd (l ++ [x]))) rfl (fun _ _ => rfl) Zi (fun w hi hin => pop_ok (kNil br) X R l x w hin)) rfl ?_
  rintro _ _ ⟨_, ⟨rfl, rfl⟩, rfl⟩
  refine ZA ?_
  refine Zn (Zt (Zs (wc_draw ⟨fun j => List.elem j [15], []⟩ Zk ?_)))
  refine ZE 0 ?_
  refine ZE 1 ?_
  refine ZE 2 ?_
  refine ZFe 3 0 ?_
  refine wa_ln 4 rfl Zk Zk Zk Zk (y_loadN (vs := (R.wd l).s.cells (.slice X.Ad (R.wd l).s.d.length X.cd) (.slice X.Ar (R.wd l).s.r.length X.cr)) (fun _ => rfl) (fun _ => rfl) (Zv rfl)) (row_cells Zh rfl) rfl ?_
  refine ZFe 5 1 ?_
  refine ZG 6 ?_
  refine wa_yn 7 rfl Zk Zk Zk (y_conv rfl rfl (Zv rfl) Zl) rfl ?_
  refine ZE 8 ?_
  refine wa_1 9 Zk ?_
  refine ZT (fun w hi => HE w (hi.rdSt (show Has _ (slD (R.wd l).s X.Ad X.cd) from Zh) (show Has _ (slR (R.wd l).s X.Ar X.cr) from Zh) (by show l.length * 4 ≤ _; omega) (by show R.s.r.length * 4 ≤ _; have : R.s.r.length ≤ 100000 := hrl; omega))) ?_
  rintro _ _ ⟨_, ⟨A1, c1, A2, c2, rfl, rfl⟩, rfl⟩
  refine ZE 10 ?_
  refine ZE 11 ?_
  refine ZE 12 ?_
  refine ZE 13 ?_
  refine ZFe 14 0 ?_
  refine wa_1 15 Zk ?_
  refine wi_t0 rfl rfl (t_storeRX (ys := runCells (kNil br) ⟨A1, c1, A2, c2⟩ ((R.wd l).ws ⟨pc', l, R.s.r, fl', su', pg', ie', rt', ve', ep', ca', ad', es', ei', co', ha'⟩)) (n := 16) (vs := (St.mk pc' l R.s.r fl' su' pg' ie' rt' ve' ep' ca' ad' es' ei' co' ha').cells (.slice A1 l.length c1) (.slice A2 R.s.r.length c2)) rfl (fun _ => rfl) rfl rfl (allT rfl) Za rfl (by simp only [List.length_cons, List.length_nil]; omega)) (fun _ _ _ _ _ _ _ h => by cases h) ?_
  rintro _ _ ⟨rfl, rfl⟩
  refine wa_done Zk ?_
  refine Zt (Zs (Zr (ZFa 1 ?_)))
  refine ZC ?_
  iterate 2 refine ZA ?_
  refine ZFb 1 ?_
  refine ZD ?_
  refine ZB ?_
  iterate 2 refine ZA ?_
  iterate 2 refine ZB ?_
  refine ZFb 17 ?_
  refine ZD ?_
  refine ZB ?_
  refine ZA ?_
  refine Zn (Zt ?_)
  refine wc_cond _ rfl (fun hc26 => ?_) (fun hc26 => ?_)
  ·exact absurd hc26 (by simp)
  refine Zc (Zo (qok_pick (runF (kNil br) ⟨A1, c1, A2, c2⟩ ((R.wd l).ws ⟨pc', l, R.s.r, fl', su', pg', ie', rt', ve', ep', ca', ad', es', ei', co', ha'⟩)) Zj ?_))
  refine ret0 (cs' := [row _ _ _, slv _ _ _ _ _ _, slv _ _ _ _ _ _]) (.inr rfl) Zu rfl ?_
  rw [hst]
  exact ⟨⟨A1, c1, A2, c2⟩, rfl, rfl⟩
 refine Zs (Zr (ZA ?_))
 refine ZA ?_
 refine Zn (Zt ?_)
 refine wc_cond _ rfl (fun hc28 => ?_) (fun hc28 => ?_)
 ·obtain rfl := beqZ hc28
  obtain ⟨R, l, x, rfl⟩ := Run.snoc (show 1 ≤ R.s.d.length from hn)
  have hst : otherN 68 nn (R.wd (l ++ [x])) = R.wd l := (by show Run.pop _ = _; rw [Run.pop_wd])
  refine Zs (Zr (ZA ?_))
  refine wl_t (t_callS (runF (kNil br) X (R.wd (l ++ [x]))) rfl (fun _ _ => rfl) Zi (fun w hi hin => pop_ok (kNil br) X R l x w hin)) rfl ?_
  rintro _ _ ⟨_, ⟨rfl, rfl⟩, rfl⟩
  refine ZA ?_
  refine Zn (Zt (Zs (Zr (ZA ?_))))
  refine ZA ?_
  refine ZFa 17 ?_
  refine ZC ?_
  refine ZA ?_
  refine Zn (Zt (wc_cond_f rfl (rfl) ?_))
  refine Zc (Zo (ret0 (cs' := [row _ _ _, slv _ _ _ _ _ _, slv _ _ _ _ _ _]) (.inr rfl) Zu rfl ?_))
  rw [hst]
  exact ⟨X, rfl, rfl⟩
 refine Zs (Zr (ZA ?_))
 refine ZA ?_
 refine Zn (Zt ?_)
 refine wc_cond _ rfl (fun hc32 => ?_) (fun hc32 => ?_)
 ·obtain rfl := beqZ hc32
  refine Zr (ZA ?_)
  refine ZA ?_
  refine ZFa 0 ?_
  refine ZFa 15 ?_
  refine ZL ?_
  refine Zn (Zo (qok_pick (runF (kNil br) X (R.ws R.s.halt)) Zj ?_))
  refine ret0 (cs' := [row _ _ _, slv _ _ _ _ _ _, slv _ _ _ _ _ _]) (.inr rfl) Zu rfl ?_
  exact ⟨X, rfl, rfl⟩
 have hst : otherN op nn R = R := (by simp only [otherN, *, cond_false])
 refine Zc (Zo (ret0 (cs' := [row _ _ _, slv _ _ _ _ _ _, slv _ _ _ _ _ _]) (.inr rfl) Zu rfl ?_))
 rw [hst]
 exact ⟨X, rfl, rfl⟩
end Go.Proofs.YtmhpcgmjlpfheaaGreatDoor
/- An instruction without a memory and devices: the walk of Do. -/
set_option linter.unusedSimpArgs false
set_option linter.unusedVariables false
set_option maxRecDepth 100000
namespace Go.Proofs.YtmhpcgmjlpfheaaGreatDoor
open Go.RowKit Go.Ink
attribute [local irreducible] OpY GuardIs

set_option maxHeartbeats 4000000 in
theorem doN_ok (s : St) (Ad Ar : Option Addr) (cd cr : Nat) (op nn : Int) (hwf : s.wf) (hnn : u32 nn) (w : World) (h : RdSt w s Ad Ar cd cr) :
  Ctr Tryz.prog 127 [sv s Ad cd Ar cr, .agg #[.int .i64 op, .int .u32 nn], .pointer none, .pointer none] w []
   (fun v cs => ∃ X Ap cp, v = .agg (resCells (doN s op nn) X Ap cp).toArray ∧ cs = resF (doN s op nn) X Ap cp) := by
 have HR := right_ok s Ad Ar cd cr
 have HK := check_ok s Ad Ar cd cr op nn hnn
 have hbd := h.hd
 have hbr := h.hr
 unfold doN
 obtain ⟨rt, hrt⟩ : ∃ b, s.right = b := ⟨_, rfl⟩
 obtain ⟨ck, hck⟩ : ∃ b, checkOf s op nn = b := ⟨_, rfl⟩
 rw [hrt] at HR ⊢
 rw [hck] at HK ⊢
 have HZ := size_ok op
 obtain ⟨R0, hR0⟩ : ∃ R, run0 s op = R := ⟨_, rfl⟩
 have hmid : midN s op nn = (match stackTo op nn R0 with
  | some R => R
  | none => bif (reckonTo op nn R0).1 then (reckonTo op nn R0).2 else otherN op nn (reckonTo op nn R0).2) := by rw [← hR0]; rfl
 unfold run0 at hR0
 obtain ⟨sz, hsz⟩ : ∃ b, opSize op = b := ⟨_, rfl⟩
 rw [hsz] at HZ hR0
 obtain ⟨pc', hpc⟩ : ∃ b, IntKind.u32.wrap (s.pc + IntKind.u32.wrap sz) = b := ⟨_, rfl⟩
 rw [hpc] at hR0
 refine fn_ctr Tryz.func127 rfl Tryz.ntmps127 rfl (Inv.start w) ?_
 refine Zs (Zr (ZO fun b4 => ?_))
 refine ZO fun b5 => ?_
 refine ZN fun b8 => ?_
 refine Zn (Zt (Zs (Zs (Zr (wl_loadRow Zh (fun _ => rfl) (fun _ => rfl) (Zv rfl) rfl ?_)))))
 refine ZS (fun w hi => HR w) ?_
 rintro _ _ ⟨_, ⟨rfl, rfl⟩, rfl⟩
 refine ZA ?_
 refine Zn (Zt ?_)
 refine wc_cond _ rfl (fun hc1 => ?_) (fun hc1 => ?_)
 ·refine Zs (Zr (wl_loadRow Zh (fun _ => rfl) (fun _ => rfl) (Zv rfl) rfl ?_))
  refine ZS (fun w hi => copy_ok s Ad Ar cd cr w (h.oldN hi)) ?_
  rintro _ _ ⟨_, ⟨A1, c1, A2, c2, rfl, rfl⟩, rfl⟩
  refine ZA ?_
  refine wl_nilc 3 1 ?_
  refine ZM ?_
  refine Zn (Zt (Ze (Zw (qok_pick ([row b8 (resCells ⟨s, false, false, []⟩ ⟨A1, c1, A2, c2⟩ none 0) 222] ++ resF ⟨s, false, false, []⟩ ⟨A1, c1, A2, c2⟩ none 0) Zj ?_))))
  refine retC (cs' := [slv _ _ _ _ _ _, slv _ _ _ _ _ _, slv _ _ _ _ _ _]) (.inl rfl) Zu rfl rfl Zh (fun _ => rfl) (fun _ => rfl) ?_
  rw [condT hc1]
  exact ⟨⟨A1, c1, A2, c2⟩, none, 0, rfl, rfl⟩
 refine Zc (Zt (Zs (Zs (Zr (ZA ?_)))))
 refine ZA ?_
 refine Zn (Zt ?_)
 refine wc_cond _ rfl (fun hc3 => ?_) (fun hc3 => ?_)
 ·exact absurd hc3 (by simp)
 refine Zc (Zt (Zs (Zr (wl_loadRow Zh (fun _ => rfl) (fun _ => rfl) (Zv rfl) rfl ?_))))
 refine ZS (fun w hi => copy_ok s Ad Ar cd cr w (h.oldN hi)) ?_
 rintro _ _ ⟨_, ⟨A1, c1, A2, c2, rfl, rfl⟩, rfl⟩
 refine ZN fun b9 => ?_
 refine ZM ?_
 refine Zn (Zt (Zs (Zr (ZFa 14 ?_))))
 refine ZC ?_
 refine Zy (y_add (Zv rfl) (Zv rfl) rfl) ?_
 refine ZFa 14 ?_
 refine ZL ?_
 refine Zn (Zt (Zs (Zs (Zr (wl_loadRow Zh (fun _ => rfl) (fun _ => rfl) (Zv rfl) rfl ?_)))))
 refine wl_loadRow Zh (fun _ => rfl) (fun _ => rfl) (Zv rfl) rfl ?_
 refine ZS (fun w hi => HK w (h.oldN hi)) ?_
 rintro _ _ ⟨_, ⟨rfl, rfl⟩, rfl⟩
 refine ZA ?_
 refine Zn (Zt (Zs (Zr (ZA ?_))))
 refine ZA ?_
 refine Zn (Zt ?_)
 refine wc_cond _ rfl (fun hc8 => ?_) (fun hc8 => ?_)
 ·refine Zs (Zr (wl_loadRow Zh (fun _ => rfl) (fun _ => rfl) (Zv rfl) rfl ?_))
  refine ZA ?_
  refine ZS (fun w hi => trap_ok s.next A1 A2 c1 c2 ck 0 w (hi.rdSt (show Has _ (slD s A1 c1) from Zh) (show Has _ (slR s A2 c2) from Zh) hbd hbr)) ?_
  rintro _ _ ⟨_, ⟨A3, c3, A4, c4, rfl, rfl⟩, rfl⟩
  refine ZA ?_
  refine wl_nilc 3 1 ?_
  refine ZM ?_
  refine Zn (Zt (Ze (Zw (qok_pick ([row b8 (resCells ⟨s.next.trap ck 0, true, false, []⟩ ⟨A3, c3, A4, c4⟩ none 0) 222] ++ resF ⟨s.next.trap ck 0, true, false, []⟩ ⟨A3, c3, A4, c4⟩ none 0) Zj ?_))))
  refine retC (cs' := [slv _ _ _ _ _ _, slv _ _ _ _ _ _, slv _ _ _ _ _ _]) (.inl rfl) Zu rfl rfl Zh (fun _ => rfl) (fun _ => rfl) ?_
  rw [condF hc1, condT hc8]
  exact ⟨⟨A3, c3, A4, c4⟩, none, 0, rfl, rfl⟩
 refine Zc (Zt (Zs (wc_draw ⟨fun j => List.elem j [], []⟩ Zk ?_)))
 refine ZI 0 ?_
 refine ZFe 2 14 ?_
 refine ZG 3 ?_
 refine ZE 4 ?_
 refine ZE 5 ?_
 refine wa_1 1 Zk ?_
 refine ZT (fun w hi => copy_ok s.next A1 A2 c1 c2 w (hi.rdSt (show Has _ (slD s A1 c1) from Zh) (show Has _ (slR s A2 c2) from Zh) hbd hbr)) ?_
 rintro _ _ ⟨_, ⟨A5, c5, A6, c6, rfl, rfl⟩, rfl⟩
 refine ZE 6 ?_
 refine wa_1 7 Zk ?_
 refine wi_t rfl rfl (t_box rfl rfl) (fun _ _ _ _ _ _ _ h => by cases h) rfl ?_
 rintro _ _ ⟨b46, rfl, rfl⟩
 refine ZE 8 ?_
 refine wa_done Zk ?_
 refine Zt (Zs (wc_draw ⟨fun j => List.elem j [13], []⟩ Zk ?_))
 refine ZE 0 ?_
 refine ZE 1 ?_
 refine ZFe 2 0 ?_
 refine ZFe 3 0 ?_
 refine ZG 4 ?_
 refine ZFe 5 0 ?_
 refine ZG 6 ?_
 refine wa_1 7 Zk ?_
 refine ZT (fun w hi => HZ w) ?_
 rintro _ _ ⟨_, ⟨rfl, rfl⟩, rfl⟩
 refine wa_yn 8 rfl Zk Zk Zk (y_conv rfl rfl (Zv rfl) rfl) rfl ?_
 refine wa_yn 9 rfl Zk Zk Zk (y_add (Zv rfl) (Zv rfl) hpc) rfl ?_
 refine ZE 10 ?_
 refine ZFe 11 0 ?_
 refine ZFe 12 0 ?_
 refine wa_1 13 Zk ?_
 refine ZQ ?_
 refine wa_done Zk ?_
 refine Zt ?_
 refine wc_seq_mid (fun q : SAdr × Run => [(2, .pointer none), (8, .pointer (some ⟨b8, 0, none⟩)), (9, .pointer (some ⟨b9, 0, none⟩)), (11, .pointer (some ⟨b46, 0, none⟩))]) (fun q => runF (kNil b46) q.1 q.2 ++ [row b8 [.int .u32 0, .slice none 0 0, .slice none 0 0, .int .u32 0, .bool false, .bool false, .bool false, .int .u32 0, .int .u32 0, .int .u32 0, .int .u32 0, .int .u32 0, .bool false, .bool false, .int .u64 0, .bool false, .bool false, .bool false, .slice none 0 0] 222, row b9 (s.next.cells (.slice A1 s.next.d.length c1) (.slice A2 s.next.r.length c2)) 28, slD s.next A1 c1, slR s.next A2 c2]) (fun q => midN s op nn = q.2) ?_ ?_
 ·refine Zs ?_
  subst hR0
  have hrt1 : rt = true := (by simpa using hc1)
  obtain ⟨hd16, hr16, -⟩ := St.fits (hrt.trans hrt1)
  have hck0 : ck = 0 := (by simpa using hc8)
  obtain ⟨n1, n2⟩ := checkOf_zero (hck.trans hck0)
  have HS := fun w hin => stack_ok (kNil b46) ⟨A5, c5, A6, c6⟩ ⟨s.next.wpc pc', s.count, Tr.none, false⟩ op nn (show s.d.length ≤ 100000 by omega) (show s.r.length ≤ 100000 by omega) n1 n2 w hin
  rcases hst : stackTo op nn ⟨s.next.wpc pc', s.count, Tr.none, false⟩ with _ | R1
  ·rw [hst] at HS
   simp only [Option.isSome_none, Option.getD_none] at HS
   have HQ := fun X w hin => reckon_ok (kNil b46) X ⟨s.next.wpc pc', s.count, Tr.none, false⟩ op nn hwf.d (show s.d.length ≤ 100000 by omega) (show s.r.length ≤ 100000 by omega) n1 n2 w hin
   obtain ⟨⟨bq, R2⟩, hq⟩ : ∃ q, reckonTo op nn ⟨s.next.wpc pc', s.count, Tr.none, false⟩ = q := ⟨_, rfl⟩
   rw [hq] at HQ
   refine Zr (ZA ?_)
   refine wl_loadRow Zh (fun _ => rfl) (fun _ => rfl) (Zv rfl) rfl ?_
   refine wl_t (t_callS (runF (kNil b46) ⟨A5, c5, A6, c6⟩ ⟨s.next.wpc pc', s.count, Tr.none, false⟩) rfl (fun _ _ => rfl) Zi (fun w hi hin => HS w hin)) rfl ?_
   rintro _ _ ⟨_, ⟨X1, rfl, rfl⟩, rfl⟩
   iterate 2 refine ZA ?_
   refine ZB ?_
   refine wl_loadRowg (guard_yes rfl rfl) Zh (fun _ => rfl) (fun _ => rfl) (Zv rfl) rfl ?_
   refine wl_tg (guard_yes rfl rfl) rfl (t_callS (runF (kNil b46) X1 ⟨s.next.wpc pc', s.count, Tr.none, false⟩) rfl (fun _ _ => rfl) Zi (fun w hi hin => HQ X1 w hin)) rfl ?_
   rintro _ _ ⟨_, ⟨X2, rfl, rfl⟩, rfl⟩
   refine ZB ?_
   refine ZA ?_
   refine Zn (Zt ?_)
   refine wc_cond _ rfl (fun hc12 => ?_) (fun hc12 => ?_)
   ·obtain rfl : bq = false := (by simpa using hc12)
    have he := reckonTo_none op nn ⟨s.next.wpc pc', s.count, Tr.none, false⟩ (by rw [hq])
    rw [hq] at he
    have he : R2 = _ := he
    subst he
    have HO := fun X w hin => rotherN_ok b46 X ⟨s.next.wpc pc', s.count, Tr.none, false⟩ op nn hnn hwf.d (show s.d.length ≤ 100000 by omega) (show s.r.length ≤ 100000 by omega) n1 w hin
    obtain ⟨m', hm'⟩ : ∃ m', otherN op nn ⟨s.next.wpc pc', s.count, Tr.none, false⟩ = m' := ⟨_, rfl⟩
    rw [hm'] at HO
    refine Zr (ZA ?_)
    refine wl_loadRow Zh (fun _ => rfl) (fun _ => rfl) (Zv rfl) rfl ?_
    refine wl_t (t_callS (runF (kNil b46) X2 ⟨s.next.wpc pc', s.count, Tr.none, false⟩) rfl (fun _ _ => rfl) Zi (fun w hi hin => HO X2 w hin)) rfl ?_
    rintro _ _ ⟨_, ⟨X3, rfl, rfl⟩, rfl⟩
    refine Zn ?_
    refine q_midP ((⟨X3, m'⟩ : SAdr × Run)) ?_ ?_ ?_
    ·exact (by rw [hmid]; simp only [hst, hq, cond_false]; exact hm')
    ·exact Zwk
    exact Zj
   obtain rfl : bq = true := (by simpa using hc12)
   refine Zc ?_
   refine q_midP ((⟨X2, R2⟩ : SAdr × Run)) ?_ ?_ ?_
   ·exact (by rw [hmid]; simp only [hst, hq, cond_true])
   ·exact Zwk
   exact Zj
  rw [hst] at HS
  simp only [Option.isSome_some, Option.getD_some] at HS
  refine Zr (ZA ?_)
  refine wl_loadRow Zh (fun _ => rfl) (fun _ => rfl) (Zv rfl) rfl ?_
  refine wl_t (t_callS (runF (kNil b46) ⟨A5, c5, A6, c6⟩ ⟨s.next.wpc pc', s.count, Tr.none, false⟩) rfl (fun _ _ => rfl) Zi (fun w hi hin => HS w hin)) rfl ?_
  rintro _ _ ⟨_, ⟨X1, rfl, rfl⟩, rfl⟩
  iterate 2 refine ZA ?_
  refine wl_skip (guard_yes rfl rfl) rfl rfl ?_
  refine wl_skip (guard_yes rfl rfl) rfl rfl ?_
  refine wl_skip (guard_yes rfl rfl) rfl rfl ?_
  refine wl_skip (guard_yes rfl rfl) rfl rfl ?_
  refine Zy (y_and (q := false) (Zv rfl) ⟨_, rfl, fun _ e => by simp at e⟩) ?_
  refine Zn (Zt (wc_cond_f rfl (rfl) ?_))
  refine Zc ?_
  refine q_midP ((⟨X1, R1⟩ : SAdr × Run)) ?_ ?_ ?_
  ·exact (by rw [hmid]; simp only [hst])
  ·exact Zwk
  exact Zj
 rintro ⟨X, m⟩ hm
 dsimp only at hm ⊢
 refine Zs (wc_draw ⟨fun j => List.elem j [10], []⟩ Zk ?_)
 refine ZE 0 ?_
 refine ZE 1 ?_
 refine ZFe 2 0 ?_
 refine wa_ln 3 rfl Zk Zk Zk Zk (y_loadN (vs := m.s.cells (.slice X.Ad m.s.d.length X.cd) (.slice X.Ar m.s.r.length X.cr)) (fun _ => rfl) (fun _ => rfl) (Zv rfl)) (row_cells Zh rfl) rfl ?_
 refine ZE 4 ?_
 refine ZE 5 ?_
 refine ZFe 6 21 ?_
 refine ZG 7 ?_
 refine ZE 8 ?_
 refine wa_1 9 Zk ?_
 refine ZP fun b12 => ?_
 refine wa_1 10 Zk ?_
 refine ZR ?_
 refine wa_done Zk ?_
 refine Zt (Zs (Zs (Zr (ZA ?_))))
 refine ZA ?_
 refine ZFa 19 ?_
 refine ZFa 0 ?_
 refine ZC ?_
 refine ZA ?_
 refine Zn (Zt ?_)
 refine wc_cond _ rfl (fun hc15 => ?_) (fun hc15 => ?_)
 ·have he : endN s m = ⟨s.next.trap m.trap.cause m.trap.addr, true, m.device, []⟩ := condT hc15
  refine wc_draw ⟨fun j => List.elem j [13, 15], []⟩ Zk ?_
  refine ZI 0 ?_
  refine ZE 1 ?_
  refine ZE 2 ?_
  refine ZFe 3 19 ?_
  refine ZFe 4 0 ?_
  refine ZG 5 ?_
  refine ZE 6 ?_
  refine ZE 7 ?_
  refine ZFe 8 19 ?_
  refine ZFe 9 1 ?_
  refine ZG 10 ?_
  refine wa_1 11 Zk ?_
  refine ZT (fun w hi => trap_ok s.next A1 A2 c1 c2 m.trap.cause m.trap.addr w (hi.rdSt (show Has _ (slD s.next A1 c1) from Zh) (show Has _ (slR s.next A2 c2) from Zh) hbd hbr)) ?_
  rintro _ _ ⟨_, ⟨A7, c7, A8, c8, rfl, rfl⟩, rfl⟩
  refine ZFe 12 0 ?_
  refine wa_1 13 Zk ?_
  refine wi_t0 rfl rfl (t_storeRX (ys := resCells ⟨s.next.trap m.trap.cause m.trap.addr, false, m.device, []⟩ ⟨A7, c7, A8, c8⟩ none 0) (n := 16) (vs := (s.next.trap m.trap.cause m.trap.addr).cells (.slice A7 (s.next.trap m.trap.cause m.trap.addr).d.length c7) (.slice A8 (s.next.trap m.trap.cause m.trap.addr).r.length c8)) rfl (fun _ => rfl) rfl rfl (allT rfl) Za rfl (by simp only [List.length_cons, List.length_nil]; omega)) (fun _ _ _ _ _ _ _ h => by cases h) ?_
  rintro _ _ ⟨rfl, rfl⟩
  refine ZFe 14 16 ?_
  refine wa_1 15 Zk ?_
  refine ZQ ?_
  refine wa_done Zk ?_
  refine Zt (Zs (Zs (Zr (ZA ?_))))
  refine ZA ?_
  refine Zn (Zt ?_)
  refine wc_cond _ rfl (fun hc17 => ?_) (fun hc17 => ?_)
  ·exact absurd hc17 (by simp)
  refine Zc (Zt (Zs (Zr (wl_nilc 3 1 ?_))))
  refine wl_loadRow Zh (fun _ => rfl) (fun _ => rfl) (Zv rfl) rfl ?_
  refine ZM ?_
  refine Zn (Zt (Ze (qok_pick ([row b8 (resCells ⟨s.next.trap m.trap.cause m.trap.addr, true, m.device, []⟩ ⟨A7, c7, A8, c8⟩ none 0) 222] ++ resF ⟨s.next.trap m.trap.cause m.trap.addr, true, m.device, []⟩ ⟨A7, c7, A8, c8⟩ none 0) Zj ?_)))
  refine retC (cs' := [slv _ _ _ _ _ _, slv _ _ _ _ _ _, slv _ _ _ _ _ _]) (.inl rfl) Zu rfl rfl Zh (fun _ => rfl) (fun _ => rfl) ?_
  rw [condF hc1, condF hc8, hm, he]
  exact ⟨⟨A7, c7, A8, c8⟩, none, 0, rfl, rfl⟩
 have he : endN s m = ⟨m.s, false, m.device, []⟩ := condF hc15
 refine Zc (Zt (Zs (Zs (Zr (ZA ?_)))))
 refine ZA ?_
 refine Zn (Zt ?_)
 refine wc_cond _ rfl (fun hc17 => ?_) (fun hc17 => ?_)
 ·exact absurd hc17 (by simp)
 refine Zc (Zt (Zs (Zr (wl_nilc 3 1 ?_))))
 refine wl_loadRow Zh (fun _ => rfl) (fun _ => rfl) (Zv rfl) rfl ?_
 refine ZM ?_
 refine Zn (Zt (Ze (qok_pick ([row b8 (resCells ⟨m.s, false, m.device, []⟩ X none 0) 222] ++ resF ⟨m.s, false, m.device, []⟩ X none 0) Zj ?_)))
 refine retC (cs' := [slv _ _ _ _ _ _, slv _ _ _ _ _ _, slv _ _ _ _ _ _]) (.inl rfl) Zu rfl rfl Zh (fun _ => rfl) (fun _ => rfl) ?_
 rw [condF hc1, condF hc8, hm, he]
 exact ⟨X, none, 0, rfl, rfl⟩
end Go.Proofs.YtmhpcgmjlpfheaaGreatDoor
/- A guest's parts as they begin. -/
set_option linter.unusedSimpArgs false
set_option linter.unusedVariables false
set_option maxRecDepth 100000
namespace Go.Ink
open Go.RowKit
def Dev.init (disk : List Int) : Dev := ⟨0, 0, 0, [], [], diskOf disk, 0, 0, 0⟩
end Go.Ink
namespace Go.Proofs.YtmhpcgmjlpfheaaGreatDoor
open Go.RowKit Go.Ink
attribute [local irreducible] OpY GuardIs

theorem RdSt.oldKs {w0 w w' : World} {cs cin rest : List Chunk} {s : St} {Ad Ar : Option Addr} {cd cr : Nat} (h : RdSt w0 s Ad Ar cd cr) (hi : Inv w0 [] cs w) (hp : Split cin cs rest) (hk : Keep (blocks cin) w w') : RdSt w' s Ad Ar cd cr :=
 ⟨RdV.oldKs h.d hi hp hk, RdV.oldKs h.r hi hp hk, h.hd, h.hr⟩
theorem _root_.Go.Ink.Inv.rdStKs {w0 w w' : World} {S : List Nat} {cs cin rest : List Chunk} {s : St} {Ad Ar : Option Addr} {cd cr : Nat} (hi : Inv w0 S cs w) (hp : Split cin cs rest) (h1 : Has rest (slD s Ad cd)) (h2 : Has rest (slR s Ar cr)) (hd : s.d.length * 4 ≤ 140737488355328) (hr : s.r.length * 4 ≤ 140737488355328) (hk : Keep (blocks cin) w w') : RdSt w' s Ad Ar cd cr :=
 ⟨hi.rdKs hp h1 hk, hi.rdKs hp h2 hk, hd, hr⟩
theorem busnew_ok (bm : Nat) (A : Option Addr) (c : Nat) (l : List Int) (hl : l.length ≤ 1024) (w : World) (h : Rd w .u8 A l.length c l) : Ctr Tryz.prog 32 [.pointer (some ⟨bm, 0, none⟩), .slice A l.length c] w []
  (fun v cs => ∃ D, v = .tuple #[.pointer (some ⟨D.bs, 0, none⟩), .int .i64 0] ∧ cs = busF D bm ⟨none, 0, none, 0⟩ (Dev.init l)) := by
 obtain ⟨dd, hdd⟩ : ∃ dd, diskOf l = dd := ⟨_, rfl⟩
 unfold Dev.init
 rw [hdd]
 have HD := fun w (hi : Rd w .u8 A l.length c l) => drinew_ok A c l hl w hi
 rw [hdd] at HD
 refine fn_ctr Tryz.func32 rfl Tryz.ntmps32 rfl (Inv.start w) ?_
 refine Zs (Zr (ZA ?_))
 refine ZA ?_
 refine Zn (Zt (Zs (Zs (Zr (ZA ?_)))))
 refine ZA ?_
 refine Zn (Zt (wc_cond_f rfl (rfl) ?_))
 refine Zc (Zt (Zs (Zr (ZA ?_))))
 refine ZS (fun w hi => HD w (h.oldN hi)) ?_
 rintro _ _ ⟨_, ⟨bdr, bdk, rfl, rfl⟩, rfl⟩
 iterate 5 refine ZA ?_
 refine Zn (Zt (Zs (Zs (Zr (ZA ?_)))))
 refine ZA ?_
 refine Zn (Zt (wc_cond_f rfl (rfl) ?_))
 refine Zc (Zt (Zs (Zr (ZS (fun w hi => irqnew_ok w) ?_))))
 rintro _ _ ⟨_, ⟨bi, rfl, rfl⟩, rfl⟩
 refine ZS (fun w hi => timnew_ok w) ?_
 rintro _ _ ⟨_, ⟨bti, rfl, rfl⟩, rfl⟩
 refine ZS (fun w hi => connew_ok w) ?_
 rintro _ _ ⟨_, ⟨bcn, rfl, rfl⟩, rfl⟩
 iterate 3 refine ZA ?_
 refine ZO fun b24 => ?_
 refine ZA ?_
 refine wl_nilc 5 1 ?_
 refine wl_nilc 5 1 ?_
 refine ZA ?_
 refine Zn (Zt (Ze (qok_pick (busF ⟨b24, bi, bti, bcn, bdr, bdk⟩ bm ⟨none, 0, none, 0⟩ ⟨0, 0, 0, [], [], dd, 0, 0, 0⟩) Zj ?_)))
 refine ret2 (cs' := [row _ _ _, row _ _ _, row _ _ _, row _ _ _, slv _ _ _ _ _ _, slv _ _ _ _ _ _, row _ _ _, slv _ _ _ _ _ _]) (.inl rfl) Zu rfl rfl rfl ?_
 exact ⟨⟨b24, bi, bti, bcn, bdr, bdk⟩, rfl, rfl⟩
structure _root_.Go.Ink.RMLoc where
 bm : Nat
 bB : Nat
 bT : Nat
end Go.Proofs.YtmhpcgmjlpfheaaGreatDoor
/- A guest's parts, and the document's, as they begin. -/
set_option linter.unusedSimpArgs false
set_option linter.unusedVariables false
set_option maxRecDepth 100000
namespace Go.Ink
open Go.RowKit
/-- Where all that fresh makes lies. -/
structure FLoc where
 bw : Nat
 bu : Nat
 bb : Nat
 L : MLoc
 D : DLoc
 K : RMLoc
 bx : Nat
 by_ : Nat
 bd : Nat
def refData (n : Nat) (b : List Int) : List Int := b ++ List.replicate (n * 64 - b.length) 0
end Go.Ink
namespace Go.Proofs.YtmhpcgmjlpfheaaGreatDoor
open Go.RowKit Go.Ink
attribute [local irreducible] OpY GuardIs

end Go.Proofs.YtmhpcgmjlpfheaaGreatDoor
/- Some of the runs: known. -/
set_option linter.unusedSimpArgs false
set_option linter.unusedVariables false
set_option maxRecDepth 100000
namespace Go.Ink
open Go.RowKit
abbrev known1 : St := ⟨0, [7, 0], [], 0, false, false, false, 0, 0, 0, 0, 0, false, false, 0, false⟩
abbrev known2 : St := ⟨0, [7], [], 0, false, false, false, 0, 0, 0, 0, 0, false, false, 0, false⟩
theorem known1_do (n : Nat) (U : Mmu) (d : Dev) : doTo n known1 24 0 U d = (⟨⟨0, [7, 0], [], 0, true, false, false, 0, 0, 0, 5, 0, false, false, 1, false⟩, true, false, []⟩, ⟨U.m.calm, U.t⟩, d) := by rfl
theorem known2_do (n : Nat) (U : Mmu) (d : Dev) : doTo n known2 16 0 U d = (⟨⟨0, [7], [], 0, true, false, false, 0, 0, 0, 3, 0, false, false, 1, false⟩, true, false, []⟩, ⟨U.m.calm, U.t⟩, d) := by rfl
theorem known3_do : checkOf St.zero 69 0 = 2 := by rfl
theorem u32_of {x : Int} (h : 0 ≤ x ∧ x ≤ 4294967295 := by decide) : u32 x := h
theorem known1_wf : known1.wf := ⟨u32_of, u32_of, u32_of, u32_of, u32_of, u32_of, u32_of, by decide, fun x hx => by rcases hx with _ | ⟨_, _ | ⟨_, ⟨⟩⟩⟩ <;> exact u32_of, fun x hx => by cases hx⟩
theorem known2_wf : known2.wf := ⟨u32_of, u32_of, u32_of, u32_of, u32_of, u32_of, u32_of, by decide, fun x hx => by rcases hx with _ | ⟨_, ⟨⟩⟩ <;> exact u32_of, fun x hx => by cases hx⟩
theorem diskOf_len {l : List Int} (h : l.length ≤ 1024) : (diskOf l).length = 1024 := by simp [diskOf]; omega
theorem diskOf_u8 {l : List Int} (h : u8s l) : u8s (diskOf l) := fun x hx => by
 rcases List.mem_append.1 hx with hx | hx
 ·exact h x hx
 rw [List.eq_of_mem_replicate hx]; decide
theorem init_wf {l : List Int} (h : l.length ≤ 1024) (hb : u8s l) : (Dev.init l).wf := ⟨fun x hx => (by cases hx), diskOf_len h, diskOf_u8 hb, Nat.zero_le _, Nat.zero_le _, Nat.zero_le _⟩
end Go.Ink
namespace Go.Proofs.YtmhpcgmjlpfheaaGreatDoor
open Go.RowKit Go.Ink
attribute [local irreducible] OpY GuardIs

theorem rdNil (w : World) (k : IntKind) : Rd w k none 0 0 [] := ⟨rfl, by simp, by simp, by simp, by simp⟩
end Go.Proofs.YtmhpcgmjlpfheaaGreatDoor
