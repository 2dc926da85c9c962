/- An instruction that is being done: what is left. -/
import Derived.Test.YtobjiljkfmcalaaGreatSpW
import Derived.Test.YtobjiljkfmcalaaGreatInkS
set_option linter.unusedSimpArgs false
set_option linter.unusedVariables false
set_option maxRecDepth 100000
namespace Go.Ink
open Go.RowKit
abbrev Mach.of (p : Run × Mmu) (d : Dev) : Mach := ⟨p.1, p.2, d⟩
abbrev Run.ws (R : Run) (s : St) : Run := ⟨s, R.count, R.trap, R.device⟩
abbrev St.wcount (s : St) (c : Int) : St := ⟨s.pc, s.d, s.r, s.flags, s.super, s.paging, s.ie, s.root, s.vec, s.epc, s.cause, s.addr, s.esuper, s.eie, c, s.halted⟩
abbrev St.halt (s : St) : St := ⟨s.pc, s.d, s.r, s.flags, s.super, s.paging, s.ie, s.root, s.vec, s.epc, s.cause, s.addr, s.esuper, s.eie, s.count, true⟩
def otherTo (n : Nat) (op nn : Int) (m : Mach) : Mach :=
  bif op == 48 then lodeTo n m.r.pop m.u m.d m.r.top.toNat else
  bif op == 49 then stowTo n m.r.pop.pop m.u m.d m.r.top.toNat m.r.pop.top.toNat else
  bif op == 50 then Mach.of (sameL n m.r.pop m.u m.r.top.toNat 4) m.d else
  bif op == 51 then Mach.of (sameS n m.r.pop.pop m.u m.r.top.toNat 4 m.r.pop.top) m.d else
  bif op == 52 then Mach.of (sameL n m.r.pop m.u m.r.top.toNat 1) m.d else
  bif op == 53 then Mach.of (sameS n m.r.pop.pop m.u m.r.top.toNat 1 m.r.pop.top) m.d else
  bif op == 64 then ⟨m.r.wt ⟨11, 0⟩, m.u, m.d⟩ else
  bif op == 65 then ⟨m.r.ws m.r.s.back, m.u, m.d⟩ else
  bif op == 66 then ⟨m.r.push [((m.r.s.wcount m.r.count).get nn).1], m.u, m.d⟩ else
  bif op == 67 then ⟨m.r.pop.ws (m.r.pop.s.set nn m.r.top).1, bif nn == 1 || nn == 2 then ⟨m.u.m, tflush⟩ else m.u, m.d⟩ else
  bif op == 68 then ⟨m.r.pop, ⟨m.u.m, tdrop m.u.t m.r.top.toNat⟩, m.d⟩ else
  bif op == 69 then ⟨m.r.ws m.r.s.halt, m.u, m.d⟩ else m
theorem St.set_dr (s : St) (reg v : Int) : (s.set reg v).1.d = s.d ∧ (s.set reg v).1.r = s.r := by
  unfold St.set
  repeat (refine cond_all (fun q : St × Bool => q.1.d = s.d ∧ q.1.r = s.r) ⟨rfl, rfl⟩ ?_)
  exact ⟨rfl, rfl⟩
end Go.Ink
namespace Go.Proofs.YtobjiljkfmcalaaGreat
open Go.RowKit Go.Ink

set_option maxHeartbeats 4000000 in
theorem rother_ok (br bu bb : Nat) (L : MLoc) (D : DLoc) (X : SAdr) (Y : DAdr) (R : Run) (U : Mmu) (d : Dev) (op nn : Int) (hnn : u32 nn) (hw : ∀ x, x ∈ R.s.d → u32 x) (hdl : R.s.d.length ≤ 100000) (hrl : R.s.r.length ≤ 100000) (hn : (opNeeds op).1.1 ≤ R.s.d.length) (hT : U.t.length = 16) (hroot : u32 R.s.root) (hd : d.wf) (ho : d.out.length ≤ 1000000000)
    (w : World) (hi : Inv w (blocks (allF br bu bb L D X Y ⟨R, U, d⟩)) (allF br bu bb L D X Y ⟨R, U, d⟩) w) :
    Ctr Tryz.prog 47 [.pointer (some ⟨br, 0, none⟩), .agg #[.int .i64 op, .int .u32 nn]] w (allF br bu bb L D X Y ⟨R, U, d⟩) (fun v cs => ∃ X' Y', v = .tuple #[] ∧ cs = allF br bu bb L D X' Y' (otherTo L.n op nn ⟨R, U, d⟩)) := by
  have hu1 := hnn.1
  have hu2 := hnn.2
  refine fn_ctr Tryz.func47 rfl Tryz.ntmps47 rfl hi ?_
  refine Zs (Zr (wl_t (t_box rfl rfl) rfl ?_))
  rintro _ _ ⟨b3, rfl, rfl⟩
  refine Zn (Zt (Zs (Zr (Zy (y_field 0 rfl (Zv rfl) Zf) ?_))))
  refine Zz rfl ?_
  refine Zn (Zt (Zx (Zs (Zr (Zy (y_eql (Zv rfl) (Zv rfl) rfl) (Zg rfl (Zn (Zt ?_))))))))
  refine wc_cond _ rfl (fun hc2 => ?_) (fun hc2 => ?_)
  · obtain rfl := beqZ hc2
    obtain ⟨R, l, x, rfl⟩ := Run.snoc (show 1 ≤ R.s.d.length from hn)
    obtain ⟨hx1, hx2⟩ := hw x (by simp)
    obtain ⟨va, rfl⟩ : ∃ va : Nat, x = va := Int.eq_ofNat_of_zero_le hx1
    have hva : va ≤ 4294967295 := (by omega)
    have hll : l.length ≤ 100000 := (by have : (l ++ [(va : Int)]).length ≤ 100000 := hdl; simp only [List.length_append, List.length_cons, List.length_nil] at this; omega)
    have HC := fun w hin => lode_ok br bu bb L D X Y R U d l va hva hll hT hroot hd w hin
    have hst : otherTo L.n 48 nn ⟨R.wd (l ++ [(va : Int)]), U, d⟩ = lodeTo L.n (R.wd l) U d va := (by show lodeTo _ _ _ _ _ = _; rw [Run.pop_wd, Run.top_wd]; rfl)
    obtain ⟨m', hm'⟩ : ∃ m', lodeTo L.n (R.wd l) U d va = m' := ⟨_, rfl⟩
    rw [hm'] at HC
    rw [hm'] at hst
    refine Zr (Zm rfl (wl_t (t_callS (allF br bu bb L D X Y ⟨R.wd (l ++ [(va : Int)]), U, d⟩) rfl (fun _ _ => rfl) Zi (fun w hi hin => HC w hin)) rfl ?_))
    rintro _ _ ⟨_, ⟨X', Y', rfl, rfl⟩, rfl⟩
    refine Zn (Zo (qok_pick (allF br bu bb L D X' Y' m') Zj ?_))
    refine ret0 (cs' := [row _ _ _, slv _ _ _ _ _ _, slv _ _ _ _ _ _, row _ _ _, exC _ _ _ _, row _ _ _, row _ _ _, row _ _ _, row _ _ _, row _ _ _, slv _ _ _ _ _ _, slv _ _ _ _ _ _, row _ _ _, slv _ _ _ _ _ _]) (.inr rfl) Zu rfl ?_
    rw [hst]
    exact ⟨X', Y', rfl, rfl⟩
  refine Zs (Zr (Zy (y_eql (Zv rfl) (Zv rfl) rfl) (Zg rfl (Zn (Zt ?_)))))
  refine wc_cond _ rfl (fun hc4 => ?_) (fun hc4 => ?_)
  · obtain rfl := beqZ hc4
    obtain ⟨R, l, y, x, rfl⟩ := Run.snoc2 (show 2 ≤ R.s.d.length from hn)
    obtain ⟨hx1, hx2⟩ := hw x (by simp)
    obtain ⟨hy1, hy2⟩ := hw y (by simp)
    obtain ⟨va, rfl⟩ : ∃ va : Nat, x = va := Int.eq_ofNat_of_zero_le hx1
    obtain ⟨v, rfl⟩ : ∃ v : Nat, y = v := Int.eq_ofNat_of_zero_le hy1
    have hva : va ≤ 4294967295 := (by omega)
    have hv : v ≤ 4294967295 := (by omega)
    have hll : l.length ≤ 100000 := (by have : ((l ++ [(v : Int)]) ++ [(va : Int)]).length ≤ 100000 := hdl; simp only [List.length_append, List.length_cons, List.length_nil] at this; omega)
    have HC := fun w hin => stow_ok br bu bb L D X Y R U d l va v hva hv hT hroot hd ho w hin
    have hst : otherTo L.n 49 nn ⟨R.wd ((l ++ [(v : Int)]) ++ [(va : Int)]), U, d⟩ = stowTo L.n (R.wd l) U d va v := (by show stowTo _ _ _ _ _ _ = _; rw [Run.pop_wd, Run.top_wd, Run.pop_wd, Run.top_wd]; rfl)
    obtain ⟨m', hm'⟩ : ∃ m', stowTo L.n (R.wd l) U d va v = m' := ⟨_, rfl⟩
    rw [hm'] at HC
    rw [hm'] at hst
    refine Zr (Zm rfl (wl_t (t_callS (allF br bu bb L D X Y ⟨R.wd ((l ++ [(v : Int)]) ++ [(va : Int)]), U, d⟩) rfl (fun _ _ => rfl) Zi (fun w hi hin => HC w hin)) rfl ?_))
    rintro _ _ ⟨_, ⟨Y', rfl, rfl⟩, rfl⟩
    refine Zn (Zo (qok_pick (allF br bu bb L D X Y' m') Zj ?_))
    refine ret0 (cs' := [row _ _ _, slv _ _ _ _ _ _, slv _ _ _ _ _ _, row _ _ _, exC _ _ _ _, row _ _ _, row _ _ _, row _ _ _, row _ _ _, row _ _ _, slv _ _ _ _ _ _, slv _ _ _ _ _ _, row _ _ _, slv _ _ _ _ _ _]) (.inr rfl) Zu rfl ?_
    rw [hst]
    exact ⟨X, Y', rfl, rfl⟩
  refine Zs (Zr (Zy (y_eql (Zv rfl) (Zv rfl) rfl) (Zg rfl (Zn (Zt ?_)))))
  refine wc_cond _ rfl (fun hc6 => ?_) (fun hc6 => ?_)
  · obtain rfl := beqZ hc6
    obtain ⟨R, l, x, rfl⟩ := Run.snoc (show 1 ≤ R.s.d.length from hn)
    obtain ⟨hx1, hx2⟩ := hw x (by simp)
    obtain ⟨va, rfl⟩ : ∃ va : Nat, x = va := Int.eq_ofNat_of_zero_le hx1
    have hva : va ≤ 4294967295 := (by omega)
    have hll : l.length ≤ 100000 := (by have : (l ++ [(va : Int)]).length ≤ 100000 := hdl; simp only [List.length_append, List.length_cons, List.length_nil] at this; omega)
    have HC := fun w hin => someL_ok br bu bb L D X R U l va 4 hva (by decide) (by decide) hll hT hroot w hin
    have hst : otherTo L.n 50 nn ⟨R.wd (l ++ [(va : Int)]), U, d⟩ = Mach.of (sameL L.n (R.wd l) U va 4) d := (by show Mach.of (sameL _ _ _ _ _) _ = _; rw [Run.pop_wd, Run.top_wd]; rfl)
    obtain ⟨m', hm'⟩ : ∃ m', sameL L.n (R.wd l) U va 4 = m' := ⟨_, rfl⟩
    rw [hm'] at HC
    rw [hm'] at hst
    refine Zr (Zm rfl (wl_t (t_callS (runF (kOf br bu D) X (R.wd (l ++ [(va : Int)])) ++ uF bu bb L U) rfl (fun _ _ => rfl) Zi (fun w hi hin => HC w hin)) rfl ?_))
    rintro _ _ ⟨_, ⟨X', rfl, rfl⟩, rfl⟩
    refine Zn (Zo (qok_pick (allF br bu bb L D X' Y ⟨m'.1, m'.2, d⟩) Zj ?_))
    refine ret0 (cs' := [row _ _ _, slv _ _ _ _ _ _, slv _ _ _ _ _ _, row _ _ _, exC _ _ _ _, row _ _ _, row _ _ _, row _ _ _, row _ _ _, row _ _ _, slv _ _ _ _ _ _, slv _ _ _ _ _ _, row _ _ _, slv _ _ _ _ _ _]) (.inr rfl) Zu rfl ?_
    rw [hst]
    exact ⟨X', Y, rfl, rfl⟩
  refine Zs (Zr (Zy (y_eql (Zv rfl) (Zv rfl) rfl) (Zg rfl (Zn (Zt ?_)))))
  refine wc_cond _ rfl (fun hc8 => ?_) (fun hc8 => ?_)
  · obtain rfl := beqZ hc8
    obtain ⟨R, l, y, x, rfl⟩ := Run.snoc2 (show 2 ≤ R.s.d.length from hn)
    obtain ⟨hx1, hx2⟩ := hw x (by simp)
    obtain ⟨hy1, hy2⟩ := hw y (by simp)
    obtain ⟨va, rfl⟩ : ∃ va : Nat, x = va := Int.eq_ofNat_of_zero_le hx1
    obtain ⟨v, rfl⟩ : ∃ v : Nat, y = v := Int.eq_ofNat_of_zero_le hy1
    have hva : va ≤ 4294967295 := (by omega)
    have hv : v ≤ 4294967295 := (by omega)
    have hll : l.length ≤ 100000 := (by have : ((l ++ [(v : Int)]) ++ [(va : Int)]).length ≤ 100000 := hdl; simp only [List.length_append, List.length_cons, List.length_nil] at this; omega)
    have HC := fun w hin => someS_ok br bu bb L D X R U l va 4 v hva (by decide) (by decide) hll hT hroot w hin
    have hst : otherTo L.n 51 nn ⟨R.wd ((l ++ [(v : Int)]) ++ [(va : Int)]), U, d⟩ = Mach.of (sameS L.n (R.wd l) U va 4 v) d := (by show Mach.of (sameS _ _ _ _ _ _) _ = _; rw [Run.pop_wd, Run.top_wd, Run.pop_wd, Run.top_wd]; rfl)
    obtain ⟨m', hm'⟩ : ∃ m', sameS L.n (R.wd l) U va 4 v = m' := ⟨_, rfl⟩
    rw [hm'] at HC
    rw [hm'] at hst
    refine Zr (Zm rfl (wl_t (t_callS (runF (kOf br bu D) X (R.wd ((l ++ [(v : Int)]) ++ [(va : Int)])) ++ uF bu bb L U) rfl (fun _ _ => rfl) Zi (fun w hi hin => HC w hin)) rfl ?_))
    rintro _ _ ⟨_, ⟨rfl, rfl⟩, rfl⟩
    refine Zn (Zo (qok_pick (allF br bu bb L D X Y ⟨m'.1, m'.2, d⟩) Zj ?_))
    refine ret0 (cs' := [row _ _ _, slv _ _ _ _ _ _, slv _ _ _ _ _ _, row _ _ _, exC _ _ _ _, row _ _ _, row _ _ _, row _ _ _, row _ _ _, row _ _ _, slv _ _ _ _ _ _, slv _ _ _ _ _ _, row _ _ _, slv _ _ _ _ _ _]) (.inr rfl) Zu rfl ?_
    rw [hst]
    exact ⟨X, Y, rfl, rfl⟩
  refine Zs (Zr (Zy (y_eql (Zv rfl) (Zv rfl) rfl) (Zg rfl (Zn (Zt ?_)))))
  refine wc_cond _ rfl (fun hc10 => ?_) (fun hc10 => ?_)
  · obtain rfl := beqZ hc10
    obtain ⟨R, l, x, rfl⟩ := Run.snoc (show 1 ≤ R.s.d.length from hn)
    obtain ⟨hx1, hx2⟩ := hw x (by simp)
    obtain ⟨va, rfl⟩ : ∃ va : Nat, x = va := Int.eq_ofNat_of_zero_le hx1
    have hva : va ≤ 4294967295 := (by omega)
    have hll : l.length ≤ 100000 := (by have : (l ++ [(va : Int)]).length ≤ 100000 := hdl; simp only [List.length_append, List.length_cons, List.length_nil] at this; omega)
    have HC := fun w hin => someL_ok br bu bb L D X R U l va 1 hva (by decide) (by decide) hll hT hroot w hin
    have hst : otherTo L.n 52 nn ⟨R.wd (l ++ [(va : Int)]), U, d⟩ = Mach.of (sameL L.n (R.wd l) U va 1) d := (by show Mach.of (sameL _ _ _ _ _) _ = _; rw [Run.pop_wd, Run.top_wd]; rfl)
    obtain ⟨m', hm'⟩ : ∃ m', sameL L.n (R.wd l) U va 1 = m' := ⟨_, rfl⟩
    rw [hm'] at HC
    rw [hm'] at hst
    refine Zr (Zm rfl (wl_t (t_callS (runF (kOf br bu D) X (R.wd (l ++ [(va : Int)])) ++ uF bu bb L U) rfl (fun _ _ => rfl) Zi (fun w hi hin => HC w hin)) rfl ?_))
    rintro _ _ ⟨_, ⟨X', rfl, rfl⟩, rfl⟩
    refine Zn (Zo (qok_pick (allF br bu bb L D X' Y ⟨m'.1, m'.2, d⟩) Zj ?_))
    refine ret0 (cs' := [row _ _ _, slv _ _ _ _ _ _, slv _ _ _ _ _ _, row _ _ _, exC _ _ _ _, row _ _ _, row _ _ _, row _ _ _, row _ _ _, row _ _ _, slv _ _ _ _ _ _, slv _ _ _ _ _ _, row _ _ _, slv _ _ _ _ _ _]) (.inr rfl) Zu rfl ?_
    rw [hst]
    exact ⟨X', Y, rfl, rfl⟩
  refine Zs (Zr (Zy (y_eql (Zv rfl) (Zv rfl) rfl) (Zg rfl (Zn (Zt ?_)))))
  refine wc_cond _ rfl (fun hc12 => ?_) (fun hc12 => ?_)
  · obtain rfl := beqZ hc12
    obtain ⟨R, l, y, x, rfl⟩ := Run.snoc2 (show 2 ≤ R.s.d.length from hn)
    obtain ⟨hx1, hx2⟩ := hw x (by simp)
    obtain ⟨hy1, hy2⟩ := hw y (by simp)
    obtain ⟨va, rfl⟩ : ∃ va : Nat, x = va := Int.eq_ofNat_of_zero_le hx1
    obtain ⟨v, rfl⟩ : ∃ v : Nat, y = v := Int.eq_ofNat_of_zero_le hy1
    have hva : va ≤ 4294967295 := (by omega)
    have hv : v ≤ 4294967295 := (by omega)
    have hll : l.length ≤ 100000 := (by have : ((l ++ [(v : Int)]) ++ [(va : Int)]).length ≤ 100000 := hdl; simp only [List.length_append, List.length_cons, List.length_nil] at this; omega)
    have HC := fun w hin => someS_ok br bu bb L D X R U l va 1 v hva (by decide) (by decide) hll hT hroot w hin
    have hst : otherTo L.n 53 nn ⟨R.wd ((l ++ [(v : Int)]) ++ [(va : Int)]), U, d⟩ = Mach.of (sameS L.n (R.wd l) U va 1 v) d := (by show Mach.of (sameS _ _ _ _ _ _) _ = _; rw [Run.pop_wd, Run.top_wd, Run.pop_wd, Run.top_wd]; rfl)
    obtain ⟨m', hm'⟩ : ∃ m', sameS L.n (R.wd l) U va 1 v = m' := ⟨_, rfl⟩
    rw [hm'] at HC
    rw [hm'] at hst
    refine Zr (Zm rfl (wl_t (t_callS (runF (kOf br bu D) X (R.wd ((l ++ [(v : Int)]) ++ [(va : Int)])) ++ uF bu bb L U) rfl (fun _ _ => rfl) Zi (fun w hi hin => HC w hin)) rfl ?_))
    rintro _ _ ⟨_, ⟨rfl, rfl⟩, rfl⟩
    refine Zn (Zo (qok_pick (allF br bu bb L D X Y ⟨m'.1, m'.2, d⟩) Zj ?_))
    refine ret0 (cs' := [row _ _ _, slv _ _ _ _ _ _, slv _ _ _ _ _ _, row _ _ _, exC _ _ _ _, row _ _ _, row _ _ _, row _ _ _, row _ _ _, row _ _ _, slv _ _ _ _ _ _, slv _ _ _ _ _ _, row _ _ _, slv _ _ _ _ _ _]) (.inr rfl) Zu rfl ?_
    rw [hst]
    exact ⟨X, Y, rfl, rfl⟩
  refine Zs (Zr (Zy (y_eql (Zv rfl) (Zv rfl) rfl) (Zg rfl (Zn (Zt ?_)))))
  refine wc_cond _ rfl (fun hc14 => ?_) (fun hc14 => ?_)
  · obtain rfl := beqZ hc14
    refine Zr (Zm rfl (wl_t (t_callS (runF (kOf br bu D) X R) rfl (fun _ _ => rfl) Zi (fun w hi hin => fail_ok (kOf br bu D) X R 11 0 w hin)) rfl ?_))
    rintro _ _ ⟨_, ⟨rfl, rfl⟩, rfl⟩
    refine Zn (Zo (qok_pick (allF br bu bb L D X Y ⟨R.wt ⟨11, 0⟩, U, d⟩) Zj ?_))
    refine ret0 (cs' := [row _ _ _, slv _ _ _ _ _ _, slv _ _ _ _ _ _, row _ _ _, exC _ _ _ _, row _ _ _, row _ _ _, row _ _ _, row _ _ _, row _ _ _, slv _ _ _ _ _ _, slv _ _ _ _ _ _, row _ _ _, slv _ _ _ _ _ _]) (.inr rfl) Zu rfl ?_
    exact ⟨X, Y, rfl, rfl⟩
  refine Zs (Zr (Zy (y_eql (Zv rfl) (Zv rfl) rfl) (Zg rfl (Zn (Zt ?_)))))
  refine wc_cond _ rfl (fun hc16 => ?_) (fun hc16 => ?_)
  · obtain rfl := beqZ hc16
    have hR := return_ok R.s X.Ad X.Ar X.cd X.cr
    refine Zr (Zm rfl (Zm rfl (Zy (y_nil (Zv rfl)) (Zy (y_field 0 rfl (Zv rfl) Zf) ?_))))
    refine wl_y (y_loadN (vs := R.s.cells (.slice X.Ad R.s.d.length X.cd) (.slice X.Ar R.s.r.length X.cr)) (fun _ => rfl) (fun _ => rfl) (Zv rfl)) (row_cells Zh rfl) rfl ?_
    refine wl_t (t_call rfl (fun _ _ => rfl) (fun w hi => hR w (hi.rdSt (show Has _ (slD R.s X.Ad X.cd) from Zh) (show Has _ (slR R.s X.Ar X.cr) from Zh) (by omega) (by omega)))) rfl ?_
    rintro _ _ ⟨_, ⟨A1, c1, A2, c2, rfl, rfl⟩, rfl⟩
    refine Zy (y_nil (Zv rfl)) (Zy (y_field 0 rfl (Zv rfl) Zf) ?_)
    refine wl_t0 (t_storeRX (ys := runCells (kOf br bu D) ⟨A1, c1, A2, c2⟩ (R.ws R.s.back)) (n := 16) (vs := R.s.back.cells (.slice A1 R.s.back.d.length c1) (.slice A2 R.s.back.r.length c2)) rfl (fun _ => rfl) rfl rfl (allT rfl) Za rfl (by simp only [List.length_cons, List.length_nil]; omega)) ?_
    rintro _ _ ⟨rfl, rfl⟩
    refine Zn (Zo (qok_pick (allF br bu bb L D ⟨A1, c1, A2, c2⟩ Y ⟨R.ws R.s.back, U, d⟩) Zj ?_))
    refine ret0 (cs' := [row _ _ _, slv _ _ _ _ _ _, slv _ _ _ _ _ _, row _ _ _, exC _ _ _ _, row _ _ _, row _ _ _, row _ _ _, row _ _ _, row _ _ _, slv _ _ _ _ _ _, slv _ _ _ _ _ _, row _ _ _, slv _ _ _ _ _ _]) (.inr rfl) Zu rfl ?_
    exact ⟨⟨A1, c1, A2, c2⟩, Y, rfl, rfl⟩
  refine Zs (Zr (Zy (y_eql (Zv rfl) (Zv rfl) rfl) (Zg rfl (Zn (Zt ?_)))))
  refine wc_cond _ rfl (fun hc18 => ?_) (fun hc18 => ?_)
  · obtain rfl := beqZ hc18
    have HG := get_ok (R.s.wcount R.count) (.slice X.Ad R.s.d.length X.cd) (.slice X.Ar R.s.r.length X.cr) nn
    obtain ⟨⟨g, gk⟩, hg⟩ : ∃ q, (R.s.wcount R.count).get nn = q := ⟨_, rfl⟩
    rw [hg] at HG
    have hst : otherTo L.n 66 nn ⟨R, U, d⟩ = ⟨R.push [g], U, d⟩ := (by show Mach.mk (R.push [((R.s.wcount R.count).get nn).1]) U d = _; rw [hg])
    refine Zs (Zr (Zm rfl (Zy (y_nil (Zv rfl)) (Zy (y_field 0 rfl (Zv rfl) Zf) ?_))))
    refine wl_y (y_loadN (vs := R.s.cells (.slice X.Ad R.s.d.length X.cd) (.slice X.Ar R.s.r.length X.cr)) (fun _ => rfl) (fun _ => rfl) (Zv rfl)) (row_cells Zh rfl) rfl ?_
    refine wl_t (t_alloc (fun _ => rfl) rfl) rfl ?_
    rintro _ _ ⟨b4, rfl, rfl⟩
    refine wl_t0 (t_storeN (fun _ => rfl) rfl rfl (allT rfl) Za (by exact rfl)) ?_
    rintro _ _ ⟨rfl, rfl⟩
    refine Zn (Zt (Zs (Zr (Zm rfl (Zy (y_nil (Zv rfl)) (Zy (y_field 16 rfl (Zv rfl) Zf) ?_))))))
    refine Zz rfl ?_
    refine Zy (y_field 14 rfl (Zv rfl) Zf) ?_
    refine wl_t0 (t_store (fun _ => rfl) rfl rfl rfl Za Zp) ?_
    rintro _ _ ⟨rfl, rfl⟩
    refine Zn (Zt (Zs (Zr (wl_loadRow Zh (fun _ => rfl) (fun _ => rfl) (Zv rfl) rfl ?_))))
    refine Zy (y_field 1 rfl (Zv rfl) Zf) ?_
    refine Zz rfl ?_
    refine Zy (y_conv rfl rfl (Zv rfl) Zl) ?_
    refine wl_t (t_call rfl (fun _ _ => rfl) (fun w hi => HG w)) rfl ?_
    rintro _ _ ⟨_, ⟨rfl, rfl⟩, rfl⟩
    refine Zm rfl (Zy (y_extractN (Zv rfl) (.zero _ _)) (Zy (y_extractN (Zv rfl) (.succ _ (.zero _ _))) (Zg rfl (Zg rfl (Zn (Zt (Zr (Zm rfl (Zm rfl (wl_t (t_buildSl1 rfl rfl (fun _ => rfl) (fun _ => rfl) rfl rfl) rfl ?_))))))))))
    rintro _ _ ⟨b70, rfl, rfl⟩
    refine wl_t (t_callS (runF (kOf br bu D) X R) rfl (fun _ _ => rfl) Zi (fun w hi hin => push_ok (kOf br bu D) X R _ 1 1 [g] (by omega) w hin (fun w' hk => hi.rdKs Zi Zh hk))) rfl ?_
    rintro _ _ ⟨_, ⟨A', c', rfl, rfl⟩, rfl⟩
    refine Zn (Zo (qok_pick (allF br bu bb L D ⟨A', c', X.Ar, X.cr⟩ Y ⟨R.wd (R.s.d ++ [g]), U, d⟩) Zj ?_))
    refine ret0 (cs' := [row _ _ _, slv _ _ _ _ _ _, slv _ _ _ _ _ _, row _ _ _, exC _ _ _ _, row _ _ _, row _ _ _, row _ _ _, row _ _ _, row _ _ _, slv _ _ _ _ _ _, slv _ _ _ _ _ _, row _ _ _, slv _ _ _ _ _ _]) (.inr rfl) Zu rfl ?_
    rw [hst]
    exact ⟨⟨A', c', X.Ar, X.cr⟩, Y, rfl, rfl⟩
  refine Zs (Zr (Zy (y_eql (Zv rfl) (Zv rfl) rfl) (Zg rfl (Zn (Zt ?_)))))
  refine wc_cond _ rfl (fun hc23 => ?_) (fun hc23 => ?_)
  · obtain rfl := beqZ hc23
    obtain ⟨R, l, x, rfl⟩ := Run.snoc (show 1 ≤ R.s.d.length from hn)
    obtain ⟨hx1, hx2⟩ := hw x (by simp)
    obtain ⟨va, rfl⟩ : ∃ va : Nat, x = va := Int.eq_ofNat_of_zero_le hx1
    have hva : va ≤ 4294967295 := (by omega)
    have hll : l.length ≤ 100000 := (by have : (l ++ [(va : Int)]).length ≤ 100000 := hdl; simp only [List.length_append, List.length_cons, List.length_nil] at this; omega)
    have HE := set_ok (R.wd l).s X.Ad X.Ar X.cd X.cr nn va
    have hdr := St.set_dr (R.wd l).s nn va
    have hst : otherTo L.n 67 nn ⟨R.wd (l ++ [(va : Int)]), U, d⟩ = ⟨(R.wd l).ws ((R.wd l).s.set nn va).1, bif nn == 1 || nn == 2 then ⟨U.m, tflush⟩ else U, d⟩ := (by show Mach.mk _ _ _ = _; rw [Run.pop_wd, Run.top_wd])
    obtain ⟨⟨⟨pc', d', r', fl', su', pg', ie', rt', ve', ep', ca', ad', es', ei', co', ha'⟩, kn⟩, hq⟩ : ∃ q, (R.wd l).s.set nn va = q := ⟨_, rfl⟩
    rw [hq] at HE hst hdr
    obtain ⟨hd', hr'⟩ := hdr
    have hd' : l = d' := hd'.symm
    have hr' : R.s.r = r' := hr'.symm
    subst hd'
    subst hr'
    refine Zs (Zr (Zm rfl (wl_t (t_callS (runF (kOf br bu D) X (R.wd (l ++ [(va : Int)]))) rfl (fun _ _ => rfl) Zi (fun w hi hin => pop_ok (kOf br bu D) X R l va w hin)) rfl ?_)))
    rintro _ _ ⟨_, ⟨rfl, rfl⟩, rfl⟩
    refine Zg rfl (Zn (Zt (Zs (wc_draw ⟨fun j => List.elem j [15], []⟩ Zk ?_))))
    refine wa_yn 0 rfl Zk Zk Zk (y_move (Zv rfl)) rfl ?_
    refine wa_yn 1 rfl Zk Zk Zk (y_move (Zv rfl)) rfl ?_
    refine wa_yn 2 rfl Zk Zk Zk (y_nil (Zv rfl)) rfl ?_
    refine wa_yn 3 rfl Zk Zk Zk (y_field 0 rfl (Zv rfl) Zf) rfl ?_
    refine wa_ln 4 rfl Zk Zk Zk Zk (y_loadN (vs := (R.wd l).s.cells (.slice X.Ad (R.wd l).s.d.length X.cd) (.slice X.Ar (R.wd l).s.r.length X.cr)) (fun _ => rfl) (fun _ => rfl) (Zv rfl)) (row_cells Zh rfl) rfl ?_
    refine wa_yn 5 rfl Zk Zk Zk (y_field 1 rfl (Zv rfl) Zf) rfl ?_
    refine wa_ln 6 rfl Zk Zk Zk Zk (y_load (fun _ => rfl) (Zv rfl)) (row_cell Zh rfl) rfl ?_
    refine wa_yn 7 rfl Zk Zk Zk (y_conv rfl rfl (Zv rfl) Zl) rfl ?_
    refine wa_yn 8 rfl Zk Zk Zk (y_move (Zv rfl)) rfl ?_
    refine wa_1 9 Zk ?_
    refine wi_t rfl rfl (t_call rfl (fun _ _ => rfl) (fun w hi => HE w (hi.rdSt (show Has _ (slD (R.wd l).s X.Ad X.cd) from Zh) (show Has _ (slR (R.wd l).s X.Ar X.cr) from Zh) (by show l.length * 4 ≤ _; omega) (by show R.s.r.length * 4 ≤ _; have : R.s.r.length ≤ 100000 := hrl; omega)))) (fun _ _ _ _ _ _ _ h => by cases h) rfl ?_
    rintro _ _ ⟨_, ⟨A1, c1, A2, c2, rfl, rfl⟩, rfl⟩
    refine wa_yn 10 rfl Zk Zk Zk (y_move (Zv rfl)) rfl ?_
    refine wa_yn 11 rfl Zk Zk Zk (y_extractN (Zv rfl) (.zero _ _)) rfl ?_
    refine wa_yn 12 rfl Zk Zk Zk (y_extractN (Zv rfl) (.succ _ (.zero _ _))) rfl ?_
    refine wa_yn 13 rfl Zk Zk Zk (y_nil (Zv rfl)) rfl ?_
    refine wa_yn 14 rfl Zk Zk Zk (y_field 0 rfl (Zv rfl) Zf) rfl ?_
    refine wa_1 15 Zk ?_
    refine wi_t0 rfl rfl (t_storeRX (ys := runCells (kOf br bu D) ⟨A1, c1, A2, c2⟩ ((R.wd l).ws ⟨pc', l, R.s.r, fl', su', pg', ie', rt', ve', ep', ca', ad', es', ei', co', ha'⟩)) (n := 16) (vs := (St.mk pc' l R.s.r fl' su' pg' ie' rt' ve' ep' ca' ad' es' ei' co' ha').cells (.slice A1 l.length c1) (.slice A2 R.s.r.length c2)) rfl (fun _ => rfl) rfl rfl (allT rfl) Za rfl (by simp only [List.length_cons, List.length_nil]; omega)) (fun _ _ _ _ _ _ _ h => by cases h) ?_
    rintro _ _ ⟨rfl, rfl⟩
    refine wa_done Zk ?_
    refine Zt (Zs (Zr (Zy (y_field 1 rfl (Zv rfl) Zf) ?_)))
    refine Zz rfl ?_
    refine Zy (y_eql (Zv rfl) (Zv rfl) rfl) (Zm rfl (Zyn rfl rfl (y_field 1 rfl (Zv rfl) Zf) ?_))
    refine wl_yg (guard_no rfl rfl) (y_load (fun _ => rfl) (ev_g rfl)) (row_cell Zh rfl) rfl ?_
    refine Zyn rfl rfl (y_eql (ev_g rfl) (Zv rfl) rfl) ?_
    refine Zy (y_or (Zv rfl) (pk_no rfl (fun _ => rfl))) (Zm rfl (Zyy rfl rfl (y_move (Zv rfl)) ?_))
    refine Zyy rfl rfl (y_nil (ev_g rfl)) ?_
    refine Zyy rfl rfl (y_field 17 rfl (ev_g rfl) Zf) ?_
    refine wl_yg (guard_yes rfl rfl) (y_load (fun _ => rfl) (ev_g rfl)) (row_cell Zh rfl) rfl ?_
    refine Zyy rfl rfl (y_pnn rfl (ev_g rfl)) ?_
    refine Zy (y_and (Zv rfl) (pk_yes rfl (fun _ => rfl))) (Zn (Zt ?_))
    refine wc_cond _ rfl (fun hc26 => ?_) (fun hc26 => ?_)
    · have h12 : (nn == 1 || nn == 2) = true := (by simpa using hc26)
      refine Zr (Zm rfl (Zy (y_nil (Zv rfl)) (Zy (y_field 17 rfl (Zv rfl) Zf) ?_)))
      refine Zz rfl ?_
      refine wl_t (t_callS (uF bu bb L U) rfl (fun _ _ => rfl) Zi (fun w hi hin => uflush_ok bu bb L U hT w hin)) rfl ?_
      rintro _ _ ⟨_, ⟨rfl, rfl⟩, rfl⟩
      refine Zn (Zo (qok_pick (allF br bu bb L D ⟨A1, c1, A2, c2⟩ Y ⟨((R.wd l).ws ⟨pc', l, R.s.r, fl', su', pg', ie', rt', ve', ep', ca', ad', es', ei', co', ha'⟩), ⟨U.m, tflush⟩, d⟩) Zj ?_))
      refine ret0 (cs' := [row _ _ _, slv _ _ _ _ _ _, slv _ _ _ _ _ _, row _ _ _, exC _ _ _ _, row _ _ _, row _ _ _, row _ _ _, row _ _ _, row _ _ _, slv _ _ _ _ _ _, slv _ _ _ _ _ _, row _ _ _, slv _ _ _ _ _ _]) (.inr rfl) Zu rfl ?_
      rw [hst, condT h12]
      exact ⟨⟨A1, c1, A2, c2⟩, Y, rfl, rfl⟩
    have h12 : (nn == 1 || nn == 2) = false := (by simpa using hc26)
    refine Zc (Zo (qok_pick (allF br bu bb L D ⟨A1, c1, A2, c2⟩ Y ⟨((R.wd l).ws ⟨pc', l, R.s.r, fl', su', pg', ie', rt', ve', ep', ca', ad', es', ei', co', ha'⟩), U, d⟩) Zj ?_))
    refine ret0 (cs' := [row _ _ _, slv _ _ _ _ _ _, slv _ _ _ _ _ _, row _ _ _, exC _ _ _ _, row _ _ _, row _ _ _, row _ _ _, row _ _ _, row _ _ _, slv _ _ _ _ _ _, slv _ _ _ _ _ _, row _ _ _, slv _ _ _ _ _ _]) (.inr rfl) Zu rfl ?_
    rw [hst, condF h12]
    exact ⟨⟨A1, c1, A2, c2⟩, Y, rfl, rfl⟩
  refine Zs (Zr (Zy (y_eql (Zv rfl) (Zv rfl) rfl) (Zg rfl (Zn (Zt ?_)))))
  refine wc_cond _ rfl (fun hc28 => ?_) (fun hc28 => ?_)
  · obtain rfl := beqZ hc28
    obtain ⟨R, l, x, rfl⟩ := Run.snoc (show 1 ≤ R.s.d.length from hn)
    obtain ⟨hx1, hx2⟩ := hw x (by simp)
    obtain ⟨va, rfl⟩ : ∃ va : Nat, x = va := Int.eq_ofNat_of_zero_le hx1
    have hva : va ≤ 4294967295 := (by omega)
    have hll : l.length ≤ 100000 := (by have : (l ++ [(va : Int)]).length ≤ 100000 := hdl; simp only [List.length_append, List.length_cons, List.length_nil] at this; omega)
    have hst : otherTo L.n 68 nn ⟨R.wd (l ++ [(va : Int)]), U, d⟩ = ⟨R.wd l, ⟨U.m, tdrop U.t va⟩, d⟩ := (by show Mach.mk _ _ _ = _; rw [Run.pop_wd, Run.top_wd]; rfl)
    refine Zs (Zr (Zm rfl (wl_t (t_callS (runF (kOf br bu D) X (R.wd (l ++ [(va : Int)]))) rfl (fun _ _ => rfl) Zi (fun w hi hin => pop_ok (kOf br bu D) X R l va w hin)) rfl ?_)))
    rintro _ _ ⟨_, ⟨rfl, rfl⟩, rfl⟩
    refine Zg rfl (Zn (Zt (Zs (Zr (Zm rfl (Zy (y_nil (Zv rfl)) (Zy (y_field 17 rfl (Zv rfl) Zf) ?_)))))))
    refine Zz rfl ?_
    refine Zy (y_pnn rfl (Zv rfl)) (Zn (Zt ?_))
    refine wc_cond _ rfl (fun hc30 => ?_) (fun hc30 => ?_)
    · refine Zr (Zm rfl (Zy (y_nil (Zv rfl)) (Zy (y_field 17 rfl (Zv rfl) Zf) ?_)))
      refine Zz rfl ?_
      refine Zm rfl (wl_t (t_callS (uF bu bb L U) rfl (fun _ _ => rfl) Zi (fun w hi hin => udrop_ok bu bb L U hT va hva w hin)) rfl ?_)
      rintro _ _ ⟨_, ⟨rfl, rfl⟩, rfl⟩
      refine Zn (Zo (qok_pick (allF br bu bb L D X Y ⟨R.wd l, ⟨U.m, tdrop U.t va⟩, d⟩) Zj ?_))
      refine ret0 (cs' := [row _ _ _, slv _ _ _ _ _ _, slv _ _ _ _ _ _, row _ _ _, exC _ _ _ _, row _ _ _, row _ _ _, row _ _ _, row _ _ _, row _ _ _, slv _ _ _ _ _ _, slv _ _ _ _ _ _, row _ _ _, slv _ _ _ _ _ _]) (.inr rfl) Zu rfl ?_
      rw [hst]
      exact ⟨X, Y, rfl, rfl⟩
    exact absurd hc30 (by simp)
  refine Zs (Zr (Zy (y_eql (Zv rfl) (Zv rfl) rfl) (Zg rfl (Zn (Zt ?_)))))
  refine wc_cond _ rfl (fun hc32 => ?_) (fun hc32 => ?_)
  · obtain rfl := beqZ hc32
    refine Zr (Zm rfl (Zy (y_nil (Zv rfl)) (Zy (y_field 0 rfl (Zv rfl) Zf) ?_)))
    refine Zy (y_field 15 rfl (Zv rfl) Zf) ?_
    refine wl_t0 (t_store (fun _ => rfl) rfl rfl rfl Za Zp) ?_
    rintro _ _ ⟨rfl, rfl⟩
    refine Zn (Zo (qok_pick (allF br bu bb L D X Y ⟨R.ws R.s.halt, U, d⟩) Zj ?_))
    refine ret0 (cs' := [row _ _ _, slv _ _ _ _ _ _, slv _ _ _ _ _ _, row _ _ _, exC _ _ _ _, row _ _ _, row _ _ _, row _ _ _, row _ _ _, row _ _ _, slv _ _ _ _ _ _, slv _ _ _ _ _ _, row _ _ _, slv _ _ _ _ _ _]) (.inr rfl) Zu rfl ?_
    exact ⟨X, Y, rfl, rfl⟩
  have hst : otherTo L.n op nn ⟨R, U, d⟩ = ⟨R, U, d⟩ := (by simp only [otherTo, *, cond_false])
  refine Zc (Zo (qok_pick (allF br bu bb L D X Y ⟨R, U, d⟩) Zj ?_))
  refine ret0 (cs' := [row _ _ _, slv _ _ _ _ _ _, slv _ _ _ _ _ _, row _ _ _, exC _ _ _ _, row _ _ _, row _ _ _, row _ _ _, row _ _ _, row _ _ _, slv _ _ _ _ _ _, slv _ _ _ _ _ _, row _ _ _, slv _ _ _ _ _ _]) (.inr rfl) Zu rfl ?_
  rw [hst]
  exact ⟨X, Y, rfl, rfl⟩
end Go.Proofs.YtobjiljkfmcalaaGreat
