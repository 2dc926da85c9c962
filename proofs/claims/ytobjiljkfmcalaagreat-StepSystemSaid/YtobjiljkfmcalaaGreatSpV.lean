/- An instruction that is being done: loads and stores. -/
import Derived.Test.YtobjiljkfmcalaaGreatSpU
import Derived.Test.YtobjiljkfmcalaaGreatInkS
set_option linter.unusedSimpArgs false
set_option linter.unusedVariables false
set_option maxRecDepth 100000
namespace Go.Ink
open Go.RowKit
theorem wholeTo_s (n : Nat) (R : Run) (U : Mmu) (va : Nat) (kind : Int) : (wholeTo n R U va kind).r.s = R.s := by unfold wholeTo; exact cond_all (fun W : Whole => W.r.s = R.s) rfl rfl
theorem wholeTo_c (n : Nat) (R : Run) (U : Mmu) (va : Nat) (kind : Int) : (wholeTo n R U va kind).r.count = R.count := by unfold wholeTo; exact cond_all (fun W : Whole => W.r.count = R.count) rfl rfl
theorem wholeTo_len (n : Nat) (R : Run) (U : Mmu) (va : Nat) (kind : Int) : (wholeTo n R U va kind).u.t.length = U.t.length := by unfold wholeTo; exact cond_all (fun W : Whole => W.u.t.length = U.t.length) rfl (placeTo_len ..)
theorem wholeTo_u (n : Nat) (R : Run) (U : Mmu) (va : Nat) (hva : va ≤ 4294967295) (kind : Int) : u32 (wholeTo n R U va kind).p := by unfold wholeTo; exact cond_all (fun W : Whole => u32 W.p) (show u32 0 from ⟨by decide, by decide⟩) (placeTo_fact n U R.sp va hva kind).1
theorem wholeTo_in (n : Nat) (hn : n ≤ 64) (R : Run) (U : Mmu) (va : Nat) (hva : va ≤ 4294967295) (kind : Int) (hk : (wholeTo n R U va kind).ok = true) (hd : (wholeTo n R U va kind).r.device = false) : (wholeTo n R U va kind).p.toNat + 4 ≤ n * 64 := by
  obtain ⟨hu, hp⟩ := placeTo_fact n U R.sp va hva kind
  unfold wholeTo at hk hd ⊢
  cases hm : (((va % 4 : Nat) : Int) != 0) with
  | true => rw [hm] at hk; cases hk
  | false =>
    rw [hm] at hk hd
    simp only [cond_false] at hk hd ⊢
    rw [hk] at hd
    simp only [Bool.true_and, decide_eq_false_iff_not] at hd
    have hc := hp (by simpa using hk)
    have h4 : va % 4 = 0 := by
      have : ((va % 4 : Nat) : Int) = 0 := by simpa using hm
      omega
    have h1 := hc.m
    have h2 := hu.1
    rcases hc.r with h3 | h3
    · omega
    simp only [isDev, Bool.and_eq_true, decide_eq_true_eq] at h3
    omega
theorem condT {α : Type} {c : Bool} {x y : α} (h : c = true) : (bif c then x else y) = x := by rw [h]; rfl
theorem condF {α : Type} {c : Bool} {x y : α} (h : c = false) : (bif c then x else y) = y := by rw [h]; rfl
def wordOf (n : Nat) (M : Mem) (a : Nat) : Int × Bool := bif decide (a + 4 ≤ n * 64) then (wordAt M.data a, true) else (0, false)
structure Mach where
  r : Run
  u : Mmu
  d : Dev
def lodeIn (W : Whole) (d : Dev) (va : Nat) (v : Int) (o : Bool) : Mach := ⟨(bif !o then W.r.wt ⟨10, va⟩ else W.r).push [v], W.u, d⟩
/-- What an Ld does, once its address is off the stack. -/
def lodeTo (n : Nat) (R : Run) (U : Mmu) (d : Dev) (va : Nat) : Mach :=
  bif !(wholeTo n R U va 2).ok then ⟨(wholeTo n R U va 2).r, (wholeTo n R U va 2).u, d⟩ else
  bif (wholeTo n R U va 2).r.device then lodeIn (wholeTo n R U va 2) (devLoad d (devK (wholeTo n R U va 2).p.toNat) (wholeTo n R U va 2).r.count).2 va (devLoad d (devK (wholeTo n R U va 2).p.toNat) (wholeTo n R U va 2).r.count).1.1 (devLoad d (devK (wholeTo n R U va 2).p.toNat) (wholeTo n R U va 2).r.count).1.2
  else lodeIn (wholeTo n R U va 2) d va (wordOf n (wholeTo n R U va 2).u.m (wholeTo n R U va 2).p.toNat).1 (wordOf n (wholeTo n R U va 2).u.m (wholeTo n R U va 2).p.toNat).2
/-- What an St does, once its address and its word are off the stack. -/
def stowTo (n : Nat) (R : Run) (U : Mmu) (d : Dev) (va v : Nat) : Mach :=
  bif !(wholeTo n R U va 3).ok then ⟨(wholeTo n R U va 3).r, (wholeTo n R U va 3).u, d⟩ else
  bif (wholeTo n R U va 3).r.device then
    ⟨bif !(devStore n (wholeTo n R U va 3).u.m d (devK (wholeTo n R U va 3).p.toNat) v).1 then (wholeTo n R U va 3).r.wt ⟨10, va⟩ else (wholeTo n R U va 3).r, ⟨(devStore n (wholeTo n R U va 3).u.m d (devK (wholeTo n R U va 3).p.toNat) v).2.1, (wholeTo n R U va 3).u.t⟩, (devStore n (wholeTo n R U va 3).u.m d (devK (wholeTo n R U va 3).p.toNat) v).2.2⟩
  else ⟨(wholeTo n R U va 3).r, ⟨(wholeTo n R U va 3).u.m.putW (wholeTo n R U va 3).p.toNat v, (wholeTo n R U va 3).u.t⟩, d⟩
end Go.Ink
namespace Go.Proofs.YtobjiljkfmcalaaGreat
open Go.RowKit Go.Ink

theorem wordV_of (L : MLoc) (M : Mem) (a : Nat) : wordV L M a = .tuple #[.int .u32 (wordOf L.n M a).1, .bool (wordOf L.n M a).2] := by
  unfold wordV wordOf
  cases decide (a + 4 ≤ L.n * 64) <;> rfl
abbrev allF (br bu bb : Nat) (L : MLoc) (D : DLoc) (X : SAdr) (Y : DAdr) (m : Mach) : List Chunk := runF (kOf br bu D) X m.r ++ uF bu bb L m.u ++ busF D L.bm Y m.d
set_option maxHeartbeats 2000000 in
theorem lode_ok (br bu bb : Nat) (L : MLoc) (D : DLoc) (X : SAdr) (Y : DAdr) (R : Run) (U : Mmu) (d : Dev) (l : List Int) (va : Nat) (hva : va ≤ 4294967295) (hl : l.length ≤ 100000) (hT : U.t.length = 16) (hroot : u32 R.s.root) (hd : d.wf)
    (w : World) (hi : Inv w (blocks (allF br bu bb L D X Y ⟨R.wd (l ++ [(va : Int)]), U, d⟩)) (allF br bu bb L D X Y ⟨R.wd (l ++ [(va : Int)]), U, d⟩) w) :
    Ctr Tryz.prog 85 [.pointer (some ⟨br, 0, none⟩)] w (allF br bu bb L D X Y ⟨R.wd (l ++ [(va : Int)]), U, d⟩) (fun v cs => ∃ X' Y', v = .tuple #[] ∧ cs = allF br bu bb L D X' Y' (lodeTo L.n (R.wd l) U d va)) := by
  have HW := fun X => whole_ok br bu bb L D X (R.wd l) U hT hroot va hva 2
  have hs := wholeTo_s L.n (R.wd l) U va 2
  have hu := wholeTo_u L.n (R.wd l) U va hva 2
  unfold lodeTo
  obtain ⟨⟨p, ok, r, u⟩, hq⟩ : ∃ q, wholeTo L.n (R.wd l) U va 2 = q := ⟨_, rfl⟩
  rw [hq] at HW hs hu ⊢
  obtain ⟨pn, rfl⟩ : ∃ pn : Nat, p = pn := Int.eq_ofNat_of_zero_le hu.1
  have hpn : pn ≤ 4294967295 := by have : (pn : Int) ≤ _ := hu.2; omega
  have hs : r.s = (R.wd l).s := hs
  have hdl : r.s.d.length ≤ 100000 := by rw [hs]; exact hl
  simp only [Int.toNat_natCast]
  have HB := fun X => busload_ok D L.bm X d hd pn r.count
  obtain ⟨⟨⟨v, o⟩, d'⟩, hq2⟩ : ∃ q, devLoad d (devK pn) r.count = q := ⟨_, rfl⟩
  rw [hq2] at HB ⊢
  have HM := fun w h => rword_ok L u.m pn hpn w h
  rw [wordV_of] at HM
  obtain ⟨⟨v2, o2⟩, hq3⟩ : ∃ q, wordOf L.n u.m pn = q := ⟨_, rfl⟩
  rw [hq3] at HM ⊢
  refine fn_ctr Tryz.func85 rfl Tryz.ntmps85 rfl hi ?_
  refine Zs (Zr (Zm rfl (wl_t (t_callS (runF (kOf br bu D) X (R.wd (l ++ [(va : Int)]))) rfl (fun _ _ => rfl) Zi (fun w hi hin => pop_ok (kOf br bu D) X R l va w hin)) rfl ?_)))
  rintro _ _ ⟨_, ⟨rfl, rfl⟩, rfl⟩
  refine Zg rfl (Zn (Zt (Zs (Zr (Zm rfl (Zm rfl (wl_t (t_callS (runF (kOf br bu D) X (R.wd l) ++ uF bu bb L U) rfl (fun _ _ => rfl) Zi (fun w hi hin => HW X w hin)) rfl ?_)))))))
  rintro _ _ ⟨_, ⟨rfl, rfl⟩, rfl⟩
  refine Zm rfl (Zy (y_extractN (Zv rfl) (.zero _ _)) (Zy (y_extractN (Zv rfl) (.succ _ (.zero _ _))) (Zg rfl (Zg rfl (Zn (Zt (Zs (Zs (Zr (Zm rfl (Zy (y_not (Zv rfl) rfl) (Zn (Zt ?_)))))))))))))
  refine wc_cond _ rfl (fun hc2 => ?_) (fun hc2 => ?_)
  · refine Ze (Zw (qok_pick (allF br bu bb L D X Y ⟨r, u, d⟩) Zj ?_))
    refine ret0 (cs' := [row _ _ _, slv _ _ _ _ _ _, slv _ _ _ _ _ _, row _ _ _, exC _ _ _ _, row _ _ _, row _ _ _, row _ _ _, row _ _ _, row _ _ _, slv _ _ _ _ _ _, slv _ _ _ _ _ _, row _ _ _, slv _ _ _ _ _ _]) (.inl rfl) Zu rfl ?_
    rw [hc2]
    exact ⟨X, Y, rfl, rfl⟩
  refine Zc (Zt (Zs (Zr (Zg rfl (Zn (Zt (Zs (Zs (Zr (Zm rfl (Zy (y_nil (Zv rfl)) (Zy (y_field 21 rfl (Zv rfl) Zf) ?_))))))))))))
  refine Zz rfl ?_
  refine Zn (Zt ?_)
  refine wc_cond _ rfl (fun hc4 => ?_) (fun hc4 => ?_)
  · refine wc_draw ⟨fun j => List.elem j [9], []⟩ Zk ?_
    refine wa_yn 0 rfl Zk Zk Zk (y_move (Zv rfl)) rfl ?_
    refine wa_yn 1 rfl Zk Zk Zk (y_nil (Zv rfl)) rfl ?_
    refine wa_yn 2 rfl Zk Zk Zk (y_field 18 rfl (Zv rfl) Zf) rfl ?_
    refine wa_ln 3 rfl Zk Zk Zk Zk (y_load (fun _ => rfl) (Zv rfl)) (row_cell Zh rfl) rfl ?_
    refine wa_yn 4 rfl Zk Zk Zk (y_move (Zv rfl)) rfl ?_
    refine wa_yn 5 rfl Zk Zk Zk (y_move (Zv rfl)) rfl ?_
    refine wa_yn 6 rfl Zk Zk Zk (y_nil (Zv rfl)) rfl ?_
    refine wa_yn 7 rfl Zk Zk Zk (y_field 16 rfl (Zv rfl) Zf) rfl ?_
    refine wa_ln 8 rfl Zk Zk Zk Zk (y_load (fun _ => rfl) (Zv rfl)) (row_cell Zh rfl) rfl ?_
    refine wa_1 9 Zk ?_
    refine wi_t rfl rfl (t_callS (busF D L.bm Y d) rfl (fun _ _ => rfl) Zi (fun w hi hin => HB Y w hin)) (fun _ _ _ _ _ _ _ h => by cases h) rfl ?_
    rintro _ _ ⟨_, ⟨Y', rfl, rfl⟩, rfl⟩
    refine wa_yn 10 rfl Zk Zk Zk (y_move (Zv rfl)) rfl ?_
    refine wa_yn 11 rfl Zk Zk Zk (y_extractN (Zv rfl) (.zero _ _)) rfl ?_
    refine wa_yn 12 rfl Zk Zk Zk (y_extractN (Zv rfl) (.succ _ (.zero _ _))) rfl ?_
    refine wa_yn 13 rfl Zk Zk Zk (y_assign (Zv rfl)) rfl ?_
    refine wa_yn 14 rfl Zk Zk Zk (y_assign (Zv rfl)) rfl ?_
    refine wa_done Zk ?_
    refine Zt (Zs (Zs (Zr (Zm rfl (Zy (y_not (Zv rfl) rfl) (Zn (Zt ?_)))))))
    refine wc_cond _ rfl (fun hc7 => ?_) (fun hc7 => ?_)
    · refine Zr (Zm rfl (Zm rfl (wl_t (t_callS (runF (kOf br bu D) X r) rfl (fun _ _ => rfl) Zi (fun w hi hin => fail_ok (kOf br bu D) X r 10 va w hin)) rfl ?_)))
      rintro _ _ ⟨_, ⟨rfl, rfl⟩, rfl⟩
      refine Zn (Zt (Zr (Zm rfl (Zm rfl (wl_t (t_buildSl1 rfl rfl (fun _ => rfl) (fun _ => rfl) rfl rfl) rfl ?_)))))
      rintro _ _ ⟨b50, rfl, rfl⟩
      refine wl_t (t_callS (runF (kOf br bu D) X (r.wt ⟨10, va⟩)) rfl (fun _ _ => rfl) Zi (fun w hi hin => push_ok (kOf br bu D) X (r.wt ⟨10, va⟩) _ 1 1 [v] (show r.s.d.length + 1 ≤ 1000000 by omega) w hin (fun w' hk => hi.rdKs Zi Zh hk))) rfl ?_
      rintro _ _ ⟨_, ⟨A', c', rfl, rfl⟩, rfl⟩
      refine Zn (qok_pick (allF br bu bb L D ⟨A', c', X.Ar, X.cr⟩ Y' ⟨(r.wt ⟨10, va⟩).wd (r.s.d ++ [v]), u, d'⟩) Zj ?_)
      refine ret0 (cs' := [row _ _ _, slv _ _ _ _ _ _, slv _ _ _ _ _ _, row _ _ _, exC _ _ _ _, row _ _ _, row _ _ _, row _ _ _, row _ _ _, row _ _ _, slv _ _ _ _ _ _, slv _ _ _ _ _ _, row _ _ _, slv _ _ _ _ _ _]) (.inr rfl) Zu rfl ?_
      rw [condF hc2, condT hc4, lodeIn, condT hc7]
      exact ⟨⟨A', c', X.Ar, X.cr⟩, Y', rfl, rfl⟩
    refine Zc (Zt (Zr (Zm rfl (Zm rfl (wl_t (t_buildSl1 rfl rfl (fun _ => rfl) (fun _ => rfl) rfl rfl) rfl ?_)))))
    rintro _ _ ⟨b50, rfl, rfl⟩
    refine wl_t (t_callS (runF (kOf br bu D) X r) rfl (fun _ _ => rfl) Zi (fun w hi hin => push_ok (kOf br bu D) X r _ 1 1 [v] (show r.s.d.length + 1 ≤ 1000000 by omega) w hin (fun w' hk => hi.rdKs Zi Zh hk))) rfl ?_
    rintro _ _ ⟨_, ⟨A', c', rfl, rfl⟩, rfl⟩
    refine Zn (qok_pick (allF br bu bb L D ⟨A', c', X.Ar, X.cr⟩ Y' ⟨r.wd (r.s.d ++ [v]), u, d'⟩) Zj ?_)
    refine ret0 (cs' := [row _ _ _, slv _ _ _ _ _ _, slv _ _ _ _ _ _, row _ _ _, exC _ _ _ _, row _ _ _, row _ _ _, row _ _ _, row _ _ _, row _ _ _, slv _ _ _ _ _ _, slv _ _ _ _ _ _, row _ _ _, slv _ _ _ _ _ _]) (.inr rfl) Zu rfl ?_
    rw [condF hc2, condT hc4, lodeIn, condF hc7]
    exact ⟨⟨A', c', X.Ar, X.cr⟩, Y', rfl, rfl⟩
  refine Zr (Zm rfl (Zy (y_nil (Zv rfl)) (Zy (y_field 17 rfl (Zv rfl) Zf) ?_)))
  refine Zz rfl ?_
  refine wl_t (t_call rfl (fun _ _ => rfl) (fun w hi => umem_ok bu L.bm bb w (hi.get Zh))) rfl ?_
  rintro _ _ ⟨_, ⟨rfl, rfl⟩, rfl⟩
  refine Zm rfl (wl_t (t_call rfl (fun _ _ => rfl) (fun w hi => HM w (hi.get Zh))) rfl ?_)
  rintro _ _ ⟨_, ⟨rfl, rfl⟩, rfl⟩
  refine Zm rfl (Zy (y_extractN (Zv rfl) (.zero _ _)) (Zy (y_extractN (Zv rfl) (.succ _ (.zero _ _))) (Zg rfl (Zg rfl (Zn (Zt (Zs (Zs (Zr (Zm rfl (Zy (y_not (Zv rfl) rfl) (Zn (Zt ?_)))))))))))))
  refine wc_cond _ rfl (fun hc7 => ?_) (fun hc7 => ?_)
  · refine Zr (Zm rfl (Zm rfl (wl_t (t_callS (runF (kOf br bu D) X r) rfl (fun _ _ => rfl) Zi (fun w hi hin => fail_ok (kOf br bu D) X r 10 va w hin)) rfl ?_)))
    rintro _ _ ⟨_, ⟨rfl, rfl⟩, rfl⟩
    refine Zn (Zt (Zr (Zm rfl (Zm rfl (wl_t (t_buildSl1 rfl rfl (fun _ => rfl) (fun _ => rfl) rfl rfl) rfl ?_)))))
    rintro _ _ ⟨b50, rfl, rfl⟩
    refine wl_t (t_callS (runF (kOf br bu D) X (r.wt ⟨10, va⟩)) rfl (fun _ _ => rfl) Zi (fun w hi hin => push_ok (kOf br bu D) X (r.wt ⟨10, va⟩) _ 1 1 [v2] (show r.s.d.length + 1 ≤ 1000000 by omega) w hin (fun w' hk => hi.rdKs Zi Zh hk))) rfl ?_
    rintro _ _ ⟨_, ⟨A', c', rfl, rfl⟩, rfl⟩
    refine Zn (qok_pick (allF br bu bb L D ⟨A', c', X.Ar, X.cr⟩ Y ⟨(r.wt ⟨10, va⟩).wd (r.s.d ++ [v2]), u, d⟩) Zj ?_)
    refine ret0 (cs' := [row _ _ _, slv _ _ _ _ _ _, slv _ _ _ _ _ _, row _ _ _, exC _ _ _ _, row _ _ _, row _ _ _, row _ _ _, row _ _ _, row _ _ _, slv _ _ _ _ _ _, slv _ _ _ _ _ _, row _ _ _, slv _ _ _ _ _ _]) (.inr rfl) Zu rfl ?_
    rw [condF hc2, condF hc4, lodeIn, condT hc7]
    exact ⟨⟨A', c', X.Ar, X.cr⟩, Y, rfl, rfl⟩
  refine Zc (Zt (Zr (Zm rfl (Zm rfl (wl_t (t_buildSl1 rfl rfl (fun _ => rfl) (fun _ => rfl) rfl rfl) rfl ?_)))))
  rintro _ _ ⟨b50, rfl, rfl⟩
  refine wl_t (t_callS (runF (kOf br bu D) X r) rfl (fun _ _ => rfl) Zi (fun w hi hin => push_ok (kOf br bu D) X r _ 1 1 [v2] (show r.s.d.length + 1 ≤ 1000000 by omega) w hin (fun w' hk => hi.rdKs Zi Zh hk))) rfl ?_
  rintro _ _ ⟨_, ⟨A', c', rfl, rfl⟩, rfl⟩
  refine Zn (qok_pick (allF br bu bb L D ⟨A', c', X.Ar, X.cr⟩ Y ⟨r.wd (r.s.d ++ [v2]), u, d⟩) Zj ?_)
  refine ret0 (cs' := [row _ _ _, slv _ _ _ _ _ _, slv _ _ _ _ _ _, row _ _ _, exC _ _ _ _, row _ _ _, row _ _ _, row _ _ _, row _ _ _, row _ _ _, slv _ _ _ _ _ _, slv _ _ _ _ _ _, row _ _ _, slv _ _ _ _ _ _]) (.inr rfl) Zu rfl ?_
  rw [condF hc2, condF hc4, lodeIn, condF hc7]
  exact ⟨⟨A', c', X.Ar, X.cr⟩, Y, rfl, rfl⟩
set_option maxHeartbeats 2000000 in
theorem stow_ok (br bu bb : Nat) (L : MLoc) (D : DLoc) (X : SAdr) (Y : DAdr) (R : Run) (U : Mmu) (d : Dev) (l : List Int) (va v : Nat) (hva : va ≤ 4294967295) (hv : v ≤ 4294967295) (hT : U.t.length = 16) (hroot : u32 R.s.root) (hd : d.wf) (ho : d.out.length ≤ 1000000000)
    (w : World) (hi : Inv w (blocks (allF br bu bb L D X Y ⟨R.wd ((l ++ [(v : Int)]) ++ [(va : Int)]), U, d⟩)) (allF br bu bb L D X Y ⟨R.wd ((l ++ [(v : Int)]) ++ [(va : Int)]), U, d⟩) w) :
    Ctr Tryz.prog 86 [.pointer (some ⟨br, 0, none⟩)] w (allF br bu bb L D X Y ⟨R.wd ((l ++ [(v : Int)]) ++ [(va : Int)]), U, d⟩) (fun x cs => ∃ Y', x = .tuple #[] ∧ cs = allF br bu bb L D X Y' (stowTo L.n (R.wd l) U d va v)) := by
  have HW := whole_ok br bu bb L D X (R.wd l) U hT hroot va hva 3
  have hu := wholeTo_u L.n (R.wd l) U va hva 3
  obtain ⟨n1, n64, _⟩ := mem_n (hi.ok (memC L U.m) (by simp))
  have hin4 := wholeTo_in L.n n64 (R.wd l) U va hva 3
  unfold stowTo
  obtain ⟨⟨p, ok, r, u⟩, hq⟩ : ∃ q, wholeTo L.n (R.wd l) U va 3 = q := ⟨_, rfl⟩
  rw [hq] at HW hu hin4 ⊢
  obtain ⟨pn, rfl⟩ : ∃ pn : Nat, p = pn := Int.eq_ofNat_of_zero_le hu.1
  have hpn : pn ≤ 4294967295 := by have : (pn : Int) ≤ _ := hu.2; omega
  obtain ⟨um, ut⟩ := u
  simp only [Int.toNat_natCast] at hin4 ⊢
  have HB := busstore_ok D L um Y d hd ho pn v r.count
  obtain ⟨⟨o, M', d'⟩, hq2⟩ : ∃ q, devStore L.n um d (devK pn) v = q := ⟨_, rfl⟩
  rw [hq2] at HB ⊢
  have HM := fun h => rputword_ok L um pn v h ⟨by omega, by omega⟩
  obtain ⟨M2, hq3⟩ : ∃ q, um.putW pn v = q := ⟨_, rfl⟩
  rw [hq3] at HM ⊢
  obtain ⟨tt, htt⟩ : ∃ t : Bool, t = true := ⟨_, rfl⟩
  rw [← htt] at HM
  refine fn_ctr Tryz.func86 rfl Tryz.ntmps86 rfl hi ?_
  refine Zs (Zr (Zm rfl (wl_t (t_callS (runF (kOf br bu D) X (R.wd ((l ++ [(v : Int)]) ++ [(va : Int)]))) rfl (fun _ _ => rfl) Zi (fun w hi hin => pop_ok (kOf br bu D) X R (l ++ [(v : Int)]) va w hin)) rfl ?_)))
  rintro _ _ ⟨_, ⟨rfl, rfl⟩, rfl⟩
  refine Zg rfl (Zn (Zt (Zs (Zr (Zm rfl (wl_t (t_callS (runF (kOf br bu D) X (R.wd (l ++ [(v : Int)]))) rfl (fun _ _ => rfl) Zi (fun w hi hin => pop_ok (kOf br bu D) X R l v w hin)) rfl ?_))))))
  rintro _ _ ⟨_, ⟨rfl, rfl⟩, rfl⟩
  refine Zg rfl (Zn (Zt (Zs (Zr (Zm rfl (Zm rfl (wl_t (t_callS (runF (kOf br bu D) X (R.wd l) ++ uF bu bb L U) rfl (fun _ _ => rfl) Zi (fun w hi hin => HW w hin)) rfl ?_)))))))
  rintro _ _ ⟨_, ⟨rfl, rfl⟩, rfl⟩
  refine Zm rfl (Zy (y_extractN (Zv rfl) (.zero _ _)) (Zy (y_extractN (Zv rfl) (.succ _ (.zero _ _))) (Zg rfl (Zg rfl (Zn (Zt (Zs (Zs (Zr (Zm rfl (Zy (y_not (Zv rfl) rfl) (Zn (Zt ?_)))))))))))))
  refine wc_cond _ rfl (fun hc3 => ?_) (fun hc3 => ?_)
  · refine Ze (Zw (qok_pick (allF br bu bb L D X Y ⟨r, ⟨um, ut⟩, d⟩) Zj ?_))
    refine ret0 (cs' := [row _ _ _, slv _ _ _ _ _ _, slv _ _ _ _ _ _, row _ _ _, exC _ _ _ _, row _ _ _, row _ _ _, row _ _ _, row _ _ _, row _ _ _, slv _ _ _ _ _ _, slv _ _ _ _ _ _, row _ _ _, slv _ _ _ _ _ _]) (.inl rfl) Zu rfl ?_
    rw [hc3]
    exact ⟨Y, rfl, rfl⟩
  have hok : ok = true := (by simpa using hc3)
  refine Zc (Zt (Zs (Zs (Zr (Zm rfl (Zy (y_nil (Zv rfl)) (Zy (y_field 21 rfl (Zv rfl) Zf) ?_)))))))
  refine Zz rfl ?_
  refine Zn (Zt ?_)
  refine wc_cond _ rfl (fun hc4 => ?_) (fun hc4 => ?_)
  · refine wc_draw ⟨fun j => List.elem j [10], []⟩ Zk ?_
    refine wa_yn 0 rfl Zk Zk Zk (y_move (Zv rfl)) rfl ?_
    refine wa_yn 1 rfl Zk Zk Zk (y_nil (Zv rfl)) rfl ?_
    refine wa_yn 2 rfl Zk Zk Zk (y_field 18 rfl (Zv rfl) Zf) rfl ?_
    refine wa_ln 3 rfl Zk Zk Zk Zk (y_load (fun _ => rfl) (Zv rfl)) (row_cell Zh rfl) rfl ?_
    refine wa_yn 4 rfl Zk Zk Zk (y_move (Zv rfl)) rfl ?_
    refine wa_yn 5 rfl Zk Zk Zk (y_move (Zv rfl)) rfl ?_
    refine wa_yn 6 rfl Zk Zk Zk (y_move (Zv rfl)) rfl ?_
    refine wa_yn 7 rfl Zk Zk Zk (y_nil (Zv rfl)) rfl ?_
    refine wa_yn 8 rfl Zk Zk Zk (y_field 16 rfl (Zv rfl) Zf) rfl ?_
    refine wa_ln 9 rfl Zk Zk Zk Zk (y_load (fun _ => rfl) (Zv rfl)) (row_cell Zh rfl) rfl ?_
    refine wa_1 10 Zk ?_
    refine wi_t rfl rfl (t_callS (busF D L.bm Y d ++ [memC L um]) rfl (fun _ _ => rfl) Zi (fun w hi hin => HB w hin)) (fun _ _ _ _ _ _ _ h => by cases h) rfl ?_
    rintro _ _ ⟨_, ⟨Y', rfl, rfl⟩, rfl⟩
    refine wa_yn 11 rfl Zk Zk Zk (y_assign (Zv rfl)) rfl ?_
    refine wa_done Zk ?_
    refine Zt (Zs (Zr (Zm rfl (Zy (y_not (Zv rfl) rfl) (Zn (Zt ?_))))))
    refine wc_cond _ rfl (fun hc7 => ?_) (fun hc7 => ?_)
    · refine Zr (Zm rfl (Zm rfl (wl_t (t_callS (runF (kOf br bu D) X r) rfl (fun _ _ => rfl) Zi (fun w hi hin => fail_ok (kOf br bu D) X r 10 va w hin)) rfl ?_)))
      rintro _ _ ⟨_, ⟨rfl, rfl⟩, rfl⟩
      refine Zn (qok_pick (allF br bu bb L D X Y' ⟨r.wt ⟨10, va⟩, ⟨M', ut⟩, d'⟩) Zj ?_)
      refine ret0 (cs' := [row _ _ _, slv _ _ _ _ _ _, slv _ _ _ _ _ _, row _ _ _, exC _ _ _ _, row _ _ _, row _ _ _, row _ _ _, row _ _ _, row _ _ _, slv _ _ _ _ _ _, slv _ _ _ _ _ _, row _ _ _, slv _ _ _ _ _ _]) (.inr rfl) Zu rfl ?_
      rw [condF hc3, condT hc4, condT hc7]
      exact ⟨Y', rfl, rfl⟩
    refine Zc (qok_pick (allF br bu bb L D X Y' ⟨r, ⟨M', ut⟩, d'⟩) Zj ?_)
    refine ret0 (cs' := [row _ _ _, slv _ _ _ _ _ _, slv _ _ _ _ _ _, row _ _ _, exC _ _ _ _, row _ _ _, row _ _ _, row _ _ _, row _ _ _, row _ _ _, slv _ _ _ _ _ _, slv _ _ _ _ _ _, row _ _ _, slv _ _ _ _ _ _]) (.inr rfl) Zu rfl ?_
    rw [condF hc3, condT hc4, condF hc7]
    exact ⟨Y', rfl, rfl⟩
  have HM := HM (hin4 hok hc4)
  refine Zr (Zm rfl (Zy (y_nil (Zv rfl)) (Zy (y_field 17 rfl (Zv rfl) Zf) ?_)))
  refine Zz rfl ?_
  refine wl_t (t_call rfl (fun _ _ => rfl) (fun w hi => umem_ok bu L.bm bb w (hi.get Zh))) rfl ?_
  rintro _ _ ⟨_, ⟨rfl, rfl⟩, rfl⟩
  refine Zm rfl (Zm rfl (wl_t (t_callS ([memC L um]) rfl (fun _ _ => rfl) Zi (fun w hi hin => HM w hin)) rfl ?_))
  rintro _ _ ⟨_, ⟨rfl, rfl⟩, rfl⟩
  refine Zg rfl (Zn (Zt (Zs (Zr (Zm rfl (Zy (y_not (Zv rfl) rfl) (Zn (Zt ?_))))))))
  refine wc_cond _ rfl (fun hc7 => ?_) (fun hc7 => ?_)
  · refine Zr (Zm rfl (Zm rfl (wl_t (t_callS (runF (kOf br bu D) X r) rfl (fun _ _ => rfl) Zi (fun w hi hin => fail_ok (kOf br bu D) X r 10 va w hin)) rfl ?_)))
    rintro _ _ ⟨_, ⟨rfl, rfl⟩, rfl⟩
    refine Zn (qok_pick (allF br bu bb L D X Y ⟨r.wt ⟨10, va⟩, ⟨M2, ut⟩, d⟩) Zj ?_)
    refine ret0 (cs' := [row _ _ _, slv _ _ _ _ _ _, slv _ _ _ _ _ _, row _ _ _, exC _ _ _ _, row _ _ _, row _ _ _, row _ _ _, row _ _ _, row _ _ _, slv _ _ _ _ _ _, slv _ _ _ _ _ _, row _ _ _, slv _ _ _ _ _ _]) (.inr rfl) Zu rfl ?_
    rw [htt] at hc7
    exact absurd hc7 (by simp)
  refine Zc (qok_pick (allF br bu bb L D X Y ⟨r, ⟨M2, ut⟩, d⟩) Zj ?_)
  refine ret0 (cs' := [row _ _ _, slv _ _ _ _ _ _, slv _ _ _ _ _ _, row _ _ _, exC _ _ _ _, row _ _ _, row _ _ _, row _ _ _, row _ _ _, row _ _ _, slv _ _ _ _ _ _, slv _ _ _ _ _ _, row _ _ _, slv _ _ _ _ _ _]) (.inr rfl) Zu rfl ?_
  rw [condF hc3, condF hc4]
  exact ⟨Y, rfl, rfl⟩
end Go.Proofs.YtobjiljkfmcalaaGreat
