/- An instruction without a memory and devices: what is left. -/
import Derived.Test.YtobjiljkfmcalaaGreatSqN
import Derived.Test.YtobjiljkfmcalaaGreatInkS
set_option linter.unusedSimpArgs false
set_option linter.unusedVariables false
set_option maxRecDepth 100000
namespace Go.Proofs.YtobjiljkfmcalaaGreat
open Go.RowKit Go.Ink

set_option maxHeartbeats 4000000 in
theorem rotherN_ok (br : Nat) (X : SAdr) (R : Run) (op nn : Int) (hnn : u32 nn) (hw : ∀ x, x ∈ R.s.d → u32 x) (hdl : R.s.d.length ≤ 100000) (hrl : R.s.r.length ≤ 100000) (hn : (opNeeds op).1.1 ≤ R.s.d.length)
    (w : World) (hi : Inv w (blocks (runF (kNil br) X R)) (runF (kNil br) X R) w) :
    Ctr Tryz.prog 47 [.pointer (some ⟨br, 0, none⟩), .agg #[.int .i64 op, .int .u32 nn]] w (runF (kNil br) X R) (fun v cs => ∃ X', v = .tuple #[] ∧ cs = runF (kNil br) X' (otherN op nn R)) := by
  have hu1 := hnn.1
  have hu2 := hnn.2
  refine fn_ctr Tryz.func47 rfl Tryz.ntmps47 rfl hi ?_
  refine Zs (Zr (wl_t (t_box rfl rfl) rfl ?_))
  rintro _ _ ⟨b3, rfl, rfl⟩
  refine Zn (Zt (Zs (Zr (Zy (y_field 0 rfl (Zv rfl) Zf) ?_))))
  refine Zz rfl ?_
  refine Zn (Zt (Zx (Zs (Zr (Zy (y_eql (Zv rfl) (Zv rfl) rfl) (Zg rfl (Zn (Zt ?_))))))))
  refine wc_cond _ rfl (fun hc2 => ?_) (fun hc2 => ?_)
  · obtain rfl := beqZ hc2
    obtain ⟨R, l, x, rfl⟩ := Run.snoc (show 1 ≤ R.s.d.length from hn)
    obtain ⟨hx1, hx2⟩ := hw x (by simp)
    obtain ⟨va, rfl⟩ : ∃ va : Nat, x = va := Int.eq_ofNat_of_zero_le hx1
    have HC := fun w hin => lodeN_ok br X R l va w hin
    have hst : otherN 48 nn (R.wd (l ++ [(va : Int)])) = wholeN (R.wd l) va := (by show wholeN _ _ = _; rw [Run.pop_wd, Run.top_wd]; rfl)
    obtain ⟨m', hm'⟩ : ∃ m', wholeN (R.wd l) va = m' := ⟨_, rfl⟩
    rw [hm'] at HC
    rw [hm'] at hst
    refine Zr (Zm rfl (wl_t (t_callS (runF (kNil br) X (R.wd (l ++ [(va : Int)]))) rfl (fun _ _ => rfl) Zi (fun w hi hin => HC w hin)) rfl ?_))
    rintro _ _ ⟨_, ⟨rfl, rfl⟩, rfl⟩
    refine Zn (Zo (ret0 (cs' := [row _ _ _, slv _ _ _ _ _ _, slv _ _ _ _ _ _]) (.inr rfl) Zu rfl ?_))
    rw [hst]
    exact ⟨X, rfl, rfl⟩
  refine Zs (Zr (Zy (y_eql (Zv rfl) (Zv rfl) rfl) (Zg rfl (Zn (Zt ?_)))))
  refine wc_cond _ rfl (fun hc4 => ?_) (fun hc4 => ?_)
  · obtain rfl := beqZ hc4
    obtain ⟨R, l, y, x, rfl⟩ := Run.snoc2 (show 2 ≤ R.s.d.length from hn)
    obtain ⟨hx1, hx2⟩ := hw x (by simp)
    obtain ⟨va, rfl⟩ : ∃ va : Nat, x = va := Int.eq_ofNat_of_zero_le hx1
    have HC := fun w hin => stowN_ok br X R l y va w hin
    have hst : otherN 49 nn (R.wd ((l ++ [y]) ++ [(va : Int)])) = wholeN (R.wd l) va := (by show wholeN _ _ = _; rw [Run.pop_wd, Run.top_wd, Run.pop_wd]; rfl)
    obtain ⟨m', hm'⟩ : ∃ m', wholeN (R.wd l) va = m' := ⟨_, rfl⟩
    rw [hm'] at HC
    rw [hm'] at hst
    refine Zr (Zm rfl (wl_t (t_callS (runF (kNil br) X (R.wd ((l ++ [y]) ++ [(va : Int)]))) rfl (fun _ _ => rfl) Zi (fun w hi hin => HC w hin)) rfl ?_))
    rintro _ _ ⟨_, ⟨rfl, rfl⟩, rfl⟩
    refine Zn (Zo (ret0 (cs' := [row _ _ _, slv _ _ _ _ _ _, slv _ _ _ _ _ _]) (.inr rfl) Zu rfl ?_))
    rw [hst]
    exact ⟨X, rfl, rfl⟩
  refine Zs (Zr (Zy (y_eql (Zv rfl) (Zv rfl) rfl) (Zg rfl (Zn (Zt ?_)))))
  refine wc_cond _ rfl (fun hc6 => ?_) (fun hc6 => ?_)
  · obtain rfl := beqZ hc6
    obtain ⟨R, l, x, rfl⟩ := Run.snoc (show 1 ≤ R.s.d.length from hn)
    have HC := fun w hin => someN_ok br X R l x 4 false w hin
    have hst : otherN 50 nn (R.wd (l ++ [x])) = (R.wd l).wt ⟨10, x⟩ := (by show Run.wt _ _ = _; rw [Run.pop_wd, Run.top_wd])
    refine Zr (Zm rfl (wl_t (t_callS (runF (kNil br) X (R.wd (l ++ [x]))) rfl (fun _ _ => rfl) Zi (fun w hi hin => HC w hin)) rfl ?_))
    rintro _ _ ⟨_, ⟨rfl, rfl⟩, rfl⟩
    refine Zn (Zo (ret0 (cs' := [row _ _ _, slv _ _ _ _ _ _, slv _ _ _ _ _ _]) (.inr rfl) Zu rfl ?_))
    rw [hst]
    exact ⟨X, rfl, rfl⟩
  refine Zs (Zr (Zy (y_eql (Zv rfl) (Zv rfl) rfl) (Zg rfl (Zn (Zt ?_)))))
  refine wc_cond _ rfl (fun hc8 => ?_) (fun hc8 => ?_)
  · obtain rfl := beqZ hc8
    obtain ⟨R, l, x, rfl⟩ := Run.snoc (show 1 ≤ R.s.d.length from Nat.le_trans (show 1 ≤ 2 by omega) hn)
    have HC := fun w hin => someN_ok br X R l x 4 true w hin
    have hst : otherN 51 nn (R.wd (l ++ [x])) = (R.wd l).wt ⟨10, x⟩ := (by show Run.wt _ _ = _; rw [Run.pop_wd, Run.top_wd])
    refine Zr (Zm rfl (wl_t (t_callS (runF (kNil br) X (R.wd (l ++ [x]))) rfl (fun _ _ => rfl) Zi (fun w hi hin => HC w hin)) rfl ?_))
    rintro _ _ ⟨_, ⟨rfl, rfl⟩, rfl⟩
    refine Zn (Zo (ret0 (cs' := [row _ _ _, slv _ _ _ _ _ _, slv _ _ _ _ _ _]) (.inr rfl) Zu rfl ?_))
    rw [hst]
    exact ⟨X, rfl, rfl⟩
  refine Zs (Zr (Zy (y_eql (Zv rfl) (Zv rfl) rfl) (Zg rfl (Zn (Zt ?_)))))
  refine wc_cond _ rfl (fun hc10 => ?_) (fun hc10 => ?_)
  · obtain rfl := beqZ hc10
    obtain ⟨R, l, x, rfl⟩ := Run.snoc (show 1 ≤ R.s.d.length from hn)
    have HC := fun w hin => someN_ok br X R l x 1 false w hin
    have hst : otherN 52 nn (R.wd (l ++ [x])) = (R.wd l).wt ⟨10, x⟩ := (by show Run.wt _ _ = _; rw [Run.pop_wd, Run.top_wd])
    refine Zr (Zm rfl (wl_t (t_callS (runF (kNil br) X (R.wd (l ++ [x]))) rfl (fun _ _ => rfl) Zi (fun w hi hin => HC w hin)) rfl ?_))
    rintro _ _ ⟨_, ⟨rfl, rfl⟩, rfl⟩
    refine Zn (Zo (ret0 (cs' := [row _ _ _, slv _ _ _ _ _ _, slv _ _ _ _ _ _]) (.inr rfl) Zu rfl ?_))
    rw [hst]
    exact ⟨X, rfl, rfl⟩
  refine Zs (Zr (Zy (y_eql (Zv rfl) (Zv rfl) rfl) (Zg rfl (Zn (Zt ?_)))))
  refine wc_cond _ rfl (fun hc12 => ?_) (fun hc12 => ?_)
  · obtain rfl := beqZ hc12
    obtain ⟨R, l, x, rfl⟩ := Run.snoc (show 1 ≤ R.s.d.length from Nat.le_trans (show 1 ≤ 2 by omega) hn)
    have HC := fun w hin => someN_ok br X R l x 1 true w hin
    have hst : otherN 53 nn (R.wd (l ++ [x])) = (R.wd l).wt ⟨10, x⟩ := (by show Run.wt _ _ = _; rw [Run.pop_wd, Run.top_wd])
    refine Zr (Zm rfl (wl_t (t_callS (runF (kNil br) X (R.wd (l ++ [x]))) rfl (fun _ _ => rfl) Zi (fun w hi hin => HC w hin)) rfl ?_))
    rintro _ _ ⟨_, ⟨rfl, rfl⟩, rfl⟩
    refine Zn (Zo (ret0 (cs' := [row _ _ _, slv _ _ _ _ _ _, slv _ _ _ _ _ _]) (.inr rfl) Zu rfl ?_))
    rw [hst]
    exact ⟨X, rfl, rfl⟩
  refine Zs (Zr (Zy (y_eql (Zv rfl) (Zv rfl) rfl) (Zg rfl (Zn (Zt ?_)))))
  refine wc_cond _ rfl (fun hc14 => ?_) (fun hc14 => ?_)
  · obtain rfl := beqZ hc14
    refine Zr (Zm rfl (wl_t (t_callS (runF (kNil br) X R) rfl (fun _ _ => rfl) Zi (fun w hi hin => fail_ok (kNil br) X R 11 0 w hin)) rfl ?_))
    rintro _ _ ⟨_, ⟨rfl, rfl⟩, rfl⟩
    refine Zn (Zo (ret0 (cs' := [row _ _ _, slv _ _ _ _ _ _, slv _ _ _ _ _ _]) (.inr rfl) Zu rfl ?_))
    exact ⟨X, rfl, rfl⟩
  refine Zs (Zr (Zy (y_eql (Zv rfl) (Zv rfl) rfl) (Zg rfl (Zn (Zt ?_)))))
  refine wc_cond _ rfl (fun hc16 => ?_) (fun hc16 => ?_)
  · obtain rfl := beqZ hc16
    have hR := return_ok R.s X.Ad X.Ar X.cd X.cr
    refine Zr (Zm rfl (Zm rfl (Zy (y_nil (Zv rfl)) (Zy (y_field 0 rfl (Zv rfl) Zf) ?_))))
    refine wl_y (y_loadN (vs := R.s.cells (.slice X.Ad R.s.d.length X.cd) (.slice X.Ar R.s.r.length X.cr)) (fun _ => rfl) (fun _ => rfl) (Zv rfl)) (row_cells Zh rfl) rfl ?_
    refine wl_t (t_call rfl (fun _ _ => rfl) (fun w hi => hR w (hi.rdSt (show Has _ (slD R.s X.Ad X.cd) from Zh) (show Has _ (slR R.s X.Ar X.cr) from Zh) (by omega) (by omega)))) rfl ?_
    rintro _ _ ⟨_, ⟨A1, c1, A2, c2, rfl, rfl⟩, rfl⟩
    refine Zy (y_nil (Zv rfl)) (Zy (y_field 0 rfl (Zv rfl) Zf) ?_)
    refine wl_t0 (t_storeRX (ys := runCells (kNil br) ⟨A1, c1, A2, c2⟩ (R.ws R.s.back)) (n := 16) (vs := R.s.back.cells (.slice A1 R.s.back.d.length c1) (.slice A2 R.s.back.r.length c2)) rfl (fun _ => rfl) rfl rfl (allT rfl) Za rfl (by simp only [List.length_cons, List.length_nil]; omega)) ?_
    rintro _ _ ⟨rfl, rfl⟩
    refine Zn (Zo (qok_pick (runF (kNil br) ⟨A1, c1, A2, c2⟩ (R.ws R.s.back)) Zj ?_))
    refine ret0 (cs' := [row _ _ _, slv _ _ _ _ _ _, slv _ _ _ _ _ _]) (.inr rfl) Zu rfl ?_
    exact ⟨⟨A1, c1, A2, c2⟩, rfl, rfl⟩
  refine Zs (Zr (Zy (y_eql (Zv rfl) (Zv rfl) rfl) (Zg rfl (Zn (Zt ?_)))))
  refine wc_cond _ rfl (fun hc18 => ?_) (fun hc18 => ?_)
  · obtain rfl := beqZ hc18
    have HG := get_ok (R.s.wcount R.count) (.slice X.Ad R.s.d.length X.cd) (.slice X.Ar R.s.r.length X.cr) nn
    obtain ⟨⟨g, gk⟩, hg⟩ : ∃ q, (R.s.wcount R.count).get nn = q := ⟨_, rfl⟩
    rw [hg] at HG
    have hst : otherN 66 nn R = R.push [g] := (by show R.push [((R.s.wcount R.count).get nn).1] = _; rw [hg])
    refine Zs (Zr (Zm rfl (Zy (y_nil (Zv rfl)) (Zy (y_field 0 rfl (Zv rfl) Zf) ?_))))
    refine wl_y (y_loadN (vs := R.s.cells (.slice X.Ad R.s.d.length X.cd) (.slice X.Ar R.s.r.length X.cr)) (fun _ => rfl) (fun _ => rfl) (Zv rfl)) (row_cells Zh rfl) rfl ?_
    refine wl_t (t_alloc (fun _ => rfl) rfl) rfl ?_
    rintro _ _ ⟨b4, rfl, rfl⟩
    refine wl_t0 (t_storeN (fun _ => rfl) rfl rfl (allT rfl) Za (by exact rfl)) ?_
    rintro _ _ ⟨rfl, rfl⟩
    refine Zn (Zt (Zs (Zr (Zm rfl (Zy (y_nil (Zv rfl)) (Zy (y_field 16 rfl (Zv rfl) Zf) ?_))))))
    refine Zz rfl ?_
    refine Zy (y_field 14 rfl (Zv rfl) Zf) ?_
    refine wl_t0 (t_store (fun _ => rfl) rfl rfl rfl Za Zp) ?_
    rintro _ _ ⟨rfl, rfl⟩
    refine Zn (Zt (Zs (Zr (wl_loadRow Zh (fun _ => rfl) (fun _ => rfl) (Zv rfl) rfl ?_))))
    refine Zy (y_field 1 rfl (Zv rfl) Zf) ?_
    refine Zz rfl ?_
    refine Zy (y_conv rfl rfl (Zv rfl) Zl) ?_
    refine wl_t (t_call rfl (fun _ _ => rfl) (fun w hi => HG w)) rfl ?_
    rintro _ _ ⟨_, ⟨rfl, rfl⟩, rfl⟩
    refine Zm rfl (Zy (y_extractN (Zv rfl) (.zero _ _)) (Zy (y_extractN (Zv rfl) (.succ _ (.zero _ _))) (Zg rfl (Zg rfl (Zn (Zt (Zr (Zm rfl (Zm rfl (wl_t (t_buildSl1 rfl rfl (fun _ => rfl) (fun _ => rfl) rfl rfl) rfl ?_))))))))))
    rintro _ _ ⟨b70, rfl, rfl⟩
    refine wl_t (t_callS (runF (kNil br) X R) rfl (fun _ _ => rfl) Zi (fun w hi hin => push_ok (kNil br) X R _ 1 1 [g] (by omega) w hin (fun w' hk => hi.rdKs Zi Zh hk))) rfl ?_
    rintro _ _ ⟨_, ⟨A', c', rfl, rfl⟩, rfl⟩
    refine Zn (Zo (qok_pick (runF (kNil br) ⟨A', c', X.Ar, X.cr⟩ (R.wd (R.s.d ++ [g]))) Zj ?_))
    refine ret0 (cs' := [row _ _ _, slv _ _ _ _ _ _, slv _ _ _ _ _ _]) (.inr rfl) Zu rfl ?_
    rw [hst]
    exact ⟨⟨A', c', X.Ar, X.cr⟩, rfl, rfl⟩
  refine Zs (Zr (Zy (y_eql (Zv rfl) (Zv rfl) rfl) (Zg rfl (Zn (Zt ?_)))))
  refine wc_cond _ rfl (fun hc23 => ?_) (fun hc23 => ?_)
  · obtain rfl := beqZ hc23
    obtain ⟨R, l, x, rfl⟩ := Run.snoc (show 1 ≤ R.s.d.length from hn)
    have hll : l.length ≤ 100000 := (by have : (l ++ [x]).length ≤ 100000 := hdl; simp only [List.length_append, List.length_cons, List.length_nil] at this; omega)
    have HE := set_ok (R.wd l).s X.Ad X.Ar X.cd X.cr nn x
    have hdr := St.set_dr (R.wd l).s nn x
    have hst : otherN 67 nn (R.wd (l ++ [x])) = (R.wd l).ws ((R.wd l).s.set nn x).1 := (by show Run.ws _ _ = _; rw [Run.pop_wd, Run.top_wd])
    obtain ⟨⟨⟨pc', d', r', fl', su', pg', ie', rt', ve', ep', ca', ad', es', ei', co', ha'⟩, kn⟩, hq⟩ : ∃ q, (R.wd l).s.set nn x = q := ⟨_, rfl⟩
    rw [hq] at HE hst hdr
    obtain ⟨hd', hr'⟩ := hdr
    have hd' : l = d' := hd'.symm
    have hr' : R.s.r = r' := hr'.symm
    subst hd'
    subst hr'
    refine Zs (Zr (Zm rfl (wl_t (t_callS (runF (kNil br) X (R.wd (l ++ [x]))) rfl (fun _ _ => rfl) Zi (fun w hi hin => pop_ok (kNil br) X R l x w hin)) rfl ?_)))
    rintro _ _ ⟨_, ⟨rfl, rfl⟩, rfl⟩
    refine Zg rfl (Zn (Zt (Zs (wc_draw ⟨fun j => List.elem j [15], []⟩ Zk ?_))))
    refine wa_yn 0 rfl Zk Zk Zk (y_move (Zv rfl)) rfl ?_
    refine wa_yn 1 rfl Zk Zk Zk (y_move (Zv rfl)) rfl ?_
    refine wa_yn 2 rfl Zk Zk Zk (y_nil (Zv rfl)) rfl ?_
    refine wa_yn 3 rfl Zk Zk Zk (y_field 0 rfl (Zv rfl) Zf) rfl ?_
    refine wa_ln 4 rfl Zk Zk Zk Zk (y_loadN (vs := (R.wd l).s.cells (.slice X.Ad (R.wd l).s.d.length X.cd) (.slice X.Ar (R.wd l).s.r.length X.cr)) (fun _ => rfl) (fun _ => rfl) (Zv rfl)) (row_cells Zh rfl) rfl ?_
    refine wa_yn 5 rfl Zk Zk Zk (y_field 1 rfl (Zv rfl) Zf) rfl ?_
    refine wa_ln 6 rfl Zk Zk Zk Zk (y_load (fun _ => rfl) (Zv rfl)) (row_cell Zh rfl) rfl ?_
    refine wa_yn 7 rfl Zk Zk Zk (y_conv rfl rfl (Zv rfl) Zl) rfl ?_
    refine wa_yn 8 rfl Zk Zk Zk (y_move (Zv rfl)) rfl ?_
    refine wa_1 9 Zk ?_
    refine wi_t rfl rfl (t_call rfl (fun _ _ => rfl) (fun w hi => HE w (hi.rdSt (show Has _ (slD (R.wd l).s X.Ad X.cd) from Zh) (show Has _ (slR (R.wd l).s X.Ar X.cr) from Zh) (by show l.length * 4 ≤ _; omega) (by show R.s.r.length * 4 ≤ _; have : R.s.r.length ≤ 100000 := hrl; omega)))) (fun _ _ _ _ _ _ _ h => by cases h) rfl ?_
    rintro _ _ ⟨_, ⟨A1, c1, A2, c2, rfl, rfl⟩, rfl⟩
    refine wa_yn 10 rfl Zk Zk Zk (y_move (Zv rfl)) rfl ?_
    refine wa_yn 11 rfl Zk Zk Zk (y_extractN (Zv rfl) (.zero _ _)) rfl ?_
    refine wa_yn 12 rfl Zk Zk Zk (y_extractN (Zv rfl) (.succ _ (.zero _ _))) rfl ?_
    refine wa_yn 13 rfl Zk Zk Zk (y_nil (Zv rfl)) rfl ?_
    refine wa_yn 14 rfl Zk Zk Zk (y_field 0 rfl (Zv rfl) Zf) rfl ?_
    refine wa_1 15 Zk ?_
    refine wi_t0 rfl rfl (t_storeRX (ys := runCells (kNil br) ⟨A1, c1, A2, c2⟩ ((R.wd l).ws ⟨pc', l, R.s.r, fl', su', pg', ie', rt', ve', ep', ca', ad', es', ei', co', ha'⟩)) (n := 16) (vs := (St.mk pc' l R.s.r fl' su' pg' ie' rt' ve' ep' ca' ad' es' ei' co' ha').cells (.slice A1 l.length c1) (.slice A2 R.s.r.length c2)) rfl (fun _ => rfl) rfl rfl (allT rfl) Za rfl (by simp only [List.length_cons, List.length_nil]; omega)) (fun _ _ _ _ _ _ _ h => by cases h) ?_
    rintro _ _ ⟨rfl, rfl⟩
    refine wa_done Zk ?_
    refine Zt (Zs (Zr (Zy (y_field 1 rfl (Zv rfl) Zf) ?_)))
    refine Zz rfl ?_
    refine Zy (y_eql (Zv rfl) (Zv rfl) rfl) (Zm rfl (Zyn rfl rfl (y_field 1 rfl (Zv rfl) Zf) ?_))
    refine wl_yg (guard_no rfl rfl) (y_load (fun _ => rfl) (ev_g rfl)) (row_cell Zh rfl) rfl ?_
    refine Zyn rfl rfl (y_eql (ev_g rfl) (Zv rfl) rfl) ?_
    refine Zy (y_or (Zv rfl) (pk_no rfl (fun _ => rfl))) (Zm rfl (Zyy rfl rfl (y_move (Zv rfl)) ?_))
    refine Zyy rfl rfl (y_nil (ev_g rfl)) ?_
    refine Zyy rfl rfl (y_field 17 rfl (ev_g rfl) Zf) ?_
    refine wl_yg (guard_yes rfl rfl) (y_load (fun _ => rfl) (ev_g rfl)) (row_cell Zh rfl) rfl ?_
    refine Zyy rfl rfl (y_pnn rfl (ev_g rfl)) ?_
    refine Zy (y_and (Zv rfl) (pk_yes rfl (fun _ => rfl))) (Zn (Zt ?_))
    refine wc_cond _ rfl (fun hc26 => ?_) (fun hc26 => ?_)
    · exact absurd hc26 (by simp)
    refine Zc (Zo (qok_pick (runF (kNil br) ⟨A1, c1, A2, c2⟩ ((R.wd l).ws ⟨pc', l, R.s.r, fl', su', pg', ie', rt', ve', ep', ca', ad', es', ei', co', ha'⟩)) Zj ?_))
    refine ret0 (cs' := [row _ _ _, slv _ _ _ _ _ _, slv _ _ _ _ _ _]) (.inr rfl) Zu rfl ?_
    rw [hst]
    exact ⟨⟨A1, c1, A2, c2⟩, rfl, rfl⟩
  refine Zs (Zr (Zy (y_eql (Zv rfl) (Zv rfl) rfl) (Zg rfl (Zn (Zt ?_)))))
  refine wc_cond _ rfl (fun hc28 => ?_) (fun hc28 => ?_)
  · obtain rfl := beqZ hc28
    obtain ⟨R, l, x, rfl⟩ := Run.snoc (show 1 ≤ R.s.d.length from hn)
    have hst : otherN 68 nn (R.wd (l ++ [x])) = R.wd l := (by show Run.pop _ = _; rw [Run.pop_wd])
    refine Zs (Zr (Zm rfl (wl_t (t_callS (runF (kNil br) X (R.wd (l ++ [x]))) rfl (fun _ _ => rfl) Zi (fun w hi hin => pop_ok (kNil br) X R l x w hin)) rfl ?_)))
    rintro _ _ ⟨_, ⟨rfl, rfl⟩, rfl⟩
    refine Zg rfl (Zn (Zt (Zs (Zr (Zm rfl (Zy (y_nil (Zv rfl)) (Zy (y_field 17 rfl (Zv rfl) Zf) ?_)))))))
    refine Zz rfl ?_
    refine Zy (y_pnn rfl (Zv rfl)) (Zn (Zt (wc_cond_f rfl (rfl) ?_)))
    refine Zc (Zo (ret0 (cs' := [row _ _ _, slv _ _ _ _ _ _, slv _ _ _ _ _ _]) (.inr rfl) Zu rfl ?_))
    rw [hst]
    exact ⟨X, rfl, rfl⟩
  refine Zs (Zr (Zy (y_eql (Zv rfl) (Zv rfl) rfl) (Zg rfl (Zn (Zt ?_)))))
  refine wc_cond _ rfl (fun hc32 => ?_) (fun hc32 => ?_)
  · obtain rfl := beqZ hc32
    refine Zr (Zm rfl (Zy (y_nil (Zv rfl)) (Zy (y_field 0 rfl (Zv rfl) Zf) ?_)))
    refine Zy (y_field 15 rfl (Zv rfl) Zf) ?_
    refine wl_t0 (t_store (fun _ => rfl) rfl rfl rfl Za Zp) ?_
    rintro _ _ ⟨rfl, rfl⟩
    refine Zn (Zo (qok_pick (runF (kNil br) X (R.ws R.s.halt)) Zj ?_))
    refine ret0 (cs' := [row _ _ _, slv _ _ _ _ _ _, slv _ _ _ _ _ _]) (.inr rfl) Zu rfl ?_
    exact ⟨X, rfl, rfl⟩
  have hst : otherN op nn R = R := (by simp only [otherN, *, cond_false])
  refine Zc (Zo (ret0 (cs' := [row _ _ _, slv _ _ _ _ _ _, slv _ _ _ _ _ _]) (.inr rfl) Zu rfl ?_))
  rw [hst]
  exact ⟨X, rfl, rfl⟩
end Go.Proofs.YtobjiljkfmcalaaGreat
