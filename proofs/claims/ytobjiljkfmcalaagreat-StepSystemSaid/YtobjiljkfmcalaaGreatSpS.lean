/- An instruction that is being done: what reckons or jumps. -/
import Derived.Test.YtobjiljkfmcalaaGreatSpR
import Derived.Test.YtobjiljkfmcalaaGreatInkS
set_option linter.unusedSimpArgs false
set_option linter.unusedVariables false
set_option maxRecDepth 100000
namespace Go.Ink
open Go.RowKit
def thereOf (R : Run) (n : Int) : Int := IntKind.u32.wrap (R.s.pc + arSign n)
/-- What reckons, or jumps; false: it is none such. -/
def reckonTo (op n : Int) (R : Run) : Bool × Run :=
  bif decide (16 ≤ op) && decide (op ≤ 25) then
    (true, bif op != 25 then ((bif (arDo op R.pop.top R.top).2.2 then R.pop.pop else R.pop.pop.wt ⟨5, 0⟩).wfl (arDo op R.pop.top R.top).2.1).push [(arDo op R.pop.top R.top).1] else (bif (arDo op R.pop.top R.top).2.2 then R.pop.pop else R.pop.pop.wt ⟨5, 0⟩).wfl (arDo op R.pop.top R.top).2.1)
  else bif op == 38 then (true, (R.pushR R.s.pc).wpc (thereOf R n)) else bif op == 32 then (true, R.wpc (thereOf R n)) else bif op == 39 then (true, R.popR.wpc R.topR) else bif op == 40 then (true, R.pop.wpc R.top) else
  ((arHolds op R.s.flags).2, bif (arHolds op R.s.flags).1 then R.wpc (thereOf R n) else R)
theorem needs_ar {op : Int} (h : (decide (16 ≤ op) && decide (op ≤ 25)) = true) : (opNeeds op).1.1 = 2 := by
  simp only [Bool.and_eq_true, decide_eq_true_eq] at h
  obtain rfl | rfl | rfl | rfl | rfl | rfl | rfl | rfl | rfl | rfl : op = 16 ∨ op = 17 ∨ op = 18 ∨ op = 19 ∨ op = 20 ∨ op = 21 ∨ op = 22 ∨ op = 23 ∨ op = 24 ∨ op = 25 := by omega
  all_goals rfl
end Go.Ink
namespace Go.Proofs.YtobjiljkfmcalaaGreat
open Go.RowKit Go.Ink

set_option maxHeartbeats 1000000 in
theorem reckon_ok (K : RLoc) (X : SAdr) (R : Run) (op n : Int) (hw : ∀ x, x ∈ R.s.d → u32 x) (hd : R.s.d.length ≤ 100000) (hr : R.s.r.length ≤ 100000) (hn : (opNeeds op).1.1 ≤ R.s.d.length) (hnr : (opNeeds op).2.1 ≤ R.s.r.length) (w : World) (hi : Inv w (blocks (runF K X R)) (runF K X R) w) :
    Ctr Tryz.prog 46 [.pointer (some ⟨K.br, 0, none⟩), .agg #[.int .i64 op, .int .u32 n]] w (runF K X R) (fun v cs => ∃ X', v = .bool (reckonTo op n R).1 ∧ cs = runF K X' (reckonTo op n R).2) := by
  have HS := sign_ok n
  have HA := ado_ok op
  have HH := holds_ok op R.s.flags
  obtain ⟨th, hth⟩ : ∃ t, thereOf R n = t := ⟨_, rfl⟩
  have hth' := hth
  unfold thereOf at hth'
  obtain ⟨sg, hsg⟩ : ∃ t, arSign n = t := ⟨_, rfl⟩
  rw [hsg] at HS hth'
  refine fn_ctr Tryz.func46 rfl Tryz.ntmps46 rfl hi ?_
  refine Zs (Zr (wl_t (t_box rfl rfl) rfl ?_))
  rintro _ _ ⟨b3, rfl, rfl⟩
  refine Zg rfl (Zn (Zt (Zs (wc_draw ⟨fun j => List.elem j [], []⟩ Zk ?_))))
  refine wa_yn 0 rfl Zk Zk Zk (y_move (Zv rfl)) rfl ?_
  refine wa_yn 1 rfl Zk Zk Zk (y_nil (Zv rfl)) rfl ?_
  refine wa_yn 2 rfl Zk Zk Zk (y_field 0 rfl (Zv rfl) Zf) rfl ?_
  refine wa_yn 3 rfl Zk Zk Zk (y_field 0 rfl (Zv rfl) Zf) rfl ?_
  refine wa_ln 4 rfl Zk Zk Zk Zk (y_load (fun _ => rfl) (Zv rfl)) (row_cell Zh rfl) rfl ?_
  refine wa_yn 5 rfl Zk Zk Zk (y_field 1 rfl (Zv rfl) Zf) rfl ?_
  refine wa_ln 6 rfl Zk Zk Zk Zk (y_load (fun _ => rfl) (Zv rfl)) (row_cell Zh rfl) rfl ?_
  refine wa_1 7 Zk ?_
  refine wi_t rfl rfl (t_call rfl (fun _ _ => rfl) (fun w hi => HS w)) (fun _ _ _ _ _ _ _ h => by cases h) rfl ?_
  rintro _ _ ⟨_, ⟨rfl, rfl⟩, rfl⟩
  refine wa_yn 8 rfl Zk Zk Zk (y_add (Zv rfl) (Zv rfl) hth') rfl ?_
  refine wa_yn 9 rfl Zk Zk Zk (y_assign (Zv rfl)) rfl ?_
  refine wa_done Zk ?_
  refine Zt (Zs (Zs (Zr (Zy (y_field 0 rfl (Zv rfl) Zf) ?_))))
  refine Zz rfl ?_
  refine Zg rfl (Zn (Zt (Zx (Zs (Zr (Zm rfl (Zy (y_geq (Zv rfl) (Zv rfl) rfl) (Zm rfl (Zyy rfl rfl (y_move (Zv rfl)) ?_)))))))))
  refine Zyy rfl rfl (y_leq (ev_g rfl) (Zv rfl) rfl) ?_
  refine Zy (y_and (Zv rfl) (pk_yes rfl (fun _ => rfl))) (Zg rfl (Zn (Zt ?_)))
  refine wc_cond _ rfl (fun hc7 => ?_) (fun hc7 => ?_)
  · rw [needs_ar hc7] at hn
    obtain ⟨R, l, x, y, rfl⟩ := Run.snoc2 hn
    have hll : l.length + 2 ≤ 100000 := (by have : ((l ++ [x]) ++ [y]).length ≤ 100000 := hd; simp only [List.length_append, List.length_cons, List.length_nil] at this; omega)
    have HA := HA x y (hw y (by simp)).1
    obtain ⟨⟨v, fl, ok⟩, hq⟩ : ∃ q, arDo op x y = q := ⟨_, rfl⟩
    rw [hq] at HA
    have hst : reckonTo op n (R.wd ((l ++ [x]) ++ [y])) = (true, bif op != 25 then ((bif ok then R.wd l else (R.wd l).wt ⟨5, 0⟩).wfl fl).push [v] else (bif ok then R.wd l else (R.wd l).wt ⟨5, 0⟩).wfl fl) := (by simp only [reckonTo, hc7, cond_true, Run.top_wd, Run.pop_wd, hq])
    refine Zs (Zr (Zm rfl (wl_t (t_callS (runF K X (R.wd ((l ++ [x]) ++ [y]))) rfl (fun _ _ => rfl) Zi (fun w hi hin => pop_ok K X R (l ++ [x]) y w hin)) rfl ?_)))
    rintro _ _ ⟨_, ⟨rfl, rfl⟩, rfl⟩
    refine Zm rfl (wl_t (t_callS (runF K X (R.wd (l ++ [x]))) rfl (fun _ _ => rfl) Zi (fun w hi hin => pop_ok K X R l x w hin)) rfl ?_)
    rintro _ _ ⟨_, ⟨rfl, rfl⟩, rfl⟩
    refine Zg rfl (Zg rfl (Zn (Zt (Zs (Zr (Zm rfl (Zm rfl (Zm rfl (wl_t (t_call rfl (fun _ _ => rfl) (fun w hi => HA w)) rfl ?_)))))))))
    rintro _ _ ⟨_, ⟨rfl, rfl⟩, rfl⟩
    refine Zm rfl (Zy (y_extractN (Zv rfl) (.zero _ _)) (Zy (y_extractN (Zv rfl) (.succ _ (.zero _ _))) (Zy (y_extractN (Zv rfl) (.succ _ (.succ _ (.zero _ _)))) ?_)))
    refine Zg rfl (Zg rfl (Zg rfl (Zn (Zt (Zs (Zs (Zr (Zm rfl (Zy (y_not (Zv rfl) rfl) (Zn (Zt ?_)))))))))))
    refine wc_cond _ rfl (fun hc10 => ?_) (fun hc10 => ?_)
    · obtain rfl : ok = false := (by simpa using hc10)
      have hR : ∃ Q, Q = (R.wd l).wt ⟨5, 0⟩ := ⟨_, rfl⟩
      refine Zr (Zm rfl (wl_t (t_callS (runF K X (R.wd l)) rfl (fun _ _ => rfl) Zi (fun w hi hin => fail_ok K X (R.wd l) 5 0 w hin)) rfl ?_))
      rintro _ _ ⟨_, ⟨rfl, rfl⟩, rfl⟩
      refine Zn (Zt (Zs (Zr (Zm rfl (Zm rfl (Zy (y_nil (Zv rfl)) (Zy (y_field 0 rfl (Zv rfl) Zf) ?_)))))))
      refine Zy (y_field 3 rfl (Zv rfl) Zf) ?_
      refine wl_t0 (t_store (fun _ => rfl) rfl rfl rfl Za Zp) ?_
      rintro _ _ ⟨rfl, rfl⟩
      refine Zn (Zt (Zs (Zr (Zm rfl (Zy (y_neq (Zv rfl) (Zv rfl) rfl) (Zn (Zt ?_)))))))
      refine wc_cond _ rfl (fun hc13 => ?_) (fun hc13 => ?_)
      · simp only [hc13, cond_true, cond_false] at hst
        refine Zr (Zm rfl (Zm rfl (wl_t (t_buildSl1 rfl rfl (fun _ => rfl) (fun _ => rfl) rfl rfl) rfl ?_)))
        rintro _ _ ⟨b74, rfl, rfl⟩
        refine wl_t (t_callS (runF K X (((R.wd l).wt ⟨5, 0⟩).wfl fl)) rfl (fun _ _ => rfl) Zi (fun w hi hin => push_ok K X (((R.wd l).wt ⟨5, 0⟩).wfl fl) _ 1 1 [v] (show l.length + 1 ≤ 1000000 by omega) w hin (fun w' hk => hi.rdKs Zi Zh hk))) rfl ?_
        rintro _ _ ⟨_, ⟨A', c', rfl, rfl⟩, rfl⟩
        refine Zn (Zo (Zt (Zs (Zr (Zg rfl (Zn (Zt (Ze (ret1 (cs' := [row _ _ _, slv _ _ _ _ _ _, slv _ _ _ _ _ _]) (.inl rfl) Zu rfl rfl ?_)))))))))
        rw [hst]
        exact ⟨⟨_, _, _, _⟩, rfl, rfl⟩
      simp only [hc13, cond_true, cond_false] at hst
      refine Zc (Zo (Zt (Zs (Zr (Zg rfl (Zn (Zt (Ze (ret1 (cs' := [row _ _ _, slv _ _ _ _ _ _, slv _ _ _ _ _ _]) (.inl rfl) Zu rfl rfl ?_)))))))))
      rw [hst]
      exact ⟨⟨_, _, _, _⟩, rfl, rfl⟩
    obtain rfl : ok = true := (by simpa using hc10)
    refine Zc (Zt (Zs (Zr (Zm rfl (Zm rfl (Zy (y_nil (Zv rfl)) (Zy (y_field 0 rfl (Zv rfl) Zf) ?_)))))))
    refine Zy (y_field 3 rfl (Zv rfl) Zf) ?_
    refine wl_t0 (t_store (fun _ => rfl) rfl rfl rfl Za Zp) ?_
    rintro _ _ ⟨rfl, rfl⟩
    refine Zn (Zt (Zs (Zr (Zm rfl (Zy (y_neq (Zv rfl) (Zv rfl) rfl) (Zn (Zt ?_)))))))
    refine wc_cond _ rfl (fun hc13 => ?_) (fun hc13 => ?_)
    · simp only [hc13, cond_true, cond_false] at hst
      refine Zr (Zm rfl (Zm rfl (wl_t (t_buildSl1 rfl rfl (fun _ => rfl) (fun _ => rfl) rfl rfl) rfl ?_)))
      rintro _ _ ⟨b74, rfl, rfl⟩
      refine wl_t (t_callS (runF K X ((R.wd l).wfl fl)) rfl (fun _ _ => rfl) Zi (fun w hi hin => push_ok K X ((R.wd l).wfl fl) _ 1 1 [v] (show l.length + 1 ≤ 1000000 by omega) w hin (fun w' hk => hi.rdKs Zi Zh hk))) rfl ?_
      rintro _ _ ⟨_, ⟨A', c', rfl, rfl⟩, rfl⟩
      refine Zn (Zo (Zt (Zs (Zr (Zg rfl (Zn (Zt (Ze (ret1 (cs' := [row _ _ _, slv _ _ _ _ _ _, slv _ _ _ _ _ _]) (.inl rfl) Zu rfl rfl ?_)))))))))
      rw [hst]
      exact ⟨⟨_, _, _, _⟩, rfl, rfl⟩
    simp only [hc13, cond_true, cond_false] at hst
    refine Zc (Zo (Zt (Zs (Zr (Zg rfl (Zn (Zt (Ze (ret1 (cs' := [row _ _ _, slv _ _ _ _ _ _, slv _ _ _ _ _ _]) (.inl rfl) Zu rfl rfl ?_)))))))))
    rw [hst]
    exact ⟨⟨_, _, _, _⟩, rfl, rfl⟩
  refine Zs (Zr (Zm rfl (Zy (y_eql (Zv rfl) (Zv rfl) rfl) (Zg rfl (Zn (Zt ?_))))))
  refine wc_cond _ rfl (fun hc15 => ?_) (fun hc15 => ?_)
  · have hst : reckonTo op n R = (true, (R.pushR R.s.pc).wpc th) := (by simp only [reckonTo, *, cond_true, cond_false])
    refine Zs (wc_draw ⟨fun j => List.elem j [12, 16], []⟩ Zk ?_)
    refine wa_yn 0 rfl Zk Zk Zk (y_move (Zv rfl)) rfl ?_
    refine wa_yn 1 rfl Zk Zk Zk (y_move (Zv rfl)) rfl ?_
    refine wa_yn 2 rfl Zk Zk Zk (y_nil (Zv rfl)) rfl ?_
    refine wa_yn 3 rfl Zk Zk Zk (y_field 0 rfl (Zv rfl) Zf) rfl ?_
    refine wa_yn 4 rfl Zk Zk Zk (y_field 2 rfl (Zv rfl) Zf) rfl ?_
    refine wa_ln 5 rfl Zk Zk Zk Zk (y_load (fun _ => rfl) (Zv rfl)) (row_cell Zh rfl) rfl ?_
    refine wa_yn 6 rfl Zk Zk Zk (y_move (Zv rfl)) rfl ?_
    refine wa_yn 7 rfl Zk Zk Zk (y_nil (Zv rfl)) rfl ?_
    refine wa_yn 8 rfl Zk Zk Zk (y_field 0 rfl (Zv rfl) Zf) rfl ?_
    refine wa_yn 9 rfl Zk Zk Zk (y_field 0 rfl (Zv rfl) Zf) rfl ?_
    refine wa_1 10 Zk ?_
    refine wi_yn rfl (y_load (fun _ => rfl) (Zv rfl)) (row_cell Zh rfl) rfl ?_
    refine wa_1 11 Zk ?_
    refine wi_t rfl rfl (t_buildSl1 rfl rfl (fun _ => rfl) (fun _ => rfl) rfl rfl) (fun _ _ _ _ _ _ _ h => by cases h) rfl ?_
    rintro _ _ ⟨b90, rfl, rfl⟩
    refine wa_1 12 Zk ?_
    refine wi_t rfl rfl (t_append (e := 22) (sz := 1) (bytes := 4) rfl rfl Za rfl rfl (fun w hi => hi.rd (show Has _ (slv 22 1 (some ⟨b90, 0, none⟩) 1 1 (ints .u32 [R.s.pc])) from Zh)) ints_one (by simp only [maxLen]; omega) (by omega)) (fun _ _ _ _ _ _ _ h => by cases h) rfl ?_
    rintro _ _ ⟨A', c', rfl, rfl⟩
    refine wa_yn 13 rfl Zk Zk Zk (y_nil (Zv rfl)) rfl ?_
    refine wa_yn 14 rfl Zk Zk Zk (y_field 0 rfl (Zv rfl) Zf) rfl ?_
    refine wa_yn 15 rfl Zk Zk Zk (y_field 2 rfl (Zv rfl) Zf) rfl ?_
    refine wa_1 16 Zk ?_
    refine wi_t0 rfl rfl (t_store (fun _ => rfl) rfl rfl rfl Za Zp) (fun _ _ _ _ _ _ _ h => by cases h) ?_
    rintro _ _ ⟨rfl, rfl⟩
    refine wa_done Zk ?_
    refine Zt (Zr (Zm rfl (Zm rfl (Zy (y_nil (Zv rfl)) (Zy (y_field 0 rfl (Zv rfl) Zf) ?_)))))
    refine Zy (y_field 0 rfl (Zv rfl) Zf) ?_
    refine wl_t0 (t_store (fun _ => rfl) rfl rfl rfl Za Zp) ?_
    rintro _ _ ⟨rfl, rfl⟩
    refine Zn (Zo (Zt (Zs (Zr (Zg rfl (Zn (Zt (Ze (ret1 (cs' := [row _ _ _, slv _ _ _ _ _ _, slv _ _ _ _ _ _]) (.inl rfl) Zu rfl rfl ?_)))))))))
    rw [hst]
    refine ⟨⟨X.Ad, X.cd, A', c'⟩, rfl, ?_⟩
    simp only [runF, runRow, slD, slR, Run.pushR, List.length_append, ints_append, List.length_cons, List.length_nil, Nat.zero_add]
  refine Zs (Zr (Zm rfl (Zy (y_eql (Zv rfl) (Zv rfl) rfl) (Zg rfl (Zn (Zt ?_))))))
  refine wc_cond _ rfl (fun hc18 => ?_) (fun hc18 => ?_)
  · have hst : reckonTo op n R = (true, R.wpc th) := (by simp only [reckonTo, *, cond_true, cond_false])
    refine Zr (Zm rfl (Zm rfl (Zy (y_nil (Zv rfl)) (Zy (y_field 0 rfl (Zv rfl) Zf) ?_))))
    refine Zy (y_field 0 rfl (Zv rfl) Zf) ?_
    refine wl_t0 (t_store (fun _ => rfl) rfl rfl rfl Za Zp) ?_
    rintro _ _ ⟨rfl, rfl⟩
    refine Zn (Zo (Zt (Zs (Zr (Zg rfl (Zn (Zt (Ze (ret1 (cs' := [row _ _ _, slv _ _ _ _ _ _, slv _ _ _ _ _ _]) (.inl rfl) Zu rfl rfl ?_)))))))))
    rw [hst]
    exact ⟨⟨_, _, _, _⟩, rfl, rfl⟩
  refine Zs (Zr (Zm rfl (Zy (y_eql (Zv rfl) (Zv rfl) rfl) (Zg rfl (Zn (Zt ?_))))))
  refine wc_cond _ rfl (fun hc20 => ?_) (fun hc20 => ?_)
  · obtain rfl := beqZ hc20
    obtain ⟨R, l, x, rfl⟩ := Run.snocR (show 1 ≤ R.s.r.length from hnr)
    have hst : reckonTo 39 n (R.wr (l ++ [x])) = (true, (R.wr l).wpc x) := (by show (_, _) = _; rw [Run.popR_wr, Run.topR_wr])
    refine Zr (Zm rfl (Zm rfl (wl_t (t_callS (runF K X (R.wr (l ++ [x]))) rfl (fun _ _ => rfl) Zi (fun w hi hin => popr_ok K X R l x w hin)) rfl ?_)))
    rintro _ _ ⟨_, ⟨rfl, rfl⟩, rfl⟩
    refine Zy (y_nil (Zv rfl)) (Zy (y_field 0 rfl (Zv rfl) Zf) ?_)
    refine Zy (y_field 0 rfl (Zv rfl) Zf) ?_
    refine wl_t0 (t_store (fun _ => rfl) rfl rfl rfl Za Zp) ?_
    rintro _ _ ⟨rfl, rfl⟩
    refine Zn (Zo (Zt (Zs (Zr (Zg rfl (Zn (Zt (Ze (ret1 (cs' := [row _ _ _, slv _ _ _ _ _ _, slv _ _ _ _ _ _]) (.inl rfl) Zu rfl rfl ?_)))))))))
    rw [hst]
    exact ⟨⟨_, _, _, _⟩, rfl, rfl⟩
  refine Zs (Zr (Zm rfl (Zy (y_eql (Zv rfl) (Zv rfl) rfl) (Zg rfl (Zn (Zt ?_))))))
  refine wc_cond _ rfl (fun hc22 => ?_) (fun hc22 => ?_)
  · obtain rfl := beqZ hc22
    obtain ⟨R, l, x, rfl⟩ := Run.snoc (show 1 ≤ R.s.d.length from hn)
    have hst : reckonTo 40 n (R.wd (l ++ [x])) = (true, (R.wd l).wpc x) := (by show (_, _) = _; rw [Run.pop_wd, Run.top_wd])
    refine Zr (Zm rfl (Zm rfl (wl_t (t_callS (runF K X (R.wd (l ++ [x]))) rfl (fun _ _ => rfl) Zi (fun w hi hin => pop_ok K X R l x w hin)) rfl ?_)))
    rintro _ _ ⟨_, ⟨rfl, rfl⟩, rfl⟩
    refine Zy (y_nil (Zv rfl)) (Zy (y_field 0 rfl (Zv rfl) Zf) ?_)
    refine Zy (y_field 0 rfl (Zv rfl) Zf) ?_
    refine wl_t0 (t_store (fun _ => rfl) rfl rfl rfl Za Zp) ?_
    rintro _ _ ⟨rfl, rfl⟩
    refine Zn (Zo (Zt (Zs (Zr (Zg rfl (Zn (Zt (Ze (ret1 (cs' := [row _ _ _, slv _ _ _ _ _ _, slv _ _ _ _ _ _]) (.inl rfl) Zu rfl rfl ?_)))))))))
    rw [hst]
    exact ⟨⟨_, _, _, _⟩, rfl, rfl⟩
  have hst : reckonTo op n R = ((arHolds op R.s.flags).2, bif (arHolds op R.s.flags).1 then R.wpc th else R) := (by simp only [reckonTo, *, cond_true, cond_false])
  obtain ⟨⟨g, o⟩, hq⟩ : ∃ q, arHolds op R.s.flags = q := ⟨_, rfl⟩
  rw [hq] at hst HH
  refine Zs (Zr (Zm rfl (Zm rfl (Zy (y_nil (Zv rfl)) (Zy (y_field 0 rfl (Zv rfl) Zf) ?_)))))
  refine Zy (y_field 3 rfl (Zv rfl) Zf) ?_
  refine Zz rfl ?_
  refine wl_t (t_call rfl (fun _ _ => rfl) (fun w hi => HH w)) rfl ?_
  rintro _ _ ⟨_, ⟨rfl, rfl⟩, rfl⟩
  refine Zm rfl (Zy (y_extractN (Zv rfl) (.zero _ _)) (Zy (y_extractN (Zv rfl) (.succ _ (.zero _ _))) (Zg rfl (Zg rfl (Zn (Zt (Zs (Zs (Zr (Zm rfl (Zn (Zt ?_))))))))))))
  refine wc_cond _ rfl (fun hc4 => ?_) (fun hc4 => ?_)
  · obtain rfl : g = true := hc4
    refine Zr (Zm rfl (Zm rfl (Zy (y_nil (Zv rfl)) (Zy (y_field 0 rfl (Zv rfl) Zf) ?_))))
    refine Zy (y_field 0 rfl (Zv rfl) Zf) ?_
    refine wl_t0 (t_store (fun _ => rfl) rfl rfl rfl Za Zp) ?_
    rintro _ _ ⟨rfl, rfl⟩
    refine Zn (Zt (Zs (Zr (Zm rfl (Zg rfl (Zn (Zt (Ze (Zq (Zw (ret1 (cs' := [row _ _ _, slv _ _ _ _ _ _, slv _ _ _ _ _ _]) (.inl rfl) Zu rfl rfl ?_)))))))))))
    rw [hst]
    exact ⟨⟨_, _, _, _⟩, rfl, rfl⟩
  obtain rfl : g = false := hc4
  refine Zc (Zt (Zs (Zr (Zm rfl (Zg rfl (Zn (Zt (Ze (Zq (Zw (ret1 (cs' := [row _ _ _, slv _ _ _ _ _ _, slv _ _ _ _ _ _]) (.inl rfl) Zu rfl rfl ?_)))))))))))
  rw [hst]
  exact ⟨⟨_, _, _, _⟩, rfl, rfl⟩
end Go.Proofs.YtobjiljkfmcalaaGreat
