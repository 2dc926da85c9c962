/- An instruction that is being done: what moves words, what reckons or jumps. -/
import Derived.Test.YtobjiljkfmcalaaGreatSpQ
import Derived.Test.YtobjiljkfmcalaaGreatInkS
set_option linter.unusedSimpArgs false
set_option linter.unusedVariables false
set_option maxRecDepth 100000
namespace Go.Ink
open Go.RowKit
def Run.top (R : Run) : Int := R.s.d.getLastD 0
def Run.topR (R : Run) : Int := R.s.r.getLastD 0
def Run.pop (R : Run) : Run := R.wd R.s.d.dropLast
def Run.popR (R : Run) : Run := R.wr R.s.r.dropLast
def Run.push (R : Run) (l : List Int) : Run := R.wd (R.s.d ++ l)
def Run.pushR (R : Run) (x : Int) : Run := R.wr (R.s.r ++ [x])
abbrev Run.wpc (R : Run) (x : Int) : Run := ⟨⟨x, R.s.d, R.s.r, R.s.flags, R.s.super, R.s.paging, R.s.ie, R.s.root, R.s.vec, R.s.epc, R.s.cause, R.s.addr, R.s.esuper, R.s.eie, R.s.count, R.s.halted⟩, R.count, R.trap, R.device⟩
abbrev Run.wfl (R : Run) (x : Int) : Run := ⟨⟨R.s.pc, R.s.d, R.s.r, x, R.s.super, R.s.paging, R.s.ie, R.s.root, R.s.vec, R.s.epc, R.s.cause, R.s.addr, R.s.esuper, R.s.eie, R.s.count, R.s.halted⟩, R.count, R.trap, R.device⟩
theorem Run.snoc {R : Run} (h : 1 ≤ R.s.d.length) : ∃ (R' : Run) (l : List Int) (x : Int), R = R'.wd (l ++ [x]) := by
  obtain ⟨l, x, h⟩ := snoc_of h
  exact ⟨R, l, x, by rw [Run.wd, ← h]⟩
theorem Run.snocR {R : Run} (h : 1 ≤ R.s.r.length) : ∃ (R' : Run) (l : List Int) (x : Int), R = R'.wr (l ++ [x]) := by
  obtain ⟨l, x, h⟩ := snoc_of h
  exact ⟨R, l, x, by rw [Run.wr, ← h]⟩
theorem Run.snoc2 {R : Run} (h : 2 ≤ R.s.d.length) : ∃ (R' : Run) (l : List Int) (x y : Int), R = R'.wd ((l ++ [x]) ++ [y]) := by
  obtain ⟨R1, l, y, rfl⟩ := Run.snoc (R := R) (by omega)
  have h : 2 ≤ (l ++ [y]).length := h
  obtain ⟨m, x, rfl⟩ := snoc_of (l := l) (by simp at h; omega)
  exact ⟨R1, m, x, y, rfl⟩
@[simp] theorem Run.top_wd (R : Run) (l : List Int) (x : Int) : (R.wd (l ++ [x])).top = x := by simp [Run.top, List.getLastD_concat]
@[simp] theorem Run.pop_wd (R : Run) (l : List Int) (x : Int) : (R.wd (l ++ [x])).pop = R.wd l := by simp [Run.pop]
@[simp] theorem Run.topR_wr (R : Run) (l : List Int) (x : Int) : (R.wr (l ++ [x])).topR = x := by simp [Run.topR, List.getLastD_concat]
@[simp] theorem Run.popR_wr (R : Run) (l : List Int) (x : Int) : (R.wr (l ++ [x])).popR = R.wr l := by simp [Run.popR]
/-- What moves words alone; none: it is none such. -/
def stackTo (op n : Int) (R : Run) : Option Run :=
  bif op == 0 then some R else bif op == 1 then some (R.push [n]) else bif op == 2 then some (R.push [n]) else bif op == 3 then some (R.pop.push [R.top, R.top]) else bif op == 4 then some R.pop else
  bif op == 5 then some (R.pop.pop.push [R.top, R.pop.top]) else bif op == 6 then some (R.pop.pop.push [R.pop.top, R.top, R.pop.top]) else bif op == 7 then some (R.pop.pushR R.top) else bif op == 8 then some (R.popR.push [R.topR]) else none
theorem stackTo_dup (n : Int) (R : Run) (l : List Int) (x : Int) : stackTo 3 n (R.wd (l ++ [x])) = some (R.wd (l ++ [x, x])) := by
  show some _ = _
  rw [Run.top_wd, Run.pop_wd]; rfl
theorem stackTo_drop (n : Int) (R : Run) (l : List Int) (x : Int) : stackTo 4 n (R.wd (l ++ [x])) = some (R.wd l) := by
  show some _ = _
  rw [Run.pop_wd]
theorem stackTo_swap (n : Int) (R : Run) (l : List Int) (x y : Int) : stackTo 5 n (R.wd ((l ++ [x]) ++ [y])) = some (R.wd (l ++ [y, x])) := by
  show some _ = _
  rw [Run.top_wd, Run.pop_wd, Run.top_wd, Run.pop_wd]; rfl
theorem stackTo_over (n : Int) (R : Run) (l : List Int) (x y : Int) : stackTo 6 n (R.wd ((l ++ [x]) ++ [y])) = some (R.wd (l ++ [x, y, x])) := by
  show some _ = _
  rw [Run.top_wd, Run.pop_wd, Run.top_wd, Run.pop_wd]; rfl
theorem stackTo_tor (n : Int) (R : Run) (l : List Int) (x : Int) : stackTo 7 n (R.wd (l ++ [x])) = some ((R.wd l).wr (R.s.r ++ [x])) := by
  show some _ = _
  rw [Run.top_wd, Run.pop_wd]; rfl
theorem stackTo_fromr (n : Int) (R : Run) (l : List Int) (x : Int) : stackTo 8 n (R.wr (l ++ [x])) = some ((R.wr l).wd (R.s.d ++ [x])) := by
  show some _ = _
  rw [Run.topR_wr, Run.popR_wr]; rfl
theorem stackTo_none {op : Int} (n : Int) (R : Run) (h0 : (op == 0) = false) (h1 : (op == 1) = false) (h2 : (op == 2) = false) (h3 : (op == 3) = false) (h4 : (op == 4) = false) (h5 : (op == 5) = false) (h6 : (op == 6) = false) (h7 : (op == 7) = false) (h8 : (op == 8) = false) : stackTo op n R = none := by
  simp only [stackTo, *, cond_false]
theorem beqZ {a b : Int} (h : (a == b) = true) : a = b := by simpa using h
end Go.Ink
namespace Go.Proofs.YtobjiljkfmcalaaGreat
open Go.RowKit Go.Ink

theorem stack_ok (K : RLoc) (X : SAdr) (R : Run) (op n : Int) (hd : R.s.d.length ≤ 100000) (hr : R.s.r.length ≤ 100000) (hn : (opNeeds op).1.1 ≤ R.s.d.length) (hnr : (opNeeds op).2.1 ≤ R.s.r.length) (w : World) (hi : Inv w (blocks (runF K X R)) (runF K X R) w) :
    Ctr Tryz.prog 45 [.pointer (some ⟨K.br, 0, none⟩), .agg #[.int .i64 op, .int .u32 n]] w (runF K X R) (fun v cs => ∃ X', v = .bool (stackTo op n R).isSome ∧ cs = runF K X' ((stackTo op n R).getD R)) := by
  refine fn_ctr Tryz.func45 rfl Tryz.ntmps45 rfl hi ?_
  refine Zs (Zr (wl_t (t_box rfl rfl) rfl ?_))
  rintro _ _ ⟨b3, rfl, rfl⟩
  refine Zg rfl (Zn (Zt (Zs (Zs (Zr (Zy (y_field 0 rfl (Zv rfl) Zf) ?_))))))
  refine Zz rfl ?_
  refine Zn (Zt (Zx (Zs (Zr (Zy (y_eql (Zv rfl) (Zv rfl) rfl) (Zg rfl (Zn (Zt ?_))))))))
  refine wc_cond _ rfl (fun hc3 => ?_) (fun hc3 => ?_)
  · obtain rfl := beqZ hc3
    have hst : stackTo 0 n R = some R := rfl
    refine Zc (Zo (Zt (Zs (Zr (Zg rfl (Zn (Zt (Ze (ret1 (cs' := [row _ _ _, slv _ _ _ _ _ _, slv _ _ _ _ _ _]) (.inl rfl) Zu rfl rfl ?_)))))))))
    rw [hst]
    exact ⟨⟨_, _, _, _⟩, rfl, rfl⟩
  refine Zs (Zs (Zr (Zy (y_eql (Zv rfl) (Zv rfl) rfl) (Zg rfl (Zn (Zt ?_))))))
  refine wc_cond _ rfl (fun hc4 => ?_) (fun hc4 => ?_)
  · obtain rfl := beqZ hc4
    have hst : stackTo 1 n R = some (R.push [n]) := rfl
    refine Zc (Zt (wc_cond_t rfl (hc4) ?_))
    refine Zr (Zm rfl (Zy (y_field 1 rfl (Zv rfl) Zf) ?_))
    refine Zz rfl ?_
    refine wl_t (t_buildSl1 rfl rfl (fun _ => rfl) (fun _ => rfl) rfl rfl) rfl ?_
    rintro _ _ ⟨b20, rfl, rfl⟩
    refine wl_t (t_callS (runF K X R) rfl (fun _ _ => rfl) Zi (fun w hi hin => push_ok K X R _ 1 1 [n] (by omega) w hin (fun w' hk => hi.rdKs Zi Zh hk))) rfl ?_
    rintro _ _ ⟨_, ⟨A', c', rfl, rfl⟩, rfl⟩
    refine Zn (Zo (Zt (Zs (Zr (Zg rfl (Zn (Zt (Ze (ret1 (cs' := [row _ _ _, slv _ _ _ _ _ _, slv _ _ _ _ _ _]) (.inl rfl) Zu rfl rfl ?_)))))))))
    rw [hst]
    exact ⟨⟨_, _, _, _⟩, rfl, rfl⟩
  refine Zr (Zy (y_eql (Zv rfl) (Zv rfl) rfl) (Zg rfl (Zn (Zt ?_))))
  refine wc_cond _ rfl (fun hc5 => ?_) (fun hc5 => ?_)
  · obtain rfl := beqZ hc5
    have hst : stackTo 2 n R = some (R.push [n]) := rfl
    refine Zr (Zm rfl (Zy (y_field 1 rfl (Zv rfl) Zf) ?_))
    refine Zz rfl ?_
    refine wl_t (t_buildSl1 rfl rfl (fun _ => rfl) (fun _ => rfl) rfl rfl) rfl ?_
    rintro _ _ ⟨b20, rfl, rfl⟩
    refine wl_t (t_callS (runF K X R) rfl (fun _ _ => rfl) Zi (fun w hi hin => push_ok K X R _ 1 1 [n] (by omega) w hin (fun w' hk => hi.rdKs Zi Zh hk))) rfl ?_
    rintro _ _ ⟨_, ⟨A', c', rfl, rfl⟩, rfl⟩
    refine Zn (Zo (Zt (Zs (Zr (Zg rfl (Zn (Zt (Ze (ret1 (cs' := [row _ _ _, slv _ _ _ _ _ _, slv _ _ _ _ _ _]) (.inl rfl) Zu rfl rfl ?_)))))))))
    rw [hst]
    exact ⟨⟨_, _, _, _⟩, rfl, rfl⟩
  refine Zs (Zr (Zy (y_eql (Zv rfl) (Zv rfl) rfl) (Zg rfl (Zn (Zt ?_)))))
  refine wc_cond _ rfl (fun hc7 => ?_) (fun hc7 => ?_)
  · obtain rfl := beqZ hc7
    obtain ⟨R, l, x, rfl⟩ := Run.snoc (show 1 ≤ R.s.d.length from hn)
    have hst := stackTo_dup n R l x
    have hll : l.length + 1 ≤ 100000 := (by have : (l ++ [x]).length ≤ 100000 := hd; simpa using this)
    refine Zs (Zr (Zm rfl (wl_t (t_callS (runF K X (R.wd (l ++ [x]))) rfl (fun _ _ => rfl) Zi (fun w hi hin => pop_ok K X R l x w hin)) rfl ?_)))
    rintro _ _ ⟨_, ⟨rfl, rfl⟩, rfl⟩
    refine Zg rfl (Zn (Zt (Zr (Zm rfl (Zm rfl (Zm rfl (wl_t (t_buildSl1 rfl rfl (fun _ => rfl) (fun _ => rfl) rfl rfl) rfl ?_)))))))
    rintro _ _ ⟨b29, rfl, rfl⟩
    refine wl_t (t_callS (runF K X (R.wd l)) rfl (fun _ _ => rfl) Zi (fun w hi hin => push_ok K X (R.wd l) _ 2 2 [x, x] (show l.length + 2 ≤ 1000000 by omega) w hin (fun w' hk => hi.rdKs Zi Zh hk))) rfl ?_
    rintro _ _ ⟨_, ⟨A', c', rfl, rfl⟩, rfl⟩
    refine Zn (Zo (Zt (Zs (Zr (Zg rfl (Zn (Zt (Ze (ret1 (cs' := [row _ _ _, slv _ _ _ _ _ _, slv _ _ _ _ _ _]) (.inl rfl) Zu rfl rfl ?_)))))))))
    rw [hst]
    exact ⟨⟨_, _, _, _⟩, rfl, rfl⟩
  refine Zs (Zr (Zy (y_eql (Zv rfl) (Zv rfl) rfl) (Zg rfl (Zn (Zt ?_)))))
  refine wc_cond _ rfl (fun hc10 => ?_) (fun hc10 => ?_)
  · obtain rfl := beqZ hc10
    obtain ⟨R, l, x, rfl⟩ := Run.snoc (show 1 ≤ R.s.d.length from hn)
    have hst := stackTo_drop n R l x
    refine Zr (Zm rfl (wl_t (t_callS (runF K X (R.wd (l ++ [x]))) rfl (fun _ _ => rfl) Zi (fun w hi hin => pop_ok K X R l x w hin)) rfl ?_))
    rintro _ _ ⟨_, ⟨rfl, rfl⟩, rfl⟩
    refine Zn (Zo (Zt (Zs (Zr (Zg rfl (Zn (Zt (Ze (ret1 (cs' := [row _ _ _, slv _ _ _ _ _ _, slv _ _ _ _ _ _]) (.inl rfl) Zu rfl rfl ?_)))))))))
    rw [hst]
    exact ⟨⟨_, _, _, _⟩, rfl, rfl⟩
  refine Zs (Zr (Zy (y_eql (Zv rfl) (Zv rfl) rfl) (Zg rfl (Zn (Zt ?_)))))
  refine wc_cond _ rfl (fun hc12 => ?_) (fun hc12 => ?_)
  · obtain rfl := beqZ hc12
    obtain ⟨R, l, x, y, rfl⟩ := Run.snoc2 (show 2 ≤ R.s.d.length from hn)
    have hst := stackTo_swap n R l x y
    have hll : l.length + 2 ≤ 100000 := (by have : ((l ++ [x]) ++ [y]).length ≤ 100000 := hd; simp only [List.length_append, List.length_cons, List.length_nil] at this; omega)
    refine Zs (Zr (Zm rfl (wl_t (t_callS (runF K X (R.wd ((l ++ [x]) ++ [y]))) rfl (fun _ _ => rfl) Zi (fun w hi hin => pop_ok K X R (l ++ [x]) y w hin)) rfl ?_)))
    rintro _ _ ⟨_, ⟨rfl, rfl⟩, rfl⟩
    refine Zm rfl (wl_t (t_callS (runF K X (R.wd (l ++ [x]))) rfl (fun _ _ => rfl) Zi (fun w hi hin => pop_ok K X R l x w hin)) rfl ?_)
    rintro _ _ ⟨_, ⟨rfl, rfl⟩, rfl⟩
    refine Zg rfl (Zg rfl (Zn (Zt (Zr (Zm rfl (Zm rfl (Zm rfl (wl_t (t_buildSl1 rfl rfl (fun _ => rfl) (fun _ => rfl) rfl rfl) rfl ?_))))))))
    rintro _ _ ⟨b44, rfl, rfl⟩
    refine wl_t (t_callS (runF K X (R.wd l)) rfl (fun _ _ => rfl) Zi (fun w hi hin => push_ok K X (R.wd l) _ 2 2 [y, x] (show l.length + 2 ≤ 1000000 by omega) w hin (fun w' hk => hi.rdKs Zi Zh hk))) rfl ?_
    rintro _ _ ⟨_, ⟨A', c', rfl, rfl⟩, rfl⟩
    refine Zn (Zo (Zt (Zs (Zr (Zg rfl (Zn (Zt (Ze (ret1 (cs' := [row _ _ _, slv _ _ _ _ _ _, slv _ _ _ _ _ _]) (.inl rfl) Zu rfl rfl ?_)))))))))
    rw [hst]
    exact ⟨⟨_, _, _, _⟩, rfl, rfl⟩
  refine Zs (Zr (Zy (y_eql (Zv rfl) (Zv rfl) rfl) (Zg rfl (Zn (Zt ?_)))))
  refine wc_cond _ rfl (fun hc15 => ?_) (fun hc15 => ?_)
  · obtain rfl := beqZ hc15
    obtain ⟨R, l, x, y, rfl⟩ := Run.snoc2 (show 2 ≤ R.s.d.length from hn)
    have hst := stackTo_over n R l x y
    have hll : l.length + 2 ≤ 100000 := (by have : ((l ++ [x]) ++ [y]).length ≤ 100000 := hd; simp only [List.length_append, List.length_cons, List.length_nil] at this; omega)
    refine Zs (Zr (Zm rfl (wl_t (t_callS (runF K X (R.wd ((l ++ [x]) ++ [y]))) rfl (fun _ _ => rfl) Zi (fun w hi hin => pop_ok K X R (l ++ [x]) y w hin)) rfl ?_)))
    rintro _ _ ⟨_, ⟨rfl, rfl⟩, rfl⟩
    refine Zm rfl (wl_t (t_callS (runF K X (R.wd (l ++ [x]))) rfl (fun _ _ => rfl) Zi (fun w hi hin => pop_ok K X R l x w hin)) rfl ?_)
    rintro _ _ ⟨_, ⟨rfl, rfl⟩, rfl⟩
    refine Zg rfl (Zg rfl (Zn (Zt (Zr (Zm rfl (Zm rfl (Zm rfl (Zm rfl (wl_t (t_buildSl1 rfl rfl (fun _ => rfl) (fun _ => rfl) rfl rfl) rfl ?_)))))))))
    rintro _ _ ⟨b56, rfl, rfl⟩
    refine wl_t (t_callS (runF K X (R.wd l)) rfl (fun _ _ => rfl) Zi (fun w hi hin => push_ok K X (R.wd l) _ 3 3 [x, y, x] (show l.length + 3 ≤ 1000000 by omega) w hin (fun w' hk => hi.rdKs Zi Zh hk))) rfl ?_
    rintro _ _ ⟨_, ⟨A', c', rfl, rfl⟩, rfl⟩
    refine Zn (Zo (Zt (Zs (Zr (Zg rfl (Zn (Zt (Ze (ret1 (cs' := [row _ _ _, slv _ _ _ _ _ _, slv _ _ _ _ _ _]) (.inl rfl) Zu rfl rfl ?_)))))))))
    rw [hst]
    exact ⟨⟨_, _, _, _⟩, rfl, rfl⟩
  refine Zs (Zr (Zy (y_eql (Zv rfl) (Zv rfl) rfl) (Zg rfl (Zn (Zt ?_)))))
  refine wc_cond _ rfl (fun hc18 => ?_) (fun hc18 => ?_)
  · obtain rfl := beqZ hc18
    obtain ⟨R, l, x, rfl⟩ := Run.snoc (show 1 ≤ R.s.d.length from hn)
    have hst := stackTo_tor n R l x
    have hrr : R.s.r.length ≤ 100000 := hr
    have hrr2 : (R.wd l).s.r.length ≤ 100000 := hr
    refine wc_draw ⟨fun j => List.elem j [7, 9, 13], []⟩ Zk ?_
    refine wa_yn 0 rfl Zk Zk Zk (y_move (Zv rfl)) rfl ?_
    refine wa_yn 1 rfl Zk Zk Zk (y_move (Zv rfl)) rfl ?_
    refine wa_yn 2 rfl Zk Zk Zk (y_nil (Zv rfl)) rfl ?_
    refine wa_yn 3 rfl Zk Zk Zk (y_field 0 rfl (Zv rfl) Zf) rfl ?_
    refine wa_yn 4 rfl Zk Zk Zk (y_field 2 rfl (Zv rfl) Zf) rfl ?_
    refine wa_yn 6 rfl Zk Zk Zk (y_move (Zv rfl)) rfl ?_
    refine wa_2 5 7 Zk ?_ ?_
    · refine wi_yn rfl (y_load (fun _ => rfl) (Zv rfl)) (row_cell Zh rfl) rfl ?_
      refine wa_1 7 Zk ?_
      refine wi_t rfl rfl (t_callS (runF K X (R.wd (l ++ [x]))) rfl (fun _ _ => rfl) Zi (fun w hi hin => pop_ok K X R l x w hin)) (fun _ _ _ _ _ _ _ h => by cases h) rfl ?_
      rintro _ _ ⟨_, ⟨rfl, rfl⟩, rfl⟩
      refine wa_1 8 Zk ?_
      refine wi_t rfl rfl (t_buildSl1 rfl rfl (fun _ => rfl) (fun _ => rfl) rfl rfl) (fun _ _ _ _ _ _ _ h => by cases h) rfl ?_
      rintro _ _ ⟨b68, rfl, rfl⟩
      refine wa_1 9 Zk ?_
      refine wi_t rfl rfl (t_append (e := 22) (sz := 1) (bytes := 4) rfl rfl Za rfl rfl (fun w hi => hi.rd (show Has _ (slv 22 1 (some ⟨b68, 0, none⟩) 1 1 (ints .u32 [x])) from Zh)) ints_one (by simp only [maxLen]; omega) (by omega)) (fun _ _ _ _ _ _ _ h => by cases h) rfl ?_
      rintro _ _ ⟨A', c', rfl, rfl⟩
      refine wa_yn 10 rfl Zk Zk Zk (y_nil (Zv rfl)) rfl ?_
      refine wa_yn 11 rfl Zk Zk Zk (y_field 0 rfl (Zv rfl) Zf) rfl ?_
      refine wa_yn 12 rfl Zk Zk Zk (y_field 2 rfl (Zv rfl) Zf) rfl ?_
      refine wa_1 13 Zk ?_
      refine wi_t0 rfl rfl (t_store (fun _ => rfl) rfl rfl rfl Za Zp) (fun _ _ _ _ _ _ _ h => by cases h) ?_
      rintro _ _ ⟨rfl, rfl⟩
      refine wa_done Zk ?_
      refine Zo (Zt (Zs (Zr (Zg rfl (Zn (Zt (Ze (ret1 (cs' := [row _ _ _, slv _ _ _ _ _ _, slv _ _ _ _ _ _]) (.inl rfl) Zu rfl rfl ?_))))))))
      rw [hst]
      refine ⟨⟨X.Ad, X.cd, A', c'⟩, rfl, ?_⟩
      show _ = runF K ⟨X.Ad, X.cd, A', c'⟩ ((R.wd l).wr (R.s.r ++ [x]))
      simp only [runF, runRow, slD, slR, List.length_append, ints_append, List.length_cons, List.length_nil, Nat.zero_add]
    refine wi_t rfl rfl (t_callS (runF K X (R.wd (l ++ [x]))) rfl (fun _ _ => rfl) Zi (fun w hi hin => pop_ok K X R l x w hin)) (fun _ _ _ _ _ _ _ h => by cases h) rfl ?_
    rintro _ _ ⟨_, ⟨rfl, rfl⟩, rfl⟩
    refine wa_ln 5 rfl Zk Zk Zk Zk (y_load (fun _ => rfl) (Zv rfl)) (row_cell Zh rfl) rfl ?_
    refine wa_1 8 Zk ?_
    refine wi_t rfl rfl (t_buildSl1 rfl rfl (fun _ => rfl) (fun _ => rfl) rfl rfl) (fun _ _ _ _ _ _ _ h => by cases h) rfl ?_
    rintro _ _ ⟨b68, rfl, rfl⟩
    refine wa_1 9 Zk ?_
    refine wi_t rfl rfl (t_append (e := 22) (sz := 1) (bytes := 4) rfl rfl Za rfl rfl (fun w hi => hi.rd (show Has _ (slv 22 1 (some ⟨b68, 0, none⟩) 1 1 (ints .u32 [x])) from Zh)) ints_one (by simp only [maxLen]; omega) (by omega)) (fun _ _ _ _ _ _ _ h => by cases h) rfl ?_
    rintro _ _ ⟨A', c', rfl, rfl⟩
    refine wa_yn 10 rfl Zk Zk Zk (y_nil (Zv rfl)) rfl ?_
    refine wa_yn 11 rfl Zk Zk Zk (y_field 0 rfl (Zv rfl) Zf) rfl ?_
    refine wa_yn 12 rfl Zk Zk Zk (y_field 2 rfl (Zv rfl) Zf) rfl ?_
    refine wa_1 13 Zk ?_
    refine wi_t0 rfl rfl (t_store (fun _ => rfl) rfl rfl rfl Za Zp) (fun _ _ _ _ _ _ _ h => by cases h) ?_
    rintro _ _ ⟨rfl, rfl⟩
    refine wa_done Zk ?_
    refine Zo (Zt (Zs (Zr (Zg rfl (Zn (Zt (Ze (ret1 (cs' := [row _ _ _, slv _ _ _ _ _ _, slv _ _ _ _ _ _]) (.inl rfl) Zu rfl rfl ?_))))))))
    rw [hst]
    refine ⟨⟨X.Ad, X.cd, A', c'⟩, rfl, ?_⟩
    show _ = runF K ⟨X.Ad, X.cd, A', c'⟩ ((R.wd l).wr (R.s.r ++ [x]))
    simp only [runF, runRow, slD, slR, List.length_append, ints_append, List.length_cons, List.length_nil, Nat.zero_add]
  refine Zs (Zr (Zy (y_eql (Zv rfl) (Zv rfl) rfl) (Zg rfl (Zn (Zt ?_)))))
  refine wc_cond _ rfl (fun hc20 => ?_) (fun hc20 => ?_)
  · obtain rfl := beqZ hc20
    obtain ⟨R, l, x, rfl⟩ := Run.snocR (show 1 ≤ R.s.r.length from hnr)
    have hst := stackTo_fromr n R l x
    have hdd : R.s.d.length ≤ 100000 := hd
    refine Zr (Zm rfl (Zm rfl (wl_t (t_callS (runF K X (R.wr (l ++ [x]))) rfl (fun _ _ => rfl) Zi (fun w hi hin => popr_ok K X R l x w hin)) rfl ?_)))
    rintro _ _ ⟨_, ⟨rfl, rfl⟩, rfl⟩
    refine wl_t (t_buildSl1 rfl rfl (fun _ => rfl) (fun _ => rfl) rfl rfl) rfl ?_
    rintro _ _ ⟨b78, rfl, rfl⟩
    refine wl_t (t_callS (runF K X (R.wr l)) rfl (fun _ _ => rfl) Zi (fun w hi hin => push_ok K X (R.wr l) _ 1 1 [x] (show R.s.d.length + 1 ≤ 1000000 by omega) w hin (fun w' hk => hi.rdKs Zi Zh hk))) rfl ?_
    rintro _ _ ⟨_, ⟨A', c', rfl, rfl⟩, rfl⟩
    refine Zn (Zo (Zt (Zs (Zr (Zg rfl (Zn (Zt (Ze (ret1 (cs' := [row _ _ _, slv _ _ _ _ _ _, slv _ _ _ _ _ _]) (.inl rfl) Zu rfl rfl ?_)))))))))
    rw [hst]
    exact ⟨⟨_, _, _, _⟩, rfl, rfl⟩
  have hst := stackTo_none n R hc3 hc4 hc5 hc7 hc10 hc12 hc15 hc18 hc20
  refine Zs (Zr (Zg rfl (Zn (Zt (Ze (Zq (Zw (ret1 (cs' := [row _ _ _, slv _ _ _ _ _ _, slv _ _ _ _ _ _]) (.inl rfl) Zu rfl rfl ?_))))))))
  rw [hst]
  exact ⟨⟨_, _, _, _⟩, rfl, rfl⟩
end Go.Proofs.YtobjiljkfmcalaaGreat
