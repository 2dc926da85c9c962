/- The document's instruction: what moves words alone; what jumps. -/
import Derived.Test.YthcpmpmbgbibfaaGreatDoorSsF
import Derived.Test.YthcpmpmbgbibfaaGreatDoorInkA
import Derived.Test.YthcpmpmbgbibfaaGreatDoorSqL
set_option linter.unusedSimpArgs false
set_option linter.unusedVariables false
set_option maxRecDepth 100000
namespace Go.Ink
open Go.RowKit
theorem swap_set (l : List Int) (x y : Int) : ((((l ++ [x]) ++ [y]).set (l.length + 1) x).set l.length y) = l ++ [y, x] := by
 have e1 : ((l ++ [x]) ++ [y]).set (l.length + 1) x = (l ++ [x]) ++ [x] := by
  have h := set_last (l ++ [x]) y x
  rw [List.length_append] at h
  exact h
 rw [e1, List.append_assoc, List.set_append_right _ _ (Nat.le_refl _), Nat.sub_self]
 rfl
theorem snoc2_get (l : List Int) (x y : Int) : ((l ++ [x]) ++ [y])[l.length]? = some x := by
 rw [List.append_assoc, List.getElem?_append_right (Nat.le_refl _), Nat.sub_self]
 rfl
theorem snoc2_get1 (l : List Int) (x y : Int) : ((l ++ [x]) ++ [y])[l.length + 1]? = some y := by
 have h := snoc_get (l ++ [x]) y
 rw [List.length_append] at h
 exact h
end Go.Ink
namespace Go.Proofs.YthcpmpmbgbibfaaGreatDoor
open Go.RowKit Go.Ink
attribute [local irreducible] OpY GuardIs

abbrev rsRow (br : Nat) (X : SAdr) (s : St) (tr dv : Bool) : Chunk := row br [.int .u32 s.pc, .slice X.Ad s.d.length X.cd, .slice X.Ar s.r.length X.cr, .int .u32 s.flags, .bool s.super, .bool s.paging, .bool s.ie, .int .u32 s.root, .int .u32 s.vec, .int .u32 s.epc, .int .u32 s.cause, .int .u32 s.addr, .bool s.esuper, .bool s.eie, .int .u64 s.count, .bool s.halted, .bool tr, .bool dv, .slice none 0 0] 105
abbrev rsF (br : Nat) (X : SAdr) (s : St) (dv : Bool) : List Chunk := [rsRow br X s false dv, slD s X.Ad X.cd, slR s X.Ar X.cr]
set_option maxHeartbeats 4000000 in
theorem refstacks_ok (br : Nat) (X : SAdr) (R : Run) (dv : Bool) (op n : Int) (h0 : 0 ≤ op) (h8 : op ≤ 8) (hd : R.s.d.length ≤ 100000) (hr : R.s.r.length ≤ 100000) (hn : (opNeeds op).1.1 ≤ R.s.d.length) (hnr : (opNeeds op).2.1 ≤ R.s.r.length) (w : World) (hi : Inv w (blocks (rsF br X R.s dv)) (rsF br X R.s dv) w) :
  Ctr Tryz.prog 125 [.pointer (some ⟨br, 0, none⟩), .agg #[.int .i64 op, .int .u32 n]] w (rsF br X R.s dv) (fun v cs => ∃ X', v = .tuple #[] ∧ cs = rsF br X' ((stackTo op n R).getD R).s dv) := by
 obtain ⟨Ad, cd, Ar, cr⟩ := X
 refine fn_ctr Tryz.func125 rfl Tryz.ntmps125 rfl hi ?_
 refine Zs (Zr (ZO fun b3 => ?_))
 refine Zn (Zt (Zs (wc_draw ⟨fun j => List.elem j [], []⟩ Zk ?_)))
 refine ZE 0 ?_
 refine ZE 1 ?_
 refine ZFe 2 1 ?_
 refine ZG 3 ?_
 refine ZE 4 ?_
 refine ZE 5 ?_
 refine ZE 6 ?_
 refine ZFe 7 2 ?_
 refine ZG 8 ?_
 refine ZE 9 ?_
 refine ZE 10 ?_
 refine ZE 11 ?_
 refine wa_done Zk ?_
 refine Zt (Zs (Zr (ZFa 0 ?_)))
 refine ZC ?_
 refine Zn (Zt (Zx (Zs (Zs (Zr (ZA ?_))))))
 refine ZA ?_
 refine Zn (Zt ?_)
 refine wc_cond _ rfl (fun hc3 => ?_) (fun hc3 => ?_)
 ·obtain rfl := beqZ hc3
  have hst : stackTo 1 n R = some (R.push [n]) := rfl
  refine Zc (Zt (wc_cond_t rfl (hc3) ?_))
  refine wc_draw ⟨fun j => List.elem j [8, 11], []⟩ Zk ?_
  refine ZE 0 ?_
  refine ZE 1 ?_
  refine ZE 2 ?_
  refine ZFe 3 1 ?_
  refine ZG 4 ?_
  refine ZFe 5 1 ?_
  refine wa_1 6 Zk ?_
  refine wi_yn rfl (y_load (fun _ => rfl) (Zv rfl)) (row_cell Zh rfl) rfl ?_
  refine wa_1 7 Zk ?_
  refine wi_t rfl rfl (t_buildSl1 rfl rfl (fun _ => rfl) (fun _ => rfl) rfl rfl) (fun _ _ _ _ _ _ _ h => by cases h) rfl ?_
  rintro _ _ ⟨b28, rfl, rfl⟩
  refine wa_1 8 Zk ?_
  refine wi_t rfl rfl (t_append (e := 30) (sz := 1) (bytes := 4) rfl rfl Za rfl rfl (fun w hi => hi.rd (show Has _ (slv 30 1 (some ⟨b28, 0, none⟩) 1 1 (ints .u32 [n])) from Zh)) ints_one (by simp only [maxLen]; omega) (by omega)) (fun _ _ _ _ _ _ _ h => by cases h) rfl ?_
  rintro _ _ ⟨A', c', rfl, rfl⟩
  refine ZE 9 ?_
  refine ZFe 10 1 ?_
  refine wa_1 11 Zk ?_
  refine ZQ ?_
  refine wa_done Zk ?_
  refine Zo (ret0 (cs' := [row _ _ _, slv _ _ _ _ _ _, slv _ _ _ _ _ _]) (.inr rfl) Zu rfl ?_)
  rw [hst]
  refine ⟨⟨A', c', Ar, cr⟩, rfl, ?_⟩
  show _ = rsF br ⟨A', c', Ar, cr⟩ (R.wd (R.s.d ++ [n])).s dv
  simp only [rsF, rsRow, slD, slR, List.length_append, ints_append, List.length_cons, List.length_nil, Nat.zero_add]
 refine Zr (ZA ?_)
 refine ZA ?_
 refine Zn (Zt ?_)
 refine wc_cond _ rfl (fun hc4 => ?_) (fun hc4 => ?_)
 ·obtain rfl := beqZ hc4
  have hst : stackTo 2 n R = some (R.push [n]) := rfl
  refine wc_draw ⟨fun j => List.elem j [8, 11], []⟩ Zk ?_
  refine ZE 0 ?_
  refine ZE 1 ?_
  refine ZE 2 ?_
  refine ZFe 3 1 ?_
  refine ZG 4 ?_
  refine ZFe 5 1 ?_
  refine wa_1 6 Zk ?_
  refine wi_yn rfl (y_load (fun _ => rfl) (Zv rfl)) (row_cell Zh rfl) rfl ?_
  refine wa_1 7 Zk ?_
  refine wi_t rfl rfl (t_buildSl1 rfl rfl (fun _ => rfl) (fun _ => rfl) rfl rfl) (fun _ _ _ _ _ _ _ h => by cases h) rfl ?_
  rintro _ _ ⟨b28, rfl, rfl⟩
  refine wa_1 8 Zk ?_
  refine wi_t rfl rfl (t_append (e := 30) (sz := 1) (bytes := 4) rfl rfl Za rfl rfl (fun w hi => hi.rd (show Has _ (slv 30 1 (some ⟨b28, 0, none⟩) 1 1 (ints .u32 [n])) from Zh)) ints_one (by simp only [maxLen]; omega) (by omega)) (fun _ _ _ _ _ _ _ h => by cases h) rfl ?_
  rintro _ _ ⟨A', c', rfl, rfl⟩
  refine ZE 9 ?_
  refine ZFe 10 1 ?_
  refine wa_1 11 Zk ?_
  refine ZQ ?_
  refine wa_done Zk ?_
  refine Zo (ret0 (cs' := [row _ _ _, slv _ _ _ _ _ _, slv _ _ _ _ _ _]) (.inr rfl) Zu rfl ?_)
  rw [hst]
  refine ⟨⟨A', c', Ar, cr⟩, rfl, ?_⟩
  show _ = rsF br ⟨A', c', Ar, cr⟩ (R.wd (R.s.d ++ [n])).s dv
  simp only [rsF, rsRow, slD, slR, List.length_append, ints_append, List.length_cons, List.length_nil, Nat.zero_add]
 refine Zs (Zr (ZA ?_))
 refine ZA ?_
 refine Zn (Zt ?_)
 refine wc_cond _ rfl (fun hc6 => ?_) (fun hc6 => ?_)
 ·obtain rfl := beqZ hc6
  obtain ⟨R, l, x, rfl⟩ := Run.snoc (show 1 ≤ R.s.d.length from hn)
  have hst := stackTo_dup n R l x
  have hlen : (l ++ [x]).length = l.length + 1 := (by simp)
  have hdl : (R.wd (l ++ [x])).s.d.length = l.length + 1 := hlen
  refine wc_fact (fun w hi => slv_some (hi.get (show Has _ (slD (R.wd (l ++ [x])).s Ad cd) from Zh)) (show 0 < (l ++ [x]).length by omega)) (fun hA => ?_)
  obtain ⟨bd, rfl⟩ := hA
  refine wc_draw ⟨fun j => List.elem j [14, 17], []⟩ Zk ?_
  refine ZE 0 ?_
  refine ZE 1 ?_
  refine ZE 2 ?_
  refine ZFe 3 1 ?_
  refine ZG 4 ?_
  refine ZE 5 ?_
  refine ZE 6 ?_
  refine ZFe 7 1 ?_
  refine ZE 9 ?_
  refine wa_yn 10 rfl Zk Zk Zk (y_sub (Zv rfl) (Zv rfl) (show _ = (l.length : Int) from by rw [hdl]; exact IntWalk.i64_in _ ⟨by omega, by omega⟩ |>.trans (by omega))) rfl ?_
  refine wa_1 8 Zk ?_
  refine wi_yn rfl (y_load (fun _ => rfl) (Zv rfl)) (row_cell Zh rfl) rfl ?_
  refine wa_yn 11 rfl Zk Zk Zk (y_indexR (j := l.length) (sz := 1) (r := l.length) rfl (fun _ => rfl) (Zv rfl) (Zv rfl) (fun _ => by omega) (fun _ => by omega) (by omega)) rfl ?_
  refine wa_1 12 Zk ?_
  refine wi_yn rfl (y_load (fun _ => rfl) (Zv rfl)) (sl_cellR Zh (ints_at (snoc_get l x))) rfl ?_
  refine wa_1 13 Zk ?_
  refine wi_t rfl rfl (t_buildSl1 rfl rfl (fun _ => rfl) (fun _ => rfl) rfl rfl) (fun _ _ _ _ _ _ _ h => by cases h) rfl ?_
  rintro _ _ ⟨b47, rfl, rfl⟩
  refine wa_1 14 Zk ?_
  refine wi_t rfl rfl (t_append (e := 30) (sz := 1) (bytes := 4) rfl rfl Za rfl rfl (fun w hi => hi.rd (show Has _ (slv 30 1 (some ⟨b47, 0, none⟩) 1 1 (ints .u32 [x])) from Zh)) ints_one (by simp only [maxLen]; omega) (by omega)) (fun _ _ _ _ _ _ _ h => by cases h) rfl ?_
  rintro _ _ ⟨A', c', rfl, rfl⟩
  refine ZE 15 ?_
  refine ZFe 16 1 ?_
  refine wa_1 17 Zk ?_
  refine ZQ ?_
  refine wa_done Zk ?_
  refine Zo (ret0 (cs' := [row _ _ _, slv _ _ _ _ _ _, slv _ _ _ _ _ _]) (.inr rfl) Zu rfl ?_)
  rw [hst]
  refine ⟨⟨A', c', Ar, cr⟩, rfl, ?_⟩
  show _ = rsF br ⟨A', c', Ar, cr⟩ (R.wd (l ++ [x, x])).s dv
  rw [show l ++ [x, x] = (l ++ [x]) ++ [x] by simp]
  simp only [rsF, rsRow, slD, slR, List.length_append, ints_append, List.length_cons, List.length_nil, Nat.zero_add]
 refine Zs (Zr (ZA ?_))
 refine ZA ?_
 refine Zn (Zt ?_)
 refine wc_cond _ rfl (fun hc8 => ?_) (fun hc8 => ?_)
 ·obtain rfl := beqZ hc8
  obtain ⟨R, l, x, rfl⟩ := Run.snoc (show 1 ≤ R.s.d.length from hn)
  have hst := stackTo_drop n R l x
  have hlen : (l ++ [x]).length = l.length + 1 := (by simp)
  have hdl : (R.wd (l ++ [x])).s.d.length = l.length + 1 := hlen
  refine wc_fact (fun w hi => slv_some (hi.get (show Has _ (slD (R.wd (l ++ [x])).s Ad cd) from Zh)) (show 0 < (l ++ [x]).length by omega)) (fun hA => ?_)
  obtain ⟨bd, rfl⟩ := hA
  refine wc_fact (fun w hi => (slvok_rd (hi.get (show Has _ (slD (R.wd (l ++ [x])).s (some ⟨bd, 0, none⟩) cd) from Zh))).cap) (fun hcap => ?_)
  have hcap : (l ++ [x]).length ≤ cd := hcap
  have hcap2 : (l ++ [x]).length ≤ (SAdr.mk (some ⟨bd, 0, none⟩) cd Ar cr).cd := hcap
  refine Zr (ZA ?_)
  iterate 2 refine ZA ?_
  refine ZFa 1 ?_
  refine ZC ?_
  refine ZA ?_
  refine Zy (y_sub (Zv rfl) (Zv rfl) (show _ = (l.length : Int) from by rw [hdl]; exact IntWalk.i64_in _ ⟨by omega, by omega⟩ |>.trans (by omega))) ?_
  refine Zy (y_slice0 (l.length) rfl (fun _ => rfl) (Zv rfl) (Zv rfl) (fun _ => by first | rfl | omega) (fun _ => by omega)) ?_
  refine ZA ?_
  refine ZFa 1 ?_
  refine ZL ?_
  refine Zn (Zo (qok_conv (c := slD (R.wd (l ++ [x])).s (some ⟨bd, 0, none⟩) cd) (c' := slD (R.wd l).s (some ⟨bd, 0, none⟩) cd) Za rfl (fun w h => sl_pop h) ?_))
  refine ret0 (cs' := [row _ _ _, slv _ _ _ _ _ _, slv _ _ _ _ _ _]) (.inr rfl) Zu rfl ?_
  rw [hst]
  exact ⟨⟨some ⟨bd, 0, none⟩, cd, Ar, cr⟩, rfl, rfl⟩
 refine Zs (Zr (ZA ?_))
 refine ZA ?_
 refine Zn (Zt ?_)
 refine wc_cond _ rfl (fun hc10 => ?_) (fun hc10 => ?_)
 ·obtain rfl := beqZ hc10
  obtain ⟨R, l, x, y, rfl⟩ := Run.snoc2 (show 2 ≤ R.s.d.length from hn)
  have hst := stackTo_swap n R l x y
  have hlen : ((l ++ [x]) ++ [y]).length = l.length + 2 := (by simp)
  have hdl : (R.wd ((l ++ [x]) ++ [y])).s.d.length = l.length + 2 := hlen
  refine wc_fact (fun w hi => slv_some (hi.get (show Has _ (slD (R.wd ((l ++ [x]) ++ [y])).s Ad cd) from Zh)) (show 0 < ((l ++ [x]) ++ [y]).length by omega)) (fun hA => ?_)
  obtain ⟨bd, rfl⟩ := hA
  refine wc_draw ⟨fun j => List.elem j [29, 31], []⟩ Zk ?_
  refine ZE 0 ?_
  refine ZE 1 ?_
  refine ZFe 2 1 ?_
  refine ZG 3 ?_
  refine ZE 4 ?_
  refine wa_yn 5 rfl Zk Zk Zk (y_sub (Zv rfl) (Zv rfl) (show _ = ((l.length + 1 : Nat) : Int) from by rw [hdl]; exact IntWalk.i64_in _ ⟨by omega, by omega⟩ |>.trans (by omega))) rfl ?_
  refine ZE 6 ?_
  refine ZE 7 ?_
  refine ZFe 8 1 ?_
  refine ZG 9 ?_
  refine ZE 10 ?_
  refine wa_yn 11 rfl Zk Zk Zk (y_sub (Zv rfl) (Zv rfl) (show _ = (l.length : Int) from by rw [hdl]; exact IntWalk.i64_in _ ⟨by omega, by omega⟩ |>.trans (by omega))) rfl ?_
  refine ZE 12 ?_
  refine ZE 13 ?_
  refine ZFe 14 1 ?_
  refine ZG 15 ?_
  refine ZE 16 ?_
  refine wa_yn 17 rfl Zk Zk Zk (y_sub (Zv rfl) (Zv rfl) (show _ = (l.length : Int) from by rw [hdl]; exact IntWalk.i64_in _ ⟨by omega, by omega⟩ |>.trans (by omega))) rfl ?_
  refine wa_yn 18 rfl Zk Zk Zk (y_indexR (j := l.length) (sz := 1) (r := l.length) rfl (fun _ => rfl) (Zv rfl) (Zv rfl) (fun _ => by omega) (fun _ => by omega) (by omega)) rfl ?_
  refine wa_ln 19 rfl Zk Zk Zk Zk (y_load (fun _ => rfl) (Zv rfl)) (sl_cellR Zh (ints_at (snoc2_get l x y))) rfl ?_
  refine ZE 20 ?_
  refine ZE 21 ?_
  refine ZFe 22 1 ?_
  refine ZG 23 ?_
  refine ZE 24 ?_
  refine wa_yn 25 rfl Zk Zk Zk (y_sub (Zv rfl) (Zv rfl) (show _ = ((l.length + 1 : Nat) : Int) from by rw [hdl]; exact IntWalk.i64_in _ ⟨by omega, by omega⟩ |>.trans (by omega))) rfl ?_
  refine wa_yn 26 rfl Zk Zk Zk (y_indexR (j := (l.length + 1)) (sz := 1) (r := (l.length + 1)) rfl (fun _ => rfl) (Zv rfl) (Zv rfl) (fun _ => by omega) (fun _ => by omega) (by omega)) rfl ?_
  refine wa_ln 27 rfl Zk Zk Zk Zk (y_load (fun _ => rfl) (Zv rfl)) (sl_cellR Zh (ints_at (snoc2_get1 l x y))) rfl ?_
  refine wa_yn 28 rfl Zk Zk Zk (y_indexR (j := (l.length + 1)) (sz := 1) (r := (l.length + 1)) rfl (fun _ => rfl) (Zv rfl) (Zv rfl) (fun _ => by omega) (fun _ => by omega) (by omega)) rfl ?_
  refine wa_1 29 Zk ?_
  refine wi_t0 rfl rfl (t_storeS (fun _ => rfl) rfl rfl rfl Za (by omega)) (fun _ _ _ _ _ _ _ h => by cases h) ?_
  rintro _ _ ⟨rfl, rfl⟩
  refine wa_yn 30 rfl Zk Zk Zk (y_indexR (j := l.length) (sz := 1) (r := l.length) rfl (fun _ => rfl) (Zv rfl) (Zv rfl) (fun _ => by omega) (fun _ => by omega) (by omega)) rfl ?_
  refine wa_1 31 Zk ?_
  refine wi_t0 rfl rfl (t_storeS (fun _ => rfl) rfl rfl rfl Za (by omega)) (fun _ _ _ _ _ _ _ h => by cases h) ?_
  rintro _ _ ⟨rfl, rfl⟩
  rw [ints_set', ints_set', show ((R.wd ((l ++ [x]) ++ [y])).s.d.set (l.length + 1) x).set l.length y = l ++ [y, x] from swap_set l x y]
  refine wa_done Zk ?_
  refine Zo (ret0 (cs' := [row _ _ _, slv _ _ _ _ _ _, slv _ _ _ _ _ _]) (.inr rfl) Zu rfl ?_)
  rw [hst]
  refine ⟨⟨some ⟨bd, 0, none⟩, cd, Ar, cr⟩, rfl, ?_⟩
  show _ = rsF br ⟨some ⟨bd, 0, none⟩, cd, Ar, cr⟩ (R.wd (l ++ [y, x])).s dv
  simp only [rsF, rsRow, slD, slR, List.length_append, List.length_cons, List.length_nil, Nat.zero_add, Nat.add_assoc, Nat.reduceAdd]
 refine Zs (Zr (ZA ?_))
 refine ZA ?_
 refine Zn (Zt ?_)
 refine wc_cond _ rfl (fun hc12 => ?_) (fun hc12 => ?_)
 ·obtain rfl := beqZ hc12
  obtain ⟨R, l, x, y, rfl⟩ := Run.snoc2 (show 2 ≤ R.s.d.length from hn)
  have hst := stackTo_over n R l x y
  have hlen : ((l ++ [x]) ++ [y]).length = l.length + 2 := (by simp)
  have hdl : (R.wd ((l ++ [x]) ++ [y])).s.d.length = l.length + 2 := hlen
  refine wc_fact (fun w hi => slv_some (hi.get (show Has _ (slD (R.wd ((l ++ [x]) ++ [y])).s Ad cd) from Zh)) (show 0 < ((l ++ [x]) ++ [y]).length by omega)) (fun hA => ?_)
  obtain ⟨bd, rfl⟩ := hA
  refine wc_draw ⟨fun j => List.elem j [14, 17], []⟩ Zk ?_
  refine ZE 0 ?_
  refine ZE 1 ?_
  refine ZE 2 ?_
  refine ZFe 3 1 ?_
  refine ZG 4 ?_
  refine ZE 5 ?_
  refine ZE 6 ?_
  refine ZFe 7 1 ?_
  refine ZE 9 ?_
  refine wa_yn 10 rfl Zk Zk Zk (y_sub (Zv rfl) (Zv rfl) (show _ = (l.length : Int) from by rw [hdl]; exact IntWalk.i64_in _ ⟨by omega, by omega⟩ |>.trans (by omega))) rfl ?_
  refine wa_1 8 Zk ?_
  refine wi_yn rfl (y_load (fun _ => rfl) (Zv rfl)) (row_cell Zh rfl) rfl ?_
  refine wa_yn 11 rfl Zk Zk Zk (y_indexR (j := l.length) (sz := 1) (r := l.length) rfl (fun _ => rfl) (Zv rfl) (Zv rfl) (fun _ => by omega) (fun _ => by omega) (by omega)) rfl ?_
  refine wa_1 12 Zk ?_
  refine wi_yn rfl (y_load (fun _ => rfl) (Zv rfl)) (sl_cellR Zh (ints_at (snoc2_get l x y))) rfl ?_
  refine wa_1 13 Zk ?_
  refine wi_t rfl rfl (t_buildSl1 rfl rfl (fun _ => rfl) (fun _ => rfl) rfl rfl) (fun _ _ _ _ _ _ _ h => by cases h) rfl ?_
  rintro _ _ ⟨b110, rfl, rfl⟩
  refine wa_1 14 Zk ?_
  refine wi_t rfl rfl (t_append (e := 30) (sz := 1) (bytes := 4) rfl rfl Za rfl rfl (fun w hi => hi.rd (show Has _ (slv 30 1 (some ⟨b110, 0, none⟩) 1 1 (ints .u32 [x])) from Zh)) ints_one (by simp only [maxLen]; omega) (by omega)) (fun _ _ _ _ _ _ _ h => by cases h) rfl ?_
  rintro _ _ ⟨A', c', rfl, rfl⟩
  refine ZE 15 ?_
  refine ZFe 16 1 ?_
  refine wa_1 17 Zk ?_
  refine ZQ ?_
  refine wa_done Zk ?_
  refine Zo (ret0 (cs' := [row _ _ _, slv _ _ _ _ _ _, slv _ _ _ _ _ _]) (.inr rfl) Zu rfl ?_)
  rw [hst]
  refine ⟨⟨A', c', Ar, cr⟩, rfl, ?_⟩
  show _ = rsF br ⟨A', c', Ar, cr⟩ (R.wd (l ++ [x, y, x])).s dv
  rw [show l ++ [x, y, x] = ((l ++ [x]) ++ [y]) ++ [x] by simp]
  simp only [rsF, rsRow, slD, slR, List.length_append, ints_append, List.length_cons, List.length_nil, Nat.zero_add]
 refine Zs (Zr (ZA ?_))
 refine ZA ?_
 refine Zn (Zt ?_)
 refine wc_cond _ rfl (fun hc14 => ?_) (fun hc14 => ?_)
 ·obtain rfl := beqZ hc14
  obtain ⟨R, l, x, rfl⟩ := Run.snoc (show 1 ≤ R.s.d.length from hn)
  have hst := stackTo_tor n R l x
  have hlen : (l ++ [x]).length = l.length + 1 := (by simp)
  have hdl : (R.wd (l ++ [x])).s.d.length = l.length + 1 := hlen
  have hrr : R.s.r.length ≤ 100000 := hr
  have hrr2 : (R.wd (l ++ [x])).s.r.length ≤ 100000 := hr
  refine wc_fact (fun w hi => slv_some (hi.get (show Has _ (slD (R.wd (l ++ [x])).s Ad cd) from Zh)) (show 0 < (l ++ [x]).length by omega)) (fun hA => ?_)
  obtain ⟨bd, rfl⟩ := hA
  refine wc_fact (fun w hi => (slvok_rd (hi.get (show Has _ (slD (R.wd (l ++ [x])).s (some ⟨bd, 0, none⟩) cd) from Zh))).cap) (fun hcap => ?_)
  have hcap : (l ++ [x]).length ≤ cd := hcap
  have hcap2 : (l ++ [x]).length ≤ (SAdr.mk (some ⟨bd, 0, none⟩) cd Ar cr).cd := hcap
  refine Zs (wc_draw ⟨fun j => List.elem j [14, 17], []⟩ Zk ?_)
  refine ZE 0 ?_
  refine ZE 1 ?_
  refine ZE 2 ?_
  refine ZFe 3 2 ?_
  refine ZG 4 ?_
  refine ZE 5 ?_
  refine ZE 6 ?_
  refine ZFe 7 1 ?_
  refine ZE 9 ?_
  refine wa_yn 10 rfl Zk Zk Zk (y_sub (Zv rfl) (Zv rfl) (show _ = (l.length : Int) from by rw [hdl]; exact IntWalk.i64_in _ ⟨by omega, by omega⟩ |>.trans (by omega))) rfl ?_
  refine wa_1 8 Zk ?_
  refine wi_yn rfl (y_load (fun _ => rfl) (Zv rfl)) (row_cell Zh rfl) rfl ?_
  refine wa_yn 11 rfl Zk Zk Zk (y_indexR (j := l.length) (sz := 1) (r := l.length) rfl (fun _ => rfl) (Zv rfl) (Zv rfl) (fun _ => by omega) (fun _ => by omega) (by omega)) rfl ?_
  refine wa_1 12 Zk ?_
  refine wi_yn rfl (y_load (fun _ => rfl) (Zv rfl)) (sl_cellR Zh (ints_at (snoc_get l x))) rfl ?_
  refine wa_1 13 Zk ?_
  refine wi_t rfl rfl (t_buildSl1 rfl rfl (fun _ => rfl) (fun _ => rfl) rfl rfl) (fun _ _ _ _ _ _ _ h => by cases h) rfl ?_
  rintro _ _ ⟨b129, rfl, rfl⟩
  refine wa_1 14 Zk ?_
  refine wi_t rfl rfl (t_append (e := 30) (sz := 1) (bytes := 4) rfl rfl Za rfl rfl (fun w hi => hi.rd (show Has _ (slv 30 1 (some ⟨b129, 0, none⟩) 1 1 (ints .u32 [x])) from Zh)) ints_one (by simp only [maxLen]; omega) (by omega)) (fun _ _ _ _ _ _ _ h => by cases h) rfl ?_
  rintro _ _ ⟨A', c', rfl, rfl⟩
  refine ZE 15 ?_
  refine ZFe 16 2 ?_
  refine wa_1 17 Zk ?_
  refine ZQ ?_
  refine wa_done Zk ?_
  refine Zt (Zr (ZA ?_))
  iterate 2 refine ZA ?_
  refine ZFa 1 ?_
  refine ZC ?_
  refine ZA ?_
  refine Zy (y_sub (Zv rfl) (Zv rfl) (show _ = (l.length : Int) from by rw [hdl]; exact IntWalk.i64_in _ ⟨by omega, by omega⟩ |>.trans (by omega))) ?_
  refine Zy (y_slice0 (l.length) rfl (fun _ => rfl) (Zv rfl) (Zv rfl) (fun _ => by first | rfl | omega) (fun _ => by omega)) ?_
  refine ZA ?_
  refine ZFa 1 ?_
  refine ZL ?_
  refine Zn (Zo (qok_conv (c := slD (R.wd (l ++ [x])).s (some ⟨bd, 0, none⟩) cd) (c' := slD (R.wd l).s (some ⟨bd, 0, none⟩) cd) Za rfl (fun w h => sl_pop h) ?_))
  refine ret0 (cs' := [row _ _ _, slv _ _ _ _ _ _, slv _ _ _ _ _ _]) (.inr rfl) Zu rfl ?_
  rw [hst]
  refine ⟨⟨some ⟨bd, 0, none⟩, cd, A', c'⟩, rfl, ?_⟩
  show _ = rsF br ⟨some ⟨bd, 0, none⟩, cd, A', c'⟩ ((R.wd l).wr (R.s.r ++ [x])).s dv
  simp only [rsF, rsRow, slD, slR, List.length_append, ints_append, List.length_cons, List.length_nil, Nat.zero_add]
 refine Zs (Zr (ZA ?_))
 refine ZA ?_
 refine Zn (Zt ?_)
 refine wc_cond _ rfl (fun hc17 => ?_) (fun hc17 => ?_)
 ·obtain rfl := beqZ hc17
  obtain ⟨R, l, x, rfl⟩ := Run.snocR (show 1 ≤ R.s.r.length from hnr)
  have hst := stackTo_fromr n R l x
  have hlen : (l ++ [x]).length = l.length + 1 := (by simp)
  have hdl : (R.wr (l ++ [x])).s.r.length = l.length + 1 := hlen
  have hdd : R.s.d.length ≤ 100000 := hd
  have hdd2 : (R.wr (l ++ [x])).s.d.length ≤ 100000 := hd
  refine wc_fact (fun w hi => slv_some (hi.get (show Has _ (slR (R.wr (l ++ [x])).s Ar cr) from Zh)) (show 0 < (l ++ [x]).length by omega)) (fun hA => ?_)
  obtain ⟨bd, rfl⟩ := hA
  refine wc_fact (fun w hi => (slvok_rd (hi.get (show Has _ (slR (R.wr (l ++ [x])).s (some ⟨bd, 0, none⟩) cr) from Zh))).cap) (fun hcap => ?_)
  have hcap : (l ++ [x]).length ≤ cr := hcap
  have hcap2 : (l ++ [x]).length ≤ (SAdr.mk Ad cd (some ⟨bd, 0, none⟩) cr).cr := hcap
  refine Zs (wc_draw ⟨fun j => List.elem j [14, 17], []⟩ Zk ?_)
  refine ZE 0 ?_
  refine ZE 1 ?_
  refine ZE 2 ?_
  refine ZFe 3 1 ?_
  refine ZG 4 ?_
  refine ZE 5 ?_
  refine ZE 6 ?_
  refine ZFe 7 2 ?_
  refine ZE 9 ?_
  refine wa_yn 10 rfl Zk Zk Zk (y_sub (Zv rfl) (Zv rfl) (show _ = (l.length : Int) from by rw [hdl]; exact IntWalk.i64_in _ ⟨by omega, by omega⟩ |>.trans (by omega))) rfl ?_
  refine wa_1 8 Zk ?_
  refine wi_yn rfl (y_load (fun _ => rfl) (Zv rfl)) (row_cell Zh rfl) rfl ?_
  refine wa_yn 11 rfl Zk Zk Zk (y_indexR (j := l.length) (sz := 1) (r := l.length) rfl (fun _ => rfl) (Zv rfl) (Zv rfl) (fun _ => by omega) (fun _ => by omega) (by omega)) rfl ?_
  refine wa_1 12 Zk ?_
  refine wi_yn rfl (y_load (fun _ => rfl) (Zv rfl)) (sl_cellR Zh (ints_at (snoc_get l x))) rfl ?_
  refine wa_1 13 Zk ?_
  refine wi_t rfl rfl (t_buildSl1 rfl rfl (fun _ => rfl) (fun _ => rfl) rfl rfl) (fun _ _ _ _ _ _ _ h => by cases h) rfl ?_
  rintro _ _ ⟨b158, rfl, rfl⟩
  refine wa_1 14 Zk ?_
  refine wi_t rfl rfl (t_append (e := 30) (sz := 1) (bytes := 4) rfl rfl Za rfl rfl (fun w hi => hi.rd (show Has _ (slv 30 1 (some ⟨b158, 0, none⟩) 1 1 (ints .u32 [x])) from Zh)) ints_one (by simp only [maxLen]; omega) (by omega)) (fun _ _ _ _ _ _ _ h => by cases h) rfl ?_
  rintro _ _ ⟨A', c', rfl, rfl⟩
  refine ZE 15 ?_
  refine ZFe 16 1 ?_
  refine wa_1 17 Zk ?_
  refine ZQ ?_
  refine wa_done Zk ?_
  refine Zt (Zr (ZA ?_))
  iterate 2 refine ZA ?_
  refine ZFa 2 ?_
  refine ZC ?_
  refine ZA ?_
  refine Zy (y_sub (Zv rfl) (Zv rfl) (show _ = (l.length : Int) from by rw [hdl]; exact IntWalk.i64_in _ ⟨by omega, by omega⟩ |>.trans (by omega))) ?_
  refine Zy (y_slice0 (l.length) rfl (fun _ => rfl) (Zv rfl) (Zv rfl) (fun _ => by first | rfl | omega) (fun _ => by omega)) ?_
  refine ZA ?_
  refine ZFa 2 ?_
  refine ZL ?_
  refine Zn (Zo (qok_conv (c := slR (R.wr (l ++ [x])).s (some ⟨bd, 0, none⟩) cr) (c' := slR (R.wr l).s (some ⟨bd, 0, none⟩) cr) Za rfl (fun w h => sl_pop h) ?_))
  refine ret0 (cs' := [row _ _ _, slv _ _ _ _ _ _, slv _ _ _ _ _ _]) (.inr rfl) Zu rfl ?_
  rw [hst]
  refine ⟨⟨A', c', some ⟨bd, 0, none⟩, cr⟩, rfl, ?_⟩
  show _ = rsF br ⟨A', c', some ⟨bd, 0, none⟩, cr⟩ ((R.wr l).wd (R.s.d ++ [x])).s dv
  simp only [rsF, rsRow, slD, slR, List.length_append, ints_append, List.length_cons, List.length_nil, Nat.zero_add]
 simp only [beq_eq_false_iff_ne, ne_eq] at hc3 hc4 hc6 hc8 hc10 hc12 hc14 hc17
 obtain rfl : op = 0 := (by omega)
 have hst : stackTo 0 n R = some R := rfl
 refine Zc (Zo (ret0 (cs' := [row _ _ _, slv _ _ _ _ _ _, slv _ _ _ _ _ _]) (.inr rfl) Zu rfl ?_))
 rw [hst]
 exact ⟨⟨Ad, cd, Ar, cr⟩, rfl, rfl⟩
set_option maxHeartbeats 4000000 in
theorem refjump_ok (br : Nat) (X : SAdr) (R : Run) (dv : Bool) (op n : Int) (hnu : u32 n) (h32 : 32 ≤ op) (h40 : op ≤ 40) (hd : R.s.d.length ≤ 100000) (hr : R.s.r.length ≤ 100000) (hn : (opNeeds op).1.1 ≤ R.s.d.length) (hnr : (opNeeds op).2.1 ≤ R.s.r.length) (w : World) (hi : Inv w (blocks (rsF br X R.s dv)) (rsF br X R.s dv) w) :
  Ctr Tryz.prog 127 [.pointer (some ⟨br, 0, none⟩), .agg #[.int .i64 op, .int .u32 n]] w (rsF br X R.s dv) (fun v cs => ∃ X', v = .tuple #[] ∧ cs = rsF br X' (reckonTo op n R).2.s dv) := by
 obtain ⟨Ad, cd, Ar, cr⟩ := X
 have hno : (decide (16 ≤ op) && decide (op ≤ 25)) = false := by rw [Bool.and_eq_false_iff, decide_eq_false_iff_not, decide_eq_false_iff_not]; omega
 have HH := refholds_ok op R.s.flags
 obtain ⟨⟨go, gk⟩, hgo⟩ : ∃ q, arHolds op R.s.flags = q := ⟨_, rfl⟩
 rw [hgo] at HH
 have HS := refsign_ok n hnu
 have hth : IntKind.u32.wrap (R.s.pc + arSign n) = thereOf R n := rfl
 refine fn_ctr Tryz.func127 rfl Tryz.ntmps127 rfl hi ?_
 refine Zs (Zr (ZO fun b3 => ?_))
 refine Zn (Zt (Zs (Zr (ZA ?_))))
 refine ZA ?_
 refine ZFa 0 ?_
 refine ZC ?_
 refine ZA ?_
 refine Zn (Zt (Zs (wc_draw ⟨fun j => List.elem j [], []⟩ Zk ?_)))
 refine ZFe 0 0 ?_
 refine ZG 1 ?_
 refine ZE 2 ?_
 refine ZE 3 ?_
 refine ZFe 4 3 ?_
 refine ZG 5 ?_
 refine wa_1 6 Zk ?_
 refine ZT (fun w hi => HH w) ?_
 rintro _ _ ⟨_, ⟨rfl, rfl⟩, rfl⟩
 refine ZE 7 ?_
 refine ZE 8 ?_
 refine ZE 9 ?_
 refine ZE 10 ?_
 refine ZE 11 ?_
 refine wa_done Zk ?_
 refine Zt ?_
 refine wc_seq_mid (fun q : Bool × SAdr × Run => [(0, .pointer (some ⟨br, 0, none⟩)), (3, .pointer (some ⟨b3, 0, none⟩)), (4, .int .u32 R.s.pc), (5, .bool q.1)]) (fun q => rsF br q.2.1 q.2.2.s dv ++ [row b3 [.int .i64 op, .int .u32 n] 79]) (fun q => (reckonTo op n R).2.s = (bif q.1 then (q.2.2.wpc (thereOf R n)).s else q.2.2.s)) ?_ ?_
 ·refine Zs (Zr (ZFa 0 ?_))
  refine ZC ?_
  refine Zn (Zt (Zx (Zs (Zr (ZA ?_)))))
  refine ZA ?_
  refine Zn (Zt ?_)
  refine wc_cond _ rfl (fun hc4 => ?_) (fun hc4 => ?_)
  ·obtain rfl := beqZ hc4
   obtain ⟨R, l, x, rfl⟩ := Run.snocR (show 1 ≤ R.s.r.length from hnr)
   have hst : (reckonTo 39 n (R.wr (l ++ [x]))).2 = (R.wr l).wpc x := (by show ((R.wr (l ++ [x])).popR).wpc (R.wr (l ++ [x])).topR = _; rw [Run.popR_wr, Run.topR_wr])
   have hlen : (l ++ [x]).length = l.length + 1 := (by simp)
   have hdl : (R.wr (l ++ [x])).s.r.length = l.length + 1 := hlen
   refine wc_fact (fun w hi => slv_some (hi.get (show Has _ (slR (R.wr (l ++ [x])).s Ar cr) from Zh)) (show 0 < (l ++ [x]).length by omega)) (fun hA => ?_)
   obtain ⟨bd, rfl⟩ := hA
   refine wc_fact (fun w hi => (slvok_rd (hi.get (show Has _ (slR (R.wr (l ++ [x])).s (some ⟨bd, 0, none⟩) cr) from Zh))).cap) (fun hcap => ?_)
   have hcap : (l ++ [x]).length ≤ cr := hcap
   have hcap2 : (l ++ [x]).length ≤ (SAdr.mk Ad cd (some ⟨bd, 0, none⟩) cr).cr := hcap
   refine Zs (wc_draw ⟨fun j => List.elem j [15], []⟩ Zk ?_)
   refine ZE 0 ?_
   refine ZE 1 ?_
   refine ZE 2 ?_
   refine ZFe 3 2 ?_
   refine ZG 4 ?_
   refine ZE 5 ?_
   refine ZE 6 ?_
   refine ZFe 7 2 ?_
   refine ZG 8 ?_
   refine ZE 9 ?_
   refine wa_yn 10 rfl Zk Zk Zk (y_sub (Zv rfl) (Zv rfl) (show _ = (l.length : Int) from by rw [hdl]; exact IntWalk.i64_in _ ⟨by omega, by omega⟩ |>.trans (by omega))) rfl ?_
   refine wa_yn 11 rfl Zk Zk Zk (y_indexR (j := l.length) (sz := 1) (r := l.length) rfl (fun _ => rfl) (Zv rfl) (Zv rfl) (fun _ => by omega) (fun _ => by omega) (by omega)) rfl ?_
   refine wa_ln 12 rfl Zk Zk Zk Zk (y_load (fun _ => rfl) (Zv rfl)) (sl_cellR Zh (ints_at (snoc_get l x))) rfl ?_
   refine ZE 13 ?_
   refine ZFe 14 0 ?_
   refine wa_1 15 Zk ?_
   refine ZQ ?_
   refine wa_done Zk ?_
   refine Zt (Zs (wc_draw ⟨fun j => List.elem j [14], []⟩ Zk ?_))
   refine ZE 0 ?_
   refine ZE 1 ?_
   refine ZE 2 ?_
   refine ZFe 3 2 ?_
   refine ZG 4 ?_
   refine ZE 5 ?_
   refine ZE 6 ?_
   refine ZFe 7 2 ?_
   refine ZG 8 ?_
   refine ZE 9 ?_
   refine wa_yn 10 rfl Zk Zk Zk (y_sub (Zv rfl) (Zv rfl) (show _ = (l.length : Int) from by rw [hdl]; exact IntWalk.i64_in _ ⟨by omega, by omega⟩ |>.trans (by omega))) rfl ?_
   refine wa_yn 11 rfl Zk Zk Zk (y_slice0 (l.length) rfl (fun _ => rfl) (Zv rfl) (Zv rfl) (fun _ => by first | rfl | omega) (fun _ => by omega)) rfl ?_
   refine ZE 12 ?_
   refine ZFe 13 2 ?_
   refine wa_1 14 Zk ?_
   refine ZQ ?_
   refine wa_done Zk ?_
   refine Zt (Ze (Zq (Zw (qok_conv (c := slR (R.wr (l ++ [x])).s (some ⟨bd, 0, none⟩) cr) (c' := slR (R.wr l).s (some ⟨bd, 0, none⟩) cr) Za rfl (fun w h => sl_pop h) ?_))))
   refine ret0 (cs' := [row _ _ _, slv _ _ _ _ _ _, slv _ _ _ _ _ _]) (.inl rfl) Zu rfl ?_
   rw [hst]
   exact ⟨⟨Ad, cd, some ⟨bd, 0, none⟩, cr⟩, rfl, rfl⟩
  refine Zs (Zr (ZA ?_))
  refine ZA ?_
  refine Zn (Zt ?_)
  refine wc_cond _ rfl (fun hc7 => ?_) (fun hc7 => ?_)
  ·obtain rfl := beqZ hc7
   obtain ⟨R, l, x, rfl⟩ := Run.snoc (show 1 ≤ R.s.d.length from hn)
   have hst : (reckonTo 40 n (R.wd (l ++ [x]))).2 = (R.wd l).wpc x := (by show ((R.wd (l ++ [x])).pop).wpc (R.wd (l ++ [x])).top = _; rw [Run.pop_wd, Run.top_wd])
   have hlen : (l ++ [x]).length = l.length + 1 := (by simp)
   have hdl : (R.wd (l ++ [x])).s.d.length = l.length + 1 := hlen
   refine wc_fact (fun w hi => slv_some (hi.get (show Has _ (slD (R.wd (l ++ [x])).s Ad cd) from Zh)) (show 0 < (l ++ [x]).length by omega)) (fun hA => ?_)
   obtain ⟨bd, rfl⟩ := hA
   refine wc_fact (fun w hi => (slvok_rd (hi.get (show Has _ (slD (R.wd (l ++ [x])).s (some ⟨bd, 0, none⟩) cd) from Zh))).cap) (fun hcap => ?_)
   have hcap : (l ++ [x]).length ≤ cd := hcap
   have hcap2 : (l ++ [x]).length ≤ (SAdr.mk (some ⟨bd, 0, none⟩) cd Ar cr).cd := hcap
   refine Zs (wc_draw ⟨fun j => List.elem j [15], []⟩ Zk ?_)
   refine ZE 0 ?_
   refine ZE 1 ?_
   refine ZE 2 ?_
   refine ZFe 3 1 ?_
   refine ZG 4 ?_
   refine ZE 5 ?_
   refine ZE 6 ?_
   refine ZFe 7 1 ?_
   refine ZG 8 ?_
   refine ZE 9 ?_
   refine wa_yn 10 rfl Zk Zk Zk (y_sub (Zv rfl) (Zv rfl) (show _ = (l.length : Int) from by rw [hdl]; exact IntWalk.i64_in _ ⟨by omega, by omega⟩ |>.trans (by omega))) rfl ?_
   refine wa_yn 11 rfl Zk Zk Zk (y_indexR (j := l.length) (sz := 1) (r := l.length) rfl (fun _ => rfl) (Zv rfl) (Zv rfl) (fun _ => by omega) (fun _ => by omega) (by omega)) rfl ?_
   refine wa_ln 12 rfl Zk Zk Zk Zk (y_load (fun _ => rfl) (Zv rfl)) (sl_cellR Zh (ints_at (snoc_get l x))) rfl ?_
   refine ZE 13 ?_
   refine ZFe 14 0 ?_
   refine wa_1 15 Zk ?_
   refine ZQ ?_
   refine wa_done Zk ?_
   refine Zt (Zs (wc_draw ⟨fun j => List.elem j [14], []⟩ Zk ?_))
   refine ZE 0 ?_
   refine ZE 1 ?_
   refine ZE 2 ?_
   refine ZFe 3 1 ?_
   refine ZG 4 ?_
   refine ZE 5 ?_
   refine ZE 6 ?_
   refine ZFe 7 1 ?_
   refine ZG 8 ?_
   refine ZE 9 ?_
   refine wa_yn 10 rfl Zk Zk Zk (y_sub (Zv rfl) (Zv rfl) (show _ = (l.length : Int) from by rw [hdl]; exact IntWalk.i64_in _ ⟨by omega, by omega⟩ |>.trans (by omega))) rfl ?_
   refine wa_yn 11 rfl Zk Zk Zk (y_slice0 (l.length) rfl (fun _ => rfl) (Zv rfl) (Zv rfl) (fun _ => by first | rfl | omega) (fun _ => by omega)) rfl ?_
   refine ZE 12 ?_
   refine ZFe 13 1 ?_
   refine wa_1 14 Zk ?_
   refine ZQ ?_
   refine wa_done Zk ?_
   refine Zt (Ze (Zq (Zw (qok_conv (c := slD (R.wd (l ++ [x])).s (some ⟨bd, 0, none⟩) cd) (c' := slD (R.wd l).s (some ⟨bd, 0, none⟩) cd) Za rfl (fun w h => sl_pop h) ?_))))
   refine ret0 (cs' := [row _ _ _, slv _ _ _ _ _ _, slv _ _ _ _ _ _]) (.inl rfl) Zu rfl ?_
   rw [hst]
   exact ⟨⟨some ⟨bd, 0, none⟩, cd, Ar, cr⟩, rfl, rfl⟩
  refine Zs (Zr (ZA ?_))
  refine ZA ?_
  refine Zn (Zt ?_)
  refine wc_cond _ rfl (fun hc10 => ?_) (fun hc10 => ?_)
  ·obtain rfl := beqZ hc10
   refine Zs (Zr (ZA ?_))
   iterate 2 refine ZA ?_
   refine ZFa 2 ?_
   refine ZC ?_
   refine ZA ?_
   refine wl_t (t_buildSl1 rfl rfl (fun _ => rfl) (fun _ => rfl) rfl rfl) rfl ?_
   rintro _ _ ⟨b93, rfl, rfl⟩
   refine wl_t (t_append (e := 30) (sz := 1) (bytes := 4) rfl rfl Za rfl rfl (fun w hi => hi.rd (show Has _ (slv 30 1 (some ⟨b93, 0, none⟩) 1 1 (ints .u32 [R.s.pc])) from Zh)) ints_one (by simp only [maxLen]; omega) (by omega)) rfl ?_
   rintro _ _ ⟨A', c', rfl, rfl⟩
   refine ZA ?_
   refine ZFa 2 ?_
   refine ZL ?_
   refine Zn (Zt (Zr (ZA ?_)))
   refine Zn (Zo ?_)
   refine q_midP ((true, ⟨Ad, cd, A', c'⟩, R.pushR R.s.pc)) ?_ ?_ ?_
   ·exact rfl
   ·exact Zwk
   exact (show Pick (rsF br ⟨Ad, cd, A', c'⟩ (R.wr (R.s.r ++ [R.s.pc])).s dv ++ [row b3 [.int .i64 38, .int .u32 n] 79]) _ from by simp only [rsF, rsRow, slD, slR, List.length_append, ints_append, List.length_cons, List.length_nil, Nat.zero_add]; exact Zj)
  refine Zs (Zr (ZA ?_))
  refine ZA ?_
  refine Zn (Zt ?_)
  refine wc_cond _ rfl (fun hc13 => ?_) (fun hc13 => ?_)
  ·obtain rfl := beqZ hc13
   refine Zr (ZA ?_)
   refine Zn (Zo ?_)
   refine q_midP ((true, ⟨Ad, cd, Ar, cr⟩, R)) ?_ ?_ ?_
   ·exact rfl
   ·exact Zwk
   exact Zj
  have hst : reckonTo op n R = (gk, bif go then R.wpc (thereOf R n) else R) := (by unfold reckonTo; rw [hno, hc4, hc7, hc10, hc13, hgo]; rfl)
  refine Zc (Zo ?_)
  refine q_midP ((go, ⟨Ad, cd, Ar, cr⟩, R)) ?_ ?_ ?_
  ·(dsimp only; rw [hst]; cases go <;> rfl)
  ·exact Zwk
  exact Zj
 rintro ⟨g, X', R'⟩ hq
 dsimp only at hq ⊢
 rw [hq]
 refine Zs (Zr (ZA ?_))
 refine Zn (Zt ?_)
 refine wc_cond _ rfl (fun hc15 => ?_) (fun hc15 => ?_)
 ·subst hc15
  refine Zr (ZA ?_)
  refine ZA ?_
  refine ZFa 1 ?_
  refine ZC ?_
  refine ZS (fun w hi => HS w) ?_
  rintro _ _ ⟨_, ⟨rfl, rfl⟩, rfl⟩
  refine Zy (y_add (Zv rfl) (Zv rfl) hth) ?_
  refine ZA ?_
  refine ZFa 0 ?_
  refine ZL ?_
  refine Zn (ret0 (cs' := [row _ _ _, slv _ _ _ _ _ _, slv _ _ _ _ _ _]) (.inr rfl) Zu rfl ?_)
  exact ⟨X', rfl, rfl⟩
 subst hc15
 refine Zc (ret0 (cs' := [row _ _ _, slv _ _ _ _ _ _, slv _ _ _ _ _ _]) (.inr rfl) Zu rfl ?_)
 exact ⟨X', rfl, rfl⟩
end Go.Proofs.YthcpmpmbgbibfaaGreatDoor
