/- Views held against one another; frames that are told. -/
import Derived.Test.YtmhpcgmjlpfheaaGreatDoorSqL
import Derived.Test.YtmhpcgmjlpfheaaGreatDoorInkA
import Derived.Test.YtmhpcgmjlpfheaaGreatDoorStJ
import Derived.Test.YtmhpcgmjlpfheaaGreatDoorInkC
import Derived.Test.YtmhpcgmjlpfheaaGreatDoorInkB
set_option linter.unusedSimpArgs false
set_option linter.unusedVariables false
set_option maxRecDepth 100000
namespace Go.Ink
open Go.RowKit
theorem slv_cells {w0 : World} {S : List Nat} {cs : List Chunk} {e sz n c b : Nat} {ad : Addr} {xs vs : List Value} (hc : Has cs (slv e sz (some ad) n c xs)) (hv : ∀ j v, vs[j]? = some v → xs[b + j]? = some v) : ∀ w, Inv w0 S cs w → cells (cellsFrom (ad.add b) 0 vs) w := fun w hi =>
 cellsFrom_of fun j v hj => by
  rw [Nat.add_zero]
  exact (hi.rd hc).at_ ad rfl (b + j) v (hv j v hj)
end Go.Ink
namespace Go.Proofs.YtmhpcgmjlpfheaaGreatDoor
open Go.RowKit Go.Ink
attribute [local irreducible] OpY GuardIs
/-- All that can be told of a guest. -/
structure Vw where
 s : St
 m : List Int
 o : List Int
 i : List Int
 k : List Int
 pend : Int
 mask : Int
 killed : Bool
structure VAd where
 X : SAdr
 Am : Option Addr
 cm : Nat
 Ao : Option Addr
 co : Nat
 Ai : Option Addr
 ci : Nat
 Ak : Option Addr
 ck : Nat
abbrev Vw.cells (v : Vw) (Y : VAd) : List Value := v.s.cells (.slice Y.X.Ad v.s.d.length Y.X.cd) (.slice Y.X.Ar v.s.r.length Y.X.cr) ++ [.slice Y.Am v.m.length Y.cm, .slice Y.Ao v.o.length Y.co, .slice Y.Ai v.i.length Y.ci, .slice Y.Ak v.k.length Y.ck, .int .u32 v.pend, .int .u32 v.mask, .bool v.killed]
abbrev vv (v : Vw) (Y : VAd) : Value := .agg (v.cells Y).toArray
structure Vw.wf (v : Vw) : Prop where
 s : v.s.wf
 m : u8s v.m
 o : u8s v.o
 i : u8s v.i
 k : u8s v.k
structure RdVw (w : World) (v : Vw) (Y : VAd) : Prop where
 s : RdSt w v.s Y.X.Ad Y.X.Ar Y.X.cd Y.X.cr
 m : Rd w .u8 Y.Am v.m.length Y.cm v.m
 o : Rd w .u8 Y.Ao v.o.length Y.co v.o
 i : Rd w .u8 Y.Ai v.i.length Y.ci v.i
 k : Rd w .u8 Y.Ak v.k.length Y.ck v.k
theorem RdVw.oldN {w0 w : World} {cs : List Chunk} {v : Vw} {Y : VAd} (h : RdVw w0 v Y) (hi : Inv w0 [] cs w) : RdVw w v Y := ⟨h.s.oldN hi, h.m.oldN hi, h.o.oldN hi, h.i.oldN hi, h.k.oldN hi⟩
/-- Some bytes, where they lie. -/
structure BSl where
 A : Option Addr
 c : Nat
 l : List Int
abbrev BSl.v (x : BSl) : Value := .slice x.A x.l.length x.c
def vpairs (a b : Vw) (Y Z : VAd) : List (BSl × BSl) := [(⟨Y.Am, Y.cm, a.m⟩, ⟨Z.Am, Z.cm, b.m⟩), (⟨Y.Ao, Y.co, a.o⟩, ⟨Z.Ao, Z.co, b.o⟩), (⟨Y.Ai, Y.ci, a.i⟩, ⟨Z.Ai, Z.ci, b.i⟩), (⟨Y.Ak, Y.ck, a.k⟩, ⟨Z.Ak, Z.ck, b.k⟩)]
abbrev pairV (p : BSl × BSl) : List Value := [p.1.v, p.2.v]
def allEq (l : List (BSl × BSl)) : Bool := l.all fun p => p.1.l == p.2.l
/-- Frames that are told: marks. -/
def marks (pre : List Int) : List Bool := (List.range 256).map fun f : Nat => decide ((f : Int) ∈ pre)
def frOk (l : List Int) : Prop := (∀ f, f ∈ l → 16 ≤ f ∧ f < 256) ∧ l.Nodup
theorem marks_len (pre : List Int) : (marks pre).length = 256 := by simp [marks]
theorem marks_get {pre : List Int} {f : Nat} (h : f < 256) : (marks pre)[f]? = some (decide ((f : Int) ∈ pre)) := by
 unfold marks
 rw [List.getElem?_map, List.getElem?_range h]; rfl
theorem marks_set {pre : List Int} {f : Nat} (h : f < 256) : (marks pre).set f true = marks (pre ++ [(f : Int)]) := by
 apply List.ext_getElem?
 intro j
 by_cases hj : j < 256
 ·rw [marks_get hj]
  by_cases e : f = j
  ·subst e; rw [List.getElem?_set_self (by rw [marks_len]; exact h)]; simp
  rw [List.getElem?_set_ne e, marks_get hj]
  congr 1
  have : (j : Int) ≠ (f : Int) := by omega
  simp [this]
 rw [List.getElem?_eq_none (by rw [List.length_set, marks_len]; omega), List.getElem?_eq_none (by rw [marks_len]; omega)]
theorem marks_nil : marks [] = List.replicate 256 false := by decide +kernel
theorem bools_marks_get {pre : List Int} {f : Nat} (h : f < 256) : (bools (marks pre))[f]? = some (.bool (decide ((f : Int) ∈ pre))) := by unfold bools; rw [List.getElem?_map, marks_get h]; rfl
theorem bools_marks_set {pre : List Int} {f : Nat} (h : f < 256) : (bools (marks pre)).set f (.bool true) = bools (marks (pre ++ [(f : Int)])) := by rw [← marks_set h]; unfold bools; rw [List.map_set]
theorem frOk_snoc {pre : List Int} {f : Int} (h : frOk pre) (h1 : 16 ≤ f ∧ f < 256) (h2 : f ∉ pre) : frOk (pre ++ [f]) := by
 refine ⟨fun x hx => ?_, ?_⟩
 ·rcases List.mem_append.1 hx with hx | hx
  ·exact h.1 x hx
  rw [List.mem_singleton.1 hx]; exact h1
 rw [List.nodup_append]
 exact ⟨h.2, by simp, fun a ha b hb => by rw [List.mem_singleton.1 hb]; exact fun e => h2 (e ▸ ha)⟩
theorem frOk_no {pre post : List Int} {f : Int} (h : ¬ (16 ≤ f ∧ f < 256) ∨ f ∈ pre) : ¬ frOk (pre ++ f :: post) := by
 rintro ⟨h1, h2⟩
 rcases h with h | h
 ·exact h (h1 f (by simp))
 rw [List.nodup_append] at h2
 exact h2.2.2 f h f (by simp) rfl
/-- Numbers, where they lie. -/
structure ISl where
 A : Option Addr
 c : Nat
 l : List Int
abbrev ISl.v (x : ISl) : Value := .slice x.A x.l.length x.c
abbrev ISl.cells (x : ISl) : List Value := [x.v]
def ISl.rd (x : ISl) (w : World) : Prop := Rd w .i64 x.A x.l.length x.c x.l
theorem isl_at {L : List ISl} {n : Nat} {x : ISl} (h : L[n]? = some x) : (L.map ISl.v)[n]? = some x.v := by rw [List.getElem?_map, h]; rfl

theorem bequal_ok (A A2 : Option Addr) (c c2 : Nat) (xs ys : List Int) (hx : u8s xs) (hy : u8s ys) (w : World) (h : Rd w .u8 A xs.length c xs) (h2 : Rd w .u8 A2 ys.length c2 ys) :
  Ctr Tryz.prog 11 [.slice A xs.length c, .slice A2 ys.length c2] w [] (fun v cs => v = .bool (xs == ys) ∧ cs = []) := by
 refine fn_ctr Tryz.func11 rfl Tryz.ntmps11 rfl (Inv.start w) ?_
 refine Zs (Zr (ZA ?_))
 refine Zn (Zt (Zs (Zr (ZA ?_))))
 refine wl_fact (fun w hi => rd_any (h.oldN hi)) (fun hrd6 => ?_)
 refine wl_y (y_bstr rfl rfl rfl (Zv rfl) hrd6) (fun w hi => RdV.cellsO (h.oldN hi)) rfl ?_
 refine ZA ?_
 refine wl_fact (fun w hi => rd_any (h2.oldN hi)) (fun hrd8 => ?_)
 refine wl_y (y_bstr rfl rfl rfl (Zv rfl) hrd8) (fun w hi => RdV.cellsO (h2.oldN hi)) rfl ?_
 refine Zy (y_eqlS rfl (Zv rfl) (Zv rfl) (strs_beq hx hy)) ?_
 refine ZA ?_
 refine Zn (Zt (Ze (ret1 (cs' := []) (.inl rfl) Zu rfl rfl ?_)))
 exact ⟨rfl, rfl⟩
set_option maxHeartbeats 1000000 in
theorem asame_ok (a b : Vw) (Y Z : VAd) (ha : a.wf) (hb : b.wf) (w : World) (h : RdVw w a Y) (h2 : RdVw w b Z) :
  Ctr Tryz.prog 6 [vv a Y, vv b Z] w [] (fun v cs => (∃ r, v = .bool r ∧ (r = true ↔ a = b)) ∧ cs = []) := by
 have HP : ∀ p, p ∈ vpairs a b Y Z → u8s p.1.l ∧ u8s p.2.l ∧ Rd w .u8 p.1.A p.1.l.length p.1.c p.1.l ∧ Rd w .u8 p.2.A p.2.l.length p.2.c p.2.l := fun p hp => by
  simp only [vpairs, List.mem_cons, List.mem_nil_iff, or_false] at hp
  rcases hp with rfl | rfl | rfl | rfl
  ·exact ⟨ha.m, hb.m, h.m, h2.m⟩
  ·exact ⟨ha.o, hb.o, h.o, h2.o⟩
  ·exact ⟨ha.i, hb.i, h.i, h2.i⟩
  exact ⟨ha.k, hb.k, h.k, h2.k⟩
 have hP4 : (vpairs a b Y Z).length = 4 := rfl
 have hEq : allEq (vpairs a b Y Z) = ((a.m == b.m) && ((a.o == b.o) && ((a.i == b.i) && ((a.k == b.k) && true)))) := rfl
 obtain ⟨P, hP⟩ : ∃ P, vpairs a b Y Z = P := ⟨_, rfl⟩
 have hflat : [Value.slice Y.Am a.m.length Y.cm, .slice Z.Am b.m.length Z.cm, .slice Y.Ao a.o.length Y.co, .slice Z.Ao b.o.length Z.co, .slice Y.Ai a.i.length Y.ci, .slice Z.Ai b.i.length Z.ci, .slice Y.Ak a.k.length Y.ck, .slice Z.Ak b.k.length Z.ck] = P.flatMap pairV := by rw [← hP]; rfl
 rw [hP] at HP hP4 hEq
 refine fn_ctr Tryz.func6 rfl Tryz.ntmps6 rfl (Inv.start w) ?_
 refine Zs (Zr (ZO fun b2 => ?_))
 refine ZO fun b3 => ?_
 refine ZA ?_
 refine Zn (Zt (Zs (Zr (ZA ?_))))
 refine Zn (Zt (Zs (Zs (Zr (ZFa 16 ?_)))))
 refine ZC ?_
 refine ZFa 16 ?_
 refine ZC ?_
 refine ZA ?_
 refine ZFa 17 ?_
 refine ZC ?_
 refine ZFa 17 ?_
 refine ZC ?_
 refine ZA ?_
 refine ZFa 18 ?_
 refine ZC ?_
 refine ZFa 18 ?_
 refine ZC ?_
 refine ZA ?_
 refine ZFa 19 ?_
 refine ZC ?_
 refine ZFa 19 ?_
 refine ZC ?_
 refine ZA ?_
 refine wl_t (t_buildSl rfl rfl (fun _ => rfl) (fun _ => rfl) rfl rfl hflat) rfl ?_
 rintro _ _ ⟨b28, rfl, rfl⟩
 iterate 2 refine ZA ?_
 refine Zn (Zt (Zx ?_))
 refine wc_loop (fun q : Nat × Bool => [(2, .pointer (some ⟨b2, 0, none⟩)), (3, .pointer (some ⟨b3, 0, none⟩)), (5, .bool q.2), (28, .slice (some ⟨b28, 0, none⟩) 4 4), (29, .int .i64 4), (30, .int .i64 (q.1 : Int))]) (fun _ => [row b2 (a.cells Y) 31, row b3 (b.cells Z) 31, slv 45 2 (some ⟨b28, 0, none⟩) 4 4 (P.flatMap pairV)]) (fun q => q.1 ≤ 4 ∧ q.2 = allEq (P.take q.1)) (fun q => 4 - q.1) (⟨0, true⟩) ?_ ?_ ?_ ?_
 ·exact ⟨Nat.zero_le _, rfl⟩
 ·exact Zwk
 ·((repeat (first | exact List.Sublist.slnil | refine List.Sublist.cons_cons _ ?_ | refine List.Sublist.cons _ ?_)))
 rintro ⟨k, g⟩ ⟨hk, hg⟩
 dsimp only at hk hg ⊢
 subst hg
 refine Zs (Zr (ZA ?_))
 refine Zn (Zt (Zs ?_))
 refine wc_cond _ rfl (fun hc3 => ?_) (fun hc3 => ?_)
 ·simp only [decide_eq_true_eq] at hc3
  obtain ⟨p, hp⟩ : ∃ p, P[k]? = some p := ⟨_, List.getElem?_eq_getElem (show k < P.length by omega)⟩
  obtain ⟨u1, u2, r1, r2⟩ := HP p (List.mem_of_getElem? hp)
  obtain ⟨⟨A1, c1, l1⟩, ⟨A2, c2, l2⟩⟩ := p
  dsimp only at u1 u2 r1 r2
  have hand : (allEq (P.take k) && (l1 == l2)) = allEq (P.take (k + 1)) := (by rw [List.take_add_one, hp]; simp [allEq])
  refine Zc (Zt (Zs (Zx (Zs (Zr (Zy (y_index (j := k)  rfl (fun _ => rfl) (Zv rfl) (Zv rfl)  (fun _ => by omega) (fun _ => by omega)) ?_))))))
  refine wl_y (y_loadN (vs := [.slice A1 l1.length c1, .slice A2 l2.length c2]) (fun _ => rfl) (fun _ => rfl) (Zv rfl)) (slv_cells Zh (fun j v hj => flat_at (f := pairV) (fun _ => rfl) (i := j) hp hj)) rfl ?_
  refine ZN fun b7 => ?_
  refine ZM ?_
  refine Zn (Zt (Zr (ZA ?_)))
  refine ZA ?_
  refine Zyy rfl rfl (y_indexA (j := 0) (sz := 1) (r := 0) rfl (fun _ => rfl) (Zv rfl) (Zv rfl) (fun _ => by omega) (fun _ => by omega) (by omega)) ?_
  refine ZD ?_
  refine Zyy rfl rfl (y_indexA (j := 1) (sz := 1) (r := 1) rfl (fun _ => rfl) (Zv rfl) (Zv rfl) (fun _ => by omega) (fun _ => by omega) (by omega)) ?_
  refine ZD ?_
  refine wl_callg (guard_yes rfl rfl) (.cons (ev_g rfl) (.cons (ev_g rfl) .nil)) (fun _ _ => rfl) (fun hg w hi => bequal_ok A1 A2 c1 c2 l1 l2 u1 u2 w (r1.oldN hi) (r2.oldN hi)) rfl ?_
  iterate 2 refine ZA ?_
  refine Zn (Zo (Zt (Zr ?_)))
  rw [hand]
  refine Zy (y_add (Zv rfl) (Zv rfl) Zl) ?_
  refine ZA ?_
  refine Zn ?_
  refine q_mid ((⟨k + 1, allEq (P.take (k + 1))⟩ : Nat × Bool)) ?_ ?_ ?_
  ·exact ⟨⟨by omega, rfl⟩, by omega⟩
  ·exact Zwk
  ((repeat (first | exact List.Sublist.slnil | refine List.Sublist.cons_cons _ ?_ | refine List.Sublist.cons _ ?_)))
 simp only [decide_eq_false_iff_not] at hc3
 obtain rfl : k = 4 := by omega
 refine wc_exit ?_
 refine q_then_exit ?_
 refine q_then_exit ?_
 refine q_block_same rfl ?_
 refine Zt (Zs (Zr (ZA ?_)))
 refine ZA ?_
 refine ZFb 0 ?_
 refine wl_yg (guard_yes rfl rfl) (y_loadN (vs := a.s.cells (.slice Y.X.Ad a.s.d.length Y.X.cd) (.slice Y.X.Ar a.s.r.length Y.X.cr)) (fun _ => rfl) (fun _ => rfl) (ev_g rfl)) (row_cells (o := 0) Zh rfl) rfl ?_
 refine ZFb 0 ?_
 refine wl_yg (guard_yes rfl rfl) (y_loadN (vs := b.s.cells (.slice Z.X.Ad b.s.d.length Z.X.cd) (.slice Z.X.Ar b.s.r.length Z.X.cr)) (fun _ => rfl) (fun _ => rfl) (ev_g rfl)) (row_cells (o := 0) Zh rfl) rfl ?_
 refine wl_callg (guard_yes rfl rfl) (.cons (ev_g rfl) (.cons (ev_g rfl) .nil)) (fun _ _ => rfl) (fun hg w hi => same_ok a.s b.s Y.X.Ad Y.X.Ar Z.X.Ad Z.X.Ar Y.X.cd Y.X.cr Z.X.cd Z.X.cr w (h.s.oldN hi) (h2.s.oldN hi)) rfl ?_
 iterate 2 refine ZA ?_
 refine ZFb 20 ?_
 refine ZD ?_
 refine ZFb 20 ?_
 refine ZD ?_
 refine ZB ?_
 iterate 2 refine ZA ?_
 refine ZFb 21 ?_
 refine ZD ?_
 refine ZFb 21 ?_
 refine ZD ?_
 refine ZB ?_
 iterate 2 refine ZA ?_
 refine ZFb 22 ?_
 refine ZD ?_
 refine ZFb 22 ?_
 refine ZD ?_
 refine ZB ?_
 iterate 2 refine ZA ?_
 refine Zn (Zt (Ze (ret1 (cs' := []) (.inl rfl) Zu rfl rfl ?_)))
 refine ⟨⟨_, rfl, ?_⟩, rfl⟩
 rw [List.take_of_length_le (by omega), hEq]
 simp only [Bool.and_eq_true, beq_iff_eq, St.same_iff, and_true]
 constructor
 ·rintro ⟨⟨⟨⟨⟨q1, q2, q3, q4⟩, q5⟩, q6⟩, q7⟩, q8⟩; cases a; cases b; simp_all
 rintro rfl; simp
set_option maxHeartbeats 1000000 in
theorem aframes_ok (A : Option Addr) (c : Nat) (L : List ISl) (w : World) (h : RdV w 1 A L.length c (L.map ISl.v)) (hL : ∀ x, x ∈ L → x.rd w) :
  Ctr Tryz.prog 5 [.slice A L.length c] w [] (fun v cs => (∃ r, v = .bool r ∧ (r = true ↔ frOk (L.flatMap ISl.l))) ∧ cs = []) := by
 have hm := h.max
 have hc := h.cap
 unfold maxLen at hm
 refine fn_ctr Tryz.func5 rfl Tryz.ntmps5 rfl (Inv.start w) ?_
 refine Zs (Zr (ZA ?_))
 refine Zn (Zt (Zs (Zr (wl_t (t_alloc (zs := bools (List.replicate 256 false)) (fun _ => rfl) Zk) rfl ?_))))
 rintro _ _ ⟨b3, rfl, rfl⟩
 rw [← marks_nil]
 refine Zn (Zt (Zs (Zs (Zr (ZA ?_)))))
 iterate 2 refine ZA ?_
 refine Zn (Zt (Zx ?_))
 refine wc_loop (fun k : Nat => [(3, .pointer (some ⟨b3, 0, none⟩)), (8, .slice A L.length c), (9, .int .i64 L.length), (10, .int .i64 (k : Int))]) (fun k => [row b3 (bools (marks ((L.take k).flatMap ISl.l))) 44]) (fun k => k ≤ L.length ∧ frOk ((L.take k).flatMap ISl.l)) (fun k => L.length - k) (0) ?_ ?_ ?_ ?_
 ·exact ⟨Nat.zero_le _, by simp [frOk]⟩
 ·exact Zwk
 ·((repeat (first | exact List.Sublist.slnil | refine List.Sublist.cons_cons _ ?_ | refine List.Sublist.cons _ ?_)))
 rintro k ⟨hk, hf⟩
 have hL2 := hL
 refine Zs (Zr (ZA ?_))
 refine Zn (Zt (Zs ?_))
 refine wc_cond _ rfl (fun hc3 => ?_) (fun hc3 => ?_)
 ·simp only [decide_eq_true_eq] at hc3
  obtain ⟨ad, rfl⟩ := h.some_ (by omega)
  obtain ⟨x, hx⟩ : ∃ x, L[k]? = some x := ⟨_, List.getElem?_eq_getElem (show k < L.length by omega)⟩
  have hr := hL x (List.mem_of_getElem? hx)
  have htk : (L.take (k + 1)).flatMap ISl.l = (L.take k).flatMap ISl.l ++ x.l := (by rw [List.take_add_one, hx]; simp)
  have hall : L.flatMap ISl.l = (L.take k).flatMap ISl.l ++ (x.l ++ (L.drop (k + 1)).flatMap ISl.l) := (by conv => lhs; rw [← List.take_append_drop (k + 1) L, List.flatMap_append, htk, List.append_assoc])
  obtain ⟨pre, hpre⟩ : ∃ pre, (L.take k).flatMap ISl.l = pre := ⟨_, rfl⟩
  rw [hpre] at hf htk hall
  have hm2 := hr.max
  have hc2 := hr.cap
  unfold maxLen at hm2
  rw [hpre]
  refine Zc (Zt (Zs (Zx (Zs (Zr (Zy (y_index (j := k)  rfl (fun _ => rfl) (Zv rfl) (Zv rfl)  (fun _ => by omega) (fun _ => by omega)) ?_))))))
  refine wl_y (y_load (fun _ => rfl) (Zv rfl)) (rd_cell h (isl_at hx)) rfl ?_
  refine ZA ?_
  refine Zn (Zt (Zs (Zr ?_)))
  have e0 : pre = pre ++ x.l.take 0 := (by simp)
  rw [e0]
  iterate 3 refine ZA ?_
  refine Zn (Zt (Zx ?_))
  refine wc_loop (fun j : Nat => [(3, .pointer (some ⟨b3, 0, none⟩)), (8, .slice (some ad) L.length c), (9, .int .i64 L.length), (10, .int .i64 (k : Int)), (14, x.v), (15, .int .i64 x.l.length), (16, .int .i64 (j : Int))]) (fun j => [row b3 (bools (marks (pre ++ x.l.take j))) 44]) (fun j => j ≤ x.l.length ∧ frOk (pre ++ x.l.take j)) (fun j => x.l.length - j) (0) ?_ ?_ ?_ ?_
  ·exact ⟨Nat.zero_le _, by simpa using hf⟩
  ·exact Zwk
  ·((repeat (first | exact List.Sublist.slnil | refine List.Sublist.cons_cons _ ?_ | refine List.Sublist.cons _ ?_)))
  rintro j ⟨hj, hfj⟩
  refine Zs (Zr (ZA ?_))
  refine Zn (Zt (Zs ?_))
  refine wc_cond _ rfl (fun hc6 => ?_) (fun hc6 => ?_)
  ·simp only [decide_eq_true_eq] at hc6
   obtain ⟨ad2, had2⟩ := hr.some_ (by omega)
   have hxv : x.v = .slice (some ad2) x.l.length x.c := (by unfold ISl.v; rw [had2])
   have hr3 : Rd w .i64 (some ad2) x.l.length x.c x.l := (by unfold ISl.rd at hr; rwa [had2] at hr)
   obtain ⟨f, hf2⟩ : ∃ f, x.l[j]? = some f := ⟨_, List.getElem?_eq_getElem (show j < x.l.length by omega)⟩
   rw [hxv]
   have hsp : x.l = x.l.take j ++ f :: x.l.drop (j + 1) := (by have := List.getElem?_eq_some_iff.1 hf2; obtain ⟨q1, q2⟩ := this; rw [← q2, ← List.drop_eq_getElem_cons q1, List.take_append_drop])
   have hno : (¬ (16 ≤ f ∧ f < 256) ∨ f ∈ pre ++ x.l.take j) → ¬ frOk (L.flatMap ISl.l) := (fun h => by rw [hall]; have e1 : pre ++ (x.l ++ (L.drop (k + 1)).flatMap ISl.l) = (pre ++ x.l.take j) ++ f :: (x.l.drop (j + 1) ++ (L.drop (k + 1)).flatMap ISl.l) := (by rw [List.append_assoc, ← List.cons_append, ← List.append_assoc (x.l.take j), ← hsp]); rw [e1]; exact frOk_no h)
   have htj : pre ++ x.l.take (j + 1) = (pre ++ x.l.take j) ++ [f] := (by rw [List.take_add_one, hf2]; simp)
   refine Zc (Zt (Zs (Zx (Zs (Zr (Zy (y_index (j := j)  rfl (fun _ => rfl) (Zv rfl) (Zv rfl)  (fun _ => by omega) (fun _ => by omega)) ?_))))))
   refine wl_y (y_load (fun _ => rfl) (Zv rfl)) (rd_cell hr3 (ints_at hf2)) rfl ?_
   refine ZA ?_
   refine Zn (Zt (Zs (Zs (Zr (ZA ?_)))))
   iterate 2 refine ZA ?_
   iterate 2 refine ZB ?_
   iterate 2 refine ZA ?_
   refine ZB ?_
   obtain ⟨fn, hfn, hfe⟩ : ∃ fn : Nat, fn < 256 ∧ ((decide (f < 16) || decide (256 ≤ f)) = false → f = fn ∧ 16 ≤ fn) := (by by_cases hr : 16 ≤ f ∧ f < 256; exact ⟨f.toNat, by omega, fun _ => by omega⟩; exact ⟨0, by omega, fun h => by simp at h; omega⟩)
   refine Zyn rfl rfl (y_indexA (j := fn) (sz := 1) (r := fn) rfl (fun _ => rfl) (Zv rfl) (ev_g rfl) (fun hg => (hfe (by simpa using hg)).1) (fun _ => hfn) (by omega)) ?_
   refine wl_yg (guard_no rfl rfl) (y_load (fun _ => rfl) (ev_g rfl)) (row_cell Zh (bools_marks_get hfn)) rfl ?_
   refine ZA ?_
   refine Zn (Zt ?_)
   refine wc_cond _ rfl (fun hc8 => ?_) (fun hc8 => ?_)
   ·have hbad : ¬ frOk (L.flatMap ISl.l) := hno (by cases hA : (decide (f < 16) || decide (256 ≤ f)) with | true => (simp at hA; exact Or.inl (by omega)) | false => (rw [hA] at hc8; have e := (hfe hA).1; simp at hc8; exact Or.inr (by rw [e]; simpa using hc8)))
    refine Zs (Zr (ZA ?_))
    refine Zn (Zt (Ze (Zw (Zq (Zw (Zw (Zq (Zq (Zw (Zw (Zq (Zw (ret1 (cs' := []) (.inl rfl) Zu rfl rfl ?_)))))))))))))
    exact ⟨⟨false, rfl, ⟨fun h => (by cases h), fun h => absurd h hbad⟩⟩, rfl⟩
   have hA : (decide (f < 16) || decide (256 ≤ f)) = false := (by cases hA : (decide (f < 16) || decide (256 ≤ f)) with | true => (rw [hA] at hc8; cases hc8) | false => rfl)
   obtain ⟨rfl, h16⟩ := hfe hA
   have hnot : (fn : Int) ∉ pre ++ x.l.take j := (by rw [hA] at hc8; simpa using hc8)
   refine Zc (Zt (Zr (ZA ?_)))
   refine Zy (y_indexA (j := fn) (sz := 1) (r := fn) rfl (fun _ => rfl) (Zv rfl) (Zv rfl) (fun _ => by omega) (fun _ => by omega) (by omega)) ?_
   refine wl_t0 (t_storeR (fun _ => rfl) rfl rfl rfl Za (by rw [bools_len, marks_len]; omega)) ?_
   rintro _ _ ⟨rfl, rfl⟩
   rw [bools_marks_set hfn, ← htj]
   refine Zn (Zo (Zt (Zr (Zy (y_add (Zv rfl) (Zv rfl) Zl) ?_))))
   refine ZA ?_
   refine Zn ?_
   refine q_mid (j + 1) ?_ ?_ ?_
   ·exact ⟨⟨by omega, by rw [htj]; exact frOk_snoc hfj ⟨by omega, by omega⟩ hnot⟩, by omega⟩
   ·exact Zwk
   ((repeat (first | exact List.Sublist.slnil | refine List.Sublist.cons_cons _ ?_ | refine List.Sublist.cons _ ?_)))
  simp only [decide_eq_false_iff_not] at hc6
  obtain rfl : j = x.l.length := by omega
  refine wc_exit ?_
  refine q_then_exit ?_
  refine q_then_exit ?_
  refine q_block_same rfl ?_
  refine Zo (Zt (Zr ?_))
  rw [List.take_length] at hfj ⊢
  rw [← htk] at hfj ⊢
  refine Zy (y_add (Zv rfl) (Zv rfl) Zl) ?_
  refine ZA ?_
  refine Zn ?_
  refine q_mid (k + 1) ?_ ?_ ?_
  ·exact ⟨⟨by omega, hfj⟩, by omega⟩
  ·exact Zwk
  ((repeat (first | exact List.Sublist.slnil | refine List.Sublist.cons_cons _ ?_ | refine List.Sublist.cons _ ?_)))
 simp only [decide_eq_false_iff_not] at hc3
 obtain rfl : k = L.length := by omega
 refine wc_exit ?_
 refine q_then_exit ?_
 refine q_then_exit ?_
 refine q_block_same rfl ?_
 refine Zt (Zs (Zr (ZA ?_)))
 refine Zn (Zt (Ze (ret1 (cs' := []) (.inl rfl) Zu rfl rfl ?_)))
 rw [List.take_length] at hf
 exact ⟨⟨true, rfl, ⟨fun _ => hf, fun _ => rfl⟩⟩, rfl⟩
end Go.Proofs.YtmhpcgmjlpfheaaGreatDoor
