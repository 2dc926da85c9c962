/- Regions that draw their order, by a schedule that is computed once. Nothing of the program. -/
import Derived.Test.YthcpmpmbgbibfaaGreatInkC
set_option linter.unusedSimpArgs false
set_option linter.unusedVariables false
namespace Go.Ink
open Go.RowKit
def memN : List Nat → Nat → Bool
  | [], _ => false
  | y :: l, x => Nat.beq y x || memN l x
theorem memN_iff {x : Nat} : ∀ {l : List Nat}, memN l x = true ↔ x ∈ l
  | [] => by simp [memN]
  | y :: l => by
    simp only [memN, Bool.or_eq_true, List.mem_cons, memN_iff (l := l)]
    constructor
    · rintro (h | h)
      · exact .inl (Nat.eq_of_beq_eq_true h).symm
      exact .inr h
    rintro (rfl | h)
    · exact .inl (Nat.beq_refl _)
    exact .inr h
/-- What is asked of an operation: its number, how it is taken, its slot, the slots that it looks at, what it waits for. -/
structure Sk where
  i : Nat
  k : Nat
  d : List Nat
  l : List Nat
  w : List Nat
def skOf (ops : Array Oper) (p : Nat × Nat) : Sk :=
  match ops[p.1]? with
  | some o => ⟨p.1, p.2, o.dst.toList, o.looksAt ops, (o.after.toList.filter (Region.binds .any)).map (·.on)⟩
  | none => ⟨p.1, 9, [], [], []⟩
def apartK (x y : Sk) : Bool := x.d.all (fun d => !memN y.l d && !memN y.d d) && y.d.all (fun d => !memN x.l d)
/-- What turns cells waits for x, or for what waits for it. -/
def chk4 (st : Nat → Bool) (x : Sk) : List Sk → List Nat → Bool
  | [], _ => true
  | r :: rest, B => bif r.w.any (fun e => Nat.beq e x.i || memN B e) then chk4 st x rest (r.i :: B) else apartK x r && !st r.i && chk4 st x rest B
/-- 0: taken first; 1: taken first, no cell is turned meanwhile; 2: the only one that may come up; 3: here it branches; 4: taken first, what turns cells waits for it. -/
def chk1 (n : Nat) (st : Nat → Bool) (x : Sk) (rest : List Sk) : Bool :=
  (x.w.all (fun e => Nat.blt e n && !Nat.beq e x.i && rest.all (fun r => !Nat.beq r.i e))) &&
  rest.all (fun r => !Nat.beq r.i x.i &&
    match x.k with
    | 0 => memN r.w x.i || apartK x r
    | 1 => memN r.w x.i || (apartK x r && !st r.i)
    | 2 => r.w.any (fun e => Nat.beq x.i e || rest.any (fun q => Nat.beq q.i e))
    | 4 => true
    | _ => false) &&
  (!Nat.beq x.k 4 || chk4 st x rest [])
def Chk (n : Nat) (st : Nat → Bool) : List Sk → Bool
  | [] => true
  | x :: rest => Nat.beq x.k 3 || (chk1 n st x rest && Chk n st rest)
structure Lst (n : Nat) (listed : Array Bool) (l : List Nat) : Prop where
  size : listed.size = n
  iff : ∀ j, listed.getD j true = false ↔ j ∈ l
theorem Lst.step {n i : Nat} {listed : Array Bool} {l : List Nat} (h : Lst n listed (i :: l)) (hn : i ∉ l) : Lst n (listed.setIfInBounds i true) l := by
  refine ⟨by simp [h.size], fun j => ?_⟩
  have hi := (h.iff i).2 (by simp)
  by_cases e : i = j
  · subst e
    simp only [Array.getD_eq_getD_getElem?, Array.getElem?_setIfInBounds_self]
    constructor
    · intro h2
      split at h2 <;> simp at h2
    exact fun h2 => absurd h2 hn
  have h1 := h.iff j
  simp only [Array.getD_eq_getD_getElem?, Array.getElem?_setIfInBounds_ne e] at h1 ⊢
  rw [h1]
  simp [Ne.symm e]
theorem Lst.set {n : Nat} {listed : Array Bool} {l l' : List Nat} (h : Lst n listed l) (hs : ∀ j, j ∈ l ↔ j ∈ l') : Lst n listed l' := ⟨h.size, fun j => (h.iff j).trans (hs j)⟩
def SkOk (ops : Array Oper) (x : Sk) (o : Oper) : Prop := x.d = o.dst.toList ∧ x.l = o.looksAt ops ∧ x.w = (o.after.toList.filter (Region.binds .any)).map (·.on)
theorem skOf_ok {ops : Array Oper} {p : Nat × Nat} {o : Oper} (h : ops[p.1]? = some o) : (skOf ops p).i = p.1 ∧ (skOf ops p).k = p.2 ∧ SkOk ops (skOf ops p) o := by
  unfold skOf
  rw [h]
  exact ⟨rfl, rfl, rfl, rfl, rfl⟩
theorem skOf_i {ops : Array Oper} {p : Nat × Nat} : (skOf ops p).i = p.1 := by
  unfold skOf
  split <;> rfl
theorem apartK_apart {ops : Array Oper} {x y : Sk} {ox oy : Oper} (hx : SkOk ops x ox) (hy : SkOk ops y oy) (h : apartK x y = true) : ox.apart ops oy = true := by
  obtain ⟨hx1, hx2, -⟩ := hx
  obtain ⟨hy1, hy2, -⟩ := hy
  simp only [apartK, hx1, hx2, hy1, hy2, Bool.and_eq_true, List.all_eq_true, Bool.not_eq_true', Bool.eq_false_iff, ne_eq, memN_iff] at h
  obtain ⟨h1, h2⟩ := h
  unfold Oper.apart
  rw [Bool.and_eq_true]
  constructor
  · cases hd : ox.dst with
    | none => rfl
    | some d =>
      have := h1 d (by simp [hd])
      simp only [Bool.and_eq_true, Bool.not_eq_true', List.contains_eq_mem, decide_eq_false_iff_not, bne_iff_ne, ne_eq]
      refine ⟨this.1, fun e => this.2 (by simp [e])⟩
  cases hd : oy.dst with
  | none => rfl
  | some d =>
    have := h2 d (by simp [hd])
    simpa using this
theorem waits_mem {ops : Array Oper} {x : Sk} {o : Oper} (h : SkOk ops x o) {e : Nat} : e ∈ x.w ↔ ∃ z, z ∈ o.after ∧ Region.binds .any z = true ∧ z.on = e := by
  rw [h.2.2]
  simp only [List.mem_map, List.mem_filter, Array.mem_toList_iff]
  constructor
  · rintro ⟨z, ⟨h1, h2⟩, h3⟩; exact ⟨z, h1, h2, h3⟩
  rintro ⟨z, h1, h2, h3⟩; exact ⟨z, ⟨h1, h2⟩, h3⟩
theorem chk4_spec {st : Nat → Bool} {x : Sk} : ∀ (rest : List Sk) (B0 : List Nat), chk4 st x rest B0 = true → ∃ B : List Nat, (∀ b, b ∈ B0 → b ∈ B) ∧ (∀ r, r ∈ rest → r.i ∉ B → apartK x r = true ∧ st r.i = false) ∧ (∀ b, b ∈ B → b ∈ B0 ∨ ∃ r, r ∈ rest ∧ r.i = b ∧ ∃ e, e ∈ r.w ∧ (e = x.i ∨ e ∈ B))
  | [], B0, _ => ⟨B0, fun _ h => h, (fun r h => by cases h), fun b h => .inl h⟩
  | r :: rest, B0, h => by
    unfold chk4 at h
    cases hw : r.w.any (fun e => Nat.beq e x.i || memN B0 e) with
    | true =>
      rw [hw, cond_true] at h
      obtain ⟨B, h1, h2, h3⟩ := chk4_spec rest _ h
      obtain ⟨e, he, hx⟩ := List.any_eq_true.1 hw
      refine ⟨B, fun b hb => h1 b (List.mem_cons_of_mem _ hb), fun q hq hn => ?_, fun b hb => ?_⟩
      · rcases List.mem_cons.1 hq with rfl | hq
        · exact absurd (h1 _ (by simp)) hn
        exact h2 q hq hn
      rcases h3 b hb with h4 | ⟨q, hq, h5⟩
      · rcases List.mem_cons.1 h4 with rfl | h4
        · refine .inr ⟨r, by simp, rfl, e, he, ?_⟩
          simp only [Bool.or_eq_true, memN_iff] at hx
          rcases hx with hx | hx
          · exact .inl (Nat.eq_of_beq_eq_true hx)
          exact .inr (h1 e (List.mem_cons_of_mem _ hx))
        exact .inl h4
      exact .inr ⟨q, List.mem_cons_of_mem _ hq, h5⟩
    | false =>
      rw [hw, cond_false, Bool.and_eq_true, Bool.and_eq_true, Bool.not_eq_true'] at h
      obtain ⟨B, h1, h2, h3⟩ := chk4_spec rest _ h.2
      refine ⟨B, h1, fun q hq hn => ?_, fun b hb => ?_⟩
      · rcases List.mem_cons.1 hq with rfl | hq
        · exact h.1
        exact h2 q hq hn
      rcases h3 b hb with h4 | ⟨q, hq, h5⟩
      · exact .inl h4
      exact .inr ⟨q, List.mem_cons_of_mem _ hq, h5⟩
section
variable {P : Program} {ops : Array Oper} {Q : Post} {md : Region.Mode} {St : Dr}
theorem unlisted {listed : Array Bool} {i : Nat} (h0 : listed.getD i true = false) : ¬ (listed.getD i false = true) := fun h1 => by
  rcases Nat.lt_or_ge i listed.size with h' | h'
  · simp [h'] at h0 h1; rw [h0] at h1; cases h1
  simp [Array.getElem?_eq_none h'] at h1
/-- What of B waits, directly or not, for i, cannot come ahead of it. -/
theorem wpAnyT_firstB {i : Nat} {oi : Oper} {v : Value} {V : World → Prop} (B : List Nat) (hV : ∀ w w', Pres w w' → V w → V w') (hi : ops[i]? = some oi) (hsel : ∀ (j : Nat) (o : Oper) cs b, ops[j]? = some o → o.op ≠ .select cs b)
    (hQ : ∀ c a w, Q (.panic c) (a.put oi.dst v) w → Q (.panic c) a w) :
    ∀ (fuel : Nat) (listed : Array Bool) (a : Act) (w : World),
      (∀ b, b ∈ B → listed.getD b true = false ∧ ∀ ob, ops[b]? = some ob → ∃ e ∈ ob.after, Region.binds md e = true ∧ (e.on = i ∨ e.on ∈ B)) →
      (∀ j oj, ops[j]? = some oj → j ≠ i → listed.getD j true = false → j ∉ B → oi.apart ops oj = true ∧ St.st j = false) →
      i ∈ Region.ready md ops listed → YieldsIf P ops V oi v a → V w →
      wpAnyT P md ops Q St fuel (listed.setIfInBounds i true) (a.put oi.dst v) w → wpAnyT P md ops Q St (fuel + 1) listed a w := by
  intro fuel
  induction fuel with
  | zero =>
    intro listed a w _ _ hr hy hS H
    refine ⟨fun h => (by rw [h] at hr; cases hr), fun j hj => ?_⟩
    by_cases hji : j = i
    · subst hji; exact hy.wpOp hi hS ⟨⟨fun _ _ _ h => h, fun h => h⟩, H⟩
    have := ready_mono hj hji
    rw [H.1] at this
    cases this
  | succ fuel ih =>
    intro listed a w hB hfree hr hy hS H
    refine ⟨fun h => (by rw [h] at hr; cases hr), fun j hj => ?_⟩
    by_cases hji : j = i
    · subst hji; exact hy.wpOp hi hS ⟨⟨fun _ _ _ h => h, fun h => h⟩, H⟩
    have h1 := H.2 j (ready_mono hj hji)
    obtain ⟨hjun, oj, hoj, hall⟩ := mem_ready.1 hj
    have hjB : j ∉ B := fun hm => by
      obtain ⟨e, he, hb, hx⟩ := (hB j hm).2 oj hoj
      have h2 := hall e he hb
      rcases hx with hx | hx
      · rw [hx] at h2; exact unlisted (mem_ready.1 hr).1 h2
      exact unlisted (hB _ hx).1 h2
    obtain ⟨hap, hst⟩ := hfree j oj hoj hji hjun hjB
    have h2 := wpOp_putIf hoj hap (fun cs b => hsel i oi cs b hi) (fun cs b => hsel j oj cs b hoj) hQ hy h1
    have hB' : ∀ b, b ∈ B → (listed.setIfInBounds j true).getD b true = false ∧ ∀ ob, ops[b]? = some ob → ∃ e ∈ ob.after, Region.binds md e = true ∧ (e.on = i ∨ e.on ∈ B) := fun b hb => by
      refine ⟨?_, (hB b hb).2⟩
      have hne : ¬ j = b := fun e => hjB (by rw [e]; exact hb)
      rw [getD_set_ne true hne]
      exact (hB b hb).1
    have hfree' : ∀ k ok, ops[k]? = some ok → k ≠ i → (listed.setIfInBounds j true).getD k true = false → k ∉ B → oi.apart ops ok = true ∧ St.st k = false := fun k ok hk hki hun hno => by
      refine hfree k ok hk hki ?_ hno
      by_cases hjk : j = k
      · subst hjk; exact hjun
      rw [getD_set_ne true hjk] at hun; exact hun
    refine wpOp_mono (fun a' w' h3 => ⟨h3.2.1, ih (listed.setIfInBounds j true) a' w' hB' hfree' (ready_mono hr (Ne.symm hji)) h3.1 (hV _ _ (h3.2.1.1 hst) hS) ?_⟩) h2
    rw [Array.setIfInBounds_comm _ _ hji]
    exact h3.2.2
end
section
variable {ops : Array Oper} {st : Nat → Bool} {i k : Nat} {s : List (Nat × Nat)} {listed : Array Bool} {oi : Oper}
theorem mem_skel {j : Nat} (h : j ∈ s.map (·.1)) : ∃ q, q ∈ s.map (skOf ops) ∧ q.i = j ∧ ∀ o, ops[j]? = some o → SkOk ops q o := by
  obtain ⟨p, hp, rfl⟩ := List.mem_map.1 h
  exact ⟨skOf ops p, List.mem_map.2 ⟨p, hp, rfl⟩, skOf_i, fun o ho => (skOf_ok ho).2.2⟩
theorem skel_mem {q : Sk} (h : q ∈ s.map (skOf ops)) : q.i ∈ s.map (·.1) := by
  obtain ⟨p, hp, rfl⟩ := List.mem_map.1 h
  rw [skOf_i]
  exact List.mem_map.2 ⟨p, hp, rfl⟩
theorem chk_ready (hi : ops[i]? = some oi) (hL : Lst ops.size listed (((i, k) :: s).map (·.1))) (hc : chk1 ops.size st (skOf ops (i, k)) (s.map (skOf ops)) = true) : i ∈ Region.ready .any ops listed := by
  obtain ⟨e1, -, hk⟩ := skOf_ok (p := (i, k)) hi
  have e1 : (skOf ops (i, k)).i = i := e1
  simp only [chk1, Bool.and_eq_true, List.all_eq_true] at hc
  rw [mem_ready]
  refine ⟨(hL.iff i).2 (by simp), oi, hi, fun e he hb => ?_⟩
  obtain ⟨⟨h1, h2⟩, h3⟩ := hc.1.1 e.on ((waits_mem hk).2 ⟨e, he, hb, rfl⟩)
  have hlt : e.on < ops.size := by simpa [Nat.blt_eq] using h1
  have hne : e.on ≠ i := by
    intro h
    rw [e1, h] at h2
    simp at h2
  cases hg : listed.getD e.on true with
  | true =>
    simp only [Array.getD_eq_getD_getElem?] at hg ⊢
    cases hq : listed[e.on]? with
    | none =>
      rw [Array.getElem?_eq_none_iff, hL.size] at hq
      omega
    | some b => rw [hq] at hg; exact hg
  | false =>
    have := (hL.iff e.on).1 hg
    simp only [List.map_cons, List.mem_cons, hne, false_or] at this
    obtain ⟨q, hq, e3, -⟩ := mem_skel (ops := ops) this
    have := h3 q hq
    rw [e3] at this
    simp at this
theorem chk_new (hc : chk1 ops.size st (skOf ops (i, k)) (s.map (skOf ops)) = true) : i ∉ s.map (·.1) := fun h => by
  simp only [chk1, Bool.and_eq_true, List.all_eq_true] at hc
  obtain ⟨q, hq, e3, -⟩ := mem_skel (ops := ops) h
  have := (hc.1.2 q hq).1
  rw [skOf_i, e3] at this
  simp at this
theorem chk_free (hi : ops[i]? = some oi) (hL : Lst ops.size listed (((i, k) :: s).map (·.1))) (hc : chk1 ops.size st (skOf ops (i, k)) (s.map (skOf ops)) = true) (hk : k = 0 ∨ k = 1) (j : Nat) (oj : Oper)
    (hj : ops[j]? = some oj) (hne : j ≠ i) (hun : listed.getD j true = false) (hno : ∀ e ∈ oj.after, Region.binds .any e = true → e.on ≠ i) : oi.apart ops oj = true ∧ (k = 1 → st j = false) := by
  have hjm := (hL.iff j).1 hun
  simp only [List.map_cons, List.mem_cons, hne, false_or] at hjm
  obtain ⟨q, hq, e3, e4⟩ := mem_skel (ops := ops) hjm
  have hq4 := e4 oj hj
  obtain ⟨e1, e2, hkx⟩ := skOf_ok (p := (i, k)) hi
  simp only [chk1, Bool.and_eq_true, List.all_eq_true] at hc
  have h1 := (hc.1.2 q hq).2
  rw [e2, e1] at h1
  have hw : memN q.w i = false := by
    cases hm : memN q.w i with
    | false => rfl
    | true =>
      obtain ⟨z, z1, z2, z3⟩ := (waits_mem hq4).1 (memN_iff.1 hm)
      exact absurd z3 (hno z z1 z2)
  rcases hk with rfl | rfl
  · simp only [hw, Bool.false_or] at h1
    exact ⟨apartK_apart hkx hq4 h1, fun h => by cases h⟩
  simp only [hw, Bool.false_or, Bool.and_eq_true, Bool.not_eq_true'] at h1
  exact ⟨apartK_apart hkx hq4 h1.1, fun _ => e3 ▸ h1.2⟩
theorem chk_only (hi : ops[i]? = some oi) (hL : Lst ops.size listed (((i, 2) :: s).map (·.1))) (hc : chk1 ops.size st (skOf ops (i, 2)) (s.map (skOf ops)) = true) (j : Nat) (hj : j ∈ Region.ready .any ops listed) : j = i := by
  obtain ⟨hun, oj, hoj, hall⟩ := mem_ready.1 hj
  have hjm := (hL.iff j).1 hun
  simp only [List.map_cons, List.mem_cons] at hjm
  rcases hjm with h | hjm
  · exact h
  exfalso
  obtain ⟨q, hq, e3, e4⟩ := mem_skel (ops := ops) hjm
  obtain ⟨e1, e2, hkx⟩ := skOf_ok (p := (i, 2)) hi
  simp only [chk1, Bool.and_eq_true, List.all_eq_true] at hc
  have h1 := (hc.1.2 q hq).2
  rw [e2, e1] at h1
  obtain ⟨e, he, h2⟩ := List.any_eq_true.1 h1
  obtain ⟨z, z1, z2, z3⟩ := (waits_mem (e4 oj hoj)).1 he
  have hz := hall z z1 z2
  rw [z3] at hz
  have hin : e ∈ ((i, 2) :: s).map (·.1) := by
    simp only [Bool.or_eq_true, List.any_eq_true] at h2
    rcases h2 with h2 | ⟨q2, hq2, h2⟩
    · simp [Nat.eq_of_beq_eq_true h2]
    have := skel_mem hq2
    rw [Nat.eq_of_beq_eq_true h2] at this
    simp only [List.map_cons, List.mem_cons]
    exact .inr this
  have hf := (hL.iff e).2 hin
  simp only [Array.getD_eq_getD_getElem?] at hz hf
  cases hb : listed[e]? with
  | none => rw [hb] at hz; cases hz
  | some b => rw [hb] at hz hf; simp only [Option.getD_some] at hz hf; rw [hz] at hf; cases hf
end

/-- The operations of the schedule are left. -/
def WS (C : Cx) (St : Dr) (ops : Array Oper) (Q : Post) (s : List (Nat × Nat)) (fr : Fr) (cs : List Chunk) : Prop :=
  ∀ fuel listed, s.length ≤ fuel → Lst ops.size listed (s.map (·.1)) → Chk ops.size St.st (s.map (skOf ops)) = true → Region.noSelect ops = true → WA C St ops Q fuel listed fr cs
def WSI (C : Cx) (St : Dr) (ops : Array Oper) (Q : Post) (i : Nat) (s : List (Nat × Nat)) (fr : Fr) (cs : List Chunk) : Prop :=
  ∀ fuel listed, s.length ≤ fuel → Lst ops.size (listed.setIfInBounds i true) (s.map (·.1)) → Chk ops.size St.st (s.map (skOf ops)) = true → Region.noSelect ops = true → WI C St ops Q fuel listed i fr cs
section
variable {C : Cx} {Q : Post} {fr : Fr} {cs : List Chunk} {ops : Array Oper} {d : Nat} {op : Op} {ty : TypeId} {pos : String} {af : Array Edge} {gd : Option (Nat × Bool)} {V : World → Prop} {v : Value} {g : Bool}
  {St : Dr} {i : Nat} {s : List (Nat × Nat)}
def Sched (ops : Array Oper) (st : Nat → Bool) (s : List (Nat × Nat)) : Bool :=
  Region.noSelect ops && Nat.ble s.length ops.size && (List.range ops.size).all (fun j => memN (s.map (·.1)) j) && s.all (fun p => Nat.blt p.1 ops.size) && Chk ops.size st (s.map (skOf ops))
theorem ws_draw {id : Nat} {l : List Oper} (St : Dr) (s : List (Nat × Nat)) (hm : C.P.follows .mixedOrders = true) (hc : Sched l.toArray St.st s = true) (h : WS C St l.toArray Q s fr cs) : WC C (.region id l.toArray true) Q fr cs := by
  simp only [Sched, Bool.and_eq_true, List.all_eq_true, List.mem_range, memN_iff, Nat.blt_eq, Nat.ble_eq] at hc
  obtain ⟨⟨⟨⟨h1, h2⟩, h3⟩, h4⟩, h5⟩ := hc
  refine wc_draw St hm (h _ _ (by simpa using h2) ⟨by simp, fun j => ?_⟩ h5 h1)
  constructor
  · intro hj
    refine h3 j ?_
    rcases Nat.lt_or_ge j l.length with hlt | hge
    · simpa using hlt
    rw [Array.getD_eq_getD_getElem?, Array.getElem?_eq_none (by simpa using hge)] at hj
    cases hj
  intro hj
  obtain ⟨p, hp, rfl⟩ := List.mem_map.1 hj
  have := h4 p hp
  have : p.1 < l.length := by simpa using this
  simp [Array.getD_eq_getD_getElem?, this]
theorem ws_done (h : QOk C Q .normal fr cs) : WS C St ops Q [] fr cs := fun fuel listed _ hL _ _ => wa_done (by
  refine List.eq_nil_iff_forall_not_mem.2 fun j hj => ?_
  have := (hL.iff j).1 (mem_ready.1 hj).1
  cases this) h
theorem chk_cons {x : Sk} {rest : List Sk} {n : Nat} {st : Nat → Bool} (h : Chk n st (x :: rest) = true) (hk : x.k ≠ 3) : chk1 n st x rest = true ∧ Chk n st rest = true := by
  simp only [Chk, Bool.or_eq_true, Bool.and_eq_true] at h
  rcases h with h | h
  · exact absurd (Nat.eq_of_beq_eq_true h) hk
  exact h
theorem ws_first {k : Nat} (hk : k = 0 ∨ k = 1) (hV : ∀ w w', Pres w w' → V w → V w') (hi : ops[i]? = some ⟨some d, op, ty, pos, af, gd⟩) (hg : GuardIs ops fr ⟨some d, op, ty, pos, af, gd⟩ g) (hy : OpY C ⟨some d, op, ty, pos, af, gd⟩ fr g V v)
    (hcl : (∀ w, V w) ∨ k = 1 ∨ (∀ w w', (cells St.l0 w → cells St.l0 w') → V w → V w')) (hW : ∀ w, Inv C.w0 C.S cs w → V w) (hd : Nat.blt d C.N = true)
    (h : WS C St ops Q s ((d, bif g then v else undef) :: fr) cs) : WS C St ops Q ((i, k) :: s) fr cs := fun fuel listed hf hL hc hn => by
  obtain ⟨e1, e2, e3⟩ := skOf_ok (p := (i, k)) hi
  have hk3 : (skOf ops (i, k)).k ≠ 3 := by rw [e2]; rcases hk with rfl | rfl; exact (by decide : (0 : Nat) ≠ 3); exact (by decide : (1 : Nat) ≠ 3)
  obtain ⟨c1, c2⟩ := chk_cons hc hk3
  have hL2 := hL.step (chk_new c1)
  obtain ⟨fuel, rfl⟩ : ∃ m, fuel = m + 1 := ⟨fuel - 1, by simp at hf; omega⟩
  have h2 := h fuel _ (by simpa using hf) hL2 c2 hn
  exact fun a w hfr hi' => wpAnyT_first (V := V) hV hi (Region.noSelect_spec hn) (fun _ _ _ h => h) fuel listed a w
    (fun j oj hj hne hun hno => by
      have h3 := chk_free hi hL c1 hk j oj hj hne hun hno
      refine ⟨h3.1, ?_⟩
      rcases hcl with h | h | h
      · exact .inl h
      · exact .inr (.inl (h3.2 h))
      exact .inr (.inr h))
    (chk_ready hi hL c1) (yieldsIf_of hg hy hfr) (hW w hi') (h2 _ w (hfr.put (by simpa [Nat.blt_eq] using hd) _) hi')
theorem ws_y (hi : ops[i]? = some ⟨some d, op, ty, pos, af, gd⟩) (hg : GuardIs ops fr ⟨some d, op, ty, pos, af, gd⟩ g) (hy : OpY C ⟨some d, op, ty, pos, af, gd⟩ fr g Any v) (hd : Nat.blt d C.N = true)
    (h : WS C St ops Q s ((d, bif g then v else undef) :: fr) cs) : WS C St ops Q ((i, 0) :: s) fr cs :=
  ws_first (.inl rfl) (fun _ _ _ h => h) hi hg hy (.inl fun _ => trivial) (fun _ _ => trivial) hd h
theorem ws_yn (hi : ops[i]? = some ⟨some d, op, ty, pos, af, none⟩) (hy : OpY C ⟨some d, op, ty, pos, af, none⟩ fr true Any v) (hd : Nat.blt d C.N = true)
    (h : WS C St ops Q s ((d, v) :: fr) cs) : WS C St ops Q ((i, 0) :: s) fr cs := ws_y hi guard_none hy hd h
theorem ws_l {l : List (Addr × Value)} (hi : ops[i]? = some ⟨some d, op, ty, pos, af, gd⟩) (hg : GuardIs ops fr ⟨some d, op, ty, pos, af, gd⟩ g) (hy : OpY C ⟨some d, op, ty, pos, af, gd⟩ fr g (cells l) v) (hV : ∀ w, Inv C.w0 C.S cs w → cells l w) (hd : Nat.blt d C.N = true)
    (h : WS C St ops Q s ((d, bif g then v else undef) :: fr) cs) : WS C St ops Q ((i, 1) :: s) fr cs :=
  ws_first (.inr rfl) (fun _ _ hp h x hx => hp _ _ (h x hx)) hi hg hy (.inr (.inl rfl)) hV hd h
theorem ws_ln {l : List (Addr × Value)} (hi : ops[i]? = some ⟨some d, op, ty, pos, af, none⟩) (hy : OpY C ⟨some d, op, ty, pos, af, none⟩ fr true (cells l) v) (hV : ∀ w, Inv C.w0 C.S cs w → cells l w) (hd : Nat.blt d C.N = true)
    (h : WS C St ops Q s ((d, v) :: fr) cs) : WS C St ops Q ((i, 1) :: s) fr cs := ws_l hi guard_none hy hV hd h
theorem ws_lk {ad : Addr} (hi : ops[i]? = some ⟨some d, op, ty, pos, af, gd⟩) (hg : GuardIs ops fr ⟨some d, op, ty, pos, af, gd⟩ g) (hy : OpY C ⟨some d, op, ty, pos, af, gd⟩ fr g (cells [(ad, v)]) v) (hm : (ad, v) ∈ St.l0) (hV : ∀ w, Inv C.w0 C.S cs w → cells St.l0 w) (hd : Nat.blt d C.N = true)
    (h : WS C St ops Q s ((d, bif g then v else undef) :: fr) cs) : WS C St ops Q ((i, 0) :: s) fr cs :=
  ws_first (V := cells St.l0) (.inl rfl) (fun _ _ hp h x hx => hp _ _ (h x hx)) hi hg (fun a w hf hV hg => hy a w hf (fun x hx => by rw [List.mem_singleton] at hx; subst hx; exact hV _ hm) hg) (.inr (.inr fun _ _ h => h)) hV hd h
theorem ws_lkn {ad : Addr} (hi : ops[i]? = some ⟨some d, op, ty, pos, af, none⟩) (hy : OpY C ⟨some d, op, ty, pos, af, none⟩ fr true (cells [(ad, v)]) v) (hm : (ad, v) ∈ St.l0) (hV : ∀ w, Inv C.w0 C.S cs w → cells St.l0 w) (hd : Nat.blt d C.N = true)
    (h : WS C St ops Q s ((d, v) :: fr) cs) : WS C St ops Q ((i, 0) :: s) fr cs := ws_lk hi guard_none hy hm hV hd h
theorem ws_loadRow {T : TypeId} {x : Operand} {bb t : Nat} {xs : List Value} (hi : ops[i]? = some ⟨some d, .load T x, ty, pos, af, none⟩) (hc : Has cs (row bb xs t)) (hT : ∀ w, (isAgg T).run C.P w = .ok true w) (hs : ∀ w, (sizeOf T).run C.P w = .ok xs.length w) (hx : Ev fr true x (.pointer (some ⟨bb, 0, none⟩))) (hd : Nat.blt d C.N = true)
    (h : WS C St ops Q s ((d, .agg xs.toArray) :: fr) cs) : WS C St ops Q ((i, 1) :: s) fr cs := ws_ln hi (y_loadN hT hs hx) (hv_row hc) hd h
theorem ws_loadRowg {T : TypeId} {x : Operand} {bb t : Nat} {xs : List Value} (hi : ops[i]? = some ⟨some d, .load T x, ty, pos, af, gd⟩) (hg : GuardIs ops fr ⟨some d, .load T x, ty, pos, af, gd⟩ g) (hc : Has cs (row bb xs t)) (hT : ∀ w, (isAgg T).run C.P w = .ok true w) (hs : ∀ w, (sizeOf T).run C.P w = .ok xs.length w) (hx : Ev fr g x (.pointer (some ⟨bb, 0, none⟩))) (hd : Nat.blt d C.N = true)
    (h : WS C St ops Q s ((d, bif g then .agg xs.toArray else undef) :: fr) cs) : WS C St ops Q ((i, 1) :: s) fr cs := ws_l hi hg (y_loadN hT hs hx) (hv_row hc) hd h
theorem ws_l4 {l : List (Addr × Value)} (hi : ops[i]? = some ⟨some d, op, ty, pos, af, gd⟩) (hg : GuardIs ops fr ⟨some d, op, ty, pos, af, gd⟩ g) (hy : OpY C ⟨some d, op, ty, pos, af, gd⟩ fr g (cells l) v) (hV : ∀ w, Inv C.w0 C.S cs w → cells l w) (hd : Nat.blt d C.N = true)
    (h : WS C St ops Q s ((d, bif g then v else undef) :: fr) cs) : WS C St ops Q ((i, 4) :: s) fr cs := fun fuel listed hf hL hc hn => by
  obtain ⟨e1, e2, e3⟩ := skOf_ok (p := (i, 4)) hi
  have hk3 : (skOf ops (i, 4)).k ≠ 3 := by rw [e2]; exact (by decide : (4 : Nat) ≠ 3)
  obtain ⟨c1, c2⟩ := chk_cons hc hk3
  have hnew := chk_new c1
  have hL2 := hL.step hnew
  have h4 : chk4 St.st (skOf ops (i, 4)) (s.map (skOf ops)) [] = true := by
    have c3 := c1
    simp only [chk1, Bool.and_eq_true, e2] at c3
    simpa using c3.2
  obtain ⟨B, -, b2, b3⟩ := chk4_spec _ _ h4
  obtain ⟨fuel, rfl⟩ : ∃ m, fuel = m + 1 := ⟨fuel - 1, by simp at hf; omega⟩
  have h2 := h fuel _ (by simpa using hf) hL2 c2 hn
  have hin : ∀ b, b ∈ s.map (·.1) → listed.getD b true = false := fun b hb => (hL.iff b).2 (by simp only [List.map_cons, List.mem_cons]; exact .inr hb)
  exact fun a w hfr hi' => wpAnyT_firstB (V := cells l) B (fun _ _ hp h x hx => hp _ _ (h x hx)) hi (Region.noSelect_spec hn) (fun _ _ _ h => h) fuel listed a w
    (fun b hb => by
      rcases b3 b hb with h5 | ⟨r, hr, rfl, e, he, hx⟩
      · cases h5
      obtain ⟨p, hp, rfl⟩ := List.mem_map.1 hr
      refine ⟨hin _ (skel_mem (List.mem_map.2 ⟨p, hp, rfl⟩)), fun ob hob => ?_⟩
      rw [skOf_i] at hob
      obtain ⟨z, z1, z2, z3⟩ := (waits_mem (skOf_ok hob).2.2).1 he
      refine ⟨z, z1, z2, ?_⟩
      rw [z3]
      rcases hx with hx | hx
      · exact .inl (hx.trans e1)
      exact .inr hx)
    (fun j oj hj hne hun hno => by
      have hjm := (hL.iff j).1 hun
      simp only [List.map_cons, List.mem_cons, hne, false_or] at hjm
      obtain ⟨q, hq, q3, q4⟩ := mem_skel (ops := ops) hjm
      have h5 := b2 q hq (by rw [q3]; exact hno)
      exact ⟨apartK_apart e3 (q4 oj hj) h5.1, q3 ▸ h5.2⟩)
    (chk_ready hi hL c1) (yieldsIf_of hg hy hfr) (hV w hi') (h2 _ w (hfr.put (by simpa [Nat.blt_eq] using hd) _) hi')
theorem ws_ln4 {l : List (Addr × Value)} (hi : ops[i]? = some ⟨some d, op, ty, pos, af, none⟩) (hy : OpY C ⟨some d, op, ty, pos, af, none⟩ fr true (cells l) v) (hV : ∀ w, Inv C.w0 C.S cs w → cells l w) (hd : Nat.blt d C.N = true)
    (h : WS C St ops Q s ((d, v) :: fr) cs) : WS C St ops Q ((i, 4) :: s) fr cs := ws_l4 hi guard_none hy hV hd h
theorem ws_loadRow4 {T : TypeId} {x : Operand} {bb t : Nat} {xs : List Value} (hi : ops[i]? = some ⟨some d, .load T x, ty, pos, af, none⟩) (hc : Has cs (row bb xs t)) (hT : ∀ w, (isAgg T).run C.P w = .ok true w) (hs : ∀ w, (sizeOf T).run C.P w = .ok xs.length w) (hx : Ev fr true x (.pointer (some ⟨bb, 0, none⟩))) (hd : Nat.blt d C.N = true)
    (h : WS C St ops Q s ((d, .agg xs.toArray) :: fr) cs) : WS C St ops Q ((i, 4) :: s) fr cs := ws_ln4 hi (y_loadN hT hs hx) (hv_row hc) hd h
theorem ws_loadRowg4 {T : TypeId} {x : Operand} {bb t : Nat} {xs : List Value} (hi : ops[i]? = some ⟨some d, .load T x, ty, pos, af, gd⟩) (hg : GuardIs ops fr ⟨some d, .load T x, ty, pos, af, gd⟩ g) (hc : Has cs (row bb xs t)) (hT : ∀ w, (isAgg T).run C.P w = .ok true w) (hs : ∀ w, (sizeOf T).run C.P w = .ok xs.length w) (hx : Ev fr g x (.pointer (some ⟨bb, 0, none⟩))) (hd : Nat.blt d C.N = true)
    (h : WS C St ops Q s ((d, bif g then .agg xs.toArray else undef) :: fr) cs) : WS C St ops Q ((i, 4) :: s) fr cs := ws_l4 hi hg (y_loadN hT hs hx) (hv_row hc) hd h
theorem ws_1 {oi : Oper} (hi : ops[i]? = some oi) (h : WSI C St ops Q i s fr cs) : WS C St ops Q ((i, 2) :: s) fr cs := fun fuel listed hf hL hc hn => by
  obtain ⟨e1, e2, e3⟩ := skOf_ok (p := (i, 2)) hi
  have hk3 : (skOf ops (i, 2)).k ≠ 3 := by rw [e2]; exact (by decide : (2 : Nat) ≠ 3)
  obtain ⟨c1, c2⟩ := chk_cons hc hk3
  have hr := chk_ready hi hL c1
  obtain ⟨fuel, rfl⟩ : ∃ m, fuel = m + 1 := ⟨fuel - 1, by simp at hf; omega⟩
  have h2 := h fuel listed (by simpa using hf) (hL.step (chk_new c1)) c2 hn
  exact fun a w hfr hi' => ⟨fun h0 => (by rw [h0] at hr; cases hr), fun j hj => by
    have := chk_only hi hL c1 j hj
    subst this
    exact h2 a w hfr hi'⟩
/-- The ways that go on. -/
inductive Ways (C : Cx) (St : Dr) (ops : Array Oper) (Q : Post) (fr : Fr) (cs : List Chunk) : List (Nat × List (Nat × Nat)) → Prop
  | nil : Ways C St ops Q fr cs []
  | cons {i : Nat} {s : List (Nat × Nat)} {L : List (Nat × List (Nat × Nat))} (h : WSI C St ops Q i s fr cs) (t : Ways C St ops Q fr cs L) : Ways C St ops Q fr cs ((i, s) :: L)
theorem Ways.get {L : List (Nat × List (Nat × Nat))} (h : Ways C St ops Q fr cs L) : ∀ p, p ∈ L → WSI C St ops Q p.1 p.2 fr cs := by
  induction h with
  | nil => exact fun p hp => by cases hp
  | cons h _ ih =>
    intro p hp
    rcases List.mem_cons.1 hp with rfl | hp
    · exact h
    exact ih p hp
def Forks (ops : Array Oper) (st : Nat → Bool) (s : List (Nat × Nat)) (L : List (Nat × List (Nat × Nat))) : Bool :=
  (s.map (skOf ops)).all (fun q => memN (L.map (·.1)) q.i || q.w.any (fun e => memN (s.map (·.1)) e)) &&
  L.all (fun p => Nat.blt p.2.length s.length && memN (s.map (·.1)) p.1 && !memN (p.2.map (·.1)) p.1 && s.all (fun q => Nat.beq q.1 p.1 || memN (p.2.map (·.1)) q.1) && p.2.all (fun q => memN (s.map (·.1)) q.1) && Chk ops.size st (p.2.map (skOf ops))) &&
  !L.isEmpty && (L.all fun p => ((skOf ops (p.1, 0)).w.all fun e => Nat.blt e ops.size && !memN (s.map (·.1)) e) && Nat.blt p.1 ops.size)
theorem ws_n (L : List (Nat × List (Nat × Nat))) (hc : Forks ops St.st s L = true) (h : Ways C St ops Q fr cs L) : WS C St ops Q s fr cs := fun fuel listed hf hL _ hn => by
  simp only [Forks, Bool.and_eq_true, List.all_eq_true, memN_iff, Nat.blt_eq, Bool.or_eq_true, List.any_eq_true, Bool.not_eq_true'] at hc
  obtain ⟨⟨⟨c1, c2⟩, c3⟩, c4⟩ := hc
  have hs0 : s ≠ [] := by
    intro e
    cases L with
    | nil => cases c3
    | cons p L => have := (c2 p (by simp)).1.1.1.1.1; rw [e] at this; simp at this
  obtain ⟨fuel, rfl⟩ : ∃ m, fuel = m + 1 := ⟨fuel - 1, by have := List.length_pos_iff.2 hs0; omega⟩
  have hready : ∀ j, j ∈ Region.ready .any ops listed → j ∈ L.map (·.1) := fun j hj => by
    obtain ⟨hun, oj, hoj, hall⟩ := mem_ready.1 hj
    obtain ⟨q, hq, e3, e4⟩ := mem_skel (ops := ops) ((hL.iff j).1 hun)
    rcases c1 q hq with h1 | ⟨e, he, h1⟩
    · rwa [e3] at h1
    obtain ⟨z, z1, z2, z3⟩ := (waits_mem (e4 oj hoj)).1 he
    have hz := hall z z1 z2
    have hf := (hL.iff e).2 h1
    rw [z3] at hz
    simp only [Array.getD_eq_getD_getElem?] at hz hf
    cases hb : listed[e]? with
    | none => rw [hb] at hz; cases hz
    | some b => rw [hb] at hz hf; simp only [Option.getD_some] at hz hf; rw [hz] at hf; cases hf
  have hne : Region.ready .any ops listed ≠ [] := by
    cases L with
    | nil => cases c3
    | cons p L =>
      obtain ⟨c5, c6⟩ := c4 p (by simp)
      obtain ⟨⟨⟨⟨⟨d1, d2⟩, d3⟩, d4⟩, d5⟩, d6⟩ := c2 p (by simp)
      obtain ⟨o, ho⟩ : ∃ o, ops[p.1]? = some o := ⟨_, Array.getElem?_eq_getElem c6⟩
      intro h0
      have : p.1 ∈ Region.ready .any ops listed := mem_ready.2 ⟨(hL.iff _).2 d2, o, ho, fun e he hb => by
        obtain ⟨-, -, hk⟩ := skOf_ok (p := (p.1, 0)) ho
        obtain ⟨f1, f2⟩ := c5 e.on ((waits_mem hk).2 ⟨e, he, hb, rfl⟩)
        have f3 : e.on ∉ s.map (·.1) := fun hm => by rw [memN_iff.2 hm] at f2; cases f2
        cases hg : listed.getD e.on true with
        | true =>
          simp only [Array.getD_eq_getD_getElem?] at hg ⊢
          cases hq : listed[e.on]? with
          | none =>
            rw [Array.getElem?_eq_none_iff, hL.size] at hq
            omega
          | some b => rw [hq] at hg; exact hg
        | false => exact absurd ((hL.iff e.on).1 hg) f3⟩
      rw [h0] at this
      cases this
  intro a w hfr hi'
  refine ⟨fun h0 => absurd h0 hne, fun j hj => ?_⟩
  obtain ⟨p, hp, rfl⟩ := List.mem_map.1 (hready j hj)
  obtain ⟨⟨⟨⟨⟨d1, d2⟩, d3⟩, d4⟩, d5⟩, d6⟩ := c2 p hp
  have d3' : p.1 ∉ p.2.map (·.1) := fun hm => by rw [memN_iff.2 hm] at d3; cases d3
  refine h.get p hp fuel listed (by omega) (Lst.step (hL.set fun j => ?_) d3') d6 hn a w hfr hi'
  constructor
  · intro hj
    obtain ⟨q, hq, rfl⟩ := List.mem_map.1 hj
    rcases d4 q hq with h1 | h1
    · simp [Nat.eq_of_beq_eq_true h1]
    exact List.mem_cons_of_mem _ h1
  intro hj
  rcases List.mem_cons.1 hj with rfl | hj
  · exact d2
  obtain ⟨q, hq, rfl⟩ := List.mem_map.1 hj
  exact d5 q hq
/-! one operation of the schedule -/
theorem wsi_t {st : Bool} {K : Value → List Chunk → Prop} (hi : ops[i]? = some ⟨some d, op, ty, pos, af, none⟩) (hst : St.st i = st)
    (ht : OpT C ⟨some d, op, ty, pos, af, none⟩ fr cs st K) (hJ : st = true → ∀ v cs', K v cs' → ∀ w, Inv C.w0 C.S cs' w → cells St.l0 w) (hd : Nat.blt d C.N = true) (h : ∀ v cs', K v cs' → WS C St ops Q s ((d, v) :: fr) cs') : WSI C St ops Q i s fr cs := fun fuel listed h1 h2 h3 h4 =>
  wi_t hi hst ht hJ hd fun v cs' hk => h v cs' hk fuel _ h1 h2 h3 h4
theorem wsi_t0 {st : Bool} {K : Value → List Chunk → Prop} (hi : ops[i]? = some ⟨none, op, ty, pos, af, none⟩) (hst : St.st i = st)
    (ht : OpT C ⟨none, op, ty, pos, af, none⟩ fr cs st K) (hJ : st = true → ∀ v cs', K v cs' → ∀ w, Inv C.w0 C.S cs' w → cells St.l0 w) (h : ∀ v cs', K v cs' → WS C St ops Q s fr cs') : WSI C St ops Q i s fr cs := fun fuel listed h1 h2 h3 h4 =>
  wi_t0 hi hst ht hJ fun v cs' hk => h v cs' hk fuel _ h1 h2 h3 h4
theorem wsi_tg {st : Bool} {K : Value → List Chunk → Prop} (hi : ops[i]? = some ⟨some d, op, ty, pos, af, gd⟩) (hst : St.st i = st)
    (hg : GuardIs ops fr ⟨some d, op, ty, pos, af, gd⟩ g) (hg1 : g = true)
    (ht : OpT C ⟨some d, op, ty, pos, af, gd⟩ fr cs st K) (hJ : st = true → ∀ v cs', K v cs' → ∀ w, Inv C.w0 C.S cs' w → cells St.l0 w) (hd : Nat.blt d C.N = true) (h : ∀ v cs', K v cs' → WS C St ops Q s ((d, v) :: fr) cs') : WSI C St ops Q i s fr cs := fun fuel listed h1 h2 h3 h4 =>
  wi_tg hi hst hg hg1 ht hJ hd fun v cs' hk => h v cs' hk fuel _ h1 h2 h3 h4
theorem wsi_callg {f : FuncId} {l : List Operand} {vs : List Value} {ats : Array TypeId} {v0 : Value} (hi : ops[i]? = some ⟨some d, .call { callee := .value (.func f), args := l.toArray, argTypes := ats }, ty, pos, af, gd⟩)
    (hg : GuardIs ops fr ⟨some d, .call { callee := .value (.func f), args := l.toArray, argTypes := ats }, ty, pos, af, gd⟩ g) (hl : EvL fr g l vs)
    (hc : ∀ args w, (callFunc f args).run C.P w = .ok (.enter f args) w) (h : g = true → ∀ w, Inv C.w0 C.S cs w → Ctr C.P f vs w [] (fun v cs => v = v0 ∧ cs = [])) (hd : Nat.blt d C.N = true)
    (hn : WS C St ops Q s ((d, bif g then v0 else undef) :: fr) cs) : WSI C St ops Q i s fr cs := fun fuel listed h1 h2 h3 h4 =>
  wi_callg hi hg hl hc h hd (hn fuel _ h1 h2 h3 h4)
theorem wsi_skip (hi : ops[i]? = some ⟨some d, op, ty, pos, af, gd⟩) (hg : GuardIs ops fr ⟨some d, op, ty, pos, af, gd⟩ g) (hg0 : g = false) (hd : Nat.blt d C.N = true)
    (h : WS C St ops Q s ((d, undef) :: fr) cs) : WSI C St ops Q i s fr cs := fun fuel listed h1 h2 h3 h4 => wi_skip hi hg hg0 hd (h fuel _ h1 h2 h3 h4)
theorem wsi_y (hi : ops[i]? = some ⟨some d, op, ty, pos, af, gd⟩) (hg : GuardIs ops fr ⟨some d, op, ty, pos, af, gd⟩ g) (hy : OpY C ⟨some d, op, ty, pos, af, gd⟩ fr g V v) (hV : ∀ w, Inv C.w0 C.S cs w → V w) (hd : Nat.blt d C.N = true)
    (h : WS C St ops Q s ((d, bif g then v else undef) :: fr) cs) : WSI C St ops Q i s fr cs := fun fuel listed h1 h2 h3 h4 => wi_y hi hg hy hV hd (h fuel _ h1 h2 h3 h4)
theorem wsi_yn (hi : ops[i]? = some ⟨some d, op, ty, pos, af, none⟩) (hy : OpY C ⟨some d, op, ty, pos, af, none⟩ fr true V v) (hV : ∀ w, Inv C.w0 C.S cs w → V w) (hd : Nat.blt d C.N = true)
    (h : WS C St ops Q s ((d, v) :: fr) cs) : WSI C St ops Q i s fr cs := fun fuel listed h1 h2 h3 h4 => wi_yn hi hy hV hd (h fuel _ h1 h2 h3 h4)
theorem wsi_loadRow {T : TypeId} {x : Operand} {bb t : Nat} {xs : List Value} (hi : ops[i]? = some ⟨some d, .load T x, ty, pos, af, gd⟩) (hg : GuardIs ops fr ⟨some d, .load T x, ty, pos, af, gd⟩ g)
    (hc : Has cs (row bb xs t)) (hT : ∀ w, (isAgg T).run C.P w = .ok true w) (hs : ∀ w, (sizeOf T).run C.P w = .ok xs.length w) (hx : Ev fr g x (.pointer (some ⟨bb, 0, none⟩))) (hd : Nat.blt d C.N = true)
    (h : WS C St ops Q s ((d, bif g then .agg xs.toArray else undef) :: fr) cs) : WSI C St ops Q i s fr cs := wsi_y hi hg (y_loadN hT hs hx) (hv_row hc) hd h
theorem wsi_loadRown {T : TypeId} {x : Operand} {bb t : Nat} {xs : List Value} (hi : ops[i]? = some ⟨some d, .load T x, ty, pos, af, none⟩)
    (hc : Has cs (row bb xs t)) (hT : ∀ w, (isAgg T).run C.P w = .ok true w) (hs : ∀ w, (sizeOf T).run C.P w = .ok xs.length w) (hx : Ev fr true x (.pointer (some ⟨bb, 0, none⟩))) (hd : Nat.blt d C.N = true)
    (h : WS C St ops Q s ((d, .agg xs.toArray) :: fr) cs) : WSI C St ops Q i s fr cs := wsi_yn hi (y_loadN hT hs hx) (hv_row hc) hd h
theorem ws_fact {F : Prop} (hf : ∀ w, Inv C.w0 C.S cs w → F) (h : F → WS C St ops Q s fr cs) : WS C St ops Q s fr cs := fun fuel listed h1 h2 h3 h4 a w hfr hi => h (hf w hi) fuel listed h1 h2 h3 h4 a w hfr hi
theorem wsi_fact {F : Prop} (hf : ∀ w, Inv C.w0 C.S cs w → F) (h : F → WSI C St ops Q i s fr cs) : WSI C St ops Q i s fr cs := fun fuel listed h1 h2 h3 h4 a w hfr hi => h (hf w hi) fuel listed h1 h2 h3 h4 a w hfr hi
theorem ws_nilc (e sz : Nat) (h : WS C St ops Q s fr (cs ++ [slv e sz none 0 0 []])) : WS C St ops Q s fr cs := fun fuel listed h1 h2 h3 h4 => wa_nilc e sz (h fuel listed h1 h2 h3 h4)
theorem wsi_nilc (e sz : Nat) (h : WSI C St ops Q i s fr (cs ++ [slv e sz none 0 0 []])) : WSI C St ops Q i s fr cs := fun fuel listed h1 h2 h3 h4 => wi_nilc e sz (h fuel listed h1 h2 h3 h4)
end
end Go.Ink
