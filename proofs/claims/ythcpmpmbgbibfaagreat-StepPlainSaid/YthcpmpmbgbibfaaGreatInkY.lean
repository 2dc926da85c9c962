/- Regions that draw their order, with allocations that may come at any time. Nothing of the program. -/
import Derived.Test.YthcpmpmbgbibfaaGreatInkP
set_option linter.unusedSimpArgs false
set_option linter.unusedVariables false
namespace Go.Ink
open Go.RowKit
structure PA where
  i : Nat
  d : Nat
  zs : List Value
  T : TypeId
def exF (D : List (PA × Nat)) : Fr := D.map fun p => (p.1.d, Value.pointer (some ⟨p.2, 0, none⟩))
def exK (D : List (PA × Nat)) : List Chunk := D.map fun p => row p.2 p.1.zs p.1.T
def marks (listed : Array Bool) (js : List Nat) : Array Bool := js.foldl (fun l i => l.setIfInBounds i true) listed
theorem marks_get : ∀ (js : List Nat) (listed : Array Bool) (k : Nat), (marks listed js)[k]? = if k ∈ js then (listed[k]?).map (fun _ => true) else listed[k]?
  | [], listed, k => by simp [marks]
  | i :: js, listed, k => by
    show (marks (listed.setIfInBounds i true) js)[k]? = _
    rw [marks_get js]
    by_cases hk : i = k
    · subst hk
      by_cases h2 : i ∈ js
      · rw [if_pos h2, if_pos (by simp), Array.getElem?_setIfInBounds_self]
        split <;> rename_i h3
        · simp [h3]
        simp [h3]
      rw [if_neg h2, if_pos (by simp), Array.getElem?_setIfInBounds_self]
      split <;> rename_i h3
      · simp [h3]
      simp [h3]
    rw [Array.getElem?_setIfInBounds_ne hk]
    by_cases h2 : k ∈ js
    · rw [if_pos h2, if_pos (List.mem_cons_of_mem _ h2)]
    rw [if_neg h2, if_neg (by simp [h2, Ne.symm hk])]
theorem marks_same {listed : Array Bool} {js js' : List Nat} (h : ∀ k, k ∈ js ↔ k ∈ js') : marks listed js = marks listed js' := by
  apply Array.ext_getElem?
  intro k
  rw [marks_get, marks_get]
  by_cases h1 : k ∈ js
  · rw [if_pos h1, if_pos ((h k).1 h1)]
  rw [if_neg h1, if_neg (fun q => h1 ((h k).2 q))]
theorem marks_snoc {listed : Array Bool} {js : List Nat} {i : Nat} : marks listed (js ++ [i]) = (marks listed js).setIfInBounds i true := by
  unfold marks
  rw [List.foldl_append]
  rfl
theorem marks_first {listed : Array Bool} {js : List Nat} {i : Nat} : marks (listed.setIfInBounds i true) js = (marks listed js).setIfInBounds i true := by
  rw [← marks_snoc, show marks (listed.setIfInBounds i true) js = marks listed (i :: js) from rfl]
  exact marks_same (fun k => by simp [or_comm])
theorem marks_false {listed : Array Bool} {js : List Nat} {k : Nat} : (marks listed js).getD k true = false ↔ listed.getD k true = false ∧ k ∉ js := by
  simp only [Array.getD_eq_getD_getElem?, marks_get]
  by_cases h : k ∈ js
  · rw [if_pos h]
    cases listed[k]? <;> simp [h]
  rw [if_neg h]
  simp [h]
theorem marks_true {listed : Array Bool} {js : List Nat} {k : Nat} (h : (marks listed js).getD k false = true) {js' : List Nat} (hs : ∀ j, j ∈ js → j ∈ js') : (marks listed js').getD k false = true := by
  simp only [Array.getD_eq_getD_getElem?, marks_get] at h ⊢
  by_cases h1 : k ∈ js
  · rw [if_pos h1] at h
    rw [if_pos (hs k h1)]
    exact h
  rw [if_neg h1] at h
  by_cases h2 : k ∈ js'
  · rw [if_pos h2]
    cases hl : listed[k]? with
    | none => rw [hl] at h; cases h
    | some b => rfl
  rw [if_neg h2]
  exact h
theorem ready_more {md : Region.Mode} {ops : Array Oper} {listed : Array Bool} {js js' : List Nat} {k : Nat} (hk : k ∈ Region.ready md ops (marks listed js)) (hs : ∀ j, j ∈ js → j ∈ js') (hn : k ∉ js') : k ∈ Region.ready md ops (marks listed js') := by
  rw [mem_ready] at hk ⊢
  obtain ⟨h1, o, ho, h2⟩ := hk
  exact ⟨marks_false.2 ⟨(marks_false.1 h1).1, hn⟩, o, ho, fun e he hb => marks_true (h2 e he hb) hs⟩
/-- What is known of an allocation that waits. -/
def PAok (C : Cx) (St : Dr) (ops : Array Oper) (p : PA) : Prop :=
  ∃ op ty pos af, ops[p.i]? = some ⟨some p.d, op, ty, pos, af, none⟩ ∧ St.st p.i = false ∧ Nat.blt p.d C.N = true ∧ ∀ fr cs, OpT C ⟨some p.d, op, ty, pos, af, none⟩ fr cs false (fun v cs' => ∃ b, v = .pointer (some ⟨b, 0, none⟩) ∧ cs' = cs ++ [row b p.zs p.T])
theorem pa_ok {C : Cx} {St : Dr} {ops : Array Oper} {p : PA} {ty : TypeId} {pos : String} {af : Array Edge} {z : Value} (hi : ops[p.i]? = some ⟨some p.d, .alloc p.T, ty, pos, af, none⟩) (hs : St.st p.i = false) (hd : Nat.blt p.d C.N = true) (hz : ∀ w, (zeroValue p.T).run C.P w = .ok z w) (hzs : z.cells = p.zs.toArray) : PAok C St ops p :=
  ⟨_, _, _, _, hi, hs, hd, fun fr cs => t_alloc hz hzs⟩
/-- The region from a point on, whichever of the allocations have come already. -/
def WP (C : Cx) (St : Dr) (ops : Array Oper) (Q : Post) (pl : List PA) (fuel : Nat) (listed : Array Bool) (fr : Fr) (cs : List Chunk) : Prop :=
  ∀ (D : List (PA × Nat)) (rest : List PA), (D.map Prod.fst ++ rest).Perm pl → WA C St ops Q (fuel + rest.length) (marks listed (D.map (·.1.i))) (fr ++ exF D) (cs ++ exK D)
section
variable {C : Cx} {Q : Post} {fr : Fr} {cs : List Chunk} {ops : Array Oper} {St : Dr} {fuel : Nat} {listed : Array Bool} {pl : List PA}
theorem wp_start (pl : List PA) (h : WP C St ops Q pl fuel listed fr cs) : WA C St ops Q (fuel + pl.length) listed fr cs := by
  have h1 := h [] pl (by simp)
  simpa [exF, exK, marks] using h1
theorem look_snoc {fr : Fr} {d t : Nat} {v u : Value} (h : look (fr ++ [(d, v)]) t = some u) : look fr t = some u ∨ (look fr t = none ∧ d = t ∧ u = v) := by
  induction fr with
  | nil =>
    have h' : (bif Nat.beq d t then some v else none) = some u := h
    cases e : Nat.beq d t with
    | true => rw [e] at h'; exact .inr ⟨rfl, Nat.eq_of_beq_eq_true e, (Option.some.inj h').symm⟩
    | false => rw [e] at h'; cases h'
  | cons p fr ih =>
    obtain ⟨d', v'⟩ := p
    have h' : (bif Nat.beq d' t then some v' else look (fr ++ [(d, v)]) t) = some u := h
    show (bif Nat.beq d' t then some v' else look fr t) = some u ∨ ((bif Nat.beq d' t then some v' else look fr t) = none ∧ d = t ∧ u = v)
    cases e : Nat.beq d' t with
    | true => rw [e] at h'; exact .inl h'
    | false => rw [e] at h'; simp only [cond_false] at h' ⊢; exact ih h'
theorem frok_snoc {N d : Nat} {fr : Fr} {v : Value} {a : Act} (hn : look fr d = none) (h : FrOk N ((d, v) :: fr) a) : FrOk N (fr ++ [(d, v)]) a := by
  refine ⟨h.size, h.defs, fun t u hl => h.at_ t u ?_⟩
  show (bif Nat.beq d t then some v else look fr t) = some u
  rcases look_snoc hl with h1 | ⟨h1, rfl, rfl⟩
  · cases e : Nat.beq d t with
    | true => rw [← Nat.eq_of_beq_eq_true e, hn] at h1; cases h1
    | false => exact h1
  rw [Nat.beq_refl]; rfl
theorem look_app {fr fr' : Fr} {t : Nat} : look (fr ++ fr') t = match look fr t with | some u => some u | none => look fr' t := by
  induction fr with
  | nil => rfl
  | cons p fr ih =>
    obtain ⟨d, v⟩ := p
    show (bif Nat.beq d t then some v else look (fr ++ fr') t) = match (bif Nat.beq d t then some v else look fr t) with | some u => some u | none => look fr' t
    cases Nat.beq d t with
    | true => rfl
    | false => exact ih
theorem look_mem {fr : Fr} {t : Nat} {u : Value} (h : look fr t = some u) : (t, u) ∈ fr := by
  induction fr with
  | nil => cases h
  | cons p fr ih =>
    obtain ⟨d, v⟩ := p
    have h' : (bif Nat.beq d t then some v else look fr t) = some u := h
    cases e : Nat.beq d t with
    | true => rw [e] at h'; rw [Nat.eq_of_beq_eq_true e, Option.some.inj h']; exact List.mem_cons_self ..
    | false => rw [e] at h'; exact List.mem_cons_of_mem _ (ih h')
theorem mem_look {fr : Fr} {t : Nat} {u : Value} (hn : (fr.map Prod.fst).Nodup) (h : (t, u) ∈ fr) : look fr t = some u := by
  induction fr with
  | nil => cases h
  | cons p fr ih =>
    obtain ⟨d, v⟩ := p
    obtain ⟨hn1, hn2⟩ := List.nodup_cons.1 (show (d :: fr.map Prod.fst).Nodup from hn)
    show (bif Nat.beq d t then some v else look fr t) = some u
    rcases List.mem_cons.1 h with h | h
    · obtain ⟨rfl, rfl⟩ := Prod.mk.inj h
      rw [Nat.beq_refl]; rfl
    have e : Nat.beq d t = false := by
      cases e : Nat.beq d t with
      | true => exact absurd (List.mem_map.2 ⟨(t, u), h, (Nat.eq_of_beq_eq_true e).symm⟩) hn1
      | false => rfl
    rw [e]
    exact ih hn2 h
theorem exF_keys (D : List (PA × Nat)) : (exF D).map Prod.fst = (D.map Prod.fst).map (·.d) := by simp [exF]
theorem frok_perm {N : Nat} {fr : Fr} {a : Act} {D D' : List (PA × Nat)} (hp : D.Perm D') (hn : ((D.map Prod.fst).map (·.d)).Nodup) (h : FrOk N (fr ++ exF D) a) : FrOk N (fr ++ exF D') a := by
  refine ⟨h.size, h.defs, fun t u hl => h.at_ t u ?_⟩
  rw [look_app] at hl ⊢
  cases hf : look fr t with
  | some x => rw [hf] at hl; exact hl
  | none =>
    rw [hf] at hl
    dsimp only at hl ⊢
    refine mem_look (by rw [exF_keys]; exact hn) ?_
    exact ((hp.map _).mem_iff).2 (look_mem hl)
/-- What waits is as it must be: distinct, not yet done, of no slot that is known. -/
structure PLok (C : Cx) (St : Dr) (ops : Array Oper) (pl : List PA) (listed : Array Bool) (fr : Fr) : Prop where
  ok : ∀ p, p ∈ pl → PAok C St ops p
  fr : ∀ p, p ∈ pl → look fr p.d = none
  dn : (pl.map (·.d)).Nodup
  in_ : (pl.map (·.i)).Nodup
  rd : ∀ p, p ∈ pl → p.i ∈ Region.ready .any ops listed
theorem look_ex {fr : Fr} {D : List (PA × Nat)} {d : Nat} (h : look fr d = none) (hn : d ∉ (D.map Prod.fst).map (·.d)) : look (fr ++ exF D) d = none := by
  rw [look_app, h]
  dsimp only
  cases hl : look (exF D) d with
  | none => rfl
  | some u => exact absurd (by rw [← exF_keys]; exact List.mem_map.2 ⟨(d, u), look_mem hl, rfl⟩) hn
/-- One of those that wait comes. -/
theorem wp_come {D : List (PA × Nat)} {rest : List PA} {p : PA} (hL : PLok C St ops pl listed fr) (hp : (D.map Prod.fst ++ rest).Perm pl) (hm : p ∈ rest)
    (ih : ∀ b, ∃ rest' : List PA, rest'.length + 1 = rest.length ∧ WA C St ops Q (fuel + rest'.length) (marks listed ((D ++ [(p, b)]).map (·.1.i))) (fr ++ exF (D ++ [(p, b)])) (cs ++ exK (D ++ [(p, b)]))) {f : Nat} (hf : f + 1 = fuel + rest.length) :
    WI C St ops Q f (marks listed (D.map (·.1.i))) p.i (fr ++ exF D) (cs ++ exK D) := by
  have hpm : p ∈ pl := hp.mem_iff.1 (List.mem_append_right _ hm)
  obtain ⟨op, ty, pos, af, h1, h2, h3, h4⟩ := hL.ok p hpm
  refine wi_t h1 h2 (h4 _ _) (fun e => by cases e) h3 ?_
  rintro v cs' ⟨b, rfl, rfl⟩
  obtain ⟨rest', hr, hw⟩ := ih b
  have hnd : p.d ∉ (D.map Prod.fst).map (·.d) := by
    have hn := ((hp.map (·.d)).nodup_iff).2 hL.dn
    rw [List.map_append] at hn
    exact fun h => (List.nodup_append.1 hn).2.2 _ h _ (List.mem_map.2 ⟨p, hm, rfl⟩) rfl
  obtain rfl : f = fuel + rest'.length := by omega
  intro a w hfr hi
  have e1 : marks listed ((D ++ [(p, b)]).map (·.1.i)) = (marks listed (D.map (·.1.i))).setIfInBounds p.i true := by rw [List.map_append]; exact marks_snoc
  rw [← e1]
  refine hw a w ?_ ?_
  · have := frok_snoc (look_ex (hL.fr p hpm) hnd) hfr
    rw [List.append_assoc] at this
    simpa [exF] using this
  rw [List.append_assoc] at hi
  simpa [exK] using hi
/-- The one that comes beside those that wait. -/
theorem wp_op {d : Nat} {op : Op} {ty : TypeId} {pos : String} {af : Array Edge} {st : Bool} {K : Value → List Chunk → Prop} (j : Nat) (hL : PLok C St ops pl listed fr) (hj : ops[j]? = some ⟨some d, op, ty, pos, af, none⟩) (hst : St.st j = st) (hd : Nat.blt d C.N = true)
    (hr : Region.ready .any ops (marks listed (pl.map (·.i))) = [j]) (hrj : (Region.ready .any ops listed).contains j = true) (hjn : (pl.map (·.i)).contains j = false)
    (hT : ∀ e ec, OpT C ⟨some d, op, ty, pos, af, none⟩ (fr ++ e) (cs ++ ec) st (fun v cs' => ∃ c1, K v c1 ∧ cs' = c1 ++ ec))
    (hJ : st = true → ∀ v c1 ec, K v c1 → ∀ w, Inv C.w0 C.S (c1 ++ ec) w → cells St.l0 w)
    (h : ∀ v c1, K v c1 → WP C St ops Q pl fuel (listed.setIfInBounds j true) ((d, v) :: fr) c1) : WP C St ops Q pl (fuel + 1) listed fr cs := by
  have hjn' : j ∉ pl.map (·.i) := fun q => by rw [List.contains_eq_mem, decide_eq_true q] at hjn; cases hjn
  have hrj' : j ∈ Region.ready .any ops listed := by simpa using hrj
  have key : ∀ (m : Nat) (D : List (PA × Nat)) (rest : List PA), rest.length = m → (D.map Prod.fst ++ rest).Perm pl → WA C St ops Q (fuel + 1 + rest.length) (marks listed (D.map (·.1.i))) (fr ++ exF D) (cs ++ exK D) := by
    intro m
    induction m with
    | zero | succ m ih =>
      intro D rest hlen hp
      have hDi : ∀ k, k ∈ D.map (·.1.i) → k ∈ pl.map (·.i) := fun k hk => by
        obtain ⟨q, hq, rfl⟩ := List.mem_map.1 hk
        exact List.mem_map.2 ⟨q.1, hp.mem_iff.1 (List.mem_append_left _ (List.mem_map.2 ⟨q, hq, rfl⟩)), rfl⟩
      have hjD : j ∈ Region.ready .any ops (marks listed (D.map (·.1.i))) := ready_more (js := []) hrj' (fun _ q => by cases q) (fun q => hjn' (hDi j q))
      rw [show fuel + 1 + rest.length = (fuel + rest.length) + 1 by omega]
      intro a w hfr hi
      refine ⟨fun h0 => (by rw [h0] at hjD; cases hjD), fun k hk => ?_⟩
      by_cases hkj : k = j
      · subst hkj
        refine wi_t hj hst (hT _ _) (fun e v cs' ⟨c1, hk1, e1⟩ w' hi' => by subst e1; exact hJ e v c1 _ hk1 w' hi') hd ?_ a w hfr hi
        rintro v cs' ⟨c1, hk1, rfl⟩
        have h2 := h v c1 hk1 D rest hp
        rw [marks_first] at h2
        exact h2
      have hkr : k ∈ rest.map (·.i) := by
        by_cases hkp : k ∈ pl.map (·.i)
        · obtain ⟨q, hq, rfl⟩ := List.mem_map.1 hkp
          rcases List.mem_append.1 (hp.mem_iff.2 hq) with h1 | h1
          · obtain ⟨z, hz, rfl⟩ := List.mem_map.1 h1
            exact absurd (List.mem_map.2 ⟨z, hz, rfl⟩) (marks_false.1 (mem_ready.1 hk).1).2
          exact List.mem_map.2 ⟨q, h1, rfl⟩
        have := ready_more hk hDi hkp
        rw [hr, List.mem_singleton] at this
        exact absurd this hkj
      obtain ⟨p, hpm, rfl⟩ := List.mem_map.1 hkr
      first
      | (exact absurd hpm (by rw [List.length_eq_zero_iff.1 hlen]; simp))
      | (refine wp_come (fuel := fuel + 1) hL hp hpm (fun b => ?_) (by omega) a w hfr hi
         obtain ⟨l1, l2, rfl⟩ := List.append_of_mem hpm
         refine ⟨l1 ++ l2, by simp; omega, ih (D ++ [(p, b)]) (l1 ++ l2) (by simp at hlen ⊢; omega) (List.Perm.trans ?_ hp)⟩
         rw [List.map_append, List.append_assoc]
         exact List.Perm.append_left _ (show (p :: (l1 ++ l2)).Perm (l1 ++ p :: l2) from List.perm_middle.symm))
  exact fun D rest hp => key _ D rest rfl hp
theorem perm_map {α β : Type} {f : α → β} : ∀ {l' : List β} {D : List α}, (D.map f).Perm l' → ∃ D', D.Perm D' ∧ D'.map f = l'
  | [], D, h => ⟨[], by have := h.length_eq; simp at this; subst this; exact .nil, rfl⟩
  | b :: l', D, h => by
    have hb : b ∈ D.map f := h.mem_iff.2 (List.mem_cons_self ..)
    obtain ⟨x, hx, rfl⟩ := List.mem_map.1 hb
    obtain ⟨l1, l2, rfl⟩ := List.append_of_mem hx
    have h2 : ((l1 ++ l2).map f).Perm l' := by
      have h3 : ((l1 ++ x :: l2).map f).Perm (f x :: (l1 ++ l2).map f) := (List.perm_middle (a := x) (l₁ := l1) (l₂ := l2)).map f
      exact (h3.symm.trans h).cons_inv
    obtain ⟨D', h4, h5⟩ := perm_map h2
    exact ⟨x :: D', List.perm_middle.trans (h4.cons x), by rw [List.map_cons, h5]⟩
/-- All that wait come. -/
theorem wp_end (hL : PLok C St ops pl listed fr)
    (hr : (pl.all fun p => Region.ready .any ops (marks listed ((pl.map (·.i)).filter fun i => !Nat.beq i p.i)) == [p.i]) = true)
    (h : ∀ D : List (PA × Nat), D.map Prod.fst = pl → WA C St ops Q fuel (marks listed (pl.map (·.i))) (fr ++ exF D) (cs ++ exK D)) : WP C St ops Q pl fuel listed fr cs := by
  have key : ∀ (m : Nat) (D : List (PA × Nat)) (rest : List PA), rest.length = m → (D.map Prod.fst ++ rest).Perm pl → WA C St ops Q (fuel + rest.length) (marks listed (D.map (·.1.i))) (fr ++ exF D) (cs ++ exK D) := by
    intro m
    induction m with
    | zero =>
      intro D rest hlen hp
      obtain rfl := List.length_eq_zero_iff.1 hlen
      rw [List.append_nil] at hp
      obtain ⟨D', h1, h2⟩ := perm_map hp
      intro a w hfr hi
      have hn : ((D.map Prod.fst).map (·.d)).Nodup := ((hp.map (·.d)).nodup_iff).2 hL.dn
      have e1 : marks listed (D.map (·.1.i)) = marks listed (pl.map (·.i)) := marks_same (fun k => by
        have := ((hp.map (·.i)).mem_iff (a := k))
        rwa [List.map_map] at this)
      rw [e1]
      exact h D' h2 a w (frok_perm h1 hn hfr) (hi.perm (List.Perm.append_left _ (h1.map _)))
    | succ m ih =>
      intro D rest hlen hp
      have hDi : ∀ k, k ∈ D.map (·.1.i) → k ∈ pl.map (·.i) := fun k hk => by
        obtain ⟨q, hq, rfl⟩ := List.mem_map.1 hk
        exact List.mem_map.2 ⟨q.1, hp.mem_iff.1 (List.mem_append_left _ (List.mem_map.2 ⟨q, hq, rfl⟩)), rfl⟩
      have hni : ∀ p, p ∈ rest → p.i ∉ D.map (·.1.i) := fun p hpm hk => by
        have hn := ((hp.map (·.i)).nodup_iff).2 hL.in_
        rw [List.map_append, List.map_map] at hn
        exact (List.nodup_append.1 hn).2.2 _ hk _ (List.mem_map.2 ⟨p, hpm, rfl⟩) rfl
      obtain ⟨p0, hp0⟩ : ∃ p, p ∈ rest := by
        cases rest with
        | nil => cases hlen
        | cons p l => exact ⟨p, List.mem_cons_self ..⟩
      have hrd : p0.i ∈ Region.ready .any ops (marks listed (D.map (·.1.i))) := ready_more (js := []) (hL.rd p0 (hp.mem_iff.1 (List.mem_append_right _ hp0))) (fun _ q => by cases q) (hni p0 hp0)
      rw [show fuel + rest.length = (fuel + (rest.length - 1)) + 1 by omega]
      intro a w hfr hi
      refine ⟨fun h0 => (by rw [h0] at hrd; cases hrd), fun k hk => ?_⟩
      have hkr : k ∈ rest.map (·.i) := by
        by_cases hkp : k ∈ rest.map (·.i)
        · exact hkp
        exfalso
        have h1 := List.all_eq_true.1 hr p0 (hp.mem_iff.1 (List.mem_append_right _ hp0))
        have h1 : Region.ready .any ops (marks listed ((pl.map (·.i)).filter fun i => !Nat.beq i p0.i)) = [p0.i] := by simpa using h1
        have hne : k ≠ p0.i := fun e => hkp (e ▸ List.mem_map.2 ⟨p0, hp0, rfl⟩)
        have h2 : k ∈ Region.ready .any ops (marks listed ((pl.map (·.i)).filter fun i => !Nat.beq i p0.i)) := by
          refine ready_more hk (fun i hi => ?_) (fun hm => ?_)
          · refine List.mem_filter.2 ⟨hDi i hi, ?_⟩
            cases e : Nat.beq i p0.i with
            | true => exact absurd ((Nat.eq_of_beq_eq_true e) ▸ hi) (hni p0 hp0)
            | false => rfl
          obtain ⟨q, hq, rfl⟩ := List.mem_map.1 (List.mem_filter.1 hm).1
          rcases List.mem_append.1 (hp.mem_iff.2 hq) with h3 | h3
          · obtain ⟨z, hz, rfl⟩ := List.mem_map.1 h3
            exact absurd (List.mem_map.2 ⟨z, hz, rfl⟩) (marks_false.1 (mem_ready.1 hk).1).2
          exact hkp (List.mem_map.2 ⟨q, h3, rfl⟩)
        rw [h1, List.mem_singleton] at h2
        exact hne h2
      obtain ⟨p, hpm, rfl⟩ := List.mem_map.1 hkr
      refine wp_come (fuel := fuel) hL hp hpm (fun b => ?_) (by omega) a w hfr hi
      obtain ⟨l1, l2, rfl⟩ := List.append_of_mem hpm
      refine ⟨l1 ++ l2, by simp; omega, ih (D ++ [(p, b)]) (l1 ++ l2) (by simp at hlen ⊢; omega) (List.Perm.trans ?_ hp)⟩
      rw [List.map_append, List.append_assoc]
      exact List.Perm.append_left _ (show (p :: (l1 ++ l2)).Perm (l1 ++ p :: l2) from List.perm_middle.symm)
  exact fun D rest hp => key _ D rest rfl hp
end
theorem all3 {α : Type} {P : α → Prop} {a b c : α} (ha : P a) (hb : P b) (hc : P c) : ∀ p, p ∈ [a, b, c] → P p := fun p hp => by
  simp only [List.mem_cons, List.not_mem_nil, or_false] at hp
  rcases hp with rfl | rfl | rfl <;> assumption
theorem pl_three {a b c : PA} {D : List (PA × Nat)} (h : D.map Prod.fst = [a, b, c]) : ∃ (x : Nat) (y : Nat) (z : Nat), D = [(a, x), (b, y), (c, z)] := by
  match D, h with
  | [(p, x), (q, y), (r, z)], h =>
    simp only [List.map_cons, List.map_nil, List.cons.injEq, and_true] at h
    obtain ⟨rfl, rfl, rfl⟩ := h
    exact ⟨x, y, z, rfl⟩
theorem PLok.of {C : Cx} {St : Dr} {ops : Array Oper} {pl : List PA} {listed : Array Bool} {fr : Fr} (ok : ∀ p, p ∈ pl → PAok C St ops p) (hfr : (pl.all fun p => (look fr p.d).isNone) = true) (hn : (pl.map (·.d)).Nodup ∧ (pl.map (·.i)).Nodup)
    (hrd : (pl.all fun p => (Region.ready .any ops listed).contains p.i) = true) : PLok C St ops pl listed fr :=
  ⟨ok, fun p hp => by simpa using List.all_eq_true.1 hfr p hp, hn.1, hn.2, fun p hp => by simpa using List.all_eq_true.1 hrd p hp⟩
section
variable {C : Cx} {fr : Fr} {cs : List Chunk} {d : Option Tmp} {ty : TypeId} {pos : String} {af : Array Edge} {gd : Option (Nat × Bool)}
theorem t_callSX {f : FuncId} {l : List Operand} {vs : List Value} {ats : Array TypeId} {K : Value → List Chunk → Prop} (cin : List Chunk) {rest : List Chunk} (hl : ∀ e, evs (fr ++ e) l = some vs) (hc : ∀ args w, (callFunc f args).run C.P w = .ok (.enter f args) w)
    (hp : Split cin cs rest) (h : ∀ w ec, Inv C.w0 C.S (cs ++ ec) w → Inv w (blocks cin) cin w → Ctr C.P f vs w cin K) (e : Fr) (ec : List Chunk) :
    OpT C ⟨d, .call { callee := .value (.func f), args := l.toArray, argTypes := ats }, ty, pos, af, gd⟩ (fr ++ e) (cs ++ ec) true (fun v cs' => ∃ c1, (∃ cout, K v cout ∧ c1 = cout ++ rest) ∧ cs' = c1 ++ ec) := by
  have hperm : (cs ++ ec).Perm (cin ++ (rest ++ ec)) := by rw [← List.append_assoc]; exact hp.perm.append_right ec
  have h1 := t_callN (C := C) (d := d) (ty := ty) (pos := pos) (af := af) (gd := gd) (ats := ats) cin (rest ++ ec) (hl e) hc hperm (K := K) (fun w hi => h w ec hi ⟨Keep.refl _ _, by
    have := ((hperm.flatMap_right Chunk.bs).nodup_iff).1 hi.nodup
    rw [show List.flatMap Chunk.bs (cin ++ (rest ++ ec)) = blocks cin ++ blocks (rest ++ ec) from blocks_append _ _] at this
    exact (List.nodup_append.1 this).1, fun c hc => hi.ok c (hperm.mem_iff.2 (List.mem_append.2 (.inl hc))), fun b hb => .inl hb⟩)
  intro a w hf hi next Q hn
  refine h1 a w hf hi next Q (fun v cs' w' ⟨cout, hk, e1⟩ hi' hp' => ?_)
  subst e1
  exact hn v _ w' ⟨cout ++ rest, ⟨cout, hk, rfl⟩, by rw [List.append_assoc]⟩ hi' hp'
theorem t_callX {f : FuncId} {l : List Operand} {vs : List Value} {ats : Array TypeId} {K : Value → List Chunk → Prop} (hl : ∀ e, evs (fr ++ e) l = some vs) (hc : ∀ args w, (callFunc f args).run C.P w = .ok (.enter f args) w)
    (h : ∀ w ec, Inv C.w0 C.S (cs ++ ec) w → Ctr C.P f vs w [] K) (e : Fr) (ec : List Chunk) :
    OpT C ⟨d, .call { callee := .value (.func f), args := l.toArray, argTypes := ats }, ty, pos, af, gd⟩ (fr ++ e) (cs ++ ec) true (fun v cs' => ∃ c1, (∃ cout, K v cout ∧ c1 = cout ++ cs) ∧ cs' = c1 ++ ec) :=
  t_callSX [] hl hc (.nil cs) (fun w ec hi _ => h w ec hi) e ec
end
section
variable {C : Cx} {Q : Post} {fr : Fr} {cs : List Chunk} {ops : Array Oper} {d : Nat} {op : Op} {ty : TypeId} {pos : String} {af : Array Edge} {gd : Option (Nat × Bool)} {v : Value} {g : Bool} {St : Dr} {fuel : Nat} {listed : Array Bool}
/-- What reads several cells that no operation turns is taken first. -/
theorem wa_lkV (i : Nat) {l : List (Addr × Value)} (hi : ops[i]? = some ⟨some d, op, ty, pos, af, none⟩) (hs : Region.noSelect ops = true) (hfree : Region.free .any ops listed i = true) (hr : (Region.ready .any ops listed).contains i = true)
    (hy : OpY C ⟨some d, op, ty, pos, af, none⟩ fr true (cells l) v) (hm : ∀ x, x ∈ l → x ∈ St.l0) (hV : ∀ w, Inv C.w0 C.S cs w → cells St.l0 w) (hd : Nat.blt d C.N = true)
    (h : WA C St ops Q fuel (listed.setIfInBounds i true) ((d, v) :: fr) cs) : WA C St ops Q (fuel + 1) listed fr cs := fun a w hf hi' =>
  wpAnyT_first (V := cells St.l0) (fun _ _ hp h x hx => hp _ _ (h x hx)) hi (Region.noSelect_spec hs) (fun _ _ _ h => h) fuel listed a w (fun j oj hj hne hun hno => ⟨Region.free_spec hi hfree j oj hj hne hun hno, .inr (.inr fun _ _ h => h)⟩)
    (by simpa using hr) (yieldsIf_of (g := true) guard_none (fun a w hf hV hg => hy a w hf (fun x hx => hV _ (hm x hx)) hg) hf) (hV w hi') (h _ w (hf.put (by simpa [Nat.blt_eq] using hd) _) hi')
theorem cellsFrom_rowL {bb : Nat} {xs : List Value} : ∀ x, x ∈ cellsFrom ⟨bb, 0, none⟩ 0 xs → x ∈ rowL bb xs := fun x hx => by
  obtain ⟨j, h1, h2⟩ := mem_cellsFrom hx
  obtain ⟨ad, v⟩ := x
  dsimp only at h1 h2
  have := rowL_mem (bb := bb) h1
  rw [h2, Addr.add_lit, Nat.zero_add, Nat.zero_add]
  exact this
end
end Go.Ink
