/- Regions that draw their order: what only reads is taken first, the rest comes in the one order that is left. Nothing of the program. -/
import Derived.Test.YtobjiljkfmcalaaGreatInkW
namespace Go.Ink
open Go.RowKit

/-- Which operations may turn cells that were there; and cells that no operation turns. -/
structure Dr where
  st : Nat → Bool
  l0 : List (Addr × Value)
section
variable {P : Program} {ops : Array Oper} {Q : Post} {md : Region.Mode} {St : Dr}

/-- Whatever order is picked; behind an operation that is not one of 'St' every cell is as it was. -/
def wpAnyT (P : Program) (md : Region.Mode) (ops : Array Oper) (Q : Post) (St : Dr) : Nat → Array Bool → Act → World → Prop
  | 0, listed, a, w => Region.ready md ops listed = [] ∧ Q .normal a w
  | fuel + 1, listed, a, w =>
    (Region.ready md ops listed = [] → Q .normal a w) ∧
    ∀ i ∈ Region.ready md ops listed, wpOp P ops Q i (fun a' w' => ((St.st i = false → Pres w w') ∧ (cells St.l0 w → cells St.l0 w')) ∧ wpAnyT P md ops Q St fuel (listed.setIfInBounds i true) a' w') a w

theorem wpAny_of_T : ∀ (fuel : Nat) (listed : Array Bool) (a : Act) (w : World), wpAnyT P md ops Q St fuel listed a w → wpAny P md ops Q fuel listed a w
  | 0, _, _, _, h => h
  | fuel + 1, _, _, _, h => ⟨h.1, fun i hi => wpOp_mono (fun a' w' h' => wpAny_of_T fuel _ a' w' h'.2) (h.2 i hi)⟩

theorem yieldsIf_wpOp {i : Nat} {o : Oper} {v : Value} {a : Act} {S : World → Prop} (hi : ops[i]? = some o) (hy : YieldsIf P ops S o v a)
    {K : Act → World → Prop} {w : World} (hS : S w) (h : K (a.put o.dst v) w) : wpOp P ops Q i K a w := hy.wpOp hi hS h

theorem wpAnyT_first {i : Nat} {oi : Oper} {v : Value} {V : World → Prop} (hV : ∀ w w', Pres w w' → V w → V w') (hi : ops[i]? = some oi) (hsel : ∀ (j : Nat) (o : Oper) cs b, ops[j]? = some o → o.op ≠ .select cs b)
    (hQ : ∀ c a w, Q (.panic c) (a.put oi.dst v) w → Q (.panic c) a w) :
    ∀ (fuel : Nat) (listed : Array Bool) (a : Act) (w : World),
      (∀ j oj, ops[j]? = some oj → j ≠ i → listed.getD j true = false → (∀ e ∈ oj.after, Region.binds md e = true → e.on ≠ i) → oi.apart ops oj = true ∧ ((∀ w, V w) ∨ St.st j = false ∨ (∀ w w', (cells St.l0 w → cells St.l0 w') → V w → V w'))) →
      i ∈ Region.ready md ops listed → YieldsIf P ops V oi v a → V w →
      wpAnyT P md ops Q St fuel (listed.setIfInBounds i true) (a.put oi.dst v) w → wpAnyT P md ops Q St (fuel + 1) listed a w := by
  intro fuel
  induction fuel with
  | zero =>
    intro listed a w _ hr hy hS H
    refine ⟨fun h => (by rw [h] at hr; cases hr), fun j hj => ?_⟩
    by_cases hji : j = i
    · subst hji; exact hy.wpOp hi hS ⟨⟨fun _ _ _ h => h, fun h => h⟩, H⟩
    have := ready_mono hj hji
    rw [H.1] at this
    cases this
  | succ fuel ih =>
    intro listed a w hfree hr hy hS H
    refine ⟨fun h => (by rw [h] at hr; cases hr), fun j hj => ?_⟩
    by_cases hji : j = i
    · subst hji; exact hy.wpOp hi hS ⟨⟨fun _ _ _ h => h, fun h => h⟩, H⟩
    have h1 := H.2 j (ready_mono hj hji)
    obtain ⟨hjun, oj, hoj, hall⟩ := mem_ready.1 hj
    have hnot : ∀ e ∈ oj.after, Region.binds md e = true → e.on ≠ i := fun e he hb heq => by
      have h1 := hall e he hb
      have h0 := (mem_ready.1 hr).1
      rw [heq] at h1
      rcases Nat.lt_or_ge i listed.size with h' | h'
      · simp [h'] at h0 h1; rw [h0] at h1; cases h1
      simp [Array.getElem?_eq_none h'] at h1
    obtain ⟨hap, hst⟩ := hfree j oj hoj hji hjun hnot
    have h2 := wpOp_putIf hoj hap (fun cs b => hsel i oi cs b hi) (fun cs b => hsel j oj cs b hoj) hQ hy h1
    have hfree' : ∀ k ok, ops[k]? = some ok → k ≠ i → (listed.setIfInBounds j true).getD k true = false →
        (∀ e ∈ ok.after, Region.binds md e = true → e.on ≠ i) → oi.apart ops ok = true ∧ ((∀ w, V w) ∨ St.st k = false ∨ (∀ w w', (cells St.l0 w → cells St.l0 w') → V w → V w')) := fun k ok hk hki hun hno => by
      refine hfree k ok hk hki ?_ hno
      by_cases hjk : j = k
      · subst hjk; exact hjun
      rw [getD_set_ne true hjk] at hun; exact hun
    refine wpOp_mono (fun a' w' h3 => ⟨h3.2.1, ih (listed.setIfInBounds j true) a' w' hfree' (ready_mono hr (Ne.symm hji)) h3.1 ?_ ?_⟩) h2
    · rcases hst with hst | hst | hst
      · exact hst w'
      · exact hV _ _ (h3.2.1.1 hst) hS
      exact hst _ _ h3.2.1.2 hS
    rw [Array.setIfInBounds_comm _ _ hji]
    exact h3.2.2

/-- Every operation of 'St' that has not come up waits for number i. -/
def stFree (md : Region.Mode) (ops : Array Oper) (St : Nat → Bool) (listed : Array Bool) (i : Nat) : Bool :=
  (List.range ops.size).all fun j => j == i || listed.getD j true || !St j || match ops[j]? with
    | some oj => oj.after.any (fun e => Region.binds md e && e.on == i)
    | none => true
theorem stFree_spec {St : Nat → Bool} {i : Nat} {listed : Array Bool} (h : stFree md ops St listed i = true) (j : Nat) (oj : Oper)
    (hj : ops[j]? = some oj) (hne : j ≠ i) (hun : listed.getD j true = false) (hno : ∀ e ∈ oj.after, Region.binds md e = true → e.on ≠ i) : St j = false := by
  simp only [stFree, List.all_eq_true, List.mem_range] at h
  have h1 := h j (Array.getElem?_eq_some_iff.1 hj).1
  simp only [hj, Bool.or_eq_true, beq_iff_eq, hne, false_or, hun, Bool.false_eq_true, Bool.not_eq_true'] at h1
  rcases h1 with h1 | h1
  · exact h1
  obtain ⟨e, he, hb⟩ := Array.any_eq_true'.1 h1
  simp only [Bool.and_eq_true, beq_iff_eq] at hb
  exact absurd hb.2 (hno e he hb.1)
end

def WA (C : Cx) (St : Dr) (ops : Array Oper) (Q : Post) (fuel : Nat) (listed : Array Bool) (fr : Fr) (cs : List Chunk) : Prop :=
  ∀ a w, FrOk C.N fr a → Inv C.w0 C.S cs w → wpAnyT C.P .any ops (NoPanic Q) St fuel listed a w

section
variable {C : Cx} {Q : Post} {fr : Fr} {cs : List Chunk} {ops : Array Oper} {d : Nat} {op : Op} {ty : TypeId} {pos : String} {af : Array Edge} {gd : Option (Nat × Bool)} {V : World → Prop} {v : Value} {g : Bool}
  {St : Dr} {fuel : Nat} {listed : Array Bool}

theorem wc_draw {id : Nat} {l : List Oper} (St : Dr) (hm : C.P.follows .mixedOrders = true) (h : WA C St l.toArray Q l.length (Array.replicate l.length false) fr cs) : WC C (.region id l.toArray true) Q fr cs := fun a w hf hi => by
  refine wp_region_noPanic (wp_region_any hm (wpAny_of_T (St := St) _ _ _ _ ?_))
  have := h a w.drew hf hi.drew
  simpa using this

theorem yieldsIf_of (hg : GuardIs ops fr ⟨some d, op, ty, pos, af, gd⟩ g) (hy : OpY C ⟨some d, op, ty, pos, af, gd⟩ fr g V v) {a : Act} (hf : FrOk C.N fr a) :
    YieldsIf C.P ops V ⟨some d, op, ty, pos, af, gd⟩ (bif g then v else undef) a := by
  unfold YieldsIf
  rw [hg _ a hf]
  cases g with
  | true => exact .inl ⟨rfl, fun w hV => hy a w hf hV rfl⟩
  | false => exact .inr ⟨rfl, rfl⟩

/-- What yields in whatever world is taken first. -/
theorem wa_y (i : Nat) (hi : ops[i]? = some ⟨some d, op, ty, pos, af, gd⟩) (hs : Region.noSelect ops = true) (hfree : Region.free .any ops listed i = true) (hr : (Region.ready .any ops listed).contains i = true)
    (hg : GuardIs ops fr ⟨some d, op, ty, pos, af, gd⟩ g) (hy : OpY C ⟨some d, op, ty, pos, af, gd⟩ fr g Any v) (hd : Nat.blt d C.N = true)
    (h : WA C St ops Q fuel (listed.setIfInBounds i true) ((d, bif g then v else undef) :: fr) cs) : WA C St ops Q (fuel + 1) listed fr cs := fun a w hf hi' =>
  wpAnyT_first (V := Any) (fun _ _ _ h => h) hi (Region.noSelect_spec hs) (fun _ _ _ h => h) fuel listed a w (fun j oj hj hne hun hno => ⟨Region.free_spec hi hfree j oj hj hne hun hno, .inl fun _ => trivial⟩)
    (by simpa using hr) (yieldsIf_of hg hy hf) trivial (h _ w (hf.put (by simpa [Nat.blt_eq] using hd) _) hi')
/-- What reads cells is taken first, if whoever might turn them waits for it. -/
theorem wa_l (i : Nat) {l : List (Addr × Value)} (hi : ops[i]? = some ⟨some d, op, ty, pos, af, gd⟩) (hs : Region.noSelect ops = true) (hfree : Region.free .any ops listed i = true) (hst : stFree .any ops St.st listed i = true) (hr : (Region.ready .any ops listed).contains i = true)
    (hg : GuardIs ops fr ⟨some d, op, ty, pos, af, gd⟩ g) (hy : OpY C ⟨some d, op, ty, pos, af, gd⟩ fr g (cells l) v) (hV : ∀ w, Inv C.w0 C.S cs w → cells l w) (hd : Nat.blt d C.N = true)
    (h : WA C St ops Q fuel (listed.setIfInBounds i true) ((d, bif g then v else undef) :: fr) cs) : WA C St ops Q (fuel + 1) listed fr cs := fun a w hf hi' =>
  wpAnyT_first (V := cells l) (fun _ _ hp h x hx => hp _ _ (h x hx)) hi (Region.noSelect_spec hs) (fun _ _ _ h => h) fuel listed a w (fun j oj hj hne hun hno => ⟨Region.free_spec hi hfree j oj hj hne hun hno, .inr (.inl (stFree_spec hst j oj hj hne hun hno))⟩)
    (by simpa using hr) (yieldsIf_of hg hy hf) (hV w hi') (h _ w (hf.put (by simpa [Nat.blt_eq] using hd) _) hi')
/-- What reads cells that no operation turns is taken first. -/
theorem wa_lk (i : Nat) {ad : Addr} (hi : ops[i]? = some ⟨some d, op, ty, pos, af, gd⟩) (hs : Region.noSelect ops = true) (hfree : Region.free .any ops listed i = true) (hr : (Region.ready .any ops listed).contains i = true)
    (hg : GuardIs ops fr ⟨some d, op, ty, pos, af, gd⟩ g) (hy : OpY C ⟨some d, op, ty, pos, af, gd⟩ fr g (cells [(ad, v)]) v) (hm : (ad, v) ∈ St.l0) (hV : ∀ w, Inv C.w0 C.S cs w → cells St.l0 w) (hd : Nat.blt d C.N = true)
    (h : WA C St ops Q fuel (listed.setIfInBounds i true) ((d, bif g then v else undef) :: fr) cs) : WA C St ops Q (fuel + 1) listed fr cs := fun a w hf hi' =>
  wpAnyT_first (V := cells St.l0) (fun _ _ hp h x hx => hp _ _ (h x hx)) hi (Region.noSelect_spec hs) (fun _ _ _ h => h) fuel listed a w (fun j oj hj hne hun hno => ⟨Region.free_spec hi hfree j oj hj hne hun hno, .inr (.inr fun _ _ h => h)⟩)
    (by simpa using hr) (yieldsIf_of hg (fun a w hf hV hg => hy a w hf (fun x hx => by rw [List.mem_singleton] at hx; subst hx; exact hV _ hm) hg) hf) (hV w hi') (h _ w (hf.put (by simpa [Nat.blt_eq] using hd) _) hi')
theorem wa_lkn (i : Nat) {ad : Addr} (hi : ops[i]? = some ⟨some d, op, ty, pos, af, none⟩) (hs : Region.noSelect ops = true) (hfree : Region.free .any ops listed i = true) (hr : (Region.ready .any ops listed).contains i = true)
    (hy : OpY C ⟨some d, op, ty, pos, af, none⟩ fr true (cells [(ad, v)]) v) (hm : (ad, v) ∈ St.l0) (hV : ∀ w, Inv C.w0 C.S cs w → cells St.l0 w) (hd : Nat.blt d C.N = true)
    (h : WA C St ops Q fuel (listed.setIfInBounds i true) ((d, v) :: fr) cs) : WA C St ops Q (fuel + 1) listed fr cs := wa_lk i hi hs hfree hr guard_none hy hm hV hd h
theorem wa_done (hr : Region.ready .any ops listed = []) (h : QOk C Q .normal fr cs) : WA C St ops Q fuel listed fr cs := fun a w hf hi => by
  cases fuel with
  | zero => exact ⟨hr, h a w hf hi⟩
  | succ n => exact ⟨fun _ => h a w hf hi, by rw [hr]; simp⟩
theorem wa_weaken {fr' : Fr} (hw : Wk fr fr') (h : WA C St ops Q fuel listed fr' cs) : WA C St ops Q fuel listed fr cs := fun a w hf hi => h a w (hf.weaken hw) hi
end
end Go.Ink
