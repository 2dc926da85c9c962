/- More operations and rules, in the forms that the printing program uses. Nothing of the program. -/
import Derived.Test.YtobjiljkfmcalaaGreatInkT
set_option linter.unusedSimpArgs false
set_option linter.unusedVariables false
namespace Go.Ink
open Go.RowKit

/-! ### one operation among those that may come up -/
def WI (C : Cx) (St : Dr) (ops : Array Oper) (Q : Post) (fuel : Nat) (listed : Array Bool) (i : Nat) (fr : Fr) (cs : List Chunk) : Prop :=
  ∀ a w, FrOk C.N fr a → Inv C.w0 C.S cs w → wpOp C.P ops (NoPanic Q) i (fun a' w' => ((St.st i = false → Pres w w') ∧ (cells St.l0 w → cells St.l0 w')) ∧ wpAnyT C.P .any ops (NoPanic Q) St fuel (listed.setIfInBounds i true) a' w') a w

section
variable {C : Cx} {Q : Post} {fr : Fr} {cs : List Chunk} {ops : Array Oper} {d : Nat} {op : Op} {ty : TypeId} {pos : String} {af : Array Edge} {gd : Option (Nat × Bool)} {V : World → Prop} {v : Value} {g : Bool}
  {St : Dr} {fuel : Nat} {listed : Array Bool}
theorem wa_1 (i : Nat) (hr : Region.ready .any ops listed = [i]) (h : WI C St ops Q fuel listed i fr cs) : WA C St ops Q (fuel + 1) listed fr cs := fun a w hf hi =>
  ⟨fun h0 => (by rw [hr] at h0; cases h0), fun j hj => by rw [hr, List.mem_singleton] at hj; subst hj; exact h a w hf hi⟩
theorem wa_2 (i j : Nat) (hr : Region.ready .any ops listed = [i, j]) (h : WI C St ops Q fuel listed i fr cs) (h' : WI C St ops Q fuel listed j fr cs) : WA C St ops Q (fuel + 1) listed fr cs := fun a w hf hi =>
  ⟨fun h0 => (by rw [hr] at h0; cases h0), fun k hk => by
    rw [hr] at hk
    simp only [List.mem_cons, List.not_mem_nil, or_false] at hk
    rcases hk with rfl | rfl
    · exact h a w hf hi
    exact h' a w hf hi⟩
theorem wa_3 (i j l : Nat) (hr : Region.ready .any ops listed = [i, j, l]) (h : WI C St ops Q fuel listed i fr cs) (h' : WI C St ops Q fuel listed j fr cs) (h'' : WI C St ops Q fuel listed l fr cs) : WA C St ops Q (fuel + 1) listed fr cs := fun a w hf hi =>
  ⟨fun h0 => (by rw [hr] at h0; cases h0), fun k hk => by
    rw [hr] at hk
    simp only [List.mem_cons, List.not_mem_nil, or_false] at hk
    rcases hk with rfl | rfl | rfl
    · exact h a w hf hi
    · exact h' a w hf hi
    exact h'' a w hf hi⟩
theorem dr_step {i : Nat} {st : Bool} {w w' : World} (hst : St.st i = st) (hp : st = false → Pres w w') (hJ : st = true → cells St.l0 w') : (St.st i = false → Pres w w') ∧ (cells St.l0 w → cells St.l0 w') := by
  subst hst
  refine ⟨hp, fun h => ?_⟩
  cases hb : St.st i with
  | true => exact hJ hb
  | false => exact fun x hx => hp hb _ _ (h x hx)
theorem wi_t {i : Nat} {st : Bool} {K : Value → List Chunk → Prop} (hi : ops[i]? = some ⟨some d, op, ty, pos, af, none⟩) (hst : St.st i = st)
    (ht : OpT C ⟨some d, op, ty, pos, af, none⟩ fr cs st K) (hJ : st = true → ∀ v cs', K v cs' → ∀ w, Inv C.w0 C.S cs' w → cells St.l0 w) (hd : Nat.blt d C.N = true) (h : ∀ v cs', K v cs' → WA C St ops Q fuel (listed.setIfInBounds i true) ((d, v) :: fr) cs') : WI C St ops Q fuel listed i fr cs := fun a w hf hi' => by
  unfold wpOp
  rw [hi]
  simp only [Region.wanted, if_true]
  exact .inl (ht a w hf hi' _ _ fun v cs' w' hk hi2 hp => ⟨dr_step hst hp (fun e => hJ e v cs' hk w' hi2), h v cs' hk _ w' (hf.put (by simpa [Nat.blt_eq] using hd) v) hi2⟩)
theorem wi_t0 {i : Nat} {st : Bool} {K : Value → List Chunk → Prop} (hi : ops[i]? = some ⟨none, op, ty, pos, af, none⟩) (hst : St.st i = st)
    (ht : OpT C ⟨none, op, ty, pos, af, none⟩ fr cs st K) (hJ : st = true → ∀ v cs', K v cs' → ∀ w, Inv C.w0 C.S cs' w → cells St.l0 w) (h : ∀ v cs', K v cs' → WA C St ops Q fuel (listed.setIfInBounds i true) fr cs') : WI C St ops Q fuel listed i fr cs := fun a w hf hi' => by
  unfold wpOp
  rw [hi]
  simp only [Region.wanted, if_true]
  exact .inl (ht a w hf hi' _ _ fun v cs' w' hk hi2 hp => ⟨dr_step hst hp (fun e => hJ e v cs' hk w' hi2), h v cs' hk _ w' hf hi2⟩)
theorem wi_tg {i : Nat} {st : Bool} {K : Value → List Chunk → Prop} (hi : ops[i]? = some ⟨some d, op, ty, pos, af, gd⟩) (hst : St.st i = st)
    (hg : GuardIs ops fr ⟨some d, op, ty, pos, af, gd⟩ g) (hg1 : g = true)
    (ht : OpT C ⟨some d, op, ty, pos, af, gd⟩ fr cs st K) (hJ : st = true → ∀ v cs', K v cs' → ∀ w, Inv C.w0 C.S cs' w → cells St.l0 w) (hd : Nat.blt d C.N = true) (h : ∀ v cs', K v cs' → WA C St ops Q fuel (listed.setIfInBounds i true) ((d, v) :: fr) cs') : WI C St ops Q fuel listed i fr cs := fun a w hf hi' => by
  unfold wpOp
  rw [hi]
  simp only [hg _ a hf, hg1, if_true]
  exact .inl (ht a w hf hi' _ _ fun v cs' w' hk hi2 hp => ⟨dr_step hst hp (fun e => hJ e v cs' hk w' hi2), h v cs' hk _ w' (hf.put (by simpa [Nat.blt_eq] using hd) v) hi2⟩)
theorem wi_callg {i : Nat} {f : FuncId} {l : List Operand} {vs : List Value} {ats : Array TypeId} {v0 : Value} (hi : ops[i]? = some ⟨some d, .call { callee := .value (.func f), args := l.toArray, argTypes := ats }, ty, pos, af, gd⟩)
    (hg : GuardIs ops fr ⟨some d, .call { callee := .value (.func f), args := l.toArray, argTypes := ats }, ty, pos, af, gd⟩ g) (hl : EvL fr g l vs)
    (hc : ∀ args w, (callFunc f args).run C.P w = .ok (.enter f args) w) (h : g = true → ∀ w, Inv C.w0 C.S cs w → Ctr C.P f vs w [] (fun v cs => v = v0 ∧ cs = [])) (hd : Nat.blt d C.N = true)
    (hn : WA C St ops Q fuel (listed.setIfInBounds i true) ((d, bif g then v0 else undef) :: fr) cs) : WI C St ops Q fuel listed i fr cs := fun a w hf hi' => by
  unfold wpOp
  rw [hi]
  simp only [hg _ a hf]
  cases g with
  | true =>
    rw [if_pos rfl]
    exact .inl (call_g hf rfl hl hc (h rfl w hi') fun w' hk => ⟨⟨fun _ => Pres.of_keep hk, fun h x hx => Pres.of_keep hk _ _ (h x hx)⟩, hn _ w' (hf.put (by simpa [Nat.blt_eq] using hd) _) (hi'.kept hk)⟩)
  | false =>
    rw [if_neg (by simp)]
    exact ⟨⟨fun _ _ _ h => h, fun h => h⟩, hn _ w (hf.put (by simpa [Nat.blt_eq] using hd) _) hi'⟩
theorem wi_skip {i : Nat} (hi : ops[i]? = some ⟨some d, op, ty, pos, af, gd⟩) (hg : GuardIs ops fr ⟨some d, op, ty, pos, af, gd⟩ g) (hg0 : g = false) (hd : Nat.blt d C.N = true)
    (h : WA C St ops Q fuel (listed.setIfInBounds i true) ((d, undef) :: fr) cs) : WI C St ops Q fuel listed i fr cs := fun a w hf hi' => by
  unfold wpOp
  rw [hi]
  simp only [hg _ a hf, hg0, Bool.false_eq_true, if_false]
  exact ⟨⟨fun _ _ _ h => h, fun h => h⟩, h _ w (hf.put (by simpa [Nat.blt_eq] using hd) _) hi'⟩
end

section
variable {C : Cx} {Q : Post} {fr : Fr} {cs : List Chunk} {ops : Array Oper} {rest : List Oper} {d : Nat} {dd : Option Tmp} {ty : TypeId} {pos : String} {af : Array Edge} {gd : Option (Nat × Bool)} {v : Value} {g : Bool} {x y : Operand} {T : TypeId}

theorem wa_yn {d : Nat} {op : Op} {St : Dr} {fuel : Nat} {listed : Array Bool} (i : Nat) (hi : ops[i]? = some ⟨some d, op, ty, pos, af, none⟩) (hs : Region.noSelect ops = true) (hfree : Region.free .any ops listed i = true) (hr : (Region.ready .any ops listed).contains i = true)
    (hy : OpY C ⟨some d, op, ty, pos, af, none⟩ fr true Any v) (hd : Nat.blt d C.N = true) (h : WA C St ops Q fuel (listed.setIfInBounds i true) ((d, v) :: fr) cs) : WA C St ops Q (fuel + 1) listed fr cs :=
  wa_y i hi hs hfree hr guard_none hy hd h
theorem wa_ln {d : Nat} {op : Op} {St : Dr} {fuel : Nat} {listed : Array Bool} (i : Nat) {l : List (Addr × Value)} (hi : ops[i]? = some ⟨some d, op, ty, pos, af, none⟩) (hs : Region.noSelect ops = true) (hfree : Region.free .any ops listed i = true) (hst : stFree .any ops St.st listed i = true) (hr : (Region.ready .any ops listed).contains i = true)
    (hy : OpY C ⟨some d, op, ty, pos, af, none⟩ fr true (cells l) v) (hV : ∀ w, Inv C.w0 C.S cs w → cells l w) (hd : Nat.blt d C.N = true) (h : WA C St ops Q fuel (listed.setIfInBounds i true) ((d, v) :: fr) cs) : WA C St ops Q (fuel + 1) listed fr cs :=
  wa_l i hi hs hfree hst hr guard_none hy hV hd h
theorem inv_nil (w : World) (S : List Nat) (e sz : Nat) : Inv w S [slv e sz none 0 0 []] w := inv_own (Keep.refl _ _) ⟨by simp, .inl ⟨rfl, rfl⟩⟩ (fun a h => by cases h)
theorem wl_nilc (e sz : Nat) {l : List Oper} (h : WL C ops Q l fr (cs ++ [slv e sz none 0 0 []])) : WL C ops Q l fr cs := fun a w hf hi => h a w hf (hi.more (inv_nil w [] e sz))
theorem wc_nilc (e sz : Nat) {c : Code} (h : WC C c Q fr (cs ++ [slv e sz none 0 0 []])) : WC C c Q fr cs := fun a w hf hi => h a w hf (hi.more (inv_nil w [] e sz))
theorem Wk.cons {fr' fr : Fr} {t : Nat} {v : Value} (h : Ink.look fr' t = some v) (r : Wk fr' fr) : Wk fr' ((t, v) :: fr) := ⟨h, r⟩
theorem Wk.nil {fr' : Fr} : Wk fr' [] := trivial
theorem wk_num {fr : Fr} {t : Nat} {k : IntKind} {a b : Int} (h : look fr t = some (.int k a)) (e : a = b) : look fr t = some (.int k b) := by rw [← e]; exact h
theorem ints_get {k : IntKind} {xs : List Int} {j : Nat} (h : j < xs.length) : (ints k xs)[j]? = some (.int k (xs[j]'h)) := by simp [ints, h]
theorem ints_one {k : IntKind} {xs : List Int} : ∀ u ∈ ints k xs, u.oneCell' = true := by
  intro u hu
  obtain ⟨x, _, rfl⟩ := List.mem_map.1 hu
  rfl
theorem ints_append {k : IntKind} (xs ys : List Int) : ints k xs ++ ints k ys = ints k (xs ++ ys) := by simp [ints]
theorem ints_length {k : IntKind} (xs : List Int) : (ints k xs).length = xs.length := by simp [ints]
theorem ints_take {k : IntKind} (xs : List Int) (m : Nat) : (ints k xs).take m = ints k (xs.take m) := by simp [ints, List.map_take]
theorem ints_drop {k : IntKind} (xs : List Int) (m : Nat) : (ints k xs).drop m = ints k (xs.drop m) := by simp [ints, List.map_drop]
/-- What is known of every world that the chunks allow. -/
theorem wl_fact {F : Prop} {l : List Oper} (hf : ∀ w, Inv C.w0 C.S cs w → F) (h : F → WL C ops Q l fr cs) : WL C ops Q l fr cs := fun a w hfr hi => h (hf w hi) a w hfr hi
theorem wc_fact {F : Prop} {c : Code} (hf : ∀ w, Inv C.w0 C.S cs w → F) (h : F → WC C c Q fr cs) : WC C c Q fr cs := fun a w hfr hi => h (hf w hi) a w hfr hi
theorem wa_fact {St : Dr} {fuel : Nat} {listed : Array Bool} {F : Prop} (hf : ∀ w, Inv C.w0 C.S cs w → F) (h : F → WA C St ops Q fuel listed fr cs) : WA C St ops Q fuel listed fr cs := fun a w hfr hi => h (hf w hi) a w hfr hi
theorem wi_fact {St : Dr} {fuel : Nat} {listed : Array Bool} {i : Nat} {F : Prop} (hf : ∀ w, Inv C.w0 C.S cs w → F) (h : F → WI C St ops Q fuel listed i fr cs) : WI C St ops Q fuel listed i fr cs := fun a w hfr hi => h (hf w hi) a w hfr hi
theorem qok_fact {F : Prop} {e : Exit} (hf : ∀ w, Inv C.w0 C.S cs w → F) (h : F → QOk C Q e fr cs) : QOk C Q e fr cs := fun a w hfr hi => h (hf w hi) a w hfr hi
theorem sl_cut {w : World} {k : IntKind} {e c m : Nat} {A : Option Addr} {xs : List Int} (h : (sl k e A xs.length c xs).ok w) : (sl k e A (xs.take m).length c (xs.take m)).ok w := by
  have := slv_take (m := (xs.take m).length) h (by rw [List.length_take]; omega)
  rw [ints_take] at this
  rw [List.length_take] at this ⊢
  rw [show xs.take (min m xs.length) = xs.take m by
    rcases Nat.le_total m xs.length with h1 | h1
    · rw [Nat.min_eq_left h1]
    rw [Nat.min_eq_right h1, List.take_length, List.take_of_length_le h1]] at this
  exact this
theorem ltT {a b : Nat} (h : Nat.blt a b = true) : a < b := by simpa [Nat.blt_eq] using h
theorem allT {xs : List Value} (h : xs.all (·.oneCell') = true) : ∀ u ∈ xs, u.oneCell' = true := by simpa using h
/-- A value that is put together. -/
theorem y_build0 {ps : List (Nat × Operand)} {prs : List (Nat × Value)} (hp : evP fr ps = some prs) (hr : ∀ w, (Instr.build T prs.toArray).run C.P w = .ok v w) : OpY C ⟨dd, .build T ps.toArray, ty, pos, af, gd⟩ fr g Any v := fun a w hf _ _ => by
  have e1 : ps.toArray.map (fun p => (p.1, a.eval p.2)) = prs.toArray := by simp [evP_ok hf hp]
  simp only [execOp]
  rw [show (ps.toArray.map fun (i, x) => (i, a.eval x)) = prs.toArray from e1]
  simp [hr w]
/-- The cells that the parts write. -/
def bw (place : Nat → Option (Nat × Nat)) : List (Nat × Value) → Option (List (Nat × Value))
  | [] => some []
  | (i, v) :: rest => match place i with
    | none => none
    | some (off, size) => bif Nat.beq v.cells.size size && Nat.blt 0 size then
        match bw place rest with
        | some ws => some ((v.cells.toList.zipIdx off).map (fun p => (p.2, p.1)) ++ ws)
        | none => none
      else none
inductive BuildTo : List Value → List (Nat × Value) → List Value → Prop
  | nil (cs : List Value) : BuildTo cs [] cs
  | cons {cs cs' xs : List Value} {o : Nat} {v : Value} {ws : List (Nat × Value)} (h : SetAt cs o v cs') (t : BuildTo cs' ws xs) : BuildTo cs ((o, v) :: ws) xs
theorem BuildTo.split : ∀ {us ws : List (Nat × Value)} {cs xs : List Value}, BuildTo cs (us ++ ws) xs → ∃ ms, BuildTo cs us ms ∧ BuildTo ms ws xs
  | [], _, cs, _, h => ⟨cs, .nil _, h⟩
  | (o, v) :: us, ws, cs, xs, h => by
    cases h with
    | cons h t =>
      obtain ⟨ms, h1, h2⟩ := BuildTo.split t
      exact ⟨ms, .cons h h1, h2⟩
theorem BuildTo.sets : ∀ {l : List Value} {j : Nat} {cs ms : List Value} (off : Nat), BuildTo cs ((l.zipIdx j).map (fun p => (off + p.2, p.1))) ms →
    (l.zipIdx j).foldl (fun (cs : Array Value) (p : Value × Nat) => cs.setIfInBounds (off + p.2) p.1) cs.toArray = ms.toArray ∧ ms.length = cs.length ∧ (l ≠ [] → off + j + l.length ≤ cs.length)
  | [], _, _, _, _, h => by cases h; simp
  | v :: l, j, cs, ms, off, h => by
    simp only [List.zipIdx_cons, List.map_cons] at h
    cases h with
    | cons h t =>
      obtain ⟨h1, h2⟩ := h.set
      obtain ⟨e1, e2, e3⟩ := BuildTo.sets off t
      refine ⟨?_, by rw [e2, ← h1]; simp, fun _ => ?_⟩
      · simp only [List.zipIdx_cons, List.foldl_cons]
        rw [← e1, ← h1]
        simp
      by_cases hn : l = []
      · subst hn; simp; omega
      have := e3 hn
      rw [← h1] at this
      simp at this ⊢
      omega
theorem fill_of {place : Nat → Option (Nat × Nat)} : ∀ {prs : List (Nat × Value)} {ws : List (Nat × Value)} {cs xs : List Value}, bw place prs = some ws → BuildTo cs ws xs → Instr.fill place cs.toArray prs = some xs.toArray
  | [], ws, cs, xs, h, hb => by
    simp only [bw, Option.some.injEq] at h
    subst h
    cases hb
    rfl
  | (i, v) :: rest, ws, cs, xs, h, hb => by
    simp only [bw] at h
    cases hpl : place i with
    | none => simp [hpl] at h
    | some q =>
      obtain ⟨off, size⟩ := q
      simp only [hpl] at h
      cases hc : (Nat.beq v.cells.size size && Nat.blt 0 size) with
      | false => simp [hc] at h
      | true =>
        simp only [hc, cond_true] at h
        cases hr : bw place rest with
        | none => simp [hr] at h
        | some ws' =>
          simp only [hr, Option.some.injEq] at h
          subst h
          simp only [Bool.and_eq_true, Nat.blt_eq] at hc
          have hsz : v.cells.size = size := Nat.eq_of_beq_eq_true hc.1
          obtain ⟨ms, h1, h2⟩ := BuildTo.split hb
          have e0 : (v.cells.toList.zipIdx off).map (fun p => (p.2, p.1)) = (v.cells.toList.zipIdx 0).map (fun p => (off + p.2, p.1)) := by
            rw [List.zipIdx_eq_map_add]
            simp [List.map_map, Function.comp_def]
          rw [e0] at h1
          obtain ⟨e1, e2, e3⟩ := BuildTo.sets off h1
          have hne : v.cells.toList ≠ [] := by
            intro hnil
            have : v.cells.size = 0 := by rw [← Array.length_toList, hnil]; rfl
            omega
          have hle := e3 hne
          simp only [Array.length_toList] at hle
          simp only [Instr.fill, hpl]
          rw [if_neg (by simp [hsz]; omega)]
          rw [← Array.foldl_toList, Array.toList_zipIdx, e1]
          exact fill_of hr h2
def placeS (P : Program) (fs : Array Field) (i : Nat) : Option (Nat × Nat) := match fs[i]? with
  | some f => match P.info? f.type with
    | some fi => some (f.offset, fi.size)
    | none => none
  | none => none
theorem run_mapM_list {P : Program} {w : World} {α β : Type} {f : α → Sem β} {k : α → β} : ∀ {l : List α}, (∀ x ∈ l, (f x).run P w = .ok (k x) w) → (l.mapM f).run P w = .ok (l.map k) w
  | [], _ => by simp
  | x :: l, h => by
    have ih := run_mapM_list (l := l) (fun y hy => h y (by simp [hy]))
    simp [List.mapM_cons, h x (by simp), ih]
theorem run_buildS {P : Program} {T : TypeId} {fs : Array Field} {z : Value} {zs : List Value} {prs ws : List (Nat × Value)} {xs : List Value} (ht : P.underlying T = some (.struct fs)) (hz : ∀ w, (zeroValue T).run P w = .ok z w) (hzs : z.cells = zs.toArray)
    (hf : fs.toList.all (fun f => (P.info? f.type).isSome) = true) (hw : bw (placeS P fs) prs = some ws) (hb : BuildTo zs ws xs) (w : World) : (Instr.build T prs.toArray).run P w = .ok (.agg xs.toArray) w := by
  have hm : (fs.mapM fun f => (do pure (f.offset, ← sizeOf f.type) : Sem (Nat × Nat))).run P w = .ok (fs.map fun f => (f.offset, ((P.info? f.type).map (·.size)).getD 0)) w := by
    rw [Array.mapM_eq_mapM_toList]
    have := run_mapM_list (P := P) (w := w) (f := fun f : Field => (do pure (f.offset, ← sizeOf f.type) : Sem (Nat × Nat))) (k := fun f => (f.offset, ((P.info? f.type).map (·.size)).getD 0)) (l := fs.toList) (fun f hf' => by
      have := List.all_eq_true.1 hf f hf'
      obtain ⟨i, hi⟩ := Option.isSome_iff_exists.1 this
      simp [sizeOf, typeInfo, hi])
    rw [Sem.run_map, this]
    simp only [Result.andThen_ok]
    congr 1
    apply Array.ext'
    simp
  have hpl : ∀ i, (fs.map fun f => (f.offset, ((P.info? f.type).map (·.size)).getD 0))[i]? = placeS P fs i := fun i => by
    unfold placeS
    rw [Array.getElem?_map]
    cases hi : fs[i]? with
    | none => rfl
    | some f =>
      have := List.all_eq_true.1 hf f (by simpa using Array.mem_of_getElem? hi)
      obtain ⟨j, hj⟩ := Option.isSome_iff_exists.1 this
      simp [hj]
  have hfill := fill_of hw hb
  simp only [Instr.build, Sem.run_bind, hz, Result.andThen_ok, run_underlying ht, hm, hzs]
  rw [show (fun x => (fs.map fun f => (f.offset, ((P.info? f.type).map (·.size)).getD 0))[x]?) = placeS P fs from funext hpl, hfill]
  rfl
theorem y_build {fs : Array Field} {z : Value} {zs : List Value} {ps : List (Nat × Operand)} {prs ws : List (Nat × Value)} {xs : List Value} (hp : evP fr ps = some prs) (ht : C.P.underlying T = some (.struct fs)) (hz : ∀ w, (zeroValue T).run C.P w = .ok z w) (hzs : z.cells = zs.toArray)
    (hf : fs.toList.all (fun f => (C.P.info? f.type).isSome) = true) (hw : bw (placeS C.P fs) prs = some ws) (hb : BuildTo zs ws xs) : OpY C ⟨dd, .build T ps.toArray, ty, pos, af, gd⟩ fr g Any (.agg xs.toArray) :=
  y_build0 hp (run_buildS ht hz hzs hf hw hb)
theorem y_buildA {z : Value} {zs : List Value} {n e sz : Nat} {ps : List (Nat × Operand)} {prs ws : List (Nat × Value)} {xs : List Value} (hp : evP fr ps = some prs) (ht : C.P.underlying T = some (.array n e)) (hz : ∀ w, (zeroValue T).run C.P w = .ok z w) (hzs : z.cells = zs.toArray)
    (hs : ∀ w, (sizeOf e).run C.P w = .ok sz w) (hw : bw (fun i => some (i * sz, sz)) prs = some ws) (hb : BuildTo zs ws xs) : OpY C ⟨dd, .build T ps.toArray, ty, pos, af, gd⟩ fr g Any (.agg xs.toArray) :=
  y_build0 hp (fun w => by
    have hfill := fill_of hw hb
    simp only [Instr.build, Sem.run_bind, hz, Result.andThen_ok, run_underlying ht, hs, hzs]
    rw [hfill]
    rfl)
/-- A slice against nil. -/
theorem y_slnil {A : Option Addr} {n c : Nat} {e : TypeId} (hT : C.P.underlying T = some (.slice e)) (hx : Ev fr g x (.slice A n c)) : OpY C ⟨dd, .binOp .eql T x (.const (.slice none 0 0)) T, ty, pos, af, gd⟩ fr g Any (.bool A.isNone) := fun a w hf _ hg => by
  have hk : a.eval (.const (.slice none 0 0)) = .slice none 0 0 := rfl
  have he : (eqGuard .eql T x (.const (.slice none 0 0)) (.slice A n c) (.slice none 0 0)).run C.P w = .ok () w := rfl
  simp [execOp, hx.eval hf hg, hk, he, Lib.run_eql_slice_nil (P := C.P) w T e A n c 0 0 hT]
theorem y_pnil {p : Option Addr} {e : TypeId} (hT : C.P.underlying T = some (.pointer e)) (hx : Ev fr g x (.pointer p)) : OpY C ⟨dd, .binOp .eql T x (.const (.pointer none)) T, ty, pos, af, gd⟩ fr g Any (.bool p.isNone) := fun a w hf _ hg => by
  have hk : a.eval (.const (.pointer none)) = .pointer none := rfl
  have he : (eqGuard .eql T x (.const (.pointer none)) (.pointer p) (.pointer none)).run C.P w = .ok () w := rfl
  have hr : (binOp .eql T (.pointer p) (.pointer none)).run C.P w = .ok (.bool p.isNone) w := by
    have h : ∀ d : Nat, (Op.equalIn (d + 1) T (.pointer p) (.pointer none)).run C.P w = .ok p.isNone w := fun d => by
      cases p <;> simp [Op.equalIn, run_underlying hT, samePointer]
    simp only [binOp]
    simp [Op.equal, Op.maxDepth, h 9999]
  simp [execOp, hx.eval hf hg, hk, he, hr]
theorem y_pnn {p : Option Addr} {e : TypeId} (hT : C.P.underlying T = some (.pointer e)) (hx : Ev fr g x (.pointer p)) : OpY C ⟨dd, .binOp .neq T x (.const (.pointer none)) T, ty, pos, af, gd⟩ fr g Any (.bool p.isSome) := fun a w hf _ hg => by
  have hk : a.eval (.const (.pointer none)) = .pointer none := rfl
  have he : (eqGuard .neq T x (.const (.pointer none)) (.pointer p) (.pointer none)).run C.P w = .ok () w := rfl
  have hr : (binOp .neq T (.pointer p) (.pointer none)).run C.P w = .ok (.bool p.isSome) w := by
    have h : ∀ d : Nat, (Op.equalIn (d + 1) T (.pointer p) (.pointer none)).run C.P w = .ok p.isNone w := fun d => by
      cases p <;> simp [Op.equalIn, run_underlying hT, samePointer]
    simp only [binOp]
    simp [Op.equal, Op.maxDepth, h 9999]
  simp [execOp, hx.eval hf hg, hk, he, hr]
theorem hv_row {w0 : World} {S : List Nat} {bb t : Nat} {xs : List Value} (hc : Has cs (row bb xs t)) : ∀ w, Inv w0 S cs w → cells (cellsFrom ⟨bb, 0, none⟩ 0 xs) w := row_cells hc (by simp)
/-- The whole of a row is loaded. -/
theorem wl_loadRow {d : Nat} {bb t : Nat} {xs : List Value} (hc : Has cs (row bb xs t)) (hT : ∀ w, (isAgg T).run C.P w = .ok true w) (hs : ∀ w, (sizeOf T).run C.P w = .ok xs.length w) (hx : Ev fr true x (.pointer (some ⟨bb, 0, none⟩))) (hd : Nat.blt d C.N = true)
    (h : WL C ops Q rest ((d, .agg xs.toArray) :: fr) cs) : WL C ops Q (⟨some d, .load T x, ty, pos, af, none⟩ :: rest) fr cs := wl_y (y_loadN hT hs hx) (hv_row hc) hd h
theorem wl_loadRowg {d : Nat} {bb t : Nat} {xs : List Value} (hg : GuardIs ops fr ⟨some d, .load T x, ty, pos, af, gd⟩ g) (hc : Has cs (row bb xs t)) (hT : ∀ w, (isAgg T).run C.P w = .ok true w) (hs : ∀ w, (sizeOf T).run C.P w = .ok xs.length w) (hx : Ev fr g x (.pointer (some ⟨bb, 0, none⟩))) (hd : Nat.blt d C.N = true)
    (h : WL C ops Q rest ((d, bif g then .agg xs.toArray else undef) :: fr) cs) : WL C ops Q (⟨some d, .load T x, ty, pos, af, gd⟩ :: rest) fr cs := wl_yg hg (y_loadN hT hs hx) (hv_row hc) hd h
theorem wa_loadRow {d : Nat} {bb t : Nat} {xs : List Value} {St : Dr} {fuel : Nat} {listed : Array Bool} (i : Nat) (hi : ops[i]? = some ⟨some d, .load T x, ty, pos, af, none⟩) (hsel : Region.noSelect ops = true) (hfree : Region.free .any ops listed i = true) (hst : stFree .any ops St.st listed i = true) (hr : (Region.ready .any ops listed).contains i = true)
    (hc : Has cs (row bb xs t)) (hT : ∀ w, (isAgg T).run C.P w = .ok true w) (hs : ∀ w, (sizeOf T).run C.P w = .ok xs.length w) (hx : Ev fr true x (.pointer (some ⟨bb, 0, none⟩))) (hd : Nat.blt d C.N = true)
    (h : WA C St ops Q fuel (listed.setIfInBounds i true) ((d, .agg xs.toArray) :: fr) cs) : WA C St ops Q (fuel + 1) listed fr cs := wa_ln i hi hsel hfree hst hr (y_loadN hT hs hx) (hv_row hc) hd h
/-- A cell of a slice that is the call's own. -/
theorem sl_cell {w0 : World} {S : List Nat} {e n c j : Nat} {ad : Addr} {xs : List Value} (hc : Has cs (slv e 1 (some ad) n c xs)) (hv : xs[j]? = some v) : ∀ w, Inv w0 S cs w → cells [(ad.add (j * 1), v)] w := fun w hi z hz => by
  rw [List.mem_singleton] at hz
  subst hz
  rw [Nat.mul_one]
  exact (hi.rd hc).at_ ad rfl j v hv
/-- A cell of a slice that came in. -/
theorem rd_cell {w0 : World} {n c j : Nat} {ad : Addr} {xs : List Value} (h : RdV w0 1 (some ad) n c xs) (hv : xs[j]? = some v) : ∀ w, Inv w0 [] cs w → cells [(ad.add (j * 1), v)] w := fun w hi z hz => by
  rw [List.mem_singleton] at hz
  subst hz
  rw [Nat.mul_one]
  exact (h.oldN hi).at_ ad rfl j v hv
theorem RdV.some_ {w : World} {sz n c : Nat} {A : Option Addr} {xs : List Value} (h : RdV w sz A n c xs) (hn : 0 < n) : ∃ ad, A = some ad := by
  cases A with
  | none => have := (h.nil rfl).1; omega
  | some ad => exact ⟨ad, rfl⟩
end
end Go.Ink
