/- A row's frame: every argument opened by its type, the law walked, true comes back and nothing that was there has turned. Nothing of the program. -/
import Derived.Test.YtobjiljkfmcalaaGreatInkE
import Derived.ProofKit
import Derived.SizedLaws
import Derived.Carry
import Derived.Below
set_option linter.unusedSimpArgs false
set_option linter.unusedVariables false
namespace Go.Ink
open Go.RowKit Go.ChangeShapes Go.WideShapes

/-- The cells read as the type says, and nothing in them is longer than a process's memory. -/
def Arg (P : Program) (w : World) (t : TypeId) (cs : List Value) : Prop :=
  ∃ (H : Type) (enc : TypeId × Value → H) (base n : Nat) (x : DataW H × List MemPlace), DataW.trod enc P w base (fun _ => true) true n t cs = some x ∧ ∀ m ∈ x.1.weights P t, m ≤ reachBytes
def ArgV (P : Program) (w : World) (t : TypeId) (v : Value) : Prop := (∃ r b, Value.okWide P w r b t v) ∧ Arg P w t v.cells.toList

section
variable {P : Program} {w : World} {t : TypeId} {cs : List Value} {v : Value}
theorem Arg.int {k : IntKind} (ht : P.underlying t = some (.int k)) (h : Arg P w t cs) : ∃ n, cs = [.int k n] ∧ (Lit.int k n).wf = true := by
  obtain ⟨H, enc, base, n, x, h, _⟩ := h
  obtain ⟨m, h1, _, h2⟩ := DataW.trod_int ht h
  exact ⟨m, h1, h2⟩
theorem Arg.bool (ht : P.underlying t = some .bool) (h : Arg P w t cs) : ∃ b, cs = [.bool b] := by
  obtain ⟨H, enc, base, n, x, h, _⟩ := h
  obtain ⟨m, h1, _⟩ := DataW.trod_bool ht h
  exact ⟨m, h1⟩
theorem Arg.string (ht : P.underlying t = some .string) (h : Arg P w t cs) : ∃ s, cs = [.string s] ∧ s.size ≤ 140737488351232 := by
  obtain ⟨H, enc, base, n, x, h, hw⟩ := h
  obtain ⟨s, h1, h2, _⟩ := DataW.trod_string ht h
  refine ⟨s, h1, ?_⟩
  rw [h2] at hw
  have := hw s.data.toList.length (List.mem_cons_self ..)
  have e : s.data.toList.length = s.size := Array.length_toList
  rw [e] at this
  exact this
theorem mem_each {H : Type} {ts : List TypeId} {ds : List (DataW H)} {B : Nat} (h : ∀ m ∈ DataW.weightsEach P ts ds, m ≤ B) {j : Nat} {u : TypeId} {d : DataW H} (ht : ts[j]? = some u) (hd : ds[j]? = some d) : ∀ m ∈ d.weights P u, m ≤ B :=
  fun m hm => h m (DataW.weights_mem_each ht hd m hm)
theorem mem_all {H : Type} {e : TypeId} : ∀ {ds : List (DataW H)} {j : Nat} {d : DataW H}, ds[j]? = some d → ∀ m ∈ d.weights P e, m ∈ DataW.weightsAll P e ds
  | [], _, _, hd, _, _ => by simp at hd
  | d0 :: ds, 0, d, hd, m, hm => by
    simp only [List.getElem?_cons_zero, Option.some.injEq] at hd
    subst hd
    simp only [DataW.weightsAll, List.mem_append]
    exact .inl hm
  | d0 :: ds, j + 1, d, hd, m, hm => by
    simp only [List.getElem?_cons_succ] at hd
    simp only [DataW.weightsAll, List.mem_append]
    exact .inr (mem_all hd m hm)
theorem Arg.struct {fs : Array Field} (ht : P.underlying t = some (.struct fs)) (h : Arg P w t cs) : cs.length = P.cellsOf t ∧ ∀ (i : Nat) (f : Field), fs[i]? = some f → Arg P w f.type ((cs.drop f.offset).take (P.cellsOf f.type)) := by
  obtain ⟨H, enc, base, n, x, h, hw⟩ := h
  obtain ⟨xs, n', rfl, rfl, hl, hlen, hf⟩ := DataW.trod_struct ht h
  refine ⟨hl, fun i f hi => ?_⟩
  have h1 := hf i f hi
  have hlt : i < fs.size := (Array.getElem?_eq_some_iff.1 hi).1
  have hx : xs[i]? = some (xs[i]'(by omega)) := List.getElem?_eq_getElem (by omega)
  rw [hx] at h1
  refine ⟨H, enc, base, n', _, h1, ?_⟩
  have : (DataW.agg (xs.map (·.1)) : DataW H).weights P t = DataW.weightsEach P (fs.toList.map (·.type)) (xs.map (·.1)) := by simp [DataW.weights, ht]
  rw [this] at hw
  exact mem_each hw (j := i) (by simp [hi]) (by simp [hx])
/-- A slice: nil, or a row of elements, all of its spare room read too. -/
theorem Arg.slice {e : TypeId} (ht : P.underlying t = some (.slice e)) (h : Arg P w t cs) :
    cs = [.slice none 0 0] ∨ ∃ (a : Addr) (len cap : Nat), cs = [.slice (some a) len cap] ∧ len ≤ cap ∧ cap ≤ maxLen ∧ cap * P.bytesOf e ≤ 140737488351232 ∧
      ∀ i, i < cap → ∃ es base, w.cells? base (a.add (i * P.cellsOf e)) (P.cellsOf e) = some es ∧ Arg P w e es := by
  obtain ⟨H, enc, base, n, x, h, hw⟩ := h
  rcases DataW.trod_slice ht h with ⟨h0, _⟩ | ⟨a, len, cap, elems, rest, n', rfl, rfl, rfl, _, hl, hm, hlen, hel, hsp, _⟩
  · exact .inl h0
  obtain ⟨hrl, hr⟩ := hsp rfl
  have hw' : ∀ m ∈ ((elems.map (·.1)).length + (rest.map (·.1)).length) * P.bytesOf e :: (DataW.weightsAll P e (elems.map (·.1)) ++ DataW.weightsAll P e (rest.map (·.1))), m ≤ reachBytes := by
    have : (DataW.slice (elems.map (·.1)) (rest.map (·.1)) : DataW H).weights P t = ((elems.map (·.1)).length + (rest.map (·.1)).length) * P.bytesOf e :: (DataW.weightsAll P e (elems.map (·.1)) ++ DataW.weightsAll P e (rest.map (·.1))) := by simp [DataW.weights, ht]
    rw [← this]
    exact hw
  refine .inr ⟨a, len, cap, rfl, hl, hm, ?_, fun i hi => ?_⟩
  · have := hw' _ (List.mem_cons_self ..)
    simp only [List.length_map, hlen, hrl] at this
    rw [show len + (cap - len) = cap by omega] at this
    exact this
  by_cases hlt : i < len
  · have h1 := hel i hlt
    have hx : elems[i]? = some (elems[i]'(by omega)) := List.getElem?_eq_getElem (by omega)
    rw [hx, Option.bind_eq_some_iff] at h1
    obtain ⟨es, h2, h3⟩ := h1
    exact ⟨es, _, h2, H, enc, base, n', _, h3, fun m hm' => hw' m (by
      simp only [List.mem_cons, List.mem_append]
      exact .inr (.inl (mem_all (ds := elems.map (·.1)) (j := i) (by simp [hx]) m hm')))⟩
  have h1 := hr (i - len) (by omega)
  rw [show len + (i - len) = i by omega] at h1
  have hx : rest[i - len]? = some (rest[i - len]'(by omega)) := List.getElem?_eq_getElem (by omega)
  rw [hx, Option.bind_eq_some_iff] at h1
  obtain ⟨es, h2, h3⟩ := h1
  exact ⟨es, _, h2, H, enc, base, n', _, h3, fun m hm' => hw' m (by
    simp only [List.mem_cons, List.mem_append]
    exact .inr (.inr (mem_all (ds := rest.map (·.1)) (j := i - len) (by simp [hx]) m hm')))⟩
theorem Arg.ptr {e : TypeId} (ht : P.underlying t = some (.pointer e)) (h : Arg P w t cs) :
    cs = [.pointer none] ∨ ∃ (a : Addr) (es : List Value) (base : Nat), cs = [.pointer (some a)] ∧ w.cells? base a (P.cellsOf e) = some es ∧ Arg P w e es := by
  obtain ⟨H, enc, base, n, x, h, hw⟩ := h
  rcases DataW.trod_pointer ht h with ⟨h0, _⟩ | ⟨a, cs', y, n', rfl, rfl, rfl, hc, hy⟩
  · exact .inl h0
  exact .inr ⟨a, cs', base, rfl, hc, H, enc, base, n', y, hy, by
    have : (DataW.ptr y.1 : DataW H).weights P t = y.1.weights P e := by simp [DataW.weights, ht]
    rw [this] at hw
    exact hw⟩
/-- A slice of numbers. -/
theorem Arg.ints {e : TypeId} {k : IntKind} (ht : P.underlying t = some (.slice e)) (he : P.underlying e = some (.int k)) (hc : P.cellsOf e = 1) (h : Arg P w t cs) :
    ∃ (A : Option Addr) (c : Nat) (xs : List Int), cs = [.slice A xs.length c] ∧ Rd w k A xs.length c xs ∧ c * P.bytesOf e ≤ 140737488351232 ∧ ∀ x, x ∈ xs → (Lit.int k x).wf = true := by
  rcases h.slice ht with rfl | ⟨a, len, cap, rfl, hl, hm, hb, hi⟩
  · exact ⟨none, 0, [], rfl, ⟨rfl, Nat.le_refl _, by decide, fun _ => ⟨rfl, rfl⟩, fun _ h => by cases h⟩, by simp, fun x hx => by cases hx⟩
  have each : ∀ i : Nat, ∃ x : Int, i < cap → w.cell? (a.add i) = some (.int k x) ∧ (Lit.int k x).wf = true := fun i => by
    by_cases hlt : i < cap
    · obtain ⟨es, base, h1, h2⟩ := hi i hlt
      obtain ⟨x, rfl, hw⟩ := h2.int he
      rw [hc, Nat.mul_one] at h1
      have := (World.cells?_some h1).2.2 0 (by omega)
      rw [Go.Ink.add_of_add, Nat.add_zero] at this
      exact ⟨x, fun _ => ⟨by simpa using this, hw⟩⟩
    exact ⟨0, fun h => absurd h hlt⟩
  obtain ⟨f, hf⟩ := Classical.axiomOfChoice each
  refine ⟨some a, cap, (List.range len).map f, by simp, ⟨by simp [ints], by simpa using hl, hm, (fun h => by cases h), ?_⟩, hb, ?_⟩
  · intro ad e j u hu
    obtain rfl : a = ad := by simpa using e
    simp only [ints, List.getElem?_map, List.map_map] at hu
    by_cases hj : j < len
    · rw [List.getElem?_range hj] at hu
      simp only [Option.map_some, Option.some.injEq] at hu
      rw [← hu]
      exact (hf j (by omega)).1
    rw [List.getElem?_eq_none (by simp; omega)] at hu
    simp at hu
  intro x hx
  simp only [List.mem_map, List.mem_range] at hx
  obtain ⟨i, hi', rfl⟩ := hx
  exact (hf i (by omega)).2

theorem ArgV.int {k : IntKind} (ht : P.underlying t = some (.int k)) (h : ArgV P w t v) : ∃ n, v = .int k n ∧ (Lit.int k n).wf = true := by
  obtain ⟨⟨r, b, ho⟩, h⟩ := h
  obtain ⟨n, rfl⟩ := okWide_int ht ho
  obtain ⟨m, h1, h2⟩ := h.int ht
  simp [Value.cells] at h1
  subst h1
  exact ⟨_, rfl, h2⟩
theorem ArgV.bool (ht : P.underlying t = some .bool) (h : ArgV P w t v) : ∃ b, v = .bool b := by
  obtain ⟨⟨r, b, ho⟩, h⟩ := h
  exact okWide_bool ht ho
theorem ArgV.string (ht : P.underlying t = some .string) (h : ArgV P w t v) : ∃ s, v = .string s ∧ s.size ≤ 140737488351232 := by
  obtain ⟨⟨r, b, ho⟩, h⟩ := h
  obtain ⟨n, rfl⟩ := okWide_string ht ho
  obtain ⟨m, h1, h2⟩ := h.string ht
  simp [Value.cells] at h1
  subst h1
  exact ⟨_, rfl, h2⟩
theorem ArgV.ints {e : TypeId} {k : IntKind} (ht : P.underlying t = some (.slice e)) (he : P.underlying e = some (.int k)) (hc : P.cellsOf e = 1) (h : ArgV P w t v) :
    ∃ (A : Option Addr) (c : Nat) (xs : List Int), v = .slice A xs.length c ∧ Rd w k A xs.length c xs ∧ c * P.bytesOf e ≤ 140737488351232 ∧ ∀ x, x ∈ xs → (Lit.int k x).wf = true := by
  obtain ⟨⟨r, b, ho⟩, h⟩ := h
  obtain ⟨a, l, c, rfl⟩ := okWide_slice ht ho
  obtain ⟨A, c', xs, h1, h2⟩ := h.ints ht he hc
  simp [Value.cells] at h1
  obtain ⟨rfl, rfl, rfl⟩ := h1
  exact ⟨_, _, _, rfl, h2⟩
theorem ArgV.struct {fs : Array Field} (ht : P.underlying t = some (.struct fs)) (h : ArgV P w t v) : ∃ cs : List Value, v = .agg cs.toArray ∧ cs.length = P.cellsOf t ∧ ∀ (i : Nat) (f : Field), fs[i]? = some f → Arg P w f.type ((cs.drop f.offset).take (P.cellsOf f.type)) := by
  obtain ⟨⟨r, b, ho⟩, h⟩ := h
  obtain ⟨⟨cs⟩, rfl, _⟩ := okWide_struct ht ho
  obtain ⟨h1, h2⟩ := h.struct ht
  exact ⟨cs, rfl, h1, h2⟩
end

/-- The arguments one by one. -/
def Args (P : Program) (w : World) : List TypeId → List Value → Prop
  | [], vs => vs = []
  | t :: ts, vs => ∃ v r, vs = v :: r ∧ ArgV P w t v ∧ Args P w ts r

theorem args_of {H : Type} {enc : TypeId × Value → H} {P : Program} {W : World} {base : Nat} : ∀ {ts : List TypeId} {vs : List Value} {ds : List (DataW H)} {p : List MemPlace}, DataW.TrodAll enc P W 0 (fun _ => true) true ts vs ds p →
    (∀ (j : Nat) t v, ts[j]? = some t → vs[j]? = some v → Value.okWide P W .any base t v) → (∀ m ∈ DataW.weightsEach P ts ds, m ≤ reachBytes) → Args P W ts vs
  | [], [], [], _, _, _, _ => rfl
  | [], _ :: _, _, _, h, _, _ => by simp [DataW.TrodAll] at h
  | [], [], _ :: _, _, h, _, _ => by simp [DataW.TrodAll] at h
  | _ :: _, [], _, _, h, _, _ => by simp [DataW.TrodAll] at h
  | _ :: _, _ :: _, [], _, h, _, _ => by simp [DataW.TrodAll] at h
  | t :: ts, v :: vs, d :: ds, _, h, ho, hw => by
    obtain ⟨p, q, ⟨n, hn⟩, h2, _⟩ := h
    refine ⟨v, vs, rfl, ⟨⟨_, _, ho 0 t v rfl rfl⟩, H, enc, 0, n, _, hn, fun m hm => hw m ?_⟩, args_of h2 (fun j t' v' h1 h2 => ho (j + 1) t' v' h1 h2) (fun m hm => hw m ?_)⟩
    · simp only [DataW.weightsEach, List.mem_append]; exact .inl hm
    simp only [DataW.weightsEach, List.mem_append]; exact .inr hm

theorem trodAll_below {H : Type} {enc : TypeId × Value → H} {P : Program} (hl : laidOutB P = true) {W W' : World} (hb : Below W.heap.size W W') : ∀ {ts : List TypeId} {vs : List Value} {ds : List (DataW H)} {p : List MemPlace},
    ts.all (fun t => P.readableRec t && decide (t < P.types.size)) = true → DataW.TrodAll enc P W 0 (fun _ => true) true ts vs ds p → DataW.TrodAll enc P W' 0 (fun b => decide (b < W.heap.size)) true ts vs ds p
  | [], [], [], _, _, h => h
  | [], _ :: _, _, _, _, h => by simp [DataW.TrodAll] at h
  | [], [], _ :: _, _, _, h => by simp [DataW.TrodAll] at h
  | _ :: _, [], _, _, _, h => by simp [DataW.TrodAll] at h
  | _ :: _, _ :: _, [], _, _, h => by simp [DataW.TrodAll] at h
  | t :: ts, v :: vs, d :: ds, _, ha, h => by
    obtain ⟨p, q, h1, h2, rfl⟩ := h
    simp only [List.all_cons, Bool.and_eq_true, decide_eq_true_eq] at ha
    obtain ⟨⟨r1, r2⟩, r3⟩ := ha
    refine ⟨p, q, Below.trod hl r1 r2 h1 hb ?_, trodAll_below hl hb r3 h2, rfl⟩
    obtain ⟨m, hm⟩ := h1
    exact DataW.trod_lt m _ _ _ hm

theorem trodAll_len {H : Type} {enc : TypeId × Value → H} {P : Program} {W : World} {base : Nat} {sp : Nat → Bool} {hd : Bool} : ∀ {ts : List TypeId} {vs : List Value} {ds : List (DataW H)} {p : List MemPlace}, DataW.TrodAll enc P W base sp hd ts vs ds p → ds.length = ts.length
  | [], [], [], _, _ => rfl
  | [], _ :: _, _, _, h => by simp [DataW.TrodAll] at h
  | [], [], _ :: _, _, h => by simp [DataW.TrodAll] at h
  | _ :: _, [], _, _, h => by simp [DataW.TrodAll] at h
  | _ :: _, _ :: _, [], _, h => by simp [DataW.TrodAll] at h
  | t :: ts, v :: vs, d :: ds, _, h => by
    obtain ⟨p, q, h1, h2, rfl⟩ := h
    simp [trodAll_len h2]

set_option maxRecDepth 100000 in
/-- The frame: true comes back, and nothing that was there has turned. -/
theorem row_true {C : Checked} {os : Os} {f : FuncId} {fn : Func} {s : ChangeSpec} {ts : List TypeId} {tb : TypeId} {H : Type} {enc : TypeId × Value → H}
    (own : ownKnob C.prog.godebug = none) (started : os.Started) (noInit : C.prog.inits.idxOf? f = none) (hfn : C.prog.funcs[f]? = some fn)
    (witness : ∃ (w : World) (tape : Tape) (i : Input), w.os = os ∧ (w.forCall tape i).Shaped C.prog ∧ i.vars = [] ∧ Input.okWide C.prog (w.forCall tape i) .any w.heap.size f i ∧
      s.pre6 enc C.prog fn [] false (w.forCall tape i).memory i.args ∧ ({} : Assume).holds C.prog (lone (Frame.enter C.prog f i.args .normal) [] (w.forCall tape i)))
    (hts : fn.params = ts.toArray) (hres : fn.resultTypes = #[tb]) (hb : C.prog.underlying tb = some .bool) (hvars : s.vars = [])
    (hs : ∀ ds : List (DataW H), ds.length = ts.length → s.fn H (ds ++ []) = { results := [.lit (.bool true)], args := ds })
    (hl : laidOutB C.prog = true) (hread : ts.all (fun t => C.prog.readableRec t && decide (t < C.prog.types.size)) = true)
    (walk : ∀ (W : World) (vs : List Value), Args C.prog W ts vs → Calls C.prog f vs.toArray W fun e W' => e = .returned (.bool true) ∧ Below W.heap.size W W') :
    ReturnsInHanded {} C os f .any (s.pre6 enc C.prog fn [] false) (s.post enc C.prog fn false true false false) := by
  refine returnsInHanded_of_change_sized own started noInit hfn witness ?_
  intro W base args ds gs before hval hW hcnd hsz _
  have hW' := hW
  obtain ⟨p, q, hA, hV, rfl, hfz, hnd⟩ := hW
  obtain ⟨rfl, rfl⟩ : gs = [] ∧ q = [] := by
    rw [hvars] at hV
    cases gs with
    | nil => exact ⟨rfl, hV⟩
    | cons g gs => exact absurd hV (by simp [DataW.TrodVars])
  have hA' : DataW.TrodAll enc C.prog W 0 (fun _ => true) true ts args.toList ds p := by
    rw [hts] at hA
    exact hA
  have hsz' : ∀ m ∈ DataW.weightsEach C.prog ts ds, m ≤ reachBytes := by
    have e : fn.params.toList ++ s.plain.varTypes C.prog = ts := by simp [hts, DataSpec.varTypes, ChangeSpec.plain, hvars]
    rw [e, List.append_nil] at hsz
    intro m hm
    have := List.all_eq_true.1 hsz m hm
    simpa using this
  have hval' : ∀ (j : Nat) t v, ts[j]? = some t → args.toList[j]? = some v → Value.okWide C.prog W .any base t v := fun j t v h1 h2 => hval j t v (by rw [hts]; simpa using h1) (by simpa using h2)
  have hw := walk W args.toList (args_of hA' hval' hsz')
  rw [Array.toArray_toList] at hw
  refine hw.mono fun e W' hh => ?_
  obtain ⟨rfl, bel⟩ := hh
  have hspec := hs ds (trodAll_len hA')
  refine ⟨_, rfl, ds, [], p ++ [], [], p, [], hW', ?_, ?_, ?_, ?_, fun h => by cases h⟩
  · rw [hspec, hres]
    exact trodAll_mk1 (shut_bool hb _)
  · rw [hspec, hts]
    exact trodAll_below hl bel hread hA'
  · rw [hspec, hvars]
    rfl
  exact bel.frame _
end Go.Ink
