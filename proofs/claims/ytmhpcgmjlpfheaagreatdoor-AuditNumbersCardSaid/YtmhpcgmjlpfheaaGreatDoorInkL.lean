/- Laws whose package-level variables are laid: the frame; a table of numbers. Nothing of the program. -/
import Derived.Test.YtmhpcgmjlpfheaaGreatDoorInkA
import Derived.LaidMore
import Derived.OpenShut
import Derived.Handed
import Derived.Stop.Joined
set_option linter.unusedSimpArgs false
set_option linter.unusedVariables false
namespace Go.Ink
open Go.RowKit Go.ChangeShapes Go.WideShapes
/-- A table of numbers that is laid is read. -/
theorem laid_table {P : Program} {w : World} {name : String} {g t e n : Nat} {k : IntKind} {vals : List Int} {d : DataW Unit} (h : laidMetH P [(name, d)] w) (hp : laidMetH P [(name, d)] w = laidMet P [(name, d)] w) (hdv : d = .agg (vals.map fun x => .lit (.int k x)))
    (hg : P.globalNamed name = some g) (ht : (P.globals[g]?).map (·.type) = some t) (hu : P.underlying t = some (.array n e)) (he : P.underlying e = some (.int k)) (hc : P.cellsOf e = 1) (hn : vals.length = n) (hm : n ≤ maxLen) : RdV w 1 (some ⟨g, 0, none⟩) n n (ints k vals) := by
  rw [hp] at h
  obtain ⟨ps, ⟨g0, t0, cs, f, p, q, hg0, ht0, hv0, hd0, -⟩, -, -⟩ := h
  obtain rfl := Option.some.inj (hg.symm.trans hg0)
  obtain rfl := Option.some.inj (ht.symm.trans ht0)
  obtain ⟨xs, m, -, hx, -, hxl, hxs⟩ := DataW.trod_array hu hd0
  rw [hdv] at hx
  simp only [Prod.mk.injEq, DataW.agg.injEq] at hx
  have hcell : ∀ (i : Nat) (x : Int), vals[i]? = some x → cs[i]? = some (.int k x) := fun i x hi => by
    have hil : i < n := by rw [← hn]; exact (List.getElem?_eq_some_iff.1 hi).1
    have h1 := hxs i hil
    have hxi : xs[i]? = some (xs[i]'(by omega)) := List.getElem?_eq_getElem (by omega)
    rw [hxi, hc, Nat.mul_one] at h1
    obtain ⟨z, hz1, hz2, -⟩ := DataW.trod_int he h1
    have h2 : (xs.map (·.1))[i]? = some (.lit (.int k x)) := by rw [← hx.1, List.getElem?_map, hi]; rfl
    rw [List.getElem?_map, hxi] at h2
    simp only [Option.map_some, Option.some.injEq] at h2
    rw [hz2] at h2
    simp only [DataW.lit.injEq, Lit.int.injEq, true_and] at h2
    subst h2
    have h3 : ((cs.toList.drop i).take 1)[0]? = some (.int k z) := by rw [hz1]; rfl
    rw [List.getElem?_take, if_pos (by omega), List.getElem?_drop] at h3
    simpa using h3
  refine ⟨by simp [ints, hn], Nat.le_refl _, hm, fun e => (by cases e), fun ad e j u hu => ?_⟩
  obtain rfl := (Option.some.inj e).symm
  unfold ints at hu
  rw [List.getElem?_map] at hu
  cases hj : vals[j]? with
  | none => rw [hj] at hu; cases hu
  | some x =>
    rw [hj] at hu
    obtain rfl := (Option.some.inj hu).symm
    unfold World.var? at hv0
    rw [hg] at hv0
    simp only [Option.bind_some] at hv0
    rw [Addr.add_lit]
    unfold World.cell?
    cases hh : w.heap[g]? with
    | none => rw [hh] at hv0; cases hv0
    | some o =>
      rw [hh] at hv0
      cases o with
      | cells c el fz =>
        obtain rfl := Option.some.inj hv0
        simpa using hcell j x hj
      | _ => cases hv0
set_option maxRecDepth 100000 in
/-- The frame: true comes back, and nothing that was there has turned; variables that are laid may be read. -/
theorem row_trueL {C : Checked} {os : Os} {f : FuncId} {fn : Func} {s : ChangeSpec} {ts : List TypeId} {tb : TypeId} {H : Type} {enc : TypeId × Value → H} {laid : List (String × DataW Unit)}
    (own : ownKnob C.prog.godebug = none) (started : os.Started) (noInit : C.prog.inits.idxOf? f = none) (hfn : C.prog.funcs[f]? = some fn)
    (witness : ∃ (w : World) (tape : Tape) (i : Input), w.os = os ∧ (w.forCall tape i).Shaped C.prog ∧ i.vars = [] ∧ Input.okWide C.prog (w.forCall tape i) .any w.heap.size f i ∧
      ((s.pre enc C.prog fn [] false (w.forCall tape i).memory i.args ∧ laidMetH C.prog laid (w.forCall tape i).memory) ∧ sizedMet enc C.prog fn (OpenSpec.ofChange s) false (w.forCall tape i).memory i.args) ∧ ({} : Assume).holds C.prog (lone (Frame.enter C.prog f i.args .normal) [] (w.forCall tape i)))
    (hts : fn.params = ts.toArray) (hres : fn.resultTypes = #[tb]) (hb : C.prog.underlying tb = some .bool) (hvars : s.vars = [])
    (hs : ∀ ds : List (DataW H), ds.length = ts.length → s.fn H (ds ++ []) = { results := [.lit (.bool true)], args := ds })
    (hl : laidOutB C.prog = true) (hread : ts.all (fun t => C.prog.readableRec t && decide (t < C.prog.types.size)) = true)
    (walk : ∀ (W : World) (vs : List Value), Args C.prog W ts vs → laidMetH C.prog laid W → Calls C.prog f vs.toArray W fun e W' => e = .returned (.bool true) ∧ Below W.heap.size W W') :
    ReturnsInHanded {} C os f .any (fun w args => (s.pre enc C.prog fn [] false w args ∧ laidMetH C.prog laid w) ∧ sizedMet enc C.prog fn (OpenSpec.ofChange s) false w args) (s.post enc C.prog fn false true false false) := by
  refine returnsInHanded_of_change_and (C := C) (X := fun w _ => laidMetH C.prog laid w) (fun _ _ _ hh h => h.of_heap hh) own started noInit hfn witness ?_
  intro W base args ds gs before hval hW hcnd hsz hX _
  have hW' := hW
  obtain ⟨p, q, hA, hV, rfl, hfz, hnd⟩ := hW
  obtain ⟨rfl, rfl⟩ : gs = [] ∧ q = [] := by
    rw [hvars] at hV
    cases gs with
    | nil => exact ⟨rfl, hV⟩
    | cons g gs => exact absurd hV (by simp [DataW.TrodVars])
  have hA' : DataW.TrodAll enc C.prog W 0 (fun _ => true) true ts args.toList ds p := by
    rw [hts] at hA
    exact hA
  have hsz' : ∀ m ∈ DataW.weightsEach C.prog ts ds, m ≤ reachBytes := by
    have e : fn.params.toList ++ s.plain.varTypes C.prog = ts := by simp [hts, DataSpec.varTypes, ChangeSpec.plain, hvars]
    rw [e, List.append_nil] at hsz
    intro m hm
    have := List.all_eq_true.1 hsz m hm
    simpa using this
  have hval' : ∀ (j : Nat) t v, ts[j]? = some t → args.toList[j]? = some v → Value.okWide C.prog W .any base t v := fun j t v h1 h2 => hval j t v (by rw [hts]; simpa using h1) (by simpa using h2)
  have hw := walk W args.toList (args_of hA' hval' hsz') hX
  rw [Array.toArray_toList] at hw
  refine hw.mono fun e W' hh => ?_
  obtain ⟨rfl, bel⟩ := hh
  have hspec := hs ds (trodAll_len hA')
  refine ⟨_, rfl, ds, [], p ++ [], [], p, [], hW', ?_, ?_, ?_, ?_, fun h => by cases h⟩
  · rw [hspec, hres]
    exact trodAll_mk1 (shut_bool hb _)
  · rw [hspec, hts]
    exact trodAll_below hl bel hread hA'
  · rw [hspec, hvars]
    rfl
  exact bel.frame _
end Go.Ink
