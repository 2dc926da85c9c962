/- A literal's bytes are marked (a conversion of a slice to its own type). Nothing of the program. -/
import Derived.Test.YthcpmpmbgbibfaaGreatDoorInkQ
import Derived.Test.YthcpmpmbgbibfaaGreatDoorInkC
import Derived.ChangeKeysEq
set_option linter.unusedSimpArgs false
set_option linter.unusedVariables false
namespace Go.Ink
open Go.RowKit
/-- Arrays that are equal, item for item. -/
def EqI (P : Program) (k e c : Nat) (xs ys : Array Value) (is : List Nat) : Prop := ∀ w : World, (Op.eqItems k e c xs ys is).run P w = .ok true w
theorem EqI.nil {P : Program} {k e c : Nat} {xs ys : Array Value} : EqI P k e c xs ys [] := fun w => rfl
theorem EqI.cons {P : Program} {k e c i : Nat} {xs ys : Array Value} {is : List Nat} {a b : Value} (ha : ∀ w, (part e xs (i * c)).run P w = .ok a w) (hb : ∀ w, (part e ys (i * c)).run P w = .ok b w) (he : EqV P k e a b) (h : EqI P k e c xs ys is) : EqI P k e c xs ys (i :: is) := fun w => by
  simp only [Op.eqItems, Sem.run_bind, ha w, hb w, Result.andThen_ok, he w, Bool.not_true, Bool.false_eq_true, if_false]
  exact h w
section
variable {C : Cx} {fr : Fr} {cs : List Chunk}
theorem y_neg {fr : Fr} {g : Bool} {x : Operand} {k : IntKind} {a r : Int} {d : Option Tmp} {T ty : TypeId} {pos : String} {af : Array Edge} {gd : Option (Nat × Bool)} (hx : Ev fr g x (.int k a)) (hr : k.wrap (0 - a) = r) : OpY C ⟨d, .unOp .neg T x, ty, pos, af, gd⟩ fr g Any (.int k r) := fun A w hf _ hg => by
  subst hr
  unfold execOp
  simp only [hx.eval hf hg]
  rfl
theorem retC2 {fn : Func} {K : Value → List Chunk → Prop} {fr : Fr} {cs cs' : List Chunk} {e : Exit} {t T bb tt u s : Nat} {v v' : Value} {xs : List Value} (he : e = .ret ∨ e = .normal) (hs : cs'.Sublist cs) (h0 : fn.results = #[.cell t T, .tmp u, .tmp s]) (h1 : look fr t = some (.pointer (some ⟨bb, 0, none⟩))) (h2 : look fr u = some v) (h3 : look fr s = some v') (hc : Has cs (row bb xs tt))
    (hT : ∀ w, (isAgg T).run C.P w = .ok true w) (hz : ∀ w, (sizeOf T).run C.P w = .ok xs.length w) (hk : K (.tuple #[.agg xs.toArray, v, v']) cs') : QOk C (bodyPost C.P fn (RetK C.w0 C.S K)) e fr cs :=
  ret_of he hs (fun a w hf hi => by
    have e1 := hf.at_ t _ h1
    have e2 := hf.at_ u _ h2
    have e3 := hf.at_ s _ h3
    simp only [Array.getD_eq_getD_getElem?] at e1 e2 e3
    simp [results, h0, e1, e2, e3, asAddr, loadVar_row hT hz hi hc]) hk
end
theorem Inv.past {S : List Nat} {cs cin : List Chunk} {w0 w w' : World} (h : Inv w0 S cs w) (hT : ∀ c, c ∈ cin → c ∈ cs) (hk : Keep (blocks cin) w w') : Keep S w0 w' :=
  ⟨hk.os.trans h.keep.os, hk.tape.trans h.keep.tape, hk.output.trans h.keep.output, Nat.le_trans h.keep.size hk.size, fun b hb hS => by
    refine (hk.block b (Nat.lt_of_lt_of_le hb h.keep.size) fun hb2 => ?_).trans (h.keep.block b hb hS)
    obtain ⟨c, hc, hbc⟩ := mem_blocks.1 hb2
    rcases h.own b (mem_blocks.2 ⟨c, hT c hc, hbc⟩) with h1 | h1
    · exact hS h1
    omega⟩
end Go.Ink
