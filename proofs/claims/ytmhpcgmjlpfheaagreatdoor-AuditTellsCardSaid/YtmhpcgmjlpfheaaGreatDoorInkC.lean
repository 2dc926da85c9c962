/- Structs and arrays that are held against each other. Nothing of the program. -/
import Derived.Test.YtmhpcgmjlpfheaaGreatDoorInkA
import Derived.Laws.StructEq
set_option linter.unusedSimpArgs false
set_option linter.unusedVariables false
namespace Go.Ink
open Go.RowKit
theorem rd_any {w : World} {sz n c : Nat} {A : Option Addr} {xs : List Value} (h : RdV w sz A n c xs) : ∃ w, RdV w sz A n c xs := ⟨w, h⟩
/-- Values that are equal, in any world. -/
def EqV (P : Program) (k : Nat) (T : TypeId) (a b : Value) : Prop := ∀ w : World, (Op.equalIn k T a b).run P w = .ok true w
def EqF (P : Program) (k : Nat) (xs ys : Array Value) (fs : List Field) : Prop := ∀ w : World, (Op.eqFields k xs ys fs).run P w = .ok true w
section
variable {P : Program} {k : Nat} {T : TypeId}
theorem EqF.nil {xs ys : Array Value} : EqF P k xs ys [] := fun w => rfl
theorem EqF.cons {xs ys : Array Value} {f : Field} {fs : List Field} {a b : Value} (hn : f.name ≠ "_") (ha : ∀ w, (part f.type xs f.offset).run P w = .ok a w) (hb : ∀ w, (part f.type ys f.offset).run P w = .ok b w) (he : EqV P k f.type a b) (h : EqF P k xs ys fs) : EqF P k xs ys (f :: fs) := fun w => by
  simp only [Op.eqFields, if_pos hn, Sem.run_bind, ha w, hb w, Result.andThen_ok, he w, Bool.not_true, Bool.false_eq_true, if_false]
  exact h w
theorem EqV.int {kd kd' : IntKind} {a : Int} (h : P.underlying T = some (.int kd')) : EqV P (k + 1) T (.int kd a) (.int kd a) := fun w => by
  rw [run_equalIn_int w k T kd kd' a a h, beq_self_eq_true]
theorem EqV.bool {a : Bool} (h : P.underlying T = some .bool) : EqV P (k + 1) T (.bool a) (.bool a) := fun w => by
  rw [run_equalIn_bool' w k T a a h, beq_self_eq_true]
theorem EqV.struct {xs ys : Array Value} (h : P.underlying T = some (.struct (P.fieldsOf T))) (hp : P.stoodInHeld T = false) (hf : EqF P k xs ys (P.fieldsOf T).toList) : EqV P (k + 1) T (.agg xs) (.agg ys) := fun w => by
  rw [run_equalIn_struct w k T xs ys h hp]
  exact hf w
end
section
variable {C : Cx} {fr : Fr} {d : Option Nat} {T T' : TypeId} {x y : Operand} {ty : TypeId} {pos : String} {af : Array Edge} {gd : Option (Nat × Bool)} {g : Bool}
theorem y_neqT {xs ys : Array Value} (hm : C.P.eqGuardType C.P.depth T = false) (he : EqV C.P 10000 T (.agg xs) (.agg ys)) (hx : Ev fr g x (.agg xs)) (hy : Ev fr g y (.agg ys)) : OpY C ⟨d, .binOp .neq T x y T', ty, pos, af, gd⟩ fr g Any (.bool false) := fun A w hf _ hg => by
  simp [execOp, hx.eval hf hg, hy.eval hf hg, run_eqGuard_agg w _ _ _ _ _ _ hm, run_neq_struct, he w, Result.andThen]
theorem y_eqlT {xs ys : Array Value} (hm : C.P.eqGuardType C.P.depth T = false) (he : EqV C.P 10000 T (.agg xs) (.agg ys)) (hx : Ev fr g x (.agg xs)) (hy : Ev fr g y (.agg ys)) : OpY C ⟨d, .binOp .eql T x y T', ty, pos, af, gd⟩ fr g Any (.bool true) := fun A w hf _ hg => by
  simp [execOp, hx.eval hf hg, hy.eval hf hg, run_eqGuard_agg w _ _ _ _ _ _ hm, run_eql_struct, he w, Result.andThen]
end
end Go.Ink
