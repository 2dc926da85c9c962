/- Short names for what the walks say again and again. Nothing of the program. -/
import Derived.Test.YtobjiljkfmcalaaGreatInkJ
set_option linter.unusedVariables false
namespace Go.Ink
open Go.RowKit
section
variable {C : Cx} {Q : Post} {fr : Fr} {cs : List Chunk} {ops : Array Oper} {rest : List Oper} {d : Nat} {op : Op} {ty T : TypeId} {pos : String} {af : Array Edge} {v : Value} {g b : Bool} {x y : Code} {id : Nat} {K : Act → World → Prop} {o : Operand}
theorem Zu {a b : List Chunk} (h : a.Sublist b := by (repeat (first | exact List.Sublist.slnil | refine List.Sublist.cons_cons _ ?_ | refine List.Sublist.cons _ ?_))) : a.Sublist b := h
theorem Zh {c : Chunk} (h : Has cs c := by repeat (first | exact Has.head _ _ | apply Has.tail)) : Has cs c := h
theorem Zk {α : Type} {a b : α} (h : a = b := by kernel_rfl) : a = b := h
theorem Zf {a b : Nat} (h : a = b := by first | exact Nat.zero_add _ | exact rfl) : a = b := h
theorem Za {c : Chunk} {mk : Chunk → List Chunk} (h : At cs c mk := by repeat (first | exact aH | apply aT)) : At cs c mk := h
theorem Zp {a c : List Value} {n : Nat} {e : Value} (h : SetAt a n e c := by (repeat (first | exact SetAt.zero _ _ _ | apply SetAt.succ))) : SetAt a n e c := h
theorem Zb {a c : List Value} {l : List (Nat × Value)} (h : BuildTo a l c := by (repeat (first | exact BuildTo.nil _ | (apply BuildTo.cons; (repeat (first | exact SetAt.zero _ _ _ | apply SetAt.succ)))))) : BuildTo a l c := h
theorem Zd {c : Chunk} {a : List Chunk} (h : Del cs c a := by repeat (first | exact Del.head _ _ | apply Del.tail)) : Del cs c a := h
theorem Zj {a c : List Chunk} (h : Pick a c := by repeat (first | exact Pick.nil _ | (refine Pick.cons (by repeat (first | exact Del.head _ _ | apply Del.tail)) ?_))) : Pick a c := h
theorem Zi {a c e : List Chunk} (h : Split a c e := by repeat (first | exact Split.nil _ | (apply Split.cons; (repeat (first | exact Del.head _ _ | apply Del.tail))))) : Split a c e := h
theorem Zl {a b : Int} (h : a = b := by first | exact IntWalk.i64_in _ ⟨by omega, by omega⟩ | exact rfl) : a = b := h
theorem Zs (h : WC C x (Exit.then (y.wp C.P Q) Q) fr cs) : WC C (.seq x y) Q fr cs := wc_seq h
theorem Zr {l : List Oper} (h : WL C l.toArray Q l fr cs) : WC C (.region id l.toArray false) Q fr cs := wc_region h
theorem Zt (h : WC C y Q fr cs) : QOk C (Exit.then (y.wp C.P Q) Q) .normal fr cs := h
theorem Zn (h : QOk C Q .normal fr cs) : WL C ops Q [] fr cs := h
theorem Zc (h : QOk C Q .normal fr cs) : WC C .skip Q fr cs := wc_skip h
theorem Ze (h : QOk C Q .ret fr cs) : WC C .ret Q fr cs := wc_ret h
theorem Zw (h : QOk C Q .ret fr cs) : QOk C (Exit.then K Q) .ret fr cs := h
theorem Zo (h : QOk C Q .normal fr cs) : QOk C (Exit.inBlock id Q) .normal fr cs := h
theorem Zq (h : QOk C Q .ret fr cs) : QOk C (Exit.inBlock id Q) .ret fr cs := h
theorem Zx (h : WC C x (Exit.inBlock id Q) fr cs) : WC C (.block id x) Q fr cs := wc_block h
theorem Zv {x : Operand} {u : Value} (h : ev fr x = some u) : Ev fr g x u := ev_rfl h
theorem Zm (hx : ev fr o = some v) (h : WL C ops Q rest ((d, v) :: fr) cs) (hd : Nat.blt d C.N = true := by exact rfl) : WL C ops Q (⟨some d, .move o, ty, pos, af, none⟩ :: rest) fr cs := wl_y (y_move (ev_rfl hx)) (fun _ _ => trivial) hd h
theorem Zg (hx : ev fr o = some v) (h : WL C ops Q rest ((d, v) :: fr) cs) (hd : Nat.blt d C.N = true := by exact rfl) : WL C ops Q (⟨some d, .assign o, ty, pos, af, none⟩ :: rest) fr cs := wl_y (y_assign (ev_rfl hx)) (fun _ _ => trivial) hd h
theorem Zy (hy : OpY C ⟨some d, op, ty, pos, af, none⟩ fr true Any v) (h : WL C ops Q rest ((d, v) :: fr) cs) (hd : Nat.blt d C.N = true := by exact rfl) : WL C ops Q (⟨some d, op, ty, pos, af, none⟩ :: rest) fr cs := wl_y hy (fun _ _ => trivial) hd h
theorem Zyy {j e : Nat} (h1 : (ops[j]?).bind (·.dst) = some e) (h2 : look fr e = some (.bool b)) (hy : OpY C ⟨some d, op, ty, pos, af, some (j, true)⟩ fr b Any v) (h : WL C ops Q rest ((d, bif b then v else undef) :: fr) cs) (hd : Nat.blt d C.N = true := by exact rfl) :
    WL C ops Q (⟨some d, op, ty, pos, af, some (j, true)⟩ :: rest) fr cs := wl_yg (guard_yes h1 h2) hy (fun _ _ => trivial) hd h
theorem Zyn {j e : Nat} (h1 : (ops[j]?).bind (·.dst) = some e) (h2 : look fr e = some (.bool b)) (hy : OpY C ⟨some d, op, ty, pos, af, some (j, false)⟩ fr (!b) Any v) (h : WL C ops Q rest ((d, bif !b then v else undef) :: fr) cs) (hd : Nat.blt d C.N = true := by exact rfl) :
    WL C ops Q (⟨some d, op, ty, pos, af, some (j, false)⟩ :: rest) fr cs := wl_yg (guard_no h1 h2) hy (fun _ _ => trivial) hd h
theorem Zz {bb r t : Nat} {xs : List Value} (hx : ev fr o = some (.pointer (some ⟨bb, r, none⟩))) (h : WL C ops Q rest ((d, v) :: fr) cs) (hc : Has cs (row bb xs t) := by repeat (first | exact Has.head _ _ | apply Has.tail)) (hv : xs[r]? = some v := by exact rfl)
    (hT : ∀ w, (isAgg T).run C.P w = .ok false w := by exact fun _ => rfl) (hd : Nat.blt d C.N = true := by exact rfl) : WL C ops Q (⟨some d, .load T o, ty, pos, af, none⟩ :: rest) fr cs := wl_y (y_load hT (ev_rfl hx)) (row_cell hc hv) hd h
end
end Go.Ink
