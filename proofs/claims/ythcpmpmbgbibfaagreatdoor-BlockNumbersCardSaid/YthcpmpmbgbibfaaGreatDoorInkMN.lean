/- Joined: InkM InkN. -/
import Derived.Test.YthcpmpmbgbibfaaGreatDoorInkA
import Derived.Test.YthcpmpmbgbibfaaGreatDoorInkQ
import Derived.Test.YthcpmpmbgbibfaaGreatDoorInkB
/- The lesser of two numbers; several chunks as one. Nothing of the program. -/
set_option linter.unusedSimpArgs false
set_option linter.unusedVariables false
namespace Go.Ink
open Go.RowKit
section
variable {C : Cx} {fr : Fr} {d : Option Tmp} {ty : TypeId} {pos : String} {af : Array Edge} {gd : Option (Nat × Bool)} {g : Bool} {x y : Operand} {T T' : TypeId}
theorem y_min {k : IntKind} {a b : Int} (hx : Ev fr g x (.int k a)) (hy : Ev fr g y (.int k b)) {r : Int} (hr : (if b < a then b else a) = r) : OpY C ⟨d, .call { callee := .builtin .min, args := #[x, y], argTypes := #[T, T'] }, ty, pos, af, gd⟩ fr g Any (.int k r) := fun A w hf _ hg => by
  subst hr
  simp [execOp, resolve, invoke, builtin, hx.eval hf hg, hy.eval hf hg, Builtin.min_, Builtin.min2]
end
/-- Several chunks as one. -/
abbrev joinC (cin : List Chunk) : Chunk := exC (α := Unit) (blocks cin) (fun _ => cin) (fun _ => rfl) (fun _ => True)
theorem joinC_ok {cin : List Chunk} {w : World} (h : (joinC cin).ok w) : ∀ c, c ∈ cin → c.ok w := by
  obtain ⟨_, _, _, h3⟩ := h
  exact h3
theorem Inv.okKs {w0 w w' : World} {S : List Nat} {cs cin rest : List Chunk} {c : Chunk} (h : Inv w0 S cs w) (hp : Split cin cs rest) (h2 : Has rest c) (hk : Keep (blocks cin) w w') : c.ok w' := by
  have hc := h.ok _ (hp.perm.symm.subset (List.mem_append_right _ h2.mem))
  refine c.loc w w' (fun b hb => hk.block b (c.lt w hc b hb) fun hin => ?_) hc
  have hn := ((hp.perm.flatMap_right Chunk.bs).nodup_iff).1 h.nodup
  rw [List.flatMap_append] at hn
  exact (List.nodup_append.1 hn).2.2 b hin b (mem_blocks.2 ⟨_, h2.mem, hb⟩) rfl
section
variable {C : Cx} {Q : Post} {fr : Fr} {cs r : List Chunk} {ops : Array Oper} {l : List Oper} {x : Code}
theorem wl_join (cin : List Chunk) (hs : Split cin cs r) (h : WL C ops Q l fr (joinC cin :: r)) : WL C ops Q l fr cs := wl_close () trivial hs h
end
end Go.Ink
/- Calls of function values; cells of a slice of the call's own whose elements are rows. Nothing of the program. -/
set_option linter.unusedSimpArgs false
set_option linter.unusedVariables false
namespace Go.Ink
open Go.RowKit
section
variable {C : Cx} {fr : Fr} {cs : List Chunk} {d : Option Tmp} {ty : TypeId} {pos : String} {af : Array Edge} {gd : Option (Nat × Bool)} {x : Operand}
theorem run_callV {f : FuncId} {l : List Operand} {vs fs caps : List Value} {ats : Array TypeId} {a : Act} {w : World} (hf : FrOk C.N fr a) (hx : ev fr x = some (.func (.func f) fs.toArray caps.toArray)) (hl : evs fr l = some vs) (hc : ∀ args w, (callFunc f args).run C.P w = .ok (.enter f args) w) :
    (execOp a.eval ⟨d, .call { callee := .value x, args := l.toArray, argTypes := ats }, ty, pos, af, gd⟩).run C.P w = .ok (.enter f (fs ++ vs ++ caps).toArray) w := by
  have h1 := hf.ev hx
  simp [execOp, resolve, invoke, Deferred.ofValue, h1, ← evs_ok hf hl, hc]
/-- A call of a function value. -/
theorem t_callV {f : FuncId} {l : List Operand} {vs fs caps : List Value} {ats : Array TypeId} {K : Value → List Chunk → Prop} (hx : ev fr x = some (.func (.func f) fs.toArray caps.toArray)) (hl : evs fr l = some vs) (hc : ∀ args w, (callFunc f args).run C.P w = .ok (.enter f args) w)
    (h : ∀ w, Inv C.w0 C.S cs w → Ctr C.P f (fs ++ vs ++ caps) w [] K) :
    OpT C ⟨d, .call { callee := .value x, args := l.toArray, argTypes := ats }, ty, pos, af, gd⟩ fr cs false (fun v cs' => ∃ news, K v news ∧ cs' = cs ++ news) := fun a w hf hinv next Q hn => by
  unfold Oper.wp
  rw [run_callV hf hx hl hc]
  refine Calls.mono (h w hinv) fun e w' hp => ?_
  obtain ⟨v, cout, rfl, hk, hi⟩ := hp
  exact hn _ _ _ ⟨cout, hk, rfl⟩ (hinv.more hi) (fun _ => Pres.of_keep hi.keep)
end
theorem slR_cells {w0 : World} {S : List Nat} {cs : List Chunk} {e sz n c b : Nat} {ad : Addr} {xs vs : List Value} (hc : Has cs (slv e sz (some ad) n c xs)) (hv : ∀ j v, vs[j]? = some v → xs[b + j]? = some v) : ∀ w, Inv w0 S cs w → cells (cellsFrom (ad.add b) 0 vs) w := fun w hi =>
  cellsFrom_of fun j v hj => by
    rw [Nat.add_zero]
    exact (slv_rd (hi.get hc)).at_ ad rfl (b + j) v (hv j v hj)
end Go.Ink
