/- A literal's bytes are marked (a conversion of a slice to its own type). Nothing of the program. -/
import Derived.Test.YthcpmpmbgbibfaaGreatDoorInkQ
import Derived.Test.YthcpmpmbgbibfaaGreatDoorInkC
import Derived.ChangeKeysEq
set_option linter.unusedSimpArgs false
set_option linter.unusedVariables false
namespace Go.Ink
open Go.RowKit
/-- Arrays that are equal, item for item. -/
def EqI (P : Program) (k e c : Nat) (xs ys : Array Value) (is : List Nat) : Prop := ∀ w : World, (Op.eqItems k e c xs ys is).run P w = .ok true w
theorem EqI.nil {P : Program} {k e c : Nat} {xs ys : Array Value} : EqI P k e c xs ys [] := fun w => rfl
theorem EqI.cons {P : Program} {k e c i : Nat} {xs ys : Array Value} {is : List Nat} {a b : Value} (ha : ∀ w, (part e xs (i * c)).run P w = .ok a w) (hb : ∀ w, (part e ys (i * c)).run P w = .ok b w) (he : EqV P k e a b) (h : EqI P k e c xs ys is) : EqI P k e c xs ys (i :: is) := fun w => by
  simp only [Op.eqItems, Sem.run_bind, ha w, hb w, Result.andThen_ok, he w, Bool.not_true, Bool.false_eq_true, if_false]
  exact h w
theorem EqV.arr {P : Program} {k n e : Nat} {T : TypeId} {i : TypeInfo} {xs ys : Array Value} {is : List Nat} (h : P.underlying T = some (.array n e)) (hi : P.info? e = some i) (hr : List.range n = is) (hf : EqI P k e (P.cellsOf e) xs ys is) : EqV P (k + 1) T (.agg xs) (.agg ys) := fun w => by
  rw [run_equalIn_array w k xs ys h hi, hr]
  exact hf w
section
variable {C : Cx} {fr : Fr} {cs : List Chunk}
theorem t_mark {d : Option Nat} {ty : TypeId} {pos : String} {af : Array Edge} {gd : Option (Nat × Bool)} {x : Operand} {T bb e n c : Nat} {xs : List Value} {mk : Chunk → List Chunk} (hx : ev fr x = some (.slice (some ⟨bb, 0, none⟩) n c)) (hu : At cs (slv e 1 (some ⟨bb, 0, none⟩) n c xs) mk) (ht : C.P.underlying T = some (.slice e)) (he : C.P.underlying e = some (.int .u8)) :
    OpT C ⟨d, .convert T T x, ty, pos, af, gd⟩ fr cs true (fun v cs' => v = .slice (some ⟨bb, 0, none⟩) n c ∧ cs' = mk (rdC (some ⟨bb, 0, none⟩) n c xs)) := fun a w hf hi next Q h => by
  have hown : w.ownsRow 0 e 1 (.slice (some ⟨bb, 0, none⟩) n c) n xs := hi.get hu.has
  have hrd : RdV w 1 (some ⟨bb, 0, none⟩) n c xs := hi.rd hu.has
  obtain ⟨hl0, h2⟩ := hown
  rcases h2 with ⟨hv, _⟩ | ⟨g', cap, cur, hv, hg0, hh, hnc, hcm, hcs, htk⟩
  · cases hv
  simp only [Value.slice.injEq, Option.some.injEq, Addr.mk.injEq, and_true, true_and] at hv
  obtain ⟨rfl, rfl⟩ := hv
  have hsh : w.shape? bb = some (e, cur.size) := by
    unfold World.shape?
    rw [hh]
  have hcell : ∀ ad, (w.freeze ⟨bb, cur.size, none⟩ 1).cell? ad = w.cell? ad := fun ad => by
    unfold World.cell? World.freeze
    rw [if_neg (by decide)]
    simp only [Array.getElem?_modify]
    by_cases hb : bb = ad.block
    · rw [if_pos hb]
      subst hb
      rw [hh]
      rfl
    rw [if_neg hb]
  have hk : Keep [bb] w (w.freeze ⟨bb, cur.size, none⟩ 1) := ⟨rfl, rfl, rfl, by simp [World.freeze], fun j _ hj => by
    simp only [World.freeze, if_neg (show ¬ (1 = 0) by decide), Array.getElem?_modify]
    rw [if_neg (by simp at hj; omega)]⟩
  have hr' : (execOp a.eval ⟨d, .convert T T x, ty, pos, af, gd⟩).run C.P w = .ok (.value (.slice (some ⟨bb, 0, none⟩) n c)) (w.freeze ⟨bb, cur.size, none⟩ 1) := by
    simp [execOp, hf.ev hx, convert, run_underlying ht, run_underlying he, markStringish, hsh]
  unfold Oper.wp
  rw [hr']
  refine h _ _ _ ⟨rfl, rfl⟩ (hi.upd (hu _) (by simpa [Chunk.bs, ab] using hk) ⟨by simpa [Chunk.bs, ab] using hk, ?_, ?_, ?_⟩) (fun e => by cases e)
  · cases xs <;> simp [blocks, rdC, Chunk.bs, rdB, ab]
  · intro c hc
    rw [List.mem_singleton] at hc
    subst hc
    exact (⟨hrd.len, hrd.cap, hrd.max, hrd.nil, fun ad e j u hu => by rw [hcell]; exact hrd.at_ ad e j u hu⟩ : RdV _ 1 (some ⟨bb, 0, none⟩) n c xs)
  intro b hb
  left
  cases xs with
  | nil => simp [blocks, rdC, Chunk.bs, rdB] at hb
  | cons x xs => simpa [blocks, rdC, Chunk.bs, rdB, ab] using hb
theorem y_neg {fr : Fr} {g : Bool} {x : Operand} {k : IntKind} {a r : Int} {d : Option Tmp} {T ty : TypeId} {pos : String} {af : Array Edge} {gd : Option (Nat × Bool)} (hx : Ev fr g x (.int k a)) (hr : k.wrap (0 - a) = r) : OpY C ⟨d, .unOp .neg T x, ty, pos, af, gd⟩ fr g Any (.int k r) := fun A w hf _ hg => by
  subst hr
  unfold execOp
  simp only [hx.eval hf hg]
  rfl
theorem retC2 {fn : Func} {K : Value → List Chunk → Prop} {fr : Fr} {cs cs' : List Chunk} {e : Exit} {t T bb tt u s : Nat} {v v' : Value} {xs : List Value} (he : e = .ret ∨ e = .normal) (hs : cs'.Sublist cs) (h0 : fn.results = #[.cell t T, .tmp u, .tmp s]) (h1 : look fr t = some (.pointer (some ⟨bb, 0, none⟩))) (h2 : look fr u = some v) (h3 : look fr s = some v') (hc : Has cs (row bb xs tt))
    (hT : ∀ w, (isAgg T).run C.P w = .ok true w) (hz : ∀ w, (sizeOf T).run C.P w = .ok xs.length w) (hk : K (.tuple #[.agg xs.toArray, v, v']) cs') : QOk C (bodyPost C.P fn (RetK C.w0 C.S K)) e fr cs :=
  ret_of he hs (fun a w hf hi => by
    have e1 := hf.at_ t _ h1
    have e2 := hf.at_ u _ h2
    have e3 := hf.at_ s _ h3
    simp only [Array.getD_eq_getD_getElem?] at e1 e2 e3
    simp [results, h0, e1, e2, e3, asAddr, loadVar_row hT hz hi hc]) hk
end
theorem Inv.past {S : List Nat} {cs cin : List Chunk} {w0 w w' : World} (h : Inv w0 S cs w) (hT : ∀ c, c ∈ cin → c ∈ cs) (hk : Keep (blocks cin) w w') : Keep S w0 w' :=
  ⟨hk.os.trans h.keep.os, hk.tape.trans h.keep.tape, hk.output.trans h.keep.output, Nat.le_trans h.keep.size hk.size, fun b hb hS => by
    refine (hk.block b (Nat.lt_of_lt_of_le hb h.keep.size) fun hb2 => ?_).trans (h.keep.block b hb hS)
    obtain ⟨c, hc, hbc⟩ := mem_blocks.1 hb2
    rcases h.own b (mem_blocks.2 ⟨c, hT c hc, hbc⟩) with h1 | h1
    · exact hS h1
    omega⟩
end Go.Ink
