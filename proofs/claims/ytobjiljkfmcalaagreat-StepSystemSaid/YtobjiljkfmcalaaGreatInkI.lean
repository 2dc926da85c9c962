/- More: append onto a part of a slice of the call's own, clear, slices with a bound. Nothing of the program. -/
import Derived.Test.YtobjiljkfmcalaaGreatInkH
set_option linter.unusedSimpArgs false
set_option linter.unusedVariables false
namespace Go.Ink
open Go.RowKit
section
variable {C : Cx} {fr : Fr} {cs : List Chunk} {d : Option Tmp} {ty : TypeId} {pos : String} {af : Array Edge} {gd : Option (Nat × Bool)} {v : Value} {x y : Operand} {T T' : TypeId} {mk : Chunk → List Chunk} {g : Bool}
theorem t_appendP {e bytes i n c n2 c2 : Nat} {A A2 : Option Addr} {xs ys : List Value} (hx : ev fr x = some (.slice A i c)) (hin : i ≤ n) (hy : ev fr y = some (.slice A2 n2 c2)) (hu : At cs (slv e 1 A n c xs) mk)
    (ht : C.P.underlying T = some (.slice e)) (hel : elemOk C.P e 1 bytes = true)
    (hr : ∀ w, Inv C.w0 C.S cs w → RdV w 1 A2 n2 c2 ys) (h1 : ∀ u ∈ ys, u.oneCell' = true) (h63 : i + n2 ≤ maxLen) (hbytes : (i + n2) * bytes ≤ 140737488355328) :
    OpT C ⟨d, .call { callee := .builtin .append, args := #[x, y], argTypes := #[T, T] }, ty, pos, af, gd⟩ fr cs true (fun v cs' => ∃ A' c', v = .slice A' (i + n2) c' ∧ cs' = mk (slv e 1 A' (i + n2) c' (xs.take i ++ ys))) := fun a w hf hinv next Q h => by
  obtain ⟨inf, z, hi, hz, hsize, hzs, rfl, hsz⟩ := elemOk_spec hel
  have hown : w.ownsRow 0 e 1 (.slice A i c) i (xs.take i) := slv_take (hinv.get hu.has) hin
  obtain ⟨A', c', w', hrun, h2, h3, h4⟩ := run_append_rd (P := C.P) w T ty e inf z 1 ht hi hz hsize hzs hsz A i c (xs.take i) hown A2 n2 c2 ys (hr w hinv) h1 h63 hbytes
  have hr' : (execOp a.eval ⟨d, .call { callee := .builtin .append, args := #[x, y], argTypes := #[T, T] }, ty, pos, af, gd⟩).run C.P w = .ok (.value (.slice A' (i + n2) c')) w' := by
    simp [execOp, resolve, invoke, builtin, hf.ev hx, hf.ev hy, hrun]
  unfold Oper.wp
  rw [hr']
  have hk := Keep.of_grown h3
  refine h _ _ _ ⟨A', c', rfl, rfl⟩ (hinv.upd (hu _) hk (inv_own hk h2 fun a ha => ?_)) (fun e => by cases e)
  subst ha
  rcases h4 with h4 | h4
  · cases A with
    | none => simp at h4
    | some a0 => simp at h4; left; simp [h4, Chunk.bs, ab]
  simp at h4; right; omega
/-- append where there is room. -/
theorem t_appendR {e bytes i n c n2 c2 bb : Nat} {ad : Addr} {xs ys : List Value} (hx : ev fr x = some (.slice (some ⟨bb, 0, none⟩) i c)) (hin : i ≤ n) (hy : ev fr y = some (.slice (some ad) n2 c2)) (hu : At cs (slv e 1 (some ⟨bb, 0, none⟩) n c xs) mk)
    (ht : C.P.underlying T = some (.slice e)) (hel : elemOk C.P e 1 bytes = true) (hr : ∀ w, Inv C.w0 C.S cs w → RdV w 1 (some ad) n2 c2 ys) (h1 : ∀ u ∈ ys, u.oneCell' = true) (hroom : i + n2 ≤ c) :
    OpT C ⟨d, .call { callee := .builtin .append, args := #[x, y], argTypes := #[T, T] }, ty, pos, af, gd⟩ fr cs true (fun v cs' => v = .slice (some ⟨bb, 0, none⟩) (i + n2) c ∧ cs' = mk (slv e 1 (some ⟨bb, 0, none⟩) (i + n2) c (xs.take i ++ ys))) := fun a w hf hi next Q h => by
  obtain ⟨inf, z, hi0, hz, hsize, hzs, rfl, hsz⟩ := elemOk_spec hel
  have hrd := hr w hi
  have hyl := hrd.len
  have hown : w.ownsRow 0 e 1 (.slice (some ⟨bb, 0, none⟩) n c) n xs := hi.get hu.has
  obtain ⟨hl0, h2⟩ := hown
  rcases h2 with ⟨hv, _⟩ | ⟨g', cap, cur, hv, hg0, hh, hnc, hcm, hcs, htk⟩
  · cases hv
  simp only [Value.slice.injEq, Option.some.injEq, Addr.mk.injEq, and_true, true_and] at hv
  obtain ⟨rfl, rfl⟩ := hv
  simp only [Nat.mul_one] at hcs htk hyl hl0
  have hrun := run_append_room (P := C.P) w T ty e inf ht hi0 bb i c cur hh ad n2 c2 ys (by rw [hsize, hyl, Nat.mul_one]) (hrd.at_ ad rfl) h1 hroom (by rw [hsize, hcs, hyl]; omega)
  rw [hsize, Nat.mul_one, hyl] at hrun
  have hcl : cur.toList.length = c := by simpa using hcs
  have hk : Keep [bb] w (w.setRow bb (cur.toList.take i ++ ys ++ cur.toList.drop (i + n2)).toArray) := ⟨rfl, rfl, rfl, by simp [World.setRow], fun j _ hj => by
    simp only [World.setRow, Array.getElem?_modify]
    rw [if_neg (by simp at hj; omega)]⟩
  have ho : (w.setRow bb (cur.toList.take i ++ ys ++ cur.toList.drop (i + n2)).toArray).ownsRow 0 e 1 (.slice (some ⟨bb, 0, none⟩) (i + n2) c) (i + n2) (xs.take i ++ ys) := by
    refine ⟨by simp only [List.length_append, List.length_take, hyl, hl0]; omega, .inr ⟨bb, c, (cur.toList.take i ++ ys ++ cur.toList.drop (i + n2)).toArray, rfl, hg0, by simp [World.setRow, Array.getElem?_modify, hh], hroom, hcm, ?_, ?_⟩⟩
    · simp only [List.size_toArray, List.length_append, List.length_take, List.length_drop, hcl, hyl, Nat.mul_one]; omega
    rw [Nat.mul_one]
    have e1 : (cur.toList.take i ++ ys).length = i + n2 := by simp only [List.length_append, List.length_take, hyl, hcl]; omega
    show (cur.toList.take i ++ ys ++ cur.toList.drop (i + n2)).take (i + n2) = xs.take i ++ ys
    rw [← e1, List.take_left, ← htk, List.take_take, Nat.min_eq_left hin]
  have hr' : (execOp a.eval ⟨d, .call { callee := .builtin .append, args := #[x, y], argTypes := #[T, T] }, ty, pos, af, gd⟩).run C.P w = .ok (.value (.slice (some ⟨bb, 0, none⟩) (i + n2) c)) (w.setRow bb (cur.toList.take i ++ ys ++ cur.toList.drop (i + n2)).toArray) := by
    simp [execOp, resolve, invoke, builtin, hf.ev hx, hf.ev hy, hrun]
  unfold Oper.wp
  rw [hr']
  refine h _ _ _ ⟨rfl, rfl⟩ (hi.upd (hu _) (by simpa [Chunk.bs, ab] using hk) (inv_own (by simpa [Chunk.bs, ab] using hk) ho fun a ha => ?_)) (fun e => by cases e)
  obtain rfl : (⟨bb, 0, none⟩ : Addr) = a := by simpa using ha
  left; simp [Chunk.bs, ab]
theorem zeroCells_one (z : Value) (k : Nat) : (Builtin.zeroCells #[z] k).toList = List.replicate k z := by
  apply List.ext_getElem
  · simp [Builtin.zeroCells]
  intro i h1 h2
  simp [Builtin.zeroCells, Nat.mod_one]
theorem t_clear {bb o k cc e n c : Nat} {xs : List Value} {z : Value} (hx : ev fr x = some (.slice (some ⟨bb, o, none⟩) k cc)) (hu : At cs (slv e 1 (some ⟨bb, 0, none⟩) n c xs) mk) (ht : C.P.underlying T = some (.slice e)) (hz : ∀ w, (zeroValue e).run C.P w = .ok z w) (hz1 : z.cells = #[z]) (hz2 : z.oneCell' = true) (hno : n ≤ o) (hoc : o + k ≤ c) :
    OpT C ⟨d, .call { callee := .builtin .clear, args := #[x], argTypes := #[T] }, ty, pos, af, gd⟩ fr cs true (fun v cs' => v = .tuple #[] ∧ cs' = mk (slv e 1 (some ⟨bb, 0, none⟩) n c xs)) := fun a w hf hi next Q h => by
  have hown : w.ownsRow 0 e 1 (.slice (some ⟨bb, 0, none⟩) n c) n xs := hi.get hu.has
  obtain ⟨hl0, h2⟩ := hown
  rcases h2 with ⟨hv, _⟩ | ⟨g', cap, cur, hv, hg0, hh, hnc, hcm, hcs, htk⟩
  · cases hv
  simp only [Value.slice.injEq, Option.some.injEq, Addr.mk.injEq, and_true, true_and] at hv
  obtain ⟨rfl, rfl⟩ := hv
  simp only [Nat.mul_one] at hcs htk
  have hst := run_storeCells_at C.P bb o e (List.replicate k z) 0 cur w hh (by rw [List.length_replicate, hcs]; omega) (fun u hu => by rw [List.eq_of_mem_replicate hu]; exact hz2)
  simp only [Nat.add_zero, List.length_replicate] at hst
  have hcl : cur.toList.length = c := by simpa using hcs
  have key : ∃ w', (Builtin.clear_ #[T] ty #[.slice (some ⟨bb, o, none⟩) k cc]).run C.P w = .ok (.tuple #[]) w' ∧ Keep [bb] w w' ∧ w'.ownsRow 0 e 1 (.slice (some ⟨bb, 0, none⟩) n c) n xs := by
    cases k with
    | zero =>
      refine ⟨w, by simp [Builtin.clear_, run_underlying ht], Keep.refl _ _, ⟨hl0, .inr ⟨bb, c, cur, rfl, hg0, hh, hnc, hcm, by simpa using hcs, by simpa using htk⟩⟩⟩
    | succ k =>
      refine ⟨w.setRow bb (cur.toList.take o ++ List.replicate (k + 1) z ++ cur.toList.drop (o + (k + 1))).toArray, ?_, ⟨rfl, rfl, rfl, by simp [World.setRow], fun j _ hj => ?_⟩, ⟨hl0, .inr ⟨bb, c, (cur.toList.take o ++ List.replicate (k + 1) z ++ cur.toList.drop (o + (k + 1))).toArray, rfl, hg0, ?_, hnc, hcm, ?_, ?_⟩⟩⟩
      · simp [Builtin.clear_, run_underlying ht, hz, hz1, zeroCells_one, hst]
      · simp only [World.setRow, Array.getElem?_modify]
        rw [if_neg (by simp at hj; omega)]
      · simp [World.setRow, Array.getElem?_modify, hh]
      · simp only [List.size_toArray, List.length_append, List.length_take, List.length_replicate, List.length_drop, hcl, Nat.mul_one]; omega
      rw [Nat.mul_one, ← htk]
      simp only [List.append_assoc]
      rw [List.take_append_of_le_length (by rw [List.length_take, hcl]; omega), List.take_take, Nat.min_eq_left hno]
  obtain ⟨w', hrun, hk, ho⟩ := key
  have hr' : (execOp a.eval ⟨d, .call { callee := .builtin .clear, args := #[x], argTypes := #[T] }, ty, pos, af, gd⟩).run C.P w = .ok (.value (.tuple #[])) w' := by
    simp [execOp, resolve, invoke, builtin, hf.ev hx, hrun]
  unfold Oper.wp
  rw [hr']
  refine h _ _ _ ⟨rfl, rfl⟩ (hi.upd (hu _) (by simpa [Chunk.bs, ab] using hk) (inv_own (by simpa [Chunk.bs, ab] using hk) ho fun a ha => ?_)) (fun e => by cases e)
  obtain rfl : (⟨bb, 0, none⟩ : Addr) = a := by simpa using ha
  left; simp [Chunk.bs, ab]
/-- A slice of a slice that has a place: it does not begin at the end of its room. -/
theorem y_sliceS {bb o n c lo hi r sz : Nat} {e : TypeId} {lo? hi? : Option Operand} (hT : C.P.underlying T = some (.slice e)) (hs : ∀ w, (sizeOf e).run C.P w = .ok sz w) (hx : Ev fr g x (.slice (some ⟨bb, o, none⟩) n c))
    (hlo : (lo? = none ∧ lo = 0) ∨ ∃ l k, lo? = some l ∧ Ev fr g l (.int k (lo : Int))) (hhi : (hi? = none ∧ hi = n) ∨ ∃ l k, hi? = some l ∧ Ev fr g l (.int k (hi : Int))) (h1 : lo ≤ hi) (h2 : hi ≤ c) (h3 : lo < c) (hr : o + lo * sz = r) :
    OpY C ⟨d, .slice T x lo? hi? none, ty, pos, af, gd⟩ fr g Any (.slice (some ⟨bb, r, none⟩) (hi - lo) (c - lo)) := by
  subst hr
  have h := y_slice (C := C) (d := d) (ty := ty) (pos := pos) (af := af) (gd := gd) (T := T) (fr := fr) (g := g) hT hs hx hlo hhi h1 h2
  rw [if_neg (by omega), Option.map_some, Addr.add_lit] at h
  exact h
theorem y_sliceT {A : Option Addr} {n c lo hi sz : Nat} {r : Addr} {e : TypeId} {lo? hi? : Option Operand} (hT : C.P.underlying T = some (.slice e)) (hs : ∀ w, (sizeOf e).run C.P w = .ok sz w) (hx : Ev fr g x (.slice A n c))
    (hlo : (lo? = none ∧ lo = 0) ∨ ∃ l k, lo? = some l ∧ Ev fr g l (.int k (lo : Int))) (hhi : (hi? = none ∧ hi = n) ∨ ∃ l k, hi? = some l ∧ Ev fr g l (.int k (hi : Int))) (h1 : lo ≤ hi) (h2 : hi ≤ c) (hr : (some r : Option Addr) = (if c = lo then A else A.map (·.add (lo * sz)))) :
    OpY C ⟨d, .slice T x lo? hi? none, ty, pos, af, gd⟩ fr g Any (.slice (some r) (hi - lo) (c - lo)) := by
  rw [hr]
  exact y_slice hT hs hx hlo hhi h1 h2
/-- A slice with a bound of its room. -/
theorem y_slice3 {A : Option Addr} {n c lo hi mx : Nat} {e : TypeId} {sz : Nat} {l h m : Operand} {k k' k2 : IntKind} (hT : C.P.underlying T = some (.slice e)) (hs : ∀ w, (sizeOf e).run C.P w = .ok sz w) (hx : Ev fr g x (.slice A n c))
    (hlo : Ev fr g l (.int k (lo : Int))) (hhi : Ev fr g h (.int k' (hi : Int))) (hmx : Ev fr g m (.int k2 (mx : Int))) (h1 : lo ≤ hi) (h2 : hi ≤ mx) (h3 : mx ≤ c) :
    OpY C ⟨d, .slice T x (some l) (some h) (some m), ty, pos, af, gd⟩ fr g Any (.slice (if mx = lo then A else A.map (·.add (lo * sz))) (hi - lo) (mx - lo)) := fun a w hf _ hg => by
  have e1 := hlo.eval hf hg
  have e2 := hhi.eval hf hg
  have e3 := hmx.eval hf hg
  have hb : (Instr.sliceBounds true n c (some (.int k (lo : Int))) (some (.int k' (hi : Int))) (some (.int k2 (mx : Int)))).run C.P w = .ok (lo, hi, mx) w := by
    simp [Instr.sliceBounds, Instr.sliceBound, asIntOf, h1, h2, h3]
  simp [execOp, hx.eval hf hg, e1, e2, e3, Instr.sliceAt, run_underlying hT, Instr.slice, hb, hs]
end
end Go.Ink
