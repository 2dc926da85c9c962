/- Slices of rows that came in: how they are opened, and read. Nothing of the program. -/
import Derived.Test.YtmhpcgmjlpfheaaGreatDoorInkA
set_option linter.unusedSimpArgs false
set_option linter.unusedVariables false
namespace Go.Ink
open Go.RowKit
section
variable {C : Cx} {fr : Fr} {cs : List Chunk} {d : Option Tmp} {ty : TypeId} {pos : String} {af : Array Edge} {gd : Option (Nat × Bool)} {v : Value} {g : Bool} {x y : Operand} {T T' : TypeId}
theorem y_fieldA {ad r : Addr} (n : Nat) {f : Nat} (ho : fieldOff C.P T f = some n) (hx : Ev fr g x (.pointer (some ad))) (hr : ad.add n = r) : OpY C ⟨d, .fieldAddr T x f, ty, pos, af, gd⟩ fr g Any (.pointer (some r)) := fun A w hf _ hg => by
  subst hr
  unfold fieldOff at ho
  split at ho
  · rename_i fs hfs
    split at ho
    · rename_i fd hfd
      split at ho
      · rename_i i hi
        by_cases hz : i.size = 0
        · simp [hz] at ho
        have hz' : Nat.beq i.size 0 = false := by cases h' : Nat.beq i.size 0 with | false => rfl | true => exact absurd (Nat.eq_of_beq_eq_true h') hz
        rw [hz'] at ho
        simp only [cond_false, Option.some.injEq] at ho
        subst ho
        simp [execOp, hx.eval hf hg, Instr.fieldAt, run_underlying hfs, hfd, Instr.sureAddr, fieldPlace, sizeOf, typeInfo, hi, hz]
      cases ho
    cases ho
  cases ho
theorem rdR_cell {w0 : World} {sz n c i : Nat} {ad : Addr} {xs : List Value} (h : RdV w0 sz (some ad) n c xs) (hv : xs[i]? = some v) : ∀ w, Inv w0 [] cs w → cells [(ad.add i, v)] w := fun w hi z hz => by
  rw [List.mem_singleton] at hz
  subst hz
  exact (h.oldN hi).at_ ad rfl i v hv
theorem cellsFrom_of {w : World} {ad : Addr} {b : Nat} : ∀ {vs : List Value} {i : Nat}, (∀ j v, vs[j]? = some v → w.cell? (ad.add (b + i + j)) = some v) → cells (cellsFrom (ad.add b) i vs) w
  | [], _, _ => fun x hx => by cases hx
  | u :: vs, i, h => fun x hx => by
    rcases List.mem_cons.1 hx with rfl | hx
    · show w.cell? ((ad.add b).add i) = some u
      rw [add_of_add]
      exact h 0 u rfl
    exact cellsFrom_of (vs := vs) (i := i + 1) (fun j v hj => by
      have := h (j + 1) v (by simpa using hj)
      rwa [show b + i + (j + 1) = b + (i + 1) + j by omega] at this) x hx
theorem rdR_cells {w0 : World} {sz n c b : Nat} {ad : Addr} {xs vs : List Value} (h : RdV w0 sz (some ad) n c xs) (hv : ∀ j v, vs[j]? = some v → xs[b + j]? = some v) : ∀ w, Inv w0 [] cs w → cells (cellsFrom (ad.add b) 0 vs) w := fun w hi =>
  cellsFrom_of fun j v hj => by
    rw [Nat.add_zero]
    exact (h.oldN hi).at_ ad rfl (b + j) v (hv j v hj)
end
theorem flat_at {α : Type} {f : α → List Value} {sz : Nat} (hf : ∀ a, (f a).length = sz) : ∀ {xs : List α} {k i : Nat} {a : α} {v : Value}, xs[k]? = some a → (f a)[i]? = some v → (xs.flatMap f)[k * sz + i]? = some v
  | [], k, i, a, v, h, _ => by simp at h
  | x :: xs, 0, i, a, v, h, h2 => by
    simp only [List.getElem?_cons_zero, Option.some.injEq] at h
    subst h
    have := (List.getElem?_eq_some_iff.1 h2).1
    rw [List.flatMap_cons, Nat.zero_mul, Nat.zero_add, List.getElem?_append_left this]
    exact h2
  | x :: xs, k + 1, i, a, v, h, h2 => by
    rw [List.flatMap_cons, List.getElem?_append_right (by rw [hf, Nat.succ_mul]; omega), hf, show (k + 1) * sz + i - sz = k * sz + i by rw [Nat.succ_mul]; omega]
    exact flat_at hf (by simpa using h) h2
theorem flat_len {α : Type} {f : α → List Value} {sz : Nat} (hf : ∀ a, (f a).length = sz) : ∀ xs : List α, (xs.flatMap f).length = xs.length * sz
  | [] => by simp
  | x :: xs => by rw [List.flatMap_cons, List.length_append, hf, flat_len hf xs, List.length_cons, Nat.succ_mul]; omega
section
open Go.ChangeShapes Go.WideShapes
variable {P : Program} {w : World} {t : TypeId} {cs : List Value} {v : Value}
/-- A slice of rows. -/
theorem Arg.rows {α : Type} {e : TypeId} {sz : Nat} {f : α → List Value} {Q : α → Prop} (ht : P.underlying t = some (.slice e)) (hc : P.cellsOf e = sz) (hf : ∀ a, (f a).length = sz) (a0 : α)
    (ho : ∀ es, Arg P w e es → ∃ a, es = f a ∧ Q a) (h : Arg P w t cs) :
    ∃ (A : Option Addr) (c : Nat) (xs : List α), cs = [.slice A xs.length c] ∧ RdV w sz A xs.length c (xs.flatMap f) ∧ (∀ x, x ∈ xs → Q x) ∧ c * P.bytesOf e ≤ 140737488351232 := by
  rcases h.slice ht with rfl | ⟨a, len, cap, rfl, hl, hm, hb, hi⟩
  · exact ⟨none, 0, [], rfl, ⟨by simp, Nat.le_refl _, by decide, fun _ => ⟨rfl, rfl⟩, fun _ h => by cases h⟩, (fun x hx => by cases hx), by simp⟩
  have each : ∀ i : Nat, ∃ x : α, i < cap → (∀ j v, (f x)[j]? = some v → w.cell? (a.add (i * sz + j)) = some v) ∧ Q x := fun i => by
    by_cases hlt : i < cap
    · obtain ⟨es, base, h1, h2⟩ := hi i hlt
      obtain ⟨x, rfl, hq⟩ := ho es h2
      rw [hc] at h1
      refine ⟨x, fun _ => ⟨fun j v hj => ?_, hq⟩⟩
      have hjl := (List.getElem?_eq_some_iff.1 hj).1
      rw [hf] at hjl
      have := (World.cells?_some h1).2.2 j hjl
      rw [Go.Ink.add_of_add] at this
      rw [this]
      exact hj
    exact ⟨a0, fun h => absurd h hlt⟩
  obtain ⟨g, hg⟩ := Classical.axiomOfChoice each
  refine ⟨some a, cap, (List.range len).map g, by simp, ⟨by rw [flat_len hf], by simpa using hl, hm, (fun h => by cases h), ?_⟩, ?_, hb⟩
  · intro ad e j u hu
    obtain rfl : a = ad := by simpa using e
    have hj := (List.getElem?_eq_some_iff.1 hu).1
    rw [flat_len hf, List.length_map, List.length_range] at hj
    by_cases hsz : sz = 0
    · subst hsz; simp at hj
    have hq : j / sz < len := (Nat.div_lt_iff_lt_mul (Nat.pos_of_ne_zero hsz)).2 hj
    have hjm : j / sz * sz + j % sz = j := Nat.div_add_mod' j sz
    have hx : ((List.range len).map g)[j / sz]? = some (g (j / sz)) := by rw [List.getElem?_map, List.getElem?_range hq]; rfl
    have hr : j % sz < (f (g (j / sz))).length := by rw [hf]; exact Nat.mod_lt _ (Nat.pos_of_ne_zero hsz)
    have h1 := flat_at hf hx (List.getElem?_eq_getElem hr)
    rw [hjm] at h1
    rw [h1] at hu
    have h2 := (hg (j / sz) (by omega)).1 (j % sz) _ (List.getElem?_eq_getElem hr)
    rw [hjm] at h2
    rw [h2, hu]
  intro x hx
  simp only [List.mem_map, List.mem_range] at hx
  obtain ⟨i, hi', rfl⟩ := hx
  exact (hg i (by omega)).2
theorem ArgV.rows {α : Type} {e : TypeId} {sz : Nat} {f : α → List Value} {Q : α → Prop} (ht : P.underlying t = some (.slice e)) (hc : P.cellsOf e = sz) (hf : ∀ a, (f a).length = sz) (a0 : α)
    (ho : ∀ es, Arg P w e es → ∃ a, es = f a ∧ Q a) (h : ArgV P w t v) :
    ∃ (A : Option Addr) (c : Nat) (xs : List α), v = .slice A xs.length c ∧ RdV w sz A xs.length c (xs.flatMap f) ∧ (∀ x, x ∈ xs → Q x) ∧ c * P.bytesOf e ≤ 140737488351232 := by
  obtain ⟨⟨r, b, hk⟩, h⟩ := h
  obtain ⟨a, l, c, rfl⟩ := okWide_slice ht hk
  obtain ⟨A, c', xs, h1, h2⟩ := h.rows ht hc hf a0 ho
  simp [Value.cells] at h1
  obtain ⟨rfl, rfl, rfl⟩ := h1
  exact ⟨_, _, _, rfl, h2⟩
end
end Go.Ink
