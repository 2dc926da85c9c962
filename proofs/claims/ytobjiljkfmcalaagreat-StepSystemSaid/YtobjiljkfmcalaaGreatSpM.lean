/- The host's frames and a guest's memory as plain data. No program in sight. -/
import Derived.Test.YtobjiljkfmcalaaGreatInkH
import Derived.Test.YtobjiljkfmcalaaGreatStM
set_option linter.unusedSimpArgs false
set_option linter.unusedVariables false
set_option maxRecDepth 100000
namespace Go.Ink
open Go.RowKit

def bools (l : List Bool) : List Value := l.map Value.bool
theorem bools_len (l : List Bool) : (bools l).length = l.length := by simp [bools]
theorem bools_at {l : List Bool} {j : Nat} {b : Bool} (h : l[j]? = some b) : (bools l)[j]? = some (.bool b) := by simp [bools, h]
theorem bools_set (l : List Bool) (j : Nat) (b : Bool) : (bools l).set j (.bool b) = bools (l.set j b) := by simp [bools, List.map_set]
theorem bools_one {l : List Bool} : ∀ u ∈ bools l, u.oneCell' = true := by
  intro u hu
  obtain ⟨x, _, rfl⟩ := List.mem_map.1 hu
  rfl
theorem ints_set' {k : IntKind} (xs : List Int) (j : Nat) (v : Int) : (ints k xs).set j (.int k v) = ints k (xs.set j v) := by simp [ints, List.map_set]
/-- The pool's cells. -/
def poolCells (B ow pr : List Int) : List Value := ints .u8 B ++ (ints .i64 ow ++ ints .i64 pr)
/-- How long the parts are. -/
structure PoolLen (B ow pr : List Int) : Prop where
  b : B.length = 16384
  ow : ow.length = 256
  pr : pr.length = 4
section
variable {B ow pr : List Int}
theorem poolCells_len (h : PoolLen B ow pr) : (poolCells B ow pr).length = 16644 := by
  simp [poolCells, ints_length, h.b, h.ow, h.pr]
theorem pool_B {i : Nat} {v : Int} (h : B[i]? = some v) : (poolCells B ow pr)[i]? = some (.int .u8 v) := by
  have hi := (List.getElem?_eq_some_iff.1 h).1
  unfold poolCells
  rw [List.getElem?_append_left (by rw [ints_length]; exact hi)]
  exact ints_at h
theorem pool_ow (hl : PoolLen B ow pr) {i : Nat} {v : Int} (h : ow[i]? = some v) : (poolCells B ow pr)[16384 + i]? = some (.int .i64 v) := by
  have hi := (List.getElem?_eq_some_iff.1 h).1
  unfold poolCells
  rw [List.getElem?_append_right (by rw [ints_length, hl.b]; omega), ints_length, hl.b, show 16384 + i - 16384 = i by omega, List.getElem?_append_left (by rw [ints_length]; exact hi)]
  exact ints_at h
theorem pool_pr (hl : PoolLen B ow pr) {i : Nat} {v : Int} (h : pr[i]? = some v) : (poolCells B ow pr)[16640 + i]? = some (.int .i64 v) := by
  unfold poolCells
  rw [List.getElem?_append_right (by rw [ints_length, hl.b]; omega), ints_length, hl.b, List.getElem?_append_right (by rw [ints_length, hl.ow]; omega), ints_length, hl.ow, show 16640 + i - 16384 - 256 = i by omega]
  exact ints_at h
theorem pool_setB {i : Nat} (hi : i < B.length) (v : Int) : (poolCells B ow pr).set i (.int .u8 v) = poolCells (B.set i v) ow pr := by
  unfold poolCells
  rw [List.set_append_left _ _ (by rw [ints_length]; exact hi), ints_set']
theorem pool_setow (hl : PoolLen B ow pr) {i : Nat} (hi : i < 256) (v : Int) : (poolCells B ow pr).set (16384 + i) (.int .i64 v) = poolCells B (ow.set i v) pr := by
  unfold poolCells
  rw [List.set_append_right _ _ (by rw [ints_length, hl.b]; omega), ints_length, hl.b, show 16384 + i - 16384 = i by omega, List.set_append_left _ _ (by rw [ints_length, hl.ow]; exact hi), ints_set']
theorem pool_setpr (hl : PoolLen B ow pr) {i : Nat} (v : Int) : (poolCells B ow pr).set (16640 + i) (.int .i64 v) = poolCells B ow (pr.set i v) := by
  unfold poolCells
  rw [List.set_append_right _ _ (by rw [ints_length, hl.b]; omega), ints_length, hl.b, List.set_append_right _ _ (by rw [ints_length, hl.ow]; omega), ints_length, hl.ow, show 16640 + i - 16384 - 256 = i by omega, ints_set']
/-- A frame's bytes are all 0. -/
def zeroFrame (B : List Int) (f : Nat) : List Int := B.take (f * 64) ++ List.replicate 64 0 ++ B.drop (f * 64 + 64)
theorem pool_zero (hl : PoolLen B ow pr) {f : Nat} (hf : f < 256) : (poolCells B ow pr).take (f * 64) ++ List.replicate 64 (Value.int .u8 0) ++ (poolCells B ow pr).drop (f * 64 + 64) = poolCells (zeroFrame B f) ow pr := by
  unfold poolCells zeroFrame
  have h1 : f * 64 ≤ (ints .u8 B).length := by rw [ints_length, hl.b]; omega
  have h2 : f * 64 + 64 ≤ (ints .u8 B).length := by rw [ints_length, hl.b]; omega
  rw [List.take_append_of_le_length h1, List.drop_append_of_le_length h2, ← List.append_assoc _ _ (ints .i64 ow ++ ints .i64 pr)]
  congr 1
  simp [ints, List.map_take, List.map_drop]
theorem zeroFrame_len (hB : B.length = 16384) {f : Nat} (hf : f < 256) : (zeroFrame B f).length = 16384 := by
  simp only [zeroFrame, List.length_append, List.length_take, List.length_replicate, List.length_drop, hB]
  omega
theorem zeroFrame_in (hB : B.length = 16384) {f j : Nat} (hf : f < 256) (hj : j < 64) : (zeroFrame B f)[f * 64 + j]? = some 0 := by
  unfold zeroFrame
  rw [List.getElem?_append_left (by simp [hB]; omega), List.getElem?_append_right (by simp [hB]; omega)]
  simp only [List.length_take, hB]
  rw [show f * 64 + j - min (f * 64) 16384 = j by omega, List.getElem?_replicate, if_pos hj]
theorem zeroFrame_out (hB : B.length = 16384) {f i : Nat} (hf : f < 256) (hi : i < f * 64 ∨ f * 64 + 64 ≤ i) : (zeroFrame B f)[i]? = B[i]? := by
  unfold zeroFrame
  rcases hi with hi | hi
  · rw [List.getElem?_append_left (by simp [hB]; omega), List.getElem?_append_left (by simp [hB]; omega), List.getElem?_take, if_pos hi]
  rw [List.getElem?_append_right (by simp [hB]; omega), List.getElem?_drop]
  simp only [List.length_append, List.length_take, List.length_replicate, hB]
  congr 1
  omega
end
/-- The frames that an owner holds, as far as the k-th. -/
def heldTo (ow : List Int) (o : Int) (k : Nat) : List Int := ((List.range k).filter (fun f => ow[f]? == some o)).map (fun f : Nat => (f : Int))
theorem heldTo_succ (ow : List Int) (o : Int) (k : Nat) : heldTo ow o (k + 1) = heldTo ow o k ++ (bif ow[k]? == some o then [(k : Int)] else []) := by
  unfold heldTo
  rw [List.range_succ, List.filter_append, List.map_append]
  congr 1
  cases h : (ow[k]? == some o) <;> simp [h]
theorem heldTo_le (ow : List Int) (o : Int) (k : Nat) : (heldTo ow o k).length ≤ k := by
  unfold heldTo
  rw [List.length_map]
  exact Nat.le_trans (List.length_filter_le _ _) (by simp)
end Go.Ink
