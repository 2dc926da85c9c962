/- What the code that turns its own next instruction comes to: each case run. No program in sight. -/
import Derived.Test.YtojejamfaeednaaGreatDoorBkL
set_option linter.unusedSimpArgs false
set_option linter.unusedVariables false
set_option maxRecDepth 100000
namespace Go.Ink
open Go.RowKit
def padTo (x : Int) (k j : Nat) : List (Int × Int) := [(1, x), (2, 8 + (k : Int) + 1), (53, 0)] ++ List.replicate j (0, 0)
def selfCode (x : Int) (k : Nat) : List (Int × Int) := padTo x k k ++ [(1, 77), (69, 0)]
def selfIs (x : Int) (k : Nat) (q t : St × Mmu × Dev) : Bool := (q.1.count == 3) && t.1.halted && (t.1.d == [x]) && (t.1.count == 3 + (k : Int) + 2)
def selfSay (x : Int) (k : Nat) : Bool :=
  let q := blockTo 2 St.new ⟨Mem.init 2 (codeOf (selfCode x k)), tflush⟩ (Dev.init [])
  selfIs x k q (runTo 2 20 q.1 q.2.1 q.2.2)
def selfFive (x : Nat) : Bool := (List.range 5).all fun k => selfSay x k
theorem pad_step (x : Int) (k j : Nat) : (padTo x k j).flatMap insCells ++ [.int .i64 0, .int .u32 0] = (padTo x k (j + 1)).flatMap insCells := by
  unfold padTo
  rw [List.replicate_succ', ← List.append_assoc, List.flatMap_append (ys := [(0, 0)])]
  rfl
theorem pad_fin (x : Int) (k : Nat) : (padTo x k k).flatMap insCells ++ [.int .i64 1, .int .u32 77, .int .i64 69, .int .u32 0] = (selfCode x k).flatMap insCells := by
  unfold selfCode
  rw [List.flatMap_append]
  rfl
theorem self_len (x : Int) (k : Nat) : (selfCode x k).length = 3 + k + 2 := by
  unfold selfCode padTo
  simp; omega
theorem self_0 : (List.range' 0 32).all selfFive = true := by decide +kernel
theorem self_1 : (List.range' 32 32).all selfFive = true := by decide +kernel
theorem self_2 : (List.range' 64 32).all selfFive = true := by decide +kernel
theorem self_3 : (List.range' 96 32).all selfFive = true := by decide +kernel
theorem self_4 : (List.range' 128 32).all selfFive = true := by decide +kernel
theorem self_5 : (List.range' 160 32).all selfFive = true := by decide +kernel
theorem self_6 : (List.range' 192 32).all selfFive = true := by decide +kernel
theorem self_7 : (List.range' 224 32).all selfFive = true := by decide +kernel
theorem self_all {x k : Nat} (hx : x < 256) (hk : k < 5) : selfSay x k = true := by
  have h5 : selfFive x = true := by
    by_cases h : x < 128
    · by_cases h2 : x < 64
      · by_cases h3 : x < 32
        · exact List.all_eq_true.1 self_0 x (List.mem_range'_1.2 ⟨by omega, by omega⟩)
        exact List.all_eq_true.1 self_1 x (List.mem_range'_1.2 ⟨by omega, by omega⟩)
      by_cases h3 : x < 96
      · exact List.all_eq_true.1 self_2 x (List.mem_range'_1.2 ⟨by omega, by omega⟩)
      exact List.all_eq_true.1 self_3 x (List.mem_range'_1.2 ⟨by omega, by omega⟩)
    by_cases h2 : x < 192
    · by_cases h3 : x < 160
      · exact List.all_eq_true.1 self_4 x (List.mem_range'_1.2 ⟨by omega, by omega⟩)
      exact List.all_eq_true.1 self_5 x (List.mem_range'_1.2 ⟨by omega, by omega⟩)
    by_cases h3 : x < 224
    · exact List.all_eq_true.1 self_6 x (List.mem_range'_1.2 ⟨by omega, by omega⟩)
    exact List.all_eq_true.1 self_7 x (List.mem_range'_1.2 ⟨by omega, by omega⟩)
  exact List.all_eq_true.1 h5 k (List.mem_range.2 hk)
end Go.Ink
