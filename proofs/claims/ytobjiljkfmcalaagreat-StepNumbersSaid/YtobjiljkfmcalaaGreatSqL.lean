/- What an instruction that isn't trapped does, and one that is; bytes that are cut. -/
import Derived.Test.YtobjiljkfmcalaaGreatSqK
import Derived.Test.YtobjiljkfmcalaaGreatInkA
set_option linter.unusedSimpArgs false
set_option linter.unusedVariables false
set_option maxRecDepth 100000
namespace Go.Ink
open Go.RowKit
section
variable {n : Nat} {op nn : Int} {s : St} {U : Mmu} {d : Dev}
end
theorem set_last (l : List Int) (x y : Int) : (l ++ [x]).set l.length y = l ++ [y] := by
 rw [List.set_append_right _ _ (Nat.le_refl _), Nat.sub_self]
 rfl
theorem rd_take {W : World} {k : IntKind} {A : Option Addr} {c : Nat} {b : List Int} (h : Rd W k A b.length c b) (m : Nat) : Rd W k A (b.take m).length c (b.take m) := by
 refine ⟨by simp [ints], ?_, h.max, fun e => ?_, fun ad e j u hu => h.at_ ad e j u ?_⟩
 ·have := h.cap; rw [List.length_take]; omega
 ·have := h.nil e; rw [List.length_take]; omega
 unfold ints at hu ⊢
 rw [List.getElem?_map] at hu ⊢
 rw [List.getElem?_take] at hu
 by_cases hj : j < m
 ·simpa [hj] using hu
 simp [hj] at hu
end Go.Ink
namespace Go.Proofs.YtobjiljkfmcalaaGreat
open Go.RowKit Go.Ink
attribute [local irreducible] OpY GuardIs

end Go.Proofs.YtobjiljkfmcalaaGreat
