/-
  No cell of these rows narrows 'for every input' (looked for: loops, veiled, ifaces, maps, wideKeys, modest, calm, conditions, laid).
  DERIVED. THE GIVEN ROWS OF THIS SEAT. 6 by the template 'for every input the law returns true; each argument reads behind the call as it read before'; 0 by the template 'total and deterministic' (their statements: YtjknccgefnnfnaaTotals.lean).
  GIVEN WITH THE SEED: the statements are not yours to turn. If you find one false, say at which input.
  Laid BY PROGRAM, IN A SANDBOX (cutbox-rows.mjs): the forced cells as the released guide's own fill.sh prints them over the translation 9778989394b1c14f… (all of the seat's roots in one cut). By AI agents, Wed Nov 11 2026. No macro, syntax, notation, axiom, sorry.
-/
import Derived.Test.YtjknccgefnnfnaaChecked
import GoSem.Claim
import GoSem.ClaimJoined
import GoSem.ClaimMapViews
import Derived.JoinedTies
import Derived.KernelRfl
namespace Go.Proofs.Ytjknccgefnnfnaa
/- THE CELL 'sum', in the pinned program and in every row, IS THE sha256 OF THE DUMP (.gsa) THAT YtjknccgefnnfnaaProg.lean LOADS. Nothing in Lean hashes anything: it is a label: what it is worth is what the hold of that sum in a sandbox is worth. -/
noncomputable def Try.pinned : Pinned := { name := "ytjknccgefnnfnaa", sum := "9778989394b1c14fc177633b8c4373988e08d13a1fb4cabb9f1b0f832634a6b3", checked := Try.checked }
namespace Rows
def none {H : Type} : Left H := { results := [], args := [] }

/-- 'innkeeperlaw16.StateRegs': WHATEVER THE INPUT: true; the input reads as it did. -/
def stateRegsSpec : ChangeSpec := { name := "stateRegs", fn := fun _ => fun
  | [d1, d2, d3, d4] => { results := [.lit (.bool true)], args := [d1, d2, d3, d4] }
  | _ => none }
def stateRegsRow : OpenClaim := { program := "ytjknccgefnnfnaa", sum := "9778989394b1c14fc177633b8c4373988e08d13a1fb4cabb9f1b0f832634a6b3", func := "innkeeper/innkeeperlaw16.StateRegs", spec := "stateRegs", apart := false }
def StateRegsSaid : Prop := stateRegsRow.holds Try.pinned (OpenSpec.ofChange stateRegsSpec)

/-- ITS FALSE NEIGHBOUR: 'it returns false'. Refute it at one input. -/
def stateRegsWrong : ChangeSpec := { name := "stateRegs", fn := fun _ => fun
  | [d1, d2, d3, d4] => { results := [.lit (.bool false)], args := [d1, d2, d3, d4] }
  | _ => none }
def StateRegsWrongFalsely : Prop := stateRegsRow.holds Try.pinned (OpenSpec.ofChange stateRegsWrong)

/-- 'innkeeperlaw16.StateTraps': WHATEVER THE INPUT: true; the input reads as it did. -/
def stateTrapsSpec : ChangeSpec := { name := "stateTraps", fn := fun _ => fun
  | [d1, d2, d3, d4, d5] => { results := [.lit (.bool true)], args := [d1, d2, d3, d4, d5] }
  | _ => none }
def stateTrapsRow : OpenClaim := { program := "ytjknccgefnnfnaa", sum := "9778989394b1c14fc177633b8c4373988e08d13a1fb4cabb9f1b0f832634a6b3", func := "innkeeper/innkeeperlaw16.StateTraps", spec := "stateTraps", apart := false }
def StateTrapsSaid : Prop := stateTrapsRow.holds Try.pinned (OpenSpec.ofChange stateTrapsSpec)

/-- ITS FALSE NEIGHBOUR: 'it returns false'. Refute it at one input. -/
def stateTrapsWrong : ChangeSpec := { name := "stateTraps", fn := fun _ => fun
  | [d1, d2, d3, d4, d5] => { results := [.lit (.bool false)], args := [d1, d2, d3, d4, d5] }
  | _ => none }
def StateTrapsWrongFalsely : Prop := stateTrapsRow.holds Try.pinned (OpenSpec.ofChange stateTrapsWrong)

/-- 'innkeeperlaw16.StateApart': WHATEVER THE INPUT: true; the input reads as it did. -/
def stateApartSpec : ChangeSpec := { name := "stateApart", fn := fun _ => fun
  | [d1, d2, d3] => { results := [.lit (.bool true)], args := [d1, d2, d3] }
  | _ => none }
def stateApartRow : OpenClaim := { program := "ytjknccgefnnfnaa", sum := "9778989394b1c14fc177633b8c4373988e08d13a1fb4cabb9f1b0f832634a6b3", func := "innkeeper/innkeeperlaw16.StateApart", spec := "stateApart", apart := false }
def StateApartSaid : Prop := stateApartRow.holds Try.pinned (OpenSpec.ofChange stateApartSpec)

/-- ITS FALSE NEIGHBOUR: 'it returns false'. Refute it at one input. -/
def stateApartWrong : ChangeSpec := { name := "stateApart", fn := fun _ => fun
  | [d1, d2, d3] => { results := [.lit (.bool false)], args := [d1, d2, d3] }
  | _ => none }
def StateApartWrongFalsely : Prop := stateApartRow.holds Try.pinned (OpenSpec.ofChange stateApartWrong)

/-- 'innkeeperlaw16.StateBack': WHATEVER THE INPUT: true; the input reads as it did. -/
def stateBackSpec : ChangeSpec := { name := "stateBack", fn := fun _ => fun
  | [d1, d2, d3, d4] => { results := [.lit (.bool true)], args := [d1, d2, d3, d4] }
  | _ => none }
def stateBackRow : OpenClaim := { program := "ytjknccgefnnfnaa", sum := "9778989394b1c14fc177633b8c4373988e08d13a1fb4cabb9f1b0f832634a6b3", func := "innkeeper/innkeeperlaw16.StateBack", spec := "stateBack", apart := false }
def StateBackSaid : Prop := stateBackRow.holds Try.pinned (OpenSpec.ofChange stateBackSpec)

/-- ITS FALSE NEIGHBOUR: 'it returns false'. Refute it at one input. -/
def stateBackWrong : ChangeSpec := { name := "stateBack", fn := fun _ => fun
  | [d1, d2, d3, d4] => { results := [.lit (.bool false)], args := [d1, d2, d3, d4] }
  | _ => none }
def StateBackWrongFalsely : Prop := stateBackRow.holds Try.pinned (OpenSpec.ofChange stateBackWrong)

/-- 'innkeeperlaw16.StateTells': WHATEVER THE INPUT: true; the input reads as it did. -/
def stateTellsSpec : ChangeSpec := { name := "stateTells", fn := fun _ => fun
  | [d1, d2, d3, d4, d5, d6] => { results := [.lit (.bool true)], args := [d1, d2, d3, d4, d5, d6] }
  | _ => none }
def stateTellsRow : OpenClaim := { program := "ytjknccgefnnfnaa", sum := "9778989394b1c14fc177633b8c4373988e08d13a1fb4cabb9f1b0f832634a6b3", func := "innkeeper/innkeeperlaw16.StateTells", spec := "stateTells", apart := false }
def StateTellsSaid : Prop := stateTellsRow.holds Try.pinned (OpenSpec.ofChange stateTellsSpec)

/-- ITS FALSE NEIGHBOUR: 'it returns false'. Refute it at one input. -/
def stateTellsWrong : ChangeSpec := { name := "stateTells", fn := fun _ => fun
  | [d1, d2, d3, d4, d5, d6] => { results := [.lit (.bool false)], args := [d1, d2, d3, d4, d5, d6] }
  | _ => none }
def StateTellsWrongFalsely : Prop := stateTellsRow.holds Try.pinned (OpenSpec.ofChange stateTellsWrong)

/-- 'innkeeperlaw16.StateNumbers': WHATEVER THE INPUT: true; the input reads as it did. -/
def stateNumbersSpec : ChangeSpec := { name := "stateNumbers", fn := fun _ => fun
  | [] => { results := [.lit (.bool true)], args := [] }
  | _ => none }
def stateNumbersRow : OpenClaim := { program := "ytjknccgefnnfnaa", sum := "9778989394b1c14fc177633b8c4373988e08d13a1fb4cabb9f1b0f832634a6b3", func := "innkeeper/innkeeperlaw16.StateNumbers", spec := "stateNumbers", apart := false }
def StateNumbersSaid : Prop := stateNumbersRow.holds Try.pinned (OpenSpec.ofChange stateNumbersSpec)

/-- ITS FALSE NEIGHBOUR: 'it returns false'. Refute it at one input. -/
def stateNumbersWrong : ChangeSpec := { name := "stateNumbers", fn := fun _ => fun
  | [] => { results := [.lit (.bool false)], args := [] }
  | _ => none }
def StateNumbersWrongFalsely : Prop := stateNumbersRow.holds Try.pinned (OpenSpec.ofChange stateNumbersWrong)

/- THE SECOND FORM. 'bulk': how many values and letters a reading holds, each counted each time it is reached (what is shared counts as often as it is met; a slice's spare places count too). A statement '..UptoSaid' is the law's where the arguments, and the package variables that the reading takes, are together of bulk at most 1048576: NARROWER than '..Said'. Prove '..Said' where nothing that the law and all that it calls make is longer than what came in: it says more and counts as full. Else prove '..UptoSaid'. A law counts once. -/
mutual
def uptoBulk {H : Type} : DataW H → Nat
  | .lit (.string bytes) => bytes.length + 1
  | .lit _ => 1
  | .nil => 1
  | .ptr d => uptoBulk d + 1
  | .slice elems spare => uptoBulkAll elems + uptoBulkAll spare + 1
  | .agg parts => uptoBulkAll parts + 1
  | .iface _ d => uptoBulk d + 1
  | .map entries => uptoBulkEntries entries + 1
  | .held _ => 1
def uptoBulkAll {H : Type} : List (DataW H) → Nat
  | [] => 0
  | d :: r => uptoBulk d + uptoBulkAll r
def uptoBulkEntries {H : Type} : List (Lit × DataW H) → Nat
  | [] => 0
  | x :: r => uptoBulkEntry x + uptoBulkEntries r
def uptoBulkEntry {H : Type} : Lit × DataW H → Nat
  | (.string bytes, d) => bytes.length + uptoBulk d + 1
  | (_, d) => uptoBulk d + 1
 end
def uptoSmall : (H : Type) → List (DataW H) → Bool := fun _ ds => decide (uptoBulkAll ds ≤ 1048576)
def OpenSpec.upto (s : _root_.Go.ChangeSpec) : _root_.Go.OpenSpec := { _root_.Go.OpenSpec.ofChange s with cond := some uptoSmall }

/-- 'innkeeperlaw16.StateRegs', WHERE WHAT IT READS IS OF BULK AT MOST 1048576: true; the input reads as it did. -/
def stateRegsUptoRow : OpenClaim := { program := "ytjknccgefnnfnaa", sum := "9778989394b1c14fc177633b8c4373988e08d13a1fb4cabb9f1b0f832634a6b3", func := "innkeeper/innkeeperlaw16.StateRegs", spec := "stateRegs", apart := false, narrowed := true }
def StateRegsUptoSaid : Prop := stateRegsUptoRow.holds Try.pinned (OpenSpec.upto stateRegsSpec)

/-- 'innkeeperlaw16.StateTraps', WHERE WHAT IT READS IS OF BULK AT MOST 1048576: true; the input reads as it did. -/
def stateTrapsUptoRow : OpenClaim := { program := "ytjknccgefnnfnaa", sum := "9778989394b1c14fc177633b8c4373988e08d13a1fb4cabb9f1b0f832634a6b3", func := "innkeeper/innkeeperlaw16.StateTraps", spec := "stateTraps", apart := false, narrowed := true }
def StateTrapsUptoSaid : Prop := stateTrapsUptoRow.holds Try.pinned (OpenSpec.upto stateTrapsSpec)

/-- 'innkeeperlaw16.StateApart', WHERE WHAT IT READS IS OF BULK AT MOST 1048576: true; the input reads as it did. -/
def stateApartUptoRow : OpenClaim := { program := "ytjknccgefnnfnaa", sum := "9778989394b1c14fc177633b8c4373988e08d13a1fb4cabb9f1b0f832634a6b3", func := "innkeeper/innkeeperlaw16.StateApart", spec := "stateApart", apart := false, narrowed := true }
def StateApartUptoSaid : Prop := stateApartUptoRow.holds Try.pinned (OpenSpec.upto stateApartSpec)

/-- 'innkeeperlaw16.StateBack', WHERE WHAT IT READS IS OF BULK AT MOST 1048576: true; the input reads as it did. -/
def stateBackUptoRow : OpenClaim := { program := "ytjknccgefnnfnaa", sum := "9778989394b1c14fc177633b8c4373988e08d13a1fb4cabb9f1b0f832634a6b3", func := "innkeeper/innkeeperlaw16.StateBack", spec := "stateBack", apart := false, narrowed := true }
def StateBackUptoSaid : Prop := stateBackUptoRow.holds Try.pinned (OpenSpec.upto stateBackSpec)

/-- 'innkeeperlaw16.StateTells', WHERE WHAT IT READS IS OF BULK AT MOST 1048576: true; the input reads as it did. -/
def stateTellsUptoRow : OpenClaim := { program := "ytjknccgefnnfnaa", sum := "9778989394b1c14fc177633b8c4373988e08d13a1fb4cabb9f1b0f832634a6b3", func := "innkeeper/innkeeperlaw16.StateTells", spec := "stateTells", apart := false, narrowed := true }
def StateTellsUptoSaid : Prop := stateTellsUptoRow.holds Try.pinned (OpenSpec.upto stateTellsSpec)

/-- 'innkeeperlaw16.StateNumbers', WHERE WHAT IT READS IS OF BULK AT MOST 1048576: true; the input reads as it did. -/
def stateNumbersUptoRow : OpenClaim := { program := "ytjknccgefnnfnaa", sum := "9778989394b1c14fc177633b8c4373988e08d13a1fb4cabb9f1b0f832634a6b3", func := "innkeeper/innkeeperlaw16.StateNumbers", spec := "stateNumbers", apart := false, narrowed := true }
def StateNumbersUptoSaid : Prop := stateNumbersUptoRow.holds Try.pinned (OpenSpec.upto stateNumbersSpec)

end Rows
end Go.Proofs.Ytjknccgefnnfnaa
