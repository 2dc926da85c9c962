/-
  No cell of these rows narrows 'for every input' (looked for: loops, veiled, ifaces, maps, wideKeys, modest, calm, conditions, laid).
  DERIVED. THE GIVEN ROWS OF THIS SEAT. 9 by the template 'for every input the law returns true; each argument reads behind the call as it read before'; 0 by the template 'total and deterministic' (their statements: YtobjiljkfmcalaaGreatTotals.lean).
  GIVEN WITH THE SEED: the statements are not yours to turn. If you find one false, say at which input.
  Laid BY PROGRAM, IN A SANDBOX (cutbox-rows.mjs): the forced cells as the released guide's own fill.sh prints them over the translation acbd788aa83b4c1f… (all of the seat's roots in one cut). By AI agents, Wed Nov 11 2026. No macro, syntax, notation, axiom, sorry.
-/
import Derived.Test.YtobjiljkfmcalaaGreatChecked
import GoSem.Claim
import GoSem.ClaimJoined
import GoSem.ClaimMapViews
import Derived.JoinedTies
import Derived.KernelRfl
namespace Go.Proofs.YtobjiljkfmcalaaGreat
/- THE CELL 'sum', in the pinned program and in every row, IS THE sha256 OF THE DUMP (.gsa) THAT YtobjiljkfmcalaaGreatProg.lean LOADS. Nothing in Lean hashes anything: it is a label: what it is worth is what the hold of that sum in a sandbox is worth. -/
noncomputable def Tryz.pinned : Pinned := { name := "ytobjiljkfmcalaagreat", sum := "acbd788aa83b4c1fdf5aac39a27b8290c9b544d1218ba38cc197e9db8981b703", checked := Tryz.checked }
namespace Rows
def none {H : Type} : Left H := { results := [], args := [] }

/-- 'innkeeperlaw17.StepStacks': WHATEVER THE INPUT: true; the input reads as it did. -/
def stepStacksSpec : ChangeSpec := { name := "stepStacks", fn := fun _ => fun
  | [d1, d2, d3, d4] => { results := [.lit (.bool true)], args := [d1, d2, d3, d4] }
  | _ => none }
def stepStacksRow : OpenClaim := { program := "ytobjiljkfmcalaagreat", sum := "acbd788aa83b4c1fdf5aac39a27b8290c9b544d1218ba38cc197e9db8981b703", func := "innkeeper/innkeeperlaw17.StepStacks", spec := "stepStacks", apart := false }
def StepStacksSaid : Prop := stepStacksRow.holds Tryz.pinned (OpenSpec.ofChange stepStacksSpec)

/-- ITS FALSE NEIGHBOUR: 'it returns false'. Refute it at one input. -/
def stepStacksWrong : ChangeSpec := { name := "stepStacks", fn := fun _ => fun
  | [d1, d2, d3, d4] => { results := [.lit (.bool false)], args := [d1, d2, d3, d4] }
  | _ => none }
def StepStacksWrongFalsely : Prop := stepStacksRow.holds Tryz.pinned (OpenSpec.ofChange stepStacksWrong)

/-- 'innkeeperlaw17.StepLoads': WHATEVER THE INPUT: true; the input reads as it did. -/
def stepLoadsSpec : ChangeSpec := { name := "stepLoads", fn := fun _ => fun
  | [d1, d2, d3] => { results := [.lit (.bool true)], args := [d1, d2, d3] }
  | _ => none }
def stepLoadsRow : OpenClaim := { program := "ytobjiljkfmcalaagreat", sum := "acbd788aa83b4c1fdf5aac39a27b8290c9b544d1218ba38cc197e9db8981b703", func := "innkeeper/innkeeperlaw17.StepLoads", spec := "stepLoads", apart := false }
def StepLoadsSaid : Prop := stepLoadsRow.holds Tryz.pinned (OpenSpec.ofChange stepLoadsSpec)

/-- ITS FALSE NEIGHBOUR: 'it returns false'. Refute it at one input. -/
def stepLoadsWrong : ChangeSpec := { name := "stepLoads", fn := fun _ => fun
  | [d1, d2, d3] => { results := [.lit (.bool false)], args := [d1, d2, d3] }
  | _ => none }
def StepLoadsWrongFalsely : Prop := stepLoadsRow.holds Tryz.pinned (OpenSpec.ofChange stepLoadsWrong)

/-- 'innkeeperlaw17.StepSystem': WHATEVER THE INPUT: true; the input reads as it did. -/
def stepSystemSpec : ChangeSpec := { name := "stepSystem", fn := fun _ => fun
  | [d1, d2, d3] => { results := [.lit (.bool true)], args := [d1, d2, d3] }
  | _ => none }
def stepSystemRow : OpenClaim := { program := "ytobjiljkfmcalaagreat", sum := "acbd788aa83b4c1fdf5aac39a27b8290c9b544d1218ba38cc197e9db8981b703", func := "innkeeper/innkeeperlaw17.StepSystem", spec := "stepSystem", apart := false }
def StepSystemSaid : Prop := stepSystemRow.holds Tryz.pinned (OpenSpec.ofChange stepSystemSpec)

/-- ITS FALSE NEIGHBOUR: 'it returns false'. Refute it at one input. -/
def stepSystemWrong : ChangeSpec := { name := "stepSystem", fn := fun _ => fun
  | [d1, d2, d3] => { results := [.lit (.bool false)], args := [d1, d2, d3] }
  | _ => none }
def StepSystemWrongFalsely : Prop := stepSystemRow.holds Tryz.pinned (OpenSpec.ofChange stepSystemWrong)

/-- 'innkeeperlaw17.StepCounts': WHATEVER THE INPUT: true; the input reads as it did. -/
def stepCountsSpec : ChangeSpec := { name := "stepCounts", fn := fun _ => fun
  | [d1, d2] => { results := [.lit (.bool true)], args := [d1, d2] }
  | _ => none }
def stepCountsRow : OpenClaim := { program := "ytobjiljkfmcalaagreat", sum := "acbd788aa83b4c1fdf5aac39a27b8290c9b544d1218ba38cc197e9db8981b703", func := "innkeeper/innkeeperlaw17.StepCounts", spec := "stepCounts", apart := false }
def StepCountsSaid : Prop := stepCountsRow.holds Tryz.pinned (OpenSpec.ofChange stepCountsSpec)

/-- ITS FALSE NEIGHBOUR: 'it returns false'. Refute it at one input. -/
def stepCountsWrong : ChangeSpec := { name := "stepCounts", fn := fun _ => fun
  | [d1, d2] => { results := [.lit (.bool false)], args := [d1, d2] }
  | _ => none }
def StepCountsWrongFalsely : Prop := stepCountsRow.holds Tryz.pinned (OpenSpec.ofChange stepCountsWrong)

/-- 'innkeeperlaw17.StepTwins': WHATEVER THE INPUT: true; the input reads as it did. -/
def stepTwinsSpec : ChangeSpec := { name := "stepTwins", fn := fun _ => fun
  | [d1, d2, d3] => { results := [.lit (.bool true)], args := [d1, d2, d3] }
  | _ => none }
def stepTwinsRow : OpenClaim := { program := "ytobjiljkfmcalaagreat", sum := "acbd788aa83b4c1fdf5aac39a27b8290c9b544d1218ba38cc197e9db8981b703", func := "innkeeper/innkeeperlaw17.StepTwins", spec := "stepTwins", apart := false }
def StepTwinsSaid : Prop := stepTwinsRow.holds Tryz.pinned (OpenSpec.ofChange stepTwinsSpec)

/-- ITS FALSE NEIGHBOUR: 'it returns false'. Refute it at one input. -/
def stepTwinsWrong : ChangeSpec := { name := "stepTwins", fn := fun _ => fun
  | [d1, d2, d3] => { results := [.lit (.bool false)], args := [d1, d2, d3] }
  | _ => none }
def StepTwinsWrongFalsely : Prop := stepTwinsRow.holds Tryz.pinned (OpenSpec.ofChange stepTwinsWrong)

/-- 'innkeeperlaw17.StepNumbers': WHATEVER THE INPUT: true; the input reads as it did. -/
def stepNumbersSpec : ChangeSpec := { name := "stepNumbers", fn := fun _ => fun
  | [] => { results := [.lit (.bool true)], args := [] }
  | _ => none }
def stepNumbersRow : OpenClaim := { program := "ytobjiljkfmcalaagreat", sum := "acbd788aa83b4c1fdf5aac39a27b8290c9b544d1218ba38cc197e9db8981b703", func := "innkeeper/innkeeperlaw17.StepNumbers", spec := "stepNumbers", apart := false }
def StepNumbersSaid : Prop := stepNumbersRow.holds Tryz.pinned (OpenSpec.ofChange stepNumbersSpec)

/-- ITS FALSE NEIGHBOUR: 'it returns false'. Refute it at one input. -/
def stepNumbersWrong : ChangeSpec := { name := "stepNumbers", fn := fun _ => fun
  | [] => { results := [.lit (.bool false)], args := [] }
  | _ => none }
def StepNumbersWrongFalsely : Prop := stepNumbersRow.holds Tryz.pinned (OpenSpec.ofChange stepNumbersWrong)

/-- 'innkeeperlaw17.StepPlays': WHATEVER THE INPUT: true; the input reads as it did. -/
def stepPlaysSpec : ChangeSpec := { name := "stepPlays", fn := fun _ => fun
  | [d1, d2, d3, d4] => { results := [.lit (.bool true)], args := [d1, d2, d3, d4] }
  | _ => none }
def stepPlaysRow : OpenClaim := { program := "ytobjiljkfmcalaagreat", sum := "acbd788aa83b4c1fdf5aac39a27b8290c9b544d1218ba38cc197e9db8981b703", func := "innkeeper/innkeeperlaw17.StepPlays", spec := "stepPlays", apart := false }
def StepPlaysSaid : Prop := stepPlaysRow.holds Tryz.pinned (OpenSpec.ofChange stepPlaysSpec)

/-- ITS FALSE NEIGHBOUR: 'it returns false'. Refute it at one input. -/
def stepPlaysWrong : ChangeSpec := { name := "stepPlays", fn := fun _ => fun
  | [d1, d2, d3, d4] => { results := [.lit (.bool false)], args := [d1, d2, d3, d4] }
  | _ => none }
def StepPlaysWrongFalsely : Prop := stepPlaysRow.holds Tryz.pinned (OpenSpec.ofChange stepPlaysWrong)

/-- 'innkeeperlaw17.StepTraps': WHATEVER THE INPUT: true; the input reads as it did. -/
def stepTrapsSpec : ChangeSpec := { name := "stepTraps", fn := fun _ => fun
  | [d1, d2, d3, d4] => { results := [.lit (.bool true)], args := [d1, d2, d3, d4] }
  | _ => none }
def stepTrapsRow : OpenClaim := { program := "ytobjiljkfmcalaagreat", sum := "acbd788aa83b4c1fdf5aac39a27b8290c9b544d1218ba38cc197e9db8981b703", func := "innkeeper/innkeeperlaw17.StepTraps", spec := "stepTraps", apart := false }
def StepTrapsSaid : Prop := stepTrapsRow.holds Tryz.pinned (OpenSpec.ofChange stepTrapsSpec)

/-- ITS FALSE NEIGHBOUR: 'it returns false'. Refute it at one input. -/
def stepTrapsWrong : ChangeSpec := { name := "stepTraps", fn := fun _ => fun
  | [d1, d2, d3, d4] => { results := [.lit (.bool false)], args := [d1, d2, d3, d4] }
  | _ => none }
def StepTrapsWrongFalsely : Prop := stepTrapsRow.holds Tryz.pinned (OpenSpec.ofChange stepTrapsWrong)

/-- 'innkeeperlaw17.StepPlain': WHATEVER THE INPUT: true; the input reads as it did. -/
def stepPlainSpec : ChangeSpec := { name := "stepPlain", fn := fun _ => fun
  | [d1, d2, d3, d4, d5] => { results := [.lit (.bool true)], args := [d1, d2, d3, d4, d5] }
  | _ => none }
def stepPlainRow : OpenClaim := { program := "ytobjiljkfmcalaagreat", sum := "acbd788aa83b4c1fdf5aac39a27b8290c9b544d1218ba38cc197e9db8981b703", func := "innkeeper/innkeeperlaw17.StepPlain", spec := "stepPlain", apart := false }
def StepPlainSaid : Prop := stepPlainRow.holds Tryz.pinned (OpenSpec.ofChange stepPlainSpec)

/-- ITS FALSE NEIGHBOUR: 'it returns false'. Refute it at one input. -/
def stepPlainWrong : ChangeSpec := { name := "stepPlain", fn := fun _ => fun
  | [d1, d2, d3, d4, d5] => { results := [.lit (.bool false)], args := [d1, d2, d3, d4, d5] }
  | _ => none }
def StepPlainWrongFalsely : Prop := stepPlainRow.holds Tryz.pinned (OpenSpec.ofChange stepPlainWrong)

/- THE SECOND FORM. 'bulk': how many values and letters a reading holds, each counted each time it is reached (what is shared counts as often as it is met; a slice's spare places count too). A statement '..UptoSaid' is the law's where the arguments, and the package variables that the reading takes, are together of bulk at most 1048576: NARROWER than '..Said'. Prove '..Said' where nothing that the law and all that it calls make is longer than what came in: it says more and counts as full. Else prove '..UptoSaid'. A law counts once. -/
mutual
def uptoBulk {H : Type} : DataW H → Nat
  | .lit (.string bytes) => bytes.length + 1
  | .lit _ => 1
  | .nil => 1
  | .ptr d => uptoBulk d + 1
  | .slice elems spare => uptoBulkAll elems + uptoBulkAll spare + 1
  | .agg parts => uptoBulkAll parts + 1
  | .iface _ d => uptoBulk d + 1
  | .map entries => uptoBulkEntries entries + 1
  | .held _ => 1
def uptoBulkAll {H : Type} : List (DataW H) → Nat
  | [] => 0
  | d :: r => uptoBulk d + uptoBulkAll r
def uptoBulkEntries {H : Type} : List (Lit × DataW H) → Nat
  | [] => 0
  | x :: r => uptoBulkEntry x + uptoBulkEntries r
def uptoBulkEntry {H : Type} : Lit × DataW H → Nat
  | (.string bytes, d) => bytes.length + uptoBulk d + 1
  | (_, d) => uptoBulk d + 1
 end
def uptoSmall : (H : Type) → List (DataW H) → Bool := fun _ ds => decide (uptoBulkAll ds ≤ 1048576)
def OpenSpec.upto (s : _root_.Go.ChangeSpec) : _root_.Go.OpenSpec := { _root_.Go.OpenSpec.ofChange s with cond := some uptoSmall }

/-- 'innkeeperlaw17.StepStacks', WHERE WHAT IT READS IS OF BULK AT MOST 1048576: true; the input reads as it did. -/
def stepStacksUptoRow : OpenClaim := { program := "ytobjiljkfmcalaagreat", sum := "acbd788aa83b4c1fdf5aac39a27b8290c9b544d1218ba38cc197e9db8981b703", func := "innkeeper/innkeeperlaw17.StepStacks", spec := "stepStacks", apart := false, narrowed := true }
def StepStacksUptoSaid : Prop := stepStacksUptoRow.holds Tryz.pinned (OpenSpec.upto stepStacksSpec)

/-- 'innkeeperlaw17.StepLoads', WHERE WHAT IT READS IS OF BULK AT MOST 1048576: true; the input reads as it did. -/
def stepLoadsUptoRow : OpenClaim := { program := "ytobjiljkfmcalaagreat", sum := "acbd788aa83b4c1fdf5aac39a27b8290c9b544d1218ba38cc197e9db8981b703", func := "innkeeper/innkeeperlaw17.StepLoads", spec := "stepLoads", apart := false, narrowed := true }
def StepLoadsUptoSaid : Prop := stepLoadsUptoRow.holds Tryz.pinned (OpenSpec.upto stepLoadsSpec)

/-- 'innkeeperlaw17.StepSystem', WHERE WHAT IT READS IS OF BULK AT MOST 1048576: true; the input reads as it did. -/
def stepSystemUptoRow : OpenClaim := { program := "ytobjiljkfmcalaagreat", sum := "acbd788aa83b4c1fdf5aac39a27b8290c9b544d1218ba38cc197e9db8981b703", func := "innkeeper/innkeeperlaw17.StepSystem", spec := "stepSystem", apart := false, narrowed := true }
def StepSystemUptoSaid : Prop := stepSystemUptoRow.holds Tryz.pinned (OpenSpec.upto stepSystemSpec)

/-- 'innkeeperlaw17.StepCounts', WHERE WHAT IT READS IS OF BULK AT MOST 1048576: true; the input reads as it did. -/
def stepCountsUptoRow : OpenClaim := { program := "ytobjiljkfmcalaagreat", sum := "acbd788aa83b4c1fdf5aac39a27b8290c9b544d1218ba38cc197e9db8981b703", func := "innkeeper/innkeeperlaw17.StepCounts", spec := "stepCounts", apart := false, narrowed := true }
def StepCountsUptoSaid : Prop := stepCountsUptoRow.holds Tryz.pinned (OpenSpec.upto stepCountsSpec)

/-- 'innkeeperlaw17.StepTwins', WHERE WHAT IT READS IS OF BULK AT MOST 1048576: true; the input reads as it did. -/
def stepTwinsUptoRow : OpenClaim := { program := "ytobjiljkfmcalaagreat", sum := "acbd788aa83b4c1fdf5aac39a27b8290c9b544d1218ba38cc197e9db8981b703", func := "innkeeper/innkeeperlaw17.StepTwins", spec := "stepTwins", apart := false, narrowed := true }
def StepTwinsUptoSaid : Prop := stepTwinsUptoRow.holds Tryz.pinned (OpenSpec.upto stepTwinsSpec)

/-- 'innkeeperlaw17.StepNumbers', WHERE WHAT IT READS IS OF BULK AT MOST 1048576: true; the input reads as it did. -/
def stepNumbersUptoRow : OpenClaim := { program := "ytobjiljkfmcalaagreat", sum := "acbd788aa83b4c1fdf5aac39a27b8290c9b544d1218ba38cc197e9db8981b703", func := "innkeeper/innkeeperlaw17.StepNumbers", spec := "stepNumbers", apart := false, narrowed := true }
def StepNumbersUptoSaid : Prop := stepNumbersUptoRow.holds Tryz.pinned (OpenSpec.upto stepNumbersSpec)

/-- 'innkeeperlaw17.StepPlays', WHERE WHAT IT READS IS OF BULK AT MOST 1048576: true; the input reads as it did. -/
def stepPlaysUptoRow : OpenClaim := { program := "ytobjiljkfmcalaagreat", sum := "acbd788aa83b4c1fdf5aac39a27b8290c9b544d1218ba38cc197e9db8981b703", func := "innkeeper/innkeeperlaw17.StepPlays", spec := "stepPlays", apart := false, narrowed := true }
def StepPlaysUptoSaid : Prop := stepPlaysUptoRow.holds Tryz.pinned (OpenSpec.upto stepPlaysSpec)

/-- 'innkeeperlaw17.StepTraps', WHERE WHAT IT READS IS OF BULK AT MOST 1048576: true; the input reads as it did. -/
def stepTrapsUptoRow : OpenClaim := { program := "ytobjiljkfmcalaagreat", sum := "acbd788aa83b4c1fdf5aac39a27b8290c9b544d1218ba38cc197e9db8981b703", func := "innkeeper/innkeeperlaw17.StepTraps", spec := "stepTraps", apart := false, narrowed := true }
def StepTrapsUptoSaid : Prop := stepTrapsUptoRow.holds Tryz.pinned (OpenSpec.upto stepTrapsSpec)

/-- 'innkeeperlaw17.StepPlain', WHERE WHAT IT READS IS OF BULK AT MOST 1048576: true; the input reads as it did. -/
def stepPlainUptoRow : OpenClaim := { program := "ytobjiljkfmcalaagreat", sum := "acbd788aa83b4c1fdf5aac39a27b8290c9b544d1218ba38cc197e9db8981b703", func := "innkeeper/innkeeperlaw17.StepPlain", spec := "stepPlain", apart := false, narrowed := true }
def StepPlainUptoSaid : Prop := stepPlainUptoRow.holds Tryz.pinned (OpenSpec.upto stepPlainSpec)

end Rows
end Go.Proofs.YtobjiljkfmcalaaGreat
