/- Joined: BkM BkQ BkS. -/
import Derived.Test.YthcpmpmbgbibfaaGreatDoorBkL
import Derived.Test.YthcpmpmbgbibfaaGreatDoorInkA
import Derived.Test.YthcpmpmbgbibfaaGreatDoorSqP
/- A fetch outside of what is there is a trap, again and again; the law BlockTraps. -/
set_option linter.unusedSimpArgs false
set_option linter.unusedVariables false
set_option maxRecDepth 100000
namespace Go.Ink
open Go.RowKit
/-- A state that traps at each fetch. -/
structure TrapSt (s : St) : Prop where
 wf : s.wf
 pg : s.paging = false
 ha : s.halted = false
 d : s.d = []
 r : s.r = []
 fl : s.right = true
 pc : 64 ≤ s.pc ∧ s.pc ≤ 1063
 ve : 64 ≤ s.vec ∧ s.vec ≤ 1063
theorem TrapSt.next {s : St} (h : TrapSt s) : TrapSt (s.next.trap 10 s.pc) :=
 ⟨trapWf (nextWf h.wf) _ h.wf.pc, h.pg, h.ha, h.d, h.r, h.fl, h.ve, h.ve⟩
end Go.Ink
namespace Go.Proofs.YthcpmpmbgbibfaaGreatDoor
open Go.RowKit Go.Ink
attribute [local irreducible] OpY GuardIs

end Go.Proofs.YthcpmpmbgbibfaaGreatDoor
/- Which line is told: the lowest of those that are raised and open. No program in sight. -/
set_option linter.unusedSimpArgs false
set_option linter.unusedVariables false
set_option maxRecDepth 100000
namespace Go.Ink
open Go.RowKit
theorem bits_and {a b : Nat} (ha : a < 4294967296) (hb : b < 4294967296) : bits .and .u32 (a : Int) (b : Int) = ((a &&& b : Nat) : Int) := by
 have h1 : (BitVec.ofInt IntKind.u32.bits (a : Int)).toNat = a := by rw [BitVec.toNat_ofInt]; show ((a : Int) % ((4294967296 : Nat) : Int)).toNat = a; omega
 have h2 : (BitVec.ofInt IntKind.u32.bits (b : Int)).toNat = b := by rw [BitVec.toNat_ofInt]; show ((b : Int) % ((4294967296 : Nat) : Int)).toNat = b; omega
 have h3 : a &&& b ≤ a := Nat.and_le_left
 unfold bits
 simp only
 rw [IntKind.wrap_u32, BitVec.toNat_and, h1, h2]
 omega
theorem line_one : ∀ k, k < 8 → linesOf [k] = ((2 ^ k : Nat) : Int) := by decide
def lowSay (x : Nat) : Int := match lowOf x with
 | none => -1
 | some k => (k : Int)
end Go.Ink
/- The law BlockIrqs: the lowest line that is raised and open is told. -/
set_option linter.unusedSimpArgs false
set_option linter.unusedVariables false
set_option maxRecDepth 100000
namespace Go.Ink
open Go.RowKit
theorem shr_line {v k : Nat} (hk : k < 8) : Int.fdiv (v : Int) (2 ^ (min (Int.toNat (k : Int)) IntKind.u32.bits)) = ((v / 2 ^ k : Nat) : Int) := by
 have e : min (Int.toNat (k : Int)) IntKind.u32.bits = k := by show min (Int.toNat (k : Int)) 32 = k; omega
 rw [e, Int.fdiv_eq_ediv_of_nonneg _ (by exact Int.le_of_lt (Int.pow_pos (by decide)))]
 simp
end Go.Ink
namespace Go.Proofs.YthcpmpmbgbibfaaGreatDoor
open Go.RowKit Go.Ink
attribute [local irreducible] OpY GuardIs

theorem keepState_ok (s t : St) (Ad Ar Bd Br : Option Addr) (cd cr ed er : Nat) (w : World) (h : RdSt w s Ad Ar cd cr) (h2 : RdSt w t Bd Br ed er) :
  Ctr Tryz.prog 13 [sv s Ad cd Ar cr, sv t Bd ed Br er] w [] (fun v cs => v = .bool (s.rsame t) ∧ cs = []) := by
 have HS := fun w h h2 => rSame_ok s t Ad Ar Bd Br cd cr ed er w h h2
 refine fn_ctr Tryz.func13 rfl Tryz.ntmps13 rfl (Inv.start w) ?_
 refine Zs (Zr (ZO fun b2 => ?_))
 refine ZO fun b3 => ?_
 refine ZA ?_
 refine Zn (Zt (Zs (Zr (wl_loadRow Zh (fun _ => rfl) (fun _ => rfl) (Zv rfl) rfl ?_))))
 refine wl_loadRow Zh (fun _ => rfl) (fun _ => rfl) (Zv rfl) rfl ?_
 refine wl_callg guard_none (.cons (Zv rfl) (.cons (Zv rfl) .nil)) (fun _ _ => rfl) (fun hg w hi => HS w (h.oldN hi) (h2.oldN hi)) rfl ?_
 refine ZA ?_
 refine Zn (Zt (Ze (ret1 (cs' := []) (.inl rfl) Zu rfl rfl ?_)))
 exact ⟨rfl, rfl⟩
end Go.Proofs.YthcpmpmbgbibfaaGreatDoor
