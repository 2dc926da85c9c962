/- The law BlockIrqs: the lowest line that is raised and open is told. -/
import Derived.Test.YthcpmpmbgbibfaaGreatDoorBkM
import Derived.Test.YthcpmpmbgbibfaaGreatDoorInkA
import Derived.Test.YthcpmpmbgbibfaaGreatDoorBkQ
set_option linter.unusedSimpArgs false
set_option linter.unusedVariables false
set_option maxRecDepth 100000
namespace Go.Ink
open Go.RowKit
def nops (i : Nat) : List (Int × Int) := List.replicate i (0, 0)
theorem nops_step (i : Nat) : (nops i).flatMap insCells ++ [.int .i64 0, .int .u32 0] = (nops (i + 1)).flatMap insCells := by
 unfold nops
 rw [List.replicate_succ', List.flatMap_append]
 rfl
theorem nops_len : (nops 60).length = 60 := List.length_replicate
theorem nops_code : (codeOf (nops 60)).length = 60 := by decide +kernel
abbrev dIrq (d : Dev) (p m : Nat) : Dev := ⟨(p : Int), (m : Int), d.timer, d.out, d.inp, d.disk, d.sector, d.place, d.status⟩
theorem shr_line {v k : Nat} (hk : k < 8) : Int.fdiv (v : Int) (2 ^ (min (Int.toNat (k : Int)) IntKind.u32.bits)) = ((v / 2 ^ k : Nat) : Int) := by
 have e : min (Int.toNat (k : Int)) IntKind.u32.bits = k := by show min (Int.toNat (k : Int)) 32 = k; omega
 rw [e, Int.fdiv_eq_ediv_of_nonneg _ (by exact Int.le_of_lt (Int.pow_pos (by decide)))]
 simp
theorem tmod_two (y : Nat) : Int.tmod (y : Int) 2 = ((y % 2 : Nat) : Int) := by rw [Int.tmod_eq_emod_of_nonneg (by omega)]; omega
/-- What a beginning leaves, as the law asks for it. -/
theorem begin_law {n : Nat} {s : St} {U : Mmu} {d : Dev} {p m : Nat} {want : Int} (hw : want = lowSay (p &&& m)) (hp : p < 256) (hm : m < 256) (hr : s.right = true) (hh : s.halted = false) (hpg : s.paging = false) (hd : s.d = []) (hrr : s.r = []) (ht : d.timer = 0) (h1 : d.pend = (p : Int)) (h2 : d.mask = (m : Int)) (h0 : 0 ≤ s.pc) (h0' : s.pc < ((n * 64 : Nat) : Int)) (hv : 0 ≤ s.vec) (hv' : s.vec < ((n * 64 : Nat) : Int)) :
  ∃ sB plB, beginTo n s U d = ⟨sB, plB, true, U, d⟩ ∧ sB.count = s.count ∧ sB.d = [] ∧ sB.r = [] ∧ ((decide (want < 0) || !s.ie) = true → sB = s ∧ plB = s.pc) ∧ ((decide (want < 0) || !s.ie) = false → sB = s.trap (16 + want) 0 ∧ plB = s.vec) := by
 subst hw
 rw [begin_plain hp hm hr hh hpg ht h1 h2 h0 h0' hv hv']
 cases h : (decide (lowSay (p &&& m) < 0) || !s.ie) with
 | true => exact ⟨s, s.pc, rfl, rfl, hd, hrr, fun _ => ⟨rfl, rfl⟩, (by intro e; cases e)⟩
 | false => exact ⟨s.trap (16 + lowSay (p &&& m)) 0, s.vec, rfl, rfl, hd, hrr, (by intro e; cases e), fun _ => ⟨rfl, rfl⟩⟩
end Go.Ink
namespace Go.Proofs.YthcpmpmbgbibfaaGreatDoor
open Go.RowKit Go.Ink
attribute [local irreducible] OpY GuardIs

theorem keepState_ok (s t : St) (Ad Ar Bd Br : Option Addr) (cd cr ed er : Nat) (w : World) (h : RdSt w s Ad Ar cd cr) (h2 : RdSt w t Bd Br ed er) :
  Ctr Tryz.prog 13 [sv s Ad cd Ar cr, sv t Bd ed Br er] w [] (fun v cs => v = .bool (s.rsame t) ∧ cs = []) := by
 have HS := fun w h h2 => rSame_ok s t Ad Ar Bd Br cd cr ed er w h h2
 refine fn_ctr Tryz.func13 rfl Tryz.ntmps13 rfl (Inv.start w) ?_
 refine Zs (Zr (ZO fun b2 => ?_))
 refine ZO fun b3 => ?_
 refine ZA ?_
 refine Zn (Zt (Zs (Zr (wl_loadRow Zh (fun _ => rfl) (fun _ => rfl) (Zv rfl) rfl ?_))))
 refine wl_loadRow Zh (fun _ => rfl) (fun _ => rfl) (Zv rfl) rfl ?_
 refine wl_callg guard_none (.cons (Zv rfl) (.cons (Zv rfl) .nil)) (fun _ _ => rfl) (fun hg w hi => HS w (h.oldN hi) (h2.oldN hi)) rfl ?_
 refine ZA ?_
 refine Zn (Zt (Ze (ret1 (cs' := []) (.inl rfl) Zu rfl rfl ?_)))
 exact ⟨rfl, rfl⟩
end Go.Proofs.YthcpmpmbgbibfaaGreatDoor
