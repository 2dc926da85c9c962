/- A fetch outside of what is there is a trap, again and again; the law BlockTraps. -/
import Derived.Test.YthcpmpmbgbibfaaGreatDoorBkL
import Derived.Test.YthcpmpmbgbibfaaGreatDoorInkA
import Derived.Test.YthcpmpmbgbibfaaGreatDoorSqP
set_option linter.unusedSimpArgs false
set_option linter.unusedVariables false
set_option maxRecDepth 100000
namespace Go.Ink
open Go.RowKit
theorem beginGo_trap {n : Nat} {s : St} {U : Mmu} {d : Dev} (hpg : s.paging = false) (h0 : 0 ≤ s.pc) (hpc : n * 64 ≤ s.pc.toNat) : beginGo n s U d = ⟨s.next.trap 10 s.pc, 0, false, U, d⟩ := by
 have e1 : decide (((s.pc.toNat : Nat) : Int) < ((n * 64 : Nat) : Int)) = false := decide_eq_false (by omega)
 have e2 : ((s.pc.toNat : Nat) : Int) = s.pc := Int.toNat_of_nonneg h0
 have e3 : placeTo n U s.space s.pc.toNat 1 = ((0, ⟨10, s.pc⟩), U) := by
  unfold placeTo
  rw [turned_plain (s := s.space) hpg]
  dsimp only
  rw [e1, e2]
  rfl
 unfold beginGo
 rw [e3]
 rfl
theorem tick_none {d : Dev} (ht : d.timer = 0) (c : Int) : d.tick c = d := by
 unfold Dev.tick
 rw [ht]
 rfl
theorem and_none (m : Int) : bits .and .u32 0 m = ((0 : Nat) : Int) := by
 unfold bits
 simp only
 rw [IntKind.wrap_u32]
 simp
theorem block_trap {n : Nat} {s : St} {U : Mmu} {d : Dev} (hpg : s.paging = false) (hr : s.right = true) (hh : s.halted = false) (h0 : 0 ≤ s.pc) (hpc : n * 64 ≤ s.pc.toNat) (ht : d.timer = 0) (hp : d.pend = 0) : blockTo n s U d = (s.next.trap 10 s.pc, U, d) := by
 have e : beginTo n s U d = ⟨s.next.trap 10 s.pc, 0, false, U, d⟩ := by
  rw [beginTo_go (by rw [hr, hh]; rfl) (tick_none ht _) (told_no (x := 0) (by rw [hp]; exact and_none _) (by rw [low_zero]; rfl))]
  exact beginGo_trap hpg h0 hpc
 unfold blockTo
 rw [e]
 rfl
/-- A state that traps at each fetch. -/
structure TrapSt (s : St) : Prop where
 wf : s.wf
 pg : s.paging = false
 ha : s.halted = false
 d : s.d = []
 r : s.r = []
 fl : s.right = true
 pc : 64 ≤ s.pc ∧ s.pc ≤ 1063
 ve : 64 ≤ s.vec ∧ s.vec ≤ 1063
theorem TrapSt.next {s : St} (h : TrapSt s) : TrapSt (s.next.trap 10 s.pc) :=
 ⟨trapWf (nextWf h.wf) _ h.wf.pc, h.pg, h.ha, h.d, h.r, h.fl, h.ve, h.ve⟩
end Go.Ink
namespace Go.Proofs.YthcpmpmbgbibfaaGreatDoor
open Go.RowKit Go.Ink
attribute [local irreducible] OpY GuardIs

theorem rdSt_all {w : World} {s : St} {X : SAdr} (hd : s.d = []) (hr : s.r = []) (h : RdSt w s X.Ad X.Ar X.cd X.cr) (w' : World) : RdSt w' s X.Ad X.Ar X.cd X.cr := by
 obtain ⟨pc, d, r, f3, f4, f5, f6, f7, f8, f9, f10, f11, f12, f13, f14, f15⟩ := s
 simp only at hd hr
 subst hd hr
 exact ⟨⟨h.d.len, h.d.cap, h.d.max, h.d.nil, fun _ _ j u hu => by simp [ints] at hu⟩, ⟨h.r.len, h.r.cap, h.r.max, h.r.nil, fun _ _ j u hu => by simp [ints] at hu⟩, h.hd, h.hr⟩
end Go.Proofs.YthcpmpmbgbibfaaGreatDoor
