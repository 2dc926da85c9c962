/- A guest's registers among the arguments, opened; and the row's frame at this program. -/
import Derived.Test.YtobjiljkfmcalaaGreatStM
import Derived.Test.YtobjiljkfmcalaaGreatStB
import Derived.Test.YtobjiljkfmcalaaGreatInkF
import Derived.Test.YtobjiljkfmcalaaGreatRows
set_option linter.unusedSimpArgs false
set_option linter.unusedVariables false
set_option maxRecDepth 100000
namespace Go.Proofs.YtobjiljkfmcalaaGreat
open Go.RowKit Go.Ink

theorem own0 : ownKnob Tryz.prog.godebug = none := by kernel_rfl
theorem laid0 : laidOutB Tryz.prog = true := by kernel_rfl
theorem wf_u32 {n : Int} (h : (Lit.int .u32 n).wf = true) : u32 n := by
  simp only [Lit.wf, Bool.and_eq_true, decide_eq_true_eq] at h
  have h1 : IntKind.u32.min = 0 := rfl
  have h2 : IntKind.u32.max = 4294967295 := rfl
  rw [h1, h2] at h
  exact h
theorem wf_u64 {n : Int} (h : (Lit.int .u64 n).wf = true) : 0 ≤ n ∧ n ≤ 18446744073709551615 := by
  simp only [Lit.wf, Bool.and_eq_true, decide_eq_true_eq] at h
  have h1 : IntKind.u64.min = 0 := rfl
  have h2 : IntKind.u64.max = 18446744073709551615 := rfl
  rw [h1, h2] at h
  exact h
theorem wf_i64 {n : Int} (h : (Lit.int .i64 n).wf = true) : -9223372036854775808 ≤ n ∧ n ≤ 9223372036854775807 := by
  simp only [Lit.wf, Bool.and_eq_true, decide_eq_true_eq] at h
  have h1 : IntKind.i64.min = -9223372036854775808 := rfl
  have h2 : IntKind.i64.max = 9223372036854775807 := rfl
  rw [h1, h2] at h
  exact h
theorem arg1 {W : World} {t : TypeId} {k : IntKind} {c : Value} (ht : Tryz.prog.underlying t = some (.int k)) (h : Arg Tryz.prog W t [c]) : ∃ n, c = .int k n ∧ (Lit.int k n).wf = true := by
  obtain ⟨n, h1, h2⟩ := h.int ht
  exact ⟨n, by simpa using h1, h2⟩
theorem arg1b {W : World} {t : TypeId} {c : Value} (ht : Tryz.prog.underlying t = some .bool) (h : Arg Tryz.prog W t [c]) : ∃ n, c = .bool n := by
  obtain ⟨n, h1⟩ := h.bool ht
  exact ⟨n, by simpa using h1⟩

set_option maxRecDepth 100000 in
theorem open_state {W : World} {v : Value} (h : ArgV Tryz.prog W 26 v) : ∃ s Ad cd Ar cr, v = sv s Ad cd Ar cr ∧ s.wf ∧ RdSt W s Ad Ar cd cr := by
  obtain ⟨cs, rfl, hl, hf⟩ := h.struct rfl
  have hl : cs.length = 16 := hl
  match cs, hl with
  | [c0, c1, c2, c3, c4, c5, c6, c7, c8, c9, c10, c11, c12, c13, c14, c15], _ =>
    have k0 : Arg Tryz.prog W _ [c0] := hf 0 _ rfl
    have k1 : Arg Tryz.prog W _ [c1] := hf 1 _ rfl
    have k2 : Arg Tryz.prog W _ [c2] := hf 2 _ rfl
    have k3 : Arg Tryz.prog W _ [c3] := hf 3 _ rfl
    have k4 : Arg Tryz.prog W _ [c4] := hf 4 _ rfl
    have k5 : Arg Tryz.prog W _ [c5] := hf 5 _ rfl
    have k6 : Arg Tryz.prog W _ [c6] := hf 6 _ rfl
    have k7 : Arg Tryz.prog W _ [c7] := hf 7 _ rfl
    have k8 : Arg Tryz.prog W _ [c8] := hf 8 _ rfl
    have k9 : Arg Tryz.prog W _ [c9] := hf 9 _ rfl
    have k10 : Arg Tryz.prog W _ [c10] := hf 10 _ rfl
    have k11 : Arg Tryz.prog W _ [c11] := hf 11 _ rfl
    have k12 : Arg Tryz.prog W _ [c12] := hf 12 _ rfl
    have k13 : Arg Tryz.prog W _ [c13] := hf 13 _ rfl
    have k14 : Arg Tryz.prog W _ [c14] := hf 14 _ rfl
    have k15 : Arg Tryz.prog W _ [c15] := hf 15 _ rfl
    obtain ⟨n0, rfl, m0⟩ := arg1 rfl k0
    obtain ⟨A1, d1, x1, e1, r1, b1, z1⟩ := k1.ints (e := 22) (k := .u32) rfl rfl rfl
    obtain rfl : c1 = _ := by simpa using e1
    obtain ⟨A2, d2, x2, e2, r2, b2, z2⟩ := k2.ints (e := 22) (k := .u32) rfl rfl rfl
    obtain rfl : c2 = _ := by simpa using e2
    obtain ⟨n3, rfl, m3⟩ := arg1 rfl k3
    obtain ⟨n4, rfl⟩ := arg1b rfl k4
    obtain ⟨n5, rfl⟩ := arg1b rfl k5
    obtain ⟨n6, rfl⟩ := arg1b rfl k6
    obtain ⟨n7, rfl, m7⟩ := arg1 rfl k7
    obtain ⟨n8, rfl, m8⟩ := arg1 rfl k8
    obtain ⟨n9, rfl, m9⟩ := arg1 rfl k9
    obtain ⟨n10, rfl, m10⟩ := arg1 rfl k10
    obtain ⟨n11, rfl, m11⟩ := arg1 rfl k11
    obtain ⟨n12, rfl⟩ := arg1b rfl k12
    obtain ⟨n13, rfl⟩ := arg1b rfl k13
    obtain ⟨n14, rfl, m14⟩ := arg1 rfl k14
    obtain ⟨n15, rfl⟩ := arg1b rfl k15
    have hb : Tryz.prog.bytesOf 22 = 4 := by kernel_rfl
    rw [hb] at b1 b2
    refine ⟨⟨n0, x1, x2, n3, n4, n5, n6, n7, n8, n9, n10, n11, n12, n13, n14, n15⟩, A1, d1, A2, d2, rfl, ⟨wf_u32 m0, wf_u32 m3, wf_u32 m7, wf_u32 m8, wf_u32 m9, wf_u32 m10, wf_u32 m11, wf_u64 m14, fun x hx => wf_u32 (z1 x hx), fun x hx => wf_u32 (z2 x hx)⟩, r1, r2, ?_, ?_⟩
    · have := r1.cap; show x1.length * 4 ≤ _; omega
    have := r2.cap; show x2.length * 4 ≤ _; omega

theorem ctr_true {f : FuncId} {args : List Value} {w : World} (h : Ctr Tryz.prog f args w [] (fun v cs => v = .bool true ∧ cs = [])) : Calls Tryz.prog f args.toArray w fun e w' => e = .returned (.bool true) ∧ Below w.heap.size w w' :=
  Calls.mono h fun _ _ ⟨_, _, he, ⟨h1, h2⟩, hi⟩ => ⟨by rw [he, h1], hi.keep.below⟩
end Go.Proofs.YtobjiljkfmcalaaGreat
