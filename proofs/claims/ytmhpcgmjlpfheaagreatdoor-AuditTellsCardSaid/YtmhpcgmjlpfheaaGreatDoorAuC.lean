/- The arguments of AuditTells; the law AuditNumbers. -/
import Derived.Test.YtmhpcgmjlpfheaaGreatDoorAuB
set_option linter.unusedSimpArgs false
set_option linter.unusedVariables false
set_option maxRecDepth 100000
namespace Go.Proofs.YtmhpcgmjlpfheaaGreatDoor
open Go.RowKit Go.Ink

theorem open_stateA {W : World} {cs : List Value} (h : Arg Tryz.prog W 28 cs) : ∃ s Ad cd Ar cr, cs = St.cells s (.slice Ad s.d.length cd) (.slice Ar s.r.length cr) ∧ s.wf ∧ RdSt W s Ad Ar cd cr := by
  obtain ⟨hl, hf⟩ := h.struct rfl
  have hl : cs.length = 16 := hl
  match cs, hl with
  | [c0, c1, c2, c3, c4, c5, c6, c7, c8, c9, c10, c11, c12, c13, c14, c15], _ =>
    have k0 : Arg Tryz.prog W _ [c0] := hf 0 _ rfl
    have k1 : Arg Tryz.prog W _ [c1] := hf 1 _ rfl
    have k2 : Arg Tryz.prog W _ [c2] := hf 2 _ rfl
    have k3 : Arg Tryz.prog W _ [c3] := hf 3 _ rfl
    have k4 : Arg Tryz.prog W _ [c4] := hf 4 _ rfl
    have k5 : Arg Tryz.prog W _ [c5] := hf 5 _ rfl
    have k6 : Arg Tryz.prog W _ [c6] := hf 6 _ rfl
    have k7 : Arg Tryz.prog W _ [c7] := hf 7 _ rfl
    have k8 : Arg Tryz.prog W _ [c8] := hf 8 _ rfl
    have k9 : Arg Tryz.prog W _ [c9] := hf 9 _ rfl
    have k10 : Arg Tryz.prog W _ [c10] := hf 10 _ rfl
    have k11 : Arg Tryz.prog W _ [c11] := hf 11 _ rfl
    have k12 : Arg Tryz.prog W _ [c12] := hf 12 _ rfl
    have k13 : Arg Tryz.prog W _ [c13] := hf 13 _ rfl
    have k14 : Arg Tryz.prog W _ [c14] := hf 14 _ rfl
    have k15 : Arg Tryz.prog W _ [c15] := hf 15 _ rfl
    obtain ⟨n0, rfl, m0⟩ := arg1 rfl k0
    obtain ⟨A1, d1, x1, e1, r1, b1, z1⟩ := k1.ints (e := 24) (k := .u32) rfl rfl rfl
    obtain rfl : c1 = _ := by simpa using e1
    obtain ⟨A2, d2, x2, e2, r2, b2, z2⟩ := k2.ints (e := 24) (k := .u32) rfl rfl rfl
    obtain rfl : c2 = _ := by simpa using e2
    obtain ⟨n3, rfl, m3⟩ := arg1 rfl k3
    obtain ⟨n4, rfl⟩ := arg1b rfl k4
    obtain ⟨n5, rfl⟩ := arg1b rfl k5
    obtain ⟨n6, rfl⟩ := arg1b rfl k6
    obtain ⟨n7, rfl, m7⟩ := arg1 rfl k7
    obtain ⟨n8, rfl, m8⟩ := arg1 rfl k8
    obtain ⟨n9, rfl, m9⟩ := arg1 rfl k9
    obtain ⟨n10, rfl, m10⟩ := arg1 rfl k10
    obtain ⟨n11, rfl, m11⟩ := arg1 rfl k11
    obtain ⟨n12, rfl⟩ := arg1b rfl k12
    obtain ⟨n13, rfl⟩ := arg1b rfl k13
    obtain ⟨n14, rfl, m14⟩ := arg1 rfl k14
    obtain ⟨n15, rfl⟩ := arg1b rfl k15
    have hb : Tryz.prog.bytesOf 24 = 4 := by kernel_rfl
    rw [hb] at b1 b2
    refine ⟨⟨n0, x1, x2, n3, n4, n5, n6, n7, n8, n9, n10, n11, n12, n13, n14, n15⟩, A1, d1, A2, d2, rfl, ⟨wf_u32 m0, wf_u32 m3, wf_u32 m7, wf_u32 m8, wf_u32 m9, wf_u32 m10, wf_u32 m11, wf_u64 m14, fun x hx => wf_u32 (z1 x hx), fun x hx => wf_u32 (z2 x hx)⟩, r1, r2, ?_, ?_⟩
    · have := r1.cap; show x1.length * 4 ≤ _; omega
    have := r2.cap; show x2.length * 4 ≤ _; omega
theorem open_view {W : World} {v : Value} (h : ArgV Tryz.prog W 31 v) : ∃ a Y, v = vv a Y ∧ a.wf ∧ RdVw W a Y := by
  obtain ⟨cs, rfl, hl, hf⟩ := h.struct rfl
  have hl : cs.length = 23 := hl
  have ks : Arg Tryz.prog W 28 (cs.take 16) := hf 0 _ rfl
  obtain ⟨s, Ad, cd, Ar, cr, e, hs, hr⟩ := open_stateA ks
  match cs, hl with
  | [c0, c1, c2, c3, c4, c5, c6, c7, c8, c9, c10, c11, c12, c13, c14, c15, c16, c17, c18, c19, c20, c21, c22], _ =>
    have k1 : Arg Tryz.prog W _ [c16] := hf 1 _ rfl
    have k2 : Arg Tryz.prog W _ [c17] := hf 2 _ rfl
    have k3 : Arg Tryz.prog W _ [c18] := hf 3 _ rfl
    have k4 : Arg Tryz.prog W _ [c19] := hf 4 _ rfl
    have k5 : Arg Tryz.prog W _ [c20] := hf 5 _ rfl
    have k6 : Arg Tryz.prog W _ [c21] := hf 6 _ rfl
    have k7 : Arg Tryz.prog W _ [c22] := hf 7 _ rfl
    obtain ⟨A1, d1, x1, e1, r1, b1, z1⟩ := k1.ints (e := 5) (k := .u8) rfl rfl rfl
    obtain rfl : c16 = _ := by simpa using e1
    obtain ⟨A2, d2, x2, e2, r2, b2, z2⟩ := k2.ints (e := 5) (k := .u8) rfl rfl rfl
    obtain rfl : c17 = _ := by simpa using e2
    obtain ⟨A3, d3, x3, e3, r3, b3, z3⟩ := k3.ints (e := 5) (k := .u8) rfl rfl rfl
    obtain rfl : c18 = _ := by simpa using e3
    obtain ⟨A4, d4, x4, e4, r4, b4, z4⟩ := k4.ints (e := 5) (k := .u8) rfl rfl rfl
    obtain rfl : c19 = _ := by simpa using e4
    obtain ⟨n5, rfl, m5⟩ := arg1 rfl k5
    obtain ⟨n6, rfl, m6⟩ := arg1 rfl k6
    obtain ⟨n7, rfl⟩ := arg1b rfl k7
    refine ⟨⟨s, x1, x2, x3, x4, n5, n6, n7⟩, ⟨⟨Ad, cd, Ar, cr⟩, A1, d1, A2, d2, A3, d3, A4, d4⟩, ?_, ⟨hs, fun x hx => wf_u8 (z1 x hx), fun x hx => wf_u8 (z2 x hx), fun x hx => wf_u8 (z3 x hx), fun x hx => wf_u8 (z4 x hx)⟩, ⟨hr, r1, r2, r3, r4⟩⟩
    have e : [c0, c1, c2, c3, c4, c5, c6, c7, c8, c9, c10, c11, c12, c13, c14, c15] = St.cells s (.slice Ad s.d.length cd) (.slice Ar s.r.length cr) := e
    show Value.agg (([c0, c1, c2, c3, c4, c5, c6, c7, c8, c9, c10, c11, c12, c13, c14, c15] ++ _ : List Value)).toArray = _
    rw [e]
theorem open_intsA {W : World} {v : Value} (h : ArgV Tryz.prog W 23 v) : ∃ (B : Option Addr) (cb : Nat) (b : List Int), v = .slice B b.length cb ∧ Rd W .i64 B b.length cb b := by
  obtain ⟨B, cb, b, h1, h2, -, -⟩ := h.ints (e := 3) (k := .i64) rfl rfl rfl
  exact ⟨B, cb, b, h1, h2⟩
end Go.Proofs.YtmhpcgmjlpfheaaGreatDoor
