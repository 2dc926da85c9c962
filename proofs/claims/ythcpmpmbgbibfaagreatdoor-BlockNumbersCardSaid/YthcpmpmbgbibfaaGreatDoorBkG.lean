/- A block leaves a guest as it must be, and counts. No program in sight. -/
import Derived.Test.YthcpmpmbgbibfaaGreatDoorBkF
set_option linter.unusedSimpArgs false
set_option linter.unusedVariables false
set_option maxRecDepth 100000
namespace Go.Ink
open Go.RowKit
/-- A guest as it must be. -/
structure GOk (n : Nat) (s : St) (U : Mmu) (d : Dev) : Prop where
  wf : s.wf
  right : s.right = true
  u : UOk n U
  dv : d.ok
  lines : d.lines
theorem wrap64_add (a b c : Int) : IntKind.u64.wrap (IntKind.u64.wrap (a + b) + c) = IntKind.u64.wrap (a + (b + c)) := by
  rw [IntKind.wrap_u64, IntKind.wrap_u64, IntKind.wrap_u64]; omega
section
variable {n : Nat} {s : St} {U : Mmu} {d : Dev}
theorem nextWf (h : s.wf) : s.next.wf := ⟨h.pc, h.flags, h.root, h.vec, h.epc, h.cause, h.addr, by show 0 ≤ IntKind.u64.wrap _ ∧ IntKind.u64.wrap _ ≤ _; rw [IntKind.wrap_u64]; omega, h.d, h.r⟩
theorem trapWf (h : s.wf) (c : Int) {a : Int} (ha : u32 a) : (s.trap c a).wf := ⟨h.vec, h.flags, h.root, h.vec, h.pc, wrap_u32 _, ha, h.count, h.d, h.r⟩
theorem told_goes (h : s.wf) (hr : s.right = true) : (told s d).wf ∧ (told s d).right = true ∧ (told s d).count = s.count ∧ (told s d).halted = s.halted := by
  unfold told
  cases irqOf d with
  | none => exact ⟨h, hr, rfl, rfl⟩
  | some k =>
    show (bif s.ie then s.trap _ _ else s).wf ∧ (bif s.ie then s.trap _ _ else s).right = true ∧ (bif s.ie then s.trap _ _ else s).count = s.count ∧ (bif s.ie then s.trap _ _ else s).halted = s.halted
    cases s.ie with
    | true => exact ⟨trapWf h _ u0, hr, rfl, rfl⟩
    | false => exact ⟨h, hr, rfl, rfl⟩
/-- What a block's beginning leaves. -/
structure BegOk (n : Nat) (s : St) (d : Dev) (b : Begun) : Prop where
  g : GOk n b.s b.u b.d
  place : u32 b.place
  out : b.d.out = d.out
  runs : b.runs = true → b.s.count = s.count ∧ b.s.halted = s.halted ∧ s.halted = false
  stays : b.runs = false → s.halted = false → b.s.count = IntKind.u64.wrap (s.count + 1) ∧ b.s.halted = false
  held : s.halted = true → b = ⟨s, 0, false, b.u, b.d⟩
theorem begin_goes (h : GOk n s U d) : BegOk n s d (beginTo n s U d) := by
  obtain ⟨t1, t2⟩ := tick_ok' h.dv s.count
  have t3 := tick_lines h.lines s.count
  obtain ⟨w1, w2, w3, w4⟩ := told_goes (s := s) (d := d.tick s.count) h.wf h.right
  cases hh : s.halted with
  | true =>
    rw [beginTo_no (by rw [hh, Bool.or_true])]
    exact ⟨h, u0, rfl, fun e => (by cases e), fun _ e => (by rw [hh] at e; cases e), fun _ => rfl⟩
  | false =>
    rw [beginTo_go (by rw [h.right, hh]; rfl) rfl rfl]
    rw [hh] at w4
    obtain ⟨s1, hs1⟩ : ∃ x, told s (d.tick s.count) = x := ⟨_, rfl⟩
    rw [hs1] at w1 w2 w3 w4 ⊢
    unfold beginGo
    have hpc : s1.pc.toNat ≤ 4294967295 := by have := w1.pc; unfold u32 at this; omega
    have p1 := placeTo_okU h.u s1.space s1.pc.toNat 1
    obtain ⟨p2, -⟩ := placeTo_fact n U s1.space s1.pc.toNat hpc 1
    have p3 := placeTo_tr n U s1.space s1.pc.toNat hpc 1
    obtain ⟨⟨⟨pl, ⟨tc, ta⟩⟩, U1⟩, hq⟩ : ∃ q, placeTo n U s1.space s1.pc.toNat 1 = q := ⟨_, rfl⟩
    rw [hq] at p1 p2 p3 ⊢
    dsimp only at p1 p2 p3 ⊢
    cases htc : (tc != 0) with
    | true =>
      rw [cond_true]
      exact ⟨⟨trapWf (nextWf w1) _ p3.1, w2, p1, t1, t3⟩, u0, t2, fun e => (by cases e), fun _ _ => ⟨by show IntKind.u64.wrap (s1.count + 1) = _; rw [w3], w4⟩, fun e => (by rw [hh] at e; cases e)⟩
    | false =>
      rw [cond_false]
      exact ⟨⟨w1, w2, p1, t1, t3⟩, p2, t2, fun _ => ⟨w3, w4.trans hh.symm, hh⟩, fun e => (by cases e), fun e => (by rw [hh] at e; cases e)⟩
/-- What instructions one by one leave. -/
structure RestOk (n k : Nat) (s : St) (d : Dev) (q : St × Mmu × Dev) : Prop where
  g : GOk n q.1 q.2.1 q.2.2
  out : q.2.2.out.length ≤ d.out.length + k
  count : ∃ j : Nat, j ≤ k ∧ (1 ≤ k → 1 ≤ j) ∧ q.1.count = IntKind.u64.wrap (s.count + (j : Int))
theorem rest_goes (page : Nat) : ∀ (k : Nat) {s : St} (p : Nat) {U : Mmu} {d : Dev}, GOk n s U d → RestOk n k s d (restTo n page k s p U d)
  | 0, s, p, U, d, h => ⟨h, Nat.le_refl _, 0, Nat.le_refl _, fun e => (by omega), by
      show s.count = IntKind.u64.wrap (s.count + 0)
      have := h.wf.count
      rw [IntKind.wrap_u64]; omega⟩
  | k + 1, s, p, U, d, h => by
    unfold restTo
    cases hf : fetchOf n U.m p with
    | none => exact ⟨⟨trapWf (nextWf h.wf) _ u0, h.right, h.u, h.dv, h.lines⟩, by show d.out.length ≤ _; omega, 1, by omega, fun _ => Nat.le_refl _, rfl⟩
    | some o =>
      obtain ⟨⟨op, nn⟩, z⟩ := o
      obtain ⟨f1, -⟩ := fetchOf_rng h.u.m hf
      have hg := do_goes (op := op) (nn := nn) h.wf h.right f1 h.u h.dv
      have hl := do_lines (n := n) (op := op) (nn := nn) (s := s) (U := U) h.lines
      obtain ⟨⟨q, U1, d1⟩, hq⟩ : ∃ q, doTo n s op nn U d = q := ⟨_, rfl⟩
      rw [hq] at hg hl
      obtain ⟨g1, g2, g3, g4, g5, g6⟩ := hg
      dsimp only at g1 g2 g3 g4 g5 g6 hl ⊢
      rw [hq]
      dsimp only
      cases nextOf op q page s.pc with
      | false => exact ⟨⟨g1, g2, g4, g5, hl⟩, by show d1.out.length ≤ _; omega, 1, by omega, fun _ => Nat.le_refl _, g3⟩
      | true =>
        obtain ⟨r1, r2, j, r3, r4, r5⟩ := rest_goes page k ((p + z) % 4294967296) (s := q.s) (U := U1) (d := d1) ⟨g1, g2, g4, g5, hl⟩
        refine ⟨r1, by show _ ≤ _; exact Nat.le_trans r2 (by omega), j + 1, by omega, fun _ => by omega, ?_⟩
        show (restTo n page k q.s ((p + z) % 4294967296) U1 d1).1.count = _
        rw [r5, g3, wrap64_add, show (1 : Int) + (j : Int) = ((j + 1 : Nat) : Int) by omega]
/-- What a block leaves. -/
theorem block_goes (h : GOk n s U d) : RestOk n 8 s d (blockTo n s U d) ∨ (s.halted = true ∧ (blockTo n s U d).1 = s ∧ GOk n (blockTo n s U d).1 (blockTo n s U d).2.1 (blockTo n s U d).2.2 ∧ (blockTo n s U d).2.2.out = d.out) := by
  have hb := begin_goes h
  unfold blockTo
  obtain ⟨b, hbe⟩ : ∃ b, beginTo n s U d = b := ⟨_, rfl⟩
  rw [hbe] at hb ⊢
  dsimp only
  cases hr : b.runs with
  | true =>
    obtain ⟨c1, c2, c3⟩ := hb.runs hr
    have hq := rest_goes (b.place.toNat / 64) 8 b.place.toNat hb.g
    left
    refine ⟨hq.g, by have := hq.out; rw [hb.out] at this; exact this, ?_⟩
    obtain ⟨j, j1, j2, j3⟩ := hq.count
    exact ⟨j, j1, j2, by rw [← c1]; exact j3⟩
  | false =>
    cases hh : s.halted with
    | false =>
      obtain ⟨c1, c2⟩ := hb.stays hr hh
      left
      exact ⟨hb.g, by show b.d.out.length ≤ _; rw [hb.out]; omega, 1, by omega, fun _ => Nat.le_refl _, c1⟩
    | true =>
      right
      have e := hb.held hh
      exact ⟨rfl, by show b.s = s; rw [e], hb.g, hb.out⟩
theorem block_live (h : GOk n s U d) (hh : s.halted = false) : RestOk n 8 s d (blockTo n s U d) := by
  rcases block_goes h with h1 | ⟨h1, -⟩
  · exact h1
  rw [hh] at h1; cases h1
end
end Go.Ink
