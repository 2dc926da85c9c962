/- What a block does to the guest: its instructions one by one; what stays as it must be. No program in sight. -/
import Derived.Test.YthcpmpmbgbibfaaGreatDoorBkE
set_option linter.unusedSimpArgs false
set_option linter.unusedVariables false
set_option maxRecDepth 100000
namespace Go.Ink
open Go.RowKit
section
variable {n : Nat} {op nn : Int} {s : St} {U : Mmu} {d : Dev} {M : Mem} {R : Run}
theorem devStore_lines (h : d.lines) (k : Int) (v : Nat) : (devStore n M d k v).2.2.lines := by
  have hz : 0 ≤ bits .and .u32 (v : Int) 255 ∧ bits .and .u32 (v : Int) 255 ≤ 255 := by
    obtain ⟨x, hx, hlt⟩ := and_le (p := (v : Int)) (m := 255) ⟨by decide, by decide⟩
    omega
  unfold devStore devCmd
  refine cond_all (fun q : Bool × Mem × Dev => q.2.2.lines) ⟨h.mask⟩ ?_
  refine cond_all (fun q : Bool × Mem × Dev => q.2.2.lines) ⟨hz⟩ ?_
  refine cond_all (fun q : Bool × Mem × Dev => q.2.2.lines) ⟨h.mask⟩ ?_
  refine cond_all (fun q : Bool × Mem × Dev => q.2.2.lines) ⟨h.mask⟩ ?_
  refine cond_all (fun q : Bool × Mem × Dev => q.2.2.lines) ⟨h.mask⟩ ?_
  refine cond_all (fun q : Bool × Mem × Dev => q.2.2.lines) ⟨h.mask⟩ ?_
  refine cond_all (fun q : Bool × Mem × Dev => q.2.2.lines) ⟨h.mask⟩ ?_
  repeat (refine cond_all (fun q : Bool × Mem × Dev => q.2.2.lines) h ?_)
  exact h
theorem devLoad_lines (h : d.lines) (k count : Int) : (devLoad d k count).2.lines := by
  unfold devLoad
  repeat (first | exact h | refine cond_all (fun q : (Int × Bool) × Dev => q.2.lines) ?_ ?_ | exact ⟨h.mask⟩)
theorem lode_lines (h : d.lines) (va : Nat) : (lodeTo n R U d va).d.lines := by
  unfold lodeTo
  refine cond_all (fun m : Mach => m.d.lines) h ?_
  exact cond_all (fun m : Mach => m.d.lines) (devLoad_lines h _ _) h
theorem stow_lines (h : d.lines) (va v : Nat) : (stowTo n R U d va v).d.lines := by
  unfold stowTo
  refine cond_all (fun m : Mach => m.d.lines) h ?_
  exact cond_all (fun m : Mach => m.d.lines) (devStore_lines h _ _) h
theorem other_lines {m : Mach} (h : m.d.lines) : (otherTo n op nn m).d.lines := by
  unfold otherTo
  refine cond_all (fun m : Mach => m.d.lines) (lode_lines h _) ?_
  refine cond_all (fun m : Mach => m.d.lines) (stow_lines h _ _) ?_
  refine cond_all (fun m : Mach => m.d.lines) h ?_
  refine cond_all (fun m : Mach => m.d.lines) h ?_
  refine cond_all (fun m : Mach => m.d.lines) h ?_
  refine cond_all (fun m : Mach => m.d.lines) h ?_
  refine cond_all (fun m : Mach => m.d.lines) h ?_
  refine cond_all (fun m : Mach => m.d.lines) h ?_
  refine cond_all (fun m : Mach => m.d.lines) h ?_
  refine cond_all (fun m : Mach => m.d.lines) h ?_
  refine cond_all (fun m : Mach => m.d.lines) h ?_
  exact cond_all (fun m : Mach => m.d.lines) h h
theorem mid_lines (h : d.lines) : (midTo n s op nn U d).d.lines := by
  unfold midTo
  cases stackTo op nn (run0 s op) with
  | some R => exact h
  | none => exact cond_all (fun m : Mach => m.d.lines) h (other_lines h)
theorem do_lines (h : d.lines) : (doTo n s op nn U d).2.2.lines := by
  unfold doTo
  refine cond_all (fun q : Res × Mmu × Dev => q.2.2.lines) h ?_
  exact cond_all (fun q : Res × Mmu × Dev => q.2.2.lines) h (mid_lines h)
theorem tick_lines (h : d.lines) (c : Int) : (d.tick c).lines := by
  unfold Dev.tick
  exact cond_all Dev.lines h ⟨h.mask⟩
theorem tick_ok' (h : d.ok) (c : Int) : (d.tick c).ok ∧ (d.tick c).out = d.out := by
  unfold Dev.tick
  exact cond_all (fun q : Dev => q.ok ∧ q.out = d.out) ⟨h, rfl⟩ ⟨⟨h.wf.re rfl rfl rfl rfl, bits_u32 .or d.pend 1, h.mask, u0, h.status⟩, rfl⟩
theorem decodeOf_rng {b : List Int} (hb : u8s b) {op nn : Int} {z : Nat} (h : decodeOf b = some ((op, nn), z)) : u32 nn ∧ 1 ≤ z ∧ z ≤ 5 ∧ z ≤ b.length := by
  cases b with
  | nil => cases h
  | cons o l =>
    have hc : opSize o = 0 ∨ opSize o = 1 ∨ opSize o = 2 ∨ opSize o = 5 := opSize_cases o
    unfold decodeOf at h
    cases h1 : (opSize o == 0) with
    | true => simp only [h1, cond_true] at h; cases h
    | false =>
      simp only [h1, cond_false] at h
      cases h2 : decide ((l.length : Int) + 1 < opSize o) with
      | true => simp only [h2, cond_true] at h; cases h
      | false =>
        simp only [h2, cond_false, Option.some.injEq, Prod.mk.injEq] at h
        obtain ⟨⟨rfl, rfl⟩, rfl⟩ := h
        have h1 := ne_of_beq_false h1
        simp only [decide_eq_false_iff_not] at h2
        obtain ⟨r1, r2⟩ := leOf_rng (l := l.take ((opSize o).toNat - 1)) (fun x hx => hb x (List.mem_cons_of_mem _ (List.mem_of_mem_take hx)))
        have hl : (l.take ((opSize o).toNat - 1)).length ≤ 4 := by rw [List.length_take]; omega
        have hp : (256 ^ (l.take ((opSize o).toNat - 1)).length : Nat) ≤ 256 ^ 4 := Nat.pow_le_pow_right (by decide) hl
        have e4 : (256 ^ 4 : Nat) = 4294967296 := by decide
        refine ⟨⟨r1, by omega⟩, by omega, by omega, ?_⟩
        rw [List.length_cons]; omega
theorem fetchOf_rng (hM : M.ok n) {p : Nat} {op nn : Int} {z : Nat} (h : fetchOf n M p = some ((op, nn), z)) : u32 nn ∧ 1 ≤ z ∧ z ≤ 5 ∧ p / 64 < n ∧ p % 64 + z ≤ 64 := by
  unfold fetchOf at h
  cases h1 : decide (p / 64 < n) with
  | false => rw [h1] at h; cases h
  | true =>
    rw [h1, cond_true] at h
    obtain ⟨a, b, c, e⟩ := decodeOf_rng (fun x hx => hM.db x (List.mem_of_mem_drop (List.mem_of_mem_take (List.mem_of_mem_drop hx)))) h
    refine ⟨a, b, c, by simpa using h1, ?_⟩
    rw [List.length_drop, List.length_take] at e
    omega
end
end Go.Ink
