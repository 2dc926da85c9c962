/- What an instruction that isn't trapped does, and one that is; bytes that are cut. -/
import Derived.Test.YtmhpcgmjlpfheaaGreatDoorSqK
import Derived.Test.YtmhpcgmjlpfheaaGreatDoorInkA
set_option linter.unusedSimpArgs false
set_option linter.unusedVariables false
set_option maxRecDepth 100000
namespace Go.Ink
open Go.RowKit
section
variable {n : Nat} {op nn : Int} {s : St} {U : Mmu} {d : Dev}
theorem do_did (hw : s.wf) (hr : s.right = true) (hnn : u32 nn) (hU : UOk n U) (hd : d.ok) (h : (doTo n s op nn U d).1.trapped = false) : checkOf s op nn = 0 ∧ Did op s.next (doTo n s op nn U d).1.s := by
 have hU' : UOk n ⟨U.m.calm, U.t⟩ := ⟨hU.m.calm, hU.t⟩
 revert h
 unfold doTo
 rw [hr]
 simp only [Bool.not_true, cond_false]
 cases hck : (checkOf s op nn != 0) with
 | true => intro h; cases h
 | false =>
  have hck0 : checkOf s op nn = 0 := by simpa using hck
  have hA := mid_after (n := n) hw hr hnn hck0 hU' hd
  simp only [cond_false]
  obtain ⟨m, hm⟩ : ∃ m, midTo n s op nn ⟨U.m.calm, U.t⟩ d = m := ⟨_, rfl⟩
  rw [hm] at hA ⊢
  unfold endTo
  cases hc : (m.r.trap.cause != 0) with
  | true => intro h; cases h
  | false => exact fun _ => ⟨hck0, hA.did (by simpa using hc)⟩
end
theorem take_get {a b : List Int} {m k : Nat} (h : a.take m = b.take m) (hk : k < m) : a[k]? = b[k]? := by
 have := congrArg (fun l : List Int => l[k]?) h
 simpa [List.getElem?_take, hk] using this
theorem set_last (l : List Int) (x y : Int) : (l ++ [x]).set l.length y = l ++ [y] := by
 rw [List.set_append_right _ _ (Nat.le_refl _), Nat.sub_self]
 rfl
theorem rd_take {W : World} {k : IntKind} {A : Option Addr} {c : Nat} {b : List Int} (h : Rd W k A b.length c b) (m : Nat) : Rd W k A (b.take m).length c (b.take m) := by
 refine ⟨by simp [ints], ?_, h.max, fun e => ?_, fun ad e j u hu => h.at_ ad e j u ?_⟩
 ·have := h.cap; rw [List.length_take]; omega
 ·have := h.nil e; rw [List.length_take]; omega
 unfold ints at hu ⊢
 rw [List.getElem?_map] at hu ⊢
 rw [List.getElem?_take] at hu
 by_cases hj : j < m
 ·simpa [hj] using hu
 simp [hj] at hu
theorem u8s_take {l : List Int} (h : u8s l) (m : Nat) : u8s (l.take m) := fun x hx => h x (List.mem_of_mem_take hx)
end Go.Ink
namespace Go.Proofs.YtmhpcgmjlpfheaaGreatDoor
open Go.RowKit Go.Ink
attribute [local irreducible] OpY GuardIs

theorem wf_u8 {n : Int} (h : (Lit.int .u8 n).wf = true) : 0 ≤ n ∧ n ≤ 255 := by
 simp only [Lit.wf, Bool.and_eq_true, decide_eq_true_eq] at h
 have h1 : IntKind.u8.min = 0 := rfl
 have h2 : IntKind.u8.max = 255 := rfl
 rw [h1, h2] at h
 exact h
theorem open_bytes {W : World} {v : Value} (h : ArgV Tryz.prog W 29 v) : ∃ (B : Option Addr) (cb : Nat) (b : List Int), v = .slice B b.length cb ∧ Rd W .u8 B b.length cb b ∧ u8s b := by
 obtain ⟨B, cb, b, h1, h2, -, h3⟩ := h.ints (e := 5) (k := .u8) rfl rfl rfl
 exact ⟨B, cb, b, h1, h2, fun x hx => wf_u8 (h3 x hx)⟩
end Go.Proofs.YtmhpcgmjlpfheaaGreatDoor
