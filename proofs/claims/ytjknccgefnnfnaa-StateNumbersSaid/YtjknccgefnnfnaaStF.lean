/- What the registers come to: plain facts. No program in sight. -/
import Derived.Test.YtjknccgefnnfnaaStE
set_option linter.unusedSimpArgs false
set_option linter.unusedVariables false
namespace Go.Ink
open Go.RowKit
theorem within_rng (n lo hi : Int) (h : lo ≤ hi) : lo ≤ within n lo hi ∧ within n lo hi ≤ hi := by
  unfold within
  have h1 := Int.emod_nonneg n (show hi - lo + 1 ≠ 0 by omega)
  have h2 := Int.emod_lt_of_pos n (show 0 < hi - lo + 1 by omega)
  omega
theorem and15 (v : Int) (h : u32 v) : bits .and .u32 v 15 = v % 16 := by
  obtain ⟨h0, h1⟩ := h
  obtain ⟨n, rfl⟩ := Int.eq_ofNat_of_zero_le h0
  have e1 : (BitVec.ofInt 32 (n : Int)).toNat = n := by rw [BitVec.ofInt_natCast, BitVec.toNat_ofNat]; exact Nat.mod_eq_of_lt (by omega)
  have e2 : n &&& 15 = n % 16 := Nat.and_two_pow_sub_one_eq_mod n 4
  show IntKind.u32.wrap (((BitVec.ofInt 32 (n : Int)) &&& (BitVec.ofInt 32 15)).toNat : Int) = _
  rw [BitVec.toNat_and, e1, show (BitVec.ofInt 32 15).toNat = 15 from rfl, e2]
  rw [IntKind.wrap_u32]
  omega
theorem and63 (n : Nat) (h : n < 4294967296) : n &&& 4294967232 = n - n % 64 := by
  have h1 : n &&& 4294967232 = (n / 64) * 64 := by
    apply Nat.eq_of_testBit_eq
    intro i
    have e : (4294967232 : Nat) = (2 ^ 26 - 1) * 2 ^ 6 := by decide
    rw [e, Nat.testBit_and, show (n / 64) * 64 = (n / 2 ^ 6) * 2 ^ 6 from rfl]
    rw [Nat.testBit_mul_two_pow, Nat.testBit_mul_two_pow, Nat.testBit_two_pow_sub_one, Nat.testBit_div_two_pow]
    by_cases hi : 6 ≤ i
    · simp only [hi, decide_true, Bool.true_and, show i - 6 + 6 = i by omega]
      by_cases h26 : i - 6 < 26
      · simp [h26]
      · have : n.testBit i = false := Nat.testBit_lt_two_pow (Nat.lt_of_lt_of_le h (by
          have : 2 ^ 32 ≤ 2 ^ i := Nat.pow_le_pow_right (by omega) (by omega)
          have e : (2 : Nat) ^ 32 = 4294967296 := by decide
          omega))
        simp [this]
    · simp [hi]
  rw [h1]
  omega
theorem andNot63 (v : Int) (h : u32 v) : bits .andNot .u32 v 63 = IntKind.u32.wrap (v - v % 64) := by
  obtain ⟨h0, h1⟩ := h
  obtain ⟨n, rfl⟩ := Int.eq_ofNat_of_zero_le h0
  have e1 : (BitVec.ofInt 32 (n : Int)).toNat = n := by rw [BitVec.ofInt_natCast, BitVec.toNat_ofNat]; exact Nat.mod_eq_of_lt (by omega)
  show IntKind.u32.wrap (((BitVec.ofInt 32 (n : Int)) &&& ~~~ (BitVec.ofInt 32 63)).toNat : Int) = _
  rw [BitVec.toNat_and, e1, show (~~~ (BitVec.ofInt 32 63)).toNat = 4294967232 from by decide, and63 n (by omega)]
  congr 1
  omega
def w01 (v : Int) : Int := bif v != 0 then 1 else 0
/-- What a register holds behind a set. -/
def wantR (x v : Int) : Int :=
  bif x == 0 then w01 v else bif x == 1 then w01 v else bif x == 7 then w01 v else bif x == 8 then w01 v else bif x == 2 then IntKind.u32.wrap (v - v % 64) else bif x == 10 then v % 16 else v
theorem St.reg_cases {x : Int} (h : 0 ≤ x ∧ x ≤ 10) : x = 0 ∨ x = 1 ∨ x = 2 ∨ x = 3 ∨ x = 4 ∨ x = 5 ∨ x = 6 ∨ x = 7 ∨ x = 8 ∨ x = 9 ∨ x = 10 := by omega
theorem St.set_there (s : St) {x : Int} (v : Int) (h : 0 ≤ x ∧ x ≤ 10) : (s.set x v).2 = (x != 9) := by
  rcases St.reg_cases h with rfl | rfl | rfl | rfl | rfl | rfl | rfl | rfl | rfl | rfl | rfl <;> rfl
theorem St.get_there (s : St) {x : Int} (h : 0 ≤ x ∧ x ≤ 10) : (s.get x).2 = true := by
  rcases St.reg_cases h with rfl | rfl | rfl | rfl | rfl | rfl | rfl | rfl | rfl | rfl | rfl <;> rfl
theorem St.get_other (s : St) {x y : Int} (v : Int) (h : 0 ≤ x ∧ x ≤ 10) (h' : 0 ≤ y ∧ y ≤ 10) (hne : x ≠ y) : (s.get y).1 = ((s.set x v).1.get y).1 := by
  rcases St.reg_cases h with rfl | rfl | rfl | rfl | rfl | rfl | rfl | rfl | rfl | rfl | rfl <;>
    rcases St.reg_cases h' with rfl | rfl | rfl | rfl | rfl | rfl | rfl | rfl | rfl | rfl | rfl <;> first | rfl | exact absurd rfl hne
theorem b2i_bne (v : Int) : b2i (v != 0) = w01 v := rfl
theorem St.get_set (s : St) {x : Int} (v : Int) (h : 0 ≤ x ∧ x ≤ 10) (h9 : x ≠ 9) (hv : u32 v) : ((s.set x v).1.get x).1 = wantR x v := by
  rcases St.reg_cases h with rfl | rfl | rfl | rfl | rfl | rfl | rfl | rfl | rfl | rfl | rfl
  · rfl
  · rfl
  · show bits .andNot .u32 v 63 = IntKind.u32.wrap (v - v % 64); exact andNot63 v hv
  · rfl
  · rfl
  · rfl
  · rfl
  · rfl
  · rfl
  · exact absurd rfl h9
  · show bits .and .u32 v 15 = v % 16; exact and15 v hv
theorem St.get_none (s : St) {x : Int} (h : x < 0 ∨ 10 < x) : (s.get x).2 = false := by
  unfold St.get
  have e : ∀ k : Int, 0 ≤ k → k ≤ 10 → (x == k) = false := fun k _ _ => by rw [beq_eq_false_iff_ne]; omega
  simp only [e 0 (by omega) (by omega), e 1 (by omega) (by omega), e 2 (by omega) (by omega), e 3 (by omega) (by omega), e 4 (by omega) (by omega), e 5 (by omega) (by omega), e 6 (by omega) (by omega), e 7 (by omega) (by omega), e 8 (by omega) (by omega), e 9 (by omega) (by omega), e 10 (by omega) (by omega), cond_false]
theorem bne_f {a b : Int} (h : a = b) : (a != b) = false := by simp [h]
theorem bneb_f {a b : Bool} (h : a = b) : (a != b) = false := by simp [h]
end Go.Ink
