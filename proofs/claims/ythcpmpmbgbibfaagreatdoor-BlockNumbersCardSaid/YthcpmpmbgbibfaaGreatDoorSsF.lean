/- The document's words and flags, and its instructions' sizes. -/
import Derived.Test.YthcpmpmbgbibfaaGreatDoorSqI
import Derived.Test.YthcpmpmbgbibfaaGreatDoorInkA
set_option linter.unusedSimpArgs false
set_option linter.unusedVariables false
set_option maxRecDepth 100000
set_option maxHeartbeats 1000000
namespace Go.Ink
open Go.RowKit
/-- The highest bit. -/
def hiB (x : Int) : Bool := decide (2147483648 ≤ x)
theorem hiB_bv {x : Int} (h : u32 x) : (BitVec.ofInt 32 x).msb = hiB x := by
 obtain ⟨a, rfl⟩ : ∃ a : Nat, x = a := Int.eq_ofNat_of_zero_le h.1
 have := h.2
 rw [BitVec.msb_eq_decide, BitVec.ofInt_natCast, BitVec.toNat_ofNat, Nat.mod_eq_of_lt (by omega)]
 exact decide_eq_decide.2 (by omega)
theorem bv_hiB (v : BitVec 32) : hiB (IntKind.u32.wrap (v.toNat : Int)) = v.msb := by
 rw [BitVec.msb_eq_decide, u32_wrap_id _ (by omega) (by have := v.isLt; omega)]
 exact decide_eq_decide.2 (by omega)
theorem hiB_xor {a b : Int} (ha : u32 a) (hb : u32 b) : hiB (bits .xor .u32 a b) = (hiB a ^^ hiB b) := by
 rw [← hiB_bv ha, ← hiB_bv hb, ← BitVec.msb_xor]
 exact bv_hiB _
theorem hiB_and {a b : Int} (ha : u32 a) (hb : u32 b) : hiB (bits .and .u32 a b) = (hiB a && hiB b) := by
 rw [← hiB_bv ha, ← hiB_bv hb, ← BitVec.msb_and]
 exact bv_hiB _
theorem and_hi {x : Int} (h : u32 x) : (bits .and .u32 x 2147483648 != 0) = hiB x := by
 obtain ⟨a, rfl⟩ : ∃ a : Nat, x = a := Int.eq_ofNat_of_zero_le h.1
 have h2 := h.2
 have e1 : (BitVec.ofInt 32 (a : Int)).toNat = a := by rw [BitVec.ofInt_natCast, BitVec.toNat_ofNat]; exact Nat.mod_eq_of_lt (by omega)
 have e : bits .and .u32 (a : Int) 2147483648 = ((a &&& 2 ^ 31 : Nat) : Int) := by
  show IntKind.u32.wrap (((BitVec.ofInt 32 (a : Int)) &&& (BitVec.ofInt 32 2147483648)).toNat : Int) = _
  have e2 : (BitVec.ofInt 32 2147483648).toNat = 2 ^ 31 := by decide
  have e3 : a &&& 2 ^ 31 ≤ 2 ^ 31 := Nat.and_le_right
  rw [BitVec.toNat_and, e1, e2, u32_wrap_id _ (by omega) (by omega)]
 have key : (((a &&& 2 ^ 31 : Nat) : Int) != 0) = a.testBit 31 := by
  cases ht : a.testBit 31 with
  | true =>
   have h1 : (a &&& 2 ^ 31).testBit 31 = true := by rw [Nat.testBit_and, ht, Nat.testBit_two_pow]; rfl
   have h3 : a &&& 2 ^ 31 ≠ 0 := fun h0 => by rw [h0] at h1; simp at h1
   simp only [bne_iff_ne, ne_eq]
   omega
  | false =>
   have h1 : a &&& 2 ^ 31 = 0 := by
    apply Nat.eq_of_testBit_eq
    intro i
    rw [Nat.testBit_and, Nat.testBit_two_pow, Nat.zero_testBit]
    by_cases hi : 31 = i
    ·subst hi; rw [ht]; rfl
    simp [hi]
   rw [h1]
   rfl
 rw [e, key]
 unfold hiB
 cases ht : a.testBit 31 with
 | true =>
  have : 2 ^ 31 ≤ a := Nat.ge_two_pow_of_testBit ht
  rw [decide_eq_true (by omega)]
 | false =>
  have h3 : a < 2 ^ 31 := by
   rcases Nat.lt_or_ge a (2 ^ 31) with h | h
   ·exact h
   exfalso
   have : a.testBit 31 = true := by
    rw [Nat.testBit_eq_decide_div_mod_eq]
    simp
    omega
   rw [this] at ht
   cases ht
  rw [decide_eq_false (by omega)]
theorem shr31 {x : Int} (h : u32 x) : x.fdiv (2 ^ 31) = if hiB x then 1 else 0 := by
 have h1 := h.1
 have h2 := h.2
 rw [shrE x 31]
 unfold hiB
 by_cases hc : 2147483648 ≤ x
 ·simp only [hc, decide_true, if_true]; omega
 simp only [hc, decide_false, Bool.false_eq_true, if_false]; omega
theorem shr31_eq {x y : Int} (hx : u32 x) (hy : u32 y) : (x.fdiv (2 ^ 31) == y.fdiv (2 ^ 31)) = (hiB x == hiB y) := by
 rw [shr31 hx, shr31 hy]
 cases hiB x <;> cases hiB y <;> decide
theorem shr31_ne {x y : Int} (hx : u32 x) (hy : u32 y) : (x.fdiv (2 ^ 31) != y.fdiv (2 ^ 31)) = (hiB x != hiB y) := by
 rw [shr31 hx, shr31 hy]
 cases hiB x <;> cases hiB y <;> decide
/-- The document's flags: carry and overflow, then zero and negative. -/
def flRef (c o : Bool) (r : Int) : Int :=
 bif hiB r then bits .or .u32 (bif r == 0 then bits .or .u32 (bif o then bits .or .u32 (bif c then 4 else 0) 8 else bif c then 4 else 0) 1 else bif o then bits .or .u32 (bif c then 4 else 0) 8 else bif c then 4 else 0) 2
 else bif r == 0 then bits .or .u32 (bif o then bits .or .u32 (bif c then 4 else 0) 8 else bif c then 4 else 0) 1 else bif o then bits .or .u32 (bif c then 4 else 0) 8 else bif c then 4 else 0
theorem flPlain_hi {r : Int} (h : u32 r) : flPlain r = flRef false false r := by
 unfold flPlain flRef
 rw [and_hi h]
 cases hiB r <;> cases (r == 0) <;> decide
theorem flTail_ref {a b r x : Int} (h : u32 x) {c : Bool} {o : Int} {ob : Bool} (ho : (o != 0) = ob) : flTail a b r (flPlain x) c o = flRef c ob x := by
 unfold flTail flPlain flRef
 rw [and_hi h, ho]
 cases hiB x <;> cases (x == 0) <;> cases c <;> cases ob <;> decide
theorem ovMore {a b r : Int} (ha : u32 a) (hb : u32 b) (hr : u32 r) : (bits .and .u32 (bits .and .u32 (bits .xor .u32 a r) (bits .xor .u32 b r)) 2147483648 != 0) = ((hiB a == hiB b) && (hiB r != hiB a)) := by
 rw [and_hi (bits_u32 _ _ _), hiB_and (bits_u32 _ _ _) (bits_u32 _ _ _), hiB_xor ha hr, hiB_xor hb hr]
 cases hiB a <;> cases hiB b <;> cases hiB r <;> rfl
theorem ovLess {a b r : Int} (ha : u32 a) (hb : u32 b) (hr : u32 r) : (bits .and .u32 (bits .and .u32 (bits .xor .u32 a b) (bits .xor .u32 a r)) 2147483648 != 0) = ((hiB a != hiB b) && (hiB r != hiB a)) := by
 rw [and_hi (bits_u32 _ _ _), hiB_and (bits_u32 _ _ _) (bits_u32 _ _ _), hiB_xor ha hb, hiB_xor ha hr]
 cases hiB a <;> cases hiB b <;> cases hiB r <;> rfl
theorem more_ref {a b : Int} (ha : u32 a) (hb : u32 b) : flMore a b = flRef (decide (4294967296 ≤ a + b)) ((hiB a == hiB b) && (hiB (IntKind.u32.wrap (a + b)) != hiB a)) (IntKind.u32.wrap (a + b)) := by
 have e : decide (IntKind.u32.wrap (a + b) < a) = decide (4294967296 ≤ a + b) := decide_eq_decide.2 (by
  have := ha.1; have := ha.2; have := hb.1; have := hb.2
  rw [IntKind.wrap_u32]
  omega)
 unfold flMore
 rw [e]
 exact flTail_ref (wrap_u32 _) (ovMore ha hb (wrap_u32 _))
theorem less_ref {a b : Int} (ha : u32 a) (hb : u32 b) : flLess a b = flRef (decide (a < b)) ((hiB a != hiB b) && (hiB (IntKind.u32.wrap (a - b)) != hiB a)) (IntKind.u32.wrap (a - b)) := by
 unfold flLess
 exact flTail_ref (wrap_u32 _) (ovLess ha hb (wrap_u32 _))
/-- What the document's raw tells: the result, carry and overflow, is it one. -/
def rawTo (op a b : Int) : Int × (Bool × Bool) × Bool :=
 bif op == 16 then (IntKind.u32.wrap (a + b), (decide (4294967296 ≤ a + b), (hiB a == hiB b) && (hiB (IntKind.u32.wrap (a + b)) != hiB a)), true) else
 bif op == 17 || op == 25 then (IntKind.u32.wrap (a - b), (decide (a < b), (hiB a != hiB b) && (hiB (IntKind.u32.wrap (a - b)) != hiB a)), true) else
 bif op == 18 then (bits .and .u32 a b, (false, false), true) else bif op == 19 then (bits .or .u32 a b, (false, false), true) else bif op == 20 then (bits .xor .u32 a b, (false, false), true) else
 bif op == 21 then (arMoved a b true, (false, false), true) else bif op == 22 then (arMoved a b false, (false, false), true) else bif op == 23 then (IntKind.u32.wrap (a * b), (false, false), true) else
 bif op == 24 && b != 0 then (IntKind.u32.wrap (a.tdiv b), (false, false), true) else (0, (false, false), false)
def rawFl (c o : Bool) : Int := bif o then bits .or .u32 (bif c then 4 else 0) 8 else bif c then 4 else 0
theorem arDo_raw {op a b : Int} (ha : u32 a) (hb : u32 b) : arDo op a b = bif !(rawTo op a b).2.2 then (0, 0, false) else (bif op == 25 then 0 else (rawTo op a b).1, flRef (rawTo op a b).2.1.1 (rawTo op a b).2.1.2 (rawTo op a b).1, true) := by
 have hP : ∀ {r : Int}, u32 r → arOf r = (r, flRef false false r, true) := fun h => by unfold arOf; rw [flPlain_hi h]
 have hmv : ∀ up, u32 (arMoved a b up) := fun up => by unfold arMoved; exact cond_all u32 u0 (cond_all u32 (wrap_u32 _) (fdiv_u32 ha _))
 by_cases e : op = 16
 ·subst e; show (_, flMore a b, true) = _; rw [more_ref ha hb]; rfl
 have e16 : (op == 16) = false := by simpa using e
 by_cases e : op = 17
 ·subst e; show (_, flLess a b, true) = _; rw [less_ref ha hb]; rfl
 have e17 : (op == 17) = false := by simpa using e
 by_cases e : op = 25
 ·subst e; show (_, flLess a b, true) = _; rw [less_ref ha hb]; rfl
 have e25 : (op == 25) = false := by simpa using e
 by_cases e : op = 18
 ·subst e; show arOf _ = _; rw [hP (bits_u32 _ _ _)]; rfl
 have e18 : (op == 18) = false := by simpa using e
 by_cases e : op = 19
 ·subst e; show arOf _ = _; rw [hP (bits_u32 _ _ _)]; rfl
 have e19 : (op == 19) = false := by simpa using e
 by_cases e : op = 20
 ·subst e; show arOf _ = _; rw [hP (bits_u32 _ _ _)]; rfl
 have e20 : (op == 20) = false := by simpa using e
 by_cases e : op = 21
 ·subst e; show arOf _ = _; rw [hP (hmv true)]; rfl
 have e21 : (op == 21) = false := by simpa using e
 by_cases e : op = 22
 ·subst e; show arOf _ = _; rw [hP (hmv false)]; rfl
 have e22 : (op == 22) = false := by simpa using e
 by_cases e : op = 23
 ·subst e; show arOf _ = _; rw [hP (wrap_u32 _)]; rfl
 have e23 : (op == 23) = false := by simpa using e
 by_cases e : op = 24
 ·subst e
  show (bif b == 0 then _ else arOf _) = _
  unfold rawTo
  cases hz : (b == 0) with
  | true => simp [hz, bne]
  | false => rw [hP (wrap_u32 _)]; simp [hz, bne]
 have e24 : (op == 24) = false := by simpa using e
 unfold arDo rawTo
 simp only [e16, e17, e25, e18, e19, e20, e21, e22, e23, e24, cond_false, Bool.false_and, Bool.or_false, Bool.not_false, cond_true]
theorem wrap_i8' (n : Int) : IntKind.i8.wrap n = (n + 128) % 256 - 128 := by
 simp [IntKind.wrap, IntKind.signed, IntKind.bits]
 split <;> omega
theorem sign_ref {b : Int} (h : u32 b) : arSign b = if 128 ≤ b % 256 then IntKind.u32.wrap (b % 256 - 256) else b % 256 := by
 have h1 := h.1
 unfold arSign
 rw [IntKind.wrap_u32, IntKind.wrap_i32, wrap_i8']
 split
 ·rw [IntKind.wrap_u32]; omega
 omega
/-- How long an instruction is, as the document tells it. -/
def sizeR (op : Int) : Int :=
 bif op == 2 then 5 else bif (((op == 1) || (decide (32 ≤ op) && decide (op ≤ 38))) || (op == 66)) || (op == 67) then 2 else
 bif (((((decide (0 ≤ op) && decide (op ≤ 8)) || (decide (16 ≤ op) && decide (op ≤ 25))) || (op == 39)) || (op == 40)) || (decide (48 ≤ op) && decide (op ≤ 53))) || (decide (64 ≤ op) && decide (op ≤ 69)) then 1 else 0
theorem size_fin : ∀ k : Fin 70, sizeR (k.val : Int) = opSize (k.val : Int) := by decide +kernel
theorem op_cases (op : Int) : (∃ k : Fin 70, op = (k.val : Int)) ∨ (∀ k : Int, 0 ≤ k → k ≤ 69 → (op == k) = false) ∧ (op < 0 ∨ 69 < op) := by
 by_cases h : 0 ≤ op ∧ op ≤ 69
 ·exact .inl ⟨⟨op.toNat, by omega⟩, by show op = ((op.toNat : Nat) : Int); omega⟩
 exact .inr ⟨fun k h1 h2 => by simp only [beq_eq_false_iff_ne, ne_eq]; omega, by omega⟩
theorem size_ref (op : Int) : sizeR op = opSize op := by
 rcases op_cases op with ⟨k, rfl⟩ | ⟨e, h⟩
 ·exact size_fin k
 have r : ∀ a b : Int, 0 ≤ a → b ≤ 69 → (decide (a ≤ op) && decide (op ≤ b)) = false := fun a b ha hb => by
  rw [Bool.and_eq_false_iff, decide_eq_false_iff_not, decide_eq_false_iff_not]; omega
 unfold sizeR opSize opKnown opOther
 rw [r 32 38 (by decide) (by decide), r 0 8 (by decide) (by decide), r 16 25 (by decide) (by decide), r 48 53 (by decide) (by decide), r 64 69 (by decide) (by decide)]
 simp [e]
def needsR (op : Int) : (Nat × Nat) × (Nat × Nat) :=
 bif op == 1 then ((0, 1), (0, 0)) else bif op == 2 then ((0, 1), (0, 0)) else bif op == 66 then ((0, 1), (0, 0)) else bif op == 3 then ((1, 2), (0, 0)) else
 bif op == 4 then ((1, 0), (0, 0)) else bif op == 40 then ((1, 0), (0, 0)) else bif op == 67 then ((1, 0), (0, 0)) else bif op == 68 then ((1, 0), (0, 0)) else
 bif op == 5 then ((2, 2), (0, 0)) else bif op == 6 then ((2, 3), (0, 0)) else bif op == 7 then ((1, 0), (0, 1)) else bif op == 8 then ((0, 1), (1, 0)) else
 bif op == 25 then ((2, 0), (0, 0)) else bif op == 49 then ((2, 0), (0, 0)) else bif op == 51 then ((2, 0), (0, 0)) else bif op == 53 then ((2, 0), (0, 0)) else
 bif op == 48 then ((1, 1), (0, 0)) else bif op == 50 then ((1, 1), (0, 0)) else bif op == 52 then ((1, 1), (0, 0)) else
 bif op == 38 then ((0, 0), (0, 1)) else bif op == 39 then ((0, 0), (1, 0)) else bif decide (16 ≤ op) && decide (op ≤ 24) then ((2, 1), (0, 0)) else ((0, 0), (0, 0))
theorem needs_fin : ∀ k : Fin 70, needsR (k.val : Int) = opNeeds (k.val : Int) := by decide +kernel
theorem needs_ref (op : Int) : needsR op = opNeeds op := by
 rcases op_cases op with ⟨k, rfl⟩ | ⟨e, h⟩
 ·exact needs_fin k
 have r : (decide (16 ≤ op) && decide (op ≤ 24)) = false := by rw [Bool.and_eq_false_iff, decide_eq_false_iff_not, decide_eq_false_iff_not]; omega
 unfold needsR opNeeds
 rw [r]
 simp [e]
theorem get_known {s : St} {n : Int} (h : 0 ≤ n) : (s.get n).2 = decide (n ≤ 10) := by
 by_cases hn : n ≤ 10
 ·obtain rfl | rfl | rfl | rfl | rfl | rfl | rfl | rfl | rfl | rfl | rfl : n = 0 ∨ n = 1 ∨ n = 2 ∨ n = 3 ∨ n = 4 ∨ n = 5 ∨ n = 6 ∨ n = 7 ∨ n = 8 ∨ n = 9 ∨ n = 10 := by omega
  all_goals rfl
 have e : ∀ k : Int, k ≤ 10 → (n == k) = false := fun k hk => by simp only [beq_eq_false_iff_ne, ne_eq]; omega
 rw [decide_eq_false hn]
 unfold St.get
 simp [e]
theorem set_known {s : St} {n : Int} (h : 0 ≤ n) (v : Int) : (s.set n v).2 = (decide (n ≤ 10) && (n != 9)) := by
 by_cases hn : n ≤ 10
 ·obtain rfl | rfl | rfl | rfl | rfl | rfl | rfl | rfl | rfl | rfl | rfl : n = 0 ∨ n = 1 ∨ n = 2 ∨ n = 3 ∨ n = 4 ∨ n = 5 ∨ n = 6 ∨ n = 7 ∨ n = 8 ∨ n = 9 ∨ n = 10 := by omega
  all_goals rfl
 have e : ∀ k : Int, k ≤ 10 → (n == k) = false := fun k hk => by simp only [beq_eq_false_iff_ne, ne_eq]; omega
 rw [decide_eq_false hn]
 unfold St.set
 simp [e]
theorem check_ref {s : St} {op n : Int} (h : 0 ≤ n) : checkOf s op n = bif !opRight op n then 1 else bif opSuper op && !s.super then 2 else bif ((op == 66) || (op == 67)) && (decide (10 < n) || ((op == 67) && (n == 9))) then 1 else needOf s (opNeeds op) := by
 unfold checkOf
 rw [get_known h, set_known h]
 have e : (!decide (n ≤ 10)) = decide (10 < n) := by
  by_cases hn : n ≤ 10
  ·rw [decide_eq_true hn, decide_eq_false (by omega)]; rfl
  rw [decide_eq_false hn, decide_eq_true (by omega)]; rfl
 by_cases e6 : op = 66
 ·subst e6
  cases hr : opRight 66 n <;> cases hs : (opSuper 66 && !s.super) <;> simp [e]
 by_cases e7 : op = 67
 ·subst e7
  cases hr : opRight 67 n <;> cases hs : (opSuper 67 && !s.super) <;> simp [e, bne]
 have a6 : (op == 66) = false := by simpa using e6
 have a7 : (op == 67) = false := by simpa using e7
 rw [a6, a7]
 simp
end Go.Ink
namespace Go.Proofs.YthcpmpmbgbibfaaGreatDoor
open Go.RowKit Go.Ink
attribute [local irreducible] OpY GuardIs

theorem refsize_ok (op : Int) (w : World) : Ctr Tryz.prog 95 [.int .i64 op] w [] (fun v cs => v = .int .i64 (opSize op) ∧ cs = []) := by
 rw [← size_ref]
 refine fn_ctr Tryz.func95 rfl Tryz.ntmps95 rfl (Inv.start w) ?_
 refine Zs (Zr (ZA ?_))
 refine Zn (Zt (Zs (Zx (Zs (Zr (ZA ?_))))))
 iterate 2 refine ZA ?_
 refine Zn (Zt ?_)
 refine wc_cond _ rfl (fun hc1 => ?_) (fun hc1 => ?_)
 ·refine Zs (Zr (ZA ?_))
  refine Zn (Zt (Ze (Zq (Zw (ret1 (cs' := []) (.inl rfl) Zu rfl rfl ?_)))))
  refine ⟨?_, rfl⟩
  simp only [sizeR, *, cond_true, cond_false]
 refine Zs (Zr (ZA ?_))
 iterate 2 refine ZA ?_
 iterate 6 refine ZB ?_
 iterate 2 refine ZA ?_
 iterate 2 refine ZB ?_
 iterate 2 refine ZA ?_
 iterate 2 refine ZB ?_
 iterate 2 refine ZA ?_
 refine Zn (Zt ?_)
 refine wc_cond _ rfl (fun hc3 => ?_) (fun hc3 => ?_)
 ·refine Zs (Zr (ZA ?_))
  refine Zn (Zt (Ze (Zq (Zw (ret1 (cs' := []) (.inl rfl) Zu rfl rfl ?_)))))
  refine ⟨?_, rfl⟩
  simp only [sizeR, *, cond_true, cond_false]
 refine Zs (Zr (ZA ?_))
 iterate 2 refine ZA ?_
 iterate 2 refine ZB ?_
 iterate 2 refine ZA ?_
 iterate 6 refine ZB ?_
 iterate 2 refine ZA ?_
 iterate 2 refine ZB ?_
 iterate 2 refine ZA ?_
 iterate 2 refine ZB ?_
 iterate 2 refine ZA ?_
 iterate 6 refine ZB ?_
 iterate 2 refine ZA ?_
 iterate 6 refine ZB ?_
 iterate 2 refine ZA ?_
 refine Zn (Zt ?_)
 refine wc_cond _ rfl (fun hc5 => ?_) (fun hc5 => ?_)
 ·refine Zs (Zr (ZA ?_))
  refine Zn (Zt (Ze (Zq (Zw (ret1 (cs' := []) (.inl rfl) Zu rfl rfl ?_)))))
  refine ⟨?_, rfl⟩
  simp only [sizeR, *, cond_true, cond_false]
 refine Zc (Zo (Zt (Zs (Zr (ZA ?_)))))
 refine Zn (Zt (Ze (ret1 (cs' := []) (.inl rfl) Zu rfl rfl ?_)))
 refine ⟨?_, rfl⟩
 simp only [sizeR, *, cond_true, cond_false]
theorem refright2_ok (op n : Int) (hn : u32 n) (w : World) : Ctr Tryz.prog 123 [.agg #[.int .i64 op, .int .u32 n]] w [] (fun v cs => v = .bool (opRight op n) ∧ cs = []) := by
 have HZ := refsize_ok op
 obtain ⟨z, hz⟩ : ∃ z, opSize op = z := ⟨_, rfl⟩
 have hz4 : z = 0 ∨ z = 1 ∨ z = 2 ∨ z = 5 := by
  rw [← hz, ← size_ref]
  unfold sizeR
  exact cond_all (fun z : Int => z = 0 ∨ z = 1 ∨ z = 2 ∨ z = 5) (by decide) (cond_all (fun z : Int => z = 0 ∨ z = 1 ∨ z = 2 ∨ z = 5) (by decide) (cond_all (fun z : Int => z = 0 ∨ z = 1 ∨ z = 2 ∨ z = 5) (by decide) (by decide)))
 have e : (((z == 5) || ((z == 2) && decide (n < 256))) || ((z == 1) && (n == 0))) = opRight op n := by
  unfold opRight
  have e2 : decide (n < 256) = decide (n ≤ 255) := decide_eq_decide.2 (by omega)
  rw [hz, e2]
  rcases hz4 with rfl | rfl | rfl | rfl <;> simp
 rw [← e]
 rw [hz] at HZ
 refine fn_ctr Tryz.func123 rfl Tryz.ntmps123 rfl (Inv.start w) ?_
 refine Zs (Zr (ZO fun b1 => ?_))
 refine ZA ?_
 refine Zn (Zt (Zs (Zr (ZFa 0 ?_))))
 refine ZC ?_
 refine ZS (fun w hi => HZ w) ?_
 rintro _ _ ⟨_, ⟨rfl, rfl⟩, rfl⟩
 refine ZA ?_
 refine Zn (Zt (Zs (Zr (ZA ?_))))
 iterate 2 refine ZA ?_
 iterate 3 refine ZB ?_
 refine ZFb 1 ?_
 refine ZD ?_
 iterate 2 refine ZB ?_
 iterate 2 refine ZA ?_
 iterate 3 refine ZB ?_
 refine ZFb 1 ?_
 refine ZD ?_
 iterate 2 refine ZB ?_
 iterate 2 refine ZA ?_
 refine Zn (Zt (Ze (ret1 (cs' := []) (.inl rfl) Zu rfl rfl ?_)))
 exact ⟨rfl, rfl⟩
theorem refsuper_ok (op : Int) (w : World) : Ctr Tryz.prog 124 [.int .i64 op] w [] (fun v cs => v = .bool (opSuper op) ∧ cs = []) := by
 refine fn_ctr Tryz.func124 rfl Tryz.ntmps124 rfl (Inv.start w) ?_
 refine Zs (Zr (ZA ?_))
 refine Zn (Zt (Zs (Zr (ZA ?_))))
 iterate 2 refine ZA ?_
 iterate 2 refine ZB ?_
 iterate 2 refine ZA ?_
 refine Zn (Zt (Ze (ret1 (cs' := []) (.inl rfl) Zu rfl rfl ?_)))
 exact ⟨rfl, rfl⟩
abbrev needV (q : (Nat × Nat) × (Nat × Nat)) : List Value := [.int .i64 (q.1.1 : Int), .int .i64 (q.1.2 : Int), .int .i64 (q.2.1 : Int), .int .i64 (q.2.2 : Int)]
theorem refneeds_ok (op : Int) (w : World) : Ctr Tryz.prog 122 [.int .i64 op] w [] (fun v cs => v = .agg (needV (opNeeds op)).toArray ∧ cs = []) := by
 rw [← needs_ref]
 refine fn_ctr Tryz.func122 rfl Tryz.ntmps122 rfl (Inv.start w) ?_
 refine Zs (Zr (ZN fun b2 => ?_))
 refine Zn (Zt (Zs (Zs (Zr (ZA ?_)))))
 refine Zn (Zt (Zx (Zs (Zs (Zr (ZA ?_))))))
 refine ZA ?_
 refine Zn (Zt ?_)
 refine wc_cond _ rfl (fun hc2 => ?_) (fun hc2 => ?_)
 ·refine Zc (Zt (wc_cond_t rfl (hc2) ?_))
  refine Zs (Zr (ZA ?_))
  refine ZM ?_
  refine Zn (Zt (Ze (Zq (Zw (retC (cs' := []) (.inl rfl) Zu rfl rfl Zh (fun _ => rfl) (fun _ => rfl) ?_)))))
  refine ⟨?_, rfl⟩
  simp only [needsR, needV, *, cond_true, cond_false] <;> rfl
 refine Zs (Zr (ZA ?_))
 refine ZA ?_
 refine Zn (Zt ?_)
 refine wc_cond _ rfl (fun hc3 => ?_) (fun hc3 => ?_)
 ·refine Zc (Zt (wc_cond_t rfl (hc3) ?_))
  refine Zs (Zr (ZA ?_))
  refine ZM ?_
  refine Zn (Zt (Ze (Zq (Zw (retC (cs' := []) (.inl rfl) Zu rfl rfl Zh (fun _ => rfl) (fun _ => rfl) ?_)))))
  refine ⟨?_, rfl⟩
  simp only [needsR, needV, *, cond_true, cond_false] <;> rfl
 refine Zr (ZA ?_)
 refine ZA ?_
 refine Zn (Zt ?_)
 refine wc_cond _ rfl (fun hc4 => ?_) (fun hc4 => ?_)
 ·refine Zs (Zr (ZA ?_))
  refine ZM ?_
  refine Zn (Zt (Ze (Zq (Zw (retC (cs' := []) (.inl rfl) Zu rfl rfl Zh (fun _ => rfl) (fun _ => rfl) ?_)))))
  refine ⟨?_, rfl⟩
  simp only [needsR, needV, *, cond_true, cond_false] <;> rfl
 refine Zs (Zr (ZA ?_))
 refine ZA ?_
 refine Zn (Zt ?_)
 refine wc_cond _ rfl (fun hc6 => ?_) (fun hc6 => ?_)
 ·refine Zs (Zr (ZA ?_))
  refine ZM ?_
  refine Zn (Zt (Ze (Zq (Zw (retC (cs' := []) (.inl rfl) Zu rfl rfl Zh (fun _ => rfl) (fun _ => rfl) ?_)))))
  refine ⟨?_, rfl⟩
  simp only [needsR, needV, *, cond_true, cond_false] <;> rfl
 refine Zs (Zs (Zr (ZA ?_)))
 refine ZA ?_
 refine Zn (Zt ?_)
 refine wc_cond _ rfl (fun hc8 => ?_) (fun hc8 => ?_)
 ·refine Zc (Zt (wc_cond_t rfl (hc8) ?_))
  refine Zs (Zr (ZA ?_))
  refine ZM ?_
  refine Zn (Zt (Ze (Zq (Zw (retC (cs' := []) (.inl rfl) Zu rfl rfl Zh (fun _ => rfl) (fun _ => rfl) ?_)))))
  refine ⟨?_, rfl⟩
  simp only [needsR, needV, *, cond_true, cond_false] <;> rfl
 refine Zs (Zr (ZA ?_))
 refine ZA ?_
 refine Zn (Zt ?_)
 refine wc_cond _ rfl (fun hc9 => ?_) (fun hc9 => ?_)
 ·refine Zc (Zt (wc_cond_t rfl (hc9) ?_))
  refine Zs (Zr (ZA ?_))
  refine ZM ?_
  refine Zn (Zt (Ze (Zq (Zw (retC (cs' := []) (.inl rfl) Zu rfl rfl Zh (fun _ => rfl) (fun _ => rfl) ?_)))))
  refine ⟨?_, rfl⟩
  simp only [needsR, needV, *, cond_true, cond_false] <;> rfl
 refine Zs (Zr (ZA ?_))
 refine ZA ?_
 refine Zn (Zt ?_)
 refine wc_cond _ rfl (fun hc10 => ?_) (fun hc10 => ?_)
 ·refine Zc (Zt (wc_cond_t rfl (hc10) ?_))
  refine Zs (Zr (ZA ?_))
  refine ZM ?_
  refine Zn (Zt (Ze (Zq (Zw (retC (cs' := []) (.inl rfl) Zu rfl rfl Zh (fun _ => rfl) (fun _ => rfl) ?_)))))
  refine ⟨?_, rfl⟩
  simp only [needsR, needV, *, cond_true, cond_false] <;> rfl
 refine Zr (ZA ?_)
 refine ZA ?_
 refine Zn (Zt ?_)
 refine wc_cond _ rfl (fun hc11 => ?_) (fun hc11 => ?_)
 ·refine Zs (Zr (ZA ?_))
  refine ZM ?_
  refine Zn (Zt (Ze (Zq (Zw (retC (cs' := []) (.inl rfl) Zu rfl rfl Zh (fun _ => rfl) (fun _ => rfl) ?_)))))
  refine ⟨?_, rfl⟩
  simp only [needsR, needV, *, cond_true, cond_false] <;> rfl
 refine Zs (Zr (ZA ?_))
 refine ZA ?_
 refine Zn (Zt ?_)
 refine wc_cond _ rfl (fun hc13 => ?_) (fun hc13 => ?_)
 ·refine Zs (Zr (ZA ?_))
  refine ZM ?_
  refine Zn (Zt (Ze (Zq (Zw (retC (cs' := []) (.inl rfl) Zu rfl rfl Zh (fun _ => rfl) (fun _ => rfl) ?_)))))
  refine ⟨?_, rfl⟩
  simp only [needsR, needV, *, cond_true, cond_false] <;> rfl
 refine Zs (Zr (ZA ?_))
 refine ZA ?_
 refine Zn (Zt ?_)
 refine wc_cond _ rfl (fun hc15 => ?_) (fun hc15 => ?_)
 ·refine Zs (Zr (ZA ?_))
  refine ZM ?_
  refine Zn (Zt (Ze (Zq (Zw (retC (cs' := []) (.inl rfl) Zu rfl rfl Zh (fun _ => rfl) (fun _ => rfl) ?_)))))
  refine ⟨?_, rfl⟩
  simp only [needsR, needV, *, cond_true, cond_false] <;> rfl
 refine Zs (Zr (ZA ?_))
 refine ZA ?_
 refine Zn (Zt ?_)
 refine wc_cond _ rfl (fun hc17 => ?_) (fun hc17 => ?_)
 ·refine Zs (Zr (ZA ?_))
  refine ZM ?_
  refine Zn (Zt (Ze (Zq (Zw (retC (cs' := []) (.inl rfl) Zu rfl rfl Zh (fun _ => rfl) (fun _ => rfl) ?_)))))
  refine ⟨?_, rfl⟩
  simp only [needsR, needV, *, cond_true, cond_false] <;> rfl
 refine Zs (Zr (ZA ?_))
 refine ZA ?_
 refine Zn (Zt ?_)
 refine wc_cond _ rfl (fun hc19 => ?_) (fun hc19 => ?_)
 ·refine Zs (Zr (ZA ?_))
  refine ZM ?_
  refine Zn (Zt (Ze (Zq (Zw (retC (cs' := []) (.inl rfl) Zu rfl rfl Zh (fun _ => rfl) (fun _ => rfl) ?_)))))
  refine ⟨?_, rfl⟩
  simp only [needsR, needV, *, cond_true, cond_false] <;> rfl
 refine Zs (Zs (Zr (ZA ?_)))
 refine ZA ?_
 refine Zn (Zt ?_)
 refine wc_cond _ rfl (fun hc21 => ?_) (fun hc21 => ?_)
 ·refine Zc (Zt (wc_cond_t rfl (hc21) ?_))
  refine Zs (Zr (ZA ?_))
  refine ZM ?_
  refine Zn (Zt (Ze (Zq (Zw (retC (cs' := []) (.inl rfl) Zu rfl rfl Zh (fun _ => rfl) (fun _ => rfl) ?_)))))
  refine ⟨?_, rfl⟩
  simp only [needsR, needV, *, cond_true, cond_false] <;> rfl
 refine Zs (Zr (ZA ?_))
 refine ZA ?_
 refine Zn (Zt ?_)
 refine wc_cond _ rfl (fun hc22 => ?_) (fun hc22 => ?_)
 ·refine Zc (Zt (wc_cond_t rfl (hc22) ?_))
  refine Zs (Zr (ZA ?_))
  refine ZM ?_
  refine Zn (Zt (Ze (Zq (Zw (retC (cs' := []) (.inl rfl) Zu rfl rfl Zh (fun _ => rfl) (fun _ => rfl) ?_)))))
  refine ⟨?_, rfl⟩
  simp only [needsR, needV, *, cond_true, cond_false] <;> rfl
 refine Zs (Zr (ZA ?_))
 refine ZA ?_
 refine Zn (Zt ?_)
 refine wc_cond _ rfl (fun hc23 => ?_) (fun hc23 => ?_)
 ·refine Zc (Zt (wc_cond_t rfl (hc23) ?_))
  refine Zs (Zr (ZA ?_))
  refine ZM ?_
  refine Zn (Zt (Ze (Zq (Zw (retC (cs' := []) (.inl rfl) Zu rfl rfl Zh (fun _ => rfl) (fun _ => rfl) ?_)))))
  refine ⟨?_, rfl⟩
  simp only [needsR, needV, *, cond_true, cond_false] <;> rfl
 refine Zr (ZA ?_)
 refine ZA ?_
 refine Zn (Zt ?_)
 refine wc_cond _ rfl (fun hc24 => ?_) (fun hc24 => ?_)
 ·refine Zs (Zr (ZA ?_))
  refine ZM ?_
  refine Zn (Zt (Ze (Zq (Zw (retC (cs' := []) (.inl rfl) Zu rfl rfl Zh (fun _ => rfl) (fun _ => rfl) ?_)))))
  refine ⟨?_, rfl⟩
  simp only [needsR, needV, *, cond_true, cond_false] <;> rfl
 refine Zs (Zs (Zr (ZA ?_)))
 refine ZA ?_
 refine Zn (Zt ?_)
 refine wc_cond _ rfl (fun hc26 => ?_) (fun hc26 => ?_)
 ·refine Zc (Zt (wc_cond_t rfl (hc26) ?_))
  refine Zs (Zr (ZA ?_))
  refine ZM ?_
  refine Zn (Zt (Ze (Zq (Zw (retC (cs' := []) (.inl rfl) Zu rfl rfl Zh (fun _ => rfl) (fun _ => rfl) ?_)))))
  refine ⟨?_, rfl⟩
  simp only [needsR, needV, *, cond_true, cond_false] <;> rfl
 refine Zs (Zr (ZA ?_))
 refine ZA ?_
 refine Zn (Zt ?_)
 refine wc_cond _ rfl (fun hc27 => ?_) (fun hc27 => ?_)
 ·refine Zc (Zt (wc_cond_t rfl (hc27) ?_))
  refine Zs (Zr (ZA ?_))
  refine ZM ?_
  refine Zn (Zt (Ze (Zq (Zw (retC (cs' := []) (.inl rfl) Zu rfl rfl Zh (fun _ => rfl) (fun _ => rfl) ?_)))))
  refine ⟨?_, rfl⟩
  simp only [needsR, needV, *, cond_true, cond_false] <;> rfl
 refine Zr (ZA ?_)
 refine ZA ?_
 refine Zn (Zt ?_)
 refine wc_cond _ rfl (fun hc28 => ?_) (fun hc28 => ?_)
 ·refine Zs (Zr (ZA ?_))
  refine ZM ?_
  refine Zn (Zt (Ze (Zq (Zw (retC (cs' := []) (.inl rfl) Zu rfl rfl Zh (fun _ => rfl) (fun _ => rfl) ?_)))))
  refine ⟨?_, rfl⟩
  simp only [needsR, needV, *, cond_true, cond_false] <;> rfl
 refine Zs (Zr (ZA ?_))
 refine ZA ?_
 refine Zn (Zt ?_)
 refine wc_cond _ rfl (fun hc30 => ?_) (fun hc30 => ?_)
 ·refine Zs (Zr (ZA ?_))
  refine ZM ?_
  refine Zn (Zt (Ze (Zq (Zw (retC (cs' := []) (.inl rfl) Zu rfl rfl Zh (fun _ => rfl) (fun _ => rfl) ?_)))))
  refine ⟨?_, rfl⟩
  simp only [needsR, needV, *, cond_true, cond_false] <;> rfl
 refine Zs (Zr (ZA ?_))
 refine ZA ?_
 refine Zn (Zt ?_)
 refine wc_cond _ rfl (fun hc32 => ?_) (fun hc32 => ?_)
 ·refine Zs (Zr (ZA ?_))
  refine ZM ?_
  refine Zn (Zt (Ze (Zq (Zw (retC (cs' := []) (.inl rfl) Zu rfl rfl Zh (fun _ => rfl) (fun _ => rfl) ?_)))))
  refine ⟨?_, rfl⟩
  simp only [needsR, needV, *, cond_true, cond_false] <;> rfl
 refine Zc (Zo (Zt (Zs (Zs (Zr (ZA ?_))))))
 iterate 2 refine ZA ?_
 iterate 2 refine ZB ?_
 refine ZA ?_
 refine Zn (Zt ?_)
 refine wc_cond _ rfl (fun hc34 => ?_) (fun hc34 => ?_)
 ·refine Zs (Zr (ZA ?_))
  refine ZM ?_
  refine Zn (Zt (Ze (Zw (retC (cs' := []) (.inl rfl) Zu rfl rfl Zh (fun _ => rfl) (fun _ => rfl) ?_))))
  refine ⟨?_, rfl⟩
  simp only [needsR, needV, *, cond_true, cond_false] <;> rfl
 refine Zc (Zt (Zs (Zr (ZA ?_))))
 refine ZM ?_
 refine Zn (Zt (Ze (retC (cs' := []) (.inl rfl) Zu rfl rfl Zh (fun _ => rfl) (fun _ => rfl) ?_)))
 refine ⟨?_, rfl⟩
 simp only [needsR, needV, *, cond_true, cond_false] <;> rfl
set_option maxHeartbeats 1000000 in
theorem refcheck_ok (s : St) (Ad Ar : Option Addr) (cd cr : Nat) (op n : Int) (hu : u32 n) (w : World) (h : RdSt w s Ad Ar cd cr) :
  Ctr Tryz.prog 94 [sv s Ad cd Ar cr, .agg #[.int .i64 op, .int .u32 n]] w [] (fun v cs => v = .int .i64 (checkOf s op n) ∧ cs = []) := by
 have hD := h.hd
 have hR := h.hr
 rw [check_ref hu.1]
 have HR := refright2_ok op n hu
 have HS := refsuper_ok op
 have HN := refneeds_ok op
 obtain ⟨q1, hq1⟩ : ∃ q, opRight op n = q := ⟨_, rfl⟩
 obtain ⟨q2, hq2⟩ : ∃ q, opSuper op = q := ⟨_, rfl⟩
 have hle := needs_le op
 rw [hq1] at HR ⊢
 rw [hq2] at HS ⊢
 obtain ⟨⟨⟨a, b⟩, ⟨c, d⟩⟩, hq5⟩ : ∃ q, opNeeds op = q := ⟨_, rfl⟩
 rw [hq5] at HN hle ⊢
 obtain ⟨ha, hb, hc, hd⟩ := hle
 have ha : a ≤ 3 := ha
 have hb : b ≤ 3 := hb
 have hc : c ≤ 3 := hc
 have hd : d ≤ 3 := hd
 refine fn_ctr Tryz.func94 rfl Tryz.ntmps94 rfl (Inv.start w) ?_
 refine Zs (Zr (ZO fun b2 => ?_))
 refine ZO fun b3 => ?_
 refine ZA ?_
 refine Zn (Zt (Zs (Zr (ZFa 0 ?_))))
 refine ZC ?_
 refine ZS (fun w hi => HN w) ?_
 rintro _ _ ⟨_, ⟨rfl, rfl⟩, rfl⟩
 refine ZN fun b5 => ?_
 refine ZM ?_
 refine Zn (Zt (Zs (Zx (Zs (Zr (wl_loadRow Zh (fun _ => rfl) (fun _ => rfl) (Zv rfl) rfl ?_))))))
 refine ZS (fun w hi => HR w) ?_
 rintro _ _ ⟨_, ⟨rfl, rfl⟩, rfl⟩
 iterate 2 refine ZA ?_
 refine Zn (Zt ?_)
 refine wc_cond _ rfl (fun hc2 => ?_) (fun hc2 => ?_)
 ·refine Zs (Zr (ZA ?_))
  refine Zn (Zt (Ze (Zq (Zw (ret1 (cs' := []) (.inl rfl) Zu rfl rfl ?_)))))
  refine ⟨?_, rfl⟩
  simp only [needOf, *, cond_true, cond_false]
 refine Zs (Zr (ZFa 0 ?_))
 refine ZC ?_
 refine ZS (fun w hi => HS w) ?_
 rintro _ _ ⟨_, ⟨rfl, rfl⟩, rfl⟩
 refine ZA ?_
 refine ZFb 4 ?_
 refine ZD ?_
 refine ZB ?_
 iterate 2 refine ZA ?_
 refine Zn (Zt ?_)
 refine wc_cond _ rfl (fun hc4 => ?_) (fun hc4 => ?_)
 ·refine Zs (Zr (ZA ?_))
  refine Zn (Zt (Ze (Zq (Zw (ret1 (cs' := []) (.inl rfl) Zu rfl rfl ?_)))))
  refine ⟨?_, rfl⟩
  simp only [needOf, *, cond_true, cond_false]
 refine Zs (Zr (ZFa 0 ?_))
 refine ZC ?_
 iterate 2 refine ZA ?_
 refine ZFb 0 ?_
 refine ZD ?_
 refine ZB ?_
 iterate 2 refine ZA ?_
 refine ZFb 1 ?_
 refine ZD ?_
 iterate 2 refine ZB ?_
 refine ZFb 0 ?_
 refine ZD ?_
 iterate 2 refine ZB ?_
 refine ZFb 1 ?_
 refine ZD ?_
 iterate 3 refine ZB ?_
 iterate 2 refine ZA ?_
 refine Zn (Zt ?_)
 refine wc_cond _ rfl (fun hc6 => ?_) (fun hc6 => ?_)
 ·refine Zs (Zr (ZA ?_))
  refine Zn (Zt (Ze (Zq (Zw (ret1 (cs' := []) (.inl rfl) Zu rfl rfl ?_)))))
  refine ⟨?_, rfl⟩
  simp only [needOf, *, cond_true, cond_false]
 refine Zs (Zr (ZFa 1 ?_))
 refine ZC ?_
 refine ZA ?_
 refine Zy (y_indexA (j := 0) (sz := 1) (r := 0) rfl (fun _ => rfl) (Zv rfl) (Zv rfl) (fun _ => by omega) (fun _ => by omega) (by omega)) ?_
 refine ZC ?_
 iterate 2 refine ZA ?_
 refine ZFb 2 ?_
 refine ZD ?_
 refine ZB ?_
 refine Zyn rfl rfl (y_indexA (j := 2) (sz := 1) (r := 2) rfl (fun _ => rfl) (Zv rfl) (Zv rfl) (fun _ => by omega) (fun _ => by omega) (by omega)) ?_
 refine ZD ?_
 refine ZB ?_
 iterate 2 refine ZA ?_
 refine Zn (Zt ?_)
 refine wc_cond _ rfl (fun hc8 => ?_) (fun hc8 => ?_)
 ·refine Zs (Zr (ZA ?_))
  refine Zn (Zt (Ze (Zq (Zw (ret1 (cs' := []) (.inl rfl) Zu rfl rfl ?_)))))
  refine ⟨?_, rfl⟩
  simp only [needOf, *, cond_true, cond_false]
 refine Zs (Zr (ZFa 1 ?_))
 refine ZC ?_
 refine ZA ?_
 refine Zy (y_indexA (j := 0) (sz := 1) (r := 0) rfl (fun _ => rfl) (Zv rfl) (Zv rfl) (fun _ => by omega) (fun _ => by omega) (by omega)) ?_
 refine ZC ?_
 refine Zy (y_sub (Zv rfl) (Zv rfl) Zl) ?_
 refine Zy (y_indexA (j := 1) (sz := 1) (r := 1) rfl (fun _ => rfl) (Zv rfl) (Zv rfl) (fun _ => by omega) (fun _ => by omega) (by omega)) ?_
 refine ZC ?_
 refine Zy (y_add (Zv rfl) (Zv rfl) Zl) ?_
 iterate 2 refine ZA ?_
 refine ZFb 2 ?_
 refine ZD ?_
 refine ZB ?_
 refine Zyn rfl rfl (y_indexA (j := 2) (sz := 1) (r := 2) rfl (fun _ => rfl) (Zv rfl) (Zv rfl) (fun _ => by omega) (fun _ => by omega) (by omega)) ?_
 refine ZD ?_
 refine Zyn rfl rfl (y_sub (ev_g rfl) (ev_g rfl) Zl) ?_
 refine Zyn rfl rfl (y_indexA (j := 3) (sz := 1) (r := 3) rfl (fun _ => rfl) (Zv rfl) (Zv rfl) (fun _ => by omega) (fun _ => by omega) (by omega)) ?_
 refine ZD ?_
 refine Zyn rfl rfl (y_add (ev_g rfl) (ev_g rfl) Zl) ?_
 refine ZB ?_
 iterate 2 refine ZA ?_
 refine Zn (Zt ?_)
 refine wc_cond _ rfl (fun hc10 => ?_) (fun hc10 => ?_)
 ·refine Zs (Zr (ZA ?_))
  refine Zn (Zt (Ze (Zq (Zw (ret1 (cs' := []) (.inl rfl) Zu rfl rfl ?_)))))
  refine ⟨?_, rfl⟩
  simp only [needOf, *, cond_true, cond_false]
 refine Zc (Zo (Zt (Zs (Zr (ZA ?_)))))
 refine Zn (Zt (Ze (ret1 (cs' := []) (.inl rfl) Zu rfl rfl ?_)))
 refine ⟨?_, rfl⟩
 simp only [needOf, *, cond_true, cond_false]
set_option maxHeartbeats 1000000 in
theorem raw_ok (op a b : Int) (ha : u32 a) (hb : u32 b) (w : World) : Ctr Tryz.prog 162 [.int .i64 op, .int .u32 a, .int .u32 b] w [] (fun v cs => v = .tuple #[.int .u32 (rawTo op a b).1, .int .u32 (rawFl (rawTo op a b).2.1.1 (rawTo op a b).2.1.2), .bool (rawTo op a b).2.2] ∧ cs = []) := by
 have ha1 := ha.1
 have ha2 := ha.2
 have hb1 := hb.1
 have hb2 := hb.2
 refine fn_ctr Tryz.func162 rfl Tryz.ntmps162 rfl (Inv.start w) ?_
 refine Zs (Zr (ZA ?_))
 iterate 2 refine ZA ?_
 refine Zn (Zt (Zs (Zs (Zr (ZA ?_)))))
 refine Zn (Zt (Zx (Zs (Zr (ZA ?_)))))
 refine ZA ?_
 refine Zn (Zt ?_)
 refine wc_cond _ rfl (fun hc2 => ?_) (fun hc2 => ?_)
 ·refine Zs (Zr (ZA ?_))
  refine ZA ?_
  refine Zy (y_add (Zv rfl) (Zv rfl) rfl) ?_
  refine ZA ?_
  refine Zn (Zt (Zs (Zr (ZA ?_))))
  refine Zn (Zt (Zs (Zs (Zr (ZA ?_)))))
  refine Zy (y_conv rfl rfl (Zv rfl) (u64_wrap_id _ (by omega) (by omega))) ?_
  refine ZA ?_
  refine Zy (y_conv rfl rfl (Zv rfl) (u64_wrap_id _ (by omega) (by omega))) ?_
  refine Zy (y_add (Zv rfl) (Zv rfl) (u64_wrap_id _ (by omega) (by omega))) ?_
  refine ZA ?_
  refine Zn (Zt ?_)
  refine wc_cond _ rfl (fun hc5 => ?_) (fun hc5 => ?_)
  ·refine Zr (ZA ?_)
   refine Zn (Zt (Zs (Zs (Zr (ZA ?_)))))
   refine Zy (y_shr (Zv rfl) (Zv rfl) (by omega) rfl) ?_
   refine ZA ?_
   refine Zy (y_shr (Zv rfl) (Zv rfl) (by omega) rfl) ?_
   refine Zy (y_eql (Zv rfl) (Zv rfl) (shr31_eq ha hb)) ?_
   refine ZA ?_
   refine ZB ?_
   refine Zyy rfl rfl (y_shr (ev_g rfl) (Zv rfl) (by omega) rfl) ?_
   refine ZB ?_
   refine Zyy rfl rfl (y_shr (ev_g rfl) (Zv rfl) (by omega) rfl) ?_
   refine Zyy rfl rfl (y_neq (ev_g rfl) (ev_g rfl) (shr31_ne (wrap_u32 _) ha)) ?_
   refine ZA ?_
   refine Zn (Zt ?_)
   refine wc_cond _ rfl (fun hc7 => ?_) (fun hc7 => ?_)
   ·refine Zr (ZA ?_)
    iterate 2 refine ZA ?_
    refine Zn (Zt (Zs (Zr (ZA ?_))))
    iterate 4 refine ZA ?_
    refine Zn (Zt (Ze (Zq (Zw (ret3 (cs' := []) (.inl rfl) Zu rfl rfl rfl rfl ?_)))))
    refine ⟨?_, rfl⟩
    simp only [rawTo, rawFl, arMoved, *, cond_true, cond_false, Bool.true_or, Bool.false_or, Bool.or_true, Bool.true_and, Bool.false_and, Bool.and_true, Bool.and_false] <;> first | rfl | (simp [*])
   refine Zc (Zt (Zs (Zr (ZA ?_))))
   iterate 4 refine ZA ?_
   refine Zn (Zt (Ze (Zq (Zw (ret3 (cs' := []) (.inl rfl) Zu rfl rfl rfl rfl ?_)))))
   refine ⟨?_, rfl⟩
   simp only [rawTo, rawFl, arMoved, *, cond_true, cond_false, Bool.true_or, Bool.false_or, Bool.or_true, Bool.true_and, Bool.false_and, Bool.and_true, Bool.and_false] <;> first | rfl | (simp [*])
  refine Zc (Zt (Zs (Zs (Zr (ZA ?_)))))
  refine Zy (y_shr (Zv rfl) (Zv rfl) (by omega) rfl) ?_
  refine ZA ?_
  refine Zy (y_shr (Zv rfl) (Zv rfl) (by omega) rfl) ?_
  refine Zy (y_eql (Zv rfl) (Zv rfl) (shr31_eq ha hb)) ?_
  refine ZA ?_
  refine ZB ?_
  refine Zyy rfl rfl (y_shr (ev_g rfl) (Zv rfl) (by omega) rfl) ?_
  refine ZB ?_
  refine Zyy rfl rfl (y_shr (ev_g rfl) (Zv rfl) (by omega) rfl) ?_
  refine Zyy rfl rfl (y_neq (ev_g rfl) (ev_g rfl) (shr31_ne (wrap_u32 _) ha)) ?_
  refine ZA ?_
  refine Zn (Zt ?_)
  refine wc_cond _ rfl (fun hc7 => ?_) (fun hc7 => ?_)
  ·refine Zr (ZA ?_)
   iterate 2 refine ZA ?_
   refine Zn (Zt (Zs (Zr (ZA ?_))))
   iterate 4 refine ZA ?_
   refine Zn (Zt (Ze (Zq (Zw (ret3 (cs' := []) (.inl rfl) Zu rfl rfl rfl rfl ?_)))))
   refine ⟨?_, rfl⟩
   simp only [rawTo, rawFl, arMoved, *, cond_true, cond_false, Bool.true_or, Bool.false_or, Bool.or_true, Bool.true_and, Bool.false_and, Bool.and_true, Bool.and_false] <;> first | rfl | (simp [*])
  refine Zc (Zt (Zs (Zr (ZA ?_))))
  iterate 4 refine ZA ?_
  refine Zn (Zt (Ze (Zq (Zw (ret3 (cs' := []) (.inl rfl) Zu rfl rfl rfl rfl ?_)))))
  refine ⟨?_, rfl⟩
  simp only [rawTo, rawFl, arMoved, *, cond_true, cond_false, Bool.true_or, Bool.false_or, Bool.or_true, Bool.true_and, Bool.false_and, Bool.and_true, Bool.and_false] <;> first | rfl | (simp [*])
 refine Zs (Zs (Zr (ZA ?_)))
 refine ZA ?_
 refine Zn (Zt ?_)
 refine wc_cond _ rfl (fun hc10 => ?_) (fun hc10 => ?_)
 ·refine Zc (Zt (wc_cond_t rfl (hc10) ?_))
  refine Zs (Zr (ZA ?_))
  refine ZA ?_
  refine Zy (y_sub (Zv rfl) (Zv rfl) rfl) ?_
  refine ZA ?_
  refine Zn (Zt (Zs (Zr (ZA ?_))))
  refine Zn (Zt (Zs (Zs (Zr (ZA ?_)))))
  iterate 2 refine ZA ?_
  refine Zn (Zt ?_)
  refine wc_cond _ rfl (fun hc14 => ?_) (fun hc14 => ?_)
  ·refine Zr (ZA ?_)
   refine Zn (Zt (Zs (Zs (Zr (ZA ?_)))))
   refine Zy (y_shr (Zv rfl) (Zv rfl) (by omega) rfl) ?_
   refine ZA ?_
   refine Zy (y_shr (Zv rfl) (Zv rfl) (by omega) rfl) ?_
   refine Zy (y_neq (Zv rfl) (Zv rfl) (shr31_ne ha hb)) ?_
   refine ZA ?_
   refine ZB ?_
   refine Zyy rfl rfl (y_shr (ev_g rfl) (Zv rfl) (by omega) rfl) ?_
   refine ZB ?_
   refine Zyy rfl rfl (y_shr (ev_g rfl) (Zv rfl) (by omega) rfl) ?_
   refine Zyy rfl rfl (y_neq (ev_g rfl) (ev_g rfl) (shr31_ne (wrap_u32 _) ha)) ?_
   refine ZA ?_
   refine Zn (Zt ?_)
   refine wc_cond _ rfl (fun hc16 => ?_) (fun hc16 => ?_)
   ·refine Zr (ZA ?_)
    iterate 2 refine ZA ?_
    refine Zn (Zt (Zs (Zr (ZA ?_))))
    iterate 4 refine ZA ?_
    refine Zn (Zt (Ze (Zq (Zw (ret3 (cs' := []) (.inl rfl) Zu rfl rfl rfl rfl ?_)))))
    refine ⟨?_, rfl⟩
    simp only [rawTo, rawFl, arMoved, *, cond_true, cond_false, Bool.true_or, Bool.false_or, Bool.or_true, Bool.true_and, Bool.false_and, Bool.and_true, Bool.and_false] <;> first | rfl | (simp [*])
   refine Zc (Zt (Zs (Zr (ZA ?_))))
   iterate 4 refine ZA ?_
   refine Zn (Zt (Ze (Zq (Zw (ret3 (cs' := []) (.inl rfl) Zu rfl rfl rfl rfl ?_)))))
   refine ⟨?_, rfl⟩
   simp only [rawTo, rawFl, arMoved, *, cond_true, cond_false, Bool.true_or, Bool.false_or, Bool.or_true, Bool.true_and, Bool.false_and, Bool.and_true, Bool.and_false] <;> first | rfl | (simp [*])
  refine Zc (Zt (Zs (Zs (Zr (ZA ?_)))))
  refine Zy (y_shr (Zv rfl) (Zv rfl) (by omega) rfl) ?_
  refine ZA ?_
  refine Zy (y_shr (Zv rfl) (Zv rfl) (by omega) rfl) ?_
  refine Zy (y_neq (Zv rfl) (Zv rfl) (shr31_ne ha hb)) ?_
  refine ZA ?_
  refine ZB ?_
  refine Zyy rfl rfl (y_shr (ev_g rfl) (Zv rfl) (by omega) rfl) ?_
  refine ZB ?_
  refine Zyy rfl rfl (y_shr (ev_g rfl) (Zv rfl) (by omega) rfl) ?_
  refine Zyy rfl rfl (y_neq (ev_g rfl) (ev_g rfl) (shr31_ne (wrap_u32 _) ha)) ?_
  refine ZA ?_
  refine Zn (Zt ?_)
  refine wc_cond _ rfl (fun hc16 => ?_) (fun hc16 => ?_)
  ·refine Zr (ZA ?_)
   iterate 2 refine ZA ?_
   refine Zn (Zt (Zs (Zr (ZA ?_))))
   iterate 4 refine ZA ?_
   refine Zn (Zt (Ze (Zq (Zw (ret3 (cs' := []) (.inl rfl) Zu rfl rfl rfl rfl ?_)))))
   refine ⟨?_, rfl⟩
   simp only [rawTo, rawFl, arMoved, *, cond_true, cond_false, Bool.true_or, Bool.false_or, Bool.or_true, Bool.true_and, Bool.false_and, Bool.and_true, Bool.and_false] <;> first | rfl | (simp [*])
  refine Zc (Zt (Zs (Zr (ZA ?_))))
  iterate 4 refine ZA ?_
  refine Zn (Zt (Ze (Zq (Zw (ret3 (cs' := []) (.inl rfl) Zu rfl rfl rfl rfl ?_)))))
  refine ⟨?_, rfl⟩
  simp only [rawTo, rawFl, arMoved, *, cond_true, cond_false, Bool.true_or, Bool.false_or, Bool.or_true, Bool.true_and, Bool.false_and, Bool.and_true, Bool.and_false] <;> first | rfl | (simp [*])
 refine Zr (ZA ?_)
 refine ZA ?_
 refine Zn (Zt ?_)
 refine wc_cond _ rfl (fun hc11 => ?_) (fun hc11 => ?_)
 ·refine Zs (Zr (ZA ?_))
  refine ZA ?_
  refine Zy (y_sub (Zv rfl) (Zv rfl) rfl) ?_
  refine ZA ?_
  refine Zn (Zt (Zs (Zr (ZA ?_))))
  refine Zn (Zt (Zs (Zs (Zr (ZA ?_)))))
  iterate 2 refine ZA ?_
  refine Zn (Zt ?_)
  refine wc_cond _ rfl (fun hc14 => ?_) (fun hc14 => ?_)
  ·refine Zr (ZA ?_)
   refine Zn (Zt (Zs (Zs (Zr (ZA ?_)))))
   refine Zy (y_shr (Zv rfl) (Zv rfl) (by omega) rfl) ?_
   refine ZA ?_
   refine Zy (y_shr (Zv rfl) (Zv rfl) (by omega) rfl) ?_
   refine Zy (y_neq (Zv rfl) (Zv rfl) (shr31_ne ha hb)) ?_
   refine ZA ?_
   refine ZB ?_
   refine Zyy rfl rfl (y_shr (ev_g rfl) (Zv rfl) (by omega) rfl) ?_
   refine ZB ?_
   refine Zyy rfl rfl (y_shr (ev_g rfl) (Zv rfl) (by omega) rfl) ?_
   refine Zyy rfl rfl (y_neq (ev_g rfl) (ev_g rfl) (shr31_ne (wrap_u32 _) ha)) ?_
   refine ZA ?_
   refine Zn (Zt ?_)
   refine wc_cond _ rfl (fun hc16 => ?_) (fun hc16 => ?_)
   ·refine Zr (ZA ?_)
    iterate 2 refine ZA ?_
    refine Zn (Zt (Zs (Zr (ZA ?_))))
    iterate 4 refine ZA ?_
    refine Zn (Zt (Ze (Zq (Zw (ret3 (cs' := []) (.inl rfl) Zu rfl rfl rfl rfl ?_)))))
    refine ⟨?_, rfl⟩
    simp only [rawTo, rawFl, arMoved, *, cond_true, cond_false, Bool.true_or, Bool.false_or, Bool.or_true, Bool.true_and, Bool.false_and, Bool.and_true, Bool.and_false] <;> first | rfl | (simp [*])
   refine Zc (Zt (Zs (Zr (ZA ?_))))
   iterate 4 refine ZA ?_
   refine Zn (Zt (Ze (Zq (Zw (ret3 (cs' := []) (.inl rfl) Zu rfl rfl rfl rfl ?_)))))
   refine ⟨?_, rfl⟩
   simp only [rawTo, rawFl, arMoved, *, cond_true, cond_false, Bool.true_or, Bool.false_or, Bool.or_true, Bool.true_and, Bool.false_and, Bool.and_true, Bool.and_false] <;> first | rfl | (simp [*])
  refine Zc (Zt (Zs (Zs (Zr (ZA ?_)))))
  refine Zy (y_shr (Zv rfl) (Zv rfl) (by omega) rfl) ?_
  refine ZA ?_
  refine Zy (y_shr (Zv rfl) (Zv rfl) (by omega) rfl) ?_
  refine Zy (y_neq (Zv rfl) (Zv rfl) (shr31_ne ha hb)) ?_
  refine ZA ?_
  refine ZB ?_
  refine Zyy rfl rfl (y_shr (ev_g rfl) (Zv rfl) (by omega) rfl) ?_
  refine ZB ?_
  refine Zyy rfl rfl (y_shr (ev_g rfl) (Zv rfl) (by omega) rfl) ?_
  refine Zyy rfl rfl (y_neq (ev_g rfl) (ev_g rfl) (shr31_ne (wrap_u32 _) ha)) ?_
  refine ZA ?_
  refine Zn (Zt ?_)
  refine wc_cond _ rfl (fun hc16 => ?_) (fun hc16 => ?_)
  ·refine Zr (ZA ?_)
   iterate 2 refine ZA ?_
   refine Zn (Zt (Zs (Zr (ZA ?_))))
   iterate 4 refine ZA ?_
   refine Zn (Zt (Ze (Zq (Zw (ret3 (cs' := []) (.inl rfl) Zu rfl rfl rfl rfl ?_)))))
   refine ⟨?_, rfl⟩
   simp only [rawTo, rawFl, arMoved, *, cond_true, cond_false, Bool.true_or, Bool.false_or, Bool.or_true, Bool.true_and, Bool.false_and, Bool.and_true, Bool.and_false] <;> first | rfl | (simp [*])
  refine Zc (Zt (Zs (Zr (ZA ?_))))
  iterate 4 refine ZA ?_
  refine Zn (Zt (Ze (Zq (Zw (ret3 (cs' := []) (.inl rfl) Zu rfl rfl rfl rfl ?_)))))
  refine ⟨?_, rfl⟩
  simp only [rawTo, rawFl, arMoved, *, cond_true, cond_false, Bool.true_or, Bool.false_or, Bool.or_true, Bool.true_and, Bool.false_and, Bool.and_true, Bool.and_false] <;> first | rfl | (simp [*])
 refine Zs (Zr (ZA ?_))
 refine ZA ?_
 refine Zn (Zt ?_)
 refine wc_cond _ rfl (fun hc19 => ?_) (fun hc19 => ?_)
 ·refine Zs (Zr (ZA ?_))
  iterate 5 refine ZA ?_
  refine Zn (Zt (Ze (Zq (Zw (ret3 (cs' := []) (.inl rfl) Zu rfl rfl rfl rfl ?_)))))
  refine ⟨?_, rfl⟩
  simp only [rawTo, rawFl, arMoved, *, cond_true, cond_false, Bool.true_or, Bool.false_or, Bool.or_true, Bool.true_and, Bool.false_and, Bool.and_true, Bool.and_false] <;> first | rfl | (simp [*])
 refine Zs (Zr (ZA ?_))
 refine ZA ?_
 refine Zn (Zt ?_)
 refine wc_cond _ rfl (fun hc21 => ?_) (fun hc21 => ?_)
 ·refine Zs (Zr (ZA ?_))
  iterate 5 refine ZA ?_
  refine Zn (Zt (Ze (Zq (Zw (ret3 (cs' := []) (.inl rfl) Zu rfl rfl rfl rfl ?_)))))
  refine ⟨?_, rfl⟩
  simp only [rawTo, rawFl, arMoved, *, cond_true, cond_false, Bool.true_or, Bool.false_or, Bool.or_true, Bool.true_and, Bool.false_and, Bool.and_true, Bool.and_false] <;> first | rfl | (simp [*])
 refine Zs (Zr (ZA ?_))
 refine ZA ?_
 refine Zn (Zt ?_)
 refine wc_cond _ rfl (fun hc23 => ?_) (fun hc23 => ?_)
 ·refine Zs (Zr (ZA ?_))
  iterate 5 refine ZA ?_
  refine Zn (Zt (Ze (Zq (Zw (ret3 (cs' := []) (.inl rfl) Zu rfl rfl rfl rfl ?_)))))
  refine ⟨?_, rfl⟩
  simp only [rawTo, rawFl, arMoved, *, cond_true, cond_false, Bool.true_or, Bool.false_or, Bool.or_true, Bool.true_and, Bool.false_and, Bool.and_true, Bool.and_false] <;> first | rfl | (simp [*])
 refine Zs (Zr (ZA ?_))
 refine ZA ?_
 refine Zn (Zt ?_)
 refine wc_cond _ rfl (fun hc25 => ?_) (fun hc25 => ?_)
 ·refine Zs (Zs (Zr (ZA ?_)))
  refine ZA ?_
  refine Zn (Zt ?_)
  refine wc_cond _ rfl (fun hc26 => ?_) (fun hc26 => ?_)
  ·refine Zs (Zr (ZA ?_))
   iterate 2 refine ZA ?_
   refine Zn (Zt (Ze (Zw (Zq (Zw (ret3 (cs' := []) (.inl rfl) Zu rfl rfl rfl rfl ?_))))))
   refine ⟨?_, rfl⟩
   simp only [rawTo, rawFl, arMoved, *, cond_true, cond_false, Bool.true_or, Bool.false_or, Bool.or_true, Bool.true_and, Bool.false_and, Bool.and_true, Bool.and_false] <;> first | rfl | (simp [*])
  refine Zc (Zt (Zs (Zr (ZA ?_))))
  refine ZA ?_
  refine Zy (y_shl (Zv rfl) (Zv rfl) (by omega) rfl) ?_
  iterate 3 refine ZA ?_
  refine Zn (Zt (Ze (Zq (Zw (ret3 (cs' := []) (.inl rfl) Zu rfl rfl rfl rfl ?_)))))
  refine ⟨?_, rfl⟩
  simp only [rawTo, rawFl, arMoved, *, cond_true, cond_false, Bool.true_or, Bool.false_or, Bool.or_true, Bool.true_and, Bool.false_and, Bool.and_true, Bool.and_false] <;> first | rfl | (simp [*])
 refine Zs (Zr (ZA ?_))
 refine ZA ?_
 refine Zn (Zt ?_)
 refine wc_cond _ rfl (fun hc29 => ?_) (fun hc29 => ?_)
 ·refine Zs (Zs (Zr (ZA ?_)))
  refine ZA ?_
  refine Zn (Zt ?_)
  refine wc_cond _ rfl (fun hc30 => ?_) (fun hc30 => ?_)
  ·refine Zs (Zr (ZA ?_))
   iterate 2 refine ZA ?_
   refine Zn (Zt (Ze (Zw (Zq (Zw (ret3 (cs' := []) (.inl rfl) Zu rfl rfl rfl rfl ?_))))))
   refine ⟨?_, rfl⟩
   simp only [rawTo, rawFl, arMoved, *, cond_true, cond_false, Bool.true_or, Bool.false_or, Bool.or_true, Bool.true_and, Bool.false_and, Bool.and_true, Bool.and_false] <;> first | rfl | (simp [*])
  refine Zc (Zt (Zs (Zr (ZA ?_))))
  refine ZA ?_
  refine Zy (y_shr (Zv rfl) (Zv rfl) (by omega) rfl) ?_
  iterate 3 refine ZA ?_
  refine Zn (Zt (Ze (Zq (Zw (ret3 (cs' := []) (.inl rfl) Zu rfl rfl rfl rfl ?_)))))
  refine ⟨?_, rfl⟩
  simp only [rawTo, rawFl, arMoved, *, cond_true, cond_false, Bool.true_or, Bool.false_or, Bool.or_true, Bool.true_and, Bool.false_and, Bool.and_true, Bool.and_false] <;> first | rfl | (simp [*])
 refine Zs (Zr (ZA ?_))
 refine ZA ?_
 refine Zn (Zt ?_)
 refine wc_cond _ rfl (fun hc33 => ?_) (fun hc33 => ?_)
 ·refine Zs (Zr (ZA ?_))
  refine ZA ?_
  refine Zy (y_mul (Zv rfl) (Zv rfl) rfl) ?_
  iterate 3 refine ZA ?_
  refine Zn (Zt (Ze (Zq (Zw (ret3 (cs' := []) (.inl rfl) Zu rfl rfl rfl rfl ?_)))))
  refine ⟨?_, rfl⟩
  simp only [rawTo, rawFl, arMoved, *, cond_true, cond_false, Bool.true_or, Bool.false_or, Bool.or_true, Bool.true_and, Bool.false_and, Bool.and_true, Bool.and_false] <;> first | rfl | (simp [*])
 refine Zs (Zr (ZA ?_))
 refine ZA ?_
 refine Zn (Zt ?_)
 refine wc_cond _ rfl (fun hc35 => ?_) (fun hc35 => ?_)
 ·refine Zs (Zr (ZA ?_))
  refine ZA ?_
  refine Zn (Zt ?_)
  refine wc_cond _ rfl (fun hc36 => ?_) (fun hc36 => ?_)
  ·refine Zs (Zr (ZA ?_))
   refine ZA ?_
   have hb0 : b ≠ 0 := (by simpa using hc36)
   refine Zy (y_quo (Zv rfl) (Zv rfl) (by omega) rfl) ?_
   iterate 3 refine ZA ?_
   refine Zn (Zt (Ze (Zq (Zw (ret3 (cs' := []) (.inl rfl) Zu rfl rfl rfl rfl ?_)))))
   refine ⟨?_, rfl⟩
   simp only [rawTo, rawFl, arMoved, *, cond_true, cond_false, Bool.true_or, Bool.false_or, Bool.or_true, Bool.true_and, Bool.false_and, Bool.and_true, Bool.and_false] <;> first | rfl | (simp [*])
  refine Zc (Zo (Zt (Zs (Zr (ZA ?_)))))
  iterate 2 refine ZA ?_
  refine Zn (Zt (Ze (ret3 (cs' := []) (.inl rfl) Zu rfl rfl rfl rfl ?_)))
  refine ⟨?_, rfl⟩
  simp only [rawTo, rawFl, arMoved, *, cond_true, cond_false, Bool.true_or, Bool.false_or, Bool.or_true, Bool.true_and, Bool.false_and, Bool.and_true, Bool.and_false] <;> first | rfl | (simp [*])
 refine Zc (Zo (Zt (Zs (Zr (ZA ?_)))))
 iterate 2 refine ZA ?_
 refine Zn (Zt (Ze (ret3 (cs' := []) (.inl rfl) Zu rfl rfl rfl rfl ?_)))
 refine ⟨?_, rfl⟩
 simp only [rawTo, rawFl, arMoved, *, cond_true, cond_false, Bool.true_or, Bool.false_or, Bool.or_true, Bool.true_and, Bool.false_and, Bool.and_true, Bool.and_false] <;> first | rfl | (simp [*])
set_option maxHeartbeats 1000000 in
theorem refdo1_ok (op a b : Int) (ha : u32 a) (hb : u32 b) (w : World) : Ctr Tryz.prog 126 [.int .i64 op, .int .u32 a, .int .u32 b] w [] (fun v cs => v = .tuple #[.int .u32 (arDo op a b).1, .int .u32 (arDo op a b).2.1, .bool (arDo op a b).2.2] ∧ cs = []) := by
 rw [arDo_raw ha hb]
 have HW := raw_ok op a b ha hb
 obtain ⟨⟨r, ⟨c, o⟩, k⟩, hq⟩ : ∃ q, rawTo op a b = q := ⟨_, rfl⟩
 rw [hq] at HW ⊢
 dsimp only at HW ⊢
 refine fn_ctr Tryz.func126 rfl Tryz.ntmps126 rfl (Inv.start w) ?_
 refine Zs (Zr (ZA ?_))
 iterate 2 refine ZA ?_
 refine Zn (Zt (Zs (Zr (ZA ?_))))
 iterate 2 refine ZA ?_
 refine ZS (fun w hi => HW w) ?_
 rintro _ _ ⟨_, ⟨rfl, rfl⟩, rfl⟩
 iterate 7 refine ZA ?_
 refine Zn (Zt (Zs (Zs (Zr (ZA ?_)))))
 refine ZA ?_
 refine Zn (Zt ?_)
 refine wc_cond _ rfl (fun hc2 => ?_) (fun hc2 => ?_)
 ·have hk : k = false := (by simpa using hc2)
  refine Zs (Zr (ZA ?_))
  iterate 2 refine ZA ?_
  refine Zn (Zt (Ze (Zw (ret3 (cs' := []) (.inl rfl) Zu rfl rfl rfl rfl ?_))))
  refine ⟨?_, rfl⟩
  simp only [flRef, rawFl, *, cond_true, cond_false, Bool.not_true, Bool.not_false]
 have hk : k = true := (by simpa using hc2)
 refine Zc (Zt (Zs (Zs (Zr (ZA ?_)))))
 refine ZA ?_
 refine Zn (Zt ?_)
 refine wc_cond _ rfl (fun hc4 => ?_) (fun hc4 => ?_)
 ·refine Zr (ZA ?_)
  iterate 2 refine ZA ?_
  refine Zn (Zt (Zs (Zs (Zr (ZA ?_)))))
  refine Zy (y_geq (Zv rfl) (Zv rfl) (show _ = hiB r from rfl)) ?_
  refine Zn (Zt ?_)
  refine wc_cond _ rfl (fun hc6 => ?_) (fun hc6 => ?_)
  ·refine Zr (ZA ?_)
   iterate 2 refine ZA ?_
   refine Zn (Zt (Zs (Zs (Zr (ZA ?_)))))
   refine ZA ?_
   refine Zn (Zt ?_)
   refine wc_cond _ rfl (fun hc8 => ?_) (fun hc8 => ?_)
   ·refine Zr (ZA ?_)
    refine Zn (Zt (Zs (Zr (ZA ?_))))
    iterate 4 refine ZA ?_
    refine Zn (Zt (Ze (ret3 (cs' := []) (.inl rfl) Zu rfl rfl rfl rfl ?_)))
    refine ⟨?_, rfl⟩
    simp only [flRef, rawFl, *, cond_true, cond_false, Bool.not_true, Bool.not_false]
   refine Zc (Zt (Zs (Zr (ZA ?_))))
   iterate 4 refine ZA ?_
   refine Zn (Zt (Ze (ret3 (cs' := []) (.inl rfl) Zu rfl rfl rfl rfl ?_)))
   refine ⟨?_, rfl⟩
   simp only [flRef, rawFl, *, cond_true, cond_false, Bool.not_true, Bool.not_false]
  refine Zc (Zt (Zs (Zs (Zr (ZA ?_)))))
  refine ZA ?_
  refine Zn (Zt ?_)
  refine wc_cond _ rfl (fun hc8 => ?_) (fun hc8 => ?_)
  ·refine Zr (ZA ?_)
   refine Zn (Zt (Zs (Zr (ZA ?_))))
   iterate 4 refine ZA ?_
   refine Zn (Zt (Ze (ret3 (cs' := []) (.inl rfl) Zu rfl rfl rfl rfl ?_)))
   refine ⟨?_, rfl⟩
   simp only [flRef, rawFl, *, cond_true, cond_false, Bool.not_true, Bool.not_false]
  refine Zc (Zt (Zs (Zr (ZA ?_))))
  iterate 4 refine ZA ?_
  refine Zn (Zt (Ze (ret3 (cs' := []) (.inl rfl) Zu rfl rfl rfl rfl ?_)))
  refine ⟨?_, rfl⟩
  simp only [flRef, rawFl, *, cond_true, cond_false, Bool.not_true, Bool.not_false]
 refine Zc (Zt (Zs (Zs (Zr (ZA ?_)))))
 refine Zy (y_geq (Zv rfl) (Zv rfl) (show _ = hiB r from rfl)) ?_
 refine Zn (Zt ?_)
 refine wc_cond _ rfl (fun hc6 => ?_) (fun hc6 => ?_)
 ·refine Zr (ZA ?_)
  iterate 2 refine ZA ?_
  refine Zn (Zt (Zs (Zs (Zr (ZA ?_)))))
  refine ZA ?_
  refine Zn (Zt ?_)
  refine wc_cond _ rfl (fun hc8 => ?_) (fun hc8 => ?_)
  ·refine Zr (ZA ?_)
   refine Zn (Zt (Zs (Zr (ZA ?_))))
   iterate 4 refine ZA ?_
   refine Zn (Zt (Ze (ret3 (cs' := []) (.inl rfl) Zu rfl rfl rfl rfl ?_)))
   refine ⟨?_, rfl⟩
   simp only [flRef, rawFl, *, cond_true, cond_false, Bool.not_true, Bool.not_false]
  refine Zc (Zt (Zs (Zr (ZA ?_))))
  iterate 4 refine ZA ?_
  refine Zn (Zt (Ze (ret3 (cs' := []) (.inl rfl) Zu rfl rfl rfl rfl ?_)))
  refine ⟨?_, rfl⟩
  simp only [flRef, rawFl, *, cond_true, cond_false, Bool.not_true, Bool.not_false]
 refine Zc (Zt (Zs (Zs (Zr (ZA ?_)))))
 refine ZA ?_
 refine Zn (Zt ?_)
 refine wc_cond _ rfl (fun hc8 => ?_) (fun hc8 => ?_)
 ·refine Zr (ZA ?_)
  refine Zn (Zt (Zs (Zr (ZA ?_))))
  iterate 4 refine ZA ?_
  refine Zn (Zt (Ze (ret3 (cs' := []) (.inl rfl) Zu rfl rfl rfl rfl ?_)))
  refine ⟨?_, rfl⟩
  simp only [flRef, rawFl, *, cond_true, cond_false, Bool.not_true, Bool.not_false]
 refine Zc (Zt (Zs (Zr (ZA ?_))))
 iterate 4 refine ZA ?_
 refine Zn (Zt (Ze (ret3 (cs' := []) (.inl rfl) Zu rfl rfl rfl rfl ?_)))
 refine ⟨?_, rfl⟩
 simp only [flRef, rawFl, *, cond_true, cond_false, Bool.not_true, Bool.not_false]
theorem refholds_ok (op f : Int) (w : World) : Ctr Tryz.prog 163 [.int .i64 op, .int .u32 f] w [] (fun v cs => v = .tuple #[.bool (arHolds op f).1, .bool (arHolds op f).2] ∧ cs = []) := by
 refine fn_ctr Tryz.func163 rfl Tryz.ntmps163 rfl (Inv.start w) ?_
 refine Zs (Zr (ZA ?_))
 refine ZA ?_
 refine Zn (Zt (Zs (Zs (Zr (ZA ?_)))))
 refine Zn (Zt (Zx (Zs (Zr (ZA ?_)))))
 refine ZA ?_
 refine Zn (Zt ?_)
 refine wc_cond _ rfl (fun hc2 => ?_) (fun hc2 => ?_)
 ·refine Zs (Zr (ZA ?_))
  iterate 4 refine ZA ?_
  refine Zn (Zt (Ze (Zq (Zw (ret2 (cs' := []) (.inl rfl) Zu rfl rfl rfl ?_)))))
  refine ⟨?_, rfl⟩
  simp only [arHolds, *, cond_true, cond_false]
 refine Zs (Zr (ZA ?_))
 refine ZA ?_
 refine Zn (Zt ?_)
 refine wc_cond _ rfl (fun hc4 => ?_) (fun hc4 => ?_)
 ·refine Zs (Zr (ZA ?_))
  iterate 4 refine ZA ?_
  refine Zn (Zt (Ze (Zq (Zw (ret2 (cs' := []) (.inl rfl) Zu rfl rfl rfl ?_)))))
  refine ⟨?_, rfl⟩
  simp only [arHolds, *, cond_true, cond_false]
 refine Zs (Zr (ZA ?_))
 refine ZA ?_
 refine Zn (Zt ?_)
 refine wc_cond _ rfl (fun hc6 => ?_) (fun hc6 => ?_)
 ·refine Zs (Zr (ZA ?_))
  iterate 4 refine ZA ?_
  refine Zn (Zt (Ze (Zq (Zw (ret2 (cs' := []) (.inl rfl) Zu rfl rfl rfl ?_)))))
  refine ⟨?_, rfl⟩
  simp only [arHolds, *, cond_true, cond_false]
 refine Zs (Zr (ZA ?_))
 refine ZA ?_
 refine Zn (Zt ?_)
 refine wc_cond _ rfl (fun hc8 => ?_) (fun hc8 => ?_)
 ·refine Zs (Zr (ZA ?_))
  iterate 4 refine ZA ?_
  refine Zn (Zt (Ze (Zq (Zw (ret2 (cs' := []) (.inl rfl) Zu rfl rfl rfl ?_)))))
  refine ⟨?_, rfl⟩
  simp only [arHolds, *, cond_true, cond_false]
 refine Zs (Zr (ZA ?_))
 refine ZA ?_
 refine Zn (Zt ?_)
 refine wc_cond _ rfl (fun hc10 => ?_) (fun hc10 => ?_)
 ·refine Zs (Zr (ZA ?_))
  iterate 4 refine ZA ?_
  refine Zn (Zt (Ze (Zq (Zw (ret2 (cs' := []) (.inl rfl) Zu rfl rfl rfl ?_)))))
  refine ⟨?_, rfl⟩
  simp only [arHolds, *, cond_true, cond_false]
 refine Zc (Zo (Zt (Zs (Zr (ZA ?_)))))
 refine ZA ?_
 refine Zn (Zt (Ze (ret2 (cs' := []) (.inl rfl) Zu rfl rfl rfl ?_)))
 refine ⟨?_, rfl⟩
 simp only [arHolds, *, cond_true, cond_false]
theorem refsign_ok (b : Int) (hb : u32 b) (w : World) : Ctr Tryz.prog 164 [.int .u32 b] w [] (fun v cs => v = .int .u32 (arSign b) ∧ cs = []) := by
 have hb1 := hb.1
 have e := sign_ref hb
 refine fn_ctr Tryz.func164 rfl Tryz.ntmps164 rfl (Inv.start w) ?_
 refine Zs (Zr (ZA ?_))
 refine Zn (Zt (Zs (Zr (ZA ?_))))
 refine Zy (y_rem (Zv rfl) (Zv rfl) (by omega) (show _ = b % 256 from Int.tmod_eq_emod_of_nonneg hb1)) ?_
 refine ZA ?_
 refine Zn (Zt (Zs (Zs (Zr (ZA ?_)))))
 refine ZA ?_
 refine Zn (Zt ?_)
 refine wc_cond _ rfl (fun hc2 => ?_) (fun hc2 => ?_)
 ·rw [if_pos (by simpa using hc2)] at e
  rw [e]
  refine Zs (Zr (ZA ?_))
  refine Zy (y_sub (Zv rfl) (Zv rfl) rfl) ?_
  refine ZA ?_
  refine Zn (Zt (Ze (Zw (ret1 (cs' := []) (.inl rfl) Zu rfl rfl ?_))))
  exact ⟨rfl, rfl⟩
 rw [if_neg (by simpa using hc2)] at e
 rw [e]
 refine Zc (Zt (Zs (Zr (ZA ?_))))
 refine ZA ?_
 refine Zn (Zt (Ze (ret1 (cs' := []) (.inl rfl) Zu rfl rfl ?_)))
 exact ⟨rfl, rfl⟩
end Go.Proofs.YthcpmpmbgbibfaaGreatDoor
