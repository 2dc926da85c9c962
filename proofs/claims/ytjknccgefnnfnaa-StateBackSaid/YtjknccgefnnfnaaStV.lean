/- What a state's reader comes to: plain facts. No program in sight. -/
import Derived.Test.YtjknccgefnnfnaaStK
import Derived.Lib.EndianBits
set_option linter.unusedSimpArgs false
set_option linter.unusedVariables false
namespace Go.Ink
open Go.RowKit
/-- Bytes as a number, the low one first. -/
def leV : List Int → Int
  | [] => 0
  | x :: l => x + 256 * leV l
abbrev Rdr := List Int × Bool
def u8s (l : List Int) : Prop := ∀ x, x ∈ l → 0 ≤ x ∧ x ≤ 255
def rnum (n : Nat) (r : Rdr) : Int × Rdr := bif decide (r.1.length < n) then (0, [], true) else (leV (r.1.take n), r.1.drop n, r.2)
def rwords : Nat → List Int → Rdr → List Int × Rdr
  | 0, out, r => (out, r)
  | k + 1, out, r => bif r.2 then (out, r) else rwords k (out ++ [(rnum 4 r).1]) (rnum 4 r).2
def rstack (r : Rdr) : List Int × Rdr :=
  rwords (rnum 4 r).1.toNat [] ((rnum 4 r).2.1, (rnum 4 r).2.2 || decide (16 < (rnum 4 r).1))
theorem bytes_take {l : List Int} (h : u8s l) (n : Nat) : u8s (l.take n) := fun x hx => h x (List.mem_of_mem_take hx)
theorem bytes_drop {l : List Int} (h : u8s l) (n : Nat) : u8s (l.drop n) := fun x hx => h x (List.mem_of_mem_drop hx)
theorem leV_rng : ∀ {l : List Int}, u8s l → 0 ≤ leV l ∧ leV l < 256 ^ l.length
  | [], _ => by simp [leV]
  | x :: l, h => by
    have h1 := h x (by simp)
    have h2 := leV_rng (l := l) (fun y hy => h y (by simp [hy]))
    simp only [leV, List.length_cons, Int.pow_succ]
    omega
theorem rnum_rng {n : Nat} {r : Rdr} (h : u8s r.1) (hn : n ≤ 4) : u32 (rnum n r).1 := by
  unfold rnum
  cases hd : decide (r.1.length < n) with
  | true => exact ⟨by simp, by simp⟩
  | false =>
    simp only [cond_false]
    have h2 := leV_rng (bytes_take h n)
    have hl : (r.1.take n).length ≤ 4 := by rw [List.length_take]; omega
    generalize leV (r.1.take n) = v at h2
    generalize (r.1.take n).length = k at h2 hl
    obtain rfl | rfl | rfl | rfl | rfl : k = 0 ∨ k = 1 ∨ k = 2 ∨ k = 3 ∨ k = 4 := by omega
    all_goals (simp at h2; exact ⟨by omega, by omega⟩)
theorem rnum_bytes {n : Nat} {r : Rdr} (h : u8s r.1) : u8s (rnum n r).2.1 := by
  unfold rnum
  cases hd : decide (r.1.length < n) with
  | true => intro x hx; cases hx
  | false => exact bytes_drop h n
theorem rnum_len {n : Nat} {r : Rdr} : (rnum n r).2.1.length ≤ r.1.length := by
  unfold rnum
  cases hd : decide (r.1.length < n) with
  | true => simp
  | false => simp
theorem rwords_bytes : ∀ {k : Nat} {out : List Int} {r : Rdr}, u8s r.1 → u8s (rwords k out r).2.1
  | 0, _, _, h => h
  | k + 1, out, r, h => by
    unfold rwords
    cases r.2 with
    | true => exact h
    | false => exact rwords_bytes (rnum_bytes h)
theorem rwords_u32 : ∀ {k : Nat} {out : List Int} {r : Rdr}, u8s r.1 → (∀ x, x ∈ out → u32 x) → ∀ x, x ∈ (rwords k out r).1 → u32 x
  | 0, _, _, _, ho => ho
  | k + 1, out, r, h, ho => by
    unfold rwords
    cases r.2 with
    | true => exact ho
    | false =>
      refine rwords_u32 (rnum_bytes h) fun x hx => ?_
      rcases List.mem_append.1 hx with hx | hx
      · exact ho x hx
      · rw [List.mem_singleton] at hx; rw [hx]; exact rnum_rng h (by omega)
theorem rwords_len : ∀ {k : Nat} {out : List Int} {r : Rdr}, (rwords k out r).1.length ≤ out.length + k
  | 0, _, _ => Nat.le_refl _
  | k + 1, out, r => by
    unfold rwords
    cases r.2 with
    | true => show out.length ≤ _; omega
    | false =>
      have := rwords_len (k := k) (out := out ++ [(rnum 4 r).1]) (r := (rnum 4 r).2)
      simp at this
      simp
      omega
theorem rstack_bytes {r : Rdr} (h : u8s r.1) : u8s (rstack r).2.1 := rwords_bytes (rnum_bytes (r := r) h)
theorem rstack_u32 {r : Rdr} (h : u8s r.1) : ∀ x, x ∈ (rstack r).1 → u32 x := rwords_u32 (rnum_bytes (r := r) h) (fun x hx => by cases hx)
theorem rwords_bad {k : Nat} {out : List Int} {r : Rdr} (h : r.2 = true) : rwords k out r = (out, r) := by
  cases k with
  | zero => rfl
  | succ k => unfold rwords; rw [h]; rfl
theorem rstack_len {r : Rdr} (h : u8s r.1) : (rstack r).1.length ≤ 16 := by
  unfold rstack
  by_cases h16 : 16 < (rnum 4 r).1
  · rw [rwords_bad (by simp [h16])]; simp
  · have := rwords_len (k := (rnum 4 r).1.toNat) (out := []) (r := ((rnum 4 r).2.1, (rnum 4 r).2.2 || decide (16 < (rnum 4 r).1)))
    simp only [List.length_nil] at this
    omega
/-- A number that is there. -/
theorem rnum_good {n : Nat} {r : Rdr} (h : (rnum n r).2.2 = false) : r.2 = false ∧ r.1 = r.1.take n ++ (rnum n r).2.1 ∧ (r.1.take n).length = n ∧ (rnum n r).1 = leV (r.1.take n) := by
  unfold rnum at h ⊢
  cases hd : decide (r.1.length < n) with
  | true => rw [hd] at h; cases h
  | false =>
    rw [hd] at h
    simp only [decide_eq_false_iff_not] at hd
    exact ⟨h, (List.take_append_drop n r.1).symm, by rw [List.length_take]; omega, rfl⟩
theorem le4_of {l : List Int} (hb : u8s l) (h : l.length = 4) : le4 (leV l) = l := by
  match l, h with
  | [a, b, c, d], _ =>
    have h1 := hb a (by simp)
    have h2 := hb b (by simp)
    have h3 := hb c (by simp)
    have h4 := hb d (by simp)
    simp only [le4, leV, List.cons.injEq, and_true]
    omega
theorem leV_le4 {v : Int} (h : u32 v) : leV (le4 v) = v := by
  obtain ⟨h0, h1⟩ := h
  simp only [le4, leV]
  omega
theorem rnum4_good {r : Rdr} (hb : u8s r.1) (h : (rnum 4 r).2.2 = false) : r.2 = false ∧ r.1 = words [(rnum 4 r).1] ++ (rnum 4 r).2.1 := by
  obtain ⟨h1, h2, h3, h4⟩ := rnum_good h
  refine ⟨h1, ?_⟩
  have e : words [(rnum 4 r).1] = r.1.take 4 := by
    rw [h4]
    simp only [words, List.flatMap_cons, List.flatMap_nil, List.append_nil]
    exact le4_of (bytes_take hb 4) h3
  rw [e]
  exact h2
theorem rwords_good : ∀ {k : Nat} {out : List Int} {r : Rdr}, u8s r.1 → (rwords k out r).2.2 = false → ∃ l, l.length = k ∧ (rwords k out r).1 = out ++ l ∧ r.2 = false ∧ r.1 = words l ++ (rwords k out r).2.1
  | 0, out, r, _, h => ⟨[], rfl, by simp [rwords], h, by simp [words, rwords]⟩
  | k + 1, out, r, hb, h => by
    unfold rwords at h ⊢
    cases hr : r.2 with
    | true => rw [hr] at h; simp only [cond_true] at h; rw [hr] at h; cases h
    | false =>
      rw [hr] at h
      simp only [cond_false] at h ⊢
      obtain ⟨l, h1, h2, h3, h4⟩ := rwords_good (rnum_bytes hb) h
      obtain ⟨_, h5⟩ := rnum4_good hb h3
      refine ⟨(rnum 4 r).1 :: l, by simp [h1], by rw [h2]; simp, by simp, ?_⟩
      rw [show words ((rnum 4 r).1 :: l) = words [(rnum 4 r).1] ++ words l by simp [words], List.append_assoc, ← h4]
      exact h5
theorem rstack_good {r : Rdr} (hb : u8s r.1) (h : (rstack r).2.2 = false) : r.2 = false ∧ r.1 = words [((rstack r).1.length : Int)] ++ words (rstack r).1 ++ (rstack r).2.1 ∧ (rstack r).1.length ≤ 16 := by
  have h0 := rnum_rng (n := 4) hb (by omega)
  unfold rstack at h ⊢
  obtain ⟨l, h1, h2, h3, h4⟩ := rwords_good (r := ((rnum 4 r).2.1, (rnum 4 r).2.2 || decide (16 < (rnum 4 r).1))) (rnum_bytes (r := r) (n := 4) hb) h
  simp only [Bool.or_eq_false_iff, decide_eq_false_iff_not] at h3
  obtain ⟨h5, h6⟩ := rnum4_good hb h3.1
  simp only at h4
  refine ⟨h5, ?_, ?_⟩
  · rw [h2, List.nil_append, h1, Int.toNat_of_nonneg h0.1, List.append_assoc, ← h4]
    exact h6
  · rw [h2, List.nil_append, h1]; omega
theorem rnum_mk {v : Int} (h : u32 v) (rest : List Int) (bad : Bool) : rnum 4 (words [v] ++ rest, bad) = (v, rest, bad) := by
  unfold rnum
  have e : words [v] = le4 v := by simp [words]
  rw [e]
  have h4 : (le4 v).length = 4 := rfl
  rw [decide_eq_false (by simp only [List.length_append, h4]; omega)]
  simp only [cond_false]
  rw [List.take_left' h4, List.drop_left' h4, leV_le4 h]
theorem rnum1_mk {v : Int} (rest : List Int) (bad : Bool) : rnum 1 (v :: rest, bad) = (v, rest, bad) := by
  unfold rnum
  rw [decide_eq_false (by simp)]
  simp [leV]
theorem rwords_mk : ∀ {l : List Int} (out rest : List Int), (∀ x, x ∈ l → u32 x) → rwords l.length out (words l ++ rest, false) = (out ++ l, rest, false)
  | [], out, rest, _ => by simp [rwords, words]
  | x :: l, out, rest, h => by
    simp only [List.length_cons]
    unfold rwords
    simp only [cond_false]
    rw [show words (x :: l) ++ rest = words [x] ++ (words l ++ rest) by simp [words], rnum_mk (h x (by simp))]
    simp only
    rw [rwords_mk (out ++ [x]) rest (fun y hy => h y (by simp [hy]))]
    simp
theorem rstack_mk {l : List Int} (rest : List Int) (h : ∀ x, x ∈ l → u32 x) (hl : l.length ≤ 16) : rstack (words [(l.length : Int)] ++ (words l ++ rest), false) = (l, rest, false) := by
  unfold rstack
  rw [rnum_mk (u32_nat hl)]
  simp only [Int.toNat_natCast, Bool.false_or]
  rw [show decide ((16 : Int) < (l.length : Int)) = false from decide_eq_false (by omega), rwords_mk [] rest h]
  simp
/-! ### the whole -/
def bit (v : Int) (k : Nat) : Bool := v / 2 ^ k % 2 != 0
def r1 (b : List Int) : Int × Rdr := rnum 4 (b, false)
def r2 (b : List Int) : List Int × Rdr := rstack (r1 b).2
def r3 (b : List Int) : List Int × Rdr := rstack (r2 b).2
def r4 (b : List Int) : Int × Rdr := rnum 4 (r3 b).2
def r5 (b : List Int) : Int × Rdr := rnum 1 (r4 b).2
def r6 (b : List Int) : Int × Rdr := rnum 4 (r5 b).2
def r7 (b : List Int) : Int × Rdr := rnum 4 (r6 b).2
def r8 (b : List Int) : Int × Rdr := rnum 4 (r7 b).2
def r9 (b : List Int) : Int × Rdr := rnum 4 (r8 b).2
def r10 (b : List Int) : Int × Rdr := rnum 4 (r9 b).2
def r11 (b : List Int) : Int × Rdr := rnum 4 (r10 b).2
def r12 (b : List Int) : Int × Rdr := rnum 4 (r11 b).2
/-- What is read, right or not. -/
def mkSt (v1 : Int) (l2 l3 : List Int) (v4 v5 v6 v7 v8 v9 v10 v11 v12 : Int) : St :=
  ⟨v1, l2, l3, v4, bit v5 0, bit v5 1, bit v5 2, v6, v7, v8, v9, v10, bit v5 3, bit v5 4, v11 + v12 * 4294967296, bit v5 5⟩
def badQ (q : Rdr) (v : Int) (s : St) : Bool := ((q.2 || decide ((0 : Int) < (q.1.length : Int))) || decide (64 ≤ v)) || !s.right
def raw (b : List Int) : St := mkSt (r1 b).1 (r2 b).1 (r3 b).1 (r4 b).1 (r5 b).1 (r6 b).1 (r7 b).1 (r8 b).1 (r9 b).1 (r10 b).1 (r11 b).1 (r12 b).1
def bad (b : List Int) : Bool := badQ (r12 b).2 (r5 b).1 (raw b)
theorem raw_eq {b : List Int} {q1 q4 q5 q6 q7 q8 q9 q10 q11 q12 : Int × Rdr} {q2 q3 : List Int × Rdr} (h1 : r1 b = q1) (h2 : r2 b = q2) (h3 : r3 b = q3) (h4 : r4 b = q4) (h5 : r5 b = q5) (h6 : r6 b = q6) (h7 : r7 b = q7) (h8 : r8 b = q8) (h9 : r9 b = q9) (h10 : r10 b = q10) (h11 : r11 b = q11) (h12 : r12 b = q12) :
    raw b = mkSt q1.1 q2.1 q3.1 q4.1 q5.1 q6.1 q7.1 q8.1 q9.1 q10.1 q11.1 q12.1 ∧ bad b = badQ q12.2 q5.1 (mkSt q1.1 q2.1 q3.1 q4.1 q5.1 q6.1 q7.1 q8.1 q9.1 q10.1 q11.1 q12.1) := by
  unfold bad raw
  rw [h1, h2, h3, h4, h5, h6, h7, h8, h9, h10, h11, h12]
  exact ⟨rfl, rfl⟩
theorem r_bytes {b : List Int} (h : u8s b) : u8s (r1 b).2.1 ∧ u8s (r2 b).2.1 ∧ u8s (r3 b).2.1 ∧ u8s (r4 b).2.1 ∧ u8s (r5 b).2.1 ∧ u8s (r6 b).2.1 ∧ u8s (r7 b).2.1 ∧ u8s (r8 b).2.1 ∧ u8s (r9 b).2.1 ∧ u8s (r10 b).2.1 ∧ u8s (r11 b).2.1 := by
  have h1 : u8s (r1 b).2.1 := by unfold r1; exact rnum_bytes (r := (b, false)) h
  have h2 : u8s (r2 b).2.1 := by unfold r2; exact rstack_bytes (r := (r1 b).2) h1
  have h3 : u8s (r3 b).2.1 := by unfold r3; exact rstack_bytes (r := (r2 b).2) h2
  have h4 : u8s (r4 b).2.1 := by unfold r4; exact rnum_bytes (r := (r3 b).2) h3
  have h5 : u8s (r5 b).2.1 := by unfold r5; exact rnum_bytes (r := (r4 b).2) h4
  have h6 : u8s (r6 b).2.1 := by unfold r6; exact rnum_bytes (r := (r5 b).2) h5
  have h7 : u8s (r7 b).2.1 := by unfold r7; exact rnum_bytes (r := (r6 b).2) h6
  have h8 : u8s (r8 b).2.1 := by unfold r8; exact rnum_bytes (r := (r7 b).2) h7
  have h9 : u8s (r9 b).2.1 := by unfold r9; exact rnum_bytes (r := (r8 b).2) h8
  have h10 : u8s (r10 b).2.1 := by unfold r10; exact rnum_bytes (r := (r9 b).2) h9
  have h11 : u8s (r11 b).2.1 := by unfold r11; exact rnum_bytes (r := (r10 b).2) h10
  exact ⟨h1, h2, h3, h4, h5, h6, h7, h8, h9, h10, h11⟩
theorem mkSt_wf {v1 v4 v5 v6 v7 v8 v9 v10 v11 v12 : Int} {l2 l3 : List Int} (n1 : u32 v1) (n2 : ∀ x, x ∈ l2 → u32 x) (n3 : ∀ x, x ∈ l3 → u32 x) (n4 : u32 v4) (n6 : u32 v6) (n7 : u32 v7) (n8 : u32 v8) (n9 : u32 v9) (n10 : u32 v10) (n11 : u32 v11) (n12 : u32 v12) : (mkSt v1 l2 l3 v4 v5 v6 v7 v8 v9 v10 v11 v12).wf := by
  obtain ⟨a0, a1⟩ := n11
  obtain ⟨b0, b1⟩ := n12
  exact ⟨n1, n4, n6, n7, n8, n9, n10, ⟨by show 0 ≤ v11 + v12 * 4294967296; omega, by show v11 + v12 * 4294967296 ≤ _; omega⟩, n2, n3⟩
structure RawN (b : List Int) : Prop where
  n1 : u32 (r1 b).1
  n2 : ∀ x, x ∈ (r2 b).1 → u32 x
  n3 : ∀ x, x ∈ (r3 b).1 → u32 x
  n4 : u32 (r4 b).1
  n5 : 0 ≤ (r5 b).1 ∧ (r5 b).1 ≤ 255
  n6 : u32 (r6 b).1
  n7 : u32 (r7 b).1
  n8 : u32 (r8 b).1
  n9 : u32 (r9 b).1
  n10 : u32 (r10 b).1
  n11 : u32 (r11 b).1
  n12 : u32 (r12 b).1
theorem rnum1_rng {r : Rdr} (h : u8s r.1) : 0 ≤ (rnum 1 r).1 ∧ (rnum 1 r).1 ≤ 255 := by
  unfold rnum
  cases hd : decide (r.1.length < 1) with
  | true => simp
  | false =>
    simp only [decide_eq_false_iff_not] at hd
    simp only [cond_false]
    have h2 := leV_rng (bytes_take h 1)
    rw [List.length_take, Nat.min_eq_left (by omega)] at h2
    omega
theorem raw_n {b : List Int} (h : u8s b) : RawN b := by
  obtain ⟨h1, h2, h3, h4, h5, h6, h7, h8, h9, h10, h11⟩ := r_bytes h
  have n1 : u32 (r1 b).1 := by unfold r1; exact rnum_rng (r := (b, false)) h (by omega)
  have n2 : ∀ x, x ∈ (r2 b).1 → u32 x := by unfold r2; exact rstack_u32 (r := (r1 b).2) h1
  have n3 : ∀ x, x ∈ (r3 b).1 → u32 x := by unfold r3; exact rstack_u32 (r := (r2 b).2) h2
  have n4 : u32 (r4 b).1 := by unfold r4; exact rnum_rng (r := (r3 b).2) h3 (by omega)
  have n5 : 0 ≤ (r5 b).1 ∧ (r5 b).1 ≤ 255 := by unfold r5; exact rnum1_rng (r := (r4 b).2) h4
  have n6 : u32 (r6 b).1 := by unfold r6; exact rnum_rng (r := (r5 b).2) h5 (by omega)
  have n7 : u32 (r7 b).1 := by unfold r7; exact rnum_rng (r := (r6 b).2) h6 (by omega)
  have n8 : u32 (r8 b).1 := by unfold r8; exact rnum_rng (r := (r7 b).2) h7 (by omega)
  have n9 : u32 (r9 b).1 := by unfold r9; exact rnum_rng (r := (r8 b).2) h8 (by omega)
  have n10 : u32 (r10 b).1 := by unfold r10; exact rnum_rng (r := (r9 b).2) h9 (by omega)
  have n11 : u32 (r11 b).1 := by unfold r11; exact rnum_rng (r := (r10 b).2) h10 (by omega)
  have n12 : u32 (r12 b).1 := by unfold r12; exact rnum_rng (r := (r11 b).2) h11 (by omega)
  exact ⟨n1, n2, n3, n4, n5, n6, n7, n8, n9, n10, n11, n12⟩
theorem raw_wf {b : List Int} (h : u8s b) : (raw b).wf := by
  have n := raw_n h
  unfold raw
  exact mkSt_wf n.n1 n.n2 n.n3 n.n4 n.n6 n.n7 n.n8 n.n9 n.n10 n.n11 n.n12
theorem six_bits : ∀ n : Fin 64, b2i (bit (n.val : Int) 0) + b2i (bit (n.val : Int) 1) * 2 + b2i (bit (n.val : Int) 2) * 4 + b2i (bit (n.val : Int) 3) * 8 + b2i (bit (n.val : Int) 4) * 16 + b2i (bit (n.val : Int) 5) * 32 = (n.val : Int) := by decide +kernel
theorem truths_of {v : Int} (h0 : 0 ≤ v) (h1 : v < 64) : b2i (bit v 0) + b2i (bit v 1) * 2 + b2i (bit v 2) * 4 + b2i (bit v 3) * 8 + b2i (bit v 4) * 16 + b2i (bit v 5) * 32 = v := by
  obtain ⟨n, rfl⟩ := Int.eq_ofNat_of_zero_le h0
  exact six_bits ⟨n, by omega⟩
theorem bits_of : ∀ x1 x2 x3 x4 x5 x6 : Bool, bit (b2i x1 + b2i x2 * 2 + b2i x3 * 4 + b2i x4 * 8 + b2i x5 * 16 + b2i x6 * 32) 0 = x1 ∧ bit (b2i x1 + b2i x2 * 2 + b2i x3 * 4 + b2i x4 * 8 + b2i x5 * 16 + b2i x6 * 32) 1 = x2 ∧ bit (b2i x1 + b2i x2 * 2 + b2i x3 * 4 + b2i x4 * 8 + b2i x5 * 16 + b2i x6 * 32) 2 = x3 ∧
    bit (b2i x1 + b2i x2 * 2 + b2i x3 * 4 + b2i x4 * 8 + b2i x5 * 16 + b2i x6 * 32) 3 = x4 ∧ bit (b2i x1 + b2i x2 * 2 + b2i x3 * 4 + b2i x4 * 8 + b2i x5 * 16 + b2i x6 * 32) 4 = x5 ∧ bit (b2i x1 + b2i x2 * 2 + b2i x3 * 4 + b2i x4 * 8 + b2i x5 * 16 + b2i x6 * 32) 5 = x6 := by decide +kernel
theorem mkSt_enc {b s1 s2 s3 s4 s5 s6 s7 s8 s9 s10 s11 : List Int} {v1 v4 v5 v6 v7 v8 v9 v10 v11 v12 : Int} {l2 l3 : List Int} (h5 : 0 ≤ v5 ∧ v5 < 64) (h11 : u32 v11)
    (e1 : b = words [v1] ++ s1) (e2 : s1 = words [(l2.length : Int)] ++ words l2 ++ s2) (e3 : s2 = words [(l3.length : Int)] ++ words l3 ++ s3) (e4 : s3 = words [v4] ++ s4) (e5 : s4 = [v5] ++ s5) (e6 : s5 = words [v6] ++ s6) (e7 : s6 = words [v7] ++ s7) (e8 : s7 = words [v8] ++ s8) (e9 : s8 = words [v9] ++ s9) (e10 : s9 = words [v10] ++ s10) (e11 : s10 = words [v11] ++ s11) (e12 : s11 = words [v12] ++ []) :
    (mkSt v1 l2 l3 v4 v5 v6 v7 v8 v9 v10 v11 v12).enc = b := by
  obtain ⟨a0, a1⟩ := h11
  have ht : (mkSt v1 l2 l3 v4 v5 v6 v7 v8 v9 v10 v11 v12).truths = v5 := truths_of h5.1 h5.2
  have hc1 : (mkSt v1 l2 l3 v4 v5 v6 v7 v8 v9 v10 v11 v12).count % 4294967296 = v11 := by show (v11 + v12 * 4294967296) % 4294967296 = _; omega
  have hc2 : (mkSt v1 l2 l3 v4 v5 v6 v7 v8 v9 v10 v11 v12).count / 4294967296 = v12 := by show (v11 + v12 * 4294967296) / 4294967296 = _; omega
  unfold St.enc
  rw [ht, hc1, hc2]
  show words [v1, (l2.length : Int)] ++ words l2 ++ words [(l3.length : Int)] ++ words l3 ++ words [v4] ++ [v5] ++ words [v6, v7, v8, v9, v10, v11, v12] = b
  have w7 : words [v6, v7, v8, v9, v10, v11, v12] = words [v6] ++ (words [v7] ++ (words [v8] ++ (words [v9] ++ (words [v10] ++ (words [v11] ++ words [v12]))))) := by simp [words]
  have w2 : words [v1, (l2.length : Int)] = words [v1] ++ words [(l2.length : Int)] := by simp [words]
  rw [w7, w2, e1, e2, e3, e4, e5, e6, e7, e8, e9, e10, e11, e12]
  simp only [List.append_assoc, List.append_nil]
/-- Bytes that are read are written so. -/
theorem raw_enc {b : List Int} (hb : u8s b) (h : bad b = false) : (raw b).enc = b ∧ (raw b).right = true := by
  have n := raw_n hb
  obtain ⟨h1, h2, h3, h4, h5, h6, h7, h8, h9, h10, h11⟩ := r_bytes hb
  unfold bad badQ at h
  simp only [Bool.or_eq_false_iff, decide_eq_false_iff_not, Bool.not_eq_false'] at h
  obtain ⟨⟨⟨g12, hl⟩, h64⟩, hr⟩ := h
  refine ⟨?_, hr⟩
  have f12 : (r12 b).2.2 = false → (r11 b).2.2 = false ∧ (r11 b).2.1 = words [(r12 b).1] ++ (r12 b).2.1 := by unfold r12; exact rnum4_good (r := (r11 b).2) h11
  obtain ⟨g11, e12⟩ := f12 g12
  have f11 : (r11 b).2.2 = false → (r10 b).2.2 = false ∧ (r10 b).2.1 = words [(r11 b).1] ++ (r11 b).2.1 := by unfold r11; exact rnum4_good (r := (r10 b).2) h10
  obtain ⟨g10, e11⟩ := f11 g11
  have f10 : (r10 b).2.2 = false → (r9 b).2.2 = false ∧ (r9 b).2.1 = words [(r10 b).1] ++ (r10 b).2.1 := by unfold r10; exact rnum4_good (r := (r9 b).2) h9
  obtain ⟨g9, e10⟩ := f10 g10
  have f9 : (r9 b).2.2 = false → (r8 b).2.2 = false ∧ (r8 b).2.1 = words [(r9 b).1] ++ (r9 b).2.1 := by unfold r9; exact rnum4_good (r := (r8 b).2) h8
  obtain ⟨g8, e9⟩ := f9 g9
  have f8 : (r8 b).2.2 = false → (r7 b).2.2 = false ∧ (r7 b).2.1 = words [(r8 b).1] ++ (r8 b).2.1 := by unfold r8; exact rnum4_good (r := (r7 b).2) h7
  obtain ⟨g7, e8⟩ := f8 g8
  have f7 : (r7 b).2.2 = false → (r6 b).2.2 = false ∧ (r6 b).2.1 = words [(r7 b).1] ++ (r7 b).2.1 := by unfold r7; exact rnum4_good (r := (r6 b).2) h6
  obtain ⟨g6, e7⟩ := f7 g7
  have f6 : (r6 b).2.2 = false → (r5 b).2.2 = false ∧ (r5 b).2.1 = words [(r6 b).1] ++ (r6 b).2.1 := by unfold r6; exact rnum4_good (r := (r5 b).2) h5
  obtain ⟨g5, e6⟩ := f6 g6
  have f5 : (r5 b).2.2 = false → (r4 b).2.2 = false ∧ (r4 b).2.1 = (r4 b).2.1.take 1 ++ (r5 b).2.1 ∧ ((r4 b).2.1.take 1).length = 1 ∧ (r5 b).1 = leV ((r4 b).2.1.take 1) := by unfold r5; exact rnum_good (n := 1) (r := (r4 b).2)
  obtain ⟨g4, e5, l5, v5⟩ := f5 g5
  have f4 : (r4 b).2.2 = false → (r3 b).2.2 = false ∧ (r3 b).2.1 = words [(r4 b).1] ++ (r4 b).2.1 := by unfold r4; exact rnum4_good (r := (r3 b).2) h3
  obtain ⟨g3, e4⟩ := f4 g4
  have f3 : (r3 b).2.2 = false → (r2 b).2.2 = false ∧ (r2 b).2.1 = words [((r3 b).1.length : Int)] ++ words (r3 b).1 ++ (r3 b).2.1 ∧ (r3 b).1.length ≤ 16 := by unfold r3; exact rstack_good (r := (r2 b).2) h2
  obtain ⟨g2, e3, _⟩ := f3 g3
  have f2 : (r2 b).2.2 = false → (r1 b).2.2 = false ∧ (r1 b).2.1 = words [((r2 b).1.length : Int)] ++ words (r2 b).1 ++ (r2 b).2.1 ∧ (r2 b).1.length ≤ 16 := by unfold r2; exact rstack_good (r := (r1 b).2) h1
  obtain ⟨g1, e2, _⟩ := f2 g2
  have f1 : (r1 b).2.2 = false → false = false ∧ b = words [(r1 b).1] ++ (r1 b).2.1 := by unfold r1; exact rnum4_good (r := (b, false)) hb
  obtain ⟨_, e1⟩ := f1 g1
  have hl0 : (r12 b).2.1 = [] := List.eq_nil_of_length_eq_zero (by omega)
  rw [hl0] at e12
  have e5' : (r4 b).2.1.take 1 = [(r5 b).1] := by
    match hm : (r4 b).2.1.take 1, l5 with
    | [x], _ =>
      rw [hm] at v5
      simp [leV] at v5
      rw [v5]
  rw [e5'] at e5
  unfold raw
  exact mkSt_enc ⟨n.n5.1, by omega⟩ n.n11 e1 e2 e3 e4 e5 e6 e7 e8 e9 e10 e11 e12
/-- A state that is written is read again. -/
theorem raw_of {s : St} (hs : s.wf) (hr : s.right = true) : raw s.enc = s ∧ bad s.enc = false := by
  obtain ⟨d16, r16, fl⟩ := St.right_b hr
  obtain ⟨c0, c1⟩ := hs.count
  have tr := s.truths_rng
  have e : s.enc = words [s.pc] ++ (words [(s.d.length : Int)] ++ (words s.d ++ (words [(s.r.length : Int)] ++ (words s.r ++ (words [s.flags] ++ (s.truths :: (words [s.root] ++ (words [s.vec] ++ (words [s.epc] ++ (words [s.cause] ++ (words [s.addr] ++ (words [s.count % 4294967296] ++ (words [s.count / 4294967296] ++ []))))))))))))) := by
    unfold St.enc
    simp [words]
  have f1 : r1 s.enc = (s.pc, (words [(s.d.length : Int)] ++ (words s.d ++ (words [(s.r.length : Int)] ++ (words s.r ++ (words [s.flags] ++ (s.truths :: (words [s.root] ++ (words [s.vec] ++ (words [s.epc] ++ (words [s.cause] ++ (words [s.addr] ++ (words [s.count % 4294967296] ++ (words [s.count / 4294967296] ++ [])))))))))))), false)) := by
    unfold r1; rw [e]; exact rnum_mk hs.pc _ _
  have f2 := (congrArg (fun q : Int × Rdr => rstack q.2) f1).trans (rstack_mk _ hs.d d16)
  change r2 s.enc = _ at f2
  have f3 := (congrArg (fun q : List Int × Rdr => rstack q.2) f2).trans (rstack_mk _ hs.r r16)
  change r3 s.enc = _ at f3
  have f4 := (congrArg (fun q : List Int × Rdr => rnum 4 q.2) f3).trans (rnum_mk hs.flags _ _)
  change r4 s.enc = _ at f4
  have f5 := (congrArg (fun q : Int × Rdr => rnum 1 q.2) f4).trans (rnum1_mk _ _)
  change r5 s.enc = _ at f5
  have f6 := (congrArg (fun q : Int × Rdr => rnum 4 q.2) f5).trans (rnum_mk hs.root _ _)
  change r6 s.enc = _ at f6
  have f7 := (congrArg (fun q : Int × Rdr => rnum 4 q.2) f6).trans (rnum_mk hs.vec _ _)
  change r7 s.enc = _ at f7
  have f8 := (congrArg (fun q : Int × Rdr => rnum 4 q.2) f7).trans (rnum_mk hs.epc _ _)
  change r8 s.enc = _ at f8
  have f9 := (congrArg (fun q : Int × Rdr => rnum 4 q.2) f8).trans (rnum_mk hs.cause _ _)
  change r9 s.enc = _ at f9
  have f10 := (congrArg (fun q : Int × Rdr => rnum 4 q.2) f9).trans (rnum_mk hs.addr _ _)
  change r10 s.enc = _ at f10
  have f11 := (congrArg (fun q : Int × Rdr => rnum 4 q.2) f10).trans (rnum_mk (u32_lo _) _ _)
  change r11 s.enc = _ at f11
  have f12 := (congrArg (fun q : Int × Rdr => rnum 4 q.2) f11).trans (rnum_mk (u32_hi ⟨c0, c1⟩) _ _)
  change r12 s.enc = _ at f12
  obtain ⟨b1, b2, b3, b4, b5, b6⟩ := bits_of s.super s.paging s.ie s.esuper s.eie s.halted
  obtain ⟨k1, k2⟩ := raw_eq f1 f2 f3 f4 f5 f6 f7 f8 f9 f10 f11 f12
  have hms : mkSt s.pc s.d s.r s.flags s.truths s.root s.vec s.epc s.cause s.addr (s.count % 4294967296) (s.count / 4294967296) = s := by
    change bit s.truths 0 = _ at b1
    change bit s.truths 1 = _ at b2
    change bit s.truths 2 = _ at b3
    change bit s.truths 3 = _ at b4
    change bit s.truths 4 = _ at b5
    change bit s.truths 5 = _ at b6
    unfold mkSt
    rw [b1, b2, b3, b4, b5, b6]
    have hc : s.count % 4294967296 + s.count / 4294967296 * 4294967296 = s.count := by omega
    rw [hc]
  refine ⟨k1.trans hms, k2.trans ?_⟩
  simp only
  rw [hms]
  unfold badQ
  rw [hr]
  simp only [List.length_nil, Bool.false_or, Bool.not_true, Bool.or_false]
  rw [decide_eq_false (by omega), decide_eq_false (by omega)]
  rfl
end Go.Ink
