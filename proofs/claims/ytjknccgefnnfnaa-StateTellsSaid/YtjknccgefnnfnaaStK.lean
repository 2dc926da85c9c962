/- What a state's bytes tell: plain facts. No program in sight. -/
import Derived.Test.YtjknccgefnnfnaaStI
import Derived.Test.YtjknccgefnnfnaaStJ
set_option linter.unusedSimpArgs false
set_option linter.unusedVariables false
namespace Go.Ink
open Go.RowKit
theorem le4_inj {a b : Int} (ha : u32 a) (hb : u32 b) (h : le4 a = le4 b) : a = b := by
  obtain ⟨a0, a1⟩ := ha
  obtain ⟨b0, b1⟩ := hb
  simp only [le4, List.cons.injEq, and_true] at h
  omega
theorem words_inj : ∀ {l m : List Int}, (∀ x, x ∈ l → u32 x) → (∀ x, x ∈ m → u32 x) → words l = words m → l = m
  | [], [], _, _, _ => rfl
  | [], y :: m, _, _, h => by simp [words, le4] at h
  | x :: l, [], _, _, h => by simp [words, le4] at h
  | x :: l, y :: m, hx, hy, h => by
    have h' : le4 x ++ words l = le4 y ++ words m := h
    obtain ⟨h1, h2⟩ := List.append_inj h' rfl
    rw [le4_inj (hx x (by simp)) (hy y (by simp)) h1, words_inj (fun z hz => hx z (by simp [hz])) (fun z hz => hy z (by simp [hz])) h2]
theorem b2i_01 (b : Bool) : b2i b = 0 ∨ b2i b = 1 := by cases b <;> simp [b2i]
theorem b2i_inj {a b : Bool} (h : b2i a = b2i b) : a = b := by cases a <;> cases b <;> simp_all [b2i]
theorem b2i_rng (b : Bool) : 0 ≤ b2i b ∧ b2i b ≤ 1 := by cases b <;> simp [b2i]
theorem six_inj {a1 a2 a3 a4 a5 a6 c1 c2 c3 c4 c5 c6 : Int} (h1 : 0 ≤ a1 ∧ a1 ≤ 1) (h2 : 0 ≤ a2 ∧ a2 ≤ 1) (h3 : 0 ≤ a3 ∧ a3 ≤ 1) (h4 : 0 ≤ a4 ∧ a4 ≤ 1) (h5 : 0 ≤ a5 ∧ a5 ≤ 1) (h6 : 0 ≤ a6 ∧ a6 ≤ 1)
    (g1 : 0 ≤ c1 ∧ c1 ≤ 1) (g2 : 0 ≤ c2 ∧ c2 ≤ 1) (g3 : 0 ≤ c3 ∧ c3 ≤ 1) (g4 : 0 ≤ c4 ∧ c4 ≤ 1) (g5 : 0 ≤ c5 ∧ c5 ≤ 1) (g6 : 0 ≤ c6 ∧ c6 ≤ 1)
    (h : a1 + a2 * 2 + a3 * 4 + a4 * 8 + a5 * 16 + a6 * 32 = c1 + c2 * 2 + c3 * 4 + c4 * 8 + c5 * 16 + c6 * 32) : a1 = c1 ∧ a2 = c2 ∧ a3 = c3 ∧ a4 = c4 ∧ a5 = c5 ∧ a6 = c6 := by
  have e1 : a1 = c1 := by omega
  subst e1
  have e2 : a2 = c2 := by omega
  subst e2
  have e3 : a3 = c3 := by omega
  subst e3
  have e4 : a4 = c4 := by omega
  subst e4
  have e5 : a5 = c5 := by omega
  subst e5
  exact ⟨rfl, rfl, rfl, rfl, rfl, by omega⟩
theorem truths_inj {x1 x2 x3 x4 x5 x6 y1 y2 y3 y4 y5 y6 : Bool} (h : b2i x1 + b2i x2 * 2 + b2i x3 * 4 + b2i x4 * 8 + b2i x5 * 16 + b2i x6 * 32 = b2i y1 + b2i y2 * 2 + b2i y3 * 4 + b2i y4 * 8 + b2i y5 * 16 + b2i y6 * 32) :
    x1 = y1 ∧ x2 = y2 ∧ x3 = y3 ∧ x4 = y4 ∧ x5 = y5 ∧ x6 = y6 := by
  obtain ⟨h1, h2, h3, h4, h5, h6⟩ := six_inj (b2i_rng _) (b2i_rng _) (b2i_rng _) (b2i_rng _) (b2i_rng _) (b2i_rng _) (b2i_rng _) (b2i_rng _) (b2i_rng _) (b2i_rng _) (b2i_rng _) (b2i_rng _) h
  exact ⟨b2i_inj h1, b2i_inj h2, b2i_inj h3, b2i_inj h4, b2i_inj h5, b2i_inj h6⟩
theorem St.truths_inj {s t : St} (h : s.truths = t.truths) : s.super = t.super ∧ s.paging = t.paging ∧ s.ie = t.ie ∧ s.esuper = t.esuper ∧ s.eie = t.eie ∧ s.halted = t.halted := by
  unfold St.truths at h
  exact Go.Ink.truths_inj h
theorem u32_list2 {a b : Int} (ha : u32 a) (hb : u32 b) : ∀ x, x ∈ [a, b] → u32 x := by
  intro x hx
  simp only [List.mem_cons, List.not_mem_nil, or_false] at hx
  rcases hx with rfl | rfl <;> assumption
theorem u32_list1 {a : Int} (ha : u32 a) : ∀ x, x ∈ [a] → u32 x := by
  intro x hx
  simp only [List.mem_singleton] at hx
  rw [hx]; exact ha
theorem u32_nat {n : Nat} (h : n ≤ 16) : u32 (n : Int) := ⟨by omega, by omega⟩
theorem u32_lo (a : Int) : u32 (a % 4294967296) := ⟨by omega, by omega⟩
theorem u32_hi {a : Int} (h : 0 ≤ a ∧ a ≤ 18446744073709551615) : u32 (a / 4294967296) := ⟨by omega, by omega⟩
theorem St.right_b {s : St} (h : s.right = true) : s.d.length ≤ 16 ∧ s.r.length ≤ 16 ∧ s.flags ≤ 15 := by
  simp only [St.right, Bool.and_eq_true, decide_eq_true_eq] at h
  omega
theorem St.enc_inj {s t : St} (hs : s.wf) (ht : t.wf) (rs : s.right = true) (rt : t.right = true) (h : s.enc = t.enc) : s = t := by
  obtain ⟨d1, r1, _⟩ := St.right_b rs
  obtain ⟨d2, r2, _⟩ := St.right_b rt
  unfold St.enc at h
  simp only [List.append_assoc] at h
  obtain ⟨h1, h⟩ := List.append_inj h (by simp [words_len])
  have h1 := words_inj (u32_list2 hs.pc (u32_nat d1)) (u32_list2 ht.pc (u32_nat d2)) h1
  simp only [List.cons.injEq, and_true] at h1
  obtain ⟨epc, ed⟩ := h1
  have ed : s.d.length = t.d.length := by omega
  obtain ⟨h1, h⟩ := List.append_inj h (by simp [words_len, ed])
  have edd := words_inj hs.d ht.d h1
  obtain ⟨h1, h⟩ := List.append_inj h (by simp [words_len])
  have h1 := words_inj (u32_list1 (u32_nat r1)) (u32_list1 (u32_nat r2)) h1
  simp only [List.cons.injEq, and_true] at h1
  have er : s.r.length = t.r.length := by omega
  obtain ⟨h1, h⟩ := List.append_inj h (by simp [words_len, er])
  have err := words_inj hs.r ht.r h1
  obtain ⟨h1, h⟩ := List.append_inj h (by simp [words_len])
  have h1 := words_inj (u32_list1 hs.flags) (u32_list1 ht.flags) h1
  simp only [List.cons.injEq, and_true] at h1
  obtain ⟨h2, h⟩ := List.append_inj h rfl
  simp only [List.cons.injEq, and_true] at h2
  obtain ⟨e1, e2, e3, e4, e5, e6⟩ := St.truths_inj h2
  have h := words_inj (l := [s.root, s.vec, s.epc, s.cause, s.addr, s.count % 4294967296, s.count / 4294967296]) (m := [t.root, t.vec, t.epc, t.cause, t.addr, t.count % 4294967296, t.count / 4294967296])
    (by
      intro x hx
      simp only [List.mem_cons, List.not_mem_nil, or_false] at hx
      rcases hx with rfl | rfl | rfl | rfl | rfl | rfl | rfl
      · exact hs.root
      · exact hs.vec
      · exact hs.epc
      · exact hs.cause
      · exact hs.addr
      · exact u32_lo _
      · exact u32_hi hs.count)
    (by
      intro x hx
      simp only [List.mem_cons, List.not_mem_nil, or_false] at hx
      rcases hx with rfl | rfl | rfl | rfl | rfl | rfl | rfl
      · exact ht.root
      · exact ht.vec
      · exact ht.epc
      · exact ht.cause
      · exact ht.addr
      · exact u32_lo _
      · exact u32_hi ht.count) h
  simp only [List.cons.injEq, and_true] at h
  obtain ⟨k1, k2, k3, k4, k5, k6, k7⟩ := h
  have k8 : s.count = t.count := by omega
  cases s; cases t; simp_all
theorem rd_any {w : World} {sz n c : Nat} {A : Option Addr} {xs : List Value} (h : RdV w sz A n c xs) : ∃ w, RdV w sz A n c xs := ⟨w, h⟩
theorem mem_take {l : List Int} {n : Nat} {x : Int} (h : x ∈ l.take n) : x ∈ l := List.mem_of_mem_take h
theorem St.trim_wf {s : St} (h : s.wf) : s.trim.wf := by
  obtain ⟨f0, f1⟩ := h.flags
  obtain ⟨c0, c1⟩ := h.count
  exact ⟨h.pc, ⟨by show 0 ≤ s.flags % 16; omega, by show s.flags % 16 ≤ _; omega⟩, h.root, h.vec, h.epc, h.cause, h.addr, ⟨by show 0 ≤ s.count % 1099511627776; omega, by show s.count % 1099511627776 ≤ _; omega⟩,
    fun x hx => h.d x (List.mem_of_mem_take hx), fun x hx => h.r x (List.mem_of_mem_take hx)⟩
theorem St.right_mk {s : St} (h1 : s.d.length ≤ 16) (h2 : s.r.length ≤ 16) (h3 : s.flags ≤ 15) : s.right = true := by
  simp only [St.right, Bool.and_eq_true, decide_eq_true_eq]
  omega
theorem St.trim_right {s : St} (h : s.wf) : s.trim.right = true :=
  St.right_mk (by simp [St.trim]; omega) (by simp [St.trim]; omega) (by show s.flags % 16 ≤ 15; omega)
theorem St.trim_flags {s : St} : 0 ≤ s.trim.flags ∧ s.trim.flags ≤ 15 := ⟨by show 0 ≤ s.flags % 16; omega, by show s.flags % 16 ≤ 15; omega⟩
theorem St.trim_count {s : St} : 0 ≤ s.trim.count ∧ s.trim.count ≤ 1099511627775 := ⟨by show 0 ≤ s.count % 1099511627776; omega, by show s.count % 1099511627776 ≤ _; omega⟩
theorem ints_set {k : IntKind} (xs : List Int) (j : Nat) (v : Int) : (ints k xs).set j (.int k v) = ints k (xs.set j v) := by simp [ints, List.map_set]
theorem slv_some {w : World} {e n c : Nat} {A : Option Addr} {xs : List Value} (h : (slv e 1 A n c xs).ok w) (hn : 0 < n) : ∃ b, A = some ⟨b, 0, none⟩ := by
  rcases h.2 with ⟨_, h'⟩ | ⟨g', cap', cur, h', _⟩
  · omega
  · simp only [Value.slice.injEq] at h'
    exact ⟨g', h'.1⟩
theorem wrap32_ne {a w : Int} (ha : u32 a) (h : 1 ≤ w ∧ w ≤ 7) : IntKind.u32.wrap (a + w) ≠ a := by
  obtain ⟨a0, a1⟩ := ha
  rw [IntKind.wrap_u32]
  omega
theorem wrap32_u32 (a : Int) : u32 (IntKind.u32.wrap a) := by
  rw [IntKind.wrap_u32]
  exact ⟨by omega, by omega⟩
end Go.Ink
