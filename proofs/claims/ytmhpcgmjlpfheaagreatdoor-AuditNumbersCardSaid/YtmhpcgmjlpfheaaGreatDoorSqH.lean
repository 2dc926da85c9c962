/- What an instruction does to the registers. No program in sight. -/
import Derived.Test.YtmhpcgmjlpfheaaGreatDoorSqG
set_option linter.unusedSimpArgs false
set_option linter.unusedVariables false
set_option maxRecDepth 100000
namespace Go.Ink
open Go.RowKit
/-- As many words as are needed are taken and put; what lies below is left alone. -/
structure Did (op : Int) (s s' : St) : Prop where
  wf : s'.wf
  fl : s'.flags ≤ 15
  cnt : s'.count = s.count
  dl : s'.d.length + (opNeeds op).1.1 = s.d.length + (opNeeds op).1.2
  dt : s'.d.take (s.d.length - (opNeeds op).1.1) = s.d.take (s.d.length - (opNeeds op).1.1)
  rl : s'.r.length + (opNeeds op).2.1 = s.r.length + (opNeeds op).2.2
  rt : s'.r.take (s.r.length - (opNeeds op).2.1) = s.r.take (s.r.length - (opNeeds op).2.1)
theorem Did.of {op : Int} {s s' : St} {l m : List Int} (P X Q Y : List Int) (hn : opNeeds op = ((P.length, X.length), (Q.length, Y.length))) (wf : s'.wf) (fl : s'.flags ≤ 15) (cnt : s'.count = s.count)
    (h1 : s.d = l ++ P) (h2 : s'.d = l ++ X) (h3 : s.r = m ++ Q) (h4 : s'.r = m ++ Y) : Did op s s' := by
  refine ⟨wf, fl, cnt, ?_, ?_, ?_, ?_⟩
  · rw [hn, h1, h2]; simp only [List.length_append]; omega
  · rw [hn, h1, h2, List.length_append, Nat.add_sub_cancel, List.take_left, List.take_left]
  · rw [hn, h3, h4]; simp only [List.length_append]; omega
  rw [hn, h3, h4, List.length_append, Nat.add_sub_cancel, List.take_left, List.take_left]
theorem wf_d {s : St} (h : s.wf) {l : List Int} (hl : ∀ x, x ∈ l → u32 x) : (⟨s.pc, l, s.r, s.flags, s.super, s.paging, s.ie, s.root, s.vec, s.epc, s.cause, s.addr, s.esuper, s.eie, s.count, s.halted⟩ : St).wf := ⟨h.pc, h.flags, h.root, h.vec, h.epc, h.cause, h.addr, h.count, hl, h.r⟩
theorem wf_r {s : St} (h : s.wf) {l : List Int} (hl : ∀ x, x ∈ l → u32 x) : (⟨s.pc, s.d, l, s.flags, s.super, s.paging, s.ie, s.root, s.vec, s.epc, s.cause, s.addr, s.esuper, s.eie, s.count, s.halted⟩ : St).wf := ⟨h.pc, h.flags, h.root, h.vec, h.epc, h.cause, h.addr, h.count, h.d, hl⟩
theorem wf_pc {s : St} (h : s.wf) {x : Int} (hx : u32 x) : (⟨x, s.d, s.r, s.flags, s.super, s.paging, s.ie, s.root, s.vec, s.epc, s.cause, s.addr, s.esuper, s.eie, s.count, s.halted⟩ : St).wf := ⟨hx, h.flags, h.root, h.vec, h.epc, h.cause, h.addr, h.count, h.d, h.r⟩
theorem wf_fl {s : St} (h : s.wf) {x : Int} (hx : u32 x) : (⟨s.pc, s.d, s.r, x, s.super, s.paging, s.ie, s.root, s.vec, s.epc, s.cause, s.addr, s.esuper, s.eie, s.count, s.halted⟩ : St).wf := ⟨h.pc, hx, h.root, h.vec, h.epc, h.cause, h.addr, h.count, h.d, h.r⟩
theorem all1 {l : List Int} {p : Int → Prop} (h : ∀ x, x ∈ l → p x) {y : Int} (hy : p y) : ∀ x, x ∈ l ++ [y] → p x := fun x hx => by
  rcases List.mem_append.1 hx with h1 | h1
  · exact h x h1
  rw [List.mem_singleton.1 h1]; exact hy
theorem allL {l m : List Int} {p : Int → Prop} (h : ∀ x, x ∈ l ++ m → p x) : ∀ x, x ∈ l → p x := fun x hx => h x (List.mem_append_left _ hx)
theorem allR {l : List Int} {y : Int} {p : Int → Prop} (h : ∀ x, x ∈ l ++ [y] → p x) : p y := h y (by simp)
theorem stack_did {op nn : Int} {R R' : Run} (hw : R.s.wf) (hf : R.s.flags ≤ 15) (hnn : u32 nn) (h1 : (opNeeds op).1.1 ≤ R.s.d.length) (h2 : (opNeeds op).2.1 ≤ R.s.r.length) (h : stackTo op nn R = some R') : Did op R.s R'.s ∧ R'.trap = R.trap ∧ R'.device = R.device ∧ R'.count = R.count := by
  by_cases e : op = 0
  · subst e; obtain rfl : R = R' := Option.some.inj h
    exact ⟨Did.of (l := R.s.d) (m := R.s.r) [] [] [] [] rfl hw hf rfl (by simp) (by simp) (by simp) (by simp), rfl, rfl, rfl⟩
  have e0 : (op == 0) = false := by simpa using e
  by_cases e : op = 1
  · subst e; obtain rfl : R.push [nn] = R' := Option.some.inj h
    exact ⟨Did.of (l := R.s.d) (m := R.s.r) [] [nn] [] [] rfl (wf_d hw (all1 hw.d hnn)) hf rfl (by simp) rfl (by simp) (by simp [Run.push]), rfl, rfl, rfl⟩
  have e1 : (op == 1) = false := by simpa using e
  by_cases e : op = 2
  · subst e; obtain rfl : R.push [nn] = R' := Option.some.inj h
    exact ⟨Did.of (l := R.s.d) (m := R.s.r) [] [nn] [] [] rfl (wf_d hw (all1 hw.d hnn)) hf rfl (by simp) rfl (by simp) (by simp [Run.push]), rfl, rfl, rfl⟩
  have e2 : (op == 2) = false := by simpa using e
  by_cases e : op = 3
  · subst e; obtain ⟨R, l, x, rfl⟩ := Run.snoc (show 1 ≤ R.s.d.length from h1)
    rw [stackTo_dup] at h; obtain rfl := Option.some.inj h
    exact ⟨Did.of (l := l) (m := R.s.r) [x] [x, x] [] [] rfl (wf_d hw (by have h3 := all1 hw.d (allR hw.d); simpa using h3)) hf rfl rfl rfl (by simp) (by simp), rfl, rfl, rfl⟩
  have e3 : (op == 3) = false := by simpa using e
  by_cases e : op = 4
  · subst e; obtain ⟨R, l, x, rfl⟩ := Run.snoc (show 1 ≤ R.s.d.length from h1)
    rw [stackTo_drop] at h; obtain rfl := Option.some.inj h
    exact ⟨Did.of (l := l) (m := R.s.r) [x] [] [] [] rfl (wf_d hw (allL hw.d)) hf rfl rfl (by simp) (by simp) (by simp), rfl, rfl, rfl⟩
  have e4 : (op == 4) = false := by simpa using e
  by_cases e : op = 5
  · subst e; obtain ⟨R, l, x, y, rfl⟩ := Run.snoc2 (show 2 ≤ R.s.d.length from h1)
    rw [stackTo_swap] at h; obtain rfl := Option.some.inj h
    have hd : ∀ z, z ∈ (l ++ [x]) ++ [y] → u32 z := hw.d
    exact ⟨Did.of (l := l) (m := R.s.r) [x, y] [y, x] [] [] rfl (wf_d hw (by have h3 := all1 (all1 (allL (allL hd)) (allR hd)) (allR (allL hd)); simpa using h3)) hf rfl (by simp) rfl (by simp) (by simp), rfl, rfl, rfl⟩
  have e5 : (op == 5) = false := by simpa using e
  by_cases e : op = 6
  · subst e; obtain ⟨R, l, x, y, rfl⟩ := Run.snoc2 (show 2 ≤ R.s.d.length from h1)
    rw [stackTo_over] at h; obtain rfl := Option.some.inj h
    have hd : ∀ z, z ∈ (l ++ [x]) ++ [y] → u32 z := hw.d
    exact ⟨Did.of (l := l) (m := R.s.r) [x, y] [x, y, x] [] [] rfl (wf_d hw (by have h3 := all1 hd (allR (allL hd)); simpa using h3)) hf rfl (by simp) rfl (by simp) (by simp), rfl, rfl, rfl⟩
  have e6 : (op == 6) = false := by simpa using e
  by_cases e : op = 7
  · subst e; obtain ⟨R, l, x, rfl⟩ := Run.snoc (show 1 ≤ R.s.d.length from h1)
    rw [stackTo_tor] at h; obtain rfl := Option.some.inj h
    have hd : ∀ z, z ∈ l ++ [x] → u32 z := hw.d
    exact ⟨Did.of (l := l) (m := R.s.r) [x] [] [] [x] rfl (wf_r (wf_d hw (allL hd)) (all1 hw.r (allR hd))) hf rfl rfl (by simp) (by simp) rfl, rfl, rfl, rfl⟩
  have e7 : (op == 7) = false := by simpa using e
  by_cases e : op = 8
  · subst e; obtain ⟨R, l, x, rfl⟩ := Run.snocR (show 1 ≤ R.s.r.length from h2)
    rw [stackTo_fromr] at h; obtain rfl := Option.some.inj h
    have hd : ∀ z, z ∈ l ++ [x] → u32 z := hw.r
    exact ⟨Did.of (l := R.s.d) (m := l) [] [x] [x] [] rfl (wf_d (wf_r hw (allL hd)) (all1 hw.d (allR hd))) hf rfl (by simp) rfl rfl (by simp), rfl, rfl, rfl⟩
  have e8 : (op == 8) = false := by simpa using e
  rw [stackTo_none nn R e0 e1 e2 e3 e4 e5 e6 e7 e8] at h
  cases h
/-! reckoning -/
theorem flPlain_cases (r : Int) : flPlain r = 0 ∨ flPlain r = 1 ∨ flPlain r = 2 ∨ flPlain r = 3 := by
  unfold flPlain
  generalize (bits .and .u32 r 2147483648 != 0) = c1
  generalize (r == 0) = c2
  revert c1 c2
  decide
theorem flTail_rng (a b r x : Int) (c : Bool) (o : Int) : 0 ≤ flTail a b r (flPlain x) c o ∧ flTail a b r (flPlain x) c o ≤ 15 := by
  unfold flTail
  generalize (o != 0) = c1
  rcases flPlain_cases x with h | h | h | h <;> rw [h] <;> revert c c1 <;> decide
theorem fdiv_u32 {a : Int} (h : u32 a) (k : Nat) : u32 (a.fdiv (2 ^ k)) := by
  have hp : (0 : Int) < 2 ^ k := Int.pow_pos (by decide)
  rw [Int.fdiv_eq_ediv_of_nonneg _ (Int.le_of_lt hp)]
  have h1 := Int.ediv_nonneg h.1 (Int.le_of_lt hp)
  have h2 := Int.ediv_le_self (2 ^ k) h.1
  exact ⟨h1, Int.le_trans h2 h.2⟩
/-- A word, and flags that are. -/
def ArOk (q : Int × Int × Bool) : Prop := u32 q.1 ∧ 0 ≤ q.2.1 ∧ q.2.1 ≤ 15
theorem arOf_ok {r : Int} (h : u32 r) : ArOk (arOf r) := by
  refine ⟨h, ?_⟩
  show 0 ≤ flPlain r ∧ flPlain r ≤ 15
  rcases flPlain_cases r with h | h | h | h <;> rw [h] <;> decide
theorem arDo_ok (op : Int) {a b : Int} (ha : u32 a) : ArOk (arDo op a b) := by
  have h0 : ArOk (0, 0, false) := ⟨u0, by decide, by decide⟩
  unfold arDo
  refine cond_all ArOk ⟨wrap_u32 _, flTail_rng a b 0 _ _ _⟩ ?_
  refine cond_all ArOk ⟨wrap_u32 _, flTail_rng a b 0 _ _ _⟩ ?_
  refine cond_all ArOk ⟨u0, flTail_rng a b 0 _ _ _⟩ ?_
  refine cond_all ArOk (arOf_ok (bits_u32 _ _ _)) ?_
  refine cond_all ArOk (arOf_ok (bits_u32 _ _ _)) ?_
  refine cond_all ArOk (arOf_ok (bits_u32 _ _ _)) ?_
  refine cond_all ArOk (arOf_ok ?_) ?_
  · unfold arMoved; exact cond_all u32 u0 (cond_all u32 (wrap_u32 _) (fdiv_u32 ha _))
  refine cond_all ArOk (arOf_ok ?_) ?_
  · unfold arMoved; exact cond_all u32 u0 (cond_all u32 (wrap_u32 _) (fdiv_u32 ha _))
  refine cond_all ArOk (arOf_ok (wrap_u32 _)) ?_
  exact cond_all ArOk (cond_all ArOk h0 (arOf_ok (wrap_u32 _))) h0
theorem needs_ar1 {op : Int} (h1 : 16 ≤ op) (h2 : op ≤ 24) : opNeeds op = ((2, 1), (0, 0)) := by
  obtain rfl | rfl | rfl | rfl | rfl | rfl | rfl | rfl | rfl : op = 16 ∨ op = 17 ∨ op = 18 ∨ op = 19 ∨ op = 20 ∨ op = 21 ∨ op = 22 ∨ op = 23 ∨ op = 24 := by omega
  all_goals rfl
theorem reckon_did {op nn : Int} {R : Run} (hw : R.s.wf) (hf : R.s.flags ≤ 15) (h1 : (opNeeds op).1.1 ≤ R.s.d.length) (h2 : (opNeeds op).2.1 ≤ R.s.r.length) (h : (reckonTo op nn R).1 = true) : Did op R.s (reckonTo op nn R).2.s ∧ ((reckonTo op nn R).2.trap = R.trap ∨ (reckonTo op nn R).2.trap = ⟨5, 0⟩) ∧ (reckonTo op nn R).2.device = R.device ∧ (reckonTo op nn R).2.count = R.count := by
  cases ha : (decide (16 ≤ op) && decide (op ≤ 25)) with
  | true =>
    have h3 := needs_ar ha
    rw [h3] at h1
    obtain ⟨R, l, x, y, rfl⟩ := Run.snoc2 h1
    have hd : ∀ z, z ∈ (l ++ [x]) ++ [y] → u32 z := hw.d
    obtain ⟨hv, hf0, hf1⟩ := arDo_ok op (b := y) (allR (allL hd))
    obtain ⟨⟨v, fl, ok⟩, hq⟩ : ∃ q, arDo op x y = q := ⟨_, rfl⟩
    rw [hq] at hv hf0 hf1
    have hv : u32 v := hv
    have hf0 : 0 ≤ fl := hf0
    have hf1 : fl ≤ 15 := hf1
    have hst : reckonTo op nn (R.wd ((l ++ [x]) ++ [y])) = (true, bif op != 25 then ((bif ok then R.wd l else (R.wd l).wt ⟨5, 0⟩).wfl fl).push [v] else (bif ok then R.wd l else (R.wd l).wt ⟨5, 0⟩).wfl fl) := by
      simp only [reckonTo, ha, cond_true, Run.top_wd, Run.pop_wd, hq]
    simp only [Bool.and_eq_true, decide_eq_true_eq] at ha
    have hwl : (R.wd l).s.wf := wf_d hw (allL (allL hd))
    rw [hst]
    have hfu : u32 fl := ⟨hf0, by omega⟩
    by_cases e : op = 25
    · subst e
      cases ok
      · exact ⟨Did.of (l := l) (m := R.s.r) [x, y] [] [] [] rfl (wf_fl hwl hfu) hf1 rfl (by simp) (by simp) (by simp) (by simp), .inr rfl, rfl, rfl⟩
      exact ⟨Did.of (l := l) (m := R.s.r) [x, y] [] [] [] rfl (wf_fl hwl hfu) hf1 rfl (by simp) (by simp) (by simp) (by simp), .inl rfl, rfl, rfl⟩
    have e' : (op != 25) = true := by simpa using e
    have hn := needs_ar1 (op := op) (by omega) (by omega)
    simp only [e', cond_true]
    cases ok
    · exact ⟨Did.of (l := l) (m := R.s.r) [x, y] [v] [] [] hn (wf_d (wf_fl hwl hfu) (all1 (allL (allL hd)) hv)) hf1 rfl (by simp) rfl (by simp) (by simp [Run.push]), .inr rfl, rfl, rfl⟩
    exact ⟨Did.of (l := l) (m := R.s.r) [x, y] [v] [] [] hn (wf_d (wf_fl hwl hfu) (all1 (allL (allL hd)) hv)) hf1 rfl (by simp) rfl (by simp) (by simp [Run.push]), .inl rfl, rfl, rfl⟩
  | false =>
    have hth : u32 (thereOf R nn) := wrap_u32 _
    by_cases e : op = 38
    · subst e
      exact ⟨Did.of (l := R.s.d) (m := R.s.r) [] [] [] [R.s.pc] rfl (wf_pc (wf_r hw (all1 hw.r hw.pc)) hth) hf rfl (by simp) (List.append_nil _).symm (by simp) rfl, .inl rfl, rfl, rfl⟩
    have e1 : (op == 38) = false := by simpa using e
    by_cases e : op = 32
    · subst e
      exact ⟨Did.of (l := R.s.d) (m := R.s.r) [] [] [] [] rfl (wf_pc hw hth) hf rfl (by simp) (List.append_nil _).symm (by simp) (List.append_nil _).symm, .inl rfl, rfl, rfl⟩
    have e2 : (op == 32) = false := by simpa using e
    by_cases e : op = 39
    · subst e; obtain ⟨R, l, x, rfl⟩ := Run.snocR (show 1 ≤ R.s.r.length from h2)
      have hst : reckonTo 39 nn (R.wr (l ++ [x])) = (true, (R.wr l).wpc x) := by show (_, _) = _; rw [Run.popR_wr, Run.topR_wr]
      rw [hst]
      have hd : ∀ z, z ∈ l ++ [x] → u32 z := hw.r
      exact ⟨Did.of (l := R.s.d) (m := l) [] [] [x] [] rfl (wf_pc (wf_r hw (allL hd)) (allR hd)) hf rfl (by simp) (by simp) rfl (by simp), .inl rfl, rfl, rfl⟩
    have e3 : (op == 39) = false := by simpa using e
    by_cases e : op = 40
    · subst e; obtain ⟨R, l, x, rfl⟩ := Run.snoc (show 1 ≤ R.s.d.length from h1)
      have hst : reckonTo 40 nn (R.wd (l ++ [x])) = (true, (R.wd l).wpc x) := by show (_, _) = _; rw [Run.pop_wd, Run.top_wd]
      rw [hst]
      have hd : ∀ z, z ∈ l ++ [x] → u32 z := hw.d
      exact ⟨Did.of (l := l) (m := R.s.r) [x] [] [] [] rfl (wf_pc (wf_d hw (allL hd)) (allR hd)) hf rfl rfl (by simp) (by simp) (by simp), .inl rfl, rfl, rfl⟩
    have e4 : (op == 40) = false := by simpa using e
    have hst : reckonTo op nn R = ((arHolds op R.s.flags).2, bif (arHolds op R.s.flags).1 then R.wpc (thereOf R nn) else R) := by simp only [reckonTo, *, cond_true, cond_false]
    rw [hst] at h ⊢
    have hn : opNeeds op = ((0, 0), (0, 0)) := by
      have h : (arHolds op R.s.flags).2 = true := h
      by_cases e : op = 33
      · subst e; rfl
      by_cases e' : op = 34
      · subst e'; rfl
      by_cases e'' : op = 35
      · subst e''; rfl
      by_cases e5 : op = 36
      · subst e5; rfl
      by_cases e6 : op = 37
      · subst e6; rfl
      have b1 : (op == 33) = false := by simpa using e
      have b2 : (op == 34) = false := by simpa using e'
      have b3 : (op == 35) = false := by simpa using e''
      have b4 : (op == 36) = false := by simpa using e5
      have b5 : (op == 37) = false := by simpa using e6
      unfold arHolds at h
      rw [b1, b2, b3, b4, b5] at h
      cases h
    cases (arHolds op R.s.flags).1
    · exact ⟨Did.of (l := R.s.d) (m := R.s.r) [] [] [] [] hn hw hf rfl (by simp) (List.append_nil _).symm (by simp) (List.append_nil _).symm, .inl rfl, rfl, rfl⟩
    exact ⟨Did.of (l := R.s.d) (m := R.s.r) [] [] [] [] hn (wf_pc hw hth) hf rfl (by simp) (List.append_nil _).symm (by simp) (List.append_nil _).symm, .inl rfl, rfl, rfl⟩
end Go.Ink
