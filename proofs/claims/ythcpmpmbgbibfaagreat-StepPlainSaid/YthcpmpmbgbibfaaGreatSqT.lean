/- An instruction that traps leaves memory and devices as they were, without paging. No program in sight. -/
import Derived.Test.YthcpmpmbgbibfaaGreatSqS
import Derived.Test.YthcpmpmbgbibfaaGreatSqP
set_option linter.unusedSimpArgs false
set_option linter.unusedVariables false
set_option maxRecDepth 100000
namespace Go.Ink
open Go.RowKit
section
variable {n : Nat} {U : Mmu} {s : Sp} {d : Dev}
theorem placeTo_idle (h : s.paging = false) (va : Nat) (kind : Int) : (placeTo n U s va kind).2 = U := by
  unfold placeTo
  rw [turned_plain h]
  exact cond_all (fun q : (Int × Tr) × Mmu => q.2 = U) rfl (cond_all (fun q : (Int × Tr) × Mmu => q.2 = U) rfl (cond_all (fun q : (Int × Tr) × Mmu => q.2 = U) rfl rfl))
/-- Nothing is turned, and where it is told of there are no places. -/
def SpanIdle (U : Mmu) (q : (List Int × Tr) × Mmu) : Prop := q.2 = U ∧ (q.1.2.cause ≠ 0 → q.1.1 = [])
theorem spanTo_idle (h : s.paging = false) (va k : Nat) (kind : Int) : SpanIdle U (spanTo n U s va k kind) := by
  have hE : ∀ a b t, t.cause = 0 → SpanIdle U (spanEnd a b va k t U) := fun a b t ht => by
    unfold spanEnd
    refine cond_all (SpanIdle U) ⟨rfl, fun _ => rfl⟩ ?_
    exact cond_all (SpanIdle U) ⟨rfl, fun _ => rfl⟩ ⟨rfl, fun h => absurd ht h⟩
  have h1 := placeTo_idle (n := n) (U := U) h va kind
  have h2 := placeTo_idle (n := n) (U := U) h (nextPage va) kind
  unfold spanTo span1
  obtain ⟨⟨⟨p, t⟩, V⟩, hq⟩ : ∃ q, placeTo n U s va kind = q := ⟨_, rfl⟩
  rw [hq] at h1 ⊢
  obtain rfl : V = U := h1
  cases hc : (t.cause != 0) with
  | true => simp only [hc, cond_true]; exact ⟨rfl, fun _ => rfl⟩
  | false =>
    have ht : t.cause = 0 := by simpa using hc
    simp only [hc, cond_false]
    refine cond_all (SpanIdle V) ?_ (hE _ _ _ ht)
    unfold span2
    obtain ⟨⟨⟨p2, t2⟩, V2⟩, hq2⟩ : ∃ q, placeTo n V s (nextPage va) kind = q := ⟨_, rfl⟩
    rw [hq2] at h2 ⊢
    obtain rfl : V2 = V := h2
    cases hc2 : (t2.cause != 0) with
    | true => simp only [hc2, cond_true]; exact ⟨rfl, fun _ => rfl⟩
    | false =>
      have ht2 : t2.cause = 0 := by simpa using hc2
      simp only [hc2, cond_false]
      exact hE _ _ _ ht2
theorem wholeTo_idle {R : Run} (h : R.s.paging = false) (va : Nat) (kind : Int) : (wholeTo n R U va kind).u = U := by
  unfold wholeTo
  exact cond_all (fun W : Whole => W.u = U) rfl (placeTo_idle (s := R.sp) h va kind)
theorem devLoad_no (d : Dev) (k c : Int) : (devLoad d k c).1.2 = false → (devLoad d k c).2 = d := by
  unfold devLoad
  repeat (refine cond_all (fun q : (Int × Bool) × Dev => q.1.2 = false → q.2 = d) (fun h => by cases h) ?_)
  exact fun _ => rfl
theorem devStore_no (n : Nat) (M : Mem) (d : Dev) (k : Int) (v : Nat) : (devStore n M d k v).1 = false → (devStore n M d k v).2 = (M, d) := by
  unfold devStore
  repeat (refine cond_all (fun q : Bool × Mem × Dev => q.1 = false → q.2 = (M, d)) (fun h => by cases h) ?_)
  exact fun _ => rfl
/-- Where it traps, all is as it was. -/
def Idle (U : Mmu) (d : Dev) (m : Mach) : Prop := m.r.trap.cause ≠ 0 → m.u = U ∧ m.d = d
theorem lode_idle {R : Run} (h : R.s.paging = false) (va : Nat) : Idle U d (lodeTo n R U d va) := by
  have hu := wholeTo_idle (n := n) (U := U) h va 2
  have hc := wholeTo_cause n R U va 2
  unfold lodeTo
  obtain ⟨⟨p, ok, r, u⟩, hq⟩ : ∃ q, wholeTo n R U va 2 = q := ⟨_, rfl⟩
  rw [hq] at hu hc ⊢
  obtain rfl : u = U := hu
  have hc : ok = (r.trap.cause == 0) := hc
  cases hok : ok with
  | false => exact fun _ => ⟨rfl, rfl⟩
  | true =>
    rw [hok] at hc
    have hz : r.trap.cause = 0 := beqZ hc.symm
    simp only [Bool.not_true, cond_false]
    have key : ∀ (v : Int) (o : Bool) (d' : Dev), (o = false → d' = d) → Idle u d (lodeIn ⟨p, true, r, u⟩ d' va v o) := fun v o d' ho hne => by
      cases o with
      | false => exact ⟨rfl, ho rfl⟩
      | true => exact absurd hz hne
    refine cond_all (Idle u d) (key _ _ _ (devLoad_no d _ _)) ?_
    exact key _ _ _ (fun _ => rfl)
theorem stow_idle {R : Run} (h : R.s.paging = false) (va v : Nat) : Idle U d (stowTo n R U d va v) := by
  have hu := wholeTo_idle (n := n) (U := U) h va 3
  have hc := wholeTo_cause n R U va 3
  unfold stowTo
  obtain ⟨⟨p, ok, r, u⟩, hq⟩ : ∃ q, wholeTo n R U va 3 = q := ⟨_, rfl⟩
  rw [hq] at hu hc ⊢
  obtain rfl : u = U := hu
  have hc : ok = (r.trap.cause == 0) := hc
  cases hok : ok with
  | false => exact fun _ => ⟨rfl, rfl⟩
  | true =>
    rw [hok] at hc
    have hz : r.trap.cause = 0 := beqZ hc.symm
    simp only [Bool.not_true, cond_false]
    refine cond_all (Idle u d) ?_ (fun hne => absurd hz hne)
    have hs := devStore_no n u.m d (devK p.toNat) v
    obtain ⟨⟨o, M', d'⟩, hq2⟩ : ∃ q, devStore n u.m d (devK p.toNat) v = q := ⟨_, rfl⟩
    rw [hq2] at hs ⊢
    cases o with
    | false =>
      have := hs rfl
      simp only [Prod.mk.injEq] at this
      obtain ⟨rfl, rfl⟩ := this
      exact fun _ => ⟨rfl, rfl⟩
    | true => exact fun hne => absurd hz hne
theorem sameL_idle {R : Run} (h : R.s.paging = false) (va k : Nat) : Idle U d (Mach.of (sameL n R U va k) d) := fun _ => ⟨(spanTo_idle (s := R.sp) h va k 2).1, rfl⟩
theorem sameS_idle {R : Run} (h : R.s.paging = false) (va k : Nat) (v : Int) : Idle U d (Mach.of (sameS n R U va k v) d) := fun hne => by
  obtain ⟨h1, h2⟩ := spanTo_idle (n := n) (U := U) (s := R.sp) h va k 3
  have h2 := h2 hne
  refine ⟨?_, rfl⟩
  show (⟨putsTo (spanTo n U R.sp va k 3).2.m (spanTo n U R.sp va k 3).1.1 v (spanTo n U R.sp va k 3).1.1.length, (spanTo n U R.sp va k 3).2.t⟩ : Mmu) = U
  rw [h2, h1]
  rfl
theorem other_idle {op nn : Int} {R : Run} (h : R.s.paging = false) (ht : R.trap = Tr.none) : Idle U d (otherTo n op nn ⟨R, U, d⟩) := by
  have h0 : R.trap.cause = 0 := by rw [ht]; rfl
  unfold otherTo
  refine cond_all (Idle U d) (lode_idle (R := R.pop) h _) ?_
  refine cond_all (Idle U d) (stow_idle (R := R.pop.pop) h _ _) ?_
  refine cond_all (Idle U d) (sameL_idle (R := R.pop) h _ _) ?_
  refine cond_all (Idle U d) (sameS_idle (R := R.pop.pop) h _ _ _) ?_
  refine cond_all (Idle U d) (sameL_idle (R := R.pop) h _ _) ?_
  refine cond_all (Idle U d) (sameS_idle (R := R.pop.pop) h _ _ _) ?_
  refine cond_all (Idle U d) (fun _ => ⟨rfl, rfl⟩) ?_
  refine cond_all (Idle U d) (fun hne => absurd h0 hne) ?_
  refine cond_all (Idle U d) (fun hne => absurd h0 hne) ?_
  refine cond_all (Idle U d) (fun hne => absurd h0 hne) ?_
  refine cond_all (Idle U d) (fun hne => absurd h0 hne) ?_
  exact cond_all (Idle U d) (fun hne => absurd h0 hne) (fun hne => absurd h0 hne)
theorem mid_idle {s : St} {op nn : Int} (h : s.paging = false) : Idle U d (midTo n s op nn U d) := by
  unfold midTo
  cases hst : stackTo op nn (run0 s op) with
  | some R => exact fun _ => ⟨rfl, rfl⟩
  | none =>
    cases hrk : (reckonTo op nn (run0 s op)).1 with
    | true => exact fun _ => ⟨rfl, rfl⟩
    | false =>
      have hr := reckonTo_none op nn (run0 s op) hrk
      show Idle U d (otherTo n op nn ⟨(reckonTo op nn (run0 s op)).2, U, d⟩)
      rw [hr]
      exact other_idle h rfl
theorem trues_calm : trues (List.replicate 64 false) 64 = [] := by rfl
theorem checkOf_rng (s : St) (op nn : Int) : 0 ≤ checkOf s op nn ∧ checkOf s op nn ≤ 255 := by
  unfold checkOf needOf
  repeat (refine cond_all (fun x : Int => 0 ≤ x ∧ x ≤ 255) (by decide) ?_)
  decide
theorem do_trapped {s : St} {op nn : Int} (hw : s.wf) (hr : s.right = true) (hnn : u32 nn) (hU : UOk n U) (hd : d.ok) (hp : s.paging = false) (h : (doTo n s op nn U d).1.trapped = true) : ∃ c a dv, (c ≠ 0 ∧ 0 ≤ c ∧ c ≤ 255) ∧ doTo n s op nn U d = (⟨s.next.trap c a, true, dv, []⟩, ⟨U.m.calm, U.t⟩, d) := by
  revert h
  unfold doTo
  rw [hr]
  simp only [Bool.not_true, cond_false]
  cases hck : (checkOf s op nn != 0) with
  | true => exact fun _ => ⟨_, _, _, ⟨by simpa using hck, checkOf_rng s op nn⟩, rfl⟩
  | false =>
    have hck0 : checkOf s op nn = 0 := by simpa using hck
    have hA := (mid_after (n := n) (U := ⟨U.m.calm, U.t⟩) hw hr hnn hck0 ⟨hU.m.calm, hU.t⟩ hd).t
    have hI := mid_idle (n := n) (U := ⟨U.m.calm, U.t⟩) (d := d) (op := op) (nn := nn) hp
    simp only [cond_false]
    obtain ⟨⟨r, u, e⟩, hm⟩ : ∃ m, midTo n s op nn ⟨U.m.calm, U.t⟩ d = m := ⟨_, rfl⟩
    rw [hm] at hI hA ⊢
    unfold endTo
    cases hc : (r.trap.cause != 0) with
    | false => simp only [hc, cond_false]; intro h; cases h
    | true =>
      have hne : r.trap.cause ≠ 0 := by simpa using hc
      obtain ⟨h1, h2⟩ := hI hne
      obtain rfl : u = _ := h1
      obtain rfl : e = d := h2
      simp only [hc, cond_true]
      exact fun _ => ⟨_, _, _, ⟨hne, hA.2⟩, by rw [show (⟨U.m.calm, U.t⟩ : Mmu).m.turned = List.replicate 64 false from rfl, trues_calm]⟩
end
end Go.Ink
