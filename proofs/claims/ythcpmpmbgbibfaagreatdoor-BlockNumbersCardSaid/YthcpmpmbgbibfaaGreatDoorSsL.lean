/- An instruction with another count; the pages that are marked. No program in sight. -/
import Derived.Test.YthcpmpmbgbibfaaGreatDoorSsK
import Derived.Test.YthcpmpmbgbibfaaGreatDoorSqT
set_option linter.unusedSimpArgs false
set_option linter.unusedVariables false
set_option maxRecDepth 100000
namespace Go.Ink
open Go.RowKit
abbrev Run.wc (R : Run) (c : Int) : Run := ⟨R.s.wcount c, R.count, R.trap, R.device⟩
abbrev Mach.wc (m : Mach) (c : Int) : Mach := ⟨m.r.wc c, m.u, m.d⟩
section
variable {n : Nat} {op nn : Int} {R : Run} {U : Mmu} {d : Dev} {c : Int}
theorem stack_wc : stackTo op nn (R.wc c) = (stackTo op nn R).map (·.wc c) := by
  have key : ∀ b (x y x' y' : Option Run), x = x'.map (·.wc c) → y = y'.map (·.wc c) → (bif b then x else y) = (bif b then x' else y').map (·.wc c) := fun b x y x' y' h1 h2 => by cases b <;> assumption
  unfold stackTo
  refine key _ _ _ _ _ rfl ?_
  refine key _ _ _ _ _ rfl ?_
  refine key _ _ _ _ _ rfl ?_
  refine key _ _ _ _ _ rfl ?_
  refine key _ _ _ _ _ rfl ?_
  refine key _ _ _ _ _ rfl ?_
  refine key _ _ _ _ _ rfl ?_
  refine key _ _ _ _ _ rfl ?_
  exact key _ _ _ _ _ rfl rfl
theorem reckon_wc : reckonTo op nn (R.wc c) = ((reckonTo op nn R).1, (reckonTo op nn R).2.wc c) := by
  have key : ∀ b (x y x' y' : Bool × Run), x = (x'.1, x'.2.wc c) → y = (y'.1, y'.2.wc c) → (bif b then x else y) = ((bif b then x' else y').1, (bif b then x' else y').2.wc c) := fun b x y x' y' h1 h2 => by cases b <;> assumption
  unfold reckonTo
  refine key _ _ _ _ _ ?_ ?_
  · show (true, bif op != 25 then ((bif (arDo op R.pop.top R.top).2.2 then (R.pop.pop).wc c else ((R.pop.pop).wt ⟨5, 0⟩).wc c).wfl (arDo op R.pop.top R.top).2.1).push [(arDo op R.pop.top R.top).1] else (bif (arDo op R.pop.top R.top).2.2 then (R.pop.pop).wc c else ((R.pop.pop).wt ⟨5, 0⟩).wc c).wfl (arDo op R.pop.top R.top).2.1) = _
    cases (arDo op R.pop.top R.top).2.2 <;> cases (op != 25) <;> rfl
  refine key _ _ _ _ _ rfl ?_
  refine key _ _ _ _ _ rfl ?_
  refine key _ _ _ _ _ rfl ?_
  refine key _ _ _ _ _ rfl ?_
  show ((arHolds op R.s.flags).2, bif (arHolds op R.s.flags).1 then (R.wc c).wpc (thereOf R nn) else R.wc c) = _
  cases (arHolds op R.s.flags).1 <;> rfl
theorem whole_wc (va : Nat) (kind : Int) : wholeTo n (R.wc c) U va kind = ⟨(wholeTo n R U va kind).p, (wholeTo n R U va kind).ok, (wholeTo n R U va kind).r.wc c, (wholeTo n R U va kind).u⟩ := by
  unfold wholeTo
  cases (((va % 4 : Nat) : Int) != 0) <;> rfl
theorem lode_wc (va : Nat) : lodeTo n (R.wc c) U d va = (lodeTo n R U d va).wc c := by
  unfold lodeTo
  rw [whole_wc]
  obtain ⟨⟨p, ok, r, u⟩, hq⟩ : ∃ q, wholeTo n R U va 2 = q := ⟨_, rfl⟩
  rw [hq]
  have hin : ∀ (d' : Dev) (v : Int) (o : Bool), lodeIn ⟨p, ok, r.wc c, u⟩ d' va v o = (lodeIn ⟨p, ok, r, u⟩ d' va v o).wc c := fun d' v o => by unfold lodeIn; cases o <;> rfl
  cases hok : ok with
  | false => rfl
  | true =>
    rw [hok] at hin
    show (bif r.device then lodeIn ⟨p, true, r.wc c, u⟩ (devLoad d (devK p.toNat) r.count).2 va (devLoad d (devK p.toNat) r.count).1.1 (devLoad d (devK p.toNat) r.count).1.2 else lodeIn ⟨p, true, r.wc c, u⟩ d va (wordOf n u.m p.toNat).1 (wordOf n u.m p.toNat).2) = Mach.wc (bif r.device then lodeIn ⟨p, true, r, u⟩ (devLoad d (devK p.toNat) r.count).2 va (devLoad d (devK p.toNat) r.count).1.1 (devLoad d (devK p.toNat) r.count).1.2 else lodeIn ⟨p, true, r, u⟩ d va (wordOf n u.m p.toNat).1 (wordOf n u.m p.toNat).2) c
    rw [hin, hin]
    cases r.device <;> rfl
theorem stow_wc (va v : Nat) : stowTo n (R.wc c) U d va v = (stowTo n R U d va v).wc c := by
  unfold stowTo
  rw [whole_wc]
  obtain ⟨⟨p, ok, r, u⟩, hq⟩ : ∃ q, wholeTo n R U va 3 = q := ⟨_, rfl⟩
  rw [hq]
  cases hok : ok with
  | false => rfl
  | true =>
    simp only [Bool.not_true, cond_false]
    cases r.device with
    | false => rfl
    | true => cases (devStore n u.m d (devK p.toNat) v).1 <;> rfl
theorem set_wc (s : St) (v : Int) : ((s.wcount c).set nn v).1 = ((s.set nn v).1).wcount c := by
  have key : ∀ b (x y x' y' : St × Bool), x.1 = x'.1.wcount c → y.1 = y'.1.wcount c → (bif b then x else y : St × Bool).1 = (bif b then x' else y' : St × Bool).1.wcount c := fun b x y x' y' h1 h2 => by cases b <;> assumption
  unfold St.set
  refine key _ _ _ _ _ rfl ?_
  refine key _ _ _ _ _ rfl ?_
  refine key _ _ _ _ _ rfl ?_
  refine key _ _ _ _ _ rfl ?_
  refine key _ _ _ _ _ rfl ?_
  refine key _ _ _ _ _ rfl ?_
  refine key _ _ _ _ _ rfl ?_
  refine key _ _ _ _ _ rfl ?_
  refine key _ _ _ _ _ rfl ?_
  exact key _ _ _ _ _ rfl rfl
theorem other_wc : otherTo n op nn ⟨R.wc c, U, d⟩ = (otherTo n op nn ⟨R, U, d⟩).wc c := by
  have key : ∀ b (x y x' y' : Mach), x = x'.wc c → y = y'.wc c → (bif b then x else y) = (bif b then x' else y').wc c := fun b x y x' y' h1 h2 => by cases b <;> assumption
  unfold otherTo
  refine key _ _ _ _ _ (lode_wc (R := R.pop) _) ?_
  refine key _ _ _ _ _ (stow_wc (R := R.pop.pop) _ _) ?_
  refine key _ _ _ _ _ rfl ?_
  refine key _ _ _ _ _ rfl ?_
  refine key _ _ _ _ _ rfl ?_
  refine key _ _ _ _ _ rfl ?_
  refine key _ _ _ _ _ rfl ?_
  refine key _ _ _ _ _ rfl ?_
  refine key _ _ _ _ _ rfl ?_
  refine key _ _ _ _ _ ?_ ?_
  · show Mach.mk ((R.pop.wc c).ws ((R.pop.s.wcount c).set nn R.top).1) _ _ = _
    rw [set_wc]
  refine key _ _ _ _ _ rfl ?_
  exact key _ _ _ _ _ rfl rfl
theorem act_wc : actTo n op nn (R.wc c) U d = (actTo n op nn R U d).wc c := by
  unfold actTo
  rw [stack_wc, reckon_wc]
  cases stackTo op nn R with
  | some R' => rfl
  | none =>
    simp only [Option.map_none]
    cases (reckonTo op nn R).1 with
    | true => rfl
    | false => exact other_wc
end
/-! marks -/
section
variable {n : Nat} {U : Mmu} {d : Dev}
theorem MOk.puts {M : Mem} (h : MOk n M) {l : List Int} (hl : ∀ x, x ∈ l → 0 ≤ x ∧ x < ((n * 64 : Nat) : Int)) (v : Int) : ∀ k, k ≤ l.length → MOk n (putsTo M l v k)
  | 0, _ => h
  | k + 1, hk => by
    have h1 := hl (l[k]'(by omega)) (List.getElem_mem _)
    have e : l.getD k 0 = l[k]'(by omega) := by rw [List.getD_eq_getElem?_getD, List.getElem?_eq_getElem (by omega)]; rfl
    rw [putsTo]
    exact (MOk.puts h hl v k (by omega)).put (by rw [e]; omega) (wbyte_rng v k)
theorem MOk.dev {M : Mem} (h : MOk n M) (hd : d.wf) (k : Int) (v : Nat) : MOk n (devStore n M d k v).2.1 := by
  have hD : MOk n (devCmd n M d v).1 := by
    show MOk n (driveDo n M d.disk d.sector d.place v).2.1
    unfold driveDo
    cases hk : driveOk n d.sector d.place with
    | false => exact h
    | true =>
      have hf : d.sector < 16 ∧ d.place % 64 = 0 ∧ d.place < n * 64 := by
        have h2 := hk
        unfold driveOk at h2
        simp only [Bool.not_eq_true', Bool.or_eq_false_iff, decide_eq_false_iff_not, bne_eq_false_iff_eq] at h2
        omega
      simp only [Bool.not_true, cond_false]
      refine cond_all (fun q : Bool × Mem × List Int => MOk n q.2.1) (h.fill (fun x hx => hd.diskb x (List.mem_of_mem_drop (List.mem_of_mem_take hx))) 64 (by omega)) ?_
      exact cond_all (fun q : Bool × Mem × List Int => MOk n q.2.1) h h
  unfold devStore
  refine cond_all (fun q : Bool × Mem × Dev => MOk n q.2.1) h ?_
  refine cond_all (fun q : Bool × Mem × Dev => MOk n q.2.1) h ?_
  refine cond_all (fun q : Bool × Mem × Dev => MOk n q.2.1) h ?_
  refine cond_all (fun q : Bool × Mem × Dev => MOk n q.2.1) h ?_
  refine cond_all (fun q : Bool × Mem × Dev => MOk n q.2.1) h ?_
  refine cond_all (fun q : Bool × Mem × Dev => MOk n q.2.1) h ?_
  refine cond_all (fun q : Bool × Mem × Dev => MOk n q.2.1) hD ?_
  refine cond_all (fun q : Bool × Mem × Dev => MOk n q.2.1) h ?_
  refine cond_all (fun q : Bool × Mem × Dev => MOk n q.2.1) h ?_
  refine cond_all (fun q : Bool × Mem × Dev => MOk n q.2.1) h ?_
  exact cond_all (fun q : Bool × Mem × Dev => MOk n q.2.1) h h
theorem MOk.whole (h : MOk n U.m) (R : Run) (va : Nat) (kind : Int) : MOk n (wholeTo n R U va kind).u.m := by
  unfold wholeTo
  exact cond_all (fun W : Whole => MOk n W.u.m) h (h.placeTo R.sp va kind (h.walk _ _ _ _))
theorem MOk.lode (h : MOk n U.m) (R : Run) (va : Nat) : MOk n (lodeTo n R U d va).u.m := by
  have hu := h.whole R va 2
  unfold lodeTo
  refine cond_all (fun m : Mach => MOk n m.u.m) hu ?_
  exact cond_all (fun m : Mach => MOk n m.u.m) hu hu
theorem MOk.stow (h : MOk n U.m) (hd : d.wf) (R : Run) {va : Nat} (hva : va ≤ 4294967295) (v : Nat) : MOk n (stowTo n R U d va v).u.m := by
  have hu := h.whole R va 3
  have hpf := placeTo_fact n U R.sp va hva 3
  cases hm : (((va % 4 : Nat) : Int) != 0) with
  | true => rw [stowTo_mis hm]; exact h
  | false =>
    obtain ⟨⟨⟨p, tr⟩, U'⟩, hp⟩ : ∃ q, Go.Ink.placeTo n U R.sp va 3 = q := ⟨_, rfl⟩
    rw [hp] at hpf
    obtain ⟨p, rfl⟩ : ∃ m : Nat, p = m := Int.eq_ofNat_of_zero_le hpf.1.1
    have hU' : MOk n U'.m := by
      have := h.placeTo R.sp va 3 (h.walk _ _ _ _)
      rw [hp] at this
      exact this
    cases hc : (tr.cause != 0) with
    | true => rw [stowTo_trap hm hp hc]; exact hU'
    | false =>
      have hz : tr.cause = 0 := by simpa using hc
      have hto := placeTo_told n U R.sp va 3
      rw [hp] at hto
      have hPo := hpf.2 hz
      have htn : tr = Tr.none := hto hz
      rw [htn] at hp
      have hPo : PlaceOk n va (p : Int) := hPo
      rw [stowTo_in hm hp]
      cases hb : decide ((32768 : Int) ≤ (p : Int)) with
      | true => exact hU'.dev hd _ _
      | false =>
        have hb' : ¬ (32768 : Int) ≤ (p : Int) := of_decide_eq_false hb
        have h4 : va % 4 = 0 := (by have h5 : ((va % 4 : Nat) : Int) = 0 := (by simpa using hm); omega)
        have h1 := hPo.m
        have h2 := dev_big (by unfold isDev; rw [decide_eq_false hb']; rfl) hPo
        exact hU'.putTo _ 4 (by omega)
theorem MOk.other (h : MOk n U.m) (hd : d.wf) (hn : n ≤ 64) {op nn : Int} {R : Run} (hw : ∀ x, x ∈ R.s.d → u32 x) : MOk n (otherTo n op nn ⟨R, U, d⟩).u.m := by
  have hlast : ∀ l : List Int, (∀ x, x ∈ l → u32 x) → u32 (l.getLastD 0) := fun l hl => by
    by_cases e : l = []
    · subst e; exact u0
    obtain ⟨l', x, rfl⟩ := snoc_of (List.length_pos_iff.2 e)
    have e2 : (l' ++ [x]).getLastD 0 = x := by simp
    rw [e2]
    exact hl x (by simp)
  have htop : R.top.toNat ≤ 4294967295 := by
    have h1 := hlast R.s.d hw
    have h2 : R.top ≤ 4294967295 := h1.2
    omega
  unfold otherTo
  refine cond_all (fun m : Mach => MOk n m.u.m) (h.lode _ _) ?_
  refine cond_all (fun m : Mach => MOk n m.u.m) (h.stow hd _ htop _) ?_
  refine cond_all (fun m : Mach => MOk n m.u.m) (h.spanTo _ _ _ _) ?_
  refine cond_all (fun m : Mach => MOk n m.u.m) ((h.spanTo _ _ _ _).puts (spanTo_in hn htop (by decide)) _ _ (Nat.le_refl _)) ?_
  refine cond_all (fun m : Mach => MOk n m.u.m) (h.spanTo _ _ _ _) ?_
  refine cond_all (fun m : Mach => MOk n m.u.m) ((h.spanTo _ _ _ _).puts (spanTo_in hn htop (by decide)) _ _ (Nat.le_refl _)) ?_
  refine cond_all (fun m : Mach => MOk n m.u.m) h ?_
  refine cond_all (fun m : Mach => MOk n m.u.m) h ?_
  refine cond_all (fun m : Mach => MOk n m.u.m) h ?_
  refine cond_all (fun m : Mach => MOk n m.u.m) (cond_all (fun V : Mmu => MOk n V.m) h h) ?_
  refine cond_all (fun m : Mach => MOk n m.u.m) h ?_
  exact cond_all (fun m : Mach => MOk n m.u.m) h h
theorem MOk.act (h : MOk n U.m) (hd : d.wf) {op nn : Int} {R : Run} (hw : ∀ x, x ∈ R.s.d → u32 x) : MOk n (actTo n op nn R U d).u.m := by
  unfold actTo
  cases stackTo op nn R with
  | some R' => exact h
  | none =>
    cases hr : (reckonTo op nn R).1 with
    | true => exact h
    | false =>
      rw [reckonTo_none op nn R hr]
      exact h.other hd h.n64 hw
theorem MOk.do (h : MOk n U.m) (hd : d.wf) {s : St} (hw : ∀ x, x ∈ s.d → u32 x) (op nn : Int) : MOk n (doTo n s op nn U d).2.1.m := by
  unfold doTo
  refine cond_all (fun q : Res × Mmu × Dev => MOk n q.2.1.m) h ?_
  refine cond_all (fun q : Res × Mmu × Dev => MOk n q.2.1.m) h.calm ?_
  exact MOk.act (U := ⟨U.m.calm, U.t⟩) h.calm hd (R := run0 s op) hw
end
end Go.Ink
