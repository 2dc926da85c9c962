/- An instruction keeps what holds of a guest's parts. No program in sight. -/
import Derived.Test.YtmhpcgmjlpfheaaGreatDoorSqH
set_option linter.unusedSimpArgs false
set_option linter.unusedVariables false
set_option maxRecDepth 100000
namespace Go.Ink
open Go.RowKit
/-- The parts behind an instruction; the registers, if it isn't trapped. -/
structure After (n : Nat) (op : Int) (s : St) (d : Dev) (m : Mach) : Prop where
  u : UOk n m.u
  dv : m.d.ok
  o : m.d.out.length ≤ d.out.length + 1
  t : TrU m.r.trap
  did : m.r.trap.cause = 0 → Did op s m.r.s
theorem wholeTo_okU {n : Nat} {U : Mmu} (h : UOk n U) (R : Run) (va : Nat) (kind : Int) : UOk n (wholeTo n R U va kind).u := by
  unfold wholeTo
  exact cond_all (fun W : Whole => UOk n W.u) h (placeTo_okU h ..)
theorem wholeTo_tr (n : Nat) (R : Run) (U : Mmu) (va : Nat) (hva : va ≤ 4294967295) (kind : Int) : TrU (wholeTo n R U va kind).r.trap := by
  unfold wholeTo
  exact cond_all (fun W : Whole => TrU W.r.trap) ⟨u32_nat hva, by show (0 : Int) ≤ 6; decide, by show (6 : Int) ≤ 255; decide⟩ (placeTo_tr n U R.sp va hva kind)
theorem wholeTo_cause (n : Nat) (R : Run) (U : Mmu) (va : Nat) (kind : Int) : (wholeTo n R U va kind).ok = ((wholeTo n R U va kind).r.trap.cause == 0) := by
  unfold wholeTo
  exact cond_all (fun W : Whole => W.ok = (W.r.trap.cause == 0)) rfl rfl
theorem get_u32 {s : St} (h : s.wf) (reg : Int) : u32 (s.get reg).1 := by
  have hb : ∀ b, u32 (b2i b) := fun b => by cases b; exact u0; exact u1
  unfold St.get
  refine cond_all (fun q : Int × Bool => u32 q.1) (hb _) ?_
  refine cond_all (fun q : Int × Bool => u32 q.1) (hb _) ?_
  refine cond_all (fun q : Int × Bool => u32 q.1) h.root ?_
  refine cond_all (fun q : Int × Bool => u32 q.1) h.vec ?_
  refine cond_all (fun q : Int × Bool => u32 q.1) h.epc ?_
  refine cond_all (fun q : Int × Bool => u32 q.1) h.cause ?_
  refine cond_all (fun q : Int × Bool => u32 q.1) h.addr ?_
  refine cond_all (fun q : Int × Bool => u32 q.1) (hb _) ?_
  refine cond_all (fun q : Int × Bool => u32 q.1) (hb _) ?_
  refine cond_all (fun q : Int × Bool => u32 q.1) (wrap_u32 _) ?_
  exact cond_all (fun q : Int × Bool => u32 q.1) h.flags u0
/-- What a register is set to. -/
def SetOk (s : St) (q : St × Bool) : Prop := q.1.wf ∧ q.1.flags ≤ 15 ∧ q.1.count = s.count
theorem set_wf {s : St} (h : s.wf) (hf : s.flags ≤ 15) (reg : Int) {v : Int} (hv : u32 v) : SetOk s (s.set reg v) := by
  have h0 : SetOk s (s, false) := ⟨h, hf, rfl⟩
  unfold St.set
  refine cond_all (SetOk s) ⟨⟨h.pc, h.flags, h.root, h.vec, h.epc, h.cause, h.addr, h.count, h.d, h.r⟩, hf, rfl⟩ ?_
  refine cond_all (SetOk s) ⟨⟨h.pc, h.flags, h.root, h.vec, h.epc, h.cause, h.addr, h.count, h.d, h.r⟩, hf, rfl⟩ ?_
  refine cond_all (SetOk s) ⟨⟨h.pc, h.flags, bits_u32 .andNot v 63, h.vec, h.epc, h.cause, h.addr, h.count, h.d, h.r⟩, hf, rfl⟩ ?_
  refine cond_all (SetOk s) ⟨⟨h.pc, h.flags, h.root, hv, h.epc, h.cause, h.addr, h.count, h.d, h.r⟩, hf, rfl⟩ ?_
  refine cond_all (SetOk s) ⟨⟨h.pc, h.flags, h.root, h.vec, hv, h.cause, h.addr, h.count, h.d, h.r⟩, hf, rfl⟩ ?_
  refine cond_all (SetOk s) ⟨⟨h.pc, h.flags, h.root, h.vec, h.epc, hv, h.addr, h.count, h.d, h.r⟩, hf, rfl⟩ ?_
  refine cond_all (SetOk s) ⟨⟨h.pc, h.flags, h.root, h.vec, h.epc, h.cause, hv, h.count, h.d, h.r⟩, hf, rfl⟩ ?_
  refine cond_all (SetOk s) ⟨⟨h.pc, h.flags, h.root, h.vec, h.epc, h.cause, h.addr, h.count, h.d, h.r⟩, hf, rfl⟩ ?_
  refine cond_all (SetOk s) ⟨⟨h.pc, h.flags, h.root, h.vec, h.epc, h.cause, h.addr, h.count, h.d, h.r⟩, hf, rfl⟩ ?_
  refine cond_all (SetOk s) ⟨⟨h.pc, bits_u32 .and v 15, h.root, h.vec, h.epc, h.cause, h.addr, h.count, h.d, h.r⟩, ?_, rfl⟩ h0
  show bits .and .u32 v 15 ≤ 15
  rw [and15' hv]
  omega
section
variable {n : Nat} {op nn : Int} {R : Run} {U : Mmu} {d : Dev}
theorem lode_after (hop : op = 48) {l : List Int} {va : Nat} (hva : va ≤ 4294967295) (hw : (R.wd (l ++ [(va : Int)])).s.wf) (hf : R.s.flags ≤ 15) (hU : UOk n U) (hd : d.ok) : After n op (R.wd (l ++ [(va : Int)])).s d (lodeTo n (R.wd l) U d va) := by
  subst hop
  have hu := wholeTo_okU hU (R.wd l) va 2
  have ht := wholeTo_tr n (R.wd l) U va hva 2
  have hs := wholeTo_s n (R.wd l) U va 2
  have hc := wholeTo_cause n (R.wd l) U va 2
  have hwl : (R.wd l).s.wf := wf_d hw (allL hw.d)
  unfold lodeTo
  obtain ⟨⟨p, ok, r, u⟩, hq⟩ : ∃ q, wholeTo n (R.wd l) U va 2 = q := ⟨_, rfl⟩
  rw [hq] at hu ht hs hc ⊢
  have hu : UOk n u := hu
  have ht : TrU r.trap := ht
  have hs : r.s = (R.wd l).s := hs
  have hc : ok = (r.trap.cause == 0) := hc
  have key : ∀ (v : Int) (o : Bool) (d' : Dev), u32 v → d'.ok → d'.out.length ≤ d.out.length + 1 → After n 48 (R.wd (l ++ [(va : Int)])).s d (lodeIn ⟨p, ok, r, u⟩ d' va v o) := fun v o d' hv hd' ho' => by
    unfold lodeIn
    cases o with
    | false => exact ⟨hu, hd', ho', (tr10 (u32_nat hva)), fun h => by cases h⟩
    | true =>
      refine ⟨hu, hd', ho', ht, fun _ => ?_⟩
      have e : (Run.push r [v]).s = (R.wd (l ++ [v])).s := by
        show St.mk _ _ _ _ _ _ _ _ _ _ _ _ _ _ _ _ = _
        rw [hs]
      show Did 48 _ (Run.push r [v]).s
      rw [e]
      exact Did.of (l := l) (m := R.s.r) [(va : Int)] [v] [] [] rfl (wf_d hwl (all1 (allL hw.d) hv)) hf rfl rfl rfl (by simp) (by simp)
  cases hok : ok with
  | false =>
    rw [hok] at hc
    exact ⟨hu, hd, Nat.le_succ _, ht, fun h => by have h : r.trap.cause = 0 := h; rw [h] at hc; cases hc⟩
  | true =>
    rw [hok] at key
    simp only [Bool.not_true, cond_false]
    refine cond_all (After n 48 (R.wd (l ++ [(va : Int)])).s d) ?_ ?_
    · have h1 := devLoad_ok hd (devK p.toNat) r.count
      exact key _ _ _ h1.1 h1.2.1 (by rw [h1.2.2]; exact Nat.le_succ _)
    refine key _ _ _ ?_ hd (Nat.le_succ _)
    unfold wordOf
    exact cond_all (fun q : Int × Bool => u32 q.1) (wordAt_u32 hu.m.db _) u0
theorem stow_after (hop : op = 49) {l : List Int} {va v : Nat} (hva : va ≤ 4294967295) (hv : v ≤ 4294967295) (hw : (R.wd ((l ++ [(v : Int)]) ++ [(va : Int)])).s.wf) (hf : R.s.flags ≤ 15) (hU : UOk n U) (hd : d.ok) : After n op (R.wd ((l ++ [(v : Int)]) ++ [(va : Int)])).s d (stowTo n (R.wd l) U d va v) := by
  subst hop
  have hu := wholeTo_okU hU (R.wd l) va 3
  have ht := wholeTo_tr n (R.wd l) U va hva 3
  have hs := wholeTo_s n (R.wd l) U va 3
  have hc := wholeTo_cause n (R.wd l) U va 3
  have hdd : ∀ z, z ∈ (l ++ [(v : Int)]) ++ [(va : Int)] → u32 z := hw.d
  have hwl : (R.wd l).s.wf := wf_d hw (allL (allL hdd))
  unfold stowTo
  obtain ⟨⟨p, ok, r, u⟩, hq⟩ : ∃ q, wholeTo n (R.wd l) U va 3 = q := ⟨_, rfl⟩
  rw [hq] at hu ht hs hc ⊢
  have hu : UOk n u := hu
  have ht : TrU r.trap := ht
  have hs : r.s = (R.wd l).s := hs
  have hc : ok = (r.trap.cause == 0) := hc
  have hdid : Did 49 (R.wd ((l ++ [(v : Int)]) ++ [(va : Int)])).s r.s := by
    rw [hs]
    exact Did.of (l := l) (m := R.s.r) [(v : Int), (va : Int)] [] [] [] rfl hwl hf rfl (by simp) (by simp) (by simp) (by simp)
  cases hok : ok with
  | false =>
    rw [hok] at hc
    exact ⟨hu, hd, Nat.le_succ _, ht, fun h => by have h : r.trap.cause = 0 := h; rw [h] at hc; cases hc⟩
  | true =>
    simp only [Bool.not_true, cond_false]
    refine cond_all (After n 49 (R.wd ((l ++ [(v : Int)]) ++ [(va : Int)])).s d) ?_ ?_
    · obtain ⟨h1, h2, h3⟩ := devStore_ok hu.m hd (devK p.toNat) hv
      obtain ⟨⟨o, M', d'⟩, hq2⟩ : ∃ q, devStore n u.m d (devK p.toNat) v = q := ⟨_, rfl⟩
      rw [hq2] at h1 h2 h3
      rw [hq2]
      cases o with
      | false => exact ⟨⟨h1, hu.t⟩, h2, h3, (tr10 (u32_nat hva)), fun h => by cases h⟩
      | true => exact ⟨⟨h1, hu.t⟩, h2, h3, ht, fun _ => hdid⟩
    exact ⟨⟨hu.m.putTo _ _ 4, hu.t⟩, hd, Nat.le_succ _, ht, fun _ => hdid⟩
theorem sameL_after (hn : opNeeds op = ((1, 1), (0, 0))) {l : List Int} {va k : Nat} (hva : va ≤ 4294967295) (hk : k ≤ 4) (hw : (R.wd (l ++ [(va : Int)])).s.wf) (hf : R.s.flags ≤ 15) (hU : UOk n U) (hd : d.ok) : After n op (R.wd (l ++ [(va : Int)])).s d (Mach.of (sameL n (R.wd l) U va k) d) := by
  have hwl : (R.wd l).s.wf := wf_d hw (allL hw.d)
  have hv := loadTo_u32 hU (R.wd l).sp va hk
  exact ⟨spanTo_okU hU _ _ _ _, hd, Nat.le_succ _, spanTo_tr n U _ va k hva 2, fun _ => Did.of (l := l) (m := R.s.r) [(va : Int)] [_] [] [] hn (wf_d hwl (all1 (allL hw.d) hv)) hf rfl rfl rfl (by simp) (by simp [sameL, Run.push])⟩
theorem sameS_after (hn : opNeeds op = ((2, 0), (0, 0))) {l : List Int} {v : Int} {va k : Nat} (hva : va ≤ 4294967295) (hw : (R.wd ((l ++ [v]) ++ [(va : Int)])).s.wf) (hf : R.s.flags ≤ 15) (hU : UOk n U) (hd : d.ok) : After n op (R.wd ((l ++ [v]) ++ [(va : Int)])).s d (Mach.of (sameS n (R.wd l) U va k v) d) := by
  have hdd : ∀ z, z ∈ (l ++ [v]) ++ [(va : Int)] → u32 z := hw.d
  have hwl : (R.wd l).s.wf := wf_d hw (allL (allL hdd))
  exact ⟨storeTo_okU hU _ _ _ _, hd, Nat.le_succ _, spanTo_tr n U _ va k hva 3, fun _ => Did.of (l := l) (m := R.s.r) [v, (va : Int)] [] [] [] hn hwl hf rfl (by simp) (by simp [sameS]) (by simp) (by simp [sameS])⟩
theorem tflush_len : tflush.length = 16 := List.length_replicate
theorem other_after (hw : R.s.wf) (hf : R.s.flags ≤ 15) (hc : 0 ≤ R.count ∧ R.count ≤ 18446744073709551615) (ht : R.trap = Tr.none) (hU : UOk n U) (hd : d.ok) (hnn : u32 nn) (h1 : (opNeeds op).1.1 ≤ R.s.d.length) (hst : stackTo op nn R = none) (hrk : (reckonTo op nn R).1 = false) : After n op R.s d (otherTo n op nn ⟨R, U, d⟩) := by
  have ht' : TrU R.trap := by rw [ht]; exact trN
  have h0 : ∀ {op}, opNeeds op = ((0, 0), (0, 0)) → ∀ (s' : St), s'.wf → s'.flags ≤ 15 → s'.count = R.s.count → s'.d = R.s.d → s'.r = R.s.r → Did op R.s s' := fun hn s' a1 a2 a3 a4 a5 =>
    Did.of (l := R.s.d) (m := R.s.r) [] [] [] [] hn a1 a2 a3 (by simp) (by simp [a4]) (by simp) (by simp [a5])
  by_cases e : op = 48
  · subst e; obtain ⟨R, l, x, rfl⟩ := Run.snoc (show 1 ≤ R.s.d.length from h1)
    have hx := allR (l := l) hw.d
    obtain ⟨va, rfl⟩ : ∃ va : Nat, x = va := Int.eq_ofNat_of_zero_le hx.1
    have hva : va ≤ 4294967295 := by have : (va : Int) ≤ _ := hx.2; omega
    have he : otherTo n 48 nn ⟨R.wd (l ++ [(va : Int)]), U, d⟩ = lodeTo n (R.wd l) U d va := by show lodeTo _ _ _ _ _ = _; rw [Run.pop_wd, Run.top_wd]; rfl
    rw [he]; exact lode_after rfl hva hw hf hU hd
  have e48 : (op == 48) = false := by simpa using e
  by_cases e : op = 49
  · subst e; obtain ⟨R, l, y, x, rfl⟩ := Run.snoc2 (show 2 ≤ R.s.d.length from h1)
    have hx := allR (l := l ++ [y]) hw.d
    have hy := allR (l := l) (allL (l := l ++ [y]) hw.d)
    obtain ⟨va, rfl⟩ : ∃ va : Nat, x = va := Int.eq_ofNat_of_zero_le hx.1
    obtain ⟨v, rfl⟩ : ∃ v : Nat, y = v := Int.eq_ofNat_of_zero_le hy.1
    have hva : va ≤ 4294967295 := by have : (va : Int) ≤ _ := hx.2; omega
    have hv : v ≤ 4294967295 := by have : (v : Int) ≤ _ := hy.2; omega
    have he : otherTo n 49 nn ⟨R.wd ((l ++ [(v : Int)]) ++ [(va : Int)]), U, d⟩ = stowTo n (R.wd l) U d va v := by show stowTo _ _ _ _ _ _ = _; rw [Run.pop_wd, Run.top_wd, Run.pop_wd, Run.top_wd]; rfl
    rw [he]; exact stow_after rfl hva hv hw hf hU hd
  have e49 : (op == 49) = false := by simpa using e
  by_cases e : op = 50
  · subst e; obtain ⟨R, l, x, rfl⟩ := Run.snoc (show 1 ≤ R.s.d.length from h1)
    have hx := allR (l := l) hw.d
    obtain ⟨va, rfl⟩ : ∃ va : Nat, x = va := Int.eq_ofNat_of_zero_le hx.1
    have hva : va ≤ 4294967295 := by have : (va : Int) ≤ _ := hx.2; omega
    have he : otherTo n 50 nn ⟨R.wd (l ++ [(va : Int)]), U, d⟩ = Mach.of (sameL n (R.wd l) U va 4) d := by show Mach.of (sameL _ _ _ _ _) _ = _; rw [Run.pop_wd, Run.top_wd]; rfl
    rw [he]; exact sameL_after rfl hva (by decide) hw hf hU hd
  have e50 : (op == 50) = false := by simpa using e
  by_cases e : op = 51
  · subst e; obtain ⟨R, l, y, x, rfl⟩ := Run.snoc2 (show 2 ≤ R.s.d.length from h1)
    have hx := allR (l := l ++ [y]) hw.d
    obtain ⟨va, rfl⟩ : ∃ va : Nat, x = va := Int.eq_ofNat_of_zero_le hx.1
    have hva : va ≤ 4294967295 := by have : (va : Int) ≤ _ := hx.2; omega
    have he : otherTo n 51 nn ⟨R.wd ((l ++ [y]) ++ [(va : Int)]), U, d⟩ = Mach.of (sameS n (R.wd l) U va 4 y) d := by show Mach.of (sameS _ _ _ _ _ _) _ = _; rw [Run.pop_wd, Run.top_wd, Run.pop_wd, Run.top_wd]; rfl
    rw [he]; exact sameS_after rfl hva hw hf hU hd
  have e51 : (op == 51) = false := by simpa using e
  by_cases e : op = 52
  · subst e; obtain ⟨R, l, x, rfl⟩ := Run.snoc (show 1 ≤ R.s.d.length from h1)
    have hx := allR (l := l) hw.d
    obtain ⟨va, rfl⟩ : ∃ va : Nat, x = va := Int.eq_ofNat_of_zero_le hx.1
    have hva : va ≤ 4294967295 := by have : (va : Int) ≤ _ := hx.2; omega
    have he : otherTo n 52 nn ⟨R.wd (l ++ [(va : Int)]), U, d⟩ = Mach.of (sameL n (R.wd l) U va 1) d := by show Mach.of (sameL _ _ _ _ _) _ = _; rw [Run.pop_wd, Run.top_wd]; rfl
    rw [he]; exact sameL_after rfl hva (by decide) hw hf hU hd
  have e52 : (op == 52) = false := by simpa using e
  by_cases e : op = 53
  · subst e; obtain ⟨R, l, y, x, rfl⟩ := Run.snoc2 (show 2 ≤ R.s.d.length from h1)
    have hx := allR (l := l ++ [y]) hw.d
    obtain ⟨va, rfl⟩ : ∃ va : Nat, x = va := Int.eq_ofNat_of_zero_le hx.1
    have hva : va ≤ 4294967295 := by have : (va : Int) ≤ _ := hx.2; omega
    have he : otherTo n 53 nn ⟨R.wd ((l ++ [y]) ++ [(va : Int)]), U, d⟩ = Mach.of (sameS n (R.wd l) U va 1 y) d := by show Mach.of (sameS _ _ _ _ _ _) _ = _; rw [Run.pop_wd, Run.top_wd, Run.pop_wd, Run.top_wd]; rfl
    rw [he]; exact sameS_after rfl hva hw hf hU hd
  have e53 : (op == 53) = false := by simpa using e
  by_cases e : op = 64
  · subst e
    exact ⟨hU, hd, Nat.le_succ _, tr11, fun h => by cases h⟩
  have e64 : (op == 64) = false := by simpa using e
  by_cases e : op = 65
  · subst e
    exact ⟨hU, hd, Nat.le_succ _, ht', fun _ => h0 rfl R.s.back ⟨hw.epc, hw.flags, hw.root, hw.vec, hw.epc, hw.cause, hw.addr, hw.count, hw.d, hw.r⟩ hf rfl rfl rfl⟩
  have e65 : (op == 65) = false := by simpa using e
  by_cases e : op = 66
  · subst e
    have hwc : (R.s.wcount R.count).wf := ⟨hw.pc, hw.flags, hw.root, hw.vec, hw.epc, hw.cause, hw.addr, hc, hw.d, hw.r⟩
    exact ⟨hU, hd, Nat.le_succ _, ht', fun _ => Did.of (l := R.s.d) (m := R.s.r) [] [((R.s.wcount R.count).get nn).1] [] [] rfl (wf_d hw (all1 hw.d (get_u32 hwc nn))) hf rfl (by simp) rfl (by simp) (List.append_nil _).symm⟩
  have e66 : (op == 66) = false := by simpa using e
  by_cases e : op = 67
  · subst e; obtain ⟨R, l, x, rfl⟩ := Run.snoc (show 1 ≤ R.s.d.length from h1)
    have hwl : (R.wd l).s.wf := wf_d hw (allL (l := l) hw.d)
    have hs := set_wf hwl hf nn (allR (l := l) hw.d)
    obtain ⟨q1, q2⟩ := St.set_dr (R.wd l).s nn x
    have he : otherTo n 67 nn ⟨R.wd (l ++ [x]), U, d⟩ = ⟨(R.wd l).ws ((R.wd l).s.set nn x).1, bif nn == 1 || nn == 2 then ⟨U.m, tflush⟩ else U, d⟩ := by show Mach.mk _ _ _ = _; rw [Run.pop_wd, Run.top_wd]
    rw [he]
    exact ⟨cond_all (UOk n) ⟨hU.m, tflush_len⟩ hU, hd, Nat.le_succ _, ht', fun _ => Did.of (l := l) (m := R.s.r) [x] [] [] [] rfl hs.1 hs.2.1 hs.2.2 rfl (by simp only [q1, List.append_nil]) (by simp) (by simp only [q2, List.append_nil])⟩
  have e67 : (op == 67) = false := by simpa using e
  by_cases e : op = 68
  · subst e; obtain ⟨R, l, x, rfl⟩ := Run.snoc (show 1 ≤ R.s.d.length from h1)
    have he : otherTo n 68 nn ⟨R.wd (l ++ [x]), U, d⟩ = ⟨R.wd l, ⟨U.m, tdrop U.t x.toNat⟩, d⟩ := by show Mach.mk _ _ _ = _; rw [Run.pop_wd, Run.top_wd]
    rw [he]
    exact ⟨⟨hU.m, (tdrop_len _ _).trans hU.t⟩, hd, Nat.le_succ _, ht', fun _ => Did.of (l := l) (m := R.s.r) [x] [] [] [] rfl (wf_d hw (allL (l := l) hw.d)) hf rfl rfl (by simp) (by simp) (by simp)⟩
  have e68 : (op == 68) = false := by simpa using e
  by_cases e : op = 69
  · subst e
    exact ⟨hU, hd, Nat.le_succ _, ht', fun _ => h0 rfl R.s.halt ⟨hw.pc, hw.flags, hw.root, hw.vec, hw.epc, hw.cause, hw.addr, hw.count, hw.d, hw.r⟩ hf rfl rfl rfl⟩
  have e69 : (op == 69) = false := by simpa using e
  have he : otherTo n op nn ⟨R, U, d⟩ = ⟨R, U, d⟩ := by simp only [otherTo, *, cond_false]
  have hn : opNeeds op = ((0, 0), (0, 0)) := by
    have n1 : (op == 1) = false := by cases h : (op == 1) with | false => rfl | true => (have := beqZ h; subst this; cases hst)
    have n2 : (op == 2) = false := by cases h : (op == 2) with | false => rfl | true => (have := beqZ h; subst this; cases hst)
    have n3 : (op == 3) = false := by cases h : (op == 3) with | false => rfl | true => (have := beqZ h; subst this; cases hst)
    have n4 : (op == 4) = false := by cases h : (op == 4) with | false => rfl | true => (have := beqZ h; subst this; cases hst)
    have n5 : (op == 5) = false := by cases h : (op == 5) with | false => rfl | true => (have := beqZ h; subst this; cases hst)
    have n6 : (op == 6) = false := by cases h : (op == 6) with | false => rfl | true => (have := beqZ h; subst this; cases hst)
    have n7 : (op == 7) = false := by cases h : (op == 7) with | false => rfl | true => (have := beqZ h; subst this; cases hst)
    have n8 : (op == 8) = false := by cases h : (op == 8) with | false => rfl | true => (have := beqZ h; subst this; cases hst)
    have n16 : (op == 16) = false := by cases h : (op == 16) with | false => rfl | true => (have := beqZ h; subst this; cases hrk)
    have n17 : (op == 17) = false := by cases h : (op == 17) with | false => rfl | true => (have := beqZ h; subst this; cases hrk)
    have n18 : (op == 18) = false := by cases h : (op == 18) with | false => rfl | true => (have := beqZ h; subst this; cases hrk)
    have n19 : (op == 19) = false := by cases h : (op == 19) with | false => rfl | true => (have := beqZ h; subst this; cases hrk)
    have n20 : (op == 20) = false := by cases h : (op == 20) with | false => rfl | true => (have := beqZ h; subst this; cases hrk)
    have n21 : (op == 21) = false := by cases h : (op == 21) with | false => rfl | true => (have := beqZ h; subst this; cases hrk)
    have n22 : (op == 22) = false := by cases h : (op == 22) with | false => rfl | true => (have := beqZ h; subst this; cases hrk)
    have n23 : (op == 23) = false := by cases h : (op == 23) with | false => rfl | true => (have := beqZ h; subst this; cases hrk)
    have n24 : (op == 24) = false := by cases h : (op == 24) with | false => rfl | true => (have := beqZ h; subst this; cases hrk)
    have n25 : (op == 25) = false := by cases h : (op == 25) with | false => rfl | true => (have := beqZ h; subst this; cases hrk)
    have n38 : (op == 38) = false := by cases h : (op == 38) with | false => rfl | true => (have := beqZ h; subst this; cases hrk)
    have n39 : (op == 39) = false := by cases h : (op == 39) with | false => rfl | true => (have := beqZ h; subst this; cases hrk)
    have n40 : (op == 40) = false := by cases h : (op == 40) with | false => rfl | true => (have := beqZ h; subst this; cases hrk)
    unfold opNeeds
    simp only [*, cond_false]
  rw [he]
  exact ⟨hU, hd, Nat.le_succ _, ht', fun _ => h0 hn R.s hw hf rfl rfl rfl⟩
theorem needs_c (op : Int) : (opNeeds op).1.2 ≤ 3 ∧ (opNeeds op).2.2 ≤ 3 := ⟨(needs_le op).2.1, (needs_le op).2.2.2⟩
theorem next_wf {s : St} (h : s.wf) : s.next.wf := by
  refine ⟨h.pc, h.flags, h.root, h.vec, h.epc, h.cause, h.addr, ?_, h.d, h.r⟩
  show 0 ≤ IntKind.u64.wrap _ ∧ IntKind.u64.wrap _ ≤ _
  rw [IntKind.wrap_u64]
  omega
theorem trap_wf {s : St} (h : s.wf) (c : Int) {a : Int} (ha : u32 a) : (s.trap c a).wf := ⟨h.vec, h.flags, h.root, h.vec, h.pc, wrap_u32 _, ha, h.count, h.d, h.r⟩
theorem trap_right {s : St} (h : s.right = true) (c a : Int) : (s.trap c a).right = true := h
/-- The run behind an instruction that is let by. -/
theorem mid_after {s : St} (hw : s.wf) (hr : s.right = true) (hnn : u32 nn) (hck : checkOf s op nn = 0) (hU : UOk n U) (hd : d.ok) : After n op s.next d (midTo n s op nn U d) := by
  obtain ⟨h16, r16, f15⟩ := St.fits hr
  obtain ⟨n1, n2⟩ := checkOf_zero hck
  have hwn := next_wf hw
  have hw0 : (run0 s op).s.wf := wf_pc hwn (wrap_u32 _)
  have key : ∀ {m : Mach}, After n op (run0 s op).s d m → After n op s.next d m := fun h => ⟨h.u, h.dv, h.o, h.t, fun hc => by
    have h1 := h.did hc
    exact ⟨h1.wf, h1.fl, h1.cnt, h1.dl, h1.dt, h1.rl, h1.rt⟩⟩
  unfold midTo
  cases hst : stackTo op nn (run0 s op) with
  | some R' =>
    obtain ⟨h1, h2, -, -⟩ := stack_did hw0 f15 hnn n1 n2 hst
    exact key ⟨hU, hd, Nat.le_succ _, by show TrU R'.trap; rw [h2]; exact trN, fun _ => h1⟩
  | none =>
    cases hrk : (reckonTo op nn (run0 s op)).1 with
    | true =>
      obtain ⟨h1, h2, -, -⟩ := reckon_did hw0 f15 n1 n2 hrk
      refine key ⟨hU, hd, Nat.le_succ _, ?_, fun _ => h1⟩
      show TrU (reckonTo op nn (run0 s op)).2.trap
      rcases h2 with h2 | h2 <;> rw [h2]
      · exact trN
      exact ⟨u0, by decide, by decide⟩
    | false =>
      simp only [cond_false]
      rw [reckonTo_none op nn _ hrk]
      exact key (other_after hw0 f15 hw.count rfl hU hd hnn n1 hst hrk)
/-- What holds behind any instruction. -/
structure Goes (n : Nat) (s : St) (d : Dev) (q : Res × Mmu × Dev) : Prop where
  wf : q.1.s.wf
  right : q.1.s.right = true
  cnt : q.1.s.count = IntKind.u64.wrap (s.count + 1)
  u : UOk n q.2.1
  dv : q.2.2.ok
  o : q.2.2.out.length ≤ d.out.length + 1
theorem needOf_room {s : St} {q : (Nat × Nat) × (Nat × Nat)} (h : needOf s q = 0) : (s.d.length : Int) - q.1.1 + q.1.2 ≤ 16 ∧ (s.r.length : Int) - q.2.1 + q.2.2 ≤ 16 := by
  unfold needOf at h
  cases hc : (decide ((s.d.length : Int) < (q.1.1 : Int)) || decide ((s.r.length : Int) < (q.2.1 : Int))) with
  | true => rw [hc] at h; cases h
  | false =>
    rw [hc] at h
    simp only [cond_false] at h
    cases hc2 : (decide (16 < (s.d.length : Int) - (q.1.1 : Int) + (q.1.2 : Int)) || decide (16 < (s.r.length : Int) - (q.2.1 : Int) + (q.2.2 : Int))) with
    | true => rw [hc2] at h; cases h
    | false =>
      simp only [Bool.or_eq_false_iff, decide_eq_false_iff_not] at hc2
      omega
theorem checkOf_room {s : St} {op n : Int} (h : checkOf s op n = 0) : (s.d.length : Int) - (opNeeds op).1.1 + (opNeeds op).1.2 ≤ 16 ∧ (s.r.length : Int) - (opNeeds op).2.1 + (opNeeds op).2.2 ≤ 16 := by
  unfold checkOf at h
  revert h
  refine cond_all (fun x : Int => x = 0 → (s.d.length : Int) - (opNeeds op).1.1 + (opNeeds op).1.2 ≤ 16 ∧ (s.r.length : Int) - (opNeeds op).2.1 + (opNeeds op).2.2 ≤ 16) (fun h => by cases h) ?_
  refine cond_all (fun x : Int => x = 0 → (s.d.length : Int) - (opNeeds op).1.1 + (opNeeds op).1.2 ≤ 16 ∧ (s.r.length : Int) - (opNeeds op).2.1 + (opNeeds op).2.2 ≤ 16) (fun h => by cases h) ?_
  refine cond_all (fun x : Int => x = 0 → (s.d.length : Int) - (opNeeds op).1.1 + (opNeeds op).1.2 ≤ 16 ∧ (s.r.length : Int) - (opNeeds op).2.1 + (opNeeds op).2.2 ≤ 16) (fun h => by cases h) ?_
  refine cond_all (fun x : Int => x = 0 → (s.d.length : Int) - (opNeeds op).1.1 + (opNeeds op).1.2 ≤ 16 ∧ (s.r.length : Int) - (opNeeds op).2.1 + (opNeeds op).2.2 ≤ 16) (fun h => by cases h) ?_
  exact needOf_room
theorem did_right {s s' : St} (h : Did op s s') (hs : s.d.length ≤ 16 ∧ s.r.length ≤ 16) (hn : (opNeeds op).1.1 ≤ s.d.length ∧ (opNeeds op).2.1 ≤ s.r.length) (hr : (s.d.length : Int) - (opNeeds op).1.1 + (opNeeds op).1.2 ≤ 16 ∧ (s.r.length : Int) - (opNeeds op).2.1 + (opNeeds op).2.2 ≤ 16) : s'.right = true := by
  have h1 := h.dl
  have h2 := h.rl
  have h3 := h.fl
  simp only [St.right, Bool.and_eq_true, decide_eq_true_eq]
  omega
theorem do_goes {s : St} (hw : s.wf) (hr : s.right = true) (hnn : u32 nn) (hU : UOk n U) (hd : d.ok) : Goes n s d (doTo n s op nn U d) := by
  have hU' : UOk n ⟨U.m.calm, U.t⟩ := ⟨hU.m.calm, hU.t⟩
  have hfit := St.fits hr
  unfold doTo
  rw [hr]
  simp only [Bool.not_true, cond_false]
  cases hck : (checkOf s op nn != 0) with
  | true => exact ⟨trap_wf (next_wf hw) _ u0, hr, rfl, hU', hd, Nat.le_succ _⟩
  | false =>
    have hck0 : checkOf s op nn = 0 := by simpa using hck
    have hA := mid_after (n := n) hw hr hnn hck0 hU' hd
    simp only [cond_false]
    obtain ⟨m, hm⟩ : ∃ m, midTo n s op nn ⟨U.m.calm, U.t⟩ d = m := ⟨_, rfl⟩
    rw [hm] at hA ⊢
    unfold endTo
    cases hc : (m.r.trap.cause != 0) with
    | true => exact ⟨trap_wf (next_wf hw) _ hA.t.1, hr, rfl, hA.u, hA.dv, hA.o⟩
    | false =>
      have h1 := hA.did (by simpa using hc)
      have c1 := checkOf_zero hck0
      have c2 := checkOf_room hck0
      exact ⟨h1.wf, did_right h1 ⟨hfit.1, hfit.2.1⟩ c1 c2, h1.cnt, hA.u, hA.dv, hA.o⟩
end
end Go.Ink
