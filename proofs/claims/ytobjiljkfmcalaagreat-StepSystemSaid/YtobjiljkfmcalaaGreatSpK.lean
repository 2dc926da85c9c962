/- A guest's addresses: places, and several bytes. -/
import Derived.Test.YtobjiljkfmcalaaGreatSpJ
import Derived.Test.YtobjiljkfmcalaaGreatInkS
set_option linter.unusedSimpArgs false
set_option linter.unusedVariables false
set_option maxRecDepth 100000
namespace Go.Ink
open Go.RowKit
theorem physOf_fact (pfn : Int) (va : Nat) : u32 (physOf pfn va) ∧ physOf pfn va % 64 = ((va % 64 : Nat) : Int) := by
  unfold physOf
  rw [IntKind.wrap_u32, IntKind.wrap_u32]
  exact ⟨⟨by omega, by omega⟩, by omega⟩
theorem turnedTo_fact (n : Nat) (U : Mmu) (s : Sp) (va : Nat) (hva : va ≤ 4294967295) (kind : Int) : u32 (turnedTo n U s va kind).1.1 ∧ ((turnedTo n U s va kind).1.2.cause = 0 → (turnedTo n U s va kind).1.1 % 64 = ((va % 64 : Nat) : Int)) := by
  unfold turnedTo
  cases (!s.paging) with
  | true => exact ⟨⟨by show (0 : Int) ≤ (va : Int); omega, by show (va : Int) ≤ _; omega⟩, fun _ => by show (va : Int) % 64 = _; omega⟩
  | false =>
    simp only [cond_false]
    cases hf : (tfind U.t va kind s.super).2 with
    | true =>
      simp only [cond_true]
      unfold tfind at hf ⊢
      cases hn : noEntry (teAt U.t va) va (asked kind s.super) with
      | true => rw [hn] at hf; cases hf
      | false =>
        simp only [cond_false]
        have := physOf_fact (teAt U.t va).pfn va
        exact ⟨this.1, fun _ => this.2⟩
    | false =>
      simp only [cond_false]
      cases hc : ((walkTo n U.m s.root va kind s.super).1.2.cause != 0) with
      | true =>
        simp only [cond_true]
        refine ⟨⟨by decide, by decide⟩, fun h => ?_⟩
        rw [h] at hc
        cases hc
      | false =>
        simp only [cond_false]
        have := physOf_fact (walkTo n U.m s.root va kind s.super).1.1.pfn va
        exact ⟨this.1, fun _ => this.2⟩
structure PlaceOk (n : Nat) (va : Nat) (p : Int) : Prop where
  u : u32 p
  m : p % 64 = ((va % 64 : Nat) : Int)
  r : p < ((n * 64 : Nat) : Int) ∨ isDev p = true
theorem placeTo_fact (n : Nat) (U : Mmu) (s : Sp) (va : Nat) (hva : va ≤ 4294967295) (kind : Int) : u32 (placeTo n U s va kind).1.1 ∧ ((placeTo n U s va kind).1.2.cause = 0 → PlaceOk n va (placeTo n U s va kind).1.1) := by
  obtain ⟨h1, h2⟩ := turnedTo_fact n U s va hva kind
  have u0 : u32 0 := ⟨by decide, by decide⟩
  unfold placeTo
  cases hf : (fault kind == 0) with
  | true => exact ⟨u0, fun h => by cases h⟩
  | false =>
    simp only [cond_false]
    cases hc : ((turnedTo n U s va kind).1.2.cause != 0) with
    | true =>
      simp only [cond_true]
      refine ⟨u0, fun h => ?_⟩
      rw [h] at hc
      cases hc
    | false =>
      simp only [cond_false]
      cases hr : (decide ((turnedTo n U s va kind).1.1 < ((n * 64 : Nat) : Int)) || ((kind != 1) && isDev (turnedTo n U s va kind).1.1)) with
      | false => exact ⟨u0, fun h => by cases h⟩
      | true =>
        simp only [cond_true]
        refine ⟨h1, fun h => ⟨h1, h2 h, ?_⟩⟩
        simp only [Bool.or_eq_true, decide_eq_true_eq, Bool.and_eq_true] at hr
        rcases hr with hr | hr
        · exact .inl hr
        exact .inr hr.2
def nextPage (va : Nat) : Nat := (va - va % 64 + 64) % 4294967296
theorem nextPage_le (va : Nat) : nextPage va ≤ 4294967295 := by unfold nextPage; omega
theorem nextPage_mod (va : Nat) : nextPage va % 64 = 0 := by unfold nextPage; omega
/-- Where the bytes lie, one by one. -/
def spanAt (a b : Int) (va j : Nat) : Int := bif decide (j < 64 - va % 64) then IntKind.u32.wrap (a + (j : Int)) else IntKind.u32.wrap (b + ((j - (64 - va % 64) : Nat) : Int))
def spanL (a b : Int) (va k : Nat) : List Int := (List.range k).map (spanAt a b va)
theorem spanL_succ (a b : Int) (va k : Nat) : spanL a b va (k + 1) = spanL a b va k ++ [spanAt a b va k] := by simp [spanL, List.range_succ]
theorem spanL_len (a b : Int) (va k : Nat) : (spanL a b va k).length = k := by simp [spanL]
/-- The end of it, once both pages are found. -/
def spanEnd (a b : Int) (va k : Nat) (t : Tr) (U : Mmu) : (List Int × Tr) × Mmu :=
  bif isDev a then (([], ⟨10, va⟩), U) else bif (decide (((64 - va % 64 : Nat) : Int) < (k : Int)) && isDev b) then (([], ⟨10, nextPage va⟩), U) else ((spanL a b va k, t), U)
def span2 (n : Nat) (s : Sp) (va k : Nat) (kind : Int) (p1 : (Int × Tr) × Mmu) : (List Int × Tr) × Mmu :=
  bif (placeTo n p1.2 s (nextPage va) kind).1.2.cause != 0 then (([], (placeTo n p1.2 s (nextPage va) kind).1.2), (placeTo n p1.2 s (nextPage va) kind).2)
  else spanEnd p1.1.1 (placeTo n p1.2 s (nextPage va) kind).1.1 va k (placeTo n p1.2 s (nextPage va) kind).1.2 (placeTo n p1.2 s (nextPage va) kind).2
def span1 (n : Nat) (s : Sp) (va k : Nat) (kind : Int) (p1 : (Int × Tr) × Mmu) : (List Int × Tr) × Mmu :=
  bif p1.1.2.cause != 0 then (([], p1.1.2), p1.2) else
  bif decide (((64 - va % 64 : Nat) : Int) < (k : Int)) then span2 n s va k kind p1 else spanEnd p1.1.1 0 va k p1.1.2 p1.2
def spanTo (n : Nat) (U : Mmu) (s : Sp) (va k : Nat) (kind : Int) : (List Int × Tr) × Mmu := span1 n s va k kind (placeTo n U s va kind)
theorem spanL_in {n : Nat} {a b : Int} {va k : Nat} (hn : n ≤ 64) (ha : 0 ≤ a) (ha1 : a < ((n * 64 : Nat) : Int)) (hm : a % 64 = ((va % 64 : Nat) : Int)) (hb : ((64 - va % 64 : Nat) : Int) < (k : Int) → 0 ≤ b ∧ b < ((n * 64 : Nat) : Int) ∧ b % 64 = 0) (hk : k ≤ 4) : ∀ x, x ∈ spanL a b va k → 0 ≤ x ∧ x < ((n * 64 : Nat) : Int) := by
  intro x hx
  unfold spanL at hx
  obtain ⟨j, hj, rfl⟩ := List.mem_map.1 hx
  rw [List.mem_range] at hj
  unfold spanAt
  cases hc : decide (j < 64 - va % 64) with
  | true =>
    simp only [cond_true]
    have := of_decide_eq_true hc
    rw [IntKind.wrap_u32]
    omega
  | false =>
    simp only [cond_false]
    have h1 := of_decide_eq_false hc
    obtain ⟨b0, b1, b2⟩ := hb (by omega)
    rw [IntKind.wrap_u32]
    omega
theorem dev_big {a : Int} (h : isDev a = false) {n : Nat} {va : Nat} (hp : PlaceOk n va a) : a < ((n * 64 : Nat) : Int) := by
  rcases hp.r with h1 | h1
  · exact h1
  rw [h] at h1; cases h1
theorem spanTo_in {n : Nat} {U : Mmu} {s : Sp} {va k : Nat} (hn : n ≤ 64) (hva : va ≤ 4294967295) {kind : Int} (hk : k ≤ 4) : ∀ x, x ∈ (spanTo n U s va k kind).1.1 → 0 ≤ x ∧ x < ((n * 64 : Nat) : Int) := by
  obtain ⟨_, h1⟩ := placeTo_fact n U s va hva kind
  unfold spanTo span1
  cases hc : ((placeTo n U s va kind).1.2.cause != 0) with
  | true => intro x hx; cases hx
  | false =>
    simp only [cond_false]
    have p1 := h1 (by simpa using hc)
    cases hl : decide (((64 - va % 64 : Nat) : Int) < (k : Int)) with
    | true =>
      simp only [cond_true]
      unfold span2
      obtain ⟨_, h2⟩ := placeTo_fact n (placeTo n U s va kind).2 s (nextPage va) (nextPage_le va) kind
      cases hc2 : ((placeTo n (placeTo n U s va kind).2 s (nextPage va) kind).1.2.cause != 0) with
      | true => intro x hx; cases hx
      | false =>
        simp only [cond_false]
        have p2 := h2 (by simpa using hc2)
        unfold spanEnd
        cases d1 : isDev (placeTo n U s va kind).1.1 with
        | true => intro x hx; cases hx
        | false =>
          simp only [cond_false]
          rw [hl]
          simp only [Bool.true_and]
          cases d2 : isDev (placeTo n (placeTo n U s va kind).2 s (nextPage va) kind).1.1 with
          | true => intro x hx; cases hx
          | false =>
            simp only [cond_false]
            exact spanL_in hn p1.u.1 (dev_big d1 p1) p1.m (fun _ => ⟨p2.u.1, dev_big d2 p2, by have h3 := p2.m; rw [nextPage_mod] at h3; exact h3⟩) hk
    | false =>
      simp only [cond_false]
      unfold spanEnd
      cases d1 : isDev (placeTo n U s va kind).1.1 with
      | true => intro x hx; cases hx
      | false =>
        simp only [cond_false]
        rw [hl]
        simp only [Bool.false_and, cond_false]
        exact spanL_in hn p1.u.1 (dev_big d1 p1) p1.m (fun h => absurd h (of_decide_eq_false hl)) hk
theorem spanTo_len {n : Nat} {U : Mmu} {s : Sp} {va k : Nat} {kind : Int} : (spanTo n U s va k kind).1.1.length ≤ k := by
  unfold spanTo span1 span2 spanEnd
  repeat' (first | (simp only [List.length_nil]; omega) | (rw [spanL_len]; exact Nat.le_refl _) | (rw [Bool.cond_eq_ite]; split))
theorem spanTo_tlen {n : Nat} {U : Mmu} {s : Sp} {va k : Nat} {kind : Int} : (spanTo n U s va k kind).2.t.length = U.t.length := by
  have h1 := placeTo_len n U s va kind
  have h2 := placeTo_len n (placeTo n U s va kind).2 s (nextPage va) kind
  rw [h1] at h2
  unfold spanTo span1 span2 spanEnd
  repeat' (first | exact h1 | exact h2 | (rw [Bool.cond_eq_ite]; split))
/-- Bytes as a number, by their places. -/
def placeVal (d : List Int) : List Int → Int
  | [] => 0
  | a :: l => gB d a.toNat + 256 * placeVal d l
theorem placeVal_rng {d : List Int} (h : u8s d) : ∀ l : List Int, 0 ≤ placeVal d l ∧ placeVal d l < 256 ^ l.length
  | [] => by simp [placeVal]
  | a :: l => by
    have h1 := gB_rng h a.toNat
    have h2 := placeVal_rng h l
    simp only [placeVal, List.length_cons, Int.pow_succ]
    omega
theorem placeVal_step {d : List Int} (h : u8s d) {l : List Int} (hl : l.length ≤ 4) {j : Nat} (hj : j < l.length) : bits .or .u32 (IntKind.u32.wrap (placeVal d (l.drop (j + 1)) * 2 ^ (min (8 : Int).toNat IntKind.u32.bits))) (gB d (l[j]'hj).toNat) = placeVal d (l.drop j) := by
  have h1 := placeVal_rng h (l.drop (j + 1))
  have h2 := gB_rng h (l[j]'hj).toNat
  have h3 : (l.drop (j + 1)).length ≤ 3 := by rw [List.length_drop]; omega
  rw [show l.drop j = l[j]'hj :: l.drop (j + 1) from List.drop_eq_getElem_cons hj]
  simp only [placeVal]
  generalize placeVal d (l.drop (j + 1)) = v at h1
  generalize (l.drop (j + 1)).length = m at h1 h3
  have hv : 0 ≤ v ∧ v < 16777216 := by
    obtain rfl | rfl | rfl | rfl : m = 0 ∨ m = 1 ∨ m = 2 ∨ m = 3 := by omega
    all_goals (simp at h1; omega)
  have e1 : (2 : Int) ^ (min (8 : Int).toNat IntKind.u32.bits) = 256 := rfl
  rw [e1, u32_wrap_id _ (by omega) (by omega), bits_join .u32 32 (by decide) wraps_u32 8 (v * 256) _ (by omega) (by omega) (by omega) (by omega) (by omega) (by omega)]
  omega
/-- A word's bytes are put at their places. -/
def putsTo (M : Mem) (l : List Int) (v : Int) : Nat → Mem
  | 0 => M
  | k + 1 => (putsTo M l v k).put ((l.getD k 0).toNat) (wbyte v k)
theorem putsTo_dl (M : Mem) (l : List Int) (v : Int) : ∀ k, (putsTo M l v k).data.length = M.data.length
  | 0 => rfl
  | k + 1 => by rw [putsTo, put_dl, putsTo_dl]
def loadTo (n : Nat) (U : Mmu) (s : Sp) (va k : Nat) : (Int × Tr) × Mmu :=
  ((placeVal (spanTo n U s va k 2).2.m.data (spanTo n U s va k 2).1.1, (spanTo n U s va k 2).1.2), (spanTo n U s va k 2).2)
def storeTo (n : Nat) (U : Mmu) (s : Sp) (va k : Nat) (v : Int) : Tr × Mmu :=
  ((spanTo n U s va k 3).1.2, ⟨putsTo (spanTo n U s va k 3).2.m (spanTo n U s va k 3).1.1 v (spanTo n U s va k 3).1.1.length, (spanTo n U s va k 3).2.t⟩)
theorem wbyte_shr64 (v : Int) {k : Nat} (hk : k < 4) : IntKind.u8.wrap (v.fdiv (2 ^ (min (IntKind.i64.wrap (8 * (k : Int))).toNat IntKind.u32.bits))) = wbyte v k := by
  rw [← wbyte_shr v hk]
  obtain rfl | rfl | rfl | rfl : k = 0 ∨ k = 1 ∨ k = 2 ∨ k = 3 := by omega
  all_goals rfl
end Go.Ink
namespace Go.Proofs.YtobjiljkfmcalaaGreat
open Go.RowKit Go.Ink

theorem uplace_ok (bu bb : Nat) (L : MLoc) (U : Mmu) (hT : U.t.length = 16) (s : Sp) (hr : s.root ≤ 4294967295) (va : Nat) (hva : va ≤ 4294967295) (kind : Int) (w : World) (hi : Inv w (blocks (uF bu bb L U)) (uF bu bb L U) w) :
    Ctr Tryz.prog 132 [.pointer (some ⟨bu, 0, none⟩), s.v, .int .u32 va, .int .i64 kind] w (uF bu bb L U) (fun v cs => v = .tuple #[.int .u32 (placeTo L.n U s va kind).1.1, (placeTo L.n U s va kind).1.2.v] ∧ cs = uF bu bb L (placeTo L.n U s va kind).2) := by
  obtain ⟨fk, hfk⟩ : ∃ x, fault kind = x := ⟨_, rfl⟩
  obtain ⟨td, htd⟩ : ∃ x, turnedTo L.n U s va kind = x := ⟨_, rfl⟩
  have HF := fault_ok kind
  have HT := turned_ok bu bb L U hT s hr va hva kind
  unfold placeTo
  rw [hfk] at HF ⊢
  rw [htd] at HT ⊢
  obtain ⟨⟨p, tr⟩, U'⟩ := td
  simp only at HT ⊢
  refine fn_ctr Tryz.func132 rfl Tryz.ntmps132 rfl hi ?_
  refine Zs (Zr (wl_t (t_box rfl rfl) rfl ?_))
  rintro _ _ ⟨b5, rfl, rfl⟩
  refine Zg rfl (wl_t (t_alloc (fun _ => rfl) rfl) rfl ?_)
  rintro _ _ ⟨b9, rfl, rfl⟩
  refine Zn (Zt (Zs (Zr (Zm rfl (Zy (y_build rfl rfl (fun _ => rfl) rfl rfl rfl Zb) ?_)))))
  refine wl_t (t_alloc (fun _ => rfl) rfl) rfl ?_
  rintro _ _ ⟨b10, rfl, rfl⟩
  refine wl_t0 (t_storeN (fun _ => rfl) rfl rfl (allT rfl) Za (by exact rfl)) ?_
  rintro _ _ ⟨rfl, rfl⟩
  refine Zn (Zt (Zs (Zs (Zr (Zm rfl (wl_t (t_call rfl (fun _ _ => rfl) (fun w hi => HF w)) rfl ?_))))))
  rintro _ _ ⟨_, ⟨rfl, rfl⟩, rfl⟩
  refine Zy (y_eql (Zv rfl) (Zv rfl) rfl) (Zn (Zt ?_))
  refine wc_cond _ rfl (fun hc2 => ?_) (fun hc2 => ?_)
  · rw [hc2]
    simp only [cond_true]
    refine Zs (wc_draw ⟨fun j => List.elem j [2], []⟩ Zk ?_)
    refine wa_loadRow 0 rfl Zk Zk Zk Zk Zh (fun _ => rfl) (fun _ => rfl) (Zv rfl) rfl ?_
    refine wa_yn 1 rfl Zk Zk Zk (y_assign (Zv rfl)) rfl ?_
    refine wa_1 2 Zk ?_
    refine wi_t0 rfl rfl (t_storeN (fun _ => rfl) rfl rfl (allT rfl) Za (by exact rfl)) (fun _ _ _ _ _ _ _ h => by cases h) ?_
    rintro _ _ ⟨rfl, rfl⟩
    refine wa_done Zk ?_
    refine Zt (Ze (Zw (retTC (cs' := [row _ _ _, exC _ _ _ _, row _ _ _]) (.inl rfl) Zu rfl rfl rfl Zh (fun _ => rfl) (fun _ => rfl) ?_)))
    exact ⟨rfl, rfl⟩
  rw [hc2]
  simp only [cond_false]
  refine Zc (Zt (Zs (Zr (Zm rfl (wl_loadRow Zh (fun _ => rfl) (fun _ => rfl) (Zv rfl) rfl ?_)))))
  refine Zm rfl (Zm rfl (wl_t (t_callS (uF bu bb L U) rfl (fun _ _ => rfl) Zi (fun w hi hin => HT w hin)) rfl ?_))
  rintro _ _ ⟨_, ⟨rfl, rfl⟩, rfl⟩
  refine Zm rfl (Zy (y_extractN (Zv rfl) (.zero _ _)) (Zy (y_extractN (Zv rfl) (.succ _ (.zero _ _))) (wl_t (t_alloc (fun _ => rfl) rfl) rfl ?_)))
  rintro _ _ ⟨b12, rfl, rfl⟩
  refine Zg rfl (wl_t0 (t_storeN (vs := tr.cells) (fun _ => rfl) rfl rfl (allT rfl) Za (by exact rfl)) ?_)
  rintro _ _ ⟨rfl, rfl⟩
  refine Zn (Zt (Zs (Zs (Zr (Zy (y_field 0 rfl (Zv rfl) Zf) ?_)))))
  refine Zz rfl ?_
  refine Zy (y_neq (Zv rfl) (Zv rfl) rfl) (Zn (Zt ?_))
  refine wc_cond _ rfl (fun hc5 => ?_) (fun hc5 => ?_)
  · rw [hc5]
    simp only [cond_true]
    refine Zs (wc_draw ⟨fun j => List.elem j [2], []⟩ Zk ?_)
    refine wa_loadRow 0 rfl Zk Zk Zk Zk Zh (fun _ => rfl) (fun _ => rfl) (Zv rfl) rfl ?_
    refine wa_yn 1 rfl Zk Zk Zk (y_assign (Zv rfl)) rfl ?_
    refine wa_1 2 Zk ?_
    refine wi_t0 rfl rfl (t_storeN (fun _ => rfl) rfl rfl (allT rfl) Za (by exact rfl)) (fun _ _ _ _ _ _ _ h => by cases h) ?_
    rintro _ _ ⟨rfl, rfl⟩
    refine wa_done Zk ?_
    refine Zt (Ze (Zw (retTC (cs' := [row _ _ _, exC _ _ _ _, row _ _ _]) (.inl rfl) Zu rfl rfl rfl Zh (fun _ => rfl) (fun _ => rfl) ?_)))
    exact ⟨rfl, rfl⟩
  rw [hc5]
  simp only [cond_false]
  refine Zc (Zt (Zs (Zs (Zr (Zm rfl (Zm rfl (Zy (y_nil (Zv rfl)) (Zy (y_field 0 rfl (Zv rfl) Zf) ?_))))))))
  refine Zz rfl ?_
  refine wl_t (t_call rfl (fun _ _ => rfl) (fun w hi => rsize_ok L U'.m w (hi.get Zh))) rfl ?_
  rintro _ _ ⟨_, ⟨rfl, rfl⟩, rfl⟩
  refine Zy (y_lss (Zv rfl) (Zv rfl) rfl) (Zm rfl (Zyn rfl rfl (y_move (Zv rfl)) ?_))
  refine Zyn rfl rfl (y_neq (ev_g rfl) (Zv rfl) rfl) ?_
  refine Zyn rfl rfl (y_move (ev_g rfl)) ?_
  refine wl_yg (guard_deep rfl rfl) (y_move (Zv rfl)) (fun _ _ => trivial) rfl ?_
  refine wl_callg (guard_deep rfl rfl) (.cons (ev_g rfl) .nil) (fun _ _ => rfl) (fun hg w hi => device_ok p w) rfl ?_
  refine Zyn rfl rfl (y_and (ev_g rfl) (pk_gyes rfl (fun _ _ => rfl))) ?_
  refine Zy (y_or (Zv rfl) (pk_no rfl (fun _ => rfl))) (Zn (Zt ?_))
  refine wc_cond _ rfl (fun hc7 => ?_) (fun hc7 => ?_)
  · rw [hc7]
    simp only [cond_true]
    refine Zs (wc_draw ⟨fun j => List.elem j [3], []⟩ Zk ?_)
    refine wa_yn 0 rfl Zk Zk Zk (y_move (Zv rfl)) rfl ?_
    refine wa_loadRow 1 rfl Zk Zk Zk Zk Zh (fun _ => rfl) (fun _ => rfl) (Zv rfl) rfl ?_
    refine wa_yn 2 rfl Zk Zk Zk (y_assign (Zv rfl)) rfl ?_
    refine wa_1 3 Zk ?_
    refine wi_t0 rfl rfl (t_storeN (fun _ => rfl) rfl rfl (allT rfl) Za (by exact rfl)) (fun _ _ _ _ _ _ _ h => by cases h) ?_
    rintro _ _ ⟨rfl, rfl⟩
    refine wa_done Zk ?_
    refine Zt (Ze (Zw (retTC (cs' := [row _ _ _, exC _ _ _ _, row _ _ _]) (.inl rfl) Zu rfl rfl rfl Zh (fun _ => rfl) (fun _ => rfl) ?_)))
    exact ⟨rfl, rfl⟩
  rw [hc7]
  simp only [cond_false]
  refine Zc (Zt (Zs (wc_draw ⟨fun j => List.elem j [2], []⟩ Zk ?_)))
  refine wa_loadRow 0 rfl Zk Zk Zk Zk Zh (fun _ => rfl) (fun _ => rfl) (Zv rfl) rfl ?_
  refine wa_yn 1 rfl Zk Zk Zk (y_assign (Zv rfl)) rfl ?_
  refine wa_1 2 Zk ?_
  refine wi_t0 rfl rfl (t_storeN (fun _ => rfl) rfl rfl (allT rfl) Za (by exact rfl)) (fun _ _ _ _ _ _ _ h => by cases h) ?_
  rintro _ _ ⟨rfl, rfl⟩
  refine wa_done Zk ?_
  refine Zt (Ze (retTC (cs' := [row _ _ _, exC _ _ _ _, row _ _ _]) (.inl rfl) Zu rfl rfl rfl Zh (fun _ => rfl) (fun _ => rfl) ?_))
  exact ⟨rfl, rfl⟩
set_option maxHeartbeats 1000000 in
theorem span_ok (bu bb : Nat) (L : MLoc) (U : Mmu) (hT : U.t.length = 16) (s : Sp) (hr : s.root ≤ 4294967295) (va k : Nat) (hva : va ≤ 4294967295) (hk1 : 1 ≤ k) (hk4 : k ≤ 4) (kind : Int) (w : World) (hi : Inv w (blocks (uF bu bb L U)) (uF bu bb L U) w) :
    Ctr Tryz.prog 141 [.pointer (some ⟨bu, 0, none⟩), s.v, .int .u32 va, .int .i64 k, .int .i64 kind] w (uF bu bb L U) (fun v cs => ∃ A c, v = .tuple #[.slice A (spanTo L.n U s va k kind).1.1.length c, (spanTo L.n U s va k kind).1.2.v] ∧ cs = uF bu bb L (spanTo L.n U s va k kind).2 ++ [sl .u32 22 A (spanTo L.n U s va k kind).1.1.length c (spanTo L.n U s va k kind).1.1]) := by
  have HP1 := uplace_ok bu bb L U hT s hr va hva kind
  have hl1 := placeTo_len L.n U s va kind
  obtain ⟨p1, hp1⟩ : ∃ x, placeTo L.n U s va kind = x := ⟨_, rfl⟩
  unfold spanTo
  rw [hp1] at HP1 hl1 ⊢
  rw [hT] at hl1
  have HP2 := uplace_ok bu bb L p1.2 hl1 s hr (nextPage va) (nextPage_le va) kind
  obtain ⟨p2, hp2⟩ : ∃ x, placeTo L.n p1.2 s (nextPage va) kind = x := ⟨_, rfl⟩
  unfold span1 span2
  rw [hp2] at HP2 ⊢
  obtain ⟨⟨a1, tr1⟩, U1⟩ := p1
  obtain ⟨⟨a2, tr2⟩, U2⟩ := p2
  simp only at HP1 HP2 ⊢
  refine fn_ctr Tryz.func141 rfl Tryz.ntmps141 rfl hi ?_
  refine Zs (Zr (wl_t (t_box rfl rfl) rfl ?_))
  rintro _ _ ⟨b6, rfl, rfl⟩
  refine Zg rfl (wl_t (t_alloc (fun _ => rfl) rfl) rfl ?_)
  rintro _ _ ⟨b11, rfl, rfl⟩
  refine Zn (Zt (Zs (Zs (Zr (Zm rfl (Zy (y_lss (Zv rfl) (Zv rfl) rfl) (Zm rfl (Zyn rfl rfl (y_move (Zv rfl)) ?_))))))))
  refine Zyn rfl rfl (y_gtr (ev_g rfl) (Zv rfl) rfl) ?_
  refine Zy (y_or (Zv rfl) (pk_no rfl (fun _ => rfl))) (Zn (Zt (wc_cond_f rfl ((by rw [decide_eq_false (show ¬ (k : Int) < 1 by omega), decide_eq_false (show ¬ (4 : Int) < k by omega)]; rfl)) ?_)))
  refine Zc (Zt (Zs (Zr (Zm rfl (wl_loadRow Zh (fun _ => rfl) (fun _ => rfl) (Zv rfl) rfl ?_)))))
  refine Zm rfl (Zm rfl (wl_t (t_callS (uF bu bb L U) rfl (fun _ _ => rfl) Zi (fun w hi hin => HP1 w hin)) rfl ?_))
  rintro _ _ ⟨_, ⟨rfl, rfl⟩, rfl⟩
  refine Zm rfl (Zy (y_extractN (Zv rfl) (.zero _ _)) (Zy (y_extractN (Zv rfl) (.succ _ (.zero _ _))) (wl_t (t_alloc (fun _ => rfl) rfl) rfl ?_)))
  rintro _ _ ⟨b13, rfl, rfl⟩
  refine Zg rfl (wl_t0 (t_storeN (vs := tr1.cells) (fun _ => rfl) rfl rfl (allT rfl) Za (by exact rfl)) ?_)
  rintro _ _ ⟨rfl, rfl⟩
  refine Zn (Zt (Zs (Zs (Zr (Zy (y_field 0 rfl (Zv rfl) Zf) ?_)))))
  refine Zz rfl ?_
  refine Zy (y_neq (Zv rfl) (Zv rfl) rfl) (Zn (Zt ?_))
  refine wc_cond _ rfl (fun hc4 => ?_) (fun hc4 => ?_)
  · rw [hc4]
    simp only [cond_true]
    refine Zs (wc_draw ⟨fun j => List.elem j [2], []⟩ Zk ?_)
    refine wa_nilc 22 1 ?_
    refine wa_loadRow 0 rfl Zk Zk Zk Zk Zh (fun _ => rfl) (fun _ => rfl) (Zv rfl) rfl ?_
    refine wa_yn 1 rfl Zk Zk Zk (y_assign (Zv rfl)) rfl ?_
    refine wa_1 2 Zk ?_
    refine wi_t0 rfl rfl (t_storeN (fun _ => rfl) rfl rfl (allT rfl) Za (by exact rfl)) (fun _ _ _ _ _ _ _ h => by cases h) ?_
    rintro _ _ ⟨rfl, rfl⟩
    refine wa_done Zk ?_
    refine Zt (Ze (Zw (retTC (cs' := [row _ _ _, exC _ _ _ _, row _ _ _, slv _ _ _ _ _ _]) (.inl rfl) Zu rfl rfl rfl Zh (fun _ => rfl) (fun _ => rfl) ?_)))
    exact ⟨_, _, rfl, rfl⟩
  rw [hc4]
  simp only [cond_false]
  refine Zc (Zt (Zs (Zr (Zm rfl (Zy (y_rem (Zv rfl) (Zv rfl) (by omega) (show _ = ((va % 64 : Nat) : Int) from by rw [Int.tmod_eq_emod_of_nonneg (by omega)]; omega)) ?_)))))
  refine Zy (y_conv rfl rfl (Zv rfl) Zl) ?_
  refine Zy (y_sub (Zv rfl) (Zv rfl) (show IntKind.i64.wrap _ = ((64 - va % 64 : Nat) : Int) by rw [IntWalk.i64_in _ ⟨by omega, by omega⟩]; omega)) ?_
  refine Zg rfl (Zn (Zt (Zs (Zr (Zm rfl (Zm rfl (Zy (y_rem (Zv rfl) (Zv rfl) (by omega) (show _ = ((va % 64 : Nat) : Int) from by rw [Int.tmod_eq_emod_of_nonneg (by omega)]; omega)) ?_)))))))
  refine Zy (y_sub (Zv rfl) (Zv rfl) rfl) ?_
  refine Zy (y_add (Zv rfl) (Zv rfl) (show IntKind.u32.wrap (IntKind.u32.wrap _ + 64) = ((nextPage va : Nat) : Int) by rw [IntKind.wrap_u32, IntKind.wrap_u32]; unfold nextPage; omega)) ?_
  refine Zg rfl (Zg rfl (Zn (Zt ?_)))
  refine wc_seq_mid (fun q : Int × Mmu × Tr => [(2, .int .u32 va), (3, .int .i64 k), (11, .pointer (some ⟨b11, 0, none⟩)), (12, .int .u32 a1), (13, .pointer (some ⟨b13, 0, none⟩)), (14, .int .i64 ((64 - va % 64 : Nat) : Int)), (15, .int .u32 (nextPage va : Nat)), (16, .int .u32 q.1)]) (fun q => uF bu bb L q.2.1 ++ [trC b11 Tr.none, trC b13 q.2.2]) (fun q => (bif decide (((64 - va % 64 : Nat) : Int) < (k : Int)) then bif tr2.cause != 0 then ((([] : List Int), tr2), U2) else spanEnd a1 a2 va k tr2 U2 else spanEnd a1 0 va k tr1 U1) = spanEnd a1 q.1 va k q.2.2 q.2.1) ?_ ?_
  · refine Zs (Zr (Zm rfl (Zm rfl (Zy (y_gtr (Zv rfl) (Zv rfl) rfl) (Zn (Zt ?_))))))
    refine wc_cond _ rfl (fun hc8 => ?_) (fun hc8 => ?_)
    · have hsm : (bif decide (((64 - va % 64 : Nat) : Int) < (k : Int)) then bif tr2.cause != 0 then ((([] : List Int), tr2), U2) else spanEnd a1 a2 va k tr2 U2 else spanEnd a1 0 va k tr1 U1) = bif tr2.cause != 0 then ((([] : List Int), tr2), U2) else spanEnd a1 a2 va k tr2 U2 := by rw [hc8]; rfl
      refine Zs (Zr (Zm rfl (wl_loadRow Zh (fun _ => rfl) (fun _ => rfl) (Zv rfl) rfl ?_)))
      refine Zm rfl (Zm rfl (wl_t (t_callS (uF bu bb L U1) rfl (fun _ _ => rfl) Zi (fun w hi hin => HP2 w hin)) rfl ?_))
      rintro _ _ ⟨_, ⟨rfl, rfl⟩, rfl⟩
      refine Zm rfl (Zy (y_extractN (Zv rfl) (.zero _ _)) (Zy (y_extractN (Zv rfl) (.succ _ (.zero _ _))) (Zg rfl (wl_t0 (t_storeN (vs := tr2.cells) (fun _ => rfl) rfl rfl (allT rfl) Za (by exact rfl)) ?_))))
      rintro _ _ ⟨rfl, rfl⟩
      refine Zn (Zt (Zs (Zr (Zy (y_field 0 rfl (Zv rfl) Zf) ?_))))
      refine Zz rfl ?_
      refine Zy (y_neq (Zv rfl) (Zv rfl) rfl) (Zn (Zt ?_))
      refine wc_cond _ rfl (fun hc10 => ?_) (fun hc10 => ?_)
      · rw [hsm, hc10]
        simp only [cond_true]
        refine Zs (wc_draw ⟨fun j => List.elem j [2], []⟩ Zk ?_)
        refine wa_nilc 22 1 ?_
        refine wa_loadRow 0 rfl Zk Zk Zk Zk Zh (fun _ => rfl) (fun _ => rfl) (Zv rfl) rfl ?_
        refine wa_yn 1 rfl Zk Zk Zk (y_assign (Zv rfl)) rfl ?_
        refine wa_1 2 Zk ?_
        refine wi_t0 rfl rfl (t_storeN (fun _ => rfl) rfl rfl (allT rfl) Za (by exact rfl)) (fun _ _ _ _ _ _ _ h => by cases h) ?_
        rintro _ _ ⟨rfl, rfl⟩
        refine wa_done Zk ?_
        refine Zt (Ze (Zw (retTC (cs' := [row _ _ _, exC _ _ _ _, row _ _ _, slv _ _ _ _ _ _]) (.inl rfl) Zu rfl rfl rfl Zh (fun _ => rfl) (fun _ => rfl) ?_)))
        exact ⟨_, _, rfl, rfl⟩
      refine Zc ?_
      refine q_midP ((a2, U2, tr2)) ?_ ?_ ?_
      · exact hsm.trans (by rw [hc10]; rfl)
      · ((repeat' (refine Wk.cons ?_ ?_)) <;> first | exact Wk.nil | exact rfl | exact trivial | exact wk_num rfl (by omega) | exact wk_num rfl (by simp))
      exact Zj
    have hsm : (bif decide (((64 - va % 64 : Nat) : Int) < (k : Int)) then bif tr2.cause != 0 then ((([] : List Int), tr2), U2) else spanEnd a1 a2 va k tr2 U2 else spanEnd a1 0 va k tr1 U1) = spanEnd a1 0 va k tr1 U1 := by rw [hc8]; rfl
    refine Zc ?_
    refine q_midP ((0, U1, tr1)) ?_ ?_ ?_
    · exact hsm
    · ((repeat' (refine Wk.cons ?_ ?_)) <;> first | exact Wk.nil | exact rfl | exact trivial | exact wk_num rfl (by omega) | exact wk_num rfl (by simp))
    exact Zj
  rintro ⟨a2', U', tr'⟩ hq
  dsimp only at hq
  rw [hq]
  dsimp only
  unfold spanEnd
  refine Zs (Zx (Zs (Zr (Zm rfl (wl_t (t_call rfl (fun _ _ => rfl) (fun w hi => device_ok a1 w)) rfl ?_)))))
  rintro _ _ ⟨_, ⟨rfl, rfl⟩, rfl⟩
  refine Zg rfl (Zn (Zt ?_))
  refine wc_cond _ rfl (fun hc12 => ?_) (fun hc12 => ?_)
  · rw [hc12]
    simp only [cond_true]
    refine Zs (Zr (wl_nilc 22 1 ?_))
    refine Zm rfl (Zy (y_build rfl rfl (fun _ => rfl) rfl rfl rfl Zb) ?_)
    refine Zg rfl (wl_t0 (t_storeN (fun _ => rfl) rfl rfl (allT rfl) Za (by exact rfl)) ?_)
    rintro _ _ ⟨rfl, rfl⟩
    refine Zn (Zt (Ze (Zq (Zw (retTC (cs' := [row _ _ _, exC _ _ _ _, row _ _ _, slv _ _ _ _ _ _]) (.inl rfl) Zu rfl rfl rfl Zh (fun _ => rfl) (fun _ => rfl) ?_)))))
    exact ⟨_, _, rfl, rfl⟩
  rw [hc12]
  simp only [cond_false]
  refine Zs (Zr (Zm rfl (Zm rfl (Zy (y_gtr (Zv rfl) (Zv rfl) rfl) (Zm rfl (Zyy rfl rfl (y_move (Zv rfl)) ?_))))))
  refine wl_callg (guard_yes rfl rfl) (.cons (ev_g rfl) .nil) (fun _ _ => rfl) (fun hg w hi => device_ok a2' w) rfl ?_
  refine Zy (y_and (Zv rfl) (pk_yes rfl (fun _ => rfl))) (Zg rfl (Zn (Zt ?_)))
  refine wc_cond _ rfl (fun hc14 => ?_) (fun hc14 => ?_)
  · rw [hc14]
    simp only [cond_true]
    refine Zs (Zr (wl_nilc 22 1 ?_))
    refine Zm rfl (Zy (y_build rfl rfl (fun _ => rfl) rfl rfl rfl Zb) ?_)
    refine Zg rfl (wl_t0 (t_storeN (fun _ => rfl) rfl rfl (allT rfl) Za (by exact rfl)) ?_)
    rintro _ _ ⟨rfl, rfl⟩
    refine Zn (Zt (Ze (Zq (Zw (retTC (cs' := [row _ _ _, exC _ _ _ _, row _ _ _, slv _ _ _ _ _ _]) (.inl rfl) Zu rfl rfl rfl Zh (fun _ => rfl) (fun _ => rfl) ?_)))))
    exact ⟨_, _, rfl, rfl⟩
  rw [hc14]
  simp only [cond_false]
  refine Zc (Zo (Zt (Zs (Zr (wl_nilc 22 1 ?_)))))
  refine Zg rfl (Zn (Zt (Zs (Zs (Zr (Zm rfl (Zm rfl (Zn (Zt (Zx ?_))))))))))
  refine wc_loop (fun q : Nat × Option Addr × Nat => [(11, .pointer (some ⟨b11, 0, none⟩)), (12, .int .u32 a1), (13, .pointer (some ⟨b13, 0, none⟩)), (14, .int .i64 ((64 - va % 64 : Nat) : Int)), (16, .int .u32 a2'), (17, .slice q.2.1 (spanL a1 a2' va q.1).length q.2.2), (78, .int .i64 k), (79, .int .i64 (q.1 : Int))]) (fun q => uF bu bb L U' ++ [trC b11 Tr.none, trC b13 tr', sl .u32 22 q.2.1 (spanL a1 a2' va q.1).length q.2.2 (spanL a1 a2' va q.1)]) (fun q => q.1 ≤ k) (fun q => k - q.1) ((0, none, 0)) ?_ ?_ ?_ ?_
  · exact Nat.zero_le _
  · ((repeat' (refine Wk.cons ?_ ?_)) <;> first | exact Wk.nil | exact rfl | exact trivial | exact wk_num rfl (by omega) | exact wk_num rfl (by simp))
  · ((repeat (first | exact List.Sublist.slnil | refine List.Sublist.cons_cons _ ?_ | refine List.Sublist.cons _ ?_)))
  rintro ⟨j, A1, c1⟩ hj
  simp only at hj
  dsimp only
  refine Zs (Zr (Zy (y_lss (Zv rfl) (Zv rfl) rfl) (Zn (Zt (Zs ?_)))))
  refine wc_cond _ rfl (fun hc18 => ?_) (fun hc18 => ?_)
  · simp only [decide_eq_true_eq] at hc18
    have hle := spanL_len a1 a2' va j
    refine Zc (Zt (Zs (Zx (Zs (Zr (Zm rfl (Zg rfl (Zn (Zt (Zs (Zr (Zm rfl (Zm rfl (Zy (y_lss (Zv rfl) (Zv rfl) rfl) (Zn (Zt ?_))))))))))))))))
    refine wc_cond _ rfl (fun hc20 => ?_) (fun hc20 => ?_)
    · simp only [decide_eq_true_eq] at hc20
      have he : spanAt a1 a2' va j = IntKind.u32.wrap (a1 + (j : Int)) := by (unfold spanAt; rw [decide_eq_true (by omega)]; rfl)
      refine Zr (Zm rfl (Zm rfl (Zm rfl (Zy (y_conv rfl rfl (Zv rfl) rfl) ?_))))
      refine Zy (y_add (Zv rfl) (Zv rfl) (show IntKind.u32.wrap (a1 + IntKind.u32.wrap (j : Int)) = spanAt a1 a2' va j by rw [he, u32_wrap_id (j : Int) (by omega) (by omega)])) ?_
      refine wl_t (t_buildSl1 rfl rfl (fun _ => rfl) (fun _ => rfl) rfl rfl) rfl ?_
      rintro _ _ ⟨b90, rfl, rfl⟩
      refine wl_t (t_append (e := 22) (sz := 1) (bytes := 4) rfl rfl Za rfl rfl (fun w hi => hi.rd (show Has _ (slv 22 1 (some ⟨b90, 0, none⟩) 1 1 [.int .u32 (spanAt a1 a2' va j)]) from Zh)) (allT rfl) (by simp only [maxLen]; omega) (by omega)) rfl ?_
      rintro _ _ ⟨A2, c2, rfl, rfl⟩
      rw [show (spanL a1 a2' va j).length + 1 = (spanL a1 a2' va (j + 1)).length by (rw [spanL_succ]; simp), show ints .u32 (spanL a1 a2' va j) ++ [Value.int .u32 (spanAt a1 a2' va j)] = ints .u32 (spanL a1 a2' va (j + 1)) by (rw [spanL_succ]; exact ints_append _ [_])]
      refine Zg rfl (Zn (Zo (Zt (Zr (Zy (y_add (Zv rfl) (Zv rfl) Zl) ?_)))))
      refine Zm rfl (Zn ?_)
      refine q_mid ((j + 1, A2, c2)) ?_ ?_ ?_
      · exact ⟨by show j + 1 ≤ k; omega, by show k - (j + 1) < k - j; omega⟩
      · ((repeat' (refine Wk.cons ?_ ?_)) <;> first | exact Wk.nil | exact rfl | exact trivial | exact wk_num rfl (by omega) | exact wk_num rfl (by simp))
      ((repeat (first | exact List.Sublist.slnil | refine List.Sublist.cons_cons _ ?_ | refine List.Sublist.cons _ ?_)))
    simp only [decide_eq_false_iff_not] at hc20
    have he : spanAt a1 a2' va j = IntKind.u32.wrap (a2' + ((j - (64 - va % 64) : Nat) : Int)) := by (unfold spanAt; rw [decide_eq_false (by omega)]; rfl)
    refine Zr (Zm rfl (Zm rfl (Zm rfl (Zm rfl (Zy (y_sub (Zv rfl) (Zv rfl) (show IntKind.i64.wrap ((j : Int) - ((64 - va % 64 : Nat) : Int)) = ((j - (64 - va % 64) : Nat) : Int) by rw [IntWalk.i64_in _ ⟨by omega, by omega⟩]; omega)) ?_)))))
    refine Zy (y_conv rfl rfl (Zv rfl) rfl) ?_
    refine Zy (y_add (Zv rfl) (Zv rfl) (show IntKind.u32.wrap (a2' + IntKind.u32.wrap ((j - (64 - va % 64) : Nat) : Int)) = spanAt a1 a2' va j by rw [he, u32_wrap_id (((j - (64 - va % 64) : Nat) : Int)) (by omega) (by omega)])) ?_
    refine wl_t (t_buildSl1 rfl rfl (fun _ => rfl) (fun _ => rfl) rfl rfl) rfl ?_
    rintro _ _ ⟨b99, rfl, rfl⟩
    refine wl_t (t_append (e := 22) (sz := 1) (bytes := 4) rfl rfl Za rfl rfl (fun w hi => hi.rd (show Has _ (slv 22 1 (some ⟨b99, 0, none⟩) 1 1 [.int .u32 (spanAt a1 a2' va j)]) from Zh)) (allT rfl) (by simp only [maxLen]; omega) (by omega)) rfl ?_
    rintro _ _ ⟨A2, c2, rfl, rfl⟩
    rw [show (spanL a1 a2' va j).length + 1 = (spanL a1 a2' va (j + 1)).length by (rw [spanL_succ]; simp), show ints .u32 (spanL a1 a2' va j) ++ [Value.int .u32 (spanAt a1 a2' va j)] = ints .u32 (spanL a1 a2' va (j + 1)) by (rw [spanL_succ]; exact ints_append _ [_])]
    refine Zg rfl (Zn (Zo (Zt (Zr (Zy (y_add (Zv rfl) (Zv rfl) Zl) ?_)))))
    refine Zm rfl (Zn ?_)
    refine q_mid ((j + 1, A2, c2)) ?_ ?_ ?_
    · exact ⟨by show j + 1 ≤ k; omega, by show k - (j + 1) < k - j; omega⟩
    · ((repeat' (refine Wk.cons ?_ ?_)) <;> first | exact Wk.nil | exact rfl | exact trivial | exact wk_num rfl (by omega) | exact wk_num rfl (by simp))
    ((repeat (first | exact List.Sublist.slnil | refine List.Sublist.cons_cons _ ?_ | refine List.Sublist.cons _ ?_)))
  simp only [decide_eq_false_iff_not] at hc18
  obtain rfl : j = k := by omega
  refine wc_exit ?_
  refine q_then_exit ?_
  refine q_then_exit ?_
  refine q_block_same rfl ?_
  refine Zt (Zs (wc_draw ⟨fun j => List.elem j [3], []⟩ Zk ?_))
  refine wa_yn 0 rfl Zk Zk Zk (y_move (Zv rfl)) rfl ?_
  refine wa_loadRow 1 rfl Zk Zk Zk Zk Zh (fun _ => rfl) (fun _ => rfl) (Zv rfl) rfl ?_
  refine wa_yn 2 rfl Zk Zk Zk (y_assign (Zv rfl)) rfl ?_
  refine wa_1 3 Zk ?_
  refine wi_t0 rfl rfl (t_storeN (fun _ => rfl) rfl rfl (allT rfl) Za (by exact rfl)) (fun _ _ _ _ _ _ _ h => by cases h) ?_
  rintro _ _ ⟨rfl, rfl⟩
  refine wa_done Zk ?_
  refine Zt (Ze (retTC (cs' := [row _ _ _, exC _ _ _ _, row _ _ _, slv _ _ _ _ _ _]) (.inl rfl) Zu rfl rfl rfl Zh (fun _ => rfl) (fun _ => rfl) ?_))
  exact ⟨_, _, rfl, rfl⟩
theorem uload_ok (bu bb : Nat) (L : MLoc) (U : Mmu) (hT : U.t.length = 16) (s : Sp) (hr : s.root ≤ 4294967295) (va k : Nat) (hva : va ≤ 4294967295) (hk1 : 1 ≤ k) (hk4 : k ≤ 4) (w : World) (hi : Inv w (blocks (uF bu bb L U)) (uF bu bb L U) w) :
    Ctr Tryz.prog 118 [.pointer (some ⟨bu, 0, none⟩), s.v, .int .u32 va, .int .i64 k] w (uF bu bb L U) (fun v cs => v = .tuple #[.int .u32 (loadTo L.n U s va k).1.1, (loadTo L.n U s va k).1.2.v] ∧ cs = uF bu bb L (loadTo L.n U s va k).2) := by
  obtain ⟨n1, n64, _⟩ := mem_n (hi.ok (memC L U.m) (by simp))
  have HS := span_ok bu bb L U hT s hr va k hva hk1 hk4 2
  have hin0 := spanTo_in (n := L.n) (U := U) (s := s) (va := va) (k := k) n64 hva (kind := 2) hk4
  have hlen0 := spanTo_len (n := L.n) (U := U) (s := s) (va := va) (k := k) (kind := 2)
  unfold loadTo
  obtain ⟨sp, hsp⟩ : ∃ x, spanTo L.n U s va k 2 = x := ⟨_, rfl⟩
  rw [hsp] at HS hin0 hlen0 ⊢
  obtain ⟨⟨l, tr⟩, U'⟩ := sp
  simp only at HS hin0 hlen0 ⊢
  refine fn_ctr Tryz.func118 rfl Tryz.ntmps118 rfl hi ?_
  refine Zs (Zr (wl_t (t_box rfl rfl) rfl ?_))
  rintro _ _ ⟨b5, rfl, rfl⟩
  refine Zg rfl (wl_t (t_alloc (fun _ => rfl) rfl) rfl ?_)
  rintro _ _ ⟨b9, rfl, rfl⟩
  refine Zn (Zt (Zs (Zr (Zm rfl (wl_loadRow Zh (fun _ => rfl) (fun _ => rfl) (Zv rfl) rfl ?_)))))
  refine Zm rfl (Zm rfl (wl_t (t_callS (uF bu bb L U) rfl (fun _ _ => rfl) Zi (fun w hi hin => HS w hin)) rfl ?_))
  rintro _ _ ⟨_, ⟨A1, c1, rfl, rfl⟩, rfl⟩
  refine Zm rfl (Zy (y_extractN (Zv rfl) (.zero _ _)) (Zy (y_extractN (Zv rfl) (.succ _ (.zero _ _))) (wl_t (t_alloc (fun _ => rfl) rfl) rfl ?_)))
  rintro _ _ ⟨b11, rfl, rfl⟩
  refine Zg rfl (wl_t0 (t_storeN (vs := tr.cells) (fun _ => rfl) rfl rfl (allT rfl) Za (by exact rfl)) ?_)
  rintro _ _ ⟨rfl, rfl⟩
  refine Zn (Zt (Zs (Zr ?_)))
  refine wl_fact (fun w hi => mem_n (hi.get (show Has _ (memC L U'.m) from Zh))) (fun hmm => ?_)
  obtain ⟨_, _, hdl, hdb, _⟩ := hmm
  refine Zg rfl (Zn (Zt (Zs (Zs (Zr ?_)))))
  have e0 : placeVal U'.m.data (l.drop l.length) = 0 := by (rw [List.drop_length]; rfl)
  refine Zm rfl (Zy (y_len ⟨_, rfl⟩ (Zv rfl)) ?_)
  refine Zy (y_sub (Zv rfl) (Zv rfl) Zl) ?_
  refine Zg rfl (Zn (Zt (Zx ?_)))
  refine wc_loop (fun j : Nat => [(0, .pointer (some ⟨bu, 0, none⟩)), (9, .pointer (some ⟨b9, 0, none⟩)), (10, .slice A1 l.length c1), (11, .pointer (some ⟨b11, 0, none⟩)), (12, .int .u32 (placeVal U'.m.data (l.drop j))), (13, .int .i64 ((j : Int) - 1))]) (fun _ => uF bu bb L U' ++ [sl .u32 22 A1 l.length c1 l, trC b9 Tr.none, trC b11 tr]) (fun j => j ≤ l.length) (fun j => j) (l.length) ?_ ?_ ?_ ?_
  · exact Nat.le_refl _
  · ((repeat' (refine Wk.cons ?_ ?_)) <;> first | exact Wk.nil | exact rfl | exact trivial | exact wk_num rfl (by omega) | exact wk_num rfl (by simp))
  · ((repeat (first | exact List.Sublist.slnil | refine List.Sublist.cons_cons _ ?_ | refine List.Sublist.cons _ ?_)))
  rintro j hj
  refine Zs (Zs (Zr (Zm rfl (Zy (y_geq (Zv rfl) (Zv rfl) rfl) (Zn (Zt ?_))))))
  refine wc_cond _ rfl (fun hc4 => ?_) (fun hc4 => ?_)
  · simp only [decide_eq_true_eq] at hc4
    obtain ⟨i, rfl⟩ : ∃ i, j = i + 1 := ⟨j - 1, by omega⟩
    have hil : i < l.length := by omega
    have hrange := hin0 _ (List.getElem_mem hil)
    refine wc_fact (fun w hi => slv_some (hi.get (show Has _ (sl .u32 22 A1 l.length c1 l) from Zh)) (by omega)) ?_
    rintro ⟨ba, rfl⟩
    obtain ⟨an, han⟩ := Int.eq_ofNat_of_zero_le hrange.1
    refine Zc (Zt (Zs (Zx (Zs (wc_draw ⟨fun j => List.elem j [], []⟩ Zk ?_)))))
    refine wa_yn 0 rfl Zk Zk Zk (y_move (Zv rfl)) rfl ?_
    refine wa_yn 1 rfl Zk Zk Zk (y_nil (Zv rfl)) rfl ?_
    refine wa_yn 2 rfl Zk Zk Zk (y_field 0 rfl (Zv rfl) Zf) rfl ?_
    refine wa_ln 3 rfl Zk Zk Zk Zk (y_load (fun _ => rfl) (Zv rfl)) (row_cell Zh rfl) rfl ?_
    refine wa_yn 4 rfl Zk Zk Zk (y_move (Zv rfl)) rfl ?_
    refine wa_yn 5 rfl Zk Zk Zk (y_move (Zv rfl)) rfl ?_
    refine wa_yn 6 rfl Zk Zk Zk (y_indexR (j := i) (sz := 1) (r := i) rfl (fun _ => rfl) (Zv rfl) (Zv rfl) (fun _ => by omega) (fun _ => by omega) (by omega)) rfl ?_
    refine wa_ln 7 rfl Zk Zk Zk Zk (y_load (fun _ => rfl) (Zv rfl)) (sl_cellR Zh (show (ints .u32 l)[i]? = some (.int .u32 (an : Int)) from by rw [← han]; exact ints_get hil)) rfl ?_
    refine wa_1 8 Zk ?_
    refine wi_t rfl rfl (t_call rfl (fun _ _ => rfl) (fun w hi => rbyte_ok L U'.m an (by omega) w (hi.get Zh))) (fun _ _ _ _ _ _ _ h => by cases h) rfl ?_
    rintro _ _ ⟨_, ⟨rfl, rfl⟩, rfl⟩
    refine wa_yn 9 rfl Zk Zk Zk (y_move (Zv rfl)) rfl ?_
    refine wa_yn 10 rfl Zk Zk Zk (y_extractN (Zv rfl) (.zero _ _)) rfl ?_
    refine wa_yn 11 rfl Zk Zk Zk (y_extractN (Zv rfl) (.succ _ (.zero _ _))) rfl ?_
    refine wa_yn 12 rfl Zk Zk Zk (y_assign (Zv rfl)) rfl ?_
    refine wa_yn 13 rfl Zk Zk Zk (y_assign (Zv rfl)) rfl ?_
    refine wa_done Zk ?_
    refine Zt (Zr ?_)
    have hg := gB_rng hdb an
    have hst := placeVal_step hdb (show l.length ≤ 4 by omega) hil
    rw [han] at hst
    refine Zm rfl (Zy (y_shl (Zv rfl) (Zv rfl) (by omega) rfl) ?_)
    refine Zm rfl (Zy (y_conv rfl rfl (Zv rfl) (by first | exact IntWalk.u32_in _ ⟨by omega, by omega⟩ | exact rfl)) ?_)
    refine Zy (y_or_ (Zv rfl) (Zv rfl) hst) ?_
    refine Zg rfl (Zn (Zo (Zt (Zr (Zm rfl (Zy (y_sub (Zv rfl) (Zv rfl) Zl) ?_))))))
    refine Zg rfl (Zn ?_)
    refine q_midP (i) ?_ ?_ ?_
    · exact ⟨by omega, by omega⟩
    · ((repeat' (refine Wk.cons ?_ ?_)) <;> first | exact Wk.nil | exact rfl | exact trivial | exact wk_num rfl (by omega) | exact wk_num rfl (by simp))
    exact Zj
  simp only [decide_eq_false_iff_not] at hc4
  obtain rfl : j = 0 := by omega
  rw [List.drop_zero]
  refine wc_exit ?_
  refine q_then_exit ?_
  refine q_then_exit ?_
  refine q_block_same rfl ?_
  refine Zt (Zs (wc_draw ⟨fun j => List.elem j [3], []⟩ Zk ?_))
  refine wa_yn 0 rfl Zk Zk Zk (y_move (Zv rfl)) rfl ?_
  refine wa_loadRow 1 rfl Zk Zk Zk Zk Zh (fun _ => rfl) (fun _ => rfl) (Zv rfl) rfl ?_
  refine wa_yn 2 rfl Zk Zk Zk (y_assign (Zv rfl)) rfl ?_
  refine wa_1 3 Zk ?_
  refine wi_t0 rfl rfl (t_storeN (fun _ => rfl) rfl rfl (allT rfl) Za (by exact rfl)) (fun _ _ _ _ _ _ _ h => by cases h) ?_
  rintro _ _ ⟨rfl, rfl⟩
  refine wa_done Zk ?_
  refine Zt (Ze (qok_pick (uF bu bb L U' ++ [trC b9 tr]) Zj ?_))
  refine retTC (cs' := [row _ _ _, exC _ _ _ _, row _ _ _]) (.inl rfl) Zu rfl rfl rfl Zh (fun _ => rfl) (fun _ => rfl) ?_
  exact ⟨rfl, rfl⟩
theorem ustore_ok (bu bb : Nat) (L : MLoc) (U : Mmu) (hT : U.t.length = 16) (s : Sp) (hr : s.root ≤ 4294967295) (va k : Nat) (v : Int) (hva : va ≤ 4294967295) (hk1 : 1 ≤ k) (hk4 : k ≤ 4) (w : World) (hi : Inv w (blocks (uF bu bb L U)) (uF bu bb L U) w) :
    Ctr Tryz.prog 116 [.pointer (some ⟨bu, 0, none⟩), s.v, .int .u32 va, .int .u32 v, .int .i64 k] w (uF bu bb L U) (fun x cs => x = (storeTo L.n U s va k v).1.v ∧ cs = uF bu bb L (storeTo L.n U s va k v).2) := by
  obtain ⟨n1, n64, _⟩ := mem_n (hi.ok (memC L U.m) (by simp))
  have HS := span_ok bu bb L U hT s hr va k hva hk1 hk4 3
  have hin0 := spanTo_in (n := L.n) (U := U) (s := s) (va := va) (k := k) n64 hva (kind := 3) hk4
  have hlen0 := spanTo_len (n := L.n) (U := U) (s := s) (va := va) (k := k) (kind := 3)
  unfold storeTo
  obtain ⟨sp, hsp⟩ : ∃ x, spanTo L.n U s va k 3 = x := ⟨_, rfl⟩
  rw [hsp] at HS hin0 hlen0 ⊢
  obtain ⟨⟨l, tr⟩, U'⟩ := sp
  simp only at HS hin0 hlen0 ⊢
  refine fn_ctr Tryz.func116 rfl Tryz.ntmps116 rfl hi ?_
  refine Zs (Zr (wl_t (t_box rfl rfl) rfl ?_))
  rintro _ _ ⟨b6, rfl, rfl⟩
  refine wl_t (t_alloc (fun _ => rfl) rfl) rfl ?_
  rintro _ _ ⟨b10, rfl, rfl⟩
  refine Zn (Zt (Zs (Zr (Zm rfl (wl_loadRow Zh (fun _ => rfl) (fun _ => rfl) (Zv rfl) rfl ?_)))))
  refine Zm rfl (Zm rfl (wl_t (t_callS (uF bu bb L U) rfl (fun _ _ => rfl) Zi (fun w hi hin => HS w hin)) rfl ?_))
  rintro _ _ ⟨_, ⟨A1, c1, rfl, rfl⟩, rfl⟩
  refine Zm rfl (Zy (y_extractN (Zv rfl) (.zero _ _)) (Zy (y_extractN (Zv rfl) (.succ _ (.zero _ _))) (wl_t (t_alloc (fun _ => rfl) rfl) rfl ?_)))
  rintro _ _ ⟨b12, rfl, rfl⟩
  refine Zg rfl (wl_t0 (t_storeN (vs := tr.cells) (fun _ => rfl) rfl rfl (allT rfl) Za (by exact rfl)) ?_)
  rintro _ _ ⟨rfl, rfl⟩
  refine Zn (Zt (Zs (Zs (Zr (Zm rfl (Zy (y_len ⟨_, rfl⟩ (Zv rfl)) ?_))))))
  refine Zm rfl (Zn (Zt (Zx ?_)))
  refine wc_loop (fun j : Nat => [(0, .pointer (some ⟨bu, 0, none⟩)), (3, .int .u32 v), (10, .pointer (some ⟨b10, 0, none⟩)), (12, .pointer (some ⟨b12, 0, none⟩)), (23, .slice A1 l.length c1), (24, .int .i64 l.length), (25, .int .i64 (j : Int))]) (fun j => uF bu bb L ⟨putsTo U'.m l v j, U'.t⟩ ++ [sl .u32 22 A1 l.length c1 l, trC b10 Tr.none, trC b12 tr]) (fun j => j ≤ l.length) (fun j => l.length - j) (0) ?_ ?_ ?_ ?_
  · exact Nat.zero_le _
  · ((repeat' (refine Wk.cons ?_ ?_)) <;> first | exact Wk.nil | exact rfl | exact trivial | exact wk_num rfl (by omega) | exact wk_num rfl (by simp))
  · ((repeat (first | exact List.Sublist.slnil | refine List.Sublist.cons_cons _ ?_ | refine List.Sublist.cons _ ?_)))
  rintro j hj
  refine Zs (Zr (Zy (y_lss (Zv rfl) (Zv rfl) rfl) (Zn (Zt (Zs ?_)))))
  refine wc_cond _ rfl (fun hc3 => ?_) (fun hc3 => ?_)
  · simp only [decide_eq_true_eq] at hc3
    have hil : j < l.length := by omega
    have hrange := hin0 _ (List.getElem_mem hil)
    refine wc_fact (fun w hi => slv_some (hi.get (show Has _ (sl .u32 22 A1 l.length c1 l) from Zh)) (by omega)) ?_
    rintro ⟨ba, rfl⟩
    obtain ⟨an, han⟩ := Int.eq_ofNat_of_zero_le hrange.1
    have hgd : (l.getD j 0).toNat = an := by (rw [List.getD_eq_getElem?_getD, List.getElem?_eq_getElem hil]; simp only [Option.getD_some, han]; omega)
    refine Zc (Zt (Zs (Zx (Zs (Zr (Zm rfl (Zy (y_indexR (j := j) (sz := 1) (r := j) rfl (fun _ => rfl) (Zv rfl) (Zv rfl) (fun _ => by omega) (fun _ => by omega) (by omega)) ?_)))))))
    refine wl_y (y_load (fun _ => rfl) (Zv rfl)) (sl_cellR Zh (show (ints .u32 l)[j]? = some (.int .u32 (an : Int)) from by rw [← han]; exact ints_get hil)) rfl ?_
    refine Zg rfl (Zg rfl (Zn (Zt (wc_draw ⟨fun j => List.elem j [10], []⟩ Zk ?_))))
    refine wa_yn 0 rfl Zk Zk Zk (y_move (Zv rfl)) rfl ?_
    refine wa_yn 1 rfl Zk Zk Zk (y_nil (Zv rfl)) rfl ?_
    refine wa_yn 2 rfl Zk Zk Zk (y_field 0 rfl (Zv rfl) Zf) rfl ?_
    refine wa_ln 3 rfl Zk Zk Zk Zk (y_load (fun _ => rfl) (Zv rfl)) (row_cell Zh rfl) rfl ?_
    refine wa_yn 4 rfl Zk Zk Zk (y_move (Zv rfl)) rfl ?_
    refine wa_yn 5 rfl Zk Zk Zk (y_move (Zv rfl)) rfl ?_
    refine wa_yn 6 rfl Zk Zk Zk (y_move (Zv rfl)) rfl ?_
    refine wa_yn 7 rfl Zk Zk Zk (y_mul (Zv rfl) (Zv rfl) rfl) rfl ?_
    refine wa_yn 8 rfl Zk Zk Zk (y_shr (Zv rfl) (Zv rfl) (by rw [IntWalk.i64_in _ ⟨by omega, by omega⟩]; omega) rfl) rfl ?_
    refine wa_yn 9 rfl Zk Zk Zk (y_conv rfl rfl (Zv rfl) (wbyte_shr64 v (show j < 4 by omega))) rfl ?_
    refine wa_1 10 Zk ?_
    refine wi_t rfl rfl (t_callS ([memC L (putsTo U'.m l v j)]) rfl (fun _ _ => rfl) Zi (fun w hi hin => rput_ok L (putsTo U'.m l v j) an (by omega) (wbyte v j) (wbyte_rng v j) w hin)) (fun _ _ _ _ _ _ _ h => by cases h) rfl ?_
    rintro _ _ ⟨_, ⟨rfl, rfl⟩, rfl⟩
    refine wa_done Zk ?_
    refine Zo (Zt (Zr (Zy (y_add (Zv rfl) (Zv rfl) Zl) ?_)))
    refine Zm rfl (Zn ?_)
    refine q_midP (j + 1) ?_ ?_ ?_
    · exact ⟨by omega, by omega⟩
    · ((repeat' (refine Wk.cons ?_ ?_)) <;> first | exact Wk.nil | exact rfl | exact trivial | exact wk_num rfl (by omega) | exact wk_num rfl (by simp))
    exact (show Pick _ _ from by rw [show putsTo U'.m l v (j + 1) = (putsTo U'.m l v j).put an (wbyte v j) by rw [putsTo, hgd]]; exact Zj)
  simp only [decide_eq_false_iff_not] at hc3
  obtain rfl : j = l.length := by omega
  refine wc_exit ?_
  refine q_then_exit ?_
  refine q_then_exit ?_
  refine q_block_same rfl ?_
  refine Zt (Zs (Zr (wl_loadRow Zh (fun _ => rfl) (fun _ => rfl) (Zv rfl) rfl ?_)))
  refine wl_t0 (t_storeN (fun _ => rfl) rfl rfl (allT rfl) Za (by exact rfl)) ?_
  rintro _ _ ⟨rfl, rfl⟩
  refine Zn (Zt (Ze (qok_pick (uF bu bb L ⟨putsTo U'.m l v l.length, U'.t⟩ ++ [trC b10 tr]) Zj ?_)))
  refine retC (cs' := [row _ _ _, exC _ _ _ _, row _ _ _]) (.inl rfl) Zu rfl rfl Zh (fun _ => rfl) (fun _ => rfl) ?_
  exact ⟨rfl, rfl⟩
end Go.Proofs.YtobjiljkfmcalaaGreat
