/- Loads and stores without paging: what was stored is loaded. No program in sight. -/
import Derived.Test.YthcpmpmbgbibfaaGreatSqO
set_option linter.unusedSimpArgs false
set_option linter.unusedVariables false
set_option maxRecDepth 100000
namespace Go.Ink
open Go.RowKit
section
variable {n : Nat} {U : Mmu} {s : Sp}
theorem turned_plain (h : s.paging = false) (va : Nat) (kind : Int) : turnedTo n U s va kind = (((va : Int), Tr.none), U) := by
  unfold turnedTo
  rw [h]
  rfl
theorem place_plain (h : s.paging = false) {va : Nat} {kind : Int} (hk : kind = 2 ∨ kind = 3) (hva : va < n * 64) : placeTo n U s va kind = (((va : Int), Tr.none), U) := by
  have e : decide ((va : Int) < ((n * 64 : Nat) : Int)) = true := decide_eq_true (by omega)
  unfold placeTo
  rw [turned_plain h]
  rcases hk with rfl | rfl
  · show (bif (decide ((va : Int) < ((n * 64 : Nat) : Int)) || _) then _ else _) = _
    rw [e]; rfl
  show (bif (decide ((va : Int) < ((n * 64 : Nat) : Int)) || _) then _ else _) = _
  rw [e]; rfl
theorem whole_plain {R : Run} (h : R.s.paging = false) (hn : n ≤ 64) {va : Nat} {kind : Int} (hk : kind = 2 ∨ kind = 3) (h4 : va % 4 = 0) (hva : va < n * 64) : wholeTo n R U va kind = ⟨va, true, R.wdv Tr.none false, U⟩ := by
  have e1 : (((va % 4 : Nat) : Int) != 0) = false := by rw [h4]; rfl
  have e2 : decide ((32768 : Int) ≤ (va : Int)) = false := decide_eq_false (by omega)
  unfold wholeTo
  rw [place_plain (s := R.sp) h hk hva, e1]
  show (⟨(va : Int), true, R.wdv Tr.none (true && decide ((32768 : Int) ≤ (va : Int))), U⟩ : Whole) = _
  rw [e2]
  rfl
theorem stow_plain {R : Run} {d : Dev} (h : R.s.paging = false) (hn : n ≤ 64) {va v : Nat} (h4 : va % 4 = 0) (hva : va < n * 64) : stowTo n R U d va v = ⟨R.wdv Tr.none false, ⟨U.m.putW va v, U.t⟩, d⟩ := by
  unfold stowTo
  rw [whole_plain h hn (.inr rfl) h4 hva]
  rfl
theorem lode_plain {R : Run} {d : Dev} (h : R.s.paging = false) (hn : n ≤ 64) {va : Nat} (h4 : va % 4 = 0) (hva : va + 4 ≤ n * 64) : lodeTo n R U d va = ⟨(R.wdv Tr.none false).push [wordAt U.m.data va], U, d⟩ := by
  have e : decide (va + 4 ≤ n * 64) = true := decide_eq_true hva
  have e2 : wordOf n U.m va = (wordAt U.m.data va, true) := by unfold wordOf; rw [e]; rfl
  unfold lodeTo
  rw [whole_plain h hn (.inl rfl) h4 (by omega)]
  show lodeIn _ d va (wordOf n U.m va).1 (wordOf n U.m va).2 = _
  rw [e2]
  rfl
theorem notDev {a : Nat} (hn : n ≤ 64) (h : a < n * 64) : isDev (a : Int) = false := by
  unfold isDev
  rw [decide_eq_false (show ¬ (32768 : Int) ≤ (a : Int) by omega)]
  rfl
def runL (va k : Nat) : List Int := (List.range k).map fun j => ((va + j : Nat) : Int)
theorem span_plain (h : s.paging = false) {va k : Nat} {kind : Int} (hk : kind = 2 ∨ kind = 3) (hn : n ≤ 64) (hva : va + k ≤ n * 64) (hk1 : 1 ≤ k) (hk4 : k ≤ 4) : spanTo n U s va k kind = ((runL va k, Tr.none), U) := by
  have hd := notDev (n := n) hn (show va < n * 64 by omega)
  unfold spanTo span1
  rw [place_plain h hk (show va < n * 64 by omega)]
  cases hx : decide (((64 - va % 64 : Nat) : Int) < (k : Int)) with
  | false =>
    simp only [decide_eq_false_iff_not] at hx
    have hl : spanL (va : Int) 0 va k = runL va k := List.map_congr_left fun j hj => by
      rw [List.mem_range] at hj
      unfold spanAt
      rw [decide_eq_true (show j < 64 - va % 64 by omega), cond_true, u32_wrap_id _ (by omega) (by omega)]
      omega
    show spanEnd (va : Int) 0 va k Tr.none U = _
    unfold spanEnd
    rw [hd, decide_eq_false hx, hl]
    rfl
  | true =>
    simp only [decide_eq_true_eq] at hx
    have hnp : nextPage va = va - va % 64 + 64 := by unfold nextPage; omega
    have hnl : nextPage va < n * 64 := by omega
    have hd2 := notDev (n := n) hn hnl
    have hl : spanL (va : Int) (nextPage va : Int) va k = runL va k := List.map_congr_left fun j hj => by
      rw [List.mem_range] at hj
      unfold spanAt
      cases hj2 : decide (j < 64 - va % 64) with
      | true => rw [cond_true, u32_wrap_id _ (by omega) (by omega)]; omega
      | false =>
        simp only [decide_eq_false_iff_not] at hj2
        rw [cond_false, hnp, u32_wrap_id _ (by omega) (by omega)]
        omega
    show span2 n s va k kind (((va : Int), Tr.none), U) = _
    unfold span2
    rw [place_plain h hk hnl]
    show spanEnd (va : Int) (nextPage va : Int) va k Tr.none U = _
    unfold spanEnd
    rw [hd, hd2, hl, Bool.and_false]
    rfl
theorem runL_len (va k : Nat) : (runL va k).length = k := by simp [runL]
theorem runL_at (va : Nat) {k j : Nat} (h : j < k) : (runL va k).getD j 0 = ((va + j : Nat) : Int) := by simp [runL, h]
theorem puts_plain (M : Mem) (va k : Nat) (v : Int) : ∀ m, m ≤ k → putsTo M (runL va k) v m = M.putTo va v m
  | 0, _ => rfl
  | m + 1, h => by
    rw [putsTo, puts_plain M va k v m (by omega), runL_at va (by omega)]
    rfl
theorem store_plain (h : s.paging = false) {va k : Nat} {v : Int} (hn : n ≤ 64) (hva : va + k ≤ n * 64) (hk1 : 1 ≤ k) (hk4 : k ≤ 4) : storeTo n U s va k v = (Tr.none, ⟨U.m.putTo va v k, U.t⟩) := by
  unfold storeTo
  rw [span_plain h (.inr rfl) hn hva hk1 hk4]
  show (Tr.none, (⟨putsTo U.m (runL va k) v (runL va k).length, U.t⟩ : Mmu)) = _
  rw [runL_len, puts_plain _ _ _ _ _ (Nat.le_refl _)]
theorem load_plain (h : s.paging = false) {va k : Nat} (hn : n ≤ 64) (hva : va + k ≤ n * 64) (hk1 : 1 ≤ k) (hk4 : k ≤ 4) : loadTo n U s va k = ((placeVal U.m.data (runL va k), Tr.none), U) := by
  unfold loadTo
  rw [span_plain h (.inl rfl) hn hva hk1 hk4]
end
theorem gB_set {d : List Int} {i : Nat} {b : Int} (h : i < d.length) (j : Nat) : gB (d.set i b) j = if i = j then b else gB d j := by
  unfold gB
  rw [List.getD_eq_getElem?_getD, List.getD_eq_getElem?_getD, List.getElem?_set]
  by_cases e : i = j
  · rw [if_pos e, if_pos e, if_pos (by omega)]; rfl
  rw [if_neg e, if_neg e]
theorem putTo_gB (M : Mem) (a : Nat) (v : Int) : ∀ k, a + k ≤ M.data.length → ∀ j, j < k → gB (M.putTo a v k).data (a + j) = wbyte v j
  | 0, _, j, h => by omega
  | k + 1, hl, j, h => by
    show gB ((M.putTo a v k).data.set (a + k) (wbyte v k)) (a + j) = _
    rw [gB_set (by rw [putTo_dl]; omega)]
    by_cases e : k = j
    · subst e; rw [if_pos rfl]
    rw [if_neg (by omega)]
    exact putTo_gB M a v k (by omega) j (by omega)
theorem word_back (M : Mem) {a v : Nat} (hl : a + 4 ≤ M.data.length) (hv : v ≤ 4294967295) : wordAt (M.putTo a v 4).data a = v := by
  have h := putTo_gB M a v 4 hl
  have h0 := h 0 (by decide)
  rw [Nat.add_zero] at h0
  unfold wordAt
  rw [h0, h 1 (by decide), h 2 (by decide), h 3 (by decide)]
  simp only [wbyte]
  omega
theorem place_back4 (M : Mem) {a v : Nat} (hl : a + 4 ≤ M.data.length) (hv : v ≤ 4294967295) : placeVal (M.putTo a v 4).data (runL a 4) = v := by
  have h := word_back M hl hv
  unfold wordAt at h
  show gB _ (a + 0) + 256 * (gB _ (a + 1) + 256 * (gB _ (a + 2) + 256 * (gB _ (a + 3) + 256 * 0))) = _
  rw [Nat.add_zero]
  omega
theorem place_back1 (M : Mem) {a v : Nat} (hl : a + 1 ≤ M.data.length) : placeVal (M.putTo a v 1).data (runL a 1) = ((v % 256 : Nat) : Int) := by
  have h := putTo_gB M a v 1 hl 0 (by decide)
  show gB _ (a + 0) + 256 * 0 = _
  rw [h]
  simp only [wbyte]
  omega
theorem turned_some (M : Mem) (a : Nat) (v : Int) {k : Nat} (hk : 1 ≤ k) (h64 : M.turned.length = 64) (ha : a + k ≤ 4096) : 1 ≤ (trues (M.putTo a v k).turned 64).length := by
  obtain ⟨k, rfl⟩ : ∃ m, k = m + 1 := ⟨k - 1, by omega⟩
  have hm : (((a + k) / 64 : Nat) : Int) ∈ trues (M.putTo a v (k + 1)).turned 64 := by
    unfold trues
    refine List.mem_map.2 ⟨(a + k) / 64, List.mem_filter.2 ⟨List.mem_range.2 (by omega), ?_⟩, rfl⟩
    show ((M.putTo a v k).turned.set ((a + k) / 64) true).getD ((a + k) / 64) false = true
    have hl : ∀ k, (M.putTo a v k).turned.length = 64 := fun k => by
      induction k with
      | zero => exact h64
      | succ k ih => show ((M.putTo a v k).turned.set _ _).length = 64; rw [List.length_set]; exact ih
    rw [List.getD_eq_getElem?_getD, List.getElem?_set, if_pos rfl, if_pos (by rw [hl]; omega)]
    rfl
  exact List.length_pos_of_mem hm
end Go.Ink
