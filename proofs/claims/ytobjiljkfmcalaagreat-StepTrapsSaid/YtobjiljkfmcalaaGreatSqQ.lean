/- What StepLoads asks. No program in sight. -/
import Derived.Test.YtobjiljkfmcalaaGreatSqP
set_option linter.unusedSimpArgs false
set_option linter.unusedVariables false
set_option maxRecDepth 100000
namespace Go.Ink
open Go.RowKit
abbrev ldS (l : List Int) : St := ⟨0, l, [], 0, false, false, false, 0, 0, 0, 0, 0, false, false, 0, false⟩
structure LdSay (k a v : Nat) (sop lop want : Int) (U : Mmu) (d : Dev) (s1 s2 s3 : St) (pg1 pg3 : List Int) (U1 U2 U3 : Mmu) (dv2 dv3 tr3 : Bool) (d3 : Dev) : Prop where
  e1 : doTo 4 (ldS [9, v, a]) sop 0 U d = (⟨s1, false, false, pg1⟩, U1, d)
  h1 : s1.d = [9]
  g1 : 1 ≤ pg1.length
  t1 : U1.t.length = 16
  e2 : doTo 4 (ldS [8, a]) lop 0 U1 d = (⟨s2, false, dv2, []⟩, U2, d)
  h2 : s2.d = [8, want]
  t2 : U2.t.length = 16
  e3 : doTo 4 (ldS [v, 32772]) sop 0 U2 d = (⟨s3, tr3, dv3, pg3⟩, U3, d3)
  h3 : tr3 = decide ((0 : Int) < (k : Int))
  q3 : k = 0 → dv3 = true ∧ d3.mask = ((v % 256 : Nat) : Int)
theorem and255' {v : Int} (h : u32 v) : bits .and .u32 v 255 = v % 256 := bits_mask .u32 32 (by decide) wraps_u32 8 (by decide) v h.1 (by have := h.2; omega)
section
variable {U : Mmu} {d : Dev} {a v : Nat}
theorem ld_st0 (h4 : a % 4 = 0) (ha : a ≤ 252) : doTo 4 (ldS [9, v, a]) 49 0 U d = (⟨(((run0 (ldS [9, v, a]) 49).pop).pop).s, false, false, trues (U.m.calm.putW a v).turned 64⟩, ⟨U.m.calm.putW a v, U.t⟩, d) := by
  have e : doTo 4 (ldS [9, v, a]) 49 0 U d = (endTo (ldS [9, v, a]) (stowTo 4 ((run0 (ldS [9, v, a]) 49).pop).pop ⟨U.m.calm, U.t⟩ d a v), (stowTo 4 ((run0 (ldS [9, v, a]) 49).pop).pop ⟨U.m.calm, U.t⟩ d a v).u, (stowTo 4 ((run0 (ldS [9, v, a]) 49).pop).pop ⟨U.m.calm, U.t⟩ d a v).d) := by rfl
  rw [e, stow_plain rfl (by decide) h4 (by omega)]
  rfl
theorem ld_st1 (ha : a ≤ 252) : doTo 4 (ldS [9, v, a]) 51 0 U d = (⟨(((run0 (ldS [9, v, a]) 51).pop).pop).s, false, false, trues (U.m.calm.putTo a v 4).turned 64⟩, ⟨U.m.calm.putTo a v 4, U.t⟩, d) := by
  have e : doTo 4 (ldS [9, v, a]) 51 0 U d = (endTo (ldS [9, v, a]) (Mach.of (sameS 4 ((run0 (ldS [9, v, a]) 51).pop).pop ⟨U.m.calm, U.t⟩ a 4 v) d), (sameS 4 ((run0 (ldS [9, v, a]) 51).pop).pop ⟨U.m.calm, U.t⟩ a 4 v).2, d) := by rfl
  rw [e]
  unfold sameS
  rw [store_plain rfl (by decide) (by omega) (by decide) (by decide)]
  rfl
theorem ld_st2 (ha : a ≤ 252) : doTo 4 (ldS [9, v, a]) 53 0 U d = (⟨(((run0 (ldS [9, v, a]) 53).pop).pop).s, false, false, trues (U.m.calm.putTo a v 1).turned 64⟩, ⟨U.m.calm.putTo a v 1, U.t⟩, d) := by
  have e : doTo 4 (ldS [9, v, a]) 53 0 U d = (endTo (ldS [9, v, a]) (Mach.of (sameS 4 ((run0 (ldS [9, v, a]) 53).pop).pop ⟨U.m.calm, U.t⟩ a 1 v) d), (sameS 4 ((run0 (ldS [9, v, a]) 53).pop).pop ⟨U.m.calm, U.t⟩ a 1 v).2, d) := by rfl
  rw [e]
  unfold sameS
  rw [store_plain rfl (by decide) (by omega) (by decide) (by decide)]
  rfl
theorem ld_ld0 (h4 : a % 4 = 0) (ha : a ≤ 252) : doTo 4 (ldS [8, a]) 48 0 U d = (⟨(((run0 (ldS [8, a]) 48).pop).push [wordAt U.m.data a]).s, false, false, []⟩, ⟨U.m.calm, U.t⟩, d) := by
  have e : doTo 4 (ldS [8, a]) 48 0 U d = (endTo (ldS [8, a]) (lodeTo 4 (run0 (ldS [8, a]) 48).pop ⟨U.m.calm, U.t⟩ d a), (lodeTo 4 (run0 (ldS [8, a]) 48).pop ⟨U.m.calm, U.t⟩ d a).u, (lodeTo 4 (run0 (ldS [8, a]) 48).pop ⟨U.m.calm, U.t⟩ d a).d) := by rfl
  rw [e, lode_plain rfl (by decide) h4 (by omega)]
  rfl
theorem ld_ld1 (ha : a ≤ 252) : doTo 4 (ldS [8, a]) 50 0 U d = (⟨(((run0 (ldS [8, a]) 50).pop).push [placeVal U.m.data (runL a 4)]).s, false, false, []⟩, ⟨U.m.calm, U.t⟩, d) := by
  have e : doTo 4 (ldS [8, a]) 50 0 U d = (endTo (ldS [8, a]) (Mach.of (sameL 4 (run0 (ldS [8, a]) 50).pop ⟨U.m.calm, U.t⟩ a 4) d), (sameL 4 (run0 (ldS [8, a]) 50).pop ⟨U.m.calm, U.t⟩ a 4).2, d) := by rfl
  rw [e]
  unfold sameL
  rw [load_plain rfl (by decide) (by omega) (by decide) (by decide)]
  rfl
theorem ld_ld2 (ha : a ≤ 252) : doTo 4 (ldS [8, a]) 52 0 U d = (⟨(((run0 (ldS [8, a]) 52).pop).push [placeVal U.m.data (runL a 1)]).s, false, false, []⟩, ⟨U.m.calm, U.t⟩, d) := by
  have e : doTo 4 (ldS [8, a]) 52 0 U d = (endTo (ldS [8, a]) (Mach.of (sameL 4 (run0 (ldS [8, a]) 52).pop ⟨U.m.calm, U.t⟩ a 1) d), (sameL 4 (run0 (ldS [8, a]) 52).pop ⟨U.m.calm, U.t⟩ a 1).2, d) := by rfl
  rw [e]
  unfold sameL
  rw [load_plain rfl (by decide) (by omega) (by decide) (by decide)]
  rfl
theorem place_dev {s : Sp} (h : s.paging = false) : placeTo 4 U s 32772 3 = ((((32772 : Nat) : Int), Tr.none), U) := by
  unfold placeTo
  rw [turned_plain h]
  rfl
theorem whole_dev {R : Run} (h : R.s.paging = false) : wholeTo 4 R U 32772 3 = ⟨((32772 : Nat) : Int), true, R.wdv Tr.none true, U⟩ := by
  unfold wholeTo
  rw [place_dev (s := R.sp) h]
  rfl
theorem stow_dev {R : Run} (h : R.s.paging = false) : stowTo 4 R U d 32772 v = ⟨R.wdv Tr.none true, U, { d with mask := bits .and .u32 v 255 }⟩ := by
  have e : devK 32772 = 4 := by decide
  unfold stowTo
  rw [whole_dev h]
  simp only [Int.toNat_natCast]
  rw [e]
  rfl
theorem span_dev {s : Sp} (h : s.paging = false) {k : Nat} (hk : k ≤ 4) : spanTo 4 U s 32772 k 3 = (([], ⟨10, ((32772 : Nat) : Int)⟩), U) := by
  have e : decide (((64 - 32772 % 64 : Nat) : Int) < (k : Int)) = false := decide_eq_false (by omega)
  unfold spanTo span1
  rw [place_dev h]
  show (bif decide (((64 - 32772 % 64 : Nat) : Int) < (k : Int)) then _ else spanEnd ((32772 : Nat) : Int) 0 32772 k Tr.none U) = _
  rw [e]
  rfl
theorem store_dev {s : Sp} (h : s.paging = false) {k : Nat} (hk : k ≤ 4) {v : Int} : storeTo 4 U s 32772 k v = (⟨10, ((32772 : Nat) : Int)⟩, U) := by
  unfold storeTo
  rw [span_dev h hk]
  rfl
theorem ld_x0 {p : Nat} (hp : p = 32772) : doTo 4 (ldS [v, p]) 49 0 U d = (⟨(((run0 (ldS [v, p]) 49).pop).pop).s, false, true, []⟩, ⟨U.m.calm, U.t⟩, { d with mask := bits .and .u32 v 255 }) := by
  have e : doTo 4 (ldS [v, p]) 49 0 U d = (endTo (ldS [v, p]) (stowTo 4 ((run0 (ldS [v, p]) 49).pop).pop ⟨U.m.calm, U.t⟩ d p v), (stowTo 4 ((run0 (ldS [v, p]) 49).pop).pop ⟨U.m.calm, U.t⟩ d p v).u, (stowTo 4 ((run0 (ldS [v, p]) 49).pop).pop ⟨U.m.calm, U.t⟩ d p v).d) := by rfl
  have e2 : stowTo 4 ((run0 (ldS [v, p]) 49).pop).pop ⟨U.m.calm, U.t⟩ d p v = ⟨(((run0 (ldS [v, p]) 49).pop).pop).wdv Tr.none true, ⟨U.m.calm, U.t⟩, { d with mask := bits .and .u32 v 255 }⟩ := by
    have h := stow_dev (R := ((run0 (ldS [v, p]) 49).pop).pop) (U := ⟨U.m.calm, U.t⟩) (d := d) (v := v) rfl
    rw [← hp] at h
    exact h
  rw [e, e2]
  rfl
theorem ld_x1 {p : Nat} (hp : p = 32772) : doTo 4 (ldS [v, p]) 51 0 U d = (⟨(ldS [v, p]).next.trap 10 p, true, false, []⟩, ⟨U.m.calm, U.t⟩, d) := by
  have e : doTo 4 (ldS [v, p]) 51 0 U d = (endTo (ldS [v, p]) (Mach.of (sameS 4 ((run0 (ldS [v, p]) 51).pop).pop ⟨U.m.calm, U.t⟩ p 4 v) d), (sameS 4 ((run0 (ldS [v, p]) 51).pop).pop ⟨U.m.calm, U.t⟩ p 4 v).2, d) := by rfl
  have e2 := store_dev (U := ⟨U.m.calm, U.t⟩) (s := (((run0 (ldS [v, p]) 51).pop).pop).sp) rfl (k := 4) (by decide) (v := v)
  rw [← hp] at e2
  rw [e]
  unfold sameS
  rw [e2]
  rfl
theorem ld_x2 {p : Nat} (hp : p = 32772) : doTo 4 (ldS [v, p]) 53 0 U d = (⟨(ldS [v, p]).next.trap 10 p, true, false, []⟩, ⟨U.m.calm, U.t⟩, d) := by
  have e : doTo 4 (ldS [v, p]) 53 0 U d = (endTo (ldS [v, p]) (Mach.of (sameS 4 ((run0 (ldS [v, p]) 53).pop).pop ⟨U.m.calm, U.t⟩ p 1 v) d), (sameS 4 ((run0 (ldS [v, p]) 53).pop).pop ⟨U.m.calm, U.t⟩ p 1 v).2, d) := by rfl
  have e2 := store_dev (U := ⟨U.m.calm, U.t⟩) (s := (((run0 (ldS [v, p]) 53).pop).pop).sp) rfl (k := 1) (by decide) (v := v)
  rw [← hp] at e2
  rw [e]
  unfold sameS
  rw [e2]
  rfl
theorem loads_say (hU : UOk 4 U) (k : Nat) (hk : k ≤ 2) {sop lop want : Int} (hs : ([49, 51, 53] : List Int)[k]? = some sop) (hl : ([48, 50, 52] : List Int)[k]? = some lop) (hv : v ≤ 4294967295) (ha : a ≤ 252) (h4 : k = 0 → a % 4 = 0)
    (hw : k ≠ 2 → want = v) (hw2 : k = 2 → want = ((v % 256 : Nat) : Int)) :
    ∃ s1 s2 s3 pg1 pg3 U1 U2 U3 dv2 dv3 tr3 d3, LdSay k a v sop lop want U d s1 s2 s3 pg1 pg3 U1 U2 U3 dv2 dv3 tr3 d3 := by
  have hdl : U.m.calm.data.length = 256 := hU.m.dl
  have htl : U.m.calm.turned.length = 64 := List.length_replicate
  have hv' : u32 (v : Int) := u32_nat hv
  have hk3 : k = 0 ∨ k = 1 ∨ k = 2 := by omega
  rcases hk3 with rfl | rfl | rfl
  · obtain rfl : (49 : Int) = sop := Option.some.inj hs
    obtain rfl : (48 : Int) = lop := Option.some.inj hl
    obtain rfl := hw (by decide)
    have hb := word_back U.m.calm (a := a) (v := v) (by omega) hv
    exact ⟨_, _, _, _, _, _, _, _, _, _, _, _, ⟨ld_st0 (h4 rfl) ha, rfl, turned_some _ _ _ (by decide) htl (by omega), hU.t, ld_ld0 (h4 rfl) ha, by show [8, wordAt (U.m.calm.putTo a v 4).data a] = _; rw [hb], hU.t, ld_x0 (p := 32772) rfl, rfl, fun _ => ⟨rfl, and255' hv'⟩⟩⟩
  · obtain rfl : (51 : Int) = sop := Option.some.inj hs
    obtain rfl : (50 : Int) = lop := Option.some.inj hl
    obtain rfl := hw (by decide)
    have hb := place_back4 U.m.calm (a := a) (v := v) (by omega) hv
    exact ⟨_, _, _, _, _, _, _, _, _, _, _, _, ⟨ld_st1 ha, rfl, turned_some _ _ _ (by decide) htl (by omega), hU.t, ld_ld1 ha, by show [8, placeVal (U.m.calm.putTo a v 4).data (runL a 4)] = _; rw [hb], hU.t, ld_x1 (p := 32772) rfl, rfl, fun h => by cases h⟩⟩
  obtain rfl : (53 : Int) = sop := Option.some.inj hs
  obtain rfl : (52 : Int) = lop := Option.some.inj hl
  have hb := place_back1 U.m.calm (a := a) (v := v) (by omega)
  exact ⟨_, _, _, _, _, _, _, _, _, _, _, _, ⟨ld_st2 ha, rfl, turned_some _ _ _ (by decide) htl (by omega), hU.t, ld_ld2 ha, by show [8, placeVal (U.m.calm.putTo a v 1).data (runL a 1)] = _; rw [hb, hw2 rfl], hU.t, ld_x2 (p := 32772) rfl, rfl, fun h => by cases h⟩⟩
end
end Go.Ink
