/- Instructions as bytes; a law's guest. -/
import Derived.Test.YthcpmpmbgbibfaaGreatDoorBkI
import Derived.Test.YthcpmpmbgbibfaaGreatDoorInkA
import Derived.Test.YthcpmpmbgbibfaaGreatDoorSsF
set_option linter.unusedSimpArgs false
set_option linter.unusedVariables false
set_option maxRecDepth 100000
namespace Go.Ink
open Go.RowKit
def encB (nn : Int) (j : Nat) : Int := IntKind.u8.wrap (nn.fdiv (2 ^ (min (Int.toNat ((8 * j : Nat) : Int)) IntKind.u32.bits)))
def encTo (op nn : Int) (k : Nat) : List Int := IntKind.u8.wrap op :: (List.range (k - 1)).map (encB nn)
def encOf (op nn : Int) : List Int := encTo op nn (max 1 (opSize op).toNat)
theorem encTo_len (op nn : Int) {k : Nat} (h : 1 ≤ k) : (encTo op nn k).length = k := by simp [encTo]; omega
theorem encTo_succ (op nn : Int) {k : Nat} (h : 1 ≤ k) : encTo op nn (k + 1) = encTo op nn k ++ [encB nn (k - 1)] := by
 obtain ⟨j, rfl⟩ : ∃ j, k = j + 1 := ⟨k - 1, by omega⟩
 simp [encTo, List.range_succ]
theorem wrap8_rng (x : Int) : 0 ≤ IntKind.u8.wrap x ∧ IntKind.u8.wrap x ≤ 255 := by
 have e : IntKind.u8.wrap x = x % 256 := by simp [IntKind.wrap, IntKind.bits, IntKind.signed]
 rw [e]; omega
theorem encOf_u8 (op nn : Int) : u8s (encOf op nn) := by
 intro x hx
 unfold encOf encTo at hx
 rcases List.mem_cons.1 hx with rfl | hx
 ·exact wrap8_rng _
 obtain ⟨j, -, rfl⟩ := List.mem_map.1 hx
 exact wrap8_rng _
theorem encOf_len (op nn : Int) : 1 ≤ (encOf op nn).length ∧ (encOf op nn).length ≤ 5 := by
 unfold encOf
 rw [encTo_len _ _ (by omega)]
 have : opSize op = 0 ∨ opSize op = 1 ∨ opSize op = 2 ∨ opSize op = 5 := opSize_cases op
 omega
def insCells (i : Int × Int) : List Value := [.int .i64 i.1, .int .u32 i.2]
theorem insCells_len (i : Int × Int) : (insCells i).length = 2 := rfl
def codeTo (l : List (Int × Int)) (k : Nat) : List Int := (l.take k).flatMap fun i => encOf i.1 i.2
def codeOf (l : List (Int × Int)) : List Int := codeTo l l.length
theorem codeTo_succ {l : List (Int × Int)} {k : Nat} {i : Int × Int} (h : l[k]? = some i) : codeTo l (k + 1) = codeTo l k ++ encOf i.1 i.2 := by
 unfold codeTo
 rw [List.take_add_one, h]
 simp
theorem codeTo_len (l : List (Int × Int)) : ∀ k, (codeTo l k).length ≤ 5 * k
 | 0 => by simp [codeTo]
 | k + 1 => by
  cases h : l[k]? with
  | none =>
   unfold codeTo
   rw [List.take_add_one, h]
   have := codeTo_len l k
   unfold codeTo at this
   simp only [Option.toList_none, List.append_nil]
   omega
  | some i =>
   rw [codeTo_succ h, List.length_append]
   have := codeTo_len l k
   have := (encOf_len i.1 i.2).2
   omega
theorem codeTo_u8 (l : List (Int × Int)) (k : Nat) : u8s (codeTo l k) := by
 intro x hx
 unfold codeTo at hx
 obtain ⟨i, -, h⟩ := List.mem_flatMap.1 hx
 exact encOf_u8 _ _ x h
end Go.Ink
namespace Go.Proofs.YthcpmpmbgbibfaaGreatDoor
open Go.RowKit Go.Ink
attribute [local irreducible] OpY GuardIs

set_option maxHeartbeats 1000000 in
theorem enc_ok (op nn : Int) (w : World) : Ctr Tryz.prog 91 [.agg #[.int .i64 op, .int .u32 nn]] w [] (fun v cs => ∃ A c, v = .slice A (encOf op nn).length c ∧ cs = [sl .u8 5 A (encOf op nn).length c (encOf op nn)]) := by
 have hz5 : opSize op = 0 ∨ opSize op = 1 ∨ opSize op = 2 ∨ opSize op = 5 := opSize_cases op
 have HS := fun w => refsize_ok op w
 obtain ⟨z, hz⟩ : ∃ z : Nat, opSize op = z := Int.eq_ofNat_of_zero_le (by omega)
 have he : encOf op nn = encTo op nn (max 1 z) := by unfold encOf; rw [hz]; rfl
 rw [he, encTo_len _ _ (by omega)]
 rw [hz] at hz5 HS
 refine fn_ctr Tryz.func91 rfl Tryz.ntmps91 rfl (Inv.start w) ?_
 refine Zs (Zr (ZO fun b1 => ?_))
 refine ZA ?_
 refine Zn (Zt (Zs (Zr (ZFa 0 ?_))))
 refine ZC ?_
 refine Zy (y_conv rfl rfl (Zv rfl) (by first | exact IntWalk.u8_in _ ⟨by omega, by omega⟩ | exact rfl)) ?_
 refine wl_t (t_buildSl1 rfl rfl (fun _ => rfl) (fun _ => rfl) rfl rfl) rfl ?_
 rintro _ _ ⟨b8, rfl, rfl⟩
 refine ZA ?_
 refine Zn (Zt (Zs (Zs (Zr (ZA ?_)))))
 refine Zn (Zt (Zx ?_))
 refine wc_loop (fun q : Nat × Option Addr × Nat => [(1, .pointer (some ⟨b1, 0, none⟩)), (3, .slice q.2.1 q.1 q.2.2), (4, .int .i64 (q.1 : Int))]) (fun q => [row b1 [.int .i64 op, .int .u32 nn] 79, sl .u8 5 q.2.1 q.1 q.2.2 (encTo op nn q.1)]) (fun q => 1 ≤ q.1 ∧ q.1 ≤ max 1 z) (fun q => 10 - q.1) ((⟨1, some ⟨b8, 0, none⟩, 1⟩ : Nat × Option Addr × Nat)) ?_ ?_ ?_ ?_
 ·exact ⟨Nat.le_refl _, by omega⟩
 ·exact Zwk
 ·((repeat (first | exact List.Sublist.slnil | refine List.Sublist.cons_cons _ ?_ | refine List.Sublist.cons _ ?_)))
 rintro ⟨k, A, c⟩ ⟨hk1, hkz⟩
 dsimp only at hk1 hkz ⊢
 refine Zs (Zs (Zr (ZA ?_)))
 refine ZFa 0 ?_
 refine ZC ?_
 refine ZS (fun w hi => HS w) ?_
 rintro _ _ ⟨_, ⟨rfl, rfl⟩, rfl⟩
 refine ZA ?_
 refine Zn (Zt ?_)
 refine wc_cond _ rfl (fun hc3 => ?_) (fun hc3 => ?_)
 ·simp only [decide_eq_true_eq] at hc3
  refine Zc (Zt (Zs (Zx (Zr (ZA ?_)))))
  refine ZFa 1 ?_
  refine ZC ?_
  refine ZA ?_
  refine Zy (y_sub (Zv rfl) (Zv rfl) (show _ = ((k - 1 : Nat) : Int) from by rw [IntWalk.i64_in _ ⟨by omega, by omega⟩]; omega)) ?_
  refine Zy (y_conv rfl rfl (Zv rfl) (u64_wrap_id _ (by omega) (by omega))) ?_
  refine Zy (y_mul (Zv rfl) (Zv rfl) (show _ = ((8 * (k - 1) : Nat) : Int) from by rw [u64_wrap_id _ (by omega) (by omega)]; omega)) ?_
  refine Zy (y_shr (Zv rfl) (Zv rfl) (by omega) rfl) ?_
  refine Zy (y_conv rfl rfl (Zv rfl) (show _ = encB nn (k - 1) from rfl)) ?_
  refine wl_t (t_buildSl1 rfl rfl (fun _ => rfl) (fun _ => rfl) rfl rfl) rfl ?_
  rintro _ _ ⟨b25, rfl, rfl⟩
  refine wl_t (t_append (e := 5) (sz := 1) (bytes := 1) rfl rfl Za rfl rfl (fun w hi => hi.rd (show Has _ (slv 5 1 (some ⟨b25, 0, none⟩) 1 1 (ints .u8 [encB nn (k - 1)])) from Zh)) ints_one (by simp only [maxLen]; omega) (by omega)) rfl ?_
  rintro _ _ ⟨A2, c2, rfl, rfl⟩
  rw [ints_append, ← encTo_succ op nn hk1]
  refine ZA ?_
  refine Zn (Zo (Zt (Zr (ZA ?_))))
  refine Zy (y_add (Zv rfl) (Zv rfl) Zl) ?_
  refine ZA ?_
  refine Zn ?_
  refine q_midP ((⟨k + 1, A2, c2⟩ : Nat × Option Addr × Nat)) ?_ ?_ ?_
  ·exact ⟨⟨show 1 ≤ k + 1 by omega, show k + 1 ≤ max 1 z by omega⟩, show 10 - (k + 1) < 10 - k by omega⟩
  ·exact Zwk
  exact Zj
 simp only [decide_eq_false_iff_not] at hc3
 obtain rfl : k = max 1 z := (by omega)
 refine wc_exit ?_
 refine q_then_exit ?_
 refine q_then_exit ?_
 refine q_block_same rfl ?_
 refine Zt (Zs (Zr (ZA ?_)))
 refine ZA ?_
 refine Zn (Zt (Ze (ret1 (cs' := [slv _ _ _ _ _ _]) (.inl rfl) Zu rfl rfl ?_)))
 exact ⟨A, c, rfl, rfl⟩
set_option maxHeartbeats 1000000 in
theorem code_ok (A : Option Addr) (c : Nat) (l : List (Int × Int)) (hl : l.length ≤ 1000) (w : World) (h : RdV w 2 A l.length c (l.flatMap insCells)) : Ctr Tryz.prog 41 [.slice A l.length c] w [] (fun v cs => ∃ A' c', v = .slice A' (codeOf l).length c' ∧ cs = [sl .u8 5 A' (codeOf l).length c' (codeOf l)]) := by
 refine fn_ctr Tryz.func41 rfl Tryz.ntmps41 rfl (Inv.start w) ?_
 refine Zs (Zr (ZA ?_))
 refine Zn (Zt (Zs (Zr (ZA ?_))))
 refine Zn (Zt (Zs (Zs (Zr (wl_nilc 5 1 ?_)))))
 refine ZA ?_
 refine Zn (Zt (Zx ?_))
 refine wc_loop (fun q : Nat × Option Addr × Nat => [(0, .slice A l.length c), (3, .slice q.2.1 (codeTo l q.1).length q.2.2), (4, .int .i64 (q.1 : Int))]) (fun q => [sl .u8 5 q.2.1 (codeTo l q.1).length q.2.2 (codeTo l q.1)]) (fun q => q.1 ≤ l.length) (fun q => l.length - q.1) ((⟨0, none, 0⟩ : Nat × Option Addr × Nat)) ?_ ?_ ?_ ?_
 ·exact Nat.zero_le _
 ·exact Zwk
 ·((repeat (first | exact List.Sublist.slnil | refine List.Sublist.cons_cons _ ?_ | refine List.Sublist.cons _ ?_)))
 rintro ⟨k, A1, c1⟩ hk
 dsimp only at hk ⊢
 have hcl := codeTo_len l k
 refine Zs (Zs (Zr (ZA ?_)))
 iterate 3 refine ZA ?_
 refine Zn (Zt ?_)
 refine wc_cond _ rfl (fun hc3 => ?_) (fun hc3 => ?_)
 ·simp only [decide_eq_true_eq] at hc3
  have hkl : k < l.length := (by omega)
  obtain ⟨ad, rfl⟩ := h.some_ (by omega)
  have hla : l[k]? = some (l[k]'hkl) := List.getElem?_eq_getElem hkl
  obtain ⟨⟨op, nn⟩, ha⟩ : ∃ a, l[k]'hkl = a := ⟨_, rfl⟩
  rw [ha] at hla
  have hel := encOf_len op nn
  refine Zc (Zt (Zs (Zx (Zr (ZA ?_)))))
  iterate 2 refine ZA ?_
  refine Zy (y_index (j := k)  rfl (fun _ => rfl) (Zv rfl) (Zv rfl)  (fun _ => by omega) (fun _ => by omega)) ?_
  refine wl_y (y_loadN (vs := [.int .i64 op, .int .u32 nn]) (fun _ => rfl) (fun _ => rfl) (Zv rfl)) (rdR_cells h (fun j v hj => flat_at insCells_len (i := j) hla hj)) rfl ?_
  refine ZS (fun w hi => enc_ok op nn w) ?_
  rintro _ _ ⟨_, ⟨A2, c2, rfl, rfl⟩, rfl⟩
  refine wl_t (t_append (e := 5) (sz := 1) (bytes := 1) rfl rfl Za rfl rfl (fun w hi => hi.rd (show Has _ (sl .u8 5 A2 (encOf op nn).length c2 (encOf op nn)) from Zh)) ints_one (by simp only [maxLen]; omega) (by omega)) rfl ?_
  rintro _ _ ⟨A3, c3, rfl, rfl⟩
  rw [ints_append, ← List.length_append, ← codeTo_succ hla]
  refine ZA ?_
  refine Zn (Zo (Zt (Zr (ZA ?_))))
  refine Zy (y_add (Zv rfl) (Zv rfl) Zl) ?_
  refine ZA ?_
  refine Zn ?_
  refine q_midP ((⟨k + 1, A3, c3⟩ : Nat × Option Addr × Nat)) ?_ ?_ ?_
  ·exact ⟨show k + 1 ≤ l.length by omega, show l.length - (k + 1) < l.length - k by omega⟩
  ·exact Zwk
  exact Zj
 simp only [decide_eq_false_iff_not] at hc3
 obtain rfl : k = l.length := (by omega)
 refine wc_exit ?_
 refine q_then_exit ?_
 refine q_then_exit ?_
 refine q_block_same rfl ?_
 refine Zt (Zs (Zr (ZA ?_)))
 refine ZA ?_
 refine Zn (Zt (Ze (ret1 (cs' := [slv _ _ _ _ _ _]) (.inl rfl) Zu rfl rfl ?_)))
 exact ⟨A1, c1, rfl, rfl⟩
end Go.Proofs.YthcpmpmbgbibfaaGreatDoor
