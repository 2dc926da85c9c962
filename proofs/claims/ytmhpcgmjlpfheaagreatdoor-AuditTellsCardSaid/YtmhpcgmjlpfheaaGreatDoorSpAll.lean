/- Joined: SpM SpA SpB SpC SpD SpE SpF SpG SpH SpI SpJ SpK. -/
import Derived.Test.YtmhpcgmjlpfheaaGreatDoorInkA
import Derived.Test.YtmhpcgmjlpfheaaGreatDoorInkA
import Derived.Test.YtmhpcgmjlpfheaaGreatDoorStAll
import Derived.Test.YtmhpcgmjlpfheaaGreatDoorProg
import Derived.Lib.EndianBits
/- The host's frames and a guest's memory as plain data. No program in sight. -/
set_option linter.unusedSimpArgs false
set_option linter.unusedVariables false
set_option maxRecDepth 100000
namespace Go.Ink
open Go.RowKit

def bools (l : List Bool) : List Value := l.map Value.bool
theorem bools_len (l : List Bool) : (bools l).length = l.length := by simp [bools]
theorem bools_at {l : List Bool} {j : Nat} {b : Bool} (h : l[j]? = some b) : (bools l)[j]? = some (.bool b) := by simp [bools, h]
theorem bools_set (l : List Bool) (j : Nat) (b : Bool) : (bools l).set j (.bool b) = bools (l.set j b) := by simp [bools, List.map_set]
theorem bools_one {l : List Bool} : ∀ u ∈ bools l, u.oneCell' = true := by
 intro u hu
 obtain ⟨x, _, rfl⟩ := List.mem_map.1 hu
 rfl
theorem ints_set' {k : IntKind} (xs : List Int) (j : Nat) (v : Int) : (ints k xs).set j (.int k v) = ints k (xs.set j v) := by simp [ints, List.map_set]
/-- The pool's cells. -/
def poolCells (B ow pr : List Int) : List Value := ints .u8 B ++ (ints .i64 ow ++ ints .i64 pr)
/-- How long the parts are. -/
structure PoolLen (B ow pr : List Int) : Prop where
 b : B.length = 16384
 ow : ow.length = 256
 pr : pr.length = 4
section
variable {B ow pr : List Int}
theorem poolCells_len (h : PoolLen B ow pr) : (poolCells B ow pr).length = 16644 := by
 simp [poolCells, ints_length, h.b, h.ow, h.pr]
theorem pool_B {i : Nat} {v : Int} (h : B[i]? = some v) : (poolCells B ow pr)[i]? = some (.int .u8 v) := by
 have hi := (List.getElem?_eq_some_iff.1 h).1
 unfold poolCells
 rw [List.getElem?_append_left (by rw [ints_length]; exact hi)]
 exact ints_at h
theorem pool_ow (hl : PoolLen B ow pr) {i : Nat} {v : Int} (h : ow[i]? = some v) : (poolCells B ow pr)[16384 + i]? = some (.int .i64 v) := by
 have hi := (List.getElem?_eq_some_iff.1 h).1
 unfold poolCells
 rw [List.getElem?_append_right (by rw [ints_length, hl.b]; omega), ints_length, hl.b, show 16384 + i - 16384 = i by omega, List.getElem?_append_left (by rw [ints_length]; exact hi)]
 exact ints_at h
theorem pool_pr (hl : PoolLen B ow pr) {i : Nat} {v : Int} (h : pr[i]? = some v) : (poolCells B ow pr)[16640 + i]? = some (.int .i64 v) := by
 unfold poolCells
 rw [List.getElem?_append_right (by rw [ints_length, hl.b]; omega), ints_length, hl.b, List.getElem?_append_right (by rw [ints_length, hl.ow]; omega), ints_length, hl.ow, show 16640 + i - 16384 - 256 = i by omega]
 exact ints_at h
theorem pool_setB {i : Nat} (hi : i < B.length) (v : Int) : (poolCells B ow pr).set i (.int .u8 v) = poolCells (B.set i v) ow pr := by
 unfold poolCells
 rw [List.set_append_left _ _ (by rw [ints_length]; exact hi), ints_set']
theorem pool_setow (hl : PoolLen B ow pr) {i : Nat} (hi : i < 256) (v : Int) : (poolCells B ow pr).set (16384 + i) (.int .i64 v) = poolCells B (ow.set i v) pr := by
 unfold poolCells
 rw [List.set_append_right _ _ (by rw [ints_length, hl.b]; omega), ints_length, hl.b, show 16384 + i - 16384 = i by omega, List.set_append_left _ _ (by rw [ints_length, hl.ow]; exact hi), ints_set']
theorem pool_setpr (hl : PoolLen B ow pr) {i : Nat} (v : Int) : (poolCells B ow pr).set (16640 + i) (.int .i64 v) = poolCells B ow (pr.set i v) := by
 unfold poolCells
 rw [List.set_append_right _ _ (by rw [ints_length, hl.b]; omega), ints_length, hl.b, List.set_append_right _ _ (by rw [ints_length, hl.ow]; omega), ints_length, hl.ow, show 16640 + i - 16384 - 256 = i by omega, ints_set']
/-- A frame's bytes are all 0. -/
def zeroFrame (B : List Int) (f : Nat) : List Int := B.take (f * 64) ++ List.replicate 64 0 ++ B.drop (f * 64 + 64)
theorem pool_zero (hl : PoolLen B ow pr) {f : Nat} (hf : f < 256) : (poolCells B ow pr).take (f * 64) ++ List.replicate 64 (Value.int .u8 0) ++ (poolCells B ow pr).drop (f * 64 + 64) = poolCells (zeroFrame B f) ow pr := by
 unfold poolCells zeroFrame
 have h1 : f * 64 ≤ (ints .u8 B).length := by rw [ints_length, hl.b]; omega
 have h2 : f * 64 + 64 ≤ (ints .u8 B).length := by rw [ints_length, hl.b]; omega
 rw [List.take_append_of_le_length h1, List.drop_append_of_le_length h2, ← List.append_assoc _ _ (ints .i64 ow ++ ints .i64 pr)]
 congr 1
 simp [ints, List.map_take, List.map_drop]
theorem zeroFrame_len (hB : B.length = 16384) {f : Nat} (hf : f < 256) : (zeroFrame B f).length = 16384 := by
 simp only [zeroFrame, List.length_append, List.length_take, List.length_replicate, List.length_drop, hB]
 omega
theorem zeroFrame_in (hB : B.length = 16384) {f j : Nat} (hf : f < 256) (hj : j < 64) : (zeroFrame B f)[f * 64 + j]? = some 0 := by
 unfold zeroFrame
 rw [List.getElem?_append_left (by simp [hB]; omega), List.getElem?_append_right (by simp [hB]; omega)]
 simp only [List.length_take, hB]
 rw [show f * 64 + j - min (f * 64) 16384 = j by omega, List.getElem?_replicate, if_pos hj]
theorem zeroFrame_out (hB : B.length = 16384) {f i : Nat} (hf : f < 256) (hi : i < f * 64 ∨ f * 64 + 64 ≤ i) : (zeroFrame B f)[i]? = B[i]? := by
 unfold zeroFrame
 rcases hi with hi | hi
 ·rw [List.getElem?_append_left (by simp [hB]; omega), List.getElem?_append_left (by simp [hB]; omega), List.getElem?_take, if_pos hi]
 rw [List.getElem?_append_right (by simp [hB]; omega), List.getElem?_drop]
 simp only [List.length_append, List.length_take, List.length_replicate, hB]
 congr 1
 omega
end
/-- The frames that an owner holds, as far as the k-th. -/
def heldTo (ow : List Int) (o : Int) (k : Nat) : List Int := ((List.range k).filter (fun f => ow[f]? == some o)).map (fun f : Nat => (f : Int))
theorem heldTo_succ (ow : List Int) (o : Int) (k : Nat) : heldTo ow o (k + 1) = heldTo ow o k ++ (bif ow[k]? == some o then [(k : Int)] else []) := by
 unfold heldTo
 rw [List.range_succ, List.filter_append, List.map_append]
 congr 1
 cases h : (ow[k]? == some o) <;> simp [h]
theorem heldTo_le (ow : List Int) (o : Int) (k : Nat) : (heldTo ow o k).length ≤ k := by
 unfold heldTo
 rw [List.length_map]
 exact Nat.le_trans (List.length_filter_le _ _) (by simp)
end Go.Ink
/- The host's frames. -/
set_option linter.unusedSimpArgs false
set_option linter.unusedVariables false
set_option maxRecDepth 100000
namespace Go.Proofs.YtmhpcgmjlpfheaaGreatDoor
open Go.RowKit Go.Ink
attribute [local irreducible] OpY GuardIs

abbrev poolC (bp : Nat) (B ow pr : List Int) : Chunk := row bp (poolCells B ow pr) 79
theorem fis_ok (n : Int) (w : World) : Ctr Tryz.prog 72 [.int .i64 n] w [] (fun v cs => v = .bool (decide (0 ≤ n) && decide (n < 4)) ∧ cs = []) := by
 refine fn_ctr Tryz.func72 rfl Tryz.ntmps72 rfl (Inv.start w) ?_
 refine Zs (Zr (ZA ?_))
 refine Zn (Zt (Zs (Zr (ZA ?_))))
 iterate 2 refine ZA ?_
 iterate 2 refine ZB ?_
 iterate 2 refine ZA ?_
 refine Zn (Zt (Ze (ret1 (cs' := []) (.inl rfl) Zu rfl rfl ?_)))
 exact ⟨rfl, rfl⟩
theorem frame_ok (n : Int) (w : World) : Ctr Tryz.prog 109 [.int .i64 n] w [] (fun v cs => v = .bool (decide (16 ≤ n) && decide (n < 256)) ∧ cs = []) := by
 refine fn_ctr Tryz.func109 rfl Tryz.ntmps109 rfl (Inv.start w) ?_
 refine Zs (Zr (ZA ?_))
 refine Zn (Zt (Zs (Zr (ZA ?_))))
 iterate 2 refine ZA ?_
 iterate 2 refine ZB ?_
 iterate 2 refine ZA ?_
 refine Zn (Zt (Ze (ret1 (cs' := []) (.inl rfl) Zu rfl rfl ?_)))
 exact ⟨rfl, rfl⟩
theorem owner_ok (bp : Nat) (B ow pr : List Int) (hl : PoolLen B ow pr) (f : Nat) (o : Int) (h1 : 16 ≤ f) (h2 : f < 256) (h3 : ow[f]? = some o) (h4 : o ≠ -1) (w : World) (hp : (poolC bp B ow pr).ok w) :
  Ctr Tryz.prog 110 [.pointer (some ⟨bp, 0, none⟩), .int .i64 f] w [] (fun v cs => v = .tuple #[.int .i64 o, .bool true] ∧ cs = []) := by
 refine fn_ctr Tryz.func110 rfl Tryz.ntmps110 rfl (Inv.start w) ?_
 refine Zs (Zr (ZA ?_))
 refine ZA ?_
 refine Zn (Zt (Zs (Zs (Zr (ZA ?_)))))
 refine ZS (fun w hi => frame_ok f w) ?_
 rintro _ _ ⟨_, ⟨rfl, rfl⟩, rfl⟩
 rw [decide_eq_true (show (16 : Int) ≤ f by omega), decide_eq_true (show (f : Int) < 256 by omega)]
 iterate 2 refine ZA ?_
 iterate 3 refine ZB ?_
 refine ZFb 16384 ?_
 refine Zyn rfl rfl (y_indexA (j := f) (sz := 1) (r := 16384 + f) rfl (fun _ => rfl) (ev_g rfl) (ev_g rfl) (fun _ => by omega) (fun _ => by omega) (by omega)) ?_
 refine wl_yg (guard_no rfl rfl) (y_load (fun _ => rfl) (ev_g rfl)) (old_row hp (pool_ow hl h3)) rfl ?_
 refine ZB ?_
 refine ZA ?_
 refine Zn (Zt (wc_cond_f rfl ((show (_ || (o == -1)) = false from by rw [beq_eq_false_iff_ne.2 h4]; rfl)) ?_))
 refine Zc (Zt (Zs (Zr (ZA ?_))))
 iterate 2 refine ZA ?_
 refine ZFa 16384 ?_
 refine Zy (y_indexA (j := f) (sz := 1) (r := 16384 + f) rfl (fun _ => rfl) (Zv rfl) (Zv rfl) (fun _ => by omega) (fun _ => by omega) (by omega)) ?_
 refine wl_y (y_load (fun _ => rfl) (Zv rfl)) (old_row hp (pool_ow hl h3)) rfl ?_
 iterate 2 refine ZA ?_
 refine Zn (Zt (Ze (ret2 (cs' := []) (.inl rfl) Zu rfl rfl rfl ?_)))
 exact ⟨rfl, rfl⟩
theorem here_ok (bp : Nat) (B ow pr : List Int) (hl : PoolLen B ow pr) (f a : Nat) (o : Int) (h1 : 16 ≤ f) (h2 : f < 256) (h3 : ow[f]? = some o) (h4 : o ≠ -1) (h5 : a < 64) (w : World) (hp : (poolC bp B ow pr).ok w) :
  Ctr Tryz.prog 94 [.pointer (some ⟨bp, 0, none⟩), .int .i64 f, .int .i64 a] w [] (fun v cs => v = .bool true ∧ cs = []) := by
 refine fn_ctr Tryz.func94 rfl Tryz.ntmps94 rfl (Inv.start w) ?_
 refine Zs (Zr (ZA ?_))
 refine Zn (Zt (Zs (Zr (ZA ?_))))
 refine ZA ?_
 refine ZS (fun w hi => owner_ok bp B ow pr hl f o h1 h2 h3 h4 w (Chunk.old hp hi)) ?_
 rintro _ _ ⟨_, ⟨rfl, rfl⟩, rfl⟩
 iterate 5 refine ZA ?_
 refine Zn (Zt (Zs (Zr (ZA ?_))))
 refine ZA ?_
 iterate 2 refine ZB ?_
 iterate 2 refine ZA ?_
 iterate 2 refine ZB ?_
 iterate 2 refine ZA ?_
 refine Zn (Zt (Ze (ret1 (cs' := []) (.inl rfl) Zu rfl rfl ?_)))
 rw [decide_eq_true (show (0 : Int) ≤ a by omega), decide_eq_true (show (a : Int) < 64 by omega)]
 exact ⟨rfl, rfl⟩
theorem pbyte_ok (bp : Nat) (B ow pr : List Int) (hl : PoolLen B ow pr) (f a : Nat) (o b : Int) (h1 : 16 ≤ f) (h2 : f < 256) (h3 : ow[f]? = some o) (h4 : o ≠ -1) (h5 : a < 64) (h6 : B[f * 64 + a]? = some b) (w : World) (hp : (poolC bp B ow pr).ok w) :
  Ctr Tryz.prog 96 [.pointer (some ⟨bp, 0, none⟩), .int .i64 f, .int .i64 a] w [] (fun v cs => v = .tuple #[.int .u8 b, .bool true] ∧ cs = []) := by
 refine fn_ctr Tryz.func96 rfl Tryz.ntmps96 rfl (Inv.start w) ?_
 refine Zs (Zr (ZA ?_))
 refine ZA ?_
 refine Zn (Zt (Zs (Zs (Zr (ZA ?_)))))
 iterate 2 refine ZA ?_
 refine ZS (fun w hi => here_ok bp B ow pr hl f a o h1 h2 h3 h4 h5 w (Chunk.old hp hi)) ?_
 rintro _ _ ⟨_, ⟨rfl, rfl⟩, rfl⟩
 refine ZA ?_
 refine Zn (Zt (wc_cond_f rfl (rfl) ?_))
 refine Zc (Zt (Zs (Zr (ZA ?_))))
 iterate 3 refine ZA ?_
 refine ZFa 0 ?_
 refine Zy (y_indexA (j := f) (sz := 64) (r := f * 64) rfl (fun _ => rfl) (Zv rfl) (Zv rfl) (fun _ => by omega) (fun _ => by omega) (by omega)) ?_
 refine Zy (y_indexA (j := a) (sz := 1) (r := f * 64 + a) rfl (fun _ => rfl) (Zv rfl) (Zv rfl) (fun _ => by omega) (fun _ => by omega) (by omega)) ?_
 refine wl_y (y_load (fun _ => rfl) (Zv rfl)) (old_row hp (pool_B h6)) rfl ?_
 iterate 2 refine ZA ?_
 refine Zn (Zt (Ze (ret2 (cs' := []) (.inl rfl) Zu rfl rfl rfl ?_)))
 exact ⟨rfl, rfl⟩
theorem pput_ok (bp : Nat) (B ow pr : List Int) (hl : PoolLen B ow pr) (f a : Nat) (o b : Int) (h1 : 16 ≤ f) (h2 : f < 256) (h3 : ow[f]? = some o) (h4 : o ≠ -1) (h5 : a < 64) (w : World) (hi : Inv w (blocks [poolC bp B ow pr]) [poolC bp B ow pr] w) :
  Ctr Tryz.prog 78 [.pointer (some ⟨bp, 0, none⟩), .int .i64 f, .int .i64 a, .int .u8 b] w [poolC bp B ow pr] (fun v cs => v = .bool true ∧ cs = [poolC bp (B.set (f * 64 + a) b) ow pr]) := by
 have hb := hl.b
 refine fn_ctr Tryz.func78 rfl Tryz.ntmps78 rfl hi ?_
 refine Zs (Zr (ZA ?_))
 refine Zn (Zt (Zs (Zs (Zr (ZA ?_)))))
 iterate 2 refine ZA ?_
 refine ZS (fun w hi => here_ok bp B ow pr hl f a o h1 h2 h3 h4 h5 w (hi.get Zh)) ?_
 rintro _ _ ⟨_, ⟨rfl, rfl⟩, rfl⟩
 refine ZA ?_
 refine Zn (Zt (wc_cond_f rfl (rfl) ?_))
 refine Zc (Zt (Zs (Zr (ZA ?_))))
 iterate 4 refine ZA ?_
 refine ZFa 0 ?_
 refine Zy (y_indexA (j := f) (sz := 64) (r := f * 64) rfl (fun _ => rfl) (Zv rfl) (Zv rfl) (fun _ => by omega) (fun _ => by omega) (by omega)) ?_
 refine Zy (y_indexA (j := a) (sz := 1) (r := f * 64 + a) rfl (fun _ => rfl) (Zv rfl) (Zv rfl) (fun _ => by omega) (fun _ => by omega) (by omega)) ?_
 refine wl_t0 (t_storeR (fun _ => rfl) rfl rfl rfl Za (by rw [poolCells_len hl]; omega)) ?_
 rintro _ _ ⟨rfl, rfl⟩
 rw [pool_setB (by omega)]
 refine Zn (Zt (Zs (Zr (ZA ?_))))
 refine Zn (Zt (Ze (ret1 (cs' := [row _ _ _]) (.inl rfl) Zu rfl rfl ?_)))
 exact ⟨rfl, rfl⟩
theorem held_ok (bp : Nat) (B ow pr : List Int) (hl : PoolLen B ow pr) (o : Nat) (ho : o < 4) (w : World) (hp : (poolC bp B ow pr).ok w) :
  Ctr Tryz.prog 71 [.pointer (some ⟨bp, 0, none⟩), .int .i64 o] w [] (fun v cs => ∃ A c, v = .slice A (heldTo ow o 256).length c ∧ cs = [sl .i64 3 A (heldTo ow o 256).length c (heldTo ow o 256)]) := by
 refine fn_ctr Tryz.func71 rfl Tryz.ntmps71 rfl (Inv.start w) ?_
 refine Zs (Zr (ZA ?_))
 refine Zn (Zt (Zs (Zr (ZA ?_))))
 refine Zn (Zt (Zs (Zs (Zr (ZA ?_)))))
 refine ZS (fun w hi => fis_ok o w) ?_
 rintro _ _ ⟨_, ⟨rfl, rfl⟩, rfl⟩
 rw [decide_eq_true (show (0 : Int) ≤ o by omega), decide_eq_true (show (o : Int) < 4 by omega)]
 refine ZA ?_
 refine Zn (Zt (wc_cond_f rfl (rfl) ?_))
 refine Zc (Zt (Zs (Zs (Zr (wl_nilc 3 1 ?_)))))
 refine ZA ?_
 refine Zn (Zt (Zx ?_))
 refine wc_loop (fun s : Nat × Option Addr × Nat => [(0, .pointer (some ⟨bp, 0, none⟩)), (1, .int .i64 o), (5, .slice s.2.1 (heldTo ow o s.1).length s.2.2), (11, .int .i64 s.1)]) (fun s => [sl .i64 3 s.2.1 (heldTo ow o s.1).length s.2.2 (heldTo ow o s.1)]) (fun s => s.1 ≤ 256) (fun s => 256 - s.1) ((0, none, 0)) ?_ ?_ ?_ ?_
 ·exact Nat.zero_le _
 ·exact Zwk
 ·((repeat (first | exact List.Sublist.slnil | refine List.Sublist.cons_cons _ ?_ | refine List.Sublist.cons _ ?_)))
 rintro ⟨k, A1, c1⟩ hk
 simp only at hk
 dsimp only
 refine Zs (Zr (ZA ?_))
 refine Zn (Zt (Zs ?_))
 refine wc_cond _ rfl (fun hc5 => ?_) (fun hc5 => ?_)
 ·simp only [decide_eq_true_eq] at hc5
  have hkl : k < ow.length := by (rw [hl.ow]; omega)
  have hok : ow[k]? = some (ow[k]'hkl) := List.getElem?_eq_getElem hkl
  have hle := heldTo_le ow o k
  refine Zc (Zt (Zs (Zx (Zs (Zr (ZA ?_))))))
  refine ZA ?_
  refine Zn (Zt (Zs (Zr (ZA ?_))))
  iterate 2 refine ZA ?_
  refine ZFa 16384 ?_
  refine Zy (y_indexA (j := k) (sz := 1) (r := 16384 + k) rfl (fun _ => rfl) (Zv rfl) (Zv rfl) (fun _ => by omega) (fun _ => by omega) (by omega)) ?_
  refine wl_y (y_load (fun _ => rfl) (Zv rfl)) (old_row hp (pool_ow hl hok)) rfl ?_
  iterate 2 refine ZA ?_
  refine Zn (Zt ?_)
  refine wc_cond _ rfl (fun hc7 => ?_) (fun hc7 => ?_)
  ·have he : heldTo ow o (k + 1) = heldTo ow o k ++ [(k : Int)] := by (rw [heldTo_succ, hok]; have h2 : ow[k]'hkl = (o : Int) := (by simpa using hc7); rw [h2]; simp)
   refine Zr (ZA ?_)
   refine ZA ?_
   refine wl_t (t_buildSl1 rfl rfl (fun _ => rfl) (fun _ => rfl) rfl rfl) rfl ?_
   rintro _ _ ⟨b24, rfl, rfl⟩
   refine wl_t (t_append (e := 3) (sz := 1) (bytes := 8) rfl rfl Za rfl rfl (fun w hi => hi.rd Zh) (allT rfl) (by simp only [maxLen]; omega) (by omega)) rfl ?_
   rintro _ _ ⟨A2, c2, rfl, rfl⟩
   rw [show (heldTo ow o k).length + 1 = (heldTo ow o (k + 1)).length by (rw [he]; simp), show ints .i64 (heldTo ow o k) ++ [Value.int .i64 (k : Int)] = ints .i64 (heldTo ow o (k + 1)) by (rw [he]; exact ints_append _ [_])]
   refine ZA ?_
   refine Zn (Zo (Zt (Zr (Zy (y_add (Zv rfl) (Zv rfl) Zl) ?_))))
   refine ZA ?_
   refine Zn ?_
   refine q_mid ((k + 1, A2, c2)) ?_ ?_ ?_
   ·exact ⟨by show k + 1 ≤ 256; omega, by show 256 - (k + 1) < 256 - k; omega⟩
   ·exact Zwk
   ((repeat (first | exact List.Sublist.slnil | refine List.Sublist.cons_cons _ ?_ | refine List.Sublist.cons _ ?_)))
  have he : heldTo ow o (k + 1) = heldTo ow o k := by (rw [heldTo_succ, hok, show (some (ow[k]'hkl) == some (o : Int)) = false from hc7]; simp)
  rw [← he]
  refine Zc (Zo (Zt (Zr (Zy (y_add (Zv rfl) (Zv rfl) Zl) ?_))))
  refine ZA ?_
  refine Zn ?_
  refine q_mid ((k + 1, A1, c1)) ?_ ?_ ?_
  ·exact ⟨by show k + 1 ≤ 256; omega, by show 256 - (k + 1) < 256 - k; omega⟩
  ·exact Zwk
  ((repeat (first | exact List.Sublist.slnil | refine List.Sublist.cons_cons _ ?_ | refine List.Sublist.cons _ ?_)))
 simp only [decide_eq_false_iff_not] at hc5
 obtain rfl : k = 256 := by omega
 refine wc_exit ?_
 refine q_then_exit ?_
 refine q_then_exit ?_
 refine q_block_same rfl ?_
 refine Zt (Zs (Zr (ZA ?_)))
 refine ZA ?_
 refine Zn (Zt (Ze (ret1 (cs' := [slv _ _ _ _ _ _]) (.inl rfl) Zu rfl rfl ?_)))
 exact ⟨_, _, rfl, rfl⟩
/-- A first frame that nobody holds is given: its bytes are 0. -/
theorem take_ok (bp : Nat) (B ow pr : List Int) (hl : PoolLen B ow pr) (o : Nat) (ho : o < 4) (n : Int) (hn : pr[o]? = some n) (hlt : ((heldTo ow o 256).length : Int) < n) (f0 : Nat) (h16 : 16 ≤ f0) (h256 : f0 < 256) (hf0 : ow[f0]? = some (-1)) (w : World) (hi : Inv w (blocks [poolC bp B ow pr]) [poolC bp B ow pr] w) :
  Ctr Tryz.prog 93 [.pointer (some ⟨bp, 0, none⟩), .int .i64 o] w [poolC bp B ow pr] (fun v cs => ∃ f : Nat, 16 ≤ f ∧ f < 256 ∧ ow[f]? = some (-1) ∧ v = .tuple #[.int .i64 f, .int .i64 0] ∧ cs = [poolC bp (zeroFrame B f) (ow.set f o) pr]) := by
 have hb := hl.b
 have how := hl.ow
 refine fn_ctr Tryz.func93 rfl Tryz.ntmps93 rfl hi ?_
 refine Zs (Zr (ZA ?_))
 refine ZA ?_
 refine Zn (Zt (Zs (Zx (Zs (Zr (ZA ?_))))))
 refine ZS (fun w hi => fis_ok o w) ?_
 rintro _ _ ⟨_, ⟨rfl, rfl⟩, rfl⟩
 rw [decide_eq_true (show (0 : Int) ≤ o by omega), decide_eq_true (show (o : Int) < 4 by omega)]
 iterate 2 refine ZA ?_
 refine Zn (Zt (wc_cond_f rfl (rfl) ?_))
 refine Zs (wc_draw ⟨fun j => List.elem j [], []⟩ Zk ?_)
 refine ZE 0 ?_
 refine ZE 1 ?_
 refine ZE 4 ?_
 refine ZE 5 ?_
 refine ZE 6 ?_
 refine ZFe 7 16640 ?_
 refine wa_yn 8 rfl Zk Zk Zk (y_indexA (j := o) (sz := 1) (r := 16640 + o) rfl (fun _ => rfl) (Zv rfl) (Zv rfl) (fun _ => by omega) (fun _ => by omega) (by omega)) rfl ?_
 refine wa_ln 9 rfl Zk Zk Zk Zk (y_load (fun _ => rfl) (Zv rfl)) (row_cell Zh (pool_pr hl hn)) rfl ?_
 refine wa_1 2 Zk ?_
 refine ZT (fun w hi => held_ok bp B ow pr hl o ho w (hi.get Zh)) ?_
 rintro _ _ ⟨_, ⟨A1, c1, rfl, rfl⟩, rfl⟩
 refine ZE 3 ?_
 refine ZE 10 ?_
 refine ZE 11 ?_
 refine wa_done Zk ?_
 refine Zt (wc_cond_f rfl ((decide_eq_false (by omega))) ?_)
 refine Zc (Zo (Zt (Zs (Zs (Zr (ZA ?_))))))
 refine Zn (Zt (Zx ?_))
 refine wc_loop (fun k : Nat => [(0, .pointer (some ⟨bp, 0, none⟩)), (1, .int .i64 o), (6, .int .i64 (k : Int))]) (fun _ => [poolC bp B ow pr]) (fun k => 16 ≤ k ∧ k ≤ f0) (fun k => f0 - k) (16) ?_ ?_ ?_ ?_
 ·exact ⟨by omega, h16⟩
 ·exact Zwk
 ·((repeat (first | exact List.Sublist.slnil | refine List.Sublist.cons_cons _ ?_ | refine List.Sublist.cons _ ?_)))
 rintro k ⟨hk1, hk2⟩
 refine Zs (Zs (Zr (ZA ?_)))
 refine ZA ?_
 refine Zn (Zt ?_)
 refine wc_cond _ rfl (fun hc6 => ?_) (fun hc6 => ?_)
 ·have hkl : k < ow.length := by omega
  have hok : ow[k]? = some (ow[k]'hkl) := List.getElem?_eq_getElem hkl
  refine Zc (Zt (Zs (Zx (Zs (Zr (ZA ?_))))))
  iterate 2 refine ZA ?_
  refine ZFa 16384 ?_
  refine Zy (y_indexA (j := k) (sz := 1) (r := 16384 + k) rfl (fun _ => rfl) (Zv rfl) (Zv rfl) (fun _ => by omega) (fun _ => by omega) (by omega)) ?_
  refine wl_y (y_load (fun _ => rfl) (Zv rfl)) (row_cell Zh (pool_ow hl hok)) rfl ?_
  refine ZA ?_
  refine Zn (Zt ?_)
  refine wc_cond _ rfl (fun hc8 => ?_) (fun hc8 => ?_)
  ·have h2 : ow[k]'hkl = -1 := (by simpa using hc8)
   rw [h2] at hok
   refine Zs (Zr (ZA ?_))
   iterate 3 refine ZA ?_
   refine ZFa 16384 ?_
   refine Zy (y_indexA (j := k) (sz := 1) (r := 16384 + k) rfl (fun _ => rfl) (Zv rfl) (Zv rfl) (fun _ => by omega) (fun _ => by omega) (by omega)) ?_
   refine wl_t0 (t_storeR (fun _ => rfl) rfl rfl rfl Za (by rw [poolCells_len hl]; omega)) ?_
   rintro _ _ ⟨rfl, rfl⟩
   rw [pool_setow hl (show k < 256 by omega)]
   have hl' : PoolLen B (ow.set k o) pr := ⟨hl.b, by rw [List.length_set]; exact hl.ow, hl.pr⟩
   refine Zn (Zt (Zs (Zr (ZA ?_))))
   refine ZA ?_
   refine Zy (y_build00 (vs := List.replicate 64 (Value.int .u8 0)) Zk (.inr ⟨_, _, _, rfl, fun _ => rfl⟩)) ?_
   refine ZA ?_
   refine ZFa 0 ?_
   refine Zy (y_indexA (j := k) (sz := 64) (r := k * 64) rfl (fun _ => rfl) (Zv rfl) (Zv rfl) (fun _ => by omega) (fun _ => by omega) (by omega)) ?_
   refine wl_t0 (t_storeRN (n := 64) (fun _ => rfl) rfl rfl (fun u hu => by rw [List.eq_of_mem_replicate hu]; rfl) Za (List.length_replicate) (by rw [poolCells_len hl', List.length_replicate]; omega)) ?_
   rintro _ _ ⟨rfl, rfl⟩
   rw [List.length_replicate, pool_zero hl' (show k < 256 by omega)]
   refine Zn (Zt (Zs (Zr (ZA ?_))))
   iterate 2 refine ZA ?_
   refine Zn (Zt (Ze (Zq (Zw (Zw (Zq (Zw (ret2 (cs' := [row _ _ _]) (.inl rfl) Zu rfl rfl rfl ?_))))))))
   exact ⟨k, hk1, by omega, hok, rfl, rfl⟩
  have h2 : ow[k]'hkl ≠ -1 := (by simpa using hc8)
  have hne : k ≠ f0 := by (rintro rfl; rw [hok] at hf0; exact h2 (Option.some.inj hf0))
  refine Zc (Zo (Zt (Zr (ZA ?_))))
  refine Zy (y_add (Zv rfl) (Zv rfl) Zl) ?_
  refine ZA ?_
  refine Zn ?_
  refine q_mid (k + 1) ?_ ?_ ?_
  ·exact ⟨⟨by omega, by omega⟩, by omega⟩
  ·exact Zwk
  ((repeat (first | exact List.Sublist.slnil | refine List.Sublist.cons_cons _ ?_ | refine List.Sublist.cons _ ?_)))
 exfalso; simp only [decide_eq_false_iff_not] at hc6; omega
end Go.Proofs.YtmhpcgmjlpfheaaGreatDoor
/- A new pool, a promise, a new table. -/
set_option linter.unusedSimpArgs false
set_option linter.unusedVariables false
set_option maxRecDepth 100000
namespace Go.Ink
open Go.RowKit
theorem rep_set {α : Type} {n k : Nat} (a b : α) (h : k < n) : (List.replicate k a ++ List.replicate (n - k) b).set k a = List.replicate (k + 1) a ++ List.replicate (n - (k + 1)) b := by
 rw [List.set_append_right _ _ (by simp), List.length_replicate, Nat.sub_self, show n - k = (n - (k + 1)) + 1 by omega, List.replicate_succ, List.set_cons_zero, List.replicate_succ', List.append_assoc]
 rfl
theorem rep_all {α : Type} (n : Nat) (a b : α) : List.replicate n a ++ List.replicate (n - n) b = List.replicate n a := by simp
theorem rep_none {α : Type} (n : Nat) (a b : α) : List.replicate 0 a ++ List.replicate (n - 0) b = List.replicate n b := by simp
theorem rep_int (k : IntKind) (n : Nat) (a : Int) : List.replicate n (Value.int k a) = ints k (List.replicate n a) := by simp [ints]
theorem rep_bool (n : Nat) (a : Bool) : List.replicate n (Value.bool a) = bools (List.replicate n a) := by simp [bools]
theorem pool_prs {B ow pr : List Int} (hl : PoolLen B ow pr) : ((poolCells B ow pr).drop 16640).take (ints .i64 pr).length = ints .i64 pr := by
 unfold poolCells
 rw [← List.append_assoc, List.drop_append, List.drop_eq_nil_of_le (by simp [ints_length, hl.b, hl.ow]), List.nil_append, show 16640 - (ints .u8 B ++ ints .i64 ow).length = 0 by simp [ints_length, hl.b, hl.ow], List.drop_zero, List.take_length]
/-- What the first owners are promised. -/
def sumTo (pr : List Int) (k : Nat) : Int := (pr.take k).foldl (fun s x => s + (if 0 > x then 0 else x)) 0
theorem sumTo_succ {pr : List Int} {k : Nat} (h : k < pr.length) : sumTo pr (k + 1) = sumTo pr k + (if 0 > pr[k]'h then 0 else pr[k]'h) := by
 unfold sumTo
 rw [List.take_succ_eq_append_getElem h, List.foldl_append]
 rfl
end Go.Ink
namespace Go.Proofs.YtmhpcgmjlpfheaaGreatDoor
open Go.RowKit Go.Ink
attribute [local irreducible] OpY GuardIs

theorem fnew_ok (w : World) : Ctr Tryz.prog 20 [] w [] (fun v cs => ∃ bp, v = .pointer (some ⟨bp, 0, none⟩) ∧ cs = [poolC bp (List.replicate 16384 0) (List.replicate 256 (-1)) (List.replicate 4 (-1))]) := by
 have hl1 : ∀ k, k ≤ 256 → PoolLen (List.replicate 16384 0) (List.replicate k (-1) ++ List.replicate (256 - k) 0) (List.replicate 4 0) := fun k hk => ⟨List.length_replicate, by simp; omega, rfl⟩
 have hl2 : ∀ k, k ≤ 4 → PoolLen (List.replicate 16384 0) (List.replicate 256 (-1)) (List.replicate k (-1) ++ List.replicate (4 - k) 0) := fun k hk => ⟨List.length_replicate, List.length_replicate, by simp; omega⟩
 refine fn_ctr Tryz.func20 rfl Tryz.ntmps20 rfl (Inv.start w) ?_
 refine Zs (Zr (ZA ?_))
 refine Zn (Zt (Zs (Zr (Zy (y_build00 (vs := poolCells (List.replicate 16384 0) (List.replicate 256 0) (List.replicate 4 0)) Zk (.inl ⟨_, rfl, rfl⟩)) ?_))))
 refine ZO fun b5 => ?_
 rw [← rep_none 256 (-1 : Int) 0]
 refine ZA ?_
 refine Zn (Zt (Zs (Zs (Zr (ZA ?_)))))
 refine Zn (Zt (Zx ?_))
 refine wc_loop (fun k : Nat => [(1, .pointer (some ⟨b5, 0, none⟩)), (6, .int .i64 (k : Int))]) (fun k => [poolC b5 (List.replicate 16384 0) (List.replicate k (-1) ++ List.replicate (256 - k) 0) (List.replicate 4 0)]) (fun k => k ≤ 256) (fun k => 256 - k) (0) ?_ ?_ ?_ ?_
 ·exact Nat.zero_le _
 ·exact Zwk
 ·((repeat (first | exact List.Sublist.slnil | refine List.Sublist.cons_cons _ ?_ | refine List.Sublist.cons _ ?_)))
 rintro k hk
 refine Zs (Zr (ZA ?_))
 refine Zn (Zt (Zs ?_))
 refine wc_cond _ rfl (fun hc3 => ?_) (fun hc3 => ?_)
 ·simp only [decide_eq_true_eq] at hc3
  refine Zc (Zt (Zs (Zx (Zs (Zr (ZA ?_))))))
  refine ZA ?_
  refine Zn (Zt (Zr (ZA ?_)))
  iterate 2 refine ZA ?_
  refine ZFa 16384 ?_
  refine Zy (y_indexA (j := k) (sz := 1) (r := 16384 + k) rfl (fun _ => rfl) (Zv rfl) (Zv rfl) (fun _ => by omega) (fun _ => by omega) (by omega)) ?_
  refine wl_t0 (t_storeR (fun _ => rfl) rfl rfl rfl Za (by rw [poolCells_len (hl1 k hk)]; omega)) ?_
  rintro _ _ ⟨rfl, rfl⟩
  rw [pool_setow (hl1 k hk) (by omega), rep_set _ _ (by omega)]
  refine Zn (Zo (Zt (Zr (Zy (y_add (Zv rfl) (Zv rfl) Zl) ?_))))
  refine ZA ?_
  refine Zn ?_
  refine q_mid (k + 1) ?_ ?_ ?_
  ·exact ⟨by omega, by omega⟩
  ·exact Zwk
  ((repeat (first | exact List.Sublist.slnil | refine List.Sublist.cons_cons _ ?_ | refine List.Sublist.cons _ ?_)))
 simp only [decide_eq_false_iff_not] at hc3
 obtain rfl : k = 256 := by omega
 refine wc_exit ?_
 refine q_then_exit ?_
 refine q_then_exit ?_
 refine q_block_same rfl ?_
 refine Zt (Zs (Zs (Zr ?_)))
 rw [rep_all, ← rep_none 4 (-1 : Int) 0]
 refine ZA ?_
 refine Zn (Zt (Zx ?_))
 refine wc_loop (fun k : Nat => [(1, .pointer (some ⟨b5, 0, none⟩)), (15, .int .i64 (k : Int))]) (fun k => [poolC b5 (List.replicate 16384 0) (List.replicate 256 (-1)) (List.replicate k (-1) ++ List.replicate (4 - k) 0)]) (fun k => k ≤ 4) (fun k => 4 - k) (0) ?_ ?_ ?_ ?_
 ·exact Nat.zero_le _
 ·exact Zwk
 ·((repeat (first | exact List.Sublist.slnil | refine List.Sublist.cons_cons _ ?_ | refine List.Sublist.cons _ ?_)))
 rintro k hk
 refine Zs (Zr (ZA ?_))
 refine Zn (Zt (Zs ?_))
 refine wc_cond _ rfl (fun hc8 => ?_) (fun hc8 => ?_)
 ·simp only [decide_eq_true_eq] at hc8
  refine Zc (Zt (Zs (Zx (Zs (Zr (ZA ?_))))))
  refine ZA ?_
  refine Zn (Zt (Zr (ZA ?_)))
  iterate 2 refine ZA ?_
  refine ZFa 16640 ?_
  refine Zy (y_indexA (j := k) (sz := 1) (r := 16640 + k) rfl (fun _ => rfl) (Zv rfl) (Zv rfl) (fun _ => by omega) (fun _ => by omega) (by omega)) ?_
  refine wl_t0 (t_storeR (fun _ => rfl) rfl rfl rfl Za (by rw [poolCells_len (hl2 k hk)]; omega)) ?_
  rintro _ _ ⟨rfl, rfl⟩
  rw [pool_setpr (hl2 k hk), rep_set _ _ (by omega)]
  refine Zn (Zo (Zt (Zr (Zy (y_add (Zv rfl) (Zv rfl) Zl) ?_))))
  refine ZA ?_
  refine Zn ?_
  refine q_mid (k + 1) ?_ ?_ ?_
  ·exact ⟨by omega, by omega⟩
  ·exact Zwk
  ((repeat (first | exact List.Sublist.slnil | refine List.Sublist.cons_cons _ ?_ | refine List.Sublist.cons _ ?_)))
 simp only [decide_eq_false_iff_not] at hc8
 obtain rfl : k = 4 := by omega
 refine wc_exit ?_
 refine q_then_exit ?_
 refine q_then_exit ?_
 refine q_block_same rfl ?_
 refine Zt (Zs (Zr ?_))
 rw [rep_all]
 iterate 2 refine ZA ?_
 refine Zn (Zt (Ze (ret1 (cs' := [row _ _ _]) (.inl rfl) Zu rfl rfl ?_)))
 exact ⟨_, rfl, rfl⟩
theorem promise_ok (bp : Nat) (B ow pr : List Int) (hl : PoolLen B ow pr) (o n : Nat) (ho : o < 4) (hn : n ≤ 64) (h1 : pr[o]? = some (-1)) (hs : (n : Int) + sumTo pr 4 ≤ 240) (hb : ∀ x, x ∈ pr → x ≤ 1000) (w : World) (hi : Inv w (blocks [poolC bp B ow pr]) [poolC bp B ow pr] w) :
  Ctr Tryz.prog 47 [.pointer (some ⟨bp, 0, none⟩), .int .i64 o, .int .i64 n] w [poolC bp B ow pr] (fun v cs => v = .int .i64 0 ∧ cs = [poolC bp B ow (pr.set o n)]) := by
 have hpl := hl.pr
 have hbd : ∀ k, k ≤ 4 → 0 ≤ sumTo pr k ∧ sumTo pr k ≤ 1000 * (k : Int) := by
  intro k
  induction k with
  | zero => intro _; exact ⟨by simp [sumTo], by simp [sumTo]⟩
  | succ k ih =>
   intro hk
   have h1 := ih (by omega)
   have hkl : k < pr.length := by omega
   have h2 := hb _ (List.getElem_mem hkl)
   rw [sumTo_succ hkl]
   split <;> omega
 refine fn_ctr Tryz.func47 rfl Tryz.ntmps47 rfl hi ?_
 refine Zs (Zr (ZA ?_))
 refine Zn (Zt (Zs (Zx (Zs (Zr (ZA ?_))))))
 refine ZS (fun w hi => fis_ok o w) ?_
 rintro _ _ ⟨_, ⟨rfl, rfl⟩, rfl⟩
 rw [decide_eq_true (show (0 : Int) ≤ o by omega), decide_eq_true (show (o : Int) < 4 by omega)]
 iterate 2 refine ZA ?_
 iterate 2 refine ZB ?_
 iterate 2 refine ZA ?_
 iterate 2 refine ZB ?_
 iterate 2 refine ZA ?_
 refine Zn (Zt (wc_cond_f rfl ((by rw [decide_eq_false (show ¬ (n : Int) < 0 by omega), decide_eq_false (show ¬ (64 : Int) < n by omega)]; rfl)) ?_))
 refine Zs (Zr (ZA ?_))
 iterate 2 refine ZA ?_
 refine ZFa 16640 ?_
 refine Zy (y_indexA (j := o) (sz := 1) (r := 16640 + o) rfl (fun _ => rfl) (Zv rfl) (Zv rfl) (fun _ => by omega) (fun _ => by omega) (by omega)) ?_
 refine wl_y (y_load (fun _ => rfl) (Zv rfl)) (row_cell Zh (pool_pr hl h1)) rfl ?_
 iterate 2 refine ZA ?_
 refine Zn (Zt (wc_cond_f rfl (rfl) ?_))
 refine Zc (Zo (Zt (Zs (Zr (ZA ?_)))))
 refine ZA ?_
 refine Zn (Zt (Zs (Zs (Zr ?_))))
 have e0 : sumTo pr 0 = 0 := rfl
 iterate 2 refine ZA ?_
 refine ZFa 16640 ?_
 refine wl_y (y_loadN (vs := ints .i64 pr) (fun _ => rfl) (fun w => by rw [ints_length, hpl]; rfl) (Zv rfl)) (row_cells (o := 16640) Zh (pool_prs hl)) rfl ?_
 refine ZA ?_
 refine Zn (Zt (Zx ?_))
 refine wc_loop (fun k : Nat => [(0, .pointer (some ⟨bp, 0, none⟩)), (1, .int .i64 o), (2, .int .i64 n), (7, .int .i64 (n + sumTo pr k)), (34, .agg (ints .i64 pr).toArray), (35, .int .i64 (k : Int))]) (fun _ => [poolC bp B ow pr]) (fun k => k ≤ 4) (fun k => 4 - k) (0) ?_ ?_ ?_ ?_
 ·exact Nat.zero_le _
 ·exact Zwk
 ·((repeat (first | exact List.Sublist.slnil | refine List.Sublist.cons_cons _ ?_ | refine List.Sublist.cons _ ?_)))
 rintro k hk
 refine Zs (Zr (ZA ?_))
 refine Zn (Zt (Zs ?_))
 refine wc_cond _ rfl (fun hc7 => ?_) (fun hc7 => ?_)
 ·simp only [decide_eq_true_eq] at hc7
  have hkl : k < pr.length := by omega
  have hbk := hbd k hk
  have hbk2 := hb _ (List.getElem_mem hkl)
  refine Zc (Zt (Zs (Zx (Zs (Zr (Zy (y_indexV (j := k) rfl (fun _ => rfl) (fun _ => rfl) (Zv rfl) (Zv rfl) (fun _ => by omega) (fun _ => by omega) (fun _ => ints_get hkl)) ?_))))))
  refine ZA ?_
  refine Zn (Zt (Zr (ZA ?_)))
  refine ZA ?_
  refine Zy (y_max (Zv rfl) (Zv rfl) rfl) ?_
  refine wl_y (y_add (ev_rfl rfl) (ev_rfl rfl) (show IntKind.i64.wrap _ = n + sumTo pr (k + 1) by rw [sumTo_succ hkl]; refine (IntWalk.i64_in _ ⟨?_, ?_⟩).trans (by omega) <;> split <;> omega)) (fun _ _ => trivial) rfl ?_
  refine ZA ?_
  refine Zn (Zo (Zt (Zr (Zy (y_add (Zv rfl) (Zv rfl) Zl) ?_))))
  refine ZA ?_
  refine Zn ?_
  refine q_mid (k + 1) ?_ ?_ ?_
  ·exact ⟨by omega, by omega⟩
  ·exact Zwk
  ((repeat (first | exact List.Sublist.slnil | refine List.Sublist.cons_cons _ ?_ | refine List.Sublist.cons _ ?_)))
 simp only [decide_eq_false_iff_not] at hc7
 obtain rfl : k = 4 := by omega
 refine wc_exit ?_
 refine q_then_exit ?_
 refine q_then_exit ?_
 refine q_block_same rfl ?_
 refine Zt (Zs (Zs (Zr (ZA ?_))))
 refine ZA ?_
 refine Zn (Zt (wc_cond_f rfl ((decide_eq_false (by omega))) ?_))
 refine Zc (Zt (Zs (Zr (ZA ?_))))
 iterate 3 refine ZA ?_
 refine ZFa 16640 ?_
 refine Zy (y_indexA (j := o) (sz := 1) (r := 16640 + o) rfl (fun _ => rfl) (Zv rfl) (Zv rfl) (fun _ => by omega) (fun _ => by omega) (by omega)) ?_
 refine wl_t0 (t_storeR (fun _ => rfl) rfl rfl rfl Za (by rw [poolCells_len hl]; omega)) ?_
 rintro _ _ ⟨rfl, rfl⟩
 rw [pool_setpr hl]
 refine Zn (Zt (Zs (Zr (ZA ?_))))
 refine Zn (Zt (Ze (ret1 (cs' := [row _ _ _]) (.inl rfl) Zu rfl rfl ?_)))
 exact ⟨rfl, rfl⟩
abbrev tabRow (bt bp : Nat) (o : Nat) (bf bg n : Nat) : Chunk := row bt [.pointer (some ⟨bp, 0, none⟩), .int .i64 o, .slice (some ⟨bf, 0, none⟩) n n, .slice (some ⟨bg, 0, none⟩) n n] 114
abbrev frC (bf n : Nat) (fr : List Int) : Chunk := sl .i64 3 (some ⟨bf, 0, none⟩) n n fr
abbrev gdC (bg n : Nat) (gd : List Bool) : Chunk := slv 4 1 (some ⟨bg, 0, none⟩) n n (bools gd)
theorem nnew_ok (bp : Nat) (B ow pr : List Int) (hl : PoolLen B ow pr) (o n : Nat) (ho : o < 4) (hn0 : 1 ≤ n) (hn : n ≤ 64) (h1 : pr[o]? = some (-1)) (hs : (n : Int) + sumTo pr 4 ≤ 240) (hb : ∀ x, x ∈ pr → x ≤ 1000) (w : World) (hi : Inv w (blocks [poolC bp B ow pr]) [poolC bp B ow pr] w) :
  Ctr Tryz.prog 29 [.pointer (some ⟨bp, 0, none⟩), .int .i64 o, .int .i64 n] w [poolC bp B ow pr] (fun v cs => ∃ bt bf bg, v = .tuple #[.pointer (some ⟨bt, 0, none⟩), .int .i64 0] ∧ cs = [poolC bp B ow (pr.set o n), tabRow bt bp o bf bg n, frC bf n (List.replicate n (-1)), gdC bg n (List.replicate n false)]) := by
 refine fn_ctr Tryz.func29 rfl Tryz.ntmps29 rfl hi ?_
 refine Zs (Zr (ZA ?_))
 refine ZA ?_
 refine Zn (Zt (Zs (Zs (Zr (ZA ?_)))))
 iterate 2 refine ZA ?_
 iterate 2 refine ZB ?_
 iterate 2 refine ZA ?_
 iterate 2 refine ZB ?_
 iterate 2 refine ZA ?_
 iterate 2 refine ZB ?_
 iterate 2 refine ZA ?_
 iterate 2 refine ZB ?_
 refine ZA ?_
 refine Zn (Zt (wc_cond_f rfl ((by rw [decide_eq_false (show ¬ (o : Int) < 0 by omega), decide_eq_false (show ¬ (4 : Int) ≤ o by omega), decide_eq_false (show ¬ (n : Int) < 1 by omega), decide_eq_false (show ¬ (64 : Int) < n by omega)]; rfl)) ?_))
 refine Zc (Zt (Zs (Zs (Zr (ZA ?_)))))
 iterate 2 refine ZA ?_
 refine wl_t (t_callS ([poolC bp B ow pr]) rfl (fun _ _ => rfl) Zi (fun w hi hin => promise_ok bp B ow pr hl o n ho hn h1 hs hb w hin)) rfl ?_
 rintro _ _ ⟨_, ⟨rfl, rfl⟩, rfl⟩
 refine ZA ?_
 refine Zn (Zt (Zs (Zr (ZA ?_))))
 refine ZA ?_
 refine Zn (Zt (wc_cond_f rfl (rfl) ?_))
 refine Zc (Zt (Zs (wc_draw ⟨fun j => List.elem j [], []⟩ Zk ?_)))
 refine ZE 0 ?_
 refine ZE 1 ?_
 refine ZE 2 ?_
 refine ZE 4 ?_
 refine wa_2 3 5 Zk ?_ ?_
 ·refine wi_t rfl rfl (t_make (bytes := 8) (n := n) rfl rfl rfl rfl rfl rfl rfl (by omega) (by simp only [maxLen]; omega)) (fun _ _ _ _ _ _ _ h => by cases h) rfl ?_
  rintro _ _ ⟨b39, rfl, rfl⟩
  refine wa_1 5 Zk ?_
  refine wi_t rfl rfl (t_make (bytes := 1) (n := n) rfl rfl rfl rfl rfl rfl rfl (by omega) (by simp only [maxLen]; omega)) (fun _ _ _ _ _ _ _ h => by cases h) rfl ?_
  rintro _ _ ⟨b41, rfl, rfl⟩
  refine ZE 6 ?_
  refine wa_1 7 Zk ?_
  refine wi_t rfl rfl (t_box rfl rfl) (fun _ _ _ _ _ _ _ h => by cases h) rfl ?_
  rintro _ _ ⟨b43, rfl, rfl⟩
  refine ZE 8 ?_
  refine wa_done Zk ?_
  refine Zt (Zs (Zs (Zr ?_)))
  rw [rep_int, rep_bool, ← rep_none n (-1 : Int) 0]
  refine wl_pick [poolC bp B ow (pr.set o n), tabRow b43 bp o b39 b41 n, frC b39 n (List.replicate 0 (-1) ++ List.replicate (n - 0) 0), gdC b41 n (List.replicate n false)] Zj ?_
  iterate 2 refine ZA ?_
  refine ZFa 2 ?_
  refine ZC ?_
  iterate 2 refine ZA ?_
  refine Zn (Zt (Zx ?_))
  refine wc_loop (fun k : Nat => [(9, .pointer (some ⟨b43, 0, none⟩)), (48, .int .i64 n), (49, .int .i64 (k : Int))]) (fun k => [poolC bp B ow (pr.set o n), tabRow b43 bp o b39 b41 n, frC b39 n (List.replicate k (-1) ++ List.replicate (n - k) 0), gdC b41 n (List.replicate n false)]) (fun k => k ≤ n) (fun k => n - k) (0) ?_ ?_ ?_ ?_
  ·exact Nat.zero_le _
  ·exact Zwk
  ·((repeat (first | exact List.Sublist.slnil | refine List.Sublist.cons_cons _ ?_ | refine List.Sublist.cons _ ?_)))
  rintro k hk
  refine Zs (Zr (ZA ?_))
  refine Zn (Zt (Zs ?_))
  refine wc_cond _ rfl (fun hc8 => ?_) (fun hc8 => ?_)
  ·simp only [decide_eq_true_eq] at hc8
   refine Zc (Zt (Zs (Zx (Zs (Zr (ZA ?_))))))
   refine ZA ?_
   refine Zn (Zt (Zr (ZA ?_)))
   refine ZA ?_
   refine ZFa 2 ?_
   refine ZC ?_
   refine ZA ?_
   refine Zy (y_indexR (j := k) (sz := 1) (r := k) rfl (fun _ => rfl) (Zv rfl) (Zv rfl) (fun _ => by omega) (fun _ => by omega) (by omega)) ?_
   refine wl_t0 (t_storeS (fun _ => rfl) rfl rfl rfl Za (by omega)) ?_
   rintro _ _ ⟨rfl, rfl⟩
   rw [ints_set', rep_set _ _ (by omega)]
   refine Zn (Zo (Zt (Zr (Zy (y_add (Zv rfl) (Zv rfl) Zl) ?_))))
   refine ZA ?_
   refine Zn ?_
   refine q_mid (k + 1) ?_ ?_ ?_
   ·exact ⟨by omega, by omega⟩
   ·exact Zwk
   ((repeat (first | exact List.Sublist.slnil | refine List.Sublist.cons_cons _ ?_ | refine List.Sublist.cons _ ?_)))
  simp only [decide_eq_false_iff_not] at hc8
  obtain rfl : k = n := by omega
  rw [rep_all]
  refine wc_exit ?_
  refine q_then_exit ?_
  refine q_then_exit ?_
  refine q_block_same rfl ?_
  refine Zt (Zs (Zr (ZA ?_)))
  iterate 2 refine ZA ?_
  refine Zn (Zt (Ze (ret2 (cs' := [row _ _ _, row _ _ _, slv _ _ _ _ _ _, slv _ _ _ _ _ _]) (.inl rfl) Zu rfl rfl rfl ?_)))
  exact ⟨_, _, _, rfl, rfl⟩
 refine wi_t rfl rfl (t_make (bytes := 1) (n := n) rfl rfl rfl rfl rfl rfl rfl (by omega) (by simp only [maxLen]; omega)) (fun _ _ _ _ _ _ _ h => by cases h) rfl ?_
 rintro _ _ ⟨b41, rfl, rfl⟩
 refine wa_1 3 Zk ?_
 refine wi_t rfl rfl (t_make (bytes := 8) (n := n) rfl rfl rfl rfl rfl rfl rfl (by omega) (by simp only [maxLen]; omega)) (fun _ _ _ _ _ _ _ h => by cases h) rfl ?_
 rintro _ _ ⟨b39, rfl, rfl⟩
 refine ZE 6 ?_
 refine wa_1 7 Zk ?_
 refine wi_t rfl rfl (t_box rfl rfl) (fun _ _ _ _ _ _ _ h => by cases h) rfl ?_
 rintro _ _ ⟨b43, rfl, rfl⟩
 refine ZE 8 ?_
 refine wa_done Zk ?_
 refine Zt (Zs (Zs (Zr ?_)))
 rw [rep_int, rep_bool, ← rep_none n (-1 : Int) 0]
 refine wl_pick [poolC bp B ow (pr.set o n), tabRow b43 bp o b39 b41 n, frC b39 n (List.replicate 0 (-1) ++ List.replicate (n - 0) 0), gdC b41 n (List.replicate n false)] Zj ?_
 iterate 2 refine ZA ?_
 refine ZFa 2 ?_
 refine ZC ?_
 iterate 2 refine ZA ?_
 refine Zn (Zt (Zx ?_))
 refine wc_loop (fun k : Nat => [(9, .pointer (some ⟨b43, 0, none⟩)), (48, .int .i64 n), (49, .int .i64 (k : Int))]) (fun k => [poolC bp B ow (pr.set o n), tabRow b43 bp o b39 b41 n, frC b39 n (List.replicate k (-1) ++ List.replicate (n - k) 0), gdC b41 n (List.replicate n false)]) (fun k => k ≤ n) (fun k => n - k) (0) ?_ ?_ ?_ ?_
 ·exact Nat.zero_le _
 ·exact Zwk
 ·((repeat (first | exact List.Sublist.slnil | refine List.Sublist.cons_cons _ ?_ | refine List.Sublist.cons _ ?_)))
 rintro k hk
 refine Zs (Zr (ZA ?_))
 refine Zn (Zt (Zs ?_))
 refine wc_cond _ rfl (fun hc8 => ?_) (fun hc8 => ?_)
 ·simp only [decide_eq_true_eq] at hc8
  refine Zc (Zt (Zs (Zx (Zs (Zr (ZA ?_))))))
  refine ZA ?_
  refine Zn (Zt (Zr (ZA ?_)))
  refine ZA ?_
  refine ZFa 2 ?_
  refine ZC ?_
  refine ZA ?_
  refine Zy (y_indexR (j := k) (sz := 1) (r := k) rfl (fun _ => rfl) (Zv rfl) (Zv rfl) (fun _ => by omega) (fun _ => by omega) (by omega)) ?_
  refine wl_t0 (t_storeS (fun _ => rfl) rfl rfl rfl Za (by omega)) ?_
  rintro _ _ ⟨rfl, rfl⟩
  rw [ints_set', rep_set _ _ (by omega)]
  refine Zn (Zo (Zt (Zr (Zy (y_add (Zv rfl) (Zv rfl) Zl) ?_))))
  refine ZA ?_
  refine Zn ?_
  refine q_mid (k + 1) ?_ ?_ ?_
  ·exact ⟨by omega, by omega⟩
  ·exact Zwk
  ((repeat (first | exact List.Sublist.slnil | refine List.Sublist.cons_cons _ ?_ | refine List.Sublist.cons _ ?_)))
 simp only [decide_eq_false_iff_not] at hc8
 obtain rfl : k = n := by omega
 rw [rep_all]
 refine wc_exit ?_
 refine q_then_exit ?_
 refine q_then_exit ?_
 refine q_block_same rfl ?_
 refine Zt (Zs (Zr (ZA ?_)))
 iterate 2 refine ZA ?_
 refine Zn (Zt (Ze (ret2 (cs' := [row _ _ _, row _ _ _, slv _ _ _ _ _ _, slv _ _ _ _ _ _]) (.inl rfl) Zu rfl rfl rfl ?_)))
 exact ⟨_, _, _, rfl, rfl⟩
end Go.Proofs.YtmhpcgmjlpfheaaGreatDoor
/- A guest's memory: what the frames, the table and the memory's own row come to. No program in sight. -/
set_option linter.unusedSimpArgs false
set_option linter.unusedVariables false
set_option maxRecDepth 100000
namespace Go.Ink
open Go.RowKit
/-- Where a memory's parts lie; whose it is, and of how many pages. -/
structure MLoc where
 bp : Nat
 bt : Nat
 bf : Nat
 bg : Nat
 bm : Nat
 o : Nat
 n : Nat
/-- Bytes, and which pages were written. -/
structure Mem where
 data : List Int
 turned : List Bool
structure MemK where
 B : List Int
 ow : List Int
 pr : List Int
 fr : List Int
 gd : List Bool
structure MemRep (L : MLoc) (M : Mem) (k : MemK) : Prop where
 pl : PoolLen k.B k.ow k.pr
 o4 : L.o < 4
 n1 : 1 ≤ L.n
 n64 : L.n ≤ 64
 fr : k.fr.length = L.n
 gd : k.gd.length = L.n
 dl : M.data.length = L.n * 64
 tl : M.turned.length = 64
 db : u8s M.data
 page : ∀ p, p < L.n → (k.fr[p]? = some (-1) ∧ ∀ j, j < 64 → M.data[p * 64 + j]? = some 0) ∨ (∃ f : Nat, k.fr[p]? = some (f : Int) ∧ 16 ≤ f ∧ f < 256 ∧ k.ow[f]? = some (L.o : Int) ∧ ∀ j, j < 64 → k.B[f * 64 + j]? = M.data[p * 64 + j]?)
 inj : ∀ p q f : Nat, k.fr[p]? = some (f : Int) → k.fr[q]? = some (f : Int) → p = q
 held : ∀ f : Nat, f < 256 → k.ow[f]? = some (-1) ∨ (k.ow[f]? = some (L.o : Int) ∧ ∃ p : Nat, k.fr[p]? = some (f : Int))
 prom : k.pr[L.o]? = some (L.n : Int)
def Mem.put (M : Mem) (a : Nat) (b : Int) : Mem := ⟨M.data.set a b, M.turned.set (a / 64) true⟩
def Mem.calm (M : Mem) : Mem := ⟨M.data, List.replicate 64 false⟩

theorem nodup_len : ∀ (n : Nat) (l : List Nat), l.Nodup → (∀ x, x ∈ l → x < n) → l.length ≤ n
 | 0, l, _, h => by
  cases l with
  | nil => simp
  | cons x l => have := h x (by simp); omega
 | n + 1, l, hn, h => by
  by_cases hm : n ∈ l
  ·have h1 := nodup_len n (l.erase n) (hn.erase n) (fun x hx => by
    have h2 := (hn.mem_erase_iff).1 hx
    have h3 := h x h2.2
    have := h2.1
    omega)
   rw [List.length_erase_of_mem hm] at h1
   omega
  have h1 := nodup_len n l hn (fun x hx => by
   have h3 := h x hx
   have : x ≠ n := fun e => hm (e ▸ hx)
   omega)
  omega
section
variable {L : MLoc} {M : Mem} {k : MemK}
/-- A frame's page. -/
theorem idx_of {l : List Int} {f : Int} (h : f ∈ l) : l[l.idxOf f]? = some f := by
 have hlt : l.idxOf f < l.length := List.idxOf_lt_length_of_mem h
 rw [List.getElem?_eq_getElem hlt, List.getElem_idxOf]
theorem idx_nodup {l : List Int} : ∀ {fs : List Nat}, fs.Nodup → (∀ f, f ∈ fs → ((f : Nat) : Int) ∈ l) → (fs.map fun f : Nat => l.idxOf (f : Int)).Nodup
 | [], _, _ => by simp
 | f :: fs, hn, h => by
  simp only [List.map_cons, List.nodup_cons] at hn ⊢
  refine ⟨fun hm => ?_, idx_nodup hn.2 (fun g hg => h g (by simp [hg]))⟩
  obtain ⟨g, hg, he⟩ := List.mem_map.1 hm
  have h1 := idx_of (h g (by simp [hg]))
  have h2 := idx_of (h f (by simp))
  rw [he, h2] at h1
  have : f = g := by have := Option.some.inj h1; omega
  exact hn.1 (this ▸ hg)
theorem mem_fr {l : List Int} {p : Nat} {v : Int} (h : l[p]? = some v) : v ∈ l := List.mem_of_getElem? h
/-- While a page has no frame fewer frames are held than there are pages. -/
theorem MemRep.heldLt (h : MemRep L M k) {p : Nat} (hp : k.fr[p]? = some (-1)) : (heldTo k.ow L.o 256).length < L.n := by
 unfold heldTo
 rw [List.length_map]
 obtain ⟨fs, hfs⟩ : ∃ fs, (List.range 256).filter (fun f => k.ow[f]? == some (L.o : Int)) = fs := ⟨_, rfl⟩
 rw [hfs]
 have hmem : ∀ f, f ∈ fs → ((f : Nat) : Int) ∈ k.fr := fun f hf => by
  rw [← hfs, List.mem_filter, List.mem_range] at hf
  rcases h.held f hf.1 with h1 | ⟨_, q, hq⟩
  ·rw [h1] at hf
   have := hf.2
   simp at this
  exact mem_fr hq
 have hnd : fs.Nodup := by rw [← hfs]; exact List.filter_sublist.nodup List.nodup_range
 have h1 := idx_nodup hnd hmem
 have hpl : p < L.n := by have := (List.getElem?_eq_some_iff.1 hp).1; rw [h.fr] at this; exact this
 have h2 := nodup_len L.n (p :: fs.map fun f : Nat => k.fr.idxOf (f : Int)) (List.nodup_cons.2 ⟨fun hm => by
  obtain ⟨f, hf, he⟩ := List.mem_map.1 hm
  have := idx_of (hmem f hf)
  rw [he, hp] at this
  have := Option.some.inj this
  omega, h1⟩) (fun x hx => by
  rcases List.mem_cons.1 hx with rfl | hx
  ·exact hpl
  obtain ⟨f, hf, rfl⟩ := List.mem_map.1 hx
  have := List.idxOf_lt_length_of_mem (hmem f hf)
  rw [h.fr] at this
  exact this)
 simp only [List.length_cons, List.length_map] at h2
 omega
/-- There is a frame that nobody holds. -/
theorem MemRep.free (h : MemRep L M k) : ∃ f, 16 ≤ f ∧ f < 256 ∧ k.ow[f]? = some (-1) := by
 apply Classical.byContradiction
 intro hno
 have hmem : ∀ f, f ∈ List.range' 16 240 → ((f : Nat) : Int) ∈ k.fr := fun f hf => by
  rw [List.mem_range'_1] at hf
  rcases h.held f (by omega) with h1 | ⟨_, q, hq⟩
  ·exact absurd ⟨f, hf.1, by omega, h1⟩ hno
  exact mem_fr hq
 have h1 := idx_nodup (List.nodup_range' (s := 16) (n := 240)) hmem
 have h2 := nodup_len L.n _ h1 (fun x hx => by
  obtain ⟨f, hf, rfl⟩ := List.mem_map.1 hx
  have := List.idxOf_lt_length_of_mem (hmem f hf)
  rw [h.fr] at this
  exact this)
 rw [List.length_map, List.length_range'] at h2
 have := h.n64
 omega
theorem MemRep.at_ (h : MemRep L M k) {a : Nat} (ha : a < L.n * 64) : ∃ b, M.data[a]? = some b ∧ 0 ≤ b ∧ b ≤ 255 := by
 have hl : a < M.data.length := by rw [h.dl]; exact ha
 refine ⟨M.data[a], List.getElem?_eq_getElem hl, h.db _ (List.getElem_mem hl)⟩
/-- A byte of a page that has a frame. -/
theorem MemRep.putF (h : MemRep L M k) {p j f : Nat} {b : Int} (hj : j < 64) (hb : 0 ≤ b ∧ b ≤ 255) (hf : k.fr[p]? = some (f : Int)) : MemRep L (M.put (p * 64 + j) b) { k with B := k.B.set (f * 64 + j) b } := by
 have hpl : p < L.n := by have := (List.getElem?_eq_some_iff.1 hf).1; rw [h.fr] at this; exact this
 have hBl := h.pl.b
 have hf256 : f < 256 := by
  rcases h.page p hpl with ⟨h1, _⟩ | ⟨f', h1, h2, h3, _⟩
  ·rw [hf] at h1; have := Option.some.inj h1; omega
  rw [hf] at h1; have := Option.some.inj h1; omega
 refine ⟨⟨by rw [List.length_set]; exact h.pl.b, h.pl.ow, h.pl.pr⟩, h.o4, h.n1, h.n64, h.fr, h.gd, by show (M.data.set _ _).length = _; rw [List.length_set]; exact h.dl, by show (M.turned.set _ _).length = _; rw [List.length_set]; exact h.tl, ?_, ?_, h.inj, h.held, h.prom⟩
 ·intro x hx
  rcases List.mem_or_eq_of_mem_set hx with h1 | h1
  ·exact h.db x h1
  rw [h1]; exact hb
 intro q hq
 show (k.fr[q]? = some (-1) ∧ ∀ i, i < 64 → (M.data.set (p * 64 + j) b)[q * 64 + i]? = some 0) ∨ (∃ g : Nat, k.fr[q]? = some (g : Int) ∧ 16 ≤ g ∧ g < 256 ∧ k.ow[g]? = some (L.o : Int) ∧ ∀ i, i < 64 → (k.B.set (f * 64 + j) b)[g * 64 + i]? = (M.data.set (p * 64 + j) b)[q * 64 + i]?)
 rcases h.page q hq with ⟨h1, h2⟩ | ⟨g, h1, h2, h3, h4, h5⟩
 ·left
  have hne : q ≠ p := by rintro rfl; rw [hf] at h1; have := Option.some.inj h1; omega
  refine ⟨h1, fun i hi => ?_⟩
  rw [List.getElem?_set_ne (by omega)]
  exact h2 i hi
 right
 refine ⟨g, h1, h2, h3, h4, fun i hi => ?_⟩
 by_cases hqp : q = p
 ·subst hqp
  have hg : g = f := by rw [hf] at h1; have := Option.some.inj h1; omega
  subst hg
  rw [List.getElem?_set, List.getElem?_set]
  by_cases hij : j = i
  ·subst hij
   have hdl := h.dl
   rw [if_pos rfl, if_pos rfl, if_pos (by omega), if_pos (by rw [hdl]; omega)]
  rw [if_neg (by omega), if_neg (by omega)]
  exact h5 i hi
 have hgf : g ≠ f := by
  rintro rfl
  exact hqp (h.inj q p g h1 hf)
 rw [List.getElem?_set_ne (by omega), List.getElem?_set_ne (by omega)]
 exact h5 i hi
/-- A page without a frame is given one. -/
theorem MemRep.map (h : MemRep L M k) {p f : Nat} (hp : p < L.n) (hf : k.fr[p]? = some (-1)) (h16 : 16 ≤ f) (h256 : f < 256) (hw : k.ow[f]? = some (-1)) : MemRep L M { k with B := zeroFrame k.B f, ow := k.ow.set f L.o, fr := k.fr.set p f } := by
 have hBl := h.pl.b
 have howl := h.pl.ow
 have hfl := h.fr
 have hnof : ∀ q : Nat, k.fr[q]? ≠ some (f : Int) := fun q hq => by
  have hql : q < L.n := by have := (List.getElem?_eq_some_iff.1 hq).1; rw [h.fr] at this; exact this
  rcases h.page q hql with ⟨h1, _⟩ | ⟨g, h1, _, _, h4, _⟩
  ·rw [hq] at h1; have := Option.some.inj h1; omega
  rw [hq] at h1
  have : g = f := by have := Option.some.inj h1; omega
  subst this
  rw [hw] at h4
  have := Option.some.inj h4
  omega
 have hz : ∀ j, j < 64 → M.data[p * 64 + j]? = some 0 := by
  rcases h.page p hp with ⟨_, h2⟩ | ⟨g, h1, _⟩
  ·exact h2
  rw [hf] at h1; have := Option.some.inj h1; omega
 refine ⟨⟨zeroFrame_len hBl h256, by rw [List.length_set]; exact h.pl.ow, h.pl.pr⟩, h.o4, h.n1, h.n64, by show (k.fr.set _ _).length = _; rw [List.length_set]; exact h.fr, h.gd, h.dl, h.tl, h.db, ?_, ?_, ?_, h.prom⟩
 ·intro q hq
  show ((k.fr.set p (f : Int))[q]? = some (-1) ∧ ∀ i, i < 64 → M.data[q * 64 + i]? = some 0) ∨ (∃ g : Nat, (k.fr.set p (f : Int))[q]? = some (g : Int) ∧ 16 ≤ g ∧ g < 256 ∧ (k.ow.set f (L.o : Int))[g]? = some (L.o : Int) ∧ ∀ i, i < 64 → (zeroFrame k.B f)[g * 64 + i]? = M.data[q * 64 + i]?)
  by_cases hqp : q = p
  ·subst hqp
   right
   refine ⟨f, by rw [List.getElem?_set, if_pos rfl, if_pos (by omega)], h16, h256, by rw [List.getElem?_set, if_pos rfl, if_pos (by omega)], fun i hi => ?_⟩
   rw [zeroFrame_in hBl h256 hi, hz i hi]
  rw [List.getElem?_set_ne (by omega)]
  rcases h.page q hq with h1 | ⟨g, h1, h2, h3, h4, h5⟩
  ·exact .inl h1
  right
  have hgf : g ≠ f := by rintro rfl; exact hnof q h1
  refine ⟨g, h1, h2, h3, by rw [List.getElem?_set_ne (by omega)]; exact h4, fun i hi => ?_⟩
  rw [zeroFrame_out hBl h256 (by omega)]
  exact h5 i hi
 ·intro a b g ha hb
  show a = b
  change (k.fr.set p (f : Int))[a]? = _ at ha
  change (k.fr.set p (f : Int))[b]? = _ at hb
  by_cases hap : a = p
  ·by_cases hbp : b = p
   ·omega
   subst hap
   rw [List.getElem?_set, if_pos rfl, if_pos (by omega)] at ha
   rw [List.getElem?_set_ne (by omega)] at hb
   have : f = g := by have := Option.some.inj ha; omega
   subst this
   exact absurd hb (hnof b)
  by_cases hbp : b = p
  ·subst hbp
   rw [List.getElem?_set, if_pos rfl, if_pos (by omega)] at hb
   rw [List.getElem?_set_ne (by omega)] at ha
   have : f = g := by have := Option.some.inj hb; omega
   subst this
   exact absurd ha (hnof a)
  rw [List.getElem?_set_ne (by omega)] at ha hb
  exact h.inj a b g ha hb
 intro g hg
 show (k.ow.set f (L.o : Int))[g]? = some (-1) ∨ ((k.ow.set f (L.o : Int))[g]? = some (L.o : Int) ∧ ∃ q : Nat, (k.fr.set p (f : Int))[q]? = some (g : Int))
 by_cases hgf : g = f
 ·subst hgf
  right
  exact ⟨by rw [List.getElem?_set, if_pos rfl, if_pos (by omega)], p, by rw [List.getElem?_set, if_pos rfl, if_pos (by omega)]⟩
 rw [List.getElem?_set_ne (by omega)]
 rcases h.held g hg with h1 | ⟨h1, q, hq⟩
 ·exact .inl h1
 right
 refine ⟨h1, q, ?_⟩
 have : q ≠ p := by rintro rfl; rw [hf] at hq; have := Option.some.inj hq; omega
 rw [List.getElem?_set_ne (by omega)]
 exact hq
/-- A 0 is put into a page without a frame. -/
theorem MemRep.put0 (h : MemRep L M k) {p j : Nat} (hj : j < 64) (hp : p < L.n) (hf : k.fr[p]? = some (-1)) : MemRep L (M.put (p * 64 + j) 0) k := by
 have hz : M.data[p * 64 + j]? = some 0 := by
  rcases h.page p hp with ⟨_, h2⟩ | ⟨g, h1, _⟩
  ·exact h2 j hj
  rw [hf] at h1; have := Option.some.inj h1; omega
 have e : M.data.set (p * 64 + j) 0 = M.data := by
  apply List.ext_getElem?
  intro i
  rw [List.getElem?_set]
  split
  ·rename_i hi; subst hi
   have := (List.getElem?_eq_some_iff.1 hz).1
   rw [if_pos this, hz]
  rfl
 unfold Mem.put
 rw [e]
 exact ⟨h.pl, h.o4, h.n1, h.n64, h.fr, h.gd, h.dl, by show (M.turned.set _ _).length = _; rw [List.length_set]; exact h.tl, h.db, h.page, h.inj, h.held, h.prom⟩
theorem MemRep.calm (h : MemRep L M k) : MemRep L M.calm k := ⟨h.pl, h.o4, h.n1, h.n64, h.fr, h.gd, h.dl, List.length_replicate, h.db, h.page, h.inj, h.held, h.prom⟩
end
/-- A new memory. -/
def Mem.new (n : Nat) : Mem := ⟨List.replicate (n * 64) 0, List.replicate 64 false⟩
theorem MemRep.new {L : MLoc} (ho : L.o < 4) (h1 : 1 ≤ L.n) (h64 : L.n ≤ 64) : MemRep L (Mem.new L.n) ⟨List.replicate 16384 0, List.replicate 256 (-1), (List.replicate 4 (-1)).set L.o L.n, List.replicate L.n (-1), List.replicate L.n false⟩ := by
 refine ⟨⟨List.length_replicate, List.length_replicate, by rw [List.length_set]; rfl⟩, ho, h1, h64, List.length_replicate, List.length_replicate, List.length_replicate, List.length_replicate, ?_, ?_, ?_, ?_, ?_⟩
 ·intro x hx
  have := List.eq_of_mem_replicate hx
  omega
 ·intro p hp
  left
  refine ⟨by rw [List.getElem?_replicate, if_pos hp], fun j hj => ?_⟩
  show (List.replicate (L.n * 64) (0 : Int))[p * 64 + j]? = _
  rw [List.getElem?_replicate, if_pos (by omega)]
 ·intro p q f hp
  change (List.replicate L.n (-1 : Int))[p]? = _ at hp
  rw [List.getElem?_replicate] at hp
  split at hp
  ·have := Option.some.inj hp; omega
  cases hp
 ·intro f hf
  left
  show (List.replicate 256 (-1 : Int))[f]? = _
  rw [List.getElem?_replicate, if_pos hf]
 show ((List.replicate 4 (-1 : Int)).set L.o (L.n : Int))[L.o]? = _
 rw [List.getElem?_set, if_pos rfl, if_pos (by simpa using ho)]
end Go.Ink
/- A guest's memory: the walks. -/
set_option linter.unusedSimpArgs false
set_option linter.unusedVariables false
set_option maxRecDepth 100000
namespace Go.Proofs.YtmhpcgmjlpfheaaGreatDoor
open Go.RowKit Go.Ink
attribute [local irreducible] OpY GuardIs

def memCells (L : MLoc) (tu : List Bool) : List Value := .pointer (some ⟨L.bp, 0, none⟩) :: .pointer (some ⟨L.bt, 0, none⟩) :: (bools tu ++ [.bool false])
abbrev memRow (L : MLoc) (tu : List Bool) : Chunk := row L.bm (memCells L tu) 117
theorem memCells_tu {L : MLoc} {tu : List Bool} {j : Nat} {b : Bool} (h : tu[j]? = some b) : (memCells L tu)[2 + j]? = some (.bool b) := by
 have hj := (List.getElem?_eq_some_iff.1 h).1
 unfold memCells
 rw [show 2 + j = j + 1 + 1 by omega, List.getElem?_cons_succ, List.getElem?_cons_succ, List.getElem?_append_left (by rw [bools_len]; exact hj)]
 exact bools_at h
theorem memCells_closed {L : MLoc} {tu : List Bool} (h : tu.length = 64) : (memCells L tu)[66]? = some (.bool false) := by
 unfold memCells
 rw [List.getElem?_cons_succ, List.getElem?_cons_succ, List.getElem?_append_right (by rw [bools_len]; omega), bools_len, h]
 rfl
theorem memCells_len {L : MLoc} {tu : List Bool} (h : tu.length = 64) : (memCells L tu).length = 67 := by simp [memCells, bools_len, h]
theorem memCells_set {L : MLoc} {tu : List Bool} {j : Nat} (hj : j < tu.length) (b : Bool) : (memCells L tu).set (2 + j) (.bool b) = memCells L (tu.set j b) := by
 unfold memCells
 rw [show 2 + j = j + 1 + 1 by omega, List.set_cons_succ, List.set_cons_succ, List.set_append_left _ _ (by rw [bools_len]; exact hj), bools_set]
theorem memCells_tus {L : MLoc} {tu : List Bool} : ((memCells L tu).drop 2).take (bools tu).length = bools tu := by
 unfold memCells
 simp
theorem memCells_calm {L : MLoc} {tu : List Bool} (h : tu.length = 64) : (memCells L tu).take 2 ++ List.replicate 64 (Value.bool false) ++ (memCells L tu).drop (2 + 64) = memCells L (List.replicate 64 false) := by
 unfold memCells
 have : (bools tu).length = 64 := by rw [bools_len, h]
 rw [rep_bool]
 simp [this]
/-- A memory's blocks. -/
def memF (L : MLoc) (tu : List Bool) (k : MemK) : List Chunk := [poolC L.bp k.B k.ow k.pr, tabRow L.bt L.bp L.o L.bf L.bg L.n, frC L.bf L.n k.fr, gdC L.bg L.n k.gd, memRow L tu]
abbrev memC (L : MLoc) (M : Mem) : Chunk := exC [L.bp, L.bt, L.bf, L.bg, L.bm] (memF L M.turned) (fun _ => rfl) (MemRep L M)
theorem mem_ok {L : MLoc} {M : Mem} {w : World} (h : (memC L M).ok w) : ∃ k, MemRep L M k ∧ (poolC L.bp k.B k.ow k.pr).ok w ∧ (tabRow L.bt L.bp L.o L.bf L.bg L.n).ok w ∧ (frC L.bf L.n k.fr).ok w ∧ (memRow L M.turned).ok w := by
 obtain ⟨k, h1, h2⟩ := exC_ok h
 exact ⟨k, h1, h2 _ (.head _ _), h2 _ (.tail _ (.head _ _)), h2 _ (.tail _ (.tail _ (.head _ _))), h2 _ (.tail _ (.tail _ (.tail _ (.tail _ (.head _ _)))))⟩

/-! ### the table -/
theorem pages_ok (bt bp o bf bg n : Nat) (w : World) (h : (tabRow bt bp o bf bg n).ok w) : Ctr Tryz.prog 73 [.pointer (some ⟨bt, 0, none⟩)] w [] (fun v cs => v = .int .i64 n ∧ cs = []) := by
 refine fn_ctr Tryz.func73 rfl Tryz.ntmps73 rfl (Inv.start w) ?_
 refine Zs (Zr (ZA ?_))
 refine Zn (Zt (Zs (Zr (ZA ?_))))
 refine ZA ?_
 refine ZFa 2 ?_
 refine wl_y (y_load (fun _ => rfl) (Zv rfl)) (old_row (by assumption) rfl) rfl ?_
 iterate 2 refine ZA ?_
 refine Zn (Zt (Ze (ret1 (cs' := []) (.inl rfl) Zu rfl rfl ?_)))
 exact ⟨rfl, rfl⟩
theorem tis_ok (bt bp o bf bg n p : Nat) (w : World) (h : (tabRow bt bp o bf bg n).ok w) : Ctr Tryz.prog 92 [.pointer (some ⟨bt, 0, none⟩), .int .i64 p] w [] (fun v cs => v = .bool (decide (p < n)) ∧ cs = []) := by
 refine fn_ctr Tryz.func92 rfl Tryz.ntmps92 rfl (Inv.start w) ?_
 refine Zs (Zr (ZA ?_))
 refine Zn (Zt (Zs (Zr (ZA ?_))))
 iterate 2 refine ZA ?_
 iterate 3 refine ZB ?_
 refine ZFb 2 ?_
 refine wl_yg (guard_yes rfl rfl) (y_load (fun _ => rfl) (ev_g rfl)) (old_row (by assumption) rfl) rfl ?_
 iterate 2 refine ZB ?_
 iterate 2 refine ZA ?_
 refine Zn (Zt (Ze (ret1 (cs' := []) (.inl rfl) Zu rfl rfl ?_)))
 rw [decide_eq_true (show (0 : Int) ≤ p by omega), show decide ((p : Int) < n) = decide (p < n) from decide_eq_decide.2 (by omega)]
 exact ⟨rfl, rfl⟩
/-- What a page's frame is told as. -/
def frameOf (f : Int) : Value := bif f == -1 then .tuple #[.int .i64 0, .bool false] else .tuple #[.int .i64 f, .bool true]
theorem tframe_ok (bt bp o bf bg n p : Nat) (fr : List Int) (f : Int) (hp : p < n) (hf : fr[p]? = some f) (w : World) (h : (tabRow bt bp o bf bg n).ok w) (h2 : (frC bf n fr).ok w) :
  Ctr Tryz.prog 76 [.pointer (some ⟨bt, 0, none⟩), .int .i64 p] w [] (fun v cs => v = frameOf f ∧ cs = []) := by
 have hrd := slvok_rd h2
 refine fn_ctr Tryz.func76 rfl Tryz.ntmps76 rfl (Inv.start w) ?_
 refine Zs (Zr (ZA ?_))
 refine ZA ?_
 refine Zn (Zt (Zs (Zs (Zr (ZA ?_)))))
 refine ZA ?_
 refine ZS (fun w hi => tis_ok bt bp o bf bg n p w (Chunk.old h hi)) ?_
 rintro _ _ ⟨_, ⟨rfl, rfl⟩, rfl⟩
 rw [decide_eq_true hp]
 iterate 2 refine ZA ?_
 iterate 2 refine ZB ?_
 refine ZFb 2 ?_
 refine wl_yg (guard_no rfl rfl) (y_load (fun _ => rfl) (ev_g rfl)) (old_row (by assumption) rfl) rfl ?_
 refine ZB ?_
 refine Zyn rfl rfl (y_index (j := p)  rfl (fun _ => rfl) (ev_g rfl) (ev_g rfl)  (fun _ => by omega) (fun _ => by omega)) ?_
 refine wl_yg (guard_no rfl rfl) (y_load (fun _ => rfl) (ev_g rfl)) (rd_cell hrd (ints_at hf)) rfl ?_
 refine ZB ?_
 refine ZA ?_
 refine Zn (Zt ?_)
 refine wc_cond _ rfl (fun hc1 => ?_) (fun hc1 => ?_)
 ·have hc : (f == -1) = true := hc1
  simp only [frameOf, hc, cond_true]
  refine Zs (Zr (ZA ?_))
  refine ZA ?_
  refine Zn (Zt (Ze (Zw (ret2 (cs' := []) (.inl rfl) Zu rfl rfl rfl ?_))))
  exact ⟨rfl, rfl⟩
 have hc : (f == -1) = false := hc1
 simp only [frameOf, hc, cond_false]
 refine Zc (Zt (Zs (Zr (ZA ?_))))
 refine ZA ?_
 refine ZFa 2 ?_
 refine wl_y (y_load (fun _ => rfl) (Zv rfl)) (old_row (by assumption) rfl) rfl ?_
 refine ZA ?_
 refine Zy (y_index (j := p)  rfl (fun _ => rfl) (Zv rfl) (Zv rfl)  (fun _ => by omega) (fun _ => by omega)) ?_
 refine wl_y (y_load (fun _ => rfl) (Zv rfl)) (rd_cell hrd (ints_at hf)) rfl ?_
 iterate 2 refine ZA ?_
 refine Zn (Zt (Ze (ret2 (cs' := []) (.inl rfl) Zu rfl rfl rfl ?_)))
 exact ⟨rfl, rfl⟩
/-- A page without a frame is given one. -/
theorem tmap_ok (bt bp o bf bg n p : Nat) (B ow pr fr : List Int) (hl : PoolLen B ow pr) (ho : o < 4) (hn : pr[o]? = some (n : Int)) (hlt : (heldTo ow o 256).length < n) (f0 : Nat) (h16 : 16 ≤ f0) (h256 : f0 < 256) (hf0 : ow[f0]? = some (-1)) (hp : p < n) (hf : fr[p]? = some (-1)) (w : World)
  (hi : Inv w (blocks [tabRow bt bp o bf bg n, frC bf n fr, poolC bp B ow pr]) [tabRow bt bp o bf bg n, frC bf n fr, poolC bp B ow pr] w) :
  Ctr Tryz.prog 77 [.pointer (some ⟨bt, 0, none⟩), .int .i64 p] w [tabRow bt bp o bf bg n, frC bf n fr, poolC bp B ow pr] (fun v cs => ∃ f : Nat, 16 ≤ f ∧ f < 256 ∧ ow[f]? = some (-1) ∧ v = .tuple #[.int .i64 f, .int .i64 0] ∧ cs = [poolC bp (zeroFrame B f) (ow.set f o) pr, tabRow bt bp o bf bg n, frC bf n (fr.set p f)]) := by
 refine fn_ctr Tryz.func77 rfl Tryz.ntmps77 rfl hi ?_
 refine Zs (Zr (ZA ?_))
 refine ZA ?_
 refine Zn (Zt (Zs (Zs (Zr (ZA ?_)))))
 refine ZA ?_
 refine ZS (fun w hi => tis_ok bt bp o bf bg n p w (hi.get Zh)) ?_
 rintro _ _ ⟨_, ⟨rfl, rfl⟩, rfl⟩
 rw [decide_eq_true hp]
 refine ZA ?_
 refine Zn (Zt (wc_cond_f rfl (rfl) ?_))
 refine Zc (Zt (Zs (Zs (Zr (ZA ?_)))))
 refine ZA ?_
 refine ZS (fun w hi => tframe_ok bt bp o bf bg n p fr (-1) hp hf w (hi.get Zh) (hi.get Zh)) ?_
 rintro _ _ ⟨_, ⟨rfl, rfl⟩, rfl⟩
 iterate 5 refine ZA ?_
 refine Zn (Zt (Zs (Zr (ZA ?_))))
 refine Zn (Zt (wc_cond_f rfl (rfl) ?_))
 refine Zc (Zt (Zs (wc_draw ⟨fun j => List.elem j [8], []⟩ Zk ?_)))
 refine ZE 0 ?_
 refine ZE 1 ?_
 refine ZFe 2 0 ?_
 refine ZG 3 ?_
 refine ZE 4 ?_
 refine ZE 5 ?_
 refine ZFe 6 1 ?_
 refine ZG 7 ?_
 refine wa_1 8 Zk ?_
 refine wi_t rfl rfl (t_callS ([poolC bp B ow pr]) rfl (fun _ _ => rfl) Zi (fun w hi hin => take_ok bp B ow pr hl o ho n hn (by omega) f0 h16 h256 hf0 w hin)) (fun _ _ _ _ _ _ _ h => by cases h) rfl ?_
 rintro _ _ ⟨_, ⟨f, hf1, hf2, hf3, rfl, rfl⟩, rfl⟩
 refine ZE 9 ?_
 refine ZE 10 ?_
 refine ZE 11 ?_
 refine ZE 12 ?_
 refine ZE 13 ?_
 refine wa_done Zk ?_
 refine Zt (Zs (Zs (Zr (ZA ?_))))
 refine ZA ?_
 refine Zn (Zt (wc_cond_t rfl (rfl) ?_))
 refine Zr (ZA ?_)
 refine ZA ?_
 refine ZFa 2 ?_
 refine ZC ?_
 iterate 2 refine ZA ?_
 refine Zy (y_indexR (j := p) (sz := 1) (r := p) rfl (fun _ => rfl) (Zv rfl) (Zv rfl) (fun _ => by omega) (fun _ => by omega) (by omega)) ?_
 refine wl_t0 (t_storeS (fun _ => rfl) rfl rfl rfl Za (by omega)) ?_
 rintro _ _ ⟨rfl, rfl⟩
 rw [ints_set']
 refine Zn (Zt (Zs (Zr (ZA ?_))))
 iterate 3 refine ZA ?_
 refine Zn (Zt (Ze (ret2 (cs' := [row _ _ _, row _ _ _, slv _ _ _ _ _ _]) (.inl rfl) Zu rfl rfl rfl ?_)))
 exact ⟨f, hf1, hf2, hf3, rfl, rfl⟩
end Go.Proofs.YtmhpcgmjlpfheaaGreatDoor
/- A guest's memory: size, bytes, words, pages. -/
set_option linter.unusedSimpArgs false
set_option linter.unusedVariables false
set_option maxRecDepth 100000
namespace Go.Ink
open Go.RowKit
def gB (d : List Int) (a : Nat) : Int := d.getD a 0
theorem gB_at {d : List Int} {a : Nat} (h : a < d.length) : d[a]? = some (gB d a) := by simp [gB, h]
theorem gB_rng {d : List Int} (h : u8s d) (a : Nat) : 0 ≤ gB d a ∧ gB d a ≤ 255 := by
 unfold gB
 by_cases hl : a < d.length
 ·rw [List.getD_eq_getElem?_getD, List.getElem?_eq_getElem hl]; exact h _ (List.getElem_mem hl)
 rw [List.getD_eq_getElem?_getD, List.getElem?_eq_none (by omega)]; simp
/-- Four bytes as a word, the low one first; as far as the k-th from above. -/
def wFrom (d : List Int) (a : Nat) : Nat → Int
 | 0 => 0
 | k + 1 => wFrom d a k * 256 + gB d (a + (3 - k))
def wordAt (d : List Int) (a : Nat) : Int := gB d a + 256 * gB d (a + 1) + 65536 * gB d (a + 2) + 16777216 * gB d (a + 3)
theorem wFrom_four (d : List Int) (a : Nat) : wFrom d a 4 = wordAt d a := by
 simp [wFrom, wordAt]
 omega
theorem wFrom_rng {d : List Int} (h : u8s d) (a : Nat) : ∀ k, 0 ≤ wFrom d a k ∧ wFrom d a k < 256 ^ k
 | 0 => by simp [wFrom]
 | k + 1 => by
  have h1 := wFrom_rng h a k
  have h2 := gB_rng h (a + (3 - k))
  simp only [wFrom, Int.pow_succ]
  omega
theorem wordAt_u32 {d : List Int} (h : u8s d) (a : Nat) : u32 (wordAt d a) := by
 have h1 := gB_rng h a
 have h2 := gB_rng h (a + 1)
 have h3 := gB_rng h (a + 2)
 have h4 := gB_rng h (a + 3)
 unfold wordAt
 exact ⟨by omega, by omega⟩
theorem wFrom_step {d : List Int} (h : u8s d) (a : Nat) {k : Nat} (hk : k < 4) : bits .or .u32 (IntKind.u32.wrap (wFrom d a k * 2 ^ (min (8 : Int).toNat IntKind.u32.bits))) (gB d (a + (3 - k))) = wFrom d a (k + 1) := by
 have h1 := wFrom_rng h a k
 have h2 := gB_rng h (a + (3 - k))
 simp only [wFrom]
 generalize wFrom d a k = v at h1
 have hv : 0 ≤ v ∧ v < 16777216 := by
  obtain rfl | rfl | rfl | rfl : k = 0 ∨ k = 1 ∨ k = 2 ∨ k = 3 := by omega
  all_goals (simp at h1; omega)
 have e1 : (2 : Int) ^ (min (8 : Int).toNat IntKind.u32.bits) = 256 := rfl
 rw [e1, u32_wrap_id _ (by omega) (by omega)]
 exact bits_join .u32 32 (by decide) wraps_u32 8 (v * 256) _ (by omega) (by omega) (by omega) (by omega) (by omega) (by omega)
/-- The k-th byte of a word. -/
def wbyte (v : Int) (k : Nat) : Int := v / 256 ^ k % 256
theorem wbyte_rng (v : Int) (k : Nat) : 0 ≤ wbyte v k ∧ wbyte v k ≤ 255 := by unfold wbyte; omega
theorem wbyte_shr (v : Int) {k : Nat} (hk : k < 4) : IntKind.u8.wrap (v.fdiv (2 ^ (min (IntKind.u32.wrap (8 * (k : Int))).toNat IntKind.u32.bits))) = wbyte v k := by
 have e : ∀ n : Nat, v.fdiv (2 ^ n) = v / 2 ^ n := fun n => Int.fdiv_eq_ediv_of_nonneg v (by exact Int.le_of_lt (Int.pow_pos (by decide)))
 rw [e, IntKind.wrap_u8]
 unfold wbyte
 obtain rfl | rfl | rfl | rfl : k = 0 ∨ k = 1 ∨ k = 2 ∨ k = 3 := by omega
 all_goals rfl
/-- So many bytes of a word are put. -/
def Mem.putTo (M : Mem) (a : Nat) (v : Int) : Nat → Mem
 | 0 => M
 | k + 1 => (Mem.putTo M a v k).put (a + k) (wbyte v k)
def Mem.putW (M : Mem) (a : Nat) (v : Int) : Mem := M.putTo a v 4
/-- Bytes are put, one behind the other. -/
def Mem.fill (M : Mem) (a : Nat) (l : List Int) : Nat → Mem
 | 0 => M
 | k + 1 => (Mem.fill M a l k).put (a + k) (gB l k)
theorem put_dl (M : Mem) (a : Nat) (b : Int) : (M.put a b).data.length = M.data.length := by simp [Mem.put]
theorem putTo_dl (M : Mem) (a : Nat) (v : Int) : ∀ k, (M.putTo a v k).data.length = M.data.length
 | 0 => rfl
 | k + 1 => by rw [Mem.putTo, put_dl, putTo_dl]
theorem fill_dl (M : Mem) (a : Nat) (l : List Int) : ∀ k, (M.fill a l k).data.length = M.data.length
 | 0 => rfl
 | k + 1 => by rw [Mem.fill, put_dl, fill_dl]
end Go.Ink
namespace Go.Proofs.YtmhpcgmjlpfheaaGreatDoor
open Go.RowKit Go.Ink
attribute [local irreducible] OpY GuardIs

theorem rsize_ok (L : MLoc) (M : Mem) (w : World) (h : (memC L M).ok w) : Ctr Tryz.prog 48 [.pointer (some ⟨L.bm, 0, none⟩)] w [] (fun v cs => v = .int .u32 (L.n * 64 : Nat) ∧ cs = []) := by
 obtain ⟨k, hr, h1, h2, h3, h4⟩ := mem_ok h
 have n64 := hr.n64
 refine fn_ctr Tryz.func48 rfl Tryz.ntmps48 rfl (Inv.start w) ?_
 refine Zs (Zr (ZA ?_))
 refine Zn (Zt (Zs (Zr (ZA ?_))))
 refine ZA ?_
 refine ZFa 1 ?_
 refine wl_y (y_load (fun _ => rfl) (Zv rfl)) (old_row (by assumption) rfl) rfl ?_
 refine ZS (fun w hi => pages_ok L.bt L.bp L.o L.bf L.bg L.n w (Chunk.old h2 hi)) ?_
 rintro _ _ ⟨_, ⟨rfl, rfl⟩, rfl⟩
 refine Zy (y_conv rfl rfl (Zv rfl) rfl) ?_
 refine Zy (y_mul (Zv rfl) (Zv rfl) (show IntKind.u32.wrap ((IntKind.u32.wrap (L.n : Int)) * 64) = ((L.n * 64 : Nat) : Int) by rw [u32_wrap_id (L.n : Int) (by omega) (by omega), u32_wrap_id _ (by omega) (by omega)]; omega)) ?_
 refine ZA ?_
 refine Zn (Zt (Ze (ret1 (cs' := []) (.inl rfl) Zu rfl rfl ?_)))
 exact ⟨rfl, rfl⟩
theorem split_ok (a : Nat) (ha : a ≤ 4294967295) (w : World) : Ctr Tryz.prog 75 [.int .u32 a] w [] (fun v cs => v = .tuple #[.int .i64 (a / 64 : Nat), .int .i64 (a % 64 : Nat)] ∧ cs = []) := by
 refine fn_ctr Tryz.func75 rfl Tryz.ntmps75 rfl (Inv.start w) ?_
 refine Zs (Zr (ZA ?_))
 refine ZA ?_
 refine Zn (Zt (Zs (Zr (ZA ?_))))
 refine Zy (y_quo (Zv rfl) (Zv rfl) (by omega) (show _ = ((a / 64 : Nat) : Int) from by rw [Int.tdiv_eq_ediv_of_nonneg (by omega), u32_wrap_id _ (by omega) (by omega)]; omega)) ?_
 refine Zy (y_conv rfl rfl (Zv rfl) Zl) ?_
 refine ZA ?_
 refine Zy (y_rem (Zv rfl) (Zv rfl) (by omega) (show _ = ((a % 64 : Nat) : Int) from by rw [Int.tmod_eq_emod_of_nonneg (by omega)]; omega)) ?_
 refine Zy (y_conv rfl rfl (Zv rfl) Zl) ?_
 iterate 2 refine ZA ?_
 refine Zn (Zt (Ze (ret2 (cs' := []) (.inl rfl) Zu rfl rfl rfl ?_)))
 exact ⟨rfl, rfl⟩
theorem ris_ok (L : MLoc) (M : Mem) (a n : Nat) (ha : a ≤ 4294967295) (hn : n ≤ 1000) (w : World) (h : (memC L M).ok w) : Ctr Tryz.prog 74 [.pointer (some ⟨L.bm, 0, none⟩), .int .u32 a, .int .i64 n] w [] (fun v cs => v = .bool (decide (a + n ≤ L.n * 64)) ∧ cs = []) := by
 obtain ⟨k, hr, _⟩ := mem_ok h
 have n64 := hr.n64
 refine fn_ctr Tryz.func74 rfl Tryz.ntmps74 rfl (Inv.start w) ?_
 refine Zs (Zr (ZA ?_))
 refine Zn (Zt (Zs (Zr (ZA ?_))))
 refine Zy (y_conv rfl rfl (Zv rfl) (by first | exact IntWalk.u64_in _ ⟨by omega, by omega⟩ | exact rfl)) ?_
 refine ZA ?_
 refine Zy (y_conv rfl rfl (Zv rfl) (by first | exact IntWalk.u64_in _ ⟨by omega, by omega⟩ | exact rfl)) ?_
 refine Zy (y_add (Zv rfl) (Zv rfl) (IntWalk.u64_in _ ⟨by omega, by omega⟩)) ?_
 refine ZA ?_
 refine ZS (fun w hi => rsize_ok L M w (Chunk.old h hi)) ?_
 rintro _ _ ⟨_, ⟨rfl, rfl⟩, rfl⟩
 refine Zy (y_conv rfl rfl (Zv rfl) (by first | exact IntWalk.u64_in _ ⟨by omega, by omega⟩ | exact rfl)) ?_
 iterate 2 refine ZA ?_
 refine Zn (Zt (Ze (ret1 (cs' := []) (.inl rfl) Zu rfl rfl ?_)))
 rw [show decide ((a : Int) + n ≤ ((L.n * 64 : Nat) : Int)) = decide (a + n ≤ L.n * 64) from decide_eq_decide.2 (by omega)]
 exact ⟨rfl, rfl⟩
theorem frameOf_nat (f : Nat) : frameOf (f : Int) = .tuple #[.int .i64 f, .bool true] := by
 unfold frameOf
 rw [show ((f : Int) == -1) = false by rw [beq_eq_false_iff_ne]; omega]
 rfl
theorem rget_ok (L : MLoc) (M : Mem) (a : Nat) (ha : a < L.n * 64) (w : World) (h : (memC L M).ok w) : Ctr Tryz.prog 80 [.pointer (some ⟨L.bm, 0, none⟩), .int .u32 a] w [] (fun v cs => v = .int .u8 (gB M.data a) ∧ cs = []) := by
 obtain ⟨k, hr, h1, h2, h3, h4⟩ := mem_ok h
 have n64 := hr.n64
 have hp : a / 64 < L.n := by omega
 have hj : a % 64 < 64 := by omega
 have hdl := hr.dl
 have hda : M.data[a / 64 * 64 + a % 64]? = some (gB M.data a) := by rw [show a / 64 * 64 + a % 64 = a by omega]; exact gB_at (by omega)
 rcases hr.page (a / 64) hp with ⟨f1, f2⟩ | ⟨f, f1, f2, f3, f4, f5⟩
 ·have hz : gB M.data a = 0 := by have := f2 (a % 64) hj; rw [hda] at this; exact Option.some.inj this
  rw [hz]
  refine fn_ctr Tryz.func80 rfl Tryz.ntmps80 rfl (Inv.start w) ?_
  refine Zs (Zr (ZA ?_))
  refine Zn (Zt (Zs (Zr (ZA ?_))))
  refine ZS (fun w hi => split_ok a (by omega) w) ?_
  rintro _ _ ⟨_, ⟨rfl, rfl⟩, rfl⟩
  iterate 5 refine ZA ?_
  refine Zn (Zt (Zs (Zr (ZA ?_))))
  refine ZA ?_
  refine ZFa 1 ?_
  refine wl_y (y_load (fun _ => rfl) (Zv rfl)) (old_row (by assumption) rfl) rfl ?_
  refine ZA ?_
  refine ZS (fun w hi => tframe_ok L.bt L.bp L.o L.bf L.bg L.n (a / 64) k.fr (-1) hp f1 w (Chunk.old h2 hi) (Chunk.old h3 hi)) ?_
  rintro _ _ ⟨_, ⟨rfl, rfl⟩, rfl⟩
  iterate 5 refine ZA ?_
  refine Zn (Zt (Zs (Zs (Zr (ZA ?_)))))
  refine ZA ?_
  refine Zn (Zt (wc_cond_t rfl (rfl) ?_))
  refine Zs (Zr (ZA ?_))
  refine Zn (Zt (Ze (Zw (ret1 (cs' := []) (.inl rfl) Zu rfl rfl ?_))))
  exact ⟨rfl, rfl⟩
 have hb : k.B[f * 64 + a % 64]? = some (gB M.data a) := by rw [f5 _ hj, hda]
 refine fn_ctr Tryz.func80 rfl Tryz.ntmps80 rfl (Inv.start w) ?_
 refine Zs (Zr (ZA ?_))
 refine Zn (Zt (Zs (Zr (ZA ?_))))
 refine ZS (fun w hi => split_ok a (by omega) w) ?_
 rintro _ _ ⟨_, ⟨rfl, rfl⟩, rfl⟩
 iterate 5 refine ZA ?_
 refine Zn (Zt (Zs (Zr (ZA ?_))))
 refine ZA ?_
 refine ZFa 1 ?_
 refine wl_y (y_load (fun _ => rfl) (Zv rfl)) (old_row (by assumption) rfl) rfl ?_
 refine ZA ?_
 refine ZS (fun w hi => tframe_ok L.bt L.bp L.o L.bf L.bg L.n (a / 64) k.fr f hp f1 w (Chunk.old h2 hi) (Chunk.old h3 hi)) ?_
 rintro _ _ ⟨_, ⟨rfl, rfl⟩, rfl⟩
 rw [frameOf_nat]
 iterate 5 refine ZA ?_
 refine Zn (Zt (Zs (Zs (Zr (ZA ?_)))))
 refine ZA ?_
 refine Zn (Zt (wc_cond_f rfl (rfl) ?_))
 refine Zc (Zt (Zs (Zr (ZA ?_))))
 refine ZA ?_
 refine ZFa 0 ?_
 refine wl_y (y_load (fun _ => rfl) (Zv rfl)) (old_row (by assumption) rfl) rfl ?_
 iterate 2 refine ZA ?_
 refine ZS (fun w hi => pbyte_ok L.bp k.B k.ow k.pr hr.pl f (a % 64) L.o _ f2 f3 f4 (by omega) hj hb w (Chunk.old h1 hi)) ?_
 rintro _ _ ⟨_, ⟨rfl, rfl⟩, rfl⟩
 iterate 5 refine ZA ?_
 refine Zn (Zt (Zs (Zr (ZA ?_))))
 refine ZA ?_
 refine Zn (Zt (Ze (ret1 (cs' := []) (.inl rfl) Zu rfl rfl ?_)))
 exact ⟨rfl, rfl⟩
theorem rput_in (L : MLoc) (M : Mem) (a : Nat) (ha : a < L.n * 64) (b : Int) (hb : 0 ≤ b ∧ b ≤ 255) (w : World) (k : MemK) (hr : MemRep L M k) (hi : Inv w (blocks (memF L M.turned k)) (memF L M.turned k) w) :
  Ctr Tryz.prog 49 [.pointer (some ⟨L.bm, 0, none⟩), .int .u32 a, .int .u8 b] w (memF L M.turned k) (fun v cs => v = .bool true ∧ ∃ k', MemRep L (M.put a b) k' ∧ cs = memF L (M.put a b).turned k') := by
 have n64 := hr.n64
 have o4 := hr.o4
 have hp : a / 64 < L.n := by omega
 have hj : a % 64 < 64 := by omega
 have hdl := hr.dl
 have htl := hr.tl
 have ea : a / 64 * 64 + a % 64 = a := by omega
 obtain ⟨hb0, hb1⟩ := hb
 have his : ∀ w0 S w, Inv w0 S (memF L M.turned k) w → (memC L M).ok w := fun w0 S w hi => (hi.closeE (rest := []) (bs := [L.bp, L.bt, L.bf, L.bg, L.bm]) (F := memF L M.turned) (hb := fun _ => rfl) (p := MemRep L M) k hr).ok _ (List.mem_cons_self ..)
 rcases hr.page (a / 64) hp with ⟨f1, f2⟩ | ⟨f, f1, f2, f3, f4, f5⟩
 ·by_cases hb0' : b = 0
  ·subst hb0'
   have hfin := hr.put0 hj hp f1
   rw [ea] at hfin
   refine fn_ctr Tryz.func49 rfl Tryz.ntmps49 rfl hi ?_
   unfold memF at his ⊢
   refine Zs (Zr (ZA ?_))
   refine Zn (Zt (Zs (Zs (Zr (ZA ?_)))))
   refine ZA ?_
   refine ZS (fun w hi => ris_ok L M a 1 (by omega) (by omega) w (his _ _ w hi)) ?_
   rintro _ _ ⟨_, ⟨rfl, rfl⟩, rfl⟩
   rw [decide_eq_true (show a + 1 ≤ L.n * 64 by omega)]
   refine ZA ?_
   refine Zn (Zt (wc_cond_f rfl (rfl) ?_))
   refine Zc (Zt (Zs (Zr (ZA ?_))))
   refine ZS (fun w hi => split_ok a (by omega) w) ?_
   rintro _ _ ⟨_, ⟨rfl, rfl⟩, rfl⟩
   iterate 5 refine ZA ?_
   refine Zn (Zt (Zs (Zr (ZA ?_))))
   refine ZA ?_
   refine ZFa 1 ?_
   refine ZC ?_
   refine ZA ?_
   refine ZS (fun w hi => tframe_ok L.bt L.bp L.o L.bf L.bg L.n (a / 64) k.fr (-1) hp f1 w (hi.get Zh) (hi.get Zh)) ?_
   rintro _ _ ⟨_, ⟨rfl, rfl⟩, rfl⟩
   iterate 5 refine ZA ?_
   refine Zn (Zt (Zs (Zs (Zr (ZA ?_)))))
   iterate 2 refine ZA ?_
   iterate 2 refine ZB ?_
   refine ZA ?_
   refine Zn (Zt (wc_cond_f rfl (rfl) ?_))
   refine Zc (Zt (Zs (Zr (ZA ?_))))
   iterate 2 refine ZA ?_
   refine ZFa 2 ?_
   refine Zy (y_indexA (j := (a / 64)) (sz := 1) (r := 2 + a / 64) rfl (fun _ => rfl) (Zv rfl) (Zv rfl) (fun _ => by omega) (fun _ => by omega) (by omega)) ?_
   refine wl_t0 (t_storeR (fun _ => rfl) rfl rfl rfl Za (by rw [memCells_len htl]; omega)) ?_
   rintro _ _ ⟨rfl, rfl⟩
   rw [memCells_set (by omega)]
   refine Zn (Zt (Zs (Zr (ZA ?_))))
   iterate 2 refine ZA ?_
   iterate 2 refine ZB ?_
   refine ZFb 0 ?_
   refine ZD ?_
   iterate 3 refine ZB ?_
   refine wl_skip (guard_no rfl rfl) rfl rfl ?_
   refine Zy (y_or (q := false) (Zv rfl) ⟨_, rfl, fun _ e => by simp at e⟩) ?_
   refine ZA ?_
   refine Zn (Zt (Ze (ret1 (cs' := [row _ _ _, row _ _ _, slv _ _ _ _ _ _, slv _ _ _ _ _ _, row _ _ _]) (.inl rfl) Zu rfl rfl ?_)))
   exact ⟨rfl, k, hfin, rfl⟩
  obtain ⟨f0, g1, g2, g3⟩ := hr.free
  refine fn_ctr Tryz.func49 rfl Tryz.ntmps49 rfl hi ?_
  unfold memF at his ⊢
  refine Zs (Zr (ZA ?_))
  refine Zn (Zt (Zs (Zs (Zr (ZA ?_)))))
  refine ZA ?_
  refine ZS (fun w hi => ris_ok L M a 1 (by omega) (by omega) w (his _ _ w hi)) ?_
  rintro _ _ ⟨_, ⟨rfl, rfl⟩, rfl⟩
  rw [decide_eq_true (show a + 1 ≤ L.n * 64 by omega)]
  refine ZA ?_
  refine Zn (Zt (wc_cond_f rfl (rfl) ?_))
  refine Zc (Zt (Zs (Zr (ZA ?_))))
  refine ZS (fun w hi => split_ok a (by omega) w) ?_
  rintro _ _ ⟨_, ⟨rfl, rfl⟩, rfl⟩
  iterate 5 refine ZA ?_
  refine Zn (Zt (Zs (Zr (ZA ?_))))
  refine ZA ?_
  refine ZFa 1 ?_
  refine ZC ?_
  refine ZA ?_
  refine ZS (fun w hi => tframe_ok L.bt L.bp L.o L.bf L.bg L.n (a / 64) k.fr (-1) hp f1 w (hi.get Zh) (hi.get Zh)) ?_
  rintro _ _ ⟨_, ⟨rfl, rfl⟩, rfl⟩
  iterate 5 refine ZA ?_
  refine Zn (Zt (Zs (Zs (Zr (ZA ?_)))))
  iterate 2 refine ZA ?_
  iterate 2 refine ZB ?_
  refine ZA ?_
  refine Zn (Zt (wc_cond_t rfl ((by rw [show (b != 0) = true by simp [hb0']]; rfl)) ?_))
  refine Zs (Zr (ZA ?_))
  refine Zn (Zt (Zs (Zs (Zr (ZA ?_)))))
  refine ZA ?_
  refine ZFa 66 ?_
  refine wl_y (y_load (fun _ => rfl) (Zv rfl)) (row_cell (o := 66) Zh (memCells_closed htl)) rfl ?_
  refine Zn (Zt (wc_cond_f rfl (rfl) ?_))
  refine Zc (Zt (Zs (Zs (Zr (ZA ?_)))))
  refine ZA ?_
  refine ZFa 1 ?_
  refine ZC ?_
  refine ZA ?_
  refine wl_t (t_callS ([tabRow L.bt L.bp L.o L.bf L.bg L.n, frC L.bf L.n k.fr, poolC L.bp k.B k.ow k.pr]) rfl (fun _ _ => rfl) Zi (fun w hi hin => tmap_ok L.bt L.bp L.o L.bf L.bg L.n (a / 64) k.B k.ow k.pr k.fr hr.pl o4 hr.prom (hr.heldLt f1) f0 g1 g2 g3 hp f1 w hin)) rfl ?_
  rintro _ _ ⟨_, ⟨f, m1, m2, m3, rfl, rfl⟩, rfl⟩
  have hmap := hr.map hp f1 m1 m2 m3
  have hfin := hmap.putF (j := a % 64) (b := b) (f := f) hj ⟨hb0, hb1⟩ (show (k.fr.set (a / 64) (f : Int))[a / 64]? = _ by rw [List.getElem?_set, if_pos rfl, if_pos (by rw [hr.fr]; exact hp)])
  rw [ea] at hfin
  have hpl' := hmap.pl
  iterate 5 refine ZA ?_
  refine Zn (Zt (Zs (Zr (ZA ?_))))
  refine ZA ?_
  refine Zn (Zt (wc_cond_f rfl (rfl) ?_))
  refine Zc (Zt (Zr (ZA ?_)))
  refine Zn (Zt (Zs (Zr (ZA ?_))))
  iterate 2 refine ZA ?_
  refine ZFa 2 ?_
  refine Zy (y_indexA (j := (a / 64)) (sz := 1) (r := 2 + a / 64) rfl (fun _ => rfl) (Zv rfl) (Zv rfl) (fun _ => by omega) (fun _ => by omega) (by omega)) ?_
  refine wl_t0 (t_storeR (fun _ => rfl) rfl rfl rfl Za (by rw [memCells_len htl]; omega)) ?_
  rintro _ _ ⟨rfl, rfl⟩
  rw [memCells_set (by omega)]
  refine Zn (Zt (Zs (Zr (ZA ?_))))
  iterate 2 refine ZA ?_
  iterate 2 refine ZB ?_
  refine ZFb 0 ?_
  refine ZD ?_
  iterate 3 refine ZB ?_
  refine wl_tg (guard_no rfl rfl) rfl (t_callS ([poolC L.bp (zeroFrame k.B f) (k.ow.set f L.o) k.pr]) rfl (fun _ _ => rfl) Zi (fun w hi hin => pput_ok L.bp (zeroFrame k.B f) (k.ow.set f L.o) k.pr hpl' f (a % 64) L.o b m1 m2 (show (k.ow.set f (L.o : Int))[f]? = some (L.o : Int) by rw [List.getElem?_set, if_pos rfl, if_pos (by rw [hr.pl.ow]; exact m2)]) (by omega) hj w hin)) rfl ?_
  rintro _ _ ⟨_, ⟨rfl, rfl⟩, rfl⟩
  iterate 2 refine ZA ?_
  refine Zn (Zt (Ze (qok_pick [poolC L.bp ((zeroFrame k.B f).set (f * 64 + a % 64) b) (k.ow.set f L.o) k.pr, tabRow L.bt L.bp L.o L.bf L.bg L.n, frC L.bf L.n (k.fr.set (a / 64) f), gdC L.bg L.n k.gd, memRow L (M.turned.set (a / 64) true)] Zj ?_)))
  refine ret1 (cs' := [row _ _ _, row _ _ _, slv _ _ _ _ _ _, slv _ _ _ _ _ _, row _ _ _]) (.inl rfl) Zu rfl rfl ?_
  exact ⟨rfl, _, hfin, rfl⟩
 have hfin := hr.putF (j := a % 64) (b := b) hj ⟨hb0, hb1⟩ f1
 rw [ea] at hfin
 refine fn_ctr Tryz.func49 rfl Tryz.ntmps49 rfl hi ?_
 unfold memF at his ⊢
 refine Zs (Zr (ZA ?_))
 refine Zn (Zt (Zs (Zs (Zr (ZA ?_)))))
 refine ZA ?_
 refine ZS (fun w hi => ris_ok L M a 1 (by omega) (by omega) w (his _ _ w hi)) ?_
 rintro _ _ ⟨_, ⟨rfl, rfl⟩, rfl⟩
 rw [decide_eq_true (show a + 1 ≤ L.n * 64 by omega)]
 refine ZA ?_
 refine Zn (Zt (wc_cond_f rfl (rfl) ?_))
 refine Zc (Zt (Zs (Zr (ZA ?_))))
 refine ZS (fun w hi => split_ok a (by omega) w) ?_
 rintro _ _ ⟨_, ⟨rfl, rfl⟩, rfl⟩
 iterate 5 refine ZA ?_
 refine Zn (Zt (Zs (Zr (ZA ?_))))
 refine ZA ?_
 refine ZFa 1 ?_
 refine ZC ?_
 refine ZA ?_
 refine ZS (fun w hi => tframe_ok L.bt L.bp L.o L.bf L.bg L.n (a / 64) k.fr f hp f1 w (hi.get Zh) (hi.get Zh)) ?_
 rintro _ _ ⟨_, ⟨rfl, rfl⟩, rfl⟩
 rw [frameOf_nat]
 iterate 5 refine ZA ?_
 refine Zn (Zt (Zs (Zs (Zr (ZA ?_)))))
 iterate 2 refine ZA ?_
 iterate 2 refine ZB ?_
 refine ZA ?_
 refine Zn (Zt (wc_cond_f rfl (rfl) ?_))
 refine Zc (Zt (Zs (Zr (ZA ?_))))
 iterate 2 refine ZA ?_
 refine ZFa 2 ?_
 refine Zy (y_indexA (j := (a / 64)) (sz := 1) (r := 2 + a / 64) rfl (fun _ => rfl) (Zv rfl) (Zv rfl) (fun _ => by omega) (fun _ => by omega) (by omega)) ?_
 refine wl_t0 (t_storeR (fun _ => rfl) rfl rfl rfl Za (by rw [memCells_len htl]; omega)) ?_
 rintro _ _ ⟨rfl, rfl⟩
 rw [memCells_set (by omega)]
 refine Zn (Zt (Zs (Zr (ZA ?_))))
 iterate 2 refine ZA ?_
 iterate 2 refine ZB ?_
 refine ZFb 0 ?_
 refine ZD ?_
 iterate 3 refine ZB ?_
 refine wl_tg (guard_no rfl rfl) rfl (t_callS ([poolC L.bp k.B k.ow k.pr]) rfl (fun _ _ => rfl) Zi (fun w hi hin => pput_ok L.bp k.B k.ow k.pr hr.pl f (a % 64) L.o b f2 f3 f4 (by omega) hj w hin)) rfl ?_
 rintro _ _ ⟨_, ⟨rfl, rfl⟩, rfl⟩
 iterate 2 refine ZA ?_
 refine Zn (Zt (Ze (qok_pick [poolC L.bp (k.B.set (f * 64 + a % 64) b) k.ow k.pr, tabRow L.bt L.bp L.o L.bf L.bg L.n, frC L.bf L.n k.fr, gdC L.bg L.n k.gd, memRow L (M.turned.set (a / 64) true)] Zj ?_)))
 refine ret1 (cs' := [row _ _ _, row _ _ _, slv _ _ _ _ _ _, slv _ _ _ _ _ _, row _ _ _]) (.inl rfl) Zu rfl rfl ?_
 exact ⟨rfl, _, hfin, rfl⟩
end Go.Proofs.YtmhpcgmjlpfheaaGreatDoor
/- A guest's memory: the rest of the walks, and a new one. -/
set_option linter.unusedSimpArgs false
set_option linter.unusedVariables false
set_option maxRecDepth 100000
namespace Go.Ink
open Go.RowKit
/-- Bytes that are taken over one by one. -/
def cpy (d : List Int) (o n k : Nat) : List Int := (List.range k).map (fun j => gB d (o + j)) ++ List.replicate (n - k) 0
theorem cpy_zero (d : List Int) (o n : Nat) : cpy d o n 0 = List.replicate n 0 := by simp [cpy]
theorem cpy_len (d : List Int) (o : Nat) {n k : Nat} (h : k ≤ n) : (cpy d o n k).length = n := by simp [cpy]; omega
theorem cpy_set (d : List Int) (o : Nat) {n k : Nat} (h : k < n) : (cpy d o n k).set k (gB d (o + k)) = cpy d o n (k + 1) := by
 unfold cpy
 rw [List.set_append_right _ _ (by simp), List.length_map, List.length_range, Nat.sub_self, show n - k = (n - (k + 1)) + 1 by omega, List.replicate_succ, List.set_cons_zero, List.range_succ, List.map_append, List.append_assoc]
 rfl
theorem cpy_all {d : List Int} {o n : Nat} (h : o + n ≤ d.length) : cpy d o n n = (d.drop o).take n := by
 unfold cpy
 rw [Nat.sub_self, List.replicate_zero, List.append_nil]
 apply List.ext_getElem?
 intro j
 rw [List.getElem?_map, List.getElem?_take, List.getElem?_drop]
 by_cases hj : j < n
 ·rw [List.getElem?_range hj, if_pos hj, gB_at (by omega)]
  rfl
 rw [List.getElem?_eq_none (by simp; omega), if_neg hj]
 rfl
/-- The places that are true, as far as the k-th. -/
def trues (tu : List Bool) (k : Nat) : List Int := ((List.range k).filter (fun f => tu.getD f false)).map (fun f : Nat => (f : Int))
theorem trues_succ (tu : List Bool) (k : Nat) : trues tu (k + 1) = trues tu k ++ (bif tu.getD k false then [(k : Int)] else []) := by
 unfold trues
 rw [List.range_succ, List.filter_append, List.map_append]
 congr 1
 cases h : tu.getD k false <;> simp only [List.filter_cons, h, List.filter_nil, if_true, List.map_cons, List.map_nil, cond_true, cond_false, Bool.false_eq_true, if_false]
theorem trues_le (tu : List Bool) (k : Nat) : (trues tu k).length ≤ k := by
 unfold trues
 rw [List.length_map]
 exact Nat.le_trans (List.length_filter_le _ _) (by simp)
theorem bools_getD {l : List Bool} {j : Nat} (h : j < l.length) : (bools l)[j]? = some (.bool (l.getD j false)) := by
 apply bools_at
 simp [h]
theorem fill_data (M : Mem) (l : List Int) : ∀ k, k ≤ l.length → l.length ≤ M.data.length → (M.fill 0 l k).data = l.take k ++ M.data.drop k
 | 0, _, _ => by simp [Mem.fill]
 | k + 1, h, h2 => by
  have ih := fill_data M l k (by omega) h2
  rw [Mem.fill]
  show (M.fill 0 l k).data.set (0 + k) (gB l k) = _
  rw [ih, Nat.zero_add, List.set_append_right _ _ (by rw [List.length_take]; omega), List.length_take, show k - min k l.length = 0 by omega]
  have e1 : M.data.drop k = M.data[k]'(by omega) :: M.data.drop (k + 1) := List.drop_eq_getElem_cons (by omega)
  have e2 : l.take (k + 1) = l.take k ++ [gB l k] := by
   rw [List.take_add_one, gB_at (by omega)]
   rfl
  rw [e1, List.set_cons_zero, e2, List.append_assoc]
  rfl
/-- A memory that begins with some bytes. -/
def Mem.init (n : Nat) (b : List Int) : Mem := ⟨b ++ List.replicate (n * 64 - b.length) 0, List.replicate 64 false⟩
theorem Mem.init_eq {n : Nat} {b : List Int} (h : b.length ≤ n * 64) : ((Mem.new n).fill 0 b b.length).calm = Mem.init n b := by
 unfold Mem.calm Mem.init
 rw [fill_data _ _ _ (Nat.le_refl _) (by simp [Mem.new]; exact h), List.take_length]
 simp [Mem.new]
end Go.Ink
namespace Go.Proofs.YtmhpcgmjlpfheaaGreatDoor
open Go.RowKit Go.Ink
attribute [local irreducible] OpY GuardIs

theorem rput_ok (L : MLoc) (M : Mem) (a : Nat) (ha : a < L.n * 64) (b : Int) (hb : 0 ≤ b ∧ b ≤ 255) (w : World) (hi : Inv w (blocks [memC L M]) [memC L M] w) :
  Ctr Tryz.prog 49 [.pointer (some ⟨L.bm, 0, none⟩), .int .u32 a, .int .u8 b] w [memC L M] (fun v cs => v = .bool true ∧ cs = [memC L (M.put a b)]) :=
 ctr_E hi fun k hr hi' => rput_in L M a ha b hb w k hr hi'
theorem mem_n {L : MLoc} {M : Mem} {w : World} (h : (memC L M).ok w) : 1 ≤ L.n ∧ L.n ≤ 64 ∧ M.data.length = L.n * 64 ∧ u8s M.data ∧ M.turned.length = 64 := by
 obtain ⟨k, hr, _⟩ := mem_ok h
 exact ⟨hr.n1, hr.n64, hr.dl, hr.db, hr.tl⟩
theorem rbyte_ok (L : MLoc) (M : Mem) (a : Nat) (ha : a < L.n * 64) (w : World) (h : (memC L M).ok w) : Ctr Tryz.prog 265 [.pointer (some ⟨L.bm, 0, none⟩), .int .u32 a] w [] (fun v cs => v = .tuple #[.int .u8 (gB M.data a), .bool true] ∧ cs = []) := by
 obtain ⟨n1, n64, _⟩ := mem_n h
 refine fn_ctr Tryz.func265 rfl Tryz.ntmps265 rfl (Inv.start w) ?_
 refine Zs (Zr (ZA ?_))
 refine ZA ?_
 refine Zn (Zt (Zs (Zs (Zr (ZA ?_)))))
 refine ZA ?_
 refine ZS (fun w hi => ris_ok L M a 1 (by omega) (by omega) w (Chunk.old h hi)) ?_
 rintro _ _ ⟨_, ⟨rfl, rfl⟩, rfl⟩
 rw [decide_eq_true (show a + 1 ≤ L.n * 64 by omega)]
 refine ZA ?_
 refine Zn (Zt (wc_cond_f rfl (rfl) ?_))
 refine Zc (Zt (Zs (Zr (ZA ?_))))
 refine ZA ?_
 refine ZS (fun w hi => rget_ok L M a ha w (Chunk.old h hi)) ?_
 rintro _ _ ⟨_, ⟨rfl, rfl⟩, rfl⟩
 iterate 2 refine ZA ?_
 refine Zn (Zt (Ze (ret2 (cs' := []) (.inl rfl) Zu rfl rfl rfl ?_)))
 exact ⟨rfl, rfl⟩
/-- What a word is told as. -/
def wordV (L : MLoc) (M : Mem) (a : Nat) : Value := bif decide (a + 4 ≤ L.n * 64) then .tuple #[.int .u32 (wordAt M.data a), .bool true] else .tuple #[.int .u32 0, .bool false]
theorem rword_ok (L : MLoc) (M : Mem) (a : Nat) (ha : a ≤ 4294967295) (w : World) (h : (memC L M).ok w) : Ctr Tryz.prog 236 [.pointer (some ⟨L.bm, 0, none⟩), .int .u32 a] w [] (fun v cs => v = wordV L M a ∧ cs = []) := by
 obtain ⟨n1, n64, hdl, hdb, htl⟩ := mem_n h
 refine fn_ctr Tryz.func236 rfl Tryz.ntmps236 rfl (Inv.start w) ?_
 refine Zs (Zr (ZA ?_))
 refine ZA ?_
 refine Zn (Zt (Zs (Zs (Zr (ZA ?_)))))
 refine ZA ?_
 refine ZS (fun w hi => ris_ok L M a 4 ha (by omega) w (Chunk.old h hi)) ?_
 rintro _ _ ⟨_, ⟨rfl, rfl⟩, rfl⟩
 refine ZA ?_
 refine Zn (Zt ?_)
 refine wc_cond _ rfl (fun hc1 => ?_) (fun hc1 => ?_)
 ·have hc : decide (a + 4 ≤ L.n * 64) = false := by simpa using hc1
  refine Zs (Zr (ZA ?_))
  refine ZA ?_
  refine Zn (Zt (Ze (Zw (ret2 (cs' := []) (.inl rfl) Zu rfl rfl rfl ?_))))
  unfold wordV
  rw [hc]
  exact ⟨rfl, rfl⟩
 have hc : decide (a + 4 ≤ L.n * 64) = true := by simpa using hc1
 have hle : a + 4 ≤ L.n * 64 := of_decide_eq_true hc
 refine Zc (Zt (Zs (Zr (ZA ?_))))
 refine Zn (Zt (Zs (Zs (Zr (ZA ?_)))))
 refine Zn (Zt (Zx ?_))
 refine wc_loop (fun i : Nat => [(0, .pointer (some ⟨L.bm, 0, none⟩)), (1, .int .u32 a), (6, .int .u32 (wFrom M.data a i)), (7, .int .u32 (4 - (i : Int)))]) (fun _ => []) (fun i => i ≤ 4) (fun i => 4 - i) (0) ?_ ?_ ?_ ?_
 ·exact Nat.zero_le _
 ·exact Zwk
 ·((repeat (first | exact List.Sublist.slnil | refine List.Sublist.cons_cons _ ?_ | refine List.Sublist.cons _ ?_)))
 rintro i hik
 refine Zs (Zs (Zr (ZA ?_)))
 refine ZA ?_
 refine Zn (Zt ?_)
 refine wc_cond _ rfl (fun hc5 => ?_) (fun hc5 => ?_)
 ·simp only [decide_eq_true_eq] at hc5
  have hi4 : i < 4 := by omega
  have ha3 : a + (3 - i) < L.n * 64 := by omega
  refine Zc (Zt (Zs (Zx (Zr (ZA ?_)))))
  refine Zy (y_shl (Zv rfl) (Zv rfl) (by omega) rfl) ?_
  iterate 3 refine ZA ?_
  refine Zy (y_add (Zv rfl) (Zv rfl) (u32_wrap_id _ (by omega) (by omega))) ?_
  refine Zy (y_sub (Zv rfl) (Zv rfl) (show IntKind.u32.wrap ((a : Int) + (4 - (i : Int)) - 1) = ((a + (3 - i) : Nat) : Int) by rw [u32_wrap_id _ (by omega) (by omega)]; omega)) ?_
  refine ZS (fun w hi => rget_ok L M (a + (3 - i)) ha3 w (Chunk.old h hi)) ?_
  rintro _ _ ⟨_, ⟨rfl, rfl⟩, rfl⟩
  have hg := gB_rng hdb (a + (3 - i))
  refine Zy (y_conv rfl rfl (Zv rfl) (by first | exact IntWalk.u32_in _ ⟨by omega, by omega⟩ | exact rfl)) ?_
  refine Zy (y_or_ (Zv rfl) (Zv rfl) (wFrom_step hdb a hi4)) ?_
  refine ZA ?_
  refine Zn (Zo (Zt (Zr (ZA ?_))))
  refine Zy (y_sub (Zv rfl) (Zv rfl) (u32_wrap_id _ (by omega) (by omega))) ?_
  refine ZA ?_
  refine Zn ?_
  refine q_mid (i + 1) ?_ ?_ ?_
  ·exact ⟨by omega, by omega⟩
  ·exact Zwk
  ((repeat (first | exact List.Sublist.slnil | refine List.Sublist.cons_cons _ ?_ | refine List.Sublist.cons _ ?_)))
 simp only [decide_eq_false_iff_not] at hc5
 obtain rfl : i = 4 := by omega
 refine wc_exit ?_
 refine q_then_exit ?_
 refine q_then_exit ?_
 refine q_block_same rfl ?_
 refine Zt (Zs (Zr (ZA ?_)))
 iterate 2 refine ZA ?_
 refine Zn (Zt (Ze (ret2 (cs' := []) (.inl rfl) Zu rfl rfl rfl ?_)))
 unfold wordV
 rw [hc, wFrom_four]
 exact ⟨rfl, rfl⟩
theorem rputword_ok (L : MLoc) (M : Mem) (a : Nat) (v : Int) (ha : a + 4 ≤ L.n * 64) (hv : u32 v) (w : World) (hi : Inv w (blocks [memC L M]) [memC L M] w) :
  Ctr Tryz.prog 201 [.pointer (some ⟨L.bm, 0, none⟩), .int .u32 a, .int .u32 v] w [memC L M] (fun v' cs => v' = .bool true ∧ cs = [memC L (M.putW a v)]) := by
 obtain ⟨n1, n64, hdl, hdb, htl⟩ := mem_n (hi.ok _ (List.mem_cons_self ..))
 refine fn_ctr Tryz.func201 rfl Tryz.ntmps201 rfl hi ?_
 refine Zs (Zr (ZA ?_))
 refine Zn (Zt (Zs (Zs (Zr (ZA ?_)))))
 refine ZA ?_
 refine ZS (fun w hi => ris_ok L M a 4 (by omega) (by omega) w (hi.get Zh)) ?_
 rintro _ _ ⟨_, ⟨rfl, rfl⟩, rfl⟩
 rw [decide_eq_true ha]
 refine ZA ?_
 refine Zn (Zt (wc_cond_f rfl (rfl) ?_))
 refine Zc (Zt (Zs (Zr (ZA ?_))))
 refine Zn (Zt (Zs (Zs (Zr (ZA ?_)))))
 refine Zn (Zt (Zx ?_))
 refine wc_loop (fun k : Nat => [(0, .pointer (some ⟨L.bm, 0, none⟩)), (1, .int .u32 a), (2, .int .u32 v), (7, .bool true), (13, .int .u32 (k : Int))]) (fun k => [memC L (M.putTo a v k)]) (fun k => k ≤ 4) (fun k => 4 - k) (0) ?_ ?_ ?_ ?_
 ·exact Nat.zero_le _
 ·exact Zwk
 ·((repeat (first | exact List.Sublist.slnil | refine List.Sublist.cons_cons _ ?_ | refine List.Sublist.cons _ ?_)))
 rintro k hk
 refine Zs (Zr (ZA ?_))
 refine Zn (Zt (Zs ?_))
 refine wc_cond _ rfl (fun hc5 => ?_) (fun hc5 => ?_)
 ·simp only [decide_eq_true_eq] at hc5
  have hk4 : k < 4 := by omega
  refine Zc (Zt (Zs (Zx (Zs (Zr (ZA ?_))))))
  refine ZA ?_
  refine Zn (Zt (Zr (ZA ?_)))
  iterate 2 refine ZA ?_
  refine Zy (y_add (Zv rfl) (Zv rfl) (show IntKind.u32.wrap ((a : Int) + (k : Int)) = ((a + k : Nat) : Int) by rw [u32_wrap_id _ (by omega) (by omega)]; omega)) ?_
  iterate 2 refine ZA ?_
  refine Zy (y_mul (Zv rfl) (Zv rfl) rfl) ?_
  refine Zy (y_shr (Zv rfl) (Zv rfl) (by rw [IntKind.wrap_u32]; omega) rfl) ?_
  refine Zy (y_conv rfl rfl (Zv rfl) (wbyte_shr v hk4)) ?_
  refine wl_t (t_callS ([memC L (M.putTo a v k)]) rfl (fun _ _ => rfl) Zi (fun w hi hin => rput_ok L (M.putTo a v k) (a + k) (by omega) (wbyte v k) (wbyte_rng v k) w hin)) rfl ?_
  rintro _ _ ⟨_, ⟨rfl, rfl⟩, rfl⟩
  refine ZA ?_
  refine ZB ?_
  iterate 2 refine ZA ?_
  refine Zn (Zo (Zt (Zr (Zy (y_add (Zv rfl) (Zv rfl) (u32_wrap_id _ (by omega) (by omega))) ?_))))
  refine ZA ?_
  refine Zn ?_
  refine q_mid (k + 1) ?_ ?_ ?_
  ·exact ⟨by omega, by omega⟩
  ·exact Zwk
  ((repeat (first | exact List.Sublist.slnil | refine List.Sublist.cons_cons _ ?_ | refine List.Sublist.cons _ ?_)))
 simp only [decide_eq_false_iff_not] at hc5
 obtain rfl : k = 4 := by omega
 refine wc_exit ?_
 refine q_then_exit ?_
 refine q_then_exit ?_
 refine q_block_same rfl ?_
 refine Zt (Zs (Zr (ZA ?_)))
 refine ZA ?_
 refine Zn (Zt (Ze (ret1 (cs' := [exC _ _ _ _]) (.inl rfl) Zu rfl rfl ?_)))
 exact ⟨rfl, rfl⟩
theorem rpage_ok (L : MLoc) (M : Mem) (p : Nat) (hp : p < L.n) (w : World) (h : (memC L M).ok w) : Ctr Tryz.prog 121 [.pointer (some ⟨L.bm, 0, none⟩), .int .i64 p] w [] (fun v cs => ∃ b, v = .tuple #[.slice (some ⟨b, 0, none⟩) 64 64, .bool true] ∧ cs = [sl .u8 5 (some ⟨b, 0, none⟩) 64 64 ((M.data.drop (p * 64)).take 64)]) := by
 obtain ⟨n1, n64, hdl, hdb, htl⟩ := mem_n h
 obtain ⟨k0, hr0, h1, h2, h3, h4⟩ := mem_ok h
 refine fn_ctr Tryz.func121 rfl Tryz.ntmps121 rfl (Inv.start w) ?_
 refine Zs (Zr (ZA ?_))
 refine ZA ?_
 refine Zn (Zt (Zs (Zs (Zr (ZA ?_)))))
 refine ZA ?_
 rw [decide_eq_false (show ¬ (p : Int) < 0 by omega)]
 refine ZA ?_
 iterate 3 refine ZB ?_
 refine ZFb 1 ?_
 refine wl_yg (guard_no rfl rfl) (y_load (fun _ => rfl) (ev_g rfl)) (old_row (by assumption) rfl) rfl ?_
 refine wl_tg (guard_no rfl rfl) rfl (t_call rfl (fun _ _ => rfl) (fun w hi => pages_ok L.bt L.bp L.o L.bf L.bg L.n w (Chunk.old h2 hi))) rfl ?_
 rintro _ _ ⟨_, ⟨rfl, rfl⟩, rfl⟩
 refine ZB ?_
 refine ZA ?_
 refine Zn (Zt (wc_cond_f rfl ((by rw [decide_eq_false (show ¬ (L.n : Int) ≤ p by omega)]; rfl)) ?_))
 refine Zc (Zt (Zs (Zr (wl_t (t_make (bytes := 1) (n := 64) rfl rfl rfl rfl rfl rfl rfl (by omega) (by simp only [maxLen]; omega)) rfl ?_))))
 rintro _ _ ⟨b19, rfl, rfl⟩
 rw [rep_int, ← cpy_zero M.data (p * 64) 64]
 refine ZA ?_
 refine Zn (Zt (Zs (Zs (Zr (ZA ?_)))))
 iterate 2 refine ZA ?_
 refine Zn (Zt (Zx ?_))
 refine wc_loop (fun k : Nat => [(0, .pointer (some ⟨L.bm, 0, none⟩)), (1, .int .i64 p), (6, .slice (some ⟨b19, 0, none⟩) 64 64), (21, .int .i64 64), (22, .int .i64 (k : Int))]) (fun k => [sl .u8 5 (some ⟨b19, 0, none⟩) 64 64 (cpy M.data (p * 64) 64 k)]) (fun k => k ≤ 64) (fun k => 64 - k) (0) ?_ ?_ ?_ ?_
 ·exact Nat.zero_le _
 ·exact Zwk
 ·((repeat (first | exact List.Sublist.slnil | refine List.Sublist.cons_cons _ ?_ | refine List.Sublist.cons _ ?_)))
 rintro k hk
 refine Zs (Zr (ZA ?_))
 refine Zn (Zt (Zs ?_))
 refine wc_cond _ rfl (fun hc5 => ?_) (fun hc5 => ?_)
 ·simp only [decide_eq_true_eq] at hc5
  have hpk : p * 64 + k < L.n * 64 := by omega
  refine Zc (Zt (Zs (Zx (Zs (Zr (ZA ?_))))))
  refine ZA ?_
  refine Zn (Zt (Zr (ZA ?_)))
  iterate 3 refine ZA ?_
  refine Zy (y_mul (Zv rfl) (Zv rfl) Zl) ?_
  refine ZA ?_
  refine Zy (y_add (Zv rfl) (Zv rfl) Zl) ?_
  refine Zy (y_conv rfl rfl (Zv rfl) (show IntKind.u32.wrap ((p : Int) * 64 + (k : Int)) = ((p * 64 + k : Nat) : Int) by rw [u32_wrap_id _ (by omega) (by omega)]; omega)) ?_
  refine ZS (fun w hi => rget_ok L M (p * 64 + k) hpk w (Chunk.old h hi)) ?_
  rintro _ _ ⟨_, ⟨rfl, rfl⟩, rfl⟩
  refine Zy (y_indexR (j := k) (sz := 1) (r := k) rfl (fun _ => rfl) (Zv rfl) (Zv rfl) (fun _ => by omega) (fun _ => by omega) (by omega)) ?_
  refine wl_t0 (t_storeS (fun _ => rfl) rfl rfl rfl Za (by omega)) ?_
  rintro _ _ ⟨rfl, rfl⟩
  rw [ints_set', cpy_set _ _ (by omega)]
  refine Zn (Zo (Zt (Zr (Zy (y_add (Zv rfl) (Zv rfl) Zl) ?_))))
  refine ZA ?_
  refine Zn ?_
  refine q_mid (k + 1) ?_ ?_ ?_
  ·exact ⟨by omega, by omega⟩
  ·exact Zwk
  ((repeat (first | exact List.Sublist.slnil | refine List.Sublist.cons_cons _ ?_ | refine List.Sublist.cons _ ?_)))
 simp only [decide_eq_false_iff_not] at hc5
 obtain rfl : k = 64 := by omega
 rw [cpy_all (by omega)]
 refine wc_exit ?_
 refine q_then_exit ?_
 refine q_then_exit ?_
 refine q_block_same rfl ?_
 refine Zt (Zs (Zr (ZA ?_)))
 iterate 2 refine ZA ?_
 refine Zn (Zt (Ze (ret2 (cs' := [slv _ _ _ _ _ _]) (.inl rfl) Zu rfl rfl rfl ?_)))
 exact ⟨b19, rfl, rfl⟩
theorem rputpage_ok (L : MLoc) (M : Mem) (p : Nat) (hp : p < L.n) (A : Option Addr) (c : Nat) (l : List Int) (hl : l.length = 64) (hb : u8s l) (w : World) (hi : Inv w (blocks [memC L M]) [memC L M] w) (hrd : ∀ w', Keep (blocks [memC L M]) w w' → Rd w' .u8 A 64 c l) :
  Ctr Tryz.prog 269 [.pointer (some ⟨L.bm, 0, none⟩), .int .i64 p, .slice A 64 c] w [memC L M] (fun v' cs => v' = .bool true ∧ cs = [memC L (M.fill (p * 64) l 64)]) := by
 obtain ⟨n1, n64, hdl, hdb, htl⟩ := mem_n (hi.ok _ (List.mem_cons_self ..))
 have hrw := hrd w (Keep.refl _ _)
 obtain ⟨ad, rfl⟩ := hrw.some_ (by omega)
 have hpg : ∀ w0 S cs w, Inv w0 S cs w → Has cs (memC L M) → Ctr Tryz.prog 73 [.pointer (some ⟨L.bt, 0, none⟩)] w [] (fun v cs => v = .int .i64 L.n ∧ cs = []) := fun w0 S cs w hi hc => by
  obtain ⟨k0, hr0, h1, h2, h3, h4⟩ := mem_ok (hi.get hc)
  exact pages_ok L.bt L.bp L.o L.bf L.bg L.n w h2
 have hcell : ∀ w, Inv w (blocks [memC L M]) [memC L M] w → True := fun _ _ => trivial
 refine fn_ctr Tryz.func269 rfl Tryz.ntmps269 rfl hi ?_
 refine Zs (Zr (ZA ?_))
 refine Zn (Zt (Zs (Zs (Zr (ZA ?_)))))
 refine ZA ?_
 rw [decide_eq_false (show ¬ (p : Int) < 0 by omega)]
 refine ZA ?_
 iterate 3 refine ZB ?_
 refine ZFb 1 ?_
 refine wl_yg (guard_no rfl rfl) (y_load (fun _ => rfl) (ev_g rfl)) (fun w hi => by obtain ⟨k0, hr0, h1, h2, h3, h4⟩ := mem_ok (hi.get (show Has _ (memC L M) from Zh)); exact old_row (cs := []) h4 (show (memCells L M.turned)[1]? = some (.pointer (some ⟨L.bt, 0, none⟩)) from rfl) w (Inv.start w)) rfl ?_
 refine wl_tg (guard_no rfl rfl) rfl (t_call rfl (fun _ _ => rfl) (fun w hi => hpg _ _ _ w hi Zh)) rfl ?_
 rintro _ _ ⟨_, ⟨rfl, rfl⟩, rfl⟩
 refine ZB ?_
 iterate 2 refine ZA ?_
 iterate 3 refine ZB ?_
 refine ZA ?_
 refine Zn (Zt (wc_cond_f rfl ((by rw [decide_eq_false (show ¬ (L.n : Int) ≤ p by omega)]; rfl)) ?_))
 refine Zc (Zt (Zs (Zr (ZA ?_))))
 refine Zn (Zt (Zs (Zs (Zr (ZA ?_)))))
 iterate 2 refine ZA ?_
 refine Zn (Zt (Zx ?_))
 refine wc_loop (fun k : Nat => [(0, .pointer (some ⟨L.bm, 0, none⟩)), (1, .int .i64 p), (7, .bool true), (26, .slice (some ad) 64 c), (27, .int .i64 64), (28, .int .i64 (k : Int))]) (fun k => [memC L (M.fill (p * 64) l k)]) (fun k => k ≤ 64) (fun k => 64 - k) (0) ?_ ?_ ?_ ?_
 ·exact Nat.zero_le _
 ·exact Zwk
 ·((repeat (first | exact List.Sublist.slnil | refine List.Sublist.cons_cons _ ?_ | refine List.Sublist.cons _ ?_)))
 rintro k hk
 refine Zs (Zr (ZA ?_))
 refine Zn (Zt (Zs ?_))
 refine wc_cond _ rfl (fun hc5 => ?_) (fun hc5 => ?_)
 ·simp only [decide_eq_true_eq] at hc5
  have hkl : k < l.length := by omega
  have hbk := gB_rng hb k
  refine Zc (Zt (Zs (Zx (Zs (Zr (ZA ?_))))))
  refine Zy (y_index (j := k)  rfl (fun _ => rfl) (Zv rfl) (Zv rfl)  (fun _ => by omega) (fun _ => by omega)) ?_
  refine wl_y (y_load (fun _ => rfl) (Zv rfl)) (rd_cellK hrd (ints_at (gB_at hkl))) rfl ?_
  iterate 2 refine ZA ?_
  refine Zn (Zt (Zr (ZA ?_)))
  refine ZA ?_
  refine Zy (y_mul (Zv rfl) (Zv rfl) Zl) ?_
  refine ZA ?_
  refine Zy (y_add (Zv rfl) (Zv rfl) Zl) ?_
  refine Zy (y_conv rfl rfl (Zv rfl) (show IntKind.u32.wrap ((p : Int) * 64 + (k : Int)) = ((p * 64 + k : Nat) : Int) by rw [u32_wrap_id _ (by omega) (by omega)]; omega)) ?_
  refine ZA ?_
  refine wl_t (t_callS ([memC L (M.fill (p * 64) l k)]) rfl (fun _ _ => rfl) Zi (fun w hi hin => rput_ok L (M.fill (p * 64) l k) (p * 64 + k) (by omega) (gB l k) hbk w hin)) rfl ?_
  rintro _ _ ⟨_, ⟨rfl, rfl⟩, rfl⟩
  refine ZA ?_
  refine ZB ?_
  iterate 2 refine ZA ?_
  refine Zn (Zo (Zt (Zr (Zy (y_add (Zv rfl) (Zv rfl) Zl) ?_))))
  refine ZA ?_
  refine Zn ?_
  refine q_mid (k + 1) ?_ ?_ ?_
  ·exact ⟨by omega, by omega⟩
  ·exact Zwk
  ((repeat (first | exact List.Sublist.slnil | refine List.Sublist.cons_cons _ ?_ | refine List.Sublist.cons _ ?_)))
 simp only [decide_eq_false_iff_not] at hc5
 obtain rfl : k = 64 := by omega
 refine wc_exit ?_
 refine q_then_exit ?_
 refine q_then_exit ?_
 refine q_block_same rfl ?_
 refine Zt (Zs (Zr (ZA ?_)))
 refine ZA ?_
 refine Zn (Zt (Ze (ret1 (cs' := [exC _ _ _ _]) (.inl rfl) Zu rfl rfl ?_)))
 exact ⟨rfl, rfl⟩
theorem rload_ok (L : MLoc) (M : Mem) (A : Option Addr) (c : Nat) (l : List Int) (hl : l.length ≤ L.n * 64) (hb : u8s l) (w : World) (hi : Inv w (blocks [memC L M]) [memC L M] w) (hrd : ∀ w', Keep (blocks [memC L M]) w w' → Rd w' .u8 A l.length c l) :
  Ctr Tryz.prog 31 [.pointer (some ⟨L.bm, 0, none⟩), .slice A l.length c] w [memC L M] (fun v' cs => v' = .int .i64 0 ∧ cs = [memC L (M.fill 0 l l.length)]) := by
 obtain ⟨n1, n64, hdl, hdb, htl⟩ := mem_n (hi.ok _ (List.mem_cons_self ..))
 have hrw := hrd w (Keep.refl _ _)
 refine fn_ctr Tryz.func31 rfl Tryz.ntmps31 rfl hi ?_
 refine Zs (Zr (ZA ?_))
 refine Zn (Zt (Zs (Zs (Zr (ZA ?_)))))
 iterate 2 refine ZA ?_
 refine ZS (fun w hi => rsize_ok L M w (hi.get Zh)) ?_
 rintro _ _ ⟨_, ⟨rfl, rfl⟩, rfl⟩
 refine Zy (y_conv rfl rfl (Zv rfl) Zl) ?_
 refine ZA ?_
 refine Zn (Zt (wc_cond_f rfl ((decide_eq_false (by omega))) ?_))
 refine Zc (Zt (Zs (Zs (Zr (ZA ?_)))))
 iterate 2 refine ZA ?_
 refine Zn (Zt (Zx ?_))
 refine wc_loop (fun k : Nat => [(0, .pointer (some ⟨L.bm, 0, none⟩)), (13, .slice A l.length c), (14, .int .i64 l.length), (15, .int .i64 (k : Int))]) (fun k => [memC L (M.fill 0 l k)]) (fun k => k ≤ l.length) (fun k => l.length - k) (0) ?_ ?_ ?_ ?_
 ·exact Nat.zero_le _
 ·exact Zwk
 ·((repeat (first | exact List.Sublist.slnil | refine List.Sublist.cons_cons _ ?_ | refine List.Sublist.cons _ ?_)))
 rintro k hk
 refine Zs (Zr (ZA ?_))
 refine Zn (Zt (Zs ?_))
 refine wc_cond _ rfl (fun hc4 => ?_) (fun hc4 => ?_)
 ·simp only [decide_eq_true_eq] at hc4
  have hkl : k < l.length := by omega
  have hbk := gB_rng hb k
  obtain ⟨ad, rfl⟩ := hrw.some_ (by omega)
  refine Zc (Zt (Zs (Zx (Zs (Zr (ZA ?_))))))
  refine Zy (y_index (j := k)  rfl (fun _ => rfl) (Zv rfl) (Zv rfl)  (fun _ => by omega) (fun _ => by omega)) ?_
  refine wl_y (y_load (fun _ => rfl) (Zv rfl)) (rd_cellK hrd (ints_at (gB_at hkl))) rfl ?_
  iterate 2 refine ZA ?_
  refine Zn (Zt (Zr (ZA ?_)))
  refine ZA ?_
  refine Zy (y_conv rfl rfl (Zv rfl) (show IntKind.u32.wrap (k : Int) = ((0 + k : Nat) : Int) by rw [u32_wrap_id _ (by omega) (by omega)]; omega)) ?_
  refine ZA ?_
  refine wl_t (t_callS ([memC L (M.fill 0 l k)]) rfl (fun _ _ => rfl) Zi (fun w hi hin => rput_ok L (M.fill 0 l k) (0 + k) (by omega) (gB l k) hbk w hin)) rfl ?_
  rintro _ _ ⟨_, ⟨rfl, rfl⟩, rfl⟩
  refine Zn (Zo (Zt (Zr (Zy (y_add (Zv rfl) (Zv rfl) Zl) ?_))))
  refine ZA ?_
  refine Zn ?_
  refine q_mid (k + 1) ?_ ?_ ?_
  ·exact ⟨by omega, by omega⟩
  ·exact Zwk
  ((repeat (first | exact List.Sublist.slnil | refine List.Sublist.cons_cons _ ?_ | refine List.Sublist.cons _ ?_)))
 simp only [decide_eq_false_iff_not] at hc4
 obtain rfl : k = l.length := by omega
 refine wc_exit ?_
 refine q_then_exit ?_
 refine q_then_exit ?_
 refine q_block_same rfl ?_
 refine Zt (Zs (Zr (ZA ?_)))
 refine Zn (Zt (Ze (ret1 (cs' := [exC _ _ _ _]) (.inl rfl) Zu rfl rfl ?_)))
 exact ⟨rfl, rfl⟩
theorem rall_ok (L : MLoc) (M : Mem) (w : World) (h : (memC L M).ok w) : Ctr Tryz.prog 57 [.pointer (some ⟨L.bm, 0, none⟩)] w [] (fun v cs => ∃ b, v = .slice (some ⟨b, 0, none⟩) M.data.length M.data.length ∧ cs = [sl .u8 5 (some ⟨b, 0, none⟩) M.data.length M.data.length M.data]) := by
 obtain ⟨n1, n64, hdl, hdb, htl⟩ := mem_n h
 rw [hdl]
 refine fn_ctr Tryz.func57 rfl Tryz.ntmps57 rfl (Inv.start w) ?_
 refine Zs (Zr (ZA ?_))
 refine Zn (Zt (Zs (Zr (ZA ?_))))
 refine ZS (fun w hi => rsize_ok L M w (Chunk.old h hi)) ?_
 rintro _ _ ⟨_, ⟨rfl, rfl⟩, rfl⟩
 refine wl_t (t_make (bytes := 1) (n := L.n * 64) rfl rfl rfl rfl rfl rfl rfl (by omega) (by simp only [maxLen]; omega)) rfl ?_
 rintro _ _ ⟨b7, rfl, rfl⟩
 rw [rep_int, ← cpy_zero M.data 0 (L.n * 64)]
 refine ZA ?_
 refine Zn (Zt (Zs (Zs (Zr (ZA ?_)))))
 iterate 2 refine ZA ?_
 refine Zn (Zt (Zx ?_))
 refine wc_loop (fun k : Nat => [(0, .pointer (some ⟨L.bm, 0, none⟩)), (3, .slice (some ⟨b7, 0, none⟩) (L.n * 64) (L.n * 64)), (9, .int .i64 (L.n * 64 : Nat)), (10, .int .i64 (k : Int))]) (fun k => [sl .u8 5 (some ⟨b7, 0, none⟩) (L.n * 64) (L.n * 64) (cpy M.data 0 (L.n * 64) k)]) (fun k => k ≤ L.n * 64) (fun k => L.n * 64 - k) (0) ?_ ?_ ?_ ?_
 ·exact Nat.zero_le _
 ·exact Zwk
 ·((repeat (first | exact List.Sublist.slnil | refine List.Sublist.cons_cons _ ?_ | refine List.Sublist.cons _ ?_)))
 rintro k hk
 refine Zs (Zr (ZA ?_))
 refine Zn (Zt (Zs ?_))
 refine wc_cond _ rfl (fun hc3 => ?_) (fun hc3 => ?_)
 ·simp only [decide_eq_true_eq] at hc3
  have hpk : 0 + k < L.n * 64 := by omega
  refine Zc (Zt (Zs (Zx (Zs (Zr (ZA ?_))))))
  refine ZA ?_
  refine Zn (Zt (Zr (ZA ?_)))
  iterate 3 refine ZA ?_
  refine Zy (y_conv rfl rfl (Zv rfl) (show IntKind.u32.wrap (k : Int) = ((0 + k : Nat) : Int) by rw [u32_wrap_id _ (by omega) (by omega)]; omega)) ?_
  refine ZS (fun w hi => rget_ok L M (0 + k) hpk w (Chunk.old h hi)) ?_
  rintro _ _ ⟨_, ⟨rfl, rfl⟩, rfl⟩
  refine Zy (y_indexR (j := k) (sz := 1) (r := k) rfl (fun _ => rfl) (Zv rfl) (Zv rfl) (fun _ => by omega) (fun _ => by omega) (by omega)) ?_
  refine wl_t0 (t_storeS (fun _ => rfl) rfl rfl rfl Za (by omega)) ?_
  rintro _ _ ⟨rfl, rfl⟩
  rw [ints_set', cpy_set _ _ (by omega)]
  refine Zn (Zo (Zt (Zr (Zy (y_add (Zv rfl) (Zv rfl) Zl) ?_))))
  refine ZA ?_
  refine Zn ?_
  refine q_mid (k + 1) ?_ ?_ ?_
  ·exact ⟨by omega, by omega⟩
  ·exact Zwk
  ((repeat (first | exact List.Sublist.slnil | refine List.Sublist.cons_cons _ ?_ | refine List.Sublist.cons _ ?_)))
 simp only [decide_eq_false_iff_not] at hc3
 obtain rfl : k = L.n * 64 := by omega
 rw [cpy_all (by omega), List.drop_zero, List.take_of_length_le (by omega)]
 refine wc_exit ?_
 refine q_then_exit ?_
 refine q_then_exit ?_
 refine q_block_same rfl ?_
 refine Zt (Zs (Zr (ZA ?_)))
 refine ZA ?_
 refine Zn (Zt (Ze (ret1 (cs' := [slv _ _ _ _ _ _]) (.inl rfl) Zu rfl rfl ?_)))
 exact ⟨b7, rfl, rfl⟩
theorem rturned_ok (L : MLoc) (M : Mem) (w : World) (h : (memC L M).ok w) : Ctr Tryz.prog 64 [.pointer (some ⟨L.bm, 0, none⟩)] w [] (fun v cs => ∃ A c, v = .slice A (trues M.turned 64).length c ∧ cs = [sl .i64 3 A (trues M.turned 64).length c (trues M.turned 64)]) := by
 obtain ⟨n1, n64, hdl, hdb, htl⟩ := mem_n h
 obtain ⟨k0, hr0, h1, h2, h3, h4⟩ := mem_ok h
 refine fn_ctr Tryz.func64 rfl Tryz.ntmps64 rfl (Inv.start w) ?_
 refine Zs (Zr (ZA ?_))
 refine Zn (Zt (Zs (Zr (ZA ?_))))
 refine Zn (Zt (Zs (Zs (Zr (ZA ?_)))))
 refine ZA ?_
 refine ZFa 2 ?_
 refine wl_y (y_loadN (vs := bools M.turned) (fun _ => rfl) (fun w => by rw [bools_len, htl]; rfl) (Zv rfl)) (old_rows (o := 2) h4 memCells_tus) rfl ?_
 refine wl_nilc 3 1 ?_
 refine ZA ?_
 refine Zn (Zt (Zx ?_))
 refine wc_loop (fun s : Nat × Option Addr × Nat => [(0, .pointer (some ⟨L.bm, 0, none⟩)), (3, .slice s.2.1 (trues M.turned s.1).length s.2.2), (9, .agg (bools M.turned).toArray), (10, .int .i64 (s.1 : Int))]) (fun s => [sl .i64 3 s.2.1 (trues M.turned s.1).length s.2.2 (trues M.turned s.1)]) (fun s => s.1 ≤ 64) (fun s => 64 - s.1) ((0, none, 0)) ?_ ?_ ?_ ?_
 ·exact Nat.zero_le _
 ·exact Zwk
 ·((repeat (first | exact List.Sublist.slnil | refine List.Sublist.cons_cons _ ?_ | refine List.Sublist.cons _ ?_)))
 rintro ⟨k, A1, c1⟩ hk
 simp only at hk
 dsimp only
 refine Zs (Zr (ZA ?_))
 refine Zn (Zt (Zs ?_))
 refine wc_cond _ rfl (fun hc3 => ?_) (fun hc3 => ?_)
 ·simp only [decide_eq_true_eq] at hc3
  have hle := trues_le M.turned k
  refine Zc (Zt (Zs (Zx (Zs (Zr (ZA ?_))))))
  refine Zy (y_indexV (j := k) rfl (fun _ => rfl) (fun _ => rfl) (Zv rfl) (Zv rfl) (fun _ => by omega) (fun _ => by omega) (fun _ => bools_getD (show k < M.turned.length by omega))) ?_
  iterate 2 refine ZA ?_
  refine Zn (Zt (Zs (Zr (ZA ?_))))
  refine Zn (Zt ?_)
  refine wc_cond _ rfl (fun hc5 => ?_) (fun hc5 => ?_)
  ·have he : trues M.turned (k + 1) = trues M.turned k ++ [(k : Int)] := by rw [trues_succ, hc5]; rfl
   refine Zr (ZA ?_)
   refine ZA ?_
   refine wl_t (t_buildSl1 rfl rfl (fun _ => rfl) (fun _ => rfl) rfl rfl) rfl ?_
   rintro _ _ ⟨b17, rfl, rfl⟩
   refine wl_t (t_append (e := 3) (sz := 1) (bytes := 8) rfl rfl Za rfl rfl (fun w hi => hi.rd Zh) (allT rfl) (by simp only [maxLen]; omega) (by omega)) rfl ?_
   rintro _ _ ⟨A2, c2, rfl, rfl⟩
   rw [show (trues M.turned k).length + 1 = (trues M.turned (k + 1)).length by (rw [he]; simp), show ints .i64 (trues M.turned k) ++ [Value.int .i64 (k : Int)] = ints .i64 (trues M.turned (k + 1)) by (rw [he]; exact ints_append _ [_])]
   refine ZA ?_
   refine Zn (Zo (Zt (Zr (Zy (y_add (Zv rfl) (Zv rfl) Zl) ?_))))
   refine ZA ?_
   refine Zn ?_
   refine q_mid ((k + 1, A2, c2)) ?_ ?_ ?_
   ·exact ⟨by show k + 1 ≤ 64; omega, by show 64 - (k + 1) < 64 - k; omega⟩
   ·exact Zwk
   ((repeat (first | exact List.Sublist.slnil | refine List.Sublist.cons_cons _ ?_ | refine List.Sublist.cons _ ?_)))
  have he : trues M.turned (k + 1) = trues M.turned k := by (rw [trues_succ, hc5]; simp)
  rw [← he]
  refine Zc (Zo (Zt (Zr (Zy (y_add (Zv rfl) (Zv rfl) Zl) ?_))))
  refine ZA ?_
  refine Zn ?_
  refine q_mid ((k + 1, A1, c1)) ?_ ?_ ?_
  ·exact ⟨by show k + 1 ≤ 64; omega, by show 64 - (k + 1) < 64 - k; omega⟩
  ·exact Zwk
  ((repeat (first | exact List.Sublist.slnil | refine List.Sublist.cons_cons _ ?_ | refine List.Sublist.cons _ ?_)))
 simp only [decide_eq_false_iff_not] at hc3
 obtain rfl : k = 64 := by omega
 refine wc_exit ?_
 refine q_then_exit ?_
 refine q_then_exit ?_
 refine q_block_same rfl ?_
 refine Zt (Zs (Zr (ZA ?_)))
 refine ZA ?_
 refine Zn (Zt (Ze (ret1 (cs' := [slv _ _ _ _ _ _]) (.inl rfl) Zu rfl rfl ?_)))
 exact ⟨_, _, rfl, rfl⟩
theorem rcalm_ok (L : MLoc) (M : Mem) (w : World) (hi : Inv w (blocks [memC L M]) [memC L M] w) : Ctr Tryz.prog 124 [.pointer (some ⟨L.bm, 0, none⟩)] w [memC L M] (fun v cs => v = .tuple #[] ∧ cs = [memC L M.calm]) := by
 refine ctr_E hi fun k hr hi' => ?_
 have htl := hr.tl
 refine fn_ctr Tryz.func124 rfl Tryz.ntmps124 rfl hi' ?_
 unfold memF
 refine Zr (ZA ?_)
 refine Zy (y_build00 (vs := List.replicate 64 (Value.bool false)) Zk (.inr ⟨_, _, _, rfl, fun _ => rfl⟩)) ?_
 refine ZA ?_
 refine ZFa 2 ?_
 refine wl_t0 (t_storeRN (n := 64) (fun _ => rfl) rfl rfl (fun u hu => by rw [List.eq_of_mem_replicate hu]; rfl) Za (List.length_replicate) (by rw [memCells_len htl, List.length_replicate]; omega)) ?_
 rintro _ _ ⟨rfl, rfl⟩
 rw [List.length_replicate, memCells_calm htl]
 refine Zn (ret0 (cs' := [row _ _ _, row _ _ _, slv _ _ _ _ _ _, slv _ _ _ _ _ _, row _ _ _]) (.inr rfl) Zu rfl ?_)
 exact ⟨rfl, k, hr.calm, rfl⟩
theorem rnew_ok (bp bt : Nat) (w : World) : Ctr Tryz.prog 30 [.pointer (some ⟨bp, 0, none⟩), .pointer (some ⟨bt, 0, none⟩)] w [] (fun v cs => ∃ bm, v = .tuple #[.pointer (some ⟨bm, 0, none⟩), .int .i64 0] ∧ cs = [memRow ⟨bp, bt, 0, 0, bm, 0, 0⟩ (List.replicate 64 false)]) := by
 refine fn_ctr Tryz.func30 rfl Tryz.ntmps30 rfl (Inv.start w) ?_
 refine Zs (Zr (ZA ?_))
 refine ZA ?_
 refine Zn (Zt (Zs (Zs (Zr (ZA ?_)))))
 iterate 2 refine ZA ?_
 iterate 2 refine ZB ?_
 refine ZA ?_
 refine Zn (Zt (wc_cond_f rfl (rfl) ?_))
 refine Zc (Zt (Zs (Zr (ZA ?_))))
 iterate 2 refine ZA ?_
 refine ZO fun b15 => ?_
 iterate 2 refine ZA ?_
 refine Zn (Zt (Ze (ret2 (cs' := [row _ _ _]) (.inl rfl) Zu rfl rfl rfl ?_)))
 exact ⟨_, rfl, rfl⟩
end Go.Proofs.YtmhpcgmjlpfheaaGreatDoor
/- A translation buffer, page tables, a guest's addresses: what they come to. No program in sight. -/
set_option linter.unusedSimpArgs false
set_option linter.unusedVariables false
set_option maxRecDepth 100000
namespace Go.Ink
open Go.RowKit
structure TE where
 valid : Bool
 vpn : Int
 pfn : Int
 bits : Int
structure TE.wf (e : TE) : Prop where
 vpn : u32 e.vpn
 pfn : u32 e.pfn
 bits : u32 e.bits
def TE.zero : TE := ⟨false, 0, 0, 0⟩
def TE.cells (e : TE) : List Value := [.bool e.valid, .int .u32 e.vpn, .int .u32 e.pfn, .int .u32 e.bits]
def tlbCells (T : List TE) : List Value := T.flatMap TE.cells
structure Tr where
 cause : Int
 addr : Int
def Tr.none : Tr := ⟨0, 0⟩
abbrev Tr.cells (t : Tr) : List Value := [.int .i64 t.cause, .int .u32 t.addr]
abbrev Tr.v (t : Tr) : Value := .agg t.cells.toArray
abbrev TE.v (e : TE) : Value := .agg e.cells.toArray
theorem tlbCells_len : ∀ T : List TE, (tlbCells T).length = T.length * 4
 | [] => rfl
 | e :: T => by
  have := tlbCells_len T
  simp only [tlbCells] at this
  simp [tlbCells, TE.cells, this]
  omega
theorem tlbCells_get : ∀ {T : List TE} {i : Nat} {e : TE}, T[i]? = some e → ((tlbCells T).drop (i * 4)).take 4 = e.cells
 | [], i, e, h => by simp at h
 | x :: T, 0, e, h => by
  simp only [List.getElem?_cons_zero, Option.some.injEq] at h
  subst h
  rfl
 | x :: T, i + 1, e, h => by
  simp only [List.getElem?_cons_succ] at h
  have := tlbCells_get h
  simp only [tlbCells, List.flatMap_cons] at this ⊢
  rw [show (i + 1) * 4 = i * 4 + 4 by omega, ← List.drop_drop, show (TE.cells x ++ T.flatMap TE.cells).drop (i * 4) = (TE.cells x ++ T.flatMap TE.cells).drop (i * 4) from rfl]
  rw [List.drop_drop, show i * 4 + 4 = (TE.cells x).length + i * 4 by simp [TE.cells]; omega, ← List.drop_drop, List.drop_left]
  exact this
theorem tlbCells_set : ∀ {T : List TE} {i : Nat} (e : TE), i < T.length → (tlbCells T).take (i * 4) ++ e.cells ++ (tlbCells T).drop (i * 4 + 4) = tlbCells (T.set i e)
 | [], i, e, h => by simp at h
 | x :: T, 0, e, _ => by simp [tlbCells, TE.cells]
 | x :: T, i + 1, e, h => by
  have ih := tlbCells_set (T := T) (i := i) e (by simpa using h)
  simp only [tlbCells, List.set_cons_succ, List.flatMap_cons] at ih ⊢
  have hl : (TE.cells x).length = 4 := rfl
  rw [show (i + 1) * 4 = (TE.cells x).length + i * 4 by rw [hl]; omega, List.take_length_add_append, show (TE.cells x).length + i * 4 + 4 = (TE.cells x).length + (i * 4 + 4) by omega, List.drop_length_add_append, List.append_assoc, List.append_assoc, ← List.append_assoc _ _ (List.drop _ _), ih]
theorem rep_te (n : Nat) : tlbCells (List.replicate n TE.zero) = (List.replicate n TE.zero).flatMap TE.cells := rfl

def orUser (b : Int) (super : Bool) : Int := bif super then b else bits .or .u32 b 16
/-- The bits that the buffer asks for. -/
def asked (kind : Int) (super : Bool) : Int × Bool :=
 bif kind == 1 then (orUser 8 super, true) else bif kind == 2 then (orUser 2 super, true) else bif kind == 3 then (orUser 68 super, true) else (0, false)
def fault (kind : Int) : Int := bif kind == 1 then 7 else bif kind == 2 then 8 else bif kind == 3 then 9 else 0
/-- The bits that a walk asks for. -/
def wbits (kind : Int) (super : Bool) : Int :=
 orUser (bif kind == 1 then bits .or .u32 1 8 else bif kind == 2 then bits .or .u32 1 2 else bif kind == 3 then bits .or .u32 1 4 else 1) super
def teAt (T : List TE) (va : Nat) : TE := T.getD (va / 64 % 16) TE.zero
/-- Does an entry not do? -/
def noEntry (e : TE) (va : Nat) (a : Int × Bool) : Bool := ((!a.2 || !e.valid) || (e.vpn != ((va / 64 : Nat) : Int))) || (bits .and .u32 e.bits a.1 != a.1)
def physOf (pfn : Int) (va : Nat) : Int := IntKind.u32.wrap (IntKind.u32.wrap (pfn * 64) + ((va % 64 : Nat) : Int))
def tfind (T : List TE) (va : Nat) (kind : Int) (super : Bool) : Int × Bool :=
 bif noEntry (teAt T va) va (asked kind super) then (0, false) else (physOf (teAt T va).pfn va, true)
def tfill (T : List TE) (e : TE) : List TE := bif e.valid then T.set (e.vpn.toNat % 16) e else T
def tdrop (T : List TE) (va : Nat) : List TE := bif (teAt T va).vpn == ((va / 64 : Nat) : Int) then T.set (va / 64 % 16) TE.zero else T
def tflush : List TE := List.replicate 16 TE.zero
/-- A word of a page table. -/
def entryOf (n : Nat) (d : List Int) (a : Nat) : Option Int := bif decide (a + 4 ≤ n * 64) then some (wordAt d a) else none
def at1 (root va : Nat) : Nat := root / 64 * 64 + 4 * (va / 1024 % 16)
def at2 (e : Int) (va : Nat) : Nat := (e / 256).toNat * 64 + 4 * (va / 64 % 16)
/-- The second step, once the first entry is there. -/
def look2 (n : Nat) (d : List Int) (va : Nat) (e : Int) : Option (Nat × Int) :=
 bif e % 2 == 0 then none else (entryOf n d (at2 e va)).map fun l => (at2 e va, l)
def lookUp (n : Nat) (d : List Int) (root va : Nat) : Option (Nat × Int) :=
 bif decide (16384 ≤ va) then none else (entryOf n d (at1 root va)).bind (look2 n d va)
def lookV (r : Option (Nat × Int)) : Value := match r with | some (a, l) => .tuple #[.int .u32 a, .int .u32 l, .bool true] | none => .tuple #[.int .u32 0, .int .u32 0, .bool false]
/-- A leaf entry that was asked. -/
def marked (l : Int) (kind : Int) : Int := bif kind == 3 then bits .or .u32 (bits .or .u32 l 32) 64 else bits .or .u32 l 32
def leafE (va : Nat) (l : Int) : TE := ⟨true, ((va / 64 : Nat) : Int), l / 256, bits .and .u32 l 94⟩
/-- What a walk tells, and the memory behind it. -/
def walkTo (n : Nat) (M : Mem) (root va : Nat) (kind : Int) (super : Bool) : (TE × Tr) × Mem :=
 bif fault kind == 0 then ((TE.zero, ⟨10, va⟩), M) else
 match lookUp n M.data root va with
 | none => ((TE.zero, ⟨fault kind, va⟩), M)
 | some (a, l) => bif bits .and .u32 l (wbits kind super) != wbits kind super then ((TE.zero, ⟨fault kind, va⟩), M) else
   ((leafE va (marked l kind), Tr.none), bif marked l kind != l then M.putW a (marked l kind) else M)
/-- A memory and its buffer. -/
structure Mmu where
 m : Mem
 t : List TE
structure Sp where
 paging : Bool
 super : Bool
 root : Nat
abbrev Sp.v (s : Sp) : Value := .agg #[.bool s.paging, .bool s.super, .int .u32 (s.root : Int)]
def turnedTo (n : Nat) (U : Mmu) (s : Sp) (va : Nat) (kind : Int) : (Int × Tr) × Mmu :=
 bif !s.paging then (((va : Int), Tr.none), U) else
 bif (tfind U.t va kind s.super).2 then (((tfind U.t va kind s.super).1, Tr.none), U) else
 bif (walkTo n U.m s.root va kind s.super).1.2.cause != 0 then ((0, (walkTo n U.m s.root va kind s.super).1.2), ⟨(walkTo n U.m s.root va kind s.super).2, U.t⟩) else
 ((physOf (walkTo n U.m s.root va kind s.super).1.1.pfn va, (walkTo n U.m s.root va kind s.super).1.2), ⟨(walkTo n U.m s.root va kind s.super).2, tfill U.t (walkTo n U.m s.root va kind s.super).1.1⟩)
def isDev (a : Int) : Bool := decide (32768 ≤ a) && decide (a < 33024)
def placeTo (n : Nat) (U : Mmu) (s : Sp) (va : Nat) (kind : Int) : (Int × Tr) × Mmu :=
 bif fault kind == 0 then ((0, ⟨10, va⟩), U) else
 bif (turnedTo n U s va kind).1.2.cause != 0 then ((0, (turnedTo n U s va kind).1.2), (turnedTo n U s va kind).2) else
 bif (decide ((turnedTo n U s va kind).1.1 < ((n * 64 : Nat) : Int)) || ((kind != 1) && isDev (turnedTo n U s va kind).1.1)) then turnedTo n U s va kind else ((0, ⟨10, va⟩), (turnedTo n U s va kind).2)
end Go.Ink
/- A new memory; the translation buffer; the walk's small functions. -/
set_option linter.unusedSimpArgs false
set_option linter.unusedVariables false
set_option maxRecDepth 100000
namespace Go.Proofs.YtmhpcgmjlpfheaaGreatDoor
open Go.RowKit Go.Ink
attribute [local irreducible] OpY GuardIs

abbrev tlbC (bb : Nat) (T : List TE) : Chunk := row bb (tlbCells T) 159
theorem place_ok (v : Nat) (w : World) : Ctr Tryz.prog 197 [.int .u32 v] w [] (fun x cs => x = .int .u32 (v % 16 : Nat) ∧ cs = []) := by
 refine fn_ctr Tryz.func197 rfl Tryz.ntmps197 rfl (Inv.start w) ?_
 refine Zs (Zr (ZA ?_))
 refine Zn (Zt (Zs (Zr (ZA ?_))))
 refine Zy (y_rem (Zv rfl) (Zv rfl) (by omega) (show _ = ((v % 16 : Nat) : Int) from by rw [Int.tmod_eq_emod_of_nonneg (by omega)]; omega)) ?_
 refine ZA ?_
 refine Zn (Zt (Ze (ret1 (cs' := []) (.inl rfl) Zu rfl rfl ?_)))
 exact ⟨rfl, rfl⟩
theorem tasked_ok (kind : Int) (super : Bool) (w : World) : Ctr Tryz.prog 198 [.int .i64 kind, .bool super] w [] (fun x cs => x = .tuple #[.int .u32 (asked kind super).1, .bool (asked kind super).2] ∧ cs = []) := by
 refine fn_ctr Tryz.func198 rfl Tryz.ntmps198 rfl (Inv.start w) ?_
 refine Zs (Zr (ZA ?_))
 refine ZA ?_
 refine Zn (Zt (Zs (Zr (ZA ?_))))
 refine Zn (Zt (Zs (Zs (Zr (ZA ?_)))))
 refine Zn (Zt (Zx (Zs (Zr (ZA ?_)))))
 refine ZA ?_
 refine Zn (Zt ?_)
 refine wc_cond _ rfl (fun hc4 => ?_) (fun hc4 => ?_)
 ·refine Zr (ZA ?_)
  refine Zn (Zo (Zt (Zs (Zs (Zr (ZA ?_))))))
  refine ZA ?_
  refine Zn (Zt ?_)
  refine wc_cond _ rfl (fun hc10 => ?_) (fun hc10 => ?_)
  ·have hs : super = false := by simpa using hc10
   refine Zr (ZA ?_)
   iterate 2 refine ZA ?_
   refine Zn (Zt (Zs (Zr (ZA ?_))))
   iterate 2 refine ZA ?_
   refine Zn (Zt (Ze (ret2 (cs' := []) (.inl rfl) Zu rfl rfl rfl ?_)))
   refine ⟨?_, rfl⟩
   simp only [asked, orUser, *, cond_true, cond_false]
  have hs : super = true := by simpa using hc10
  refine Zc (Zt (Zs (Zr (ZA ?_))))
  iterate 2 refine ZA ?_
  refine Zn (Zt (Ze (ret2 (cs' := []) (.inl rfl) Zu rfl rfl rfl ?_)))
  refine ⟨?_, rfl⟩
  simp only [asked, orUser, *, cond_true, cond_false]
 refine Zs (Zr (ZA ?_))
 refine ZA ?_
 refine Zn (Zt ?_)
 refine wc_cond _ rfl (fun hc6 => ?_) (fun hc6 => ?_)
 ·refine Zr (ZA ?_)
  refine Zn (Zo (Zt (Zs (Zs (Zr (ZA ?_))))))
  refine ZA ?_
  refine Zn (Zt ?_)
  refine wc_cond _ rfl (fun hc10 => ?_) (fun hc10 => ?_)
  ·have hs : super = false := by simpa using hc10
   refine Zr (ZA ?_)
   iterate 2 refine ZA ?_
   refine Zn (Zt (Zs (Zr (ZA ?_))))
   iterate 2 refine ZA ?_
   refine Zn (Zt (Ze (ret2 (cs' := []) (.inl rfl) Zu rfl rfl rfl ?_)))
   refine ⟨?_, rfl⟩
   simp only [asked, orUser, *, cond_true, cond_false]
  have hs : super = true := by simpa using hc10
  refine Zc (Zt (Zs (Zr (ZA ?_))))
  iterate 2 refine ZA ?_
  refine Zn (Zt (Ze (ret2 (cs' := []) (.inl rfl) Zu rfl rfl rfl ?_)))
  refine ⟨?_, rfl⟩
  simp only [asked, orUser, *, cond_true, cond_false]
 refine Zs (Zr (ZA ?_))
 refine ZA ?_
 refine Zn (Zt ?_)
 refine wc_cond _ rfl (fun hc8 => ?_) (fun hc8 => ?_)
 ·refine Zr (ZA ?_)
  refine Zn (Zo (Zt (Zs (Zs (Zr (ZA ?_))))))
  refine ZA ?_
  refine Zn (Zt ?_)
  refine wc_cond _ rfl (fun hc10 => ?_) (fun hc10 => ?_)
  ·have hs : super = false := by simpa using hc10
   refine Zr (ZA ?_)
   iterate 2 refine ZA ?_
   refine Zn (Zt (Zs (Zr (ZA ?_))))
   iterate 2 refine ZA ?_
   refine Zn (Zt (Ze (ret2 (cs' := []) (.inl rfl) Zu rfl rfl rfl ?_)))
   refine ⟨?_, rfl⟩
   simp only [asked, orUser, *, cond_true, cond_false]
  have hs : super = true := by simpa using hc10
  refine Zc (Zt (Zs (Zr (ZA ?_))))
  iterate 2 refine ZA ?_
  refine Zn (Zt (Ze (ret2 (cs' := []) (.inl rfl) Zu rfl rfl rfl ?_)))
  refine ⟨?_, rfl⟩
  simp only [asked, orUser, *, cond_true, cond_false]
 refine Zs (Zr (ZA ?_))
 refine ZA ?_
 refine Zn (Zt (Ze (Zq (Zw (ret2 (cs' := []) (.inl rfl) Zu rfl rfl rfl ?_)))))
 refine ⟨?_, rfl⟩
 simp only [asked, orUser, *, cond_true, cond_false]
theorem tlbnew_ok (w : World) : Ctr Tryz.prog 54 [] w [] (fun x cs => ∃ bb, x = .pointer (some ⟨bb, 0, none⟩) ∧ cs = [tlbC bb tflush]) := by
 refine fn_ctr Tryz.func54 rfl Tryz.ntmps54 rfl (Inv.start w) ?_
 refine Zs (Zr (ZA ?_))
 refine Zn (Zt (Zs (Zr (Zy (y_build00 (vs := tlbCells tflush) Zk (.inl ⟨_, rfl, rfl⟩)) ?_))))
 refine ZO fun b2 => ?_
 refine ZA ?_
 refine Zn (Zt (Ze (ret1 (cs' := [row _ _ _]) (.inl rfl) Zu rfl rfl ?_)))
 exact ⟨_, rfl, rfl⟩
theorem tfind_ok (bb : Nat) (T : List TE) (hT : T.length = 16) (va : Nat) (hva : va ≤ 4294967295) (kind : Int) (super : Bool) (w : World) (h : (tlbC bb T).ok w) : Ctr Tryz.prog 155 [.pointer (some ⟨bb, 0, none⟩), .int .u32 va, .int .i64 kind, .bool super] w [] (fun x cs => x = .tuple #[.int .u32 (tfind T va kind super).1, .bool (tfind T va kind super).2] ∧ cs = []) := by
 have hlt : va / 64 % 16 < T.length := by omega
 have he : T[va / 64 % 16]? = some (teAt T va) := by simp [teAt, hlt]
 obtain ⟨e, hee⟩ : ∃ e, teAt T va = e := ⟨_, rfl⟩
 obtain ⟨a, ha⟩ : ∃ a, asked kind super = a := ⟨_, rfl⟩
 have hA := tasked_ok kind super
 unfold tfind
 rw [hee] at he ⊢
 rw [ha] at hA ⊢
 refine fn_ctr Tryz.func155 rfl Tryz.ntmps155 rfl (Inv.start w) ?_
 refine Zs (Zr (ZA ?_))
 refine ZA ?_
 refine Zn (Zt (Zs (Zr (ZA ?_))))
 refine Zy (y_quo (Zv rfl) (Zv rfl) (by omega) (show _ = ((va / 64 : Nat) : Int) from by rw [Int.tdiv_eq_ediv_of_nonneg (by omega), u32_wrap_id _ (by omega) (by omega)]; omega)) ?_
 refine ZA ?_
 refine Zn (Zt (Zs (wc_draw ⟨fun j => List.elem j [8], []⟩ Zk ?_)))
 refine ZE 0 ?_
 refine ZE 1 ?_
 refine ZE 3 ?_
 refine ZFe 4 0 ?_
 refine wa_2 2 7 Zk ?_ ?_
 ·refine ZT (fun w hi => place_ok (va / 64) w) ?_
  rintro _ _ ⟨_, ⟨rfl, rfl⟩, rfl⟩
  refine wa_yn 5 rfl Zk Zk Zk (y_indexA (j := (va / 64 % 16)) (sz := 4) (r := (va / 64 % 16) * 4) rfl (fun _ => rfl) (Zv rfl) (Zv rfl) (fun _ => by omega) (fun _ => by omega) (by omega)) rfl ?_
  refine wa_ln 6 rfl Zk Zk Zk Zk (y_loadN (vs := e.cells) (fun _ => rfl) (fun _ => rfl) (Zv rfl)) (old_rows (o := (va / 64 % 16) * 4) h (tlbCells_get he)) rfl ?_
  refine wa_1 7 Zk ?_
  refine ZP fun b11 => ?_
  refine wa_1 8 Zk ?_
  refine ZR ?_
  refine wa_done Zk ?_
  refine Zt (Zs (Zr (ZA ?_)))
  refine ZA ?_
  refine ZS (fun w hi => hA w) ?_
  rintro _ _ ⟨_, ⟨rfl, rfl⟩, rfl⟩
  iterate 5 refine ZA ?_
  refine Zn (Zt (Zs (Zs (Zr (ZA ?_)))))
  iterate 2 refine ZA ?_
  refine ZFb 0 ?_
  refine ZD ?_
  refine ZB ?_
  iterate 2 refine ZA ?_
  refine ZFb 1 ?_
  refine ZD ?_
  iterate 2 refine ZB ?_
  iterate 2 refine ZA ?_
  refine ZFb 3 ?_
  refine ZD ?_
  iterate 4 refine ZB ?_
  refine ZA ?_
  refine Zn (Zt ?_)
  refine wc_cond _ rfl (fun hc4 => ?_) (fun hc4 => ?_)
  ·have hc : noEntry e va a = true := hc4
   refine Zs (Zr (ZA ?_))
   refine ZA ?_
   refine Zn (Zt (Ze (Zw (ret2 (cs' := []) (.inl rfl) Zu rfl rfl rfl ?_))))
   rw [hc]
   exact ⟨rfl, rfl⟩
  have hc : noEntry e va a = false := hc4
  refine Zc (Zt (Zs (Zr (ZFa 2 ?_))))
  refine ZC ?_
  refine Zy (y_mul (Zv rfl) (Zv rfl) rfl) ?_
  refine ZA ?_
  refine Zy (y_rem (Zv rfl) (Zv rfl) (by omega) (show _ = ((va % 64 : Nat) : Int) from by rw [Int.tmod_eq_emod_of_nonneg (by omega)]; omega)) ?_
  refine Zy (y_add (Zv rfl) (Zv rfl) rfl) ?_
  iterate 2 refine ZA ?_
  refine Zn (Zt (Ze (ret2 (cs' := []) (.inl rfl) Zu rfl rfl rfl ?_)))
  rw [hc]
  exact ⟨rfl, rfl⟩
 refine ZP fun b11 => ?_
 refine wa_1 2 Zk ?_
 refine ZT (fun w hi => place_ok (va / 64) w) ?_
 rintro _ _ ⟨_, ⟨rfl, rfl⟩, rfl⟩
 refine wa_yn 5 rfl Zk Zk Zk (y_indexA (j := (va / 64 % 16)) (sz := 4) (r := (va / 64 % 16) * 4) rfl (fun _ => rfl) (Zv rfl) (Zv rfl) (fun _ => by omega) (fun _ => by omega) (by omega)) rfl ?_
 refine wa_ln 6 rfl Zk Zk Zk Zk (y_loadN (vs := e.cells) (fun _ => rfl) (fun _ => rfl) (Zv rfl)) (old_rows (o := (va / 64 % 16) * 4) h (tlbCells_get he)) rfl ?_
 refine wa_1 8 Zk ?_
 refine ZR ?_
 refine wa_done Zk ?_
 refine Zt (Zs (Zr (ZA ?_)))
 refine ZA ?_
 refine ZS (fun w hi => hA w) ?_
 rintro _ _ ⟨_, ⟨rfl, rfl⟩, rfl⟩
 iterate 5 refine ZA ?_
 refine Zn (Zt (Zs (Zs (Zr (ZA ?_)))))
 iterate 2 refine ZA ?_
 refine ZFb 0 ?_
 refine ZD ?_
 refine ZB ?_
 iterate 2 refine ZA ?_
 refine ZFb 1 ?_
 refine ZD ?_
 iterate 2 refine ZB ?_
 iterate 2 refine ZA ?_
 refine ZFb 3 ?_
 refine ZD ?_
 iterate 4 refine ZB ?_
 refine ZA ?_
 refine Zn (Zt ?_)
 refine wc_cond _ rfl (fun hc4 => ?_) (fun hc4 => ?_)
 ·have hc : noEntry e va a = true := hc4
  refine Zs (Zr (ZA ?_))
  refine ZA ?_
  refine Zn (Zt (Ze (Zw (ret2 (cs' := []) (.inl rfl) Zu rfl rfl rfl ?_))))
  rw [hc]
  exact ⟨rfl, rfl⟩
 have hc : noEntry e va a = false := hc4
 refine Zc (Zt (Zs (Zr (ZFa 2 ?_))))
 refine ZC ?_
 refine Zy (y_mul (Zv rfl) (Zv rfl) rfl) ?_
 refine ZA ?_
 refine Zy (y_rem (Zv rfl) (Zv rfl) (by omega) (show _ = ((va % 64 : Nat) : Int) from by rw [Int.tmod_eq_emod_of_nonneg (by omega)]; omega)) ?_
 refine Zy (y_add (Zv rfl) (Zv rfl) rfl) ?_
 iterate 2 refine ZA ?_
 refine Zn (Zt (Ze (ret2 (cs' := []) (.inl rfl) Zu rfl rfl rfl ?_)))
 rw [hc]
 exact ⟨rfl, rfl⟩
theorem tfill_ok (bb : Nat) (T : List TE) (hT : T.length = 16) (e : TE) (he : e.wf) (w : World) (hi : Inv w (blocks [tlbC bb T]) [tlbC bb T] w) : Ctr Tryz.prog 157 [.pointer (some ⟨bb, 0, none⟩), e.v] w [tlbC bb T] (fun x cs => x = .bool e.valid ∧ cs = [tlbC bb (tfill T e)]) := by
 obtain ⟨v0, v1⟩ := he.vpn
 obtain ⟨vp, hvp⟩ := Int.eq_ofNat_of_zero_le v0
 obtain ⟨ev, evpn, epfn, eb⟩ := e
 simp only at hvp v0 v1
 subst hvp
 refine fn_ctr Tryz.func157 rfl Tryz.ntmps157 rfl hi ?_
 refine Zs (Zr (ZO fun b3 => ?_))
 refine ZA ?_
 refine Zn (Zt (Zs (Zs (Zr (ZFa 0 ?_)))))
 refine ZC ?_
 refine Zn (Zt ?_)
 refine wc_cond _ rfl (fun hc1 => ?_) (fun hc1 => ?_)
 ·have hv : ev = true := hc1
  subst hv
  refine wc_draw ⟨fun j => List.elem j [8], []⟩ Zk ?_
  refine ZE 0 ?_
  refine ZFe 1 1 ?_
  refine ZG 2 ?_
  refine ZI 4 ?_
  refine ZE 5 ?_
  refine ZFe 6 0 ?_
  refine wa_1 3 Zk ?_
  refine ZT (fun w hi => place_ok vp w) ?_
  rintro _ _ ⟨_, ⟨rfl, rfl⟩, rfl⟩
  refine wa_yn 7 rfl Zk Zk Zk (y_indexA (j := (vp % 16)) (sz := 4) (r := (vp % 16) * 4) rfl (fun _ => rfl) (Zv rfl) (Zv rfl) (fun _ => by omega) (fun _ => by omega) (by omega)) rfl ?_
  refine wa_1 8 Zk ?_
  refine wi_t0 rfl rfl (t_storeRN (n := 4) (vs := TE.cells ⟨true, (vp : Int), epfn, eb⟩) (fun _ => rfl) rfl rfl (allT rfl) Za rfl (by rw [tlbCells_len]; simp only [TE.cells, List.length_cons, List.length_nil]; omega)) (fun _ _ _ _ _ _ _ h => by cases h) ?_
  rintro _ _ ⟨rfl, rfl⟩
  rw [show (TE.cells ⟨true, (vp : Int), epfn, eb⟩).length = 4 from rfl, tlbCells_set (T := T) (i := vp % 16) ⟨true, (vp : Int), epfn, eb⟩ (by omega)]
  refine wa_done Zk ?_
  refine Zt (Zs (Zr (ZFa 0 ?_)))
  refine ZC ?_
  refine ZA ?_
  refine Zn (Zt (Ze (ret1 (cs' := [row _ _ _]) (.inl rfl) Zu rfl rfl ?_)))
  exact ⟨rfl, rfl⟩
 have hv : ev = false := hc1
 subst hv
 refine Zc (Zt (Zs (Zr (ZFa 0 ?_))))
 refine ZC ?_
 refine ZA ?_
 refine Zn (Zt (Ze (ret1 (cs' := [row _ _ _]) (.inl rfl) Zu rfl rfl ?_)))
 exact ⟨rfl, rfl⟩
theorem tdrop_ok (bb : Nat) (T : List TE) (hT : T.length = 16) (va : Nat) (hva : va ≤ 4294967295) (w : World) (hi : Inv w (blocks [tlbC bb T]) [tlbC bb T] w) : Ctr Tryz.prog 242 [.pointer (some ⟨bb, 0, none⟩), .int .u32 va] w [tlbC bb T] (fun x cs => x = .tuple #[] ∧ cs = [tlbC bb (tdrop T va)]) := by
 have hlt : va / 64 % 16 < T.length := by omega
 have he : T[va / 64 % 16]? = some (teAt T va) := by simp [teAt, hlt]
 have hcell : (tlbCells T)[(va / 64 % 16) * 4 + 1]? = some (.int .u32 (teAt T va).vpn) := by
  have h1 := tlbCells_get he
  have h2 : (((tlbCells T).drop ((va / 64 % 16) * 4)).take 4)[1]? = some (.int .u32 (teAt T va).vpn) := by rw [h1]; rfl
  rw [List.getElem?_take, if_pos (by omega), List.getElem?_drop] at h2
  exact h2
 unfold tdrop
 obtain ⟨e, hee⟩ : ∃ e, teAt T va = e := ⟨_, rfl⟩
 rw [hee] at hcell ⊢
 refine fn_ctr Tryz.func242 rfl Tryz.ntmps242 rfl hi ?_
 refine Zs (Zr (ZA ?_))
 refine Zy (y_quo (Zv rfl) (Zv rfl) (by omega) (show _ = ((va / 64 : Nat) : Int) from by rw [Int.tdiv_eq_ediv_of_nonneg (by omega), u32_wrap_id _ (by omega) (by omega)]; omega)) ?_
 refine ZA ?_
 refine Zn (Zt (Zs (wc_draw ⟨fun j => List.elem j [], []⟩ Zk ?_)))
 refine ZE 0 ?_
 refine ZE 1 ?_
 refine ZE 3 ?_
 refine ZFe 4 0 ?_
 refine wa_1 2 Zk ?_
 refine ZT (fun w hi => place_ok (va / 64) w) ?_
 rintro _ _ ⟨_, ⟨rfl, rfl⟩, rfl⟩
 refine wa_yn 5 rfl Zk Zk Zk (y_indexA (j := (va / 64 % 16)) (sz := 4) (r := (va / 64 % 16) * 4) rfl (fun _ => rfl) (Zv rfl) (Zv rfl) (fun _ => by omega) (fun _ => by omega) (by omega)) rfl ?_
 refine ZE 6 ?_
 refine wa_done Zk ?_
 refine Zt (Zs (Zr (ZA ?_)))
 refine ZA ?_
 refine ZFa 1 ?_
 refine wl_y (y_load (fun _ => rfl) (Zv rfl)) (row_cell Zh hcell) rfl ?_
 iterate 2 refine ZA ?_
 refine Zn (Zt ?_)
 refine wc_cond _ rfl (fun hc2 => ?_) (fun hc2 => ?_)
 ·rw [hc2]
  refine Zr (ZA ?_)
  iterate 2 refine ZA ?_
  refine wl_t0 (t_storeRN (n := 4) (vs := TE.zero.cells) (fun _ => rfl) rfl rfl (allT rfl) Za rfl (by rw [tlbCells_len]; simp only [TE.cells, List.length_cons, List.length_nil]; omega)) ?_
  rintro _ _ ⟨rfl, rfl⟩
  rw [show TE.zero.cells.length = 4 from rfl, tlbCells_set (T := T) TE.zero hlt]
  refine Zn (ret0 (cs' := [row _ _ _]) (.inr rfl) Zu rfl ?_)
  exact ⟨rfl, rfl⟩
 rw [hc2]
 refine Zc (ret0 (cs' := [row _ _ _]) (.inr rfl) Zu rfl ?_)
 exact ⟨rfl, rfl⟩
theorem tflush_ok (bb : Nat) (T : List TE) (hT : T.length = 16) (w : World) (hi : Inv w (blocks [tlbC bb T]) [tlbC bb T] w) : Ctr Tryz.prog 241 [.pointer (some ⟨bb, 0, none⟩)] w [tlbC bb T] (fun x cs => x = .tuple #[] ∧ cs = [tlbC bb tflush]) := by
 refine fn_ctr Tryz.func241 rfl Tryz.ntmps241 rfl hi ?_
 refine Zr (ZA ?_)
 refine Zy (y_build00 (vs := tlbCells tflush) Zk (.inr ⟨_, _, _, rfl, fun _ => rfl⟩)) ?_
 refine ZA ?_
 refine ZFa 0 ?_
 refine wl_t0 (t_storeRN (n := 64) (fun _ => rfl) rfl rfl (allT Zk) Za Zk (by rw [tlbCells_len, tlbCells_len, hT]; decide)) ?_
 rintro _ _ ⟨rfl, rfl⟩
 rw [show (tlbCells tflush).length = 64 by kernel_rfl, List.take_zero, List.nil_append, List.drop_eq_nil_of_le (by rw [tlbCells_len, hT]; decide), List.append_nil]
 refine Zn (ret0 (cs' := [row _ _ _]) (.inr rfl) Zu rfl ?_)
 exact ⟨rfl, rfl⟩
theorem fault_ok (kind : Int) (w : World) : Ctr Tryz.prog 133 [.int .i64 kind] w [] (fun x cs => x = .int .i64 (fault kind) ∧ cs = []) := by
 refine fn_ctr Tryz.func133 rfl Tryz.ntmps133 rfl (Inv.start w) ?_
 refine Zs (Zr (ZA ?_))
 refine Zn (Zt (Zs (Zs (Zr (ZA ?_)))))
 refine Zn (Zt (Zx (Zs (Zr (ZA ?_)))))
 refine ZA ?_
 refine Zn (Zt ?_)
 refine wc_cond _ rfl (fun hc2 => ?_) (fun hc2 => ?_)
 ·refine Zs (Zr (ZA ?_))
  refine Zn (Zt (Ze (Zq (Zw (ret1 (cs' := []) (.inl rfl) Zu rfl rfl ?_)))))
  refine ⟨?_, rfl⟩
  simp only [fault, *, cond_true, cond_false]
 refine Zs (Zr (ZA ?_))
 refine ZA ?_
 refine Zn (Zt ?_)
 refine wc_cond _ rfl (fun hc4 => ?_) (fun hc4 => ?_)
 ·refine Zs (Zr (ZA ?_))
  refine Zn (Zt (Ze (Zq (Zw (ret1 (cs' := []) (.inl rfl) Zu rfl rfl ?_)))))
  refine ⟨?_, rfl⟩
  simp only [fault, *, cond_true, cond_false]
 refine Zs (Zr (ZA ?_))
 refine ZA ?_
 refine Zn (Zt ?_)
 refine wc_cond _ rfl (fun hc6 => ?_) (fun hc6 => ?_)
 ·refine Zs (Zr (ZA ?_))
  refine Zn (Zt (Ze (Zq (Zw (ret1 (cs' := []) (.inl rfl) Zu rfl rfl ?_)))))
  refine ⟨?_, rfl⟩
  simp only [fault, *, cond_true, cond_false]
 refine Zc (Zo (Zt (Zs (Zr (ZA ?_)))))
 refine Zn (Zt (Ze (ret1 (cs' := []) (.inl rfl) Zu rfl rfl ?_)))
 refine ⟨?_, rfl⟩
 simp only [fault, *, cond_true, cond_false]
theorem wbits_ok (kind : Int) (super : Bool) (w : World) : Ctr Tryz.prog 199 [.int .i64 kind, .bool super] w [] (fun x cs => x = .int .u32 (wbits kind super) ∧ cs = []) := by
 refine fn_ctr Tryz.func199 rfl Tryz.ntmps199 rfl (Inv.start w) ?_
 refine Zs (Zr (ZA ?_))
 refine Zn (Zt (Zs (Zr (ZA ?_))))
 refine Zn (Zt (Zs (Zs (Zr (ZA ?_)))))
 refine Zn (Zt (Zx (Zs (Zr (ZA ?_)))))
 refine ZA ?_
 refine Zn (Zt ?_)
 refine wc_cond _ rfl (fun hc3 => ?_) (fun hc3 => ?_)
 ·refine Zr (ZA ?_)
  iterate 2 refine ZA ?_
  refine Zn (Zo (Zt (Zs (Zs (Zr (ZA ?_))))))
  refine ZA ?_
  refine Zn (Zt ?_)
  refine wc_cond _ rfl (fun hc9 => ?_) (fun hc9 => ?_)
  ·have hs : super = false := by simpa using hc9
   refine Zr (ZA ?_)
   iterate 2 refine ZA ?_
   refine Zn (Zt (Zs (Zr (ZA ?_))))
   refine ZA ?_
   refine Zn (Zt (Ze (ret1 (cs' := []) (.inl rfl) Zu rfl rfl ?_)))
   refine ⟨?_, rfl⟩
   simp only [wbits, orUser, *, cond_true, cond_false]
  have hs : super = true := by simpa using hc9
  refine Zc (Zt (Zs (Zr (ZA ?_))))
  refine ZA ?_
  refine Zn (Zt (Ze (ret1 (cs' := []) (.inl rfl) Zu rfl rfl ?_)))
  refine ⟨?_, rfl⟩
  simp only [wbits, orUser, *, cond_true, cond_false]
 refine Zs (Zr (ZA ?_))
 refine ZA ?_
 refine Zn (Zt ?_)
 refine wc_cond _ rfl (fun hc5 => ?_) (fun hc5 => ?_)
 ·refine Zr (ZA ?_)
  iterate 2 refine ZA ?_
  refine Zn (Zo (Zt (Zs (Zs (Zr (ZA ?_))))))
  refine ZA ?_
  refine Zn (Zt ?_)
  refine wc_cond _ rfl (fun hc9 => ?_) (fun hc9 => ?_)
  ·have hs : super = false := by simpa using hc9
   refine Zr (ZA ?_)
   iterate 2 refine ZA ?_
   refine Zn (Zt (Zs (Zr (ZA ?_))))
   refine ZA ?_
   refine Zn (Zt (Ze (ret1 (cs' := []) (.inl rfl) Zu rfl rfl ?_)))
   refine ⟨?_, rfl⟩
   simp only [wbits, orUser, *, cond_true, cond_false]
  have hs : super = true := by simpa using hc9
  refine Zc (Zt (Zs (Zr (ZA ?_))))
  refine ZA ?_
  refine Zn (Zt (Ze (ret1 (cs' := []) (.inl rfl) Zu rfl rfl ?_)))
  refine ⟨?_, rfl⟩
  simp only [wbits, orUser, *, cond_true, cond_false]
 refine Zs (Zr (ZA ?_))
 refine ZA ?_
 refine Zn (Zt ?_)
 refine wc_cond _ rfl (fun hc7 => ?_) (fun hc7 => ?_)
 ·refine Zr (ZA ?_)
  iterate 2 refine ZA ?_
  refine Zn (Zo (Zt (Zs (Zs (Zr (ZA ?_))))))
  refine ZA ?_
  refine Zn (Zt ?_)
  refine wc_cond _ rfl (fun hc9 => ?_) (fun hc9 => ?_)
  ·have hs : super = false := by simpa using hc9
   refine Zr (ZA ?_)
   iterate 2 refine ZA ?_
   refine Zn (Zt (Zs (Zr (ZA ?_))))
   refine ZA ?_
   refine Zn (Zt (Ze (ret1 (cs' := []) (.inl rfl) Zu rfl rfl ?_)))
   refine ⟨?_, rfl⟩
   simp only [wbits, orUser, *, cond_true, cond_false]
  have hs : super = true := by simpa using hc9
  refine Zc (Zt (Zs (Zr (ZA ?_))))
  refine ZA ?_
  refine Zn (Zt (Ze (ret1 (cs' := []) (.inl rfl) Zu rfl rfl ?_)))
  refine ⟨?_, rfl⟩
  simp only [wbits, orUser, *, cond_true, cond_false]
 refine Zc (Zo (Zt (Zs (Zs (Zr (ZA ?_))))))
 refine ZA ?_
 refine Zn (Zt ?_)
 refine wc_cond _ rfl (fun hc9 => ?_) (fun hc9 => ?_)
 ·have hs : super = false := by simpa using hc9
  refine Zr (ZA ?_)
  iterate 2 refine ZA ?_
  refine Zn (Zt (Zs (Zr (ZA ?_))))
  refine ZA ?_
  refine Zn (Zt (Ze (ret1 (cs' := []) (.inl rfl) Zu rfl rfl ?_)))
  refine ⟨?_, rfl⟩
  simp only [wbits, orUser, *, cond_true, cond_false]
 have hs : super = true := by simpa using hc9
 refine Zc (Zt (Zs (Zr (ZA ?_))))
 refine ZA ?_
 refine Zn (Zt (Ze (ret1 (cs' := []) (.inl rfl) Zu rfl rfl ?_)))
 refine ⟨?_, rfl⟩
 simp only [wbits, orUser, *, cond_true, cond_false]
end Go.Proofs.YtmhpcgmjlpfheaaGreatDoor
/- Page tables walked; a new memory with bytes; a new unit. -/
set_option linter.unusedSimpArgs false
set_option linter.unusedVariables false
set_option maxRecDepth 100000
namespace Go.Ink
open Go.RowKit
theorem and1 {v : Int} (h : u32 v) : bits .and .u32 v 1 = v % 2 := bits_mask .u32 32 (by decide) wraps_u32 1 (by decide) v h.1 (by have := h.2; omega)
theorem and15' {v : Int} (h : u32 v) : bits .and .u32 v 15 = v % 16 := bits_mask .u32 32 (by decide) wraps_u32 4 (by decide) v h.1 (by have := h.2; omega)
theorem and63' {v : Int} (h : u32 v) : bits .and .u32 v 63 = v % 64 := bits_mask .u32 32 (by decide) wraps_u32 6 (by decide) v h.1 (by have := h.2; omega)
theorem shrE (a : Int) (n : Nat) : a.fdiv (2 ^ n) = a / 2 ^ n := Int.fdiv_eq_ediv_of_nonneg a (by exact Int.le_of_lt (Int.pow_pos (by decide)))
theorem andNot63' (v : Nat) (h : v ≤ 4294967295) : bits .andNot .u32 (v : Int) 63 = ((v / 64 * 64 : Nat) : Int) := by
 show IntKind.u32.wrap (((BitVec.ofInt 32 (v : Int)) &&& ~~~ (BitVec.ofInt 32 63)).toNat : Int) = _
 have e1 : (BitVec.ofInt 32 (v : Int)).toNat = v := by rw [BitVec.ofInt_natCast, BitVec.toNat_ofNat]; exact Nat.mod_eq_of_lt (by omega)
 have h1 : v &&& 4294967232 = (v / 64) * 64 := by
  apply Nat.eq_of_testBit_eq
  intro i
  have e : (4294967232 : Nat) = (2 ^ 26 - 1) * 2 ^ 6 := by decide
  rw [e, Nat.testBit_and, show (v / 64) * 64 = (v / 2 ^ 6) * 2 ^ 6 from rfl]
  rw [Nat.testBit_mul_two_pow, Nat.testBit_mul_two_pow, Nat.testBit_two_pow_sub_one, Nat.testBit_div_two_pow]
  by_cases hi : 6 ≤ i
  ·simp only [hi, decide_true, Bool.true_and, show i - 6 + 6 = i by omega]
   by_cases h26 : i - 6 < 26
   ·simp [h26]
   have : v.testBit i = false := Nat.testBit_lt_two_pow (Nat.lt_of_lt_of_le (show v < 2 ^ 32 by omega) (Nat.pow_le_pow_right (by omega) (by omega)))
   simp [this]
  simp [hi]
 rw [BitVec.toNat_and, e1, show (~~~ (BitVec.ofInt 32 63)).toNat = 4294967232 from by decide, h1]
 exact u32_wrap_id _ (by omega) (by omega)
def entV (o : Option Int) : Value := match o with | some e => .tuple #[.int .u32 e, .bool true] | none => .tuple #[.int .u32 0, .bool false]
theorem entryOf_u32 {n : Nat} {d : List Int} {a : Nat} {e : Int} (h : u8s d) (he : entryOf n d a = some e) : u32 e ∧ a + 4 ≤ n * 64 := by
 unfold entryOf at he
 cases hc : decide (a + 4 ≤ n * 64) with
 | true =>
  rw [hc] at he
  simp only [cond_true, Option.some.injEq] at he
  subst he
  exact ⟨wordAt_u32 h a, of_decide_eq_true hc⟩
 | false => rw [hc] at he; cases he
theorem lookUp_in {n : Nat} {d : List Int} {root va a : Nat} {l : Int} (h : u8s d) (hl : lookUp n d root va = some (a, l)) : u32 l ∧ a + 4 ≤ n * 64 := by
 unfold lookUp at hl
 cases hc : decide (16384 ≤ va) with
 | true => rw [hc] at hl; cases hl
 | false =>
  rw [hc] at hl
  simp only [cond_false] at hl
  obtain ⟨e, h1, h2⟩ := Option.bind_eq_some_iff.1 hl
  unfold look2 at h2
  cases hc2 : (e % 2 == 0) with
  | true => rw [hc2] at h2; cases h2
  | false =>
   rw [hc2] at h2
   simp only [cond_false] at h2
   obtain ⟨l', h3, h4⟩ := Option.map_eq_some_iff.1 h2
   simp only [Prod.mk.injEq] at h4
   obtain ⟨rfl, rfl⟩ := h4
   exact entryOf_u32 h h3
theorem bits_u32 (op : BinOp) (a b : Int) : u32 (bits op .u32 a b) := by
 cases op <;> exact ⟨by show 0 ≤ IntKind.u32.wrap _; rw [IntKind.wrap_u32]; omega, by show IntKind.u32.wrap _ ≤ _; rw [IntKind.wrap_u32]; omega⟩
theorem marked_u32 (l : Int) (kind : Int) : u32 (marked l kind) := by
 unfold marked
 cases (kind == 3)
 ·exact bits_u32 .or _ _
 exact bits_u32 .or _ _
end Go.Ink
namespace Go.Proofs.YtmhpcgmjlpfheaaGreatDoor
open Go.RowKit Go.Ink
attribute [local irreducible] OpY GuardIs

theorem entry_ok (L : MLoc) (M : Mem) (a : Nat) (ha : a ≤ 4294967295000) (w : World) (h : (memC L M).ok w) : Ctr Tryz.prog 243 [.pointer (some ⟨L.bm, 0, none⟩), .int .u64 a] w [] (fun v cs => v = entV (entryOf L.n M.data a) ∧ cs = []) := by
 obtain ⟨n1, n64, hdl, hdb, htl⟩ := mem_n h
 refine fn_ctr Tryz.func243 rfl Tryz.ntmps243 rfl (Inv.start w) ?_
 refine Zs (Zr (ZA ?_))
 refine ZA ?_
 refine Zn (Zt (Zs (Zs (Zr (ZA ?_)))))
 refine ZA ?_
 refine ZS (fun w hi => rsize_ok L M w (Chunk.old h hi)) ?_
 rintro _ _ ⟨_, ⟨rfl, rfl⟩, rfl⟩
 refine Zy (y_conv rfl rfl (Zv rfl) (by first | exact IntWalk.u64_in _ ⟨by omega, by omega⟩ | exact rfl)) ?_
 refine ZA ?_
 refine Zn (Zt ?_)
 refine wc_cond _ rfl (fun hc1 => ?_) (fun hc1 => ?_)
 ·simp only [decide_eq_true_eq] at hc1
  have hc : decide (a + 4 ≤ L.n * 64) = false := decide_eq_false (by omega)
  refine Zs (Zr (ZA ?_))
  refine ZA ?_
  refine Zn (Zt (Ze (Zw (ret2 (cs' := []) (.inl rfl) Zu rfl rfl rfl ?_))))
  unfold entV entryOf
  rw [hc]
  exact ⟨rfl, rfl⟩
 simp only [decide_eq_false_iff_not] at hc1
 refine Zc (Zt (Zs ?_))
 refine (Bool.eq_false_or_eq_true (decide (a + 4 ≤ L.n * 64))).elim (fun h0 => ?_) (fun h0 => ?_)
 ·refine Zr (ZA ?_)
  refine ZA ?_
  refine Zy (y_conv rfl rfl (Zv rfl) (u32_wrap_id _ (by omega) (by omega))) ?_
  refine ZS (fun w hi => rword_ok L M a (by omega) w (Chunk.old h hi)) ?_
  rintro _ _ ⟨_, ⟨rfl, rfl⟩, rfl⟩
  unfold entV entryOf wordV
  rw [h0]
  simp only [cond_true]
  iterate 4 refine ZA ?_
  refine Zn (Zt (Ze (ret2 (cs' := []) (.inl rfl) Zu rfl rfl rfl ?_)))
  exact ⟨rfl, rfl⟩
 refine Zr (ZA ?_)
 refine ZA ?_
 refine Zy (y_conv rfl rfl (Zv rfl) (u32_wrap_id _ (by omega) (by omega))) ?_
 refine ZS (fun w hi => rword_ok L M a (by omega) w (Chunk.old h hi)) ?_
 rintro _ _ ⟨_, ⟨rfl, rfl⟩, rfl⟩
 unfold entV entryOf wordV
 rw [h0]
 simp only [cond_false]
 iterate 4 refine ZA ?_
 refine Zn (Zt (Ze (ret2 (cs' := []) (.inl rfl) Zu rfl rfl rfl ?_)))
 exact ⟨rfl, rfl⟩
set_option maxHeartbeats 1000000 in
theorem look_ok (L : MLoc) (M : Mem) (root va : Nat) (hroot : root ≤ 4294967295) (hva : va ≤ 4294967295) (w : World) (h : (memC L M).ok w) : Ctr Tryz.prog 200 [.pointer (some ⟨L.bm, 0, none⟩), .int .u32 root, .int .u32 va] w [] (fun v cs => v = lookV (lookUp L.n M.data root va) ∧ cs = []) := by
 obtain ⟨n1, n64, hdl, hdb, htl⟩ := mem_n h
 obtain ⟨e1, he1⟩ : ∃ e, entryOf L.n M.data (at1 root va) = e := ⟨_, rfl⟩
 have HE1 := entry_ok L M (at1 root va) (by unfold at1; omega)
 rw [he1] at HE1
 refine fn_ctr Tryz.func200 rfl Tryz.ntmps200 rfl (Inv.start w) ?_
 refine Zs (Zr (ZA ?_))
 iterate 2 refine ZA ?_
 refine Zn (Zt (Zs (Zs (Zr (ZA ?_)))))
 iterate 2 refine ZA ?_
 iterate 2 refine ZB ?_
 refine ZA ?_
 refine Zn (Zt ?_)
 refine wc_cond _ rfl (fun hc1 => ?_) (fun hc1 => ?_)
 ·have hc : decide (16384 ≤ va) = true := by (have h0 : (16384 : Int) ≤ va := by simpa using hc1); exact decide_eq_true (by omega)
  have hl : lookUp L.n M.data root va = none := by (unfold lookUp; rw [hc]; rfl)
  rw [hl]
  refine Zs (Zr (ZA ?_))
  iterate 2 refine ZA ?_
  refine Zn (Zt (Ze (Zw (ret3 (cs' := []) (.inl rfl) Zu rfl rfl rfl rfl ?_))))
  exact ⟨rfl, rfl⟩
 have hlt : va < 16384 := by (have h0 : ¬ (16384 : Int) ≤ va := by simpa using hc1); omega
 have hl : lookUp L.n M.data root va = e1.bind (look2 L.n M.data va) := by (unfold lookUp; rw [decide_eq_false (by omega), he1]; rfl)
 rw [hl]
 refine Zc (Zt (Zs ?_))
 revert HE1 he1
 refine Option.rec (fun he1 HE1 => ?_) (fun e he1 HE1 => ?_) e1
 ·refine Zr (ZA ?_)
  refine ZA ?_
  refine Zy (y_andNot (Zv rfl) (Zv rfl) (andNot63' root hroot)) ?_
  refine Zy (y_conv rfl rfl (Zv rfl) (by first | exact IntWalk.u64_in _ ⟨by omega, by omega⟩ | exact rfl)) ?_
  refine ZA ?_
  refine Zy (y_shr (Zv rfl) (Zv rfl) (by omega) (show _ = ((va / 1024 : Nat) : Int) from (shrE _ 10).trans (by omega))) ?_
  refine Zy (y_and_ (Zv rfl) (Zv rfl) (show _ = ((va / 1024 % 16 : Nat) : Int) from (and15' ⟨by omega, by omega⟩).trans (by omega))) ?_
  refine Zy (y_mul (Zv rfl) (Zv rfl) (show _ = ((4 * (va / 1024 % 16) : Nat) : Int) from (u32_wrap_id _ (by omega) (by omega)).trans (by omega))) ?_
  refine Zy (y_conv rfl rfl (Zv rfl) (by first | exact IntWalk.u64_in _ ⟨by omega, by omega⟩ | exact rfl)) ?_
  refine Zy (y_add (Zv rfl) (Zv rfl) (show _ = ((at1 root va : Nat) : Int) from (u64_wrap_id _ (by omega) (by omega)).trans (by unfold at1; omega))) ?_
  refine ZS (fun w hi => HE1 w (Chunk.old h hi)) ?_
  rintro _ _ ⟨_, ⟨rfl, rfl⟩, rfl⟩
  simp only [entV]
  iterate 5 refine ZA ?_
  refine Zn (Zt (Zs (Zs (Zr (ZA ?_)))))
  iterate 2 refine ZA ?_
  iterate 3 refine ZB ?_
  refine ZA ?_
  refine Zn (Zt (wc_cond_t rfl (rfl) ?_))
  refine Zs (Zr (ZA ?_))
  iterate 2 refine ZA ?_
  refine Zn (Zt (Ze (Zw (ret3 (cs' := []) (.inl rfl) Zu rfl rfl rfl rfl ?_))))
  exact ⟨rfl, rfl⟩
 refine Zr (ZA ?_)
 refine ZA ?_
 refine Zy (y_andNot (Zv rfl) (Zv rfl) (andNot63' root hroot)) ?_
 refine Zy (y_conv rfl rfl (Zv rfl) (by first | exact IntWalk.u64_in _ ⟨by omega, by omega⟩ | exact rfl)) ?_
 refine ZA ?_
 refine Zy (y_shr (Zv rfl) (Zv rfl) (by omega) (show _ = ((va / 1024 : Nat) : Int) from (shrE _ 10).trans (by omega))) ?_
 refine Zy (y_and_ (Zv rfl) (Zv rfl) (show _ = ((va / 1024 % 16 : Nat) : Int) from (and15' ⟨by omega, by omega⟩).trans (by omega))) ?_
 refine Zy (y_mul (Zv rfl) (Zv rfl) (show _ = ((4 * (va / 1024 % 16) : Nat) : Int) from (u32_wrap_id _ (by omega) (by omega)).trans (by omega))) ?_
 refine Zy (y_conv rfl rfl (Zv rfl) (by first | exact IntWalk.u64_in _ ⟨by omega, by omega⟩ | exact rfl)) ?_
 refine Zy (y_add (Zv rfl) (Zv rfl) (show _ = ((at1 root va : Nat) : Int) from (u64_wrap_id _ (by omega) (by omega)).trans (by unfold at1; omega))) ?_
 refine ZS (fun w hi => HE1 w (Chunk.old h hi)) ?_
 rintro _ _ ⟨_, ⟨rfl, rfl⟩, rfl⟩
 simp only [entV]
 iterate 5 refine ZA ?_
 refine Zn (Zt (Zs (Zs (Zr ?_))))
 have heu := (entryOf_u32 hdb he1).1
 obtain ⟨eu0, eu1⟩ := heu
 iterate 3 refine ZA ?_
 refine ZB ?_
 refine Zyn rfl rfl (y_and_ (ev_g rfl) (Zv rfl) (and1 ⟨eu0, eu1⟩)) ?_
 refine ZB ?_
 refine ZA ?_
 refine Zn (Zt ?_)
 refine wc_cond _ rfl (fun hc4 => ?_) (fun hc4 => ?_)
 ·have hc : (e % 2 == 0) = true := hc4
  have hl2 : (some e).bind (look2 L.n M.data va) = none := by (simp only [Option.bind_some]; unfold look2; rw [hc]; rfl)
  rw [hl2]
  refine Zs (Zr (ZA ?_))
  iterate 2 refine ZA ?_
  refine Zn (Zt (Ze (Zw (ret3 (cs' := []) (.inl rfl) Zu rfl rfl rfl rfl ?_))))
  exact ⟨rfl, rfl⟩
 have hc : (e % 2 == 0) = false := hc4
 have hl2 : (some e).bind (look2 L.n M.data va) = (entryOf L.n M.data (at2 e va)).map fun l => (at2 e va, l) := by (simp only [Option.bind_some]; unfold look2; rw [hc]; rfl)
 rw [hl2]
 obtain ⟨e2, he2⟩ : ∃ x, entryOf L.n M.data (at2 e va) = x := ⟨_, rfl⟩
 have HE2 := entry_ok L M (at2 e va) (by unfold at2; omega)
 rw [he2] at HE2 ⊢
 have hat : ((at2 e va : Nat) : Int) = e / 256 * 64 + 4 * ((va / 64 % 16 : Nat) : Int) := (by unfold at2; omega)
 refine Zc (Zt (Zs (Zr (ZA ?_))))
 refine Zy (y_shr (Zv rfl) (Zv rfl) (by omega) (show _ = e / 256 from shrE _ 8)) ?_
 refine Zy (y_conv rfl rfl (Zv rfl) (by first | exact IntWalk.u64_in _ ⟨by omega, by omega⟩ | exact rfl)) ?_
 refine Zy (y_mul (Zv rfl) (Zv rfl) (show _ = e / 256 * 64 from u64_wrap_id _ (by omega) (by omega))) ?_
 refine ZA ?_
 refine Zy (y_shr (Zv rfl) (Zv rfl) (by omega) (show _ = ((va / 64 : Nat) : Int) from (shrE _ 6).trans (by omega))) ?_
 refine Zy (y_and_ (Zv rfl) (Zv rfl) (show _ = ((va / 64 % 16 : Nat) : Int) from (and15' ⟨by omega, by omega⟩).trans (by omega))) ?_
 refine Zy (y_mul (Zv rfl) (Zv rfl) (show _ = ((4 * (va / 64 % 16) : Nat) : Int) from (u32_wrap_id _ (by omega) (by omega)).trans (by omega))) ?_
 refine Zy (y_conv rfl rfl (Zv rfl) (by first | exact IntWalk.u64_in _ ⟨by omega, by omega⟩ | exact rfl)) ?_
 refine Zy (y_add (Zv rfl) (Zv rfl) (show _ = ((at2 e va : Nat) : Int) from (u64_wrap_id _ (by omega) (by omega)).trans (by omega))) ?_
 refine ZA ?_
 refine Zn (Zt (Zs ?_))
 revert HE2 he2
 refine Option.rec (fun he2 HE2 => ?_) (fun l he2 HE2 => ?_) e2
 ·refine Zr (ZA ?_)
  refine ZA ?_
  refine ZS (fun w hi => HE2 w (Chunk.old h hi)) ?_
  rintro _ _ ⟨_, ⟨rfl, rfl⟩, rfl⟩
  simp only [entV]
  iterate 5 refine ZA ?_
  refine Zn (Zt (Zs (Zs (Zr (ZA ?_)))))
  refine ZA ?_
  refine Zn (Zt (wc_cond_t rfl (rfl) ?_))
  refine Zs (Zr (ZA ?_))
  iterate 2 refine ZA ?_
  refine Zn (Zt (Ze (Zw (ret3 (cs' := []) (.inl rfl) Zu rfl rfl rfl rfl ?_))))
  exact ⟨rfl, rfl⟩
 refine Zr (ZA ?_)
 refine ZA ?_
 refine ZS (fun w hi => HE2 w (Chunk.old h hi)) ?_
 rintro _ _ ⟨_, ⟨rfl, rfl⟩, rfl⟩
 simp only [entV]
 iterate 5 refine ZA ?_
 refine Zn (Zt (Zs (Zs (Zr (ZA ?_)))))
 refine ZA ?_
 refine Zn (Zt (wc_cond_f rfl (rfl) ?_))
 refine Zc (Zt (Zs (Zr ?_)))
 have h2in := (entryOf_u32 hdb he2).2
 refine ZA ?_
 refine Zy (y_conv rfl rfl (Zv rfl) (u32_wrap_id _ (by omega) (by omega))) ?_
 iterate 4 refine ZA ?_
 refine Zn (Zt (Ze (ret3 (cs' := []) (.inl rfl) Zu rfl rfl rfl rfl ?_)))
 exact ⟨rfl, rfl⟩
theorem wdo_ok (L : MLoc) (M : Mem) (root va : Nat) (hroot : root ≤ 4294967295) (hva : va ≤ 4294967295) (kind : Int) (super : Bool) (w : World) (hi : Inv w (blocks [memC L M]) [memC L M] w) :
  Ctr Tryz.prog 156 [.pointer (some ⟨L.bm, 0, none⟩), .int .u32 root, .int .u32 va, .int .i64 kind, .bool super] w [memC L M] (fun v cs => v = .tuple #[(walkTo L.n M root va kind super).1.1.v, (walkTo L.n M root va kind super).1.2.v] ∧ cs = [memC L (walkTo L.n M root va kind super).2]) := by
 obtain ⟨n1, n64, hdl, hdb, htl⟩ := mem_n (hi.ok _ (List.mem_cons_self ..))
 obtain ⟨fk, hfk⟩ : ∃ x, fault kind = x := ⟨_, rfl⟩
 obtain ⟨wb, hwb⟩ : ∃ x, wbits kind super = x := ⟨_, rfl⟩
 obtain ⟨lk, hlk⟩ : ∃ x, lookUp L.n M.data root va = x := ⟨_, rfl⟩
 have HF := fault_ok kind
 have HB := wbits_ok kind super
 have HL := look_ok L M root va hroot hva
 unfold walkTo
 rw [hfk] at HF ⊢
 rw [hwb] at HB ⊢
 rw [hlk] at HL ⊢
 refine fn_ctr Tryz.func156 rfl Tryz.ntmps156 rfl hi ?_
 refine Zs (Zr (ZN fun b10 => ?_))
 refine ZN fun b11 => ?_
 refine Zn (Zt (Zs (Zr (ZA ?_))))
 refine ZS (fun w hi => HF w) ?_
 rintro _ _ ⟨_, ⟨rfl, rfl⟩, rfl⟩
 refine ZA ?_
 refine Zn (Zt (Zs (Zs (Zr (ZA ?_)))))
 iterate 2 refine ZA ?_
 iterate 2 refine ZB ?_
 refine ZA ?_
 refine Zn (Zt ?_)
 refine wc_cond _ rfl (fun hc2 => ?_) (fun hc2 => ?_)
 ·have hc : (fk == 0) = true := hc2
  rw [hc]
  simp only [cond_true]
  refine Zs (Zr (ZA ?_))
  iterate 2 refine ZA ?_
  refine ZM ?_
  refine ZM ?_
  refine Zn (Zt (Ze (Zw (retCC (cs' := [exC _ _ _ _]) (.inl rfl) Zu rfl rfl rfl Zh Zh (fun _ => rfl) (fun _ => rfl) (fun _ => rfl) (fun _ => rfl) ?_))))
  exact ⟨rfl, rfl⟩
 have hc : (fk == 0) = false := hc2
 rw [hc]
 simp only [cond_false]
 refine Zc (Zt (Zs (Zr (ZA ?_))))
 refine ZA ?_
 refine ZS (fun w hi => HB w) ?_
 rintro _ _ ⟨_, ⟨rfl, rfl⟩, rfl⟩
 refine ZA ?_
 refine Zn (Zt (Zs ?_))
 revert HL hlk
 refine Option.rec (fun hlk HL => ?_) (fun al hlk HL => ?_) lk
 ·refine Zr (ZA ?_)
  iterate 2 refine ZA ?_
  refine ZS (fun w hi => HL w (hi.get Zh)) ?_
  rintro _ _ ⟨_, ⟨rfl, rfl⟩, rfl⟩
  simp only [lookV]
  iterate 7 refine ZA ?_
  refine Zn (Zt (Zs (Zs (Zr (ZA ?_)))))
  iterate 2 refine ZA ?_
  iterate 5 refine ZB ?_
  refine ZA ?_
  refine Zn (Zt (wc_cond_t rfl (rfl) ?_))
  refine Zs (Zr (ZA ?_))
  iterate 3 refine ZA ?_
  refine ZM ?_
  refine ZM ?_
  refine Zn (Zt (Ze (Zw (retCC (cs' := [exC _ _ _ _]) (.inl rfl) Zu rfl rfl rfl Zh Zh (fun _ => rfl) (fun _ => rfl) (fun _ => rfl) (fun _ => rfl) ?_))))
  exact ⟨rfl, rfl⟩
 obtain ⟨a, l⟩ := al
 have hin := lookUp_in hdb hlk
 obtain ⟨lu, ain⟩ := hin
 obtain ⟨lu0, lu1⟩ := lu
 have mu := marked_u32 l kind
 simp only
 refine Zr (ZA ?_)
 iterate 2 refine ZA ?_
 refine ZS (fun w hi => HL w (hi.get Zh)) ?_
 rintro _ _ ⟨_, ⟨rfl, rfl⟩, rfl⟩
 simp only [lookV]
 iterate 7 refine ZA ?_
 refine Zn (Zt (Zs (Zs (Zr (ZA ?_)))))
 iterate 2 refine ZA ?_
 iterate 5 refine ZB ?_
 refine ZA ?_
 refine Zn (Zt ?_)
 refine wc_cond _ rfl (fun hc6 => ?_) (fun hc6 => ?_)
 ·have hc6' : (bits .and .u32 l wb != wb) = true := hc6
  rw [hc6']
  simp only [cond_true]
  refine Zs (Zr (ZA ?_))
  iterate 3 refine ZA ?_
  refine ZM ?_
  refine ZM ?_
  refine Zn (Zt (Ze (Zw (retCC (cs' := [exC _ _ _ _]) (.inl rfl) Zu rfl rfl rfl Zh Zh (fun _ => rfl) (fun _ => rfl) (fun _ => rfl) (fun _ => rfl) ?_))))
  exact ⟨rfl, rfl⟩
 have hc6' : (bits .and .u32 l wb != wb) = false := hc6
 rw [hc6']
 simp only [cond_false]
 refine Zc (Zt (Zs (Zr (ZA ?_))))
 refine ZA ?_
 refine Zn (Zt (Zs (Zr (ZA ?_))))
 iterate 2 refine ZA ?_
 refine Zn (Zt (Zs (Zs (Zr (ZA ?_)))))
 refine ZA ?_
 refine Zn (Zt ?_)
 refine wc_cond _ rfl (fun hc10 => ?_) (fun hc10 => ?_)
 ·have hm : marked l kind = bits .or .u32 (bits .or .u32 l 32) 64 := by (unfold marked; rw [hc10]; rfl)
  rw [hm] at mu ⊢
  obtain ⟨m, hmm⟩ : ∃ x, bits .or .u32 (bits .or .u32 l 32) 64 = x := ⟨_, rfl⟩
  refine Zr (ZA ?_)
  iterate 2 refine ZA ?_
  refine Zn (Zt (Zs (Zs (Zr ?_))))
  rw [hmm] at mu ⊢
  iterate 3 refine ZA ?_
  refine Zn (Zt ?_)
  refine wc_cond _ rfl (fun hc12 => ?_) (fun hc12 => ?_)
  ·rw [hc12]
   simp only [cond_true]
   refine Zr (ZA ?_)
   iterate 2 refine ZA ?_
   refine wl_t (t_callS ([memC L M]) rfl (fun _ _ => rfl) Zi (fun w hi hin => rputword_ok L M a m ain mu w hin)) rfl ?_
   rintro _ _ ⟨_, ⟨rfl, rfl⟩, rfl⟩
   refine Zn (Zt (Zs (Zr (ZA ?_))))
   refine Zy (y_quo (Zv rfl) (Zv rfl) (by omega) (show _ = ((va / 64 : Nat) : Int) from by rw [Int.tdiv_eq_ediv_of_nonneg (by omega), u32_wrap_id _ (by omega) (by omega)]; omega)) ?_
   refine ZA ?_
   refine Zy (y_shr (Zv rfl) (Zv rfl) (by omega) (show _ = m / 256 from shrE _ 8)) ?_
   iterate 4 refine ZA ?_
   refine ZM ?_
   refine ZM ?_
   refine Zn (Zt (Ze (retCC (cs' := [exC _ _ _ _]) (.inl rfl) Zu rfl rfl rfl Zh Zh (fun _ => rfl) (fun _ => rfl) (fun _ => rfl) (fun _ => rfl) ?_)))
   exact ⟨rfl, rfl⟩
  rw [hc12]
  simp only [cond_false]
  refine Zc (Zt (Zs (Zr (ZA ?_))))
  refine Zy (y_quo (Zv rfl) (Zv rfl) (by omega) (show _ = ((va / 64 : Nat) : Int) from by rw [Int.tdiv_eq_ediv_of_nonneg (by omega), u32_wrap_id _ (by omega) (by omega)]; omega)) ?_
  refine ZA ?_
  refine Zy (y_shr (Zv rfl) (Zv rfl) (by omega) (show _ = m / 256 from shrE _ 8)) ?_
  iterate 4 refine ZA ?_
  refine ZM ?_
  refine ZM ?_
  refine Zn (Zt (Ze (retCC (cs' := [exC _ _ _ _]) (.inl rfl) Zu rfl rfl rfl Zh Zh (fun _ => rfl) (fun _ => rfl) (fun _ => rfl) (fun _ => rfl) ?_)))
  exact ⟨rfl, rfl⟩
 have hm : marked l kind = bits .or .u32 l 32 := by (unfold marked; rw [hc10]; rfl)
 rw [hm] at mu ⊢
 obtain ⟨m, hmm⟩ : ∃ x, bits .or .u32 l 32 = x := ⟨_, rfl⟩
 refine Zc (Zt (Zs (Zs (Zr ?_))))
 rw [hmm] at mu ⊢
 iterate 3 refine ZA ?_
 refine Zn (Zt ?_)
 refine wc_cond _ rfl (fun hc12 => ?_) (fun hc12 => ?_)
 ·rw [hc12]
  simp only [cond_true]
  refine Zr (ZA ?_)
  iterate 2 refine ZA ?_
  refine wl_t (t_callS ([memC L M]) rfl (fun _ _ => rfl) Zi (fun w hi hin => rputword_ok L M a m ain mu w hin)) rfl ?_
  rintro _ _ ⟨_, ⟨rfl, rfl⟩, rfl⟩
  refine Zn (Zt (Zs (Zr (ZA ?_))))
  refine Zy (y_quo (Zv rfl) (Zv rfl) (by omega) (show _ = ((va / 64 : Nat) : Int) from by rw [Int.tdiv_eq_ediv_of_nonneg (by omega), u32_wrap_id _ (by omega) (by omega)]; omega)) ?_
  refine ZA ?_
  refine Zy (y_shr (Zv rfl) (Zv rfl) (by omega) (show _ = m / 256 from shrE _ 8)) ?_
  iterate 4 refine ZA ?_
  refine ZM ?_
  refine ZM ?_
  refine Zn (Zt (Ze (retCC (cs' := [exC _ _ _ _]) (.inl rfl) Zu rfl rfl rfl Zh Zh (fun _ => rfl) (fun _ => rfl) (fun _ => rfl) (fun _ => rfl) ?_)))
  exact ⟨rfl, rfl⟩
 rw [hc12]
 simp only [cond_false]
 refine Zc (Zt (Zs (Zr (ZA ?_))))
 refine Zy (y_quo (Zv rfl) (Zv rfl) (by omega) (show _ = ((va / 64 : Nat) : Int) from by rw [Int.tdiv_eq_ediv_of_nonneg (by omega), u32_wrap_id _ (by omega) (by omega)]; omega)) ?_
 refine ZA ?_
 refine Zy (y_shr (Zv rfl) (Zv rfl) (by omega) (show _ = m / 256 from shrE _ 8)) ?_
 iterate 4 refine ZA ?_
 refine ZM ?_
 refine ZM ?_
 refine Zn (Zt (Ze (retCC (cs' := [exC _ _ _ _]) (.inl rfl) Zu rfl rfl rfl Zh Zh (fun _ => rfl) (fun _ => rfl) (fun _ => rfl) (fun _ => rfl) ?_)))
 exact ⟨rfl, rfl⟩
end Go.Proofs.YtmhpcgmjlpfheaaGreatDoor
/- A guest's addresses: the unit. -/
set_option linter.unusedSimpArgs false
set_option linter.unusedVariables false
set_option maxRecDepth 100000
namespace Go.Ink
open Go.RowKit
theorem leafE_wf {va : Nat} (h : va ≤ 4294967295) {l : Int} (hl : u32 l) : (leafE va l).wf :=
 ⟨⟨by show (0 : Int) ≤ ((va / 64 : Nat) : Int); omega, by show ((va / 64 : Nat) : Int) ≤ _; omega⟩, ⟨by show 0 ≤ l / 256; have := hl.1; omega, by show l / 256 ≤ _; have := hl.1; have := hl.2; omega⟩, bits_u32 .and _ _⟩
theorem TE.zero_wf : TE.zero.wf := ⟨⟨by decide, by decide⟩, ⟨by decide, by decide⟩, ⟨by decide, by decide⟩⟩
theorem walkTo_wf (n : Nat) (M : Mem) (root va : Nat) (h : va ≤ 4294967295) (kind : Int) (super : Bool) : (walkTo n M root va kind super).1.1.wf := by
 unfold walkTo
 cases (fault kind == 0) with
 | true => exact TE.zero_wf
 | false =>
  simp only [cond_false]
  split
  ·exact TE.zero_wf
  rename_i a l _
  cases (bits .and .u32 l (wbits kind super) != wbits kind super) with
  | true => exact TE.zero_wf
  | false => exact leafE_wf h (marked_u32 l kind)
theorem tfill_len (T : List TE) (e : TE) : (tfill T e).length = T.length := by unfold tfill; cases e.valid <;> simp
theorem tdrop_len (T : List TE) (va : Nat) : (tdrop T va).length = T.length := by unfold tdrop; cases ((teAt T va).vpn == ((va / 64 : Nat) : Int)) <;> simp
theorem turnedTo_len (n : Nat) (U : Mmu) (s : Sp) (va : Nat) (kind : Int) : (turnedTo n U s va kind).2.t.length = U.t.length := by
 unfold turnedTo
 cases (!s.paging) <;> simp only [cond_true, cond_false]
 cases (tfind U.t va kind s.super).2 <;> simp only [cond_true, cond_false]
 cases ((walkTo n U.m s.root va kind s.super).1.2.cause != 0) <;> simp only [cond_true, cond_false, tfill_len]
theorem placeTo_len (n : Nat) (U : Mmu) (s : Sp) (va : Nat) (kind : Int) : (placeTo n U s va kind).2.t.length = U.t.length := by
 have h := turnedTo_len n U s va kind
 unfold placeTo
 cases (fault kind == 0) <;> simp only [cond_true, cond_false]
 cases ((turnedTo n U s va kind).1.2.cause != 0) <;> simp only [cond_true, cond_false, h]
 cases (decide ((turnedTo n U s va kind).1.1 < ((n * 64 : Nat) : Int)) || ((kind != 1) && isDev (turnedTo n U s va kind).1.1)) <;> simp only [cond_true, cond_false, h]
end Go.Ink
namespace Go.Proofs.YtmhpcgmjlpfheaaGreatDoor
open Go.RowKit Go.Ink
attribute [local irreducible] OpY GuardIs

abbrev uRow (bu bm bb : Nat) : Chunk := row bu [.pointer (some ⟨bm, 0, none⟩), .pointer (some ⟨bb, 0, none⟩)] 128
abbrev uF (bu bb : Nat) (L : MLoc) (U : Mmu) : List Chunk := [uRow bu L.bm bb, memC L U.m, tlbC bb U.t]
theorem device_ok (a : Int) (w : World) : Ctr Tryz.prog 135 [.int .u32 a] w [] (fun v cs => v = .bool (isDev a) ∧ cs = []) := by
 refine fn_ctr Tryz.func135 rfl Tryz.ntmps135 rfl (Inv.start w) ?_
 refine Zs (Zr (ZA ?_))
 refine Zn (Zt (Zs (Zr (ZA ?_))))
 iterate 2 refine ZA ?_
 iterate 2 refine ZB ?_
 iterate 2 refine ZA ?_
 refine Zn (Zt (Ze (ret1 (cs' := []) (.inl rfl) Zu rfl rfl ?_)))
 exact ⟨rfl, rfl⟩
theorem mmunew_ok (bm : Nat) (w : World) : Ctr Tryz.prog 33 [.pointer (some ⟨bm, 0, none⟩)] w [] (fun v cs => ∃ bu bb, v = .tuple #[.pointer (some ⟨bu, 0, none⟩), .int .i64 0] ∧ cs = [tlbC bb tflush, uRow bu bm bb]) := by
 refine fn_ctr Tryz.func33 rfl Tryz.ntmps33 rfl (Inv.start w) ?_
 refine Zs (Zr (ZA ?_))
 refine ZA ?_
 refine Zn (Zt (Zs (Zs (Zr (ZA ?_)))))
 refine ZA ?_
 refine Zn (Zt (wc_cond_f rfl (rfl) ?_))
 refine Zc (Zt (Zs (Zr (ZA ?_))))
 refine ZS (fun w hi => tlbnew_ok w) ?_
 rintro _ _ ⟨_, ⟨bb, rfl, rfl⟩, rfl⟩
 refine ZA ?_
 refine ZO fun b9 => ?_
 iterate 2 refine ZA ?_
 refine Zn (Zt (Ze (ret2 (cs' := [row _ _ _, row _ _ _]) (.inl rfl) Zu rfl rfl rfl ?_)))
 exact ⟨_, _, rfl, rfl⟩
theorem umem_ok (bu bm bb : Nat) (w : World) (h : (uRow bu bm bb).ok w) : Ctr Tryz.prog 120 [.pointer (some ⟨bu, 0, none⟩)] w [] (fun v cs => v = .pointer (some ⟨bm, 0, none⟩) ∧ cs = []) := by
 refine fn_ctr Tryz.func120 rfl Tryz.ntmps120 rfl (Inv.start w) ?_
 refine Zs (Zr (ZA ?_))
 refine Zn (Zt (Zs (Zr (ZA ?_))))
 refine ZA ?_
 refine ZFa 0 ?_
 refine wl_y (y_load (fun _ => rfl) (Zv rfl)) (old_row (by assumption) rfl) rfl ?_
 refine ZA ?_
 refine Zn (Zt (Ze (ret1 (cs' := []) (.inl rfl) Zu rfl rfl ?_)))
 exact ⟨rfl, rfl⟩
theorem udrop_ok (bu bb : Nat) (L : MLoc) (U : Mmu) (hT : U.t.length = 16) (va : Nat) (hva : va ≤ 4294967295) (w : World) (hi : Inv w (blocks (uF bu bb L U)) (uF bu bb L U) w) : Ctr Tryz.prog 196 [.pointer (some ⟨bu, 0, none⟩), .int .u32 va] w (uF bu bb L U) (fun v cs => v = .tuple #[] ∧ cs = uF bu bb L ⟨U.m, tdrop U.t va⟩) := by
 refine fn_ctr Tryz.func196 rfl Tryz.ntmps196 rfl hi ?_
 refine Zr (ZA ?_)
 refine ZA ?_
 refine ZFa 1 ?_
 refine ZC ?_
 refine ZA ?_
 refine wl_t (t_callS ([tlbC bb U.t]) rfl (fun _ _ => rfl) Zi (fun w hi hin => tdrop_ok bb U.t hT va hva w hin)) rfl ?_
 rintro _ _ ⟨_, ⟨rfl, rfl⟩, rfl⟩
 refine Zn (qok_pick (uF bu bb L ⟨U.m, tdrop U.t va⟩) Zj ?_)
 refine ret0 (cs' := uF _ _ _ _) (.inr rfl) Zu rfl ?_
 exact ⟨rfl, rfl⟩
theorem uflush_ok (bu bb : Nat) (L : MLoc) (U : Mmu) (hT : U.t.length = 16) (w : World) (hi : Inv w (blocks (uF bu bb L U)) (uF bu bb L U) w) : Ctr Tryz.prog 195 [.pointer (some ⟨bu, 0, none⟩)] w (uF bu bb L U) (fun v cs => v = .tuple #[] ∧ cs = uF bu bb L ⟨U.m, tflush⟩) := by
 refine fn_ctr Tryz.func195 rfl Tryz.ntmps195 rfl hi ?_
 refine Zr (ZA ?_)
 refine ZA ?_
 refine ZFa 1 ?_
 refine ZC ?_
 refine wl_t (t_callS ([tlbC bb U.t]) rfl (fun _ _ => rfl) Zi (fun w hi hin => tflush_ok bb U.t hT w hin)) rfl ?_
 rintro _ _ ⟨_, ⟨rfl, rfl⟩, rfl⟩
 refine Zn (qok_pick (uF bu bb L ⟨U.m, tflush⟩) Zj ?_)
 refine ret0 (cs' := uF _ _ _ _) (.inr rfl) Zu rfl ?_
 exact ⟨rfl, rfl⟩
abbrev trC (b : Nat) (t : Tr) : Chunk := row b t.cells 204
abbrev spC (b : Nat) (s : Sp) : Chunk := row b [.bool s.paging, .bool s.super, .int .u32 (s.root : Int)] 208
abbrev teC (b : Nat) (e : TE) : Chunk := row b e.cells 156
theorem turned_ok (bu bb : Nat) (L : MLoc) (U : Mmu) (hT : U.t.length = 16) (s : Sp) (hr : s.root ≤ 4294967295) (va : Nat) (hva : va ≤ 4294967295) (kind : Int) (w : World) (hi : Inv w (blocks (uF bu bb L U)) (uF bu bb L U) w) :
  Ctr Tryz.prog 134 [.pointer (some ⟨bu, 0, none⟩), s.v, .int .u32 va, .int .i64 kind] w (uF bu bb L U) (fun v cs => v = .tuple #[.int .u32 (turnedTo L.n U s va kind).1.1, (turnedTo L.n U s va kind).1.2.v] ∧ cs = uF bu bb L (turnedTo L.n U s va kind).2) := by
 obtain ⟨fd, hfd⟩ : ∃ x, tfind U.t va kind s.super = x := ⟨_, rfl⟩
 obtain ⟨wd, hwd⟩ : ∃ x, walkTo L.n U.m s.root va kind s.super = x := ⟨_, rfl⟩
 have hwf := walkTo_wf L.n U.m s.root va hva kind s.super
 have HFD := tfind_ok bb U.t hT va hva kind s.super
 have HWD := wdo_ok L U.m s.root va hr hva kind s.super
 unfold turnedTo
 rw [hfd] at HFD ⊢
 rw [hwd] at HWD hwf ⊢
 obtain ⟨⟨te, tr⟩, M'⟩ := wd
 simp only at HWD hwf ⊢
 refine fn_ctr Tryz.func134 rfl Tryz.ntmps134 rfl hi ?_
 refine Zs (Zr (ZO fun b5 => ?_))
 refine ZA ?_
 refine ZN fun b9 => ?_
 refine Zn (Zt (Zs (Zs (Zr (ZFa 0 ?_)))))
 refine ZC ?_
 refine ZA ?_
 refine Zn (Zt ?_)
 refine wc_cond _ rfl (fun hc1 => ?_) (fun hc1 => ?_)
 ·rw [hc1]
  simp only [cond_true]
  refine Zs (Zr (ZA ?_))
  iterate 2 refine ZA ?_
  refine ZM ?_
  refine Zn (Zt (Ze (Zw (retTC (cs' := [row _ _ _, exC _ _ _ _, row _ _ _]) (.inl rfl) Zu rfl rfl rfl Zh (fun _ => rfl) (fun _ => rfl) ?_))))
  exact ⟨rfl, rfl⟩
 rw [hc1]
 simp only [cond_false]
 refine Zc (Zt (Zs (Zs (wc_draw ⟨fun j => List.elem j [], []⟩ Zk ?_))))
 refine ZE 0 ?_
 refine ZE 1 ?_
 refine ZFe 2 1 ?_
 refine ZG 3 ?_
 refine ZE 4 ?_
 refine ZE 5 ?_
 refine ZFe 6 1 ?_
 refine ZG 7 ?_
 refine wa_1 8 Zk ?_
 refine ZT (fun w hi => HFD w (hi.get Zh)) ?_
 rintro _ _ ⟨_, ⟨rfl, rfl⟩, rfl⟩
 refine ZE 9 ?_
 refine ZE 10 ?_
 refine ZE 11 ?_
 refine ZE 12 ?_
 refine ZE 13 ?_
 refine wa_done Zk ?_
 refine Zt (Zs (Zr (ZA ?_)))
 refine Zn (Zt ?_)
 refine wc_cond _ rfl (fun hc4 => ?_) (fun hc4 => ?_)
 ·rw [hc4]
  simp only [cond_true]
  refine Zs (Zr (ZA ?_))
  iterate 2 refine ZA ?_
  refine ZM ?_
  refine Zn (Zt (Ze (Zw (retTC (cs' := [row _ _ _, exC _ _ _ _, row _ _ _]) (.inl rfl) Zu rfl rfl rfl Zh (fun _ => rfl) (fun _ => rfl) ?_))))
  exact ⟨rfl, rfl⟩
 rw [hc4]
 simp only [cond_false]
 refine Zc (Zt ?_)
 refine wc_seq_mid (fun q : Nat × Nat => [(0, .pointer (some ⟨bu, 0, none⟩)), (2, .int .u32 va), (9, .pointer (some ⟨b9, 0, none⟩)), (12, .pointer (some ⟨q.1, 0, none⟩)), (13, .pointer (some ⟨q.2, 0, none⟩))]) (fun q => [uRow bu L.bm bb, memC L M', tlbC bb U.t, trC b9 Tr.none, teC q.1 te, trC q.2 tr]) (fun _ => True) ?_ ?_
 ·refine wc_draw ⟨fun j => List.elem j [10, 16, 17], []⟩ Zk ?_
  refine ZE 0 ?_
  refine ZE 1 ?_
  refine ZFe 2 0 ?_
  refine ZG 3 ?_
  refine ZFe 4 2 ?_
  refine ZG 5 ?_
  refine ZE 6 ?_
  refine ZE 7 ?_
  refine ZFe 8 1 ?_
  refine ZG 9 ?_
  refine wa_3 10 14 15 Zk ?_ ?_ ?_
  ·refine wi_t rfl rfl (t_callS ([memC L U.m]) rfl (fun _ _ => rfl) Zi (fun w hi hin => HWD w hin)) (fun _ _ _ _ _ _ _ h => by cases h) rfl ?_
   rintro _ _ ⟨_, ⟨rfl, rfl⟩, rfl⟩
   refine ZE 11 ?_
   refine ZE 12 ?_
   refine ZE 13 ?_
   refine wa_2 14 15 Zk ?_ ?_
   ·refine ZP fun b12 => ?_
    refine wa_1 15 Zk ?_
    refine ZP fun b13 => ?_
    refine wa_1 16 Zk ?_
    refine wi_t0 rfl rfl (t_storeN (vs := te.cells) (fun _ => rfl) rfl rfl (allT rfl) Za (by exact rfl)) (fun _ _ _ _ _ _ _ h => by cases h) ?_
    rintro _ _ ⟨rfl, rfl⟩
    refine wa_1 17 Zk ?_
    refine wi_t0 rfl rfl (t_storeN (vs := tr.cells) (fun _ => rfl) rfl rfl (allT rfl) Za (by exact rfl)) (fun _ _ _ _ _ _ _ h => by cases h) ?_
    rintro _ _ ⟨rfl, rfl⟩
    refine wa_done Zk ?_
    refine q_midP ((b12, b13)) ?_ ?_ ?_
    ·trivial
    ·exact Zwk
    exact Zj
   refine ZP fun b13 => ?_
   refine wa_1 14 Zk ?_
   refine ZP fun b12 => ?_
   refine wa_1 16 Zk ?_
   refine wi_t0 rfl rfl (t_storeN (vs := te.cells) (fun _ => rfl) rfl rfl (allT rfl) Za (by exact rfl)) (fun _ _ _ _ _ _ _ h => by cases h) ?_
   rintro _ _ ⟨rfl, rfl⟩
   refine wa_1 17 Zk ?_
   refine wi_t0 rfl rfl (t_storeN (vs := tr.cells) (fun _ => rfl) rfl rfl (allT rfl) Za (by exact rfl)) (fun _ _ _ _ _ _ _ h => by cases h) ?_
   rintro _ _ ⟨rfl, rfl⟩
   refine wa_done Zk ?_
   refine q_midP ((b12, b13)) ?_ ?_ ?_
   ·trivial
   ·exact Zwk
   exact Zj
  ·refine ZP fun b12 => ?_
   refine wa_2 10 15 Zk ?_ ?_
   ·refine wi_t rfl rfl (t_callS ([memC L U.m]) rfl (fun _ _ => rfl) Zi (fun w hi hin => HWD w hin)) (fun _ _ _ _ _ _ _ h => by cases h) rfl ?_
    rintro _ _ ⟨_, ⟨rfl, rfl⟩, rfl⟩
    refine ZE 11 ?_
    refine ZE 12 ?_
    refine ZE 13 ?_
    refine wa_1 15 Zk ?_
    refine ZP fun b13 => ?_
    refine wa_1 16 Zk ?_
    refine wi_t0 rfl rfl (t_storeN (vs := te.cells) (fun _ => rfl) rfl rfl (allT rfl) Za (by exact rfl)) (fun _ _ _ _ _ _ _ h => by cases h) ?_
    rintro _ _ ⟨rfl, rfl⟩
    refine wa_1 17 Zk ?_
    refine wi_t0 rfl rfl (t_storeN (vs := tr.cells) (fun _ => rfl) rfl rfl (allT rfl) Za (by exact rfl)) (fun _ _ _ _ _ _ _ h => by cases h) ?_
    rintro _ _ ⟨rfl, rfl⟩
    refine wa_done Zk ?_
    refine q_midP ((b12, b13)) ?_ ?_ ?_
    ·trivial
    ·exact Zwk
    exact Zj
   refine ZP fun b13 => ?_
   refine wa_1 10 Zk ?_
   refine wi_t rfl rfl (t_callS ([memC L U.m]) rfl (fun _ _ => rfl) Zi (fun w hi hin => HWD w hin)) (fun _ _ _ _ _ _ _ h => by cases h) rfl ?_
   rintro _ _ ⟨_, ⟨rfl, rfl⟩, rfl⟩
   refine ZE 11 ?_
   refine ZE 12 ?_
   refine ZE 13 ?_
   refine wa_1 16 Zk ?_
   refine wi_t0 rfl rfl (t_storeN (vs := te.cells) (fun _ => rfl) rfl rfl (allT rfl) Za (by exact rfl)) (fun _ _ _ _ _ _ _ h => by cases h) ?_
   rintro _ _ ⟨rfl, rfl⟩
   refine wa_1 17 Zk ?_
   refine wi_t0 rfl rfl (t_storeN (vs := tr.cells) (fun _ => rfl) rfl rfl (allT rfl) Za (by exact rfl)) (fun _ _ _ _ _ _ _ h => by cases h) ?_
   rintro _ _ ⟨rfl, rfl⟩
   refine wa_done Zk ?_
   refine q_midP ((b12, b13)) ?_ ?_ ?_
   ·trivial
   ·exact Zwk
   exact Zj
  refine ZP fun b13 => ?_
  refine wa_2 10 14 Zk ?_ ?_
  ·refine wi_t rfl rfl (t_callS ([memC L U.m]) rfl (fun _ _ => rfl) Zi (fun w hi hin => HWD w hin)) (fun _ _ _ _ _ _ _ h => by cases h) rfl ?_
   rintro _ _ ⟨_, ⟨rfl, rfl⟩, rfl⟩
   refine ZE 11 ?_
   refine ZE 12 ?_
   refine ZE 13 ?_
   refine wa_1 14 Zk ?_
   refine ZP fun b12 => ?_
   refine wa_1 16 Zk ?_
   refine wi_t0 rfl rfl (t_storeN (vs := te.cells) (fun _ => rfl) rfl rfl (allT rfl) Za (by exact rfl)) (fun _ _ _ _ _ _ _ h => by cases h) ?_
   rintro _ _ ⟨rfl, rfl⟩
   refine wa_1 17 Zk ?_
   refine wi_t0 rfl rfl (t_storeN (vs := tr.cells) (fun _ => rfl) rfl rfl (allT rfl) Za (by exact rfl)) (fun _ _ _ _ _ _ _ h => by cases h) ?_
   rintro _ _ ⟨rfl, rfl⟩
   refine wa_done Zk ?_
   refine q_midP ((b12, b13)) ?_ ?_ ?_
   ·trivial
   ·exact Zwk
   exact Zj
  refine ZP fun b12 => ?_
  refine wa_1 10 Zk ?_
  refine wi_t rfl rfl (t_callS ([memC L U.m]) rfl (fun _ _ => rfl) Zi (fun w hi hin => HWD w hin)) (fun _ _ _ _ _ _ _ h => by cases h) rfl ?_
  rintro _ _ ⟨_, ⟨rfl, rfl⟩, rfl⟩
  refine ZE 11 ?_
  refine ZE 12 ?_
  refine ZE 13 ?_
  refine wa_1 16 Zk ?_
  refine wi_t0 rfl rfl (t_storeN (vs := te.cells) (fun _ => rfl) rfl rfl (allT rfl) Za (by exact rfl)) (fun _ _ _ _ _ _ _ h => by cases h) ?_
  rintro _ _ ⟨rfl, rfl⟩
  refine wa_1 17 Zk ?_
  refine wi_t0 rfl rfl (t_storeN (vs := tr.cells) (fun _ => rfl) rfl rfl (allT rfl) Za (by exact rfl)) (fun _ _ _ _ _ _ _ h => by cases h) ?_
  rintro _ _ ⟨rfl, rfl⟩
  refine wa_done Zk ?_
  refine q_midP ((b12, b13)) ?_ ?_ ?_
  ·trivial
  ·exact Zwk
  exact Zj
 rintro ⟨b12, b13⟩ -
 dsimp only
 refine Zs (Zs (Zr (ZFa 0 ?_)))
 refine ZC ?_
 refine ZA ?_
 refine Zn (Zt ?_)
 refine wc_cond _ rfl (fun hc7 => ?_) (fun hc7 => ?_)
 ·rw [hc7]
  simp only [cond_true]
  refine Zs (wc_draw ⟨fun j => List.elem j [2], []⟩ Zk ?_)
  refine ZI 0 ?_
  refine ZE 1 ?_
  refine wa_1 2 Zk ?_
  refine ZR ?_
  refine wa_done Zk ?_
  refine Zt (Ze (Zw (retTC (cs' := [row _ _ _, exC _ _ _ _, row _ _ _]) (.inl rfl) Zu rfl rfl rfl Zh (fun _ => rfl) (fun _ => rfl) ?_)))
  exact ⟨rfl, rfl⟩
 rw [hc7]
 simp only [cond_false]
 refine Zc (Zt (Zs (wc_draw ⟨fun j => List.elem j [5], []⟩ Zk ?_)))
 refine ZE 0 ?_
 refine ZE 1 ?_
 refine ZFe 2 1 ?_
 refine ZG 3 ?_
 refine ZI 4 ?_
 refine wa_1 5 Zk ?_
 refine wi_t rfl rfl (t_callS ([tlbC bb U.t]) rfl (fun _ _ => rfl) Zi (fun w hi hin => tfill_ok bb U.t hT te hwf w hin)) (fun _ _ _ _ _ _ _ h => by cases h) rfl ?_
 rintro _ _ ⟨_, ⟨rfl, rfl⟩, rfl⟩
 refine wa_done Zk ?_
 refine Zt (Zs (wc_draw ⟨fun j => List.elem j [8], []⟩ Zk ?_))
 refine ZFe 0 2 ?_
 refine ZG 1 ?_
 refine wa_yn 2 rfl Zk Zk Zk (y_mul (Zv rfl) (Zv rfl) rfl) rfl ?_
 refine ZE 3 ?_
 refine wa_yn 4 rfl Zk Zk Zk (y_rem (Zv rfl) (Zv rfl) (by omega) (show _ = ((va % 64 : Nat) : Int) from by rw [Int.tmod_eq_emod_of_nonneg (by omega)]; omega)) rfl ?_
 refine wa_yn 5 rfl Zk Zk Zk (y_add (Zv rfl) (Zv rfl) rfl) rfl ?_
 refine ZI 6 ?_
 refine ZE 7 ?_
 refine wa_1 8 Zk ?_
 refine ZR ?_
 refine wa_done Zk ?_
 refine Zt (Ze (qok_pick [uRow bu L.bm bb, memC L M', tlbC bb (tfill U.t te), trC b9 tr] Zj ?_))
 refine retTC (cs' := [row _ _ _, exC _ _ _ _, row _ _ _]) (.inl rfl) Zu rfl rfl rfl Zh (fun _ => rfl) (fun _ => rfl) ?_
 exact ⟨rfl, rfl⟩
end Go.Proofs.YtmhpcgmjlpfheaaGreatDoor
/- A guest's addresses: places, and several bytes. -/
set_option linter.unusedSimpArgs false
set_option linter.unusedVariables false
set_option maxRecDepth 100000
namespace Go.Ink
open Go.RowKit
theorem physOf_fact (pfn : Int) (va : Nat) : u32 (physOf pfn va) ∧ physOf pfn va % 64 = ((va % 64 : Nat) : Int) := by
 unfold physOf
 rw [IntKind.wrap_u32, IntKind.wrap_u32]
 exact ⟨⟨by omega, by omega⟩, by omega⟩
theorem turnedTo_fact (n : Nat) (U : Mmu) (s : Sp) (va : Nat) (hva : va ≤ 4294967295) (kind : Int) : u32 (turnedTo n U s va kind).1.1 ∧ ((turnedTo n U s va kind).1.2.cause = 0 → (turnedTo n U s va kind).1.1 % 64 = ((va % 64 : Nat) : Int)) := by
 unfold turnedTo
 cases (!s.paging) with
 | true => exact ⟨⟨by show (0 : Int) ≤ (va : Int); omega, by show (va : Int) ≤ _; omega⟩, fun _ => by show (va : Int) % 64 = _; omega⟩
 | false =>
  simp only [cond_false]
  cases hf : (tfind U.t va kind s.super).2 with
  | true =>
   simp only [cond_true]
   unfold tfind at hf ⊢
   cases hn : noEntry (teAt U.t va) va (asked kind s.super) with
   | true => rw [hn] at hf; cases hf
   | false =>
    simp only [cond_false]
    have := physOf_fact (teAt U.t va).pfn va
    exact ⟨this.1, fun _ => this.2⟩
  | false =>
   simp only [cond_false]
   cases hc : ((walkTo n U.m s.root va kind s.super).1.2.cause != 0) with
   | true =>
    simp only [cond_true]
    refine ⟨⟨by decide, by decide⟩, fun h => ?_⟩
    rw [h] at hc
    cases hc
   | false =>
    simp only [cond_false]
    have := physOf_fact (walkTo n U.m s.root va kind s.super).1.1.pfn va
    exact ⟨this.1, fun _ => this.2⟩
structure PlaceOk (n : Nat) (va : Nat) (p : Int) : Prop where
 u : u32 p
 m : p % 64 = ((va % 64 : Nat) : Int)
 r : p < ((n * 64 : Nat) : Int) ∨ isDev p = true
theorem placeTo_fact (n : Nat) (U : Mmu) (s : Sp) (va : Nat) (hva : va ≤ 4294967295) (kind : Int) : u32 (placeTo n U s va kind).1.1 ∧ ((placeTo n U s va kind).1.2.cause = 0 → PlaceOk n va (placeTo n U s va kind).1.1) := by
 obtain ⟨h1, h2⟩ := turnedTo_fact n U s va hva kind
 have u0 : u32 0 := ⟨by decide, by decide⟩
 unfold placeTo
 cases hf : (fault kind == 0) with
 | true => exact ⟨u0, fun h => by cases h⟩
 | false =>
  simp only [cond_false]
  cases hc : ((turnedTo n U s va kind).1.2.cause != 0) with
  | true =>
   simp only [cond_true]
   refine ⟨u0, fun h => ?_⟩
   rw [h] at hc
   cases hc
  | false =>
   simp only [cond_false]
   cases hr : (decide ((turnedTo n U s va kind).1.1 < ((n * 64 : Nat) : Int)) || ((kind != 1) && isDev (turnedTo n U s va kind).1.1)) with
   | false => exact ⟨u0, fun h => by cases h⟩
   | true =>
    simp only [cond_true]
    refine ⟨h1, fun h => ⟨h1, h2 h, ?_⟩⟩
    simp only [Bool.or_eq_true, decide_eq_true_eq, Bool.and_eq_true] at hr
    rcases hr with hr | hr
    ·exact .inl hr
    exact .inr hr.2
def nextPage (va : Nat) : Nat := (va - va % 64 + 64) % 4294967296
theorem nextPage_le (va : Nat) : nextPage va ≤ 4294967295 := by unfold nextPage; omega
theorem nextPage_mod (va : Nat) : nextPage va % 64 = 0 := by unfold nextPage; omega
/-- Where the bytes lie, one by one. -/
def spanAt (a b : Int) (va j : Nat) : Int := bif decide (j < 64 - va % 64) then IntKind.u32.wrap (a + (j : Int)) else IntKind.u32.wrap (b + ((j - (64 - va % 64) : Nat) : Int))
def spanL (a b : Int) (va k : Nat) : List Int := (List.range k).map (spanAt a b va)
theorem spanL_succ (a b : Int) (va k : Nat) : spanL a b va (k + 1) = spanL a b va k ++ [spanAt a b va k] := by simp [spanL, List.range_succ]
theorem spanL_len (a b : Int) (va k : Nat) : (spanL a b va k).length = k := by simp [spanL]
/-- The end of it, once both pages are found. -/
def spanEnd (a b : Int) (va k : Nat) (t : Tr) (U : Mmu) : (List Int × Tr) × Mmu :=
 bif isDev a then (([], ⟨10, va⟩), U) else bif (decide (((64 - va % 64 : Nat) : Int) < (k : Int)) && isDev b) then (([], ⟨10, nextPage va⟩), U) else ((spanL a b va k, t), U)
def span2 (n : Nat) (s : Sp) (va k : Nat) (kind : Int) (p1 : (Int × Tr) × Mmu) : (List Int × Tr) × Mmu :=
 bif (placeTo n p1.2 s (nextPage va) kind).1.2.cause != 0 then (([], (placeTo n p1.2 s (nextPage va) kind).1.2), (placeTo n p1.2 s (nextPage va) kind).2)
 else spanEnd p1.1.1 (placeTo n p1.2 s (nextPage va) kind).1.1 va k (placeTo n p1.2 s (nextPage va) kind).1.2 (placeTo n p1.2 s (nextPage va) kind).2
def span1 (n : Nat) (s : Sp) (va k : Nat) (kind : Int) (p1 : (Int × Tr) × Mmu) : (List Int × Tr) × Mmu :=
 bif p1.1.2.cause != 0 then (([], p1.1.2), p1.2) else
 bif decide (((64 - va % 64 : Nat) : Int) < (k : Int)) then span2 n s va k kind p1 else spanEnd p1.1.1 0 va k p1.1.2 p1.2
def spanTo (n : Nat) (U : Mmu) (s : Sp) (va k : Nat) (kind : Int) : (List Int × Tr) × Mmu := span1 n s va k kind (placeTo n U s va kind)
theorem spanL_in {n : Nat} {a b : Int} {va k : Nat} (hn : n ≤ 64) (ha : 0 ≤ a) (ha1 : a < ((n * 64 : Nat) : Int)) (hm : a % 64 = ((va % 64 : Nat) : Int)) (hb : ((64 - va % 64 : Nat) : Int) < (k : Int) → 0 ≤ b ∧ b < ((n * 64 : Nat) : Int) ∧ b % 64 = 0) (hk : k ≤ 4) : ∀ x, x ∈ spanL a b va k → 0 ≤ x ∧ x < ((n * 64 : Nat) : Int) := by
 intro x hx
 unfold spanL at hx
 obtain ⟨j, hj, rfl⟩ := List.mem_map.1 hx
 rw [List.mem_range] at hj
 unfold spanAt
 cases hc : decide (j < 64 - va % 64) with
 | true =>
  simp only [cond_true]
  have := of_decide_eq_true hc
  rw [IntKind.wrap_u32]
  omega
 | false =>
  simp only [cond_false]
  have h1 := of_decide_eq_false hc
  obtain ⟨b0, b1, b2⟩ := hb (by omega)
  rw [IntKind.wrap_u32]
  omega
theorem dev_big {a : Int} (h : isDev a = false) {n : Nat} {va : Nat} (hp : PlaceOk n va a) : a < ((n * 64 : Nat) : Int) := by
 rcases hp.r with h1 | h1
 ·exact h1
 rw [h] at h1; cases h1
theorem spanTo_in {n : Nat} {U : Mmu} {s : Sp} {va k : Nat} (hn : n ≤ 64) (hva : va ≤ 4294967295) {kind : Int} (hk : k ≤ 4) : ∀ x, x ∈ (spanTo n U s va k kind).1.1 → 0 ≤ x ∧ x < ((n * 64 : Nat) : Int) := by
 obtain ⟨_, h1⟩ := placeTo_fact n U s va hva kind
 unfold spanTo span1
 cases hc : ((placeTo n U s va kind).1.2.cause != 0) with
 | true => intro x hx; cases hx
 | false =>
  simp only [cond_false]
  have p1 := h1 (by simpa using hc)
  cases hl : decide (((64 - va % 64 : Nat) : Int) < (k : Int)) with
  | true =>
   simp only [cond_true]
   unfold span2
   obtain ⟨_, h2⟩ := placeTo_fact n (placeTo n U s va kind).2 s (nextPage va) (nextPage_le va) kind
   cases hc2 : ((placeTo n (placeTo n U s va kind).2 s (nextPage va) kind).1.2.cause != 0) with
   | true => intro x hx; cases hx
   | false =>
    simp only [cond_false]
    have p2 := h2 (by simpa using hc2)
    unfold spanEnd
    cases d1 : isDev (placeTo n U s va kind).1.1 with
    | true => intro x hx; cases hx
    | false =>
     simp only [cond_false]
     rw [hl]
     simp only [Bool.true_and]
     cases d2 : isDev (placeTo n (placeTo n U s va kind).2 s (nextPage va) kind).1.1 with
     | true => intro x hx; cases hx
     | false =>
      simp only [cond_false]
      exact spanL_in hn p1.u.1 (dev_big d1 p1) p1.m (fun _ => ⟨p2.u.1, dev_big d2 p2, by have h3 := p2.m; rw [nextPage_mod] at h3; exact h3⟩) hk
  | false =>
   simp only [cond_false]
   unfold spanEnd
   cases d1 : isDev (placeTo n U s va kind).1.1 with
   | true => intro x hx; cases hx
   | false =>
    simp only [cond_false]
    rw [hl]
    simp only [Bool.false_and, cond_false]
    exact spanL_in hn p1.u.1 (dev_big d1 p1) p1.m (fun h => absurd h (of_decide_eq_false hl)) hk
theorem spanTo_len {n : Nat} {U : Mmu} {s : Sp} {va k : Nat} {kind : Int} : (spanTo n U s va k kind).1.1.length ≤ k := by
 unfold spanTo span1 span2 spanEnd
 repeat' (first | (simp only [List.length_nil]; omega) | (rw [spanL_len]; exact Nat.le_refl _) | (rw [Bool.cond_eq_ite]; split))
theorem spanTo_tlen {n : Nat} {U : Mmu} {s : Sp} {va k : Nat} {kind : Int} : (spanTo n U s va k kind).2.t.length = U.t.length := by
 have h1 := placeTo_len n U s va kind
 have h2 := placeTo_len n (placeTo n U s va kind).2 s (nextPage va) kind
 rw [h1] at h2
 unfold spanTo span1 span2 spanEnd
 repeat' (first | exact h1 | exact h2 | (rw [Bool.cond_eq_ite]; split))
/-- Bytes as a number, by their places. -/
def placeVal (d : List Int) : List Int → Int
 | [] => 0
 | a :: l => gB d a.toNat + 256 * placeVal d l
theorem placeVal_rng {d : List Int} (h : u8s d) : ∀ l : List Int, 0 ≤ placeVal d l ∧ placeVal d l < 256 ^ l.length
 | [] => by simp [placeVal]
 | a :: l => by
  have h1 := gB_rng h a.toNat
  have h2 := placeVal_rng h l
  simp only [placeVal, List.length_cons, Int.pow_succ]
  omega
theorem placeVal_step {d : List Int} (h : u8s d) {l : List Int} (hl : l.length ≤ 4) {j : Nat} (hj : j < l.length) : bits .or .u32 (IntKind.u32.wrap (placeVal d (l.drop (j + 1)) * 2 ^ (min (8 : Int).toNat IntKind.u32.bits))) (gB d (l[j]'hj).toNat) = placeVal d (l.drop j) := by
 have h1 := placeVal_rng h (l.drop (j + 1))
 have h2 := gB_rng h (l[j]'hj).toNat
 have h3 : (l.drop (j + 1)).length ≤ 3 := by rw [List.length_drop]; omega
 rw [show l.drop j = l[j]'hj :: l.drop (j + 1) from List.drop_eq_getElem_cons hj]
 simp only [placeVal]
 generalize placeVal d (l.drop (j + 1)) = v at h1
 generalize (l.drop (j + 1)).length = m at h1 h3
 have hv : 0 ≤ v ∧ v < 16777216 := by
  obtain rfl | rfl | rfl | rfl : m = 0 ∨ m = 1 ∨ m = 2 ∨ m = 3 := by omega
  all_goals (simp at h1; omega)
 have e1 : (2 : Int) ^ (min (8 : Int).toNat IntKind.u32.bits) = 256 := rfl
 rw [e1, u32_wrap_id _ (by omega) (by omega), bits_join .u32 32 (by decide) wraps_u32 8 (v * 256) _ (by omega) (by omega) (by omega) (by omega) (by omega) (by omega)]
 omega
/-- A word's bytes are put at their places. -/
def putsTo (M : Mem) (l : List Int) (v : Int) : Nat → Mem
 | 0 => M
 | k + 1 => (putsTo M l v k).put ((l.getD k 0).toNat) (wbyte v k)
theorem putsTo_dl (M : Mem) (l : List Int) (v : Int) : ∀ k, (putsTo M l v k).data.length = M.data.length
 | 0 => rfl
 | k + 1 => by rw [putsTo, put_dl, putsTo_dl]
def loadTo (n : Nat) (U : Mmu) (s : Sp) (va k : Nat) : (Int × Tr) × Mmu :=
 ((placeVal (spanTo n U s va k 2).2.m.data (spanTo n U s va k 2).1.1, (spanTo n U s va k 2).1.2), (spanTo n U s va k 2).2)
def storeTo (n : Nat) (U : Mmu) (s : Sp) (va k : Nat) (v : Int) : Tr × Mmu :=
 ((spanTo n U s va k 3).1.2, ⟨putsTo (spanTo n U s va k 3).2.m (spanTo n U s va k 3).1.1 v (spanTo n U s va k 3).1.1.length, (spanTo n U s va k 3).2.t⟩)
theorem wbyte_shr64 (v : Int) {k : Nat} (hk : k < 4) : IntKind.u8.wrap (v.fdiv (2 ^ (min (IntKind.i64.wrap (8 * (k : Int))).toNat IntKind.u32.bits))) = wbyte v k := by
 rw [← wbyte_shr v hk]
 obtain rfl | rfl | rfl | rfl : k = 0 ∨ k = 1 ∨ k = 2 ∨ k = 3 := by omega
 all_goals rfl
end Go.Ink
namespace Go.Proofs.YtmhpcgmjlpfheaaGreatDoor
open Go.RowKit Go.Ink
attribute [local irreducible] OpY GuardIs

theorem uplace_ok (bu bb : Nat) (L : MLoc) (U : Mmu) (hT : U.t.length = 16) (s : Sp) (hr : s.root ≤ 4294967295) (va : Nat) (hva : va ≤ 4294967295) (kind : Int) (w : World) (hi : Inv w (blocks (uF bu bb L U)) (uF bu bb L U) w) :
  Ctr Tryz.prog 119 [.pointer (some ⟨bu, 0, none⟩), s.v, .int .u32 va, .int .i64 kind] w (uF bu bb L U) (fun v cs => v = .tuple #[.int .u32 (placeTo L.n U s va kind).1.1, (placeTo L.n U s va kind).1.2.v] ∧ cs = uF bu bb L (placeTo L.n U s va kind).2) := by
 obtain ⟨fk, hfk⟩ : ∃ x, fault kind = x := ⟨_, rfl⟩
 obtain ⟨td, htd⟩ : ∃ x, turnedTo L.n U s va kind = x := ⟨_, rfl⟩
 have HF := fault_ok kind
 have HT := turned_ok bu bb L U hT s hr va hva kind
 unfold placeTo
 rw [hfk] at HF ⊢
 rw [htd] at HT ⊢
 obtain ⟨⟨p, tr⟩, U'⟩ := td
 simp only at HT ⊢
 refine fn_ctr Tryz.func119 rfl Tryz.ntmps119 rfl hi ?_
 refine Zs (Zr (ZO fun b5 => ?_))
 refine ZA ?_
 refine ZN fun b9 => ?_
 refine Zn (Zt (Zs (Zr (ZA ?_))))
 refine ZA ?_
 refine ZN fun b10 => ?_
 refine ZM ?_
 refine Zn (Zt (Zs (Zs (Zr (ZA ?_)))))
 refine ZS (fun w hi => HF w) ?_
 rintro _ _ ⟨_, ⟨rfl, rfl⟩, rfl⟩
 refine ZA ?_
 refine Zn (Zt ?_)
 refine wc_cond _ rfl (fun hc2 => ?_) (fun hc2 => ?_)
 ·rw [hc2]
  simp only [cond_true]
  refine Zs (wc_draw ⟨fun j => List.elem j [2], []⟩ Zk ?_)
  refine ZI 0 ?_
  refine ZE 1 ?_
  refine wa_1 2 Zk ?_
  refine ZR ?_
  refine wa_done Zk ?_
  refine Zt (Ze (Zw (retTC (cs' := [row _ _ _, exC _ _ _ _, row _ _ _]) (.inl rfl) Zu rfl rfl rfl Zh (fun _ => rfl) (fun _ => rfl) ?_)))
  exact ⟨rfl, rfl⟩
 rw [hc2]
 simp only [cond_false]
 refine Zc (Zt (Zs (Zr (ZA ?_))))
 refine wl_loadRow Zh (fun _ => rfl) (fun _ => rfl) (Zv rfl) rfl ?_
 iterate 2 refine ZA ?_
 refine wl_t (t_callS (uF bu bb L U) rfl (fun _ _ => rfl) Zi (fun w hi hin => HT w hin)) rfl ?_
 rintro _ _ ⟨_, ⟨rfl, rfl⟩, rfl⟩
 iterate 3 refine ZA ?_
 refine ZN fun b12 => ?_
 refine ZA ?_
 refine wl_t0 (t_storeN (vs := tr.cells) (fun _ => rfl) rfl rfl (allT rfl) Za (by exact rfl)) ?_
 rintro _ _ ⟨rfl, rfl⟩
 refine Zn (Zt (Zs (Zs (Zr (ZFa 0 ?_)))))
 refine ZC ?_
 refine ZA ?_
 refine Zn (Zt ?_)
 refine wc_cond _ rfl (fun hc5 => ?_) (fun hc5 => ?_)
 ·rw [hc5]
  simp only [cond_true]
  refine Zs (wc_draw ⟨fun j => List.elem j [2], []⟩ Zk ?_)
  refine ZI 0 ?_
  refine ZE 1 ?_
  refine wa_1 2 Zk ?_
  refine ZR ?_
  refine wa_done Zk ?_
  refine Zt (Ze (Zw (retTC (cs' := [row _ _ _, exC _ _ _ _, row _ _ _]) (.inl rfl) Zu rfl rfl rfl Zh (fun _ => rfl) (fun _ => rfl) ?_)))
  exact ⟨rfl, rfl⟩
 rw [hc5]
 simp only [cond_false]
 refine Zc (Zt (Zs (Zs (Zr (ZA ?_)))))
 iterate 2 refine ZA ?_
 refine ZFa 0 ?_
 refine ZC ?_
 refine ZS (fun w hi => rsize_ok L U'.m w (hi.get Zh)) ?_
 rintro _ _ ⟨_, ⟨rfl, rfl⟩, rfl⟩
 iterate 2 refine ZA ?_
 iterate 4 refine ZB ?_
 refine wl_callg (guard_deep rfl rfl) (.cons (ev_g rfl) .nil) (fun _ _ => rfl) (fun hg w hi => device_ok p w) rfl ?_
 refine ZB ?_
 refine ZA ?_
 refine Zn (Zt ?_)
 refine wc_cond _ rfl (fun hc7 => ?_) (fun hc7 => ?_)
 ·rw [hc7]
  simp only [cond_true]
  refine Zs (wc_draw ⟨fun j => List.elem j [3], []⟩ Zk ?_)
  refine ZE 0 ?_
  refine ZI 1 ?_
  refine ZE 2 ?_
  refine wa_1 3 Zk ?_
  refine ZR ?_
  refine wa_done Zk ?_
  refine Zt (Ze (Zw (retTC (cs' := [row _ _ _, exC _ _ _ _, row _ _ _]) (.inl rfl) Zu rfl rfl rfl Zh (fun _ => rfl) (fun _ => rfl) ?_)))
  exact ⟨rfl, rfl⟩
 rw [hc7]
 simp only [cond_false]
 refine Zc (Zt (Zs (wc_draw ⟨fun j => List.elem j [2], []⟩ Zk ?_)))
 refine ZI 0 ?_
 refine ZE 1 ?_
 refine wa_1 2 Zk ?_
 refine ZR ?_
 refine wa_done Zk ?_
 refine Zt (Ze (retTC (cs' := [row _ _ _, exC _ _ _ _, row _ _ _]) (.inl rfl) Zu rfl rfl rfl Zh (fun _ => rfl) (fun _ => rfl) ?_))
 exact ⟨rfl, rfl⟩
set_option maxHeartbeats 1000000 in
theorem span_ok (bu bb : Nat) (L : MLoc) (U : Mmu) (hT : U.t.length = 16) (s : Sp) (hr : s.root ≤ 4294967295) (va k : Nat) (hva : va ≤ 4294967295) (hk1 : 1 ≤ k) (hk4 : k ≤ 4) (kind : Int) (w : World) (hi : Inv w (blocks (uF bu bb L U)) (uF bu bb L U) w) :
  Ctr Tryz.prog 264 [.pointer (some ⟨bu, 0, none⟩), s.v, .int .u32 va, .int .i64 k, .int .i64 kind] w (uF bu bb L U) (fun v cs => ∃ A c, v = .tuple #[.slice A (spanTo L.n U s va k kind).1.1.length c, (spanTo L.n U s va k kind).1.2.v] ∧ cs = uF bu bb L (spanTo L.n U s va k kind).2 ++ [sl .u32 24 A (spanTo L.n U s va k kind).1.1.length c (spanTo L.n U s va k kind).1.1]) := by
 have HP1 := uplace_ok bu bb L U hT s hr va hva kind
 have hl1 := placeTo_len L.n U s va kind
 obtain ⟨p1, hp1⟩ : ∃ x, placeTo L.n U s va kind = x := ⟨_, rfl⟩
 unfold spanTo
 rw [hp1] at HP1 hl1 ⊢
 rw [hT] at hl1
 have HP2 := uplace_ok bu bb L p1.2 hl1 s hr (nextPage va) (nextPage_le va) kind
 obtain ⟨p2, hp2⟩ : ∃ x, placeTo L.n p1.2 s (nextPage va) kind = x := ⟨_, rfl⟩
 unfold span1 span2
 rw [hp2] at HP2 ⊢
 obtain ⟨⟨a1, tr1⟩, U1⟩ := p1
 obtain ⟨⟨a2, tr2⟩, U2⟩ := p2
 simp only at HP1 HP2 ⊢
 refine fn_ctr Tryz.func264 rfl Tryz.ntmps264 rfl hi ?_
 refine Zs (Zr (ZO fun b6 => ?_))
 refine ZA ?_
 refine ZN fun b11 => ?_
 refine Zn (Zt (Zs (Zs (Zr (ZA ?_)))))
 iterate 2 refine ZA ?_
 iterate 2 refine ZB ?_
 refine ZA ?_
 refine Zn (Zt (wc_cond_f rfl ((by rw [decide_eq_false (show ¬ (k : Int) < 1 by omega), decide_eq_false (show ¬ (4 : Int) < k by omega)]; rfl)) ?_))
 refine Zc (Zt (Zs (Zr (ZA ?_))))
 refine wl_loadRow Zh (fun _ => rfl) (fun _ => rfl) (Zv rfl) rfl ?_
 iterate 2 refine ZA ?_
 refine wl_t (t_callS (uF bu bb L U) rfl (fun _ _ => rfl) Zi (fun w hi hin => HP1 w hin)) rfl ?_
 rintro _ _ ⟨_, ⟨rfl, rfl⟩, rfl⟩
 iterate 3 refine ZA ?_
 refine ZN fun b13 => ?_
 refine ZA ?_
 refine wl_t0 (t_storeN (vs := tr1.cells) (fun _ => rfl) rfl rfl (allT rfl) Za (by exact rfl)) ?_
 rintro _ _ ⟨rfl, rfl⟩
 refine Zn (Zt (Zs (Zs (Zr (ZFa 0 ?_)))))
 refine ZC ?_
 refine ZA ?_
 refine Zn (Zt ?_)
 refine wc_cond _ rfl (fun hc4 => ?_) (fun hc4 => ?_)
 ·rw [hc4]
  simp only [cond_true]
  refine Zs (wc_draw ⟨fun j => List.elem j [2], []⟩ Zk ?_)
  refine wa_nilc 24 1 ?_
  refine ZI 0 ?_
  refine ZE 1 ?_
  refine wa_1 2 Zk ?_
  refine ZR ?_
  refine wa_done Zk ?_
  refine Zt (Ze (Zw (retTC (cs' := [row _ _ _, exC _ _ _ _, row _ _ _, slv _ _ _ _ _ _]) (.inl rfl) Zu rfl rfl rfl Zh (fun _ => rfl) (fun _ => rfl) ?_)))
  exact ⟨_, _, rfl, rfl⟩
 rw [hc4]
 simp only [cond_false]
 refine Zc (Zt (Zs (Zr (ZA ?_))))
 refine Zy (y_rem (Zv rfl) (Zv rfl) (by omega) (show _ = ((va % 64 : Nat) : Int) from by rw [Int.tmod_eq_emod_of_nonneg (by omega)]; omega)) ?_
 refine Zy (y_conv rfl rfl (Zv rfl) Zl) ?_
 refine Zy (y_sub (Zv rfl) (Zv rfl) (show IntKind.i64.wrap _ = ((64 - va % 64 : Nat) : Int) by rw [IntWalk.i64_in _ ⟨by omega, by omega⟩]; omega)) ?_
 refine ZA ?_
 refine Zn (Zt (Zs (Zr (ZA ?_))))
 refine ZA ?_
 refine Zy (y_rem (Zv rfl) (Zv rfl) (by omega) (show _ = ((va % 64 : Nat) : Int) from by rw [Int.tmod_eq_emod_of_nonneg (by omega)]; omega)) ?_
 refine Zy (y_sub (Zv rfl) (Zv rfl) rfl) ?_
 refine Zy (y_add (Zv rfl) (Zv rfl) (show IntKind.u32.wrap (IntKind.u32.wrap _ + 64) = ((nextPage va : Nat) : Int) by rw [IntKind.wrap_u32, IntKind.wrap_u32]; unfold nextPage; omega)) ?_
 iterate 2 refine ZA ?_
 refine Zn (Zt ?_)
 refine wc_seq_mid (fun q : Int × Mmu × Tr => [(2, .int .u32 va), (3, .int .i64 k), (11, .pointer (some ⟨b11, 0, none⟩)), (12, .int .u32 a1), (13, .pointer (some ⟨b13, 0, none⟩)), (14, .int .i64 ((64 - va % 64 : Nat) : Int)), (15, .int .u32 (nextPage va : Nat)), (16, .int .u32 q.1)]) (fun q => uF bu bb L q.2.1 ++ [trC b11 Tr.none, trC b13 q.2.2]) (fun q => (bif decide (((64 - va % 64 : Nat) : Int) < (k : Int)) then bif tr2.cause != 0 then ((([] : List Int), tr2), U2) else spanEnd a1 a2 va k tr2 U2 else spanEnd a1 0 va k tr1 U1) = spanEnd a1 q.1 va k q.2.2 q.2.1) ?_ ?_
 ·refine Zs (Zr (ZA ?_))
  iterate 2 refine ZA ?_
  refine Zn (Zt ?_)
  refine wc_cond _ rfl (fun hc8 => ?_) (fun hc8 => ?_)
  ·have hsm : (bif decide (((64 - va % 64 : Nat) : Int) < (k : Int)) then bif tr2.cause != 0 then ((([] : List Int), tr2), U2) else spanEnd a1 a2 va k tr2 U2 else spanEnd a1 0 va k tr1 U1) = bif tr2.cause != 0 then ((([] : List Int), tr2), U2) else spanEnd a1 a2 va k tr2 U2 := by rw [hc8]; rfl
   refine Zs (Zr (ZA ?_))
   refine wl_loadRow Zh (fun _ => rfl) (fun _ => rfl) (Zv rfl) rfl ?_
   iterate 2 refine ZA ?_
   refine wl_t (t_callS (uF bu bb L U1) rfl (fun _ _ => rfl) Zi (fun w hi hin => HP2 w hin)) rfl ?_
   rintro _ _ ⟨_, ⟨rfl, rfl⟩, rfl⟩
   iterate 4 refine ZA ?_
   refine wl_t0 (t_storeN (vs := tr2.cells) (fun _ => rfl) rfl rfl (allT rfl) Za (by exact rfl)) ?_
   rintro _ _ ⟨rfl, rfl⟩
   refine Zn (Zt (Zs (Zr (ZFa 0 ?_))))
   refine ZC ?_
   refine ZA ?_
   refine Zn (Zt ?_)
   refine wc_cond _ rfl (fun hc10 => ?_) (fun hc10 => ?_)
   ·rw [hsm, hc10]
    simp only [cond_true]
    refine Zs (wc_draw ⟨fun j => List.elem j [2], []⟩ Zk ?_)
    refine wa_nilc 24 1 ?_
    refine ZI 0 ?_
    refine ZE 1 ?_
    refine wa_1 2 Zk ?_
    refine ZR ?_
    refine wa_done Zk ?_
    refine Zt (Ze (Zw (retTC (cs' := [row _ _ _, exC _ _ _ _, row _ _ _, slv _ _ _ _ _ _]) (.inl rfl) Zu rfl rfl rfl Zh (fun _ => rfl) (fun _ => rfl) ?_)))
    exact ⟨_, _, rfl, rfl⟩
   refine Zc ?_
   refine q_midP ((a2, U2, tr2)) ?_ ?_ ?_
   ·exact hsm.trans (by rw [hc10]; rfl)
   ·exact Zwk
   exact Zj
  have hsm : (bif decide (((64 - va % 64 : Nat) : Int) < (k : Int)) then bif tr2.cause != 0 then ((([] : List Int), tr2), U2) else spanEnd a1 a2 va k tr2 U2 else spanEnd a1 0 va k tr1 U1) = spanEnd a1 0 va k tr1 U1 := by rw [hc8]; rfl
  refine Zc ?_
  refine q_midP ((0, U1, tr1)) ?_ ?_ ?_
  ·exact hsm
  ·exact Zwk
  exact Zj
 rintro ⟨a2', U', tr'⟩ hq
 dsimp only at hq
 rw [hq]
 dsimp only
 unfold spanEnd
 refine Zs (Zx (Zs (Zr (ZA ?_))))
 refine ZS (fun w hi => device_ok a1 w) ?_
 rintro _ _ ⟨_, ⟨rfl, rfl⟩, rfl⟩
 refine ZA ?_
 refine Zn (Zt ?_)
 refine wc_cond _ rfl (fun hc12 => ?_) (fun hc12 => ?_)
 ·rw [hc12]
  simp only [cond_true]
  refine Zs (Zr (wl_nilc 24 1 ?_))
  iterate 3 refine ZA ?_
  refine ZM ?_
  refine Zn (Zt (Ze (Zq (Zw (retTC (cs' := [row _ _ _, exC _ _ _ _, row _ _ _, slv _ _ _ _ _ _]) (.inl rfl) Zu rfl rfl rfl Zh (fun _ => rfl) (fun _ => rfl) ?_)))))
  exact ⟨_, _, rfl, rfl⟩
 rw [hc12]
 simp only [cond_false]
 refine Zs (Zr (ZA ?_))
 iterate 3 refine ZA ?_
 refine ZB ?_
 refine wl_callg (guard_yes rfl rfl) (.cons (ev_g rfl) .nil) (fun _ _ => rfl) (fun hg w hi => device_ok a2' w) rfl ?_
 iterate 2 refine ZA ?_
 refine Zn (Zt ?_)
 refine wc_cond _ rfl (fun hc14 => ?_) (fun hc14 => ?_)
 ·rw [hc14]
  simp only [cond_true]
  refine Zs (Zr (wl_nilc 24 1 ?_))
  iterate 3 refine ZA ?_
  refine ZM ?_
  refine Zn (Zt (Ze (Zq (Zw (retTC (cs' := [row _ _ _, exC _ _ _ _, row _ _ _, slv _ _ _ _ _ _]) (.inl rfl) Zu rfl rfl rfl Zh (fun _ => rfl) (fun _ => rfl) ?_)))))
  exact ⟨_, _, rfl, rfl⟩
 rw [hc14]
 simp only [cond_false]
 refine Zc (Zo (Zt (Zs (Zr (wl_nilc 24 1 ?_)))))
 refine ZA ?_
 refine Zn (Zt (Zs (Zs (Zr (ZA ?_)))))
 refine ZA ?_
 refine Zn (Zt (Zx ?_))
 refine wc_loop (fun q : Nat × Option Addr × Nat => [(11, .pointer (some ⟨b11, 0, none⟩)), (12, .int .u32 a1), (13, .pointer (some ⟨b13, 0, none⟩)), (14, .int .i64 ((64 - va % 64 : Nat) : Int)), (16, .int .u32 a2'), (17, .slice q.2.1 (spanL a1 a2' va q.1).length q.2.2), (78, .int .i64 k), (79, .int .i64 (q.1 : Int))]) (fun q => uF bu bb L U' ++ [trC b11 Tr.none, trC b13 tr', sl .u32 24 q.2.1 (spanL a1 a2' va q.1).length q.2.2 (spanL a1 a2' va q.1)]) (fun q => q.1 ≤ k) (fun q => k - q.1) ((0, none, 0)) ?_ ?_ ?_ ?_
 ·exact Nat.zero_le _
 ·exact Zwk
 ·((repeat (first | exact List.Sublist.slnil | refine List.Sublist.cons_cons _ ?_ | refine List.Sublist.cons _ ?_)))
 rintro ⟨j, A1, c1⟩ hj
 simp only at hj
 dsimp only
 refine Zs (Zr (ZA ?_))
 refine Zn (Zt (Zs ?_))
 refine wc_cond _ rfl (fun hc18 => ?_) (fun hc18 => ?_)
 ·simp only [decide_eq_true_eq] at hc18
  have hle := spanL_len a1 a2' va j
  refine Zc (Zt (Zs (Zx (Zs (Zr (ZA ?_))))))
  refine ZA ?_
  refine Zn (Zt (Zs (Zr (ZA ?_))))
  iterate 2 refine ZA ?_
  refine Zn (Zt ?_)
  refine wc_cond _ rfl (fun hc20 => ?_) (fun hc20 => ?_)
  ·simp only [decide_eq_true_eq] at hc20
   have he : spanAt a1 a2' va j = IntKind.u32.wrap (a1 + (j : Int)) := by (unfold spanAt; rw [decide_eq_true (by omega)]; rfl)
   refine Zr (ZA ?_)
   iterate 2 refine ZA ?_
   refine Zy (y_conv rfl rfl (Zv rfl) rfl) ?_
   refine Zy (y_add (Zv rfl) (Zv rfl) (show IntKind.u32.wrap (a1 + IntKind.u32.wrap (j : Int)) = spanAt a1 a2' va j by rw [he, u32_wrap_id (j : Int) (by omega) (by omega)])) ?_
   refine wl_t (t_buildSl1 rfl rfl (fun _ => rfl) (fun _ => rfl) rfl rfl) rfl ?_
   rintro _ _ ⟨b90, rfl, rfl⟩
   refine wl_t (t_append (e := 24) (sz := 1) (bytes := 4) rfl rfl Za rfl rfl (fun w hi => hi.rd (show Has _ (slv 24 1 (some ⟨b90, 0, none⟩) 1 1 [.int .u32 (spanAt a1 a2' va j)]) from Zh)) (allT rfl) (by simp only [maxLen]; omega) (by omega)) rfl ?_
   rintro _ _ ⟨A2, c2, rfl, rfl⟩
   rw [show (spanL a1 a2' va j).length + 1 = (spanL a1 a2' va (j + 1)).length by (rw [spanL_succ]; simp), show ints .u32 (spanL a1 a2' va j) ++ [Value.int .u32 (spanAt a1 a2' va j)] = ints .u32 (spanL a1 a2' va (j + 1)) by (rw [spanL_succ]; exact ints_append _ [_])]
   refine ZA ?_
   refine Zn (Zo (Zt (Zr (Zy (y_add (Zv rfl) (Zv rfl) Zl) ?_))))
   refine ZA ?_
   refine Zn ?_
   refine q_mid ((j + 1, A2, c2)) ?_ ?_ ?_
   ·exact ⟨by show j + 1 ≤ k; omega, by show k - (j + 1) < k - j; omega⟩
   ·exact Zwk
   ((repeat (first | exact List.Sublist.slnil | refine List.Sublist.cons_cons _ ?_ | refine List.Sublist.cons _ ?_)))
  simp only [decide_eq_false_iff_not] at hc20
  have he : spanAt a1 a2' va j = IntKind.u32.wrap (a2' + ((j - (64 - va % 64) : Nat) : Int)) := by (unfold spanAt; rw [decide_eq_false (by omega)]; rfl)
  refine Zr (ZA ?_)
  iterate 3 refine ZA ?_
  refine Zy (y_sub (Zv rfl) (Zv rfl) (show IntKind.i64.wrap ((j : Int) - ((64 - va % 64 : Nat) : Int)) = ((j - (64 - va % 64) : Nat) : Int) by rw [IntWalk.i64_in _ ⟨by omega, by omega⟩]; omega)) ?_
  refine Zy (y_conv rfl rfl (Zv rfl) rfl) ?_
  refine Zy (y_add (Zv rfl) (Zv rfl) (show IntKind.u32.wrap (a2' + IntKind.u32.wrap ((j - (64 - va % 64) : Nat) : Int)) = spanAt a1 a2' va j by rw [he, u32_wrap_id (((j - (64 - va % 64) : Nat) : Int)) (by omega) (by omega)])) ?_
  refine wl_t (t_buildSl1 rfl rfl (fun _ => rfl) (fun _ => rfl) rfl rfl) rfl ?_
  rintro _ _ ⟨b99, rfl, rfl⟩
  refine wl_t (t_append (e := 24) (sz := 1) (bytes := 4) rfl rfl Za rfl rfl (fun w hi => hi.rd (show Has _ (slv 24 1 (some ⟨b99, 0, none⟩) 1 1 [.int .u32 (spanAt a1 a2' va j)]) from Zh)) (allT rfl) (by simp only [maxLen]; omega) (by omega)) rfl ?_
  rintro _ _ ⟨A2, c2, rfl, rfl⟩
  rw [show (spanL a1 a2' va j).length + 1 = (spanL a1 a2' va (j + 1)).length by (rw [spanL_succ]; simp), show ints .u32 (spanL a1 a2' va j) ++ [Value.int .u32 (spanAt a1 a2' va j)] = ints .u32 (spanL a1 a2' va (j + 1)) by (rw [spanL_succ]; exact ints_append _ [_])]
  refine ZA ?_
  refine Zn (Zo (Zt (Zr (Zy (y_add (Zv rfl) (Zv rfl) Zl) ?_))))
  refine ZA ?_
  refine Zn ?_
  refine q_mid ((j + 1, A2, c2)) ?_ ?_ ?_
  ·exact ⟨by show j + 1 ≤ k; omega, by show k - (j + 1) < k - j; omega⟩
  ·exact Zwk
  ((repeat (first | exact List.Sublist.slnil | refine List.Sublist.cons_cons _ ?_ | refine List.Sublist.cons _ ?_)))
 simp only [decide_eq_false_iff_not] at hc18
 obtain rfl : j = k := by omega
 refine wc_exit ?_
 refine q_then_exit ?_
 refine q_then_exit ?_
 refine q_block_same rfl ?_
 refine Zt (Zs (wc_draw ⟨fun j => List.elem j [3], []⟩ Zk ?_))
 refine ZE 0 ?_
 refine ZI 1 ?_
 refine ZE 2 ?_
 refine wa_1 3 Zk ?_
 refine ZR ?_
 refine wa_done Zk ?_
 refine Zt (Ze (retTC (cs' := [row _ _ _, exC _ _ _ _, row _ _ _, slv _ _ _ _ _ _]) (.inl rfl) Zu rfl rfl rfl Zh (fun _ => rfl) (fun _ => rfl) ?_))
 exact ⟨_, _, rfl, rfl⟩
theorem uload_ok (bu bb : Nat) (L : MLoc) (U : Mmu) (hT : U.t.length = 16) (s : Sp) (hr : s.root ≤ 4294967295) (va k : Nat) (hva : va ≤ 4294967295) (hk1 : 1 ≤ k) (hk4 : k ≤ 4) (w : World) (hi : Inv w (blocks (uF bu bb L U)) (uF bu bb L U) w) :
  Ctr Tryz.prog 240 [.pointer (some ⟨bu, 0, none⟩), s.v, .int .u32 va, .int .i64 k] w (uF bu bb L U) (fun v cs => v = .tuple #[.int .u32 (loadTo L.n U s va k).1.1, (loadTo L.n U s va k).1.2.v] ∧ cs = uF bu bb L (loadTo L.n U s va k).2) := by
 obtain ⟨n1, n64, _⟩ := mem_n (hi.ok (memC L U.m) (by simp))
 have HS := span_ok bu bb L U hT s hr va k hva hk1 hk4 2
 have hin0 := spanTo_in (n := L.n) (U := U) (s := s) (va := va) (k := k) n64 hva (kind := 2) hk4
 have hlen0 := spanTo_len (n := L.n) (U := U) (s := s) (va := va) (k := k) (kind := 2)
 unfold loadTo
 obtain ⟨sp, hsp⟩ : ∃ x, spanTo L.n U s va k 2 = x := ⟨_, rfl⟩
 rw [hsp] at HS hin0 hlen0 ⊢
 obtain ⟨⟨l, tr⟩, U'⟩ := sp
 simp only at HS hin0 hlen0 ⊢
 refine fn_ctr Tryz.func240 rfl Tryz.ntmps240 rfl hi ?_
 refine Zs (Zr (ZO fun b5 => ?_))
 refine ZA ?_
 refine ZN fun b9 => ?_
 refine Zn (Zt (Zs (Zr (ZA ?_))))
 refine wl_loadRow Zh (fun _ => rfl) (fun _ => rfl) (Zv rfl) rfl ?_
 iterate 2 refine ZA ?_
 refine wl_t (t_callS (uF bu bb L U) rfl (fun _ _ => rfl) Zi (fun w hi hin => HS w hin)) rfl ?_
 rintro _ _ ⟨_, ⟨A1, c1, rfl, rfl⟩, rfl⟩
 iterate 3 refine ZA ?_
 refine ZN fun b11 => ?_
 refine ZA ?_
 refine wl_t0 (t_storeN (vs := tr.cells) (fun _ => rfl) rfl rfl (allT rfl) Za (by exact rfl)) ?_
 rintro _ _ ⟨rfl, rfl⟩
 refine Zn (Zt (Zs (Zr ?_)))
 refine wl_fact (fun w hi => mem_n (hi.get (show Has _ (memC L U'.m) from Zh))) (fun hmm => ?_)
 obtain ⟨_, _, hdl, hdb, _⟩ := hmm
 refine ZA ?_
 refine Zn (Zt (Zs (Zs (Zr ?_))))
 have e0 : placeVal U'.m.data (l.drop l.length) = 0 := by (rw [List.drop_length]; rfl)
 iterate 2 refine ZA ?_
 refine Zy (y_sub (Zv rfl) (Zv rfl) Zl) ?_
 refine ZA ?_
 refine Zn (Zt (Zx ?_))
 refine wc_loop (fun j : Nat => [(0, .pointer (some ⟨bu, 0, none⟩)), (9, .pointer (some ⟨b9, 0, none⟩)), (10, .slice A1 l.length c1), (11, .pointer (some ⟨b11, 0, none⟩)), (12, .int .u32 (placeVal U'.m.data (l.drop j))), (13, .int .i64 ((j : Int) - 1))]) (fun _ => uF bu bb L U' ++ [sl .u32 24 A1 l.length c1 l, trC b9 Tr.none, trC b11 tr]) (fun j => j ≤ l.length) (fun j => j) (l.length) ?_ ?_ ?_ ?_
 ·exact Nat.le_refl _
 ·exact Zwk
 ·((repeat (first | exact List.Sublist.slnil | refine List.Sublist.cons_cons _ ?_ | refine List.Sublist.cons _ ?_)))
 rintro j hj
 refine Zs (Zs (Zr (ZA ?_)))
 refine ZA ?_
 refine Zn (Zt ?_)
 refine wc_cond _ rfl (fun hc4 => ?_) (fun hc4 => ?_)
 ·simp only [decide_eq_true_eq] at hc4
  obtain ⟨i, rfl⟩ : ∃ i, j = i + 1 := ⟨j - 1, by omega⟩
  have hil : i < l.length := by omega
  have hrange := hin0 _ (List.getElem_mem hil)
  refine wc_fact (fun w hi => slv_some (hi.get (show Has _ (sl .u32 24 A1 l.length c1 l) from Zh)) (by omega)) ?_
  rintro ⟨ba, rfl⟩
  obtain ⟨an, han⟩ := Int.eq_ofNat_of_zero_le hrange.1
  refine Zc (Zt (Zs (Zx (Zs (wc_draw ⟨fun j => List.elem j [], []⟩ Zk ?_)))))
  refine ZE 0 ?_
  refine ZE 1 ?_
  refine ZFe 2 0 ?_
  refine ZG 3 ?_
  refine ZE 4 ?_
  refine ZE 5 ?_
  refine wa_yn 6 rfl Zk Zk Zk (y_indexR (j := i) (sz := 1) (r := i) rfl (fun _ => rfl) (Zv rfl) (Zv rfl) (fun _ => by omega) (fun _ => by omega) (by omega)) rfl ?_
  refine wa_ln 7 rfl Zk Zk Zk Zk (y_load (fun _ => rfl) (Zv rfl)) (sl_cellR Zh (show (ints .u32 l)[i]? = some (.int .u32 (an : Int)) from by rw [← han]; exact ints_get hil)) rfl ?_
  refine wa_1 8 Zk ?_
  refine ZT (fun w hi => rbyte_ok L U'.m an (by omega) w (hi.get Zh)) ?_
  rintro _ _ ⟨_, ⟨rfl, rfl⟩, rfl⟩
  refine ZE 9 ?_
  refine ZE 10 ?_
  refine ZE 11 ?_
  refine ZE 12 ?_
  refine ZE 13 ?_
  refine wa_done Zk ?_
  refine Zt (Zr ?_)
  have hg := gB_rng hdb an
  have hst := placeVal_step hdb (show l.length ≤ 4 by omega) hil
  rw [han] at hst
  refine ZA ?_
  refine Zy (y_shl (Zv rfl) (Zv rfl) (by omega) rfl) ?_
  refine ZA ?_
  refine Zy (y_conv rfl rfl (Zv rfl) (by first | exact IntWalk.u32_in _ ⟨by omega, by omega⟩ | exact rfl)) ?_
  refine Zy (y_or_ (Zv rfl) (Zv rfl) hst) ?_
  refine ZA ?_
  refine Zn (Zo (Zt (Zr (ZA ?_))))
  refine Zy (y_sub (Zv rfl) (Zv rfl) Zl) ?_
  refine ZA ?_
  refine Zn ?_
  refine q_midP (i) ?_ ?_ ?_
  ·exact ⟨by omega, by omega⟩
  ·exact Zwk
  exact Zj
 simp only [decide_eq_false_iff_not] at hc4
 obtain rfl : j = 0 := by omega
 rw [List.drop_zero]
 refine wc_exit ?_
 refine q_then_exit ?_
 refine q_then_exit ?_
 refine q_block_same rfl ?_
 refine Zt (Zs (wc_draw ⟨fun j => List.elem j [3], []⟩ Zk ?_))
 refine ZE 0 ?_
 refine ZI 1 ?_
 refine ZE 2 ?_
 refine wa_1 3 Zk ?_
 refine ZR ?_
 refine wa_done Zk ?_
 refine Zt (Ze (qok_pick (uF bu bb L U' ++ [trC b9 tr]) Zj ?_))
 refine retTC (cs' := [row _ _ _, exC _ _ _ _, row _ _ _]) (.inl rfl) Zu rfl rfl rfl Zh (fun _ => rfl) (fun _ => rfl) ?_
 exact ⟨rfl, rfl⟩
theorem ustore_ok (bu bb : Nat) (L : MLoc) (U : Mmu) (hT : U.t.length = 16) (s : Sp) (hr : s.root ≤ 4294967295) (va k : Nat) (v : Int) (hva : va ≤ 4294967295) (hk1 : 1 ≤ k) (hk4 : k ≤ 4) (w : World) (hi : Inv w (blocks (uF bu bb L U)) (uF bu bb L U) w) :
  Ctr Tryz.prog 238 [.pointer (some ⟨bu, 0, none⟩), s.v, .int .u32 va, .int .u32 v, .int .i64 k] w (uF bu bb L U) (fun x cs => x = (storeTo L.n U s va k v).1.v ∧ cs = uF bu bb L (storeTo L.n U s va k v).2) := by
 obtain ⟨n1, n64, _⟩ := mem_n (hi.ok (memC L U.m) (by simp))
 have HS := span_ok bu bb L U hT s hr va k hva hk1 hk4 3
 have hin0 := spanTo_in (n := L.n) (U := U) (s := s) (va := va) (k := k) n64 hva (kind := 3) hk4
 have hlen0 := spanTo_len (n := L.n) (U := U) (s := s) (va := va) (k := k) (kind := 3)
 unfold storeTo
 obtain ⟨sp, hsp⟩ : ∃ x, spanTo L.n U s va k 3 = x := ⟨_, rfl⟩
 rw [hsp] at HS hin0 hlen0 ⊢
 obtain ⟨⟨l, tr⟩, U'⟩ := sp
 simp only at HS hin0 hlen0 ⊢
 refine fn_ctr Tryz.func238 rfl Tryz.ntmps238 rfl hi ?_
 refine Zs (Zr (ZO fun b6 => ?_))
 refine ZN fun b10 => ?_
 refine Zn (Zt (Zs (Zr (ZA ?_))))
 refine wl_loadRow Zh (fun _ => rfl) (fun _ => rfl) (Zv rfl) rfl ?_
 iterate 2 refine ZA ?_
 refine wl_t (t_callS (uF bu bb L U) rfl (fun _ _ => rfl) Zi (fun w hi hin => HS w hin)) rfl ?_
 rintro _ _ ⟨_, ⟨A1, c1, rfl, rfl⟩, rfl⟩
 iterate 3 refine ZA ?_
 refine ZN fun b12 => ?_
 refine ZA ?_
 refine wl_t0 (t_storeN (vs := tr.cells) (fun _ => rfl) rfl rfl (allT rfl) Za (by exact rfl)) ?_
 rintro _ _ ⟨rfl, rfl⟩
 refine Zn (Zt (Zs (Zs (Zr (ZA ?_)))))
 iterate 2 refine ZA ?_
 refine Zn (Zt (Zx ?_))
 refine wc_loop (fun j : Nat => [(0, .pointer (some ⟨bu, 0, none⟩)), (3, .int .u32 v), (10, .pointer (some ⟨b10, 0, none⟩)), (12, .pointer (some ⟨b12, 0, none⟩)), (23, .slice A1 l.length c1), (24, .int .i64 l.length), (25, .int .i64 (j : Int))]) (fun j => uF bu bb L ⟨putsTo U'.m l v j, U'.t⟩ ++ [sl .u32 24 A1 l.length c1 l, trC b10 Tr.none, trC b12 tr]) (fun j => j ≤ l.length) (fun j => l.length - j) (0) ?_ ?_ ?_ ?_
 ·exact Nat.zero_le _
 ·exact Zwk
 ·((repeat (first | exact List.Sublist.slnil | refine List.Sublist.cons_cons _ ?_ | refine List.Sublist.cons _ ?_)))
 rintro j hj
 refine Zs (Zr (ZA ?_))
 refine Zn (Zt (Zs ?_))
 refine wc_cond _ rfl (fun hc3 => ?_) (fun hc3 => ?_)
 ·simp only [decide_eq_true_eq] at hc3
  have hil : j < l.length := by omega
  have hrange := hin0 _ (List.getElem_mem hil)
  refine wc_fact (fun w hi => slv_some (hi.get (show Has _ (sl .u32 24 A1 l.length c1 l) from Zh)) (by omega)) ?_
  rintro ⟨ba, rfl⟩
  obtain ⟨an, han⟩ := Int.eq_ofNat_of_zero_le hrange.1
  have hgd : (l.getD j 0).toNat = an := by (rw [List.getD_eq_getElem?_getD, List.getElem?_eq_getElem hil]; simp only [Option.getD_some, han]; omega)
  refine Zc (Zt (Zs (Zx (Zs (Zr (ZA ?_))))))
  refine Zy (y_indexR (j := j) (sz := 1) (r := j) rfl (fun _ => rfl) (Zv rfl) (Zv rfl) (fun _ => by omega) (fun _ => by omega) (by omega)) ?_
  refine wl_y (y_load (fun _ => rfl) (Zv rfl)) (sl_cellR Zh (show (ints .u32 l)[j]? = some (.int .u32 (an : Int)) from by rw [← han]; exact ints_get hil)) rfl ?_
  iterate 2 refine ZA ?_
  refine Zn (Zt (wc_draw ⟨fun j => List.elem j [10], []⟩ Zk ?_))
  refine ZE 0 ?_
  refine ZE 1 ?_
  refine ZFe 2 0 ?_
  refine ZG 3 ?_
  refine ZE 4 ?_
  refine ZE 5 ?_
  refine ZE 6 ?_
  refine wa_yn 7 rfl Zk Zk Zk (y_mul (Zv rfl) (Zv rfl) rfl) rfl ?_
  refine wa_yn 8 rfl Zk Zk Zk (y_shr (Zv rfl) (Zv rfl) (by rw [IntWalk.i64_in _ ⟨by omega, by omega⟩]; omega) rfl) rfl ?_
  refine wa_yn 9 rfl Zk Zk Zk (y_conv rfl rfl (Zv rfl) (wbyte_shr64 v (show j < 4 by omega))) rfl ?_
  refine wa_1 10 Zk ?_
  refine wi_t rfl rfl (t_callS ([memC L (putsTo U'.m l v j)]) rfl (fun _ _ => rfl) Zi (fun w hi hin => rput_ok L (putsTo U'.m l v j) an (by omega) (wbyte v j) (wbyte_rng v j) w hin)) (fun _ _ _ _ _ _ _ h => by cases h) rfl ?_
  rintro _ _ ⟨_, ⟨rfl, rfl⟩, rfl⟩
  refine wa_done Zk ?_
  refine Zo (Zt (Zr (Zy (y_add (Zv rfl) (Zv rfl) Zl) ?_)))
  refine ZA ?_
  refine Zn ?_
  refine q_midP (j + 1) ?_ ?_ ?_
  ·exact ⟨by omega, by omega⟩
  ·exact Zwk
  exact (show Pick _ _ from by rw [show putsTo U'.m l v (j + 1) = (putsTo U'.m l v j).put an (wbyte v j) by rw [putsTo, hgd]]; exact Zj)
 simp only [decide_eq_false_iff_not] at hc3
 obtain rfl : j = l.length := by omega
 refine wc_exit ?_
 refine q_then_exit ?_
 refine q_then_exit ?_
 refine q_block_same rfl ?_
 refine Zt (Zs (Zr (wl_loadRow Zh (fun _ => rfl) (fun _ => rfl) (Zv rfl) rfl ?_)))
 refine ZM ?_
 refine Zn (Zt (Ze (qok_pick (uF bu bb L ⟨putsTo U'.m l v l.length, U'.t⟩ ++ [trC b10 tr]) Zj ?_)))
 refine retC (cs' := [row _ _ _, exC _ _ _ _, row _ _ _]) (.inl rfl) Zu rfl rfl Zh (fun _ => rfl) (fun _ => rfl) ?_
 exact ⟨rfl, rfl⟩
end Go.Proofs.YtmhpcgmjlpfheaaGreatDoor
