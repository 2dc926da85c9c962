/- Joined: SpL SpN SpO SpP SpQ SpR SpS SpT SpU SpV SpW. -/
import Derived.Test.YtmhpcgmjlpfheaaGreatDoorSpAll
import Derived.Test.YtmhpcgmjlpfheaaGreatDoorInkA
import Derived.Test.YtmhpcgmjlpfheaaGreatDoorInkA
import Derived.Test.YtmhpcgmjlpfheaaGreatDoorStAll
/- The devices: interrupt lines, timer, console, drive. -/
set_option linter.unusedSimpArgs false
set_option linter.unusedVariables false
set_option maxRecDepth 100000
namespace Go.Ink
open Go.RowKit
/-- Lines as bits. -/
def linesTo (l : List Nat) : Nat → Int
 | 0 => 0
 | k + 1 => bits .or .u32 (linesTo l k) (IntKind.u32.wrap (1 * 2 ^ (min (((l.getD k 0 : Nat) : Int)).toNat IntKind.u32.bits)))
def linesOf (l : List Nat) : Int := linesTo l l.length
def natInts (l : List Nat) : List Int := l.map fun n : Nat => (n : Int)
/-- What a drive does: a sector goes to a page, or a page to a sector. -/
def driveOk (n sector a : Nat) : Bool := !((decide (16 ≤ sector) || (a % 64 != 0)) || decide (n * 64 ≤ a))
def driveDo (n : Nat) (M : Mem) (disk : List Int) (sector a cmd : Nat) : Bool × Mem × List Int :=
 bif !driveOk n sector a then (false, M, disk) else
 bif cmd == 1 then (true, M.fill (a / 64 * 64) ((disk.drop (sector * 64)).take 64) 64, disk) else
 bif cmd == 2 then (true, M, disk.take (sector * 64) ++ (M.data.drop (a / 64 * 64)).take 64 ++ disk.drop (sector * 64 + 64)) else (false, M, disk)
end Go.Ink
namespace Go.Proofs.YtmhpcgmjlpfheaaGreatDoor
open Go.RowKit Go.Ink
attribute [local irreducible] OpY GuardIs

abbrev irqC (b : Nat) (p m : Int) : Chunk := row b [.int .u32 p, .int .u32 m] 141
abbrev timC (b : Nat) (t : Int) : Chunk := row b [.int .u32 t] 152
abbrev b8 (A : Option Addr) (c : Nat) (l : List Int) : Chunk := sl .u8 5 A l.length c l
abbrev conC (b : Nat) (Ao : Option Addr) (no co : Nat) (Ai : Option Addr) (ni ci : Nat) : Chunk := row b [.slice Ao no co, .slice Ai ni ci] 154
abbrev driC (b bd : Nat) : Chunk := row b [.slice (some ⟨bd, 0, none⟩) 1024 1024] 150
abbrev dskC (bd : Nat) (l : List Int) : Chunk := sl .u8 5 (some ⟨bd, 0, none⟩) 1024 1024 l

theorem irqnew_ok (w : World) : Ctr Tryz.prog 51 [] w [] (fun v cs => ∃ b, v = .pointer (some ⟨b, 0, none⟩) ∧ cs = [irqC b 0 0]) := by
 refine fn_ctr Tryz.func51 rfl Tryz.ntmps51 rfl (Inv.start w) ?_
 refine Zs (Zr (ZA ?_))
 refine Zn (Zt (Zs (Zr (ZA ?_))))
 refine ZO fun b2 => ?_
 refine ZA ?_
 refine Zn (Zt (Ze (ret1 (cs' := [row _ _ _]) (.inl rfl) Zu rfl rfl ?_)))
 exact ⟨_, rfl, rfl⟩
theorem timnew_ok (w : World) : Ctr Tryz.prog 52 [] w [] (fun v cs => ∃ b, v = .pointer (some ⟨b, 0, none⟩) ∧ cs = [timC b 0]) := by
 refine fn_ctr Tryz.func52 rfl Tryz.ntmps52 rfl (Inv.start w) ?_
 refine Zs (Zr (ZA ?_))
 refine Zn (Zt (Zs (Zr (ZA ?_))))
 refine ZO fun b2 => ?_
 refine ZA ?_
 refine Zn (Zt (Ze (ret1 (cs' := [row _ _ _]) (.inl rfl) Zu rfl rfl ?_)))
 exact ⟨_, rfl, rfl⟩
theorem connew_ok (w : World) : Ctr Tryz.prog 53 [] w [] (fun v cs => ∃ b, v = .pointer (some ⟨b, 0, none⟩) ∧ cs = [conC b none 0 0 none 0 0]) := by
 refine fn_ctr Tryz.func53 rfl Tryz.ntmps53 rfl (Inv.start w) ?_
 refine Zs (Zr (ZA ?_))
 refine Zn (Zt (Zs (Zr (ZA ?_))))
 refine ZO fun b2 => ?_
 refine ZA ?_
 refine Zn (Zt (Ze (ret1 (cs' := [row _ _ _]) (.inl rfl) Zu rfl rfl ?_)))
 exact ⟨_, rfl, rfl⟩
/-- A drive that begins with some bytes. -/
def _root_.Go.Ink.diskOf (l : List Int) : List Int := l ++ List.replicate (1024 - l.length) 0
theorem drinew_ok (A : Option Addr) (c : Nat) (l : List Int) (hl : l.length ≤ 1024) (w : World) (h : Rd w .u8 A l.length c l) : Ctr Tryz.prog 50 [.slice A l.length c] w [] (fun v cs => ∃ b bd, v = .tuple #[.pointer (some ⟨b, 0, none⟩), .int .i64 0] ∧ cs = [driC b bd, dskC bd (diskOf l)]) := by
 refine fn_ctr Tryz.func50 rfl Tryz.ntmps50 rfl (Inv.start w) ?_
 refine Zs (Zr (ZA ?_))
 refine ZA ?_
 refine Zn (Zt (Zs (Zs (Zr (ZA ?_)))))
 iterate 2 refine ZA ?_
 refine Zn (Zt (wc_cond_f rfl ((decide_eq_false (by omega))) ?_))
 refine Zc (Zt (Zs (Zr (wl_t (t_make (bytes := 1) (n := 1024) rfl rfl rfl rfl rfl rfl rfl (by omega) (by simp only [maxLen]; omega)) rfl ?_))))
 rintro _ _ ⟨b8_, rfl, rfl⟩
 rw [rep_int]
 refine ZA ?_
 refine ZO fun b10 => ?_
 refine ZA ?_
 refine Zn (Zt (Zs (Zr (ZA ?_))))
 refine ZA ?_
 refine ZFa 0 ?_
 refine ZC ?_
 refine ZA ?_
 refine wl_t (t_copy rfl rfl Za rfl rfl (fun w hi => h.oldN hi) ints_one (by omega)) rfl ?_
 rintro _ _ ⟨rfl, rfl⟩
 have hd : (ints .u8 (List.replicate 1024 0)).take 0 ++ (ints .u8 l).take (min l.length 1024) ++ (ints .u8 (List.replicate 1024 0)).drop (0 + min l.length 1024) = ints .u8 (diskOf l) := by (rw [Nat.min_eq_left hl, ints_take, ints_take, ints_drop, List.take_zero, List.take_length, Nat.zero_add, List.drop_replicate]; simp [ints, diskOf])
 rw [hd]
 refine Zn (Zt (Zs (Zr (ZA ?_))))
 iterate 2 refine ZA ?_
 refine Zn (Zt (Ze (qok_pick [driC b10 b8_, dskC b8_ (diskOf l)] Zj ?_)))
 refine ret2 (cs' := [row _ _ _, slv _ _ _ _ _ _]) (.inl rfl) Zu rfl rfl rfl ?_
 exact ⟨_, _, rfl, rfl⟩
theorem pending_ok (b : Nat) (p m : Int) (w : World) (h : (irqC b p m).ok w) : Ctr Tryz.prog 61 [.pointer (some ⟨b, 0, none⟩)] w [] (fun v cs => v = .int .u32 p ∧ cs = []) := by
 refine fn_ctr Tryz.func61 rfl Tryz.ntmps61 rfl (Inv.start w) ?_
 refine Zs (Zr (ZA ?_))
 refine Zn (Zt (Zs (Zr (ZA ?_))))
 refine ZA ?_
 refine ZFa 0 ?_
 refine wl_y (y_load (fun _ => rfl) (Zv rfl)) (old_row (by assumption) rfl) rfl ?_
 refine ZA ?_
 refine Zn (Zt (Ze (ret1 (cs' := []) (.inl rfl) Zu rfl rfl ?_)))
 exact ⟨rfl, rfl⟩
theorem mask_ok (b : Nat) (p m : Int) (w : World) (h : (irqC b p m).ok w) : Ctr Tryz.prog 62 [.pointer (some ⟨b, 0, none⟩)] w [] (fun v cs => v = .int .u32 m ∧ cs = []) := by
 refine fn_ctr Tryz.func62 rfl Tryz.ntmps62 rfl (Inv.start w) ?_
 refine Zs (Zr (ZA ?_))
 refine Zn (Zt (Zs (Zr (ZA ?_))))
 refine ZA ?_
 refine ZFa 1 ?_
 refine wl_y (y_load (fun _ => rfl) (Zv rfl)) (old_row (by assumption) rfl) rfl ?_
 refine ZA ?_
 refine Zn (Zt (Ze (ret1 (cs' := []) (.inl rfl) Zu rfl rfl ?_)))
 exact ⟨rfl, rfl⟩
theorem iclear_ok (b : Nat) (p m v : Int) (w : World) (hi : Inv w (blocks [irqC b p m]) [irqC b p m] w) : Ctr Tryz.prog 259 [.pointer (some ⟨b, 0, none⟩), .int .u32 v] w [irqC b p m] (fun x cs => x = .tuple #[] ∧ cs = [irqC b (bits .andNot .u32 p v) m]) := by
 refine fn_ctr Tryz.func259 rfl Tryz.ntmps259 rfl hi ?_
 refine Zr (ZA ?_)
 refine ZA ?_
 refine ZFa 0 ?_
 refine ZC ?_
 refine ZA ?_
 refine Zy (y_andNot (Zv rfl) (Zv rfl) rfl) ?_
 refine ZA ?_
 refine ZFa 0 ?_
 refine ZL ?_
 refine Zn (ret0 (cs' := [row _ _ _]) (.inr rfl) Zu rfl ?_)
 exact ⟨rfl, rfl⟩
theorem isetmask_ok (b : Nat) (p m v : Int) (w : World) (hi : Inv w (blocks [irqC b p m]) [irqC b p m] w) : Ctr Tryz.prog 260 [.pointer (some ⟨b, 0, none⟩), .int .u32 v] w [irqC b p m] (fun x cs => x = .tuple #[] ∧ cs = [irqC b p (bits .and .u32 v 255)]) := by
 refine fn_ctr Tryz.func260 rfl Tryz.ntmps260 rfl hi ?_
 refine Zr (ZA ?_)
 iterate 3 refine ZA ?_
 refine ZFa 1 ?_
 refine ZL ?_
 refine Zn (ret0 (cs' := [row _ _ _]) (.inr rfl) Zu rfl ?_)
 exact ⟨rfl, rfl⟩
theorem iraise_ok (b : Nat) (p m : Int) (A : Option Addr) (c : Nat) (l : List Nat) (hl : ∀ x, x ∈ l → x < 8) (w : World) (hi : Inv w (blocks [irqC b p m]) [irqC b p m] w) (h : ∀ w', Keep (blocks [irqC b p m]) w w' → Rd w' .i64 A l.length c (natInts l)) : Ctr Tryz.prog 41 [.pointer (some ⟨b, 0, none⟩), .slice A l.length c] w [irqC b p m] (fun x cs => x = .bool true ∧ cs = [irqC b (bits .or .u32 p (linesOf l)) m]) := by
 have hrw := h w (Keep.refl _ _)
 have hm := hrw.max
 have hcp := hrw.cap
 simp only [maxLen] at hm
 refine fn_ctr Tryz.func41 rfl Tryz.ntmps41 rfl hi ?_
 refine Zs (Zr (ZA ?_))
 refine Zn (Zt (Zs (Zr (ZA ?_))))
 refine Zn (Zt (Zs (Zs (Zr (ZA ?_)))))
 iterate 2 refine ZA ?_
 refine Zn (Zt (Zx ?_))
 refine wc_loop (fun k : Nat => [(0, .pointer (some ⟨b, 0, none⟩)), (5, .int .u32 (linesTo l k)), (8, .slice A l.length c), (9, .int .i64 l.length), (10, .int .i64 (k : Int))]) (fun _ => [irqC b p m]) (fun k => k ≤ l.length) (fun k => l.length - k) (0) ?_ ?_ ?_ ?_
 ·exact Nat.zero_le _
 ·exact Zwk
 ·((repeat (first | exact List.Sublist.slnil | refine List.Sublist.cons_cons _ ?_ | refine List.Sublist.cons _ ?_)))
 rintro k hk
 refine Zs (Zr (ZA ?_))
 refine Zn (Zt (Zs ?_))
 refine wc_cond _ rfl (fun hc3 => ?_) (fun hc3 => ?_)
 ·simp only [decide_eq_true_eq] at hc3
  have hkl : k < l.length := by omega
  have hx := hl _ (List.getElem_mem hkl)
  have hgd : l.getD k 0 = l[k]'hkl := by simp [hkl]
  obtain ⟨ad, rfl⟩ := hrw.some_ (by omega)
  refine Zc (Zt (Zs (Zx (Zs (Zr (Zy (y_index (j := k)  rfl (fun _ => rfl) (Zv rfl) (Zv rfl)  (fun _ => by omega) (fun _ => by omega)) ?_))))))
  refine wl_y (y_load (fun _ => rfl) (Zv rfl)) (rd_cellK h (ints_at (show (natInts l)[k]? = some ((l[k]'hkl : Nat) : Int) by simp [natInts, hkl]))) rfl ?_
  refine ZA ?_
  refine Zn (Zt (Zs (Zs (Zr (ZA ?_)))))
  iterate 2 refine ZA ?_
  iterate 2 refine ZB ?_
  refine ZA ?_
  refine Zn (Zt (wc_cond_f rfl ((by rw [decide_eq_false (show ¬ ((l[k]'hkl : Nat) : Int) < 0 by omega), decide_eq_false (show ¬ (8 : Int) ≤ ((l[k]'hkl : Nat) : Int) by omega)]; rfl)) ?_))
  refine Zc (Zt (Zr (ZA ?_)))
  refine ZA ?_
  refine Zy (y_shl (Zv rfl) (Zv rfl) (by omega) rfl) ?_
  refine Zy (y_or_ (Zv rfl) (Zv rfl) (show _ = linesTo l (k + 1) from by rw [linesTo, hgd])) ?_
  refine ZA ?_
  refine Zn (Zo (Zt (Zr (Zy (y_add (Zv rfl) (Zv rfl) Zl) ?_))))
  refine ZA ?_
  refine Zn ?_
  refine q_mid (k + 1) ?_ ?_ ?_
  ·exact ⟨by omega, by omega⟩
  ·exact Zwk
  ((repeat (first | exact List.Sublist.slnil | refine List.Sublist.cons_cons _ ?_ | refine List.Sublist.cons _ ?_)))
 simp only [decide_eq_false_iff_not] at hc3
 obtain rfl : k = l.length := by omega
 refine wc_exit ?_
 refine q_then_exit ?_
 refine q_then_exit ?_
 refine q_block_same rfl ?_
 refine Zt (Zs (Zr (ZA ?_)))
 refine ZA ?_
 refine ZFa 0 ?_
 refine ZC ?_
 iterate 3 refine ZA ?_
 refine ZFa 0 ?_
 refine ZL ?_
 refine Zn (Zt (Zs (Zr (ZA ?_))))
 refine Zn (Zt (Ze (ret1 (cs' := [row _ _ _]) (.inl rfl) Zu rfl rfl ?_)))
 exact ⟨rfl, rfl⟩
theorem tset_ok (b : Nat) (t v : Int) (w : World) (hi : Inv w (blocks [timC b t]) [timC b t] w) : Ctr Tryz.prog 261 [.pointer (some ⟨b, 0, none⟩), .int .u32 v] w [timC b t] (fun x cs => x = .tuple #[] ∧ cs = [timC b v]) := by
 refine fn_ctr Tryz.func261 rfl Tryz.ntmps261 rfl hi ?_
 refine Zr (ZA ?_)
 iterate 2 refine ZA ?_
 refine ZFa 0 ?_
 refine ZL ?_
 refine Zn (ret0 (cs' := [row _ _ _]) (.inr rfl) Zu rfl ?_)
 exact ⟨rfl, rfl⟩
theorem timat_ok (b : Nat) (t : Int) (w : World) (h : (timC b t).ok w) : Ctr Tryz.prog 256 [.pointer (some ⟨b, 0, none⟩)] w [] (fun v cs => v = .int .u32 t ∧ cs = []) := by
 refine fn_ctr Tryz.func256 rfl Tryz.ntmps256 rfl (Inv.start w) ?_
 refine Zs (Zr (ZA ?_))
 refine Zn (Zt (Zs (Zr (ZA ?_))))
 refine ZA ?_
 refine ZFa 0 ?_
 refine wl_y (y_load (fun _ => rfl) (Zv rfl)) (old_row (by assumption) rfl) rfl ?_
 refine ZA ?_
 refine Zn (Zt (Ze (ret1 (cs' := []) (.inl rfl) Zu rfl rfl ?_)))
 exact ⟨rfl, rfl⟩
theorem cloneb_ok (A : Option Addr) (n c : Nat) (xs : List Int) (w : World) (h : Rd w .u8 A n c xs) (hn : n ≤ 140737488355328) : Ctr Tryz.prog 81 [.slice A n c] w [] (fun v cs => ∃ A' c', v = .slice A' n c' ∧ cs = [sl .u8 5 A' n c' xs]) := by
 refine fn_ctr Tryz.func81 rfl Tryz.ntmps81 rfl (Inv.start w) ?_
 refine Zs (Zr (ZA ?_))
 refine Zn (Zt (Zs (Zs (Zr (ZA ?_)))))
 refine ZA ?_
 refine Zn (Zt ?_)
 refine wc_cond _ rfl (fun hc1 => ?_) (fun hc1 => ?_)
 ·obtain rfl : A = none := by simpa using hc1
  obtain ⟨rfl, rfl⟩ := h.nil rfl
  obtain rfl : xs = [] := by have := h.len; simpa [ints] using this
  refine Zs (Zr (wl_nilc 5 1 ?_))
  refine ZA ?_
  refine Zn (Zt (Ze (Zw (ret1 (cs' := [slv _ _ _ _ _ _]) (.inl rfl) Zu rfl rfl ?_))))
  exact ⟨_, _, rfl, rfl⟩
 refine Zc (Zt (Zs (Zr (wl_t (t_buildSl1 rfl rfl (fun _ => rfl) (fun _ => rfl) rfl rfl) rfl ?_))))
 rintro _ _ ⟨b5, rfl, rfl⟩
 refine ZA ?_
 refine wl_t (t_append (e := 5) (sz := 1) (bytes := 1) rfl rfl Za rfl rfl (fun w hi => h.oldN hi) ints_one (by simp only [maxLen]; omega) (by omega)) rfl ?_
 rintro _ _ ⟨A', c', rfl, rfl⟩
 simp only [Nat.zero_add, List.nil_append]
 refine ZA ?_
 refine Zn (Zt (Ze (ret1 (cs' := [slv _ _ _ _ _ _]) (.inl rfl) Zu rfl rfl ?_)))
 exact ⟨_, _, rfl, rfl⟩
theorem cwrite_ok (b : Nat) (Ao : Option Addr) (co : Nat) (o : List Int) (Ai : Option Addr) (ni ci : Nat) (x : Int) (ho : o.length ≤ 1000000000) (w : World) (hi : Inv w (blocks [conC b Ao o.length co Ai ni ci, b8 Ao co o]) [conC b Ao o.length co Ai ni ci, b8 Ao co o] w) : Ctr Tryz.prog 262 [.pointer (some ⟨b, 0, none⟩), .int .u8 x] w [conC b Ao o.length co Ai ni ci, b8 Ao co o] (fun v cs => ∃ Ao' co', v = .tuple #[] ∧ cs = [conC b Ao' (o ++ [x]).length co' Ai ni ci, b8 Ao' co' (o ++ [x])]) := by
 refine fn_ctr Tryz.func262 rfl Tryz.ntmps262 rfl hi ?_
 refine Zr (ZA ?_)
 iterate 2 refine ZA ?_
 refine ZFa 0 ?_
 refine ZC ?_
 refine ZA ?_
 refine wl_t (t_buildSl1 rfl rfl (fun _ => rfl) (fun _ => rfl) rfl rfl) rfl ?_
 rintro _ _ ⟨b10, rfl, rfl⟩
 refine wl_t (t_append (e := 5) (sz := 1) (bytes := 1) rfl rfl Za rfl rfl (fun w hi => hi.rd (show Has _ (slv 5 1 (some ⟨b10, 0, none⟩) 1 1 [.int .u8 x]) from Zh)) (allT rfl) (by simp only [maxLen]; omega) (by omega)) rfl ?_
 rintro _ _ ⟨A2, c2, rfl, rfl⟩
 rw [show o.length + 1 = (o ++ [x]).length by simp, show ints .u8 o ++ [Value.int .u8 x] = ints .u8 (o ++ [x]) from ints_append o [x]]
 refine ZA ?_
 refine ZFa 0 ?_
 refine ZL ?_
 refine Zn (ret0 (cs' := [row _ _ _, slv _ _ _ _ _ _]) (.inr rfl) Zu rfl ?_)
 exact ⟨A2, c2, rfl, rfl⟩
theorem cwaits_ok (b : Nat) (Ao : Option Addr) (no co : Nat) (Ai : Option Addr) (ni ci : Nat) (w : World) (h : (conC b Ao no co Ai ni ci).ok w) : Ctr Tryz.prog 258 [.pointer (some ⟨b, 0, none⟩)] w [] (fun v cs => v = .int .i64 ni ∧ cs = []) := by
 refine fn_ctr Tryz.func258 rfl Tryz.ntmps258 rfl (Inv.start w) ?_
 refine Zs (Zr (ZA ?_))
 refine Zn (Zt (Zs (Zr (ZA ?_))))
 refine ZA ?_
 refine ZFa 1 ?_
 refine wl_y (y_load (fun _ => rfl) (Zv rfl)) (old_row (by assumption) rfl) rfl ?_
 iterate 2 refine ZA ?_
 refine Zn (Zt (Ze (ret1 (cs' := []) (.inl rfl) Zu rfl rfl ?_)))
 exact ⟨rfl, rfl⟩
/-- The first byte goes. -/
theorem delete_ok (A : Option Addr) (c : Nat) (x : Int) (xs : List Int) (hl : xs.length ≤ 1000000000) (w : World) (hi : Inv w (blocks [b8 A c (x :: xs)]) [b8 A c (x :: xs)] w) : Ctr Tryz.prog 268 [.slice A (x :: xs).length c, .int .i64 0, .int .i64 1] w [b8 A c (x :: xs)] (fun v cs => ∃ A' c', v = .slice A' xs.length c' ∧ cs = [b8 A' c' xs]) := by
 have hrd0 := hi.rd (show Has _ (b8 A c (x :: xs)) from Zh)
 have hcap := hrd0.cap
 obtain ⟨bb, rfl⟩ := slv_some (hi.get (show Has _ (b8 A c (x :: xs)) from Zh)) (by simp)
 simp only [List.length_cons] at hcap
 have hxl : (x :: xs).length = xs.length + 1 := rfl
 obtain ⟨q0, hq0⟩ : ∃ q, (⟨bb, (if c = 1 then 0 else 1), none⟩ : Addr) = q := ⟨_, rfl⟩
 have hq1 : (some q0 : Option Addr) = (if c = 1 then some ⟨bb, 0, none⟩ else (some (⟨bb, 0, none⟩ : Addr)).map (·.add (1 * 1))) := by
  rw [← hq0]
  split <;> rfl
 refine fn_ctr Tryz.func268 rfl Tryz.ntmps268 rfl hi ?_
 refine Zs (Zr (ZA ?_))
 refine Zn (Zt (Zs (Zr (ZA ?_))))
 iterate 4 refine ZA ?_
 refine Zy (y_slice3 (lo := 0) (hi := 1) (mx := (x :: xs).length) rfl (fun _ => rfl) (Zv rfl) (Zv rfl) (Zv rfl) (Zv rfl) (by omega) (by omega) (by omega)) ?_
 refine Zn (Zt (Zs (Zs (Zr (ZA ?_)))))
 iterate 2 refine ZA ?_
 refine Zn (Zt (wc_cond_f rfl (rfl) ?_))
 refine Zc (Zt (Zs (Zr (ZA ?_))))
 iterate 2 refine ZA ?_
 refine Zn (Zt (Zs (wc_draw ⟨fun j => List.elem j [6], []⟩ Zk ?_)))
 refine ZE 0 ?_
 refine ZE 1 ?_
 refine wa_yn 2 rfl Zk Zk Zk (y_slice0 0 rfl (fun _ => rfl) (Zv rfl) (Zv rfl) (fun _ => by first | rfl | omega) (fun _ => by omega)) rfl ?_
 refine ZE 3 ?_
 refine ZE 4 ?_
 refine wa_yn 5 rfl Zk Zk Zk (y_sliceT (lo := 1) (hi := (x :: xs).length) (r := q0) rfl (fun _ => rfl) (Zv rfl) (.inr ⟨_, _, rfl, (Zv rfl)⟩) (.inl ⟨rfl, rfl⟩) (by simp) (by simpa using hcap) hq1) rfl ?_
 refine wa_1 6 Zk ?_
 refine wi_t rfl rfl (t_appendR (e := 5) (bytes := 1) rfl (by omega) rfl Za rfl rfl (fun w hi => (by have h5 := (hi.rd (show Has _ (b8 (some ⟨bb, 0, none⟩) c (x :: xs)) from Zh)).cut (lo := 1) (hi := (x :: xs).length) (by simp) (Nat.le_refl _); rw [← hq1] at h5; exact h5)) (by rw [ints_take, ints_drop]; exact ints_one) (by omega)) (fun _ _ _ _ _ _ _ h => by cases h) rfl ?_
 rintro _ _ ⟨rfl, rfl⟩
 rw [show 0 + ((x :: xs).length - 1) = xs.length by simp, show (ints .u8 (x :: xs)).take 0 ++ ((ints .u8 (x :: xs)).take (x :: xs).length).drop 1 = ints .u8 xs from by (simp [ints]; exact List.take_of_length_le (by simp))]
 refine ZE 7 ?_
 refine wa_done Zk ?_
 refine Zt (Zs (Zr (ZA ?_)))
 iterate 3 refine ZA ?_
 refine Zy (y_sliceS (sz := 1) (lo := xs.length) (hi := (x :: xs).length) (r := xs.length) rfl (fun _ => rfl) (Zv rfl) (.inr ⟨_, _, rfl, (Zv rfl)⟩) (.inr ⟨_, _, rfl, (Zv rfl)⟩) (by omega) (by omega) (by omega) (by omega)) ?_
 refine wl_t0 (t_clear rfl Za rfl (fun _ => rfl) rfl rfl (Nat.le_refl _) (by simp only [List.length_cons]; omega)) ?_
 rintro _ _ ⟨rfl, rfl⟩
 refine Zn (Zt (Zs (Zr (ZA ?_))))
 refine ZA ?_
 refine Zn (Zt (Ze (ret1 (cs' := [slv _ _ _ _ _ _]) (.inl rfl) Zu rfl rfl ?_)))
 exact ⟨_, _, rfl, rfl⟩
theorem cread_ok (b : Nat) (Ao : Option Addr) (no co : Nat) (Ai : Option Addr) (ci : Nat) (inp : List Int) (hl : inp.length ≤ 1000000000) (w : World) (hi : Inv w (blocks [conC b Ao no co Ai inp.length ci, b8 Ai ci inp]) [conC b Ao no co Ai inp.length ci, b8 Ai ci inp] w) : Ctr Tryz.prog 257 [.pointer (some ⟨b, 0, none⟩)] w [conC b Ao no co Ai inp.length ci, b8 Ai ci inp] (fun v cs => ∃ Ai' ci', v = .int .u8 (gB inp 0) ∧ cs = [b8 Ai' ci' inp.tail, conC b Ao no co Ai' inp.tail.length ci']) := by
 cases inp with
 | nil =>
  refine fn_ctr Tryz.func257 rfl Tryz.ntmps257 rfl hi ?_
  refine Zs (Zr (ZA ?_))
  refine Zn (Zt (Zs (Zs (Zr (ZA ?_)))))
  refine ZA ?_
  refine ZFa 1 ?_
  refine ZC ?_
  iterate 2 refine ZA ?_
  refine Zn (Zt (wc_cond_t rfl (rfl) ?_))
  refine Zs (Zr (ZA ?_))
  refine Zn (Zt (Ze (Zw (qok_pick [b8 Ai ci [], conC b Ao no co Ai 0 ci] Zj ?_))))
  refine ret1 (cs' := [slv _ _ _ _ _ _, row _ _ _]) (.inl rfl) Zu rfl rfl ?_
  exact ⟨_, _, rfl, rfl⟩
 | cons x xs =>
  have hxl : (x :: xs).length = xs.length + 1 := rfl
  have hc1' : (((x :: xs).length : Int) == 0) = false := by rw [beq_eq_false_iff_ne]; simp only [List.length_cons]; omega
  obtain ⟨bb, rfl⟩ := slv_some (hi.get (show Has _ (b8 Ai ci (x :: xs)) from Zh)) (by simp)
  refine fn_ctr Tryz.func257 rfl Tryz.ntmps257 rfl hi ?_
  refine Zs (Zr (ZA ?_))
  refine Zn (Zt (Zs (Zs (Zr (ZA ?_)))))
  refine ZA ?_
  refine ZFa 1 ?_
  refine ZC ?_
  iterate 2 refine ZA ?_
  refine Zn (Zt (wc_cond_f rfl (hc1') ?_))
  refine Zc (Zt (Zs (Zr (ZA ?_))))
  refine ZA ?_
  refine ZFa 1 ?_
  refine ZC ?_
  refine Zy (y_indexR (j := 0) (sz := 1) (r := 0) rfl (fun _ => rfl) (Zv rfl) (Zv rfl) (fun _ => by omega) (fun _ => by omega) (by omega)) ?_
  refine wl_y (y_load (fun _ => rfl) (Zv rfl)) (sl_cellR (xs := ints .u8 (x :: xs)) Zh rfl) rfl ?_
  refine ZA ?_
  refine Zn (Zt (Zs (Zr (ZA ?_))))
  iterate 2 refine ZA ?_
  refine ZFa 1 ?_
  refine ZC ?_
  refine wl_t (t_callS ([b8 (some ⟨bb, 0, none⟩) ci (x :: xs)]) rfl (fun _ _ => rfl) Zi (fun w hi hin => delete_ok (some ⟨bb, 0, none⟩) ci x xs (by simp only [List.length_cons] at hl; omega) w hin)) rfl ?_
  rintro _ _ ⟨_, ⟨A2, c2, rfl, rfl⟩, rfl⟩
  refine ZA ?_
  refine ZFa 1 ?_
  refine ZL ?_
  refine Zn (Zt (Zs (Zr (ZA ?_))))
  refine ZA ?_
  refine Zn (Zt (Ze (ret1 (cs' := [slv _ _ _ _ _ _, row _ _ _]) (.inl rfl) Zu rfl rfl ?_)))
  exact ⟨_, _, rfl, rfl⟩
end Go.Proofs.YtmhpcgmjlpfheaaGreatDoor
/- The drive's command; the bus. -/
set_option linter.unusedSimpArgs false
set_option linter.unusedVariables false
set_option maxRecDepth 100000
namespace Go.Ink
open Go.RowKit
theorem natBeq (n k : Nat) : ((n : Int) == ((k : Nat) : Int)) = (n == k) := by rw [Bool.eq_iff_iff]; simp; omega
theorem natBne (n k : Nat) : ((n : Int) != ((k : Nat) : Int)) = (n != k) := by rw [Bool.eq_iff_iff]; simp; omega
theorem drive_cond (n sector a : Nat) : (((false || decide ((16 : Int) ≤ sector)) || (((a % 64 : Nat) : Int) != ((0 : Nat) : Int))) || decide (((n * 64 : Nat) : Int) ≤ a)) = !driveOk n sector a := by
 unfold driveOk
 rw [Bool.not_not, Bool.false_or, natBne, show decide ((16 : Int) ≤ sector) = decide (16 ≤ sector) from decide_eq_decide.2 (by omega), show decide (((n * 64 : Nat) : Int) ≤ a) = decide (n * 64 ≤ a) from decide_eq_decide.2 (by omega)]
theorem disk_rd {w : World} {bk sector : Nat} {disk : List Int} (h : RdV w 1 (some ⟨bk, 0, none⟩) 1024 1024 (ints .u8 disk)) (hs : sector < 16) : Rd w .u8 (some ⟨bk, sector * 64, none⟩) 64 (1024 - sector * 64) ((disk.drop (sector * 64)).take 64) := by
 have h1 := h.cut (lo := sector * 64) (hi := sector * 64 + 64) (by omega) (by omega)
 rw [if_neg (by omega), Option.map_some, Addr.add_lit, Nat.mul_one, Nat.zero_add, ints_take, ints_drop, show sector * 64 + 64 - sector * 64 = 64 by omega, List.drop_take, show sector * 64 + 64 - sector * 64 = 64 by omega] at h1
 exact h1
end Go.Ink
namespace Go.Proofs.YtmhpcgmjlpfheaaGreatDoor
open Go.RowKit Go.Ink
attribute [local irreducible] OpY GuardIs

set_option maxHeartbeats 1000000 in
theorem drido_ok (bd bk : Nat) (L : MLoc) (M : Mem) (disk : List Int) (hk : disk.length = 1024) (hkb : u8s disk) (sector a cmd : Nat) (hs : sector ≤ 4294967295) (ha : a ≤ 4294967295) (w : World) (hi : Inv w (blocks [driC bd bk, dskC bk disk, memC L M]) [driC bd bk, dskC bk disk, memC L M] w) :
  Ctr Tryz.prog 263 [.pointer (some ⟨bd, 0, none⟩), .pointer (some ⟨L.bm, 0, none⟩), .int .u32 sector, .int .u32 a, .int .u32 cmd] w [driC bd bk, dskC bk disk, memC L M] (fun v cs => v = .bool (driveDo L.n M disk sector a cmd).1 ∧ cs = [driC bd bk, dskC bk (driveDo L.n M disk sector a cmd).2.2, memC L (driveDo L.n M disk sector a cmd).2.1]) := by
 obtain ⟨n1, n64, hdl, hdb, htl⟩ := mem_n (hi.ok (memC L M) (by simp))
 refine fn_ctr Tryz.func263 rfl Tryz.ntmps263 rfl hi ?_
 refine Zs (Zr (ZA ?_))
 refine Zn (Zt (Zs (Zs (Zr (ZA ?_)))))
 iterate 2 refine ZA ?_
 iterate 2 refine ZB ?_
 iterate 2 refine ZA ?_
 refine ZB ?_
 refine Zyn rfl rfl (y_rem (ev_g rfl) (Zv rfl) (by omega) (show _ = ((a % 64 : Nat) : Int) from by rw [Int.tmod_eq_emod_of_nonneg (by omega)]; omega)) ?_
 refine ZB ?_
 iterate 2 refine ZA ?_
 iterate 2 refine ZB ?_
 refine wl_callg (guard_no rfl rfl) (.cons (ev_g rfl) .nil) (fun _ _ => rfl) (fun hg w hi => rsize_ok L M w (hi.get (show Has _ (memC L M) from Zh))) rfl ?_
 refine ZB ?_
 refine ZA ?_
 refine Zn (Zt ?_)
 refine wc_cond _ rfl (fun hc1 => ?_) (fun hc1 => ?_)
 ·have hno : driveOk L.n sector a = false := by (have h2 := (drive_cond L.n sector a).symm.trans hc1; simpa using h2)
  have hdo : driveDo L.n M disk sector a cmd = (false, M, disk) := by (unfold driveDo; rw [hno]; rfl)
  rw [hdo]
  refine Zs (Zr (ZA ?_))
  refine Zn (Zt (Ze (Zw (ret1 (cs' := [row _ _ _, slv _ _ _ _ _ _, exC _ _ _ _]) (.inl rfl) Zu rfl rfl ?_))))
  exact ⟨rfl, rfl⟩
 have hyes : driveOk L.n sector a = true := by (have h2 := (drive_cond L.n sector a).symm.trans hc1; simpa using h2)
 have hf : sector < 16 ∧ a % 64 = 0 ∧ a < L.n * 64 := by (unfold driveOk at hyes; simp only [Bool.not_eq_true', Bool.or_eq_false_iff, decide_eq_false_iff_not, bne_eq_false_iff_eq] at hyes; omega)
 obtain ⟨s16, am, an⟩ := hf
 have hdo : driveDo L.n M disk sector a cmd = bif cmd == 1 then (true, M.fill (a / 64 * 64) ((disk.drop (sector * 64)).take 64) 64, disk) else bif cmd == 2 then (true, M, disk.take (sector * 64) ++ (M.data.drop (a / 64 * 64)).take 64 ++ disk.drop (sector * 64 + 64)) else (false, M, disk) := by (unfold driveDo; rw [hyes]; rfl)
 rw [hdo]
 have hsl : ((disk.drop (sector * 64)).take 64).length = 64 := by (rw [List.length_take, List.length_drop]; omega)
 refine Zc (Zt (Zs (Zr (ZA ?_))))
 refine ZA ?_
 refine ZFa 0 ?_
 refine ZC ?_
 refine ZA ?_
 refine Zy (y_mul (Zv rfl) (Zv rfl) (show _ = ((sector * 64 : Nat) : Int) from (u32_wrap_id _ (by omega) (by omega)).trans (by omega))) ?_
 refine ZA ?_
 refine Zy (y_add (Zv rfl) (Zv rfl) (show _ = ((sector + 1 : Nat) : Int) from (u32_wrap_id _ (by omega) (by omega)).trans (by omega))) ?_
 refine Zy (y_mul (Zv rfl) (Zv rfl) (show _ = ((sector * 64 + 64 : Nat) : Int) from (u32_wrap_id _ (by omega) (by omega)).trans (by omega))) ?_
 refine Zy (y_sliceS (sz := 1) (lo := sector * 64) (hi := sector * 64 + 64) (r := sector * 64) rfl (fun _ => rfl) (Zv rfl) (.inr ⟨_, _, rfl, (Zv rfl)⟩) (.inr ⟨_, _, rfl, (Zv rfl)⟩) (by omega) (by omega) (by omega) (by omega)) ?_
 refine ZA ?_
 refine Zn (Zt (Zs (Zr (ZA ?_))))
 refine Zy (y_quo (Zv rfl) (Zv rfl) (by omega) (show _ = ((a / 64 : Nat) : Int) from by rw [Int.tdiv_eq_ediv_of_nonneg (by omega), u32_wrap_id _ (by omega) (by omega)]; omega)) ?_
 refine Zy (y_conv rfl rfl (Zv rfl) Zl) ?_
 refine ZA ?_
 refine Zn (Zt (Zs (Zs (Zr ?_))))
 rw [show sector * 64 + 64 - sector * 64 = 64 by omega]
 refine ZA ?_
 refine Zn (Zt (Zx (Zs (Zr (ZA ?_)))))
 refine ZA ?_
 refine Zn (Zt ?_)
 refine wc_cond _ rfl (fun hc6 => ?_) (fun hc6 => ?_)
 ·have hcm : (cmd == 1) = true := (natBeq cmd 1).symm.trans hc6
  rw [hcm]
  simp only [cond_true]
  refine Zs (Zr (ZA ?_))
  iterate 2 refine ZA ?_
  refine wl_t (t_callS ([memC L M]) rfl (fun _ _ => rfl) Zi (fun w hi hin => rputpage_ok L M (a / 64) (by omega) (some ⟨bk, sector * 64, none⟩) (1024 - sector * 64) ((disk.drop (sector * 64)).take 64) hsl (fun x hx => hkb x (List.mem_of_mem_drop (List.mem_of_mem_take hx))) w hin (fun w' hk => disk_rd (hi.rdK (show Has2 _ (memC L M) (dskC bk disk) from (by repeat (first | (refine .l _ ?_; repeat (first | exact .head _ _ | apply Has.tail)) | (refine .r _ ?_; repeat (first | exact .head _ _ | apply Has.tail)) | apply Has2.t))) hk) s16))) rfl ?_
  rintro _ _ ⟨_, ⟨rfl, rfl⟩, rfl⟩
  refine ZA ?_
  refine Zn (Zt (Ze (Zq (Zw (qok_pick [driC bd bk, dskC bk disk, memC L (M.fill (a / 64 * 64) ((disk.drop (sector * 64)).take 64) 64)] Zj ?_)))))
  refine ret1 (cs' := [row _ _ _, slv _ _ _ _ _ _, exC _ _ _ _]) (.inl rfl) Zu rfl rfl ?_
  exact ⟨rfl, rfl⟩
 have hcm : (cmd == 1) = false := (natBeq cmd 1).symm.trans hc6
 rw [hcm]
 simp only [cond_false]
 refine Zs (Zr (ZA ?_))
 refine ZA ?_
 refine Zn (Zt ?_)
 refine wc_cond _ rfl (fun hc8 => ?_) (fun hc8 => ?_)
 ·have hcm2 : (cmd == 2) = true := (natBeq cmd 2).symm.trans hc8
  rw [hcm2]
  simp only [cond_true]
  refine Zs (Zr (ZA ?_))
  refine ZA ?_
  refine ZS (fun w hi => rpage_ok L M (a / 64) (by omega) w (hi.get (show Has _ (memC L M) from Zh))) ?_
  rintro _ _ ⟨_, ⟨bq, rfl, rfl⟩, rfl⟩
  iterate 5 refine ZA ?_
  refine Zn (Zt (Zs (Zr (ZA ?_))))
  refine ZA ?_
  refine wl_t (t_copy rfl rfl Za rfl rfl (fun w hi => hi.rd (show Has _ (sl .u8 5 (some ⟨bq, 0, none⟩) 64 64 ((M.data.drop (a / 64 * 64)).take 64)) from Zh)) ints_one (by omega)) rfl ?_
  rintro _ _ ⟨rfl, rfl⟩
  rw [show (ints .u8 disk).take (sector * 64) ++ (ints .u8 ((M.data.drop (a / 64 * 64)).take 64)).take (min 64 64) ++ (ints .u8 disk).drop (sector * 64 + min 64 64) = ints .u8 (disk.take (sector * 64) ++ (M.data.drop (a / 64 * 64)).take 64 ++ disk.drop (sector * 64 + 64)) from by (rw [Nat.min_self, ints_take, ints_take, ints_drop, ints_append, ints_append, List.take_take, Nat.min_self])]
  refine Zn (Zt (Zs (Zr (ZA ?_))))
  refine ZA ?_
  refine Zn (Zt (Ze (Zq (Zw (ret1 (cs' := [row _ _ _, slv _ _ _ _ _ _, exC _ _ _ _]) (.inl rfl) Zu rfl rfl ?_)))))
  exact ⟨rfl, rfl⟩
 have hcm2 : (cmd == 2) = false := (natBeq cmd 2).symm.trans hc8
 rw [hcm2]
 simp only [cond_false]
 refine Zc (Zo (Zt (Zs (Zr (ZA ?_)))))
 refine Zn (Zt (Ze (ret1 (cs' := [row _ _ _, slv _ _ _ _ _ _, exC _ _ _ _]) (.inl rfl) Zu rfl rfl ?_)))
 exact ⟨rfl, rfl⟩
end Go.Proofs.YtmhpcgmjlpfheaaGreatDoor
/- The bus. -/
set_option linter.unusedSimpArgs false
set_option linter.unusedVariables false
set_option maxRecDepth 100000
namespace Go.Ink
open Go.RowKit
/-- A guest's devices. -/
structure Dev where
 pend : Int
 mask : Int
 timer : Int
 out : List Int
 inp : List Int
 disk : List Int
 sector : Nat
 place : Nat
 status : Int
structure DLoc where
 bs : Nat
 bi : Nat
 bti : Nat
 bcn : Nat
 bdr : Nat
 bdk : Nat
/-- Where what grows lies. -/
structure DAdr where
 Ao : Option Addr
 co : Nat
 Ai : Option Addr
 ci : Nat
structure Dev.wf (d : Dev) : Prop where
 inpb : u8s d.inp
 disk : d.disk.length = 1024
 diskb : u8s d.disk
 sector : d.sector ≤ 4294967295
 place : d.place ≤ 4294967295
 inp : d.inp.length ≤ 1000000000
def devK (a : Nat) : Int := IntKind.u32.wrap ((a : Int) - 32768)
def devLoad (d : Dev) (k count : Int) : (Int × Bool) × Dev :=
 bif k == 0 then ((d.pend, true), d) else bif k == 4 then ((d.mask, true), d) else bif k == 8 then ((d.timer, true), d) else bif k == 12 then ((IntKind.u32.wrap count, true), d) else
 bif k == 16 then ((0, true), d) else bif k == 40 then ((0, true), d) else bif k == 20 then ((gB d.inp 0, true), { d with inp := d.inp.tail }) else bif k == 24 then (((d.inp.length : Int), true), d) else
 bif k == 32 then (((d.sector : Int), true), d) else bif k == 36 then (((d.place : Int), true), d) else bif k == 44 then ((d.status, true), d) else ((0, false), d)
def devCmd (n : Nat) (M : Mem) (d : Dev) (v : Nat) : Mem × Dev :=
 ((driveDo n M d.disk d.sector d.place v).2.1, { d with disk := (driveDo n M d.disk d.sector d.place v).2.2, status := bif (driveDo n M d.disk d.sector d.place v).1 then 0 else 1, pend := bits .or .u32 d.pend (linesOf [2]) })
def devStore (n : Nat) (M : Mem) (d : Dev) (k : Int) (v : Nat) : Bool × Mem × Dev :=
 bif k == 0 then (true, M, { d with pend := bits .andNot .u32 d.pend v }) else bif k == 4 then (true, M, { d with mask := bits .and .u32 v 255 }) else bif k == 8 then (true, M, { d with timer := v }) else
 bif k == 16 then (true, M, { d with out := d.out ++ [IntKind.u8.wrap v] }) else bif k == 32 then (true, M, { d with sector := v }) else bif k == 36 then (true, M, { d with place := v }) else
 bif k == 40 then (true, devCmd n M d v) else bif k == 12 then (true, M, d) else bif k == 20 then (true, M, d) else bif k == 24 then (true, M, d) else bif k == 44 then (true, M, d) else (false, M, d)
end Go.Ink
namespace Go.Proofs.YtmhpcgmjlpfheaaGreatDoor
open Go.RowKit Go.Ink
attribute [local irreducible] OpY GuardIs

abbrev busRow (D : DLoc) (bm : Nat) (d : Dev) : Chunk := row D.bs [.pointer (some ⟨D.bi, 0, none⟩), .pointer (some ⟨D.bti, 0, none⟩), .pointer (some ⟨D.bcn, 0, none⟩), .pointer (some ⟨D.bdr, 0, none⟩), .pointer (some ⟨bm, 0, none⟩), .int .u32 (d.sector : Int), .int .u32 (d.place : Int), .int .u32 d.status] 109
abbrev busF (D : DLoc) (bm : Nat) (X : DAdr) (d : Dev) : List Chunk := [busRow D bm d, irqC D.bi d.pend d.mask, timC D.bti d.timer, conC D.bcn X.Ao d.out.length X.co X.Ai d.inp.length X.ci, b8 X.Ao X.co d.out, b8 X.Ai X.ci d.inp, driC D.bdr D.bdk, dskC D.bdk d.disk]
set_option maxHeartbeats 1000000 in
theorem busload_ok (D : DLoc) (bm : Nat) (X : DAdr) (d : Dev) (hd : d.wf) (a : Nat) (count : Int) (w : World) (hi : Inv w (blocks (busF D bm X d)) (busF D bm X d) w) :
  Ctr Tryz.prog 235 [.pointer (some ⟨D.bs, 0, none⟩), .int .u32 a, .int .u64 count] w (busF D bm X d) (fun v cs => ∃ X', v = .tuple #[.int .u32 (devLoad d (devK a) count).1.1, .bool (devLoad d (devK a) count).1.2] ∧ cs = busF D bm X' (devLoad d (devK a) count).2) := by
 have hinp := hd.inp
 have hgb : IntKind.u32.wrap (gB d.inp 0) = gB d.inp 0 := by have := gB_rng hd.inpb 0; exact u32_wrap_id _ (by omega) (by omega)
 obtain ⟨k, hk⟩ : ∃ k, devK a = k := ⟨_, rfl⟩
 rw [hk]
 unfold devK at hk
 refine fn_ctr Tryz.func235 rfl Tryz.ntmps235 rfl hi ?_
 refine Zs (Zr (ZA ?_))
 refine ZA ?_
 refine Zn (Zt (Zs (Zs (Zr (ZA ?_)))))
 refine Zy (y_sub (Zv rfl) (Zv rfl) hk) ?_
 refine Zn (Zt (Zx (Zs (Zr (ZA ?_)))))
 refine ZA ?_
 refine Zn (Zt ?_)
 refine wc_cond _ rfl (fun hc2 => ?_) (fun hc2 => ?_)
 ·refine Zs (Zr (ZA ?_))
  refine ZA ?_
  refine ZFa 0 ?_
  refine ZC ?_
  refine ZS (fun w hi => pending_ok D.bi d.pend d.mask w (hi.get Zh)) ?_
  rintro _ _ ⟨_, ⟨rfl, rfl⟩, rfl⟩
  iterate 2 refine ZA ?_
  refine Zn (Zt (Ze (Zq (Zw (ret2 (cs' := [row _ _ _, row _ _ _, row _ _ _, row _ _ _, slv _ _ _ _ _ _, slv _ _ _ _ _ _, row _ _ _, slv _ _ _ _ _ _]) (.inl rfl) Zu rfl rfl rfl ?_)))))
  refine ⟨X, ?_, ?_⟩
  ·simp only [devLoad, *, cond_true, cond_false]
  simp only [devLoad, *, cond_true, cond_false]
 refine Zs (Zr (ZA ?_))
 refine ZA ?_
 refine Zn (Zt ?_)
 refine wc_cond _ rfl (fun hc4 => ?_) (fun hc4 => ?_)
 ·refine Zs (Zr (ZA ?_))
  refine ZA ?_
  refine ZFa 0 ?_
  refine ZC ?_
  refine ZS (fun w hi => mask_ok D.bi d.pend d.mask w (hi.get Zh)) ?_
  rintro _ _ ⟨_, ⟨rfl, rfl⟩, rfl⟩
  iterate 2 refine ZA ?_
  refine Zn (Zt (Ze (Zq (Zw (ret2 (cs' := [row _ _ _, row _ _ _, row _ _ _, row _ _ _, slv _ _ _ _ _ _, slv _ _ _ _ _ _, row _ _ _, slv _ _ _ _ _ _]) (.inl rfl) Zu rfl rfl rfl ?_)))))
  refine ⟨X, ?_, ?_⟩
  ·simp only [devLoad, *, cond_true, cond_false]
  simp only [devLoad, *, cond_true, cond_false]
 refine Zs (Zr (ZA ?_))
 refine ZA ?_
 refine Zn (Zt ?_)
 refine wc_cond _ rfl (fun hc6 => ?_) (fun hc6 => ?_)
 ·refine Zs (Zr (ZA ?_))
  refine ZA ?_
  refine ZFa 1 ?_
  refine ZC ?_
  refine ZS (fun w hi => timat_ok D.bti d.timer w (hi.get Zh)) ?_
  rintro _ _ ⟨_, ⟨rfl, rfl⟩, rfl⟩
  iterate 2 refine ZA ?_
  refine Zn (Zt (Ze (Zq (Zw (ret2 (cs' := [row _ _ _, row _ _ _, row _ _ _, row _ _ _, slv _ _ _ _ _ _, slv _ _ _ _ _ _, row _ _ _, slv _ _ _ _ _ _]) (.inl rfl) Zu rfl rfl rfl ?_)))))
  refine ⟨X, ?_, ?_⟩
  ·simp only [devLoad, *, cond_true, cond_false]
  simp only [devLoad, *, cond_true, cond_false]
 refine Zs (Zr (ZA ?_))
 refine ZA ?_
 refine Zn (Zt ?_)
 refine wc_cond _ rfl (fun hc8 => ?_) (fun hc8 => ?_)
 ·refine Zs (Zr (ZA ?_))
  refine Zy (y_conv rfl rfl (Zv rfl) rfl) ?_
  iterate 2 refine ZA ?_
  refine Zn (Zt (Ze (Zq (Zw (ret2 (cs' := [row _ _ _, row _ _ _, row _ _ _, row _ _ _, slv _ _ _ _ _ _, slv _ _ _ _ _ _, row _ _ _, slv _ _ _ _ _ _]) (.inl rfl) Zu rfl rfl rfl ?_)))))
  refine ⟨X, ?_, ?_⟩
  ·simp only [devLoad, *, cond_true, cond_false]
  simp only [devLoad, *, cond_true, cond_false]
 refine Zs (Zs (Zr (ZA ?_)))
 refine ZA ?_
 refine Zn (Zt ?_)
 refine wc_cond _ rfl (fun hc10 => ?_) (fun hc10 => ?_)
 ·refine Zc (Zt (wc_cond_t rfl (hc10) ?_))
  refine Zs (Zr (ZA ?_))
  refine ZA ?_
  refine Zn (Zt (Ze (Zq (Zw (ret2 (cs' := [row _ _ _, row _ _ _, row _ _ _, row _ _ _, slv _ _ _ _ _ _, slv _ _ _ _ _ _, row _ _ _, slv _ _ _ _ _ _]) (.inl rfl) Zu rfl rfl rfl ?_)))))
  refine ⟨X, ?_, ?_⟩
  ·simp only [devLoad, *, cond_true, cond_false]
  simp only [devLoad, *, cond_true, cond_false]
 refine Zr (ZA ?_)
 refine ZA ?_
 refine Zn (Zt ?_)
 refine wc_cond _ rfl (fun hc11 => ?_) (fun hc11 => ?_)
 ·refine Zs (Zr (ZA ?_))
  refine ZA ?_
  refine Zn (Zt (Ze (Zq (Zw (ret2 (cs' := [row _ _ _, row _ _ _, row _ _ _, row _ _ _, slv _ _ _ _ _ _, slv _ _ _ _ _ _, row _ _ _, slv _ _ _ _ _ _]) (.inl rfl) Zu rfl rfl rfl ?_)))))
  refine ⟨X, ?_, ?_⟩
  ·simp only [devLoad, *, cond_true, cond_false]
  simp only [devLoad, *, cond_true, cond_false]
 refine Zs (Zr (ZA ?_))
 refine ZA ?_
 refine Zn (Zt ?_)
 refine wc_cond _ rfl (fun hc13 => ?_) (fun hc13 => ?_)
 ·refine Zs (Zr (ZA ?_))
  refine ZA ?_
  refine ZFa 2 ?_
  refine ZC ?_
  refine wl_t (t_callS ([conC D.bcn X.Ao d.out.length X.co X.Ai d.inp.length X.ci, b8 X.Ai X.ci d.inp]) rfl (fun _ _ => rfl) Zi (fun w hi hin => cread_ok D.bcn X.Ao d.out.length X.co X.Ai X.ci d.inp hinp w hin)) rfl ?_
  rintro _ _ ⟨_, ⟨Ai', ci', rfl, rfl⟩, rfl⟩
  refine Zy (y_conv rfl rfl (Zv rfl) (show IntKind.u32.wrap (gB d.inp 0) = gB d.inp 0 from hgb)) ?_
  iterate 2 refine ZA ?_
  refine Zn (Zt (Ze (Zq (Zw (qok_pick (busF D bm ⟨X.Ao, X.co, Ai', ci'⟩ { d with inp := d.inp.tail }) Zj ?_)))))
  refine ret2 (cs' := [row _ _ _, row _ _ _, row _ _ _, row _ _ _, slv _ _ _ _ _ _, slv _ _ _ _ _ _, row _ _ _, slv _ _ _ _ _ _]) (.inl rfl) Zu rfl rfl rfl ?_
  refine ⟨⟨X.Ao, X.co, Ai', ci'⟩, ?_, ?_⟩
  ·simp only [devLoad, *, cond_true, cond_false]
  simp only [devLoad, *, cond_true, cond_false]
 refine Zs (Zr (ZA ?_))
 refine ZA ?_
 refine Zn (Zt ?_)
 refine wc_cond _ rfl (fun hc15 => ?_) (fun hc15 => ?_)
 ·refine Zs (Zr (ZA ?_))
  refine ZA ?_
  refine ZFa 2 ?_
  refine ZC ?_
  refine ZS (fun w hi => cwaits_ok D.bcn X.Ao d.out.length X.co X.Ai d.inp.length X.ci w (hi.get Zh)) ?_
  rintro _ _ ⟨_, ⟨rfl, rfl⟩, rfl⟩
  refine Zy (y_conv rfl rfl (Zv rfl) (u32_wrap_id _ (by omega) (by omega))) ?_
  iterate 2 refine ZA ?_
  refine Zn (Zt (Ze (Zq (Zw (ret2 (cs' := [row _ _ _, row _ _ _, row _ _ _, row _ _ _, slv _ _ _ _ _ _, slv _ _ _ _ _ _, row _ _ _, slv _ _ _ _ _ _]) (.inl rfl) Zu rfl rfl rfl ?_)))))
  refine ⟨X, ?_, ?_⟩
  ·simp only [devLoad, *, cond_true, cond_false]
  simp only [devLoad, *, cond_true, cond_false]
 refine Zs (Zr (ZA ?_))
 refine ZA ?_
 refine Zn (Zt ?_)
 refine wc_cond _ rfl (fun hc17 => ?_) (fun hc17 => ?_)
 ·refine Zs (Zr (ZA ?_))
  refine ZA ?_
  refine ZFa 5 ?_
  refine ZC ?_
  iterate 2 refine ZA ?_
  refine Zn (Zt (Ze (Zq (Zw (ret2 (cs' := [row _ _ _, row _ _ _, row _ _ _, row _ _ _, slv _ _ _ _ _ _, slv _ _ _ _ _ _, row _ _ _, slv _ _ _ _ _ _]) (.inl rfl) Zu rfl rfl rfl ?_)))))
  refine ⟨X, ?_, ?_⟩
  ·simp only [devLoad, *, cond_true, cond_false]
  simp only [devLoad, *, cond_true, cond_false]
 refine Zs (Zr (ZA ?_))
 refine ZA ?_
 refine Zn (Zt ?_)
 refine wc_cond _ rfl (fun hc19 => ?_) (fun hc19 => ?_)
 ·refine Zs (Zr (ZA ?_))
  refine ZA ?_
  refine ZFa 6 ?_
  refine ZC ?_
  iterate 2 refine ZA ?_
  refine Zn (Zt (Ze (Zq (Zw (ret2 (cs' := [row _ _ _, row _ _ _, row _ _ _, row _ _ _, slv _ _ _ _ _ _, slv _ _ _ _ _ _, row _ _ _, slv _ _ _ _ _ _]) (.inl rfl) Zu rfl rfl rfl ?_)))))
  refine ⟨X, ?_, ?_⟩
  ·simp only [devLoad, *, cond_true, cond_false]
  simp only [devLoad, *, cond_true, cond_false]
 refine Zs (Zr (ZA ?_))
 refine ZA ?_
 refine Zn (Zt ?_)
 refine wc_cond _ rfl (fun hc21 => ?_) (fun hc21 => ?_)
 ·refine Zs (Zr (ZA ?_))
  refine ZA ?_
  refine ZFa 7 ?_
  refine ZC ?_
  iterate 2 refine ZA ?_
  refine Zn (Zt (Ze (Zq (Zw (ret2 (cs' := [row _ _ _, row _ _ _, row _ _ _, row _ _ _, slv _ _ _ _ _ _, slv _ _ _ _ _ _, row _ _ _, slv _ _ _ _ _ _]) (.inl rfl) Zu rfl rfl rfl ?_)))))
  refine ⟨X, ?_, ?_⟩
  ·simp only [devLoad, *, cond_true, cond_false]
  simp only [devLoad, *, cond_true, cond_false]
 refine Zc (Zo (Zt (Zs (Zr (ZA ?_)))))
 refine ZA ?_
 refine Zn (Zt (Ze (ret2 (cs' := [row _ _ _, row _ _ _, row _ _ _, row _ _ _, slv _ _ _ _ _ _, slv _ _ _ _ _ _, row _ _ _, slv _ _ _ _ _ _]) (.inl rfl) Zu rfl rfl rfl ?_)))
 refine ⟨X, ?_, ?_⟩
 ·simp only [devLoad, *, cond_true, cond_false]
 simp only [devLoad, *, cond_true, cond_false]
set_option maxHeartbeats 1000000 in
theorem busstore_ok (D : DLoc) (L : MLoc) (M : Mem) (X : DAdr) (d : Dev) (hd : d.wf) (ho : d.out.length ≤ 1000000000) (a v : Nat) (count : Int) (w : World) (hi : Inv w (blocks (busF D L.bm X d ++ [memC L M])) (busF D L.bm X d ++ [memC L M]) w) :
  Ctr Tryz.prog 237 [.pointer (some ⟨D.bs, 0, none⟩), .int .u32 a, .int .u32 v, .int .u64 count] w (busF D L.bm X d ++ [memC L M]) (fun x cs => ∃ X', x = .bool (devStore L.n M d (devK a) v).1 ∧ cs = busF D L.bm X' (devStore L.n M d (devK a) v).2.2 ++ [memC L (devStore L.n M d (devK a) v).2.1]) := by
 obtain ⟨k, hk⟩ : ∃ k, devK a = k := ⟨_, rfl⟩
 rw [hk]
 unfold devK at hk
 refine fn_ctr Tryz.func237 rfl Tryz.ntmps237 rfl hi ?_
 refine Zs (Zr (ZA ?_))
 refine Zn (Zt (Zs (Zs (Zr (ZA ?_)))))
 refine Zy (y_sub (Zv rfl) (Zv rfl) hk) ?_
 refine Zn (Zt (Zx (Zs (Zr (ZA ?_)))))
 refine ZA ?_
 refine Zn (Zt ?_)
 refine wc_cond _ rfl (fun hc3 => ?_) (fun hc3 => ?_)
 ·refine Zr (ZA ?_)
  refine ZA ?_
  refine ZFa 0 ?_
  refine ZC ?_
  refine ZA ?_
  refine wl_t (t_callS ([irqC D.bi d.pend d.mask]) rfl (fun _ _ => rfl) Zi (fun w hi hin => iclear_ok D.bi d.pend d.mask v w hin)) rfl ?_
  rintro _ _ ⟨_, ⟨rfl, rfl⟩, rfl⟩
  refine Zn (Zo (Zt (Zs (Zr (ZA ?_)))))
  refine Zn (Zt (Ze (qok_pick (busF D L.bm X { d with pend := bits .andNot .u32 d.pend v } ++ [memC L M]) Zj ?_)))
  refine ret1 (cs' := [row _ _ _, row _ _ _, row _ _ _, row _ _ _, slv _ _ _ _ _ _, slv _ _ _ _ _ _, row _ _ _, slv _ _ _ _ _ _, exC _ _ _ _]) (.inl rfl) Zu rfl rfl ?_
  refine ⟨X, ?_, ?_⟩
  ·simp only [devStore, devCmd, *, cond_true, cond_false] <;> exact rfl
  simp only [devStore, devCmd, *, cond_true, cond_false] <;> exact rfl
 refine Zs (Zr (ZA ?_))
 refine ZA ?_
 refine Zn (Zt ?_)
 refine wc_cond _ rfl (fun hc5 => ?_) (fun hc5 => ?_)
 ·refine Zr (ZA ?_)
  refine ZA ?_
  refine ZFa 0 ?_
  refine ZC ?_
  refine ZA ?_
  refine wl_t (t_callS ([irqC D.bi d.pend d.mask]) rfl (fun _ _ => rfl) Zi (fun w hi hin => isetmask_ok D.bi d.pend d.mask v w hin)) rfl ?_
  rintro _ _ ⟨_, ⟨rfl, rfl⟩, rfl⟩
  refine Zn (Zo (Zt (Zs (Zr (ZA ?_)))))
  refine Zn (Zt (Ze (qok_pick (busF D L.bm X { d with mask := bits .and .u32 v 255 } ++ [memC L M]) Zj ?_)))
  refine ret1 (cs' := [row _ _ _, row _ _ _, row _ _ _, row _ _ _, slv _ _ _ _ _ _, slv _ _ _ _ _ _, row _ _ _, slv _ _ _ _ _ _, exC _ _ _ _]) (.inl rfl) Zu rfl rfl ?_
  refine ⟨X, ?_, ?_⟩
  ·simp only [devStore, devCmd, *, cond_true, cond_false] <;> exact rfl
  simp only [devStore, devCmd, *, cond_true, cond_false] <;> exact rfl
 refine Zs (Zr (ZA ?_))
 refine ZA ?_
 refine Zn (Zt ?_)
 refine wc_cond _ rfl (fun hc7 => ?_) (fun hc7 => ?_)
 ·refine Zr (ZA ?_)
  refine ZA ?_
  refine ZFa 1 ?_
  refine ZC ?_
  refine ZA ?_
  refine wl_t (t_callS ([timC D.bti d.timer]) rfl (fun _ _ => rfl) Zi (fun w hi hin => tset_ok D.bti d.timer v w hin)) rfl ?_
  rintro _ _ ⟨_, ⟨rfl, rfl⟩, rfl⟩
  refine Zn (Zo (Zt (Zs (Zr (ZA ?_)))))
  refine Zn (Zt (Ze (qok_pick (busF D L.bm X { d with timer := v } ++ [memC L M]) Zj ?_)))
  refine ret1 (cs' := [row _ _ _, row _ _ _, row _ _ _, row _ _ _, slv _ _ _ _ _ _, slv _ _ _ _ _ _, row _ _ _, slv _ _ _ _ _ _, exC _ _ _ _]) (.inl rfl) Zu rfl rfl ?_
  refine ⟨X, ?_, ?_⟩
  ·simp only [devStore, devCmd, *, cond_true, cond_false] <;> exact rfl
  simp only [devStore, devCmd, *, cond_true, cond_false] <;> exact rfl
 refine Zs (Zr (ZA ?_))
 refine ZA ?_
 refine Zn (Zt ?_)
 refine wc_cond _ rfl (fun hc9 => ?_) (fun hc9 => ?_)
 ·refine Zr (ZA ?_)
  refine ZA ?_
  refine ZFa 2 ?_
  refine ZC ?_
  refine ZA ?_
  refine Zy (y_conv rfl rfl (Zv rfl) rfl) ?_
  refine wl_t (t_callS ([conC D.bcn X.Ao d.out.length X.co X.Ai d.inp.length X.ci, b8 X.Ao X.co d.out]) rfl (fun _ _ => rfl) Zi (fun w hi hin => cwrite_ok D.bcn X.Ao X.co d.out X.Ai d.inp.length X.ci (IntKind.u8.wrap v) ho w hin)) rfl ?_
  rintro _ _ ⟨_, ⟨Ao', co', rfl, rfl⟩, rfl⟩
  refine Zn (Zo (Zt (Zs (Zr (ZA ?_)))))
  refine Zn (Zt (Ze (qok_pick (busF D L.bm ⟨Ao', co', X.Ai, X.ci⟩ { d with out := d.out ++ [IntKind.u8.wrap v] } ++ [memC L M]) Zj ?_)))
  refine ret1 (cs' := [row _ _ _, row _ _ _, row _ _ _, row _ _ _, slv _ _ _ _ _ _, slv _ _ _ _ _ _, row _ _ _, slv _ _ _ _ _ _, exC _ _ _ _]) (.inl rfl) Zu rfl rfl ?_
  refine ⟨⟨Ao', co', X.Ai, X.ci⟩, ?_, ?_⟩
  ·simp only [devStore, *, cond_true, cond_false] <;> exact rfl
  simp only [devStore, *, cond_true, cond_false] <;> exact rfl
 refine Zs (Zr (ZA ?_))
 refine ZA ?_
 refine Zn (Zt ?_)
 refine wc_cond _ rfl (fun hc11 => ?_) (fun hc11 => ?_)
 ·refine Zr (ZA ?_)
  iterate 2 refine ZA ?_
  refine ZFa 5 ?_
  refine ZL ?_
  refine Zn (Zo (Zt (Zs (Zr (ZA ?_)))))
  refine Zn (Zt (Ze (ret1 (cs' := [row _ _ _, row _ _ _, row _ _ _, row _ _ _, slv _ _ _ _ _ _, slv _ _ _ _ _ _, row _ _ _, slv _ _ _ _ _ _, exC _ _ _ _]) (.inl rfl) Zu rfl rfl ?_)))
  refine ⟨X, ?_, ?_⟩
  ·simp only [devStore, devCmd, *, cond_true, cond_false] <;> exact rfl
  simp only [devStore, devCmd, *, cond_true, cond_false] <;> exact rfl
 refine Zs (Zr (ZA ?_))
 refine ZA ?_
 refine Zn (Zt ?_)
 refine wc_cond _ rfl (fun hc13 => ?_) (fun hc13 => ?_)
 ·refine Zr (ZA ?_)
  iterate 2 refine ZA ?_
  refine ZFa 6 ?_
  refine ZL ?_
  refine Zn (Zo (Zt (Zs (Zr (ZA ?_)))))
  refine Zn (Zt (Ze (ret1 (cs' := [row _ _ _, row _ _ _, row _ _ _, row _ _ _, slv _ _ _ _ _ _, slv _ _ _ _ _ _, row _ _ _, slv _ _ _ _ _ _, exC _ _ _ _]) (.inl rfl) Zu rfl rfl ?_)))
  refine ⟨X, ?_, ?_⟩
  ·simp only [devStore, devCmd, *, cond_true, cond_false] <;> exact rfl
  simp only [devStore, devCmd, *, cond_true, cond_false] <;> exact rfl
 refine Zs (Zr (ZA ?_))
 refine ZA ?_
 refine Zn (Zt ?_)
 refine wc_cond _ rfl (fun hc15 => ?_) (fun hc15 => ?_)
 ·refine Zs (Zr (ZA ?_))
  refine ZA ?_
  refine ZFa 7 ?_
  refine ZL ?_
  refine Zn (Zt (Zs (Zs (wc_draw ⟨fun j => List.elem j [17], []⟩ Zk ?_))))
  refine ZE 0 ?_
  refine ZE 1 ?_
  refine ZFe 2 3 ?_
  refine ZG 3 ?_
  refine ZE 4 ?_
  refine ZE 5 ?_
  refine ZFe 6 4 ?_
  refine ZG 7 ?_
  refine ZE 8 ?_
  refine ZE 9 ?_
  refine ZFe 10 5 ?_
  refine ZG 11 ?_
  refine ZE 12 ?_
  refine ZE 13 ?_
  refine ZFe 14 6 ?_
  refine ZG 15 ?_
  refine ZE 16 ?_
  refine wa_1 17 Zk ?_
  refine wi_t rfl rfl (t_callS ([driC D.bdr D.bdk, dskC D.bdk d.disk, memC L M]) rfl (fun _ _ => rfl) Zi (fun w hi hin => drido_ok D.bdr D.bdk L M d.disk hd.disk hd.diskb d.sector d.place v hd.sector hd.place w hin)) (fun _ _ _ _ _ _ _ h => by cases h) rfl ?_
  rintro _ _ ⟨_, ⟨rfl, rfl⟩, rfl⟩
  refine wa_done Zk ?_
  refine Zt ?_
  refine wc_cond _ rfl (fun hc17 => ?_) (fun hc17 => ?_)
  ·refine Zr (ZA ?_)
   refine ZA ?_
   refine ZFa 7 ?_
   refine ZL ?_
   refine Zn (Zt (Zr (ZA ?_)))
   refine ZA ?_
   refine ZFa 0 ?_
   refine ZC ?_
   refine wl_t (t_buildSl1 rfl rfl (fun _ => rfl) (fun _ => rfl) rfl rfl) rfl ?_
   rintro _ _ ⟨b86, rfl, rfl⟩
   refine wl_t (t_callS ([irqC D.bi d.pend d.mask]) rfl (fun _ _ => rfl) Zi (fun w hi hin => iraise_ok D.bi d.pend d.mask (some ⟨b86, 0, none⟩) 1 [2] (by simp) w hin (fun w' hk => hi.rdK (show Has2 _ (irqC D.bi d.pend d.mask) (slv 3 1 (some ⟨b86, 0, none⟩) 1 1 [.int .i64 2]) from (by repeat (first | (refine .l _ ?_; repeat (first | exact .head _ _ | apply Has.tail)) | (refine .r _ ?_; repeat (first | exact .head _ _ | apply Has.tail)) | apply Has2.t))) hk))) rfl ?_
   rintro _ _ ⟨_, ⟨rfl, rfl⟩, rfl⟩
   refine Zn (Zo (Zt (Zs (Zr (ZA ?_)))))
   refine Zn (Zt (Ze (qok_pick (busF D L.bm X { d with disk := (driveDo L.n M d.disk d.sector d.place v).2.2, status := 0, pend := bits .or .u32 d.pend (linesOf [2]) } ++ [memC L (driveDo L.n M d.disk d.sector d.place v).2.1]) Zj ?_)))
   refine ret1 (cs' := [row _ _ _, row _ _ _, row _ _ _, row _ _ _, slv _ _ _ _ _ _, slv _ _ _ _ _ _, row _ _ _, slv _ _ _ _ _ _, exC _ _ _ _]) (.inl rfl) Zu rfl rfl ?_
   refine ⟨X, ?_, ?_⟩
   ·simp only [devStore, devCmd, *, cond_true, cond_false] <;> exact rfl
   simp only [devStore, devCmd, *, cond_true, cond_false] <;> exact rfl
  refine Zc (Zt (Zr (ZA ?_)))
  refine ZA ?_
  refine ZFa 0 ?_
  refine ZC ?_
  refine wl_t (t_buildSl1 rfl rfl (fun _ => rfl) (fun _ => rfl) rfl rfl) rfl ?_
  rintro _ _ ⟨b86, rfl, rfl⟩
  refine wl_t (t_callS ([irqC D.bi d.pend d.mask]) rfl (fun _ _ => rfl) Zi (fun w hi hin => iraise_ok D.bi d.pend d.mask (some ⟨b86, 0, none⟩) 1 [2] (by simp) w hin (fun w' hk => hi.rdK (show Has2 _ (irqC D.bi d.pend d.mask) (slv 3 1 (some ⟨b86, 0, none⟩) 1 1 [.int .i64 2]) from (by repeat (first | (refine .l _ ?_; repeat (first | exact .head _ _ | apply Has.tail)) | (refine .r _ ?_; repeat (first | exact .head _ _ | apply Has.tail)) | apply Has2.t))) hk))) rfl ?_
  rintro _ _ ⟨_, ⟨rfl, rfl⟩, rfl⟩
  refine Zn (Zo (Zt (Zs (Zr (ZA ?_)))))
  refine Zn (Zt (Ze (qok_pick (busF D L.bm X { d with disk := (driveDo L.n M d.disk d.sector d.place v).2.2, status := 1, pend := bits .or .u32 d.pend (linesOf [2]) } ++ [memC L (driveDo L.n M d.disk d.sector d.place v).2.1]) Zj ?_)))
  refine ret1 (cs' := [row _ _ _, row _ _ _, row _ _ _, row _ _ _, slv _ _ _ _ _ _, slv _ _ _ _ _ _, row _ _ _, slv _ _ _ _ _ _, exC _ _ _ _]) (.inl rfl) Zu rfl rfl ?_
  refine ⟨X, ?_, ?_⟩
  ·simp only [devStore, devCmd, *, cond_true, cond_false] <;> exact rfl
  simp only [devStore, devCmd, *, cond_true, cond_false] <;> exact rfl
 refine Zs (Zs (Zr (ZA ?_)))
 refine ZA ?_
 refine Zn (Zt ?_)
 refine wc_cond _ rfl (fun hc20 => ?_) (fun hc20 => ?_)
 ·refine Zc (Zt (wc_cond_t rfl (hc20) ?_))
  refine Zc (Zo (Zt (Zs (Zr (ZA ?_)))))
  refine Zn (Zt (Ze (ret1 (cs' := [row _ _ _, row _ _ _, row _ _ _, row _ _ _, slv _ _ _ _ _ _, slv _ _ _ _ _ _, row _ _ _, slv _ _ _ _ _ _, exC _ _ _ _]) (.inl rfl) Zu rfl rfl ?_)))
  refine ⟨X, ?_, ?_⟩
  ·simp only [devStore, devCmd, *, cond_true, cond_false] <;> exact rfl
  simp only [devStore, devCmd, *, cond_true, cond_false] <;> exact rfl
 refine Zs (Zr (ZA ?_))
 refine ZA ?_
 refine Zn (Zt ?_)
 refine wc_cond _ rfl (fun hc21 => ?_) (fun hc21 => ?_)
 ·refine Zc (Zt (wc_cond_t rfl (hc21) ?_))
  refine Zc (Zo (Zt (Zs (Zr (ZA ?_)))))
  refine Zn (Zt (Ze (ret1 (cs' := [row _ _ _, row _ _ _, row _ _ _, row _ _ _, slv _ _ _ _ _ _, slv _ _ _ _ _ _, row _ _ _, slv _ _ _ _ _ _, exC _ _ _ _]) (.inl rfl) Zu rfl rfl ?_)))
  refine ⟨X, ?_, ?_⟩
  ·simp only [devStore, devCmd, *, cond_true, cond_false] <;> exact rfl
  simp only [devStore, devCmd, *, cond_true, cond_false] <;> exact rfl
 refine Zs (Zr (ZA ?_))
 refine ZA ?_
 refine Zn (Zt ?_)
 refine wc_cond _ rfl (fun hc22 => ?_) (fun hc22 => ?_)
 ·refine Zc (Zt (wc_cond_t rfl (hc22) ?_))
  refine Zc (Zo (Zt (Zs (Zr (ZA ?_)))))
  refine Zn (Zt (Ze (ret1 (cs' := [row _ _ _, row _ _ _, row _ _ _, row _ _ _, slv _ _ _ _ _ _, slv _ _ _ _ _ _, row _ _ _, slv _ _ _ _ _ _, exC _ _ _ _]) (.inl rfl) Zu rfl rfl ?_)))
  refine ⟨X, ?_, ?_⟩
  ·simp only [devStore, devCmd, *, cond_true, cond_false] <;> exact rfl
  simp only [devStore, devCmd, *, cond_true, cond_false] <;> exact rfl
 refine Zr (ZA ?_)
 refine ZA ?_
 refine Zn (Zt ?_)
 refine wc_cond _ rfl (fun hc23 => ?_) (fun hc23 => ?_)
 ·refine Zc (Zo (Zt (Zs (Zr (ZA ?_)))))
  refine Zn (Zt (Ze (ret1 (cs' := [row _ _ _, row _ _ _, row _ _ _, row _ _ _, slv _ _ _ _ _ _, slv _ _ _ _ _ _, row _ _ _, slv _ _ _ _ _ _, exC _ _ _ _]) (.inl rfl) Zu rfl rfl ?_)))
  refine ⟨X, ?_, ?_⟩
  ·simp only [devStore, devCmd, *, cond_true, cond_false] <;> exact rfl
  simp only [devStore, devCmd, *, cond_true, cond_false] <;> exact rfl
 refine Zs (Zr (ZA ?_))
 refine Zn (Zt (Ze (Zq (Zw (ret1 (cs' := [row _ _ _, row _ _ _, row _ _ _, row _ _ _, slv _ _ _ _ _ _, slv _ _ _ _ _ _, row _ _ _, slv _ _ _ _ _ _, exC _ _ _ _]) (.inl rfl) Zu rfl rfl ?_)))))
 refine ⟨X, ?_, ?_⟩
 ·simp only [devStore, devCmd, *, cond_true, cond_false] <;> exact rfl
 simp only [devStore, devCmd, *, cond_true, cond_false] <;> exact rfl
end Go.Proofs.YtmhpcgmjlpfheaaGreatDoor
/- Instructions as bytes, and words of 32 bits. -/
set_option linter.unusedSimpArgs false
set_option linter.unusedVariables false
set_option maxRecDepth 100000
namespace Go.Ink
open Go.RowKit
def opOther (op : Int) : Bool := bif op == 16 then true else bif op == 17 then true else bif op == 18 then true else bif op == 19 then true else bif op == 20 then true else bif op == 21 then true else bif op == 22 then true else bif op == 23 then true else bif op == 24 then true else bif op == 25 then true else bif op == 48 then true else bif op == 49 then true else bif op == 50 then true else bif op == 51 then true else bif op == 52 then true else bif op == 53 then true else bif op == 64 then true else bif op == 65 then true else bif op == 66 then true else bif op == 67 then true else bif op == 68 then true else bif op == 69 then true else false
def opKnown (op : Int) : Bool := bif op == 0 then true else bif op == 1 then true else bif op == 2 then true else bif op == 3 then true else bif op == 4 then true else bif op == 5 then true else bif op == 6 then true else bif op == 7 then true else bif op == 8 then true else bif op == 32 then true else bif op == 33 then true else bif op == 34 then true else bif op == 35 then true else bif op == 36 then true else bif op == 37 then true else bif op == 38 then true else bif op == 39 then true else bif op == 40 then true else opOther op
def opSize (op : Int) : Int := bif op == 1 then 2 else bif op == 32 then 2 else bif op == 33 then 2 else bif op == 34 then 2 else bif op == 35 then 2 else bif op == 36 then 2 else bif op == 37 then 2 else bif op == 38 then 2 else bif op == 66 then 2 else bif op == 67 then 2 else bif op == 2 then 5 else bif !opKnown op then 0 else 1
def opRight (op n : Int) : Bool := bif opSize op == 0 then false else bif opSize op == 1 then n == 0 else bif opSize op == 2 then decide (n ≤ 255) else true
def opSuper (op : Int) : Bool := decide (65 ≤ op) && decide (op ≤ 69)
def flPlain (r : Int) : Int := bif bits .and .u32 r 2147483648 != 0 then bits .or .u32 (bif r == 0 then bits .or .u32 0 1 else 0) 2 else bif r == 0 then bits .or .u32 0 1 else 0
def arMoved (a b : Int) (up : Bool) : Int := bif decide (32 ≤ b) then 0 else bif up then IntKind.u32.wrap (a * 2 ^ (min b.toNat IntKind.u32.bits)) else a.fdiv (2 ^ (min b.toNat IntKind.u32.bits))
def flTail (a b r f : Int) (c : Bool) (o : Int) : Int := bif o != 0 then bits .or .u32 (bif c then bits .or .u32 f 4 else f) 8 else bif c then bits .or .u32 f 4 else f
def flLess (a b : Int) : Int := flTail a b 0 (flPlain (IntKind.u32.wrap (a - b))) (decide (a < b)) (bits .and .u32 (bits .and .u32 (bits .xor .u32 a b) (bits .xor .u32 a (IntKind.u32.wrap (a - b)))) 2147483648)
def flMore (a b : Int) : Int := flTail a b 0 (flPlain (IntKind.u32.wrap (a + b))) (decide (IntKind.u32.wrap (a + b) < a)) (bits .and .u32 (bits .and .u32 (bits .xor .u32 a (IntKind.u32.wrap (a + b))) (bits .xor .u32 b (IntKind.u32.wrap (a + b)))) 2147483648)
def arOf (r : Int) : Int × Int × Bool := (r, flPlain r, true)
def arDo (op a b : Int) : Int × Int × Bool :=
 bif op == 16 then (IntKind.u32.wrap (a + b), flMore a b, true) else bif op == 17 then (IntKind.u32.wrap (a - b), flLess a b, true) else bif op == 25 then (0, flLess a b, true) else bif op == 18 then arOf (bits .and .u32 a b) else bif op == 19 then arOf (bits .or .u32 a b) else bif op == 20 then arOf (bits .xor .u32 a b) else bif op == 21 then arOf (arMoved a b true) else bif op == 22 then arOf (arMoved a b false) else bif op == 23 then arOf (IntKind.u32.wrap (a * b)) else bif op == 24 then (bif b == 0 then (0, 0, false) else arOf (IntKind.u32.wrap (a.tdiv b))) else (0, 0, false)
def arHolds (op f : Int) : Bool × Bool := bif op == 33 then (bits .and .u32 f 1 != 0, true) else bif op == 34 then (bits .and .u32 f 1 == 0, true) else bif op == 35 then (bits .and .u32 f 4 != 0, true) else bif op == 36 then (bits .and .u32 f 2 != 0, true) else bif op == 37 then (bits .and .u32 f 8 != 0, true) else (false, false)
def arSign (b : Int) : Int := IntKind.u32.wrap (IntKind.i32.wrap (IntKind.i8.wrap b))
def opNeeds (op : Int) : (Nat × Nat) × (Nat × Nat) :=
 bif op == 1 then ((0, 1), (0, 0)) else bif op == 2 then ((0, 1), (0, 0)) else bif op == 66 then ((0, 1), (0, 0)) else bif op == 3 then ((1, 2), (0, 0)) else bif op == 4 then ((1, 0), (0, 0)) else bif op == 40 then ((1, 0), (0, 0)) else bif op == 67 then ((1, 0), (0, 0)) else bif op == 68 then ((1, 0), (0, 0)) else bif op == 5 then ((2, 2), (0, 0)) else bif op == 6 then ((2, 3), (0, 0)) else bif op == 7 then ((1, 0), (0, 1)) else bif op == 8 then ((0, 1), (1, 0)) else bif op == 16 then ((2, 1), (0, 0)) else bif op == 17 then ((2, 1), (0, 0)) else bif op == 18 then ((2, 1), (0, 0)) else bif op == 19 then ((2, 1), (0, 0)) else bif op == 20 then ((2, 1), (0, 0)) else bif op == 21 then ((2, 1), (0, 0)) else bif op == 22 then ((2, 1), (0, 0)) else bif op == 23 then ((2, 1), (0, 0)) else bif op == 24 then ((2, 1), (0, 0)) else bif op == 25 then ((2, 0), (0, 0)) else bif op == 49 then ((2, 0), (0, 0)) else bif op == 51 then ((2, 0), (0, 0)) else bif op == 53 then ((2, 0), (0, 0)) else bif op == 48 then ((1, 1), (0, 0)) else bif op == 50 then ((1, 1), (0, 0)) else bif op == 52 then ((1, 1), (0, 0)) else bif op == 38 then ((0, 0), (0, 1)) else bif op == 39 then ((0, 0), (1, 0)) else ((0, 0), (0, 0))
end Go.Ink
namespace Go.Proofs.YtmhpcgmjlpfheaaGreatDoor
open Go.RowKit Go.Ink
attribute [local irreducible] OpY GuardIs

theorem other_ok (op : Int) (w : World) : Ctr Tryz.prog 229 [.int .i64 op] w [] (fun v cs => (∃ s, v = .string s ∧ (s.data.toList == []) = !opOther op) ∧ cs = []) := by
 refine fn_ctr Tryz.func229 rfl Tryz.ntmps229 rfl (Inv.start w) ?_
 refine Zs (Zr (ZA ?_))
 refine Zn (Zt (Zs (Zs (Zr (ZA ?_)))))
 refine Zn (Zt (Zx (Zs (Zr (ZA ?_)))))
 refine ZA ?_
 refine Zn (Zt ?_)
 refine wc_cond _ rfl (fun hc2 => ?_) (fun hc2 => ?_)
 ·refine Zs (Zr (ZA ?_))
  refine Zn (Zt (Ze (Zq (Zw (ret1 (cs' := []) (.inl rfl) Zu rfl rfl ?_)))))
  refine ⟨⟨_, rfl, ?_⟩, rfl⟩
  simp only [opOther, *, cond_true, cond_false]
  exact rfl
 refine Zs (Zr (ZA ?_))
 refine ZA ?_
 refine Zn (Zt ?_)
 refine wc_cond _ rfl (fun hc4 => ?_) (fun hc4 => ?_)
 ·refine Zs (Zr (ZA ?_))
  refine Zn (Zt (Ze (Zq (Zw (ret1 (cs' := []) (.inl rfl) Zu rfl rfl ?_)))))
  refine ⟨⟨_, rfl, ?_⟩, rfl⟩
  simp only [opOther, *, cond_true, cond_false]
  exact rfl
 refine Zs (Zr (ZA ?_))
 refine ZA ?_
 refine Zn (Zt ?_)
 refine wc_cond _ rfl (fun hc6 => ?_) (fun hc6 => ?_)
 ·refine Zs (Zr (ZA ?_))
  refine Zn (Zt (Ze (Zq (Zw (ret1 (cs' := []) (.inl rfl) Zu rfl rfl ?_)))))
  refine ⟨⟨_, rfl, ?_⟩, rfl⟩
  simp only [opOther, *, cond_true, cond_false]
  exact rfl
 refine Zs (Zr (ZA ?_))
 refine ZA ?_
 refine Zn (Zt ?_)
 refine wc_cond _ rfl (fun hc8 => ?_) (fun hc8 => ?_)
 ·refine Zs (Zr (ZA ?_))
  refine Zn (Zt (Ze (Zq (Zw (ret1 (cs' := []) (.inl rfl) Zu rfl rfl ?_)))))
  refine ⟨⟨_, rfl, ?_⟩, rfl⟩
  simp only [opOther, *, cond_true, cond_false]
  exact rfl
 refine Zs (Zr (ZA ?_))
 refine ZA ?_
 refine Zn (Zt ?_)
 refine wc_cond _ rfl (fun hc10 => ?_) (fun hc10 => ?_)
 ·refine Zs (Zr (ZA ?_))
  refine Zn (Zt (Ze (Zq (Zw (ret1 (cs' := []) (.inl rfl) Zu rfl rfl ?_)))))
  refine ⟨⟨_, rfl, ?_⟩, rfl⟩
  simp only [opOther, *, cond_true, cond_false]
  exact rfl
 refine Zs (Zr (ZA ?_))
 refine ZA ?_
 refine Zn (Zt ?_)
 refine wc_cond _ rfl (fun hc12 => ?_) (fun hc12 => ?_)
 ·refine Zs (Zr (ZA ?_))
  refine Zn (Zt (Ze (Zq (Zw (ret1 (cs' := []) (.inl rfl) Zu rfl rfl ?_)))))
  refine ⟨⟨_, rfl, ?_⟩, rfl⟩
  simp only [opOther, *, cond_true, cond_false]
  exact rfl
 refine Zs (Zr (ZA ?_))
 refine ZA ?_
 refine Zn (Zt ?_)
 refine wc_cond _ rfl (fun hc14 => ?_) (fun hc14 => ?_)
 ·refine Zs (Zr (ZA ?_))
  refine Zn (Zt (Ze (Zq (Zw (ret1 (cs' := []) (.inl rfl) Zu rfl rfl ?_)))))
  refine ⟨⟨_, rfl, ?_⟩, rfl⟩
  simp only [opOther, *, cond_true, cond_false]
  exact rfl
 refine Zs (Zr (ZA ?_))
 refine ZA ?_
 refine Zn (Zt ?_)
 refine wc_cond _ rfl (fun hc16 => ?_) (fun hc16 => ?_)
 ·refine Zs (Zr (ZA ?_))
  refine Zn (Zt (Ze (Zq (Zw (ret1 (cs' := []) (.inl rfl) Zu rfl rfl ?_)))))
  refine ⟨⟨_, rfl, ?_⟩, rfl⟩
  simp only [opOther, *, cond_true, cond_false]
  exact rfl
 refine Zs (Zr (ZA ?_))
 refine ZA ?_
 refine Zn (Zt ?_)
 refine wc_cond _ rfl (fun hc18 => ?_) (fun hc18 => ?_)
 ·refine Zs (Zr (ZA ?_))
  refine Zn (Zt (Ze (Zq (Zw (ret1 (cs' := []) (.inl rfl) Zu rfl rfl ?_)))))
  refine ⟨⟨_, rfl, ?_⟩, rfl⟩
  simp only [opOther, *, cond_true, cond_false]
  exact rfl
 refine Zs (Zr (ZA ?_))
 refine ZA ?_
 refine Zn (Zt ?_)
 refine wc_cond _ rfl (fun hc20 => ?_) (fun hc20 => ?_)
 ·refine Zs (Zr (ZA ?_))
  refine Zn (Zt (Ze (Zq (Zw (ret1 (cs' := []) (.inl rfl) Zu rfl rfl ?_)))))
  refine ⟨⟨_, rfl, ?_⟩, rfl⟩
  simp only [opOther, *, cond_true, cond_false]
  exact rfl
 refine Zs (Zr (ZA ?_))
 refine ZA ?_
 refine Zn (Zt ?_)
 refine wc_cond _ rfl (fun hc22 => ?_) (fun hc22 => ?_)
 ·refine Zs (Zr (ZA ?_))
  refine Zn (Zt (Ze (Zq (Zw (ret1 (cs' := []) (.inl rfl) Zu rfl rfl ?_)))))
  refine ⟨⟨_, rfl, ?_⟩, rfl⟩
  simp only [opOther, *, cond_true, cond_false]
  exact rfl
 refine Zs (Zr (ZA ?_))
 refine ZA ?_
 refine Zn (Zt ?_)
 refine wc_cond _ rfl (fun hc24 => ?_) (fun hc24 => ?_)
 ·refine Zs (Zr (ZA ?_))
  refine Zn (Zt (Ze (Zq (Zw (ret1 (cs' := []) (.inl rfl) Zu rfl rfl ?_)))))
  refine ⟨⟨_, rfl, ?_⟩, rfl⟩
  simp only [opOther, *, cond_true, cond_false]
  exact rfl
 refine Zs (Zr (ZA ?_))
 refine ZA ?_
 refine Zn (Zt ?_)
 refine wc_cond _ rfl (fun hc26 => ?_) (fun hc26 => ?_)
 ·refine Zs (Zr (ZA ?_))
  refine Zn (Zt (Ze (Zq (Zw (ret1 (cs' := []) (.inl rfl) Zu rfl rfl ?_)))))
  refine ⟨⟨_, rfl, ?_⟩, rfl⟩
  simp only [opOther, *, cond_true, cond_false]
  exact rfl
 refine Zs (Zr (ZA ?_))
 refine ZA ?_
 refine Zn (Zt ?_)
 refine wc_cond _ rfl (fun hc28 => ?_) (fun hc28 => ?_)
 ·refine Zs (Zr (ZA ?_))
  refine Zn (Zt (Ze (Zq (Zw (ret1 (cs' := []) (.inl rfl) Zu rfl rfl ?_)))))
  refine ⟨⟨_, rfl, ?_⟩, rfl⟩
  simp only [opOther, *, cond_true, cond_false]
  exact rfl
 refine Zs (Zr (ZA ?_))
 refine ZA ?_
 refine Zn (Zt ?_)
 refine wc_cond _ rfl (fun hc30 => ?_) (fun hc30 => ?_)
 ·refine Zs (Zr (ZA ?_))
  refine Zn (Zt (Ze (Zq (Zw (ret1 (cs' := []) (.inl rfl) Zu rfl rfl ?_)))))
  refine ⟨⟨_, rfl, ?_⟩, rfl⟩
  simp only [opOther, *, cond_true, cond_false]
  exact rfl
 refine Zs (Zr (ZA ?_))
 refine ZA ?_
 refine Zn (Zt ?_)
 refine wc_cond _ rfl (fun hc32 => ?_) (fun hc32 => ?_)
 ·refine Zs (Zr (ZA ?_))
  refine Zn (Zt (Ze (Zq (Zw (ret1 (cs' := []) (.inl rfl) Zu rfl rfl ?_)))))
  refine ⟨⟨_, rfl, ?_⟩, rfl⟩
  simp only [opOther, *, cond_true, cond_false]
  exact rfl
 refine Zs (Zr (ZA ?_))
 refine ZA ?_
 refine Zn (Zt ?_)
 refine wc_cond _ rfl (fun hc34 => ?_) (fun hc34 => ?_)
 ·refine Zs (Zr (ZA ?_))
  refine Zn (Zt (Ze (Zq (Zw (ret1 (cs' := []) (.inl rfl) Zu rfl rfl ?_)))))
  refine ⟨⟨_, rfl, ?_⟩, rfl⟩
  simp only [opOther, *, cond_true, cond_false]
  exact rfl
 refine Zs (Zr (ZA ?_))
 refine ZA ?_
 refine Zn (Zt ?_)
 refine wc_cond _ rfl (fun hc36 => ?_) (fun hc36 => ?_)
 ·refine Zs (Zr (ZA ?_))
  refine Zn (Zt (Ze (Zq (Zw (ret1 (cs' := []) (.inl rfl) Zu rfl rfl ?_)))))
  refine ⟨⟨_, rfl, ?_⟩, rfl⟩
  simp only [opOther, *, cond_true, cond_false]
  exact rfl
 refine Zs (Zr (ZA ?_))
 refine ZA ?_
 refine Zn (Zt ?_)
 refine wc_cond _ rfl (fun hc38 => ?_) (fun hc38 => ?_)
 ·refine Zs (Zr (ZA ?_))
  refine Zn (Zt (Ze (Zq (Zw (ret1 (cs' := []) (.inl rfl) Zu rfl rfl ?_)))))
  refine ⟨⟨_, rfl, ?_⟩, rfl⟩
  simp only [opOther, *, cond_true, cond_false]
  exact rfl
 refine Zs (Zr (ZA ?_))
 refine ZA ?_
 refine Zn (Zt ?_)
 refine wc_cond _ rfl (fun hc40 => ?_) (fun hc40 => ?_)
 ·refine Zs (Zr (ZA ?_))
  refine Zn (Zt (Ze (Zq (Zw (ret1 (cs' := []) (.inl rfl) Zu rfl rfl ?_)))))
  refine ⟨⟨_, rfl, ?_⟩, rfl⟩
  simp only [opOther, *, cond_true, cond_false]
  exact rfl
 refine Zs (Zr (ZA ?_))
 refine ZA ?_
 refine Zn (Zt ?_)
 refine wc_cond _ rfl (fun hc42 => ?_) (fun hc42 => ?_)
 ·refine Zs (Zr (ZA ?_))
  refine Zn (Zt (Ze (Zq (Zw (ret1 (cs' := []) (.inl rfl) Zu rfl rfl ?_)))))
  refine ⟨⟨_, rfl, ?_⟩, rfl⟩
  simp only [opOther, *, cond_true, cond_false]
  exact rfl
 refine Zs (Zr (ZA ?_))
 refine ZA ?_
 refine Zn (Zt ?_)
 refine wc_cond _ rfl (fun hc44 => ?_) (fun hc44 => ?_)
 ·refine Zs (Zr (ZA ?_))
  refine Zn (Zt (Ze (Zq (Zw (ret1 (cs' := []) (.inl rfl) Zu rfl rfl ?_)))))
  refine ⟨⟨_, rfl, ?_⟩, rfl⟩
  simp only [opOther, *, cond_true, cond_false]
  exact rfl
 refine Zc (Zo (Zt (Zs (Zr (ZA ?_)))))
 refine Zn (Zt (Ze (ret1 (cs' := []) (.inl rfl) Zu rfl rfl ?_)))
 refine ⟨⟨_, rfl, ?_⟩, rfl⟩
 simp only [opOther, *, cond_true, cond_false]
 exact rfl
theorem name_ok (op : Int) (w : World) : Ctr Tryz.prog 184 [.int .i64 op] w [] (fun v cs => (∃ s, v = .string s ∧ (s.data.toList == []) = !opKnown op) ∧ cs = []) := by
 refine fn_ctr Tryz.func184 rfl Tryz.ntmps184 rfl (Inv.start w) ?_
 refine Zs (Zr (ZA ?_))
 refine Zn (Zt (Zs (Zs (Zr (ZA ?_)))))
 refine Zn (Zt (Zx (Zs (Zr (ZA ?_)))))
 refine ZA ?_
 refine Zn (Zt ?_)
 refine wc_cond _ rfl (fun hc2 => ?_) (fun hc2 => ?_)
 ·refine Zs (Zr (ZA ?_))
  refine Zn (Zt (Ze (Zq (Zw (ret1 (cs' := []) (.inl rfl) Zu rfl rfl ?_)))))
  refine ⟨⟨_, rfl, ?_⟩, rfl⟩
  simp only [opKnown, *, cond_true, cond_false]
  exact rfl
 refine Zs (Zr (ZA ?_))
 refine ZA ?_
 refine Zn (Zt ?_)
 refine wc_cond _ rfl (fun hc4 => ?_) (fun hc4 => ?_)
 ·refine Zs (Zr (ZA ?_))
  refine Zn (Zt (Ze (Zq (Zw (ret1 (cs' := []) (.inl rfl) Zu rfl rfl ?_)))))
  refine ⟨⟨_, rfl, ?_⟩, rfl⟩
  simp only [opKnown, *, cond_true, cond_false]
  exact rfl
 refine Zs (Zr (ZA ?_))
 refine ZA ?_
 refine Zn (Zt ?_)
 refine wc_cond _ rfl (fun hc6 => ?_) (fun hc6 => ?_)
 ·refine Zs (Zr (ZA ?_))
  refine Zn (Zt (Ze (Zq (Zw (ret1 (cs' := []) (.inl rfl) Zu rfl rfl ?_)))))
  refine ⟨⟨_, rfl, ?_⟩, rfl⟩
  simp only [opKnown, *, cond_true, cond_false]
  exact rfl
 refine Zs (Zr (ZA ?_))
 refine ZA ?_
 refine Zn (Zt ?_)
 refine wc_cond _ rfl (fun hc8 => ?_) (fun hc8 => ?_)
 ·refine Zs (Zr (ZA ?_))
  refine Zn (Zt (Ze (Zq (Zw (ret1 (cs' := []) (.inl rfl) Zu rfl rfl ?_)))))
  refine ⟨⟨_, rfl, ?_⟩, rfl⟩
  simp only [opKnown, *, cond_true, cond_false]
  exact rfl
 refine Zs (Zr (ZA ?_))
 refine ZA ?_
 refine Zn (Zt ?_)
 refine wc_cond _ rfl (fun hc10 => ?_) (fun hc10 => ?_)
 ·refine Zs (Zr (ZA ?_))
  refine Zn (Zt (Ze (Zq (Zw (ret1 (cs' := []) (.inl rfl) Zu rfl rfl ?_)))))
  refine ⟨⟨_, rfl, ?_⟩, rfl⟩
  simp only [opKnown, *, cond_true, cond_false]
  exact rfl
 refine Zs (Zr (ZA ?_))
 refine ZA ?_
 refine Zn (Zt ?_)
 refine wc_cond _ rfl (fun hc12 => ?_) (fun hc12 => ?_)
 ·refine Zs (Zr (ZA ?_))
  refine Zn (Zt (Ze (Zq (Zw (ret1 (cs' := []) (.inl rfl) Zu rfl rfl ?_)))))
  refine ⟨⟨_, rfl, ?_⟩, rfl⟩
  simp only [opKnown, *, cond_true, cond_false]
  exact rfl
 refine Zs (Zr (ZA ?_))
 refine ZA ?_
 refine Zn (Zt ?_)
 refine wc_cond _ rfl (fun hc14 => ?_) (fun hc14 => ?_)
 ·refine Zs (Zr (ZA ?_))
  refine Zn (Zt (Ze (Zq (Zw (ret1 (cs' := []) (.inl rfl) Zu rfl rfl ?_)))))
  refine ⟨⟨_, rfl, ?_⟩, rfl⟩
  simp only [opKnown, *, cond_true, cond_false]
  exact rfl
 refine Zs (Zr (ZA ?_))
 refine ZA ?_
 refine Zn (Zt ?_)
 refine wc_cond _ rfl (fun hc16 => ?_) (fun hc16 => ?_)
 ·refine Zs (Zr (ZA ?_))
  refine Zn (Zt (Ze (Zq (Zw (ret1 (cs' := []) (.inl rfl) Zu rfl rfl ?_)))))
  refine ⟨⟨_, rfl, ?_⟩, rfl⟩
  simp only [opKnown, *, cond_true, cond_false]
  exact rfl
 refine Zs (Zr (ZA ?_))
 refine ZA ?_
 refine Zn (Zt ?_)
 refine wc_cond _ rfl (fun hc18 => ?_) (fun hc18 => ?_)
 ·refine Zs (Zr (ZA ?_))
  refine Zn (Zt (Ze (Zq (Zw (ret1 (cs' := []) (.inl rfl) Zu rfl rfl ?_)))))
  refine ⟨⟨_, rfl, ?_⟩, rfl⟩
  simp only [opKnown, *, cond_true, cond_false]
  exact rfl
 refine Zs (Zr (ZA ?_))
 refine ZA ?_
 refine Zn (Zt ?_)
 refine wc_cond _ rfl (fun hc20 => ?_) (fun hc20 => ?_)
 ·refine Zs (Zr (ZA ?_))
  refine Zn (Zt (Ze (Zq (Zw (ret1 (cs' := []) (.inl rfl) Zu rfl rfl ?_)))))
  refine ⟨⟨_, rfl, ?_⟩, rfl⟩
  simp only [opKnown, *, cond_true, cond_false]
  exact rfl
 refine Zs (Zr (ZA ?_))
 refine ZA ?_
 refine Zn (Zt ?_)
 refine wc_cond _ rfl (fun hc22 => ?_) (fun hc22 => ?_)
 ·refine Zs (Zr (ZA ?_))
  refine Zn (Zt (Ze (Zq (Zw (ret1 (cs' := []) (.inl rfl) Zu rfl rfl ?_)))))
  refine ⟨⟨_, rfl, ?_⟩, rfl⟩
  simp only [opKnown, *, cond_true, cond_false]
  exact rfl
 refine Zs (Zr (ZA ?_))
 refine ZA ?_
 refine Zn (Zt ?_)
 refine wc_cond _ rfl (fun hc24 => ?_) (fun hc24 => ?_)
 ·refine Zs (Zr (ZA ?_))
  refine Zn (Zt (Ze (Zq (Zw (ret1 (cs' := []) (.inl rfl) Zu rfl rfl ?_)))))
  refine ⟨⟨_, rfl, ?_⟩, rfl⟩
  simp only [opKnown, *, cond_true, cond_false]
  exact rfl
 refine Zs (Zr (ZA ?_))
 refine ZA ?_
 refine Zn (Zt ?_)
 refine wc_cond _ rfl (fun hc26 => ?_) (fun hc26 => ?_)
 ·refine Zs (Zr (ZA ?_))
  refine Zn (Zt (Ze (Zq (Zw (ret1 (cs' := []) (.inl rfl) Zu rfl rfl ?_)))))
  refine ⟨⟨_, rfl, ?_⟩, rfl⟩
  simp only [opKnown, *, cond_true, cond_false]
  exact rfl
 refine Zs (Zr (ZA ?_))
 refine ZA ?_
 refine Zn (Zt ?_)
 refine wc_cond _ rfl (fun hc28 => ?_) (fun hc28 => ?_)
 ·refine Zs (Zr (ZA ?_))
  refine Zn (Zt (Ze (Zq (Zw (ret1 (cs' := []) (.inl rfl) Zu rfl rfl ?_)))))
  refine ⟨⟨_, rfl, ?_⟩, rfl⟩
  simp only [opKnown, *, cond_true, cond_false]
  exact rfl
 refine Zs (Zr (ZA ?_))
 refine ZA ?_
 refine Zn (Zt ?_)
 refine wc_cond _ rfl (fun hc30 => ?_) (fun hc30 => ?_)
 ·refine Zs (Zr (ZA ?_))
  refine Zn (Zt (Ze (Zq (Zw (ret1 (cs' := []) (.inl rfl) Zu rfl rfl ?_)))))
  refine ⟨⟨_, rfl, ?_⟩, rfl⟩
  simp only [opKnown, *, cond_true, cond_false]
  exact rfl
 refine Zs (Zr (ZA ?_))
 refine ZA ?_
 refine Zn (Zt ?_)
 refine wc_cond _ rfl (fun hc32 => ?_) (fun hc32 => ?_)
 ·refine Zs (Zr (ZA ?_))
  refine Zn (Zt (Ze (Zq (Zw (ret1 (cs' := []) (.inl rfl) Zu rfl rfl ?_)))))
  refine ⟨⟨_, rfl, ?_⟩, rfl⟩
  simp only [opKnown, *, cond_true, cond_false]
  exact rfl
 refine Zs (Zr (ZA ?_))
 refine ZA ?_
 refine Zn (Zt ?_)
 refine wc_cond _ rfl (fun hc34 => ?_) (fun hc34 => ?_)
 ·refine Zs (Zr (ZA ?_))
  refine Zn (Zt (Ze (Zq (Zw (ret1 (cs' := []) (.inl rfl) Zu rfl rfl ?_)))))
  refine ⟨⟨_, rfl, ?_⟩, rfl⟩
  simp only [opKnown, *, cond_true, cond_false]
  exact rfl
 refine Zs (Zr (ZA ?_))
 refine ZA ?_
 refine Zn (Zt ?_)
 refine wc_cond _ rfl (fun hc36 => ?_) (fun hc36 => ?_)
 ·refine Zs (Zr (ZA ?_))
  refine Zn (Zt (Ze (Zq (Zw (ret1 (cs' := []) (.inl rfl) Zu rfl rfl ?_)))))
  refine ⟨⟨_, rfl, ?_⟩, rfl⟩
  simp only [opKnown, *, cond_true, cond_false]
  exact rfl
 refine Zc (Zo (Zt (Zs (Zr (ZA ?_)))))
 refine ZS (fun w hi => other_ok op w) ?_
 rintro _ _ ⟨_, ⟨⟨s, rfl, hs⟩, rfl⟩, rfl⟩
 refine ZA ?_
 refine Zn (Zt (Ze ?_))
 have hz := hs
 refine ret1 (cs' := []) (.inl rfl) Zu rfl rfl ?_
 refine ⟨⟨_, rfl, ?_⟩, rfl⟩
 rw [hs]
 simp only [opKnown, *, cond_true, cond_false]
theorem size_ok (op : Int) (w : World) : Ctr Tryz.prog 150 [.int .i64 op] w [] (fun v cs => v = .int .i64 (opSize op) ∧ cs = []) := by
 refine fn_ctr Tryz.func150 rfl Tryz.ntmps150 rfl (Inv.start w) ?_
 refine Zs (Zr (ZA ?_))
 refine Zn (Zt (Zs (Zs (Zr (ZA ?_)))))
 refine Zn (Zt (Zx (Zs (Zs (Zr (ZA ?_))))))
 refine ZA ?_
 refine Zn (Zt ?_)
 refine wc_cond _ rfl (fun hc2 => ?_) (fun hc2 => ?_)
 ·refine Zc (Zt (wc_cond_t rfl (hc2) ?_))
  refine Zs (Zr (ZA ?_))
  refine Zn (Zt (Ze (Zq (Zw (ret1 (cs' := []) (.inl rfl) Zu rfl rfl ?_)))))
  refine ⟨?_, rfl⟩
  simp only [opSize, *, cond_true, cond_false]
 refine Zs (Zr (ZA ?_))
 refine ZA ?_
 refine Zn (Zt ?_)
 refine wc_cond _ rfl (fun hc3 => ?_) (fun hc3 => ?_)
 ·refine Zc (Zt (wc_cond_t rfl (hc3) ?_))
  refine Zs (Zr (ZA ?_))
  refine Zn (Zt (Ze (Zq (Zw (ret1 (cs' := []) (.inl rfl) Zu rfl rfl ?_)))))
  refine ⟨?_, rfl⟩
  simp only [opSize, *, cond_true, cond_false]
 refine Zs (Zr (ZA ?_))
 refine ZA ?_
 refine Zn (Zt ?_)
 refine wc_cond _ rfl (fun hc4 => ?_) (fun hc4 => ?_)
 ·refine Zc (Zt (wc_cond_t rfl (hc4) ?_))
  refine Zs (Zr (ZA ?_))
  refine Zn (Zt (Ze (Zq (Zw (ret1 (cs' := []) (.inl rfl) Zu rfl rfl ?_)))))
  refine ⟨?_, rfl⟩
  simp only [opSize, *, cond_true, cond_false]
 refine Zs (Zr (ZA ?_))
 refine ZA ?_
 refine Zn (Zt ?_)
 refine wc_cond _ rfl (fun hc5 => ?_) (fun hc5 => ?_)
 ·refine Zc (Zt (wc_cond_t rfl (hc5) ?_))
  refine Zs (Zr (ZA ?_))
  refine Zn (Zt (Ze (Zq (Zw (ret1 (cs' := []) (.inl rfl) Zu rfl rfl ?_)))))
  refine ⟨?_, rfl⟩
  simp only [opSize, *, cond_true, cond_false]
 refine Zs (Zr (ZA ?_))
 refine ZA ?_
 refine Zn (Zt ?_)
 refine wc_cond _ rfl (fun hc6 => ?_) (fun hc6 => ?_)
 ·refine Zc (Zt (wc_cond_t rfl (hc6) ?_))
  refine Zs (Zr (ZA ?_))
  refine Zn (Zt (Ze (Zq (Zw (ret1 (cs' := []) (.inl rfl) Zu rfl rfl ?_)))))
  refine ⟨?_, rfl⟩
  simp only [opSize, *, cond_true, cond_false]
 refine Zs (Zr (ZA ?_))
 refine ZA ?_
 refine Zn (Zt ?_)
 refine wc_cond _ rfl (fun hc7 => ?_) (fun hc7 => ?_)
 ·refine Zc (Zt (wc_cond_t rfl (hc7) ?_))
  refine Zs (Zr (ZA ?_))
  refine Zn (Zt (Ze (Zq (Zw (ret1 (cs' := []) (.inl rfl) Zu rfl rfl ?_)))))
  refine ⟨?_, rfl⟩
  simp only [opSize, *, cond_true, cond_false]
 refine Zs (Zr (ZA ?_))
 refine ZA ?_
 refine Zn (Zt ?_)
 refine wc_cond _ rfl (fun hc8 => ?_) (fun hc8 => ?_)
 ·refine Zc (Zt (wc_cond_t rfl (hc8) ?_))
  refine Zs (Zr (ZA ?_))
  refine Zn (Zt (Ze (Zq (Zw (ret1 (cs' := []) (.inl rfl) Zu rfl rfl ?_)))))
  refine ⟨?_, rfl⟩
  simp only [opSize, *, cond_true, cond_false]
 refine Zs (Zr (ZA ?_))
 refine ZA ?_
 refine Zn (Zt ?_)
 refine wc_cond _ rfl (fun hc9 => ?_) (fun hc9 => ?_)
 ·refine Zc (Zt (wc_cond_t rfl (hc9) ?_))
  refine Zs (Zr (ZA ?_))
  refine Zn (Zt (Ze (Zq (Zw (ret1 (cs' := []) (.inl rfl) Zu rfl rfl ?_)))))
  refine ⟨?_, rfl⟩
  simp only [opSize, *, cond_true, cond_false]
 refine Zs (Zr (ZA ?_))
 refine ZA ?_
 refine Zn (Zt ?_)
 refine wc_cond _ rfl (fun hc10 => ?_) (fun hc10 => ?_)
 ·refine Zc (Zt (wc_cond_t rfl (hc10) ?_))
  refine Zs (Zr (ZA ?_))
  refine Zn (Zt (Ze (Zq (Zw (ret1 (cs' := []) (.inl rfl) Zu rfl rfl ?_)))))
  refine ⟨?_, rfl⟩
  simp only [opSize, *, cond_true, cond_false]
 refine Zr (ZA ?_)
 refine ZA ?_
 refine Zn (Zt ?_)
 refine wc_cond _ rfl (fun hc11 => ?_) (fun hc11 => ?_)
 ·refine Zs (Zr (ZA ?_))
  refine Zn (Zt (Ze (Zq (Zw (ret1 (cs' := []) (.inl rfl) Zu rfl rfl ?_)))))
  refine ⟨?_, rfl⟩
  simp only [opSize, *, cond_true, cond_false]
 refine Zs (Zr (ZA ?_))
 refine ZA ?_
 refine Zn (Zt ?_)
 refine wc_cond _ rfl (fun hc13 => ?_) (fun hc13 => ?_)
 ·refine Zs (Zr (ZA ?_))
  refine Zn (Zt (Ze (Zq (Zw (ret1 (cs' := []) (.inl rfl) Zu rfl rfl ?_)))))
  refine ⟨?_, rfl⟩
  simp only [opSize, *, cond_true, cond_false]
 refine Zc (Zo (Zt (Zs (Zs (Zr (ZA ?_))))))
 refine ZS (fun w hi => name_ok op w) ?_
 rintro _ _ ⟨_, ⟨⟨s, rfl, hs⟩, rfl⟩, rfl⟩
 refine Zy (y_eqlS rfl (Zv rfl) (Zv rfl) hs) ?_
 refine Zn (Zt ?_)
 refine wc_cond _ rfl (fun hc15 => ?_) (fun hc15 => ?_)
 ·refine Zs (Zr (ZA ?_))
  refine Zn (Zt (Ze (Zw (ret1 (cs' := []) (.inl rfl) Zu rfl rfl ?_))))
  refine ⟨?_, rfl⟩
  simp only [opSize, *, cond_true, cond_false]
 refine Zc (Zt (Zs (Zr (ZA ?_))))
 refine Zn (Zt (Ze (ret1 (cs' := []) (.inl rfl) Zu rfl rfl ?_)))
 refine ⟨?_, rfl⟩
 simp only [opSize, *, cond_true, cond_false]
theorem gright_ok (op n : Int) (w : World) : Ctr Tryz.prog 160 [.agg #[.int .i64 op, .int .u32 n]] w [] (fun v cs => v = .bool (opRight op n) ∧ cs = []) := by
 refine fn_ctr Tryz.func160 rfl Tryz.ntmps160 rfl (Inv.start w) ?_
 refine Zs (Zr (ZO fun b1 => ?_))
 refine ZA ?_
 refine Zn (Zt (Zs (Zs (Zr (ZFa 0 ?_)))))
 refine ZC ?_
 refine ZS (fun w hi => size_ok op w) ?_
 rintro _ _ ⟨_, ⟨rfl, rfl⟩, rfl⟩
 refine Zn (Zt (Zx (Zs (Zr (ZA ?_)))))
 refine ZA ?_
 refine Zn (Zt ?_)
 refine wc_cond _ rfl (fun hc2 => ?_) (fun hc2 => ?_)
 ·refine Zs (Zr (ZA ?_))
  refine Zn (Zt (Ze (Zq (Zw (ret1 (cs' := []) (.inl rfl) Zu rfl rfl ?_)))))
  refine ⟨?_, rfl⟩
  simp only [opRight, *, cond_true, cond_false]
 refine Zs (Zr (ZA ?_))
 refine ZA ?_
 refine Zn (Zt ?_)
 refine wc_cond _ rfl (fun hc4 => ?_) (fun hc4 => ?_)
 ·refine Zs (Zr (ZFa 1 ?_))
  refine ZC ?_
  iterate 2 refine ZA ?_
  refine Zn (Zt (Ze (Zq (Zw (ret1 (cs' := []) (.inl rfl) Zu rfl rfl ?_)))))
  refine ⟨?_, rfl⟩
  simp only [opRight, *, cond_true, cond_false]
 refine Zs (Zr (ZA ?_))
 refine ZA ?_
 refine Zn (Zt ?_)
 refine wc_cond _ rfl (fun hc6 => ?_) (fun hc6 => ?_)
 ·refine Zs (Zr (ZFa 1 ?_))
  refine ZC ?_
  iterate 2 refine ZA ?_
  refine Zn (Zt (Ze (Zq (Zw (ret1 (cs' := []) (.inl rfl) Zu rfl rfl ?_)))))
  refine ⟨?_, rfl⟩
  simp only [opRight, *, cond_true, cond_false]
 refine Zc (Zo (Zt (Zs (Zr (ZA ?_)))))
 refine Zn (Zt (Ze (ret1 (cs' := []) (.inl rfl) Zu rfl rfl ?_)))
 refine ⟨?_, rfl⟩
 simp only [opRight, *, cond_true, cond_false]
theorem gsuper_ok (op : Int) (w : World) : Ctr Tryz.prog 180 [.int .i64 op] w [] (fun v cs => v = .bool (opSuper op) ∧ cs = []) := by
 refine fn_ctr Tryz.func180 rfl Tryz.ntmps180 rfl (Inv.start w) ?_
 refine Zs (Zr (ZA ?_))
 refine Zn (Zt (Zs (Zr (ZA ?_))))
 iterate 2 refine ZA ?_
 iterate 2 refine ZB ?_
 iterate 2 refine ZA ?_
 refine Zn (Zt (Ze (ret1 (cs' := []) (.inl rfl) Zu rfl rfl ?_)))
 exact ⟨rfl, rfl⟩
theorem plain_ok (r : Int) (w : World) : Ctr Tryz.prog 233 [.int .u32 r] w [] (fun v cs => v = .int .u32 (flPlain r) ∧ cs = []) := by
 refine fn_ctr Tryz.func233 rfl Tryz.ntmps233 rfl (Inv.start w) ?_
 refine Zs (Zr (ZA ?_))
 refine Zn (Zt (Zs (Zr (ZA ?_))))
 refine Zn (Zt (Zs (Zs (Zr (ZA ?_)))))
 refine ZA ?_
 refine Zn (Zt ?_)
 refine wc_cond _ rfl (fun hc2 => ?_) (fun hc2 => ?_)
 ·refine Zr (ZA ?_)
  iterate 2 refine ZA ?_
  refine Zn (Zt (Zs (Zs (Zr (ZA ?_)))))
  iterate 2 refine ZA ?_
  refine Zn (Zt ?_)
  refine wc_cond _ rfl (fun hc4 => ?_) (fun hc4 => ?_)
  ·refine Zr (ZA ?_)
   iterate 2 refine ZA ?_
   refine Zn (Zt (Zs (Zr (ZA ?_))))
   refine ZA ?_
   refine Zn (Zt (Ze (ret1 (cs' := []) (.inl rfl) Zu rfl rfl ?_)))
   refine ⟨?_, rfl⟩
   simp only [flPlain, *, cond_true, cond_false]
  refine Zc (Zt (Zs (Zr (ZA ?_))))
  refine ZA ?_
  refine Zn (Zt (Ze (ret1 (cs' := []) (.inl rfl) Zu rfl rfl ?_)))
  refine ⟨?_, rfl⟩
  simp only [flPlain, *, cond_true, cond_false]
 refine Zc (Zt (Zs (Zs (Zr (ZA ?_)))))
 iterate 2 refine ZA ?_
 refine Zn (Zt ?_)
 refine wc_cond _ rfl (fun hc4 => ?_) (fun hc4 => ?_)
 ·refine Zr (ZA ?_)
  iterate 2 refine ZA ?_
  refine Zn (Zt (Zs (Zr (ZA ?_))))
  refine ZA ?_
  refine Zn (Zt (Ze (ret1 (cs' := []) (.inl rfl) Zu rfl rfl ?_)))
  refine ⟨?_, rfl⟩
  simp only [flPlain, *, cond_true, cond_false]
 refine Zc (Zt (Zs (Zr (ZA ?_))))
 refine ZA ?_
 refine Zn (Zt (Ze (ret1 (cs' := []) (.inl rfl) Zu rfl rfl ?_)))
 refine ⟨?_, rfl⟩
 simp only [flPlain, *, cond_true, cond_false]
theorem moved_ok (a b : Int) (up : Bool) (hb : 0 ≤ b) (w : World) : Ctr Tryz.prog 232 [.int .u32 a, .int .u32 b, .bool up] w [] (fun v cs => v = .int .u32 (arMoved a b up) ∧ cs = []) := by
 refine fn_ctr Tryz.func232 rfl Tryz.ntmps232 rfl (Inv.start w) ?_
 refine Zs (Zr (ZA ?_))
 refine Zn (Zt (Zs (Zx (Zs (Zr (ZA ?_))))))
 iterate 2 refine ZA ?_
 refine Zn (Zt ?_)
 refine wc_cond _ rfl (fun hc1 => ?_) (fun hc1 => ?_)
 ·refine Zs (Zr (ZA ?_))
  refine Zn (Zt (Ze (Zq (Zw (ret1 (cs' := []) (.inl rfl) Zu rfl rfl ?_)))))
  refine ⟨?_, rfl⟩
  simp only [arMoved, *, cond_true, cond_false]
 refine Zs (Zr (ZA ?_))
 refine ZA ?_
 refine Zn (Zt ?_)
 refine wc_cond _ rfl (fun hc3 => ?_) (fun hc3 => ?_)
 ·refine Zs (Zr (ZA ?_))
  refine ZA ?_
  refine Zy (y_shl (Zv rfl) (Zv rfl) (by omega) rfl) ?_
  refine ZA ?_
  refine Zn (Zt (Ze (Zq (Zw (ret1 (cs' := []) (.inl rfl) Zu rfl rfl ?_)))))
  refine ⟨?_, rfl⟩
  simp only [arMoved, *, cond_true, cond_false]
 refine Zc (Zo (Zt (Zs (Zr (ZA ?_)))))
 refine ZA ?_
 refine Zy (y_shr (Zv rfl) (Zv rfl) (by omega) rfl) ?_
 refine ZA ?_
 refine Zn (Zt (Ze (ret1 (cs' := []) (.inl rfl) Zu rfl rfl ?_)))
 refine ⟨?_, rfl⟩
 simp only [arMoved, *, cond_true, cond_false]
theorem less_ok (a b : Int) (w : World) : Ctr Tryz.prog 231 [.int .u32 a, .int .u32 b] w [] (fun v cs => v = .int .u32 (flLess a b) ∧ cs = []) := by
 refine fn_ctr Tryz.func231 rfl Tryz.ntmps231 rfl (Inv.start w) ?_
 refine Zs (Zr (ZA ?_))
 refine Zn (Zt (Zs (Zr (ZA ?_))))
 refine ZA ?_
 refine Zy (y_sub (Zv rfl) (Zv rfl) rfl) ?_
 refine ZA ?_
 refine Zn (Zt (Zs (Zr (ZA ?_))))
 refine ZS (fun w hi => plain_ok _ w) ?_
 rintro _ _ ⟨_, ⟨rfl, rfl⟩, rfl⟩
 refine ZA ?_
 refine Zn (Zt (Zs (Zs (Zr (ZA ?_)))))
 iterate 2 refine ZA ?_
 refine Zn (Zt ?_)
 refine wc_cond _ rfl (fun hc3 => ?_) (fun hc3 => ?_)
 ·refine Zr (ZA ?_)
  iterate 2 refine ZA ?_
  refine Zn (Zt (Zs (Zs (Zr (ZA ?_)))))
  iterate 8 refine ZA ?_
  refine Zn (Zt ?_)
  refine wc_cond _ rfl (fun hc5 => ?_) (fun hc5 => ?_)
  ·refine Zr (ZA ?_)
   iterate 2 refine ZA ?_
   refine Zn (Zt (Zs (Zr (ZA ?_))))
   refine ZA ?_
   refine Zn (Zt (Ze (ret1 (cs' := []) (.inl rfl) Zu rfl rfl ?_)))
   refine ⟨?_, rfl⟩
   simp only [flLess, flTail, *, cond_true, cond_false]
  refine Zc (Zt (Zs (Zr (ZA ?_))))
  refine ZA ?_
  refine Zn (Zt (Ze (ret1 (cs' := []) (.inl rfl) Zu rfl rfl ?_)))
  refine ⟨?_, rfl⟩
  simp only [flLess, flTail, *, cond_true, cond_false]
 refine Zc (Zt (Zs (Zs (Zr (ZA ?_)))))
 iterate 8 refine ZA ?_
 refine Zn (Zt ?_)
 refine wc_cond _ rfl (fun hc5 => ?_) (fun hc5 => ?_)
 ·refine Zr (ZA ?_)
  iterate 2 refine ZA ?_
  refine Zn (Zt (Zs (Zr (ZA ?_))))
  refine ZA ?_
  refine Zn (Zt (Ze (ret1 (cs' := []) (.inl rfl) Zu rfl rfl ?_)))
  refine ⟨?_, rfl⟩
  simp only [flLess, flTail, *, cond_true, cond_false]
 refine Zc (Zt (Zs (Zr (ZA ?_))))
 refine ZA ?_
 refine Zn (Zt (Ze (ret1 (cs' := []) (.inl rfl) Zu rfl rfl ?_)))
 refine ⟨?_, rfl⟩
 simp only [flLess, flTail, *, cond_true, cond_false]
theorem more_ok (a b : Int) (w : World) : Ctr Tryz.prog 230 [.int .u32 a, .int .u32 b] w [] (fun v cs => v = .int .u32 (flMore a b) ∧ cs = []) := by
 refine fn_ctr Tryz.func230 rfl Tryz.ntmps230 rfl (Inv.start w) ?_
 refine Zs (Zr (ZA ?_))
 refine Zn (Zt (Zs (Zr (ZA ?_))))
 refine ZA ?_
 refine Zy (y_add (Zv rfl) (Zv rfl) rfl) ?_
 refine ZA ?_
 refine Zn (Zt (Zs (Zr (ZA ?_))))
 refine ZS (fun w hi => plain_ok _ w) ?_
 rintro _ _ ⟨_, ⟨rfl, rfl⟩, rfl⟩
 refine ZA ?_
 refine Zn (Zt (Zs (Zs (Zr (ZA ?_)))))
 iterate 2 refine ZA ?_
 refine Zn (Zt ?_)
 refine wc_cond _ rfl (fun hc3 => ?_) (fun hc3 => ?_)
 ·refine Zr (ZA ?_)
  iterate 2 refine ZA ?_
  refine Zn (Zt (Zs (Zs (Zr (ZA ?_)))))
  iterate 8 refine ZA ?_
  refine Zn (Zt ?_)
  refine wc_cond _ rfl (fun hc5 => ?_) (fun hc5 => ?_)
  ·refine Zr (ZA ?_)
   iterate 2 refine ZA ?_
   refine Zn (Zt (Zs (Zr (ZA ?_))))
   refine ZA ?_
   refine Zn (Zt (Ze (ret1 (cs' := []) (.inl rfl) Zu rfl rfl ?_)))
   refine ⟨?_, rfl⟩
   simp only [flMore, flTail, *, cond_true, cond_false]
  refine Zc (Zt (Zs (Zr (ZA ?_))))
  refine ZA ?_
  refine Zn (Zt (Ze (ret1 (cs' := []) (.inl rfl) Zu rfl rfl ?_)))
  refine ⟨?_, rfl⟩
  simp only [flMore, flTail, *, cond_true, cond_false]
 refine Zc (Zt (Zs (Zs (Zr (ZA ?_)))))
 iterate 8 refine ZA ?_
 refine Zn (Zt ?_)
 refine wc_cond _ rfl (fun hc5 => ?_) (fun hc5 => ?_)
 ·refine Zr (ZA ?_)
  iterate 2 refine ZA ?_
  refine Zn (Zt (Zs (Zr (ZA ?_))))
  refine ZA ?_
  refine Zn (Zt (Ze (ret1 (cs' := []) (.inl rfl) Zu rfl rfl ?_)))
  refine ⟨?_, rfl⟩
  simp only [flMore, flTail, *, cond_true, cond_false]
 refine Zc (Zt (Zs (Zr (ZA ?_))))
 refine ZA ?_
 refine Zn (Zt (Ze (ret1 (cs' := []) (.inl rfl) Zu rfl rfl ?_)))
 refine ⟨?_, rfl⟩
 simp only [flMore, flTail, *, cond_true, cond_false]
theorem ado_ok (op a b : Int) (hb : 0 ≤ b) (w : World) : Ctr Tryz.prog 188 [.int .i64 op, .int .u32 a, .int .u32 b] w [] (fun v cs => v = .tuple #[.int .u32 (arDo op a b).1, .int .u32 (arDo op a b).2.1, .bool (arDo op a b).2.2] ∧ cs = []) := by
 refine fn_ctr Tryz.func188 rfl Tryz.ntmps188 rfl (Inv.start w) ?_
 refine Zs (Zr (ZA ?_))
 iterate 2 refine ZA ?_
 refine Zn (Zt (Zs (Zr (ZA ?_))))
 refine Zn (Zt (Zs (Zs (Zr (ZA ?_)))))
 refine Zn (Zt (Zx (Zs (Zr (ZA ?_)))))
 refine ZA ?_
 refine Zn (Zt ?_)
 refine wc_cond _ rfl (fun hc4 => ?_) (fun hc4 => ?_)
 ·refine Zs (Zr (ZA ?_))
  refine ZA ?_
  refine Zy (y_add (Zv rfl) (Zv rfl) rfl) ?_
  iterate 2 refine ZA ?_
  refine ZS (fun w hi => more_ok a b w) ?_
  rintro _ _ ⟨_, ⟨rfl, rfl⟩, rfl⟩
  iterate 3 refine ZA ?_
  refine Zn (Zt (Ze (Zq (Zw (ret3 (cs' := []) (.inl rfl) Zu rfl rfl rfl rfl ?_)))))
  refine ⟨?_, rfl⟩
  simp only [arDo, arOf, *, cond_true, cond_false]
 refine Zs (Zr (ZA ?_))
 refine ZA ?_
 refine Zn (Zt ?_)
 refine wc_cond _ rfl (fun hc6 => ?_) (fun hc6 => ?_)
 ·refine Zs (Zr (ZA ?_))
  refine ZA ?_
  refine Zy (y_sub (Zv rfl) (Zv rfl) rfl) ?_
  iterate 2 refine ZA ?_
  refine ZS (fun w hi => less_ok a b w) ?_
  rintro _ _ ⟨_, ⟨rfl, rfl⟩, rfl⟩
  iterate 3 refine ZA ?_
  refine Zn (Zt (Ze (Zq (Zw (ret3 (cs' := []) (.inl rfl) Zu rfl rfl rfl rfl ?_)))))
  refine ⟨?_, rfl⟩
  simp only [arDo, arOf, *, cond_true, cond_false]
 refine Zs (Zr (ZA ?_))
 refine ZA ?_
 refine Zn (Zt ?_)
 refine wc_cond _ rfl (fun hc8 => ?_) (fun hc8 => ?_)
 ·refine Zs (Zr (ZA ?_))
  refine ZA ?_
  refine ZS (fun w hi => less_ok a b w) ?_
  rintro _ _ ⟨_, ⟨rfl, rfl⟩, rfl⟩
  iterate 3 refine ZA ?_
  refine Zn (Zt (Ze (Zq (Zw (ret3 (cs' := []) (.inl rfl) Zu rfl rfl rfl rfl ?_)))))
  refine ⟨?_, rfl⟩
  simp only [arDo, arOf, *, cond_true, cond_false]
 refine Zs (Zr (ZA ?_))
 refine ZA ?_
 refine Zn (Zt ?_)
 refine wc_cond _ rfl (fun hc10 => ?_) (fun hc10 => ?_)
 ·refine Zr (ZA ?_)
  iterate 3 refine ZA ?_
  refine Zn (Zo (Zt (Zs (Zr (ZA ?_)))))
  refine ZA ?_
  refine ZS (fun w hi => plain_ok _ w) ?_
  rintro _ _ ⟨_, ⟨rfl, rfl⟩, rfl⟩
  iterate 3 refine ZA ?_
  refine Zn (Zt (Ze (ret3 (cs' := []) (.inl rfl) Zu rfl rfl rfl rfl ?_)))
  refine ⟨?_, rfl⟩
  simp only [arDo, arOf, *, cond_true, cond_false]
 refine Zs (Zr (ZA ?_))
 refine ZA ?_
 refine Zn (Zt ?_)
 refine wc_cond _ rfl (fun hc12 => ?_) (fun hc12 => ?_)
 ·refine Zr (ZA ?_)
  iterate 3 refine ZA ?_
  refine Zn (Zo (Zt (Zs (Zr (ZA ?_)))))
  refine ZA ?_
  refine ZS (fun w hi => plain_ok _ w) ?_
  rintro _ _ ⟨_, ⟨rfl, rfl⟩, rfl⟩
  iterate 3 refine ZA ?_
  refine Zn (Zt (Ze (ret3 (cs' := []) (.inl rfl) Zu rfl rfl rfl rfl ?_)))
  refine ⟨?_, rfl⟩
  simp only [arDo, arOf, *, cond_true, cond_false]
 refine Zs (Zr (ZA ?_))
 refine ZA ?_
 refine Zn (Zt ?_)
 refine wc_cond _ rfl (fun hc14 => ?_) (fun hc14 => ?_)
 ·refine Zr (ZA ?_)
  iterate 3 refine ZA ?_
  refine Zn (Zo (Zt (Zs (Zr (ZA ?_)))))
  refine ZA ?_
  refine ZS (fun w hi => plain_ok _ w) ?_
  rintro _ _ ⟨_, ⟨rfl, rfl⟩, rfl⟩
  iterate 3 refine ZA ?_
  refine Zn (Zt (Ze (ret3 (cs' := []) (.inl rfl) Zu rfl rfl rfl rfl ?_)))
  refine ⟨?_, rfl⟩
  simp only [arDo, arOf, *, cond_true, cond_false]
 refine Zs (Zr (ZA ?_))
 refine ZA ?_
 refine Zn (Zt ?_)
 refine wc_cond _ rfl (fun hc16 => ?_) (fun hc16 => ?_)
 ·refine Zr (ZA ?_)
  refine ZA ?_
  refine ZS (fun w hi => moved_ok a b _ hb w) ?_
  rintro _ _ ⟨_, ⟨rfl, rfl⟩, rfl⟩
  refine ZA ?_
  refine Zn (Zo (Zt (Zs (Zr (ZA ?_)))))
  refine ZA ?_
  refine ZS (fun w hi => plain_ok _ w) ?_
  rintro _ _ ⟨_, ⟨rfl, rfl⟩, rfl⟩
  iterate 3 refine ZA ?_
  refine Zn (Zt (Ze (ret3 (cs' := []) (.inl rfl) Zu rfl rfl rfl rfl ?_)))
  refine ⟨?_, rfl⟩
  simp only [arDo, arOf, *, cond_true, cond_false]
 refine Zs (Zr (ZA ?_))
 refine ZA ?_
 refine Zn (Zt ?_)
 refine wc_cond _ rfl (fun hc18 => ?_) (fun hc18 => ?_)
 ·refine Zr (ZA ?_)
  refine ZA ?_
  refine ZS (fun w hi => moved_ok a b _ hb w) ?_
  rintro _ _ ⟨_, ⟨rfl, rfl⟩, rfl⟩
  refine ZA ?_
  refine Zn (Zo (Zt (Zs (Zr (ZA ?_)))))
  refine ZA ?_
  refine ZS (fun w hi => plain_ok _ w) ?_
  rintro _ _ ⟨_, ⟨rfl, rfl⟩, rfl⟩
  iterate 3 refine ZA ?_
  refine Zn (Zt (Ze (ret3 (cs' := []) (.inl rfl) Zu rfl rfl rfl rfl ?_)))
  refine ⟨?_, rfl⟩
  simp only [arDo, arOf, *, cond_true, cond_false]
 refine Zs (Zr (ZA ?_))
 refine ZA ?_
 refine Zn (Zt ?_)
 refine wc_cond _ rfl (fun hc20 => ?_) (fun hc20 => ?_)
 ·refine Zr (ZA ?_)
  refine ZA ?_
  refine Zy (y_mul (Zv rfl) (Zv rfl) rfl) ?_
  refine ZA ?_
  refine Zn (Zo (Zt (Zs (Zr (ZA ?_)))))
  refine ZA ?_
  refine ZS (fun w hi => plain_ok _ w) ?_
  rintro _ _ ⟨_, ⟨rfl, rfl⟩, rfl⟩
  iterate 3 refine ZA ?_
  refine Zn (Zt (Ze (ret3 (cs' := []) (.inl rfl) Zu rfl rfl rfl rfl ?_)))
  refine ⟨?_, rfl⟩
  simp only [arDo, arOf, *, cond_true, cond_false]
 refine Zs (Zr (ZA ?_))
 refine ZA ?_
 refine Zn (Zt ?_)
 refine wc_cond _ rfl (fun hc22 => ?_) (fun hc22 => ?_)
 ·refine Zs (Zs (Zr (ZA ?_)))
  refine ZA ?_
  refine Zn (Zt ?_)
  refine wc_cond _ rfl (fun hc23 => ?_) (fun hc23 => ?_)
  ·refine Zs (Zr (ZA ?_))
   iterate 2 refine ZA ?_
   refine Zn (Zt (Ze (Zw (Zq (Zw (ret3 (cs' := []) (.inl rfl) Zu rfl rfl rfl rfl ?_))))))
   refine ⟨?_, rfl⟩
   simp only [arDo, arOf, *, cond_true, cond_false]
  have hb0 : b ≠ 0 := by simpa using hc23
  refine Zc (Zt (Zr (ZA ?_)))
  refine ZA ?_
  refine Zy (y_quo (Zv rfl) (Zv rfl) (by omega) (by first | exact IntWalk.u32_quo _ _ ⟨by omega, by omega, by omega⟩ | exact rfl)) ?_
  refine ZA ?_
  refine Zn (Zo (Zt (Zs (Zr (ZA ?_)))))
  refine ZA ?_
  refine ZS (fun w hi => plain_ok _ w) ?_
  rintro _ _ ⟨_, ⟨rfl, rfl⟩, rfl⟩
  iterate 3 refine ZA ?_
  refine Zn (Zt (Ze (ret3 (cs' := []) (.inl rfl) Zu rfl rfl rfl rfl ?_)))
  refine ⟨?_, rfl⟩
  simp only [arDo, arOf, *, cond_true, cond_false]
 refine Zs (Zr (ZA ?_))
 iterate 2 refine ZA ?_
 refine Zn (Zt (Ze (Zq (Zw (ret3 (cs' := []) (.inl rfl) Zu rfl rfl rfl rfl ?_)))))
 refine ⟨?_, rfl⟩
 simp only [arDo, arOf, *, cond_true, cond_false]
theorem holds_ok (op f : Int) (w : World) : Ctr Tryz.prog 190 [.int .i64 op, .int .u32 f] w [] (fun v cs => v = .tuple #[.bool (arHolds op f).1, .bool (arHolds op f).2] ∧ cs = []) := by
 refine fn_ctr Tryz.func190 rfl Tryz.ntmps190 rfl (Inv.start w) ?_
 refine Zs (Zr (ZA ?_))
 refine ZA ?_
 refine Zn (Zt (Zs (Zs (Zr (ZA ?_)))))
 refine Zn (Zt (Zx (Zs (Zr (ZA ?_)))))
 refine ZA ?_
 refine Zn (Zt ?_)
 refine wc_cond _ rfl (fun hc2 => ?_) (fun hc2 => ?_)
 ·refine Zs (Zr (ZA ?_))
  iterate 4 refine ZA ?_
  refine Zn (Zt (Ze (Zq (Zw (ret2 (cs' := []) (.inl rfl) Zu rfl rfl rfl ?_)))))
  refine ⟨?_, rfl⟩
  simp only [arHolds, *, cond_true, cond_false]
 refine Zs (Zr (ZA ?_))
 refine ZA ?_
 refine Zn (Zt ?_)
 refine wc_cond _ rfl (fun hc4 => ?_) (fun hc4 => ?_)
 ·refine Zs (Zr (ZA ?_))
  iterate 4 refine ZA ?_
  refine Zn (Zt (Ze (Zq (Zw (ret2 (cs' := []) (.inl rfl) Zu rfl rfl rfl ?_)))))
  refine ⟨?_, rfl⟩
  simp only [arHolds, *, cond_true, cond_false]
 refine Zs (Zr (ZA ?_))
 refine ZA ?_
 refine Zn (Zt ?_)
 refine wc_cond _ rfl (fun hc6 => ?_) (fun hc6 => ?_)
 ·refine Zs (Zr (ZA ?_))
  iterate 4 refine ZA ?_
  refine Zn (Zt (Ze (Zq (Zw (ret2 (cs' := []) (.inl rfl) Zu rfl rfl rfl ?_)))))
  refine ⟨?_, rfl⟩
  simp only [arHolds, *, cond_true, cond_false]
 refine Zs (Zr (ZA ?_))
 refine ZA ?_
 refine Zn (Zt ?_)
 refine wc_cond _ rfl (fun hc8 => ?_) (fun hc8 => ?_)
 ·refine Zs (Zr (ZA ?_))
  iterate 4 refine ZA ?_
  refine Zn (Zt (Ze (Zq (Zw (ret2 (cs' := []) (.inl rfl) Zu rfl rfl rfl ?_)))))
  refine ⟨?_, rfl⟩
  simp only [arHolds, *, cond_true, cond_false]
 refine Zs (Zr (ZA ?_))
 refine ZA ?_
 refine Zn (Zt ?_)
 refine wc_cond _ rfl (fun hc10 => ?_) (fun hc10 => ?_)
 ·refine Zs (Zr (ZA ?_))
  iterate 4 refine ZA ?_
  refine Zn (Zt (Ze (Zq (Zw (ret2 (cs' := []) (.inl rfl) Zu rfl rfl rfl ?_)))))
  refine ⟨?_, rfl⟩
  simp only [arHolds, *, cond_true, cond_false]
 refine Zc (Zo (Zt (Zs (Zr (ZA ?_)))))
 refine ZA ?_
 refine Zn (Zt (Ze (ret2 (cs' := []) (.inl rfl) Zu rfl rfl rfl ?_)))
 refine ⟨?_, rfl⟩
 simp only [arHolds, *, cond_true, cond_false]
theorem sign_ok (b : Int) (w : World) : Ctr Tryz.prog 162 [.int .u32 b] w [] (fun v cs => v = .int .u32 (arSign b) ∧ cs = []) := by
 refine fn_ctr Tryz.func162 rfl Tryz.ntmps162 rfl (Inv.start w) ?_
 refine Zs (Zr (ZA ?_))
 refine Zn (Zt (Zs (Zr (ZA ?_))))
 refine Zy (y_conv rfl rfl (Zv rfl) rfl) ?_
 refine Zy (y_conv rfl rfl (Zv rfl) rfl) ?_
 refine Zy (y_conv rfl rfl (Zv rfl) rfl) ?_
 refine ZA ?_
 refine Zn (Zt (Ze (ret1 (cs' := []) (.inl rfl) Zu rfl rfl ?_)))
 exact ⟨rfl, rfl⟩
theorem needs_ok (op : Int) (w : World) : Ctr Tryz.prog 183 [.int .i64 op] w [] (fun v cs => v = .tuple #[.int .i64 ((opNeeds op).1.1 : Nat), .int .i64 ((opNeeds op).1.2 : Nat), .int .i64 ((opNeeds op).2.1 : Nat), .int .i64 ((opNeeds op).2.2 : Nat)] ∧ cs = []) := by
 refine fn_ctr Tryz.func183 rfl Tryz.ntmps183 rfl (Inv.start w) ?_
 refine Zs (Zr (ZA ?_))
 iterate 3 refine ZA ?_
 refine Zn (Zt (Zs (Zs (Zr (ZA ?_)))))
 refine Zn (Zt (Zx (Zs (Zs (Zr (ZA ?_))))))
 refine ZA ?_
 refine Zn (Zt ?_)
 refine wc_cond _ rfl (fun hc2 => ?_) (fun hc2 => ?_)
 ·refine Zc (Zt (wc_cond_t rfl (hc2) ?_))
  refine Zs (Zr (ZA ?_))
  iterate 3 refine ZA ?_
  refine Zn (Zt (Ze (Zq (Zw (ret4 (cs' := []) (.inl rfl) Zu rfl rfl rfl rfl rfl ?_)))))
  refine ⟨?_, rfl⟩
  simp only [opNeeds, *, cond_true, cond_false]
  exact rfl
 refine Zs (Zr (ZA ?_))
 refine ZA ?_
 refine Zn (Zt ?_)
 refine wc_cond _ rfl (fun hc3 => ?_) (fun hc3 => ?_)
 ·refine Zc (Zt (wc_cond_t rfl (hc3) ?_))
  refine Zs (Zr (ZA ?_))
  iterate 3 refine ZA ?_
  refine Zn (Zt (Ze (Zq (Zw (ret4 (cs' := []) (.inl rfl) Zu rfl rfl rfl rfl rfl ?_)))))
  refine ⟨?_, rfl⟩
  simp only [opNeeds, *, cond_true, cond_false]
  exact rfl
 refine Zr (ZA ?_)
 refine ZA ?_
 refine Zn (Zt ?_)
 refine wc_cond _ rfl (fun hc4 => ?_) (fun hc4 => ?_)
 ·refine Zs (Zr (ZA ?_))
  iterate 3 refine ZA ?_
  refine Zn (Zt (Ze (Zq (Zw (ret4 (cs' := []) (.inl rfl) Zu rfl rfl rfl rfl rfl ?_)))))
  refine ⟨?_, rfl⟩
  simp only [opNeeds, *, cond_true, cond_false]
  exact rfl
 refine Zs (Zr (ZA ?_))
 refine ZA ?_
 refine Zn (Zt ?_)
 refine wc_cond _ rfl (fun hc6 => ?_) (fun hc6 => ?_)
 ·refine Zs (Zr (ZA ?_))
  iterate 3 refine ZA ?_
  refine Zn (Zt (Ze (Zq (Zw (ret4 (cs' := []) (.inl rfl) Zu rfl rfl rfl rfl rfl ?_)))))
  refine ⟨?_, rfl⟩
  simp only [opNeeds, *, cond_true, cond_false]
  exact rfl
 refine Zs (Zs (Zr (ZA ?_)))
 refine ZA ?_
 refine Zn (Zt ?_)
 refine wc_cond _ rfl (fun hc8 => ?_) (fun hc8 => ?_)
 ·refine Zc (Zt (wc_cond_t rfl (hc8) ?_))
  refine Zs (Zr (ZA ?_))
  iterate 3 refine ZA ?_
  refine Zn (Zt (Ze (Zq (Zw (ret4 (cs' := []) (.inl rfl) Zu rfl rfl rfl rfl rfl ?_)))))
  refine ⟨?_, rfl⟩
  simp only [opNeeds, *, cond_true, cond_false]
  exact rfl
 refine Zs (Zr (ZA ?_))
 refine ZA ?_
 refine Zn (Zt ?_)
 refine wc_cond _ rfl (fun hc9 => ?_) (fun hc9 => ?_)
 ·refine Zc (Zt (wc_cond_t rfl (hc9) ?_))
  refine Zs (Zr (ZA ?_))
  iterate 3 refine ZA ?_
  refine Zn (Zt (Ze (Zq (Zw (ret4 (cs' := []) (.inl rfl) Zu rfl rfl rfl rfl rfl ?_)))))
  refine ⟨?_, rfl⟩
  simp only [opNeeds, *, cond_true, cond_false]
  exact rfl
 refine Zs (Zr (ZA ?_))
 refine ZA ?_
 refine Zn (Zt ?_)
 refine wc_cond _ rfl (fun hc10 => ?_) (fun hc10 => ?_)
 ·refine Zc (Zt (wc_cond_t rfl (hc10) ?_))
  refine Zs (Zr (ZA ?_))
  iterate 3 refine ZA ?_
  refine Zn (Zt (Ze (Zq (Zw (ret4 (cs' := []) (.inl rfl) Zu rfl rfl rfl rfl rfl ?_)))))
  refine ⟨?_, rfl⟩
  simp only [opNeeds, *, cond_true, cond_false]
  exact rfl
 refine Zr (ZA ?_)
 refine ZA ?_
 refine Zn (Zt ?_)
 refine wc_cond _ rfl (fun hc11 => ?_) (fun hc11 => ?_)
 ·refine Zs (Zr (ZA ?_))
  iterate 3 refine ZA ?_
  refine Zn (Zt (Ze (Zq (Zw (ret4 (cs' := []) (.inl rfl) Zu rfl rfl rfl rfl rfl ?_)))))
  refine ⟨?_, rfl⟩
  simp only [opNeeds, *, cond_true, cond_false]
  exact rfl
 refine Zs (Zr (ZA ?_))
 refine ZA ?_
 refine Zn (Zt ?_)
 refine wc_cond _ rfl (fun hc13 => ?_) (fun hc13 => ?_)
 ·refine Zs (Zr (ZA ?_))
  iterate 3 refine ZA ?_
  refine Zn (Zt (Ze (Zq (Zw (ret4 (cs' := []) (.inl rfl) Zu rfl rfl rfl rfl rfl ?_)))))
  refine ⟨?_, rfl⟩
  simp only [opNeeds, *, cond_true, cond_false]
  exact rfl
 refine Zs (Zr (ZA ?_))
 refine ZA ?_
 refine Zn (Zt ?_)
 refine wc_cond _ rfl (fun hc15 => ?_) (fun hc15 => ?_)
 ·refine Zs (Zr (ZA ?_))
  iterate 3 refine ZA ?_
  refine Zn (Zt (Ze (Zq (Zw (ret4 (cs' := []) (.inl rfl) Zu rfl rfl rfl rfl rfl ?_)))))
  refine ⟨?_, rfl⟩
  simp only [opNeeds, *, cond_true, cond_false]
  exact rfl
 refine Zs (Zr (ZA ?_))
 refine ZA ?_
 refine Zn (Zt ?_)
 refine wc_cond _ rfl (fun hc17 => ?_) (fun hc17 => ?_)
 ·refine Zs (Zr (ZA ?_))
  iterate 3 refine ZA ?_
  refine Zn (Zt (Ze (Zq (Zw (ret4 (cs' := []) (.inl rfl) Zu rfl rfl rfl rfl rfl ?_)))))
  refine ⟨?_, rfl⟩
  simp only [opNeeds, *, cond_true, cond_false]
  exact rfl
 refine Zs (Zr (ZA ?_))
 refine ZA ?_
 refine Zn (Zt ?_)
 refine wc_cond _ rfl (fun hc19 => ?_) (fun hc19 => ?_)
 ·refine Zs (Zr (ZA ?_))
  iterate 3 refine ZA ?_
  refine Zn (Zt (Ze (Zq (Zw (ret4 (cs' := []) (.inl rfl) Zu rfl rfl rfl rfl rfl ?_)))))
  refine ⟨?_, rfl⟩
  simp only [opNeeds, *, cond_true, cond_false]
  exact rfl
 refine Zs (Zs (Zr (ZA ?_)))
 refine ZA ?_
 refine Zn (Zt ?_)
 refine wc_cond _ rfl (fun hc21 => ?_) (fun hc21 => ?_)
 ·refine Zc (Zt (wc_cond_t rfl (hc21) ?_))
  refine Zs (Zr (ZA ?_))
  iterate 3 refine ZA ?_
  refine Zn (Zt (Ze (Zq (Zw (ret4 (cs' := []) (.inl rfl) Zu rfl rfl rfl rfl rfl ?_)))))
  refine ⟨?_, rfl⟩
  simp only [opNeeds, *, cond_true, cond_false]
  exact rfl
 refine Zs (Zr (ZA ?_))
 refine ZA ?_
 refine Zn (Zt ?_)
 refine wc_cond _ rfl (fun hc22 => ?_) (fun hc22 => ?_)
 ·refine Zc (Zt (wc_cond_t rfl (hc22) ?_))
  refine Zs (Zr (ZA ?_))
  iterate 3 refine ZA ?_
  refine Zn (Zt (Ze (Zq (Zw (ret4 (cs' := []) (.inl rfl) Zu rfl rfl rfl rfl rfl ?_)))))
  refine ⟨?_, rfl⟩
  simp only [opNeeds, *, cond_true, cond_false]
  exact rfl
 refine Zs (Zr (ZA ?_))
 refine ZA ?_
 refine Zn (Zt ?_)
 refine wc_cond _ rfl (fun hc23 => ?_) (fun hc23 => ?_)
 ·refine Zc (Zt (wc_cond_t rfl (hc23) ?_))
  refine Zs (Zr (ZA ?_))
  iterate 3 refine ZA ?_
  refine Zn (Zt (Ze (Zq (Zw (ret4 (cs' := []) (.inl rfl) Zu rfl rfl rfl rfl rfl ?_)))))
  refine ⟨?_, rfl⟩
  simp only [opNeeds, *, cond_true, cond_false]
  exact rfl
 refine Zs (Zr (ZA ?_))
 refine ZA ?_
 refine Zn (Zt ?_)
 refine wc_cond _ rfl (fun hc24 => ?_) (fun hc24 => ?_)
 ·refine Zc (Zt (wc_cond_t rfl (hc24) ?_))
  refine Zs (Zr (ZA ?_))
  iterate 3 refine ZA ?_
  refine Zn (Zt (Ze (Zq (Zw (ret4 (cs' := []) (.inl rfl) Zu rfl rfl rfl rfl rfl ?_)))))
  refine ⟨?_, rfl⟩
  simp only [opNeeds, *, cond_true, cond_false]
  exact rfl
 refine Zs (Zr (ZA ?_))
 refine ZA ?_
 refine Zn (Zt ?_)
 refine wc_cond _ rfl (fun hc25 => ?_) (fun hc25 => ?_)
 ·refine Zc (Zt (wc_cond_t rfl (hc25) ?_))
  refine Zs (Zr (ZA ?_))
  iterate 3 refine ZA ?_
  refine Zn (Zt (Ze (Zq (Zw (ret4 (cs' := []) (.inl rfl) Zu rfl rfl rfl rfl rfl ?_)))))
  refine ⟨?_, rfl⟩
  simp only [opNeeds, *, cond_true, cond_false]
  exact rfl
 refine Zs (Zr (ZA ?_))
 refine ZA ?_
 refine Zn (Zt ?_)
 refine wc_cond _ rfl (fun hc26 => ?_) (fun hc26 => ?_)
 ·refine Zc (Zt (wc_cond_t rfl (hc26) ?_))
  refine Zs (Zr (ZA ?_))
  iterate 3 refine ZA ?_
  refine Zn (Zt (Ze (Zq (Zw (ret4 (cs' := []) (.inl rfl) Zu rfl rfl rfl rfl rfl ?_)))))
  refine ⟨?_, rfl⟩
  simp only [opNeeds, *, cond_true, cond_false]
  exact rfl
 refine Zs (Zr (ZA ?_))
 refine ZA ?_
 refine Zn (Zt ?_)
 refine wc_cond _ rfl (fun hc27 => ?_) (fun hc27 => ?_)
 ·refine Zc (Zt (wc_cond_t rfl (hc27) ?_))
  refine Zs (Zr (ZA ?_))
  iterate 3 refine ZA ?_
  refine Zn (Zt (Ze (Zq (Zw (ret4 (cs' := []) (.inl rfl) Zu rfl rfl rfl rfl rfl ?_)))))
  refine ⟨?_, rfl⟩
  simp only [opNeeds, *, cond_true, cond_false]
  exact rfl
 refine Zs (Zr (ZA ?_))
 refine ZA ?_
 refine Zn (Zt ?_)
 refine wc_cond _ rfl (fun hc28 => ?_) (fun hc28 => ?_)
 ·refine Zc (Zt (wc_cond_t rfl (hc28) ?_))
  refine Zs (Zr (ZA ?_))
  iterate 3 refine ZA ?_
  refine Zn (Zt (Ze (Zq (Zw (ret4 (cs' := []) (.inl rfl) Zu rfl rfl rfl rfl rfl ?_)))))
  refine ⟨?_, rfl⟩
  simp only [opNeeds, *, cond_true, cond_false]
  exact rfl
 refine Zr (ZA ?_)
 refine ZA ?_
 refine Zn (Zt ?_)
 refine wc_cond _ rfl (fun hc29 => ?_) (fun hc29 => ?_)
 ·refine Zs (Zr (ZA ?_))
  iterate 3 refine ZA ?_
  refine Zn (Zt (Ze (Zq (Zw (ret4 (cs' := []) (.inl rfl) Zu rfl rfl rfl rfl rfl ?_)))))
  refine ⟨?_, rfl⟩
  simp only [opNeeds, *, cond_true, cond_false]
  exact rfl
 refine Zs (Zs (Zr (ZA ?_)))
 refine ZA ?_
 refine Zn (Zt ?_)
 refine wc_cond _ rfl (fun hc31 => ?_) (fun hc31 => ?_)
 ·refine Zc (Zt (wc_cond_t rfl (hc31) ?_))
  refine Zs (Zr (ZA ?_))
  iterate 3 refine ZA ?_
  refine Zn (Zt (Ze (Zq (Zw (ret4 (cs' := []) (.inl rfl) Zu rfl rfl rfl rfl rfl ?_)))))
  refine ⟨?_, rfl⟩
  simp only [opNeeds, *, cond_true, cond_false]
  exact rfl
 refine Zs (Zr (ZA ?_))
 refine ZA ?_
 refine Zn (Zt ?_)
 refine wc_cond _ rfl (fun hc32 => ?_) (fun hc32 => ?_)
 ·refine Zc (Zt (wc_cond_t rfl (hc32) ?_))
  refine Zs (Zr (ZA ?_))
  iterate 3 refine ZA ?_
  refine Zn (Zt (Ze (Zq (Zw (ret4 (cs' := []) (.inl rfl) Zu rfl rfl rfl rfl rfl ?_)))))
  refine ⟨?_, rfl⟩
  simp only [opNeeds, *, cond_true, cond_false]
  exact rfl
 refine Zs (Zr (ZA ?_))
 refine ZA ?_
 refine Zn (Zt ?_)
 refine wc_cond _ rfl (fun hc33 => ?_) (fun hc33 => ?_)
 ·refine Zc (Zt (wc_cond_t rfl (hc33) ?_))
  refine Zs (Zr (ZA ?_))
  iterate 3 refine ZA ?_
  refine Zn (Zt (Ze (Zq (Zw (ret4 (cs' := []) (.inl rfl) Zu rfl rfl rfl rfl rfl ?_)))))
  refine ⟨?_, rfl⟩
  simp only [opNeeds, *, cond_true, cond_false]
  exact rfl
 refine Zr (ZA ?_)
 refine ZA ?_
 refine Zn (Zt ?_)
 refine wc_cond _ rfl (fun hc34 => ?_) (fun hc34 => ?_)
 ·refine Zs (Zr (ZA ?_))
  iterate 3 refine ZA ?_
  refine Zn (Zt (Ze (Zq (Zw (ret4 (cs' := []) (.inl rfl) Zu rfl rfl rfl rfl rfl ?_)))))
  refine ⟨?_, rfl⟩
  simp only [opNeeds, *, cond_true, cond_false]
  exact rfl
 refine Zs (Zs (Zr (ZA ?_)))
 refine ZA ?_
 refine Zn (Zt ?_)
 refine wc_cond _ rfl (fun hc36 => ?_) (fun hc36 => ?_)
 ·refine Zc (Zt (wc_cond_t rfl (hc36) ?_))
  refine Zs (Zr (ZA ?_))
  iterate 3 refine ZA ?_
  refine Zn (Zt (Ze (Zq (Zw (ret4 (cs' := []) (.inl rfl) Zu rfl rfl rfl rfl rfl ?_)))))
  refine ⟨?_, rfl⟩
  simp only [opNeeds, *, cond_true, cond_false]
  exact rfl
 refine Zs (Zr (ZA ?_))
 refine ZA ?_
 refine Zn (Zt ?_)
 refine wc_cond _ rfl (fun hc37 => ?_) (fun hc37 => ?_)
 ·refine Zc (Zt (wc_cond_t rfl (hc37) ?_))
  refine Zs (Zr (ZA ?_))
  iterate 3 refine ZA ?_
  refine Zn (Zt (Ze (Zq (Zw (ret4 (cs' := []) (.inl rfl) Zu rfl rfl rfl rfl rfl ?_)))))
  refine ⟨?_, rfl⟩
  simp only [opNeeds, *, cond_true, cond_false]
  exact rfl
 refine Zr (ZA ?_)
 refine ZA ?_
 refine Zn (Zt ?_)
 refine wc_cond _ rfl (fun hc38 => ?_) (fun hc38 => ?_)
 ·refine Zs (Zr (ZA ?_))
  iterate 3 refine ZA ?_
  refine Zn (Zt (Ze (Zq (Zw (ret4 (cs' := []) (.inl rfl) Zu rfl rfl rfl rfl rfl ?_)))))
  refine ⟨?_, rfl⟩
  simp only [opNeeds, *, cond_true, cond_false]
  exact rfl
 refine Zs (Zr (ZA ?_))
 refine ZA ?_
 refine Zn (Zt ?_)
 refine wc_cond _ rfl (fun hc40 => ?_) (fun hc40 => ?_)
 ·refine Zs (Zr (ZA ?_))
  iterate 3 refine ZA ?_
  refine Zn (Zt (Ze (Zq (Zw (ret4 (cs' := []) (.inl rfl) Zu rfl rfl rfl rfl rfl ?_)))))
  refine ⟨?_, rfl⟩
  simp only [opNeeds, *, cond_true, cond_false]
  exact rfl
 refine Zs (Zr (ZA ?_))
 refine ZA ?_
 refine Zn (Zt ?_)
 refine wc_cond _ rfl (fun hc42 => ?_) (fun hc42 => ?_)
 ·refine Zs (Zr (ZA ?_))
  iterate 3 refine ZA ?_
  refine Zn (Zt (Ze (Zq (Zw (ret4 (cs' := []) (.inl rfl) Zu rfl rfl rfl rfl rfl ?_)))))
  refine ⟨?_, rfl⟩
  simp only [opNeeds, *, cond_true, cond_false]
  exact rfl
 refine Zc (Zo (Zt (Zs (Zr (ZA ?_)))))
 iterate 3 refine ZA ?_
 refine Zn (Zt (Ze (ret4 (cs' := []) (.inl rfl) Zu rfl rfl rfl rfl rfl ?_)))
 refine ⟨?_, rfl⟩
 simp only [opNeeds, *, cond_true, cond_false]
 exact rfl
end Go.Proofs.YtmhpcgmjlpfheaaGreatDoor
/- An instruction that is being done: its stacks. -/
set_option linter.unusedSimpArgs false
set_option linter.unusedVariables false
set_option maxRecDepth 100000
namespace Go.Ink
open Go.RowKit
structure Run where
 s : St
 count : Int
 trap : Tr
 device : Bool
abbrev Run.wd (R : Run) (l : List Int) : Run := ⟨⟨R.s.pc, l, R.s.r, R.s.flags, R.s.super, R.s.paging, R.s.ie, R.s.root, R.s.vec, R.s.epc, R.s.cause, R.s.addr, R.s.esuper, R.s.eie, R.s.count, R.s.halted⟩, R.count, R.trap, R.device⟩
abbrev Run.wr (R : Run) (l : List Int) : Run := ⟨⟨R.s.pc, R.s.d, l, R.s.flags, R.s.super, R.s.paging, R.s.ie, R.s.root, R.s.vec, R.s.epc, R.s.cause, R.s.addr, R.s.esuper, R.s.eie, R.s.count, R.s.halted⟩, R.count, R.trap, R.device⟩
abbrev Run.wt (R : Run) (t : Tr) : Run := ⟨R.s, R.count, t, R.device⟩
/-- Where the stacks lie. -/
structure SAdr where
 Ad : Option Addr
 cd : Nat
 Ar : Option Addr
 cr : Nat
structure RLoc where
 br : Nat
 u : Option Addr
 b : Option Addr
end Go.Ink
namespace Go.Proofs.YtmhpcgmjlpfheaaGreatDoor
open Go.RowKit Go.Ink
attribute [local irreducible] OpY GuardIs

abbrev runRow (K : RLoc) (X : SAdr) (R : Run) : Chunk := row K.br [.int .u32 R.s.pc, .slice X.Ad R.s.d.length X.cd, .slice X.Ar R.s.r.length X.cr, .int .u32 R.s.flags, .bool R.s.super, .bool R.s.paging, .bool R.s.ie, .int .u32 R.s.root, .int .u32 R.s.vec, .int .u32 R.s.epc, .int .u32 R.s.cause, .int .u32 R.s.addr, .bool R.s.esuper, .bool R.s.eie, .int .u64 R.s.count, .bool R.s.halted, .int .u64 R.count, .pointer K.u, .pointer K.b, .int .i64 R.trap.cause, .int .u32 R.trap.addr, .bool R.device] 253
abbrev runF (K : RLoc) (X : SAdr) (R : Run) : List Chunk := [runRow K X R, slD R.s X.Ad X.cd, slR R.s X.Ar X.cr]
theorem pop_ok (K : RLoc) (X : SAdr) (R : Run) (l : List Int) (x : Int) (w : World) (hi : Inv w (blocks (runF K X (R.wd (l ++ [x])))) (runF K X (R.wd (l ++ [x]))) w) :
  Ctr Tryz.prog 186 [.pointer (some ⟨K.br, 0, none⟩)] w (runF K X (R.wd (l ++ [x]))) (fun v cs => v = .int .u32 x ∧ cs = runF K X (R.wd l)) := by
 have hrd := slvok_rd (hi.get (.tail _ (.head _ _)))
 have hcap : (l ++ [x]).length ≤ X.cd := hrd.cap
 have hmax := hrd.max
 simp only [maxLen] at hmax
 have hlen : (l ++ [x]).length = l.length + 1 := by simp
 obtain ⟨Ad, cd, Ar, cr⟩ := X
 obtain ⟨bd, rfl⟩ := slv_some (hi.get (.tail _ (.head _ _))) (show 0 < (l ++ [x]).length by omega)
 have hcap : (l ++ [x]).length ≤ cd := hcap
 have hdl : (R.wd (l ++ [x])).s.d.length = l.length + 1 := hlen
 have hmax : cd ≤ _ := hmax
 refine fn_ctr Tryz.func186 rfl Tryz.ntmps186 rfl hi ?_
 refine Zs (Zr (ZA ?_))
 refine Zn (Zt (Zs (Zr (ZA ?_))))
 refine ZA ?_
 refine ZFa 0 ?_
 refine ZFa 1 ?_
 refine ZC ?_
 refine ZA ?_
 refine Zy (y_sub (Zv rfl) (Zv rfl) (show _ = (l.length : Int) from by rw [hlen]; exact IntWalk.i64_in _ ⟨by omega, by omega⟩ |>.trans (by omega))) ?_
 refine ZA ?_
 refine Zn (Zt (Zs (Zr (ZA ?_))))
 refine ZA ?_
 refine ZFa 0 ?_
 refine ZFa 1 ?_
 refine ZC ?_
 refine ZA ?_
 refine Zy (y_indexR (j := l.length) (sz := 1) (r := l.length) rfl (fun _ => rfl) (Zv rfl) (Zv rfl) (fun _ => by omega) (fun _ => by omega) (by omega)) ?_
 refine wl_y (y_load (fun _ => rfl) (Zv rfl)) (sl_cellR Zh (ints_at (snoc_get l x))) rfl ?_
 refine ZA ?_
 refine Zn (Zt (Zs (Zr (ZA ?_))))
 iterate 2 refine ZA ?_
 refine ZFa 0 ?_
 refine ZFa 1 ?_
 refine ZC ?_
 refine ZA ?_
 refine Zy (y_slice0 (l.length) rfl (fun _ => rfl) (Zv rfl) (Zv rfl) (fun _ => by first | rfl | omega) (fun _ => by omega)) ?_
 refine ZA ?_
 refine ZFa 0 ?_
 refine ZFa 1 ?_
 refine ZL ?_
 refine Zn (Zt (Zs (Zr (ZA ?_))))
 refine ZA ?_
 refine Zn (Zt (Ze (qok_conv (c := slD (R.wd (l ++ [x])).s (some ⟨bd, 0, none⟩) cd) (c' := slD (R.wd l).s (some ⟨bd, 0, none⟩) cd) Za rfl (fun w h => sl_pop h) ?_)))
 refine ret1 (cs' := [row _ _ _, slv _ _ _ _ _ _, slv _ _ _ _ _ _]) (.inl rfl) Zu rfl rfl ?_
 exact ⟨rfl, rfl⟩
theorem popr_ok (K : RLoc) (X : SAdr) (R : Run) (l : List Int) (x : Int) (w : World) (hi : Inv w (blocks (runF K X (R.wr (l ++ [x])))) (runF K X (R.wr (l ++ [x]))) w) :
  Ctr Tryz.prog 187 [.pointer (some ⟨K.br, 0, none⟩)] w (runF K X (R.wr (l ++ [x]))) (fun v cs => v = .int .u32 x ∧ cs = runF K X (R.wr l)) := by
 have hrd := slvok_rd (hi.get (.tail _ (.tail _ (.head _ _))))
 have hcap : (l ++ [x]).length ≤ X.cr := hrd.cap
 have hmax := hrd.max
 simp only [maxLen] at hmax
 have hlen : (l ++ [x]).length = l.length + 1 := by simp
 obtain ⟨Ad, cd, Ar, cr⟩ := X
 obtain ⟨bd, rfl⟩ := slv_some (hi.get (.tail _ (.tail _ (.head _ _)))) (show 0 < (l ++ [x]).length by omega)
 have hcap : (l ++ [x]).length ≤ cr := hcap
 have hdl : (R.wr (l ++ [x])).s.r.length = l.length + 1 := hlen
 have hmax : cr ≤ _ := hmax
 refine fn_ctr Tryz.func187 rfl Tryz.ntmps187 rfl hi ?_
 refine Zs (Zr (ZA ?_))
 refine Zn (Zt (Zs (Zr (ZA ?_))))
 refine ZA ?_
 refine ZFa 0 ?_
 refine ZFa 2 ?_
 refine ZC ?_
 refine ZA ?_
 refine Zy (y_sub (Zv rfl) (Zv rfl) (show _ = (l.length : Int) from by rw [hlen]; exact IntWalk.i64_in _ ⟨by omega, by omega⟩ |>.trans (by omega))) ?_
 refine ZA ?_
 refine Zn (Zt (Zs (Zr (ZA ?_))))
 refine ZA ?_
 refine ZFa 0 ?_
 refine ZFa 2 ?_
 refine ZC ?_
 refine ZA ?_
 refine Zy (y_indexR (j := l.length) (sz := 1) (r := l.length) rfl (fun _ => rfl) (Zv rfl) (Zv rfl) (fun _ => by omega) (fun _ => by omega) (by omega)) ?_
 refine wl_y (y_load (fun _ => rfl) (Zv rfl)) (sl_cellR Zh (ints_at (snoc_get l x))) rfl ?_
 refine ZA ?_
 refine Zn (Zt (Zs (Zr (ZA ?_))))
 iterate 2 refine ZA ?_
 refine ZFa 0 ?_
 refine ZFa 2 ?_
 refine ZC ?_
 refine ZA ?_
 refine Zy (y_slice0 (l.length) rfl (fun _ => rfl) (Zv rfl) (Zv rfl) (fun _ => by first | rfl | omega) (fun _ => by omega)) ?_
 refine ZA ?_
 refine ZFa 0 ?_
 refine ZFa 2 ?_
 refine ZL ?_
 refine Zn (Zt (Zs (Zr (ZA ?_))))
 refine ZA ?_
 refine Zn (Zt (Ze (qok_conv (c := slR (R.wr (l ++ [x])).s (some ⟨bd, 0, none⟩) cr) (c' := slR (R.wr l).s (some ⟨bd, 0, none⟩) cr) Za rfl (fun w h => sl_pop h) ?_)))
 refine ret1 (cs' := [row _ _ _, slv _ _ _ _ _ _, slv _ _ _ _ _ _]) (.inl rfl) Zu rfl rfl ?_
 exact ⟨rfl, rfl⟩
theorem push_ok (K : RLoc) (X : SAdr) (R : Run) (A : Option Addr) (n c : Nat) (ys : List Int) (hs : R.s.d.length + n ≤ 1000000) (w : World) (hi : Inv w (blocks (runF K X R)) (runF K X R) w) (h : ∀ w', Keep (blocks (runF K X R)) w w' → Rd w' .u32 A n c ys) :
  Ctr Tryz.prog 185 [.pointer (some ⟨K.br, 0, none⟩), .slice A n c] w (runF K X R) (fun v cs => ∃ A' c', v = .tuple #[] ∧ cs = runF K ⟨A', c', X.Ar, X.cr⟩ (R.wd (R.s.d ++ ys))) := by
 have hl : n = ys.length := by have := (h w (Keep.refl _ _)).len; rw [ints_length] at this; omega
 subst hl
 refine fn_ctr Tryz.func185 rfl Tryz.ntmps185 rfl hi ?_
 refine Zr (ZA ?_)
 iterate 2 refine ZA ?_
 refine ZFa 0 ?_
 refine ZFa 1 ?_
 refine ZC ?_
 refine ZA ?_
 refine wl_t (t_append (e := 24) (sz := 1) (bytes := 4) rfl rfl Za rfl rfl (fun w hi => h w hi.keep) ints_one (by simp only [maxLen]; omega) (by omega)) rfl ?_
 rintro _ _ ⟨A', c', rfl, rfl⟩
 refine ZA ?_
 refine ZFa 0 ?_
 refine ZFa 1 ?_
 refine ZL ?_
 refine Zn (ret0 (cs' := [row _ _ _, slv _ _ _ _ _ _, slv _ _ _ _ _ _]) (.inr rfl) Zu rfl ?_)
 exact ⟨A', c', rfl, by simp only [runF, runRow, slD, slR, List.length_append, ints_append]⟩
theorem fail_ok (K : RLoc) (X : SAdr) (R : Run) (cause addr : Int) (w : World) (hi : Inv w (blocks (runF K X R)) (runF K X R) w) :
  Ctr Tryz.prog 189 [.pointer (some ⟨K.br, 0, none⟩), .int .i64 cause, .int .u32 addr] w (runF K X R) (fun v cs => v = .tuple #[] ∧ cs = runF K X (R.wt ⟨cause, addr⟩)) := by
 refine fn_ctr Tryz.func189 rfl Tryz.ntmps189 rfl hi ?_
 refine Zr (ZA ?_)
 iterate 4 refine ZA ?_
 refine ZFa 19 ?_
 refine wl_t0 (t_storeRN (n := 2) (vs := [.int .i64 cause, .int .u32 addr]) (fun _ => rfl) rfl rfl (allT rfl) Za rfl (by simp only [List.length_cons, List.length_nil]; omega)) ?_
 rintro _ _ ⟨rfl, rfl⟩
 refine Zn (ret0 (cs' := [row _ _ _, slv _ _ _ _ _ _, slv _ _ _ _ _ _]) (.inr rfl) Zu rfl ?_)
 exact ⟨rfl, rfl⟩
theorem space_ok (K : RLoc) (X : SAdr) (R : Run) (w : World) (h : (runRow K X R).ok w) :
  Ctr Tryz.prog 239 [.pointer (some ⟨K.br, 0, none⟩)] w [] (fun v cs => v = .agg #[.bool R.s.paging, .bool R.s.super, .int .u32 R.s.root] ∧ cs = []) := by
 refine fn_ctr Tryz.func239 rfl Tryz.ntmps239 rfl (Inv.start w) ?_
 refine Zs (Zr (ZN fun b2 => ?_))
 refine Zn (Zt (Zs (wc_draw ⟨fun j => List.elem j [16], []⟩ Zk ?_)))
 refine ZE 0 ?_
 refine ZE 1 ?_
 refine ZFe 2 0 ?_
 refine ZFe 3 5 ?_
 refine wa_ln 4 rfl Zk Zk Zk Zk (y_load (fun _ => rfl) (Zv rfl)) (old_row (by assumption) rfl) rfl ?_
 refine ZE 5 ?_
 refine ZE 6 ?_
 refine ZFe 7 0 ?_
 refine ZFe 8 4 ?_
 refine wa_ln 9 rfl Zk Zk Zk Zk (y_load (fun _ => rfl) (Zv rfl)) (old_row (by assumption) rfl) rfl ?_
 refine ZE 10 ?_
 refine ZE 11 ?_
 refine ZFe 12 0 ?_
 refine ZFe 13 7 ?_
 refine wa_ln 14 rfl Zk Zk Zk Zk (y_load (fun _ => rfl) (Zv rfl)) (old_row (by assumption) rfl) rfl ?_
 refine ZE 15 ?_
 refine wa_1 16 Zk ?_
 refine ZR ?_
 refine wa_done Zk ?_
 refine Zt (Ze (retC (cs' := []) (.inl rfl) Zu rfl rfl Zh (fun _ => rfl) (fun _ => rfl) ?_))
 exact ⟨rfl, rfl⟩
end Go.Proofs.YtmhpcgmjlpfheaaGreatDoor
/- An instruction that is being done: what moves words, what reckons or jumps. -/
set_option linter.unusedSimpArgs false
set_option linter.unusedVariables false
set_option maxRecDepth 100000
namespace Go.Ink
open Go.RowKit
def Run.top (R : Run) : Int := R.s.d.getLastD 0
def Run.topR (R : Run) : Int := R.s.r.getLastD 0
def Run.pop (R : Run) : Run := R.wd R.s.d.dropLast
def Run.popR (R : Run) : Run := R.wr R.s.r.dropLast
def Run.push (R : Run) (l : List Int) : Run := R.wd (R.s.d ++ l)
def Run.pushR (R : Run) (x : Int) : Run := R.wr (R.s.r ++ [x])
abbrev Run.wpc (R : Run) (x : Int) : Run := ⟨⟨x, R.s.d, R.s.r, R.s.flags, R.s.super, R.s.paging, R.s.ie, R.s.root, R.s.vec, R.s.epc, R.s.cause, R.s.addr, R.s.esuper, R.s.eie, R.s.count, R.s.halted⟩, R.count, R.trap, R.device⟩
abbrev Run.wfl (R : Run) (x : Int) : Run := ⟨⟨R.s.pc, R.s.d, R.s.r, x, R.s.super, R.s.paging, R.s.ie, R.s.root, R.s.vec, R.s.epc, R.s.cause, R.s.addr, R.s.esuper, R.s.eie, R.s.count, R.s.halted⟩, R.count, R.trap, R.device⟩
theorem Run.snoc {R : Run} (h : 1 ≤ R.s.d.length) : ∃ (R' : Run) (l : List Int) (x : Int), R = R'.wd (l ++ [x]) := by
 obtain ⟨l, x, h⟩ := snoc_of h
 exact ⟨R, l, x, by rw [Run.wd, ← h]⟩
theorem Run.snocR {R : Run} (h : 1 ≤ R.s.r.length) : ∃ (R' : Run) (l : List Int) (x : Int), R = R'.wr (l ++ [x]) := by
 obtain ⟨l, x, h⟩ := snoc_of h
 exact ⟨R, l, x, by rw [Run.wr, ← h]⟩
theorem Run.snoc2 {R : Run} (h : 2 ≤ R.s.d.length) : ∃ (R' : Run) (l : List Int) (x y : Int), R = R'.wd ((l ++ [x]) ++ [y]) := by
 obtain ⟨R1, l, y, rfl⟩ := Run.snoc (R := R) (by omega)
 have h : 2 ≤ (l ++ [y]).length := h
 obtain ⟨m, x, rfl⟩ := snoc_of (l := l) (by simp at h; omega)
 exact ⟨R1, m, x, y, rfl⟩
@[simp] theorem Run.top_wd (R : Run) (l : List Int) (x : Int) : (R.wd (l ++ [x])).top = x := by simp [Run.top, List.getLastD_concat]
@[simp] theorem Run.pop_wd (R : Run) (l : List Int) (x : Int) : (R.wd (l ++ [x])).pop = R.wd l := by simp [Run.pop]
@[simp] theorem Run.topR_wr (R : Run) (l : List Int) (x : Int) : (R.wr (l ++ [x])).topR = x := by simp [Run.topR, List.getLastD_concat]
@[simp] theorem Run.popR_wr (R : Run) (l : List Int) (x : Int) : (R.wr (l ++ [x])).popR = R.wr l := by simp [Run.popR]
/-- What moves words alone; none: it is none such. -/
def stackTo (op n : Int) (R : Run) : Option Run :=
 bif op == 0 then some R else bif op == 1 then some (R.push [n]) else bif op == 2 then some (R.push [n]) else bif op == 3 then some (R.pop.push [R.top, R.top]) else bif op == 4 then some R.pop else
 bif op == 5 then some (R.pop.pop.push [R.top, R.pop.top]) else bif op == 6 then some (R.pop.pop.push [R.pop.top, R.top, R.pop.top]) else bif op == 7 then some (R.pop.pushR R.top) else bif op == 8 then some (R.popR.push [R.topR]) else none
theorem stackTo_dup (n : Int) (R : Run) (l : List Int) (x : Int) : stackTo 3 n (R.wd (l ++ [x])) = some (R.wd (l ++ [x, x])) := by
 show some _ = _
 rw [Run.top_wd, Run.pop_wd]; rfl
theorem stackTo_drop (n : Int) (R : Run) (l : List Int) (x : Int) : stackTo 4 n (R.wd (l ++ [x])) = some (R.wd l) := by
 show some _ = _
 rw [Run.pop_wd]
theorem stackTo_swap (n : Int) (R : Run) (l : List Int) (x y : Int) : stackTo 5 n (R.wd ((l ++ [x]) ++ [y])) = some (R.wd (l ++ [y, x])) := by
 show some _ = _
 rw [Run.top_wd, Run.pop_wd, Run.top_wd, Run.pop_wd]; rfl
theorem stackTo_over (n : Int) (R : Run) (l : List Int) (x y : Int) : stackTo 6 n (R.wd ((l ++ [x]) ++ [y])) = some (R.wd (l ++ [x, y, x])) := by
 show some _ = _
 rw [Run.top_wd, Run.pop_wd, Run.top_wd, Run.pop_wd]; rfl
theorem stackTo_tor (n : Int) (R : Run) (l : List Int) (x : Int) : stackTo 7 n (R.wd (l ++ [x])) = some ((R.wd l).wr (R.s.r ++ [x])) := by
 show some _ = _
 rw [Run.top_wd, Run.pop_wd]; rfl
theorem stackTo_fromr (n : Int) (R : Run) (l : List Int) (x : Int) : stackTo 8 n (R.wr (l ++ [x])) = some ((R.wr l).wd (R.s.d ++ [x])) := by
 show some _ = _
 rw [Run.topR_wr, Run.popR_wr]; rfl
theorem stackTo_none {op : Int} (n : Int) (R : Run) (h0 : (op == 0) = false) (h1 : (op == 1) = false) (h2 : (op == 2) = false) (h3 : (op == 3) = false) (h4 : (op == 4) = false) (h5 : (op == 5) = false) (h6 : (op == 6) = false) (h7 : (op == 7) = false) (h8 : (op == 8) = false) : stackTo op n R = none := by
 simp only [stackTo, *, cond_false]
theorem beqZ {a b : Int} (h : (a == b) = true) : a = b := by simpa using h
end Go.Ink
namespace Go.Proofs.YtmhpcgmjlpfheaaGreatDoor
open Go.RowKit Go.Ink
attribute [local irreducible] OpY GuardIs

theorem stack_ok (K : RLoc) (X : SAdr) (R : Run) (op n : Int) (hd : R.s.d.length ≤ 100000) (hr : R.s.r.length ≤ 100000) (hn : (opNeeds op).1.1 ≤ R.s.d.length) (hnr : (opNeeds op).2.1 ≤ R.s.r.length) (w : World) (hi : Inv w (blocks (runF K X R)) (runF K X R) w) :
  Ctr Tryz.prog 151 [.pointer (some ⟨K.br, 0, none⟩), .agg #[.int .i64 op, .int .u32 n]] w (runF K X R) (fun v cs => ∃ X', v = .bool (stackTo op n R).isSome ∧ cs = runF K X' ((stackTo op n R).getD R)) := by
 refine fn_ctr Tryz.func151 rfl Tryz.ntmps151 rfl hi ?_
 refine Zs (Zr (ZO fun b3 => ?_))
 refine ZA ?_
 refine Zn (Zt (Zs (Zs (Zr (ZFa 0 ?_)))))
 refine ZC ?_
 refine Zn (Zt (Zx (Zs (Zr (ZA ?_)))))
 refine ZA ?_
 refine Zn (Zt ?_)
 refine wc_cond _ rfl (fun hc3 => ?_) (fun hc3 => ?_)
 ·obtain rfl := beqZ hc3
  have hst : stackTo 0 n R = some R := rfl
  refine Zc (Zo (Zt (Zs (Zr (ZA ?_)))))
  refine Zn (Zt (Ze (ret1 (cs' := [row _ _ _, slv _ _ _ _ _ _, slv _ _ _ _ _ _]) (.inl rfl) Zu rfl rfl ?_)))
  rw [hst]
  exact ⟨⟨_, _, _, _⟩, rfl, rfl⟩
 refine Zs (Zs (Zr (ZA ?_)))
 refine ZA ?_
 refine Zn (Zt ?_)
 refine wc_cond _ rfl (fun hc4 => ?_) (fun hc4 => ?_)
 ·obtain rfl := beqZ hc4
  have hst : stackTo 1 n R = some (R.push [n]) := rfl
  refine Zc (Zt (wc_cond_t rfl (hc4) ?_))
  refine Zr (ZA ?_)
  refine ZFa 1 ?_
  refine ZC ?_
  refine wl_t (t_buildSl1 rfl rfl (fun _ => rfl) (fun _ => rfl) rfl rfl) rfl ?_
  rintro _ _ ⟨b20, rfl, rfl⟩
  refine wl_t (t_callS (runF K X R) rfl (fun _ _ => rfl) Zi (fun w hi hin => push_ok K X R _ 1 1 [n] (by omega) w hin (fun w' hk => hi.rdKs Zi Zh hk))) rfl ?_
  rintro _ _ ⟨_, ⟨A', c', rfl, rfl⟩, rfl⟩
  refine Zn (Zo (Zt (Zs (Zr (ZA ?_)))))
  refine Zn (Zt (Ze (ret1 (cs' := [row _ _ _, slv _ _ _ _ _ _, slv _ _ _ _ _ _]) (.inl rfl) Zu rfl rfl ?_)))
  rw [hst]
  exact ⟨⟨_, _, _, _⟩, rfl, rfl⟩
 refine Zr (ZA ?_)
 refine ZA ?_
 refine Zn (Zt ?_)
 refine wc_cond _ rfl (fun hc5 => ?_) (fun hc5 => ?_)
 ·obtain rfl := beqZ hc5
  have hst : stackTo 2 n R = some (R.push [n]) := rfl
  refine Zr (ZA ?_)
  refine ZFa 1 ?_
  refine ZC ?_
  refine wl_t (t_buildSl1 rfl rfl (fun _ => rfl) (fun _ => rfl) rfl rfl) rfl ?_
  rintro _ _ ⟨b20, rfl, rfl⟩
  refine wl_t (t_callS (runF K X R) rfl (fun _ _ => rfl) Zi (fun w hi hin => push_ok K X R _ 1 1 [n] (by omega) w hin (fun w' hk => hi.rdKs Zi Zh hk))) rfl ?_
  rintro _ _ ⟨_, ⟨A', c', rfl, rfl⟩, rfl⟩
  refine Zn (Zo (Zt (Zs (Zr (ZA ?_)))))
  refine Zn (Zt (Ze (ret1 (cs' := [row _ _ _, slv _ _ _ _ _ _, slv _ _ _ _ _ _]) (.inl rfl) Zu rfl rfl ?_)))
  rw [hst]
  exact ⟨⟨_, _, _, _⟩, rfl, rfl⟩
 refine Zs (Zr (ZA ?_))
 refine ZA ?_
 refine Zn (Zt ?_)
 refine wc_cond _ rfl (fun hc7 => ?_) (fun hc7 => ?_)
 ·obtain rfl := beqZ hc7
  obtain ⟨R, l, x, rfl⟩ := Run.snoc (show 1 ≤ R.s.d.length from hn)
  have hst := stackTo_dup n R l x
  have hll : l.length + 1 ≤ 100000 := (by have : (l ++ [x]).length ≤ 100000 := hd; simpa using this)
  refine Zs (Zr (ZA ?_))
  refine wl_t (t_callS (runF K X (R.wd (l ++ [x]))) rfl (fun _ _ => rfl) Zi (fun w hi hin => pop_ok K X R l x w hin)) rfl ?_
  rintro _ _ ⟨_, ⟨rfl, rfl⟩, rfl⟩
  refine ZA ?_
  refine Zn (Zt (Zr (ZA ?_)))
  iterate 2 refine ZA ?_
  refine wl_t (t_buildSl1 rfl rfl (fun _ => rfl) (fun _ => rfl) rfl rfl) rfl ?_
  rintro _ _ ⟨b29, rfl, rfl⟩
  refine wl_t (t_callS (runF K X (R.wd l)) rfl (fun _ _ => rfl) Zi (fun w hi hin => push_ok K X (R.wd l) _ 2 2 [x, x] (show l.length + 2 ≤ 1000000 by omega) w hin (fun w' hk => hi.rdKs Zi Zh hk))) rfl ?_
  rintro _ _ ⟨_, ⟨A', c', rfl, rfl⟩, rfl⟩
  refine Zn (Zo (Zt (Zs (Zr (ZA ?_)))))
  refine Zn (Zt (Ze (ret1 (cs' := [row _ _ _, slv _ _ _ _ _ _, slv _ _ _ _ _ _]) (.inl rfl) Zu rfl rfl ?_)))
  rw [hst]
  exact ⟨⟨_, _, _, _⟩, rfl, rfl⟩
 refine Zs (Zr (ZA ?_))
 refine ZA ?_
 refine Zn (Zt ?_)
 refine wc_cond _ rfl (fun hc10 => ?_) (fun hc10 => ?_)
 ·obtain rfl := beqZ hc10
  obtain ⟨R, l, x, rfl⟩ := Run.snoc (show 1 ≤ R.s.d.length from hn)
  have hst := stackTo_drop n R l x
  refine Zr (ZA ?_)
  refine wl_t (t_callS (runF K X (R.wd (l ++ [x]))) rfl (fun _ _ => rfl) Zi (fun w hi hin => pop_ok K X R l x w hin)) rfl ?_
  rintro _ _ ⟨_, ⟨rfl, rfl⟩, rfl⟩
  refine Zn (Zo (Zt (Zs (Zr (ZA ?_)))))
  refine Zn (Zt (Ze (ret1 (cs' := [row _ _ _, slv _ _ _ _ _ _, slv _ _ _ _ _ _]) (.inl rfl) Zu rfl rfl ?_)))
  rw [hst]
  exact ⟨⟨_, _, _, _⟩, rfl, rfl⟩
 refine Zs (Zr (ZA ?_))
 refine ZA ?_
 refine Zn (Zt ?_)
 refine wc_cond _ rfl (fun hc12 => ?_) (fun hc12 => ?_)
 ·obtain rfl := beqZ hc12
  obtain ⟨R, l, x, y, rfl⟩ := Run.snoc2 (show 2 ≤ R.s.d.length from hn)
  have hst := stackTo_swap n R l x y
  have hll : l.length + 2 ≤ 100000 := (by have : ((l ++ [x]) ++ [y]).length ≤ 100000 := hd; simp only [List.length_append, List.length_cons, List.length_nil] at this; omega)
  refine Zs (Zr (ZA ?_))
  refine wl_t (t_callS (runF K X (R.wd ((l ++ [x]) ++ [y]))) rfl (fun _ _ => rfl) Zi (fun w hi hin => pop_ok K X R (l ++ [x]) y w hin)) rfl ?_
  rintro _ _ ⟨_, ⟨rfl, rfl⟩, rfl⟩
  refine ZA ?_
  refine wl_t (t_callS (runF K X (R.wd (l ++ [x]))) rfl (fun _ _ => rfl) Zi (fun w hi hin => pop_ok K X R l x w hin)) rfl ?_
  rintro _ _ ⟨_, ⟨rfl, rfl⟩, rfl⟩
  iterate 2 refine ZA ?_
  refine Zn (Zt (Zr (ZA ?_)))
  iterate 2 refine ZA ?_
  refine wl_t (t_buildSl1 rfl rfl (fun _ => rfl) (fun _ => rfl) rfl rfl) rfl ?_
  rintro _ _ ⟨b44, rfl, rfl⟩
  refine wl_t (t_callS (runF K X (R.wd l)) rfl (fun _ _ => rfl) Zi (fun w hi hin => push_ok K X (R.wd l) _ 2 2 [y, x] (show l.length + 2 ≤ 1000000 by omega) w hin (fun w' hk => hi.rdKs Zi Zh hk))) rfl ?_
  rintro _ _ ⟨_, ⟨A', c', rfl, rfl⟩, rfl⟩
  refine Zn (Zo (Zt (Zs (Zr (ZA ?_)))))
  refine Zn (Zt (Ze (ret1 (cs' := [row _ _ _, slv _ _ _ _ _ _, slv _ _ _ _ _ _]) (.inl rfl) Zu rfl rfl ?_)))
  rw [hst]
  exact ⟨⟨_, _, _, _⟩, rfl, rfl⟩
 refine Zs (Zr (ZA ?_))
 refine ZA ?_
 refine Zn (Zt ?_)
 refine wc_cond _ rfl (fun hc15 => ?_) (fun hc15 => ?_)
 ·obtain rfl := beqZ hc15
  obtain ⟨R, l, x, y, rfl⟩ := Run.snoc2 (show 2 ≤ R.s.d.length from hn)
  have hst := stackTo_over n R l x y
  have hll : l.length + 2 ≤ 100000 := (by have : ((l ++ [x]) ++ [y]).length ≤ 100000 := hd; simp only [List.length_append, List.length_cons, List.length_nil] at this; omega)
  refine Zs (Zr (ZA ?_))
  refine wl_t (t_callS (runF K X (R.wd ((l ++ [x]) ++ [y]))) rfl (fun _ _ => rfl) Zi (fun w hi hin => pop_ok K X R (l ++ [x]) y w hin)) rfl ?_
  rintro _ _ ⟨_, ⟨rfl, rfl⟩, rfl⟩
  refine ZA ?_
  refine wl_t (t_callS (runF K X (R.wd (l ++ [x]))) rfl (fun _ _ => rfl) Zi (fun w hi hin => pop_ok K X R l x w hin)) rfl ?_
  rintro _ _ ⟨_, ⟨rfl, rfl⟩, rfl⟩
  iterate 2 refine ZA ?_
  refine Zn (Zt (Zr (ZA ?_)))
  iterate 3 refine ZA ?_
  refine wl_t (t_buildSl1 rfl rfl (fun _ => rfl) (fun _ => rfl) rfl rfl) rfl ?_
  rintro _ _ ⟨b56, rfl, rfl⟩
  refine wl_t (t_callS (runF K X (R.wd l)) rfl (fun _ _ => rfl) Zi (fun w hi hin => push_ok K X (R.wd l) _ 3 3 [x, y, x] (show l.length + 3 ≤ 1000000 by omega) w hin (fun w' hk => hi.rdKs Zi Zh hk))) rfl ?_
  rintro _ _ ⟨_, ⟨A', c', rfl, rfl⟩, rfl⟩
  refine Zn (Zo (Zt (Zs (Zr (ZA ?_)))))
  refine Zn (Zt (Ze (ret1 (cs' := [row _ _ _, slv _ _ _ _ _ _, slv _ _ _ _ _ _]) (.inl rfl) Zu rfl rfl ?_)))
  rw [hst]
  exact ⟨⟨_, _, _, _⟩, rfl, rfl⟩
 refine Zs (Zr (ZA ?_))
 refine ZA ?_
 refine Zn (Zt ?_)
 refine wc_cond _ rfl (fun hc18 => ?_) (fun hc18 => ?_)
 ·obtain rfl := beqZ hc18
  obtain ⟨R, l, x, rfl⟩ := Run.snoc (show 1 ≤ R.s.d.length from hn)
  have hst := stackTo_tor n R l x
  have hrr : R.s.r.length ≤ 100000 := hr
  have hrr2 : (R.wd l).s.r.length ≤ 100000 := hr
  refine wc_draw ⟨fun j => List.elem j [7, 9, 13], []⟩ Zk ?_
  refine ZE 0 ?_
  refine ZE 1 ?_
  refine ZE 2 ?_
  refine ZFe 3 0 ?_
  refine ZFe 4 2 ?_
  refine ZE 6 ?_
  refine wa_2 5 7 Zk ?_ ?_
  ·refine wi_yn rfl (y_load (fun _ => rfl) (Zv rfl)) (row_cell Zh rfl) rfl ?_
   refine wa_1 7 Zk ?_
   refine wi_t rfl rfl (t_callS (runF K X (R.wd (l ++ [x]))) rfl (fun _ _ => rfl) Zi (fun w hi hin => pop_ok K X R l x w hin)) (fun _ _ _ _ _ _ _ h => by cases h) rfl ?_
   rintro _ _ ⟨_, ⟨rfl, rfl⟩, rfl⟩
   refine wa_1 8 Zk ?_
   refine wi_t rfl rfl (t_buildSl1 rfl rfl (fun _ => rfl) (fun _ => rfl) rfl rfl) (fun _ _ _ _ _ _ _ h => by cases h) rfl ?_
   rintro _ _ ⟨b68, rfl, rfl⟩
   refine wa_1 9 Zk ?_
   refine wi_t rfl rfl (t_append (e := 24) (sz := 1) (bytes := 4) rfl rfl Za rfl rfl (fun w hi => hi.rd (show Has _ (slv 24 1 (some ⟨b68, 0, none⟩) 1 1 (ints .u32 [x])) from Zh)) ints_one (by simp only [maxLen]; omega) (by omega)) (fun _ _ _ _ _ _ _ h => by cases h) rfl ?_
   rintro _ _ ⟨A', c', rfl, rfl⟩
   refine ZE 10 ?_
   refine ZFe 11 0 ?_
   refine ZFe 12 2 ?_
   refine wa_1 13 Zk ?_
   refine ZQ ?_
   refine wa_done Zk ?_
   refine Zo (Zt (Zs (Zr (ZA ?_))))
   refine Zn (Zt (Ze (ret1 (cs' := [row _ _ _, slv _ _ _ _ _ _, slv _ _ _ _ _ _]) (.inl rfl) Zu rfl rfl ?_)))
   rw [hst]
   refine ⟨⟨X.Ad, X.cd, A', c'⟩, rfl, ?_⟩
   show _ = runF K ⟨X.Ad, X.cd, A', c'⟩ ((R.wd l).wr (R.s.r ++ [x]))
   simp only [runF, runRow, slD, slR, List.length_append, ints_append, List.length_cons, List.length_nil, Nat.zero_add]
  refine wi_t rfl rfl (t_callS (runF K X (R.wd (l ++ [x]))) rfl (fun _ _ => rfl) Zi (fun w hi hin => pop_ok K X R l x w hin)) (fun _ _ _ _ _ _ _ h => by cases h) rfl ?_
  rintro _ _ ⟨_, ⟨rfl, rfl⟩, rfl⟩
  refine ZG 5 ?_
  refine wa_1 8 Zk ?_
  refine wi_t rfl rfl (t_buildSl1 rfl rfl (fun _ => rfl) (fun _ => rfl) rfl rfl) (fun _ _ _ _ _ _ _ h => by cases h) rfl ?_
  rintro _ _ ⟨b68, rfl, rfl⟩
  refine wa_1 9 Zk ?_
  refine wi_t rfl rfl (t_append (e := 24) (sz := 1) (bytes := 4) rfl rfl Za rfl rfl (fun w hi => hi.rd (show Has _ (slv 24 1 (some ⟨b68, 0, none⟩) 1 1 (ints .u32 [x])) from Zh)) ints_one (by simp only [maxLen]; omega) (by omega)) (fun _ _ _ _ _ _ _ h => by cases h) rfl ?_
  rintro _ _ ⟨A', c', rfl, rfl⟩
  refine ZE 10 ?_
  refine ZFe 11 0 ?_
  refine ZFe 12 2 ?_
  refine wa_1 13 Zk ?_
  refine ZQ ?_
  refine wa_done Zk ?_
  refine Zo (Zt (Zs (Zr (ZA ?_))))
  refine Zn (Zt (Ze (ret1 (cs' := [row _ _ _, slv _ _ _ _ _ _, slv _ _ _ _ _ _]) (.inl rfl) Zu rfl rfl ?_)))
  rw [hst]
  refine ⟨⟨X.Ad, X.cd, A', c'⟩, rfl, ?_⟩
  show _ = runF K ⟨X.Ad, X.cd, A', c'⟩ ((R.wd l).wr (R.s.r ++ [x]))
  simp only [runF, runRow, slD, slR, List.length_append, ints_append, List.length_cons, List.length_nil, Nat.zero_add]
 refine Zs (Zr (ZA ?_))
 refine ZA ?_
 refine Zn (Zt ?_)
 refine wc_cond _ rfl (fun hc20 => ?_) (fun hc20 => ?_)
 ·obtain rfl := beqZ hc20
  obtain ⟨R, l, x, rfl⟩ := Run.snocR (show 1 ≤ R.s.r.length from hnr)
  have hst := stackTo_fromr n R l x
  have hdd : R.s.d.length ≤ 100000 := hd
  refine Zr (ZA ?_)
  refine ZA ?_
  refine wl_t (t_callS (runF K X (R.wr (l ++ [x]))) rfl (fun _ _ => rfl) Zi (fun w hi hin => popr_ok K X R l x w hin)) rfl ?_
  rintro _ _ ⟨_, ⟨rfl, rfl⟩, rfl⟩
  refine wl_t (t_buildSl1 rfl rfl (fun _ => rfl) (fun _ => rfl) rfl rfl) rfl ?_
  rintro _ _ ⟨b78, rfl, rfl⟩
  refine wl_t (t_callS (runF K X (R.wr l)) rfl (fun _ _ => rfl) Zi (fun w hi hin => push_ok K X (R.wr l) _ 1 1 [x] (show R.s.d.length + 1 ≤ 1000000 by omega) w hin (fun w' hk => hi.rdKs Zi Zh hk))) rfl ?_
  rintro _ _ ⟨_, ⟨A', c', rfl, rfl⟩, rfl⟩
  refine Zn (Zo (Zt (Zs (Zr (ZA ?_)))))
  refine Zn (Zt (Ze (ret1 (cs' := [row _ _ _, slv _ _ _ _ _ _, slv _ _ _ _ _ _]) (.inl rfl) Zu rfl rfl ?_)))
  rw [hst]
  exact ⟨⟨_, _, _, _⟩, rfl, rfl⟩
 have hst := stackTo_none n R hc3 hc4 hc5 hc7 hc10 hc12 hc15 hc18 hc20
 refine Zs (Zr (ZA ?_))
 refine Zn (Zt (Ze (Zq (Zw (ret1 (cs' := [row _ _ _, slv _ _ _ _ _ _, slv _ _ _ _ _ _]) (.inl rfl) Zu rfl rfl ?_)))))
 rw [hst]
 exact ⟨⟨_, _, _, _⟩, rfl, rfl⟩
end Go.Proofs.YtmhpcgmjlpfheaaGreatDoor
/- An instruction that is being done: what reckons or jumps. -/
set_option linter.unusedSimpArgs false
set_option linter.unusedVariables false
set_option maxRecDepth 100000
namespace Go.Ink
open Go.RowKit
def thereOf (R : Run) (n : Int) : Int := IntKind.u32.wrap (R.s.pc + arSign n)
/-- What reckons, or jumps; false: it is none such. -/
def reckonTo (op n : Int) (R : Run) : Bool × Run :=
 bif decide (16 ≤ op) && decide (op ≤ 25) then
  (true, bif op != 25 then ((bif (arDo op R.pop.top R.top).2.2 then R.pop.pop else R.pop.pop.wt ⟨5, 0⟩).wfl (arDo op R.pop.top R.top).2.1).push [(arDo op R.pop.top R.top).1] else (bif (arDo op R.pop.top R.top).2.2 then R.pop.pop else R.pop.pop.wt ⟨5, 0⟩).wfl (arDo op R.pop.top R.top).2.1)
 else bif op == 38 then (true, (R.pushR R.s.pc).wpc (thereOf R n)) else bif op == 32 then (true, R.wpc (thereOf R n)) else bif op == 39 then (true, R.popR.wpc R.topR) else bif op == 40 then (true, R.pop.wpc R.top) else
 ((arHolds op R.s.flags).2, bif (arHolds op R.s.flags).1 then R.wpc (thereOf R n) else R)
theorem needs_ar {op : Int} (h : (decide (16 ≤ op) && decide (op ≤ 25)) = true) : (opNeeds op).1.1 = 2 := by
 simp only [Bool.and_eq_true, decide_eq_true_eq] at h
 obtain rfl | rfl | rfl | rfl | rfl | rfl | rfl | rfl | rfl | rfl : op = 16 ∨ op = 17 ∨ op = 18 ∨ op = 19 ∨ op = 20 ∨ op = 21 ∨ op = 22 ∨ op = 23 ∨ op = 24 ∨ op = 25 := by omega
 all_goals rfl
end Go.Ink
namespace Go.Proofs.YtmhpcgmjlpfheaaGreatDoor
open Go.RowKit Go.Ink
attribute [local irreducible] OpY GuardIs

set_option maxHeartbeats 1000000 in
theorem reckon_ok (K : RLoc) (X : SAdr) (R : Run) (op n : Int) (hw : ∀ x, x ∈ R.s.d → u32 x) (hd : R.s.d.length ≤ 100000) (hr : R.s.r.length ≤ 100000) (hn : (opNeeds op).1.1 ≤ R.s.d.length) (hnr : (opNeeds op).2.1 ≤ R.s.r.length) (w : World) (hi : Inv w (blocks (runF K X R)) (runF K X R) w) :
  Ctr Tryz.prog 152 [.pointer (some ⟨K.br, 0, none⟩), .agg #[.int .i64 op, .int .u32 n]] w (runF K X R) (fun v cs => ∃ X', v = .bool (reckonTo op n R).1 ∧ cs = runF K X' (reckonTo op n R).2) := by
 have HS := sign_ok n
 have HA := ado_ok op
 have HH := holds_ok op R.s.flags
 obtain ⟨th, hth⟩ : ∃ t, thereOf R n = t := ⟨_, rfl⟩
 have hth' := hth
 unfold thereOf at hth'
 obtain ⟨sg, hsg⟩ : ∃ t, arSign n = t := ⟨_, rfl⟩
 rw [hsg] at HS hth'
 refine fn_ctr Tryz.func152 rfl Tryz.ntmps152 rfl hi ?_
 refine Zs (Zr (ZO fun b3 => ?_))
 refine ZA ?_
 refine Zn (Zt (Zs (wc_draw ⟨fun j => List.elem j [], []⟩ Zk ?_)))
 refine ZE 0 ?_
 refine ZE 1 ?_
 refine ZFe 2 0 ?_
 refine ZFe 3 0 ?_
 refine ZG 4 ?_
 refine ZFe 5 1 ?_
 refine ZG 6 ?_
 refine wa_1 7 Zk ?_
 refine ZT (fun w hi => HS w) ?_
 rintro _ _ ⟨_, ⟨rfl, rfl⟩, rfl⟩
 refine wa_yn 8 rfl Zk Zk Zk (y_add (Zv rfl) (Zv rfl) hth') rfl ?_
 refine ZE 9 ?_
 refine wa_done Zk ?_
 refine Zt (Zs (Zs (Zr (ZFa 0 ?_))))
 refine ZC ?_
 refine ZA ?_
 refine Zn (Zt (Zx (Zs (Zr (ZA ?_)))))
 iterate 2 refine ZA ?_
 iterate 2 refine ZB ?_
 iterate 2 refine ZA ?_
 refine Zn (Zt ?_)
 refine wc_cond _ rfl (fun hc7 => ?_) (fun hc7 => ?_)
 ·rw [needs_ar hc7] at hn
  obtain ⟨R, l, x, y, rfl⟩ := Run.snoc2 hn
  have hll : l.length + 2 ≤ 100000 := (by have : ((l ++ [x]) ++ [y]).length ≤ 100000 := hd; simp only [List.length_append, List.length_cons, List.length_nil] at this; omega)
  have HA := HA x y (hw y (by simp)).1
  obtain ⟨⟨v, fl, ok⟩, hq⟩ : ∃ q, arDo op x y = q := ⟨_, rfl⟩
  rw [hq] at HA
  have hst : reckonTo op n (R.wd ((l ++ [x]) ++ [y])) = (true, bif op != 25 then ((bif ok then R.wd l else (R.wd l).wt ⟨5, 0⟩).wfl fl).push [v] else (bif ok then R.wd l else (R.wd l).wt ⟨5, 0⟩).wfl fl) := (by simp only [reckonTo, hc7, cond_true, Run.top_wd, Run.pop_wd, hq])
  refine Zs (Zr (ZA ?_))
  refine wl_t (t_callS (runF K X (R.wd ((l ++ [x]) ++ [y]))) rfl (fun _ _ => rfl) Zi (fun w hi hin => pop_ok K X R (l ++ [x]) y w hin)) rfl ?_
  rintro _ _ ⟨_, ⟨rfl, rfl⟩, rfl⟩
  refine ZA ?_
  refine wl_t (t_callS (runF K X (R.wd (l ++ [x]))) rfl (fun _ _ => rfl) Zi (fun w hi hin => pop_ok K X R l x w hin)) rfl ?_
  rintro _ _ ⟨_, ⟨rfl, rfl⟩, rfl⟩
  iterate 2 refine ZA ?_
  refine Zn (Zt (Zs (Zr (ZA ?_))))
  iterate 2 refine ZA ?_
  refine ZS (fun w hi => HA w) ?_
  rintro _ _ ⟨_, ⟨rfl, rfl⟩, rfl⟩
  iterate 7 refine ZA ?_
  refine Zn (Zt (Zs (Zs (Zr (ZA ?_)))))
  refine ZA ?_
  refine Zn (Zt ?_)
  refine wc_cond _ rfl (fun hc10 => ?_) (fun hc10 => ?_)
  ·obtain rfl : ok = false := (by simpa using hc10)
   have hR : ∃ Q, Q = (R.wd l).wt ⟨5, 0⟩ := ⟨_, rfl⟩
   refine Zr (ZA ?_)
   refine wl_t (t_callS (runF K X (R.wd l)) rfl (fun _ _ => rfl) Zi (fun w hi hin => fail_ok K X (R.wd l) 5 0 w hin)) rfl ?_
   rintro _ _ ⟨_, ⟨rfl, rfl⟩, rfl⟩
   refine Zn (Zt (Zs (Zr (ZA ?_))))
   iterate 2 refine ZA ?_
   refine ZFa 0 ?_
   refine ZFa 3 ?_
   refine ZL ?_
   refine Zn (Zt (Zs (Zr (ZA ?_))))
   refine ZA ?_
   refine Zn (Zt ?_)
   refine wc_cond _ rfl (fun hc13 => ?_) (fun hc13 => ?_)
   ·simp only [hc13, cond_true, cond_false] at hst
    refine Zr (ZA ?_)
    refine ZA ?_
    refine wl_t (t_buildSl1 rfl rfl (fun _ => rfl) (fun _ => rfl) rfl rfl) rfl ?_
    rintro _ _ ⟨b74, rfl, rfl⟩
    refine wl_t (t_callS (runF K X (((R.wd l).wt ⟨5, 0⟩).wfl fl)) rfl (fun _ _ => rfl) Zi (fun w hi hin => push_ok K X (((R.wd l).wt ⟨5, 0⟩).wfl fl) _ 1 1 [v] (show l.length + 1 ≤ 1000000 by omega) w hin (fun w' hk => hi.rdKs Zi Zh hk))) rfl ?_
    rintro _ _ ⟨_, ⟨A', c', rfl, rfl⟩, rfl⟩
    refine Zn (Zo (Zt (Zs (Zr (ZA ?_)))))
    refine Zn (Zt (Ze (ret1 (cs' := [row _ _ _, slv _ _ _ _ _ _, slv _ _ _ _ _ _]) (.inl rfl) Zu rfl rfl ?_)))
    rw [hst]
    exact ⟨⟨_, _, _, _⟩, rfl, rfl⟩
   simp only [hc13, cond_true, cond_false] at hst
   refine Zc (Zo (Zt (Zs (Zr (ZA ?_)))))
   refine Zn (Zt (Ze (ret1 (cs' := [row _ _ _, slv _ _ _ _ _ _, slv _ _ _ _ _ _]) (.inl rfl) Zu rfl rfl ?_)))
   rw [hst]
   exact ⟨⟨_, _, _, _⟩, rfl, rfl⟩
  obtain rfl : ok = true := (by simpa using hc10)
  refine Zc (Zt (Zs (Zr (ZA ?_))))
  iterate 2 refine ZA ?_
  refine ZFa 0 ?_
  refine ZFa 3 ?_
  refine ZL ?_
  refine Zn (Zt (Zs (Zr (ZA ?_))))
  refine ZA ?_
  refine Zn (Zt ?_)
  refine wc_cond _ rfl (fun hc13 => ?_) (fun hc13 => ?_)
  ·simp only [hc13, cond_true, cond_false] at hst
   refine Zr (ZA ?_)
   refine ZA ?_
   refine wl_t (t_buildSl1 rfl rfl (fun _ => rfl) (fun _ => rfl) rfl rfl) rfl ?_
   rintro _ _ ⟨b74, rfl, rfl⟩
   refine wl_t (t_callS (runF K X ((R.wd l).wfl fl)) rfl (fun _ _ => rfl) Zi (fun w hi hin => push_ok K X ((R.wd l).wfl fl) _ 1 1 [v] (show l.length + 1 ≤ 1000000 by omega) w hin (fun w' hk => hi.rdKs Zi Zh hk))) rfl ?_
   rintro _ _ ⟨_, ⟨A', c', rfl, rfl⟩, rfl⟩
   refine Zn (Zo (Zt (Zs (Zr (ZA ?_)))))
   refine Zn (Zt (Ze (ret1 (cs' := [row _ _ _, slv _ _ _ _ _ _, slv _ _ _ _ _ _]) (.inl rfl) Zu rfl rfl ?_)))
   rw [hst]
   exact ⟨⟨_, _, _, _⟩, rfl, rfl⟩
  simp only [hc13, cond_true, cond_false] at hst
  refine Zc (Zo (Zt (Zs (Zr (ZA ?_)))))
  refine Zn (Zt (Ze (ret1 (cs' := [row _ _ _, slv _ _ _ _ _ _, slv _ _ _ _ _ _]) (.inl rfl) Zu rfl rfl ?_)))
  rw [hst]
  exact ⟨⟨_, _, _, _⟩, rfl, rfl⟩
 refine Zs (Zr (ZA ?_))
 iterate 2 refine ZA ?_
 refine Zn (Zt ?_)
 refine wc_cond _ rfl (fun hc15 => ?_) (fun hc15 => ?_)
 ·have hst : reckonTo op n R = (true, (R.pushR R.s.pc).wpc th) := (by simp only [reckonTo, *, cond_true, cond_false])
  refine Zs (wc_draw ⟨fun j => List.elem j [12, 16], []⟩ Zk ?_)
  refine ZE 0 ?_
  refine ZE 1 ?_
  refine ZE 2 ?_
  refine ZFe 3 0 ?_
  refine ZFe 4 2 ?_
  refine ZG 5 ?_
  refine ZE 6 ?_
  refine ZE 7 ?_
  refine ZFe 8 0 ?_
  refine ZFe 9 0 ?_
  refine wa_1 10 Zk ?_
  refine wi_yn rfl (y_load (fun _ => rfl) (Zv rfl)) (row_cell Zh rfl) rfl ?_
  refine wa_1 11 Zk ?_
  refine wi_t rfl rfl (t_buildSl1 rfl rfl (fun _ => rfl) (fun _ => rfl) rfl rfl) (fun _ _ _ _ _ _ _ h => by cases h) rfl ?_
  rintro _ _ ⟨b90, rfl, rfl⟩
  refine wa_1 12 Zk ?_
  refine wi_t rfl rfl (t_append (e := 24) (sz := 1) (bytes := 4) rfl rfl Za rfl rfl (fun w hi => hi.rd (show Has _ (slv 24 1 (some ⟨b90, 0, none⟩) 1 1 (ints .u32 [R.s.pc])) from Zh)) ints_one (by simp only [maxLen]; omega) (by omega)) (fun _ _ _ _ _ _ _ h => by cases h) rfl ?_
  rintro _ _ ⟨A', c', rfl, rfl⟩
  refine ZE 13 ?_
  refine ZFe 14 0 ?_
  refine ZFe 15 2 ?_
  refine wa_1 16 Zk ?_
  refine ZQ ?_
  refine wa_done Zk ?_
  refine Zt (Zr (ZA ?_))
  iterate 2 refine ZA ?_
  refine ZFa 0 ?_
  refine ZFa 0 ?_
  refine ZL ?_
  refine Zn (Zo (Zt (Zs (Zr (ZA ?_)))))
  refine Zn (Zt (Ze (ret1 (cs' := [row _ _ _, slv _ _ _ _ _ _, slv _ _ _ _ _ _]) (.inl rfl) Zu rfl rfl ?_)))
  rw [hst]
  refine ⟨⟨X.Ad, X.cd, A', c'⟩, rfl, ?_⟩
  simp only [runF, runRow, slD, slR, Run.pushR, List.length_append, ints_append, List.length_cons, List.length_nil, Nat.zero_add]
 refine Zs (Zr (ZA ?_))
 iterate 2 refine ZA ?_
 refine Zn (Zt ?_)
 refine wc_cond _ rfl (fun hc18 => ?_) (fun hc18 => ?_)
 ·have hst : reckonTo op n R = (true, R.wpc th) := (by simp only [reckonTo, *, cond_true, cond_false])
  refine Zr (ZA ?_)
  iterate 2 refine ZA ?_
  refine ZFa 0 ?_
  refine ZFa 0 ?_
  refine ZL ?_
  refine Zn (Zo (Zt (Zs (Zr (ZA ?_)))))
  refine Zn (Zt (Ze (ret1 (cs' := [row _ _ _, slv _ _ _ _ _ _, slv _ _ _ _ _ _]) (.inl rfl) Zu rfl rfl ?_)))
  rw [hst]
  exact ⟨⟨_, _, _, _⟩, rfl, rfl⟩
 refine Zs (Zr (ZA ?_))
 iterate 2 refine ZA ?_
 refine Zn (Zt ?_)
 refine wc_cond _ rfl (fun hc20 => ?_) (fun hc20 => ?_)
 ·obtain rfl := beqZ hc20
  obtain ⟨R, l, x, rfl⟩ := Run.snocR (show 1 ≤ R.s.r.length from hnr)
  have hst : reckonTo 39 n (R.wr (l ++ [x])) = (true, (R.wr l).wpc x) := (by show (_, _) = _; rw [Run.popR_wr, Run.topR_wr])
  refine Zr (ZA ?_)
  refine ZA ?_
  refine wl_t (t_callS (runF K X (R.wr (l ++ [x]))) rfl (fun _ _ => rfl) Zi (fun w hi hin => popr_ok K X R l x w hin)) rfl ?_
  rintro _ _ ⟨_, ⟨rfl, rfl⟩, rfl⟩
  refine ZA ?_
  refine ZFa 0 ?_
  refine ZFa 0 ?_
  refine ZL ?_
  refine Zn (Zo (Zt (Zs (Zr (ZA ?_)))))
  refine Zn (Zt (Ze (ret1 (cs' := [row _ _ _, slv _ _ _ _ _ _, slv _ _ _ _ _ _]) (.inl rfl) Zu rfl rfl ?_)))
  rw [hst]
  exact ⟨⟨_, _, _, _⟩, rfl, rfl⟩
 refine Zs (Zr (ZA ?_))
 iterate 2 refine ZA ?_
 refine Zn (Zt ?_)
 refine wc_cond _ rfl (fun hc22 => ?_) (fun hc22 => ?_)
 ·obtain rfl := beqZ hc22
  obtain ⟨R, l, x, rfl⟩ := Run.snoc (show 1 ≤ R.s.d.length from hn)
  have hst : reckonTo 40 n (R.wd (l ++ [x])) = (true, (R.wd l).wpc x) := (by show (_, _) = _; rw [Run.pop_wd, Run.top_wd])
  refine Zr (ZA ?_)
  refine ZA ?_
  refine wl_t (t_callS (runF K X (R.wd (l ++ [x]))) rfl (fun _ _ => rfl) Zi (fun w hi hin => pop_ok K X R l x w hin)) rfl ?_
  rintro _ _ ⟨_, ⟨rfl, rfl⟩, rfl⟩
  refine ZA ?_
  refine ZFa 0 ?_
  refine ZFa 0 ?_
  refine ZL ?_
  refine Zn (Zo (Zt (Zs (Zr (ZA ?_)))))
  refine Zn (Zt (Ze (ret1 (cs' := [row _ _ _, slv _ _ _ _ _ _, slv _ _ _ _ _ _]) (.inl rfl) Zu rfl rfl ?_)))
  rw [hst]
  exact ⟨⟨_, _, _, _⟩, rfl, rfl⟩
 have hst : reckonTo op n R = ((arHolds op R.s.flags).2, bif (arHolds op R.s.flags).1 then R.wpc th else R) := (by simp only [reckonTo, *, cond_true, cond_false])
 obtain ⟨⟨g, o⟩, hq⟩ : ∃ q, arHolds op R.s.flags = q := ⟨_, rfl⟩
 rw [hq] at hst HH
 refine Zs (Zr (ZA ?_))
 iterate 2 refine ZA ?_
 refine ZFa 0 ?_
 refine ZFa 3 ?_
 refine ZC ?_
 refine ZS (fun w hi => HH w) ?_
 rintro _ _ ⟨_, ⟨rfl, rfl⟩, rfl⟩
 iterate 5 refine ZA ?_
 refine Zn (Zt (Zs (Zs (Zr (ZA ?_)))))
 refine Zn (Zt ?_)
 refine wc_cond _ rfl (fun hc4 => ?_) (fun hc4 => ?_)
 ·obtain rfl : g = true := hc4
  refine Zr (ZA ?_)
  iterate 2 refine ZA ?_
  refine ZFa 0 ?_
  refine ZFa 0 ?_
  refine ZL ?_
  refine Zn (Zt (Zs (Zr (ZA ?_))))
  refine ZA ?_
  refine Zn (Zt (Ze (Zq (Zw (ret1 (cs' := [row _ _ _, slv _ _ _ _ _ _, slv _ _ _ _ _ _]) (.inl rfl) Zu rfl rfl ?_)))))
  rw [hst]
  exact ⟨⟨_, _, _, _⟩, rfl, rfl⟩
 obtain rfl : g = false := hc4
 refine Zc (Zt (Zs (Zr (ZA ?_))))
 refine ZA ?_
 refine Zn (Zt (Ze (Zq (Zw (ret1 (cs' := [row _ _ _, slv _ _ _ _ _ _, slv _ _ _ _ _ _]) (.inl rfl) Zu rfl rfl ?_)))))
 rw [hst]
 exact ⟨⟨_, _, _, _⟩, rfl, rfl⟩
end Go.Proofs.YtmhpcgmjlpfheaaGreatDoor
/- What keeps an instruction from being done. -/
set_option linter.unusedSimpArgs false
set_option linter.unusedVariables false
set_option maxRecDepth 100000
namespace Go.Ink
open Go.RowKit
theorem cond_all {α : Type} (p : α → Prop) {c : Bool} {x y : α} (hx : p x) (hy : p y) : p (bif c then x else y) := by cases c <;> assumption
def NeedsLe (q : (Nat × Nat) × (Nat × Nat)) : Prop := q.1.1 ≤ 3 ∧ q.1.2 ≤ 3 ∧ q.2.1 ≤ 3 ∧ q.2.2 ≤ 3
theorem needs_le (op : Int) : NeedsLe (opNeeds op) := by
 unfold opNeeds
 repeat (refine cond_all NeedsLe ⟨by decide, by decide, by decide, by decide⟩ ?_)
 exact ⟨by decide, by decide, by decide, by decide⟩
def needOf (s : St) (q : (Nat × Nat) × (Nat × Nat)) : Int :=
 bif decide ((s.d.length : Int) < (q.1.1 : Int)) || decide ((s.r.length : Int) < (q.2.1 : Int)) then 3 else
 bif decide (16 < (s.d.length : Int) - (q.1.1 : Int) + (q.1.2 : Int)) || decide (16 < (s.r.length : Int) - (q.2.1 : Int) + (q.2.2 : Int)) then 4 else 0
def checkOf (s : St) (op n : Int) : Int :=
 bif !opRight op n then 1 else bif opSuper op && !s.super then 2 else bif op == 66 && !(s.get n).2 then 1 else bif op == 67 && !(s.set n 0).2 then 1 else needOf s (opNeeds op)
end Go.Ink
namespace Go.Proofs.YtmhpcgmjlpfheaaGreatDoor
open Go.RowKit Go.Ink
attribute [local irreducible] OpY GuardIs

set_option maxHeartbeats 1000000 in
theorem check_ok (s : St) (Ad Ar : Option Addr) (cd cr : Nat) (op n : Int) (hu : u32 n) (w : World) (h : RdSt w s Ad Ar cd cr) :
  Ctr Tryz.prog 149 [sv s Ad cd Ar cr, .agg #[.int .i64 op, .int .u32 n]] w [] (fun v cs => v = .int .i64 (checkOf s op n) ∧ cs = []) := by
 have hu1 := hu.1
 have hu2 := hu.2
 have hD := h.hd
 have hR := h.hr
 have HR := gright_ok op n
 have HS := gsuper_ok op
 have HN := needs_ok op
 have HG := get_ok s (.slice Ad s.d.length cd) (.slice Ar s.r.length cr) n
 have HE := set_ok s Ad Ar cd cr n 0
 obtain ⟨q1, hq1⟩ : ∃ q, opRight op n = q := ⟨_, rfl⟩
 obtain ⟨q2, hq2⟩ : ∃ q, opSuper op = q := ⟨_, rfl⟩
 obtain ⟨⟨g0, g⟩, hq3⟩ : ∃ q, s.get n = q := ⟨_, rfl⟩
 obtain ⟨⟨e0, e⟩, hq4⟩ : ∃ q, s.set n 0 = q := ⟨_, rfl⟩
 have hle := needs_le op
 unfold checkOf
 rw [hq1] at HR ⊢
 rw [hq2] at HS ⊢
 rw [hq3] at HG ⊢
 rw [hq4] at HE ⊢
 obtain ⟨⟨⟨a, b⟩, ⟨c, d⟩⟩, hq5⟩ : ∃ q, opNeeds op = q := ⟨_, rfl⟩
 rw [hq5] at HN hle ⊢
 obtain ⟨ha, hb, hc, hd⟩ := hle
 have ha : a ≤ 3 := ha
 have hb : b ≤ 3 := hb
 have hc : c ≤ 3 := hc
 have hd : d ≤ 3 := hd
 refine fn_ctr Tryz.func149 rfl Tryz.ntmps149 rfl (Inv.start w) ?_
 refine Zs (Zr (ZO fun b2 => ?_))
 refine ZO fun b3 => ?_
 refine ZA ?_
 refine Zn (Zt (Zs (Zx (Zs (Zr (wl_loadRow Zh (fun _ => rfl) (fun _ => rfl) (Zv rfl) rfl ?_))))))
 refine ZS (fun w hi => HR w) ?_
 rintro _ _ ⟨_, ⟨rfl, rfl⟩, rfl⟩
 iterate 2 refine ZA ?_
 refine Zn (Zt ?_)
 refine wc_cond _ rfl (fun hc1 => ?_) (fun hc1 => ?_)
 ·refine Zs (Zr (ZA ?_))
  refine Zn (Zt (Ze (Zq (Zw (ret1 (cs' := []) (.inl rfl) Zu rfl rfl ?_)))))
  refine ⟨?_, rfl⟩
  simp only [needOf, *, cond_true, cond_false]
 refine Zs (Zr (ZFa 0 ?_))
 refine ZC ?_
 refine ZS (fun w hi => HS w) ?_
 rintro _ _ ⟨_, ⟨rfl, rfl⟩, rfl⟩
 refine ZA ?_
 refine ZFb 4 ?_
 refine ZD ?_
 refine ZB ?_
 iterate 2 refine ZA ?_
 refine Zn (Zt ?_)
 refine wc_cond _ rfl (fun hc3 => ?_) (fun hc3 => ?_)
 ·refine Zs (Zr (ZA ?_))
  refine Zn (Zt (Ze (Zq (Zw (ret1 (cs' := []) (.inl rfl) Zu rfl rfl ?_)))))
  refine ⟨?_, rfl⟩
  simp only [needOf, *, cond_true, cond_false]
 refine Zc (Zo (Zt (Zs (Zs (Zr (wl_loadRow Zh (fun _ => rfl) (fun _ => rfl) (Zv rfl) rfl ?_))))))
 refine ZFa 1 ?_
 refine ZC ?_
 refine Zy (y_conv rfl rfl (Zv rfl) Zl) ?_
 refine ZS (fun w hi => HG w) ?_
 rintro _ _ ⟨_, ⟨rfl, rfl⟩, rfl⟩
 iterate 5 refine ZA ?_
 refine Zn (Zt (Zs (Zr (ZFa 0 ?_))))
 refine ZC ?_
 iterate 2 refine ZA ?_
 iterate 2 refine ZB ?_
 refine ZA ?_
 refine Zn (Zt ?_)
 refine wc_cond _ rfl (fun hc6 => ?_) (fun hc6 => ?_)
 ·refine Zs (Zr (ZA ?_))
  refine Zn (Zt (Ze (Zw (ret1 (cs' := []) (.inl rfl) Zu rfl rfl ?_))))
  refine ⟨?_, rfl⟩
  simp only [needOf, *, cond_true, cond_false]
 refine Zc (Zt (Zs (Zs (Zr (wl_loadRow Zh (fun _ => rfl) (fun _ => rfl) (Zv rfl) rfl ?_)))))
 refine ZFa 1 ?_
 refine ZC ?_
 refine Zy (y_conv rfl rfl (Zv rfl) Zl) ?_
 refine ZS (fun w hi => HE w (h.oldN hi)) ?_
 rintro _ _ ⟨_, ⟨A1, c1, A2, c2, rfl, rfl⟩, rfl⟩
 iterate 3 refine ZA ?_
 refine ZN fun b7 => ?_
 refine ZM ?_
 refine ZA ?_
 refine Zn (Zt (Zs (Zr (ZFa 0 ?_))))
 refine ZC ?_
 iterate 2 refine ZA ?_
 iterate 2 refine ZB ?_
 refine ZA ?_
 refine Zn (Zt ?_)
 refine wc_cond _ rfl (fun hc9 => ?_) (fun hc9 => ?_)
 ·refine Zs (Zr (ZA ?_))
  refine Zn (Zt (Ze (Zw (ret1 (cs' := []) (.inl rfl) Zu rfl rfl ?_))))
  refine ⟨?_, rfl⟩
  simp only [needOf, *, cond_true, cond_false]
 refine Zc (Zt (Zs (Zr (ZFa 0 ?_))))
 refine ZC ?_
 refine ZS (fun w hi => HN w) ?_
 rintro _ _ ⟨_, ⟨rfl, rfl⟩, rfl⟩
 iterate 9 refine ZA ?_
 refine Zn (Zt (Zs (Zx (Zs (Zr (ZFa 1 ?_))))))
 refine ZC ?_
 iterate 4 refine ZA ?_
 refine ZFb 2 ?_
 refine ZD ?_
 iterate 3 refine ZB ?_
 iterate 2 refine ZA ?_
 refine Zn (Zt ?_)
 refine wc_cond _ rfl (fun hc12 => ?_) (fun hc12 => ?_)
 ·refine Zs (Zr (ZA ?_))
  refine Zn (Zt (Ze (Zq (Zw (ret1 (cs' := []) (.inl rfl) Zu rfl rfl ?_)))))
  refine ⟨?_, rfl⟩
  simp only [needOf, *, cond_true, cond_false]
 refine Zs (Zr (ZFa 1 ?_))
 refine ZC ?_
 iterate 2 refine ZA ?_
 refine Zy (y_sub (Zv rfl) (Zv rfl) Zl) ?_
 refine ZA ?_
 refine Zy (y_add (Zv rfl) (Zv rfl) Zl) ?_
 iterate 2 refine ZA ?_
 refine ZFb 2 ?_
 refine ZD ?_
 iterate 2 refine ZB ?_
 refine Zyn rfl rfl (y_sub (ev_g rfl) (ev_g rfl) Zl) ?_
 refine ZB ?_
 refine Zyn rfl rfl (y_add (ev_g rfl) (ev_g rfl) Zl) ?_
 refine ZB ?_
 iterate 2 refine ZA ?_
 refine Zn (Zt ?_)
 refine wc_cond _ rfl (fun hc14 => ?_) (fun hc14 => ?_)
 ·refine Zs (Zr (ZA ?_))
  refine Zn (Zt (Ze (Zq (Zw (ret1 (cs' := []) (.inl rfl) Zu rfl rfl ?_)))))
  refine ⟨?_, rfl⟩
  simp only [needOf, *, cond_true, cond_false]
 refine Zc (Zo (Zt (Zs (Zr (ZA ?_)))))
 refine Zn (Zt (Ze (ret1 (cs' := []) (.inl rfl) Zu rfl rfl ?_)))
 refine ⟨?_, rfl⟩
 simp only [needOf, *, cond_true, cond_false]
end Go.Proofs.YtmhpcgmjlpfheaaGreatDoor
/- An instruction that is being done: where a whole word is. -/
set_option linter.unusedSimpArgs false
set_option linter.unusedVariables false
set_option maxRecDepth 100000
namespace Go.Ink
open Go.RowKit
def Run.sp (R : Run) : Sp := ⟨R.s.paging, R.s.super, R.s.root.toNat⟩
abbrev Run.wdv (R : Run) (t : Tr) (b : Bool) : Run := ⟨R.s, R.count, t, b⟩
structure Whole where
 p : Int
 ok : Bool
 r : Run
 u : Mmu
def wholeTo (n : Nat) (R : Run) (U : Mmu) (va : Nat) (kind : Int) : Whole :=
 bif ((va % 4 : Nat) : Int) != 0 then ⟨0, false, R.wt ⟨6, va⟩, U⟩ else
 ⟨(placeTo n U R.sp va kind).1.1, (placeTo n U R.sp va kind).1.2.cause == 0, R.wdv (placeTo n U R.sp va kind).1.2 ((placeTo n U R.sp va kind).1.2.cause == 0 && decide (32768 ≤ (placeTo n U R.sp va kind).1.1)), (placeTo n U R.sp va kind).2⟩
end Go.Ink
namespace Go.Proofs.YtmhpcgmjlpfheaaGreatDoor
open Go.RowKit Go.Ink
attribute [local irreducible] OpY GuardIs

theorem space2_ok (K : RLoc) (X : SAdr) (R : Run) (hr : 0 ≤ R.s.root) (w : World) (h : (runRow K X R).ok w) :
  Ctr Tryz.prog 239 [.pointer (some ⟨K.br, 0, none⟩)] w [] (fun v cs => v = R.sp.v ∧ cs = []) :=
 (space_ok K X R w h).mono fun v cs ⟨h1, h2⟩ => ⟨by rw [h1, Run.sp, Sp.v, Int.toNat_of_nonneg hr], h2⟩
abbrev runCells (K : RLoc) (X : SAdr) (R : Run) : List Value := [.int .u32 R.s.pc, .slice X.Ad R.s.d.length X.cd, .slice X.Ar R.s.r.length X.cr, .int .u32 R.s.flags, .bool R.s.super, .bool R.s.paging, .bool R.s.ie, .int .u32 R.s.root, .int .u32 R.s.vec, .int .u32 R.s.epc, .int .u32 R.s.cause, .int .u32 R.s.addr, .bool R.s.esuper, .bool R.s.eie, .int .u64 R.s.count, .bool R.s.halted, .int .u64 R.count, .pointer K.u, .pointer K.b, .int .i64 R.trap.cause, .int .u32 R.trap.addr, .bool R.device]
abbrev kOf (br bu : Nat) (D : DLoc) : RLoc := ⟨br, some ⟨bu, 0, none⟩, some ⟨D.bs, 0, none⟩⟩
set_option maxHeartbeats 1000000 in
theorem whole_ok (br bu bb : Nat) (L : MLoc) (D : DLoc) (X : SAdr) (R : Run) (U : Mmu) (hT : U.t.length = 16) (hroot : u32 R.s.root) (va : Nat) (hva : va ≤ 4294967295) (kind : Int) (w : World) (hi : Inv w (blocks (runF (kOf br bu D) X R ++ uF bu bb L U)) (runF (kOf br bu D) X R ++ uF bu bb L U) w) :
  Ctr Tryz.prog 234 [.pointer (some ⟨br, 0, none⟩), .int .u32 va, .int .i64 kind] w (runF (kOf br bu D) X R ++ uF bu bb L U)
   (fun v cs => v = .tuple #[.int .u32 (wholeTo L.n R U va kind).p, .bool (wholeTo L.n R U va kind).ok] ∧ cs = runF (kOf br bu D) X (wholeTo L.n R U va kind).r ++ uF bu bb L (wholeTo L.n R U va kind).u) := by
 have hr0 := hroot.1
 have hr1 := hroot.2
 have hsr : R.sp.root ≤ 4294967295 := by show R.s.root.toNat ≤ _; omega
 have HP := uplace_ok bu bb L U hT R.sp hsr va hva kind
 have HS := space2_ok (kOf br bu D) X R hr0
 unfold wholeTo
 obtain ⟨⟨⟨p, ca, ad⟩, U'⟩, hq⟩ : ∃ q, placeTo L.n U R.sp va kind = q := ⟨_, rfl⟩
 rw [hq] at HP ⊢
 obtain ⟨S, hS⟩ : ∃ S, R.sp = S := ⟨_, rfl⟩
 rw [hS] at HP HS
 refine fn_ctr Tryz.func234 rfl Tryz.ntmps234 rfl hi ?_
 refine Zs (Zr (ZA ?_))
 refine ZA ?_
 refine Zn (Zt (Zs (Zx (Zs (Zr (ZA ?_))))))
 refine Zy (y_rem (Zv rfl) (Zv rfl) (by omega) (show _ = ((va % 4 : Nat) : Int) from by rw [Int.tmod_eq_emod_of_nonneg (by omega)]; omega)) ?_
 iterate 2 refine ZA ?_
 refine Zn (Zt ?_)
 refine wc_cond _ rfl (fun hc1 => ?_) (fun hc1 => ?_)
 ·refine Zs (Zr (ZA ?_))
  refine ZA ?_
  refine wl_t (t_callS (runF (kOf br bu D) X R) rfl (fun _ _ => rfl) Zi (fun w hi hin => fail_ok (kOf br bu D) X R 6 va w hin)) rfl ?_
  rintro _ _ ⟨_, ⟨rfl, rfl⟩, rfl⟩
  refine Zn (Zt (Zs (Zr (ZA ?_))))
  refine ZA ?_
  refine Zn (Zt (Ze (Zq (Zw (qok_pick (runF (kOf br bu D) X (R.wt ⟨6, va⟩) ++ uF bu bb L U) Zj ?_)))))
  refine ret2 (cs' := [row _ _ _, slv _ _ _ _ _ _, slv _ _ _ _ _ _, row _ _ _, exC _ _ _ _, row _ _ _]) (.inl rfl) Zu rfl rfl rfl ?_
  rw [hc1]
  exact ⟨rfl, rfl⟩
 refine Zs (Zr (ZA ?_))
 refine ZA ?_
 refine ZFa 17 ?_
 refine ZC ?_
 iterate 2 refine ZA ?_
 iterate 2 refine ZB ?_
 refine ZFb 18 ?_
 refine ZD ?_
 refine ZB ?_
 iterate 2 refine ZA ?_
 refine Zn (Zt ?_)
 refine wc_cond _ rfl (fun hc4 => ?_) (fun hc4 => ?_)
 ·exact absurd hc4 (by simp)
 refine Zc (Zo (Zt (Zs (wc_draw ⟨fun j => List.elem j [8, 14], []⟩ Zk ?_))))
 refine ZE 0 ?_
 refine ZE 1 ?_
 refine ZFe 2 17 ?_
 refine ZG 3 ?_
 refine ZE 4 ?_
 refine ZE 6 ?_
 refine ZE 7 ?_
 refine wa_2 5 12 Zk ?_ ?_
 ·refine ZT (fun w hi => HS w (hi.get Zh)) ?_
  rintro _ _ ⟨_, ⟨rfl, rfl⟩, rfl⟩
  refine wa_2 8 12 Zk ?_ ?_
  ·refine wi_t rfl rfl (t_callS (uF bu bb L U) rfl (fun _ _ => rfl) Zi (fun w hi hin => HP w hin)) (fun _ _ _ _ _ _ _ h => by cases h) rfl ?_
   rintro _ _ ⟨_, ⟨rfl, rfl⟩, rfl⟩
   refine ZE 9 ?_
   refine ZE 10 ?_
   refine ZE 11 ?_
   refine wa_1 12 Zk ?_
   refine ZP fun b9 => ?_
   refine ZE 13 ?_
   refine wa_1 14 Zk ?_
   refine ZR ?_
   refine wa_done Zk ?_
   refine Zt (Zs (Zr (ZA ?_)))
   refine wl_loadRow Zh (fun _ => rfl) (fun _ => rfl) (Zv rfl) rfl ?_
   refine ZA ?_
   refine ZFa 19 ?_
   refine wl_t0 (t_storeRX (ys := runCells (kOf br bu D) X (R.wt ⟨ca, ad⟩)) (n := 2) (vs := [.int .i64 ca, .int .u32 ad]) rfl (fun _ => rfl) rfl rfl (allT rfl) Za rfl (by simp only [List.length_cons, List.length_nil]; omega)) ?_
   rintro _ _ ⟨rfl, rfl⟩
   refine Zn (Zt (Zs (Zr (ZA ?_))))
   refine ZFa 0 ?_
   refine ZC ?_
   iterate 2 refine ZA ?_
   iterate 2 refine ZB ?_
   iterate 2 refine ZA ?_
   refine ZFa 21 ?_
   refine ZL ?_
   refine Zn (Zt (Zs (wc_draw ⟨fun j => List.elem j [], []⟩ Zk ?_)))
   refine ZE 0 ?_
   refine ZFe 1 0 ?_
   refine ZG 2 ?_
   refine ZE 3 ?_
   refine ZE 4 ?_
   refine ZE 5 ?_
   refine wa_done Zk ?_
   refine Zt (Ze (qok_pick (runF (kOf br bu D) X (R.wdv ⟨ca, ad⟩ (ca == 0 && decide (32768 ≤ p))) ++ uF bu bb L U') Zj ?_))
   refine ret2 (cs' := [row _ _ _, slv _ _ _ _ _ _, slv _ _ _ _ _ _, row _ _ _, exC _ _ _ _, row _ _ _]) (.inl rfl) Zu rfl rfl rfl ?_
   rw [hc1]
   exact ⟨rfl, rfl⟩
  refine ZP fun b9 => ?_
  refine wa_1 8 Zk ?_
  refine wi_t rfl rfl (t_callS (uF bu bb L U) rfl (fun _ _ => rfl) Zi (fun w hi hin => HP w hin)) (fun _ _ _ _ _ _ _ h => by cases h) rfl ?_
  rintro _ _ ⟨_, ⟨rfl, rfl⟩, rfl⟩
  refine ZE 9 ?_
  refine ZE 10 ?_
  refine ZE 11 ?_
  refine ZE 13 ?_
  refine wa_1 14 Zk ?_
  refine ZR ?_
  refine wa_done Zk ?_
  refine Zt (Zs (Zr (ZA ?_)))
  refine wl_loadRow Zh (fun _ => rfl) (fun _ => rfl) (Zv rfl) rfl ?_
  refine ZA ?_
  refine ZFa 19 ?_
  refine wl_t0 (t_storeRX (ys := runCells (kOf br bu D) X (R.wt ⟨ca, ad⟩)) (n := 2) (vs := [.int .i64 ca, .int .u32 ad]) rfl (fun _ => rfl) rfl rfl (allT rfl) Za rfl (by simp only [List.length_cons, List.length_nil]; omega)) ?_
  rintro _ _ ⟨rfl, rfl⟩
  refine Zn (Zt (Zs (Zr (ZA ?_))))
  refine ZFa 0 ?_
  refine ZC ?_
  iterate 2 refine ZA ?_
  iterate 2 refine ZB ?_
  iterate 2 refine ZA ?_
  refine ZFa 21 ?_
  refine ZL ?_
  refine Zn (Zt (Zs (wc_draw ⟨fun j => List.elem j [], []⟩ Zk ?_)))
  refine ZE 0 ?_
  refine ZFe 1 0 ?_
  refine ZG 2 ?_
  refine ZE 3 ?_
  refine ZE 4 ?_
  refine ZE 5 ?_
  refine wa_done Zk ?_
  refine Zt (Ze (qok_pick (runF (kOf br bu D) X (R.wdv ⟨ca, ad⟩ (ca == 0 && decide (32768 ≤ p))) ++ uF bu bb L U') Zj ?_))
  refine ret2 (cs' := [row _ _ _, slv _ _ _ _ _ _, slv _ _ _ _ _ _, row _ _ _, exC _ _ _ _, row _ _ _]) (.inl rfl) Zu rfl rfl rfl ?_
  rw [hc1]
  exact ⟨rfl, rfl⟩
 refine ZP fun b9 => ?_
 refine wa_1 5 Zk ?_
 refine ZT (fun w hi => HS w (hi.get Zh)) ?_
 rintro _ _ ⟨_, ⟨rfl, rfl⟩, rfl⟩
 refine wa_1 8 Zk ?_
 refine wi_t rfl rfl (t_callS (uF bu bb L U) rfl (fun _ _ => rfl) Zi (fun w hi hin => HP w hin)) (fun _ _ _ _ _ _ _ h => by cases h) rfl ?_
 rintro _ _ ⟨_, ⟨rfl, rfl⟩, rfl⟩
 refine ZE 9 ?_
 refine ZE 10 ?_
 refine ZE 11 ?_
 refine ZE 13 ?_
 refine wa_1 14 Zk ?_
 refine ZR ?_
 refine wa_done Zk ?_
 refine Zt (Zs (Zr (ZA ?_)))
 refine wl_loadRow Zh (fun _ => rfl) (fun _ => rfl) (Zv rfl) rfl ?_
 refine ZA ?_
 refine ZFa 19 ?_
 refine wl_t0 (t_storeRX (ys := runCells (kOf br bu D) X (R.wt ⟨ca, ad⟩)) (n := 2) (vs := [.int .i64 ca, .int .u32 ad]) rfl (fun _ => rfl) rfl rfl (allT rfl) Za rfl (by simp only [List.length_cons, List.length_nil]; omega)) ?_
 rintro _ _ ⟨rfl, rfl⟩
 refine Zn (Zt (Zs (Zr (ZA ?_))))
 refine ZFa 0 ?_
 refine ZC ?_
 iterate 2 refine ZA ?_
 iterate 2 refine ZB ?_
 iterate 2 refine ZA ?_
 refine ZFa 21 ?_
 refine ZL ?_
 refine Zn (Zt (Zs (wc_draw ⟨fun j => List.elem j [], []⟩ Zk ?_)))
 refine ZE 0 ?_
 refine ZFe 1 0 ?_
 refine ZG 2 ?_
 refine ZE 3 ?_
 refine ZE 4 ?_
 refine ZE 5 ?_
 refine wa_done Zk ?_
 refine Zt (Ze (qok_pick (runF (kOf br bu D) X (R.wdv ⟨ca, ad⟩ (ca == 0 && decide (32768 ≤ p))) ++ uF bu bb L U') Zj ?_))
 refine ret2 (cs' := [row _ _ _, slv _ _ _ _ _ _, slv _ _ _ _ _ _, row _ _ _, exC _ _ _ _, row _ _ _]) (.inl rfl) Zu rfl rfl rfl ?_
 rw [hc1]
 exact ⟨rfl, rfl⟩
end Go.Proofs.YtmhpcgmjlpfheaaGreatDoor
/- An instruction that is being done: loads and stores. -/
set_option linter.unusedSimpArgs false
set_option linter.unusedVariables false
set_option maxRecDepth 100000
namespace Go.Ink
open Go.RowKit
theorem wholeTo_s (n : Nat) (R : Run) (U : Mmu) (va : Nat) (kind : Int) : (wholeTo n R U va kind).r.s = R.s := by unfold wholeTo; exact cond_all (fun W : Whole => W.r.s = R.s) rfl rfl
theorem wholeTo_c (n : Nat) (R : Run) (U : Mmu) (va : Nat) (kind : Int) : (wholeTo n R U va kind).r.count = R.count := by unfold wholeTo; exact cond_all (fun W : Whole => W.r.count = R.count) rfl rfl
theorem wholeTo_len (n : Nat) (R : Run) (U : Mmu) (va : Nat) (kind : Int) : (wholeTo n R U va kind).u.t.length = U.t.length := by unfold wholeTo; exact cond_all (fun W : Whole => W.u.t.length = U.t.length) rfl (placeTo_len ..)
theorem wholeTo_u (n : Nat) (R : Run) (U : Mmu) (va : Nat) (hva : va ≤ 4294967295) (kind : Int) : u32 (wholeTo n R U va kind).p := by unfold wholeTo; exact cond_all (fun W : Whole => u32 W.p) (show u32 0 from ⟨by decide, by decide⟩) (placeTo_fact n U R.sp va hva kind).1
theorem wholeTo_in (n : Nat) (hn : n ≤ 64) (R : Run) (U : Mmu) (va : Nat) (hva : va ≤ 4294967295) (kind : Int) (hk : (wholeTo n R U va kind).ok = true) (hd : (wholeTo n R U va kind).r.device = false) : (wholeTo n R U va kind).p.toNat + 4 ≤ n * 64 := by
 obtain ⟨hu, hp⟩ := placeTo_fact n U R.sp va hva kind
 unfold wholeTo at hk hd ⊢
 cases hm : (((va % 4 : Nat) : Int) != 0) with
 | true => rw [hm] at hk; cases hk
 | false =>
  rw [hm] at hk hd
  simp only [cond_false] at hk hd ⊢
  rw [hk] at hd
  simp only [Bool.true_and, decide_eq_false_iff_not] at hd
  have hc := hp (by simpa using hk)
  have h4 : va % 4 = 0 := by
   have : ((va % 4 : Nat) : Int) = 0 := by simpa using hm
   omega
  have h1 := hc.m
  have h2 := hu.1
  rcases hc.r with h3 | h3
  ·omega
  simp only [isDev, Bool.and_eq_true, decide_eq_true_eq] at h3
  omega
theorem condT {α : Type} {c : Bool} {x y : α} (h : c = true) : (bif c then x else y) = x := by rw [h]; rfl
theorem condF {α : Type} {c : Bool} {x y : α} (h : c = false) : (bif c then x else y) = y := by rw [h]; rfl
def wordOf (n : Nat) (M : Mem) (a : Nat) : Int × Bool := bif decide (a + 4 ≤ n * 64) then (wordAt M.data a, true) else (0, false)
structure Mach where
 r : Run
 u : Mmu
 d : Dev
def lodeIn (W : Whole) (d : Dev) (va : Nat) (v : Int) (o : Bool) : Mach := ⟨(bif !o then W.r.wt ⟨10, va⟩ else W.r).push [v], W.u, d⟩
/-- What an Ld does, once its address is off the stack. -/
def lodeTo (n : Nat) (R : Run) (U : Mmu) (d : Dev) (va : Nat) : Mach :=
 bif !(wholeTo n R U va 2).ok then ⟨(wholeTo n R U va 2).r, (wholeTo n R U va 2).u, d⟩ else
 bif (wholeTo n R U va 2).r.device then lodeIn (wholeTo n R U va 2) (devLoad d (devK (wholeTo n R U va 2).p.toNat) (wholeTo n R U va 2).r.count).2 va (devLoad d (devK (wholeTo n R U va 2).p.toNat) (wholeTo n R U va 2).r.count).1.1 (devLoad d (devK (wholeTo n R U va 2).p.toNat) (wholeTo n R U va 2).r.count).1.2
 else lodeIn (wholeTo n R U va 2) d va (wordOf n (wholeTo n R U va 2).u.m (wholeTo n R U va 2).p.toNat).1 (wordOf n (wholeTo n R U va 2).u.m (wholeTo n R U va 2).p.toNat).2
/-- What an St does, once its address and its word are off the stack. -/
def stowTo (n : Nat) (R : Run) (U : Mmu) (d : Dev) (va v : Nat) : Mach :=
 bif !(wholeTo n R U va 3).ok then ⟨(wholeTo n R U va 3).r, (wholeTo n R U va 3).u, d⟩ else
 bif (wholeTo n R U va 3).r.device then
  ⟨bif !(devStore n (wholeTo n R U va 3).u.m d (devK (wholeTo n R U va 3).p.toNat) v).1 then (wholeTo n R U va 3).r.wt ⟨10, va⟩ else (wholeTo n R U va 3).r, ⟨(devStore n (wholeTo n R U va 3).u.m d (devK (wholeTo n R U va 3).p.toNat) v).2.1, (wholeTo n R U va 3).u.t⟩, (devStore n (wholeTo n R U va 3).u.m d (devK (wholeTo n R U va 3).p.toNat) v).2.2⟩
 else ⟨(wholeTo n R U va 3).r, ⟨(wholeTo n R U va 3).u.m.putW (wholeTo n R U va 3).p.toNat v, (wholeTo n R U va 3).u.t⟩, d⟩
end Go.Ink
namespace Go.Proofs.YtmhpcgmjlpfheaaGreatDoor
open Go.RowKit Go.Ink
attribute [local irreducible] OpY GuardIs

theorem wordV_of (L : MLoc) (M : Mem) (a : Nat) : wordV L M a = .tuple #[.int .u32 (wordOf L.n M a).1, .bool (wordOf L.n M a).2] := by
 unfold wordV wordOf
 cases decide (a + 4 ≤ L.n * 64) <;> rfl
abbrev allF (br bu bb : Nat) (L : MLoc) (D : DLoc) (X : SAdr) (Y : DAdr) (m : Mach) : List Chunk := runF (kOf br bu D) X m.r ++ uF bu bb L m.u ++ busF D L.bm Y m.d
set_option maxHeartbeats 2000000 in
theorem lode_ok (br bu bb : Nat) (L : MLoc) (D : DLoc) (X : SAdr) (Y : DAdr) (R : Run) (U : Mmu) (d : Dev) (l : List Int) (va : Nat) (hva : va ≤ 4294967295) (hl : l.length ≤ 100000) (hT : U.t.length = 16) (hroot : u32 R.s.root) (hd : d.wf)
  (w : World) (hi : Inv w (blocks (allF br bu bb L D X Y ⟨R.wd (l ++ [(va : Int)]), U, d⟩)) (allF br bu bb L D X Y ⟨R.wd (l ++ [(va : Int)]), U, d⟩) w) :
  Ctr Tryz.prog 191 [.pointer (some ⟨br, 0, none⟩)] w (allF br bu bb L D X Y ⟨R.wd (l ++ [(va : Int)]), U, d⟩) (fun v cs => ∃ X' Y', v = .tuple #[] ∧ cs = allF br bu bb L D X' Y' (lodeTo L.n (R.wd l) U d va)) := by
 have HW := fun X => whole_ok br bu bb L D X (R.wd l) U hT hroot va hva 2
 have hs := wholeTo_s L.n (R.wd l) U va 2
 have hu := wholeTo_u L.n (R.wd l) U va hva 2
 unfold lodeTo
 obtain ⟨⟨p, ok, r, u⟩, hq⟩ : ∃ q, wholeTo L.n (R.wd l) U va 2 = q := ⟨_, rfl⟩
 rw [hq] at HW hs hu ⊢
 obtain ⟨pn, rfl⟩ : ∃ pn : Nat, p = pn := Int.eq_ofNat_of_zero_le hu.1
 have hpn : pn ≤ 4294967295 := by have : (pn : Int) ≤ _ := hu.2; omega
 have hs : r.s = (R.wd l).s := hs
 have hdl : r.s.d.length ≤ 100000 := by rw [hs]; exact hl
 simp only [Int.toNat_natCast]
 have HB := fun X => busload_ok D L.bm X d hd pn r.count
 obtain ⟨⟨⟨v, o⟩, d'⟩, hq2⟩ : ∃ q, devLoad d (devK pn) r.count = q := ⟨_, rfl⟩
 rw [hq2] at HB ⊢
 have HM := fun w h => rword_ok L u.m pn hpn w h
 rw [wordV_of] at HM
 obtain ⟨⟨v2, o2⟩, hq3⟩ : ∃ q, wordOf L.n u.m pn = q := ⟨_, rfl⟩
 rw [hq3] at HM ⊢
 refine fn_ctr Tryz.func191 rfl Tryz.ntmps191 rfl hi ?_
 refine Zs (Zr (ZA ?_))
 refine wl_t (t_callS (runF (kOf br bu D) X (R.wd (l ++ [(va : Int)]))) rfl (fun _ _ => rfl) Zi (fun w hi hin => pop_ok (kOf br bu D) X R l va w hin)) rfl ?_
 rintro _ _ ⟨_, ⟨rfl, rfl⟩, rfl⟩
 refine ZA ?_
 refine Zn (Zt (Zs (Zr (ZA ?_))))
 refine ZA ?_
 refine wl_t (t_callS (runF (kOf br bu D) X (R.wd l) ++ uF bu bb L U) rfl (fun _ _ => rfl) Zi (fun w hi hin => HW X w hin)) rfl ?_
 rintro _ _ ⟨_, ⟨rfl, rfl⟩, rfl⟩
 iterate 5 refine ZA ?_
 refine Zn (Zt (Zs (Zs (Zr (ZA ?_)))))
 refine ZA ?_
 refine Zn (Zt ?_)
 refine wc_cond _ rfl (fun hc2 => ?_) (fun hc2 => ?_)
 ·refine Ze (Zw (qok_pick (allF br bu bb L D X Y ⟨r, u, d⟩) Zj ?_))
  refine ret0 (cs' := [row _ _ _, slv _ _ _ _ _ _, slv _ _ _ _ _ _, row _ _ _, exC _ _ _ _, row _ _ _, row _ _ _, row _ _ _, row _ _ _, row _ _ _, slv _ _ _ _ _ _, slv _ _ _ _ _ _, row _ _ _, slv _ _ _ _ _ _]) (.inl rfl) Zu rfl ?_
  rw [hc2]
  exact ⟨X, Y, rfl, rfl⟩
 refine Zc (Zt (Zs (Zr (ZA ?_))))
 refine Zn (Zt (Zs (Zs (Zr (ZA ?_)))))
 refine ZA ?_
 refine ZFa 21 ?_
 refine ZC ?_
 refine Zn (Zt ?_)
 refine wc_cond _ rfl (fun hc4 => ?_) (fun hc4 => ?_)
 ·refine wc_draw ⟨fun j => List.elem j [9], []⟩ Zk ?_
  refine ZE 0 ?_
  refine ZE 1 ?_
  refine ZFe 2 18 ?_
  refine ZG 3 ?_
  refine ZE 4 ?_
  refine ZE 5 ?_
  refine ZE 6 ?_
  refine ZFe 7 16 ?_
  refine ZG 8 ?_
  refine wa_1 9 Zk ?_
  refine wi_t rfl rfl (t_callS (busF D L.bm Y d) rfl (fun _ _ => rfl) Zi (fun w hi hin => HB Y w hin)) (fun _ _ _ _ _ _ _ h => by cases h) rfl ?_
  rintro _ _ ⟨_, ⟨Y', rfl, rfl⟩, rfl⟩
  refine ZE 10 ?_
  refine ZE 11 ?_
  refine ZE 12 ?_
  refine ZE 13 ?_
  refine ZE 14 ?_
  refine wa_done Zk ?_
  refine Zt (Zs (Zs (Zr (ZA ?_))))
  refine ZA ?_
  refine Zn (Zt ?_)
  refine wc_cond _ rfl (fun hc7 => ?_) (fun hc7 => ?_)
  ·refine Zr (ZA ?_)
   refine ZA ?_
   refine wl_t (t_callS (runF (kOf br bu D) X r) rfl (fun _ _ => rfl) Zi (fun w hi hin => fail_ok (kOf br bu D) X r 10 va w hin)) rfl ?_
   rintro _ _ ⟨_, ⟨rfl, rfl⟩, rfl⟩
   refine Zn (Zt (Zr (ZA ?_)))
   refine ZA ?_
   refine wl_t (t_buildSl1 rfl rfl (fun _ => rfl) (fun _ => rfl) rfl rfl) rfl ?_
   rintro _ _ ⟨b50, rfl, rfl⟩
   refine wl_t (t_callS (runF (kOf br bu D) X (r.wt ⟨10, va⟩)) rfl (fun _ _ => rfl) Zi (fun w hi hin => push_ok (kOf br bu D) X (r.wt ⟨10, va⟩) _ 1 1 [v] (show r.s.d.length + 1 ≤ 1000000 by omega) w hin (fun w' hk => hi.rdKs Zi Zh hk))) rfl ?_
   rintro _ _ ⟨_, ⟨A', c', rfl, rfl⟩, rfl⟩
   refine Zn (qok_pick (allF br bu bb L D ⟨A', c', X.Ar, X.cr⟩ Y' ⟨(r.wt ⟨10, va⟩).wd (r.s.d ++ [v]), u, d'⟩) Zj ?_)
   refine ret0 (cs' := [row _ _ _, slv _ _ _ _ _ _, slv _ _ _ _ _ _, row _ _ _, exC _ _ _ _, row _ _ _, row _ _ _, row _ _ _, row _ _ _, row _ _ _, slv _ _ _ _ _ _, slv _ _ _ _ _ _, row _ _ _, slv _ _ _ _ _ _]) (.inr rfl) Zu rfl ?_
   rw [condF hc2, condT hc4, lodeIn, condT hc7]
   exact ⟨⟨A', c', X.Ar, X.cr⟩, Y', rfl, rfl⟩
  refine Zc (Zt (Zr (ZA ?_)))
  refine ZA ?_
  refine wl_t (t_buildSl1 rfl rfl (fun _ => rfl) (fun _ => rfl) rfl rfl) rfl ?_
  rintro _ _ ⟨b50, rfl, rfl⟩
  refine wl_t (t_callS (runF (kOf br bu D) X r) rfl (fun _ _ => rfl) Zi (fun w hi hin => push_ok (kOf br bu D) X r _ 1 1 [v] (show r.s.d.length + 1 ≤ 1000000 by omega) w hin (fun w' hk => hi.rdKs Zi Zh hk))) rfl ?_
  rintro _ _ ⟨_, ⟨A', c', rfl, rfl⟩, rfl⟩
  refine Zn (qok_pick (allF br bu bb L D ⟨A', c', X.Ar, X.cr⟩ Y' ⟨r.wd (r.s.d ++ [v]), u, d'⟩) Zj ?_)
  refine ret0 (cs' := [row _ _ _, slv _ _ _ _ _ _, slv _ _ _ _ _ _, row _ _ _, exC _ _ _ _, row _ _ _, row _ _ _, row _ _ _, row _ _ _, row _ _ _, slv _ _ _ _ _ _, slv _ _ _ _ _ _, row _ _ _, slv _ _ _ _ _ _]) (.inr rfl) Zu rfl ?_
  rw [condF hc2, condT hc4, lodeIn, condF hc7]
  exact ⟨⟨A', c', X.Ar, X.cr⟩, Y', rfl, rfl⟩
 refine Zr (ZA ?_)
 refine ZA ?_
 refine ZFa 17 ?_
 refine ZC ?_
 refine ZS (fun w hi => umem_ok bu L.bm bb w (hi.get Zh)) ?_
 rintro _ _ ⟨_, ⟨rfl, rfl⟩, rfl⟩
 refine ZA ?_
 refine ZS (fun w hi => HM w (hi.get Zh)) ?_
 rintro _ _ ⟨_, ⟨rfl, rfl⟩, rfl⟩
 iterate 5 refine ZA ?_
 refine Zn (Zt (Zs (Zs (Zr (ZA ?_)))))
 refine ZA ?_
 refine Zn (Zt ?_)
 refine wc_cond _ rfl (fun hc7 => ?_) (fun hc7 => ?_)
 ·refine Zr (ZA ?_)
  refine ZA ?_
  refine wl_t (t_callS (runF (kOf br bu D) X r) rfl (fun _ _ => rfl) Zi (fun w hi hin => fail_ok (kOf br bu D) X r 10 va w hin)) rfl ?_
  rintro _ _ ⟨_, ⟨rfl, rfl⟩, rfl⟩
  refine Zn (Zt (Zr (ZA ?_)))
  refine ZA ?_
  refine wl_t (t_buildSl1 rfl rfl (fun _ => rfl) (fun _ => rfl) rfl rfl) rfl ?_
  rintro _ _ ⟨b50, rfl, rfl⟩
  refine wl_t (t_callS (runF (kOf br bu D) X (r.wt ⟨10, va⟩)) rfl (fun _ _ => rfl) Zi (fun w hi hin => push_ok (kOf br bu D) X (r.wt ⟨10, va⟩) _ 1 1 [v2] (show r.s.d.length + 1 ≤ 1000000 by omega) w hin (fun w' hk => hi.rdKs Zi Zh hk))) rfl ?_
  rintro _ _ ⟨_, ⟨A', c', rfl, rfl⟩, rfl⟩
  refine Zn (qok_pick (allF br bu bb L D ⟨A', c', X.Ar, X.cr⟩ Y ⟨(r.wt ⟨10, va⟩).wd (r.s.d ++ [v2]), u, d⟩) Zj ?_)
  refine ret0 (cs' := [row _ _ _, slv _ _ _ _ _ _, slv _ _ _ _ _ _, row _ _ _, exC _ _ _ _, row _ _ _, row _ _ _, row _ _ _, row _ _ _, row _ _ _, slv _ _ _ _ _ _, slv _ _ _ _ _ _, row _ _ _, slv _ _ _ _ _ _]) (.inr rfl) Zu rfl ?_
  rw [condF hc2, condF hc4, lodeIn, condT hc7]
  exact ⟨⟨A', c', X.Ar, X.cr⟩, Y, rfl, rfl⟩
 refine Zc (Zt (Zr (ZA ?_)))
 refine ZA ?_
 refine wl_t (t_buildSl1 rfl rfl (fun _ => rfl) (fun _ => rfl) rfl rfl) rfl ?_
 rintro _ _ ⟨b50, rfl, rfl⟩
 refine wl_t (t_callS (runF (kOf br bu D) X r) rfl (fun _ _ => rfl) Zi (fun w hi hin => push_ok (kOf br bu D) X r _ 1 1 [v2] (show r.s.d.length + 1 ≤ 1000000 by omega) w hin (fun w' hk => hi.rdKs Zi Zh hk))) rfl ?_
 rintro _ _ ⟨_, ⟨A', c', rfl, rfl⟩, rfl⟩
 refine Zn (qok_pick (allF br bu bb L D ⟨A', c', X.Ar, X.cr⟩ Y ⟨r.wd (r.s.d ++ [v2]), u, d⟩) Zj ?_)
 refine ret0 (cs' := [row _ _ _, slv _ _ _ _ _ _, slv _ _ _ _ _ _, row _ _ _, exC _ _ _ _, row _ _ _, row _ _ _, row _ _ _, row _ _ _, row _ _ _, slv _ _ _ _ _ _, slv _ _ _ _ _ _, row _ _ _, slv _ _ _ _ _ _]) (.inr rfl) Zu rfl ?_
 rw [condF hc2, condF hc4, lodeIn, condF hc7]
 exact ⟨⟨A', c', X.Ar, X.cr⟩, Y, rfl, rfl⟩
set_option maxHeartbeats 2000000 in
theorem stow_ok (br bu bb : Nat) (L : MLoc) (D : DLoc) (X : SAdr) (Y : DAdr) (R : Run) (U : Mmu) (d : Dev) (l : List Int) (va v : Nat) (hva : va ≤ 4294967295) (hv : v ≤ 4294967295) (hT : U.t.length = 16) (hroot : u32 R.s.root) (hd : d.wf) (ho : d.out.length ≤ 1000000000)
  (w : World) (hi : Inv w (blocks (allF br bu bb L D X Y ⟨R.wd ((l ++ [(v : Int)]) ++ [(va : Int)]), U, d⟩)) (allF br bu bb L D X Y ⟨R.wd ((l ++ [(v : Int)]) ++ [(va : Int)]), U, d⟩) w) :
  Ctr Tryz.prog 192 [.pointer (some ⟨br, 0, none⟩)] w (allF br bu bb L D X Y ⟨R.wd ((l ++ [(v : Int)]) ++ [(va : Int)]), U, d⟩) (fun x cs => ∃ Y', x = .tuple #[] ∧ cs = allF br bu bb L D X Y' (stowTo L.n (R.wd l) U d va v)) := by
 have HW := whole_ok br bu bb L D X (R.wd l) U hT hroot va hva 3
 have hu := wholeTo_u L.n (R.wd l) U va hva 3
 obtain ⟨n1, n64, _⟩ := mem_n (hi.ok (memC L U.m) (by simp))
 have hin4 := wholeTo_in L.n n64 (R.wd l) U va hva 3
 unfold stowTo
 obtain ⟨⟨p, ok, r, u⟩, hq⟩ : ∃ q, wholeTo L.n (R.wd l) U va 3 = q := ⟨_, rfl⟩
 rw [hq] at HW hu hin4 ⊢
 obtain ⟨pn, rfl⟩ : ∃ pn : Nat, p = pn := Int.eq_ofNat_of_zero_le hu.1
 have hpn : pn ≤ 4294967295 := by have : (pn : Int) ≤ _ := hu.2; omega
 obtain ⟨um, ut⟩ := u
 simp only [Int.toNat_natCast] at hin4 ⊢
 have HB := busstore_ok D L um Y d hd ho pn v r.count
 obtain ⟨⟨o, M', d'⟩, hq2⟩ : ∃ q, devStore L.n um d (devK pn) v = q := ⟨_, rfl⟩
 rw [hq2] at HB ⊢
 have HM := fun h => rputword_ok L um pn v h ⟨by omega, by omega⟩
 obtain ⟨M2, hq3⟩ : ∃ q, um.putW pn v = q := ⟨_, rfl⟩
 rw [hq3] at HM ⊢
 obtain ⟨tt, htt⟩ : ∃ t : Bool, t = true := ⟨_, rfl⟩
 rw [← htt] at HM
 refine fn_ctr Tryz.func192 rfl Tryz.ntmps192 rfl hi ?_
 refine Zs (Zr (ZA ?_))
 refine wl_t (t_callS (runF (kOf br bu D) X (R.wd ((l ++ [(v : Int)]) ++ [(va : Int)]))) rfl (fun _ _ => rfl) Zi (fun w hi hin => pop_ok (kOf br bu D) X R (l ++ [(v : Int)]) va w hin)) rfl ?_
 rintro _ _ ⟨_, ⟨rfl, rfl⟩, rfl⟩
 refine ZA ?_
 refine Zn (Zt (Zs (Zr (ZA ?_))))
 refine wl_t (t_callS (runF (kOf br bu D) X (R.wd (l ++ [(v : Int)]))) rfl (fun _ _ => rfl) Zi (fun w hi hin => pop_ok (kOf br bu D) X R l v w hin)) rfl ?_
 rintro _ _ ⟨_, ⟨rfl, rfl⟩, rfl⟩
 refine ZA ?_
 refine Zn (Zt (Zs (Zr (ZA ?_))))
 refine ZA ?_
 refine wl_t (t_callS (runF (kOf br bu D) X (R.wd l) ++ uF bu bb L U) rfl (fun _ _ => rfl) Zi (fun w hi hin => HW w hin)) rfl ?_
 rintro _ _ ⟨_, ⟨rfl, rfl⟩, rfl⟩
 iterate 5 refine ZA ?_
 refine Zn (Zt (Zs (Zs (Zr (ZA ?_)))))
 refine ZA ?_
 refine Zn (Zt ?_)
 refine wc_cond _ rfl (fun hc3 => ?_) (fun hc3 => ?_)
 ·refine Ze (Zw (qok_pick (allF br bu bb L D X Y ⟨r, ⟨um, ut⟩, d⟩) Zj ?_))
  refine ret0 (cs' := [row _ _ _, slv _ _ _ _ _ _, slv _ _ _ _ _ _, row _ _ _, exC _ _ _ _, row _ _ _, row _ _ _, row _ _ _, row _ _ _, row _ _ _, slv _ _ _ _ _ _, slv _ _ _ _ _ _, row _ _ _, slv _ _ _ _ _ _]) (.inl rfl) Zu rfl ?_
  rw [hc3]
  exact ⟨Y, rfl, rfl⟩
 have hok : ok = true := (by simpa using hc3)
 refine Zc (Zt (Zs (Zs (Zr (ZA ?_)))))
 refine ZA ?_
 refine ZFa 21 ?_
 refine ZC ?_
 refine Zn (Zt ?_)
 refine wc_cond _ rfl (fun hc4 => ?_) (fun hc4 => ?_)
 ·refine wc_draw ⟨fun j => List.elem j [10], []⟩ Zk ?_
  refine ZE 0 ?_
  refine ZE 1 ?_
  refine ZFe 2 18 ?_
  refine ZG 3 ?_
  refine ZE 4 ?_
  refine ZE 5 ?_
  refine ZE 6 ?_
  refine ZE 7 ?_
  refine ZFe 8 16 ?_
  refine ZG 9 ?_
  refine wa_1 10 Zk ?_
  refine wi_t rfl rfl (t_callS (busF D L.bm Y d ++ [memC L um]) rfl (fun _ _ => rfl) Zi (fun w hi hin => HB w hin)) (fun _ _ _ _ _ _ _ h => by cases h) rfl ?_
  rintro _ _ ⟨_, ⟨Y', rfl, rfl⟩, rfl⟩
  refine ZE 11 ?_
  refine wa_done Zk ?_
  refine Zt (Zs (Zr (ZA ?_)))
  refine ZA ?_
  refine Zn (Zt ?_)
  refine wc_cond _ rfl (fun hc7 => ?_) (fun hc7 => ?_)
  ·refine Zr (ZA ?_)
   refine ZA ?_
   refine wl_t (t_callS (runF (kOf br bu D) X r) rfl (fun _ _ => rfl) Zi (fun w hi hin => fail_ok (kOf br bu D) X r 10 va w hin)) rfl ?_
   rintro _ _ ⟨_, ⟨rfl, rfl⟩, rfl⟩
   refine Zn (qok_pick (allF br bu bb L D X Y' ⟨r.wt ⟨10, va⟩, ⟨M', ut⟩, d'⟩) Zj ?_)
   refine ret0 (cs' := [row _ _ _, slv _ _ _ _ _ _, slv _ _ _ _ _ _, row _ _ _, exC _ _ _ _, row _ _ _, row _ _ _, row _ _ _, row _ _ _, row _ _ _, slv _ _ _ _ _ _, slv _ _ _ _ _ _, row _ _ _, slv _ _ _ _ _ _]) (.inr rfl) Zu rfl ?_
   rw [condF hc3, condT hc4, condT hc7]
   exact ⟨Y', rfl, rfl⟩
  refine Zc (qok_pick (allF br bu bb L D X Y' ⟨r, ⟨M', ut⟩, d'⟩) Zj ?_)
  refine ret0 (cs' := [row _ _ _, slv _ _ _ _ _ _, slv _ _ _ _ _ _, row _ _ _, exC _ _ _ _, row _ _ _, row _ _ _, row _ _ _, row _ _ _, row _ _ _, slv _ _ _ _ _ _, slv _ _ _ _ _ _, row _ _ _, slv _ _ _ _ _ _]) (.inr rfl) Zu rfl ?_
  rw [condF hc3, condT hc4, condF hc7]
  exact ⟨Y', rfl, rfl⟩
 have HM := HM (hin4 hok hc4)
 refine Zr (ZA ?_)
 refine ZA ?_
 refine ZFa 17 ?_
 refine ZC ?_
 refine ZS (fun w hi => umem_ok bu L.bm bb w (hi.get Zh)) ?_
 rintro _ _ ⟨_, ⟨rfl, rfl⟩, rfl⟩
 iterate 2 refine ZA ?_
 refine wl_t (t_callS ([memC L um]) rfl (fun _ _ => rfl) Zi (fun w hi hin => HM w hin)) rfl ?_
 rintro _ _ ⟨_, ⟨rfl, rfl⟩, rfl⟩
 refine ZA ?_
 refine Zn (Zt (Zs (Zr (ZA ?_))))
 refine ZA ?_
 refine Zn (Zt ?_)
 refine wc_cond _ rfl (fun hc7 => ?_) (fun hc7 => ?_)
 ·refine Zr (ZA ?_)
  refine ZA ?_
  refine wl_t (t_callS (runF (kOf br bu D) X r) rfl (fun _ _ => rfl) Zi (fun w hi hin => fail_ok (kOf br bu D) X r 10 va w hin)) rfl ?_
  rintro _ _ ⟨_, ⟨rfl, rfl⟩, rfl⟩
  refine Zn (qok_pick (allF br bu bb L D X Y ⟨r.wt ⟨10, va⟩, ⟨M2, ut⟩, d⟩) Zj ?_)
  refine ret0 (cs' := [row _ _ _, slv _ _ _ _ _ _, slv _ _ _ _ _ _, row _ _ _, exC _ _ _ _, row _ _ _, row _ _ _, row _ _ _, row _ _ _, row _ _ _, slv _ _ _ _ _ _, slv _ _ _ _ _ _, row _ _ _, slv _ _ _ _ _ _]) (.inr rfl) Zu rfl ?_
  rw [htt] at hc7
  exact absurd hc7 (by simp)
 refine Zc (qok_pick (allF br bu bb L D X Y ⟨r, ⟨M2, ut⟩, d⟩) Zj ?_)
 refine ret0 (cs' := [row _ _ _, slv _ _ _ _ _ _, slv _ _ _ _ _ _, row _ _ _, exC _ _ _ _, row _ _ _, row _ _ _, row _ _ _, row _ _ _, row _ _ _, slv _ _ _ _ _ _, slv _ _ _ _ _ _, row _ _ _, slv _ _ _ _ _ _]) (.inr rfl) Zu rfl ?_
 rw [condF hc3, condF hc4]
 exact ⟨Y, rfl, rfl⟩
end Go.Proofs.YtmhpcgmjlpfheaaGreatDoor
/- An instruction that is being done: several bytes, wherever they begin. -/
set_option linter.unusedSimpArgs false
set_option linter.unusedVariables false
set_option maxRecDepth 100000
namespace Go.Ink
open Go.RowKit
def sameL (n : Nat) (R : Run) (U : Mmu) (va k : Nat) : Run × Mmu := ((R.wt (loadTo n U R.sp va k).1.2).push [(loadTo n U R.sp va k).1.1], (loadTo n U R.sp va k).2)
def sameS (n : Nat) (R : Run) (U : Mmu) (va k : Nat) (v : Int) : Run × Mmu := (R.wt (storeTo n U R.sp va k v).1, (storeTo n U R.sp va k v).2)
end Go.Ink
namespace Go.Proofs.YtmhpcgmjlpfheaaGreatDoor
open Go.RowKit Go.Ink
attribute [local irreducible] OpY GuardIs

set_option maxHeartbeats 2000000 in
theorem someL_ok (br bu bb : Nat) (L : MLoc) (D : DLoc) (X : SAdr) (R : Run) (U : Mmu) (l : List Int) (va k : Nat) (hva : va ≤ 4294967295) (hk1 : 1 ≤ k) (hk4 : k ≤ 4) (hl : l.length ≤ 100000) (hT : U.t.length = 16) (hroot : u32 R.s.root)
  (w : World) (hi : Inv w (blocks (runF (kOf br bu D) X (R.wd (l ++ [(va : Int)])) ++ uF bu bb L U)) (runF (kOf br bu D) X (R.wd (l ++ [(va : Int)])) ++ uF bu bb L U) w) :
  Ctr Tryz.prog 193 [.pointer (some ⟨br, 0, none⟩), .int .i64 k, .bool false] w (runF (kOf br bu D) X (R.wd (l ++ [(va : Int)])) ++ uF bu bb L U)
   (fun x cs => ∃ X', x = .tuple #[] ∧ cs = runF (kOf br bu D) X' (sameL L.n (R.wd l) U va k).1 ++ uF bu bb L (sameL L.n (R.wd l) U va k).2) := by
 have hr0 := hroot.1
 have hr1 := hroot.2
 have hsr : (R.wd l).sp.root ≤ 4294967295 := by show R.s.root.toNat ≤ _; omega
 have HP := uload_ok bu bb L U hT (R.wd l).sp hsr va k hva hk1 hk4
 have HS := space2_ok (kOf br bu D) X (R.wd l) hr0
 unfold sameL
 obtain ⟨⟨⟨v, ca, ad⟩, U'⟩, hq⟩ : ∃ q, loadTo L.n U (R.wd l).sp va k = q := ⟨_, rfl⟩
 rw [hq] at HP ⊢
 obtain ⟨S, hS⟩ : ∃ S, (R.wd l).sp = S := ⟨_, rfl⟩
 rw [hS] at HP HS
 refine fn_ctr Tryz.func193 rfl Tryz.ntmps193 rfl hi ?_
 refine Zs (Zr (ZA ?_))
 refine wl_t (t_callS (runF (kOf br bu D) X (R.wd (l ++ [(va : Int)]))) rfl (fun _ _ => rfl) Zi (fun w hi hin => pop_ok (kOf br bu D) X R l va w hin)) rfl ?_
 rintro _ _ ⟨_, ⟨rfl, rfl⟩, rfl⟩
 refine ZA ?_
 refine Zn (Zt (Zx (Zs (Zr (ZA ?_)))))
 refine ZA ?_
 refine ZFa 17 ?_
 refine ZC ?_
 iterate 2 refine ZA ?_
 iterate 2 refine ZB ?_
 refine ZFb 18 ?_
 refine ZD ?_
 refine ZB ?_
 iterate 2 refine ZA ?_
 refine Zn (Zt ?_)
 refine wc_cond _ rfl (fun hc4 => ?_) (fun hc4 => ?_)
 ·exact absurd hc4 (by simp)
 refine Zs (Zr (ZA ?_))
 refine ZA ?_
 refine Zn (Zt ?_)
 refine wc_cond _ rfl (fun hc6 => ?_) (fun hc6 => ?_)
 ·exact absurd hc6 (by simp)
 refine Zs (wc_draw ⟨fun j => List.elem j [8, 14], []⟩ Zk ?_)
 refine ZE 0 ?_
 refine ZE 1 ?_
 refine ZFe 2 17 ?_
 refine ZG 3 ?_
 refine ZE 4 ?_
 refine ZE 6 ?_
 refine ZE 7 ?_
 refine wa_2 5 12 Zk ?_ ?_
 ·refine ZT (fun w hi => HS w (hi.get Zh)) ?_
  rintro _ _ ⟨_, ⟨rfl, rfl⟩, rfl⟩
  refine wa_2 8 12 Zk ?_ ?_
  ·refine wi_t rfl rfl (t_callS (uF bu bb L U) rfl (fun _ _ => rfl) Zi (fun w hi hin => HP w hin)) (fun _ _ _ _ _ _ _ h => by cases h) rfl ?_
   rintro _ _ ⟨_, ⟨rfl, rfl⟩, rfl⟩
   refine ZE 9 ?_
   refine ZE 10 ?_
   refine ZE 11 ?_
   refine wa_1 12 Zk ?_
   refine ZP fun b8 => ?_
   refine ZE 13 ?_
   refine wa_1 14 Zk ?_
   refine ZR ?_
   refine wa_done Zk ?_
   refine Zt (Zs (Zr (ZA ?_)))
   refine wl_loadRow Zh (fun _ => rfl) (fun _ => rfl) (Zv rfl) rfl ?_
   refine ZA ?_
   refine ZFa 19 ?_
   refine wl_t0 (t_storeRX (ys := runCells (kOf br bu D) X ((R.wd l).wt ⟨ca, ad⟩)) (n := 2) (vs := [.int .i64 ca, .int .u32 ad]) rfl (fun _ => rfl) rfl rfl (allT rfl) Za rfl (by simp only [List.length_cons, List.length_nil]; omega)) ?_
   rintro _ _ ⟨rfl, rfl⟩
   refine Zn (Zt (Zr (ZA ?_)))
   refine ZA ?_
   refine wl_t (t_buildSl1 rfl rfl (fun _ => rfl) (fun _ => rfl) rfl rfl) rfl ?_
   rintro _ _ ⟨b29, rfl, rfl⟩
   refine wl_t (t_callS (runF (kOf br bu D) X ((R.wd l).wt ⟨ca, ad⟩)) rfl (fun _ _ => rfl) Zi (fun w hi hin => push_ok (kOf br bu D) X ((R.wd l).wt ⟨ca, ad⟩) _ 1 1 [v] (show l.length + 1 ≤ 1000000 by omega) w hin (fun w' hk => hi.rdKs Zi Zh hk))) rfl ?_
   rintro _ _ ⟨_, ⟨A', c', rfl, rfl⟩, rfl⟩
   refine Zn (Zo (qok_pick (runF (kOf br bu D) ⟨A', c', X.Ar, X.cr⟩ (((R.wd l).wt ⟨ca, ad⟩).wd (l ++ [v])) ++ uF bu bb L U') Zj ?_))
   refine ret0 (cs' := [row _ _ _, slv _ _ _ _ _ _, slv _ _ _ _ _ _, row _ _ _, exC _ _ _ _, row _ _ _]) (.inr rfl) Zu rfl ?_
   exact ⟨⟨A', c', X.Ar, X.cr⟩, rfl, rfl⟩
  refine ZP fun b8 => ?_
  refine wa_1 8 Zk ?_
  refine wi_t rfl rfl (t_callS (uF bu bb L U) rfl (fun _ _ => rfl) Zi (fun w hi hin => HP w hin)) (fun _ _ _ _ _ _ _ h => by cases h) rfl ?_
  rintro _ _ ⟨_, ⟨rfl, rfl⟩, rfl⟩
  refine ZE 9 ?_
  refine ZE 10 ?_
  refine ZE 11 ?_
  refine ZE 13 ?_
  refine wa_1 14 Zk ?_
  refine ZR ?_
  refine wa_done Zk ?_
  refine Zt (Zs (Zr (ZA ?_)))
  refine wl_loadRow Zh (fun _ => rfl) (fun _ => rfl) (Zv rfl) rfl ?_
  refine ZA ?_
  refine ZFa 19 ?_
  refine wl_t0 (t_storeRX (ys := runCells (kOf br bu D) X ((R.wd l).wt ⟨ca, ad⟩)) (n := 2) (vs := [.int .i64 ca, .int .u32 ad]) rfl (fun _ => rfl) rfl rfl (allT rfl) Za rfl (by simp only [List.length_cons, List.length_nil]; omega)) ?_
  rintro _ _ ⟨rfl, rfl⟩
  refine Zn (Zt (Zr (ZA ?_)))
  refine ZA ?_
  refine wl_t (t_buildSl1 rfl rfl (fun _ => rfl) (fun _ => rfl) rfl rfl) rfl ?_
  rintro _ _ ⟨b29, rfl, rfl⟩
  refine wl_t (t_callS (runF (kOf br bu D) X ((R.wd l).wt ⟨ca, ad⟩)) rfl (fun _ _ => rfl) Zi (fun w hi hin => push_ok (kOf br bu D) X ((R.wd l).wt ⟨ca, ad⟩) _ 1 1 [v] (show l.length + 1 ≤ 1000000 by omega) w hin (fun w' hk => hi.rdKs Zi Zh hk))) rfl ?_
  rintro _ _ ⟨_, ⟨A', c', rfl, rfl⟩, rfl⟩
  refine Zn (Zo (qok_pick (runF (kOf br bu D) ⟨A', c', X.Ar, X.cr⟩ (((R.wd l).wt ⟨ca, ad⟩).wd (l ++ [v])) ++ uF bu bb L U') Zj ?_))
  refine ret0 (cs' := [row _ _ _, slv _ _ _ _ _ _, slv _ _ _ _ _ _, row _ _ _, exC _ _ _ _, row _ _ _]) (.inr rfl) Zu rfl ?_
  exact ⟨⟨A', c', X.Ar, X.cr⟩, rfl, rfl⟩
 refine ZP fun b8 => ?_
 refine wa_1 5 Zk ?_
 refine ZT (fun w hi => HS w (hi.get Zh)) ?_
 rintro _ _ ⟨_, ⟨rfl, rfl⟩, rfl⟩
 refine wa_1 8 Zk ?_
 refine wi_t rfl rfl (t_callS (uF bu bb L U) rfl (fun _ _ => rfl) Zi (fun w hi hin => HP w hin)) (fun _ _ _ _ _ _ _ h => by cases h) rfl ?_
 rintro _ _ ⟨_, ⟨rfl, rfl⟩, rfl⟩
 refine ZE 9 ?_
 refine ZE 10 ?_
 refine ZE 11 ?_
 refine ZE 13 ?_
 refine wa_1 14 Zk ?_
 refine ZR ?_
 refine wa_done Zk ?_
 refine Zt (Zs (Zr (ZA ?_)))
 refine wl_loadRow Zh (fun _ => rfl) (fun _ => rfl) (Zv rfl) rfl ?_
 refine ZA ?_
 refine ZFa 19 ?_
 refine wl_t0 (t_storeRX (ys := runCells (kOf br bu D) X ((R.wd l).wt ⟨ca, ad⟩)) (n := 2) (vs := [.int .i64 ca, .int .u32 ad]) rfl (fun _ => rfl) rfl rfl (allT rfl) Za rfl (by simp only [List.length_cons, List.length_nil]; omega)) ?_
 rintro _ _ ⟨rfl, rfl⟩
 refine Zn (Zt (Zr (ZA ?_)))
 refine ZA ?_
 refine wl_t (t_buildSl1 rfl rfl (fun _ => rfl) (fun _ => rfl) rfl rfl) rfl ?_
 rintro _ _ ⟨b29, rfl, rfl⟩
 refine wl_t (t_callS (runF (kOf br bu D) X ((R.wd l).wt ⟨ca, ad⟩)) rfl (fun _ _ => rfl) Zi (fun w hi hin => push_ok (kOf br bu D) X ((R.wd l).wt ⟨ca, ad⟩) _ 1 1 [v] (show l.length + 1 ≤ 1000000 by omega) w hin (fun w' hk => hi.rdKs Zi Zh hk))) rfl ?_
 rintro _ _ ⟨_, ⟨A', c', rfl, rfl⟩, rfl⟩
 refine Zn (Zo (qok_pick (runF (kOf br bu D) ⟨A', c', X.Ar, X.cr⟩ (((R.wd l).wt ⟨ca, ad⟩).wd (l ++ [v])) ++ uF bu bb L U') Zj ?_))
 refine ret0 (cs' := [row _ _ _, slv _ _ _ _ _ _, slv _ _ _ _ _ _, row _ _ _, exC _ _ _ _, row _ _ _]) (.inr rfl) Zu rfl ?_
 exact ⟨⟨A', c', X.Ar, X.cr⟩, rfl, rfl⟩
set_option maxHeartbeats 2000000 in
theorem someS_ok (br bu bb : Nat) (L : MLoc) (D : DLoc) (X : SAdr) (R : Run) (U : Mmu) (l : List Int) (va k : Nat) (v : Int) (hva : va ≤ 4294967295) (hk1 : 1 ≤ k) (hk4 : k ≤ 4) (hl : l.length ≤ 100000) (hT : U.t.length = 16) (hroot : u32 R.s.root)
  (w : World) (hi : Inv w (blocks (runF (kOf br bu D) X (R.wd ((l ++ [v]) ++ [(va : Int)])) ++ uF bu bb L U)) (runF (kOf br bu D) X (R.wd ((l ++ [v]) ++ [(va : Int)])) ++ uF bu bb L U) w) :
  Ctr Tryz.prog 193 [.pointer (some ⟨br, 0, none⟩), .int .i64 k, .bool true] w (runF (kOf br bu D) X (R.wd ((l ++ [v]) ++ [(va : Int)])) ++ uF bu bb L U)
   (fun x cs => x = .tuple #[] ∧ cs = runF (kOf br bu D) X (sameS L.n (R.wd l) U va k v).1 ++ uF bu bb L (sameS L.n (R.wd l) U va k v).2) := by
 have hr0 := hroot.1
 have hr1 := hroot.2
 have hsr : (R.wd l).sp.root ≤ 4294967295 := by show R.s.root.toNat ≤ _; omega
 have HP := ustore_ok bu bb L U hT (R.wd l).sp hsr va k v hva hk1 hk4
 have HS := space2_ok (kOf br bu D) X (R.wd (l ++ [v])) hr0
 unfold sameS
 obtain ⟨⟨⟨ca, ad⟩, U'⟩, hq⟩ : ∃ q, storeTo L.n U (R.wd l).sp va k v = q := ⟨_, rfl⟩
 rw [hq] at HP ⊢
 obtain ⟨S, hS⟩ : ∃ S, (R.wd l).sp = S := ⟨_, rfl⟩
 rw [show (R.wd (l ++ [v])).sp = (R.wd l).sp from rfl, hS] at HS
 rw [hS] at HP
 refine fn_ctr Tryz.func193 rfl Tryz.ntmps193 rfl hi ?_
 refine Zs (Zr (ZA ?_))
 refine wl_t (t_callS (runF (kOf br bu D) X (R.wd ((l ++ [v]) ++ [(va : Int)]))) rfl (fun _ _ => rfl) Zi (fun w hi hin => pop_ok (kOf br bu D) X R (l ++ [v]) va w hin)) rfl ?_
 rintro _ _ ⟨_, ⟨rfl, rfl⟩, rfl⟩
 refine ZA ?_
 refine Zn (Zt (Zx (Zs (Zr (ZA ?_)))))
 refine ZA ?_
 refine ZFa 17 ?_
 refine ZC ?_
 iterate 2 refine ZA ?_
 iterate 2 refine ZB ?_
 refine ZFb 18 ?_
 refine ZD ?_
 refine ZB ?_
 iterate 2 refine ZA ?_
 refine Zn (Zt ?_)
 refine wc_cond _ rfl (fun hc4 => ?_) (fun hc4 => ?_)
 ·exact absurd hc4 (by simp)
 refine Zs (Zr (ZA ?_))
 refine ZA ?_
 refine Zn (Zt ?_)
 refine wc_cond _ rfl (fun hc6 => ?_) (fun hc6 => ?_)
 ·refine wc_draw ⟨fun j => List.elem j [9, 11, 14], []⟩ Zk ?_
  refine ZE 0 ?_
  refine ZE 1 ?_
  refine ZE 2 ?_
  refine ZFe 3 17 ?_
  refine ZE 5 ?_
  refine ZE 7 ?_
  refine ZE 8 ?_
  refine ZE 10 ?_
  refine wa_2 4 6 Zk ?_ ?_
  ·refine wi_yn rfl (y_load (fun _ => rfl) (Zv rfl)) (row_cell Zh rfl) rfl ?_
   refine wa_1 6 Zk ?_
   refine ZT (fun w hi => HS w (hi.get Zh)) ?_
   rintro _ _ ⟨_, ⟨rfl, rfl⟩, rfl⟩
   refine wa_1 9 Zk ?_
   refine wi_t rfl rfl (t_callS (runF (kOf br bu D) X (R.wd (l ++ [v]))) rfl (fun _ _ => rfl) Zi (fun w hi hin => pop_ok (kOf br bu D) X R l v w hin)) (fun _ _ _ _ _ _ _ h => by cases h) rfl ?_
   rintro _ _ ⟨_, ⟨rfl, rfl⟩, rfl⟩
   refine wa_1 11 Zk ?_
   refine wi_t rfl rfl (t_callS (uF bu bb L U) rfl (fun _ _ => rfl) Zi (fun w hi hin => HP w hin)) (fun _ _ _ _ _ _ _ h => by cases h) rfl ?_
   rintro _ _ ⟨_, ⟨rfl, rfl⟩, rfl⟩
   refine ZE 12 ?_
   refine ZFe 13 19 ?_
   refine wa_1 14 Zk ?_
   refine wi_t0 rfl rfl (t_storeRX (ys := runCells (kOf br bu D) X ((R.wd l).wt ⟨ca, ad⟩)) (n := 2) (vs := [.int .i64 ca, .int .u32 ad]) rfl (fun _ => rfl) rfl rfl (allT rfl) Za rfl (by simp only [List.length_cons, List.length_nil]; omega)) (fun _ _ _ _ _ _ _ h => by cases h) ?_
   rintro _ _ ⟨rfl, rfl⟩
   refine wa_done Zk ?_
   refine Zo (qok_pick (runF (kOf br bu D) X ((R.wd l).wt ⟨ca, ad⟩) ++ uF bu bb L U') Zj ?_)
   refine ret0 (cs' := [row _ _ _, slv _ _ _ _ _ _, slv _ _ _ _ _ _, row _ _ _, exC _ _ _ _, row _ _ _]) (.inr rfl) Zu rfl ?_
   exact ⟨rfl, rfl⟩
  refine ZT (fun w hi => HS w (hi.get Zh)) ?_
  rintro _ _ ⟨_, ⟨rfl, rfl⟩, rfl⟩
  refine wa_2 4 9 Zk ?_ ?_
  ·refine wi_yn rfl (y_load (fun _ => rfl) (Zv rfl)) (row_cell Zh rfl) rfl ?_
   refine wa_1 9 Zk ?_
   refine wi_t rfl rfl (t_callS (runF (kOf br bu D) X (R.wd (l ++ [v]))) rfl (fun _ _ => rfl) Zi (fun w hi hin => pop_ok (kOf br bu D) X R l v w hin)) (fun _ _ _ _ _ _ _ h => by cases h) rfl ?_
   rintro _ _ ⟨_, ⟨rfl, rfl⟩, rfl⟩
   refine wa_1 11 Zk ?_
   refine wi_t rfl rfl (t_callS (uF bu bb L U) rfl (fun _ _ => rfl) Zi (fun w hi hin => HP w hin)) (fun _ _ _ _ _ _ _ h => by cases h) rfl ?_
   rintro _ _ ⟨_, ⟨rfl, rfl⟩, rfl⟩
   refine ZE 12 ?_
   refine ZFe 13 19 ?_
   refine wa_1 14 Zk ?_
   refine wi_t0 rfl rfl (t_storeRX (ys := runCells (kOf br bu D) X ((R.wd l).wt ⟨ca, ad⟩)) (n := 2) (vs := [.int .i64 ca, .int .u32 ad]) rfl (fun _ => rfl) rfl rfl (allT rfl) Za rfl (by simp only [List.length_cons, List.length_nil]; omega)) (fun _ _ _ _ _ _ _ h => by cases h) ?_
   rintro _ _ ⟨rfl, rfl⟩
   refine wa_done Zk ?_
   refine Zo (qok_pick (runF (kOf br bu D) X ((R.wd l).wt ⟨ca, ad⟩) ++ uF bu bb L U') Zj ?_)
   refine ret0 (cs' := [row _ _ _, slv _ _ _ _ _ _, slv _ _ _ _ _ _, row _ _ _, exC _ _ _ _, row _ _ _]) (.inr rfl) Zu rfl ?_
   exact ⟨rfl, rfl⟩
  refine wi_t rfl rfl (t_callS (runF (kOf br bu D) X (R.wd (l ++ [v]))) rfl (fun _ _ => rfl) Zi (fun w hi hin => pop_ok (kOf br bu D) X R l v w hin)) (fun _ _ _ _ _ _ _ h => by cases h) rfl ?_
  rintro _ _ ⟨_, ⟨rfl, rfl⟩, rfl⟩
  refine ZG 4 ?_
  refine wa_1 11 Zk ?_
  refine wi_t rfl rfl (t_callS (uF bu bb L U) rfl (fun _ _ => rfl) Zi (fun w hi hin => HP w hin)) (fun _ _ _ _ _ _ _ h => by cases h) rfl ?_
  rintro _ _ ⟨_, ⟨rfl, rfl⟩, rfl⟩
  refine ZE 12 ?_
  refine ZFe 13 19 ?_
  refine wa_1 14 Zk ?_
  refine wi_t0 rfl rfl (t_storeRX (ys := runCells (kOf br bu D) X ((R.wd l).wt ⟨ca, ad⟩)) (n := 2) (vs := [.int .i64 ca, .int .u32 ad]) rfl (fun _ => rfl) rfl rfl (allT rfl) Za rfl (by simp only [List.length_cons, List.length_nil]; omega)) (fun _ _ _ _ _ _ _ h => by cases h) ?_
  rintro _ _ ⟨rfl, rfl⟩
  refine wa_done Zk ?_
  refine Zo (qok_pick (runF (kOf br bu D) X ((R.wd l).wt ⟨ca, ad⟩) ++ uF bu bb L U') Zj ?_)
  refine ret0 (cs' := [row _ _ _, slv _ _ _ _ _ _, slv _ _ _ _ _ _, row _ _ _, exC _ _ _ _, row _ _ _]) (.inr rfl) Zu rfl ?_
  exact ⟨rfl, rfl⟩
 exact absurd hc6 (by simp)
end Go.Proofs.YtmhpcgmjlpfheaaGreatDoor
