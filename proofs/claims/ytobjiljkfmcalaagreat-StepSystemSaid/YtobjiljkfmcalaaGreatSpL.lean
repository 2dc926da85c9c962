/- The devices: interrupt lines, timer, console, drive. -/
import Derived.Test.YtobjiljkfmcalaaGreatSpK
import Derived.Test.YtobjiljkfmcalaaGreatInkS
import Derived.Test.YtobjiljkfmcalaaGreatInkI
set_option linter.unusedSimpArgs false
set_option linter.unusedVariables false
set_option maxRecDepth 100000
namespace Go.Ink
open Go.RowKit
/-- Lines as bits. -/
def linesTo (l : List Nat) : Nat → Int
  | 0 => 0
  | k + 1 => bits .or .u32 (linesTo l k) (IntKind.u32.wrap (1 * 2 ^ (min (((l.getD k 0 : Nat) : Int)).toNat IntKind.u32.bits)))
def linesOf (l : List Nat) : Int := linesTo l l.length
def natInts (l : List Nat) : List Int := l.map fun n : Nat => (n : Int)
/-- What a drive does: a sector goes to a page, or a page to a sector. -/
def driveOk (n sector a : Nat) : Bool := !((decide (16 ≤ sector) || (a % 64 != 0)) || decide (n * 64 ≤ a))
def driveDo (n : Nat) (M : Mem) (disk : List Int) (sector a cmd : Nat) : Bool × Mem × List Int :=
  bif !driveOk n sector a then (false, M, disk) else
  bif cmd == 1 then (true, M.fill (a / 64 * 64) ((disk.drop (sector * 64)).take 64) 64, disk) else
  bif cmd == 2 then (true, M, disk.take (sector * 64) ++ (M.data.drop (a / 64 * 64)).take 64 ++ disk.drop (sector * 64 + 64)) else (false, M, disk)
end Go.Ink
namespace Go.Proofs.YtobjiljkfmcalaaGreat
open Go.RowKit Go.Ink

abbrev irqC (b : Nat) (p m : Int) : Chunk := row b [.int .u32 p, .int .u32 m] 107
abbrev timC (b : Nat) (t : Int) : Chunk := row b [.int .u32 t] 162
abbrev b8 (A : Option Addr) (c : Nat) (l : List Int) : Chunk := sl .u8 5 A l.length c l
abbrev conC (b : Nat) (Ao : Option Addr) (no co : Nat) (Ai : Option Addr) (ni ci : Nat) : Chunk := row b [.slice Ao no co, .slice Ai ni ci] 165
abbrev driC (b bd : Nat) : Chunk := row b [.slice (some ⟨bd, 0, none⟩) 1024 1024] 167
abbrev dskC (bd : Nat) (l : List Int) : Chunk := sl .u8 5 (some ⟨bd, 0, none⟩) 1024 1024 l

theorem irqnew_ok (w : World) : Ctr Tryz.prog 73 [] w [] (fun v cs => ∃ b, v = .pointer (some ⟨b, 0, none⟩) ∧ cs = [irqC b 0 0]) := by
  refine fn_ctr Tryz.func73 rfl Tryz.ntmps73 rfl (Inv.start w) ?_
  refine Zs (Zr (Zg rfl (Zn (Zt (Zs (Zr (Zy (y_build rfl rfl (fun _ => rfl) rfl rfl rfl Zb) ?_)))))))
  refine wl_t (t_box rfl rfl) rfl ?_
  rintro _ _ ⟨b2, rfl, rfl⟩
  refine Zg rfl (Zn (Zt (Ze (ret1 (cs' := [row _ _ _]) (.inl rfl) Zu rfl rfl ?_))))
  exact ⟨_, rfl, rfl⟩
theorem timnew_ok (w : World) : Ctr Tryz.prog 74 [] w [] (fun v cs => ∃ b, v = .pointer (some ⟨b, 0, none⟩) ∧ cs = [timC b 0]) := by
  refine fn_ctr Tryz.func74 rfl Tryz.ntmps74 rfl (Inv.start w) ?_
  refine Zs (Zr (Zg rfl (Zn (Zt (Zs (Zr (Zy (y_build rfl rfl (fun _ => rfl) rfl rfl rfl Zb) ?_)))))))
  refine wl_t (t_box rfl rfl) rfl ?_
  rintro _ _ ⟨b2, rfl, rfl⟩
  refine Zg rfl (Zn (Zt (Ze (ret1 (cs' := [row _ _ _]) (.inl rfl) Zu rfl rfl ?_))))
  exact ⟨_, rfl, rfl⟩
theorem connew_ok (w : World) : Ctr Tryz.prog 75 [] w [] (fun v cs => ∃ b, v = .pointer (some ⟨b, 0, none⟩) ∧ cs = [conC b none 0 0 none 0 0]) := by
  refine fn_ctr Tryz.func75 rfl Tryz.ntmps75 rfl (Inv.start w) ?_
  refine Zs (Zr (Zg rfl (Zn (Zt (Zs (Zr (Zy (y_build rfl rfl (fun _ => rfl) rfl rfl rfl Zb) ?_)))))))
  refine wl_t (t_box rfl rfl) rfl ?_
  rintro _ _ ⟨b2, rfl, rfl⟩
  refine Zg rfl (Zn (Zt (Ze (ret1 (cs' := [row _ _ _]) (.inl rfl) Zu rfl rfl ?_))))
  exact ⟨_, rfl, rfl⟩
/-- A drive that begins with some bytes. -/
def _root_.Go.Ink.diskOf (l : List Int) : List Int := l ++ List.replicate (1024 - l.length) 0
theorem drinew_ok (A : Option Addr) (c : Nat) (l : List Int) (hl : l.length ≤ 1024) (w : World) (h : Rd w .u8 A l.length c l) : Ctr Tryz.prog 72 [.slice A l.length c] w [] (fun v cs => ∃ b bd, v = .tuple #[.pointer (some ⟨b, 0, none⟩), .int .i64 0] ∧ cs = [driC b bd, dskC bd (diskOf l)]) := by
  refine fn_ctr Tryz.func72 rfl Tryz.ntmps72 rfl (Inv.start w) ?_
  refine Zs (Zr (Zg rfl (Zg rfl (Zn (Zt (Zs (Zs (Zr (Zm rfl (Zy (y_len ⟨_, rfl⟩ (Zv rfl)) ?_))))))))))
  refine Zy (y_gtr (Zv rfl) (Zv rfl) rfl) (Zn (Zt (wc_cond_f rfl ((decide_eq_false (by omega))) ?_)))
  refine Zc (Zt (Zs (Zr (wl_t (t_make (bytes := 1) (n := 1024) rfl rfl rfl rfl rfl rfl rfl (by omega) (by simp only [maxLen]; omega)) rfl ?_))))
  rintro _ _ ⟨b8_, rfl, rfl⟩
  rw [rep_int]
  refine Zy (y_build rfl rfl (fun _ => rfl) rfl rfl rfl Zb) ?_
  refine wl_t (t_box rfl rfl) rfl ?_
  rintro _ _ ⟨b10, rfl, rfl⟩
  refine Zg rfl (Zn (Zt (Zs (Zr (Zm rfl (Zy (y_nil (Zv rfl)) (Zy (y_field 0 rfl (Zv rfl) Zf) ?_)))))))
  refine Zz rfl ?_
  refine Zm rfl (wl_t (t_copy rfl rfl Za rfl rfl (fun w hi => h.oldN hi) ints_one (by omega)) rfl ?_)
  rintro _ _ ⟨rfl, rfl⟩
  have hd : (ints .u8 (List.replicate 1024 0)).take 0 ++ (ints .u8 l).take (min l.length 1024) ++ (ints .u8 (List.replicate 1024 0)).drop (0 + min l.length 1024) = ints .u8 (diskOf l) := by (rw [Nat.min_eq_left hl, ints_take, ints_take, ints_drop, List.take_zero, List.take_length, Nat.zero_add, List.drop_replicate]; simp [ints, diskOf])
  rw [hd]
  refine Zn (Zt (Zs (Zr (Zm rfl (Zg rfl (Zg rfl (Zn (Zt (Ze (qok_pick [driC b10 b8_, dskC b8_ (diskOf l)] Zj ?_))))))))))
  refine ret2 (cs' := [row _ _ _, slv _ _ _ _ _ _]) (.inl rfl) Zu rfl rfl rfl ?_
  exact ⟨_, _, rfl, rfl⟩
theorem pending_ok (b : Nat) (p m : Int) (w : World) (h : (irqC b p m).ok w) : Ctr Tryz.prog 59 [.pointer (some ⟨b, 0, none⟩)] w [] (fun v cs => v = .int .u32 p ∧ cs = []) := by
  refine fn_ctr Tryz.func59 rfl Tryz.ntmps59 rfl (Inv.start w) ?_
  refine Zs (Zr (Zg rfl (Zn (Zt (Zs (Zr (Zm rfl (Zy (y_nil (Zv rfl)) (Zy (y_field 0 rfl (Zv rfl) Zf) ?_)))))))))
  refine wl_y (y_load (fun _ => rfl) (Zv rfl)) (old_row (by assumption) rfl) rfl ?_
  refine Zg rfl (Zn (Zt (Ze (ret1 (cs' := []) (.inl rfl) Zu rfl rfl ?_))))
  exact ⟨rfl, rfl⟩
theorem mask_ok (b : Nat) (p m : Int) (w : World) (h : (irqC b p m).ok w) : Ctr Tryz.prog 22 [.pointer (some ⟨b, 0, none⟩)] w [] (fun v cs => v = .int .u32 m ∧ cs = []) := by
  refine fn_ctr Tryz.func22 rfl Tryz.ntmps22 rfl (Inv.start w) ?_
  refine Zs (Zr (Zg rfl (Zn (Zt (Zs (Zr (Zm rfl (Zy (y_nil (Zv rfl)) (Zy (y_field 1 rfl (Zv rfl) Zf) ?_)))))))))
  refine wl_y (y_load (fun _ => rfl) (Zv rfl)) (old_row (by assumption) rfl) rfl ?_
  refine Zg rfl (Zn (Zt (Ze (ret1 (cs' := []) (.inl rfl) Zu rfl rfl ?_))))
  exact ⟨rfl, rfl⟩
theorem iclear_ok (b : Nat) (p m v : Int) (w : World) (hi : Inv w (blocks [irqC b p m]) [irqC b p m] w) : Ctr Tryz.prog 135 [.pointer (some ⟨b, 0, none⟩), .int .u32 v] w [irqC b p m] (fun x cs => x = .tuple #[] ∧ cs = [irqC b (bits .andNot .u32 p v) m]) := by
  refine fn_ctr Tryz.func135 rfl Tryz.ntmps135 rfl hi ?_
  refine Zr (Zm rfl (Zy (y_nil (Zv rfl)) (Zy (y_field 0 rfl (Zv rfl) Zf) ?_)))
  refine Zz rfl ?_
  refine Zm rfl (Zy (y_andNot (Zv rfl) (Zv rfl) rfl) ?_)
  refine Zy (y_nil (Zv rfl)) (Zy (y_field 0 rfl (Zv rfl) Zf) ?_)
  refine wl_t0 (t_store (fun _ => rfl) rfl rfl rfl Za Zp) ?_
  rintro _ _ ⟨rfl, rfl⟩
  refine Zn (ret0 (cs' := [row _ _ _]) (.inr rfl) Zu rfl ?_)
  exact ⟨rfl, rfl⟩
theorem isetmask_ok (b : Nat) (p m v : Int) (w : World) (hi : Inv w (blocks [irqC b p m]) [irqC b p m] w) : Ctr Tryz.prog 136 [.pointer (some ⟨b, 0, none⟩), .int .u32 v] w [irqC b p m] (fun x cs => x = .tuple #[] ∧ cs = [irqC b p (bits .and .u32 v 255)]) := by
  refine fn_ctr Tryz.func136 rfl Tryz.ntmps136 rfl hi ?_
  refine Zr (Zm rfl (Zm rfl (Zy (y_and_ (Zv rfl) (Zv rfl) rfl) ?_)))
  refine Zy (y_nil (Zv rfl)) (Zy (y_field 1 rfl (Zv rfl) Zf) ?_)
  refine wl_t0 (t_store (fun _ => rfl) rfl rfl rfl Za Zp) ?_
  rintro _ _ ⟨rfl, rfl⟩
  refine Zn (ret0 (cs' := [row _ _ _]) (.inr rfl) Zu rfl ?_)
  exact ⟨rfl, rfl⟩
theorem iraise_ok (b : Nat) (p m : Int) (A : Option Addr) (c : Nat) (l : List Nat) (hl : ∀ x, x ∈ l → x < 8) (w : World) (hi : Inv w (blocks [irqC b p m]) [irqC b p m] w) (h : ∀ w', Keep (blocks [irqC b p m]) w w' → Rd w' .i64 A l.length c (natInts l)) : Ctr Tryz.prog 140 [.pointer (some ⟨b, 0, none⟩), .slice A l.length c] w [irqC b p m] (fun x cs => x = .bool true ∧ cs = [irqC b (bits .or .u32 p (linesOf l)) m]) := by
  have hrw := h w (Keep.refl _ _)
  have hm := hrw.max
  have hcp := hrw.cap
  simp only [maxLen] at hm
  refine fn_ctr Tryz.func140 rfl Tryz.ntmps140 rfl hi ?_
  refine Zs (Zr (Zg rfl (Zn (Zt (Zs (Zr (Zg rfl (Zn (Zt (Zs (Zs (Zr (Zm rfl (Zy (y_len ⟨_, rfl⟩ (Zv rfl)) ?_))))))))))))))
  refine Zm rfl (Zn (Zt (Zx ?_)))
  refine wc_loop (fun k : Nat => [(0, .pointer (some ⟨b, 0, none⟩)), (5, .int .u32 (linesTo l k)), (8, .slice A l.length c), (9, .int .i64 l.length), (10, .int .i64 (k : Int))]) (fun _ => [irqC b p m]) (fun k => k ≤ l.length) (fun k => l.length - k) (0) ?_ ?_ ?_ ?_
  · exact Nat.zero_le _
  · ((repeat' (refine Wk.cons ?_ ?_)) <;> first | exact Wk.nil | exact rfl | exact trivial | exact wk_num rfl (by omega) | exact wk_num rfl (by simp))
  · ((repeat (first | exact List.Sublist.slnil | refine List.Sublist.cons_cons _ ?_ | refine List.Sublist.cons _ ?_)))
  rintro k hk
  refine Zs (Zr (Zy (y_lss (Zv rfl) (Zv rfl) rfl) (Zn (Zt (Zs ?_)))))
  refine wc_cond _ rfl (fun hc3 => ?_) (fun hc3 => ?_)
  · simp only [decide_eq_true_eq] at hc3
    have hkl : k < l.length := by omega
    have hx := hl _ (List.getElem_mem hkl)
    have hgd : l.getD k 0 = l[k]'hkl := by simp [hkl]
    obtain ⟨ad, rfl⟩ := hrw.some_ (by omega)
    refine Zc (Zt (Zs (Zx (Zs (Zr (Zy (y_index (j := k)  rfl (fun _ => rfl) (Zv rfl) (Zv rfl)  (fun _ => by omega) (fun _ => by omega)) ?_))))))
    refine wl_y (y_load (fun _ => rfl) (Zv rfl)) (rd_cellK h (ints_at (show (natInts l)[k]? = some ((l[k]'hkl : Nat) : Int) by simp [natInts, hkl]))) rfl ?_
    refine Zg rfl (Zn (Zt (Zs (Zs (Zr (Zm rfl (Zy (y_lss (Zv rfl) (Zv rfl) rfl) (Zm rfl (Zyn rfl rfl (y_move (Zv rfl)) ?_)))))))))
    refine Zyn rfl rfl (y_geq (ev_g rfl) (Zv rfl) rfl) ?_
    refine Zy (y_or (Zv rfl) (pk_no rfl (fun _ => rfl))) (Zn (Zt (wc_cond_f rfl ((by rw [decide_eq_false (show ¬ ((l[k]'hkl : Nat) : Int) < 0 by omega), decide_eq_false (show ¬ (8 : Int) ≤ ((l[k]'hkl : Nat) : Int) by omega)]; rfl)) ?_)))
    refine Zc (Zt (Zr (Zm rfl (Zm rfl (Zy (y_shl (Zv rfl) (Zv rfl) (by omega) rfl) ?_)))))
    refine Zy (y_or_ (Zv rfl) (Zv rfl) (show _ = linesTo l (k + 1) from by rw [linesTo, hgd])) ?_
    refine Zg rfl (Zn (Zo (Zt (Zr (Zy (y_add (Zv rfl) (Zv rfl) Zl) ?_)))))
    refine Zm rfl (Zn ?_)
    refine q_mid (k + 1) ?_ ?_ ?_
    · exact ⟨by omega, by omega⟩
    · ((repeat' (refine Wk.cons ?_ ?_)) <;> first | exact Wk.nil | exact rfl | exact trivial | exact wk_num rfl (by omega) | exact wk_num rfl (by simp))
    ((repeat (first | exact List.Sublist.slnil | refine List.Sublist.cons_cons _ ?_ | refine List.Sublist.cons _ ?_)))
  simp only [decide_eq_false_iff_not] at hc3
  obtain rfl : k = l.length := by omega
  refine wc_exit ?_
  refine q_then_exit ?_
  refine q_then_exit ?_
  refine q_block_same rfl ?_
  refine Zt (Zs (Zr (Zm rfl (Zy (y_nil (Zv rfl)) (Zy (y_field 0 rfl (Zv rfl) Zf) ?_)))))
  refine Zz rfl ?_
  refine Zm rfl (Zy (y_or_ (Zv rfl) (Zv rfl) rfl) ?_)
  refine Zy (y_nil (Zv rfl)) (Zy (y_field 0 rfl (Zv rfl) Zf) ?_)
  refine wl_t0 (t_store (fun _ => rfl) rfl rfl rfl Za Zp) ?_
  rintro _ _ ⟨rfl, rfl⟩
  refine Zn (Zt (Zs (Zr (Zg rfl (Zn (Zt (Ze (ret1 (cs' := [row _ _ _]) (.inl rfl) Zu rfl rfl ?_))))))))
  exact ⟨rfl, rfl⟩
theorem tset_ok (b : Nat) (t v : Int) (w : World) (hi : Inv w (blocks [timC b t]) [timC b t] w) : Ctr Tryz.prog 137 [.pointer (some ⟨b, 0, none⟩), .int .u32 v] w [timC b t] (fun x cs => x = .tuple #[] ∧ cs = [timC b v]) := by
  refine fn_ctr Tryz.func137 rfl Tryz.ntmps137 rfl hi ?_
  refine Zr (Zm rfl (Zm rfl (Zy (y_nil (Zv rfl)) (Zy (y_field 0 rfl (Zv rfl) Zf) ?_))))
  refine wl_t0 (t_store (fun _ => rfl) rfl rfl rfl Za Zp) ?_
  rintro _ _ ⟨rfl, rfl⟩
  refine Zn (ret0 (cs' := [row _ _ _]) (.inr rfl) Zu rfl ?_)
  exact ⟨rfl, rfl⟩
theorem timat_ok (b : Nat) (t : Int) (w : World) (h : (timC b t).ok w) : Ctr Tryz.prog 60 [.pointer (some ⟨b, 0, none⟩)] w [] (fun v cs => v = .int .u32 t ∧ cs = []) := by
  refine fn_ctr Tryz.func60 rfl Tryz.ntmps60 rfl (Inv.start w) ?_
  refine Zs (Zr (Zg rfl (Zn (Zt (Zs (Zr (Zm rfl (Zy (y_nil (Zv rfl)) (Zy (y_field 0 rfl (Zv rfl) Zf) ?_)))))))))
  refine wl_y (y_load (fun _ => rfl) (Zv rfl)) (old_row (by assumption) rfl) rfl ?_
  refine Zg rfl (Zn (Zt (Ze (ret1 (cs' := []) (.inl rfl) Zu rfl rfl ?_))))
  exact ⟨rfl, rfl⟩
theorem cloneb_ok (A : Option Addr) (n c : Nat) (xs : List Int) (w : World) (h : Rd w .u8 A n c xs) (hn : n ≤ 140737488355328) : Ctr Tryz.prog 103 [.slice A n c] w [] (fun v cs => ∃ A' c', v = .slice A' n c' ∧ cs = [sl .u8 5 A' n c' xs]) := by
  refine fn_ctr Tryz.func103 rfl Tryz.ntmps103 rfl (Inv.start w) ?_
  refine Zs (Zr (Zg rfl (Zn (Zt (Zs (Zs (Zr (Zm rfl (Zy (y_slnil rfl (Zv rfl)) (Zn (Zt ?_)))))))))))
  refine wc_cond _ rfl (fun hc1 => ?_) (fun hc1 => ?_)
  · obtain rfl : A = none := by simpa using hc1
    obtain ⟨rfl, rfl⟩ := h.nil rfl
    obtain rfl : xs = [] := by have := h.len; simpa [ints] using this
    refine Zs (Zr (wl_nilc 5 1 ?_))
    refine Zg rfl (Zn (Zt (Ze (Zw (ret1 (cs' := [slv _ _ _ _ _ _]) (.inl rfl) Zu rfl rfl ?_)))))
    exact ⟨_, _, rfl, rfl⟩
  refine Zc (Zt (Zs (Zr (wl_t (t_buildSl1 rfl rfl (fun _ => rfl) (fun _ => rfl) rfl rfl) rfl ?_))))
  rintro _ _ ⟨b5, rfl, rfl⟩
  refine Zm rfl (wl_t (t_append (e := 5) (sz := 1) (bytes := 1) rfl rfl Za rfl rfl (fun w hi => h.oldN hi) ints_one (by simp only [maxLen]; omega) (by omega)) rfl ?_)
  rintro _ _ ⟨A', c', rfl, rfl⟩
  simp only [Nat.zero_add, List.nil_append]
  refine Zg rfl (Zn (Zt (Ze (ret1 (cs' := [slv _ _ _ _ _ _]) (.inl rfl) Zu rfl rfl ?_))))
  exact ⟨_, _, rfl, rfl⟩
theorem cwrite_ok (b : Nat) (Ao : Option Addr) (co : Nat) (o : List Int) (Ai : Option Addr) (ni ci : Nat) (x : Int) (ho : o.length ≤ 1000000000) (w : World) (hi : Inv w (blocks [conC b Ao o.length co Ai ni ci, b8 Ao co o]) [conC b Ao o.length co Ai ni ci, b8 Ao co o] w) : Ctr Tryz.prog 138 [.pointer (some ⟨b, 0, none⟩), .int .u8 x] w [conC b Ao o.length co Ai ni ci, b8 Ao co o] (fun v cs => ∃ Ao' co', v = .tuple #[] ∧ cs = [conC b Ao' (o ++ [x]).length co' Ai ni ci, b8 Ao' co' (o ++ [x])]) := by
  refine fn_ctr Tryz.func138 rfl Tryz.ntmps138 rfl hi ?_
  refine Zr (Zm rfl (Zm rfl (Zy (y_nil (Zv rfl)) (Zy (y_field 0 rfl (Zv rfl) Zf) ?_))))
  refine Zz rfl ?_
  refine Zm rfl (wl_t (t_buildSl1 rfl rfl (fun _ => rfl) (fun _ => rfl) rfl rfl) rfl ?_)
  rintro _ _ ⟨b10, rfl, rfl⟩
  refine wl_t (t_append (e := 5) (sz := 1) (bytes := 1) rfl rfl Za rfl rfl (fun w hi => hi.rd (show Has _ (slv 5 1 (some ⟨b10, 0, none⟩) 1 1 [.int .u8 x]) from Zh)) (allT rfl) (by simp only [maxLen]; omega) (by omega)) rfl ?_
  rintro _ _ ⟨A2, c2, rfl, rfl⟩
  rw [show o.length + 1 = (o ++ [x]).length by simp, show ints .u8 o ++ [Value.int .u8 x] = ints .u8 (o ++ [x]) from ints_append o [x]]
  refine Zy (y_nil (Zv rfl)) (Zy (y_field 0 rfl (Zv rfl) Zf) ?_)
  refine wl_t0 (t_store (fun _ => rfl) rfl rfl rfl Za Zp) ?_
  rintro _ _ ⟨rfl, rfl⟩
  refine Zn (ret0 (cs' := [row _ _ _, slv _ _ _ _ _ _]) (.inr rfl) Zu rfl ?_)
  exact ⟨A2, c2, rfl, rfl⟩
theorem cwaits_ok (b : Nat) (Ao : Option Addr) (no co : Nat) (Ai : Option Addr) (ni ci : Nat) (w : World) (h : (conC b Ao no co Ai ni ci).ok w) : Ctr Tryz.prog 134 [.pointer (some ⟨b, 0, none⟩)] w [] (fun v cs => v = .int .i64 ni ∧ cs = []) := by
  refine fn_ctr Tryz.func134 rfl Tryz.ntmps134 rfl (Inv.start w) ?_
  refine Zs (Zr (Zg rfl (Zn (Zt (Zs (Zr (Zm rfl (Zy (y_nil (Zv rfl)) (Zy (y_field 1 rfl (Zv rfl) Zf) ?_)))))))))
  refine wl_y (y_load (fun _ => rfl) (Zv rfl)) (old_row (by assumption) rfl) rfl ?_
  refine Zy (y_len ⟨_, rfl⟩ (Zv rfl)) ?_
  refine Zg rfl (Zn (Zt (Ze (ret1 (cs' := []) (.inl rfl) Zu rfl rfl ?_))))
  exact ⟨rfl, rfl⟩
/-- The first byte goes. -/
theorem delete_ok (A : Option Addr) (c : Nat) (x : Int) (xs : List Int) (hl : xs.length ≤ 1000000000) (w : World) (hi : Inv w (blocks [b8 A c (x :: xs)]) [b8 A c (x :: xs)] w) : Ctr Tryz.prog 160 [.slice A (x :: xs).length c, .int .i64 0, .int .i64 1] w [b8 A c (x :: xs)] (fun v cs => ∃ A' c', v = .slice A' xs.length c' ∧ cs = [b8 A' c' xs]) := by
  have hrd0 := hi.rd (show Has _ (b8 A c (x :: xs)) from Zh)
  have hcap := hrd0.cap
  obtain ⟨bb, rfl⟩ := slv_some (hi.get (show Has _ (b8 A c (x :: xs)) from Zh)) (by simp)
  simp only [List.length_cons] at hcap
  have hxl : (x :: xs).length = xs.length + 1 := rfl
  obtain ⟨q0, hq0⟩ : ∃ q, (⟨bb, (if c = 1 then 0 else 1), none⟩ : Addr) = q := ⟨_, rfl⟩
  have hq1 : (some q0 : Option Addr) = (if c = 1 then some ⟨bb, 0, none⟩ else (some (⟨bb, 0, none⟩ : Addr)).map (·.add (1 * 1))) := by
    rw [← hq0]
    split <;> rfl
  refine fn_ctr Tryz.func160 rfl Tryz.ntmps160 rfl hi ?_
  refine Zs (Zr (Zg rfl (Zn (Zt (Zs (Zr (Zm rfl (Zm rfl (Zm rfl (Zm rfl (Zy (y_len ⟨_, rfl⟩ (Zv rfl)) ?_)))))))))))
  refine Zy (y_slice3 (lo := 0) (hi := 1) (mx := (x :: xs).length) rfl (fun _ => rfl) (Zv rfl) (Zv rfl) (Zv rfl) (Zv rfl) (by omega) (by omega) (by omega)) ?_
  refine Zn (Zt (Zs (Zs (Zr (Zm rfl (Zm rfl (Zy (y_eql (Zv rfl) (Zv rfl) rfl) (Zn (Zt (wc_cond_f rfl (rfl) ?_))))))))))
  refine Zc (Zt (Zs (Zr (Zm rfl (Zy (y_len ⟨_, rfl⟩ (Zv rfl)) ?_)))))
  refine Zg rfl (Zn (Zt (Zs (wc_draw ⟨fun j => List.elem j [6], []⟩ Zk ?_))))
  refine wa_yn 0 rfl Zk Zk Zk (y_move (Zv rfl)) rfl ?_
  refine wa_yn 1 rfl Zk Zk Zk (y_move (Zv rfl)) rfl ?_
  refine wa_yn 2 rfl Zk Zk Zk (y_slice0 0 rfl (fun _ => rfl) (Zv rfl) (Zv rfl) (fun _ => by first | rfl | omega) (fun _ => by omega)) rfl ?_
  refine wa_yn 3 rfl Zk Zk Zk (y_move (Zv rfl)) rfl ?_
  refine wa_yn 4 rfl Zk Zk Zk (y_move (Zv rfl)) rfl ?_
  refine wa_yn 5 rfl Zk Zk Zk (y_sliceT (lo := 1) (hi := (x :: xs).length) (r := q0) rfl (fun _ => rfl) (Zv rfl) (.inr ⟨_, _, rfl, (Zv rfl)⟩) (.inl ⟨rfl, rfl⟩) (by simp) (by simpa using hcap) hq1) rfl ?_
  refine wa_1 6 Zk ?_
  refine wi_t rfl rfl (t_appendR (e := 5) (bytes := 1) rfl (by omega) rfl Za rfl rfl (fun w hi => (by have h5 := (hi.rd (show Has _ (b8 (some ⟨bb, 0, none⟩) c (x :: xs)) from Zh)).cut (lo := 1) (hi := (x :: xs).length) (by simp) (Nat.le_refl _); rw [← hq1] at h5; exact h5)) (by rw [ints_take, ints_drop]; exact ints_one) (by omega)) (fun _ _ _ _ _ _ _ h => by cases h) rfl ?_
  rintro _ _ ⟨rfl, rfl⟩
  rw [show 0 + ((x :: xs).length - 1) = xs.length by simp, show (ints .u8 (x :: xs)).take 0 ++ ((ints .u8 (x :: xs)).take (x :: xs).length).drop 1 = ints .u8 xs from by (simp [ints]; exact List.take_of_length_le (by simp))]
  refine wa_yn 7 rfl Zk Zk Zk (y_assign (Zv rfl)) rfl ?_
  refine wa_done Zk ?_
  refine Zt (Zs (Zr (Zm rfl (Zm rfl (Zy (y_len ⟨_, rfl⟩ (Zv rfl)) ?_)))))
  refine Zm rfl (Zy (y_sliceS (sz := 1) (lo := xs.length) (hi := (x :: xs).length) (r := xs.length) rfl (fun _ => rfl) (Zv rfl) (.inr ⟨_, _, rfl, (Zv rfl)⟩) (.inr ⟨_, _, rfl, (Zv rfl)⟩) (by omega) (by omega) (by omega) (by omega)) ?_)
  refine wl_t0 (t_clear rfl Za rfl (fun _ => rfl) rfl rfl (Nat.le_refl _) (by simp only [List.length_cons]; omega)) ?_
  rintro _ _ ⟨rfl, rfl⟩
  refine Zn (Zt (Zs (Zr (Zm rfl (Zg rfl (Zn (Zt (Ze (ret1 (cs' := [slv _ _ _ _ _ _]) (.inl rfl) Zu rfl rfl ?_)))))))))
  exact ⟨_, _, rfl, rfl⟩
theorem cread_ok (b : Nat) (Ao : Option Addr) (no co : Nat) (Ai : Option Addr) (ci : Nat) (inp : List Int) (hl : inp.length ≤ 1000000000) (w : World) (hi : Inv w (blocks [conC b Ao no co Ai inp.length ci, b8 Ai ci inp]) [conC b Ao no co Ai inp.length ci, b8 Ai ci inp] w) : Ctr Tryz.prog 133 [.pointer (some ⟨b, 0, none⟩)] w [conC b Ao no co Ai inp.length ci, b8 Ai ci inp] (fun v cs => ∃ Ai' ci', v = .int .u8 (gB inp 0) ∧ cs = [b8 Ai' ci' inp.tail, conC b Ao no co Ai' inp.tail.length ci']) := by
  cases inp with
  | nil =>
    refine fn_ctr Tryz.func133 rfl Tryz.ntmps133 rfl hi ?_
    refine Zs (Zr (Zg rfl (Zn (Zt (Zs (Zs (Zr (Zm rfl (Zy (y_nil (Zv rfl)) (Zy (y_field 1 rfl (Zv rfl) Zf) ?_))))))))))
    refine Zz rfl ?_
    refine Zy (y_len ⟨_, rfl⟩ (Zv rfl)) ?_
    refine Zy (y_eql (Zv rfl) (Zv rfl) rfl) (Zn (Zt (wc_cond_t rfl (rfl) ?_)))
    refine Zs (Zr (Zg rfl (Zn (Zt (Ze (Zw (qok_pick [b8 Ai ci [], conC b Ao no co Ai 0 ci] Zj ?_)))))))
    refine ret1 (cs' := [slv _ _ _ _ _ _, row _ _ _]) (.inl rfl) Zu rfl rfl ?_
    exact ⟨_, _, rfl, rfl⟩
  | cons x xs =>
    have hxl : (x :: xs).length = xs.length + 1 := rfl
    have hc1' : (((x :: xs).length : Int) == 0) = false := by rw [beq_eq_false_iff_ne]; simp only [List.length_cons]; omega
    obtain ⟨bb, rfl⟩ := slv_some (hi.get (show Has _ (b8 Ai ci (x :: xs)) from Zh)) (by simp)
    refine fn_ctr Tryz.func133 rfl Tryz.ntmps133 rfl hi ?_
    refine Zs (Zr (Zg rfl (Zn (Zt (Zs (Zs (Zr (Zm rfl (Zy (y_nil (Zv rfl)) (Zy (y_field 1 rfl (Zv rfl) Zf) ?_))))))))))
    refine Zz rfl ?_
    refine Zy (y_len ⟨_, rfl⟩ (Zv rfl)) ?_
    refine Zy (y_eql (Zv rfl) (Zv rfl) rfl) (Zn (Zt (wc_cond_f rfl (hc1') ?_)))
    refine Zc (Zt (Zs (Zr (Zm rfl (Zy (y_nil (Zv rfl)) (Zy (y_field 1 rfl (Zv rfl) Zf) ?_))))))
    refine Zz rfl ?_
    refine Zy (y_indexR (j := 0) (sz := 1) (r := 0) rfl (fun _ => rfl) (Zv rfl) (Zv rfl) (fun _ => by omega) (fun _ => by omega) (by omega)) ?_
    refine wl_y (y_load (fun _ => rfl) (Zv rfl)) (sl_cellR (xs := ints .u8 (x :: xs)) Zh rfl) rfl ?_
    refine Zg rfl (Zn (Zt (Zs (Zr (Zm rfl (Zm rfl (Zy (y_nil (Zv rfl)) (Zy (y_field 1 rfl (Zv rfl) Zf) ?_))))))))
    refine Zz rfl ?_
    refine wl_t (t_callS ([b8 (some ⟨bb, 0, none⟩) ci (x :: xs)]) rfl (fun _ _ => rfl) Zi (fun w hi hin => delete_ok (some ⟨bb, 0, none⟩) ci x xs (by simp only [List.length_cons] at hl; omega) w hin)) rfl ?_
    rintro _ _ ⟨_, ⟨A2, c2, rfl, rfl⟩, rfl⟩
    refine Zy (y_nil (Zv rfl)) (Zy (y_field 1 rfl (Zv rfl) Zf) ?_)
    refine wl_t0 (t_store (fun _ => rfl) rfl rfl rfl Za Zp) ?_
    rintro _ _ ⟨rfl, rfl⟩
    refine Zn (Zt (Zs (Zr (Zm rfl (Zg rfl (Zn (Zt (Ze (ret1 (cs' := [slv _ _ _ _ _ _, row _ _ _]) (.inl rfl) Zu rfl rfl ?_)))))))))
    exact ⟨_, _, rfl, rfl⟩
end Go.Proofs.YtobjiljkfmcalaaGreat
