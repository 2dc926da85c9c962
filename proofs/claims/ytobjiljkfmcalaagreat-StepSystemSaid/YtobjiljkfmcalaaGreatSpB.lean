/- A new pool, a promise, a new table. -/
import Derived.Test.YtobjiljkfmcalaaGreatSpA
set_option linter.unusedSimpArgs false
set_option linter.unusedVariables false
set_option maxRecDepth 100000
namespace Go.Ink
open Go.RowKit
theorem rep_set {α : Type} {n k : Nat} (a b : α) (h : k < n) : (List.replicate k a ++ List.replicate (n - k) b).set k a = List.replicate (k + 1) a ++ List.replicate (n - (k + 1)) b := by
  rw [List.set_append_right _ _ (by simp), List.length_replicate, Nat.sub_self, show n - k = (n - (k + 1)) + 1 by omega, List.replicate_succ, List.set_cons_zero, List.replicate_succ', List.append_assoc]
  rfl
theorem rep_all {α : Type} (n : Nat) (a b : α) : List.replicate n a ++ List.replicate (n - n) b = List.replicate n a := by simp
theorem rep_none {α : Type} (n : Nat) (a b : α) : List.replicate 0 a ++ List.replicate (n - 0) b = List.replicate n b := by simp
theorem rep_int (k : IntKind) (n : Nat) (a : Int) : List.replicate n (Value.int k a) = ints k (List.replicate n a) := by simp [ints]
theorem rep_bool (n : Nat) (a : Bool) : List.replicate n (Value.bool a) = bools (List.replicate n a) := by simp [bools]
theorem pool_prs {B ow pr : List Int} (hl : PoolLen B ow pr) : ((poolCells B ow pr).drop 16640).take (ints .i64 pr).length = ints .i64 pr := by
  unfold poolCells
  rw [← List.append_assoc, List.drop_append, List.drop_eq_nil_of_le (by simp [ints_length, hl.b, hl.ow]), List.nil_append, show 16640 - (ints .u8 B ++ ints .i64 ow).length = 0 by simp [ints_length, hl.b, hl.ow], List.drop_zero, List.take_length]
/-- What the first owners are promised. -/
def sumTo (pr : List Int) (k : Nat) : Int := (pr.take k).foldl (fun s x => s + (if 0 > x then 0 else x)) 0
theorem sumTo_succ {pr : List Int} {k : Nat} (h : k < pr.length) : sumTo pr (k + 1) = sumTo pr k + (if 0 > pr[k]'h then 0 else pr[k]'h) := by
  unfold sumTo
  rw [List.take_succ_eq_append_getElem h, List.foldl_append]
  rfl
end Go.Ink
namespace Go.Proofs.YtobjiljkfmcalaaGreat
open Go.RowKit Go.Ink

theorem fnew_ok (w : World) : Ctr Tryz.prog 67 [] w [] (fun v cs => ∃ bp, v = .pointer (some ⟨bp, 0, none⟩) ∧ cs = [poolC bp (List.replicate 16384 0) (List.replicate 256 (-1)) (List.replicate 4 (-1))]) := by
  have hl1 : ∀ k, k ≤ 256 → PoolLen (List.replicate 16384 0) (List.replicate k (-1) ++ List.replicate (256 - k) 0) (List.replicate 4 0) := fun k hk => ⟨List.length_replicate, by simp; omega, rfl⟩
  have hl2 : ∀ k, k ≤ 4 → PoolLen (List.replicate 16384 0) (List.replicate 256 (-1)) (List.replicate k (-1) ++ List.replicate (4 - k) 0) := fun k hk => ⟨List.length_replicate, List.length_replicate, by simp; omega⟩
  refine fn_ctr Tryz.func67 rfl Tryz.ntmps67 rfl (Inv.start w) ?_
  refine wc_seq ?_
  refine wc_region ?_
  refine wl_y (y_assign (ev_rfl rfl)) (fun _ _ => trivial) rfl ?_
  refine wl_nil ?_
  refine q_then ?_
  refine wc_seq ?_
  refine wc_region ?_
  refine wl_y (y_build00 (vs := poolCells (List.replicate 16384 0) (List.replicate 256 0) (List.replicate 4 0)) (by kernel_rfl) (.inl ⟨_, rfl, rfl⟩)) (fun _ _ => trivial) rfl ?_
  refine wl_t (t_box rfl rfl) rfl ?_
  rintro _ _ ⟨b5, rfl, rfl⟩
  rw [← rep_none 256 (-1 : Int) 0]
  refine wl_y (y_assign (ev_rfl rfl)) (fun _ _ => trivial) rfl ?_
  refine wl_nil ?_
  refine q_then ?_
  refine wc_seq ?_
  refine wc_seq ?_
  refine wc_region ?_
  refine wl_y (y_move (ev_rfl rfl)) (fun _ _ => trivial) rfl ?_
  refine wl_nil ?_
  refine q_then ?_
  refine wc_block ?_
  refine wc_loop (fun k : Nat => [(1, .pointer (some ⟨b5, 0, none⟩)), (6, .int .i64 (k : Int))]) (fun k => [poolC b5 (List.replicate 16384 0) (List.replicate k (-1) ++ List.replicate (256 - k) 0) (List.replicate 4 0)]) (fun k => k ≤ 256) (fun k => 256 - k) (0) ?_ ?_ ?_ ?_
  · exact Nat.zero_le _
  · ((repeat' (refine Wk.cons ?_ ?_)) <;> first | exact Wk.nil | exact rfl | exact trivial | exact wk_num rfl (by omega) | exact wk_num rfl (by simp))
  · ((repeat (first | exact List.Sublist.slnil | refine List.Sublist.cons_cons _ ?_ | refine List.Sublist.cons _ ?_)))
  · rintro k hk
    refine wc_seq ?_
    refine wc_region ?_
    refine wl_y (y_lss (ev_rfl rfl) (ev_rfl rfl) rfl) (fun _ _ => trivial) rfl ?_
    refine wl_nil ?_
    refine q_then ?_
    refine wc_seq ?_
    refine wc_cond _ rfl (fun hc3 => ?_) (fun hc3 => ?_)
    · simp only [decide_eq_true_eq] at hc3
      refine wc_skip ?_
      refine q_then ?_
      refine wc_seq ?_
      refine wc_block ?_
      refine wc_seq ?_
      refine wc_region ?_
      refine wl_y (y_move (ev_rfl rfl)) (fun _ _ => trivial) rfl ?_
      refine wl_y (y_assign (ev_rfl rfl)) (fun _ _ => trivial) rfl ?_
      refine wl_nil ?_
      refine q_then ?_
      refine wc_region ?_
      refine wl_y (y_move (ev_rfl rfl)) (fun _ _ => trivial) rfl ?_
      refine wl_y (y_move (ev_rfl rfl)) (fun _ _ => trivial) rfl ?_
      refine wl_y (y_nil (ev_rfl rfl)) (fun _ _ => trivial) rfl ?_
      refine wl_y (y_field 16384 rfl (ev_rfl rfl) (by first | exact Nat.zero_add _ | exact rfl)) (fun _ _ => trivial) rfl ?_
      refine wl_y (y_indexA (j := k) (sz := 1) (r := 16384 + k) rfl (fun _ => rfl) (ev_rfl rfl) (ev_rfl rfl) (fun _ => by omega) (fun _ => by omega) (by omega)) (fun _ _ => trivial) rfl ?_
      refine wl_t0 (t_storeR (fun _ => rfl) rfl rfl rfl (by repeat (first | exact aH | apply aT)) (by rw [poolCells_len (hl1 k hk)]; omega)) ?_
      rintro _ _ ⟨rfl, rfl⟩
      rw [pool_setow (hl1 k hk) (by omega), rep_set _ _ (by omega)]
      refine wl_nil ?_
      refine q_block ?_
      refine q_then ?_
      refine wc_region ?_
      refine wl_y (y_add (ev_rfl rfl) (ev_rfl rfl) (by first | exact IntWalk.i64_in _ ⟨by omega, by omega⟩ | exact rfl)) (fun _ _ => trivial) rfl ?_
      refine wl_y (y_move (ev_rfl rfl)) (fun _ _ => trivial) rfl ?_
      refine wl_nil ?_
      refine q_mid (k + 1) ?_ ?_ ?_
      · exact ⟨by omega, by omega⟩
      · ((repeat' (refine Wk.cons ?_ ?_)) <;> first | exact Wk.nil | exact rfl | exact trivial | exact wk_num rfl (by omega) | exact wk_num rfl (by simp))
      · ((repeat (first | exact List.Sublist.slnil | refine List.Sublist.cons_cons _ ?_ | refine List.Sublist.cons _ ?_)))
    · simp only [decide_eq_false_iff_not] at hc3
      obtain rfl : k = 256 := by omega
      refine wc_exit ?_
      refine q_then_exit ?_
      refine q_then_exit ?_
      refine q_block_same rfl ?_
      refine q_then ?_
      refine wc_seq ?_
      refine wc_seq ?_
      refine wc_region ?_
      rw [rep_all, ← rep_none 4 (-1 : Int) 0]
      refine wl_y (y_move (ev_rfl rfl)) (fun _ _ => trivial) rfl ?_
      refine wl_nil ?_
      refine q_then ?_
      refine wc_block ?_
      refine wc_loop (fun k : Nat => [(1, .pointer (some ⟨b5, 0, none⟩)), (15, .int .i64 (k : Int))]) (fun k => [poolC b5 (List.replicate 16384 0) (List.replicate 256 (-1)) (List.replicate k (-1) ++ List.replicate (4 - k) 0)]) (fun k => k ≤ 4) (fun k => 4 - k) (0) ?_ ?_ ?_ ?_
      · exact Nat.zero_le _
      · ((repeat' (refine Wk.cons ?_ ?_)) <;> first | exact Wk.nil | exact rfl | exact trivial | exact wk_num rfl (by omega) | exact wk_num rfl (by simp))
      · ((repeat (first | exact List.Sublist.slnil | refine List.Sublist.cons_cons _ ?_ | refine List.Sublist.cons _ ?_)))
      · rintro k hk
        refine wc_seq ?_
        refine wc_region ?_
        refine wl_y (y_lss (ev_rfl rfl) (ev_rfl rfl) rfl) (fun _ _ => trivial) rfl ?_
        refine wl_nil ?_
        refine q_then ?_
        refine wc_seq ?_
        refine wc_cond _ rfl (fun hc8 => ?_) (fun hc8 => ?_)
        · simp only [decide_eq_true_eq] at hc8
          refine wc_skip ?_
          refine q_then ?_
          refine wc_seq ?_
          refine wc_block ?_
          refine wc_seq ?_
          refine wc_region ?_
          refine wl_y (y_move (ev_rfl rfl)) (fun _ _ => trivial) rfl ?_
          refine wl_y (y_assign (ev_rfl rfl)) (fun _ _ => trivial) rfl ?_
          refine wl_nil ?_
          refine q_then ?_
          refine wc_region ?_
          refine wl_y (y_move (ev_rfl rfl)) (fun _ _ => trivial) rfl ?_
          refine wl_y (y_move (ev_rfl rfl)) (fun _ _ => trivial) rfl ?_
          refine wl_y (y_nil (ev_rfl rfl)) (fun _ _ => trivial) rfl ?_
          refine wl_y (y_field 16640 rfl (ev_rfl rfl) (by first | exact Nat.zero_add _ | exact rfl)) (fun _ _ => trivial) rfl ?_
          refine wl_y (y_indexA (j := k) (sz := 1) (r := 16640 + k) rfl (fun _ => rfl) (ev_rfl rfl) (ev_rfl rfl) (fun _ => by omega) (fun _ => by omega) (by omega)) (fun _ _ => trivial) rfl ?_
          refine wl_t0 (t_storeR (fun _ => rfl) rfl rfl rfl (by repeat (first | exact aH | apply aT)) (by rw [poolCells_len (hl2 k hk)]; omega)) ?_
          rintro _ _ ⟨rfl, rfl⟩
          rw [pool_setpr (hl2 k hk), rep_set _ _ (by omega)]
          refine wl_nil ?_
          refine q_block ?_
          refine q_then ?_
          refine wc_region ?_
          refine wl_y (y_add (ev_rfl rfl) (ev_rfl rfl) (by first | exact IntWalk.i64_in _ ⟨by omega, by omega⟩ | exact rfl)) (fun _ _ => trivial) rfl ?_
          refine wl_y (y_move (ev_rfl rfl)) (fun _ _ => trivial) rfl ?_
          refine wl_nil ?_
          refine q_mid (k + 1) ?_ ?_ ?_
          · exact ⟨by omega, by omega⟩
          · ((repeat' (refine Wk.cons ?_ ?_)) <;> first | exact Wk.nil | exact rfl | exact trivial | exact wk_num rfl (by omega) | exact wk_num rfl (by simp))
          · ((repeat (first | exact List.Sublist.slnil | refine List.Sublist.cons_cons _ ?_ | refine List.Sublist.cons _ ?_)))
        · simp only [decide_eq_false_iff_not] at hc8
          obtain rfl : k = 4 := by omega
          refine wc_exit ?_
          refine q_then_exit ?_
          refine q_then_exit ?_
          refine q_block_same rfl ?_
          refine q_then ?_
          refine wc_seq ?_
          refine wc_region ?_
          rw [rep_all]
          refine wl_y (y_move (ev_rfl rfl)) (fun _ _ => trivial) rfl ?_
          refine wl_y (y_assign (ev_rfl rfl)) (fun _ _ => trivial) rfl ?_
          refine wl_nil ?_
          refine q_then ?_
          refine wc_ret ?_
          refine ret1 (cs' := [row _ _ _]) (.inl rfl) (by ((repeat (first | exact List.Sublist.slnil | refine List.Sublist.cons_cons _ ?_ | refine List.Sublist.cons _ ?_)))) rfl rfl ?_
          exact ⟨_, rfl, rfl⟩
theorem promise_ok (bp : Nat) (B ow pr : List Int) (hl : PoolLen B ow pr) (o n : Nat) (ho : o < 4) (hn : n ≤ 64) (h1 : pr[o]? = some (-1)) (hs : (n : Int) + sumTo pr 4 ≤ 240) (hb : ∀ x, x ∈ pr → x ≤ 1000) (w : World) (hi : Inv w (blocks [poolC bp B ow pr]) [poolC bp B ow pr] w) :
    Ctr Tryz.prog 104 [.pointer (some ⟨bp, 0, none⟩), .int .i64 o, .int .i64 n] w [poolC bp B ow pr] (fun v cs => v = .int .i64 0 ∧ cs = [poolC bp B ow (pr.set o n)]) := by
  have hpl := hl.pr
  have hbd : ∀ k, k ≤ 4 → 0 ≤ sumTo pr k ∧ sumTo pr k ≤ 1000 * (k : Int) := by
    intro k
    induction k with
    | zero => intro _; exact ⟨by simp [sumTo], by simp [sumTo]⟩
    | succ k ih =>
      intro hk
      have h1 := ih (by omega)
      have hkl : k < pr.length := by omega
      have h2 := hb _ (List.getElem_mem hkl)
      rw [sumTo_succ hkl]
      split <;> omega
  refine fn_ctr Tryz.func104 rfl Tryz.ntmps104 rfl hi ?_
  refine wc_seq ?_
  refine wc_region ?_
  refine wl_y (y_assign (ev_rfl rfl)) (fun _ _ => trivial) rfl ?_
  refine wl_nil ?_
  refine q_then ?_
  refine wc_seq ?_
  refine wc_block ?_
  refine wc_seq ?_
  refine wc_region ?_
  refine wl_y (y_move (ev_rfl rfl)) (fun _ _ => trivial) rfl ?_
  refine wl_t (t_call rfl (fun _ _ => rfl) (fun w hi => fis_ok o w)) rfl ?_
  rintro _ _ ⟨_, ⟨rfl, rfl⟩, rfl⟩
  rw [decide_eq_true (show (0 : Int) ≤ o by omega), decide_eq_true (show (o : Int) < 4 by omega)]
  refine wl_y (y_not (ev_rfl rfl) rfl) (fun _ _ => trivial) rfl ?_
  refine wl_y (y_move (ev_rfl rfl)) (fun _ _ => trivial) rfl ?_
  refine wl_yg (guard_no rfl rfl) (y_move (ev_rfl rfl)) (fun _ _ => trivial) rfl ?_
  refine wl_yg (guard_no rfl rfl) (y_lss (ev_g rfl) (ev_rfl rfl) rfl) (fun _ _ => trivial) rfl ?_
  refine wl_y (y_or (ev_rfl rfl) (pk_no rfl (fun _ => rfl))) (fun _ _ => trivial) rfl ?_
  refine wl_y (y_move (ev_rfl rfl)) (fun _ _ => trivial) rfl ?_
  refine wl_yg (guard_no rfl rfl) (y_move (ev_rfl rfl)) (fun _ _ => trivial) rfl ?_
  refine wl_yg (guard_no rfl rfl) (y_gtr (ev_g rfl) (ev_rfl rfl) rfl) (fun _ _ => trivial) rfl ?_
  refine wl_y (y_or (ev_rfl rfl) (pk_no rfl (fun _ => rfl))) (fun _ _ => trivial) rfl ?_
  refine wl_y (y_assign (ev_rfl rfl)) (fun _ _ => trivial) rfl ?_
  refine wl_nil ?_
  refine q_then ?_
  refine wc_cond_f rfl ((by rw [decide_eq_false (show ¬ (n : Int) < 0 by omega), decide_eq_false (show ¬ (64 : Int) < n by omega)]; rfl)) ?_
  refine wc_seq ?_
  refine wc_region ?_
  refine wl_y (y_move (ev_rfl rfl)) (fun _ _ => trivial) rfl ?_
  refine wl_y (y_move (ev_rfl rfl)) (fun _ _ => trivial) rfl ?_
  refine wl_y (y_nil (ev_rfl rfl)) (fun _ _ => trivial) rfl ?_
  refine wl_y (y_field 16640 rfl (ev_rfl rfl) (by first | exact Nat.zero_add _ | exact rfl)) (fun _ _ => trivial) rfl ?_
  refine wl_y (y_indexA (j := o) (sz := 1) (r := 16640 + o) rfl (fun _ => rfl) (ev_rfl rfl) (ev_rfl rfl) (fun _ => by omega) (fun _ => by omega) (by omega)) (fun _ _ => trivial) rfl ?_
  refine wl_y (y_load (fun _ => rfl) (ev_rfl rfl)) (row_cell (by repeat (first | exact .head _ _ | apply Has.tail)) (pool_pr hl h1)) rfl ?_
  refine wl_y (y_neq (ev_rfl rfl) (ev_rfl rfl) rfl) (fun _ _ => trivial) rfl ?_
  refine wl_y (y_assign (ev_rfl rfl)) (fun _ _ => trivial) rfl ?_
  refine wl_nil ?_
  refine q_then ?_
  refine wc_cond_f rfl (rfl) ?_
  refine wc_skip ?_
  refine q_block ?_
  refine q_then ?_
  refine wc_seq ?_
  refine wc_region ?_
  refine wl_y (y_move (ev_rfl rfl)) (fun _ _ => trivial) rfl ?_
  refine wl_y (y_assign (ev_rfl rfl)) (fun _ _ => trivial) rfl ?_
  refine wl_nil ?_
  refine q_then ?_
  refine wc_seq ?_
  refine wc_seq ?_
  refine wc_region ?_
  have e0 : sumTo pr 0 = 0 := rfl
  refine wl_y (y_move (ev_rfl rfl)) (fun _ _ => trivial) rfl ?_
  refine wl_y (y_nil (ev_rfl rfl)) (fun _ _ => trivial) rfl ?_
  refine wl_y (y_field 16640 rfl (ev_rfl rfl) (by first | exact Nat.zero_add _ | exact rfl)) (fun _ _ => trivial) rfl ?_
  refine wl_y (y_loadN (vs := ints .i64 pr) (fun _ => rfl) (fun w => by rw [ints_length, hpl]; rfl) (ev_rfl rfl)) (row_cells (o := 16640) (by repeat (first | exact .head _ _ | apply Has.tail)) (pool_prs hl)) rfl ?_
  refine wl_y (y_move (ev_rfl rfl)) (fun _ _ => trivial) rfl ?_
  refine wl_nil ?_
  refine q_then ?_
  refine wc_block ?_
  refine wc_loop (fun k : Nat => [(0, .pointer (some ⟨bp, 0, none⟩)), (1, .int .i64 o), (2, .int .i64 n), (7, .int .i64 (n + sumTo pr k)), (34, .agg (ints .i64 pr).toArray), (35, .int .i64 (k : Int))]) (fun _ => [poolC bp B ow pr]) (fun k => k ≤ 4) (fun k => 4 - k) (0) ?_ ?_ ?_ ?_
  · exact Nat.zero_le _
  · ((repeat' (refine Wk.cons ?_ ?_)) <;> first | exact Wk.nil | exact rfl | exact trivial | exact wk_num rfl (by omega) | exact wk_num rfl (by simp))
  · ((repeat (first | exact List.Sublist.slnil | refine List.Sublist.cons_cons _ ?_ | refine List.Sublist.cons _ ?_)))
  · rintro k hk
    refine wc_seq ?_
    refine wc_region ?_
    refine wl_y (y_lss (ev_rfl rfl) (ev_rfl rfl) rfl) (fun _ _ => trivial) rfl ?_
    refine wl_nil ?_
    refine q_then ?_
    refine wc_seq ?_
    refine wc_cond _ rfl (fun hc7 => ?_) (fun hc7 => ?_)
    · simp only [decide_eq_true_eq] at hc7
      have hkl : k < pr.length := by omega
      have hbk := hbd k hk
      have hbk2 := hb _ (List.getElem_mem hkl)
      refine wc_skip ?_
      refine q_then ?_
      refine wc_seq ?_
      refine wc_block ?_
      refine wc_seq ?_
      refine wc_region ?_
      refine wl_y (y_indexV (j := k) rfl (fun _ => rfl) (fun _ => rfl) (ev_rfl rfl) (ev_rfl rfl) (fun _ => by omega) (fun _ => by omega) (fun _ => ints_get hkl)) (fun _ _ => trivial) rfl ?_
      refine wl_y (y_assign (ev_rfl rfl)) (fun _ _ => trivial) rfl ?_
      refine wl_nil ?_
      refine q_then ?_
      refine wc_region ?_
      refine wl_y (y_move (ev_rfl rfl)) (fun _ _ => trivial) rfl ?_
      refine wl_y (y_move (ev_rfl rfl)) (fun _ _ => trivial) rfl ?_
      refine wl_y (y_max (ev_rfl rfl) (ev_rfl rfl) rfl) (fun _ _ => trivial) rfl ?_
      refine wl_y (y_add (ev_rfl rfl) (ev_rfl rfl) (show IntKind.i64.wrap _ = n + sumTo pr (k + 1) by rw [sumTo_succ hkl]; refine (IntWalk.i64_in _ ⟨?_, ?_⟩).trans (by omega) <;> split <;> omega)) (fun _ _ => trivial) rfl ?_
      refine wl_y (y_assign (ev_rfl rfl)) (fun _ _ => trivial) rfl ?_
      refine wl_nil ?_
      refine q_block ?_
      refine q_then ?_
      refine wc_region ?_
      refine wl_y (y_add (ev_rfl rfl) (ev_rfl rfl) (by first | exact IntWalk.i64_in _ ⟨by omega, by omega⟩ | exact rfl)) (fun _ _ => trivial) rfl ?_
      refine wl_y (y_move (ev_rfl rfl)) (fun _ _ => trivial) rfl ?_
      refine wl_nil ?_
      refine q_mid (k + 1) ?_ ?_ ?_
      · exact ⟨by omega, by omega⟩
      · ((repeat' (refine Wk.cons ?_ ?_)) <;> first | exact Wk.nil | exact rfl | exact trivial | exact wk_num rfl (by omega) | exact wk_num rfl (by simp))
      · ((repeat (first | exact List.Sublist.slnil | refine List.Sublist.cons_cons _ ?_ | refine List.Sublist.cons _ ?_)))
    · simp only [decide_eq_false_iff_not] at hc7
      obtain rfl : k = 4 := by omega
      refine wc_exit ?_
      refine q_then_exit ?_
      refine q_then_exit ?_
      refine q_block_same rfl ?_
      refine q_then ?_
      refine wc_seq ?_
      refine wc_seq ?_
      refine wc_region ?_
      refine wl_y (y_move (ev_rfl rfl)) (fun _ _ => trivial) rfl ?_
      refine wl_y (y_gtr (ev_rfl rfl) (ev_rfl rfl) rfl) (fun _ _ => trivial) rfl ?_
      refine wl_nil ?_
      refine q_then ?_
      refine wc_cond_f rfl ((decide_eq_false (by omega))) ?_
      refine wc_skip ?_
      refine q_then ?_
      refine wc_seq ?_
      refine wc_region ?_
      refine wl_y (y_move (ev_rfl rfl)) (fun _ _ => trivial) rfl ?_
      refine wl_y (y_move (ev_rfl rfl)) (fun _ _ => trivial) rfl ?_
      refine wl_y (y_move (ev_rfl rfl)) (fun _ _ => trivial) rfl ?_
      refine wl_y (y_nil (ev_rfl rfl)) (fun _ _ => trivial) rfl ?_
      refine wl_y (y_field 16640 rfl (ev_rfl rfl) (by first | exact Nat.zero_add _ | exact rfl)) (fun _ _ => trivial) rfl ?_
      refine wl_y (y_indexA (j := o) (sz := 1) (r := 16640 + o) rfl (fun _ => rfl) (ev_rfl rfl) (ev_rfl rfl) (fun _ => by omega) (fun _ => by omega) (by omega)) (fun _ _ => trivial) rfl ?_
      refine wl_t0 (t_storeR (fun _ => rfl) rfl rfl rfl (by repeat (first | exact aH | apply aT)) (by rw [poolCells_len hl]; omega)) ?_
      rintro _ _ ⟨rfl, rfl⟩
      rw [pool_setpr hl]
      refine wl_nil ?_
      refine q_then ?_
      refine wc_seq ?_
      refine wc_region ?_
      refine wl_y (y_assign (ev_rfl rfl)) (fun _ _ => trivial) rfl ?_
      refine wl_nil ?_
      refine q_then ?_
      refine wc_ret ?_
      refine ret1 (cs' := [row _ _ _]) (.inl rfl) (by ((repeat (first | exact List.Sublist.slnil | refine List.Sublist.cons_cons _ ?_ | refine List.Sublist.cons _ ?_)))) rfl rfl ?_
      exact ⟨rfl, rfl⟩
abbrev tabRow (bt bp : Nat) (o : Nat) (bf bg n : Nat) : Chunk := row bt [.pointer (some ⟨bp, 0, none⟩), .int .i64 o, .slice (some ⟨bf, 0, none⟩) n n, .slice (some ⟨bg, 0, none⟩) n n] 177
abbrev frC (bf n : Nat) (fr : List Int) : Chunk := sl .i64 3 (some ⟨bf, 0, none⟩) n n fr
abbrev gdC (bg n : Nat) (gd : List Bool) : Chunk := slv 4 1 (some ⟨bg, 0, none⟩) n n (bools gd)
theorem nnew_ok (bp : Nat) (B ow pr : List Int) (hl : PoolLen B ow pr) (o n : Nat) (ho : o < 4) (hn0 : 1 ≤ n) (hn : n ≤ 64) (h1 : pr[o]? = some (-1)) (hs : (n : Int) + sumTo pr 4 ≤ 240) (hb : ∀ x, x ∈ pr → x ≤ 1000) (w : World) (hi : Inv w (blocks [poolC bp B ow pr]) [poolC bp B ow pr] w) :
    Ctr Tryz.prog 68 [.pointer (some ⟨bp, 0, none⟩), .int .i64 o, .int .i64 n] w [poolC bp B ow pr] (fun v cs => ∃ bt bf bg, v = .tuple #[.pointer (some ⟨bt, 0, none⟩), .int .i64 0] ∧ cs = [poolC bp B ow (pr.set o n), tabRow bt bp o bf bg n, frC bf n (List.replicate n (-1)), gdC bg n (List.replicate n false)]) := by
  refine fn_ctr Tryz.func68 rfl Tryz.ntmps68 rfl hi ?_
  refine wc_seq ?_
  refine wc_region ?_
  refine wl_y (y_assign (ev_rfl rfl)) (fun _ _ => trivial) rfl ?_
  refine wl_y (y_assign (ev_rfl rfl)) (fun _ _ => trivial) rfl ?_
  refine wl_nil ?_
  refine q_then ?_
  refine wc_seq ?_
  refine wc_seq ?_
  refine wc_region ?_
  refine wl_y (y_move (ev_rfl rfl)) (fun _ _ => trivial) rfl ?_
  refine wl_y (y_pnil rfl (ev_rfl rfl)) (fun _ _ => trivial) rfl ?_
  refine wl_y (y_move (ev_rfl rfl)) (fun _ _ => trivial) rfl ?_
  refine wl_yg (guard_no rfl rfl) (y_move (ev_rfl rfl)) (fun _ _ => trivial) rfl ?_
  refine wl_yg (guard_no rfl rfl) (y_lss (ev_g rfl) (ev_rfl rfl) rfl) (fun _ _ => trivial) rfl ?_
  refine wl_y (y_or (ev_rfl rfl) (pk_no rfl (fun _ => rfl))) (fun _ _ => trivial) rfl ?_
  refine wl_y (y_move (ev_rfl rfl)) (fun _ _ => trivial) rfl ?_
  refine wl_yg (guard_no rfl rfl) (y_move (ev_rfl rfl)) (fun _ _ => trivial) rfl ?_
  refine wl_yg (guard_no rfl rfl) (y_geq (ev_g rfl) (ev_rfl rfl) rfl) (fun _ _ => trivial) rfl ?_
  refine wl_y (y_or (ev_rfl rfl) (pk_no rfl (fun _ => rfl))) (fun _ _ => trivial) rfl ?_
  refine wl_y (y_move (ev_rfl rfl)) (fun _ _ => trivial) rfl ?_
  refine wl_yg (guard_no rfl rfl) (y_move (ev_rfl rfl)) (fun _ _ => trivial) rfl ?_
  refine wl_yg (guard_no rfl rfl) (y_lss (ev_g rfl) (ev_rfl rfl) rfl) (fun _ _ => trivial) rfl ?_
  refine wl_y (y_or (ev_rfl rfl) (pk_no rfl (fun _ => rfl))) (fun _ _ => trivial) rfl ?_
  refine wl_y (y_move (ev_rfl rfl)) (fun _ _ => trivial) rfl ?_
  refine wl_yg (guard_no rfl rfl) (y_move (ev_rfl rfl)) (fun _ _ => trivial) rfl ?_
  refine wl_yg (guard_no rfl rfl) (y_gtr (ev_g rfl) (ev_rfl rfl) rfl) (fun _ _ => trivial) rfl ?_
  refine wl_y (y_or (ev_rfl rfl) (pk_no rfl (fun _ => rfl))) (fun _ _ => trivial) rfl ?_
  refine wl_nil ?_
  refine q_then ?_
  refine wc_cond_f rfl ((by rw [decide_eq_false (show ¬ (o : Int) < 0 by omega), decide_eq_false (show ¬ (4 : Int) ≤ o by omega), decide_eq_false (show ¬ (n : Int) < 1 by omega), decide_eq_false (show ¬ (64 : Int) < n by omega)]; rfl)) ?_
  refine wc_skip ?_
  refine q_then ?_
  refine wc_seq ?_
  refine wc_seq ?_
  refine wc_region ?_
  refine wl_y (y_move (ev_rfl rfl)) (fun _ _ => trivial) rfl ?_
  refine wl_y (y_move (ev_rfl rfl)) (fun _ _ => trivial) rfl ?_
  refine wl_y (y_move (ev_rfl rfl)) (fun _ _ => trivial) rfl ?_
  refine wl_t (t_callS ([poolC bp B ow pr]) rfl (fun _ _ => rfl) (by repeat (first | exact .nil _ | (apply Split.cons; (repeat (first | exact .head _ _ | apply Del.tail))))) (fun w hi hin => promise_ok bp B ow pr hl o n ho hn h1 hs hb w hin)) rfl ?_
  rintro _ _ ⟨_, ⟨rfl, rfl⟩, rfl⟩
  refine wl_y (y_assign (ev_rfl rfl)) (fun _ _ => trivial) rfl ?_
  refine wl_nil ?_
  refine q_then ?_
  refine wc_seq ?_
  refine wc_region ?_
  refine wl_y (y_move (ev_rfl rfl)) (fun _ _ => trivial) rfl ?_
  refine wl_y (y_neq (ev_rfl rfl) (ev_rfl rfl) rfl) (fun _ _ => trivial) rfl ?_
  refine wl_nil ?_
  refine q_then ?_
  refine wc_cond_f rfl (rfl) ?_
  refine wc_skip ?_
  refine q_then ?_
  refine wc_seq ?_
  refine wc_draw ⟨fun j => List.elem j [], []⟩ (by kernel_rfl) ?_
  refine wa_yn 0 rfl (by kernel_rfl) (by kernel_rfl) (by kernel_rfl) (y_move (ev_rfl rfl)) rfl ?_
  refine wa_yn 1 rfl (by kernel_rfl) (by kernel_rfl) (by kernel_rfl) (y_move (ev_rfl rfl)) rfl ?_
  refine wa_yn 2 rfl (by kernel_rfl) (by kernel_rfl) (by kernel_rfl) (y_move (ev_rfl rfl)) rfl ?_
  refine wa_yn 4 rfl (by kernel_rfl) (by kernel_rfl) (by kernel_rfl) (y_move (ev_rfl rfl)) rfl ?_
  refine wa_2 3 5 (by kernel_rfl) ?_ ?_
  · refine wi_t rfl rfl (t_make (bytes := 8) (n := n) rfl rfl rfl rfl rfl rfl rfl (by omega) (by simp only [maxLen]; omega)) (fun _ _ _ _ _ _ _ h => by cases h) rfl ?_
    rintro _ _ ⟨b39, rfl, rfl⟩
    refine wa_1 5 (by kernel_rfl) ?_
    refine wi_t rfl rfl (t_make (bytes := 1) (n := n) rfl rfl rfl rfl rfl rfl rfl (by omega) (by simp only [maxLen]; omega)) (fun _ _ _ _ _ _ _ h => by cases h) rfl ?_
    rintro _ _ ⟨b41, rfl, rfl⟩
    refine wa_yn 6 rfl (by kernel_rfl) (by kernel_rfl) (by kernel_rfl) (y_build rfl rfl (fun _ => rfl) rfl rfl rfl (by (repeat (first | exact BuildTo.nil _ | (apply BuildTo.cons; (repeat (first | exact SetAt.zero _ _ _ | apply SetAt.succ))))))) rfl ?_
    refine wa_1 7 (by kernel_rfl) ?_
    refine wi_t rfl rfl (t_box rfl rfl) (fun _ _ _ _ _ _ _ h => by cases h) rfl ?_
    rintro _ _ ⟨b43, rfl, rfl⟩
    refine wa_yn 8 rfl (by kernel_rfl) (by kernel_rfl) (by kernel_rfl) (y_assign (ev_rfl rfl)) rfl ?_
    refine wa_done (by kernel_rfl) ?_
    refine q_then ?_
    refine wc_seq ?_
    refine wc_seq ?_
    refine wc_region ?_
    rw [rep_int, rep_bool, ← rep_none n (-1 : Int) 0]
    refine wl_pick [poolC bp B ow (pr.set o n), tabRow b43 bp o b39 b41 n, frC b39 n (List.replicate 0 (-1) ++ List.replicate (n - 0) 0), gdC b41 n (List.replicate n false)] (by repeat (first | exact .nil _ | (refine .cons (by repeat (first | exact .head _ _ | apply Del.tail)) ?_))) ?_
    refine wl_y (y_move (ev_rfl rfl)) (fun _ _ => trivial) rfl ?_
    refine wl_y (y_nil (ev_rfl rfl)) (fun _ _ => trivial) rfl ?_
    refine wl_y (y_field 2 rfl (ev_rfl rfl) (by first | exact Nat.zero_add _ | exact rfl)) (fun _ _ => trivial) rfl ?_
    refine wl_y (y_load (fun _ => rfl) (ev_rfl rfl)) (row_cell (by repeat (first | exact .head _ _ | apply Has.tail)) rfl) rfl ?_
    refine wl_y (y_len ⟨_, rfl⟩ (ev_rfl rfl)) (fun _ _ => trivial) rfl ?_
    refine wl_y (y_move (ev_rfl rfl)) (fun _ _ => trivial) rfl ?_
    refine wl_nil ?_
    refine q_then ?_
    refine wc_block ?_
    refine wc_loop (fun k : Nat => [(9, .pointer (some ⟨b43, 0, none⟩)), (48, .int .i64 n), (49, .int .i64 (k : Int))]) (fun k => [poolC bp B ow (pr.set o n), tabRow b43 bp o b39 b41 n, frC b39 n (List.replicate k (-1) ++ List.replicate (n - k) 0), gdC b41 n (List.replicate n false)]) (fun k => k ≤ n) (fun k => n - k) (0) ?_ ?_ ?_ ?_
    · exact Nat.zero_le _
    · ((repeat' (refine Wk.cons ?_ ?_)) <;> first | exact Wk.nil | exact rfl | exact trivial | exact wk_num rfl (by omega) | exact wk_num rfl (by simp))
    · ((repeat (first | exact List.Sublist.slnil | refine List.Sublist.cons_cons _ ?_ | refine List.Sublist.cons _ ?_)))
    · rintro k hk
      refine wc_seq ?_
      refine wc_region ?_
      refine wl_y (y_lss (ev_rfl rfl) (ev_rfl rfl) rfl) (fun _ _ => trivial) rfl ?_
      refine wl_nil ?_
      refine q_then ?_
      refine wc_seq ?_
      refine wc_cond _ rfl (fun hc8 => ?_) (fun hc8 => ?_)
      · simp only [decide_eq_true_eq] at hc8
        refine wc_skip ?_
        refine q_then ?_
        refine wc_seq ?_
        refine wc_block ?_
        refine wc_seq ?_
        refine wc_region ?_
        refine wl_y (y_move (ev_rfl rfl)) (fun _ _ => trivial) rfl ?_
        refine wl_y (y_assign (ev_rfl rfl)) (fun _ _ => trivial) rfl ?_
        refine wl_nil ?_
        refine q_then ?_
        refine wc_region ?_
        refine wl_y (y_move (ev_rfl rfl)) (fun _ _ => trivial) rfl ?_
        refine wl_y (y_nil (ev_rfl rfl)) (fun _ _ => trivial) rfl ?_
        refine wl_y (y_field 2 rfl (ev_rfl rfl) (by first | exact Nat.zero_add _ | exact rfl)) (fun _ _ => trivial) rfl ?_
        refine wl_y (y_load (fun _ => rfl) (ev_rfl rfl)) (row_cell (by repeat (first | exact .head _ _ | apply Has.tail)) rfl) rfl ?_
        refine wl_y (y_move (ev_rfl rfl)) (fun _ _ => trivial) rfl ?_
        refine wl_y (y_indexR (j := k) (sz := 1) (r := k) rfl (fun _ => rfl) (ev_rfl rfl) (ev_rfl rfl) (fun _ => by omega) (fun _ => by omega) (by omega)) (fun _ _ => trivial) rfl ?_
        refine wl_t0 (t_storeS (fun _ => rfl) rfl rfl rfl (by repeat (first | exact aH | apply aT)) (by omega)) ?_
        rintro _ _ ⟨rfl, rfl⟩
        rw [ints_set', rep_set _ _ (by omega)]
        refine wl_nil ?_
        refine q_block ?_
        refine q_then ?_
        refine wc_region ?_
        refine wl_y (y_add (ev_rfl rfl) (ev_rfl rfl) (by first | exact IntWalk.i64_in _ ⟨by omega, by omega⟩ | exact rfl)) (fun _ _ => trivial) rfl ?_
        refine wl_y (y_move (ev_rfl rfl)) (fun _ _ => trivial) rfl ?_
        refine wl_nil ?_
        refine q_mid (k + 1) ?_ ?_ ?_
        · exact ⟨by omega, by omega⟩
        · ((repeat' (refine Wk.cons ?_ ?_)) <;> first | exact Wk.nil | exact rfl | exact trivial | exact wk_num rfl (by omega) | exact wk_num rfl (by simp))
        · ((repeat (first | exact List.Sublist.slnil | refine List.Sublist.cons_cons _ ?_ | refine List.Sublist.cons _ ?_)))
      · simp only [decide_eq_false_iff_not] at hc8
        obtain rfl : k = n := by omega
        rw [rep_all]
        refine wc_exit ?_
        refine q_then_exit ?_
        refine q_then_exit ?_
        refine q_block_same rfl ?_
        refine q_then ?_
        refine wc_seq ?_
        refine wc_region ?_
        refine wl_y (y_move (ev_rfl rfl)) (fun _ _ => trivial) rfl ?_
        refine wl_y (y_assign (ev_rfl rfl)) (fun _ _ => trivial) rfl ?_
        refine wl_y (y_assign (ev_rfl rfl)) (fun _ _ => trivial) rfl ?_
        refine wl_nil ?_
        refine q_then ?_
        refine wc_ret ?_
        refine ret2 (cs' := [row _ _ _, row _ _ _, slv _ _ _ _ _ _, slv _ _ _ _ _ _]) (.inl rfl) (by ((repeat (first | exact List.Sublist.slnil | refine List.Sublist.cons_cons _ ?_ | refine List.Sublist.cons _ ?_)))) rfl rfl rfl ?_
        exact ⟨_, _, _, rfl, rfl⟩
  · refine wi_t rfl rfl (t_make (bytes := 1) (n := n) rfl rfl rfl rfl rfl rfl rfl (by omega) (by simp only [maxLen]; omega)) (fun _ _ _ _ _ _ _ h => by cases h) rfl ?_
    rintro _ _ ⟨b41, rfl, rfl⟩
    refine wa_1 3 (by kernel_rfl) ?_
    refine wi_t rfl rfl (t_make (bytes := 8) (n := n) rfl rfl rfl rfl rfl rfl rfl (by omega) (by simp only [maxLen]; omega)) (fun _ _ _ _ _ _ _ h => by cases h) rfl ?_
    rintro _ _ ⟨b39, rfl, rfl⟩
    refine wa_yn 6 rfl (by kernel_rfl) (by kernel_rfl) (by kernel_rfl) (y_build rfl rfl (fun _ => rfl) rfl rfl rfl (by (repeat (first | exact BuildTo.nil _ | (apply BuildTo.cons; (repeat (first | exact SetAt.zero _ _ _ | apply SetAt.succ))))))) rfl ?_
    refine wa_1 7 (by kernel_rfl) ?_
    refine wi_t rfl rfl (t_box rfl rfl) (fun _ _ _ _ _ _ _ h => by cases h) rfl ?_
    rintro _ _ ⟨b43, rfl, rfl⟩
    refine wa_yn 8 rfl (by kernel_rfl) (by kernel_rfl) (by kernel_rfl) (y_assign (ev_rfl rfl)) rfl ?_
    refine wa_done (by kernel_rfl) ?_
    refine q_then ?_
    refine wc_seq ?_
    refine wc_seq ?_
    refine wc_region ?_
    rw [rep_int, rep_bool, ← rep_none n (-1 : Int) 0]
    refine wl_pick [poolC bp B ow (pr.set o n), tabRow b43 bp o b39 b41 n, frC b39 n (List.replicate 0 (-1) ++ List.replicate (n - 0) 0), gdC b41 n (List.replicate n false)] (by repeat (first | exact .nil _ | (refine .cons (by repeat (first | exact .head _ _ | apply Del.tail)) ?_))) ?_
    refine wl_y (y_move (ev_rfl rfl)) (fun _ _ => trivial) rfl ?_
    refine wl_y (y_nil (ev_rfl rfl)) (fun _ _ => trivial) rfl ?_
    refine wl_y (y_field 2 rfl (ev_rfl rfl) (by first | exact Nat.zero_add _ | exact rfl)) (fun _ _ => trivial) rfl ?_
    refine wl_y (y_load (fun _ => rfl) (ev_rfl rfl)) (row_cell (by repeat (first | exact .head _ _ | apply Has.tail)) rfl) rfl ?_
    refine wl_y (y_len ⟨_, rfl⟩ (ev_rfl rfl)) (fun _ _ => trivial) rfl ?_
    refine wl_y (y_move (ev_rfl rfl)) (fun _ _ => trivial) rfl ?_
    refine wl_nil ?_
    refine q_then ?_
    refine wc_block ?_
    refine wc_loop (fun k : Nat => [(9, .pointer (some ⟨b43, 0, none⟩)), (48, .int .i64 n), (49, .int .i64 (k : Int))]) (fun k => [poolC bp B ow (pr.set o n), tabRow b43 bp o b39 b41 n, frC b39 n (List.replicate k (-1) ++ List.replicate (n - k) 0), gdC b41 n (List.replicate n false)]) (fun k => k ≤ n) (fun k => n - k) (0) ?_ ?_ ?_ ?_
    · exact Nat.zero_le _
    · ((repeat' (refine Wk.cons ?_ ?_)) <;> first | exact Wk.nil | exact rfl | exact trivial | exact wk_num rfl (by omega) | exact wk_num rfl (by simp))
    · ((repeat (first | exact List.Sublist.slnil | refine List.Sublist.cons_cons _ ?_ | refine List.Sublist.cons _ ?_)))
    · rintro k hk
      refine wc_seq ?_
      refine wc_region ?_
      refine wl_y (y_lss (ev_rfl rfl) (ev_rfl rfl) rfl) (fun _ _ => trivial) rfl ?_
      refine wl_nil ?_
      refine q_then ?_
      refine wc_seq ?_
      refine wc_cond _ rfl (fun hc8 => ?_) (fun hc8 => ?_)
      · simp only [decide_eq_true_eq] at hc8
        refine wc_skip ?_
        refine q_then ?_
        refine wc_seq ?_
        refine wc_block ?_
        refine wc_seq ?_
        refine wc_region ?_
        refine wl_y (y_move (ev_rfl rfl)) (fun _ _ => trivial) rfl ?_
        refine wl_y (y_assign (ev_rfl rfl)) (fun _ _ => trivial) rfl ?_
        refine wl_nil ?_
        refine q_then ?_
        refine wc_region ?_
        refine wl_y (y_move (ev_rfl rfl)) (fun _ _ => trivial) rfl ?_
        refine wl_y (y_nil (ev_rfl rfl)) (fun _ _ => trivial) rfl ?_
        refine wl_y (y_field 2 rfl (ev_rfl rfl) (by first | exact Nat.zero_add _ | exact rfl)) (fun _ _ => trivial) rfl ?_
        refine wl_y (y_load (fun _ => rfl) (ev_rfl rfl)) (row_cell (by repeat (first | exact .head _ _ | apply Has.tail)) rfl) rfl ?_
        refine wl_y (y_move (ev_rfl rfl)) (fun _ _ => trivial) rfl ?_
        refine wl_y (y_indexR (j := k) (sz := 1) (r := k) rfl (fun _ => rfl) (ev_rfl rfl) (ev_rfl rfl) (fun _ => by omega) (fun _ => by omega) (by omega)) (fun _ _ => trivial) rfl ?_
        refine wl_t0 (t_storeS (fun _ => rfl) rfl rfl rfl (by repeat (first | exact aH | apply aT)) (by omega)) ?_
        rintro _ _ ⟨rfl, rfl⟩
        rw [ints_set', rep_set _ _ (by omega)]
        refine wl_nil ?_
        refine q_block ?_
        refine q_then ?_
        refine wc_region ?_
        refine wl_y (y_add (ev_rfl rfl) (ev_rfl rfl) (by first | exact IntWalk.i64_in _ ⟨by omega, by omega⟩ | exact rfl)) (fun _ _ => trivial) rfl ?_
        refine wl_y (y_move (ev_rfl rfl)) (fun _ _ => trivial) rfl ?_
        refine wl_nil ?_
        refine q_mid (k + 1) ?_ ?_ ?_
        · exact ⟨by omega, by omega⟩
        · ((repeat' (refine Wk.cons ?_ ?_)) <;> first | exact Wk.nil | exact rfl | exact trivial | exact wk_num rfl (by omega) | exact wk_num rfl (by simp))
        · ((repeat (first | exact List.Sublist.slnil | refine List.Sublist.cons_cons _ ?_ | refine List.Sublist.cons _ ?_)))
      · simp only [decide_eq_false_iff_not] at hc8
        obtain rfl : k = n := by omega
        rw [rep_all]
        refine wc_exit ?_
        refine q_then_exit ?_
        refine q_then_exit ?_
        refine q_block_same rfl ?_
        refine q_then ?_
        refine wc_seq ?_
        refine wc_region ?_
        refine wl_y (y_move (ev_rfl rfl)) (fun _ _ => trivial) rfl ?_
        refine wl_y (y_assign (ev_rfl rfl)) (fun _ _ => trivial) rfl ?_
        refine wl_y (y_assign (ev_rfl rfl)) (fun _ _ => trivial) rfl ?_
        refine wl_nil ?_
        refine q_then ?_
        refine wc_ret ?_
        refine ret2 (cs' := [row _ _ _, row _ _ _, slv _ _ _ _ _ _, slv _ _ _ _ _ _]) (.inl rfl) (by ((repeat (first | exact List.Sublist.slnil | refine List.Sublist.cons_cons _ ?_ | refine List.Sublist.cons _ ?_)))) rfl rfl rfl ?_
        exact ⟨_, _, _, rfl, rfl⟩
end Go.Proofs.YtobjiljkfmcalaaGreat
