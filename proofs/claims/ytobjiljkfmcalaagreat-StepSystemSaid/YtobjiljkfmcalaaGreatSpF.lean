/- A guest's memory: the rest of the walks, and a new one. -/
import Derived.Test.YtobjiljkfmcalaaGreatSpE
set_option linter.unusedSimpArgs false
set_option linter.unusedVariables false
set_option maxRecDepth 100000
namespace Go.Ink
open Go.RowKit
/-- Bytes that are taken over one by one. -/
def cpy (d : List Int) (o n k : Nat) : List Int := (List.range k).map (fun j => gB d (o + j)) ++ List.replicate (n - k) 0
theorem cpy_zero (d : List Int) (o n : Nat) : cpy d o n 0 = List.replicate n 0 := by simp [cpy]
theorem cpy_len (d : List Int) (o : Nat) {n k : Nat} (h : k ≤ n) : (cpy d o n k).length = n := by simp [cpy]; omega
theorem cpy_set (d : List Int) (o : Nat) {n k : Nat} (h : k < n) : (cpy d o n k).set k (gB d (o + k)) = cpy d o n (k + 1) := by
  unfold cpy
  rw [List.set_append_right _ _ (by simp), List.length_map, List.length_range, Nat.sub_self, show n - k = (n - (k + 1)) + 1 by omega, List.replicate_succ, List.set_cons_zero, List.range_succ, List.map_append, List.append_assoc]
  rfl
theorem cpy_all {d : List Int} {o n : Nat} (h : o + n ≤ d.length) : cpy d o n n = (d.drop o).take n := by
  unfold cpy
  rw [Nat.sub_self, List.replicate_zero, List.append_nil]
  apply List.ext_getElem?
  intro j
  rw [List.getElem?_map, List.getElem?_take, List.getElem?_drop]
  by_cases hj : j < n
  · rw [List.getElem?_range hj, if_pos hj, gB_at (by omega)]
    rfl
  · rw [List.getElem?_eq_none (by simp; omega), if_neg hj]
    rfl
/-- The places that are true, as far as the k-th. -/
def trues (tu : List Bool) (k : Nat) : List Int := ((List.range k).filter (fun f => tu.getD f false)).map (fun f : Nat => (f : Int))
theorem trues_succ (tu : List Bool) (k : Nat) : trues tu (k + 1) = trues tu k ++ (bif tu.getD k false then [(k : Int)] else []) := by
  unfold trues
  rw [List.range_succ, List.filter_append, List.map_append]
  congr 1
  cases h : tu.getD k false <;> simp only [List.filter_cons, h, List.filter_nil, if_true, List.map_cons, List.map_nil, cond_true, cond_false, Bool.false_eq_true, if_false]
theorem trues_le (tu : List Bool) (k : Nat) : (trues tu k).length ≤ k := by
  unfold trues
  rw [List.length_map]
  exact Nat.le_trans (List.length_filter_le _ _) (by simp)
theorem bools_getD {l : List Bool} {j : Nat} (h : j < l.length) : (bools l)[j]? = some (.bool (l.getD j false)) := by
  apply bools_at
  simp [h]
theorem fill_data (M : Mem) (l : List Int) : ∀ k, k ≤ l.length → l.length ≤ M.data.length → (M.fill 0 l k).data = l.take k ++ M.data.drop k
  | 0, _, _ => by simp [Mem.fill]
  | k + 1, h, h2 => by
    have ih := fill_data M l k (by omega) h2
    rw [Mem.fill]
    show (M.fill 0 l k).data.set (0 + k) (gB l k) = _
    rw [ih, Nat.zero_add, List.set_append_right _ _ (by rw [List.length_take]; omega), List.length_take, show k - min k l.length = 0 by omega]
    have e1 : M.data.drop k = M.data[k]'(by omega) :: M.data.drop (k + 1) := List.drop_eq_getElem_cons (by omega)
    have e2 : l.take (k + 1) = l.take k ++ [gB l k] := by
      rw [List.take_add_one, gB_at (by omega)]
      rfl
    rw [e1, List.set_cons_zero, e2, List.append_assoc]
    rfl
/-- A memory that begins with some bytes. -/
def Mem.init (n : Nat) (b : List Int) : Mem := ⟨b ++ List.replicate (n * 64 - b.length) 0, List.replicate 64 false⟩
theorem Mem.init_eq {n : Nat} {b : List Int} (h : b.length ≤ n * 64) : ((Mem.new n).fill 0 b b.length).calm = Mem.init n b := by
  unfold Mem.calm Mem.init
  rw [fill_data _ _ _ (Nat.le_refl _) (by simp [Mem.new]; exact h), List.take_length]
  simp [Mem.new]
end Go.Ink
namespace Go.Proofs.YtobjiljkfmcalaaGreat
open Go.RowKit Go.Ink

theorem rput_ok (L : MLoc) (M : Mem) (a : Nat) (ha : a < L.n * 64) (b : Int) (hb : 0 ≤ b ∧ b ≤ 255) (w : World) (hi : Inv w (blocks [memC L M]) [memC L M] w) :
    Ctr Tryz.prog 105 [.pointer (some ⟨L.bm, 0, none⟩), .int .u32 a, .int .u8 b] w [memC L M] (fun v cs => v = .bool true ∧ cs = [memC L (M.put a b)]) :=
  ctr_E hi fun k hr hi' => rput_in L M a ha b hb w k hr hi'
theorem mem_n {L : MLoc} {M : Mem} {w : World} (h : (memC L M).ok w) : 1 ≤ L.n ∧ L.n ≤ 64 ∧ M.data.length = L.n * 64 ∧ u8s M.data ∧ M.turned.length = 64 := by
  obtain ⟨k, hr, _⟩ := mem_ok h
  exact ⟨hr.n1, hr.n64, hr.dl, hr.db, hr.tl⟩
theorem rbyte_ok (L : MLoc) (M : Mem) (a : Nat) (ha : a < L.n * 64) (w : World) (h : (memC L M).ok w) : Ctr Tryz.prog 142 [.pointer (some ⟨L.bm, 0, none⟩), .int .u32 a] w [] (fun v cs => v = .tuple #[.int .u8 (gB M.data a), .bool true] ∧ cs = []) := by
  obtain ⟨n1, n64, _⟩ := mem_n h
  refine fn_ctr Tryz.func142 rfl Tryz.ntmps142 rfl (Inv.start w) ?_
  refine wc_seq ?_
  refine wc_region ?_
  refine wl_y (y_assign (ev_rfl rfl)) (fun _ _ => trivial) rfl ?_
  refine wl_y (y_assign (ev_rfl rfl)) (fun _ _ => trivial) rfl ?_
  refine wl_nil ?_
  refine q_then ?_
  refine wc_seq ?_
  refine wc_seq ?_
  refine wc_region ?_
  refine wl_y (y_move (ev_rfl rfl)) (fun _ _ => trivial) rfl ?_
  refine wl_y (y_move (ev_rfl rfl)) (fun _ _ => trivial) rfl ?_
  refine wl_t (t_call rfl (fun _ _ => rfl) (fun w hi => ris_ok L M a 1 (by omega) (by omega) w (Chunk.old h hi))) rfl ?_
  rintro _ _ ⟨_, ⟨rfl, rfl⟩, rfl⟩
  rw [decide_eq_true (show a + 1 ≤ L.n * 64 by omega)]
  refine wl_y (y_not (ev_rfl rfl) rfl) (fun _ _ => trivial) rfl ?_
  refine wl_nil ?_
  refine q_then ?_
  refine wc_cond_f rfl (rfl) ?_
  refine wc_skip ?_
  refine q_then ?_
  refine wc_seq ?_
  refine wc_region ?_
  refine wl_y (y_move (ev_rfl rfl)) (fun _ _ => trivial) rfl ?_
  refine wl_y (y_move (ev_rfl rfl)) (fun _ _ => trivial) rfl ?_
  refine wl_t (t_call rfl (fun _ _ => rfl) (fun w hi => rget_ok L M a ha w (Chunk.old h hi))) rfl ?_
  rintro _ _ ⟨_, ⟨rfl, rfl⟩, rfl⟩
  refine wl_y (y_assign (ev_rfl rfl)) (fun _ _ => trivial) rfl ?_
  refine wl_y (y_assign (ev_rfl rfl)) (fun _ _ => trivial) rfl ?_
  refine wl_nil ?_
  refine q_then ?_
  refine wc_ret ?_
  refine ret2 (cs' := []) (.inl rfl) (by ((repeat (first | exact List.Sublist.slnil | refine List.Sublist.cons_cons _ ?_ | refine List.Sublist.cons _ ?_)))) rfl rfl rfl ?_
  exact ⟨rfl, rfl⟩
/-- What a word is told as. -/
def wordV (L : MLoc) (M : Mem) (a : Nat) : Value := bif decide (a + 4 ≤ L.n * 64) then .tuple #[.int .u32 (wordAt M.data a), .bool true] else .tuple #[.int .u32 0, .bool false]
theorem rword_ok (L : MLoc) (M : Mem) (a : Nat) (ha : a ≤ 4294967295) (w : World) (h : (memC L M).ok w) : Ctr Tryz.prog 113 [.pointer (some ⟨L.bm, 0, none⟩), .int .u32 a] w [] (fun v cs => v = wordV L M a ∧ cs = []) := by
  obtain ⟨n1, n64, hdl, hdb, htl⟩ := mem_n h
  refine fn_ctr Tryz.func113 rfl Tryz.ntmps113 rfl (Inv.start w) ?_
  refine wc_seq ?_
  refine wc_region ?_
  refine wl_y (y_assign (ev_rfl rfl)) (fun _ _ => trivial) rfl ?_
  refine wl_y (y_assign (ev_rfl rfl)) (fun _ _ => trivial) rfl ?_
  refine wl_nil ?_
  refine q_then ?_
  refine wc_seq ?_
  refine wc_seq ?_
  refine wc_region ?_
  refine wl_y (y_move (ev_rfl rfl)) (fun _ _ => trivial) rfl ?_
  refine wl_y (y_move (ev_rfl rfl)) (fun _ _ => trivial) rfl ?_
  refine wl_t (t_call rfl (fun _ _ => rfl) (fun w hi => ris_ok L M a 4 ha (by omega) w (Chunk.old h hi))) rfl ?_
  rintro _ _ ⟨_, ⟨rfl, rfl⟩, rfl⟩
  refine wl_y (y_not (ev_rfl rfl) rfl) (fun _ _ => trivial) rfl ?_
  refine wl_nil ?_
  refine q_then ?_
  refine wc_cond _ rfl (fun hc1 => ?_) (fun hc1 => ?_)
  · have hc : decide (a + 4 ≤ L.n * 64) = false := by simpa using hc1
    refine wc_seq ?_
    refine wc_region ?_
    refine wl_y (y_assign (ev_rfl rfl)) (fun _ _ => trivial) rfl ?_
    refine wl_y (y_assign (ev_rfl rfl)) (fun _ _ => trivial) rfl ?_
    refine wl_nil ?_
    refine q_then ?_
    refine wc_ret ?_
    refine q_then_ret ?_
    refine ret2 (cs' := []) (.inl rfl) (by ((repeat (first | exact List.Sublist.slnil | refine List.Sublist.cons_cons _ ?_ | refine List.Sublist.cons _ ?_)))) rfl rfl rfl ?_
    unfold wordV
    rw [hc]
    exact ⟨rfl, rfl⟩
  · have hc : decide (a + 4 ≤ L.n * 64) = true := by simpa using hc1
    have hle : a + 4 ≤ L.n * 64 := of_decide_eq_true hc
    refine wc_skip ?_
    refine q_then ?_
    refine wc_seq ?_
    refine wc_region ?_
    refine wl_y (y_assign (ev_rfl rfl)) (fun _ _ => trivial) rfl ?_
    refine wl_nil ?_
    refine q_then ?_
    refine wc_seq ?_
    refine wc_seq ?_
    refine wc_region ?_
    refine wl_y (y_assign (ev_rfl rfl)) (fun _ _ => trivial) rfl ?_
    refine wl_nil ?_
    refine q_then ?_
    refine wc_block ?_
    refine wc_loop (fun i : Nat => [(0, .pointer (some ⟨L.bm, 0, none⟩)), (1, .int .u32 a), (6, .int .u32 (wFrom M.data a i)), (7, .int .u32 (4 - (i : Int)))]) (fun _ => []) (fun i => i ≤ 4) (fun i => 4 - i) (0) ?_ ?_ ?_ ?_
    · exact Nat.zero_le _
    · ((repeat' (refine Wk.cons ?_ ?_)) <;> first | exact Wk.nil | exact rfl | exact trivial | exact wk_num rfl (by omega) | exact wk_num rfl (by simp))
    · ((repeat (first | exact List.Sublist.slnil | refine List.Sublist.cons_cons _ ?_ | refine List.Sublist.cons _ ?_)))
    · rintro i hik
      refine wc_seq ?_
      refine wc_seq ?_
      refine wc_region ?_
      refine wl_y (y_move (ev_rfl rfl)) (fun _ _ => trivial) rfl ?_
      refine wl_y (y_gtr (ev_rfl rfl) (ev_rfl rfl) rfl) (fun _ _ => trivial) rfl ?_
      refine wl_nil ?_
      refine q_then ?_
      refine wc_cond _ rfl (fun hc5 => ?_) (fun hc5 => ?_)
      · simp only [decide_eq_true_eq] at hc5
        have hi4 : i < 4 := by omega
        have ha3 : a + (3 - i) < L.n * 64 := by omega
        refine wc_skip ?_
        refine q_then ?_
        refine wc_seq ?_
        refine wc_block ?_
        refine wc_region ?_
        refine wl_y (y_move (ev_rfl rfl)) (fun _ _ => trivial) rfl ?_
        refine wl_y (y_shl (ev_rfl rfl) (ev_rfl rfl) (by omega) rfl) (fun _ _ => trivial) rfl ?_
        refine wl_y (y_move (ev_rfl rfl)) (fun _ _ => trivial) rfl ?_
        refine wl_y (y_move (ev_rfl rfl)) (fun _ _ => trivial) rfl ?_
        refine wl_y (y_move (ev_rfl rfl)) (fun _ _ => trivial) rfl ?_
        refine wl_y (y_add (ev_rfl rfl) (ev_rfl rfl) (u32_wrap_id _ (by omega) (by omega))) (fun _ _ => trivial) rfl ?_
        refine wl_y (y_sub (ev_rfl rfl) (ev_rfl rfl) (show IntKind.u32.wrap ((a : Int) + (4 - (i : Int)) - 1) = ((a + (3 - i) : Nat) : Int) by rw [u32_wrap_id _ (by omega) (by omega)]; omega)) (fun _ _ => trivial) rfl ?_
        refine wl_t (t_call rfl (fun _ _ => rfl) (fun w hi => rget_ok L M (a + (3 - i)) ha3 w (Chunk.old h hi))) rfl ?_
        rintro _ _ ⟨_, ⟨rfl, rfl⟩, rfl⟩
        have hg := gB_rng hdb (a + (3 - i))
        refine wl_y (y_conv rfl rfl (ev_rfl rfl) (by first | exact IntWalk.u32_in _ ⟨by omega, by omega⟩ | exact rfl)) (fun _ _ => trivial) rfl ?_
        refine wl_y (y_or_ (ev_rfl rfl) (ev_rfl rfl) (wFrom_step hdb a hi4)) (fun _ _ => trivial) rfl ?_
        refine wl_y (y_assign (ev_rfl rfl)) (fun _ _ => trivial) rfl ?_
        refine wl_nil ?_
        refine q_block ?_
        refine q_then ?_
        refine wc_region ?_
        refine wl_y (y_move (ev_rfl rfl)) (fun _ _ => trivial) rfl ?_
        refine wl_y (y_sub (ev_rfl rfl) (ev_rfl rfl) (u32_wrap_id _ (by omega) (by omega))) (fun _ _ => trivial) rfl ?_
        refine wl_y (y_assign (ev_rfl rfl)) (fun _ _ => trivial) rfl ?_
        refine wl_nil ?_
        refine q_mid (i + 1) ?_ ?_ ?_
        · exact ⟨by omega, by omega⟩
        · ((repeat' (refine Wk.cons ?_ ?_)) <;> first | exact Wk.nil | exact rfl | exact trivial | exact wk_num rfl (by omega) | exact wk_num rfl (by simp))
        · ((repeat (first | exact List.Sublist.slnil | refine List.Sublist.cons_cons _ ?_ | refine List.Sublist.cons _ ?_)))
      · simp only [decide_eq_false_iff_not] at hc5
        obtain rfl : i = 4 := by omega
        refine wc_exit ?_
        refine q_then_exit ?_
        refine q_then_exit ?_
        refine q_block_same rfl ?_
        refine q_then ?_
        refine wc_seq ?_
        refine wc_region ?_
        refine wl_y (y_move (ev_rfl rfl)) (fun _ _ => trivial) rfl ?_
        refine wl_y (y_assign (ev_rfl rfl)) (fun _ _ => trivial) rfl ?_
        refine wl_y (y_assign (ev_rfl rfl)) (fun _ _ => trivial) rfl ?_
        refine wl_nil ?_
        refine q_then ?_
        refine wc_ret ?_
        refine ret2 (cs' := []) (.inl rfl) (by ((repeat (first | exact List.Sublist.slnil | refine List.Sublist.cons_cons _ ?_ | refine List.Sublist.cons _ ?_)))) rfl rfl rfl ?_
        unfold wordV
        rw [hc, wFrom_four]
        exact ⟨rfl, rfl⟩
theorem rputword_ok (L : MLoc) (M : Mem) (a : Nat) (v : Int) (ha : a + 4 ≤ L.n * 64) (hv : u32 v) (w : World) (hi : Inv w (blocks [memC L M]) [memC L M] w) :
    Ctr Tryz.prog 115 [.pointer (some ⟨L.bm, 0, none⟩), .int .u32 a, .int .u32 v] w [memC L M] (fun v' cs => v' = .bool true ∧ cs = [memC L (M.putW a v)]) := by
  obtain ⟨n1, n64, hdl, hdb, htl⟩ := mem_n (hi.ok _ (List.mem_cons_self ..))
  refine fn_ctr Tryz.func115 rfl Tryz.ntmps115 rfl hi ?_
  refine wc_seq ?_
  refine wc_region ?_
  refine wl_y (y_assign (ev_rfl rfl)) (fun _ _ => trivial) rfl ?_
  refine wl_nil ?_
  refine q_then ?_
  refine wc_seq ?_
  refine wc_seq ?_
  refine wc_region ?_
  refine wl_y (y_move (ev_rfl rfl)) (fun _ _ => trivial) rfl ?_
  refine wl_y (y_move (ev_rfl rfl)) (fun _ _ => trivial) rfl ?_
  refine wl_t (t_call rfl (fun _ _ => rfl) (fun w hi => ris_ok L M a 4 (by omega) (by omega) w (hi.get (by repeat (first | exact .head _ _ | apply Has.tail))))) rfl ?_
  rintro _ _ ⟨_, ⟨rfl, rfl⟩, rfl⟩
  rw [decide_eq_true ha]
  refine wl_y (y_not (ev_rfl rfl) rfl) (fun _ _ => trivial) rfl ?_
  refine wl_nil ?_
  refine q_then ?_
  refine wc_cond_f rfl (rfl) ?_
  refine wc_skip ?_
  refine q_then ?_
  refine wc_seq ?_
  refine wc_region ?_
  refine wl_y (y_assign (ev_rfl rfl)) (fun _ _ => trivial) rfl ?_
  refine wl_nil ?_
  refine q_then ?_
  refine wc_seq ?_
  refine wc_seq ?_
  refine wc_region ?_
  refine wl_y (y_move (ev_rfl rfl)) (fun _ _ => trivial) rfl ?_
  refine wl_nil ?_
  refine q_then ?_
  refine wc_block ?_
  refine wc_loop (fun k : Nat => [(0, .pointer (some ⟨L.bm, 0, none⟩)), (1, .int .u32 a), (2, .int .u32 v), (7, .bool true), (13, .int .u32 (k : Int))]) (fun k => [memC L (M.putTo a v k)]) (fun k => k ≤ 4) (fun k => 4 - k) (0) ?_ ?_ ?_ ?_
  · exact Nat.zero_le _
  · ((repeat' (refine Wk.cons ?_ ?_)) <;> first | exact Wk.nil | exact rfl | exact trivial | exact wk_num rfl (by omega) | exact wk_num rfl (by simp))
  · ((repeat (first | exact List.Sublist.slnil | refine List.Sublist.cons_cons _ ?_ | refine List.Sublist.cons _ ?_)))
  · rintro k hk
    refine wc_seq ?_
    refine wc_region ?_
    refine wl_y (y_lss (ev_rfl rfl) (ev_rfl rfl) rfl) (fun _ _ => trivial) rfl ?_
    refine wl_nil ?_
    refine q_then ?_
    refine wc_seq ?_
    refine wc_cond _ rfl (fun hc5 => ?_) (fun hc5 => ?_)
    · simp only [decide_eq_true_eq] at hc5
      have hk4 : k < 4 := by omega
      refine wc_skip ?_
      refine q_then ?_
      refine wc_seq ?_
      refine wc_block ?_
      refine wc_seq ?_
      refine wc_region ?_
      refine wl_y (y_move (ev_rfl rfl)) (fun _ _ => trivial) rfl ?_
      refine wl_y (y_assign (ev_rfl rfl)) (fun _ _ => trivial) rfl ?_
      refine wl_nil ?_
      refine q_then ?_
      refine wc_region ?_
      refine wl_y (y_move (ev_rfl rfl)) (fun _ _ => trivial) rfl ?_
      refine wl_y (y_move (ev_rfl rfl)) (fun _ _ => trivial) rfl ?_
      refine wl_y (y_move (ev_rfl rfl)) (fun _ _ => trivial) rfl ?_
      refine wl_y (y_add (ev_rfl rfl) (ev_rfl rfl) (show IntKind.u32.wrap ((a : Int) + (k : Int)) = ((a + k : Nat) : Int) by rw [u32_wrap_id _ (by omega) (by omega)]; omega)) (fun _ _ => trivial) rfl ?_
      refine wl_y (y_move (ev_rfl rfl)) (fun _ _ => trivial) rfl ?_
      refine wl_y (y_move (ev_rfl rfl)) (fun _ _ => trivial) rfl ?_
      refine wl_y (y_mul (ev_rfl rfl) (ev_rfl rfl) rfl) (fun _ _ => trivial) rfl ?_
      refine wl_y (y_shr (ev_rfl rfl) (ev_rfl rfl) (by rw [IntKind.wrap_u32]; omega) rfl) (fun _ _ => trivial) rfl ?_
      refine wl_y (y_conv rfl rfl (ev_rfl rfl) (wbyte_shr v hk4)) (fun _ _ => trivial) rfl ?_
      refine wl_t (t_callS ([memC L (M.putTo a v k)]) rfl (fun _ _ => rfl) (by repeat (first | exact .nil _ | (apply Split.cons; (repeat (first | exact .head _ _ | apply Del.tail))))) (fun w hi hin => rput_ok L (M.putTo a v k) (a + k) (by omega) (wbyte v k) (wbyte_rng v k) w hin)) rfl ?_
      rintro _ _ ⟨_, ⟨rfl, rfl⟩, rfl⟩
      refine wl_y (y_move (ev_rfl rfl)) (fun _ _ => trivial) rfl ?_
      refine wl_yg (guard_yes rfl rfl) (y_move (ev_rfl rfl)) (fun _ _ => trivial) rfl ?_
      refine wl_y (y_and (ev_rfl rfl) (pk_yes rfl (fun _ => rfl))) (fun _ _ => trivial) rfl ?_
      refine wl_y (y_assign (ev_rfl rfl)) (fun _ _ => trivial) rfl ?_
      refine wl_nil ?_
      refine q_block ?_
      refine q_then ?_
      refine wc_region ?_
      refine wl_y (y_add (ev_rfl rfl) (ev_rfl rfl) (u32_wrap_id _ (by omega) (by omega))) (fun _ _ => trivial) rfl ?_
      refine wl_y (y_move (ev_rfl rfl)) (fun _ _ => trivial) rfl ?_
      refine wl_nil ?_
      refine q_mid (k + 1) ?_ ?_ ?_
      · exact ⟨by omega, by omega⟩
      · ((repeat' (refine Wk.cons ?_ ?_)) <;> first | exact Wk.nil | exact rfl | exact trivial | exact wk_num rfl (by omega) | exact wk_num rfl (by simp))
      · ((repeat (first | exact List.Sublist.slnil | refine List.Sublist.cons_cons _ ?_ | refine List.Sublist.cons _ ?_)))
    · simp only [decide_eq_false_iff_not] at hc5
      obtain rfl : k = 4 := by omega
      refine wc_exit ?_
      refine q_then_exit ?_
      refine q_then_exit ?_
      refine q_block_same rfl ?_
      refine q_then ?_
      refine wc_seq ?_
      refine wc_region ?_
      refine wl_y (y_move (ev_rfl rfl)) (fun _ _ => trivial) rfl ?_
      refine wl_y (y_assign (ev_rfl rfl)) (fun _ _ => trivial) rfl ?_
      refine wl_nil ?_
      refine q_then ?_
      refine wc_ret ?_
      refine ret1 (cs' := [exC _ _ _ _]) (.inl rfl) (by ((repeat (first | exact List.Sublist.slnil | refine List.Sublist.cons_cons _ ?_ | refine List.Sublist.cons _ ?_)))) rfl rfl ?_
      exact ⟨rfl, rfl⟩
theorem rpage_ok (L : MLoc) (M : Mem) (p : Nat) (hp : p < L.n) (w : World) (h : (memC L M).ok w) : Ctr Tryz.prog 162 [.pointer (some ⟨L.bm, 0, none⟩), .int .i64 p] w [] (fun v cs => ∃ b, v = .tuple #[.slice (some ⟨b, 0, none⟩) 64 64, .bool true] ∧ cs = [sl .u8 5 (some ⟨b, 0, none⟩) 64 64 ((M.data.drop (p * 64)).take 64)]) := by
  obtain ⟨n1, n64, hdl, hdb, htl⟩ := mem_n h
  obtain ⟨k0, hr0, h1, h2, h3, h4⟩ := mem_ok h
  refine fn_ctr Tryz.func162 rfl Tryz.ntmps162 rfl (Inv.start w) ?_
  refine wc_seq ?_
  refine wc_region ?_
  refine wl_y (y_assign (ev_rfl rfl)) (fun _ _ => trivial) rfl ?_
  refine wl_y (y_assign (ev_rfl rfl)) (fun _ _ => trivial) rfl ?_
  refine wl_nil ?_
  refine q_then ?_
  refine wc_seq ?_
  refine wc_seq ?_
  refine wc_region ?_
  refine wl_y (y_move (ev_rfl rfl)) (fun _ _ => trivial) rfl ?_
  refine wl_y (y_lss (ev_rfl rfl) (ev_rfl rfl) rfl) (fun _ _ => trivial) rfl ?_
  rw [decide_eq_false (show ¬ (p : Int) < 0 by omega)]
  refine wl_y (y_move (ev_rfl rfl)) (fun _ _ => trivial) rfl ?_
  refine wl_yg (guard_no rfl rfl) (y_move (ev_rfl rfl)) (fun _ _ => trivial) rfl ?_
  refine wl_yg (guard_no rfl rfl) (y_move (ev_rfl rfl)) (fun _ _ => trivial) rfl ?_
  refine wl_yg (guard_no rfl rfl) (y_nil (ev_g rfl)) (fun _ _ => trivial) rfl ?_
  refine wl_yg (guard_no rfl rfl) (y_field 1 rfl (ev_g rfl) (by first | exact Nat.zero_add _ | exact rfl)) (fun _ _ => trivial) rfl ?_
  refine wl_yg (guard_no rfl rfl) (y_load (fun _ => rfl) (ev_g rfl)) (old_row (by assumption) rfl) rfl ?_
  refine wl_tg (guard_no rfl rfl) rfl (t_call rfl (fun _ _ => rfl) (fun w hi => pages_ok L.bt L.bp L.o L.bf L.bg L.n w (Chunk.old h2 hi))) rfl ?_
  rintro _ _ ⟨_, ⟨rfl, rfl⟩, rfl⟩
  refine wl_yg (guard_no rfl rfl) (y_geq (ev_g rfl) (ev_g rfl) rfl) (fun _ _ => trivial) rfl ?_
  refine wl_y (y_or (ev_rfl rfl) (pk_no rfl (fun _ => rfl))) (fun _ _ => trivial) rfl ?_
  refine wl_nil ?_
  refine q_then ?_
  refine wc_cond_f rfl ((by rw [decide_eq_false (show ¬ (L.n : Int) ≤ p by omega)]; rfl)) ?_
  refine wc_skip ?_
  refine q_then ?_
  refine wc_seq ?_
  refine wc_region ?_
  refine wl_t (t_make (bytes := 1) (n := 64) rfl rfl rfl rfl rfl rfl rfl (by omega) (by simp only [maxLen]; omega)) rfl ?_
  rintro _ _ ⟨b19, rfl, rfl⟩
  rw [rep_int, ← cpy_zero M.data (p * 64) 64]
  refine wl_y (y_assign (ev_rfl rfl)) (fun _ _ => trivial) rfl ?_
  refine wl_nil ?_
  refine q_then ?_
  refine wc_seq ?_
  refine wc_seq ?_
  refine wc_region ?_
  refine wl_y (y_move (ev_rfl rfl)) (fun _ _ => trivial) rfl ?_
  refine wl_y (y_len ⟨_, rfl⟩ (ev_rfl rfl)) (fun _ _ => trivial) rfl ?_
  refine wl_y (y_move (ev_rfl rfl)) (fun _ _ => trivial) rfl ?_
  refine wl_nil ?_
  refine q_then ?_
  refine wc_block ?_
  refine wc_loop (fun k : Nat => [(0, .pointer (some ⟨L.bm, 0, none⟩)), (1, .int .i64 p), (6, .slice (some ⟨b19, 0, none⟩) 64 64), (21, .int .i64 64), (22, .int .i64 (k : Int))]) (fun k => [sl .u8 5 (some ⟨b19, 0, none⟩) 64 64 (cpy M.data (p * 64) 64 k)]) (fun k => k ≤ 64) (fun k => 64 - k) (0) ?_ ?_ ?_ ?_
  · exact Nat.zero_le _
  · ((repeat' (refine Wk.cons ?_ ?_)) <;> first | exact Wk.nil | exact rfl | exact trivial | exact wk_num rfl (by omega) | exact wk_num rfl (by simp))
  · ((repeat (first | exact List.Sublist.slnil | refine List.Sublist.cons_cons _ ?_ | refine List.Sublist.cons _ ?_)))
  · rintro k hk
    refine wc_seq ?_
    refine wc_region ?_
    refine wl_y (y_lss (ev_rfl rfl) (ev_rfl rfl) rfl) (fun _ _ => trivial) rfl ?_
    refine wl_nil ?_
    refine q_then ?_
    refine wc_seq ?_
    refine wc_cond _ rfl (fun hc5 => ?_) (fun hc5 => ?_)
    · simp only [decide_eq_true_eq] at hc5
      have hpk : p * 64 + k < L.n * 64 := by omega
      refine wc_skip ?_
      refine q_then ?_
      refine wc_seq ?_
      refine wc_block ?_
      refine wc_seq ?_
      refine wc_region ?_
      refine wl_y (y_move (ev_rfl rfl)) (fun _ _ => trivial) rfl ?_
      refine wl_y (y_assign (ev_rfl rfl)) (fun _ _ => trivial) rfl ?_
      refine wl_nil ?_
      refine q_then ?_
      refine wc_region ?_
      refine wl_y (y_move (ev_rfl rfl)) (fun _ _ => trivial) rfl ?_
      refine wl_y (y_move (ev_rfl rfl)) (fun _ _ => trivial) rfl ?_
      refine wl_y (y_move (ev_rfl rfl)) (fun _ _ => trivial) rfl ?_
      refine wl_y (y_move (ev_rfl rfl)) (fun _ _ => trivial) rfl ?_
      refine wl_y (y_mul (ev_rfl rfl) (ev_rfl rfl) (by first | exact IntWalk.i64_in _ ⟨by omega, by omega⟩ | exact rfl)) (fun _ _ => trivial) rfl ?_
      refine wl_y (y_move (ev_rfl rfl)) (fun _ _ => trivial) rfl ?_
      refine wl_y (y_add (ev_rfl rfl) (ev_rfl rfl) (by first | exact IntWalk.i64_in _ ⟨by omega, by omega⟩ | exact rfl)) (fun _ _ => trivial) rfl ?_
      refine wl_y (y_conv rfl rfl (ev_rfl rfl) (show IntKind.u32.wrap ((p : Int) * 64 + (k : Int)) = ((p * 64 + k : Nat) : Int) by rw [u32_wrap_id _ (by omega) (by omega)]; omega)) (fun _ _ => trivial) rfl ?_
      refine wl_t (t_call rfl (fun _ _ => rfl) (fun w hi => rget_ok L M (p * 64 + k) hpk w (Chunk.old h hi))) rfl ?_
      rintro _ _ ⟨_, ⟨rfl, rfl⟩, rfl⟩
      refine wl_y (y_indexR (j := k) (sz := 1) (r := k) rfl (fun _ => rfl) (ev_rfl rfl) (ev_rfl rfl) (fun _ => by omega) (fun _ => by omega) (by omega)) (fun _ _ => trivial) rfl ?_
      refine wl_t0 (t_storeS (fun _ => rfl) rfl rfl rfl (by repeat (first | exact aH | apply aT)) (by omega)) ?_
      rintro _ _ ⟨rfl, rfl⟩
      rw [ints_set', cpy_set _ _ (by omega)]
      refine wl_nil ?_
      refine q_block ?_
      refine q_then ?_
      refine wc_region ?_
      refine wl_y (y_add (ev_rfl rfl) (ev_rfl rfl) (by first | exact IntWalk.i64_in _ ⟨by omega, by omega⟩ | exact rfl)) (fun _ _ => trivial) rfl ?_
      refine wl_y (y_move (ev_rfl rfl)) (fun _ _ => trivial) rfl ?_
      refine wl_nil ?_
      refine q_mid (k + 1) ?_ ?_ ?_
      · exact ⟨by omega, by omega⟩
      · ((repeat' (refine Wk.cons ?_ ?_)) <;> first | exact Wk.nil | exact rfl | exact trivial | exact wk_num rfl (by omega) | exact wk_num rfl (by simp))
      · ((repeat (first | exact List.Sublist.slnil | refine List.Sublist.cons_cons _ ?_ | refine List.Sublist.cons _ ?_)))
    · simp only [decide_eq_false_iff_not] at hc5
      obtain rfl : k = 64 := by omega
      rw [cpy_all (by omega)]
      refine wc_exit ?_
      refine q_then_exit ?_
      refine q_then_exit ?_
      refine q_block_same rfl ?_
      refine q_then ?_
      refine wc_seq ?_
      refine wc_region ?_
      refine wl_y (y_move (ev_rfl rfl)) (fun _ _ => trivial) rfl ?_
      refine wl_y (y_assign (ev_rfl rfl)) (fun _ _ => trivial) rfl ?_
      refine wl_y (y_assign (ev_rfl rfl)) (fun _ _ => trivial) rfl ?_
      refine wl_nil ?_
      refine q_then ?_
      refine wc_ret ?_
      refine ret2 (cs' := [slv _ _ _ _ _ _]) (.inl rfl) (by ((repeat (first | exact List.Sublist.slnil | refine List.Sublist.cons_cons _ ?_ | refine List.Sublist.cons _ ?_)))) rfl rfl rfl ?_
      exact ⟨b19, rfl, rfl⟩
theorem rputpage_ok (L : MLoc) (M : Mem) (p : Nat) (hp : p < L.n) (A : Option Addr) (c : Nat) (l : List Int) (hl : l.length = 64) (hb : u8s l) (w : World) (hi : Inv w (blocks [memC L M]) [memC L M] w) (hrd : ∀ w', Keep (blocks [memC L M]) w w' → Rd w' .u8 A 64 c l) :
    Ctr Tryz.prog 161 [.pointer (some ⟨L.bm, 0, none⟩), .int .i64 p, .slice A 64 c] w [memC L M] (fun v' cs => v' = .bool true ∧ cs = [memC L (M.fill (p * 64) l 64)]) := by
  obtain ⟨n1, n64, hdl, hdb, htl⟩ := mem_n (hi.ok _ (List.mem_cons_self ..))
  have hrw := hrd w (Keep.refl _ _)
  obtain ⟨ad, rfl⟩ := hrw.some_ (by omega)
  have hpg : ∀ w0 S cs w, Inv w0 S cs w → Has cs (memC L M) → Ctr Tryz.prog 92 [.pointer (some ⟨L.bt, 0, none⟩)] w [] (fun v cs => v = .int .i64 L.n ∧ cs = []) := fun w0 S cs w hi hc => by
    obtain ⟨k0, hr0, h1, h2, h3, h4⟩ := mem_ok (hi.get hc)
    exact pages_ok L.bt L.bp L.o L.bf L.bg L.n w h2
  have hcell : ∀ w, Inv w (blocks [memC L M]) [memC L M] w → True := fun _ _ => trivial
  refine fn_ctr Tryz.func161 rfl Tryz.ntmps161 rfl hi ?_
  refine wc_seq ?_
  refine wc_region ?_
  refine wl_y (y_assign (ev_rfl rfl)) (fun _ _ => trivial) rfl ?_
  refine wl_nil ?_
  refine q_then ?_
  refine wc_seq ?_
  refine wc_seq ?_
  refine wc_region ?_
  refine wl_y (y_move (ev_rfl rfl)) (fun _ _ => trivial) rfl ?_
  refine wl_y (y_lss (ev_rfl rfl) (ev_rfl rfl) rfl) (fun _ _ => trivial) rfl ?_
  rw [decide_eq_false (show ¬ (p : Int) < 0 by omega)]
  refine wl_y (y_move (ev_rfl rfl)) (fun _ _ => trivial) rfl ?_
  refine wl_yg (guard_no rfl rfl) (y_move (ev_rfl rfl)) (fun _ _ => trivial) rfl ?_
  refine wl_yg (guard_no rfl rfl) (y_move (ev_rfl rfl)) (fun _ _ => trivial) rfl ?_
  refine wl_yg (guard_no rfl rfl) (y_nil (ev_g rfl)) (fun _ _ => trivial) rfl ?_
  refine wl_yg (guard_no rfl rfl) (y_field 1 rfl (ev_g rfl) (by first | exact Nat.zero_add _ | exact rfl)) (fun _ _ => trivial) rfl ?_
  refine wl_yg (guard_no rfl rfl) (y_load (fun _ => rfl) (ev_g rfl)) (fun w hi => by obtain ⟨k0, hr0, h1, h2, h3, h4⟩ := mem_ok (hi.get (show Has _ (memC L M) from (by repeat (first | exact .head _ _ | apply Has.tail)))); exact old_row (cs := []) h4 (show (memCells L M.turned)[1]? = some (.pointer (some ⟨L.bt, 0, none⟩)) from rfl) w (Inv.start w)) rfl ?_
  refine wl_tg (guard_no rfl rfl) rfl (t_call rfl (fun _ _ => rfl) (fun w hi => hpg _ _ _ w hi (by repeat (first | exact .head _ _ | apply Has.tail)))) rfl ?_
  rintro _ _ ⟨_, ⟨rfl, rfl⟩, rfl⟩
  refine wl_yg (guard_no rfl rfl) (y_geq (ev_g rfl) (ev_g rfl) rfl) (fun _ _ => trivial) rfl ?_
  refine wl_y (y_or (ev_rfl rfl) (pk_no rfl (fun _ => rfl))) (fun _ _ => trivial) rfl ?_
  refine wl_y (y_move (ev_rfl rfl)) (fun _ _ => trivial) rfl ?_
  refine wl_yg (guard_no rfl rfl) (y_move (ev_rfl rfl)) (fun _ _ => trivial) rfl ?_
  refine wl_yg (guard_no rfl rfl) (y_len ⟨_, rfl⟩ (ev_g rfl)) (fun _ _ => trivial) rfl ?_
  refine wl_yg (guard_no rfl rfl) (y_neq (ev_g rfl) (ev_rfl rfl) rfl) (fun _ _ => trivial) rfl ?_
  refine wl_y (y_or (ev_rfl rfl) (pk_no rfl (fun _ => rfl))) (fun _ _ => trivial) rfl ?_
  refine wl_nil ?_
  refine q_then ?_
  refine wc_cond_f rfl ((by rw [decide_eq_false (show ¬ (L.n : Int) ≤ p by omega)]; rfl)) ?_
  refine wc_skip ?_
  refine q_then ?_
  refine wc_seq ?_
  refine wc_region ?_
  refine wl_y (y_assign (ev_rfl rfl)) (fun _ _ => trivial) rfl ?_
  refine wl_nil ?_
  refine q_then ?_
  refine wc_seq ?_
  refine wc_seq ?_
  refine wc_region ?_
  refine wl_y (y_move (ev_rfl rfl)) (fun _ _ => trivial) rfl ?_
  refine wl_y (y_len ⟨_, rfl⟩ (ev_rfl rfl)) (fun _ _ => trivial) rfl ?_
  refine wl_y (y_move (ev_rfl rfl)) (fun _ _ => trivial) rfl ?_
  refine wl_nil ?_
  refine q_then ?_
  refine wc_block ?_
  refine wc_loop (fun k : Nat => [(0, .pointer (some ⟨L.bm, 0, none⟩)), (1, .int .i64 p), (7, .bool true), (26, .slice (some ad) 64 c), (27, .int .i64 64), (28, .int .i64 (k : Int))]) (fun k => [memC L (M.fill (p * 64) l k)]) (fun k => k ≤ 64) (fun k => 64 - k) (0) ?_ ?_ ?_ ?_
  · exact Nat.zero_le _
  · ((repeat' (refine Wk.cons ?_ ?_)) <;> first | exact Wk.nil | exact rfl | exact trivial | exact wk_num rfl (by omega) | exact wk_num rfl (by simp))
  · ((repeat (first | exact List.Sublist.slnil | refine List.Sublist.cons_cons _ ?_ | refine List.Sublist.cons _ ?_)))
  · rintro k hk
    refine wc_seq ?_
    refine wc_region ?_
    refine wl_y (y_lss (ev_rfl rfl) (ev_rfl rfl) rfl) (fun _ _ => trivial) rfl ?_
    refine wl_nil ?_
    refine q_then ?_
    refine wc_seq ?_
    refine wc_cond _ rfl (fun hc5 => ?_) (fun hc5 => ?_)
    · simp only [decide_eq_true_eq] at hc5
      have hkl : k < l.length := by omega
      have hbk := gB_rng hb k
      refine wc_skip ?_
      refine q_then ?_
      refine wc_seq ?_
      refine wc_block ?_
      refine wc_seq ?_
      refine wc_region ?_
      refine wl_y (y_move (ev_rfl rfl)) (fun _ _ => trivial) rfl ?_
      refine wl_y (y_index (j := k)  rfl (fun _ => rfl) (ev_rfl rfl) (ev_rfl rfl)  (fun _ => by omega) (fun _ => by omega)) (fun _ _ => trivial) rfl ?_
      refine wl_y (y_load (fun _ => rfl) (ev_rfl rfl)) (rd_cellK hrd (ints_at (gB_at hkl))) rfl ?_
      refine wl_y (y_assign (ev_rfl rfl)) (fun _ _ => trivial) rfl ?_
      refine wl_y (y_assign (ev_rfl rfl)) (fun _ _ => trivial) rfl ?_
      refine wl_nil ?_
      refine q_then ?_
      refine wc_region ?_
      refine wl_y (y_move (ev_rfl rfl)) (fun _ _ => trivial) rfl ?_
      refine wl_y (y_move (ev_rfl rfl)) (fun _ _ => trivial) rfl ?_
      refine wl_y (y_mul (ev_rfl rfl) (ev_rfl rfl) (by first | exact IntWalk.i64_in _ ⟨by omega, by omega⟩ | exact rfl)) (fun _ _ => trivial) rfl ?_
      refine wl_y (y_move (ev_rfl rfl)) (fun _ _ => trivial) rfl ?_
      refine wl_y (y_add (ev_rfl rfl) (ev_rfl rfl) (by first | exact IntWalk.i64_in _ ⟨by omega, by omega⟩ | exact rfl)) (fun _ _ => trivial) rfl ?_
      refine wl_y (y_conv rfl rfl (ev_rfl rfl) (show IntKind.u32.wrap ((p : Int) * 64 + (k : Int)) = ((p * 64 + k : Nat) : Int) by rw [u32_wrap_id _ (by omega) (by omega)]; omega)) (fun _ _ => trivial) rfl ?_
      refine wl_y (y_move (ev_rfl rfl)) (fun _ _ => trivial) rfl ?_
      refine wl_t (t_callS ([memC L (M.fill (p * 64) l k)]) rfl (fun _ _ => rfl) (by repeat (first | exact .nil _ | (apply Split.cons; (repeat (first | exact .head _ _ | apply Del.tail))))) (fun w hi hin => rput_ok L (M.fill (p * 64) l k) (p * 64 + k) (by omega) (gB l k) hbk w hin)) rfl ?_
      rintro _ _ ⟨_, ⟨rfl, rfl⟩, rfl⟩
      refine wl_y (y_move (ev_rfl rfl)) (fun _ _ => trivial) rfl ?_
      refine wl_yg (guard_yes rfl rfl) (y_move (ev_rfl rfl)) (fun _ _ => trivial) rfl ?_
      refine wl_y (y_and (ev_rfl rfl) (pk_yes rfl (fun _ => rfl))) (fun _ _ => trivial) rfl ?_
      refine wl_y (y_assign (ev_rfl rfl)) (fun _ _ => trivial) rfl ?_
      refine wl_nil ?_
      refine q_block ?_
      refine q_then ?_
      refine wc_region ?_
      refine wl_y (y_add (ev_rfl rfl) (ev_rfl rfl) (by first | exact IntWalk.i64_in _ ⟨by omega, by omega⟩ | exact rfl)) (fun _ _ => trivial) rfl ?_
      refine wl_y (y_move (ev_rfl rfl)) (fun _ _ => trivial) rfl ?_
      refine wl_nil ?_
      refine q_mid (k + 1) ?_ ?_ ?_
      · exact ⟨by omega, by omega⟩
      · ((repeat' (refine Wk.cons ?_ ?_)) <;> first | exact Wk.nil | exact rfl | exact trivial | exact wk_num rfl (by omega) | exact wk_num rfl (by simp))
      · ((repeat (first | exact List.Sublist.slnil | refine List.Sublist.cons_cons _ ?_ | refine List.Sublist.cons _ ?_)))
    · simp only [decide_eq_false_iff_not] at hc5
      obtain rfl : k = 64 := by omega
      refine wc_exit ?_
      refine q_then_exit ?_
      refine q_then_exit ?_
      refine q_block_same rfl ?_
      refine q_then ?_
      refine wc_seq ?_
      refine wc_region ?_
      refine wl_y (y_move (ev_rfl rfl)) (fun _ _ => trivial) rfl ?_
      refine wl_y (y_assign (ev_rfl rfl)) (fun _ _ => trivial) rfl ?_
      refine wl_nil ?_
      refine q_then ?_
      refine wc_ret ?_
      refine ret1 (cs' := [exC _ _ _ _]) (.inl rfl) (by ((repeat (first | exact List.Sublist.slnil | refine List.Sublist.cons_cons _ ?_ | refine List.Sublist.cons _ ?_)))) rfl rfl ?_
      exact ⟨rfl, rfl⟩
theorem rload_ok (L : MLoc) (M : Mem) (A : Option Addr) (c : Nat) (l : List Int) (hl : l.length ≤ L.n * 64) (hb : u8s l) (w : World) (hi : Inv w (blocks [memC L M]) [memC L M] w) (hrd : ∀ w', Keep (blocks [memC L M]) w w' → Rd w' .u8 A l.length c l) :
    Ctr Tryz.prog 70 [.pointer (some ⟨L.bm, 0, none⟩), .slice A l.length c] w [memC L M] (fun v' cs => v' = .int .i64 0 ∧ cs = [memC L (M.fill 0 l l.length)]) := by
  obtain ⟨n1, n64, hdl, hdb, htl⟩ := mem_n (hi.ok _ (List.mem_cons_self ..))
  have hrw := hrd w (Keep.refl _ _)
  refine fn_ctr Tryz.func70 rfl Tryz.ntmps70 rfl hi ?_
  refine wc_seq ?_
  refine wc_region ?_
  refine wl_y (y_assign (ev_rfl rfl)) (fun _ _ => trivial) rfl ?_
  refine wl_nil ?_
  refine q_then ?_
  refine wc_seq ?_
  refine wc_seq ?_
  refine wc_region ?_
  refine wl_y (y_move (ev_rfl rfl)) (fun _ _ => trivial) rfl ?_
  refine wl_y (y_len ⟨_, rfl⟩ (ev_rfl rfl)) (fun _ _ => trivial) rfl ?_
  refine wl_y (y_move (ev_rfl rfl)) (fun _ _ => trivial) rfl ?_
  refine wl_t (t_call rfl (fun _ _ => rfl) (fun w hi => rsize_ok L M w (hi.get (by repeat (first | exact .head _ _ | apply Has.tail))))) rfl ?_
  rintro _ _ ⟨_, ⟨rfl, rfl⟩, rfl⟩
  refine wl_y (y_conv rfl rfl (ev_rfl rfl) (by first | exact IntWalk.i64_in _ ⟨by omega, by omega⟩ | exact rfl)) (fun _ _ => trivial) rfl ?_
  refine wl_y (y_gtr (ev_rfl rfl) (ev_rfl rfl) rfl) (fun _ _ => trivial) rfl ?_
  refine wl_nil ?_
  refine q_then ?_
  refine wc_cond_f rfl ((decide_eq_false (by omega))) ?_
  refine wc_skip ?_
  refine q_then ?_
  refine wc_seq ?_
  refine wc_seq ?_
  refine wc_region ?_
  refine wl_y (y_move (ev_rfl rfl)) (fun _ _ => trivial) rfl ?_
  refine wl_y (y_len ⟨_, rfl⟩ (ev_rfl rfl)) (fun _ _ => trivial) rfl ?_
  refine wl_y (y_move (ev_rfl rfl)) (fun _ _ => trivial) rfl ?_
  refine wl_nil ?_
  refine q_then ?_
  refine wc_block ?_
  refine wc_loop (fun k : Nat => [(0, .pointer (some ⟨L.bm, 0, none⟩)), (13, .slice A l.length c), (14, .int .i64 l.length), (15, .int .i64 (k : Int))]) (fun k => [memC L (M.fill 0 l k)]) (fun k => k ≤ l.length) (fun k => l.length - k) (0) ?_ ?_ ?_ ?_
  · exact Nat.zero_le _
  · ((repeat' (refine Wk.cons ?_ ?_)) <;> first | exact Wk.nil | exact rfl | exact trivial | exact wk_num rfl (by omega) | exact wk_num rfl (by simp))
  · ((repeat (first | exact List.Sublist.slnil | refine List.Sublist.cons_cons _ ?_ | refine List.Sublist.cons _ ?_)))
  · rintro k hk
    refine wc_seq ?_
    refine wc_region ?_
    refine wl_y (y_lss (ev_rfl rfl) (ev_rfl rfl) rfl) (fun _ _ => trivial) rfl ?_
    refine wl_nil ?_
    refine q_then ?_
    refine wc_seq ?_
    refine wc_cond _ rfl (fun hc4 => ?_) (fun hc4 => ?_)
    · simp only [decide_eq_true_eq] at hc4
      have hkl : k < l.length := by omega
      have hbk := gB_rng hb k
      obtain ⟨ad, rfl⟩ := hrw.some_ (by omega)
      refine wc_skip ?_
      refine q_then ?_
      refine wc_seq ?_
      refine wc_block ?_
      refine wc_seq ?_
      refine wc_region ?_
      refine wl_y (y_move (ev_rfl rfl)) (fun _ _ => trivial) rfl ?_
      refine wl_y (y_index (j := k)  rfl (fun _ => rfl) (ev_rfl rfl) (ev_rfl rfl)  (fun _ => by omega) (fun _ => by omega)) (fun _ _ => trivial) rfl ?_
      refine wl_y (y_load (fun _ => rfl) (ev_rfl rfl)) (rd_cellK hrd (ints_at (gB_at hkl))) rfl ?_
      refine wl_y (y_assign (ev_rfl rfl)) (fun _ _ => trivial) rfl ?_
      refine wl_y (y_assign (ev_rfl rfl)) (fun _ _ => trivial) rfl ?_
      refine wl_nil ?_
      refine q_then ?_
      refine wc_region ?_
      refine wl_y (y_move (ev_rfl rfl)) (fun _ _ => trivial) rfl ?_
      refine wl_y (y_move (ev_rfl rfl)) (fun _ _ => trivial) rfl ?_
      refine wl_y (y_conv rfl rfl (ev_rfl rfl) (show IntKind.u32.wrap (k : Int) = ((0 + k : Nat) : Int) by rw [u32_wrap_id _ (by omega) (by omega)]; omega)) (fun _ _ => trivial) rfl ?_
      refine wl_y (y_move (ev_rfl rfl)) (fun _ _ => trivial) rfl ?_
      refine wl_t (t_callS ([memC L (M.fill 0 l k)]) rfl (fun _ _ => rfl) (by repeat (first | exact .nil _ | (apply Split.cons; (repeat (first | exact .head _ _ | apply Del.tail))))) (fun w hi hin => rput_ok L (M.fill 0 l k) (0 + k) (by omega) (gB l k) hbk w hin)) rfl ?_
      rintro _ _ ⟨_, ⟨rfl, rfl⟩, rfl⟩
      refine wl_nil ?_
      refine q_block ?_
      refine q_then ?_
      refine wc_region ?_
      refine wl_y (y_add (ev_rfl rfl) (ev_rfl rfl) (by first | exact IntWalk.i64_in _ ⟨by omega, by omega⟩ | exact rfl)) (fun _ _ => trivial) rfl ?_
      refine wl_y (y_move (ev_rfl rfl)) (fun _ _ => trivial) rfl ?_
      refine wl_nil ?_
      refine q_mid (k + 1) ?_ ?_ ?_
      · exact ⟨by omega, by omega⟩
      · ((repeat' (refine Wk.cons ?_ ?_)) <;> first | exact Wk.nil | exact rfl | exact trivial | exact wk_num rfl (by omega) | exact wk_num rfl (by simp))
      · ((repeat (first | exact List.Sublist.slnil | refine List.Sublist.cons_cons _ ?_ | refine List.Sublist.cons _ ?_)))
    · simp only [decide_eq_false_iff_not] at hc4
      obtain rfl : k = l.length := by omega
      refine wc_exit ?_
      refine q_then_exit ?_
      refine q_then_exit ?_
      refine q_block_same rfl ?_
      refine q_then ?_
      refine wc_seq ?_
      refine wc_region ?_
      refine wl_y (y_assign (ev_rfl rfl)) (fun _ _ => trivial) rfl ?_
      refine wl_nil ?_
      refine q_then ?_
      refine wc_ret ?_
      refine ret1 (cs' := [exC _ _ _ _]) (.inl rfl) (by ((repeat (first | exact List.Sublist.slnil | refine List.Sublist.cons_cons _ ?_ | refine List.Sublist.cons _ ?_)))) rfl rfl ?_
      exact ⟨rfl, rfl⟩
theorem rall_ok (L : MLoc) (M : Mem) (w : World) (h : (memC L M).ok w) : Ctr Tryz.prog 26 [.pointer (some ⟨L.bm, 0, none⟩)] w [] (fun v cs => ∃ b, v = .slice (some ⟨b, 0, none⟩) M.data.length M.data.length ∧ cs = [sl .u8 5 (some ⟨b, 0, none⟩) M.data.length M.data.length M.data]) := by
  obtain ⟨n1, n64, hdl, hdb, htl⟩ := mem_n h
  rw [hdl]
  refine fn_ctr Tryz.func26 rfl Tryz.ntmps26 rfl (Inv.start w) ?_
  refine wc_seq ?_
  refine wc_region ?_
  refine wl_y (y_assign (ev_rfl rfl)) (fun _ _ => trivial) rfl ?_
  refine wl_nil ?_
  refine q_then ?_
  refine wc_seq ?_
  refine wc_region ?_
  refine wl_y (y_move (ev_rfl rfl)) (fun _ _ => trivial) rfl ?_
  refine wl_t (t_call rfl (fun _ _ => rfl) (fun w hi => rsize_ok L M w (Chunk.old h hi))) rfl ?_
  rintro _ _ ⟨_, ⟨rfl, rfl⟩, rfl⟩
  refine wl_t (t_make (bytes := 1) (n := L.n * 64) rfl rfl rfl rfl rfl rfl rfl (by omega) (by simp only [maxLen]; omega)) rfl ?_
  rintro _ _ ⟨b7, rfl, rfl⟩
  rw [rep_int, ← cpy_zero M.data 0 (L.n * 64)]
  refine wl_y (y_assign (ev_rfl rfl)) (fun _ _ => trivial) rfl ?_
  refine wl_nil ?_
  refine q_then ?_
  refine wc_seq ?_
  refine wc_seq ?_
  refine wc_region ?_
  refine wl_y (y_move (ev_rfl rfl)) (fun _ _ => trivial) rfl ?_
  refine wl_y (y_len ⟨_, rfl⟩ (ev_rfl rfl)) (fun _ _ => trivial) rfl ?_
  refine wl_y (y_move (ev_rfl rfl)) (fun _ _ => trivial) rfl ?_
  refine wl_nil ?_
  refine q_then ?_
  refine wc_block ?_
  refine wc_loop (fun k : Nat => [(0, .pointer (some ⟨L.bm, 0, none⟩)), (3, .slice (some ⟨b7, 0, none⟩) (L.n * 64) (L.n * 64)), (9, .int .i64 (L.n * 64 : Nat)), (10, .int .i64 (k : Int))]) (fun k => [sl .u8 5 (some ⟨b7, 0, none⟩) (L.n * 64) (L.n * 64) (cpy M.data 0 (L.n * 64) k)]) (fun k => k ≤ L.n * 64) (fun k => L.n * 64 - k) (0) ?_ ?_ ?_ ?_
  · exact Nat.zero_le _
  · ((repeat' (refine Wk.cons ?_ ?_)) <;> first | exact Wk.nil | exact rfl | exact trivial | exact wk_num rfl (by omega) | exact wk_num rfl (by simp))
  · ((repeat (first | exact List.Sublist.slnil | refine List.Sublist.cons_cons _ ?_ | refine List.Sublist.cons _ ?_)))
  · rintro k hk
    refine wc_seq ?_
    refine wc_region ?_
    refine wl_y (y_lss (ev_rfl rfl) (ev_rfl rfl) rfl) (fun _ _ => trivial) rfl ?_
    refine wl_nil ?_
    refine q_then ?_
    refine wc_seq ?_
    refine wc_cond _ rfl (fun hc3 => ?_) (fun hc3 => ?_)
    · simp only [decide_eq_true_eq] at hc3
      have hpk : 0 + k < L.n * 64 := by omega
      refine wc_skip ?_
      refine q_then ?_
      refine wc_seq ?_
      refine wc_block ?_
      refine wc_seq ?_
      refine wc_region ?_
      refine wl_y (y_move (ev_rfl rfl)) (fun _ _ => trivial) rfl ?_
      refine wl_y (y_assign (ev_rfl rfl)) (fun _ _ => trivial) rfl ?_
      refine wl_nil ?_
      refine q_then ?_
      refine wc_region ?_
      refine wl_y (y_move (ev_rfl rfl)) (fun _ _ => trivial) rfl ?_
      refine wl_y (y_move (ev_rfl rfl)) (fun _ _ => trivial) rfl ?_
      refine wl_y (y_move (ev_rfl rfl)) (fun _ _ => trivial) rfl ?_
      refine wl_y (y_move (ev_rfl rfl)) (fun _ _ => trivial) rfl ?_
      refine wl_y (y_conv rfl rfl (ev_rfl rfl) (show IntKind.u32.wrap (k : Int) = ((0 + k : Nat) : Int) by rw [u32_wrap_id _ (by omega) (by omega)]; omega)) (fun _ _ => trivial) rfl ?_
      refine wl_t (t_call rfl (fun _ _ => rfl) (fun w hi => rget_ok L M (0 + k) hpk w (Chunk.old h hi))) rfl ?_
      rintro _ _ ⟨_, ⟨rfl, rfl⟩, rfl⟩
      refine wl_y (y_indexR (j := k) (sz := 1) (r := k) rfl (fun _ => rfl) (ev_rfl rfl) (ev_rfl rfl) (fun _ => by omega) (fun _ => by omega) (by omega)) (fun _ _ => trivial) rfl ?_
      refine wl_t0 (t_storeS (fun _ => rfl) rfl rfl rfl (by repeat (first | exact aH | apply aT)) (by omega)) ?_
      rintro _ _ ⟨rfl, rfl⟩
      rw [ints_set', cpy_set _ _ (by omega)]
      refine wl_nil ?_
      refine q_block ?_
      refine q_then ?_
      refine wc_region ?_
      refine wl_y (y_add (ev_rfl rfl) (ev_rfl rfl) (by first | exact IntWalk.i64_in _ ⟨by omega, by omega⟩ | exact rfl)) (fun _ _ => trivial) rfl ?_
      refine wl_y (y_move (ev_rfl rfl)) (fun _ _ => trivial) rfl ?_
      refine wl_nil ?_
      refine q_mid (k + 1) ?_ ?_ ?_
      · exact ⟨by omega, by omega⟩
      · ((repeat' (refine Wk.cons ?_ ?_)) <;> first | exact Wk.nil | exact rfl | exact trivial | exact wk_num rfl (by omega) | exact wk_num rfl (by simp))
      · ((repeat (first | exact List.Sublist.slnil | refine List.Sublist.cons_cons _ ?_ | refine List.Sublist.cons _ ?_)))
    · simp only [decide_eq_false_iff_not] at hc3
      obtain rfl : k = L.n * 64 := by omega
      rw [cpy_all (by omega), List.drop_zero, List.take_of_length_le (by omega)]
      refine wc_exit ?_
      refine q_then_exit ?_
      refine q_then_exit ?_
      refine q_block_same rfl ?_
      refine q_then ?_
      refine wc_seq ?_
      refine wc_region ?_
      refine wl_y (y_move (ev_rfl rfl)) (fun _ _ => trivial) rfl ?_
      refine wl_y (y_assign (ev_rfl rfl)) (fun _ _ => trivial) rfl ?_
      refine wl_nil ?_
      refine q_then ?_
      refine wc_ret ?_
      refine ret1 (cs' := [slv _ _ _ _ _ _]) (.inl rfl) (by ((repeat (first | exact List.Sublist.slnil | refine List.Sublist.cons_cons _ ?_ | refine List.Sublist.cons _ ?_)))) rfl rfl ?_
      exact ⟨b7, rfl, rfl⟩
theorem rturned_ok (L : MLoc) (M : Mem) (w : World) (h : (memC L M).ok w) : Ctr Tryz.prog 48 [.pointer (some ⟨L.bm, 0, none⟩)] w [] (fun v cs => ∃ A c, v = .slice A (trues M.turned 64).length c ∧ cs = [sl .i64 3 A (trues M.turned 64).length c (trues M.turned 64)]) := by
  obtain ⟨n1, n64, hdl, hdb, htl⟩ := mem_n h
  obtain ⟨k0, hr0, h1, h2, h3, h4⟩ := mem_ok h
  refine fn_ctr Tryz.func48 rfl Tryz.ntmps48 rfl (Inv.start w) ?_
  refine wc_seq ?_
  refine wc_region ?_
  refine wl_y (y_assign (ev_rfl rfl)) (fun _ _ => trivial) rfl ?_
  refine wl_nil ?_
  refine q_then ?_
  refine wc_seq ?_
  refine wc_region ?_
  refine wl_y (y_assign (ev_rfl rfl)) (fun _ _ => trivial) rfl ?_
  refine wl_nil ?_
  refine q_then ?_
  refine wc_seq ?_
  refine wc_seq ?_
  refine wc_region ?_
  refine wl_y (y_move (ev_rfl rfl)) (fun _ _ => trivial) rfl ?_
  refine wl_y (y_nil (ev_rfl rfl)) (fun _ _ => trivial) rfl ?_
  refine wl_y (y_field 2 rfl (ev_rfl rfl) (by first | exact Nat.zero_add _ | exact rfl)) (fun _ _ => trivial) rfl ?_
  refine wl_y (y_loadN (vs := bools M.turned) (fun _ => rfl) (fun w => by rw [bools_len, htl]; rfl) (ev_rfl rfl)) (old_rows (o := 2) h4 memCells_tus) rfl ?_
  refine wl_nilc 3 1 ?_
  refine wl_y (y_move (ev_rfl rfl)) (fun _ _ => trivial) rfl ?_
  refine wl_nil ?_
  refine q_then ?_
  refine wc_block ?_
  refine wc_loop (fun s : Nat × Option Addr × Nat => [(0, .pointer (some ⟨L.bm, 0, none⟩)), (3, .slice s.2.1 (trues M.turned s.1).length s.2.2), (9, .agg (bools M.turned).toArray), (10, .int .i64 (s.1 : Int))]) (fun s => [sl .i64 3 s.2.1 (trues M.turned s.1).length s.2.2 (trues M.turned s.1)]) (fun s => s.1 ≤ 64) (fun s => 64 - s.1) ((0, none, 0)) ?_ ?_ ?_ ?_
  · exact Nat.zero_le _
  · ((repeat' (refine Wk.cons ?_ ?_)) <;> first | exact Wk.nil | exact rfl | exact trivial | exact wk_num rfl (by omega) | exact wk_num rfl (by simp))
  · ((repeat (first | exact List.Sublist.slnil | refine List.Sublist.cons_cons _ ?_ | refine List.Sublist.cons _ ?_)))
  · rintro ⟨k, A1, c1⟩ hk
    simp only at hk
    dsimp only
    refine wc_seq ?_
    refine wc_region ?_
    refine wl_y (y_lss (ev_rfl rfl) (ev_rfl rfl) rfl) (fun _ _ => trivial) rfl ?_
    refine wl_nil ?_
    refine q_then ?_
    refine wc_seq ?_
    refine wc_cond _ rfl (fun hc3 => ?_) (fun hc3 => ?_)
    · simp only [decide_eq_true_eq] at hc3
      have hle := trues_le M.turned k
      refine wc_skip ?_
      refine q_then ?_
      refine wc_seq ?_
      refine wc_block ?_
      refine wc_seq ?_
      refine wc_region ?_
      refine wl_y (y_move (ev_rfl rfl)) (fun _ _ => trivial) rfl ?_
      refine wl_y (y_indexV (j := k) rfl (fun _ => rfl) (fun _ => rfl) (ev_rfl rfl) (ev_rfl rfl) (fun _ => by omega) (fun _ => by omega) (fun _ => bools_getD (show k < M.turned.length by omega))) (fun _ _ => trivial) rfl ?_
      refine wl_y (y_assign (ev_rfl rfl)) (fun _ _ => trivial) rfl ?_
      refine wl_y (y_assign (ev_rfl rfl)) (fun _ _ => trivial) rfl ?_
      refine wl_nil ?_
      refine q_then ?_
      refine wc_seq ?_
      refine wc_region ?_
      refine wl_y (y_move (ev_rfl rfl)) (fun _ _ => trivial) rfl ?_
      refine wl_nil ?_
      refine q_then ?_
      refine wc_cond _ rfl (fun hc5 => ?_) (fun hc5 => ?_)
      · have he : trues M.turned (k + 1) = trues M.turned k ++ [(k : Int)] := by rw [trues_succ, hc5]; rfl
        refine wc_region ?_
        refine wl_y (y_move (ev_rfl rfl)) (fun _ _ => trivial) rfl ?_
        refine wl_y (y_move (ev_rfl rfl)) (fun _ _ => trivial) rfl ?_
        refine wl_t (t_buildSl1 rfl rfl (fun _ => rfl) (fun _ => rfl) rfl rfl) rfl ?_
        rintro _ _ ⟨b17, rfl, rfl⟩
        refine wl_t (t_append (e := 3) (sz := 1) (bytes := 8) rfl rfl (by repeat (first | exact aH | apply aT)) rfl rfl (fun w hi => hi.rd (by repeat (first | exact .head _ _ | apply Has.tail))) (allT rfl) (by simp only [maxLen]; omega) (by omega)) rfl ?_
        rintro _ _ ⟨A2, c2, rfl, rfl⟩
        rw [show (trues M.turned k).length + 1 = (trues M.turned (k + 1)).length by (rw [he]; simp), show ints .i64 (trues M.turned k) ++ [Value.int .i64 (k : Int)] = ints .i64 (trues M.turned (k + 1)) by (rw [he]; exact ints_append _ [_])]
        refine wl_y (y_assign (ev_rfl rfl)) (fun _ _ => trivial) rfl ?_
        refine wl_nil ?_
        refine q_block ?_
        refine q_then ?_
        refine wc_region ?_
        refine wl_y (y_add (ev_rfl rfl) (ev_rfl rfl) (by first | exact IntWalk.i64_in _ ⟨by omega, by omega⟩ | exact rfl)) (fun _ _ => trivial) rfl ?_
        refine wl_y (y_move (ev_rfl rfl)) (fun _ _ => trivial) rfl ?_
        refine wl_nil ?_
        refine q_mid ((k + 1, A2, c2)) ?_ ?_ ?_
        · exact ⟨by show k + 1 ≤ 64; omega, by show 64 - (k + 1) < 64 - k; omega⟩
        · ((repeat' (refine Wk.cons ?_ ?_)) <;> first | exact Wk.nil | exact rfl | exact trivial | exact wk_num rfl (by omega) | exact wk_num rfl (by simp))
        · ((repeat (first | exact List.Sublist.slnil | refine List.Sublist.cons_cons _ ?_ | refine List.Sublist.cons _ ?_)))
      · have he : trues M.turned (k + 1) = trues M.turned k := by (rw [trues_succ, hc5]; simp)
        rw [← he]
        refine wc_skip ?_
        refine q_block ?_
        refine q_then ?_
        refine wc_region ?_
        refine wl_y (y_add (ev_rfl rfl) (ev_rfl rfl) (by first | exact IntWalk.i64_in _ ⟨by omega, by omega⟩ | exact rfl)) (fun _ _ => trivial) rfl ?_
        refine wl_y (y_move (ev_rfl rfl)) (fun _ _ => trivial) rfl ?_
        refine wl_nil ?_
        refine q_mid ((k + 1, A1, c1)) ?_ ?_ ?_
        · exact ⟨by show k + 1 ≤ 64; omega, by show 64 - (k + 1) < 64 - k; omega⟩
        · ((repeat' (refine Wk.cons ?_ ?_)) <;> first | exact Wk.nil | exact rfl | exact trivial | exact wk_num rfl (by omega) | exact wk_num rfl (by simp))
        · ((repeat (first | exact List.Sublist.slnil | refine List.Sublist.cons_cons _ ?_ | refine List.Sublist.cons _ ?_)))
    · simp only [decide_eq_false_iff_not] at hc3
      obtain rfl : k = 64 := by omega
      refine wc_exit ?_
      refine q_then_exit ?_
      refine q_then_exit ?_
      refine q_block_same rfl ?_
      refine q_then ?_
      refine wc_seq ?_
      refine wc_region ?_
      refine wl_y (y_move (ev_rfl rfl)) (fun _ _ => trivial) rfl ?_
      refine wl_y (y_assign (ev_rfl rfl)) (fun _ _ => trivial) rfl ?_
      refine wl_nil ?_
      refine q_then ?_
      refine wc_ret ?_
      refine ret1 (cs' := [slv _ _ _ _ _ _]) (.inl rfl) (by ((repeat (first | exact List.Sublist.slnil | refine List.Sublist.cons_cons _ ?_ | refine List.Sublist.cons _ ?_)))) rfl rfl ?_
      exact ⟨_, _, rfl, rfl⟩
theorem rcalm_ok (L : MLoc) (M : Mem) (w : World) (hi : Inv w (blocks [memC L M]) [memC L M] w) : Ctr Tryz.prog 42 [.pointer (some ⟨L.bm, 0, none⟩)] w [memC L M] (fun v cs => v = .tuple #[] ∧ cs = [memC L M.calm]) := by
  refine ctr_E hi fun k hr hi' => ?_
  have htl := hr.tl
  refine fn_ctr Tryz.func42 rfl Tryz.ntmps42 rfl hi' ?_
  unfold memF
  refine wc_region ?_
  refine wl_y (y_move (ev_rfl rfl)) (fun _ _ => trivial) rfl ?_
  refine wl_y (y_build00 (vs := List.replicate 64 (Value.bool false)) (by kernel_rfl) (.inr ⟨_, _, _, rfl, fun _ => rfl⟩)) (fun _ _ => trivial) rfl ?_
  refine wl_y (y_nil (ev_rfl rfl)) (fun _ _ => trivial) rfl ?_
  refine wl_y (y_field 2 rfl (ev_rfl rfl) (by first | exact Nat.zero_add _ | exact rfl)) (fun _ _ => trivial) rfl ?_
  refine wl_t0 (t_storeRN (n := 64) (fun _ => rfl) rfl rfl (fun u hu => by rw [List.eq_of_mem_replicate hu]; rfl) (by repeat (first | exact aH | apply aT)) (List.length_replicate) (by rw [memCells_len htl, List.length_replicate]; omega)) ?_
  rintro _ _ ⟨rfl, rfl⟩
  rw [List.length_replicate, memCells_calm htl]
  refine wl_nil ?_
  refine ret0 (cs' := [row _ _ _, row _ _ _, slv _ _ _ _ _ _, slv _ _ _ _ _ _, row _ _ _]) (.inr rfl) (by ((repeat (first | exact List.Sublist.slnil | refine List.Sublist.cons_cons _ ?_ | refine List.Sublist.cons _ ?_)))) rfl ?_
  exact ⟨rfl, k, hr.calm, rfl⟩
theorem rnew_ok (bp bt : Nat) (w : World) : Ctr Tryz.prog 69 [.pointer (some ⟨bp, 0, none⟩), .pointer (some ⟨bt, 0, none⟩)] w [] (fun v cs => ∃ bm, v = .tuple #[.pointer (some ⟨bm, 0, none⟩), .int .i64 0] ∧ cs = [memRow ⟨bp, bt, 0, 0, bm, 0, 0⟩ (List.replicate 64 false)]) := by
  refine fn_ctr Tryz.func69 rfl Tryz.ntmps69 rfl (Inv.start w) ?_
  refine wc_seq ?_
  refine wc_region ?_
  refine wl_y (y_assign (ev_rfl rfl)) (fun _ _ => trivial) rfl ?_
  refine wl_y (y_assign (ev_rfl rfl)) (fun _ _ => trivial) rfl ?_
  refine wl_nil ?_
  refine q_then ?_
  refine wc_seq ?_
  refine wc_seq ?_
  refine wc_region ?_
  refine wl_y (y_move (ev_rfl rfl)) (fun _ _ => trivial) rfl ?_
  refine wl_y (y_pnil rfl (ev_rfl rfl)) (fun _ _ => trivial) rfl ?_
  refine wl_y (y_move (ev_rfl rfl)) (fun _ _ => trivial) rfl ?_
  refine wl_yg (guard_no rfl rfl) (y_move (ev_rfl rfl)) (fun _ _ => trivial) rfl ?_
  refine wl_yg (guard_no rfl rfl) (y_pnil rfl (ev_g rfl)) (fun _ _ => trivial) rfl ?_
  refine wl_y (y_or (ev_rfl rfl) (pk_no rfl (fun _ => rfl))) (fun _ _ => trivial) rfl ?_
  refine wl_nil ?_
  refine q_then ?_
  refine wc_cond_f rfl (rfl) ?_
  refine wc_skip ?_
  refine q_then ?_
  refine wc_seq ?_
  refine wc_region ?_
  refine wl_y (y_move (ev_rfl rfl)) (fun _ _ => trivial) rfl ?_
  refine wl_y (y_move (ev_rfl rfl)) (fun _ _ => trivial) rfl ?_
  refine wl_y (y_build rfl rfl (fun _ => rfl) rfl rfl rfl (by (repeat (first | exact BuildTo.nil _ | (apply BuildTo.cons; (repeat (first | exact SetAt.zero _ _ _ | apply SetAt.succ))))))) (fun _ _ => trivial) rfl ?_
  refine wl_t (t_box rfl rfl) rfl ?_
  rintro _ _ ⟨b15, rfl, rfl⟩
  refine wl_y (y_assign (ev_rfl rfl)) (fun _ _ => trivial) rfl ?_
  refine wl_y (y_assign (ev_rfl rfl)) (fun _ _ => trivial) rfl ?_
  refine wl_nil ?_
  refine q_then ?_
  refine wc_ret ?_
  refine ret2 (cs' := [row _ _ _]) (.inl rfl) (by ((repeat (first | exact List.Sublist.slnil | refine List.Sublist.cons_cons _ ?_ | refine List.Sublist.cons _ ?_)))) rfl rfl rfl ?_
  exact ⟨_, rfl, rfl⟩
end Go.Proofs.YtobjiljkfmcalaaGreat
