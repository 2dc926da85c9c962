/- The reference's Encode. -/
import Derived.Test.YtjknccgefnnfnaaStS
set_option linter.unusedSimpArgs false
set_option linter.unusedVariables false
namespace Go.Ink
open Go.RowKit
def St.bools (s : St) : List Bool := [s.super, s.paging, s.ie, s.esuper, s.eie, s.halted]
/-- The truths as far as the k-th. -/
def tr : Nat → List Bool → Int
  | _, [] => 0
  | k, b :: l => b2i b * 2 ^ k + tr (k + 1) l
def trTo (s : St) (k : Nat) : Int := tr 0 (s.bools.take k)
theorem trTo_six (s : St) : trTo s 6 = s.truths := by
  simp only [trTo, St.bools, List.take_succ_cons, List.take_zero, tr, St.truths]
  omega
theorem tr_step : ∀ (x1 x2 x3 x4 x5 x6 : Bool) (k : Fin 6), bits .or .u8 (tr 0 ([x1, x2, x3, x4, x5, x6].take k.val)) (IntKind.u8.wrap (IntKind.u8.wrap (b2i ([x1, x2, x3, x4, x5, x6].getD k.val false)) * 2 ^ (min (IntKind.u64.wrap (k.val : Int)).toNat IntKind.u8.bits))) = tr 0 ([x1, x2, x3, x4, x5, x6].take (k.val + 1)) := by decide +kernel
theorem trTo_step (s : St) {k : Nat} (h : k < 6) : bits .or .u8 (trTo s k) (IntKind.u8.wrap (IntKind.u8.wrap (b2i (s.bools.getD k false)) * 2 ^ (min (IntKind.u64.wrap (k : Int)).toNat IntKind.u8.bits))) = trTo s (k + 1) := tr_step s.super s.paging s.ie s.esuper s.eie s.halted ⟨k, h⟩
/-- What the reference has written when i stacks are. -/
def St.encTo (s : St) (i : Nat) : List Int := words [s.pc] ++ (([s.d, s.r].take i).flatMap fun l => words [(l.length : Int)] ++ words l)
def St.tails (s : St) : List Int := [s.root, s.vec, s.epc, s.cause, s.addr, s.count % 4294967296, s.count / 4294967296]
theorem words_cons (x : Int) (l : List Int) : words (x :: l) = words [x] ++ words l := by simp [words]
theorem words_snoc (l : List Int) (x : Int) : words (l ++ [x]) = words l ++ words [x] := words_append l [x]
theorem St.encTo2 (s : St) : ((s.encTo 2 ++ words [s.flags]) ++ [s.truths]) ++ words s.tails = s.enc := by
  simp only [St.encTo, St.enc, St.tails, List.take_succ_cons, List.take_zero, List.flatMap_cons, List.flatMap_nil, List.append_nil, List.append_assoc]
  rw [show words [s.pc, (s.d.length : Int)] = words [s.pc] ++ words [(s.d.length : Int)] by simp [words]]
  simp only [List.append_assoc]
theorem St.encTo_len (s : St) (h : s.right = true) {k : Nat} : (s.encTo k).length ≤ 200 := by
  obtain ⟨d1, r1, _⟩ := St.right_b h
  rcases k with _ | _ | k
  · simp [St.encTo, words_len]
  · simp [St.encTo, words_len]; omega
  · simp [St.encTo, words_len]; omega
/-- One of the two stacks, as the reference takes them. -/
theorem St.stack_at (s : St) (P : List Int → Option Addr → Nat → Prop) {Ad Ar : Option Addr} {cd cr : Nat} (hd : P s.d Ad cd) (hr : P s.r Ar cr) {i : Nat} (hi : i < 2) :
    ∃ (l : List Int) (A : Option Addr) (c : Nat), [Value.slice Ad s.d.length cd, .slice Ar s.r.length cr][i]? = some (.slice A l.length c) ∧ s.encTo (i + 1) = s.encTo i ++ words [(l.length : Int)] ++ words l ∧ P l A c := by
  obtain rfl | rfl : i = 0 ∨ i = 1 := by omega
  · exact ⟨s.d, Ad, cd, rfl, by simp [St.encTo], hd⟩
  · exact ⟨s.r, Ar, cr, rfl, by simp [St.encTo], hr⟩
theorem bools_at (s : St) {k : Nat} (h : k < 6) : (s.bools.map Value.bool)[k]? = some (.bool (s.bools.getD k false)) := by
  have : k < s.bools.length := by simpa [St.bools] using h
  simp [List.getElem?_map, List.getElem?_eq_getElem this, List.getD_eq_getElem?_getD]
end Go.Ink
namespace Go.Proofs.Ytjknccgefnnfnaa
open Go.RowKit Go.Ink
set_option maxRecDepth 100000 in
set_option maxHeartbeats 2000000 in
theorem refencode_ok (s : St) (hs : s.wf) (hr : s.right = true) (Ad Ar : Option Addr) (cd cr : Nat) (w : World) (h : RdSt w s Ad Ar cd cr) :
    Ctr Try.prog 38 [sv s Ad cd Ar cr] w [] (fun v cs => ∃ A c, v = .slice A s.enc.length c ∧ cs = [sl .u8 5 A s.enc.length c s.enc]) := by
  obtain ⟨q1, q2⟩ := hs.count
  obtain ⟨d16, r16, fl15⟩ := St.right_b hr
  have hle := fun k => St.encTo_len s hr (k := k)
  have hst := fun {i : Nat} (hi : i < 2) => St.stack_at s (fun l A c => l.length ≤ 16 ∧ Rd w .u32 A l.length c l) (Ad := Ad) (Ar := Ar) (cd := cd) (cr := cr) ⟨d16, h.d⟩ ⟨r16, h.r⟩ hi
  refine fn_ctr Try.func38 rfl Try.ntmps38 rfl (Inv.start w) ?_
  refine wc_seq ?_
  refine wc_region ?_
  refine wl_t (t_box rfl rfl) rfl ?_
  rintro _ _ ⟨b1, rfl, rfl⟩
  refine wl_y (y_assign (ev_rfl rfl)) (fun _ _ => trivial) rfl ?_
  refine wl_nil ?_
  refine q_then ?_
  refine wc_seq ?_
  refine wc_region ?_
  refine wl_nilc 5 1 ?_
  refine wl_y (y_field 0 rfl (ev_rfl rfl) (by first | exact Nat.zero_add _ | exact rfl)) (fun _ _ => trivial) rfl ?_
  refine wl_y (y_load (fun _ => rfl) (ev_rfl rfl)) (row_cell (by first | exact hasC0 | exact hasC1 | exact hasC2 | exact hasC3 | exact hasC4 | exact hasC5 | exact hasC6 | exact hasC7 | exact hasC8 | exact hasC9 | exact hasC10 | exact hasC11 | exact hasC12 | exact hasC13 | exact hasC14 | exact hasC15 | exact hasC16 | exact hasC17 | exact hasC18 | exact hasC19 | exact hasC20 | exact hasC21 | exact hasC22 | exact hasC23) rfl) rfl ?_
  refine wl_t (t_call1s rfl (fun _ _ => rfl) (by first | exact atC0 | exact atC1 | exact atC2 | exact atC3 | exact atC4 | exact atC5 | exact atC6 | exact atC7 | exact atC8 | exact atC9 | exact atC10 | exact atC11 | exact atC12 | exact atC13 | exact atC14 | exact atC15 | exact atC16 | exact atC17 | exact atC18 | exact atC19 | exact atC20 | exact atC21 | exact atC22 | exact atC23) (fun w hi => (refword_ok none 0 [] s.pc w (hi.one (by first | exact hasC0 | exact hasC1 | exact hasC2 | exact hasC3 | exact hasC4 | exact hasC5 | exact hasC6 | exact hasC7 | exact hasC8 | exact hasC9 | exact hasC10 | exact hasC11 | exact hasC12 | exact hasC13 | exact hasC14 | exact hasC15 | exact hasC16 | exact hasC17 | exact hasC18 | exact hasC19 | exact hasC20 | exact hasC21 | exact hasC22 | exact hasC23)) (by simp)))) rfl ?_
  rintro _ _ ⟨_, ⟨A1, c1, rfl, rfl⟩, rfl⟩
  have hb0 : [] ++ words [s.pc] = s.encTo 0 := by simp [St.encTo]
  rw [hb0]
  refine wl_y (y_assign (ev_rfl rfl)) (fun _ _ => trivial) rfl ?_
  refine wl_nil ?_
  refine q_then ?_
  refine wc_seq ?_
  refine wc_seq ?_
  refine wc_region ?_
  refine wl_y (y_field 1 rfl (ev_rfl rfl) (by first | exact Nat.zero_add _ | exact rfl)) (fun _ _ => trivial) rfl ?_
  refine wl_y (y_load (fun _ => rfl) (ev_rfl rfl)) (row_cell (by first | exact hasC0 | exact hasC1 | exact hasC2 | exact hasC3 | exact hasC4 | exact hasC5 | exact hasC6 | exact hasC7 | exact hasC8 | exact hasC9 | exact hasC10 | exact hasC11 | exact hasC12 | exact hasC13 | exact hasC14 | exact hasC15 | exact hasC16 | exact hasC17 | exact hasC18 | exact hasC19 | exact hasC20 | exact hasC21 | exact hasC22 | exact hasC23) rfl) rfl ?_
  refine wl_y (y_field 2 rfl (ev_rfl rfl) (by first | exact Nat.zero_add _ | exact rfl)) (fun _ _ => trivial) rfl ?_
  refine wl_y (y_load (fun _ => rfl) (ev_rfl rfl)) (row_cell (by first | exact hasC0 | exact hasC1 | exact hasC2 | exact hasC3 | exact hasC4 | exact hasC5 | exact hasC6 | exact hasC7 | exact hasC8 | exact hasC9 | exact hasC10 | exact hasC11 | exact hasC12 | exact hasC13 | exact hasC14 | exact hasC15 | exact hasC16 | exact hasC17 | exact hasC18 | exact hasC19 | exact hasC20 | exact hasC21 | exact hasC22 | exact hasC23) rfl) rfl ?_
  refine wl_t (t_buildSl1 rfl rfl (fun _ => rfl) (fun _ => rfl) rfl rfl) rfl ?_
  rintro _ _ ⟨b19, rfl, rfl⟩
  refine wl_y (y_len ⟨_, rfl⟩ (ev_rfl rfl)) (fun _ _ => trivial) rfl ?_
  refine wl_y (y_move (ev_rfl rfl)) (fun _ _ => trivial) rfl ?_
  refine wl_nil ?_
  refine q_then ?_
  refine wc_block ?_
  refine wc_loop (fun q : Nat × Option Addr × Nat => [(1, .pointer (some ⟨b1, 0, none⟩)), (3, .slice q.2.1 (s.encTo q.1).length q.2.2), (19, .slice (some ⟨b19, 0, none⟩) 2 2), (20, .int .i64 2), (21, .int .i64 q.1)]) (fun q => [row b1 (s.cells (.slice Ad s.d.length cd) (.slice Ar s.r.length cr)) 26, sl .u8 5 q.2.1 (s.encTo q.1).length q.2.2 (s.encTo q.1), slv 23 1 (some ⟨b19, 0, none⟩) 2 2 [.slice Ad s.d.length cd, .slice Ar s.r.length cr]]) (fun q => q.1 ≤ 2) (fun q => 2 - q.1) ((0, A1, c1)) ?_ ?_ ?_ ?_
  · exact Nat.zero_le _
  · ((repeat' (refine Wk.cons ?_ ?_)) <;> first | exact Wk.nil | exact rfl | exact trivial | exact wk_num rfl (by omega) | exact wk_num rfl (by simp))
  · ((repeat (first | exact List.Sublist.slnil | refine List.Sublist.cons_cons _ ?_ | refine List.Sublist.cons _ ?_)))
  · rintro ⟨i, A2, c2⟩ hi2
    simp only at hi2
    dsimp only
    refine wc_seq ?_
    refine wc_region ?_
    refine wl_y (y_lss (ev_rfl rfl) (ev_rfl rfl) rfl) (fun _ _ => trivial) rfl ?_
    refine wl_nil ?_
    refine q_then ?_
    refine wc_seq ?_
    refine wc_cond _ rfl (fun hc3 => ?_) (fun hc3 => ?_)
    · simp only [decide_eq_true_eq] at hc3
      obtain ⟨l, Al, cl, hl1, hl2, hl3, hl4⟩ := hst (show i < 2 by omega)
      have hli := hle i
      refine wc_skip ?_
      refine q_then ?_
      refine wc_seq ?_
      refine wc_block ?_
      refine wc_seq ?_
      refine wc_region ?_
      refine wl_y (y_indexR (j := i) (sz := 1) (r := i) rfl (fun _ => rfl) (ev_rfl rfl) (ev_rfl rfl) (fun _ => by omega) (fun _ => by omega) (by omega)) (fun _ _ => trivial) rfl ?_
      refine wl_y (y_load (fun _ => rfl) (ev_rfl rfl)) (sl_cellR (by first | exact hasC0 | exact hasC1 | exact hasC2 | exact hasC3 | exact hasC4 | exact hasC5 | exact hasC6 | exact hasC7 | exact hasC8 | exact hasC9 | exact hasC10 | exact hasC11 | exact hasC12 | exact hasC13 | exact hasC14 | exact hasC15 | exact hasC16 | exact hasC17 | exact hasC18 | exact hasC19 | exact hasC20 | exact hasC21 | exact hasC22 | exact hasC23) hl1) rfl ?_
      refine wl_y (y_assign (ev_rfl rfl)) (fun _ _ => trivial) rfl ?_
      refine wl_nil ?_
      refine q_then ?_
      refine wc_seq ?_
      refine wc_region ?_
      refine wl_y (y_move (ev_rfl rfl)) (fun _ _ => trivial) rfl ?_
      refine wl_y (y_move (ev_rfl rfl)) (fun _ _ => trivial) rfl ?_
      refine wl_y (y_len ⟨_, rfl⟩ (ev_rfl rfl)) (fun _ _ => trivial) rfl ?_
      refine wl_y (y_conv rfl rfl (ev_rfl rfl) (show IntKind.u32.wrap (l.length : Int) = (l.length : Int) by rw [u32_wrap]; omega)) (fun _ _ => trivial) rfl ?_
      refine wl_t (t_call1s rfl (fun _ _ => rfl) (by first | exact atC0 | exact atC1 | exact atC2 | exact atC3 | exact atC4 | exact atC5 | exact atC6 | exact atC7 | exact atC8 | exact atC9 | exact atC10 | exact atC11 | exact atC12 | exact atC13 | exact atC14 | exact atC15 | exact atC16 | exact atC17 | exact atC18 | exact atC19 | exact atC20 | exact atC21 | exact atC22 | exact atC23) (fun w hi => (refword_ok A2 c2 (s.encTo i) (l.length : Int) w (hi.one (by first | exact hasC0 | exact hasC1 | exact hasC2 | exact hasC3 | exact hasC4 | exact hasC5 | exact hasC6 | exact hasC7 | exact hasC8 | exact hasC9 | exact hasC10 | exact hasC11 | exact hasC12 | exact hasC13 | exact hasC14 | exact hasC15 | exact hasC16 | exact hasC17 | exact hasC18 | exact hasC19 | exact hasC20 | exact hasC21 | exact hasC22 | exact hasC23)) (by omega)))) rfl ?_
      rintro _ _ ⟨_, ⟨A3, c3, rfl, rfl⟩, rfl⟩
      refine wl_y (y_assign (ev_rfl rfl)) (fun _ _ => trivial) rfl ?_
      refine wl_nil ?_
      refine q_then ?_
      refine wc_seq ?_
      refine wc_region ?_
      have e0 : s.encTo i ++ words [(l.length : Int)] = s.encTo i ++ words [(l.length : Int)] ++ words (l.take 0) := by simp [words_nil]
      rw [e0]
      refine wl_y (y_assign (ev_rfl rfl)) (fun _ _ => trivial) rfl ?_
      refine wl_nil ?_
      refine q_then ?_
      refine wc_block ?_
      refine wc_loop (fun q : Nat × Option Addr × Nat => [(1, .pointer (some ⟨b1, 0, none⟩)), (3, .slice q.2.1 (s.encTo i ++ words [(l.length : Int)] ++ words (l.take q.1)).length q.2.2), (5, .slice Al l.length cl), (6, .int .i64 q.1), (19, .slice (some ⟨b19, 0, none⟩) 2 2), (20, .int .i64 2), (21, .int .i64 i)]) (fun q => [row b1 (s.cells (.slice Ad s.d.length cd) (.slice Ar s.r.length cr)) 26, sl .u8 5 q.2.1 (s.encTo i ++ words [(l.length : Int)] ++ words (l.take q.1)).length q.2.2 (s.encTo i ++ words [(l.length : Int)] ++ words (l.take q.1)), slv 23 1 (some ⟨b19, 0, none⟩) 2 2 [.slice Ad s.d.length cd, .slice Ar s.r.length cr]]) (fun q => q.1 ≤ l.length) (fun q => l.length - q.1) ((0, A3, c3)) ?_ ?_ ?_ ?_
      · exact Nat.zero_le _
      · ((repeat' (refine Wk.cons ?_ ?_)) <;> first | exact Wk.nil | exact rfl | exact trivial | exact wk_num rfl (by omega) | exact wk_num rfl (by simp))
      · ((repeat (first | exact List.Sublist.slnil | refine List.Sublist.cons_cons _ ?_ | refine List.Sublist.cons _ ?_)))
      · rintro ⟨k, A4, c4⟩ hk
        simp only at hk
        dsimp only
        refine wc_seq ?_
        refine wc_seq ?_
        refine wc_region ?_
        refine wl_y (y_move (ev_rfl rfl)) (fun _ _ => trivial) rfl ?_
        refine wl_y (y_move (ev_rfl rfl)) (fun _ _ => trivial) rfl ?_
        refine wl_y (y_len ⟨_, rfl⟩ (ev_rfl rfl)) (fun _ _ => trivial) rfl ?_
        refine wl_y (y_lss (ev_rfl rfl) (ev_rfl rfl) rfl) (fun _ _ => trivial) rfl ?_
        refine wl_nil ?_
        refine q_then ?_
        refine wc_cond _ rfl (fun hc7 => ?_) (fun hc7 => ?_)
        · simp only [decide_eq_true_eq] at hc7
          obtain ⟨adl, rfl⟩ := hl4.some_ (by omega)
          have hkl : k < l.length := by omega
          have hlk : (s.encTo i ++ words [(l.length : Int)] ++ words (l.take k)).length ≤ 1000 := by simp only [List.length_append, words_len, List.length_take, List.length_cons, List.length_nil]; omega
          refine wc_skip ?_
          refine q_then ?_
          refine wc_seq ?_
          refine wc_block ?_
          refine wc_region ?_
          refine wl_y (y_move (ev_rfl rfl)) (fun _ _ => trivial) rfl ?_
          refine wl_y (y_move (ev_rfl rfl)) (fun _ _ => trivial) rfl ?_
          refine wl_y (y_move (ev_rfl rfl)) (fun _ _ => trivial) rfl ?_
          refine wl_y (y_index (j := k)  rfl (fun _ => rfl) (ev_rfl rfl) (ev_rfl rfl)  (fun _ => by omega) (fun _ => by omega)) (fun _ _ => trivial) rfl ?_
          refine wl_y (y_load (fun _ => rfl) (ev_rfl rfl)) (rd_cell hl4 (ints_get hkl)) rfl ?_
          refine wl_t (t_call1s rfl (fun _ _ => rfl) (by first | exact atC0 | exact atC1 | exact atC2 | exact atC3 | exact atC4 | exact atC5 | exact atC6 | exact atC7 | exact atC8 | exact atC9 | exact atC10 | exact atC11 | exact atC12 | exact atC13 | exact atC14 | exact atC15 | exact atC16 | exact atC17 | exact atC18 | exact atC19 | exact atC20 | exact atC21 | exact atC22 | exact atC23) (fun w hi => (refword_ok A4 c4 (s.encTo i ++ words [(l.length : Int)] ++ words (l.take k)) (l[k]'hkl) w (hi.one (by first | exact hasC0 | exact hasC1 | exact hasC2 | exact hasC3 | exact hasC4 | exact hasC5 | exact hasC6 | exact hasC7 | exact hasC8 | exact hasC9 | exact hasC10 | exact hasC11 | exact hasC12 | exact hasC13 | exact hasC14 | exact hasC15 | exact hasC16 | exact hasC17 | exact hasC18 | exact hasC19 | exact hasC20 | exact hasC21 | exact hasC22 | exact hasC23)) (by omega)))) rfl ?_
          rintro _ _ ⟨_, ⟨A5, c5, rfl, rfl⟩, rfl⟩
          rw [List.append_assoc (s.encTo i ++ words [(l.length : Int)]), ← words_snoc, ← List.take_succ_eq_append_getElem hkl]
          refine wl_y (y_assign (ev_rfl rfl)) (fun _ _ => trivial) rfl ?_
          refine wl_nil ?_
          refine q_block ?_
          refine q_then ?_
          refine wc_region ?_
          refine wl_y (y_move (ev_rfl rfl)) (fun _ _ => trivial) rfl ?_
          refine wl_y (y_add (ev_rfl rfl) (ev_rfl rfl) (by first | exact IntWalk.i64_in _ ⟨by omega, by omega⟩ | exact rfl)) (fun _ _ => trivial) rfl ?_
          refine wl_y (y_assign (ev_rfl rfl)) (fun _ _ => trivial) rfl ?_
          refine wl_nil ?_
          refine q_mid ((k + 1, A5, c5)) ?_ ?_ ?_
          · exact ⟨by show k + 1 ≤ l.length; omega, by show l.length - (k + 1) < l.length - k; omega⟩
          · ((repeat' (refine Wk.cons ?_ ?_)) <;> first | exact Wk.nil | exact rfl | exact trivial | exact wk_num rfl (by omega) | exact wk_num rfl (by simp))
          · ((repeat (first | exact List.Sublist.slnil | refine List.Sublist.cons_cons _ ?_ | refine List.Sublist.cons _ ?_)))
        · simp only [decide_eq_false_iff_not] at hc7
          obtain rfl : k = l.length := by omega
          rw [List.take_length, ← hl2]
          refine wc_exit ?_
          refine q_then_exit ?_
          refine q_then_exit ?_
          refine q_block_same rfl ?_
          refine q_block ?_
          refine q_then ?_
          refine wc_region ?_
          refine wl_y (y_add (ev_rfl rfl) (ev_rfl rfl) (by first | exact IntWalk.i64_in _ ⟨by omega, by omega⟩ | exact rfl)) (fun _ _ => trivial) rfl ?_
          refine wl_y (y_move (ev_rfl rfl)) (fun _ _ => trivial) rfl ?_
          refine wl_nil ?_
          refine q_mid ((i + 1, A4, c4)) ?_ ?_ ?_
          · exact ⟨by show i + 1 ≤ 2; omega, by show 2 - (i + 1) < 2 - i; omega⟩
          · ((repeat' (refine Wk.cons ?_ ?_)) <;> first | exact Wk.nil | exact rfl | exact trivial | exact wk_num rfl (by omega) | exact wk_num rfl (by simp))
          · ((repeat (first | exact List.Sublist.slnil | refine List.Sublist.cons_cons _ ?_ | refine List.Sublist.cons _ ?_)))
    · simp only [decide_eq_false_iff_not] at hc3
      obtain rfl : i = 2 := by omega
      refine wc_exit ?_
      refine q_then_exit ?_
      refine q_then_exit ?_
      refine q_block_same rfl ?_
      refine q_then ?_
      refine wc_seq ?_
      refine wc_region ?_
      have hle2 := hle 2
      refine wl_y (y_move (ev_rfl rfl)) (fun _ _ => trivial) rfl ?_
      refine wl_y (y_field 3 rfl (ev_rfl rfl) (by first | exact Nat.zero_add _ | exact rfl)) (fun _ _ => trivial) rfl ?_
      refine wl_y (y_load (fun _ => rfl) (ev_rfl rfl)) (row_cell (by first | exact hasC0 | exact hasC1 | exact hasC2 | exact hasC3 | exact hasC4 | exact hasC5 | exact hasC6 | exact hasC7 | exact hasC8 | exact hasC9 | exact hasC10 | exact hasC11 | exact hasC12 | exact hasC13 | exact hasC14 | exact hasC15 | exact hasC16 | exact hasC17 | exact hasC18 | exact hasC19 | exact hasC20 | exact hasC21 | exact hasC22 | exact hasC23) rfl) rfl ?_
      refine wl_t (t_call1s rfl (fun _ _ => rfl) (by first | exact atC0 | exact atC1 | exact atC2 | exact atC3 | exact atC4 | exact atC5 | exact atC6 | exact atC7 | exact atC8 | exact atC9 | exact atC10 | exact atC11 | exact atC12 | exact atC13 | exact atC14 | exact atC15 | exact atC16 | exact atC17 | exact atC18 | exact atC19 | exact atC20 | exact atC21 | exact atC22 | exact atC23) (fun w hi => (refword_ok A2 c2 (s.encTo 2) s.flags w (hi.one (by first | exact hasC0 | exact hasC1 | exact hasC2 | exact hasC3 | exact hasC4 | exact hasC5 | exact hasC6 | exact hasC7 | exact hasC8 | exact hasC9 | exact hasC10 | exact hasC11 | exact hasC12 | exact hasC13 | exact hasC14 | exact hasC15 | exact hasC16 | exact hasC17 | exact hasC18 | exact hasC19 | exact hasC20 | exact hasC21 | exact hasC22 | exact hasC23)) (by omega)))) rfl ?_
      rintro _ _ ⟨_, ⟨A6, c6, rfl, rfl⟩, rfl⟩
      refine wl_y (y_assign (ev_rfl rfl)) (fun _ _ => trivial) rfl ?_
      refine wl_nil ?_
      refine q_then ?_
      refine wc_seq ?_
      refine wc_region ?_
      refine wl_y (y_assign (ev_rfl rfl)) (fun _ _ => trivial) rfl ?_
      refine wl_nil ?_
      refine q_then ?_
      refine wc_seq ?_
      refine wc_seq ?_
      refine wc_region ?_
      refine wl_y (y_field 4 rfl (ev_rfl rfl) (by first | exact Nat.zero_add _ | exact rfl)) (fun _ _ => trivial) rfl ?_
      refine wl_y (y_load (fun _ => rfl) (ev_rfl rfl)) (row_cell (by first | exact hasC0 | exact hasC1 | exact hasC2 | exact hasC3 | exact hasC4 | exact hasC5 | exact hasC6 | exact hasC7 | exact hasC8 | exact hasC9 | exact hasC10 | exact hasC11 | exact hasC12 | exact hasC13 | exact hasC14 | exact hasC15 | exact hasC16 | exact hasC17 | exact hasC18 | exact hasC19 | exact hasC20 | exact hasC21 | exact hasC22 | exact hasC23) rfl) rfl ?_
      refine wl_y (y_field 5 rfl (ev_rfl rfl) (by first | exact Nat.zero_add _ | exact rfl)) (fun _ _ => trivial) rfl ?_
      refine wl_y (y_load (fun _ => rfl) (ev_rfl rfl)) (row_cell (by first | exact hasC0 | exact hasC1 | exact hasC2 | exact hasC3 | exact hasC4 | exact hasC5 | exact hasC6 | exact hasC7 | exact hasC8 | exact hasC9 | exact hasC10 | exact hasC11 | exact hasC12 | exact hasC13 | exact hasC14 | exact hasC15 | exact hasC16 | exact hasC17 | exact hasC18 | exact hasC19 | exact hasC20 | exact hasC21 | exact hasC22 | exact hasC23) rfl) rfl ?_
      refine wl_y (y_field 6 rfl (ev_rfl rfl) (by first | exact Nat.zero_add _ | exact rfl)) (fun _ _ => trivial) rfl ?_
      refine wl_y (y_load (fun _ => rfl) (ev_rfl rfl)) (row_cell (by first | exact hasC0 | exact hasC1 | exact hasC2 | exact hasC3 | exact hasC4 | exact hasC5 | exact hasC6 | exact hasC7 | exact hasC8 | exact hasC9 | exact hasC10 | exact hasC11 | exact hasC12 | exact hasC13 | exact hasC14 | exact hasC15 | exact hasC16 | exact hasC17 | exact hasC18 | exact hasC19 | exact hasC20 | exact hasC21 | exact hasC22 | exact hasC23) rfl) rfl ?_
      refine wl_y (y_field 12 rfl (ev_rfl rfl) (by first | exact Nat.zero_add _ | exact rfl)) (fun _ _ => trivial) rfl ?_
      refine wl_y (y_load (fun _ => rfl) (ev_rfl rfl)) (row_cell (by first | exact hasC0 | exact hasC1 | exact hasC2 | exact hasC3 | exact hasC4 | exact hasC5 | exact hasC6 | exact hasC7 | exact hasC8 | exact hasC9 | exact hasC10 | exact hasC11 | exact hasC12 | exact hasC13 | exact hasC14 | exact hasC15 | exact hasC16 | exact hasC17 | exact hasC18 | exact hasC19 | exact hasC20 | exact hasC21 | exact hasC22 | exact hasC23) rfl) rfl ?_
      refine wl_y (y_field 13 rfl (ev_rfl rfl) (by first | exact Nat.zero_add _ | exact rfl)) (fun _ _ => trivial) rfl ?_
      refine wl_y (y_load (fun _ => rfl) (ev_rfl rfl)) (row_cell (by first | exact hasC0 | exact hasC1 | exact hasC2 | exact hasC3 | exact hasC4 | exact hasC5 | exact hasC6 | exact hasC7 | exact hasC8 | exact hasC9 | exact hasC10 | exact hasC11 | exact hasC12 | exact hasC13 | exact hasC14 | exact hasC15 | exact hasC16 | exact hasC17 | exact hasC18 | exact hasC19 | exact hasC20 | exact hasC21 | exact hasC22 | exact hasC23) rfl) rfl ?_
      refine wl_y (y_field 15 rfl (ev_rfl rfl) (by first | exact Nat.zero_add _ | exact rfl)) (fun _ _ => trivial) rfl ?_
      refine wl_y (y_load (fun _ => rfl) (ev_rfl rfl)) (row_cell (by first | exact hasC0 | exact hasC1 | exact hasC2 | exact hasC3 | exact hasC4 | exact hasC5 | exact hasC6 | exact hasC7 | exact hasC8 | exact hasC9 | exact hasC10 | exact hasC11 | exact hasC12 | exact hasC13 | exact hasC14 | exact hasC15 | exact hasC16 | exact hasC17 | exact hasC18 | exact hasC19 | exact hasC20 | exact hasC21 | exact hasC22 | exact hasC23) rfl) rfl ?_
      refine wl_t (t_buildSl1 rfl rfl (fun _ => rfl) (fun _ => rfl) rfl rfl) rfl ?_
      rintro _ _ ⟨b59, rfl, rfl⟩
      refine wl_y (y_len ⟨_, rfl⟩ (ev_rfl rfl)) (fun _ _ => trivial) rfl ?_
      refine wl_y (y_move (ev_rfl rfl)) (fun _ _ => trivial) rfl ?_
      refine wl_nil ?_
      refine q_then ?_
      refine wc_block ?_
      refine wc_loop (fun k : Nat => [(1, .pointer (some ⟨b1, 0, none⟩)), (3, .slice A6 (s.encTo 2 ++ words [s.flags]).length c6), (7, .int .u8 (trTo s k)), (59, .slice (some ⟨b59, 0, none⟩) 6 6), (60, .int .i64 6), (61, .int .i64 k)]) (fun k => [row b1 (s.cells (.slice Ad s.d.length cd) (.slice Ar s.r.length cr)) 26, sl .u8 5 A6 (s.encTo 2 ++ words [s.flags]).length c6 (s.encTo 2 ++ words [s.flags]), slv 4 1 (some ⟨b59, 0, none⟩) 6 6 (s.bools.map Value.bool)]) (fun k => k ≤ 6) (fun k => 6 - k) (0) ?_ ?_ ?_ ?_
      · exact Nat.zero_le _
      · ((repeat' (refine Wk.cons ?_ ?_)) <;> first | exact Wk.nil | exact rfl | exact trivial | exact wk_num rfl (by omega) | exact wk_num rfl (by simp))
      · ((repeat (first | exact List.Sublist.slnil | refine List.Sublist.cons_cons _ ?_ | refine List.Sublist.cons _ ?_)))
      · rintro k hk
        refine wc_seq ?_
        refine wc_region ?_
        refine wl_y (y_lss (ev_rfl rfl) (ev_rfl rfl) rfl) (fun _ _ => trivial) rfl ?_
        refine wl_nil ?_
        refine q_then ?_
        refine wc_seq ?_
        refine wc_cond _ rfl (fun hc14 => ?_) (fun hc14 => ?_)
        · simp only [decide_eq_true_eq] at hc14
          refine wc_skip ?_
          refine q_then ?_
          refine wc_seq ?_
          refine wc_block ?_
          refine wc_seq ?_
          refine wc_region ?_
          refine wl_y (y_move (ev_rfl rfl)) (fun _ _ => trivial) rfl ?_
          refine wl_y (y_indexR (j := k) (sz := 1) (r := k) rfl (fun _ => rfl) (ev_rfl rfl) (ev_rfl rfl) (fun _ => by omega) (fun _ => by omega) (by omega)) (fun _ _ => trivial) rfl ?_
          refine wl_y (y_load (fun _ => rfl) (ev_rfl rfl)) (sl_cellR (by first | exact hasC0 | exact hasC1 | exact hasC2 | exact hasC3 | exact hasC4 | exact hasC5 | exact hasC6 | exact hasC7 | exact hasC8 | exact hasC9 | exact hasC10 | exact hasC11 | exact hasC12 | exact hasC13 | exact hasC14 | exact hasC15 | exact hasC16 | exact hasC17 | exact hasC18 | exact hasC19 | exact hasC20 | exact hasC21 | exact hasC22 | exact hasC23) (bools_at s (show k < 6 by omega))) rfl ?_
          refine wl_y (y_assign (ev_rfl rfl)) (fun _ _ => trivial) rfl ?_
          refine wl_y (y_assign (ev_rfl rfl)) (fun _ _ => trivial) rfl ?_
          refine wl_nil ?_
          refine q_then ?_
          refine wc_region ?_
          refine wl_y (y_move (ev_rfl rfl)) (fun _ _ => trivial) rfl ?_
          refine wl_y (y_move (ev_rfl rfl)) (fun _ _ => trivial) rfl ?_
          refine wl_t (t_call rfl (fun _ _ => rfl) (fun w hi => bit_ok _ w)) rfl ?_
          rintro _ _ ⟨_, ⟨rfl, rfl⟩, rfl⟩
          refine wl_y (y_conv rfl rfl (ev_rfl rfl) rfl) (fun _ _ => trivial) rfl ?_
          refine wl_y (y_move (ev_rfl rfl)) (fun _ _ => trivial) rfl ?_
          refine wl_y (y_conv rfl rfl (ev_rfl rfl) rfl) (fun _ _ => trivial) rfl ?_
          refine wl_y (y_shl (ev_rfl rfl) (ev_rfl rfl) (by rw [IntKind.wrap_u64]; omega) rfl) (fun _ _ => trivial) rfl ?_
          refine wl_y (y_or_ (ev_rfl rfl) (ev_rfl rfl) (trTo_step s (show k < 6 by omega))) (fun _ _ => trivial) rfl ?_
          refine wl_y (y_assign (ev_rfl rfl)) (fun _ _ => trivial) rfl ?_
          refine wl_nil ?_
          refine q_block ?_
          refine q_then ?_
          refine wc_region ?_
          refine wl_y (y_add (ev_rfl rfl) (ev_rfl rfl) (by first | exact IntWalk.i64_in _ ⟨by omega, by omega⟩ | exact rfl)) (fun _ _ => trivial) rfl ?_
          refine wl_y (y_move (ev_rfl rfl)) (fun _ _ => trivial) rfl ?_
          refine wl_nil ?_
          refine q_mid (k + 1) ?_ ?_ ?_
          · exact ⟨by omega, by omega⟩
          · ((repeat' (refine Wk.cons ?_ ?_)) <;> first | exact Wk.nil | exact rfl | exact trivial | exact wk_num rfl (by omega) | exact wk_num rfl (by simp))
          · ((repeat (first | exact List.Sublist.slnil | refine List.Sublist.cons_cons _ ?_ | refine List.Sublist.cons _ ?_)))
        · simp only [decide_eq_false_iff_not] at hc14
          obtain rfl : k = 6 := by omega
          refine wc_exit ?_
          refine q_then_exit ?_
          refine q_then_exit ?_
          refine q_block_same rfl ?_
          refine q_then ?_
          refine wc_seq ?_
          refine wc_region ?_
          rw [trTo_six s]
          have hle3 : (s.encTo 2 ++ words [s.flags]).length ≤ 300 := by simp only [List.length_append, words_len, List.length_cons, List.length_nil]; omega
          refine wl_y (y_move (ev_rfl rfl)) (fun _ _ => trivial) rfl ?_
          refine wl_y (y_move (ev_rfl rfl)) (fun _ _ => trivial) rfl ?_
          refine wl_t (t_buildSl1 rfl rfl (fun _ => rfl) (fun _ => rfl) rfl rfl) rfl ?_
          rintro _ _ ⟨b77, rfl, rfl⟩
          refine wl_t (t_append (e := 5) (sz := 1) (bytes := 1) rfl rfl (by first | exact atC0 | exact atC1 | exact atC2 | exact atC3 | exact atC4 | exact atC5 | exact atC6 | exact atC7 | exact atC8 | exact atC9 | exact atC10 | exact atC11 | exact atC12 | exact atC13 | exact atC14 | exact atC15 | exact atC16 | exact atC17 | exact atC18 | exact atC19 | exact atC20 | exact atC21 | exact atC22 | exact atC23) rfl rfl (fun w hi => hi.rd (by first | exact hasC0 | exact hasC1 | exact hasC2 | exact hasC3 | exact hasC4 | exact hasC5 | exact hasC6 | exact hasC7 | exact hasC8 | exact hasC9 | exact hasC10 | exact hasC11 | exact hasC12 | exact hasC13 | exact hasC14 | exact hasC15 | exact hasC16 | exact hasC17 | exact hasC18 | exact hasC19 | exact hasC20 | exact hasC21 | exact hasC22 | exact hasC23)) (allT rfl) (by simp only [maxLen]; omega) (by omega)) rfl ?_
          rintro _ _ ⟨A7, c7, rfl, rfl⟩
          rw [one_len _ s.truths, one_ints _ s.truths]
          refine wl_y (y_assign (ev_rfl rfl)) (fun _ _ => trivial) rfl ?_
          refine wl_nil ?_
          refine q_then ?_
          refine wc_seq ?_
          refine wc_seq ?_
          refine wc_region ?_
          have e0 : s.encTo 2 ++ words [s.flags] ++ [s.truths] = s.encTo 2 ++ words [s.flags] ++ [s.truths] ++ words (s.tails.take 0) := by simp [words_nil]
          rw [e0]
          have hle4 : (s.encTo 2 ++ words [s.flags] ++ [s.truths]).length ≤ 400 := by simp only [List.length_append, words_len, List.length_cons, List.length_nil] at hle3 ⊢; omega
          refine wl_y (y_field 7 rfl (ev_rfl rfl) (by first | exact Nat.zero_add _ | exact rfl)) (fun _ _ => trivial) rfl ?_
          refine wl_y (y_load (fun _ => rfl) (ev_rfl rfl)) (row_cell (by first | exact hasC0 | exact hasC1 | exact hasC2 | exact hasC3 | exact hasC4 | exact hasC5 | exact hasC6 | exact hasC7 | exact hasC8 | exact hasC9 | exact hasC10 | exact hasC11 | exact hasC12 | exact hasC13 | exact hasC14 | exact hasC15 | exact hasC16 | exact hasC17 | exact hasC18 | exact hasC19 | exact hasC20 | exact hasC21 | exact hasC22 | exact hasC23) rfl) rfl ?_
          refine wl_y (y_field 8 rfl (ev_rfl rfl) (by first | exact Nat.zero_add _ | exact rfl)) (fun _ _ => trivial) rfl ?_
          refine wl_y (y_load (fun _ => rfl) (ev_rfl rfl)) (row_cell (by first | exact hasC0 | exact hasC1 | exact hasC2 | exact hasC3 | exact hasC4 | exact hasC5 | exact hasC6 | exact hasC7 | exact hasC8 | exact hasC9 | exact hasC10 | exact hasC11 | exact hasC12 | exact hasC13 | exact hasC14 | exact hasC15 | exact hasC16 | exact hasC17 | exact hasC18 | exact hasC19 | exact hasC20 | exact hasC21 | exact hasC22 | exact hasC23) rfl) rfl ?_
          refine wl_y (y_field 9 rfl (ev_rfl rfl) (by first | exact Nat.zero_add _ | exact rfl)) (fun _ _ => trivial) rfl ?_
          refine wl_y (y_load (fun _ => rfl) (ev_rfl rfl)) (row_cell (by first | exact hasC0 | exact hasC1 | exact hasC2 | exact hasC3 | exact hasC4 | exact hasC5 | exact hasC6 | exact hasC7 | exact hasC8 | exact hasC9 | exact hasC10 | exact hasC11 | exact hasC12 | exact hasC13 | exact hasC14 | exact hasC15 | exact hasC16 | exact hasC17 | exact hasC18 | exact hasC19 | exact hasC20 | exact hasC21 | exact hasC22 | exact hasC23) rfl) rfl ?_
          refine wl_y (y_field 10 rfl (ev_rfl rfl) (by first | exact Nat.zero_add _ | exact rfl)) (fun _ _ => trivial) rfl ?_
          refine wl_y (y_load (fun _ => rfl) (ev_rfl rfl)) (row_cell (by first | exact hasC0 | exact hasC1 | exact hasC2 | exact hasC3 | exact hasC4 | exact hasC5 | exact hasC6 | exact hasC7 | exact hasC8 | exact hasC9 | exact hasC10 | exact hasC11 | exact hasC12 | exact hasC13 | exact hasC14 | exact hasC15 | exact hasC16 | exact hasC17 | exact hasC18 | exact hasC19 | exact hasC20 | exact hasC21 | exact hasC22 | exact hasC23) rfl) rfl ?_
          refine wl_y (y_field 11 rfl (ev_rfl rfl) (by first | exact Nat.zero_add _ | exact rfl)) (fun _ _ => trivial) rfl ?_
          refine wl_y (y_load (fun _ => rfl) (ev_rfl rfl)) (row_cell (by first | exact hasC0 | exact hasC1 | exact hasC2 | exact hasC3 | exact hasC4 | exact hasC5 | exact hasC6 | exact hasC7 | exact hasC8 | exact hasC9 | exact hasC10 | exact hasC11 | exact hasC12 | exact hasC13 | exact hasC14 | exact hasC15 | exact hasC16 | exact hasC17 | exact hasC18 | exact hasC19 | exact hasC20 | exact hasC21 | exact hasC22 | exact hasC23) rfl) rfl ?_
          refine wl_y (y_field 14 rfl (ev_rfl rfl) (by first | exact Nat.zero_add _ | exact rfl)) (fun _ _ => trivial) rfl ?_
          refine wl_y (y_load (fun _ => rfl) (ev_rfl rfl)) (row_cell (by first | exact hasC0 | exact hasC1 | exact hasC2 | exact hasC3 | exact hasC4 | exact hasC5 | exact hasC6 | exact hasC7 | exact hasC8 | exact hasC9 | exact hasC10 | exact hasC11 | exact hasC12 | exact hasC13 | exact hasC14 | exact hasC15 | exact hasC16 | exact hasC17 | exact hasC18 | exact hasC19 | exact hasC20 | exact hasC21 | exact hasC22 | exact hasC23) rfl) rfl ?_
          refine wl_y (y_conv rfl rfl (ev_rfl rfl) (u32_wrap _)) (fun _ _ => trivial) rfl ?_
          refine wl_y (y_field 14 rfl (ev_rfl rfl) (by first | exact Nat.zero_add _ | exact rfl)) (fun _ _ => trivial) rfl ?_
          refine wl_y (y_load (fun _ => rfl) (ev_rfl rfl)) (row_cell (by first | exact hasC0 | exact hasC1 | exact hasC2 | exact hasC3 | exact hasC4 | exact hasC5 | exact hasC6 | exact hasC7 | exact hasC8 | exact hasC9 | exact hasC10 | exact hasC11 | exact hasC12 | exact hasC13 | exact hasC14 | exact hasC15 | exact hasC16 | exact hasC17 | exact hasC18 | exact hasC19 | exact hasC20 | exact hasC21 | exact hasC22 | exact hasC23) rfl) rfl ?_
          refine wl_y (y_shr (ev_rfl rfl) (ev_rfl rfl) (by omega) (shr32 _)) (fun _ _ => trivial) rfl ?_
          refine wl_y (y_conv rfl rfl (ev_rfl rfl) (show IntKind.u32.wrap (s.count / 4294967296) = s.count / 4294967296 by rw [u32_wrap]; omega)) (fun _ _ => trivial) rfl ?_
          refine wl_t (t_buildSl1 rfl rfl (fun _ => rfl) (fun _ => rfl) rfl rfl) rfl ?_
          rintro _ _ ⟨b96, rfl, rfl⟩
          refine wl_y (y_len ⟨_, rfl⟩ (ev_rfl rfl)) (fun _ _ => trivial) rfl ?_
          refine wl_y (y_move (ev_rfl rfl)) (fun _ _ => trivial) rfl ?_
          refine wl_nil ?_
          refine q_then ?_
          refine wc_block ?_
          refine wc_loop (fun q : Nat × Option Addr × Nat => [(3, .slice q.2.1 (s.encTo 2 ++ words [s.flags] ++ [s.truths] ++ words (s.tails.take q.1)).length q.2.2), (96, .slice (some ⟨b96, 0, none⟩) 7 7), (97, .int .i64 7), (98, .int .i64 q.1)]) (fun q => [sl .u8 5 q.2.1 (s.encTo 2 ++ words [s.flags] ++ [s.truths] ++ words (s.tails.take q.1)).length q.2.2 (s.encTo 2 ++ words [s.flags] ++ [s.truths] ++ words (s.tails.take q.1)), sl .u32 22 (some ⟨b96, 0, none⟩) 7 7 s.tails]) (fun q => q.1 ≤ 7) (fun q => 7 - q.1) ((0, A7, c7)) ?_ ?_ ?_ ?_
          · exact Nat.zero_le _
          · ((repeat' (refine Wk.cons ?_ ?_)) <;> first | exact Wk.nil | exact rfl | exact trivial | exact wk_num rfl (by omega) | exact wk_num rfl (by simp))
          · ((repeat (first | exact List.Sublist.slnil | refine List.Sublist.cons_cons _ ?_ | refine List.Sublist.cons _ ?_)))
          · rintro ⟨k, A8, c8⟩ hk
            simp only at hk
            dsimp only
            refine wc_seq ?_
            refine wc_region ?_
            refine wl_y (y_lss (ev_rfl rfl) (ev_rfl rfl) rfl) (fun _ _ => trivial) rfl ?_
            refine wl_nil ?_
            refine q_then ?_
            refine wc_seq ?_
            refine wc_cond _ rfl (fun hc20 => ?_) (fun hc20 => ?_)
            · simp only [decide_eq_true_eq] at hc20
              have hl7 : k < s.tails.length := by (have : s.tails.length = 7 := rfl; omega)
              have hlk : (s.encTo 2 ++ words [s.flags] ++ [s.truths] ++ words (s.tails.take k)).length ≤ 1000 := by rw [List.length_append, words_len, List.length_take]; omega
              refine wc_skip ?_
              refine q_then ?_
              refine wc_seq ?_
              refine wc_block ?_
              refine wc_seq ?_
              refine wc_region ?_
              refine wl_y (y_indexR (j := k) (sz := 1) (r := k) rfl (fun _ => rfl) (ev_rfl rfl) (ev_rfl rfl) (fun _ => by omega) (fun _ => by omega) (by omega)) (fun _ _ => trivial) rfl ?_
              refine wl_y (y_load (fun _ => rfl) (ev_rfl rfl)) (sl_cellR (by first | exact hasC0 | exact hasC1 | exact hasC2 | exact hasC3 | exact hasC4 | exact hasC5 | exact hasC6 | exact hasC7 | exact hasC8 | exact hasC9 | exact hasC10 | exact hasC11 | exact hasC12 | exact hasC13 | exact hasC14 | exact hasC15 | exact hasC16 | exact hasC17 | exact hasC18 | exact hasC19 | exact hasC20 | exact hasC21 | exact hasC22 | exact hasC23) (ints_get hl7)) rfl ?_
              refine wl_y (y_assign (ev_rfl rfl)) (fun _ _ => trivial) rfl ?_
              refine wl_nil ?_
              refine q_then ?_
              refine wc_region ?_
              refine wl_y (y_move (ev_rfl rfl)) (fun _ _ => trivial) rfl ?_
              refine wl_y (y_move (ev_rfl rfl)) (fun _ _ => trivial) rfl ?_
              refine wl_t (t_call1s rfl (fun _ _ => rfl) (by first | exact atC0 | exact atC1 | exact atC2 | exact atC3 | exact atC4 | exact atC5 | exact atC6 | exact atC7 | exact atC8 | exact atC9 | exact atC10 | exact atC11 | exact atC12 | exact atC13 | exact atC14 | exact atC15 | exact atC16 | exact atC17 | exact atC18 | exact atC19 | exact atC20 | exact atC21 | exact atC22 | exact atC23) (fun w hi => (refword_ok A8 c8 (s.encTo 2 ++ words [s.flags] ++ [s.truths] ++ words (s.tails.take k)) (s.tails[k]'hl7) w (hi.one (by first | exact hasC0 | exact hasC1 | exact hasC2 | exact hasC3 | exact hasC4 | exact hasC5 | exact hasC6 | exact hasC7 | exact hasC8 | exact hasC9 | exact hasC10 | exact hasC11 | exact hasC12 | exact hasC13 | exact hasC14 | exact hasC15 | exact hasC16 | exact hasC17 | exact hasC18 | exact hasC19 | exact hasC20 | exact hasC21 | exact hasC22 | exact hasC23)) (by omega)))) rfl ?_
              rintro _ _ ⟨_, ⟨A9, c9, rfl, rfl⟩, rfl⟩
              rw [List.append_assoc (s.encTo 2 ++ words [s.flags] ++ [s.truths]), ← words_snoc, ← List.take_succ_eq_append_getElem hl7]
              refine wl_y (y_assign (ev_rfl rfl)) (fun _ _ => trivial) rfl ?_
              refine wl_nil ?_
              refine q_block ?_
              refine q_then ?_
              refine wc_region ?_
              refine wl_y (y_add (ev_rfl rfl) (ev_rfl rfl) (by first | exact IntWalk.i64_in _ ⟨by omega, by omega⟩ | exact rfl)) (fun _ _ => trivial) rfl ?_
              refine wl_y (y_move (ev_rfl rfl)) (fun _ _ => trivial) rfl ?_
              refine wl_nil ?_
              refine q_mid ((k + 1, A9, c9)) ?_ ?_ ?_
              · exact ⟨by show k + 1 ≤ 7; omega, by show 7 - (k + 1) < 7 - k; omega⟩
              · ((repeat' (refine Wk.cons ?_ ?_)) <;> first | exact Wk.nil | exact rfl | exact trivial | exact wk_num rfl (by omega) | exact wk_num rfl (by simp))
              · ((repeat (first | exact List.Sublist.slnil | refine List.Sublist.cons_cons _ ?_ | refine List.Sublist.cons _ ?_)))
            · simp only [decide_eq_false_iff_not] at hc20
              obtain rfl : k = 7 := by omega
              rw [show s.tails.take 7 = s.tails from rfl, s.encTo2]
              refine wc_exit ?_
              refine q_then_exit ?_
              refine q_then_exit ?_
              refine q_block_same rfl ?_
              refine q_then ?_
              refine wc_seq ?_
              refine wc_region ?_
              refine wl_y (y_move (ev_rfl rfl)) (fun _ _ => trivial) rfl ?_
              refine wl_y (y_assign (ev_rfl rfl)) (fun _ _ => trivial) rfl ?_
              refine wl_nil ?_
              refine q_then ?_
              refine wc_ret ?_
              refine ret1 (cs' := [sl _ _ _ _ _ _]) (.inl rfl) (by ((repeat (first | exact List.Sublist.slnil | refine List.Sublist.cons_cons _ ?_ | refine List.Sublist.cons _ ?_)))) rfl rfl ?_
              exact ⟨_, _, rfl, rfl⟩
end Go.Proofs.Ytjknccgefnnfnaa
