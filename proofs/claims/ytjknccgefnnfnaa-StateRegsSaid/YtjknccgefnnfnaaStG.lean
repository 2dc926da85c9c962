/- StateRegs: the walk. -/
import Derived.Test.YtjknccgefnnfnaaStF
set_option linter.unusedSimpArgs false
set_option linter.unusedVariables false
namespace Go.Proofs.Ytjknccgefnnfnaa
open Go.RowKit Go.Ink

theorem within_eq {n lo hi x : Int} (hx : within n lo hi = x) (w : World) (h0 : 0 ≤ lo) (h1 : lo ≤ hi) (h2 : hi ≤ 1000000000000) : Ctr Try.prog 10 [.int .i64 n, .int .i64 lo, .int .i64 hi] w [] (fun v cs => v = .int .i64 x ∧ cs = []) := hx ▸ within_ok n lo hi w h0 h1 h2
theorem St.trim_d (s : St) : s.trim.d.length ≤ 16 := by simp [St.trim]; omega
theorem St.trim_r (s : St) : s.trim.r.length ≤ 16 := by simp [St.trim]; omega

set_option maxRecDepth 100000 in
theorem stateRegs_ok (s : St) (hs : s.wf) (Ad Ar : Option Addr) (cd cr : Nat) (a b v : Int) (hv : u32 v) (w : World) (h : RdSt w s Ad Ar cd cr) :
    Ctr Try.prog 3 [sv s Ad cd Ar cr, .int .i64 a, .int .i64 b, .int .u32 v] w [] (fun v cs => v = .bool true ∧ cs = []) := by
  obtain ⟨v0, v1⟩ := hv
  obtain ⟨x, hx⟩ : ∃ x, within a 0 10 = x := ⟨_, rfl⟩
  obtain ⟨y, hy⟩ : ∃ y, within b 0 10 = y := ⟨_, rfl⟩
  obtain ⟨z, hz⟩ : ∃ z, within a 0 1000 = z := ⟨_, rfl⟩
  have rx := within_rng a 0 10 (by omega)
  have ry := within_rng b 0 10 (by omega)
  have rz := within_rng a 0 1000 (by omega)
  rw [hx] at rx
  rw [hy] at ry
  rw [hz] at rz
  obtain ⟨x0, x1⟩ := rx
  obtain ⟨y0, y1⟩ := ry
  obtain ⟨z0, z1⟩ := rz
  obtain ⟨t, ht⟩ : ∃ t, s.trim = t := ⟨_, rfl⟩
  have td := St.trim_d s
  have tr := St.trim_r s
  rw [ht] at td tr
  have HT := trim_ok s hs Ad Ar cd cr
  rw [ht] at HT
  have hd4 : t.d.length * 4 ≤ 140737488355328 := by omega
  have hr4 : t.r.length * 4 ≤ 140737488355328 := by omega
  have g1 := St.set_there t v ⟨x0, x1⟩
  have g2 := St.get_there t ⟨y0, y1⟩
  have g3 := St.get_there (t.set x v).1 ⟨y0, y1⟩
  have g4 : ((x != y) && ((t.get y).1 != ((t.set x v).1.get y).1)) = false := by
    by_cases e : x = y
    · simp [e]
    · simp [St.get_other t v ⟨x0, x1⟩ ⟨y0, y1⟩ e]
  have g5 := St.get_none t (x := 11 + z) (by omega)
  have g6 := St.get_none t (x := -1) (by omega)
  refine fn_ctr Try.func3 rfl Try.ntmps3 rfl (Inv.start w) ?_
  refine wc_seq ?_
  refine wc_region ?_
  refine wl_t (t_box rfl rfl) rfl ?_
  rintro _ _ ⟨b4, rfl, rfl⟩
  refine wl_y (y_assign (ev_rfl rfl)) (fun _ _ => trivial) rfl ?_
  refine wl_nil ?_
  refine q_then ?_
  refine wc_seq ?_
  refine wc_region ?_
  refine wl_loadRow (by first | exact .head _ _ | exact .tail _ (.head _ _) | exact .tail _ (.tail _ (.head _ _)) | exact .tail _ (.tail _ (.tail _ (.head _ _))) | exact .tail _ (.tail _ (.tail _ (.tail _ (.head _ _)))) | exact .tail _ (.tail _ (.tail _ (.tail _ (.tail _ (.head _ _))))) | exact .tail _ (.tail _ (.tail _ (.tail _ (.tail _ (.tail _ (.head _ _)))))) | exact .tail _ (.tail _ (.tail _ (.tail _ (.tail _ (.tail _ (.tail _ (.head _ _))))))) | exact .tail _ (.tail _ (.tail _ (.tail _ (.tail _ (.tail _ (.tail _ (.tail _ (.head _ _))))))))) (fun _ => rfl) (fun _ => rfl) (ev_rfl rfl) rfl ?_
  refine wl_t (t_call rfl (fun _ _ => rfl) (fun w hi => HT w (h.oldN hi))) rfl ?_
  rintro _ _ ⟨_, ⟨A1, c1, A2, c2, rfl, rfl⟩, rfl⟩
  refine wl_t0 (t_storeN (fun _ => rfl) rfl rfl (allT rfl) (by first | exact fun _ => .head _ _ _ | exact fun _ => .tail _ (.head _ _ _) | exact fun _ => .tail _ (.tail _ (.head _ _ _)) | exact fun _ => .tail _ (.tail _ (.tail _ (.head _ _ _))) | exact fun _ => .tail _ (.tail _ (.tail _ (.tail _ (.head _ _ _)))) | exact fun _ => .tail _ (.tail _ (.tail _ (.tail _ (.tail _ (.head _ _ _))))) | exact fun _ => .tail _ (.tail _ (.tail _ (.tail _ (.tail _ (.tail _ (.head _ _ _)))))) | exact fun _ => .tail _ (.tail _ (.tail _ (.tail _ (.tail _ (.tail _ (.tail _ (.head _ _ _))))))) | exact fun _ => .tail _ (.tail _ (.tail _ (.tail _ (.tail _ (.tail _ (.tail _ (.tail _ (.head _ _ _))))))))) (by exact rfl)) ?_
  rintro _ _ ⟨rfl, rfl⟩
  refine wl_nil ?_
  refine q_then ?_
  refine wc_seq ?_
  refine wc_region ?_
  refine wl_y (y_move (ev_rfl rfl)) (fun _ _ => trivial) rfl ?_
  refine wl_t (t_call rfl (fun _ _ => rfl) (fun w hi => within_eq hx w (by omega) (by omega) (by omega))) rfl ?_
  rintro _ _ ⟨_, ⟨rfl, rfl⟩, rfl⟩
  refine wl_y (y_move (ev_rfl rfl)) (fun _ _ => trivial) rfl ?_
  refine wl_t (t_call rfl (fun _ _ => rfl) (fun w hi => within_eq hy w (by omega) (by omega) (by omega))) rfl ?_
  rintro _ _ ⟨_, ⟨rfl, rfl⟩, rfl⟩
  refine wl_y (y_assign (ev_rfl rfl)) (fun _ _ => trivial) rfl ?_
  refine wl_y (y_assign (ev_rfl rfl)) (fun _ _ => trivial) rfl ?_
  refine wl_nil ?_
  refine q_then ?_
  refine wc_seq ?_
  refine wc_region ?_
  refine wl_loadRow (by first | exact .head _ _ | exact .tail _ (.head _ _) | exact .tail _ (.tail _ (.head _ _)) | exact .tail _ (.tail _ (.tail _ (.head _ _))) | exact .tail _ (.tail _ (.tail _ (.tail _ (.head _ _)))) | exact .tail _ (.tail _ (.tail _ (.tail _ (.tail _ (.head _ _))))) | exact .tail _ (.tail _ (.tail _ (.tail _ (.tail _ (.tail _ (.head _ _)))))) | exact .tail _ (.tail _ (.tail _ (.tail _ (.tail _ (.tail _ (.tail _ (.head _ _))))))) | exact .tail _ (.tail _ (.tail _ (.tail _ (.tail _ (.tail _ (.tail _ (.tail _ (.head _ _))))))))) (fun _ => rfl) (fun _ => rfl) (ev_rfl rfl) rfl ?_
  refine wl_y (y_move (ev_rfl rfl)) (fun _ _ => trivial) rfl ?_
  refine wl_y (y_move (ev_rfl rfl)) (fun _ _ => trivial) rfl ?_
  refine wl_t (t_call rfl (fun _ _ => rfl) (fun w hi => set_ok t A1 A2 c1 c2 x v w (hi.rdSt (by first | exact .head _ _ | exact .tail _ (.head _ _) | exact .tail _ (.tail _ (.head _ _)) | exact .tail _ (.tail _ (.tail _ (.head _ _))) | exact .tail _ (.tail _ (.tail _ (.tail _ (.head _ _)))) | exact .tail _ (.tail _ (.tail _ (.tail _ (.tail _ (.head _ _))))) | exact .tail _ (.tail _ (.tail _ (.tail _ (.tail _ (.tail _ (.head _ _)))))) | exact .tail _ (.tail _ (.tail _ (.tail _ (.tail _ (.tail _ (.tail _ (.head _ _))))))) | exact .tail _ (.tail _ (.tail _ (.tail _ (.tail _ (.tail _ (.tail _ (.tail _ (.head _ _))))))))) (by first | exact .head _ _ | exact .tail _ (.head _ _) | exact .tail _ (.tail _ (.head _ _)) | exact .tail _ (.tail _ (.tail _ (.head _ _))) | exact .tail _ (.tail _ (.tail _ (.tail _ (.head _ _)))) | exact .tail _ (.tail _ (.tail _ (.tail _ (.tail _ (.head _ _))))) | exact .tail _ (.tail _ (.tail _ (.tail _ (.tail _ (.tail _ (.head _ _)))))) | exact .tail _ (.tail _ (.tail _ (.tail _ (.tail _ (.tail _ (.tail _ (.head _ _))))))) | exact .tail _ (.tail _ (.tail _ (.tail _ (.tail _ (.tail _ (.tail _ (.tail _ (.head _ _))))))))) hd4 hr4))) rfl ?_
  rintro _ _ ⟨_, ⟨A3, c3, A4, c4, rfl, rfl⟩, rfl⟩
  refine wl_y (y_move (ev_rfl rfl)) (fun _ _ => trivial) rfl ?_
  refine wl_y (y_extract (ev_rfl rfl) rfl) (fun _ _ => trivial) rfl ?_
  refine wl_y (y_extract (ev_rfl rfl) rfl) (fun _ _ => trivial) rfl ?_
  refine wl_t (t_alloc (fun _ => rfl) rfl) rfl ?_
  rintro _ _ ⟨b11, rfl, rfl⟩
  refine wl_t0 (t_storeN (fun _ => rfl) rfl rfl (allT rfl) (by first | exact fun _ => .head _ _ _ | exact fun _ => .tail _ (.head _ _ _) | exact fun _ => .tail _ (.tail _ (.head _ _ _)) | exact fun _ => .tail _ (.tail _ (.tail _ (.head _ _ _))) | exact fun _ => .tail _ (.tail _ (.tail _ (.tail _ (.head _ _ _)))) | exact fun _ => .tail _ (.tail _ (.tail _ (.tail _ (.tail _ (.head _ _ _))))) | exact fun _ => .tail _ (.tail _ (.tail _ (.tail _ (.tail _ (.tail _ (.head _ _ _)))))) | exact fun _ => .tail _ (.tail _ (.tail _ (.tail _ (.tail _ (.tail _ (.tail _ (.head _ _ _))))))) | exact fun _ => .tail _ (.tail _ (.tail _ (.tail _ (.tail _ (.tail _ (.tail _ (.tail _ (.head _ _ _))))))))) (by exact rfl)) ?_
  rintro _ _ ⟨rfl, rfl⟩
  refine wl_y (y_assign (ev_rfl rfl)) (fun _ _ => trivial) rfl ?_
  refine wl_nil ?_
  refine q_then ?_
  refine wc_seq ?_
  refine wc_seq ?_
  refine wc_region ?_
  refine wl_y (y_move (ev_rfl rfl)) (fun _ _ => trivial) rfl ?_
  refine wl_y (y_move (ev_rfl rfl)) (fun _ _ => trivial) rfl ?_
  refine wl_y (y_neq (ev_rfl rfl) (ev_rfl rfl) rfl) (fun _ _ => trivial) rfl ?_
  refine wl_y (y_neqb rfl (ev_rfl rfl) (ev_rfl rfl) rfl) (fun _ _ => trivial) rfl ?_
  refine wl_nil ?_
  refine q_then ?_
  refine wc_cond_f rfl (bneb_f g1) ?_
  refine wc_skip ?_
  refine q_then ?_
  refine wc_seq ?_
  refine wc_region ?_
  refine wl_loadRow (by first | exact .head _ _ | exact .tail _ (.head _ _) | exact .tail _ (.tail _ (.head _ _)) | exact .tail _ (.tail _ (.tail _ (.head _ _))) | exact .tail _ (.tail _ (.tail _ (.tail _ (.head _ _)))) | exact .tail _ (.tail _ (.tail _ (.tail _ (.tail _ (.head _ _))))) | exact .tail _ (.tail _ (.tail _ (.tail _ (.tail _ (.tail _ (.head _ _)))))) | exact .tail _ (.tail _ (.tail _ (.tail _ (.tail _ (.tail _ (.tail _ (.head _ _))))))) | exact .tail _ (.tail _ (.tail _ (.tail _ (.tail _ (.tail _ (.tail _ (.tail _ (.head _ _))))))))) (fun _ => rfl) (fun _ => rfl) (ev_rfl rfl) rfl ?_
  refine wl_y (y_move (ev_rfl rfl)) (fun _ _ => trivial) rfl ?_
  refine wl_t (t_call rfl (fun _ _ => rfl) (fun w hi => get_ok t _ _ y w)) rfl ?_
  rintro _ _ ⟨_, ⟨rfl, rfl⟩, rfl⟩
  refine wl_y (y_move (ev_rfl rfl)) (fun _ _ => trivial) rfl ?_
  refine wl_y (y_extract (ev_rfl rfl) rfl) (fun _ _ => trivial) rfl ?_
  refine wl_y (y_extract (ev_rfl rfl) rfl) (fun _ _ => trivial) rfl ?_
  refine wl_y (y_assign (ev_rfl rfl)) (fun _ _ => trivial) rfl ?_
  refine wl_y (y_assign (ev_rfl rfl)) (fun _ _ => trivial) rfl ?_
  refine wl_nil ?_
  refine q_then ?_
  refine wc_seq ?_
  refine wc_region ?_
  refine wl_loadRow (by first | exact .head _ _ | exact .tail _ (.head _ _) | exact .tail _ (.tail _ (.head _ _)) | exact .tail _ (.tail _ (.tail _ (.head _ _))) | exact .tail _ (.tail _ (.tail _ (.tail _ (.head _ _)))) | exact .tail _ (.tail _ (.tail _ (.tail _ (.tail _ (.head _ _))))) | exact .tail _ (.tail _ (.tail _ (.tail _ (.tail _ (.tail _ (.head _ _)))))) | exact .tail _ (.tail _ (.tail _ (.tail _ (.tail _ (.tail _ (.tail _ (.head _ _))))))) | exact .tail _ (.tail _ (.tail _ (.tail _ (.tail _ (.tail _ (.tail _ (.tail _ (.head _ _))))))))) (fun _ => rfl) (fun _ => rfl) (ev_rfl rfl) rfl ?_
  refine wl_y (y_move (ev_rfl rfl)) (fun _ _ => trivial) rfl ?_
  refine wl_t (t_call rfl (fun _ _ => rfl) (fun w hi => get_ok (t.set x v).1 _ _ y w)) rfl ?_
  rintro _ _ ⟨_, ⟨rfl, rfl⟩, rfl⟩
  refine wl_y (y_move (ev_rfl rfl)) (fun _ _ => trivial) rfl ?_
  refine wl_y (y_extract (ev_rfl rfl) rfl) (fun _ _ => trivial) rfl ?_
  refine wl_y (y_extract (ev_rfl rfl) rfl) (fun _ _ => trivial) rfl ?_
  refine wl_y (y_assign (ev_rfl rfl)) (fun _ _ => trivial) rfl ?_
  refine wl_y (y_assign (ev_rfl rfl)) (fun _ _ => trivial) rfl ?_
  refine wl_nil ?_
  refine q_then ?_
  refine wc_seq ?_
  refine wc_seq ?_
  refine wc_region ?_
  refine wl_y (y_move (ev_rfl rfl)) (fun _ _ => trivial) rfl ?_
  refine wl_y (y_not (ev_rfl rfl) rfl) (fun _ _ => trivial) rfl ?_
  refine wl_y (y_move (ev_rfl rfl)) (fun _ _ => trivial) rfl ?_
  refine wl_yg (guard_no rfl rfl) (y_move (ev_rfl rfl)) (fun _ _ => trivial) rfl ?_
  refine wl_yg (guard_no rfl rfl) (y_not (ev_g rfl) rfl) (fun _ _ => trivial) rfl ?_
  refine wl_y (y_or (ev_rfl rfl) (pk_no rfl (fun _ => rfl))) (fun _ _ => trivial) rfl ?_
  refine wl_y (y_move (ev_rfl rfl)) (fun _ _ => trivial) rfl ?_
  refine wl_yg (guard_no rfl rfl) (y_move (ev_rfl rfl)) (fun _ _ => trivial) rfl ?_
  refine wl_yg (guard_no rfl rfl) (y_move (ev_rfl rfl)) (fun _ _ => trivial) rfl ?_
  refine wl_yg (guard_no rfl rfl) (y_neq (ev_g rfl) (ev_g rfl) rfl) (fun _ _ => trivial) rfl ?_
  refine wl_yg (guard_no rfl rfl) (y_move (ev_g rfl)) (fun _ _ => trivial) rfl ?_
  refine wl_yg (guard_deep rfl rfl) (y_move (ev_rfl rfl)) (fun _ _ => trivial) rfl ?_
  refine wl_yg (guard_deep rfl rfl) (y_move (ev_rfl rfl)) (fun _ _ => trivial) rfl ?_
  refine wl_yg (guard_deep rfl rfl) (y_neq (ev_g rfl) (ev_g rfl) rfl) (fun _ _ => trivial) rfl ?_
  refine wl_yg (guard_no rfl rfl) (y_and (ev_g rfl) (pk_gyes rfl (fun _ _ => rfl))) (fun _ _ => trivial) rfl ?_
  refine wl_y (y_or (ev_rfl rfl) (pk_no rfl (fun _ => rfl))) (fun _ _ => trivial) rfl ?_
  refine wl_nil ?_
  refine q_then ?_
  refine wc_cond_f rfl (by rw [g2, g3, g4]; rfl) ?_
  refine wc_skip ?_
  refine q_then ?_
  refine wc_seq_mid (fun _ : Unit => [(4, .pointer (some ⟨b4, 0, none⟩)), (1, .int .i64 a), (3, .int .u32 v)]) (fun _ => [row b4 (t.cells (.slice A1 t.d.length c1) (.slice A2 t.r.length c2)) 26, slD t A1 c1, slR t A2 c2]) (fun _ => True) ?_ ?_
  · refine wc_seq ?_
    refine wc_region ?_
    refine wl_y (y_move (ev_rfl rfl)) (fun _ _ => trivial) rfl ?_
    refine wl_y (y_move (ev_rfl rfl)) (fun _ _ => trivial) rfl ?_
    refine wl_y (y_eql (ev_rfl rfl) (ev_rfl rfl) rfl) (fun _ _ => trivial) rfl ?_
    refine wl_y (y_move (ev_rfl rfl)) (fun _ _ => trivial) rfl ?_
    refine wl_yg (guard_yes rfl rfl) (y_move (ev_rfl rfl)) (fun _ _ => trivial) rfl ?_
    refine wl_y (y_and (ev_rfl rfl) (pk_yes rfl (fun _ => rfl))) (fun _ _ => trivial) rfl ?_
    refine wl_nil ?_
    refine q_then ?_
    refine wc_cond _ rfl (fun hc10 => ?_) (fun hc10 => ?_)
    · have hq : ((t.set x v).1.get y).1 = wantR x v := by (have hxy : x = y ∧ x ≠ 9 := by simpa [g1] using hc10); rw [← hxy.1]; exact St.get_set t v ⟨x0, x1⟩ hxy.2 ⟨v0, v1⟩
      clear hc10
      refine wc_seq ?_
      refine wc_region ?_
      refine wl_y (y_move (ev_rfl rfl)) (fun _ _ => trivial) rfl ?_
      refine wl_y (y_assign (ev_rfl rfl)) (fun _ _ => trivial) rfl ?_
      refine wl_nil ?_
      refine q_then ?_
      refine wc_seq ?_
      refine wc_seq ?_
      refine wc_region ?_
      refine wl_y (y_move (ev_rfl rfl)) (fun _ _ => trivial) rfl ?_
      refine wl_nil ?_
      refine q_then ?_
      refine wc_block ?_
      refine wc_seq ?_
      refine wc_seq ?_
      refine wc_region ?_
      refine wl_y (y_eql (ev_rfl rfl) (ev_rfl rfl) rfl) (fun _ _ => trivial) rfl ?_
      refine wl_y (y_assign (ev_rfl rfl)) (fun _ _ => trivial) rfl ?_
      refine wl_nil ?_
      refine q_then ?_
      refine wc_cond _ rfl (fun hc13 => ?_) (fun hc13 => ?_)
      · refine wc_skip ?_
        refine q_then ?_
        refine wc_cond _ rfl (fun hc13 => ?_) (fun hc13 => ?_)
        · refine wc_seq ?_
          refine wc_region ?_
          refine wl_y (y_assign (ev_rfl rfl)) (fun _ _ => trivial) rfl ?_
          refine wl_nil ?_
          refine q_then ?_
          refine wc_seq ?_
          refine wc_region ?_
          refine wl_y (y_move (ev_rfl rfl)) (fun _ _ => trivial) rfl ?_
          refine wl_y (y_neq (ev_rfl rfl) (ev_rfl rfl) rfl) (fun _ _ => trivial) rfl ?_
          refine wl_nil ?_
          refine q_then ?_
          refine wc_cond _ rfl (fun hc18 => ?_) (fun hc18 => ?_)
          · refine wc_region ?_
            refine wl_y (y_assign (ev_rfl rfl)) (fun _ _ => trivial) rfl ?_
            refine wl_nil ?_
            refine q_block ?_
            refine q_then ?_
            refine wc_seq ?_
            refine wc_region ?_
            refine wl_y (y_move (ev_rfl rfl)) (fun _ _ => trivial) rfl ?_
            refine wl_y (y_move (ev_rfl rfl)) (fun _ _ => trivial) rfl ?_
            refine wl_y (y_neq (ev_rfl rfl) (ev_rfl rfl) rfl) (fun _ _ => trivial) rfl ?_
            refine wl_nil ?_
            refine q_then ?_
            refine wc_cond_f rfl ((by refine bne_f (hq.trans ?_); clear hq HT; solve | simp only [wantR, w01, *, cond_true, cond_false] | (exfalso; simp_all))) ?_
            refine wc_skip ?_
            refine q_mid (()) ?_ ?_ ?_
            · trivial
            · ((repeat' (refine Wk.cons ?_ ?_)) <;> first | exact Wk.nil | exact rfl | exact trivial | exact wk_num rfl (by omega) | exact wk_num rfl (by simp))
            · ((repeat (first | exact List.Sublist.slnil | refine List.Sublist.cons_cons _ ?_ | refine List.Sublist.cons _ ?_)))
          · refine wc_skip ?_
            refine q_block ?_
            refine q_then ?_
            refine wc_seq ?_
            refine wc_region ?_
            refine wl_y (y_move (ev_rfl rfl)) (fun _ _ => trivial) rfl ?_
            refine wl_y (y_move (ev_rfl rfl)) (fun _ _ => trivial) rfl ?_
            refine wl_y (y_neq (ev_rfl rfl) (ev_rfl rfl) rfl) (fun _ _ => trivial) rfl ?_
            refine wl_nil ?_
            refine q_then ?_
            refine wc_cond_f rfl ((by refine bne_f (hq.trans ?_); clear hq HT; solve | simp only [wantR, w01, *, cond_true, cond_false] | (exfalso; simp_all))) ?_
            refine wc_skip ?_
            refine q_mid (()) ?_ ?_ ?_
            · trivial
            · ((repeat' (refine Wk.cons ?_ ?_)) <;> first | exact Wk.nil | exact rfl | exact trivial | exact wk_num rfl (by omega) | exact wk_num rfl (by simp))
            · ((repeat (first | exact List.Sublist.slnil | refine List.Sublist.cons_cons _ ?_ | refine List.Sublist.cons _ ?_)))
        · refine wc_seq ?_
          refine wc_region ?_
          refine wl_y (y_eql (ev_rfl rfl) (ev_rfl rfl) rfl) (fun _ _ => trivial) rfl ?_
          refine wl_y (y_assign (ev_rfl rfl)) (fun _ _ => trivial) rfl ?_
          refine wl_nil ?_
          refine q_then ?_
          refine wc_cond _ rfl (fun hc20 => ?_) (fun hc20 => ?_)
          · refine wc_region ?_
            refine wl_y (y_move (ev_rfl rfl)) (fun _ _ => trivial) rfl ?_
            refine wl_y (y_move (ev_rfl rfl)) (fun _ _ => trivial) rfl ?_
            refine wl_y (y_rem (ev_rfl rfl) (ev_rfl rfl) (by omega) (by first | exact IntWalk.rem_in _ _ (by omega) | exact rfl)) (fun _ _ => trivial) rfl ?_
            refine wl_y (y_sub (ev_rfl rfl) (ev_rfl rfl) rfl) (fun _ _ => trivial) rfl ?_
            refine wl_y (y_assign (ev_rfl rfl)) (fun _ _ => trivial) rfl ?_
            refine wl_nil ?_
            refine q_block ?_
            refine q_then ?_
            refine wc_seq ?_
            refine wc_region ?_
            refine wl_y (y_move (ev_rfl rfl)) (fun _ _ => trivial) rfl ?_
            refine wl_y (y_move (ev_rfl rfl)) (fun _ _ => trivial) rfl ?_
            refine wl_y (y_neq (ev_rfl rfl) (ev_rfl rfl) rfl) (fun _ _ => trivial) rfl ?_
            refine wl_nil ?_
            refine q_then ?_
            refine wc_cond_f rfl ((by refine bne_f (hq.trans ?_); clear hq HT; solve | simp only [wantR, w01, *, cond_true, cond_false] | (exfalso; simp_all))) ?_
            refine wc_skip ?_
            refine q_mid (()) ?_ ?_ ?_
            · trivial
            · ((repeat' (refine Wk.cons ?_ ?_)) <;> first | exact Wk.nil | exact rfl | exact trivial | exact wk_num rfl (by omega) | exact wk_num rfl (by simp))
            · ((repeat (first | exact List.Sublist.slnil | refine List.Sublist.cons_cons _ ?_ | refine List.Sublist.cons _ ?_)))
          · refine wc_seq ?_
            refine wc_region ?_
            refine wl_y (y_eql (ev_rfl rfl) (ev_rfl rfl) rfl) (fun _ _ => trivial) rfl ?_
            refine wl_y (y_assign (ev_rfl rfl)) (fun _ _ => trivial) rfl ?_
            refine wl_nil ?_
            refine q_then ?_
            refine wc_cond _ rfl (fun hc22 => ?_) (fun hc22 => ?_)
            · refine wc_region ?_
              refine wl_y (y_move (ev_rfl rfl)) (fun _ _ => trivial) rfl ?_
              refine wl_y (y_rem (ev_rfl rfl) (ev_rfl rfl) (by omega) (by first | exact IntWalk.rem_in _ _ (by omega) | exact rfl)) (fun _ _ => trivial) rfl ?_
              refine wl_y (y_assign (ev_rfl rfl)) (fun _ _ => trivial) rfl ?_
              refine wl_nil ?_
              refine q_block ?_
              refine q_then ?_
              refine wc_seq ?_
              refine wc_region ?_
              refine wl_y (y_move (ev_rfl rfl)) (fun _ _ => trivial) rfl ?_
              refine wl_y (y_move (ev_rfl rfl)) (fun _ _ => trivial) rfl ?_
              refine wl_y (y_neq (ev_rfl rfl) (ev_rfl rfl) rfl) (fun _ _ => trivial) rfl ?_
              refine wl_nil ?_
              refine q_then ?_
              refine wc_cond_f rfl ((by refine bne_f (hq.trans ?_); clear hq HT; solve | simp only [wantR, w01, *, cond_true, cond_false] | (exfalso; simp_all))) ?_
              refine wc_skip ?_
              refine q_mid (()) ?_ ?_ ?_
              · trivial
              · ((repeat' (refine Wk.cons ?_ ?_)) <;> first | exact Wk.nil | exact rfl | exact trivial | exact wk_num rfl (by omega) | exact wk_num rfl (by simp))
              · ((repeat (first | exact List.Sublist.slnil | refine List.Sublist.cons_cons _ ?_ | refine List.Sublist.cons _ ?_)))
            · refine wc_skip ?_
              refine q_block ?_
              refine q_then ?_
              refine wc_seq ?_
              refine wc_region ?_
              refine wl_y (y_move (ev_rfl rfl)) (fun _ _ => trivial) rfl ?_
              refine wl_y (y_move (ev_rfl rfl)) (fun _ _ => trivial) rfl ?_
              refine wl_y (y_neq (ev_rfl rfl) (ev_rfl rfl) rfl) (fun _ _ => trivial) rfl ?_
              refine wl_nil ?_
              refine q_then ?_
              refine wc_cond_f rfl ((by refine bne_f (hq.trans ?_); clear hq HT; solve | simp only [wantR, w01, *, cond_true, cond_false] | (exfalso; simp_all))) ?_
              refine wc_skip ?_
              refine q_mid (()) ?_ ?_ ?_
              · trivial
              · ((repeat' (refine Wk.cons ?_ ?_)) <;> first | exact Wk.nil | exact rfl | exact trivial | exact wk_num rfl (by omega) | exact wk_num rfl (by simp))
              · ((repeat (first | exact List.Sublist.slnil | refine List.Sublist.cons_cons _ ?_ | refine List.Sublist.cons _ ?_)))
      · refine wc_seq ?_
        refine wc_region ?_
        refine wl_y (y_eql (ev_rfl rfl) (ev_rfl rfl) rfl) (fun _ _ => trivial) rfl ?_
        refine wl_y (y_assign (ev_rfl rfl)) (fun _ _ => trivial) rfl ?_
        refine wl_nil ?_
        refine q_then ?_
        refine wc_cond _ rfl (fun hc14 => ?_) (fun hc14 => ?_)
        · refine wc_skip ?_
          refine q_then ?_
          refine wc_cond _ rfl (fun hc14 => ?_) (fun hc14 => ?_)
          · refine wc_seq ?_
            refine wc_region ?_
            refine wl_y (y_assign (ev_rfl rfl)) (fun _ _ => trivial) rfl ?_
            refine wl_nil ?_
            refine q_then ?_
            refine wc_seq ?_
            refine wc_region ?_
            refine wl_y (y_move (ev_rfl rfl)) (fun _ _ => trivial) rfl ?_
            refine wl_y (y_neq (ev_rfl rfl) (ev_rfl rfl) rfl) (fun _ _ => trivial) rfl ?_
            refine wl_nil ?_
            refine q_then ?_
            refine wc_cond _ rfl (fun hc18 => ?_) (fun hc18 => ?_)
            · refine wc_region ?_
              refine wl_y (y_assign (ev_rfl rfl)) (fun _ _ => trivial) rfl ?_
              refine wl_nil ?_
              refine q_block ?_
              refine q_then ?_
              refine wc_seq ?_
              refine wc_region ?_
              refine wl_y (y_move (ev_rfl rfl)) (fun _ _ => trivial) rfl ?_
              refine wl_y (y_move (ev_rfl rfl)) (fun _ _ => trivial) rfl ?_
              refine wl_y (y_neq (ev_rfl rfl) (ev_rfl rfl) rfl) (fun _ _ => trivial) rfl ?_
              refine wl_nil ?_
              refine q_then ?_
              refine wc_cond_f rfl ((by refine bne_f (hq.trans ?_); clear hq HT; solve | simp only [wantR, w01, *, cond_true, cond_false] | (exfalso; simp_all))) ?_
              refine wc_skip ?_
              refine q_mid (()) ?_ ?_ ?_
              · trivial
              · ((repeat' (refine Wk.cons ?_ ?_)) <;> first | exact Wk.nil | exact rfl | exact trivial | exact wk_num rfl (by omega) | exact wk_num rfl (by simp))
              · ((repeat (first | exact List.Sublist.slnil | refine List.Sublist.cons_cons _ ?_ | refine List.Sublist.cons _ ?_)))
            · refine wc_skip ?_
              refine q_block ?_
              refine q_then ?_
              refine wc_seq ?_
              refine wc_region ?_
              refine wl_y (y_move (ev_rfl rfl)) (fun _ _ => trivial) rfl ?_
              refine wl_y (y_move (ev_rfl rfl)) (fun _ _ => trivial) rfl ?_
              refine wl_y (y_neq (ev_rfl rfl) (ev_rfl rfl) rfl) (fun _ _ => trivial) rfl ?_
              refine wl_nil ?_
              refine q_then ?_
              refine wc_cond_f rfl ((by refine bne_f (hq.trans ?_); clear hq HT; solve | simp only [wantR, w01, *, cond_true, cond_false] | (exfalso; simp_all))) ?_
              refine wc_skip ?_
              refine q_mid (()) ?_ ?_ ?_
              · trivial
              · ((repeat' (refine Wk.cons ?_ ?_)) <;> first | exact Wk.nil | exact rfl | exact trivial | exact wk_num rfl (by omega) | exact wk_num rfl (by simp))
              · ((repeat (first | exact List.Sublist.slnil | refine List.Sublist.cons_cons _ ?_ | refine List.Sublist.cons _ ?_)))
          · refine wc_seq ?_
            refine wc_region ?_
            refine wl_y (y_eql (ev_rfl rfl) (ev_rfl rfl) rfl) (fun _ _ => trivial) rfl ?_
            refine wl_y (y_assign (ev_rfl rfl)) (fun _ _ => trivial) rfl ?_
            refine wl_nil ?_
            refine q_then ?_
            refine wc_cond _ rfl (fun hc20 => ?_) (fun hc20 => ?_)
            · refine wc_region ?_
              refine wl_y (y_move (ev_rfl rfl)) (fun _ _ => trivial) rfl ?_
              refine wl_y (y_move (ev_rfl rfl)) (fun _ _ => trivial) rfl ?_
              refine wl_y (y_rem (ev_rfl rfl) (ev_rfl rfl) (by omega) (by first | exact IntWalk.rem_in _ _ (by omega) | exact rfl)) (fun _ _ => trivial) rfl ?_
              refine wl_y (y_sub (ev_rfl rfl) (ev_rfl rfl) rfl) (fun _ _ => trivial) rfl ?_
              refine wl_y (y_assign (ev_rfl rfl)) (fun _ _ => trivial) rfl ?_
              refine wl_nil ?_
              refine q_block ?_
              refine q_then ?_
              refine wc_seq ?_
              refine wc_region ?_
              refine wl_y (y_move (ev_rfl rfl)) (fun _ _ => trivial) rfl ?_
              refine wl_y (y_move (ev_rfl rfl)) (fun _ _ => trivial) rfl ?_
              refine wl_y (y_neq (ev_rfl rfl) (ev_rfl rfl) rfl) (fun _ _ => trivial) rfl ?_
              refine wl_nil ?_
              refine q_then ?_
              refine wc_cond_f rfl ((by refine bne_f (hq.trans ?_); clear hq HT; solve | simp only [wantR, w01, *, cond_true, cond_false] | (exfalso; simp_all))) ?_
              refine wc_skip ?_
              refine q_mid (()) ?_ ?_ ?_
              · trivial
              · ((repeat' (refine Wk.cons ?_ ?_)) <;> first | exact Wk.nil | exact rfl | exact trivial | exact wk_num rfl (by omega) | exact wk_num rfl (by simp))
              · ((repeat (first | exact List.Sublist.slnil | refine List.Sublist.cons_cons _ ?_ | refine List.Sublist.cons _ ?_)))
            · refine wc_seq ?_
              refine wc_region ?_
              refine wl_y (y_eql (ev_rfl rfl) (ev_rfl rfl) rfl) (fun _ _ => trivial) rfl ?_
              refine wl_y (y_assign (ev_rfl rfl)) (fun _ _ => trivial) rfl ?_
              refine wl_nil ?_
              refine q_then ?_
              refine wc_cond _ rfl (fun hc22 => ?_) (fun hc22 => ?_)
              · refine wc_region ?_
                refine wl_y (y_move (ev_rfl rfl)) (fun _ _ => trivial) rfl ?_
                refine wl_y (y_rem (ev_rfl rfl) (ev_rfl rfl) (by omega) (by first | exact IntWalk.rem_in _ _ (by omega) | exact rfl)) (fun _ _ => trivial) rfl ?_
                refine wl_y (y_assign (ev_rfl rfl)) (fun _ _ => trivial) rfl ?_
                refine wl_nil ?_
                refine q_block ?_
                refine q_then ?_
                refine wc_seq ?_
                refine wc_region ?_
                refine wl_y (y_move (ev_rfl rfl)) (fun _ _ => trivial) rfl ?_
                refine wl_y (y_move (ev_rfl rfl)) (fun _ _ => trivial) rfl ?_
                refine wl_y (y_neq (ev_rfl rfl) (ev_rfl rfl) rfl) (fun _ _ => trivial) rfl ?_
                refine wl_nil ?_
                refine q_then ?_
                refine wc_cond_f rfl ((by refine bne_f (hq.trans ?_); clear hq HT; solve | simp only [wantR, w01, *, cond_true, cond_false] | (exfalso; simp_all))) ?_
                refine wc_skip ?_
                refine q_mid (()) ?_ ?_ ?_
                · trivial
                · ((repeat' (refine Wk.cons ?_ ?_)) <;> first | exact Wk.nil | exact rfl | exact trivial | exact wk_num rfl (by omega) | exact wk_num rfl (by simp))
                · ((repeat (first | exact List.Sublist.slnil | refine List.Sublist.cons_cons _ ?_ | refine List.Sublist.cons _ ?_)))
              · refine wc_skip ?_
                refine q_block ?_
                refine q_then ?_
                refine wc_seq ?_
                refine wc_region ?_
                refine wl_y (y_move (ev_rfl rfl)) (fun _ _ => trivial) rfl ?_
                refine wl_y (y_move (ev_rfl rfl)) (fun _ _ => trivial) rfl ?_
                refine wl_y (y_neq (ev_rfl rfl) (ev_rfl rfl) rfl) (fun _ _ => trivial) rfl ?_
                refine wl_nil ?_
                refine q_then ?_
                refine wc_cond_f rfl ((by refine bne_f (hq.trans ?_); clear hq HT; solve | simp only [wantR, w01, *, cond_true, cond_false] | (exfalso; simp_all))) ?_
                refine wc_skip ?_
                refine q_mid (()) ?_ ?_ ?_
                · trivial
                · ((repeat' (refine Wk.cons ?_ ?_)) <;> first | exact Wk.nil | exact rfl | exact trivial | exact wk_num rfl (by omega) | exact wk_num rfl (by simp))
                · ((repeat (first | exact List.Sublist.slnil | refine List.Sublist.cons_cons _ ?_ | refine List.Sublist.cons _ ?_)))
        · refine wc_seq ?_
          refine wc_region ?_
          refine wl_y (y_eql (ev_rfl rfl) (ev_rfl rfl) rfl) (fun _ _ => trivial) rfl ?_
          refine wl_y (y_assign (ev_rfl rfl)) (fun _ _ => trivial) rfl ?_
          refine wl_nil ?_
          refine q_then ?_
          refine wc_cond _ rfl (fun hc15 => ?_) (fun hc15 => ?_)
          · refine wc_skip ?_
            refine q_then ?_
            refine wc_cond _ rfl (fun hc15 => ?_) (fun hc15 => ?_)
            · refine wc_seq ?_
              refine wc_region ?_
              refine wl_y (y_assign (ev_rfl rfl)) (fun _ _ => trivial) rfl ?_
              refine wl_nil ?_
              refine q_then ?_
              refine wc_seq ?_
              refine wc_region ?_
              refine wl_y (y_move (ev_rfl rfl)) (fun _ _ => trivial) rfl ?_
              refine wl_y (y_neq (ev_rfl rfl) (ev_rfl rfl) rfl) (fun _ _ => trivial) rfl ?_
              refine wl_nil ?_
              refine q_then ?_
              refine wc_cond _ rfl (fun hc18 => ?_) (fun hc18 => ?_)
              · refine wc_region ?_
                refine wl_y (y_assign (ev_rfl rfl)) (fun _ _ => trivial) rfl ?_
                refine wl_nil ?_
                refine q_block ?_
                refine q_then ?_
                refine wc_seq ?_
                refine wc_region ?_
                refine wl_y (y_move (ev_rfl rfl)) (fun _ _ => trivial) rfl ?_
                refine wl_y (y_move (ev_rfl rfl)) (fun _ _ => trivial) rfl ?_
                refine wl_y (y_neq (ev_rfl rfl) (ev_rfl rfl) rfl) (fun _ _ => trivial) rfl ?_
                refine wl_nil ?_
                refine q_then ?_
                refine wc_cond_f rfl ((by refine bne_f (hq.trans ?_); clear hq HT; solve | simp only [wantR, w01, *, cond_true, cond_false] | (exfalso; simp_all))) ?_
                refine wc_skip ?_
                refine q_mid (()) ?_ ?_ ?_
                · trivial
                · ((repeat' (refine Wk.cons ?_ ?_)) <;> first | exact Wk.nil | exact rfl | exact trivial | exact wk_num rfl (by omega) | exact wk_num rfl (by simp))
                · ((repeat (first | exact List.Sublist.slnil | refine List.Sublist.cons_cons _ ?_ | refine List.Sublist.cons _ ?_)))
              · refine wc_skip ?_
                refine q_block ?_
                refine q_then ?_
                refine wc_seq ?_
                refine wc_region ?_
                refine wl_y (y_move (ev_rfl rfl)) (fun _ _ => trivial) rfl ?_
                refine wl_y (y_move (ev_rfl rfl)) (fun _ _ => trivial) rfl ?_
                refine wl_y (y_neq (ev_rfl rfl) (ev_rfl rfl) rfl) (fun _ _ => trivial) rfl ?_
                refine wl_nil ?_
                refine q_then ?_
                refine wc_cond_f rfl ((by refine bne_f (hq.trans ?_); clear hq HT; solve | simp only [wantR, w01, *, cond_true, cond_false] | (exfalso; simp_all))) ?_
                refine wc_skip ?_
                refine q_mid (()) ?_ ?_ ?_
                · trivial
                · ((repeat' (refine Wk.cons ?_ ?_)) <;> first | exact Wk.nil | exact rfl | exact trivial | exact wk_num rfl (by omega) | exact wk_num rfl (by simp))
                · ((repeat (first | exact List.Sublist.slnil | refine List.Sublist.cons_cons _ ?_ | refine List.Sublist.cons _ ?_)))
            · refine wc_seq ?_
              refine wc_region ?_
              refine wl_y (y_eql (ev_rfl rfl) (ev_rfl rfl) rfl) (fun _ _ => trivial) rfl ?_
              refine wl_y (y_assign (ev_rfl rfl)) (fun _ _ => trivial) rfl ?_
              refine wl_nil ?_
              refine q_then ?_
              refine wc_cond _ rfl (fun hc20 => ?_) (fun hc20 => ?_)
              · refine wc_region ?_
                refine wl_y (y_move (ev_rfl rfl)) (fun _ _ => trivial) rfl ?_
                refine wl_y (y_move (ev_rfl rfl)) (fun _ _ => trivial) rfl ?_
                refine wl_y (y_rem (ev_rfl rfl) (ev_rfl rfl) (by omega) (by first | exact IntWalk.rem_in _ _ (by omega) | exact rfl)) (fun _ _ => trivial) rfl ?_
                refine wl_y (y_sub (ev_rfl rfl) (ev_rfl rfl) rfl) (fun _ _ => trivial) rfl ?_
                refine wl_y (y_assign (ev_rfl rfl)) (fun _ _ => trivial) rfl ?_
                refine wl_nil ?_
                refine q_block ?_
                refine q_then ?_
                refine wc_seq ?_
                refine wc_region ?_
                refine wl_y (y_move (ev_rfl rfl)) (fun _ _ => trivial) rfl ?_
                refine wl_y (y_move (ev_rfl rfl)) (fun _ _ => trivial) rfl ?_
                refine wl_y (y_neq (ev_rfl rfl) (ev_rfl rfl) rfl) (fun _ _ => trivial) rfl ?_
                refine wl_nil ?_
                refine q_then ?_
                refine wc_cond_f rfl ((by refine bne_f (hq.trans ?_); clear hq HT; solve | simp only [wantR, w01, *, cond_true, cond_false] | (exfalso; simp_all))) ?_
                refine wc_skip ?_
                refine q_mid (()) ?_ ?_ ?_
                · trivial
                · ((repeat' (refine Wk.cons ?_ ?_)) <;> first | exact Wk.nil | exact rfl | exact trivial | exact wk_num rfl (by omega) | exact wk_num rfl (by simp))
                · ((repeat (first | exact List.Sublist.slnil | refine List.Sublist.cons_cons _ ?_ | refine List.Sublist.cons _ ?_)))
              · refine wc_seq ?_
                refine wc_region ?_
                refine wl_y (y_eql (ev_rfl rfl) (ev_rfl rfl) rfl) (fun _ _ => trivial) rfl ?_
                refine wl_y (y_assign (ev_rfl rfl)) (fun _ _ => trivial) rfl ?_
                refine wl_nil ?_
                refine q_then ?_
                refine wc_cond _ rfl (fun hc22 => ?_) (fun hc22 => ?_)
                · refine wc_region ?_
                  refine wl_y (y_move (ev_rfl rfl)) (fun _ _ => trivial) rfl ?_
                  refine wl_y (y_rem (ev_rfl rfl) (ev_rfl rfl) (by omega) (by first | exact IntWalk.rem_in _ _ (by omega) | exact rfl)) (fun _ _ => trivial) rfl ?_
                  refine wl_y (y_assign (ev_rfl rfl)) (fun _ _ => trivial) rfl ?_
                  refine wl_nil ?_
                  refine q_block ?_
                  refine q_then ?_
                  refine wc_seq ?_
                  refine wc_region ?_
                  refine wl_y (y_move (ev_rfl rfl)) (fun _ _ => trivial) rfl ?_
                  refine wl_y (y_move (ev_rfl rfl)) (fun _ _ => trivial) rfl ?_
                  refine wl_y (y_neq (ev_rfl rfl) (ev_rfl rfl) rfl) (fun _ _ => trivial) rfl ?_
                  refine wl_nil ?_
                  refine q_then ?_
                  refine wc_cond_f rfl ((by refine bne_f (hq.trans ?_); clear hq HT; solve | simp only [wantR, w01, *, cond_true, cond_false] | (exfalso; simp_all))) ?_
                  refine wc_skip ?_
                  refine q_mid (()) ?_ ?_ ?_
                  · trivial
                  · ((repeat' (refine Wk.cons ?_ ?_)) <;> first | exact Wk.nil | exact rfl | exact trivial | exact wk_num rfl (by omega) | exact wk_num rfl (by simp))
                  · ((repeat (first | exact List.Sublist.slnil | refine List.Sublist.cons_cons _ ?_ | refine List.Sublist.cons _ ?_)))
                · refine wc_skip ?_
                  refine q_block ?_
                  refine q_then ?_
                  refine wc_seq ?_
                  refine wc_region ?_
                  refine wl_y (y_move (ev_rfl rfl)) (fun _ _ => trivial) rfl ?_
                  refine wl_y (y_move (ev_rfl rfl)) (fun _ _ => trivial) rfl ?_
                  refine wl_y (y_neq (ev_rfl rfl) (ev_rfl rfl) rfl) (fun _ _ => trivial) rfl ?_
                  refine wl_nil ?_
                  refine q_then ?_
                  refine wc_cond_f rfl ((by refine bne_f (hq.trans ?_); clear hq HT; solve | simp only [wantR, w01, *, cond_true, cond_false] | (exfalso; simp_all))) ?_
                  refine wc_skip ?_
                  refine q_mid (()) ?_ ?_ ?_
                  · trivial
                  · ((repeat' (refine Wk.cons ?_ ?_)) <;> first | exact Wk.nil | exact rfl | exact trivial | exact wk_num rfl (by omega) | exact wk_num rfl (by simp))
                  · ((repeat (first | exact List.Sublist.slnil | refine List.Sublist.cons_cons _ ?_ | refine List.Sublist.cons _ ?_)))
          · refine wc_region ?_
            refine wl_y (y_eql (ev_rfl rfl) (ev_rfl rfl) rfl) (fun _ _ => trivial) rfl ?_
            refine wl_y (y_assign (ev_rfl rfl)) (fun _ _ => trivial) rfl ?_
            refine wl_nil ?_
            refine q_then ?_
            refine wc_cond _ rfl (fun hc16 => ?_) (fun hc16 => ?_)
            · refine wc_seq ?_
              refine wc_region ?_
              refine wl_y (y_assign (ev_rfl rfl)) (fun _ _ => trivial) rfl ?_
              refine wl_nil ?_
              refine q_then ?_
              refine wc_seq ?_
              refine wc_region ?_
              refine wl_y (y_move (ev_rfl rfl)) (fun _ _ => trivial) rfl ?_
              refine wl_y (y_neq (ev_rfl rfl) (ev_rfl rfl) rfl) (fun _ _ => trivial) rfl ?_
              refine wl_nil ?_
              refine q_then ?_
              refine wc_cond _ rfl (fun hc18 => ?_) (fun hc18 => ?_)
              · refine wc_region ?_
                refine wl_y (y_assign (ev_rfl rfl)) (fun _ _ => trivial) rfl ?_
                refine wl_nil ?_
                refine q_block ?_
                refine q_then ?_
                refine wc_seq ?_
                refine wc_region ?_
                refine wl_y (y_move (ev_rfl rfl)) (fun _ _ => trivial) rfl ?_
                refine wl_y (y_move (ev_rfl rfl)) (fun _ _ => trivial) rfl ?_
                refine wl_y (y_neq (ev_rfl rfl) (ev_rfl rfl) rfl) (fun _ _ => trivial) rfl ?_
                refine wl_nil ?_
                refine q_then ?_
                refine wc_cond_f rfl ((by refine bne_f (hq.trans ?_); clear hq HT; solve | simp only [wantR, w01, *, cond_true, cond_false] | (exfalso; simp_all))) ?_
                refine wc_skip ?_
                refine q_mid (()) ?_ ?_ ?_
                · trivial
                · ((repeat' (refine Wk.cons ?_ ?_)) <;> first | exact Wk.nil | exact rfl | exact trivial | exact wk_num rfl (by omega) | exact wk_num rfl (by simp))
                · ((repeat (first | exact List.Sublist.slnil | refine List.Sublist.cons_cons _ ?_ | refine List.Sublist.cons _ ?_)))
              · refine wc_skip ?_
                refine q_block ?_
                refine q_then ?_
                refine wc_seq ?_
                refine wc_region ?_
                refine wl_y (y_move (ev_rfl rfl)) (fun _ _ => trivial) rfl ?_
                refine wl_y (y_move (ev_rfl rfl)) (fun _ _ => trivial) rfl ?_
                refine wl_y (y_neq (ev_rfl rfl) (ev_rfl rfl) rfl) (fun _ _ => trivial) rfl ?_
                refine wl_nil ?_
                refine q_then ?_
                refine wc_cond_f rfl ((by refine bne_f (hq.trans ?_); clear hq HT; solve | simp only [wantR, w01, *, cond_true, cond_false] | (exfalso; simp_all))) ?_
                refine wc_skip ?_
                refine q_mid (()) ?_ ?_ ?_
                · trivial
                · ((repeat' (refine Wk.cons ?_ ?_)) <;> first | exact Wk.nil | exact rfl | exact trivial | exact wk_num rfl (by omega) | exact wk_num rfl (by simp))
                · ((repeat (first | exact List.Sublist.slnil | refine List.Sublist.cons_cons _ ?_ | refine List.Sublist.cons _ ?_)))
            · refine wc_seq ?_
              refine wc_region ?_
              refine wl_y (y_eql (ev_rfl rfl) (ev_rfl rfl) rfl) (fun _ _ => trivial) rfl ?_
              refine wl_y (y_assign (ev_rfl rfl)) (fun _ _ => trivial) rfl ?_
              refine wl_nil ?_
              refine q_then ?_
              refine wc_cond _ rfl (fun hc20 => ?_) (fun hc20 => ?_)
              · refine wc_region ?_
                refine wl_y (y_move (ev_rfl rfl)) (fun _ _ => trivial) rfl ?_
                refine wl_y (y_move (ev_rfl rfl)) (fun _ _ => trivial) rfl ?_
                refine wl_y (y_rem (ev_rfl rfl) (ev_rfl rfl) (by omega) (by first | exact IntWalk.rem_in _ _ (by omega) | exact rfl)) (fun _ _ => trivial) rfl ?_
                refine wl_y (y_sub (ev_rfl rfl) (ev_rfl rfl) rfl) (fun _ _ => trivial) rfl ?_
                refine wl_y (y_assign (ev_rfl rfl)) (fun _ _ => trivial) rfl ?_
                refine wl_nil ?_
                refine q_block ?_
                refine q_then ?_
                refine wc_seq ?_
                refine wc_region ?_
                refine wl_y (y_move (ev_rfl rfl)) (fun _ _ => trivial) rfl ?_
                refine wl_y (y_move (ev_rfl rfl)) (fun _ _ => trivial) rfl ?_
                refine wl_y (y_neq (ev_rfl rfl) (ev_rfl rfl) rfl) (fun _ _ => trivial) rfl ?_
                refine wl_nil ?_
                refine q_then ?_
                refine wc_cond_f rfl ((by refine bne_f (hq.trans ?_); clear hq HT; solve | simp only [wantR, w01, *, cond_true, cond_false] | (exfalso; simp_all))) ?_
                refine wc_skip ?_
                refine q_mid (()) ?_ ?_ ?_
                · trivial
                · ((repeat' (refine Wk.cons ?_ ?_)) <;> first | exact Wk.nil | exact rfl | exact trivial | exact wk_num rfl (by omega) | exact wk_num rfl (by simp))
                · ((repeat (first | exact List.Sublist.slnil | refine List.Sublist.cons_cons _ ?_ | refine List.Sublist.cons _ ?_)))
              · refine wc_seq ?_
                refine wc_region ?_
                refine wl_y (y_eql (ev_rfl rfl) (ev_rfl rfl) rfl) (fun _ _ => trivial) rfl ?_
                refine wl_y (y_assign (ev_rfl rfl)) (fun _ _ => trivial) rfl ?_
                refine wl_nil ?_
                refine q_then ?_
                refine wc_cond _ rfl (fun hc22 => ?_) (fun hc22 => ?_)
                · refine wc_region ?_
                  refine wl_y (y_move (ev_rfl rfl)) (fun _ _ => trivial) rfl ?_
                  refine wl_y (y_rem (ev_rfl rfl) (ev_rfl rfl) (by omega) (by first | exact IntWalk.rem_in _ _ (by omega) | exact rfl)) (fun _ _ => trivial) rfl ?_
                  refine wl_y (y_assign (ev_rfl rfl)) (fun _ _ => trivial) rfl ?_
                  refine wl_nil ?_
                  refine q_block ?_
                  refine q_then ?_
                  refine wc_seq ?_
                  refine wc_region ?_
                  refine wl_y (y_move (ev_rfl rfl)) (fun _ _ => trivial) rfl ?_
                  refine wl_y (y_move (ev_rfl rfl)) (fun _ _ => trivial) rfl ?_
                  refine wl_y (y_neq (ev_rfl rfl) (ev_rfl rfl) rfl) (fun _ _ => trivial) rfl ?_
                  refine wl_nil ?_
                  refine q_then ?_
                  refine wc_cond_f rfl ((by refine bne_f (hq.trans ?_); clear hq HT; solve | simp only [wantR, w01, *, cond_true, cond_false] | (exfalso; simp_all))) ?_
                  refine wc_skip ?_
                  refine q_mid (()) ?_ ?_ ?_
                  · trivial
                  · ((repeat' (refine Wk.cons ?_ ?_)) <;> first | exact Wk.nil | exact rfl | exact trivial | exact wk_num rfl (by omega) | exact wk_num rfl (by simp))
                  · ((repeat (first | exact List.Sublist.slnil | refine List.Sublist.cons_cons _ ?_ | refine List.Sublist.cons _ ?_)))
                · refine wc_skip ?_
                  refine q_block ?_
                  refine q_then ?_
                  refine wc_seq ?_
                  refine wc_region ?_
                  refine wl_y (y_move (ev_rfl rfl)) (fun _ _ => trivial) rfl ?_
                  refine wl_y (y_move (ev_rfl rfl)) (fun _ _ => trivial) rfl ?_
                  refine wl_y (y_neq (ev_rfl rfl) (ev_rfl rfl) rfl) (fun _ _ => trivial) rfl ?_
                  refine wl_nil ?_
                  refine q_then ?_
                  refine wc_cond_f rfl ((by refine bne_f (hq.trans ?_); clear hq HT; solve | simp only [wantR, w01, *, cond_true, cond_false] | (exfalso; simp_all))) ?_
                  refine wc_skip ?_
                  refine q_mid (()) ?_ ?_ ?_
                  · trivial
                  · ((repeat' (refine Wk.cons ?_ ?_)) <;> first | exact Wk.nil | exact rfl | exact trivial | exact wk_num rfl (by omega) | exact wk_num rfl (by simp))
                  · ((repeat (first | exact List.Sublist.slnil | refine List.Sublist.cons_cons _ ?_ | refine List.Sublist.cons _ ?_)))
    · clear hc10
      refine wc_skip ?_
      refine q_mid (()) ?_ ?_ ?_
      · trivial
      · ((repeat' (refine Wk.cons ?_ ?_)) <;> first | exact Wk.nil | exact rfl | exact trivial | exact wk_num rfl (by omega) | exact wk_num rfl (by simp))
      · ((repeat (first | exact List.Sublist.slnil | refine List.Sublist.cons_cons _ ?_ | refine List.Sublist.cons _ ?_)))
  · intro s hs
    refine wc_seq ?_
    refine wc_draw (fun j => List.elem j []) (by kernel_rfl) ?_
    refine wa_loadRow 0 rfl (by kernel_rfl) (by kernel_rfl) (by kernel_rfl) (by kernel_rfl) (by first | exact .head _ _ | exact .tail _ (.head _ _) | exact .tail _ (.tail _ (.head _ _)) | exact .tail _ (.tail _ (.tail _ (.head _ _))) | exact .tail _ (.tail _ (.tail _ (.tail _ (.head _ _)))) | exact .tail _ (.tail _ (.tail _ (.tail _ (.tail _ (.head _ _))))) | exact .tail _ (.tail _ (.tail _ (.tail _ (.tail _ (.tail _ (.head _ _)))))) | exact .tail _ (.tail _ (.tail _ (.tail _ (.tail _ (.tail _ (.tail _ (.head _ _))))))) | exact .tail _ (.tail _ (.tail _ (.tail _ (.tail _ (.tail _ (.tail _ (.tail _ (.head _ _))))))))) (fun _ => rfl) (fun _ => rfl) (ev_rfl rfl) rfl ?_
    refine wa_yn 1 rfl (by kernel_rfl) (by kernel_rfl) (by kernel_rfl) (y_move (ev_rfl rfl)) rfl ?_
    refine wa_1 2 (by kernel_rfl) ?_
    refine wi_t rfl rfl (t_call rfl (fun _ _ => rfl) (fun w hi => within_eq hz w (by omega) (by omega) (by omega))) rfl ?_
    rintro _ _ ⟨_, ⟨rfl, rfl⟩, rfl⟩
    refine wa_yn 3 rfl (by kernel_rfl) (by kernel_rfl) (by kernel_rfl) (y_add (ev_rfl rfl) (ev_rfl rfl) (by first | exact IntWalk.i64_in _ ⟨by omega, by omega⟩ | exact rfl)) rfl ?_
    refine wa_1 4 (by kernel_rfl) ?_
    refine wi_t rfl rfl (t_call rfl (fun _ _ => rfl) (fun w hi => get_ok t _ _ (11 + z) w)) rfl ?_
    rintro _ _ ⟨_, ⟨rfl, rfl⟩, rfl⟩
    refine wa_yn 5 rfl (by kernel_rfl) (by kernel_rfl) (by kernel_rfl) (y_move (ev_rfl rfl)) rfl ?_
    refine wa_yn 6 rfl (by kernel_rfl) (by kernel_rfl) (by kernel_rfl) (y_extract (ev_rfl rfl) rfl) rfl ?_
    refine wa_yn 7 rfl (by kernel_rfl) (by kernel_rfl) (by kernel_rfl) (y_extract (ev_rfl rfl) rfl) rfl ?_
    refine wa_yn 8 rfl (by kernel_rfl) (by kernel_rfl) (by kernel_rfl) (y_assign (ev_rfl rfl)) rfl ?_
    refine wa_yn 9 rfl (by kernel_rfl) (by kernel_rfl) (by kernel_rfl) (y_assign (ev_rfl rfl)) rfl ?_
    refine wa_done (by kernel_rfl) ?_
    refine q_then ?_
    refine wc_seq ?_
    refine wc_region ?_
    refine wl_loadRow (by first | exact .head _ _ | exact .tail _ (.head _ _) | exact .tail _ (.tail _ (.head _ _)) | exact .tail _ (.tail _ (.tail _ (.head _ _))) | exact .tail _ (.tail _ (.tail _ (.tail _ (.head _ _)))) | exact .tail _ (.tail _ (.tail _ (.tail _ (.tail _ (.head _ _))))) | exact .tail _ (.tail _ (.tail _ (.tail _ (.tail _ (.tail _ (.head _ _)))))) | exact .tail _ (.tail _ (.tail _ (.tail _ (.tail _ (.tail _ (.tail _ (.head _ _))))))) | exact .tail _ (.tail _ (.tail _ (.tail _ (.tail _ (.tail _ (.tail _ (.tail _ (.head _ _))))))))) (fun _ => rfl) (fun _ => rfl) (ev_rfl rfl) rfl ?_
    refine wl_t (t_call rfl (fun _ _ => rfl) (fun w hi => get_ok t _ _ (-1) w)) rfl ?_
    rintro _ _ ⟨_, ⟨rfl, rfl⟩, rfl⟩
    refine wl_y (y_move (ev_rfl rfl)) (fun _ _ => trivial) rfl ?_
    refine wl_y (y_extract (ev_rfl rfl) rfl) (fun _ _ => trivial) rfl ?_
    refine wl_y (y_extract (ev_rfl rfl) rfl) (fun _ _ => trivial) rfl ?_
    refine wl_y (y_assign (ev_rfl rfl)) (fun _ _ => trivial) rfl ?_
    refine wl_y (y_assign (ev_rfl rfl)) (fun _ _ => trivial) rfl ?_
    refine wl_nil ?_
    refine q_then ?_
    refine wc_seq ?_
    refine wc_region ?_
    refine wl_loadRow (by first | exact .head _ _ | exact .tail _ (.head _ _) | exact .tail _ (.tail _ (.head _ _)) | exact .tail _ (.tail _ (.tail _ (.head _ _))) | exact .tail _ (.tail _ (.tail _ (.tail _ (.head _ _)))) | exact .tail _ (.tail _ (.tail _ (.tail _ (.tail _ (.head _ _))))) | exact .tail _ (.tail _ (.tail _ (.tail _ (.tail _ (.tail _ (.head _ _)))))) | exact .tail _ (.tail _ (.tail _ (.tail _ (.tail _ (.tail _ (.tail _ (.head _ _))))))) | exact .tail _ (.tail _ (.tail _ (.tail _ (.tail _ (.tail _ (.tail _ (.tail _ (.head _ _))))))))) (fun _ => rfl) (fun _ => rfl) (ev_rfl rfl) rfl ?_
    refine wl_y (y_move (ev_rfl rfl)) (fun _ _ => trivial) rfl ?_
    refine wl_t (t_call rfl (fun _ _ => rfl) (fun w hi => set_ok t A1 A2 c1 c2 11 v w (hi.rdSt (by first | exact .head _ _ | exact .tail _ (.head _ _) | exact .tail _ (.tail _ (.head _ _)) | exact .tail _ (.tail _ (.tail _ (.head _ _))) | exact .tail _ (.tail _ (.tail _ (.tail _ (.head _ _)))) | exact .tail _ (.tail _ (.tail _ (.tail _ (.tail _ (.head _ _))))) | exact .tail _ (.tail _ (.tail _ (.tail _ (.tail _ (.tail _ (.head _ _)))))) | exact .tail _ (.tail _ (.tail _ (.tail _ (.tail _ (.tail _ (.tail _ (.head _ _))))))) | exact .tail _ (.tail _ (.tail _ (.tail _ (.tail _ (.tail _ (.tail _ (.tail _ (.head _ _))))))))) (by first | exact .head _ _ | exact .tail _ (.head _ _) | exact .tail _ (.tail _ (.head _ _)) | exact .tail _ (.tail _ (.tail _ (.head _ _))) | exact .tail _ (.tail _ (.tail _ (.tail _ (.head _ _)))) | exact .tail _ (.tail _ (.tail _ (.tail _ (.tail _ (.head _ _))))) | exact .tail _ (.tail _ (.tail _ (.tail _ (.tail _ (.tail _ (.head _ _)))))) | exact .tail _ (.tail _ (.tail _ (.tail _ (.tail _ (.tail _ (.tail _ (.head _ _))))))) | exact .tail _ (.tail _ (.tail _ (.tail _ (.tail _ (.tail _ (.tail _ (.tail _ (.head _ _))))))))) hd4 hr4))) rfl ?_
    rintro _ _ ⟨_, ⟨A5, c5, A6, c6, rfl, rfl⟩, rfl⟩
    refine wl_y (y_move (ev_rfl rfl)) (fun _ _ => trivial) rfl ?_
    refine wl_y (y_extract (ev_rfl rfl) rfl) (fun _ _ => trivial) rfl ?_
    refine wl_y (y_extract (ev_rfl rfl) rfl) (fun _ _ => trivial) rfl ?_
    refine wl_t (t_alloc (fun _ => rfl) rfl) rfl ?_
    rintro _ _ ⟨b22, rfl, rfl⟩
    refine wl_t0 (t_storeN (fun _ => rfl) rfl rfl (allT rfl) (by first | exact fun _ => .head _ _ _ | exact fun _ => .tail _ (.head _ _ _) | exact fun _ => .tail _ (.tail _ (.head _ _ _)) | exact fun _ => .tail _ (.tail _ (.tail _ (.head _ _ _))) | exact fun _ => .tail _ (.tail _ (.tail _ (.tail _ (.head _ _ _)))) | exact fun _ => .tail _ (.tail _ (.tail _ (.tail _ (.tail _ (.head _ _ _))))) | exact fun _ => .tail _ (.tail _ (.tail _ (.tail _ (.tail _ (.tail _ (.head _ _ _)))))) | exact fun _ => .tail _ (.tail _ (.tail _ (.tail _ (.tail _ (.tail _ (.tail _ (.head _ _ _))))))) | exact fun _ => .tail _ (.tail _ (.tail _ (.tail _ (.tail _ (.tail _ (.tail _ (.tail _ (.head _ _ _))))))))) (by exact rfl)) ?_
    rintro _ _ ⟨rfl, rfl⟩
    refine wl_y (y_assign (ev_rfl rfl)) (fun _ _ => trivial) rfl ?_
    refine wl_nil ?_
    refine q_then ?_
    refine wc_seq ?_
    refine wc_region ?_
    refine wl_y (y_move (ev_rfl rfl)) (fun _ _ => trivial) rfl ?_
    refine wl_y (y_not (ev_rfl rfl) rfl) (fun _ _ => trivial) rfl ?_
    refine wl_y (y_move (ev_rfl rfl)) (fun _ _ => trivial) rfl ?_
    refine wl_yg (guard_yes rfl rfl) (y_move (ev_rfl rfl)) (fun _ _ => trivial) rfl ?_
    refine wl_yg (guard_yes rfl rfl) (y_not (ev_g rfl) rfl) (fun _ _ => trivial) rfl ?_
    refine wl_y (y_and (ev_rfl rfl) (pk_yes rfl (fun _ => rfl))) (fun _ _ => trivial) rfl ?_
    refine wl_y (y_move (ev_rfl rfl)) (fun _ _ => trivial) rfl ?_
    refine wl_yg (guard_yes rfl rfl) (y_move (ev_rfl rfl)) (fun _ _ => trivial) rfl ?_
    refine wl_yg (guard_yes rfl rfl) (y_not (ev_g rfl) rfl) (fun _ _ => trivial) rfl ?_
    refine wl_y (y_and (ev_rfl rfl) (pk_yes rfl (fun _ => rfl))) (fun _ _ => trivial) rfl ?_
    refine wl_y (y_move (ev_rfl rfl)) (fun _ _ => trivial) rfl ?_
    refine wl_loadRowg (guard_yes rfl rfl) (by first | exact .head _ _ | exact .tail _ (.head _ _) | exact .tail _ (.tail _ (.head _ _)) | exact .tail _ (.tail _ (.tail _ (.head _ _))) | exact .tail _ (.tail _ (.tail _ (.tail _ (.head _ _)))) | exact .tail _ (.tail _ (.tail _ (.tail _ (.tail _ (.head _ _))))) | exact .tail _ (.tail _ (.tail _ (.tail _ (.tail _ (.tail _ (.head _ _)))))) | exact .tail _ (.tail _ (.tail _ (.tail _ (.tail _ (.tail _ (.tail _ (.head _ _))))))) | exact .tail _ (.tail _ (.tail _ (.tail _ (.tail _ (.tail _ (.tail _ (.tail _ (.head _ _))))))))) (fun _ => rfl) (fun _ => rfl) (ev_rfl rfl) rfl ?_
    refine wl_loadRowg (guard_yes rfl rfl) (by first | exact .head _ _ | exact .tail _ (.head _ _) | exact .tail _ (.tail _ (.head _ _)) | exact .tail _ (.tail _ (.tail _ (.head _ _))) | exact .tail _ (.tail _ (.tail _ (.tail _ (.head _ _)))) | exact .tail _ (.tail _ (.tail _ (.tail _ (.tail _ (.head _ _))))) | exact .tail _ (.tail _ (.tail _ (.tail _ (.tail _ (.tail _ (.head _ _)))))) | exact .tail _ (.tail _ (.tail _ (.tail _ (.tail _ (.tail _ (.tail _ (.head _ _))))))) | exact .tail _ (.tail _ (.tail _ (.tail _ (.tail _ (.tail _ (.tail _ (.tail _ (.head _ _))))))))) (fun _ => rfl) (fun _ => rfl) (ev_rfl rfl) rfl ?_
    refine wl_callg (guard_yes rfl rfl) (.cons (ev_g rfl) (.cons (ev_g rfl) .nil)) (fun _ _ => rfl) (fun hg w hi => rSame_ok (t.set 11 v).1 t A5 A6 A1 A2 c5 c6 c1 c2 w (hi.rdSt (s := t) (by first | exact .head _ _ | exact .tail _ (.head _ _) | exact .tail _ (.tail _ (.head _ _)) | exact .tail _ (.tail _ (.tail _ (.head _ _))) | exact .tail _ (.tail _ (.tail _ (.tail _ (.head _ _)))) | exact .tail _ (.tail _ (.tail _ (.tail _ (.tail _ (.head _ _))))) | exact .tail _ (.tail _ (.tail _ (.tail _ (.tail _ (.tail _ (.head _ _)))))) | exact .tail _ (.tail _ (.tail _ (.tail _ (.tail _ (.tail _ (.tail _ (.head _ _))))))) | exact .tail _ (.tail _ (.tail _ (.tail _ (.tail _ (.tail _ (.tail _ (.tail _ (.head _ _))))))))) (by first | exact .head _ _ | exact .tail _ (.head _ _) | exact .tail _ (.tail _ (.head _ _)) | exact .tail _ (.tail _ (.tail _ (.head _ _))) | exact .tail _ (.tail _ (.tail _ (.tail _ (.head _ _)))) | exact .tail _ (.tail _ (.tail _ (.tail _ (.tail _ (.head _ _))))) | exact .tail _ (.tail _ (.tail _ (.tail _ (.tail _ (.tail _ (.head _ _)))))) | exact .tail _ (.tail _ (.tail _ (.tail _ (.tail _ (.tail _ (.tail _ (.head _ _))))))) | exact .tail _ (.tail _ (.tail _ (.tail _ (.tail _ (.tail _ (.tail _ (.tail _ (.head _ _))))))))) hd4 hr4) (hi.rdSt (by first | exact .head _ _ | exact .tail _ (.head _ _) | exact .tail _ (.tail _ (.head _ _)) | exact .tail _ (.tail _ (.tail _ (.head _ _))) | exact .tail _ (.tail _ (.tail _ (.tail _ (.head _ _)))) | exact .tail _ (.tail _ (.tail _ (.tail _ (.tail _ (.head _ _))))) | exact .tail _ (.tail _ (.tail _ (.tail _ (.tail _ (.tail _ (.head _ _)))))) | exact .tail _ (.tail _ (.tail _ (.tail _ (.tail _ (.tail _ (.tail _ (.head _ _))))))) | exact .tail _ (.tail _ (.tail _ (.tail _ (.tail _ (.tail _ (.tail _ (.tail _ (.head _ _))))))))) (by first | exact .head _ _ | exact .tail _ (.head _ _) | exact .tail _ (.tail _ (.head _ _)) | exact .tail _ (.tail _ (.tail _ (.head _ _))) | exact .tail _ (.tail _ (.tail _ (.tail _ (.head _ _)))) | exact .tail _ (.tail _ (.tail _ (.tail _ (.tail _ (.head _ _))))) | exact .tail _ (.tail _ (.tail _ (.tail _ (.tail _ (.tail _ (.head _ _)))))) | exact .tail _ (.tail _ (.tail _ (.tail _ (.tail _ (.tail _ (.tail _ (.head _ _))))))) | exact .tail _ (.tail _ (.tail _ (.tail _ (.tail _ (.tail _ (.tail _ (.tail _ (.head _ _))))))))) hd4 hr4)) rfl ?_
    refine wl_y (y_and (ev_rfl rfl) (pk_yes rfl (fun _ => rfl))) (fun _ _ => trivial) rfl ?_
    refine wl_y (y_move (ev_rfl rfl)) (fun _ _ => trivial) rfl ?_
    refine wl_callg (guard_yes rfl rfl) .nil (fun _ _ => rfl) (fun hg w hi => known_ok w) rfl ?_
    refine wl_y (y_and (ev_rfl rfl) (pk_yes rfl (fun _ => rfl))) (fun _ _ => trivial) rfl ?_
    refine wl_y (y_assign (ev_rfl rfl)) (fun _ _ => trivial) rfl ?_
    refine wl_nil ?_
    refine q_then ?_
    refine wc_ret ?_
    refine ret1 (cs' := []) (.inl rfl) (by ((repeat (first | exact List.Sublist.slnil | refine List.Sublist.cons_cons _ ?_ | refine List.Sublist.cons _ ?_)))) rfl rfl ?_
    refine ⟨?_, rfl⟩
    rw [g5, g6]
    exact congrArg Value.bool (by rw [show (t.set 11 v).1 = t from rfl, St.rsame_self]; rfl)
end Go.Proofs.Ytjknccgefnnfnaa
