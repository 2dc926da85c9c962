/- The host's frames. -/
import Derived.Test.YtobjiljkfmcalaaGreatProg
import Derived.Test.YtobjiljkfmcalaaGreatInkS
import Derived.Test.YtobjiljkfmcalaaGreatSpM
set_option linter.unusedSimpArgs false
set_option linter.unusedVariables false
set_option maxRecDepth 100000
namespace Go.Proofs.YtobjiljkfmcalaaGreat
open Go.RowKit Go.Ink

abbrev poolC (bp : Nat) (B ow pr : List Int) : Chunk := row bp (poolCells B ow pr) 174
theorem fis_ok (n : Int) (w : World) : Ctr Tryz.prog 128 [.int .i64 n] w [] (fun v cs => v = .bool (decide (0 ≤ n) && decide (n < 4)) ∧ cs = []) := by
  refine fn_ctr Tryz.func128 rfl Tryz.ntmps128 rfl (Inv.start w) ?_
  refine Zs (Zr (Zg rfl (Zn (Zt (Zs (Zr (Zm rfl (Zy (y_geq (Zv rfl) (Zv rfl) rfl) (Zm rfl (Zyy rfl rfl (y_move (Zv rfl)) ?_))))))))))
  refine Zyy rfl rfl (y_lss (ev_g rfl) (Zv rfl) rfl) ?_
  refine Zy (y_and (Zv rfl) (pk_yes rfl (fun _ => rfl))) (Zg rfl (Zn (Zt (Ze (ret1 (cs' := []) (.inl rfl) Zu rfl rfl ?_)))))
  exact ⟨rfl, rfl⟩
theorem frame_ok (n : Int) (w : World) : Ctr Tryz.prog 163 [.int .i64 n] w [] (fun v cs => v = .bool (decide (16 ≤ n) && decide (n < 256)) ∧ cs = []) := by
  refine fn_ctr Tryz.func163 rfl Tryz.ntmps163 rfl (Inv.start w) ?_
  refine Zs (Zr (Zg rfl (Zn (Zt (Zs (Zr (Zm rfl (Zy (y_geq (Zv rfl) (Zv rfl) rfl) (Zm rfl (Zyy rfl rfl (y_move (Zv rfl)) ?_))))))))))
  refine Zyy rfl rfl (y_lss (ev_g rfl) (Zv rfl) rfl) ?_
  refine Zy (y_and (Zv rfl) (pk_yes rfl (fun _ => rfl))) (Zg rfl (Zn (Zt (Ze (ret1 (cs' := []) (.inl rfl) Zu rfl rfl ?_)))))
  exact ⟨rfl, rfl⟩
theorem owner_ok (bp : Nat) (B ow pr : List Int) (hl : PoolLen B ow pr) (f : Nat) (o : Int) (h1 : 16 ≤ f) (h2 : f < 256) (h3 : ow[f]? = some o) (h4 : o ≠ -1) (w : World) (hp : (poolC bp B ow pr).ok w) :
    Ctr Tryz.prog 144 [.pointer (some ⟨bp, 0, none⟩), .int .i64 f] w [] (fun v cs => v = .tuple #[.int .i64 o, .bool true] ∧ cs = []) := by
  refine fn_ctr Tryz.func144 rfl Tryz.ntmps144 rfl (Inv.start w) ?_
  refine Zs (Zr (Zg rfl (Zg rfl (Zn (Zt (Zs (Zs (Zr (Zm rfl (wl_t (t_call rfl (fun _ _ => rfl) (fun w hi => frame_ok f w)) rfl ?_))))))))))
  rintro _ _ ⟨_, ⟨rfl, rfl⟩, rfl⟩
  rw [decide_eq_true (show (16 : Int) ≤ f by omega), decide_eq_true (show (f : Int) < 256 by omega)]
  refine Zy (y_not (Zv rfl) rfl) (Zm rfl (Zyn rfl rfl (y_move (Zv rfl)) ?_))
  refine Zyn rfl rfl (y_move (Zv rfl)) ?_
  refine Zyn rfl rfl (y_nil (ev_g rfl)) ?_
  refine Zyn rfl rfl (y_field 16384 rfl (ev_g rfl) Zf) ?_
  refine Zyn rfl rfl (y_indexA (j := f) (sz := 1) (r := 16384 + f) rfl (fun _ => rfl) (ev_g rfl) (ev_g rfl) (fun _ => by omega) (fun _ => by omega) (by omega)) ?_
  refine wl_yg (guard_no rfl rfl) (y_load (fun _ => rfl) (ev_g rfl)) (old_row hp (pool_ow hl h3)) rfl ?_
  refine Zyn rfl rfl (y_eql (ev_g rfl) (Zv rfl) rfl) ?_
  refine Zy (y_or (Zv rfl) (pk_no rfl (fun _ => rfl))) (Zn (Zt (wc_cond_f rfl ((show (_ || (o == -1)) = false from by rw [beq_eq_false_iff_ne.2 h4]; rfl)) ?_)))
  refine Zc (Zt (Zs (Zr (Zm rfl (Zm rfl (Zy (y_nil (Zv rfl)) (Zy (y_field 16384 rfl (Zv rfl) Zf) ?_)))))))
  refine Zy (y_indexA (j := f) (sz := 1) (r := 16384 + f) rfl (fun _ => rfl) (Zv rfl) (Zv rfl) (fun _ => by omega) (fun _ => by omega) (by omega)) ?_
  refine wl_y (y_load (fun _ => rfl) (Zv rfl)) (old_row hp (pool_ow hl h3)) rfl ?_
  refine Zg rfl (Zg rfl (Zn (Zt (Ze (ret2 (cs' := []) (.inl rfl) Zu rfl rfl rfl ?_)))))
  exact ⟨rfl, rfl⟩
theorem here_ok (bp : Nat) (B ow pr : List Int) (hl : PoolLen B ow pr) (f a : Nat) (o : Int) (h1 : 16 ≤ f) (h2 : f < 256) (h3 : ow[f]? = some o) (h4 : o ≠ -1) (h5 : a < 64) (w : World) (hp : (poolC bp B ow pr).ok w) :
    Ctr Tryz.prog 122 [.pointer (some ⟨bp, 0, none⟩), .int .i64 f, .int .i64 a] w [] (fun v cs => v = .bool true ∧ cs = []) := by
  refine fn_ctr Tryz.func122 rfl Tryz.ntmps122 rfl (Inv.start w) ?_
  refine Zs (Zr (Zg rfl (Zn (Zt (Zs (Zr (Zm rfl (Zm rfl (wl_t (t_call rfl (fun _ _ => rfl) (fun w hi => owner_ok bp B ow pr hl f o h1 h2 h3 h4 w (Chunk.old hp hi))) rfl ?_)))))))))
  rintro _ _ ⟨_, ⟨rfl, rfl⟩, rfl⟩
  refine Zm rfl (Zy (y_extractN (Zv rfl) (.zero _ _)) (Zy (y_extractN (Zv rfl) (.succ _ (.zero _ _))) (Zg rfl (Zg rfl (Zn (Zt (Zs (Zr (Zm rfl (Zm rfl (Zyy rfl rfl (y_move (Zv rfl)) ?_)))))))))))
  refine Zyy rfl rfl (y_geq (ev_g rfl) (Zv rfl) rfl) ?_
  refine Zy (y_and (Zv rfl) (pk_yes rfl (fun _ => rfl))) (Zm rfl (Zyy rfl rfl (y_move (Zv rfl)) ?_))
  refine Zyy rfl rfl (y_lss (ev_g rfl) (Zv rfl) rfl) ?_
  refine Zy (y_and (Zv rfl) (pk_yes rfl (fun _ => rfl))) (Zg rfl (Zn (Zt (Ze (ret1 (cs' := []) (.inl rfl) Zu rfl rfl ?_)))))
  rw [decide_eq_true (show (0 : Int) ≤ a by omega), decide_eq_true (show (a : Int) < 64 by omega)]
  exact ⟨rfl, rfl⟩
theorem pbyte_ok (bp : Nat) (B ow pr : List Int) (hl : PoolLen B ow pr) (f a : Nat) (o b : Int) (h1 : 16 ≤ f) (h2 : f < 256) (h3 : ow[f]? = some o) (h4 : o ≠ -1) (h5 : a < 64) (h6 : B[f * 64 + a]? = some b) (w : World) (hp : (poolC bp B ow pr).ok w) :
    Ctr Tryz.prog 95 [.pointer (some ⟨bp, 0, none⟩), .int .i64 f, .int .i64 a] w [] (fun v cs => v = .tuple #[.int .u8 b, .bool true] ∧ cs = []) := by
  refine fn_ctr Tryz.func95 rfl Tryz.ntmps95 rfl (Inv.start w) ?_
  refine Zs (Zr (Zg rfl (Zg rfl (Zn (Zt (Zs (Zs (Zr (Zm rfl (Zm rfl (Zm rfl (wl_t (t_call rfl (fun _ _ => rfl) (fun w hi => here_ok bp B ow pr hl f a o h1 h2 h3 h4 h5 w (Chunk.old hp hi))) rfl ?_))))))))))))
  rintro _ _ ⟨_, ⟨rfl, rfl⟩, rfl⟩
  refine Zy (y_not (Zv rfl) rfl) (Zn (Zt (wc_cond_f rfl (rfl) ?_)))
  refine Zc (Zt (Zs (Zr (Zm rfl (Zm rfl (Zm rfl (Zy (y_nil (Zv rfl)) (Zy (y_field 0 rfl (Zv rfl) Zf) ?_))))))))
  refine Zy (y_indexA (j := f) (sz := 64) (r := f * 64) rfl (fun _ => rfl) (Zv rfl) (Zv rfl) (fun _ => by omega) (fun _ => by omega) (by omega)) ?_
  refine Zy (y_indexA (j := a) (sz := 1) (r := f * 64 + a) rfl (fun _ => rfl) (Zv rfl) (Zv rfl) (fun _ => by omega) (fun _ => by omega) (by omega)) ?_
  refine wl_y (y_load (fun _ => rfl) (Zv rfl)) (old_row hp (pool_B h6)) rfl ?_
  refine Zg rfl (Zg rfl (Zn (Zt (Ze (ret2 (cs' := []) (.inl rfl) Zu rfl rfl rfl ?_)))))
  exact ⟨rfl, rfl⟩
theorem pput_ok (bp : Nat) (B ow pr : List Int) (hl : PoolLen B ow pr) (f a : Nat) (o b : Int) (h1 : 16 ≤ f) (h2 : f < 256) (h3 : ow[f]? = some o) (h4 : o ≠ -1) (h5 : a < 64) (w : World) (hi : Inv w (blocks [poolC bp B ow pr]) [poolC bp B ow pr] w) :
    Ctr Tryz.prog 131 [.pointer (some ⟨bp, 0, none⟩), .int .i64 f, .int .i64 a, .int .u8 b] w [poolC bp B ow pr] (fun v cs => v = .bool true ∧ cs = [poolC bp (B.set (f * 64 + a) b) ow pr]) := by
  have hb := hl.b
  refine fn_ctr Tryz.func131 rfl Tryz.ntmps131 rfl hi ?_
  refine Zs (Zr (Zg rfl (Zn (Zt (Zs (Zs (Zr (Zm rfl (Zm rfl (Zm rfl (wl_t (t_call rfl (fun _ _ => rfl) (fun w hi => here_ok bp B ow pr hl f a o h1 h2 h3 h4 h5 w (hi.get Zh))) rfl ?_)))))))))))
  rintro _ _ ⟨_, ⟨rfl, rfl⟩, rfl⟩
  refine Zy (y_not (Zv rfl) rfl) (Zn (Zt (wc_cond_f rfl (rfl) ?_)))
  refine Zc (Zt (Zs (Zr (Zm rfl (Zm rfl (Zm rfl (Zm rfl (Zy (y_nil (Zv rfl)) (Zy (y_field 0 rfl (Zv rfl) Zf) ?_)))))))))
  refine Zy (y_indexA (j := f) (sz := 64) (r := f * 64) rfl (fun _ => rfl) (Zv rfl) (Zv rfl) (fun _ => by omega) (fun _ => by omega) (by omega)) ?_
  refine Zy (y_indexA (j := a) (sz := 1) (r := f * 64 + a) rfl (fun _ => rfl) (Zv rfl) (Zv rfl) (fun _ => by omega) (fun _ => by omega) (by omega)) ?_
  refine wl_t0 (t_storeR (fun _ => rfl) rfl rfl rfl Za (by rw [poolCells_len hl]; omega)) ?_
  rintro _ _ ⟨rfl, rfl⟩
  rw [pool_setB (by omega)]
  refine Zn (Zt (Zs (Zr (Zg rfl (Zn (Zt (Ze (ret1 (cs' := [row _ _ _]) (.inl rfl) Zu rfl rfl ?_))))))))
  exact ⟨rfl, rfl⟩
theorem held_ok (bp : Nat) (B ow pr : List Int) (hl : PoolLen B ow pr) (o : Nat) (ho : o < 4) (w : World) (hp : (poolC bp B ow pr).ok w) :
    Ctr Tryz.prog 172 [.pointer (some ⟨bp, 0, none⟩), .int .i64 o] w [] (fun v cs => ∃ A c, v = .slice A (heldTo ow o 256).length c ∧ cs = [sl .i64 3 A (heldTo ow o 256).length c (heldTo ow o 256)]) := by
  refine fn_ctr Tryz.func172 rfl Tryz.ntmps172 rfl (Inv.start w) ?_
  refine Zs (Zr (Zg rfl (Zn (Zt (Zs (Zr (Zg rfl (Zn (Zt (Zs (Zs (Zr (Zm rfl (wl_t (t_call rfl (fun _ _ => rfl) (fun w hi => fis_ok o w)) rfl ?_))))))))))))))
  rintro _ _ ⟨_, ⟨rfl, rfl⟩, rfl⟩
  rw [decide_eq_true (show (0 : Int) ≤ o by omega), decide_eq_true (show (o : Int) < 4 by omega)]
  refine Zy (y_not (Zv rfl) rfl) (Zn (Zt (wc_cond_f rfl (rfl) ?_)))
  refine Zc (Zt (Zs (Zs (Zr (wl_nilc 3 1 ?_)))))
  refine Zm rfl (Zn (Zt (Zx ?_)))
  refine wc_loop (fun s : Nat × Option Addr × Nat => [(0, .pointer (some ⟨bp, 0, none⟩)), (1, .int .i64 o), (5, .slice s.2.1 (heldTo ow o s.1).length s.2.2), (11, .int .i64 s.1)]) (fun s => [sl .i64 3 s.2.1 (heldTo ow o s.1).length s.2.2 (heldTo ow o s.1)]) (fun s => s.1 ≤ 256) (fun s => 256 - s.1) ((0, none, 0)) ?_ ?_ ?_ ?_
  · exact Nat.zero_le _
  · ((repeat' (refine Wk.cons ?_ ?_)) <;> first | exact Wk.nil | exact rfl | exact trivial | exact wk_num rfl (by omega) | exact wk_num rfl (by simp))
  · ((repeat (first | exact List.Sublist.slnil | refine List.Sublist.cons_cons _ ?_ | refine List.Sublist.cons _ ?_)))
  rintro ⟨k, A1, c1⟩ hk
  simp only at hk
  dsimp only
  refine Zs (Zr (Zy (y_lss (Zv rfl) (Zv rfl) rfl) (Zn (Zt (Zs ?_)))))
  refine wc_cond _ rfl (fun hc5 => ?_) (fun hc5 => ?_)
  · simp only [decide_eq_true_eq] at hc5
    have hkl : k < ow.length := by (rw [hl.ow]; omega)
    have hok : ow[k]? = some (ow[k]'hkl) := List.getElem?_eq_getElem hkl
    have hle := heldTo_le ow o k
    refine Zc (Zt (Zs (Zx (Zs (Zr (Zm rfl (Zg rfl (Zn (Zt (Zs (Zr (Zm rfl (Zm rfl (Zy (y_nil (Zv rfl)) (Zy (y_field 16384 rfl (Zv rfl) Zf) ?_)))))))))))))))
    refine Zy (y_indexA (j := k) (sz := 1) (r := 16384 + k) rfl (fun _ => rfl) (Zv rfl) (Zv rfl) (fun _ => by omega) (fun _ => by omega) (by omega)) ?_
    refine wl_y (y_load (fun _ => rfl) (Zv rfl)) (old_row hp (pool_ow hl hok)) rfl ?_
    refine Zm rfl (Zy (y_eql (Zv rfl) (Zv rfl) rfl) (Zn (Zt ?_)))
    refine wc_cond _ rfl (fun hc7 => ?_) (fun hc7 => ?_)
    · have he : heldTo ow o (k + 1) = heldTo ow o k ++ [(k : Int)] := by (rw [heldTo_succ, hok]; have h2 : ow[k]'hkl = (o : Int) := (by simpa using hc7); rw [h2]; simp)
      refine Zr (Zm rfl (Zm rfl (wl_t (t_buildSl1 rfl rfl (fun _ => rfl) (fun _ => rfl) rfl rfl) rfl ?_)))
      rintro _ _ ⟨b24, rfl, rfl⟩
      refine wl_t (t_append (e := 3) (sz := 1) (bytes := 8) rfl rfl Za rfl rfl (fun w hi => hi.rd Zh) (allT rfl) (by simp only [maxLen]; omega) (by omega)) rfl ?_
      rintro _ _ ⟨A2, c2, rfl, rfl⟩
      rw [show (heldTo ow o k).length + 1 = (heldTo ow o (k + 1)).length by (rw [he]; simp), show ints .i64 (heldTo ow o k) ++ [Value.int .i64 (k : Int)] = ints .i64 (heldTo ow o (k + 1)) by (rw [he]; exact ints_append _ [_])]
      refine Zg rfl (Zn (Zo (Zt (Zr (Zy (y_add (Zv rfl) (Zv rfl) Zl) ?_)))))
      refine Zm rfl (Zn ?_)
      refine q_mid ((k + 1, A2, c2)) ?_ ?_ ?_
      · exact ⟨by show k + 1 ≤ 256; omega, by show 256 - (k + 1) < 256 - k; omega⟩
      · ((repeat' (refine Wk.cons ?_ ?_)) <;> first | exact Wk.nil | exact rfl | exact trivial | exact wk_num rfl (by omega) | exact wk_num rfl (by simp))
      ((repeat (first | exact List.Sublist.slnil | refine List.Sublist.cons_cons _ ?_ | refine List.Sublist.cons _ ?_)))
    have he : heldTo ow o (k + 1) = heldTo ow o k := by (rw [heldTo_succ, hok, show (some (ow[k]'hkl) == some (o : Int)) = false from hc7]; simp)
    rw [← he]
    refine Zc (Zo (Zt (Zr (Zy (y_add (Zv rfl) (Zv rfl) Zl) ?_))))
    refine Zm rfl (Zn ?_)
    refine q_mid ((k + 1, A1, c1)) ?_ ?_ ?_
    · exact ⟨by show k + 1 ≤ 256; omega, by show 256 - (k + 1) < 256 - k; omega⟩
    · ((repeat' (refine Wk.cons ?_ ?_)) <;> first | exact Wk.nil | exact rfl | exact trivial | exact wk_num rfl (by omega) | exact wk_num rfl (by simp))
    ((repeat (first | exact List.Sublist.slnil | refine List.Sublist.cons_cons _ ?_ | refine List.Sublist.cons _ ?_)))
  simp only [decide_eq_false_iff_not] at hc5
  obtain rfl : k = 256 := by omega
  refine wc_exit ?_
  refine q_then_exit ?_
  refine q_then_exit ?_
  refine q_block_same rfl ?_
  refine Zt (Zs (Zr (Zm rfl (Zg rfl (Zn (Zt (Ze (ret1 (cs' := [slv _ _ _ _ _ _]) (.inl rfl) Zu rfl rfl ?_))))))))
  exact ⟨_, _, rfl, rfl⟩
/-- A first frame that nobody holds is given: its bytes are 0. -/
theorem take_ok (bp : Nat) (B ow pr : List Int) (hl : PoolLen B ow pr) (o : Nat) (ho : o < 4) (n : Int) (hn : pr[o]? = some n) (hlt : ((heldTo ow o 256).length : Int) < n) (f0 : Nat) (h16 : 16 ≤ f0) (h256 : f0 < 256) (hf0 : ow[f0]? = some (-1)) (w : World) (hi : Inv w (blocks [poolC bp B ow pr]) [poolC bp B ow pr] w) :
    Ctr Tryz.prog 156 [.pointer (some ⟨bp, 0, none⟩), .int .i64 o] w [poolC bp B ow pr] (fun v cs => ∃ f : Nat, 16 ≤ f ∧ f < 256 ∧ ow[f]? = some (-1) ∧ v = .tuple #[.int .i64 f, .int .i64 0] ∧ cs = [poolC bp (zeroFrame B f) (ow.set f o) pr]) := by
  have hb := hl.b
  have how := hl.ow
  refine fn_ctr Tryz.func156 rfl Tryz.ntmps156 rfl hi ?_
  refine Zs (Zr (Zg rfl (Zg rfl (Zn (Zt (Zs (Zx (Zs (Zr (Zm rfl (wl_t (t_call rfl (fun _ _ => rfl) (fun w hi => fis_ok o w)) rfl ?_)))))))))))
  rintro _ _ ⟨_, ⟨rfl, rfl⟩, rfl⟩
  rw [decide_eq_true (show (0 : Int) ≤ o by omega), decide_eq_true (show (o : Int) < 4 by omega)]
  refine Zy (y_not (Zv rfl) rfl) (Zg rfl (Zn (Zt (wc_cond_f rfl (rfl) ?_))))
  refine Zs (wc_draw ⟨fun j => List.elem j [], []⟩ Zk ?_)
  refine wa_yn 0 rfl Zk Zk Zk (y_move (Zv rfl)) rfl ?_
  refine wa_yn 1 rfl Zk Zk Zk (y_move (Zv rfl)) rfl ?_
  refine wa_yn 4 rfl Zk Zk Zk (y_move (Zv rfl)) rfl ?_
  refine wa_yn 5 rfl Zk Zk Zk (y_move (Zv rfl)) rfl ?_
  refine wa_yn 6 rfl Zk Zk Zk (y_nil (Zv rfl)) rfl ?_
  refine wa_yn 7 rfl Zk Zk Zk (y_field 16640 rfl (Zv rfl) Zf) rfl ?_
  refine wa_yn 8 rfl Zk Zk Zk (y_indexA (j := o) (sz := 1) (r := 16640 + o) rfl (fun _ => rfl) (Zv rfl) (Zv rfl) (fun _ => by omega) (fun _ => by omega) (by omega)) rfl ?_
  refine wa_ln 9 rfl Zk Zk Zk Zk (y_load (fun _ => rfl) (Zv rfl)) (row_cell Zh (pool_pr hl hn)) rfl ?_
  refine wa_1 2 Zk ?_
  refine wi_t rfl rfl (t_call rfl (fun _ _ => rfl) (fun w hi => held_ok bp B ow pr hl o ho w (hi.get Zh))) (fun _ _ _ _ _ _ _ h => by cases h) rfl ?_
  rintro _ _ ⟨_, ⟨A1, c1, rfl, rfl⟩, rfl⟩
  refine wa_yn 3 rfl Zk Zk Zk (y_len ⟨_, rfl⟩ (Zv rfl)) rfl ?_
  refine wa_yn 10 rfl Zk Zk Zk (y_geq (Zv rfl) (Zv rfl) rfl) rfl ?_
  refine wa_yn 11 rfl Zk Zk Zk (y_assign (Zv rfl)) rfl ?_
  refine wa_done Zk ?_
  refine Zt (wc_cond_f rfl ((decide_eq_false (by omega))) ?_)
  refine Zc (Zo (Zt (Zs (Zs (Zr (Zg rfl (Zn (Zt (Zx ?_)))))))))
  refine wc_loop (fun k : Nat => [(0, .pointer (some ⟨bp, 0, none⟩)), (1, .int .i64 o), (6, .int .i64 (k : Int))]) (fun _ => [poolC bp B ow pr]) (fun k => 16 ≤ k ∧ k ≤ f0) (fun k => f0 - k) (16) ?_ ?_ ?_ ?_
  · exact ⟨by omega, h16⟩
  · ((repeat' (refine Wk.cons ?_ ?_)) <;> first | exact Wk.nil | exact rfl | exact trivial | exact wk_num rfl (by omega) | exact wk_num rfl (by simp))
  · ((repeat (first | exact List.Sublist.slnil | refine List.Sublist.cons_cons _ ?_ | refine List.Sublist.cons _ ?_)))
  rintro k ⟨hk1, hk2⟩
  refine Zs (Zs (Zr (Zm rfl (Zy (y_lss (Zv rfl) (Zv rfl) rfl) (Zn (Zt ?_))))))
  refine wc_cond _ rfl (fun hc6 => ?_) (fun hc6 => ?_)
  · have hkl : k < ow.length := by omega
    have hok : ow[k]? = some (ow[k]'hkl) := List.getElem?_eq_getElem hkl
    refine Zc (Zt (Zs (Zx (Zs (Zr (Zm rfl (Zm rfl (Zy (y_nil (Zv rfl)) (Zy (y_field 16384 rfl (Zv rfl) Zf) ?_)))))))))
    refine Zy (y_indexA (j := k) (sz := 1) (r := 16384 + k) rfl (fun _ => rfl) (Zv rfl) (Zv rfl) (fun _ => by omega) (fun _ => by omega) (by omega)) ?_
    refine wl_y (y_load (fun _ => rfl) (Zv rfl)) (row_cell Zh (pool_ow hl hok)) rfl ?_
    refine Zy (y_eql (Zv rfl) (Zv rfl) rfl) (Zn (Zt ?_))
    refine wc_cond _ rfl (fun hc8 => ?_) (fun hc8 => ?_)
    · have h2 : ow[k]'hkl = -1 := (by simpa using hc8)
      rw [h2] at hok
      refine Zs (Zr (Zm rfl (Zm rfl (Zm rfl (Zy (y_nil (Zv rfl)) (Zy (y_field 16384 rfl (Zv rfl) Zf) ?_))))))
      refine Zy (y_indexA (j := k) (sz := 1) (r := 16384 + k) rfl (fun _ => rfl) (Zv rfl) (Zv rfl) (fun _ => by omega) (fun _ => by omega) (by omega)) ?_
      refine wl_t0 (t_storeR (fun _ => rfl) rfl rfl rfl Za (by rw [poolCells_len hl]; omega)) ?_
      rintro _ _ ⟨rfl, rfl⟩
      rw [pool_setow hl (show k < 256 by omega)]
      have hl' : PoolLen B (ow.set k o) pr := ⟨hl.b, by rw [List.length_set]; exact hl.ow, hl.pr⟩
      refine Zn (Zt (Zs (Zr (Zm rfl (Zm rfl (Zy (y_build00 (vs := List.replicate 64 (Value.int .u8 0)) Zk (.inr ⟨_, _, _, rfl, fun _ => rfl⟩)) ?_))))))
      refine Zy (y_nil (Zv rfl)) (Zy (y_field 0 rfl (Zv rfl) Zf) ?_)
      refine Zy (y_indexA (j := k) (sz := 64) (r := k * 64) rfl (fun _ => rfl) (Zv rfl) (Zv rfl) (fun _ => by omega) (fun _ => by omega) (by omega)) ?_
      refine wl_t0 (t_storeRN (n := 64) (fun _ => rfl) rfl rfl (fun u hu => by rw [List.eq_of_mem_replicate hu]; rfl) Za (List.length_replicate) (by rw [poolCells_len hl', List.length_replicate]; omega)) ?_
      rintro _ _ ⟨rfl, rfl⟩
      rw [List.length_replicate, pool_zero hl' (show k < 256 by omega)]
      refine Zn (Zt (Zs (Zr (Zm rfl (Zg rfl (Zg rfl (Zn (Zt (Ze (Zq (Zw (Zw (Zq (Zw (ret2 (cs' := [row _ _ _]) (.inl rfl) Zu rfl rfl rfl ?_)))))))))))))))
      exact ⟨k, hk1, by omega, hok, rfl, rfl⟩
    have h2 : ow[k]'hkl ≠ -1 := (by simpa using hc8)
    have hne : k ≠ f0 := by (rintro rfl; rw [hok] at hf0; exact h2 (Option.some.inj hf0))
    refine Zc (Zo (Zt (Zr (Zm rfl (Zy (y_add (Zv rfl) (Zv rfl) Zl) ?_)))))
    refine Zg rfl (Zn ?_)
    refine q_mid (k + 1) ?_ ?_ ?_
    · exact ⟨⟨by omega, by omega⟩, by omega⟩
    · ((repeat' (refine Wk.cons ?_ ?_)) <;> first | exact Wk.nil | exact rfl | exact trivial | exact wk_num rfl (by omega) | exact wk_num rfl (by simp))
    ((repeat (first | exact List.Sublist.slnil | refine List.Sublist.cons_cons _ ?_ | refine List.Sublist.cons _ ?_)))
  exfalso; simp only [decide_eq_false_iff_not] at hc6; omega
end Go.Proofs.YtobjiljkfmcalaaGreat
