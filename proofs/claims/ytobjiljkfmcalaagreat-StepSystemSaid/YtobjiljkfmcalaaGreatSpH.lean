/- A new memory; the translation buffer; the walk's small functions. -/
import Derived.Test.YtobjiljkfmcalaaGreatSpG
import Derived.Test.YtobjiljkfmcalaaGreatInkS
set_option linter.unusedSimpArgs false
set_option linter.unusedVariables false
set_option maxRecDepth 100000
namespace Go.Proofs.YtobjiljkfmcalaaGreat
open Go.RowKit Go.Ink

abbrev tlbC (bb : Nat) (T : List TE) : Chunk := row bb (tlbCells T) 169
theorem place_ok (v : Nat) (w : World) : Ctr Tryz.prog 143 [.int .u32 v] w [] (fun x cs => x = .int .u32 (v % 16 : Nat) ∧ cs = []) := by
  refine fn_ctr Tryz.func143 rfl Tryz.ntmps143 rfl (Inv.start w) ?_
  refine Zs (Zr (Zg rfl (Zn (Zt (Zs (Zr (Zm rfl (Zy (y_rem (Zv rfl) (Zv rfl) (by omega) (show _ = ((v % 16 : Nat) : Int) from by rw [Int.tmod_eq_emod_of_nonneg (by omega)]; omega)) ?_))))))))
  refine Zg rfl (Zn (Zt (Ze (ret1 (cs' := []) (.inl rfl) Zu rfl rfl ?_))))
  exact ⟨rfl, rfl⟩
theorem tasked_ok (kind : Int) (super : Bool) (w : World) : Ctr Tryz.prog 179 [.int .i64 kind, .bool super] w [] (fun x cs => x = .tuple #[.int .u32 (asked kind super).1, .bool (asked kind super).2] ∧ cs = []) := by
  refine fn_ctr Tryz.func179 rfl Tryz.ntmps179 rfl (Inv.start w) ?_
  refine Zs (Zr (Zg rfl (Zg rfl (Zn (Zt (Zs (Zr (Zg rfl (Zn (Zt (Zs (Zs (Zr (Zm rfl (Zn (Zt (Zx (Zs (Zr (Zy (y_eql (Zv rfl) (Zv rfl) rfl) (Zg rfl (Zn (Zt ?_)))))))))))))))))))))))
  refine wc_cond _ rfl (fun hc4 => ?_) (fun hc4 => ?_)
  · refine Zr (Zg rfl (Zn (Zo (Zt (Zs (Zs (Zr (Zm rfl (Zy (y_not (Zv rfl) rfl) (Zn (Zt ?_)))))))))))
    refine wc_cond _ rfl (fun hc10 => ?_) (fun hc10 => ?_)
    · have hs : super = false := by simpa using hc10
      refine Zr (Zm rfl (Zy (y_or_ (Zv rfl) (Zv rfl) rfl) ?_))
      refine Zg rfl (Zn (Zt (Zs (Zr (Zm rfl (Zg rfl (Zg rfl (Zn (Zt (Ze (ret2 (cs' := []) (.inl rfl) Zu rfl rfl rfl ?_)))))))))))
      refine ⟨?_, rfl⟩
      simp only [asked, orUser, *, cond_true, cond_false]
    have hs : super = true := by simpa using hc10
    refine Zc (Zt (Zs (Zr (Zm rfl (Zg rfl (Zg rfl (Zn (Zt (Ze (ret2 (cs' := []) (.inl rfl) Zu rfl rfl rfl ?_))))))))))
    refine ⟨?_, rfl⟩
    simp only [asked, orUser, *, cond_true, cond_false]
  refine Zs (Zr (Zy (y_eql (Zv rfl) (Zv rfl) rfl) (Zg rfl (Zn (Zt ?_)))))
  refine wc_cond _ rfl (fun hc6 => ?_) (fun hc6 => ?_)
  · refine Zr (Zg rfl (Zn (Zo (Zt (Zs (Zs (Zr (Zm rfl (Zy (y_not (Zv rfl) rfl) (Zn (Zt ?_)))))))))))
    refine wc_cond _ rfl (fun hc10 => ?_) (fun hc10 => ?_)
    · have hs : super = false := by simpa using hc10
      refine Zr (Zm rfl (Zy (y_or_ (Zv rfl) (Zv rfl) rfl) ?_))
      refine Zg rfl (Zn (Zt (Zs (Zr (Zm rfl (Zg rfl (Zg rfl (Zn (Zt (Ze (ret2 (cs' := []) (.inl rfl) Zu rfl rfl rfl ?_)))))))))))
      refine ⟨?_, rfl⟩
      simp only [asked, orUser, *, cond_true, cond_false]
    have hs : super = true := by simpa using hc10
    refine Zc (Zt (Zs (Zr (Zm rfl (Zg rfl (Zg rfl (Zn (Zt (Ze (ret2 (cs' := []) (.inl rfl) Zu rfl rfl rfl ?_))))))))))
    refine ⟨?_, rfl⟩
    simp only [asked, orUser, *, cond_true, cond_false]
  refine Zs (Zr (Zy (y_eql (Zv rfl) (Zv rfl) rfl) (Zg rfl (Zn (Zt ?_)))))
  refine wc_cond _ rfl (fun hc8 => ?_) (fun hc8 => ?_)
  · refine Zr (Zg rfl (Zn (Zo (Zt (Zs (Zs (Zr (Zm rfl (Zy (y_not (Zv rfl) rfl) (Zn (Zt ?_)))))))))))
    refine wc_cond _ rfl (fun hc10 => ?_) (fun hc10 => ?_)
    · have hs : super = false := by simpa using hc10
      refine Zr (Zm rfl (Zy (y_or_ (Zv rfl) (Zv rfl) rfl) ?_))
      refine Zg rfl (Zn (Zt (Zs (Zr (Zm rfl (Zg rfl (Zg rfl (Zn (Zt (Ze (ret2 (cs' := []) (.inl rfl) Zu rfl rfl rfl ?_)))))))))))
      refine ⟨?_, rfl⟩
      simp only [asked, orUser, *, cond_true, cond_false]
    have hs : super = true := by simpa using hc10
    refine Zc (Zt (Zs (Zr (Zm rfl (Zg rfl (Zg rfl (Zn (Zt (Ze (ret2 (cs' := []) (.inl rfl) Zu rfl rfl rfl ?_))))))))))
    refine ⟨?_, rfl⟩
    simp only [asked, orUser, *, cond_true, cond_false]
  refine Zs (Zr (Zg rfl (Zg rfl (Zn (Zt (Ze (Zq (Zw (ret2 (cs' := []) (.inl rfl) Zu rfl rfl rfl ?_)))))))))
  refine ⟨?_, rfl⟩
  simp only [asked, orUser, *, cond_true, cond_false]
theorem tlbnew_ok (w : World) : Ctr Tryz.prog 71 [] w [] (fun x cs => ∃ bb, x = .pointer (some ⟨bb, 0, none⟩) ∧ cs = [tlbC bb tflush]) := by
  refine fn_ctr Tryz.func71 rfl Tryz.ntmps71 rfl (Inv.start w) ?_
  refine Zs (Zr (Zg rfl (Zn (Zt (Zs (Zr (Zy (y_build00 (vs := tlbCells tflush) Zk (.inl ⟨_, rfl, rfl⟩)) ?_)))))))
  refine wl_t (t_box rfl rfl) rfl ?_
  rintro _ _ ⟨b2, rfl, rfl⟩
  refine Zg rfl (Zn (Zt (Ze (ret1 (cs' := [row _ _ _]) (.inl rfl) Zu rfl rfl ?_))))
  exact ⟨_, rfl, rfl⟩
theorem tfind_ok (bb : Nat) (T : List TE) (hT : T.length = 16) (va : Nat) (hva : va ≤ 4294967295) (kind : Int) (super : Bool) (w : World) (h : (tlbC bb T).ok w) : Ctr Tryz.prog 173 [.pointer (some ⟨bb, 0, none⟩), .int .u32 va, .int .i64 kind, .bool super] w [] (fun x cs => x = .tuple #[.int .u32 (tfind T va kind super).1, .bool (tfind T va kind super).2] ∧ cs = []) := by
  have hlt : va / 64 % 16 < T.length := by omega
  have he : T[va / 64 % 16]? = some (teAt T va) := by simp [teAt, hlt]
  obtain ⟨e, hee⟩ : ∃ e, teAt T va = e := ⟨_, rfl⟩
  obtain ⟨a, ha⟩ : ∃ a, asked kind super = a := ⟨_, rfl⟩
  have hA := tasked_ok kind super
  unfold tfind
  rw [hee] at he ⊢
  rw [ha] at hA ⊢
  refine fn_ctr Tryz.func173 rfl Tryz.ntmps173 rfl (Inv.start w) ?_
  refine Zs (Zr (Zg rfl (Zg rfl (Zn (Zt (Zs (Zr (Zm rfl (Zy (y_quo (Zv rfl) (Zv rfl) (by omega) (show _ = ((va / 64 : Nat) : Int) from by rw [Int.tdiv_eq_ediv_of_nonneg (by omega), u32_wrap_id _ (by omega) (by omega)]; omega)) ?_)))))))))
  refine Zg rfl (Zn (Zt (Zs (wc_draw ⟨fun j => List.elem j [8], []⟩ Zk ?_))))
  refine wa_yn 0 rfl Zk Zk Zk (y_move (Zv rfl)) rfl ?_
  refine wa_yn 1 rfl Zk Zk Zk (y_move (Zv rfl)) rfl ?_
  refine wa_yn 3 rfl Zk Zk Zk (y_nil (Zv rfl)) rfl ?_
  refine wa_yn 4 rfl Zk Zk Zk (y_field 0 rfl (Zv rfl) Zf) rfl ?_
  refine wa_2 2 7 Zk ?_ ?_
  · refine wi_t rfl rfl (t_call rfl (fun _ _ => rfl) (fun w hi => place_ok (va / 64) w)) (fun _ _ _ _ _ _ _ h => by cases h) rfl ?_
    rintro _ _ ⟨_, ⟨rfl, rfl⟩, rfl⟩
    refine wa_yn 5 rfl Zk Zk Zk (y_indexA (j := (va / 64 % 16)) (sz := 4) (r := (va / 64 % 16) * 4) rfl (fun _ => rfl) (Zv rfl) (Zv rfl) (fun _ => by omega) (fun _ => by omega) (by omega)) rfl ?_
    refine wa_ln 6 rfl Zk Zk Zk Zk (y_loadN (vs := e.cells) (fun _ => rfl) (fun _ => rfl) (Zv rfl)) (old_rows (o := (va / 64 % 16) * 4) h (tlbCells_get he)) rfl ?_
    refine wa_1 7 Zk ?_
    refine wi_t rfl rfl (t_alloc (fun _ => rfl) rfl) (fun _ _ _ _ _ _ _ h => by cases h) rfl ?_
    rintro _ _ ⟨b11, rfl, rfl⟩
    refine wa_1 8 Zk ?_
    refine wi_t0 rfl rfl (t_storeN (fun _ => rfl) rfl rfl (allT rfl) Za (by exact rfl)) (fun _ _ _ _ _ _ _ h => by cases h) ?_
    rintro _ _ ⟨rfl, rfl⟩
    refine wa_done Zk ?_
    refine Zt (Zs (Zr (Zm rfl (Zm rfl (wl_t (t_call rfl (fun _ _ => rfl) (fun w hi => hA w)) rfl ?_)))))
    rintro _ _ ⟨_, ⟨rfl, rfl⟩, rfl⟩
    refine Zm rfl (Zy (y_extractN (Zv rfl) (.zero _ _)) (Zy (y_extractN (Zv rfl) (.succ _ (.zero _ _))) (Zg rfl (Zg rfl (Zn (Zt (Zs (Zs (Zr (Zm rfl (Zy (y_not (Zv rfl) rfl) (Zm rfl (Zyn rfl rfl (y_field 0 rfl (Zv rfl) Zf) ?_)))))))))))))
    refine wl_yg (guard_no rfl rfl) (y_load (fun _ => rfl) (ev_g rfl)) (row_cell Zh rfl) rfl ?_
    refine Zyn rfl rfl (y_not (ev_g rfl) rfl) ?_
    refine Zy (y_or (Zv rfl) (pk_no rfl (fun _ => rfl))) (Zm rfl (Zyn rfl rfl (y_field 1 rfl (Zv rfl) Zf) ?_))
    refine wl_yg (guard_no rfl rfl) (y_load (fun _ => rfl) (ev_g rfl)) (row_cell Zh rfl) rfl ?_
    refine Zyn rfl rfl (y_move (Zv rfl)) ?_
    refine Zyn rfl rfl (y_neq (ev_g rfl) (ev_g rfl) rfl) ?_
    refine Zy (y_or (Zv rfl) (pk_no rfl (fun _ => rfl))) (Zm rfl (Zyn rfl rfl (y_field 3 rfl (Zv rfl) Zf) ?_))
    refine wl_yg (guard_no rfl rfl) (y_load (fun _ => rfl) (ev_g rfl)) (row_cell Zh rfl) rfl ?_
    refine Zyn rfl rfl (y_move (Zv rfl)) ?_
    refine Zyn rfl rfl (y_and_ (ev_g rfl) (ev_g rfl) rfl) ?_
    refine Zyn rfl rfl (y_move (Zv rfl)) ?_
    refine Zyn rfl rfl (y_neq (ev_g rfl) (ev_g rfl) rfl) ?_
    refine Zy (y_or (Zv rfl) (pk_no rfl (fun _ => rfl))) (Zn (Zt ?_))
    refine wc_cond _ rfl (fun hc4 => ?_) (fun hc4 => ?_)
    · have hc : noEntry e va a = true := hc4
      refine Zs (Zr (Zg rfl (Zg rfl (Zn (Zt (Ze (Zw (ret2 (cs' := []) (.inl rfl) Zu rfl rfl rfl ?_))))))))
      rw [hc]
      exact ⟨rfl, rfl⟩
    have hc : noEntry e va a = false := hc4
    refine Zc (Zt (Zs (Zr (Zy (y_field 2 rfl (Zv rfl) Zf) ?_))))
    refine Zz rfl ?_
    refine Zy (y_mul (Zv rfl) (Zv rfl) rfl) ?_
    refine Zm rfl (Zy (y_rem (Zv rfl) (Zv rfl) (by omega) (show _ = ((va % 64 : Nat) : Int) from by rw [Int.tmod_eq_emod_of_nonneg (by omega)]; omega)) ?_)
    refine Zy (y_add (Zv rfl) (Zv rfl) rfl) ?_
    refine Zg rfl (Zg rfl (Zn (Zt (Ze (ret2 (cs' := []) (.inl rfl) Zu rfl rfl rfl ?_)))))
    rw [hc]
    exact ⟨rfl, rfl⟩
  refine wi_t rfl rfl (t_alloc (fun _ => rfl) rfl) (fun _ _ _ _ _ _ _ h => by cases h) rfl ?_
  rintro _ _ ⟨b11, rfl, rfl⟩
  refine wa_1 2 Zk ?_
  refine wi_t rfl rfl (t_call rfl (fun _ _ => rfl) (fun w hi => place_ok (va / 64) w)) (fun _ _ _ _ _ _ _ h => by cases h) rfl ?_
  rintro _ _ ⟨_, ⟨rfl, rfl⟩, rfl⟩
  refine wa_yn 5 rfl Zk Zk Zk (y_indexA (j := (va / 64 % 16)) (sz := 4) (r := (va / 64 % 16) * 4) rfl (fun _ => rfl) (Zv rfl) (Zv rfl) (fun _ => by omega) (fun _ => by omega) (by omega)) rfl ?_
  refine wa_ln 6 rfl Zk Zk Zk Zk (y_loadN (vs := e.cells) (fun _ => rfl) (fun _ => rfl) (Zv rfl)) (old_rows (o := (va / 64 % 16) * 4) h (tlbCells_get he)) rfl ?_
  refine wa_1 8 Zk ?_
  refine wi_t0 rfl rfl (t_storeN (fun _ => rfl) rfl rfl (allT rfl) Za (by exact rfl)) (fun _ _ _ _ _ _ _ h => by cases h) ?_
  rintro _ _ ⟨rfl, rfl⟩
  refine wa_done Zk ?_
  refine Zt (Zs (Zr (Zm rfl (Zm rfl (wl_t (t_call rfl (fun _ _ => rfl) (fun w hi => hA w)) rfl ?_)))))
  rintro _ _ ⟨_, ⟨rfl, rfl⟩, rfl⟩
  refine Zm rfl (Zy (y_extractN (Zv rfl) (.zero _ _)) (Zy (y_extractN (Zv rfl) (.succ _ (.zero _ _))) (Zg rfl (Zg rfl (Zn (Zt (Zs (Zs (Zr (Zm rfl (Zy (y_not (Zv rfl) rfl) (Zm rfl (Zyn rfl rfl (y_field 0 rfl (Zv rfl) Zf) ?_)))))))))))))
  refine wl_yg (guard_no rfl rfl) (y_load (fun _ => rfl) (ev_g rfl)) (row_cell Zh rfl) rfl ?_
  refine Zyn rfl rfl (y_not (ev_g rfl) rfl) ?_
  refine Zy (y_or (Zv rfl) (pk_no rfl (fun _ => rfl))) (Zm rfl (Zyn rfl rfl (y_field 1 rfl (Zv rfl) Zf) ?_))
  refine wl_yg (guard_no rfl rfl) (y_load (fun _ => rfl) (ev_g rfl)) (row_cell Zh rfl) rfl ?_
  refine Zyn rfl rfl (y_move (Zv rfl)) ?_
  refine Zyn rfl rfl (y_neq (ev_g rfl) (ev_g rfl) rfl) ?_
  refine Zy (y_or (Zv rfl) (pk_no rfl (fun _ => rfl))) (Zm rfl (Zyn rfl rfl (y_field 3 rfl (Zv rfl) Zf) ?_))
  refine wl_yg (guard_no rfl rfl) (y_load (fun _ => rfl) (ev_g rfl)) (row_cell Zh rfl) rfl ?_
  refine Zyn rfl rfl (y_move (Zv rfl)) ?_
  refine Zyn rfl rfl (y_and_ (ev_g rfl) (ev_g rfl) rfl) ?_
  refine Zyn rfl rfl (y_move (Zv rfl)) ?_
  refine Zyn rfl rfl (y_neq (ev_g rfl) (ev_g rfl) rfl) ?_
  refine Zy (y_or (Zv rfl) (pk_no rfl (fun _ => rfl))) (Zn (Zt ?_))
  refine wc_cond _ rfl (fun hc4 => ?_) (fun hc4 => ?_)
  · have hc : noEntry e va a = true := hc4
    refine Zs (Zr (Zg rfl (Zg rfl (Zn (Zt (Ze (Zw (ret2 (cs' := []) (.inl rfl) Zu rfl rfl rfl ?_))))))))
    rw [hc]
    exact ⟨rfl, rfl⟩
  have hc : noEntry e va a = false := hc4
  refine Zc (Zt (Zs (Zr (Zy (y_field 2 rfl (Zv rfl) Zf) ?_))))
  refine Zz rfl ?_
  refine Zy (y_mul (Zv rfl) (Zv rfl) rfl) ?_
  refine Zm rfl (Zy (y_rem (Zv rfl) (Zv rfl) (by omega) (show _ = ((va % 64 : Nat) : Int) from by rw [Int.tmod_eq_emod_of_nonneg (by omega)]; omega)) ?_)
  refine Zy (y_add (Zv rfl) (Zv rfl) rfl) ?_
  refine Zg rfl (Zg rfl (Zn (Zt (Ze (ret2 (cs' := []) (.inl rfl) Zu rfl rfl rfl ?_)))))
  rw [hc]
  exact ⟨rfl, rfl⟩
theorem tfill_ok (bb : Nat) (T : List TE) (hT : T.length = 16) (e : TE) (he : e.wf) (w : World) (hi : Inv w (blocks [tlbC bb T]) [tlbC bb T] w) : Ctr Tryz.prog 175 [.pointer (some ⟨bb, 0, none⟩), e.v] w [tlbC bb T] (fun x cs => x = .bool e.valid ∧ cs = [tlbC bb (tfill T e)]) := by
  obtain ⟨v0, v1⟩ := he.vpn
  obtain ⟨vp, hvp⟩ := Int.eq_ofNat_of_zero_le v0
  obtain ⟨ev, evpn, epfn, eb⟩ := e
  simp only at hvp v0 v1
  subst hvp
  refine fn_ctr Tryz.func175 rfl Tryz.ntmps175 rfl hi ?_
  refine Zs (Zr (wl_t (t_box rfl rfl) rfl ?_))
  rintro _ _ ⟨b3, rfl, rfl⟩
  refine Zg rfl (Zn (Zt (Zs (Zs (Zr (Zy (y_field 0 rfl (Zv rfl) Zf) ?_))))))
  refine Zz rfl ?_
  refine Zn (Zt ?_)
  refine wc_cond _ rfl (fun hc1 => ?_) (fun hc1 => ?_)
  · have hv : ev = true := hc1
    subst hv
    refine wc_draw ⟨fun j => List.elem j [8], []⟩ Zk ?_
    refine wa_yn 0 rfl Zk Zk Zk (y_move (Zv rfl)) rfl ?_
    refine wa_yn 1 rfl Zk Zk Zk (y_field 1 rfl (Zv rfl) Zf) rfl ?_
    refine wa_ln 2 rfl Zk Zk Zk Zk (y_load (fun _ => rfl) (Zv rfl)) (row_cell Zh rfl) rfl ?_
    refine wa_loadRow 4 rfl Zk Zk Zk Zk Zh (fun _ => rfl) (fun _ => rfl) (Zv rfl) rfl ?_
    refine wa_yn 5 rfl Zk Zk Zk (y_nil (Zv rfl)) rfl ?_
    refine wa_yn 6 rfl Zk Zk Zk (y_field 0 rfl (Zv rfl) Zf) rfl ?_
    refine wa_1 3 Zk ?_
    refine wi_t rfl rfl (t_call rfl (fun _ _ => rfl) (fun w hi => place_ok vp w)) (fun _ _ _ _ _ _ _ h => by cases h) rfl ?_
    rintro _ _ ⟨_, ⟨rfl, rfl⟩, rfl⟩
    refine wa_yn 7 rfl Zk Zk Zk (y_indexA (j := (vp % 16)) (sz := 4) (r := (vp % 16) * 4) rfl (fun _ => rfl) (Zv rfl) (Zv rfl) (fun _ => by omega) (fun _ => by omega) (by omega)) rfl ?_
    refine wa_1 8 Zk ?_
    refine wi_t0 rfl rfl (t_storeRN (n := 4) (vs := TE.cells ⟨true, (vp : Int), epfn, eb⟩) (fun _ => rfl) rfl rfl (allT rfl) Za rfl (by rw [tlbCells_len]; simp only [TE.cells, List.length_cons, List.length_nil]; omega)) (fun _ _ _ _ _ _ _ h => by cases h) ?_
    rintro _ _ ⟨rfl, rfl⟩
    rw [show (TE.cells ⟨true, (vp : Int), epfn, eb⟩).length = 4 from rfl, tlbCells_set (T := T) (i := vp % 16) ⟨true, (vp : Int), epfn, eb⟩ (by omega)]
    refine wa_done Zk ?_
    refine Zt (Zs (Zr (Zy (y_field 0 rfl (Zv rfl) Zf) ?_)))
    refine Zz rfl ?_
    refine Zg rfl (Zn (Zt (Ze (ret1 (cs' := [row _ _ _]) (.inl rfl) Zu rfl rfl ?_))))
    exact ⟨rfl, rfl⟩
  have hv : ev = false := hc1
  subst hv
  refine Zc (Zt (Zs (Zr (Zy (y_field 0 rfl (Zv rfl) Zf) ?_))))
  refine Zz rfl ?_
  refine Zg rfl (Zn (Zt (Ze (ret1 (cs' := [row _ _ _]) (.inl rfl) Zu rfl rfl ?_))))
  exact ⟨rfl, rfl⟩
theorem tdrop_ok (bb : Nat) (T : List TE) (hT : T.length = 16) (va : Nat) (hva : va ≤ 4294967295) (w : World) (hi : Inv w (blocks [tlbC bb T]) [tlbC bb T] w) : Ctr Tryz.prog 120 [.pointer (some ⟨bb, 0, none⟩), .int .u32 va] w [tlbC bb T] (fun x cs => x = .tuple #[] ∧ cs = [tlbC bb (tdrop T va)]) := by
  have hlt : va / 64 % 16 < T.length := by omega
  have he : T[va / 64 % 16]? = some (teAt T va) := by simp [teAt, hlt]
  have hcell : (tlbCells T)[(va / 64 % 16) * 4 + 1]? = some (.int .u32 (teAt T va).vpn) := by
    have h1 := tlbCells_get he
    have h2 : (((tlbCells T).drop ((va / 64 % 16) * 4)).take 4)[1]? = some (.int .u32 (teAt T va).vpn) := by rw [h1]; rfl
    rw [List.getElem?_take, if_pos (by omega), List.getElem?_drop] at h2
    exact h2
  unfold tdrop
  obtain ⟨e, hee⟩ : ∃ e, teAt T va = e := ⟨_, rfl⟩
  rw [hee] at hcell ⊢
  refine fn_ctr Tryz.func120 rfl Tryz.ntmps120 rfl hi ?_
  refine Zs (Zr (Zm rfl (Zy (y_quo (Zv rfl) (Zv rfl) (by omega) (show _ = ((va / 64 : Nat) : Int) from by rw [Int.tdiv_eq_ediv_of_nonneg (by omega), u32_wrap_id _ (by omega) (by omega)]; omega)) ?_)))
  refine Zg rfl (Zn (Zt (Zs (wc_draw ⟨fun j => List.elem j [], []⟩ Zk ?_))))
  refine wa_yn 0 rfl Zk Zk Zk (y_move (Zv rfl)) rfl ?_
  refine wa_yn 1 rfl Zk Zk Zk (y_move (Zv rfl)) rfl ?_
  refine wa_yn 3 rfl Zk Zk Zk (y_nil (Zv rfl)) rfl ?_
  refine wa_yn 4 rfl Zk Zk Zk (y_field 0 rfl (Zv rfl) Zf) rfl ?_
  refine wa_1 2 Zk ?_
  refine wi_t rfl rfl (t_call rfl (fun _ _ => rfl) (fun w hi => place_ok (va / 64) w)) (fun _ _ _ _ _ _ _ h => by cases h) rfl ?_
  rintro _ _ ⟨_, ⟨rfl, rfl⟩, rfl⟩
  refine wa_yn 5 rfl Zk Zk Zk (y_indexA (j := (va / 64 % 16)) (sz := 4) (r := (va / 64 % 16) * 4) rfl (fun _ => rfl) (Zv rfl) (Zv rfl) (fun _ => by omega) (fun _ => by omega) (by omega)) rfl ?_
  refine wa_yn 6 rfl Zk Zk Zk (y_assign (Zv rfl)) rfl ?_
  refine wa_done Zk ?_
  refine Zt (Zs (Zr (Zm rfl (Zy (y_nil (Zv rfl)) (Zy (y_field 1 rfl (Zv rfl) Zf) ?_)))))
  refine wl_y (y_load (fun _ => rfl) (Zv rfl)) (row_cell Zh hcell) rfl ?_
  refine Zm rfl (Zy (y_eql (Zv rfl) (Zv rfl) rfl) (Zn (Zt ?_)))
  refine wc_cond _ rfl (fun hc2 => ?_) (fun hc2 => ?_)
  · rw [hc2]
    refine Zr (Zm rfl (Zy (y_build rfl rfl (fun _ => rfl) rfl rfl rfl Zb) ?_))
    refine Zy (y_nil (Zv rfl)) (wl_t0 (t_storeRN (n := 4) (vs := TE.zero.cells) (fun _ => rfl) rfl rfl (allT rfl) Za rfl (by rw [tlbCells_len]; simp only [TE.cells, List.length_cons, List.length_nil]; omega)) ?_)
    rintro _ _ ⟨rfl, rfl⟩
    rw [show TE.zero.cells.length = 4 from rfl, tlbCells_set (T := T) TE.zero hlt]
    refine Zn (ret0 (cs' := [row _ _ _]) (.inr rfl) Zu rfl ?_)
    exact ⟨rfl, rfl⟩
  rw [hc2]
  refine Zc (ret0 (cs' := [row _ _ _]) (.inr rfl) Zu rfl ?_)
  exact ⟨rfl, rfl⟩
theorem tflush_ok (bb : Nat) (T : List TE) (hT : T.length = 16) (w : World) (hi : Inv w (blocks [tlbC bb T]) [tlbC bb T] w) : Ctr Tryz.prog 119 [.pointer (some ⟨bb, 0, none⟩)] w [tlbC bb T] (fun x cs => x = .tuple #[] ∧ cs = [tlbC bb tflush]) := by
  refine fn_ctr Tryz.func119 rfl Tryz.ntmps119 rfl hi ?_
  refine Zr (Zm rfl (Zy (y_build00 (vs := tlbCells tflush) Zk (.inr ⟨_, _, _, rfl, fun _ => rfl⟩)) ?_))
  refine Zy (y_nil (Zv rfl)) (Zy (y_field 0 rfl (Zv rfl) Zf) ?_)
  refine wl_t0 (t_storeRN (n := 64) (fun _ => rfl) rfl rfl (allT Zk) Za Zk (by rw [tlbCells_len, tlbCells_len, hT]; decide)) ?_
  rintro _ _ ⟨rfl, rfl⟩
  rw [show (tlbCells tflush).length = 64 by kernel_rfl, List.take_zero, List.nil_append, List.drop_eq_nil_of_le (by rw [tlbCells_len, hT]; decide), List.append_nil]
  refine Zn (ret0 (cs' := [row _ _ _]) (.inr rfl) Zu rfl ?_)
  exact ⟨rfl, rfl⟩
theorem tat_ok (bb : Nat) (T : List TE) (hT : T.length = 16) (i : Nat) (hi16 : i < 16) (w : World) (h : (tlbC bb T).ok w) : Ctr Tryz.prog 64 [.pointer (some ⟨bb, 0, none⟩), .int .i64 i] w [] (fun x cs => x = (T.getD i TE.zero).v ∧ cs = []) := by
  have he : T[i]? = some (T.getD i TE.zero) := by simp [show i < T.length by omega]
  obtain ⟨e, hee⟩ : ∃ e, T.getD i TE.zero = e := ⟨_, rfl⟩
  rw [hee] at he ⊢
  refine fn_ctr Tryz.func64 rfl Tryz.ntmps64 rfl (Inv.start w) ?_
  refine Zs (Zr (wl_t (t_alloc (fun _ => rfl) rfl) rfl ?_))
  rintro _ _ ⟨b4, rfl, rfl⟩
  refine Zn (Zt (Zs (Zs (Zr (Zm rfl (Zy (y_lss (Zv rfl) (Zv rfl) rfl) (Zm rfl (Zyn rfl rfl (y_move (Zv rfl)) ?_))))))))
  refine Zyn rfl rfl (y_geq (ev_g rfl) (Zv rfl) rfl) ?_
  refine Zy (y_or (Zv rfl) (pk_no rfl (fun _ => rfl))) (Zn (Zt (wc_cond_f rfl ((by rw [decide_eq_false (show ¬ (i : Int) < 0 by omega), decide_eq_false (show ¬ (16 : Int) ≤ i by omega)]; rfl)) ?_)))
  refine Zc (Zt (Zs (Zr (Zm rfl (Zm rfl (Zy (y_nil (Zv rfl)) (Zy (y_field 0 rfl (Zv rfl) Zf) ?_)))))))
  refine Zy (y_indexA (j := i) (sz := 4) (r := i * 4) rfl (fun _ => rfl) (Zv rfl) (Zv rfl) (fun _ => by omega) (fun _ => by omega) (by omega)) ?_
  refine wl_y (y_loadN (vs := e.cells) (fun _ => rfl) (fun _ => rfl) (Zv rfl)) (old_rows (o := i * 4) h (tlbCells_get he)) rfl ?_
  refine wl_t0 (t_storeN (fun _ => rfl) rfl rfl (allT rfl) Za (by exact rfl)) ?_
  rintro _ _ ⟨rfl, rfl⟩
  refine Zn (Zt (Ze (retC (cs' := []) (.inl rfl) Zu rfl rfl Zh (fun _ => rfl) (fun _ => rfl) ?_)))
  exact ⟨rfl, rfl⟩
theorem fault_ok (kind : Int) (w : World) : Ctr Tryz.prog 157 [.int .i64 kind] w [] (fun x cs => x = .int .i64 (fault kind) ∧ cs = []) := by
  refine fn_ctr Tryz.func157 rfl Tryz.ntmps157 rfl (Inv.start w) ?_
  refine Zs (Zr (Zg rfl (Zn (Zt (Zs (Zs (Zr (Zm rfl (Zn (Zt (Zx (Zs (Zr (Zy (y_eql (Zv rfl) (Zv rfl) rfl) (Zg rfl (Zn (Zt ?_)))))))))))))))))
  refine wc_cond _ rfl (fun hc2 => ?_) (fun hc2 => ?_)
  · refine Zs (Zr (Zg rfl (Zn (Zt (Ze (Zq (Zw (ret1 (cs' := []) (.inl rfl) Zu rfl rfl ?_))))))))
    refine ⟨?_, rfl⟩
    simp only [fault, *, cond_true, cond_false]
  refine Zs (Zr (Zy (y_eql (Zv rfl) (Zv rfl) rfl) (Zg rfl (Zn (Zt ?_)))))
  refine wc_cond _ rfl (fun hc4 => ?_) (fun hc4 => ?_)
  · refine Zs (Zr (Zg rfl (Zn (Zt (Ze (Zq (Zw (ret1 (cs' := []) (.inl rfl) Zu rfl rfl ?_))))))))
    refine ⟨?_, rfl⟩
    simp only [fault, *, cond_true, cond_false]
  refine Zs (Zr (Zy (y_eql (Zv rfl) (Zv rfl) rfl) (Zg rfl (Zn (Zt ?_)))))
  refine wc_cond _ rfl (fun hc6 => ?_) (fun hc6 => ?_)
  · refine Zs (Zr (Zg rfl (Zn (Zt (Ze (Zq (Zw (ret1 (cs' := []) (.inl rfl) Zu rfl rfl ?_))))))))
    refine ⟨?_, rfl⟩
    simp only [fault, *, cond_true, cond_false]
  refine Zc (Zo (Zt (Zs (Zr (Zg rfl (Zn (Zt (Ze (ret1 (cs' := []) (.inl rfl) Zu rfl rfl ?_)))))))))
  refine ⟨?_, rfl⟩
  simp only [fault, *, cond_true, cond_false]
theorem wbits_ok (kind : Int) (super : Bool) (w : World) : Ctr Tryz.prog 180 [.int .i64 kind, .bool super] w [] (fun x cs => x = .int .u32 (wbits kind super) ∧ cs = []) := by
  refine fn_ctr Tryz.func180 rfl Tryz.ntmps180 rfl (Inv.start w) ?_
  refine Zs (Zr (Zg rfl (Zn (Zt (Zs (Zr (Zg rfl (Zn (Zt (Zs (Zs (Zr (Zm rfl (Zn (Zt (Zx (Zs (Zr (Zy (y_eql (Zv rfl) (Zv rfl) rfl) (Zg rfl (Zn (Zt ?_))))))))))))))))))))))
  refine wc_cond _ rfl (fun hc3 => ?_) (fun hc3 => ?_)
  · refine Zr (Zm rfl (Zy (y_or_ (Zv rfl) (Zv rfl) rfl) ?_))
    refine Zg rfl (Zn (Zo (Zt (Zs (Zs (Zr (Zm rfl (Zy (y_not (Zv rfl) rfl) (Zn (Zt ?_))))))))))
    refine wc_cond _ rfl (fun hc9 => ?_) (fun hc9 => ?_)
    · have hs : super = false := by simpa using hc9
      refine Zr (Zm rfl (Zy (y_or_ (Zv rfl) (Zv rfl) rfl) ?_))
      refine Zg rfl (Zn (Zt (Zs (Zr (Zm rfl (Zg rfl (Zn (Zt (Ze (ret1 (cs' := []) (.inl rfl) Zu rfl rfl ?_))))))))))
      refine ⟨?_, rfl⟩
      simp only [wbits, orUser, *, cond_true, cond_false]
    have hs : super = true := by simpa using hc9
    refine Zc (Zt (Zs (Zr (Zm rfl (Zg rfl (Zn (Zt (Ze (ret1 (cs' := []) (.inl rfl) Zu rfl rfl ?_)))))))))
    refine ⟨?_, rfl⟩
    simp only [wbits, orUser, *, cond_true, cond_false]
  refine Zs (Zr (Zy (y_eql (Zv rfl) (Zv rfl) rfl) (Zg rfl (Zn (Zt ?_)))))
  refine wc_cond _ rfl (fun hc5 => ?_) (fun hc5 => ?_)
  · refine Zr (Zm rfl (Zy (y_or_ (Zv rfl) (Zv rfl) rfl) ?_))
    refine Zg rfl (Zn (Zo (Zt (Zs (Zs (Zr (Zm rfl (Zy (y_not (Zv rfl) rfl) (Zn (Zt ?_))))))))))
    refine wc_cond _ rfl (fun hc9 => ?_) (fun hc9 => ?_)
    · have hs : super = false := by simpa using hc9
      refine Zr (Zm rfl (Zy (y_or_ (Zv rfl) (Zv rfl) rfl) ?_))
      refine Zg rfl (Zn (Zt (Zs (Zr (Zm rfl (Zg rfl (Zn (Zt (Ze (ret1 (cs' := []) (.inl rfl) Zu rfl rfl ?_))))))))))
      refine ⟨?_, rfl⟩
      simp only [wbits, orUser, *, cond_true, cond_false]
    have hs : super = true := by simpa using hc9
    refine Zc (Zt (Zs (Zr (Zm rfl (Zg rfl (Zn (Zt (Ze (ret1 (cs' := []) (.inl rfl) Zu rfl rfl ?_)))))))))
    refine ⟨?_, rfl⟩
    simp only [wbits, orUser, *, cond_true, cond_false]
  refine Zs (Zr (Zy (y_eql (Zv rfl) (Zv rfl) rfl) (Zg rfl (Zn (Zt ?_)))))
  refine wc_cond _ rfl (fun hc7 => ?_) (fun hc7 => ?_)
  · refine Zr (Zm rfl (Zy (y_or_ (Zv rfl) (Zv rfl) rfl) ?_))
    refine Zg rfl (Zn (Zo (Zt (Zs (Zs (Zr (Zm rfl (Zy (y_not (Zv rfl) rfl) (Zn (Zt ?_))))))))))
    refine wc_cond _ rfl (fun hc9 => ?_) (fun hc9 => ?_)
    · have hs : super = false := by simpa using hc9
      refine Zr (Zm rfl (Zy (y_or_ (Zv rfl) (Zv rfl) rfl) ?_))
      refine Zg rfl (Zn (Zt (Zs (Zr (Zm rfl (Zg rfl (Zn (Zt (Ze (ret1 (cs' := []) (.inl rfl) Zu rfl rfl ?_))))))))))
      refine ⟨?_, rfl⟩
      simp only [wbits, orUser, *, cond_true, cond_false]
    have hs : super = true := by simpa using hc9
    refine Zc (Zt (Zs (Zr (Zm rfl (Zg rfl (Zn (Zt (Ze (ret1 (cs' := []) (.inl rfl) Zu rfl rfl ?_)))))))))
    refine ⟨?_, rfl⟩
    simp only [wbits, orUser, *, cond_true, cond_false]
  refine Zc (Zo (Zt (Zs (Zs (Zr (Zm rfl (Zy (y_not (Zv rfl) rfl) (Zn (Zt ?_)))))))))
  refine wc_cond _ rfl (fun hc9 => ?_) (fun hc9 => ?_)
  · have hs : super = false := by simpa using hc9
    refine Zr (Zm rfl (Zy (y_or_ (Zv rfl) (Zv rfl) rfl) ?_))
    refine Zg rfl (Zn (Zt (Zs (Zr (Zm rfl (Zg rfl (Zn (Zt (Ze (ret1 (cs' := []) (.inl rfl) Zu rfl rfl ?_))))))))))
    refine ⟨?_, rfl⟩
    simp only [wbits, orUser, *, cond_true, cond_false]
  have hs : super = true := by simpa using hc9
  refine Zc (Zt (Zs (Zr (Zm rfl (Zg rfl (Zn (Zt (Ze (ret1 (cs' := []) (.inl rfl) Zu rfl rfl ?_)))))))))
  refine ⟨?_, rfl⟩
  simp only [wbits, orUser, *, cond_true, cond_false]
end Go.Proofs.YtobjiljkfmcalaaGreat
