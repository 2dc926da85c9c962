/- A guest's addresses: the unit. -/
import Derived.Test.YtobjiljkfmcalaaGreatSpI
import Derived.Test.YtobjiljkfmcalaaGreatInkS
set_option linter.unusedSimpArgs false
set_option linter.unusedVariables false
set_option maxRecDepth 100000
namespace Go.Ink
open Go.RowKit
theorem leafE_wf {va : Nat} (h : va ≤ 4294967295) {l : Int} (hl : u32 l) : (leafE va l).wf :=
  ⟨⟨by show (0 : Int) ≤ ((va / 64 : Nat) : Int); omega, by show ((va / 64 : Nat) : Int) ≤ _; omega⟩, ⟨by show 0 ≤ l / 256; have := hl.1; omega, by show l / 256 ≤ _; have := hl.1; have := hl.2; omega⟩, bits_u32 .and _ _⟩
theorem TE.zero_wf : TE.zero.wf := ⟨⟨by decide, by decide⟩, ⟨by decide, by decide⟩, ⟨by decide, by decide⟩⟩
theorem walkTo_wf (n : Nat) (M : Mem) (root va : Nat) (h : va ≤ 4294967295) (kind : Int) (super : Bool) : (walkTo n M root va kind super).1.1.wf := by
  unfold walkTo
  cases (fault kind == 0) with
  | true => exact TE.zero_wf
  | false =>
    simp only [cond_false]
    split
    · exact TE.zero_wf
    rename_i a l _
    cases (bits .and .u32 l (wbits kind super) != wbits kind super) with
    | true => exact TE.zero_wf
    | false => exact leafE_wf h (marked_u32 l kind)
theorem tfill_len (T : List TE) (e : TE) : (tfill T e).length = T.length := by unfold tfill; cases e.valid <;> simp
theorem tdrop_len (T : List TE) (va : Nat) : (tdrop T va).length = T.length := by unfold tdrop; cases ((teAt T va).vpn == ((va / 64 : Nat) : Int)) <;> simp
theorem turnedTo_len (n : Nat) (U : Mmu) (s : Sp) (va : Nat) (kind : Int) : (turnedTo n U s va kind).2.t.length = U.t.length := by
  unfold turnedTo
  cases (!s.paging) <;> simp only [cond_true, cond_false]
  cases (tfind U.t va kind s.super).2 <;> simp only [cond_true, cond_false]
  cases ((walkTo n U.m s.root va kind s.super).1.2.cause != 0) <;> simp only [cond_true, cond_false, tfill_len]
theorem placeTo_len (n : Nat) (U : Mmu) (s : Sp) (va : Nat) (kind : Int) : (placeTo n U s va kind).2.t.length = U.t.length := by
  have h := turnedTo_len n U s va kind
  unfold placeTo
  cases (fault kind == 0) <;> simp only [cond_true, cond_false]
  cases ((turnedTo n U s va kind).1.2.cause != 0) <;> simp only [cond_true, cond_false, h]
  cases (decide ((turnedTo n U s va kind).1.1 < ((n * 64 : Nat) : Int)) || ((kind != 1) && isDev (turnedTo n U s va kind).1.1)) <;> simp only [cond_true, cond_false, h]
end Go.Ink
namespace Go.Proofs.YtobjiljkfmcalaaGreat
open Go.RowKit Go.Ink

abbrev uRow (bu bm bb : Nat) : Chunk := row bu [.pointer (some ⟨bm, 0, none⟩), .pointer (some ⟨bb, 0, none⟩)] 130
abbrev uF (bu bb : Nat) (L : MLoc) (U : Mmu) : List Chunk := [uRow bu L.bm bb, memC L U.m, tlbC bb U.t]
theorem device_ok (a : Int) (w : World) : Ctr Tryz.prog 159 [.int .u32 a] w [] (fun v cs => v = .bool (isDev a) ∧ cs = []) := by
  refine fn_ctr Tryz.func159 rfl Tryz.ntmps159 rfl (Inv.start w) ?_
  refine Zs (Zr (Zg rfl (Zn (Zt (Zs (Zr (Zm rfl (Zy (y_geq (Zv rfl) (Zv rfl) rfl) (Zm rfl (Zyy rfl rfl (y_move (Zv rfl)) ?_))))))))))
  refine Zyy rfl rfl (y_lss (ev_g rfl) (Zv rfl) rfl) ?_
  refine Zy (y_and (Zv rfl) (pk_yes rfl (fun _ => rfl))) (Zg rfl (Zn (Zt (Ze (ret1 (cs' := []) (.inl rfl) Zu rfl rfl ?_)))))
  exact ⟨rfl, rfl⟩
theorem mmunew_ok (bm : Nat) (w : World) : Ctr Tryz.prog 32 [.pointer (some ⟨bm, 0, none⟩)] w [] (fun v cs => ∃ bu bb, v = .tuple #[.pointer (some ⟨bu, 0, none⟩), .int .i64 0] ∧ cs = [tlbC bb tflush, uRow bu bm bb]) := by
  refine fn_ctr Tryz.func32 rfl Tryz.ntmps32 rfl (Inv.start w) ?_
  refine Zs (Zr (Zg rfl (Zg rfl (Zn (Zt (Zs (Zs (Zr (Zm rfl (Zy (y_pnil rfl (Zv rfl)) (Zn (Zt (wc_cond_f rfl (rfl) ?_)))))))))))))
  refine Zc (Zt (Zs (Zr (Zm rfl (wl_t (t_call rfl (fun _ _ => rfl) (fun w hi => tlbnew_ok w)) rfl ?_)))))
  rintro _ _ ⟨_, ⟨bb, rfl, rfl⟩, rfl⟩
  refine Zy (y_build rfl rfl (fun _ => rfl) rfl rfl rfl Zb) ?_
  refine wl_t (t_box rfl rfl) rfl ?_
  rintro _ _ ⟨b9, rfl, rfl⟩
  refine Zg rfl (Zg rfl (Zn (Zt (Ze (ret2 (cs' := [row _ _ _, row _ _ _]) (.inl rfl) Zu rfl rfl rfl ?_)))))
  exact ⟨_, _, rfl, rfl⟩
theorem umem_ok (bu bm bb : Nat) (w : World) (h : (uRow bu bm bb).ok w) : Ctr Tryz.prog 41 [.pointer (some ⟨bu, 0, none⟩)] w [] (fun v cs => v = .pointer (some ⟨bm, 0, none⟩) ∧ cs = []) := by
  refine fn_ctr Tryz.func41 rfl Tryz.ntmps41 rfl (Inv.start w) ?_
  refine Zs (Zr (Zg rfl (Zn (Zt (Zs (Zr (Zm rfl (Zy (y_nil (Zv rfl)) (Zy (y_field 0 rfl (Zv rfl) Zf) ?_)))))))))
  refine wl_y (y_load (fun _ => rfl) (Zv rfl)) (old_row (by assumption) rfl) rfl ?_
  refine Zg rfl (Zn (Zt (Ze (ret1 (cs' := []) (.inl rfl) Zu rfl rfl ?_))))
  exact ⟨rfl, rfl⟩
theorem ubuf_ok (bu bm bb : Nat) (w : World) (h : (uRow bu bm bb).ok w) : Ctr Tryz.prog 58 [.pointer (some ⟨bu, 0, none⟩)] w [] (fun v cs => v = .pointer (some ⟨bb, 0, none⟩) ∧ cs = []) := by
  refine fn_ctr Tryz.func58 rfl Tryz.ntmps58 rfl (Inv.start w) ?_
  refine Zs (Zr (Zg rfl (Zn (Zt (Zs (Zr (Zm rfl (Zy (y_nil (Zv rfl)) (Zy (y_field 1 rfl (Zv rfl) Zf) ?_)))))))))
  refine wl_y (y_load (fun _ => rfl) (Zv rfl)) (old_row (by assumption) rfl) rfl ?_
  refine Zg rfl (Zn (Zt (Ze (ret1 (cs' := []) (.inl rfl) Zu rfl rfl ?_))))
  exact ⟨rfl, rfl⟩
theorem udrop_ok (bu bb : Nat) (L : MLoc) (U : Mmu) (hT : U.t.length = 16) (va : Nat) (hva : va ≤ 4294967295) (w : World) (hi : Inv w (blocks (uF bu bb L U)) (uF bu bb L U) w) : Ctr Tryz.prog 90 [.pointer (some ⟨bu, 0, none⟩), .int .u32 va] w (uF bu bb L U) (fun v cs => v = .tuple #[] ∧ cs = uF bu bb L ⟨U.m, tdrop U.t va⟩) := by
  refine fn_ctr Tryz.func90 rfl Tryz.ntmps90 rfl hi ?_
  refine Zr (Zm rfl (Zy (y_nil (Zv rfl)) (Zy (y_field 1 rfl (Zv rfl) Zf) ?_)))
  refine Zz rfl ?_
  refine Zm rfl (wl_t (t_callS ([tlbC bb U.t]) rfl (fun _ _ => rfl) Zi (fun w hi hin => tdrop_ok bb U.t hT va hva w hin)) rfl ?_)
  rintro _ _ ⟨_, ⟨rfl, rfl⟩, rfl⟩
  refine Zn (qok_pick (uF bu bb L ⟨U.m, tdrop U.t va⟩) Zj ?_)
  refine ret0 (cs' := uF _ _ _ _) (.inr rfl) Zu rfl ?_
  exact ⟨rfl, rfl⟩
theorem uflush_ok (bu bb : Nat) (L : MLoc) (U : Mmu) (hT : U.t.length = 16) (w : World) (hi : Inv w (blocks (uF bu bb L U)) (uF bu bb L U) w) : Ctr Tryz.prog 89 [.pointer (some ⟨bu, 0, none⟩)] w (uF bu bb L U) (fun v cs => v = .tuple #[] ∧ cs = uF bu bb L ⟨U.m, tflush⟩) := by
  refine fn_ctr Tryz.func89 rfl Tryz.ntmps89 rfl hi ?_
  refine Zr (Zm rfl (Zy (y_nil (Zv rfl)) (Zy (y_field 1 rfl (Zv rfl) Zf) ?_)))
  refine Zz rfl ?_
  refine wl_t (t_callS ([tlbC bb U.t]) rfl (fun _ _ => rfl) Zi (fun w hi hin => tflush_ok bb U.t hT w hin)) rfl ?_
  rintro _ _ ⟨_, ⟨rfl, rfl⟩, rfl⟩
  refine Zn (qok_pick (uF bu bb L ⟨U.m, tflush⟩) Zj ?_)
  refine ret0 (cs' := uF _ _ _ _) (.inr rfl) Zu rfl ?_
  exact ⟨rfl, rfl⟩
abbrev trC (b : Nat) (t : Tr) : Chunk := row b t.cells 96
abbrev spC (b : Nat) (s : Sp) : Chunk := row b [.bool s.paging, .bool s.super, .int .u32 (s.root : Int)] 189
abbrev teC (b : Nat) (e : TE) : Chunk := row b e.cells 114
theorem turned_ok (bu bb : Nat) (L : MLoc) (U : Mmu) (hT : U.t.length = 16) (s : Sp) (hr : s.root ≤ 4294967295) (va : Nat) (hva : va ≤ 4294967295) (kind : Int) (w : World) (hi : Inv w (blocks (uF bu bb L U)) (uF bu bb L U) w) :
    Ctr Tryz.prog 158 [.pointer (some ⟨bu, 0, none⟩), s.v, .int .u32 va, .int .i64 kind] w (uF bu bb L U) (fun v cs => v = .tuple #[.int .u32 (turnedTo L.n U s va kind).1.1, (turnedTo L.n U s va kind).1.2.v] ∧ cs = uF bu bb L (turnedTo L.n U s va kind).2) := by
  obtain ⟨fd, hfd⟩ : ∃ x, tfind U.t va kind s.super = x := ⟨_, rfl⟩
  obtain ⟨wd, hwd⟩ : ∃ x, walkTo L.n U.m s.root va kind s.super = x := ⟨_, rfl⟩
  have hwf := walkTo_wf L.n U.m s.root va hva kind s.super
  have HFD := tfind_ok bb U.t hT va hva kind s.super
  have HWD := wdo_ok L U.m s.root va hr hva kind s.super
  unfold turnedTo
  rw [hfd] at HFD ⊢
  rw [hwd] at HWD hwf ⊢
  obtain ⟨⟨te, tr⟩, M'⟩ := wd
  simp only at HWD hwf ⊢
  refine fn_ctr Tryz.func158 rfl Tryz.ntmps158 rfl hi ?_
  refine Zs (Zr (wl_t (t_box rfl rfl) rfl ?_))
  rintro _ _ ⟨b5, rfl, rfl⟩
  refine Zg rfl (wl_t (t_alloc (fun _ => rfl) rfl) rfl ?_)
  rintro _ _ ⟨b9, rfl, rfl⟩
  refine Zn (Zt (Zs (Zs (Zr (Zy (y_field 0 rfl (Zv rfl) Zf) ?_)))))
  refine Zz rfl ?_
  refine Zy (y_not (Zv rfl) rfl) (Zn (Zt ?_))
  refine wc_cond _ rfl (fun hc1 => ?_) (fun hc1 => ?_)
  · rw [hc1]
    simp only [cond_true]
    refine Zs (Zr (Zm rfl (Zy (y_build rfl rfl (fun _ => rfl) rfl rfl rfl Zb) ?_)))
    refine Zg rfl (wl_t0 (t_storeN (fun _ => rfl) rfl rfl (allT rfl) Za (by exact rfl)) ?_)
    rintro _ _ ⟨rfl, rfl⟩
    refine Zn (Zt (Ze (Zw (retTC (cs' := [row _ _ _, exC _ _ _ _, row _ _ _]) (.inl rfl) Zu rfl rfl rfl Zh (fun _ => rfl) (fun _ => rfl) ?_))))
    exact ⟨rfl, rfl⟩
  rw [hc1]
  simp only [cond_false]
  refine Zc (Zt (Zs (Zs (wc_draw ⟨fun j => List.elem j [], []⟩ Zk ?_))))
  refine wa_yn 0 rfl Zk Zk Zk (y_move (Zv rfl)) rfl ?_
  refine wa_yn 1 rfl Zk Zk Zk (y_nil (Zv rfl)) rfl ?_
  refine wa_yn 2 rfl Zk Zk Zk (y_field 1 rfl (Zv rfl) Zf) rfl ?_
  refine wa_ln 3 rfl Zk Zk Zk Zk (y_load (fun _ => rfl) (Zv rfl)) (row_cell Zh rfl) rfl ?_
  refine wa_yn 4 rfl Zk Zk Zk (y_move (Zv rfl)) rfl ?_
  refine wa_yn 5 rfl Zk Zk Zk (y_move (Zv rfl)) rfl ?_
  refine wa_yn 6 rfl Zk Zk Zk (y_field 1 rfl (Zv rfl) Zf) rfl ?_
  refine wa_ln 7 rfl Zk Zk Zk Zk (y_load (fun _ => rfl) (Zv rfl)) (row_cell Zh rfl) rfl ?_
  refine wa_1 8 Zk ?_
  refine wi_t rfl rfl (t_call rfl (fun _ _ => rfl) (fun w hi => HFD w (hi.get Zh))) (fun _ _ _ _ _ _ _ h => by cases h) rfl ?_
  rintro _ _ ⟨_, ⟨rfl, rfl⟩, rfl⟩
  refine wa_yn 9 rfl Zk Zk Zk (y_move (Zv rfl)) rfl ?_
  refine wa_yn 10 rfl Zk Zk Zk (y_extractN (Zv rfl) (.zero _ _)) rfl ?_
  refine wa_yn 11 rfl Zk Zk Zk (y_extractN (Zv rfl) (.succ _ (.zero _ _))) rfl ?_
  refine wa_yn 12 rfl Zk Zk Zk (y_assign (Zv rfl)) rfl ?_
  refine wa_yn 13 rfl Zk Zk Zk (y_assign (Zv rfl)) rfl ?_
  refine wa_done Zk ?_
  refine Zt (Zs (Zr (Zm rfl (Zn (Zt ?_)))))
  refine wc_cond _ rfl (fun hc4 => ?_) (fun hc4 => ?_)
  · rw [hc4]
    simp only [cond_true]
    refine Zs (Zr (Zm rfl (Zy (y_build rfl rfl (fun _ => rfl) rfl rfl rfl Zb) ?_)))
    refine Zg rfl (wl_t0 (t_storeN (fun _ => rfl) rfl rfl (allT rfl) Za (by exact rfl)) ?_)
    rintro _ _ ⟨rfl, rfl⟩
    refine Zn (Zt (Ze (Zw (retTC (cs' := [row _ _ _, exC _ _ _ _, row _ _ _]) (.inl rfl) Zu rfl rfl rfl Zh (fun _ => rfl) (fun _ => rfl) ?_))))
    exact ⟨rfl, rfl⟩
  rw [hc4]
  simp only [cond_false]
  refine Zc (Zt ?_)
  refine wc_seq_mid (fun q : Nat × Nat => [(0, .pointer (some ⟨bu, 0, none⟩)), (2, .int .u32 va), (9, .pointer (some ⟨b9, 0, none⟩)), (12, .pointer (some ⟨q.1, 0, none⟩)), (13, .pointer (some ⟨q.2, 0, none⟩))]) (fun q => [uRow bu L.bm bb, memC L M', tlbC bb U.t, trC b9 Tr.none, teC q.1 te, trC q.2 tr]) (fun _ => True) ?_ ?_
  · refine wc_draw ⟨fun j => List.elem j [10, 16, 17], []⟩ Zk ?_
    refine wa_yn 0 rfl Zk Zk Zk (y_move (Zv rfl)) rfl ?_
    refine wa_yn 1 rfl Zk Zk Zk (y_nil (Zv rfl)) rfl ?_
    refine wa_yn 2 rfl Zk Zk Zk (y_field 0 rfl (Zv rfl) Zf) rfl ?_
    refine wa_ln 3 rfl Zk Zk Zk Zk (y_load (fun _ => rfl) (Zv rfl)) (row_cell Zh rfl) rfl ?_
    refine wa_yn 4 rfl Zk Zk Zk (y_field 2 rfl (Zv rfl) Zf) rfl ?_
    refine wa_ln 5 rfl Zk Zk Zk Zk (y_load (fun _ => rfl) (Zv rfl)) (row_cell Zh rfl) rfl ?_
    refine wa_yn 6 rfl Zk Zk Zk (y_move (Zv rfl)) rfl ?_
    refine wa_yn 7 rfl Zk Zk Zk (y_move (Zv rfl)) rfl ?_
    refine wa_yn 8 rfl Zk Zk Zk (y_field 1 rfl (Zv rfl) Zf) rfl ?_
    refine wa_ln 9 rfl Zk Zk Zk Zk (y_load (fun _ => rfl) (Zv rfl)) (row_cell Zh rfl) rfl ?_
    refine wa_3 10 14 15 Zk ?_ ?_ ?_
    · refine wi_t rfl rfl (t_callS ([memC L U.m]) rfl (fun _ _ => rfl) Zi (fun w hi hin => HWD w hin)) (fun _ _ _ _ _ _ _ h => by cases h) rfl ?_
      rintro _ _ ⟨_, ⟨rfl, rfl⟩, rfl⟩
      refine wa_yn 11 rfl Zk Zk Zk (y_move (Zv rfl)) rfl ?_
      refine wa_yn 12 rfl Zk Zk Zk (y_extractN (Zv rfl) (.zero _ _)) rfl ?_
      refine wa_yn 13 rfl Zk Zk Zk (y_extractN (Zv rfl) (.succ _ (.zero _ _))) rfl ?_
      refine wa_2 14 15 Zk ?_ ?_
      · refine wi_t rfl rfl (t_alloc (fun _ => rfl) rfl) (fun _ _ _ _ _ _ _ h => by cases h) rfl ?_
        rintro _ _ ⟨b12, rfl, rfl⟩
        refine wa_1 15 Zk ?_
        refine wi_t rfl rfl (t_alloc (fun _ => rfl) rfl) (fun _ _ _ _ _ _ _ h => by cases h) rfl ?_
        rintro _ _ ⟨b13, rfl, rfl⟩
        refine wa_1 16 Zk ?_
        refine wi_t0 rfl rfl (t_storeN (vs := te.cells) (fun _ => rfl) rfl rfl (allT rfl) Za (by exact rfl)) (fun _ _ _ _ _ _ _ h => by cases h) ?_
        rintro _ _ ⟨rfl, rfl⟩
        refine wa_1 17 Zk ?_
        refine wi_t0 rfl rfl (t_storeN (vs := tr.cells) (fun _ => rfl) rfl rfl (allT rfl) Za (by exact rfl)) (fun _ _ _ _ _ _ _ h => by cases h) ?_
        rintro _ _ ⟨rfl, rfl⟩
        refine wa_done Zk ?_
        refine q_midP ((b12, b13)) ?_ ?_ ?_
        · trivial
        · ((repeat' (refine Wk.cons ?_ ?_)) <;> first | exact Wk.nil | exact rfl | exact trivial | exact wk_num rfl (by omega) | exact wk_num rfl (by simp))
        exact Zj
      refine wi_t rfl rfl (t_alloc (fun _ => rfl) rfl) (fun _ _ _ _ _ _ _ h => by cases h) rfl ?_
      rintro _ _ ⟨b13, rfl, rfl⟩
      refine wa_1 14 Zk ?_
      refine wi_t rfl rfl (t_alloc (fun _ => rfl) rfl) (fun _ _ _ _ _ _ _ h => by cases h) rfl ?_
      rintro _ _ ⟨b12, rfl, rfl⟩
      refine wa_1 16 Zk ?_
      refine wi_t0 rfl rfl (t_storeN (vs := te.cells) (fun _ => rfl) rfl rfl (allT rfl) Za (by exact rfl)) (fun _ _ _ _ _ _ _ h => by cases h) ?_
      rintro _ _ ⟨rfl, rfl⟩
      refine wa_1 17 Zk ?_
      refine wi_t0 rfl rfl (t_storeN (vs := tr.cells) (fun _ => rfl) rfl rfl (allT rfl) Za (by exact rfl)) (fun _ _ _ _ _ _ _ h => by cases h) ?_
      rintro _ _ ⟨rfl, rfl⟩
      refine wa_done Zk ?_
      refine q_midP ((b12, b13)) ?_ ?_ ?_
      · trivial
      · ((repeat' (refine Wk.cons ?_ ?_)) <;> first | exact Wk.nil | exact rfl | exact trivial | exact wk_num rfl (by omega) | exact wk_num rfl (by simp))
      exact Zj
    · refine wi_t rfl rfl (t_alloc (fun _ => rfl) rfl) (fun _ _ _ _ _ _ _ h => by cases h) rfl ?_
      rintro _ _ ⟨b12, rfl, rfl⟩
      refine wa_2 10 15 Zk ?_ ?_
      · refine wi_t rfl rfl (t_callS ([memC L U.m]) rfl (fun _ _ => rfl) Zi (fun w hi hin => HWD w hin)) (fun _ _ _ _ _ _ _ h => by cases h) rfl ?_
        rintro _ _ ⟨_, ⟨rfl, rfl⟩, rfl⟩
        refine wa_yn 11 rfl Zk Zk Zk (y_move (Zv rfl)) rfl ?_
        refine wa_yn 12 rfl Zk Zk Zk (y_extractN (Zv rfl) (.zero _ _)) rfl ?_
        refine wa_yn 13 rfl Zk Zk Zk (y_extractN (Zv rfl) (.succ _ (.zero _ _))) rfl ?_
        refine wa_1 15 Zk ?_
        refine wi_t rfl rfl (t_alloc (fun _ => rfl) rfl) (fun _ _ _ _ _ _ _ h => by cases h) rfl ?_
        rintro _ _ ⟨b13, rfl, rfl⟩
        refine wa_1 16 Zk ?_
        refine wi_t0 rfl rfl (t_storeN (vs := te.cells) (fun _ => rfl) rfl rfl (allT rfl) Za (by exact rfl)) (fun _ _ _ _ _ _ _ h => by cases h) ?_
        rintro _ _ ⟨rfl, rfl⟩
        refine wa_1 17 Zk ?_
        refine wi_t0 rfl rfl (t_storeN (vs := tr.cells) (fun _ => rfl) rfl rfl (allT rfl) Za (by exact rfl)) (fun _ _ _ _ _ _ _ h => by cases h) ?_
        rintro _ _ ⟨rfl, rfl⟩
        refine wa_done Zk ?_
        refine q_midP ((b12, b13)) ?_ ?_ ?_
        · trivial
        · ((repeat' (refine Wk.cons ?_ ?_)) <;> first | exact Wk.nil | exact rfl | exact trivial | exact wk_num rfl (by omega) | exact wk_num rfl (by simp))
        exact Zj
      refine wi_t rfl rfl (t_alloc (fun _ => rfl) rfl) (fun _ _ _ _ _ _ _ h => by cases h) rfl ?_
      rintro _ _ ⟨b13, rfl, rfl⟩
      refine wa_1 10 Zk ?_
      refine wi_t rfl rfl (t_callS ([memC L U.m]) rfl (fun _ _ => rfl) Zi (fun w hi hin => HWD w hin)) (fun _ _ _ _ _ _ _ h => by cases h) rfl ?_
      rintro _ _ ⟨_, ⟨rfl, rfl⟩, rfl⟩
      refine wa_yn 11 rfl Zk Zk Zk (y_move (Zv rfl)) rfl ?_
      refine wa_yn 12 rfl Zk Zk Zk (y_extractN (Zv rfl) (.zero _ _)) rfl ?_
      refine wa_yn 13 rfl Zk Zk Zk (y_extractN (Zv rfl) (.succ _ (.zero _ _))) rfl ?_
      refine wa_1 16 Zk ?_
      refine wi_t0 rfl rfl (t_storeN (vs := te.cells) (fun _ => rfl) rfl rfl (allT rfl) Za (by exact rfl)) (fun _ _ _ _ _ _ _ h => by cases h) ?_
      rintro _ _ ⟨rfl, rfl⟩
      refine wa_1 17 Zk ?_
      refine wi_t0 rfl rfl (t_storeN (vs := tr.cells) (fun _ => rfl) rfl rfl (allT rfl) Za (by exact rfl)) (fun _ _ _ _ _ _ _ h => by cases h) ?_
      rintro _ _ ⟨rfl, rfl⟩
      refine wa_done Zk ?_
      refine q_midP ((b12, b13)) ?_ ?_ ?_
      · trivial
      · ((repeat' (refine Wk.cons ?_ ?_)) <;> first | exact Wk.nil | exact rfl | exact trivial | exact wk_num rfl (by omega) | exact wk_num rfl (by simp))
      exact Zj
    refine wi_t rfl rfl (t_alloc (fun _ => rfl) rfl) (fun _ _ _ _ _ _ _ h => by cases h) rfl ?_
    rintro _ _ ⟨b13, rfl, rfl⟩
    refine wa_2 10 14 Zk ?_ ?_
    · refine wi_t rfl rfl (t_callS ([memC L U.m]) rfl (fun _ _ => rfl) Zi (fun w hi hin => HWD w hin)) (fun _ _ _ _ _ _ _ h => by cases h) rfl ?_
      rintro _ _ ⟨_, ⟨rfl, rfl⟩, rfl⟩
      refine wa_yn 11 rfl Zk Zk Zk (y_move (Zv rfl)) rfl ?_
      refine wa_yn 12 rfl Zk Zk Zk (y_extractN (Zv rfl) (.zero _ _)) rfl ?_
      refine wa_yn 13 rfl Zk Zk Zk (y_extractN (Zv rfl) (.succ _ (.zero _ _))) rfl ?_
      refine wa_1 14 Zk ?_
      refine wi_t rfl rfl (t_alloc (fun _ => rfl) rfl) (fun _ _ _ _ _ _ _ h => by cases h) rfl ?_
      rintro _ _ ⟨b12, rfl, rfl⟩
      refine wa_1 16 Zk ?_
      refine wi_t0 rfl rfl (t_storeN (vs := te.cells) (fun _ => rfl) rfl rfl (allT rfl) Za (by exact rfl)) (fun _ _ _ _ _ _ _ h => by cases h) ?_
      rintro _ _ ⟨rfl, rfl⟩
      refine wa_1 17 Zk ?_
      refine wi_t0 rfl rfl (t_storeN (vs := tr.cells) (fun _ => rfl) rfl rfl (allT rfl) Za (by exact rfl)) (fun _ _ _ _ _ _ _ h => by cases h) ?_
      rintro _ _ ⟨rfl, rfl⟩
      refine wa_done Zk ?_
      refine q_midP ((b12, b13)) ?_ ?_ ?_
      · trivial
      · ((repeat' (refine Wk.cons ?_ ?_)) <;> first | exact Wk.nil | exact rfl | exact trivial | exact wk_num rfl (by omega) | exact wk_num rfl (by simp))
      exact Zj
    refine wi_t rfl rfl (t_alloc (fun _ => rfl) rfl) (fun _ _ _ _ _ _ _ h => by cases h) rfl ?_
    rintro _ _ ⟨b12, rfl, rfl⟩
    refine wa_1 10 Zk ?_
    refine wi_t rfl rfl (t_callS ([memC L U.m]) rfl (fun _ _ => rfl) Zi (fun w hi hin => HWD w hin)) (fun _ _ _ _ _ _ _ h => by cases h) rfl ?_
    rintro _ _ ⟨_, ⟨rfl, rfl⟩, rfl⟩
    refine wa_yn 11 rfl Zk Zk Zk (y_move (Zv rfl)) rfl ?_
    refine wa_yn 12 rfl Zk Zk Zk (y_extractN (Zv rfl) (.zero _ _)) rfl ?_
    refine wa_yn 13 rfl Zk Zk Zk (y_extractN (Zv rfl) (.succ _ (.zero _ _))) rfl ?_
    refine wa_1 16 Zk ?_
    refine wi_t0 rfl rfl (t_storeN (vs := te.cells) (fun _ => rfl) rfl rfl (allT rfl) Za (by exact rfl)) (fun _ _ _ _ _ _ _ h => by cases h) ?_
    rintro _ _ ⟨rfl, rfl⟩
    refine wa_1 17 Zk ?_
    refine wi_t0 rfl rfl (t_storeN (vs := tr.cells) (fun _ => rfl) rfl rfl (allT rfl) Za (by exact rfl)) (fun _ _ _ _ _ _ _ h => by cases h) ?_
    rintro _ _ ⟨rfl, rfl⟩
    refine wa_done Zk ?_
    refine q_midP ((b12, b13)) ?_ ?_ ?_
    · trivial
    · ((repeat' (refine Wk.cons ?_ ?_)) <;> first | exact Wk.nil | exact rfl | exact trivial | exact wk_num rfl (by omega) | exact wk_num rfl (by simp))
    exact Zj
  rintro ⟨b12, b13⟩ -
  dsimp only
  refine Zs (Zs (Zr (Zy (y_field 0 rfl (Zv rfl) Zf) ?_)))
  refine Zz rfl ?_
  refine Zy (y_neq (Zv rfl) (Zv rfl) rfl) (Zn (Zt ?_))
  refine wc_cond _ rfl (fun hc7 => ?_) (fun hc7 => ?_)
  · rw [hc7]
    simp only [cond_true]
    refine Zs (wc_draw ⟨fun j => List.elem j [2], []⟩ Zk ?_)
    refine wa_loadRow 0 rfl Zk Zk Zk Zk Zh (fun _ => rfl) (fun _ => rfl) (Zv rfl) rfl ?_
    refine wa_yn 1 rfl Zk Zk Zk (y_assign (Zv rfl)) rfl ?_
    refine wa_1 2 Zk ?_
    refine wi_t0 rfl rfl (t_storeN (fun _ => rfl) rfl rfl (allT rfl) Za (by exact rfl)) (fun _ _ _ _ _ _ _ h => by cases h) ?_
    rintro _ _ ⟨rfl, rfl⟩
    refine wa_done Zk ?_
    refine Zt (Ze (Zw (retTC (cs' := [row _ _ _, exC _ _ _ _, row _ _ _]) (.inl rfl) Zu rfl rfl rfl Zh (fun _ => rfl) (fun _ => rfl) ?_)))
    exact ⟨rfl, rfl⟩
  rw [hc7]
  simp only [cond_false]
  refine Zc (Zt (Zs (wc_draw ⟨fun j => List.elem j [5], []⟩ Zk ?_)))
  refine wa_yn 0 rfl Zk Zk Zk (y_move (Zv rfl)) rfl ?_
  refine wa_yn 1 rfl Zk Zk Zk (y_nil (Zv rfl)) rfl ?_
  refine wa_yn 2 rfl Zk Zk Zk (y_field 1 rfl (Zv rfl) Zf) rfl ?_
  refine wa_ln 3 rfl Zk Zk Zk Zk (y_load (fun _ => rfl) (Zv rfl)) (row_cell Zh rfl) rfl ?_
  refine wa_loadRow 4 rfl Zk Zk Zk Zk Zh (fun _ => rfl) (fun _ => rfl) (Zv rfl) rfl ?_
  refine wa_1 5 Zk ?_
  refine wi_t rfl rfl (t_callS ([tlbC bb U.t]) rfl (fun _ _ => rfl) Zi (fun w hi hin => tfill_ok bb U.t hT te hwf w hin)) (fun _ _ _ _ _ _ _ h => by cases h) rfl ?_
  rintro _ _ ⟨_, ⟨rfl, rfl⟩, rfl⟩
  refine wa_done Zk ?_
  refine Zt (Zs (wc_draw ⟨fun j => List.elem j [8], []⟩ Zk ?_))
  refine wa_yn 0 rfl Zk Zk Zk (y_field 2 rfl (Zv rfl) Zf) rfl ?_
  refine wa_ln 1 rfl Zk Zk Zk Zk (y_load (fun _ => rfl) (Zv rfl)) (row_cell Zh rfl) rfl ?_
  refine wa_yn 2 rfl Zk Zk Zk (y_mul (Zv rfl) (Zv rfl) rfl) rfl ?_
  refine wa_yn 3 rfl Zk Zk Zk (y_move (Zv rfl)) rfl ?_
  refine wa_yn 4 rfl Zk Zk Zk (y_rem (Zv rfl) (Zv rfl) (by omega) (show _ = ((va % 64 : Nat) : Int) from by rw [Int.tmod_eq_emod_of_nonneg (by omega)]; omega)) rfl ?_
  refine wa_yn 5 rfl Zk Zk Zk (y_add (Zv rfl) (Zv rfl) rfl) rfl ?_
  refine wa_loadRow 6 rfl Zk Zk Zk Zk Zh (fun _ => rfl) (fun _ => rfl) (Zv rfl) rfl ?_
  refine wa_yn 7 rfl Zk Zk Zk (y_assign (Zv rfl)) rfl ?_
  refine wa_1 8 Zk ?_
  refine wi_t0 rfl rfl (t_storeN (fun _ => rfl) rfl rfl (allT rfl) Za (by exact rfl)) (fun _ _ _ _ _ _ _ h => by cases h) ?_
  rintro _ _ ⟨rfl, rfl⟩
  refine wa_done Zk ?_
  refine Zt (Ze (qok_pick [uRow bu L.bm bb, memC L M', tlbC bb (tfill U.t te), trC b9 tr] Zj ?_))
  refine retTC (cs' := [row _ _ _, exC _ _ _ _, row _ _ _]) (.inl rfl) Zu rfl rfl rfl Zh (fun _ => rfl) (fun _ => rfl) ?_
  exact ⟨rfl, rfl⟩
end Go.Proofs.YtobjiljkfmcalaaGreat
