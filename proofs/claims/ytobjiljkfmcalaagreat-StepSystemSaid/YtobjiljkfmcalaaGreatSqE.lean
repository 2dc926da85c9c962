/- Some of the runs: known. -/
import Derived.Test.YtobjiljkfmcalaaGreatSqD
import Derived.Test.YtobjiljkfmcalaaGreatInkS
set_option linter.unusedSimpArgs false
set_option linter.unusedVariables false
set_option maxRecDepth 100000
namespace Go.Ink
open Go.RowKit
abbrev known1 : St := ⟨0, [7, 0], [], 0, false, false, false, 0, 0, 0, 0, 0, false, false, 0, false⟩
abbrev known2 : St := ⟨0, [7], [], 0, false, false, false, 0, 0, 0, 0, 0, false, false, 0, false⟩
theorem known1_do (n : Nat) (U : Mmu) (d : Dev) : doTo n known1 24 0 U d = (⟨⟨0, [7, 0], [], 0, true, false, false, 0, 0, 0, 5, 0, false, false, 1, false⟩, true, false, []⟩, ⟨U.m.calm, U.t⟩, d) := by rfl
theorem known2_do (n : Nat) (U : Mmu) (d : Dev) : doTo n known2 16 0 U d = (⟨⟨0, [7], [], 0, true, false, false, 0, 0, 0, 3, 0, false, false, 1, false⟩, true, false, []⟩, ⟨U.m.calm, U.t⟩, d) := by rfl
theorem known3_do : checkOf St.zero 69 0 = 2 := by rfl
theorem u32_of {x : Int} (h : 0 ≤ x ∧ x ≤ 4294967295 := by decide) : u32 x := h
theorem known1_wf : known1.wf := ⟨u32_of, u32_of, u32_of, u32_of, u32_of, u32_of, u32_of, by decide, fun x hx => by rcases hx with _ | ⟨_, _ | ⟨_, ⟨⟩⟩⟩ <;> exact u32_of, fun x hx => by cases hx⟩
theorem known2_wf : known2.wf := ⟨u32_of, u32_of, u32_of, u32_of, u32_of, u32_of, u32_of, by decide, fun x hx => by rcases hx with _ | ⟨_, ⟨⟩⟩ <;> exact u32_of, fun x hx => by cases hx⟩
theorem diskOf_len {l : List Int} (h : l.length ≤ 1024) : (diskOf l).length = 1024 := by simp [diskOf]; omega
theorem diskOf_u8 {l : List Int} (h : u8s l) : u8s (diskOf l) := fun x hx => by
  rcases List.mem_append.1 hx with hx | hx
  · exact h x hx
  rw [List.eq_of_mem_replicate hx]; decide
theorem init_wf {l : List Int} (h : l.length ≤ 1024) (hb : u8s l) : (Dev.init l).wf := ⟨fun x hx => (by cases hx), diskOf_len h, diskOf_u8 hb, Nat.zero_le _, Nat.zero_le _, Nat.zero_le _⟩
end Go.Ink
namespace Go.Proofs.YtobjiljkfmcalaaGreat
open Go.RowKit Go.Ink

theorem rdNil (w : World) (k : IntKind) : Rd w k none 0 0 [] := ⟨rfl, by simp, by simp, by simp, by simp⟩
set_option maxHeartbeats 1000000 in
theorem known_ok (w : World) : Ctr Tryz.prog 18 [] w [] (fun v cs => v = .bool true ∧ cs = []) := by
  have HF := fun w => fresh_ok none none 0 0 1 [] [] (by decide) (by decide) (by decide) (fun x hx => by cases hx) (by decide) w (rdNil w .u8) (rdNil w .u8)
  have hnil : u8s [] := fun x hx => by cases hx
  have hT : (⟨Mem.init 1 [], tflush⟩ : Mmu).t.length = 16 := rfl
  have hd := init_wf (l := []) (by decide) hnil
  have ho : (Dev.init []).out.length ≤ 1000000000 := by decide
  have HK := fun w => check_ok St.zero none none 0 0 69 0 u32_of w (RdSt.nil_ w rfl rfl)
  rw [known3_do] at HK
  have HD1 := fun (F : FLoc) => do_ok F.bu F.bb F.L F.D ⟨none, 0, none, 0⟩ known1
  have HD2 := fun (F : FLoc) => do_ok F.bu F.bb F.L F.D
  obtain ⟨M, hM⟩ : ∃ M, Mem.init 1 [] = M := ⟨_, rfl⟩
  obtain ⟨d, hdd⟩ : ∃ d, Dev.init [] = d := ⟨_, rfl⟩
  obtain ⟨T, hTT⟩ : ∃ T, tflush = T := ⟨_, rfl⟩
  rw [hM, hTT, hdd] at HF
  rw [hM, hTT] at hT
  rw [hdd] at hd ho
  refine fn_ctr Tryz.func18 rfl Tryz.ntmps18 rfl (Inv.start w) ?_
  refine Zs (Zr (Zg rfl (Zn (Zt (Zs (Zr (wl_t (t_call rfl (fun _ _ => rfl) (fun w hi => HF w)) rfl ?_)))))))
  rintro _ _ ⟨_, ⟨F, hF, rfl, rfl⟩, rfl⟩
  have HD1 := fun A c w hin h => do_ok F.bu F.bb F.L F.D ⟨none, 0, none, 0⟩ known1 A none c 0 24 0 ⟨M, T⟩ d known1_wf u32_of hT hd ho w hin h
  rw [known1_do] at HD1
  have HD2 := fun Y A c w hin h => do_ok F.bu F.bb F.L F.D Y known2 A none c 0 16 0 ⟨M.calm, T⟩ d known2_wf u32_of hT hd ho w hin h
  rw [known2_do] at HD2
  refine Zg rfl (Zn (Zt (Zs (Zs (Zr (Zm rfl (Zy (y_pnil rfl (Zv rfl)) (Zn (Zt (wc_cond_f rfl (rfl) ?_))))))))))
  refine Zc (Zt (Zs (wc_draw ⟨fun j => List.elem j [11, 13], []⟩ Zk ?_)))
  refine wa_yn 2 rfl Zk Zk Zk (y_build rfl rfl (fun _ => rfl) rfl rfl rfl Zb) rfl ?_
  refine wa_yn 3 rfl Zk Zk Zk (y_move (Zv rfl)) rfl ?_
  refine wa_yn 4 rfl Zk Zk Zk (y_nil (Zv rfl)) rfl ?_
  refine wa_yn 5 rfl Zk Zk Zk (y_field 0 rfl (Zv rfl) Zf) rfl ?_
  refine wa_ln 6 rfl Zk Zk Zk Zk (y_load (fun _ => rfl) (Zv rfl)) (row_cell Zh rfl) rfl ?_
  refine wa_yn 7 rfl Zk Zk Zk (y_move (Zv rfl)) rfl ?_
  refine wa_yn 8 rfl Zk Zk Zk (y_nil (Zv rfl)) rfl ?_
  refine wa_yn 9 rfl Zk Zk Zk (y_field 1 rfl (Zv rfl) Zf) rfl ?_
  refine wa_ln 10 rfl Zk Zk Zk Zk (y_load (fun _ => rfl) (Zv rfl)) (row_cell Zh rfl) rfl ?_
  refine wa_2 0 12 Zk ?_ ?_
  · refine wi_t rfl rfl (t_buildSl1 rfl rfl (fun _ => rfl) (fun _ => rfl) rfl rfl) (fun _ _ _ _ _ _ _ h => by cases h) rfl ?_
    rintro _ _ ⟨b7, rfl, rfl⟩
    refine wa_yn 1 rfl Zk Zk Zk (y_build rfl rfl (fun _ => rfl) rfl rfl rfl Zb) rfl ?_
    refine wa_2 11 12 Zk ?_ ?_
    · refine wi_t rfl rfl (t_callS (ubF F.bu F.bb F.L F.D ⟨none, 0, none, 0⟩ ⟨M, T⟩ d) rfl (fun _ _ => rfl) Zi (fun w hi hin => HD1 _ _ w hin (fun w' hk => ⟨hi.rdKs Zi Zh hk, rdNil _ _, by decide, by decide⟩))) (fun _ _ _ _ _ _ _ h => by cases h) rfl ?_
      rintro _ _ ⟨_, ⟨X1, Y1, Ap, cp, rfl, rfl⟩, rfl⟩
      refine wa_1 12 Zk ?_
      refine wi_t rfl rfl (t_alloc (fun _ => rfl) rfl) (fun _ _ _ _ _ _ _ h => by cases h) rfl ?_
      rintro _ _ ⟨b2, rfl, rfl⟩
      refine wa_1 13 Zk ?_
      refine wi_t0 rfl rfl (t_storeN (fun _ => rfl) rfl rfl (allT rfl) Za (by exact rfl)) (fun _ _ _ _ _ _ _ h => by cases h) ?_
      rintro _ _ ⟨rfl, rfl⟩
      refine wa_done Zk ?_
      refine Zt (Zs (wc_draw ⟨fun j => List.elem j [11, 13], []⟩ Zk ?_))
      refine wa_yn 2 rfl Zk Zk Zk (y_build rfl rfl (fun _ => rfl) rfl rfl rfl Zb) rfl ?_
      refine wa_yn 3 rfl Zk Zk Zk (y_move (Zv rfl)) rfl ?_
      refine wa_yn 4 rfl Zk Zk Zk (y_nil (Zv rfl)) rfl ?_
      refine wa_yn 5 rfl Zk Zk Zk (y_field 0 rfl (Zv rfl) Zf) rfl ?_
      refine wa_ln 6 rfl Zk Zk Zk Zk (y_load (fun _ => rfl) (Zv rfl)) (row_cell Zh rfl) rfl ?_
      refine wa_yn 7 rfl Zk Zk Zk (y_move (Zv rfl)) rfl ?_
      refine wa_yn 8 rfl Zk Zk Zk (y_nil (Zv rfl)) rfl ?_
      refine wa_yn 9 rfl Zk Zk Zk (y_field 1 rfl (Zv rfl) Zf) rfl ?_
      refine wa_ln 10 rfl Zk Zk Zk Zk (y_load (fun _ => rfl) (Zv rfl)) (row_cell Zh rfl) rfl ?_
      refine wa_2 0 12 Zk ?_ ?_
      · refine wi_t rfl rfl (t_buildSl1 rfl rfl (fun _ => rfl) (fun _ => rfl) rfl rfl) (fun _ _ _ _ _ _ _ h => by cases h) rfl ?_
        rintro _ _ ⟨b19, rfl, rfl⟩
        refine wa_yn 1 rfl Zk Zk Zk (y_build rfl rfl (fun _ => rfl) rfl rfl rfl Zb) rfl ?_
        refine wa_2 11 12 Zk ?_ ?_
        · refine wi_t rfl rfl (t_callS (ubF F.bu F.bb F.L F.D Y1 ⟨M.calm, T⟩ d) rfl (fun _ _ => rfl) Zi (fun w hi hin => HD2 Y1 _ _ w hin (fun w' hk => ⟨hi.rdKs Zi Zh hk, rdNil _ _, by decide, by decide⟩))) (fun _ _ _ _ _ _ _ h => by cases h) rfl ?_
          rintro _ _ ⟨_, ⟨X2, Y2, Aq, cq, rfl, rfl⟩, rfl⟩
          refine wa_1 12 Zk ?_
          refine wi_t rfl rfl (t_alloc (fun _ => rfl) rfl) (fun _ _ _ _ _ _ _ h => by cases h) rfl ?_
          rintro _ _ ⟨b3, rfl, rfl⟩
          refine wa_1 13 Zk ?_
          refine wi_t0 rfl rfl (t_storeN (fun _ => rfl) rfl rfl (allT rfl) Za (by exact rfl)) (fun _ _ _ _ _ _ _ h => by cases h) ?_
          rintro _ _ ⟨rfl, rfl⟩
          refine wa_done Zk ?_
          refine Zt (Zs (Zr (Zy (y_field 16 rfl (Zv rfl) Zf) ?_)))
          refine Zz rfl ?_
          refine Zm rfl (Zyy rfl rfl (y_field 0 rfl (Zv rfl) Zf) ?_)
          refine Zyy rfl rfl (y_field 10 rfl (ev_g rfl) Zf) ?_
          refine wl_yg (guard_yes rfl rfl) (y_load (fun _ => rfl) (ev_g rfl)) (row_cell Zh rfl) rfl ?_
          refine Zyy rfl rfl (y_eql (ev_g rfl) (Zv rfl) rfl) ?_
          refine Zy (y_and (Zv rfl) (pk_yes rfl (fun _ => rfl))) (Zm rfl (Zyy rfl rfl (y_field 0 rfl (Zv rfl) Zf) ?_))
          refine Zyy rfl rfl (y_field 1 rfl (ev_g rfl) Zf) ?_
          refine wl_yg (guard_yes rfl rfl) (y_load (fun _ => rfl) (ev_g rfl)) (row_cell Zh rfl) rfl ?_
          refine Zyy rfl rfl (y_len ⟨_, rfl⟩ (ev_g rfl)) ?_
          refine Zyy rfl rfl (y_eql (ev_g rfl) (Zv rfl) rfl) ?_
          refine Zy (y_and (Zv rfl) (pk_yes rfl (fun _ => rfl))) (Zm rfl (Zyy rfl rfl (y_field 0 rfl (Zv rfl) Zf) ?_))
          refine Zyy rfl rfl (y_field 14 rfl (ev_g rfl) Zf) ?_
          refine wl_yg (guard_yes rfl rfl) (y_load (fun _ => rfl) (ev_g rfl)) (row_cell Zh rfl) rfl ?_
          refine Zyy rfl rfl (y_eql (ev_g rfl) (Zv rfl) rfl) ?_
          refine Zy (y_and (Zv rfl) (pk_yes rfl (fun _ => rfl))) (Zm rfl (Zyy rfl rfl (y_field 0 rfl (Zv rfl) Zf) ?_))
          refine Zyy rfl rfl (y_field 10 rfl (ev_g rfl) Zf) ?_
          refine wl_yg (guard_yes rfl rfl) (y_load (fun _ => rfl) (ev_g rfl)) (row_cell Zh rfl) rfl ?_
          refine Zyy rfl rfl (y_eql (ev_g rfl) (Zv rfl) rfl) ?_
          refine Zy (y_and (Zv rfl) (pk_yes rfl (fun _ => rfl))) (Zm rfl (Zyy rfl rfl (y_build rfl rfl (fun _ => rfl) rfl rfl rfl Zb) ?_))
          refine Zyy rfl rfl (y_build rfl rfl (fun _ => rfl) rfl rfl rfl Zb) ?_
          refine wl_tg (guard_yes rfl rfl) rfl (t_call rfl (fun _ _ => rfl) (fun w hi => HK w)) rfl ?_
          rintro _ _ ⟨_, ⟨rfl, rfl⟩, rfl⟩
          refine Zyy rfl rfl (y_eql (ev_g rfl) (Zv rfl) rfl) ?_
          refine Zy (y_and (Zv rfl) (pk_yes rfl (fun _ => rfl))) (Zg rfl (Zn (Zt (Ze (ret1 (cs' := []) (.inl rfl) Zu rfl rfl ?_)))))
          exact ⟨rfl, rfl⟩
        refine wi_t rfl rfl (t_alloc (fun _ => rfl) rfl) (fun _ _ _ _ _ _ _ h => by cases h) rfl ?_
        rintro _ _ ⟨b3, rfl, rfl⟩
        refine wa_1 11 Zk ?_
        refine wi_t rfl rfl (t_callS (ubF F.bu F.bb F.L F.D Y1 ⟨M.calm, T⟩ d) rfl (fun _ _ => rfl) Zi (fun w hi hin => HD2 Y1 _ _ w hin (fun w' hk => ⟨hi.rdKs Zi Zh hk, rdNil _ _, by decide, by decide⟩))) (fun _ _ _ _ _ _ _ h => by cases h) rfl ?_
        rintro _ _ ⟨_, ⟨X2, Y2, Aq, cq, rfl, rfl⟩, rfl⟩
        refine wa_1 13 Zk ?_
        refine wi_t0 rfl rfl (t_storeN (fun _ => rfl) rfl rfl (allT rfl) Za (by exact rfl)) (fun _ _ _ _ _ _ _ h => by cases h) ?_
        rintro _ _ ⟨rfl, rfl⟩
        refine wa_done Zk ?_
        refine Zt (Zs (Zr (Zy (y_field 16 rfl (Zv rfl) Zf) ?_)))
        refine Zz rfl ?_
        refine Zm rfl (Zyy rfl rfl (y_field 0 rfl (Zv rfl) Zf) ?_)
        refine Zyy rfl rfl (y_field 10 rfl (ev_g rfl) Zf) ?_
        refine wl_yg (guard_yes rfl rfl) (y_load (fun _ => rfl) (ev_g rfl)) (row_cell Zh rfl) rfl ?_
        refine Zyy rfl rfl (y_eql (ev_g rfl) (Zv rfl) rfl) ?_
        refine Zy (y_and (Zv rfl) (pk_yes rfl (fun _ => rfl))) (Zm rfl (Zyy rfl rfl (y_field 0 rfl (Zv rfl) Zf) ?_))
        refine Zyy rfl rfl (y_field 1 rfl (ev_g rfl) Zf) ?_
        refine wl_yg (guard_yes rfl rfl) (y_load (fun _ => rfl) (ev_g rfl)) (row_cell Zh rfl) rfl ?_
        refine Zyy rfl rfl (y_len ⟨_, rfl⟩ (ev_g rfl)) ?_
        refine Zyy rfl rfl (y_eql (ev_g rfl) (Zv rfl) rfl) ?_
        refine Zy (y_and (Zv rfl) (pk_yes rfl (fun _ => rfl))) (Zm rfl (Zyy rfl rfl (y_field 0 rfl (Zv rfl) Zf) ?_))
        refine Zyy rfl rfl (y_field 14 rfl (ev_g rfl) Zf) ?_
        refine wl_yg (guard_yes rfl rfl) (y_load (fun _ => rfl) (ev_g rfl)) (row_cell Zh rfl) rfl ?_
        refine Zyy rfl rfl (y_eql (ev_g rfl) (Zv rfl) rfl) ?_
        refine Zy (y_and (Zv rfl) (pk_yes rfl (fun _ => rfl))) (Zm rfl (Zyy rfl rfl (y_field 0 rfl (Zv rfl) Zf) ?_))
        refine Zyy rfl rfl (y_field 10 rfl (ev_g rfl) Zf) ?_
        refine wl_yg (guard_yes rfl rfl) (y_load (fun _ => rfl) (ev_g rfl)) (row_cell Zh rfl) rfl ?_
        refine Zyy rfl rfl (y_eql (ev_g rfl) (Zv rfl) rfl) ?_
        refine Zy (y_and (Zv rfl) (pk_yes rfl (fun _ => rfl))) (Zm rfl (Zyy rfl rfl (y_build rfl rfl (fun _ => rfl) rfl rfl rfl Zb) ?_))
        refine Zyy rfl rfl (y_build rfl rfl (fun _ => rfl) rfl rfl rfl Zb) ?_
        refine wl_tg (guard_yes rfl rfl) rfl (t_call rfl (fun _ _ => rfl) (fun w hi => HK w)) rfl ?_
        rintro _ _ ⟨_, ⟨rfl, rfl⟩, rfl⟩
        refine Zyy rfl rfl (y_eql (ev_g rfl) (Zv rfl) rfl) ?_
        refine Zy (y_and (Zv rfl) (pk_yes rfl (fun _ => rfl))) (Zg rfl (Zn (Zt (Ze (ret1 (cs' := []) (.inl rfl) Zu rfl rfl ?_)))))
        exact ⟨rfl, rfl⟩
      refine wi_t rfl rfl (t_alloc (fun _ => rfl) rfl) (fun _ _ _ _ _ _ _ h => by cases h) rfl ?_
      rintro _ _ ⟨b3, rfl, rfl⟩
      refine wa_1 0 Zk ?_
      refine wi_t rfl rfl (t_buildSl1 rfl rfl (fun _ => rfl) (fun _ => rfl) rfl rfl) (fun _ _ _ _ _ _ _ h => by cases h) rfl ?_
      rintro _ _ ⟨b19, rfl, rfl⟩
      refine wa_yn 1 rfl Zk Zk Zk (y_build rfl rfl (fun _ => rfl) rfl rfl rfl Zb) rfl ?_
      refine wa_1 11 Zk ?_
      refine wi_t rfl rfl (t_callS (ubF F.bu F.bb F.L F.D Y1 ⟨M.calm, T⟩ d) rfl (fun _ _ => rfl) Zi (fun w hi hin => HD2 Y1 _ _ w hin (fun w' hk => ⟨hi.rdKs Zi Zh hk, rdNil _ _, by decide, by decide⟩))) (fun _ _ _ _ _ _ _ h => by cases h) rfl ?_
      rintro _ _ ⟨_, ⟨X2, Y2, Aq, cq, rfl, rfl⟩, rfl⟩
      refine wa_1 13 Zk ?_
      refine wi_t0 rfl rfl (t_storeN (fun _ => rfl) rfl rfl (allT rfl) Za (by exact rfl)) (fun _ _ _ _ _ _ _ h => by cases h) ?_
      rintro _ _ ⟨rfl, rfl⟩
      refine wa_done Zk ?_
      refine Zt (Zs (Zr (Zy (y_field 16 rfl (Zv rfl) Zf) ?_)))
      refine Zz rfl ?_
      refine Zm rfl (Zyy rfl rfl (y_field 0 rfl (Zv rfl) Zf) ?_)
      refine Zyy rfl rfl (y_field 10 rfl (ev_g rfl) Zf) ?_
      refine wl_yg (guard_yes rfl rfl) (y_load (fun _ => rfl) (ev_g rfl)) (row_cell Zh rfl) rfl ?_
      refine Zyy rfl rfl (y_eql (ev_g rfl) (Zv rfl) rfl) ?_
      refine Zy (y_and (Zv rfl) (pk_yes rfl (fun _ => rfl))) (Zm rfl (Zyy rfl rfl (y_field 0 rfl (Zv rfl) Zf) ?_))
      refine Zyy rfl rfl (y_field 1 rfl (ev_g rfl) Zf) ?_
      refine wl_yg (guard_yes rfl rfl) (y_load (fun _ => rfl) (ev_g rfl)) (row_cell Zh rfl) rfl ?_
      refine Zyy rfl rfl (y_len ⟨_, rfl⟩ (ev_g rfl)) ?_
      refine Zyy rfl rfl (y_eql (ev_g rfl) (Zv rfl) rfl) ?_
      refine Zy (y_and (Zv rfl) (pk_yes rfl (fun _ => rfl))) (Zm rfl (Zyy rfl rfl (y_field 0 rfl (Zv rfl) Zf) ?_))
      refine Zyy rfl rfl (y_field 14 rfl (ev_g rfl) Zf) ?_
      refine wl_yg (guard_yes rfl rfl) (y_load (fun _ => rfl) (ev_g rfl)) (row_cell Zh rfl) rfl ?_
      refine Zyy rfl rfl (y_eql (ev_g rfl) (Zv rfl) rfl) ?_
      refine Zy (y_and (Zv rfl) (pk_yes rfl (fun _ => rfl))) (Zm rfl (Zyy rfl rfl (y_field 0 rfl (Zv rfl) Zf) ?_))
      refine Zyy rfl rfl (y_field 10 rfl (ev_g rfl) Zf) ?_
      refine wl_yg (guard_yes rfl rfl) (y_load (fun _ => rfl) (ev_g rfl)) (row_cell Zh rfl) rfl ?_
      refine Zyy rfl rfl (y_eql (ev_g rfl) (Zv rfl) rfl) ?_
      refine Zy (y_and (Zv rfl) (pk_yes rfl (fun _ => rfl))) (Zm rfl (Zyy rfl rfl (y_build rfl rfl (fun _ => rfl) rfl rfl rfl Zb) ?_))
      refine Zyy rfl rfl (y_build rfl rfl (fun _ => rfl) rfl rfl rfl Zb) ?_
      refine wl_tg (guard_yes rfl rfl) rfl (t_call rfl (fun _ _ => rfl) (fun w hi => HK w)) rfl ?_
      rintro _ _ ⟨_, ⟨rfl, rfl⟩, rfl⟩
      refine Zyy rfl rfl (y_eql (ev_g rfl) (Zv rfl) rfl) ?_
      refine Zy (y_and (Zv rfl) (pk_yes rfl (fun _ => rfl))) (Zg rfl (Zn (Zt (Ze (ret1 (cs' := []) (.inl rfl) Zu rfl rfl ?_)))))
      exact ⟨rfl, rfl⟩
    refine wi_t rfl rfl (t_alloc (fun _ => rfl) rfl) (fun _ _ _ _ _ _ _ h => by cases h) rfl ?_
    rintro _ _ ⟨b2, rfl, rfl⟩
    refine wa_1 11 Zk ?_
    refine wi_t rfl rfl (t_callS (ubF F.bu F.bb F.L F.D ⟨none, 0, none, 0⟩ ⟨M, T⟩ d) rfl (fun _ _ => rfl) Zi (fun w hi hin => HD1 _ _ w hin (fun w' hk => ⟨hi.rdKs Zi Zh hk, rdNil _ _, by decide, by decide⟩))) (fun _ _ _ _ _ _ _ h => by cases h) rfl ?_
    rintro _ _ ⟨_, ⟨X1, Y1, Ap, cp, rfl, rfl⟩, rfl⟩
    refine wa_1 13 Zk ?_
    refine wi_t0 rfl rfl (t_storeN (fun _ => rfl) rfl rfl (allT rfl) Za (by exact rfl)) (fun _ _ _ _ _ _ _ h => by cases h) ?_
    rintro _ _ ⟨rfl, rfl⟩
    refine wa_done Zk ?_
    refine Zt (Zs (wc_draw ⟨fun j => List.elem j [11, 13], []⟩ Zk ?_))
    refine wa_yn 2 rfl Zk Zk Zk (y_build rfl rfl (fun _ => rfl) rfl rfl rfl Zb) rfl ?_
    refine wa_yn 3 rfl Zk Zk Zk (y_move (Zv rfl)) rfl ?_
    refine wa_yn 4 rfl Zk Zk Zk (y_nil (Zv rfl)) rfl ?_
    refine wa_yn 5 rfl Zk Zk Zk (y_field 0 rfl (Zv rfl) Zf) rfl ?_
    refine wa_ln 6 rfl Zk Zk Zk Zk (y_load (fun _ => rfl) (Zv rfl)) (row_cell Zh rfl) rfl ?_
    refine wa_yn 7 rfl Zk Zk Zk (y_move (Zv rfl)) rfl ?_
    refine wa_yn 8 rfl Zk Zk Zk (y_nil (Zv rfl)) rfl ?_
    refine wa_yn 9 rfl Zk Zk Zk (y_field 1 rfl (Zv rfl) Zf) rfl ?_
    refine wa_ln 10 rfl Zk Zk Zk Zk (y_load (fun _ => rfl) (Zv rfl)) (row_cell Zh rfl) rfl ?_
    refine wa_2 0 12 Zk ?_ ?_
    · refine wi_t rfl rfl (t_buildSl1 rfl rfl (fun _ => rfl) (fun _ => rfl) rfl rfl) (fun _ _ _ _ _ _ _ h => by cases h) rfl ?_
      rintro _ _ ⟨b19, rfl, rfl⟩
      refine wa_yn 1 rfl Zk Zk Zk (y_build rfl rfl (fun _ => rfl) rfl rfl rfl Zb) rfl ?_
      refine wa_2 11 12 Zk ?_ ?_
      · refine wi_t rfl rfl (t_callS (ubF F.bu F.bb F.L F.D Y1 ⟨M.calm, T⟩ d) rfl (fun _ _ => rfl) Zi (fun w hi hin => HD2 Y1 _ _ w hin (fun w' hk => ⟨hi.rdKs Zi Zh hk, rdNil _ _, by decide, by decide⟩))) (fun _ _ _ _ _ _ _ h => by cases h) rfl ?_
        rintro _ _ ⟨_, ⟨X2, Y2, Aq, cq, rfl, rfl⟩, rfl⟩
        refine wa_1 12 Zk ?_
        refine wi_t rfl rfl (t_alloc (fun _ => rfl) rfl) (fun _ _ _ _ _ _ _ h => by cases h) rfl ?_
        rintro _ _ ⟨b3, rfl, rfl⟩
        refine wa_1 13 Zk ?_
        refine wi_t0 rfl rfl (t_storeN (fun _ => rfl) rfl rfl (allT rfl) Za (by exact rfl)) (fun _ _ _ _ _ _ _ h => by cases h) ?_
        rintro _ _ ⟨rfl, rfl⟩
        refine wa_done Zk ?_
        refine Zt (Zs (Zr (Zy (y_field 16 rfl (Zv rfl) Zf) ?_)))
        refine Zz rfl ?_
        refine Zm rfl (Zyy rfl rfl (y_field 0 rfl (Zv rfl) Zf) ?_)
        refine Zyy rfl rfl (y_field 10 rfl (ev_g rfl) Zf) ?_
        refine wl_yg (guard_yes rfl rfl) (y_load (fun _ => rfl) (ev_g rfl)) (row_cell Zh rfl) rfl ?_
        refine Zyy rfl rfl (y_eql (ev_g rfl) (Zv rfl) rfl) ?_
        refine Zy (y_and (Zv rfl) (pk_yes rfl (fun _ => rfl))) (Zm rfl (Zyy rfl rfl (y_field 0 rfl (Zv rfl) Zf) ?_))
        refine Zyy rfl rfl (y_field 1 rfl (ev_g rfl) Zf) ?_
        refine wl_yg (guard_yes rfl rfl) (y_load (fun _ => rfl) (ev_g rfl)) (row_cell Zh rfl) rfl ?_
        refine Zyy rfl rfl (y_len ⟨_, rfl⟩ (ev_g rfl)) ?_
        refine Zyy rfl rfl (y_eql (ev_g rfl) (Zv rfl) rfl) ?_
        refine Zy (y_and (Zv rfl) (pk_yes rfl (fun _ => rfl))) (Zm rfl (Zyy rfl rfl (y_field 0 rfl (Zv rfl) Zf) ?_))
        refine Zyy rfl rfl (y_field 14 rfl (ev_g rfl) Zf) ?_
        refine wl_yg (guard_yes rfl rfl) (y_load (fun _ => rfl) (ev_g rfl)) (row_cell Zh rfl) rfl ?_
        refine Zyy rfl rfl (y_eql (ev_g rfl) (Zv rfl) rfl) ?_
        refine Zy (y_and (Zv rfl) (pk_yes rfl (fun _ => rfl))) (Zm rfl (Zyy rfl rfl (y_field 0 rfl (Zv rfl) Zf) ?_))
        refine Zyy rfl rfl (y_field 10 rfl (ev_g rfl) Zf) ?_
        refine wl_yg (guard_yes rfl rfl) (y_load (fun _ => rfl) (ev_g rfl)) (row_cell Zh rfl) rfl ?_
        refine Zyy rfl rfl (y_eql (ev_g rfl) (Zv rfl) rfl) ?_
        refine Zy (y_and (Zv rfl) (pk_yes rfl (fun _ => rfl))) (Zm rfl (Zyy rfl rfl (y_build rfl rfl (fun _ => rfl) rfl rfl rfl Zb) ?_))
        refine Zyy rfl rfl (y_build rfl rfl (fun _ => rfl) rfl rfl rfl Zb) ?_
        refine wl_tg (guard_yes rfl rfl) rfl (t_call rfl (fun _ _ => rfl) (fun w hi => HK w)) rfl ?_
        rintro _ _ ⟨_, ⟨rfl, rfl⟩, rfl⟩
        refine Zyy rfl rfl (y_eql (ev_g rfl) (Zv rfl) rfl) ?_
        refine Zy (y_and (Zv rfl) (pk_yes rfl (fun _ => rfl))) (Zg rfl (Zn (Zt (Ze (ret1 (cs' := []) (.inl rfl) Zu rfl rfl ?_)))))
        exact ⟨rfl, rfl⟩
      refine wi_t rfl rfl (t_alloc (fun _ => rfl) rfl) (fun _ _ _ _ _ _ _ h => by cases h) rfl ?_
      rintro _ _ ⟨b3, rfl, rfl⟩
      refine wa_1 11 Zk ?_
      refine wi_t rfl rfl (t_callS (ubF F.bu F.bb F.L F.D Y1 ⟨M.calm, T⟩ d) rfl (fun _ _ => rfl) Zi (fun w hi hin => HD2 Y1 _ _ w hin (fun w' hk => ⟨hi.rdKs Zi Zh hk, rdNil _ _, by decide, by decide⟩))) (fun _ _ _ _ _ _ _ h => by cases h) rfl ?_
      rintro _ _ ⟨_, ⟨X2, Y2, Aq, cq, rfl, rfl⟩, rfl⟩
      refine wa_1 13 Zk ?_
      refine wi_t0 rfl rfl (t_storeN (fun _ => rfl) rfl rfl (allT rfl) Za (by exact rfl)) (fun _ _ _ _ _ _ _ h => by cases h) ?_
      rintro _ _ ⟨rfl, rfl⟩
      refine wa_done Zk ?_
      refine Zt (Zs (Zr (Zy (y_field 16 rfl (Zv rfl) Zf) ?_)))
      refine Zz rfl ?_
      refine Zm rfl (Zyy rfl rfl (y_field 0 rfl (Zv rfl) Zf) ?_)
      refine Zyy rfl rfl (y_field 10 rfl (ev_g rfl) Zf) ?_
      refine wl_yg (guard_yes rfl rfl) (y_load (fun _ => rfl) (ev_g rfl)) (row_cell Zh rfl) rfl ?_
      refine Zyy rfl rfl (y_eql (ev_g rfl) (Zv rfl) rfl) ?_
      refine Zy (y_and (Zv rfl) (pk_yes rfl (fun _ => rfl))) (Zm rfl (Zyy rfl rfl (y_field 0 rfl (Zv rfl) Zf) ?_))
      refine Zyy rfl rfl (y_field 1 rfl (ev_g rfl) Zf) ?_
      refine wl_yg (guard_yes rfl rfl) (y_load (fun _ => rfl) (ev_g rfl)) (row_cell Zh rfl) rfl ?_
      refine Zyy rfl rfl (y_len ⟨_, rfl⟩ (ev_g rfl)) ?_
      refine Zyy rfl rfl (y_eql (ev_g rfl) (Zv rfl) rfl) ?_
      refine Zy (y_and (Zv rfl) (pk_yes rfl (fun _ => rfl))) (Zm rfl (Zyy rfl rfl (y_field 0 rfl (Zv rfl) Zf) ?_))
      refine Zyy rfl rfl (y_field 14 rfl (ev_g rfl) Zf) ?_
      refine wl_yg (guard_yes rfl rfl) (y_load (fun _ => rfl) (ev_g rfl)) (row_cell Zh rfl) rfl ?_
      refine Zyy rfl rfl (y_eql (ev_g rfl) (Zv rfl) rfl) ?_
      refine Zy (y_and (Zv rfl) (pk_yes rfl (fun _ => rfl))) (Zm rfl (Zyy rfl rfl (y_field 0 rfl (Zv rfl) Zf) ?_))
      refine Zyy rfl rfl (y_field 10 rfl (ev_g rfl) Zf) ?_
      refine wl_yg (guard_yes rfl rfl) (y_load (fun _ => rfl) (ev_g rfl)) (row_cell Zh rfl) rfl ?_
      refine Zyy rfl rfl (y_eql (ev_g rfl) (Zv rfl) rfl) ?_
      refine Zy (y_and (Zv rfl) (pk_yes rfl (fun _ => rfl))) (Zm rfl (Zyy rfl rfl (y_build rfl rfl (fun _ => rfl) rfl rfl rfl Zb) ?_))
      refine Zyy rfl rfl (y_build rfl rfl (fun _ => rfl) rfl rfl rfl Zb) ?_
      refine wl_tg (guard_yes rfl rfl) rfl (t_call rfl (fun _ _ => rfl) (fun w hi => HK w)) rfl ?_
      rintro _ _ ⟨_, ⟨rfl, rfl⟩, rfl⟩
      refine Zyy rfl rfl (y_eql (ev_g rfl) (Zv rfl) rfl) ?_
      refine Zy (y_and (Zv rfl) (pk_yes rfl (fun _ => rfl))) (Zg rfl (Zn (Zt (Ze (ret1 (cs' := []) (.inl rfl) Zu rfl rfl ?_)))))
      exact ⟨rfl, rfl⟩
    refine wi_t rfl rfl (t_alloc (fun _ => rfl) rfl) (fun _ _ _ _ _ _ _ h => by cases h) rfl ?_
    rintro _ _ ⟨b3, rfl, rfl⟩
    refine wa_1 0 Zk ?_
    refine wi_t rfl rfl (t_buildSl1 rfl rfl (fun _ => rfl) (fun _ => rfl) rfl rfl) (fun _ _ _ _ _ _ _ h => by cases h) rfl ?_
    rintro _ _ ⟨b19, rfl, rfl⟩
    refine wa_yn 1 rfl Zk Zk Zk (y_build rfl rfl (fun _ => rfl) rfl rfl rfl Zb) rfl ?_
    refine wa_1 11 Zk ?_
    refine wi_t rfl rfl (t_callS (ubF F.bu F.bb F.L F.D Y1 ⟨M.calm, T⟩ d) rfl (fun _ _ => rfl) Zi (fun w hi hin => HD2 Y1 _ _ w hin (fun w' hk => ⟨hi.rdKs Zi Zh hk, rdNil _ _, by decide, by decide⟩))) (fun _ _ _ _ _ _ _ h => by cases h) rfl ?_
    rintro _ _ ⟨_, ⟨X2, Y2, Aq, cq, rfl, rfl⟩, rfl⟩
    refine wa_1 13 Zk ?_
    refine wi_t0 rfl rfl (t_storeN (fun _ => rfl) rfl rfl (allT rfl) Za (by exact rfl)) (fun _ _ _ _ _ _ _ h => by cases h) ?_
    rintro _ _ ⟨rfl, rfl⟩
    refine wa_done Zk ?_
    refine Zt (Zs (Zr (Zy (y_field 16 rfl (Zv rfl) Zf) ?_)))
    refine Zz rfl ?_
    refine Zm rfl (Zyy rfl rfl (y_field 0 rfl (Zv rfl) Zf) ?_)
    refine Zyy rfl rfl (y_field 10 rfl (ev_g rfl) Zf) ?_
    refine wl_yg (guard_yes rfl rfl) (y_load (fun _ => rfl) (ev_g rfl)) (row_cell Zh rfl) rfl ?_
    refine Zyy rfl rfl (y_eql (ev_g rfl) (Zv rfl) rfl) ?_
    refine Zy (y_and (Zv rfl) (pk_yes rfl (fun _ => rfl))) (Zm rfl (Zyy rfl rfl (y_field 0 rfl (Zv rfl) Zf) ?_))
    refine Zyy rfl rfl (y_field 1 rfl (ev_g rfl) Zf) ?_
    refine wl_yg (guard_yes rfl rfl) (y_load (fun _ => rfl) (ev_g rfl)) (row_cell Zh rfl) rfl ?_
    refine Zyy rfl rfl (y_len ⟨_, rfl⟩ (ev_g rfl)) ?_
    refine Zyy rfl rfl (y_eql (ev_g rfl) (Zv rfl) rfl) ?_
    refine Zy (y_and (Zv rfl) (pk_yes rfl (fun _ => rfl))) (Zm rfl (Zyy rfl rfl (y_field 0 rfl (Zv rfl) Zf) ?_))
    refine Zyy rfl rfl (y_field 14 rfl (ev_g rfl) Zf) ?_
    refine wl_yg (guard_yes rfl rfl) (y_load (fun _ => rfl) (ev_g rfl)) (row_cell Zh rfl) rfl ?_
    refine Zyy rfl rfl (y_eql (ev_g rfl) (Zv rfl) rfl) ?_
    refine Zy (y_and (Zv rfl) (pk_yes rfl (fun _ => rfl))) (Zm rfl (Zyy rfl rfl (y_field 0 rfl (Zv rfl) Zf) ?_))
    refine Zyy rfl rfl (y_field 10 rfl (ev_g rfl) Zf) ?_
    refine wl_yg (guard_yes rfl rfl) (y_load (fun _ => rfl) (ev_g rfl)) (row_cell Zh rfl) rfl ?_
    refine Zyy rfl rfl (y_eql (ev_g rfl) (Zv rfl) rfl) ?_
    refine Zy (y_and (Zv rfl) (pk_yes rfl (fun _ => rfl))) (Zm rfl (Zyy rfl rfl (y_build rfl rfl (fun _ => rfl) rfl rfl rfl Zb) ?_))
    refine Zyy rfl rfl (y_build rfl rfl (fun _ => rfl) rfl rfl rfl Zb) ?_
    refine wl_tg (guard_yes rfl rfl) rfl (t_call rfl (fun _ _ => rfl) (fun w hi => HK w)) rfl ?_
    rintro _ _ ⟨_, ⟨rfl, rfl⟩, rfl⟩
    refine Zyy rfl rfl (y_eql (ev_g rfl) (Zv rfl) rfl) ?_
    refine Zy (y_and (Zv rfl) (pk_yes rfl (fun _ => rfl))) (Zg rfl (Zn (Zt (Ze (ret1 (cs' := []) (.inl rfl) Zu rfl rfl ?_)))))
    exact ⟨rfl, rfl⟩
  refine wi_t rfl rfl (t_alloc (fun _ => rfl) rfl) (fun _ _ _ _ _ _ _ h => by cases h) rfl ?_
  rintro _ _ ⟨b2, rfl, rfl⟩
  refine wa_1 0 Zk ?_
  refine wi_t rfl rfl (t_buildSl1 rfl rfl (fun _ => rfl) (fun _ => rfl) rfl rfl) (fun _ _ _ _ _ _ _ h => by cases h) rfl ?_
  rintro _ _ ⟨b7, rfl, rfl⟩
  refine wa_yn 1 rfl Zk Zk Zk (y_build rfl rfl (fun _ => rfl) rfl rfl rfl Zb) rfl ?_
  refine wa_1 11 Zk ?_
  refine wi_t rfl rfl (t_callS (ubF F.bu F.bb F.L F.D ⟨none, 0, none, 0⟩ ⟨M, T⟩ d) rfl (fun _ _ => rfl) Zi (fun w hi hin => HD1 _ _ w hin (fun w' hk => ⟨hi.rdKs Zi Zh hk, rdNil _ _, by decide, by decide⟩))) (fun _ _ _ _ _ _ _ h => by cases h) rfl ?_
  rintro _ _ ⟨_, ⟨X1, Y1, Ap, cp, rfl, rfl⟩, rfl⟩
  refine wa_1 13 Zk ?_
  refine wi_t0 rfl rfl (t_storeN (fun _ => rfl) rfl rfl (allT rfl) Za (by exact rfl)) (fun _ _ _ _ _ _ _ h => by cases h) ?_
  rintro _ _ ⟨rfl, rfl⟩
  refine wa_done Zk ?_
  refine Zt (Zs (wc_draw ⟨fun j => List.elem j [11, 13], []⟩ Zk ?_))
  refine wa_yn 2 rfl Zk Zk Zk (y_build rfl rfl (fun _ => rfl) rfl rfl rfl Zb) rfl ?_
  refine wa_yn 3 rfl Zk Zk Zk (y_move (Zv rfl)) rfl ?_
  refine wa_yn 4 rfl Zk Zk Zk (y_nil (Zv rfl)) rfl ?_
  refine wa_yn 5 rfl Zk Zk Zk (y_field 0 rfl (Zv rfl) Zf) rfl ?_
  refine wa_ln 6 rfl Zk Zk Zk Zk (y_load (fun _ => rfl) (Zv rfl)) (row_cell Zh rfl) rfl ?_
  refine wa_yn 7 rfl Zk Zk Zk (y_move (Zv rfl)) rfl ?_
  refine wa_yn 8 rfl Zk Zk Zk (y_nil (Zv rfl)) rfl ?_
  refine wa_yn 9 rfl Zk Zk Zk (y_field 1 rfl (Zv rfl) Zf) rfl ?_
  refine wa_ln 10 rfl Zk Zk Zk Zk (y_load (fun _ => rfl) (Zv rfl)) (row_cell Zh rfl) rfl ?_
  refine wa_2 0 12 Zk ?_ ?_
  · refine wi_t rfl rfl (t_buildSl1 rfl rfl (fun _ => rfl) (fun _ => rfl) rfl rfl) (fun _ _ _ _ _ _ _ h => by cases h) rfl ?_
    rintro _ _ ⟨b19, rfl, rfl⟩
    refine wa_yn 1 rfl Zk Zk Zk (y_build rfl rfl (fun _ => rfl) rfl rfl rfl Zb) rfl ?_
    refine wa_2 11 12 Zk ?_ ?_
    · refine wi_t rfl rfl (t_callS (ubF F.bu F.bb F.L F.D Y1 ⟨M.calm, T⟩ d) rfl (fun _ _ => rfl) Zi (fun w hi hin => HD2 Y1 _ _ w hin (fun w' hk => ⟨hi.rdKs Zi Zh hk, rdNil _ _, by decide, by decide⟩))) (fun _ _ _ _ _ _ _ h => by cases h) rfl ?_
      rintro _ _ ⟨_, ⟨X2, Y2, Aq, cq, rfl, rfl⟩, rfl⟩
      refine wa_1 12 Zk ?_
      refine wi_t rfl rfl (t_alloc (fun _ => rfl) rfl) (fun _ _ _ _ _ _ _ h => by cases h) rfl ?_
      rintro _ _ ⟨b3, rfl, rfl⟩
      refine wa_1 13 Zk ?_
      refine wi_t0 rfl rfl (t_storeN (fun _ => rfl) rfl rfl (allT rfl) Za (by exact rfl)) (fun _ _ _ _ _ _ _ h => by cases h) ?_
      rintro _ _ ⟨rfl, rfl⟩
      refine wa_done Zk ?_
      refine Zt (Zs (Zr (Zy (y_field 16 rfl (Zv rfl) Zf) ?_)))
      refine Zz rfl ?_
      refine Zm rfl (Zyy rfl rfl (y_field 0 rfl (Zv rfl) Zf) ?_)
      refine Zyy rfl rfl (y_field 10 rfl (ev_g rfl) Zf) ?_
      refine wl_yg (guard_yes rfl rfl) (y_load (fun _ => rfl) (ev_g rfl)) (row_cell Zh rfl) rfl ?_
      refine Zyy rfl rfl (y_eql (ev_g rfl) (Zv rfl) rfl) ?_
      refine Zy (y_and (Zv rfl) (pk_yes rfl (fun _ => rfl))) (Zm rfl (Zyy rfl rfl (y_field 0 rfl (Zv rfl) Zf) ?_))
      refine Zyy rfl rfl (y_field 1 rfl (ev_g rfl) Zf) ?_
      refine wl_yg (guard_yes rfl rfl) (y_load (fun _ => rfl) (ev_g rfl)) (row_cell Zh rfl) rfl ?_
      refine Zyy rfl rfl (y_len ⟨_, rfl⟩ (ev_g rfl)) ?_
      refine Zyy rfl rfl (y_eql (ev_g rfl) (Zv rfl) rfl) ?_
      refine Zy (y_and (Zv rfl) (pk_yes rfl (fun _ => rfl))) (Zm rfl (Zyy rfl rfl (y_field 0 rfl (Zv rfl) Zf) ?_))
      refine Zyy rfl rfl (y_field 14 rfl (ev_g rfl) Zf) ?_
      refine wl_yg (guard_yes rfl rfl) (y_load (fun _ => rfl) (ev_g rfl)) (row_cell Zh rfl) rfl ?_
      refine Zyy rfl rfl (y_eql (ev_g rfl) (Zv rfl) rfl) ?_
      refine Zy (y_and (Zv rfl) (pk_yes rfl (fun _ => rfl))) (Zm rfl (Zyy rfl rfl (y_field 0 rfl (Zv rfl) Zf) ?_))
      refine Zyy rfl rfl (y_field 10 rfl (ev_g rfl) Zf) ?_
      refine wl_yg (guard_yes rfl rfl) (y_load (fun _ => rfl) (ev_g rfl)) (row_cell Zh rfl) rfl ?_
      refine Zyy rfl rfl (y_eql (ev_g rfl) (Zv rfl) rfl) ?_
      refine Zy (y_and (Zv rfl) (pk_yes rfl (fun _ => rfl))) (Zm rfl (Zyy rfl rfl (y_build rfl rfl (fun _ => rfl) rfl rfl rfl Zb) ?_))
      refine Zyy rfl rfl (y_build rfl rfl (fun _ => rfl) rfl rfl rfl Zb) ?_
      refine wl_tg (guard_yes rfl rfl) rfl (t_call rfl (fun _ _ => rfl) (fun w hi => HK w)) rfl ?_
      rintro _ _ ⟨_, ⟨rfl, rfl⟩, rfl⟩
      refine Zyy rfl rfl (y_eql (ev_g rfl) (Zv rfl) rfl) ?_
      refine Zy (y_and (Zv rfl) (pk_yes rfl (fun _ => rfl))) (Zg rfl (Zn (Zt (Ze (ret1 (cs' := []) (.inl rfl) Zu rfl rfl ?_)))))
      exact ⟨rfl, rfl⟩
    refine wi_t rfl rfl (t_alloc (fun _ => rfl) rfl) (fun _ _ _ _ _ _ _ h => by cases h) rfl ?_
    rintro _ _ ⟨b3, rfl, rfl⟩
    refine wa_1 11 Zk ?_
    refine wi_t rfl rfl (t_callS (ubF F.bu F.bb F.L F.D Y1 ⟨M.calm, T⟩ d) rfl (fun _ _ => rfl) Zi (fun w hi hin => HD2 Y1 _ _ w hin (fun w' hk => ⟨hi.rdKs Zi Zh hk, rdNil _ _, by decide, by decide⟩))) (fun _ _ _ _ _ _ _ h => by cases h) rfl ?_
    rintro _ _ ⟨_, ⟨X2, Y2, Aq, cq, rfl, rfl⟩, rfl⟩
    refine wa_1 13 Zk ?_
    refine wi_t0 rfl rfl (t_storeN (fun _ => rfl) rfl rfl (allT rfl) Za (by exact rfl)) (fun _ _ _ _ _ _ _ h => by cases h) ?_
    rintro _ _ ⟨rfl, rfl⟩
    refine wa_done Zk ?_
    refine Zt (Zs (Zr (Zy (y_field 16 rfl (Zv rfl) Zf) ?_)))
    refine Zz rfl ?_
    refine Zm rfl (Zyy rfl rfl (y_field 0 rfl (Zv rfl) Zf) ?_)
    refine Zyy rfl rfl (y_field 10 rfl (ev_g rfl) Zf) ?_
    refine wl_yg (guard_yes rfl rfl) (y_load (fun _ => rfl) (ev_g rfl)) (row_cell Zh rfl) rfl ?_
    refine Zyy rfl rfl (y_eql (ev_g rfl) (Zv rfl) rfl) ?_
    refine Zy (y_and (Zv rfl) (pk_yes rfl (fun _ => rfl))) (Zm rfl (Zyy rfl rfl (y_field 0 rfl (Zv rfl) Zf) ?_))
    refine Zyy rfl rfl (y_field 1 rfl (ev_g rfl) Zf) ?_
    refine wl_yg (guard_yes rfl rfl) (y_load (fun _ => rfl) (ev_g rfl)) (row_cell Zh rfl) rfl ?_
    refine Zyy rfl rfl (y_len ⟨_, rfl⟩ (ev_g rfl)) ?_
    refine Zyy rfl rfl (y_eql (ev_g rfl) (Zv rfl) rfl) ?_
    refine Zy (y_and (Zv rfl) (pk_yes rfl (fun _ => rfl))) (Zm rfl (Zyy rfl rfl (y_field 0 rfl (Zv rfl) Zf) ?_))
    refine Zyy rfl rfl (y_field 14 rfl (ev_g rfl) Zf) ?_
    refine wl_yg (guard_yes rfl rfl) (y_load (fun _ => rfl) (ev_g rfl)) (row_cell Zh rfl) rfl ?_
    refine Zyy rfl rfl (y_eql (ev_g rfl) (Zv rfl) rfl) ?_
    refine Zy (y_and (Zv rfl) (pk_yes rfl (fun _ => rfl))) (Zm rfl (Zyy rfl rfl (y_field 0 rfl (Zv rfl) Zf) ?_))
    refine Zyy rfl rfl (y_field 10 rfl (ev_g rfl) Zf) ?_
    refine wl_yg (guard_yes rfl rfl) (y_load (fun _ => rfl) (ev_g rfl)) (row_cell Zh rfl) rfl ?_
    refine Zyy rfl rfl (y_eql (ev_g rfl) (Zv rfl) rfl) ?_
    refine Zy (y_and (Zv rfl) (pk_yes rfl (fun _ => rfl))) (Zm rfl (Zyy rfl rfl (y_build rfl rfl (fun _ => rfl) rfl rfl rfl Zb) ?_))
    refine Zyy rfl rfl (y_build rfl rfl (fun _ => rfl) rfl rfl rfl Zb) ?_
    refine wl_tg (guard_yes rfl rfl) rfl (t_call rfl (fun _ _ => rfl) (fun w hi => HK w)) rfl ?_
    rintro _ _ ⟨_, ⟨rfl, rfl⟩, rfl⟩
    refine Zyy rfl rfl (y_eql (ev_g rfl) (Zv rfl) rfl) ?_
    refine Zy (y_and (Zv rfl) (pk_yes rfl (fun _ => rfl))) (Zg rfl (Zn (Zt (Ze (ret1 (cs' := []) (.inl rfl) Zu rfl rfl ?_)))))
    exact ⟨rfl, rfl⟩
  refine wi_t rfl rfl (t_alloc (fun _ => rfl) rfl) (fun _ _ _ _ _ _ _ h => by cases h) rfl ?_
  rintro _ _ ⟨b3, rfl, rfl⟩
  refine wa_1 0 Zk ?_
  refine wi_t rfl rfl (t_buildSl1 rfl rfl (fun _ => rfl) (fun _ => rfl) rfl rfl) (fun _ _ _ _ _ _ _ h => by cases h) rfl ?_
  rintro _ _ ⟨b19, rfl, rfl⟩
  refine wa_yn 1 rfl Zk Zk Zk (y_build rfl rfl (fun _ => rfl) rfl rfl rfl Zb) rfl ?_
  refine wa_1 11 Zk ?_
  refine wi_t rfl rfl (t_callS (ubF F.bu F.bb F.L F.D Y1 ⟨M.calm, T⟩ d) rfl (fun _ _ => rfl) Zi (fun w hi hin => HD2 Y1 _ _ w hin (fun w' hk => ⟨hi.rdKs Zi Zh hk, rdNil _ _, by decide, by decide⟩))) (fun _ _ _ _ _ _ _ h => by cases h) rfl ?_
  rintro _ _ ⟨_, ⟨X2, Y2, Aq, cq, rfl, rfl⟩, rfl⟩
  refine wa_1 13 Zk ?_
  refine wi_t0 rfl rfl (t_storeN (fun _ => rfl) rfl rfl (allT rfl) Za (by exact rfl)) (fun _ _ _ _ _ _ _ h => by cases h) ?_
  rintro _ _ ⟨rfl, rfl⟩
  refine wa_done Zk ?_
  refine Zt (Zs (Zr (Zy (y_field 16 rfl (Zv rfl) Zf) ?_)))
  refine Zz rfl ?_
  refine Zm rfl (Zyy rfl rfl (y_field 0 rfl (Zv rfl) Zf) ?_)
  refine Zyy rfl rfl (y_field 10 rfl (ev_g rfl) Zf) ?_
  refine wl_yg (guard_yes rfl rfl) (y_load (fun _ => rfl) (ev_g rfl)) (row_cell Zh rfl) rfl ?_
  refine Zyy rfl rfl (y_eql (ev_g rfl) (Zv rfl) rfl) ?_
  refine Zy (y_and (Zv rfl) (pk_yes rfl (fun _ => rfl))) (Zm rfl (Zyy rfl rfl (y_field 0 rfl (Zv rfl) Zf) ?_))
  refine Zyy rfl rfl (y_field 1 rfl (ev_g rfl) Zf) ?_
  refine wl_yg (guard_yes rfl rfl) (y_load (fun _ => rfl) (ev_g rfl)) (row_cell Zh rfl) rfl ?_
  refine Zyy rfl rfl (y_len ⟨_, rfl⟩ (ev_g rfl)) ?_
  refine Zyy rfl rfl (y_eql (ev_g rfl) (Zv rfl) rfl) ?_
  refine Zy (y_and (Zv rfl) (pk_yes rfl (fun _ => rfl))) (Zm rfl (Zyy rfl rfl (y_field 0 rfl (Zv rfl) Zf) ?_))
  refine Zyy rfl rfl (y_field 14 rfl (ev_g rfl) Zf) ?_
  refine wl_yg (guard_yes rfl rfl) (y_load (fun _ => rfl) (ev_g rfl)) (row_cell Zh rfl) rfl ?_
  refine Zyy rfl rfl (y_eql (ev_g rfl) (Zv rfl) rfl) ?_
  refine Zy (y_and (Zv rfl) (pk_yes rfl (fun _ => rfl))) (Zm rfl (Zyy rfl rfl (y_field 0 rfl (Zv rfl) Zf) ?_))
  refine Zyy rfl rfl (y_field 10 rfl (ev_g rfl) Zf) ?_
  refine wl_yg (guard_yes rfl rfl) (y_load (fun _ => rfl) (ev_g rfl)) (row_cell Zh rfl) rfl ?_
  refine Zyy rfl rfl (y_eql (ev_g rfl) (Zv rfl) rfl) ?_
  refine Zy (y_and (Zv rfl) (pk_yes rfl (fun _ => rfl))) (Zm rfl (Zyy rfl rfl (y_build rfl rfl (fun _ => rfl) rfl rfl rfl Zb) ?_))
  refine Zyy rfl rfl (y_build rfl rfl (fun _ => rfl) rfl rfl rfl Zb) ?_
  refine wl_tg (guard_yes rfl rfl) rfl (t_call rfl (fun _ _ => rfl) (fun w hi => HK w)) rfl ?_
  rintro _ _ ⟨_, ⟨rfl, rfl⟩, rfl⟩
  refine Zyy rfl rfl (y_eql (ev_g rfl) (Zv rfl) rfl) ?_
  refine Zy (y_and (Zv rfl) (pk_yes rfl (fun _ => rfl))) (Zg rfl (Zn (Zt (Ze (ret1 (cs' := []) (.inl rfl) Zu rfl rfl ?_)))))
  exact ⟨rfl, rfl⟩
end Go.Proofs.YtobjiljkfmcalaaGreat
