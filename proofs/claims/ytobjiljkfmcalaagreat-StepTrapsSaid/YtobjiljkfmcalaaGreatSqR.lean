/- The law StepLoads. -/
import Derived.Test.YtobjiljkfmcalaaGreatSqQ
import Derived.Test.YtobjiljkfmcalaaGreatInkA
set_option linter.unusedSimpArgs false
set_option linter.unusedVariables false
set_option maxRecDepth 100000
namespace Go.Ink
open Go.RowKit
theorem ldS_wf {l : List Int} (h : ∀ x, x ∈ l → u32 x) : (ldS l).wf := ⟨u0, u0, u0, u0, u0, u0, u0, ⟨by show (0 : Int) ≤ 0; decide, by show (0 : Int) ≤ 18446744073709551615; decide⟩, h, fun x hx => by cases hx⟩
end Go.Ink
namespace Go.Proofs.YtobjiljkfmcalaaGreat
open Go.RowKit Go.Ink

theorem wordsEq_ok (A B : Option Addr) (c e : Nat) (l : List Int) (w : World) (h : Rd w .u32 A l.length c l) (h2 : Rd w .u32 B l.length e l) :
    Ctr Tryz.prog 21 [.slice A l.length c, .slice B l.length e] w [] (fun v cs => v = .bool true ∧ cs = []) := by
  have hlm : l.length ≤ maxLen := Nat.le_trans h.cap h.max
  simp only [maxLen] at hlm
  refine fn_ctr Tryz.func21 rfl Tryz.ntmps21 rfl (Inv.start w) ?_
  refine Zs (Zr (Zg rfl (Zn (Zt (Zs (Zs (Zr (Zm rfl (Zy (y_len ⟨_, rfl⟩ (Zv rfl)) ?_)))))))))
  refine Zm rfl (Zy (y_len ⟨_, rfl⟩ (Zv rfl)) ?_)
  refine Zy (y_neq (Zv rfl) (Zv rfl) (bne_self_eq_false _)) ?_
  refine Zn (Zt (wc_cond_f rfl (rfl) ?_))
  refine Zc (Zt (Zs (Zs (Zr (Zg rfl (Zn (Zt (Zx ?_))))))))
  refine wc_loop (fun k : Nat => [(0, .slice A l.length c), (1, .slice B l.length e), (5, .int .i64 (k : Int))]) (fun _ => []) (fun k => k ≤ l.length) (fun k => l.length - k) (0) ?_ ?_ ?_ ?_
  · exact Nat.zero_le _
  · ((repeat' (refine Wk.cons ?_ ?_)) <;> first | exact Wk.nil | exact rfl | exact trivial | exact wk_num rfl (by omega) | exact wk_num rfl (by simp))
  · ((repeat (first | exact List.Sublist.slnil | refine List.Sublist.cons_cons _ ?_ | refine List.Sublist.cons _ ?_)))
  rintro k hk
  refine Zs (Zs (Zr (Zm rfl (Zm rfl (Zy (y_len ⟨_, rfl⟩ (Zv rfl)) ?_)))))
  refine Zy (y_lss (Zv rfl) (Zv rfl) rfl) (Zn (Zt ?_))
  refine wc_cond _ rfl (fun hc4 => ?_) (fun hc4 => ?_)
  · simp only [decide_eq_true_eq] at hc4
    have hkl : k < l.length := (by omega)
    obtain ⟨ad, rfl⟩ := h.some_ (by omega)
    obtain ⟨ae, rfl⟩ := h2.some_ (by omega)
    have hx : l[k]? = some (l[k]'hkl) := List.getElem?_eq_getElem hkl
    obtain ⟨x, hxx⟩ : ∃ x, l[k]'hkl = x := ⟨_, rfl⟩
    rw [hxx] at hx
    refine Zc (Zt (Zs (Zx (Zs (wc_draw ⟨fun j => List.elem j [], []⟩ Zk ?_)))))
    refine wa_yn 0 rfl Zk Zk Zk (y_move (Zv rfl)) rfl ?_
    refine wa_yn 1 rfl Zk Zk Zk (y_move (Zv rfl)) rfl ?_
    refine wa_yn 2 rfl Zk Zk Zk (y_index (j := k)  rfl (fun _ => rfl) (Zv rfl) (Zv rfl)  (fun _ => by omega) (fun _ => by omega)) rfl ?_
    refine wa_ln 3 rfl Zk Zk Zk Zk (y_load (fun _ => rfl) (Zv rfl)) (rd_cell h (ints_at hx)) rfl ?_
    refine wa_yn 4 rfl Zk Zk Zk (y_move (Zv rfl)) rfl ?_
    refine wa_yn 5 rfl Zk Zk Zk (y_move (Zv rfl)) rfl ?_
    refine wa_yn 6 rfl Zk Zk Zk (y_index (j := k)  rfl (fun _ => rfl) (Zv rfl) (Zv rfl)  (fun _ => by omega) (fun _ => by omega)) rfl ?_
    refine wa_ln 7 rfl Zk Zk Zk Zk (y_load (fun _ => rfl) (Zv rfl)) (rd_cell h2 (ints_at hx)) rfl ?_
    refine wa_yn 8 rfl Zk Zk Zk (y_neq (Zv rfl) (Zv rfl) (bne_self_eq_false x)) rfl ?_
    refine wa_done Zk ?_
    refine Zt (wc_cond_f rfl (rfl) ?_)
    refine Zc (Zo (Zt (Zr (Zm rfl (Zy (y_add (Zv rfl) (Zv rfl) Zl) ?_)))))
    refine Zg rfl (Zn ?_)
    refine q_mid (k + 1) ?_ ?_ ?_
    · exact ⟨by omega, by omega⟩
    · ((repeat' (refine Wk.cons ?_ ?_)) <;> first | exact Wk.nil | exact rfl | exact trivial | exact wk_num rfl (by omega) | exact wk_num rfl (by simp))
    ((repeat (first | exact List.Sublist.slnil | refine List.Sublist.cons_cons _ ?_ | refine List.Sublist.cons _ ?_)))
  refine wc_exit ?_
  refine q_then_exit ?_
  refine q_then_exit ?_
  refine q_block_same rfl ?_
  refine Zt (Zs (Zr (Zg rfl (Zn (Zt (Ze (ret1 (cs' := []) (.inl rfl) Zu rfl rfl ?_)))))))
  exact ⟨rfl, rfl⟩
set_option maxHeartbeats 4000000 in
theorem stepLoads_ok (at_ v how : Int) (hat : u32 at_) (hv : u32 v) (w : World) :
    Ctr Tryz.prog 4 [.int .u32 at_, .int .u32 v, .int .i64 how] w [] (fun v cs => v = .bool true ∧ cs = []) := by
  have hnil : u8s [] := fun x hx => by cases hx
  have HF := fun w => fresh_ok none none 0 0 4 [] [] (by decide) (by decide) (by decide) hnil (by decide) w (rdNil w .u8) (rdNil w .u8)
  have hU0 : UOk 4 ⟨Mem.init 4 [], tflush⟩ := ⟨init_ok (by decide) hnil, tflush_len⟩
  have hd0 := Dev.init_ok (l := []) (by decide) hnil
  have ho0 : (Dev.init []).out.length ≤ 0 := by decide
  obtain ⟨M, hM⟩ : ∃ M, Mem.init 4 [] = M := ⟨_, rfl⟩
  obtain ⟨d0, hdd⟩ : ∃ d, Dev.init [] = d := ⟨_, rfl⟩
  obtain ⟨T0, hTT⟩ : ∃ T, tflush = T := ⟨_, rfl⟩
  rw [hM, hTT, hdd] at HF
  rw [hM, hTT] at hU0
  rw [hdd] at hd0 ho0
  obtain ⟨v, rfl⟩ : ∃ m : Nat, v = m := Int.eq_ofNat_of_zero_le hv.1
  obtain ⟨z, rfl⟩ : ∃ m : Nat, at_ = m := Int.eq_ofNat_of_zero_le hat.1
  have hv2 : (v : Int) ≤ 4294967295 := hv.2
  have hz2 : (z : Int) ≤ 4294967295 := hat.2
  obtain ⟨x, hx⟩ : ∃ x, within how 0 2 = x := ⟨_, rfl⟩
  have hxr := within_rng how 0 2 (by decide)
  rw [hx] at hxr
  obtain ⟨k, rfl⟩ : ∃ m : Nat, x = m := Int.eq_ofNat_of_zero_le hxr.1
  have hk2 : k ≤ 2 := by omega
  obtain ⟨sop, hs⟩ : ∃ y, ([49, 51, 53] : List Int)[k]? = some y := ⟨_, List.getElem?_eq_getElem (show k < 3 by omega)⟩
  obtain ⟨lop, hl⟩ : ∃ y, ([48, 50, 52] : List Int)[k]? = some y := ⟨_, List.getElem?_eq_getElem (show k < 3 by omega)⟩
  obtain ⟨want, hw1, hw2⟩ : ∃ y : Int, (k ≠ 2 → y = v) ∧ (k = 2 → y = ((v % 256 : Nat) : Int)) := by
    by_cases e : k = 2
    · exact ⟨((v % 256 : Nat) : Int), fun h => absurd e h, fun _ => rfl⟩
    exact ⟨(v : Int), fun _ => rfl, fun h => absurd h e⟩
  have HW := fun w => within_e hx w (by decide) (by decide) (by decide)
  refine fn_ctr Tryz.func4 rfl Tryz.ntmps4 rfl (Inv.start w) ?_
  refine Zs (Zr (Zg rfl (Zn (Zt (Zs (Zr (wl_t (t_call rfl (fun _ _ => rfl) (fun w hi => HF w)) rfl ?_)))))))
  rintro _ _ ⟨_, ⟨F, hF, rfl, rfl⟩, rfl⟩
  refine Zg rfl (Zn (Zt (Zs (Zs (Zr (Zm rfl (Zy (y_pnil rfl (Zv rfl)) (Zn (Zt (wc_cond_f rfl (rfl) ?_))))))))))
  refine Zc (Zt (Zs (Zr (Zm rfl (wl_t (t_call rfl (fun _ _ => rfl) (fun w hi => HW w)) rfl ?_)))))
  rintro _ _ ⟨_, ⟨rfl, rfl⟩, rfl⟩
  refine Zg rfl (Zn (Zt (Zs (wc_draw ⟨fun j => List.elem j [], []⟩ Zk ?_))))
  refine wa_yn 1 rfl Zk Zk Zk (y_move (Zv rfl)) rfl ?_
  refine wa_yn 5 rfl Zk Zk Zk (y_move (Zv rfl)) rfl ?_
  refine wa_2 0 4 Zk ?_ ?_
  · refine wi_t rfl rfl (t_buildSl1 rfl rfl (fun _ => rfl) (fun _ => rfl) rfl rfl) (fun _ _ _ _ _ _ _ h => by cases h) rfl ?_
    rintro _ _ ⟨b21, rfl, rfl⟩
    refine wa_yn 2 rfl Zk Zk Zk (y_indexR (j := k) (sz := 1) (r := k) rfl (fun _ => rfl) (Zv rfl) (Zv rfl) (fun _ => by omega) (fun _ => by omega) (by omega)) rfl ?_
    refine wa_ln 3 rfl Zk Zk Zk Zk (y_load (fun _ => rfl) (Zv rfl)) (sl_cellR Zh (ints_at (l := [49, 51, 53]) hs)) rfl ?_
    refine wa_yn 8 rfl Zk Zk Zk (y_assign (Zv rfl)) rfl ?_
    refine wa_1 4 Zk ?_
    refine wi_t rfl rfl (t_buildSl1 rfl rfl (fun _ => rfl) (fun _ => rfl) rfl rfl) (fun _ _ _ _ _ _ _ h => by cases h) rfl ?_
    rintro _ _ ⟨b25, rfl, rfl⟩
    refine wa_yn 6 rfl Zk Zk Zk (y_indexR (j := k) (sz := 1) (r := k) rfl (fun _ => rfl) (Zv rfl) (Zv rfl) (fun _ => by omega) (fun _ => by omega) (by omega)) rfl ?_
    refine wa_ln 7 rfl Zk Zk Zk Zk (y_load (fun _ => rfl) (Zv rfl)) (sl_cellR Zh (ints_at (l := [48, 50, 52]) hl)) rfl ?_
    refine wa_yn 9 rfl Zk Zk Zk (y_assign (Zv rfl)) rfl ?_
    refine wa_done Zk ?_
    refine Zt (Zs (Zr (Zm rfl (Zy (y_rem (Zv rfl) (Zv rfl) (by omega) (show _ = ((z % 253 : Nat) : Int) from by rw [Int.tmod_eq_emod_of_nonneg (by omega)]; omega)) ?_))))
    refine Zg rfl (Zn (Zt ?_))
    refine wc_seq_mid (fun a : Nat => [(1, .int .u32 (v : Int)), (7, .pointer (some ⟨F.bw, 0, none⟩)), (8, .int .i64 (k : Int)), (9, .int .i64 sop), (10, .int .i64 lop), (11, .int .u32 (a : Int))]) (fun _ => worldRow F :: ubF F.bu F.bb F.L F.D ⟨none, 0, none, 0⟩ ⟨M, T0⟩ d0) (fun a => a ≤ 252 ∧ (k = 0 → a % 4 = 0)) ?_ ?_
    · refine Zs (Zr (Zm rfl (Zy (y_eql (Zv rfl) (Zv rfl) rfl) (Zn (Zt ?_)))))
      refine wc_cond _ rfl (fun hc7 => ?_) (fun hc7 => ?_)
      · refine Zr (Zm rfl (Zy (y_quo (Zv rfl) (Zv rfl) (by omega) (by first | exact IntWalk.u32_quo _ _ ⟨by omega, by omega, by omega⟩ | exact rfl)) ?_))
        refine Zy (y_mul (Zv rfl) (Zv rfl) (show _ = ((z % 253 / 4 * 4 : Nat) : Int) from by rw [u32_wrap_id _ (by omega) (by omega)]; omega)) ?_
        refine Zg rfl (Zn ?_)
        refine q_midP ((z % 253 / 4 * 4)) ?_ ?_ ?_
        · exact ⟨by omega, fun _ => by omega⟩
        · ((repeat' (refine Wk.cons ?_ ?_)) <;> first | exact Wk.nil | exact rfl | exact trivial | exact wk_num rfl (by omega) | exact wk_num rfl (by simp))
        exact Zj
      have hk0 : k ≠ 0 := (by intro e; subst e; simp at hc7)
      refine Zc ?_
      refine q_midP ((z % 253)) ?_ ?_ ?_
      · exact ⟨by omega, fun h => absurd h hk0⟩
      · ((repeat' (refine Wk.cons ?_ ?_)) <;> first | exact Wk.nil | exact rfl | exact trivial | exact wk_num rfl (by omega) | exact wk_num rfl (by simp))
      exact Zj
    rintro a ⟨ha, h4⟩
    obtain ⟨⟨pc1, dl1, rl1, fl1, su1, pg1_, ie1, rt1, ve1, ep1, ca1, ad1, es1, ei1, co1, hl1⟩, ⟨pc2, dl2, rl2, fl2, su2, pg2_, ie2, rt2, ve2, ep2, ca2, ad2, es2, ei2, co2, hl2⟩, s3, pg1, pg3, U1, U2, U3, dv2, dv3, tr3, d3, q1, q2, q3, q4, q5, q6, q7, q8, q9, q10⟩ := loads_say (d := d0) hU0 k hk2 hs hl (v := v) (a := a) (by omega) ha h4 hw1 hw2
    obtain rfl : dl1 = [9] := q2
    obtain rfl : dl2 = [8, want] := q6
    have hvu : u32 (v : Int) := hv
    have hau : u32 (a : Int) := u32_nat (by omega)
    have w1 := ldS_wf (l := [9, (v : Int), (a : Int)]) (by intro x hx; rcases hx with _ | ⟨_, _ | ⟨_, _ | ⟨_, ⟨⟩⟩⟩⟩; exact u32_of; exact hvu; exact hau)
    have w2 := ldS_wf (l := [8, (a : Int)]) (by intro x hx; rcases hx with _ | ⟨_, _ | ⟨_, ⟨⟩⟩⟩; exact u32_of; exact hau)
    have w3 := ldS_wf (l := [(v : Int), 32772]) (by intro x hx; rcases hx with _ | ⟨_, _ | ⟨_, ⟨⟩⟩⟩; exact hvu; exact u32_of)
    have HD1 := fun A c w hin h => do_ok F.bu F.bb F.L F.D ⟨none, 0, none, 0⟩ (ldS [9, (v : Int), (a : Int)]) A none c 0 sop 0 ⟨M, T0⟩ d0 w1 u32_of hU0.t hd0.wf (by omega) w hin h
    have HD2 := fun Y A c w hin h => do_ok F.bu F.bb F.L F.D Y (ldS [8, (a : Int)]) A none c 0 lop 0 U1 d0 w2 u32_of q4 hd0.wf (by omega) w hin h
    have HD3 := fun Y A c w hin h => do_ok F.bu F.bb F.L F.D Y (ldS [(v : Int), 32772]) A none c 0 sop 0 U2 d0 w3 u32_of q7 hd0.wf (by omega) w hin h
    rw [hF, q1] at HD1
    rw [hF, q5] at HD2
    rw [hF, q8] at HD3
    refine wc_seq_mid (fun q : SAdr × DAdr × (Option Addr × Nat) × Nat => [(1, .int .u32 (v : Int)), (7, .pointer (some ⟨F.bw, 0, none⟩)), (8, .int .i64 (k : Int)), (9, .int .i64 sop), (10, .int .i64 lop), (11, .int .u32 (a : Int)), (12, .pointer (some ⟨q.2.2.2, 0, none⟩))]) (fun q => worldRow F :: (ubF F.bu F.bb F.L F.D q.2.1 U1 d0 ++ [row q.2.2.2 (resCells ⟨⟨pc1, [9], rl1, fl1, su1, pg1_, ie1, rt1, ve1, ep1, ca1, ad1, es1, ei1, co1, hl1⟩, false, false, pg1⟩ q.1 q.2.2.1.1 q.2.2.1.2) 37, sl .u32 22 q.1.Ad 1 q.1.cd [9]])) (fun _ => True) ?_ ?_
    · refine wc_draw ⟨fun j => List.elem j [14, 16], []⟩ Zk ?_
      refine wa_yn 0 rfl Zk Zk Zk (y_move (Zv rfl)) rfl ?_
      refine wa_yn 1 rfl Zk Zk Zk (y_move (Zv rfl)) rfl ?_
      refine wa_yn 4 rfl Zk Zk Zk (y_move (Zv rfl)) rfl ?_
      refine wa_yn 5 rfl Zk Zk Zk (y_build rfl rfl (fun _ => rfl) rfl rfl rfl Zb) rfl ?_
      refine wa_yn 6 rfl Zk Zk Zk (y_move (Zv rfl)) rfl ?_
      refine wa_yn 7 rfl Zk Zk Zk (y_nil (Zv rfl)) rfl ?_
      refine wa_yn 8 rfl Zk Zk Zk (y_field 0 rfl (Zv rfl) Zf) rfl ?_
      refine wa_ln 9 rfl Zk Zk Zk Zk (y_load (fun _ => rfl) (Zv rfl)) (row_cell Zh rfl) rfl ?_
      refine wa_yn 10 rfl Zk Zk Zk (y_move (Zv rfl)) rfl ?_
      refine wa_yn 11 rfl Zk Zk Zk (y_nil (Zv rfl)) rfl ?_
      refine wa_yn 12 rfl Zk Zk Zk (y_field 1 rfl (Zv rfl) Zf) rfl ?_
      refine wa_ln 13 rfl Zk Zk Zk Zk (y_load (fun _ => rfl) (Zv rfl)) (row_cell Zh rfl) rfl ?_
      refine wa_2 2 15 Zk ?_ ?_
      · refine wi_t rfl rfl (t_buildSl1 rfl rfl (fun _ => rfl) (fun _ => rfl) rfl rfl) (fun _ _ _ _ _ _ _ h => by cases h) rfl ?_
        rintro _ _ ⟨b38, rfl, rfl⟩
        refine wa_yn 3 rfl Zk Zk Zk (y_build rfl rfl (fun _ => rfl) rfl rfl rfl Zb) rfl ?_
        refine wa_2 14 15 Zk ?_ ?_
        · refine wi_t rfl rfl (t_callS (ubF F.bu F.bb F.L F.D ⟨none, 0, none, 0⟩ ⟨M, T0⟩ d0) rfl (fun _ _ => rfl) Zi (fun w hi hin => HD1 _ _ w hin (fun w' hk => ⟨hi.rdKs Zi Zh hk, rdNil _ _, show (3 : Nat) * 4 ≤ 140737488355328 by decide, show (0 : Nat) * 4 ≤ 140737488355328 by decide⟩))) (fun _ _ _ _ _ _ _ h => by cases h) rfl ?_
          rintro _ _ ⟨_, ⟨X1, Y1, Ap, cp, rfl, rfl⟩, rfl⟩
          refine wa_1 15 Zk ?_
          refine wi_t rfl rfl (t_alloc (fun _ => rfl) rfl) (fun _ _ _ _ _ _ _ h => by cases h) rfl ?_
          rintro _ _ ⟨b12, rfl, rfl⟩
          refine wa_1 16 Zk ?_
          refine wi_t0 rfl rfl (t_storeN (fun _ => rfl) rfl rfl (allT rfl) Za (by exact rfl)) (fun _ _ _ _ _ _ _ h => by cases h) ?_
          rintro _ _ ⟨rfl, rfl⟩
          refine wa_done Zk ?_
          refine q_midP ((⟨X1, Y1, ⟨Ap, cp⟩, b12⟩ : SAdr × DAdr × (Option Addr × Nat) × Nat)) ?_ ?_ ?_
          · trivial
          · ((repeat' (refine Wk.cons ?_ ?_)) <;> first | exact Wk.nil | exact rfl | exact trivial | exact wk_num rfl (by omega) | exact wk_num rfl (by simp))
          exact Zj
        refine wi_t rfl rfl (t_alloc (fun _ => rfl) rfl) (fun _ _ _ _ _ _ _ h => by cases h) rfl ?_
        rintro _ _ ⟨b12, rfl, rfl⟩
        refine wa_1 14 Zk ?_
        refine wi_t rfl rfl (t_callS (ubF F.bu F.bb F.L F.D ⟨none, 0, none, 0⟩ ⟨M, T0⟩ d0) rfl (fun _ _ => rfl) Zi (fun w hi hin => HD1 _ _ w hin (fun w' hk => ⟨hi.rdKs Zi Zh hk, rdNil _ _, show (3 : Nat) * 4 ≤ 140737488355328 by decide, show (0 : Nat) * 4 ≤ 140737488355328 by decide⟩))) (fun _ _ _ _ _ _ _ h => by cases h) rfl ?_
        rintro _ _ ⟨_, ⟨X1, Y1, Ap, cp, rfl, rfl⟩, rfl⟩
        refine wa_1 16 Zk ?_
        refine wi_t0 rfl rfl (t_storeN (fun _ => rfl) rfl rfl (allT rfl) Za (by exact rfl)) (fun _ _ _ _ _ _ _ h => by cases h) ?_
        rintro _ _ ⟨rfl, rfl⟩
        refine wa_done Zk ?_
        refine q_midP ((⟨X1, Y1, ⟨Ap, cp⟩, b12⟩ : SAdr × DAdr × (Option Addr × Nat) × Nat)) ?_ ?_ ?_
        · trivial
        · ((repeat' (refine Wk.cons ?_ ?_)) <;> first | exact Wk.nil | exact rfl | exact trivial | exact wk_num rfl (by omega) | exact wk_num rfl (by simp))
        exact Zj
      refine wi_t rfl rfl (t_alloc (fun _ => rfl) rfl) (fun _ _ _ _ _ _ _ h => by cases h) rfl ?_
      rintro _ _ ⟨b12, rfl, rfl⟩
      refine wa_1 2 Zk ?_
      refine wi_t rfl rfl (t_buildSl1 rfl rfl (fun _ => rfl) (fun _ => rfl) rfl rfl) (fun _ _ _ _ _ _ _ h => by cases h) rfl ?_
      rintro _ _ ⟨b38, rfl, rfl⟩
      refine wa_yn 3 rfl Zk Zk Zk (y_build rfl rfl (fun _ => rfl) rfl rfl rfl Zb) rfl ?_
      refine wa_1 14 Zk ?_
      refine wi_t rfl rfl (t_callS (ubF F.bu F.bb F.L F.D ⟨none, 0, none, 0⟩ ⟨M, T0⟩ d0) rfl (fun _ _ => rfl) Zi (fun w hi hin => HD1 _ _ w hin (fun w' hk => ⟨hi.rdKs Zi Zh hk, rdNil _ _, show (3 : Nat) * 4 ≤ 140737488355328 by decide, show (0 : Nat) * 4 ≤ 140737488355328 by decide⟩))) (fun _ _ _ _ _ _ _ h => by cases h) rfl ?_
      rintro _ _ ⟨_, ⟨X1, Y1, Ap, cp, rfl, rfl⟩, rfl⟩
      refine wa_1 16 Zk ?_
      refine wi_t0 rfl rfl (t_storeN (fun _ => rfl) rfl rfl (allT rfl) Za (by exact rfl)) (fun _ _ _ _ _ _ _ h => by cases h) ?_
      rintro _ _ ⟨rfl, rfl⟩
      refine wa_done Zk ?_
      refine q_midP ((⟨X1, Y1, ⟨Ap, cp⟩, b12⟩ : SAdr × DAdr × (Option Addr × Nat) × Nat)) ?_ ?_ ?_
      · trivial
      · ((repeat' (refine Wk.cons ?_ ?_)) <;> first | exact Wk.nil | exact rfl | exact trivial | exact wk_num rfl (by omega) | exact wk_num rfl (by simp))
      exact Zj
    rintro ⟨X1, Y1, ⟨Ap, cp⟩, b12⟩ -
    dsimp only
    refine wc_seq_mid (fun q : SAdr × DAdr × (Option Addr × Nat) × Nat => [(1, .int .u32 (v : Int)), (7, .pointer (some ⟨F.bw, 0, none⟩)), (8, .int .i64 (k : Int)), (9, .int .i64 sop), (12, .pointer (some ⟨b12, 0, none⟩)), (13, .pointer (some ⟨q.2.2.2, 0, none⟩))]) (fun q => worldRow F :: (ubF F.bu F.bb F.L F.D q.2.1 U2 d0 ++ [row b12 (resCells ⟨⟨pc1, [9], rl1, fl1, su1, pg1_, ie1, rt1, ve1, ep1, ca1, ad1, es1, ei1, co1, hl1⟩, false, false, pg1⟩ X1 Ap cp) 37, sl .u32 22 X1.Ad 1 X1.cd [9], row q.2.2.2 (resCells ⟨⟨pc2, [8, want], rl2, fl2, su2, pg2_, ie2, rt2, ve2, ep2, ca2, ad2, es2, ei2, co2, hl2⟩, false, dv2, []⟩ q.1 q.2.2.1.1 q.2.2.1.2) 37, sl .u32 22 q.1.Ad 2 q.1.cd [8, want]])) (fun _ => True) ?_ ?_
    · refine wc_draw ⟨fun j => List.elem j [13, 15], []⟩ Zk ?_
      refine wa_yn 0 rfl Zk Zk Zk (y_move (Zv rfl)) rfl ?_
      refine wa_yn 3 rfl Zk Zk Zk (y_move (Zv rfl)) rfl ?_
      refine wa_yn 4 rfl Zk Zk Zk (y_build rfl rfl (fun _ => rfl) rfl rfl rfl Zb) rfl ?_
      refine wa_yn 5 rfl Zk Zk Zk (y_move (Zv rfl)) rfl ?_
      refine wa_yn 6 rfl Zk Zk Zk (y_nil (Zv rfl)) rfl ?_
      refine wa_yn 7 rfl Zk Zk Zk (y_field 0 rfl (Zv rfl) Zf) rfl ?_
      refine wa_ln 8 rfl Zk Zk Zk Zk (y_load (fun _ => rfl) (Zv rfl)) (row_cell Zh rfl) rfl ?_
      refine wa_yn 9 rfl Zk Zk Zk (y_move (Zv rfl)) rfl ?_
      refine wa_yn 10 rfl Zk Zk Zk (y_nil (Zv rfl)) rfl ?_
      refine wa_yn 11 rfl Zk Zk Zk (y_field 1 rfl (Zv rfl) Zf) rfl ?_
      refine wa_ln 12 rfl Zk Zk Zk Zk (y_load (fun _ => rfl) (Zv rfl)) (row_cell Zh rfl) rfl ?_
      refine wa_2 1 14 Zk ?_ ?_
      · refine wi_t rfl rfl (t_buildSl1 rfl rfl (fun _ => rfl) (fun _ => rfl) rfl rfl) (fun _ _ _ _ _ _ _ h => by cases h) rfl ?_
        rintro _ _ ⟨b52, rfl, rfl⟩
        refine wa_yn 2 rfl Zk Zk Zk (y_build rfl rfl (fun _ => rfl) rfl rfl rfl Zb) rfl ?_
        refine wa_2 13 14 Zk ?_ ?_
        · refine wi_t rfl rfl (t_callS (ubF F.bu F.bb F.L F.D Y1 U1 d0) rfl (fun _ _ => rfl) Zi (fun w hi hin => HD2 Y1 _ _ w hin (fun w' hk => ⟨hi.rdKs Zi Zh hk, rdNil _ _, show (2 : Nat) * 4 ≤ 140737488355328 by decide, show (0 : Nat) * 4 ≤ 140737488355328 by decide⟩))) (fun _ _ _ _ _ _ _ h => by cases h) rfl ?_
          rintro _ _ ⟨_, ⟨X2, Y2, Aq, cq, rfl, rfl⟩, rfl⟩
          refine wa_1 14 Zk ?_
          refine wi_t rfl rfl (t_alloc (fun _ => rfl) rfl) (fun _ _ _ _ _ _ _ h => by cases h) rfl ?_
          rintro _ _ ⟨b13, rfl, rfl⟩
          refine wa_1 15 Zk ?_
          refine wi_t0 rfl rfl (t_storeN (fun _ => rfl) rfl rfl (allT rfl) Za (by exact rfl)) (fun _ _ _ _ _ _ _ h => by cases h) ?_
          rintro _ _ ⟨rfl, rfl⟩
          refine wa_done Zk ?_
          refine q_midP ((⟨X2, Y2, ⟨Aq, cq⟩, b13⟩ : SAdr × DAdr × (Option Addr × Nat) × Nat)) ?_ ?_ ?_
          · trivial
          · ((repeat' (refine Wk.cons ?_ ?_)) <;> first | exact Wk.nil | exact rfl | exact trivial | exact wk_num rfl (by omega) | exact wk_num rfl (by simp))
          exact Zj
        refine wi_t rfl rfl (t_alloc (fun _ => rfl) rfl) (fun _ _ _ _ _ _ _ h => by cases h) rfl ?_
        rintro _ _ ⟨b13, rfl, rfl⟩
        refine wa_1 13 Zk ?_
        refine wi_t rfl rfl (t_callS (ubF F.bu F.bb F.L F.D Y1 U1 d0) rfl (fun _ _ => rfl) Zi (fun w hi hin => HD2 Y1 _ _ w hin (fun w' hk => ⟨hi.rdKs Zi Zh hk, rdNil _ _, show (2 : Nat) * 4 ≤ 140737488355328 by decide, show (0 : Nat) * 4 ≤ 140737488355328 by decide⟩))) (fun _ _ _ _ _ _ _ h => by cases h) rfl ?_
        rintro _ _ ⟨_, ⟨X2, Y2, Aq, cq, rfl, rfl⟩, rfl⟩
        refine wa_1 15 Zk ?_
        refine wi_t0 rfl rfl (t_storeN (fun _ => rfl) rfl rfl (allT rfl) Za (by exact rfl)) (fun _ _ _ _ _ _ _ h => by cases h) ?_
        rintro _ _ ⟨rfl, rfl⟩
        refine wa_done Zk ?_
        refine q_midP ((⟨X2, Y2, ⟨Aq, cq⟩, b13⟩ : SAdr × DAdr × (Option Addr × Nat) × Nat)) ?_ ?_ ?_
        · trivial
        · ((repeat' (refine Wk.cons ?_ ?_)) <;> first | exact Wk.nil | exact rfl | exact trivial | exact wk_num rfl (by omega) | exact wk_num rfl (by simp))
        exact Zj
      refine wi_t rfl rfl (t_alloc (fun _ => rfl) rfl) (fun _ _ _ _ _ _ _ h => by cases h) rfl ?_
      rintro _ _ ⟨b13, rfl, rfl⟩
      refine wa_1 1 Zk ?_
      refine wi_t rfl rfl (t_buildSl1 rfl rfl (fun _ => rfl) (fun _ => rfl) rfl rfl) (fun _ _ _ _ _ _ _ h => by cases h) rfl ?_
      rintro _ _ ⟨b52, rfl, rfl⟩
      refine wa_yn 2 rfl Zk Zk Zk (y_build rfl rfl (fun _ => rfl) rfl rfl rfl Zb) rfl ?_
      refine wa_1 13 Zk ?_
      refine wi_t rfl rfl (t_callS (ubF F.bu F.bb F.L F.D Y1 U1 d0) rfl (fun _ _ => rfl) Zi (fun w hi hin => HD2 Y1 _ _ w hin (fun w' hk => ⟨hi.rdKs Zi Zh hk, rdNil _ _, show (2 : Nat) * 4 ≤ 140737488355328 by decide, show (0 : Nat) * 4 ≤ 140737488355328 by decide⟩))) (fun _ _ _ _ _ _ _ h => by cases h) rfl ?_
      rintro _ _ ⟨_, ⟨X2, Y2, Aq, cq, rfl, rfl⟩, rfl⟩
      refine wa_1 15 Zk ?_
      refine wi_t0 rfl rfl (t_storeN (fun _ => rfl) rfl rfl (allT rfl) Za (by exact rfl)) (fun _ _ _ _ _ _ _ h => by cases h) ?_
      rintro _ _ ⟨rfl, rfl⟩
      refine wa_done Zk ?_
      refine q_midP ((⟨X2, Y2, ⟨Aq, cq⟩, b13⟩ : SAdr × DAdr × (Option Addr × Nat) × Nat)) ?_ ?_ ?_
      · trivial
      · ((repeat' (refine Wk.cons ?_ ?_)) <;> first | exact Wk.nil | exact rfl | exact trivial | exact wk_num rfl (by omega) | exact wk_num rfl (by simp))
      exact Zj
    rintro ⟨X2, Y2, ⟨Aq, cq⟩, b13⟩ -
    dsimp only
    refine Zs (Zr (Zm rfl (Zg rfl (Zn (Zt ?_)))))
    refine wc_seq_mid (fun _ : Unit => [(1, .int .u32 (v : Int)), (7, .pointer (some ⟨F.bw, 0, none⟩)), (8, .int .i64 (k : Int)), (9, .int .i64 sop), (12, .pointer (some ⟨b12, 0, none⟩)), (13, .pointer (some ⟨b13, 0, none⟩)), (14, .int .u32 want)]) (fun _ => worldRow F :: (ubF F.bu F.bb F.L F.D Y2 U2 d0 ++ (row b12 (resCells ⟨⟨pc1, [9], rl1, fl1, su1, pg1_, ie1, rt1, ve1, ep1, ca1, ad1, es1, ei1, co1, hl1⟩, false, false, pg1⟩ X1 Ap cp) 37 :: sl .u32 22 X1.Ad 1 X1.cd [9] :: row b13 (resCells ⟨⟨pc2, [8, want], rl2, fl2, su2, pg2_, ie2, rt2, ve2, ep2, ca2, ad2, es2, ei2, co2, hl2⟩, false, dv2, []⟩ X2 Aq cq) 37 :: sl .u32 22 X2.Ad 2 X2.cd [8, want] :: []))) (fun _ => True) ?_ ?_
    · refine Zs (Zr (Zm rfl (Zy (y_eql (Zv rfl) (Zv rfl) rfl) (Zn (Zt ?_)))))
      refine wc_cond _ rfl (fun hc12 => ?_) (fun hc12 => ?_)
      · have hk3 : k = 2 := (by simp at hc12; omega)
        refine Zr (Zm rfl (Zy (y_rem (Zv rfl) (Zv rfl) (by omega) (show _ = want from by rw [hw2 hk3, Int.tmod_eq_emod_of_nonneg (by omega)]; omega)) ?_))
        refine Zg rfl (Zn ?_)
        refine q_midP (()) ?_ ?_ ?_
        · trivial
        · ((repeat' (refine Wk.cons ?_ ?_)) <;> first | exact Wk.nil | exact rfl | exact trivial | exact wk_num rfl (by omega) | exact wk_num rfl (by simp))
        exact Zj
      obtain rfl := hw1 (by intro e; subst e; simp at hc12)
      refine Zc ?_
      refine q_midP (()) ?_ ?_ ?_
      · trivial
      · ((repeat' (refine Wk.cons ?_ ?_)) <;> first | exact Wk.nil | exact rfl | exact trivial | exact wk_num rfl (by omega) | exact wk_num rfl (by simp))
      exact Zj
    rintro - -
    refine Zs (Zs (Zr (Zy (y_field 16 rfl (Zv rfl) Zf) ?_)))
    refine Zz rfl ?_
    refine Zm rfl (Zyn rfl rfl (y_field 16 rfl (Zv rfl) Zf) ?_)
    refine wl_yg (guard_no rfl rfl) (y_load (fun _ => rfl) (ev_g rfl)) (row_cell Zh rfl) rfl ?_
    refine Zy (y_or (Zv rfl) (pk_no rfl (fun _ => rfl))) (Zm rfl (Zyn rfl rfl (y_field 0 rfl (Zv rfl) Zf) ?_))
    refine Zyn rfl rfl (y_field 1 rfl (ev_g rfl) Zf) ?_
    refine wl_yg (guard_no rfl rfl) (y_load (fun _ => rfl) (ev_g rfl)) (row_cell Zh rfl) rfl ?_
    refine wl_tg (guard_no rfl rfl) rfl (t_buildSl1 rfl rfl (fun _ => rfl) (fun _ => rfl) rfl rfl) rfl ?_
    rintro _ _ ⟨b80, rfl, rfl⟩
    refine wl_tg (guard_no rfl rfl) rfl (t_call rfl (fun _ _ => rfl) (fun w hi => wordsEq_ok X1.Ad (some ⟨b80, 0, none⟩) X1.cd 1 [9] w (hi.rd (show Has _ (sl .u32 22 X1.Ad 1 X1.cd [9]) from Zh)) (hi.rd (show Has _ (sl .u32 22 (some ⟨b80, 0, none⟩) 1 1 [9]) from Zh)))) rfl ?_
    rintro _ _ ⟨_, ⟨rfl, rfl⟩, rfl⟩
    refine Zyn rfl rfl (y_not (ev_g rfl) rfl) ?_
    refine Zy (y_or (Zv rfl) (pk_no rfl (fun _ => rfl))) (Zm rfl (Zyn rfl rfl (y_field 0 rfl (Zv rfl) Zf) ?_))
    refine Zyn rfl rfl (y_field 1 rfl (ev_g rfl) Zf) ?_
    refine wl_yg (guard_no rfl rfl) (y_load (fun _ => rfl) (ev_g rfl)) (row_cell Zh rfl) rfl ?_
    refine Zyn rfl rfl (y_move (Zv rfl)) ?_
    refine wl_tg (guard_no rfl rfl) rfl (t_buildSl1 rfl rfl (fun _ => rfl) (fun _ => rfl) rfl rfl) rfl ?_
    rintro _ _ ⟨b89, rfl, rfl⟩
    refine wl_tg (guard_no rfl rfl) rfl (t_call rfl (fun _ _ => rfl) (fun w hi => wordsEq_ok X2.Ad (some ⟨b89, 0, none⟩) X2.cd 2 [8, want] w (hi.rd (show Has _ (sl .u32 22 X2.Ad 2 X2.cd [8, want]) from Zh)) (hi.rd (show Has _ (sl .u32 22 (some ⟨b89, 0, none⟩) 2 2 [8, want]) from Zh)))) rfl ?_
    rintro _ _ ⟨_, ⟨rfl, rfl⟩, rfl⟩
    refine Zyn rfl rfl (y_not (ev_g rfl) rfl) ?_
    refine Zy (y_or (Zv rfl) (pk_no rfl (fun _ => rfl))) (Zm rfl (Zyn rfl rfl (y_field 18 rfl (Zv rfl) Zf) ?_))
    refine wl_yg (guard_no rfl rfl) (y_load (fun _ => rfl) (ev_g rfl)) (row_cell Zh rfl) rfl ?_
    refine Zyn rfl rfl (y_len ⟨_, rfl⟩ (ev_g rfl)) ?_
    refine Zyn rfl rfl (y_lss (ev_g rfl) (Zv rfl) (decide_eq_false (show ¬ ((pg1.length : Int) < 1) by omega))) ?_
    refine Zy (y_or (Zv rfl) (pk_no rfl (fun _ => rfl))) (Zm rfl (Zyn rfl rfl (y_field 18 rfl (Zv rfl) Zf) ?_))
    refine wl_yg (guard_no rfl rfl) (y_load (fun _ => rfl) (ev_g rfl)) (row_cell Zh rfl) rfl ?_
    refine Zyn rfl rfl (y_len ⟨_, rfl⟩ (ev_g rfl)) ?_
    refine Zyn rfl rfl (y_neq (ev_g rfl) (Zv rfl) (bne_self_eq_false _)) ?_
    refine Zy (y_or (Zv rfl) (pk_no rfl (fun _ => rfl))) (Zm rfl (Zyn rfl rfl (y_field 17 rfl (Zv rfl) Zf) ?_))
    refine wl_yg (guard_no rfl rfl) (y_load (fun _ => rfl) (ev_g rfl)) (row_cell Zh rfl) rfl ?_
    refine Zy (y_or (Zv rfl) (pk_no rfl (fun _ => rfl))) (Zn (Zt (wc_cond_f rfl (rfl) ?_)))
    refine Zc (Zt ?_)
    refine wc_seq_mid (fun q : DAdr × (SAdr × Option Addr × Nat) × Nat => [(1, .int .u32 (v : Int)), (7, .pointer (some ⟨F.bw, 0, none⟩)), (8, .int .i64 (k : Int)), (15, .pointer (some ⟨q.2.2, 0, none⟩))]) (fun q => worldRow F :: (ubF F.bu F.bb F.L F.D q.1 U3 d3 ++ [row q.2.2 (resCells ⟨s3, tr3, dv3, pg3⟩ q.2.1.1 q.2.1.2.1 q.2.1.2.2) 37])) (fun _ => True) ?_ ?_
    · refine wc_draw ⟨fun j => List.elem j [13, 15], []⟩ Zk ?_
      refine wa_yn 0 rfl Zk Zk Zk (y_move (Zv rfl)) rfl ?_
      refine wa_yn 3 rfl Zk Zk Zk (y_move (Zv rfl)) rfl ?_
      refine wa_yn 4 rfl Zk Zk Zk (y_build rfl rfl (fun _ => rfl) rfl rfl rfl Zb) rfl ?_
      refine wa_yn 5 rfl Zk Zk Zk (y_move (Zv rfl)) rfl ?_
      refine wa_yn 6 rfl Zk Zk Zk (y_nil (Zv rfl)) rfl ?_
      refine wa_yn 7 rfl Zk Zk Zk (y_field 0 rfl (Zv rfl) Zf) rfl ?_
      refine wa_ln 8 rfl Zk Zk Zk Zk (y_load (fun _ => rfl) (Zv rfl)) (row_cell Zh rfl) rfl ?_
      refine wa_yn 9 rfl Zk Zk Zk (y_move (Zv rfl)) rfl ?_
      refine wa_yn 10 rfl Zk Zk Zk (y_nil (Zv rfl)) rfl ?_
      refine wa_yn 11 rfl Zk Zk Zk (y_field 1 rfl (Zv rfl) Zf) rfl ?_
      refine wa_ln 12 rfl Zk Zk Zk Zk (y_load (fun _ => rfl) (Zv rfl)) (row_cell Zh rfl) rfl ?_
      refine wa_2 1 14 Zk ?_ ?_
      · refine wi_t rfl rfl (t_buildSl1 rfl rfl (fun _ => rfl) (fun _ => rfl) rfl rfl) (fun _ _ _ _ _ _ _ h => by cases h) rfl ?_
        rintro _ _ ⟨b110, rfl, rfl⟩
        refine wa_yn 2 rfl Zk Zk Zk (y_build rfl rfl (fun _ => rfl) rfl rfl rfl Zb) rfl ?_
        refine wa_2 13 14 Zk ?_ ?_
        · refine wi_t rfl rfl (t_callS (ubF F.bu F.bb F.L F.D Y2 U2 d0) rfl (fun _ _ => rfl) Zi (fun w hi hin => HD3 Y2 _ _ w hin (fun w' hk => ⟨hi.rdKs Zi Zh hk, rdNil _ _, show (2 : Nat) * 4 ≤ 140737488355328 by decide, show (0 : Nat) * 4 ≤ 140737488355328 by decide⟩))) (fun _ _ _ _ _ _ _ h => by cases h) rfl ?_
          rintro _ _ ⟨_, ⟨X3, Y3, Ar, cr, rfl, rfl⟩, rfl⟩
          refine wa_1 14 Zk ?_
          refine wi_t rfl rfl (t_alloc (fun _ => rfl) rfl) (fun _ _ _ _ _ _ _ h => by cases h) rfl ?_
          rintro _ _ ⟨b15, rfl, rfl⟩
          refine wa_1 15 Zk ?_
          refine wi_t0 rfl rfl (t_storeN (fun _ => rfl) rfl rfl (allT rfl) Za (by exact rfl)) (fun _ _ _ _ _ _ _ h => by cases h) ?_
          rintro _ _ ⟨rfl, rfl⟩
          refine wa_done Zk ?_
          refine q_midP ((⟨Y3, ⟨X3, Ar, cr⟩, b15⟩ : DAdr × (SAdr × Option Addr × Nat) × Nat)) ?_ ?_ ?_
          · trivial
          · ((repeat' (refine Wk.cons ?_ ?_)) <;> first | exact Wk.nil | exact rfl | exact trivial | exact wk_num rfl (by omega) | exact wk_num rfl (by simp))
          exact Zj
        refine wi_t rfl rfl (t_alloc (fun _ => rfl) rfl) (fun _ _ _ _ _ _ _ h => by cases h) rfl ?_
        rintro _ _ ⟨b15, rfl, rfl⟩
        refine wa_1 13 Zk ?_
        refine wi_t rfl rfl (t_callS (ubF F.bu F.bb F.L F.D Y2 U2 d0) rfl (fun _ _ => rfl) Zi (fun w hi hin => HD3 Y2 _ _ w hin (fun w' hk => ⟨hi.rdKs Zi Zh hk, rdNil _ _, show (2 : Nat) * 4 ≤ 140737488355328 by decide, show (0 : Nat) * 4 ≤ 140737488355328 by decide⟩))) (fun _ _ _ _ _ _ _ h => by cases h) rfl ?_
        rintro _ _ ⟨_, ⟨X3, Y3, Ar, cr, rfl, rfl⟩, rfl⟩
        refine wa_1 15 Zk ?_
        refine wi_t0 rfl rfl (t_storeN (fun _ => rfl) rfl rfl (allT rfl) Za (by exact rfl)) (fun _ _ _ _ _ _ _ h => by cases h) ?_
        rintro _ _ ⟨rfl, rfl⟩
        refine wa_done Zk ?_
        refine q_midP ((⟨Y3, ⟨X3, Ar, cr⟩, b15⟩ : DAdr × (SAdr × Option Addr × Nat) × Nat)) ?_ ?_ ?_
        · trivial
        · ((repeat' (refine Wk.cons ?_ ?_)) <;> first | exact Wk.nil | exact rfl | exact trivial | exact wk_num rfl (by omega) | exact wk_num rfl (by simp))
        exact Zj
      refine wi_t rfl rfl (t_alloc (fun _ => rfl) rfl) (fun _ _ _ _ _ _ _ h => by cases h) rfl ?_
      rintro _ _ ⟨b15, rfl, rfl⟩
      refine wa_1 1 Zk ?_
      refine wi_t rfl rfl (t_buildSl1 rfl rfl (fun _ => rfl) (fun _ => rfl) rfl rfl) (fun _ _ _ _ _ _ _ h => by cases h) rfl ?_
      rintro _ _ ⟨b110, rfl, rfl⟩
      refine wa_yn 2 rfl Zk Zk Zk (y_build rfl rfl (fun _ => rfl) rfl rfl rfl Zb) rfl ?_
      refine wa_1 13 Zk ?_
      refine wi_t rfl rfl (t_callS (ubF F.bu F.bb F.L F.D Y2 U2 d0) rfl (fun _ _ => rfl) Zi (fun w hi hin => HD3 Y2 _ _ w hin (fun w' hk => ⟨hi.rdKs Zi Zh hk, rdNil _ _, show (2 : Nat) * 4 ≤ 140737488355328 by decide, show (0 : Nat) * 4 ≤ 140737488355328 by decide⟩))) (fun _ _ _ _ _ _ _ h => by cases h) rfl ?_
      rintro _ _ ⟨_, ⟨X3, Y3, Ar, cr, rfl, rfl⟩, rfl⟩
      refine wa_1 15 Zk ?_
      refine wi_t0 rfl rfl (t_storeN (fun _ => rfl) rfl rfl (allT rfl) Za (by exact rfl)) (fun _ _ _ _ _ _ _ h => by cases h) ?_
      rintro _ _ ⟨rfl, rfl⟩
      refine wa_done Zk ?_
      refine q_midP ((⟨Y3, ⟨X3, Ar, cr⟩, b15⟩ : DAdr × (SAdr × Option Addr × Nat) × Nat)) ?_ ?_ ?_
      · trivial
      · ((repeat' (refine Wk.cons ?_ ?_)) <;> first | exact Wk.nil | exact rfl | exact trivial | exact wk_num rfl (by omega) | exact wk_num rfl (by simp))
      exact Zj
    rintro ⟨Y3, ⟨X3, Ar, cr⟩, b15⟩ -
    dsimp only
    refine Zs ?_
    rcases (show k = 0 ∨ 0 < k by omega) with rfl | hk0
    · obtain ⟨rfl, hmk⟩ := q10 rfl
      obtain rfl : tr3 = false := q9
      refine Zr (Zy (y_field 16 rfl (Zv rfl) Zf) ?_)
      refine Zz rfl ?_
      refine Zm rfl (Zy (y_gtr (Zv rfl) (Zv rfl) (show _ = false from rfl)) ?_)
      refine Zy (y_eqlb rfl (Zv rfl) (Zv rfl) (beq_self_eq_true _)) ?_
      refine Zm rfl (Zyy rfl rfl (y_move (Zv rfl)) ?_)
      refine Zyy rfl rfl (y_gtr (ev_g rfl) (Zv rfl) (show _ = false from rfl)) ?_
      refine Zyy rfl rfl (y_move (ev_g rfl)) ?_
      refine wl_yg (guard_deep rfl rfl) (y_field 17 rfl (Zv rfl) Zf) (fun _ _ => trivial) rfl ?_
      refine wl_yg (guard_deep rfl rfl) (y_load (fun _ => rfl) (ev_g rfl)) (row_cell Zh rfl) rfl ?_
      refine wl_yg (guard_deep rfl rfl) (y_move (ev_g rfl)) (fun _ _ => trivial) rfl ?_
      refine wl_yg (guard_deep rfl rfl) (y_move (Zv rfl)) (fun _ _ => trivial) rfl ?_
      refine wl_yg (guard_deep rfl rfl) (y_nil (ev_g rfl)) (fun _ _ => trivial) rfl ?_
      refine wl_yg (guard_deep rfl rfl) (y_field 1 rfl (ev_g rfl) Zf) (fun _ _ => trivial) rfl ?_
      refine wl_yg (guard_deep rfl rfl) (y_load (fun _ => rfl) (ev_g rfl)) (row_cell Zh rfl) rfl ?_
      refine wl_yg (guard_deep rfl rfl) (y_nil (ev_g rfl)) (fun _ _ => trivial) rfl ?_
      refine wl_yg (guard_deep rfl rfl) (y_field 0 rfl (ev_g rfl) Zf) (fun _ _ => trivial) rfl ?_
      refine wl_yg (guard_deep rfl rfl) (y_load (fun _ => rfl) (ev_g rfl)) (row_cell Zh rfl) rfl ?_
      refine wl_tg (guard_deep rfl rfl) rfl (t_call rfl (fun _ _ => rfl) (fun w hi => mask_ok F.D.bi d3.pend d3.mask w (hi.get Zh))) rfl ?_
      rintro _ _ ⟨_, ⟨rfl, rfl⟩, rfl⟩
      refine wl_yg (guard_deep rfl rfl) (y_move (Zv rfl)) (fun _ _ => trivial) rfl ?_
      refine wl_yg (guard_deep rfl rfl) (y_rem (ev_g rfl) (Zv rfl) (by omega) (show _ = ((v % 256 : Nat) : Int) from by rw [Int.tmod_eq_emod_of_nonneg (by omega)]; omega)) (fun _ _ => trivial) rfl ?_
      refine wl_yg (guard_deep rfl rfl) (y_eql (ev_g rfl) (ev_g rfl) (show _ = true from by rw [hmk]; exact beq_self_eq_true _)) (fun _ _ => trivial) rfl ?_
      refine wl_yg (guard_deep rfl rfl) (y_and (ev_g rfl) (pk_gyes rfl (fun _ _ => rfl))) (fun _ _ => trivial) rfl ?_
      refine Zyy rfl rfl (y_or (ev_g rfl) (pk_gno rfl (fun _ _ => rfl))) ?_
      refine Zy (y_and (Zv rfl) (pk_yes rfl (fun _ => rfl))) (Zm rfl (wl_tg (guard_yes rfl rfl) rfl (t_call rfl (fun _ _ => rfl) (fun w hi => known_ok w)) rfl ?_))
      rintro _ _ ⟨_, ⟨rfl, rfl⟩, rfl⟩
      refine Zy (y_and (Zv rfl) (pk_yes rfl (fun _ => rfl))) (Zg rfl (Zn (Zt (Ze (ret1 (cs' := []) (.inl rfl) Zu rfl rfl ?_)))))
      exact ⟨rfl, rfl⟩
    obtain rfl : tr3 = true := q9.trans (decide_eq_true (by omega))
    refine Zr (Zy (y_field 16 rfl (Zv rfl) Zf) ?_)
    refine Zz rfl ?_
    refine Zm rfl (Zy (y_gtr (Zv rfl) (Zv rfl) (decide_eq_true (by omega))) ?_)
    refine Zy (y_eqlb rfl (Zv rfl) (Zv rfl) (beq_self_eq_true _)) ?_
    refine Zm rfl (Zyy rfl rfl (y_move (Zv rfl)) ?_)
    refine Zyy rfl rfl (y_gtr (ev_g rfl) (Zv rfl) (decide_eq_true (by omega))) ?_
    refine Zyy rfl rfl (y_move (ev_g rfl)) ?_
    refine wl_yg (guard_deep rfl rfl) (y_field 17 rfl (Zv rfl) Zf) (fun _ _ => trivial) rfl ?_
    refine wl_yg (guard_deep rfl rfl) (y_load (fun _ => rfl) (ev_g rfl)) (row_cell Zh rfl) rfl ?_
    refine wl_yg (guard_deep rfl rfl) (y_move (ev_g rfl)) (fun _ _ => trivial) rfl ?_
    refine wl_yg (guard_deep rfl rfl) (y_move (Zv rfl)) (fun _ _ => trivial) rfl ?_
    refine wl_yg (guard_deep rfl rfl) (y_nil (ev_g rfl)) (fun _ _ => trivial) rfl ?_
    refine wl_yg (guard_deep rfl rfl) (y_field 1 rfl (ev_g rfl) Zf) (fun _ _ => trivial) rfl ?_
    refine wl_yg (guard_deep rfl rfl) (y_load (fun _ => rfl) (ev_g rfl)) (row_cell Zh rfl) rfl ?_
    refine wl_yg (guard_deep rfl rfl) (y_nil (ev_g rfl)) (fun _ _ => trivial) rfl ?_
    refine wl_yg (guard_deep rfl rfl) (y_field 0 rfl (ev_g rfl) Zf) (fun _ _ => trivial) rfl ?_
    refine wl_yg (guard_deep rfl rfl) (y_load (fun _ => rfl) (ev_g rfl)) (row_cell Zh rfl) rfl ?_
    refine wl_skip (guard_deep rfl rfl) rfl rfl ?_
    refine wl_yg (guard_deep rfl rfl) (y_move (Zv rfl)) (fun _ _ => trivial) rfl ?_
    refine wl_yg (guard_deep rfl rfl) (y_rem (ev_g rfl) (Zv rfl) (by omega) (by first | exact IntWalk.rem_in _ _ (by omega) | exact rfl)) (fun _ _ => trivial) rfl ?_
    refine wl_skip (guard_deep rfl rfl) rfl rfl ?_
    refine wl_skip (guard_deep rfl rfl) rfl rfl ?_
    refine Zyy rfl rfl (y_or (q := false) (ev_g rfl) ⟨_, rfl, fun _ e => by simp at e⟩) ?_
    refine Zy (y_and (Zv rfl) (pk_yes rfl (fun _ => rfl))) (Zm rfl (wl_tg (guard_yes rfl rfl) rfl (t_call rfl (fun _ _ => rfl) (fun w hi => known_ok w)) rfl ?_))
    rintro _ _ ⟨_, ⟨rfl, rfl⟩, rfl⟩
    refine Zy (y_and (Zv rfl) (pk_yes rfl (fun _ => rfl))) (Zg rfl (Zn (Zt (Ze (ret1 (cs' := []) (.inl rfl) Zu rfl rfl ?_)))))
    exact ⟨rfl, rfl⟩
  refine wi_t rfl rfl (t_buildSl1 rfl rfl (fun _ => rfl) (fun _ => rfl) rfl rfl) (fun _ _ _ _ _ _ _ h => by cases h) rfl ?_
  rintro _ _ ⟨b25, rfl, rfl⟩
  refine wa_yn 6 rfl Zk Zk Zk (y_indexR (j := k) (sz := 1) (r := k) rfl (fun _ => rfl) (Zv rfl) (Zv rfl) (fun _ => by omega) (fun _ => by omega) (by omega)) rfl ?_
  refine wa_ln 7 rfl Zk Zk Zk Zk (y_load (fun _ => rfl) (Zv rfl)) (sl_cellR Zh (ints_at (l := [48, 50, 52]) hl)) rfl ?_
  refine wa_1 0 Zk ?_
  refine wi_t rfl rfl (t_buildSl1 rfl rfl (fun _ => rfl) (fun _ => rfl) rfl rfl) (fun _ _ _ _ _ _ _ h => by cases h) rfl ?_
  rintro _ _ ⟨b21, rfl, rfl⟩
  refine wa_yn 2 rfl Zk Zk Zk (y_indexR (j := k) (sz := 1) (r := k) rfl (fun _ => rfl) (Zv rfl) (Zv rfl) (fun _ => by omega) (fun _ => by omega) (by omega)) rfl ?_
  refine wa_ln 3 rfl Zk Zk Zk Zk (y_load (fun _ => rfl) (Zv rfl)) (sl_cellR Zh (ints_at (l := [49, 51, 53]) hs)) rfl ?_
  refine wa_yn 8 rfl Zk Zk Zk (y_assign (Zv rfl)) rfl ?_
  refine wa_yn 9 rfl Zk Zk Zk (y_assign (Zv rfl)) rfl ?_
  refine wa_done Zk ?_
  refine Zt (Zs (Zr (Zm rfl (Zy (y_rem (Zv rfl) (Zv rfl) (by omega) (show _ = ((z % 253 : Nat) : Int) from by rw [Int.tmod_eq_emod_of_nonneg (by omega)]; omega)) ?_))))
  refine Zg rfl (Zn (Zt ?_))
  refine wc_seq_mid (fun a : Nat => [(1, .int .u32 (v : Int)), (7, .pointer (some ⟨F.bw, 0, none⟩)), (8, .int .i64 (k : Int)), (9, .int .i64 sop), (10, .int .i64 lop), (11, .int .u32 (a : Int))]) (fun _ => worldRow F :: ubF F.bu F.bb F.L F.D ⟨none, 0, none, 0⟩ ⟨M, T0⟩ d0) (fun a => a ≤ 252 ∧ (k = 0 → a % 4 = 0)) ?_ ?_
  · refine Zs (Zr (Zm rfl (Zy (y_eql (Zv rfl) (Zv rfl) rfl) (Zn (Zt ?_)))))
    refine wc_cond _ rfl (fun hc7 => ?_) (fun hc7 => ?_)
    · refine Zr (Zm rfl (Zy (y_quo (Zv rfl) (Zv rfl) (by omega) (by first | exact IntWalk.u32_quo _ _ ⟨by omega, by omega, by omega⟩ | exact rfl)) ?_))
      refine Zy (y_mul (Zv rfl) (Zv rfl) (show _ = ((z % 253 / 4 * 4 : Nat) : Int) from by rw [u32_wrap_id _ (by omega) (by omega)]; omega)) ?_
      refine Zg rfl (Zn ?_)
      refine q_midP ((z % 253 / 4 * 4)) ?_ ?_ ?_
      · exact ⟨by omega, fun _ => by omega⟩
      · ((repeat' (refine Wk.cons ?_ ?_)) <;> first | exact Wk.nil | exact rfl | exact trivial | exact wk_num rfl (by omega) | exact wk_num rfl (by simp))
      exact Zj
    have hk0 : k ≠ 0 := (by intro e; subst e; simp at hc7)
    refine Zc ?_
    refine q_midP ((z % 253)) ?_ ?_ ?_
    · exact ⟨by omega, fun h => absurd h hk0⟩
    · ((repeat' (refine Wk.cons ?_ ?_)) <;> first | exact Wk.nil | exact rfl | exact trivial | exact wk_num rfl (by omega) | exact wk_num rfl (by simp))
    exact Zj
  rintro a ⟨ha, h4⟩
  obtain ⟨⟨pc1, dl1, rl1, fl1, su1, pg1_, ie1, rt1, ve1, ep1, ca1, ad1, es1, ei1, co1, hl1⟩, ⟨pc2, dl2, rl2, fl2, su2, pg2_, ie2, rt2, ve2, ep2, ca2, ad2, es2, ei2, co2, hl2⟩, s3, pg1, pg3, U1, U2, U3, dv2, dv3, tr3, d3, q1, q2, q3, q4, q5, q6, q7, q8, q9, q10⟩ := loads_say (d := d0) hU0 k hk2 hs hl (v := v) (a := a) (by omega) ha h4 hw1 hw2
  obtain rfl : dl1 = [9] := q2
  obtain rfl : dl2 = [8, want] := q6
  have hvu : u32 (v : Int) := hv
  have hau : u32 (a : Int) := u32_nat (by omega)
  have w1 := ldS_wf (l := [9, (v : Int), (a : Int)]) (by intro x hx; rcases hx with _ | ⟨_, _ | ⟨_, _ | ⟨_, ⟨⟩⟩⟩⟩; exact u32_of; exact hvu; exact hau)
  have w2 := ldS_wf (l := [8, (a : Int)]) (by intro x hx; rcases hx with _ | ⟨_, _ | ⟨_, ⟨⟩⟩⟩; exact u32_of; exact hau)
  have w3 := ldS_wf (l := [(v : Int), 32772]) (by intro x hx; rcases hx with _ | ⟨_, _ | ⟨_, ⟨⟩⟩⟩; exact hvu; exact u32_of)
  have HD1 := fun A c w hin h => do_ok F.bu F.bb F.L F.D ⟨none, 0, none, 0⟩ (ldS [9, (v : Int), (a : Int)]) A none c 0 sop 0 ⟨M, T0⟩ d0 w1 u32_of hU0.t hd0.wf (by omega) w hin h
  have HD2 := fun Y A c w hin h => do_ok F.bu F.bb F.L F.D Y (ldS [8, (a : Int)]) A none c 0 lop 0 U1 d0 w2 u32_of q4 hd0.wf (by omega) w hin h
  have HD3 := fun Y A c w hin h => do_ok F.bu F.bb F.L F.D Y (ldS [(v : Int), 32772]) A none c 0 sop 0 U2 d0 w3 u32_of q7 hd0.wf (by omega) w hin h
  rw [hF, q1] at HD1
  rw [hF, q5] at HD2
  rw [hF, q8] at HD3
  refine wc_seq_mid (fun q : SAdr × DAdr × (Option Addr × Nat) × Nat => [(1, .int .u32 (v : Int)), (7, .pointer (some ⟨F.bw, 0, none⟩)), (8, .int .i64 (k : Int)), (9, .int .i64 sop), (10, .int .i64 lop), (11, .int .u32 (a : Int)), (12, .pointer (some ⟨q.2.2.2, 0, none⟩))]) (fun q => worldRow F :: (ubF F.bu F.bb F.L F.D q.2.1 U1 d0 ++ [row q.2.2.2 (resCells ⟨⟨pc1, [9], rl1, fl1, su1, pg1_, ie1, rt1, ve1, ep1, ca1, ad1, es1, ei1, co1, hl1⟩, false, false, pg1⟩ q.1 q.2.2.1.1 q.2.2.1.2) 37, sl .u32 22 q.1.Ad 1 q.1.cd [9]])) (fun _ => True) ?_ ?_
  · refine wc_draw ⟨fun j => List.elem j [14, 16], []⟩ Zk ?_
    refine wa_yn 0 rfl Zk Zk Zk (y_move (Zv rfl)) rfl ?_
    refine wa_yn 1 rfl Zk Zk Zk (y_move (Zv rfl)) rfl ?_
    refine wa_yn 4 rfl Zk Zk Zk (y_move (Zv rfl)) rfl ?_
    refine wa_yn 5 rfl Zk Zk Zk (y_build rfl rfl (fun _ => rfl) rfl rfl rfl Zb) rfl ?_
    refine wa_yn 6 rfl Zk Zk Zk (y_move (Zv rfl)) rfl ?_
    refine wa_yn 7 rfl Zk Zk Zk (y_nil (Zv rfl)) rfl ?_
    refine wa_yn 8 rfl Zk Zk Zk (y_field 0 rfl (Zv rfl) Zf) rfl ?_
    refine wa_ln 9 rfl Zk Zk Zk Zk (y_load (fun _ => rfl) (Zv rfl)) (row_cell Zh rfl) rfl ?_
    refine wa_yn 10 rfl Zk Zk Zk (y_move (Zv rfl)) rfl ?_
    refine wa_yn 11 rfl Zk Zk Zk (y_nil (Zv rfl)) rfl ?_
    refine wa_yn 12 rfl Zk Zk Zk (y_field 1 rfl (Zv rfl) Zf) rfl ?_
    refine wa_ln 13 rfl Zk Zk Zk Zk (y_load (fun _ => rfl) (Zv rfl)) (row_cell Zh rfl) rfl ?_
    refine wa_2 2 15 Zk ?_ ?_
    · refine wi_t rfl rfl (t_buildSl1 rfl rfl (fun _ => rfl) (fun _ => rfl) rfl rfl) (fun _ _ _ _ _ _ _ h => by cases h) rfl ?_
      rintro _ _ ⟨b38, rfl, rfl⟩
      refine wa_yn 3 rfl Zk Zk Zk (y_build rfl rfl (fun _ => rfl) rfl rfl rfl Zb) rfl ?_
      refine wa_2 14 15 Zk ?_ ?_
      · refine wi_t rfl rfl (t_callS (ubF F.bu F.bb F.L F.D ⟨none, 0, none, 0⟩ ⟨M, T0⟩ d0) rfl (fun _ _ => rfl) Zi (fun w hi hin => HD1 _ _ w hin (fun w' hk => ⟨hi.rdKs Zi Zh hk, rdNil _ _, show (3 : Nat) * 4 ≤ 140737488355328 by decide, show (0 : Nat) * 4 ≤ 140737488355328 by decide⟩))) (fun _ _ _ _ _ _ _ h => by cases h) rfl ?_
        rintro _ _ ⟨_, ⟨X1, Y1, Ap, cp, rfl, rfl⟩, rfl⟩
        refine wa_1 15 Zk ?_
        refine wi_t rfl rfl (t_alloc (fun _ => rfl) rfl) (fun _ _ _ _ _ _ _ h => by cases h) rfl ?_
        rintro _ _ ⟨b12, rfl, rfl⟩
        refine wa_1 16 Zk ?_
        refine wi_t0 rfl rfl (t_storeN (fun _ => rfl) rfl rfl (allT rfl) Za (by exact rfl)) (fun _ _ _ _ _ _ _ h => by cases h) ?_
        rintro _ _ ⟨rfl, rfl⟩
        refine wa_done Zk ?_
        refine q_midP ((⟨X1, Y1, ⟨Ap, cp⟩, b12⟩ : SAdr × DAdr × (Option Addr × Nat) × Nat)) ?_ ?_ ?_
        · trivial
        · ((repeat' (refine Wk.cons ?_ ?_)) <;> first | exact Wk.nil | exact rfl | exact trivial | exact wk_num rfl (by omega) | exact wk_num rfl (by simp))
        exact Zj
      refine wi_t rfl rfl (t_alloc (fun _ => rfl) rfl) (fun _ _ _ _ _ _ _ h => by cases h) rfl ?_
      rintro _ _ ⟨b12, rfl, rfl⟩
      refine wa_1 14 Zk ?_
      refine wi_t rfl rfl (t_callS (ubF F.bu F.bb F.L F.D ⟨none, 0, none, 0⟩ ⟨M, T0⟩ d0) rfl (fun _ _ => rfl) Zi (fun w hi hin => HD1 _ _ w hin (fun w' hk => ⟨hi.rdKs Zi Zh hk, rdNil _ _, show (3 : Nat) * 4 ≤ 140737488355328 by decide, show (0 : Nat) * 4 ≤ 140737488355328 by decide⟩))) (fun _ _ _ _ _ _ _ h => by cases h) rfl ?_
      rintro _ _ ⟨_, ⟨X1, Y1, Ap, cp, rfl, rfl⟩, rfl⟩
      refine wa_1 16 Zk ?_
      refine wi_t0 rfl rfl (t_storeN (fun _ => rfl) rfl rfl (allT rfl) Za (by exact rfl)) (fun _ _ _ _ _ _ _ h => by cases h) ?_
      rintro _ _ ⟨rfl, rfl⟩
      refine wa_done Zk ?_
      refine q_midP ((⟨X1, Y1, ⟨Ap, cp⟩, b12⟩ : SAdr × DAdr × (Option Addr × Nat) × Nat)) ?_ ?_ ?_
      · trivial
      · ((repeat' (refine Wk.cons ?_ ?_)) <;> first | exact Wk.nil | exact rfl | exact trivial | exact wk_num rfl (by omega) | exact wk_num rfl (by simp))
      exact Zj
    refine wi_t rfl rfl (t_alloc (fun _ => rfl) rfl) (fun _ _ _ _ _ _ _ h => by cases h) rfl ?_
    rintro _ _ ⟨b12, rfl, rfl⟩
    refine wa_1 2 Zk ?_
    refine wi_t rfl rfl (t_buildSl1 rfl rfl (fun _ => rfl) (fun _ => rfl) rfl rfl) (fun _ _ _ _ _ _ _ h => by cases h) rfl ?_
    rintro _ _ ⟨b38, rfl, rfl⟩
    refine wa_yn 3 rfl Zk Zk Zk (y_build rfl rfl (fun _ => rfl) rfl rfl rfl Zb) rfl ?_
    refine wa_1 14 Zk ?_
    refine wi_t rfl rfl (t_callS (ubF F.bu F.bb F.L F.D ⟨none, 0, none, 0⟩ ⟨M, T0⟩ d0) rfl (fun _ _ => rfl) Zi (fun w hi hin => HD1 _ _ w hin (fun w' hk => ⟨hi.rdKs Zi Zh hk, rdNil _ _, show (3 : Nat) * 4 ≤ 140737488355328 by decide, show (0 : Nat) * 4 ≤ 140737488355328 by decide⟩))) (fun _ _ _ _ _ _ _ h => by cases h) rfl ?_
    rintro _ _ ⟨_, ⟨X1, Y1, Ap, cp, rfl, rfl⟩, rfl⟩
    refine wa_1 16 Zk ?_
    refine wi_t0 rfl rfl (t_storeN (fun _ => rfl) rfl rfl (allT rfl) Za (by exact rfl)) (fun _ _ _ _ _ _ _ h => by cases h) ?_
    rintro _ _ ⟨rfl, rfl⟩
    refine wa_done Zk ?_
    refine q_midP ((⟨X1, Y1, ⟨Ap, cp⟩, b12⟩ : SAdr × DAdr × (Option Addr × Nat) × Nat)) ?_ ?_ ?_
    · trivial
    · ((repeat' (refine Wk.cons ?_ ?_)) <;> first | exact Wk.nil | exact rfl | exact trivial | exact wk_num rfl (by omega) | exact wk_num rfl (by simp))
    exact Zj
  rintro ⟨X1, Y1, ⟨Ap, cp⟩, b12⟩ -
  dsimp only
  refine wc_seq_mid (fun q : SAdr × DAdr × (Option Addr × Nat) × Nat => [(1, .int .u32 (v : Int)), (7, .pointer (some ⟨F.bw, 0, none⟩)), (8, .int .i64 (k : Int)), (9, .int .i64 sop), (12, .pointer (some ⟨b12, 0, none⟩)), (13, .pointer (some ⟨q.2.2.2, 0, none⟩))]) (fun q => worldRow F :: (ubF F.bu F.bb F.L F.D q.2.1 U2 d0 ++ [row b12 (resCells ⟨⟨pc1, [9], rl1, fl1, su1, pg1_, ie1, rt1, ve1, ep1, ca1, ad1, es1, ei1, co1, hl1⟩, false, false, pg1⟩ X1 Ap cp) 37, sl .u32 22 X1.Ad 1 X1.cd [9], row q.2.2.2 (resCells ⟨⟨pc2, [8, want], rl2, fl2, su2, pg2_, ie2, rt2, ve2, ep2, ca2, ad2, es2, ei2, co2, hl2⟩, false, dv2, []⟩ q.1 q.2.2.1.1 q.2.2.1.2) 37, sl .u32 22 q.1.Ad 2 q.1.cd [8, want]])) (fun _ => True) ?_ ?_
  · refine wc_draw ⟨fun j => List.elem j [13, 15], []⟩ Zk ?_
    refine wa_yn 0 rfl Zk Zk Zk (y_move (Zv rfl)) rfl ?_
    refine wa_yn 3 rfl Zk Zk Zk (y_move (Zv rfl)) rfl ?_
    refine wa_yn 4 rfl Zk Zk Zk (y_build rfl rfl (fun _ => rfl) rfl rfl rfl Zb) rfl ?_
    refine wa_yn 5 rfl Zk Zk Zk (y_move (Zv rfl)) rfl ?_
    refine wa_yn 6 rfl Zk Zk Zk (y_nil (Zv rfl)) rfl ?_
    refine wa_yn 7 rfl Zk Zk Zk (y_field 0 rfl (Zv rfl) Zf) rfl ?_
    refine wa_ln 8 rfl Zk Zk Zk Zk (y_load (fun _ => rfl) (Zv rfl)) (row_cell Zh rfl) rfl ?_
    refine wa_yn 9 rfl Zk Zk Zk (y_move (Zv rfl)) rfl ?_
    refine wa_yn 10 rfl Zk Zk Zk (y_nil (Zv rfl)) rfl ?_
    refine wa_yn 11 rfl Zk Zk Zk (y_field 1 rfl (Zv rfl) Zf) rfl ?_
    refine wa_ln 12 rfl Zk Zk Zk Zk (y_load (fun _ => rfl) (Zv rfl)) (row_cell Zh rfl) rfl ?_
    refine wa_2 1 14 Zk ?_ ?_
    · refine wi_t rfl rfl (t_buildSl1 rfl rfl (fun _ => rfl) (fun _ => rfl) rfl rfl) (fun _ _ _ _ _ _ _ h => by cases h) rfl ?_
      rintro _ _ ⟨b52, rfl, rfl⟩
      refine wa_yn 2 rfl Zk Zk Zk (y_build rfl rfl (fun _ => rfl) rfl rfl rfl Zb) rfl ?_
      refine wa_2 13 14 Zk ?_ ?_
      · refine wi_t rfl rfl (t_callS (ubF F.bu F.bb F.L F.D Y1 U1 d0) rfl (fun _ _ => rfl) Zi (fun w hi hin => HD2 Y1 _ _ w hin (fun w' hk => ⟨hi.rdKs Zi Zh hk, rdNil _ _, show (2 : Nat) * 4 ≤ 140737488355328 by decide, show (0 : Nat) * 4 ≤ 140737488355328 by decide⟩))) (fun _ _ _ _ _ _ _ h => by cases h) rfl ?_
        rintro _ _ ⟨_, ⟨X2, Y2, Aq, cq, rfl, rfl⟩, rfl⟩
        refine wa_1 14 Zk ?_
        refine wi_t rfl rfl (t_alloc (fun _ => rfl) rfl) (fun _ _ _ _ _ _ _ h => by cases h) rfl ?_
        rintro _ _ ⟨b13, rfl, rfl⟩
        refine wa_1 15 Zk ?_
        refine wi_t0 rfl rfl (t_storeN (fun _ => rfl) rfl rfl (allT rfl) Za (by exact rfl)) (fun _ _ _ _ _ _ _ h => by cases h) ?_
        rintro _ _ ⟨rfl, rfl⟩
        refine wa_done Zk ?_
        refine q_midP ((⟨X2, Y2, ⟨Aq, cq⟩, b13⟩ : SAdr × DAdr × (Option Addr × Nat) × Nat)) ?_ ?_ ?_
        · trivial
        · ((repeat' (refine Wk.cons ?_ ?_)) <;> first | exact Wk.nil | exact rfl | exact trivial | exact wk_num rfl (by omega) | exact wk_num rfl (by simp))
        exact Zj
      refine wi_t rfl rfl (t_alloc (fun _ => rfl) rfl) (fun _ _ _ _ _ _ _ h => by cases h) rfl ?_
      rintro _ _ ⟨b13, rfl, rfl⟩
      refine wa_1 13 Zk ?_
      refine wi_t rfl rfl (t_callS (ubF F.bu F.bb F.L F.D Y1 U1 d0) rfl (fun _ _ => rfl) Zi (fun w hi hin => HD2 Y1 _ _ w hin (fun w' hk => ⟨hi.rdKs Zi Zh hk, rdNil _ _, show (2 : Nat) * 4 ≤ 140737488355328 by decide, show (0 : Nat) * 4 ≤ 140737488355328 by decide⟩))) (fun _ _ _ _ _ _ _ h => by cases h) rfl ?_
      rintro _ _ ⟨_, ⟨X2, Y2, Aq, cq, rfl, rfl⟩, rfl⟩
      refine wa_1 15 Zk ?_
      refine wi_t0 rfl rfl (t_storeN (fun _ => rfl) rfl rfl (allT rfl) Za (by exact rfl)) (fun _ _ _ _ _ _ _ h => by cases h) ?_
      rintro _ _ ⟨rfl, rfl⟩
      refine wa_done Zk ?_
      refine q_midP ((⟨X2, Y2, ⟨Aq, cq⟩, b13⟩ : SAdr × DAdr × (Option Addr × Nat) × Nat)) ?_ ?_ ?_
      · trivial
      · ((repeat' (refine Wk.cons ?_ ?_)) <;> first | exact Wk.nil | exact rfl | exact trivial | exact wk_num rfl (by omega) | exact wk_num rfl (by simp))
      exact Zj
    refine wi_t rfl rfl (t_alloc (fun _ => rfl) rfl) (fun _ _ _ _ _ _ _ h => by cases h) rfl ?_
    rintro _ _ ⟨b13, rfl, rfl⟩
    refine wa_1 1 Zk ?_
    refine wi_t rfl rfl (t_buildSl1 rfl rfl (fun _ => rfl) (fun _ => rfl) rfl rfl) (fun _ _ _ _ _ _ _ h => by cases h) rfl ?_
    rintro _ _ ⟨b52, rfl, rfl⟩
    refine wa_yn 2 rfl Zk Zk Zk (y_build rfl rfl (fun _ => rfl) rfl rfl rfl Zb) rfl ?_
    refine wa_1 13 Zk ?_
    refine wi_t rfl rfl (t_callS (ubF F.bu F.bb F.L F.D Y1 U1 d0) rfl (fun _ _ => rfl) Zi (fun w hi hin => HD2 Y1 _ _ w hin (fun w' hk => ⟨hi.rdKs Zi Zh hk, rdNil _ _, show (2 : Nat) * 4 ≤ 140737488355328 by decide, show (0 : Nat) * 4 ≤ 140737488355328 by decide⟩))) (fun _ _ _ _ _ _ _ h => by cases h) rfl ?_
    rintro _ _ ⟨_, ⟨X2, Y2, Aq, cq, rfl, rfl⟩, rfl⟩
    refine wa_1 15 Zk ?_
    refine wi_t0 rfl rfl (t_storeN (fun _ => rfl) rfl rfl (allT rfl) Za (by exact rfl)) (fun _ _ _ _ _ _ _ h => by cases h) ?_
    rintro _ _ ⟨rfl, rfl⟩
    refine wa_done Zk ?_
    refine q_midP ((⟨X2, Y2, ⟨Aq, cq⟩, b13⟩ : SAdr × DAdr × (Option Addr × Nat) × Nat)) ?_ ?_ ?_
    · trivial
    · ((repeat' (refine Wk.cons ?_ ?_)) <;> first | exact Wk.nil | exact rfl | exact trivial | exact wk_num rfl (by omega) | exact wk_num rfl (by simp))
    exact Zj
  rintro ⟨X2, Y2, ⟨Aq, cq⟩, b13⟩ -
  dsimp only
  refine Zs (Zr (Zm rfl (Zg rfl (Zn (Zt ?_)))))
  refine wc_seq_mid (fun _ : Unit => [(1, .int .u32 (v : Int)), (7, .pointer (some ⟨F.bw, 0, none⟩)), (8, .int .i64 (k : Int)), (9, .int .i64 sop), (12, .pointer (some ⟨b12, 0, none⟩)), (13, .pointer (some ⟨b13, 0, none⟩)), (14, .int .u32 want)]) (fun _ => worldRow F :: (ubF F.bu F.bb F.L F.D Y2 U2 d0 ++ (row b12 (resCells ⟨⟨pc1, [9], rl1, fl1, su1, pg1_, ie1, rt1, ve1, ep1, ca1, ad1, es1, ei1, co1, hl1⟩, false, false, pg1⟩ X1 Ap cp) 37 :: sl .u32 22 X1.Ad 1 X1.cd [9] :: row b13 (resCells ⟨⟨pc2, [8, want], rl2, fl2, su2, pg2_, ie2, rt2, ve2, ep2, ca2, ad2, es2, ei2, co2, hl2⟩, false, dv2, []⟩ X2 Aq cq) 37 :: sl .u32 22 X2.Ad 2 X2.cd [8, want] :: []))) (fun _ => True) ?_ ?_
  · refine Zs (Zr (Zm rfl (Zy (y_eql (Zv rfl) (Zv rfl) rfl) (Zn (Zt ?_)))))
    refine wc_cond _ rfl (fun hc12 => ?_) (fun hc12 => ?_)
    · have hk3 : k = 2 := (by simp at hc12; omega)
      refine Zr (Zm rfl (Zy (y_rem (Zv rfl) (Zv rfl) (by omega) (show _ = want from by rw [hw2 hk3, Int.tmod_eq_emod_of_nonneg (by omega)]; omega)) ?_))
      refine Zg rfl (Zn ?_)
      refine q_midP (()) ?_ ?_ ?_
      · trivial
      · ((repeat' (refine Wk.cons ?_ ?_)) <;> first | exact Wk.nil | exact rfl | exact trivial | exact wk_num rfl (by omega) | exact wk_num rfl (by simp))
      exact Zj
    obtain rfl := hw1 (by intro e; subst e; simp at hc12)
    refine Zc ?_
    refine q_midP (()) ?_ ?_ ?_
    · trivial
    · ((repeat' (refine Wk.cons ?_ ?_)) <;> first | exact Wk.nil | exact rfl | exact trivial | exact wk_num rfl (by omega) | exact wk_num rfl (by simp))
    exact Zj
  rintro - -
  refine Zs (Zs (Zr (Zy (y_field 16 rfl (Zv rfl) Zf) ?_)))
  refine Zz rfl ?_
  refine Zm rfl (Zyn rfl rfl (y_field 16 rfl (Zv rfl) Zf) ?_)
  refine wl_yg (guard_no rfl rfl) (y_load (fun _ => rfl) (ev_g rfl)) (row_cell Zh rfl) rfl ?_
  refine Zy (y_or (Zv rfl) (pk_no rfl (fun _ => rfl))) (Zm rfl (Zyn rfl rfl (y_field 0 rfl (Zv rfl) Zf) ?_))
  refine Zyn rfl rfl (y_field 1 rfl (ev_g rfl) Zf) ?_
  refine wl_yg (guard_no rfl rfl) (y_load (fun _ => rfl) (ev_g rfl)) (row_cell Zh rfl) rfl ?_
  refine wl_tg (guard_no rfl rfl) rfl (t_buildSl1 rfl rfl (fun _ => rfl) (fun _ => rfl) rfl rfl) rfl ?_
  rintro _ _ ⟨b80, rfl, rfl⟩
  refine wl_tg (guard_no rfl rfl) rfl (t_call rfl (fun _ _ => rfl) (fun w hi => wordsEq_ok X1.Ad (some ⟨b80, 0, none⟩) X1.cd 1 [9] w (hi.rd (show Has _ (sl .u32 22 X1.Ad 1 X1.cd [9]) from Zh)) (hi.rd (show Has _ (sl .u32 22 (some ⟨b80, 0, none⟩) 1 1 [9]) from Zh)))) rfl ?_
  rintro _ _ ⟨_, ⟨rfl, rfl⟩, rfl⟩
  refine Zyn rfl rfl (y_not (ev_g rfl) rfl) ?_
  refine Zy (y_or (Zv rfl) (pk_no rfl (fun _ => rfl))) (Zm rfl (Zyn rfl rfl (y_field 0 rfl (Zv rfl) Zf) ?_))
  refine Zyn rfl rfl (y_field 1 rfl (ev_g rfl) Zf) ?_
  refine wl_yg (guard_no rfl rfl) (y_load (fun _ => rfl) (ev_g rfl)) (row_cell Zh rfl) rfl ?_
  refine Zyn rfl rfl (y_move (Zv rfl)) ?_
  refine wl_tg (guard_no rfl rfl) rfl (t_buildSl1 rfl rfl (fun _ => rfl) (fun _ => rfl) rfl rfl) rfl ?_
  rintro _ _ ⟨b89, rfl, rfl⟩
  refine wl_tg (guard_no rfl rfl) rfl (t_call rfl (fun _ _ => rfl) (fun w hi => wordsEq_ok X2.Ad (some ⟨b89, 0, none⟩) X2.cd 2 [8, want] w (hi.rd (show Has _ (sl .u32 22 X2.Ad 2 X2.cd [8, want]) from Zh)) (hi.rd (show Has _ (sl .u32 22 (some ⟨b89, 0, none⟩) 2 2 [8, want]) from Zh)))) rfl ?_
  rintro _ _ ⟨_, ⟨rfl, rfl⟩, rfl⟩
  refine Zyn rfl rfl (y_not (ev_g rfl) rfl) ?_
  refine Zy (y_or (Zv rfl) (pk_no rfl (fun _ => rfl))) (Zm rfl (Zyn rfl rfl (y_field 18 rfl (Zv rfl) Zf) ?_))
  refine wl_yg (guard_no rfl rfl) (y_load (fun _ => rfl) (ev_g rfl)) (row_cell Zh rfl) rfl ?_
  refine Zyn rfl rfl (y_len ⟨_, rfl⟩ (ev_g rfl)) ?_
  refine Zyn rfl rfl (y_lss (ev_g rfl) (Zv rfl) (decide_eq_false (show ¬ ((pg1.length : Int) < 1) by omega))) ?_
  refine Zy (y_or (Zv rfl) (pk_no rfl (fun _ => rfl))) (Zm rfl (Zyn rfl rfl (y_field 18 rfl (Zv rfl) Zf) ?_))
  refine wl_yg (guard_no rfl rfl) (y_load (fun _ => rfl) (ev_g rfl)) (row_cell Zh rfl) rfl ?_
  refine Zyn rfl rfl (y_len ⟨_, rfl⟩ (ev_g rfl)) ?_
  refine Zyn rfl rfl (y_neq (ev_g rfl) (Zv rfl) (bne_self_eq_false _)) ?_
  refine Zy (y_or (Zv rfl) (pk_no rfl (fun _ => rfl))) (Zm rfl (Zyn rfl rfl (y_field 17 rfl (Zv rfl) Zf) ?_))
  refine wl_yg (guard_no rfl rfl) (y_load (fun _ => rfl) (ev_g rfl)) (row_cell Zh rfl) rfl ?_
  refine Zy (y_or (Zv rfl) (pk_no rfl (fun _ => rfl))) (Zn (Zt (wc_cond_f rfl (rfl) ?_)))
  refine Zc (Zt ?_)
  refine wc_seq_mid (fun q : DAdr × (SAdr × Option Addr × Nat) × Nat => [(1, .int .u32 (v : Int)), (7, .pointer (some ⟨F.bw, 0, none⟩)), (8, .int .i64 (k : Int)), (15, .pointer (some ⟨q.2.2, 0, none⟩))]) (fun q => worldRow F :: (ubF F.bu F.bb F.L F.D q.1 U3 d3 ++ [row q.2.2 (resCells ⟨s3, tr3, dv3, pg3⟩ q.2.1.1 q.2.1.2.1 q.2.1.2.2) 37])) (fun _ => True) ?_ ?_
  · refine wc_draw ⟨fun j => List.elem j [13, 15], []⟩ Zk ?_
    refine wa_yn 0 rfl Zk Zk Zk (y_move (Zv rfl)) rfl ?_
    refine wa_yn 3 rfl Zk Zk Zk (y_move (Zv rfl)) rfl ?_
    refine wa_yn 4 rfl Zk Zk Zk (y_build rfl rfl (fun _ => rfl) rfl rfl rfl Zb) rfl ?_
    refine wa_yn 5 rfl Zk Zk Zk (y_move (Zv rfl)) rfl ?_
    refine wa_yn 6 rfl Zk Zk Zk (y_nil (Zv rfl)) rfl ?_
    refine wa_yn 7 rfl Zk Zk Zk (y_field 0 rfl (Zv rfl) Zf) rfl ?_
    refine wa_ln 8 rfl Zk Zk Zk Zk (y_load (fun _ => rfl) (Zv rfl)) (row_cell Zh rfl) rfl ?_
    refine wa_yn 9 rfl Zk Zk Zk (y_move (Zv rfl)) rfl ?_
    refine wa_yn 10 rfl Zk Zk Zk (y_nil (Zv rfl)) rfl ?_
    refine wa_yn 11 rfl Zk Zk Zk (y_field 1 rfl (Zv rfl) Zf) rfl ?_
    refine wa_ln 12 rfl Zk Zk Zk Zk (y_load (fun _ => rfl) (Zv rfl)) (row_cell Zh rfl) rfl ?_
    refine wa_2 1 14 Zk ?_ ?_
    · refine wi_t rfl rfl (t_buildSl1 rfl rfl (fun _ => rfl) (fun _ => rfl) rfl rfl) (fun _ _ _ _ _ _ _ h => by cases h) rfl ?_
      rintro _ _ ⟨b110, rfl, rfl⟩
      refine wa_yn 2 rfl Zk Zk Zk (y_build rfl rfl (fun _ => rfl) rfl rfl rfl Zb) rfl ?_
      refine wa_2 13 14 Zk ?_ ?_
      · refine wi_t rfl rfl (t_callS (ubF F.bu F.bb F.L F.D Y2 U2 d0) rfl (fun _ _ => rfl) Zi (fun w hi hin => HD3 Y2 _ _ w hin (fun w' hk => ⟨hi.rdKs Zi Zh hk, rdNil _ _, show (2 : Nat) * 4 ≤ 140737488355328 by decide, show (0 : Nat) * 4 ≤ 140737488355328 by decide⟩))) (fun _ _ _ _ _ _ _ h => by cases h) rfl ?_
        rintro _ _ ⟨_, ⟨X3, Y3, Ar, cr, rfl, rfl⟩, rfl⟩
        refine wa_1 14 Zk ?_
        refine wi_t rfl rfl (t_alloc (fun _ => rfl) rfl) (fun _ _ _ _ _ _ _ h => by cases h) rfl ?_
        rintro _ _ ⟨b15, rfl, rfl⟩
        refine wa_1 15 Zk ?_
        refine wi_t0 rfl rfl (t_storeN (fun _ => rfl) rfl rfl (allT rfl) Za (by exact rfl)) (fun _ _ _ _ _ _ _ h => by cases h) ?_
        rintro _ _ ⟨rfl, rfl⟩
        refine wa_done Zk ?_
        refine q_midP ((⟨Y3, ⟨X3, Ar, cr⟩, b15⟩ : DAdr × (SAdr × Option Addr × Nat) × Nat)) ?_ ?_ ?_
        · trivial
        · ((repeat' (refine Wk.cons ?_ ?_)) <;> first | exact Wk.nil | exact rfl | exact trivial | exact wk_num rfl (by omega) | exact wk_num rfl (by simp))
        exact Zj
      refine wi_t rfl rfl (t_alloc (fun _ => rfl) rfl) (fun _ _ _ _ _ _ _ h => by cases h) rfl ?_
      rintro _ _ ⟨b15, rfl, rfl⟩
      refine wa_1 13 Zk ?_
      refine wi_t rfl rfl (t_callS (ubF F.bu F.bb F.L F.D Y2 U2 d0) rfl (fun _ _ => rfl) Zi (fun w hi hin => HD3 Y2 _ _ w hin (fun w' hk => ⟨hi.rdKs Zi Zh hk, rdNil _ _, show (2 : Nat) * 4 ≤ 140737488355328 by decide, show (0 : Nat) * 4 ≤ 140737488355328 by decide⟩))) (fun _ _ _ _ _ _ _ h => by cases h) rfl ?_
      rintro _ _ ⟨_, ⟨X3, Y3, Ar, cr, rfl, rfl⟩, rfl⟩
      refine wa_1 15 Zk ?_
      refine wi_t0 rfl rfl (t_storeN (fun _ => rfl) rfl rfl (allT rfl) Za (by exact rfl)) (fun _ _ _ _ _ _ _ h => by cases h) ?_
      rintro _ _ ⟨rfl, rfl⟩
      refine wa_done Zk ?_
      refine q_midP ((⟨Y3, ⟨X3, Ar, cr⟩, b15⟩ : DAdr × (SAdr × Option Addr × Nat) × Nat)) ?_ ?_ ?_
      · trivial
      · ((repeat' (refine Wk.cons ?_ ?_)) <;> first | exact Wk.nil | exact rfl | exact trivial | exact wk_num rfl (by omega) | exact wk_num rfl (by simp))
      exact Zj
    refine wi_t rfl rfl (t_alloc (fun _ => rfl) rfl) (fun _ _ _ _ _ _ _ h => by cases h) rfl ?_
    rintro _ _ ⟨b15, rfl, rfl⟩
    refine wa_1 1 Zk ?_
    refine wi_t rfl rfl (t_buildSl1 rfl rfl (fun _ => rfl) (fun _ => rfl) rfl rfl) (fun _ _ _ _ _ _ _ h => by cases h) rfl ?_
    rintro _ _ ⟨b110, rfl, rfl⟩
    refine wa_yn 2 rfl Zk Zk Zk (y_build rfl rfl (fun _ => rfl) rfl rfl rfl Zb) rfl ?_
    refine wa_1 13 Zk ?_
    refine wi_t rfl rfl (t_callS (ubF F.bu F.bb F.L F.D Y2 U2 d0) rfl (fun _ _ => rfl) Zi (fun w hi hin => HD3 Y2 _ _ w hin (fun w' hk => ⟨hi.rdKs Zi Zh hk, rdNil _ _, show (2 : Nat) * 4 ≤ 140737488355328 by decide, show (0 : Nat) * 4 ≤ 140737488355328 by decide⟩))) (fun _ _ _ _ _ _ _ h => by cases h) rfl ?_
    rintro _ _ ⟨_, ⟨X3, Y3, Ar, cr, rfl, rfl⟩, rfl⟩
    refine wa_1 15 Zk ?_
    refine wi_t0 rfl rfl (t_storeN (fun _ => rfl) rfl rfl (allT rfl) Za (by exact rfl)) (fun _ _ _ _ _ _ _ h => by cases h) ?_
    rintro _ _ ⟨rfl, rfl⟩
    refine wa_done Zk ?_
    refine q_midP ((⟨Y3, ⟨X3, Ar, cr⟩, b15⟩ : DAdr × (SAdr × Option Addr × Nat) × Nat)) ?_ ?_ ?_
    · trivial
    · ((repeat' (refine Wk.cons ?_ ?_)) <;> first | exact Wk.nil | exact rfl | exact trivial | exact wk_num rfl (by omega) | exact wk_num rfl (by simp))
    exact Zj
  rintro ⟨Y3, ⟨X3, Ar, cr⟩, b15⟩ -
  dsimp only
  refine Zs ?_
  rcases (show k = 0 ∨ 0 < k by omega) with rfl | hk0
  · obtain ⟨rfl, hmk⟩ := q10 rfl
    obtain rfl : tr3 = false := q9
    refine Zr (Zy (y_field 16 rfl (Zv rfl) Zf) ?_)
    refine Zz rfl ?_
    refine Zm rfl (Zy (y_gtr (Zv rfl) (Zv rfl) (show _ = false from rfl)) ?_)
    refine Zy (y_eqlb rfl (Zv rfl) (Zv rfl) (beq_self_eq_true _)) ?_
    refine Zm rfl (Zyy rfl rfl (y_move (Zv rfl)) ?_)
    refine Zyy rfl rfl (y_gtr (ev_g rfl) (Zv rfl) (show _ = false from rfl)) ?_
    refine Zyy rfl rfl (y_move (ev_g rfl)) ?_
    refine wl_yg (guard_deep rfl rfl) (y_field 17 rfl (Zv rfl) Zf) (fun _ _ => trivial) rfl ?_
    refine wl_yg (guard_deep rfl rfl) (y_load (fun _ => rfl) (ev_g rfl)) (row_cell Zh rfl) rfl ?_
    refine wl_yg (guard_deep rfl rfl) (y_move (ev_g rfl)) (fun _ _ => trivial) rfl ?_
    refine wl_yg (guard_deep rfl rfl) (y_move (Zv rfl)) (fun _ _ => trivial) rfl ?_
    refine wl_yg (guard_deep rfl rfl) (y_nil (ev_g rfl)) (fun _ _ => trivial) rfl ?_
    refine wl_yg (guard_deep rfl rfl) (y_field 1 rfl (ev_g rfl) Zf) (fun _ _ => trivial) rfl ?_
    refine wl_yg (guard_deep rfl rfl) (y_load (fun _ => rfl) (ev_g rfl)) (row_cell Zh rfl) rfl ?_
    refine wl_yg (guard_deep rfl rfl) (y_nil (ev_g rfl)) (fun _ _ => trivial) rfl ?_
    refine wl_yg (guard_deep rfl rfl) (y_field 0 rfl (ev_g rfl) Zf) (fun _ _ => trivial) rfl ?_
    refine wl_yg (guard_deep rfl rfl) (y_load (fun _ => rfl) (ev_g rfl)) (row_cell Zh rfl) rfl ?_
    refine wl_tg (guard_deep rfl rfl) rfl (t_call rfl (fun _ _ => rfl) (fun w hi => mask_ok F.D.bi d3.pend d3.mask w (hi.get Zh))) rfl ?_
    rintro _ _ ⟨_, ⟨rfl, rfl⟩, rfl⟩
    refine wl_yg (guard_deep rfl rfl) (y_move (Zv rfl)) (fun _ _ => trivial) rfl ?_
    refine wl_yg (guard_deep rfl rfl) (y_rem (ev_g rfl) (Zv rfl) (by omega) (show _ = ((v % 256 : Nat) : Int) from by rw [Int.tmod_eq_emod_of_nonneg (by omega)]; omega)) (fun _ _ => trivial) rfl ?_
    refine wl_yg (guard_deep rfl rfl) (y_eql (ev_g rfl) (ev_g rfl) (show _ = true from by rw [hmk]; exact beq_self_eq_true _)) (fun _ _ => trivial) rfl ?_
    refine wl_yg (guard_deep rfl rfl) (y_and (ev_g rfl) (pk_gyes rfl (fun _ _ => rfl))) (fun _ _ => trivial) rfl ?_
    refine Zyy rfl rfl (y_or (ev_g rfl) (pk_gno rfl (fun _ _ => rfl))) ?_
    refine Zy (y_and (Zv rfl) (pk_yes rfl (fun _ => rfl))) (Zm rfl (wl_tg (guard_yes rfl rfl) rfl (t_call rfl (fun _ _ => rfl) (fun w hi => known_ok w)) rfl ?_))
    rintro _ _ ⟨_, ⟨rfl, rfl⟩, rfl⟩
    refine Zy (y_and (Zv rfl) (pk_yes rfl (fun _ => rfl))) (Zg rfl (Zn (Zt (Ze (ret1 (cs' := []) (.inl rfl) Zu rfl rfl ?_)))))
    exact ⟨rfl, rfl⟩
  obtain rfl : tr3 = true := q9.trans (decide_eq_true (by omega))
  refine Zr (Zy (y_field 16 rfl (Zv rfl) Zf) ?_)
  refine Zz rfl ?_
  refine Zm rfl (Zy (y_gtr (Zv rfl) (Zv rfl) (decide_eq_true (by omega))) ?_)
  refine Zy (y_eqlb rfl (Zv rfl) (Zv rfl) (beq_self_eq_true _)) ?_
  refine Zm rfl (Zyy rfl rfl (y_move (Zv rfl)) ?_)
  refine Zyy rfl rfl (y_gtr (ev_g rfl) (Zv rfl) (decide_eq_true (by omega))) ?_
  refine Zyy rfl rfl (y_move (ev_g rfl)) ?_
  refine wl_yg (guard_deep rfl rfl) (y_field 17 rfl (Zv rfl) Zf) (fun _ _ => trivial) rfl ?_
  refine wl_yg (guard_deep rfl rfl) (y_load (fun _ => rfl) (ev_g rfl)) (row_cell Zh rfl) rfl ?_
  refine wl_yg (guard_deep rfl rfl) (y_move (ev_g rfl)) (fun _ _ => trivial) rfl ?_
  refine wl_yg (guard_deep rfl rfl) (y_move (Zv rfl)) (fun _ _ => trivial) rfl ?_
  refine wl_yg (guard_deep rfl rfl) (y_nil (ev_g rfl)) (fun _ _ => trivial) rfl ?_
  refine wl_yg (guard_deep rfl rfl) (y_field 1 rfl (ev_g rfl) Zf) (fun _ _ => trivial) rfl ?_
  refine wl_yg (guard_deep rfl rfl) (y_load (fun _ => rfl) (ev_g rfl)) (row_cell Zh rfl) rfl ?_
  refine wl_yg (guard_deep rfl rfl) (y_nil (ev_g rfl)) (fun _ _ => trivial) rfl ?_
  refine wl_yg (guard_deep rfl rfl) (y_field 0 rfl (ev_g rfl) Zf) (fun _ _ => trivial) rfl ?_
  refine wl_yg (guard_deep rfl rfl) (y_load (fun _ => rfl) (ev_g rfl)) (row_cell Zh rfl) rfl ?_
  refine wl_skip (guard_deep rfl rfl) rfl rfl ?_
  refine wl_yg (guard_deep rfl rfl) (y_move (Zv rfl)) (fun _ _ => trivial) rfl ?_
  refine wl_yg (guard_deep rfl rfl) (y_rem (ev_g rfl) (Zv rfl) (by omega) (by first | exact IntWalk.rem_in _ _ (by omega) | exact rfl)) (fun _ _ => trivial) rfl ?_
  refine wl_skip (guard_deep rfl rfl) rfl rfl ?_
  refine wl_skip (guard_deep rfl rfl) rfl rfl ?_
  refine Zyy rfl rfl (y_or (q := false) (ev_g rfl) ⟨_, rfl, fun _ e => by simp at e⟩) ?_
  refine Zy (y_and (Zv rfl) (pk_yes rfl (fun _ => rfl))) (Zm rfl (wl_tg (guard_yes rfl rfl) rfl (t_call rfl (fun _ _ => rfl) (fun w hi => known_ok w)) rfl ?_))
  rintro _ _ ⟨_, ⟨rfl, rfl⟩, rfl⟩
  refine Zy (y_and (Zv rfl) (pk_yes rfl (fun _ => rfl))) (Zg rfl (Zn (Zt (Ze (ret1 (cs' := []) (.inl rfl) Zu rfl rfl ?_)))))
  exact ⟨rfl, rfl⟩
end Go.Proofs.YtobjiljkfmcalaaGreat
