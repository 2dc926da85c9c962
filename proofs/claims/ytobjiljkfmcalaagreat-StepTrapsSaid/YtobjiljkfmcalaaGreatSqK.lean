/- The law StepCounts. -/
import Derived.Test.YtobjiljkfmcalaaGreatSqJ
import Derived.Test.YtobjiljkfmcalaaGreatInkA
set_option linter.unusedSimpArgs false
set_option linter.unusedVariables false
set_option maxRecDepth 100000
namespace Go.Ink
open Go.RowKit
/-- What is no instruction is told so. -/
theorem do_illegal {n : Nat} {op nn : Int} {s : St} {U : Mmu} {d : Dev} (hr : s.right = true) (hc : checkOf s op nn = 1) : (doTo n s op nn U d).1 = ⟨s.next.trap 1 0, true, false, []⟩ := by
  unfold doTo
  rw [hr, hc]
  rfl
end Go.Ink
namespace Go.Proofs.YtobjiljkfmcalaaGreat
open Go.RowKit Go.Ink
set_option maxHeartbeats 2000000 in
theorem stepCounts_ok (s : St) (hs : s.wf) (Ad Ar B : Option Addr) (cd cr cb : Nat) (l : List AskR) (w : World) (h : RdSt w s Ad Ar cd cr) (hB : RdV w 6 B l.length cb (l.flatMap AskR.cells)) (hl : ∀ a, a ∈ l → a.ok w) :
    Ctr Tryz.prog 6 [sv s Ad cd Ar cr, .slice B l.length cb] w [] (fun v cs => v = .bool true ∧ cs = []) := by
  have hnil : u8s [] := fun x hx => by cases hx
  have HF := fun w => fresh_ok none none 0 0 2 [] [] (by decide) (by decide) (by decide) hnil (by decide) w (rdNil w .u8) (rdNil w .u8)
  have HT := trim_ok s hs Ad Ar cd cr
  have htw := St.tr_wf hs
  have htr := St.tr_right (s := s)
  obtain ⟨t, ht⟩ : ∃ t, s.trim = t := ⟨_, rfl⟩
  rw [ht] at HT htw htr
  have hU0 : UOk 2 ⟨Mem.init 2 [], tflush⟩ := ⟨init_ok (by decide) hnil, tflush_len⟩
  have hd0 := Dev.init_ok (l := []) (by decide) hnil
  have ho0 : (Dev.init []).out.length ≤ 0 := by decide
  obtain ⟨M, hM⟩ : ∃ M, Mem.init 2 [] = M := ⟨_, rfl⟩
  obtain ⟨d0, hdd⟩ : ∃ d, Dev.init [] = d := ⟨_, rfl⟩
  obtain ⟨T0, hTT⟩ : ∃ T, tflush = T := ⟨_, rfl⟩
  rw [hM, hTT, hdd] at HF
  rw [hM, hTT] at hU0
  rw [hdd] at hd0 ho0
  have hlm : l.length ≤ maxLen := Nat.le_trans hB.cap hB.max
  simp only [maxLen] at hlm
  refine fn_ctr Tryz.func6 rfl Tryz.ntmps6 rfl (Inv.start w) ?_
  refine Zs (Zr (wl_t (t_box rfl rfl) rfl ?_))
  rintro _ _ ⟨b2, rfl, rfl⟩
  refine Zg rfl (Zn (Zt (Zs (Zr (wl_t (t_call rfl (fun _ _ => rfl) (fun w hi => HF w)) rfl ?_)))))
  rintro _ _ ⟨_, ⟨F, hF, rfl, rfl⟩, rfl⟩
  refine Zg rfl (Zn (Zt (Zs (Zs (Zr (Zm rfl (Zy (y_pnil rfl (Zv rfl)) (Zn (Zt (wc_cond_f rfl (rfl) ?_))))))))))
  refine Zc (Zt (Zs (Zr (wl_loadRow Zh (fun _ => rfl) (fun _ => rfl) (Zv rfl) rfl ?_))))
  refine wl_t (t_call rfl (fun _ _ => rfl) (fun w hi => HT w (h.oldN hi))) rfl ?_
  rintro _ _ ⟨_, ⟨A1, c1, A2, c2, rfl, rfl⟩, rfl⟩
  refine wl_t0 (t_storeN (fun _ => rfl) rfl rfl (allT rfl) Za (by exact rfl)) ?_
  rintro _ _ ⟨rfl, rfl⟩
  refine Zn (Zt (Zs (Zs (Zr (wl_pick ([row b2 (t.cells (.slice A1 t.d.length c1) (.slice A2 t.r.length c2)) 26, slD t A1 c1, slR t A2 c2, worldRow F] ++ ubF F.bu F.bb F.L F.D ⟨none, 0, none, 0⟩ ⟨M, T0⟩ d0) Zj ?_)))))
  refine Zg rfl (Zn (Zt (Zx ?_)))
  refine wc_loop (fun q : Nat × St × SAdr × DAdr × Mmu × Dev => [(1, .slice B l.length cb), (2, .pointer (some ⟨b2, 0, none⟩)), (5, .pointer (some ⟨F.bw, 0, none⟩)), (6, .int .i64 (q.1 : Int))]) (fun q => [row b2 (q.2.1.cells (.slice q.2.2.1.Ad q.2.1.d.length q.2.2.1.cd) (.slice q.2.2.1.Ar q.2.1.r.length q.2.2.1.cr)) 26, slD q.2.1 q.2.2.1.Ad q.2.2.1.cd, slR q.2.1 q.2.2.1.Ar q.2.2.1.cr, worldRow F] ++ ubF F.bu F.bb F.L F.D q.2.2.2.1 q.2.2.2.2.1 q.2.2.2.2.2) (fun q => q.1 ≤ l.length ∧ q.1 ≤ 40 ∧ q.2.1.wf ∧ q.2.1.right = true ∧ UOk 2 q.2.2.2.2.1 ∧ q.2.2.2.2.2.ok ∧ q.2.2.2.2.2.out.length ≤ q.1) (fun q => 40 - q.1) (⟨0, t, ⟨A1, c1, A2, c2⟩, ⟨none, 0, none, 0⟩, ⟨M, T0⟩, d0⟩) ?_ ?_ ?_ ?_
  · exact ⟨Nat.zero_le _, Nat.zero_le _, htw, htr, hU0, hd0, ho0⟩
  · ((repeat' (refine Wk.cons ?_ ?_)) <;> first | exact Wk.nil | exact rfl | exact trivial | exact wk_num rfl (by omega) | exact wk_num rfl (by simp))
  · ((repeat (first | exact List.Sublist.slnil | refine List.Sublist.cons_cons _ ?_ | refine List.Sublist.cons _ ?_)))
  rintro ⟨k, s, X, Y, U, d⟩ ⟨hk1, hk40, hw, hr, hU, hd, ho⟩
  dsimp only at hk1 hk40 hw hr hU hd ho ⊢
  refine Zs (Zs (Zr (Zm rfl (Zm rfl (Zy (y_len ⟨_, rfl⟩ (Zv rfl)) ?_)))))
  refine Zy (y_lss (Zv rfl) (Zv rfl) rfl) (Zm rfl (Zyy rfl rfl (y_move (Zv rfl)) ?_))
  refine Zyy rfl rfl (y_lss (ev_g rfl) (Zv rfl) rfl) ?_
  refine Zy (y_and (Zv rfl) (pk_yes rfl (fun _ => rfl))) (Zn (Zt ?_))
  refine wc_cond _ rfl (fun hc6 => ?_) (fun hc6 => ?_)
  · simp only [Bool.and_eq_true, decide_eq_true_eq] at hc6
    have hkl : k < l.length := (by omega)
    obtain ⟨ad, rfl⟩ := hB.some_ (by omega)
    have hla : l[k]? = some (l[k]'hkl) := List.getElem?_eq_getElem hkl
    have hao := hl _ (List.getElem_mem hkl)
    obtain ⟨a, ha⟩ : ∃ a, l[k]'hkl = a := ⟨_, rfl⟩
    rw [ha] at hla hao
    obtain ⟨hd16, hr16, hf15⟩ := St.fits hr
    refine Zc (Zt (Zs (Zx (Zs (Zr (Zm rfl (Zm rfl (Zy (y_index (j := k)  rfl (fun _ => rfl) (Zv rfl) (Zv rfl)  (fun _ => by omega) (fun _ => by omega)) ?_))))))))
    refine Zy (y_fieldA 4 rfl (Zv rfl) ((add_of_add ad (k * 6) 4))) ?_
    refine wl_y (y_loadN (vs := [.int .i64 a.op, .int .u32 a.nn]) (fun _ => rfl) (fun _ => rfl) (Zv rfl)) (rdR_cells hB (fun j v hj => (by have := flat_at AskR.cells_len (i := 4 + j) (v := v) hla (by rcases j with _ | _ | j; exact hj; exact hj; simp at hj); rwa [← Nat.add_assoc] at this))) rfl ?_
    refine wl_t (t_alloc (fun _ => rfl) rfl) rfl ?_
    rintro _ _ ⟨b7, rfl, rfl⟩
    refine wl_t0 (t_storeN (fun _ => rfl) rfl rfl (allT rfl) Za (by exact rfl)) ?_
    rintro _ _ ⟨rfl, rfl⟩
    refine Zn (Zt ?_)
    refine wc_seq_mid (fun q : Int × Int => [(1, .slice (some ad) l.length cb), (2, .pointer (some ⟨b2, 0, none⟩)), (5, .pointer (some ⟨F.bw, 0, none⟩)), (6, .int .i64 (k : Int)), (7, .pointer (some ⟨b7, 0, none⟩))]) (fun q => [row b2 (s.cells (.slice X.Ad s.d.length X.cd) (.slice X.Ar s.r.length X.cr)) 26, slD s X.Ad X.cd, slR s X.Ar X.cr, worldRow F] ++ ubF F.bu F.bb F.L F.D Y U d ++ [row b7 [.int .i64 q.1, .int .u32 q.2] 33]) (fun q => u32 q.2) ?_ ?_
    · refine Zs (Zr (Zm rfl (Zy (y_rem (Zv rfl) (Zv rfl) (by omega) (by first | exact IntWalk.rem_in _ _ (by omega) | exact rfl)) ?_)))
      refine Zy (y_eql (Zv rfl) (Zv rfl) rfl) (Zn (Zt ?_))
      refine wc_cond _ rfl (fun hc9 => ?_) (fun hc9 => ?_)
      · refine wc_draw ⟨fun j => List.elem j [11], []⟩ Zk ?_
        refine wa_yn 0 rfl Zk Zk Zk (y_move (Zv rfl)) rfl ?_
        refine wa_yn 1 rfl Zk Zk Zk (y_move (Zv rfl)) rfl ?_
        refine wa_yn 2 rfl Zk Zk Zk (y_index (j := k)  rfl (fun _ => rfl) (Zv rfl) (Zv rfl)  (fun _ => by omega) (fun _ => by omega)) rfl ?_
        refine wa_yn 3 rfl Zk Zk Zk (y_fieldA 0 rfl (Zv rfl) ((add_of_add ad (k * 6) 0))) rfl ?_
        refine wa_ln 4 rfl Zk Zk Zk Zk (y_load (fun _ => rfl) (Zv rfl)) (rdR_cell hB (flat_at AskR.cells_len (i := 0) hla rfl)) rfl ?_
        refine wa_yn 5 rfl Zk Zk Zk (y_move (Zv rfl)) rfl ?_
        refine wa_yn 6 rfl Zk Zk Zk (y_move (Zv rfl)) rfl ?_
        refine wa_yn 7 rfl Zk Zk Zk (y_index (j := k)  rfl (fun _ => rfl) (Zv rfl) (Zv rfl)  (fun _ => by omega) (fun _ => by omega)) rfl ?_
        refine wa_yn 8 rfl Zk Zk Zk (y_fieldA 1 rfl (Zv rfl) ((add_of_add ad (k * 6) 1))) rfl ?_
        refine wa_ln 9 rfl Zk Zk Zk Zk (y_load (fun _ => rfl) (Zv rfl)) (rdR_cell hB (flat_at AskR.cells_len (i := 1) hla rfl)) rfl ?_
        refine wa_1 10 Zk ?_
        refine wi_t rfl rfl (t_call rfl (fun _ _ => rfl) (fun w hi => instr_ok a.n a.v hao.v w)) (fun _ _ _ _ _ _ _ h => by cases h) rfl ?_
        rintro _ _ ⟨_, ⟨⟨op, nn, rfl, hnu, -⟩, rfl⟩, rfl⟩
        refine wa_1 11 Zk ?_
        refine wi_t0 rfl rfl (t_storeN (fun _ => rfl) rfl rfl (allT rfl) Za (by exact rfl)) (fun _ _ _ _ _ _ _ h => by cases h) ?_
        rintro _ _ ⟨rfl, rfl⟩
        refine wa_done Zk ?_
        refine q_midP ((⟨op, nn⟩ : Int × Int)) ?_ ?_ ?_
        · exact hnu
        · ((repeat' (refine Wk.cons ?_ ?_)) <;> first | exact Wk.nil | exact rfl | exact trivial | exact wk_num rfl (by omega) | exact wk_num rfl (by simp))
        exact Zj
      refine Zc ?_
      refine q_midP ((⟨a.op, a.nn⟩ : Int × Int)) ?_ ?_ ?_
      · exact hao.nn
      · ((repeat' (refine Wk.cons ?_ ?_)) <;> first | exact Wk.nil | exact rfl | exact trivial | exact wk_num rfl (by omega) | exact wk_num rfl (by simp))
      exact Zj
    rintro ⟨op, nn⟩ hnu
    dsimp only at hnu ⊢
    have HD := fun w hin h => do_ok F.bu F.bb F.L F.D Y s X.Ad X.Ar X.cd X.cr op nn U d hw hnu hU.t hd.wf (by omega) w hin h
    have hG := do_goes (op := op) (nn := nn) hw hr hnu hU hd
    have HC := check_ok s X.Ad X.Ar X.cd X.cr op nn hnu
    have hI : checkOf s op nn = 1 → _ := fun h => do_illegal (n := 2) (U := U) (d := d) hr h
    rw [hF] at HD
    obtain ⟨⟨q, U1, d1⟩, hq⟩ : ∃ q, doTo 2 s op nn U d = q := ⟨_, rfl⟩
    rw [hq] at HD hG hI
    obtain ⟨g1, g2, g3, g4, g5, g6⟩ := hG
    dsimp only at g1 g2 g3 g4 g5 g6 hI
    obtain ⟨⟨pc', d', r', fl', su', pg', ie', rt', ve', ep', ca', ad', es', ei', co', ha'⟩, tr', dv', pgs'⟩ := q
    dsimp only at g3
    obtain ⟨ck, hck⟩ : ∃ c, checkOf s op nn = c := ⟨_, rfl⟩
    rw [hck] at HC hI
    refine Zs (wc_draw ⟨fun j => List.elem j [10, 12], []⟩ Zk ?_)
    refine wa_loadRow 0 rfl Zk Zk Zk Zk Zh (fun _ => rfl) (fun _ => rfl) (Zv rfl) rfl ?_
    refine wa_loadRow 1 rfl Zk Zk Zk Zk Zh (fun _ => rfl) (fun _ => rfl) (Zv rfl) rfl ?_
    refine wa_yn 2 rfl Zk Zk Zk (y_move (Zv rfl)) rfl ?_
    refine wa_yn 3 rfl Zk Zk Zk (y_nil (Zv rfl)) rfl ?_
    refine wa_yn 4 rfl Zk Zk Zk (y_field 0 rfl (Zv rfl) Zf) rfl ?_
    refine wa_ln 5 rfl Zk Zk Zk Zk (y_load (fun _ => rfl) (Zv rfl)) (row_cell Zh rfl) rfl ?_
    refine wa_yn 6 rfl Zk Zk Zk (y_move (Zv rfl)) rfl ?_
    refine wa_yn 7 rfl Zk Zk Zk (y_nil (Zv rfl)) rfl ?_
    refine wa_yn 8 rfl Zk Zk Zk (y_field 1 rfl (Zv rfl) Zf) rfl ?_
    refine wa_ln 9 rfl Zk Zk Zk Zk (y_load (fun _ => rfl) (Zv rfl)) (row_cell Zh rfl) rfl ?_
    refine wa_2 10 11 Zk ?_ ?_
    · refine wi_t rfl rfl (t_callS (ubF F.bu F.bb F.L F.D Y U d) rfl (fun _ _ => rfl) Zi (fun w hi hin => HD w hin (fun w' hk => hi.rdStKs Zi Zh Zh (by omega) (by omega) hk))) (fun _ _ _ _ _ _ _ h => by cases h) rfl ?_
      rintro _ _ ⟨_, ⟨X1, Y1, Ap, cp, rfl, rfl⟩, rfl⟩
      refine wa_1 11 Zk ?_
      refine wi_t rfl rfl (t_alloc (fun _ => rfl) rfl) (fun _ _ _ _ _ _ _ h => by cases h) rfl ?_
      rintro _ _ ⟨b8, rfl, rfl⟩
      refine wa_1 12 Zk ?_
      refine wi_t0 rfl rfl (t_storeN (fun _ => rfl) rfl rfl (allT rfl) Za (by exact rfl)) (fun _ _ _ _ _ _ _ h => by cases h) ?_
      rintro _ _ ⟨rfl, rfl⟩
      refine wa_done Zk ?_
      refine Zt (Zs (Zs (Zr (Zy (y_field 0 rfl (Zv rfl) Zf) ?_))))
      refine Zy (y_field 14 rfl (Zv rfl) Zf) ?_
      refine Zz rfl ?_
      refine Zy (y_field 14 rfl (Zv rfl) Zf) ?_
      refine Zz rfl ?_
      refine Zy (y_add (Zv rfl) (Zv rfl) g3.symm) ?_
      refine Zy (y_neq (Zv rfl) (Zv rfl) (bne_self_eq_false co')) ?_
      refine Zn (Zt (wc_cond_f rfl (rfl) ?_))
      refine Zc (Zt (Zs (Zs (Zr (wl_loadRow Zh (fun _ => rfl) (fun _ => rfl) (Zv rfl) rfl ?_)))))
      refine wl_loadRow Zh (fun _ => rfl) (fun _ => rfl) (Zv rfl) rfl ?_
      refine wl_t (t_call rfl (fun _ _ => rfl) (fun w hi => HC w (hi.rdSt Zh Zh (by omega) (by omega)))) rfl ?_
      rintro _ _ ⟨_, ⟨rfl, rfl⟩, rfl⟩
      refine Zy (y_eql (Zv rfl) (Zv rfl) rfl) (Zm rfl (Zyy rfl rfl (y_field 16 rfl (Zv rfl) Zf) ?_))
      refine wl_yg (guard_yes rfl rfl) (y_load (fun _ => rfl) (ev_g rfl)) (row_cell Zh rfl) rfl ?_
      refine Zyy rfl rfl (y_not (ev_g rfl) rfl) ?_
      refine Zyy rfl rfl (y_move (ev_g rfl)) ?_
      refine wl_yg (guard_deep rfl rfl) (y_field 0 rfl (Zv rfl) Zf) (fun _ _ => trivial) rfl ?_
      refine wl_yg (guard_deep rfl rfl) (y_field 10 rfl (ev_g rfl) Zf) (fun _ _ => trivial) rfl ?_
      refine wl_yg (guard_deep rfl rfl) (y_load (fun _ => rfl) (ev_g rfl)) (row_cell Zh rfl) rfl ?_
      refine wl_yg (guard_deep rfl rfl) (y_neq (ev_g rfl) (Zv rfl) rfl) (fun _ _ => trivial) rfl ?_
      refine Zyy rfl rfl (y_or (ev_g rfl) (pk_gno rfl (fun _ _ => rfl))) ?_
      refine Zyy rfl rfl (y_move (ev_g rfl)) ?_
      refine wl_yg (guard_deep rfl rfl) (y_field 0 rfl (Zv rfl) Zf) (fun _ _ => trivial) rfl ?_
      refine wl_yg (guard_deep rfl rfl) (y_field 9 rfl (ev_g rfl) Zf) (fun _ _ => trivial) rfl ?_
      refine wl_yg (guard_deep rfl rfl) (y_load (fun _ => rfl) (ev_g rfl)) (row_cell Zh rfl) rfl ?_
      refine wl_yg (guard_deep rfl rfl) (y_field 0 rfl (Zv rfl) Zf) (fun _ _ => trivial) rfl ?_
      refine wl_yg (guard_deep rfl rfl) (y_load (fun _ => rfl) (ev_g rfl)) (row_cell Zh rfl) rfl ?_
      refine wl_yg (guard_deep rfl rfl) (y_neq (ev_g rfl) (ev_g rfl) rfl) (fun _ _ => trivial) rfl ?_
      refine Zyy rfl rfl (y_or (ev_g rfl) (pk_gno rfl (fun _ _ => rfl))) ?_
      refine Zyy rfl rfl (y_move (ev_g rfl)) ?_
      refine wl_yg (guard_deep rfl rfl) (y_field 0 rfl (Zv rfl) Zf) (fun _ _ => trivial) rfl ?_
      refine wl_yg (guard_deep rfl rfl) (y_field 0 rfl (ev_g rfl) Zf) (fun _ _ => trivial) rfl ?_
      refine wl_yg (guard_deep rfl rfl) (y_load (fun _ => rfl) (ev_g rfl)) (row_cell Zh rfl) rfl ?_
      refine wl_yg (guard_deep rfl rfl) (y_field 8 rfl (Zv rfl) Zf) (fun _ _ => trivial) rfl ?_
      refine wl_yg (guard_deep rfl rfl) (y_load (fun _ => rfl) (ev_g rfl)) (row_cell Zh rfl) rfl ?_
      refine wl_yg (guard_deep rfl rfl) (y_neq (ev_g rfl) (ev_g rfl) rfl) (fun _ _ => trivial) rfl ?_
      refine Zyy rfl rfl (y_or (ev_g rfl) (pk_gno rfl (fun _ _ => rfl))) ?_
      refine Zy (y_and (Zv rfl) (pk_yes rfl (fun _ => rfl))) (Zn (Zt (wc_cond_f rfl ((by cases hk : (ck == 1) with | false => rfl | true => (have e := hI (beqZ hk); simp only [Res.mk.injEq, St.trap, St.mk.injEq] at e; obtain ⟨⟨rfl, -, -, -, -, -, -, -, -, rfl, rfl, -⟩, rfl, -, -⟩ := e; simp; rfl))) ?_)))
      refine Zc (Zt (Zr (Zy (y_field 0 rfl (Zv rfl) Zf) ?_)))
      refine wl_y (y_loadN (vs := St.cells ⟨pc', d', r', fl', su', pg', ie', rt', ve', ep', ca', ad', es', ei', co', ha'⟩ (.slice X1.Ad d'.length X1.cd) (.slice X1.Ar r'.length X1.cr)) (fun _ => rfl) (fun _ => rfl) (Zv rfl)) (row_cells Zh rfl) rfl ?_
      refine wl_t0 (t_storeN (fun _ => rfl) rfl rfl (allT rfl) Za (by exact rfl)) ?_
      rintro _ _ ⟨rfl, rfl⟩
      refine Zn (Zo (Zt (Zr (Zm rfl (Zy (y_add (Zv rfl) (Zv rfl) Zl) ?_)))))
      refine Zg rfl (Zn ?_)
      refine q_midP ((⟨k + 1, ⟨pc', d', r', fl', su', pg', ie', rt', ve', ep', ca', ad', es', ei', co', ha'⟩, X1, Y1, U1, d1⟩ : Nat × St × SAdr × DAdr × Mmu × Dev)) ?_ ?_ ?_
      · exact ⟨⟨show k + 1 ≤ l.length by omega, show k + 1 ≤ 40 by omega, g1, g2, g4, g5, show d1.out.length ≤ k + 1 by omega⟩, show 40 - (k + 1) < 40 - k by omega⟩
      · ((repeat' (refine Wk.cons ?_ ?_)) <;> first | exact Wk.nil | exact rfl | exact trivial | exact wk_num rfl (by omega) | exact wk_num rfl (by simp))
      exact Zj
    refine wi_t rfl rfl (t_alloc (fun _ => rfl) rfl) (fun _ _ _ _ _ _ _ h => by cases h) rfl ?_
    rintro _ _ ⟨b8, rfl, rfl⟩
    refine wa_1 10 Zk ?_
    refine wi_t rfl rfl (t_callS (ubF F.bu F.bb F.L F.D Y U d) rfl (fun _ _ => rfl) Zi (fun w hi hin => HD w hin (fun w' hk => hi.rdStKs Zi Zh Zh (by omega) (by omega) hk))) (fun _ _ _ _ _ _ _ h => by cases h) rfl ?_
    rintro _ _ ⟨_, ⟨X1, Y1, Ap, cp, rfl, rfl⟩, rfl⟩
    refine wa_1 12 Zk ?_
    refine wi_t0 rfl rfl (t_storeN (fun _ => rfl) rfl rfl (allT rfl) Za (by exact rfl)) (fun _ _ _ _ _ _ _ h => by cases h) ?_
    rintro _ _ ⟨rfl, rfl⟩
    refine wa_done Zk ?_
    refine Zt (Zs (Zs (Zr (Zy (y_field 0 rfl (Zv rfl) Zf) ?_))))
    refine Zy (y_field 14 rfl (Zv rfl) Zf) ?_
    refine Zz rfl ?_
    refine Zy (y_field 14 rfl (Zv rfl) Zf) ?_
    refine Zz rfl ?_
    refine Zy (y_add (Zv rfl) (Zv rfl) g3.symm) ?_
    refine Zy (y_neq (Zv rfl) (Zv rfl) (bne_self_eq_false co')) ?_
    refine Zn (Zt (wc_cond_f rfl (rfl) ?_))
    refine Zc (Zt (Zs (Zs (Zr (wl_loadRow Zh (fun _ => rfl) (fun _ => rfl) (Zv rfl) rfl ?_)))))
    refine wl_loadRow Zh (fun _ => rfl) (fun _ => rfl) (Zv rfl) rfl ?_
    refine wl_t (t_call rfl (fun _ _ => rfl) (fun w hi => HC w (hi.rdSt Zh Zh (by omega) (by omega)))) rfl ?_
    rintro _ _ ⟨_, ⟨rfl, rfl⟩, rfl⟩
    refine Zy (y_eql (Zv rfl) (Zv rfl) rfl) (Zm rfl (Zyy rfl rfl (y_field 16 rfl (Zv rfl) Zf) ?_))
    refine wl_yg (guard_yes rfl rfl) (y_load (fun _ => rfl) (ev_g rfl)) (row_cell Zh rfl) rfl ?_
    refine Zyy rfl rfl (y_not (ev_g rfl) rfl) ?_
    refine Zyy rfl rfl (y_move (ev_g rfl)) ?_
    refine wl_yg (guard_deep rfl rfl) (y_field 0 rfl (Zv rfl) Zf) (fun _ _ => trivial) rfl ?_
    refine wl_yg (guard_deep rfl rfl) (y_field 10 rfl (ev_g rfl) Zf) (fun _ _ => trivial) rfl ?_
    refine wl_yg (guard_deep rfl rfl) (y_load (fun _ => rfl) (ev_g rfl)) (row_cell Zh rfl) rfl ?_
    refine wl_yg (guard_deep rfl rfl) (y_neq (ev_g rfl) (Zv rfl) rfl) (fun _ _ => trivial) rfl ?_
    refine Zyy rfl rfl (y_or (ev_g rfl) (pk_gno rfl (fun _ _ => rfl))) ?_
    refine Zyy rfl rfl (y_move (ev_g rfl)) ?_
    refine wl_yg (guard_deep rfl rfl) (y_field 0 rfl (Zv rfl) Zf) (fun _ _ => trivial) rfl ?_
    refine wl_yg (guard_deep rfl rfl) (y_field 9 rfl (ev_g rfl) Zf) (fun _ _ => trivial) rfl ?_
    refine wl_yg (guard_deep rfl rfl) (y_load (fun _ => rfl) (ev_g rfl)) (row_cell Zh rfl) rfl ?_
    refine wl_yg (guard_deep rfl rfl) (y_field 0 rfl (Zv rfl) Zf) (fun _ _ => trivial) rfl ?_
    refine wl_yg (guard_deep rfl rfl) (y_load (fun _ => rfl) (ev_g rfl)) (row_cell Zh rfl) rfl ?_
    refine wl_yg (guard_deep rfl rfl) (y_neq (ev_g rfl) (ev_g rfl) rfl) (fun _ _ => trivial) rfl ?_
    refine Zyy rfl rfl (y_or (ev_g rfl) (pk_gno rfl (fun _ _ => rfl))) ?_
    refine Zyy rfl rfl (y_move (ev_g rfl)) ?_
    refine wl_yg (guard_deep rfl rfl) (y_field 0 rfl (Zv rfl) Zf) (fun _ _ => trivial) rfl ?_
    refine wl_yg (guard_deep rfl rfl) (y_field 0 rfl (ev_g rfl) Zf) (fun _ _ => trivial) rfl ?_
    refine wl_yg (guard_deep rfl rfl) (y_load (fun _ => rfl) (ev_g rfl)) (row_cell Zh rfl) rfl ?_
    refine wl_yg (guard_deep rfl rfl) (y_field 8 rfl (Zv rfl) Zf) (fun _ _ => trivial) rfl ?_
    refine wl_yg (guard_deep rfl rfl) (y_load (fun _ => rfl) (ev_g rfl)) (row_cell Zh rfl) rfl ?_
    refine wl_yg (guard_deep rfl rfl) (y_neq (ev_g rfl) (ev_g rfl) rfl) (fun _ _ => trivial) rfl ?_
    refine Zyy rfl rfl (y_or (ev_g rfl) (pk_gno rfl (fun _ _ => rfl))) ?_
    refine Zy (y_and (Zv rfl) (pk_yes rfl (fun _ => rfl))) (Zn (Zt (wc_cond_f rfl ((by cases hk : (ck == 1) with | false => rfl | true => (have e := hI (beqZ hk); simp only [Res.mk.injEq, St.trap, St.mk.injEq] at e; obtain ⟨⟨rfl, -, -, -, -, -, -, -, -, rfl, rfl, -⟩, rfl, -, -⟩ := e; simp; rfl))) ?_)))
    refine Zc (Zt (Zr (Zy (y_field 0 rfl (Zv rfl) Zf) ?_)))
    refine wl_y (y_loadN (vs := St.cells ⟨pc', d', r', fl', su', pg', ie', rt', ve', ep', ca', ad', es', ei', co', ha'⟩ (.slice X1.Ad d'.length X1.cd) (.slice X1.Ar r'.length X1.cr)) (fun _ => rfl) (fun _ => rfl) (Zv rfl)) (row_cells Zh rfl) rfl ?_
    refine wl_t0 (t_storeN (fun _ => rfl) rfl rfl (allT rfl) Za (by exact rfl)) ?_
    rintro _ _ ⟨rfl, rfl⟩
    refine Zn (Zo (Zt (Zr (Zm rfl (Zy (y_add (Zv rfl) (Zv rfl) Zl) ?_)))))
    refine Zg rfl (Zn ?_)
    refine q_midP ((⟨k + 1, ⟨pc', d', r', fl', su', pg', ie', rt', ve', ep', ca', ad', es', ei', co', ha'⟩, X1, Y1, U1, d1⟩ : Nat × St × SAdr × DAdr × Mmu × Dev)) ?_ ?_ ?_
    · exact ⟨⟨show k + 1 ≤ l.length by omega, show k + 1 ≤ 40 by omega, g1, g2, g4, g5, show d1.out.length ≤ k + 1 by omega⟩, show 40 - (k + 1) < 40 - k by omega⟩
    · ((repeat' (refine Wk.cons ?_ ?_)) <;> first | exact Wk.nil | exact rfl | exact trivial | exact wk_num rfl (by omega) | exact wk_num rfl (by simp))
    exact Zj
  refine wc_exit ?_
  refine q_then_exit ?_
  refine q_then_exit ?_
  refine q_block_same rfl ?_
  refine Zt (Zs (Zr (wl_t (t_call rfl (fun _ _ => rfl) (fun w hi => known_ok w)) rfl ?_)))
  rintro _ _ ⟨_, ⟨rfl, rfl⟩, rfl⟩
  refine Zg rfl (Zn (Zt (Ze (ret1 (cs' := []) (.inl rfl) Zu rfl rfl ?_))))
  exact ⟨rfl, rfl⟩
end Go.Proofs.YtobjiljkfmcalaaGreat
