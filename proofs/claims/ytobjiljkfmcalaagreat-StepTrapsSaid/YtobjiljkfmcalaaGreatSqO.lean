/- Rows of numbers that are the same; the law StepTwins. -/
import Derived.Test.YtobjiljkfmcalaaGreatSqL
import Derived.Test.YtobjiljkfmcalaaGreatInkA
set_option linter.unusedSimpArgs false
set_option linter.unusedVariables false
set_option maxRecDepth 100000
namespace Go.Ink
open Go.RowKit
theorem rd_any {w : World} {sz n c : Nat} {A : Option Addr} {xs : List Value} (h : RdV w sz A n c xs) : ∃ w, RdV w sz A n c xs := ⟨w, h⟩
end Go.Ink
namespace Go.Proofs.YtobjiljkfmcalaaGreat
open Go.RowKit Go.Ink

theorem sameInts_ok (A B : Option Addr) (c e : Nat) (l : List Int) (w : World) (h : Rd w .i64 A l.length c l) (h2 : Rd w .i64 B l.length e l) :
    Ctr Tryz.prog 25 [.slice A l.length c, .slice B l.length e] w [] (fun v cs => v = .bool true ∧ cs = []) := by
  have hlm : l.length ≤ maxLen := Nat.le_trans h.cap h.max
  simp only [maxLen] at hlm
  refine fn_ctr Tryz.func25 rfl Tryz.ntmps25 rfl (Inv.start w) ?_
  refine Zs (Zr (Zg rfl (Zn (Zt (Zs (Zs (Zr (Zm rfl (Zy (y_len ⟨_, rfl⟩ (Zv rfl)) ?_)))))))))
  refine Zm rfl (Zy (y_len ⟨_, rfl⟩ (Zv rfl)) ?_)
  refine Zy (y_neq (Zv rfl) (Zv rfl) (bne_self_eq_false _)) ?_
  refine Zn (Zt (wc_cond_f rfl (rfl) ?_))
  refine Zc (Zt (Zs (Zs (Zr (Zg rfl (Zn (Zt (Zx ?_))))))))
  refine wc_loop (fun k : Nat => [(0, .slice A l.length c), (1, .slice B l.length e), (5, .int .i64 (k : Int))]) (fun _ => []) (fun k => k ≤ l.length) (fun k => l.length - k) (0) ?_ ?_ ?_ ?_
  · exact Nat.zero_le _
  · ((repeat' (refine Wk.cons ?_ ?_)) <;> first | exact Wk.nil | exact rfl | exact trivial | exact wk_num rfl (by omega) | exact wk_num rfl (by simp))
  · ((repeat (first | exact List.Sublist.slnil | refine List.Sublist.cons_cons _ ?_ | refine List.Sublist.cons _ ?_)))
  rintro k hk
  refine Zs (Zs (Zr (Zm rfl (Zm rfl (Zy (y_len ⟨_, rfl⟩ (Zv rfl)) ?_)))))
  refine Zy (y_lss (Zv rfl) (Zv rfl) rfl) (Zn (Zt ?_))
  refine wc_cond _ rfl (fun hc4 => ?_) (fun hc4 => ?_)
  · simp only [decide_eq_true_eq] at hc4
    have hkl : k < l.length := (by omega)
    obtain ⟨ad, rfl⟩ := h.some_ (by omega)
    obtain ⟨ae, rfl⟩ := h2.some_ (by omega)
    have hx : l[k]? = some (l[k]'hkl) := List.getElem?_eq_getElem hkl
    obtain ⟨x, hxx⟩ : ∃ x, l[k]'hkl = x := ⟨_, rfl⟩
    rw [hxx] at hx
    refine Zc (Zt (Zs (Zx (Zs (wc_draw ⟨fun j => List.elem j [], []⟩ Zk ?_)))))
    refine wa_yn 0 rfl Zk Zk Zk (y_move (Zv rfl)) rfl ?_
    refine wa_yn 1 rfl Zk Zk Zk (y_move (Zv rfl)) rfl ?_
    refine wa_yn 2 rfl Zk Zk Zk (y_index (j := k)  rfl (fun _ => rfl) (Zv rfl) (Zv rfl)  (fun _ => by omega) (fun _ => by omega)) rfl ?_
    refine wa_ln 3 rfl Zk Zk Zk Zk (y_load (fun _ => rfl) (Zv rfl)) (rd_cell h (ints_at hx)) rfl ?_
    refine wa_yn 4 rfl Zk Zk Zk (y_move (Zv rfl)) rfl ?_
    refine wa_yn 5 rfl Zk Zk Zk (y_move (Zv rfl)) rfl ?_
    refine wa_yn 6 rfl Zk Zk Zk (y_index (j := k)  rfl (fun _ => rfl) (Zv rfl) (Zv rfl)  (fun _ => by omega) (fun _ => by omega)) rfl ?_
    refine wa_ln 7 rfl Zk Zk Zk Zk (y_load (fun _ => rfl) (Zv rfl)) (rd_cell h2 (ints_at hx)) rfl ?_
    refine wa_yn 8 rfl Zk Zk Zk (y_neq (Zv rfl) (Zv rfl) (bne_self_eq_false x)) rfl ?_
    refine wa_done Zk ?_
    refine Zt (wc_cond_f rfl (rfl) ?_)
    refine Zc (Zo (Zt (Zr (Zm rfl (Zy (y_add (Zv rfl) (Zv rfl) Zl) ?_)))))
    refine Zg rfl (Zn ?_)
    refine q_mid (k + 1) ?_ ?_ ?_
    · exact ⟨by omega, by omega⟩
    · ((repeat' (refine Wk.cons ?_ ?_)) <;> first | exact Wk.nil | exact rfl | exact trivial | exact wk_num rfl (by omega) | exact wk_num rfl (by simp))
    ((repeat (first | exact List.Sublist.slnil | refine List.Sublist.cons_cons _ ?_ | refine List.Sublist.cons _ ?_)))
  refine wc_exit ?_
  refine q_then_exit ?_
  refine q_then_exit ?_
  refine q_block_same rfl ?_
  refine Zt (Zs (Zr (Zg rfl (Zn (Zt (Ze (ret1 (cs' := []) (.inl rfl) Zu rfl rfl ?_)))))))
  exact ⟨rfl, rfl⟩
abbrev twB (b3 : Nat) (s : St) (X : SAdr) (F F2 F3 : FLoc) : List Chunk := [row b3 (s.cells (.slice X.Ad s.d.length X.cd) (.slice X.Ar s.r.length X.cr)) 26, slD s X.Ad X.cd, slR s X.Ar X.cr, worldRow F, worldRow F2, worldRow F3]
abbrev twI (b11 : Nat) (op nn : Int) : Chunk := row b11 [.int .i64 op, .int .u32 nn] 33
abbrev twS (b12 : Nat) (s : St) (A5 A6 : Option Addr) (c5 c6 : Nat) : List Chunk := [row b12 (s.cells (.slice A5 s.d.length c5) (.slice A6 s.r.length c6)) 26, slD s A5 c5, slR s A6 c6]
abbrev twR (b13 : Nat) (q : Res) (X : SAdr) (Ap : Option Addr) (cp : Nat) : List Chunk := row b13 (resCells q X Ap cp) 37 :: resF q X Ap cp
abbrev twU (F : FLoc) (Y : DAdr) (U : Mmu) (d : Dev) : List Chunk := ubF F.bu F.bb F.L F.D Y U d
set_option maxHeartbeats 4000000 in
theorem stepTwins_ok (s : St) (hs : s.wf) (Ad Ar B E : Option Addr) (cd cr cb ce : Nat) (b : List Int) (hb : u8s b) (l : List AskR) (w : World) (h : RdSt w s Ad Ar cd cr) (hB : Rd w .u8 B b.length cb b) (hE : RdV w 6 E l.length ce (l.flatMap AskR.cells)) (hl : ∀ a, a ∈ l → a.ok w) :
    Ctr Tryz.prog 7 [sv s Ad cd Ar cr, .slice B b.length cb, .slice E l.length ce] w [] (fun v cs => v = .bool true ∧ cs = []) := by
  have hnil : u8s [] := fun x hx => by cases hx
  have hb1 := u8s_take hb 256
  have hbl : (b.take 256).length ≤ 256 := by rw [List.length_take]; omega
  have hB1 := rd_take hB 256
  have HCut := fun w => cut_ok B cb b 256 w hB.cap
  obtain ⟨bb, hbb⟩ : ∃ bb, b.take 256 = bb := ⟨_, rfl⟩
  rw [hbb] at hb1 hbl hB1 HCut
  have HF := fun w h => fresh_ok B none cb 0 4 bb [] (by decide) (by decide) hbl hb1 (by decide) w h (rdNil w .u8)
  have HG := fun w => fresh_ok none none 0 0 1 [] [] (by decide) (by decide) (by decide) hnil (by decide) w (rdNil w .u8) (rdNil w .u8)
  have HT := trim_ok s hs Ad Ar cd cr
  have htw := St.tr_wf hs
  have htr := St.tr_right (s := s)
  obtain ⟨t, ht⟩ : ∃ t, s.trim = t := ⟨_, rfl⟩
  rw [ht] at HT htw htr
  have hU0 : UOk 4 ⟨Mem.init 4 bb, tflush⟩ := ⟨init_ok hbl hb1, tflush_len⟩
  have hV0 : UOk 1 ⟨Mem.init 1 [], tflush⟩ := ⟨init_ok (by decide) hnil, tflush_len⟩
  have hd0 := Dev.init_ok (l := []) (by decide) hnil
  have ho0 : (Dev.init []).out.length ≤ 0 := by decide
  obtain ⟨M, hM⟩ : ∃ M, Mem.init 4 bb = M := ⟨_, rfl⟩
  obtain ⟨N, hN⟩ : ∃ M, Mem.init 1 [] = M := ⟨_, rfl⟩
  obtain ⟨d0, hdd⟩ : ∃ d, Dev.init [] = d := ⟨_, rfl⟩
  obtain ⟨T0, hTT⟩ : ∃ T, tflush = T := ⟨_, rfl⟩
  rw [hM, hTT, hdd] at HF
  rw [hN, hTT, hdd] at HG
  rw [hM, hTT] at hU0
  rw [hN, hTT] at hV0
  rw [hdd] at hd0 ho0
  have hlm : l.length ≤ maxLen := Nat.le_trans hE.cap hE.max
  simp only [maxLen] at hlm
  refine fn_ctr Tryz.func7 rfl Tryz.ntmps7 rfl (Inv.start w) ?_
  refine Zs (Zr (wl_t (t_box rfl rfl) rfl ?_))
  rintro _ _ ⟨b3, rfl, rfl⟩
  refine Zg rfl (Zn (Zt (Zs (Zr (Zm rfl (wl_t (t_call rfl (fun _ _ => rfl) (fun w hi => HCut w)) rfl ?_))))))
  rintro _ _ ⟨_, ⟨rfl, rfl⟩, rfl⟩
  refine wl_t (t_call rfl (fun _ _ => rfl) (fun w hi => HF w (hB1.oldN hi))) rfl ?_
  rintro _ _ ⟨_, ⟨F, hF, rfl, rfl⟩, rfl⟩
  refine Zm rfl (wl_t (t_call rfl (fun _ _ => rfl) (fun w hi => HCut w)) rfl ?_)
  rintro _ _ ⟨_, ⟨rfl, rfl⟩, rfl⟩
  refine wl_t (t_call rfl (fun _ _ => rfl) (fun w hi => HF w (hB1.oldN hi))) rfl ?_
  rintro _ _ ⟨_, ⟨F2, hF2, rfl, rfl⟩, rfl⟩
  refine Zg rfl (Zg rfl (Zn (Zt (Zs (Zr (wl_t (t_call rfl (fun _ _ => rfl) (fun w hi => HG w)) rfl ?_))))))
  rintro _ _ ⟨_, ⟨F3, hF3, rfl, rfl⟩, rfl⟩
  refine Zg rfl (Zn (Zt (Zs (Zs (Zr (Zm rfl (Zy (y_pnil rfl (Zv rfl)) (Zm rfl (Zyn rfl rfl (y_move (Zv rfl)) ?_)))))))))
  refine Zyn rfl rfl (y_pnil rfl (ev_g rfl)) ?_
  refine Zy (y_or (Zv rfl) (pk_no rfl (fun _ => rfl))) (Zm rfl (Zyn rfl rfl (y_move (Zv rfl)) ?_))
  refine Zyn rfl rfl (y_pnil rfl (ev_g rfl)) ?_
  refine Zy (y_or (Zv rfl) (pk_no rfl (fun _ => rfl))) (Zn (Zt (wc_cond_f rfl (rfl) ?_)))
  refine Zc (Zt (Zs (Zr (wl_loadRow Zh (fun _ => rfl) (fun _ => rfl) (Zv rfl) rfl ?_))))
  refine wl_t (t_call rfl (fun _ _ => rfl) (fun w hi => HT w (h.oldN hi))) rfl ?_
  rintro _ _ ⟨_, ⟨A1, c1, A2, c2, rfl, rfl⟩, rfl⟩
  refine wl_t0 (t_storeN (fun _ => rfl) rfl rfl (allT rfl) Za (by exact rfl)) ?_
  rintro _ _ ⟨rfl, rfl⟩
  refine Zn (Zt (Zs (Zs (Zr (wl_pick ([row b3 (t.cells (.slice A1 t.d.length c1) (.slice A2 t.r.length c2)) 26, slD t A1 c1, slR t A2 c2, worldRow F, worldRow F2, worldRow F3] ++ ubF F.bu F.bb F.L F.D ⟨none, 0, none, 0⟩ ⟨M, T0⟩ d0 ++ ubF F2.bu F2.bb F2.L F2.D ⟨none, 0, none, 0⟩ ⟨M, T0⟩ d0 ++ ubF F3.bu F3.bb F3.L F3.D ⟨none, 0, none, 0⟩ ⟨N, T0⟩ d0) Zj ?_)))))
  refine Zg rfl (Zn (Zt (Zx ?_)))
  refine wc_loop (fun q : (Nat × St × SAdr) × (DAdr × DAdr × DAdr) × (Mmu × Dev) × (Mmu × Dev) => [(2, .slice E l.length ce), (3, .pointer (some ⟨b3, 0, none⟩)), (7, .pointer (some ⟨F.bw, 0, none⟩)), (8, .pointer (some ⟨F2.bw, 0, none⟩)), (9, .pointer (some ⟨F3.bw, 0, none⟩)), (10, .int .i64 (q.1.1 : Int))]) (fun q => [row b3 (q.1.2.1.cells (.slice q.1.2.2.Ad q.1.2.1.d.length q.1.2.2.cd) (.slice q.1.2.2.Ar q.1.2.1.r.length q.1.2.2.cr)) 26, slD q.1.2.1 q.1.2.2.Ad q.1.2.2.cd, slR q.1.2.1 q.1.2.2.Ar q.1.2.2.cr, worldRow F, worldRow F2, worldRow F3] ++ ubF F.bu F.bb F.L F.D q.2.1.1 q.2.2.1.1 q.2.2.1.2 ++ ubF F2.bu F2.bb F2.L F2.D q.2.1.2.1 q.2.2.1.1 q.2.2.1.2 ++ ubF F3.bu F3.bb F3.L F3.D q.2.1.2.2 q.2.2.2.1 q.2.2.2.2) (fun q => q.1.1 ≤ l.length ∧ q.1.1 ≤ 30 ∧ q.1.2.1.wf ∧ q.1.2.1.right = true ∧ UOk 4 q.2.2.1.1 ∧ q.2.2.1.2.ok ∧ q.2.2.1.2.out.length ≤ q.1.1 ∧ UOk 1 q.2.2.2.1 ∧ q.2.2.2.2.ok ∧ q.2.2.2.2.out.length ≤ q.1.1) (fun q => 40 - q.1.1) (⟨⟨0, t, ⟨A1, c1, A2, c2⟩⟩, ⟨⟨none, 0, none, 0⟩, ⟨none, 0, none, 0⟩, ⟨none, 0, none, 0⟩⟩, ⟨⟨M, T0⟩, d0⟩, ⟨⟨N, T0⟩, d0⟩⟩) ?_ ?_ ?_ ?_
  · exact ⟨Nat.zero_le _, Nat.zero_le _, htw, htr, hU0, hd0, ho0, hV0, hd0, ho0⟩
  · ((repeat' (refine Wk.cons ?_ ?_)) <;> first | exact Wk.nil | exact rfl | exact trivial | exact wk_num rfl (by omega) | exact wk_num rfl (by simp))
  · ((repeat (first | exact List.Sublist.slnil | refine List.Sublist.cons_cons _ ?_ | refine List.Sublist.cons _ ?_)))
  rintro ⟨⟨k, s, X⟩, ⟨Y1, Y2, Y3⟩, ⟨U, d⟩, ⟨V, e⟩⟩ ⟨hk1, hk30, hw, hr, hU, hd, ho, hV, he, hoe⟩
  dsimp only at hk1 hk30 hw hr hU hd ho hV he hoe ⊢
  refine Zs (Zs (Zr (Zm rfl (Zm rfl (Zy (y_len ⟨_, rfl⟩ (Zv rfl)) ?_)))))
  refine Zy (y_lss (Zv rfl) (Zv rfl) rfl) (Zm rfl (Zyy rfl rfl (y_move (Zv rfl)) ?_))
  refine Zyy rfl rfl (y_lss (ev_g rfl) (Zv rfl) rfl) ?_
  refine Zy (y_and (Zv rfl) (pk_yes rfl (fun _ => rfl))) (Zn (Zt ?_))
  refine wc_cond _ rfl (fun hc7 => ?_) (fun hc7 => ?_)
  · simp only [Bool.and_eq_true, decide_eq_true_eq] at hc7
    have hkl : k < l.length := (by omega)
    obtain ⟨ad, rfl⟩ := hE.some_ (by omega)
    have hla : l[k]? = some (l[k]'hkl) := List.getElem?_eq_getElem hkl
    have hao := hl _ (List.getElem_mem hkl)
    obtain ⟨a, ha⟩ : ∃ a, l[k]'hkl = a := ⟨_, rfl⟩
    rw [ha] at hla hao
    obtain ⟨hd16, hr16, hf15⟩ := St.fits hr
    refine Zc (Zt (Zs (Zx ?_)))
    refine wc_seq_mid (fun q : Int × Int × Nat => [(2, .slice (some ad) l.length ce), (3, .pointer (some ⟨b3, 0, none⟩)), (7, .pointer (some ⟨F.bw, 0, none⟩)), (8, .pointer (some ⟨F2.bw, 0, none⟩)), (9, .pointer (some ⟨F3.bw, 0, none⟩)), (10, .int .i64 (k : Int)), (11, .pointer (some ⟨q.2.2, 0, none⟩))]) (fun q => twB b3 s X F F2 F3 ++ twU F Y1 U d ++ twU F2 Y2 U d ++ twU F3 Y3 V e ++ [twI q.2.2 q.1 q.2.1]) (fun q => u32 q.2.1) ?_ ?_
    · refine wc_draw ⟨fun j => List.elem j [12], []⟩ Zk ?_
      refine wa_yn 0 rfl Zk Zk Zk (y_move (Zv rfl)) rfl ?_
      refine wa_yn 1 rfl Zk Zk Zk (y_move (Zv rfl)) rfl ?_
      refine wa_yn 2 rfl Zk Zk Zk (y_index (j := k)  rfl (fun _ => rfl) (Zv rfl) (Zv rfl)  (fun _ => by omega) (fun _ => by omega)) rfl ?_
      refine wa_yn 3 rfl Zk Zk Zk (y_fieldA 0 rfl (Zv rfl) ((add_of_add ad (k * 6) 0))) rfl ?_
      refine wa_ln 4 rfl Zk Zk Zk Zk (y_load (fun _ => rfl) (Zv rfl)) (rdR_cell hE (flat_at AskR.cells_len (i := 0) hla rfl)) rfl ?_
      refine wa_yn 5 rfl Zk Zk Zk (y_move (Zv rfl)) rfl ?_
      refine wa_yn 6 rfl Zk Zk Zk (y_move (Zv rfl)) rfl ?_
      refine wa_yn 7 rfl Zk Zk Zk (y_index (j := k)  rfl (fun _ => rfl) (Zv rfl) (Zv rfl)  (fun _ => by omega) (fun _ => by omega)) rfl ?_
      refine wa_yn 8 rfl Zk Zk Zk (y_fieldA 1 rfl (Zv rfl) ((add_of_add ad (k * 6) 1))) rfl ?_
      refine wa_ln 9 rfl Zk Zk Zk Zk (y_load (fun _ => rfl) (Zv rfl)) (rdR_cell hE (flat_at AskR.cells_len (i := 1) hla rfl)) rfl ?_
      refine wa_2 10 11 Zk ?_ ?_
      · refine wi_t rfl rfl (t_call rfl (fun _ _ => rfl) (fun w hi => instr_ok a.n a.v hao.v w)) (fun _ _ _ _ _ _ _ h => by cases h) rfl ?_
        rintro _ _ ⟨_, ⟨⟨op, nn, rfl, hnu, -⟩, rfl⟩, rfl⟩
        refine wa_1 11 Zk ?_
        refine wi_t rfl rfl (t_alloc (fun _ => rfl) rfl) (fun _ _ _ _ _ _ _ h => by cases h) rfl ?_
        rintro _ _ ⟨b11, rfl, rfl⟩
        refine wa_1 12 Zk ?_
        refine wi_t0 rfl rfl (t_storeN (fun _ => rfl) rfl rfl (allT rfl) Za (by exact rfl)) (fun _ _ _ _ _ _ _ h => by cases h) ?_
        rintro _ _ ⟨rfl, rfl⟩
        refine wa_done Zk ?_
        refine q_midP ((⟨op, nn, b11⟩ : Int × Int × Nat)) ?_ ?_ ?_
        · exact hnu
        · ((repeat' (refine Wk.cons ?_ ?_)) <;> first | exact Wk.nil | exact rfl | exact trivial | exact wk_num rfl (by omega) | exact wk_num rfl (by simp))
        exact Zj
      refine wi_t rfl rfl (t_alloc (fun _ => rfl) rfl) (fun _ _ _ _ _ _ _ h => by cases h) rfl ?_
      rintro _ _ ⟨b11, rfl, rfl⟩
      refine wa_1 10 Zk ?_
      refine wi_t rfl rfl (t_call rfl (fun _ _ => rfl) (fun w hi => instr_ok a.n a.v hao.v w)) (fun _ _ _ _ _ _ _ h => by cases h) rfl ?_
      rintro _ _ ⟨_, ⟨⟨op, nn, rfl, hnu, -⟩, rfl⟩, rfl⟩
      refine wa_1 12 Zk ?_
      refine wi_t0 rfl rfl (t_storeN (fun _ => rfl) rfl rfl (allT rfl) Za (by exact rfl)) (fun _ _ _ _ _ _ _ h => by cases h) ?_
      rintro _ _ ⟨rfl, rfl⟩
      refine wa_done Zk ?_
      refine q_midP ((⟨op, nn, b11⟩ : Int × Int × Nat)) ?_ ?_ ?_
      · exact hnu
      · ((repeat' (refine Wk.cons ?_ ?_)) <;> first | exact Wk.nil | exact rfl | exact trivial | exact wk_num rfl (by omega) | exact wk_num rfl (by simp))
      exact Zj
    rintro ⟨op, nn, b11⟩ hnu
    dsimp only at hnu ⊢
    have HD1 := fun w hin h => do_ok F.bu F.bb F.L F.D Y1 s X.Ad X.Ar X.cd X.cr op nn U d hw hnu hU.t hd.wf (by omega) w hin h
    have HD2 := fun w hin h => do_ok F2.bu F2.bb F2.L F2.D Y2 s X.Ad X.Ar X.cd X.cr op nn U d hw hnu hU.t hd.wf (by omega) w hin h
    have HD3 := fun w hin h => do_ok F3.bu F3.bb F3.L F3.D Y3 s X.Ad X.Ar X.cd X.cr op nn V e hw hnu hV.t he.wf (by omega) w hin h
    have hG := do_goes (op := op) (nn := nn) hw hr hnu hU hd
    have hG3 := do_goes (op := op) (nn := nn) hw hr hnu hV he
    rw [hF] at HD1
    rw [hF2] at HD2
    rw [hF3] at HD3
    obtain ⟨⟨q, U1, d1⟩, hq⟩ : ∃ q, doTo 4 s op nn U d = q := ⟨_, rfl⟩
    obtain ⟨⟨q3, V1, e1⟩, hq3⟩ : ∃ q, doTo 1 s op nn V e = q := ⟨_, rfl⟩
    rw [hq] at HD1 HD2 hG
    rw [hq3] at HD3 hG3
    obtain ⟨g1, g2, g3, g4, g5, g6⟩ := hG
    obtain ⟨-, -, -, j4, j5, j6⟩ := hG3
    dsimp only at g1 g2 g3 g4 g5 g6 j4 j5 j6
    obtain ⟨e16, f16, -⟩ := St.fits g2
    have HS := fun A B C D c1 c2 c3 c4 w h h2 => rSame_ok s s A B C D c1 c2 c3 c4 w h h2
    rw [St.rsame_self] at HS
    have HQ := fun A B C D c1 c2 c3 c4 w h h2 => rSame_ok q.s q.s A B C D c1 c2 c3 c4 w h h2
    rw [St.rsame_self] at HQ
    obtain ⟨⟨pc', d', r', fl', su', pg', ie', rt', ve', ep', ca', ad', es', ei', co', ha'⟩, tr', dv', pgs'⟩ := q
    have e16 : d'.length ≤ 16 := e16
    have f16 : r'.length ≤ 16 := f16
    refine Zs (Zr (wl_loadRow Zh (fun _ => rfl) (fun _ => rfl) (Zv rfl) rfl ?_))
    refine wl_t (t_call rfl (fun _ _ => rfl) (fun w hi => refcopy_ok s X.Ad X.Ar X.cd X.cr w (hi.rdSt Zh Zh (by omega) (by omega)))) rfl ?_
    rintro _ _ ⟨_, ⟨A5, c5, A6, c6, rfl, rfl⟩, rfl⟩
    refine wl_t (t_alloc (fun _ => rfl) rfl) rfl ?_
    rintro _ _ ⟨b12, rfl, rfl⟩
    refine wl_t0 (t_storeN (fun _ => rfl) rfl rfl (allT rfl) Za (by exact rfl)) ?_
    rintro _ _ ⟨rfl, rfl⟩
    refine Zn (Zt ?_)
    refine wc_seq_mid (fun q : SAdr × DAdr × (Option Addr × Nat) × Nat => [(2, .slice (some ad) l.length ce), (3, .pointer (some ⟨b3, 0, none⟩)), (7, .pointer (some ⟨F.bw, 0, none⟩)), (8, .pointer (some ⟨F2.bw, 0, none⟩)), (9, .pointer (some ⟨F3.bw, 0, none⟩)), (10, .int .i64 (k : Int)), (11, .pointer (some ⟨b11, 0, none⟩)), (12, .pointer (some ⟨b12, 0, none⟩)), (13, .pointer (some ⟨q.2.2.2, 0, none⟩))]) (fun q => twB b3 s X F F2 F3 ++ twU F q.2.1 U1 d1 ++ twU F2 Y2 U d ++ twU F3 Y3 V e ++ [twI b11 op nn] ++ twS b12 s A5 A6 c5 c6 ++ twR q.2.2.2 ⟨⟨pc', d', r', fl', su', pg', ie', rt', ve', ep', ca', ad', es', ei', co', ha'⟩, tr', dv', pgs'⟩ q.1 q.2.2.1.1 q.2.2.1.2) (fun q => True) ?_ ?_
    · refine wc_draw ⟨fun j => List.elem j [10, 12], []⟩ Zk ?_
      refine wa_loadRow 0 rfl Zk Zk Zk Zk Zh (fun _ => rfl) (fun _ => rfl) (Zv rfl) rfl ?_
      refine wa_loadRow 1 rfl Zk Zk Zk Zk Zh (fun _ => rfl) (fun _ => rfl) (Zv rfl) rfl ?_
      refine wa_yn 2 rfl Zk Zk Zk (y_move (Zv rfl)) rfl ?_
      refine wa_yn 3 rfl Zk Zk Zk (y_nil (Zv rfl)) rfl ?_
      refine wa_yn 4 rfl Zk Zk Zk (y_field 0 rfl (Zv rfl) Zf) rfl ?_
      refine wa_ln 5 rfl Zk Zk Zk Zk (y_load (fun _ => rfl) (Zv rfl)) (row_cell Zh rfl) rfl ?_
      refine wa_yn 6 rfl Zk Zk Zk (y_move (Zv rfl)) rfl ?_
      refine wa_yn 7 rfl Zk Zk Zk (y_nil (Zv rfl)) rfl ?_
      refine wa_yn 8 rfl Zk Zk Zk (y_field 1 rfl (Zv rfl) Zf) rfl ?_
      refine wa_ln 9 rfl Zk Zk Zk Zk (y_load (fun _ => rfl) (Zv rfl)) (row_cell Zh rfl) rfl ?_
      refine wa_2 10 11 Zk ?_ ?_
      · refine wi_t rfl rfl (t_callS (ubF F.bu F.bb F.L F.D Y1 U d) rfl (fun _ _ => rfl) Zi (fun w hi hin => HD1 w hin (fun w' hk => hi.rdStKs Zi (show Has _ (slD s X.Ad X.cd) from Zh) (show Has _ (slR s X.Ar X.cr) from Zh) (by omega) (by omega) hk))) (fun _ _ _ _ _ _ _ h => by cases h) rfl ?_
        rintro _ _ ⟨_, ⟨X1, Z1, Ap, cp, rfl, rfl⟩, rfl⟩
        refine wa_1 11 Zk ?_
        refine wi_t rfl rfl (t_alloc (fun _ => rfl) rfl) (fun _ _ _ _ _ _ _ h => by cases h) rfl ?_
        rintro _ _ ⟨b13, rfl, rfl⟩
        refine wa_1 12 Zk ?_
        refine wi_t0 rfl rfl (t_storeN (fun _ => rfl) rfl rfl (allT rfl) Za (by exact rfl)) (fun _ _ _ _ _ _ _ h => by cases h) ?_
        rintro _ _ ⟨rfl, rfl⟩
        refine wa_done Zk ?_
        refine q_midP ((⟨X1, Z1, ⟨Ap, cp⟩, b13⟩ : SAdr × DAdr × (Option Addr × Nat) × Nat)) ?_ ?_ ?_
        · trivial
        · ((repeat' (refine Wk.cons ?_ ?_)) <;> first | exact Wk.nil | exact rfl | exact trivial | exact wk_num rfl (by omega) | exact wk_num rfl (by simp))
        exact Zj
      refine wi_t rfl rfl (t_alloc (fun _ => rfl) rfl) (fun _ _ _ _ _ _ _ h => by cases h) rfl ?_
      rintro _ _ ⟨b13, rfl, rfl⟩
      refine wa_1 10 Zk ?_
      refine wi_t rfl rfl (t_callS (ubF F.bu F.bb F.L F.D Y1 U d) rfl (fun _ _ => rfl) Zi (fun w hi hin => HD1 w hin (fun w' hk => hi.rdStKs Zi (show Has _ (slD s X.Ad X.cd) from Zh) (show Has _ (slR s X.Ar X.cr) from Zh) (by omega) (by omega) hk))) (fun _ _ _ _ _ _ _ h => by cases h) rfl ?_
      rintro _ _ ⟨_, ⟨X1, Z1, Ap, cp, rfl, rfl⟩, rfl⟩
      refine wa_1 12 Zk ?_
      refine wi_t0 rfl rfl (t_storeN (fun _ => rfl) rfl rfl (allT rfl) Za (by exact rfl)) (fun _ _ _ _ _ _ _ h => by cases h) ?_
      rintro _ _ ⟨rfl, rfl⟩
      refine wa_done Zk ?_
      refine q_midP ((⟨X1, Z1, ⟨Ap, cp⟩, b13⟩ : SAdr × DAdr × (Option Addr × Nat) × Nat)) ?_ ?_ ?_
      · trivial
      · ((repeat' (refine Wk.cons ?_ ?_)) <;> first | exact Wk.nil | exact rfl | exact trivial | exact wk_num rfl (by omega) | exact wk_num rfl (by simp))
      exact Zj
    rintro ⟨X1, Z1, ⟨Ap, cp⟩, b13⟩ -
    dsimp only
    refine Zs (wc_draw ⟨fun j => List.elem j [10], []⟩ Zk ?_)
    refine wa_loadRow 0 rfl Zk Zk Zk Zk Zh (fun _ => rfl) (fun _ => rfl) (Zv rfl) rfl ?_
    refine wa_loadRow 1 rfl Zk Zk Zk Zk Zh (fun _ => rfl) (fun _ => rfl) (Zv rfl) rfl ?_
    refine wa_yn 2 rfl Zk Zk Zk (y_move (Zv rfl)) rfl ?_
    refine wa_yn 3 rfl Zk Zk Zk (y_nil (Zv rfl)) rfl ?_
    refine wa_yn 4 rfl Zk Zk Zk (y_field 0 rfl (Zv rfl) Zf) rfl ?_
    refine wa_ln 5 rfl Zk Zk Zk Zk (y_load (fun _ => rfl) (Zv rfl)) (row_cell Zh rfl) rfl ?_
    refine wa_yn 6 rfl Zk Zk Zk (y_move (Zv rfl)) rfl ?_
    refine wa_yn 7 rfl Zk Zk Zk (y_nil (Zv rfl)) rfl ?_
    refine wa_yn 8 rfl Zk Zk Zk (y_field 1 rfl (Zv rfl) Zf) rfl ?_
    refine wa_ln 9 rfl Zk Zk Zk Zk (y_load (fun _ => rfl) (Zv rfl)) (row_cell Zh rfl) rfl ?_
    refine wa_1 10 Zk ?_
    refine wi_t rfl rfl (t_callS (ubF F3.bu F3.bb F3.L F3.D Y3 V e) rfl (fun _ _ => rfl) Zi (fun w hi hin => HD3 w hin (fun w' hk => hi.rdStKs Zi (show Has _ (slD s X.Ad X.cd) from Zh) (show Has _ (slR s X.Ar X.cr) from Zh) (by omega) (by omega) hk))) (fun _ _ _ _ _ _ _ h => by cases h) rfl ?_
    rintro _ _ ⟨_, ⟨X3, Z3, Ar3, cr3, rfl, rfl⟩, rfl⟩
    refine wa_done Zk ?_
    refine Zt ?_
    refine wc_seq_mid (fun q : SAdr × DAdr × (Option Addr × Nat) × Nat => [(2, .slice (some ad) l.length ce), (3, .pointer (some ⟨b3, 0, none⟩)), (7, .pointer (some ⟨F.bw, 0, none⟩)), (8, .pointer (some ⟨F2.bw, 0, none⟩)), (9, .pointer (some ⟨F3.bw, 0, none⟩)), (10, .int .i64 (k : Int)), (12, .pointer (some ⟨b12, 0, none⟩)), (13, .pointer (some ⟨b13, 0, none⟩)), (14, .pointer (some ⟨q.2.2.2, 0, none⟩))]) (fun q => twB b3 s X F F2 F3 ++ twU F Z1 U1 d1 ++ twU F2 q.2.1 U1 d1 ++ twU F3 Z3 V1 e1 ++ twS b12 s A5 A6 c5 c6 ++ twR b13 ⟨⟨pc', d', r', fl', su', pg', ie', rt', ve', ep', ca', ad', es', ei', co', ha'⟩, tr', dv', pgs'⟩ X1 Ap cp ++ twR q.2.2.2 ⟨⟨pc', d', r', fl', su', pg', ie', rt', ve', ep', ca', ad', es', ei', co', ha'⟩, tr', dv', pgs'⟩ q.1 q.2.2.1.1 q.2.2.1.2) (fun q => True) ?_ ?_
    · refine wc_draw ⟨fun j => List.elem j [10, 12], []⟩ Zk ?_
      refine wa_loadRow 0 rfl Zk Zk Zk Zk Zh (fun _ => rfl) (fun _ => rfl) (Zv rfl) rfl ?_
      refine wa_loadRow 1 rfl Zk Zk Zk Zk Zh (fun _ => rfl) (fun _ => rfl) (Zv rfl) rfl ?_
      refine wa_yn 2 rfl Zk Zk Zk (y_move (Zv rfl)) rfl ?_
      refine wa_yn 3 rfl Zk Zk Zk (y_nil (Zv rfl)) rfl ?_
      refine wa_yn 4 rfl Zk Zk Zk (y_field 0 rfl (Zv rfl) Zf) rfl ?_
      refine wa_ln 5 rfl Zk Zk Zk Zk (y_load (fun _ => rfl) (Zv rfl)) (row_cell Zh rfl) rfl ?_
      refine wa_yn 6 rfl Zk Zk Zk (y_move (Zv rfl)) rfl ?_
      refine wa_yn 7 rfl Zk Zk Zk (y_nil (Zv rfl)) rfl ?_
      refine wa_yn 8 rfl Zk Zk Zk (y_field 1 rfl (Zv rfl) Zf) rfl ?_
      refine wa_ln 9 rfl Zk Zk Zk Zk (y_load (fun _ => rfl) (Zv rfl)) (row_cell Zh rfl) rfl ?_
      refine wa_2 10 11 Zk ?_ ?_
      · refine wi_t rfl rfl (t_callS (ubF F2.bu F2.bb F2.L F2.D Y2 U d) rfl (fun _ _ => rfl) Zi (fun w hi hin => HD2 w hin (fun w' hk => hi.rdStKs Zi (show Has _ (slD s X.Ad X.cd) from Zh) (show Has _ (slR s X.Ar X.cr) from Zh) (by omega) (by omega) hk))) (fun _ _ _ _ _ _ _ h => by cases h) rfl ?_
        rintro _ _ ⟨_, ⟨X2, Z2, Aq, cq, rfl, rfl⟩, rfl⟩
        refine wa_1 11 Zk ?_
        refine wi_t rfl rfl (t_alloc (fun _ => rfl) rfl) (fun _ _ _ _ _ _ _ h => by cases h) rfl ?_
        rintro _ _ ⟨b14, rfl, rfl⟩
        refine wa_1 12 Zk ?_
        refine wi_t0 rfl rfl (t_storeN (fun _ => rfl) rfl rfl (allT rfl) Za (by exact rfl)) (fun _ _ _ _ _ _ _ h => by cases h) ?_
        rintro _ _ ⟨rfl, rfl⟩
        refine wa_done Zk ?_
        refine q_midP ((⟨X2, Z2, ⟨Aq, cq⟩, b14⟩ : SAdr × DAdr × (Option Addr × Nat) × Nat)) ?_ ?_ ?_
        · trivial
        · ((repeat' (refine Wk.cons ?_ ?_)) <;> first | exact Wk.nil | exact rfl | exact trivial | exact wk_num rfl (by omega) | exact wk_num rfl (by simp))
        exact Zj
      refine wi_t rfl rfl (t_alloc (fun _ => rfl) rfl) (fun _ _ _ _ _ _ _ h => by cases h) rfl ?_
      rintro _ _ ⟨b14, rfl, rfl⟩
      refine wa_1 10 Zk ?_
      refine wi_t rfl rfl (t_callS (ubF F2.bu F2.bb F2.L F2.D Y2 U d) rfl (fun _ _ => rfl) Zi (fun w hi hin => HD2 w hin (fun w' hk => hi.rdStKs Zi (show Has _ (slD s X.Ad X.cd) from Zh) (show Has _ (slR s X.Ar X.cr) from Zh) (by omega) (by omega) hk))) (fun _ _ _ _ _ _ _ h => by cases h) rfl ?_
      rintro _ _ ⟨_, ⟨X2, Z2, Aq, cq, rfl, rfl⟩, rfl⟩
      refine wa_1 12 Zk ?_
      refine wi_t0 rfl rfl (t_storeN (fun _ => rfl) rfl rfl (allT rfl) Za (by exact rfl)) (fun _ _ _ _ _ _ _ h => by cases h) ?_
      rintro _ _ ⟨rfl, rfl⟩
      refine wa_done Zk ?_
      refine q_midP ((⟨X2, Z2, ⟨Aq, cq⟩, b14⟩ : SAdr × DAdr × (Option Addr × Nat) × Nat)) ?_ ?_ ?_
      · trivial
      · ((repeat' (refine Wk.cons ?_ ?_)) <;> first | exact Wk.nil | exact rfl | exact trivial | exact wk_num rfl (by omega) | exact wk_num rfl (by simp))
      exact Zj
    rintro ⟨X2, Z2, ⟨Aq, cq⟩, b14⟩ -
    dsimp only
    refine Zs (Zs (wc_draw ⟨fun j => List.elem j [], []⟩ Zk ?_))
    refine wa_loadRow 0 rfl Zk Zk Zk Zk Zh (fun _ => rfl) (fun _ => rfl) (Zv rfl) rfl ?_
    refine wa_loadRow 1 rfl Zk Zk Zk Zk Zh (fun _ => rfl) (fun _ => rfl) (Zv rfl) rfl ?_
    refine wa_1 2 Zk ?_
    refine wi_t rfl rfl (t_call rfl (fun _ _ => rfl) (fun w hi => HS _ _ _ _ _ _ _ _ w (hi.rdSt (show Has _ (slD s X.Ad X.cd) from Zh) (show Has _ (slR s X.Ar X.cr) from Zh) (by omega) (by omega)) (hi.rdSt (show Has _ (slD s A5 c5) from Zh) (show Has _ (slR s A6 c6) from Zh) (by omega) (by omega)))) (fun _ _ _ _ _ _ _ h => by cases h) rfl ?_
    rintro _ _ ⟨_, ⟨rfl, rfl⟩, rfl⟩
    refine wa_yn 3 rfl Zk Zk Zk (y_not (Zv rfl) rfl) rfl ?_
    refine wa_yn 4 rfl Zk Zk Zk (y_move (Zv rfl)) rfl ?_
    refine wa_y 5 rfl Zk Zk Zk (guard_no rfl rfl) (y_field 0 rfl (Zv rfl) Zf) rfl ?_
    refine wa_l 6 rfl Zk Zk Zk Zk (guard_no rfl rfl) (y_loadN (vs := St.cells ⟨pc', d', r', fl', su', pg', ie', rt', ve', ep', ca', ad', es', ei', co', ha'⟩ (.slice X1.Ad d'.length X1.cd) (.slice X1.Ar r'.length X1.cr)) (fun _ => rfl) (fun _ => rfl) (ev_g rfl)) (row_cells Zh rfl) rfl ?_
    refine wa_y 7 rfl Zk Zk Zk (guard_no rfl rfl) (y_field 0 rfl (Zv rfl) Zf) rfl ?_
    refine wa_l 8 rfl Zk Zk Zk Zk (guard_no rfl rfl) (y_loadN (vs := St.cells ⟨pc', d', r', fl', su', pg', ie', rt', ve', ep', ca', ad', es', ei', co', ha'⟩ (.slice X2.Ad d'.length X2.cd) (.slice X2.Ar r'.length X2.cr)) (fun _ => rfl) (fun _ => rfl) (ev_g rfl)) (row_cells Zh rfl) rfl ?_
    refine wa_1 9 Zk ?_
    refine wi_tg rfl rfl (guard_no rfl rfl) rfl (t_call rfl (fun _ _ => rfl) (fun w hi => HQ X1.Ad X1.Ar X2.Ad X2.Ar X1.cd X1.cr X2.cd X2.cr w (hi.rdSt Zh Zh (show d'.length * 4 ≤ _ by omega) (show r'.length * 4 ≤ _ by omega)) (hi.rdSt Zh Zh (show d'.length * 4 ≤ _ by omega) (show r'.length * 4 ≤ _ by omega)))) (fun _ _ _ _ _ _ _ h => by cases h) rfl ?_
    rintro _ _ ⟨_, ⟨rfl, rfl⟩, rfl⟩
    refine wa_y 10 rfl Zk Zk Zk (guard_no rfl rfl) (y_not (ev_g rfl) rfl) rfl ?_
    refine wa_yn 11 rfl Zk Zk Zk (y_or (Zv rfl) (pk_no rfl (fun _ => rfl))) rfl ?_
    refine wa_yn 12 rfl Zk Zk Zk (y_move (Zv rfl)) rfl ?_
    refine wa_y 13 rfl Zk Zk Zk (guard_no rfl rfl) (y_field 16 rfl (Zv rfl) Zf) rfl ?_
    refine wa_l 14 rfl Zk Zk Zk Zk (guard_no rfl rfl) (y_load (fun _ => rfl) (ev_g rfl)) (row_cell Zh rfl) rfl ?_
    refine wa_y 15 rfl Zk Zk Zk (guard_no rfl rfl) (y_field 16 rfl (Zv rfl) Zf) rfl ?_
    refine wa_l 16 rfl Zk Zk Zk Zk (guard_no rfl rfl) (y_load (fun _ => rfl) (ev_g rfl)) (row_cell Zh rfl) rfl ?_
    refine wa_y 17 rfl Zk Zk Zk (guard_no rfl rfl) (y_neqb rfl (ev_g rfl) (ev_g rfl) (bne_self_eq_false tr')) rfl ?_
    refine wa_yn 18 rfl Zk Zk Zk (y_or (Zv rfl) (pk_no rfl (fun _ => rfl))) rfl ?_
    refine wa_yn 19 rfl Zk Zk Zk (y_move (Zv rfl)) rfl ?_
    refine wa_y 20 rfl Zk Zk Zk (guard_no rfl rfl) (y_field 17 rfl (Zv rfl) Zf) rfl ?_
    refine wa_l 21 rfl Zk Zk Zk Zk (guard_no rfl rfl) (y_load (fun _ => rfl) (ev_g rfl)) (row_cell Zh rfl) rfl ?_
    refine wa_y 22 rfl Zk Zk Zk (guard_no rfl rfl) (y_field 17 rfl (Zv rfl) Zf) rfl ?_
    refine wa_l 23 rfl Zk Zk Zk Zk (guard_no rfl rfl) (y_load (fun _ => rfl) (ev_g rfl)) (row_cell Zh rfl) rfl ?_
    refine wa_y 24 rfl Zk Zk Zk (guard_no rfl rfl) (y_neqb rfl (ev_g rfl) (ev_g rfl) (bne_self_eq_false dv')) rfl ?_
    refine wa_yn 25 rfl Zk Zk Zk (y_or (Zv rfl) (pk_no rfl (fun _ => rfl))) rfl ?_
    refine wa_yn 26 rfl Zk Zk Zk (y_move (Zv rfl)) rfl ?_
    refine wa_y 27 rfl Zk Zk Zk (guard_no rfl rfl) (y_field 18 rfl (Zv rfl) Zf) rfl ?_
    refine wa_l 28 rfl Zk Zk Zk Zk (guard_no rfl rfl) (y_load (fun _ => rfl) (ev_g rfl)) (row_cell Zh rfl) rfl ?_
    refine wa_y 29 rfl Zk Zk Zk (guard_no rfl rfl) (y_field 18 rfl (Zv rfl) Zf) rfl ?_
    refine wa_l 30 rfl Zk Zk Zk Zk (guard_no rfl rfl) (y_load (fun _ => rfl) (ev_g rfl)) (row_cell Zh rfl) rfl ?_
    refine wa_1 31 Zk ?_
    refine wi_tg rfl rfl (guard_no rfl rfl) rfl (t_call rfl (fun _ _ => rfl) (fun w hi => sameInts_ok Ap Aq cp cq pgs' w (hi.rd (show Has _ (sl .i64 3 Ap pgs'.length cp pgs') from Zh)) (hi.rd (show Has _ (sl .i64 3 Aq pgs'.length cq pgs') from Zh)))) (fun _ _ _ _ _ _ _ h => by cases h) rfl ?_
    rintro _ _ ⟨_, ⟨rfl, rfl⟩, rfl⟩
    refine wa_y 32 rfl Zk Zk Zk (guard_no rfl rfl) (y_not (ev_g rfl) rfl) rfl ?_
    refine wa_yn 33 rfl Zk Zk Zk (y_or (Zv rfl) (pk_no rfl (fun _ => rfl))) rfl ?_
    refine wa_yn 34 rfl Zk Zk Zk (y_move (Zv rfl)) rfl ?_
    refine wa_y 35 rfl Zk Zk Zk (guard_no rfl rfl) (y_move (Zv rfl)) rfl ?_
    refine wa_y 36 rfl Zk Zk Zk (guard_no rfl rfl) (y_nil (ev_g rfl)) rfl ?_
    refine wa_y 37 rfl Zk Zk Zk (guard_no rfl rfl) (y_field 2 rfl (ev_g rfl) Zf) rfl ?_
    refine wa_l 38 rfl Zk Zk Zk Zk (guard_no rfl rfl) (y_load (fun _ => rfl) (ev_g rfl)) (row_cell Zh rfl) rfl ?_
    refine wa_y 41 rfl Zk Zk Zk (guard_no rfl rfl) (y_move (Zv rfl)) rfl ?_
    refine wa_y 42 rfl Zk Zk Zk (guard_no rfl rfl) (y_nil (ev_g rfl)) rfl ?_
    refine wa_y 43 rfl Zk Zk Zk (guard_no rfl rfl) (y_field 2 rfl (ev_g rfl) Zf) rfl ?_
    refine wa_l 44 rfl Zk Zk Zk Zk (guard_no rfl rfl) (y_load (fun _ => rfl) (ev_g rfl)) (row_cell Zh rfl) rfl ?_
    refine wa_1 39 Zk ?_
    refine wi_tg rfl rfl (guard_no rfl rfl) rfl (t_call rfl (fun _ _ => rfl) (fun w hi => rall_ok F.L U1.m w (hi.get Zh))) (fun _ _ _ _ _ _ _ h => by cases h) rfl ?_
    rintro _ _ ⟨_, ⟨bx, rfl, rfl⟩, rfl⟩
    refine wa_fact (fun w hi => rd_any (hi.rd (show Has _ (sl .u8 5 (some ⟨bx, 0, none⟩) U1.m.data.length U1.m.data.length U1.m.data) from Zh))) (fun hrd130 => ?_)
    refine wa_l 40 rfl Zk Zk Zk Zk (guard_no rfl rfl) (y_bstr rfl rfl rfl (ev_g rfl) hrd130) (fun w hi => RdV.cellsO (hi.rd (show Has _ (sl .u8 5 (some ⟨bx, 0, none⟩) U1.m.data.length U1.m.data.length U1.m.data) from Zh))) rfl ?_
    refine wa_1 45 Zk ?_
    refine wi_tg rfl rfl (guard_no rfl rfl) rfl (t_call rfl (fun _ _ => rfl) (fun w hi => rall_ok F2.L U1.m w (hi.get Zh))) (fun _ _ _ _ _ _ _ h => by cases h) rfl ?_
    rintro _ _ ⟨_, ⟨by_, rfl, rfl⟩, rfl⟩
    refine wa_fact (fun w hi => rd_any (hi.rd (show Has _ (sl .u8 5 (some ⟨by_, 0, none⟩) U1.m.data.length U1.m.data.length U1.m.data) from Zh))) (fun hrd136 => ?_)
    refine wa_l 46 rfl Zk Zk Zk Zk (guard_no rfl rfl) (y_bstr rfl rfl rfl (ev_g rfl) hrd136) (fun w hi => RdV.cellsO (hi.rd (show Has _ (sl .u8 5 (some ⟨by_, 0, none⟩) U1.m.data.length U1.m.data.length U1.m.data) from Zh))) rfl ?_
    refine wa_y 47 rfl Zk Zk Zk (guard_no rfl rfl) (y_neqS rfl (ev_g rfl) (ev_g rfl) (bne_self_eq_false _)) rfl ?_
    refine wa_yn 48 rfl Zk Zk Zk (y_or (Zv rfl) (pk_no rfl (fun _ => rfl))) rfl ?_
    refine wa_done Zk ?_
    refine Zt (wc_cond_f rfl (rfl) ?_)
    refine Zc (Zt (Zr (Zy (y_field 0 rfl (Zv rfl) Zf) ?_)))
    refine wl_y (y_loadN (vs := St.cells ⟨pc', d', r', fl', su', pg', ie', rt', ve', ep', ca', ad', es', ei', co', ha'⟩ (.slice X1.Ad d'.length X1.cd) (.slice X1.Ar r'.length X1.cr)) (fun _ => rfl) (fun _ => rfl) (Zv rfl)) (row_cells Zh rfl) rfl ?_
    refine wl_t0 (t_storeN (fun _ => rfl) rfl rfl (allT rfl) Za (by exact rfl)) ?_
    rintro _ _ ⟨rfl, rfl⟩
    refine Zn (Zo (Zt (Zr (Zm rfl (Zy (y_add (Zv rfl) (Zv rfl) Zl) ?_)))))
    refine Zg rfl (Zn ?_)
    refine q_midP ((⟨⟨k + 1, ⟨pc', d', r', fl', su', pg', ie', rt', ve', ep', ca', ad', es', ei', co', ha'⟩, X1⟩, ⟨Z1, Z2, Z3⟩, ⟨U1, d1⟩, ⟨V1, e1⟩⟩ : (Nat × St × SAdr) × (DAdr × DAdr × DAdr) × (Mmu × Dev) × (Mmu × Dev))) ?_ ?_ ?_
    · exact ⟨⟨show k + 1 ≤ l.length by omega, show k + 1 ≤ 30 by omega, g1, g2, g4, g5, show d1.out.length ≤ k + 1 by omega, j4, j5, show e1.out.length ≤ k + 1 by omega⟩, show 40 - (k + 1) < 40 - k by omega⟩
    · ((repeat' (refine Wk.cons ?_ ?_)) <;> first | exact Wk.nil | exact rfl | exact trivial | exact wk_num rfl (by omega) | exact wk_num rfl (by simp))
    exact Zj
  refine wc_exit ?_
  refine q_then_exit ?_
  refine q_then_exit ?_
  refine q_block_same rfl ?_
  refine Zt (Zs (Zr (wl_t (t_call rfl (fun _ _ => rfl) (fun w hi => known_ok w)) rfl ?_)))
  rintro _ _ ⟨_, ⟨rfl, rfl⟩, rfl⟩
  refine Zg rfl (Zn (Zt (Ze (ret1 (cs' := []) (.inl rfl) Zu rfl rfl ?_))))
  exact ⟨rfl, rfl⟩
end Go.Proofs.YtobjiljkfmcalaaGreat
