/- An instruction: the walk of Do, with a guest's parts there. -/
import Derived.Test.YtobjiljkfmcalaaGreatSpZ
import Derived.Test.YtobjiljkfmcalaaGreatInkS
set_option linter.unusedSimpArgs false
set_option linter.unusedVariables false
set_option maxRecDepth 100000
namespace Go.Ink
theorem St.fits {s : St} (h : s.right = true) : s.d.length ≤ 16 ∧ s.r.length ≤ 16 ∧ s.flags ≤ 15 := by
  simp only [St.right, Bool.and_eq_true, decide_eq_true_eq] at h
  omega
end Go.Ink
namespace Go.Proofs.YtobjiljkfmcalaaGreat
open Go.RowKit Go.Ink

abbrev ubF (bu bb : Nat) (L : MLoc) (D : DLoc) (Y : DAdr) (U : Mmu) (d : Dev) : List Chunk := uF bu bb L U ++ busF D L.bm Y d
set_option maxHeartbeats 4000000 in
theorem do_ok (bu bb : Nat) (L : MLoc) (D : DLoc) (Y : DAdr) (s : St) (Ad Ar : Option Addr) (cd cr : Nat) (op nn : Int) (U : Mmu) (d : Dev) (hwf : s.wf) (hnn : u32 nn) (hT : U.t.length = 16) (hd : d.wf) (ho : d.out.length ≤ 1000000000)
    (w : World) (hi : Inv w (blocks (ubF bu bb L D Y U d)) (ubF bu bb L D Y U d) w) (h : ∀ w', Keep (blocks (ubF bu bb L D Y U d)) w w' → RdSt w' s Ad Ar cd cr) :
    Ctr Tryz.prog 16 [sv s Ad cd Ar cr, .agg #[.int .i64 op, .int .u32 nn], .pointer (some ⟨bu, 0, none⟩), .pointer (some ⟨D.bs, 0, none⟩)] w (ubF bu bb L D Y U d)
      (fun v cs => ∃ X Y' Ap cp, v = .agg (resCells (doTo L.n s op nn U d).1 X Ap cp).toArray ∧ cs = resF (doTo L.n s op nn U d).1 X Ap cp ++ ubF bu bb L D Y' (doTo L.n s op nn U d).2.1 (doTo L.n s op nn U d).2.2) := by
  have HR := right_ok s Ad Ar cd cr
  have HK := check_ok s Ad Ar cd cr op nn hnn
  have hbd := (h w (Keep.refl _ _)).hd
  have hbr := (h w (Keep.refl _ _)).hr
  unfold doTo
  obtain ⟨rt, hrt⟩ : ∃ b, s.right = b := ⟨_, rfl⟩
  obtain ⟨ck, hck⟩ : ∃ b, checkOf s op nn = b := ⟨_, rfl⟩
  rw [hrt] at HR ⊢
  rw [hck] at HK ⊢
  obtain ⟨UM, UT⟩ := U
  have HM := rcalm_ok L UM
  have HZ := size_ok op
  obtain ⟨R0, hR0⟩ : ∃ R, run0 s op = R := ⟨_, rfl⟩
  have hmid : midTo L.n s op nn ⟨UM.calm, UT⟩ d = (match stackTo op nn R0 with
    | some R => ⟨R, ⟨UM.calm, UT⟩, d⟩
    | none => bif (reckonTo op nn R0).1 then ⟨(reckonTo op nn R0).2, ⟨UM.calm, UT⟩, d⟩ else otherTo L.n op nn ⟨(reckonTo op nn R0).2, ⟨UM.calm, UT⟩, d⟩) := by rw [← hR0]; rfl
  unfold run0 at hR0
  obtain ⟨sz, hsz⟩ : ∃ b, opSize op = b := ⟨_, rfl⟩
  rw [hsz] at HZ hR0
  obtain ⟨pc', hpc⟩ : ∃ b, IntKind.u32.wrap (s.pc + IntKind.u32.wrap sz) = b := ⟨_, rfl⟩
  rw [hpc] at hR0
  refine fn_ctr Tryz.func16 rfl Tryz.ntmps16 rfl hi ?_
  refine Zs (Zr (wl_t (t_box rfl rfl) rfl ?_))
  rintro _ _ ⟨b4, rfl, rfl⟩
  refine wl_t (t_box rfl rfl) rfl ?_
  rintro _ _ ⟨b5, rfl, rfl⟩
  refine wl_t (t_alloc (fun _ => rfl) rfl) rfl ?_
  rintro _ _ ⟨b8, rfl, rfl⟩
  refine Zn (Zt (Zs (Zs (Zr (wl_loadRow Zh (fun _ => rfl) (fun _ => rfl) (Zv rfl) rfl ?_)))))
  refine wl_t (t_call rfl (fun _ _ => rfl) (fun w hi => HR w)) rfl ?_
  rintro _ _ ⟨_, ⟨rfl, rfl⟩, rfl⟩
  refine Zy (y_not (Zv rfl) rfl) (Zn (Zt ?_))
  refine wc_cond _ rfl (fun hc1 => ?_) (fun hc1 => ?_)
  · refine Zs (Zr (wl_loadRow Zh (fun _ => rfl) (fun _ => rfl) (Zv rfl) rfl ?_))
    refine wl_t (t_call rfl (fun _ _ => rfl) (fun w hi => copy_ok s Ad Ar cd cr w (h w hi.keep))) rfl ?_
    rintro _ _ ⟨_, ⟨A1, c1, A2, c2, rfl, rfl⟩, rfl⟩
    refine Zy (y_build rfl rfl (fun _ => rfl) rfl rfl rfl Zb) ?_
    refine wl_nilc 3 1 ?_
    refine wl_t0 (t_storeN (fun _ => rfl) rfl rfl (allT rfl) Za (by exact rfl)) ?_
    rintro _ _ ⟨rfl, rfl⟩
    refine Zn (Zt (Ze (Zw (qok_pick ([row b8 (resCells ⟨s, false, false, []⟩ ⟨A1, c1, A2, c2⟩ none 0) 37] ++ (resF ⟨s, false, false, []⟩ ⟨A1, c1, A2, c2⟩ none 0 ++ ubF bu bb L D Y ⟨UM, UT⟩ d)) Zj ?_))))
    refine retC (cs' := [slv _ _ _ _ _ _, slv _ _ _ _ _ _, slv _ _ _ _ _ _, row _ _ _, exC _ _ _ _, row _ _ _, row _ _ _, row _ _ _, row _ _ _, row _ _ _, slv _ _ _ _ _ _, slv _ _ _ _ _ _, row _ _ _, slv _ _ _ _ _ _]) (.inl rfl) Zu rfl rfl Zh (fun _ => rfl) (fun _ => rfl) ?_
    rw [condT hc1]
    exact ⟨⟨A1, c1, A2, c2⟩, Y, none, 0, rfl, rfl⟩
  refine Zc (Zt (Zs (Zs (Zr (Zm rfl (Zy (y_pnn rfl (Zv rfl)) (Zn (Zt ?_))))))))
  refine wc_cond _ rfl (fun hc3 => ?_) (fun hc3 => ?_)
  · refine Zr (Zm rfl (wl_t (t_call rfl (fun _ _ => rfl) (fun w hi => umem_ok bu L.bm bb w (hi.get Zh))) rfl ?_))
    rintro _ _ ⟨_, ⟨rfl, rfl⟩, rfl⟩
    refine wl_t (t_callS ([memC L UM]) rfl (fun _ _ => rfl) Zi (fun w hi hin => HM w hin)) rfl ?_
    rintro _ _ ⟨_, ⟨rfl, rfl⟩, rfl⟩
    refine Zn (Zt (Zs (Zr (wl_loadRow Zh (fun _ => rfl) (fun _ => rfl) (Zv rfl) rfl ?_))))
    refine wl_t (t_call rfl (fun _ _ => rfl) (fun w hi => copy_ok s Ad Ar cd cr w (h w hi.keep))) rfl ?_
    rintro _ _ ⟨_, ⟨A1, c1, A2, c2, rfl, rfl⟩, rfl⟩
    refine wl_t (t_alloc (fun _ => rfl) rfl) rfl ?_
    rintro _ _ ⟨b9, rfl, rfl⟩
    refine wl_t0 (t_storeN (fun _ => rfl) rfl rfl (allT rfl) Za (by exact rfl)) ?_
    rintro _ _ ⟨rfl, rfl⟩
    refine Zn (Zt (Zs (Zr (Zy (y_field 14 rfl (Zv rfl) Zf) ?_))))
    refine Zz rfl ?_
    refine Zy (y_add (Zv rfl) (Zv rfl) rfl) ?_
    refine Zy (y_field 14 rfl (Zv rfl) Zf) ?_
    refine wl_t0 (t_store (fun _ => rfl) rfl rfl rfl Za Zp) ?_
    rintro _ _ ⟨rfl, rfl⟩
    refine Zn (Zt (Zs (Zs (Zr (wl_loadRow Zh (fun _ => rfl) (fun _ => rfl) (Zv rfl) rfl ?_)))))
    refine wl_loadRow Zh (fun _ => rfl) (fun _ => rfl) (Zv rfl) rfl ?_
    refine wl_t (t_call rfl (fun _ _ => rfl) (fun w hi => HK w (h w hi.keep))) rfl ?_
    rintro _ _ ⟨_, ⟨rfl, rfl⟩, rfl⟩
    refine Zg rfl (Zn (Zt (Zs (Zr (Zm rfl (Zy (y_neq (Zv rfl) (Zv rfl) rfl) (Zn (Zt ?_))))))))
    refine wc_cond _ rfl (fun hc8 => ?_) (fun hc8 => ?_)
    · refine Zs (Zr (wl_loadRow Zh (fun _ => rfl) (fun _ => rfl) (Zv rfl) rfl ?_))
      refine Zm rfl (wl_t (t_call rfl (fun _ _ => rfl) (fun w hi => trap_ok s.next A1 A2 c1 c2 ck 0 w (hi.rdSt (show Has _ (slD s A1 c1) from Zh) (show Has _ (slR s A2 c2) from Zh) hbd hbr))) rfl ?_)
      rintro _ _ ⟨_, ⟨A3, c3, A4, c4, rfl, rfl⟩, rfl⟩
      refine Zy (y_build rfl rfl (fun _ => rfl) rfl rfl rfl Zb) ?_
      refine wl_nilc 3 1 ?_
      refine wl_t0 (t_storeN (fun _ => rfl) rfl rfl (allT rfl) Za (by exact rfl)) ?_
      rintro _ _ ⟨rfl, rfl⟩
      refine Zn (Zt (Ze (Zw (qok_pick ([row b8 (resCells ⟨s.next.trap ck 0, true, false, []⟩ ⟨A3, c3, A4, c4⟩ none 0) 37] ++ (resF ⟨s.next.trap ck 0, true, false, []⟩ ⟨A3, c3, A4, c4⟩ none 0 ++ ubF bu bb L D Y ⟨UM.calm, UT⟩ d)) Zj ?_))))
      refine retC (cs' := [slv _ _ _ _ _ _, slv _ _ _ _ _ _, slv _ _ _ _ _ _, row _ _ _, exC _ _ _ _, row _ _ _, row _ _ _, row _ _ _, row _ _ _, row _ _ _, slv _ _ _ _ _ _, slv _ _ _ _ _ _, row _ _ _, slv _ _ _ _ _ _]) (.inl rfl) Zu rfl rfl Zh (fun _ => rfl) (fun _ => rfl) ?_
      rw [condF hc1, condT hc8]
      exact ⟨⟨A3, c3, A4, c4⟩, Y, none, 0, rfl, rfl⟩
    refine Zc (Zt (Zs (wc_draw ⟨fun j => List.elem j [], []⟩ Zk ?_)))
    refine wa_loadRow 0 rfl Zk Zk Zk Zk Zh (fun _ => rfl) (fun _ => rfl) (Zv rfl) rfl ?_
    refine wa_yn 2 rfl Zk Zk Zk (y_field 14 rfl (Zv rfl) Zf) rfl ?_
    refine wa_ln 3 rfl Zk Zk Zk Zk (y_load (fun _ => rfl) (Zv rfl)) (row_cell Zh rfl) rfl ?_
    refine wa_yn 4 rfl Zk Zk Zk (y_move (Zv rfl)) rfl ?_
    refine wa_yn 5 rfl Zk Zk Zk (y_move (Zv rfl)) rfl ?_
    refine wa_1 1 Zk ?_
    refine wi_t rfl rfl (t_call rfl (fun _ _ => rfl) (fun w hi => copy_ok s.next A1 A2 c1 c2 w (hi.rdSt (show Has _ (slD s A1 c1) from Zh) (show Has _ (slR s A2 c2) from Zh) hbd hbr))) (fun _ _ _ _ _ _ _ h => by cases h) rfl ?_
    rintro _ _ ⟨_, ⟨A5, c5, A6, c6, rfl, rfl⟩, rfl⟩
    refine wa_yn 6 rfl Zk Zk Zk (y_build rfl rfl (fun _ => rfl) rfl rfl rfl Zb) rfl ?_
    refine wa_1 7 Zk ?_
    refine wi_t rfl rfl (t_box rfl rfl) (fun _ _ _ _ _ _ _ h => by cases h) rfl ?_
    rintro _ _ ⟨b46, rfl, rfl⟩
    refine wa_yn 8 rfl Zk Zk Zk (y_assign (Zv rfl)) rfl ?_
    refine wa_done Zk ?_
    refine Zt (Zs (wc_draw ⟨fun j => List.elem j [13], []⟩ Zk ?_))
    refine wa_yn 0 rfl Zk Zk Zk (y_move (Zv rfl)) rfl ?_
    refine wa_yn 1 rfl Zk Zk Zk (y_nil (Zv rfl)) rfl ?_
    refine wa_yn 2 rfl Zk Zk Zk (y_field 0 rfl (Zv rfl) Zf) rfl ?_
    refine wa_yn 3 rfl Zk Zk Zk (y_field 0 rfl (Zv rfl) Zf) rfl ?_
    refine wa_ln 4 rfl Zk Zk Zk Zk (y_load (fun _ => rfl) (Zv rfl)) (row_cell Zh rfl) rfl ?_
    refine wa_yn 5 rfl Zk Zk Zk (y_field 0 rfl (Zv rfl) Zf) rfl ?_
    refine wa_ln 6 rfl Zk Zk Zk Zk (y_load (fun _ => rfl) (Zv rfl)) (row_cell Zh rfl) rfl ?_
    refine wa_1 7 Zk ?_
    refine wi_t rfl rfl (t_call rfl (fun _ _ => rfl) (fun w hi => HZ w)) (fun _ _ _ _ _ _ _ h => by cases h) rfl ?_
    rintro _ _ ⟨_, ⟨rfl, rfl⟩, rfl⟩
    refine wa_yn 8 rfl Zk Zk Zk (y_conv rfl rfl (Zv rfl) rfl) rfl ?_
    refine wa_yn 9 rfl Zk Zk Zk (y_add (Zv rfl) (Zv rfl) hpc) rfl ?_
    refine wa_yn 10 rfl Zk Zk Zk (y_nil (Zv rfl)) rfl ?_
    refine wa_yn 11 rfl Zk Zk Zk (y_field 0 rfl (Zv rfl) Zf) rfl ?_
    refine wa_yn 12 rfl Zk Zk Zk (y_field 0 rfl (Zv rfl) Zf) rfl ?_
    refine wa_1 13 Zk ?_
    refine wi_t0 rfl rfl (t_store (fun _ => rfl) rfl rfl rfl Za Zp) (fun _ _ _ _ _ _ _ h => by cases h) ?_
    rintro _ _ ⟨rfl, rfl⟩
    refine wa_done Zk ?_
    refine Zt ?_
    refine wc_seq_mid (fun q : SAdr × DAdr × Mach => [(2, .pointer (some ⟨bu, 0, none⟩)), (8, .pointer (some ⟨b8, 0, none⟩)), (9, .pointer (some ⟨b9, 0, none⟩)), (11, .pointer (some ⟨b46, 0, none⟩))]) (fun q => allF b46 bu bb L D q.1 q.2.1 q.2.2 ++ [row b8 [.int .u32 0, .slice none 0 0, .slice none 0 0, .int .u32 0, .bool false, .bool false, .bool false, .int .u32 0, .int .u32 0, .int .u32 0, .int .u32 0, .int .u32 0, .bool false, .bool false, .int .u64 0, .bool false, .bool false, .bool false, .slice none 0 0] 37, row b9 (s.next.cells (.slice A1 s.next.d.length c1) (.slice A2 s.next.r.length c2)) 26, slD s.next A1 c1, slR s.next A2 c2]) (fun q => midTo L.n s op nn ⟨UM.calm, UT⟩ d = q.2.2) ?_ ?_
    · refine Zs ?_
      subst hR0
      have hrt1 : rt = true := (by simpa using hc1)
      obtain ⟨hd16, hr16, -⟩ := St.fits (hrt.trans hrt1)
      have hck0 : ck = 0 := (by simpa using hc8)
      obtain ⟨n1, n2⟩ := checkOf_zero (hck.trans hck0)
      have HS := fun w hin => stack_ok (kOf b46 bu D) ⟨A5, c5, A6, c6⟩ ⟨s.next.wpc pc', s.count, Tr.none, false⟩ op nn (show s.d.length ≤ 100000 by omega) (show s.r.length ≤ 100000 by omega) n1 n2 w hin
      rcases hst : stackTo op nn ⟨s.next.wpc pc', s.count, Tr.none, false⟩ with _ | R1
      · rw [hst] at HS
        simp only [Option.isSome_none, Option.getD_none] at HS
        have HQ := fun X w hin => reckon_ok (kOf b46 bu D) X ⟨s.next.wpc pc', s.count, Tr.none, false⟩ op nn hwf.d (show s.d.length ≤ 100000 by omega) (show s.r.length ≤ 100000 by omega) n1 n2 w hin
        obtain ⟨⟨bq, R2⟩, hq⟩ : ∃ q, reckonTo op nn ⟨s.next.wpc pc', s.count, Tr.none, false⟩ = q := ⟨_, rfl⟩
        rw [hq] at HQ
        refine Zr (Zm rfl (wl_loadRow Zh (fun _ => rfl) (fun _ => rfl) (Zv rfl) rfl ?_))
        refine wl_t (t_callS (runF (kOf b46 bu D) ⟨A5, c5, A6, c6⟩ ⟨s.next.wpc pc', s.count, Tr.none, false⟩) rfl (fun _ _ => rfl) Zi (fun w hi hin => HS w hin)) rfl ?_
        rintro _ _ ⟨_, ⟨X1, rfl, rfl⟩, rfl⟩
        refine Zy (y_not (Zv rfl) rfl) (Zm rfl (Zyy rfl rfl (y_move (Zv rfl)) ?_))
        refine wl_loadRowg (guard_yes rfl rfl) Zh (fun _ => rfl) (fun _ => rfl) (Zv rfl) rfl ?_
        refine wl_tg (guard_yes rfl rfl) rfl (t_callS (runF (kOf b46 bu D) X1 ⟨s.next.wpc pc', s.count, Tr.none, false⟩) rfl (fun _ _ => rfl) Zi (fun w hi hin => HQ X1 w hin)) rfl ?_
        rintro _ _ ⟨_, ⟨X2, rfl, rfl⟩, rfl⟩
        refine Zyy rfl rfl (y_not (ev_g rfl) rfl) ?_
        refine Zy (y_and (Zv rfl) (pk_yes rfl (fun _ => rfl))) (Zn (Zt ?_))
        refine wc_cond _ rfl (fun hc12 => ?_) (fun hc12 => ?_)
        · obtain rfl : bq = false := (by simpa using hc12)
          have he := reckonTo_none op nn ⟨s.next.wpc pc', s.count, Tr.none, false⟩ (by rw [hq])
          rw [hq] at he
          have he : R2 = _ := he
          subst he
          have HO := fun X w hin => rother_ok b46 bu bb L D X Y ⟨s.next.wpc pc', s.count, Tr.none, false⟩ ⟨UM.calm, UT⟩ d op nn hnn hwf.d (show s.d.length ≤ 100000 by omega) (show s.r.length ≤ 100000 by omega) n1 hT hwf.root hd ho w hin
          obtain ⟨m', hm'⟩ : ∃ m', otherTo L.n op nn ⟨⟨s.next.wpc pc', s.count, Tr.none, false⟩, ⟨UM.calm, UT⟩, d⟩ = m' := ⟨_, rfl⟩
          rw [hm'] at HO
          refine Zr (Zm rfl (wl_loadRow Zh (fun _ => rfl) (fun _ => rfl) (Zv rfl) rfl ?_))
          refine wl_t (t_callS (allF b46 bu bb L D X2 Y ⟨⟨s.next.wpc pc', s.count, Tr.none, false⟩, ⟨UM.calm, UT⟩, d⟩) rfl (fun _ _ => rfl) Zi (fun w hi hin => HO X2 w hin)) rfl ?_
          rintro _ _ ⟨_, ⟨X3, Y3, rfl, rfl⟩, rfl⟩
          refine Zn ?_
          refine q_midP ((⟨X3, Y3, m'⟩ : SAdr × DAdr × Mach)) ?_ ?_ ?_
          · exact (by rw [hmid]; simp only [hst, hq, cond_false]; exact hm')
          · ((repeat' (refine Wk.cons ?_ ?_)) <;> first | exact Wk.nil | exact rfl | exact trivial | exact wk_num rfl (by omega) | exact wk_num rfl (by simp))
          exact Zj
        obtain rfl : bq = true := (by simpa using hc12)
        refine Zc ?_
        refine q_midP ((⟨X2, Y, ⟨R2, ⟨UM.calm, UT⟩, d⟩⟩ : SAdr × DAdr × Mach)) ?_ ?_ ?_
        · exact (by rw [hmid]; simp only [hst, hq, cond_true])
        · ((repeat' (refine Wk.cons ?_ ?_)) <;> first | exact Wk.nil | exact rfl | exact trivial | exact wk_num rfl (by omega) | exact wk_num rfl (by simp))
        exact Zj
      rw [hst] at HS
      simp only [Option.isSome_some, Option.getD_some] at HS
      refine Zr (Zm rfl (wl_loadRow Zh (fun _ => rfl) (fun _ => rfl) (Zv rfl) rfl ?_))
      refine wl_t (t_callS (runF (kOf b46 bu D) ⟨A5, c5, A6, c6⟩ ⟨s.next.wpc pc', s.count, Tr.none, false⟩) rfl (fun _ _ => rfl) Zi (fun w hi hin => HS w hin)) rfl ?_
      rintro _ _ ⟨_, ⟨X1, rfl, rfl⟩, rfl⟩
      refine Zy (y_not (Zv rfl) rfl) (Zm rfl (wl_skip (guard_yes rfl rfl) rfl rfl ?_))
      refine wl_skip (guard_yes rfl rfl) rfl rfl ?_
      refine wl_skip (guard_yes rfl rfl) rfl rfl ?_
      refine wl_skip (guard_yes rfl rfl) rfl rfl ?_
      refine Zy (y_and (q := false) (Zv rfl) ⟨_, rfl, fun _ e => by simp at e⟩) ?_
      refine Zn (Zt (wc_cond_f rfl (rfl) ?_))
      refine Zc ?_
      refine q_midP ((⟨X1, Y, ⟨R1, ⟨UM.calm, UT⟩, d⟩⟩ : SAdr × DAdr × Mach)) ?_ ?_ ?_
      · exact (by rw [hmid]; simp only [hst])
      · ((repeat' (refine Wk.cons ?_ ?_)) <;> first | exact Wk.nil | exact rfl | exact trivial | exact wk_num rfl (by omega) | exact wk_num rfl (by simp))
      exact Zj
    rintro ⟨X, Y', m⟩ hm
    dsimp only at hm ⊢
    refine Zs (wc_draw ⟨fun j => List.elem j [10], []⟩ Zk ?_)
    refine wa_yn 0 rfl Zk Zk Zk (y_move (Zv rfl)) rfl ?_
    refine wa_yn 1 rfl Zk Zk Zk (y_nil (Zv rfl)) rfl ?_
    refine wa_yn 2 rfl Zk Zk Zk (y_field 0 rfl (Zv rfl) Zf) rfl ?_
    refine wa_ln 3 rfl Zk Zk Zk Zk (y_loadN (vs := m.r.s.cells (.slice X.Ad m.r.s.d.length X.cd) (.slice X.Ar m.r.s.r.length X.cr)) (fun _ => rfl) (fun _ => rfl) (Zv rfl)) (row_cells Zh rfl) rfl ?_
    refine wa_yn 4 rfl Zk Zk Zk (y_move (Zv rfl)) rfl ?_
    refine wa_yn 5 rfl Zk Zk Zk (y_nil (Zv rfl)) rfl ?_
    refine wa_yn 6 rfl Zk Zk Zk (y_field 21 rfl (Zv rfl) Zf) rfl ?_
    refine wa_ln 7 rfl Zk Zk Zk Zk (y_load (fun _ => rfl) (Zv rfl)) (row_cell Zh rfl) rfl ?_
    refine wa_yn 8 rfl Zk Zk Zk (y_build rfl rfl (fun _ => rfl) rfl rfl rfl Zb) rfl ?_
    refine wa_1 9 Zk ?_
    refine wi_t rfl rfl (t_alloc (fun _ => rfl) rfl) (fun _ _ _ _ _ _ _ h => by cases h) rfl ?_
    rintro _ _ ⟨b12, rfl, rfl⟩
    refine wa_1 10 Zk ?_
    refine wi_t0 rfl rfl (t_storeN (fun _ => rfl) rfl rfl (allT rfl) Za (by exact rfl)) (fun _ _ _ _ _ _ _ h => by cases h) ?_
    rintro _ _ ⟨rfl, rfl⟩
    refine wa_done Zk ?_
    refine Zt (Zs (Zs (Zr (Zm rfl (Zy (y_nil (Zv rfl)) (Zy (y_field 19 rfl (Zv rfl) Zf) ?_))))))
    refine Zy (y_field 0 rfl (Zv rfl) Zf) ?_
    refine Zz rfl ?_
    refine Zy (y_neq (Zv rfl) (Zv rfl) rfl) (Zn (Zt ?_))
    refine wc_cond _ rfl (fun hc15 => ?_) (fun hc15 => ?_)
    · have he : endTo s m = ⟨s.next.trap m.r.trap.cause m.r.trap.addr, true, m.r.device, trues m.u.m.turned 64⟩ := condT hc15
      refine wc_draw ⟨fun j => List.elem j [13, 15], []⟩ Zk ?_
      refine wa_loadRow 0 rfl Zk Zk Zk Zk Zh (fun _ => rfl) (fun _ => rfl) (Zv rfl) rfl ?_
      refine wa_yn 1 rfl Zk Zk Zk (y_move (Zv rfl)) rfl ?_
      refine wa_yn 2 rfl Zk Zk Zk (y_nil (Zv rfl)) rfl ?_
      refine wa_yn 3 rfl Zk Zk Zk (y_field 19 rfl (Zv rfl) Zf) rfl ?_
      refine wa_yn 4 rfl Zk Zk Zk (y_field 0 rfl (Zv rfl) Zf) rfl ?_
      refine wa_ln 5 rfl Zk Zk Zk Zk (y_load (fun _ => rfl) (Zv rfl)) (row_cell Zh rfl) rfl ?_
      refine wa_yn 6 rfl Zk Zk Zk (y_move (Zv rfl)) rfl ?_
      refine wa_yn 7 rfl Zk Zk Zk (y_nil (Zv rfl)) rfl ?_
      refine wa_yn 8 rfl Zk Zk Zk (y_field 19 rfl (Zv rfl) Zf) rfl ?_
      refine wa_yn 9 rfl Zk Zk Zk (y_field 1 rfl (Zv rfl) Zf) rfl ?_
      refine wa_ln 10 rfl Zk Zk Zk Zk (y_load (fun _ => rfl) (Zv rfl)) (row_cell Zh rfl) rfl ?_
      refine wa_1 11 Zk ?_
      refine wi_t rfl rfl (t_call rfl (fun _ _ => rfl) (fun w hi => trap_ok s.next A1 A2 c1 c2 m.r.trap.cause m.r.trap.addr w (hi.rdSt (show Has _ (slD s.next A1 c1) from Zh) (show Has _ (slR s.next A2 c2) from Zh) hbd hbr))) (fun _ _ _ _ _ _ _ h => by cases h) rfl ?_
      rintro _ _ ⟨_, ⟨A7, c7, A8, c8, rfl, rfl⟩, rfl⟩
      refine wa_yn 12 rfl Zk Zk Zk (y_field 0 rfl (Zv rfl) Zf) rfl ?_
      refine wa_1 13 Zk ?_
      refine wi_t0 rfl rfl (t_storeRX (ys := resCells ⟨s.next.trap m.r.trap.cause m.r.trap.addr, false, m.r.device, []⟩ ⟨A7, c7, A8, c8⟩ none 0) (n := 16) (vs := (s.next.trap m.r.trap.cause m.r.trap.addr).cells (.slice A7 (s.next.trap m.r.trap.cause m.r.trap.addr).d.length c7) (.slice A8 (s.next.trap m.r.trap.cause m.r.trap.addr).r.length c8)) rfl (fun _ => rfl) rfl rfl (allT rfl) Za rfl (by simp only [List.length_cons, List.length_nil]; omega)) (fun _ _ _ _ _ _ _ h => by cases h) ?_
      rintro _ _ ⟨rfl, rfl⟩
      refine wa_yn 14 rfl Zk Zk Zk (y_field 16 rfl (Zv rfl) Zf) rfl ?_
      refine wa_1 15 Zk ?_
      refine wi_t0 rfl rfl (t_store (fun _ => rfl) rfl rfl rfl Za Zp) (fun _ _ _ _ _ _ _ h => by cases h) ?_
      rintro _ _ ⟨rfl, rfl⟩
      refine wa_done Zk ?_
      refine Zt (Zs (Zs (Zr (Zm rfl (Zy (y_pnn rfl (Zv rfl)) (Zn (Zt ?_)))))))
      refine wc_cond _ rfl (fun hc17 => ?_) (fun hc17 => ?_)
      · refine Zr (Zm rfl (wl_t (t_call rfl (fun _ _ => rfl) (fun w hi => umem_ok bu L.bm bb w (hi.get Zh))) rfl ?_))
        rintro _ _ ⟨_, ⟨rfl, rfl⟩, rfl⟩
        refine wl_t (t_call rfl (fun _ _ => rfl) (fun w hi => rturned_ok L m.u.m w (hi.get Zh))) rfl ?_
        rintro _ _ ⟨_, ⟨Ap, cp, rfl, rfl⟩, rfl⟩
        refine Zy (y_field 18 rfl (Zv rfl) Zf) ?_
        refine wl_t0 (t_store (fun _ => rfl) rfl rfl rfl Za Zp) ?_
        rintro _ _ ⟨rfl, rfl⟩
        refine Zn (Zt (Zs (Zr (wl_loadRow Zh (fun _ => rfl) (fun _ => rfl) (Zv rfl) rfl ?_))))
        refine wl_t0 (t_storeN (fun _ => rfl) rfl rfl (allT rfl) Za (by exact rfl)) ?_
        rintro _ _ ⟨rfl, rfl⟩
        refine Zn (Zt (Ze (qok_pick ([row b8 (resCells ⟨s.next.trap m.r.trap.cause m.r.trap.addr, true, m.r.device, trues m.u.m.turned 64⟩ ⟨A7, c7, A8, c8⟩ Ap cp) 37] ++ (resF ⟨s.next.trap m.r.trap.cause m.r.trap.addr, true, m.r.device, trues m.u.m.turned 64⟩ ⟨A7, c7, A8, c8⟩ Ap cp ++ ubF bu bb L D Y' m.u m.d)) Zj ?_)))
        refine retC (cs' := [slv _ _ _ _ _ _, slv _ _ _ _ _ _, slv _ _ _ _ _ _, row _ _ _, exC _ _ _ _, row _ _ _, row _ _ _, row _ _ _, row _ _ _, row _ _ _, slv _ _ _ _ _ _, slv _ _ _ _ _ _, row _ _ _, slv _ _ _ _ _ _]) (.inl rfl) Zu rfl rfl Zh (fun _ => rfl) (fun _ => rfl) ?_
        rw [condF hc1, condF hc8, hm, he]
        exact ⟨⟨A7, c7, A8, c8⟩, Y', Ap, cp, rfl, rfl⟩
      exact absurd hc17 (by simp)
    have he : endTo s m = ⟨m.r.s, false, m.r.device, trues m.u.m.turned 64⟩ := condF hc15
    refine Zc (Zt (Zs (Zs (Zr (Zm rfl (Zy (y_pnn rfl (Zv rfl)) (Zn (Zt ?_))))))))
    refine wc_cond _ rfl (fun hc17 => ?_) (fun hc17 => ?_)
    · refine Zr (Zm rfl (wl_t (t_call rfl (fun _ _ => rfl) (fun w hi => umem_ok bu L.bm bb w (hi.get Zh))) rfl ?_))
      rintro _ _ ⟨_, ⟨rfl, rfl⟩, rfl⟩
      refine wl_t (t_call rfl (fun _ _ => rfl) (fun w hi => rturned_ok L m.u.m w (hi.get Zh))) rfl ?_
      rintro _ _ ⟨_, ⟨Ap, cp, rfl, rfl⟩, rfl⟩
      refine Zy (y_field 18 rfl (Zv rfl) Zf) ?_
      refine wl_t0 (t_store (fun _ => rfl) rfl rfl rfl Za Zp) ?_
      rintro _ _ ⟨rfl, rfl⟩
      refine Zn (Zt (Zs (Zr (wl_loadRow Zh (fun _ => rfl) (fun _ => rfl) (Zv rfl) rfl ?_))))
      refine wl_t0 (t_storeN (fun _ => rfl) rfl rfl (allT rfl) Za (by exact rfl)) ?_
      rintro _ _ ⟨rfl, rfl⟩
      refine Zn (Zt (Ze (qok_pick ([row b8 (resCells ⟨m.r.s, false, m.r.device, trues m.u.m.turned 64⟩ X Ap cp) 37] ++ (resF ⟨m.r.s, false, m.r.device, trues m.u.m.turned 64⟩ X Ap cp ++ ubF bu bb L D Y' m.u m.d)) Zj ?_)))
      refine retC (cs' := [slv _ _ _ _ _ _, slv _ _ _ _ _ _, slv _ _ _ _ _ _, row _ _ _, exC _ _ _ _, row _ _ _, row _ _ _, row _ _ _, row _ _ _, row _ _ _, slv _ _ _ _ _ _, slv _ _ _ _ _ _, row _ _ _, slv _ _ _ _ _ _]) (.inl rfl) Zu rfl rfl Zh (fun _ => rfl) (fun _ => rfl) ?_
      rw [condF hc1, condF hc8, hm, he]
      exact ⟨X, Y', Ap, cp, rfl, rfl⟩
    exact absurd hc17 (by simp)
  exact absurd hc3 (by simp)
end Go.Proofs.YtobjiljkfmcalaaGreat
