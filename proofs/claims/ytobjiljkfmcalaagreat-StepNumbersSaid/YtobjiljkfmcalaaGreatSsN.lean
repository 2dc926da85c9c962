/- The law's instruction: the program's and the document's, side by side. -/
import Derived.Test.YtobjiljkfmcalaaGreatSsM
import Derived.Test.YtobjiljkfmcalaaGreatInkA
import Derived.Test.YtobjiljkfmcalaaGreatSqS
import Derived.Test.YtobjiljkfmcalaaGreatSqO
set_option linter.unusedSimpArgs false
set_option linter.unusedVariables false
set_option maxRecDepth 100000
namespace Go.Proofs.YtobjiljkfmcalaaGreat
open Go.RowKit Go.Ink
attribute [local irreducible] OpY GuardIs

/-- A law's world: the program's parts and the document's. -/
abbrev togF (F : FLoc) (n : Nat) (Y Z : DAdr) (U : Mmu) (d : Dev) : List Chunk := worldRow F :: (ubF F.bu F.bb F.L F.D Y U d ++ (ruF F.K F.bx n U ++ refBF F.by_ F.K.bm F.bd Z d))
abbrev res0 : List Value := [.int .u32 0, .slice none 0 0, .slice none 0 0, .int .u32 0, .bool false, .bool false, .bool false, .int .u32 0, .int .u32 0, .int .u32 0, .int .u32 0, .int .u32 0, .bool false, .bool false, .int .u64 0, .bool false]
set_option maxHeartbeats 4000000 in
theorem worldDo_ok (F : FLoc) (n : Nat) (hF : F.L.n = n) (Y Z : DAdr) (s : St) (hs : s.right = true) (hwf : s.wf) (U : Mmu) (d : Dev) (hM : MOk n U.m) (hT : U.t.length = 16) (hd : d.ok) (ho : d.out.length ≤ 1000000000) (op nn : Int) (hnu : u32 nn)
  (Ad Ar : Option Addr) (cd cr : Nat) (w : World) (hi : Inv w (blocks (togF F n Y Z U d)) (togF F n Y Z U d) w)
  (h : ∀ w', Keep (blocks (togF F n Y Z U d)) w w' → RdSt w' s Ad Ar cd cr) :
  Ctr Tryz.prog 28 [.pointer (some ⟨F.bw, 0, none⟩), sv s Ad cd Ar cr, .agg #[.int .i64 op, .int .u32 nn]] w (togF F n Y Z U d)
   (fun v cs => ∃ (X : SAdr) (Y' Z' : DAdr), v = .tuple #[sv (doTo n s op nn U d).1.s X.Ad X.cd X.Ar X.cr, .bool true] ∧ cs = [slD (doTo n s op nn U d).1.s X.Ad X.cd, slR (doTo n s op nn U d).1.s X.Ar X.cr] ++ togF F n Y' Z' (doTo n s op nn U d).2.1 (doTo n s op nn U d).2.2) := by
 have hbd := (h w (Keep.refl _ _)).hd
 have hbr := (h w (Keep.refl _ _)).hr
 have HD := fun w hin h => do_ok F.bu F.bb F.L F.D Y s Ad Ar cd cr op nn U d hwf hnu hT hd.wf ho w hin h
 have HE := fun w hin h => refdo_ok s hs hwf F.K F.bx n U F.by_ F.bd Z d hM hT hd.wf ho op nn hnu Ad Ar cd cr w hin h
 have HC := check_ok s Ad Ar cd cr op nn hnu
 have HK := refcheck_ok s Ad Ar cd cr op nn hnu
 have hG := do_goes (op := op) (nn := nn) hwf hs hnu ⟨hM.m, hT⟩ hd
 rw [hF] at HD
 obtain ⟨⟨q, U1, d1⟩, hq⟩ : ∃ q, doTo n s op nn U d = q := ⟨_, rfl⟩
 rw [hq] at HD HE hG ⊢
 obtain ⟨ck, hck⟩ : ∃ c, checkOf s op nn = c := ⟨_, rfl⟩
 rw [hck] at HC HK
 obtain ⟨-, g2, -⟩ := hG
 obtain ⟨e16, f16, -⟩ := St.fits g2
 have HQ := fun A B C D c1 c2 c3 c4 w h h2 => rSame_ok q.s q.s A B C D c1 c2 c3 c4 w h h2
 rw [St.rsame_self] at HQ
 obtain ⟨⟨pc', d', r', fl', su', pg', ie', rt', ve', ep', ca', ad', es', ei', co', ha'⟩, tr', dv', pgs'⟩ := q
 have e16 : d'.length ≤ 16 := e16
 have f16 : r'.length ≤ 16 := f16
 refine fn_ctr Tryz.func28 rfl Tryz.ntmps28 rfl hi ?_
 refine Zs (Zr (ZO fun b4 => ?_))
 refine ZO fun b5 => ?_
 refine ZN fun b6 => ?_
 refine ZA ?_
 refine Zn (Zt ?_)
 refine wc_seq_mid (fun q : SAdr × DAdr × (Option Addr × Nat) × Nat => [(0, .pointer (some ⟨F.bw, 0, none⟩)), (4, .pointer (some ⟨b4, 0, none⟩)), (5, .pointer (some ⟨b5, 0, none⟩)), (6, .pointer (some ⟨b6, 0, none⟩)), (8, .pointer (some ⟨q.2.2.2, 0, none⟩))]) (fun q => [row b4 (s.cells (.slice Ad s.d.length cd) (.slice Ar s.r.length cr)) 26, row b5 [.int .i64 op, .int .u32 nn] 33, row b6 res0 26] ++ (worldRow F :: (ubF F.bu F.bb F.L F.D q.2.1 U1 d1 ++ (ruF F.K F.bx n U ++ refBF F.by_ F.K.bm F.bd Z d))) ++ (row q.2.2.2 (resCells ⟨⟨pc', d', r', fl', su', pg', ie', rt', ve', ep', ca', ad', es', ei', co', ha'⟩, tr', dv', pgs'⟩ q.1 q.2.2.1.1 q.2.2.1.2) 37 :: resF ⟨⟨pc', d', r', fl', su', pg', ie', rt', ve', ep', ca', ad', es', ei', co', ha'⟩, tr', dv', pgs'⟩ q.1 q.2.2.1.1 q.2.2.1.2)) (fun q => True) ?_ ?_
 ·refine wc_draw ⟨fun j => List.elem j [10, 12], []⟩ Zk ?_
  refine ZI 0 ?_
  refine ZI 1 ?_
  refine ZE 2 ?_
  refine ZE 3 ?_
  refine ZFe 4 0 ?_
  refine ZG 5 ?_
  refine ZE 6 ?_
  refine ZE 7 ?_
  refine ZFe 8 1 ?_
  refine ZG 9 ?_
  refine wa_2 10 11 Zk ?_ ?_
  ·refine wi_t rfl rfl (t_callS (ubF F.bu F.bb F.L F.D Y U d) rfl (fun _ _ => rfl) Zi (fun w hi hin => HD w hin (fun w' hk => h w' (hi.past (fun c hc => by simp only [togF, ubF, uF, busF, List.mem_append, List.mem_cons, List.mem_nil_iff] at hc ⊢; grind) hk)))) (fun _ _ _ _ _ _ _ h => by cases h) rfl ?_
   rintro _ _ ⟨_, ⟨X1, Y1, Ap, cp, rfl, rfl⟩, rfl⟩
   refine wa_1 11 Zk ?_
   refine ZP fun b8 => ?_
   refine wa_1 12 Zk ?_
   refine ZR ?_
   refine wa_done Zk ?_
   refine q_midP ((⟨X1, Y1, ⟨Ap, cp⟩, b8⟩ : SAdr × DAdr × (Option Addr × Nat) × Nat)) ?_ ?_ ?_
   ·trivial
   ·exact Zwk
   exact Zj
  refine ZP fun b8 => ?_
  refine wa_1 10 Zk ?_
  refine wi_t rfl rfl (t_callS (ubF F.bu F.bb F.L F.D Y U d) rfl (fun _ _ => rfl) Zi (fun w hi hin => HD w hin (fun w' hk => h w' (hi.past (fun c hc => by simp only [togF, ubF, uF, busF, List.mem_append, List.mem_cons, List.mem_nil_iff] at hc ⊢; grind) hk)))) (fun _ _ _ _ _ _ _ h => by cases h) rfl ?_
  rintro _ _ ⟨_, ⟨X1, Y1, Ap, cp, rfl, rfl⟩, rfl⟩
  refine wa_1 12 Zk ?_
  refine ZR ?_
  refine wa_done Zk ?_
  refine q_midP ((⟨X1, Y1, ⟨Ap, cp⟩, b8⟩ : SAdr × DAdr × (Option Addr × Nat) × Nat)) ?_ ?_ ?_
  ·trivial
  ·exact Zwk
  exact Zj
 rintro ⟨⟨A1, c1, A2, c2⟩, Y1, ⟨Ap, cp⟩, b8⟩ -
 dsimp only
 refine wc_seq_mid (fun q : SAdr × DAdr × (Option Addr × Nat) × Nat => [(0, .pointer (some ⟨F.bw, 0, none⟩)), (4, .pointer (some ⟨b4, 0, none⟩)), (5, .pointer (some ⟨b5, 0, none⟩)), (6, .pointer (some ⟨b6, 0, none⟩)), (8, .pointer (some ⟨b8, 0, none⟩)), (9, .pointer (some ⟨q.2.2.2, 0, none⟩))]) (fun q => [row b4 (s.cells (.slice Ad s.d.length cd) (.slice Ar s.r.length cr)) 26, row b5 [.int .i64 op, .int .u32 nn] 33, row b6 res0 26] ++ togF F n Y1 q.2.1 U1 d1 ++ (row b8 (resCells ⟨⟨pc', d', r', fl', su', pg', ie', rt', ve', ep', ca', ad', es', ei', co', ha'⟩, tr', dv', pgs'⟩ ⟨A1, c1, A2, c2⟩ Ap cp) 37 :: resF ⟨⟨pc', d', r', fl', su', pg', ie', rt', ve', ep', ca', ad', es', ei', co', ha'⟩, tr', dv', pgs'⟩ ⟨A1, c1, A2, c2⟩ Ap cp) ++ (row q.2.2.2 (resCells ⟨⟨pc', d', r', fl', su', pg', ie', rt', ve', ep', ca', ad', es', ei', co', ha'⟩, tr', dv', pgs'⟩ q.1 q.2.2.1.1 q.2.2.1.2) 109 :: resF ⟨⟨pc', d', r', fl', su', pg', ie', rt', ve', ep', ca', ad', es', ei', co', ha'⟩, tr', dv', pgs'⟩ q.1 q.2.2.1.1 q.2.2.1.2)) (fun q => True) ?_ ?_
 ·refine wc_draw ⟨fun j => List.elem j [10, 12], []⟩ Zk ?_
  refine ZI 0 ?_
  refine ZI 1 ?_
  refine ZE 2 ?_
  refine ZE 3 ?_
  refine ZFe 4 3 ?_
  refine ZG 5 ?_
  refine ZE 6 ?_
  refine ZE 7 ?_
  refine ZFe 8 4 ?_
  refine ZG 9 ?_
  refine wa_2 10 11 Zk ?_ ?_
  ·refine wi_t rfl rfl (t_callS (ruF F.K F.bx n U ++ refBF F.by_ F.K.bm F.bd Z d) rfl (fun _ _ => rfl) Zi (fun w hi hin => HE w hin (fun w' hk => h w' (hi.past (fun c hc => by simp only [togF, ruF, rmF, refMF, refBF, List.mem_append, List.mem_cons, List.mem_nil_iff] at hc ⊢; grind) hk)))) (fun _ _ _ _ _ _ _ h => by cases h) rfl ?_
   rintro _ _ ⟨_, ⟨X2, Z2, Aq, cq, rfl, rfl⟩, rfl⟩
   refine wa_1 11 Zk ?_
   refine ZP fun b9 => ?_
   refine wa_1 12 Zk ?_
   refine ZR ?_
   refine wa_done Zk ?_
   refine q_midP ((⟨X2, Z2, ⟨Aq, cq⟩, b9⟩ : SAdr × DAdr × (Option Addr × Nat) × Nat)) ?_ ?_ ?_
   ·trivial
   ·exact Zwk
   exact Zj
  refine ZP fun b9 => ?_
  refine wa_1 10 Zk ?_
  refine wi_t rfl rfl (t_callS (ruF F.K F.bx n U ++ refBF F.by_ F.K.bm F.bd Z d) rfl (fun _ _ => rfl) Zi (fun w hi hin => HE w hin (fun w' hk => h w' (hi.past (fun c hc => by simp only [togF, ruF, rmF, refMF, refBF, List.mem_append, List.mem_cons, List.mem_nil_iff] at hc ⊢; grind) hk)))) (fun _ _ _ _ _ _ _ h => by cases h) rfl ?_
  rintro _ _ ⟨_, ⟨X2, Z2, Aq, cq, rfl, rfl⟩, rfl⟩
  refine wa_1 12 Zk ?_
  refine ZR ?_
  refine wa_done Zk ?_
  refine q_midP ((⟨X2, Z2, ⟨Aq, cq⟩, b9⟩ : SAdr × DAdr × (Option Addr × Nat) × Nat)) ?_ ?_ ?_
  ·trivial
  ·exact Zwk
  exact Zj
 rintro ⟨⟨A3, c3, A4, c4⟩, Z2, ⟨Aq, cq⟩, b9⟩ -
 dsimp only
 refine Zs (ws_draw ⟨fun j => List.elem j [37], []⟩ [(0, 0), (1, 1), (2, 0), (3, 4), (4, 0), (5, 4), (6, 2), (7, 0), (8, 0), (9, 4), (10, 0), (11, 4), (12, 0), (13, 0), (14, 0), (15, 0), (16, 4), (17, 0), (18, 4), (19, 0), (20, 0), (21, 0), (22, 0), (23, 4), (24, 0), (25, 4), (26, 2), (27, 0), (28, 0), (29, 4), (30, 4), (32, 4), (33, 4), (31, 2), (34, 2), (35, 0), (36, 0), (37, 2), (38, 0)] Zk Zk ?_)
 refine ws_yn rfl (y_field 0 rfl (Zv rfl) Zf) rfl ?_
 refine ws_ln rfl (y_loadN (vs := St.cells ⟨pc', d', r', fl', su', pg', ie', rt', ve', ep', ca', ad', es', ei', co', ha'⟩ (.slice A3 d'.length c3) (.slice A4 r'.length c4)) (fun _ => rfl) (fun _ => rfl) (Zv rfl)) (row_cells Zh rfl) rfl ?_
 refine ws_yn rfl (y_field 0 rfl (Zv rfl) Zf) rfl ?_
 refine ws_ln4 rfl (y_loadN (vs := St.cells ⟨pc', d', r', fl', su', pg', ie', rt', ve', ep', ca', ad', es', ei', co', ha'⟩ (.slice A1 d'.length c1) (.slice A2 r'.length c2)) (fun _ => rfl) (fun _ => rfl) (Zv rfl)) (row_cells Zh rfl) rfl ?_
 refine ws_yn rfl (y_field 0 rfl (Zv rfl) Zf) rfl ?_
 refine ws_ln4 rfl (y_loadN (vs := St.cells ⟨pc', d', r', fl', su', pg', ie', rt', ve', ep', ca', ad', es', ei', co', ha'⟩ (.slice A3 d'.length c3) (.slice A4 r'.length c4)) (fun _ => rfl) (fun _ => rfl) (Zv rfl)) (row_cells Zh rfl) rfl ?_
 refine ws_1 rfl ?_
 refine wsi_t rfl rfl (t_call rfl (fun _ _ => rfl) (fun w hi => HQ A1 A2 A3 A4 c1 c2 c3 c4 w (hi.rdSt (show Has _ (sl .u32 22 A1 d'.length c1 d') from Zh) (show Has _ (sl .u32 22 A2 r'.length c2 r') from Zh) (show d'.length * 4 ≤ _ by omega) (show r'.length * 4 ≤ _ by omega)) (hi.rdSt (show Has _ (sl .u32 22 A3 d'.length c3 d') from Zh) (show Has _ (sl .u32 22 A4 r'.length c4 r') from Zh) (show d'.length * 4 ≤ _ by omega) (show r'.length * 4 ≤ _ by omega)))) (fun _ _ _ _ _ _ _ h => by cases h) rfl ?_
 rintro _ _ ⟨_, ⟨rfl, rfl⟩, rfl⟩
 refine ws_yn rfl (y_move (Zv rfl)) rfl ?_
 refine ws_y rfl (guard_yes rfl rfl) (y_field 16 rfl (Zv rfl) Zf) rfl ?_
 refine ws_l4 rfl (guard_yes rfl rfl) (y_load (fun _ => rfl) (ev_g rfl)) (row_cell Zh rfl) rfl ?_
 refine ws_y rfl (guard_yes rfl rfl) (y_field 16 rfl (Zv rfl) Zf) rfl ?_
 refine ws_l4 rfl (guard_yes rfl rfl) (y_load (fun _ => rfl) (ev_g rfl)) (row_cell Zh rfl) rfl ?_
 refine ws_y rfl (guard_yes rfl rfl) (y_eqlb rfl (ev_g rfl) (ev_g rfl) (beq_self_eq_true tr')) rfl ?_
 refine ws_yn rfl (y_and (Zv rfl) (pk_yes rfl (fun _ => rfl))) rfl ?_
 refine ws_yn rfl (y_move (Zv rfl)) rfl ?_
 refine ws_y rfl (guard_yes rfl rfl) (y_field 17 rfl (Zv rfl) Zf) rfl ?_
 refine ws_l4 rfl (guard_yes rfl rfl) (y_load (fun _ => rfl) (ev_g rfl)) (row_cell Zh rfl) rfl ?_
 refine ws_y rfl (guard_yes rfl rfl) (y_field 17 rfl (Zv rfl) Zf) rfl ?_
 refine ws_l4 rfl (guard_yes rfl rfl) (y_load (fun _ => rfl) (ev_g rfl)) (row_cell Zh rfl) rfl ?_
 refine ws_y rfl (guard_yes rfl rfl) (y_eqlb rfl (ev_g rfl) (ev_g rfl) (beq_self_eq_true dv')) rfl ?_
 refine ws_yn rfl (y_and (Zv rfl) (pk_yes rfl (fun _ => rfl))) rfl ?_
 refine ws_yn rfl (y_move (Zv rfl)) rfl ?_
 refine ws_y rfl (guard_yes rfl rfl) (y_field 18 rfl (Zv rfl) Zf) rfl ?_
 refine ws_l4 rfl (guard_yes rfl rfl) (y_load (fun _ => rfl) (ev_g rfl)) (row_cell Zh rfl) rfl ?_
 refine ws_y rfl (guard_yes rfl rfl) (y_field 18 rfl (Zv rfl) Zf) rfl ?_
 refine ws_l4 rfl (guard_yes rfl rfl) (y_load (fun _ => rfl) (ev_g rfl)) (row_cell Zh rfl) rfl ?_
 refine ws_1 rfl ?_
 refine wsi_tg rfl rfl (guard_yes rfl rfl) rfl (t_call rfl (fun _ _ => rfl) (fun w hi => sameInts_ok Ap Aq cp cq pgs' w (hi.rd (show Has _ (sl .i64 3 Ap pgs'.length cp pgs') from Zh)) (hi.rd (show Has _ (sl .i64 3 Aq pgs'.length cq pgs') from Zh)))) (fun _ _ _ _ _ _ _ h => by cases h) rfl ?_
 rintro _ _ ⟨_, ⟨rfl, rfl⟩, rfl⟩
 refine ws_yn rfl (y_and (Zv rfl) (pk_yes rfl (fun _ => rfl))) rfl ?_
 refine ws_yn rfl (y_move (Zv rfl)) rfl ?_
 refine ws_loadRowg4 rfl (guard_yes rfl rfl) Zh (fun _ => rfl) (fun _ => rfl) (Zv rfl) rfl ?_
 refine ws_loadRowg4 rfl (guard_yes rfl rfl) Zh (fun _ => rfl) (fun _ => rfl) (Zv rfl) rfl ?_
 refine ws_loadRowg4 rfl (guard_yes rfl rfl) Zh (fun _ => rfl) (fun _ => rfl) (Zv rfl) rfl ?_
 refine ws_loadRowg4 rfl (guard_yes rfl rfl) Zh (fun _ => rfl) (fun _ => rfl) (Zv rfl) rfl ?_
 refine ws_1 rfl ?_
 refine wsi_tg rfl rfl (guard_yes rfl rfl) rfl (t_call rfl (fun _ _ => rfl) (fun w hi => HC w (h w hi.keep))) (fun _ _ _ _ _ _ _ h => by cases h) rfl ?_
 rintro _ _ ⟨_, ⟨rfl, rfl⟩, rfl⟩
 refine ws_1 rfl ?_
 refine wsi_tg rfl rfl (guard_yes rfl rfl) rfl (t_call rfl (fun _ _ => rfl) (fun w hi => HK w (h w hi.keep))) (fun _ _ _ _ _ _ _ h => by cases h) rfl ?_
 rintro _ _ ⟨_, ⟨rfl, rfl⟩, rfl⟩
 refine ws_y rfl (guard_yes rfl rfl) (y_eql (ev_g rfl) (ev_g rfl) (beq_self_eq_true ck)) rfl ?_
 refine ws_yn rfl (y_and (Zv rfl) (pk_yes rfl (fun _ => rfl))) rfl ?_
 refine ws_1 rfl ?_
 refine wsi_t0 rfl rfl (t_storeN (fun _ => rfl) rfl rfl (allT rfl) Za (by exact rfl)) (fun _ _ _ _ _ _ _ h => by cases h) ?_
 rintro _ _ ⟨rfl, rfl⟩
 refine ws_yn rfl (y_assign (Zv rfl)) rfl ?_
 refine ws_done ?_
 refine Zt (Ze (qok_pick ([row b6 (St.cells ⟨pc', d', r', fl', su', pg', ie', rt', ve', ep', ca', ad', es', ei', co', ha'⟩ (.slice A3 d'.length c3) (.slice A4 r'.length c4)) 26, sl .u32 22 A3 d'.length c3 d', sl .u32 22 A4 r'.length c4 r'] ++ togF F n Y1 Z2 U1 d1) Zj ?_))
 refine retC1 (cs' := ([sl .u32 22 A3 d'.length c3 d', sl .u32 22 A4 r'.length c4 r'] ++ togF F n Y1 Z2 U1 d1)) (.inl rfl) Zu rfl rfl rfl Zh (fun _ => rfl) (fun _ => rfl) ?_
 exact ⟨⟨A3, c3, A4, c4⟩, Y1, Z2, rfl, rfl⟩
end Go.Proofs.YtobjiljkfmcalaaGreat
