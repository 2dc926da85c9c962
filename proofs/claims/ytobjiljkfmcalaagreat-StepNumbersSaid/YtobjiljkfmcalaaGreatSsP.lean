/- The law StepNumbers. -/
import Derived.Test.YtobjiljkfmcalaaGreatSsO
import Derived.Test.YtobjiljkfmcalaaGreatInkA
import Derived.Test.YtobjiljkfmcalaaGreatInkR
set_option linter.unusedSimpArgs false
set_option linter.unusedVariables false
set_option maxRecDepth 100000
namespace Go.Ink
open Go.RowKit
theorem i64_wrap_id (x : Int) (h0 : -9223372036854775808 ≤ x) (h1 : x ≤ 9223372036854775807) : IntKind.i64.wrap x = x := IntWalk.i64_in x ⟨h0, h1⟩
def numD (n : Nat) : List Int := (List.range n).map fun k : Nat => ((k * 4 : Nat) : Int)
theorem numD_len (n : Nat) : (numD n).length = n := by simp [numD]
theorem numD_succ (n : Nat) : numD (n + 1) = numD n ++ [((n * 4 : Nat) : Int)] := by simp [numD, List.range_succ]
theorem numD_u32 {n : Nat} (h : n ≤ 1000) : ∀ x, x ∈ numD n → u32 x := by
 intro x hx
 simp only [numD, List.mem_map, List.mem_range] at hx
 obtain ⟨a, ha, rfl⟩ := hx
 exact u32_nat (by omega)
theorem set_u32 {l : List Int} (h : ∀ x, x ∈ l → u32 x) (j : Nat) {v : Int} (hv : u32 v) : ∀ x, x ∈ l.set j v → u32 x := by
 intro x hx
 rcases List.mem_or_eq_of_mem_set hx with h1 | rfl
 ·exact h x h1
 exact hv
theorem rd_takeN {W : World} {k : IntKind} {A : Option Addr} {n c m : Nat} {b : List Int} (h : Rd W k A n c b) (hl : b.length = n) (hm : m ≤ n) : Rd W k A m c (b.take m) := by
 have h2 := rd_take (hl ▸ h : Rd W k A b.length c b) m
 rwa [List.length_take, Nat.min_eq_left (by omega)] at h2
/-- A state of this law. -/
abbrev numS (sup : Bool) (n : Nat) (d r : List Int) : St := ⟨60, d, r, (n : Int), sup, false, true, 0, 100, 5, 0, 0, false, false, 0, false⟩
theorem n60 : u32 60 := ⟨by decide, by decide⟩
theorem n100 : u32 100 := ⟨by decide, by decide⟩
theorem n5 : u32 5 := ⟨by decide, by decide⟩
theorem numS_wf {sup : Bool} {n : Nat} {d r : List Int} (hn : n ≤ 16) (hd : ∀ x, x ∈ d → u32 x) (hr : ∀ x, x ∈ r → u32 x) : (numS sup n d r).wf :=
 ⟨n60, u32_nat (by omega), u0, n100, n5, u0, u0, ⟨Int.le_refl _, show (0 : Int) ≤ 18446744073709551615 by decide⟩, hd, hr⟩
theorem doTo_wrong {n : Nat} {s : St} {op nn : Int} {U : Mmu} {d : Dev} (h : s.right = false) : doTo n s op nn U d = (⟨s, false, false, []⟩, U, d) := by
 unfold doTo
 rw [h]
 rfl
theorem wrong_of {s : St} (h : 15 < s.flags ∨ 16 < s.d.length) : s.right = false := by
 cases e : s.right with
 | false => rfl
 | true => obtain ⟨h1, h2, h3⟩ := St.fits e; omega
/-- A state that may not be; a word that is loaded without parts. -/
abbrev badS : St := ⟨0, [0, 0, 0, 0, 0, 0, 0, 0, 0, 0, 0, 0, 0, 0, 0, 0, 0], [], 0, false, false, false, 0, 0, 0, 0, 0, false, false, 0, false⟩
abbrev ldS : St := ⟨0, [8], [], 0, false, false, false, 0, 0, 0, 0, 0, false, false, 0, false⟩
theorem z_u32 : ∀ x, x ∈ ([0, 0, 0, 0, 0, 0, 0, 0, 0, 0, 0, 0, 0, 0, 0, 0, 0] : List Int) → u32 x := by
 intro x hx
 simp only [List.mem_cons, List.mem_nil_iff, or_false, or_self] at hx
 subst hx
 exact u0
theorem badS_wf : badS.wf := ⟨u0, u0, u0, u0, u0, u0, u0, by decide, z_u32, fun x hx => by cases hx⟩
theorem ldS_wf : ldS.wf := ⟨u0, u0, u0, u0, u0, u0, u0, by decide, fun x hx => by obtain rfl := List.mem_singleton.1 hx; exact ⟨by decide, by decide⟩, fun x hx => by cases hx⟩
theorem ldS_do : doN ldS 48 0 = ⟨⟨0, [8], [], 0, true, false, false, 0, 0, 0, 10, 8, false, false, 1, false⟩, true, false, []⟩ := by rfl
end Go.Ink
namespace Go.Proofs.YtobjiljkfmcalaaGreat
open Go.RowKit Go.Ink
attribute [local irreducible] OpY GuardIs

theorem need_eq (q : (Nat × Nat) × (Nat × Nat)) : EqV Tryz.prog 10000 70 (.agg (needV q).toArray) (.agg (needV q).toArray) :=
 .arr rfl rfl (is := [0, 1, 2, 3]) rfl (EqI.cons (fun _ => rfl) (fun _ => rfl) (.int rfl) (EqI.cons (fun _ => rfl) (fun _ => rfl) (.int rfl) (EqI.cons (fun _ => rfl) (fun _ => rfl) (.int rfl) (EqI.cons (fun _ => rfl) (fun _ => rfl) (.int rfl) EqI.nil))))
theorem need_guard : Tryz.prog.eqGuardType Tryz.prog.depth 70 = false := by kernel_rfl
set_option maxHeartbeats 1000000 in
theorem refdo_wrong (s : St) (hs : s.right = false) (op nn : Int) (A B : Option Addr) (Ad Ar : Option Addr) (cd cr : Nat) (w : World) (h : RdSt w s Ad Ar cd cr) :
  Ctr Tryz.prog 56 [sv s Ad cd Ar cr, .agg #[.int .i64 op, .int .u32 nn], .pointer A, .pointer B] w [] (fun v cs => v = .agg (resCells ⟨s, false, false, []⟩ ⟨Ad, cd, Ar, cr⟩ none 0).toArray ∧ cs = []) := by
 have HR := refright_ok s Ad Ar cd cr
 rw [hs] at HR
 refine fn_ctr Tryz.func56 rfl Tryz.ntmps56 rfl (Inv.start w) ?_
 refine Zs (Zr (ZO fun b4 => ?_))
 refine ZO fun b5 => ?_
 refine ZN fun b8 => ?_
 refine Zn (Zt (Zs (Zs (Zr (wl_loadRow Zh (fun _ => rfl) (fun _ => rfl) (Zv rfl) rfl ?_)))))
 refine ZS (fun w hi => HR w) ?_
 rintro _ _ ⟨_, ⟨rfl, rfl⟩, rfl⟩
 refine ZA ?_
 refine Zn (Zt (wc_cond_t rfl (rfl) ?_))
 refine Zs (Zr (wl_loadRow Zh (fun _ => rfl) (fun _ => rfl) (Zv rfl) rfl ?_))
 refine ZA ?_
 refine ZM ?_
 refine Zn (Zt (Ze (Zw (retC (cs' := []) (.inl rfl) Zu rfl rfl Zh (fun _ => rfl) (fun _ => rfl) ?_))))
 exact ⟨rfl, rfl⟩
set_option maxHeartbeats 4000000 in
theorem worldDo_wrong (F : FLoc) (n : Nat) (hF : F.L.n = n) (Y Z : DAdr) (s : St) (hs : s.right = false) (hwf : s.wf) (U : Mmu) (d : Dev) (hT : U.t.length = 16) (hd : d.ok) (ho : d.out.length ≤ 1000000000) (op nn : Int) (hnu : u32 nn)
  (Ad Ar : Option Addr) (cd cr : Nat) (w : World) (hi : Inv w (blocks (togF F n Y Z U d)) (togF F n Y Z U d) w)
  (h : ∀ w', Keep (blocks (togF F n Y Z U d)) w w' → RdSt w' s Ad Ar cd cr) :
  Ctr Tryz.prog 28 [.pointer (some ⟨F.bw, 0, none⟩), sv s Ad cd Ar cr, .agg #[.int .i64 op, .int .u32 nn]] w (togF F n Y Z U d)
   (fun v cs => ∃ (Y' : DAdr), v = .tuple #[sv s Ad cd Ar cr, .bool true] ∧ cs = togF F n Y' Z U d) := by
 have hbd := (h w (Keep.refl _ _)).hd
 have hbr := (h w (Keep.refl _ _)).hr
 have HD := fun w hin h => do_ok F.bu F.bb F.L F.D Y s Ad Ar cd cr op nn U d hwf hnu hT hd.wf ho w hin h
 have HE := fun A B w h => refdo_wrong s hs op nn A B Ad Ar cd cr w h
 have HC := check_ok s Ad Ar cd cr op nn hnu
 have HK := refcheck_ok s Ad Ar cd cr op nn hnu
 rw [hF, doTo_wrong hs] at HD
 obtain ⟨ck, hck⟩ : ∃ c, checkOf s op nn = c := ⟨_, rfl⟩
 rw [hck] at HC HK
 have HQ := fun A B C D c1 c2 c3 c4 w h h2 => rSame_ok s s A B C D c1 c2 c3 c4 w h h2
 rw [St.rsame_self] at HQ
 obtain ⟨pc', d', r', fl', su', pg', ie', rt', ve', ep', ca', ad', es', ei', co', ha'⟩ := s
 have hbd : d'.length * 4 ≤ 140737488355328 := hbd
 have hbr : r'.length * 4 ≤ 140737488355328 := hbr
 refine fn_ctr Tryz.func28 rfl Tryz.ntmps28 rfl hi ?_
 refine Zs (Zr (ZO fun b4 => ?_))
 refine ZO fun b5 => ?_
 refine ZN fun b6 => ?_
 refine ZA ?_
 refine Zn (Zt ?_)
 refine wc_seq_mid (fun q : SAdr × DAdr × (Option Addr × Nat) × Nat => [(0, .pointer (some ⟨F.bw, 0, none⟩)), (4, .pointer (some ⟨b4, 0, none⟩)), (5, .pointer (some ⟨b5, 0, none⟩)), (6, .pointer (some ⟨b6, 0, none⟩)), (8, .pointer (some ⟨q.2.2.2, 0, none⟩))]) (fun q => [row b4 (St.cells ⟨pc', d', r', fl', su', pg', ie', rt', ve', ep', ca', ad', es', ei', co', ha'⟩ (.slice Ad d'.length cd) (.slice Ar r'.length cr)) 26, row b5 [.int .i64 op, .int .u32 nn] 33, row b6 res0 26] ++ togF F n q.2.1 Z U d ++ (row q.2.2.2 (resCells ⟨⟨pc', d', r', fl', su', pg', ie', rt', ve', ep', ca', ad', es', ei', co', ha'⟩, false, false, []⟩ q.1 q.2.2.1.1 q.2.2.1.2) 37 :: resF ⟨⟨pc', d', r', fl', su', pg', ie', rt', ve', ep', ca', ad', es', ei', co', ha'⟩, false, false, []⟩ q.1 q.2.2.1.1 q.2.2.1.2)) (fun q => True) ?_ ?_
 ·refine wc_draw ⟨fun j => List.elem j [10, 12], []⟩ Zk ?_
  refine ZI 0 ?_
  refine ZI 1 ?_
  refine ZE 2 ?_
  refine ZE 3 ?_
  refine ZFe 4 0 ?_
  refine ZG 5 ?_
  refine ZE 6 ?_
  refine ZE 7 ?_
  refine ZFe 8 1 ?_
  refine ZG 9 ?_
  refine wa_2 10 11 Zk ?_ ?_
  ·refine wi_t rfl rfl (t_callS (ubF F.bu F.bb F.L F.D Y U d) rfl (fun _ _ => rfl) Zi (fun w hi hin => HD w hin (fun w' hk => h w' (hi.past (fun c hc => by simp only [togF, ubF, uF, busF, List.mem_append, List.mem_cons, List.mem_nil_iff] at hc ⊢; grind) hk)))) (fun _ _ _ _ _ _ _ h => by cases h) rfl ?_
   rintro _ _ ⟨_, ⟨X1, Y1, Ap, cp, rfl, rfl⟩, rfl⟩
   refine wa_1 11 Zk ?_
   refine ZP fun b8 => ?_
   refine wa_1 12 Zk ?_
   refine ZR ?_
   refine wa_done Zk ?_
   refine q_midP ((⟨X1, Y1, ⟨Ap, cp⟩, b8⟩ : SAdr × DAdr × (Option Addr × Nat) × Nat)) ?_ ?_ ?_
   ·trivial
   ·exact Zwk
   exact Zj
  refine ZP fun b8 => ?_
  refine wa_1 10 Zk ?_
  refine wi_t rfl rfl (t_callS (ubF F.bu F.bb F.L F.D Y U d) rfl (fun _ _ => rfl) Zi (fun w hi hin => HD w hin (fun w' hk => h w' (hi.past (fun c hc => by simp only [togF, ubF, uF, busF, List.mem_append, List.mem_cons, List.mem_nil_iff] at hc ⊢; grind) hk)))) (fun _ _ _ _ _ _ _ h => by cases h) rfl ?_
  rintro _ _ ⟨_, ⟨X1, Y1, Ap, cp, rfl, rfl⟩, rfl⟩
  refine wa_1 12 Zk ?_
  refine ZR ?_
  refine wa_done Zk ?_
  refine q_midP ((⟨X1, Y1, ⟨Ap, cp⟩, b8⟩ : SAdr × DAdr × (Option Addr × Nat) × Nat)) ?_ ?_ ?_
  ·trivial
  ·exact Zwk
  exact Zj
 rintro ⟨⟨A1, c1, A2, c2⟩, Y1, ⟨Ap, cp⟩, b8⟩ -
 dsimp only
 refine wc_seq_mid (fun b9 : Nat => [(0, .pointer (some ⟨F.bw, 0, none⟩)), (4, .pointer (some ⟨b4, 0, none⟩)), (5, .pointer (some ⟨b5, 0, none⟩)), (6, .pointer (some ⟨b6, 0, none⟩)), (8, .pointer (some ⟨b8, 0, none⟩)), (9, .pointer (some ⟨b9, 0, none⟩))]) (fun b9 => [row b4 (St.cells ⟨pc', d', r', fl', su', pg', ie', rt', ve', ep', ca', ad', es', ei', co', ha'⟩ (.slice Ad d'.length cd) (.slice Ar r'.length cr)) 26, row b5 [.int .i64 op, .int .u32 nn] 33, row b6 res0 26] ++ togF F n Y1 Z U d ++ (row b8 (resCells ⟨⟨pc', d', r', fl', su', pg', ie', rt', ve', ep', ca', ad', es', ei', co', ha'⟩, false, false, []⟩ ⟨A1, c1, A2, c2⟩ Ap cp) 37 :: resF ⟨⟨pc', d', r', fl', su', pg', ie', rt', ve', ep', ca', ad', es', ei', co', ha'⟩, false, false, []⟩ ⟨A1, c1, A2, c2⟩ Ap cp) ++ [row b9 (resCells ⟨⟨pc', d', r', fl', su', pg', ie', rt', ve', ep', ca', ad', es', ei', co', ha'⟩, false, false, []⟩ ⟨Ad, cd, Ar, cr⟩ none 0) 109]) (fun q => True) ?_ ?_
 ·refine wc_draw ⟨fun j => List.elem j [12], []⟩ Zk ?_
  refine ZI 0 ?_
  refine ZI 1 ?_
  refine ZE 2 ?_
  refine ZE 3 ?_
  refine ZFe 4 3 ?_
  refine ZG 5 ?_
  refine ZE 6 ?_
  refine ZE 7 ?_
  refine ZFe 8 4 ?_
  refine ZG 9 ?_
  refine wa_2 10 11 Zk ?_ ?_
  ·refine ZT (fun w hi => HE _ _ w (h w hi.keep)) ?_
   rintro _ _ ⟨_, ⟨rfl, rfl⟩, rfl⟩
   refine wa_1 11 Zk ?_
   refine ZP fun b9 => ?_
   refine wa_1 12 Zk ?_
   refine ZR ?_
   refine wa_done Zk ?_
   refine q_midP (b9) ?_ ?_ ?_
   ·trivial
   ·exact Zwk
   exact Zj
  refine ZP fun b9 => ?_
  refine wa_1 10 Zk ?_
  refine ZT (fun w hi => HE _ _ w (h w hi.keep)) ?_
  rintro _ _ ⟨_, ⟨rfl, rfl⟩, rfl⟩
  refine wa_1 12 Zk ?_
  refine ZR ?_
  refine wa_done Zk ?_
  refine q_midP (b9) ?_ ?_ ?_
  ·trivial
  ·exact Zwk
  exact Zj
 rintro b9 -
 refine Zs (ws_draw ⟨fun j => List.elem j [37], []⟩ [(0, 0), (1, 1), (2, 0), (3, 4), (4, 0), (5, 4), (6, 2), (7, 0), (8, 0), (9, 4), (10, 0), (11, 4), (12, 0), (13, 0), (14, 0), (15, 0), (16, 4), (17, 0), (18, 4), (19, 0), (20, 0), (21, 0), (22, 0), (23, 4), (24, 0), (25, 4), (26, 2), (27, 0), (28, 0), (29, 4), (30, 4), (32, 4), (33, 4), (31, 2), (34, 2), (35, 0), (36, 0), (37, 2), (38, 0)] Zk Zk ?_)
 refine ws_yn rfl (y_field 0 rfl (Zv rfl) Zf) rfl ?_
 refine ws_ln rfl (y_loadN (vs := St.cells ⟨pc', d', r', fl', su', pg', ie', rt', ve', ep', ca', ad', es', ei', co', ha'⟩ (.slice Ad d'.length cd) (.slice Ar r'.length cr)) (fun _ => rfl) (fun _ => rfl) (Zv rfl)) (row_cells Zh rfl) rfl ?_
 refine ws_yn rfl (y_field 0 rfl (Zv rfl) Zf) rfl ?_
 refine ws_ln4 rfl (y_loadN (vs := St.cells ⟨pc', d', r', fl', su', pg', ie', rt', ve', ep', ca', ad', es', ei', co', ha'⟩ (.slice A1 d'.length c1) (.slice A2 r'.length c2)) (fun _ => rfl) (fun _ => rfl) (Zv rfl)) (row_cells Zh rfl) rfl ?_
 refine ws_yn rfl (y_field 0 rfl (Zv rfl) Zf) rfl ?_
 refine ws_ln4 rfl (y_loadN (vs := St.cells ⟨pc', d', r', fl', su', pg', ie', rt', ve', ep', ca', ad', es', ei', co', ha'⟩ (.slice Ad d'.length cd) (.slice Ar r'.length cr)) (fun _ => rfl) (fun _ => rfl) (Zv rfl)) (row_cells Zh rfl) rfl ?_
 refine ws_1 rfl ?_
 refine wsi_t rfl rfl (t_call rfl (fun _ _ => rfl) (fun w hi => HQ A1 A2 Ad Ar c1 c2 cd cr w (hi.rdSt (show Has _ (sl .u32 22 A1 d'.length c1 d') from Zh) (show Has _ (sl .u32 22 A2 r'.length c2 r') from Zh) (show d'.length * 4 ≤ _ by omega) (show r'.length * 4 ≤ _ by omega)) (h w hi.keep))) (fun _ _ _ _ _ _ _ h => by cases h) rfl ?_
 rintro _ _ ⟨_, ⟨rfl, rfl⟩, rfl⟩
 refine ws_yn rfl (y_move (Zv rfl)) rfl ?_
 refine ws_y rfl (guard_yes rfl rfl) (y_field 16 rfl (Zv rfl) Zf) rfl ?_
 refine ws_l4 rfl (guard_yes rfl rfl) (y_load (fun _ => rfl) (ev_g rfl)) (row_cell Zh rfl) rfl ?_
 refine ws_y rfl (guard_yes rfl rfl) (y_field 16 rfl (Zv rfl) Zf) rfl ?_
 refine ws_l4 rfl (guard_yes rfl rfl) (y_load (fun _ => rfl) (ev_g rfl)) (row_cell Zh rfl) rfl ?_
 refine ws_y rfl (guard_yes rfl rfl) (y_eqlb rfl (ev_g rfl) (ev_g rfl) (beq_self_eq_true false)) rfl ?_
 refine ws_yn rfl (y_and (Zv rfl) (pk_yes rfl (fun _ => rfl))) rfl ?_
 refine ws_yn rfl (y_move (Zv rfl)) rfl ?_
 refine ws_y rfl (guard_yes rfl rfl) (y_field 17 rfl (Zv rfl) Zf) rfl ?_
 refine ws_l4 rfl (guard_yes rfl rfl) (y_load (fun _ => rfl) (ev_g rfl)) (row_cell Zh rfl) rfl ?_
 refine ws_y rfl (guard_yes rfl rfl) (y_field 17 rfl (Zv rfl) Zf) rfl ?_
 refine ws_l4 rfl (guard_yes rfl rfl) (y_load (fun _ => rfl) (ev_g rfl)) (row_cell Zh rfl) rfl ?_
 refine ws_y rfl (guard_yes rfl rfl) (y_eqlb rfl (ev_g rfl) (ev_g rfl) (beq_self_eq_true false)) rfl ?_
 refine ws_yn rfl (y_and (Zv rfl) (pk_yes rfl (fun _ => rfl))) rfl ?_
 refine ws_yn rfl (y_move (Zv rfl)) rfl ?_
 refine ws_y rfl (guard_yes rfl rfl) (y_field 18 rfl (Zv rfl) Zf) rfl ?_
 refine ws_l4 rfl (guard_yes rfl rfl) (y_load (fun _ => rfl) (ev_g rfl)) (row_cell Zh rfl) rfl ?_
 refine ws_y rfl (guard_yes rfl rfl) (y_field 18 rfl (Zv rfl) Zf) rfl ?_
 refine ws_l4 rfl (guard_yes rfl rfl) (y_load (fun _ => rfl) (ev_g rfl)) (row_cell Zh rfl) rfl ?_
 refine ws_1 rfl ?_
 refine wsi_tg rfl rfl (guard_yes rfl rfl) rfl (t_call rfl (fun _ _ => rfl) (fun w hi => sameInts_ok Ap none cp 0 [] w (hi.rd (show Has _ (sl .i64 3 Ap ([] : List Int).length cp []) from Zh)) (rdNil w .i64))) (fun _ _ _ _ _ _ _ h => by cases h) rfl ?_
 rintro _ _ ⟨_, ⟨rfl, rfl⟩, rfl⟩
 refine ws_yn rfl (y_and (Zv rfl) (pk_yes rfl (fun _ => rfl))) rfl ?_
 refine ws_yn rfl (y_move (Zv rfl)) rfl ?_
 refine ws_loadRowg4 rfl (guard_yes rfl rfl) Zh (fun _ => rfl) (fun _ => rfl) (Zv rfl) rfl ?_
 refine ws_loadRowg4 rfl (guard_yes rfl rfl) Zh (fun _ => rfl) (fun _ => rfl) (Zv rfl) rfl ?_
 refine ws_loadRowg4 rfl (guard_yes rfl rfl) Zh (fun _ => rfl) (fun _ => rfl) (Zv rfl) rfl ?_
 refine ws_loadRowg4 rfl (guard_yes rfl rfl) Zh (fun _ => rfl) (fun _ => rfl) (Zv rfl) rfl ?_
 refine ws_1 rfl ?_
 refine wsi_tg rfl rfl (guard_yes rfl rfl) rfl (t_call rfl (fun _ _ => rfl) (fun w hi => HC w (h w hi.keep))) (fun _ _ _ _ _ _ _ h => by cases h) rfl ?_
 rintro _ _ ⟨_, ⟨rfl, rfl⟩, rfl⟩
 refine ws_1 rfl ?_
 refine wsi_tg rfl rfl (guard_yes rfl rfl) rfl (t_call rfl (fun _ _ => rfl) (fun w hi => HK w (h w hi.keep))) (fun _ _ _ _ _ _ _ h => by cases h) rfl ?_
 rintro _ _ ⟨_, ⟨rfl, rfl⟩, rfl⟩
 refine ws_y rfl (guard_yes rfl rfl) (y_eql (ev_g rfl) (ev_g rfl) (beq_self_eq_true ck)) rfl ?_
 refine ws_yn rfl (y_and (Zv rfl) (pk_yes rfl (fun _ => rfl))) rfl ?_
 refine ws_1 rfl ?_
 refine wsi_t0 rfl rfl (t_storeN (fun _ => rfl) rfl rfl (allT rfl) Za (by exact rfl)) (fun _ _ _ _ _ _ _ h => by cases h) ?_
 rintro _ _ ⟨rfl, rfl⟩
 refine ws_yn rfl (y_assign (Zv rfl)) rfl ?_
 refine ws_done ?_
 refine Zt (Ze (qok_pick ([row b6 (St.cells ⟨pc', d', r', fl', su', pg', ie', rt', ve', ep', ca', ad', es', ei', co', ha'⟩ (.slice Ad d'.length cd) (.slice Ar r'.length cr)) 26] ++ togF F n Y1 Z U d) Zj ?_))
 refine retC1 (cs' := (togF F n Y1 Z U d)) (.inl rfl) Zu rfl rfl rfl Zh (fun _ => rfl) (fun _ => rfl) ?_
 exact ⟨Y1, rfl, rfl⟩
theorem badDo_ok (bu bb : Nat) (L : MLoc) (D : DLoc) (U : Mmu) (d : Dev) (hT : U.t.length = 16) (hd : d.wf) (ho : d.out.length ≤ 1000000000) (A : Option Addr) (c : Nat)
  (w : World) (hi : Inv w (blocks (ubF bu bb L D ⟨none, 0, none, 0⟩ U d)) (ubF bu bb L D ⟨none, 0, none, 0⟩ U d) w) (h : ∀ w', Keep (blocks (ubF bu bb L D ⟨none, 0, none, 0⟩ U d)) w w' → RdSt w' badS A none c 0) :
  Ctr Tryz.prog 16 [sv badS A c none 0, .agg #[.int .i64 0, .int .u32 0], .pointer (some ⟨bu, 0, none⟩), .pointer (some ⟨D.bs, 0, none⟩)] w (ubF bu bb L D ⟨none, 0, none, 0⟩ U d)
   (fun v cs => ∃ X Y' Ap cp, v = .agg (resCells ⟨badS, false, false, []⟩ X Ap cp).toArray ∧ cs = resF ⟨badS, false, false, []⟩ X Ap cp ++ ubF bu bb L D Y' U d) := by
 have HD := do_ok bu bb L D ⟨none, 0, none, 0⟩ badS A none c 0 0 0 U d badS_wf u0 hT hd ho w hi h
 rwa [doTo_wrong (wrong_of (.inr (by decide)))] at HD
theorem ldDo_ok (A : Option Addr) (c : Nat) (w : World) (h : RdSt w ldS A none c 0) :
  Ctr Tryz.prog 16 [sv ldS A c none 0, .agg #[.int .i64 48, .int .u32 0], .pointer none, .pointer none] w []
   (fun v cs => ∃ X Ap cp, v = .agg (resCells ⟨⟨0, [8], [], 0, true, false, false, 0, 0, 0, 10, 8, false, false, 1, false⟩, true, false, []⟩ X Ap cp).toArray ∧ cs = resF ⟨⟨0, [8], [], 0, true, false, false, 0, 0, 0, 10, 8, false, false, 1, false⟩, true, false, []⟩ X Ap cp) := by
 have HD := doN_ok ldS A none c 0 48 0 ldS_wf u0 w h
 rwa [ldS_do] at HD
theorem badSame_ok (A B C D : Option Addr) (a b c d : Nat) (w : World) (h : RdSt w badS A B a b) (h2 : RdSt w badS C D c d) :
  Ctr Tryz.prog 24 [sv badS A a B b, sv badS C c D d] w [] (fun v cs => v = .bool true ∧ cs = []) := by
 have HQ := rSame_ok badS badS A B C D a b c d w h h2
 rwa [St.rsame_self] at HQ
abbrev someB : List Int := [115, 111, 109, 101, 32, 98, 121, 116, 101, 115]
abbrev diskB : List Int := [100, 105, 115, 107]
abbrev nuS (b9 : Nat) (sup : Bool) (n : Nat) (A : Option Addr) (c : Nat) (rv : Value) : Chunk := row b9 ((numS sup n [] []).cells (.slice A n c) rv) 26
set_option maxHeartbeats 4000000 in
theorem stepNumbers_ok (w : World) : Ctr Tryz.prog 8 [] w [] (fun v cs => v = .bool true ∧ cs = []) := by
 have hnil : u8s [] := fun x hx => by cases hx
 have hb1 : u8s someB := by intro x hx; simp only [List.mem_cons, List.mem_nil_iff, or_false] at hx; omega
 have hg1 : u8s diskB := by intro x hx; simp only [List.mem_cons, List.mem_nil_iff, or_false] at hx; omega
 have HF := fun A B w h h2 => freshT_ok A B 10 4 2 someB diskB (by decide) (by decide) (by decide) hb1 (by decide) w h h2
 have HG := fun w => fresh_ok none none 0 0 1 [] [] (by decide) (by decide) (by decide) hnil (by decide) w (rdNil w .u8) (rdNil w .u8)
 have hM0 : MOk 2 (Mem.init 2 someB) := MOk.init (by decide) (by decide) (by decide) hb1
 have hd0 := Dev.init_ok (l := diskB) (by decide) hg1
 have ho0 : (Dev.init diskB).out.length ≤ 0 := Nat.le_refl _
 have hd1 := (Dev.init_ok (l := []) (by decide) hnil).wf
 have ho1 : (Dev.init []).out.length ≤ 1000000000 := Nat.zero_le _
 obtain ⟨M, hM⟩ : ∃ M, Mem.init 2 someB = M := ⟨_, rfl⟩
 obtain ⟨M1, hM1⟩ : ∃ M, Mem.init 1 [] = M := ⟨_, rfl⟩
 obtain ⟨d0, hdd⟩ : ∃ d, Dev.init diskB = d := ⟨_, rfl⟩
 obtain ⟨d1, hdd1⟩ : ∃ d, Dev.init [] = d := ⟨_, rfl⟩
 have hT0 := tflush_len
 obtain ⟨T0, hTT⟩ : ∃ T, tflush = T := ⟨_, rfl⟩
 rw [hM, hTT, hdd] at HF
 rw [hM1, hTT, hdd1] at HG
 rw [hM] at hM0
 rw [hTT] at hT0
 rw [hdd] at hd0 ho0
 rw [hdd1] at hd1 ho1
 refine fn_ctr Tryz.func8 rfl Tryz.ntmps8 rfl (Inv.start w) ?_
 refine Zs (Zr (ZA ?_))
 refine Zn (Zt (Zs (Zs (Zr (ZA ?_)))))
 refine Zn (Zt (Zx ?_))
 refine wc_loop (fun k : Nat => [(1, .int .i64 ((k : Int) - 1))]) (fun _ => []) (fun k => k ≤ 73) (fun k => 80 - k) (0) ?_ ?_ ?_ ?_
 ·exact Nat.zero_le _
 ·exact Zwk
 ·((repeat (first | exact List.Sublist.slnil | refine List.Sublist.cons_cons _ ?_ | refine List.Sublist.cons _ ?_)))
 rintro k hk
 refine Zs (Zs (Zr (ZA ?_)))
 refine ZA ?_
 refine Zn (Zt ?_)
 refine wc_cond _ rfl (fun hc2 => ?_) (fun hc2 => ?_)
 ·simp only [decide_eq_true_eq] at hc2
  obtain ⟨op, hop⟩ : ∃ op, (k : Int) - 1 = op := ⟨_, rfl⟩
  rw [hop]
  have hop1 : op ≤ 71 := (by omega)
  refine Zc (Zt (Zs (Zx (Zs (Zr (ZA ?_))))))
  refine ZS (fun w hi => needs_ok op w) ?_
  rintro _ _ ⟨_, ⟨rfl, rfl⟩, rfl⟩
  iterate 9 refine ZA ?_
  refine Zn (Zt (Zs (Zs (Zr (ZA ?_)))))
  refine ZS (fun w hi => refneeds_ok op w) ?_
  rintro _ _ ⟨_, ⟨rfl, rfl⟩, rfl⟩
  iterate 5 refine ZA ?_
  refine Zy (y_neqT need_guard (need_eq (opNeeds op)) (Zv rfl) (Zv rfl)) ?_
  refine Zn (Zt (wc_cond_f rfl (rfl) ?_))
  refine Zc (Zt (Zs (Zr (ZA ?_))))
  refine Zn (Zt (Zx ?_))
  refine wc_loop (fun n : Nat => [(1, .int .i64 op), (6, .int .i64 (n : Int))]) (fun _ => []) (fun n => n ≤ 17) (fun n => 20 - n) (0) ?_ ?_ ?_ ?_
  ·exact Nat.zero_le _
  ·exact Zwk
  ·((repeat (first | exact List.Sublist.slnil | refine List.Sublist.cons_cons _ ?_ | refine List.Sublist.cons _ ?_)))
  rintro n hn
  refine Zs (Zs (Zr (ZA ?_)))
  refine ZA ?_
  refine Zn (Zt ?_)
  refine wc_cond _ rfl (fun hc8 => ?_) (fun hc8 => ?_)
  ·simp only [decide_eq_true_eq] at hc8
   have hn16 : n ≤ 16 := (by omega)
   refine Zc (Zt (Zs (Zx (Zs (Zr (ZA ?_))))))
   refine Zn (Zt (Zx ?_))
   refine wc_loop (fun h : Nat => [(1, .int .i64 op), (6, .int .i64 (n : Int)), (7, .int .i64 (h : Int))]) (fun _ => []) (fun h => h ≤ 4) (fun h => 10 - h) (0) ?_ ?_ ?_ ?_
   ·exact Nat.zero_le _
   ·exact Zwk
   ·((repeat (first | exact List.Sublist.slnil | refine List.Sublist.cons_cons _ ?_ | refine List.Sublist.cons _ ?_)))
   rintro h hh
   refine Zs (Zs (Zr (ZA ?_)))
   refine ZA ?_
   refine Zn (Zt ?_)
   refine wc_cond _ rfl (fun hc11 => ?_) (fun hc11 => ?_)
   ·simp only [decide_eq_true_eq] at hc11
    refine Zc (Zt (Zs (Zx (Zs (Zr (wl_t (t_buildSl1 rfl rfl (fun _ => rfl) (fun _ => rfl) rfl rfl) rfl ?_))))))
    rintro _ _ ⟨b45, rfl, rfl⟩
    refine wl_t (t_mark rfl Za rfl rfl) rfl ?_
    rintro _ _ ⟨rfl, rfl⟩
    refine wl_t (t_buildSl1 rfl rfl (fun _ => rfl) (fun _ => rfl) rfl rfl) rfl ?_
    rintro _ _ ⟨b47, rfl, rfl⟩
    refine wl_t (t_mark rfl Za rfl rfl) rfl ?_
    rintro _ _ ⟨rfl, rfl⟩
    refine ZS (fun w hi => HF (some ⟨b45, 0, none⟩) (some ⟨b47, 0, none⟩) w (rdC_rd (hi.get (show Has _ (rdC (some ⟨b45, 0, none⟩) 10 10 (ints .u8 someB)) from Zh))) (rdC_rd (hi.get (show Has _ (rdC (some ⟨b47, 0, none⟩) 4 4 (ints .u8 diskB)) from Zh)))) ?_
    rintro _ _ ⟨_, ⟨F, hF, rfl, rfl⟩, rfl⟩
    refine ZA ?_
    refine Zn (Zt (Zs (Zs (Zr (ZA ?_)))))
    refine ZA ?_
    refine Zn (Zt (wc_cond_f rfl (rfl) ?_))
    refine Zc (Zt ?_)
    refine wc_seq_mid (fun q : Bool × Nat => [(1, .int .i64 op), (6, .int .i64 (n : Int)), (7, .int .i64 (h : Int)), (8, .pointer (some ⟨F.bw, 0, none⟩)), (9, .pointer (some ⟨q.2, 0, none⟩))]) (fun q => row q.2 ((numS q.1 n [] []).cells (.slice none 0 0) (.slice none 0 0)) 26 :: togF F 2 ⟨none, 0, none, 0⟩ ⟨none, 0, none, 0⟩ ⟨M, T0⟩ d0) (fun _ => True) ?_ ?_
    ·refine Zr (ZA ?_)
     refine Zy (y_rem (Zv rfl) (Zv rfl) (by omega) (show _ = ((h % 2 : Nat) : Int) from by rw [Int.tmod_eq_emod_of_nonneg (by omega)]; omega)) ?_
     iterate 2 refine ZA ?_
     refine Zy (y_conv rfl rfl (Zv rfl) (u32_wrap_id _ (by omega) (by omega))) ?_
     refine ZA ?_
     refine ZN fun b9 => ?_
     refine ZM ?_
     refine Zn ?_
     refine q_midP ((⟨(((h % 2 : Nat) : Int) == 0), b9⟩ : Bool × Nat)) ?_ ?_ ?_
     ·trivial
     ·exact Zwk
     exact Zj
    rintro ⟨sup, b9⟩ -
    refine Zs (Zs (Zr (wl_nilc 22 1 ?_)))
    refine wl_pick (row b9 ((numS sup n [] []).cells (.slice none 0 0) (.slice none 0 0)) 26 :: sl .u32 22 none 0 0 [] :: togF F 2 ⟨none, 0, none, 0⟩ ⟨none, 0, none, 0⟩ ⟨M, T0⟩ d0) Zj ?_
    refine ZA ?_
    refine Zn (Zt (Zx ?_))
    refine wc_loop (fun q : Nat × Option Addr × Nat => [(1, .int .i64 op), (6, .int .i64 (n : Int)), (7, .int .i64 (h : Int)), (8, .pointer (some ⟨F.bw, 0, none⟩)), (9, .pointer (some ⟨b9, 0, none⟩)), (10, .int .i64 (q.1 : Int))]) (fun q => row b9 ((numS sup n [] []).cells (.slice q.2.1 q.1 q.2.2) (.slice none 0 0)) 26 :: sl .u32 22 q.2.1 q.1 q.2.2 (numD q.1) :: togF F 2 ⟨none, 0, none, 0⟩ ⟨none, 0, none, 0⟩ ⟨M, T0⟩ d0) (fun q => q.1 ≤ n) (fun q => 20 - q.1) ((⟨0, none, 0⟩ : Nat × Option Addr × Nat)) ?_ ?_ ?_ ?_
    ·exact Nat.zero_le _
    ·exact Zwk
    ·((repeat (first | exact List.Sublist.slnil | refine List.Sublist.cons_cons _ ?_ | refine List.Sublist.cons _ ?_)))
    rintro ⟨k, A, c⟩ hk
    dsimp only at hk ⊢
    refine Zs (Zs (Zr (ZA ?_)))
    iterate 2 refine ZA ?_
    refine Zn (Zt ?_)
    refine wc_cond _ rfl (fun hc18 => ?_) (fun hc18 => ?_)
    ·simp only [decide_eq_true_eq] at hc18
     refine Zc (Zt (Zs (Zx (Zr (ZFa 1 ?_)))))
     refine ZC ?_
     refine ZA ?_
     refine Zy (y_mul (Zv rfl) (Zv rfl) (show _ = ((k * 4 : Nat) : Int) from by rw [i64_wrap_id _ (by omega) (by omega)]; omega)) ?_
     refine Zy (y_conv rfl rfl (Zv rfl) (u32_wrap_id _ (by omega) (by omega))) ?_
     refine wl_t (t_buildSl1 rfl rfl (fun _ => rfl) (fun _ => rfl) rfl rfl) rfl ?_
     rintro _ _ ⟨b68, rfl, rfl⟩
     refine wl_t (t_append (e := 22) (sz := 1) (bytes := 4) rfl rfl Za rfl rfl (fun w hi => hi.rd (show Has _ (slv 22 1 (some ⟨b68, 0, none⟩) 1 1 (ints .u32 [((k * 4 : Nat) : Int)])) from Zh)) ints_one (by simp only [maxLen]; omega) (by omega)) rfl ?_
     rintro _ _ ⟨A2, c2, rfl, rfl⟩
     rw [ints_append, ← numD_succ]
     refine ZFa 1 ?_
     refine ZL ?_
     refine Zn (Zo (Zt (Zr (ZA ?_))))
     refine Zy (y_add (Zv rfl) (Zv rfl) Zl) ?_
     refine ZA ?_
     refine Zn ?_
     refine q_midP ((⟨k + 1, A2, c2⟩ : Nat × Option Addr × Nat)) ?_ ?_ ?_
     ·exact ⟨show k + 1 ≤ n by omega, show 20 - (k + 1) < 20 - k by omega⟩
     ·exact Zwk
     exact Zj
    simp only [decide_eq_false_iff_not] at hc18
    obtain rfl : n = k := (by omega)
    refine wc_exit ?_
    refine q_then_exit ?_
    refine q_then_exit ?_
    refine q_block_same rfl ?_
    refine Zt ?_
    refine wc_seq_mid (fun d : List Int => [(1, .int .i64 op), (6, .int .i64 (n : Int)), (7, .int .i64 (h : Int)), (8, .pointer (some ⟨F.bw, 0, none⟩)), (9, .pointer (some ⟨b9, 0, none⟩))]) (fun d => nuS b9 sup n A c (.slice none 0 0) :: sl .u32 22 A n c d :: togF F 2 ⟨none, 0, none, 0⟩ ⟨none, 0, none, 0⟩ ⟨M, T0⟩ d0) (fun d => d.length = n ∧ ∀ x, x ∈ d → u32 x) ?_ ?_
    ·refine Zs (Zr (ZA ?_))
     iterate 2 refine ZA ?_
     iterate 2 refine ZB ?_
     refine ZA ?_
     refine Zn (Zt ?_)
     refine wc_cond _ rfl (fun hc21 => ?_) (fun hc21 => ?_)
     ·simp only [Bool.and_eq_true, decide_eq_true_eq] at hc21
      refine wc_fact (fun w hi => slv_some (hi.get (show Has _ (sl .u32 22 A n c (numD n)) from Zh)) (by omega)) (fun hA => ?_)
      obtain ⟨bd, rfl⟩ := hA
      refine Zr (ZFa 1 ?_)
      refine ZC ?_
      refine ZA ?_
      refine Zy (y_sub (Zv rfl) (Zv rfl) (show _ = ((n - 1 : Nat) : Int) from by rw [i64_wrap_id _ (by omega) (by omega)]; omega)) ?_
      refine ZA ?_
      refine Zy (y_mul (Zv rfl) (Zv rfl) (show _ = ((n * 4 : Nat) : Int) from by rw [i64_wrap_id _ (by omega) (by omega)]; omega)) ?_
      refine Zy (y_conv rfl rfl (Zv rfl) (u32_wrap_id _ (by omega) (by omega))) ?_
      refine Zy (y_add (Zv rfl) (Zv rfl) (show _ = ((32768 + n * 4 : Nat) : Int) from by rw [u32_wrap_id _ (by omega) (by omega)]; omega)) ?_
      refine Zy (y_indexR (j := (n - 1)) (sz := 1) (r := (n - 1)) rfl (fun _ => rfl) (Zv rfl) (Zv rfl) (fun _ => by omega) (fun _ => by omega) (by omega)) ?_
      refine wl_t0 (t_storeS (fun _ => rfl) rfl rfl rfl Za (by omega)) ?_
      rintro _ _ ⟨rfl, rfl⟩
      rw [ints_set']
      refine Zn ?_
      refine q_midP (((numD n).set (n - 1) ((32768 + n * 4 : Nat) : Int))) ?_ ?_ ?_
      ·exact ⟨by rw [List.length_set, numD_len], set_u32 (numD_u32 (by omega)) _ (u32_nat (by omega))⟩
      ·exact Zwk
      exact Zj
     refine Zc ?_
     refine q_midP ((numD n)) ?_ ?_ ?_
     ·exact ⟨numD_len n, numD_u32 (by omega)⟩
     ·exact Zwk
     exact Zj
    rintro d ⟨hdl, hdu⟩
    have hm : n * (h % 3) ≤ 16 * 2 := Nat.mul_le_mul hn16 (by omega)
    have hm2 : n * (h % 3) ≤ n * 2 := Nat.mul_le_mul_left _ (by omega)
    have hmm : (n : Int) * ((h % 3 : Nat) : Int) = ((n * (h % 3) : Nat) : Int) := (Int.natCast_mul _ _).symm
    obtain ⟨p, hp⟩ : ∃ p, n * (h % 3) = p := ⟨_, rfl⟩
    rw [hp] at hm hm2 hmm
    obtain ⟨e, he⟩ : ∃ e, p / 2 = e := ⟨_, rfl⟩
    have hen : e ≤ n := (by omega)
    have hdi := hdl
    refine Zs (Zr (wl_t (t_buildSl1 rfl rfl (fun _ => rfl) (fun _ => rfl) rfl rfl) rfl ?_))
    rintro _ _ ⟨b86, rfl, rfl⟩
    refine ZFa 1 ?_
    refine ZC ?_
    iterate 2 refine ZA ?_
    refine Zy (y_rem (Zv rfl) (Zv rfl) (by omega) (show _ = ((h % 3 : Nat) : Int) from by rw [Int.tmod_eq_emod_of_nonneg (by omega)]; omega)) ?_
    refine Zy (y_mul (Zv rfl) (Zv rfl) (show _ = (p : Int) from by rw [hmm, i64_wrap_id _ (by omega) (by omega)])) ?_
    refine Zy (y_quo (Zv rfl) (Zv rfl) (by omega) (show _ = (e : Int) from by rw [Int.tdiv_eq_ediv_of_nonneg (by omega), i64_wrap_id _ (by omega) (by omega)]; omega)) ?_
    refine wl_fact (fun w hi => (hi.rd (show Has _ (sl .u32 22 A n c d) from Zh)).cap) (fun hcap => ?_)
    refine Zy (y_slice0 e rfl (fun _ => rfl) (Zv rfl) (Zv rfl) (fun _ => by first | rfl | omega) (fun _ => by omega)) ?_
    refine wl_t (t_append (e := 22) (sz := 1) (bytes := 4) rfl rfl Za rfl rfl (fun w hi => (rd_takeN (hi.rd (show Has _ (sl .u32 22 A n c d) from Zh)) hdl hen)) ints_one (by simp only [maxLen]; omega) (by omega)) rfl ?_
    rintro _ _ ⟨A3, c3, rfl, rfl⟩
    simp only [Nat.zero_add, List.nil_append]
    obtain ⟨rl, hrl⟩ : ∃ r, d.take e = r := ⟨_, rfl⟩
    have hru : ∀ x, x ∈ rl → u32 x := (fun x hx => hdu x (List.mem_of_mem_take (hrl ▸ hx)))
    have hre : rl.length = e := (by rw [← hrl, List.length_take]; omega)
    rw [hrl]
    clear hp hm hm2 hmm he hrl
    subst hdl
    subst hre
    refine ZFa 2 ?_
    refine ZL ?_
    refine Zn (Zt (Zs (Zr (ZA ?_))))
    refine ZA ?_
    refine ZN fun b11 => ?_
    refine ZM ?_
    refine Zn (Zt ?_)
    refine wc_seq_mid (fun nn : Int => [(1, .int .i64 op), (6, .int .i64 (d.length : Int)), (7, .int .i64 (h : Int)), (8, .pointer (some ⟨F.bw, 0, none⟩)), (9, .pointer (some ⟨b9, 0, none⟩)), (11, .pointer (some ⟨b11, 0, none⟩))]) (fun nn => row b9 ((numS sup d.length d rl).cells (.slice A d.length c) (.slice A3 rl.length c3)) 26 :: sl .u32 22 A d.length c d :: sl .u32 22 A3 rl.length c3 rl :: row b11 [.int .i64 op, .int .u32 nn] 33 :: togF F 2 ⟨none, 0, none, 0⟩ ⟨none, 0, none, 0⟩ ⟨M, T0⟩ d0) (fun nn => u32 nn) ?_ ?_
    ·refine Zs (Zr (ZA ?_))
     iterate 2 refine ZA ?_
     iterate 2 refine ZB ?_
     iterate 2 refine ZA ?_
     iterate 6 refine ZB ?_
     iterate 2 refine ZA ?_
     iterate 6 refine ZB ?_
     refine ZA ?_
     refine Zn (Zt ?_)
     refine wc_cond _ rfl (fun hc25 => ?_) (fun hc25 => ?_)
     ·refine Zr (ZA ?_)
      refine Zy (y_conv rfl rfl (Zv rfl) (u32_wrap_id _ (by omega) (by omega))) ?_
      refine ZFa 1 ?_
      refine ZL ?_
      refine Zn ?_
      refine q_midP ((d.length : Int)) ?_ ?_ ?_
      ·exact u32_nat (by omega)
      ·exact Zwk
      exact Zj
     refine Zc ?_
     refine q_midP ((0 : Int)) ?_ ?_ ?_
     ·exact u0
     ·exact Zwk
     exact Zj
    rintro nn hnu
    have hwf := numS_wf (sup := sup) hn16 hdu hru
    refine wc_seq_mid (fun q : (DAdr × DAdr) × Mmu × Dev => [(1, .int .i64 op), (6, .int .i64 (d.length : Int)), (7, .int .i64 (h : Int)), (8, .pointer (some ⟨F.bw, 0, none⟩)), (13, .bool true)]) (fun q => togF F 2 q.1.1 q.1.2 q.2.1 q.2.2) (fun q => MOk 2 q.2.1.m ∧ q.2.1.t.length = 16 ∧ q.2.2.ok ∧ q.2.2.out.length ≤ 1) ?_ ?_
    ·rcases Nat.lt_or_ge 15 d.length with h15 | h15
     ·refine Zr ?_
      have HD := fun w hin h => worldDo_wrong F 2 hF ⟨none, 0, none, 0⟩ ⟨none, 0, none, 0⟩ (numS sup d.length d rl) (wrong_of (.inl (show (15 : Int) < (d.length : Int) by omega))) hwf ⟨M, T0⟩ d0 hT0 hd0 (by omega) op nn hnu A A3 c c3 w hin h
      refine ZA ?_
      refine wl_loadRow Zh (fun _ => rfl) (fun _ => rfl) (Zv rfl) rfl ?_
      refine wl_loadRow Zh (fun _ => rfl) (fun _ => rfl) (Zv rfl) rfl ?_
      refine wl_t (t_callS (togF F 2 ⟨none, 0, none, 0⟩ ⟨none, 0, none, 0⟩ ⟨M, T0⟩ d0) rfl (fun _ _ => rfl) Zi (fun w hi hin => HD w hin (fun w' hk => hi.rdStKs Zi (show Has _ (sl .u32 22 A d.length c d) from Zh) (show Has _ (sl .u32 22 A3 rl.length c3 rl) from Zh) (show d.length * 4 ≤ _ by omega) (show rl.length * 4 ≤ _ by omega) hk))) rfl ?_
      rintro _ _ ⟨_, ⟨Y1, rfl, rfl⟩, rfl⟩
      iterate 3 refine ZA ?_
      refine ZN fun b12 => ?_
      refine ZM ?_
      refine ZA ?_
      refine Zn ?_
      refine q_midP ((⟨⟨Y1, ⟨none, 0, none, 0⟩⟩, ⟨M, T0⟩, d0⟩ : (DAdr × DAdr) × Mmu × Dev)) ?_ ?_ ?_
      ·exact ⟨hM0, hT0, hd0, show d0.out.length ≤ 1 by omega⟩
      ·exact Zwk
      exact Zj
     refine Zr ?_
     have hrt : (numS sup d.length d rl).right = true := St.mkr (show d.length ≤ 16 by omega) (show rl.length ≤ 16 by omega) (show (d.length : Int) ≤ 15 by omega)
     have HD := fun w hin h => worldDo_ok F 2 hF ⟨none, 0, none, 0⟩ ⟨none, 0, none, 0⟩ (numS sup d.length d rl) hrt hwf ⟨M, T0⟩ d0 hM0 hT0 hd0 (by omega) op nn hnu A A3 c c3 w hin h
     have hG := do_goes (n := 2) (op := op) (nn := nn) (U := ⟨M, T0⟩) (d := d0) hwf hrt hnu ⟨hM0.m, hT0⟩ hd0
     have hM1 := MOk.do (n := 2) (U := ⟨M, T0⟩) (d := d0) hM0 hd0.wf hwf.d op nn
     obtain ⟨⟨q, U1, d1⟩, hq⟩ : ∃ q, doTo 2 (numS sup d.length d rl) op nn ⟨M, T0⟩ d0 = q := ⟨_, rfl⟩
     rw [hq] at HD hG hM1
     obtain ⟨g1, g2, g3, g4, g5, g6⟩ := hG
     dsimp only at g1 g2 g3 g4 g5 g6 hM1
     obtain ⟨⟨pc', d2, r', fl', su', pg', ie', rt', ve', ep', ca', ad', es', ei', co', ha'⟩, tr', dv', pgs'⟩ := q
     refine ZA ?_
     refine wl_loadRow Zh (fun _ => rfl) (fun _ => rfl) (Zv rfl) rfl ?_
     refine wl_loadRow Zh (fun _ => rfl) (fun _ => rfl) (Zv rfl) rfl ?_
     refine wl_t (t_callS (togF F 2 ⟨none, 0, none, 0⟩ ⟨none, 0, none, 0⟩ ⟨M, T0⟩ d0) rfl (fun _ _ => rfl) Zi (fun w hi hin => HD w hin (fun w' hk => hi.rdStKs Zi (show Has _ (sl .u32 22 A d.length c d) from Zh) (show Has _ (sl .u32 22 A3 rl.length c3 rl) from Zh) (show d.length * 4 ≤ _ by omega) (show rl.length * 4 ≤ _ by omega) hk))) rfl ?_
     rintro _ _ ⟨_, ⟨X1, Y1, Z1, rfl, rfl⟩, rfl⟩
     iterate 3 refine ZA ?_
     refine ZN fun b12 => ?_
     refine ZM ?_
     refine ZA ?_
     refine Zn ?_
     refine q_midP ((⟨⟨Y1, Z1⟩, U1, d1⟩ : (DAdr × DAdr) × Mmu × Dev)) ?_ ?_ ?_
     ·exact ⟨hM1, g4.t, g5, show d1.out.length ≤ 1 by omega⟩
     ·exact Zwk
     exact Zj
    rintro ⟨⟨Y, Z⟩, U, dv⟩ ⟨hM, hT, hd, ho⟩
    dsimp only at hM hT hd ho ⊢
    have HA := fun w hin => alike_ok F Y Z U (U.m.turned.take 2) dv ⟨hF ▸ hM.m, hT⟩ (by omega) hd (by omega) w hin
    unfold bothF worldR at HA
    rw [hF] at HA
    refine Zs (Zr (ZA ?_))
    iterate 2 refine ZA ?_
    refine ZB ?_
    refine wl_tg (guard_no rfl rfl) rfl (t_callS ((worldRow F :: (ubF F.bu F.bb F.L F.D Y U dv ++ (refMF F.K 2 U.m.data (U.m.turned.take 2) ++ [refURow F.bx F.K.bm U.t] ++ refBF F.by_ F.K.bm F.bd Z dv)))) rfl (fun _ _ => rfl) Zi (fun w hi hin => HA w hin)) rfl ?_
    rintro _ _ ⟨_, ⟨rfl, rfl⟩, rfl⟩
    refine ZB ?_
    refine ZA ?_
    refine Zn (Zt (wc_cond_f rfl (rfl) ?_))
    refine Zc (Zo (Zt (Zr (ZA ?_))))
    refine Zy (y_add (Zv rfl) (Zv rfl) Zl) ?_
    refine ZA ?_
    refine Zn ?_
    refine q_mid (h + 1) ?_ ?_ ?_
    ·exact ⟨show h + 1 ≤ 4 by omega, show 10 - (h + 1) < 10 - h by omega⟩
    ·exact Zwk
    ((repeat (first | exact List.Sublist.slnil | refine List.Sublist.cons_cons _ ?_ | refine List.Sublist.cons _ ?_)))
   refine wc_exit ?_
   refine q_then_exit ?_
   refine q_then_exit ?_
   refine q_block_same rfl ?_
   refine Zo (Zt (Zr (ZA ?_)))
   refine Zy (y_add (Zv rfl) (Zv rfl) Zl) ?_
   refine ZA ?_
   refine Zn ?_
   refine q_mid (n + 1) ?_ ?_ ?_
   ·exact ⟨show n + 1 ≤ 17 by omega, show 20 - (n + 1) < 20 - n by omega⟩
   ·exact Zwk
   ((repeat (first | exact List.Sublist.slnil | refine List.Sublist.cons_cons _ ?_ | refine List.Sublist.cons _ ?_)))
  refine wc_exit ?_
  refine q_then_exit ?_
  refine q_then_exit ?_
  refine q_block_same rfl ?_
  refine Zo (Zt (Zr (ZA ?_)))
  refine Zy (y_add (Zv rfl) (Zv rfl) Zl) ?_
  refine ZA ?_
  refine Zn ?_
  refine q_mid (k + 1) ?_ ?_ ?_
  ·exact ⟨show k + 1 ≤ 73 by omega, show 80 - (k + 1) < 80 - k by omega⟩
  ·exact Zwk
  ((repeat (first | exact List.Sublist.slnil | refine List.Sublist.cons_cons _ ?_ | refine List.Sublist.cons _ ?_)))
 simp only [decide_eq_false_iff_not] at hc2
 refine wc_exit ?_
 refine q_then_exit ?_
 refine q_then_exit ?_
 refine q_block_same rfl ?_
 refine Zt (Zs (Zr (ZS (fun w hi => HG w) ?_)))
 rintro _ _ ⟨_, ⟨F, hF, rfl, rfl⟩, rfl⟩
 refine ZA ?_
 refine Zn (Zt (Zs (Zs (Zr (ZA ?_)))))
 refine ZA ?_
 refine Zn (Zt (wc_cond_f rfl (rfl) ?_))
 refine Zc (Zt (Zs (Zr (wl_t (t_make (bytes := 4) (n := 17) rfl rfl rfl rfl rfl rfl rfl (by omega) (by simp only [maxLen]; omega)) rfl ?_))))
 rintro _ _ ⟨b141, rfl, rfl⟩
 refine ZA ?_
 refine ZN fun b15 => ?_
 refine ZM ?_
 refine Zn (Zt ?_)
 refine wc_seq_mid (fun q : SAdr × (Option Addr × Nat) × Nat => [(15, .pointer (some ⟨b15, 0, none⟩)), (16, .pointer (some ⟨q.2.2, 0, none⟩))]) (fun q => row b15 (badS.cells (.slice (some ⟨b141, 0, none⟩) 17 17) (.slice none 0 0)) 26 :: sl .u32 22 (some ⟨b141, 0, none⟩) 17 17 badS.d :: (row q.2.2 (resCells ⟨badS, false, false, []⟩ q.1 q.2.1.1 q.2.1.2) 37 :: resF ⟨badS, false, false, []⟩ q.1 q.2.1.1 q.2.1.2)) (fun _ => True) ?_ ?_
 ·refine wc_draw ⟨fun j => List.elem j [10, 12], []⟩ Zk ?_
  refine ZI 0 ?_
  refine ZE 1 ?_
  refine ZE 2 ?_
  refine ZE 3 ?_
  refine ZFe 4 0 ?_
  refine ZG 5 ?_
  refine ZE 6 ?_
  refine ZE 7 ?_
  refine ZFe 8 1 ?_
  refine ZG 9 ?_
  refine wa_2 10 11 Zk ?_ ?_
  ·refine wi_t rfl rfl (t_callS (ubF F.bu F.bb F.L F.D ⟨none, 0, none, 0⟩ ⟨M1, T0⟩ d1) rfl (fun _ _ => rfl) Zi (fun w hi hin => badDo_ok F.bu F.bb F.L F.D ⟨M1, T0⟩ d1 hT0 hd1 ho1 (some ⟨b141, 0, none⟩) 17 w hin (fun w' hk => ⟨hi.rdKs Zi (show Has _ (sl .u32 22 (some ⟨b141, 0, none⟩) 17 17 badS.d) from Zh) hk, rdNil _ _, by decide, by decide⟩))) (fun _ _ _ _ _ _ _ h => by cases h) rfl ?_
   rintro _ _ ⟨_, ⟨X1, Y1, Ap, cp, rfl, rfl⟩, rfl⟩
   refine wa_1 11 Zk ?_
   refine ZP fun b16 => ?_
   refine wa_1 12 Zk ?_
   refine ZR ?_
   refine wa_done Zk ?_
   refine q_midP ((⟨X1, ⟨Ap, cp⟩, b16⟩ : SAdr × (Option Addr × Nat) × Nat)) ?_ ?_ ?_
   ·trivial
   ·exact Zwk
   exact Zj
  refine ZP fun b16 => ?_
  refine wa_1 10 Zk ?_
  refine wi_t rfl rfl (t_callS (ubF F.bu F.bb F.L F.D ⟨none, 0, none, 0⟩ ⟨M1, T0⟩ d1) rfl (fun _ _ => rfl) Zi (fun w hi hin => badDo_ok F.bu F.bb F.L F.D ⟨M1, T0⟩ d1 hT0 hd1 ho1 (some ⟨b141, 0, none⟩) 17 w hin (fun w' hk => ⟨hi.rdKs Zi (show Has _ (sl .u32 22 (some ⟨b141, 0, none⟩) 17 17 badS.d) from Zh) hk, rdNil _ _, by decide, by decide⟩))) (fun _ _ _ _ _ _ _ h => by cases h) rfl ?_
  rintro _ _ ⟨_, ⟨X1, Y1, Ap, cp, rfl, rfl⟩, rfl⟩
  refine wa_1 12 Zk ?_
  refine ZR ?_
  refine wa_done Zk ?_
  refine q_midP ((⟨X1, ⟨Ap, cp⟩, b16⟩ : SAdr × (Option Addr × Nat) × Nat)) ?_ ?_ ?_
  ·trivial
  ·exact Zwk
  exact Zj
 rintro ⟨⟨A1, c1, A2, c2⟩, ⟨Ap, cp⟩, b16⟩ -
 dsimp only
 refine Zs (Zr (wl_t (t_buildSl1 rfl rfl (fun _ => rfl) (fun _ => rfl) rfl rfl) rfl ?_))
 rintro _ _ ⟨b154, rfl, rfl⟩
 iterate 2 refine ZA ?_
 refine ZS (fun w hi => ldDo_ok (some ⟨b154, 0, none⟩) 1 w ⟨hi.rd (show Has _ (sl .u32 22 (some ⟨b154, 0, none⟩) 1 1 [8]) from Zh), rdNil _ _, by decide, by decide⟩) ?_
 rintro _ _ ⟨_, ⟨X2, Aq, cq, rfl, rfl⟩, rfl⟩
 refine ZN fun b17 => ?_
 refine ZM ?_
 refine Zn (Zt (Zs (Zr (ZFa 0 ?_))))
 refine wl_y (y_loadN (vs := badS.cells (.slice A1 17 c1) (.slice A2 0 c2)) (fun _ => rfl) (fun _ => rfl) (Zv rfl)) (row_cells Zh rfl) rfl ?_
 refine wl_loadRow Zh (fun _ => rfl) (fun _ => rfl) (Zv rfl) rfl ?_
 refine ZS (fun w hi => badSame_ok A1 A2 (some ⟨b141, 0, none⟩) none c1 c2 17 0 w ⟨hi.rd (show Has _ (sl .u32 22 A1 17 c1 badS.d) from Zh), hi.rd (show Has _ (sl .u32 22 A2 0 c2 []) from Zh), by decide, by decide⟩ ⟨hi.rd (show Has _ (sl .u32 22 (some ⟨b141, 0, none⟩) 17 17 badS.d) from Zh), rdNil _ _, by decide, by decide⟩) ?_
 rintro _ _ ⟨_, ⟨rfl, rfl⟩, rfl⟩
 refine ZA ?_
 refine ZFb 16 ?_
 refine ZD ?_
 refine ZB ?_
 iterate 2 refine ZA ?_
 refine ZFb 16 ?_
 refine ZD ?_
 iterate 2 refine ZA ?_
 refine ZFb 0 ?_
 refine ZFb 10 ?_
 refine ZD ?_
 refine ZB ?_
 iterate 2 refine ZA ?_
 refine ZFb 0 ?_
 refine ZFb 11 ?_
 refine ZD ?_
 refine ZB ?_
 iterate 2 refine ZA ?_
 refine wl_tg (guard_yes rfl rfl) rfl (t_call rfl (fun _ _ => rfl) (fun w hi => known_ok w)) rfl ?_
 rintro _ _ ⟨_, ⟨rfl, rfl⟩, rfl⟩
 iterate 2 refine ZA ?_
 refine Zn (Zt (Ze (ret1 (cs' := []) (.inl rfl) Zu rfl rfl ?_)))
 exact ⟨rfl, rfl⟩
end Go.Proofs.YtobjiljkfmcalaaGreat
