/- Joined: BkT BkU. -/
import Derived.Test.YthcpmpmbgbibfaaGreatDoorBkL
import Derived.Test.YthcpmpmbgbibfaaGreatDoorInkA
import Derived.Test.YthcpmpmbgbibfaaGreatDoorInkP
import Derived.Test.YthcpmpmbgbibfaaGreatDoorBkMS
/- What the harness makes of raw pieces: some bytes. -/
set_option linter.unusedSimpArgs false
set_option linter.unusedVariables false
set_option maxRecDepth 100000
namespace Go.Ink
open Go.RowKit
structure RawR where
 kd : Int
 n : Int
 v : Int
 at_ : Int
 B : Option Addr
 cb : Nat
 bs : List Int
def RawR.cells (a : RawR) : List Value := [.int .i64 a.kd, .int .i64 a.n, .int .u32 a.v, .int .u32 a.at_, .slice a.B a.bs.length a.cb]
theorem RawR.cells_len (a : RawR) : a.cells.length = 5 := rfl
structure RawR.ok (W : World) (a : RawR) : Prop where
 v : u32 a.v
 at_ : u32 a.at_
 rd : Rd W .u8 a.B a.bs.length a.cb a.bs
 bs : u8s a.bs
theorem u8s_app {a b : List Int} (h : u8s a) (h2 : u8s b) : u8s (a ++ b) := fun x hx => (List.mem_append.1 hx).elim (h x) (h2 x)
end Go.Ink
namespace Go.Proofs.YthcpmpmbgbibfaaGreatDoor
open Go.RowKit Go.Ink
attribute [local irreducible] OpY GuardIs

set_option maxRecDepth 100000 in
theorem open_raw {W : World} {es : List Value} (h : Arg Tryz.prog W 146 es) : ∃ a : RawR, es = a.cells ∧ a.ok W := by
 obtain ⟨hl, hf⟩ := h.struct rfl
 have hl : es.length = 5 := hl
 match es, hl with
 | [c0, c1, c2, c3, c4], _ =>
  have k0 : Arg Tryz.prog W _ [c0] := hf 0 _ rfl
  have k1 : Arg Tryz.prog W _ [c1] := hf 1 _ rfl
  have k2 : Arg Tryz.prog W _ [c2] := hf 2 _ rfl
  have k3 : Arg Tryz.prog W _ [c3] := hf 3 _ rfl
  have k4 : Arg Tryz.prog W _ [c4] := hf 4 _ rfl
  obtain ⟨n0, rfl, m0⟩ := arg1 rfl k0
  obtain ⟨n1, rfl, m1⟩ := arg1 rfl k1
  obtain ⟨n2, rfl, m2⟩ := arg1 rfl k2
  obtain ⟨n3, rfl, m3⟩ := arg1 rfl k3
  obtain ⟨A2, d2, x2, e2, r2, b2, z2⟩ := k4.ints (e := 5) (k := .u8) rfl rfl rfl
  obtain rfl : c4 = _ := by simpa using e2
  exact ⟨⟨n0, n1, n2, n3, A2, d2, x2⟩, rfl, ⟨wf_u32 m2, wf_u32 m3, r2, fun x hx => wf_u8 (z2 x hx)⟩⟩
set_option maxRecDepth 100000 in
theorem open_raws {W : World} {v : Value} (h : ArgV Tryz.prog W 22 v) : ∃ (A : Option Addr) (c : Nat) (l : List RawR), v = .slice A l.length c ∧ RdV W 5 A l.length c (l.flatMap RawR.cells) ∧ ∀ a, a ∈ l → a.ok W := by
 obtain ⟨A, c, xs, h1, h2, h3, h4⟩ := ArgV.rows (e := 146) rfl rfl RawR.cells_len ⟨0, 0, 0, 0, none, 0, []⟩ (fun es he => open_raw he) h
 exact ⟨A, c, xs, h1, h2, h3⟩
theorem code_ex (A : Option Addr) (c : Nat) (l : List (Int × Int)) (hl : l.length ≤ 3) (w : World) (h : RdV w 2 A l.length c (l.flatMap insCells)) : Ctr Tryz.prog 41 [.slice A l.length c] w [] (fun v cs => ∃ A' c' E, (u8s E ∧ E.length ≤ 15) ∧ v = .slice A' E.length c' ∧ cs = [sl .u8 5 A' E.length c' E]) :=
 (code_ok A c l (by omega) w h).mono (fun v cs ⟨A', c', h1, h2⟩ => ⟨A', c', codeOf l, ⟨codeTo_u8 _ _, Nat.le_trans (codeTo_len _ _) (by omega)⟩, h1, h2⟩)
set_option maxHeartbeats 4000000 in
theorem pieces_ok (A : Option Addr) (c : Nat) (l : List RawR) (w : World) (h : RdV w 5 A l.length c (l.flatMap RawR.cells)) (hl : ∀ a, a ∈ l → a.ok w) :
  Ctr Tryz.prog 28 [.slice A l.length c, .int .i64 60] w [] (fun v cs => ∃ A' c' E, (u8s E ∧ E.length ≤ 900) ∧ v = .slice A' E.length c' ∧ cs = [sl .u8 5 A' E.length c' E]) := by
 have hlm : l.length ≤ maxLen := Nat.le_trans h.cap h.max
 simp only [maxLen] at hlm
 refine fn_ctr Tryz.func28 rfl Tryz.ntmps28 rfl (Inv.start w) ?_
 refine Zs (Zr (ZA ?_))
 refine Zn (Zt (Zs (Zr (ZA ?_))))
 refine Zn (Zt (Zs (Zs (Zr (wl_nilc 5 1 ?_)))))
 refine ZA ?_
 refine Zn (Zt (Zx ?_))
 refine wc_loop (fun q : Nat × Option Addr × Nat × List Int => [(0, .slice A l.length c), (1, .int .i64 60), (5, .slice q.2.1 q.2.2.2.length q.2.2.1), (6, .int .i64 (q.1 : Int))]) (fun q => [sl .u8 5 q.2.1 q.2.2.2.length q.2.2.1 q.2.2.2]) (fun q => q.1 ≤ 60 ∧ u8s q.2.2.2 ∧ q.2.2.2.length ≤ 15 * q.1) (fun q => 60 - q.1) (⟨0, none, 0, []⟩) ?_ ?_ ?_ ?_
 ·exact ⟨Nat.zero_le _, fun x hx => (by cases hx), Nat.le_refl _⟩
 ·exact Zwk
 ·((repeat (first | exact List.Sublist.slnil | refine List.Sublist.cons_cons _ ?_ | refine List.Sublist.cons _ ?_)))
 rintro ⟨i, A1, c1, o⟩ ⟨hi60, ho1, ho2⟩
 dsimp only at hi60 ho1 ho2 ⊢
 refine Zs (Zs (Zr (ZA ?_)))
 iterate 4 refine ZA ?_
 iterate 3 refine ZB ?_
 refine ZA ?_
 refine Zn (Zt ?_)
 refine wc_cond _ rfl (fun hc3 => ?_) (fun hc3 => ?_)
 ·have hil : i < l.length ∧ i < 60 := (by revert hc3; cases h1 : decide ((i : Int) < (l.length : Int)) <;> cases h2 : decide ((i : Int) < 60) <;> simp_all <;> omega)
  obtain ⟨ad, rfl⟩ := h.some_ (by omega)
  have hla : l[i]? = some (l[i]'hil.1) := List.getElem?_eq_getElem hil.1
  have hok := hl _ (List.getElem_mem hil.1)
  obtain ⟨r, hr⟩ : ∃ r, l[i]'hil.1 = r := ⟨_, rfl⟩
  rw [hr] at hla hok
  obtain ⟨kd, n, v, at_, B, cb, bs⟩ := r
  obtain ⟨hv, hat, hrd, hbs⟩ := hok
  dsimp only at hv hat hrd hbs
  obtain ⟨v, rfl⟩ : ∃ m : Nat, v = m := Int.eq_ofNat_of_zero_le hv.1
  obtain ⟨a, rfl⟩ : ∃ m : Nat, at_ = m := Int.eq_ofNat_of_zero_le hat.1
  have hv2 := hv.2
  have ha2 := hat.2
  obtain ⟨km, hkm⟩ : ∃ k, within kd 0 1000 = k := ⟨_, rfl⟩
  have HW := fun w => hkm ▸ within_ok kd 0 1000 w (by decide) (by decide) (by decide)
  have hb9 := rd_take hrd 9
  have hE2 : (bs.take 9).length ≤ 9 := (by rw [List.length_take]; omega)
  have hE1 : u8s (bs.take 9) := (fun x hx => hbs x (List.mem_of_mem_take hx))
  have HCut := fun w => cut_ok B cb bs 9 w hrd.cap
  obtain ⟨E, hb9e⟩ : ∃ y, bs.take 9 = y := ⟨_, rfl⟩
  rw [hb9e] at hb9 hE2 hE1 HCut
  have HI1 := fun w => instr_ok n a hat w
  have HI2 := fun w => instr_ok n v hv w
  obtain ⟨sop, hs⟩ : ∃ y, ([49, 51, 53] : List Int)[v % 3]? = some y := ⟨_, List.getElem?_eq_getElem (show v % 3 < 3 by omega)⟩
  obtain ⟨lop, hlo⟩ : ∃ y, ([48, 50, 52] : List Int)[v % 3]? = some y := ⟨_, List.getElem?_eq_getElem (show v % 3 < 3 by omega)⟩
  refine Zc (Zt (Zs (Zx (Zs (Zr (ZA ?_))))))
  refine ZA ?_
  refine Zy (y_index (j := i)  rfl (fun _ => rfl) (Zv rfl) (Zv rfl)  (fun _ => by omega) (fun _ => by omega)) ?_
  refine wl_y (y_loadN (vs := [.int .i64 kd, .int .i64 n, .int .u32 (v : Int), .int .u32 (a : Int), .slice B bs.length cb]) (fun _ => rfl) (fun _ => rfl) (Zv rfl)) (rdR_cells h (fun j v hj => flat_at RawR.cells_len (i := j) hla hj)) rfl ?_
  refine ZN fun b7 => ?_
  refine ZM ?_
  refine Zn (Zt (Zs (Zr (ZFa 2 ?_))))
  refine ZC ?_
  refine ZA ?_
  refine ZN fun b8 => ?_
  refine ZM ?_
  refine Zn (Zt (Zs (Zr (ZFa 3 ?_))))
  refine ZC ?_
  refine Zy (y_rem (Zv rfl) (Zv rfl) (by omega) (show _ = ((a % 300 : Nat) : Int) from by rw [Int.tmod_eq_emod_of_nonneg (by omega)]; omega)) ?_
  refine ZA ?_
  refine ZN fun b9 => ?_
  refine ZM ?_
  refine Zn (Zt (Zs (Zr (ZFa 0 ?_))))
  refine ZC ?_
  refine ZS (fun w hi => HW w) ?_
  rintro _ _ ⟨_, ⟨rfl, rfl⟩, rfl⟩
  refine Zy (y_rem (Zv rfl) (Zv rfl) (by omega) (by first | exact IntWalk.rem_in _ _ (by omega) | exact rfl)) ?_
  refine Zn (Zt (Zx (Zs (Zr (ZA ?_)))))
  refine ZA ?_
  refine Zn (Zt ?_)
  refine wc_cond _ rfl (fun hc10 => ?_) (fun hc10 => ?_)
  ·refine ws_draw ⟨fun j => List.elem j [12], []⟩ [(0, 0), (1, 4), (2, 4), (4, 0), (5, 4), (6, 0), (3, 2), (7, 0), (8, 4), (9, 0), (10, 2), (11, 2), (12, 2), (13, 0)] Zk Zk ?_
   refine ws_yn rfl (y_move (Zv rfl)) rfl ?_
   refine ws_loadRow4 rfl Zh (fun _ => rfl) (fun _ => rfl) (Zv rfl) rfl ?_
   refine ws_loadRow4 rfl Zh (fun _ => rfl) (fun _ => rfl) (Zv rfl) rfl ?_
   refine ws_yn rfl (y_field 2 rfl (Zv rfl) Zf) rfl ?_
   refine ws_ln4 rfl (y_load (fun _ => rfl) (Zv rfl)) (row_cell Zh rfl) rfl ?_
   refine ws_yn rfl (y_rem (Zv rfl) (Zv rfl) (by omega) (show _ = ((v % 3 : Nat) : Int) from by rw [Int.tmod_eq_emod_of_nonneg (by omega)]; omega)) rfl ?_
   refine ws_1 rfl ?_
   refine wsi_t rfl rfl (t_buildSl1 rfl rfl (fun _ => rfl) (fun _ => rfl) rfl rfl) (fun _ _ _ _ _ _ _ h => by cases h) rfl ?_
   rintro _ _ ⟨b50, rfl, rfl⟩
   refine ws_yn rfl (y_indexR (j := (v % 3)) (sz := 1) (r := (v % 3)) rfl (fun _ => rfl) (Zv rfl) (Zv rfl) (fun _ => by omega) (fun _ => by omega) (by omega)) rfl ?_
   refine ws_ln4 rfl (y_load (fun _ => rfl) (Zv rfl)) (sl_cellR Zh (ints_at (l := [49, 51, 53]) hs)) rfl ?_
   refine ws_yn rfl (y_build rfl rfl (fun _ => rfl) rfl rfl rfl Zb) rfl ?_
   refine ws_1 rfl ?_
   refine wsi_t rfl rfl (t_buildSl rfl rfl (fun _ => rfl) (fun _ => rfl) rfl rfl rfl) (fun _ _ _ _ _ _ _ h => by cases h) rfl ?_
   rintro _ _ ⟨b57, rfl, rfl⟩
   refine ws_1 rfl ?_
   refine wsi_t rfl rfl (t_call rfl (fun _ _ => rfl) (fun w hi => code_ex (some ⟨b57, 0, none⟩) 3 [(2, (v : Int)), (2, ((a % 300 : Nat) : Int)), (sop, 0)] (by simp) w (hi.rd (show Has _ (slv 79 2 (some ⟨b57, 0, none⟩) 3 3 ([(2, (v : Int)), (2, ((a % 300 : Nat) : Int)), (sop, 0)].flatMap insCells)) from Zh)))) (fun _ _ _ _ _ _ _ h => by cases h) rfl ?_
   rintro _ _ ⟨_, ⟨A2, c2, E, ⟨hE1, hE2⟩, rfl, rfl⟩, rfl⟩
   refine ws_1 rfl ?_
   refine wsi_t rfl rfl (t_append (e := 5) (sz := 1) (bytes := 1) rfl rfl Za rfl rfl (fun w hi => hi.rd (show Has _ (sl .u8 5 A2 E.length c2 E) from Zh)) ints_one (by simp only [maxLen]; omega) (by omega)) (fun _ _ _ _ _ _ _ h => by cases h) rfl ?_
   rintro _ _ ⟨A3, c3, rfl, rfl⟩
   rw [ints_append, ← List.length_append]
   refine ws_yn rfl (y_assign (Zv rfl)) rfl ?_
   refine ws_done ?_
   refine Zo (Zo (Zt (Zr (ZA ?_))))
   refine Zy (y_add (Zv rfl) (Zv rfl) Zl) ?_
   refine ZA ?_
   refine Zn ?_
   refine q_midP ((⟨i + 1, A3, c3, o ++ E⟩ : Nat × Option Addr × Nat × List Int)) ?_ ?_ ?_
   ·exact ⟨⟨show i + 1 ≤ 60 by omega, u8s_app ho1 hE1, show (o ++ E).length ≤ 15 * (i + 1) by rw [List.length_append]; omega⟩, show 60 - (i + 1) < 60 - i by omega⟩
   ·exact Zwk
   exact Zj
  refine Zs (Zr (ZA ?_))
  refine ZA ?_
  refine Zn (Zt ?_)
  refine wc_cond _ rfl (fun hc12 => ?_) (fun hc12 => ?_)
  ·refine ws_draw ⟨fun j => List.elem j [11], []⟩ [(0, 0), (1, 4), (3, 0), (4, 4), (5, 0), (2, 2), (6, 0), (7, 4), (8, 0), (9, 2), (10, 2), (11, 2), (12, 0)] Zk Zk ?_
   refine ws_yn rfl (y_move (Zv rfl)) rfl ?_
   refine ws_loadRow4 rfl Zh (fun _ => rfl) (fun _ => rfl) (Zv rfl) rfl ?_
   refine ws_yn rfl (y_field 2 rfl (Zv rfl) Zf) rfl ?_
   refine ws_ln4 rfl (y_load (fun _ => rfl) (Zv rfl)) (row_cell Zh rfl) rfl ?_
   refine ws_yn rfl (y_rem (Zv rfl) (Zv rfl) (by omega) (show _ = ((v % 3 : Nat) : Int) from by rw [Int.tmod_eq_emod_of_nonneg (by omega)]; omega)) rfl ?_
   refine ws_1 rfl ?_
   refine wsi_t rfl rfl (t_buildSl1 rfl rfl (fun _ => rfl) (fun _ => rfl) rfl rfl) (fun _ _ _ _ _ _ _ h => by cases h) rfl ?_
   rintro _ _ ⟨b64, rfl, rfl⟩
   refine ws_yn rfl (y_indexR (j := (v % 3)) (sz := 1) (r := (v % 3)) rfl (fun _ => rfl) (Zv rfl) (Zv rfl) (fun _ => by omega) (fun _ => by omega) (by omega)) rfl ?_
   refine ws_ln4 rfl (y_load (fun _ => rfl) (Zv rfl)) (sl_cellR Zh (ints_at (l := [48, 50, 52]) hlo)) rfl ?_
   refine ws_yn rfl (y_build rfl rfl (fun _ => rfl) rfl rfl rfl Zb) rfl ?_
   refine ws_1 rfl ?_
   refine wsi_t rfl rfl (t_buildSl rfl rfl (fun _ => rfl) (fun _ => rfl) rfl rfl rfl) (fun _ _ _ _ _ _ _ h => by cases h) rfl ?_
   rintro _ _ ⟨b71, rfl, rfl⟩
   refine ws_1 rfl ?_
   refine wsi_t rfl rfl (t_call rfl (fun _ _ => rfl) (fun w hi => code_ex (some ⟨b71, 0, none⟩) 2 [(2, ((a % 300 : Nat) : Int)), (lop, 0)] (by simp) w (hi.rd (show Has _ (slv 79 2 (some ⟨b71, 0, none⟩) 2 2 ([(2, ((a % 300 : Nat) : Int)), (lop, 0)].flatMap insCells)) from Zh)))) (fun _ _ _ _ _ _ _ h => by cases h) rfl ?_
   rintro _ _ ⟨_, ⟨A2, c2, E, ⟨hE1, hE2⟩, rfl, rfl⟩, rfl⟩
   refine ws_1 rfl ?_
   refine wsi_t rfl rfl (t_append (e := 5) (sz := 1) (bytes := 1) rfl rfl Za rfl rfl (fun w hi => hi.rd (show Has _ (sl .u8 5 A2 E.length c2 E) from Zh)) ints_one (by simp only [maxLen]; omega) (by omega)) (fun _ _ _ _ _ _ _ h => by cases h) rfl ?_
   rintro _ _ ⟨A3, c3, rfl, rfl⟩
   rw [ints_append, ← List.length_append]
   refine ws_yn rfl (y_assign (Zv rfl)) rfl ?_
   refine ws_done ?_
   refine Zo (Zo (Zt (Zr (ZA ?_))))
   refine Zy (y_add (Zv rfl) (Zv rfl) Zl) ?_
   refine ZA ?_
   refine Zn ?_
   refine q_midP ((⟨i + 1, A3, c3, o ++ E⟩ : Nat × Option Addr × Nat × List Int)) ?_ ?_ ?_
   ·exact ⟨⟨show i + 1 ≤ 60 by omega, u8s_app ho1 hE1, show (o ++ E).length ≤ 15 * (i + 1) by rw [List.length_append]; omega⟩, show 60 - (i + 1) < 60 - i by omega⟩
   ·exact Zwk
   exact Zj
  refine Zs (Zr (ZA ?_))
  refine ZA ?_
  refine Zn (Zt ?_)
  refine wc_cond _ rfl (fun hc14 => ?_) (fun hc14 => ?_)
  ·refine Zs (Zr (ZFa 3 ?_))
   refine ZC ?_
   refine Zy (y_rem (Zv rfl) (Zv rfl) (by omega) (show _ = ((a % 13 : Nat) : Int) from by rw [Int.tmod_eq_emod_of_nonneg (by omega)]; omega)) ?_
   refine Zy (y_mul (Zv rfl) (Zv rfl) (show _ = ((a % 13 * 4 : Nat) : Int) from by rw [u32_wrap_id _ (by omega) (by omega)]; omega)) ?_
   refine Zy (y_add (Zv rfl) (Zv rfl) (show _ = ((32768 + a % 13 * 4 : Nat) : Int) from by rw [u32_wrap_id _ (by omega) (by omega)]; omega)) ?_
   refine ZFa 1 ?_
   refine ZL ?_
   refine Zn (Zt (Zs (Zr (ZFa 2 ?_))))
   refine ZC ?_
   refine Zy (y_rem (Zv rfl) (Zv rfl) (by omega) (show _ = ((v % 3 : Nat) : Int) from by rw [Int.tmod_eq_emod_of_nonneg (by omega)]; omega)) ?_
   refine ZA ?_
   refine Zn (Zt ?_)
   refine wc_cond _ rfl (fun hc16 => ?_) (fun hc16 => ?_)
   ·refine Zr (ZA ?_)
    refine wl_loadRow Zh (fun _ => rfl) (fun _ => rfl) (Zv rfl) rfl ?_
    refine ZA ?_
    refine wl_t (t_buildSl rfl rfl (fun _ => rfl) (fun _ => rfl) rfl rfl rfl) rfl ?_
    rintro _ _ ⟨b89, rfl, rfl⟩
    refine ZS (fun w hi => code_ex (some ⟨b89, 0, none⟩) 2 [(2, ((32768 + a % 13 * 4 : Nat) : Int)), (48, 0)] (by simp) w (hi.rd (show Has _ (slv 79 2 (some ⟨b89, 0, none⟩) 2 2 ([(2, ((32768 + a % 13 * 4 : Nat) : Int)), (48, 0)].flatMap insCells)) from Zh))) ?_
    rintro _ _ ⟨_, ⟨A2, c2, E, ⟨hE1, hE2⟩, rfl, rfl⟩, rfl⟩
    refine wl_t (t_append (e := 5) (sz := 1) (bytes := 1) rfl rfl Za rfl rfl (fun w hi => hi.rd (show Has _ (sl .u8 5 A2 E.length c2 E) from Zh)) ints_one (by simp only [maxLen]; omega) (by omega)) rfl ?_
    rintro _ _ ⟨A3, c3, rfl, rfl⟩
    rw [ints_append, ← List.length_append]
    refine ZA ?_
    refine Zn (Zo (Zo (Zt (Zr (ZA ?_)))))
    refine Zy (y_add (Zv rfl) (Zv rfl) Zl) ?_
    refine ZA ?_
    refine Zn ?_
    refine q_midP ((⟨i + 1, A3, c3, o ++ E⟩ : Nat × Option Addr × Nat × List Int)) ?_ ?_ ?_
    ·exact ⟨⟨show i + 1 ≤ 60 by omega, u8s_app ho1 hE1, show (o ++ E).length ≤ 15 * (i + 1) by rw [List.length_append]; omega⟩, show 60 - (i + 1) < 60 - i by omega⟩
    ·exact Zwk
    exact Zj
   refine Zr (ZA ?_)
   refine ZFa 2 ?_
   refine ZC ?_
   refine Zy (y_rem (Zv rfl) (Zv rfl) (by omega) (show _ = ((v % 256 : Nat) : Int) from by rw [Int.tmod_eq_emod_of_nonneg (by omega)]; omega)) ?_
   refine ZA ?_
   refine wl_loadRow Zh (fun _ => rfl) (fun _ => rfl) (Zv rfl) rfl ?_
   refine ZA ?_
   refine wl_t (t_buildSl rfl rfl (fun _ => rfl) (fun _ => rfl) rfl rfl rfl) rfl ?_
   rintro _ _ ⟨b99, rfl, rfl⟩
   refine ZS (fun w hi => code_ex (some ⟨b99, 0, none⟩) 3 [(1, ((v % 256 : Nat) : Int)), (2, ((32768 + a % 13 * 4 : Nat) : Int)), (49, 0)] (by simp) w (hi.rd (show Has _ (slv 79 2 (some ⟨b99, 0, none⟩) 3 3 ([(1, ((v % 256 : Nat) : Int)), (2, ((32768 + a % 13 * 4 : Nat) : Int)), (49, 0)].flatMap insCells)) from Zh))) ?_
   rintro _ _ ⟨_, ⟨A2, c2, E, ⟨hE1, hE2⟩, rfl, rfl⟩, rfl⟩
   refine wl_t (t_append (e := 5) (sz := 1) (bytes := 1) rfl rfl Za rfl rfl (fun w hi => hi.rd (show Has _ (sl .u8 5 A2 E.length c2 E) from Zh)) ints_one (by simp only [maxLen]; omega) (by omega)) rfl ?_
   rintro _ _ ⟨A3, c3, rfl, rfl⟩
   rw [ints_append, ← List.length_append]
   refine ZA ?_
   refine Zn (Zo (Zo (Zt (Zr (ZA ?_)))))
   refine Zy (y_add (Zv rfl) (Zv rfl) Zl) ?_
   refine ZA ?_
   refine Zn ?_
   refine q_midP ((⟨i + 1, A3, c3, o ++ E⟩ : Nat × Option Addr × Nat × List Int)) ?_ ?_ ?_
   ·exact ⟨⟨show i + 1 ≤ 60 by omega, u8s_app ho1 hE1, show (o ++ E).length ≤ 15 * (i + 1) by rw [List.length_append]; omega⟩, show 60 - (i + 1) < 60 - i by omega⟩
   ·exact Zwk
   exact Zj
  refine Zs (Zr (ZA ?_))
  refine ZA ?_
  refine Zn (Zt ?_)
  refine wc_cond _ rfl (fun hc19 => ?_) (fun hc19 => ?_)
  ·refine Zr (ZA ?_)
   refine ZFa 2 ?_
   refine ZC ?_
   refine Zy (y_rem (Zv rfl) (Zv rfl) (by omega) (show _ = ((v % 256 : Nat) : Int) from by rw [Int.tmod_eq_emod_of_nonneg (by omega)]; omega)) ?_
   refine ZA ?_
   refine ZFa 3 ?_
   refine ZC ?_
   refine Zy (y_rem (Zv rfl) (Zv rfl) (by omega) (show _ = ((a % 12 : Nat) : Int) from by rw [Int.tmod_eq_emod_of_nonneg (by omega)]; omega)) ?_
   refine ZA ?_
   refine wl_t (t_buildSl rfl rfl (fun _ => rfl) (fun _ => rfl) rfl rfl rfl) rfl ?_
   rintro _ _ ⟨b113, rfl, rfl⟩
   refine ZS (fun w hi => code_ex (some ⟨b113, 0, none⟩) 2 [(1, ((v % 256 : Nat) : Int)), (67, ((a % 12 : Nat) : Int))] (by simp) w (hi.rd (show Has _ (slv 79 2 (some ⟨b113, 0, none⟩) 2 2 ([(1, ((v % 256 : Nat) : Int)), (67, ((a % 12 : Nat) : Int))].flatMap insCells)) from Zh))) ?_
   rintro _ _ ⟨_, ⟨A2, c2, E, ⟨hE1, hE2⟩, rfl, rfl⟩, rfl⟩
   refine wl_t (t_append (e := 5) (sz := 1) (bytes := 1) rfl rfl Za rfl rfl (fun w hi => hi.rd (show Has _ (sl .u8 5 A2 E.length c2 E) from Zh)) ints_one (by simp only [maxLen]; omega) (by omega)) rfl ?_
   rintro _ _ ⟨A3, c3, rfl, rfl⟩
   rw [ints_append, ← List.length_append]
   refine ZA ?_
   refine Zn (Zo (Zo (Zt (Zr (ZA ?_)))))
   refine Zy (y_add (Zv rfl) (Zv rfl) Zl) ?_
   refine ZA ?_
   refine Zn ?_
   refine q_midP ((⟨i + 1, A3, c3, o ++ E⟩ : Nat × Option Addr × Nat × List Int)) ?_ ?_ ?_
   ·exact ⟨⟨show i + 1 ≤ 60 by omega, u8s_app ho1 hE1, show (o ++ E).length ≤ 15 * (i + 1) by rw [List.length_append]; omega⟩, show 60 - (i + 1) < 60 - i by omega⟩
   ·exact Zwk
   exact Zj
  refine Zs (Zr (ZA ?_))
  refine ZA ?_
  refine Zn (Zt ?_)
  refine wc_cond _ rfl (fun hc21 => ?_) (fun hc21 => ?_)
  ·refine Zr (ZA ?_)
   refine ZFa 4 ?_
   refine ZC ?_
   refine ZS (fun w hi => HCut w) ?_
   rintro _ _ ⟨_, ⟨rfl, rfl⟩, rfl⟩
   refine wl_t (t_append (e := 5) (sz := 1) (bytes := 1) rfl rfl Za rfl rfl (fun w hi => hb9.oldN hi) ints_one (by simp only [maxLen]; omega) (by omega)) rfl ?_
   rintro _ _ ⟨A3, c3, rfl, rfl⟩
   rw [ints_append, ← List.length_append]
   refine ZA ?_
   refine Zn (Zo (Zo (Zt (Zr (ZA ?_)))))
   refine Zy (y_add (Zv rfl) (Zv rfl) Zl) ?_
   refine ZA ?_
   refine Zn ?_
   refine q_midP ((⟨i + 1, A3, c3, o ++ E⟩ : Nat × Option Addr × Nat × List Int)) ?_ ?_ ?_
   ·exact ⟨⟨show i + 1 ≤ 60 by omega, u8s_app ho1 hE1, show (o ++ E).length ≤ 15 * (i + 1) by rw [List.length_append]; omega⟩, show 60 - (i + 1) < 60 - i by omega⟩
   ·exact Zwk
   exact Zj
  refine Zs (Zr (ZA ?_))
  refine ZA ?_
  refine Zn (Zt ?_)
  refine wc_cond _ rfl (fun hc23 => ?_) (fun hc23 => ?_)
  ·refine ws_draw ⟨fun j => List.elem j [12], []⟩ [(0, 0), (1, 0), (2, 4), (3, 0), (4, 0), (5, 0), (6, 4), (7, 0), (8, 4), (9, 2), (10, 2), (11, 2), (12, 2), (13, 0)] Zk Zk ?_
   refine ws_yn rfl (y_move (Zv rfl)) rfl ?_
   refine ws_yn rfl (y_field 2 rfl (Zv rfl) Zf) rfl ?_
   refine ws_ln4 rfl (y_load (fun _ => rfl) (Zv rfl)) (row_cell Zh rfl) rfl ?_
   refine ws_yn rfl (y_rem (Zv rfl) (Zv rfl) (by omega) (show _ = ((v % 256 : Nat) : Int) from by rw [Int.tmod_eq_emod_of_nonneg (by omega)]; omega)) rfl ?_
   refine ws_yn rfl (y_build rfl rfl (fun _ => rfl) rfl rfl rfl Zb) rfl ?_
   refine ws_yn rfl (y_field 1 rfl (Zv rfl) Zf) rfl ?_
   refine ws_ln4 rfl (y_load (fun _ => rfl) (Zv rfl)) (row_cell Zh rfl) rfl ?_
   refine ws_yn rfl (y_field 3 rfl (Zv rfl) Zf) rfl ?_
   refine ws_ln4 rfl (y_load (fun _ => rfl) (Zv rfl)) (row_cell Zh rfl) rfl ?_
   refine ws_1 rfl ?_
   refine wsi_t rfl rfl (t_call rfl (fun _ _ => rfl) (fun w hi => HI1 w)) (fun _ _ _ _ _ _ _ h => by cases h) rfl ?_
   rintro _ _ ⟨_, ⟨⟨op, nn, rfl, hnu, -⟩, rfl⟩, rfl⟩
   refine ws_1 rfl ?_
   refine wsi_t rfl rfl (t_buildSl rfl rfl (fun _ => rfl) (fun _ => rfl) rfl rfl rfl) (fun _ _ _ _ _ _ _ h => by cases h) rfl ?_
   rintro _ _ ⟨b135, rfl, rfl⟩
   refine ws_1 rfl ?_
   refine wsi_t rfl rfl (t_call rfl (fun _ _ => rfl) (fun w hi => code_ex (some ⟨b135, 0, none⟩) 2 [(1, ((v % 256 : Nat) : Int)), (op, nn)] (by simp) w (hi.rd (show Has _ (slv 79 2 (some ⟨b135, 0, none⟩) 2 2 ([(1, ((v % 256 : Nat) : Int)), (op, nn)].flatMap insCells)) from Zh)))) (fun _ _ _ _ _ _ _ h => by cases h) rfl ?_
   rintro _ _ ⟨_, ⟨A2, c2, E, ⟨hE1, hE2⟩, rfl, rfl⟩, rfl⟩
   refine ws_1 rfl ?_
   refine wsi_t rfl rfl (t_append (e := 5) (sz := 1) (bytes := 1) rfl rfl Za rfl rfl (fun w hi => hi.rd (show Has _ (sl .u8 5 A2 E.length c2 E) from Zh)) ints_one (by simp only [maxLen]; omega) (by omega)) (fun _ _ _ _ _ _ _ h => by cases h) rfl ?_
   rintro _ _ ⟨A3, c3, rfl, rfl⟩
   rw [ints_append, ← List.length_append]
   refine ws_yn rfl (y_assign (Zv rfl)) rfl ?_
   refine ws_done ?_
   refine Zo (Zo (Zt (Zr (ZA ?_))))
   refine Zy (y_add (Zv rfl) (Zv rfl) Zl) ?_
   refine ZA ?_
   refine Zn ?_
   refine q_midP ((⟨i + 1, A3, c3, o ++ E⟩ : Nat × Option Addr × Nat × List Int)) ?_ ?_ ?_
   ·exact ⟨⟨show i + 1 ≤ 60 by omega, u8s_app ho1 hE1, show (o ++ E).length ≤ 15 * (i + 1) by rw [List.length_append]; omega⟩, show 60 - (i + 1) < 60 - i by omega⟩
   ·exact Zwk
   exact Zj
  refine Zr (ZA ?_)
  refine ZFa 1 ?_
  refine ZC ?_
  refine ZFa 2 ?_
  refine ZC ?_
  refine ZS (fun w hi => HI2 w) ?_
  rintro _ _ ⟨_, ⟨⟨op, nn, rfl, hnu, -⟩, rfl⟩, rfl⟩
  refine wl_t (t_buildSl rfl rfl (fun _ => rfl) (fun _ => rfl) rfl rfl rfl) rfl ?_
  rintro _ _ ⟨b42, rfl, rfl⟩
  refine ZS (fun w hi => code_ex (some ⟨b42, 0, none⟩) 1 [(op, nn)] (by simp) w (hi.rd (show Has _ (slv 79 2 (some ⟨b42, 0, none⟩) 1 1 ([(op, nn)].flatMap insCells)) from Zh))) ?_
  rintro _ _ ⟨_, ⟨A2, c2, E, ⟨hE1, hE2⟩, rfl, rfl⟩, rfl⟩
  refine wl_t (t_append (e := 5) (sz := 1) (bytes := 1) rfl rfl Za rfl rfl (fun w hi => hi.rd (show Has _ (sl .u8 5 A2 E.length c2 E) from Zh)) ints_one (by simp only [maxLen]; omega) (by omega)) rfl ?_
  rintro _ _ ⟨A3, c3, rfl, rfl⟩
  rw [ints_append, ← List.length_append]
  refine ZA ?_
  refine Zn (Zo (Zo (Zt (Zr (ZA ?_)))))
  refine Zy (y_add (Zv rfl) (Zv rfl) Zl) ?_
  refine ZA ?_
  refine Zn ?_
  refine q_midP ((⟨i + 1, A3, c3, o ++ E⟩ : Nat × Option Addr × Nat × List Int)) ?_ ?_ ?_
  ·exact ⟨⟨show i + 1 ≤ 60 by omega, u8s_app ho1 hE1, show (o ++ E).length ≤ 15 * (i + 1) by rw [List.length_append]; omega⟩, show 60 - (i + 1) < 60 - i by omega⟩
  ·exact Zwk
  exact Zj
 refine wc_exit ?_
 refine q_then_exit ?_
 refine q_then_exit ?_
 refine q_block_same rfl ?_
 refine Zt (Zs (Zr (ZA ?_)))
 refine ZA ?_
 refine Zn (Zt (Ze (ret1 (cs' := [slv _ _ _ _ _ _]) (.inl rfl) Zu rfl rfl ?_)))
 exact ⟨A1, c1, o, ⟨ho1, by omega⟩, rfl, rfl⟩
end Go.Proofs.YthcpmpmbgbibfaaGreatDoor
/- The harness's image: bytes, a drive and a number of pages. -/
set_option linter.unusedSimpArgs false
set_option linter.unusedVariables false
set_option maxRecDepth 100000
namespace Go.Proofs.YthcpmpmbgbibfaaGreatDoor
open Go.RowKit Go.Ink
attribute [local irreducible] OpY GuardIs

set_option maxHeartbeats 2000000 in
theorem image_ok (A B : Option Addr) (c e : Nat) (l : List RawR) (pages : Int) (k : List Int) (hk : u8s k) (w : World) (h : RdV w 5 A l.length c (l.flatMap RawR.cells)) (hl : ∀ a, a ∈ l → a.ok w) (hB : Rd w .u8 B k.length e k) :
  Ctr Tryz.prog 8 [.slice A l.length c, .int .i64 pages, .slice B k.length e] w [] (fun v cs => ∃ (A' : Option Addr) (c' : Nat) (E E2 : List Int) (n : Nat), (u8s E ∧ (1 ≤ n ∧ n ≤ 16) ∧ (E.take (n * 64)).length ≤ n * 64) ∧ v = imgV A' c' (E.take (n * 64)) B e (k.take 1024) n ∧ cs = [sl .u8 5 A' E.length c' E]) := by
 have HP := fun w h hl => pieces_ok A c l w h hl
 obtain ⟨m, hm⟩ : ∃ m, within pages 0 15 = m := ⟨_, rfl⟩
 have hmr := within_rng pages 0 15 (by decide)
 rw [hm] at hmr
 have HW := fun w => hm ▸ within_ok pages 0 15 w (by decide) (by decide) (by decide)
 obtain ⟨n0, rfl⟩ : ∃ q : Nat, m = q := Int.eq_ofNat_of_zero_le hmr.1
 have HK := fun w => cut_ok B e k 1024 w hB.cap
 refine fn_ctr Tryz.func8 rfl Tryz.ntmps8 rfl (Inv.start w) ?_
 refine Zs (Zr (ZN fun b6 => ?_))
 refine Zn (Zt (Zs (Zr (ZA ?_))))
 refine ZS (fun w hi => HW w) ?_
 rintro _ _ ⟨_, ⟨rfl, rfl⟩, rfl⟩
 refine Zy (y_add (Zv rfl) (Zv rfl) (show _ = ((1 + n0 : Nat) : Int) from by rw [IntWalk.i64_in _ ⟨by omega, by omega⟩]; omega)) ?_
 refine ZA ?_
 refine Zn (Zt (Zs (Zr (ZA ?_))))
 refine ZS (fun w hi => HP w (h.oldN hi) (fun a ha => ⟨(hl a ha).v, (hl a ha).at_, (hl a ha).rd.oldN hi, (hl a ha).bs⟩)) ?_
 rintro _ _ ⟨_, ⟨A1, c1, E, ⟨hE1, hE2⟩, rfl, rfl⟩, rfl⟩
 refine ZA ?_
 refine Zy (y_mul (Zv rfl) (Zv rfl) (show _ = (((1 + n0) * 64 : Nat) : Int) from by rw [IntWalk.i64_in _ ⟨by omega, by omega⟩]; omega)) ?_
 refine ZS (fun w hi => cut_ok A1 c1 E ((1 + n0) * 64) w (hi.rd (show Has _ (sl .u8 5 A1 E.length c1 E) from Zh)).cap) ?_
 rintro _ _ ⟨_, ⟨rfl, rfl⟩, rfl⟩
 refine ZA ?_
 refine ZS (fun w hi => HK w) ?_
 rintro _ _ ⟨_, ⟨rfl, rfl⟩, rfl⟩
 iterate 2 refine ZA ?_
 refine ZM ?_
 refine Zn (Zt (Ze (qok_pick [row b6 [.slice A1 (E.take ((1 + n0) * 64)).length c1, .slice B (k.take 1024).length e, .int .i64 ((1 + n0 : Nat) : Int)] 25, sl .u8 5 A1 E.length c1 E] Zj ?_)))
 refine retC (cs' := [sl .u8 5 A1 E.length c1 E]) (.inl rfl) Zu rfl rfl Zh (fun _ => rfl) (fun _ => rfl) ?_
 exact ⟨A1, c1, E, [], 1 + n0, ⟨hE1, ⟨by omega, by omega⟩, by rw [List.length_take]; omega⟩, rfl, rfl⟩
end Go.Proofs.YthcpmpmbgbibfaaGreatDoor
