/- The law BlockBegins: a block's beginning and what is fetched, the program's and the document's. -/
import Derived.Test.YthcpmpmbgbibfaaGreatDoorBlAll
import Derived.Test.YthcpmpmbgbibfaaGreatDoorInkA
import Derived.Test.YthcpmpmbgbibfaaGreatDoorBkTU
set_option linter.unusedSimpArgs false
set_option linter.unusedVariables false
set_option maxRecDepth 100000
namespace Go.Ink
open Go.RowKit
theorem ins_some {n : Nat} {M : Mem} (hM : M.ok n) {p : Nat} : ((fetchOf n M p).isSome == decide ((0 : Int) < (insN (fetchOf n M p) : Int))) = true := by
 cases h : fetchOf n M p with
 | none => rfl
 | some o =>
  obtain ⟨⟨op, nn⟩, z⟩ := o
  obtain ⟨-, hz, -⟩ := fetchOf_rng hM h
  show (true == decide ((0 : Int) < ((z : Nat) : Int))) = true
  rw [decide_eq_true (show (0 : Int) < ((z : Nat) : Int) by omega)]
  rfl
end Go.Ink
namespace Go.Proofs.YthcpmpmbgbibfaaGreatDoor
open Go.RowKit Go.Ink
attribute [local irreducible] OpY GuardIs
theorem insv_eq (o : Option ((Int × Int) × Nat)) : EqV Tryz.prog 10000 79 (.agg (insV o).toArray) (.agg (insV o).toArray) :=
 .struct rfl Zk (EqF.cons (by decide) (fun _ => rfl) (fun _ => rfl) (.int rfl) (EqF.cons (by decide) (fun _ => rfl) (fun _ => rfl) (.int rfl) EqF.nil))
theorem insv_guard : Tryz.prog.eqGuardType Tryz.prog.depth 79 = false := by kernel_rfl
abbrev begS (t : St) : St := ⟨t.pc % 300, t.d, t.r, t.flags, t.super, t.paging, t.ie, 0, t.vec % 300, t.epc, t.cause, t.addr, t.esuper, t.eie, t.count, t.halted⟩
theorem begS_wf {t : St} (h : t.wf) : (begS t).wf := by
 obtain ⟨p0, p1⟩ := h.pc
 obtain ⟨v0, v1⟩ := h.vec
 exact ⟨⟨by show 0 ≤ t.pc % 300; omega, by show t.pc % 300 ≤ _; omega⟩, h.flags, u0, ⟨by show 0 ≤ t.vec % 300; omega, by show t.vec % 300 ≤ _; omega⟩, h.epc, h.cause, h.addr, h.count, h.d, h.r⟩
theorem tmod300 {x : Int} (h : u32 x) : x.tmod 300 = x % 300 := by
 obtain ⟨h1, -⟩ := h
 rw [Int.tmod_eq_emod_of_nonneg h1]
abbrev n0 : SAdr := ⟨none, 0, none, 0⟩
set_option maxHeartbeats 8000000 in
theorem blockBegins_ok (A Ad Ar E : Option Addr) (c cd cr ce : Nat) (l : List RawR) (s : St) (hs : s.wf) (ls : List Int) (mask place : Int) (hmask : u32 mask) (hplace : u32 place) (w : World) (h : RdV w 5 A l.length c (l.flatMap RawR.cells)) (hl : ∀ a, a ∈ l → a.ok w) (hS : RdSt w s Ad Ar cd cr) (hE : Rd w .i64 E ls.length ce ls) (ht : TabOk w) :
  Ctr Tryz.prog 7 [.slice A l.length c, sv s Ad cd Ar cr, .slice E ls.length ce, .int .u32 mask, .int .u32 place] w [] (fun v cs => v = .bool true ∧ cs = []) := by
 have hem : ls.length ≤ maxLen := Nat.le_trans hE.cap hE.max
 simp only [maxLen] at hem
 have HI := fun w h hl => image_ok A none c 0 l 3 [] (fun x hx => by cases hx) w h hl (rdNil w .u8)
 have hnil : u8s ([] : List Int) := fun x hx => by cases hx
 have htw := St.tr_wf hs
 have htr := St.tr_right (s := s)
 have HT := trim_ok s hs Ad Ar cd cr
 obtain ⟨t, htt⟩ : ∃ t, s.trim = t := ⟨_, rfl⟩
 rw [htt] at htw htr HT
 have hb1 := begS_wf htw
 obtain ⟨hd16, hr16, hf15⟩ := St.fits htr
 have hb2 : (begS t).right = true := St.mkr hd16 hr16 hf15
 obtain ⟨place, rfl⟩ : ∃ m : Nat, place = m := Int.eq_ofNat_of_zero_le hplace.1
 have hplace2 := hplace.2
 refine fn_ctr Tryz.func7 rfl Tryz.ntmps7 rfl (Inv.start w) ?_
 refine Zs (Zr (ZO fun b6 => ?_))
 refine ZA ?_
 refine Zn (Zt (Zs (Zr (ZA ?_))))
 refine ZS (fun w hi => HI w (h.oldN hi) (fun a ha => ⟨(hl a ha).v, (hl a ha).at_, (hl a ha).rd.oldN hi, (hl a ha).bs⟩)) ?_
 rintro _ _ ⟨_, ⟨A1, c1, E1, E2, N, ⟨hE1, ⟨hn1, hn2⟩, hE2⟩, rfl, rfl⟩, rfl⟩
 have hE1' : u8s (E1.take (N * 64)) := (fun x hx => hE1 x (List.mem_of_mem_take hx))
 have hG0 := fresh_g18 (n := N) (k := []) hn1 (by omega) hE2 hE1' (by decide) hnil
 have HF := fun w h => freshG_ok A1 none c1 0 N (E1.take (N * 64)) [] hn1 (by omega) hE2 hE1' (by decide) w h (rdNil w .u8)
 obtain ⟨M0, hM0⟩ : ∃ M, Mem.init N (E1.take (N * 64)) = M := ⟨_, rfl⟩
 obtain ⟨T0, hTT⟩ : ∃ T, tflush = T := ⟨_, rfl⟩
 obtain ⟨d0, hd⟩ : ∃ d, Dev.init [] = d := ⟨_, rfl⟩
 rw [hM0, hTT, hd] at HF hG0
 refine ZS (fun w hi => HF w (rd_take (hi.rd (show Has _ (sl .u8 5 A1 E1.length c1 E1) from Zh)) (N * 64))) ?_
 rintro _ _ ⟨_, ⟨F, hF, rfl, rfl⟩, rfl⟩
 refine ZA ?_
 refine Zn (Zt (Zs (Zs (Zr (ZA ?_)))))
 refine ZA ?_
 refine Zn (Zt (wc_cond_f rfl (rfl) ?_))
 refine Zc (Zt (Zs (Zs (Zr (wl_nilc 30 1 ?_)))))
 refine wl_nilc 30 1 ?_
 refine wl_nilc 30 1 ?_
 refine wl_nilc 30 1 ?_
 refine wl_pick (row b6 (s.cells (.slice Ad s.d.length cd) (.slice Ar s.r.length cr)) 34 :: b18F F N St.new n0 n0 ⟨none, 0, none, 0⟩ ⟨none, 0, none, 0⟩ ⟨M0, T0⟩ d0) Zj ?_
 refine ZA ?_
 refine Zn (Zt (Zx ?_))
 refine wc_loop (fun q : Nat × (DAdr × DAdr) × Dev => [(2, .slice E ls.length ce), (3, .int .u32 mask), (4, .int .u32 (place : Int)), (6, .pointer (some ⟨b6, 0, none⟩)), (11, .pointer (some ⟨F.bw, 0, none⟩)), (12, .int .i64 (q.1 : Int))]) (fun q => row b6 (s.cells (.slice Ad s.d.length cd) (.slice Ar s.r.length cr)) 34 :: b18F F N St.new n0 n0 q.2.1.1 q.2.1.2 ⟨M0, T0⟩ q.2.2) (fun q => G18 N 0 St.new ⟨M0, T0⟩ q.2.2 ∧ q.1 ≤ 4) (fun q => 4 - q.1) (⟨0, ⟨⟨none, 0, none, 0⟩, ⟨none, 0, none, 0⟩⟩, d0⟩) ?_ ?_ ?_ ?_
 ·exact ⟨hG0, Nat.zero_le _⟩
 ·exact Zwk
 ·exact List.Sublist.refl _
 rintro ⟨j, ⟨Y, Z⟩, d⟩ ⟨hG, hj⟩
 dsimp only at hG hj ⊢
 refine Zs (Zs (Zr (ZA ?_)))
 iterate 4 refine ZA ?_
 iterate 2 refine ZB ?_
 refine ZA ?_
 refine Zn (Zt ?_)
 refine wc_cond _ rfl (fun hc5 => ?_) (fun hc5 => ?_)
 ·have hil : j < ls.length ∧ j < 4 := (by revert hc5; cases h1 : decide ((j : Int) < (ls.length : Int)) <;> cases h2 : decide ((j : Int) < 4) <;> simp_all <;> omega)
  obtain ⟨ad, rfl⟩ := hE.some_ (by omega)
  have hx : ls[j]? = some (ls[j]'hil.1) := List.getElem?_eq_getElem hil.1
  obtain ⟨x, hxx⟩ : ∃ x, ls[j]'hil.1 = x := ⟨_, rfl⟩
  rw [hxx] at hx
  refine Zc (Zt (Zs (Zx (Zs (Zr (ZA ?_))))))
  iterate 2 refine ZA ?_
  refine Zy (y_index (j := j)  rfl (fun _ => rfl) (Zv rfl) (Zv rfl)  (fun _ => by omega) (fun _ => by omega)) ?_
  refine wl_y (y_load (fun _ => rfl) (Zv rfl)) (rd_cell hE (ints_at hx)) rfl ?_
  refine ZA ?_
  refine wl_t (t_callS (evF F St.new St.new n0 n0 Y Z d) rfl (fun _ _ => rfl) Zi (fun w hi hin => event_ok F St.new St.new n0 n0 Y Z d hG.i.i64 2 x none 0 [] w hin (fun w' hk => rdNil w' .u8))) rfl ?_
  rintro _ _ ⟨_, ⟨Y2, Z2, rfl, rfl⟩, rfl⟩
  refine ZA ?_
  refine Zn (Zt (wc_cond_f rfl (rfl) ?_))
  refine Zc (Zo (Zt (Zr (ZA ?_))))
  refine Zy (y_add (Zv rfl) (Zv rfl) Zl) ?_
  refine ZA ?_
  refine Zn ?_
  refine q_midP ((⟨j + 1, ⟨Y2, Z2⟩, evTo 2 x [] d⟩ : Nat × (DAdr × DAdr) × Dev)) ?_ ?_ ?_
  ·exact ⟨⟨hG.event 2 x hnil, show j + 1 ≤ 4 by omega⟩, show 4 - (j + 1) < 4 - j by omega⟩
  ·exact Zwk
  exact Zj
 obtain ⟨m8, hm8⟩ : ∃ m, bits .and .u32 mask 255 = m := ⟨_, rfl⟩
 have hm8b : 0 ≤ m8 ∧ m8 ≤ 255 := (by rw [← hm8, and255r hmask]; omega)
 have hG1 : G18 N 0 St.new ⟨M0, T0⟩ { d with mask := m8 } := ⟨⟨hG.g.wf, hG.g.right, hG.g.u, ⟨hG.g.dv.wf.re rfl rfl rfl rfl, hG.g.dv.pend, ⟨hm8b.1, by show m8 ≤ 4294967295; omega⟩, hG.g.dv.timer, hG.g.dv.status⟩, ⟨hm8b⟩⟩, hG.m, ⟨hG.i.i64⟩, hG.o⟩
 have HM := fun w hin => isetmask_ok F.D.bi d.pend d.mask mask w hin
 rw [hm8] at HM
 have hG2 : G18 N 0 (begS t) ⟨M0, T0⟩ { d with mask := m8 } := ⟨⟨hb1, hb2, hG1.g.u, hG1.g.dv, hG1.g.lines⟩, hG1.m, hG1.i, hG1.o⟩
 obtain ⟨e, hee⟩ : ∃ e, ({ d with mask := m8 } : Dev) = e := ⟨_, rfl⟩
 refine wc_exit ?_
 refine q_then_exit ?_
 refine q_then_exit ?_
 refine q_block_same rfl ?_
 refine Zt (Zs (Zr (ZA ?_)))
 refine ZA ?_
 refine ZFa 1 ?_
 refine ZC ?_
 refine ZA ?_
 refine ZFa 0 ?_
 refine ZC ?_
 refine ZA ?_
 refine wl_t (t_callS ([irqC F.D.bi d.pend d.mask]) rfl (fun _ _ => rfl) Zi (fun w hi hin => HM w hin)) rfl ?_
 rintro _ _ ⟨_, ⟨rfl, rfl⟩, rfl⟩
 refine Zn (Zt (Zs (Zr (ZA ?_))))
 refine ZA ?_
 refine ZFa 19 ?_
 refine ZC ?_
 refine ZA ?_
 refine ZFa 17 ?_
 refine ZC ?_
 refine ZA ?_
 refine Zy (y_rem (Zv rfl) (Zv rfl) (by omega) (show _ = m8 from by rw [← hm8, and255r hmask, Int.tmod_eq_emod_of_nonneg hmask.1])) ?_
 refine ZA ?_
 refine ZFa 2 ?_
 refine ZL ?_
 refine Zn (Zt (Zs (Zr (wl_pick (row b6 (s.cells (.slice Ad s.d.length cd) (.slice Ar s.r.length cr)) 34 :: b18F F N St.new n0 n0 Y Z ⟨M0, T0⟩ { d with mask := m8 }) Zj ?_))))
 rw [hee] at hG2 ⊢
 have HB := fun (X2 : SAdr) w hi h ht => begin_ok F.bu F.bb F.L F.D Y (begS t) hb1 X2.Ad X2.Ar X2.cd X2.cr ⟨M0, T0⟩ hG2.g.u.t e (tick_lines hG2.g.lines _) w hi h ht
 have HRB := fun (X2 : SAdr) w hi h => refbegin_ok F.K F.bx N F.by_ F.bd Z (begS t) hb1 hb2 X2.Ad X2.Ar X2.cd X2.cr ⟨M0, T0⟩ hG2.m hG2.g.u.t e (tick_lines hG2.g.lines _) w hi h
 have hbo := begin_goes hG2.g
 rw [hF] at HB
 obtain ⟨⟨s1, pl, rn, U1, d1⟩, hbe⟩ : ∃ b, beginTo N (begS t) ⟨M0, T0⟩ e = b := ⟨_, rfl⟩
 rw [hbe] at HB HRB hbo
 have hMb := hG2.m.begin (s := begS t) (d := e) (fun root va kind super => hG2.m.walk root va kind super)
 rw [hbe] at hMb
 obtain ⟨hg1, hpl, hout, -, -, -⟩ := hbo
 dsimp only at hg1 hpl hout hMb HB HRB
 have ho1 : d1.out.length ≤ 0 := (by rw [hout]; exact hG2.o)
 obtain ⟨e16, f16, -⟩ := St.fits hg1.right
 have HA := fun X V Y Z w hi => alike18_ok F N hF s1 hg1.right X V Y Z U1 d1 hg1.u (by omega) hg1.dv (by omega) w hi
 refine wl_loadRow Zh (fun _ => rfl) (fun _ => rfl) (Zv rfl) rfl ?_
 refine ZS (fun w hi => HT w (hS.oldN hi)) ?_
 rintro _ _ ⟨_, ⟨A2, c2, A3, c3, rfl, rfl⟩, rfl⟩
 refine ZM ?_
 refine Zn (Zt (Zs (Zr (ZFa 0 ?_))))
 refine ZC ?_
 refine Zy (y_rem (Zv rfl) (Zv rfl) (by omega) (tmod300 htw.pc)) ?_
 refine ZFa 8 ?_
 refine ZC ?_
 refine Zy (y_rem (Zv rfl) (Zv rfl) (by omega) (tmod300 htw.vec)) ?_
 refine ZFa 0 ?_
 refine ZL ?_
 refine ZFa 8 ?_
 refine ZL ?_
 refine Zn (Zt (Zs (Zr (ZFa 7 ?_))))
 refine ZL ?_
 refine Zn (Zt ?_)
 refine wc_seq_mid (fun q : SAdr × Nat => [(4, .int .u32 (place : Int)), (6, .pointer (some ⟨b6, 0, none⟩)), (11, .pointer (some ⟨F.bw, 0, none⟩)), (13, .pointer (some ⟨q.2, 0, none⟩))]) (fun q => row q.2 (begCells ⟨s1, pl, rn, U1, d1⟩ q.1) 74 :: slD s1 q.1.Ad q.1.cd :: slR s1 q.1.Ar q.1.cr :: row b6 ((begS t).cells (.slice A2 t.d.length c2) (.slice A3 t.r.length c3)) 34 :: slD (begS t) A2 c2 :: slR (begS t) A3 c3 :: w18X F St.new n0 :: g18X F St.new n0 :: (ubF F.bu F.bb F.L F.D Y U1 d1 ++ rgF F.K F.bx N F.by_ F.bd Z ⟨M0, T0⟩ e)) (fun _ => True) ?_ ?_
 ·refine wc_draw ⟨fun j => List.elem j [9, 11], []⟩ Zk ?_
  refine ZI 0 ?_
  refine ZE 1 ?_
  refine ZE 2 ?_
  refine ZFe 3 0 ?_
  refine ZG 4 ?_
  refine ZE 5 ?_
  refine ZE 6 ?_
  refine ZFe 7 1 ?_
  refine ZG 8 ?_
  refine wa_2 9 10 Zk ?_ ?_
  ·refine wi_t rfl rfl (t_callS (ubF F.bu F.bb F.L F.D Y ⟨M0, T0⟩ e) rfl (fun _ _ => rfl) Zi (fun w hi hin => HB ⟨A2, c2, A3, c3⟩ w hin (fun w' hk => hi.rdStKs Zi (show Has _ (slD (begS t) A2 c2) from Zh) (show Has _ (slR (begS t) A3 c3) from Zh) (show t.d.length * 4 ≤ _ by omega) (show t.r.length * 4 ≤ _ by omega) hk) (fun w' hk => RdV.oldKs ht hi Zi hk))) (fun _ _ _ _ _ _ _ h => by cases h) rfl ?_
   rintro _ _ ⟨_, ⟨X1, rfl, rfl⟩, rfl⟩
   refine wa_1 10 Zk ?_
   refine ZP fun b13 => ?_
   refine wa_1 11 Zk ?_
   refine ZR ?_
   refine wa_done Zk ?_
   refine q_midP ((⟨X1, b13⟩ : SAdr × Nat)) ?_ ?_ ?_
   ·trivial
   ·exact Zwk
   exact Zj
  refine ZP fun b13 => ?_
  refine wa_1 9 Zk ?_
  refine wi_t rfl rfl (t_callS (ubF F.bu F.bb F.L F.D Y ⟨M0, T0⟩ e) rfl (fun _ _ => rfl) Zi (fun w hi hin => HB ⟨A2, c2, A3, c3⟩ w hin (fun w' hk => hi.rdStKs Zi (show Has _ (slD (begS t) A2 c2) from Zh) (show Has _ (slR (begS t) A3 c3) from Zh) (show t.d.length * 4 ≤ _ by omega) (show t.r.length * 4 ≤ _ by omega) hk) (fun w' hk => RdV.oldKs ht hi Zi hk))) (fun _ _ _ _ _ _ _ h => by cases h) rfl ?_
  rintro _ _ ⟨_, ⟨X1, rfl, rfl⟩, rfl⟩
  refine wa_1 11 Zk ?_
  refine ZR ?_
  refine wa_done Zk ?_
  refine q_midP ((⟨X1, b13⟩ : SAdr × Nat)) ?_ ?_ ?_
  ·trivial
  ·exact Zwk
  exact Zj
 rintro ⟨X1, b13⟩ -
 dsimp only
 refine wc_seq_mid (fun q : SAdr × Nat => [(4, .int .u32 (place : Int)), (11, .pointer (some ⟨F.bw, 0, none⟩)), (13, .pointer (some ⟨b13, 0, none⟩)), (14, .pointer (some ⟨q.2, 0, none⟩)), (15, .int .u32 pl), (16, .bool rn)]) (fun q => row b13 (begCells ⟨s1, pl, rn, U1, d1⟩ X1) 74 :: slD s1 X1.Ad X1.cd :: slR s1 X1.Ar X1.cr :: row q.2 (s1.cells (.slice q.1.Ad s1.d.length q.1.cd) (.slice q.1.Ar s1.r.length q.1.cr)) 34 :: slD s1 q.1.Ad q.1.cd :: slR s1 q.1.Ar q.1.cr :: w18X F St.new n0 :: g18X F St.new n0 :: (ubF F.bu F.bb F.L F.D Y U1 d1 ++ rgF F.K F.bx N F.by_ F.bd Z U1 d1)) (fun _ => True) ?_ ?_
 ·refine wc_draw ⟨fun j => List.elem j [15, 21], []⟩ Zk ?_
  refine ZI 0 ?_
  refine ZE 1 ?_
  refine ZE 2 ?_
  refine ZFe 3 19 ?_
  refine ZE 8 ?_
  refine ZE 9 ?_
  refine ZFe 10 19 ?_
  refine wa_3 4 11 20 Zk ?_ ?_ ?_
  ·refine wi_yn rfl (y_load (fun _ => rfl) (Zv rfl)) (row_cell Zh rfl) rfl ?_
   refine ZE 5 ?_
   refine ZFe 6 16 ?_
   refine ZG 7 ?_
   refine wa_2 11 20 Zk ?_ ?_
   ·refine wi_yn rfl (y_load (fun _ => rfl) (Zv rfl)) (row_cell Zh rfl) rfl ?_
    refine ZE 12 ?_
    refine ZFe 13 17 ?_
    refine ZG 14 ?_
    refine wa_2 15 20 Zk ?_ ?_
    ·refine wi_t rfl rfl (t_callS (rgF F.K F.bx N F.by_ F.bd Z ⟨M0, T0⟩ e) rfl (fun _ _ => rfl) Zi (fun w hi hin => HRB ⟨A2, c2, A3, c3⟩ w hin (fun w' hk => hi.rdStKs Zi (show Has _ (slD (begS t) A2 c2) from Zh) (show Has _ (slR (begS t) A3 c3) from Zh) (show t.d.length * 4 ≤ _ by omega) (show t.r.length * 4 ≤ _ by omega) hk))) (fun _ _ _ _ _ _ _ h => by cases h) rfl ?_
     rintro _ _ ⟨_, ⟨V1, rfl, rfl⟩, rfl⟩
     refine ZE 16 ?_
     refine ZE 17 ?_
     refine ZE 18 ?_
     refine ZE 19 ?_
     refine wa_1 20 Zk ?_
     refine ZP fun b14 => ?_
     refine wa_1 21 Zk ?_
     refine ZR ?_
     refine ZE 22 ?_
     refine ZE 23 ?_
     refine wa_done Zk ?_
     refine q_midP ((⟨V1, b14⟩ : SAdr × Nat)) ?_ ?_ ?_
     ·trivial
     ·exact Zwk
     exact Zj
    refine ZP fun b14 => ?_
    refine wa_1 15 Zk ?_
    refine wi_t rfl rfl (t_callS (rgF F.K F.bx N F.by_ F.bd Z ⟨M0, T0⟩ e) rfl (fun _ _ => rfl) Zi (fun w hi hin => HRB ⟨A2, c2, A3, c3⟩ w hin (fun w' hk => hi.rdStKs Zi (show Has _ (slD (begS t) A2 c2) from Zh) (show Has _ (slR (begS t) A3 c3) from Zh) (show t.d.length * 4 ≤ _ by omega) (show t.r.length * 4 ≤ _ by omega) hk))) (fun _ _ _ _ _ _ _ h => by cases h) rfl ?_
    rintro _ _ ⟨_, ⟨V1, rfl, rfl⟩, rfl⟩
    refine ZE 16 ?_
    refine ZE 17 ?_
    refine ZE 18 ?_
    refine ZE 19 ?_
    refine wa_1 21 Zk ?_
    refine ZR ?_
    refine ZE 22 ?_
    refine ZE 23 ?_
    refine wa_done Zk ?_
    refine q_midP ((⟨V1, b14⟩ : SAdr × Nat)) ?_ ?_ ?_
    ·trivial
    ·exact Zwk
    exact Zj
   refine ZP fun b14 => ?_
   refine wa_1 11 Zk ?_
   refine wi_yn rfl (y_load (fun _ => rfl) (Zv rfl)) (row_cell Zh rfl) rfl ?_
   refine ZE 12 ?_
   refine ZFe 13 17 ?_
   refine ZG 14 ?_
   refine wa_1 15 Zk ?_
   refine wi_t rfl rfl (t_callS (rgF F.K F.bx N F.by_ F.bd Z ⟨M0, T0⟩ e) rfl (fun _ _ => rfl) Zi (fun w hi hin => HRB ⟨A2, c2, A3, c3⟩ w hin (fun w' hk => hi.rdStKs Zi (show Has _ (slD (begS t) A2 c2) from Zh) (show Has _ (slR (begS t) A3 c3) from Zh) (show t.d.length * 4 ≤ _ by omega) (show t.r.length * 4 ≤ _ by omega) hk))) (fun _ _ _ _ _ _ _ h => by cases h) rfl ?_
   rintro _ _ ⟨_, ⟨V1, rfl, rfl⟩, rfl⟩
   refine ZE 16 ?_
   refine ZE 17 ?_
   refine ZE 18 ?_
   refine ZE 19 ?_
   refine wa_1 21 Zk ?_
   refine ZR ?_
   refine ZE 22 ?_
   refine ZE 23 ?_
   refine wa_done Zk ?_
   refine q_midP ((⟨V1, b14⟩ : SAdr × Nat)) ?_ ?_ ?_
   ·trivial
   ·exact Zwk
   exact Zj
  ·refine wi_yn rfl (y_load (fun _ => rfl) (Zv rfl)) (row_cell Zh rfl) rfl ?_
   refine ZE 12 ?_
   refine ZFe 13 17 ?_
   refine ZG 14 ?_
   refine wa_2 4 20 Zk ?_ ?_
   ·refine wi_yn rfl (y_load (fun _ => rfl) (Zv rfl)) (row_cell Zh rfl) rfl ?_
    refine ZE 5 ?_
    refine ZFe 6 16 ?_
    refine ZG 7 ?_
    refine wa_2 15 20 Zk ?_ ?_
    ·refine wi_t rfl rfl (t_callS (rgF F.K F.bx N F.by_ F.bd Z ⟨M0, T0⟩ e) rfl (fun _ _ => rfl) Zi (fun w hi hin => HRB ⟨A2, c2, A3, c3⟩ w hin (fun w' hk => hi.rdStKs Zi (show Has _ (slD (begS t) A2 c2) from Zh) (show Has _ (slR (begS t) A3 c3) from Zh) (show t.d.length * 4 ≤ _ by omega) (show t.r.length * 4 ≤ _ by omega) hk))) (fun _ _ _ _ _ _ _ h => by cases h) rfl ?_
     rintro _ _ ⟨_, ⟨V1, rfl, rfl⟩, rfl⟩
     refine ZE 16 ?_
     refine ZE 17 ?_
     refine ZE 18 ?_
     refine ZE 19 ?_
     refine wa_1 20 Zk ?_
     refine ZP fun b14 => ?_
     refine wa_1 21 Zk ?_
     refine ZR ?_
     refine ZE 22 ?_
     refine ZE 23 ?_
     refine wa_done Zk ?_
     refine q_midP ((⟨V1, b14⟩ : SAdr × Nat)) ?_ ?_ ?_
     ·trivial
     ·exact Zwk
     exact Zj
    refine ZP fun b14 => ?_
    refine wa_1 15 Zk ?_
    refine wi_t rfl rfl (t_callS (rgF F.K F.bx N F.by_ F.bd Z ⟨M0, T0⟩ e) rfl (fun _ _ => rfl) Zi (fun w hi hin => HRB ⟨A2, c2, A3, c3⟩ w hin (fun w' hk => hi.rdStKs Zi (show Has _ (slD (begS t) A2 c2) from Zh) (show Has _ (slR (begS t) A3 c3) from Zh) (show t.d.length * 4 ≤ _ by omega) (show t.r.length * 4 ≤ _ by omega) hk))) (fun _ _ _ _ _ _ _ h => by cases h) rfl ?_
    rintro _ _ ⟨_, ⟨V1, rfl, rfl⟩, rfl⟩
    refine ZE 16 ?_
    refine ZE 17 ?_
    refine ZE 18 ?_
    refine ZE 19 ?_
    refine wa_1 21 Zk ?_
    refine ZR ?_
    refine ZE 22 ?_
    refine ZE 23 ?_
    refine wa_done Zk ?_
    refine q_midP ((⟨V1, b14⟩ : SAdr × Nat)) ?_ ?_ ?_
    ·trivial
    ·exact Zwk
    exact Zj
   refine ZP fun b14 => ?_
   refine wa_1 4 Zk ?_
   refine wi_yn rfl (y_load (fun _ => rfl) (Zv rfl)) (row_cell Zh rfl) rfl ?_
   refine ZE 5 ?_
   refine ZFe 6 16 ?_
   refine ZG 7 ?_
   refine wa_1 15 Zk ?_
   refine wi_t rfl rfl (t_callS (rgF F.K F.bx N F.by_ F.bd Z ⟨M0, T0⟩ e) rfl (fun _ _ => rfl) Zi (fun w hi hin => HRB ⟨A2, c2, A3, c3⟩ w hin (fun w' hk => hi.rdStKs Zi (show Has _ (slD (begS t) A2 c2) from Zh) (show Has _ (slR (begS t) A3 c3) from Zh) (show t.d.length * 4 ≤ _ by omega) (show t.r.length * 4 ≤ _ by omega) hk))) (fun _ _ _ _ _ _ _ h => by cases h) rfl ?_
   rintro _ _ ⟨_, ⟨V1, rfl, rfl⟩, rfl⟩
   refine ZE 16 ?_
   refine ZE 17 ?_
   refine ZE 18 ?_
   refine ZE 19 ?_
   refine wa_1 21 Zk ?_
   refine ZR ?_
   refine ZE 22 ?_
   refine ZE 23 ?_
   refine wa_done Zk ?_
   refine q_midP ((⟨V1, b14⟩ : SAdr × Nat)) ?_ ?_ ?_
   ·trivial
   ·exact Zwk
   exact Zj
  refine ZP fun b14 => ?_
  refine wa_2 4 11 Zk ?_ ?_
  ·refine wi_yn rfl (y_load (fun _ => rfl) (Zv rfl)) (row_cell Zh rfl) rfl ?_
   refine ZE 5 ?_
   refine ZFe 6 16 ?_
   refine ZG 7 ?_
   refine wa_1 11 Zk ?_
   refine wi_yn rfl (y_load (fun _ => rfl) (Zv rfl)) (row_cell Zh rfl) rfl ?_
   refine ZE 12 ?_
   refine ZFe 13 17 ?_
   refine ZG 14 ?_
   refine wa_1 15 Zk ?_
   refine wi_t rfl rfl (t_callS (rgF F.K F.bx N F.by_ F.bd Z ⟨M0, T0⟩ e) rfl (fun _ _ => rfl) Zi (fun w hi hin => HRB ⟨A2, c2, A3, c3⟩ w hin (fun w' hk => hi.rdStKs Zi (show Has _ (slD (begS t) A2 c2) from Zh) (show Has _ (slR (begS t) A3 c3) from Zh) (show t.d.length * 4 ≤ _ by omega) (show t.r.length * 4 ≤ _ by omega) hk))) (fun _ _ _ _ _ _ _ h => by cases h) rfl ?_
   rintro _ _ ⟨_, ⟨V1, rfl, rfl⟩, rfl⟩
   refine ZE 16 ?_
   refine ZE 17 ?_
   refine ZE 18 ?_
   refine ZE 19 ?_
   refine wa_1 21 Zk ?_
   refine ZR ?_
   refine ZE 22 ?_
   refine ZE 23 ?_
   refine wa_done Zk ?_
   refine q_midP ((⟨V1, b14⟩ : SAdr × Nat)) ?_ ?_ ?_
   ·trivial
   ·exact Zwk
   exact Zj
  refine wi_yn rfl (y_load (fun _ => rfl) (Zv rfl)) (row_cell Zh rfl) rfl ?_
  refine ZE 12 ?_
  refine ZFe 13 17 ?_
  refine ZG 14 ?_
  refine wa_1 4 Zk ?_
  refine wi_yn rfl (y_load (fun _ => rfl) (Zv rfl)) (row_cell Zh rfl) rfl ?_
  refine ZE 5 ?_
  refine ZFe 6 16 ?_
  refine ZG 7 ?_
  refine wa_1 15 Zk ?_
  refine wi_t rfl rfl (t_callS (rgF F.K F.bx N F.by_ F.bd Z ⟨M0, T0⟩ e) rfl (fun _ _ => rfl) Zi (fun w hi hin => HRB ⟨A2, c2, A3, c3⟩ w hin (fun w' hk => hi.rdStKs Zi (show Has _ (slD (begS t) A2 c2) from Zh) (show Has _ (slR (begS t) A3 c3) from Zh) (show t.d.length * 4 ≤ _ by omega) (show t.r.length * 4 ≤ _ by omega) hk))) (fun _ _ _ _ _ _ _ h => by cases h) rfl ?_
  rintro _ _ ⟨_, ⟨V1, rfl, rfl⟩, rfl⟩
  refine ZE 16 ?_
  refine ZE 17 ?_
  refine ZE 18 ?_
  refine ZE 19 ?_
  refine wa_1 21 Zk ?_
  refine ZR ?_
  refine ZE 22 ?_
  refine ZE 23 ?_
  refine wa_done Zk ?_
  refine q_midP ((⟨V1, b14⟩ : SAdr × Nat)) ?_ ?_ ?_
  ·trivial
  ·exact Zwk
  exact Zj
 rintro ⟨V1, b14⟩ -
 dsimp only
 refine wc_seq_mid (fun q : Nat => [(4, .int .u32 (place : Int)), (11, .pointer (some ⟨F.bw, 0, none⟩)), (13, .pointer (some ⟨b13, 0, none⟩)), (15, .int .u32 pl), (16, .bool rn)]) (fun q => row b13 (begCells ⟨s1, pl, rn, U1, d1⟩ X1) 74 :: b18F F N s1 X1 V1 Y Z U1 d1) (fun _ => True) ?_ ?_
 ·refine wc_draw ⟨fun j => List.elem j [10, 13], []⟩ Zk ?_
  refine ZE 0 ?_
  refine ZE 1 ?_
  refine ZE 2 ?_
  refine ZFe 3 19 ?_
  refine ZG 4 ?_
  refine ZFe 5 0 ?_
  refine wa_ln 6 rfl Zk Zk Zk Zk (y_loadN (vs := s1.cells (.slice X1.Ad s1.d.length X1.cd) (.slice X1.Ar s1.r.length X1.cr)) (fun _ => rfl) (fun _ => rfl) (Zv rfl)) (row_cells Zh rfl) rfl ?_
  refine ZE 8 ?_
  refine ZFe 9 3 ?_
  refine wa_2 7 10 Zk ?_ ?_
  ·refine wi_loadRown rfl Zh (fun _ => rfl) (fun _ => rfl) (Zv rfl) rfl ?_
   refine wa_1 10 Zk ?_
   refine wi_t0 rfl rfl (t_storeRX (ys := w18L F s1 X1) (n := 16) (vs := s1.cells (.slice X1.Ad s1.d.length X1.cd) (.slice X1.Ar s1.r.length X1.cr)) rfl (fun _ => rfl) rfl rfl (allT rfl) Za rfl (Nat.le_of_ble_eq_true rfl)) (fun _ _ _ _ _ _ _ h => by cases h) ?_
   rintro _ _ ⟨rfl, rfl⟩
   refine ZE 11 ?_
   refine ZFe 12 0 ?_
   refine wa_1 13 Zk ?_
   refine wi_t0 rfl rfl (t_storeRX (ys := g18L F s1 V1) (n := 16) (vs := s1.cells (.slice V1.Ad s1.d.length V1.cd) (.slice V1.Ar s1.r.length V1.cr)) rfl (fun _ => rfl) rfl rfl (allT rfl) Za rfl (Nat.le_of_ble_eq_true rfl)) (fun _ _ _ _ _ _ _ h => by cases h) ?_
   rintro _ _ ⟨rfl, rfl⟩
   refine wa_done Zk ?_
   refine q_midP (0) ?_ ?_ ?_
   ·trivial
   ·exact Zwk
   exact Zj
  refine wi_t0 rfl rfl (t_storeRX (ys := w18L F s1 X1) (n := 16) (vs := s1.cells (.slice X1.Ad s1.d.length X1.cd) (.slice X1.Ar s1.r.length X1.cr)) rfl (fun _ => rfl) rfl rfl (allT rfl) Za rfl (Nat.le_of_ble_eq_true rfl)) (fun _ _ _ _ _ _ _ h => by cases h) ?_
  rintro _ _ ⟨rfl, rfl⟩
  refine ZI 7 ?_
  refine ZE 11 ?_
  refine ZFe 12 0 ?_
  refine wa_1 13 Zk ?_
  refine wi_t0 rfl rfl (t_storeRX (ys := g18L F s1 V1) (n := 16) (vs := s1.cells (.slice V1.Ad s1.d.length V1.cd) (.slice V1.Ar s1.r.length V1.cr)) rfl (fun _ => rfl) rfl rfl (allT rfl) Za rfl (Nat.le_of_ble_eq_true rfl)) (fun _ _ _ _ _ _ _ h => by cases h) ?_
  rintro _ _ ⟨rfl, rfl⟩
  refine wa_done Zk ?_
  refine q_midP (0) ?_ ?_ ?_
  ·trivial
  ·exact Zwk
  exact Zj
 rintro - -
 have hp9 : place % 300 ≤ 4294967295 := (by omega)
 have HFe := fun w h1 h2 => fetch_ok F.bu F.bb F.L U1.m (place % 300) hp9 w h1 h2
 have HRe := fun w h1 h2 h3 => reffetch_ok F.K F.bx N U1.t U1.m hMb (place % 300) hp9 w h1 h2 h3
 have hso := ins_some hg1.u.m (p := place % 300)
 rw [hF] at HFe
 obtain ⟨o, hoo⟩ : ∃ o, fetchOf N U1.m (place % 300) = o := ⟨_, rfl⟩
 rw [hoo] at HFe HRe hso
 refine Zs (Zs (Zr (ZFa 17 ?_)))
 refine ZC ?_
 refine ZA ?_
 refine Zy (y_neqb rfl (Zv rfl) (Zv rfl) (bne_self_eq_false rn)) ?_
 refine ZA ?_
 refine ZFb 16 ?_
 refine ZD ?_
 refine ZB ?_
 refine Zyn rfl rfl (y_neq (ev_g rfl) (ev_g rfl) (bne_self_eq_false pl)) ?_
 iterate 2 refine ZA ?_
 refine ZB ?_
 refine wl_tg (guard_no rfl rfl) rfl (t_callS (b18F F N s1 X1 V1 Y Z U1 d1) rfl (fun _ _ => rfl) Zi (fun w hi hin => HA X1 V1 Y Z w hin)) rfl ?_
 rintro _ _ ⟨_, ⟨rfl, rfl⟩, rfl⟩
 refine ZB ?_
 refine ZA ?_
 refine Zn (Zt (wc_cond_f rfl (rfl) ?_))
 refine Zc (Zt (Zs (Zr (ZA ?_))))
 refine ZA ?_
 refine ZFa 0 ?_
 refine ZC ?_
 refine ZA ?_
 refine Zy (y_rem (Zv rfl) (Zv rfl) (by omega) (show _ = ((place % 300 : Nat) : Int) from by rw [Int.tmod_eq_emod_of_nonneg (by omega)]; omega)) ?_
 refine ZS (fun w hi => HFe w (hi.get (show Has _ (uRow F.bu F.L.bm F.bb) from Zh)) (hi.get (show Has _ (memC F.L U1.m) from Zh))) ?_
 rintro _ _ ⟨_, ⟨rfl, rfl⟩, rfl⟩
 iterate 4 refine ZA ?_
 refine ZN fun b17 => ?_
 refine ZM ?_
 iterate 2 refine ZA ?_
 refine Zn (Zt (Zs (Zr (ZA ?_))))
 refine ZA ?_
 refine ZFa 19 ?_
 refine ZC ?_
 refine ZA ?_
 refine ZFa 16 ?_
 refine ZC ?_
 refine ZA ?_
 refine Zy (y_rem (Zv rfl) (Zv rfl) (by omega) (show _ = ((place % 300 : Nat) : Int) from by rw [Int.tmod_eq_emod_of_nonneg (by omega)]; omega)) ?_
 refine ZS (fun w hi => HRe w (hi.get (show Has _ (refURow F.bx F.K.bm U1.t) from Zh)) (hi.get (show Has _ (rmRow F.K N) from Zh)) (hi.get (show Has _ (rmB F.K N U1.m) from Zh))) ?_
 rintro _ _ ⟨_, ⟨rfl, rfl⟩, rfl⟩
 iterate 3 refine ZA ?_
 refine ZN fun b20 => ?_
 refine ZM ?_
 refine ZA ?_
 refine Zn (Zt (Zs (Zr (wl_loadRow Zh (fun _ => rfl) (fun _ => rfl) (Zv rfl) rfl ?_))))
 refine wl_loadRow Zh (fun _ => rfl) (fun _ => rfl) (Zv rfl) rfl ?_
 refine Zy (y_eqlT insv_guard (insv_eq o) (Zv rfl) (Zv rfl)) ?_
 refine ZA ?_
 iterate 2 refine ZB ?_
 refine Zyy rfl rfl (y_eql (ev_g rfl) (ev_g rfl) (beq_self_eq_true _)) ?_
 iterate 2 refine ZA ?_
 iterate 3 refine ZB ?_
 refine Zyy rfl rfl (y_eqlb rfl (ev_g rfl) (ev_g rfl) hso) ?_
 iterate 2 refine ZA ?_
 refine wl_tg (guard_yes rfl rfl) rfl (t_call rfl (fun _ _ => rfl) (fun w hi => known18_ok w (ht.old hi))) rfl ?_
 rintro _ _ ⟨_, ⟨rfl, rfl⟩, rfl⟩
 iterate 2 refine ZA ?_
 refine Zn (Zt (Ze (ret1 (cs' := []) (.inl rfl) Zu rfl rfl ?_)))
 exact ⟨rfl, rfl⟩
end Go.Proofs.YthcpmpmbgbibfaaGreatDoor
