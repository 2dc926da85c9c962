/- The document's Sys to Halt. -/
import Derived.Test.YthcpmpmbgbibfaaGreatDoorSsI
import Derived.Test.YthcpmpmbgbibfaaGreatDoorInkA
set_option linter.unusedSimpArgs false
set_option linter.unusedVariables false
set_option maxRecDepth 100000
namespace Go.Ink
open Go.RowKit
abbrev St.wd (s : St) (l : List Int) : St := ⟨s.pc, l, s.r, s.flags, s.super, s.paging, s.ie, s.root, s.vec, s.epc, s.cause, s.addr, s.esuper, s.eie, s.count, s.halted⟩
theorem set_wd (s : St) (l1 l2 : List Int) (nn v : Int) : (((s.wd l2).set nn v).1).wd l1 = ((s.wd l1).set nn v).1 := by
 have key : ∀ c (a b a' b' : St × Bool), a.1.wd l1 = a'.1 → b.1.wd l1 = b'.1 → (bif c then a else b : St × Bool).1.wd l1 = (bif c then a' else b' : St × Bool).1 := fun c a b a' b' h1 h2 => by cases c <;> assumption
 unfold St.set
 refine key _ _ _ _ _ rfl ?_
 refine key _ _ _ _ _ rfl ?_
 refine key _ _ _ _ _ rfl ?_
 refine key _ _ _ _ _ rfl ?_
 refine key _ _ _ _ _ rfl ?_
 refine key _ _ _ _ _ rfl ?_
 refine key _ _ _ _ _ rfl ?_
 refine key _ _ _ _ _ rfl ?_
 refine key _ _ _ _ _ rfl ?_
 exact key _ _ _ _ _ rfl rfl
end Go.Ink
namespace Go.Proofs.YthcpmpmbgbibfaaGreatDoor
open Go.RowKit Go.Ink
attribute [local irreducible] OpY GuardIs

/-- The same without devices. -/
def ReU (br : Nat) (K : RMLoc) (bx n : Nat) (m : Mach) (v : Value) (cs : List Chunk) : Prop :=
 ∃ X' x', v = .tuple #[.int .i64 m.r.trap.cause, .int .u32 m.r.trap.addr] ∧ cs = rsF br X' x' m.r.device ++ ruF K bx n m.u ∧ (m.r.trap.cause = 0 → x' = m.r.s)
set_option maxHeartbeats 4000000 in
theorem refspecial_ok (br : Nat) (X : SAdr) (R : Run) (K : RMLoc) (bx n : Nat) (U : Mmu) (d : Dev) (hT : U.t.length = 16) (op nn pc : Int) (h64 : 64 ≤ op) (h69 : op ≤ 69) (hnu : u32 nn) (hw : ∀ x, x ∈ R.s.d → u32 x) (hdl : R.s.d.length ≤ 100000) (hrl : R.s.r.length ≤ 100000) (hn : (opNeeds op).1.1 ≤ R.s.d.length) (ht : R.trap = Tr.none) (hdv : R.device = false) (hcn : R.count = R.s.count)
  (Ad Ar : Option Addr) (cd cr : Nat) (w : World) (hi : Inv w (blocks (rsF br X R.s false ++ ruF K bx n U)) (rsF br X R.s false ++ ruF K bx n U) w)
  (h : ∀ w', Keep (blocks (rsF br X R.s false ++ ruF K bx n U)) w w' → RdSt w' (R.s.wpc pc) Ad Ar cd cr) :
  Ctr Tryz.prog 129 [sv (R.s.wpc pc) Ad cd Ar cr, .agg #[.int .i64 op, .int .u32 nn], .pointer (some ⟨bx, 0, none⟩), .pointer (some ⟨br, 0, none⟩)] w (rsF br X R.s false ++ ruF K bx n U)
   (ReU br K bx n (otherTo n op nn ⟨R, U, d⟩)) := by
 have hnu1 := hnu.1
 have hnu2 := hnu.2
 unfold ReU
 refine fn_ctr Tryz.func129 rfl Tryz.ntmps129 rfl hi ?_
 refine Zs (Zr (ZO fun b4 => ?_))
 refine ZO fun b5 => ?_
 iterate 2 refine ZA ?_
 refine Zn (Zt (Zs (Zr (ZFa 1 ?_))))
 refine ZC ?_
 iterate 2 refine ZA ?_
 refine Zn (Zt (Zs (Zs (Zr (ZFa 0 ?_)))))
 refine ZC ?_
 refine Zn (Zt (Zx (Zs (Zr (ZA ?_)))))
 refine ZA ?_
 refine Zn (Zt ?_)
 refine wc_cond _ rfl (fun hc3 => ?_) (fun hc3 => ?_)
 ·obtain rfl := beqZ hc3
  refine Zs (Zr (ZA ?_))
  refine ZA ?_
  refine Zn (Zt (Ze (Zq (Zw (ret2 (cs' := [row _ _ _, slv _ _ _ _ _ _, slv _ _ _ _ _ _, row _ _ _, row _ _ _, slv _ _ _ _ _ _, slv _ _ _ _ _ _]) (.inl rfl) Zu rfl rfl rfl ?_)))))
  refine ⟨X, R.s, rfl, ?_, fun e => by cases e⟩
  show _ = rsF br X R.s R.device ++ ruF K bx n U
  rw [hdv]
  rfl
 refine Zs (Zr (ZA ?_))
 refine ZA ?_
 refine Zn (Zt ?_)
 refine wc_cond _ rfl (fun hc5 => ?_) (fun hc5 => ?_)
 ·obtain rfl := beqZ hc5
  have hm : otherTo n 65 nn ⟨R, U, d⟩ = ⟨R.ws R.s.back, U, d⟩ := rfl
  rw [hm]
  refine Zr (ZA ?_)
  refine wl_loadRow Zh (fun _ => rfl) (fun _ => rfl) (Zv rfl) rfl ?_
  refine ZS (fun w hi => refreturn_ok (R.s.wpc pc) Ad Ar cd cr w (h w hi.keep)) ?_
  rintro _ _ ⟨_, ⟨A1, c1, A2, c2, rfl, rfl⟩, rfl⟩
  refine ZA ?_
  refine wl_t0 (t_storeRN (n := 16) (vs := ((R.s.wpc pc).back).cells (.slice A1 R.s.d.length c1) (.slice A2 R.s.r.length c2)) (fun _ => rfl) rfl rfl (allT rfl) Za rfl (by simp only [St.cells, List.length_cons, List.length_nil]; omega)) ?_
  rintro _ _ ⟨rfl, rfl⟩
  refine Zn (Zo (Zt (Zs (Zr (ZA ?_)))))
  refine ZA ?_
  refine Zn (Zt (Ze (qok_pick (rsF br ⟨A1, c1, A2, c2⟩ R.s.back false ++ ruF K bx n U) Zj ?_)))
  refine ret2 (cs' := [row _ _ _, slv _ _ _ _ _ _, slv _ _ _ _ _ _, row _ _ _, row _ _ _, slv _ _ _ _ _ _, slv _ _ _ _ _ _]) (.inl rfl) Zu rfl rfl rfl ?_
  refine ⟨⟨A1, c1, A2, c2⟩, R.s.back, ?_, ?_, fun _ => rfl⟩
  ·show _ = Value.tuple #[.int .i64 R.trap.cause, .int .u32 R.trap.addr]; rw [ht]; rfl
  show _ = rsF br ⟨A1, c1, A2, c2⟩ R.s.back R.device ++ ruF K bx n U; rw [hdv]; rfl
 refine Zs (Zr (ZA ?_))
 refine ZA ?_
 refine Zn (Zt ?_)
 refine wc_cond _ rfl (fun hc7 => ?_) (fun hc7 => ?_)
 ·obtain rfl := beqZ hc7
  have hm : otherTo n 66 nn ⟨R, U, d⟩ = ⟨R.push [((R.s.wcount R.count).get nn).1], U, d⟩ := rfl
  rw [hm, hcn]
  have hgv : ((R.s.wpc pc).get nn).1 = ((R.s.wcount R.s.count).get nn).1 := rfl
  have HG := fun w => refget_ok (R.s.wpc pc) (.slice Ad R.s.d.length cd) (.slice Ar R.s.r.length cr) nn w
  rw [hgv] at HG
  obtain ⟨gv, hgv2⟩ : ∃ x, ((R.s.wcount R.s.count).get nn).1 = x := ⟨_, rfl⟩
  rw [hgv2] at HG ⊢
  refine Zs (Zr (wl_loadRow Zh (fun _ => rfl) (fun _ => rfl) (Zv rfl) rfl ?_))
  refine ZFa 1 ?_
  refine ZC ?_
  refine Zy (y_conv rfl rfl (Zv rfl) (IntWalk.i64_in _ ⟨by omega, by omega⟩)) ?_
  refine ZS (fun w hi => HG w) ?_
  rintro _ _ ⟨_, ⟨rfl, rfl⟩, rfl⟩
  iterate 5 refine ZA ?_
  refine Zn (Zt (Zr (ZA ?_)))
  iterate 2 refine ZA ?_
  refine ZFa 1 ?_
  refine ZC ?_
  refine ZA ?_
  refine wl_t (t_buildSl1 rfl rfl (fun _ => rfl) (fun _ => rfl) rfl rfl) rfl ?_
  rintro _ _ ⟨b44, rfl, rfl⟩
  refine wl_t (t_append (e := 30) (sz := 1) (bytes := 4) rfl rfl Za rfl rfl (fun w hi => hi.rd (show Has _ (slv 30 1 (some ⟨b44, 0, none⟩) 1 1 (ints .u32 [gv])) from Zh)) ints_one (by simp only [maxLen]; omega) (by omega)) rfl ?_
  rintro _ _ ⟨A', c', rfl, rfl⟩
  refine ZA ?_
  refine ZFa 1 ?_
  refine ZL ?_
  refine Zn (Zo (Zt (Zs (Zr (ZA ?_)))))
  refine ZA ?_
  refine Zn (Zt (Ze (qok_pick ([row br [.int .u32 R.s.pc, .slice A' (R.s.d.length + 1) c', .slice X.Ar R.s.r.length X.cr, .int .u32 R.s.flags, .bool R.s.super, .bool R.s.paging, .bool R.s.ie, .int .u32 R.s.root, .int .u32 R.s.vec, .int .u32 R.s.epc, .int .u32 R.s.cause, .int .u32 R.s.addr, .bool R.s.esuper, .bool R.s.eie, .int .u64 R.s.count, .bool R.s.halted, .bool false, .bool false, .slice none 0 0] 105, slv 30 1 A' (R.s.d.length + 1) c' (ints .u32 R.s.d ++ ints .u32 [gv]), slR R.s X.Ar X.cr] ++ ruF K bx n U) Zj ?_)))
  refine ret2 (cs' := [row _ _ _, slv _ _ _ _ _ _, slv _ _ _ _ _ _, row _ _ _, row _ _ _, slv _ _ _ _ _ _, slv _ _ _ _ _ _]) (.inl rfl) Zu rfl rfl rfl ?_
  refine ⟨⟨A', c', X.Ar, X.cr⟩, (R.push [gv]).s, ?_, ?_, fun _ => rfl⟩
  ·show _ = Value.tuple #[.int .i64 R.trap.cause, .int .u32 R.trap.addr]; rw [ht]; rfl
  show _ = rsF br ⟨A', c', X.Ar, X.cr⟩ (R.wd (R.s.d ++ [gv])).s R.device ++ ruF K bx n U; rw [hdv]; simp only [rsF, rsRow, slD, slR, List.length_append, ints_append, List.length_cons, List.length_nil, Nat.zero_add, List.cons_append, List.nil_append]
 refine Zs (Zr (ZA ?_))
 refine ZA ?_
 refine Zn (Zt ?_)
 refine wc_cond _ rfl (fun hc10 => ?_) (fun hc10 => ?_)
 ·obtain rfl := beqZ hc10
  obtain ⟨R, l, x, rfl⟩ := Run.snoc (show 1 ≤ R.s.d.length from hn)
  have hx := allR (l := l) hw
  have hlen : (l ++ [x]).length = l.length + 1 := (by simp)
  have hdl1 : ((R.wd (l ++ [x])).s.wpc pc).d.length = l.length + 1 := hlen
  have hdl2 : (R.wd (l ++ [x])).s.d.length = l.length + 1 := hlen
  have hm : otherTo n 67 nn ⟨R.wd (l ++ [x]), U, d⟩ = ⟨(R.wd l).ws ((R.wd l).s.set nn x).1, bif nn == 1 || nn == 2 then ⟨U.m, tflush⟩ else U, d⟩ := (by show Mach.mk _ _ _ = _; rw [Run.pop_wd, Run.top_wd])
  rw [hm]
  obtain ⟨ad, rfl⟩ := (h w (Keep.refl _ _)).d.some_ (by rw [hdl1]; omega)
  have hrr : (R.wd (l ++ [x])).s.r.length ≤ 100000 := hrl
  have HS := fun XA XB Xc Xd w h => refset_ok (R.wd (l ++ [x])).s XA XB Xc Xd nn x hx w h
  obtain ⟨q1, q2⟩ := St.set_dr (R.wd (l ++ [x])).s nn x
  have hts : (((R.wd (l ++ [x])).s.set nn x).1).wd l = ((R.wd l).s.set nn x).1 := set_wd R.s l (l ++ [x]) nn x
  obtain ⟨⟨t, tb⟩, hq⟩ : ∃ q, (R.wd (l ++ [x])).s.set nn x = q := ⟨_, rfl⟩
  rw [hq] at HS q1 q2 hts
  obtain ⟨tpc, td, trr, tfl, tsu, tpg, tie, trt, tve, tep, tca, tad, tes, tei, tco, tha⟩ := t
  obtain rfl : td = l ++ [x] := q1
  obtain rfl : trr = R.s.r := q2
  refine wc_seq_mid (fun q : (Option Addr × Nat × Option Addr × Nat) × Nat => [(2, .pointer (some ⟨bx, 0, none⟩)), (3, .pointer (some ⟨br, 0, none⟩)), (5, .pointer (some ⟨b5, 0, none⟩)), (10, .int .i64 ((R.wd (l ++ [x])).s.wpc pc).d.length), (13, .pointer (some ⟨q.2, 0, none⟩))]) (fun q => rsF br X (R.wd (l ++ [x])).s false ++ ruF K bx n U ++ [row b5 [.int .i64 67, .int .u32 nn] 79, row q.2 (St.cells ⟨tpc, l ++ [x], R.s.r, tfl, tsu, tpg, tie, trt, tve, tep, tca, tad, tes, tei, tco, tha⟩ (.slice q.1.1 (l ++ [x]).length q.1.2.1) (.slice q.1.2.2.1 R.s.r.length q.1.2.2.2)) 34, sl .u32 30 q.1.1 (l ++ [x]).length q.1.2.1 (l ++ [x]), sl .u32 30 q.1.2.2.1 R.s.r.length q.1.2.2.2 R.s.r]) (fun _ => True) ?_ ?_
  ·refine wc_draw ⟨fun j => List.elem j [17], []⟩ Zk ?_
   refine ZE 0 ?_
   refine ZE 1 ?_
   refine wa_ln 2 rfl Zk Zk Zk Zk (y_loadN (vs := St.cells (R.wd (l ++ [x])).s (.slice X.Ad (R.wd (l ++ [x])).s.d.length X.cd) (.slice X.Ar (R.wd (l ++ [x])).s.r.length X.cr)) (fun _ => rfl) (fun _ => rfl) (Zv rfl)) (row_cells Zh rfl) rfl ?_
   refine ZFe 3 1 ?_
   refine ZG 4 ?_
   refine wa_yn 5 rfl Zk Zk Zk (y_conv rfl rfl (Zv rfl) (IntWalk.i64_in _ ⟨by omega, by omega⟩)) rfl ?_
   refine ZFe 6 1 ?_
   refine ZG 7 ?_
   refine ZE 8 ?_
   refine wa_yn 9 rfl Zk Zk Zk (y_sub (Zv rfl) (Zv rfl) (show _ = (l.length : Int) from by rw [hdl1]; exact IntWalk.i64_in _ ⟨by omega, by omega⟩ |>.trans (by omega))) rfl ?_
   refine wa_yn 10 rfl Zk Zk Zk (y_index (j := l.length)  rfl (fun _ => rfl) (Zv rfl) (Zv rfl)  (fun _ => by omega) (fun _ => by omega)) rfl ?_
   refine wa_ln 11 rfl Zk Zk Zk Zk (y_load (fun _ => rfl) (Zv rfl)) (keepCell (fun w' hk => (h w' hk).d) (ints_at (snoc_get l x))) rfl ?_
   refine wa_2 12 16 Zk ?_ ?_
   ·refine ZT (fun w hi => HS X.Ad X.Ar X.cd X.cr w (hi.rdSt Zh Zh (show (R.wd (l ++ [x])).s.d.length * 4 ≤ _ by omega) (show (R.wd (l ++ [x])).s.r.length * 4 ≤ _ by omega))) ?_
    rintro _ _ ⟨_, ⟨A1, c1, A2, c2, rfl, rfl⟩, rfl⟩
    refine ZE 13 ?_
    refine ZE 14 ?_
    refine ZE 15 ?_
    refine wa_1 16 Zk ?_
    refine ZP fun b13 => ?_
    refine wa_1 17 Zk ?_
    refine wi_t0 rfl rfl (t_storeN (vs := St.cells ⟨tpc, l ++ [x], R.s.r, tfl, tsu, tpg, tie, trt, tve, tep, tca, tad, tes, tei, tco, tha⟩ (.slice A1 (l ++ [x]).length c1) (.slice A2 R.s.r.length c2)) (fun _ => rfl) rfl rfl (allT rfl) Za (by exact rfl)) (fun _ _ _ _ _ _ _ h => by cases h) ?_
    rintro _ _ ⟨rfl, rfl⟩
    refine ZE 18 ?_
    refine wa_done Zk ?_
    refine q_midP ((⟨⟨A1, c1, A2, c2⟩, b13⟩ : (Option Addr × Nat × Option Addr × Nat) × Nat)) ?_ ?_ ?_
    ·trivial
    ·exact Zwk
    exact Zj
   refine ZP fun b13 => ?_
   refine wa_1 12 Zk ?_
   refine ZT (fun w hi => HS X.Ad X.Ar X.cd X.cr w (hi.rdSt Zh Zh (show (R.wd (l ++ [x])).s.d.length * 4 ≤ _ by omega) (show (R.wd (l ++ [x])).s.r.length * 4 ≤ _ by omega))) ?_
   rintro _ _ ⟨_, ⟨A1, c1, A2, c2, rfl, rfl⟩, rfl⟩
   refine ZE 13 ?_
   refine ZE 14 ?_
   refine ZE 15 ?_
   refine wa_1 17 Zk ?_
   refine wi_t0 rfl rfl (t_storeN (vs := St.cells ⟨tpc, l ++ [x], R.s.r, tfl, tsu, tpg, tie, trt, tve, tep, tca, tad, tes, tei, tco, tha⟩ (.slice A1 (l ++ [x]).length c1) (.slice A2 R.s.r.length c2)) (fun _ => rfl) rfl rfl (allT rfl) Za (by exact rfl)) (fun _ _ _ _ _ _ _ h => by cases h) ?_
   rintro _ _ ⟨rfl, rfl⟩
   refine ZE 18 ?_
   refine wa_done Zk ?_
   refine q_midP ((⟨⟨A1, c1, A2, c2⟩, b13⟩ : (Option Addr × Nat × Option Addr × Nat) × Nat)) ?_ ?_ ?_
   ·trivial
   ·exact Zwk
   exact Zj
  rintro ⟨⟨A1, c1, A2, c2⟩, b13⟩ -
  dsimp only
  refine wc_fact (fun w hi => slv_some (hi.get (show Has _ (sl .u32 30 A1 (l ++ [x]).length c1 (l ++ [x])) from Zh)) (show 0 < (l ++ [x]).length by omega)) (fun hA => ?_)
  obtain ⟨bd2, rfl⟩ := hA
  refine wc_fact (fun w hi => (slv_rd (hi.get (show Has _ (sl .u32 30 (some ⟨bd2, 0, none⟩) (l ++ [x]).length c1 (l ++ [x])) from Zh))).cap) (fun hcap => ?_)
  refine Zs (Zr (ZA ?_))
  refine wl_loadRow Zh (fun _ => rfl) (fun _ => rfl) (Zv rfl) rfl ?_
  refine ZA ?_
  refine wl_t0 (t_storeRN (n := 16) (vs := St.cells ⟨tpc, l ++ [x], R.s.r, tfl, tsu, tpg, tie, trt, tve, tep, tca, tad, tes, tei, tco, tha⟩ (.slice (some ⟨bd2, 0, none⟩) (l ++ [x]).length c1) (.slice A2 R.s.r.length c2)) (fun _ => rfl) rfl rfl (allT rfl) Za rfl (by simp only [St.cells, List.length_cons, List.length_nil]; omega)) ?_
  rintro _ _ ⟨rfl, rfl⟩
  refine Zn (Zt (Zs (Zr (ZA ?_))))
  iterate 2 refine ZA ?_
  refine ZFa 1 ?_
  refine ZC ?_
  refine ZA ?_
  refine Zy (y_sub (Zv rfl) (Zv rfl) (show _ = (l.length : Int) from by rw [hdl1]; exact IntWalk.i64_in _ ⟨by omega, by omega⟩ |>.trans (by omega))) ?_
  refine Zy (y_slice0 (l.length) rfl (fun _ => rfl) (Zv rfl) (Zv rfl) (fun _ => by first | rfl | omega) (fun _ => by omega)) ?_
  refine ZA ?_
  refine ZFa 1 ?_
  refine ZL ?_
  refine Zn (Zt (Zs (Zr (ZA ?_))))
  iterate 2 refine ZA ?_
  refine ZFb 1 ?_
  refine ZD ?_
  iterate 2 refine ZB ?_
  refine ZFb 1 ?_
  refine ZD ?_
  iterate 2 refine ZB ?_
  refine ZA ?_
  refine Zn (Zt ?_)
  refine wc_cond _ rfl (fun hc14 => ?_) (fun hc14 => ?_)
  ·have hf : (nn == 1 || nn == 2) = true := (by simpa using hc14)
   rw [hf]
   simp only [cond_true]
   refine Zr (ZA ?_)
   refine wl_t (t_callS ([refURow bx K.bm U.t]) rfl (fun _ _ => rfl) Zi (fun w hi hin => refflush_ok bx K.bm U.t hT w hin)) rfl ?_
   rintro _ _ ⟨_, ⟨rfl, rfl⟩, rfl⟩
   refine Zn (Zo (Zt (Zs (Zr (ZA ?_)))))
   refine ZA ?_
   refine Zn (Zt (Ze (qok_conv (c := sl .u32 30 (some ⟨bd2, 0, none⟩) (l ++ [x]).length c1 (l ++ [x])) (c' := sl .u32 30 (some ⟨bd2, 0, none⟩) l.length c1 l) Za rfl (fun w h => sl_pop h) ?_)))
   refine qok_pick (rsF br ⟨some ⟨bd2, 0, none⟩, c1, A2, c2⟩ ⟨tpc, l, R.s.r, tfl, tsu, tpg, tie, trt, tve, tep, tca, tad, tes, tei, tco, tha⟩ false ++ ruF K bx n ⟨U.m, tflush⟩) Zj ?_
   refine ret2 (cs' := [row _ _ _, slv _ _ _ _ _ _, slv _ _ _ _ _ _, row _ _ _, row _ _ _, slv _ _ _ _ _ _, slv _ _ _ _ _ _]) (.inl rfl) Zu rfl rfl rfl ?_
   refine ⟨⟨some ⟨bd2, 0, none⟩, c1, A2, c2⟩, ⟨tpc, l, R.s.r, tfl, tsu, tpg, tie, trt, tve, tep, tca, tad, tes, tei, tco, tha⟩, ?_, ?_, fun _ => hts⟩
   ·show _ = Value.tuple #[.int .i64 R.trap.cause, .int .u32 R.trap.addr]; rw [show R.trap = Tr.none from ht]; rfl
   show _ = rsF br _ _ R.device ++ ruF K bx n ⟨U.m, tflush⟩; rw [show R.device = false from hdv]; rfl
  have hf : (nn == 1 || nn == 2) = false := (by simpa using hc14)
  rw [hf]
  simp only [cond_false]
  refine Zc (Zo (Zt (Zs (Zr (ZA ?_)))))
  refine ZA ?_
  refine Zn (Zt (Ze (qok_conv (c := sl .u32 30 (some ⟨bd2, 0, none⟩) (l ++ [x]).length c1 (l ++ [x])) (c' := sl .u32 30 (some ⟨bd2, 0, none⟩) l.length c1 l) Za rfl (fun w h => sl_pop h) ?_)))
  refine qok_pick (rsF br ⟨some ⟨bd2, 0, none⟩, c1, A2, c2⟩ ⟨tpc, l, R.s.r, tfl, tsu, tpg, tie, trt, tve, tep, tca, tad, tes, tei, tco, tha⟩ false ++ ruF K bx n U) Zj ?_
  refine ret2 (cs' := [row _ _ _, slv _ _ _ _ _ _, slv _ _ _ _ _ _, row _ _ _, row _ _ _, slv _ _ _ _ _ _, slv _ _ _ _ _ _]) (.inl rfl) Zu rfl rfl rfl ?_
  refine ⟨⟨some ⟨bd2, 0, none⟩, c1, A2, c2⟩, ⟨tpc, l, R.s.r, tfl, tsu, tpg, tie, trt, tve, tep, tca, tad, tes, tei, tco, tha⟩, ?_, ?_, fun _ => hts⟩
  ·show _ = Value.tuple #[.int .i64 R.trap.cause, .int .u32 R.trap.addr]; rw [show R.trap = Tr.none from ht]; rfl
  show _ = rsF br _ _ R.device ++ ruF K bx n U; rw [show R.device = false from hdv]; rfl
 refine Zs (Zr (ZA ?_))
 refine ZA ?_
 refine Zn (Zt ?_)
 refine wc_cond _ rfl (fun hc16 => ?_) (fun hc16 => ?_)
 ·obtain rfl := beqZ hc16
  obtain ⟨R, l, x, rfl⟩ := Run.snoc (show 1 ≤ R.s.d.length from hn)
  have hx := allR (l := l) hw
  obtain ⟨va, rfl⟩ : ∃ va : Nat, x = va := Int.eq_ofNat_of_zero_le hx.1
  have hva : va ≤ 4294967295 := (by have : (va : Int) ≤ _ := hx.2; omega)
  have hlen : (l ++ [(va : Int)]).length = l.length + 1 := (by simp)
  have hdl1 : ((R.wd (l ++ [(va : Int)])).s.wpc pc).d.length = l.length + 1 := hlen
  have hdl2 : (R.wd (l ++ [(va : Int)])).s.d.length = l.length + 1 := hlen
  have hm : otherTo n 68 nn ⟨R.wd (l ++ [(va : Int)]), U, d⟩ = ⟨R.wd l, ⟨U.m, tdrop U.t va⟩, d⟩ := (by show Mach.mk _ _ _ = _; rw [Run.pop_wd, Run.top_wd, Int.toNat_natCast])
  rw [hm]
  obtain ⟨ad, rfl⟩ := (h w (Keep.refl _ _)).d.some_ (by rw [hdl1]; omega)
  obtain ⟨XA, Xc, XB, Xd⟩ := X
  refine Zs (Zs (Zr (ZA ?_)))
  refine ZA ?_
  refine Zn (Zt (wc_cond_t rfl (rfl) ?_))
  refine Zr (ZA ?_)
  refine ZFa 1 ?_
  refine ZC ?_
  refine ZA ?_
  refine Zy (y_sub (Zv rfl) (Zv rfl) (show _ = (l.length : Int) from by rw [hdl1]; exact IntWalk.i64_in _ ⟨by omega, by omega⟩ |>.trans (by omega))) ?_
  refine Zy (y_index (j := l.length)  rfl (fun _ => rfl) (Zv rfl) (Zv rfl)  (fun _ => by omega) (fun _ => by omega)) ?_
  refine wl_y (y_load (fun _ => rfl) (Zv rfl)) (keepCell (fun w' hk => (h w' hk).d) (ints_at (snoc_get l (va : Int)))) rfl ?_
  refine wl_t (t_callS ([refURow bx K.bm U.t]) rfl (fun _ _ => rfl) Zi (fun w hi hin => refdrop_ok bx K.bm U.t hT va hva w hin)) rfl ?_
  rintro _ _ ⟨_, ⟨rfl, rfl⟩, rfl⟩
  refine Zn (Zt (Zr ?_))
  refine wl_fact (fun w hi => slv_some (hi.get (show Has _ (slD (R.wd (l ++ [(va : Int)])).s XA Xc) from Zh)) (show 0 < (l ++ [(va : Int)]).length by omega)) (fun hA => ?_)
  obtain ⟨bd2, rfl⟩ := hA
  refine wl_fact (fun w hi => (slvok_rd (hi.get (show Has _ (slD (R.wd (l ++ [(va : Int)])).s (some ⟨bd2, 0, none⟩) Xc) from Zh))).cap) (fun hcap => ?_)
  have hcap : (l ++ [(va : Int)]).length ≤ Xc := hcap
  have hcap2 : (l ++ [(va : Int)]).length ≤ (SAdr.mk (some ⟨bd2, 0, none⟩) Xc XB Xd).cd := hcap
  iterate 3 refine ZA ?_
  refine ZFa 1 ?_
  refine ZC ?_
  refine ZA ?_
  refine Zy (y_sub (Zv rfl) (Zv rfl) (show _ = (l.length : Int) from by rw [hdl1]; exact IntWalk.i64_in _ ⟨by omega, by omega⟩ |>.trans (by omega))) ?_
  refine Zy (y_slice0 (l.length) rfl (fun _ => rfl) (Zv rfl) (Zv rfl) (fun _ => by first | rfl | omega) (fun _ => by omega)) ?_
  refine ZA ?_
  refine ZFa 1 ?_
  refine ZL ?_
  refine Zn (Zo (Zt (Zs (Zr (ZA ?_)))))
  refine ZA ?_
  refine Zn (Zt (Ze (qok_conv (c := slD (R.wd (l ++ [(va : Int)])).s (some ⟨bd2, 0, none⟩) Xc) (c' := slD (R.wd l).s (some ⟨bd2, 0, none⟩) Xc) Za rfl (fun w h => sl_pop h) ?_)))
  refine qok_pick (rsF br ⟨some ⟨bd2, 0, none⟩, Xc, XB, Xd⟩ (R.wd l).s false ++ ruF K bx n ⟨U.m, tdrop U.t va⟩) Zj ?_
  refine ret2 (cs' := [row _ _ _, slv _ _ _ _ _ _, slv _ _ _ _ _ _, row _ _ _, row _ _ _, slv _ _ _ _ _ _, slv _ _ _ _ _ _]) (.inl rfl) Zu rfl rfl rfl ?_
  refine ⟨⟨some ⟨bd2, 0, none⟩, Xc, XB, Xd⟩, (R.wd l).s, ?_, ?_, fun _ => rfl⟩
  ·show _ = Value.tuple #[.int .i64 R.trap.cause, .int .u32 R.trap.addr]; rw [show R.trap = Tr.none from ht]; rfl
  show _ = rsF br _ _ R.device ++ ruF K bx n ⟨U.m, tdrop U.t va⟩; rw [show R.device = false from hdv]; rfl
 refine Zs (Zr (ZA ?_))
 refine ZA ?_
 refine Zn (Zt ?_)
 refine wc_cond _ rfl (fun hc20 => ?_) (fun hc20 => ?_)
 ·obtain rfl := beqZ hc20
  have hm : otherTo n 69 nn ⟨R, U, d⟩ = ⟨R.ws R.s.halt, U, d⟩ := rfl
  rw [hm]
  refine Zr (ZA ?_)
  refine ZA ?_
  refine ZFa 15 ?_
  refine ZL ?_
  refine Zn (Zo (Zt (Zs (Zr (ZA ?_)))))
  refine ZA ?_
  refine Zn (Zt (Ze (ret2 (cs' := [row _ _ _, slv _ _ _ _ _ _, slv _ _ _ _ _ _, row _ _ _, row _ _ _, slv _ _ _ _ _ _, slv _ _ _ _ _ _]) (.inl rfl) Zu rfl rfl rfl ?_)))
  refine ⟨X, R.s.halt, ?_, ?_, fun _ => rfl⟩
  ·show _ = Value.tuple #[.int .i64 R.trap.cause, .int .u32 R.trap.addr]; rw [ht]; rfl
  show _ = rsF br X R.s.halt R.device ++ ruF K bx n U; rw [hdv]; rfl
 (simp only [beq_eq_false_iff_ne, ne_eq] at hc3 hc5 hc7 hc10 hc16 hc20; omega)
end Go.Proofs.YthcpmpmbgbibfaaGreatDoor
