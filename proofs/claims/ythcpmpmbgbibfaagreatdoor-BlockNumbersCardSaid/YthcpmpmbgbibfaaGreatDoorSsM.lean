/- The document's Do. -/
import Derived.Test.YthcpmpmbgbibfaaGreatDoorSsL
import Derived.Test.YthcpmpmbgbibfaaGreatDoorInkA
import Derived.Test.YthcpmpmbgbibfaaGreatDoorInkR
set_option linter.unusedSimpArgs false
set_option linter.unusedVariables false
set_option maxRecDepth 100000
namespace Go.Ink
open Go.RowKit
/-- What the document makes of what a part came to. -/
def endS (s x : St) (m : Mach) : Res × Mmu × Dev :=
 (⟨bif m.r.trap.cause != 0 then s.next.trap m.r.trap.cause m.r.trap.addr else x.next, m.r.trap.cause != 0, m.r.device, trues m.u.m.turned 64⟩, m.u, m.d)
theorem doTo_bad {n : Nat} {s : St} {op nn : Int} {U : Mmu} {d : Dev} (h : s.right = true) (hc : checkOf s op nn ≠ 0) : doTo n s op nn U d = endS s s ⟨⟨s, s.count, ⟨checkOf s op nn, 0⟩, false⟩, ⟨U.m.calm, U.t⟩, d⟩ := by
 have e : (checkOf s op nn != 0) = true := by simpa using hc
 unfold doTo endS
 rw [h]
 simp only [e, Bool.not_true, cond_true, cond_false]
 rw [show trues U.m.calm.turned 64 = [] from trues_calm]
theorem act_count (n : Nat) (op nn : Int) (R : Run) (U : Mmu) (d : Dev) : (actTo n op nn R U d).r.s.count = R.s.count := by
 have h := act_wc (n := n) (op := op) (nn := nn) (R := R) (U := U) (d := d) (c := R.s.count)
 rw [show R.wc R.s.count = R from rfl] at h
 rw [h]
abbrev runR (s : St) (op : Int) : Run := ⟨s.wpc (IntKind.u32.wrap (s.pc + IntKind.u32.wrap (opSize op))), s.count, Tr.none, false⟩
theorem doTo_good {n : Nat} {s x : St} {op nn : Int} {U : Mmu} {d : Dev} {m : Mach} (h : s.right = true) (hc : checkOf s op nn = 0) (hm : actTo n op nn (runR s op) ⟨U.m.calm, U.t⟩ d = m) (hx : m.r.trap.cause = 0 → x = m.r.s) : doTo n s op nn U d = endS s x m := by
 have hw : midTo n s op nn ⟨U.m.calm, U.t⟩ d = m.wc (IntKind.u64.wrap (s.count + 1)) := by
  rw [mid_act, ← hm, ← act_wc]
  rfl
 have hcn : m.r.s.count = s.count := by rw [← hm, act_count]
 have e : (checkOf s op nn != 0) = false := by rw [hc]; rfl
 unfold doTo endS
 rw [h]
 simp only [e, Bool.not_true, cond_false, hw]
 unfold endTo
 cases ht : (m.r.trap.cause != 0) with
 | true => simp only [ht, cond_true]
 | false =>
  have hx := hx (by simpa using ht)
  subst hx
  simp only [ht, cond_false]
  show (Res.mk (m.r.s.wcount (IntKind.u64.wrap (s.count + 1))) false m.r.device (trues m.u.m.turned 64), m.u, m.d) = _
  rw [← hcn]
theorem check_right {s : St} {op nn : Int} (h : checkOf s op nn = 0) : opRight op nn = true := by
 unfold checkOf at h
 cases e : opRight op nn with
 | true => rfl
 | false => rw [e] at h; cases h
end Go.Ink
namespace Go.Proofs.YthcpmpmbgbibfaaGreatDoor
open Go.RowKit Go.Ink
attribute [local irreducible] OpY GuardIs

set_option maxHeartbeats 4000000 in
theorem refdo_ok (s : St) (hs : s.right = true) (hwf : s.wf) (K : RMLoc) (bx n : Nat) (U : Mmu) (b bd : Nat) (Z : DAdr) (d : Dev) (hM : MOk n U.m) (hT : U.t.length = 16) (hd : d.wf) (ho : d.out.length ≤ 1000000000) (op nn : Int) (hnu : u32 nn)
  (Ad Ar : Option Addr) (cd cr : Nat) (w : World) (hi : Inv w (blocks (ruF K bx n U ++ refBF b K.bm bd Z d)) (ruF K bx n U ++ refBF b K.bm bd Z d) w)
  (h : ∀ w', Keep (blocks (ruF K bx n U ++ refBF b K.bm bd Z d)) w w' → RdSt w' s Ad Ar cd cr) :
  Ctr Tryz.prog 44 [sv s Ad cd Ar cr, .agg #[.int .i64 op, .int .u32 nn], .pointer (some ⟨bx, 0, none⟩), .pointer (some ⟨b, 0, none⟩)] w (ruF K bx n U ++ refBF b K.bm bd Z d)
   (fun v cs => ∃ X Z' Ap cp, v = .agg (resCells (doTo n s op nn U d).1 X Ap cp).toArray ∧ cs = resF (doTo n s op nn U d).1 X Ap cp ++ (ruF K bx n (doTo n s op nn U d).2.1 ++ refBF b K.bm bd Z' (doTo n s op nn U d).2.2)) := by
 have HR := refright_ok s Ad Ar cd cr
 rw [hs] at HR
 have HK := refcheck_ok s Ad Ar cd cr op nn hnu
 have hbd := (h w (Keep.refl _ _)).hd
 have hbr := (h w (Keep.refl _ _)).hr
 obtain ⟨hd16, hr16, -⟩ := St.fits hs
 have HB := fun hc => doTo_bad (n := n) (s := s) (op := op) (nn := nn) (U := U) (d := d) hs hc
 have HG := fun hc m hm x hx => doTo_good (n := n) (s := s) (x := x) (op := op) (nn := nn) (U := U) (d := d) (m := m) hs hc hm hx
 have hck1 := check_right (s := s) (op := op) (nn := nn)
 have hck2 := checkOf_zero (s := s) (op := op) (n := nn)
 obtain ⟨ck, hck⟩ : ∃ b, checkOf s op nn = b := ⟨_, rfl⟩
 rw [hck] at HK HB HG hck1 hck2
 have HZ := refsize_ok op
 have hMc : MOk n (Mmu.mk U.m.calm U.t).m := hM.calm
 obtain ⟨R0, hR0⟩ : ∃ R, runR s op = R := ⟨_, rfl⟩
 rw [hR0] at HG
 unfold runR at hR0
 obtain ⟨sz, hsz⟩ : ∃ b, opSize op = b := ⟨_, rfl⟩
 rw [hsz] at HZ hR0
 obtain ⟨pc', hpc⟩ : ∃ b, IntKind.u32.wrap (s.pc + IntKind.u32.wrap sz) = b := ⟨_, rfl⟩
 rw [hpc] at hR0
 obtain ⟨D, hD⟩ : ∃ q, doTo n s op nn U d = q := ⟨_, rfl⟩
 rw [hD] at HB HG ⊢
 refine fn_ctr Tryz.func44 rfl Tryz.ntmps44 rfl hi ?_
 refine Zs (Zr (ZO fun b4 => ?_))
 refine ZO fun b5 => ?_
 refine ZN fun b8 => ?_
 refine Zn (Zt (Zs (Zs (Zr (wl_loadRow Zh (fun _ => rfl) (fun _ => rfl) (Zv rfl) rfl ?_)))))
 refine ZS (fun w hi => HR w) ?_
 rintro _ _ ⟨_, ⟨rfl, rfl⟩, rfl⟩
 refine ZA ?_
 refine Zn (Zt (wc_cond_f rfl (rfl) ?_))
 refine Zc (Zt (Zs (Zs (Zr (ZA ?_)))))
 refine ZA ?_
 refine Zn (Zt (wc_cond_t rfl (rfl) ?_))
 refine Zr (ZA ?_)
 refine ZA ?_
 refine ZFa 0 ?_
 refine ZC ?_
 refine wl_t (t_callS (rmF K n U.m) rfl (fun _ _ => rfl) Zi (fun w hi hin => refcalm_ok K n U.m hM w hin)) rfl ?_
 rintro _ _ ⟨_, ⟨rfl, rfl⟩, rfl⟩
 refine Zn (Zt (Zs (Zr (wl_loadRow Zh (fun _ => rfl) (fun _ => rfl) (Zv rfl) rfl ?_))))
 refine wl_loadRow Zh (fun _ => rfl) (fun _ => rfl) (Zv rfl) rfl ?_
 refine ZS (fun w hi => HK w (h w hi.keep)) ?_
 rintro _ _ ⟨_, ⟨rfl, rfl⟩, rfl⟩
 iterate 2 refine ZA ?_
 refine Zn (Zt (Zs (Zr (wl_loadRow Zh (fun _ => rfl) (fun _ => rfl) (Zv rfl) rfl ?_))))
 refine ZS (fun w hi => refcopy_ok s Ad Ar cd cr w (h w hi.keep)) ?_
 rintro _ _ ⟨_, ⟨A1, c1, A2, c2, rfl, rfl⟩, rfl⟩
 refine ZA ?_
 refine ZN fun b11 => ?_
 refine ZM ?_
 refine Zn (Zt ?_)
 refine wc_seq_mid (fun q : SAdr × St × DAdr × Mach => [(2, .pointer (some ⟨bx, 0, none⟩)), (4, .pointer (some ⟨b4, 0, none⟩)), (8, .pointer (some ⟨b8, 0, none⟩)), (9, .int .i64 q.2.2.2.r.trap.cause), (10, .int .u32 q.2.2.2.r.trap.addr), (11, .pointer (some ⟨b11, 0, none⟩))]) (fun q => reF b11 q.1 q.2.1 q.2.2.2.r.device K bx n q.2.2.2.u b bd q.2.2.1 q.2.2.2.d ++ [row b4 (s.cells (.slice Ad s.d.length cd) (.slice Ar s.r.length cr)) 34, row b8 [.int .u32 0, .slice none 0 0, .slice none 0 0, .int .u32 0, .bool false, .bool false, .bool false, .int .u32 0, .int .u32 0, .int .u32 0, .int .u32 0, .int .u32 0, .bool false, .bool false, .int .u64 0, .bool false, .bool false, .bool false, .slice none 0 0] 105]) (fun q => D = endS s q.2.1 q.2.2.2 ∧ MOk n q.2.2.2.u.m) ?_ ?_
 ·refine Zs (Zr (ZA ?_))
  refine ZA ?_
  refine Zn (Zt ?_)
  refine wc_cond _ rfl (fun hc7 => ?_) (fun hc7 => ?_)
  ·have hck0 : ck = 0 := (by simpa using hc7)
   subst hR0
   obtain ⟨n1, n2⟩ := hck2 hck0
   have HA := fun X w hin h => refact_ok b11 X ⟨s.wpc pc', s.count, Tr.none, false⟩ K bx n ⟨U.m.calm, U.t⟩ b bd Z d hMc hT hd ho op nn s.pc (right_in (hck1 hck0)) hnu hwf.d (show s.d.length ≤ 100000 by omega) (show s.r.length ≤ 100000 by omega) n1 n2 hwf.root rfl rfl rfl Ad Ar cd cr w hin h
   refine Zs (wc_draw ⟨fun j => List.elem j [9], []⟩ Zk ?_)
   refine ZFe 0 0 ?_
   refine ZG 1 ?_
   refine ZFe 2 0 ?_
   refine ZG 3 ?_
   refine wa_1 4 Zk ?_
   refine ZT (fun w hi => HZ w) ?_
   rintro _ _ ⟨_, ⟨rfl, rfl⟩, rfl⟩
   refine wa_yn 5 rfl Zk Zk Zk (y_conv rfl rfl (Zv rfl) rfl) rfl ?_
   refine wa_yn 6 rfl Zk Zk Zk (y_add (Zv rfl) (Zv rfl) hpc) rfl ?_
   refine ZFe 7 0 ?_
   refine ZFe 8 0 ?_
   refine wa_1 9 Zk ?_
   refine ZQ ?_
   refine wa_done Zk ?_
   refine Zt (Zr (wl_loadRow Zh (fun _ => rfl) (fun _ => rfl) (Zv rfl) rfl ?_))
   refine wl_loadRow Zh (fun _ => rfl) (fun _ => rfl) (Zv rfl) rfl ?_
   iterate 2 refine ZA ?_
   refine wl_t (t_callS (reF b11 ⟨A1, c1, A2, c2⟩ (s.wpc pc') false K bx n ⟨U.m.calm, U.t⟩ b bd Z d) rfl (fun _ _ => rfl) Zi (fun w hi hin => HA ⟨A1, c1, A2, c2⟩ w hin (fun w' hk => h w' (hi.past (fun c hc => by simp only [reF, rsF, ruF, rmF, refMF, refBF, List.mem_append, List.mem_cons, List.mem_nil_iff] at hc ⊢; grind) hk)))) rfl ?_
   rintro _ _ ⟨_, ⟨X', x', Z', rfl, rfl, hx'⟩, rfl⟩
   iterate 5 refine ZA ?_
   refine Zn ?_
   refine q_midP ((⟨X', x', Z', actTo n op nn ⟨s.wpc pc', s.count, Tr.none, false⟩ ⟨U.m.calm, U.t⟩ d⟩ : SAdr × St × DAdr × Mach)) ?_ ?_ ?_
   ·exact ⟨HG hck0 _ rfl _ hx', hMc.act hd hwf.d⟩
   ·exact Zwk
   exact Zj
  refine Zc ?_
  refine q_midP ((⟨⟨A1, c1, A2, c2⟩, s, Z, ⟨⟨s, s.count, ⟨ck, 0⟩, false⟩, ⟨U.m.calm, U.t⟩, d⟩⟩ : SAdr × St × DAdr × Mach)) ?_ ?_ ?_
  ·exact ⟨HB (by simpa using hc7), hMc⟩
  ·exact Zwk
  exact Zj
 rintro ⟨X, x, Z', m⟩ ⟨hm, hmM⟩
 dsimp only at hm hmM ⊢
 refine Zs (Zs (Zr (ZA ?_)))
 refine ZA ?_
 refine Zn (Zt ?_)
 refine wc_cond _ rfl (fun hc10 => ?_) (fun hc10 => ?_)
 ·have he : endS s x m = (⟨s.next.trap m.r.trap.cause m.r.trap.addr, true, m.r.device, trues m.u.m.turned 64⟩, m.u, m.d) := (by unfold endS; rw [condT hc10, hc10])
  rw [he] at hm
  subst hm
  refine Zs (Zr (wl_loadRow Zh (fun _ => rfl) (fun _ => rfl) (Zv rfl) rfl ?_))
  iterate 2 refine ZA ?_
  refine ZS (fun w hi => reftrap_ok s Ad Ar cd cr m.r.trap.cause m.r.trap.addr w (h w hi.keep)) ?_
  rintro _ _ ⟨_, ⟨A7, c7, A8, c8, rfl, rfl⟩, rfl⟩
  refine ZFa 0 ?_
  refine wl_t0 (t_storeRX (ys := resCells ⟨s.trap m.r.trap.cause m.r.trap.addr, false, m.r.device, []⟩ ⟨A7, c7, A8, c8⟩ none 0) (n := 16) (vs := (s.trap m.r.trap.cause m.r.trap.addr).cells (.slice A7 (s.trap m.r.trap.cause m.r.trap.addr).d.length c7) (.slice A8 (s.trap m.r.trap.cause m.r.trap.addr).r.length c8)) rfl (fun _ => rfl) rfl rfl (allT rfl) Za rfl (by simp only [List.length_cons, List.length_nil]; omega)) ?_
  rintro _ _ ⟨rfl, rfl⟩
  refine Zn (Zt (Zr (ZFa 16 ?_)))
  refine ZL ?_
  refine Zn (Zt (Zs (Zr (ZFa 0 ?_))))
  refine ZFa 14 ?_
  refine ZC ?_
  refine Zy (y_add (Zv rfl) (Zv rfl) rfl) ?_
  refine ZFa 0 ?_
  refine ZFa 14 ?_
  refine ZL ?_
  refine Zn (Zt (Zs (Zs (Zr (ZA ?_)))))
  refine ZA ?_
  refine Zn (Zt (wc_cond_t rfl (rfl) ?_))
  refine Zr (ZA ?_)
  refine ZA ?_
  refine ZFa 0 ?_
  refine ZC ?_
  refine ZS (fun w hi => refpages_ok K n m.u.m hmM w (hi.get (show Has _ (rmRow K n) from Zh)) (hi.get (show Has _ (slv 4 1 (some ⟨K.bT, 0, none⟩) n n (bools (m.u.m.turned.take n))) from Zh))) ?_
  rintro _ _ ⟨_, ⟨Ap, cp, rfl, rfl⟩, rfl⟩
  refine ZFa 18 ?_
  refine ZL ?_
  refine Zn (Zt (Zs (Zr (wl_loadRow Zh (fun _ => rfl) (fun _ => rfl) (Zv rfl) rfl ?_))))
  refine ZM ?_
  refine Zn (Zt (Ze (qok_pick ([row b8 (resCells ⟨s.next.trap m.r.trap.cause m.r.trap.addr, true, m.r.device, trues m.u.m.turned 64⟩ ⟨A7, c7, A8, c8⟩ Ap cp) 105] ++ (resF ⟨s.next.trap m.r.trap.cause m.r.trap.addr, true, m.r.device, trues m.u.m.turned 64⟩ ⟨A7, c7, A8, c8⟩ Ap cp ++ (ruF K bx n m.u ++ refBF b K.bm bd Z' m.d))) Zj ?_)))
  refine retC (cs' := [slv _ _ _ _ _ _, slv _ _ _ _ _ _, slv _ _ _ _ _ _, row _ _ _, row _ _ _, slv _ _ _ _ _ _, slv _ _ _ _ _ _, row _ _ _, slv _ _ _ _ _ _, rdC _ _ _ _, slv _ _ _ _ _ _]) (.inl rfl) Zu rfl rfl Zh (fun _ => rfl) (fun _ => rfl) ?_
  exact ⟨⟨A7, c7, A8, c8⟩, Z', Ap, cp, rfl, rfl⟩
 have he : endS s x m = (⟨x.next, false, m.r.device, trues m.u.m.turned 64⟩, m.u, m.d) := (by unfold endS; rw [condF hc10, hc10])
 rw [he] at hm
 subst hm
 refine Zc (Zt (Zs (Zr (ZFa 0 ?_))))
 refine ZFa 14 ?_
 refine ZC ?_
 refine Zy (y_add (Zv rfl) (Zv rfl) rfl) ?_
 refine ZFa 0 ?_
 refine ZFa 14 ?_
 refine ZL ?_
 refine Zn (Zt (Zs (Zs (Zr (ZA ?_)))))
 refine ZA ?_
 refine Zn (Zt (wc_cond_t rfl (rfl) ?_))
 refine Zr (ZA ?_)
 refine ZA ?_
 refine ZFa 0 ?_
 refine ZC ?_
 refine ZS (fun w hi => refpages_ok K n m.u.m hmM w (hi.get (show Has _ (rmRow K n) from Zh)) (hi.get (show Has _ (slv 4 1 (some ⟨K.bT, 0, none⟩) n n (bools (m.u.m.turned.take n))) from Zh))) ?_
 rintro _ _ ⟨_, ⟨Ap, cp, rfl, rfl⟩, rfl⟩
 refine ZFa 18 ?_
 refine ZL ?_
 refine Zn (Zt (Zs (Zr (wl_loadRow Zh (fun _ => rfl) (fun _ => rfl) (Zv rfl) rfl ?_))))
 refine ZM ?_
 refine Zn (Zt (Ze (qok_pick ([row b8 (resCells ⟨x.next, false, m.r.device, trues m.u.m.turned 64⟩ X Ap cp) 105] ++ (resF ⟨x.next, false, m.r.device, trues m.u.m.turned 64⟩ X Ap cp ++ (ruF K bx n m.u ++ refBF b K.bm bd Z' m.d))) Zj ?_)))
 refine retC (cs' := [slv _ _ _ _ _ _, slv _ _ _ _ _ _, slv _ _ _ _ _ _, row _ _ _, row _ _ _, slv _ _ _ _ _ _, slv _ _ _ _ _ _, row _ _ _, slv _ _ _ _ _ _, rdC _ _ _ _, slv _ _ _ _ _ _]) (.inl rfl) Zu rfl rfl Zh (fun _ => rfl) (fun _ => rfl) ?_
 exact ⟨X, Z', Ap, cp, rfl, rfl⟩
end Go.Proofs.YthcpmpmbgbibfaaGreatDoor
