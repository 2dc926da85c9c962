/- The law BlockIrqs: the lowest line that is raised and open is told. -/
import Derived.Test.YtojejamfaeednaaGreatDoorBkM
import Derived.Test.YtojejamfaeednaaGreatDoorInkA
import Derived.Test.YtojejamfaeednaaGreatDoorBkQ
set_option linter.unusedSimpArgs false
set_option linter.unusedVariables false
set_option maxRecDepth 100000
namespace Go.Ink
open Go.RowKit
def nops (i : Nat) : List (Int × Int) := List.replicate i (0, 0)
theorem nops_step (i : Nat) : (nops i).flatMap insCells ++ [.int .i64 0, .int .u32 0] = (nops (i + 1)).flatMap insCells := by
 unfold nops
 rw [List.replicate_succ', List.flatMap_append]
 rfl
theorem nops_len : (nops 60).length = 60 := List.length_replicate
theorem nops_code : (codeOf (nops 60)).length = 60 := by decide +kernel
abbrev dIrq (d : Dev) (p m : Nat) : Dev := ⟨(p : Int), (m : Int), d.timer, d.out, d.inp, d.disk, d.sector, d.place, d.status⟩
theorem shr_line {v k : Nat} (hk : k < 8) : Int.fdiv (v : Int) (2 ^ (min (Int.toNat (k : Int)) IntKind.u32.bits)) = ((v / 2 ^ k : Nat) : Int) := by
 have e : min (Int.toNat (k : Int)) IntKind.u32.bits = k := by show min (Int.toNat (k : Int)) 32 = k; omega
 rw [e, Int.fdiv_eq_ediv_of_nonneg _ (by exact Int.le_of_lt (Int.pow_pos (by decide)))]
 simp
theorem tmod_two (y : Nat) : Int.tmod (y : Int) 2 = ((y % 2 : Nat) : Int) := by rw [Int.tmod_eq_emod_of_nonneg (by omega)]; omega
/-- What a beginning leaves, as the law asks for it. -/
theorem begin_law {n : Nat} {s : St} {U : Mmu} {d : Dev} {p m : Nat} {want : Int} (hw : want = lowSay (p &&& m)) (hp : p < 256) (hm : m < 256) (hr : s.right = true) (hh : s.halted = false) (hpg : s.paging = false) (hd : s.d = []) (hrr : s.r = []) (ht : d.timer = 0) (h1 : d.pend = (p : Int)) (h2 : d.mask = (m : Int)) (h0 : 0 ≤ s.pc) (h0' : s.pc < ((n * 64 : Nat) : Int)) (hv : 0 ≤ s.vec) (hv' : s.vec < ((n * 64 : Nat) : Int)) :
  ∃ sB plB, beginTo n s U d = ⟨sB, plB, true, U, d⟩ ∧ sB.count = s.count ∧ sB.d = [] ∧ sB.r = [] ∧ ((decide (want < 0) || !s.ie) = true → sB = s ∧ plB = s.pc) ∧ ((decide (want < 0) || !s.ie) = false → sB = s.trap (16 + want) 0 ∧ plB = s.vec) := by
 subst hw
 rw [begin_plain hp hm hr hh hpg ht h1 h2 h0 h0' hv hv']
 cases h : (decide (lowSay (p &&& m) < 0) || !s.ie) with
 | true => exact ⟨s, s.pc, rfl, rfl, hd, hrr, fun _ => ⟨rfl, rfl⟩, (by intro e; cases e)⟩
 | false => exact ⟨s.trap (16 + lowSay (p &&& m)) 0, s.vec, rfl, rfl, hd, hrr, (by intro e; cases e), fun _ => ⟨rfl, rfl⟩⟩
end Go.Ink
namespace Go.Proofs.YtojejamfaeednaaGreatDoor
open Go.RowKit Go.Ink
attribute [local irreducible] OpY GuardIs

theorem keepState_ok (s t : St) (Ad Ar Bd Br : Option Addr) (cd cr ed er : Nat) (w : World) (h : RdSt w s Ad Ar cd cr) (h2 : RdSt w t Bd Br ed er) :
  Ctr Tryz.prog 18 [sv s Ad cd Ar cr, sv t Bd ed Br er] w [] (fun v cs => v = .bool (s.rsame t) ∧ cs = []) := by
 have HS := fun w h h2 => rSame_ok s t Ad Ar Bd Br cd cr ed er w h h2
 refine fn_ctr Tryz.func18 rfl Tryz.ntmps18 rfl (Inv.start w) ?_
 refine Zs (Zr (ZO fun b2 => ?_))
 refine ZO fun b3 => ?_
 refine ZA ?_
 refine Zn (Zt (Zs (Zr (wl_loadRow Zh (fun _ => rfl) (fun _ => rfl) (Zv rfl) rfl ?_))))
 refine wl_loadRow Zh (fun _ => rfl) (fun _ => rfl) (Zv rfl) rfl ?_
 refine wl_callg guard_none (.cons (Zv rfl) (.cons (Zv rfl) .nil)) (fun _ _ => rfl) (fun hg w hi => HS w (h.oldN hi) (h2.oldN hi)) rfl ?_
 refine ZA ?_
 refine Zn (Zt (Ze (ret1 (cs' := []) (.inl rfl) Zu rfl rfl ?_)))
 exact ⟨rfl, rfl⟩
set_option maxHeartbeats 4000000 in
theorem blockIrqs_ok (A : Option Addr) (c : Nat) (l : List Int) (v : Int) (ie : Bool) (pc : Int) (hv : u32 v) (hpc : u32 pc) (w : World) (h : Rd w .i64 A l.length c l) (ht : TabOk w) :
  Ctr Tryz.prog 7 [.slice A l.length c, .int .u32 v, .bool ie, .int .u32 pc] w [] (fun v cs => v = .bool true ∧ cs = []) := by
 have hlm : l.length ≤ maxLen := Nat.le_trans h.cap h.max
 simp only [maxLen] at hlm
 obtain ⟨hv0, hv1⟩ := hv
 obtain ⟨hpc0, hpc1⟩ := hpc
 obtain ⟨v, rfl⟩ : ∃ m : Nat, v = m := Int.eq_ofNat_of_zero_le hv0
 have hvm : v < 4294967296 := by omega
 obtain ⟨p0, hp0⟩ : ∃ m : Nat, pc % 40 = m := ⟨(pc % 40).toNat, by omega⟩
 have hp40 : p0 < 40 := by omega
 obtain ⟨m8, hm8⟩ : ∃ m, v % 256 = m := ⟨_, rfl⟩
 have hm256 : m8 < 256 := by omega
 have h255 := bits_255 hvm
 rw [hm8] at h255
 have hb : u8s (codeOf (nops 60)) := codeTo_u8 _ _
 have hcl := nops_code
 have HC := fun A c w h => code_ok A c (nops 60) (by rw [nops_len]; decide) w h
 rw [nops_len] at HC
 obtain ⟨bb, hbb⟩ : ∃ b, codeOf (nops 60) = b := ⟨_, rfl⟩
 rw [hbb] at HC hb hcl
 have HF := fun A c w h => fresh18_ok A none c 0 2 bb [] (by decide) (by decide) (by omega) hb (by decide) w h (rdNil w .u8)
 have hUt : (⟨Mem.init 2 bb, tflush⟩ : Mmu).t.length = 16 := tflush_len
 unfold fr18 at HF
 obtain ⟨d1, hd, htm⟩ : ∃ d1, Dev.init [] = dIrq d1 0 0 ∧ d1.timer = 0 := ⟨Dev.init [], rfl, rfl⟩
 obtain ⟨data, hda⟩ : ∃ d, refData 2 bb = d := ⟨_, rfl⟩
 obtain ⟨tu, htu⟩ : ∃ d, List.replicate 2 false = d := ⟨_, rfl⟩
 obtain ⟨M, hM⟩ : ∃ M, Mem.init 2 bb = M := ⟨_, rfl⟩
 obtain ⟨T0, hTT⟩ : ∃ T, tflush = T := ⟨_, rfl⟩
 rw [hda, htu, hM, hd, hTT] at HF
 rw [hM, hTT] at hUt
 have hs0 : (⟨(p0 : Int), [], [], 0, true, false, ie, 0, 50, 0, 0, 0, false, false, 0, false⟩ : St).wf := ⟨(show u32 (p0 : Int) from ⟨by omega, by omega⟩), u0, u0, (show u32 50 from ⟨by decide, by decide⟩), u0, u0, u0, new_wf.count, new_wf.d, new_wf.r⟩
 refine fn_ctr Tryz.func7 rfl Tryz.ntmps7 rfl (Inv.start w) ?_
 refine Zs (Zr (ZA ?_))
 refine Zn (Zt (Zs (Zr (ZA ?_))))
 refine Zn (Zt (Zs (Zs (Zr (wl_nilc 48 2 ?_)))))
 refine ZA ?_
 refine Zn (Zt (Zx ?_))
 refine wc_loop (fun q : Nat × Option Addr × Nat => [(0, .slice A l.length c), (1, .int .u32 (v : Int)), (2, .bool ie), (3, .int .u32 pc), (9, .slice q.2.1 q.1 q.2.2), (10, .int .i64 (q.1 : Int))]) (fun q => [slv 48 2 q.2.1 q.1 q.2.2 ((nops q.1).flatMap insCells)]) (fun q => q.1 ≤ 60) (fun q => 60 - q.1) (⟨0, none, 0⟩) ?_ ?_ ?_ ?_
 ·exact Nat.zero_le _
 ·exact Zwk
 ·((repeat (first | exact List.Sublist.slnil | refine List.Sublist.cons_cons _ ?_ | refine List.Sublist.cons _ ?_)))
 rintro ⟨i, A1, c1⟩ hi60
 dsimp only at hi60 ⊢
 have hst := nops_step i
 obtain ⟨xs, hxs⟩ : ∃ y, (nops i).flatMap insCells = y := ⟨_, rfl⟩
 obtain ⟨ys, hys⟩ : ∃ y, (nops (i + 1)).flatMap insCells = y := ⟨_, rfl⟩
 rw [hxs] at hst ⊢
 rw [hys] at hst
 refine Zs (Zs (Zr (ZA ?_)))
 refine ZA ?_
 refine Zn (Zt ?_)
 refine wc_cond _ rfl (fun hc3 => ?_) (fun hc3 => ?_)
 ·simp only [decide_eq_true_eq] at hc3
  refine Zc (Zt (Zs (Zx (Zr (ZA ?_)))))
  refine ZA ?_
  refine wl_t (t_buildSl rfl rfl (fun _ => rfl) (fun _ => rfl) rfl rfl rfl) rfl ?_
  rintro _ _ ⟨b24, rfl, rfl⟩
  refine wl_t (t_append (e := 48) (sz := 2) (bytes := 16) rfl rfl Za rfl rfl (fun w hi => hi.rd (show Has _ (slv 48 2 (some ⟨b24, 0, none⟩) 1 1 [.int .i64 0, .int .u32 0]) from Zh)) (allT rfl) (by simp only [maxLen]; omega) (by omega)) rfl ?_
  rintro _ _ ⟨A2, c2, rfl, rfl⟩
  rw [hst, ← hys]
  refine ZA ?_
  refine Zn (Zo (Zt (Zr (ZA ?_))))
  refine Zy (y_add (Zv rfl) (Zv rfl) Zl) ?_
  refine ZA ?_
  refine Zn ?_
  refine q_midP ((⟨i + 1, A2, c2⟩ : Nat × Option Addr × Nat)) ?_ ?_ ?_
  ·exact ⟨show i + 1 ≤ 60 by omega, show 60 - (i + 1) < 60 - i by omega⟩
  ·exact Zwk
  exact Zj
 simp only [decide_eq_false_iff_not] at hc3
 obtain rfl : i = 60 := (by omega)
 rw [hxs] at HC
 refine wc_exit ?_
 refine q_then_exit ?_
 refine q_then_exit ?_
 refine q_block_same rfl ?_
 refine Zt (Zs (Zr (ZA ?_)))
 refine ZS (fun w hi => HC A1 c1 w (hi.rd (show Has _ (slv 48 2 A1 60 c1 xs) from Zh))) ?_
 rintro _ _ ⟨_, ⟨A4, c4, rfl, rfl⟩, rfl⟩
 refine ZA ?_
 refine ZS (fun w hi => HF A4 c4 w (hi.rd (show Has _ (sl .u8 5 A4 bb.length c4 bb) from Zh))) ?_
 rintro _ _ ⟨_, ⟨F, hF, rfl, rfl⟩, rfl⟩
 refine ZA ?_
 refine Zn (Zt (Zs (Zs (Zr (ZA ?_)))))
 refine ZA ?_
 refine Zn (Zt (wc_cond_f rfl (rfl) ?_))
 refine Zc (Zt (Zs (Zr (ZA ?_))))
 refine Zn (Zt (Zs (Zs (Zr (wl_pick (w18Row F St.new :: ubF F.bu F.bb F.L F.D ⟨none, 0, none, 0⟩ ⟨M, T0⟩ (dIrq d1 0 0)) Zj ?_)))))
 refine ZA ?_
 refine Zn (Zt (Zx ?_))
 refine wc_loop (fun q : Nat × Nat × Int => [(0, .slice A l.length c), (1, .int .u32 (v : Int)), (2, .bool ie), (3, .int .u32 pc), (11, .pointer (some ⟨F.bw, 0, none⟩)), (12, .int .i64 q.2.2), (13, .int .i64 (q.1 : Int))]) (fun q => w18Row F St.new :: ubF F.bu F.bb F.L F.D ⟨none, 0, none, 0⟩ ⟨M, T0⟩ (dIrq d1 q.2.1 0)) (fun q => q.1 ≤ 5 ∧ q.2.1 < 256 ∧ q.2.2 = lowSay (q.2.1 &&& m8)) (fun q => 5 - q.1) (⟨0, 0, -1⟩) ?_ ?_ ?_ ?_
 ·exact ⟨Nat.zero_le _, by decide, by rw [Nat.zero_and]; decide⟩
 ·exact Zwk
 ·((repeat (first | exact List.Sublist.slnil | refine List.Sublist.cons_cons _ ?_ | refine List.Sublist.cons _ ?_)))
 rintro ⟨i, p, want⟩ ⟨hi5, hp, hw⟩
 dsimp only at hi5 hp hw ⊢
 have hwr := lowSay_rng (p &&& m8)
 rw [← hw] at hwr
 refine Zs (Zs (Zr (ZA ?_)))
 iterate 4 refine ZA ?_
 iterate 2 refine ZB ?_
 refine ZA ?_
 refine Zn (Zt ?_)
 refine wc_cond _ rfl (fun hc11 => ?_) (fun hc11 => ?_)
 ·have hil : i < l.length ∧ i < 5 := (by revert hc11; cases h1 : decide ((i : Int) < (l.length : Int)) <;> cases h2 : decide ((i : Int) < 5) <;> simp_all <;> omega)
  obtain ⟨ad, rfl⟩ := h.some_ (by omega)
  have hx : l[i]? = some (l[i]'hil.1) := List.getElem?_eq_getElem hil.1
  obtain ⟨x, hxx⟩ : ∃ x, l[i]'hil.1 = x := ⟨_, rfl⟩
  rw [hxx] at hx
  obtain ⟨kk, hkk⟩ : ∃ k, within x 0 7 = k := ⟨_, rfl⟩
  have hkr := within_rng x 0 7 (by decide)
  rw [hkk] at hkr
  have HWk := fun w => hkk ▸ within_ok x 0 7 w (by decide) (by decide) (by decide)
  obtain ⟨k, rfl⟩ : ∃ m : Nat, kk = m := Int.eq_ofNat_of_zero_le hkr.1
  have hk8 : k < 8 := (by omega)
  have hor : bits .or .u32 (p : Int) (linesOf [k]) = ((p ||| 2 ^ k : Nat) : Int) := (by rw [line_one k hk8]; exact bits_or (by omega) (Nat.lt_of_le_of_lt (Nat.pow_le_pow_right (by decide) (show k ≤ 7 by omega)) (by decide)))
  have hor2 : p ||| 2 ^ k < 256 := Nat.or_lt_two_pow (n := 8) hp (Nat.pow_lt_pow_right (by decide) hk8)
  have hstep := low_step (p := p) hm256 hk8
  rw [← hw, ← hm8, bit_of hk8, hm8] at hstep
  refine Zc (Zt (Zs (Zx (Zs (Zr (ZA ?_))))))
  refine ZA ?_
  refine Zy (y_index (j := i)  rfl (fun _ => rfl) (Zv rfl) (Zv rfl)  (fun _ => by omega) (fun _ => by omega)) ?_
  refine wl_y (y_load (fun _ => rfl) (Zv rfl)) (rd_cell h (ints_at hx)) rfl ?_
  refine ZS (fun w hi => HWk w) ?_
  rintro _ _ ⟨_, ⟨rfl, rfl⟩, rfl⟩
  refine ZA ?_
  refine Zn (Zt (Zs (Zs (Zr (ZA ?_)))))
  refine ZA ?_
  refine ZFa 1 ?_
  refine ZC ?_
  refine ZA ?_
  refine ZFa 0 ?_
  refine ZC ?_
  refine ZA ?_
  refine wl_t (t_buildSl1 rfl rfl (fun _ => rfl) (fun _ => rfl) rfl rfl) rfl ?_
  rintro _ _ ⟨b55, rfl, rfl⟩
  refine wl_t (t_callS ([irqC F.D.bi (p : Int) ((0 : Nat) : Int)]) rfl (fun _ _ => rfl) Zi (fun w hi hin => iraise_ok F.D.bi p ((0 : Nat) : Int) (some ⟨b55, 0, none⟩) 1 [k] (by simp; omega) w hin (fun w' hk => hi.rdKs Zi (show Has _ (slv 3 1 (some ⟨b55, 0, none⟩) 1 1 (ints .i64 (natInts [k]))) from Zh) hk))) rfl ?_
  rintro _ _ ⟨_, ⟨rfl, rfl⟩, rfl⟩
  rw [hor]
  refine ZA ?_
  refine Zn (Zt (wc_cond_f rfl (rfl) ?_))
  refine Zc (Zt (Zs (Zr (ZA ?_))))
  refine ZA ?_
  refine Zy (y_conv rfl rfl (Zv rfl) (show _ = ((k : Nat) : Int) from by rw [IntKind.wrap_u64]; omega)) ?_
  refine Zy (y_shr (Zv rfl) (Zv rfl) (by omega) (shr_line hk8)) ?_
  refine Zy (y_rem (Zv rfl) (Zv rfl) (by omega) (tmod_two _)) ?_
  iterate 2 refine ZA ?_
  iterate 7 refine ZB ?_
  refine ZA ?_
  refine Zn (Zt ?_)
  refine wc_cond _ rfl (fun hc16 => ?_) (fun hc16 => ?_)
  ·have hw2 : (k : Int) = lowSay ((p ||| 2 ^ k) &&& m8) := (by rw [hstep]; unfold wantNext; revert hc16; cases h1 : (v / 2 ^ k % 2 == 1) <;> cases h2 : decide (want < 0) <;> cases h3 : decide ((k : Int) < want) <;> simp_all <;> omega)
   refine Zr (ZA ?_)
   refine ZA ?_
   refine Zn (Zo (Zt (Zr (ZA ?_))))
   refine Zy (y_add (Zv rfl) (Zv rfl) Zl) ?_
   refine ZA ?_
   refine Zn ?_
   refine q_midP ((⟨i + 1, p ||| 2 ^ k, (k : Int)⟩ : Nat × Nat × Int)) ?_ ?_ ?_
   ·exact ⟨⟨show i + 1 ≤ 5 by omega, hor2, hw2⟩, show 5 - (i + 1) < 5 - i by omega⟩
   ·exact Zwk
   exact Zj
  have hw2 : want = lowSay ((p ||| 2 ^ k) &&& m8) := (by rw [hstep]; unfold wantNext; revert hc16; cases h1 : (v / 2 ^ k % 2 == 1) <;> cases h2 : decide (want < 0) <;> cases h3 : decide ((k : Int) < want) <;> simp_all <;> omega)
  refine Zc (Zo (Zt (Zr (ZA ?_))))
  refine Zy (y_add (Zv rfl) (Zv rfl) Zl) ?_
  refine ZA ?_
  refine Zn ?_
  refine q_midP ((⟨i + 1, p ||| 2 ^ k, want⟩ : Nat × Nat × Int)) ?_ ?_ ?_
  ·exact ⟨⟨show i + 1 ≤ 5 by omega, hor2, hw2⟩, show 5 - (i + 1) < 5 - i by omega⟩
  ·exact Zwk
  exact Zj
 refine wc_exit ?_
 refine q_then_exit ?_
 refine q_then_exit ?_
 refine q_block_same rfl ?_
 refine Zt (Zs (Zr (ZA ?_)))
 refine ZA ?_
 refine ZFa 1 ?_
 refine ZC ?_
 refine ZA ?_
 refine ZFa 0 ?_
 refine ZC ?_
 refine ZA ?_
 refine wl_t (t_callS ([irqC F.D.bi (p : Int) ((0 : Nat) : Int)]) rfl (fun _ _ => rfl) Zi (fun w hi hin => isetmask_ok F.D.bi p ((0 : Nat) : Int) (v : Int) w hin)) rfl ?_
 rintro _ _ ⟨_, ⟨rfl, rfl⟩, rfl⟩
 rw [h255]
 refine Zn (Zt (Zs (Zr (ZA ?_))))
 refine ZA ?_
 refine ZFa 3 ?_
 refine wl_y (y_loadN (vs := St.new.cells (.slice none 0 0) (.slice none 0 0)) (fun _ => rfl) (fun _ => rfl) (Zv rfl)) (row_cells Zh rfl) rfl ?_
 refine ZN fun b15 => ?_
 refine ZM ?_
 refine Zn (Zt (Zs (Zr (ZA ?_))))
 refine Zy (y_rem (Zv rfl) (Zv rfl) (by omega) (show _ = ((p0 : Nat) : Int) from by rw [Int.tmod_eq_emod_of_nonneg (by omega)]; exact hp0)) ?_
 refine ZA ?_
 refine ZFa 0 ?_
 refine ZL ?_
 refine ZFa 8 ?_
 refine ZL ?_
 refine ZFa 6 ?_
 refine ZL ?_
 refine Zn (Zt (Zs (Zr (ZA ?_))))
 refine ZA ?_
 refine ZFa 1 ?_
 refine ZC ?_
 refine ZA ?_
 refine ZFa 0 ?_
 refine ZC ?_
 refine ZS (fun w hi => pending_ok F.D.bi (p : Int) (m8 : Int) w (hi.get Zh)) ?_
 rintro _ _ ⟨_, ⟨rfl, rfl⟩, rfl⟩
 obtain ⟨sB, plB, hB, hB1, hB2, hB3, hB4, hB5⟩ := begin_law (n := 2) (s := ⟨(p0 : Int), [], [], 0, true, false, ie, 0, 50, 0, 0, 0, false, false, 0, false⟩) (U := ⟨M, T0⟩) (d := dIrq d1 p m8) hw hp hm256 rfl rfl rfl rfl rfl htm rfl rfl (by show (0 : Int) ≤ (p0 : Int); omega) (by show (p0 : Int) < ((2 * 64 : Nat) : Int); omega) (by show (0 : Int) ≤ 50; omega) (by show (50 : Int) < ((2 * 64 : Nat) : Int); omega)
 have HBg := fun w hi h ht => begin_ok F.bu F.bb F.L F.D ⟨none, 0, none, 0⟩ ⟨(p0 : Int), [], [], 0, true, false, ie, 0, 50, 0, 0, 0, false, false, 0, false⟩ hs0 none none 0 0 ⟨M, T0⟩ hUt (dIrq d1 p m8) (by rw [tick_none (d := dIrq d1 p m8) htm]; exact ⟨by show (0 : Int) ≤ (m8 : Int); omega, by show (m8 : Int) ≤ 255; omega⟩) w hi h ht
 rw [hF, hB] at HBg
 refine wl_pick (row b15 (St.cells ⟨(p0 : Int), [], [], 0, true, false, ie, 0, 50, 0, 0, 0, false, false, 0, false⟩ (.slice none 0 0) (.slice none 0 0)) 36 :: w18Row F St.new :: ubF F.bu F.bb F.L F.D ⟨none, 0, none, 0⟩ ⟨M, T0⟩ (dIrq d1 p m8)) Zj ?_
 refine ZA ?_
 refine Zn (Zt ?_)
 refine wc_seq_mid (fun q : SAdr × Nat => [(2, .bool ie), (11, .pointer (some ⟨F.bw, 0, none⟩)), (12, .int .i64 want), (15, .pointer (some ⟨b15, 0, none⟩)), (16, .int .u32 (p : Int)), (17, .pointer (some ⟨q.2, 0, none⟩))]) (fun q => row q.2 (begCells ⟨sB, plB, true, ⟨M, T0⟩, dIrq d1 p m8⟩ q.1) 69 :: row b15 (St.cells ⟨(p0 : Int), [], [], 0, true, false, ie, 0, 50, 0, 0, 0, false, false, 0, false⟩ (.slice none 0 0) (.slice none 0 0)) 36 :: w18Row F St.new :: slD sB q.1.Ad q.1.cd :: slR sB q.1.Ar q.1.cr :: ubF F.bu F.bb F.L F.D ⟨none, 0, none, 0⟩ ⟨M, T0⟩ (dIrq d1 p m8)) (fun _ => True) ?_ ?_
 ·refine wc_draw ⟨fun j => List.elem j [9, 11], []⟩ Zk ?_
  refine wa_ln 0 rfl Zk Zk Zk Zk (y_loadN (vs := St.cells ⟨(p0 : Int), [], [], 0, true, false, ie, 0, 50, 0, 0, 0, false, false, 0, false⟩ (.slice none 0 0) (.slice none 0 0)) (fun _ => rfl) (fun _ => rfl) (Zv rfl)) (row_cells Zh rfl) rfl ?_
  refine ZE 1 ?_
  refine ZE 2 ?_
  refine ZFe 3 0 ?_
  refine ZG 4 ?_
  refine ZE 5 ?_
  refine ZE 6 ?_
  refine ZFe 7 1 ?_
  refine ZG 8 ?_
  refine wa_2 9 10 Zk ?_ ?_
  ·refine wi_t rfl rfl (t_callS (ubF F.bu F.bb F.L F.D ⟨none, 0, none, 0⟩ ⟨M, T0⟩ (dIrq d1 p m8)) rfl (fun _ _ => rfl) Zi (fun w hi hin => HBg w hin (fun w' hk => RdSt.nil_ w' rfl rfl) (fun w' hk => RdV.oldKs ht hi Zi hk))) (fun _ _ _ _ _ _ _ h => by cases h) rfl ?_
   rintro _ _ ⟨_, ⟨X1, rfl, rfl⟩, rfl⟩
   refine wa_1 10 Zk ?_
   refine ZP fun b17 => ?_
   refine wa_1 11 Zk ?_
   refine ZR ?_
   refine wa_done Zk ?_
   refine q_midP ((⟨X1, b17⟩ : SAdr × Nat)) ?_ ?_ ?_
   ·trivial
   ·exact Zwk
   exact Zj
  refine ZP fun b17 => ?_
  refine wa_1 9 Zk ?_
  refine wi_t rfl rfl (t_callS (ubF F.bu F.bb F.L F.D ⟨none, 0, none, 0⟩ ⟨M, T0⟩ (dIrq d1 p m8)) rfl (fun _ _ => rfl) Zi (fun w hi hin => HBg w hin (fun w' hk => RdSt.nil_ w' rfl rfl) (fun w' hk => RdV.oldKs ht hi Zi hk))) (fun _ _ _ _ _ _ _ h => by cases h) rfl ?_
  rintro _ _ ⟨_, ⟨X1, rfl, rfl⟩, rfl⟩
  refine wa_1 11 Zk ?_
  refine ZR ?_
  refine wa_done Zk ?_
  refine q_midP ((⟨X1, b17⟩ : SAdr × Nat)) ?_ ?_ ?_
  ·trivial
  ·exact Zwk
  exact Zj
 rintro ⟨X1, b17⟩ -
 dsimp only
 refine wc_fact (fun w hi => rdSt_all (s := sB) (X := X1) hB2 hB3 (hi.rdSt (show Has _ (slD sB X1.Ad X1.cd) from Zh) (show Has _ (slR sB X1.Ar X1.cr) from Zh) (by rw [hB2]; decide) (by rw [hB3]; decide))) (fun hRd => ?_)
 refine Zs (Zs (Zr (ZFa 17 ?_)))
 refine ZC ?_
 iterate 2 refine ZA ?_
 iterate 2 refine ZB ?_
 refine ZFb 1 ?_
 refine ZD ?_
 refine ZB ?_
 refine ZFb 0 ?_
 refine ZD ?_
 refine wl_tg (guard_no rfl rfl) rfl (t_call rfl (fun _ _ => rfl) (fun w hi => pending_ok F.D.bi (p : Int) (m8 : Int) w (hi.get Zh))) rfl ?_
 rintro _ _ ⟨_, ⟨rfl, rfl⟩, rfl⟩
 refine ZB ?_
 refine Zyn rfl rfl (y_neq (ev_g rfl) (ev_g rfl) (bne_self_eq_false _)) ?_
 iterate 2 refine ZA ?_
 refine ZFb 0 ?_
 refine ZFb 14 ?_
 refine ZD ?_
 refine Zyn rfl rfl (y_neq (ev_g rfl) (Zv rfl) (show _ = false from by rw [hB1]; rfl)) ?_
 refine ZA ?_
 refine Zn (Zt (wc_cond_f rfl (rfl) ?_))
 refine Zc (Zt (Zs (Zs (Zr (ZA ?_)))))
 iterate 2 refine ZA ?_
 iterate 2 refine ZB ?_
 refine ZA ?_
 refine Zn (Zt ?_)
 refine wc_cond _ rfl (fun hc25 => ?_) (fun hc25 => ?_)
 ·have hcz : (decide (want < 0) || !ie) = true := (by revert hc25; cases ie <;> simp)
  obtain ⟨rfl, rfl⟩ := hB4 hcz
  refine Zs (Zr (ZFa 0 ?_))
  refine wl_y (y_loadN (vs := St.cells ⟨(p0 : Int), [], [], 0, true, false, ie, 0, 50, 0, 0, 0, false, false, 0, false⟩ (.slice X1.Ad 0 X1.cd) (.slice X1.Ar 0 X1.cr)) (fun _ => rfl) (fun _ => rfl) (Zv rfl)) (row_cells Zh rfl) rfl ?_
  refine wl_y (y_loadN (vs := St.cells ⟨(p0 : Int), [], [], 0, true, false, ie, 0, 50, 0, 0, 0, false, false, 0, false⟩ (.slice none 0 0) (.slice none 0 0)) (fun _ => rfl) (fun _ => rfl) (Zv rfl)) (row_cells Zh rfl) rfl ?_
  refine ZS (fun w hi => keepState_ok ⟨(p0 : Int), [], [], 0, true, false, ie, 0, 50, 0, 0, 0, false, false, 0, false⟩ ⟨(p0 : Int), [], [], 0, true, false, ie, 0, 50, 0, 0, 0, false, false, 0, false⟩ X1.Ad X1.Ar none none X1.cd X1.cr 0 0 w (hRd w) (RdSt.nil_ w rfl rfl)) ?_
  rintro _ _ ⟨_, ⟨rfl, rfl⟩, rfl⟩
  rw [St.rsame_self]
  refine ZA ?_
  refine ZFb 16 ?_
  refine ZD ?_
  refine ZFb 0 ?_
  refine ZD ?_
  refine Zyy rfl rfl (y_eql (ev_g rfl) (ev_g rfl) (beq_self_eq_true _)) ?_
  iterate 2 refine ZA ?_
  refine wl_tg (guard_yes rfl rfl) rfl (t_call rfl (fun _ _ => rfl) (fun w hi => known18_ok w (ht.old hi))) rfl ?_
  rintro _ _ ⟨_, ⟨rfl, rfl⟩, rfl⟩
  iterate 2 refine ZA ?_
  refine Zn (Zt (Ze (Zw (ret1 (cs' := []) (.inl rfl) Zu rfl rfl ?_))))
  exact ⟨rfl, rfl⟩
 have hcz : (decide (want < 0) || !ie) = false := (by revert hc25; cases ie <;> simp)
 obtain ⟨rfl, rfl⟩ := hB5 hcz
 obtain rfl : ie = true := (by revert hcz; cases ie <;> simp)
 refine Zc (Zt (Zs (Zr (ZFa 16 ?_))))
 refine ZC ?_
 iterate 2 refine ZA ?_
 refine ZFb 0 ?_
 refine ZFb 0 ?_
 refine ZD ?_
 refine ZB ?_
 iterate 2 refine ZA ?_
 refine ZFb 0 ?_
 refine ZFb 9 ?_
 refine ZD ?_
 refine ZFb 0 ?_
 refine ZD ?_
 refine Zyy rfl rfl (y_eql (ev_g rfl) (ev_g rfl) (beq_self_eq_true _)) ?_
 iterate 2 refine ZA ?_
 refine ZFb 0 ?_
 refine ZFb 10 ?_
 refine ZD ?_
 refine ZB ?_
 refine Zyy rfl rfl (y_add (Zv rfl) (ev_g rfl) Zl) ?_
 refine Zyy rfl rfl (y_conv rfl rfl (ev_g rfl) (by first | exact IntWalk.u32_in _ ⟨by omega, by omega⟩ | exact rfl)) ?_
 refine Zyy rfl rfl (y_eql (ev_g rfl) (ev_g rfl) (show (IntKind.u32.wrap (16 + want) == 16 + want) = true from by rw [u32_wrap_id _ (by omega) (by omega)]; exact beq_self_eq_true _)) ?_
 iterate 2 refine ZA ?_
 refine ZFb 0 ?_
 refine ZFb 6 ?_
 refine ZD ?_
 refine ZB ?_
 iterate 2 refine ZA ?_
 refine ZFb 0 ?_
 refine ZFb 13 ?_
 refine ZD ?_
 iterate 2 refine ZA ?_
 refine wl_tg (guard_yes rfl rfl) rfl (t_call rfl (fun _ _ => rfl) (fun w hi => known18_ok w (ht.old hi))) rfl ?_
 rintro _ _ ⟨_, ⟨rfl, rfl⟩, rfl⟩
 iterate 2 refine ZA ?_
 refine Zn (Zt (Ze (ret1 (cs' := []) (.inl rfl) Zu rfl rfl ?_)))
 exact ⟨rfl, rfl⟩
end Go.Proofs.YtojejamfaeednaaGreatDoor
