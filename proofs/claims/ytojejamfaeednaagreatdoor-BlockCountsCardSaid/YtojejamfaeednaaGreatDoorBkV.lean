/- The law BlockCounts: how many instructions a block and a run do. -/
import Derived.Test.YtojejamfaeednaaGreatDoorBkU
import Derived.Test.YtojejamfaeednaaGreatDoorInkA
set_option linter.unusedSimpArgs false
set_option linter.unusedVariables false
set_option maxRecDepth 100000
namespace Go.Ink
open Go.RowKit
theorem block_halted {n : Nat} {s : St} {U : Mmu} {d : Dev} (h : s.halted = true) : blockTo n s U d = (s, U, d) := by
 unfold blockTo
 rw [beginTo_no (by rw [h, Bool.or_true])]
 rfl
theorem run_lt {n : Nat} {m f : Int} (hm : m ≤ 60) {o0 i : Nat} {q : St × Mmu × Dev} (h : RunOk n m f o0 i q) : i ≤ 1000000 := by
 obtain ⟨c, h3, h4, h5, h6⟩ := h.cnt
 cases e : decide (0 < m) with
 | true => rw [e, cond_true] at h6; omega
 | false => rw [e, cond_false] at h6; omega
theorem runGo_end {n : Nat} {m f : Int} (hm : m ≤ 60) {o0 : Nat} : ∀ (k i : Nat) (q : St × Mmu × Dev), RunOk n m f o0 i q → m.toNat ≤ i + k → ∃ i', RunOk n m f o0 i' (runGo n m f k q) ∧ runCond m f (runGo n m f k q).1 = false
 | 0, i, q, h, hk => by
  refine ⟨i, h, ?_⟩
  cases hc : runCond m f q.1 with
  | false => exact hc
  | true => have := (run_step (by omega) (run_lt hm h) h hc).2; omega
 | k + 1, i, q, h, hk => by
  cases hc : runCond m f q.1 with
  | false => rw [runGo_stop hc]; exact ⟨i, h, hc⟩
  | true =>
   rw [runGo_go hc]
   exact runGo_end hm k (i + 1) _ (run_step (by omega) (run_lt hm h) h hc).1 (by omega)
/-- What a run comes to, as the law asks for it. -/
theorem run_counts {n : Nat} {m : Int} (hm : m ≤ 60) {s : St} {U : Mmu} {d : Dev} (h : GOk n s U d) :
  ∃ c : Nat, IntKind.u64.wrap ((runTo n m s U d).1.count - s.count) = (c : Int) ∧ c < 68 ∧
   ((decide (m < 1) || s.halted) = true → c = 0 ∧ runTo n m s U d = (s, U, d)) ∧
   ((decide (m < 1) || s.halted) = false → ((runTo n m s U d).1.halted || decide (m ≤ (c : Int))) = true ∧ (c : Int) < m + 8) := by
 have h0 : RunOk n m s.count d.out.length 0 (s, U, d) := ⟨h, Nat.le_refl _, 0, by show IntKind.u64.wrap (s.count - s.count) = 0; rw [Int.sub_self]; rfl, Nat.le_refl _, Nat.le_refl _, by cases hd : decide (0 < m) with | false => (show (0 : Int) < 0 + 8; omega) | true => (simp only [decide_eq_true_eq] at hd; show (0 : Int) < m + 8; omega)⟩
 cases hc : (decide (m < 1) || s.halted) with
 | true =>
  have e : runTo n m s U d = (s, U, d) := by
   unfold runTo
   exact runGo_stop (by
    unfold runCond
    cases hh : s.halted with
    | true => simp
    | false => rw [hh, Bool.or_false, decide_eq_true_eq] at hc; rw [decide_eq_false (show ¬ 0 < m by omega)]; rfl)
  refine ⟨0, ?_, by omega, fun _ => ⟨rfl, e⟩, (by intro q; cases q)⟩
  rw [e]
  show IntKind.u64.wrap (s.count - s.count) = 0
  rw [Int.sub_self]; rfl
 | false =>
  have hm1 : ¬ m < 1 := fun q => by rw [decide_eq_true q] at hc; cases hc
  obtain ⟨i', r1, r2⟩ := runGo_end hm m.toNat 0 (s, U, d) h0 (by omega)
  obtain ⟨c, h3, h4, h5, h6⟩ := r1.cnt
  rw [decide_eq_true (show 0 < m by omega), cond_true] at h6
  refine ⟨c, h3, by omega, (by intro q; cases q), fun _ => ⟨?_, h6⟩⟩
  unfold runCond at r2
  rw [h3, decide_eq_true (show 0 < m by omega), Bool.true_and] at r2
  show ((runGo n m s.count m.toNat (s, U, d)).1.halted || decide (m ≤ (c : Int))) = true
  cases hh : (runGo n m s.count m.toNat (s, U, d)).1.halted with
  | true => rfl
  | false =>
   rw [hh] at r2
   simp only [Bool.not_false, Bool.true_and, decide_eq_false_iff_not] at r2
   rw [Bool.false_or, decide_eq_true_eq]; omega
end Go.Ink
namespace Go.Proofs.YtojejamfaeednaaGreatDoor
open Go.RowKit Go.Ink
attribute [local irreducible] OpY GuardIs

theorem within2_ok (n lo hi : Int) (w : World) (h0 : -1000 ≤ lo) (h1 : lo ≤ hi) (h2 : hi ≤ 1000000000000) : Ctr Tryz.prog 19 [.int .i64 n, .int .i64 lo, .int .i64 hi] w [] (fun v cs => v = .int .i64 (within n lo hi) ∧ cs = []) := by
 obtain ⟨m, hm⟩ : ∃ m, m = hi - lo + 1 := ⟨_, rfl⟩
 obtain ⟨t, ht⟩ : ∃ t, t = n.tmod m := ⟨_, rfl⟩
 have e1 : t < m := by rw [ht]; exact Int.tmod_lt_of_pos _ (by omega)
 have e2 : - m < t := by
  have := Int.tmod_lt_of_pos (-n) (b := m) (by omega)
  rw [Int.neg_tmod] at this
  omega
 have e3 : t % m = n % m := by
  rw [ht, Int.tmod_eq_emod]
  split
  ·simp
  rw [Int.natAbs_of_nonneg (by omega)]; simp
 rw [hm] at ht e1 e2
 refine fn_ctr Tryz.func19 rfl Tryz.ntmps19 rfl (Inv.start w) ?_
 refine Zs (Zr (ZA ?_))
 refine Zn (Zt (Zs (Zr (ZA ?_))))
 iterate 2 refine ZA ?_
 refine Zy (y_sub (Zv rfl) (Zv rfl) Zl) ?_
 refine Zy (y_add (Zv rfl) (Zv rfl) Zl) ?_
 refine Zy (y_rem (Zv rfl) (Zv rfl) (by omega) (show _ = t from by rw [ht])) ?_
 refine ZA ?_
 refine Zn (Zt (Zs (Zs (Zr (ZA ?_)))))
 refine ZA ?_
 refine Zn (Zt ?_)
 refine wc_cond _ rfl (fun hc2 => ?_) (fun hc2 => ?_)
 ·refine Zr (ZA ?_)
  refine ZA ?_
  refine Zy (y_add (Zv rfl) (Zv rfl) Zl) ?_
  refine ZA ?_
  refine Zy (y_sub (Zv rfl) (Zv rfl) Zl) ?_
  refine Zy (y_add (Zv rfl) (Zv rfl) Zl) ?_
  refine ZA ?_
  refine Zn (Zt (Zs (Zr (ZA ?_))))
  refine ZA ?_
  refine Zy (y_add (Zv rfl) (Zv rfl) Zl) ?_
  refine ZA ?_
  refine Zn (Zt (Ze (ret1 (cs' := []) (.inl rfl) Zu rfl rfl ?_)))
  simp only [decide_eq_true_eq] at hc2
  refine ⟨congrArg _ ?_, rfl⟩
  unfold within
  rw [← hm, ← e3]
  have e4 : (t + m) % m = t % m := by simp
  rw [← e4, Int.emod_eq_of_lt (by omega) (by omega)]
  omega
 refine Zc (Zt (Zs (Zr (ZA ?_))))
 refine ZA ?_
 refine Zy (y_add (Zv rfl) (Zv rfl) Zl) ?_
 refine ZA ?_
 refine Zn (Zt (Ze (ret1 (cs' := []) (.inl rfl) Zu rfl rfl ?_)))
 simp only [decide_eq_false_iff_not] at hc2
 refine ⟨congrArg _ ?_, rfl⟩
 unfold within
 rw [← hm, ← e3, Int.emod_eq_of_lt (by omega) (by omega)]
set_option maxHeartbeats 4000000 in
theorem blockCounts_ok (A : Option Addr) (c : Nat) (l : List RawR) (pages n : Int) (w : World) (h : RdV w 5 A l.length c (l.flatMap RawR.cells)) (hl : ∀ a, a ∈ l → a.ok w) (ht : TabOk w) :
  Ctr Tryz.prog 3 [.slice A l.length c, .int .i64 pages, .int .i64 n] w [] (fun v cs => v = .bool true ∧ cs = []) := by
 have HI := fun w h hl => image_ok A none c 0 l pages [] (fun x hx => by cases hx) w h hl (rdNil w .u8)
 obtain ⟨m, hm⟩ : ∃ m, within n (-2) 60 = m := ⟨_, rfl⟩
 have hmr := within_rng n (-2) 60 (by decide)
 rw [hm] at hmr
 have HW := fun w => hm ▸ within2_ok n (-2) 60 w (by decide) (by decide) (by decide)
 refine fn_ctr Tryz.func3 rfl Tryz.ntmps3 rfl (Inv.start w) ?_
 refine Zs (Zr (ZA ?_))
 refine Zn (Zt (Zs (Zr (ZA ?_))))
 refine ZA ?_
 refine ZS (fun w hi => HI w (h.oldN hi) (fun a ha => ⟨(hl a ha).v, (hl a ha).at_, (hl a ha).rd.oldN hi, (hl a ha).bs⟩)) ?_
 rintro _ _ ⟨_, ⟨A1, c1, E, E2, N, ⟨hE1, ⟨hn1, hn2⟩, hE2⟩, rfl, rfl⟩, rfl⟩
 have hE1' : u8s (E.take (N * 64)) := (fun x hx => hE1 x (List.mem_of_mem_take hx))
 have hG0 := fresh_gok (n := N) (l := E.take (N * 64)) (k := []) hE2 hE1' (by decide) (fun x hx => by cases hx)
 have ho0 : (Dev.init []).out.length ≤ 0 := Nat.le_refl _
 have HF := fun w h => fresh18_ok A1 none c1 0 N (E.take (N * 64)) [] hn1 (by omega) hE2 hE1' (by decide) w h (rdNil w .u8)
 unfold fr18 at HF
 obtain ⟨data, hda⟩ : ∃ d, refData N (E.take (N * 64)) = d := ⟨_, rfl⟩
 obtain ⟨tu, htu⟩ : ∃ d, List.replicate N false = d := ⟨_, rfl⟩
 obtain ⟨U0, hU⟩ : ∃ M, (⟨Mem.init N (E.take (N * 64)), tflush⟩ : Mmu) = M := ⟨_, rfl⟩
 obtain ⟨T0, hTT⟩ : ∃ T, tflush = T := ⟨_, rfl⟩
 obtain ⟨d0, hd⟩ : ∃ d, Dev.init [] = d := ⟨_, rfl⟩
 rw [hda, htu, hU, hd, hTT] at HF
 rw [hU, hd] at hG0
 rw [hd] at ho0
 refine ZS (fun w hi => HF w (rd_take (hi.rd (show Has _ (sl .u8 5 A1 E.length c1 E) from Zh)) (N * 64))) ?_
 rintro _ _ ⟨_, ⟨F, hF, rfl, rfl⟩, rfl⟩
 refine ZA ?_
 refine Zn (Zt (Zs (Zs (Zr (ZA ?_)))))
 refine ZA ?_
 refine Zn (Zt (wc_cond_f rfl (rfl) ?_))
 refine Zc (Zt (Zs (Zr (ZA ?_))))
 refine ZA ?_
 refine ZFa 3 ?_
 refine wl_y (y_loadN (vs := St.new.cells (.slice none 0 0) (.slice none 0 0)) (fun _ => rfl) (fun _ => rfl) (Zv rfl)) (row_cells Zh rfl) rfl ?_
 refine ZN fun b8 => ?_
 refine ZM ?_
 refine Zn (Zt (Zs (Zs (Zr (wl_nilc 32 1 ?_)))))
 refine wl_nilc 32 1 ?_
 refine wl_pick (row b8 (St.new.cells (.slice none 0 0) (.slice none 0 0)) 36 :: w18Row F St.new :: guF F.bu F.bb F.L F.D St.new ⟨none, 0, none, 0⟩ ⟨none, 0, none, 0⟩ U0 d0) Zj ?_
 refine ZA ?_
 refine Zn (Zt (Zx ?_))
 refine wc_loop (fun q : Nat × St × SAdr × DAdr × Mmu × Dev => [(2, .int .i64 n), (7, .pointer (some ⟨F.bw, 0, none⟩)), (8, .pointer (some ⟨b8, 0, none⟩)), (9, .int .i64 (q.1 : Int))]) (fun q => row b8 (q.2.1.cells (.slice q.2.2.1.Ad q.2.1.d.length q.2.2.1.cd) (.slice q.2.2.1.Ar q.2.1.r.length q.2.2.1.cr)) 36 :: w18Row F St.new :: guF F.bu F.bb F.L F.D q.2.1 q.2.2.1 q.2.2.2.1 q.2.2.2.2.1 q.2.2.2.2.2) (fun q => GOk N q.2.1 q.2.2.2.2.1 q.2.2.2.2.2 ∧ q.1 ≤ 20 ∧ q.2.2.2.2.2.out.length ≤ 8 * q.1) (fun q => 20 - q.1) (⟨0, St.new, ⟨none, 0, none, 0⟩, ⟨none, 0, none, 0⟩, U0, d0⟩) ?_ ?_ ?_ ?_
 ·exact ⟨hG0, Nat.zero_le _, ho0⟩
 ·exact Zwk
 ·((repeat (first | exact List.Sublist.slnil | refine List.Sublist.cons_cons _ ?_ | refine List.Sublist.cons _ ?_)))
 rintro ⟨k, s, X, Y, U, d⟩ ⟨hG, hk, ho⟩
 dsimp only at hG hk ho ⊢
 obtain ⟨hd16, hr16, -⟩ := St.fits hG.right
 have HB := fun w hi h ht => block_ok F.bu F.bb F.L F.D Y s X.Ad X.Ar X.cd X.cr U d (hF ▸ hG) (by omega) w hi h ht
 have HR := fun w hi h ht => run_ok F.bu F.bb F.L F.D Y s X.Ad X.Ar X.cd X.cr U d (hF ▸ hG) m (by omega) (by omega) (by omega) w hi h ht
 have hbh := block_halted (n := N) (s := s) (U := U) (d := d)
 have hbl := block_live hG
 have hbg := block_goes hG
 have hrc := run_counts (m := m) hmr.2 hG
 rw [hF] at HB HR
 obtain ⟨⟨s2, U2, d2⟩, hq⟩ : ∃ q, blockTo N s U d = q := ⟨_, rfl⟩
 obtain ⟨⟨s3, U3, d3⟩, hq3⟩ : ∃ q, runTo N m s U d = q := ⟨_, rfl⟩
 rw [hq] at HB hbh hbl hbg
 rw [hq3] at HR hrc
 refine Zs (Zs (Zr (ZA ?_)))
 refine ZA ?_
 refine Zn (Zt ?_)
 refine wc_cond _ rfl (fun hc6 => ?_) (fun hc6 => ?_)
 ·simp only [decide_eq_true_eq] at hc6
  have hG2 : GOk N s2 U2 d2 := (by rcases hbg with h1 | h1; exact h1.g; exact h1.2.2.1)
  have ho2 : d2.out.length ≤ d.out.length + 8 := (by rcases hbg with h1 | h1; exact h1.out; exact Nat.le_trans (Nat.le_of_eq (congrArg List.length h1.2.2.2)) (by omega))
  have hd2f := St.fits hG2.right
  refine Zc (Zt (Zs (Zx ?_)))
  refine wc_seq_mid (fun q : SAdr × DAdr × Nat => [(2, .int .i64 n), (7, .pointer (some ⟨F.bw, 0, none⟩)), (8, .pointer (some ⟨b8, 0, none⟩)), (9, .int .i64 (k : Int)), (10, .pointer (some ⟨q.2.2, 0, none⟩))]) (fun q => row q.2.2 (s2.cells (.slice q.1.Ad s2.d.length q.1.cd) (.slice q.1.Ar s2.r.length q.1.cr)) 36 :: row b8 (s.cells (.slice X.Ad s.d.length X.cd) (.slice X.Ar s.r.length X.cr)) 36 :: slD s X.Ad X.cd :: slR s X.Ar X.cr :: w18Row F St.new :: guF F.bu F.bb F.L F.D s2 q.1 q.2.1 U2 d2) (fun _ => True) ?_ ?_
  ·refine wc_draw ⟨fun j => List.elem j [9, 11], []⟩ Zk ?_
   refine wa_ln 0 rfl Zk Zk Zk Zk (y_loadN (vs := s.cells (.slice X.Ad s.d.length X.cd) (.slice X.Ar s.r.length X.cr)) (fun _ => rfl) (fun _ => rfl) (Zv rfl)) (row_cells Zh rfl) rfl ?_
   refine ZE 1 ?_
   refine ZE 2 ?_
   refine ZFe 3 0 ?_
   refine ZG 4 ?_
   refine ZE 5 ?_
   refine ZE 6 ?_
   refine ZFe 7 1 ?_
   refine ZG 8 ?_
   refine wa_2 9 10 Zk ?_ ?_
   ·refine wi_t rfl rfl (t_callS (ubF F.bu F.bb F.L F.D Y U d) rfl (fun _ _ => rfl) Zi (fun w hi hin => HB w hin (fun w' hk => hi.rdStKs Zi (show Has _ (slD s X.Ad X.cd) from Zh) (show Has _ (slR s X.Ar X.cr) from Zh) (by omega) (by omega) hk) (fun w' hk => RdV.oldKs ht hi Zi hk))) (fun _ _ _ _ _ _ _ h => by cases h) rfl ?_
    rintro _ _ ⟨_, ⟨X2, Y2, rfl, rfl⟩, rfl⟩
    refine wa_1 10 Zk ?_
    refine ZP fun b10 => ?_
    refine wa_1 11 Zk ?_
    refine ZR ?_
    refine wa_done Zk ?_
    refine q_midP ((⟨X2, Y2, b10⟩ : SAdr × DAdr × Nat)) ?_ ?_ ?_
    ·trivial
    ·exact Zwk
    exact Zj
   refine ZP fun b10 => ?_
   refine wa_1 9 Zk ?_
   refine wi_t rfl rfl (t_callS (ubF F.bu F.bb F.L F.D Y U d) rfl (fun _ _ => rfl) Zi (fun w hi hin => HB w hin (fun w' hk => hi.rdStKs Zi (show Has _ (slD s X.Ad X.cd) from Zh) (show Has _ (slR s X.Ar X.cr) from Zh) (by omega) (by omega) hk) (fun w' hk => RdV.oldKs ht hi Zi hk))) (fun _ _ _ _ _ _ _ h => by cases h) rfl ?_
   rintro _ _ ⟨_, ⟨X2, Y2, rfl, rfl⟩, rfl⟩
   refine wa_1 11 Zk ?_
   refine ZR ?_
   refine wa_done Zk ?_
   refine q_midP ((⟨X2, Y2, b10⟩ : SAdr × DAdr × Nat)) ?_ ?_ ?_
   ·trivial
   ·exact Zwk
   exact Zj
  rintro ⟨X2, Y2, b10⟩ -
  dsimp only
  refine Zs (Zr (ZFa 14 ?_))
  refine ZC ?_
  refine ZFa 14 ?_
  refine ZC ?_
  refine Zy (y_sub (Zv rfl) (Zv rfl) rfl) ?_
  refine ZA ?_
  refine Zn (Zt (Zs (Zs (Zr (ZFa 15 ?_)))))
  refine ZC ?_
  refine Zn (Zt ?_)
  refine wc_cond _ rfl (fun hc10 => ?_) (fun hc10 => ?_)
  ·have hhs : s.halted = true := hc10
   have e2 := hbh hhs
   rw [Prod.mk.injEq, Prod.mk.injEq] at e2
   obtain ⟨rfl, rfl, rfl⟩ := e2
   refine Zs (Zr (wl_y (y_loadN (vs := s2.cells (.slice X.Ad s2.d.length X.cd) (.slice X.Ar s2.r.length X.cr)) (fun _ => rfl) (fun _ => rfl) (Zv rfl)) (row_cells Zh rfl) rfl ?_))
   refine wl_y (y_loadN (vs := s2.cells (.slice X2.Ad s2.d.length X2.cd) (.slice X2.Ar s2.r.length X2.cr)) (fun _ => rfl) (fun _ => rfl) (Zv rfl)) (row_cells Zh rfl) rfl ?_
   refine ZS (fun w hi => keepState_ok s2 s2 X.Ad X.Ar X2.Ad X2.Ar X.cd X.cr X2.cd X2.cr w (hi.rdSt (show Has _ (slD s2 X.Ad X.cd) from Zh) (show Has _ (slR s2 X.Ar X.cr) from Zh) (by omega) (by omega)) (hi.rdSt (show Has _ (slD s2 X2.Ad X2.cd) from Zh) (show Has _ (slR s2 X2.Ar X2.cr) from Zh) (by omega) (by omega))) ?_
   rintro _ _ ⟨_, ⟨rfl, rfl⟩, rfl⟩
   rw [St.rsame_self]
   refine ZA ?_
   refine Zn (Zt (wc_cond_f rfl (rfl) ?_))
   refine Zc (Zt (Zr (wl_y (y_loadN (vs := s2.cells (.slice X2.Ad s2.d.length X2.cd) (.slice X2.Ar s2.r.length X2.cr)) (fun _ => rfl) (fun _ => rfl) (Zv rfl)) (row_cells Zh rfl) rfl ?_)))
   refine ZM ?_
   refine Zn (Zo (Zt (Zr (ZA ?_))))
   refine Zy (y_add (Zv rfl) (Zv rfl) Zl) ?_
   refine ZA ?_
   refine Zn ?_
   refine q_midP ((⟨k + 1, s2, X2, Y2, U2, d2⟩ : Nat × St × SAdr × DAdr × Mmu × Dev)) ?_ ?_ ?_
   ·exact ⟨⟨hG2, show k + 1 ≤ 20 by omega, show d2.out.length ≤ 8 * (k + 1) by omega⟩, show 20 - (k + 1) < 20 - k by omega⟩
   ·exact Zwk
   exact Zj
  have hhs : s.halted = false := hc10
  obtain ⟨-, -, j, j1, j2, j3⟩ := hbl hhs
  have hj : IntKind.u64.wrap (s2.count - s.count) = (j : Int) := (by have h5 := hG.wf.count; dsimp only at j3; rw [j3, IntKind.wrap_u64, IntKind.wrap_u64]; omega)
  have hj1 := j2 (by omega)
  refine Zs (Zr (ZA ?_))
  refine Zy (y_lss (Zv rfl) (Zv rfl) (show decide (IntKind.u64.wrap (s2.count - s.count) < 1) = false from by rw [hj]; exact decide_eq_false (by omega))) ?_
  refine ZA ?_
  refine ZB ?_
  refine Zyn rfl rfl (y_gtr (ev_g rfl) (Zv rfl) (show decide (8 < IntKind.u64.wrap (s2.count - s.count)) = false from by rw [hj]; exact decide_eq_false (by omega))) ?_
  refine ZA ?_
  refine Zn (Zt (wc_cond_f rfl (rfl) ?_))
  refine Zc (Zt (Zr (wl_y (y_loadN (vs := s2.cells (.slice X2.Ad s2.d.length X2.cd) (.slice X2.Ar s2.r.length X2.cr)) (fun _ => rfl) (fun _ => rfl) (Zv rfl)) (row_cells Zh rfl) rfl ?_)))
  refine ZM ?_
  refine Zn (Zo (Zt (Zr (ZA ?_))))
  refine Zy (y_add (Zv rfl) (Zv rfl) Zl) ?_
  refine ZA ?_
  refine Zn ?_
  refine q_midP ((⟨k + 1, s2, X2, Y2, U2, d2⟩ : Nat × St × SAdr × DAdr × Mmu × Dev)) ?_ ?_ ?_
  ·exact ⟨⟨hG2, show k + 1 ≤ 20 by omega, show d2.out.length ≤ 8 * (k + 1) by omega⟩, show 20 - (k + 1) < 20 - k by omega⟩
  ·exact Zwk
  exact Zj
 obtain ⟨cc, hcw, hcc, hz, hnz⟩ := hrc
 have hG3 : s.halted = s.halted := rfl
 refine wc_exit ?_
 refine q_then_exit ?_
 refine q_then_exit ?_
 refine q_block_same rfl ?_
 refine Zt (Zs (Zr (ZA ?_)))
 refine ZS (fun w hi => HW w) ?_
 rintro _ _ ⟨_, ⟨rfl, rfl⟩, rfl⟩
 refine ZA ?_
 refine Zn (Zt ?_)
 refine wc_seq_mid (fun q : SAdr × DAdr × Nat => [(8, .pointer (some ⟨b8, 0, none⟩)), (12, .int .i64 m), (13, .pointer (some ⟨q.2.2, 0, none⟩))]) (fun q => row q.2.2 (s3.cells (.slice q.1.Ad s3.d.length q.1.cd) (.slice q.1.Ar s3.r.length q.1.cr)) 36 :: row b8 (s.cells (.slice X.Ad s.d.length X.cd) (.slice X.Ar s.r.length X.cr)) 36 :: slD s X.Ad X.cd :: slR s X.Ar X.cr :: w18Row F St.new :: guF F.bu F.bb F.L F.D s3 q.1 q.2.1 U3 d3) (fun _ => True) ?_ ?_
 ·refine wc_draw ⟨fun j => List.elem j [10, 12], []⟩ Zk ?_
  refine wa_ln 0 rfl Zk Zk Zk Zk (y_loadN (vs := s.cells (.slice X.Ad s.d.length X.cd) (.slice X.Ar s.r.length X.cr)) (fun _ => rfl) (fun _ => rfl) (Zv rfl)) (row_cells Zh rfl) rfl ?_
  refine ZE 1 ?_
  refine ZE 2 ?_
  refine ZFe 3 0 ?_
  refine ZG 4 ?_
  refine ZE 5 ?_
  refine ZE 6 ?_
  refine ZFe 7 1 ?_
  refine ZG 8 ?_
  refine ZE 9 ?_
  refine wa_2 10 11 Zk ?_ ?_
  ·refine wi_t rfl rfl (t_callS (ubF F.bu F.bb F.L F.D Y U d) rfl (fun _ _ => rfl) Zi (fun w hi hin => HR w hin (fun w' hk => hi.rdStKs Zi (show Has _ (slD s X.Ad X.cd) from Zh) (show Has _ (slR s X.Ar X.cr) from Zh) (by omega) (by omega) hk) (fun w' hk => RdV.oldKs ht hi Zi hk))) (fun _ _ _ _ _ _ _ h => by cases h) rfl ?_
   rintro _ _ ⟨_, ⟨X3, Y3, rfl, rfl⟩, rfl⟩
   refine wa_1 11 Zk ?_
   refine ZP fun b13 => ?_
   refine wa_1 12 Zk ?_
   refine ZR ?_
   refine wa_done Zk ?_
   refine q_midP ((⟨X3, Y3, b13⟩ : SAdr × DAdr × Nat)) ?_ ?_ ?_
   ·trivial
   ·exact Zwk
   exact Zj
  refine ZP fun b13 => ?_
  refine wa_1 10 Zk ?_
  refine wi_t rfl rfl (t_callS (ubF F.bu F.bb F.L F.D Y U d) rfl (fun _ _ => rfl) Zi (fun w hi hin => HR w hin (fun w' hk => hi.rdStKs Zi (show Has _ (slD s X.Ad X.cd) from Zh) (show Has _ (slR s X.Ar X.cr) from Zh) (by omega) (by omega) hk) (fun w' hk => RdV.oldKs ht hi Zi hk))) (fun _ _ _ _ _ _ _ h => by cases h) rfl ?_
  rintro _ _ ⟨_, ⟨X3, Y3, rfl, rfl⟩, rfl⟩
  refine wa_1 12 Zk ?_
  refine ZR ?_
  refine wa_done Zk ?_
  refine q_midP ((⟨X3, Y3, b13⟩ : SAdr × DAdr × Nat)) ?_ ?_ ?_
  ·trivial
  ·exact Zwk
  exact Zj
 rintro ⟨X3, Y3, b13⟩ -
 dsimp only
 refine Zs (Zr (ZFa 14 ?_))
 refine ZC ?_
 refine ZFa 14 ?_
 refine ZC ?_
 refine Zy (y_sub (Zv rfl) (Zv rfl) hcw) ?_
 refine Zy (y_conv rfl rfl (Zv rfl) (show _ = ((cc : Nat) : Int) from IntWalk.i64_in _ ⟨by omega, by omega⟩)) ?_
 refine ZA ?_
 refine Zn (Zt (Zs (Zs (Zr (ZA ?_)))))
 iterate 2 refine ZA ?_
 refine ZFb 15 ?_
 refine ZD ?_
 refine ZA ?_
 refine Zn (Zt ?_)
 refine wc_cond _ rfl (fun hc19 => ?_) (fun hc19 => ?_)
 ·have hcz : (decide (m < 1) || s.halted) = true := (by revert hc19; cases decide (m < 1) <;> simp)
  obtain ⟨rfl, e3⟩ := hz hcz
  rw [Prod.mk.injEq, Prod.mk.injEq] at e3
  obtain ⟨rfl, rfl, rfl⟩ := e3
  refine Zs (Zr (ZA ?_))
  iterate 2 refine ZA ?_
  refine wl_yg (guard_yes rfl rfl) (y_loadN (vs := s3.cells (.slice X.Ad s3.d.length X.cd) (.slice X.Ar s3.r.length X.cr)) (fun _ => rfl) (fun _ => rfl) (Zv rfl)) (row_cells Zh rfl) rfl ?_
  refine wl_yg (guard_yes rfl rfl) (y_loadN (vs := s3.cells (.slice X3.Ad s3.d.length X3.cd) (.slice X3.Ar s3.r.length X3.cr)) (fun _ => rfl) (fun _ => rfl) (Zv rfl)) (row_cells Zh rfl) rfl ?_
  refine wl_tg (guard_yes rfl rfl) rfl (t_call rfl (fun _ _ => rfl) (fun w hi => keepState_ok s3 s3 X.Ad X.Ar X3.Ad X3.Ar X.cd X.cr X3.cd X3.cr w (hi.rdSt (show Has _ (slD s3 X.Ad X.cd) from Zh) (show Has _ (slR s3 X.Ar X.cr) from Zh) (by omega) (by omega)) (hi.rdSt (show Has _ (slD s3 X3.Ad X3.cd) from Zh) (show Has _ (slR s3 X3.Ar X3.cr) from Zh) (by omega) (by omega)))) rfl ?_
  rintro _ _ ⟨_, ⟨rfl, rfl⟩, rfl⟩
  rw [St.rsame_self]
  iterate 2 refine ZA ?_
  refine wl_tg (guard_yes rfl rfl) rfl (t_call rfl (fun _ _ => rfl) (fun w hi => known18_ok w (ht.old hi))) rfl ?_
  rintro _ _ ⟨_, ⟨rfl, rfl⟩, rfl⟩
  iterate 2 refine ZA ?_
  refine Zn (Zt (Ze (Zw (ret1 (cs' := []) (.inl rfl) Zu rfl rfl ?_))))
  exact ⟨rfl, rfl⟩
 have hcz : (decide (m < 1) || s.halted) = false := (by revert hc19; cases decide (m < 1) <;> simp)
 obtain ⟨hy1, hy2⟩ := hnz hcz
 dsimp only at hy1
 refine Zc (Zt (Zs (Zr (ZFa 15 ?_))))
 refine ZC ?_
 refine ZA ?_
 iterate 3 refine ZB ?_
 refine ZA ?_
 rw [hy1]
 refine ZA ?_
 iterate 2 refine ZB ?_
 refine Zyy rfl rfl (y_add (ev_g rfl) (Zv rfl) Zl) ?_
 refine Zyy rfl rfl (y_lss (ev_g rfl) (ev_g rfl) (decide_eq_true hy2)) ?_
 iterate 2 refine ZA ?_
 refine wl_tg (guard_yes rfl rfl) rfl (t_call rfl (fun _ _ => rfl) (fun w hi => known18_ok w (ht.old hi))) rfl ?_
 rintro _ _ ⟨_, ⟨rfl, rfl⟩, rfl⟩
 iterate 2 refine ZA ?_
 refine Zn (Zt (Ze (ret1 (cs' := []) (.inl rfl) Zu rfl rfl ?_)))
 exact ⟨rfl, rfl⟩
end Go.Proofs.YtojejamfaeednaaGreatDoor
