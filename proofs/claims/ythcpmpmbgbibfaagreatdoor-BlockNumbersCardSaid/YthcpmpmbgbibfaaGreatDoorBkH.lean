/- A block's instructions, walked; a block. -/
import Derived.Test.YthcpmpmbgbibfaaGreatDoorBkG
import Derived.Test.YthcpmpmbgbibfaaGreatDoorInkA
set_option linter.unusedSimpArgs false
set_option linter.unusedVariables false
set_option maxRecDepth 100000
namespace Go.Ink
open Go.RowKit
theorem restTo_none {n page k : Nat} {s : St} {p : Nat} {U : Mmu} {d : Dev} (h : fetchOf n U.m p = none) : restTo n page (k + 1) s p U d = (s.next.trap 1 0, U, d) := by
 unfold restTo
 rw [h]
theorem restTo_some {n page k : Nat} {s : St} {p : Nat} {U U1 : Mmu} {d d1 : Dev} {op nn : Int} {z : Nat} {q : Res} (h : fetchOf n U.m p = some ((op, nn), z)) (hq : doTo n s op nn U d = (q, U1, d1)) :
  restTo n page (k + 1) s p U d = bif nextOf op q page s.pc then restTo n page k q.s ((p + z) % 4294967296) U1 d1 else (q.s, U1, d1) := by
 rw [restTo, h]
 simp only [hq]
end Go.Ink
namespace Go.Proofs.YthcpmpmbgbibfaaGreatDoor
open Go.RowKit Go.Ink
attribute [local irreducible] OpY GuardIs

/-- A state of the call's own, and a guest's parts. -/
abbrev guF (bu bb : Nat) (L : MLoc) (D : DLoc) (s : St) (X : SAdr) (Y : DAdr) (U : Mmu) (d : Dev) : List Chunk := slD s X.Ad X.cd :: slR s X.Ar X.cr :: ubF bu bb L D Y U d
set_option maxHeartbeats 4000000 in
theorem rest_ok (bu bb : Nat) (L : MLoc) (D : DLoc) (Y : DAdr) (s : St) (X : SAdr) (p : Nat) (hp : p ≤ 4294967295) (most : Nat) (hmost : most ≤ 1000) (U : Mmu) (d : Dev) (hG : GOk L.n s U d) (ho : d.out.length + most ≤ 1000000000) (w : World) (hi : Inv w (blocks (guF bu bb L D s X Y U d)) (guF bu bb L D s X Y U d) w) :
  Ctr Tryz.prog 36 [sv s X.Ad X.cd X.Ar X.cr, .int .u32 (p : Int), .int .i64 (most : Int), .pointer (some ⟨bu, 0, none⟩), .pointer (some ⟨D.bs, 0, none⟩)] w (guF bu bb L D s X Y U d)
   (fun v cs => ∃ X' Y', v = sv (restTo L.n (p / 64) most s p U d).1 X'.Ad X'.cd X'.Ar X'.cr ∧ cs = guF bu bb L D (restTo L.n (p / 64) most s p U d).1 X' Y' (restTo L.n (p / 64) most s p U d).2.1 (restTo L.n (p / 64) most s p U d).2.2) := by
 obtain ⟨pg, hpg⟩ : ∃ q, p / 64 = q := ⟨_, rfl⟩
 have hpq : IntKind.u32.wrap ((p : Int).tdiv 64) = (pg : Int) := by rw [Int.tdiv_eq_ediv_of_nonneg (by omega), u32_wrap_id _ (by omega) (by omega)]; omega
 have hpgl : pg ≤ 4294967295 := by omega
 rw [hpg]
 clear hpg
 obtain ⟨⟨s9, U9, d9⟩, hR⟩ : ∃ q, restTo L.n pg most s p U d = q := ⟨_, rfl⟩
 rw [hR]
 have ho0 : d.out.length ≤ d.out.length + 0 := Nat.le_refl _
 obtain ⟨o0, hoo⟩ : ∃ q, d.out.length = q := ⟨_, rfl⟩
 rw [hoo] at ho
 refine fn_ctr Tryz.func36 rfl Tryz.ntmps36 rfl hi ?_
 refine Zs (Zr (ZO fun b5 => ?_))
 refine ZN fun b10 => ?_
 refine Zn (Zt (Zs (Zr (ZA ?_))))
 refine Zy (y_quo (Zv rfl) (Zv rfl) (by omega) hpq) ?_
 refine Zy (y_conv rfl rfl (Zv rfl) Zl) ?_
 refine ZA ?_
 refine Zn (Zt (Zs (Zs (Zr (wl_pick (row b5 (s.cells (.slice X.Ad s.d.length X.cd) (.slice X.Ar s.r.length X.cr)) 34 :: row b10 (St.zero.cells (.slice none 0 0) (.slice none 0 0)) 34 :: guF bu bb L D s X Y U d) Zj ?_)))))
 iterate 2 refine ZA ?_
 refine Zn (Zt (Zx ?_))
 refine wc_loop (fun q : Nat × St × SAdr × Nat × DAdr × Mmu × Dev => [(1, .int .u32 (q.2.2.2.1 : Int)), (3, .pointer (some ⟨bu, 0, none⟩)), (4, .pointer (some ⟨D.bs, 0, none⟩)), (5, .pointer (some ⟨b5, 0, none⟩)), (10, .pointer (some ⟨b10, 0, none⟩)), (11, .int .i64 (pg : Int)), (20, .int .i64 (most : Int)), (21, .int .i64 (q.1 : Int))]) (fun q => row b5 (q.2.1.cells (.slice q.2.2.1.Ad q.2.1.d.length q.2.2.1.cd) (.slice q.2.2.1.Ar q.2.1.r.length q.2.2.1.cr)) 34 :: row b10 (St.zero.cells (.slice none 0 0) (.slice none 0 0)) 34 :: guF bu bb L D q.2.1 q.2.2.1 q.2.2.2.2.1 q.2.2.2.2.2.1 q.2.2.2.2.2.2) (fun q => q.1 ≤ most ∧ q.2.2.2.1 ≤ 4294967295 ∧ GOk L.n q.2.1 q.2.2.2.2.2.1 q.2.2.2.2.2.2 ∧ q.2.2.2.2.2.2.out.length ≤ o0 + q.1 ∧ restTo L.n pg (most - q.1) q.2.1 q.2.2.2.1 q.2.2.2.2.2.1 q.2.2.2.2.2.2 = (s9, U9, d9)) (fun q => most - q.1) (⟨0, s, X, p, Y, U, d⟩) ?_ ?_ ?_ ?_
 ·exact ⟨Nat.zero_le _, hp, hG, by show d.out.length ≤ o0 + 0; omega, hR⟩
 ·exact Zwk
 ·((repeat (first | exact List.Sublist.slnil | refine List.Sublist.cons_cons _ ?_ | refine List.Sublist.cons _ ?_)))
 rintro ⟨j, s, X, p, Y, U, d⟩ ⟨hj, hp, hG, ho1, hRj⟩
 dsimp only at hj hp hG ho1 hRj ⊢
 refine Zs (Zr (ZA ?_))
 refine Zn (Zt (Zs ?_))
 refine wc_cond _ rfl (fun hc3 => ?_) (fun hc3 => ?_)
 ·simp only [decide_eq_true_eq] at hc3
  obtain ⟨k, hk⟩ : ∃ k, most - j = k + 1 := ⟨most - j - 1, by omega⟩
  rw [hk] at hRj
  have HF := fun w hu h => fetch_ok bu bb L U.m p hp w hu h
  have hrn := fun (op nn : Int) (z : Nat) h => fetchOf_rng (n := L.n) (M := U.m) (p := p) (op := op) (nn := nn) (z := z) hG.u.m h
  have hN := fun h => restTo_none (n := L.n) (page := pg) (k := k) (s := s) (p := p) (U := U) (d := d) h
  have hS := fun (op nn : Int) (z : Nat) (q : Res) (U1 : Mmu) (d1 : Dev) h hq => restTo_some (n := L.n) (page := pg) (k := k) (s := s) (p := p) (U := U) (d := d) (op := op) (nn := nn) (z := z) (q := q) (U1 := U1) (d1 := d1) h hq
  obtain ⟨o, hfo⟩ : ∃ o, fetchOf L.n U.m p = o := ⟨_, rfl⟩
  rw [hfo] at HF hN hS
  rw [hfo] at hrn
  obtain ⟨hd16, hr16, -⟩ := St.fits hG.right
  refine Zc (Zt (Zs (Zx (Zs (Zr (ZA ?_))))))
  refine ZA ?_
  refine ZS (fun w hi => HF w (hi.get (show Has _ (uRow bu L.bm bb) from Zh)) (hi.get (show Has _ (memC L U.m) from Zh))) ?_
  rintro _ _ ⟨_, ⟨rfl, rfl⟩, rfl⟩
  iterate 4 refine ZA ?_
  refine ZN fun b12 => ?_
  refine ZM ?_
  iterate 2 refine ZA ?_
  refine Zn (Zt (Zs (Zs (Zr (ZA ?_)))))
  refine ZA ?_
  refine Zn (Zt ?_)
  refine wc_cond _ rfl (fun hc5 => ?_) (fun hc5 => ?_)
  ·obtain rfl : o = none := (by cases o with | none => rfl | some o => cases hc5)
   rw [hN rfl, Prod.mk.injEq, Prod.mk.injEq] at hRj
   obtain ⟨rfl, rfl, rfl⟩ := hRj
   refine Zs (Zr (ZFa 14 ?_))
   refine ZC ?_
   refine Zy (y_add (Zv rfl) (Zv rfl) rfl) ?_
   refine ZFa 14 ?_
   refine ZL ?_
   refine Zn (Zt (Zs (Zr (wl_loadRow Zh (fun _ => rfl) (fun _ => rfl) (Zv rfl) rfl ?_))))
   refine ZS (fun w hi => trap_ok s.next X.Ad X.Ar X.cd X.cr 1 0 w (hi.rdSt (show Has _ (slD s X.Ad X.cd) from Zh) (show Has _ (slR s X.Ar X.cr) from Zh) (show s.d.length * 4 ≤ _ by omega) (show s.r.length * 4 ≤ _ by omega))) ?_
   rintro _ _ ⟨_, ⟨A3, c3, A4, c4, rfl, rfl⟩, rfl⟩
   refine ZM ?_
   refine Zn (Zt (Ze (Zw (Zq (Zw (Zw (Zq (Zw (qok_pick (row b10 ((s.next.trap 1 0).cells (.slice A3 s.d.length c3) (.slice A4 s.r.length c4)) 34 :: guF bu bb L D (s.next.trap 1 0) ⟨A3, c3, A4, c4⟩ Y U d) Zj ?_)))))))))
   refine retC (cs' := (guF bu bb L D (s.next.trap 1 0) ⟨A3, c3, A4, c4⟩ Y U d)) (.inl rfl) Zu rfl rfl Zh (fun _ => rfl) (fun _ => rfl) ?_
   exact ⟨⟨A3, c3, A4, c4⟩, Y, rfl, rfl⟩
  obtain ⟨⟨⟨op, nn⟩, z⟩, rfl⟩ : ∃ q, o = some q := (by cases o with | none => cases hc5 | some o => exact ⟨o, rfl⟩)
  obtain ⟨hnn, hz1, hz5, -⟩ := hrn op nn z rfl
  have HD := fun w hin h => do_ok bu bb L D Y s X.Ad X.Ar X.cd X.cr op nn U d hG.wf hnn hG.u.t hG.dv.wf (by omega) w hin h
  have hg := do_goes (op := op) (nn := nn) hG.wf hG.right hnn hG.u hG.dv
  have hl := do_lines (n := L.n) (op := op) (nn := nn) (s := s) (U := U) hG.lines
  obtain ⟨⟨q, U1, d1⟩, hq⟩ : ∃ q, doTo L.n s op nn U d = q := ⟨_, rfl⟩
  rw [hS op nn z q U1 d1 rfl hq] at hRj
  rw [hq] at HD hg hl
  obtain ⟨g1, g2, g3, g4, g5, g6⟩ := hg
  dsimp only at g1 g2 g3 g4 g5 g6 hl
  have HX := fun X1 Ap cp w h => next_ok op nn q X1 Ap cp pg s.pc g1.pc hG.wf.pc w h
  obtain ⟨nx, hnx⟩ : ∃ b, nextOf op q pg s.pc = b := ⟨_, rfl⟩
  rw [hnx] at HX hRj
  refine Zc (Zt (Zs (Zr (wl_loadRow Zh (fun _ => rfl) (fun _ => rfl) (Zv rfl) rfl ?_))))
  refine wl_loadRow Zh (fun _ => rfl) (fun _ => rfl) (Zv rfl) rfl ?_
  iterate 2 refine ZA ?_
  refine wl_t (t_callS (ubF bu bb L D Y U d) rfl (fun _ _ => rfl) Zi (fun w hi hin => HD w hin (fun w' hk => hi.rdStKs Zi (show Has _ (slD s X.Ad X.cd) from Zh) (show Has _ (slR s X.Ar X.cr) from Zh) (by omega) (by omega) hk))) rfl ?_
  rintro _ _ ⟨_, ⟨X1, Y1, Ap, cp, rfl, rfl⟩, rfl⟩
  refine ZN fun b15 => ?_
  refine ZM ?_
  refine Zn (Zt (Zs (Zr (ZFa 0 ?_))))
  refine ZC ?_
  refine ZA ?_
  refine Zn (Zt (Zs (Zr (ZFa 0 ?_))))
  refine wl_y (y_loadN (vs := q.s.cells (.slice X1.Ad q.s.d.length X1.cd) (.slice X1.Ar q.s.r.length X1.cr)) (fun _ => rfl) (fun _ => rfl) (Zv rfl)) (row_cells Zh rfl) rfl ?_
  refine ZM ?_
  refine Zn (Zt (Zs (Zr (ZA ?_))))
  refine ZA ?_
  refine Zy (y_conv rfl rfl (Zv rfl) (u32_wrap_id _ (by show 0 ≤ (z : Int); omega) (by show (z : Int) < 4294967296; omega))) ?_
  refine Zy (y_add (Zv rfl) (Zv rfl) (show _ = (((p + z) % 4294967296 : Nat) : Int) from by show IntKind.u32.wrap ((p : Int) + (z : Int)) = _; rw [IntKind.wrap_u32]; omega)) ?_
  refine ZA ?_
  refine Zn (Zt (Zs (Zr (wl_loadRow Zh (fun _ => rfl) (fun _ => rfl) (Zv rfl) rfl ?_))))
  refine wl_loadRow Zh (fun _ => rfl) (fun _ => rfl) (Zv rfl) rfl ?_
  iterate 2 refine ZA ?_
  refine ZS (fun w hi => HX X1 Ap cp w (hi.rd (show Has _ (sl .i64 3 Ap q.pages.length cp q.pages) from Zh))) ?_
  rintro _ _ ⟨_, ⟨rfl, rfl⟩, rfl⟩
  refine ZA ?_
  refine Zn (Zt ?_)
  refine wc_cond _ rfl (fun hc12 => ?_) (fun hc12 => ?_)
  ·obtain rfl : nx = false := (by cases nx with | false => rfl | true => cases hc12)
   rw [cond_false, Prod.mk.injEq, Prod.mk.injEq] at hRj
   obtain ⟨rfl, rfl, rfl⟩ := hRj
   refine wc_exit ?_
   refine q_block_other rfl ?_
   refine q_then_exit ?_
   refine q_then_exit ?_
   refine q_block_same rfl ?_
   refine Zt (Zs (Zr (wl_loadRow Zh (fun _ => rfl) (fun _ => rfl) (Zv rfl) rfl ?_)))
   refine ZM ?_
   refine Zn (Zt (Ze (qok_pick (row b10 (q.s.cells (.slice X1.Ad q.s.d.length X1.cd) (.slice X1.Ar q.s.r.length X1.cr)) 34 :: guF bu bb L D q.s X1 Y1 U1 d1) Zj ?_)))
   refine retC (cs' := (guF bu bb L D q.s X1 Y1 U1 d1)) (.inl rfl) Zu rfl rfl Zh (fun _ => rfl) (fun _ => rfl) ?_
   exact ⟨X1, Y1, rfl, rfl⟩
  obtain rfl : nx = true := (by cases nx with | true => rfl | false => cases hc12)
  rw [cond_true] at hRj
  refine Zc (Zo (Zt (Zr (Zy (y_add (Zv rfl) (Zv rfl) Zl) ?_))))
  refine ZA ?_
  refine Zn ?_
  refine q_midP ((⟨j + 1, q.s, X1, (p + z) % 4294967296, Y1, U1, d1⟩ : Nat × St × SAdr × Nat × DAdr × Mmu × Dev)) ?_ ?_ ?_
  ·exact ⟨⟨show j + 1 ≤ most by omega, by show (p + z) % 4294967296 ≤ 4294967295; omega, ⟨g1, g2, g4, g5, hl⟩, by show d1.out.length ≤ o0 + (j + 1); omega, by show restTo L.n pg (most - (j + 1)) q.s _ U1 d1 = _; rw [show most - (j + 1) = k by omega]; exact hRj⟩, show most - (j + 1) < most - j by omega⟩
  ·exact Zwk
  exact Zj
 simp only [decide_eq_false_iff_not] at hc3
 rw [show most - j = 0 by omega] at hRj
 simp only [restTo, Prod.mk.injEq] at hRj
 obtain ⟨rfl, rfl, rfl⟩ := hRj
 refine wc_exit ?_
 refine q_then_exit ?_
 refine q_then_exit ?_
 refine q_block_same rfl ?_
 refine Zt (Zs (Zr (wl_loadRow Zh (fun _ => rfl) (fun _ => rfl) (Zv rfl) rfl ?_)))
 refine ZM ?_
 refine Zn (Zt (Ze (qok_pick (row b10 (s.cells (.slice X.Ad s.d.length X.cd) (.slice X.Ar s.r.length X.cr)) 34 :: guF bu bb L D s X Y U d) Zj ?_)))
 refine retC (cs' := (guF bu bb L D s X Y U d)) (.inl rfl) Zu rfl rfl Zh (fun _ => rfl) (fun _ => rfl) ?_
 exact ⟨X, Y, rfl, rfl⟩
end Go.Proofs.YthcpmpmbgbibfaaGreatDoor
