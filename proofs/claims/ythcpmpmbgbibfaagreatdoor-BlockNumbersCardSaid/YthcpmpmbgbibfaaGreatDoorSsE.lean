/- The document's devices. -/
import Derived.Test.YthcpmpmbgbibfaaGreatDoorSsA
import Derived.Test.YthcpmpmbgbibfaaGreatDoorInkA
set_option linter.unusedSimpArgs false
set_option linter.unusedVariables false
set_option maxRecDepth 100000
namespace Go.Ink
open Go.RowKit
theorem and255r {v : Int} (h : u32 v) : bits .and .u32 v 255 = v % 256 := bits_mask .u32 32 (by decide) wraps_u32 8 (by decide) v h.1 (by have := h.2; omega)
theorem lines2 : linesOf [2] = 4 := by decide
/-- A page goes to a sector, byte by byte. -/
def sectTo (disk d : List Int) (s a i : Nat) : List Int := disk.take s ++ (d.drop a).take i ++ disk.drop (s + i)
theorem sectTo_zero (disk d : List Int) (s a : Nat) : sectTo disk d s a 0 = disk := by simp [sectTo]
theorem sectTo_succ {disk d : List Int} {s a i : Nat} (h1 : s + i < disk.length) (h2 : a + i < d.length) : (sectTo disk d s a i).set (s + i) (gB d (a + i)) = sectTo disk d s a (i + 1) := by
 unfold sectTo
 have hl : (disk.take s ++ (d.drop a).take i).length = s + i := by simp; omega
 have e1 : disk.drop (s + i) = disk[s + i]'h1 :: disk.drop (s + i + 1) := List.drop_eq_getElem_cons h1
 have e2 : (d.drop a).take (i + 1) = (d.drop a).take i ++ [gB d (a + i)] := by
  rw [List.take_succ_eq_append_getElem (by rw [List.length_drop]; omega), List.getElem_drop]
  unfold gB
  rw [List.getD_eq_getElem?_getD, List.getElem?_eq_getElem h2]
  rfl
 rw [List.set_append_right _ _ (by omega), hl, Nat.sub_self, e1, List.set_cons_zero, e2, ← List.append_assoc, List.append_assoc (disk.take s ++ (d.drop a).take i), Nat.add_assoc]
 rfl
theorem MOk.fill {n : Nat} {M : Mem} (h : MOk n M) {a : Nat} {l : List Int} (hl : u8s l) : ∀ k, a + k ≤ n * 64 → MOk n (M.fill a l k)
 | 0, _ => h
 | k + 1, hk => (MOk.fill h hl k (by omega)).put (by omega) (gB_rng hl k)
theorem drive_cond15 (n s a cmd : Nat) : (((decide ((16 : Int) ≤ (s : Int)) || (((a % 64 : Nat) : Int) != 0)) || !decide (a + 1 ≤ n * 64)) || ((((cmd : Nat) : Int) != 1) && (((cmd : Nat) : Int) != 2))) = (!driveOk n s a || (!(cmd == 1) && !(cmd == 2))) := by
 unfold driveOk
 have e1 : decide ((16 : Int) ≤ (s : Int)) = decide (16 ≤ s) := decide_eq_decide.2 (by omega)
 have e2 : (((a % 64 : Nat) : Int) != 0) = (a % 64 != 0) := natBne (a % 64) 0
 have e3 : (!decide (a + 1 ≤ n * 64)) = decide (n * 64 ≤ a) := by
  by_cases h : a + 1 ≤ n * 64
  ·rw [decide_eq_true h, decide_eq_false (by omega)]; rfl
  rw [decide_eq_false h, decide_eq_true (by omega)]; rfl
 have e4 : (((cmd : Nat) : Int) != 1) = !(cmd == 1) := natBne cmd 1
 have e5 : (((cmd : Nat) : Int) != 2) = !(cmd == 2) := natBne cmd 2
 rw [e1, e2, e3, e4, e5, Bool.not_not]
theorem gB_drop {l : List Int} {s i : Nat} (h : i < 64) : gB ((l.drop s).take 64) i = gB l (s + i) := by
 unfold gB
 rw [List.getD_eq_getElem?_getD, List.getD_eq_getElem?_getD, List.getElem?_take, if_pos h, List.getElem?_drop]
end Go.Ink
namespace Go.Proofs.YthcpmpmbgbibfaaGreatDoor
open Go.RowKit Go.Ink
attribute [local irreducible] OpY GuardIs

abbrev refBRow (b bm bd : Nat) (Y : DAdr) (d : Dev) : Chunk := row b [.pointer (some ⟨bm, 0, none⟩), .int .u32 d.pend, .int .u32 d.mask, .int .u32 d.timer, .slice Y.Ao d.out.length Y.co, .slice Y.Ai d.inp.length Y.ci, .slice (some ⟨bd, 0, none⟩) 1024 1024, .int .u32 (d.sector : Int), .int .u32 (d.place : Int), .int .u32 d.status] 72
set_option maxHeartbeats 1000000 in
theorem refbload_ok (b bm bd : Nat) (Z : DAdr) (d : Dev) (hd : d.wf) (a : Nat) (count : Int) (w : World) (hi : Inv w (blocks (refBF b bm bd Z d)) (refBF b bm bd Z d) w) :
  Ctr Tryz.prog 196 [.pointer (some ⟨b, 0, none⟩), .int .u32 a, .int .u64 count] w (refBF b bm bd Z d) (fun v cs => ∃ Z', v = .tuple #[.int .u32 (devLoad d (devK a) count).1.1, .bool (devLoad d (devK a) count).1.2] ∧ cs = refBF b bm bd Z' (devLoad d (devK a) count).2) := by
 have hinp := hd.inp
 have hinb := hd.inpb
 obtain ⟨k, hk⟩ : ∃ k, devK a = k := ⟨_, rfl⟩
 rw [hk]
 unfold devK at hk
 obtain ⟨pe, ma, ti, ou, inp, dk, se, pl, st⟩ := d
 obtain ⟨Ao, co, Ai, ci⟩ := Z
 dsimp only at hinp hinb
 refine fn_ctr Tryz.func196 rfl Tryz.ntmps196 rfl hi ?_
 refine Zs (Zr (ZA ?_))
 refine ZA ?_
 refine Zn (Zt (Zs (Zs (Zr (ZA ?_)))))
 refine Zy (y_sub (Zv rfl) (Zv rfl) hk) ?_
 refine Zn (Zt (Zx (Zs (Zr (ZA ?_)))))
 refine ZA ?_
 refine Zn (Zt ?_)
 refine wc_cond _ rfl (fun hc2 => ?_) (fun hc2 => ?_)
 ·refine Zs (Zr (ZA ?_))
  refine ZA ?_
  refine ZFa 1 ?_
  refine ZC ?_
  iterate 2 refine ZA ?_
  refine Zn (Zt (Ze (Zq (Zw (ret2 (cs' := [row _ _ _, slv _ _ _ _ _ _, rdC _ _ _ _, slv _ _ _ _ _ _]) (.inl rfl) Zu rfl rfl rfl ?_)))))
  refine ⟨⟨Ao, co, Ai, ci⟩, ?_, ?_⟩
  ·simp only [devLoad, *, cond_true, cond_false] <;> exact rfl
  simp only [devLoad, *, cond_true, cond_false] <;> exact rfl
 refine Zs (Zr (ZA ?_))
 refine ZA ?_
 refine Zn (Zt ?_)
 refine wc_cond _ rfl (fun hc4 => ?_) (fun hc4 => ?_)
 ·refine Zs (Zr (ZA ?_))
  refine ZA ?_
  refine ZFa 2 ?_
  refine ZC ?_
  iterate 2 refine ZA ?_
  refine Zn (Zt (Ze (Zq (Zw (ret2 (cs' := [row _ _ _, slv _ _ _ _ _ _, rdC _ _ _ _, slv _ _ _ _ _ _]) (.inl rfl) Zu rfl rfl rfl ?_)))))
  refine ⟨⟨Ao, co, Ai, ci⟩, ?_, ?_⟩
  ·simp only [devLoad, *, cond_true, cond_false] <;> exact rfl
  simp only [devLoad, *, cond_true, cond_false] <;> exact rfl
 refine Zs (Zr (ZA ?_))
 refine ZA ?_
 refine Zn (Zt ?_)
 refine wc_cond _ rfl (fun hc6 => ?_) (fun hc6 => ?_)
 ·refine Zs (Zr (ZA ?_))
  refine ZA ?_
  refine ZFa 3 ?_
  refine ZC ?_
  iterate 2 refine ZA ?_
  refine Zn (Zt (Ze (Zq (Zw (ret2 (cs' := [row _ _ _, slv _ _ _ _ _ _, rdC _ _ _ _, slv _ _ _ _ _ _]) (.inl rfl) Zu rfl rfl rfl ?_)))))
  refine ⟨⟨Ao, co, Ai, ci⟩, ?_, ?_⟩
  ·simp only [devLoad, *, cond_true, cond_false] <;> exact rfl
  simp only [devLoad, *, cond_true, cond_false] <;> exact rfl
 refine Zs (Zr (ZA ?_))
 refine ZA ?_
 refine Zn (Zt ?_)
 refine wc_cond _ rfl (fun hc8 => ?_) (fun hc8 => ?_)
 ·refine Zs (Zr (ZA ?_))
  refine Zy (y_conv rfl rfl (Zv rfl) rfl) ?_
  iterate 2 refine ZA ?_
  refine Zn (Zt (Ze (Zq (Zw (ret2 (cs' := [row _ _ _, slv _ _ _ _ _ _, rdC _ _ _ _, slv _ _ _ _ _ _]) (.inl rfl) Zu rfl rfl rfl ?_)))))
  refine ⟨⟨Ao, co, Ai, ci⟩, ?_, ?_⟩
  ·simp only [devLoad, *, cond_true, cond_false] <;> exact rfl
  simp only [devLoad, *, cond_true, cond_false] <;> exact rfl
 refine Zs (Zs (Zr (ZA ?_)))
 refine ZA ?_
 refine Zn (Zt ?_)
 refine wc_cond _ rfl (fun hc10 => ?_) (fun hc10 => ?_)
 ·refine Zc (Zt (wc_cond_t rfl (hc10) ?_))
  refine Zs (Zr (ZA ?_))
  refine ZA ?_
  refine Zn (Zt (Ze (Zq (Zw (ret2 (cs' := [row _ _ _, slv _ _ _ _ _ _, rdC _ _ _ _, slv _ _ _ _ _ _]) (.inl rfl) Zu rfl rfl rfl ?_)))))
  refine ⟨⟨Ao, co, Ai, ci⟩, ?_, ?_⟩
  ·simp only [devLoad, *, cond_true, cond_false] <;> exact rfl
  simp only [devLoad, *, cond_true, cond_false] <;> exact rfl
 refine Zr (ZA ?_)
 refine ZA ?_
 refine Zn (Zt ?_)
 refine wc_cond _ rfl (fun hc11 => ?_) (fun hc11 => ?_)
 ·refine Zs (Zr (ZA ?_))
  refine ZA ?_
  refine Zn (Zt (Ze (Zq (Zw (ret2 (cs' := [row _ _ _, slv _ _ _ _ _ _, rdC _ _ _ _, slv _ _ _ _ _ _]) (.inl rfl) Zu rfl rfl rfl ?_)))))
  refine ⟨⟨Ao, co, Ai, ci⟩, ?_, ?_⟩
  ·simp only [devLoad, *, cond_true, cond_false] <;> exact rfl
  simp only [devLoad, *, cond_true, cond_false] <;> exact rfl
 refine Zs (Zr (ZA ?_))
 refine ZA ?_
 refine Zn (Zt ?_)
 refine wc_cond _ rfl (fun hc13 => ?_) (fun hc13 => ?_)
 ·refine Zs (Zs (Zr (ZA ?_)))
  refine ZA ?_
  refine ZFa 5 ?_
  refine ZC ?_
  iterate 2 refine ZA ?_
  refine Zn (Zt ?_)
  refine wc_cond _ rfl (fun hc14 => ?_) (fun hc14 => ?_)
  ·obtain rfl : inp = [] := List.eq_nil_of_length_eq_zero (by simpa using hc14)
   refine Zs (Zr (ZA ?_))
   refine ZA ?_
   refine Zn (Zt (Ze (Zw (Zq (Zw (ret2 (cs' := [row _ _ _, slv _ _ _ _ _ _, rdC _ _ _ _, slv _ _ _ _ _ _]) (.inl rfl) Zu rfl rfl rfl ?_))))))
   refine ⟨⟨Ao, co, Ai, ci⟩, ?_, ?_⟩
   ·simp only [devLoad, *, cond_true, cond_false] <;> exact rfl
   simp only [devLoad, *, cond_true, cond_false] <;> exact rfl
  obtain ⟨x, xs, rfl⟩ : ∃ x xs, inp = x :: xs := List.exists_cons_of_ne_nil (by intro e; subst e; simp at hc14)
  have hx := hinb x (by simp)
  have hl0 : 0 < (x :: xs).length := (by simp)
  have hl1 : 0 < (Dev.mk pe ma ti ou (x :: xs) dk se pl st).inp.length := hl0
  refine wc_fact (fun w hi => rdC_some (hi.get (show Has _ (rdC Ai (x :: xs).length ci (ints .u8 (x :: xs))) from Zh)) (by simp)) (fun hA => ?_)
  obtain ⟨ad, rfl⟩ := hA
  refine wc_fact (fun w hi => (rdC_rd (hi.get (show Has _ (rdC (some ad) (x :: xs).length ci (ints .u8 (x :: xs))) from Zh))).cap) (fun hcap => ?_)
  obtain ⟨q0, hq1⟩ : ∃ q0 : Addr, (some q0 : Option Addr) = (if ci = 1 then some ad else (some ad).map (·.add (1 * 1))) := (by split; exact ⟨_, rfl⟩; exact ⟨_, rfl⟩)
  simp only [List.length_cons] at hcap
  refine Zc (Zt (Zs (Zr (ZA ?_))))
  refine ZA ?_
  refine ZFa 5 ?_
  refine ZC ?_
  refine Zy (y_index (j := 0)  rfl (fun _ => rfl) (Zv rfl) (Zv rfl)  (fun _ => by omega) (fun _ => by omega)) ?_
  refine wl_y (y_load (fun _ => rfl) (Zv rfl)) (rdC_cell (xs := ints .u8 (x :: xs)) Zh rfl) rfl ?_
  refine ZA ?_
  refine Zn (Zt (Zs (Zr (ZA ?_))))
  iterate 2 refine ZA ?_
  refine ZFa 5 ?_
  refine ZC ?_
  refine Zy (y_sliceT (lo := 1) (hi := xs.length + 1) (r := q0) rfl (fun _ => rfl) (Zv rfl) (.inr ⟨_, _, rfl, (Zv rfl)⟩) (.inl ⟨rfl, rfl⟩) (by omega) (by omega) hq1) ?_
  refine ZA ?_
  refine ZFa 5 ?_
  refine ZL ?_
  refine Zn (Zt (Zs (Zr (ZA ?_))))
  refine Zy (y_conv rfl rfl (Zv rfl) (show _ = gB (x :: xs) 0 from u32_wrap_id x hx.1 (by omega))) ?_
  iterate 2 refine ZA ?_
  refine Zn (Zt (Ze (Zq (Zw (qok_convS (c := rdC (some ad) (xs.length + 1) ci (.int .u8 x :: ints .u8 xs)) (c' := rdC (some q0) xs.length (ci - 1) (ints .u8 xs)) Za (rdC_tail_sub (x := .int .u8 x) (xs := ints .u8 xs) hq1) (fun w => rdC_tail (x := .int .u8 x) (xs := ints .u8 xs) hq1 w) ?_)))))
  refine qok_pick (refBF b bm bd ⟨Ao, co, some q0, ci - 1⟩ ⟨pe, ma, ti, ou, xs, dk, se, pl, st⟩) Zj ?_
  refine ret2 (cs' := [row _ _ _, slv _ _ _ _ _ _, rdC _ _ _ _, slv _ _ _ _ _ _]) (.inl rfl) Zu rfl rfl rfl ?_
  refine ⟨⟨Ao, co, some q0, ci - 1⟩, ?_, ?_⟩
  ·simp only [devLoad, *, cond_true, cond_false]
  simp only [devLoad, *, cond_true, cond_false, List.tail_cons]
 refine Zs (Zr (ZA ?_))
 refine ZA ?_
 refine Zn (Zt ?_)
 refine wc_cond _ rfl (fun hc19 => ?_) (fun hc19 => ?_)
 ·refine Zs (Zr (ZA ?_))
  refine ZA ?_
  refine ZFa 5 ?_
  refine ZC ?_
  refine ZA ?_
  refine Zy (y_conv rfl rfl (Zv rfl) (u32_wrap_id (inp.length : Int) (by omega) (by omega))) ?_
  iterate 2 refine ZA ?_
  refine Zn (Zt (Ze (Zq (Zw (ret2 (cs' := [row _ _ _, slv _ _ _ _ _ _, rdC _ _ _ _, slv _ _ _ _ _ _]) (.inl rfl) Zu rfl rfl rfl ?_)))))
  refine ⟨⟨Ao, co, Ai, ci⟩, ?_, ?_⟩
  ·simp only [devLoad, *, cond_true, cond_false] <;> exact rfl
  simp only [devLoad, *, cond_true, cond_false] <;> exact rfl
 refine Zs (Zr (ZA ?_))
 refine ZA ?_
 refine Zn (Zt ?_)
 refine wc_cond _ rfl (fun hc21 => ?_) (fun hc21 => ?_)
 ·refine Zs (Zr (ZA ?_))
  refine ZA ?_
  refine ZFa 7 ?_
  refine ZC ?_
  iterate 2 refine ZA ?_
  refine Zn (Zt (Ze (Zq (Zw (ret2 (cs' := [row _ _ _, slv _ _ _ _ _ _, rdC _ _ _ _, slv _ _ _ _ _ _]) (.inl rfl) Zu rfl rfl rfl ?_)))))
  refine ⟨⟨Ao, co, Ai, ci⟩, ?_, ?_⟩
  ·simp only [devLoad, *, cond_true, cond_false] <;> exact rfl
  simp only [devLoad, *, cond_true, cond_false] <;> exact rfl
 refine Zs (Zr (ZA ?_))
 refine ZA ?_
 refine Zn (Zt ?_)
 refine wc_cond _ rfl (fun hc23 => ?_) (fun hc23 => ?_)
 ·refine Zs (Zr (ZA ?_))
  refine ZA ?_
  refine ZFa 8 ?_
  refine ZC ?_
  iterate 2 refine ZA ?_
  refine Zn (Zt (Ze (Zq (Zw (ret2 (cs' := [row _ _ _, slv _ _ _ _ _ _, rdC _ _ _ _, slv _ _ _ _ _ _]) (.inl rfl) Zu rfl rfl rfl ?_)))))
  refine ⟨⟨Ao, co, Ai, ci⟩, ?_, ?_⟩
  ·simp only [devLoad, *, cond_true, cond_false] <;> exact rfl
  simp only [devLoad, *, cond_true, cond_false] <;> exact rfl
 refine Zs (Zr (ZA ?_))
 refine ZA ?_
 refine Zn (Zt ?_)
 refine wc_cond _ rfl (fun hc25 => ?_) (fun hc25 => ?_)
 ·refine Zs (Zr (ZA ?_))
  refine ZA ?_
  refine ZFa 9 ?_
  refine ZC ?_
  iterate 2 refine ZA ?_
  refine Zn (Zt (Ze (Zq (Zw (ret2 (cs' := [row _ _ _, slv _ _ _ _ _ _, rdC _ _ _ _, slv _ _ _ _ _ _]) (.inl rfl) Zu rfl rfl rfl ?_)))))
  refine ⟨⟨Ao, co, Ai, ci⟩, ?_, ?_⟩
  ·simp only [devLoad, *, cond_true, cond_false] <;> exact rfl
  simp only [devLoad, *, cond_true, cond_false] <;> exact rfl
 refine Zc (Zo (Zt (Zs (Zr (ZA ?_)))))
 refine ZA ?_
 refine Zn (Zt (Ze (ret2 (cs' := [row _ _ _, slv _ _ _ _ _ _, rdC _ _ _ _, slv _ _ _ _ _ _]) (.inl rfl) Zu rfl rfl rfl ?_)))
 refine ⟨⟨Ao, co, Ai, ci⟩, ?_, ?_⟩
 ·simp only [devLoad, *, cond_true, cond_false] <;> exact rfl
 simp only [devLoad, *, cond_true, cond_false] <;> exact rfl
set_option maxHeartbeats 1000000 in
theorem refdrive_ok (b bd : Nat) (K : RMLoc) (n : Nat) (M : Mem) (hM : MOk n M) (Z : DAdr) (pe ma ti : Int) (ou inp dk : List Int) (hk : dk.length = 1024) (hkb : u8s dk) (se pl : Nat) (st : Int) (sector a cmd : Nat) (hs : sector ≤ 4294967295) (ha : a ≤ 4294967295) (w : World)
  (hi : Inv w (blocks (refBF b K.bm bd Z ⟨pe, ma, ti, ou, inp, dk, se, pl, st⟩ ++ rmF K n M)) (refBF b K.bm bd Z ⟨pe, ma, ti, ou, inp, dk, se, pl, st⟩ ++ rmF K n M) w) :
  Ctr Tryz.prog 210 [.pointer (some ⟨b, 0, none⟩), .int .u32 sector, .int .u32 a, .int .u32 cmd] w (refBF b K.bm bd Z ⟨pe, ma, ti, ou, inp, dk, se, pl, st⟩ ++ rmF K n M)
   (fun v cs => v = .bool (driveDo n M dk sector a cmd).1 ∧ cs = refBF b K.bm bd Z ⟨pe, ma, ti, ou, inp, (driveDo n M dk sector a cmd).2.2, se, pl, st⟩ ++ rmF K n (driveDo n M dk sector a cmd).2.1) := by
 have hn := hM.n64
 have hdl := hM.m.dl
 have hdc := drive_cond15 n sector a cmd
 have hdb := hM.m.db
 refine fn_ctr Tryz.func210 rfl Tryz.ntmps210 rfl hi ?_
 refine Zs (Zr (ZA ?_))
 refine Zn (Zt (Zs (Zs (Zr (ZA ?_)))))
 iterate 2 refine ZA ?_
 refine ZB ?_
 refine Zyn rfl rfl (y_rem (ev_g rfl) (Zv rfl) (by omega) (show _ = ((a % 64 : Nat) : Int) from by rw [Int.tmod_eq_emod_of_nonneg (by omega)]; omega)) ?_
 refine ZB ?_
 iterate 2 refine ZA ?_
 iterate 2 refine ZB ?_
 refine ZFb 0 ?_
 refine ZD ?_
 refine ZB ?_
 refine Zyn rfl rfl (y_conv rfl rfl (ev_g rfl) (u64_wrap_id _ (by omega) (by omega))) ?_
 refine wl_callg (guard_no rfl rfl) (.cons (ev_g rfl) (.cons (ev_g rfl) (.cons (Zv rfl) .nil))) (fun _ _ => rfl) (fun hg w hi => refhas_ok K n hn a 1 (by omega) (by decide) w (hi.get (show Has _ (rmRow K n) from Zh))) rfl ?_
 refine ZB ?_
 iterate 2 refine ZA ?_
 iterate 6 refine ZB ?_
 refine ZA ?_
 refine Zn (Zt ?_)
 refine wc_cond _ rfl (fun hc1 => ?_) (fun hc1 => ?_)
 ·have hno := hdc.symm.trans hc1
  have hdo : driveDo n M dk sector a cmd = (false, M, dk) := (by unfold driveDo; cases h1 : driveOk n sector a with | false => rfl | true => (rw [h1] at hno; simp only [Bool.not_true, Bool.false_or, Bool.and_eq_true, Bool.not_eq_true'] at hno; rw [hno.1, hno.2]; rfl))
  rw [hdo]
  refine Zs (Zr (ZA ?_))
  refine Zn (Zt (Ze (Zw (ret1 (cs' := [row _ _ _, slv _ _ _ _ _ _, rdC _ _ _ _, slv _ _ _ _ _ _, row _ _ _, slv _ _ _ _ _ _, slv _ _ _ _ _ _]) (.inl rfl) Zu rfl rfl ?_))))
  exact ⟨rfl, rfl⟩
 have hyes := hdc.symm.trans hc1
 simp only [Bool.or_eq_false_iff, Bool.not_eq_false', Bool.and_eq_false_iff] at hyes
 obtain ⟨hok, hcm⟩ := hyes
 have hf : sector < 16 ∧ a % 64 = 0 ∧ a < n * 64 := (by have h2 := hok; unfold driveOk at h2; simp only [Bool.not_eq_true', Bool.or_eq_false_iff, decide_eq_false_iff_not, bne_eq_false_iff_eq] at h2; omega)
 obtain ⟨s16, am, an⟩ := hf
 have a64 : a / 64 * 64 = a := (by omega)
 refine Zc (Zt (Zs (Zs ?_)))
 rcases hcm with hcm | hcm
 ·have hcm : cmd = 1 := (by simpa using hcm)
  subst hcm
  have hdo : driveDo n M dk sector a 1 = (true, M.fill a ((dk.drop (sector * 64)).take 64) 64, dk) := (by unfold driveDo; rw [hok, a64]; rfl)
  rw [hdo]
  have hlb : u8s ((dk.drop (sector * 64)).take 64) := (fun x hx => hkb x (List.mem_of_mem_drop (List.mem_of_mem_take hx)))
  refine Zr (ZA ?_)
  refine Zn (Zt (Zx ?_))
  refine wc_loop (fun k : Nat => [(0, .pointer (some ⟨b, 0, none⟩)), (1, .int .u32 (sector : Int)), (2, .int .u32 (a : Int)), (3, .int .u32 ((1 : Nat) : Int)), (9, .int .u32 (k : Int))]) (fun k => refBF b K.bm bd Z ⟨pe, ma, ti, ou, inp, dk, se, pl, st⟩ ++ rmF K n (M.fill a ((dk.drop (sector * 64)).take 64) k)) (fun k => k ≤ 64) (fun k => 64 - k) (0) ?_ ?_ ?_ ?_
  ·exact Nat.zero_le _
  ·exact Zwk
  ·((repeat (first | exact List.Sublist.slnil | refine List.Sublist.cons_cons _ ?_ | refine List.Sublist.cons _ ?_)))
  rintro k hk64
  refine Zs (Zs (Zr (ZA ?_)))
  refine ZA ?_
  refine Zn (Zt ?_)
  refine wc_cond _ rfl (fun hc4 => ?_) (fun hc4 => ?_)
  ·simp only [decide_eq_true_eq] at hc4
   have hk4 : k < 64 := (by omega)
   refine Zc (Zt (Zs (Zx (Zs (Zr (ZA ?_))))))
   refine ZA ?_
   refine Zn (Zt (wc_cond_t rfl (rfl) ?_))
   refine wc_draw ⟨fun j => List.elem j [17], []⟩ Zk ?_
   refine ZE 0 ?_
   refine ZE 1 ?_
   refine ZFe 2 0 ?_
   refine ZG 3 ?_
   refine ZE 4 ?_
   refine ZE 5 ?_
   refine wa_yn 6 rfl Zk Zk Zk (y_add (Zv rfl) (Zv rfl) (show _ = ((a + k : Nat) : Int) from (u32_wrap_id _ (by omega) (by omega)).trans (by omega))) rfl ?_
   refine ZE 7 ?_
   refine ZE 8 ?_
   refine ZFe 9 6 ?_
   refine ZE 11 ?_
   refine wa_yn 12 rfl Zk Zk Zk (y_mul (Zv rfl) (Zv rfl) (show _ = ((sector * 64 : Nat) : Int) from (u32_wrap_id _ (by omega) (by omega)).trans (by omega))) rfl ?_
   refine ZE 13 ?_
   refine wa_yn 14 rfl Zk Zk Zk (y_add (Zv rfl) (Zv rfl) (show _ = ((sector * 64 + k : Nat) : Int) from (u32_wrap_id _ (by omega) (by omega)).trans (by omega))) rfl ?_
   refine wa_1 10 Zk ?_
   refine wi_yn rfl (y_load (fun _ => rfl) (Zv rfl)) (row_cell Zh rfl) rfl ?_
   refine wa_yn 15 rfl Zk Zk Zk (y_indexR (j := (sector * 64 + k)) (sz := 1) (r := (sector * 64 + k)) rfl (fun _ => rfl) (Zv rfl) (Zv rfl) (fun _ => by omega) (fun _ => by omega) (by omega)) rfl ?_
   refine wa_ln 16 rfl Zk Zk Zk Zk (y_load (fun _ => rfl) (Zv rfl)) (sl_cellR Zh (ints_at (gB_at (show sector * 64 + k < dk.length by omega)))) rfl ?_
   refine wa_1 17 Zk ?_
   refine wi_t rfl rfl (t_callS (rmF K n (M.fill a ((dk.drop (sector * 64)).take 64) k)) rfl (fun _ _ => rfl) Zi (fun w hi hin => refput_ok K n (M.fill a ((dk.drop (sector * 64)).take 64) k) (hM.fill hlb k (by omega)) (a + k) (by omega) (gB dk (sector * 64 + k)) w hin)) (fun _ _ _ _ _ _ _ h => by cases h) rfl ?_
   rintro _ _ ⟨_, ⟨rfl, rfl⟩, rfl⟩
   refine wa_done Zk ?_
   refine Zo (Zt (Zr (ZA ?_)))
   refine Zy (y_add (Zv rfl) (Zv rfl) (show _ = ((k + 1 : Nat) : Int) from (u32_wrap_id _ (by omega) (by omega)).trans (by omega))) ?_
   refine ZA ?_
   refine Zn ?_
   refine q_midP (k + 1) ?_ ?_ ?_
   ·exact ⟨by show k + 1 ≤ 64; omega, by show 64 - (k + 1) < 64 - k; omega⟩
   ·exact Zwk
   exact (show Pick _ _ from by rw [Mem.fill, gB_drop hk4]; exact Zj)
  simp only [decide_eq_false_iff_not] at hc4
  obtain rfl : k = 64 := (by omega)
  refine wc_exit ?_
  refine q_then_exit ?_
  refine q_then_exit ?_
  refine q_block_same rfl ?_
  refine Zt (Zs (Zr (ZA ?_)))
  refine Zn (Zt (Ze (ret1 (cs' := [row _ _ _, slv _ _ _ _ _ _, rdC _ _ _ _, slv _ _ _ _ _ _, row _ _ _, slv _ _ _ _ _ _, slv _ _ _ _ _ _]) (.inl rfl) Zu rfl rfl ?_)))
  exact ⟨rfl, rfl⟩
 have hcm : cmd = 2 := (by simpa using hcm)
 subst hcm
 have hdo : driveDo n M dk sector a 2 = (true, M, sectTo dk M.data (sector * 64) a 64) := (by unfold driveDo sectTo; rw [hok, a64]; rfl)
 rw [hdo]
 refine Zr (ZA ?_)
 refine Zn (Zt (Zx ?_))
 refine wc_loop (fun k : Nat => [(0, .pointer (some ⟨b, 0, none⟩)), (1, .int .u32 (sector : Int)), (2, .int .u32 (a : Int)), (3, .int .u32 ((2 : Nat) : Int)), (9, .int .u32 (k : Int))]) (fun k => refBF b K.bm bd Z ⟨pe, ma, ti, ou, inp, sectTo dk M.data (sector * 64) a k, se, pl, st⟩ ++ rmF K n M) (fun k => k ≤ 64) (fun k => 64 - k) (0) ?_ ?_ ?_ ?_
 ·exact Nat.zero_le _
 ·exact Zwk
 ·(rw [sectTo_zero]; ((repeat (first | exact List.Sublist.slnil | refine List.Sublist.cons_cons _ ?_ | refine List.Sublist.cons _ ?_))))
 rintro k hk64
 refine Zs (Zs (Zr (ZA ?_)))
 refine ZA ?_
 refine Zn (Zt ?_)
 refine wc_cond _ rfl (fun hc4 => ?_) (fun hc4 => ?_)
 ·simp only [decide_eq_true_eq] at hc4
  have hk4 : k < 64 := (by omega)
  refine Zc (Zt (Zs (Zx (Zs (Zr (ZA ?_))))))
  refine ZA ?_
  refine Zn (Zt (wc_cond_f rfl (rfl) ?_))
  refine wc_draw ⟨fun j => List.elem j [21], []⟩ Zk ?_
  refine ZE 0 ?_
  refine ZE 1 ?_
  refine ZFe 2 6 ?_
  refine ZG 3 ?_
  refine ZE 4 ?_
  refine wa_yn 5 rfl Zk Zk Zk (y_mul (Zv rfl) (Zv rfl) (show _ = ((sector * 64 : Nat) : Int) from (u32_wrap_id _ (by omega) (by omega)).trans (by omega))) rfl ?_
  refine ZE 6 ?_
  refine wa_yn 7 rfl Zk Zk Zk (y_add (Zv rfl) (Zv rfl) (show _ = ((sector * 64 + k : Nat) : Int) from (u32_wrap_id _ (by omega) (by omega)).trans (by omega))) rfl ?_
  refine ZE 8 ?_
  refine ZE 9 ?_
  refine ZFe 10 0 ?_
  refine ZG 11 ?_
  refine ZE 12 ?_
  refine ZFe 13 0 ?_
  refine ZG 14 ?_
  refine ZE 15 ?_
  refine ZE 16 ?_
  refine wa_yn 17 rfl Zk Zk Zk (y_add (Zv rfl) (Zv rfl) (show _ = ((a + k : Nat) : Int) from (u32_wrap_id _ (by omega) (by omega)).trans (by omega))) rfl ?_
  refine wa_yn 18 rfl Zk Zk Zk (y_indexR (j := (a + k)) (sz := 1) (r := (a + k)) rfl (fun _ => rfl) (Zv rfl) (Zv rfl) (fun _ => by omega) (fun _ => by omega) (by omega)) rfl ?_
  refine wa_ln 19 rfl Zk Zk Zk Zk (y_load (fun _ => rfl) (Zv rfl)) (sl_cellR Zh (ints_at (gB_at (show a + k < M.data.length by omega)))) rfl ?_
  refine wa_yn 20 rfl Zk Zk Zk (y_indexR (j := (sector * 64 + k)) (sz := 1) (r := (sector * 64 + k)) rfl (fun _ => rfl) (Zv rfl) (Zv rfl) (fun _ => by omega) (fun _ => by omega) (by omega)) rfl ?_
  refine wa_1 21 Zk ?_
  refine wi_t0 rfl rfl (t_storeS (fun _ => rfl) rfl rfl rfl Za (by omega)) (fun _ _ _ _ _ _ _ h => by cases h) ?_
  rintro _ _ ⟨rfl, rfl⟩
  rw [ints_set', sectTo_succ (by omega) (by omega)]
  refine wa_done Zk ?_
  refine Zo (Zt (Zr (ZA ?_)))
  refine Zy (y_add (Zv rfl) (Zv rfl) (show _ = ((k + 1 : Nat) : Int) from (u32_wrap_id _ (by omega) (by omega)).trans (by omega))) ?_
  refine ZA ?_
  refine Zn ?_
  refine q_midP (k + 1) ?_ ?_ ?_
  ·exact ⟨by show k + 1 ≤ 64; omega, by show 64 - (k + 1) < 64 - k; omega⟩
  ·exact Zwk
  exact Zj
 simp only [decide_eq_false_iff_not] at hc4
 obtain rfl : k = 64 := (by omega)
 refine wc_exit ?_
 refine q_then_exit ?_
 refine q_then_exit ?_
 refine q_block_same rfl ?_
 refine Zt (Zs (Zr (ZA ?_)))
 refine Zn (Zt (Ze (ret1 (cs' := [row _ _ _, slv _ _ _ _ _ _, rdC _ _ _ _, slv _ _ _ _ _ _, row _ _ _, slv _ _ _ _ _ _, slv _ _ _ _ _ _]) (.inl rfl) Zu rfl rfl ?_)))
 exact ⟨rfl, rfl⟩
set_option maxHeartbeats 1000000 in
theorem refbstore_ok (b bd : Nat) (K : RMLoc) (n : Nat) (M : Mem) (hM : MOk n M) (Z : DAdr) (d : Dev) (hd : d.wf) (ho : d.out.length ≤ 1000000000) (a v : Nat) (hv : v ≤ 4294967295) (w : World)
  (hi : Inv w (blocks (refBF b K.bm bd Z d ++ rmF K n M)) (refBF b K.bm bd Z d ++ rmF K n M) w) :
  Ctr Tryz.prog 197 [.pointer (some ⟨b, 0, none⟩), .int .u32 a, .int .u32 v] w (refBF b K.bm bd Z d ++ rmF K n M)
   (fun x cs => ∃ Z', x = .bool (devStore n M d (devK a) v).1 ∧ cs = refBF b K.bm bd Z' (devStore n M d (devK a) v).2.2 ++ rmF K n (devStore n M d (devK a) v).2.1) := by
 obtain ⟨k, hk⟩ : ∃ k, devK a = k := ⟨_, rfl⟩
 rw [hk]
 unfold devK at hk
 have hdk := hd.disk
 have hdkb := hd.diskb
 have hds := hd.sector
 have hdp := hd.place
 have hvu : u32 (v : Int) := u32_nat hv
 have hmask : bits .and .u32 (v : Int) 255 = (v : Int) % 256 := and255r hvu
 have hl2 := lines2
 obtain ⟨pe, ma, ti, ou, inp, dk, se, pl, st⟩ := d
 obtain ⟨Ao, co, Ai, ci⟩ := Z
 dsimp only at hdk hdkb hds hdp
 have ho2 : ou.length ≤ 1000000000 := ho
 have HD := fun w hin => refdrive_ok b bd K n M hM ⟨Ao, co, Ai, ci⟩ pe ma ti ou inp dk hdk hdkb se pl 1 se pl v hds hdp w hin
 obtain ⟨⟨dok, dM, ddk⟩, hdd⟩ : ∃ q, driveDo n M dk se pl v = q := ⟨_, rfl⟩
 rw [hdd] at HD
 refine fn_ctr Tryz.func197 rfl Tryz.ntmps197 rfl hi ?_
 refine Zs (Zr (ZA ?_))
 refine Zn (Zt (Zs (Zs (Zr (ZA ?_)))))
 refine Zy (y_sub (Zv rfl) (Zv rfl) hk) ?_
 refine Zn (Zt (Zx (Zs (Zr (ZA ?_)))))
 refine ZA ?_
 refine Zn (Zt ?_)
 refine wc_cond _ rfl (fun hc3 => ?_) (fun hc3 => ?_)
 ·refine Zr (ZA ?_)
  iterate 2 refine ZA ?_
  refine ZFa 1 ?_
  refine ZC ?_
  refine ZA ?_
  refine Zy (y_andNot (Zv rfl) (Zv rfl) rfl) ?_
  refine ZA ?_
  refine ZFa 1 ?_
  refine ZL ?_
  refine Zn (Zo (Zt (Zs (Zr (ZA ?_)))))
  refine Zn (Zt (Ze (ret1 (cs' := [row _ _ _, slv _ _ _ _ _ _, rdC _ _ _ _, slv _ _ _ _ _ _, row _ _ _, slv _ _ _ _ _ _, slv _ _ _ _ _ _]) (.inl rfl) Zu rfl rfl ?_)))
  refine ⟨⟨Ao, co, Ai, ci⟩, ?_, ?_⟩
  ·simp only [devStore, devCmd, *, cond_true, cond_false] <;> exact rfl
  simp only [devStore, devCmd, *, cond_true, cond_false] <;> exact rfl
 refine Zs (Zr (ZA ?_))
 refine ZA ?_
 refine Zn (Zt ?_)
 refine wc_cond _ rfl (fun hc5 => ?_) (fun hc5 => ?_)
 ·refine Zr (ZA ?_)
  refine ZA ?_
  refine Zy (y_rem (Zv rfl) (Zv rfl) (by omega) (show _ = bits .and .u32 (v : Int) 255 from by rw [hmask, Int.tmod_eq_emod_of_nonneg (by omega)])) ?_
  refine ZA ?_
  refine ZFa 2 ?_
  refine ZL ?_
  refine Zn (Zo (Zt (Zs (Zr (ZA ?_)))))
  refine Zn (Zt (Ze (ret1 (cs' := [row _ _ _, slv _ _ _ _ _ _, rdC _ _ _ _, slv _ _ _ _ _ _, row _ _ _, slv _ _ _ _ _ _, slv _ _ _ _ _ _]) (.inl rfl) Zu rfl rfl ?_)))
  refine ⟨⟨Ao, co, Ai, ci⟩, ?_, ?_⟩
  ·simp only [devStore, devCmd, *, cond_true, cond_false] <;> exact rfl
  simp only [devStore, devCmd, *, cond_true, cond_false] <;> exact rfl
 refine Zs (Zr (ZA ?_))
 refine ZA ?_
 refine Zn (Zt ?_)
 refine wc_cond _ rfl (fun hc7 => ?_) (fun hc7 => ?_)
 ·refine Zr (ZA ?_)
  iterate 2 refine ZA ?_
  refine ZFa 3 ?_
  refine ZL ?_
  refine Zn (Zo (Zt (Zs (Zr (ZA ?_)))))
  refine Zn (Zt (Ze (ret1 (cs' := [row _ _ _, slv _ _ _ _ _ _, rdC _ _ _ _, slv _ _ _ _ _ _, row _ _ _, slv _ _ _ _ _ _, slv _ _ _ _ _ _]) (.inl rfl) Zu rfl rfl ?_)))
  refine ⟨⟨Ao, co, Ai, ci⟩, ?_, ?_⟩
  ·simp only [devStore, devCmd, *, cond_true, cond_false] <;> exact rfl
  simp only [devStore, devCmd, *, cond_true, cond_false] <;> exact rfl
 refine Zs (Zr (ZA ?_))
 refine ZA ?_
 refine Zn (Zt ?_)
 refine wc_cond _ rfl (fun hc9 => ?_) (fun hc9 => ?_)
 ·refine Zr (ZA ?_)
  refine wl_t (t_buildSl1 rfl rfl (fun _ => rfl) (fun _ => rfl) rfl rfl) rfl ?_
  rintro _ _ ⟨b36, rfl, rfl⟩
  iterate 2 refine ZA ?_
  refine ZFa 4 ?_
  refine ZC ?_
  refine wl_t (t_append (e := 5) (sz := 1) (bytes := 1) rfl rfl Za rfl rfl (fun w hi => hi.rd (show Has _ (b8 Ao co ou) from Zh)) ints_one (by simp only [maxLen]; omega) (by omega)) rfl ?_
  rintro _ _ ⟨A2, c2, rfl, rfl⟩
  simp only [Nat.zero_add, List.nil_append]
  refine ZA ?_
  refine Zy (y_conv rfl rfl (Zv rfl) (by first | exact IntWalk.u8_in _ ⟨by omega, by omega⟩ | exact rfl)) ?_
  refine wl_t (t_buildSl1 rfl rfl (fun _ => rfl) (fun _ => rfl) rfl rfl) rfl ?_
  rintro _ _ ⟨b44, rfl, rfl⟩
  refine wl_t (t_append (e := 5) (sz := 1) (bytes := 1) rfl rfl Za rfl rfl (fun w hi => hi.rd (show Has _ (slv 5 1 (some ⟨b44, 0, none⟩) 1 1 [.int .u8 (IntKind.u8.wrap v)]) from Zh)) (allT rfl) (by simp only [maxLen]; omega) (by omega)) rfl ?_
  rintro _ _ ⟨A3, c3, rfl, rfl⟩
  rw [show ou.length + 1 = (ou ++ [IntKind.u8.wrap v]).length by simp, show ints .u8 ou ++ [Value.int .u8 (IntKind.u8.wrap v)] = ints .u8 (ou ++ [IntKind.u8.wrap v]) from ints_append ou [IntKind.u8.wrap v]]
  refine ZA ?_
  refine ZFa 4 ?_
  refine ZL ?_
  refine Zn (Zo (Zt (Zs (Zr (ZA ?_)))))
  refine Zn (Zt (Ze (qok_pick (refBF b K.bm bd ⟨A3, c3, Ai, ci⟩ ⟨pe, ma, ti, ou ++ [IntKind.u8.wrap v], inp, dk, se, pl, st⟩ ++ rmF K n M) Zj ?_)))
  refine ret1 (cs' := [row _ _ _, slv _ _ _ _ _ _, rdC _ _ _ _, slv _ _ _ _ _ _, row _ _ _, slv _ _ _ _ _ _, slv _ _ _ _ _ _]) (.inl rfl) Zu rfl rfl ?_
  refine ⟨⟨A3, c3, Ai, ci⟩, ?_, ?_⟩
  ·simp only [devStore, *, cond_true, cond_false] <;> exact rfl
  simp only [devStore, *, cond_true, cond_false] <;> exact rfl
 refine Zs (Zr (ZA ?_))
 refine ZA ?_
 refine Zn (Zt ?_)
 refine wc_cond _ rfl (fun hc11 => ?_) (fun hc11 => ?_)
 ·refine Zr (ZA ?_)
  iterate 2 refine ZA ?_
  refine ZFa 7 ?_
  refine ZL ?_
  refine Zn (Zo (Zt (Zs (Zr (ZA ?_)))))
  refine Zn (Zt (Ze (ret1 (cs' := [row _ _ _, slv _ _ _ _ _ _, rdC _ _ _ _, slv _ _ _ _ _ _, row _ _ _, slv _ _ _ _ _ _, slv _ _ _ _ _ _]) (.inl rfl) Zu rfl rfl ?_)))
  refine ⟨⟨Ao, co, Ai, ci⟩, ?_, ?_⟩
  ·simp only [devStore, devCmd, *, cond_true, cond_false] <;> exact rfl
  simp only [devStore, devCmd, *, cond_true, cond_false] <;> exact rfl
 refine Zs (Zr (ZA ?_))
 refine ZA ?_
 refine Zn (Zt ?_)
 refine wc_cond _ rfl (fun hc13 => ?_) (fun hc13 => ?_)
 ·refine Zr (ZA ?_)
  iterate 2 refine ZA ?_
  refine ZFa 8 ?_
  refine ZL ?_
  refine Zn (Zo (Zt (Zs (Zr (ZA ?_)))))
  refine Zn (Zt (Ze (ret1 (cs' := [row _ _ _, slv _ _ _ _ _ _, rdC _ _ _ _, slv _ _ _ _ _ _, row _ _ _, slv _ _ _ _ _ _, slv _ _ _ _ _ _]) (.inl rfl) Zu rfl rfl ?_)))
  refine ⟨⟨Ao, co, Ai, ci⟩, ?_, ?_⟩
  ·simp only [devStore, devCmd, *, cond_true, cond_false] <;> exact rfl
  simp only [devStore, devCmd, *, cond_true, cond_false] <;> exact rfl
 refine Zs (Zr (ZA ?_))
 refine ZA ?_
 refine Zn (Zt ?_)
 refine wc_cond _ rfl (fun hc15 => ?_) (fun hc15 => ?_)
 ·refine Zs (Zr (ZA ?_))
  refine ZA ?_
  refine ZFa 9 ?_
  refine ZL ?_
  refine Zn (Zt (Zs (Zs (wc_draw ⟨fun j => List.elem j [10], []⟩ Zk ?_))))
  refine ZE 0 ?_
  refine ZE 1 ?_
  refine ZE 2 ?_
  refine ZFe 3 7 ?_
  refine ZG 4 ?_
  refine ZE 5 ?_
  refine ZE 6 ?_
  refine ZFe 7 8 ?_
  refine ZG 8 ?_
  refine ZE 9 ?_
  refine wa_1 10 Zk ?_
  refine wi_t rfl rfl (t_callS (refBF b K.bm bd ⟨Ao, co, Ai, ci⟩ ⟨pe, ma, ti, ou, inp, dk, se, pl, 1⟩ ++ rmF K n M) rfl (fun _ _ => rfl) Zi (fun w hi hin => HD w hin)) (fun _ _ _ _ _ _ _ h => by cases h) rfl ?_
  rintro _ _ ⟨_, ⟨rfl, rfl⟩, rfl⟩
  refine wa_done Zk ?_
  refine Zt ?_
  refine wc_cond _ rfl (fun hc17 => ?_) (fun hc17 => ?_)
  ·have hdt : dok = true := hc17
   subst hdt
   refine Zr (ZA ?_)
   refine ZA ?_
   refine ZFa 9 ?_
   refine ZL ?_
   refine Zn (Zt (Zr (ZA ?_)))
   iterate 2 refine ZA ?_
   refine ZFa 1 ?_
   refine ZC ?_
   iterate 2 refine ZA ?_
   refine ZFa 1 ?_
   refine ZL ?_
   refine Zn (Zo (Zt (Zs (Zr (ZA ?_)))))
   refine Zn (Zt (Ze (ret1 (cs' := [row _ _ _, slv _ _ _ _ _ _, rdC _ _ _ _, slv _ _ _ _ _ _, row _ _ _, slv _ _ _ _ _ _, slv _ _ _ _ _ _]) (.inl rfl) Zu rfl rfl ?_)))
   refine ⟨⟨Ao, co, Ai, ci⟩, ?_, ?_⟩
   ·simp only [devStore, devCmd, *, cond_true, cond_false] <;> exact rfl
   simp only [devStore, devCmd, *, cond_true, cond_false] <;> exact rfl
  have hdt : dok = false := hc17
  subst hdt
  refine Zc (Zt (Zr (ZA ?_)))
  iterate 2 refine ZA ?_
  refine ZFa 1 ?_
  refine ZC ?_
  iterate 2 refine ZA ?_
  refine ZFa 1 ?_
  refine ZL ?_
  refine Zn (Zo (Zt (Zs (Zr (ZA ?_)))))
  refine Zn (Zt (Ze (ret1 (cs' := [row _ _ _, slv _ _ _ _ _ _, rdC _ _ _ _, slv _ _ _ _ _ _, row _ _ _, slv _ _ _ _ _ _, slv _ _ _ _ _ _]) (.inl rfl) Zu rfl rfl ?_)))
  refine ⟨⟨Ao, co, Ai, ci⟩, ?_, ?_⟩
  ·simp only [devStore, devCmd, *, cond_true, cond_false] <;> exact rfl
  simp only [devStore, devCmd, *, cond_true, cond_false] <;> exact rfl
 refine Zs (Zs (Zr (ZA ?_)))
 refine ZA ?_
 refine Zn (Zt ?_)
 refine wc_cond _ rfl (fun hc20 => ?_) (fun hc20 => ?_)
 ·refine Zc (Zt (wc_cond_t rfl (hc20) ?_))
  refine Zc (Zo (Zt (Zs (Zr (ZA ?_)))))
  refine Zn (Zt (Ze (ret1 (cs' := [row _ _ _, slv _ _ _ _ _ _, rdC _ _ _ _, slv _ _ _ _ _ _, row _ _ _, slv _ _ _ _ _ _, slv _ _ _ _ _ _]) (.inl rfl) Zu rfl rfl ?_)))
  refine ⟨⟨Ao, co, Ai, ci⟩, ?_, ?_⟩
  ·simp only [devStore, devCmd, *, cond_true, cond_false] <;> exact rfl
  simp only [devStore, devCmd, *, cond_true, cond_false] <;> exact rfl
 refine Zs (Zr (ZA ?_))
 refine ZA ?_
 refine Zn (Zt ?_)
 refine wc_cond _ rfl (fun hc21 => ?_) (fun hc21 => ?_)
 ·refine Zc (Zt (wc_cond_t rfl (hc21) ?_))
  refine Zc (Zo (Zt (Zs (Zr (ZA ?_)))))
  refine Zn (Zt (Ze (ret1 (cs' := [row _ _ _, slv _ _ _ _ _ _, rdC _ _ _ _, slv _ _ _ _ _ _, row _ _ _, slv _ _ _ _ _ _, slv _ _ _ _ _ _]) (.inl rfl) Zu rfl rfl ?_)))
  refine ⟨⟨Ao, co, Ai, ci⟩, ?_, ?_⟩
  ·simp only [devStore, devCmd, *, cond_true, cond_false] <;> exact rfl
  simp only [devStore, devCmd, *, cond_true, cond_false] <;> exact rfl
 refine Zs (Zr (ZA ?_))
 refine ZA ?_
 refine Zn (Zt ?_)
 refine wc_cond _ rfl (fun hc22 => ?_) (fun hc22 => ?_)
 ·refine Zc (Zt (wc_cond_t rfl (hc22) ?_))
  refine Zc (Zo (Zt (Zs (Zr (ZA ?_)))))
  refine Zn (Zt (Ze (ret1 (cs' := [row _ _ _, slv _ _ _ _ _ _, rdC _ _ _ _, slv _ _ _ _ _ _, row _ _ _, slv _ _ _ _ _ _, slv _ _ _ _ _ _]) (.inl rfl) Zu rfl rfl ?_)))
  refine ⟨⟨Ao, co, Ai, ci⟩, ?_, ?_⟩
  ·simp only [devStore, devCmd, *, cond_true, cond_false] <;> exact rfl
  simp only [devStore, devCmd, *, cond_true, cond_false] <;> exact rfl
 refine Zr (ZA ?_)
 refine ZA ?_
 refine Zn (Zt ?_)
 refine wc_cond _ rfl (fun hc23 => ?_) (fun hc23 => ?_)
 ·refine Zc (Zo (Zt (Zs (Zr (ZA ?_)))))
  refine Zn (Zt (Ze (ret1 (cs' := [row _ _ _, slv _ _ _ _ _ _, rdC _ _ _ _, slv _ _ _ _ _ _, row _ _ _, slv _ _ _ _ _ _, slv _ _ _ _ _ _]) (.inl rfl) Zu rfl rfl ?_)))
  refine ⟨⟨Ao, co, Ai, ci⟩, ?_, ?_⟩
  ·simp only [devStore, devCmd, *, cond_true, cond_false] <;> exact rfl
  simp only [devStore, devCmd, *, cond_true, cond_false] <;> exact rfl
 refine Zs (Zr (ZA ?_))
 refine Zn (Zt (Ze (Zq (Zw (ret1 (cs' := [row _ _ _, slv _ _ _ _ _ _, rdC _ _ _ _, slv _ _ _ _ _ _, row _ _ _, slv _ _ _ _ _ _, slv _ _ _ _ _ _]) (.inl rfl) Zu rfl rfl ?_)))))
 refine ⟨⟨Ao, co, Ai, ci⟩, ?_, ?_⟩
 ·simp only [devStore, devCmd, *, cond_true, cond_false] <;> exact rfl
 simp only [devStore, devCmd, *, cond_true, cond_false] <;> exact rfl
end Go.Proofs.YthcpmpmbgbibfaaGreatDoor
