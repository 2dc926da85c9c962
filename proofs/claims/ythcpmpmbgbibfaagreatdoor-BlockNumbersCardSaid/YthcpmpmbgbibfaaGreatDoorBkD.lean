/- What is fetched at a place; whether the block goes on; a block's beginning. -/
import Derived.Test.YthcpmpmbgbibfaaGreatDoorBkC
import Derived.Test.YthcpmpmbgbibfaaGreatDoorInkA
set_option linter.unusedSimpArgs false
set_option linter.unusedVariables false
set_option maxRecDepth 100000
namespace Go.Ink
open Go.RowKit
theorem fetchOf_no {n : Nat} {M : Mem} {p : Nat} (h : n ≤ p / 64) : fetchOf n M p = none := by
 unfold fetchOf
 rw [decide_eq_false (by omega)]
 rfl
theorem fetchOf_in {n : Nat} {M : Mem} {p : Nat} (h : p / 64 < n) : fetchOf n M p = decodeOf (((M.data.drop (p / 64 * 64)).take 64).drop (p % 64)) := by
 unfold fetchOf
 rw [decide_eq_true h]
 rfl
theorem cut64 {w : World} {b j : Nat} {X : List Int} (h : Rd w .u8 (some ⟨b, 0, none⟩) 64 64 X) (hj : j < 64) (hX : X.length = 64) : Rd w .u8 (some ⟨b, j, none⟩) (64 - j) (64 - j) (X.drop j) := by
 have h5 := RdV.cut h (lo := j) (hi := 64) (by omega) (Nat.le_refl _)
 rw [if_neg (by omega), Option.map_some, Addr.add_lit, Nat.zero_add, Nat.mul_one] at h5
 have e : (ints .u8 X).take 64 = ints .u8 X := List.take_of_length_le (by simp [ints, hX])
 rw [e] at h5
 have e2 : (ints .u8 X).drop j = ints .u8 (X.drop j) := by simp [ints]
 rwa [e2] at h5
abbrev begCells (b : Begun) (X : SAdr) : List Value := b.s.cells (.slice X.Ad b.s.d.length X.cd) (.slice X.Ar b.s.r.length X.cr) ++ [.int .u32 b.place, .bool b.runs]
end Go.Ink
namespace Go.Proofs.YthcpmpmbgbibfaaGreatDoor
open Go.RowKit Go.Ink
attribute [local irreducible] OpY GuardIs

theorem rpage_none (L : MLoc) (M : Mem) (p : Nat) (hp : L.n ≤ p) (w : World) (h : (memC L M).ok w) : Ctr Tryz.prog 65 [.pointer (some ⟨L.bm, 0, none⟩), .int .i64 p] w [] (fun v cs => v = .tuple #[.slice none 0 0, .bool false] ∧ cs = []) := by
 obtain ⟨n1, n64, hdl, hdb, htl⟩ := mem_n h
 obtain ⟨k0, hr0, h1, h2, h3, h4⟩ := mem_ok h
 refine fn_ctr Tryz.func65 rfl Tryz.ntmps65 rfl (Inv.start w) ?_
 refine Zs (Zr (ZA ?_))
 refine ZA ?_
 refine Zn (Zt (Zs (Zs (Zr (ZA ?_)))))
 refine ZA ?_
 rw [decide_eq_false (show ¬ (p : Int) < 0 by omega)]
 refine ZA ?_
 iterate 3 refine ZB ?_
 refine ZFb 1 ?_
 refine wl_yg (guard_no rfl rfl) (y_load (fun _ => rfl) (ev_g rfl)) (old_row (by assumption) rfl) rfl ?_
 refine wl_tg (guard_no rfl rfl) rfl (t_call rfl (fun _ _ => rfl) (fun w hi => pages_ok L.bt L.bp L.o L.bf L.bg L.n w (Chunk.old h2 hi))) rfl ?_
 rintro _ _ ⟨_, ⟨rfl, rfl⟩, rfl⟩
 refine ZB ?_
 refine ZA ?_
 refine Zn (Zt (wc_cond_t rfl ((by rw [decide_eq_true (show (L.n : Int) ≤ p by omega)]; rfl)) ?_))
 refine Zs (Zr (ZA ?_))
 refine ZA ?_
 refine Zn (Zt (Ze (Zw (ret2 (cs' := []) (.inl rfl) Zu rfl rfl rfl ?_))))
 exact ⟨rfl, rfl⟩
set_option maxHeartbeats 1000000 in
theorem fetch_ok (bu bb : Nat) (L : MLoc) (M : Mem) (p : Nat) (hp : p ≤ 4294967295) (w : World) (hu : (uRow bu L.bm bb).ok w) (h : (memC L M).ok w) :
  Ctr Tryz.prog 26 [.pointer (some ⟨bu, 0, none⟩), .int .u32 (p : Int)] w [] (fun v cs => v = .tuple #[.agg (insV (fetchOf L.n M p)).toArray, .int .i64 (insN (fetchOf L.n M p) : Int), .bool (fetchOf L.n M p).isSome] ∧ cs = []) := by
 obtain ⟨n1, n64, hdl, hdb, htl⟩ := mem_n h
 have hq : IntKind.u32.wrap ((p : Int).tdiv 64) = ((p / 64 : Nat) : Int) := by rw [Int.tdiv_eq_ediv_of_nonneg (by omega), u32_wrap_id _ (by omega) (by omega)]; omega
 have hrm : (p : Int).tmod 64 = ((p % 64 : Nat) : Int) := by rw [Int.tmod_eq_emod_of_nonneg (by omega)]; omega
 by_cases hpn : p / 64 < L.n
 ·have HP := fun w h => rpage_ok L M (p / 64) hpn w h
  rw [fetchOf_in hpn]
  have hXl : ((M.data.drop (p / 64 * 64)).take 64).length = 64 := by rw [List.length_take, List.length_drop]; omega
  have hXb : u8s ((M.data.drop (p / 64 * 64)).take 64) := fun x hx => hdb x (List.mem_of_mem_drop (List.mem_of_mem_take hx))
  obtain ⟨X, hX⟩ : ∃ X, (M.data.drop (p / 64 * 64)).take 64 = X := ⟨_, rfl⟩
  rw [hX] at HP hXl hXb ⊢
  have hbl : (X.drop (p % 64)).length = 64 - p % 64 := by rw [List.length_drop, hXl]
  have HD := fun A c w h => decode_ok A c (X.drop (p % 64)) (fun x hx => hXb x (List.mem_of_mem_drop hx)) w h
  rw [hbl] at HD
  obtain ⟨o, ho⟩ : ∃ o, decodeOf (X.drop (p % 64)) = o := ⟨_, rfl⟩
  rw [ho] at HD ⊢
  refine fn_ctr Tryz.func26 rfl Tryz.ntmps26 rfl (Inv.start w) ?_
  refine Zs (Zr (ZN fun b4 => ?_))
  iterate 2 refine ZA ?_
  refine Zn (Zt (Zs (Zs (Zr (ZA ?_)))))
  refine ZA ?_
  refine Zn (Zt (wc_cond_f rfl (rfl) ?_))
  refine Zc (Zt (Zs (Zr (ZA ?_))))
  refine ZS (fun w hi => umem_ok bu L.bm bb w (Chunk.old hu hi)) ?_
  rintro _ _ ⟨_, ⟨rfl, rfl⟩, rfl⟩
  refine ZA ?_
  refine Zy (y_quo (Zv rfl) (Zv rfl) (by omega) hq) ?_
  refine Zy (y_conv rfl rfl (Zv rfl) Zl) ?_
  refine ZS (fun w hi => HP w (Chunk.old h hi)) ?_
  rintro _ _ ⟨_, ⟨bq, rfl, rfl⟩, rfl⟩
  iterate 5 refine ZA ?_
  refine Zn (Zt (Zs (Zs (Zr (ZA ?_)))))
  refine ZA ?_
  refine Zn (Zt (wc_cond_f rfl (rfl) ?_))
  refine Zc (Zt (Zs (Zr (ZA ?_))))
  refine ZA ?_
  refine Zy (y_rem (Zv rfl) (Zv rfl) (by omega) hrm) ?_
  refine Zy (y_sliceS (sz := 1) (lo := p % 64) (hi := 64) (r := p % 64) rfl (fun _ => rfl) (Zv rfl) (.inr ⟨_, _, rfl, (Zv rfl)⟩) (.inl ⟨rfl, rfl⟩) (by omega) (by omega) (by omega) (by omega)) ?_
  refine ZS (fun w hi => HD (some ⟨bq, p % 64, none⟩) (64 - p % 64) w (cut64 (hi.rd (show Has _ (sl .u8 5 (some ⟨bq, 0, none⟩) 64 64 X) from Zh)) (by omega) hXl)) ?_
  rintro _ _ ⟨_, ⟨⟨y, rfl, hy⟩, rfl⟩, rfl⟩
  iterate 4 refine ZA ?_
  refine ZN fun b9 => ?_
  refine ZM ?_
  iterate 2 refine ZA ?_
  refine Zn (Zt (Zs (Zr (wl_loadRow Zh (fun _ => rfl) (fun _ => rfl) (Zv rfl) rfl ?_))))
  iterate 2 refine ZA ?_
  refine Zy (y_eql (Zv rfl) (Zv rfl) hy) ?_
  refine ZM ?_
  iterate 2 refine ZA ?_
  refine Zn (Zt (Ze (retC2 (cs' := []) (.inl rfl) Zu rfl rfl rfl rfl Zh (fun _ => rfl) (fun _ => rfl) ?_)))
  exact ⟨rfl, rfl⟩
 have HP := fun w h => rpage_none L M (p / 64) (by omega) w h
 rw [fetchOf_no (by omega)]
 refine fn_ctr Tryz.func26 rfl Tryz.ntmps26 rfl (Inv.start w) ?_
 refine Zs (Zr (ZN fun b4 => ?_))
 iterate 2 refine ZA ?_
 refine Zn (Zt (Zs (Zs (Zr (ZA ?_)))))
 refine ZA ?_
 refine Zn (Zt (wc_cond_f rfl (rfl) ?_))
 refine Zc (Zt (Zs (Zr (ZA ?_))))
 refine ZS (fun w hi => umem_ok bu L.bm bb w (Chunk.old hu hi)) ?_
 rintro _ _ ⟨_, ⟨rfl, rfl⟩, rfl⟩
 refine ZA ?_
 refine Zy (y_quo (Zv rfl) (Zv rfl) (by omega) hq) ?_
 refine Zy (y_conv rfl rfl (Zv rfl) Zl) ?_
 refine ZS (fun w hi => HP w (Chunk.old h hi)) ?_
 rintro _ _ ⟨_, ⟨rfl, rfl⟩, rfl⟩
 iterate 5 refine ZA ?_
 refine Zn (Zt (Zs (Zs (Zr (ZA ?_)))))
 refine ZA ?_
 refine Zn (Zt (wc_cond_t rfl (rfl) ?_))
 refine Zs (Zr (ZA ?_))
 refine ZM ?_
 iterate 2 refine ZA ?_
 refine Zn (Zt (Ze (Zw (retC2 (cs' := []) (.inl rfl) Zu rfl rfl rfl rfl Zh (fun _ => rfl) (fun _ => rfl) ?_))))
 exact ⟨rfl, rfl⟩
theorem next_ok (op nn : Int) (r : Res) (X : SAdr) (Ap : Option Addr) (cp : Nat) (page was : Int) (hpc : u32 r.s.pc) (hw : u32 was) (w : World) (h : Rd w .i64 Ap r.pages.length cp r.pages) :
  Ctr Tryz.prog 85 [.agg #[.int .i64 op, .int .u32 nn], .agg (resCells r X Ap cp).toArray, .int .i64 page, .int .u32 was] w [] (fun v cs => v = .bool (nextOf op r page was) ∧ cs = []) := by
 have HC := fun w h => contains_ok Ap cp r.pages page w h
 have hq : ∀ x : Int, u32 x → IntKind.u32.wrap (x.tdiv 64) = x / 64 := fun x hx => by obtain ⟨h1, h2⟩ := hx; rw [Int.tdiv_eq_ediv_of_nonneg h1, u32_wrap_id _ (by omega) (by omega)]
 refine fn_ctr Tryz.func85 rfl Tryz.ntmps85 rfl (Inv.start w) ?_
 refine Zs (Zr (ZO fun b4 => ?_))
 refine ZO fun b5 => ?_
 refine ZA ?_
 refine Zn (Zt (Zs (Zs (Zr (ZFa 0 ?_)))))
 refine ZC ?_
 refine ZS (fun w hi => gends_ok op w) ?_
 rintro _ _ ⟨_, ⟨rfl, rfl⟩, rfl⟩
 refine ZA ?_
 refine ZFb 16 ?_
 refine ZD ?_
 iterate 2 refine ZA ?_
 refine ZFb 17 ?_
 refine ZD ?_
 iterate 2 refine ZA ?_
 refine ZFb 0 ?_
 refine ZFb 15 ?_
 refine ZD ?_
 iterate 2 refine ZA ?_
 refine ZFb 18 ?_
 refine ZD ?_
 refine ZB ?_
 refine wl_callg (guard_no rfl rfl) (.cons (ev_g rfl) (.cons (ev_g rfl) .nil)) (fun _ _ => rfl) (fun hg w hi => HC w (RdV.oldN h hi)) rfl ?_
 refine ZA ?_
 refine Zn (Zt ?_)
 refine wc_cond _ rfl (fun hc1 => ?_) (fun hc1 => ?_)
 ·refine Zs (Zr (ZA ?_))
  refine Zn (Zt (Ze (Zw (ret1 (cs' := []) (.inl rfl) Zu rfl rfl ?_))))
  exact ⟨by unfold nextOf; rw [hc1]; rfl, rfl⟩
 refine Zc (Zt (Zs (Zr (ZFa 0 ?_))))
 refine ZFa 0 ?_
 refine ZC ?_
 refine Zy (y_quo (Zv rfl) (Zv rfl) (by omega) (hq _ hpc)) ?_
 refine ZA ?_
 refine Zy (y_quo (Zv rfl) (Zv rfl) (by omega) (hq _ hw)) ?_
 iterate 2 refine ZA ?_
 refine Zn (Zt (Ze (ret1 (cs' := []) (.inl rfl) Zu rfl rfl ?_)))
 exact ⟨by unfold nextOf; rw [hc1]; rfl, rfl⟩
end Go.Proofs.YthcpmpmbgbibfaaGreatDoor
