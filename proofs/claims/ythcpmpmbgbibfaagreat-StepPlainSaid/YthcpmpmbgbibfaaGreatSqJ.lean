/- Instructions that are drawn; the laws' list of them. -/
import Derived.Test.YthcpmpmbgbibfaaGreatSqI
import Derived.Test.YthcpmpmbgbibfaaGreatInkA
import Derived.Test.YthcpmpmbgbibfaaGreatSqF
import Derived.Test.YthcpmpmbgbibfaaGreatInkB
set_option linter.unusedSimpArgs false
set_option linter.unusedVariables false
set_option maxRecDepth 100000
namespace Go.Ink
open Go.RowKit
abbrev opList : List Int := [1, 1, 1, 2, 3, 4, 5, 6, 7, 8, 16, 17, 18, 19, 20, 21, 22, 23, 24, 25, 32, 33, 34, 35, 36, 37, 38, 39, 40, 48, 49, 50, 51, 52, 53, 64, 65, 66, 67, 68, 0, 69]
structure AskR where
 n : Int
 v : Int
 At : Option Addr
 ct : Nat
 ts : List Int
 raw : Bool
 op : Int
 nn : Int
def AskR.cells (a : AskR) : List Value := [.int .i64 a.n, .int .u32 a.v, .slice a.At a.ts.length a.ct, .bool a.raw, .int .i64 a.op, .int .u32 a.nn]
theorem AskR.cells_len (a : AskR) : a.cells.length = 6 := rfl
structure AskR.ok (W : World) (a : AskR) : Prop where
 v : u32 a.v
 nn : u32 a.nn
 rd : Rd W .u32 a.At a.ts.length a.ct a.ts
 ts : ∀ x, x ∈ a.ts → u32 x
end Go.Ink
namespace Go.Proofs.YthcpmpmbgbibfaaGreat
open Go.RowKit Go.Ink
attribute [local irreducible] OpY GuardIs

theorem ref2size_ok (op : Int) (w : World) : Ctr Tryz.prog 54 [.int .i64 op] w [] (fun v cs => (∃ z, v = .int .i64 z) ∧ cs = []) := by
 refine fn_ctr Tryz.func54 rfl Tryz.ntmps54 rfl (Inv.start w) ?_
 refine Zs (Zr (ZA ?_))
 refine Zn (Zt (Zs (Zx (Zs (Zr (ZA ?_))))))
 iterate 2 refine ZA ?_
 refine Zn (Zt ?_)
 refine wc_cond _ rfl (fun hc1 => ?_) (fun hc1 => ?_)
 ·refine Zs (Zr (ZA ?_))
  refine Zn (Zt (Ze (Zq (Zw (ret1 (cs' := []) (.inl rfl) Zu rfl rfl ?_)))))
  exact ⟨⟨_, rfl⟩, rfl⟩
 refine Zs (Zr (ZA ?_))
 iterate 2 refine ZA ?_
 iterate 6 refine ZB ?_
 iterate 2 refine ZA ?_
 iterate 2 refine ZB ?_
 iterate 2 refine ZA ?_
 iterate 2 refine ZB ?_
 iterate 2 refine ZA ?_
 refine Zn (Zt ?_)
 refine wc_cond _ rfl (fun hc3 => ?_) (fun hc3 => ?_)
 ·refine Zs (Zr (ZA ?_))
  refine Zn (Zt (Ze (Zq (Zw (ret1 (cs' := []) (.inl rfl) Zu rfl rfl ?_)))))
  exact ⟨⟨_, rfl⟩, rfl⟩
 refine Zs (Zr (ZA ?_))
 iterate 2 refine ZA ?_
 iterate 2 refine ZB ?_
 iterate 2 refine ZA ?_
 iterate 6 refine ZB ?_
 iterate 2 refine ZA ?_
 iterate 2 refine ZB ?_
 iterate 2 refine ZA ?_
 iterate 2 refine ZB ?_
 iterate 2 refine ZA ?_
 iterate 6 refine ZB ?_
 iterate 2 refine ZA ?_
 iterate 6 refine ZB ?_
 iterate 2 refine ZA ?_
 refine Zn (Zt ?_)
 refine wc_cond _ rfl (fun hc5 => ?_) (fun hc5 => ?_)
 ·refine Zs (Zr (ZA ?_))
  refine Zn (Zt (Ze (Zq (Zw (ret1 (cs' := []) (.inl rfl) Zu rfl rfl ?_)))))
  exact ⟨⟨_, rfl⟩, rfl⟩
 refine Zc (Zo (Zt (Zs (Zr (ZA ?_)))))
 refine Zn (Zt (Ze (ret1 (cs' := []) (.inl rfl) Zu rfl rfl ?_)))
 exact ⟨⟨_, rfl⟩, rfl⟩
theorem keepop_ok (n : Int) (w : World) : Ctr Tryz.prog 53 [.int .i64 n] w [] (fun v cs => (∃ z, v = .int .i64 z ∧ z ∈ opList) ∧ cs = []) := by
 obtain ⟨x, hx⟩ : ∃ x, within n 0 1073741824 = x := ⟨_, rfl⟩
 have hxr := within_rng n 0 1073741824 (by decide)
 rw [hx] at hxr
 have HW := fun w => within_e hx w (by decide) (by decide) (by decide)
 obtain ⟨k, hk⟩ : ∃ k : Nat, x % 42 = k := Int.eq_ofNat_of_zero_le (by omega)
 have hk42 : k < opList.length := by show k < 42; omega
 have hop : opList[k]? = some (opList[k]'hk42) := List.getElem?_eq_getElem hk42
 have hmem : opList[k]'hk42 ∈ opList := List.getElem_mem hk42
 obtain ⟨op, hq⟩ : ∃ op, opList[k]'hk42 = op := ⟨_, rfl⟩
 rw [hq] at hop hmem
 have hk42 : k < 42 := hk42
 refine fn_ctr Tryz.func53 rfl Tryz.ntmps53 rfl (Inv.start w) ?_
 refine Zs (Zr (ZA ?_))
 refine Zn (Zt (Zs (Zr (wl_t (t_buildSl1 rfl rfl (fun _ => rfl) (fun _ => rfl) rfl rfl) rfl ?_))))
 rintro _ _ ⟨b4, rfl, rfl⟩
 refine ZA ?_
 refine Zn (Zt (Zs (Zr (ZA ?_))))
 refine ZA ?_
 refine ZS (fun w hi => HW w) ?_
 rintro _ _ ⟨_, ⟨rfl, rfl⟩, rfl⟩
 iterate 2 refine ZA ?_
 refine Zy (y_rem (Zv rfl) (Zv rfl) (by omega) (show _ = (k : Int) from by rw [Int.tmod_eq_emod_of_nonneg (by omega)]; exact hk)) ?_
 refine Zy (y_indexR (j := k) (sz := 1) (r := k) rfl (fun _ => rfl) (Zv rfl) (Zv rfl) (fun _ => by omega) (fun _ => by omega) (by omega)) ?_
 refine wl_y (y_load (fun _ => rfl) (Zv rfl)) (sl_cellR Zh (ints_at (l := [1, 1, 1, 2, 3, 4, 5, 6, 7, 8, 16, 17, 18, 19, 20, 21, 22, 23, 24, 25, 32, 33, 34, 35, 36, 37, 38, 39, 40, 48, 49, 50, 51, 52, 53, 64, 65, 66, 67, 68, 0, 69]) hop)) rfl ?_
 refine ZA ?_
 refine Zn (Zt (Ze (ret1 (cs' := []) (.inl rfl) Zu rfl rfl ?_)))
 exact ⟨⟨_, rfl, hmem⟩, rfl⟩
set_option maxHeartbeats 1000000 in
theorem instr_ok (n v : Int) (hv : u32 v) (w : World) : Ctr Tryz.prog 19 [.int .i64 n, .int .u32 v] w [] (fun x cs => (∃ op nn, x = .agg #[.int .i64 op, .int .u32 nn] ∧ u32 nn ∧ op ∈ opList) ∧ cs = []) := by
 obtain ⟨v, rfl⟩ : ∃ m : Nat, v = m := Int.eq_ofNat_of_zero_le hv.1
 have hv2 : (v : Int) ≤ 4294967295 := hv.2
 obtain ⟨x, hx, hxu⟩ : ∃ x, ([(v : Int), ((v % 256 : Nat) : Int), ((32768 + v % 64 : Nat) : Int), ((v % 4096 : Nat) : Int)] : List Int)[v % 4]? = some x ∧ u32 x := by
  have : v % 4 = 0 ∨ v % 4 = 1 ∨ v % 4 = 2 ∨ v % 4 = 3 := by omega
  rcases this with h | h | h | h <;> rw [h]
  ·exact ⟨_, rfl, hv⟩
  ·exact ⟨_, rfl, u32_nat (by omega)⟩
  ·exact ⟨_, rfl, u32_nat (by omega)⟩
  exact ⟨_, rfl, u32_nat (by omega)⟩
 refine fn_ctr Tryz.func19 rfl Tryz.ntmps19 rfl (Inv.start w) ?_
 refine Zs (Zr (ZN fun b4 => ?_))
 refine Zn (Zt (Zs (Zr (ZA ?_))))
 refine ZS (fun w hi => keepop_ok n w) ?_
 rintro _ _ ⟨_, ⟨⟨op, rfl, hop⟩, rfl⟩, rfl⟩
 refine ZA ?_
 refine ZN fun b5 => ?_
 refine ZM ?_
 refine Zn (Zt (Zs (Zs (Zr (ZFa 0 ?_)))))
 refine ZC ?_
 refine ZS (fun w hi => ref2size_ok op w) ?_
 rintro _ _ ⟨_, ⟨⟨z, rfl⟩, rfl⟩, rfl⟩
 refine Zn (Zt (Zx (Zs (Zr (ZA ?_)))))
 refine ZA ?_
 refine Zn (Zt ?_)
 refine wc_cond _ rfl (fun hc3 => ?_) (fun hc3 => ?_)
 ·refine Zs (Zr (ZA ?_))
  refine Zy (y_rem (Zv rfl) (Zv rfl) (by omega) (show _ = ((v % 256 : Nat) : Int) from by rw [Int.tmod_eq_emod_of_nonneg (by omega)]; omega)) ?_
  refine ZFa 1 ?_
  refine ZL ?_
  refine Zn (Zt (Zs (Zs (Zr (ZFa 0 ?_)))))
  refine ZC ?_
  iterate 2 refine ZA ?_
  refine ZFb 0 ?_
  refine ZD ?_
  refine ZB ?_
  refine ZA ?_
  refine Zn (Zt ?_)
  refine wc_cond _ rfl (fun hc5 => ?_) (fun hc5 => ?_)
  ·refine Zr (ZA ?_)
   refine Zy (y_rem (Zv rfl) (Zv rfl) (by omega) (show _ = ((v % 12 : Nat) : Int) from by rw [Int.tmod_eq_emod_of_nonneg (by omega)]; omega)) ?_
   refine ZFa 1 ?_
   refine ZL ?_
   refine Zn (Zt (Zs (Zr (ZFa 0 ?_))))
   refine ZC ?_
   iterate 2 refine ZA ?_
   refine ZFb 0 ?_
   refine ZD ?_
   refine ZB ?_
   refine ZA ?_
   refine Zn (Zt ?_)
   refine wc_cond _ rfl (fun hc7 => ?_) (fun hc7 => ?_)
   ·refine Zr (ZA ?_)
    refine Zy (y_rem (Zv rfl) (Zv rfl) (by omega) (show _ = ((v % 40 : Nat) : Int) from by rw [Int.tmod_eq_emod_of_nonneg (by omega)]; omega)) ?_
    refine Zy (y_add (Zv rfl) (Zv rfl) (show _ = ((v % 40 + 240 : Nat) : Int) from by rw [u32_wrap_id _ (by omega) (by omega)]; omega)) ?_
    refine Zy (y_rem (Zv rfl) (Zv rfl) (by omega) (show _ = (((v % 40 + 240) % 256 : Nat) : Int) from by rw [Int.tmod_eq_emod_of_nonneg (by omega)]; omega)) ?_
    refine ZFa 1 ?_
    refine ZL ?_
    refine Zn (Zo (Zt (Zs (Zr (wl_loadRow Zh (fun _ => rfl) (fun _ => rfl) (Zv rfl) rfl ?_)))))
    refine ZM ?_
    refine Zn (Zt (Ze (retC (cs' := []) (.inl rfl) Zu rfl rfl Zh (fun _ => rfl) (fun _ => rfl) ?_)))
    exact ⟨⟨_, _, rfl, (by first | exact u0 | exact hxu | exact u32_nat (by omega)), hop⟩, rfl⟩
   refine Zc (Zo (Zt (Zs (Zr (wl_loadRow Zh (fun _ => rfl) (fun _ => rfl) (Zv rfl) rfl ?_)))))
   refine ZM ?_
   refine Zn (Zt (Ze (retC (cs' := []) (.inl rfl) Zu rfl rfl Zh (fun _ => rfl) (fun _ => rfl) ?_)))
   exact ⟨⟨_, _, rfl, (by first | exact u0 | exact hxu | exact u32_nat (by omega)), hop⟩, rfl⟩
  refine Zc (Zt (Zs (Zr (ZFa 0 ?_))))
  refine ZC ?_
  iterate 2 refine ZA ?_
  refine ZFb 0 ?_
  refine ZD ?_
  refine ZB ?_
  refine ZA ?_
  refine Zn (Zt ?_)
  refine wc_cond _ rfl (fun hc7 => ?_) (fun hc7 => ?_)
  ·refine Zr (ZA ?_)
   refine Zy (y_rem (Zv rfl) (Zv rfl) (by omega) (show _ = ((v % 40 : Nat) : Int) from by rw [Int.tmod_eq_emod_of_nonneg (by omega)]; omega)) ?_
   refine Zy (y_add (Zv rfl) (Zv rfl) (show _ = ((v % 40 + 240 : Nat) : Int) from by rw [u32_wrap_id _ (by omega) (by omega)]; omega)) ?_
   refine Zy (y_rem (Zv rfl) (Zv rfl) (by omega) (show _ = (((v % 40 + 240) % 256 : Nat) : Int) from by rw [Int.tmod_eq_emod_of_nonneg (by omega)]; omega)) ?_
   refine ZFa 1 ?_
   refine ZL ?_
   refine Zn (Zo (Zt (Zs (Zr (wl_loadRow Zh (fun _ => rfl) (fun _ => rfl) (Zv rfl) rfl ?_)))))
   refine ZM ?_
   refine Zn (Zt (Ze (retC (cs' := []) (.inl rfl) Zu rfl rfl Zh (fun _ => rfl) (fun _ => rfl) ?_)))
   exact ⟨⟨_, _, rfl, (by first | exact u0 | exact hxu | exact u32_nat (by omega)), hop⟩, rfl⟩
  refine Zc (Zo (Zt (Zs (Zr (wl_loadRow Zh (fun _ => rfl) (fun _ => rfl) (Zv rfl) rfl ?_)))))
  refine ZM ?_
  refine Zn (Zt (Ze (retC (cs' := []) (.inl rfl) Zu rfl rfl Zh (fun _ => rfl) (fun _ => rfl) ?_)))
  exact ⟨⟨_, _, rfl, (by first | exact u0 | exact hxu | exact u32_nat (by omega)), hop⟩, rfl⟩
 refine Zs (Zr (ZA ?_))
 refine ZA ?_
 refine Zn (Zt ?_)
 refine wc_cond _ rfl (fun hc9 => ?_) (fun hc9 => ?_)
 ·refine Zr (ZA ?_)
  refine ZA ?_
  refine Zy (y_rem (Zv rfl) (Zv rfl) (by omega) (show _ = ((v % 256 : Nat) : Int) from by rw [Int.tmod_eq_emod_of_nonneg (by omega)]; omega)) ?_
  refine ZA ?_
  refine Zy (y_rem (Zv rfl) (Zv rfl) (by omega) (show _ = ((v % 64 : Nat) : Int) from by rw [Int.tmod_eq_emod_of_nonneg (by omega)]; omega)) ?_
  refine Zy (y_add (Zv rfl) (Zv rfl) (show _ = ((32768 + v % 64 : Nat) : Int) from by rw [u32_wrap_id _ (by omega) (by omega)]; omega)) ?_
  refine ZA ?_
  refine Zy (y_rem (Zv rfl) (Zv rfl) (by omega) (show _ = ((v % 4096 : Nat) : Int) from by rw [Int.tmod_eq_emod_of_nonneg (by omega)]; omega)) ?_
  refine wl_t (t_buildSl1 rfl rfl (fun _ => rfl) (fun _ => rfl) rfl rfl) rfl ?_
  rintro _ _ ⟨b51, rfl, rfl⟩
  refine ZA ?_
  refine Zy (y_rem (Zv rfl) (Zv rfl) (by omega) (show _ = ((v % 4 : Nat) : Int) from by rw [Int.tmod_eq_emod_of_nonneg (by omega)]; omega)) ?_
  refine Zy (y_indexR (j := (v % 4)) (sz := 1) (r := (v % 4)) rfl (fun _ => rfl) (Zv rfl) (Zv rfl) (fun _ => by omega) (fun _ => by omega) (by omega)) ?_
  refine wl_y (y_load (fun _ => rfl) (Zv rfl)) (sl_cellR Zh (ints_at (l := [(v : Int), ((v % 256 : Nat) : Int), ((32768 + v % 64 : Nat) : Int), ((v % 4096 : Nat) : Int)]) hx)) rfl ?_
  refine ZFa 1 ?_
  refine ZL ?_
  refine Zn (Zo (Zt (Zs (Zr (wl_loadRow Zh (fun _ => rfl) (fun _ => rfl) (Zv rfl) rfl ?_)))))
  refine ZM ?_
  refine Zn (Zt (Ze (retC (cs' := []) (.inl rfl) Zu rfl rfl Zh (fun _ => rfl) (fun _ => rfl) ?_)))
  exact ⟨⟨_, _, rfl, (by first | exact u0 | exact hxu | exact u32_nat (by omega)), hop⟩, rfl⟩
 refine Zc (Zo (Zt (Zs (Zr (wl_loadRow Zh (fun _ => rfl) (fun _ => rfl) (Zv rfl) rfl ?_)))))
 refine ZM ?_
 refine Zn (Zt (Ze (retC (cs' := []) (.inl rfl) Zu rfl rfl Zh (fun _ => rfl) (fun _ => rfl) ?_)))
 exact ⟨⟨_, _, rfl, (by first | exact u0 | exact hxu | exact u32_nat (by omega)), hop⟩, rfl⟩
end Go.Proofs.YthcpmpmbgbibfaaGreat
