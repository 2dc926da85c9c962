/- Instructions that are drawn; the laws' list of them. -/
import Derived.Test.YtobjiljkfmcalaaGreatSqI
import Derived.Test.YtobjiljkfmcalaaGreatInkA
import Derived.Test.YtobjiljkfmcalaaGreatSqF
import Derived.Test.YtobjiljkfmcalaaGreatInkB
set_option linter.unusedSimpArgs false
set_option linter.unusedVariables false
set_option maxRecDepth 100000
namespace Go.Ink
open Go.RowKit
abbrev opList : List Int := [1, 1, 1, 2, 3, 4, 5, 6, 7, 8, 16, 17, 18, 19, 20, 21, 22, 23, 24, 25, 32, 33, 34, 35, 36, 37, 38, 39, 40, 48, 49, 50, 51, 52, 53, 64, 65, 66, 67, 68, 0, 69]
structure AskR where
  n : Int
  v : Int
  At : Option Addr
  ct : Nat
  ts : List Int
  raw : Bool
  op : Int
  nn : Int
def AskR.cells (a : AskR) : List Value := [.int .i64 a.n, .int .u32 a.v, .slice a.At a.ts.length a.ct, .bool a.raw, .int .i64 a.op, .int .u32 a.nn]
theorem AskR.cells_len (a : AskR) : a.cells.length = 6 := rfl
structure AskR.ok (W : World) (a : AskR) : Prop where
  v : u32 a.v
  nn : u32 a.nn
  rd : Rd W .u32 a.At a.ts.length a.ct a.ts
  ts : ∀ x, x ∈ a.ts → u32 x
end Go.Ink
namespace Go.Proofs.YtobjiljkfmcalaaGreat
open Go.RowKit Go.Ink

theorem ref2size_ok (op : Int) (w : World) : Ctr Tryz.prog 38 [.int .i64 op] w [] (fun v cs => (∃ z, v = .int .i64 z) ∧ cs = []) := by
  refine fn_ctr Tryz.func38 rfl Tryz.ntmps38 rfl (Inv.start w) ?_
  refine Zs (Zr (Zg rfl (Zn (Zt (Zs (Zx (Zs (Zr (Zm rfl (Zy (y_eql (Zv rfl) (Zv rfl) rfl) (Zg rfl (Zn (Zt ?_)))))))))))))
  refine wc_cond _ rfl (fun hc1 => ?_) (fun hc1 => ?_)
  · refine Zs (Zr (Zg rfl (Zn (Zt (Ze (Zq (Zw (ret1 (cs' := []) (.inl rfl) Zu rfl rfl ?_))))))))
    exact ⟨⟨_, rfl⟩, rfl⟩
  refine Zs (Zr (Zm rfl (Zy (y_eql (Zv rfl) (Zv rfl) rfl) (Zm rfl (Zyn rfl rfl (y_move (Zv rfl)) ?_)))))
  refine Zyn rfl rfl (y_geq (ev_g rfl) (Zv rfl) rfl) ?_
  refine Zyn rfl rfl (y_move (ev_g rfl)) ?_
  refine wl_yg (guard_deep rfl rfl) (y_move (Zv rfl)) (fun _ _ => trivial) rfl ?_
  refine wl_yg (guard_deep rfl rfl) (y_leq (ev_g rfl) (Zv rfl) rfl) (fun _ _ => trivial) rfl ?_
  refine Zyn rfl rfl (y_and (ev_g rfl) (pk_gyes rfl (fun _ _ => rfl))) ?_
  refine Zy (y_or (Zv rfl) (pk_no rfl (fun _ => rfl))) (Zm rfl (Zyn rfl rfl (y_move (Zv rfl)) ?_))
  refine Zyn rfl rfl (y_eql (ev_g rfl) (Zv rfl) rfl) ?_
  refine Zy (y_or (Zv rfl) (pk_no rfl (fun _ => rfl))) (Zm rfl (Zyn rfl rfl (y_move (Zv rfl)) ?_))
  refine Zyn rfl rfl (y_eql (ev_g rfl) (Zv rfl) rfl) ?_
  refine Zy (y_or (Zv rfl) (pk_no rfl (fun _ => rfl))) (Zg rfl (Zn (Zt ?_)))
  refine wc_cond _ rfl (fun hc3 => ?_) (fun hc3 => ?_)
  · refine Zs (Zr (Zg rfl (Zn (Zt (Ze (Zq (Zw (ret1 (cs' := []) (.inl rfl) Zu rfl rfl ?_))))))))
    exact ⟨⟨_, rfl⟩, rfl⟩
  refine Zs (Zr (Zm rfl (Zy (y_geq (Zv rfl) (Zv rfl) rfl) (Zm rfl (Zyy rfl rfl (y_move (Zv rfl)) ?_)))))
  refine Zyy rfl rfl (y_leq (ev_g rfl) (Zv rfl) rfl) ?_
  refine Zy (y_and (Zv rfl) (pk_yes rfl (fun _ => rfl))) (Zm rfl (Zyn rfl rfl (y_move (Zv rfl)) ?_))
  refine Zyn rfl rfl (y_geq (ev_g rfl) (Zv rfl) rfl) ?_
  refine Zyn rfl rfl (y_move (ev_g rfl)) ?_
  refine wl_yg (guard_deep rfl rfl) (y_move (Zv rfl)) (fun _ _ => trivial) rfl ?_
  refine wl_yg (guard_deep rfl rfl) (y_leq (ev_g rfl) (Zv rfl) rfl) (fun _ _ => trivial) rfl ?_
  refine Zyn rfl rfl (y_and (ev_g rfl) (pk_gyes rfl (fun _ _ => rfl))) ?_
  refine Zy (y_or (Zv rfl) (pk_no rfl (fun _ => rfl))) (Zm rfl (Zyn rfl rfl (y_move (Zv rfl)) ?_))
  refine Zyn rfl rfl (y_eql (ev_g rfl) (Zv rfl) rfl) ?_
  refine Zy (y_or (Zv rfl) (pk_no rfl (fun _ => rfl))) (Zm rfl (Zyn rfl rfl (y_move (Zv rfl)) ?_))
  refine Zyn rfl rfl (y_eql (ev_g rfl) (Zv rfl) rfl) ?_
  refine Zy (y_or (Zv rfl) (pk_no rfl (fun _ => rfl))) (Zm rfl (Zyn rfl rfl (y_move (Zv rfl)) ?_))
  refine Zyn rfl rfl (y_geq (ev_g rfl) (Zv rfl) rfl) ?_
  refine Zyn rfl rfl (y_move (ev_g rfl)) ?_
  refine wl_yg (guard_deep rfl rfl) (y_move (Zv rfl)) (fun _ _ => trivial) rfl ?_
  refine wl_yg (guard_deep rfl rfl) (y_leq (ev_g rfl) (Zv rfl) rfl) (fun _ _ => trivial) rfl ?_
  refine Zyn rfl rfl (y_and (ev_g rfl) (pk_gyes rfl (fun _ _ => rfl))) ?_
  refine Zy (y_or (Zv rfl) (pk_no rfl (fun _ => rfl))) (Zm rfl (Zyn rfl rfl (y_move (Zv rfl)) ?_))
  refine Zyn rfl rfl (y_geq (ev_g rfl) (Zv rfl) rfl) ?_
  refine Zyn rfl rfl (y_move (ev_g rfl)) ?_
  refine wl_yg (guard_deep rfl rfl) (y_move (Zv rfl)) (fun _ _ => trivial) rfl ?_
  refine wl_yg (guard_deep rfl rfl) (y_leq (ev_g rfl) (Zv rfl) rfl) (fun _ _ => trivial) rfl ?_
  refine Zyn rfl rfl (y_and (ev_g rfl) (pk_gyes rfl (fun _ _ => rfl))) ?_
  refine Zy (y_or (Zv rfl) (pk_no rfl (fun _ => rfl))) (Zg rfl (Zn (Zt ?_)))
  refine wc_cond _ rfl (fun hc5 => ?_) (fun hc5 => ?_)
  · refine Zs (Zr (Zg rfl (Zn (Zt (Ze (Zq (Zw (ret1 (cs' := []) (.inl rfl) Zu rfl rfl ?_))))))))
    exact ⟨⟨_, rfl⟩, rfl⟩
  refine Zc (Zo (Zt (Zs (Zr (Zg rfl (Zn (Zt (Ze (ret1 (cs' := []) (.inl rfl) Zu rfl rfl ?_)))))))))
  exact ⟨⟨_, rfl⟩, rfl⟩
theorem keepop_ok (n : Int) (w : World) : Ctr Tryz.prog 37 [.int .i64 n] w [] (fun v cs => (∃ z, v = .int .i64 z ∧ z ∈ opList) ∧ cs = []) := by
  obtain ⟨x, hx⟩ : ∃ x, within n 0 1073741824 = x := ⟨_, rfl⟩
  have hxr := within_rng n 0 1073741824 (by decide)
  rw [hx] at hxr
  have HW := fun w => within_e hx w (by decide) (by decide) (by decide)
  obtain ⟨k, hk⟩ : ∃ k : Nat, x % 42 = k := Int.eq_ofNat_of_zero_le (by omega)
  have hk42 : k < opList.length := by show k < 42; omega
  have hop : opList[k]? = some (opList[k]'hk42) := List.getElem?_eq_getElem hk42
  have hmem : opList[k]'hk42 ∈ opList := List.getElem_mem hk42
  obtain ⟨op, hq⟩ : ∃ op, opList[k]'hk42 = op := ⟨_, rfl⟩
  rw [hq] at hop hmem
  have hk42 : k < 42 := hk42
  refine fn_ctr Tryz.func37 rfl Tryz.ntmps37 rfl (Inv.start w) ?_
  refine Zs (Zr (Zg rfl (Zn (Zt (Zs (Zr (wl_t (t_buildSl1 rfl rfl (fun _ => rfl) (fun _ => rfl) rfl rfl) rfl ?_)))))))
  rintro _ _ ⟨b4, rfl, rfl⟩
  refine Zg rfl (Zn (Zt (Zs (Zr (Zm rfl (Zm rfl (wl_t (t_call rfl (fun _ _ => rfl) (fun w hi => HW w)) rfl ?_)))))))
  rintro _ _ ⟨_, ⟨rfl, rfl⟩, rfl⟩
  refine Zm rfl (Zy (y_len ⟨_, rfl⟩ (Zv rfl)) ?_)
  refine Zy (y_rem (Zv rfl) (Zv rfl) (by omega) (show _ = (k : Int) from by rw [Int.tmod_eq_emod_of_nonneg (by omega)]; exact hk)) ?_
  refine Zy (y_indexR (j := k) (sz := 1) (r := k) rfl (fun _ => rfl) (Zv rfl) (Zv rfl) (fun _ => by omega) (fun _ => by omega) (by omega)) ?_
  refine wl_y (y_load (fun _ => rfl) (Zv rfl)) (sl_cellR Zh (ints_at (l := [1, 1, 1, 2, 3, 4, 5, 6, 7, 8, 16, 17, 18, 19, 20, 21, 22, 23, 24, 25, 32, 33, 34, 35, 36, 37, 38, 39, 40, 48, 49, 50, 51, 52, 53, 64, 65, 66, 67, 68, 0, 69]) hop)) rfl ?_
  refine Zg rfl (Zn (Zt (Ze (ret1 (cs' := []) (.inl rfl) Zu rfl rfl ?_))))
  exact ⟨⟨_, rfl, hmem⟩, rfl⟩
set_option maxHeartbeats 1000000 in
theorem instr_ok (n v : Int) (hv : u32 v) (w : World) : Ctr Tryz.prog 15 [.int .i64 n, .int .u32 v] w [] (fun x cs => (∃ op nn, x = .agg #[.int .i64 op, .int .u32 nn] ∧ u32 nn ∧ op ∈ opList) ∧ cs = []) := by
  obtain ⟨v, rfl⟩ : ∃ m : Nat, v = m := Int.eq_ofNat_of_zero_le hv.1
  have hv2 : (v : Int) ≤ 4294967295 := hv.2
  obtain ⟨x, hx, hxu⟩ : ∃ x, ([(v : Int), ((v % 256 : Nat) : Int), ((32768 + v % 64 : Nat) : Int), ((v % 4096 : Nat) : Int)] : List Int)[v % 4]? = some x ∧ u32 x := by
    have : v % 4 = 0 ∨ v % 4 = 1 ∨ v % 4 = 2 ∨ v % 4 = 3 := by omega
    rcases this with h | h | h | h <;> rw [h]
    · exact ⟨_, rfl, hv⟩
    · exact ⟨_, rfl, u32_nat (by omega)⟩
    · exact ⟨_, rfl, u32_nat (by omega)⟩
    exact ⟨_, rfl, u32_nat (by omega)⟩
  refine fn_ctr Tryz.func15 rfl Tryz.ntmps15 rfl (Inv.start w) ?_
  refine Zs (Zr (wl_t (t_alloc (fun _ => rfl) rfl) rfl ?_))
  rintro _ _ ⟨b4, rfl, rfl⟩
  refine Zn (Zt (Zs (Zr (Zm rfl (wl_t (t_call rfl (fun _ _ => rfl) (fun w hi => keepop_ok n w)) rfl ?_)))))
  rintro _ _ ⟨_, ⟨⟨op, rfl, hop⟩, rfl⟩, rfl⟩
  refine Zy (y_build rfl rfl (fun _ => rfl) rfl rfl rfl Zb) ?_
  refine wl_t (t_alloc (fun _ => rfl) rfl) rfl ?_
  rintro _ _ ⟨b5, rfl, rfl⟩
  refine wl_t0 (t_storeN (fun _ => rfl) rfl rfl (allT rfl) Za (by exact rfl)) ?_
  rintro _ _ ⟨rfl, rfl⟩
  refine Zn (Zt (Zs (Zs (Zr (Zy (y_field 0 rfl (Zv rfl) Zf) ?_)))))
  refine Zz rfl ?_
  refine wl_t (t_call rfl (fun _ _ => rfl) (fun w hi => ref2size_ok op w)) rfl ?_
  rintro _ _ ⟨_, ⟨⟨z, rfl⟩, rfl⟩, rfl⟩
  refine Zn (Zt (Zx (Zs (Zr (Zy (y_eql (Zv rfl) (Zv rfl) rfl) (Zg rfl (Zn (Zt ?_))))))))
  refine wc_cond _ rfl (fun hc3 => ?_) (fun hc3 => ?_)
  · refine Zs (Zr (Zm rfl (Zy (y_rem (Zv rfl) (Zv rfl) (by omega) (show _ = ((v % 256 : Nat) : Int) from by rw [Int.tmod_eq_emod_of_nonneg (by omega)]; omega)) ?_)))
    refine Zy (y_field 1 rfl (Zv rfl) Zf) ?_
    refine wl_t0 (t_store (fun _ => rfl) rfl rfl rfl Za Zp) ?_
    rintro _ _ ⟨rfl, rfl⟩
    refine Zn (Zt (Zs (Zs (Zr (Zy (y_field 0 rfl (Zv rfl) Zf) ?_)))))
    refine Zz rfl ?_
    refine Zy (y_eql (Zv rfl) (Zv rfl) rfl) (Zm rfl (Zyn rfl rfl (y_field 0 rfl (Zv rfl) Zf) ?_))
    refine wl_yg (guard_no rfl rfl) (y_load (fun _ => rfl) (ev_g rfl)) (row_cell Zh rfl) rfl ?_
    refine Zyn rfl rfl (y_eql (ev_g rfl) (Zv rfl) rfl) ?_
    refine Zy (y_or (Zv rfl) (pk_no rfl (fun _ => rfl))) (Zn (Zt ?_))
    refine wc_cond _ rfl (fun hc5 => ?_) (fun hc5 => ?_)
    · refine Zr (Zm rfl (Zy (y_rem (Zv rfl) (Zv rfl) (by omega) (show _ = ((v % 12 : Nat) : Int) from by rw [Int.tmod_eq_emod_of_nonneg (by omega)]; omega)) ?_))
      refine Zy (y_field 1 rfl (Zv rfl) Zf) ?_
      refine wl_t0 (t_store (fun _ => rfl) rfl rfl rfl Za Zp) ?_
      rintro _ _ ⟨rfl, rfl⟩
      refine Zn (Zt (Zs (Zr (Zy (y_field 0 rfl (Zv rfl) Zf) ?_))))
      refine Zz rfl ?_
      refine Zy (y_geq (Zv rfl) (Zv rfl) rfl) (Zm rfl (Zyy rfl rfl (y_field 0 rfl (Zv rfl) Zf) ?_))
      refine wl_yg (guard_yes rfl rfl) (y_load (fun _ => rfl) (ev_g rfl)) (row_cell Zh rfl) rfl ?_
      refine Zyy rfl rfl (y_leq (ev_g rfl) (Zv rfl) rfl) ?_
      refine Zy (y_and (Zv rfl) (pk_yes rfl (fun _ => rfl))) (Zn (Zt ?_))
      refine wc_cond _ rfl (fun hc7 => ?_) (fun hc7 => ?_)
      · refine Zr (Zm rfl (Zy (y_rem (Zv rfl) (Zv rfl) (by omega) (show _ = ((v % 40 : Nat) : Int) from by rw [Int.tmod_eq_emod_of_nonneg (by omega)]; omega)) ?_))
        refine Zy (y_add (Zv rfl) (Zv rfl) (show _ = ((v % 40 + 240 : Nat) : Int) from by rw [u32_wrap_id _ (by omega) (by omega)]; omega)) ?_
        refine Zy (y_rem (Zv rfl) (Zv rfl) (by omega) (show _ = (((v % 40 + 240) % 256 : Nat) : Int) from by rw [Int.tmod_eq_emod_of_nonneg (by omega)]; omega)) ?_
        refine Zy (y_field 1 rfl (Zv rfl) Zf) ?_
        refine wl_t0 (t_store (fun _ => rfl) rfl rfl rfl Za Zp) ?_
        rintro _ _ ⟨rfl, rfl⟩
        refine Zn (Zo (Zt (Zs (Zr (wl_loadRow Zh (fun _ => rfl) (fun _ => rfl) (Zv rfl) rfl ?_)))))
        refine wl_t0 (t_storeN (fun _ => rfl) rfl rfl (allT rfl) Za (by exact rfl)) ?_
        rintro _ _ ⟨rfl, rfl⟩
        refine Zn (Zt (Ze (retC (cs' := []) (.inl rfl) Zu rfl rfl Zh (fun _ => rfl) (fun _ => rfl) ?_)))
        exact ⟨⟨_, _, rfl, (by first | exact u0 | exact hxu | exact u32_nat (by omega)), hop⟩, rfl⟩
      refine Zc (Zo (Zt (Zs (Zr (wl_loadRow Zh (fun _ => rfl) (fun _ => rfl) (Zv rfl) rfl ?_)))))
      refine wl_t0 (t_storeN (fun _ => rfl) rfl rfl (allT rfl) Za (by exact rfl)) ?_
      rintro _ _ ⟨rfl, rfl⟩
      refine Zn (Zt (Ze (retC (cs' := []) (.inl rfl) Zu rfl rfl Zh (fun _ => rfl) (fun _ => rfl) ?_)))
      exact ⟨⟨_, _, rfl, (by first | exact u0 | exact hxu | exact u32_nat (by omega)), hop⟩, rfl⟩
    refine Zc (Zt (Zs (Zr (Zy (y_field 0 rfl (Zv rfl) Zf) ?_))))
    refine Zz rfl ?_
    refine Zy (y_geq (Zv rfl) (Zv rfl) rfl) (Zm rfl (Zyy rfl rfl (y_field 0 rfl (Zv rfl) Zf) ?_))
    refine wl_yg (guard_yes rfl rfl) (y_load (fun _ => rfl) (ev_g rfl)) (row_cell Zh rfl) rfl ?_
    refine Zyy rfl rfl (y_leq (ev_g rfl) (Zv rfl) rfl) ?_
    refine Zy (y_and (Zv rfl) (pk_yes rfl (fun _ => rfl))) (Zn (Zt ?_))
    refine wc_cond _ rfl (fun hc7 => ?_) (fun hc7 => ?_)
    · refine Zr (Zm rfl (Zy (y_rem (Zv rfl) (Zv rfl) (by omega) (show _ = ((v % 40 : Nat) : Int) from by rw [Int.tmod_eq_emod_of_nonneg (by omega)]; omega)) ?_))
      refine Zy (y_add (Zv rfl) (Zv rfl) (show _ = ((v % 40 + 240 : Nat) : Int) from by rw [u32_wrap_id _ (by omega) (by omega)]; omega)) ?_
      refine Zy (y_rem (Zv rfl) (Zv rfl) (by omega) (show _ = (((v % 40 + 240) % 256 : Nat) : Int) from by rw [Int.tmod_eq_emod_of_nonneg (by omega)]; omega)) ?_
      refine Zy (y_field 1 rfl (Zv rfl) Zf) ?_
      refine wl_t0 (t_store (fun _ => rfl) rfl rfl rfl Za Zp) ?_
      rintro _ _ ⟨rfl, rfl⟩
      refine Zn (Zo (Zt (Zs (Zr (wl_loadRow Zh (fun _ => rfl) (fun _ => rfl) (Zv rfl) rfl ?_)))))
      refine wl_t0 (t_storeN (fun _ => rfl) rfl rfl (allT rfl) Za (by exact rfl)) ?_
      rintro _ _ ⟨rfl, rfl⟩
      refine Zn (Zt (Ze (retC (cs' := []) (.inl rfl) Zu rfl rfl Zh (fun _ => rfl) (fun _ => rfl) ?_)))
      exact ⟨⟨_, _, rfl, (by first | exact u0 | exact hxu | exact u32_nat (by omega)), hop⟩, rfl⟩
    refine Zc (Zo (Zt (Zs (Zr (wl_loadRow Zh (fun _ => rfl) (fun _ => rfl) (Zv rfl) rfl ?_)))))
    refine wl_t0 (t_storeN (fun _ => rfl) rfl rfl (allT rfl) Za (by exact rfl)) ?_
    rintro _ _ ⟨rfl, rfl⟩
    refine Zn (Zt (Ze (retC (cs' := []) (.inl rfl) Zu rfl rfl Zh (fun _ => rfl) (fun _ => rfl) ?_)))
    exact ⟨⟨_, _, rfl, (by first | exact u0 | exact hxu | exact u32_nat (by omega)), hop⟩, rfl⟩
  refine Zs (Zr (Zy (y_eql (Zv rfl) (Zv rfl) rfl) (Zg rfl (Zn (Zt ?_)))))
  refine wc_cond _ rfl (fun hc9 => ?_) (fun hc9 => ?_)
  · refine Zr (Zm rfl (Zm rfl (Zy (y_rem (Zv rfl) (Zv rfl) (by omega) (show _ = ((v % 256 : Nat) : Int) from by rw [Int.tmod_eq_emod_of_nonneg (by omega)]; omega)) ?_)))
    refine Zm rfl (Zy (y_rem (Zv rfl) (Zv rfl) (by omega) (show _ = ((v % 64 : Nat) : Int) from by rw [Int.tmod_eq_emod_of_nonneg (by omega)]; omega)) ?_)
    refine Zy (y_add (Zv rfl) (Zv rfl) (show _ = ((32768 + v % 64 : Nat) : Int) from by rw [u32_wrap_id _ (by omega) (by omega)]; omega)) ?_
    refine Zm rfl (Zy (y_rem (Zv rfl) (Zv rfl) (by omega) (show _ = ((v % 4096 : Nat) : Int) from by rw [Int.tmod_eq_emod_of_nonneg (by omega)]; omega)) ?_)
    refine wl_t (t_buildSl1 rfl rfl (fun _ => rfl) (fun _ => rfl) rfl rfl) rfl ?_
    rintro _ _ ⟨b51, rfl, rfl⟩
    refine Zm rfl (Zy (y_rem (Zv rfl) (Zv rfl) (by omega) (show _ = ((v % 4 : Nat) : Int) from by rw [Int.tmod_eq_emod_of_nonneg (by omega)]; omega)) ?_)
    refine Zy (y_indexR (j := (v % 4)) (sz := 1) (r := (v % 4)) rfl (fun _ => rfl) (Zv rfl) (Zv rfl) (fun _ => by omega) (fun _ => by omega) (by omega)) ?_
    refine wl_y (y_load (fun _ => rfl) (Zv rfl)) (sl_cellR Zh (ints_at (l := [(v : Int), ((v % 256 : Nat) : Int), ((32768 + v % 64 : Nat) : Int), ((v % 4096 : Nat) : Int)]) hx)) rfl ?_
    refine Zy (y_field 1 rfl (Zv rfl) Zf) ?_
    refine wl_t0 (t_store (fun _ => rfl) rfl rfl rfl Za Zp) ?_
    rintro _ _ ⟨rfl, rfl⟩
    refine Zn (Zo (Zt (Zs (Zr (wl_loadRow Zh (fun _ => rfl) (fun _ => rfl) (Zv rfl) rfl ?_)))))
    refine wl_t0 (t_storeN (fun _ => rfl) rfl rfl (allT rfl) Za (by exact rfl)) ?_
    rintro _ _ ⟨rfl, rfl⟩
    refine Zn (Zt (Ze (retC (cs' := []) (.inl rfl) Zu rfl rfl Zh (fun _ => rfl) (fun _ => rfl) ?_)))
    exact ⟨⟨_, _, rfl, (by first | exact u0 | exact hxu | exact u32_nat (by omega)), hop⟩, rfl⟩
  refine Zc (Zo (Zt (Zs (Zr (wl_loadRow Zh (fun _ => rfl) (fun _ => rfl) (Zv rfl) rfl ?_)))))
  refine wl_t0 (t_storeN (fun _ => rfl) rfl rfl (allT rfl) Za (by exact rfl)) ?_
  rintro _ _ ⟨rfl, rfl⟩
  refine Zn (Zt (Ze (retC (cs' := []) (.inl rfl) Zu rfl rfl Zh (fun _ => rfl) (fun _ => rfl) ?_)))
  exact ⟨⟨_, _, rfl, (by first | exact u0 | exact hxu | exact u32_nat (by omega)), hop⟩, rfl⟩
set_option maxRecDepth 100000 in
theorem open_ask {W : World} {es : List Value} (h : Arg Tryz.prog W 64 es) : ∃ a : AskR, es = a.cells ∧ a.ok W := by
  obtain ⟨hl, hf⟩ := h.struct rfl
  have hl : es.length = 6 := hl
  match es, hl with
  | [c0, c1, c2, c3, c4, c5], _ =>
    have k0 : Arg Tryz.prog W _ [c0] := hf 0 _ rfl
    have k1 : Arg Tryz.prog W _ [c1] := hf 1 _ rfl
    have k2 : Arg Tryz.prog W _ [c2] := hf 2 _ rfl
    have k3 : Arg Tryz.prog W _ [c3] := hf 3 _ rfl
    have k4 : Arg Tryz.prog W _ [c4, c5] := hf 4 _ rfl
    obtain ⟨n0, rfl, m0⟩ := arg1 rfl k0
    obtain ⟨n1, rfl, m1⟩ := arg1 rfl k1
    obtain ⟨A2, d2, x2, e2, r2, b2, z2⟩ := k2.ints (e := 22) (k := .u32) rfl rfl rfl
    obtain rfl : c2 = _ := by simpa using e2
    obtain ⟨n3, rfl⟩ := arg1b rfl k3
    obtain ⟨-, hg⟩ := k4.struct rfl
    have j0 : Arg Tryz.prog W _ [c4] := hg 0 _ rfl
    have j1 : Arg Tryz.prog W _ [c5] := hg 1 _ rfl
    obtain ⟨n4, rfl, m4⟩ := arg1 rfl j0
    obtain ⟨n5, rfl, m5⟩ := arg1 rfl j1
    exact ⟨⟨n0, n1, A2, d2, x2, n3, n4, n5⟩, rfl, ⟨wf_u32 m1, wf_u32 m5, r2, fun x hx => wf_u32 (z2 x hx)⟩⟩
set_option maxRecDepth 100000 in
theorem open_asks {W : World} {v : Value} (h : ArgV Tryz.prog W 62 v) : ∃ (A : Option Addr) (c : Nat) (l : List AskR), v = .slice A l.length c ∧ RdV W 6 A l.length c (l.flatMap AskR.cells) ∧ ∀ a, a ∈ l → a.ok W := by
  obtain ⟨A, c, xs, h1, h2, h3, h4⟩ := ArgV.rows (e := 64) rfl rfl AskR.cells_len ⟨0, 0, none, 0, [], false, 0, 0⟩ (fun es he => open_ask he) h
  exact ⟨A, c, xs, h1, h2, h3⟩
end Go.Proofs.YtobjiljkfmcalaaGreat
