/- An instruction that is being done: where a whole word is. -/
import Derived.Test.YtobjiljkfmcalaaGreatSpT
import Derived.Test.YtobjiljkfmcalaaGreatInkS
set_option linter.unusedSimpArgs false
set_option linter.unusedVariables false
set_option maxRecDepth 100000
namespace Go.Ink
open Go.RowKit
def Run.sp (R : Run) : Sp := ⟨R.s.paging, R.s.super, R.s.root.toNat⟩
abbrev Run.wdv (R : Run) (t : Tr) (b : Bool) : Run := ⟨R.s, R.count, t, b⟩
structure Whole where
  p : Int
  ok : Bool
  r : Run
  u : Mmu
def wholeTo (n : Nat) (R : Run) (U : Mmu) (va : Nat) (kind : Int) : Whole :=
  bif ((va % 4 : Nat) : Int) != 0 then ⟨0, false, R.wt ⟨6, va⟩, U⟩ else
  ⟨(placeTo n U R.sp va kind).1.1, (placeTo n U R.sp va kind).1.2.cause == 0, R.wdv (placeTo n U R.sp va kind).1.2 ((placeTo n U R.sp va kind).1.2.cause == 0 && decide (32768 ≤ (placeTo n U R.sp va kind).1.1)), (placeTo n U R.sp va kind).2⟩
end Go.Ink
namespace Go.Proofs.YtobjiljkfmcalaaGreat
open Go.RowKit Go.Ink

theorem space2_ok (K : RLoc) (X : SAdr) (R : Run) (hr : 0 ≤ R.s.root) (w : World) (h : (runRow K X R).ok w) :
    Ctr Tryz.prog 117 [.pointer (some ⟨K.br, 0, none⟩)] w [] (fun v cs => v = R.sp.v ∧ cs = []) :=
  (space_ok K X R w h).mono fun v cs ⟨h1, h2⟩ => ⟨by rw [h1, Run.sp, Sp.v, Int.toNat_of_nonneg hr], h2⟩
abbrev runCells (K : RLoc) (X : SAdr) (R : Run) : List Value := [.int .u32 R.s.pc, .slice X.Ad R.s.d.length X.cd, .slice X.Ar R.s.r.length X.cr, .int .u32 R.s.flags, .bool R.s.super, .bool R.s.paging, .bool R.s.ie, .int .u32 R.s.root, .int .u32 R.s.vec, .int .u32 R.s.epc, .int .u32 R.s.cause, .int .u32 R.s.addr, .bool R.s.esuper, .bool R.s.eie, .int .u64 R.s.count, .bool R.s.halted, .int .u64 R.count, .pointer K.u, .pointer K.b, .int .i64 R.trap.cause, .int .u32 R.trap.addr, .bool R.device]
abbrev kOf (br bu : Nat) (D : DLoc) : RLoc := ⟨br, some ⟨bu, 0, none⟩, some ⟨D.bs, 0, none⟩⟩
set_option maxHeartbeats 1000000 in
theorem whole_ok (br bu bb : Nat) (L : MLoc) (D : DLoc) (X : SAdr) (R : Run) (U : Mmu) (hT : U.t.length = 16) (hroot : u32 R.s.root) (va : Nat) (hva : va ≤ 4294967295) (kind : Int) (w : World) (hi : Inv w (blocks (runF (kOf br bu D) X R ++ uF bu bb L U)) (runF (kOf br bu D) X R ++ uF bu bb L U) w) :
    Ctr Tryz.prog 111 [.pointer (some ⟨br, 0, none⟩), .int .u32 va, .int .i64 kind] w (runF (kOf br bu D) X R ++ uF bu bb L U)
      (fun v cs => v = .tuple #[.int .u32 (wholeTo L.n R U va kind).p, .bool (wholeTo L.n R U va kind).ok] ∧ cs = runF (kOf br bu D) X (wholeTo L.n R U va kind).r ++ uF bu bb L (wholeTo L.n R U va kind).u) := by
  have hr0 := hroot.1
  have hr1 := hroot.2
  have hsr : R.sp.root ≤ 4294967295 := by show R.s.root.toNat ≤ _; omega
  have HP := uplace_ok bu bb L U hT R.sp hsr va hva kind
  have HS := space2_ok (kOf br bu D) X R hr0
  unfold wholeTo
  obtain ⟨⟨⟨p, ca, ad⟩, U'⟩, hq⟩ : ∃ q, placeTo L.n U R.sp va kind = q := ⟨_, rfl⟩
  rw [hq] at HP ⊢
  obtain ⟨S, hS⟩ : ∃ S, R.sp = S := ⟨_, rfl⟩
  rw [hS] at HP HS
  refine fn_ctr Tryz.func111 rfl Tryz.ntmps111 rfl hi ?_
  refine Zs (Zr (Zg rfl (Zg rfl (Zn (Zt (Zs (Zx (Zs (Zr (Zm rfl (Zy (y_rem (Zv rfl) (Zv rfl) (by omega) (show _ = ((va % 4 : Nat) : Int) from by rw [Int.tmod_eq_emod_of_nonneg (by omega)]; omega)) ?_)))))))))))
  refine Zy (y_neq (Zv rfl) (Zv rfl) rfl) (Zg rfl (Zn (Zt ?_)))
  refine wc_cond _ rfl (fun hc1 => ?_) (fun hc1 => ?_)
  · refine Zs (Zr (Zm rfl (Zm rfl (wl_t (t_callS (runF (kOf br bu D) X R) rfl (fun _ _ => rfl) Zi (fun w hi hin => fail_ok (kOf br bu D) X R 6 va w hin)) rfl ?_))))
    rintro _ _ ⟨_, ⟨rfl, rfl⟩, rfl⟩
    refine Zn (Zt (Zs (Zr (Zg rfl (Zg rfl (Zn (Zt (Ze (Zq (Zw (qok_pick (runF (kOf br bu D) X (R.wt ⟨6, va⟩) ++ uF bu bb L U) Zj ?_)))))))))))
    refine ret2 (cs' := [row _ _ _, slv _ _ _ _ _ _, slv _ _ _ _ _ _, row _ _ _, exC _ _ _ _, row _ _ _]) (.inl rfl) Zu rfl rfl rfl ?_
    rw [hc1]
    exact ⟨rfl, rfl⟩
  refine Zs (Zr (Zm rfl (Zy (y_nil (Zv rfl)) (Zy (y_field 17 rfl (Zv rfl) Zf) ?_))))
  refine Zz rfl ?_
  refine Zy (y_pnil rfl (Zv rfl)) (Zm rfl (Zyn rfl rfl (y_move (Zv rfl)) ?_))
  refine Zyn rfl rfl (y_nil (ev_g rfl)) ?_
  refine Zyn rfl rfl (y_field 18 rfl (ev_g rfl) Zf) ?_
  refine wl_yg (guard_no rfl rfl) (y_load (fun _ => rfl) (ev_g rfl)) (row_cell Zh rfl) rfl ?_
  refine Zyn rfl rfl (y_pnil rfl (ev_g rfl)) ?_
  refine Zy (y_or (Zv rfl) (pk_no rfl (fun _ => rfl))) (Zg rfl (Zn (Zt ?_)))
  refine wc_cond _ rfl (fun hc4 => ?_) (fun hc4 => ?_)
  · exact absurd hc4 (by simp)
  refine Zc (Zo (Zt (Zs (wc_draw ⟨fun j => List.elem j [8, 14], []⟩ Zk ?_))))
  refine wa_yn 0 rfl Zk Zk Zk (y_move (Zv rfl)) rfl ?_
  refine wa_yn 1 rfl Zk Zk Zk (y_nil (Zv rfl)) rfl ?_
  refine wa_yn 2 rfl Zk Zk Zk (y_field 17 rfl (Zv rfl) Zf) rfl ?_
  refine wa_ln 3 rfl Zk Zk Zk Zk (y_load (fun _ => rfl) (Zv rfl)) (row_cell Zh rfl) rfl ?_
  refine wa_yn 4 rfl Zk Zk Zk (y_move (Zv rfl)) rfl ?_
  refine wa_yn 6 rfl Zk Zk Zk (y_move (Zv rfl)) rfl ?_
  refine wa_yn 7 rfl Zk Zk Zk (y_move (Zv rfl)) rfl ?_
  refine wa_2 5 12 Zk ?_ ?_
  · refine wi_t rfl rfl (t_call rfl (fun _ _ => rfl) (fun w hi => HS w (hi.get Zh))) (fun _ _ _ _ _ _ _ h => by cases h) rfl ?_
    rintro _ _ ⟨_, ⟨rfl, rfl⟩, rfl⟩
    refine wa_2 8 12 Zk ?_ ?_
    · refine wi_t rfl rfl (t_callS (uF bu bb L U) rfl (fun _ _ => rfl) Zi (fun w hi hin => HP w hin)) (fun _ _ _ _ _ _ _ h => by cases h) rfl ?_
      rintro _ _ ⟨_, ⟨rfl, rfl⟩, rfl⟩
      refine wa_yn 9 rfl Zk Zk Zk (y_move (Zv rfl)) rfl ?_
      refine wa_yn 10 rfl Zk Zk Zk (y_extractN (Zv rfl) (.zero _ _)) rfl ?_
      refine wa_yn 11 rfl Zk Zk Zk (y_extractN (Zv rfl) (.succ _ (.zero _ _))) rfl ?_
      refine wa_1 12 Zk ?_
      refine wi_t rfl rfl (t_alloc (fun _ => rfl) rfl) (fun _ _ _ _ _ _ _ h => by cases h) rfl ?_
      rintro _ _ ⟨b9, rfl, rfl⟩
      refine wa_yn 13 rfl Zk Zk Zk (y_assign (Zv rfl)) rfl ?_
      refine wa_1 14 Zk ?_
      refine wi_t0 rfl rfl (t_storeN (fun _ => rfl) rfl rfl (allT rfl) Za (by exact rfl)) (fun _ _ _ _ _ _ _ h => by cases h) ?_
      rintro _ _ ⟨rfl, rfl⟩
      refine wa_done Zk ?_
      refine Zt (Zs (Zr (Zm rfl (wl_loadRow Zh (fun _ => rfl) (fun _ => rfl) (Zv rfl) rfl ?_))))
      refine Zy (y_nil (Zv rfl)) (Zy (y_field 19 rfl (Zv rfl) Zf) ?_)
      refine wl_t0 (t_storeRX (ys := runCells (kOf br bu D) X (R.wt ⟨ca, ad⟩)) (n := 2) (vs := [.int .i64 ca, .int .u32 ad]) rfl (fun _ => rfl) rfl rfl (allT rfl) Za rfl (by simp only [List.length_cons, List.length_nil]; omega)) ?_
      rintro _ _ ⟨rfl, rfl⟩
      refine Zn (Zt (Zs (Zr (Zm rfl (Zy (y_field 0 rfl (Zv rfl) Zf) ?_)))))
      refine Zz rfl ?_
      refine Zy (y_eql (Zv rfl) (Zv rfl) rfl) (Zm rfl (Zyy rfl rfl (y_move (Zv rfl)) ?_))
      refine Zyy rfl rfl (y_geq (ev_g rfl) (Zv rfl) rfl) ?_
      refine Zy (y_and (Zv rfl) (pk_yes rfl (fun _ => rfl))) (Zy (y_nil (Zv rfl)) (Zy (y_field 21 rfl (Zv rfl) Zf) ?_))
      refine wl_t0 (t_store (fun _ => rfl) rfl rfl rfl Za Zp) ?_
      rintro _ _ ⟨rfl, rfl⟩
      refine Zn (Zt (Zs (wc_draw ⟨fun j => List.elem j [], []⟩ Zk ?_)))
      refine wa_yn 0 rfl Zk Zk Zk (y_move (Zv rfl)) rfl ?_
      refine wa_yn 1 rfl Zk Zk Zk (y_field 0 rfl (Zv rfl) Zf) rfl ?_
      refine wa_ln 2 rfl Zk Zk Zk Zk (y_load (fun _ => rfl) (Zv rfl)) (row_cell Zh rfl) rfl ?_
      refine wa_yn 3 rfl Zk Zk Zk (y_eql (Zv rfl) (Zv rfl) rfl) rfl ?_
      refine wa_yn 4 rfl Zk Zk Zk (y_assign (Zv rfl)) rfl ?_
      refine wa_yn 5 rfl Zk Zk Zk (y_assign (Zv rfl)) rfl ?_
      refine wa_done Zk ?_
      refine Zt (Ze (qok_pick (runF (kOf br bu D) X (R.wdv ⟨ca, ad⟩ (ca == 0 && decide (32768 ≤ p))) ++ uF bu bb L U') Zj ?_))
      refine ret2 (cs' := [row _ _ _, slv _ _ _ _ _ _, slv _ _ _ _ _ _, row _ _ _, exC _ _ _ _, row _ _ _]) (.inl rfl) Zu rfl rfl rfl ?_
      rw [hc1]
      exact ⟨rfl, rfl⟩
    refine wi_t rfl rfl (t_alloc (fun _ => rfl) rfl) (fun _ _ _ _ _ _ _ h => by cases h) rfl ?_
    rintro _ _ ⟨b9, rfl, rfl⟩
    refine wa_1 8 Zk ?_
    refine wi_t rfl rfl (t_callS (uF bu bb L U) rfl (fun _ _ => rfl) Zi (fun w hi hin => HP w hin)) (fun _ _ _ _ _ _ _ h => by cases h) rfl ?_
    rintro _ _ ⟨_, ⟨rfl, rfl⟩, rfl⟩
    refine wa_yn 9 rfl Zk Zk Zk (y_move (Zv rfl)) rfl ?_
    refine wa_yn 10 rfl Zk Zk Zk (y_extractN (Zv rfl) (.zero _ _)) rfl ?_
    refine wa_yn 11 rfl Zk Zk Zk (y_extractN (Zv rfl) (.succ _ (.zero _ _))) rfl ?_
    refine wa_yn 13 rfl Zk Zk Zk (y_assign (Zv rfl)) rfl ?_
    refine wa_1 14 Zk ?_
    refine wi_t0 rfl rfl (t_storeN (fun _ => rfl) rfl rfl (allT rfl) Za (by exact rfl)) (fun _ _ _ _ _ _ _ h => by cases h) ?_
    rintro _ _ ⟨rfl, rfl⟩
    refine wa_done Zk ?_
    refine Zt (Zs (Zr (Zm rfl (wl_loadRow Zh (fun _ => rfl) (fun _ => rfl) (Zv rfl) rfl ?_))))
    refine Zy (y_nil (Zv rfl)) (Zy (y_field 19 rfl (Zv rfl) Zf) ?_)
    refine wl_t0 (t_storeRX (ys := runCells (kOf br bu D) X (R.wt ⟨ca, ad⟩)) (n := 2) (vs := [.int .i64 ca, .int .u32 ad]) rfl (fun _ => rfl) rfl rfl (allT rfl) Za rfl (by simp only [List.length_cons, List.length_nil]; omega)) ?_
    rintro _ _ ⟨rfl, rfl⟩
    refine Zn (Zt (Zs (Zr (Zm rfl (Zy (y_field 0 rfl (Zv rfl) Zf) ?_)))))
    refine Zz rfl ?_
    refine Zy (y_eql (Zv rfl) (Zv rfl) rfl) (Zm rfl (Zyy rfl rfl (y_move (Zv rfl)) ?_))
    refine Zyy rfl rfl (y_geq (ev_g rfl) (Zv rfl) rfl) ?_
    refine Zy (y_and (Zv rfl) (pk_yes rfl (fun _ => rfl))) (Zy (y_nil (Zv rfl)) (Zy (y_field 21 rfl (Zv rfl) Zf) ?_))
    refine wl_t0 (t_store (fun _ => rfl) rfl rfl rfl Za Zp) ?_
    rintro _ _ ⟨rfl, rfl⟩
    refine Zn (Zt (Zs (wc_draw ⟨fun j => List.elem j [], []⟩ Zk ?_)))
    refine wa_yn 0 rfl Zk Zk Zk (y_move (Zv rfl)) rfl ?_
    refine wa_yn 1 rfl Zk Zk Zk (y_field 0 rfl (Zv rfl) Zf) rfl ?_
    refine wa_ln 2 rfl Zk Zk Zk Zk (y_load (fun _ => rfl) (Zv rfl)) (row_cell Zh rfl) rfl ?_
    refine wa_yn 3 rfl Zk Zk Zk (y_eql (Zv rfl) (Zv rfl) rfl) rfl ?_
    refine wa_yn 4 rfl Zk Zk Zk (y_assign (Zv rfl)) rfl ?_
    refine wa_yn 5 rfl Zk Zk Zk (y_assign (Zv rfl)) rfl ?_
    refine wa_done Zk ?_
    refine Zt (Ze (qok_pick (runF (kOf br bu D) X (R.wdv ⟨ca, ad⟩ (ca == 0 && decide (32768 ≤ p))) ++ uF bu bb L U') Zj ?_))
    refine ret2 (cs' := [row _ _ _, slv _ _ _ _ _ _, slv _ _ _ _ _ _, row _ _ _, exC _ _ _ _, row _ _ _]) (.inl rfl) Zu rfl rfl rfl ?_
    rw [hc1]
    exact ⟨rfl, rfl⟩
  refine wi_t rfl rfl (t_alloc (fun _ => rfl) rfl) (fun _ _ _ _ _ _ _ h => by cases h) rfl ?_
  rintro _ _ ⟨b9, rfl, rfl⟩
  refine wa_1 5 Zk ?_
  refine wi_t rfl rfl (t_call rfl (fun _ _ => rfl) (fun w hi => HS w (hi.get Zh))) (fun _ _ _ _ _ _ _ h => by cases h) rfl ?_
  rintro _ _ ⟨_, ⟨rfl, rfl⟩, rfl⟩
  refine wa_1 8 Zk ?_
  refine wi_t rfl rfl (t_callS (uF bu bb L U) rfl (fun _ _ => rfl) Zi (fun w hi hin => HP w hin)) (fun _ _ _ _ _ _ _ h => by cases h) rfl ?_
  rintro _ _ ⟨_, ⟨rfl, rfl⟩, rfl⟩
  refine wa_yn 9 rfl Zk Zk Zk (y_move (Zv rfl)) rfl ?_
  refine wa_yn 10 rfl Zk Zk Zk (y_extractN (Zv rfl) (.zero _ _)) rfl ?_
  refine wa_yn 11 rfl Zk Zk Zk (y_extractN (Zv rfl) (.succ _ (.zero _ _))) rfl ?_
  refine wa_yn 13 rfl Zk Zk Zk (y_assign (Zv rfl)) rfl ?_
  refine wa_1 14 Zk ?_
  refine wi_t0 rfl rfl (t_storeN (fun _ => rfl) rfl rfl (allT rfl) Za (by exact rfl)) (fun _ _ _ _ _ _ _ h => by cases h) ?_
  rintro _ _ ⟨rfl, rfl⟩
  refine wa_done Zk ?_
  refine Zt (Zs (Zr (Zm rfl (wl_loadRow Zh (fun _ => rfl) (fun _ => rfl) (Zv rfl) rfl ?_))))
  refine Zy (y_nil (Zv rfl)) (Zy (y_field 19 rfl (Zv rfl) Zf) ?_)
  refine wl_t0 (t_storeRX (ys := runCells (kOf br bu D) X (R.wt ⟨ca, ad⟩)) (n := 2) (vs := [.int .i64 ca, .int .u32 ad]) rfl (fun _ => rfl) rfl rfl (allT rfl) Za rfl (by simp only [List.length_cons, List.length_nil]; omega)) ?_
  rintro _ _ ⟨rfl, rfl⟩
  refine Zn (Zt (Zs (Zr (Zm rfl (Zy (y_field 0 rfl (Zv rfl) Zf) ?_)))))
  refine Zz rfl ?_
  refine Zy (y_eql (Zv rfl) (Zv rfl) rfl) (Zm rfl (Zyy rfl rfl (y_move (Zv rfl)) ?_))
  refine Zyy rfl rfl (y_geq (ev_g rfl) (Zv rfl) rfl) ?_
  refine Zy (y_and (Zv rfl) (pk_yes rfl (fun _ => rfl))) (Zy (y_nil (Zv rfl)) (Zy (y_field 21 rfl (Zv rfl) Zf) ?_))
  refine wl_t0 (t_store (fun _ => rfl) rfl rfl rfl Za Zp) ?_
  rintro _ _ ⟨rfl, rfl⟩
  refine Zn (Zt (Zs (wc_draw ⟨fun j => List.elem j [], []⟩ Zk ?_)))
  refine wa_yn 0 rfl Zk Zk Zk (y_move (Zv rfl)) rfl ?_
  refine wa_yn 1 rfl Zk Zk Zk (y_field 0 rfl (Zv rfl) Zf) rfl ?_
  refine wa_ln 2 rfl Zk Zk Zk Zk (y_load (fun _ => rfl) (Zv rfl)) (row_cell Zh rfl) rfl ?_
  refine wa_yn 3 rfl Zk Zk Zk (y_eql (Zv rfl) (Zv rfl) rfl) rfl ?_
  refine wa_yn 4 rfl Zk Zk Zk (y_assign (Zv rfl)) rfl ?_
  refine wa_yn 5 rfl Zk Zk Zk (y_assign (Zv rfl)) rfl ?_
  refine wa_done Zk ?_
  refine Zt (Ze (qok_pick (runF (kOf br bu D) X (R.wdv ⟨ca, ad⟩ (ca == 0 && decide (32768 ≤ p))) ++ uF bu bb L U') Zj ?_))
  refine ret2 (cs' := [row _ _ _, slv _ _ _ _ _ _, slv _ _ _ _ _ _, row _ _ _, exC _ _ _ _, row _ _ _]) (.inl rfl) Zu rfl rfl rfl ?_
  rw [hc1]
  exact ⟨rfl, rfl⟩
end Go.Proofs.YtobjiljkfmcalaaGreat
