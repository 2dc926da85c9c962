/- An instruction that is being done: several bytes, wherever they begin. -/
import Derived.Test.YtobjiljkfmcalaaGreatSpV
import Derived.Test.YtobjiljkfmcalaaGreatInkS
set_option linter.unusedSimpArgs false
set_option linter.unusedVariables false
set_option maxRecDepth 100000
namespace Go.Ink
open Go.RowKit
def sameL (n : Nat) (R : Run) (U : Mmu) (va k : Nat) : Run × Mmu := ((R.wt (loadTo n U R.sp va k).1.2).push [(loadTo n U R.sp va k).1.1], (loadTo n U R.sp va k).2)
def sameS (n : Nat) (R : Run) (U : Mmu) (va k : Nat) (v : Int) : Run × Mmu := (R.wt (storeTo n U R.sp va k v).1, (storeTo n U R.sp va k v).2)
end Go.Ink
namespace Go.Proofs.YtobjiljkfmcalaaGreat
open Go.RowKit Go.Ink

set_option maxHeartbeats 2000000 in
theorem someL_ok (br bu bb : Nat) (L : MLoc) (D : DLoc) (X : SAdr) (R : Run) (U : Mmu) (l : List Int) (va k : Nat) (hva : va ≤ 4294967295) (hk1 : 1 ≤ k) (hk4 : k ≤ 4) (hl : l.length ≤ 100000) (hT : U.t.length = 16) (hroot : u32 R.s.root)
    (w : World) (hi : Inv w (blocks (runF (kOf br bu D) X (R.wd (l ++ [(va : Int)])) ++ uF bu bb L U)) (runF (kOf br bu D) X (R.wd (l ++ [(va : Int)])) ++ uF bu bb L U) w) :
    Ctr Tryz.prog 87 [.pointer (some ⟨br, 0, none⟩), .int .i64 k, .bool false] w (runF (kOf br bu D) X (R.wd (l ++ [(va : Int)])) ++ uF bu bb L U)
      (fun x cs => ∃ X', x = .tuple #[] ∧ cs = runF (kOf br bu D) X' (sameL L.n (R.wd l) U va k).1 ++ uF bu bb L (sameL L.n (R.wd l) U va k).2) := by
  have hr0 := hroot.1
  have hr1 := hroot.2
  have hsr : (R.wd l).sp.root ≤ 4294967295 := by show R.s.root.toNat ≤ _; omega
  have HP := uload_ok bu bb L U hT (R.wd l).sp hsr va k hva hk1 hk4
  have HS := space2_ok (kOf br bu D) X (R.wd l) hr0
  unfold sameL
  obtain ⟨⟨⟨v, ca, ad⟩, U'⟩, hq⟩ : ∃ q, loadTo L.n U (R.wd l).sp va k = q := ⟨_, rfl⟩
  rw [hq] at HP ⊢
  obtain ⟨S, hS⟩ : ∃ S, (R.wd l).sp = S := ⟨_, rfl⟩
  rw [hS] at HP HS
  refine fn_ctr Tryz.func87 rfl Tryz.ntmps87 rfl hi ?_
  refine Zs (Zr (Zm rfl (wl_t (t_callS (runF (kOf br bu D) X (R.wd (l ++ [(va : Int)]))) rfl (fun _ _ => rfl) Zi (fun w hi hin => pop_ok (kOf br bu D) X R l va w hin)) rfl ?_)))
  rintro _ _ ⟨_, ⟨rfl, rfl⟩, rfl⟩
  refine Zg rfl (Zn (Zt (Zx (Zs (Zr (Zm rfl (Zy (y_nil (Zv rfl)) (Zy (y_field 17 rfl (Zv rfl) Zf) ?_))))))))
  refine Zz rfl ?_
  refine Zy (y_pnil rfl (Zv rfl)) (Zm rfl (Zyn rfl rfl (y_move (Zv rfl)) ?_))
  refine Zyn rfl rfl (y_nil (ev_g rfl)) ?_
  refine Zyn rfl rfl (y_field 18 rfl (ev_g rfl) Zf) ?_
  refine wl_yg (guard_no rfl rfl) (y_load (fun _ => rfl) (ev_g rfl)) (row_cell Zh rfl) rfl ?_
  refine Zyn rfl rfl (y_pnil rfl (ev_g rfl)) ?_
  refine Zy (y_or (Zv rfl) (pk_no rfl (fun _ => rfl))) (Zg rfl (Zn (Zt ?_)))
  refine wc_cond _ rfl (fun hc4 => ?_) (fun hc4 => ?_)
  · exact absurd hc4 (by simp)
  refine Zs (Zr (Zm rfl (Zg rfl (Zn (Zt ?_)))))
  refine wc_cond _ rfl (fun hc6 => ?_) (fun hc6 => ?_)
  · exact absurd hc6 (by simp)
  refine Zs (wc_draw ⟨fun j => List.elem j [8, 14], []⟩ Zk ?_)
  refine wa_yn 0 rfl Zk Zk Zk (y_move (Zv rfl)) rfl ?_
  refine wa_yn 1 rfl Zk Zk Zk (y_nil (Zv rfl)) rfl ?_
  refine wa_yn 2 rfl Zk Zk Zk (y_field 17 rfl (Zv rfl) Zf) rfl ?_
  refine wa_ln 3 rfl Zk Zk Zk Zk (y_load (fun _ => rfl) (Zv rfl)) (row_cell Zh rfl) rfl ?_
  refine wa_yn 4 rfl Zk Zk Zk (y_move (Zv rfl)) rfl ?_
  refine wa_yn 6 rfl Zk Zk Zk (y_move (Zv rfl)) rfl ?_
  refine wa_yn 7 rfl Zk Zk Zk (y_move (Zv rfl)) rfl ?_
  refine wa_2 5 12 Zk ?_ ?_
  · refine wi_t rfl rfl (t_call rfl (fun _ _ => rfl) (fun w hi => HS w (hi.get Zh))) (fun _ _ _ _ _ _ _ h => by cases h) rfl ?_
    rintro _ _ ⟨_, ⟨rfl, rfl⟩, rfl⟩
    refine wa_2 8 12 Zk ?_ ?_
    · refine wi_t rfl rfl (t_callS (uF bu bb L U) rfl (fun _ _ => rfl) Zi (fun w hi hin => HP w hin)) (fun _ _ _ _ _ _ _ h => by cases h) rfl ?_
      rintro _ _ ⟨_, ⟨rfl, rfl⟩, rfl⟩
      refine wa_yn 9 rfl Zk Zk Zk (y_move (Zv rfl)) rfl ?_
      refine wa_yn 10 rfl Zk Zk Zk (y_extractN (Zv rfl) (.zero _ _)) rfl ?_
      refine wa_yn 11 rfl Zk Zk Zk (y_extractN (Zv rfl) (.succ _ (.zero _ _))) rfl ?_
      refine wa_1 12 Zk ?_
      refine wi_t rfl rfl (t_alloc (fun _ => rfl) rfl) (fun _ _ _ _ _ _ _ h => by cases h) rfl ?_
      rintro _ _ ⟨b8, rfl, rfl⟩
      refine wa_yn 13 rfl Zk Zk Zk (y_assign (Zv rfl)) rfl ?_
      refine wa_1 14 Zk ?_
      refine wi_t0 rfl rfl (t_storeN (fun _ => rfl) rfl rfl (allT rfl) Za (by exact rfl)) (fun _ _ _ _ _ _ _ h => by cases h) ?_
      rintro _ _ ⟨rfl, rfl⟩
      refine wa_done Zk ?_
      refine Zt (Zs (Zr (Zm rfl (wl_loadRow Zh (fun _ => rfl) (fun _ => rfl) (Zv rfl) rfl ?_))))
      refine Zy (y_nil (Zv rfl)) (Zy (y_field 19 rfl (Zv rfl) Zf) ?_)
      refine wl_t0 (t_storeRX (ys := runCells (kOf br bu D) X ((R.wd l).wt ⟨ca, ad⟩)) (n := 2) (vs := [.int .i64 ca, .int .u32 ad]) rfl (fun _ => rfl) rfl rfl (allT rfl) Za rfl (by simp only [List.length_cons, List.length_nil]; omega)) ?_
      rintro _ _ ⟨rfl, rfl⟩
      refine Zn (Zt (Zr (Zm rfl (Zm rfl (wl_t (t_buildSl1 rfl rfl (fun _ => rfl) (fun _ => rfl) rfl rfl) rfl ?_)))))
      rintro _ _ ⟨b29, rfl, rfl⟩
      refine wl_t (t_callS (runF (kOf br bu D) X ((R.wd l).wt ⟨ca, ad⟩)) rfl (fun _ _ => rfl) Zi (fun w hi hin => push_ok (kOf br bu D) X ((R.wd l).wt ⟨ca, ad⟩) _ 1 1 [v] (show l.length + 1 ≤ 1000000 by omega) w hin (fun w' hk => hi.rdKs Zi Zh hk))) rfl ?_
      rintro _ _ ⟨_, ⟨A', c', rfl, rfl⟩, rfl⟩
      refine Zn (Zo (qok_pick (runF (kOf br bu D) ⟨A', c', X.Ar, X.cr⟩ (((R.wd l).wt ⟨ca, ad⟩).wd (l ++ [v])) ++ uF bu bb L U') Zj ?_))
      refine ret0 (cs' := [row _ _ _, slv _ _ _ _ _ _, slv _ _ _ _ _ _, row _ _ _, exC _ _ _ _, row _ _ _]) (.inr rfl) Zu rfl ?_
      exact ⟨⟨A', c', X.Ar, X.cr⟩, rfl, rfl⟩
    refine wi_t rfl rfl (t_alloc (fun _ => rfl) rfl) (fun _ _ _ _ _ _ _ h => by cases h) rfl ?_
    rintro _ _ ⟨b8, rfl, rfl⟩
    refine wa_1 8 Zk ?_
    refine wi_t rfl rfl (t_callS (uF bu bb L U) rfl (fun _ _ => rfl) Zi (fun w hi hin => HP w hin)) (fun _ _ _ _ _ _ _ h => by cases h) rfl ?_
    rintro _ _ ⟨_, ⟨rfl, rfl⟩, rfl⟩
    refine wa_yn 9 rfl Zk Zk Zk (y_move (Zv rfl)) rfl ?_
    refine wa_yn 10 rfl Zk Zk Zk (y_extractN (Zv rfl) (.zero _ _)) rfl ?_
    refine wa_yn 11 rfl Zk Zk Zk (y_extractN (Zv rfl) (.succ _ (.zero _ _))) rfl ?_
    refine wa_yn 13 rfl Zk Zk Zk (y_assign (Zv rfl)) rfl ?_
    refine wa_1 14 Zk ?_
    refine wi_t0 rfl rfl (t_storeN (fun _ => rfl) rfl rfl (allT rfl) Za (by exact rfl)) (fun _ _ _ _ _ _ _ h => by cases h) ?_
    rintro _ _ ⟨rfl, rfl⟩
    refine wa_done Zk ?_
    refine Zt (Zs (Zr (Zm rfl (wl_loadRow Zh (fun _ => rfl) (fun _ => rfl) (Zv rfl) rfl ?_))))
    refine Zy (y_nil (Zv rfl)) (Zy (y_field 19 rfl (Zv rfl) Zf) ?_)
    refine wl_t0 (t_storeRX (ys := runCells (kOf br bu D) X ((R.wd l).wt ⟨ca, ad⟩)) (n := 2) (vs := [.int .i64 ca, .int .u32 ad]) rfl (fun _ => rfl) rfl rfl (allT rfl) Za rfl (by simp only [List.length_cons, List.length_nil]; omega)) ?_
    rintro _ _ ⟨rfl, rfl⟩
    refine Zn (Zt (Zr (Zm rfl (Zm rfl (wl_t (t_buildSl1 rfl rfl (fun _ => rfl) (fun _ => rfl) rfl rfl) rfl ?_)))))
    rintro _ _ ⟨b29, rfl, rfl⟩
    refine wl_t (t_callS (runF (kOf br bu D) X ((R.wd l).wt ⟨ca, ad⟩)) rfl (fun _ _ => rfl) Zi (fun w hi hin => push_ok (kOf br bu D) X ((R.wd l).wt ⟨ca, ad⟩) _ 1 1 [v] (show l.length + 1 ≤ 1000000 by omega) w hin (fun w' hk => hi.rdKs Zi Zh hk))) rfl ?_
    rintro _ _ ⟨_, ⟨A', c', rfl, rfl⟩, rfl⟩
    refine Zn (Zo (qok_pick (runF (kOf br bu D) ⟨A', c', X.Ar, X.cr⟩ (((R.wd l).wt ⟨ca, ad⟩).wd (l ++ [v])) ++ uF bu bb L U') Zj ?_))
    refine ret0 (cs' := [row _ _ _, slv _ _ _ _ _ _, slv _ _ _ _ _ _, row _ _ _, exC _ _ _ _, row _ _ _]) (.inr rfl) Zu rfl ?_
    exact ⟨⟨A', c', X.Ar, X.cr⟩, rfl, rfl⟩
  refine wi_t rfl rfl (t_alloc (fun _ => rfl) rfl) (fun _ _ _ _ _ _ _ h => by cases h) rfl ?_
  rintro _ _ ⟨b8, rfl, rfl⟩
  refine wa_1 5 Zk ?_
  refine wi_t rfl rfl (t_call rfl (fun _ _ => rfl) (fun w hi => HS w (hi.get Zh))) (fun _ _ _ _ _ _ _ h => by cases h) rfl ?_
  rintro _ _ ⟨_, ⟨rfl, rfl⟩, rfl⟩
  refine wa_1 8 Zk ?_
  refine wi_t rfl rfl (t_callS (uF bu bb L U) rfl (fun _ _ => rfl) Zi (fun w hi hin => HP w hin)) (fun _ _ _ _ _ _ _ h => by cases h) rfl ?_
  rintro _ _ ⟨_, ⟨rfl, rfl⟩, rfl⟩
  refine wa_yn 9 rfl Zk Zk Zk (y_move (Zv rfl)) rfl ?_
  refine wa_yn 10 rfl Zk Zk Zk (y_extractN (Zv rfl) (.zero _ _)) rfl ?_
  refine wa_yn 11 rfl Zk Zk Zk (y_extractN (Zv rfl) (.succ _ (.zero _ _))) rfl ?_
  refine wa_yn 13 rfl Zk Zk Zk (y_assign (Zv rfl)) rfl ?_
  refine wa_1 14 Zk ?_
  refine wi_t0 rfl rfl (t_storeN (fun _ => rfl) rfl rfl (allT rfl) Za (by exact rfl)) (fun _ _ _ _ _ _ _ h => by cases h) ?_
  rintro _ _ ⟨rfl, rfl⟩
  refine wa_done Zk ?_
  refine Zt (Zs (Zr (Zm rfl (wl_loadRow Zh (fun _ => rfl) (fun _ => rfl) (Zv rfl) rfl ?_))))
  refine Zy (y_nil (Zv rfl)) (Zy (y_field 19 rfl (Zv rfl) Zf) ?_)
  refine wl_t0 (t_storeRX (ys := runCells (kOf br bu D) X ((R.wd l).wt ⟨ca, ad⟩)) (n := 2) (vs := [.int .i64 ca, .int .u32 ad]) rfl (fun _ => rfl) rfl rfl (allT rfl) Za rfl (by simp only [List.length_cons, List.length_nil]; omega)) ?_
  rintro _ _ ⟨rfl, rfl⟩
  refine Zn (Zt (Zr (Zm rfl (Zm rfl (wl_t (t_buildSl1 rfl rfl (fun _ => rfl) (fun _ => rfl) rfl rfl) rfl ?_)))))
  rintro _ _ ⟨b29, rfl, rfl⟩
  refine wl_t (t_callS (runF (kOf br bu D) X ((R.wd l).wt ⟨ca, ad⟩)) rfl (fun _ _ => rfl) Zi (fun w hi hin => push_ok (kOf br bu D) X ((R.wd l).wt ⟨ca, ad⟩) _ 1 1 [v] (show l.length + 1 ≤ 1000000 by omega) w hin (fun w' hk => hi.rdKs Zi Zh hk))) rfl ?_
  rintro _ _ ⟨_, ⟨A', c', rfl, rfl⟩, rfl⟩
  refine Zn (Zo (qok_pick (runF (kOf br bu D) ⟨A', c', X.Ar, X.cr⟩ (((R.wd l).wt ⟨ca, ad⟩).wd (l ++ [v])) ++ uF bu bb L U') Zj ?_))
  refine ret0 (cs' := [row _ _ _, slv _ _ _ _ _ _, slv _ _ _ _ _ _, row _ _ _, exC _ _ _ _, row _ _ _]) (.inr rfl) Zu rfl ?_
  exact ⟨⟨A', c', X.Ar, X.cr⟩, rfl, rfl⟩
set_option maxHeartbeats 2000000 in
theorem someS_ok (br bu bb : Nat) (L : MLoc) (D : DLoc) (X : SAdr) (R : Run) (U : Mmu) (l : List Int) (va k : Nat) (v : Int) (hva : va ≤ 4294967295) (hk1 : 1 ≤ k) (hk4 : k ≤ 4) (hl : l.length ≤ 100000) (hT : U.t.length = 16) (hroot : u32 R.s.root)
    (w : World) (hi : Inv w (blocks (runF (kOf br bu D) X (R.wd ((l ++ [v]) ++ [(va : Int)])) ++ uF bu bb L U)) (runF (kOf br bu D) X (R.wd ((l ++ [v]) ++ [(va : Int)])) ++ uF bu bb L U) w) :
    Ctr Tryz.prog 87 [.pointer (some ⟨br, 0, none⟩), .int .i64 k, .bool true] w (runF (kOf br bu D) X (R.wd ((l ++ [v]) ++ [(va : Int)])) ++ uF bu bb L U)
      (fun x cs => x = .tuple #[] ∧ cs = runF (kOf br bu D) X (sameS L.n (R.wd l) U va k v).1 ++ uF bu bb L (sameS L.n (R.wd l) U va k v).2) := by
  have hr0 := hroot.1
  have hr1 := hroot.2
  have hsr : (R.wd l).sp.root ≤ 4294967295 := by show R.s.root.toNat ≤ _; omega
  have HP := ustore_ok bu bb L U hT (R.wd l).sp hsr va k v hva hk1 hk4
  have HS := space2_ok (kOf br bu D) X (R.wd (l ++ [v])) hr0
  unfold sameS
  obtain ⟨⟨⟨ca, ad⟩, U'⟩, hq⟩ : ∃ q, storeTo L.n U (R.wd l).sp va k v = q := ⟨_, rfl⟩
  rw [hq] at HP ⊢
  obtain ⟨S, hS⟩ : ∃ S, (R.wd l).sp = S := ⟨_, rfl⟩
  rw [show (R.wd (l ++ [v])).sp = (R.wd l).sp from rfl, hS] at HS
  rw [hS] at HP
  refine fn_ctr Tryz.func87 rfl Tryz.ntmps87 rfl hi ?_
  refine Zs (Zr (Zm rfl (wl_t (t_callS (runF (kOf br bu D) X (R.wd ((l ++ [v]) ++ [(va : Int)]))) rfl (fun _ _ => rfl) Zi (fun w hi hin => pop_ok (kOf br bu D) X R (l ++ [v]) va w hin)) rfl ?_)))
  rintro _ _ ⟨_, ⟨rfl, rfl⟩, rfl⟩
  refine Zg rfl (Zn (Zt (Zx (Zs (Zr (Zm rfl (Zy (y_nil (Zv rfl)) (Zy (y_field 17 rfl (Zv rfl) Zf) ?_))))))))
  refine Zz rfl ?_
  refine Zy (y_pnil rfl (Zv rfl)) (Zm rfl (Zyn rfl rfl (y_move (Zv rfl)) ?_))
  refine Zyn rfl rfl (y_nil (ev_g rfl)) ?_
  refine Zyn rfl rfl (y_field 18 rfl (ev_g rfl) Zf) ?_
  refine wl_yg (guard_no rfl rfl) (y_load (fun _ => rfl) (ev_g rfl)) (row_cell Zh rfl) rfl ?_
  refine Zyn rfl rfl (y_pnil rfl (ev_g rfl)) ?_
  refine Zy (y_or (Zv rfl) (pk_no rfl (fun _ => rfl))) (Zg rfl (Zn (Zt ?_)))
  refine wc_cond _ rfl (fun hc4 => ?_) (fun hc4 => ?_)
  · exact absurd hc4 (by simp)
  refine Zs (Zr (Zm rfl (Zg rfl (Zn (Zt ?_)))))
  refine wc_cond _ rfl (fun hc6 => ?_) (fun hc6 => ?_)
  · refine wc_draw ⟨fun j => List.elem j [9, 11, 14], []⟩ Zk ?_
    refine wa_yn 0 rfl Zk Zk Zk (y_move (Zv rfl)) rfl ?_
    refine wa_yn 1 rfl Zk Zk Zk (y_move (Zv rfl)) rfl ?_
    refine wa_yn 2 rfl Zk Zk Zk (y_nil (Zv rfl)) rfl ?_
    refine wa_yn 3 rfl Zk Zk Zk (y_field 17 rfl (Zv rfl) Zf) rfl ?_
    refine wa_yn 5 rfl Zk Zk Zk (y_move (Zv rfl)) rfl ?_
    refine wa_yn 7 rfl Zk Zk Zk (y_move (Zv rfl)) rfl ?_
    refine wa_yn 8 rfl Zk Zk Zk (y_move (Zv rfl)) rfl ?_
    refine wa_yn 10 rfl Zk Zk Zk (y_move (Zv rfl)) rfl ?_
    refine wa_2 4 6 Zk ?_ ?_
    · refine wi_yn rfl (y_load (fun _ => rfl) (Zv rfl)) (row_cell Zh rfl) rfl ?_
      refine wa_1 6 Zk ?_
      refine wi_t rfl rfl (t_call rfl (fun _ _ => rfl) (fun w hi => HS w (hi.get Zh))) (fun _ _ _ _ _ _ _ h => by cases h) rfl ?_
      rintro _ _ ⟨_, ⟨rfl, rfl⟩, rfl⟩
      refine wa_1 9 Zk ?_
      refine wi_t rfl rfl (t_callS (runF (kOf br bu D) X (R.wd (l ++ [v]))) rfl (fun _ _ => rfl) Zi (fun w hi hin => pop_ok (kOf br bu D) X R l v w hin)) (fun _ _ _ _ _ _ _ h => by cases h) rfl ?_
      rintro _ _ ⟨_, ⟨rfl, rfl⟩, rfl⟩
      refine wa_1 11 Zk ?_
      refine wi_t rfl rfl (t_callS (uF bu bb L U) rfl (fun _ _ => rfl) Zi (fun w hi hin => HP w hin)) (fun _ _ _ _ _ _ _ h => by cases h) rfl ?_
      rintro _ _ ⟨_, ⟨rfl, rfl⟩, rfl⟩
      refine wa_yn 12 rfl Zk Zk Zk (y_nil (Zv rfl)) rfl ?_
      refine wa_yn 13 rfl Zk Zk Zk (y_field 19 rfl (Zv rfl) Zf) rfl ?_
      refine wa_1 14 Zk ?_
      refine wi_t0 rfl rfl (t_storeRX (ys := runCells (kOf br bu D) X ((R.wd l).wt ⟨ca, ad⟩)) (n := 2) (vs := [.int .i64 ca, .int .u32 ad]) rfl (fun _ => rfl) rfl rfl (allT rfl) Za rfl (by simp only [List.length_cons, List.length_nil]; omega)) (fun _ _ _ _ _ _ _ h => by cases h) ?_
      rintro _ _ ⟨rfl, rfl⟩
      refine wa_done Zk ?_
      refine Zo (qok_pick (runF (kOf br bu D) X ((R.wd l).wt ⟨ca, ad⟩) ++ uF bu bb L U') Zj ?_)
      refine ret0 (cs' := [row _ _ _, slv _ _ _ _ _ _, slv _ _ _ _ _ _, row _ _ _, exC _ _ _ _, row _ _ _]) (.inr rfl) Zu rfl ?_
      exact ⟨rfl, rfl⟩
    refine wi_t rfl rfl (t_call rfl (fun _ _ => rfl) (fun w hi => HS w (hi.get Zh))) (fun _ _ _ _ _ _ _ h => by cases h) rfl ?_
    rintro _ _ ⟨_, ⟨rfl, rfl⟩, rfl⟩
    refine wa_2 4 9 Zk ?_ ?_
    · refine wi_yn rfl (y_load (fun _ => rfl) (Zv rfl)) (row_cell Zh rfl) rfl ?_
      refine wa_1 9 Zk ?_
      refine wi_t rfl rfl (t_callS (runF (kOf br bu D) X (R.wd (l ++ [v]))) rfl (fun _ _ => rfl) Zi (fun w hi hin => pop_ok (kOf br bu D) X R l v w hin)) (fun _ _ _ _ _ _ _ h => by cases h) rfl ?_
      rintro _ _ ⟨_, ⟨rfl, rfl⟩, rfl⟩
      refine wa_1 11 Zk ?_
      refine wi_t rfl rfl (t_callS (uF bu bb L U) rfl (fun _ _ => rfl) Zi (fun w hi hin => HP w hin)) (fun _ _ _ _ _ _ _ h => by cases h) rfl ?_
      rintro _ _ ⟨_, ⟨rfl, rfl⟩, rfl⟩
      refine wa_yn 12 rfl Zk Zk Zk (y_nil (Zv rfl)) rfl ?_
      refine wa_yn 13 rfl Zk Zk Zk (y_field 19 rfl (Zv rfl) Zf) rfl ?_
      refine wa_1 14 Zk ?_
      refine wi_t0 rfl rfl (t_storeRX (ys := runCells (kOf br bu D) X ((R.wd l).wt ⟨ca, ad⟩)) (n := 2) (vs := [.int .i64 ca, .int .u32 ad]) rfl (fun _ => rfl) rfl rfl (allT rfl) Za rfl (by simp only [List.length_cons, List.length_nil]; omega)) (fun _ _ _ _ _ _ _ h => by cases h) ?_
      rintro _ _ ⟨rfl, rfl⟩
      refine wa_done Zk ?_
      refine Zo (qok_pick (runF (kOf br bu D) X ((R.wd l).wt ⟨ca, ad⟩) ++ uF bu bb L U') Zj ?_)
      refine ret0 (cs' := [row _ _ _, slv _ _ _ _ _ _, slv _ _ _ _ _ _, row _ _ _, exC _ _ _ _, row _ _ _]) (.inr rfl) Zu rfl ?_
      exact ⟨rfl, rfl⟩
    refine wi_t rfl rfl (t_callS (runF (kOf br bu D) X (R.wd (l ++ [v]))) rfl (fun _ _ => rfl) Zi (fun w hi hin => pop_ok (kOf br bu D) X R l v w hin)) (fun _ _ _ _ _ _ _ h => by cases h) rfl ?_
    rintro _ _ ⟨_, ⟨rfl, rfl⟩, rfl⟩
    refine wa_ln 4 rfl Zk Zk Zk Zk (y_load (fun _ => rfl) (Zv rfl)) (row_cell Zh rfl) rfl ?_
    refine wa_1 11 Zk ?_
    refine wi_t rfl rfl (t_callS (uF bu bb L U) rfl (fun _ _ => rfl) Zi (fun w hi hin => HP w hin)) (fun _ _ _ _ _ _ _ h => by cases h) rfl ?_
    rintro _ _ ⟨_, ⟨rfl, rfl⟩, rfl⟩
    refine wa_yn 12 rfl Zk Zk Zk (y_nil (Zv rfl)) rfl ?_
    refine wa_yn 13 rfl Zk Zk Zk (y_field 19 rfl (Zv rfl) Zf) rfl ?_
    refine wa_1 14 Zk ?_
    refine wi_t0 rfl rfl (t_storeRX (ys := runCells (kOf br bu D) X ((R.wd l).wt ⟨ca, ad⟩)) (n := 2) (vs := [.int .i64 ca, .int .u32 ad]) rfl (fun _ => rfl) rfl rfl (allT rfl) Za rfl (by simp only [List.length_cons, List.length_nil]; omega)) (fun _ _ _ _ _ _ _ h => by cases h) ?_
    rintro _ _ ⟨rfl, rfl⟩
    refine wa_done Zk ?_
    refine Zo (qok_pick (runF (kOf br bu D) X ((R.wd l).wt ⟨ca, ad⟩) ++ uF bu bb L U') Zj ?_)
    refine ret0 (cs' := [row _ _ _, slv _ _ _ _ _ _, slv _ _ _ _ _ _, row _ _ _, exC _ _ _ _, row _ _ _]) (.inr rfl) Zu rfl ?_
    exact ⟨rfl, rfl⟩
  exact absurd hc6 (by simp)
end Go.Proofs.YtobjiljkfmcalaaGreat
