/- An instruction without a memory and devices. -/
import Derived.Test.YtobjiljkfmcalaaGreatSpZ
import Derived.Test.YtobjiljkfmcalaaGreatInkS
set_option linter.unusedSimpArgs false
set_option linter.unusedVariables false
set_option maxRecDepth 100000
namespace Go.Ink
open Go.RowKit
def wholeN (R : Run) (va : Nat) : Run := bif ((va % 4 : Nat) : Int) != 0 then R.wt ⟨6, va⟩ else R.wt ⟨10, va⟩
def otherN (op nn : Int) (R : Run) : Run :=
  bif op == 48 then wholeN R.pop R.top.toNat else
  bif op == 49 then wholeN R.pop.pop R.top.toNat else
  bif op == 50 then R.pop.wt ⟨10, R.top⟩ else
  bif op == 51 then R.pop.wt ⟨10, R.top⟩ else
  bif op == 52 then R.pop.wt ⟨10, R.top⟩ else
  bif op == 53 then R.pop.wt ⟨10, R.top⟩ else
  bif op == 64 then R.wt ⟨11, 0⟩ else
  bif op == 65 then R.ws R.s.back else
  bif op == 66 then R.push [((R.s.wcount R.count).get nn).1] else
  bif op == 67 then R.pop.ws (R.pop.s.set nn R.top).1 else
  bif op == 68 then R.pop else
  bif op == 69 then R.ws R.s.halt else R
def midN (s : St) (op nn : Int) : Run :=
  match stackTo op nn (run0 s op) with
  | some R => R
  | none => bif (reckonTo op nn (run0 s op)).1 then (reckonTo op nn (run0 s op)).2 else otherN op nn (reckonTo op nn (run0 s op)).2
def endN (s : St) (R : Run) : Res :=
  bif R.trap.cause != 0 then ⟨s.next.trap R.trap.cause R.trap.addr, true, R.device, []⟩ else ⟨R.s, false, R.device, []⟩
/-- An instruction of a guest that has neither memory nor devices. -/
def doN (s : St) (op nn : Int) : Res :=
  bif !s.right then ⟨s, false, false, []⟩ else
  bif checkOf s op nn != 0 then ⟨s.next.trap (checkOf s op nn) 0, true, false, []⟩ else
  endN s (midN s op nn)
end Go.Ink
namespace Go.Proofs.YtobjiljkfmcalaaGreat
open Go.RowKit Go.Ink

abbrev kNil (br : Nat) : RLoc := ⟨br, none, none⟩
set_option maxHeartbeats 1000000 in
theorem wholeN_ok (br : Nat) (X : SAdr) (R : Run) (va : Nat) (kind : Int) (w : World) (hi : Inv w (blocks (runF (kNil br) X R)) (runF (kNil br) X R) w) :
    Ctr Tryz.prog 111 [.pointer (some ⟨br, 0, none⟩), .int .u32 va, .int .i64 kind] w (runF (kNil br) X R)
      (fun v cs => v = .tuple #[.int .u32 0, .bool false] ∧ cs = runF (kNil br) X (wholeN R va)) := by
  unfold wholeN
  refine fn_ctr Tryz.func111 rfl Tryz.ntmps111 rfl hi ?_
  refine Zs (Zr (Zg rfl (Zg rfl (Zn (Zt (Zs (Zx (Zs (Zr (Zm rfl (Zy (y_rem (Zv rfl) (Zv rfl) (by omega) (show _ = ((va % 4 : Nat) : Int) from by rw [Int.tmod_eq_emod_of_nonneg (by omega)]; omega)) ?_)))))))))))
  refine Zy (y_neq (Zv rfl) (Zv rfl) rfl) (Zg rfl (Zn (Zt ?_)))
  refine wc_cond _ rfl (fun hc1 => ?_) (fun hc1 => ?_)
  · refine Zs (Zr (Zm rfl (Zm rfl (wl_t (t_callS (runF (kNil br) X R) rfl (fun _ _ => rfl) Zi (fun w hi hin => fail_ok (kNil br) X R 6 va w hin)) rfl ?_))))
    rintro _ _ ⟨_, ⟨rfl, rfl⟩, rfl⟩
    refine Zn (Zt (Zs (Zr (Zg rfl (Zg rfl (Zn (Zt (Ze (Zq (Zw (ret2 (cs' := [row _ _ _, slv _ _ _ _ _ _, slv _ _ _ _ _ _]) (.inl rfl) Zu rfl rfl rfl ?_)))))))))))
    rw [hc1]
    exact ⟨rfl, rfl⟩
  refine Zs (Zr (Zm rfl (Zy (y_nil (Zv rfl)) (Zy (y_field 17 rfl (Zv rfl) Zf) ?_))))
  refine Zz rfl ?_
  refine Zy (y_pnil rfl (Zv rfl)) (Zm rfl (wl_skip (guard_no rfl rfl) rfl rfl ?_))
  refine wl_skip (guard_no rfl rfl) rfl rfl ?_
  refine wl_skip (guard_no rfl rfl) rfl rfl ?_
  refine wl_skip (guard_no rfl rfl) rfl rfl ?_
  refine wl_skip (guard_no rfl rfl) rfl rfl ?_
  refine Zy (y_or (q := false) (Zv rfl) ⟨_, rfl, fun _ e => by simp at e⟩) ?_
  refine Zg rfl (Zn (Zt ?_))
  refine wc_cond _ rfl (fun hc4 => ?_) (fun hc4 => ?_)
  · refine Zs (Zr (Zm rfl (Zm rfl (wl_t (t_callS (runF (kNil br) X R) rfl (fun _ _ => rfl) Zi (fun w hi hin => fail_ok (kNil br) X R 10 va w hin)) rfl ?_))))
    rintro _ _ ⟨_, ⟨rfl, rfl⟩, rfl⟩
    refine Zn (Zt (Zs (Zr (Zg rfl (Zg rfl (Zn (Zt (Ze (Zq (Zw (ret2 (cs' := [row _ _ _, slv _ _ _ _ _ _, slv _ _ _ _ _ _]) (.inl rfl) Zu rfl rfl rfl ?_)))))))))))
    rw [hc1]
    exact ⟨rfl, rfl⟩
  exact absurd hc4 (by simp)
theorem lodeN_ok (br : Nat) (X : SAdr) (R : Run) (l : List Int) (va : Nat) (w : World) (hi : Inv w (blocks (runF (kNil br) X (R.wd (l ++ [(va : Int)])))) (runF (kNil br) X (R.wd (l ++ [(va : Int)]))) w) :
    Ctr Tryz.prog 85 [.pointer (some ⟨br, 0, none⟩)] w (runF (kNil br) X (R.wd (l ++ [(va : Int)]))) (fun v cs => v = .tuple #[] ∧ cs = runF (kNil br) X (wholeN (R.wd l) va)) := by
  have HW := wholeN_ok br X (R.wd l) va 2
  obtain ⟨R', hR'⟩ : ∃ R', wholeN (R.wd l) va = R' := ⟨_, rfl⟩
  rw [hR'] at HW ⊢
  refine fn_ctr Tryz.func85 rfl Tryz.ntmps85 rfl hi ?_
  refine Zs (Zr (Zm rfl (wl_t (t_callS (runF (kNil br) X (R.wd (l ++ [(va : Int)]))) rfl (fun _ _ => rfl) Zi (fun w hi hin => pop_ok (kNil br) X R l va w hin)) rfl ?_)))
  rintro _ _ ⟨_, ⟨rfl, rfl⟩, rfl⟩
  refine Zg rfl (Zn (Zt (Zs (Zr (Zm rfl (Zm rfl (wl_t (t_callS (runF (kNil br) X (R.wd l)) rfl (fun _ _ => rfl) Zi (fun w hi hin => HW w hin)) rfl ?_)))))))
  rintro _ _ ⟨_, ⟨rfl, rfl⟩, rfl⟩
  refine Zm rfl (Zy (y_extractN (Zv rfl) (.zero _ _)) (Zy (y_extractN (Zv rfl) (.succ _ (.zero _ _))) (Zg rfl (Zg rfl (Zn (Zt (Zs (Zs (Zr (Zm rfl (Zy (y_not (Zv rfl) rfl) (Zn (Zt (wc_cond_t rfl (rfl) ?_))))))))))))))
  refine Ze (Zw (ret0 (cs' := [row _ _ _, slv _ _ _ _ _ _, slv _ _ _ _ _ _]) (.inl rfl) Zu rfl ?_))
  exact ⟨rfl, rfl⟩
theorem stowN_ok (br : Nat) (X : SAdr) (R : Run) (l : List Int) (v : Int) (va : Nat) (w : World) (hi : Inv w (blocks (runF (kNil br) X (R.wd ((l ++ [v]) ++ [(va : Int)])))) (runF (kNil br) X (R.wd ((l ++ [v]) ++ [(va : Int)]))) w) :
    Ctr Tryz.prog 86 [.pointer (some ⟨br, 0, none⟩)] w (runF (kNil br) X (R.wd ((l ++ [v]) ++ [(va : Int)]))) (fun x cs => x = .tuple #[] ∧ cs = runF (kNil br) X (wholeN (R.wd l) va)) := by
  have HW := wholeN_ok br X (R.wd l) va 3
  obtain ⟨R', hR'⟩ : ∃ R', wholeN (R.wd l) va = R' := ⟨_, rfl⟩
  rw [hR'] at HW ⊢
  refine fn_ctr Tryz.func86 rfl Tryz.ntmps86 rfl hi ?_
  refine Zs (Zr (Zm rfl (wl_t (t_callS (runF (kNil br) X (R.wd ((l ++ [v]) ++ [(va : Int)]))) rfl (fun _ _ => rfl) Zi (fun w hi hin => pop_ok (kNil br) X R (l ++ [v]) va w hin)) rfl ?_)))
  rintro _ _ ⟨_, ⟨rfl, rfl⟩, rfl⟩
  refine Zg rfl (Zn (Zt (Zs (Zr (Zm rfl (wl_t (t_callS (runF (kNil br) X (R.wd (l ++ [v]))) rfl (fun _ _ => rfl) Zi (fun w hi hin => pop_ok (kNil br) X R l v w hin)) rfl ?_))))))
  rintro _ _ ⟨_, ⟨rfl, rfl⟩, rfl⟩
  refine Zg rfl (Zn (Zt (Zs (Zr (Zm rfl (Zm rfl (wl_t (t_callS (runF (kNil br) X (R.wd l)) rfl (fun _ _ => rfl) Zi (fun w hi hin => HW w hin)) rfl ?_)))))))
  rintro _ _ ⟨_, ⟨rfl, rfl⟩, rfl⟩
  refine Zm rfl (Zy (y_extractN (Zv rfl) (.zero _ _)) (Zy (y_extractN (Zv rfl) (.succ _ (.zero _ _))) (Zg rfl (Zg rfl (Zn (Zt (Zs (Zs (Zr (Zm rfl (Zy (y_not (Zv rfl) rfl) (Zn (Zt (wc_cond_t rfl (rfl) ?_))))))))))))))
  refine Ze (Zw (ret0 (cs' := [row _ _ _, slv _ _ _ _ _ _, slv _ _ _ _ _ _]) (.inl rfl) Zu rfl ?_))
  exact ⟨rfl, rfl⟩
theorem someN_ok (br : Nat) (X : SAdr) (R : Run) (l : List Int) (va : Int) (k : Int) (b : Bool) (w : World) (hi : Inv w (blocks (runF (kNil br) X (R.wd (l ++ [va])))) (runF (kNil br) X (R.wd (l ++ [va]))) w) :
    Ctr Tryz.prog 87 [.pointer (some ⟨br, 0, none⟩), .int .i64 k, .bool b] w (runF (kNil br) X (R.wd (l ++ [va]))) (fun x cs => x = .tuple #[] ∧ cs = runF (kNil br) X ((R.wd l).wt ⟨10, va⟩)) := by
  refine fn_ctr Tryz.func87 rfl Tryz.ntmps87 rfl hi ?_
  refine Zs (Zr (Zm rfl (wl_t (t_callS (runF (kNil br) X (R.wd (l ++ [va]))) rfl (fun _ _ => rfl) Zi (fun w hi hin => pop_ok (kNil br) X R l va w hin)) rfl ?_)))
  rintro _ _ ⟨_, ⟨rfl, rfl⟩, rfl⟩
  refine Zg rfl (Zn (Zt (Zx (Zs (Zr (Zm rfl (Zy (y_nil (Zv rfl)) (Zy (y_field 17 rfl (Zv rfl) Zf) ?_))))))))
  refine Zz rfl ?_
  refine Zy (y_pnil rfl (Zv rfl)) (Zm rfl (wl_skip (guard_no rfl rfl) rfl rfl ?_))
  refine wl_skip (guard_no rfl rfl) rfl rfl ?_
  refine wl_skip (guard_no rfl rfl) rfl rfl ?_
  refine wl_skip (guard_no rfl rfl) rfl rfl ?_
  refine wl_skip (guard_no rfl rfl) rfl rfl ?_
  refine Zy (y_or (q := false) (Zv rfl) ⟨_, rfl, fun _ e => by simp at e⟩) ?_
  refine Zg rfl (Zn (Zt (wc_cond_t rfl (rfl) ?_)))
  refine Zr (Zm rfl (Zm rfl (wl_t (t_callS (runF (kNil br) X (R.wd l)) rfl (fun _ _ => rfl) Zi (fun w hi hin => fail_ok (kNil br) X (R.wd l) 10 va w hin)) rfl ?_)))
  rintro _ _ ⟨_, ⟨rfl, rfl⟩, rfl⟩
  refine Zn (Zo (ret0 (cs' := [row _ _ _, slv _ _ _ _ _ _, slv _ _ _ _ _ _]) (.inr rfl) Zu rfl ?_))
  exact ⟨rfl, rfl⟩
end Go.Proofs.YtobjiljkfmcalaaGreat
