/- The reference's Copy, same, Same; Trim. -/
import Derived.Test.YtobjiljkfmcalaaGreatStC
import Derived.Test.YtobjiljkfmcalaaGreatInkS
set_option linter.unusedSimpArgs false
set_option linter.unusedVariables false
set_option maxRecDepth 100000
namespace Go.Proofs.YtobjiljkfmcalaaGreat
open Go.RowKit Go.Ink

theorem refcopy_ok (s : St) (Ad Ar : Option Addr) (cd cr : Nat) (w : World) (h : RdSt w s Ad Ar cd cr) : Ctr Tryz.prog 23 [sv s Ad cd Ar cr] w [] (OwnSt s) := by
  have hd := h.hd
  have hr := h.hr
  refine fn_ctr Tryz.func23 rfl Tryz.ntmps23 rfl (Inv.start w) ?_
  refine Zs (Zr (wl_t (t_box rfl rfl) rfl ?_))
  rintro _ _ ⟨b1, rfl, rfl⟩
  refine wl_t (t_alloc (fun _ => rfl) rfl) rfl ?_
  rintro _ _ ⟨b2, rfl, rfl⟩
  refine Zn (Zt (Zs (Zr (wl_t (t_buildSl1 rfl rfl (fun _ => rfl) (fun _ => rfl) rfl rfl) rfl ?_))))
  rintro _ _ ⟨b3, rfl, rfl⟩
  refine Zy (y_field 1 rfl (Zv rfl) Zf) ?_
  refine Zz rfl ?_
  refine wl_t (t_append (e := 22) (sz := 1) (bytes := 4) rfl rfl Za rfl rfl (fun w hi => h.d.oldN hi) ints_one (by simp only [maxLen]; omega) (by omega)) rfl ?_
  rintro _ _ ⟨A1, c1, rfl, rfl⟩
  simp only [Nat.zero_add, List.nil_append]
  refine Zy (y_field 1 rfl (Zv rfl) Zf) ?_
  refine wl_t0 (t_store (fun _ => rfl) rfl rfl rfl Za Zp) ?_
  rintro _ _ ⟨rfl, rfl⟩
  refine Zn (Zt (Zs (Zr (wl_t (t_buildSl1 rfl rfl (fun _ => rfl) (fun _ => rfl) rfl rfl) rfl ?_))))
  rintro _ _ ⟨b8, rfl, rfl⟩
  refine Zy (y_field 2 rfl (Zv rfl) Zf) ?_
  refine Zz rfl ?_
  refine wl_t (t_append (e := 22) (sz := 1) (bytes := 4) rfl rfl Za rfl rfl (fun w hi => h.r.oldN hi) ints_one (by simp only [maxLen]; omega) (by omega)) rfl ?_
  rintro _ _ ⟨A2, c2, rfl, rfl⟩
  simp only [Nat.zero_add, List.nil_append]
  refine Zy (y_field 2 rfl (Zv rfl) Zf) ?_
  refine wl_t0 (t_store (fun _ => rfl) rfl rfl rfl Za Zp) ?_
  rintro _ _ ⟨rfl, rfl⟩
  refine Zn (Zt (Zs (Zr (wl_loadRow Zh (fun _ => rfl) (fun _ => rfl) (Zv rfl) rfl ?_))))
  refine wl_t0 (t_storeN (fun _ => rfl) rfl rfl (allT rfl) Za (by exact rfl)) ?_
  rintro _ _ ⟨rfl, rfl⟩
  refine Zn (Zt (Ze (retC (cs' := [slv _ _ _ _ _ _, slv _ _ _ _ _ _]) (.inl rfl) Zu rfl rfl Zh (fun _ => rfl) (fun _ => rfl) ?_)))
  exact ⟨A1, c1, A2, c2, rfl, rfl⟩

theorem rsame_ok (A A2 : Option Addr) (c c2 : Nat) (xs ys : List Int) (w : World) (h : Rd w .u32 A xs.length c xs) (h2 : Rd w .u32 A2 ys.length c2 ys) :
    Ctr Tryz.prog 53 [.slice A xs.length c, .slice A2 ys.length c2] w [] (fun v cs => v = .bool (xs == ys) ∧ cs = []) := by
  have hm := h.max
  have hc := h.cap
  unfold maxLen at hm
  refine fn_ctr Tryz.func53 rfl Tryz.ntmps53 rfl (Inv.start w) ?_
  refine Zs (Zr (Zg rfl (Zn (Zt (Zs (Zs (Zr (Zm rfl (Zy (y_len ⟨_, rfl⟩ (Zv rfl)) ?_)))))))))
  refine Zm rfl (Zy (y_len ⟨_, rfl⟩ (Zv rfl)) ?_)
  refine Zy (y_neq (Zv rfl) (Zv rfl) rfl) (Zn (Zt ?_))
  refine wc_cond _ rfl (fun hc1 => ?_) (fun hc1 => ?_)
  · have hne : (xs == ys) = false := by rw [beq_eq_false_iff_ne]; rintro rfl; simp at hc1
    refine Zs (Zr (Zg rfl (Zn (Zt (Ze (Zw (ret1 (cs' := []) (.inl rfl) Zu rfl rfl ?_)))))))
    exact ⟨by rw [hne], rfl⟩
  have hlen : xs.length = ys.length := by (have : (xs.length : Int) = ys.length := by simpa using hc1); omega
  refine Zc (Zt (Zs (Zs (Zr (Zg rfl (Zn (Zt (Zx ?_))))))))
  refine wc_loop (fun k : Nat => [(5, .int .i64 (k : Int)), (0, .slice A xs.length c), (1, .slice A2 ys.length c2)]) (fun _ => []) (fun k => k ≤ xs.length ∧ xs.take k = ys.take k) (fun k => xs.length - k) (0) ?_ ?_ ?_ ?_
  · exact ⟨Nat.zero_le _, rfl⟩
  · ((repeat' (refine Wk.cons ?_ ?_)) <;> first | exact Wk.nil | exact rfl | exact trivial | exact wk_num rfl (by omega) | exact wk_num rfl (by simp))
  · ((repeat (first | exact List.Sublist.slnil | refine List.Sublist.cons_cons _ ?_ | refine List.Sublist.cons _ ?_)))
  rintro k ⟨hk, he⟩
  refine Zs (Zs (Zr (Zm rfl (Zm rfl (Zy (y_len ⟨_, rfl⟩ (Zv rfl)) ?_)))))
  refine Zy (y_lss (Zv rfl) (Zv rfl) rfl) (Zn (Zt ?_))
  refine wc_cond _ rfl (fun hc4 => ?_) (fun hc4 => ?_)
  · simp only [decide_eq_true_eq] at hc4
    obtain ⟨ad, rfl⟩ := h.some_ (by omega)
    obtain ⟨ad2, rfl⟩ := h2.some_ (by omega)
    refine Zc (Zt (Zs (Zx (Zs (wc_draw ⟨fun j => List.elem j [], []⟩ Zk ?_)))))
    refine wa_yn 0 rfl Zk Zk Zk (y_move (Zv rfl)) rfl ?_
    refine wa_yn 1 rfl Zk Zk Zk (y_move (Zv rfl)) rfl ?_
    refine wa_yn 2 rfl Zk Zk Zk (y_index  rfl (fun _ => rfl) (Zv rfl) (Zv rfl)  (fun _ => rfl) (fun _ => by omega)) rfl ?_
    refine wa_ln 3 rfl Zk Zk Zk Zk (y_load (fun _ => rfl) (Zv rfl)) (rd_cell h (ints_get (show k < xs.length by omega))) rfl ?_
    refine wa_yn 4 rfl Zk Zk Zk (y_move (Zv rfl)) rfl ?_
    refine wa_yn 5 rfl Zk Zk Zk (y_move (Zv rfl)) rfl ?_
    refine wa_yn 6 rfl Zk Zk Zk (y_index  rfl (fun _ => rfl) (Zv rfl) (Zv rfl)  (fun _ => rfl) (fun _ => by omega)) rfl ?_
    refine wa_ln 7 rfl Zk Zk Zk Zk (y_load (fun _ => rfl) (Zv rfl)) (rd_cell h2 (ints_get (show k < ys.length by omega))) rfl ?_
    refine wa_yn 8 rfl Zk Zk Zk (y_neq (Zv rfl) (Zv rfl) rfl) rfl ?_
    refine wa_done Zk ?_
    refine Zt ?_
    refine wc_cond _ rfl (fun hc6 => ?_) (fun hc6 => ?_)
    · have hne : (xs == ys) = false := by rw [beq_eq_false_iff_ne]; rintro rfl; simp at hc6
      refine Zs (Zr (Zg rfl (Zn (Zt (Ze (Zq (Zw (Zw (Zq (Zw (ret1 (cs' := []) (.inl rfl) Zu rfl rfl ?_)))))))))))
      exact ⟨by rw [hne], rfl⟩
    have heq : xs[k]'(by omega) = ys[k]'(by omega) := by simpa using hc6
    refine Zc (Zo (Zt (Zr (Zm rfl (Zy (y_add (Zv rfl) (Zv rfl) Zl) ?_)))))
    refine Zg rfl (Zn ?_)
    refine q_mid (k + 1) ?_ ?_ ?_
    · refine ⟨⟨by omega, ?_⟩, by omega⟩; rw [List.take_succ_eq_append_getElem (by omega), List.take_succ_eq_append_getElem (by omega), he, heq]
    · ((repeat' (refine Wk.cons ?_ ?_)) <;> first | exact Wk.nil | exact rfl | exact trivial | exact wk_num rfl (by omega) | exact wk_num rfl (by simp))
    ((repeat (first | exact List.Sublist.slnil | refine List.Sublist.cons_cons _ ?_ | refine List.Sublist.cons _ ?_)))
  simp only [decide_eq_false_iff_not] at hc4
  refine wc_exit ?_
  refine q_then_exit ?_
  refine q_then_exit ?_
  refine q_block_same rfl ?_
  refine Zt (Zs (Zr (Zg rfl (Zn (Zt (Ze (ret1 (cs' := []) (.inl rfl) Zu rfl rfl ?_)))))))
  refine ⟨?_, rfl⟩
  have hkk : k = xs.length := by omega
  subst hkk
  rw [List.take_length] at he
  rw [he, hlen, List.take_length]
  simp
end Go.Proofs.YtobjiljkfmcalaaGreat
