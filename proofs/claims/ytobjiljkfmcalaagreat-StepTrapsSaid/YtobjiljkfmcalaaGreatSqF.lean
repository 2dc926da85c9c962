/- The law StepSystem. -/
import Derived.Test.YtobjiljkfmcalaaGreatSqAll
import Derived.Test.YtobjiljkfmcalaaGreatInkA
set_option linter.unusedSimpArgs false
set_option linter.unusedVariables false
set_option maxRecDepth 100000
namespace Go.Ink
open Go.RowKit
theorem St.tr_wf {s : St} (h : s.wf) : s.trim.wf := by
  obtain ⟨f0, f1⟩ := h.flags
  obtain ⟨c0, c1⟩ := h.count
  exact ⟨h.pc, ⟨by show 0 ≤ s.flags % 16; omega, by show s.flags % 16 ≤ _; omega⟩, h.root, h.vec, h.epc, h.cause, h.addr, ⟨by show 0 ≤ s.count % 1099511627776; omega, by show s.count % 1099511627776 ≤ _; omega⟩,
    fun x hx => h.d x (List.mem_of_mem_take hx), fun x hx => h.r x (List.mem_of_mem_take hx)⟩
theorem St.mkr {s : St} (h1 : s.d.length ≤ 16) (h2 : s.r.length ≤ 16) (h3 : s.flags ≤ 15) : s.right = true := by
  simp only [St.right, Bool.and_eq_true, decide_eq_true_eq]
  omega
theorem St.tr_right {s : St} : s.trim.right = true :=
  St.mkr (by simp [St.trim]; omega) (by simp [St.trim]; omega) (by show s.flags % 16 ≤ 15; omega)
/-- What is the system's. -/
def SysOp (op nn : Int) : Prop := (op = 66 ∨ op = 67) ∧ 0 ≤ nn ∧ nn ≤ 255 ∨ (op = 65 ∨ op = 68 ∨ op = 69) ∧ nn = 0
theorem sys_right {op nn : Int} (h : SysOp op nn) : opRight op nn = true ∧ opSuper op = true := by
  rcases h with ⟨rfl | rfl, h1, h2⟩ | ⟨rfl | rfl | rfl, rfl⟩
  · exact ⟨decide_eq_true h2, rfl⟩
  · exact ⟨decide_eq_true h2, rfl⟩
  · exact ⟨rfl, rfl⟩
  · exact ⟨rfl, rfl⟩
  exact ⟨rfl, rfl⟩
theorem sys_user {op nn : Int} (h : SysOp op nn) {s : St} (hs : s.super = false) : checkOf s op nn = 2 := by
  obtain ⟨h1, h2⟩ := sys_right h
  unfold checkOf
  rw [h1, h2, hs]
  rfl
theorem needOf_ne {s : St} {q : (Nat × Nat) × (Nat × Nat)} : (needOf s q != 2) = true := by
  unfold needOf
  refine cond_all (fun x : Int => (x != 2) = true) rfl ?_
  exact cond_all (fun x : Int => (x != 2) = true) rfl rfl
theorem sys_super {op nn : Int} (h : SysOp op nn) {s : St} (hs : s.super = true) : (checkOf s op nn != 2) = true := by
  obtain ⟨h1, h2⟩ := sys_right h
  unfold checkOf
  rw [h1, h2, hs]
  simp only [Bool.not_true, Bool.and_false, cond_false]
  refine cond_all (fun x : Int => (x != 2) = true) rfl ?_
  exact cond_all (fun x : Int => (x != 2) = true) rfl needOf_ne
end Go.Ink
namespace Go.Proofs.YtobjiljkfmcalaaGreat
open Go.RowKit Go.Ink

theorem within_e {n lo hi x : Int} (hx : within n lo hi = x) (w : World) (h0 : 0 ≤ lo) (h1 : lo ≤ hi) (h2 : hi ≤ 1000000000000) : Ctr Tryz.prog 20 [.int .i64 n, .int .i64 lo, .int .i64 hi] w [] (fun v cs => v = .int .i64 x ∧ cs = []) := hx ▸ within_ok n lo hi w h0 h1 h2
set_option maxHeartbeats 1000000 in
theorem stepSystem_ok (s : St) (hs : s.wf) (Ad Ar : Option Addr) (cd cr : Nat) (n v : Int) (hv : u32 v) (w : World) (h : RdSt w s Ad Ar cd cr) :
    Ctr Tryz.prog 5 [sv s Ad cd Ar cr, .int .i64 n, .int .u32 v] w [] (fun v cs => v = .bool true ∧ cs = []) := by
  have HT := trim_ok s hs Ad Ar cd cr
  have htw := St.tr_wf hs
  have htr := St.tr_right (s := s)
  obtain ⟨hd16, hr16, -⟩ := St.fits htr
  obtain ⟨v, rfl⟩ : ∃ m : Nat, v = m := Int.eq_ofNat_of_zero_le hv.1
  have hv2 : (v : Int) ≤ 4294967295 := hv.2
  obtain ⟨x, hx⟩ : ∃ x, within n 0 4 = x := ⟨_, rfl⟩
  have hxr := within_rng (n := n) (lo := 0) (hi := 4) (by decide)
  rw [hx] at hxr
  obtain ⟨k, rfl⟩ : ∃ m : Nat, x = m := Int.eq_ofNat_of_zero_le hxr.1
  have hk4 : k ≤ 4 := by omega
  have hop : ([65, 66, 67, 68, 69] : List Int)[k]? = some (65 + (k : Int)) := by
    obtain rfl | rfl | rfl | rfl | rfl : k = 0 ∨ k = 1 ∨ k = 2 ∨ k = 3 ∨ k = 4 := by omega
    all_goals rfl
  obtain ⟨op, hop2⟩ : ∃ op : Int, 65 + (k : Int) = op := ⟨_, rfl⟩
  rw [hop2] at hop
  have HW := fun w => within_e hx w (by decide) (by decide) (by decide)
  obtain ⟨⟨pc, d, r, fl, su, pg, ie, rt, ve, ep, ca, ad, es, ei, co, ha⟩, ht⟩ : ∃ t, s.trim = t := ⟨_, rfl⟩
  rw [ht] at HT htw htr hd16 hr16
  have hd16 : d.length ≤ 16 := hd16
  have hr16 : r.length ≤ 16 := hr16
  have hbd : d.length * 4 ≤ 140737488355328 := by omega
  have hbr : r.length * 4 ≤ 140737488355328 := by omega
  have hw1 : (⟨pc, d, r, fl, false, pg, ie, rt, ve, ep, ca, ad, es, ei, co, ha⟩ : St).wf := ⟨htw.pc, htw.flags, htw.root, htw.vec, htw.epc, htw.cause, htw.addr, htw.count, htw.d, htw.r⟩
  have hr1 : (⟨pc, d, r, fl, false, pg, ie, rt, ve, ep, ca, ad, es, ei, co, ha⟩ : St).right = true := htr
  have HC : ∀ nn, SysOp op nn → ∀ A1 c1 A2 c2 w, RdSt w ⟨pc, d, r, fl, false, pg, ie, rt, ve, ep, ca, ad, es, ei, co, ha⟩ A1 A2 c1 c2 → Ctr Tryz.prog 19 [sv ⟨pc, d, r, fl, false, pg, ie, rt, ve, ep, ca, ad, es, ei, co, ha⟩ A1 c1 A2 c2, .agg #[.int .i64 op, .int .u32 nn]] w [] (fun v cs => v = .int .i64 2 ∧ cs = []) := fun nn hnn A1 c1 A2 c2 w h => by
    have h1 := check_ok ⟨pc, d, r, fl, false, pg, ie, rt, ve, ep, ca, ad, es, ei, co, ha⟩ A1 A2 c1 c2 op nn (by rcases hnn with ⟨_, h1, h2⟩ | ⟨_, rfl⟩; exact ⟨h1, by omega⟩; exact u32_of) w h
    rwa [sys_user hnn rfl] at h1
  have HC2 : ∀ nn, SysOp op nn → ∃ q, (q != 2) = true ∧ ∀ A1 c1 A2 c2 w, RdSt w ⟨pc, d, r, fl, true, pg, ie, rt, ve, ep, ca, ad, es, ei, co, ha⟩ A1 A2 c1 c2 → Ctr Tryz.prog 19 [sv ⟨pc, d, r, fl, true, pg, ie, rt, ve, ep, ca, ad, es, ei, co, ha⟩ A1 c1 A2 c2, .agg #[.int .i64 op, .int .u32 nn]] w [] (fun v cs => v = .int .i64 q ∧ cs = []) := fun nn hnn =>
    ⟨_, sys_super hnn (s := ⟨pc, d, r, fl, true, pg, ie, rt, ve, ep, ca, ad, es, ei, co, ha⟩) rfl, fun A1 c1 A2 c2 w h => check_ok _ A1 A2 c1 c2 op nn (by rcases hnn with ⟨_, h1, h2⟩ | ⟨_, rfl⟩; exact ⟨h1, by omega⟩; exact u32_of) w h⟩
  have HD : ∀ nn, SysOp op nn → ∀ A1 c1 A2 c2 w, RdSt w ⟨pc, d, r, fl, false, pg, ie, rt, ve, ep, ca, ad, es, ei, co, ha⟩ A1 A2 c1 c2 → Ctr Tryz.prog 16 [sv ⟨pc, d, r, fl, false, pg, ie, rt, ve, ep, ca, ad, es, ei, co, ha⟩ A1 c1 A2 c2, .agg #[.int .i64 op, .int .u32 nn], .pointer none, .pointer none] w []
      (fun v cs => ∃ X Ap cp, v = .agg (resCells ⟨⟨ve, d, r, fl, true, pg, false, rt, ve, pc, 2, 0, false, ie, IntKind.u64.wrap (co + 1), ha⟩, true, false, []⟩ X Ap cp).toArray ∧ cs = resF ⟨⟨ve, d, r, fl, true, pg, false, rt, ve, pc, 2, 0, false, ie, IntKind.u64.wrap (co + 1), ha⟩, true, false, []⟩ X Ap cp) := fun nn hnn A1 c1 A2 c2 w h => by
    have h1 := doN_ok ⟨pc, d, r, fl, false, pg, ie, rt, ve, ep, ca, ad, es, ei, co, ha⟩ A1 A2 c1 c2 op nn hw1 (by rcases hnn with ⟨_, h1, h2⟩ | ⟨_, rfl⟩; exact ⟨h1, by omega⟩; exact u32_of) w h
    have h2 : doN ⟨pc, d, r, fl, false, pg, ie, rt, ve, ep, ca, ad, es, ei, co, ha⟩ op nn = ⟨⟨ve, d, r, fl, true, pg, false, rt, ve, pc, 2, 0, false, ie, IntKind.u64.wrap (co + 1), ha⟩, true, false, []⟩ := by
      unfold doN
      rw [hr1, sys_user hnn rfl]
      rfl
    rwa [h2] at h1
  refine fn_ctr Tryz.func5 rfl Tryz.ntmps5 rfl (Inv.start w) ?_
  refine Zs (Zr (wl_t (t_box rfl rfl) rfl ?_))
  rintro _ _ ⟨b3, rfl, rfl⟩
  refine Zg rfl (Zn (Zt (Zs (Zr (wl_loadRow Zh (fun _ => rfl) (fun _ => rfl) (Zv rfl) rfl ?_)))))
  refine wl_t (t_call rfl (fun _ _ => rfl) (fun w hi => HT w (h.oldN hi))) rfl ?_
  rintro _ _ ⟨_, ⟨A1, c1, A2, c2, rfl, rfl⟩, rfl⟩
  refine wl_t0 (t_storeN (fun _ => rfl) rfl rfl (allT rfl) Za (by exact rfl)) ?_
  rintro _ _ ⟨rfl, rfl⟩
  refine Zn (Zt (Zs (Zr (wl_t (t_buildSl1 rfl rfl (fun _ => rfl) (fun _ => rfl) rfl rfl) rfl ?_))))
  rintro _ _ ⟨b11, rfl, rfl⟩
  refine Zm rfl (wl_t (t_call rfl (fun _ _ => rfl) (fun w hi => HW w)) rfl ?_)
  rintro _ _ ⟨_, ⟨rfl, rfl⟩, rfl⟩
  refine Zy (y_indexR (j := k) (sz := 1) (r := k) rfl (fun _ => rfl) (Zv rfl) (Zv rfl) (fun _ => by omega) (fun _ => by omega) (by omega)) ?_
  refine wl_y (y_load (fun _ => rfl) (Zv rfl)) (sl_cellR Zh (ints_at (l := [65, 66, 67, 68, 69]) hop)) rfl ?_
  refine Zy (y_build rfl rfl (fun _ => rfl) rfl rfl rfl Zb) ?_
  refine wl_t (t_alloc (fun _ => rfl) rfl) rfl ?_
  rintro _ _ ⟨b7, rfl, rfl⟩
  refine wl_t0 (t_storeN (fun _ => rfl) rfl rfl (allT rfl) Za (by exact rfl)) ?_
  rintro _ _ ⟨rfl, rfl⟩
  refine Zn (Zt (Zs (Zs (Zr (Zy (y_field 0 rfl (Zv rfl) Zf) ?_)))))
  refine Zz rfl ?_
  refine Zy (y_eql (Zv rfl) (Zv rfl) rfl) (Zm rfl (Zyn rfl rfl (y_field 0 rfl (Zv rfl) Zf) ?_))
  refine wl_yg (guard_no rfl rfl) (y_load (fun _ => rfl) (ev_g rfl)) (row_cell Zh rfl) rfl ?_
  refine Zyn rfl rfl (y_eql (ev_g rfl) (Zv rfl) rfl) ?_
  refine Zy (y_or (Zv rfl) (pk_no rfl (fun _ => rfl))) (Zn (Zt ?_))
  refine wc_cond _ rfl (fun hc3 => ?_) (fun hc3 => ?_)
  · have hso : SysOp op ((v % 256 : Nat) : Int) := (.inl ⟨by simpa using hc3, by omega, by omega⟩)
    refine Zr (Zm rfl (Zy (y_rem (Zv rfl) (Zv rfl) (by omega) (show _ = ((v % 256 : Nat) : Int) from by rw [Int.tmod_eq_emod_of_nonneg (by omega)]; omega)) ?_))
    refine Zy (y_field 1 rfl (Zv rfl) Zf) ?_
    refine wl_t0 (t_store (fun _ => rfl) rfl rfl rfl Za Zp) ?_
    rintro _ _ ⟨rfl, rfl⟩
    refine Zn (Zt (Zs (Zr (Zy (y_field 4 rfl (Zv rfl) Zf) ?_))))
    refine wl_t0 (t_store (fun _ => rfl) rfl rfl rfl Za Zp) ?_
    rintro _ _ ⟨rfl, rfl⟩
    obtain ⟨q, hq, HC3⟩ := HC2 _ hso
    refine Zn (Zt (Zs (Zs (Zr (wl_loadRow Zh (fun _ => rfl) (fun _ => rfl) (Zv rfl) rfl ?_)))))
    refine wl_loadRow Zh (fun _ => rfl) (fun _ => rfl) (Zv rfl) rfl ?_
    refine wl_t (t_call rfl (fun _ _ => rfl) (fun w hi => HC _ hso _ _ _ _ w (hi.rdSt Zh Zh hbd hbr))) rfl ?_
    rintro _ _ ⟨_, ⟨rfl, rfl⟩, rfl⟩
    refine Zy (y_neq (Zv rfl) (Zv rfl) rfl) (Zn (Zt (wc_cond_f rfl (rfl) ?_)))
    refine Zc (Zt (Zs (Zr (wl_loadRow Zh (fun _ => rfl) (fun _ => rfl) (Zv rfl) rfl ?_))))
    refine wl_loadRow Zh (fun _ => rfl) (fun _ => rfl) (Zv rfl) rfl ?_
    refine wl_t (t_call rfl (fun _ _ => rfl) (fun w hi => HD _ hso _ _ _ _ w (hi.rdSt Zh Zh hbd hbr))) rfl ?_
    rintro _ _ ⟨_, ⟨X, Ap, cp, rfl, rfl⟩, rfl⟩
    refine wl_t (t_alloc (fun _ => rfl) rfl) rfl ?_
    rintro _ _ ⟨b8, rfl, rfl⟩
    refine wl_t0 (t_storeN (fun _ => rfl) rfl rfl (allT rfl) Za (by exact rfl)) ?_
    rintro _ _ ⟨rfl, rfl⟩
    refine Zn (Zt (Zs (Zs (Zr (Zy (y_field 16 rfl (Zv rfl) Zf) ?_)))))
    refine Zz rfl ?_
    refine Zy (y_not (Zv rfl) rfl) (Zm rfl (Zyn rfl rfl (y_field 0 rfl (Zv rfl) Zf) ?_))
    refine Zyn rfl rfl (y_field 10 rfl (ev_g rfl) Zf) ?_
    refine wl_yg (guard_no rfl rfl) (y_load (fun _ => rfl) (ev_g rfl)) (row_cell Zh rfl) rfl ?_
    refine Zyn rfl rfl (y_neq (ev_g rfl) (Zv rfl) rfl) ?_
    refine Zy (y_or (Zv rfl) (pk_no rfl (fun _ => rfl))) (Zm rfl (Zyn rfl rfl (y_field 0 rfl (Zv rfl) Zf) ?_))
    refine Zyn rfl rfl (y_field 5 rfl (ev_g rfl) Zf) ?_
    refine wl_yg (guard_no rfl rfl) (y_load (fun _ => rfl) (ev_g rfl)) (row_cell Zh rfl) rfl ?_
    refine Zyn rfl rfl (y_field 5 rfl (Zv rfl) Zf) ?_
    refine wl_yg (guard_no rfl rfl) (y_load (fun _ => rfl) (ev_g rfl)) (row_cell Zh rfl) rfl ?_
    refine Zyn rfl rfl (y_neqb rfl (ev_g rfl) (ev_g rfl) (bne_self_eq_false pg)) ?_
    refine Zy (y_or (Zv rfl) (pk_no rfl (fun _ => rfl))) (Zm rfl (Zyn rfl rfl (y_field 0 rfl (Zv rfl) Zf) ?_))
    refine Zyn rfl rfl (y_field 7 rfl (ev_g rfl) Zf) ?_
    refine wl_yg (guard_no rfl rfl) (y_load (fun _ => rfl) (ev_g rfl)) (row_cell Zh rfl) rfl ?_
    refine Zyn rfl rfl (y_field 7 rfl (Zv rfl) Zf) ?_
    refine wl_yg (guard_no rfl rfl) (y_load (fun _ => rfl) (ev_g rfl)) (row_cell Zh rfl) rfl ?_
    refine Zyn rfl rfl (y_neq (ev_g rfl) (ev_g rfl) (bne_self_eq_false rt)) ?_
    refine Zy (y_or (Zv rfl) (pk_no rfl (fun _ => rfl))) (Zm rfl (Zyn rfl rfl (y_field 0 rfl (Zv rfl) Zf) ?_))
    refine Zyn rfl rfl (y_field 15 rfl (ev_g rfl) Zf) ?_
    refine wl_yg (guard_no rfl rfl) (y_load (fun _ => rfl) (ev_g rfl)) (row_cell Zh rfl) rfl ?_
    refine Zyn rfl rfl (y_field 15 rfl (Zv rfl) Zf) ?_
    refine wl_yg (guard_no rfl rfl) (y_load (fun _ => rfl) (ev_g rfl)) (row_cell Zh rfl) rfl ?_
    refine Zyn rfl rfl (y_neqb rfl (ev_g rfl) (ev_g rfl) (bne_self_eq_false ha)) ?_
    refine Zy (y_or (Zv rfl) (pk_no rfl (fun _ => rfl))) (Zn (Zt (wc_cond_f rfl (rfl) ?_)))
    refine Zc (Zt (Zs (Zr (Zy (y_field 4 rfl (Zv rfl) Zf) ?_))))
    refine wl_t0 (t_store (fun _ => rfl) rfl rfl rfl Za Zp) ?_
    rintro _ _ ⟨rfl, rfl⟩
    refine Zn (Zt (Zs (Zr (wl_loadRow Zh (fun _ => rfl) (fun _ => rfl) (Zv rfl) rfl ?_))))
    refine wl_loadRow Zh (fun _ => rfl) (fun _ => rfl) (Zv rfl) rfl ?_
    refine wl_t (t_call rfl (fun _ _ => rfl) (fun w hi => HC3 _ _ _ _ w (hi.rdSt Zh Zh hbd hbr))) rfl ?_
    rintro _ _ ⟨_, ⟨rfl, rfl⟩, rfl⟩
    refine Zy (y_neq (Zv rfl) (Zv rfl) hq) ?_
    refine Zm rfl (wl_tg (guard_yes rfl rfl) rfl (t_call rfl (fun _ _ => rfl) (fun w hi => known_ok w)) rfl ?_)
    rintro _ _ ⟨_, ⟨rfl, rfl⟩, rfl⟩
    refine Zy (y_and (Zv rfl) (pk_yes rfl (fun _ => rfl))) (Zg rfl (Zn (Zt (Ze (ret1 (cs' := []) (.inl rfl) Zu rfl rfl ?_)))))
    exact ⟨rfl, rfl⟩
  have hso : SysOp op 0 := (.inr ⟨by simp at hc3; omega, rfl⟩)
  refine Zc (Zt (Zs (Zr (Zy (y_field 4 rfl (Zv rfl) Zf) ?_))))
  refine wl_t0 (t_store (fun _ => rfl) rfl rfl rfl Za Zp) ?_
  rintro _ _ ⟨rfl, rfl⟩
  obtain ⟨q, hq, HC3⟩ := HC2 _ hso
  refine Zn (Zt (Zs (Zs (Zr (wl_loadRow Zh (fun _ => rfl) (fun _ => rfl) (Zv rfl) rfl ?_)))))
  refine wl_loadRow Zh (fun _ => rfl) (fun _ => rfl) (Zv rfl) rfl ?_
  refine wl_t (t_call rfl (fun _ _ => rfl) (fun w hi => HC _ hso _ _ _ _ w (hi.rdSt Zh Zh hbd hbr))) rfl ?_
  rintro _ _ ⟨_, ⟨rfl, rfl⟩, rfl⟩
  refine Zy (y_neq (Zv rfl) (Zv rfl) rfl) (Zn (Zt (wc_cond_f rfl (rfl) ?_)))
  refine Zc (Zt (Zs (Zr (wl_loadRow Zh (fun _ => rfl) (fun _ => rfl) (Zv rfl) rfl ?_))))
  refine wl_loadRow Zh (fun _ => rfl) (fun _ => rfl) (Zv rfl) rfl ?_
  refine wl_t (t_call rfl (fun _ _ => rfl) (fun w hi => HD _ hso _ _ _ _ w (hi.rdSt Zh Zh hbd hbr))) rfl ?_
  rintro _ _ ⟨_, ⟨X, Ap, cp, rfl, rfl⟩, rfl⟩
  refine wl_t (t_alloc (fun _ => rfl) rfl) rfl ?_
  rintro _ _ ⟨b8, rfl, rfl⟩
  refine wl_t0 (t_storeN (fun _ => rfl) rfl rfl (allT rfl) Za (by exact rfl)) ?_
  rintro _ _ ⟨rfl, rfl⟩
  refine Zn (Zt (Zs (Zs (Zr (Zy (y_field 16 rfl (Zv rfl) Zf) ?_)))))
  refine Zz rfl ?_
  refine Zy (y_not (Zv rfl) rfl) (Zm rfl (Zyn rfl rfl (y_field 0 rfl (Zv rfl) Zf) ?_))
  refine Zyn rfl rfl (y_field 10 rfl (ev_g rfl) Zf) ?_
  refine wl_yg (guard_no rfl rfl) (y_load (fun _ => rfl) (ev_g rfl)) (row_cell Zh rfl) rfl ?_
  refine Zyn rfl rfl (y_neq (ev_g rfl) (Zv rfl) rfl) ?_
  refine Zy (y_or (Zv rfl) (pk_no rfl (fun _ => rfl))) (Zm rfl (Zyn rfl rfl (y_field 0 rfl (Zv rfl) Zf) ?_))
  refine Zyn rfl rfl (y_field 5 rfl (ev_g rfl) Zf) ?_
  refine wl_yg (guard_no rfl rfl) (y_load (fun _ => rfl) (ev_g rfl)) (row_cell Zh rfl) rfl ?_
  refine Zyn rfl rfl (y_field 5 rfl (Zv rfl) Zf) ?_
  refine wl_yg (guard_no rfl rfl) (y_load (fun _ => rfl) (ev_g rfl)) (row_cell Zh rfl) rfl ?_
  refine Zyn rfl rfl (y_neqb rfl (ev_g rfl) (ev_g rfl) (bne_self_eq_false pg)) ?_
  refine Zy (y_or (Zv rfl) (pk_no rfl (fun _ => rfl))) (Zm rfl (Zyn rfl rfl (y_field 0 rfl (Zv rfl) Zf) ?_))
  refine Zyn rfl rfl (y_field 7 rfl (ev_g rfl) Zf) ?_
  refine wl_yg (guard_no rfl rfl) (y_load (fun _ => rfl) (ev_g rfl)) (row_cell Zh rfl) rfl ?_
  refine Zyn rfl rfl (y_field 7 rfl (Zv rfl) Zf) ?_
  refine wl_yg (guard_no rfl rfl) (y_load (fun _ => rfl) (ev_g rfl)) (row_cell Zh rfl) rfl ?_
  refine Zyn rfl rfl (y_neq (ev_g rfl) (ev_g rfl) (bne_self_eq_false rt)) ?_
  refine Zy (y_or (Zv rfl) (pk_no rfl (fun _ => rfl))) (Zm rfl (Zyn rfl rfl (y_field 0 rfl (Zv rfl) Zf) ?_))
  refine Zyn rfl rfl (y_field 15 rfl (ev_g rfl) Zf) ?_
  refine wl_yg (guard_no rfl rfl) (y_load (fun _ => rfl) (ev_g rfl)) (row_cell Zh rfl) rfl ?_
  refine Zyn rfl rfl (y_field 15 rfl (Zv rfl) Zf) ?_
  refine wl_yg (guard_no rfl rfl) (y_load (fun _ => rfl) (ev_g rfl)) (row_cell Zh rfl) rfl ?_
  refine Zyn rfl rfl (y_neqb rfl (ev_g rfl) (ev_g rfl) (bne_self_eq_false ha)) ?_
  refine Zy (y_or (Zv rfl) (pk_no rfl (fun _ => rfl))) (Zn (Zt (wc_cond_f rfl (rfl) ?_)))
  refine Zc (Zt (Zs (Zr (Zy (y_field 4 rfl (Zv rfl) Zf) ?_))))
  refine wl_t0 (t_store (fun _ => rfl) rfl rfl rfl Za Zp) ?_
  rintro _ _ ⟨rfl, rfl⟩
  refine Zn (Zt (Zs (Zr (wl_loadRow Zh (fun _ => rfl) (fun _ => rfl) (Zv rfl) rfl ?_))))
  refine wl_loadRow Zh (fun _ => rfl) (fun _ => rfl) (Zv rfl) rfl ?_
  refine wl_t (t_call rfl (fun _ _ => rfl) (fun w hi => HC3 _ _ _ _ w (hi.rdSt Zh Zh hbd hbr))) rfl ?_
  rintro _ _ ⟨_, ⟨rfl, rfl⟩, rfl⟩
  refine Zy (y_neq (Zv rfl) (Zv rfl) hq) ?_
  refine Zm rfl (wl_tg (guard_yes rfl rfl) rfl (t_call rfl (fun _ _ => rfl) (fun w hi => known_ok w)) rfl ?_)
  rintro _ _ ⟨_, ⟨rfl, rfl⟩, rfl⟩
  refine Zy (y_and (Zv rfl) (pk_yes rfl (fun _ => rfl))) (Zg rfl (Zn (Zt (Ze (ret1 (cs' := []) (.inl rfl) Zu rfl rfl ?_)))))
  exact ⟨rfl, rfl⟩
end Go.Proofs.YtobjiljkfmcalaaGreat
