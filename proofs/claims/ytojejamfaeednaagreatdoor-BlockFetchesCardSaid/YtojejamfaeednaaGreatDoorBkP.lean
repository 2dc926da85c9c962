/- What is fetched is what lies there; the law BlockFetches. -/
import Derived.Test.YtojejamfaeednaaGreatDoorBkL
import Derived.Test.YtojejamfaeednaaGreatDoorInkA
import Derived.Test.YtojejamfaeednaaGreatDoorInkC
set_option linter.unusedSimpArgs false
set_option linter.unusedVariables false
set_option maxRecDepth 100000
namespace Go.Ink
open Go.RowKit
theorem wrap8_eq (x : Int) : IntKind.u8.wrap x = x % 256 := by simp [IntKind.wrap, IntKind.bits, IntKind.signed]
theorem encB_eq {n : Int} (hn : 0 ≤ n) : encB n 0 = n % 256 ∧ encB n 1 = n / 256 % 256 ∧ encB n 2 = n / 65536 % 256 ∧ encB n 3 = n / 16777216 % 256 := by
 refine ⟨?_, ?_, ?_, ?_⟩ <;> unfold encB <;> rw [wrap8_eq]
 ·rw [show (2 : Int) ^ (min (Int.toNat ((8 * 0 : Nat) : Int)) IntKind.u32.bits) = 1 from rfl, Int.fdiv_eq_ediv_of_nonneg _ (by decide), Int.ediv_one]
 ·rw [show (2 : Int) ^ (min (Int.toNat ((8 * 1 : Nat) : Int)) IntKind.u32.bits) = 256 from rfl, Int.fdiv_eq_ediv_of_nonneg _ (by decide)]
 ·rw [show (2 : Int) ^ (min (Int.toNat ((8 * 2 : Nat) : Int)) IntKind.u32.bits) = 65536 from rfl, Int.fdiv_eq_ediv_of_nonneg _ (by decide)]
 rw [show (2 : Int) ^ (min (Int.toNat ((8 * 3 : Nat) : Int)) IntKind.u32.bits) = 16777216 from rfl, Int.fdiv_eq_ediv_of_nonneg _ (by decide)]
theorem enc_dec {b : List Int} (hb : u8s b) {op nn : Int} {z : Nat} (h : decodeOf b = some ((op, nn), z)) : encOf op nn = b.take z := by
 cases b with
 | nil => cases h
 | cons o l =>
  have hc : opSize o = 0 ∨ opSize o = 1 ∨ opSize o = 2 ∨ opSize o = 5 := opSize_cases o
  unfold decodeOf at h
  cases h1 : (opSize o == 0) with
  | true => simp only [h1, cond_true] at h; cases h
  | false =>
   simp only [h1, cond_false] at h
   cases h2 : decide ((l.length : Int) + 1 < opSize o) with
   | true => simp only [h2, cond_true] at h; cases h
   | false =>
    simp only [h2, cond_false, Option.some.injEq, Prod.mk.injEq] at h
    obtain ⟨⟨rfl, rfl⟩, rfl⟩ := h
    have h1 := ne_of_beq_false h1
    simp only [decide_eq_false_iff_not] at h2
    have ho := hb o (List.mem_cons_self ..)
    have hw : IntKind.u8.wrap o = o := by rw [wrap8_eq]; omega
    have hl : ∀ x, x ∈ l → 0 ≤ x ∧ x ≤ 255 := fun x hx => hb x (List.mem_cons_of_mem _ hx)
    unfold encOf encTo
    rw [hw]
    rcases hc with e | e | e | e
    ·exact absurd e h1
    ·rw [e]; rfl
    ·rw [e] at h2 ⊢
     match l, hl, h2 with
     | [], _, h2 => exact absurd (by simp) h2
     | a :: l, hl, _ =>
      obtain ⟨a0, a1⟩ := hl a (by simp)
      have e0 := (encB_eq (n := a + 256 * 0) (by omega)).1
      show [o, encB (a + 256 * 0) 0] = [o, a]
      rw [e0, show (a + 256 * 0) % 256 = a by omega]
    rw [e] at h2 ⊢
    match l, hl, h2 with
    | [], _, h2 => exact absurd (by simp) h2
    | [_], _, h2 => exact absurd (by simp) h2
    | [_, _], _, h2 => exact absurd (by simp) h2
    | [_, _, _], _, h2 => exact absurd (by simp) h2
    | a :: b :: c :: d :: l, hl, _ =>
     obtain ⟨a0, a1⟩ := hl a (by simp)
     obtain ⟨b0, b1⟩ := hl b (by simp)
     obtain ⟨c0, c1⟩ := hl c (by simp)
     obtain ⟨d0, d1⟩ := hl d (by simp)
     obtain ⟨e0, e1, e2, e3⟩ := encB_eq (n := a + 256 * (b + 256 * (c + 256 * (d + 256 * 0)))) (by omega)
     show [o, encB (a + 256 * (b + 256 * (c + 256 * (d + 256 * 0)))) 0, encB (a + 256 * (b + 256 * (c + 256 * (d + 256 * 0)))) 1, encB (a + 256 * (b + 256 * (c + 256 * (d + 256 * 0)))) 2, encB (a + 256 * (b + 256 * (c + 256 * (d + 256 * 0)))) 3] = [o, a, b, c, d]
     rw [e0, e1, e2, e3]
     congr 1
     congr 1
     ·omega
     congr 1
     ·omega
     congr 1
     ·omega
     congr 1
     omega
theorem code_one (op nn : Int) : codeOf [(op, nn)] = encOf op nn := by simp [codeOf, codeTo]
theorem fetch_code {n : Nat} {M : Mem} (hM : M.ok n) {p : Nat} {op nn : Int} {z : Nat} (h : fetchOf n M p = some ((op, nn), z)) : (encOf op nn).length = z ∧ ∀ j, j < z → (encOf op nn)[j]? = some (gB M.data (p + j)) := by
 obtain ⟨-, z1, z5, hpn, hpz⟩ := fetchOf_rng hM h
 have hdl := hM.dl
 unfold fetchOf at h
 rw [decide_eq_true hpn, cond_true] at h
 rw [enc_dec (fun x hx => hM.db x (List.mem_of_mem_drop (List.mem_of_mem_take (List.mem_of_mem_drop hx)))) h]
 refine ⟨by rw [List.length_take, List.length_drop, List.length_take, List.length_drop]; omega, fun j hj => ?_⟩
 rw [List.getElem?_take_of_lt hj, List.getElem?_drop, List.getElem?_take_of_lt (by omega), List.getElem?_drop, show p / 64 * 64 + (p % 64 + j) = p + j by omega]
 exact gB_at (by omega)
end Go.Ink
namespace Go.Proofs.YtojejamfaeednaaGreatDoor
open Go.RowKit Go.Ink
attribute [local irreducible] OpY GuardIs

theorem ins_eq : EqV Tryz.prog 10000 48 (.agg #[.int .i64 0, .int .u32 0]) (.agg #[.int .i64 0, .int .u32 0]) :=
 .struct rfl Zk (EqF.cons (by decide) (fun _ => rfl) (fun _ => rfl) (.int rfl) (EqF.cons (by decide) (fun _ => rfl) (fun _ => rfl) (.int rfl) EqF.nil))
theorem ins_guard : Tryz.prog.eqGuardType Tryz.prog.depth 48 = false := by kernel_rfl
set_option maxHeartbeats 4000000 in
theorem blockFetches_ok (A : Option Addr) (c : Nat) (l : List Int) (v : Int) (hb : u8s l) (hv : u32 v) (w : World) (h : Rd w .u8 A l.length c l) (ht : TabOk w) :
  Ctr Tryz.prog 8 [.slice A l.length c, .int .u32 v] w [] (fun v cs => v = .bool true ∧ cs = []) := by
 obtain ⟨hv0, hv1⟩ := hv
 have HCut := fun w => cut_ok A c l 192 w h.cap
 have h6 := rd_take h 192
 have hl6 : (l.take 192).length ≤ 192 := by rw [List.length_take]; omega
 have hb6 : u8s (l.take 192) := fun x hx => hb x (List.mem_of_mem_take hx)
 obtain ⟨bb, hbb⟩ : ∃ b, l.take 192 = b := ⟨_, rfl⟩
 rw [hbb] at HCut h6 hl6 hb6
 have HF := fun w h => fresh18_ok A none c 0 3 bb [] (by decide) (by decide) (by omega) hb6 (by decide) w h (rdNil w .u8)
 have hM0 := init_ok (n := 3) (b := bb) (by omega) hb6
 obtain ⟨p, hp2⟩ : ∃ m : Nat, v % 200 = m := ⟨(v % 200).toNat, by omega⟩
 have hp3 : p < 200 := by omega
 unfold fr18 at HF
 obtain ⟨data, hda⟩ : ∃ d, refData 3 bb = d := ⟨_, rfl⟩
 obtain ⟨tu, htu⟩ : ∃ d, List.replicate 3 false = d := ⟨_, rfl⟩
 obtain ⟨M, hM⟩ : ∃ M, Mem.init 3 bb = M := ⟨_, rfl⟩
 obtain ⟨d0, hd⟩ : ∃ d, Dev.init [] = d := ⟨_, rfl⟩
 obtain ⟨T0, hTT⟩ : ∃ T, tflush = T := ⟨_, rfl⟩
 rw [hda, htu, hM, hd, hTT] at HF
 rw [hM] at hM0
 obtain ⟨o, ho⟩ : ∃ o, fetchOf 3 M p = o := ⟨_, rfl⟩
 refine fn_ctr Tryz.func8 rfl Tryz.ntmps8 rfl (Inv.start w) ?_
 refine Zs (Zr (ZA ?_))
 refine Zn (Zt (Zs (Zr (ZA ?_))))
 refine ZS (fun w hi => HCut w) ?_
 rintro _ _ ⟨_, ⟨rfl, rfl⟩, rfl⟩
 refine ZA ?_
 refine ZS (fun w hi => HF w (h6.oldN hi)) ?_
 rintro _ _ ⟨_, ⟨F, hF, rfl, rfl⟩, rfl⟩
 have HFt := fun w hu h => fetch_ok F.bu F.bb F.L M p (by omega) w hu h
 rw [hF, ho] at HFt
 refine ZA ?_
 refine Zn (Zt (Zs (Zs (Zr (ZA ?_)))))
 refine ZA ?_
 refine Zn (Zt (wc_cond_f rfl (rfl) ?_))
 refine Zc (Zt (Zs (Zr (ZA ?_))))
 refine Zy (y_rem (Zv rfl) (Zv rfl) (by omega) (show _ = ((p : Nat) : Int) from by rw [Int.tmod_eq_emod_of_nonneg (by omega)]; exact hp2)) ?_
 refine ZA ?_
 refine Zn (Zt (Zs (Zr (ZA ?_))))
 refine ZA ?_
 refine ZFa 0 ?_
 refine ZC ?_
 refine ZA ?_
 refine ZS (fun w hi => HFt w (hi.get Zh) (hi.get Zh)) ?_
 rintro _ _ ⟨_, ⟨rfl, rfl⟩, rfl⟩
 iterate 4 refine ZA ?_
 refine ZN fun b7 => ?_
 refine ZM ?_
 iterate 2 refine ZA ?_
 refine Zn (Zt (Zs (Zs (Zr (ZA ?_)))))
 refine ZA ?_
 refine Zn (Zt ?_)
 refine wc_cond _ rfl (fun hc6 => ?_) (fun hc6 => ?_)
 ·obtain rfl : o = none := (by cases o with | none => rfl | some q => cases hc6)
  refine Zs (Zr (ZA ?_))
  iterate 2 refine ZA ?_
  refine wl_loadRowg (guard_yes rfl rfl) Zh (fun _ => rfl) (fun _ => rfl) (Zv rfl) rfl ?_
  refine ZB ?_
  refine Zyy rfl rfl (y_eqlT ins_guard ins_eq (ev_g rfl) (ev_g rfl)) ?_
  iterate 2 refine ZA ?_
  refine wl_tg (guard_yes rfl rfl) rfl (t_call rfl (fun _ _ => rfl) (fun w hi => known18_ok w (ht.old hi))) rfl ?_
  rintro _ _ ⟨_, ⟨rfl, rfl⟩, rfl⟩
  iterate 2 refine ZA ?_
  refine Zn (Zt (Ze (Zw (ret1 (cs' := []) (.inl rfl) Zu rfl rfl ?_))))
  exact ⟨rfl, rfl⟩
 obtain ⟨⟨⟨op, nn⟩, z⟩, rfl⟩ : ∃ q, o = some q := (by cases o with | none => cases hc6 | some q => exact ⟨q, rfl⟩)
 obtain ⟨hnn, z1, z5, hpn, hpz⟩ := fetchOf_rng hM0 ho
 obtain ⟨fc1, fc2⟩ := fetch_code hM0 ho
 have HC := fun A c w h => code_ok A c [(op, nn)] (by simp) w h
 rw [code_one, fc1] at HC
 obtain ⟨E, hE⟩ : ∃ e, encOf op nn = e := ⟨_, rfl⟩
 rw [hE] at HC fc1 fc2
 refine Zc (Zt (Zs (Zr (ZA ?_))))
 refine ZA ?_
 refine Zy (y_conv rfl rfl (Zv rfl) (show IntKind.u32.wrap ((z : Nat) : Int) = ((z : Nat) : Int) from u32_wrap_id _ (by omega) (by omega))) ?_
 refine Zy (y_add (Zv rfl) (Zv rfl) (show _ = ((p + z : Nat) : Int) from by rw [u32_wrap_id _ (by omega) (by omega)]; omega)) ?_
 refine ZA ?_
 refine Zn (Zt (Zs (Zs (Zr (ZA ?_)))))
 refine Zy (y_geq (Zv rfl) (Zv rfl) (show _ = false from decide_eq_false (by omega))) ?_
 refine ZA ?_
 refine ZB ?_
 refine Zyn rfl rfl (y_lss (ev_g rfl) (Zv rfl) (show decide (((z : Nat) : Int) < 1) = false from decide_eq_false (by omega))) ?_
 iterate 2 refine ZA ?_
 refine ZB ?_
 refine Zyn rfl rfl (y_sub (ev_g rfl) (Zv rfl) (show _ = ((p + z - 1 : Nat) : Int) from by rw [u32_wrap_id _ (by omega) (by omega)]; omega)) ?_
 refine Zyn rfl rfl (y_quo (ev_g rfl) (Zv rfl) (by omega) (show _ = ((p / 64 : Nat) : Int) from by rw [Int.tdiv_eq_ediv_of_nonneg (by omega), u32_wrap_id _ (by omega) (by omega)]; omega)) ?_
 refine ZB ?_
 refine Zyn rfl rfl (y_quo (ev_g rfl) (Zv rfl) (by omega) (show _ = ((p / 64 : Nat) : Int) from by rw [Int.tdiv_eq_ediv_of_nonneg (by omega), u32_wrap_id _ (by omega) (by omega)]; omega)) ?_
 refine Zyn rfl rfl (y_neq (ev_g rfl) (ev_g rfl) (bne_self_eq_false _)) ?_
 refine ZA ?_
 refine Zn (Zt (wc_cond_f rfl (rfl) ?_))
 refine Zc (Zt (Zs (Zr (wl_loadRow Zh (fun _ => rfl) (fun _ => rfl) (Zv rfl) rfl ?_))))
 refine wl_t (t_buildSl rfl rfl (fun _ => rfl) (fun _ => rfl) rfl rfl rfl) rfl ?_
 rintro _ _ ⟨b64, rfl, rfl⟩
 refine ZS (fun w hi => HC (some ⟨b64, 0, none⟩) 1 w (hi.rd (show Has _ (slv 48 2 (some ⟨b64, 0, none⟩) 1 1 ([(op, nn)].flatMap insCells)) from Zh))) ?_
 rintro _ _ ⟨_, ⟨A4, c4, rfl, rfl⟩, rfl⟩
 refine ZA ?_
 refine Zn (Zt (Zs (Zs (Zr (wl_pick (w18Row F St.new :: sl .u8 5 A4 z c4 E :: ubF F.bu F.bb F.L F.D ⟨none, 0, none, 0⟩ ⟨M, T0⟩ d0) Zj ?_)))))
 refine ZA ?_
 refine Zn (Zt (Zx ?_))
 refine wc_loop (fun k : Nat => [(5, .pointer (some ⟨F.bw, 0, none⟩)), (6, .int .u32 (p : Int)), (8, .int .i64 (z : Int)), (11, .slice A4 z c4), (12, .int .i64 (k : Int))]) (fun k => w18Row F St.new :: sl .u8 5 A4 z c4 E :: ubF F.bu F.bb F.L F.D ⟨none, 0, none, 0⟩ ⟨M, T0⟩ d0) (fun k => k ≤ z) (fun k => z - k) (0) ?_ ?_ ?_ ?_
 ·exact Nat.zero_le _
 ·exact Zwk
 ·((repeat (first | exact List.Sublist.slnil | refine List.Sublist.cons_cons _ ?_ | refine List.Sublist.cons _ ?_)))
 rintro k hk
 refine wc_fact (fun w hi => slv_some (hi.get (show Has _ (sl .u8 5 A4 z c4 E) from Zh)) (by omega)) (fun hA => ?_)
 obtain ⟨ad, rfl⟩ := hA
 refine Zs (Zs (Zr (ZA ?_)))
 iterate 3 refine ZA ?_
 refine Zn (Zt ?_)
 refine wc_cond _ rfl (fun hc13 => ?_) (fun hc13 => ?_)
 ·simp only [decide_eq_true_eq] at hc13
  have hkz : k < z := (by omega)
  have hEk := fc2 k hkz
  refine Zc (Zt (Zs (Zx (Zs (Zr (ZA ?_))))))
  refine ZA ?_
  refine ZFa 2 ?_
  refine ZC ?_
  iterate 2 refine ZA ?_
  refine Zy (y_conv rfl rfl (Zv rfl) (show _ = ((k : Nat) : Int) from u32_wrap_id _ (by omega) (by omega))) ?_
  refine Zy (y_add (Zv rfl) (Zv rfl) (show _ = ((p + k : Nat) : Int) from by rw [u32_wrap_id _ (by omega) (by omega)]; omega)) ?_
  refine ZS (fun w hi => rbyte_ok F.L M (p + k) (by omega) w (hi.get Zh)) ?_
  rintro _ _ ⟨_, ⟨rfl, rfl⟩, rfl⟩
  iterate 5 refine ZA ?_
  refine Zn (Zt (Zs (Zr (ZA ?_))))
  iterate 2 refine ZA ?_
  iterate 3 refine ZB ?_
  refine Zyn rfl rfl (y_indexR (j := k) (sz := 1) (r := k) rfl (fun _ => rfl) (ev_g rfl) (ev_g rfl) (fun _ => by omega) (fun _ => by omega) (by omega)) ?_
  refine wl_yg (guard_no rfl rfl) (y_load (fun _ => rfl) (ev_g rfl)) (sl_cellR Zh (ints_at (l := E) (j := k) hEk)) rfl ?_
  refine Zyn rfl rfl (y_neq (ev_g rfl) (ev_g rfl) (bne_self_eq_false _)) ?_
  refine ZA ?_
  refine Zn (Zt (wc_cond_f rfl (rfl) ?_))
  refine Zc (Zo (Zt (Zr (ZA ?_))))
  refine Zy (y_add (Zv rfl) (Zv rfl) Zl) ?_
  refine ZA ?_
  refine Zn ?_
  refine q_mid (k + 1) ?_ ?_ ?_
  ·exact ⟨show k + 1 ≤ z by omega, show z - (k + 1) < z - k by omega⟩
  ·exact Zwk
  ((repeat (first | exact List.Sublist.slnil | refine List.Sublist.cons_cons _ ?_ | refine List.Sublist.cons _ ?_)))
 simp only [decide_eq_false_iff_not] at hc13
 refine wc_exit ?_
 refine q_then_exit ?_
 refine q_then_exit ?_
 refine q_block_same rfl ?_
 refine Zt (Zs (Zr (ZA ?_)))
 iterate 2 refine ZA ?_
 refine Zy (y_eql (Zv rfl) (Zv rfl) (beq_self_eq_true _)) ?_
 refine ZA ?_
 refine wl_tg (guard_yes rfl rfl) rfl (t_call rfl (fun _ _ => rfl) (fun w hi => known18_ok w (ht.old hi))) rfl ?_
 rintro _ _ ⟨_, ⟨rfl, rfl⟩, rfl⟩
 iterate 2 refine ZA ?_
 refine Zn (Zt (Ze (ret1 (cs' := []) (.inl rfl) Zu rfl rfl ?_)))
 exact ⟨rfl, rfl⟩
end Go.Proofs.YtojejamfaeednaaGreatDoor
