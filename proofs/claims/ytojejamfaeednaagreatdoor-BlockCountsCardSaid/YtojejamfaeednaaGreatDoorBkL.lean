/- Some of the runs; the law BlockEnds. -/
import Derived.Test.YtojejamfaeednaaGreatDoorBkK
import Derived.Test.YtojejamfaeednaaGreatDoorInkA
set_option linter.unusedSimpArgs false
set_option linter.unusedVariables false
set_option maxRecDepth 100000
namespace Go.Ink
open Go.RowKit
theorem known_fin {s : St} {U : Mmu} {d : Dev} (h : runTo 1 9 St.new ⟨Mem.init 1 [1, 1, 69], tflush⟩ (Dev.init []) = (s, U, d)) : s.halted = true ∧ s.count = 2 ∧ s.d = [1] := by
 have h1 := known_run
 rw [h] at h1
 simpa [knownSay, and_assoc] using h1
def hasTo (l : List Int) (x : Int) (k : Nat) : Bool := (l.take k).any (· == x)
theorem hasTo_succ {l : List Int} {x y : Int} {k : Nat} (h : l[k]? = some y) : hasTo l x (k + 1) = (hasTo l x k || (y == x)) := by
 unfold hasTo
 rw [List.take_add_one, h]
 simp
theorem hasTo_all (l : List Int) (x : Int) : hasTo l x l.length = l.contains x := by
 unfold hasTo
 rw [List.take_length]
 induction l with
 | nil => rfl
 | cons y l ih =>
  rw [List.any_cons, List.contains_cons, ih]
  congr 1
  by_cases h : y = x
  ·rw [h]
  rw [beq_eq_false_iff_ne.2 h, beq_eq_false_iff_ne.2 (Ne.symm h)]
def wantOf (op : Int) (tr dv has ha : Bool) (was now : Int) : Bool := ((((((!(decide (32 ≤ op) && decide (op ≤ 40))) && !(decide (64 ≤ op))) && !tr) && !dv) && !has) && !ha) && (was / 64 == now / 64)
theorem opList_le : ∀ x, x ∈ opList → x ≤ 69 := by decide
theorem want_next {op : Int} (ho : op ∈ opList) (r : Res) (page was : Int) : (nextOf op r page was == wantOf op r.trapped r.device (r.pages.contains page) r.s.halted was r.s.pc) = true := by
 have h69 := opList_le op ho
 unfold nextOf wantOf endsOp
 have e : decide (op ≤ 69) = true := decide_eq_true h69
 rw [e, Bool.and_true]
 have e2 : (r.s.pc / 64 == was / 64) = (was / 64 == r.s.pc / 64) := by
  by_cases h : r.s.pc / 64 = was / 64
  ·rw [h]
  rw [beq_eq_false_iff_ne.2 h, beq_eq_false_iff_ne.2 (Ne.symm h)]
 rw [e2]
 cases (decide (32 ≤ op) && decide (op ≤ 40)) <;> cases decide (64 ≤ op) <;> cases r.trapped <;> cases r.device <;> cases r.s.halted <;> cases r.pages.contains page <;> simp
end Go.Ink
namespace Go.Proofs.YtojejamfaeednaaGreatDoor
open Go.RowKit Go.Ink
attribute [local irreducible] OpY GuardIs

set_option maxHeartbeats 2000000 in
theorem known18_ok (w : World) (ht : TabOk w) : Ctr Tryz.prog 21 [] w [] (fun v cs => v = .bool true ∧ cs = []) := by
 have HC := fun A c w h => code_ok A c [(1, 1), (69, 0)] (by decide) w h
 have hb : u8s [1, 1, 69] := by rw [← known_code]; exact codeTo_u8 _ _
 rw [known_code] at HC
 have HF := fun A c w h => fresh18_ok A none c 0 1 [1, 1, 69] [] (by decide) (by decide) (by decide) hb (by decide) w h (rdNil w .u8)
 have hG := fresh_gok (n := 1) (l := [1, 1, 69]) (k := []) (by decide) hb (by decide) (fun x hx => by cases hx)
 obtain ⟨⟨s9, U9, d9⟩, hR⟩ : ∃ q, runTo 1 9 St.new ⟨Mem.init 1 [1, 1, 69], tflush⟩ (Dev.init []) = q := ⟨_, rfl⟩
 obtain ⟨k1, k2, k3⟩ := known_fin hR
 have ho : (Dev.init []).out.length ≤ 0 := Nat.le_refl _
 unfold fr18 at HF
 obtain ⟨data, hda⟩ : ∃ d, refData 1 [1, 1, 69] = d := ⟨_, rfl⟩
 obtain ⟨tu, htu⟩ : ∃ d, List.replicate 1 false = d := ⟨_, rfl⟩
 obtain ⟨M, hM⟩ : ∃ M, Mem.init 1 [1, 1, 69] = M := ⟨_, rfl⟩
 obtain ⟨d0, hd⟩ : ∃ d, Dev.init [] = d := ⟨_, rfl⟩
 obtain ⟨T0, hTT⟩ : ∃ T, tflush = T := ⟨_, rfl⟩
 rw [hda, htu, hM, hd, hTT] at HF
 rw [hM, hd, hTT] at hG hR
 rw [hd] at ho
 obtain ⟨pc', dd, r', fl', su', pg', ie', rt', ve', ep', ca', ad', es', ei', co', ha'⟩ := s9
 dsimp only at k1 k2 k3
 subst k1 k2 k3
 refine fn_ctr Tryz.func21 rfl Tryz.ntmps21 rfl (Inv.start w) ?_
 refine Zs (Zr (ZA ?_))
 refine Zn (Zt (Zs (Zr (ZA ?_))))
 refine ZA ?_
 refine wl_t (t_buildSl rfl rfl (fun _ => rfl) (fun _ => rfl) rfl rfl rfl) rfl ?_
 rintro _ _ ⟨b5, rfl, rfl⟩
 refine ZS (fun w hi => HC (some ⟨b5, 0, none⟩) 2 w (hi.rd (show Has _ (slv 48 2 (some ⟨b5, 0, none⟩) 2 2 ([((1 : Int), (1 : Int)), (69, 0)].flatMap insCells)) from Zh))) ?_
 rintro _ _ ⟨_, ⟨A1, c1, rfl, rfl⟩, rfl⟩
 refine ZA ?_
 refine ZS (fun w hi => HF A1 c1 w (hi.rd (show Has _ (sl .u8 5 A1 3 c1 [1, 1, 69]) from Zh))) ?_
 rintro _ _ ⟨_, ⟨F, hF, rfl, rfl⟩, rfl⟩
 have HR := fun w hi h ht => run_ok F.bu F.bb F.L F.D ⟨none, 0, none, 0⟩ St.new none none 0 0 ⟨M, T0⟩ d0 (hF ▸ hG) 9 (by decide) (by decide) (by rw [show (9 : Int).toNat = 9 from rfl]; omega) w hi h ht
 rw [hF, hR] at HR
 refine ZA ?_
 refine Zn (Zt (Zs (Zs (Zr (ZA ?_)))))
 refine ZA ?_
 refine Zn (Zt (wc_cond_f rfl (rfl) ?_))
 refine Zc (Zt ?_)
 refine wc_seq_mid (fun q : (Option Addr × Nat) × (Option Addr × Nat) × Nat => [(2, .pointer (some ⟨q.2.2, 0, none⟩))]) (fun q => [row q.2.2 (St.cells ⟨pc', [1], r', fl', su', pg', ie', rt', ve', ep', ca', ad', es', ei', 2, true⟩ (.slice q.1.1 1 q.1.2) (.slice q.2.1.1 r'.length q.2.1.2)) 36, sl .u32 32 q.1.1 1 q.1.2 [1]]) (fun _ => True) ?_ ?_
 ·refine wc_draw ⟨fun j => List.elem j [12, 14], []⟩ Zk ?_
  refine ZE 0 ?_
  refine ZE 1 ?_
  refine ZFe 2 3 ?_
  refine wa_ln 3 rfl Zk Zk Zk Zk (y_loadN (vs := St.new.cells (.slice none 0 0) (.slice none 0 0)) (fun _ => rfl) (fun _ => rfl) (Zv rfl)) (row_cells Zh rfl) rfl ?_
  refine ZE 4 ?_
  refine ZE 5 ?_
  refine ZFe 6 0 ?_
  refine ZG 7 ?_
  refine ZE 8 ?_
  refine ZE 9 ?_
  refine ZFe 10 1 ?_
  refine ZG 11 ?_
  refine wa_2 12 13 Zk ?_ ?_
  ·refine wi_t rfl rfl (t_callS (ubF F.bu F.bb F.L F.D ⟨none, 0, none, 0⟩ ⟨M, T0⟩ d0) rfl (fun _ _ => rfl) Zi (fun w hi hin => HR w hin (fun w' hk => RdSt.nil_ w' rfl rfl) (fun w' hk => RdV.oldKs ht hi Zi hk))) (fun _ _ _ _ _ _ _ h => by cases h) rfl ?_
   rintro _ _ ⟨_, ⟨X1, Y1, rfl, rfl⟩, rfl⟩
   refine wa_1 13 Zk ?_
   refine ZP fun b2 => ?_
   refine wa_1 14 Zk ?_
   refine ZR ?_
   refine wa_done Zk ?_
   refine q_midP ((⟨⟨X1.Ad, X1.cd⟩, ⟨X1.Ar, X1.cr⟩, b2⟩ : (Option Addr × Nat) × (Option Addr × Nat) × Nat)) ?_ ?_ ?_
   ·trivial
   ·exact Zwk
   exact Zj
  refine ZP fun b2 => ?_
  refine wa_1 12 Zk ?_
  refine wi_t rfl rfl (t_callS (ubF F.bu F.bb F.L F.D ⟨none, 0, none, 0⟩ ⟨M, T0⟩ d0) rfl (fun _ _ => rfl) Zi (fun w hi hin => HR w hin (fun w' hk => RdSt.nil_ w' rfl rfl) (fun w' hk => RdV.oldKs ht hi Zi hk))) (fun _ _ _ _ _ _ _ h => by cases h) rfl ?_
  rintro _ _ ⟨_, ⟨X1, Y1, rfl, rfl⟩, rfl⟩
  refine wa_1 14 Zk ?_
  refine ZR ?_
  refine wa_done Zk ?_
  refine q_midP ((⟨⟨X1.Ad, X1.cd⟩, ⟨X1.Ar, X1.cr⟩, b2⟩ : (Option Addr × Nat) × (Option Addr × Nat) × Nat)) ?_ ?_ ?_
  ·trivial
  ·exact Zwk
  exact Zj
 rintro ⟨⟨A2, c2⟩, ⟨A3, c3⟩, b2⟩ -
 dsimp only
 refine wc_fact (fun w hi => slv_some (hi.get (show Has _ (sl .u32 32 A2 1 c2 [1]) from Zh)) (by decide)) (fun hA => ?_)
 obtain ⟨bd, rfl⟩ := hA
 refine Zs (Zr (ZFa 15 ?_))
 refine ZC ?_
 refine ZA ?_
 refine ZFb 14 ?_
 refine ZD ?_
 refine ZB ?_
 iterate 2 refine ZA ?_
 refine ZFb 1 ?_
 refine ZD ?_
 iterate 2 refine ZB ?_
 iterate 2 refine ZA ?_
 refine ZFb 1 ?_
 refine ZD ?_
 refine Zyy rfl rfl (y_indexR (j := 0) (sz := 1) (r := 0) rfl (fun _ => rfl) (ev_g rfl) (Zv rfl) (fun _ => by omega) (fun _ => by omega) (by omega)) ?_
 refine wl_yg (guard_yes rfl rfl) (y_load (fun _ => rfl) (ev_g rfl)) (sl_cellR Zh (ints_at (l := [1]) (j := 0) rfl)) rfl ?_
 refine ZB ?_
 iterate 2 refine ZA ?_
 refine Zn (Zt (Ze (ret1 (cs' := []) (.inl rfl) Zu rfl rfl ?_)))
 exact ⟨rfl, rfl⟩
set_option maxHeartbeats 4000000 in
theorem blockEnds_ok (n v : Int) (hv : u32 v) (tr dv ha : Bool) (A : Option Addr) (c : Nat) (l : List Int) (page was now : Int) (hw : u32 was) (hn : u32 now) (w : World) (h : Rd w .i64 A l.length c l) (ht : TabOk w) :
  Ctr Tryz.prog 4 [.int .i64 n, .int .u32 v, .bool tr, .bool dv, .bool ha, .slice A l.length c, .int .i64 page, .int .u32 was, .int .u32 now] w [] (fun v cs => v = .bool true ∧ cs = []) := by
 have hlm : l.length ≤ maxLen := Nat.le_trans h.cap h.max
 simp only [maxLen] at hlm
 have hcap := h.cap
 have h6 := rd_take h 6
 have hl6 : (l.take 6).length = min 6 l.length := List.length_take
 have hE := fun (op nn : Int) (ho : op ∈ opList) => want_next ho ⟨⟨now, [], [], 0, false, false, false, 0, 0, 0, 0, 0, false, false, 0, ha⟩, tr, dv, l.take 6⟩ page was
 have HN := fun (op nn : Int) w h => next_ok op nn ⟨⟨now, [], [], 0, false, false, false, 0, 0, 0, 0, 0, false, false, 0, ha⟩, tr, dv, l.take 6⟩ ⟨none, 0, none, 0⟩ A c page was hn hw w h
 have hcon := hasTo_all (l.take 6) page
 have hq : ∀ x : Int, u32 x → IntKind.u32.wrap (x.tdiv 64) = x / 64 := fun x hx => by obtain ⟨h1, h2⟩ := hx; rw [Int.tdiv_eq_ediv_of_nonneg h1, u32_wrap_id _ (by omega) (by omega)]
 obtain ⟨L, hL⟩ : ∃ L, l.take 6 = L := ⟨_, rfl⟩
 rw [hL] at h6 hl6 hE HN hcon
 refine fn_ctr Tryz.func4 rfl Tryz.ntmps4 rfl (Inv.start w) ?_
 refine Zs (Zr (ZA ?_))
 refine Zn (Zt (Zs (Zr (ZA ?_))))
 refine ZA ?_
 refine ZS (fun w hi => instr_ok n v hv w) ?_
 rintro _ _ ⟨_, ⟨⟨op, nn, rfl, hnu, hop⟩, rfl⟩, rfl⟩
 refine ZN fun b19 => ?_
 refine ZM ?_
 refine Zn (Zt ?_)
 refine wc_seq_mid (fun m : Nat => [(2, .bool tr), (3, .bool dv), (4, .bool ha), (5, .slice A m c), (6, .int .i64 page), (7, .int .u32 was), (8, .int .u32 now), (19, .pointer (some ⟨b19, 0, none⟩))]) (fun _ => [row b19 [.int .i64 op, .int .u32 nn] 48]) (fun m => m = L.length) ?_ ?_
 ·refine Zs (Zr (ZA ?_))
  iterate 2 refine ZA ?_
  refine Zn (Zt ?_)
  refine wc_cond _ rfl (fun hc2 => ?_) (fun hc2 => ?_)
  ·simp only [decide_eq_true_eq] at hc2
   refine Zr (ZA ?_)
   refine Zy (y_slice0 6 rfl (fun _ => rfl) (Zv rfl) (Zv rfl) (fun _ => by first | rfl | omega) (fun _ => by omega)) ?_
   refine ZA ?_
   refine Zn ?_
   refine q_mid (6) ?_ ?_ ?_
   ·exact (by omega)
   ·exact Zwk
   ((repeat (first | exact List.Sublist.slnil | refine List.Sublist.cons_cons _ ?_ | refine List.Sublist.cons _ ?_)))
  simp only [decide_eq_false_iff_not] at hc2
  refine Zc ?_
  refine q_mid (l.length) ?_ ?_ ?_
  ·exact (by omega)
  ·exact Zwk
  ((repeat (first | exact List.Sublist.slnil | refine List.Sublist.cons_cons _ ?_ | refine List.Sublist.cons _ ?_)))
 rintro m hm
 subst hm
 refine Zs (Zr (ZA ?_))
 refine Zn (Zt (Zs (Zs (Zr (ZA ?_)))))
 refine Zn (Zt (Zx ?_))
 refine wc_loop (fun k : Nat => [(2, .bool tr), (3, .bool dv), (4, .bool ha), (5, .slice A L.length c), (6, .int .i64 page), (7, .int .u32 was), (8, .int .u32 now), (19, .pointer (some ⟨b19, 0, none⟩)), (20, .bool (hasTo L page k)), (21, .int .i64 (k : Int))]) (fun _ => [row b19 [.int .i64 op, .int .u32 nn] 48]) (fun k => k ≤ L.length) (fun k => L.length - k) (0) ?_ ?_ ?_ ?_
 ·exact Nat.zero_le _
 ·exact Zwk
 ·((repeat (first | exact List.Sublist.slnil | refine List.Sublist.cons_cons _ ?_ | refine List.Sublist.cons _ ?_)))
 rintro k hk
 obtain ⟨hb, hhb⟩ : ∃ b, hasTo L page k = b := ⟨_, rfl⟩
 rw [hhb]
 refine Zs (Zs (Zr (ZA ?_)))
 iterate 3 refine ZA ?_
 refine Zn (Zt ?_)
 refine wc_cond _ rfl (fun hc6 => ?_) (fun hc6 => ?_)
 ·simp only [decide_eq_true_eq] at hc6
  have hkl : k < L.length := (by omega)
  obtain ⟨ad, rfl⟩ := h6.some_ (by omega)
  have hx : L[k]? = some (L[k]'hkl) := List.getElem?_eq_getElem hkl
  obtain ⟨x, hxx⟩ : ∃ x, L[k]'hkl = x := ⟨_, rfl⟩
  rw [hxx] at hx
  have hsu := hasTo_succ (x := page) hx
  rw [hhb] at hsu
  refine Zc (Zt (Zs (Zx (Zr (ZA ?_)))))
  refine ZA ?_
  iterate 2 refine ZB ?_
  refine Zyn rfl rfl (y_index (j := k)  rfl (fun _ => rfl) (ev_g rfl) (ev_g rfl)  (fun _ => by omega) (fun _ => by omega)) ?_
  refine wl_yg (guard_no rfl rfl) (y_load (fun _ => rfl) (ev_g rfl)) (rd_cell h6 (ints_at hx)) rfl ?_
  iterate 2 refine ZB ?_
  refine ZA ?_
  rw [← hsu]
  refine ZA ?_
  refine Zn (Zo (Zt (Zr (ZA ?_))))
  refine Zy (y_add (Zv rfl) (Zv rfl) Zl) ?_
  refine ZA ?_
  refine Zn ?_
  refine q_mid (k + 1) ?_ ?_ ?_
  ·exact ⟨show k + 1 ≤ L.length by omega, show L.length - (k + 1) < L.length - k by omega⟩
  ·exact Zwk
  ((repeat (first | exact List.Sublist.slnil | refine List.Sublist.cons_cons _ ?_ | refine List.Sublist.cons _ ?_)))
 simp only [decide_eq_false_iff_not] at hc6
 obtain rfl : L.length = k := (by omega)
 obtain rfl : L.contains page = hb := hcon.symm.trans hhb
 refine wc_exit ?_
 refine q_then_exit ?_
 refine q_then_exit ?_
 refine q_block_same rfl ?_
 refine Zt (Zs (Zr (ZA ?_)))
 iterate 6 refine ZA ?_
 refine ZN fun b22 => ?_
 refine ZM ?_
 refine Zn (Zt (Zs (Zr (ZFa 0 ?_))))
 refine ZC ?_
 iterate 2 refine ZA ?_
 refine ZFb 0 ?_
 refine ZD ?_
 refine ZB ?_
 iterate 3 refine ZA ?_
 refine ZFb 0 ?_
 refine ZD ?_
 iterate 2 refine ZB ?_
 iterate 2 refine ZA ?_
 iterate 2 refine ZB ?_
 iterate 2 refine ZA ?_
 iterate 2 refine ZB ?_
 iterate 2 refine ZA ?_
 iterate 2 refine ZB ?_
 iterate 2 refine ZA ?_
 iterate 2 refine ZB ?_
 iterate 2 refine ZA ?_
 refine ZB ?_
 refine Zyy rfl rfl (y_quo (ev_g rfl) (Zv rfl) (by omega) (hq _ hw)) ?_
 refine ZB ?_
 refine Zyy rfl rfl (y_quo (ev_g rfl) (Zv rfl) (by omega) (hq _ hn)) ?_
 refine ZB ?_
 iterate 2 refine ZA ?_
 refine Zn (Zt (Zs (Zr (wl_loadRow Zh (fun _ => rfl) (fun _ => rfl) (Zv rfl) rfl ?_))))
 refine wl_loadRow Zh (fun _ => rfl) (fun _ => rfl) (Zv rfl) rfl ?_
 iterate 2 refine ZA ?_
 refine ZS (fun w hi => HN op nn w (RdV.oldN h6 hi)) ?_
 rintro _ _ ⟨_, ⟨rfl, rfl⟩, rfl⟩
 refine ZA ?_
 refine Zy (y_eqlb rfl (Zv rfl) (Zv rfl) (hE op nn hop)) ?_
 refine ZA ?_
 refine wl_tg (guard_yes rfl rfl) rfl (t_call rfl (fun _ _ => rfl) (fun w hi => known18_ok w (ht.old hi))) rfl ?_
 rintro _ _ ⟨_, ⟨rfl, rfl⟩, rfl⟩
 iterate 2 refine ZA ?_
 refine Zn (Zt (Ze (ret1 (cs' := []) (.inl rfl) Zu rfl rfl ?_)))
 exact ⟨rfl, rfl⟩
end Go.Proofs.YtojejamfaeednaaGreatDoor
