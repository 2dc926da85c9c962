/- StateBack: the walk. -/
import Derived.Test.YtjknccgefnnfnaaStX
set_option linter.unusedSimpArgs false
set_option linter.unusedVariables false
namespace Go.Ink
open Go.RowKit
theorem St.enc_len {s : St} (h : s.right = true) : 1 ≤ s.enc.length ∧ s.enc.length ≤ 200 := by
  obtain ⟨d16, r16, _⟩ := St.right_b h
  unfold St.enc
  simp only [List.length_append, words_len, List.length_cons, List.length_nil]
  omega
theorem xor8_rng (a b : Int) : 0 ≤ bits .xor .u8 a b ∧ bits .xor .u8 a b ≤ 255 := by
  show 0 ≤ IntKind.u8.wrap _ ∧ IntKind.u8.wrap _ ≤ 255
  rw [IntKind.wrap_u8]
  omega
theorem u8s_set {l : List Int} (h : u8s l) (j : Nat) {v : Int} (hv : 0 ≤ v ∧ v ≤ 255) : u8s (l.set j v) := fun x hx => by
  rcases List.mem_or_eq_of_mem_set hx with h1 | h1
  · exact h x h1
  · rw [h1]; exact hv
theorem rd_takeU {w : World} {k : IntKind} {A : Option Addr} {c : Nat} {xs : List Int} (h : Rd w k A xs.length c xs) {n m : Nat} (hm : m = min xs.length n) : Rd w k A m c (xs.take n) := by
  subst hm
  have := h.take_ (k := min xs.length n) (by omega)
  rw [ints_take, show xs.take (min xs.length n) = xs.take n by
    rcases Nat.le_total n xs.length with h1 | h1
    · rw [Nat.min_eq_right h1]
    · rw [Nat.min_eq_left h1, List.take_length, List.take_of_length_le h1]] at this
  exact this
/-- One of the four rows of bytes that are read. -/
theorem back_el {Y b : List Int} {A A9 B : Option Addr} {c c9 cb : Nat} (hY : u8s Y) (hb : u8s b) {k : Nat} (hk : k < 4) : ∃ (ys : List Int) (A' : Option Addr) (c' : Nat),
    [Value.slice A Y.length c, .slice A (Y.length - 1) c, .slice A9 (Y ++ [0]).length c9, .slice B (min b.length 300) cb][k]? = some (.slice A' ys.length c') ∧ u8s ys ∧
    ∀ w, Rd w .u8 A Y.length c Y → Rd w .u8 A9 (Y ++ [0]).length c9 (Y ++ [0]) → Rd w .u8 B b.length cb b → Rd w .u8 A' ys.length c' ys := by
  obtain rfl | rfl | rfl | rfl : k = 0 ∨ k = 1 ∨ k = 2 ∨ k = 3 := by omega
  · exact ⟨Y, A, c, rfl, hY, fun w h _ _ => h⟩
  · refine ⟨Y.take (Y.length - 1), A, c, ?_, bytes_take hY _, fun w h _ _ => rd_takeU h (by rw [List.length_take]; omega)⟩
    have e : (Y.take (Y.length - 1)).length = Y.length - 1 := by rw [List.length_take]; omega
    rw [e]; rfl
  · refine ⟨Y ++ [0], A9, c9, rfl, fun x hx => ?_, fun w _ h _ => h⟩
    rcases List.mem_append.1 hx with h | h
    · exact hY x h
    · rw [List.mem_singleton] at h; rw [h]; omega
  · refine ⟨b.take 300, B, cb, ?_, bytes_take hb _, fun w _ _ h => rd_takeU h (by rw [List.length_take]; omega)⟩
    have e : (b.take 300).length = min b.length 300 := by rw [List.length_take]; omega
    rw [e]; rfl
end Go.Ink
namespace Go.Proofs.Ytjknccgefnnfnaa
open Go.RowKit Go.Ink
theorem within_e3 {n lo hi x : Int} (hx : within n lo hi = x) (w : World) (h0 : 0 ≤ lo) (h1 : lo ≤ hi) (h2 : hi ≤ 1000000000000) : Ctr Try.prog 10 [.int .i64 n, .int .i64 lo, .int .i64 hi] w [] (fun v cs => v = .int .i64 x ∧ cs = []) := hx ▸ within_ok n lo hi w h0 h1 h2
set_option maxRecDepth 100000 in
set_option maxHeartbeats 4000000 in
theorem stateBack_ok (s : St) (hs : s.wf) (Ad Ar B : Option Addr) (cd cr cb : Nat) (aa tu : Int) (b : List Int) (hb : u8s b) (w : World) (h : RdSt w s Ad Ar cd cr) (hB : Rd w .u8 B b.length cb b) :
    Ctr Try.prog 6 [sv s Ad cd Ar cr, .int .i64 aa, .int .u8 tu, .slice B b.length cb] w [] (fun v cs => v = .bool true ∧ cs = []) := by
  have hbc := hB.cap
  have HT := trim_ok s hs Ad Ar cd cr
  have tw := St.trim_wf hs
  have tr := St.trim_right hs
  obtain ⟨t, ht⟩ : ∃ t, s.trim = t := ⟨_, rfl⟩
  rw [ht] at HT tw tr
  obtain ⟨d16, r16, fl⟩ := St.right_b tr
  have hd4 : t.d.length * 4 ≤ 140737488355328 := by omega
  have hr4 : t.r.length * 4 ≤ 140737488355328 := by omega
  have et : t.encE = 0 := by simp [St.encE, tr]
  have eot : t.encOf = t.enc := by simp [St.encOf, tr]
  obtain ⟨X1, X2⟩ := St.enc_len tr
  obtain ⟨z1, z2⟩ := raw_of tw tr
  have dX : dec t.enc = t := by simp [dec, z2, z1]
  have dE : decE t.enc = 0 := by simp [decE, z2]
  have Xb : u8s t.enc := t.enc_byte
  obtain ⟨X, hX⟩ : ∃ X, t.enc = X := ⟨_, rfl⟩
  have HD := fun A c => decode_ok A c t.enc Xb
  have HE := fun A B c d => encode_ok t tw A B c d
  rw [dX, dE] at HD
  rw [et, eot] at HE
  rw [hX] at HD HE Xb X1 X2
  obtain ⟨x, hx⟩ : ∃ x, within aa 0 ((X.length : Int) - 1) = x := ⟨_, rfl⟩
  have rx := within_rng aa 0 ((X.length : Int) - 1) (by omega)
  rw [hx] at rx
  obtain ⟨rx0, rx1⟩ := rx
  obtain ⟨j, rfl⟩ := Int.eq_ofNat_of_zero_le rx0
  have hj : j < X.length := by omega
  obtain ⟨Y, hY⟩ : ∃ Y, X.set j (bits .xor .u8 (X[j]'hj) tu) = Y := ⟨_, rfl⟩
  have hX0 : ((X.length : Int) == 0) = false := by rw [beq_eq_false_iff_ne]; omega
  have hYl : Y.length = X.length := by rw [← hY, List.length_set]
  have hYb : u8s Y := by rw [← hY]; exact u8s_set Xb j (xor8_rng _ _)
  refine fn_ctr Try.func6 rfl Try.ntmps6 rfl (Inv.start w) ?_
  refine wc_seq ?_
  refine wc_region ?_
  refine wl_t (t_box rfl rfl) rfl ?_
  rintro _ _ ⟨b4, rfl, rfl⟩
  refine wl_y (y_assign (ev_rfl rfl)) (fun _ _ => trivial) rfl ?_
  refine wl_nil ?_
  refine q_then ?_
  refine wc_seq ?_
  refine wc_region ?_
  refine wl_loadRow (by first | exact hasC0 | exact hasC1 | exact hasC2 | exact hasC3 | exact hasC4 | exact hasC5 | exact hasC6 | exact hasC7 | exact hasC8 | exact hasC9 | exact hasC10 | exact hasC11 | exact hasC12 | exact hasC13 | exact hasC14 | exact hasC15 | exact hasC16 | exact hasC17 | exact hasC18 | exact hasC19 | exact hasC20 | exact hasC21 | exact hasC22 | exact hasC23) (fun _ => rfl) (fun _ => rfl) (ev_rfl rfl) rfl ?_
  refine wl_t (t_call rfl (fun _ _ => rfl) (fun w hi => HT w (h.oldN hi))) rfl ?_
  rintro _ _ ⟨_, ⟨A1, c1, A2, c2, rfl, rfl⟩, rfl⟩
  refine wl_t0 (t_storeN (fun _ => rfl) rfl rfl (allT rfl) (by first | exact atC0 | exact atC1 | exact atC2 | exact atC3 | exact atC4 | exact atC5 | exact atC6 | exact atC7 | exact atC8 | exact atC9 | exact atC10 | exact atC11 | exact atC12 | exact atC13 | exact atC14 | exact atC15 | exact atC16 | exact atC17 | exact atC18 | exact atC19 | exact atC20 | exact atC21 | exact atC22 | exact atC23) (by exact rfl)) ?_
  rintro _ _ ⟨rfl, rfl⟩
  refine wl_nil ?_
  refine q_then ?_
  refine wc_seq ?_
  refine wc_region ?_
  refine wl_loadRow (by first | exact hasC0 | exact hasC1 | exact hasC2 | exact hasC3 | exact hasC4 | exact hasC5 | exact hasC6 | exact hasC7 | exact hasC8 | exact hasC9 | exact hasC10 | exact hasC11 | exact hasC12 | exact hasC13 | exact hasC14 | exact hasC15 | exact hasC16 | exact hasC17 | exact hasC18 | exact hasC19 | exact hasC20 | exact hasC21 | exact hasC22 | exact hasC23) (fun _ => rfl) (fun _ => rfl) (ev_rfl rfl) rfl ?_
  refine wl_t (t_call rfl (fun _ _ => rfl) (fun w hi => HE A1 A2 c1 c2 w (hi.rdSt (by first | exact hasC0 | exact hasC1 | exact hasC2 | exact hasC3 | exact hasC4 | exact hasC5 | exact hasC6 | exact hasC7 | exact hasC8 | exact hasC9 | exact hasC10 | exact hasC11 | exact hasC12 | exact hasC13 | exact hasC14 | exact hasC15 | exact hasC16 | exact hasC17 | exact hasC18 | exact hasC19 | exact hasC20 | exact hasC21 | exact hasC22 | exact hasC23) (by first | exact hasC0 | exact hasC1 | exact hasC2 | exact hasC3 | exact hasC4 | exact hasC5 | exact hasC6 | exact hasC7 | exact hasC8 | exact hasC9 | exact hasC10 | exact hasC11 | exact hasC12 | exact hasC13 | exact hasC14 | exact hasC15 | exact hasC16 | exact hasC17 | exact hasC18 | exact hasC19 | exact hasC20 | exact hasC21 | exact hasC22 | exact hasC23) hd4 hr4))) rfl ?_
  rintro _ _ ⟨_, ⟨A3, c3, rfl, rfl⟩, rfl⟩
  refine wl_fact (fun w hi => slv_some (hi.get (show Has _ (sl .u8 5 A3 X.length c3 X) from (by first | exact hasC0 | exact hasC1 | exact hasC2 | exact hasC3 | exact hasC4 | exact hasC5 | exact hasC6 | exact hasC7 | exact hasC8 | exact hasC9 | exact hasC10 | exact hasC11 | exact hasC12 | exact hasC13 | exact hasC14 | exact hasC15 | exact hasC16 | exact hasC17 | exact hasC18 | exact hasC19 | exact hasC20 | exact hasC21 | exact hasC22 | exact hasC23))) (show 0 < X.length by omega)) ?_
  rintro ⟨bb, rfl⟩
  refine wl_fact (fun w hi => (hi.rd (show Has _ (sl .u8 5 (some ⟨bb, 0, none⟩) X.length c3 X) from (by first | exact hasC0 | exact hasC1 | exact hasC2 | exact hasC3 | exact hasC4 | exact hasC5 | exact hasC6 | exact hasC7 | exact hasC8 | exact hasC9 | exact hasC10 | exact hasC11 | exact hasC12 | exact hasC13 | exact hasC14 | exact hasC15 | exact hasC16 | exact hasC17 | exact hasC18 | exact hasC19 | exact hasC20 | exact hasC21 | exact hasC22 | exact hasC23))).cap) (fun hcap3 => ?_)
  refine wl_y (y_move (ev_rfl rfl)) (fun _ _ => trivial) rfl ?_
  refine wl_y (y_extract (ev_rfl rfl) rfl) (fun _ _ => trivial) rfl ?_
  refine wl_y (y_extract (ev_rfl rfl) rfl) (fun _ _ => trivial) rfl ?_
  refine wl_y (y_assign (ev_rfl rfl)) (fun _ _ => trivial) rfl ?_
  refine wl_y (y_assign (ev_rfl rfl)) (fun _ _ => trivial) rfl ?_
  refine wl_nil ?_
  refine q_then ?_
  refine wc_seq ?_
  refine wc_region ?_
  refine wl_y (y_move (ev_rfl rfl)) (fun _ _ => trivial) rfl ?_
  refine wl_t (t_call rfl (fun _ _ => rfl) (fun w hi => HD (some ⟨bb, 0, none⟩) c3 w (hi.rd (show Has _ (sl .u8 5 (some ⟨bb, 0, none⟩) X.length c3 X) from (by first | exact hasC0 | exact hasC1 | exact hasC2 | exact hasC3 | exact hasC4 | exact hasC5 | exact hasC6 | exact hasC7 | exact hasC8 | exact hasC9 | exact hasC10 | exact hasC11 | exact hasC12 | exact hasC13 | exact hasC14 | exact hasC15 | exact hasC16 | exact hasC17 | exact hasC18 | exact hasC19 | exact hasC20 | exact hasC21 | exact hasC22 | exact hasC23))))) rfl ?_
  rintro _ _ ⟨_, ⟨A4, c4, A5, c5, rfl, rfl⟩, rfl⟩
  refine wl_y (y_move (ev_rfl rfl)) (fun _ _ => trivial) rfl ?_
  refine wl_y (y_extract (ev_rfl rfl) rfl) (fun _ _ => trivial) rfl ?_
  refine wl_y (y_extract (ev_rfl rfl) rfl) (fun _ _ => trivial) rfl ?_
  refine wl_t (t_alloc (fun _ => rfl) rfl) rfl ?_
  rintro _ _ ⟨b11, rfl, rfl⟩
  refine wl_t0 (t_storeN (fun _ => rfl) rfl rfl (allT rfl) (by first | exact atC0 | exact atC1 | exact atC2 | exact atC3 | exact atC4 | exact atC5 | exact atC6 | exact atC7 | exact atC8 | exact atC9 | exact atC10 | exact atC11 | exact atC12 | exact atC13 | exact atC14 | exact atC15 | exact atC16 | exact atC17 | exact atC18 | exact atC19 | exact atC20 | exact atC21 | exact atC22 | exact atC23) (by exact rfl)) ?_
  rintro _ _ ⟨rfl, rfl⟩
  refine wl_y (y_assign (ev_rfl rfl)) (fun _ _ => trivial) rfl ?_
  refine wl_nil ?_
  refine q_then ?_
  refine wc_seq ?_
  refine wc_seq ?_
  refine wc_region ?_
  refine wl_y (y_move (ev_rfl rfl)) (fun _ _ => trivial) rfl ?_
  refine wl_y (y_neq (ev_rfl rfl) (ev_rfl rfl) rfl) (fun _ _ => trivial) rfl ?_
  refine wl_y (y_move (ev_rfl rfl)) (fun _ _ => trivial) rfl ?_
  refine wl_yg (guard_no rfl rfl) (y_move (ev_rfl rfl)) (fun _ _ => trivial) rfl ?_
  refine wl_yg (guard_no rfl rfl) (y_neq (ev_g rfl) (ev_rfl rfl) rfl) (fun _ _ => trivial) rfl ?_
  refine wl_y (y_or (ev_rfl rfl) (pk_no rfl (fun _ => rfl))) (fun _ _ => trivial) rfl ?_
  refine wl_y (y_move (ev_rfl rfl)) (fun _ _ => trivial) rfl ?_
  refine wl_loadRowg (guard_no rfl rfl) (by first | exact hasC0 | exact hasC1 | exact hasC2 | exact hasC3 | exact hasC4 | exact hasC5 | exact hasC6 | exact hasC7 | exact hasC8 | exact hasC9 | exact hasC10 | exact hasC11 | exact hasC12 | exact hasC13 | exact hasC14 | exact hasC15 | exact hasC16 | exact hasC17 | exact hasC18 | exact hasC19 | exact hasC20 | exact hasC21 | exact hasC22 | exact hasC23) (fun _ => rfl) (fun _ => rfl) (ev_rfl rfl) rfl ?_
  refine wl_loadRowg (guard_no rfl rfl) (by first | exact hasC0 | exact hasC1 | exact hasC2 | exact hasC3 | exact hasC4 | exact hasC5 | exact hasC6 | exact hasC7 | exact hasC8 | exact hasC9 | exact hasC10 | exact hasC11 | exact hasC12 | exact hasC13 | exact hasC14 | exact hasC15 | exact hasC16 | exact hasC17 | exact hasC18 | exact hasC19 | exact hasC20 | exact hasC21 | exact hasC22 | exact hasC23) (fun _ => rfl) (fun _ => rfl) (ev_rfl rfl) rfl ?_
  refine wl_callg (guard_no rfl rfl) (.cons (ev_g rfl) (.cons (ev_g rfl) .nil)) (fun _ _ => rfl) (fun hg w hi => rSame_ok t t A1 A2 A4 A5 c1 c2 c4 c5 w (hi.rdSt (s := t) (by first | exact hasC0 | exact hasC1 | exact hasC2 | exact hasC3 | exact hasC4 | exact hasC5 | exact hasC6 | exact hasC7 | exact hasC8 | exact hasC9 | exact hasC10 | exact hasC11 | exact hasC12 | exact hasC13 | exact hasC14 | exact hasC15 | exact hasC16 | exact hasC17 | exact hasC18 | exact hasC19 | exact hasC20 | exact hasC21 | exact hasC22 | exact hasC23) (by first | exact hasC0 | exact hasC1 | exact hasC2 | exact hasC3 | exact hasC4 | exact hasC5 | exact hasC6 | exact hasC7 | exact hasC8 | exact hasC9 | exact hasC10 | exact hasC11 | exact hasC12 | exact hasC13 | exact hasC14 | exact hasC15 | exact hasC16 | exact hasC17 | exact hasC18 | exact hasC19 | exact hasC20 | exact hasC21 | exact hasC22 | exact hasC23) hd4 hr4) (hi.rdSt (s := t) (by first | exact hasC0 | exact hasC1 | exact hasC2 | exact hasC3 | exact hasC4 | exact hasC5 | exact hasC6 | exact hasC7 | exact hasC8 | exact hasC9 | exact hasC10 | exact hasC11 | exact hasC12 | exact hasC13 | exact hasC14 | exact hasC15 | exact hasC16 | exact hasC17 | exact hasC18 | exact hasC19 | exact hasC20 | exact hasC21 | exact hasC22 | exact hasC23) (by first | exact hasC0 | exact hasC1 | exact hasC2 | exact hasC3 | exact hasC4 | exact hasC5 | exact hasC6 | exact hasC7 | exact hasC8 | exact hasC9 | exact hasC10 | exact hasC11 | exact hasC12 | exact hasC13 | exact hasC14 | exact hasC15 | exact hasC16 | exact hasC17 | exact hasC18 | exact hasC19 | exact hasC20 | exact hasC21 | exact hasC22 | exact hasC23) hd4 hr4)) rfl ?_
  refine wl_yg (guard_no rfl rfl) (y_not (ev_g rfl) rfl) (fun _ _ => trivial) rfl ?_
  refine wl_y (y_or (ev_rfl rfl) (pk_no rfl (fun _ => rfl))) (fun _ _ => trivial) rfl ?_
  refine wl_y (y_move (ev_rfl rfl)) (fun _ _ => trivial) rfl ?_
  refine wl_yg (guard_no rfl rfl) (y_move (ev_rfl rfl)) (fun _ _ => trivial) rfl ?_
  refine wl_yg (guard_no rfl rfl) (y_len ⟨_, rfl⟩ (ev_g rfl)) (fun _ _ => trivial) rfl ?_
  refine wl_yg (guard_no rfl rfl) (y_eql (ev_g rfl) (ev_rfl rfl) rfl) (fun _ _ => trivial) rfl ?_
  refine wl_y (y_or (ev_rfl rfl) (pk_no rfl (fun _ => rfl))) (fun _ _ => trivial) rfl ?_
  refine wl_nil ?_
  refine q_then ?_
  refine wc_cond_f rfl ((by rw [St.rsame_self, hX0]; rfl)) ?_
  refine wc_skip ?_
  refine q_then ?_
  refine wc_seq ?_
  refine wc_region ?_
  refine wl_y (y_move (ev_rfl rfl)) (fun _ _ => trivial) rfl ?_
  refine wl_y (y_move (ev_rfl rfl)) (fun _ _ => trivial) rfl ?_
  refine wl_y (y_move (ev_rfl rfl)) (fun _ _ => trivial) rfl ?_
  refine wl_y (y_len ⟨_, rfl⟩ (ev_rfl rfl)) (fun _ _ => trivial) rfl ?_
  refine wl_y (y_sub (ev_rfl rfl) (ev_rfl rfl) (by first | exact IntWalk.i64_in _ ⟨by omega, by omega⟩ | exact rfl)) (fun _ _ => trivial) rfl ?_
  refine wl_t (t_call rfl (fun _ _ => rfl) (fun w hi => within_e3 hx w (by omega) (by omega) (by omega))) rfl ?_
  rintro _ _ ⟨_, ⟨rfl, rfl⟩, rfl⟩
  refine wl_y (y_indexR (j := j) (sz := 1) (r := j) rfl (fun _ => rfl) (ev_rfl rfl) (ev_rfl rfl) (fun _ => by omega) (fun _ => by omega) (by omega)) (fun _ _ => trivial) rfl ?_
  refine wl_y (y_load (fun _ => rfl) (ev_rfl rfl)) (sl_cellR (by first | exact hasC0 | exact hasC1 | exact hasC2 | exact hasC3 | exact hasC4 | exact hasC5 | exact hasC6 | exact hasC7 | exact hasC8 | exact hasC9 | exact hasC10 | exact hasC11 | exact hasC12 | exact hasC13 | exact hasC14 | exact hasC15 | exact hasC16 | exact hasC17 | exact hasC18 | exact hasC19 | exact hasC20 | exact hasC21 | exact hasC22 | exact hasC23) (ints_get hj)) rfl ?_
  refine wl_y (y_move (ev_rfl rfl)) (fun _ _ => trivial) rfl ?_
  refine wl_y (y_xor_ (ev_rfl rfl) (ev_rfl rfl) rfl) (fun _ _ => trivial) rfl ?_
  refine wl_y (y_indexR (j := j) (sz := 1) (r := j) rfl (fun _ => rfl) (ev_rfl rfl) (ev_rfl rfl) (fun _ => by omega) (fun _ => by omega) (by omega)) (fun _ _ => trivial) rfl ?_
  skip
  refine wl_t0 (t_storeS (fun _ => rfl) rfl rfl rfl (by first | exact atC0 | exact atC1 | exact atC2 | exact atC3 | exact atC4 | exact atC5 | exact atC6 | exact atC7 | exact atC8 | exact atC9 | exact atC10 | exact atC11 | exact atC12 | exact atC13 | exact atC14 | exact atC15 | exact atC16 | exact atC17 | exact atC18 | exact atC19 | exact atC20 | exact atC21 | exact atC22 | exact atC23) (by omega)) ?_
  rintro _ _ ⟨rfl, rfl⟩
  rw [ints_set, hY, ← hYl]
  refine wl_nil ?_
  refine q_then ?_
  refine wc_seq ?_
  refine wc_seq_mid (fun q : (Option Addr × Nat) × Nat => [(72, .slice (some ⟨q.2, 0, none⟩) 4 4), (73, .int .i64 4), (74, .int .i64 0)]) (fun q => [sl .u8 5 (some ⟨bb, 0, none⟩) Y.length c3 Y, sl .u8 5 q.1.1 (Y ++ [0]).length q.1.2 (Y ++ [0]), slv 38 1 (some ⟨q.2, 0, none⟩) 4 4 [.slice (some ⟨bb, 0, none⟩) Y.length c3, .slice (some ⟨bb, 0, none⟩) (Y.length - 1) c3, .slice q.1.1 (Y ++ [0]).length q.1.2, .slice B (min b.length 300) cb]]) (fun _ => True) ?_ ?_
  · refine wc_draw ⟨fun j => List.elem j [8, 10], []⟩ (by kernel_rfl) ?_
    refine wa_yn 0 rfl (by kernel_rfl) (by kernel_rfl) (by kernel_rfl) (y_move (ev_rfl rfl)) rfl ?_
    refine wa_yn 1 rfl (by kernel_rfl) (by kernel_rfl) (by kernel_rfl) (y_move (ev_rfl rfl)) rfl ?_
    refine wa_yn 2 rfl (by kernel_rfl) (by kernel_rfl) (by kernel_rfl) (y_move (ev_rfl rfl)) rfl ?_
    refine wa_yn 3 rfl (by kernel_rfl) (by kernel_rfl) (by kernel_rfl) (y_len ⟨_, rfl⟩ (ev_rfl rfl)) rfl ?_
    refine wa_yn 4 rfl (by kernel_rfl) (by kernel_rfl) (by kernel_rfl) (y_sub (ev_rfl rfl) (ev_rfl rfl) (by first | exact IntWalk.i64_in _ ⟨by omega, by omega⟩ | exact rfl)) rfl ?_
    refine wa_yn 5 rfl (by kernel_rfl) (by kernel_rfl) (by kernel_rfl) (y_slice0 (Y.length - 1) rfl (fun _ => rfl) (ev_rfl rfl) (ev_rfl rfl) (fun _ => by first | rfl | omega) (fun _ => by omega)) rfl ?_
    refine wa_yn 7 rfl (by kernel_rfl) (by kernel_rfl) (by kernel_rfl) (y_move (ev_rfl rfl)) rfl ?_
    refine wa_yn 11 rfl (by kernel_rfl) (by kernel_rfl) (by kernel_rfl) (y_move (ev_rfl rfl)) rfl ?_
    refine wa_yn 15 rfl (by kernel_rfl) (by kernel_rfl) (by kernel_rfl) (y_move (ev_rfl rfl)) rfl ?_
    refine wa_2 6 9 (by kernel_rfl) ?_ ?_
    · refine wi_t rfl rfl (t_buildSl1 rfl rfl (fun _ => rfl) (fun _ => rfl) rfl rfl) (fun _ _ _ _ _ _ _ h => by cases h) rfl ?_
      rintro _ _ ⟨b65, rfl, rfl⟩
      refine wa_2 8 9 (by kernel_rfl) ?_ ?_
      · refine wi_t rfl rfl (t_append (e := 5) (sz := 1) (bytes := 1) rfl rfl (by first | exact atC0 | exact atC1 | exact atC2 | exact atC3 | exact atC4 | exact atC5 | exact atC6 | exact atC7 | exact atC8 | exact atC9 | exact atC10 | exact atC11 | exact atC12 | exact atC13 | exact atC14 | exact atC15 | exact atC16 | exact atC17 | exact atC18 | exact atC19 | exact atC20 | exact atC21 | exact atC22 | exact atC23) rfl rfl (fun w hi => hi.rd (show Has _ (sl .u8 5 (some ⟨bb, 0, none⟩) Y.length c3 Y) from (by first | exact hasC0 | exact hasC1 | exact hasC2 | exact hasC3 | exact hasC4 | exact hasC5 | exact hasC6 | exact hasC7 | exact hasC8 | exact hasC9 | exact hasC10 | exact hasC11 | exact hasC12 | exact hasC13 | exact hasC14 | exact hasC15 | exact hasC16 | exact hasC17 | exact hasC18 | exact hasC19 | exact hasC20 | exact hasC21 | exact hasC22 | exact hasC23))) ints_one (by simp only [maxLen]; omega) (by omega)) (fun _ _ _ _ _ _ _ h => by cases h) rfl ?_
        rintro _ _ ⟨A8, c8, rfl, rfl⟩
        rw [Nat.zero_add, List.nil_append]
        refine wa_1 9 (by kernel_rfl) ?_
        refine wi_t rfl rfl (t_buildSl1 rfl rfl (fun _ => rfl) (fun _ => rfl) rfl rfl) (fun _ _ _ _ _ _ _ h => by cases h) rfl ?_
        rintro _ _ ⟨b68, rfl, rfl⟩
        refine wa_1 10 (by kernel_rfl) ?_
        refine wi_t rfl rfl (t_append (e := 5) (sz := 1) (bytes := 1) rfl rfl (by first | exact atC0 | exact atC1 | exact atC2 | exact atC3 | exact atC4 | exact atC5 | exact atC6 | exact atC7 | exact atC8 | exact atC9 | exact atC10 | exact atC11 | exact atC12 | exact atC13 | exact atC14 | exact atC15 | exact atC16 | exact atC17 | exact atC18 | exact atC19 | exact atC20 | exact atC21 | exact atC22 | exact atC23) rfl rfl (fun w hi => hi.rd (show Has _ (slv 5 1 (some ⟨b68, 0, none⟩) 1 1 [.int .u8 0]) from (by first | exact hasC0 | exact hasC1 | exact hasC2 | exact hasC3 | exact hasC4 | exact hasC5 | exact hasC6 | exact hasC7 | exact hasC8 | exact hasC9 | exact hasC10 | exact hasC11 | exact hasC12 | exact hasC13 | exact hasC14 | exact hasC15 | exact hasC16 | exact hasC17 | exact hasC18 | exact hasC19 | exact hasC20 | exact hasC21 | exact hasC22 | exact hasC23))) (allT rfl) (by simp only [maxLen]; omega) (by omega)) (fun _ _ _ _ _ _ _ h => by cases h) rfl ?_
        rintro _ _ ⟨A9, c9, rfl, rfl⟩
        rw [one_len Y 0, one_ints Y 0]
        refine wa_1 12 (by kernel_rfl) ?_
        refine wi_t rfl rfl (t_call rfl (fun _ _ => rfl) (fun w hi => cut_ok B b.length cb 300 w hbc)) (fun _ _ _ _ _ _ _ h => by cases h) rfl ?_
        rintro _ _ ⟨_, ⟨rfl, rfl⟩, rfl⟩
        refine wa_1 13 (by kernel_rfl) ?_
        refine wi_t rfl rfl (t_buildSl1 rfl rfl (fun _ => rfl) (fun _ => rfl) rfl rfl) (fun _ _ _ _ _ _ _ h => by cases h) rfl ?_
        rintro _ _ ⟨b72, rfl, rfl⟩
        refine wa_yn 14 rfl (by kernel_rfl) (by kernel_rfl) (by kernel_rfl) (y_len ⟨_, rfl⟩ (ev_rfl rfl)) rfl ?_
        refine wa_done (by kernel_rfl) ?_
        refine q_midP (((A9, c9), b72)) ?_ ?_ ?_
        · trivial
        · ((repeat' (refine Wk.cons ?_ ?_)) <;> first | exact Wk.nil | exact rfl | exact trivial | exact wk_num rfl (by omega) | exact wk_num rfl (by simp))
        · exact (by repeat (first | exact .nil _ | (refine .cons (by repeat (first | exact .head _ _ | apply Del.tail)) ?_)))
      · refine wi_t rfl rfl (t_buildSl1 rfl rfl (fun _ => rfl) (fun _ => rfl) rfl rfl) (fun _ _ _ _ _ _ _ h => by cases h) rfl ?_
        rintro _ _ ⟨b68, rfl, rfl⟩
        refine wa_1 8 (by kernel_rfl) ?_
        refine wi_t rfl rfl (t_append (e := 5) (sz := 1) (bytes := 1) rfl rfl (by first | exact atC0 | exact atC1 | exact atC2 | exact atC3 | exact atC4 | exact atC5 | exact atC6 | exact atC7 | exact atC8 | exact atC9 | exact atC10 | exact atC11 | exact atC12 | exact atC13 | exact atC14 | exact atC15 | exact atC16 | exact atC17 | exact atC18 | exact atC19 | exact atC20 | exact atC21 | exact atC22 | exact atC23) rfl rfl (fun w hi => hi.rd (show Has _ (sl .u8 5 (some ⟨bb, 0, none⟩) Y.length c3 Y) from (by first | exact hasC0 | exact hasC1 | exact hasC2 | exact hasC3 | exact hasC4 | exact hasC5 | exact hasC6 | exact hasC7 | exact hasC8 | exact hasC9 | exact hasC10 | exact hasC11 | exact hasC12 | exact hasC13 | exact hasC14 | exact hasC15 | exact hasC16 | exact hasC17 | exact hasC18 | exact hasC19 | exact hasC20 | exact hasC21 | exact hasC22 | exact hasC23))) ints_one (by simp only [maxLen]; omega) (by omega)) (fun _ _ _ _ _ _ _ h => by cases h) rfl ?_
        rintro _ _ ⟨A8, c8, rfl, rfl⟩
        rw [Nat.zero_add, List.nil_append]
        refine wa_1 10 (by kernel_rfl) ?_
        refine wi_t rfl rfl (t_append (e := 5) (sz := 1) (bytes := 1) rfl rfl (by first | exact atC0 | exact atC1 | exact atC2 | exact atC3 | exact atC4 | exact atC5 | exact atC6 | exact atC7 | exact atC8 | exact atC9 | exact atC10 | exact atC11 | exact atC12 | exact atC13 | exact atC14 | exact atC15 | exact atC16 | exact atC17 | exact atC18 | exact atC19 | exact atC20 | exact atC21 | exact atC22 | exact atC23) rfl rfl (fun w hi => hi.rd (show Has _ (slv 5 1 (some ⟨b68, 0, none⟩) 1 1 [.int .u8 0]) from (by first | exact hasC0 | exact hasC1 | exact hasC2 | exact hasC3 | exact hasC4 | exact hasC5 | exact hasC6 | exact hasC7 | exact hasC8 | exact hasC9 | exact hasC10 | exact hasC11 | exact hasC12 | exact hasC13 | exact hasC14 | exact hasC15 | exact hasC16 | exact hasC17 | exact hasC18 | exact hasC19 | exact hasC20 | exact hasC21 | exact hasC22 | exact hasC23))) (allT rfl) (by simp only [maxLen]; omega) (by omega)) (fun _ _ _ _ _ _ _ h => by cases h) rfl ?_
        rintro _ _ ⟨A9, c9, rfl, rfl⟩
        rw [one_len Y 0, one_ints Y 0]
        refine wa_1 12 (by kernel_rfl) ?_
        refine wi_t rfl rfl (t_call rfl (fun _ _ => rfl) (fun w hi => cut_ok B b.length cb 300 w hbc)) (fun _ _ _ _ _ _ _ h => by cases h) rfl ?_
        rintro _ _ ⟨_, ⟨rfl, rfl⟩, rfl⟩
        refine wa_1 13 (by kernel_rfl) ?_
        refine wi_t rfl rfl (t_buildSl1 rfl rfl (fun _ => rfl) (fun _ => rfl) rfl rfl) (fun _ _ _ _ _ _ _ h => by cases h) rfl ?_
        rintro _ _ ⟨b72, rfl, rfl⟩
        refine wa_yn 14 rfl (by kernel_rfl) (by kernel_rfl) (by kernel_rfl) (y_len ⟨_, rfl⟩ (ev_rfl rfl)) rfl ?_
        refine wa_done (by kernel_rfl) ?_
        refine q_midP (((A9, c9), b72)) ?_ ?_ ?_
        · trivial
        · ((repeat' (refine Wk.cons ?_ ?_)) <;> first | exact Wk.nil | exact rfl | exact trivial | exact wk_num rfl (by omega) | exact wk_num rfl (by simp))
        · exact (by repeat (first | exact .nil _ | (refine .cons (by repeat (first | exact .head _ _ | apply Del.tail)) ?_)))
    · refine wi_t rfl rfl (t_buildSl1 rfl rfl (fun _ => rfl) (fun _ => rfl) rfl rfl) (fun _ _ _ _ _ _ _ h => by cases h) rfl ?_
      rintro _ _ ⟨b68, rfl, rfl⟩
      refine wa_1 6 (by kernel_rfl) ?_
      refine wi_t rfl rfl (t_buildSl1 rfl rfl (fun _ => rfl) (fun _ => rfl) rfl rfl) (fun _ _ _ _ _ _ _ h => by cases h) rfl ?_
      rintro _ _ ⟨b65, rfl, rfl⟩
      refine wa_1 8 (by kernel_rfl) ?_
      refine wi_t rfl rfl (t_append (e := 5) (sz := 1) (bytes := 1) rfl rfl (by first | exact atC0 | exact atC1 | exact atC2 | exact atC3 | exact atC4 | exact atC5 | exact atC6 | exact atC7 | exact atC8 | exact atC9 | exact atC10 | exact atC11 | exact atC12 | exact atC13 | exact atC14 | exact atC15 | exact atC16 | exact atC17 | exact atC18 | exact atC19 | exact atC20 | exact atC21 | exact atC22 | exact atC23) rfl rfl (fun w hi => hi.rd (show Has _ (sl .u8 5 (some ⟨bb, 0, none⟩) Y.length c3 Y) from (by first | exact hasC0 | exact hasC1 | exact hasC2 | exact hasC3 | exact hasC4 | exact hasC5 | exact hasC6 | exact hasC7 | exact hasC8 | exact hasC9 | exact hasC10 | exact hasC11 | exact hasC12 | exact hasC13 | exact hasC14 | exact hasC15 | exact hasC16 | exact hasC17 | exact hasC18 | exact hasC19 | exact hasC20 | exact hasC21 | exact hasC22 | exact hasC23))) ints_one (by simp only [maxLen]; omega) (by omega)) (fun _ _ _ _ _ _ _ h => by cases h) rfl ?_
      rintro _ _ ⟨A8, c8, rfl, rfl⟩
      rw [Nat.zero_add, List.nil_append]
      refine wa_1 10 (by kernel_rfl) ?_
      refine wi_t rfl rfl (t_append (e := 5) (sz := 1) (bytes := 1) rfl rfl (by first | exact atC0 | exact atC1 | exact atC2 | exact atC3 | exact atC4 | exact atC5 | exact atC6 | exact atC7 | exact atC8 | exact atC9 | exact atC10 | exact atC11 | exact atC12 | exact atC13 | exact atC14 | exact atC15 | exact atC16 | exact atC17 | exact atC18 | exact atC19 | exact atC20 | exact atC21 | exact atC22 | exact atC23) rfl rfl (fun w hi => hi.rd (show Has _ (slv 5 1 (some ⟨b68, 0, none⟩) 1 1 [.int .u8 0]) from (by first | exact hasC0 | exact hasC1 | exact hasC2 | exact hasC3 | exact hasC4 | exact hasC5 | exact hasC6 | exact hasC7 | exact hasC8 | exact hasC9 | exact hasC10 | exact hasC11 | exact hasC12 | exact hasC13 | exact hasC14 | exact hasC15 | exact hasC16 | exact hasC17 | exact hasC18 | exact hasC19 | exact hasC20 | exact hasC21 | exact hasC22 | exact hasC23))) (allT rfl) (by simp only [maxLen]; omega) (by omega)) (fun _ _ _ _ _ _ _ h => by cases h) rfl ?_
      rintro _ _ ⟨A9, c9, rfl, rfl⟩
      rw [one_len Y 0, one_ints Y 0]
      refine wa_1 12 (by kernel_rfl) ?_
      refine wi_t rfl rfl (t_call rfl (fun _ _ => rfl) (fun w hi => cut_ok B b.length cb 300 w hbc)) (fun _ _ _ _ _ _ _ h => by cases h) rfl ?_
      rintro _ _ ⟨_, ⟨rfl, rfl⟩, rfl⟩
      refine wa_1 13 (by kernel_rfl) ?_
      refine wi_t rfl rfl (t_buildSl1 rfl rfl (fun _ => rfl) (fun _ => rfl) rfl rfl) (fun _ _ _ _ _ _ _ h => by cases h) rfl ?_
      rintro _ _ ⟨b72, rfl, rfl⟩
      refine wa_yn 14 rfl (by kernel_rfl) (by kernel_rfl) (by kernel_rfl) (y_len ⟨_, rfl⟩ (ev_rfl rfl)) rfl ?_
      refine wa_done (by kernel_rfl) ?_
      refine q_midP (((A9, c9), b72)) ?_ ?_ ?_
      · trivial
      · ((repeat' (refine Wk.cons ?_ ?_)) <;> first | exact Wk.nil | exact rfl | exact trivial | exact wk_num rfl (by omega) | exact wk_num rfl (by simp))
      · exact (by repeat (first | exact .nil _ | (refine .cons (by repeat (first | exact .head _ _ | apply Del.tail)) ?_)))
  · rintro ⟨⟨A9, c9⟩, b72⟩ -
    dsimp only
    refine wc_block ?_
    refine wc_loop (fun k : Nat => [(72, .slice (some ⟨b72, 0, none⟩) 4 4), (73, .int .i64 4), (74, .int .i64 (k : Int))]) (fun _ => [sl .u8 5 (some ⟨bb, 0, none⟩) Y.length c3 Y, sl .u8 5 A9 (Y ++ [0]).length c9 (Y ++ [0]), slv 38 1 (some ⟨b72, 0, none⟩) 4 4 [.slice (some ⟨bb, 0, none⟩) Y.length c3, .slice (some ⟨bb, 0, none⟩) (Y.length - 1) c3, .slice A9 (Y ++ [0]).length c9, .slice B (min b.length 300) cb]]) (fun k => k ≤ 4) (fun k => 4 - k) (0) ?_ ?_ ?_ ?_
    · exact Nat.zero_le _
    · ((repeat' (refine Wk.cons ?_ ?_)) <;> first | exact Wk.nil | exact rfl | exact trivial | exact wk_num rfl (by omega) | exact wk_num rfl (by simp))
    · ((repeat (first | exact List.Sublist.slnil | refine List.Sublist.cons_cons _ ?_ | refine List.Sublist.cons _ ?_)))
    · rintro k hk
      refine wc_seq ?_
      refine wc_region ?_
      refine wl_y (y_lss (ev_rfl rfl) (ev_rfl rfl) rfl) (fun _ _ => trivial) rfl ?_
      refine wl_nil ?_
      refine q_then ?_
      refine wc_seq ?_
      refine wc_cond _ rfl (fun hc8 => ?_) (fun hc8 => ?_)
      · simp only [decide_eq_true_eq] at hc8
        obtain ⟨ys, A', c', hel, hyb, hrd⟩ := back_el (A := some ⟨bb, 0, none⟩) (A9 := A9) (B := B) (c := c3) (c9 := c9) (cb := cb) hYb hb (show k < 4 by omega)
        have HD2 := decode_ok A' c' ys hyb
        obtain ⟨R0, hR0⟩ : ∃ R, dec ys = R := ⟨_, rfl⟩
        obtain ⟨E0, hE0⟩ : ∃ R, decE ys = R := ⟨_, rfl⟩
        rw [hR0, hE0] at HD2
        refine wc_skip ?_
        refine q_then ?_
        refine wc_seq ?_
        refine wc_block ?_
        refine wc_seq ?_
        refine wc_region ?_
        refine wl_y (y_indexR (j := k) (sz := 1) (r := k) rfl (fun _ => rfl) (ev_rfl rfl) (ev_rfl rfl) (fun _ => by omega) (fun _ => by omega) (by omega)) (fun _ _ => trivial) rfl ?_
        refine wl_y (y_load (fun _ => rfl) (ev_rfl rfl)) (sl_cellR (by first | exact hasC0 | exact hasC1 | exact hasC2 | exact hasC3 | exact hasC4 | exact hasC5 | exact hasC6 | exact hasC7 | exact hasC8 | exact hasC9 | exact hasC10 | exact hasC11 | exact hasC12 | exact hasC13 | exact hasC14 | exact hasC15 | exact hasC16 | exact hasC17 | exact hasC18 | exact hasC19 | exact hasC20 | exact hasC21 | exact hasC22 | exact hasC23) hel) rfl ?_
        refine wl_y (y_assign (ev_rfl rfl)) (fun _ _ => trivial) rfl ?_
        refine wl_nil ?_
        refine q_then ?_
        refine wc_seq ?_
        refine wc_region ?_
        refine wl_y (y_move (ev_rfl rfl)) (fun _ _ => trivial) rfl ?_
        refine wl_t (t_call rfl (fun _ _ => rfl) (fun w hi => HD2 w (hrd w (hi.rd (show Has _ (sl .u8 5 (some ⟨bb, 0, none⟩) Y.length c3 Y) from (by first | exact hasC0 | exact hasC1 | exact hasC2 | exact hasC3 | exact hasC4 | exact hasC5 | exact hasC6 | exact hasC7 | exact hasC8 | exact hasC9 | exact hasC10 | exact hasC11 | exact hasC12 | exact hasC13 | exact hasC14 | exact hasC15 | exact hasC16 | exact hasC17 | exact hasC18 | exact hasC19 | exact hasC20 | exact hasC21 | exact hasC22 | exact hasC23))) (hi.rd (show Has _ (sl .u8 5 A9 (Y ++ [0]).length c9 (Y ++ [0])) from (by first | exact hasC0 | exact hasC1 | exact hasC2 | exact hasC3 | exact hasC4 | exact hasC5 | exact hasC6 | exact hasC7 | exact hasC8 | exact hasC9 | exact hasC10 | exact hasC11 | exact hasC12 | exact hasC13 | exact hasC14 | exact hasC15 | exact hasC16 | exact hasC17 | exact hasC18 | exact hasC19 | exact hasC20 | exact hasC21 | exact hasC22 | exact hasC23))) (hB.oldN hi)))) rfl ?_
        rintro _ _ ⟨_, ⟨A6, c6, A7, c7, rfl, rfl⟩, rfl⟩
        refine wl_y (y_move (ev_rfl rfl)) (fun _ _ => trivial) rfl ?_
        refine wl_y (y_extract (ev_rfl rfl) rfl) (fun _ _ => trivial) rfl ?_
        refine wl_y (y_extract (ev_rfl rfl) rfl) (fun _ _ => trivial) rfl ?_
        refine wl_t (t_alloc (fun _ => rfl) rfl) rfl ?_
        rintro _ _ ⟨b15, rfl, rfl⟩
        refine wl_t0 (t_storeN (fun _ => rfl) rfl rfl (allT rfl) (by first | exact atC0 | exact atC1 | exact atC2 | exact atC3 | exact atC4 | exact atC5 | exact atC6 | exact atC7 | exact atC8 | exact atC9 | exact atC10 | exact atC11 | exact atC12 | exact atC13 | exact atC14 | exact atC15 | exact atC16 | exact atC17 | exact atC18 | exact atC19 | exact atC20 | exact atC21 | exact atC22 | exact atC23) (by exact rfl)) ?_
        rintro _ _ ⟨rfl, rfl⟩
        refine wl_y (y_assign (ev_rfl rfl)) (fun _ _ => trivial) rfl ?_
        refine wl_nil ?_
        refine q_then ?_
        refine wc_seq ?_
        refine wc_seq ?_
        refine wc_region ?_
        refine wl_y (y_move (ev_rfl rfl)) (fun _ _ => trivial) rfl ?_
        refine wl_y (y_neq (ev_rfl rfl) (ev_rfl rfl) rfl) (fun _ _ => trivial) rfl ?_
        refine wl_nil ?_
        refine q_then ?_
        refine wc_cond _ rfl (fun hc11 => ?_) (fun hc11 => ?_)
        · have hbad : bad ys = true := by { cases hbb : bad ys with | true => rfl | false => (exfalso; rw [← hE0] at hc11; simp [decE, hbb] at hc11) }
          have e1 : R0 = St.zero := by rw [← hR0]; simp [dec, hbad]
          have e2 : E0 = 12 := by rw [← hE0]; simp [decE, hbad]
          subst e1
          subst e2
          refine wc_seq ?_
          refine wc_seq ?_
          refine wc_region ?_
          refine wl_y (y_move (ev_rfl rfl)) (fun _ _ => trivial) rfl ?_
          refine wl_y (y_neq (ev_rfl rfl) (ev_rfl rfl) rfl) (fun _ _ => trivial) rfl ?_
          refine wl_y (y_move (ev_rfl rfl)) (fun _ _ => trivial) rfl ?_
          refine wl_loadRowg (guard_no rfl rfl) (by first | exact hasC0 | exact hasC1 | exact hasC2 | exact hasC3 | exact hasC4 | exact hasC5 | exact hasC6 | exact hasC7 | exact hasC8 | exact hasC9 | exact hasC10 | exact hasC11 | exact hasC12 | exact hasC13 | exact hasC14 | exact hasC15 | exact hasC16 | exact hasC17 | exact hasC18 | exact hasC19 | exact hasC20 | exact hasC21 | exact hasC22 | exact hasC23) (fun _ => rfl) (fun _ => rfl) (ev_rfl rfl) rfl ?_
          refine wl_yg (guard_no rfl rfl) (y_build rfl rfl (fun _ => rfl) rfl rfl rfl (by (repeat (first | exact BuildTo.nil _ | (apply BuildTo.cons; (repeat (first | exact SetAt.zero _ _ _ | apply SetAt.succ))))))) (fun _ _ => trivial) rfl ?_
          refine wl_callg (guard_no rfl rfl) (.cons (ev_g rfl) (.cons (ev_g rfl) .nil)) (fun _ _ => rfl) (fun hg w hi => rSame_ok St.zero St.zero A6 A7 none none c6 c7 0 0 w (hi.rdSt (s := St.zero) (by first | exact hasC0 | exact hasC1 | exact hasC2 | exact hasC3 | exact hasC4 | exact hasC5 | exact hasC6 | exact hasC7 | exact hasC8 | exact hasC9 | exact hasC10 | exact hasC11 | exact hasC12 | exact hasC13 | exact hasC14 | exact hasC15 | exact hasC16 | exact hasC17 | exact hasC18 | exact hasC19 | exact hasC20 | exact hasC21 | exact hasC22 | exact hasC23) (by first | exact hasC0 | exact hasC1 | exact hasC2 | exact hasC3 | exact hasC4 | exact hasC5 | exact hasC6 | exact hasC7 | exact hasC8 | exact hasC9 | exact hasC10 | exact hasC11 | exact hasC12 | exact hasC13 | exact hasC14 | exact hasC15 | exact hasC16 | exact hasC17 | exact hasC18 | exact hasC19 | exact hasC20 | exact hasC21 | exact hasC22 | exact hasC23) (by decide) (by decide)) (RdSt.nil_ w rfl rfl)) rfl ?_
          refine wl_yg (guard_no rfl rfl) (y_not (ev_g rfl) rfl) (fun _ _ => trivial) rfl ?_
          refine wl_y (y_or (ev_rfl rfl) (pk_no rfl (fun _ => rfl))) (fun _ _ => trivial) rfl ?_
          refine wl_nil ?_
          refine q_then ?_
          refine wc_cond_f rfl ((by rw [St.rsame_self]; rfl)) ?_
          refine wc_skip ?_
          refine q_then ?_
          refine wc_exit ?_
          refine q_then_exit ?_
          refine q_block_same rfl ?_
          refine q_then ?_
          refine wc_region ?_
          refine wl_y (y_add (ev_rfl rfl) (ev_rfl rfl) (by first | exact IntWalk.i64_in _ ⟨by omega, by omega⟩ | exact rfl)) (fun _ _ => trivial) rfl ?_
          refine wl_y (y_move (ev_rfl rfl)) (fun _ _ => trivial) rfl ?_
          refine wl_nil ?_
          refine q_mid (k + 1) ?_ ?_ ?_
          · exact ⟨by omega, by omega⟩
          · ((repeat' (refine Wk.cons ?_ ?_)) <;> first | exact Wk.nil | exact rfl | exact trivial | exact wk_num rfl (by omega) | exact wk_num rfl (by simp))
          · ((repeat (first | exact List.Sublist.slnil | refine List.Sublist.cons_cons _ ?_ | refine List.Sublist.cons _ ?_)))
        · have hbad : bad ys = false := by { cases hbb : bad ys with | false => rfl | true => (exfalso; rw [← hE0] at hc11; simp [decE, hbb] at hc11) }
          obtain ⟨e3, e4⟩ := raw_enc hyb hbad
          have e1 : raw ys = R0 := by rw [← hR0]; simp [dec, hbad]
          have e5 := raw_wf hyb
          have e6 : (raw ys).encE = 0 := by simp [St.encE, e4]
          have e7 : (raw ys).encOf = ys := by rw [← e3]; simp [St.encOf, e4, e3]
          have e8 := St.right_b e4
          have HE2 := encode_ok (raw ys) e5 A6 A7 c6 c7
          rw [e6, e7] at HE2
          rw [e1] at HE2 e8
          refine wc_skip ?_
          refine q_then ?_
          refine wc_seq ?_
          refine wc_region ?_
          refine wl_loadRow (by first | exact hasC0 | exact hasC1 | exact hasC2 | exact hasC3 | exact hasC4 | exact hasC5 | exact hasC6 | exact hasC7 | exact hasC8 | exact hasC9 | exact hasC10 | exact hasC11 | exact hasC12 | exact hasC13 | exact hasC14 | exact hasC15 | exact hasC16 | exact hasC17 | exact hasC18 | exact hasC19 | exact hasC20 | exact hasC21 | exact hasC22 | exact hasC23) (fun _ => rfl) (fun _ => rfl) (ev_rfl rfl) rfl ?_
          refine wl_t (t_call rfl (fun _ _ => rfl) (fun w hi => HE2 w (hi.rdSt (s := R0) (by first | exact hasC0 | exact hasC1 | exact hasC2 | exact hasC3 | exact hasC4 | exact hasC5 | exact hasC6 | exact hasC7 | exact hasC8 | exact hasC9 | exact hasC10 | exact hasC11 | exact hasC12 | exact hasC13 | exact hasC14 | exact hasC15 | exact hasC16 | exact hasC17 | exact hasC18 | exact hasC19 | exact hasC20 | exact hasC21 | exact hasC22 | exact hasC23) (by first | exact hasC0 | exact hasC1 | exact hasC2 | exact hasC3 | exact hasC4 | exact hasC5 | exact hasC6 | exact hasC7 | exact hasC8 | exact hasC9 | exact hasC10 | exact hasC11 | exact hasC12 | exact hasC13 | exact hasC14 | exact hasC15 | exact hasC16 | exact hasC17 | exact hasC18 | exact hasC19 | exact hasC20 | exact hasC21 | exact hasC22 | exact hasC23) (by omega) (by omega)))) rfl ?_
          rintro _ _ ⟨_, ⟨A10, c10, rfl, rfl⟩, rfl⟩
          refine wl_y (y_move (ev_rfl rfl)) (fun _ _ => trivial) rfl ?_
          refine wl_y (y_extract (ev_rfl rfl) rfl) (fun _ _ => trivial) rfl ?_
          refine wl_y (y_extract (ev_rfl rfl) rfl) (fun _ _ => trivial) rfl ?_
          refine wl_y (y_assign (ev_rfl rfl)) (fun _ _ => trivial) rfl ?_
          refine wl_y (y_assign (ev_rfl rfl)) (fun _ _ => trivial) rfl ?_
          refine wl_nil ?_
          refine q_then ?_
          refine wc_seq ?_
          refine wc_region ?_
          refine wl_y (y_move (ev_rfl rfl)) (fun _ _ => trivial) rfl ?_
          refine wl_y (y_neq (ev_rfl rfl) (ev_rfl rfl) rfl) (fun _ _ => trivial) rfl ?_
          refine wl_y (y_move (ev_rfl rfl)) (fun _ _ => trivial) rfl ?_
          refine wl_yg (guard_no rfl rfl) (y_move (ev_rfl rfl)) (fun _ _ => trivial) rfl ?_
          refine wl_fact (fun w hi => rd_any (hi.rd (show Has _ (sl .u8 5 A10 ys.length c10 ys) from (by first | exact hasC0 | exact hasC1 | exact hasC2 | exact hasC3 | exact hasC4 | exact hasC5 | exact hasC6 | exact hasC7 | exact hasC8 | exact hasC9 | exact hasC10 | exact hasC11 | exact hasC12 | exact hasC13 | exact hasC14 | exact hasC15 | exact hasC16 | exact hasC17 | exact hasC18 | exact hasC19 | exact hasC20 | exact hasC21 | exact hasC22 | exact hasC23)))) (fun hrd102 => ?_)
          refine wl_yg (guard_no rfl rfl) (y_bstr rfl rfl rfl (ev_g rfl) hrd102) (fun w hi => RdV.cellsO (hi.rd (show Has _ (sl .u8 5 A10 ys.length c10 ys) from (by first | exact hasC0 | exact hasC1 | exact hasC2 | exact hasC3 | exact hasC4 | exact hasC5 | exact hasC6 | exact hasC7 | exact hasC8 | exact hasC9 | exact hasC10 | exact hasC11 | exact hasC12 | exact hasC13 | exact hasC14 | exact hasC15 | exact hasC16 | exact hasC17 | exact hasC18 | exact hasC19 | exact hasC20 | exact hasC21 | exact hasC22 | exact hasC23)))) rfl ?_
          refine wl_yg (guard_no rfl rfl) (y_move (ev_rfl rfl)) (fun _ _ => trivial) rfl ?_
          refine wl_fact (fun w hi => rd_any (hrd w (hi.rd (show Has _ (sl .u8 5 (some ⟨bb, 0, none⟩) Y.length c3 Y) from (by first | exact hasC0 | exact hasC1 | exact hasC2 | exact hasC3 | exact hasC4 | exact hasC5 | exact hasC6 | exact hasC7 | exact hasC8 | exact hasC9 | exact hasC10 | exact hasC11 | exact hasC12 | exact hasC13 | exact hasC14 | exact hasC15 | exact hasC16 | exact hasC17 | exact hasC18 | exact hasC19 | exact hasC20 | exact hasC21 | exact hasC22 | exact hasC23))) (hi.rd (show Has _ (sl .u8 5 A9 (Y ++ [0]).length c9 (Y ++ [0])) from (by first | exact hasC0 | exact hasC1 | exact hasC2 | exact hasC3 | exact hasC4 | exact hasC5 | exact hasC6 | exact hasC7 | exact hasC8 | exact hasC9 | exact hasC10 | exact hasC11 | exact hasC12 | exact hasC13 | exact hasC14 | exact hasC15 | exact hasC16 | exact hasC17 | exact hasC18 | exact hasC19 | exact hasC20 | exact hasC21 | exact hasC22 | exact hasC23))) (hB.oldN hi))) (fun hrd104 => ?_)
          refine wl_yg (guard_no rfl rfl) (y_bstr rfl rfl rfl (ev_g rfl) hrd104) (fun w hi => RdV.cellsO (hrd w (hi.rd (show Has _ (sl .u8 5 (some ⟨bb, 0, none⟩) Y.length c3 Y) from (by first | exact hasC0 | exact hasC1 | exact hasC2 | exact hasC3 | exact hasC4 | exact hasC5 | exact hasC6 | exact hasC7 | exact hasC8 | exact hasC9 | exact hasC10 | exact hasC11 | exact hasC12 | exact hasC13 | exact hasC14 | exact hasC15 | exact hasC16 | exact hasC17 | exact hasC18 | exact hasC19 | exact hasC20 | exact hasC21 | exact hasC22 | exact hasC23))) (hi.rd (show Has _ (sl .u8 5 A9 (Y ++ [0]).length c9 (Y ++ [0])) from (by first | exact hasC0 | exact hasC1 | exact hasC2 | exact hasC3 | exact hasC4 | exact hasC5 | exact hasC6 | exact hasC7 | exact hasC8 | exact hasC9 | exact hasC10 | exact hasC11 | exact hasC12 | exact hasC13 | exact hasC14 | exact hasC15 | exact hasC16 | exact hasC17 | exact hasC18 | exact hasC19 | exact hasC20 | exact hasC21 | exact hasC22 | exact hasC23))) (hB.oldN hi))) rfl ?_
          refine wl_yg (guard_no rfl rfl) (y_neqS rfl (ev_g rfl) (ev_g rfl) rfl) (fun _ _ => trivial) rfl ?_
          refine wl_y (y_or (ev_rfl rfl) (pk_no rfl (fun _ => rfl))) (fun _ _ => trivial) rfl ?_
          refine wl_nil ?_
          refine q_then ?_
          refine wc_cond_f rfl ((by simp)) ?_
          refine wc_skip ?_
          refine q_block ?_
          refine q_then ?_
          refine wc_region ?_
          refine wl_y (y_add (ev_rfl rfl) (ev_rfl rfl) (by first | exact IntWalk.i64_in _ ⟨by omega, by omega⟩ | exact rfl)) (fun _ _ => trivial) rfl ?_
          refine wl_y (y_move (ev_rfl rfl)) (fun _ _ => trivial) rfl ?_
          refine wl_nil ?_
          refine q_mid (k + 1) ?_ ?_ ?_
          · exact ⟨by omega, by omega⟩
          · ((repeat' (refine Wk.cons ?_ ?_)) <;> first | exact Wk.nil | exact rfl | exact trivial | exact wk_num rfl (by omega) | exact wk_num rfl (by simp))
          · ((repeat (first | exact List.Sublist.slnil | refine List.Sublist.cons_cons _ ?_ | refine List.Sublist.cons _ ?_)))
      · refine wc_exit ?_
        refine q_then_exit ?_
        refine q_then_exit ?_
        refine q_block_same rfl ?_
        refine q_then ?_
        refine wc_seq ?_
        refine wc_region ?_
        refine wl_t (t_call rfl (fun _ _ => rfl) (fun w hi => known_ok w)) rfl ?_
        rintro _ _ ⟨_, ⟨rfl, rfl⟩, rfl⟩
        refine wl_y (y_assign (ev_rfl rfl)) (fun _ _ => trivial) rfl ?_
        refine wl_nil ?_
        refine q_then ?_
        refine wc_ret ?_
        refine ret1 (cs' := []) (.inl rfl) (by ((repeat (first | exact List.Sublist.slnil | refine List.Sublist.cons_cons _ ?_ | refine List.Sublist.cons _ ?_)))) rfl rfl ?_
        exact ⟨rfl, rfl⟩
end Go.Proofs.Ytjknccgefnnfnaa
