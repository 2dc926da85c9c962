/- Joined: BkX BkY BkZ BlA. -/
import Derived.Test.YthcpmpmbgbibfaaGreatDoorBkMS
import Derived.Test.YthcpmpmbgbibfaaGreatDoorInkA
import Derived.Test.YthcpmpmbgbibfaaGreatDoorSsM
import Derived.Test.YthcpmpmbgbibfaaGreatDoorSqS
import Derived.Test.YthcpmpmbgbibfaaGreatDoorInkMN
/- The document's clock, lines, decoding; what is fetched, what ends a block. -/
set_option linter.unusedSimpArgs false
set_option linter.unusedVariables false
set_option maxRecDepth 100000
namespace Go.Ink
open Go.RowKit
theorem tick_yes {d : Dev} {c : Int} (h : ((d.timer != 0) && decide (d.timer ≤ IntKind.u32.wrap c)) = true) : d.tick c = { d with timer := 0, pend := bits .or .u32 d.pend 1 } := by
 unfold Dev.tick
 simp only [Bool.and_eq_true, bne_iff_ne, decide_eq_true_eq] at h
 rw [beq_eq_false_iff_ne.2 h.1, decide_eq_false (by omega)]
 rfl
theorem tick_no {d : Dev} {c : Int} (h : ((d.timer != 0) && decide (d.timer ≤ IntKind.u32.wrap c)) = false) : d.tick c = d := by
 unfold Dev.tick
 by_cases h1 : d.timer = 0
 ·rw [show (d.timer == 0) = true by simpa using h1, Bool.true_or]; rfl
 rw [show (d.timer != 0) = true by simpa using h1, Bool.true_and, decide_eq_false_iff_not] at h
 rw [decide_eq_true (show IntKind.u32.wrap c < d.timer by omega), Bool.or_true]; rfl
theorem low_hit {x k : Nat} (hk : k < 8) (h : lowFrom x k (8 - k) = lowOf x) (hc : (x / 2 ^ k % 2 == 1) = true) : lowSay x = (k : Int) := by
 obtain ⟨m, hm⟩ : ∃ m, 8 - k = m + 1 := ⟨7 - k, by omega⟩
 rw [hm, lowFrom, hc, cond_true] at h
 unfold lowSay
 rw [← h]
theorem low_miss {x k : Nat} (hk : k < 8) (h : lowFrom x k (8 - k) = lowOf x) (hc : (x / 2 ^ k % 2 == 1) = false) : lowFrom x (k + 1) (8 - (k + 1)) = lowOf x := by
 obtain ⟨m, hm⟩ : ∃ m, 8 - k = m + 1 := ⟨7 - k, by omega⟩
 rw [hm, lowFrom, hc, cond_false] at h
 rw [show 8 - (k + 1) = m by omega]
 exact h
theorem low_none {x : Nat} (h : lowFrom x 8 (8 - 8) = lowOf x) : lowSay x = -1 := by
 unfold lowSay
 rw [← h]
 rfl
theorem bits_one {a : Nat} (ha : a < 4294967296) : bits .and .u32 (a : Int) 1 = ((a % 2 : Nat) : Int) := by
 rw [show (1 : Int) = ((1 : Nat) : Int) from rfl, bits_and ha (by decide), Nat.and_one_is_mod]
theorem leOf_up : ∀ {l : List Int} {k : Nat} {x : Int}, l[k]? = some x → leOf (l.take (k + 1)) = leOf (l.take k) + x * 256 ^ k
 | [], _, _, h => by simp at h
 | b :: l, 0, x, h => by
  simp only [List.getElem?_cons_zero, Option.some.injEq] at h
  subst h
  simp [leOf]
 | b :: l, k + 1, x, h => by
  have e := leOf_up (l := l) (k := k) (x := x) (by simpa using h)
  rw [List.take_succ_cons, leOf, e, List.take_succ_cons, leOf, Int.pow_succ, Int.mul_add, Int.add_assoc, Int.mul_comm 256 (x * 256 ^ k), Int.mul_assoc]
theorem leOf_orUp {l : List Int} (hl : u8s l) {k : Nat} (hk : k ≤ 3) {x : Int} (hx : l[k]? = some x) : bits .or .u32 (leOf (l.take k)) (IntKind.u32.wrap (x * 2 ^ (8 * k))) = leOf (l.take (k + 1)) := by
 obtain ⟨r1, r2⟩ := leOf_rng (l := l.take k) (fun y hy => hl y (List.mem_of_mem_take hy))
 obtain ⟨hlt, -⟩ := List.getElem?_eq_some_iff.1 hx
 have hxb := hl x (List.mem_of_getElem? hx)
 have hlen : (l.take k).length = k := by rw [List.length_take]; omega
 have e : (2 : Int) ^ (8 * k) = 256 ^ k := by rw [Int.pow_mul]; rfl
 rw [hlen] at r2
 rw [leOf_up hx, or_sh (8 * k) (by omega) ⟨r1, by rw [e]; simpa using r2⟩ hxb, e]
theorem lowSay_some {x : Nat} : decide (0 ≤ lowSay x) = (lowOf x).isSome := by
 unfold lowSay
 cases lowOf x with
 | none => rfl
 | some k => exact decide_eq_true (by show (0 : Int) ≤ (k : Int); omega)
end Go.Ink
namespace Go.Proofs.YthcpmpmbgbibfaaGreatDoor
open Go.RowKit Go.Ink
attribute [local irreducible] OpY GuardIs

theorem reftick_ok (b bm bd : Nat) (Z : DAdr) (d : Dev) (count : Int) (w : World) (hi : Inv w (blocks (refBF b bm bd Z d)) (refBF b bm bd Z d) w) :
  Ctr Tryz.prog 61 [.pointer (some ⟨b, 0, none⟩), .int .u64 count] w (refBF b bm bd Z d) (fun v cs => v = .tuple #[] ∧ cs = refBF b bm bd Z (d.tick count)) := by
 have HY := tick_yes (d := d) (c := count)
 have HN := tick_no (d := d) (c := count)
 obtain ⟨dt, hdt⟩ : ∃ t, d.tick count = t := ⟨_, rfl⟩
 rw [hdt] at HY HN ⊢
 obtain ⟨pe, ma, ti, ou, inp, dk, se, pl, st⟩ := d
 obtain ⟨Ao, co, Ai, ci⟩ := Z
 dsimp only at HY HN
 refine fn_ctr Tryz.func61 rfl Tryz.ntmps61 rfl hi ?_
 refine Zs (Zr (ZA ?_))
 refine ZA ?_
 refine ZFa 3 ?_
 refine ZC ?_
 iterate 2 refine ZA ?_
 refine ZB ?_
 refine Zyy rfl rfl (y_conv rfl rfl (ev_g rfl) rfl) ?_
 iterate 2 refine ZB ?_
 refine ZFb 3 ?_
 refine ZD ?_
 refine ZB ?_
 refine ZA ?_
 refine Zn (Zt ?_)
 refine wc_cond _ rfl (fun hc0 => ?_) (fun hc0 => ?_)
 ·rw [HY hc0]
  refine Zs (Zr (ZA ?_))
  refine ZA ?_
  refine ZFa 3 ?_
  refine ZL ?_
  refine Zn (Zt (Zr (ZA ?_)))
  iterate 2 refine ZA ?_
  refine ZFa 1 ?_
  refine ZC ?_
  iterate 2 refine ZA ?_
  refine ZFa 1 ?_
  refine ZL ?_
  refine Zn (ret0 (cs' := [row _ _ _, slv _ _ _ _ _ _, rdC _ _ _ _, slv _ _ _ _ _ _]) (.inr rfl) Zu rfl ?_)
  exact ⟨rfl, rfl⟩
 rw [HN hc0]
 refine Zc (ret0 (cs' := [row _ _ _, slv _ _ _ _ _ _, rdC _ _ _ _, slv _ _ _ _ _ _]) (.inr rfl) Zu rfl ?_)
 exact ⟨rfl, rfl⟩
theorem refnext_ok (b bm bd x : Nat) (Z : DAdr) (d : Dev) (hx : bits .and .u32 d.pend d.mask = (x : Int)) (h256 : x < 256) (w : World) (h : (refBRow b bm bd Z d).ok w) :
  Ctr Tryz.prog 62 [.pointer (some ⟨b, 0, none⟩)] w [] (fun v cs => v = .int .i64 (lowSay x) ∧ cs = []) := by
 refine fn_ctr Tryz.func62 rfl Tryz.ntmps62 rfl (Inv.start w) ?_
 refine Zs (Zr (ZA ?_))
 refine Zn (Zt (Zs (Zs (Zr (ZA ?_)))))
 refine Zn (Zt (Zx ?_))
 refine wc_loop (fun k : Nat => [(0, .pointer (some ⟨b, 0, none⟩)), (3, .int .i64 (k : Int))]) (fun _ => []) (fun k => k ≤ 8 ∧ lowFrom x k (8 - k) = lowOf x) (fun k => 8 - k) (0) ?_ ?_ ?_ ?_
 ·exact ⟨Nat.zero_le _, rfl⟩
 ·exact Zwk
 ·((repeat (first | exact List.Sublist.slnil | refine List.Sublist.cons_cons _ ?_ | refine List.Sublist.cons _ ?_)))
 rintro k ⟨hk, hlf⟩
 refine Zs (Zs (Zr (ZA ?_)))
 refine ZA ?_
 refine Zn (Zt ?_)
 refine wc_cond _ rfl (fun hc2 => ?_) (fun hc2 => ?_)
 ·simp only [decide_eq_true_eq] at hc2
  have hk8 : k < 8 := (by omega)
  have hle : x / 2 ^ k ≤ x := Nat.div_le_self _ _
  refine Zc (Zt (Zs (Zx (Zs (wc_draw ⟨fun j => List.elem j [], []⟩ Zk ?_)))))
  refine ZE 0 ?_
  refine ZE 1 ?_
  refine ZFe 2 1 ?_
  refine wa_ln 3 rfl Zk Zk Zk Zk (y_load (fun _ => rfl) (Zv rfl)) (old_row (by assumption) rfl) rfl ?_
  refine ZE 4 ?_
  refine ZE 5 ?_
  refine ZFe 6 2 ?_
  refine wa_ln 7 rfl Zk Zk Zk Zk (y_load (fun _ => rfl) (Zv rfl)) (old_row (by assumption) rfl) rfl ?_
  refine wa_yn 8 rfl Zk Zk Zk (y_and_ (Zv rfl) (Zv rfl) hx) rfl ?_
  refine ZE 9 ?_
  refine wa_yn 10 rfl Zk Zk Zk (y_conv rfl rfl (Zv rfl) (show _ = (k : Int) from by first | exact u64_wrap_id _ (by omega) (by omega) | exact uint_wrap_id _ (by omega) (by omega))) rfl ?_
  refine wa_yn 11 rfl Zk Zk Zk (y_shr (Zv rfl) (Zv rfl) (by omega) (shr_line hk8)) rfl ?_
  refine wa_yn 12 rfl Zk Zk Zk (y_and_ (Zv rfl) (Zv rfl) (bits_one (by omega))) rfl ?_
  refine wa_yn 13 rfl Zk Zk Zk (y_eql (Zv rfl) (Zv rfl) (natBeq _ 1)) rfl ?_
  refine wa_done Zk ?_
  refine Zt ?_
  refine wc_cond _ rfl (fun hc4 => ?_) (fun hc4 => ?_)
  ·refine Zs (Zr (ZA ?_))
   refine ZA ?_
   refine Zn (Zt (Ze (Zq (Zw (Zw (Zq (Zw (ret1 (cs' := []) (.inl rfl) Zu rfl rfl ?_))))))))
   exact ⟨by rw [low_hit hk8 hlf hc4], rfl⟩
  refine Zc (Zo (Zt (Zr (ZA ?_))))
  refine Zy (y_add (Zv rfl) (Zv rfl) Zl) ?_
  refine ZA ?_
  refine Zn ?_
  refine q_mid (k + 1) ?_ ?_ ?_
  ·exact ⟨⟨by omega, low_miss hk8 hlf hc4⟩, by omega⟩
  ·exact Zwk
  ((repeat (first | exact List.Sublist.slnil | refine List.Sublist.cons_cons _ ?_ | refine List.Sublist.cons _ ?_)))
 simp only [decide_eq_false_iff_not] at hc2
 obtain rfl : k = 8 := (by omega)
 refine wc_exit ?_
 refine q_then_exit ?_
 refine q_then_exit ?_
 refine q_block_same rfl ?_
 refine Zt (Zs (Zr (ZA ?_)))
 refine Zn (Zt (Ze (ret1 (cs' := []) (.inl rfl) Zu rfl rfl ?_)))
 exact ⟨by rw [low_none hlf], rfl⟩
theorem refends2_ok (op : Int) (w : World) : Ctr Tryz.prog 98 [.int .i64 op] w [] (fun v cs => v = .bool (endsOp op) ∧ cs = []) := by
 refine fn_ctr Tryz.func98 rfl Tryz.ntmps98 rfl (Inv.start w) ?_
 refine Zs (Zr (ZA ?_))
 refine Zn (Zt (Zs (Zr (ZA ?_))))
 iterate 2 refine ZA ?_
 iterate 2 refine ZB ?_
 iterate 2 refine ZA ?_
 iterate 6 refine ZB ?_
 iterate 2 refine ZA ?_
 refine Zn (Zt (Ze (ret1 (cs' := []) (.inl rfl) Zu rfl rfl ?_)))
 exact ⟨rfl, rfl⟩
set_option maxHeartbeats 1000000 in
theorem refdecode_ok (A : Option Addr) (c : Nat) (b : List Int) (hb : u8s b) (w : World) (h : Rd w .u8 A b.length c b) :
  Ctr Tryz.prog 68 [.slice A b.length c] w [] (fun v cs => (∃ y : Bool, v = .tuple #[.agg (insV (decodeOf b)).toArray, .int .i64 (insN (decodeOf b) : Int), .bool y]) ∧ cs = []) := by
 have hlm : b.length ≤ maxLen := Nat.le_trans h.cap h.max
 simp only [maxLen] at hlm
 cases b with
 | nil =>
  refine fn_ctr Tryz.func68 rfl Tryz.ntmps68 rfl (Inv.start w) ?_
  refine Zs (Zr (ZN fun b2 => ?_))
  iterate 2 refine ZA ?_
  refine Zn (Zt (Zs (Zs (Zr (ZA ?_)))))
  iterate 2 refine ZA ?_
  refine Zn (Zt (wc_cond_t rfl (rfl) ?_))
  refine Zs (Zr (ZA ?_))
  refine ZM ?_
  iterate 2 refine ZA ?_
  refine Zn (Zt (Ze (Zw (retC2 (cs' := []) (.inl rfl) Zu rfl rfl rfl rfl Zh (fun _ => rfl) (fun _ => rfl) ?_))))
  exact ⟨⟨true, rfl⟩, rfl⟩
 | cons op l =>
  have hop := hb op (by simp)
  have hl : u8s l := fun x hx => hb x (List.mem_cons_of_mem _ hx)
  have hlen : (op :: l).length = l.length + 1 := rfl
  obtain ⟨ad, rfl⟩ := h.some_ (by rw [hlen]; omega)
  have hz5 : opSize op = 0 ∨ opSize op = 1 ∨ opSize op = 2 ∨ opSize op = 5 := opSize_cases op
  have HS := refsize_ok op
  have hn0 : 0 ≤ opSize op := by omega
  obtain ⟨z0, hz0⟩ : ∃ z : Nat, opSize op = z := Int.eq_ofNat_of_zero_le hn0
  have E0 := fun h => decodeOf_zero (op := op) l h
  have E1 := fun h => decodeOf_short (op := op) (l := l) h
  have E2 := fun z h1 h2 => decodeOf_some (op := op) (l := l) (z := z) h1 h2
  rw [hz0] at hz5 HS E0 E1 E2
  have hz6 : z0 ≤ 5 := by omega
  refine fn_ctr Tryz.func68 rfl Tryz.ntmps68 rfl (Inv.start w) ?_
  refine Zs (Zr (ZN fun b2 => ?_))
  iterate 2 refine ZA ?_
  refine Zn (Zt (Zs (Zs (Zr (ZA ?_)))))
  iterate 2 refine ZA ?_
  refine Zn (Zt (wc_cond_f rfl ((beq_eq_false_iff_ne.2 (by rw [hlen]; omega))) ?_))
  refine Zc (Zt (Zs (Zr (ZA ?_))))
  refine Zy (y_index (j := 0)  rfl (fun _ => rfl) (Zv rfl) (Zv rfl)  (fun _ => by omega) (fun _ => by omega)) ?_
  refine wl_y (y_load (fun _ => rfl) (Zv rfl)) (rd_cell h (ints_at (l := op :: l) (j := 0) rfl)) rfl ?_
  refine Zy (y_conv rfl rfl (Zv rfl) Zl) ?_
  refine ZA ?_
  refine ZN fun b5 => ?_
  refine ZM ?_
  refine Zn (Zt (Zs (Zr (ZFa 0 ?_))))
  refine ZC ?_
  refine ZS (fun w hi => HS w) ?_
  rintro _ _ ⟨_, ⟨rfl, rfl⟩, rfl⟩
  refine ZA ?_
  refine Zn (Zt (Zs (Zs (Zr (ZA ?_)))))
  refine ZA ?_
  refine Zn (Zt ?_)
  refine wc_cond _ rfl (fun hc5 => ?_) (fun hc5 => ?_)
  ·rw [E0 (beqZ hc5)]
   refine Zs (Zr (ZA ?_))
   refine ZM ?_
   iterate 2 refine ZA ?_
   refine Zn (Zt (Ze (Zw (retC2 (cs' := []) (.inl rfl) Zu rfl rfl rfl rfl Zh (fun _ => rfl) (fun _ => rfl) ?_))))
   exact ⟨⟨false, rfl⟩, rfl⟩
  have hz1 : 1 ≤ z0 := (by have := ne_of_beq_false hc5; omega)
  refine Zc (Zt (Zs (Zs (Zr (ZA ?_)))))
  iterate 3 refine ZA ?_
  refine Zn (Zt ?_)
  refine wc_cond _ rfl (fun hc7 => ?_) (fun hc7 => ?_)
  ·simp only [decide_eq_true_eq] at hc7
   rw [E1 (by rw [hlen] at hc7; omega)]
   refine Zs (Zr (ZA ?_))
   refine ZM ?_
   iterate 2 refine ZA ?_
   refine Zn (Zt (Ze (Zw (retC2 (cs' := []) (.inl rfl) Zu rfl rfl rfl rfl Zh (fun _ => rfl) (fun _ => rfl) ?_))))
   exact ⟨⟨true, rfl⟩, rfl⟩
  simp only [decide_eq_false_iff_not] at hc7
  obtain ⟨z, rfl⟩ : ∃ z, z0 = z + 1 := ⟨z0 - 1, by omega⟩
  have hzl : z ≤ l.length := (by rw [hlen] at hc7; omega)
  rw [E2 z rfl hzl]
  obtain ⟨N, hN⟩ : ∃ N : Nat → Int, (fun k => leOf (l.take k)) = N := ⟨_, rfl⟩
  have hNz : N z = leOf (l.take z) := (by rw [← hN])
  have hN0 : N 0 = 0 := (by rw [← hN]; rfl)
  have hNs : ∀ k x, k ≤ 3 → l[k]? = some x → bits .or .u32 (N k) (IntKind.u32.wrap (x * 2 ^ (8 * k))) = N (k + 1) := (fun k x h1 h2 => by rw [← hN]; exact leOf_orUp hl h1 h2)
  rw [← hNz]
  refine Zc (Zt (Zs (Zs (Zr (wl_pick ([row b2 [.int .i64 0, .int .u32 0] 79, row b5 [.int .i64 op, .int .u32 0] 79]) Zj ?_)))))
  rw [show row b5 [Value.int .i64 op, Value.int .u32 0] 79 = row b5 [Value.int .i64 op, Value.int .u32 (N 0)] 79 from by rw [hN0]]
  refine ZA ?_
  refine Zn (Zt (Zx ?_))
  refine wc_loop (fun k : Nat => [(0, .slice (some ad) (op :: l).length c), (2, .pointer (some ⟨b2, 0, none⟩)), (5, .pointer (some ⟨b5, 0, none⟩)), (6, .int .i64 ((z + 1 : Nat) : Int)), (7, .int .i64 ((k + 1 : Nat) : Int))]) (fun k => [row b2 [.int .i64 0, .int .u32 0] 79, row b5 [.int .i64 op, .int .u32 (N k)] 79]) (fun k => k ≤ z) (fun k => z - k) (0) ?_ ?_ ?_ ?_
  ·exact Nat.zero_le _
  ·exact Zwk
  ·((repeat (first | exact List.Sublist.slnil | refine List.Sublist.cons_cons _ ?_ | refine List.Sublist.cons _ ?_)))
  rintro k hk
  refine Zs (Zs (Zr (ZA ?_)))
  iterate 2 refine ZA ?_
  refine Zn (Zt ?_)
  refine wc_cond _ rfl (fun hc10 => ?_) (fun hc10 => ?_)
  ·simp only [decide_eq_true_eq] at hc10
   have hkz : k < z := (by omega)
   have hx : l[k]? = some (l[k]'(by omega)) := List.getElem?_eq_getElem (by omega)
   have hxb := hl _ (List.getElem_mem (show k < l.length by omega))
   obtain ⟨x, hxx⟩ : ∃ x, l[k]'(by omega) = x := ⟨_, rfl⟩
   rw [hxx] at hx hxb
   have hst := hNs k x (by omega) hx
   refine Zc (Zt (Zs (Zx (wc_draw ⟨fun j => List.elem j [14], []⟩ Zk ?_))))
   refine ZFe 0 1 ?_
   refine ZG 1 ?_
   refine ZE 2 ?_
   refine ZE 3 ?_
   refine wa_yn 4 rfl Zk Zk Zk (y_index (j := k + 1)  rfl (fun _ => rfl) (Zv rfl) (Zv rfl)  (fun _ => by omega) (fun _ => by omega)) rfl ?_
   refine wa_ln 5 rfl Zk Zk Zk Zk (y_load (fun _ => rfl) (Zv rfl)) (rd_cell h (ints_at (l := op :: l) (j := k + 1) hx)) rfl ?_
   refine wa_yn 6 rfl Zk Zk Zk (y_conv rfl rfl (Zv rfl) (u32_wrap_id _ (by omega) (by omega))) rfl ?_
   refine ZE 7 ?_
   refine wa_yn 8 rfl Zk Zk Zk (y_sub (Zv rfl) (Zv rfl) (show _ = (k : Int) from by rw [IntWalk.i64_in _ ⟨by omega, by omega⟩]; omega)) rfl ?_
   refine wa_yn 9 rfl Zk Zk Zk (y_conv rfl rfl (Zv rfl) (show _ = (k : Int) from by first | exact u64_wrap_id _ (by omega) (by omega) | exact uint_wrap_id _ (by omega) (by omega))) rfl ?_
   refine wa_yn 10 rfl Zk Zk Zk (y_mul (Zv rfl) (Zv rfl) (show _ = ((8 * k : Nat) : Int) from (u64_wrap_id _ (by omega) (by omega)).trans (by omega))) rfl ?_
   refine wa_yn 11 rfl Zk Zk Zk (y_shl (Zv rfl) (Zv rfl) (by omega) (show _ = IntKind.u32.wrap (x * 2 ^ (8 * k)) from by rw [minU (show 8 * k ≤ 31 by omega)])) rfl ?_
   refine wa_yn 12 rfl Zk Zk Zk (y_or_ (Zv rfl) (Zv rfl) hst) rfl ?_
   refine ZFe 13 1 ?_
   refine wa_1 14 Zk ?_
   refine ZQ ?_
   refine wa_done Zk ?_
   refine Zo (Zt (Zr (ZA ?_)))
   refine Zy (y_add (Zv rfl) (Zv rfl) (show _ = ((k + 1 + 1 : Nat) : Int) from by rw [IntWalk.i64_in _ ⟨by omega, by omega⟩]; omega)) ?_
   refine ZA ?_
   refine Zn ?_
   refine q_mid (k + 1) ?_ ?_ ?_
   ·exact ⟨show k + 1 ≤ z by omega, show z - (k + 1) < z - k by omega⟩
   ·exact Zwk
   ((repeat (first | exact List.Sublist.slnil | refine List.Sublist.cons_cons _ ?_ | refine List.Sublist.cons _ ?_)))
  simp only [decide_eq_false_iff_not] at hc10
  obtain rfl : k = z := (by omega)
  refine wc_exit ?_
  refine q_then_exit ?_
  refine q_then_exit ?_
  refine q_block_same rfl ?_
  refine Zt (Zs (Zr (wl_loadRow Zh (fun _ => rfl) (fun _ => rfl) (Zv rfl) rfl ?_)))
  refine ZA ?_
  refine ZM ?_
  iterate 2 refine ZA ?_
  refine Zn (Zt (Ze (retC2 (cs' := []) (.inl rfl) Zu rfl rfl rfl rfl Zh (fun _ => rfl) (fun _ => rfl) ?_)))
  exact ⟨⟨false, rfl⟩, rfl⟩
set_option maxHeartbeats 1000000 in
theorem reffetch_ok (K : RMLoc) (bx n : Nat) (T : List TE) (M : Mem) (hM : MOk n M) (p : Nat) (hp : p ≤ 4294967295) (w : World) (h : (refURow bx K.bm T).ok w) (h2 : (rmRow K n).ok w) (h3 : (rmB K n M).ok w) :
  Ctr Tryz.prog 27 [.pointer (some ⟨bx, 0, none⟩), .int .u32 (p : Int)] w [] (fun v cs => v = .tuple #[.agg (insV (fetchOf n M p)).toArray, .int .i64 (insN (fetchOf n M p) : Int)] ∧ cs = []) := by
 have hn := hM.n64
 have hdl := hM.m.dl
 have hdb := hM.m.db
 have hr : Rd w .u8 (some ⟨K.bB, 0, none⟩) (n * 64) (n * 64) M.data := slv_rd h3
 have HH := fun w h => refhas_ok K n hn p 1 (by omega) (by decide) w h
 by_cases hpn : p / 64 < n
 ·rw [fetchOf_in hpn]
  rw [decide_eq_true (show p + 1 ≤ n * 64 by omega)] at HH
  have hXl : ((M.data.drop (p / 64 * 64)).take 64).length = 64 := by rw [List.length_take, List.length_drop]; omega
  have hXb : u8s ((M.data.drop (p / 64 * 64)).take 64) := fun x hx => hdb x (List.mem_of_mem_drop (List.mem_of_mem_take hx))
  have hcut := RdV.cut hr (lo := p) (hi := (p / 64 + 1) * 64) (by omega) (by omega)
  rw [if_neg (by omega), Option.map_some, Addr.add_lit, Nat.zero_add, Nat.mul_one] at hcut
  have hX2 : ((ints .u8 M.data).take ((p / 64 + 1) * 64)).drop p = ints .u8 (((M.data.drop (p / 64 * 64)).take 64).drop (p % 64)) := by
   unfold ints
   rw [← List.map_take, ← List.map_drop]
   congr 1
   rw [List.take_drop, List.drop_drop, show p / 64 * 64 + p % 64 = p by omega, show p / 64 * 64 + 64 = (p / 64 + 1) * 64 by omega]
  rw [hX2, show (p / 64 + 1) * 64 - p = 64 - p % 64 by omega] at hcut
  obtain ⟨X, hX⟩ : ∃ X, (M.data.drop (p / 64 * 64)).take 64 = X := ⟨_, rfl⟩
  rw [hX] at hXl hXb hcut ⊢
  have hbl : (X.drop (p % 64)).length = 64 - p % 64 := by rw [List.length_drop, hXl]
  have HD := fun A c w h => refdecode_ok A c (X.drop (p % 64)) (fun x hx => hXb x (List.mem_of_mem_drop hx)) w h
  rw [hbl] at HD
  obtain ⟨o, ho⟩ : ∃ o, decodeOf (X.drop (p % 64)) = o := ⟨_, rfl⟩
  rw [ho] at HD ⊢
  obtain ⟨e1, he1⟩ : ∃ e, 64 - p % 64 = e := ⟨_, rfl⟩
  rw [he1] at HD hcut
  refine fn_ctr Tryz.func27 rfl Tryz.ntmps27 rfl (Inv.start w) ?_
  refine Zs (Zr (ZN fun b4 => ?_))
  refine ZA ?_
  refine Zn (Zt (Zs (Zs (Zr (ZA ?_)))))
  refine ZA ?_
  refine ZFa 0 ?_
  refine wl_y (y_load (fun _ => rfl) (Zv rfl)) (old_row (by assumption) rfl) rfl ?_
  refine ZA ?_
  refine Zy (y_conv rfl rfl (Zv rfl) (u64_wrap_id _ (by omega) (by omega))) ?_
  refine ZS (fun w hi => HH w (Chunk.old h2 hi)) ?_
  rintro _ _ ⟨_, ⟨rfl, rfl⟩, rfl⟩
  refine ZA ?_
  refine Zn (Zt (wc_cond_f rfl (rfl) ?_))
  refine Zc (Zt (Zs (Zr (ZA ?_))))
  refine Zy (y_quo (Zv rfl) (Zv rfl) (by omega) (show _ = ((p / 64 : Nat) : Int) from by rw [Int.tdiv_eq_ediv_of_nonneg (by omega), u32_wrap_id _ (by omega) (by omega)]; omega)) ?_
  refine Zy (y_add (Zv rfl) (Zv rfl) (show _ = ((p / 64 + 1 : Nat) : Int) from by rw [u32_wrap_id _ (by omega) (by omega)]; omega)) ?_
  refine Zy (y_mul (Zv rfl) (Zv rfl) (show _ = (((p / 64 + 1) * 64 : Nat) : Int) from by rw [u32_wrap_id _ (by omega) (by omega)]; omega)) ?_
  refine ZA ?_
  refine Zn (Zt (Zs (Zr (ZA ?_))))
  refine ZA ?_
  refine ZFa 0 ?_
  refine wl_y (y_load (fun _ => rfl) (Zv rfl)) (old_row (by assumption) rfl) rfl ?_
  refine ZA ?_
  refine ZFa 0 ?_
  refine wl_y (y_load (fun _ => rfl) (Zv rfl)) (old_row (by assumption) rfl) rfl ?_
  iterate 2 refine ZA ?_
  refine Zy (y_sliceS (sz := 1) (lo := p) (hi := (p / 64 + 1) * 64) (r := p) rfl (fun _ => rfl) (Zv rfl) (.inr ⟨_, _, rfl, (Zv rfl)⟩) (.inr ⟨_, _, rfl, (Zv rfl)⟩) (by omega) (by omega) (by omega) (by omega)) ?_
  rw [show (p / 64 + 1) * 64 - p = e1 by omega]
  refine ZS (fun w hi => HD (some ⟨K.bB, p, none⟩) (n * 64 - p) w (RdV.oldN hcut hi)) ?_
  rintro _ _ ⟨_, ⟨⟨y, rfl⟩, rfl⟩, rfl⟩
  iterate 4 refine ZA ?_
  refine ZN fun b7 => ?_
  refine ZM ?_
  iterate 2 refine ZA ?_
  refine Zn (Zt (Zs (Zr (wl_loadRow Zh (fun _ => rfl) (fun _ => rfl) (Zv rfl) rfl ?_))))
  refine ZA ?_
  refine ZM ?_
  refine ZA ?_
  refine Zn (Zt (Ze (retC1 (cs' := []) (.inl rfl) Zu rfl rfl rfl Zh (fun _ => rfl) (fun _ => rfl) ?_)))
  exact ⟨rfl, rfl⟩
 rw [fetchOf_no (by omega)]
 rw [decide_eq_false (show ¬ p + 1 ≤ n * 64 by omega)] at HH
 refine fn_ctr Tryz.func27 rfl Tryz.ntmps27 rfl (Inv.start w) ?_
 refine Zs (Zr (ZN fun b4 => ?_))
 refine ZA ?_
 refine Zn (Zt (Zs (Zs (Zr (ZA ?_)))))
 refine ZA ?_
 refine ZFa 0 ?_
 refine wl_y (y_load (fun _ => rfl) (Zv rfl)) (old_row (by assumption) rfl) rfl ?_
 refine ZA ?_
 refine Zy (y_conv rfl rfl (Zv rfl) (u64_wrap_id _ (by omega) (by omega))) ?_
 refine ZS (fun w hi => HH w (Chunk.old h2 hi)) ?_
 rintro _ _ ⟨_, ⟨rfl, rfl⟩, rfl⟩
 refine ZA ?_
 refine Zn (Zt (wc_cond_t rfl (rfl) ?_))
 refine Zs (Zr (ZA ?_))
 refine ZM ?_
 refine ZA ?_
 refine Zn (Zt (Ze (Zw (retC1 (cs' := []) (.inl rfl) Zu rfl rfl rfl Zh (fun _ => rfl) (fun _ => rfl) ?_))))
 exact ⟨rfl, rfl⟩
theorem refhas18_ok (A : Option Addr) (c : Nat) (l : List Int) (x : Int) (w : World) (h : Rd w .i64 A l.length c l) : Ctr Tryz.prog 99 [.slice A l.length c, .int .i64 x] w [] (fun v cs => v = .bool (l.contains x) ∧ cs = []) := by
 have hlm : l.length ≤ maxLen := Nat.le_trans h.cap h.max
 simp only [maxLen] at hlm
 refine fn_ctr Tryz.func99 rfl Tryz.ntmps99 rfl (Inv.start w) ?_
 refine Zs (Zr (ZA ?_))
 refine Zn (Zt (Zs (Zs (Zr (ZA ?_)))))
 refine Zn (Zt (Zx ?_))
 refine wc_loop (fun k : Nat => [(0, .slice A l.length c), (1, .int .i64 x), (5, .int .i64 (k : Int))]) (fun _ => []) (fun k => k ≤ l.length ∧ ∀ j, j < k → l[j]? ≠ some x) (fun k => l.length - k) (0) ?_ ?_ ?_ ?_
 ·exact ⟨Nat.zero_le _, fun j hj => by omega⟩
 ·exact Zwk
 ·((repeat (first | exact List.Sublist.slnil | refine List.Sublist.cons_cons _ ?_ | refine List.Sublist.cons _ ?_)))
 rintro k ⟨hk, hno⟩
 refine Zs (Zs (Zr (ZA ?_)))
 iterate 3 refine ZA ?_
 refine Zn (Zt ?_)
 refine wc_cond _ rfl (fun hc2 => ?_) (fun hc2 => ?_)
 ·simp only [decide_eq_true_eq] at hc2
  have hkl : k < l.length := (by omega)
  obtain ⟨ad, rfl⟩ := h.some_ (by omega)
  have hy : l[k]? = some (l[k]'hkl) := List.getElem?_eq_getElem hkl
  obtain ⟨y, hyy⟩ : ∃ x, l[k]'hkl = x := ⟨_, rfl⟩
  rw [hyy] at hy
  refine Zc (Zt (Zs (Zx (Zs (Zr (ZA ?_))))))
  refine ZA ?_
  refine Zy (y_index (j := k)  rfl (fun _ => rfl) (Zv rfl) (Zv rfl)  (fun _ => by omega) (fun _ => by omega)) ?_
  refine wl_y (y_load (fun _ => rfl) (Zv rfl)) (rd_cell h (ints_at hy)) rfl ?_
  iterate 2 refine ZA ?_
  refine Zn (Zt ?_)
  refine wc_cond _ rfl (fun hc4 => ?_) (fun hc4 => ?_)
  ·have e := beqZ hc4
   refine Zs (Zr (ZA ?_))
   refine Zn (Zt (Ze (Zq (Zw (Zw (Zq (Zw (ret1 (cs' := []) (.inl rfl) Zu rfl rfl ?_))))))))
   exact ⟨by rw [List.contains_eq_mem, decide_eq_true (e ▸ List.mem_of_getElem? hy)], rfl⟩
  refine Zc (Zo (Zt (Zr (ZA ?_))))
  refine Zy (y_add (Zv rfl) (Zv rfl) Zl) ?_
  refine ZA ?_
  refine Zn ?_
  refine q_mid (k + 1) ?_ ?_ ?_
  ·exact ⟨⟨by omega, fun j hj => by rcases Nat.lt_or_ge j k with h1 | h1; exact hno j h1; obtain rfl : j = k := (by omega); rw [hy]; intro e; exact ne_of_beq_false hc4 (Option.some.inj e)⟩, by omega⟩
  ·exact Zwk
  ((repeat (first | exact List.Sublist.slnil | refine List.Sublist.cons_cons _ ?_ | refine List.Sublist.cons _ ?_)))
 simp only [decide_eq_false_iff_not] at hc2
 have hnm : l.contains x = false := (by rw [List.contains_eq_mem, decide_eq_false_iff_not]; intro hm; obtain ⟨j, hj, e⟩ := List.getElem_of_mem hm; exact hno j (by omega) (by rw [List.getElem?_eq_getElem hj, e]))
 refine wc_exit ?_
 refine q_then_exit ?_
 refine q_then_exit ?_
 refine q_block_same rfl ?_
 refine Zt (Zs (Zr (ZA ?_)))
 refine Zn (Zt (Ze (ret1 (cs' := []) (.inl rfl) Zu rfl rfl ?_)))
 exact ⟨by rw [hnm], rfl⟩
theorem refnext18_ok (op nn : Int) (r : Res) (X : SAdr) (Ap : Option Addr) (cp : Nat) (page was : Int) (hpc : u32 r.s.pc) (hw : u32 was) (w : World) (h : Rd w .i64 Ap r.pages.length cp r.pages) :
  Ctr Tryz.prog 45 [.agg #[.int .i64 op, .int .u32 nn], .agg (resCells r X Ap cp).toArray, .int .i64 page, .int .u32 was] w [] (fun v cs => v = .bool (nextOf op r page was) ∧ cs = []) := by
 have HC := fun w h => refhas18_ok Ap cp r.pages page w h
 have hq : ∀ x : Int, u32 x → IntKind.u32.wrap (x.tdiv 64) = x / 64 := fun x hx => by obtain ⟨h1, h2⟩ := hx; rw [Int.tdiv_eq_ediv_of_nonneg h1, u32_wrap_id _ (by omega) (by omega)]
 refine fn_ctr Tryz.func45 rfl Tryz.ntmps45 rfl (Inv.start w) ?_
 refine Zs (Zr (ZO fun b4 => ?_))
 refine ZO fun b5 => ?_
 refine ZA ?_
 refine Zn (Zt (Zs (Zr (ZFa 0 ?_))))
 refine ZC ?_
 refine ZS (fun w hi => refends2_ok op w) ?_
 rintro _ _ ⟨_, ⟨rfl, rfl⟩, rfl⟩
 iterate 2 refine ZA ?_
 refine ZFb 16 ?_
 refine ZD ?_
 refine ZB ?_
 iterate 2 refine ZA ?_
 refine ZFb 17 ?_
 refine ZD ?_
 refine ZB ?_
 iterate 2 refine ZA ?_
 refine ZFb 18 ?_
 refine ZD ?_
 refine ZB ?_
 refine wl_callg (guard_yes rfl rfl) (.cons (ev_g rfl) (.cons (ev_g rfl) .nil)) (fun _ _ => rfl) (fun hg w hi => HC w (RdV.oldN h hi)) rfl ?_
 refine ZB ?_
 iterate 2 refine ZA ?_
 refine ZFb 0 ?_
 refine ZFb 15 ?_
 refine ZD ?_
 refine ZB ?_
 iterate 2 refine ZA ?_
 refine ZFb 0 ?_
 refine ZFb 0 ?_
 refine ZD ?_
 refine Zyy rfl rfl (y_quo (ev_g rfl) (Zv rfl) (by omega) (hq _ hpc)) ?_
 refine ZB ?_
 refine Zyy rfl rfl (y_quo (ev_g rfl) (Zv rfl) (by omega) (hq _ hw)) ?_
 refine ZB ?_
 iterate 2 refine ZA ?_
 refine Zn (Zt (Ze (ret1 (cs' := []) (.inl rfl) Zu rfl rfl ?_)))
 refine ⟨congrArg Value.bool ?_, rfl⟩
 unfold nextOf
 cases endsOp op <;> cases r.trapped <;> cases r.device <;> cases r.s.halted <;> cases r.pages.contains page <;> rfl
end Go.Proofs.YthcpmpmbgbibfaaGreatDoor
/- The document's block: its beginning, its instructions. -/
set_option linter.unusedSimpArgs false
set_option linter.unusedVariables false
set_option maxRecDepth 100000
namespace Go.Ink
open Go.RowKit
theorem MOk.begin {n : Nat} {s : St} {U : Mmu} {d : Dev} (h : MOk n U.m) (hw : ∀ root va kind super, MOk n (walkTo n U.m root va kind super).2) : MOk n (beginTo n s U d).u.m := by
 unfold beginTo
 refine cond_all (fun b : Begun => MOk n b.u.m) h ?_
 unfold beginGo
 dsimp only
 exact cond_all (fun b : Begun => MOk n b.u.m) (h.placeTo _ _ _ (hw _ _ _ _)) (h.placeTo _ _ _ (hw _ _ _ _))
theorem MOk.rest {n page : Nat} : ∀ (k : Nat) {s : St} {p : Nat} {U : Mmu} {d : Dev}, GOk n s U d → MOk n U.m → MOk n (restTo n page k s p U d).2.1.m
 | 0, s, p, U, d, _, h => h
 | k + 1, s, p, U, d, hG, h => by
  unfold restTo
  cases hf : fetchOf n U.m p with
  | none => exact h
  | some o =>
   obtain ⟨⟨op, nn⟩, z⟩ := o
   obtain ⟨f1, -⟩ := fetchOf_rng hG.u.m hf
   have hg := do_goes (op := op) (nn := nn) hG.wf hG.right f1 hG.u hG.dv
   have hl := do_lines (n := n) (op := op) (nn := nn) (s := s) (U := U) hG.lines
   have hm := h.do (d := d) hG.dv.wf (s := s) hG.wf.d op nn
   obtain ⟨⟨q, U1, d1⟩, hq⟩ : ∃ q, doTo n s op nn U d = q := ⟨_, rfl⟩
   rw [hq] at hg hl hm
   obtain ⟨g1, g2, -, g4, g5, -⟩ := hg
   dsimp only at g1 g2 g4 g5 hl hm ⊢
   rw [hq]
   dsimp only
   cases nextOf op q page s.pc with
   | false => exact hm
   | true => exact MOk.rest k ⟨g1, g2, g4, g5, hl⟩ hm
theorem MOk.block {n : Nat} {s : St} {U : Mmu} {d : Dev} (hG : GOk n s U d) (h : MOk n U.m) (hw : ∀ root va kind super, MOk n (walkTo n U.m root va kind super).2) : MOk n (blockTo n s U d).2.1.m := by
 have hb := (begin_goes hG).g
 have hm := h.begin (s := s) (d := d) hw
 unfold blockTo
 dsimp only
 cases (beginTo n s U d).runs with
 | true => exact MOk.rest 8 hb hm
 | false => exact hm
theorem lowSay_k {x k : Nat} (h : lowOf x = some k) : lowSay x = (k : Int) := by unfold lowSay; rw [h]
end Go.Ink
namespace Go.Proofs.YthcpmpmbgbibfaaGreatDoor
open Go.RowKit Go.Ink
attribute [local irreducible] OpY GuardIs

/-- The document's parts. -/
abbrev rgF (K : RMLoc) (bx n b bd : Nat) (Z : DAdr) (U : Mmu) (d : Dev) : List Chunk := ruF K bx n U ++ refBF b K.bm bd Z d
set_option maxHeartbeats 2000000 in
theorem refbegin_ok (K : RMLoc) (bx n b bd : Nat) (Z : DAdr) (s : St) (hwf : s.wf) (hr : s.right = true) (Ad Ar : Option Addr) (cd cr : Nat) (U : Mmu) (hM : MOk n U.m) (hT : U.t.length = 16) (d : Dev) (hm : (d.tick s.count).lines) (w : World) (hi : Inv w (blocks (rgF K bx n b bd Z U d)) (rgF K bx n b bd Z U d) w)
  (h : ∀ w', Keep (blocks (rgF K bx n b bd Z U d)) w w' → RdSt w' s Ad Ar cd cr) :
  Ctr Tryz.prog 25 [sv s Ad cd Ar cr, .pointer (some ⟨bx, 0, none⟩), .pointer (some ⟨b, 0, none⟩)] w (rgF K bx n b bd Z U d)
   (fun v cs => ∃ X : SAdr, v = .tuple #[sv (beginTo n s U d).s X.Ad X.cd X.Ar X.cr, .int .u32 (beginTo n s U d).place, .bool (beginTo n s U d).runs] ∧ cs = [slD (beginTo n s U d).s X.Ad X.cd, slR (beginTo n s U d).s X.Ar X.cr] ++ rgF K bx n b bd Z (beginTo n s U d).u (beginTo n s U d).d) := by
 cases hh : s.halted with
 | true =>
  rw [beginTo_no (by rw [hh, Bool.or_true])]
  refine fn_ctr Tryz.func25 rfl Tryz.ntmps25 rfl hi ?_
  refine Zs (Zr (ZO fun b3 => ?_))
  refine ZN fun b6 => ?_
  iterate 2 refine ZA ?_
  refine Zn (Zt (Zs (Zr (wl_loadRow Zh (fun _ => rfl) (fun _ => rfl) (Zv rfl) rfl ?_))))
  refine ZS (fun w hi => refcopy_ok s Ad Ar cd cr w (h w hi.keep)) ?_
  rintro _ _ ⟨_, ⟨A1, c1, A2, c2, rfl, rfl⟩, rfl⟩
  refine ZM ?_
  refine Zn (Zt (Zs (Zs (Zr (ZFa 15 ?_)))))
  refine ZC ?_
  refine Zn (Zt (wc_cond_t rfl (hh) ?_))
  refine Zs (Zr (wl_loadRow Zh (fun _ => rfl) (fun _ => rfl) (Zv rfl) rfl ?_))
  refine ZM ?_
  iterate 2 refine ZA ?_
  refine Zn (Zt (Ze (Zw (qok_pick ([row b6 (s.cells (.slice A1 s.d.length c1) (.slice A2 s.r.length c2)) 34, slD s A1 c1, slR s A2 c2] ++ rgF K bx n b bd Z U d) Zj ?_))))
  refine retC2 (cs' := ([slD s A1 c1, slR s A2 c2] ++ rgF K bx n b bd Z U d)) (.inl rfl) Zu rfl rfl rfl rfl Zh (fun _ => rfl) (fun _ => rfl) ?_
  exact ⟨⟨A1, c1, A2, c2⟩, rfl, rfl⟩
 | false =>
  obtain ⟨hd16, hr16, hf15⟩ := St.fits hr
  obtain ⟨d1, hd1⟩ : ∃ q, d.tick s.count = q := ⟨_, rfl⟩
  obtain ⟨s1, hs1⟩ : ∃ q, told s d1 = q := ⟨_, rfl⟩
  rw [beginTo_go (by rw [hr, hh]; rfl) hd1 hs1]
  rw [hd1] at hm
  obtain ⟨x, hx, hx256⟩ := and_le (p := d1.pend) hm.mask
  have HN := fun w h => refnext_ok b K.bm bd x Z d1 hx hx256 w h
  have HK := fun w hi => reftick_ok b K.bm bd Z d s.count w hi
  rw [hd1] at HK
  have hY := fun k h1 h2 => told_yes (s := s) (d := d1) (x := x) (k := k) hx h1 h2
  have hN := fun h1 => told_no (s := s) (d := d1) (x := x) hx h1
  have hlt := fun k (h : lowOf x = some k) => low_lt h
  have hls := fun k (h : lowOf x = some k) => lowSay_k h
  have hle := lowSay_some (x := x)
  obtain ⟨lo, hlo⟩ : ∃ q, lowSay x = q := ⟨_, rfl⟩
  rw [hlo] at HN hls hle
  obtain ⟨o, ho⟩ : ∃ o, lowOf x = o := ⟨_, rfl⟩
  rw [ho] at hY hN hlt hls hle
  have hw1 : s1.wf ∧ s1.d.length ≤ 16 ∧ s1.r.length ≤ 16 := by
   cases hc : (o.isSome && s.ie) with
   | true =>
    cases o with
    | none => cases hc
    | some k =>
     have hie : s.ie = true := hc
     rw [← hs1, hY k rfl hie]
     exact ⟨⟨hwf.vec, hwf.flags, hwf.root, hwf.vec, hwf.pc, wrap_u32 _, u0, hwf.count, hwf.d, hwf.r⟩, hd16, hr16⟩
   | false => rw [← hs1, hN hc]; exact ⟨hwf, hd16, hr16⟩
  obtain ⟨hwf1, hs16, hq16⟩ := hw1
  refine fn_ctr Tryz.func25 rfl Tryz.ntmps25 rfl hi ?_
  refine Zs (Zr (ZO fun b3 => ?_))
  refine ZN fun b6 => ?_
  iterate 2 refine ZA ?_
  refine Zn (Zt (Zs (Zr (wl_loadRow Zh (fun _ => rfl) (fun _ => rfl) (Zv rfl) rfl ?_))))
  refine ZS (fun w hi => refcopy_ok s Ad Ar cd cr w (h w hi.keep)) ?_
  rintro _ _ ⟨_, ⟨A1, c1, A2, c2, rfl, rfl⟩, rfl⟩
  refine ZM ?_
  refine Zn (Zt (Zs (Zs (Zr (ZFa 15 ?_)))))
  refine ZC ?_
  refine Zn (Zt (wc_cond_f rfl (hh) ?_))
  refine Zc (Zt (Zs (Zr (ZA ?_))))
  refine ZFa 14 ?_
  refine ZC ?_
  refine wl_t (t_callS (refBF b K.bm bd Z d) rfl (fun _ _ => rfl) Zi (fun w hi hin => HK w hin)) rfl ?_
  rintro _ _ ⟨_, ⟨rfl, rfl⟩, rfl⟩
  refine Zn (Zt ?_)
  refine wc_seq_mid (fun X : SAdr => [(1, .pointer (some ⟨bx, 0, none⟩)), (3, .pointer (some ⟨b3, 0, none⟩)), (6, .pointer (some ⟨b6, 0, none⟩))]) (fun X => [row b3 (s1.cells (.slice X.Ad s1.d.length X.cd) (.slice X.Ar s1.r.length X.cr)) 34, row b6 (St.zero.cells (.slice none 0 0) (.slice none 0 0)) 34, slD s1 X.Ad X.cd, slR s1 X.Ar X.cr] ++ rgF K bx n b bd Z U d1) (fun _ => True) ?_ ?_
  ·refine Zs (Zr (ZA ?_))
   refine ZS (fun w hi => HN w (hi.get Zh)) ?_
   rintro _ _ ⟨_, ⟨rfl, rfl⟩, rfl⟩
   refine ZA ?_
   refine Zn (Zt (Zs (Zr (ZFa 6 ?_))))
   refine ZC ?_
   refine ZA ?_
   iterate 2 refine ZB ?_
   refine ZA ?_
   refine Zn (Zt ?_)
   refine wc_cond _ rfl (fun hc6 => ?_) (fun hc6 => ?_)
   ·have hc6' : (o.isSome && s.ie) = true := (by rw [← hle, Bool.and_comm]; exact hc6)
    obtain ⟨k, rfl⟩ : ∃ k, o = some k := (by cases o with | none => cases hc6' | some k => exact ⟨k, rfl⟩)
    have hk8 := hlt k rfl
    obtain rfl := hls k rfl
    obtain rfl : s1 = s.trap ((16 + k : Nat) : Int) 0 := (by rw [← hs1]; exact hY k rfl hc6')
    refine Zr (wl_loadRow Zh (fun _ => rfl) (fun _ => rfl) (Zv rfl) rfl ?_)
    refine ZA ?_
    refine Zy (y_add (Zv rfl) (Zv rfl) (show _ = ((16 + k : Nat) : Int) from by rw [IntWalk.i64_in _ ⟨by show -9223372036854775808 ≤ (16 : Int) + ((k : Nat) : Int); omega, by show (16 : Int) + ((k : Nat) : Int) ≤ 9223372036854775807; omega⟩]; show (16 : Int) + ((k : Nat) : Int) = _; omega)) ?_
    refine ZS (fun w hi => reftrap_ok s A1 A2 c1 c2 ((16 + k : Nat) : Int) 0 w (hi.rdSt (show Has _ (slD s A1 c1) from Zh) (show Has _ (slR s A2 c2) from Zh) (by omega) (by omega))) ?_
    rintro _ _ ⟨_, ⟨A3, c3, A4, c4, rfl, rfl⟩, rfl⟩
    refine ZM ?_
    refine Zn ?_
    refine q_midP ((⟨A3, c3, A4, c4⟩ : SAdr)) ?_ ?_ ?_
    ·trivial
    ·exact Zwk
    exact Zj
   obtain rfl : s1 = s := (by rw [← hs1]; exact hN (by rw [← hle, Bool.and_comm]; exact hc6))
   refine Zc ?_
   refine q_midP ((⟨A1, c1, A2, c2⟩ : SAdr)) ?_ ?_ ?_
   ·trivial
   ·exact Zwk
   exact Zj
  rintro ⟨A5, c5, A6, c6⟩ -
  clear hY hN hs1
  obtain ⟨pc, dd, rr, fl, su, pg, ie, rt, ve, ep, ca, ad, es, ei, co, ha⟩ := s1
  obtain ⟨pcN, rfl⟩ : ∃ m : Nat, pc = m := Int.eq_ofNat_of_zero_le hwf1.pc.1
  obtain ⟨rtN, rfl⟩ : ∃ m : Nat, rt = m := Int.eq_ofNat_of_zero_le hwf1.root.1
  have hpc2 := hwf1.pc.2
  have hrt2 := hwf1.root.2
  dsimp only at hpc2 hrt2 hs16 hq16
  have HP := fun w hi => refplace_ok K bx n U hM hT pg su rtN pcN (show rtN ≤ 4294967295 by omega) (by omega) 1 w hi
  have hgo : beginGo n ⟨pcN, dd, rr, fl, su, pg, ie, rtN, ve, ep, ca, ad, es, ei, co, ha⟩ U d1 = (bif (placeTo n U ⟨pg, su, rtN⟩ pcN 1).1.2.cause != 0 then ⟨St.trap (St.next ⟨pcN, dd, rr, fl, su, pg, ie, rtN, ve, ep, ca, ad, es, ei, co, ha⟩) (placeTo n U ⟨pg, su, rtN⟩ pcN 1).1.2.cause (placeTo n U ⟨pg, su, rtN⟩ pcN 1).1.2.addr, 0, false, (placeTo n U ⟨pg, su, rtN⟩ pcN 1).2, d1⟩ else ⟨⟨pcN, dd, rr, fl, su, pg, ie, rtN, ve, ep, ca, ad, es, ei, co, ha⟩, (placeTo n U ⟨pg, su, rtN⟩ pcN 1).1.1, true, (placeTo n U ⟨pg, su, rtN⟩ pcN 1).2, d1⟩) := rfl
  obtain ⟨⟨⟨pl, ⟨tc, ta⟩⟩, U1⟩, hq⟩ : ∃ q, placeTo n U ⟨pg, su, rtN⟩ pcN 1 = q := ⟨_, rfl⟩
  rw [hq] at HP hgo
  dsimp only at hgo
  rw [hgo]
  refine Zs (Zr (ZA ?_))
  refine ZFa 5 ?_
  refine ZC ?_
  refine ZFa 4 ?_
  refine ZC ?_
  refine ZFa 7 ?_
  refine ZC ?_
  refine ZFa 0 ?_
  refine ZC ?_
  refine wl_t (t_callS (ruF K bx n U) rfl (fun _ _ => rfl) Zi (fun w hi hin => HP w hin)) rfl ?_
  rintro _ _ ⟨_, ⟨rfl, rfl⟩, rfl⟩
  iterate 3 refine ZA ?_
  refine ZN fun b11 => ?_
  refine ZA ?_
  refine wl_t0 (t_storeN (vs := [.int .i64 tc, .int .u32 ta]) (fun _ => rfl) rfl rfl (allT rfl) Za (by exact rfl)) ?_
  rintro _ _ ⟨rfl, rfl⟩
  refine Zn (Zt (Zs (Zs (Zr (ZFa 0 ?_)))))
  refine ZC ?_
  refine ZA ?_
  refine Zn (Zt ?_)
  refine wc_cond _ rfl (fun hc9 => ?_) (fun hc9 => ?_)
  ·rw [hc9, cond_true]
   refine Zs (Zr (wl_loadRow Zh (fun _ => rfl) (fun _ => rfl) (Zv rfl) rfl ?_))
   refine ZFa 0 ?_
   refine ZC ?_
   refine ZFa 1 ?_
   refine ZC ?_
   refine ZS (fun w hi => reftrap_ok ⟨pcN, dd, rr, fl, su, pg, ie, rtN, ve, ep, ca, ad, es, ei, co, ha⟩ A5 A6 c5 c6 tc ta w (hi.rdSt (show Has _ (sl .u32 30 A5 dd.length c5 dd) from Zh) (show Has _ (sl .u32 30 A6 rr.length c6 rr) from Zh) (show dd.length * 4 ≤ _ by omega) (show rr.length * 4 ≤ _ by omega))) ?_
   rintro _ _ ⟨_, ⟨A7, c7, A8, c8, rfl, rfl⟩, rfl⟩
   refine ZM ?_
   refine Zn (Zt (Zs (Zr (ZFa 14 ?_))))
   refine ZC ?_
   refine Zy (y_add (Zv rfl) (Zv rfl) rfl) ?_
   refine ZFa 14 ?_
   refine ZL ?_
   refine Zn (Zt (Zs (Zr (wl_loadRow Zh (fun _ => rfl) (fun _ => rfl) (Zv rfl) rfl ?_))))
   refine ZM ?_
   iterate 2 refine ZA ?_
   refine Zn (Zt (Ze (Zw (qok_pick ([row b6 (St.cells (St.trap (St.next ⟨pcN, dd, rr, fl, su, pg, ie, rtN, ve, ep, ca, ad, es, ei, co, ha⟩) tc ta) (.slice A7 dd.length c7) (.slice A8 rr.length c8)) 34, sl .u32 30 A7 dd.length c7 dd, sl .u32 30 A8 rr.length c8 rr] ++ rgF K bx n b bd Z U1 d1) Zj ?_))))
   refine retC2 (cs' := ([sl .u32 30 A7 dd.length c7 dd, sl .u32 30 A8 rr.length c8 rr] ++ rgF K bx n b bd Z U1 d1)) (.inl rfl) Zu rfl rfl rfl rfl Zh (fun _ => rfl) (fun _ => rfl) ?_
   exact ⟨⟨A7, c7, A8, c8⟩, rfl, rfl⟩
  rw [hc9, cond_false]
  refine Zc (Zt (Zs (Zr (wl_loadRow Zh (fun _ => rfl) (fun _ => rfl) (Zv rfl) rfl ?_))))
  refine ZA ?_
  refine ZM ?_
  iterate 2 refine ZA ?_
  refine Zn (Zt (Ze (qok_pick ([row b6 (St.cells ⟨pcN, dd, rr, fl, su, pg, ie, rtN, ve, ep, ca, ad, es, ei, co, ha⟩ (.slice A5 dd.length c5) (.slice A6 rr.length c6)) 34, sl .u32 30 A5 dd.length c5 dd, sl .u32 30 A6 rr.length c6 rr] ++ rgF K bx n b bd Z U1 d1) Zj ?_)))
  refine retC2 (cs' := ([sl .u32 30 A5 dd.length c5 dd, sl .u32 30 A6 rr.length c6 rr] ++ rgF K bx n b bd Z U1 d1)) (.inl rfl) Zu rfl rfl rfl rfl Zh (fun _ => rfl) (fun _ => rfl) ?_
  exact ⟨⟨A5, c5, A6, c6⟩, rfl, rfl⟩
set_option maxHeartbeats 4000000 in
theorem refblock_ok (K : RMLoc) (bx n b bd : Nat) (Z : DAdr) (s : St) (Ad Ar : Option Addr) (cd cr : Nat) (U : Mmu) (d : Dev) (hG : GOk n s U d) (hM : MOk n U.m) (ho : d.out.length + 8 ≤ 1000000000) (w : World) (hi : Inv w (blocks (rgF K bx n b bd Z U d)) (rgF K bx n b bd Z U d) w)
  (h : ∀ w', Keep (blocks (rgF K bx n b bd Z U d)) w w' → RdSt w' s Ad Ar cd cr) :
  Ctr Tryz.prog 19 [sv s Ad cd Ar cr, .pointer (some ⟨bx, 0, none⟩), .pointer (some ⟨b, 0, none⟩)] w (rgF K bx n b bd Z U d)
   (fun v cs => ∃ (X' : SAdr) (Z' : DAdr), v = sv (blockTo n s U d).1 X'.Ad X'.cd X'.Ar X'.cr ∧ cs = [slD (blockTo n s U d).1 X'.Ad X'.cd, slR (blockTo n s U d).1 X'.Ar X'.cr] ++ rgF K bx n b bd Z' (blockTo n s U d).2.1 (blockTo n s U d).2.2) := by
 have HB := fun w hi h => refbegin_ok K bx n b bd Z s hG.wf hG.right Ad Ar cd cr U hM hG.u.t d (tick_lines hG.lines _) w hi h
 have hb := begin_goes hG
 have hMb := hM.begin (s := s) (d := d) (fun root va kind super => hM.walk root va kind super)
 have hN := fun s1 U1 d1 pl h => blockTo_no (n := n) (s := s) (s1 := s1) (U := U) (U1 := U1) (d := d) (d1 := d1) (pl := pl) h
 have hY := fun s1 U1 d1 pl h => blockTo_yes (n := n) (s := s) (s1 := s1) (U := U) (U1 := U1) (d := d) (d1 := d1) (pl := pl) h
 obtain ⟨⟨s1, pl, rn, U1, d1⟩, hbe⟩ : ∃ b, beginTo n s U d = b := ⟨_, rfl⟩
 rw [hbe] at HB hb hMb hN hY
 obtain ⟨hg1, hpl, hout, -, -, -⟩ := hb
 dsimp only at hg1 hpl hout hMb
 obtain ⟨pl, rfl⟩ : ∃ m : Nat, pl = m := Int.eq_ofNat_of_zero_le hpl.1
 have hpl2 := hpl.2
 have hpl3 : pl ≤ 4294967295 := by omega
 obtain ⟨⟨s9, U9, d9⟩, hR⟩ : ∃ q, blockTo n s U d = q := ⟨_, rfl⟩
 rw [hR] at hN hY ⊢
 obtain ⟨o0, hoo⟩ : ∃ q, d1.out.length = q := ⟨_, rfl⟩
 have ho1 : o0 + 8 ≤ 1000000000 := by rw [← hoo, hout]; exact ho
 have ho0 : d1.out.length ≤ o0 + 0 := by rw [hoo]; exact Nat.le_refl _
 refine fn_ctr Tryz.func19 rfl Tryz.ntmps19 rfl hi ?_
 refine Zs (Zr (ZO fun b3 => ?_))
 refine ZN fun b6 => ?_
 refine Zn (Zt (Zs (Zr (wl_loadRow Zh (fun _ => rfl) (fun _ => rfl) (Zv rfl) rfl ?_))))
 iterate 2 refine ZA ?_
 refine wl_t (t_callS (rgF K bx n b bd Z U d) rfl (fun _ _ => rfl) Zi (fun w hi hin => HB w hin (fun w' hk => h w' (hi.past (fun c hc => by simp only [rgF, ruF, rmF, refMF, refBF, List.mem_append, List.mem_cons, List.mem_nil_iff] at hc ⊢; grind) hk)))) rfl ?_
 rintro _ _ ⟨_, ⟨X1, rfl, rfl⟩, rfl⟩
 iterate 4 refine ZA ?_
 refine ZM ?_
 iterate 2 refine ZA ?_
 refine Zn (Zt (Zs (Zs (Zr (ZA ?_)))))
 refine ZA ?_
 refine Zn (Zt ?_)
 refine wc_cond _ rfl (fun hc2 => ?_) (fun hc2 => ?_)
 ·obtain rfl : rn = false := (by cases rn with | false => rfl | true => cases hc2)
  have e := hN s1 U1 d1 pl rfl
  rw [Prod.mk.injEq, Prod.mk.injEq] at e
  obtain ⟨rfl, rfl, rfl⟩ := e
  refine Zs (Zr (wl_loadRow Zh (fun _ => rfl) (fun _ => rfl) (Zv rfl) rfl ?_))
  refine ZM ?_
  refine Zn (Zt (Ze (Zw (qok_pick (row b6 (s9.cells (.slice X1.Ad s9.d.length X1.cd) (.slice X1.Ar s9.r.length X1.cr)) 34 :: ([slD s9 X1.Ad X1.cd, slR s9 X1.Ar X1.cr] ++ rgF K bx n b bd Z U9 d9)) Zj ?_))))
  refine retC (cs' := ([slD s9 X1.Ad X1.cd, slR s9 X1.Ar X1.cr] ++ rgF K bx n b bd Z U9 d9)) (.inl rfl) Zu rfl rfl Zh (fun _ => rfl) (fun _ => rfl) ?_
  exact ⟨X1, Z, rfl, rfl⟩
 obtain rfl : rn = true := (by cases rn with | true => rfl | false => cases hc2)
 have hR0 := (hY s1 U1 d1 pl rfl).symm
 obtain ⟨pg, hpg⟩ : ∃ q, pl / 64 = q := ⟨_, rfl⟩
 have hpq : IntKind.u32.wrap ((pl : Int).tdiv 64) = (pg : Int) := (by rw [Int.tdiv_eq_ediv_of_nonneg (by omega), u32_wrap_id _ (by omega) (by omega)]; omega)
 rw [hpg] at hR0
 have hpgl : pg ≤ 4294967295 := (by omega)
 clear hpg
 refine Zc (Zt (Zs (Zr (ZA ?_))))
 refine Zy (y_quo (Zv rfl) (Zv rfl) (by omega) hpq) ?_
 refine Zy (y_conv rfl rfl (Zv rfl) Zl) ?_
 refine ZA ?_
 refine Zn (Zt (Zs (Zs (Zr (wl_pick (row b3 (s1.cells (.slice X1.Ad s1.d.length X1.cd) (.slice X1.Ar s1.r.length X1.cr)) 34 :: row b6 (St.zero.cells (.slice none 0 0) (.slice none 0 0)) 34 :: slD s1 X1.Ad X1.cd :: slR s1 X1.Ar X1.cr :: rgF K bx n b bd Z U1 d1) Zj ?_)))))
 refine ZA ?_
 refine Zn (Zt (Zx ?_))
 refine wc_loop (fun q : Nat × St × SAdr × Nat × DAdr × Mmu × Dev => [(1, .pointer (some ⟨bx, 0, none⟩)), (2, .pointer (some ⟨b, 0, none⟩)), (3, .pointer (some ⟨b3, 0, none⟩)), (6, .pointer (some ⟨b6, 0, none⟩)), (7, .int .u32 (q.2.2.2.1 : Int)), (9, .int .i64 (pg : Int)), (10, .int .i64 (q.1 : Int))]) (fun q => row b3 (q.2.1.cells (.slice q.2.2.1.Ad q.2.1.d.length q.2.2.1.cd) (.slice q.2.2.1.Ar q.2.1.r.length q.2.2.1.cr)) 34 :: row b6 (St.zero.cells (.slice none 0 0) (.slice none 0 0)) 34 :: slD q.2.1 q.2.2.1.Ad q.2.2.1.cd :: slR q.2.1 q.2.2.1.Ar q.2.2.1.cr :: rgF K bx n b bd q.2.2.2.2.1 q.2.2.2.2.2.1 q.2.2.2.2.2.2) (fun q => q.1 ≤ 8 ∧ q.2.2.2.1 ≤ 4294967295 ∧ GOk n q.2.1 q.2.2.2.2.2.1 q.2.2.2.2.2.2 ∧ MOk n q.2.2.2.2.2.1.m ∧ q.2.2.2.2.2.2.out.length ≤ o0 + q.1 ∧ restTo n pg (8 - q.1) q.2.1 q.2.2.2.1 q.2.2.2.2.2.1 q.2.2.2.2.2.2 = (s9, U9, d9)) (fun q => 8 - q.1) (⟨0, s1, X1, pl, Z, U1, d1⟩) ?_ ?_ ?_ ?_
 ·exact ⟨Nat.zero_le _, hpl3, hg1, hMb, ho0, hR0⟩
 ·exact Zwk
 ·((repeat (first | exact List.Sublist.slnil | refine List.Sublist.cons_cons _ ?_ | refine List.Sublist.cons _ ?_)))
 rintro ⟨j, s, X, p, Z, U, d⟩ ⟨hj, hp, hG, hM, ho, hRj⟩
 dsimp only at hj hp hG hM ho hRj ⊢
 refine Zs (Zs (Zr (ZA ?_)))
 refine ZA ?_
 refine Zn (Zt ?_)
 refine wc_cond _ rfl (fun hc6 => ?_) (fun hc6 => ?_)
 ·simp only [decide_eq_true_eq] at hc6
  have hj8 : j < 8 := (by omega)
  obtain ⟨k, hkk⟩ : ∃ k, 8 - j = k + 1 := ⟨7 - j, by omega⟩
  rw [hkk] at hRj
  obtain ⟨hd16, hr16, -⟩ := St.fits hG.right
  have HF := fun w h h2 h3 => reffetch_ok K bx n U.t U.m hM p hp w h h2 h3
  have hN := fun h => restTo_none (n := n) (page := pg) (k := k) (s := s) (p := p) (U := U) (d := d) h
  have hS := fun op nn z q U1 d1 h1 h2 => restTo_some (n := n) (page := pg) (k := k) (s := s) (p := p) (U := U) (U1 := U1) (d := d) (d1 := d1) (op := op) (nn := nn) (z := z) (q := q) h1 h2
  have hrn := fun op nn z h => fetchOf_rng hG.u.m (p := p) (op := op) (nn := nn) (z := z) h
  obtain ⟨o, hoq⟩ : ∃ o, fetchOf n U.m p = o := ⟨_, rfl⟩
  rw [hoq] at HF hN hS hrn
  refine Zc (Zt (Zs (Zx (Zs (Zr (ZA ?_))))))
  refine ZA ?_
  refine ZS (fun w hi => HF w (hi.get (show Has _ (refURow bx K.bm U.t) from Zh)) (hi.get (show Has _ (rmRow K n) from Zh)) (hi.get (show Has _ (rmB K n U.m) from Zh))) ?_
  rintro _ _ ⟨_, ⟨rfl, rfl⟩, rfl⟩
  iterate 3 refine ZA ?_
  refine ZN fun b11 => ?_
  refine ZM ?_
  refine ZA ?_
  refine Zn (Zt (Zs (Zs (Zr (ZA ?_)))))
  refine ZA ?_
  refine Zn (Zt ?_)
  refine wc_cond _ rfl (fun hc9 => ?_) (fun hc9 => ?_)
  ·obtain rfl : o = none := (by cases o with | none => rfl | some o => (obtain ⟨⟨op, nn⟩, z⟩ := o; obtain ⟨-, hz1, -⟩ := hrn op nn z rfl; have := beqZ hc9; have e : ((z : Nat) : Int) = 0 := this; omega))
   rw [hN rfl, Prod.mk.injEq, Prod.mk.injEq] at hRj
   obtain ⟨rfl, rfl, rfl⟩ := hRj
   refine Zs (Zr (wl_loadRow Zh (fun _ => rfl) (fun _ => rfl) (Zv rfl) rfl ?_))
   refine ZS (fun w hi => reftrap_ok s X.Ad X.Ar X.cd X.cr 1 0 w (hi.rdSt (show Has _ (slD s X.Ad X.cd) from Zh) (show Has _ (slR s X.Ar X.cr) from Zh) (show s.d.length * 4 ≤ _ by omega) (show s.r.length * 4 ≤ _ by omega))) ?_
   rintro _ _ ⟨_, ⟨A3, c3, A4, c4, rfl, rfl⟩, rfl⟩
   refine ZM ?_
   refine Zn (Zt (Zs (Zr (ZFa 14 ?_))))
   refine ZC ?_
   refine Zy (y_add (Zv rfl) (Zv rfl) rfl) ?_
   refine ZFa 14 ?_
   refine ZL ?_
   refine Zn (Zt (Zs (Zr (wl_loadRow Zh (fun _ => rfl) (fun _ => rfl) (Zv rfl) rfl ?_))))
   refine ZM ?_
   refine Zn (Zt (Ze (Zw (Zq (Zw (Zw (Zq (Zw (qok_pick (row b6 ((s.next.trap 1 0).cells (.slice A3 s.d.length c3) (.slice A4 s.r.length c4)) 34 :: ([slD (s.next.trap 1 0) A3 c3, slR (s.next.trap 1 0) A4 c4] ++ rgF K bx n b bd Z U d)) Zj ?_)))))))))
   refine retC (cs' := ([slD (s.next.trap 1 0) A3 c3, slR (s.next.trap 1 0) A4 c4] ++ rgF K bx n b bd Z U d)) (.inl rfl) Zu rfl rfl Zh (fun _ => rfl) (fun _ => rfl) ?_
   exact ⟨⟨A3, c3, A4, c4⟩, Z, rfl, rfl⟩
  obtain ⟨⟨⟨op, nn⟩, z⟩, rfl⟩ : ∃ q, o = some q := (by cases o with | none => exact absurd hc9 (by decide) | some o => exact ⟨o, rfl⟩)
  obtain ⟨hnn, hz1, hz5, -⟩ := hrn op nn z rfl
  have HD := fun w hin h => refdo_ok s hG.right hG.wf K bx n U b bd Z d hM hG.u.t hG.dv.wf (by omega) op nn hnn X.Ad X.Ar X.cd X.cr w hin h
  have hM1 := hM.do (d := d) hG.dv.wf (s := s) hG.wf.d op nn
  have hg := do_goes (op := op) (nn := nn) hG.wf hG.right hnn hG.u hG.dv
  have hl := do_lines (n := n) (op := op) (nn := nn) (s := s) (U := U) hG.lines
  obtain ⟨⟨q, U1, d1⟩, hq⟩ : ∃ q, doTo n s op nn U d = q := ⟨_, rfl⟩
  rw [hS op nn z q U1 d1 rfl hq] at hRj
  rw [hq] at HD hg hl hM1
  obtain ⟨g1, g2, g3, g4, g5, g6⟩ := hg
  dsimp only at g1 g2 g3 g4 g5 g6 hl hM1
  have HX := fun X1 Ap cp w h => refnext18_ok op nn q X1 Ap cp pg s.pc g1.pc hG.wf.pc w h
  obtain ⟨nx, hnx⟩ : ∃ b, nextOf op q pg s.pc = b := ⟨_, rfl⟩
  rw [hnx] at HX hRj
  refine Zc (Zt (Zs (Zr (wl_loadRow Zh (fun _ => rfl) (fun _ => rfl) (Zv rfl) rfl ?_))))
  refine wl_loadRow Zh (fun _ => rfl) (fun _ => rfl) (Zv rfl) rfl ?_
  iterate 2 refine ZA ?_
  refine wl_t (t_callS (rgF K bx n b bd Z U d) rfl (fun _ _ => rfl) Zi (fun w hi hin => HD w hin (fun w' hk => hi.rdStKs Zi (show Has _ (slD s X.Ad X.cd) from Zh) (show Has _ (slR s X.Ar X.cr) from Zh) (by omega) (by omega) hk))) rfl ?_
  rintro _ _ ⟨_, ⟨X1, Z1, Ap, cp, rfl, rfl⟩, rfl⟩
  refine ZN fun b13 => ?_
  refine ZM ?_
  refine Zn (Zt (Zs (Zr (ZFa 0 ?_))))
  refine ZC ?_
  refine ZA ?_
  refine Zn (Zt (Zs (Zr (ZFa 0 ?_))))
  refine wl_y (y_loadN (vs := q.s.cells (.slice X1.Ad q.s.d.length X1.cd) (.slice X1.Ar q.s.r.length X1.cr)) (fun _ => rfl) (fun _ => rfl) (Zv rfl)) (row_cells Zh rfl) rfl ?_
  refine ZM ?_
  refine Zn (Zt (Zs (Zs (Zr (wl_loadRow Zh (fun _ => rfl) (fun _ => rfl) (Zv rfl) rfl ?_)))))
  refine wl_loadRow Zh (fun _ => rfl) (fun _ => rfl) (Zv rfl) rfl ?_
  iterate 2 refine ZA ?_
  refine ZS (fun w hi => HX X1 Ap cp w (hi.rd (show Has _ (sl .i64 3 Ap q.pages.length cp q.pages) from Zh))) ?_
  rintro _ _ ⟨_, ⟨rfl, rfl⟩, rfl⟩
  refine ZA ?_
  refine Zn (Zt ?_)
  refine wc_cond _ rfl (fun hc16 => ?_) (fun hc16 => ?_)
  ·obtain rfl : nx = false := (by cases nx with | false => rfl | true => cases hc16)
   rw [cond_false, Prod.mk.injEq, Prod.mk.injEq] at hRj
   obtain ⟨rfl, rfl, rfl⟩ := hRj
   refine Zs (Zr (wl_loadRow Zh (fun _ => rfl) (fun _ => rfl) (Zv rfl) rfl ?_))
   refine ZM ?_
   refine Zn (Zt (Ze (Zw (Zq (Zw (Zw (Zq (Zw (qok_pick (row b6 (q.s.cells (.slice X1.Ad q.s.d.length X1.cd) (.slice X1.Ar q.s.r.length X1.cr)) 34 :: ([slD q.s X1.Ad X1.cd, slR q.s X1.Ar X1.cr] ++ rgF K bx n b bd Z1 U1 d1)) Zj ?_)))))))))
   refine retC (cs' := ([slD q.s X1.Ad X1.cd, slR q.s X1.Ar X1.cr] ++ rgF K bx n b bd Z1 U1 d1)) (.inl rfl) Zu rfl rfl Zh (fun _ => rfl) (fun _ => rfl) ?_
   exact ⟨X1, Z1, rfl, rfl⟩
  obtain rfl : nx = true := (by cases nx with | true => rfl | false => cases hc16)
  rw [cond_true] at hRj
  refine Zc (Zt (Zr (ZA ?_)))
  refine ZA ?_
  refine Zy (y_conv rfl rfl (Zv rfl) (u32_wrap_id _ (by show 0 ≤ (z : Int); omega) (by show (z : Int) < 4294967296; omega))) ?_
  refine Zy (y_add (Zv rfl) (Zv rfl) (show _ = (((p + z) % 4294967296 : Nat) : Int) from by show IntKind.u32.wrap ((p : Int) + (z : Int)) = _; rw [IntKind.wrap_u32]; omega)) ?_
  refine ZA ?_
  refine Zn (Zo (Zt (Zr (ZA ?_))))
  refine Zy (y_add (Zv rfl) (Zv rfl) Zl) ?_
  refine ZA ?_
  refine Zn ?_
  refine q_midP ((⟨j + 1, q.s, X1, (p + z) % 4294967296, Z1, U1, d1⟩ : Nat × St × SAdr × Nat × DAdr × Mmu × Dev)) ?_ ?_ ?_
  ·exact ⟨⟨show j + 1 ≤ 8 by omega, by show (p + z) % 4294967296 ≤ 4294967295; omega, ⟨g1, g2, g4, g5, hl⟩, hM1, by show d1.out.length ≤ o0 + (j + 1); omega, by show restTo n pg (8 - (j + 1)) q.s _ U1 d1 = _; rw [show 8 - (j + 1) = k by omega]; exact hRj⟩, show 8 - (j + 1) < 8 - j by omega⟩
  ·exact Zwk
  exact Zj
 simp only [decide_eq_false_iff_not] at hc6
 obtain rfl : j = 8 := (by omega)
 rw [show 8 - 8 = 0 from rfl, restTo, Prod.mk.injEq, Prod.mk.injEq] at hRj
 obtain ⟨rfl, rfl, rfl⟩ := hRj
 refine wc_exit ?_
 refine q_then_exit ?_
 refine q_then_exit ?_
 refine q_block_same rfl ?_
 refine Zt (Zs (Zr (wl_loadRow Zh (fun _ => rfl) (fun _ => rfl) (Zv rfl) rfl ?_)))
 refine ZM ?_
 refine Zn (Zt (Ze (qok_pick (row b6 (s.cells (.slice X.Ad s.d.length X.cd) (.slice X.Ar s.r.length X.cr)) 34 :: ([slD s X.Ad X.cd, slR s X.Ar X.cr] ++ rgF K bx n b bd Z U d)) Zj ?_)))
 refine retC (cs' := ([slD s X.Ad X.cd, slR s X.Ar X.cr] ++ rgF K bx n b bd Z U d)) (.inl rfl) Zu rfl rfl Zh (fun _ => rfl) (fun _ => rfl) ?_
 exact ⟨X, Z, rfl, rfl⟩
end Go.Proofs.YthcpmpmbgbibfaaGreatDoor
/- What comes from outside: bytes that are typed, lines that are raised; both guests are alike. -/
set_option linter.unusedSimpArgs false
set_option linter.unusedVariables false
set_option maxRecDepth 100000
namespace Go.Ink
open Go.RowKit
def Dev.typeN (d : Dev) (l : List Int) : Nat := min l.length (64 - d.inp.length)
def Dev.typeTo (d : Dev) (l : List Int) : Dev := { d with inp := d.inp ++ l.take (d.typeN l), pend := bif decide (0 < d.typeN l) then bits .or .u32 d.pend 2 else d.pend }
def Dev.raise (d : Dev) (k : Nat) : Dev := { d with pend := bits .or .u32 d.pend (linesOf [k]) }
def evTo (kind n : Int) (l : List Int) (d : Dev) : Dev := bif within kind 0 1000 % 3 == 1 then d.typeTo (l.take 9) else bif within kind 0 1000 % 3 == 2 then d.raise (within n 0 7).toNat else d
/-- A guest's devices between blocks. -/
structure GIn (d : Dev) : Prop where
 i64 : d.inp.length ≤ 64
section
variable {n : Nat} {op nn : Int} {s : St} {U : Mmu} {d : Dev} {M : Mem} {R : Run}
theorem devStore_in (h : GIn d) (k : Int) (v : Nat) : GIn (devStore n M d k v).2.2 := by
 unfold devStore devCmd
 repeat (first | exact h | exact ⟨h.i64⟩ | refine cond_all (fun q : Bool × Mem × Dev => GIn q.2.2) ?_ ?_)
theorem devLoad_in (h : GIn d) (k count : Int) : GIn (devLoad d k count).2 := by
 have ht : GIn { d with inp := d.inp.tail } := ⟨by show d.inp.tail.length ≤ 64; rw [List.length_tail]; have := h.i64; omega⟩
 unfold devLoad
 repeat (first | exact h | exact ht | refine cond_all (fun q : (Int × Bool) × Dev => GIn q.2) ?_ ?_)
theorem lode_in (h : GIn d) (va : Nat) : GIn (lodeTo n R U d va).d := by
 unfold lodeTo
 refine cond_all (fun m : Mach => GIn m.d) h ?_
 exact cond_all (fun m : Mach => GIn m.d) (devLoad_in h _ _) h
theorem stow_in (h : GIn d) (va v : Nat) : GIn (stowTo n R U d va v).d := by
 unfold stowTo
 refine cond_all (fun m : Mach => GIn m.d) h ?_
 exact cond_all (fun m : Mach => GIn m.d) (devStore_in h _ _) h
theorem other_in {m : Mach} (h : GIn m.d) : GIn (otherTo n op nn m).d := by
 unfold otherTo
 refine cond_all (fun m : Mach => GIn m.d) (lode_in h _) ?_
 refine cond_all (fun m : Mach => GIn m.d) (stow_in h _ _) ?_
 repeat (first | exact h | refine cond_all (fun m : Mach => GIn m.d) ?_ ?_)
theorem mid_in (h : GIn d) : GIn (midTo n s op nn U d).d := by
 unfold midTo
 cases stackTo op nn (run0 s op) with
 | some R => exact h
 | none => exact cond_all (fun m : Mach => GIn m.d) h (other_in h)
theorem do_in (h : GIn d) : GIn (doTo n s op nn U d).2.2 := by
 unfold doTo
 refine cond_all (fun q : Res × Mmu × Dev => GIn q.2.2) h ?_
 exact cond_all (fun q : Res × Mmu × Dev => GIn q.2.2) h (mid_in h)
theorem tick_in (h : GIn d) (c : Int) : GIn (d.tick c) := by
 unfold Dev.tick
 exact cond_all GIn h ⟨h.i64⟩
theorem begin_in (h : GIn d) : GIn (beginTo n s U d).d := by
 unfold beginTo
 refine cond_all (fun b : Begun => GIn b.d) h ?_
 unfold beginGo
 exact cond_all (fun b : Begun => GIn b.d) (tick_in h _) (tick_in h _)
theorem rest_in {page : Nat} : ∀ (k : Nat) {s : St} {p : Nat} {U : Mmu} {d : Dev}, GIn d → GIn (restTo n page k s p U d).2.2
 | 0, s, p, U, d, h => h
 | k + 1, s, p, U, d, h => by
  unfold restTo
  cases fetchOf n U.m p with
  | none => exact h
  | some o =>
   obtain ⟨⟨op, nn⟩, z⟩ := o
   have hd := do_in (n := n) (s := s) (op := op) (nn := nn) (U := U) h
   exact cond_all (fun q : St × Mmu × Dev => GIn q.2.2) (rest_in k hd) hd
theorem block_in (h : GIn d) : GIn (blockTo n s U d).2.2 := by
 unfold blockTo
 dsimp only
 exact cond_all (fun q : St × Mmu × Dev => GIn q.2.2) (rest_in 8 (begin_in h)) (begin_in h)
end
theorem shl_one : ∀ k : Nat, k < 8 → IntKind.u32.wrap (1 * 2 ^ (min ((k : Nat) : Int).toNat IntKind.u32.bits)) = ((2 ^ k : Nat) : Int) := by decide
theorem lines1 : linesOf [1] = 2 := by decide
/-- What comes from outside leaves a guest as it must be. -/
theorem ev_goes {n : Nat} {s : St} {U : Mmu} {d : Dev} (h : GOk n s U d) (hi : GIn d) (kind m : Int) {l : List Int} (hl : u8s l) : GOk n s U (evTo kind m l d) ∧ GIn (evTo kind m l d) ∧ (evTo kind m l d).out = d.out := by
 have hm := h.lines.mask
 have h64 := hi.i64
 have hw := h.dv.wf
 unfold evTo
 refine cond_all (fun d' : Dev => GOk n s U d' ∧ GIn d' ∧ d'.out = d.out) ?_ (cond_all (fun d' : Dev => GOk n s U d' ∧ GIn d' ∧ d'.out = d.out) ?_ ⟨h, hi, rfl⟩)
 ·have hlen : (d.inp ++ (l.take 9).take (d.typeN (l.take 9))).length ≤ 64 := by
   unfold Dev.typeN
   rw [List.length_append, List.length_take]; omega
  have hb : u8s (d.inp ++ (l.take 9).take (d.typeN (l.take 9))) := fun x hx => (List.mem_append.1 hx).elim (hw.inpb x) (fun q => hl x (List.mem_of_mem_take (List.mem_of_mem_take q)))
  exact ⟨⟨h.wf, h.right, h.u, ⟨⟨hb, hw.disk, hw.diskb, hw.sector, hw.place, Nat.le_trans hlen (by decide)⟩, cond_all u32 (bits_u32 .or d.pend 2) h.dv.pend, h.dv.mask, h.dv.timer, h.dv.status⟩, ⟨hm⟩⟩, ⟨hlen⟩, rfl⟩
 exact ⟨⟨h.wf, h.right, h.u, ⟨hw.re rfl rfl rfl rfl, bits_u32 .or d.pend _, h.dv.mask, h.dv.timer, h.dv.status⟩, ⟨hm⟩⟩, ⟨h64⟩, rfl⟩
theorem takeN_len {l : List Int} {N m : Nat} (h : min l.length m = N) : (l.take N).length = N := by rw [List.length_take]; omega
structure EvR where
 kd : Int
 n : Int
 B : Option Addr
 cb : Nat
 bs : List Int
def EvR.cells (a : EvR) : List Value := [.int .i64 a.kd, .int .i64 a.n, .slice a.B a.bs.length a.cb]
theorem EvR.cells_len (a : EvR) : a.cells.length = 3 := rfl
structure EvR.ok (W : World) (a : EvR) : Prop where
 rd : Rd W .u8 a.B a.bs.length a.cb a.bs
 bs : u8s a.bs
end Go.Ink
namespace Go.Proofs.YthcpmpmbgbibfaaGreatDoor
open Go.RowKit Go.Ink
attribute [local irreducible] OpY GuardIs

theorem rd_takeM {W : World} {A : Option Addr} {c N m : Nat} {l : List Int} (h : Rd W .u8 A l.length c l) (hN : min l.length m = N) : Rd W .u8 A N c (l.take N) := by
 have h2 := rd_take h N
 rwa [takeN_len hN] at h2
theorem ctype_ok (b : Nat) (Ao : Option Addr) (no co : Nat) (Ai : Option Addr) (ci : Nat) (inp : List Int) (h64 : inp.length ≤ 64) (A : Option Addr) (c : Nat) (l : List Int) (hl : l.length ≤ 1000) (N : Nat) (hN : min l.length (64 - inp.length) = N) (w : World)
  (hi : Inv w (blocks [conC b Ao no co Ai inp.length ci, b8 Ai ci inp]) [conC b Ao no co Ai inp.length ci, b8 Ai ci inp] w) (h : ∀ w', Keep (blocks [conC b Ao no co Ai inp.length ci, b8 Ai ci inp]) w w' → Rd w' .u8 A l.length c l) :
  Ctr Tryz.prog 100 [.pointer (some ⟨b, 0, none⟩), .slice A l.length c] w [conC b Ao no co Ai inp.length ci, b8 Ai ci inp] (fun v cs => ∃ Ai' ci', v = .int .i64 (N : Int) ∧ cs = [conC b Ao no co Ai' (inp ++ l.take N).length ci', b8 Ai' ci' (inp ++ l.take N)]) := by
 have hcap := (h w (Keep.refl _ _)).cap
 have htl := takeN_len hN
 refine fn_ctr Tryz.func100 rfl Tryz.ntmps100 rfl hi ?_
 refine Zs (Zr (ZA ?_))
 refine Zn (Zt (Zs (Zr (ZA ?_))))
 iterate 3 refine ZA ?_
 refine ZFa 1 ?_
 refine ZC ?_
 refine ZA ?_
 refine Zy (y_sub (Zv rfl) (Zv rfl) (show _ = ((64 - inp.length : Nat) : Int) from by rw [IntWalk.i64_in _ ⟨by omega, by omega⟩]; omega)) ?_
 refine Zy (y_min (Zv rfl) (Zv rfl) (show _ = (N : Int) from by split <;> omega)) ?_
 refine ZA ?_
 refine Zn (Zt (Zs (wc_draw ⟨fun j => List.elem j [8, 11], []⟩ Zk ?_)))
 refine ZE 0 ?_
 refine ZE 1 ?_
 refine ZE 2 ?_
 refine ZFe 3 1 ?_
 refine ZG 4 ?_
 refine ZE 5 ?_
 refine ZE 6 ?_
 refine wa_yn 7 rfl Zk Zk Zk (y_slice0 N rfl (fun _ => rfl) (Zv rfl) (Zv rfl) (fun _ => by first | rfl | omega) (fun _ => by omega)) rfl ?_
 refine wa_1 8 Zk ?_
 refine wi_t rfl rfl (t_append (e := 5) (sz := 1) (bytes := 1) rfl rfl Za rfl rfl (fun w hi => (rd_takeM (h w hi.keep) hN)) ints_one (by simp only [maxLen]; omega) (by omega)) (fun _ _ _ _ _ _ _ h => by cases h) rfl ?_
 rintro _ _ ⟨A2, c2, rfl, rfl⟩
 rw [show inp.length + N = (inp ++ l.take N).length by rw [List.length_append, htl], show ints .u8 inp ++ ints .u8 (l.take N) = ints .u8 (inp ++ l.take N) from ints_append inp (l.take N)]
 refine ZE 9 ?_
 refine ZFe 10 1 ?_
 refine wa_1 11 Zk ?_
 refine ZQ ?_
 refine wa_done Zk ?_
 refine Zt (Zs (Zr (ZA ?_)))
 refine ZA ?_
 refine Zn (Zt (Ze (ret1 (cs' := [row _ _ _, slv _ _ _ _ _ _]) (.inl rfl) Zu rfl rfl ?_)))
 exact ⟨A2, c2, rfl, rfl⟩
theorem businput_ok (D : DLoc) (bm : Nat) (X : DAdr) (d : Dev) (h64 : d.inp.length ≤ 64) (A : Option Addr) (c : Nat) (l : List Int) (hl : l.length ≤ 1000) (w : World) (hi : Inv w (blocks (busF D bm X d)) (busF D bm X d) w) (h : ∀ w', Keep (blocks (busF D bm X d)) w w' → Rd w' .u8 A l.length c l) :
  Ctr Tryz.prog 54 [.pointer (some ⟨D.bs, 0, none⟩), .slice A l.length c] w (busF D bm X d) (fun v cs => ∃ X', v = .int .i64 (d.typeN l : Int) ∧ cs = busF D bm X' (d.typeTo l)) := by
 obtain ⟨N, hN⟩ : ∃ N, d.typeN l = N := ⟨_, rfl⟩
 have hT : d.typeTo l = { d with inp := d.inp ++ l.take N, pend := bif decide (0 < N) then bits .or .u32 d.pend 2 else d.pend } := by unfold Dev.typeTo; rw [hN]
 rw [hT, hN]
 unfold Dev.typeN at hN
 have HR := fun A c p w hi h => iraise_ok D.bi p d.mask A c [1] (fun x hx => by simp at hx; omega) w hi h
 rw [lines1] at HR
 refine fn_ctr Tryz.func54 rfl Tryz.ntmps54 rfl hi ?_
 refine Zs (Zr (ZA ?_))
 refine Zn (Zt (Zs (Zr (ZA ?_))))
 refine ZA ?_
 refine ZFa 2 ?_
 refine ZC ?_
 refine ZA ?_
 refine wl_t (t_callS ([conC D.bcn X.Ao d.out.length X.co X.Ai d.inp.length X.ci, b8 X.Ai X.ci d.inp]) rfl (fun _ _ => rfl) Zi (fun w hi hin => ctype_ok D.bcn X.Ao d.out.length X.co X.Ai X.ci d.inp h64 A c l hl N hN w hin (fun w' hk => h w' (hi.past (fun c hc => by simp only [busF, List.mem_append, List.mem_cons, List.mem_nil_iff] at hc ⊢; grind) hk)))) rfl ?_
 rintro _ _ ⟨_, ⟨Ai', ci', rfl, rfl⟩, rfl⟩
 refine ZA ?_
 refine Zn (Zt (Zs (Zs (Zr (ZA ?_)))))
 refine ZA ?_
 refine Zn (Zt ?_)
 refine wc_cond _ rfl (fun hc2 => ?_) (fun hc2 => ?_)
 ·simp only [decide_eq_true_eq] at hc2
  rw [decide_eq_true (show 0 < N by omega), cond_true]
  refine Zr (ZA ?_)
  refine ZA ?_
  refine ZFa 0 ?_
  refine ZC ?_
  refine wl_t (t_buildSl1 rfl rfl (fun _ => rfl) (fun _ => rfl) rfl rfl) rfl ?_
  rintro _ _ ⟨b18, rfl, rfl⟩
  refine wl_t (t_callS ([irqC D.bi d.pend d.mask]) rfl (fun _ _ => rfl) Zi (fun w hi hin => HR (some ⟨b18, 0, none⟩) 1 d.pend w hin (fun w' hk => hi.rdKs Zi (show Has _ (slv 3 1 (some ⟨b18, 0, none⟩) 1 1 (ints .i64 [1])) from Zh) hk))) rfl ?_
  rintro _ _ ⟨_, ⟨rfl, rfl⟩, rfl⟩
  refine Zn (Zt (Zs (Zr (ZA ?_))))
  refine ZA ?_
  refine Zn (Zt (Ze (qok_pick (busF D bm ⟨X.Ao, X.co, Ai', ci'⟩ { d with inp := d.inp ++ l.take N, pend := bits .or .u32 d.pend 2 }) Zj ?_)))
  refine ret1 (cs' := [row _ _ _, row _ _ _, row _ _ _, row _ _ _, slv _ _ _ _ _ _, slv _ _ _ _ _ _, row _ _ _, slv _ _ _ _ _ _]) (.inl rfl) Zu rfl rfl ?_
  exact ⟨⟨X.Ao, X.co, Ai', ci'⟩, rfl, rfl⟩
 simp only [decide_eq_false_iff_not] at hc2
 rw [decide_eq_false (show ¬ 0 < N by omega), cond_false]
 refine Zc (Zt (Zs (Zr (ZA ?_))))
 refine ZA ?_
 refine Zn (Zt (Ze (qok_pick (busF D bm ⟨X.Ao, X.co, Ai', ci'⟩ { d with inp := d.inp ++ l.take N }) Zj ?_)))
 refine ret1 (cs' := [row _ _ _, row _ _ _, row _ _ _, row _ _ _, slv _ _ _ _ _ _, slv _ _ _ _ _ _, row _ _ _, slv _ _ _ _ _ _]) (.inl rfl) Zu rfl rfl ?_
 exact ⟨⟨X.Ao, X.co, Ai', ci'⟩, rfl, rfl⟩
theorem refinput_ok (b bm bd : Nat) (Z : DAdr) (d : Dev) (h64 : d.inp.length ≤ 64) (A : Option Addr) (c : Nat) (l : List Int) (hl : l.length ≤ 1000) (w : World) (hi : Inv w (blocks (refBF b bm bd Z d)) (refBF b bm bd Z d) w) (h : ∀ w', Keep (blocks (refBF b bm bd Z d)) w w' → Rd w' .u8 A l.length c l) :
  Ctr Tryz.prog 55 [.pointer (some ⟨b, 0, none⟩), .slice A l.length c] w (refBF b bm bd Z d) (fun v cs => ∃ Z', v = .int .i64 (d.typeN l : Int) ∧ cs = refBF b bm bd Z' (d.typeTo l)) := by
 have hcap := (h w (Keep.refl _ _)).cap
 obtain ⟨N, hN⟩ : ∃ N, d.typeN l = N := ⟨_, rfl⟩
 have hT : d.typeTo l = { d with inp := d.inp ++ l.take N, pend := bif decide (0 < N) then bits .or .u32 d.pend 2 else d.pend } := by unfold Dev.typeTo; rw [hN]
 rw [hT, hN]
 unfold Dev.typeN at hN
 have htl := takeN_len hN
 obtain ⟨pe, ma, ti, ou, inp, dk, se, pl, st⟩ := d
 obtain ⟨Ao, co, Ai, ci⟩ := Z
 dsimp only at hN h64 htl ⊢
 refine fn_ctr Tryz.func55 rfl Tryz.ntmps55 rfl hi ?_
 refine Zs (Zr (ZA ?_))
 refine Zn (Zt (Zs (Zr (ZA ?_))))
 refine ZA ?_
 refine ZFa 5 ?_
 refine ZC ?_
 refine ZA ?_
 refine Zy (y_sub (Zv rfl) (Zv rfl) (show IntKind.i64.wrap ((64 : Int) - (inp.length : Int)) = ((64 - inp.length : Nat) : Int) from by rw [IntWalk.i64_in _ ⟨by omega, by omega⟩]; omega)) ?_
 refine ZA ?_
 refine Zn (Zt ?_)
 refine wc_seq_mid (fun n : Nat => [(0, .pointer (some ⟨b, 0, none⟩)), (1, .slice A l.length c), (5, .int .i64 (n : Int))]) (fun _ => [row b [.pointer (some ⟨bm, 0, none⟩), .int .u32 pe, .int .u32 ma, .int .u32 ti, .slice Ao ou.length co, .slice Ai inp.length ci, .slice (some ⟨bd, 0, none⟩) 1024 1024, .int .u32 (se : Int), .int .u32 (pl : Int), .int .u32 st] 72, b8 Ao co ou, rdC Ai inp.length ci (ints .u8 inp), dskC bd dk]) (fun n => n = N) ?_ ?_
 ·refine Zs (Zr (ZA ?_))
  iterate 3 refine ZA ?_
  refine Zn (Zt ?_)
  refine wc_cond _ rfl (fun hc2 => ?_) (fun hc2 => ?_)
  ·simp only [decide_eq_true_eq] at hc2
   refine Zr (ZA ?_)
   iterate 2 refine ZA ?_
   refine Zn ?_
   refine q_midP (l.length) ?_ ?_ ?_
   ·exact (by omega)
   ·exact Zwk
   exact Zj
  simp only [decide_eq_false_iff_not] at hc2
  refine Zc ?_
  refine q_midP ((64 - inp.length)) ?_ ?_ ?_
  ·exact (by omega)
  ·exact Zwk
  exact Zj
 rintro n rfl
 refine Zs (ws_draw ⟨fun j => List.elem j [6, 10, 13], []⟩ [(0, 0), (2, 0), (3, 0), (4, 0), (5, 4), (7, 0), (8, 0), (9, 0), (1, 2), (6, 2), (10, 2), (11, 0), (12, 0), (13, 2)] Zk Zk ?_)
 refine ws_yn rfl (y_move (Zv rfl)) rfl ?_
 refine ws_yn rfl (y_move (Zv rfl)) rfl ?_
 refine ws_yn rfl (y_nil (Zv rfl)) rfl ?_
 refine ws_yn rfl (y_field 5 rfl (Zv rfl) Zf) rfl ?_
 refine ws_ln4 rfl (y_load (fun _ => rfl) (Zv rfl)) (row_cell Zh rfl) rfl ?_
 refine ws_yn rfl (y_move (Zv rfl)) rfl ?_
 refine ws_yn rfl (y_move (Zv rfl)) rfl ?_
 refine ws_yn rfl (y_slice0 n rfl (fun _ => rfl) (Zv rfl) (Zv rfl) (fun _ => by first | rfl | omega) (fun _ => by omega)) rfl ?_
 refine ws_1 rfl ?_
 refine wsi_t rfl rfl (t_buildSl1 rfl rfl (fun _ => rfl) (fun _ => rfl) rfl rfl) (fun _ _ _ _ _ _ _ h => by cases h) rfl ?_
 rintro _ _ ⟨b19, rfl, rfl⟩
 refine ws_1 rfl ?_
 refine wsi_t rfl rfl (t_append (e := 5) (sz := 1) (bytes := 1) rfl rfl Za rfl rfl (fun w hi => rdC_rd (hi.get (show Has _ (rdC Ai inp.length ci (ints .u8 inp)) from Zh))) ints_one (by simp only [maxLen]; omega) (by omega)) (fun _ _ _ _ _ _ _ h => by cases h) rfl ?_
 rintro _ _ ⟨A2, c2, rfl, rfl⟩
 simp only [Nat.zero_add, List.nil_append]
 refine ws_1 rfl ?_
 refine wsi_t rfl rfl (t_append (e := 5) (sz := 1) (bytes := 1) rfl rfl Za rfl rfl (fun w hi => (rd_takeM (h w hi.keep) hN)) ints_one (by simp only [maxLen]; omega) (by omega)) (fun _ _ _ _ _ _ _ h => by cases h) rfl ?_
 rintro _ _ ⟨A3, c3, rfl, rfl⟩
 rw [show inp.length + n = (inp ++ l.take n).length by rw [List.length_append, htl], show ints .u8 inp ++ ints .u8 (l.take n) = ints .u8 (inp ++ l.take n) from ints_append inp (l.take n)]
 refine ws_yn rfl (y_nil (Zv rfl)) rfl ?_
 refine ws_yn rfl (y_field 5 rfl (Zv rfl) Zf) rfl ?_
 refine ws_1 rfl ?_
 refine wsi_t0 rfl rfl (t_store (fun _ => rfl) rfl rfl rfl Za Zp) (fun _ _ _ _ _ _ _ h => by cases h) ?_
 rintro _ _ ⟨rfl, rfl⟩
 refine ws_done ?_
 refine Zt (Zs (Zs (Zr (ZA ?_))))
 refine ZA ?_
 refine Zn (Zt ?_)
 refine wc_cond _ rfl (fun hc5 => ?_) (fun hc5 => ?_)
 ·simp only [decide_eq_true_eq] at hc5
  rw [decide_eq_true (show 0 < n by omega), cond_true]
  refine Zr (ZA ?_)
  iterate 2 refine ZA ?_
  refine ZFa 1 ?_
  refine ZC ?_
  iterate 2 refine ZA ?_
  refine ZFa 1 ?_
  refine ZL ?_
  refine Zn (Zt (Zs (Zr (ZA ?_))))
  refine ZA ?_
  refine Zn (Zt (Ze (qok_convS (c := b8 A3 c3 (inp ++ l.take n)) (c' := rdC A3 (inp ++ l.take n).length c3 (ints .u8 (inp ++ l.take n))) Za rdC_sub (fun w => slv_rdC w) ?_)))
  refine qok_pick (refBF b bm bd ⟨Ao, co, A3, c3⟩ ⟨bits .or .u32 pe 2, ma, ti, ou, inp ++ l.take n, dk, se, pl, st⟩) Zj ?_
  refine ret1 (cs' := [row _ _ _, slv _ _ _ _ _ _, rdC _ _ _ _, slv _ _ _ _ _ _]) (.inl rfl) Zu rfl rfl ?_
  exact ⟨⟨Ao, co, A3, c3⟩, rfl, rfl⟩
 simp only [decide_eq_false_iff_not] at hc5
 rw [decide_eq_false (show ¬ 0 < n by omega), cond_false]
 refine Zc (Zt (Zs (Zr (ZA ?_))))
 refine ZA ?_
 refine Zn (Zt (Ze (qok_convS (c := b8 A3 c3 (inp ++ l.take n)) (c' := rdC A3 (inp ++ l.take n).length c3 (ints .u8 (inp ++ l.take n))) Za rdC_sub (fun w => slv_rdC w) ?_)))
 refine qok_pick (refBF b bm bd ⟨Ao, co, A3, c3⟩ ⟨pe, ma, ti, ou, inp ++ l.take n, dk, se, pl, st⟩) Zj ?_
 refine ret1 (cs' := [row _ _ _, slv _ _ _ _ _ _, rdC _ _ _ _, slv _ _ _ _ _ _]) (.inl rfl) Zu rfl rfl ?_
 exact ⟨⟨Ao, co, A3, c3⟩, rfl, rfl⟩
/-- The law's rows: the program's guest and the document's. -/
abbrev w18L (F : GLoc) (s : St) (X : SAdr) : List Value := [.pointer (some ⟨F.bu, 0, none⟩), .pointer (some ⟨F.D.bs, 0, none⟩), .pointer (some ⟨F.L.bm, 0, none⟩)] ++ (s.cells (.slice X.Ad s.d.length X.cd) (.slice X.Ar s.r.length X.cr) ++ [.pointer (some ⟨F.bg, 0, none⟩)])
abbrev g18L (F : GLoc) (s : St) (V : SAdr) : List Value := s.cells (.slice V.Ad s.d.length V.cd) (.slice V.Ar s.r.length V.cr) ++ [.pointer (some ⟨F.bx, 0, none⟩), .pointer (some ⟨F.by_, 0, none⟩)]
abbrev w18X (F : GLoc) (s : St) (X : SAdr) : Chunk := row F.bw (w18L F s X) 41
abbrev g18X (F : GLoc) (s : St) (V : SAdr) : Chunk := row F.bg (g18L F s V) 58
abbrev evF (F : GLoc) (s t : St) (X V : SAdr) (Y Z : DAdr) (d : Dev) : List Chunk := w18X F s X :: g18X F t V :: (busF F.D F.L.bm Y d ++ refBF F.by_ F.K.bm F.bd Z d)
set_option maxHeartbeats 2000000 in
theorem event_ok (F : GLoc) (s t : St) (X V : SAdr) (Y Z : DAdr) (d : Dev) (h64 : d.inp.length ≤ 64) (kd n : Int) (B : Option Addr) (cb : Nat) (bs : List Int) (w : World) (hi : Inv w (blocks (evF F s t X V Y Z d)) (evF F s t X V Y Z d) w)
  (h : ∀ w', Keep (blocks (evF F s t X V Y Z d)) w w' → Rd w' .u8 B bs.length cb bs) :
  Ctr Tryz.prog 22 [.pointer (some ⟨F.bw, 0, none⟩), .agg (EvR.cells ⟨kd, n, B, cb, bs⟩).toArray] w (evF F s t X V Y Z d) (fun v cs => ∃ Y' Z', v = .bool true ∧ cs = evF F s t X V Y' Z' (evTo kd n bs d)) := by
 obtain ⟨km, hkm⟩ : ∃ k, within kd 0 1000 = k := ⟨_, rfl⟩
 have HW := fun w => hkm ▸ within_ok kd 0 1000 w (by decide) (by decide) (by decide)
 have hkr := within_rng kd 0 1000 (by decide)
 obtain ⟨nm, hnm⟩ : ∃ k, within n 0 7 = k := ⟨_, rfl⟩
 have HV := fun w => hnm ▸ within_ok n 0 7 w (by decide) (by decide) (by decide)
 have hnr := within_rng n 0 7 (by decide)
 rw [hkm] at hkr
 rw [hnm] at hnr
 obtain ⟨nm, rfl⟩ : ∃ m : Nat, nm = m := Int.eq_ofNat_of_zero_le hnr.1
 obtain ⟨km, rfl⟩ : ∃ m : Nat, km = m := Int.eq_ofNat_of_zero_le hkr.1
 have hr := h w (Keep.refl _ _)
 have hE : evTo kd n bs d = bif km % 3 == 1 then d.typeTo (bs.take 9) else bif km % 3 == 2 then d.raise nm else d := by
  unfold evTo
  have e1 : (((km % 3 : Nat) : Int) == 1) = (km % 3 == 1) := natBeq (km % 3) 1
  have e2 : (((km % 3 : Nat) : Int) == 2) = (km % 3 == 2) := natBeq (km % 3) 2
  rw [hkm, hnm, show ((km : Int) % 3) = ((km % 3 : Nat) : Int) by omega, e1, e2]
  rfl
 have h9 : (bs.take 9).length ≤ 1000 := by rw [List.length_take]; omega
 have HB := fun w hi h => businput_ok F.D F.L.bm Y d h64 B cb (bs.take 9) h9 w hi h
 have HI := fun w hi h => refinput_ok F.by_ F.K.bm F.bd Z d h64 B cb (bs.take 9) h9 w hi h
 obtain ⟨T, hT⟩ : ∃ T, d.typeTo (bs.take 9) = T := ⟨_, rfl⟩
 obtain ⟨N, hN⟩ : ∃ T, d.typeN (bs.take 9) = T := ⟨_, rfl⟩
 rw [hT] at hE HB HI
 rw [hN] at HB HI
 obtain ⟨L, hL⟩ : ∃ L, linesOf [nm] = L := ⟨_, rfl⟩
 have hL2 : IntKind.u32.wrap (1 * 2 ^ (min (nm : Int).toNat IntKind.u32.bits)) = L := by rw [← hL, line_one nm (by omega)]; exact shl_one nm (by omega)
 have HR := fun A c p w hi h => iraise_ok F.D.bi p d.mask A c [nm] (fun x hx => by simp at hx; omega) w hi h
 rw [hL] at HR
 rw [hE]
 unfold Dev.raise
 rw [hL]
 refine fn_ctr Tryz.func22 rfl Tryz.ntmps22 rfl hi ?_
 refine Zs (Zr (ZO fun b3 => ?_))
 refine ZA ?_
 refine Zn (Zt (Zs (Zs (Zr (ZFa 0 ?_)))))
 refine ZC ?_
 refine ZS (fun w hi => HW w) ?_
 rintro _ _ ⟨_, ⟨rfl, rfl⟩, rfl⟩
 refine Zy (y_rem (Zv rfl) (Zv rfl) (by omega) (show _ = ((km % 3 : Nat) : Int) from by rw [Int.tmod_eq_emod_of_nonneg (by omega)]; omega)) ?_
 refine Zn (Zt (Zx (Zs (Zr (Zy (y_eql (Zv rfl) (Zv rfl) (natBeq _ 1)) ?_)))))
 refine ZA ?_
 refine Zn (Zt ?_)
 refine wc_cond _ rfl (fun hc2 => ?_) (fun hc2 => ?_)
 ·rw [hc2, cond_true]
  refine Zs (Zr (ZFa 2 ?_))
  refine ZC ?_
  refine ZS (fun w hi => cut_ok B cb bs 9 w hr.cap) ?_
  rintro _ _ ⟨_, ⟨rfl, rfl⟩, rfl⟩
  refine ZA ?_
  refine Zn (Zt (Zs (wc_draw ⟨fun j => List.elem j [5, 14], rowL F.bw (w18L F s X) ++ rowL F.bg (g18L F t V)⟩ Zk ?_)))
  refine ZE 0 ?_
  refine ZE 1 ?_
  refine ZFe 2 1 ?_
  refine wa_lkn 3 rfl Zk Zk Zk (y_load (fun _ => rfl) (Zv rfl)) (by first | exact rowL_mem rfl | exact List.mem_append_left _ (rowL_mem rfl) | exact List.mem_append_right _ (rowL_mem rfl)) ((fun w hi x hx => (List.mem_append.1 hx).elim (rowL_cells (t := 41) Zh w hi x) (rowL_cells (t := 58) Zh w hi x))) rfl ?_
  refine ZE 4 ?_
  refine ZE 6 ?_
  refine ZE 7 ?_
  refine ZFe 8 19 ?_
  refine wa_lkn 9 rfl Zk Zk Zk (y_load (fun _ => rfl) (Zv rfl)) (by first | exact rowL_mem rfl | exact List.mem_append_left _ (rowL_mem rfl) | exact List.mem_append_right _ (rowL_mem rfl)) ((fun w hi x hx => (List.mem_append.1 hx).elim (rowL_cells (t := 41) Zh w hi x) (rowL_cells (t := 58) Zh w hi x))) rfl ?_
  refine ZE 10 ?_
  refine ZFe 11 17 ?_
  refine wa_lkn 12 rfl Zk Zk Zk (y_load (fun _ => rfl) (Zv rfl)) (by first | exact rowL_mem rfl | exact List.mem_append_left _ (rowL_mem rfl) | exact List.mem_append_right _ (rowL_mem rfl)) ((fun w hi x hx => (List.mem_append.1 hx).elim (rowL_cells (t := 41) Zh w hi x) (rowL_cells (t := 58) Zh w hi x))) rfl ?_
  refine ZE 13 ?_
  refine wa_1 5 Zk ?_
  refine wi_t rfl rfl (t_callS (busF F.D F.L.bm Y d) rfl (fun _ _ => rfl) Zi (fun w hi hin => HB w hin (fun w' hk => rd_take (h w' (hi.past (fun c hc => by simp only [evF, busF, List.mem_append, List.mem_cons, List.mem_nil_iff] at hc ⊢; grind) hk)) 9))) (fun _ => by rintro _ _ ⟨_, ⟨Y2, rfl, rfl⟩, rfl⟩; exact (fun w hi x hx => (List.mem_append.1 hx).elim (rowL_cells (t := 41) Zh w hi x) (rowL_cells (t := 58) Zh w hi x))) rfl ?_
  rintro _ _ ⟨_, ⟨Y2, rfl, rfl⟩, rfl⟩
  refine wa_1 14 Zk ?_
  refine wi_t rfl rfl (t_callS (refBF F.by_ F.K.bm F.bd Z d) rfl (fun _ _ => rfl) Zi (fun w hi hin => HI w hin (fun w' hk => rd_take (h w' (hi.past (fun c hc => (show Split (refBF F.by_ F.K.bm F.bd Z d) _ _ from Zi).perm.symm.subset (List.mem_append_left _ hc)) hk)) 9))) (fun _ => by rintro _ _ ⟨_, ⟨Z2, rfl, rfl⟩, rfl⟩; exact (fun w hi x hx => (List.mem_append.1 hx).elim (rowL_cells (t := 41) Zh w hi x) (rowL_cells (t := 58) Zh w hi x))) rfl ?_
  rintro _ _ ⟨_, ⟨Z2, rfl, rfl⟩, rfl⟩
  refine wa_yn 15 rfl Zk Zk Zk (y_eql (Zv rfl) (Zv rfl) (beq_self_eq_true _)) rfl ?_
  refine ZE 16 ?_
  refine wa_done Zk ?_
  refine Zt (Ze (Zq (Zw (qok_pick (evF F s t X V Y2 Z2 T) Zj ?_))))
  refine ret1 (cs' := (evF F s t X V Y2 Z2 T)) (.inl rfl) Zu rfl rfl ?_
  exact ⟨Y2, Z2, rfl, rfl⟩
 rw [hc2, cond_false]
 refine Zs (Zr (Zy (y_eql (Zv rfl) (Zv rfl) (natBeq _ 2)) ?_))
 refine ZA ?_
 refine Zn (Zt ?_)
 refine wc_cond _ rfl (fun hc5 => ?_) (fun hc5 => ?_)
 ·rw [hc5, cond_true]
  refine Zs (Zr (ZFa 1 ?_))
  refine ZC ?_
  refine ZS (fun w hi => HV w) ?_
  rintro _ _ ⟨_, ⟨rfl, rfl⟩, rfl⟩
  refine ZA ?_
  refine Zn (Zt (Zs (wc_draw ⟨fun j => List.elem j [23], []⟩ Zk ?_)))
  refine ZE 0 ?_
  refine ZE 1 ?_
  refine ZFe 2 19 ?_
  refine ZG 3 ?_
  refine ZE 4 ?_
  refine ZFe 5 17 ?_
  refine ZG 6 ?_
  refine ZE 7 ?_
  refine ZE 8 ?_
  refine ZFe 9 19 ?_
  refine ZG 10 ?_
  refine ZE 11 ?_
  refine ZFe 12 17 ?_
  refine ZG 13 ?_
  refine ZE 14 ?_
  refine ZFe 15 1 ?_
  refine ZG 16 ?_
  refine ZE 17 ?_
  refine wa_yn 18 rfl Zk Zk Zk (y_conv rfl rfl (Zv rfl) (show _ = (nm : Int) from by first | exact u64_wrap_id _ (by omega) (by omega) | exact uint_wrap_id _ (by omega) (by omega))) rfl ?_
  refine wa_yn 19 rfl Zk Zk Zk (y_shl (Zv rfl) (Zv rfl) (by omega) hL2) rfl ?_
  refine ZE 20 ?_
  refine ZE 21 ?_
  refine ZFe 22 1 ?_
  refine wa_1 23 Zk ?_
  refine ZQ ?_
  refine wa_done Zk ?_
  refine Zt (Zs (Zr (ZA ?_)))
  refine ZA ?_
  refine ZFa 1 ?_
  refine ZC ?_
  refine ZA ?_
  refine ZFa 0 ?_
  refine ZC ?_
  refine ZA ?_
  refine wl_t (t_buildSl1 rfl rfl (fun _ => rfl) (fun _ => rfl) rfl rfl) rfl ?_
  rintro _ _ ⟨b68, rfl, rfl⟩
  refine wl_t (t_callS ([irqC F.D.bi d.pend d.mask]) rfl (fun _ _ => rfl) Zi (fun w hi hin => HR (some ⟨b68, 0, none⟩) 1 d.pend w hin (fun w' hk => hi.rdKs Zi (show Has _ (slv 3 1 (some ⟨b68, 0, none⟩) 1 1 (ints .i64 [(nm : Int)])) from Zh) hk))) rfl ?_
  rintro _ _ ⟨_, ⟨rfl, rfl⟩, rfl⟩
  refine ZA ?_
  refine Zn (Zt (Ze (Zq (Zw (qok_pick (evF F s t X V Y Z { d with pend := bits .or .u32 d.pend L }) Zj ?_)))))
  refine ret1 (cs' := (evF F s t X V Y Z { d with pend := bits .or .u32 d.pend L })) (.inl rfl) Zu rfl rfl ?_
  exact ⟨Y, Z, rfl, rfl⟩
 rw [hc5, cond_false]
 refine Zc (Zo (Zt (Zs (Zr (ZA ?_)))))
 refine Zn (Zt (Ze (qok_pick (evF F s t X V Y Z d) Zj ?_)))
 refine ret1 (cs' := (evF F s t X V Y Z d)) (.inl rfl) Zu rfl rfl ?_
 exact ⟨Y, Z, rfl, rfl⟩
abbrev b18F (F : GLoc) (n : Nat) (s : St) (X V : SAdr) (Y Z : DAdr) (U : Mmu) (d : Dev) : List Chunk := w18X F s X :: g18X F s V :: slD s X.Ad X.cd :: slR s X.Ar X.cr :: slD s V.Ad V.cd :: slR s V.Ar V.cr :: (ubF F.bu F.bb F.L F.D Y U d ++ rgF F.K F.bx n F.by_ F.bd Z U d)
set_option maxHeartbeats 4000000 in
theorem alike18_ok (F : GLoc) (n : Nat) (hF : F.L.n = n) (s : St) (hs : s.right = true) (X V : SAdr) (Y Z : DAdr) (U : Mmu) (d : Dev) (hU : UOk n U) (hn : n ≤ 64) (hd : d.ok) (ho : d.out.length ≤ 1000000000) (w : World) (hi : Inv w (blocks (b18F F n s X V Y Z U d)) (b18F F n s X V Y Z U d) w) :
  Ctr Tryz.prog 20 [.pointer (some ⟨F.bw, 0, none⟩)] w (b18F F n s X V Y Z U d) (fun v cs => v = .bool true ∧ cs = b18F F n s X V Y Z U d) := by
 have hin : d.inp.length ≤ 1000000000 := Nat.le_trans hd.wf.inp (by decide)
 obtain ⟨hd16, hr16, -⟩ := St.fits hs
 have HQ := fun A B C D c1 c2 c3 c4 w h h2 => keepState_ok s s A B C D c1 c2 c3 c4 w h h2
 rw [St.rsame_self] at HQ
 obtain ⟨UM, T⟩ := U
 have hdl : UM.data.length = n * 64 := hU.m.dl
 have hT : T.length = 16 := hU.t
 refine fn_ctr Tryz.func20 rfl Tryz.ntmps20 rfl hi ?_
 refine Zs (Zr (ZA ?_))
 refine Zn (Zt (Zs (Zr (ZA ?_))))
 refine ZA ?_
 refine ZFa 0 ?_
 refine ZC ?_
 refine ZS (fun w hi => ubuf_ok F.bu F.L.bm F.bb w (hi.get Zh)) ?_
 rintro _ _ ⟨_, ⟨rfl, rfl⟩, rfl⟩
 refine ZA ?_
 refine Zn (Zt (Zs (Zr (ZA ?_))))
 refine ZA ?_
 refine ZFa 19 ?_
 refine ZC ?_
 refine ZA ?_
 refine ZFa 17 ?_
 refine ZC ?_
 refine ZA ?_
 refine Zn (Zt (Zs (Zs (ws_draw ⟨fun j => List.elem j [], []⟩ [(0, 0), (1, 0), (2, 0), (3, 0), (4, 0), (5, 0), (6, 1), (7, 0), (8, 0), (9, 0), (10, 1), (11, 0), (12, 0), (13, 1), (14, 2), (15, 0), (16, 0), (17, 0), (18, 0), (19, 0), (20, 0), (21, 1), (24, 0), (25, 0), (26, 0), (27, 1), (28, 0), (29, 0), (30, 1), (31, 0), (32, 0), (33, 1), (34, 0), (35, 0), (36, 1), (37, 1), (22, 2), (23, 1), (38, 0), (39, 0), (40, 0), (41, 0), (42, 0), (43, 0), (44, 1), (45, 0), (46, 0), (47, 1), (49, 0), (50, 0), (51, 0), (52, 1), (48, 2), (53, 0), (54, 0), (55, 0), (56, 0), (57, 0), (58, 0), (59, 1), (60, 0), (61, 0), (62, 1), (64, 0), (65, 0), (66, 0), (67, 1), (63, 2), (68, 0), (69, 0), (70, 0), (71, 0), (72, 0), (73, 0), (74, 1), (75, 0), (76, 0), (77, 1), (79, 0), (80, 0), (81, 0), (82, 1), (78, 2), (83, 0), (84, 0), (85, 0), (86, 0), (87, 0), (88, 0), (89, 1), (90, 0), (91, 0), (92, 1), (95, 0), (96, 0), (97, 0), (98, 1), (99, 1), (93, 2), (94, 1), (100, 0), (101, 0), (102, 0), (103, 0), (104, 0), (105, 0), (106, 1), (107, 0), (108, 0), (109, 1), (112, 0), (113, 0), (114, 0), (115, 1), (116, 1), (110, 2), (111, 1), (117, 0), (118, 0), (119, 0), (120, 0), (121, 0), (122, 0), (123, 1), (124, 0), (125, 0), (126, 1), (129, 0), (130, 0), (131, 0), (132, 1), (133, 1), (127, 2), (128, 1), (134, 0), (135, 0)] Zk Zk ?_))))
 refine ws_yn rfl (y_move (Zv rfl)) rfl ?_
 refine ws_yn rfl (y_pnil rfl (Zv rfl)) rfl ?_
 refine ws_yn rfl (y_move (Zv rfl)) rfl ?_
 refine ws_y rfl (guard_no rfl rfl) (y_move (Zv rfl)) rfl ?_
 refine ws_y rfl (guard_no rfl rfl) (y_nil (ev_g rfl)) rfl ?_
 refine ws_y rfl (guard_no rfl rfl) (y_field 3 rfl (ev_g rfl) Zf) rfl ?_
 refine ws_l rfl (guard_no rfl rfl) (y_loadN (vs := s.cells (.slice X.Ad s.d.length X.cd) (.slice X.Ar s.r.length X.cr)) (fun _ => rfl) (fun _ => rfl) (ev_g rfl)) (row_cells Zh rfl) rfl ?_
 refine ws_y rfl (guard_no rfl rfl) (y_move (Zv rfl)) rfl ?_
 refine ws_y rfl (guard_no rfl rfl) (y_nil (ev_g rfl)) rfl ?_
 refine ws_y rfl (guard_no rfl rfl) (y_field 19 rfl (ev_g rfl) Zf) rfl ?_
 refine ws_l rfl (guard_no rfl rfl) (y_load (fun _ => rfl) (ev_g rfl)) (row_cell Zh rfl) rfl ?_
 refine ws_y rfl (guard_no rfl rfl) (y_nil (ev_g rfl)) rfl ?_
 refine ws_y rfl (guard_no rfl rfl) (y_field 0 rfl (ev_g rfl) Zf) rfl ?_
 refine ws_l rfl (guard_no rfl rfl) (y_loadN (vs := s.cells (.slice V.Ad s.d.length V.cd) (.slice V.Ar s.r.length V.cr)) (fun _ => rfl) (fun _ => rfl) (ev_g rfl)) (row_cells Zh rfl) rfl ?_
 refine ws_1 rfl ?_
 refine wsi_tg rfl rfl (guard_no rfl rfl) rfl (t_call rfl (fun _ _ => rfl) (fun w hi => HQ X.Ad X.Ar V.Ad V.Ar X.cd X.cr V.cd V.cr w (hi.rdSt (show Has _ (slD s X.Ad X.cd) from Zh) (show Has _ (slR s X.Ar X.cr) from Zh) (by omega) (by omega)) (hi.rdSt (show Has _ (slD s V.Ad V.cd) from Zh) (show Has _ (slR s V.Ar V.cr) from Zh) (by omega) (by omega)))) (fun _ _ _ _ _ _ _ h => by cases h) rfl ?_
 rintro _ _ ⟨_, ⟨rfl, rfl⟩, rfl⟩
 refine ws_y rfl (guard_no rfl rfl) (y_not (ev_g rfl) rfl) rfl ?_
 refine ws_yn rfl (y_or (Zv rfl) (pk_no rfl (fun _ => rfl))) rfl ?_
 refine ws_yn rfl (y_move (Zv rfl)) rfl ?_
 refine ws_y rfl (guard_no rfl rfl) (y_move (Zv rfl)) rfl ?_
 refine ws_y rfl (guard_no rfl rfl) (y_nil (ev_g rfl)) rfl ?_
 refine ws_y rfl (guard_no rfl rfl) (y_field 2 rfl (ev_g rfl) Zf) rfl ?_
 refine ws_l rfl (guard_no rfl rfl) (y_load (fun _ => rfl) (ev_g rfl)) (row_cell Zh rfl) rfl ?_
 refine ws_y rfl (guard_no rfl rfl) (y_move (Zv rfl)) rfl ?_
 refine ws_y rfl (guard_no rfl rfl) (y_nil (ev_g rfl)) rfl ?_
 refine ws_y rfl (guard_no rfl rfl) (y_field 19 rfl (ev_g rfl) Zf) rfl ?_
 refine ws_l rfl (guard_no rfl rfl) (y_load (fun _ => rfl) (ev_g rfl)) (row_cell Zh rfl) rfl ?_
 refine ws_y rfl (guard_no rfl rfl) (y_nil (ev_g rfl)) rfl ?_
 refine ws_y rfl (guard_no rfl rfl) (y_field 16 rfl (ev_g rfl) Zf) rfl ?_
 refine ws_l rfl (guard_no rfl rfl) (y_load (fun _ => rfl) (ev_g rfl)) (row_cell Zh rfl) rfl ?_
 refine ws_y rfl (guard_no rfl rfl) (y_nil (ev_g rfl)) rfl ?_
 refine ws_y rfl (guard_no rfl rfl) (y_field 0 rfl (ev_g rfl) Zf) rfl ?_
 refine ws_l rfl (guard_no rfl rfl) (y_load (fun _ => rfl) (ev_g rfl)) (row_cell Zh rfl) rfl ?_
 refine ws_y rfl (guard_no rfl rfl) (y_nil (ev_g rfl)) rfl ?_
 refine ws_y rfl (guard_no rfl rfl) (y_field 0 rfl (ev_g rfl) Zf) rfl ?_
 refine ws_l rfl (guard_no rfl rfl) (y_load (fun _ => rfl) (ev_g rfl)) (row_cell Zh rfl) rfl ?_
 refine ws_fact (fun w hi => rd_any (hi.rd (show Has _ (sl .u8 5 (some ⟨F.K.bB, 0, none⟩) (n * 64) (n * 64) UM.data) from Zh))) (fun hrd55 => ?_)
 refine ws_l rfl (guard_no rfl rfl) (y_bstr rfl rfl rfl (ev_g rfl) hrd55) (fun w hi => RdV.cellsO (hi.rd (show Has _ (sl .u8 5 (some ⟨F.K.bB, 0, none⟩) (n * 64) (n * 64) UM.data) from Zh))) rfl ?_
 refine ws_1 rfl ?_
 refine wsi_tg rfl rfl (guard_no rfl rfl) rfl (t_call rfl (fun _ _ => rfl) (fun w hi => rall_ok F.L UM w (hi.get Zh))) (fun _ _ _ _ _ _ _ h => by cases h) rfl ?_
 rintro _ _ ⟨_, ⟨bx, rfl, rfl⟩, rfl⟩
 refine ws_fact (fun w hi => rd_any (hi.rd (show Has _ (sl .u8 5 (some ⟨bx, 0, none⟩) UM.data.length UM.data.length UM.data) from Zh))) (fun hrd41 => ?_)
 refine ws_l rfl (guard_no rfl rfl) (y_bstr rfl rfl rfl (ev_g rfl) hrd41) (fun w hi => RdV.cellsO (hi.rd (show Has _ (sl .u8 5 (some ⟨bx, 0, none⟩) UM.data.length UM.data.length UM.data) from Zh))) rfl ?_
 refine ws_y rfl (guard_no rfl rfl) (y_neqS rfl (ev_g rfl) (ev_g rfl) (bne_self_eq_false _)) rfl ?_
 refine ws_yn rfl (y_or (Zv rfl) (pk_no rfl (fun _ => rfl))) rfl ?_
 refine ws_yn rfl (y_move (Zv rfl)) rfl ?_
 refine ws_y rfl (guard_no rfl rfl) (y_move (Zv rfl)) rfl ?_
 refine ws_y rfl (guard_no rfl rfl) (y_nil (ev_g rfl)) rfl ?_
 refine ws_y rfl (guard_no rfl rfl) (y_field 1 rfl (ev_g rfl) Zf) rfl ?_
 refine ws_l rfl (guard_no rfl rfl) (y_load (fun _ => rfl) (ev_g rfl)) (row_cell Zh rfl) rfl ?_
 refine ws_y rfl (guard_no rfl rfl) (y_nil (ev_g rfl)) rfl ?_
 refine ws_y rfl (guard_no rfl rfl) (y_field 0 rfl (ev_g rfl) Zf) rfl ?_
 refine ws_l rfl (guard_no rfl rfl) (y_load (fun _ => rfl) (ev_g rfl)) (row_cell Zh rfl) rfl ?_
 refine ws_y rfl (guard_no rfl rfl) (y_move (Zv rfl)) rfl ?_
 refine ws_y rfl (guard_no rfl rfl) (y_nil (ev_g rfl)) rfl ?_
 refine ws_y rfl (guard_no rfl rfl) (y_field 1 rfl (ev_g rfl) Zf) rfl ?_
 refine ws_l rfl (guard_no rfl rfl) (y_load (fun _ => rfl) (ev_g rfl)) (row_cell Zh rfl) rfl ?_
 refine ws_1 rfl ?_
 refine wsi_tg rfl rfl (guard_no rfl rfl) rfl (t_call rfl (fun _ _ => rfl) (fun w hi => pending_ok F.D.bi d.pend d.mask w (hi.get Zh))) (fun _ _ _ _ _ _ _ h => by cases h) rfl ?_
 rintro _ _ ⟨_, ⟨rfl, rfl⟩, rfl⟩
 refine ws_y rfl (guard_no rfl rfl) (y_neq (ev_g rfl) (ev_g rfl) (bne_self_eq_false _)) rfl ?_
 refine ws_yn rfl (y_or (Zv rfl) (pk_no rfl (fun _ => rfl))) rfl ?_
 refine ws_yn rfl (y_move (Zv rfl)) rfl ?_
 refine ws_y rfl (guard_no rfl rfl) (y_move (Zv rfl)) rfl ?_
 refine ws_y rfl (guard_no rfl rfl) (y_nil (ev_g rfl)) rfl ?_
 refine ws_y rfl (guard_no rfl rfl) (y_field 1 rfl (ev_g rfl) Zf) rfl ?_
 refine ws_l rfl (guard_no rfl rfl) (y_load (fun _ => rfl) (ev_g rfl)) (row_cell Zh rfl) rfl ?_
 refine ws_y rfl (guard_no rfl rfl) (y_nil (ev_g rfl)) rfl ?_
 refine ws_y rfl (guard_no rfl rfl) (y_field 0 rfl (ev_g rfl) Zf) rfl ?_
 refine ws_l rfl (guard_no rfl rfl) (y_load (fun _ => rfl) (ev_g rfl)) (row_cell Zh rfl) rfl ?_
 refine ws_y rfl (guard_no rfl rfl) (y_move (Zv rfl)) rfl ?_
 refine ws_y rfl (guard_no rfl rfl) (y_nil (ev_g rfl)) rfl ?_
 refine ws_y rfl (guard_no rfl rfl) (y_field 2 rfl (ev_g rfl) Zf) rfl ?_
 refine ws_l rfl (guard_no rfl rfl) (y_load (fun _ => rfl) (ev_g rfl)) (row_cell Zh rfl) rfl ?_
 refine ws_1 rfl ?_
 refine wsi_tg rfl rfl (guard_no rfl rfl) rfl (t_call rfl (fun _ _ => rfl) (fun w hi => mask_ok F.D.bi d.pend d.mask w (hi.get Zh))) (fun _ _ _ _ _ _ _ h => by cases h) rfl ?_
 rintro _ _ ⟨_, ⟨rfl, rfl⟩, rfl⟩
 refine ws_y rfl (guard_no rfl rfl) (y_neq (ev_g rfl) (ev_g rfl) (bne_self_eq_false _)) rfl ?_
 refine ws_yn rfl (y_or (Zv rfl) (pk_no rfl (fun _ => rfl))) rfl ?_
 refine ws_yn rfl (y_move (Zv rfl)) rfl ?_
 refine ws_y rfl (guard_no rfl rfl) (y_move (Zv rfl)) rfl ?_
 refine ws_y rfl (guard_no rfl rfl) (y_nil (ev_g rfl)) rfl ?_
 refine ws_y rfl (guard_no rfl rfl) (y_field 1 rfl (ev_g rfl) Zf) rfl ?_
 refine ws_l rfl (guard_no rfl rfl) (y_load (fun _ => rfl) (ev_g rfl)) (row_cell Zh rfl) rfl ?_
 refine ws_y rfl (guard_no rfl rfl) (y_nil (ev_g rfl)) rfl ?_
 refine ws_y rfl (guard_no rfl rfl) (y_field 1 rfl (ev_g rfl) Zf) rfl ?_
 refine ws_l rfl (guard_no rfl rfl) (y_load (fun _ => rfl) (ev_g rfl)) (row_cell Zh rfl) rfl ?_
 refine ws_y rfl (guard_no rfl rfl) (y_move (Zv rfl)) rfl ?_
 refine ws_y rfl (guard_no rfl rfl) (y_nil (ev_g rfl)) rfl ?_
 refine ws_y rfl (guard_no rfl rfl) (y_field 3 rfl (ev_g rfl) Zf) rfl ?_
 refine ws_l rfl (guard_no rfl rfl) (y_load (fun _ => rfl) (ev_g rfl)) (row_cell Zh rfl) rfl ?_
 refine ws_1 rfl ?_
 refine wsi_tg rfl rfl (guard_no rfl rfl) rfl (t_call rfl (fun _ _ => rfl) (fun w hi => timat_ok F.D.bti d.timer w (hi.get Zh))) (fun _ _ _ _ _ _ _ h => by cases h) rfl ?_
 rintro _ _ ⟨_, ⟨rfl, rfl⟩, rfl⟩
 refine ws_y rfl (guard_no rfl rfl) (y_neq (ev_g rfl) (ev_g rfl) (bne_self_eq_false _)) rfl ?_
 refine ws_yn rfl (y_or (Zv rfl) (pk_no rfl (fun _ => rfl))) rfl ?_
 refine ws_yn rfl (y_move (Zv rfl)) rfl ?_
 refine ws_y rfl (guard_no rfl rfl) (y_move (Zv rfl)) rfl ?_
 refine ws_y rfl (guard_no rfl rfl) (y_nil (ev_g rfl)) rfl ?_
 refine ws_y rfl (guard_no rfl rfl) (y_field 1 rfl (ev_g rfl) Zf) rfl ?_
 refine ws_l rfl (guard_no rfl rfl) (y_load (fun _ => rfl) (ev_g rfl)) (row_cell Zh rfl) rfl ?_
 refine ws_y rfl (guard_no rfl rfl) (y_nil (ev_g rfl)) rfl ?_
 refine ws_y rfl (guard_no rfl rfl) (y_field 2 rfl (ev_g rfl) Zf) rfl ?_
 refine ws_l rfl (guard_no rfl rfl) (y_load (fun _ => rfl) (ev_g rfl)) (row_cell Zh rfl) rfl ?_
 refine ws_y rfl (guard_no rfl rfl) (y_move (Zv rfl)) rfl ?_
 refine ws_y rfl (guard_no rfl rfl) (y_nil (ev_g rfl)) rfl ?_
 refine ws_y rfl (guard_no rfl rfl) (y_field 4 rfl (ev_g rfl) Zf) rfl ?_
 refine ws_l rfl (guard_no rfl rfl) (y_load (fun _ => rfl) (ev_g rfl)) (row_cell Zh rfl) rfl ?_
 refine ws_fact (fun w hi => rd_any (hi.rd (show Has _ (b8 Z.Ao Z.co d.out) from Zh))) (fun hrd117 => ?_)
 refine ws_l rfl (guard_no rfl rfl) (y_bstr rfl rfl rfl (ev_g rfl) hrd117) (fun w hi => RdV.cellsO (hi.rd (show Has _ (b8 Z.Ao Z.co d.out) from Zh))) rfl ?_
 refine ws_1 rfl ?_
 refine wsi_tg rfl rfl (guard_no rfl rfl) rfl (t_call rfl (fun _ _ => rfl) (fun w hi => conout_ok F.D.bcn Y.Ao Y.co d.out Y.Ai d.inp.length Y.ci ho w (hi.get Zh) (hi.get Zh))) (fun _ _ _ _ _ _ _ h => by cases h) rfl ?_
 rintro _ _ ⟨_, ⟨A1, c1, rfl, rfl⟩, rfl⟩
 refine ws_fact (fun w hi => rd_any (hi.rd (show Has _ (b8 A1 c1 d.out) from Zh))) (fun hrd112 => ?_)
 refine ws_l rfl (guard_no rfl rfl) (y_bstr rfl rfl rfl (ev_g rfl) hrd112) (fun w hi => RdV.cellsO (hi.rd (show Has _ (b8 A1 c1 d.out) from Zh))) rfl ?_
 refine ws_y rfl (guard_no rfl rfl) (y_neqS rfl (ev_g rfl) (ev_g rfl) (bne_self_eq_false _)) rfl ?_
 refine ws_yn rfl (y_or (Zv rfl) (pk_no rfl (fun _ => rfl))) rfl ?_
 refine ws_yn rfl (y_move (Zv rfl)) rfl ?_
 refine ws_y rfl (guard_no rfl rfl) (y_move (Zv rfl)) rfl ?_
 refine ws_y rfl (guard_no rfl rfl) (y_nil (ev_g rfl)) rfl ?_
 refine ws_y rfl (guard_no rfl rfl) (y_field 1 rfl (ev_g rfl) Zf) rfl ?_
 refine ws_l rfl (guard_no rfl rfl) (y_load (fun _ => rfl) (ev_g rfl)) (row_cell Zh rfl) rfl ?_
 refine ws_y rfl (guard_no rfl rfl) (y_nil (ev_g rfl)) rfl ?_
 refine ws_y rfl (guard_no rfl rfl) (y_field 2 rfl (ev_g rfl) Zf) rfl ?_
 refine ws_l rfl (guard_no rfl rfl) (y_load (fun _ => rfl) (ev_g rfl)) (row_cell Zh rfl) rfl ?_
 refine ws_y rfl (guard_no rfl rfl) (y_move (Zv rfl)) rfl ?_
 refine ws_y rfl (guard_no rfl rfl) (y_nil (ev_g rfl)) rfl ?_
 refine ws_y rfl (guard_no rfl rfl) (y_field 5 rfl (ev_g rfl) Zf) rfl ?_
 refine ws_l rfl (guard_no rfl rfl) (y_load (fun _ => rfl) (ev_g rfl)) (row_cell Zh rfl) rfl ?_
 refine ws_fact (fun w hi => rd_any (rdC_rd (hi.get (show Has _ (rdC Z.Ai d.inp.length Z.ci (ints .u8 d.inp)) from Zh)))) (fun hrd134 => ?_)
 refine ws_l rfl (guard_no rfl rfl) (y_bstr rfl rfl rfl (ev_g rfl) hrd134) (fun w hi => RdV.cellsO (rdC_rd (hi.get (show Has _ (rdC Z.Ai d.inp.length Z.ci (ints .u8 d.inp)) from Zh)))) rfl ?_
 refine ws_1 rfl ?_
 refine wsi_tg rfl rfl (guard_no rfl rfl) rfl (t_call rfl (fun _ _ => rfl) (fun w hi => conin_ok F.D.bcn Y.Ao d.out.length Y.co Y.Ai Y.ci d.inp hin w (hi.get Zh) (hi.get Zh))) (fun _ _ _ _ _ _ _ h => by cases h) rfl ?_
 rintro _ _ ⟨_, ⟨A2, c2, rfl, rfl⟩, rfl⟩
 refine ws_fact (fun w hi => rd_any (hi.rd (show Has _ (b8 A2 c2 d.inp) from Zh))) (fun hrd129 => ?_)
 refine ws_l rfl (guard_no rfl rfl) (y_bstr rfl rfl rfl (ev_g rfl) hrd129) (fun w hi => RdV.cellsO (hi.rd (show Has _ (b8 A2 c2 d.inp) from Zh))) rfl ?_
 refine ws_y rfl (guard_no rfl rfl) (y_neqS rfl (ev_g rfl) (ev_g rfl) (bne_self_eq_false _)) rfl ?_
 refine ws_yn rfl (y_or (Zv rfl) (pk_no rfl (fun _ => rfl))) rfl ?_
 refine ws_yn rfl (y_move (Zv rfl)) rfl ?_
 refine ws_y rfl (guard_no rfl rfl) (y_move (Zv rfl)) rfl ?_
 refine ws_y rfl (guard_no rfl rfl) (y_nil (ev_g rfl)) rfl ?_
 refine ws_y rfl (guard_no rfl rfl) (y_field 1 rfl (ev_g rfl) Zf) rfl ?_
 refine ws_l rfl (guard_no rfl rfl) (y_load (fun _ => rfl) (ev_g rfl)) (row_cell Zh rfl) rfl ?_
 refine ws_y rfl (guard_no rfl rfl) (y_nil (ev_g rfl)) rfl ?_
 refine ws_y rfl (guard_no rfl rfl) (y_field 3 rfl (ev_g rfl) Zf) rfl ?_
 refine ws_l rfl (guard_no rfl rfl) (y_load (fun _ => rfl) (ev_g rfl)) (row_cell Zh rfl) rfl ?_
 refine ws_y rfl (guard_no rfl rfl) (y_move (Zv rfl)) rfl ?_
 refine ws_y rfl (guard_no rfl rfl) (y_nil (ev_g rfl)) rfl ?_
 refine ws_y rfl (guard_no rfl rfl) (y_field 6 rfl (ev_g rfl) Zf) rfl ?_
 refine ws_l rfl (guard_no rfl rfl) (y_load (fun _ => rfl) (ev_g rfl)) (row_cell Zh rfl) rfl ?_
 refine ws_fact (fun w hi => rd_any (hi.rd (show Has _ (dskC F.bd d.disk) from Zh))) (fun hrd151 => ?_)
 refine ws_l rfl (guard_no rfl rfl) (y_bstr rfl rfl rfl (ev_g rfl) hrd151) (fun w hi => RdV.cellsO (hi.rd (show Has _ (dskC F.bd d.disk) from Zh))) rfl ?_
 refine ws_1 rfl ?_
 refine wsi_tg rfl rfl (guard_no rfl rfl) rfl (t_call rfl (fun _ _ => rfl) (fun w hi => driall_ok F.D.bdr F.D.bdk d.disk w (hi.get Zh) (hi.get Zh))) (fun _ _ _ _ _ _ _ h => by cases h) rfl ?_
 rintro _ _ ⟨_, ⟨A3, c3, rfl, rfl⟩, rfl⟩
 refine ws_fact (fun w hi => rd_any (hi.rd (show Has _ (sl .u8 5 A3 1024 c3 d.disk) from Zh))) (fun hrd146 => ?_)
 refine ws_l rfl (guard_no rfl rfl) (y_bstr rfl rfl rfl (ev_g rfl) hrd146) (fun w hi => RdV.cellsO (hi.rd (show Has _ (sl .u8 5 A3 1024 c3 d.disk) from Zh))) rfl ?_
 refine ws_y rfl (guard_no rfl rfl) (y_neqS rfl (ev_g rfl) (ev_g rfl) (bne_self_eq_false _)) rfl ?_
 refine ws_yn rfl (y_or (Zv rfl) (pk_no rfl (fun _ => rfl))) rfl ?_
 refine ws_done ?_
 refine Zt (wc_cond_f rfl (rfl) ?_)
 refine Zc (Zt (Zs (Zs (Zr (wl_pick (b18F F n s X V Y Z ⟨UM, T⟩ d) Zj ?_)))))
 refine ZA ?_
 refine Zn (Zt (Zx ?_))
 refine wc_loop (fun k : Nat => [(0, .pointer (some ⟨F.bw, 0, none⟩)), (3, .pointer (some ⟨F.bb, 0, none⟩)), (5, .int .i64 (k : Int))]) (fun _ => b18F F n s X V Y Z ⟨UM, T⟩ d) (fun k => k ≤ 16) (fun k => 16 - k) (0) ?_ ?_ ?_ ?_
 ·exact Nat.zero_le _
 ·exact Zwk
 ·exact List.Sublist.refl _
 rintro k hk
 refine Zs (Zs (Zr (ZA ?_)))
 refine ZA ?_
 refine Zn (Zt ?_)
 refine wc_cond _ rfl (fun hc6 => ?_) (fun hc6 => ?_)
 ·simp only [decide_eq_true_eq] at hc6
  have hk16 : k < 16 := (by omega)
  have he : T[k]? = some (T.getD k TE.zero) := (by simp [show k < T.length by omega])
  have HA := fun w h => tat_ok F.bb T hT k hk16 w h
  obtain ⟨e, hee⟩ : ∃ e, T.getD k TE.zero = e := ⟨_, rfl⟩
  rw [hee] at he HA
  refine Zc (Zt (Zs (Zx (Zs (wc_draw ⟨fun j => List.elem j [], []⟩ Zk ?_)))))
  refine ZE 0 ?_
  refine ZE 1 ?_
  refine ZE 3 ?_
  refine ZE 4 ?_
  refine ZFe 5 19 ?_
  refine ZG 6 ?_
  refine ZE 7 ?_
  refine ZFe 8 16 ?_
  refine ZG 9 ?_
  refine ZE 10 ?_
  refine ZE 11 ?_
  refine ZFe 12 1 ?_
  refine wa_yn 13 rfl Zk Zk Zk (y_indexA (j := k) (sz := 4) (r := 1 + k * 4) rfl (fun _ => rfl) (Zv rfl) (Zv rfl) (fun _ => by omega) (fun _ => by omega) (by omega)) rfl ?_
  refine wa_ln 14 rfl Zk Zk Zk Zk (y_loadN (vs := e.cells) (fun _ => rfl) (fun _ => rfl) (Zv rfl)) (row_cells (o := 1 + k * 4) Zh (by rw [Nat.add_comm]; exact tlbCells_get he)) rfl ?_
  refine wa_1 2 Zk ?_
  refine ZT (fun w hi => HA w (hi.get Zh)) ?_
  rintro _ _ ⟨_, ⟨rfl, rfl⟩, rfl⟩
  refine wa_yn 15 rfl Zk Zk Zk (y_neqT entry_guard (entry_eq e) (Zv rfl) (Zv rfl)) rfl ?_
  refine wa_done Zk ?_
  refine Zt (wc_cond_f rfl (rfl) ?_)
  refine Zc (Zo (Zt (Zr (ZA ?_))))
  refine Zy (y_add (Zv rfl) (Zv rfl) Zl) ?_
  refine ZA ?_
  refine Zn ?_
  refine q_mid (k + 1) ?_ ?_ ?_
  ·exact ⟨show k + 1 ≤ 16 by omega, show 16 - (k + 1) < 16 - k by omega⟩
  ·exact Zwk
  exact List.Sublist.refl _
 refine wc_exit ?_
 refine q_then_exit ?_
 refine q_then_exit ?_
 refine q_block_same rfl ?_
 refine Zt (Zs (Zr (ZA ?_)))
 refine Zn (Zt (Ze (qok_pick (b18F F n s X V Y Z ⟨UM, T⟩ d) Zj ?_)))
 refine ret1 (cs' := (b18F F n s X V Y Z ⟨UM, T⟩ d)) (.inl rfl) (List.Sublist.refl _) rfl rfl ?_
 exact ⟨rfl, rfl⟩
end Go.Proofs.YthcpmpmbgbibfaaGreatDoor
/- The law's guests at their beginning; what stays as it must be between blocks. -/
set_option linter.unusedSimpArgs false
set_option linter.unusedVariables false
set_option maxRecDepth 100000
namespace Go.Ink
open Go.RowKit
theorem MOk.init18 {n : Nat} {b : List Int} (h1 : 1 ≤ n) (h64 : n ≤ 64) (h : b.length ≤ n * 64) (hb : u8s b) : MOk n (Mem.init n b) :=
 ⟨init_ok h hb, h1, h64, fun j hj => by
  show (List.replicate 64 false).getD j false = false
  rw [List.getD_eq_getElem?_getD]
  cases hx : (List.replicate 64 false)[j]? with
  | none => rfl
  | some b => exact (List.mem_replicate.1 (List.mem_of_getElem? hx)).2⟩
/-- A guest between two blocks of a law, k blocks behind its beginning. -/
structure G18 (n k : Nat) (s : St) (U : Mmu) (d : Dev) : Prop where
 g : GOk n s U d
 m : MOk n U.m
 i : GIn d
 o : d.out.length ≤ 8 * k
theorem G18.block {n k : Nat} {s : St} {U : Mmu} {d : Dev} (h : G18 n k s U d) (hw : ∀ root va kind super, MOk n (walkTo n U.m root va kind super).2) : G18 n (k + 1) (blockTo n s U d).1 (blockTo n s U d).2.1 (blockTo n s U d).2.2 := by
 have ho := h.o
 rcases block_goes h.g with h1 | ⟨-, -, h1, h2⟩
 ·exact ⟨h1.g, h.m.block h.g hw, block_in h.i, by have := h1.out; omega⟩
 exact ⟨h1, h.m.block h.g hw, block_in h.i, by rw [h2]; omega⟩
theorem G18.event {n k : Nat} {s : St} {U : Mmu} {d : Dev} (h : G18 n k s U d) (kd m : Int) {l : List Int} (hl : u8s l) : G18 n k s U (evTo kd m l d) := by
 obtain ⟨h1, h2, h3⟩ := ev_goes h.g h.i kd m hl
 exact ⟨h1, h.m, h2, by rw [h3]; exact h.o⟩
end Go.Ink
namespace Go.Proofs.YthcpmpmbgbibfaaGreatDoor
open Go.RowKit Go.Ink
attribute [local irreducible] OpY GuardIs

abbrev st18F (F : GLoc) (n : Nat) (M : Mem) (T : List TE) (d : Dev) : List Chunk := w18X F St.new ⟨none, 0, none, 0⟩ :: g18X F St.new ⟨none, 0, none, 0⟩ :: (ubF F.bu F.bb F.L F.D ⟨none, 0, none, 0⟩ ⟨M, T⟩ d ++ (rmF F.K n M ++ [refURow F.bx F.K.bm T] ++ refBF F.by_ F.K.bm F.bd ⟨none, 0, none, 0⟩ d))
theorem freshG_ok (A B : Option Addr) (c e n : Nat) (l k : List Int) (hn0 : 1 ≤ n) (hn : n ≤ 64) (hl : l.length ≤ n * 64) (hb : u8s l) (hk : k.length ≤ 1024) (w : World) (h : Rd w .u8 A l.length c l) (hB : Rd w .u8 B k.length e k) :
  Ctr Tryz.prog 9 [imgV A c l B e k n] w [] (fun v cs => ∃ F, F.L.n = n ∧ v = .pointer (some ⟨F.bw, 0, none⟩) ∧ cs = st18F F n (Mem.init n l) tflush (Dev.init k)) := by
 refine (fresh18_ok A B c e n l k hn0 hn hl hb hk w h hB).mono ?_
 rintro v cs ⟨F, hF, rfl, rfl⟩
 refine ⟨F, hF, rfl, ?_⟩
 have e : (Mem.init n l).turned.take n = List.replicate n false := by show (List.replicate 64 false).take n = _; rw [List.take_replicate, Nat.min_eq_left hn]
 unfold fr18 st18F rmF
 rw [e]
 rfl
theorem fresh_g18 {n : Nat} {l k : List Int} (hn0 : 1 ≤ n) (hn : n ≤ 64) (hl : l.length ≤ n * 64) (hb : u8s l) (hk : k.length ≤ 1024) (hkb : u8s k) : G18 n 0 St.new ⟨Mem.init n l, tflush⟩ (Dev.init k) :=
 ⟨fresh_gok hl hb hk hkb, MOk.init18 hn0 hn hl hb, ⟨Nat.zero_le _⟩, Nat.le_refl _⟩
end Go.Proofs.YthcpmpmbgbibfaaGreatDoor
