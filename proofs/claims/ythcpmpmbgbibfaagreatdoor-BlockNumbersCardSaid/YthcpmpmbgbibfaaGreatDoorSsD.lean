/- The document's loads and stores of several bytes. -/
import Derived.Test.YthcpmpmbgbibfaaGreatDoorSsC
import Derived.Test.YthcpmpmbgbibfaaGreatDoorInkA
set_option linter.unusedSimpArgs false
set_option linter.unusedVariables false
set_option maxRecDepth 100000
namespace Go.Ink
open Go.RowKit
theorem dev_cond {n v p : Nat} (h : PlaceOk n v (p : Int)) (hn : n ≤ 64) : (decide ((32768 : Int) ≤ (p : Int)) && !decide (p + 1 ≤ n * 64)) = isDev (p : Int) := by
 cases hd : isDev (p : Int) with
 | true =>
  unfold isDev at hd
  simp only [Bool.and_eq_true, decide_eq_true_eq] at hd
  rw [decide_eq_true hd.1, decide_eq_false (show ¬ (p + 1 ≤ n * 64) by omega)]
  rfl
 | false =>
  have := dev_big hd h
  rw [decide_eq_false (show ¬ ((32768 : Int) ≤ (p : Int)) by omega)]
  rfl
theorem placeVal_app (d : List Int) : ∀ (l : List Int) (a : Int), placeVal d (l ++ [a]) = placeVal d l + gB d a.toNat * 256 ^ l.length
 | [], a => by simp [placeVal]
 | b :: l, a => by
  rw [List.cons_append, placeVal, placeVal_app d l a, placeVal, List.length_cons, Int.pow_succ, Int.mul_add, Int.mul_left_comm, Int.add_assoc, Int.mul_comm 256 (256 ^ l.length)]
theorem placeVal_up {d : List Int} (h : u8s d) {l : List Int} (hl : l.length ≤ 4) {i : Nat} (hi : i < l.length) {a : Nat} (ha : l[i]'hi = (a : Int)) :
  bits .or .u32 (placeVal d (l.take i)) (IntKind.u32.wrap (gB d a * 2 ^ (8 * i))) = placeVal d (l.take (i + 1)) := by
 have h1 := placeVal_rng h (l.take i)
 have hlen : (l.take i).length = i := by rw [List.length_take]; omega
 rw [hlen] at h1
 have e : (2 : Int) ^ (8 * i) = 256 ^ i := by rw [Int.pow_mul]; rfl
 rw [List.take_succ_eq_append_getElem hi, placeVal_app, ha, hlen, Int.toNat_natCast, or_sh (8 * i) (by omega) (by rw [e]; exact h1) (gB_rng h a), e]
theorem MOk.spanTo {n : Nat} {U : Mmu} (h : MOk n U.m) (s : Sp) (va k : Nat) (kind : Int) (hw : ∀ {V : Mmu}, MOk n V.m → ∀ va, MOk n (walkTo n V.m s.root va kind s.super).2 := fun {V} h va => h.walk s.root va kind s.super) : MOk n (spanTo n U s va k kind).2.m := by
 have h1 := h.placeTo s va kind (hw h va)
 have h2 := h1.placeTo s (nextPage va) kind (hw h1 _)
 unfold Go.Ink.spanTo span1
 refine cond_all (fun q : (List Int × Tr) × Mmu => MOk n q.2.m) h1 ?_
 refine cond_all (fun q : (List Int × Tr) × Mmu => MOk n q.2.m) ?_ (by rw [spanEnd_u]; exact h1)
 unfold span2
 exact cond_all (fun q : (List Int × Tr) × Mmu => MOk n q.2.m) h2 (by rw [spanEnd_u]; exact h2)
theorem minU {k : Nat} (h : k ≤ 31) : min ((k : Nat) : Int).toNat IntKind.u32.bits = k := by
 rw [Int.toNat_natCast, show IntKind.u32.bits = 32 from rfl]
 omega
theorem spanEnd_first {a : Int} (h : isDev a = true) (b : Int) (va k : Nat) (t : Tr) (U : Mmu) : spanEnd a b va k t U = (([], ⟨10, va⟩), U) := by unfold spanEnd; rw [h]; rfl
theorem spanEnd_second {a b : Int} (h : isDev a = false) (h2 : isDev b = true) {va k : Nat} (hk : ((64 - va % 64 : Nat) : Int) < (k : Int)) (t : Tr) (U : Mmu) : spanEnd a b va k t U = (([], ⟨10, nextPage va⟩), U) := by
 unfold spanEnd
 rw [h, h2, decide_eq_true hk]
 rfl
theorem spanEnd_all {a b : Int} (h : isDev a = false) {va k : Nat} (h2 : ((64 - va % 64 : Nat) : Int) < (k : Int) → isDev b = false) (t : Tr) (U : Mmu) : spanEnd a b va k t U = ((spanL a b va k, t), U) := by
 have e : (decide (((64 - va % 64 : Nat) : Int) < (k : Int)) && isDev b) = false := by
  by_cases hk : ((64 - va % 64 : Nat) : Int) < (k : Int)
  ·rw [h2 hk, Bool.and_false]
  rw [decide_eq_false hk]; rfl
 unfold spanEnd
 rw [h, e]
 rfl
end Go.Ink
namespace Go.Proofs.YthcpmpmbgbibfaaGreatDoor
open Go.RowKit Go.Ink
attribute [local irreducible] OpY GuardIs

set_option maxHeartbeats 2000000 in
theorem refplaces_ok (K : RMLoc) (bx n : Nat) (U : Mmu) (hM : MOk n U.m) (hT : U.t.length = 16) (pg su : Bool) (root va k : Nat) (hr : root ≤ 4294967295) (hva : va ≤ 4294967295) (hk1 : 1 ≤ k) (hk4 : k ≤ 4) (kind : Int) (w : World) (hi : Inv w (blocks (ruF K bx n U)) (ruF K bx n U) w) :
  Ctr Tryz.prog 198 [.pointer (some ⟨bx, 0, none⟩), .bool pg, .bool su, .int .u32 root, .int .u32 va, .int .i64 k, .int .i64 kind] w (ruF K bx n U) (fun v cs => ∃ A c, v = .tuple #[.slice A (spanTo n U ⟨pg, su, root⟩ va k kind).1.1.length c, (spanTo n U ⟨pg, su, root⟩ va k kind).1.2.v] ∧ cs = ruF K bx n (spanTo n U ⟨pg, su, root⟩ va k kind).2 ++ [sl .u32 30 A (spanTo n U ⟨pg, su, root⟩ va k kind).1.1.length c (spanTo n U ⟨pg, su, root⟩ va k kind).1.1]) := by
 have hn := hM.n64
 have HP1 := refplace_ok K bx n U hM hT pg su root va hr hva kind
 have hl1 := placeTo_len n U ⟨pg, su, root⟩ va kind
 have hM1 := hM.placeTo ⟨pg, su, root⟩ va kind (hM.walk _ _ _ _)
 have hf1 := placeTo_fact n U ⟨pg, su, root⟩ va hva kind
 have ht1 := placeTo_told n U ⟨pg, su, root⟩ va kind
 obtain ⟨p1, hp1⟩ : ∃ x, placeTo n U ⟨pg, su, root⟩ va kind = x := ⟨_, rfl⟩
 unfold spanTo
 rw [hp1] at HP1 hl1 hM1 hf1 ht1 ⊢
 rw [hT] at hl1
 have HP2 := refplace_ok K bx n p1.2 hM1 hl1 pg su root (nextPage va) hr (nextPage_le va) kind
 have hM2 := hM1.placeTo ⟨pg, su, root⟩ (nextPage va) kind (hM1.walk _ _ _ _)
 have hf2 := placeTo_fact n p1.2 ⟨pg, su, root⟩ (nextPage va) (nextPage_le va) kind
 have ht2 := placeTo_told n p1.2 ⟨pg, su, root⟩ (nextPage va) kind
 obtain ⟨p2, hp2⟩ : ∃ x, placeTo n p1.2 ⟨pg, su, root⟩ (nextPage va) kind = x := ⟨_, rfl⟩
 unfold span1 span2
 rw [hp2] at HP2 hM2 hf2 ht2 ⊢
 obtain ⟨⟨a1, tr1⟩, U1⟩ := p1
 obtain ⟨⟨a2, tr2⟩, U2⟩ := p2
 simp only at HP1 HP2 hM1 hM2 hf1 hf2 ht1 ht2 ⊢
 obtain ⟨a1, rfl⟩ : ∃ m : Nat, a1 = m := Int.eq_ofNat_of_zero_le hf1.1.1
 obtain ⟨a2, rfl⟩ : ∃ m : Nat, a2 = m := Int.eq_ofNat_of_zero_le hf2.1.1
 have hu1 : (a1 : Int) ≤ 4294967295 := hf1.1.2
 have hu2 : (a2 : Int) ≤ 4294967295 := hf2.1.2
 refine fn_ctr Tryz.func198 rfl Tryz.ntmps198 rfl hi ?_
 refine Zs (Zr (ZA ?_))
 refine ZN fun b15 => ?_
 refine Zn (Zt (Zs (Zs (Zr (ZA ?_)))))
 iterate 2 refine ZA ?_
 iterate 2 refine ZB ?_
 refine ZA ?_
 refine Zn (Zt (wc_cond_f rfl ((by rw [decide_eq_false (show ¬ (k : Int) < 1 by omega), decide_eq_false (show ¬ (4 : Int) < k by omega)]; rfl)) ?_))
 refine Zc (Zt (Zs (Zr (ZA ?_))))
 iterate 5 refine ZA ?_
 refine wl_t (t_callS (ruF K bx n U) rfl (fun _ _ => rfl) Zi (fun w hi hin => HP1 w hin)) rfl ?_
 rintro _ _ ⟨_, ⟨rfl, rfl⟩, rfl⟩
 iterate 3 refine ZA ?_
 refine ZN fun b17 => ?_
 refine ZA ?_
 refine wl_t0 (t_storeN (vs := tr1.cells) (fun _ => rfl) rfl rfl (allT rfl) Za (by exact rfl)) ?_
 rintro _ _ ⟨rfl, rfl⟩
 refine Zn (Zt (Zs (Zs (Zr (ZFa 0 ?_)))))
 refine ZC ?_
 refine ZA ?_
 refine Zn (Zt ?_)
 refine wc_cond _ rfl (fun hc4 => ?_) (fun hc4 => ?_)
 ·rw [hc4]
  simp only [cond_true]
  refine Zs (wc_draw ⟨fun j => List.elem j [2], []⟩ Zk ?_)
  refine wa_nilc 30 1 ?_
  refine ZI 0 ?_
  refine ZE 1 ?_
  refine wa_1 2 Zk ?_
  refine ZR ?_
  refine wa_done Zk ?_
  refine Zt (Ze (Zw (qok_pick (ruF K bx n U1 ++ [trC b15 tr1, slv 30 1 none 0 0 []]) Zj ?_)))
  refine retTC (cs' := [row _ _ _, row _ _ _, slv _ _ _ _ _ _, slv _ _ _ _ _ _, slv _ _ _ _ _ _]) (.inl rfl) Zu rfl rfl rfl Zh (fun _ => rfl) (fun _ => rfl) ?_
  exact ⟨_, _, rfl, rfl⟩
 rw [hc4]
 simp only [cond_false]
 have hz1 : tr1.cause = 0 := (by simpa using hc4)
 obtain rfl := ht1 hz1
 have hP1 := hf1.2 rfl
 refine Zc (Zt (Zs (Zr (ZA ?_))))
 refine Zy (y_quo (Zv rfl) (Zv rfl) (by omega) (show _ = ((va / 64 : Nat) : Int) from by rw [Int.tdiv_eq_ediv_of_nonneg (by omega), u32_wrap_id _ (by omega) (by omega)]; omega)) ?_
 refine Zy (y_add (Zv rfl) (Zv rfl) (show _ = ((va / 64 + 1 : Nat) : Int) from (u32_wrap_id _ (by omega) (by omega)).trans (by omega))) ?_
 refine Zy (y_mul (Zv rfl) (Zv rfl) (show _ = ((nextPage va : Nat) : Int) from by rw [IntKind.wrap_u32]; unfold nextPage; omega)) ?_
 refine ZA ?_
 refine Zn (Zt (Zs (Zr (ZA ?_))))
 refine Zy (y_rem (Zv rfl) (Zv rfl) (by omega) (show _ = ((va % 64 : Nat) : Int) from by rw [Int.tmod_eq_emod_of_nonneg (by omega)]; omega)) ?_
 refine Zy (y_sub (Zv rfl) (Zv rfl) (show _ = ((64 - va % 64 : Nat) : Int) from (u32_wrap_id _ (by omega) (by omega)).trans (by omega))) ?_
 refine Zy (y_conv rfl rfl (Zv rfl) Zl) ?_
 refine ZA ?_
 refine Zn (Zt (Zs (Zr (ZA ?_))))
 refine Zn (Zt ?_)
 refine wc_seq_mid (fun q : Nat × Mmu => [(0, .pointer (some ⟨bx, 0, none⟩)), (4, .int .u32 (va : Int)), (5, .int .i64 (k : Int)), (15, .pointer (some ⟨b15, 0, none⟩)), (16, .int .u32 (a1 : Int)), (18, .int .u32 (nextPage va : Nat)), (19, .int .i64 ((64 - va % 64 : Nat) : Int)), (20, .int .u32 (q.1 : Int))]) (fun q => ruF K bx n q.2 ++ [trC b15 Tr.none]) (fun q => (bif decide (((64 - va % 64 : Nat) : Int) < (k : Int)) then bif tr2.cause != 0 then ((([] : List Int), tr2), U2) else spanEnd a1 a2 va k tr2 U2 else spanEnd a1 0 va k Tr.none U1) = spanEnd a1 q.1 va k Tr.none q.2 ∧ q.1 ≤ 4294967295 ∧ (((64 - va % 64 : Nat) : Int) < (k : Int) → PlaceOk n (nextPage va) (q.1 : Int))) ?_ ?_
 ·refine Zs (Zr (ZA ?_))
  iterate 2 refine ZA ?_
  refine Zn (Zt ?_)
  refine wc_cond _ rfl (fun hc9 => ?_) (fun hc9 => ?_)
  ·have hsm : (bif decide (((64 - va % 64 : Nat) : Int) < (k : Int)) then bif tr2.cause != 0 then ((([] : List Int), tr2), U2) else spanEnd a1 a2 va k tr2 U2 else spanEnd a1 0 va k Tr.none U1) = bif tr2.cause != 0 then ((([] : List Int), tr2), U2) else spanEnd a1 a2 va k tr2 U2 := by rw [hc9]; rfl
   refine Zs (Zr (ZA ?_))
   iterate 5 refine ZA ?_
   refine wl_t (t_callS (ruF K bx n U1) rfl (fun _ _ => rfl) Zi (fun w hi hin => HP2 w hin)) rfl ?_
   rintro _ _ ⟨_, ⟨rfl, rfl⟩, rfl⟩
   iterate 4 refine ZA ?_
   refine wl_t0 (t_storeN (vs := tr2.cells) (fun _ => rfl) rfl rfl (allT rfl) Za (by exact rfl)) ?_
   rintro _ _ ⟨rfl, rfl⟩
   refine Zn (Zt (Zs (Zr (ZFa 0 ?_))))
   refine ZC ?_
   refine ZA ?_
   refine Zn (Zt ?_)
   refine wc_cond _ rfl (fun hc11 => ?_) (fun hc11 => ?_)
   ·rw [hsm, hc11]
    simp only [cond_true]
    refine Zs (wc_draw ⟨fun j => List.elem j [2], []⟩ Zk ?_)
    refine wa_nilc 30 1 ?_
    refine ZI 0 ?_
    refine ZE 1 ?_
    refine wa_1 2 Zk ?_
    refine ZR ?_
    refine wa_done Zk ?_
    refine Zt (Ze (Zw (qok_pick (ruF K bx n U2 ++ [trC b15 tr2, slv 30 1 none 0 0 []]) Zj ?_)))
    refine retTC (cs' := [row _ _ _, row _ _ _, slv _ _ _ _ _ _, slv _ _ _ _ _ _, slv _ _ _ _ _ _]) (.inl rfl) Zu rfl rfl rfl Zh (fun _ => rfl) (fun _ => rfl) ?_
    exact ⟨_, _, rfl, rfl⟩
   have hz2 : tr2.cause = 0 := (by simpa using hc11)
   obtain rfl := ht2 hz2
   have hP2 := hf2.2 rfl
   refine Zc ?_
   refine q_midP ((a2, U2)) ?_ ?_ ?_
   ·exact ⟨hsm.trans (by rw [hc11]; rfl), by omega, fun _ => hP2⟩
   ·exact Zwk
   exact Zj
  have hsm : (bif decide (((64 - va % 64 : Nat) : Int) < (k : Int)) then bif tr2.cause != 0 then ((([] : List Int), tr2), U2) else spanEnd a1 a2 va k tr2 U2 else spanEnd a1 0 va k Tr.none U1) = spanEnd a1 0 va k Tr.none U1 := by rw [hc9]; rfl
  refine Zc ?_
  refine q_midP ((0, U1)) ?_ ?_ ?_
  ·exact ⟨hsm, Nat.zero_le _, fun h => by rw [decide_eq_true h] at hc9; cases hc9⟩
  ·exact Zwk
  exact Zj
 rintro ⟨b2, U'⟩ ⟨hq, hb2, hP2⟩
 dsimp only at hq hb2 hP2
 rw [hq]
 dsimp only
 refine Zs (Zr (wl_nilc 30 1 ?_))
 refine ZA ?_
 refine Zn (Zt (Zs (Zs (Zr (ZA ?_)))))
 refine Zn (Zt (Zx ?_))
 refine wc_loop (fun q : Nat × Option Addr × Nat => [(0, .pointer (some ⟨bx, 0, none⟩)), (4, .int .u32 (va : Int)), (5, .int .i64 (k : Int)), (15, .pointer (some ⟨b15, 0, none⟩)), (16, .int .u32 (a1 : Int)), (18, .int .u32 (nextPage va : Nat)), (19, .int .i64 ((64 - va % 64 : Nat) : Int)), (20, .int .u32 (b2 : Int)), (21, .slice q.2.1 (spanL a1 b2 va q.1).length q.2.2), (22, .int .i64 (q.1 : Int))]) (fun q => ruF K bx n U' ++ [trC b15 Tr.none, sl .u32 30 q.2.1 (spanL a1 b2 va q.1).length q.2.2 (spanL a1 b2 va q.1)]) (fun q => q.1 ≤ k ∧ (0 < q.1 → isDev (a1 : Int) = false) ∧ (((64 - va % 64 : Nat) : Int) < (q.1 : Int) → isDev (b2 : Int) = false)) (fun q => k - q.1) ((0, none, 0)) ?_ ?_ ?_ ?_
 ·exact ⟨Nat.zero_le _, fun h => absurd h (by decide), fun h => absurd h (show ¬ (((64 - va % 64 : Nat) : Int) < 0) by omega)⟩
 ·exact Zwk
 ·((repeat (first | exact List.Sublist.slnil | refine List.Sublist.cons_cons _ ?_ | refine List.Sublist.cons _ ?_)))
 rintro ⟨j, A1, c1⟩ ⟨hj, hd1, hd2⟩
 dsimp only at hj hd1 hd2 ⊢
 refine Zs (Zs (Zr (ZA ?_)))
 iterate 2 refine ZA ?_
 refine Zn (Zt ?_)
 refine wc_cond _ rfl (fun hc15 => ?_) (fun hc15 => ?_)
 ·simp only [decide_eq_true_eq] at hc15
  have hle := spanL_len a1 b2 va j
  have hjk : j < k := (by omega)
  refine Zc (Zt (Zs (Zx (Zs (Zr (ZA ?_))))))
  refine ZA ?_
  refine Zy (y_conv rfl rfl (Zv rfl) (u32_wrap_id _ (by omega) (by omega))) ?_
  refine Zy (y_add (Zv rfl) (Zv rfl) rfl) ?_
  iterate 5 refine ZA ?_
  refine Zn (Zt ?_)
  refine wc_seq_mid (fun r : Nat × Nat => [(0, .pointer (some ⟨bx, 0, none⟩)), (4, .int .u32 (va : Int)), (5, .int .i64 (k : Int)), (15, .pointer (some ⟨b15, 0, none⟩)), (16, .int .u32 (a1 : Int)), (18, .int .u32 (nextPage va : Nat)), (19, .int .i64 ((64 - va % 64 : Nat) : Int)), (20, .int .u32 (b2 : Int)), (21, .slice A1 (spanL a1 b2 va j).length c1), (22, .int .i64 (j : Int)), (23, .int .u32 (spanAt a1 b2 va j)), (24, .int .u32 (r.1 : Int)), (25, .int .u32 (r.2 : Int))]) (fun r => ruF K bx n U' ++ [trC b15 Tr.none, sl .u32 30 A1 (spanL a1 b2 va j).length c1 (spanL a1 b2 va j)]) (fun r => r.2 ≤ 4294967295 ∧ ((j < 64 - va % 64 ∧ r.1 = va ∧ r.2 = a1 ∧ PlaceOk n va (r.2 : Int)) ∨ (64 - va % 64 ≤ j ∧ r.1 = nextPage va ∧ r.2 = b2 ∧ PlaceOk n (nextPage va) (r.2 : Int)))) ?_ ?_
  ·refine Zs (Zr (ZA ?_))
   iterate 2 refine ZA ?_
   refine Zn (Zt ?_)
   refine wc_cond _ rfl (fun hc18 => ?_) (fun hc18 => ?_)
   ·simp only [decide_eq_true_eq] at hc18
    have hge : 64 - va % 64 ≤ j := (by omega)
    have he : spanAt a1 b2 va j = IntKind.u32.wrap ((b2 : Int) + ((j - (64 - va % 64) : Nat) : Int)) := by (unfold spanAt; rw [decide_eq_false (by omega)]; rfl)
    refine Zr (ZA ?_)
    iterate 2 refine ZA ?_
    refine Zy (y_sub (Zv rfl) (Zv rfl) (show _ = ((j - (64 - va % 64) : Nat) : Int) from (IntWalk.i64_in _ ⟨by omega, by omega⟩).trans (by omega))) ?_
    refine Zy (y_conv rfl rfl (Zv rfl) (u32_wrap_id _ (by omega) (by omega))) ?_
    refine Zy (y_add (Zv rfl) (Zv rfl) (show _ = spanAt a1 b2 va j from he.symm)) ?_
    iterate 5 refine ZA ?_
    refine Zn ?_
    refine q_midP ((nextPage va, b2)) ?_ ?_ ?_
    ·exact ⟨hb2, .inr ⟨hge, rfl, rfl, hP2 (by omega)⟩⟩
    ·exact Zwk
    exact Zj
   simp only [decide_eq_false_iff_not] at hc18
   have hlt : j < 64 - va % 64 := (by omega)
   have he : spanAt a1 b2 va j = IntKind.u32.wrap ((a1 : Int) + (j : Int)) := by (unfold spanAt; rw [decide_eq_true (by omega)]; rfl)
   rw [← he]
   refine Zc ?_
   refine q_midP ((va, a1)) ?_ ?_ ?_
   ·exact ⟨by omega, .inl ⟨hlt, rfl, rfl, hP1⟩⟩
   ·exact Zwk
   exact Zj
  rintro ⟨wa, at_⟩ ⟨hat, hor⟩
  dsimp only at hat hor ⊢
  have hdc : (decide ((32768 : Int) ≤ (at_ : Int)) && !decide (at_ + 1 ≤ n * 64)) = isDev (at_ : Int) := (by rcases hor with ⟨_, _, _, h⟩ | ⟨_, _, _, h⟩; exact dev_cond h hn; exact dev_cond h hn)
  refine Zs (Zs (Zr (ZA ?_)))
  iterate 2 refine ZA ?_
  iterate 2 refine ZB ?_
  refine ZFb 0 ?_
  refine ZD ?_
  refine ZB ?_
  refine Zyy rfl rfl (y_conv rfl rfl (ev_g rfl) (u64_wrap_id _ (by omega) (by omega))) ?_
  refine wl_callg (guard_yes rfl rfl) (.cons (ev_g rfl) (.cons (ev_g rfl) (.cons (Zv rfl) .nil))) (fun _ _ => rfl) (fun hg w hi => refhas_ok K n hn at_ 1 (by omega) (by decide) w (hi.get Zh)) rfl ?_
  refine ZB ?_
  refine ZA ?_
  refine Zn (Zt ?_)
  refine wc_cond _ rfl (fun hc20 => ?_) (fun hc20 => ?_)
  ·have hdv := hdc.symm.trans hc20
   have hse : spanEnd a1 b2 va k Tr.none U' = (([], ⟨10, wa⟩), U') := (by rcases hor with ⟨h1, rfl, rfl, _⟩ | ⟨h1, rfl, rfl, _⟩; exact spanEnd_first hdv _ _ _ _ _; exact spanEnd_second (hd1 (by omega)) hdv (by omega) _ _)
   rw [hse]
   refine Zs (Zr (wl_nilc 30 1 ?_))
   iterate 3 refine ZA ?_
   refine ZM ?_
   refine Zn (Zt (Ze (Zw (Zq (Zw (Zw (Zq (Zw (qok_pick (ruF K bx n U' ++ [trC b15 ⟨10, wa⟩, slv 30 1 none 0 0 []]) Zj ?_)))))))))
   refine retTC (cs' := [row _ _ _, row _ _ _, slv _ _ _ _ _ _, slv _ _ _ _ _ _, slv _ _ _ _ _ _]) (.inl rfl) Zu rfl rfl rfl Zh (fun _ => rfl) (fun _ => rfl) ?_
   exact ⟨_, _, rfl, rfl⟩
  have hdv := hdc.symm.trans hc20
  refine Zc (Zt (Zr (ZA ?_)))
  refine ZA ?_
  refine wl_t (t_buildSl1 rfl rfl (fun _ => rfl) (fun _ => rfl) rfl rfl) rfl ?_
  rintro _ _ ⟨b111, rfl, rfl⟩
  refine wl_t (t_append (e := 30) (sz := 1) (bytes := 4) rfl rfl Za rfl rfl (fun w hi => hi.rd (show Has _ (slv 30 1 (some ⟨b111, 0, none⟩) 1 1 [.int .u32 (spanAt a1 b2 va j)]) from Zh)) (allT rfl) (by simp only [maxLen]; omega) (by omega)) rfl ?_
  rintro _ _ ⟨A2, c2, rfl, rfl⟩
  rw [show (spanL a1 b2 va j).length + 1 = (spanL a1 b2 va (j + 1)).length by (rw [spanL_succ]; simp), show ints .u32 (spanL a1 b2 va j) ++ [Value.int .u32 (spanAt a1 b2 va j)] = ints .u32 (spanL a1 b2 va (j + 1)) by (rw [spanL_succ]; exact ints_append _ [_])]
  refine ZA ?_
  refine Zn (Zo (Zt (Zr (ZA ?_))))
  refine Zy (y_add (Zv rfl) (Zv rfl) Zl) ?_
  refine ZA ?_
  refine Zn ?_
  refine q_midP ((j + 1, A2, c2)) ?_ ?_ ?_
  ·exact ⟨⟨by show j + 1 ≤ k; omega, fun _ => (by rcases hor with ⟨h1, rfl, rfl, _⟩ | ⟨h1, rfl, rfl, _⟩; exact hdv; exact hd1 (by omega)), fun h => (by rcases hor with ⟨h1, rfl, rfl, _⟩ | ⟨h1, rfl, rfl, _⟩; (exfalso; dsimp only at h; omega); exact hdv)⟩, by show k - (j + 1) < k - j; omega⟩
  ·exact Zwk
  exact Zj
 simp only [decide_eq_false_iff_not] at hc15
 obtain rfl : j = k := (by omega)
 rw [spanEnd_all (hd1 (by omega)) hd2]
 refine wc_exit ?_
 refine q_then_exit ?_
 refine q_then_exit ?_
 refine q_block_same rfl ?_
 refine Zt (Zs (Zr (ZA ?_)))
 iterate 2 refine ZA ?_
 refine ZM ?_
 refine Zn (Zt (Ze (qok_pick (ruF K bx n U' ++ [trC b15 Tr.none, sl .u32 30 A1 (spanL a1 b2 va j).length c1 (spanL a1 b2 va j)]) Zj ?_)))
 refine retTC (cs' := [row _ _ _, row _ _ _, slv _ _ _ _ _ _, slv _ _ _ _ _ _, slv _ _ _ _ _ _]) (.inl rfl) Zu rfl rfl rfl Zh (fun _ => rfl) (fun _ => rfl) ?_
 exact ⟨_, _, rfl, rfl⟩
set_option maxHeartbeats 1000000 in
theorem refload_ok (K : RMLoc) (bx n : Nat) (U : Mmu) (hM : MOk n U.m) (hT : U.t.length = 16) (pg su : Bool) (root va k : Nat) (hr : root ≤ 4294967295) (hva : va ≤ 4294967295) (hk1 : 1 ≤ k) (hk4 : k ≤ 4) (w : World) (hi : Inv w (blocks (ruF K bx n U)) (ruF K bx n U) w) :
  Ctr Tryz.prog 166 [.pointer (some ⟨bx, 0, none⟩), .bool pg, .bool su, .int .u32 root, .int .u32 va, .int .i64 k] w (ruF K bx n U) (fun v cs => v = .tuple #[.int .u32 (loadTo n U ⟨pg, su, root⟩ va k).1.1, (loadTo n U ⟨pg, su, root⟩ va k).1.2.v] ∧ cs = ruF K bx n (loadTo n U ⟨pg, su, root⟩ va k).2) := by
 have hn := hM.n64
 have HS := refplaces_ok K bx n U hM hT pg su root va k hr hva hk1 hk4 2
 have hM2 := hM.spanTo ⟨pg, su, root⟩ va k 2
 have hin0 := spanTo_in (n := n) (U := U) (s := ⟨pg, su, root⟩) (va := va) (k := k) hn hva (kind := 2) hk4
 have hlen0 := spanTo_len (n := n) (U := U) (s := ⟨pg, su, root⟩) (va := va) (k := k) (kind := 2)
 unfold loadTo
 obtain ⟨sp, hsp⟩ : ∃ x, spanTo n U ⟨pg, su, root⟩ va k 2 = x := ⟨_, rfl⟩
 rw [hsp] at HS hin0 hlen0 hM2 ⊢
 obtain ⟨⟨l, tr⟩, U'⟩ := sp
 simp only at HS hin0 hlen0 hM2 ⊢
 have hdl := hM2.m.dl
 have hdb := hM2.m.db
 refine fn_ctr Tryz.func166 rfl Tryz.ntmps166 rfl hi ?_
 refine Zs (Zr (ZA ?_))
 refine ZN fun b13 => ?_
 refine Zn (Zt (Zs (Zr (ZA ?_))))
 iterate 5 refine ZA ?_
 refine wl_t (t_callS (ruF K bx n U) rfl (fun _ _ => rfl) Zi (fun w hi hin => HS w hin)) rfl ?_
 rintro _ _ ⟨_, ⟨A1, c1, rfl, rfl⟩, rfl⟩
 iterate 3 refine ZA ?_
 refine ZN fun b15 => ?_
 refine ZA ?_
 refine wl_t0 (t_storeN (vs := tr.cells) (fun _ => rfl) rfl rfl (allT rfl) Za (by exact rfl)) ?_
 rintro _ _ ⟨rfl, rfl⟩
 refine Zn (Zt (Zs (Zr (ZA ?_))))
 refine Zn (Zt (Zs (Zs (Zr (ZA ?_)))))
 refine Zn (Zt (Zx ?_))
 refine wc_loop (fun j : Nat => [(0, .pointer (some ⟨bx, 0, none⟩)), (13, .pointer (some ⟨b13, 0, none⟩)), (14, .slice A1 l.length c1), (15, .pointer (some ⟨b15, 0, none⟩)), (16, .int .u32 (placeVal U'.m.data (l.take j))), (17, .int .i64 (j : Int))]) (fun _ => ruF K bx n U' ++ [sl .u32 30 A1 l.length c1 l, trC b13 Tr.none, trC b15 tr]) (fun j => j ≤ l.length) (fun j => l.length - j) (0) ?_ ?_ ?_ ?_
 ·exact Nat.zero_le _
 ·exact Zwk
 ·((repeat (first | exact List.Sublist.slnil | refine List.Sublist.cons_cons _ ?_ | refine List.Sublist.cons _ ?_)))
 rintro j hj
 refine Zs (Zs (Zr (ZA ?_)))
 iterate 3 refine ZA ?_
 refine Zn (Zt ?_)
 refine wc_cond _ rfl (fun hc4 => ?_) (fun hc4 => ?_)
 ·simp only [decide_eq_true_eq] at hc4
  have hil : j < l.length := (by omega)
  have hrange := hin0 _ (List.getElem_mem hil)
  refine wc_fact (fun w hi => slv_some (hi.get (show Has _ (sl .u32 30 A1 l.length c1 l) from Zh)) (by omega)) ?_
  rintro ⟨ba, rfl⟩
  obtain ⟨an, han⟩ := Int.eq_ofNat_of_zero_le hrange.1
  have hup := placeVal_up hdb (show l.length ≤ 4 by omega) hil han
  have hg := gB_rng hdb an
  refine Zc (Zt (Zs (Zx (wc_draw ⟨fun j => List.elem j [], []⟩ Zk ?_))))
  refine ZE 0 ?_
  refine ZE 1 ?_
  refine ZE 2 ?_
  refine ZFe 3 0 ?_
  refine ZG 4 ?_
  refine ZE 5 ?_
  refine ZFe 6 0 ?_
  refine ZG 7 ?_
  refine ZE 8 ?_
  refine ZE 9 ?_
  refine wa_yn 10 rfl Zk Zk Zk (y_indexR (j := j) (sz := 1) (r := j) rfl (fun _ => rfl) (Zv rfl) (Zv rfl) (fun _ => by omega) (fun _ => by omega) (by omega)) rfl ?_
  refine wa_ln 11 rfl Zk Zk Zk Zk (y_load (fun _ => rfl) (Zv rfl)) (sl_cellR Zh (show (ints .u32 l)[j]? = some (.int .u32 (an : Int)) from by rw [← han]; exact ints_get hil)) rfl ?_
  refine wa_yn 12 rfl Zk Zk Zk (y_indexR (j := an) (sz := 1) (r := an) rfl (fun _ => rfl) (Zv rfl) (Zv rfl) (fun _ => by omega) (fun _ => by omega) (by omega)) rfl ?_
  refine wa_ln 13 rfl Zk Zk Zk Zk (y_load (fun _ => rfl) (Zv rfl)) (sl_cellR Zh (ints_at (gB_at (show an < U'.m.data.length by omega)))) rfl ?_
  refine wa_yn 14 rfl Zk Zk Zk (y_conv rfl rfl (Zv rfl) (u32_wrap_id _ (by omega) (by omega))) rfl ?_
  refine ZE 15 ?_
  refine wa_yn 16 rfl Zk Zk Zk (y_conv rfl rfl (Zv rfl) (show _ = (j : Int) from by first | exact u64_wrap_id _ (by omega) (by omega) | exact uint_wrap_id _ (by omega) (by omega))) rfl ?_
  refine wa_yn 17 rfl Zk Zk Zk (y_mul (Zv rfl) (Zv rfl) (show _ = ((8 * j : Nat) : Int) from (u64_wrap_id _ (by omega) (by omega)).trans (by omega))) rfl ?_
  refine wa_yn 18 rfl Zk Zk Zk (y_shl (Zv rfl) (Zv rfl) (by omega) (show _ = IntKind.u32.wrap (gB U'.m.data an * 2 ^ (8 * j)) from by rw [minU (show 8 * j ≤ 31 by omega)])) rfl ?_
  refine wa_yn 19 rfl Zk Zk Zk (y_or_ (Zv rfl) (Zv rfl) hup) rfl ?_
  refine ZE 20 ?_
  refine wa_done Zk ?_
  refine Zo (Zt (Zr (ZA ?_)))
  refine Zy (y_add (Zv rfl) (Zv rfl) Zl) ?_
  refine ZA ?_
  refine Zn ?_
  refine q_midP (j + 1) ?_ ?_ ?_
  ·exact ⟨by omega, by omega⟩
  ·exact Zwk
  exact Zj
 simp only [decide_eq_false_iff_not] at hc4
 obtain rfl : j = l.length := (by omega)
 rw [List.take_length]
 refine wc_exit ?_
 refine q_then_exit ?_
 refine q_then_exit ?_
 refine q_block_same rfl ?_
 refine Zt (Zs (wc_draw ⟨fun j => List.elem j [3], []⟩ Zk ?_))
 refine ZE 0 ?_
 refine ZI 1 ?_
 refine ZE 2 ?_
 refine wa_1 3 Zk ?_
 refine ZR ?_
 refine wa_done Zk ?_
 refine Zt (Ze (qok_pick (ruF K bx n U' ++ [trC b13 tr]) Zj ?_))
 refine retTC (cs' := [row _ _ _, row _ _ _, slv _ _ _ _ _ _, slv _ _ _ _ _ _]) (.inl rfl) Zu rfl rfl rfl Zh (fun _ => rfl) (fun _ => rfl) ?_
 exact ⟨rfl, rfl⟩
set_option maxHeartbeats 1000000 in
theorem refstore_ok (K : RMLoc) (bx n : Nat) (U : Mmu) (hM : MOk n U.m) (hT : U.t.length = 16) (pg su : Bool) (root va k : Nat) (v : Int) (hr : root ≤ 4294967295) (hva : va ≤ 4294967295) (hk1 : 1 ≤ k) (hk4 : k ≤ 4) (w : World) (hi : Inv w (blocks (ruF K bx n U)) (ruF K bx n U) w) :
  Ctr Tryz.prog 167 [.pointer (some ⟨bx, 0, none⟩), .bool pg, .bool su, .int .u32 root, .int .u32 va, .int .u32 v, .int .i64 k] w (ruF K bx n U) (fun x cs => x = (storeTo n U ⟨pg, su, root⟩ va k v).1.v ∧ cs = ruF K bx n (storeTo n U ⟨pg, su, root⟩ va k v).2) := by
 have hn := hM.n64
 have HS := refplaces_ok K bx n U hM hT pg su root va k hr hva hk1 hk4 3
 have hM2 := hM.spanTo ⟨pg, su, root⟩ va k 3
 have hin0 := spanTo_in (n := n) (U := U) (s := ⟨pg, su, root⟩) (va := va) (k := k) hn hva (kind := 3) hk4
 have hlen0 := spanTo_len (n := n) (U := U) (s := ⟨pg, su, root⟩) (va := va) (k := k) (kind := 3)
 unfold storeTo
 obtain ⟨sp, hsp⟩ : ∃ x, spanTo n U ⟨pg, su, root⟩ va k 3 = x := ⟨_, rfl⟩
 rw [hsp] at HS hin0 hlen0 hM2 ⊢
 obtain ⟨⟨l, tr⟩, U'⟩ := sp
 simp only at HS hin0 hlen0 hM2 ⊢
 refine fn_ctr Tryz.func167 rfl Tryz.ntmps167 rfl hi ?_
 refine Zs (Zr (ZN fun b14 => ?_))
 refine Zn (Zt (Zs (Zr (ZA ?_))))
 iterate 5 refine ZA ?_
 refine wl_t (t_callS (ruF K bx n U) rfl (fun _ _ => rfl) Zi (fun w hi hin => HS w hin)) rfl ?_
 rintro _ _ ⟨_, ⟨A1, c1, rfl, rfl⟩, rfl⟩
 iterate 3 refine ZA ?_
 refine ZN fun b16 => ?_
 refine ZA ?_
 refine wl_t0 (t_storeN (vs := tr.cells) (fun _ => rfl) rfl rfl (allT rfl) Za (by exact rfl)) ?_
 rintro _ _ ⟨rfl, rfl⟩
 refine Zn (Zt (Zs (Zs (Zr (ZA ?_)))))
 refine Zn (Zt (Zx ?_))
 refine wc_loop (fun j : Nat => [(0, .pointer (some ⟨bx, 0, none⟩)), (5, .int .u32 v), (14, .pointer (some ⟨b14, 0, none⟩)), (15, .slice A1 l.length c1), (16, .pointer (some ⟨b16, 0, none⟩)), (17, .int .i64 (j : Int))]) (fun j => ruF K bx n ⟨putsTo U'.m l v j, U'.t⟩ ++ [sl .u32 30 A1 l.length c1 l, trC b14 Tr.none, trC b16 tr]) (fun j => j ≤ l.length ∧ MOk n (putsTo U'.m l v j)) (fun j => l.length - j) (0) ?_ ?_ ?_ ?_
 ·exact ⟨Nat.zero_le _, hM2⟩
 ·exact Zwk
 ·((repeat (first | exact List.Sublist.slnil | refine List.Sublist.cons_cons _ ?_ | refine List.Sublist.cons _ ?_)))
 rintro j ⟨hj, hMj⟩
 refine Zs (Zs (Zr (ZA ?_)))
 iterate 3 refine ZA ?_
 refine Zn (Zt ?_)
 refine wc_cond _ rfl (fun hc3 => ?_) (fun hc3 => ?_)
 ·simp only [decide_eq_true_eq] at hc3
  have hil : j < l.length := (by omega)
  have hrange := hin0 _ (List.getElem_mem hil)
  refine wc_fact (fun w hi => slv_some (hi.get (show Has _ (sl .u32 30 A1 l.length c1 l) from Zh)) (by omega)) ?_
  rintro ⟨ba, rfl⟩
  obtain ⟨an, han⟩ := Int.eq_ofNat_of_zero_le hrange.1
  have hgd : (l.getD j 0).toNat = an := by (rw [List.getD_eq_getElem?_getD, List.getElem?_eq_getElem hil]; simp only [Option.getD_some, han]; omega)
  have hpt : putsTo U'.m l v (j + 1) = (putsTo U'.m l v j).put an (wbyte v j) := by rw [putsTo, hgd]
  refine Zc (Zt (Zs (Zx (wc_draw ⟨fun j => List.elem j [14], []⟩ Zk ?_))))
  refine ZE 0 ?_
  refine ZE 1 ?_
  refine ZFe 2 0 ?_
  refine ZG 3 ?_
  refine ZE 4 ?_
  refine ZE 5 ?_
  refine wa_yn 6 rfl Zk Zk Zk (y_indexR (j := j) (sz := 1) (r := j) rfl (fun _ => rfl) (Zv rfl) (Zv rfl) (fun _ => by omega) (fun _ => by omega) (by omega)) rfl ?_
  refine wa_ln 7 rfl Zk Zk Zk Zk (y_load (fun _ => rfl) (Zv rfl)) (sl_cellR Zh (show (ints .u32 l)[j]? = some (.int .u32 (an : Int)) from by rw [← han]; exact ints_get hil)) rfl ?_
  refine ZE 8 ?_
  refine ZE 9 ?_
  refine wa_yn 10 rfl Zk Zk Zk (y_conv rfl rfl (Zv rfl) (show _ = (j : Int) from by first | exact u64_wrap_id _ (by omega) (by omega) | exact uint_wrap_id _ (by omega) (by omega))) rfl ?_
  refine wa_yn 11 rfl Zk Zk Zk (y_mul (Zv rfl) (Zv rfl) (show _ = ((8 * j : Nat) : Int) from (u64_wrap_id _ (by omega) (by omega)).trans (by omega))) rfl ?_
  refine wa_yn 12 rfl Zk Zk Zk (y_shr (Zv rfl) (Zv rfl) (by omega) rfl) rfl ?_
  refine wa_yn 13 rfl Zk Zk Zk (y_conv rfl rfl (Zv rfl) (wbyte_shrU v (show j < 4 by omega))) rfl ?_
  refine wa_1 14 Zk ?_
  refine wi_t rfl rfl (t_callS (rmF K n (putsTo U'.m l v j)) rfl (fun _ _ => rfl) Zi (fun w hi hin => refput_ok K n (putsTo U'.m l v j) hMj an (by omega) (wbyte v j) w hin)) (fun _ _ _ _ _ _ _ h => by cases h) rfl ?_
  rintro _ _ ⟨_, ⟨rfl, rfl⟩, rfl⟩
  refine wa_done Zk ?_
  refine Zo (Zt (Zr (ZA ?_)))
  refine Zy (y_add (Zv rfl) (Zv rfl) Zl) ?_
  refine ZA ?_
  refine Zn ?_
  refine q_midP (j + 1) ?_ ?_ ?_
  ·exact ⟨⟨by omega, by rw [hpt]; exact hMj.put (by omega) (wbyte_rng v j)⟩, by omega⟩
  ·exact Zwk
  exact (show Pick _ _ from by rw [hpt]; exact Zj)
 simp only [decide_eq_false_iff_not] at hc3
 obtain rfl : j = l.length := (by omega)
 refine wc_exit ?_
 refine q_then_exit ?_
 refine q_then_exit ?_
 refine q_block_same rfl ?_
 refine Zt (Zs (Zr (wl_loadRow Zh (fun _ => rfl) (fun _ => rfl) (Zv rfl) rfl ?_)))
 refine ZM ?_
 refine Zn (Zt (Ze (qok_pick (ruF K bx n ⟨putsTo U'.m l v l.length, U'.t⟩ ++ [trC b14 tr]) Zj ?_)))
 refine retC (cs' := [row _ _ _, row _ _ _, slv _ _ _ _ _ _, slv _ _ _ _ _ _]) (.inl rfl) Zu rfl rfl Zh (fun _ => rfl) (fun _ => rfl) ?_
 exact ⟨rfl, rfl⟩
end Go.Proofs.YthcpmpmbgbibfaaGreatDoor
