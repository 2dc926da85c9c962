/- Decoding; an instruction at a place. -/
import Derived.Test.YthcpmpmbgbibfaaGreatDoorBkB
import Derived.Test.YthcpmpmbgbibfaaGreatDoorInkA
set_option linter.unusedSimpArgs false
set_option linter.unusedVariables false
set_option maxRecDepth 100000
namespace Go.Ink
open Go.RowKit
/-- What decoding tells. -/
abbrev insV (o : Option ((Int × Int) × Nat)) : List Value := [.int .i64 ((o.map (·.1.1)).getD 0), .int .u32 ((o.map (·.1.2)).getD 0)]
abbrev insN (o : Option ((Int × Int) × Nat)) : Nat := (o.map (·.2)).getD 0
theorem decodeOf_zero {op : Int} (l : List Int) (h : opSize op = 0) : decodeOf (op :: l) = none := by
 have e : (opSize op == 0) = true := by rw [h]; rfl
 show (bif opSize op == 0 then none else _) = none
 rw [e]
 rfl
theorem decodeOf_short {op : Int} {l : List Int} (h : (l.length : Int) + 1 < opSize op) : decodeOf (op :: l) = none := by
 unfold decodeOf
 simp only [decide_eq_true h, cond_true, Bool.cond_self]
theorem decodeOf_some {op : Int} {l : List Int} {z : Nat} (h0 : opSize op = ((z + 1 : Nat) : Int)) (h : z ≤ l.length) : decodeOf (op :: l) = some ((op, leOf (l.take z)), z + 1) := by
 have e1 : (opSize op == 0) = false := by rw [h0, beq_eq_false_iff_ne]; omega
 have e2 : decide ((l.length : Int) + 1 < opSize op) = false := decide_eq_false (by rw [h0]; omega)
 show (bif opSize op == 0 then none else bif decide ((l.length : Int) + 1 < opSize op) then none else some ((op, leOf (l.take ((opSize op).toNat - 1))), (opSize op).toNat)) = _
 rw [e1, cond_false, e2, cond_false, h0]
 rfl
theorem leOf_step {l : List Int} {z k : Nat} {x : Int} (hk : k < z) (hx : l[k]? = some x) : leOf ((l.take z).drop k) = x + 256 * leOf ((l.take z).drop (k + 1)) := by
 have hx' : (l.take z)[k]? = some x := by rw [List.getElem?_take, if_pos hk]; exact hx
 obtain ⟨hlt, he⟩ := List.getElem?_eq_some_iff.1 hx'
 rw [List.drop_eq_getElem_cons hlt, he]
 rfl
end Go.Ink
namespace Go.Proofs.YthcpmpmbgbibfaaGreatDoor
open Go.RowKit Go.Ink
attribute [local irreducible] OpY GuardIs

set_option maxHeartbeats 1000000 in
theorem decode_ok (A : Option Addr) (c : Nat) (b : List Int) (hb : u8s b) (w : World) (h : Rd w .u8 A b.length c b) :
  Ctr Tryz.prog 66 [.slice A b.length c] w [] (fun v cs => (∃ y, v = .tuple #[.agg (insV (decodeOf b)).toArray, .int .i64 (insN (decodeOf b) : Int), .int .i64 y] ∧ (y == 0) = (decodeOf b).isSome) ∧ cs = []) := by
 have hlm : b.length ≤ maxLen := Nat.le_trans h.cap h.max
 simp only [maxLen] at hlm
 cases b with
 | nil =>
  refine fn_ctr Tryz.func66 rfl Tryz.ntmps66 rfl (Inv.start w) ?_
  refine Zs (Zr (ZN fun b2 => ?_))
  iterate 2 refine ZA ?_
  refine Zn (Zt (Zs (Zs (Zr (ZA ?_)))))
  iterate 2 refine ZA ?_
  refine Zn (Zt (wc_cond_t rfl (rfl) ?_))
  refine Zs (Zr (ZA ?_))
  refine ZM ?_
  iterate 2 refine ZA ?_
  refine Zn (Zt (Ze (Zw (retC2 (cs' := []) (.inl rfl) Zu rfl rfl rfl rfl Zh (fun _ => rfl) (fun _ => rfl) ?_))))
  exact ⟨⟨10, rfl, rfl⟩, rfl⟩
 | cons op l =>
  have hop := hb op (by simp)
  have hl : u8s l := fun x hx => hb x (List.mem_cons_of_mem _ hx)
  have hlen : (op :: l).length = l.length + 1 := rfl
  obtain ⟨ad, rfl⟩ := h.some_ (by rw [hlen]; omega)
  have hz5 : opSize op = 0 ∨ opSize op = 1 ∨ opSize op = 2 ∨ opSize op = 5 := opSize_cases op
  have HS := size_ok op
  have hn0 : 0 ≤ opSize op := by omega
  obtain ⟨z0, hz0⟩ : ∃ z : Nat, opSize op = z := Int.eq_ofNat_of_zero_le hn0
  have E0 := fun h => decodeOf_zero (op := op) l h
  have E1 := fun h => decodeOf_short (op := op) (l := l) h
  have E2 := fun z h1 h2 => decodeOf_some (op := op) (l := l) (z := z) h1 h2
  rw [hz0] at hz5 HS E0 E1 E2
  have hz6 : z0 ≤ 5 := by omega
  refine fn_ctr Tryz.func66 rfl Tryz.ntmps66 rfl (Inv.start w) ?_
  refine Zs (Zr (ZN fun b2 => ?_))
  iterate 2 refine ZA ?_
  refine Zn (Zt (Zs (Zs (Zr (ZA ?_)))))
  iterate 2 refine ZA ?_
  refine Zn (Zt (wc_cond_f rfl ((beq_eq_false_iff_ne.2 (by rw [hlen]; omega))) ?_))
  refine Zc (Zt (Zs (Zr (ZA ?_))))
  refine Zy (y_index (j := 0)  rfl (fun _ => rfl) (Zv rfl) (Zv rfl)  (fun _ => by omega) (fun _ => by omega)) ?_
  refine wl_y (y_load (fun _ => rfl) (Zv rfl)) (rd_cell h (ints_at (l := op :: l) (j := 0) rfl)) rfl ?_
  refine Zy (y_conv rfl rfl (Zv rfl) Zl) ?_
  refine ZA ?_
  refine ZN fun b5 => ?_
  refine ZM ?_
  refine Zn (Zt (Zs (Zr (ZFa 0 ?_))))
  refine ZC ?_
  refine ZS (fun w hi => HS w) ?_
  rintro _ _ ⟨_, ⟨rfl, rfl⟩, rfl⟩
  refine ZA ?_
  refine Zn (Zt (Zs (Zx (Zs (Zr (ZA ?_))))))
  iterate 2 refine ZA ?_
  refine Zn (Zt ?_)
  refine wc_cond _ rfl (fun hc5 => ?_) (fun hc5 => ?_)
  ·rw [E0 (beqZ hc5)]
   refine Zs (Zr (ZA ?_))
   refine ZM ?_
   iterate 2 refine ZA ?_
   refine Zn (Zt (Ze (Zq (Zw (retC2 (cs' := []) (.inl rfl) Zu rfl rfl rfl rfl Zh (fun _ => rfl) (fun _ => rfl) ?_)))))
   exact ⟨⟨12, rfl, rfl⟩, rfl⟩
  have hz1 : 1 ≤ z0 := (by have := ne_of_beq_false hc5; omega)
  refine Zs (Zr (ZA ?_))
  iterate 4 refine ZA ?_
  refine Zn (Zt ?_)
  refine wc_cond _ rfl (fun hc7 => ?_) (fun hc7 => ?_)
  ·simp only [decide_eq_true_eq] at hc7
   rw [E1 (by rw [hlen] at hc7; omega)]
   refine Zs (Zr (ZA ?_))
   refine ZM ?_
   iterate 2 refine ZA ?_
   refine Zn (Zt (Ze (Zq (Zw (retC2 (cs' := []) (.inl rfl) Zu rfl rfl rfl rfl Zh (fun _ => rfl) (fun _ => rfl) ?_)))))
   exact ⟨⟨10, rfl, rfl⟩, rfl⟩
  simp only [decide_eq_false_iff_not] at hc7
  obtain ⟨z, rfl⟩ : ∃ z, z0 = z + 1 := ⟨z0 - 1, by omega⟩
  have hzl : z ≤ l.length := (by rw [hlen] at hc7; omega)
  rw [E2 z rfl hzl]
  have htl : (l.take z).length = z := (by rw [List.length_take]; omega)
  have hrng : ∀ k, 0 ≤ leOf ((l.take z).drop k) ∧ leOf ((l.take z).drop k) < ((256 ^ (z - k) : Nat) : Int) := fun k => (by have h1 := leOf_rng (l := (l.take z).drop k) (fun x hx => hl x (List.mem_of_mem_take (List.mem_of_mem_drop hx))); rwa [List.length_drop, htl] at h1)
  obtain ⟨N, hN⟩ : ∃ N : Nat → Int, (fun k => leOf ((l.take z).drop k)) = N := ⟨_, rfl⟩
  have hN0 : N 0 = leOf (l.take z) := (by rw [← hN]; rfl)
  have hNz : N z = 0 := (by rw [← hN]; show leOf ((l.take z).drop z) = 0; rw [List.drop_of_length_le (by omega)]; rfl)
  have hNs : ∀ k x, k < z → l[k]? = some x → N k = x + 256 * N (k + 1) := (fun k x h1 h2 => by rw [← hN]; exact leOf_step h1 h2)
  have hNr : ∀ k, 0 ≤ N k ∧ N k < ((256 ^ (z - k) : Nat) : Int) := (fun k => by rw [← hN]; exact hrng k)
  rw [← hN0]
  refine Zc (Zo (Zt (Zs (Zs (Zr (wl_pick ([row b2 [.int .i64 0, .int .u32 0] 79, row b5 [.int .i64 op, .int .u32 0] 79]) Zj ?_))))))
  rw [show row b5 [Value.int .i64 op, Value.int .u32 0] 79 = row b5 [Value.int .i64 op, Value.int .u32 (N z)] 79 from by rw [hNz]]
  refine ZA ?_
  refine Zy (y_sub (Zv rfl) (Zv rfl) (show _ = (z : Int) from by rw [IntWalk.i64_in _ ⟨by omega, by omega⟩]; omega)) ?_
  refine ZA ?_
  refine Zn (Zt (Zx ?_))
  refine wc_loop (fun k : Nat => [(0, .slice (some ad) (op :: l).length c), (2, .pointer (some ⟨b2, 0, none⟩)), (5, .pointer (some ⟨b5, 0, none⟩)), (6, .int .i64 ((z + 1 : Nat) : Int)), (7, .int .i64 (k : Int))]) (fun k => [row b2 [.int .i64 0, .int .u32 0] 79, row b5 [.int .i64 op, .int .u32 (N k)] 79]) (fun k => k ≤ z) (fun k => k) (z) ?_ ?_ ?_ ?_
  ·exact Nat.le_refl _
  ·exact Zwk
  ·((repeat (first | exact List.Sublist.slnil | refine List.Sublist.cons_cons _ ?_ | refine List.Sublist.cons _ ?_)))
  rintro k hk
  refine Zs (Zs (Zr (ZA ?_)))
  refine ZA ?_
  refine Zn (Zt ?_)
  refine wc_cond _ rfl (fun hc10 => ?_) (fun hc10 => ?_)
  ·simp only [decide_eq_true_eq] at hc10
   obtain ⟨k, rfl⟩ : ∃ m, k = m + 1 := ⟨k - 1, by omega⟩
   have hx : l[k]? = some (l[k]'(by omega)) := List.getElem?_eq_getElem (by omega)
   have hxb := hl _ (List.getElem_mem (show k < l.length by omega))
   obtain ⟨x, hxx⟩ : ∃ x, l[k]'(by omega) = x := ⟨_, rfl⟩
   rw [hxx] at hx hxb
   have hst := hNs k x (by omega) hx
   have hr := hNr (k + 1)
   have hp : (256 ^ (z - (k + 1)) : Nat) ≤ 256 ^ 3 := Nat.pow_le_pow_right (by decide) (by omega)
   have hp2 : ((256 ^ (z - (k + 1)) : Nat) : Int) ≤ 16777216 := (by have e : (256 ^ 3 : Nat) = 16777216 := (by decide); omega)
   have hor := shl8_or hr.1 (by omega) hxb
   refine Zc (Zt (Zs (Zx (wc_draw ⟨fun j => List.elem j [10], []⟩ Zk ?_))))
   refine ZFe 0 1 ?_
   refine ZG 1 ?_
   refine wa_yn 2 rfl Zk Zk Zk (y_shl (Zv rfl) (Zv rfl) (by omega) rfl) rfl ?_
   refine ZE 3 ?_
   refine ZE 4 ?_
   refine wa_yn 5 rfl Zk Zk Zk (y_index (j := k + 1)  rfl (fun _ => rfl) (Zv rfl) (Zv rfl)  (fun _ => by omega) (fun _ => by omega)) rfl ?_
   refine wa_ln 6 rfl Zk Zk Zk Zk (y_load (fun _ => rfl) (Zv rfl)) (rd_cell h (ints_at (l := op :: l) (j := k + 1) hx)) rfl ?_
   refine wa_yn 7 rfl Zk Zk Zk (y_conv rfl rfl (Zv rfl) (by first | exact IntWalk.u32_in _ ⟨by omega, by omega⟩ | exact rfl)) rfl ?_
   refine wa_yn 8 rfl Zk Zk Zk (y_or_ (Zv rfl) (Zv rfl) (show _ = N k from by rw [hst]; exact hor)) rfl ?_
   refine ZFe 9 1 ?_
   refine wa_1 10 Zk ?_
   refine ZQ ?_
   refine wa_done Zk ?_
   refine Zo (Zt (Zr (ZA ?_)))
   refine Zy (y_sub (Zv rfl) (Zv rfl) (show _ = (k : Int) from by rw [IntWalk.i64_in _ ⟨by omega, by omega⟩]; omega)) ?_
   refine ZA ?_
   refine Zn ?_
   refine q_mid (k) ?_ ?_ ?_
   ·exact ⟨show k ≤ z by omega, show k < k + 1 by omega⟩
   ·exact Zwk
   ((repeat (first | exact List.Sublist.slnil | refine List.Sublist.cons_cons _ ?_ | refine List.Sublist.cons _ ?_)))
  simp only [decide_eq_false_iff_not] at hc10
  obtain rfl : k = 0 := (by omega)
  refine wc_exit ?_
  refine q_then_exit ?_
  refine q_then_exit ?_
  refine q_block_same rfl ?_
  refine Zt (Zs (Zr (wl_loadRow Zh (fun _ => rfl) (fun _ => rfl) (Zv rfl) rfl ?_)))
  refine ZA ?_
  refine ZM ?_
  iterate 2 refine ZA ?_
  refine Zn (Zt (Ze (retC2 (cs' := []) (.inl rfl) Zu rfl rfl rfl rfl Zh (fun _ => rfl) (fun _ => rfl) ?_)))
  exact ⟨⟨0, rfl, rfl⟩, rfl⟩
end Go.Proofs.YthcpmpmbgbibfaaGreatDoor
