/- The lines' lowest, the timer; decoding; rows of numbers that have a number. -/
import Derived.Test.YthcpmpmbgbibfaaGreatDoorBkA
import Derived.Test.YthcpmpmbgbibfaaGreatDoorInkA
import Derived.Test.YthcpmpmbgbibfaaGreatDoorInkR
set_option linter.unusedSimpArgs false
set_option linter.unusedVariables false
set_option maxRecDepth 100000
namespace Go.Ink
open Go.RowKit
theorem bits_or_comm (k : IntKind) (x y : Int) : bits .or k x y = bits .or k y x := by
 unfold bits
 simp only [BitVec.or_comm]
theorem leOf_rng : ∀ {l : List Int}, u8s l → 0 ≤ leOf l ∧ leOf l < ((256 ^ l.length : Nat) : Int)
 | [], _ => by simp [leOf]
 | b :: l, h => by
  obtain ⟨h1, h2⟩ := leOf_rng (l := l) (fun x hx => h x (List.mem_cons_of_mem _ hx))
  have hb := h b (by simp)
  have e : ((256 ^ (b :: l).length : Nat) : Int) = 256 * ((256 ^ l.length : Nat) : Int) := by
   rw [List.length_cons, Nat.pow_succ, Nat.mul_comm]; exact Int.natCast_mul 256 _
  rw [e]
  unfold leOf
  omega
def SzIn (x : Int) : Prop := x = 0 ∨ x = 1 ∨ x = 2 ∨ x = 5
theorem opSize_cases (op : Int) : SzIn (opSize op) := by
 unfold opSize
 repeat (refine cond_all SzIn (Or.inr (Or.inr (Or.inl rfl))) ?_)
 refine cond_all SzIn (Or.inr (Or.inr (Or.inr rfl))) ?_
 exact cond_all SzIn (Or.inl rfl) (Or.inr (Or.inl rfl))
theorem shl8_or {N b : Int} (h0 : 0 ≤ N) (h1 : N < 16777216) (hb : 0 ≤ b ∧ b ≤ 255) : bits .or .u32 (IntKind.u32.wrap (N * 2 ^ (min (Int.toNat 8) IntKind.u32.bits))) b = b + 256 * N := by
 have e : (N * 2 ^ (min (Int.toNat 8) IntKind.u32.bits) : Int) = N * 256 := rfl
 rw [e, u32_wrap_id _ (by omega) (by omega), bits_or_comm, show bits .or .u32 b (N * 256) = b + N * 256 from by apply u32_or8 <;> omega]
 omega
end Go.Ink
namespace Go.Proofs.YthcpmpmbgbibfaaGreatDoor
open Go.RowKit Go.Ink
attribute [local irreducible] OpY GuardIs

/-- The table of Go's library is there. -/
def TabOk (w : World) : Prop := RdV w 1 (some ⟨0, 0, none⟩) 32 32 (ints .u8 tzTab)
theorem TabOk.old {w0 w : World} {cs : List Chunk} (h : TabOk w0) (hi : Inv w0 [] cs w) : TabOk w := RdV.oldN h hi
theorem tab_cell {w0 : World} {cs : List Chunk} {j : Nat} {a : Int} (ht : TabOk w0) (h : tzTab[j]? = some a) : ∀ w, Inv w0 [] cs w → cells [(⟨0, 0 + j * 1, none⟩, .int .u8 a)] w := by
 have h5 := rd_cell (w0 := w0) (cs := cs) ht (ints_at h)
 rw [Addr.add_lit] at h5
 exact h5
theorem tz_ok (x k : Nat) (h0 : 0 < x) (h : x < 256) (hk : lowOf x = some k) (w : World) (ht : TabOk w) : Ctr Tryz.prog 102 [.int .u32 (x : Int)] w [] (fun v cs => v = .int .i64 (k : Int) ∧ cs = []) := by
 obtain ⟨k', j, e1, e5, e2, e3, e4⟩ := tz_fact h0 h
 obtain rfl : k' = k := Option.some.inj (e1.symm.trans hk)
 refine fn_ctr Tryz.func102 rfl Tryz.ntmps102 rfl (Inv.start w) ?_
 refine Zs (Zr (ZA ?_))
 refine Zn (Zt (Zs (Zs (Zr (ZA ?_)))))
 refine ZA ?_
 refine Zn (Zt (wc_cond_f rfl ((beq_eq_false_iff_ne.2 (by omega))) ?_))
 refine Zc (Zt (Zs (Zr (ZA ?_))))
 refine ZA ?_
 refine Zy (y_neg (Zv rfl) rfl) ?_
 refine ZA ?_
 refine Zy (y_mul (Zv rfl) (Zv rfl) rfl) ?_
 refine Zy (y_shr (Zv rfl) (Zv rfl) (by omega) (show _ = (j : Int) from e2)) ?_
 refine Zy (y_indexA (j := j) (sz := 1) (r := 0 + j * 1) rfl (fun _ => rfl) (Zv rfl) (Zv rfl) (fun _ => by omega) (fun _ => by omega) (by omega)) ?_
 refine wl_y (y_load (fun _ => rfl) (Zv rfl)) (tab_cell ht e4) rfl ?_
 refine Zy (y_conv rfl rfl (Zv rfl) Zl) ?_
 refine ZA ?_
 refine Zn (Zt (Ze (ret1 (cs' := []) (.inl rfl) Zu rfl rfl ?_)))
 exact ⟨rfl, rfl⟩
theorem irqnext_ok (b x : Nat) (p m : Int) (hx : bits .and .u32 p m = (x : Int)) (h256 : x < 256) (w : World) (h : (irqC b p m).ok w) (ht : TabOk w) :
  Ctr Tryz.prog 58 [.pointer (some ⟨b, 0, none⟩)] w [] (fun v cs => v = .tuple #[.int .i64 (((lowOf x).getD 0 : Nat) : Int), .bool (lowOf x).isSome] ∧ cs = []) := by
 refine fn_ctr Tryz.func58 rfl Tryz.ntmps58 rfl (Inv.start w) ?_
 refine Zs (Zr (ZA ?_))
 refine ZA ?_
 refine Zn (Zt (Zs (wc_draw ⟨fun j => List.elem j [], []⟩ Zk ?_)))
 refine ZE 0 ?_
 refine ZE 1 ?_
 refine ZFe 2 0 ?_
 refine wa_ln 3 rfl Zk Zk Zk Zk (y_load (fun _ => rfl) (Zv rfl)) (old_row (by assumption) rfl) rfl ?_
 refine ZE 4 ?_
 refine ZE 5 ?_
 refine ZFe 6 1 ?_
 refine wa_ln 7 rfl Zk Zk Zk Zk (y_load (fun _ => rfl) (Zv rfl)) (old_row (by assumption) rfl) rfl ?_
 refine wa_yn 8 rfl Zk Zk Zk (y_and_ (Zv rfl) (Zv rfl) hx) rfl ?_
 refine ZE 9 ?_
 refine wa_done Zk ?_
 refine Zt (Zs (Zs (Zr (ZA ?_))))
 refine ZA ?_
 refine Zn (Zt ?_)
 refine wc_cond _ rfl (fun hc2 => ?_) (fun hc2 => ?_)
 ·obtain rfl : x = 0 := (by have := beqZ hc2; omega)
  rw [low_zero]
  refine Zs (Zr (ZA ?_))
  refine ZA ?_
  refine Zn (Zt (Ze (Zw (ret2 (cs' := []) (.inl rfl) Zu rfl rfl rfl ?_))))
  exact ⟨rfl, rfl⟩
 have hx0 : 0 < x := (by have := ne_of_beq_false hc2; omega)
 obtain ⟨k, j, e1, -⟩ := tz_fact hx0 h256
 have HT := fun w ht => tz_ok x k hx0 h256 e1 w ht
 rw [e1]
 refine Zc (Zt (Zs (Zr (ZA ?_))))
 refine ZS (fun w hi => HT w (ht.old hi)) ?_
 rintro _ _ ⟨_, ⟨rfl, rfl⟩, rfl⟩
 iterate 2 refine ZA ?_
 refine Zn (Zt (Ze (ret2 (cs' := []) (.inl rfl) Zu rfl rfl rfl ?_)))
 exact ⟨rfl, rfl⟩
theorem due_ok (b : Nat) (t count : Int) (w : World) (hi : Inv w (blocks [timC b t]) [timC b t] w) :
  Ctr Tryz.prog 101 [.pointer (some ⟨b, 0, none⟩), .int .u64 count] w [timC b t] (fun v cs => v = .bool (!((t == 0) || decide (IntKind.u32.wrap count < t))) ∧ cs = [timC b (bif (t == 0) || decide (IntKind.u32.wrap count < t) then t else 0)]) := by
 refine fn_ctr Tryz.func101 rfl Tryz.ntmps101 rfl hi ?_
 refine Zs (Zr (ZA ?_))
 refine Zn (Zt (Zs (Zs (Zr (ZA ?_)))))
 refine ZA ?_
 refine ZFa 0 ?_
 refine ZC ?_
 iterate 2 refine ZA ?_
 refine ZB ?_
 refine Zyn rfl rfl (y_conv rfl rfl (ev_g rfl) rfl) ?_
 iterate 2 refine ZB ?_
 refine ZFb 0 ?_
 refine ZD ?_
 refine ZB ?_
 refine ZA ?_
 refine Zn (Zt ?_)
 refine wc_cond _ rfl (fun hc1 => ?_) (fun hc1 => ?_)
 ·rw [hc1]
  refine Zs (Zr (ZA ?_))
  refine Zn (Zt (Ze (Zw (ret1 (cs' := [row _ _ _]) (.inl rfl) Zu rfl rfl ?_))))
  exact ⟨rfl, rfl⟩
 rw [hc1]
 refine Zc (Zt (Zs (Zr (ZA ?_))))
 refine ZA ?_
 refine ZFa 0 ?_
 refine ZL ?_
 refine Zn (Zt (Zs (Zr (ZA ?_))))
 refine Zn (Zt (Ze (ret1 (cs' := [row _ _ _]) (.inl rfl) Zu rfl rfl ?_)))
 exact ⟨rfl, rfl⟩
theorem lines0 : linesOf [0] = 1 := by decide
theorem tick_ok (D : DLoc) (bm : Nat) (X : DAdr) (d : Dev) (count : Int) (w : World) (hi : Inv w (blocks (busF D bm X d)) (busF D bm X d) w) :
  Ctr Tryz.prog 57 [.pointer (some ⟨D.bs, 0, none⟩), .int .u64 count] w (busF D bm X d) (fun v cs => v = .tuple #[] ∧ cs = busF D bm X (d.tick count)) := by
 obtain ⟨c, hc⟩ : ∃ c, ((d.timer == 0) || decide (IntKind.u32.wrap count < d.timer)) = c := ⟨_, rfl⟩
 have HD := fun w hi => due_ok D.bti d.timer count w hi
 have HR := fun A c w hi h => iraise_ok D.bi d.pend d.mask A c [0] (fun x hx => by simp at hx; omega) w hi h
 rw [hc] at HD
 rw [lines0] at HR
 refine fn_ctr Tryz.func57 rfl Tryz.ntmps57 rfl hi ?_
 refine Zs (Zr (ZA ?_))
 refine ZA ?_
 refine ZFa 1 ?_
 refine ZC ?_
 refine ZA ?_
 refine wl_t (t_callS ([timC D.bti d.timer]) rfl (fun _ _ => rfl) Zi (fun w hi hin => HD w hin)) rfl ?_
 rintro _ _ ⟨_, ⟨rfl, rfl⟩, rfl⟩
 refine Zn (Zt ?_)
 refine wc_cond _ rfl (fun hc0 => ?_) (fun hc0 => ?_)
 ·obtain rfl : c = false := (by cases c with | false => rfl | true => cases hc0)
  have ht : d.tick count = { d with timer := 0, pend := bits .or .u32 d.pend 1 } := (by unfold Dev.tick; rw [hc]; rfl)
  rw [ht]
  refine Zr (ZA ?_)
  refine ZA ?_
  refine ZFa 0 ?_
  refine ZC ?_
  refine wl_t (t_buildSl1 rfl rfl (fun _ => rfl) (fun _ => rfl) rfl rfl) rfl ?_
  rintro _ _ ⟨b14, rfl, rfl⟩
  refine wl_t (t_callS ([irqC D.bi d.pend d.mask]) rfl (fun _ _ => rfl) Zi (fun w hi hin => HR (some ⟨b14, 0, none⟩) 1 w hin (fun w' hk => hi.rdKs Zi (show Has _ (slv 3 1 (some ⟨b14, 0, none⟩) 1 1 (ints .i64 [0])) from Zh) hk))) rfl ?_
  rintro _ _ ⟨_, ⟨rfl, rfl⟩, rfl⟩
  refine Zn (qok_pick (busF D bm X { d with timer := 0, pend := bits .or .u32 d.pend 1 }) Zj ?_)
  refine ret0 (cs' := [row _ _ _, row _ _ _, row _ _ _, row _ _ _, slv _ _ _ _ _ _, slv _ _ _ _ _ _, row _ _ _, slv _ _ _ _ _ _]) (.inr rfl) Zu rfl ?_
  exact ⟨rfl, rfl⟩
 obtain rfl : c = true := (by cases c with | true => rfl | false => cases hc0)
 have ht : d.tick count = d := (by unfold Dev.tick; rw [hc]; rfl)
 rw [ht]
 refine Zc (qok_pick (busF D bm X d) Zj ?_)
 refine ret0 (cs' := [row _ _ _, row _ _ _, row _ _ _, row _ _ _, slv _ _ _ _ _ _, slv _ _ _ _ _ _, row _ _ _, slv _ _ _ _ _ _]) (.inr rfl) Zu rfl ?_
 exact ⟨rfl, rfl⟩
theorem gends_ok (op : Int) (w : World) : Ctr Tryz.prog 118 [.int .i64 op] w [] (fun v cs => v = .bool (endsOp op) ∧ cs = []) := by
 refine fn_ctr Tryz.func118 rfl Tryz.ntmps118 rfl (Inv.start w) ?_
 refine Zs (Zr (ZA ?_))
 refine Zn (Zt (Zs (Zr (ZA ?_))))
 iterate 2 refine ZA ?_
 iterate 2 refine ZB ?_
 iterate 2 refine ZA ?_
 iterate 6 refine ZB ?_
 iterate 2 refine ZA ?_
 refine Zn (Zt (Ze (ret1 (cs' := []) (.inl rfl) Zu rfl rfl ?_)))
 exact ⟨rfl, rfl⟩
theorem index_ok (A : Option Addr) (c : Nat) (l : List Int) (x : Int) (w : World) (h : Rd w .i64 A l.length c l) : Ctr Tryz.prog 160 [.slice A l.length c, .int .i64 x] w [] (fun v cs => (∃ z, v = .int .i64 z ∧ decide (0 ≤ z) = l.contains x) ∧ cs = []) := by
 have hlm : l.length ≤ maxLen := Nat.le_trans h.cap h.max
 simp only [maxLen] at hlm
 refine fn_ctr Tryz.func160 rfl Tryz.ntmps160 rfl (Inv.start w) ?_
 refine Zs (Zr (ZA ?_))
 refine Zn (Zt (Zs (Zs (Zr (ZA ?_)))))
 iterate 2 refine ZA ?_
 refine Zn (Zt (Zx ?_))
 refine wc_loop (fun k : Nat => [(0, .slice A l.length c), (1, .int .i64 x), (7, .int .i64 (l.length : Int)), (8, .int .i64 (k : Int))]) (fun _ => []) (fun k => k ≤ l.length ∧ ∀ j, j < k → l[j]? ≠ some x) (fun k => l.length - k) (0) ?_ ?_ ?_ ?_
 ·exact ⟨Nat.zero_le _, fun j hj => by omega⟩
 ·exact Zwk
 ·((repeat (first | exact List.Sublist.slnil | refine List.Sublist.cons_cons _ ?_ | refine List.Sublist.cons _ ?_)))
 rintro k ⟨hk, hno⟩
 refine Zs (Zr (ZA ?_))
 refine Zn (Zt (Zs ?_))
 refine wc_cond _ rfl (fun hc2 => ?_) (fun hc2 => ?_)
 ·simp only [decide_eq_true_eq] at hc2
  have hkl : k < l.length := (by omega)
  obtain ⟨ad, rfl⟩ := h.some_ (by omega)
  have hy : l[k]? = some (l[k]'hkl) := List.getElem?_eq_getElem hkl
  obtain ⟨y, hyy⟩ : ∃ x, l[k]'hkl = x := ⟨_, rfl⟩
  rw [hyy] at hy
  refine Zc (Zt (Zs (Zx (Zs (Zr (ZA ?_))))))
  refine ZA ?_
  refine Zn (Zt (Zs (Zr (ZA ?_))))
  iterate 2 refine ZA ?_
  refine Zy (y_index (j := k)  rfl (fun _ => rfl) (Zv rfl) (Zv rfl)  (fun _ => by omega) (fun _ => by omega)) ?_
  refine wl_y (y_load (fun _ => rfl) (Zv rfl)) (rd_cell h (ints_at hy)) rfl ?_
  refine ZA ?_
  refine Zn (Zt ?_)
  refine wc_cond _ rfl (fun hc4 => ?_) (fun hc4 => ?_)
  ·have e := beqZ hc4
   refine Zs (Zr (ZA ?_))
   refine ZA ?_
   refine Zn (Zt (Ze (Zq (Zw (Zw (Zq (Zw (ret1 (cs' := []) (.inl rfl) Zu rfl rfl ?_))))))))
   exact ⟨⟨_, rfl, by rw [decide_eq_true (show (0 : Int) ≤ (k : Int) by omega), List.contains_eq_mem, decide_eq_true (e ▸ List.mem_of_getElem? hy)]⟩, rfl⟩
  refine Zc (Zo (Zt (Zr (Zy (y_add (Zv rfl) (Zv rfl) Zl) ?_))))
  refine ZA ?_
  refine Zn ?_
  refine q_mid (k + 1) ?_ ?_ ?_
  ·exact ⟨⟨by omega, fun j hj => by rcases Nat.lt_or_ge j k with h1 | h1; exact hno j h1; obtain rfl : j = k := (by omega); rw [hy]; intro e; exact ne_of_beq_false hc4 (Option.some.inj e).symm⟩, by omega⟩
  ·exact Zwk
  ((repeat (first | exact List.Sublist.slnil | refine List.Sublist.cons_cons _ ?_ | refine List.Sublist.cons _ ?_)))
 simp only [decide_eq_false_iff_not] at hc2
 have hnm : l.contains x = false := (by rw [List.contains_eq_mem, decide_eq_false_iff_not]; intro hm; obtain ⟨j, hj, e⟩ := List.getElem_of_mem hm; exact hno j (by omega) (by rw [List.getElem?_eq_getElem hj, e]))
 refine wc_exit ?_
 refine q_then_exit ?_
 refine q_then_exit ?_
 refine q_block_same rfl ?_
 refine Zt (Zs (Zr (ZA ?_)))
 refine Zn (Zt (Ze (ret1 (cs' := []) (.inl rfl) Zu rfl rfl ?_)))
 exact ⟨⟨_, rfl, by rw [hnm]; rfl⟩, rfl⟩
theorem contains_ok (A : Option Addr) (c : Nat) (l : List Int) (x : Int) (w : World) (h : Rd w .i64 A l.length c l) : Ctr Tryz.prog 119 [.slice A l.length c, .int .i64 x] w [] (fun v cs => v = .bool (l.contains x) ∧ cs = []) := by
 refine fn_ctr Tryz.func119 rfl Tryz.ntmps119 rfl (Inv.start w) ?_
 refine Zs (Zr (ZA ?_))
 refine Zn (Zt (Zs (Zr (ZA ?_))))
 refine ZA ?_
 refine ZS (fun w hi => index_ok A c l x w (RdV.oldN h hi)) ?_
 rintro _ _ ⟨_, ⟨⟨z, rfl, hz⟩, rfl⟩, rfl⟩
 iterate 2 refine ZA ?_
 refine Zn (Zt (Ze (ret1 (cs' := []) (.inl rfl) Zu rfl rfl ?_)))
 exact ⟨by rw [← hz], rfl⟩
end Go.Proofs.YthcpmpmbgbibfaaGreatDoor
