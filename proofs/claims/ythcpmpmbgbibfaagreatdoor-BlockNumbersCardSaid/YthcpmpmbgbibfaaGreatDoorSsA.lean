/- The document's memory: bytes, words, pages, page tables. -/
import Derived.Test.YthcpmpmbgbibfaaGreatDoorSqL
import Derived.Test.YthcpmpmbgbibfaaGreatDoorInkA
import Derived.Test.YthcpmpmbgbibfaaGreatDoorSqS
set_option linter.unusedSimpArgs false
set_option linter.unusedVariables false
set_option maxRecDepth 100000
namespace Go.Ink
open Go.RowKit
/-- No page beyond the last is marked. -/
structure MOk (n : Nat) (M : Mem) : Prop where
 m : M.ok n
 n1 : 1 ≤ n
 n64 : n ≤ 64
 hi : ∀ j, n ≤ j → M.turned.getD j false = false
theorem getD_set {l : List Bool} {i j : Nat} {b : Bool} (h : j ≠ i) : (l.set i b).getD j false = l.getD j false := by
 rw [List.getD_eq_getElem?_getD, List.getD_eq_getElem?_getD, List.getElem?_set_ne (Ne.symm h)]
theorem MOk.put {n : Nat} {M : Mem} (h : MOk n M) {a : Nat} (ha : a < n * 64) {b : Int} (hb : 0 ≤ b ∧ b ≤ 255) : MOk n (M.put a b) :=
 ⟨h.m.put a hb, h.n1, h.n64, fun j hj => by
  show (M.turned.set (a / 64) true).getD j false = false
  rw [getD_set (by omega)]
  exact h.hi j hj⟩
theorem MOk.putTo {n : Nat} {M : Mem} (h : MOk n M) {a : Nat} (v : Int) : ∀ k, a + k ≤ n * 64 → MOk n (M.putTo a v k)
 | 0, _ => h
 | k + 1, hk => (MOk.putTo h v k (by omega)).put (by omega) (wbyte_rng v k)
theorem MOk.calm {n : Nat} {M : Mem} (h : MOk n M) : MOk n M.calm := ⟨h.m.calm, h.n1, h.n64, fun j _ => by
 show (List.replicate 64 false).getD j false = false
 rw [List.getD_eq_getElem?_getD, List.getElem?_replicate]
 split <;> rfl⟩
theorem take_set' {l : List Bool} {i n : Nat} {b : Bool} : (l.set i b).take n = (l.take n).set i b := List.take_set ..
theorem trues_less {t : List Bool} {n : Nat} (hn : n ≤ 64) (h : ∀ j, n ≤ j → t.getD j false = false) : trues (t.take n) n = trues t 64 := by
 unfold trues
 have e1 : (List.range n).filter (fun f => (t.take n).getD f false) = (List.range n).filter (fun f => t.getD f false) := List.filter_congr fun j hj => by
  rw [List.mem_range] at hj
  rw [List.getD_eq_getElem?_getD, List.getD_eq_getElem?_getD, List.getElem?_take, if_pos hj]
 rw [e1]
 have e2 : ∀ m, (List.range (n + m)).filter (fun f => t.getD f false) = (List.range n).filter (fun f => t.getD f false) := fun m => by
  induction m with
  | zero => rfl
  | succ m ih =>
   rw [← Nat.add_assoc, List.range_succ, List.filter_append, ih]
   simp only [List.filter_cons, h (n + m) (by omega), List.filter_nil]
   simp
 have := e2 (64 - n)
 rw [show n + (64 - n) = 64 by omega] at this
 rw [this]
theorem or_sh {x y : Int} (s : Nat) (hs : s ≤ 24) (hx : 0 ≤ x ∧ x < 2 ^ s) (hy : 0 ≤ y ∧ y ≤ 255) : bits .or .u32 x (IntKind.u32.wrap (y * 2 ^ s)) = x + y * 2 ^ s := by
 have h1 : (2 : Int) ^ s ≤ 2 ^ 24 := by exact_mod_cast Nat.pow_le_pow_right (by decide) hs
 have h2 : (0 : Int) < 2 ^ s := Int.pow_pos (by decide)
 have h3 : 0 ≤ y * 2 ^ s := Int.mul_nonneg hy.1 (Int.le_of_lt h2)
 have h4 : y * 2 ^ s ≤ 255 * 2 ^ s := Int.mul_le_mul_of_nonneg_right hy.2 (Int.le_of_lt h2)
 have h5 : (2 : Int) ^ 24 = 16777216 := by decide
 rw [u32_wrap_id _ h3 (by omega)]
 obtain ⟨a, rfl⟩ : ∃ a : Nat, x = a := Int.eq_ofNat_of_zero_le hx.1
 obtain ⟨b, rfl⟩ : ∃ b : Nat, y = b := Int.eq_ofNat_of_zero_le hy.1
 have h6 : ((b : Int) * 2 ^ s) = ((b * 2 ^ s : Nat) : Int) := by push_cast; rfl
 have h7 : ((2 : Int) ^ s) = ((2 ^ s : Nat) : Int) := by push_cast; rfl
 have h8 : a < 2 ^ s := by have := hx.2; rw [h7] at this; omega
 rw [h6] at h4 h3 ⊢
 rw [h7] at h1 h4
 show IntKind.u32.wrap (((BitVec.ofInt 32 (a : Int)) ||| (BitVec.ofInt 32 ((b * 2 ^ s : Nat) : Int))).toNat : Int) = _
 have e1 : (BitVec.ofInt 32 (a : Int)).toNat = a := by rw [BitVec.ofInt_natCast, BitVec.toNat_ofNat]; exact Nat.mod_eq_of_lt (by omega)
 have e2 : (BitVec.ofInt 32 ((b * 2 ^ s : Nat) : Int)).toNat = b * 2 ^ s := by rw [BitVec.ofInt_natCast, BitVec.toNat_ofNat]; exact Nat.mod_eq_of_lt (by omega)
 rw [BitVec.toNat_or, e1, e2, Nat.or_comm, Nat.mul_comm b, ← Nat.two_pow_add_eq_or_of_lt h8, u32_wrap_id _ (by omega) (by rw [Nat.mul_comm]; omega)]
 push_cast
 rw [Int.mul_comm, Int.add_comm]
theorem word_or {b0 b1 b2 b3 : Int} (h0 : 0 ≤ b0 ∧ b0 ≤ 255) (h1 : 0 ≤ b1 ∧ b1 ≤ 255) (h2 : 0 ≤ b2 ∧ b2 ≤ 255) (h3 : 0 ≤ b3 ∧ b3 ≤ 255) :
  bits .or .u32 (bits .or .u32 (bits .or .u32 b0 (IntKind.u32.wrap (b1 * 2 ^ 8))) (IntKind.u32.wrap (b2 * 2 ^ 16))) (IntKind.u32.wrap (b3 * 2 ^ 24)) = b0 + 256 * b1 + 65536 * b2 + 16777216 * b3 := by
 rw [or_sh 8 (by decide) ⟨h0.1, by have := h0.2; omega⟩ h1]
 rw [or_sh 16 (by decide) ⟨by omega, by omega⟩ h2]
 rw [or_sh 24 (by decide) ⟨by omega, by omega⟩ h3]
 omega
theorem Int.lor_low_div {l : Int} (h : u32 l) (c : Nat) (hc : c < 256) : bits .or .u32 l (c : Int) / 256 = l / 256 := by
 obtain ⟨a, rfl⟩ : ∃ a : Nat, l = a := Int.eq_ofNat_of_zero_le h.1
 have hl : (a : Int) ≤ 4294967295 := h.2
 show IntKind.u32.wrap (((BitVec.ofInt 32 (a : Int)) ||| (BitVec.ofInt 32 (c : Int))).toNat : Int) / 256 = _
 have e1 : (BitVec.ofInt 32 (a : Int)).toNat = a := by rw [BitVec.ofInt_natCast, BitVec.toNat_ofNat]; exact Nat.mod_eq_of_lt (by omega)
 have e2 : (BitVec.ofInt 32 (c : Int)).toNat = c := by rw [BitVec.ofInt_natCast, BitVec.toNat_ofNat]; exact Nat.mod_eq_of_lt (by omega)
 have e3 : a ||| c < 2 ^ 32 := Nat.or_lt_two_pow (by omega) (by omega)
 rw [BitVec.toNat_or, e1, e2, u32_wrap_id _ (by omega) (by omega)]
 have e4 : (a ||| c) / 2 ^ 8 = a / 2 ^ 8 := by
  rw [Nat.or_div_two_pow, Nat.div_eq_of_lt (show c < 2 ^ 8 from hc), Nat.or_zero]
 omega
theorem marked_div {l : Int} (h : u32 l) (kind : Int) : marked l kind / 256 = l / 256 := by
 unfold marked
 cases (kind == 3)
 ·exact Int.lor_low_div h 32 (by decide)
 simp only [cond_true]
 rw [show (64 : Int) = ((64 : Nat) : Int) from rfl, Int.lor_low_div (bits_u32 _ _ _) 64 (by decide)]
 exact Int.lor_low_div h 32 (by decide)
end Go.Ink
namespace Go.Proofs.YthcpmpmbgbibfaaGreatDoor
open Go.RowKit Go.Ink
attribute [local irreducible] OpY GuardIs

abbrev rmF (K : RMLoc) (n : Nat) (M : Mem) : List Chunk := refMF K n M.data (M.turned.take n)
abbrev rmRow (K : RMLoc) (n : Nat) : Chunk := row K.bm [.slice (some ⟨K.bB, 0, none⟩) (n * 64) (n * 64), .slice (some ⟨K.bT, 0, none⟩) n n] 112
abbrev rmB (K : RMLoc) (n : Nat) (M : Mem) : Chunk := sl .u8 5 (some ⟨K.bB, 0, none⟩) (n * 64) (n * 64) M.data
theorem refput_ok (K : RMLoc) (n : Nat) (M : Mem) (hM : MOk n M) (a : Nat) (ha : a < n * 64) (b : Int) (w : World) (hi : Inv w (blocks (rmF K n M)) (rmF K n M) w) :
  Ctr Tryz.prog 136 [.pointer (some ⟨K.bm, 0, none⟩), .int .u32 a, .int .u8 b] w (rmF K n M) (fun v cs => v = .tuple #[] ∧ cs = rmF K n (M.put a b)) := by
 have hn := hM.n64
 unfold Mem.put rmF
 dsimp only
 rw [take_set']
 refine fn_ctr Tryz.func136 rfl Tryz.ntmps136 rfl hi ?_
 refine Zs (Zr (ZA ?_))
 refine ZA ?_
 refine ZFa 0 ?_
 refine ZC ?_
 iterate 2 refine ZA ?_
 refine Zy (y_indexR (j := a) (sz := 1) (r := a) rfl (fun _ => rfl) (Zv rfl) (Zv rfl) (fun _ => by omega) (fun _ => by omega) (by omega)) ?_
 refine wl_t0 (t_storeS (fun _ => rfl) rfl rfl rfl Za (by omega)) ?_
 rintro _ _ ⟨rfl, rfl⟩
 rw [ints_set']
 refine Zn (Zt (Zr (ZA ?_)))
 refine ZA ?_
 refine ZFa 1 ?_
 refine ZC ?_
 refine ZA ?_
 refine Zy (y_quo (Zv rfl) (Zv rfl) (by omega) (show _ = ((a / 64 : Nat) : Int) from by rw [Int.tdiv_eq_ediv_of_nonneg (by omega), u32_wrap_id _ (by omega) (by omega)]; omega)) ?_
 refine Zy (y_indexR (j := (a / 64)) (sz := 1) (r := (a / 64)) rfl (fun _ => rfl) (Zv rfl) (Zv rfl) (fun _ => by omega) (fun _ => by omega) (by omega)) ?_
 refine wl_t0 (t_storeS (fun _ => rfl) rfl rfl rfl Za (by omega)) ?_
 rintro _ _ ⟨rfl, rfl⟩
 rw [bools_set]
 refine Zn (ret0 (cs' := [row _ _ _, slv _ _ _ _ _ _, slv _ _ _ _ _ _]) (.inr rfl) Zu rfl ?_)
 exact ⟨rfl, rfl⟩
theorem refhas_ok (K : RMLoc) (n : Nat) (hn : n ≤ 64) (a k : Nat) (ha : a ≤ 4294967295000) (hk : k ≤ 1000) (w : World) (h : (rmRow K n).ok w) :
  Ctr Tryz.prog 67 [.pointer (some ⟨K.bm, 0, none⟩), .int .u64 a, .int .i64 k] w [] (fun v cs => v = .bool (decide (a + k ≤ n * 64)) ∧ cs = []) := by
 refine fn_ctr Tryz.func67 rfl Tryz.ntmps67 rfl (Inv.start w) ?_
 refine Zs (Zr (ZA ?_))
 refine Zn (Zt (Zs (Zr (ZA ?_))))
 refine ZA ?_
 refine Zy (y_conv rfl rfl (Zv rfl) (u64_wrap_id _ (by omega) (by omega))) ?_
 refine Zy (y_add (Zv rfl) (Zv rfl) (show _ = ((a + k : Nat) : Int) from (u64_wrap_id _ (by omega) (by omega)).trans (by omega))) ?_
 iterate 2 refine ZA ?_
 refine ZFa 0 ?_
 refine wl_y (y_load (fun _ => rfl) (Zv rfl)) (old_row (by assumption) rfl) rfl ?_
 refine ZA ?_
 refine Zy (y_conv rfl rfl (Zv rfl) (u64_wrap_id _ (by omega) (by omega))) ?_
 refine Zy (y_leq (Zv rfl) (Zv rfl) (show _ = decide (a + k ≤ n * 64) from decide_eq_decide.2 (by omega))) ?_
 refine ZA ?_
 refine Zn (Zt (Ze (ret1 (cs' := []) (.inl rfl) Zu rfl rfl ?_)))
 exact ⟨rfl, rfl⟩
theorem refword_ok8 (K : RMLoc) (n : Nat) (M : Mem) (hM : MOk n M) (a : Nat) (ha : a + 4 ≤ n * 64) (w : World) (h : (rmRow K n).ok w) (h2 : (rmB K n M).ok w) :
  Ctr Tryz.prog 178 [.pointer (some ⟨K.bm, 0, none⟩), .int .u64 a] w [] (fun v cs => v = .int .u32 (wordAt M.data a) ∧ cs = []) := by
 have hn := hM.n64
 have hdl := hM.m.dl
 have hdb := hM.m.db
 have hr : Rd w .u8 (some ⟨K.bB, 0, none⟩) (n * 64) (n * 64) M.data := slv_rd h2
 have e : wordAt M.data a = _ := (word_or (gB_rng hdb a) (gB_rng hdb (a + 1)) (gB_rng hdb (a + 2)) (gB_rng hdb (a + 3))).symm
 rw [e]
 have b0 := gB_rng hdb a
 have b1 := gB_rng hdb (a + 1)
 have b2 := gB_rng hdb (a + 2)
 have b3 := gB_rng hdb (a + 3)
 refine fn_ctr Tryz.func178 rfl Tryz.ntmps178 rfl (Inv.start w) ?_
 refine Zs (Zr (ZA ?_))
 refine Zn (Zt (Zs (wc_draw ⟨fun j => List.elem j [], []⟩ Zk ?_)))
 refine ZE 0 ?_
 refine ZE 1 ?_
 refine ZFe 2 0 ?_
 refine wa_ln 3 rfl Zk Zk Zk Zk (y_load (fun _ => rfl) (Zv rfl)) (old_row (by assumption) rfl) rfl ?_
 refine ZE 4 ?_
 refine wa_yn 5 rfl Zk Zk Zk (y_index (j := a)  rfl (fun _ => rfl) (Zv rfl) (Zv rfl)  (fun _ => by omega) (fun _ => by omega)) rfl ?_
 refine wa_ln 6 rfl Zk Zk Zk Zk (y_load (fun _ => rfl) (Zv rfl)) (rd_cell hr (ints_at (gB_at (show a < M.data.length by omega)))) rfl ?_
 refine wa_yn 7 rfl Zk Zk Zk (y_conv rfl rfl (Zv rfl) (u32_wrap_id _ (by omega) (by omega))) rfl ?_
 refine ZE 8 ?_
 refine ZE 9 ?_
 refine ZFe 10 0 ?_
 refine wa_ln 11 rfl Zk Zk Zk Zk (y_load (fun _ => rfl) (Zv rfl)) (old_row (by assumption) rfl) rfl ?_
 refine ZE 12 ?_
 refine wa_yn 13 rfl Zk Zk Zk (y_add (Zv rfl) (Zv rfl) (show _ = ((a + 1 : Nat) : Int) from (u64_wrap_id _ (by omega) (by omega)).trans (by omega))) rfl ?_
 refine wa_yn 14 rfl Zk Zk Zk (y_index (j := a + 1)  rfl (fun _ => rfl) (Zv rfl) (Zv rfl)  (fun _ => by omega) (fun _ => by omega)) rfl ?_
 refine wa_ln 15 rfl Zk Zk Zk Zk (y_load (fun _ => rfl) (Zv rfl)) (rd_cell hr (ints_at (gB_at (show a + 1 < M.data.length by omega)))) rfl ?_
 refine wa_yn 16 rfl Zk Zk Zk (y_conv rfl rfl (Zv rfl) (u32_wrap_id _ (by omega) (by omega))) rfl ?_
 refine wa_yn 17 rfl Zk Zk Zk (y_shl (Zv rfl) (Zv rfl) (by omega) rfl) rfl ?_
 refine ZE 18 ?_
 refine ZE 19 ?_
 refine ZE 20 ?_
 refine ZFe 21 0 ?_
 refine wa_ln 22 rfl Zk Zk Zk Zk (y_load (fun _ => rfl) (Zv rfl)) (old_row (by assumption) rfl) rfl ?_
 refine ZE 23 ?_
 refine wa_yn 24 rfl Zk Zk Zk (y_add (Zv rfl) (Zv rfl) (show _ = ((a + 2 : Nat) : Int) from (u64_wrap_id _ (by omega) (by omega)).trans (by omega))) rfl ?_
 refine wa_yn 25 rfl Zk Zk Zk (y_index (j := a + 2)  rfl (fun _ => rfl) (Zv rfl) (Zv rfl)  (fun _ => by omega) (fun _ => by omega)) rfl ?_
 refine wa_ln 26 rfl Zk Zk Zk Zk (y_load (fun _ => rfl) (Zv rfl)) (rd_cell hr (ints_at (gB_at (show a + 2 < M.data.length by omega)))) rfl ?_
 refine wa_yn 27 rfl Zk Zk Zk (y_conv rfl rfl (Zv rfl) (u32_wrap_id _ (by omega) (by omega))) rfl ?_
 refine wa_yn 28 rfl Zk Zk Zk (y_shl (Zv rfl) (Zv rfl) (by omega) rfl) rfl ?_
 refine ZE 29 ?_
 refine ZE 30 ?_
 refine ZE 31 ?_
 refine ZFe 32 0 ?_
 refine wa_ln 33 rfl Zk Zk Zk Zk (y_load (fun _ => rfl) (Zv rfl)) (old_row (by assumption) rfl) rfl ?_
 refine ZE 34 ?_
 refine wa_yn 35 rfl Zk Zk Zk (y_add (Zv rfl) (Zv rfl) (show _ = ((a + 3 : Nat) : Int) from (u64_wrap_id _ (by omega) (by omega)).trans (by omega))) rfl ?_
 refine wa_yn 36 rfl Zk Zk Zk (y_index (j := a + 3)  rfl (fun _ => rfl) (Zv rfl) (Zv rfl)  (fun _ => by omega) (fun _ => by omega)) rfl ?_
 refine wa_ln 37 rfl Zk Zk Zk Zk (y_load (fun _ => rfl) (Zv rfl)) (rd_cell hr (ints_at (gB_at (show a + 3 < M.data.length by omega)))) rfl ?_
 refine wa_yn 38 rfl Zk Zk Zk (y_conv rfl rfl (Zv rfl) (u32_wrap_id _ (by omega) (by omega))) rfl ?_
 refine wa_yn 39 rfl Zk Zk Zk (y_shl (Zv rfl) (Zv rfl) (by omega) rfl) rfl ?_
 refine ZE 40 ?_
 refine ZE 41 ?_
 refine wa_done Zk ?_
 refine Zt (Ze (ret1 (cs' := []) (.inl rfl) Zu rfl rfl ?_))
 exact ⟨rfl, rfl⟩
theorem refpages_ok (K : RMLoc) (n : Nat) (M : Mem) (hM : MOk n M) (w : World) (h : (rmRow K n).ok w) (h2 : (slv 4 1 (some ⟨K.bT, 0, none⟩) n n (bools (M.turned.take n))).ok w) :
  Ctr Tryz.prog 97 [.pointer (some ⟨K.bm, 0, none⟩)] w [] (fun v cs => ∃ A c, v = .slice A (trues M.turned 64).length c ∧ cs = [sl .i64 3 A (trues M.turned 64).length c (trues M.turned 64)]) := by
 have hn := hM.n64
 have htl := hM.m.tl
 have hr : RdV w 1 (some ⟨K.bT, 0, none⟩) n n (bools (M.turned.take n)) := slv_rd h2
 have hat : ∀ k, k < n → (M.turned.take n)[k]? = some ((M.turned.take n).getD k false) := fun k hk => by
  rw [List.getD_eq_getElem?_getD, List.getElem?_eq_getElem (by rw [List.length_take]; omega)]
  rfl
 rw [← trues_less hn hM.hi]
 obtain ⟨tu, htu⟩ : ∃ t, M.turned.take n = t := ⟨_, rfl⟩
 rw [htu] at hr hat ⊢
 refine fn_ctr Tryz.func97 rfl Tryz.ntmps97 rfl (Inv.start w) ?_
 refine Zs (Zr (ZA ?_))
 refine Zn (Zt (Zs (Zr (ZA ?_))))
 refine Zn (Zt (Zs (Zs (Zr (wl_nilc 3 1 ?_)))))
 refine ZA ?_
 refine Zn (Zt (Zx ?_))
 refine wc_loop (fun s : Nat × Option Addr × Nat => [(0, .pointer (some ⟨K.bm, 0, none⟩)), (3, .slice s.2.1 (trues tu s.1).length s.2.2), (4, .int .i64 (s.1 : Int))]) (fun s => [sl .i64 3 s.2.1 (trues tu s.1).length s.2.2 (trues tu s.1)]) (fun s => s.1 ≤ n) (fun s => n - s.1) ((0, none, 0)) ?_ ?_ ?_ ?_
 ·exact Nat.zero_le _
 ·exact Zwk
 ·((repeat (first | exact List.Sublist.slnil | refine List.Sublist.cons_cons _ ?_ | refine List.Sublist.cons _ ?_)))
 rintro ⟨k, A1, c1⟩ hk
 simp only at hk
 dsimp only
 refine Zs (Zs (Zr (ZA ?_)))
 iterate 2 refine ZA ?_
 refine ZFa 1 ?_
 refine wl_y (y_load (fun _ => rfl) (Zv rfl)) (old_row (by assumption) rfl) rfl ?_
 iterate 2 refine ZA ?_
 refine Zn (Zt ?_)
 refine wc_cond _ rfl (fun hc3 => ?_) (fun hc3 => ?_)
 ·simp only [decide_eq_true_eq] at hc3
  have hle := trues_le tu k
  have hkn : k < n := (by omega)
  have hb := hat k hkn
  obtain ⟨bk, hbk⟩ : ∃ x, tu.getD k false = x := ⟨_, rfl⟩
  rw [hbk] at hb
  refine Zc (Zt (Zs (Zx (Zs (Zr (ZA ?_))))))
  refine ZA ?_
  refine ZFa 1 ?_
  refine wl_y (y_load (fun _ => rfl) (Zv rfl)) (old_row (by assumption) rfl) rfl ?_
  refine ZA ?_
  refine Zy (y_index (j := k)  rfl (fun _ => rfl) (Zv rfl) (Zv rfl)  (fun _ => by omega) (fun _ => by omega)) ?_
  refine wl_y (y_load (fun _ => rfl) (Zv rfl)) (rd_cell hr (bools_at hb)) rfl ?_
  refine Zn (Zt ?_)
  refine wc_cond _ rfl (fun hc5 => ?_) (fun hc5 => ?_)
  ·have he : trues tu (k + 1) = trues tu k ++ [(k : Int)] := by rw [trues_succ, hbk, hc5]; rfl
   refine Zr (ZA ?_)
   refine ZA ?_
   refine wl_t (t_buildSl1 rfl rfl (fun _ => rfl) (fun _ => rfl) rfl rfl) rfl ?_
   rintro _ _ ⟨b23, rfl, rfl⟩
   refine wl_t (t_append (e := 3) (sz := 1) (bytes := 8) rfl rfl Za rfl rfl (fun w hi => hi.rd Zh) (allT rfl) (by simp only [maxLen]; omega) (by omega)) rfl ?_
   rintro _ _ ⟨A2, c2, rfl, rfl⟩
   rw [show (trues tu k).length + 1 = (trues tu (k + 1)).length by (rw [he]; simp), show ints .i64 (trues tu k) ++ [Value.int .i64 (k : Int)] = ints .i64 (trues tu (k + 1)) by (rw [he]; exact ints_append _ [_])]
   refine ZA ?_
   refine Zn (Zo (Zt (Zr (ZA ?_))))
   refine Zy (y_add (Zv rfl) (Zv rfl) Zl) ?_
   refine ZA ?_
   refine Zn ?_
   refine q_mid ((k + 1, A2, c2)) ?_ ?_ ?_
   ·exact ⟨by show k + 1 ≤ n; omega, by show n - (k + 1) < n - k; omega⟩
   ·exact Zwk
   ((repeat (first | exact List.Sublist.slnil | refine List.Sublist.cons_cons _ ?_ | refine List.Sublist.cons _ ?_)))
  have he : trues tu (k + 1) = trues tu k := by (rw [trues_succ, hbk, hc5]; simp)
  rw [← he]
  refine Zc (Zo (Zt (Zr (ZA ?_))))
  refine Zy (y_add (Zv rfl) (Zv rfl) Zl) ?_
  refine ZA ?_
  refine Zn ?_
  refine q_mid ((k + 1, A1, c1)) ?_ ?_ ?_
  ·exact ⟨by show k + 1 ≤ n; omega, by show n - (k + 1) < n - k; omega⟩
  ·exact Zwk
  ((repeat (first | exact List.Sublist.slnil | refine List.Sublist.cons_cons _ ?_ | refine List.Sublist.cons _ ?_)))
 simp only [decide_eq_false_iff_not] at hc3
 obtain rfl : k = n := by omega
 refine wc_exit ?_
 refine q_then_exit ?_
 refine q_then_exit ?_
 refine q_block_same rfl ?_
 refine Zt (Zs (Zr (ZA ?_)))
 refine ZA ?_
 refine Zn (Zt (Ze (ret1 (cs' := [slv _ _ _ _ _ _]) (.inl rfl) Zu rfl rfl ?_)))
 exact ⟨_, _, rfl, rfl⟩
theorem refcalm_ok (K : RMLoc) (n : Nat) (M : Mem) (hM : MOk n M) (w : World) (hi : Inv w (blocks (rmF K n M)) (rmF K n M) w) :
  Ctr Tryz.prog 93 [.pointer (some ⟨K.bm, 0, none⟩)] w (rmF K n M) (fun v cs => v = .tuple #[] ∧ cs = rmF K n M.calm) := by
 have hn := hM.n64
 have htl := hM.m.tl
 have e : M.calm.turned.take n = List.replicate n false := by show (List.replicate 64 false).take n = _; rw [List.take_replicate, Nat.min_eq_left hn]
 have hcl : ∀ k, k < n → (List.replicate k false ++ (M.turned.take n).drop k).set k false = List.replicate (k + 1) false ++ (M.turned.take n).drop (k + 1) := fun k hk => by
  rw [List.set_append_right _ _ (by simp), List.length_replicate, Nat.sub_self, List.drop_eq_getElem_cons (show k < (M.turned.take n).length by rw [List.length_take]; omega), List.set_cons_zero, List.replicate_succ', List.append_assoc]
  rfl
 have hend : List.replicate n false ++ (M.turned.take n).drop n = List.replicate n false := by rw [List.drop_eq_nil_of_le (by rw [List.length_take]; omega), List.append_nil]
 have hbeg : M.turned.take n = List.replicate 0 false ++ (M.turned.take n).drop 0 := by simp
 unfold rmF
 rw [e]
 obtain ⟨tu, htu⟩ : ∃ t, M.turned.take n = t := ⟨_, rfl⟩
 rw [htu] at hcl hend hbeg
 have hi' : Inv w (blocks (refMF K n M.data tu)) (refMF K n M.data tu) w := htu ▸ hi
 rw [htu]
 rw [hbeg] at hi'
 refine fn_ctr Tryz.func93 rfl Tryz.ntmps93 rfl hi' ?_
 refine Zs (Zr (ZA ?_))
 refine Zn (Zt (Zx ?_))
 refine wc_loop (fun k : Nat => [(0, .pointer (some ⟨K.bm, 0, none⟩)), (2, .int .i64 (k : Int))]) (fun k => refMF K n M.data (List.replicate k false ++ tu.drop k)) (fun k => k ≤ n) (fun k => n - k) (0) ?_ ?_ ?_ ?_
 ·exact Nat.zero_le _
 ·exact Zwk
 ·((repeat (first | exact List.Sublist.slnil | refine List.Sublist.cons_cons _ ?_ | refine List.Sublist.cons _ ?_)))
 rintro k hk
 refine Zs (Zs (Zr (ZA ?_)))
 iterate 2 refine ZA ?_
 refine ZFa 1 ?_
 refine ZC ?_
 iterate 2 refine ZA ?_
 refine Zn (Zt ?_)
 refine wc_cond _ rfl (fun hc1 => ?_) (fun hc1 => ?_)
 ·simp only [decide_eq_true_eq] at hc1
  have hkn : k < n := (by omega)
  refine Zc (Zt (Zs (Zx (Zr (ZA ?_)))))
  refine ZA ?_
  refine ZFa 1 ?_
  refine ZC ?_
  refine ZA ?_
  refine Zy (y_indexR (j := k) (sz := 1) (r := k) rfl (fun _ => rfl) (Zv rfl) (Zv rfl) (fun _ => by omega) (fun _ => by omega) (by omega)) ?_
  refine wl_t0 (t_storeS (fun _ => rfl) rfl rfl rfl Za (by omega)) ?_
  rintro _ _ ⟨rfl, rfl⟩
  rw [bools_set, hcl k hkn]
  refine Zn (Zo (Zt (Zr (ZA ?_))))
  refine Zy (y_add (Zv rfl) (Zv rfl) Zl) ?_
  refine ZA ?_
  refine Zn ?_
  refine q_mid (k + 1) ?_ ?_ ?_
  ·exact ⟨by show k + 1 ≤ n; omega, by show n - (k + 1) < n - k; omega⟩
  ·exact Zwk
  ((repeat (first | exact List.Sublist.slnil | refine List.Sublist.cons_cons _ ?_ | refine List.Sublist.cons _ ?_)))
 simp only [decide_eq_false_iff_not] at hc1
 obtain rfl : k = n := (by omega)
 rw [hend]
 refine wc_exit ?_
 refine q_then_exit ?_
 refine q_then_exit ?_
 refine q_block_same rfl ?_
 refine ret0 (cs' := [row _ _ _, slv _ _ _ _ _ _, slv _ _ _ _ _ _]) (.inr rfl) Zu rfl ?_
 exact ⟨rfl, rfl⟩
end Go.Proofs.YthcpmpmbgbibfaaGreatDoor
