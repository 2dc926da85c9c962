/- The law AuditNumbers. -/
import Derived.Test.YtmhpcgmjlpfheaaGreatDoorAuC
import Derived.Test.YtmhpcgmjlpfheaaGreatDoorInkA
set_option linter.unusedSimpArgs false
set_option linter.unusedVariables false
set_option maxRecDepth 100000
namespace Go.Proofs.YtmhpcgmjlpfheaaGreatDoor
open Go.RowKit Go.Ink
attribute [local irreducible] OpY GuardIs
def baseV : Vw := ⟨⟨1, [2], [], 0, false, false, false, 0, 0, 0, 0, 0, false, false, 0, false⟩, [1], [2], [3], [4], 5, 6, false⟩
def numV : Nat → Vw
 | 1 => ⟨⟨2, [2], [], 0, false, false, false, 0, 0, 0, 0, 0, false, false, 0, false⟩, [1], [2], [3], [4], 5, 6, false⟩
 | 2 => ⟨⟨1, [], [], 0, false, false, false, 0, 0, 0, 0, 0, false, false, 0, false⟩, [1], [2], [3], [4], 5, 6, false⟩
 | 3 => ⟨baseV.s, [], [2], [3], [4], 5, 6, false⟩
 | 4 => ⟨baseV.s, [1], [3], [3], [4], 5, 6, false⟩
 | 5 => ⟨baseV.s, [1], [2], [3, 3], [4], 5, 6, false⟩
 | 6 => ⟨baseV.s, [1], [2], [3], [], 5, 6, false⟩
 | 7 => ⟨baseV.s, [1], [2], [3], [4], 4, 6, false⟩
 | 8 => ⟨baseV.s, [1], [2], [3], [4], 5, 7, false⟩
 | 9 => ⟨baseV.s, [1], [2], [3], [4], 5, 6, true⟩
 | 10 => ⟨⟨1, [2], [], 0, false, false, false, 0, 0, 0, 0, 0, false, false, 0, true⟩, [1], [2], [3], [4], 5, 6, false⟩
 | 11 => ⟨⟨1, [2], [], 0, false, false, false, 0, 0, 0, 0, 0, false, false, 1, false⟩, [1], [2], [3], [4], 5, 6, false⟩
 | _ => baseV
def numE : Nat → List Int
 | 4 => [3]
 | 5 => [3, 3]
 | _ => []
def numY (Y : VAd) (Ae : Option Addr) (ce : Nat) : Nat → VAd
 | 2 => ⟨⟨none, 0, Y.X.Ar, Y.X.cr⟩, Y.Am, Y.cm, Y.Ao, Y.co, Y.Ai, Y.ci, Y.Ak, Y.ck⟩
 | 3 => ⟨Y.X, none, 0, Y.Ao, Y.co, Y.Ai, Y.ci, Y.Ak, Y.ck⟩
 | 4 => ⟨Y.X, Y.Am, Y.cm, Ae, ce, Y.Ai, Y.ci, Y.Ak, Y.ck⟩
 | 5 => ⟨Y.X, Y.Am, Y.cm, Y.Ao, Y.co, Ae, ce, Y.Ak, Y.ck⟩
 | 6 => ⟨Y.X, Y.Am, Y.cm, Y.Ao, Y.co, Y.Ai, Y.ci, none, 0⟩
 | _ => Y
theorem under12 {k : Nat} (h : k < 12) : k = 0 ∨ k = 1 ∨ k = 2 ∨ k = 3 ∨ k = 4 ∨ k = 5 ∨ k = 6 ∨ k = 7 ∨ k = 8 ∨ k = 9 ∨ k = 10 ∨ k = 11 := by omega
theorem num_rd {w : World} {Y : VAd} {Ae : Option Addr} {ce k : Nat} (hk : k < 12) (h : RdVw w baseV Y) (he : Rd w .u8 Ae (numE k).length ce (numE k)) : RdVw w (numV k) (numY Y Ae ce k) := by
 rcases under12 hk with rfl | rfl | rfl | rfl | rfl | rfl | rfl | rfl | rfl | rfl | rfl | rfl
 ·exact h
 ·exact ⟨⟨h.s.d, h.s.r, h.s.hd, h.s.hr⟩, h.m, h.o, h.i, h.k⟩
 ·exact ⟨⟨rdNil w .u32, h.s.r, by decide, h.s.hr⟩, h.m, h.o, h.i, h.k⟩
 ·exact ⟨h.s, rdNil w .u8, h.o, h.i, h.k⟩
 ·exact ⟨h.s, h.m, he, h.i, h.k⟩
 ·exact ⟨h.s, h.m, h.o, he, h.k⟩
 ·exact ⟨h.s, h.m, h.o, h.i, rdNil w .u8⟩
 ·exact ⟨h.s, h.m, h.o, h.i, h.k⟩
 ·exact ⟨h.s, h.m, h.o, h.i, h.k⟩
 ·exact ⟨h.s, h.m, h.o, h.i, h.k⟩
 ·exact ⟨⟨h.s.d, h.s.r, h.s.hd, h.s.hr⟩, h.m, h.o, h.i, h.k⟩
 exact ⟨⟨h.s.d, h.s.r, h.s.hd, h.s.hr⟩, h.m, h.o, h.i, h.k⟩
theorem one_u8 {n : Int} (h : 0 ≤ n ∧ n ≤ 255) : u8s [n] := fun x hx => by rw [List.mem_singleton.1 hx]; exact h
theorem nil_u8 : u8s [] := fun x hx => by cases hx
theorem u32_0 : u32 0 := ⟨by decide, by decide⟩
theorem num_swf {pc c : Int} {d : List Int} {hl : Bool} (hpc : pc = 1 ∨ pc = 2) (hc : c = 0 ∨ c = 1) (hd : d = [] ∨ d = [2]) : St.wf ⟨pc, d, [], 0, false, false, false, 0, 0, 0, 0, 0, false, false, c, hl⟩ :=
 ⟨by show 0 ≤ pc ∧ pc ≤ _; omega, u32_0, u32_0, u32_0, u32_0, u32_0, u32_0, ⟨by show 0 ≤ c; omega, by show c ≤ _; omega⟩, fun x hx => (by rcases hd with rfl | rfl; cases hx; rw [List.mem_singleton.1 hx]; exact ⟨by decide, by decide⟩), fun x hx => by cases hx⟩
theorem num_wf {k : Nat} (hk : k < 12) : (numV k).wf := by
 have h1 : u8s [1] := one_u8 (by decide)
 have h2 : u8s [2] := one_u8 (by decide)
 have h3 : u8s [3] := one_u8 (by decide)
 have h4 : u8s [4] := one_u8 (by decide)
 have h33 : u8s [3, 3] := fun x hx => by simp at hx; rw [hx]; decide
 have hs : baseV.s.wf := num_swf (Or.inl rfl) (Or.inl rfl) (Or.inr rfl)
 rcases under12 hk with rfl | rfl | rfl | rfl | rfl | rfl | rfl | rfl | rfl | rfl | rfl | rfl
 ·exact ⟨hs, h1, h2, h3, h4⟩
 ·exact ⟨num_swf (Or.inr rfl) (Or.inl rfl) (Or.inr rfl), h1, h2, h3, h4⟩
 ·exact ⟨num_swf (Or.inl rfl) (Or.inl rfl) (Or.inl rfl), h1, h2, h3, h4⟩
 ·exact ⟨hs, nil_u8, h2, h3, h4⟩
 ·exact ⟨hs, h1, h3, h3, h4⟩
 ·exact ⟨hs, h1, h2, h33, h4⟩
 ·exact ⟨hs, h1, h2, h3, nil_u8⟩
 ·exact ⟨hs, h1, h2, h3, h4⟩
 ·exact ⟨hs, h1, h2, h3, h4⟩
 ·exact ⟨hs, h1, h2, h3, h4⟩
 ·exact ⟨num_swf (Or.inl rfl) (Or.inl rfl) (Or.inr rfl), h1, h2, h3, h4⟩
 exact ⟨num_swf (Or.inl rfl) (Or.inr rfl) (Or.inr rfl), h1, h2, h3, h4⟩
theorem num_eq {k : Nat} (hk : k < 12) : (baseV = numV k ↔ ((k : Int) == 0) = true) ∧ (numV k = baseV ↔ ((k : Int) == 0) = true) := by
 rcases under12 hk with rfl | rfl | rfl | rfl | rfl | rfl | rfl | rfl | rfl | rfl | rfl | rfl
 ·exact ⟨⟨fun _ => rfl, fun _ => rfl⟩, ⟨fun _ => rfl, fun _ => rfl⟩⟩
 all_goals
  constructor
  ·constructor
   ·intro h; simp [baseV, numV] at h
   intro h; simp at h
  constructor
  ·intro h; simp [baseV, numV] at h
  intro h; simp at h
set_option maxHeartbeats 4000000 in
theorem auditNumbers_ok (w : World) : Ctr Tryz.prog 3 [] w [] (fun v cs => v = .bool true ∧ cs = []) := by
 refine fn_ctr Tryz.func3 rfl Tryz.ntmps3 rfl (Inv.start w) ?_
 refine Zs (Zr (ZA ?_))
 refine Zn (Zt (Zs (Zs (Zr (ZA ?_)))))
 refine Zn (Zt (Zx ?_))
 refine wc_loop (fun f : Int => [(1, .int .i64 f)]) (fun _ => []) (fun f => -1 ≤ f ∧ f ≤ 258) (fun f => (258 - f).toNat) ((-1)) ?_ ?_ ?_ ?_
 ·exact ⟨by decide, by decide⟩
 ·exact Zwk
 ·((repeat (first | exact List.Sublist.slnil | refine List.Sublist.cons_cons _ ?_ | refine List.Sublist.cons _ ?_)))
 rintro f ⟨hf1, hf2⟩
 refine Zs (Zs (Zr (ZA ?_)))
 refine ZA ?_
 refine Zn (Zt ?_)
 refine wc_cond _ rfl (fun hc2 => ?_) (fun hc2 => ?_)
 ·simp only [decide_eq_true_eq] at hc2
  refine Zc (Zt (Zs (Zx (Zs (Zr (ZA ?_))))))
  refine wl_t (t_buildSl1 rfl rfl (fun _ => rfl) (fun _ => rfl) rfl rfl) rfl ?_
  rintro _ _ ⟨b12, rfl, rfl⟩
  refine wl_t (t_buildSl1 rfl rfl (fun _ => rfl) (fun _ => rfl) rfl rfl) rfl ?_
  rintro _ _ ⟨b13, rfl, rfl⟩
  refine ZS (fun w hi => aframes_ok (some ⟨b13, 0, none⟩) 1 [⟨some ⟨b12, 0, none⟩, 1, [f]⟩] w (hi.rd Zh) (fun x hx => by rw [List.mem_singleton.1 hx]; exact (hi.rd (show Has _ (slv 3 1 (some ⟨b12, 0, none⟩) 1 1 [.int .i64 f]) from Zh)))) ?_
  rintro _ _ ⟨_, ⟨⟨r, rfl, hr⟩, rfl⟩, rfl⟩
  obtain rfl : r = (decide (16 ≤ f) && decide (f < 256)) := Bool.eq_iff_iff.2 (hr.trans (by simp [frOk]))
  iterate 3 refine ZA ?_
  iterate 2 refine ZB ?_
  refine ZA ?_
  refine Zy (y_neqb rfl (Zv rfl) (Zv rfl) (bne_self_eq_false _)) ?_
  refine Zn (Zt (wc_cond_f rfl (rfl) ?_))
  refine Zc (Zo (Zt (Zr (ZA ?_))))
  refine Zy (y_add (Zv rfl) (Zv rfl) Zl) ?_
  refine ZA ?_
  refine Zn ?_
  refine q_mid ((f + 1)) ?_ ?_ ?_
  ·exact ⟨⟨by omega, by omega⟩, by omega⟩
  ·exact Zwk
  ((repeat (first | exact List.Sublist.slnil | refine List.Sublist.cons_cons _ ?_ | refine List.Sublist.cons _ ?_)))
 refine wc_exit ?_
 refine q_then_exit ?_
 refine q_then_exit ?_
 refine q_block_same rfl ?_
 refine Zt (Zs (Zr (wl_t (t_buildSl1 rfl rfl (fun _ => rfl) (fun _ => rfl) rfl rfl) rfl ?_)))
 rintro _ _ ⟨b22, rfl, rfl⟩
 refine ZA ?_
 refine wl_t (t_buildSl1 rfl rfl (fun _ => rfl) (fun _ => rfl) rfl rfl) rfl ?_
 rintro _ _ ⟨b24, rfl, rfl⟩
 refine wl_t (t_buildSl1 rfl rfl (fun _ => rfl) (fun _ => rfl) rfl rfl) rfl ?_
 rintro _ _ ⟨b25, rfl, rfl⟩
 refine wl_t (t_buildSl1 rfl rfl (fun _ => rfl) (fun _ => rfl) rfl rfl) rfl ?_
 rintro _ _ ⟨b26, rfl, rfl⟩
 refine wl_t (t_buildSl1 rfl rfl (fun _ => rfl) (fun _ => rfl) rfl rfl) rfl ?_
 rintro _ _ ⟨b27, rfl, rfl⟩
 refine ZA ?_
 refine ZN fun b2 => ?_
 refine ZM ?_
 refine Zn (Zt (Zs (Zs (Zr (ZA ?_)))))
 refine Zn (Zt (Zx ?_))
 refine wc_loop (fun k : Nat => [(2, .pointer (some ⟨b2, 0, none⟩)), (3, .int .i64 (k : Int))]) (fun _ => [slv 24 1 (some ⟨b22, 0, none⟩) 1 1 [.int .u32 2], slv 5 1 (some ⟨b24, 0, none⟩) 1 1 [.int .u8 1], slv 5 1 (some ⟨b25, 0, none⟩) 1 1 [.int .u8 2], slv 5 1 (some ⟨b26, 0, none⟩) 1 1 [.int .u8 3], slv 5 1 (some ⟨b27, 0, none⟩) 1 1 [.int .u8 4], row b2 (baseV.cells ⟨⟨some ⟨b22, 0, none⟩, 1, none, 0⟩, some ⟨b24, 0, none⟩, 1, some ⟨b25, 0, none⟩, 1, some ⟨b26, 0, none⟩, 1, some ⟨b27, 0, none⟩, 1⟩) 31]) (fun k => k ≤ 12) (fun k => 12 - k) (0) ?_ ?_ ?_ ?_
 ·exact Nat.zero_le _
 ·exact Zwk
 ·((repeat (first | exact List.Sublist.slnil | refine List.Sublist.cons_cons _ ?_ | refine List.Sublist.cons _ ?_)))
 rintro k hk
 refine Zs (Zs (Zr (ZA ?_)))
 refine ZA ?_
 refine Zn (Zt ?_)
 refine wc_cond _ rfl (fun hc8 => ?_) (fun hc8 => ?_)
 ·simp only [decide_eq_true_eq] at hc8
  refine Zc (Zt (Zs (Zx (Zs (Zr (wl_loadRow Zh (fun _ => rfl) (fun _ => rfl) (Zv rfl) rfl ?_))))))
  refine ZN fun b4 => ?_
  refine ZM ?_
  refine Zn (Zt ?_)
  refine wc_seq_mid (fun _ : Option Addr × Nat => [(2, .pointer (some ⟨b2, 0, none⟩)), (3, .int .i64 (k : Int)), (4, .pointer (some ⟨b4, 0, none⟩))]) (fun q => [row b4 ((numV k).cells (numY ⟨⟨some ⟨b22, 0, none⟩, 1, none, 0⟩, some ⟨b24, 0, none⟩, 1, some ⟨b25, 0, none⟩, 1, some ⟨b26, 0, none⟩, 1, some ⟨b27, 0, none⟩, 1⟩ q.1 q.2 k)) 31, sl .u8 5 q.1 (numE k).length q.2 (numE k), row b2 (baseV.cells ⟨⟨some ⟨b22, 0, none⟩, 1, none, 0⟩, some ⟨b24, 0, none⟩, 1, some ⟨b25, 0, none⟩, 1, some ⟨b26, 0, none⟩, 1, some ⟨b27, 0, none⟩, 1⟩) 31, slv 24 1 (some ⟨b22, 0, none⟩) 1 1 [.int .u32 2], slv 5 1 (some ⟨b24, 0, none⟩) 1 1 [.int .u8 1], slv 5 1 (some ⟨b25, 0, none⟩) 1 1 [.int .u8 2], slv 5 1 (some ⟨b26, 0, none⟩) 1 1 [.int .u8 3], slv 5 1 (some ⟨b27, 0, none⟩) 1 1 [.int .u8 4]]) (fun _ => True) ?_ ?_
  ·refine Zs (Zr (wl_nilc 5 1 ?_))
   refine ZA ?_
   refine Zn (Zt (Zx (Zs (Zr (ZA ?_)))))
   refine ZA ?_
   refine Zn (Zt ?_)
   refine wc_cond _ rfl (fun hc12 => ?_) (fun hc12 => ?_)
   ·obtain rfl : k = 1 := (by have : (k : Int) = 1 := (by simpa using hc12); omega)
    refine Zr (ZFa 0 ?_)
    refine ZFa 0 ?_
    refine ZL ?_
    refine Zn (Zo ?_)
    refine q_midP ((⟨none, 0⟩ : Option Addr × Nat)) ?_ ?_ ?_
    ·trivial
    ·exact Zwk
    exact Zj
   have n1 : k ≠ 1 := (fun e => by rw [e] at hc12; cases hc12)
   refine Zs (Zr (ZA ?_))
   refine ZA ?_
   refine Zn (Zt ?_)
   refine wc_cond _ rfl (fun hc14 => ?_) (fun hc14 => ?_)
   ·obtain rfl : k = 2 := (by have : (k : Int) = 2 := (by simpa using hc14); omega)
    refine Zr (ZFa 0 ?_)
    refine ZFa 1 ?_
    refine ZL ?_
    refine Zn (Zo ?_)
    refine q_midP ((⟨none, 0⟩ : Option Addr × Nat)) ?_ ?_ ?_
    ·trivial
    ·exact Zwk
    exact Zj
   have n2 : k ≠ 2 := (fun e => by rw [e] at hc14; cases hc14)
   refine Zs (Zr (ZA ?_))
   refine ZA ?_
   refine Zn (Zt ?_)
   refine wc_cond _ rfl (fun hc16 => ?_) (fun hc16 => ?_)
   ·obtain rfl : k = 3 := (by have : (k : Int) = 3 := (by simpa using hc16); omega)
    refine Zr (ZFa 16 ?_)
    refine ZL ?_
    refine Zn (Zo ?_)
    refine q_midP ((⟨none, 0⟩ : Option Addr × Nat)) ?_ ?_ ?_
    ·trivial
    ·exact Zwk
    exact Zj
   have n3 : k ≠ 3 := (fun e => by rw [e] at hc16; cases hc16)
   refine Zs (Zr (ZA ?_))
   refine ZA ?_
   refine Zn (Zt ?_)
   refine wc_cond _ rfl (fun hc18 => ?_) (fun hc18 => ?_)
   ·obtain rfl : k = 4 := (by have : (k : Int) = 4 := (by simpa using hc18); omega)
    refine Zr (wl_t (t_buildSl1 rfl rfl (fun _ => rfl) (fun _ => rfl) rfl rfl) rfl ?_)
    rintro _ _ ⟨b48, rfl, rfl⟩
    refine ZFa 17 ?_
    refine ZL ?_
    refine Zn (Zo ?_)
    refine q_midP ((⟨some ⟨b48, 0, none⟩, 1⟩ : Option Addr × Nat)) ?_ ?_ ?_
    ·trivial
    ·exact Zwk
    exact Zj
   have n4 : k ≠ 4 := (fun e => by rw [e] at hc18; cases hc18)
   refine Zs (Zr (ZA ?_))
   refine ZA ?_
   refine Zn (Zt ?_)
   refine wc_cond _ rfl (fun hc20 => ?_) (fun hc20 => ?_)
   ·obtain rfl : k = 5 := (by have : (k : Int) = 5 := (by simpa using hc20); omega)
    refine Zr (wl_t (t_buildSl1 rfl rfl (fun _ => rfl) (fun _ => rfl) rfl rfl) rfl ?_)
    rintro _ _ ⟨b52, rfl, rfl⟩
    refine ZFa 18 ?_
    refine ZL ?_
    refine Zn (Zo ?_)
    refine q_midP ((⟨some ⟨b52, 0, none⟩, 2⟩ : Option Addr × Nat)) ?_ ?_ ?_
    ·trivial
    ·exact Zwk
    exact Zj
   have n5 : k ≠ 5 := (fun e => by rw [e] at hc20; cases hc20)
   refine Zs (Zr (ZA ?_))
   refine ZA ?_
   refine Zn (Zt ?_)
   refine wc_cond _ rfl (fun hc22 => ?_) (fun hc22 => ?_)
   ·obtain rfl : k = 6 := (by have : (k : Int) = 6 := (by simpa using hc22); omega)
    refine Zr (ZFa 19 ?_)
    refine ZL ?_
    refine Zn (Zo ?_)
    refine q_midP ((⟨none, 0⟩ : Option Addr × Nat)) ?_ ?_ ?_
    ·trivial
    ·exact Zwk
    exact Zj
   have n6 : k ≠ 6 := (fun e => by rw [e] at hc22; cases hc22)
   refine Zs (Zr (ZA ?_))
   refine ZA ?_
   refine Zn (Zt ?_)
   refine wc_cond _ rfl (fun hc24 => ?_) (fun hc24 => ?_)
   ·obtain rfl : k = 7 := (by have : (k : Int) = 7 := (by simpa using hc24); omega)
    refine Zr (ZFa 20 ?_)
    refine ZL ?_
    refine Zn (Zo ?_)
    refine q_midP ((⟨none, 0⟩ : Option Addr × Nat)) ?_ ?_ ?_
    ·trivial
    ·exact Zwk
    exact Zj
   have n7 : k ≠ 7 := (fun e => by rw [e] at hc24; cases hc24)
   refine Zs (Zr (ZA ?_))
   refine ZA ?_
   refine Zn (Zt ?_)
   refine wc_cond _ rfl (fun hc26 => ?_) (fun hc26 => ?_)
   ·obtain rfl : k = 8 := (by have : (k : Int) = 8 := (by simpa using hc26); omega)
    refine Zr (ZFa 21 ?_)
    refine ZL ?_
    refine Zn (Zo ?_)
    refine q_midP ((⟨none, 0⟩ : Option Addr × Nat)) ?_ ?_ ?_
    ·trivial
    ·exact Zwk
    exact Zj
   have n8 : k ≠ 8 := (fun e => by rw [e] at hc26; cases hc26)
   refine Zs (Zr (ZA ?_))
   refine ZA ?_
   refine Zn (Zt ?_)
   refine wc_cond _ rfl (fun hc28 => ?_) (fun hc28 => ?_)
   ·obtain rfl : k = 9 := (by have : (k : Int) = 9 := (by simpa using hc28); omega)
    refine Zr (ZFa 22 ?_)
    refine ZL ?_
    refine Zn (Zo ?_)
    refine q_midP ((⟨none, 0⟩ : Option Addr × Nat)) ?_ ?_ ?_
    ·trivial
    ·exact Zwk
    exact Zj
   have n9 : k ≠ 9 := (fun e => by rw [e] at hc28; cases hc28)
   refine Zs (Zr (ZA ?_))
   refine ZA ?_
   refine Zn (Zt ?_)
   refine wc_cond _ rfl (fun hc30 => ?_) (fun hc30 => ?_)
   ·obtain rfl : k = 10 := (by have : (k : Int) = 10 := (by simpa using hc30); omega)
    refine Zr (ZFa 0 ?_)
    refine ZFa 15 ?_
    refine ZL ?_
    refine Zn (Zo ?_)
    refine q_midP ((⟨none, 0⟩ : Option Addr × Nat)) ?_ ?_ ?_
    ·trivial
    ·exact Zwk
    exact Zj
   have n10 : k ≠ 10 := (fun e => by rw [e] at hc30; cases hc30)
   refine Zs (Zr (ZA ?_))
   refine ZA ?_
   refine Zn (Zt ?_)
   refine wc_cond _ rfl (fun hc32 => ?_) (fun hc32 => ?_)
   ·obtain rfl : k = 11 := (by have : (k : Int) = 11 := (by simpa using hc32); omega)
    refine Zr (ZFa 0 ?_)
    refine ZFa 14 ?_
    refine ZL ?_
    refine Zn (Zo ?_)
    refine q_midP ((⟨none, 0⟩ : Option Addr × Nat)) ?_ ?_ ?_
    ·trivial
    ·exact Zwk
    exact Zj
   have n11 : k ≠ 11 := (fun e => by rw [e] at hc32; cases hc32)
   obtain rfl : k = 0 := (by omega)
   refine Zc (Zo ?_)
   refine q_midP ((⟨none, 0⟩ : Option Addr × Nat)) ?_ ?_ ?_
   ·trivial
   ·exact Zwk
   exact Zj
  rintro ⟨Ae, ce⟩ -
  dsimp only
  have hk12 : k < 12 := (by omega)
  obtain ⟨q1, q2⟩ := num_eq hk12
  refine Zs (Zr (wl_loadRow Zh (fun _ => rfl) (fun _ => rfl) (Zv rfl) rfl ?_))
  refine wl_loadRow Zh (fun _ => rfl) (fun _ => rfl) (Zv rfl) rfl ?_
  refine ZS (fun w hi => asame_ok baseV (numV k) _ _ (num_wf (k := 0) (by decide)) (num_wf hk12) w (show RdVw w baseV ⟨⟨some ⟨b22, 0, none⟩, 1, none, 0⟩, some ⟨b24, 0, none⟩, 1, some ⟨b25, 0, none⟩, 1, some ⟨b26, 0, none⟩, 1, some ⟨b27, 0, none⟩, 1⟩ from ⟨⟨hi.rd (show Has _ (slv 24 1 (some ⟨b22, 0, none⟩) 1 1 [.int .u32 2]) from Zh), rdNil w .u32, by decide, by decide⟩, hi.rd (show Has _ (slv 5 1 (some ⟨b24, 0, none⟩) 1 1 [.int .u8 1]) from Zh), hi.rd (show Has _ (slv 5 1 (some ⟨b25, 0, none⟩) 1 1 [.int .u8 2]) from Zh), hi.rd (show Has _ (slv 5 1 (some ⟨b26, 0, none⟩) 1 1 [.int .u8 3]) from Zh), hi.rd (show Has _ (slv 5 1 (some ⟨b27, 0, none⟩) 1 1 [.int .u8 4]) from Zh)⟩) (num_rd hk12 (show RdVw w baseV ⟨⟨some ⟨b22, 0, none⟩, 1, none, 0⟩, some ⟨b24, 0, none⟩, 1, some ⟨b25, 0, none⟩, 1, some ⟨b26, 0, none⟩, 1, some ⟨b27, 0, none⟩, 1⟩ from ⟨⟨hi.rd (show Has _ (slv 24 1 (some ⟨b22, 0, none⟩) 1 1 [.int .u32 2]) from Zh), rdNil w .u32, by decide, by decide⟩, hi.rd (show Has _ (slv 5 1 (some ⟨b24, 0, none⟩) 1 1 [.int .u8 1]) from Zh), hi.rd (show Has _ (slv 5 1 (some ⟨b25, 0, none⟩) 1 1 [.int .u8 2]) from Zh), hi.rd (show Has _ (slv 5 1 (some ⟨b26, 0, none⟩) 1 1 [.int .u8 3]) from Zh), hi.rd (show Has _ (slv 5 1 (some ⟨b27, 0, none⟩) 1 1 [.int .u8 4]) from Zh)⟩) (hi.rd (show Has _ (sl .u8 5 Ae (numE k).length ce (numE k)) from Zh)))) ?_
  rintro _ _ ⟨_, ⟨⟨r1, rfl, hr1⟩, rfl⟩, rfl⟩
  obtain rfl : r1 = ((k : Int) == 0) := Bool.eq_iff_iff.2 (hr1.trans q1)
  iterate 2 refine ZA ?_
  refine Zy (y_neqb rfl (Zv rfl) (Zv rfl) (bne_self_eq_false _)) ?_
  refine ZA ?_
  refine wl_loadRowg (guard_no rfl rfl) Zh (fun _ => rfl) (fun _ => rfl) (Zv rfl) rfl ?_
  refine wl_loadRowg (guard_no rfl rfl) Zh (fun _ => rfl) (fun _ => rfl) (Zv rfl) rfl ?_
  refine wl_tg (guard_no rfl rfl) rfl (t_call rfl (fun _ _ => rfl) (fun w hi => asame_ok (numV k) baseV _ _ (num_wf hk12) (num_wf (k := 0) (by decide)) w (num_rd hk12 (show RdVw w baseV ⟨⟨some ⟨b22, 0, none⟩, 1, none, 0⟩, some ⟨b24, 0, none⟩, 1, some ⟨b25, 0, none⟩, 1, some ⟨b26, 0, none⟩, 1, some ⟨b27, 0, none⟩, 1⟩ from ⟨⟨hi.rd (show Has _ (slv 24 1 (some ⟨b22, 0, none⟩) 1 1 [.int .u32 2]) from Zh), rdNil w .u32, by decide, by decide⟩, hi.rd (show Has _ (slv 5 1 (some ⟨b24, 0, none⟩) 1 1 [.int .u8 1]) from Zh), hi.rd (show Has _ (slv 5 1 (some ⟨b25, 0, none⟩) 1 1 [.int .u8 2]) from Zh), hi.rd (show Has _ (slv 5 1 (some ⟨b26, 0, none⟩) 1 1 [.int .u8 3]) from Zh), hi.rd (show Has _ (slv 5 1 (some ⟨b27, 0, none⟩) 1 1 [.int .u8 4]) from Zh)⟩) (hi.rd (show Has _ (sl .u8 5 Ae (numE k).length ce (numE k)) from Zh))) (show RdVw w baseV ⟨⟨some ⟨b22, 0, none⟩, 1, none, 0⟩, some ⟨b24, 0, none⟩, 1, some ⟨b25, 0, none⟩, 1, some ⟨b26, 0, none⟩, 1, some ⟨b27, 0, none⟩, 1⟩ from ⟨⟨hi.rd (show Has _ (slv 24 1 (some ⟨b22, 0, none⟩) 1 1 [.int .u32 2]) from Zh), rdNil w .u32, by decide, by decide⟩, hi.rd (show Has _ (slv 5 1 (some ⟨b24, 0, none⟩) 1 1 [.int .u8 1]) from Zh), hi.rd (show Has _ (slv 5 1 (some ⟨b25, 0, none⟩) 1 1 [.int .u8 2]) from Zh), hi.rd (show Has _ (slv 5 1 (some ⟨b26, 0, none⟩) 1 1 [.int .u8 3]) from Zh), hi.rd (show Has _ (slv 5 1 (some ⟨b27, 0, none⟩) 1 1 [.int .u8 4]) from Zh)⟩))) rfl ?_
  rintro _ _ ⟨_, ⟨⟨r2, rfl, hr2⟩, rfl⟩, rfl⟩
  obtain rfl : r2 = ((k : Int) == 0) := Bool.eq_iff_iff.2 (hr2.trans q2)
  iterate 2 refine ZB ?_
  refine Zyn rfl rfl (y_neqb rfl (ev_g rfl) (ev_g rfl) (bne_self_eq_false _)) ?_
  refine ZA ?_
  refine Zn (Zt (wc_cond_f rfl (rfl) ?_))
  refine Zc (Zo (Zt (Zr (ZA ?_))))
  refine Zy (y_add (Zv rfl) (Zv rfl) Zl) ?_
  refine ZA ?_
  refine Zn ?_
  refine q_midP ((k + 1)) ?_ ?_ ?_
  ·exact ⟨by omega, by omega⟩
  ·exact Zwk
  exact Zj
 refine wc_exit ?_
 refine q_then_exit ?_
 refine q_then_exit ?_
 refine q_block_same rfl ?_
 refine Zt (Zs (Zr (ZA ?_)))
 refine wl_t (t_buildSl rfl rfl (fun _ => rfl) (fun _ => rfl) rfl rfl rfl) rfl ?_
 rintro _ _ ⟨b90, rfl, rfl⟩
 refine ZA ?_
 refine wl_t (t_buildSl rfl rfl (fun _ => rfl) (fun _ => rfl) rfl rfl rfl) rfl ?_
 rintro _ _ ⟨b92, rfl, rfl⟩
 refine ZS (fun w hi => twin_no ⟨b90, 0, none⟩ 1 _ w (hi.rd Zh)) ?_
 rintro _ _ ⟨_, ⟨rfl, rfl⟩, rfl⟩
 iterate 5 refine ZA ?_
 refine Zn (Zt (Zs (Zr (ZA ?_))))
 iterate 2 refine ZA ?_
 refine ZB ?_
 iterate 2 refine ZA ?_
 refine wl_tg (guard_yes rfl rfl) rfl (t_call rfl (fun _ _ => rfl) (fun w hi => aframes_ok none 0 [] w (rdNil w .i64) (fun x hx => by cases hx))) rfl ?_
 rintro _ _ ⟨_, ⟨⟨r, rfl, hr⟩, rfl⟩, rfl⟩
 obtain rfl : r = true := hr.2 ⟨fun x hx => (by cases hx), List.nodup_nil⟩
 iterate 2 refine ZA ?_
 refine wl_tg (guard_yes rfl rfl) rfl (t_call rfl (fun _ _ => rfl) (fun w hi => known27_ok w)) rfl ?_
 rintro _ _ ⟨_, ⟨rfl, rfl⟩, rfl⟩
 iterate 2 refine ZA ?_
 refine Zn (Zt (Ze (ret1 (cs' := []) (.inl rfl) Zu rfl rfl ?_)))
 exact ⟨rfl, rfl⟩
end Go.Proofs.YtmhpcgmjlpfheaaGreatDoor
