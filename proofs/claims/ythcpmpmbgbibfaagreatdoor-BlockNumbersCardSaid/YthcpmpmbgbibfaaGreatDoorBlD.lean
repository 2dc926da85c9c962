/- The law BlockNumbers: the harness's images, block by block; parts that are nil. -/
import Derived.Test.YthcpmpmbgbibfaaGreatDoorBlAll
import Derived.Test.YthcpmpmbgbibfaaGreatDoorInkA
import Derived.Test.YthcpmpmbgbibfaaGreatDoorInkMN
set_option linter.unusedSimpArgs false
set_option linter.unusedVariables false
set_option maxRecDepth 100000
namespace Go.Ink
open Go.RowKit
structure ImR where
 A : Option Addr
 c : Nat
 l : List Int
 B : Option Addr
 e : Nat
 k : List Int
 n : Nat
def ImR.cells (a : ImR) : List Value := [.slice a.A a.l.length a.c, .slice a.B a.k.length a.e, .int .i64 (a.n : Int)]
theorem ImR.cells_len (a : ImR) : a.cells.length = 3 := rfl
structure ImR.good (a : ImR) : Prop where
 n1 : 1 ≤ a.n
 n64 : a.n ≤ 64
 l : a.l.length ≤ a.n * 64
 lb : u8s a.l
 k : a.k.length ≤ 1024
 kb : u8s a.k
def ImR.rd (a : ImR) (w : World) : Prop := Rd w .u8 a.A a.l.length a.c a.l ∧ Rd w .u8 a.B a.k.length a.e a.k
structure SmpOk (L : List ImR) (cin : List Chunk) : Prop where
 g : ∀ a, a ∈ L → a.good
 r : ∀ w, (joinC cin).ok w → ∀ a, a ∈ L → a.rd w
abbrev Code := List (Int × Int)
def smpP (b1 b2 b3 b4 b5 b6 b7 b8 : Nat) : List (Nat × List (Int × Int)) :=
 [(b1, [(1, 9), (1, 1), (17, 0), (3, 0), (34, 250), (69, 0)]),
  (b2, [(2, 69), (1, 12), (53, 0), (0, 0), (0, 0), (0, 0), (0, 0), (0, 0), (0, 0), (32, 255)]),
  (b3, [(2, 20), (67, 3), (1, 1), (1, 0), (24, 0), (0, 0), (0, 0), (0, 0), (0, 0), (0, 0), (0, 0), (66, 4), (69, 0)]),
  (b4, [(2, 32804), (4, 0), (2, 64), (2, 32804), (49, 0), (1, 1), (2, 32808), (49, 0), (1, 64), (40, 0)]),
  (b5, [(1, 30), (67, 3), (1, 255), (2, 32772), (49, 0), (1, 20), (2, 32776), (49, 0), (1, 1), (67, 0), (0, 0), (32, 253)]),
  (b6, [(38, 0), (39, 0)]),
  (b7, [(3, 0)]),
  (b8, [(64, 0), (64, 0)])]
def smpV (p : Nat × List (Int × Int)) : Value := .slice (some ⟨p.1, 0, none⟩) p.2.length p.2.length
theorem smp_facts (b1 b2 b3 b4 b5 b6 b7 b8 : Nat) : (smpP b1 b2 b3 b4 b5 b6 b7 b8).length = 8 ∧ ∀ p, p ∈ smpP b1 b2 b3 b4 b5 b6 b7 b8 → p.2.length ≤ 13 := by
 refine ⟨rfl, fun p hp => ?_⟩
 have h : (smpP b1 b2 b3 b4 b5 b6 b7 b8).all (fun p => Nat.ble p.2.length 13) = true := rfl
 exact Nat.le_of_ble_eq_true (List.all_eq_true.1 h p hp)
theorem map_at {P : List (Nat × List (Int × Int))} {k : Nat} {p : Nat × List (Int × Int)} (h : P[k]? = some p) : (P.map smpV)[k]? = some (.slice (some ⟨p.1, 0, none⟩) p.2.length p.2.length) := by
 rw [List.getElem?_map, h]
 rfl
theorem flat_snoc {L : List ImR} {a : ImR} : L.flatMap ImR.cells ++ a.cells = (L ++ [a]).flatMap ImR.cells := by
 rw [List.flatMap_append]
 simp
theorem SmpOk.more {L : List ImR} {cin : List Chunk} {new : List Chunk} {a : ImR} (h : SmpOk L cin) (hg : a.good) (hr : ∀ w, (∀ c, c ∈ new → c.ok w) → a.rd w) : SmpOk (L ++ [a]) (joinC cin :: new) :=
 ⟨fun x hx => (List.mem_append.1 hx).elim (h.g x) (fun q => by obtain rfl := List.mem_singleton.1 q; exact hg), fun w hw x hx => by
  have h1 := joinC_ok hw
  rcases List.mem_append.1 hx with q | q
  · exact h.r w (h1 _ (List.mem_cons_self ..)) x q
  obtain rfl := List.mem_singleton.1 q
  exact hr w (fun c hc => h1 c (List.mem_cons_of_mem _ hc))⟩
theorem fill_eq {E : List Int} (n : Nat) (h : E.length ≤ n) : (ints .u8 (List.replicate n 0)).take 0 ++ (ints .u8 E).take (min E.length n) ++ (ints .u8 (List.replicate n 0)).drop (0 + min E.length n) = ints .u8 (E ++ List.replicate (n - E.length) 0) := by
 have e1 : (ints .u8 E).take E.length = ints .u8 E := List.take_of_length_le (by simp [ints])
 have e2 : (ints .u8 (List.replicate n 0)).drop E.length = ints .u8 (List.replicate (n - E.length) 0) := by unfold ints; rw [List.map_replicate, List.drop_replicate, List.map_replicate]
 rw [Nat.min_eq_left h, List.take_zero, List.nil_append, Nat.zero_add, e1, e2, ints_append]
theorem one_img (a : ImR) : ∀ u, u ∈ a.cells → u.oneCell' = true := fun u hu => by
 simp only [ImR.cells, List.mem_cons, List.mem_nil_iff, or_false] at hu
 rcases hu with rfl | rfl | rfl <;> rfl
end Go.Ink
namespace Go.Proofs.YthcpmpmbgbibfaaGreatDoor
open Go.RowKit Go.Ink
attribute [local irreducible] OpY GuardIs
theorem beginNil_ok (s : St) (Ad Ar : Option Addr) (cd cr : Nat) (w : World) (h : RdSt w s Ad Ar cd cr) :
 Ctr Tryz.prog 24 [sv s Ad cd Ar cr, .pointer none, .pointer none] w [] (fun v cs => ∃ X : SAdr, v = .agg (s.cells (.slice X.Ad s.d.length X.cd) (.slice X.Ar s.r.length X.cr) ++ [Value.int .u32 0, Value.bool false]).toArray ∧ cs = [slD s X.Ad X.cd, slR s X.Ar X.cr]) := by
 have HR2 := fun A B c e w => right_ok s A B c e w
 obtain ⟨rt, hrt⟩ : ∃ b, s.right = b := ⟨_, rfl⟩
 rw [hrt] at HR2
 refine fn_ctr Tryz.func24 rfl Tryz.ntmps24 rfl (Inv.start w) ?_
 refine Zs (Zr (ZO fun b3 => ?_))
 refine ZN fun b6 => ?_
 refine Zn (Zt (Zs (Zr (wl_loadRow Zh (fun _ => rfl) (fun _ => rfl) (Zv rfl) rfl ?_))))
 refine ZS (fun w hi => copy_ok s Ad Ar cd cr w (h.oldN hi)) ?_
 rintro _ _ ⟨_, ⟨A1, c1, A2, c2, rfl, rfl⟩, rfl⟩
 refine ZM ?_
 refine Zn (Zt (Zs (Zs (Zr (wl_loadRow Zh (fun _ => rfl) (fun _ => rfl) (Zv rfl) rfl ?_)))))
 refine ZS (fun w hi => HR2 A1 A2 c1 c2 w) ?_
 rintro _ _ ⟨_, ⟨rfl, rfl⟩, rfl⟩
 iterate 2 refine ZA ?_
 refine ZFb 15 ?_
 refine ZD ?_
 iterate 2 refine ZA ?_
 iterate 2 refine ZB ?_
 iterate 2 refine ZA ?_
 iterate 2 refine ZB ?_
 refine ZA ?_
 refine Zn (Zt (wc_cond_t rfl ((by cases rt <;> cases s.halted <;> rfl)) ?_))
 refine Zs (Zr (wl_loadRow Zh (fun _ => rfl) (fun _ => rfl) (Zv rfl) rfl ?_))
 refine ZA ?_
 refine ZM ?_
 refine Zn (Zt (Ze (Zw (qok_pick ([row b6 (s.cells (.slice A1 s.d.length c1) (.slice A2 s.r.length c2) ++ [Value.int .u32 0, Value.bool false]) 74, slD s A1 c1, slR s A2 c2]) Zj ?_))))
 refine retC (cs' := [slD s A1 c1, slR s A2 c2]) (.inl rfl) Zu rfl rfl Zh (fun _ => rfl) (fun _ => rfl) ?_
 exact ⟨⟨A1, c1, A2, c2⟩, rfl, rfl⟩
theorem doNil_ok (s : St) (Ad Ar : Option Addr) (cd cr : Nat) (w : World) (h : RdSt w s Ad Ar cd cr) :
 Ctr Tryz.prog 12 [sv s Ad cd Ar cr, .pointer none, .pointer none] w [] (fun v cs => ∃ X : SAdr, v = sv s X.Ad X.cd X.Ar X.cr ∧ cs = [slD s X.Ad X.cd, slR s X.Ar X.cr]) := by
 refine fn_ctr Tryz.func12 rfl Tryz.ntmps12 rfl (Inv.start w) ?_
 refine Zs (Zr (ZO fun b3 => ?_))
 refine ZN fun b6 => ?_
 refine Zn (Zt (Zs (Zr (wl_loadRow Zh (fun _ => rfl) (fun _ => rfl) (Zv rfl) rfl ?_))))
 iterate 2 refine ZA ?_
 refine ZS (fun w hi => beginNil_ok s Ad Ar cd cr w (h.oldN hi)) ?_
 rintro _ _ ⟨_, ⟨X1, rfl, rfl⟩, rfl⟩
 refine ZN fun b7 => ?_
 refine ZM ?_
 refine Zn (Zt (Zs (Zs (Zr (ZFa 17 ?_)))))
 refine ZC ?_
 refine ZA ?_
 refine Zn (Zt (wc_cond_t rfl (rfl) ?_))
 refine Zs (Zr (ZFa 0 ?_))
 refine wl_y (y_loadN (vs := s.cells (.slice X1.Ad s.d.length X1.cd) (.slice X1.Ar s.r.length X1.cr)) (fun _ => rfl) (fun _ => rfl) (Zv rfl)) (row_cells Zh rfl) rfl ?_
 refine ZM ?_
 refine Zn (Zt (Ze (Zw (qok_pick (row b6 (s.cells (.slice X1.Ad s.d.length X1.cd) (.slice X1.Ar s.r.length X1.cr)) 34 :: [slD s X1.Ad X1.cd, slR s X1.Ar X1.cr]) Zj ?_))))
 refine retC (cs' := [slD s X1.Ad X1.cd, slR s X1.Ar X1.cr]) (.inl rfl) Zu rfl rfl Zh (fun _ => rfl) (fun _ => rfl) ?_
 exact ⟨X1, rfl, rfl⟩
theorem runNil_ok (s : St) (Ad Ar : Option Addr) (cd cr : Nat) (m : Int) (w : World) (h : RdSt w s Ad Ar cd cr) :
 Ctr Tryz.prog 11 [sv s Ad cd Ar cr, .pointer none, .pointer none, .int .i64 m] w [] (fun v cs => ∃ X : SAdr, v = sv s X.Ad X.cd X.Ar X.cr ∧ cs = [slD s X.Ad X.cd, slR s X.Ar X.cr]) := by
 have HR2 := fun A B c e w => right_ok s A B c e w
 obtain ⟨rt, hrt⟩ : ∃ b, s.right = b := ⟨_, rfl⟩
 rw [hrt] at HR2
 refine fn_ctr Tryz.func11 rfl Tryz.ntmps11 rfl (Inv.start w) ?_
 refine Zs (Zr (ZO fun b4 => ?_))
 refine ZN fun b8 => ?_
 refine Zn (Zt (Zs (Zr (wl_loadRow Zh (fun _ => rfl) (fun _ => rfl) (Zv rfl) rfl ?_))))
 refine ZS (fun w hi => copy_ok s Ad Ar cd cr w (h.oldN hi)) ?_
 rintro _ _ ⟨_, ⟨A1, c1, A2, c2, rfl, rfl⟩, rfl⟩
 refine ZM ?_
 refine Zn (Zt (Zs (Zs (Zr (wl_loadRow Zh (fun _ => rfl) (fun _ => rfl) (Zv rfl) rfl ?_)))))
 refine ZS (fun w hi => HR2 A1 A2 c1 c2 w) ?_
 rintro _ _ ⟨_, ⟨rfl, rfl⟩, rfl⟩
 iterate 2 refine ZA ?_
 iterate 2 refine ZB ?_
 iterate 2 refine ZA ?_
 iterate 2 refine ZB ?_
 refine ZA ?_
 refine Zn (Zt (wc_cond_t rfl ((by cases rt <;> rfl)) ?_))
 refine Zs (Zr (wl_loadRow Zh (fun _ => rfl) (fun _ => rfl) (Zv rfl) rfl ?_))
 refine ZM ?_
 refine Zn (Zt (Ze (Zw (qok_pick (row b8 (s.cells (.slice A1 s.d.length c1) (.slice A2 s.r.length c2)) 34 :: [slD s A1 c1, slR s A2 c2]) Zj ?_))))
 refine retC (cs' := [slD s A1 c1, slR s A2 c2]) (.inl rfl) Zu rfl rfl Zh (fun _ => rfl) (fun _ => rfl) ?_
 exact ⟨⟨A1, c1, A2, c2⟩, rfl, rfl⟩
theorem lit_ok (n : Int) (w : World) : Ctr Tryz.prog 53 [.int .u32 n] w [] (fun v cs => v = .agg #[.int .i64 2, .int .u32 n] ∧ cs = []) := by
 refine fn_ctr Tryz.func53 rfl Tryz.ntmps53 rfl (Inv.start w) ?_
 refine Zs (Zr (ZN fun b2 => ?_))
 refine Zn (Zt (Zs (Zr (ZA ?_))))
 refine ZA ?_
 refine ZM ?_
 refine Zn (Zt (Ze (retC (cs' := []) (.inl rfl) Zu rfl rfl Zh (fun _ => rfl) (fun _ => rfl) ?_)))
 exact ⟨rfl, rfl⟩
abbrev smpC (p : Nat × List (Int × Int)) : Chunk := slv 79 2 (some ⟨p.1, 0, none⟩) p.2.length p.2.length (p.2.flatMap insCells)
abbrev imC (A : Option Addr) (c : Nat) (L : List ImR) : Chunk := slv 25 3 A L.length c (L.flatMap ImR.cells)
theorem im_snoc {A : Option Addr} {c n : Nat} {L : List ImR} {a : ImR} {vs : List Value} (hn : n = L.length + 1) (hv : vs = a.cells) : slv 25 3 A n c (L.flatMap ImR.cells ++ vs) = imC A c (L ++ [a]) := by
 subst hv
 rw [flat_snoc, hn]
 simp
theorem im_snoc3 {A : Option Addr} {c : Nat} {L : List ImR} {a b c' : ImR} : slv 25 3 A (L.length + 3) c (L.flatMap ImR.cells ++ (a.cells ++ (b.cells ++ c'.cells))) = imC A c (L ++ [a, b, c']) := by
 show _ = slv 25 3 A (L ++ [a, b, c']).length c ((L ++ [a, b, c']).flatMap ImR.cells)
 rw [show (L ++ [a, b, c']).flatMap ImR.cells = L.flatMap ImR.cells ++ (a.cells ++ (b.cells ++ c'.cells)) by simp, show (L ++ [a, b, c']).length = L.length + 3 by simp]
theorem img3_one {a b c : ImR} : ∀ u, u ∈ a.cells ++ (b.cells ++ c.cells) → u.oneCell' = true := fun u hu => by
 rcases List.mem_append.1 hu with q | q
 · exact one_img _ u q
 rcases List.mem_append.1 q with q | q
 · exact one_img _ u q
 exact one_img _ u q
abbrev nilS : St := ⟨7, [], [], 0, true, false, false, 0, 0, 0, 0, 0, false, false, 0, false⟩
theorem _root_.Go.Ink.SmpOk.last {L : List ImR} {cin : List Chunk} (h : SmpOk L cin) {b5 b167 : Nat} {X : List Int} (hXl : X.length = 512) (hXb : u8s X) :
 SmpOk (L ++ [⟨some ⟨b5, 0, none⟩, 512, X, none, 0, [], 8⟩, ⟨some ⟨b167, 0, none⟩, 2, [2, 1], none, 0, [], 1⟩, ⟨none, 0, [], none, 0, [], 1⟩]) [joinC cin, sl .u8 5 (some ⟨b5, 0, none⟩) 512 512 X, sl .u8 5 (some ⟨b167, 0, none⟩) 2 2 [2, 1]] := by
 have hnil : u8s ([] : List Int) := fun x hx => by cases hx
 have hb : u8s [2, 1] := fun x hx => by simp only [List.mem_cons, List.mem_nil_iff, or_false] at hx; omega
 refine ⟨fun a ha => ?_, fun w hw a ha => ?_⟩
 · rcases List.mem_append.1 ha with q | q
   · exact h.g a q
   simp only [List.mem_cons, List.mem_nil_iff, or_false] at q
   rcases q with rfl | rfl | rfl
   · exact ⟨show 1 ≤ 8 by decide, show 8 ≤ 64 by decide, show X.length ≤ 8 * 64 by omega, hXb, show ([] : List Int).length ≤ 1024 by decide, hnil⟩
   · exact ⟨show 1 ≤ 1 by decide, show 1 ≤ 64 by decide, show ([2, 1] : List Int).length ≤ 1 * 64 by decide, hb, show ([] : List Int).length ≤ 1024 by decide, hnil⟩
   exact ⟨show 1 ≤ 1 by decide, show 1 ≤ 64 by decide, show ([] : List Int).length ≤ 1 * 64 by decide, hnil, show ([] : List Int).length ≤ 1024 by decide, hnil⟩
 have h1 := joinC_ok hw
 rcases List.mem_append.1 ha with q | q
 · exact h.r w (h1 _ (List.mem_cons_self ..)) a q
 simp only [List.mem_cons, List.mem_nil_iff, or_false] at q
 rcases q with rfl | rfl | rfl
 · refine ⟨?_, rdNil w .u8⟩
   have h2 := slv_rd (h1 _ (show _ ∈ _ from List.mem_cons_of_mem _ (List.mem_cons_self ..)))
   show Rd w .u8 _ X.length _ X
   rw [hXl]
   exact h2
 · exact ⟨slv_rd (h1 _ (show _ ∈ _ from List.mem_cons_of_mem _ (List.mem_cons_of_mem _ (List.mem_cons_self ..)))), rdNil w .u8⟩
 exact ⟨rdNil w .u8, rdNil w .u8⟩
set_option maxHeartbeats 8000000 in
theorem samples_ok (w : World) : Ctr Tryz.prog 21 [] w [] (fun v cs => ∃ A c L cin, v = .slice A (List.length L) c ∧ cs = [imC A c L, joinC cin] ∧ SmpOk L cin) := by
 have hcode : ∀ (l : List (Int × Int)) (_ : l.length ≤ 13), (codeOf l).length ≤ 3 * 64 ∧ u8s (codeOf l) := fun l h => ⟨Nat.le_trans (codeTo_len _ _) (by omega), codeTo_u8 _ _⟩
 have hdb : u8s [1, 7, 69] := fun x hx => by simp only [List.mem_cons, List.mem_nil_iff, or_false] at hx; omega
 refine fn_ctr Tryz.func21 rfl Tryz.ntmps21 rfl (Inv.start w) ?_
 refine Zs (Zr (ZA ?_))
 refine Zn (Zt (Zs (Zr (ZA ?_))))
 refine Zn (Zt (Zs (Zr (ZA ?_))))
 refine Zn (Zt (Zs (Zs (Zr (ZA ?_)))))
 iterate 5 refine ZA ?_
 refine wl_t (t_buildSl rfl rfl (fun _ => rfl) (fun _ => rfl) rfl rfl rfl) rfl ?_
 rintro _ _ ⟨b16, rfl, rfl⟩
 refine ZA ?_
 refine wl_t (t_callV rfl rfl (fun _ _ => rfl) (fun w hi => lit_ok 69 w)) rfl ?_
 rintro _ _ ⟨_, ⟨rfl, rfl⟩, rfl⟩
 iterate 9 refine ZA ?_
 refine wl_t (t_buildSl rfl rfl (fun _ => rfl) (fun _ => rfl) rfl rfl rfl) rfl ?_
 rintro _ _ ⟨b28, rfl, rfl⟩
 refine ZA ?_
 refine wl_t (t_callV rfl rfl (fun _ _ => rfl) (fun w hi => lit_ok 20 w)) rfl ?_
 rintro _ _ ⟨_, ⟨rfl, rfl⟩, rfl⟩
 iterate 12 refine ZA ?_
 refine wl_t (t_buildSl rfl rfl (fun _ => rfl) (fun _ => rfl) rfl rfl rfl) rfl ?_
 rintro _ _ ⟨b43, rfl, rfl⟩
 refine ZA ?_
 refine wl_t (t_callV rfl rfl (fun _ _ => rfl) (fun w hi => lit_ok 32804 w)) rfl ?_
 rintro _ _ ⟨_, ⟨rfl, rfl⟩, rfl⟩
 iterate 2 refine ZA ?_
 refine wl_t (t_callV rfl rfl (fun _ _ => rfl) (fun w hi => lit_ok 64 w)) rfl ?_
 rintro _ _ ⟨_, ⟨rfl, rfl⟩, rfl⟩
 refine ZA ?_
 refine wl_t (t_callV rfl rfl (fun _ _ => rfl) (fun w hi => lit_ok 32804 w)) rfl ?_
 rintro _ _ ⟨_, ⟨rfl, rfl⟩, rfl⟩
 iterate 3 refine ZA ?_
 refine wl_t (t_callV rfl rfl (fun _ _ => rfl) (fun w hi => lit_ok 32808 w)) rfl ?_
 rintro _ _ ⟨_, ⟨rfl, rfl⟩, rfl⟩
 iterate 3 refine ZA ?_
 refine wl_t (t_buildSl rfl rfl (fun _ => rfl) (fun _ => rfl) rfl rfl rfl) rfl ?_
 rintro _ _ ⟨b58, rfl, rfl⟩
 iterate 4 refine ZA ?_
 refine wl_t (t_callV rfl rfl (fun _ _ => rfl) (fun w hi => lit_ok 32772 w)) rfl ?_
 rintro _ _ ⟨_, ⟨rfl, rfl⟩, rfl⟩
 iterate 3 refine ZA ?_
 refine wl_t (t_callV rfl rfl (fun _ _ => rfl) (fun w hi => lit_ok 32776 w)) rfl ?_
 rintro _ _ ⟨_, ⟨rfl, rfl⟩, rfl⟩
 iterate 5 refine ZA ?_
 refine wl_t (t_buildSl rfl rfl (fun _ => rfl) (fun _ => rfl) rfl rfl rfl) rfl ?_
 rintro _ _ ⟨b73, rfl, rfl⟩
 iterate 2 refine ZA ?_
 refine wl_t (t_buildSl rfl rfl (fun _ => rfl) (fun _ => rfl) rfl rfl rfl) rfl ?_
 rintro _ _ ⟨b76, rfl, rfl⟩
 refine ZA ?_
 refine wl_t (t_buildSl rfl rfl (fun _ => rfl) (fun _ => rfl) rfl rfl rfl) rfl ?_
 rintro _ _ ⟨b78, rfl, rfl⟩
 iterate 2 refine ZA ?_
 refine wl_t (t_buildSl rfl rfl (fun _ => rfl) (fun _ => rfl) rfl rfl rfl) rfl ?_
 rintro _ _ ⟨b81, rfl, rfl⟩
 refine wl_t (t_buildSl1 rfl rfl (fun _ => rfl) (fun _ => rfl) rfl rfl) rfl ?_
 rintro _ _ ⟨b82, rfl, rfl⟩
 obtain ⟨hPl, hPs⟩ := smp_facts b16 b28 b43 b58 b73 b76 b78 b81
 refine wl_nilc 25 3 ?_
 refine wl_join [] (.nil _) ?_
 refine wl_join ((smpP b16 b28 b43 b58 b73 b76 b78 b81).map smpC) (show Split [smpC (b16, [(1, 9), (1, 1), (17, 0), (3, 0), (34, 250), (69, 0)]), smpC (b28, [(2, 69), (1, 12), (53, 0), (0, 0), (0, 0), (0, 0), (0, 0), (0, 0), (0, 0), (32, 255)]), smpC (b43, [(2, 20), (67, 3), (1, 1), (1, 0), (24, 0), (0, 0), (0, 0), (0, 0), (0, 0), (0, 0), (0, 0), (66, 4), (69, 0)]), smpC (b58, [(2, 32804), (4, 0), (2, 64), (2, 32804), (49, 0), (1, 1), (2, 32808), (49, 0), (1, 64), (40, 0)]), smpC (b73, [(1, 30), (67, 3), (1, 255), (2, 32772), (49, 0), (1, 20), (2, 32776), (49, 0), (1, 1), (67, 0), (0, 0), (32, 253)]), smpC (b76, [(38, 0), (39, 0)]), smpC (b78, [(3, 0)]), smpC (b81, [(64, 0), (64, 0)])] _ _ from Zi) ?_
 refine wl_pick [slv 102 1 (some ⟨b82, 0, none⟩) 8 8 ((smpP b16 b28 b43 b58 b73 b76 b78 b81).map smpV), joinC ((smpP b16 b28 b43 b58 b73 b76 b78 b81).map smpC), imC none 0 [], joinC []] Zj ?_
 obtain ⟨P, hP⟩ : ∃ P, smpP b16 b28 b43 b58 b73 b76 b78 b81 = P := ⟨_, rfl⟩
 rw [hP] at hPl hPs ⊢
 iterate 2 refine ZA ?_
 refine Zn (Zt (Zx ?_))
 refine wc_loop (fun q : Nat × (Option Addr × Nat) × List ImR × List Chunk => [(1, .func (.func 53) #[] #[]), (2, .slice q.2.1.1 q.2.2.1.length q.2.1.2), (82, .slice (some ⟨b82, 0, none⟩) 8 8), (83, .int .i64 8), (84, .int .i64 (q.1 : Int))]) (fun q => [slv 102 1 (some ⟨b82, 0, none⟩) 8 8 (P.map smpV), joinC (P.map smpC), imC q.2.1.1 q.2.1.2 q.2.2.1, joinC q.2.2.2]) (fun q => q.1 ≤ 8 ∧ q.2.2.1.length = q.1 ∧ SmpOk q.2.2.1 q.2.2.2) (fun q => 8 - q.1) (⟨0, ⟨none, 0⟩, [], []⟩) ?_ ?_ ?_ ?_
 · exact ⟨Nat.zero_le _, rfl, ⟨fun a ha => (by cases ha), fun w hw a ha => (by cases ha)⟩⟩
 · exact Zwk
 · exact List.Sublist.refl _
 rintro ⟨k, ⟨A, c⟩, L, cin⟩ ⟨hk, hL, hS⟩
 dsimp only at hk hL hS ⊢
 refine Zs (Zr (ZA ?_))
 refine Zn (Zt (Zs ?_))
 refine wc_cond _ rfl (fun hc4 => ?_) (fun hc4 => ?_)
 · simp only [decide_eq_true_eq] at hc4
   have hk8 : k < P.length := (by omega)
   have hp : P[k]? = some (P[k]'hk8) := List.getElem?_eq_getElem hk8
   have hpm := hPs _ (List.getElem_mem hk8)
   have hpj : smpC (P[k]'hk8) ∈ P.map smpC := List.mem_map_of_mem (List.getElem_mem hk8)
   obtain ⟨p, hpp⟩ : ∃ p, P[k]'hk8 = p := ⟨_, rfl⟩
   rw [hpp] at hp hpm hpj
   obtain ⟨hcl, hcb⟩ := hcode p.2 hpm
   have HC := fun w h => code_ok (some ⟨p.1, 0, none⟩) p.2.length p.2 (by omega) w h
   obtain ⟨E, hE⟩ : ∃ E, codeOf p.2 = E := ⟨_, rfl⟩
   rw [hE] at HC hcl hcb
   refine Zc (Zt (Zs (Zx (Zs (Zr (Zy (y_indexR (j := k) (sz := 1) (r := k) rfl (fun _ => rfl) (Zv rfl) (Zv rfl) (fun _ => by omega) (fun _ => by omega) (by omega)) ?_))))))
   refine wl_y (y_load (fun _ => rfl) (Zv rfl)) (sl_cellR Zh (map_at hp)) rfl ?_
   refine ZA ?_
   refine Zn (Zt (Zr (ZA ?_)))
   refine ZA ?_
   refine ZS (fun w hi => HC w (slv_rd (joinC_ok (hi.get (show Has _ (joinC (P.map smpC)) from Zh)) _ hpj))) ?_
   rintro _ _ ⟨_, ⟨A1, c1, rfl, rfl⟩, rfl⟩
   refine wl_t (t_buildSl1 rfl rfl (fun _ => rfl) (fun _ => rfl) rfl rfl) rfl ?_
   rintro _ _ ⟨b91, rfl, rfl⟩
   refine ZA ?_
   refine wl_t (t_buildSl rfl rfl (fun _ => rfl) (fun _ => rfl) rfl rfl rfl) rfl ?_
   rintro _ _ ⟨b93, rfl, rfl⟩
   refine wl_t (t_append (e := 25) (sz := 3) (bytes := 56) rfl rfl Za rfl rfl (fun w hi => hi.rd (show Has _ (slv 25 3 (some ⟨b93, 0, none⟩) 1 1 (ImR.cells ⟨A1, c1, E, some ⟨b91, 0, none⟩, 3, [1, 7, 69], 3⟩)) from Zh)) (one_img _) (by simp only [maxLen]; omega) (by omega)) rfl ?_
   rintro _ _ ⟨A2, c2, rfl, rfl⟩
   rw [im_snoc (a := ⟨A1, c1, E, some ⟨b91, 0, none⟩, 3, [1, 7, 69], 3⟩) rfl rfl, show L.length + 1 = (L ++ [(⟨A1, c1, E, some ⟨b91, 0, none⟩, 3, [1, 7, 69], 3⟩ : ImR)]).length by simp]
   refine wl_join [joinC cin, sl .u8 5 A1 E.length c1 E, sl .u8 5 (some ⟨b91, 0, none⟩) 3 3 [1, 7, 69]] Zi ?_
   refine ZA ?_
   refine Zn (Zo (Zt (Zr (Zy (y_add (Zv rfl) (Zv rfl) Zl) ?_))))
   refine ZA ?_
   refine Zn ?_
   refine q_midP ((⟨k + 1, ⟨A2, c2⟩, L ++ [⟨A1, c1, E, some ⟨b91, 0, none⟩, 3, [1, 7, 69], 3⟩], [joinC cin, sl .u8 5 A1 E.length c1 E, sl .u8 5 (some ⟨b91, 0, none⟩) 3 3 [1, 7, 69]]⟩ : Nat × (Option Addr × Nat) × List ImR × List Chunk)) ?_ ?_ ?_
   · exact ⟨⟨show k + 1 ≤ 8 by omega, by show (L ++ [_]).length = k + 1; simp [hL], hS.more ⟨show 1 ≤ 3 by decide, show 3 ≤ 64 by decide, hcl, hcb, show ([1, 7, 69] : List Int).length ≤ 1024 by decide, hdb⟩ (fun w h => ⟨slv_rd (h _ (List.mem_cons_self ..)), slv_rd (h _ (List.mem_cons_of_mem _ (List.mem_cons_self ..)))⟩)⟩, show 8 - (k + 1) < 8 - k by omega⟩
   · exact Zwk
   exact Zj
 simp only [decide_eq_false_iff_not] at hc4
 obtain rfl : k = 8 := (by omega)
 refine wc_exit ?_
 refine q_then_exit ?_
 refine q_then_exit ?_
 refine q_block_same rfl ?_
 refine Zt (Zs (Zr (wl_t (t_make (bytes := 1) (n := 512) rfl rfl rfl rfl rfl rfl rfl (by omega) (by simp only [maxLen]; omega)) rfl ?_)))
 rintro _ _ ⟨b5, rfl, rfl⟩
 rw [rep_int]
 refine ZA ?_
 refine Zn (Zt (Zs (Zr (ZA ?_))))
 refine ZA ?_
 refine wl_t (t_callV rfl rfl (fun _ _ => rfl) (fun w hi => lit_ok 64 w)) rfl ?_
 rintro _ _ ⟨_, ⟨rfl, rfl⟩, rfl⟩
 iterate 4 refine ZA ?_
 refine wl_t (t_callV rfl rfl (fun _ _ => rfl) (fun w hi => lit_ok 5 w)) rfl ?_
 rintro _ _ ⟨_, ⟨rfl, rfl⟩, rfl⟩
 refine ZA ?_
 refine wl_t (t_callV rfl rfl (fun _ _ => rfl) (fun w hi => lit_ok 300 w)) rfl ?_
 rintro _ _ ⟨_, ⟨rfl, rfl⟩, rfl⟩
 iterate 2 refine ZA ?_
 refine wl_t (t_callV rfl rfl (fun _ _ => rfl) (fun w hi => lit_ok 300 w)) rfl ?_
 rintro _ _ ⟨_, ⟨rfl, rfl⟩, rfl⟩
 iterate 2 refine ZA ?_
 refine wl_t (t_callV rfl rfl (fun _ _ => rfl) (fun w hi => lit_ok 380 w)) rfl ?_
 rintro _ _ ⟨_, ⟨rfl, rfl⟩, rfl⟩
 iterate 2 refine ZA ?_
 refine wl_t (t_buildSl rfl rfl (fun _ => rfl) (fun _ => rfl) rfl rfl rfl) rfl ?_
 rintro _ _ ⟨b115, rfl, rfl⟩
 have hl9 : ([(2, 64), (67, 2), (1, 1), (67, 1), (2, 5), (2, 300), (49, 0), (2, 300), (48, 0), (2, 380), (50, 0), (69, 0)] : List (Int × Int)).length ≤ 13 := (by decide)
 obtain ⟨hcl, hcb⟩ := hcode _ hl9
 have HC := fun A c w h => code_ok A c [(2, 64), (67, 2), (1, 1), (67, 1), (2, 5), (2, 300), (49, 0), (2, 300), (48, 0), (2, 380), (50, 0), (69, 0)] (by decide) w h
 obtain ⟨E, hE⟩ : ∃ E, codeOf [(2, 64), (67, 2), (1, 1), (67, 1), (2, 5), (2, 300), (49, 0), (2, 300), (48, 0), (2, 380), (50, 0), (69, 0)] = E := ⟨_, rfl⟩
 rw [hE] at HC hcl hcb
 refine ZS (fun w hi => HC (some ⟨b115, 0, none⟩) 12 w (hi.rd (show Has _ (slv 79 2 (some ⟨b115, 0, none⟩) 12 12 ([((2 : Int), (64 : Int)), (67, 2), (1, 1), (67, 1), (2, 5), (2, 300), (49, 0), (2, 300), (48, 0), (2, 380), (50, 0), (69, 0)].flatMap insCells)) from Zh))) ?_
 rintro _ _ ⟨_, ⟨A1, c1, rfl, rfl⟩, rfl⟩
 refine wl_t (t_copy rfl rfl Za rfl rfl (fun w hi => hi.rd (show Has _ (sl .u8 5 A1 E.length c1 E) from Zh)) ints_one (by omega)) rfl ?_
 rintro _ _ ⟨rfl, rfl⟩
 have hX2 : (ints .u8 (List.replicate 512 0)).take 0 ++ (ints .u8 E).take (min E.length 512) ++ (ints .u8 (List.replicate 512 0)).drop (0 + min E.length 512) = ints .u8 (E ++ List.replicate (512 - E.length) 0) := fill_eq 512 (by omega)
 rw [hX2]
 have hXl : (E ++ List.replicate (512 - E.length) 0).length = 512 := (by rw [List.length_append, List.length_replicate]; omega)
 have hXb : u8s (E ++ List.replicate (512 - E.length) 0) := (fun x hx => (List.mem_append.1 hx).elim (hcb x) (fun q => by have := (List.mem_replicate.1 q).2; subst this; exact ⟨by decide, by decide⟩))
 obtain ⟨X, hX⟩ : ∃ X, E ++ List.replicate (512 - E.length) 0 = X := ⟨_, rfl⟩
 rw [hX] at hXl hXb ⊢
 refine Zn (Zt (Zs (Zs (Zr (wl_pick [sl .u8 5 (some ⟨b5, 0, none⟩) 512 512 X, imC A c L, joinC cin] Zj ?_)))))
 refine wl_t (t_buildSl1 rfl rfl (fun _ => rfl) (fun _ => rfl) rfl rfl) rfl ?_
 rintro _ _ ⟨b118, rfl, rfl⟩
 iterate 2 refine ZA ?_
 refine Zn (Zt (Zx ?_))
 refine wc_loop (fun q : Nat × List Int => [(2, .slice A L.length c), (5, .slice (some ⟨b5, 0, none⟩) 512 512), (118, .slice (some ⟨b118, 0, none⟩) 1 1), (119, .int .i64 1), (120, .int .i64 (q.1 : Int))]) (fun q => [sl .u8 5 (some ⟨b5, 0, none⟩) 512 512 q.2, imC A c L, joinC cin, sl .u32 30 (some ⟨b118, 0, none⟩) 1 1 [513]]) (fun q => q.1 ≤ 1 ∧ q.2.length = 512 ∧ u8s q.2) (fun q => 1 - q.1) (⟨0, X⟩) ?_ ?_ ?_ ?_
 · exact ⟨Nat.zero_le _, hXl, hXb⟩
 · exact Zwk
 · exact List.Sublist.refl _
 clear hXl hXb
 rintro ⟨k, X⟩ ⟨hk, hXl, hXb⟩
 dsimp only at hk hXl hXb ⊢
 refine Zs (Zr (ZA ?_))
 refine Zn (Zt (Zs ?_))
 refine wc_cond _ rfl (fun hc11 => ?_) (fun hc11 => ?_)
 · simp only [decide_eq_true_eq] at hc11
   have hk1 : k < 1 := (by omega)
   have hx : ([513] : List Int)[k]? = some 513 := (by obtain rfl : k = 0 := (by omega); rfl)
   refine Zc (Zt (Zs (Zx (Zs (Zr (ZA ?_))))))
   refine Zy (y_indexR (j := k) (sz := 1) (r := k) rfl (fun _ => rfl) (Zv rfl) (Zv rfl) (fun _ => by omega) (fun _ => by omega) (by omega)) ?_
   refine wl_y (y_load (fun _ => rfl) (Zv rfl)) (sl_cellR Zh (ints_at hx)) rfl ?_
   iterate 2 refine ZA ?_
   refine Zn (Zt (Zr (ZA ?_)))
   refine ZA ?_
   refine Zy (y_mul (Zv rfl) (Zv rfl) (show _ = ((4 * k : Nat) : Int) from by rw [IntWalk.i64_in _ ⟨by omega, by omega⟩]; omega)) ?_
   refine Zy (y_add (Zv rfl) (Zv rfl) (show _ = ((64 + 4 * k : Nat) : Int) from by rw [IntWalk.i64_in _ ⟨by omega, by omega⟩]; omega)) ?_
   iterate 2 refine ZA ?_
   refine Zy (y_mul (Zv rfl) (Zv rfl) (show _ = ((4 * k : Nat) : Int) from by rw [IntWalk.i64_in _ ⟨by omega, by omega⟩]; omega)) ?_
   refine Zy (y_add (Zv rfl) (Zv rfl) (show _ = ((65 + 4 * k : Nat) : Int) from by rw [IntWalk.i64_in _ ⟨by omega, by omega⟩]; omega)) ?_
   refine ZA ?_
   refine Zy (y_conv rfl rfl (Zv rfl) rfl) ?_
   refine ZA ?_
   refine Zy (y_shr (Zv rfl) (Zv rfl) (by omega) rfl) ?_
   refine Zy (y_conv rfl rfl (Zv rfl) rfl) ?_
   refine Zy (y_indexR (j := (64 + 4 * k)) (sz := 1) (r := (64 + 4 * k)) rfl (fun _ => rfl) (Zv rfl) (Zv rfl) (fun _ => by omega) (fun _ => by omega) (by omega)) ?_
   refine wl_t0 (t_storeS (fun _ => rfl) rfl rfl rfl Za (by omega)) ?_
   rintro _ _ ⟨rfl, rfl⟩
   rw [ints_set']
   refine Zy (y_indexR (j := (65 + 4 * k)) (sz := 1) (r := (65 + 4 * k)) rfl (fun _ => rfl) (Zv rfl) (Zv rfl) (fun _ => by omega) (fun _ => by omega) (by omega)) ?_
   refine wl_t0 (t_storeS (fun _ => rfl) rfl rfl rfl Za (by omega)) ?_
   rintro _ _ ⟨rfl, rfl⟩
   rw [ints_set']
   refine Zn (Zo (Zt (Zr (Zy (y_add (Zv rfl) (Zv rfl) (show _ = ((k + 1 : Nat) : Int) from by rw [IntWalk.i64_in _ ⟨by omega, by omega⟩]; omega)) ?_))))
   refine ZA ?_
   refine Zn ?_
   refine q_midP ((⟨k + 1, (X.set (64 + 4 * k) (IntKind.u8.wrap 513)).set (65 + 4 * k) (IntKind.u8.wrap (Int.fdiv 513 (2 ^ (min (Int.toNat 8) IntKind.u32.bits))))⟩ : Nat × List Int)) ?_ ?_ ?_
   · exact ⟨⟨show k + 1 ≤ 1 by omega, by show ((X.set _ _).set _ _).length = 512; rw [List.length_set, List.length_set]; exact hXl, u8s_set (u8s_set hXb (wrap8_rng _)) (wrap8_rng _)⟩, show 1 - (k + 1) < 1 - k by omega⟩
   · exact Zwk
   exact Zj
 clear hc11
 refine wc_exit ?_
 refine q_then_exit ?_
 refine q_then_exit ?_
 refine q_block_same rfl ?_
 refine Zt (Zs (Zs (Zr (wl_pick [sl .u8 5 (some ⟨b5, 0, none⟩) 512 512 X, imC A c L, joinC cin] Zj ?_))))
 refine wl_t (t_buildSl1 rfl rfl (fun _ => rfl) (fun _ => rfl) rfl rfl) rfl ?_
 rintro _ _ ⟨b141, rfl, rfl⟩
 iterate 2 refine ZA ?_
 refine Zn (Zt (Zx ?_))
 refine wc_loop (fun q : Nat × List Int => [(2, .slice A L.length c), (5, .slice (some ⟨b5, 0, none⟩) 512 512), (141, .slice (some ⟨b141, 0, none⟩) 7 7), (142, .int .i64 7), (143, .int .i64 (q.1 : Int))]) (fun q => [sl .u8 5 (some ⟨b5, 0, none⟩) 512 512 q.2, imC A c L, joinC cin, sl .u32 30 (some ⟨b141, 0, none⟩) 7 7 [11, 265, 0, 0, 1287, 1539, 0]]) (fun q => q.1 ≤ 7 ∧ q.2.length = 512 ∧ u8s q.2) (fun q => 7 - q.1) (⟨0, X⟩) ?_ ?_ ?_ ?_
 · exact ⟨Nat.zero_le _, hXl, hXb⟩
 · exact Zwk
 · exact List.Sublist.refl _
 clear hXl hXb
 rintro ⟨k, X⟩ ⟨hk, hXl, hXb⟩
 dsimp only at hk hXl hXb ⊢
 refine Zs (Zr (ZA ?_))
 refine Zn (Zt (Zs ?_))
 refine wc_cond _ rfl (fun hc16 => ?_) (fun hc16 => ?_)
 · simp only [decide_eq_true_eq] at hc16
   have hk1 : k < 7 := (by omega)
   obtain ⟨x, hx⟩ : ∃ x, ([11, 265, 0, 0, 1287, 1539, 0] : List Int)[k]? = some x := ⟨_, List.getElem?_eq_getElem (show k < ([11, 265, 0, 0, 1287, 1539, 0] : List Int).length from hk1)⟩
   refine Zc (Zt (Zs (Zx (Zs (Zr (ZA ?_))))))
   refine Zy (y_indexR (j := k) (sz := 1) (r := k) rfl (fun _ => rfl) (Zv rfl) (Zv rfl) (fun _ => by omega) (fun _ => by omega) (by omega)) ?_
   refine wl_y (y_load (fun _ => rfl) (Zv rfl)) (sl_cellR Zh (ints_at hx)) rfl ?_
   iterate 2 refine ZA ?_
   refine Zn (Zt (Zr (ZA ?_)))
   refine ZA ?_
   refine Zy (y_mul (Zv rfl) (Zv rfl) (show _ = ((4 * k : Nat) : Int) from by rw [IntWalk.i64_in _ ⟨by omega, by omega⟩]; omega)) ?_
   refine Zy (y_add (Zv rfl) (Zv rfl) (show _ = ((128 + 4 * k : Nat) : Int) from by rw [IntWalk.i64_in _ ⟨by omega, by omega⟩]; omega)) ?_
   iterate 2 refine ZA ?_
   refine Zy (y_mul (Zv rfl) (Zv rfl) (show _ = ((4 * k : Nat) : Int) from by rw [IntWalk.i64_in _ ⟨by omega, by omega⟩]; omega)) ?_
   refine Zy (y_add (Zv rfl) (Zv rfl) (show _ = ((129 + 4 * k : Nat) : Int) from by rw [IntWalk.i64_in _ ⟨by omega, by omega⟩]; omega)) ?_
   refine ZA ?_
   refine Zy (y_conv rfl rfl (Zv rfl) rfl) ?_
   refine ZA ?_
   refine Zy (y_shr (Zv rfl) (Zv rfl) (by omega) rfl) ?_
   refine Zy (y_conv rfl rfl (Zv rfl) rfl) ?_
   refine Zy (y_indexR (j := (128 + 4 * k)) (sz := 1) (r := (128 + 4 * k)) rfl (fun _ => rfl) (Zv rfl) (Zv rfl) (fun _ => by omega) (fun _ => by omega) (by omega)) ?_
   refine wl_t0 (t_storeS (fun _ => rfl) rfl rfl rfl Za (by omega)) ?_
   rintro _ _ ⟨rfl, rfl⟩
   rw [ints_set']
   refine Zy (y_indexR (j := (129 + 4 * k)) (sz := 1) (r := (129 + 4 * k)) rfl (fun _ => rfl) (Zv rfl) (Zv rfl) (fun _ => by omega) (fun _ => by omega) (by omega)) ?_
   refine wl_t0 (t_storeS (fun _ => rfl) rfl rfl rfl Za (by omega)) ?_
   rintro _ _ ⟨rfl, rfl⟩
   rw [ints_set']
   refine Zn (Zo (Zt (Zr (Zy (y_add (Zv rfl) (Zv rfl) (show _ = ((k + 1 : Nat) : Int) from by rw [IntWalk.i64_in _ ⟨by omega, by omega⟩]; omega)) ?_))))
   refine ZA ?_
   refine Zn ?_
   refine q_midP ((⟨k + 1, (X.set (128 + 4 * k) (IntKind.u8.wrap x)).set (129 + 4 * k) (IntKind.u8.wrap (Int.fdiv x (2 ^ (min (Int.toNat 8) IntKind.u32.bits))))⟩ : Nat × List Int)) ?_ ?_ ?_
   · exact ⟨⟨show k + 1 ≤ 7 by omega, by show ((X.set _ _).set _ _).length = 512; rw [List.length_set, List.length_set]; exact hXl, u8s_set (u8s_set hXb (wrap8_rng _)) (wrap8_rng _)⟩, show 7 - (k + 1) < 7 - k by omega⟩
   · exact Zwk
   exact Zj
 refine wc_exit ?_
 refine q_then_exit ?_
 refine q_then_exit ?_
 refine q_block_same rfl ?_
 refine Zt (Zs (Zr (ZA ?_)))
 iterate 2 refine ZA ?_
 refine wl_t (t_buildSl1 rfl rfl (fun _ => rfl) (fun _ => rfl) rfl rfl) rfl ?_
 rintro _ _ ⟨b167, rfl, rfl⟩
 iterate 2 refine ZA ?_
 refine wl_t (t_buildSl rfl rfl (fun _ => rfl) (fun _ => rfl) rfl rfl rfl) rfl ?_
 rintro _ _ ⟨b170, rfl, rfl⟩
 refine wl_t (t_append (e := 25) (sz := 3) (bytes := 56) rfl rfl Za rfl rfl (fun w hi => hi.rd (show Has _ (slv 25 3 (some ⟨b170, 0, none⟩) 3 3 (ImR.cells ⟨some ⟨b5, 0, none⟩, 512, X, none, 0, [], 8⟩ ++ (ImR.cells ⟨some ⟨b167, 0, none⟩, 2, [2, 1], none, 0, [], 1⟩ ++ ImR.cells ⟨none, 0, [], none, 0, [], 1⟩))) from by have e : X.length = 512 := hXl; unfold ImR.cells; rw [e]; exact Zh)) img3_one (by simp only [maxLen]; omega) (by omega)) rfl ?_
 rintro _ _ ⟨A2, c2, rfl, rfl⟩
 rw [im_snoc3 (a := ⟨some ⟨b5, 0, none⟩, 512, X, none, 0, [], 8⟩) (b := ⟨some ⟨b167, 0, none⟩, 2, [2, 1], none, 0, [], 1⟩) (c' := ⟨none, 0, [], none, 0, [], 1⟩), show L.length + 3 = (L ++ [(⟨some ⟨b5, 0, none⟩, 512, X, none, 0, [], 8⟩ : ImR), ⟨some ⟨b167, 0, none⟩, 2, [2, 1], none, 0, [], 1⟩, ⟨none, 0, [], none, 0, [], 1⟩]).length by simp]
 refine wl_join [joinC cin, sl .u8 5 (some ⟨b5, 0, none⟩) 512 512 X, sl .u8 5 (some ⟨b167, 0, none⟩) 2 2 [2, 1]] Zi ?_
 refine ZA ?_
 refine Zn (Zt (Ze (qok_pick [imC A2 c2 (L ++ [⟨some ⟨b5, 0, none⟩, 512, X, none, 0, [], 8⟩, ⟨some ⟨b167, 0, none⟩, 2, [2, 1], none, 0, [], 1⟩, ⟨none, 0, [], none, 0, [], 1⟩]), joinC [joinC cin, sl .u8 5 (some ⟨b5, 0, none⟩) 512 512 X, sl .u8 5 (some ⟨b167, 0, none⟩) 2 2 [2, 1]]] Zj ?_)))
 refine ret1 (cs' := [imC A2 c2 (L ++ [⟨some ⟨b5, 0, none⟩, 512, X, none, 0, [], 8⟩, ⟨some ⟨b167, 0, none⟩, 2, [2, 1], none, 0, [], 1⟩, ⟨none, 0, [], none, 0, [], 1⟩]), joinC [joinC cin, sl .u8 5 (some ⟨b5, 0, none⟩) 512 512 X, sl .u8 5 (some ⟨b167, 0, none⟩) 2 2 [2, 1]]]) (.inl rfl) (List.Sublist.refl _) rfl rfl ?_
 exact ⟨A2, c2, _, _, rfl, rfl, hS.last hXl hXb⟩
set_option maxHeartbeats 8000000 in
theorem blockNumbers_ok (w : World) (ht : TabOk w) : Ctr Tryz.prog 5 [] w [] (fun v cs => v = .bool true ∧ cs = []) := by
 refine fn_ctr Tryz.func5 rfl Tryz.ntmps5 rfl (Inv.start w) ?_
 refine Zs (Zr (ZA ?_))
 refine Zn (Zt (Zs (Zr (ZS (fun w hi => samples_ok w) ?_))))
 rintro _ _ ⟨_, ⟨A, c, L, cin, rfl, rfl, hS⟩, rfl⟩
 refine wl_fact (fun w hi => (slv_rd (hi.get (show Has _ (imC A c L) from Zh))).cap) (fun hcap => ?_)
 refine wl_fact (fun w hi => (slv_rd (hi.get (show Has _ (imC A c L) from Zh))).max) (fun hmax => ?_)
 simp only [maxLen] at hmax
 refine ZA ?_
 refine Zn (Zt (Zs (Zs (Zr (ZA ?_)))))
 refine Zn (Zt (Zx ?_))
 refine wc_loop (fun i : Nat => [(1, .slice A L.length c), (2, .int .i64 (i : Int))]) (fun _ => [imC A c L, joinC cin]) (fun i => i ≤ L.length) (fun i => L.length - i) (0) ?_ ?_ ?_ ?_
 · exact Nat.zero_le _
 · exact Zwk
 · ((repeat (first | exact List.Sublist.slnil | refine List.Sublist.cons_cons _ ?_ | refine List.Sublist.cons _ ?_)))
 rintro i hiL
 refine Zs (Zs (Zr (ZA ?_)))
 iterate 3 refine ZA ?_
 refine Zn (Zt ?_)
 refine wc_cond _ rfl (fun hc3 => ?_) (fun hc3 => ?_)
 · simp only [decide_eq_true_eq] at hc3
   have hi1 : i < L.length := (by omega)
   have hla : L[i]? = some (L[i]'hi1) := List.getElem?_eq_getElem hi1
   have hgo := hS.g _ (List.getElem_mem hi1)
   have hrd := fun w h => hS.r w h _ (List.getElem_mem hi1)
   obtain ⟨im, him⟩ : ∃ r, L[i]'hi1 = r := ⟨_, rfl⟩
   rw [him] at hla hgo hrd
   obtain ⟨iA, ic, il, iB, ie, ik, n⟩ := im
   obtain ⟨hn1, hn64, hil, hilb, hik, hikb⟩ := hgo
   dsimp only at hn1 hn64 hil hilb hik hikb
   refine wc_fact (fun w hi => (slv_rd (hi.get (show Has _ (imC A c L) from Zh))).some_ (by omega)) (fun hA => ?_)
   obtain ⟨ad, rfl⟩ := hA
   have hG0 := fresh_g18 (n := n) hn1 hn64 hil hilb hik hikb
   have HF := fun w h hB => freshG_ok iA iB ic ie n il ik hn1 hn64 hil hilb hik w h hB
   obtain ⟨M0, hM0⟩ : ∃ M, Mem.init n il = M := ⟨_, rfl⟩
   obtain ⟨T0, hTT⟩ : ∃ T, tflush = T := ⟨_, rfl⟩
   obtain ⟨d0, hd⟩ : ∃ d, Dev.init ik = d := ⟨_, rfl⟩
   rw [hM0, hTT, hd] at HF hG0
   refine Zc (Zt (Zs (Zx (Zs (Zr (ZA ?_))))))
   refine ZA ?_
   refine Zy (y_index (j := i)  rfl (fun _ => rfl) (Zv rfl) (Zv rfl)  (fun _ => by omega) (fun _ => by omega)) ?_
   refine wl_y (y_loadN (vs := ImR.cells ⟨iA, ic, il, iB, ie, ik, n⟩) (fun _ => rfl) (fun _ => rfl) (Zv rfl)) (slR_cells (show Has _ (imC (some ad) c L) from Zh) (fun j v hj => flat_at ImR.cells_len (i := j) hla hj)) rfl ?_
   refine ZS (fun w hi => HF w (hrd w (hi.get (show Has _ (joinC cin) from Zh))).1 (hrd w (hi.get (show Has _ (joinC cin) from Zh))).2) ?_
   rintro _ _ ⟨_, ⟨F, hF, rfl, rfl⟩, rfl⟩
   refine ZA ?_
   refine Zn (Zt (Zs (Zs (Zr (ZA ?_)))))
   refine ZA ?_
   refine Zn (Zt (wc_cond_f rfl (rfl) ?_))
   refine Zc (Zt (Zs (Zr (wl_nilc 30 1 ?_))))
   refine wl_nilc 30 1 ?_
   refine wl_nilc 30 1 ?_
   refine wl_nilc 30 1 ?_
   refine wl_pick (imC (some ad) c L :: joinC cin :: b18F F n St.new ⟨none, 0, none, 0⟩ ⟨none, 0, none, 0⟩ ⟨none, 0, none, 0⟩ ⟨none, 0, none, 0⟩ ⟨M0, T0⟩ d0) Zj ?_
   refine ZA ?_
   refine Zn (Zt (Zx ?_))
   refine wc_loop (fun q : Nat × St × (SAdr × SAdr) × (DAdr × DAdr) × Mmu × Dev => [(1, .slice (some ad) L.length c), (2, .int .i64 (i : Int)), (3, .pointer (some ⟨F.bw, 0, none⟩)), (4, .int .i64 (q.1 : Int))]) (fun q => imC (some ad) c L :: joinC cin :: b18F F n q.2.1 q.2.2.1.1 q.2.2.1.2 q.2.2.2.1.1 q.2.2.2.1.2 q.2.2.2.2.1 q.2.2.2.2.2) (fun q => G18 n q.1 q.2.1 q.2.2.2.2.1 q.2.2.2.2.2 ∧ q.1 ≤ 30) (fun q => 30 - q.1) (⟨0, St.new, ⟨⟨none, 0, none, 0⟩, ⟨none, 0, none, 0⟩⟩, ⟨⟨none, 0, none, 0⟩, ⟨none, 0, none, 0⟩⟩, ⟨M0, T0⟩, d0⟩) ?_ ?_ ?_ ?_
   · exact ⟨hG0, Nat.zero_le _⟩
   · exact Zwk
   · exact List.Sublist.refl _
   rintro ⟨j, s, ⟨X, V⟩, ⟨Y, Z⟩, U, d⟩ ⟨hG, hj⟩
   dsimp only at hG hj ⊢
   refine Zs (Zs (Zr (ZA ?_)))
   refine ZA ?_
   refine Zn (Zt ?_)
   refine wc_cond _ rfl (fun hc9 => ?_) (fun hc9 => ?_)
   · simp only [decide_eq_true_eq] at hc9
     have hbj : u8s [(j : Int)] := (fun x hx => by obtain rfl := List.mem_singleton.1 hx; exact ⟨by omega, by omega⟩)
     refine Zc (Zt (Zs (Zx (Zs ?_))))
     refine wc_seq_mid (fun q : DAdr × DAdr × Dev => [(1, .slice (some ad) L.length c), (2, .int .i64 (i : Int)), (3, .pointer (some ⟨F.bw, 0, none⟩)), (4, .int .i64 (j : Int)), (39, .bool false)]) (fun q => imC (some ad) c L :: joinC cin :: b18F F n s X V q.1 q.2.1 U q.2.2) (fun q => G18 n j s U q.2.2) ?_ ?_
     · refine (Nat.lt_or_ge (j % 5) 4).elim (fun hke => ?_) (fun hke => ?_)
       · refine Zr (ZA ?_)
         refine Zy (y_rem (Zv rfl) (Zv rfl) (by omega) (show _ = ((j % 5 : Nat) : Int) from by rw [Int.tmod_eq_emod_of_nonneg (by omega)]; omega)) ?_
         refine Zy (y_eql (Zv rfl) (Zv rfl) (beq_eq_false_iff_ne.2 (show ((j % 5 : Nat) : Int) ≠ 4 by omega))) ?_
         refine ZA ?_
         iterate 2 refine ZB ?_
         refine Zyy rfl rfl (y_rem (ev_g rfl) (Zv rfl) (by omega) (show _ = ((j % 2 : Nat) : Int) from by rw [Int.tmod_eq_emod_of_nonneg (by omega)]; omega)) ?_
         refine Zyy rfl rfl (y_add (Zv rfl) (ev_g rfl) (show _ = ((1 + j % 2 : Nat) : Int) from by rw [IntWalk.i64_in _ ⟨by omega, by omega⟩]; omega)) ?_
         iterate 2 refine ZB ?_
         refine Zyy rfl rfl (y_conv rfl rfl (ev_g rfl) (IntWalk.u8_in _ ⟨by omega, by omega⟩)) ?_
         refine wl_skip (guard_yes rfl rfl) rfl rfl ?_
         refine wl_skip (guard_yes rfl rfl) rfl rfl ?_
         refine wl_skip (guard_yes rfl rfl) rfl rfl ?_
         refine wl_skip (guard_yes rfl rfl) rfl rfl ?_
         refine Zy (y_and (q := false) (Zv rfl) ⟨_, rfl, fun _ e => by simp at e⟩) ?_
         refine Zn ?_
         refine q_midP ((⟨Y, Z, d⟩ : DAdr × DAdr × Dev)) ?_ ?_ ?_
         · exact hG
         · exact Zwk
         exact Zj
       refine Zr (ZA ?_)
       refine Zy (y_rem (Zv rfl) (Zv rfl) (by omega) (show _ = ((j % 5 : Nat) : Int) from by rw [Int.tmod_eq_emod_of_nonneg (by omega)]; omega)) ?_
       refine Zy (y_eql (Zv rfl) (Zv rfl) (beq_iff_eq.2 (show ((j % 5 : Nat) : Int) = 4 by omega))) ?_
       refine ZA ?_
       iterate 2 refine ZB ?_
       refine Zyy rfl rfl (y_rem (ev_g rfl) (Zv rfl) (by omega) (show _ = ((j % 2 : Nat) : Int) from by rw [Int.tmod_eq_emod_of_nonneg (by omega)]; omega)) ?_
       refine Zyy rfl rfl (y_add (Zv rfl) (ev_g rfl) (show _ = ((1 + j % 2 : Nat) : Int) from by rw [IntWalk.i64_in _ ⟨by omega, by omega⟩]; omega)) ?_
       iterate 2 refine ZB ?_
       refine Zyy rfl rfl (y_conv rfl rfl (ev_g rfl) (IntWalk.u8_in _ ⟨by omega, by omega⟩)) ?_
       refine wl_tg (guard_yes rfl rfl) rfl (t_buildSl1 rfl rfl (fun _ => rfl) (fun _ => rfl) rfl rfl) rfl ?_
       rintro _ _ ⟨b35, rfl, rfl⟩
       refine ZB ?_
       refine wl_tg (guard_yes rfl rfl) rfl (t_callS (evF F s s X V Y Z d) rfl (fun _ _ => rfl) Zi (fun w hi hin => event_ok F s s X V Y Z d hG.i.i64 ((1 + j % 2 : Nat) : Int) (j : Int) (some ⟨b35, 0, none⟩) 1 [(j : Int)] w hin (fun w' hk => hi.rdKs Zi (show Has _ (sl .u8 5 (some ⟨b35, 0, none⟩) 1 1 [(j : Int)]) from Zh) hk))) rfl ?_
       rintro _ _ ⟨_, ⟨Y2, Z2, rfl, rfl⟩, rfl⟩
       refine ZB ?_
       refine ZA ?_
       refine Zn ?_
       refine q_midP ((⟨Y2, Z2, evTo ((1 + j % 2 : Nat) : Int) (j : Int) [(j : Int)] d⟩ : DAdr × DAdr × Dev)) ?_ ?_ ?_
       · exact hG.event _ _ hbj
       · exact Zwk
       exact Zj
     clear hG
     rintro ⟨Y, Z, d⟩ hG
     dsimp only at hG ⊢
     obtain ⟨hd16, hr16, -⟩ := St.fits hG.g.right
     have ho := hG.o
     have HB := fun w hi h ht => block_ok F.bu F.bb F.L F.D Y s X.Ad X.Ar X.cd X.cr U d (hF ▸ hG.g) (by omega) w hi h ht
     have HRB := fun w hi h => refblock_ok F.K F.bx n F.by_ F.bd Z s V.Ad V.Ar V.cd V.cr U d hG.g hG.m (by omega) w hi h
     have hG2 := hG.block (fun root va kind super => hG.m.walk root va kind super)
     rw [hF] at HB
     obtain ⟨⟨s2, U2, d2⟩, hq⟩ : ∃ q, blockTo n s U d = q := ⟨_, rfl⟩
     rw [hq] at HB HRB hG2
     dsimp only at hG2
     have ho2 := hG2.o
     have HA := fun X V Y Z w hi => alike18_ok F n hF s2 hG2.g.right X V Y Z U2 d2 hG2.g.u (by omega) hG2.g.dv (by omega) w hi
     refine wc_cond_f rfl (rfl) ?_
     refine Zc (Zt ?_)
     refine wc_seq_mid (fun q : SAdr × DAdr => [(1, .slice (some ad) L.length c), (2, .int .i64 (i : Int)), (3, .pointer (some ⟨F.bw, 0, none⟩)), (4, .int .i64 (j : Int))]) (fun q => imC (some ad) c L :: joinC cin :: w18X F s2 q.1 :: g18X F s V :: slD s2 q.1.Ad q.1.cd :: slR s2 q.1.Ar q.1.cr :: slD s V.Ad V.cd :: slR s V.Ar V.cr :: (ubF F.bu F.bb F.L F.D q.2 U2 d2 ++ rgF F.K F.bx n F.by_ F.bd Z U d)) (fun _ => True) ?_ ?_
     · refine wc_draw ⟨fun j => List.elem j [13, 16], []⟩ Zk ?_
       refine ZE 0 ?_
       refine ZE 1 ?_
       refine ZE 2 ?_
       refine ZFe 3 3 ?_
       refine wa_ln 4 rfl Zk Zk Zk Zk (y_loadN (vs := s.cells (.slice X.Ad s.d.length X.cd) (.slice X.Ar s.r.length X.cr)) (fun _ => rfl) (fun _ => rfl) (Zv rfl)) (row_cells Zh rfl) rfl ?_
       refine ZE 5 ?_
       refine ZE 6 ?_
       refine ZFe 7 0 ?_
       refine ZG 8 ?_
       refine ZE 9 ?_
       refine ZE 10 ?_
       refine ZFe 11 1 ?_
       refine ZG 12 ?_
       refine wa_1 13 Zk ?_
       refine wi_t rfl rfl (t_callS (ubF F.bu F.bb F.L F.D Y U d) rfl (fun _ _ => rfl) Zi (fun w hi hin => HB w hin (fun w' hk => hi.rdStKs Zi (show Has _ (slD s X.Ad X.cd) from Zh) (show Has _ (slR s X.Ar X.cr) from Zh) (by omega) (by omega) hk) (fun w' hk => RdV.oldKs ht hi Zi hk))) (fun _ _ _ _ _ _ _ h => by cases h) rfl ?_
       rintro _ _ ⟨_, ⟨X2, Y2, rfl, rfl⟩, rfl⟩
       refine ZE 14 ?_
       refine ZFe 15 3 ?_
       refine wa_1 16 Zk ?_
       refine wi_t0 rfl rfl (t_storeRX (ys := w18L F s2 X2) (n := 16) (vs := s2.cells (.slice X2.Ad s2.d.length X2.cd) (.slice X2.Ar s2.r.length X2.cr)) rfl (fun _ => rfl) rfl rfl (allT rfl) Za rfl (Nat.le_of_ble_eq_true rfl)) (fun _ _ _ _ _ _ _ h => by cases h) ?_
       rintro _ _ ⟨rfl, rfl⟩
       refine wa_done Zk ?_
       refine q_midP ((⟨X2, Y2⟩ : SAdr × DAdr)) ?_ ?_ ?_
       · trivial
       · exact Zwk
       exact Zj
     rintro ⟨X2, Y2⟩ -
     dsimp only
     refine wc_seq_mid (fun q : SAdr × DAdr => [(1, .slice (some ad) L.length c), (2, .int .i64 (i : Int)), (3, .pointer (some ⟨F.bw, 0, none⟩)), (4, .int .i64 (j : Int))]) (fun q => imC (some ad) c L :: joinC cin :: b18F F n s2 X2 q.1 Y2 q.2 U2 d2) (fun _ => True) ?_ ?_
     · refine wc_draw ⟨fun j => List.elem j [25, 28], rowL F.bw (w18L F s2 X2)⟩ Zk ?_
       refine ZE 0 ?_
       refine ZE 1 ?_
       refine ZFe 2 19 ?_
       refine wa_lkn 3 rfl Zk Zk Zk (y_load (fun _ => rfl) (Zv rfl)) (by first | exact rowL_mem rfl | exact List.mem_append_left _ (rowL_mem rfl) | exact List.mem_append_right _ (rowL_mem rfl)) (rowL_cells (t := 41) Zh) rfl ?_
       refine ZE 4 ?_
       refine ZE 5 ?_
       refine ZFe 6 19 ?_
       refine ZE 11 ?_
       refine ZE 12 ?_
       refine ZFe 13 19 ?_
       refine ZE 18 ?_
       refine ZE 19 ?_
       refine ZFe 20 19 ?_
       refine wa_3 7 14 21 Zk ?_ ?_ ?_
       · refine wi_yn rfl (y_load (fun _ => rfl) (Zv rfl)) (row_cell Zh rfl) rfl ?_
         refine ZE 8 ?_
         refine ZFe 9 0 ?_
         refine wa_ln 10 rfl Zk Zk Zk Zk (y_loadN (vs := s.cells (.slice V.Ad s.d.length V.cd) (.slice V.Ar s.r.length V.cr)) (fun _ => rfl) (fun _ => rfl) (Zv rfl)) (row_cells Zh rfl) rfl ?_
         refine wa_2 14 21 Zk ?_ ?_
         · refine wi_yn rfl (y_load (fun _ => rfl) (Zv rfl)) (row_cell Zh rfl) rfl ?_
           refine ZE 15 ?_
           refine ZFe 16 16 ?_
           refine ZG 17 ?_
           refine wa_1 21 Zk ?_
           refine wi_yn rfl (y_load (fun _ => rfl) (Zv rfl)) (row_cell Zh rfl) rfl ?_
           refine ZE 22 ?_
           refine ZFe 23 17 ?_
           refine ZG 24 ?_
           refine wa_1 25 Zk ?_
           refine wi_t rfl rfl (t_callS (rgF F.K F.bx n F.by_ F.bd Z U d) rfl (fun _ _ => rfl) Zi (fun w hi hin => HRB w hin (fun w' hk => hi.rdStKs Zi (show Has _ (slD s V.Ad V.cd) from Zh) (show Has _ (slR s V.Ar V.cr) from Zh) (by omega) (by omega) hk))) (fun _ => by rintro _ _ ⟨_, ⟨V2, Z2, rfl, rfl⟩, rfl⟩; exact rowL_cells (t := 41) Zh) rfl ?_
           rintro _ _ ⟨_, ⟨V2, Z2, rfl, rfl⟩, rfl⟩
           refine ZE 26 ?_
           refine ZFe 27 0 ?_
           refine wa_1 28 Zk ?_
           refine wi_t0 rfl rfl (t_storeRX (ys := g18L F s2 V2) (n := 16) (vs := s2.cells (.slice V2.Ad s2.d.length V2.cd) (.slice V2.Ar s2.r.length V2.cr)) rfl (fun _ => rfl) rfl rfl (allT rfl) Za rfl (Nat.le_of_ble_eq_true rfl)) (fun _ => by rintro _ _ ⟨rfl, rfl⟩; exact rowL_cells (t := 41) Zh) ?_
           rintro _ _ ⟨rfl, rfl⟩
           refine wa_done Zk ?_
           refine q_midP ((⟨V2, Z2⟩ : SAdr × DAdr)) ?_ ?_ ?_
           · trivial
           · exact Zwk
           exact Zj
         refine wi_yn rfl (y_load (fun _ => rfl) (Zv rfl)) (row_cell Zh rfl) rfl ?_
         refine ZE 22 ?_
         refine ZFe 23 17 ?_
         refine ZG 24 ?_
         refine wa_1 14 Zk ?_
         refine wi_yn rfl (y_load (fun _ => rfl) (Zv rfl)) (row_cell Zh rfl) rfl ?_
         refine ZE 15 ?_
         refine ZFe 16 16 ?_
         refine ZG 17 ?_
         refine wa_1 25 Zk ?_
         refine wi_t rfl rfl (t_callS (rgF F.K F.bx n F.by_ F.bd Z U d) rfl (fun _ _ => rfl) Zi (fun w hi hin => HRB w hin (fun w' hk => hi.rdStKs Zi (show Has _ (slD s V.Ad V.cd) from Zh) (show Has _ (slR s V.Ar V.cr) from Zh) (by omega) (by omega) hk))) (fun _ => by rintro _ _ ⟨_, ⟨V2, Z2, rfl, rfl⟩, rfl⟩; exact rowL_cells (t := 41) Zh) rfl ?_
         rintro _ _ ⟨_, ⟨V2, Z2, rfl, rfl⟩, rfl⟩
         refine ZE 26 ?_
         refine ZFe 27 0 ?_
         refine wa_1 28 Zk ?_
         refine wi_t0 rfl rfl (t_storeRX (ys := g18L F s2 V2) (n := 16) (vs := s2.cells (.slice V2.Ad s2.d.length V2.cd) (.slice V2.Ar s2.r.length V2.cr)) rfl (fun _ => rfl) rfl rfl (allT rfl) Za rfl (Nat.le_of_ble_eq_true rfl)) (fun _ => by rintro _ _ ⟨rfl, rfl⟩; exact rowL_cells (t := 41) Zh) ?_
         rintro _ _ ⟨rfl, rfl⟩
         refine wa_done Zk ?_
         refine q_midP ((⟨V2, Z2⟩ : SAdr × DAdr)) ?_ ?_ ?_
         · trivial
         · exact Zwk
         exact Zj
       · refine wi_yn rfl (y_load (fun _ => rfl) (Zv rfl)) (row_cell Zh rfl) rfl ?_
         refine ZE 15 ?_
         refine ZFe 16 16 ?_
         refine ZG 17 ?_
         refine wa_2 7 21 Zk ?_ ?_
         · refine wi_yn rfl (y_load (fun _ => rfl) (Zv rfl)) (row_cell Zh rfl) rfl ?_
           refine ZE 8 ?_
           refine ZFe 9 0 ?_
           refine wa_ln 10 rfl Zk Zk Zk Zk (y_loadN (vs := s.cells (.slice V.Ad s.d.length V.cd) (.slice V.Ar s.r.length V.cr)) (fun _ => rfl) (fun _ => rfl) (Zv rfl)) (row_cells Zh rfl) rfl ?_
           refine wa_1 21 Zk ?_
           refine wi_yn rfl (y_load (fun _ => rfl) (Zv rfl)) (row_cell Zh rfl) rfl ?_
           refine ZE 22 ?_
           refine ZFe 23 17 ?_
           refine ZG 24 ?_
           refine wa_1 25 Zk ?_
           refine wi_t rfl rfl (t_callS (rgF F.K F.bx n F.by_ F.bd Z U d) rfl (fun _ _ => rfl) Zi (fun w hi hin => HRB w hin (fun w' hk => hi.rdStKs Zi (show Has _ (slD s V.Ad V.cd) from Zh) (show Has _ (slR s V.Ar V.cr) from Zh) (by omega) (by omega) hk))) (fun _ => by rintro _ _ ⟨_, ⟨V2, Z2, rfl, rfl⟩, rfl⟩; exact rowL_cells (t := 41) Zh) rfl ?_
           rintro _ _ ⟨_, ⟨V2, Z2, rfl, rfl⟩, rfl⟩
           refine ZE 26 ?_
           refine ZFe 27 0 ?_
           refine wa_1 28 Zk ?_
           refine wi_t0 rfl rfl (t_storeRX (ys := g18L F s2 V2) (n := 16) (vs := s2.cells (.slice V2.Ad s2.d.length V2.cd) (.slice V2.Ar s2.r.length V2.cr)) rfl (fun _ => rfl) rfl rfl (allT rfl) Za rfl (Nat.le_of_ble_eq_true rfl)) (fun _ => by rintro _ _ ⟨rfl, rfl⟩; exact rowL_cells (t := 41) Zh) ?_
           rintro _ _ ⟨rfl, rfl⟩
           refine wa_done Zk ?_
           refine q_midP ((⟨V2, Z2⟩ : SAdr × DAdr)) ?_ ?_ ?_
           · trivial
           · exact Zwk
           exact Zj
         refine wi_yn rfl (y_load (fun _ => rfl) (Zv rfl)) (row_cell Zh rfl) rfl ?_
         refine ZE 22 ?_
         refine ZFe 23 17 ?_
         refine ZG 24 ?_
         refine wa_1 7 Zk ?_
         refine wi_yn rfl (y_load (fun _ => rfl) (Zv rfl)) (row_cell Zh rfl) rfl ?_
         refine ZE 8 ?_
         refine ZFe 9 0 ?_
         refine wa_ln 10 rfl Zk Zk Zk Zk (y_loadN (vs := s.cells (.slice V.Ad s.d.length V.cd) (.slice V.Ar s.r.length V.cr)) (fun _ => rfl) (fun _ => rfl) (Zv rfl)) (row_cells Zh rfl) rfl ?_
         refine wa_1 25 Zk ?_
         refine wi_t rfl rfl (t_callS (rgF F.K F.bx n F.by_ F.bd Z U d) rfl (fun _ _ => rfl) Zi (fun w hi hin => HRB w hin (fun w' hk => hi.rdStKs Zi (show Has _ (slD s V.Ad V.cd) from Zh) (show Has _ (slR s V.Ar V.cr) from Zh) (by omega) (by omega) hk))) (fun _ => by rintro _ _ ⟨_, ⟨V2, Z2, rfl, rfl⟩, rfl⟩; exact rowL_cells (t := 41) Zh) rfl ?_
         rintro _ _ ⟨_, ⟨V2, Z2, rfl, rfl⟩, rfl⟩
         refine ZE 26 ?_
         refine ZFe 27 0 ?_
         refine wa_1 28 Zk ?_
         refine wi_t0 rfl rfl (t_storeRX (ys := g18L F s2 V2) (n := 16) (vs := s2.cells (.slice V2.Ad s2.d.length V2.cd) (.slice V2.Ar s2.r.length V2.cr)) rfl (fun _ => rfl) rfl rfl (allT rfl) Za rfl (Nat.le_of_ble_eq_true rfl)) (fun _ => by rintro _ _ ⟨rfl, rfl⟩; exact rowL_cells (t := 41) Zh) ?_
         rintro _ _ ⟨rfl, rfl⟩
         refine wa_done Zk ?_
         refine q_midP ((⟨V2, Z2⟩ : SAdr × DAdr)) ?_ ?_ ?_
         · trivial
         · exact Zwk
         exact Zj
       refine wi_yn rfl (y_load (fun _ => rfl) (Zv rfl)) (row_cell Zh rfl) rfl ?_
       refine ZE 22 ?_
       refine ZFe 23 17 ?_
       refine ZG 24 ?_
       refine wa_2 7 14 Zk ?_ ?_
       · refine wi_yn rfl (y_load (fun _ => rfl) (Zv rfl)) (row_cell Zh rfl) rfl ?_
         refine ZE 8 ?_
         refine ZFe 9 0 ?_
         refine wa_ln 10 rfl Zk Zk Zk Zk (y_loadN (vs := s.cells (.slice V.Ad s.d.length V.cd) (.slice V.Ar s.r.length V.cr)) (fun _ => rfl) (fun _ => rfl) (Zv rfl)) (row_cells Zh rfl) rfl ?_
         refine wa_1 14 Zk ?_
         refine wi_yn rfl (y_load (fun _ => rfl) (Zv rfl)) (row_cell Zh rfl) rfl ?_
         refine ZE 15 ?_
         refine ZFe 16 16 ?_
         refine ZG 17 ?_
         refine wa_1 25 Zk ?_
         refine wi_t rfl rfl (t_callS (rgF F.K F.bx n F.by_ F.bd Z U d) rfl (fun _ _ => rfl) Zi (fun w hi hin => HRB w hin (fun w' hk => hi.rdStKs Zi (show Has _ (slD s V.Ad V.cd) from Zh) (show Has _ (slR s V.Ar V.cr) from Zh) (by omega) (by omega) hk))) (fun _ => by rintro _ _ ⟨_, ⟨V2, Z2, rfl, rfl⟩, rfl⟩; exact rowL_cells (t := 41) Zh) rfl ?_
         rintro _ _ ⟨_, ⟨V2, Z2, rfl, rfl⟩, rfl⟩
         refine ZE 26 ?_
         refine ZFe 27 0 ?_
         refine wa_1 28 Zk ?_
         refine wi_t0 rfl rfl (t_storeRX (ys := g18L F s2 V2) (n := 16) (vs := s2.cells (.slice V2.Ad s2.d.length V2.cd) (.slice V2.Ar s2.r.length V2.cr)) rfl (fun _ => rfl) rfl rfl (allT rfl) Za rfl (Nat.le_of_ble_eq_true rfl)) (fun _ => by rintro _ _ ⟨rfl, rfl⟩; exact rowL_cells (t := 41) Zh) ?_
         rintro _ _ ⟨rfl, rfl⟩
         refine wa_done Zk ?_
         refine q_midP ((⟨V2, Z2⟩ : SAdr × DAdr)) ?_ ?_ ?_
         · trivial
         · exact Zwk
         exact Zj
       refine wi_yn rfl (y_load (fun _ => rfl) (Zv rfl)) (row_cell Zh rfl) rfl ?_
       refine ZE 15 ?_
       refine ZFe 16 16 ?_
       refine ZG 17 ?_
       refine wa_1 7 Zk ?_
       refine wi_yn rfl (y_load (fun _ => rfl) (Zv rfl)) (row_cell Zh rfl) rfl ?_
       refine ZE 8 ?_
       refine ZFe 9 0 ?_
       refine wa_ln 10 rfl Zk Zk Zk Zk (y_loadN (vs := s.cells (.slice V.Ad s.d.length V.cd) (.slice V.Ar s.r.length V.cr)) (fun _ => rfl) (fun _ => rfl) (Zv rfl)) (row_cells Zh rfl) rfl ?_
       refine wa_1 25 Zk ?_
       refine wi_t rfl rfl (t_callS (rgF F.K F.bx n F.by_ F.bd Z U d) rfl (fun _ _ => rfl) Zi (fun w hi hin => HRB w hin (fun w' hk => hi.rdStKs Zi (show Has _ (slD s V.Ad V.cd) from Zh) (show Has _ (slR s V.Ar V.cr) from Zh) (by omega) (by omega) hk))) (fun _ => by rintro _ _ ⟨_, ⟨V2, Z2, rfl, rfl⟩, rfl⟩; exact rowL_cells (t := 41) Zh) rfl ?_
       rintro _ _ ⟨_, ⟨V2, Z2, rfl, rfl⟩, rfl⟩
       refine ZE 26 ?_
       refine ZFe 27 0 ?_
       refine wa_1 28 Zk ?_
       refine wi_t0 rfl rfl (t_storeRX (ys := g18L F s2 V2) (n := 16) (vs := s2.cells (.slice V2.Ad s2.d.length V2.cd) (.slice V2.Ar s2.r.length V2.cr)) rfl (fun _ => rfl) rfl rfl (allT rfl) Za rfl (Nat.le_of_ble_eq_true rfl)) (fun _ => by rintro _ _ ⟨rfl, rfl⟩; exact rowL_cells (t := 41) Zh) ?_
       rintro _ _ ⟨rfl, rfl⟩
       refine wa_done Zk ?_
       refine q_midP ((⟨V2, Z2⟩ : SAdr × DAdr)) ?_ ?_ ?_
       · trivial
       · exact Zwk
       exact Zj
     rintro ⟨V2, Z2⟩ -
     dsimp only
     refine Zs (Zr (ZA ?_))
     refine wl_t (t_callS (b18F F n s2 X2 V2 Y2 Z2 U2 d2) rfl (fun _ _ => rfl) Zi (fun w hi hin => HA X2 V2 Y2 Z2 w hin)) rfl ?_
     rintro _ _ ⟨_, ⟨rfl, rfl⟩, rfl⟩
     refine ZA ?_
     refine Zn (Zt (wc_cond_f rfl (rfl) ?_))
     refine Zc (Zo (Zt (Zr (ZA ?_))))
     refine Zy (y_add (Zv rfl) (Zv rfl) Zl) ?_
     refine ZA ?_
     refine Zn ?_
     refine q_midP ((⟨j + 1, s2, ⟨X2, V2⟩, ⟨Y2, Z2⟩, U2, d2⟩ : Nat × St × (SAdr × SAdr) × (DAdr × DAdr) × Mmu × Dev)) ?_ ?_ ?_
     · exact ⟨⟨hG2, show j + 1 ≤ 30 by omega⟩, show 30 - (j + 1) < 30 - j by omega⟩
     · exact Zwk
     exact Zj
   refine wc_exit ?_
   refine q_then_exit ?_
   refine q_then_exit ?_
   refine q_block_same rfl ?_
   refine Zo (Zt (Zr (ZA ?_)))
   refine Zy (y_add (Zv rfl) (Zv rfl) Zl) ?_
   refine ZA ?_
   refine Zn ?_
   refine q_midP (i + 1) ?_ ?_ ?_
   · exact ⟨show i + 1 ≤ L.length by omega, show L.length - (i + 1) < L.length - i by omega⟩
   · exact Zwk
   exact Zj
 refine wc_exit ?_
 refine q_then_exit ?_
 refine q_then_exit ?_
 refine q_block_same rfl ?_
 refine Zt (Zs (Zr (ZA ?_)))
 refine ZN fun b5 => ?_
 refine ZM ?_
 refine Zn (Zt (Zs (wc_draw ⟨fun j => List.elem j [], []⟩ Zk ?_)))
 refine ZI 0 ?_
 refine ZI 2 ?_
 refine wa_1 1 Zk ?_
 refine ZT (fun w hi => doNil_ok nilS none none 0 0 w (RdSt.nil_ w rfl rfl)) ?_
 rintro _ _ ⟨_, ⟨X1, rfl, rfl⟩, rfl⟩
 refine wa_1 3 Zk ?_
 refine ZT (fun w hi => keepState_ok nilS nilS X1.Ad X1.Ar none none X1.cd X1.cr 0 0 w (hi.rdSt (show Has _ (slD nilS X1.Ad X1.cd) from Zh) (show Has _ (slR nilS X1.Ar X1.cr) from Zh) (by decide) (by decide)) (RdSt.nil_ w rfl rfl)) ?_
 rintro _ _ ⟨_, ⟨rfl, rfl⟩, rfl⟩
 rw [St.rsame_self]
 refine ZE 4 ?_
 refine wa_loadRowg 5 rfl Zk Zk Zk Zk (guard_yes rfl rfl) Zh (fun _ => rfl) (fun _ => rfl) (Zv rfl) rfl ?_
 refine wa_loadRowg 7 rfl Zk Zk Zk Zk (guard_yes rfl rfl) Zh (fun _ => rfl) (fun _ => rfl) (Zv rfl) rfl ?_
 refine wa_1 6 Zk ?_
 refine wi_tg rfl rfl (guard_yes rfl rfl) rfl (t_call rfl (fun _ _ => rfl) (fun w hi => runNil_ok nilS none none 0 0 5 w (RdSt.nil_ w rfl rfl))) (fun _ _ _ _ _ _ _ h => by cases h) rfl ?_
 rintro _ _ ⟨_, ⟨X2, rfl, rfl⟩, rfl⟩
 refine wa_1 8 Zk ?_
 refine wi_tg rfl rfl (guard_yes rfl rfl) rfl (t_call rfl (fun _ _ => rfl) (fun w hi => keepState_ok nilS nilS X2.Ad X2.Ar none none X2.cd X2.cr 0 0 w (hi.rdSt (show Has _ (slD nilS X2.Ad X2.cd) from Zh) (show Has _ (slR nilS X2.Ar X2.cr) from Zh) (by decide) (by decide)) (RdSt.nil_ w rfl rfl))) (fun _ _ _ _ _ _ _ h => by cases h) rfl ?_
 rintro _ _ ⟨_, ⟨rfl, rfl⟩, rfl⟩
 rw [St.rsame_self]
 refine ZE 9 ?_
 refine ZE 10 ?_
 refine wa_1 11 Zk ?_
 refine wi_tg rfl rfl (guard_yes rfl rfl) rfl (t_call rfl (fun _ _ => rfl) (fun w hi => known18_ok w (ht.old hi))) (fun _ _ _ _ _ _ _ h => by cases h) rfl ?_
 rintro _ _ ⟨_, ⟨rfl, rfl⟩, rfl⟩
 refine ZE 12 ?_
 refine ZE 13 ?_
 refine wa_done Zk ?_
 refine Zt (Ze (ret1 (cs' := []) (.inl rfl) Zu rfl rfl ?_))
 exact ⟨rfl, rfl⟩
end Go.Proofs.YthcpmpmbgbibfaaGreatDoor
