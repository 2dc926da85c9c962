/- The document's translations: found, dropped; a place. -/
import Derived.Test.YthcpmpmbgbibfaaGreatDoorSsB
import Derived.Test.YthcpmpmbgbibfaaGreatDoorInkA
set_option linter.unusedSimpArgs false
set_option linter.unusedVariables false
set_option maxRecDepth 100000
namespace Go.Ink
open Go.RowKit
theorem want3 (super : Bool) : bits .or .u32 (IntKind.u32.wrap (wbits 3 super - 1)) 64 = (asked 3 super).1 := by cases super <;> decide
theorem want12 {k : Int} (h : 1 ≤ k ∧ k ≤ 3) (h3 : (k == 3) = false) (super : Bool) : IntKind.u32.wrap (wbits k super - 1) = (asked k super).1 := by
 have h3 : k ≠ 3 := by simpa using h3
 obtain rfl | rfl : k = 1 ∨ k = 2 := by omega
 all_goals (cases super <;> decide)
theorem asked_in {k : Int} (h : 1 ≤ k ∧ k ≤ 3) (super : Bool) : (asked k super).2 = true := by
 obtain rfl | rfl | rfl : k = 1 ∨ k = 2 ∨ k = 3 := by omega
 all_goals rfl
theorem noEntry_in {e : TE} {va : Nat} {a : Int × Bool} (h : a.2 = true) : noEntry e va a = ((((!e.valid || (e.vpn != ((va / 64 : Nat) : Int))) || false) || false) || (bits .and .u32 e.bits a.1 != a.1)) := by
 unfold noEntry
 rw [h]
 simp
theorem cons_set {x : Value} {T : List TE} {i : Nat} (e : TE) (h : i < T.length) : (x :: tlbCells T).take (1 + i * 4) ++ e.cells ++ (x :: tlbCells T).drop (1 + i * 4 + 4) = x :: tlbCells (T.set i e) := by
 rw [Nat.add_comm 1, List.take_succ_cons, show i * 4 + 1 + 4 = (i * 4 + 4) + 1 by omega, List.drop_succ_cons, List.cons_append, List.cons_append, tlbCells_set e h]
theorem cons_vpn {x : Value} {T : List TE} {i : Nat} {e : TE} (h : T[i]? = some e) : (x :: tlbCells T)[1 + i * 4 + 1]? = some (.int .u32 e.vpn) := by
 have h1 := tlbCells_get h
 have h2 : (((tlbCells T).drop (i * 4)).take 4)[1]? = some (.int .u32 e.vpn) := by rw [h1]; rfl
 rw [List.getElem?_take, if_pos (by omega), List.getElem?_drop] at h2
 rw [show 1 + i * 4 + 1 = (i * 4 + 1) + 1 by omega, List.getElem?_cons_succ]
 exact h2
theorem cons_get {x : Value} {T : List TE} {i : Nat} {e : TE} (h : T[i]? = some e) : ((x :: tlbCells T).drop (1 + i * 4)).take 4 = e.cells := by
 rw [Nat.add_comm 1, List.drop_succ_cons]
 exact tlbCells_get h
theorem walkTo_told (n : Nat) (M : Mem) (root va : Nat) (kind : Int) (super : Bool) : (walkTo n M root va kind super).1.2.cause = 0 → (walkTo n M root va kind super).1.2 = Tr.none ∧ (walkTo n M root va kind super).1.1.valid = true ∧ (walkTo n M root va kind super).1.1.vpn = ((va / 64 : Nat) : Int) := by
 unfold walkTo
 cases hf : (fault kind == 0) with
 | true => intro h; cases h
 | false =>
  simp only [cond_false]
  have hf' : fault kind ≠ 0 := by simpa using hf
  cases lookUp n M.data root va with
  | none => exact fun h => absurd h hf'
  | some q =>
   obtain ⟨a, l⟩ := q
   cases hb : (bits .and .u32 l (wbits kind super) != wbits kind super) with
   | true => simp only [hb, cond_true]; exact fun h => absurd h hf'
   | false => simp only [hb, cond_false]; exact fun _ => by refine ⟨?_, ?_, ?_⟩ <;> first | rfl | trivial
theorem turnedTo_told (n : Nat) (U : Mmu) (s : Sp) (va : Nat) (kind : Int) : (turnedTo n U s va kind).1.2.cause = 0 → (turnedTo n U s va kind).1.2 = Tr.none := by
 have h := walkTo_told n U.m s.root va kind s.super
 unfold turnedTo
 refine cond_all (fun q : (Int × Tr) × Mmu => q.1.2.cause = 0 → q.1.2 = Tr.none) (fun _ => rfl) ?_
 refine cond_all (fun q : (Int × Tr) × Mmu => q.1.2.cause = 0 → q.1.2 = Tr.none) (fun _ => rfl) ?_
 exact cond_all (fun q : (Int × Tr) × Mmu => q.1.2.cause = 0 → q.1.2 = Tr.none) (fun e => (h e).1) (fun e => (h e).1)
theorem placeTo_told (n : Nat) (U : Mmu) (s : Sp) (va : Nat) (kind : Int) : (placeTo n U s va kind).1.2.cause = 0 → (placeTo n U s va kind).1.2 = Tr.none := by
 have h := turnedTo_told n U s va kind
 unfold placeTo
 refine cond_all (fun q : (Int × Tr) × Mmu => q.1.2.cause = 0 → q.1.2 = Tr.none) (fun e => by cases e) ?_
 refine cond_all (fun q : (Int × Tr) × Mmu => q.1.2.cause = 0 → q.1.2 = Tr.none) h ?_
 exact cond_all (fun q : (Int × Tr) × Mmu => q.1.2.cause = 0 → q.1.2 = Tr.none) h (fun e => by cases e)
theorem MOk.turnedTo {n : Nat} {U : Mmu} (h : MOk n U.m) (s : Sp) (va : Nat) (kind : Int) (hw : MOk n (walkTo n U.m s.root va kind s.super).2) : MOk n (turnedTo n U s va kind).2.m := by
 unfold Go.Ink.turnedTo
 refine cond_all (fun q : (Int × Tr) × Mmu => MOk n q.2.m) h ?_
 refine cond_all (fun q : (Int × Tr) × Mmu => MOk n q.2.m) h ?_
 exact cond_all (fun q : (Int × Tr) × Mmu => MOk n q.2.m) hw hw
theorem MOk.placeTo {n : Nat} {U : Mmu} (h : MOk n U.m) (s : Sp) (va : Nat) (kind : Int) (hw : MOk n (walkTo n U.m s.root va kind s.super).2) : MOk n (placeTo n U s va kind).2.m := by
 have ht := h.turnedTo s va kind hw
 unfold Go.Ink.placeTo
 refine cond_all (fun q : (Int × Tr) × Mmu => MOk n q.2.m) h ?_
 refine cond_all (fun q : (Int × Tr) × Mmu => MOk n q.2.m) ht ?_
 exact cond_all (fun q : (Int × Tr) × Mmu => MOk n q.2.m) ht ht
theorem place_cond (n p : Nat) (kind : Int) : (decide (p + 1 ≤ n * 64) || (((kind != 1) && decide ((32768 : Int) ≤ (p : Int))) && decide ((p : Int) < 33024))) = (decide ((p : Int) < ((n * 64 : Nat) : Int)) || ((kind != 1) && isDev (p : Int))) := by
 unfold isDev
 rw [Bool.and_assoc, decide_eq_decide.2 (show p + 1 ≤ n * 64 ↔ (p : Int) < ((n * 64 : Nat) : Int) by omega)]
end Go.Ink
namespace Go.Proofs.YthcpmpmbgbibfaaGreatDoor
open Go.RowKit Go.Ink
attribute [local irreducible] OpY GuardIs

theorem reffind_ok (bx bm : Nat) (T : List TE) (hT : T.length = 16) (va : Nat) (hva : va ≤ 4294967295) (kind : Int) (hk : 1 ≤ kind ∧ kind ≤ 3) (super : Bool) (w : World) (h : (refURow bx bm T).ok w) :
  Ctr Tryz.prog 106 [.pointer (some ⟨bx, 0, none⟩), .int .u32 va, .int .i64 kind, .bool super] w [] (fun x cs => x = .tuple #[.int .u32 (tfind T va kind super).1, .bool (tfind T va kind super).2] ∧ cs = []) := by
 have hlt : va / 64 % 16 < T.length := by omega
 have he : T[va / 64 % 16]? = some (teAt T va) := by simp [teAt, hlt]
 obtain ⟨e, hee⟩ : ∃ e, teAt T va = e := ⟨_, rfl⟩
 have h12 := want12 hk (super := super)
 have h33 := want3 super
 have hno := noEntry_in (e := e) (va := va) (asked_in hk super)
 obtain ⟨wb, hwb⟩ : ∃ x, wbits kind super = x := ⟨_, rfl⟩
 have HB := refbits_ok kind super
 unfold tfind
 rw [hee] at he ⊢
 rw [hwb] at HB h12
 have h3k : kind = 3 → wbits 3 super = wb := fun e => by subst e; exact hwb
 have h3a : kind = 3 → (asked 3 super) = asked kind super := fun e => by subst e; rfl
 obtain ⟨⟨a, ab⟩, ha⟩ : ∃ a, asked kind super = a := ⟨_, rfl⟩
 rw [ha] at h12 hno h3a ⊢
 refine fn_ctr Tryz.func106 rfl Tryz.ntmps106 rfl (Inv.start w) ?_
 refine Zs (Zr (ZA ?_))
 refine ZA ?_
 refine Zn (Zt (Zs (Zr (ZA ?_))))
 refine ZA ?_
 refine Zy (y_quo (Zv rfl) (Zv rfl) (by omega) (show _ = ((va / 64 : Nat) : Int) from by rw [Int.tdiv_eq_ediv_of_nonneg (by omega), u32_wrap_id _ (by omega) (by omega)]; omega)) ?_
 refine Zy (y_rem (Zv rfl) (Zv rfl) (by omega) (show _ = ((va / 64 % 16 : Nat) : Int) from by rw [Int.tmod_eq_emod_of_nonneg (by omega)]; omega)) ?_
 refine ZA ?_
 refine ZFa 1 ?_
 refine Zy (y_indexA (j := (va / 64 % 16)) (sz := 4) (r := 1 + (va / 64 % 16) * 4) rfl (fun _ => rfl) (Zv rfl) (Zv rfl) (fun _ => by omega) (fun _ => by omega) (by omega)) ?_
 refine wl_y (y_loadN (vs := e.cells) (fun _ => rfl) (fun _ => rfl) (Zv rfl)) (old_rows (o := 1 + (va / 64 % 16) * 4) h (cons_get he)) rfl ?_
 refine ZN fun b10 => ?_
 refine ZM ?_
 refine Zn (Zt (Zs (Zr (ZA ?_))))
 refine ZA ?_
 refine ZS (fun w hi => HB w) ?_
 rintro _ _ ⟨_, ⟨rfl, rfl⟩, rfl⟩
 refine Zy (y_sub (Zv rfl) (Zv rfl) rfl) ?_
 refine ZA ?_
 refine Zn (Zt ?_)
 refine wc_seq_mid (fun _ : Unit => [(0, .pointer (some ⟨bx, 0, none⟩)), (1, .int .u32 (va : Int)), (2, .int .i64 kind), (10, .pointer (some ⟨b10, 0, none⟩)), (11, .int .u32 a)]) (fun _ => [row b10 e.cells 114]) (fun _ => True) ?_ ?_
 ·refine Zs (Zr (ZA ?_))
  refine ZA ?_
  refine Zn (Zt ?_)
  refine wc_cond _ rfl (fun hc3 => ?_) (fun hc3 => ?_)
  ·have hk3 : kind = 3 := (by simpa using hc3)
   have hh := h33
   rw [h3k hk3, h3a hk3] at hh
   refine Zr (ZA ?_)
   refine Zy (y_or_ (Zv rfl) (Zv rfl) hh) ?_
   refine ZA ?_
   refine Zn ?_
   refine q_midP (()) ?_ ?_ ?_
   ·trivial
   ·exact Zwk
   exact Zj
  have hh := h12 hc3
  dsimp only at hh
  rw [hh]
  refine Zc ?_
  refine q_midP (()) ?_ ?_ ?_
  ·trivial
  ·exact Zwk
  exact Zj
 rintro - -
 refine Zs (Zs (Zr (ZFa 0 ?_)))
 refine ZC ?_
 iterate 2 refine ZA ?_
 refine ZFb 1 ?_
 refine ZD ?_
 refine ZB ?_
 refine Zyn rfl rfl (y_quo (ev_g rfl) (Zv rfl) (by omega) (show _ = ((va / 64 : Nat) : Int) from by rw [Int.tdiv_eq_ediv_of_nonneg (by omega), u32_wrap_id _ (by omega) (by omega)]; omega)) ?_
 refine ZB ?_
 iterate 2 refine ZA ?_
 refine ZB ?_
 refine Zyn rfl rfl (y_lss (ev_g rfl) (Zv rfl) (decide_eq_false (by omega))) ?_
 iterate 2 refine ZA ?_
 refine ZB ?_
 refine Zyn rfl rfl (y_gtr (ev_g rfl) (Zv rfl) (decide_eq_false (by omega))) ?_
 iterate 2 refine ZA ?_
 refine ZFb 3 ?_
 refine ZD ?_
 iterate 4 refine ZB ?_
 refine ZA ?_
 refine Zn (Zt ?_)
 refine wc_cond _ rfl (fun hc5 => ?_) (fun hc5 => ?_)
 ·have hc : noEntry e va (a, ab) = true := hno.trans hc5
  rw [hc]
  simp only [cond_true]
  refine Zs (Zr (ZA ?_))
  refine ZA ?_
  refine Zn (Zt (Ze (Zw (ret2 (cs' := []) (.inl rfl) Zu rfl rfl rfl ?_))))
  exact ⟨rfl, rfl⟩
 have hc : noEntry e va (a, ab) = false := hno.trans hc5
 rw [hc]
 simp only [cond_false]
 refine Zc (Zt (Zs (Zr (ZFa 2 ?_))))
 refine ZC ?_
 refine Zy (y_mul (Zv rfl) (Zv rfl) rfl) ?_
 refine ZA ?_
 refine Zy (y_rem (Zv rfl) (Zv rfl) (by omega) (show _ = ((va % 64 : Nat) : Int) from by rw [Int.tmod_eq_emod_of_nonneg (by omega)]; omega)) ?_
 refine Zy (y_add (Zv rfl) (Zv rfl) rfl) ?_
 iterate 2 refine ZA ?_
 refine Zn (Zt (Ze (ret2 (cs' := []) (.inl rfl) Zu rfl rfl rfl ?_)))
 exact ⟨rfl, rfl⟩
theorem refdrop_ok (bx bm : Nat) (T : List TE) (hT : T.length = 16) (va : Nat) (hva : va ≤ 4294967295) (w : World) (hi : Inv w (blocks [refURow bx bm T]) [refURow bx bm T] w) : Ctr Tryz.prog 172 [.pointer (some ⟨bx, 0, none⟩), .int .u32 va] w [refURow bx bm T] (fun x cs => x = .tuple #[] ∧ cs = [refURow bx bm (tdrop T va)]) := by
 have hlt : va / 64 % 16 < T.length := by omega
 have he : T[va / 64 % 16]? = some (teAt T va) := by simp [teAt, hlt]
 have hcell := cons_vpn (x := .pointer (some ⟨bm, 0, none⟩)) he
 unfold tdrop
 obtain ⟨e, hee⟩ : ∃ e, teAt T va = e := ⟨_, rfl⟩
 rw [hee] at hcell ⊢
 refine fn_ctr Tryz.func172 rfl Tryz.ntmps172 rfl hi ?_
 refine Zs (Zr (ZA ?_))
 refine Zy (y_quo (Zv rfl) (Zv rfl) (by omega) (show _ = ((va / 64 : Nat) : Int) from by rw [Int.tdiv_eq_ediv_of_nonneg (by omega), u32_wrap_id _ (by omega) (by omega)]; omega)) ?_
 refine Zy (y_rem (Zv rfl) (Zv rfl) (by omega) (show _ = ((va / 64 % 16 : Nat) : Int) from by rw [Int.tmod_eq_emod_of_nonneg (by omega)]; omega)) ?_
 refine ZA ?_
 refine Zn (Zt (Zs (Zr (ZA ?_))))
 iterate 2 refine ZA ?_
 refine ZFa 1 ?_
 refine Zy (y_indexA (j := (va / 64 % 16)) (sz := 4) (r := 1 + (va / 64 % 16) * 4) rfl (fun _ => rfl) (Zv rfl) (Zv rfl) (fun _ => by omega) (fun _ => by omega) (by omega)) ?_
 refine Zy (y_fieldA 1 rfl (Zv rfl) (rfl)) ?_
 refine wl_y (y_load (fun _ => rfl) (Zv rfl)) (row_cell Zh hcell) rfl ?_
 refine ZA ?_
 refine Zy (y_quo (Zv rfl) (Zv rfl) (by omega) (show _ = ((va / 64 : Nat) : Int) from by rw [Int.tdiv_eq_ediv_of_nonneg (by omega), u32_wrap_id _ (by omega) (by omega)]; omega)) ?_
 refine ZA ?_
 refine Zn (Zt ?_)
 refine wc_cond _ rfl (fun hc1 => ?_) (fun hc1 => ?_)
 ·rw [hc1]
  simp only [cond_true]
  refine Zr (ZA ?_)
  iterate 3 refine ZA ?_
  refine ZFa 1 ?_
  refine Zy (y_indexA (j := (va / 64 % 16)) (sz := 4) (r := 1 + (va / 64 % 16) * 4) rfl (fun _ => rfl) (Zv rfl) (Zv rfl) (fun _ => by omega) (fun _ => by omega) (by omega)) ?_
  refine wl_t0 (t_storeRN (n := 4) (vs := TE.zero.cells) (fun _ => rfl) rfl rfl (allT rfl) Za rfl (by rw [List.length_cons, tlbCells_len]; simp only [TE.cells, List.length_cons, List.length_nil]; omega)) ?_
  rintro _ _ ⟨rfl, rfl⟩
  rw [show TE.zero.cells.length = 4 from rfl, cons_set (T := T) TE.zero hlt]
  refine Zn (ret0 (cs' := [row _ _ _]) (.inr rfl) Zu rfl ?_)
  exact ⟨rfl, rfl⟩
 rw [hc1]
 simp only [cond_false]
 refine Zc (ret0 (cs' := [row _ _ _]) (.inr rfl) Zu rfl ?_)
 exact ⟨rfl, rfl⟩
theorem refflush_ok (bx bm : Nat) (T : List TE) (hT : T.length = 16) (w : World) (hi : Inv w (blocks [refURow bx bm T]) [refURow bx bm T] w) : Ctr Tryz.prog 171 [.pointer (some ⟨bx, 0, none⟩)] w [refURow bx bm T] (fun x cs => x = .tuple #[] ∧ cs = [refURow bx bm tflush]) := by
 refine fn_ctr Tryz.func171 rfl Tryz.ntmps171 rfl hi ?_
 refine Zr (ZA ?_)
 refine Zy (y_build00 (vs := tlbCells tflush) Zk (.inr ⟨_, _, _, rfl, fun _ => rfl⟩)) ?_
 refine ZA ?_
 refine ZFa 1 ?_
 refine wl_t0 (t_storeRN (n := 64) (fun _ => rfl) rfl rfl (allT Zk) Za Zk (by rw [List.length_cons, tlbCells_len, tlbCells_len, hT]; decide)) ?_
 rintro _ _ ⟨rfl, rfl⟩
 rw [show (tlbCells tflush).length = 64 by kernel_rfl, show (Value.pointer (some ⟨bm, 0, none⟩) :: tlbCells T).take 1 = [Value.pointer (some ⟨bm, 0, none⟩)] from rfl, List.drop_eq_nil_of_le (by rw [List.length_cons, tlbCells_len, hT]; decide), List.append_nil]
 refine Zn (ret0 (cs' := [row _ _ _]) (.inr rfl) Zu rfl ?_)
 exact ⟨rfl, rfl⟩
abbrev ruF (K : RMLoc) (bx n : Nat) (U : Mmu) : List Chunk := refURow bx K.bm U.t :: rmF K n U.m
set_option maxHeartbeats 2000000 in
theorem refplace_ok (K : RMLoc) (bx n : Nat) (U : Mmu) (hM : MOk n U.m) (hT : U.t.length = 16) (pg su : Bool) (root va : Nat) (hr : root ≤ 4294967295) (hva : va ≤ 4294967295) (kind : Int) (w : World) (hi : Inv w (blocks (ruF K bx n U)) (ruF K bx n U) w) :
  Ctr Tryz.prog 63 [.pointer (some ⟨bx, 0, none⟩), .bool pg, .bool su, .int .u32 root, .int .u32 va, .int .i64 kind] w (ruF K bx n U) (fun v cs => v = .tuple #[.int .u32 (placeTo n U ⟨pg, su, root⟩ va kind).1.1, (placeTo n U ⟨pg, su, root⟩ va kind).1.2.v] ∧ cs = ruF K bx n (placeTo n U ⟨pg, su, root⟩ va kind).2) := by
 have hn := hM.n64
 obtain ⟨fk, hfk⟩ : ∃ x, fault kind = x := ⟨_, rfl⟩
 obtain ⟨td, htd⟩ : ∃ x, turnedTo n U ⟨pg, su, root⟩ va kind = x := ⟨_, rfl⟩
 obtain ⟨fd, hfd⟩ : ∃ x, tfind U.t va kind su = x := ⟨_, rfl⟩
 obtain ⟨wd, hwd⟩ : ∃ x, walkTo n U.m root va kind su = x := ⟨_, rfl⟩
 have hwf := walkTo_wf n U.m root va hva kind su
 have hwt := walkTo_told n U.m root va kind su
 have hwm := hM.walk root va kind su
 have htu := (turnedTo_fact n U ⟨pg, su, root⟩ va hva kind).1
 have HFD := fun hk => reffind_ok bx K.bm U.t hT va hva kind hk su
 have HWD := refdo8_ok K n U.m hM root va hr hva kind su
 have htd2 : td = bif !pg then (((va : Int), Tr.none), U) else bif fd.2 then ((fd.1, Tr.none), U) else bif wd.1.2.cause != 0 then ((0, wd.1.2), ⟨wd.2, U.t⟩) else ((physOf wd.1.1.pfn va, wd.1.2), ⟨wd.2, tfill U.t wd.1.1⟩) := by rw [← htd, ← hfd, ← hwd]; rfl
 rw [hfd] at HFD
 rw [hwd] at HWD hwf hwt hwm
 rw [htd] at htu
 unfold placeTo
 rw [htd]
 obtain ⟨⟨te, tr⟩, M'⟩ := wd
 obtain ⟨fp, fb⟩ := fd
 simp only at HWD hwf hwt hwm htd2 HFD
 refine fn_ctr Tryz.func63 rfl Tryz.ntmps63 rfl hi ?_
 refine Zs (Zr (ZA ?_))
 refine ZN fun b13 => ?_
 refine Zn (Zt (Zs (Zr (ZA ?_))))
 refine ZA ?_
 refine ZN fun b14 => ?_
 refine ZM ?_
 refine Zn (Zt (Zs (Zs (Zr (ZA ?_)))))
 iterate 2 refine ZA ?_
 iterate 2 refine ZB ?_
 refine ZA ?_
 refine Zn (Zt ?_)
 refine wc_cond _ rfl (fun hc2 => ?_) (fun hc2 => ?_)
 ·simp only [Bool.or_eq_true, decide_eq_true_eq] at hc2
  rw [fault_out (by omega)]
  simp only [beq_self_eq_true, cond_true]
  refine Zs (wc_draw ⟨fun j => List.elem j [2], []⟩ Zk ?_)
  refine ZI 0 ?_
  refine ZE 1 ?_
  refine wa_1 2 Zk ?_
  refine ZR ?_
  refine wa_done Zk ?_
  refine Zt (Ze (Zw (retTC (cs' := [row _ _ _, row _ _ _, slv _ _ _ _ _ _, slv _ _ _ _ _ _]) (.inl rfl) Zu rfl rfl rfl Zh (fun _ => rfl) (fun _ => rfl) ?_)))
  exact ⟨rfl, rfl⟩
 simp only [Bool.or_eq_false_iff, decide_eq_false_iff_not] at hc2
 have hk : 1 ≤ kind ∧ kind ≤ 3 := (by omega)
 rw [show (fault kind == 0) = false by (rw [fault_in hk]; simp; omega)]
 simp only [cond_false]
 refine Zc (Zt (Zs (Zr (ZA ?_))))
 refine ZA ?_
 refine Zn (Zt ?_)
 refine wc_seq_mid (fun q : Nat × Mmu => [(0, .pointer (some ⟨bx, 0, none⟩)), (5, .int .i64 kind), (13, .pointer (some ⟨b13, 0, none⟩)), (14, .pointer (some ⟨b14, 0, none⟩)), (15, .int .u32 (q.1 : Int))]) (fun q => ruF K bx n q.2 ++ [row b13 Tr.none.cells 131, row b14 [.int .i64 10, .int .u32 (va : Int)] 131]) (fun q => td = (((q.1 : Int), Tr.none), q.2) ∧ q.1 ≤ 4294967295) ?_ ?_
 ·refine Zs (Zr (ZA ?_))
  refine Zn (Zt ?_)
  refine wc_cond _ rfl (fun hc5 => ?_) (fun hc5 => ?_)
  ·subst hc5
   simp only [Bool.not_true, cond_false] at htd2
   refine Zs (Zr (ZA ?_))
   iterate 3 refine ZA ?_
   refine ZS (fun w hi => HFD hk w (hi.get Zh)) ?_
   rintro _ _ ⟨_, ⟨rfl, rfl⟩, rfl⟩
   iterate 5 refine ZA ?_
   refine Zn (Zt (Zs (Zs (Zr (ZA ?_)))))
   refine ZA ?_
   refine Zn (Zt ?_)
   refine wc_cond _ rfl (fun hc7 => ?_) (fun hc7 => ?_)
   ·have hb : fb = false := (by simpa using hc7)
    subst hb
    simp only [cond_false] at htd2
    refine Zs (Zr (ZA ?_))
    refine ZA ?_
    refine ZFa 0 ?_
    refine ZC ?_
    iterate 4 refine ZA ?_
    refine wl_t (t_callS (rmF K n U.m) rfl (fun _ _ => rfl) Zi (fun w hi hin => HWD w hin)) rfl ?_
    rintro _ _ ⟨_, ⟨rfl, rfl⟩, rfl⟩
    iterate 3 refine ZA ?_
    refine ZN fun b18 => ?_
    refine ZN fun b19 => ?_
    refine wl_t0 (t_storeN (vs := te.cells) (fun _ => rfl) rfl rfl (allT rfl) Za (by exact rfl)) ?_
    rintro _ _ ⟨rfl, rfl⟩
    refine wl_t0 (t_storeN (vs := tr.cells) (fun _ => rfl) rfl rfl (allT rfl) Za (by exact rfl)) ?_
    rintro _ _ ⟨rfl, rfl⟩
    refine Zn (Zt (Zs (Zs (Zr (ZFa 0 ?_)))))
    refine ZC ?_
    refine ZA ?_
    refine Zn (Zt ?_)
    refine wc_cond _ rfl (fun hc9 => ?_) (fun hc9 => ?_)
    ·rw [hc9] at htd2
     simp only [cond_true] at htd2
     rw [htd2]
     simp only [hc9, cond_true]
     refine Zs (wc_draw ⟨fun j => List.elem j [2], []⟩ Zk ?_)
     refine ZI 0 ?_
     refine ZE 1 ?_
     refine wa_1 2 Zk ?_
     refine ZR ?_
     refine wa_done Zk ?_
     refine Zt (Ze (Zw (Zw (Zw (qok_pick (ruF K bx n ⟨M', U.t⟩ ++ [row b13 tr.cells 131]) Zj ?_)))))
     refine retTC (cs' := [row _ _ _, row _ _ _, slv _ _ _ _ _ _, slv _ _ _ _ _ _]) (.inl rfl) Zu rfl rfl rfl Zh (fun _ => rfl) (fun _ => rfl) ?_
     exact ⟨rfl, rfl⟩
    rw [hc9] at htd2
    simp only [cond_false] at htd2
    obtain ⟨e1, e2, e3⟩ := hwt (by simpa using hc9)
    rw [e1] at htd2
    have hlt : va / 64 % 16 < U.t.length := (by omega)
    have hfl : tfill U.t te = U.t.set (va / 64 % 16) te := (by unfold tfill; rw [e2, e3]; rfl)
    rw [hfl] at htd2
    rw [htd2] at htu
    obtain ⟨pp, hpp⟩ : ∃ m : Nat, physOf te.pfn va = m := Int.eq_ofNat_of_zero_le htu.1
    rw [hpp] at htd2 htu
    dsimp only at htu
    refine Zc (Zt (Zs (wc_draw ⟨fun j => List.elem j [8], []⟩ Zk ?_)))
    refine ZE 0 ?_
    refine ZFe 1 1 ?_
    refine ZG 2 ?_
    have e3' : te.vpn = ((va / 64 : Nat) : Int) := e3
    refine wa_yn 3 rfl Zk Zk Zk (y_rem (Zv rfl) (Zv rfl) (by omega) (show _ = ((va / 64 % 16 : Nat) : Int) from by rw [e3', Int.tmod_eq_emod_of_nonneg (by omega)]; omega)) rfl ?_
    refine ZI 4 ?_
    refine ZE 5 ?_
    refine ZFe 6 1 ?_
    refine wa_yn 7 rfl Zk Zk Zk (y_indexA (j := (va / 64 % 16)) (sz := 4) (r := 1 + (va / 64 % 16) * 4) rfl (fun _ => rfl) (Zv rfl) (Zv rfl) (fun _ => by omega) (fun _ => by omega) (by omega)) rfl ?_
    refine wa_1 8 Zk ?_
    refine wi_t0 rfl rfl (t_storeRN (n := 4) (vs := te.cells) (fun _ => rfl) rfl rfl (allT rfl) Za rfl (by rw [List.length_cons, tlbCells_len]; simp only [TE.cells, List.length_cons, List.length_nil]; omega)) (fun _ _ _ _ _ _ _ h => by cases h) ?_
    rintro _ _ ⟨rfl, rfl⟩
    rw [show te.cells.length = 4 from rfl, cons_set (T := U.t) te hlt]
    refine wa_done Zk ?_
    refine Zt (Zr (ZFa 2 ?_))
    refine ZC ?_
    refine Zy (y_mul (Zv rfl) (Zv rfl) rfl) ?_
    refine ZA ?_
    refine Zy (y_rem (Zv rfl) (Zv rfl) (by omega) (show _ = ((va % 64 : Nat) : Int) from by rw [Int.tmod_eq_emod_of_nonneg (by omega)]; omega)) ?_
    refine Zy (y_add (Zv rfl) (Zv rfl) (show _ = (pp : Int) from hpp)) ?_
    refine ZA ?_
    refine Zn (Zt (Zr (ZA ?_)))
    refine ZA ?_
    refine Zn ?_
    refine q_midP ((pp, ⟨M', U.t.set (va / 64 % 16) te⟩)) ?_ ?_ ?_
    ·exact ⟨htd2, by have := htu.2; omega⟩
    ·exact Zwk
    exact Zj
   have hb : fb = true := (by simpa using hc7)
   subst hb
   simp only [cond_true] at htd2
   rw [htd2] at htu
   obtain ⟨fp, rfl⟩ : ∃ m : Nat, fp = m := Int.eq_ofNat_of_zero_le htu.1
   refine Zc (Zt (Zr (ZA ?_)))
   refine ZA ?_
   refine Zn ?_
   refine q_midP ((fp, U)) ?_ ?_ ?_
   ·exact ⟨htd2, by have : (fp : Int) ≤ _ := htu.2; omega⟩
   ·exact Zwk
   exact Zj
  subst hc5
  simp only [Bool.not_false, cond_true] at htd2
  refine Zc ?_
  refine q_midP ((va, U)) ?_ ?_ ?_
  ·exact ⟨htd2, hva⟩
  ·exact Zwk
  exact Zj
 rintro ⟨p, U'⟩ ⟨hq, hp⟩
 dsimp only at hq hp ⊢
 rw [hq]
 have hcz : (Tr.none.cause != 0) = false := rfl
 simp only [hcz, cond_false]
 have hpc := place_cond n p kind
 refine Zs (Zs (Zr (ZA ?_)))
 refine ZA ?_
 refine ZFa 0 ?_
 refine ZC ?_
 refine ZA ?_
 refine Zy (y_conv rfl rfl (Zv rfl) (u64_wrap_id _ (by omega) (by omega))) ?_
 refine ZS (fun w hi => refhas_ok K n hn p 1 (by omega) (by decide) w (hi.get Zh)) ?_
 rintro _ _ ⟨_, ⟨rfl, rfl⟩, rfl⟩
 refine ZA ?_
 iterate 10 refine ZB ?_
 refine ZA ?_
 refine Zn (Zt ?_)
 refine wc_cond _ rfl (fun hc14 => ?_) (fun hc14 => ?_)
 ·rw [hpc.symm.trans hc14]
  simp only [cond_true]
  refine Zs (Zr (ZA ?_))
  iterate 2 refine ZA ?_
  refine ZM ?_
  refine Zn (Zt (Ze (Zw (retTC (cs' := [row _ _ _, row _ _ _, slv _ _ _ _ _ _, slv _ _ _ _ _ _]) (.inl rfl) Zu rfl rfl rfl Zh (fun _ => rfl) (fun _ => rfl) ?_))))
  exact ⟨rfl, rfl⟩
 rw [hpc.symm.trans hc14]
 simp only [cond_false]
 refine Zc (Zt (Zs (wc_draw ⟨fun j => List.elem j [2], []⟩ Zk ?_)))
 refine ZI 0 ?_
 refine ZE 1 ?_
 refine wa_1 2 Zk ?_
 refine ZR ?_
 refine wa_done Zk ?_
 refine Zt (Ze (retTC (cs' := [row _ _ _, row _ _ _, slv _ _ _ _ _ _, slv _ _ _ _ _ _]) (.inl rfl) Zu rfl rfl rfl Zh (fun _ => rfl) (fun _ => rfl) ?_))
 exact ⟨rfl, rfl⟩
end Go.Proofs.YthcpmpmbgbibfaaGreatDoor
