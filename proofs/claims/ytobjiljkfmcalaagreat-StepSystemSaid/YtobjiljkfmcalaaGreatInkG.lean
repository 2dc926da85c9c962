/- More operations: a string off bytes, strings compared, a store into a slice of the call's own, make. Nothing of the program. -/
import Derived.Test.YtobjiljkfmcalaaGreatInkE
import Derived.Laws.BytesArg
import Derived.Laws.OwnMore
import Derived.Laws.Strings
set_option linter.unusedSimpArgs false
set_option linter.unusedVariables false
namespace Go.Ink
open Go.RowKit

section
variable {C : Cx} {Q : Post} {fr : Fr} {cs : List Chunk} {ops : Array Oper} {d : Nat} {op : Op} {ty T : TypeId} {pos : String} {af : Array Edge} {gd : Option (Nat × Bool)} {V : World → Prop} {v : Value} {g : Bool} {x : Operand}
  {St : Dr} {fuel : Nat} {listed : Array Bool}
/-- What reads cells, taken in its turn. -/
theorem wi_y {i : Nat} (hi : ops[i]? = some ⟨some d, op, ty, pos, af, gd⟩) (hg : GuardIs ops fr ⟨some d, op, ty, pos, af, gd⟩ g) (hy : OpY C ⟨some d, op, ty, pos, af, gd⟩ fr g V v) (hV : ∀ w, Inv C.w0 C.S cs w → V w) (hd : Nat.blt d C.N = true)
    (hn : WA C St ops Q fuel (listed.setIfInBounds i true) ((d, bif g then v else undef) :: fr) cs) : WI C St ops Q fuel listed i fr cs := fun a w hf hi' => by
  unfold wpOp
  rw [hi]
  simp only [hg _ a hf]
  cases g with
  | true =>
    rw [if_pos rfl]
    refine .inl ?_
    unfold Oper.wp
    rw [hy a w hf (hV w hi') rfl]
    exact ⟨⟨fun _ _ _ h => h, fun h => h⟩, hn _ w (hf.put (by simpa [Nat.blt_eq] using hd) _) hi'⟩
  | false =>
    rw [if_neg (by simp)]
    exact ⟨⟨fun _ _ _ h => h, fun h => h⟩, hn _ w (hf.put (by simpa [Nat.blt_eq] using hd) _) hi'⟩
theorem wi_yn {i : Nat} (hi : ops[i]? = some ⟨some d, op, ty, pos, af, none⟩) (hy : OpY C ⟨some d, op, ty, pos, af, none⟩ fr true V v) (hV : ∀ w, Inv C.w0 C.S cs w → V w) (hd : Nat.blt d C.N = true)
    (hn : WA C St ops Q fuel (listed.setIfInBounds i true) ((d, v) :: fr) cs) : WI C St ops Q fuel listed i fr cs := wi_y hi guard_none hy hV hd hn
theorem wi_loadRow {i : Nat} {bb t : Nat} {xs : List Value} (hi : ops[i]? = some ⟨some d, .load T x, ty, pos, af, gd⟩) (hg : GuardIs ops fr ⟨some d, .load T x, ty, pos, af, gd⟩ g)
    (hc : Has cs (row bb xs t)) (hT : ∀ w, (isAgg T).run C.P w = .ok true w) (hs : ∀ w, (sizeOf T).run C.P w = .ok xs.length w) (hx : Ev fr g x (.pointer (some ⟨bb, 0, none⟩))) (hd : Nat.blt d C.N = true)
    (h : WA C St ops Q fuel (listed.setIfInBounds i true) ((d, bif g then .agg xs.toArray else undef) :: fr) cs) : WI C St ops Q fuel listed i fr cs := wi_y hi hg (y_loadN hT hs hx) (hv_row hc) hd h
theorem wi_loadRown {i : Nat} {bb t : Nat} {xs : List Value} (hi : ops[i]? = some ⟨some d, .load T x, ty, pos, af, none⟩)
    (hc : Has cs (row bb xs t)) (hT : ∀ w, (isAgg T).run C.P w = .ok true w) (hs : ∀ w, (sizeOf T).run C.P w = .ok xs.length w) (hx : Ev fr true x (.pointer (some ⟨bb, 0, none⟩))) (hd : Nat.blt d C.N = true)
    (h : WA C St ops Q fuel (listed.setIfInBounds i true) ((d, .agg xs.toArray) :: fr) cs) : WI C St ops Q fuel listed i fr cs := wi_yn hi (y_loadN hT hs hx) (hv_row hc) hd h
theorem wa_4 (i j l m : Nat) (hr : Region.ready .any ops listed = [i, j, l, m]) (h : WI C St ops Q fuel listed i fr cs) (h' : WI C St ops Q fuel listed j fr cs) (h'' : WI C St ops Q fuel listed l fr cs) (h3 : WI C St ops Q fuel listed m fr cs) : WA C St ops Q (fuel + 1) listed fr cs := fun a w hf hi =>
  ⟨fun h0 => (by rw [hr] at h0; cases h0), fun k hk => by
    rw [hr] at hk
    simp only [List.mem_cons, List.not_mem_nil, or_false] at hk
    rcases hk with rfl | rfl | rfl | rfl
    · exact h a w hf hi
    · exact h' a w hf hi
    · exact h'' a w hf hi
    exact h3 a w hf hi⟩
end
section
variable {C : Cx} {Q : Post} {fr : Fr} {cs : List Chunk} {ops : Array Oper} {rest : List Oper} {d : Option Nat} {op : Op} {ty T T' : TypeId} {pos : String} {af : Array Edge} {gd : Option (Nat × Bool)} {v : Value} {g p : Bool} {x y : Operand}
/-- The cells of a slice, nil let in. -/
def cellsO (A : Option Addr) (xs : List Value) : List (Addr × Value) := match A with | none => [] | some ad => cellsFrom ad 0 xs
theorem RdV.cellsO {w : World} {n c : Nat} {A : Option Addr} {xs : List Value} (h : RdV w 1 A n c xs) : cells (Ink.cellsO A xs) w := by
  cases A with
  | none => intro x hx; cases hx
  | some ad =>
    intro x hx
    obtain ⟨j, h1, h2⟩ := mem_cellsFrom hx
    rw [h2, Nat.zero_add]
    exact h.at_ ad rfl j _ h1
theorem y_bstr {A : Option Addr} {n c e : Nat} {xs : List Int} (hS : C.P.underlying T = some (.slice e)) (he : C.P.underlying e = some (.int .u8)) (hD : C.P.underlying T' = some .string) (hx : Ev fr g x (.slice A n c)) (hrd : ∃ w, Rd w .u8 A n c xs) :
    OpY C ⟨d, .convert T T' x, ty, pos, af, gd⟩ fr g (cells (cellsO A (ints .u8 xs))) (.string (strOfNums xs)) := fun a w hf hV hg => by
  obtain ⟨w1, hrd⟩ := hrd
  have hn : xs.length = n := by have := hrd.len; rw [ints_length] at this; omega
  have h0 : A = none → n = 0 := fun e => (hrd.nil e).1
  have hr : (convert T T' (.slice A n c)).run C.P w = .ok (.string (strOfNums xs)) w := by
    cases A with
    | none =>
      have e1 : xs = [] := by have := h0 rfl; subst this; exact List.eq_nil_of_length_eq_zero hn
      subst e1
      exact run_convert_bytes_nil w T e hS he n c T' hD
    | some ad =>
      have hl : (loadCells ad n).run C.P w = .ok (xs.map (Value.int .u8)).toArray w := by
        have := run_loadCells_list (P := C.P) w ad (xs.map (Value.int .u8)) (fun j v hj => by
          have h1 := hV (ad.add (0 + j), v) (cellsFrom_mem (vs := ints .u8 xs) hj)
          rw [Nat.zero_add] at h1
          exact h1)
        simpa [hn] using this
      rw [run_convert_bytes_string w T T' e _ n c hS he hD, run_bytesToString w _ n c xs hl, foldl_push_bytes]
      simp [strOfNums, ByteArray.empty, ByteArray.emptyWithCapacity]
      rfl
  simp [execOp, hx.eval hf hg, hr]
theorem y_eqlS {a b : ByteArray} (hT : C.P.underlying T = some .string) (hx : Ev fr g x (.string a)) (hy : Ev fr g y (.string b)) (hr : (a.data.toList == b.data.toList) = p) : OpY C ⟨d, .binOp .eql T x y T', ty, pos, af, gd⟩ fr g Any (.bool p) := fun A w hf _ hg => by
  subst hr
  rw [← ByteArray.toList_eq a, ← ByteArray.toList_eq b]
  have : (binOp .eql T (.string a) (.string b)).run C.P w = .ok (.bool (a.toList == b.toList)) w := rfl
  simp [execOp, hx.eval hf hg, hy.eval hf hg, this, eqGuard]
theorem y_neqS {a b : ByteArray} (hT : C.P.underlying T = some .string) (hx : Ev fr g x (.string a)) (hy : Ev fr g y (.string b)) (hr : (a.data.toList != b.data.toList) = p) : OpY C ⟨d, .binOp .neq T x y T', ty, pos, af, gd⟩ fr g Any (.bool p) := fun A w hf _ hg => by
  subst hr
  rw [← ByteArray.toList_eq a, ← ByteArray.toList_eq b]
  have : (binOp .neq T (.string a) (.string b)).run C.P w = .ok (.bool (a.toList != b.toList)) w := rfl
  simp [execOp, hx.eval hf hg, hy.eval hf hg, this, eqGuard]
/-- Bytes are told apart by their string. -/
theorem strs_eq : ∀ {xs ys : List Int}, (∀ n, n ∈ xs → 0 ≤ n ∧ n ≤ 255) → (∀ n, n ∈ ys → 0 ≤ n ∧ n ≤ 255) → (strOfNums xs).data.toList = (strOfNums ys).data.toList → xs = ys
  | [], [], _, _, _ => rfl
  | [], _ :: _, _, _, h => by simp [strOfNums_data] at h
  | _ :: _, [], _, _, h => by simp [strOfNums_data] at h
  | x :: xs, y :: ys, hx, hy, h => by
    simp only [strOfNums_data, List.map_cons, List.cons.injEq] at h
    have h1 := hx x (by simp)
    have h2 := hy y (by simp)
    have e := congrArg UInt8.toNat h.1
    simp only [UInt8.toNat_ofNat'] at e
    have := strs_eq (xs := xs) (ys := ys) (fun n hn => hx n (by simp [hn])) (fun n hn => hy n (by simp [hn])) h.2
    rw [this]
    congr 1
    omega
theorem strs_beq {xs ys : List Int} (hx : ∀ n, n ∈ xs → 0 ≤ n ∧ n ≤ 255) (hy : ∀ n, n ∈ ys → 0 ≤ n ∧ n ≤ 255) : ((strOfNums xs).data.toList == (strOfNums ys).data.toList) = (xs == ys) := by
  by_cases h : xs = ys
  · subst h; simp
  have : (strOfNums xs).data.toList ≠ (strOfNums ys).data.toList := fun e => h (strs_eq hx hy e)
  rw [beq_eq_false_iff_ne.2 h, beq_eq_false_iff_ne.2 this]
theorem strs_bne {xs ys : List Int} (hx : ∀ n, n ∈ xs → 0 ≤ n ∧ n ≤ 255) (hy : ∀ n, n ∈ ys → 0 ≤ n ∧ n ≤ 255) : ((strOfNums xs).data.toList != (strOfNums ys).data.toList) = (xs != ys) := by
  simp only [bne, strs_beq hx hy]
theorem y_indexS {s : ByteArray} {j : Nat} {i : Int} {k : IntKind} {r : Int} (hT : C.P.underlying T = some .string) (hx : Ev fr g x (.string s)) (hy : Ev fr g y (.int k i)) (hi : g = true → i = (j : Int)) (hj : g = true → s.data.toList[j]? = some (UInt8.ofNat r.toNat)) (h0 : 0 ≤ r ∧ r ≤ 255) (hrun : ∀ w, g = true → (Instr.index T (.string s) (.int k i)).run C.P w = .ok (.int .u8 r) w) :
    OpY C ⟨d, .index T x y, ty, pos, af, gd⟩ fr g Any (.int .u8 r) := fun A w hf _ hg => by
  simp [execOp, hx.eval hf hg, hy.eval hf hg, hrun w hg]

/-! ### loads of a whole struct under a guard, in a drawn region -/
theorem wa_loadRowg {d : Nat} {bb t : Nat} {xs : List Value} {St : Dr} {fuel : Nat} {listed : Array Bool} (i : Nat) (hi : ops[i]? = some ⟨some d, .load T x, ty, pos, af, gd⟩) (hsel : Region.noSelect ops = true) (hfree : Region.free .any ops listed i = true) (hst : stFree .any ops St.st listed i = true) (hr : (Region.ready .any ops listed).contains i = true)
    (hg : GuardIs ops fr ⟨some d, .load T x, ty, pos, af, gd⟩ g)
    (hc : Has cs (row bb xs t)) (hT : ∀ w, (isAgg T).run C.P w = .ok true w) (hs : ∀ w, (sizeOf T).run C.P w = .ok xs.length w) (hx : Ev fr g x (.pointer (some ⟨bb, 0, none⟩))) (hd : Nat.blt d C.N = true)
    (h : WA C St ops Q fuel (listed.setIfInBounds i true) ((d, bif g then .agg xs.toArray else undef) :: fr) cs) : WA C St ops Q (fuel + 1) listed fr cs := wa_l i hi hsel hfree hst hr hg (y_loadN hT hs hx) (hv_row hc) hd h

/-! ### a store into a slice of the call's own -/
theorem slv_at {w : World} {e n c : Nat} {ad : Addr} {xs : List Value} (h : (slv e 1 (some ad) n c xs).ok w) : ∃ b, ad = ⟨b, 0, none⟩ := by
  rcases h.2 with ⟨h', _⟩ | ⟨g', cap', cur, h', _⟩
  · cases h'
  simp only [Value.slice.injEq, Option.some.injEq] at h'
  exact ⟨g', h'.1⟩
theorem t_storeS {bb o n c e : Nat} {xs : List Value} {mk : Chunk → List Chunk} (hT : ∀ w, (sizeOf T).run C.P w = .ok 1 w) (hx : ev fr x = some (.pointer (some ⟨bb, o, none⟩))) (hy : ev fr y = some v) (h1 : v.oneCell' = true) (hu : At cs (slv e 1 (some ⟨bb, 0, none⟩) n c xs) mk) (ho : o < n) :
    OpT C ⟨d, .store T x y, ty, pos, af, gd⟩ fr cs true (fun u cs' => u = undef ∧ cs' = mk (slv e 1 (some ⟨bb, 0, none⟩) n c (xs.set o v))) := fun a w hf hi next Q h => by
  have hown : w.ownsRow 0 e 1 (.slice (some ⟨bb, 0, none⟩) n c) n xs := hi.get hu.has
  have hlen := hown.1
  have hc : w.cell? ⟨bb, o, none⟩ = some (xs[o]'(by omega)) := by
    rw [hown.cellAt o (by omega)]
    exact List.getElem?_eq_getElem (by omega)
  have hfz : w.frozen? ⟨bb, o, none⟩ = false := hown.frozenAt o
  have hcs : v.cells = #[v] := by cases v <;> first | rfl | cases h1
  have hr : (execOp a.eval ⟨d, .store T x y, ty, pos, af, gd⟩).run C.P w = .ok .skip (w.setCell ⟨bb, o, none⟩ v) := by
    simp [execOp, hf.ev hx, hf.ev hy, Instr.storeAt, Instr.sureAddr, storeVar, hT, hcs, storeCells, Addr.add_lit, run_store _ _ _ v _ h1, hc, hfz, stored]
  unfold Oper.wp
  rw [hr]
  obtain ⟨h2, h3⟩ := hown.stored o v
  have hk := Keep.of_grown (show w.grownBy (w.setCell ⟨bb, o, none⟩ v) (Value.slice (some ⟨bb, 0, none⟩) n c).ownBlock from h3)
  refine h _ _ _ ⟨rfl, rfl⟩ (hi.upd (hu _) hk (inv_own hk h2 fun a ha => ?_)) (fun e => by cases e)
  obtain rfl : (⟨bb, 0, none⟩ : Addr) = a := by simpa using ha
  left; simp [slv, Chunk.bs, ab]
theorem y_indexR {bb o n c j r : Nat} {i : Int} {k : IntKind} {e sz : Nat} (hT : C.P.underlying T = some (.slice e)) (hs : ∀ w, (sizeOf e).run C.P w = .ok sz w) (hx : Ev fr g x (.slice (some ⟨bb, o, none⟩) n c)) (hy : Ev fr g y (.int k i)) (hi : g = true → i = (j : Int)) (hn : g = true → j < n) (hr : o + j * sz = r) :
    OpY C ⟨d, .indexAddr T x y, ty, pos, af, gd⟩ fr g Any (.pointer (some ⟨bb, r, none⟩)) := by
  subst hr
  have h := y_index (C := C) (d := d) (ty := ty) (pos := pos) (af := af) (gd := gd) (T := T) (fr := fr) (g := g) hT hs hx hy hi hn
  rw [Addr.add_lit] at h
  exact h
theorem sl_cellR {w0 : World} {S : List Nat} {e n c j bb : Nat} {xs : List Value} (hc : Has cs (slv e 1 (some ⟨bb, 0, none⟩) n c xs)) (hv : xs[j]? = some v) : ∀ w, Inv w0 S cs w → cells [(⟨bb, j, none⟩, v)] w := fun w hi z hz => by
  rw [List.mem_singleton] at hz
  subst hz
  have := (hi.rd hc).at_ _ rfl j v hv
  rw [Addr.add_lit, Nat.zero_add] at this
  exact this
theorem rd_cellS {w0 : World} {S : List Nat} {n c j : Nat} {ad : Addr} {xs : List Value} (h : RdV w0 1 (some ad) n c xs) (hS : ad.block ∉ S) (hv : xs[j]? = some v) : ∀ w, Inv w0 S cs w → cells [(ad.add (j * 1), v)] w := fun w hi z hz => by
  rw [List.mem_singleton] at hz
  subst hz
  rw [Nat.mul_one]
  exact (h.old hi (fun a e => by rw [← Option.some.inj e]; exact hS)).at_ ad rfl j v hv
/-- A call that turns one chunk and leaves no other. -/
theorem t_call1s {f : FuncId} {l : List Operand} {vs : List Value} {ats : Array TypeId} {c : Chunk} {mk : Chunk → List Chunk} {K : Value → Chunk → Prop} (hl : evs fr l = some vs) (hc : ∀ args w, (callFunc f args).run C.P w = .ok (.enter f args) w)
    (hu : At cs c mk) (h : ∀ w, Inv C.w0 C.S cs w → Ctr C.P f vs w [c] (fun v cout => ∃ c', cout = [c'] ∧ K v c')) :
    OpT C ⟨d, .call { callee := .value (.func f), args := l.toArray, argTypes := ats }, ty, pos, af, gd⟩ fr cs true (fun v cs' => ∃ c', K v c' ∧ cs' = mk c') := fun a w hf hinv next Q hn =>
  t_call1 (K := fun v c' news => K v c' ∧ news = []) hl hc hu (fun w hi => (h w hi).mono fun v cout ⟨c', h1, h2⟩ => ⟨c', [], h1, h2, rfl⟩) a w hf hinv next Q (fun v cs' w' ⟨c', news, ⟨h1, h2⟩, h3⟩ => hn v cs' w' ⟨c', h1, by rw [h3, h2, List.append_nil]⟩)
/-- A cell of a slice that reads as it did whatever this call turns. -/
theorem rd_cellK {w0 : World} {S : List Nat} {n c j : Nat} {ad : Addr} {xs : List Value} (h : ∀ w', Keep S w0 w' → RdV w' 1 (some ad) n c xs) (hv : xs[j]? = some v) : ∀ w, Inv w0 S cs w → cells [(ad.add (j * 1), v)] w := fun w hi =>
  rd_cell (cs := []) (h w hi.keep) hv w ⟨Keep.refl _ _, by simp [blocks], (fun _ h => by cases h), (fun _ h => by simp [blocks] at h)⟩
/-! ### chunks in another order -/
inductive Del : List Chunk → Chunk → List Chunk → Prop
  | head (c : Chunk) (cs : List Chunk) : Del (c :: cs) c cs
  | tail (d : Chunk) {cs rest : List Chunk} {c : Chunk} (h : Del cs c rest) : Del (d :: cs) c (d :: rest)
inductive Pick : List Chunk → List Chunk → Prop
  | nil (cs : List Chunk) : Pick [] cs
  | cons {cs rest cs' : List Chunk} {c : Chunk} (h : Del cs c rest) (r : Pick cs' rest) : Pick (c :: cs') cs
theorem Del.perm {cs rest : List Chunk} {c : Chunk} (h : Del cs c rest) : cs.Perm (c :: rest) := by
  induction h with
  | head => exact .refl _
  | tail d _ ih => exact (ih.cons d).trans (.swap _ _ _)
theorem Pick.perm {cs' cs : List Chunk} (h : Pick cs' cs) : ∃ r, cs.Perm (cs' ++ r) := by
  induction h with
  | nil cs => exact ⟨cs, .refl _⟩
  | cons h _ ih =>
    obtain ⟨r, ih⟩ := ih
    exact ⟨r, h.perm.trans (ih.cons _)⟩
theorem Inv.pick {w0 w : World} {S : List Nat} {cs' : List Chunk} (h : Inv w0 S cs w) (hp : Pick cs' cs) : Inv w0 S cs' w := by
  obtain ⟨r, hr⟩ := hp.perm
  have h2 : Inv w0 S (cs' ++ r) w := ⟨h.keep, ((hr.flatMap_right Chunk.bs).nodup_iff).1 h.nodup, fun c hc => h.ok c (hr.mem_iff.2 hc), fun b hb => by
    obtain ⟨c, hc, hbc⟩ := mem_blocks.1 hb
    exact h.own b (mem_blocks.2 ⟨c, hr.mem_iff.2 hc, hbc⟩)⟩
  exact h2.drop (List.sublist_append_left _ _)
theorem wl_pick (cs' : List Chunk) {l : List Oper} (hp : Pick cs' cs) (h : WL C ops Q l fr cs') : WL C ops Q l fr cs := fun a w hf hi => h a w hf (hi.pick hp)
theorem wc_pick (cs' : List Chunk) {c : Code} (hp : Pick cs' cs) (h : WC C c Q fr cs') : WC C c Q fr cs := fun a w hf hi => h a w hf (hi.pick hp)
theorem qok_pick (cs' : List Chunk) {e : Exit} (hp : Pick cs' cs) (h : QOk C Q e fr cs') : QOk C Q e fr cs := fun a w hf hi => h a w hf (hi.pick hp)
theorem q_midP {σ : Type} {F : σ → Fr} {G : σ → List Chunk} {ok : σ → Prop} (s : σ) (ho : ok s) (hf : Wk fr (F s)) (hg : Pick (G s) cs) : QOk C (Exit.then (Mid C F G ok) Q) .normal fr cs :=
  fun _ _ hfr hi => ⟨s, ho, hfr.weaken hf, hi.pick hg⟩
/-! ### one chunk of several -/
theorem Inv.one {w0 w : World} {S : List Nat} {c : Chunk} (h : Inv w0 S cs w) (hc : Has cs c) : Inv w (blocks [c]) [c] w := by
  refine ⟨Keep.refl _ _, ?_, fun c' h' => ?_, fun b hb => .inl hb⟩
  · have : ([c] : List Chunk).Sublist cs := List.singleton_sublist.2 hc.mem
    exact (sublist_blocks this).nodup h.nodup
  simp only [List.mem_singleton] at h'
  subst h'
  exact h.get hc
inductive Has2 : List Chunk → Chunk → Chunk → Prop
  | l {cs : List Chunk} {c : Chunk} (d : Chunk) (h : Has cs c) : Has2 (d :: cs) d c
  | r {cs : List Chunk} {c : Chunk} (d : Chunk) (h : Has cs c) : Has2 (d :: cs) c d
  | t (d : Chunk) {cs : List Chunk} {c c' : Chunk} (h : Has2 cs c c') : Has2 (d :: cs) c c'
theorem Has2.fst {c c' : Chunk} (h : Has2 cs c c') : Has cs c := by
  induction h with
  | l d h => exact .head _ _
  | r d h => exact .tail _ h
  | t d _ ih => exact .tail _ ih
theorem Has2.snd {c c' : Chunk} (h : Has2 cs c c') : Has cs c' := by
  induction h with
  | l d h => exact .tail _ h
  | r d h => exact .head _ _
  | t d _ ih => exact .tail _ ih
theorem Has2.disj {c c' : Chunk} (h : Has2 cs c c') : (blocks cs).Nodup → ∀ b, b ∈ c.bs → b ∉ c'.bs := by
  induction h with
  | l d h =>
    intro hn b hb hb'
    rw [blocks_cons] at hn
    exact (List.nodup_append.1 hn).2.2 b hb b (mem_blocks.2 ⟨_, h.mem, hb'⟩) rfl
  | r d h =>
    intro hn b hb hb'
    rw [blocks_cons] at hn
    exact (List.nodup_append.1 hn).2.2 b hb' b (mem_blocks.2 ⟨_, h.mem, hb⟩) rfl
  | t d _ ih =>
    intro hn
    rw [blocks_cons] at hn
    exact ih (List.nodup_append.1 hn).2.1
/-- A slice of the call's own reads as it did while another chunk turns. -/
theorem Inv.rdK {w0 w w' : World} {S : List Nat} {c : Chunk} {e sz n cc : Nat} {A : Option Addr} {xs : List Value} (h : Inv w0 S cs w) (h2 : Has2 cs c (slv e sz A n cc xs)) (hk : Keep (blocks [c]) w w') : RdV w' sz A n cc xs := by
  have hc := h.get h2.snd
  refine slv_rd ((slv e sz A n cc xs).loc w w' (fun b hb => hk.block b ((slv e sz A n cc xs).lt w hc b hb) fun hin => ?_) hc)
  have : b ∈ c.bs := by simpa [blocks] using hin
  exact h2.disj h.nodup b this hb
/-- What came in reads as it did while a chunk of the call's own turns. -/
theorem RdV.oldK {w0 w w' : World} {c : Chunk} {sz n cc : Nat} {A : Option Addr} {xs : List Value} (h : RdV w0 sz A n cc xs) (hi : Inv w0 [] cs w) (hc : Has cs c) (hk : Keep (blocks [c]) w w') : RdV w' sz A n cc xs :=
  ⟨h.len, h.cap, h.max, h.nil, fun ad e j u hu => by
    have h1 := h.at_ ad e j u hu
    have hlt := World.block_lt_of_cell? w0 _ h1
    refine (World.cell?_of_block ((hk.block _ (Nat.lt_of_lt_of_le hlt hi.keep.size) fun hin => ?_).trans (hi.keep.block _ hlt (by simp)))).trans h1
    have : (ad.add j).block ∈ c.bs := by simpa [blocks] using hin
    rcases hi.own _ (mem_blocks.2 ⟨c, hc.mem, this⟩) with h2 | h2
    · cases h2
    omega⟩
/-! ### the cells of rows that no operation of a region turns -/
def rowL (bb : Nat) (xs : List Value) : List (Addr × Value) := (xs.zipIdx).map fun p => (⟨bb, p.2, none⟩, p.1)
theorem rowL_mem {bb o : Nat} {xs : List Value} (h : xs[o]? = some v) : ((⟨bb, o, none⟩ : Addr), v) ∈ rowL bb xs := by
  simp only [rowL, List.mem_map]
  refine ⟨(v, o), ?_, rfl⟩
  rw [List.mk_mem_zipIdx_iff_getElem?]
  exact h
theorem rowL_cells {w0 : World} {S : List Nat} {bb t : Nat} {xs : List Value} (hc : Has cs (row bb xs t)) : ∀ w, Inv w0 S cs w → cells (rowL bb xs) w := fun w hi x hx => by
  simp only [rowL, List.mem_map] at hx
  obtain ⟨⟨u, o⟩, h1, rfl⟩ := hx
  rw [List.mk_mem_zipIdx_iff_getElem?] at h1
  rw [hi.cell hc]
  exact h1
theorem cells_append {l l' : List (Addr × Value)} {w0 : World} {S : List Nat} (h : ∀ w, Inv w0 S cs w → cells l w) (h' : ∀ w, Inv w0 S cs w → cells l' w) : ∀ w, Inv w0 S cs w → cells (l ++ l') w := fun w hi x hx =>
  (List.mem_append.1 hx).elim (h w hi x) (h' w hi x)
theorem y_never {o : Oper} {V : World → Prop} : OpY C o fr false V v := fun _ _ _ _ h => nomatch h
theorem ints_at {k : IntKind} {l : List Int} {j : Nat} {a : Int} (h : l[j]? = some a) : (ints k l)[j]? = some (.int k a) := by simp [ints, h]
/-! ### make -/
theorem t_make {e n : Nat} {z : Value} {bytes : Nat} {kl kc : IntKind} {i1 i2 : Int} (ht : C.P.underlying T = some (.slice e)) (hinfo : (C.P.info? e).map (fun i => (i.zero, i.size, i.bytes)) = some (some z, 1, bytes)) (hz1 : z.cells = #[z])
    (hx : ev fr x = some (.int kl i1)) (hy : ev fr y = some (.int kc i2)) (h1 : i1 = (n : Int)) (h2 : i2 = (n : Int)) (hbytes : bytes * n ≤ 281474976710656) (h63 : n ≤ maxLen) :
    OpT C ⟨d, .makeSlice T x y, ty, pos, af, gd⟩ fr cs false (fun v cs' => ∃ b, v = .slice (some ⟨b, 0, none⟩) n n ∧ cs' = cs ++ [slv e 1 (some ⟨b, 0, none⟩) n n (List.replicate n z)]) := fun a w hf hi next Q h => by
  subst h1 h2
  obtain ⟨i, hi', hzz⟩ := Option.map_eq_some_iff.1 hinfo
  simp only [Prod.mk.injEq] at hzz
  obtain ⟨hz, hs, hb⟩ := hzz
  obtain ⟨w', hrun, ho, hg⟩ := run_make_full (P := C.P) w 0 T e i z 1 ht hi' hz hs kl kc n (by rw [hb]; exact hbytes) h63 (by omega)
  have hr : (execOp a.eval ⟨d, .makeSlice T x y, ty, pos, af, gd⟩).run C.P w = .ok (.value (.slice (some ⟨w.heap.size, 0, none⟩) n n)) w' := by
    simp [execOp, hf.ev hx, hf.ev hy, hrun]
  unfold Oper.wp
  rw [hr]
  rw [hz1, Nat.mul_one, toList_madeCells_one] at ho
  have hk : Keep [] w w' := ⟨hg.os, hg.tape, hg.output, hg.size, fun b hb _ => hg.block b hb (by simp)⟩
  refine h _ _ _ ⟨_, rfl, rfl⟩ (hi.more (inv_own hk ho fun a ha => ?_)) (fun _ => ?_)
  · right
    obtain rfl : (⟨w.heap.size, 0, none⟩ : Addr) = a := by simpa using ha
    exact Nat.le_refl _
  intro ad v hv
  exact (World.cell?_of_block (hk.block _ (World.block_lt_of_cell? w _ hv) (by simp))).trans hv
end
end Go.Ink
