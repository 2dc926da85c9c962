/- The operations that turn the world: new blocks, stores, append, calls; a function's beginning and end. Nothing of the program. -/
import Derived.Test.YtobjiljkfmcalaaGreatInkO
import Derived.Maps.AppendAt
import Derived.Lib.SliceRun
set_option linter.unusedSimpArgs false
set_option linter.unusedVariables false
namespace Go.Ink
open Go.RowKit

/-! ### slices -/
/-- A slice value that reads as a list of cells, nil let in. -/
structure RdV (w : World) (sz : Nat) (A : Option Addr) (n c : Nat) (xs : List Value) : Prop where
  len : xs.length = n * sz
  cap : n ≤ c
  max : c ≤ maxLen
  nil : A = none → n = 0 ∧ c = 0
  at_ : ∀ ad, A = some ad → ∀ j u, xs[j]? = some u → w.cell? (ad.add j) = some u

theorem block_of_add (a : Addr) (n : Nat) : (a.add n).block = a.block := by unfold Addr.add; split <;> rfl
theorem add_of_add (a : Addr) (i j : Nat) : (a.add i).add j = a.add (i + j) := by
  unfold Addr.add
  by_cases hi : i = 0 <;> by_cases hj : j = 0 <;> simp [hi, hj, Nat.add_assoc]
theorem RdV.old {w0 w : World} {S : List Nat} {cs : List Chunk} {sz n c : Nat} {A : Option Addr} {xs : List Value} (h : RdV w0 sz A n c xs) (hi : Inv w0 S cs w) (hS : ∀ ad, A = some ad → ad.block ∉ S) : RdV w sz A n c xs :=
  ⟨h.len, h.cap, h.max, h.nil, fun ad e j u hu => by
    have h1 := h.at_ ad e j u hu
    refine (World.cell?_of_block (hi.keep.block _ (World.block_lt_of_cell? w0 _ h1) ?_)).trans h1
    rw [block_of_add]
    exact hS ad e⟩
theorem RdV.oldN {w0 w : World} {cs : List Chunk} {sz n c : Nat} {A : Option Addr} {xs : List Value} (h : RdV w0 sz A n c xs) (hi : Inv w0 [] cs w) : RdV w sz A n c xs := h.old hi (fun _ _ => by simp)
theorem RdV.below {w w' : World} {sz n c : Nat} {A : Option Addr} {xs : List Value} (h : RdV w sz A n c xs) (hb : Below w.heap.size w w') : RdV w' sz A n c xs :=
  ⟨h.len, h.cap, h.max, h.nil, fun ad e j u hu => by
    have h1 := h.at_ ad e j u hu
    exact (World.cell?_of_block (hb.block _ (World.block_lt_of_cell? w _ h1))).trans h1⟩
/-- A part of a slice. -/
theorem RdV.cut {w : World} {n c : Nat} {A : Option Addr} {xs : List Value} (h : RdV w 1 A n c xs) {lo hi : Nat} (h1 : lo ≤ hi) (h2 : hi ≤ n) :
    RdV w 1 (if c = lo then A else A.map (·.add (lo * 1))) (hi - lo) (c - lo) ((xs.take hi).drop lo) := by
  have hl := h.len
  have hc := h.cap
  have hm := h.max
  refine ⟨by simp; omega, by omega, by omega, fun e => ?_, fun ad e j u hu => ?_⟩
  · by_cases hcl : c = lo
    · constructor <;> omega
    rw [if_neg hcl] at e
    cases A with
    | none => have := h.nil rfl; constructor <;> omega
    | some a => cases e
  rw [List.getElem?_drop, List.getElem?_take] at hu
  split at hu
  · rename_i hlt
    by_cases hcl : c = lo
    · omega
    rw [if_neg hcl] at e
    cases A with
    | none => cases e
    | some a =>
      simp only [Option.map_some, Option.some.injEq, Nat.mul_one] at e
      subst e
      rw [add_of_add]
      exact h.at_ a rfl _ u hu
  cases hu

theorem slv_rd {w : World} {e sz n c : Nat} {A : Option Addr} {xs : List Value} (h : (slv e sz A n c xs).ok w) : RdV w sz A n c xs := by
  obtain ⟨h1, h2⟩ := h
  have h0 : w.ownsRow 0 e sz (.slice A n c) n xs := ⟨h1, h2⟩
  rcases h2 with ⟨hv, hn⟩ | ⟨g, cap, cur, hv, hg, hh, hc, hm, r⟩
  · injection hv with hA hn' hc'
    subst hA hc'
    exact ⟨h1, by omega, by simp, fun _ => ⟨hn, rfl⟩, fun ad e => by cases e⟩
  injection hv with hA hn' hc'
  subst hA hc'
  refine ⟨h1, hc, hm, fun e => (by cases e), fun ad e j u hu => ?_⟩
  injection e with e
  subst e
  exact h0.cells (g := g) rfl j u hu
theorem Inv.rd {w0 w : World} {S : List Nat} {cs : List Chunk} {e sz n c : Nat} {A : Option Addr} {xs : List Value} (h : Inv w0 S cs w) (hc : Has cs (slv e sz A n c xs)) : RdV w sz A n c xs := slv_rd (h.get hc)
/-- Cut short at its end it is still the call's own. -/
theorem slv_take {w : World} {e n c m : Nat} {A : Option Addr} {xs : List Value} (h : (slv e 1 A n c xs).ok w) (hm : m ≤ n) : (slv e 1 A m c (xs.take m)).ok w := by
  obtain ⟨h1, h2⟩ := h
  refine ⟨by simp; omega, ?_⟩
  rcases h2 with ⟨hv, hn⟩ | ⟨g, cap, cur, hv, hg, hh, hc, hmx, hs, ht⟩
  · injection hv with hA hn' hc'
    subst hA hc' hn
    obtain rfl : m = 0 := by omega
    exact .inl ⟨rfl, rfl⟩
  injection hv with hA hn' hc'
  subst hA hc'
  refine .inr ⟨g, c, cur, rfl, hg, hh, by omega, hmx, hs, ?_⟩
  rw [← ht, List.take_take]
  congr 1
  omega

def ints (k : IntKind) (xs : List Int) : List Value := xs.map (Value.int k)
/-- A slice of integers of the call's own. -/
abbrev sl (k : IntKind) (e : Nat) (A : Option Addr) (n c : Nat) (xs : List Int) : Chunk := slv e 1 A n c (ints k xs)
abbrev Rd (w : World) (k : IntKind) (A : Option Addr) (n c : Nat) (xs : List Int) : Prop := RdV w 1 A n c (ints k xs)

/-! ### a chunk in another's place -/
/-- Whatever stands in the first place of 'Upd' may stand there. -/
def At (cs : List Chunk) (c : Chunk) (mk : Chunk → List Chunk) : Prop := ∀ c', Upd cs c c' (mk c')
theorem aH {c : Chunk} {cs : List Chunk} : At (c :: cs) c (fun x => x :: cs) := fun _ => .head _ _ _
theorem aT {d c : Chunk} {cs : List Chunk} {mk : Chunk → List Chunk} (h : At cs c mk) : At (d :: cs) c (fun x => d :: mk x) := fun x => .tail _ (h x)
theorem At.has {cs : List Chunk} {c : Chunk} {mk : Chunk → List Chunk} (h : At cs c mk) : Has cs c := (h c).has
theorem Inv.conv {w0 w : World} {S : List Nat} {cs : List Chunk} {c c' : Chunk} {mk : Chunk → List Chunk} (h : Inv w0 S cs w) (hu : At cs c mk) (hb : c'.bs = c.bs) (hok : c.ok w → c'.ok w) : Inv w0 S (mk c') w := by
  have hc := h.get hu.has
  refine h.upd (hu c') (Keep.refl _ _) ⟨Keep.refl _ _, ?_, ?_, ?_⟩
  · obtain ⟨rest, h1, _, _⟩ := (hu c').perm
    have := ((h1.flatMap_right Chunk.bs).nodup_iff).1 h.nodup
    simp only [List.singleton_append, List.flatMap_cons] at this
    simp only [blocks, List.flatMap_cons, List.flatMap_nil, List.append_nil, hb]
    exact (List.nodup_append.1 this).1
  · intro x hx
    simp only [List.mem_singleton] at hx
    subst hx
    exact hok hc
  intro b hb'
  simp only [blocks, List.flatMap_cons, List.flatMap_nil, List.append_nil, hb] at hb'
  exact .inl hb'
theorem wc_conv {C : Cx} {Q : Post} {fr : Fr} {cs : List Chunk} {c c' : Chunk} {mk : Chunk → List Chunk} {x : Code} (hu : At cs c mk) (hb : c'.bs = c.bs) (hok : ∀ w, c.ok w → c'.ok w) (h : WC C x Q fr (mk c')) : WC C x Q fr cs :=
  fun a w hf hi => h a w hf (hi.conv hu hb (hok w))
theorem wl_conv {C : Cx} {Q : Post} {fr : Fr} {cs : List Chunk} {c c' : Chunk} {mk : Chunk → List Chunk} {ops : Array Oper} {l : List Oper} (hu : At cs c mk) (hb : c'.bs = c.bs) (hok : ∀ w, c.ok w → c'.ok w) (h : WL C ops Q l fr (mk c')) : WL C ops Q l fr cs :=
  fun a w hf hi => h a w hf (hi.conv hu hb (hok w))

section
variable {C : Cx} {fr : Fr} {cs : List Chunk} {d : Option Tmp} {ty : TypeId} {pos : String} {af : Array Edge} {gd : Option (Nat × Bool)} {v : Value} {x y : Operand} {T T' : TypeId} {mk : Chunk → List Chunk}

theorem Pres.alloc (w : World) (o : Obj) : Pres w (w.alloc o) := fun ad _ h => (World.cell?_alloc_lt w _ ad (World.block_lt_of_cell? w ad h)).trans h
theorem Pres.of_keep {w w' : World} (h : Keep [] w w') : Pres w w' := fun ad v hv => (World.cell?_of_block (h.block _ (World.block_lt_of_cell? w ad hv) (by simp))).trans hv

theorem t_alloc {z : Value} {zs : List Value} (hz : ∀ w, (zeroValue T).run C.P w = .ok z w) (hzs : z.cells = zs.toArray) :
    OpT C ⟨d, .alloc T, ty, pos, af, gd⟩ fr cs false (fun v cs' => ∃ b, v = .pointer (some ⟨b, 0, none⟩) ∧ cs' = cs ++ [row b zs T]) := fun a w hf hi next Q h => by
  have hr : (execOp a.eval ⟨d, .alloc T, ty, pos, af, gd⟩).run C.P w = .ok (.value (.pointer (some ⟨w.heap.size, 0, none⟩))) (w.alloc (.cells zs.toArray T)) := by
    simp [execOp, Instr.alloc, hz, newVar, newRow, hzs]
  unfold Oper.wp
  rw [hr]
  exact h _ _ _ ⟨_, rfl, rfl⟩ (hi.alloc zs T) (fun _ => Pres.alloc w _)
theorem t_box {xs : List Value} (hx : ev fr x = some v) (hv : v.cells = xs.toArray) :
    OpT C ⟨d, .box T x, ty, pos, af, gd⟩ fr cs false (fun v cs' => ∃ b, v = .pointer (some ⟨b, 0, none⟩) ∧ cs' = cs ++ [row b xs T]) := fun a w hf hi next Q h => by
  have hr : (execOp a.eval ⟨d, .box T x, ty, pos, af, gd⟩).run C.P w = .ok (.value (.pointer (some ⟨w.heap.size, 0, none⟩))) (w.alloc (.cells xs.toArray T)) := by
    simp [execOp, Instr.box, hf.ev hx, newVar, newRow, hv]
  unfold Oper.wp
  rw [hr]
  exact h _ _ _ ⟨_, rfl, rfl⟩ (hi.alloc xs T) (fun _ => Pres.alloc w _)
/-- One element of a list is another. -/
inductive SetAt : List Value → Nat → Value → List Value → Prop
  | zero (u v : Value) (l : List Value) : SetAt (u :: l) 0 v (v :: l)
  | succ (u : Value) {l l' : List Value} {n : Nat} {v : Value} (h : SetAt l n v l') : SetAt (u :: l) (n + 1) v (u :: l')
theorem SetAt.set {l l' : List Value} {n : Nat} {v : Value} (h : SetAt l n v l') : l.set n v = l' ∧ n < l.length := by
  induction h with
  | zero => simp
  | succ u _ ih => simp [ih.1, ih.2]
/-- A store of one cell into a row. -/
theorem t_store {bb o t : Nat} {xs xs' : List Value} (hT : ∀ w, (sizeOf T).run C.P w = .ok 1 w) (hx : ev fr x = some (.pointer (some ⟨bb, o, none⟩))) (hy : ev fr y = some v) (h1 : v.oneCell' = true) (hu : At cs (row bb xs t) mk) (hs : SetAt xs o v xs') :
    OpT C ⟨d, .store T x y, ty, pos, af, gd⟩ fr cs true (fun u cs' => u = undef ∧ cs' = mk (row bb xs' t)) := fun a w hf hi next Q h => by
  obtain ⟨rfl, ho⟩ := hs.set
  have hc := hi.cell hu.has o
  have hfz := hi.free hu.has o
  have hcs : v.cells = #[v] := by cases v <;> first | rfl | cases h1
  have hr : (execOp a.eval ⟨d, .store T x y, ty, pos, af, gd⟩).run C.P w = .ok .skip (w.setCell ⟨bb, o, none⟩ v) := by
    simp [execOp, hf.ev hx, hf.ev hy, Instr.storeAt, Instr.sureAddr, storeVar, hT, hcs, storeCells, Addr.add_lit, run_store _ _ _ v _ h1, hc, hfz, ho]
  unfold Oper.wp
  rw [hr]
  exact h _ _ _ ⟨rfl, rfl⟩ (hi.set o v (hu _)) (fun e => by cases e)
/-- A store of a whole struct or array. -/
theorem t_storeN {bb t : Nat} {xs vs : List Value} (hT : ∀ w, (sizeOf T).run C.P w = .ok vs.length w) (hx : ev fr x = some (.pointer (some ⟨bb, 0, none⟩))) (hy : ev fr y = some (.agg vs.toArray)) (h1 : ∀ u ∈ vs, u.oneCell' = true) (hu : At cs (row bb xs t) mk) (ho : vs.length = xs.length) :
    OpT C ⟨d, .store T x y, ty, pos, af, gd⟩ fr cs true (fun u cs' => u = undef ∧ cs' = mk (row bb vs t)) := fun a w hf hi next Q h => by
  have hg : w.heap[bb]? = some (.cells xs.toArray t (0, 0)) := hi.get hu.has
  have hst := run_storeCells_at C.P bb 0 t vs 0 xs.toArray w hg (by simp [ho]) h1
  have e : ((xs.toArray.toList.take (0 + 0) ++ vs ++ xs.toArray.toList.drop (0 + 0 + vs.length)).toArray) = vs.toArray := by simp [ho]
  rw [e] at hst
  have hr : (execOp a.eval ⟨d, .store T x y, ty, pos, af, gd⟩).run C.P w = .ok .skip (w.setRow bb vs.toArray) := by
    simp [execOp, hf.ev hx, hf.ev hy, Instr.storeAt, Instr.sureAddr, storeVar, hT, Value.cells, hst]
  have hsame : ∀ k, k ≠ bb → (w.setRow bb vs.toArray).heap[k]? = w.heap[k]? := fun k hk => by
    simp only [World.setRow, Array.getElem?_modify]
    rw [if_neg (by omega)]
  have hsz : (w.setRow bb vs.toArray).heap.size = w.heap.size := by simp [World.setRow]
  unfold Oper.wp
  rw [hr]
  refine h _ _ _ ⟨rfl, rfl⟩ (hi.upd (hu _) ⟨rfl, rfl, rfl, by omega, fun k _ hk => hsame k (by simpa [row, Chunk.bs] using hk)⟩ ⟨⟨rfl, rfl, rfl, by omega, fun k _ hk => hsame k (by simpa [row, Chunk.bs] using hk)⟩, by simp [blocks, row, Chunk.bs], ?_, ?_⟩) (fun e => by cases e)
  · intro c hc
    simp only [List.mem_singleton] at hc
    subst hc
    show (w.setRow bb vs.toArray).heap[bb]? = _
    simp [World.setRow, Array.getElem?_modify, hg]
  intro k hk
  left
  simpa [blocks, row, Chunk.bs] using hk

/-! ### append -/
theorem inv_own {w w' : World} {S : List Nat} {e sz n c : Nat} {A : Option Addr} {xs : List Value} (hk : Keep S w w') (ho : w'.ownsRow 0 e sz (.slice A n c) n xs) (hb : ∀ a, A = some a → a.block ∈ S ∨ w.heap.size ≤ a.block) : Inv w S [slv e sz A n c xs] w' := by
  refine ⟨hk, ?_, ?_, ?_⟩
  · cases A <;> simp [blocks, slv, Chunk.bs, ab]
  · intro c hc
    simp only [List.mem_singleton] at hc
    subst hc
    exact ho
  intro b hbb
  cases A with
  | none => simp [blocks, slv, Chunk.bs, ab] at hbb
  | some a =>
    simp [blocks, slv, Chunk.bs, ab] at hbb
    subst hbb
    exact hb a rfl

theorem run_append_nothing {P : Program} (w : World) (base : Nat) (t ty e : TypeId) (i : TypeInfo) (size : Nat) (ht : P.underlying t = some (.slice e)) (hi : P.info? e = some i)
    (v : Value) (n : Nat) (xs : List Value) (hown : w.ownsRow base e size v n xs) (c : Nat) : (Builtin.append_ #[t, t] ty #[v, .slice none 0 c]).run P w = .ok v w := by
  rcases hown.2 with ⟨rfl, rfl⟩ | ⟨g, cap, cur, rfl, _, _, hnc, _⟩
  · simp [Builtin.append_, run_underlying ht, sizeOf, typeInfo, hi, Builtin.lenOf, Builtin.firstCells]
  simp [Builtin.append_, run_underlying ht, sizeOf, typeInfo, hi, Builtin.lenOf, Builtin.firstCells, hnc, storeCells]

theorem run_append_rd {P : Program} (w : World) (t ty e : TypeId) (i : TypeInfo) (z : Value) (sz : Nat) (ht : P.underlying t = some (.slice e)) (hi : P.info? e = some i) (hz : i.zero = some z)
    (hsize : i.size = sz) (hzs : z.cells.size = sz) (hsz : 0 < sz)
    (A : Option Addr) (n c : Nat) (xs : List Value) (hown : w.ownsRow 0 e sz (.slice A n c) n xs)
    (A2 : Option Addr) (n2 c2 : Nat) (ys : List Value) (hr : RdV w sz A2 n2 c2 ys) (h1 : ∀ u ∈ ys, u.oneCell' = true)
    (h63 : n + n2 ≤ maxLen) (hbytes : (n + n2) * i.bytes ≤ 140737488355328) :
    ∃ A' c' w', (Builtin.append_ #[t, t] ty #[.slice A n c, .slice A2 n2 c2]).run P w = .ok (.slice A' (n + n2) c') w' ∧ w'.ownsRow 0 e sz (.slice A' (n + n2) c') (n + n2) (xs ++ ys) ∧ w.grownBy w' ((Value.slice A n c).ownBlock) ∧
      (A'.map Addr.block = A.map Addr.block ∨ A'.map Addr.block = some w.heap.size) := by
  obtain ⟨hlen, hc, hm, hnil, hread⟩ := hr
  rcases A2 with _ | ad
  · obtain ⟨rfl, rfl⟩ := hnil rfl
    obtain rfl : ys = [] := List.eq_nil_of_length_eq_zero (by simpa using hlen)
    exact ⟨A, c, w, run_append_nothing w 0 t ty e i sz ht hi _ _ _ hown 0, by simpa using hown, World.grownBy.refl w _, .inl rfl⟩
  obtain ⟨v', w', hrun, h2, h3, _, h5⟩ := run_append_own_at (P := P) w 0 t ty e i z sz i.bytes ht hi hz hsize rfl hzs hsz (.slice A n c) n xs hown ad n2 c2 ys hlen (hread ad rfl) h1 h63 hbytes (Nat.zero_le _)
  have hv : ∃ A' c', v' = .slice A' (n + n2) c' := by
    rcases h2.2 with ⟨rfl, hn⟩ | ⟨g, cap, cur, rfl, _⟩
    · exact ⟨none, 0, by rw [hn]⟩
    exact ⟨_, _, rfl⟩
  obtain ⟨A', c', rfl⟩ := hv
  refine ⟨A', c', w', hrun, h2, h3, ?_⟩
  rcases h5 with h5 | h5
  · left; cases A' <;> cases A <;> simp_all [Value.ownBlock]
  right; cases A' <;> simp_all [Value.ownBlock]

theorem Keep.of_grown {w w' : World} {A : Option Addr} {n c : Nat} (h : w.grownBy w' ((Value.slice A n c).ownBlock)) : Keep (ab A) w w' :=
  ⟨h.os, h.tape, h.output, h.size, fun b hb hn => h.block b hb (by cases A <;> simp [Value.ownBlock, ab] at hn ⊢; exact fun e => hn e)⟩

/-- The element type's row of the program's table. -/
def elemOk (P : Program) (e sz bytes : Nat) : Bool := match P.info? e with
  | some i => match i.zero with
    | some z => Nat.beq i.size sz && Nat.beq z.cells.size sz && Nat.beq i.bytes bytes && Nat.blt 0 sz
    | none => false
  | none => false
theorem elemOk_spec {P : Program} {e sz bytes : Nat} (h : elemOk P e sz bytes = true) : ∃ i z, P.info? e = some i ∧ i.zero = some z ∧ i.size = sz ∧ z.cells.size = sz ∧ i.bytes = bytes ∧ 0 < sz := by
  unfold elemOk at h
  split at h
  · rename_i i hi
    split at h
    · rename_i z hz
      simp only [Bool.and_eq_true, Nat.blt_eq] at h
      obtain ⟨⟨⟨h1, h2⟩, h3⟩, h4⟩ := h
      exact ⟨i, z, hi, hz, Nat.eq_of_beq_eq_true h1, Nat.eq_of_beq_eq_true h2, Nat.eq_of_beq_eq_true h3, h4⟩
    cases h
  cases h
/-- append onto a slice of the call's own. -/
theorem t_append {e sz bytes n c n2 c2 : Nat} {A A2 : Option Addr} {xs ys : List Value} (hx : ev fr x = some (.slice A n c)) (hy : ev fr y = some (.slice A2 n2 c2)) (hu : At cs (slv e sz A n c xs) mk)
    (ht : C.P.underlying T = some (.slice e)) (hel : elemOk C.P e sz bytes = true)
    (hr : ∀ w, Inv C.w0 C.S cs w → RdV w sz A2 n2 c2 ys) (h1 : ∀ u ∈ ys, u.oneCell' = true) (h63 : n + n2 ≤ maxLen) (hbytes : (n + n2) * bytes ≤ 140737488355328) :
    OpT C ⟨d, .call { callee := .builtin .append, args := #[x, y], argTypes := #[T, T] }, ty, pos, af, gd⟩ fr cs true (fun v cs' => ∃ A' c', v = .slice A' (n + n2) c' ∧ cs' = mk (slv e sz A' (n + n2) c' (xs ++ ys))) := fun a w hf hinv next Q h => by
  obtain ⟨i, z, hi, hz, hsize, hzs, rfl, hsz⟩ := elemOk_spec hel
  have hown : w.ownsRow 0 e sz (.slice A n c) n xs := hinv.get hu.has
  obtain ⟨A', c', w', hrun, h2, h3, h4⟩ := run_append_rd (P := C.P) w T ty e i z sz ht hi hz hsize hzs hsz A n c xs hown A2 n2 c2 ys (hr w hinv) h1 h63 hbytes
  have hr' : (execOp a.eval ⟨d, .call { callee := .builtin .append, args := #[x, y], argTypes := #[T, T] }, ty, pos, af, gd⟩).run C.P w = .ok (.value (.slice A' (n + n2) c')) w' := by
    simp [execOp, resolve, invoke, builtin, hf.ev hx, hf.ev hy, hrun]
  unfold Oper.wp
  rw [hr']
  have hk := Keep.of_grown h3
  refine h _ _ _ ⟨A', c', rfl, rfl⟩ (hinv.upd (hu _) hk (inv_own hk h2 fun a ha => ?_)) (fun e => by cases e)
  subst ha
  rcases h4 with h4 | h4
  · cases A with
    | none => simp at h4
    | some a0 => simp at h4; left; simp [h4, Chunk.bs, ab]
  simp at h4; right; omega
/-- append onto nil. -/
theorem t_append_nil {e sz bytes n2 c2 : Nat} {A2 : Option Addr} {ys : List Value} (hx : ev fr x = some (.slice none 0 0)) (hy : ev fr y = some (.slice A2 n2 c2))
    (ht : C.P.underlying T = some (.slice e)) (hel : elemOk C.P e sz bytes = true)
    (hr : ∀ w, Inv C.w0 C.S cs w → RdV w sz A2 n2 c2 ys) (h1 : ∀ u ∈ ys, u.oneCell' = true) (h63 : n2 ≤ maxLen) (hbytes : n2 * bytes ≤ 140737488355328) :
    OpT C ⟨d, .call { callee := .builtin .append, args := #[x, y], argTypes := #[T, T] }, ty, pos, af, gd⟩ fr cs false (fun v cs' => ∃ A' c', v = .slice A' n2 c' ∧ cs' = cs ++ [slv e sz A' n2 c' ys]) := fun a w hf hinv next Q h => by
  obtain ⟨i, z, hi, hz, hsize, hzs, rfl, hsz⟩ := elemOk_spec hel
  obtain ⟨A', c', w', hrun, h2, h3, h4⟩ := run_append_rd (P := C.P) w T ty e i z sz ht hi hz hsize hzs hsz none 0 0 [] ⟨by simp, .inl ⟨rfl, rfl⟩⟩ A2 n2 c2 ys (hr w hinv) h1 (by simpa using h63) (by simpa using hbytes)
  simp only [Nat.zero_add, List.nil_append] at hrun h2
  have hr' : (execOp a.eval ⟨d, .call { callee := .builtin .append, args := #[x, y], argTypes := #[T, T] }, ty, pos, af, gd⟩).run C.P w = .ok (.value (.slice A' n2 c')) w' := by
    simp [execOp, resolve, invoke, builtin, hf.ev hx, hf.ev hy, hrun]
  unfold Oper.wp
  rw [hr']
  have hk : Keep [] w w' := Keep.of_grown h3
  refine h _ _ _ ⟨A', c', rfl, rfl⟩ (hinv.more (inv_own hk h2 fun a ha => ?_)) (fun _ => Pres.of_keep hk)
  subst ha
  simp at h4
  right; omega

def evs (fr : Fr) : List Operand → Option (List Value)
  | [] => some []
  | x :: l => match ev fr x, evs fr l with
    | some v, some vs => some (v :: vs)
    | _, _ => none
theorem evs_ok {N : Nat} {a : Act} (hf : FrOk N fr a) : ∀ {l : List Operand} {vs : List Value}, evs fr l = some vs → l.map a.eval = vs
  | [], vs, h => by simp [evs] at h; simp [h]
  | x :: l, vs, h => by
    simp only [evs] at h
    split at h
    · rename_i u us hu hus
      simp only [Option.some.injEq] at h
      subst h
      simp [hf.ev hu, evs_ok hf hus]
    cases h
def evP (fr : Fr) : List (Nat × Operand) → Option (List (Nat × Value))
  | [] => some []
  | (i, x) :: l => match ev fr x, evP fr l with
    | some v, some vs => some ((i, v) :: vs)
    | _, _ => none
theorem evP_ok {N : Nat} {a : Act} (hf : FrOk N fr a) : ∀ {l : List (Nat × Operand)} {vs : List (Nat × Value)}, evP fr l = some vs → l.map (fun p => (p.1, a.eval p.2)) = vs
  | [], vs, h => by simp [evP] at h; simp [h]
  | (i, x) :: l, vs, h => by
    simp only [evP] at h
    split at h
    · rename_i u us hu hus
      simp only [Option.some.injEq] at h
      subst h
      simp [hf.ev hu, evP_ok hf hus]
    cases h
theorem foldl_set (l : List Value) : ∀ (j : Nat) (pre post : List Value), post.length = l.length →
    (l.zipIdx j).foldl (fun (cs : Array Value) (p : Value × Nat) => cs.setIfInBounds (pre.length - j + p.2) p.1) (pre ++ post).toArray = (pre ++ l).toArray ∨ pre.length < j := by
  induction l with
  | nil =>
    intro j pre post h
    left
    have : post = [] := List.eq_nil_of_length_eq_zero (by simpa using h)
    simp [this]
  | cons v l ih =>
    intro j pre post h
    by_cases hj : pre.length < j
    · exact .inr hj
    left
    cases post with
    | nil => simp at h
    | cons q post =>
      simp only [List.zipIdx_cons, List.foldl_cons]
      have e1 : ((pre ++ q :: post).toArray).setIfInBounds (pre.length - j + j) v = ((pre ++ [v]) ++ post).toArray := by
        rw [show pre.length - j + j = pre.length by omega]
        simp
      rw [e1]
      have := ih (j + 1) (pre ++ [v]) post (by simpa using h)
      rcases this with this | this
      · rw [show (pre ++ [v]).length - (j + 1) = pre.length - j by simp] at this
        rw [this]
        simp
      simp at this; omega
theorem fill_ok (sz : Nat) : ∀ (l : List (Nat × Value)) (k : Nat) (pre post : List Value), l.map Prod.fst = List.range' k l.length → (∀ p ∈ l, p.2.cells.size = sz) → pre.length = k * sz → post.length = l.length * sz →
    Instr.fill (fun i => some (i * sz, sz)) (pre ++ post).toArray l = some (pre ++ l.flatMap (fun p => p.2.cells.toList)).toArray
  | [], _, pre, post, _, _, _, h => by
    have : post = [] := List.eq_nil_of_length_eq_zero (by simpa using h)
    simp [Instr.fill, this]
  | (i, v) :: l, k, pre, post, hk, hs, hp, h => by
    simp only [List.map_cons, List.length_cons, List.range'_succ, List.cons.injEq] at hk
    obtain ⟨rfl, hk⟩ := hk
    have hv := hs (i, v) (by simp)
    simp only at hv
    simp only [List.length_cons, Nat.add_mul, Nat.one_mul] at h
    have hlen : ¬ (v.cells.size ≠ sz || decide (i * sz + v.cells.size > (pre ++ post).toArray.size)) = true := by
      simp only [hv, ne_eq, not_true_eq_false, decide_false, Bool.false_or, decide_eq_true_eq, List.size_toArray, List.length_append, hp, h]
      omega
    simp only [Instr.fill]
    rw [if_neg (by simpa using hlen)]
    have hf := foldl_set v.cells.toList 0 pre (post.take sz) (by simp [hv, h])
    have hf2 : (v.cells.zipIdx.foldl (fun cs (p : Value × Nat) => cs.setIfInBounds (i * sz + p.2) p.1) (pre ++ post).toArray) = ((pre ++ v.cells.toList) ++ post.drop sz).toArray := by
      rw [← Array.foldl_toList, Array.toList_zipIdx]
      have key : ∀ (m : List (Value × Nat)) (a : List Value), a.length = (pre ++ post.take sz).length → (∀ p ∈ m, pre.length + p.2 < a.length) →
          m.foldl (fun (cs : Array Value) (p : Value × Nat) => cs.setIfInBounds (i * sz + p.2) p.1) (a ++ post.drop sz).toArray = ((m.foldl (fun (cs : Array Value) (p : Value × Nat) => cs.setIfInBounds (pre.length - 0 + p.2) p.1) a.toArray).toList ++ post.drop sz).toArray := by
        intro m
        induction m with
        | nil => intro a _ _; simp
        | cons p m ih =>
          intro a ha hm
          have hlt := hm p (by simp)
          simp only [List.foldl_cons]
          have e1 : ((a ++ post.drop sz).toArray).setIfInBounds (i * sz + p.2) p.1 = ((a.set (pre.length + p.2) p.1) ++ post.drop sz).toArray := by
            rw [← hp]
            simp [List.set_append_left _ _ hlt]
          have e2 : (a.toArray).setIfInBounds (pre.length - 0 + p.2) p.1 = (a.set (pre.length + p.2) p.1).toArray := by simp
          rw [e1, e2]
          exact ih _ (by simpa using ha) (fun q hq => by simpa using hm q (by simp [hq]))
      have h3 := key (v.cells.toList.zipIdx) (pre ++ post.take sz) rfl (fun p hp' => by
        have := List.snd_lt_of_mem_zipIdx hp'
        simp [hv] at this
        simp [h]
        omega)
      rw [List.append_assoc, List.take_append_drop] at h3
      rw [h3]
      rcases hf with hf | hf
      · rw [hf]
      omega
    rw [hf2, fill_ok sz l (i + 1) (pre ++ v.cells.toList) (post.drop sz) hk (fun p hp' => hs p (by simp [hp'])) (by simp [hp, hv, Nat.add_mul]) (by simp [h])]
    simp
theorem run_buildSl {P : Program} {T n e sz : Nat} {z : Value} {prs : List (Nat × Value)} (ht : P.underlying T = some (.slice e)) (hs : ∀ w, (sizeOf e).run P w = .ok sz w) (hz : ∀ w, (zeroValue e).run P w = .ok z w)
    (hn : prs.length = n) (hk : prs.map Prod.fst = List.range' 0 prs.length) (h1 : ∀ p ∈ prs, p.2.cells.size = sz) (hb : n * sz ≤ 16777216) (w : World) :
    (Instr.buildSlice T n prs.toArray).run P w = .ok (.slice (some ⟨w.heap.size, 0, none⟩) n n) (w.alloc (.cells (prs.flatMap (fun p => p.2.cells.toList)).toArray e)) := by
  have hlim : ¬ n * sz > 2 ^ 24 := by
    have : (2 : Nat) ^ 24 = 16777216 := by decide
    omega
  have key : ∀ a : Array Value, a.size = n * sz → Instr.fill (fun i => some (i * sz, sz)) a prs = some (prs.flatMap (fun p => p.2.cells.toList)).toArray := fun a ha => by
    have := fill_ok sz prs 0 [] a.toList hk h1 (by simp) (by simp [ha, hn])
    simpa using this
  simp only [Instr.buildSlice, Sem.run_bind, run_underlying ht, Result.andThen_ok, hs]
  by_cases h0 : n * sz = 0
  · have hk0 := key (Array.map (fun _ => (default : Value)) (Array.range 0)) (by simp [h0])
    simp [h0, hk0, newRow]
  simp only [hlim, if_false, h0, Sem.run_bind, hz, Result.andThen_ok, Sem.run_pure]
  rw [key _ (by simp)]
  simp [newRow]
/-- A slice that is written out. -/
theorem t_buildSl {n e sz : Nat} {ps : List (Nat × Operand)} {prs : List (Nat × Value)} {vs : List Value} {z : Value} (hp : evP fr ps = some prs) (ht : C.P.underlying T = some (.slice e)) (hs : ∀ w, (sizeOf e).run C.P w = .ok sz w) (hz : ∀ w, (zeroValue e).run C.P w = .ok z w)
    (hk : (prs.map Prod.fst == List.range' 0 n && prs.length == n && prs.all (fun p => p.2.cells.size == sz)) = true) (hb : (Nat.ble (n * sz) 16777216 && Nat.ble n 16777216) = true) (hvs : prs.flatMap (fun p => p.2.cells.toList) = vs) :
    OpT C ⟨d, .buildSlice T n ps.toArray, ty, pos, af, gd⟩ fr cs false (fun v cs' => ∃ b, v = .slice (some ⟨b, 0, none⟩) n n ∧ cs' = cs ++ [slv e sz (some ⟨b, 0, none⟩) n n vs]) := fun a w hf hinv next Q h => by
  subst hvs
  simp only [Bool.and_eq_true, beq_iff_eq, List.all_eq_true] at hk
  obtain ⟨⟨hk1, hk2⟩, hk3⟩ := hk
  obtain ⟨hb', hbn⟩ : n * sz ≤ 16777216 ∧ n ≤ 16777216 := by simpa [Nat.ble_eq] using hb
  have hr := run_buildSl (P := C.P) ht hs hz hk2 (by rw [hk2]; exact hk1) hk3 hb' w
  have hl : (prs.flatMap (fun p => p.2.cells.toList)).length = n * sz := by
    rw [← hk2]
    clear hr hk1 hk2 hb hb' hp h
    induction prs with
    | nil => simp
    | cons p l ih =>
      have h1 := hk3 p (by simp)
      have h2 := ih (fun q hq => hk3 q (by simp [hq]))
      simp only [List.flatMap_cons, List.length_append, Array.length_toList, h1, h2, List.length_cons, Nat.add_mul]
      omega
  have hr' : (execOp a.eval ⟨d, .buildSlice T n ps.toArray, ty, pos, af, gd⟩).run C.P w = .ok (.value (.slice (some ⟨w.heap.size, 0, none⟩) n n)) (w.alloc (.cells (prs.flatMap (fun p => p.2.cells.toList)).toArray e)) := by
    have e1 : ps.toArray.map (fun p => (p.1, a.eval p.2)) = prs.toArray := by simp [evP_ok hf hp]
    simp only [execOp]
    rw [show (ps.toArray.map fun (i, x) => (i, a.eval x)) = prs.toArray from e1]
    simp [hr]
  unfold Oper.wp
  rw [hr']
  refine h _ _ _ ⟨_, rfl, rfl⟩ (hinv.more (inv_own (Keep.of_below ((Below.refl _ _).alloc (Nat.le_refl _) _) _) ⟨hl, .inr ⟨w.heap.size, n, _, rfl, Nat.zero_le _, heap_alloc_new w _, Nat.le_refl _, ?_, by simpa using hl, List.take_of_length_le (by rw [← hl]; exact Nat.le_refl _)⟩⟩ fun a ha => ?_)) (fun _ => Pres.alloc w _)
  · simp only [maxLen]; omega
  injection ha with ha
  subst ha
  right; exact Nat.le_refl _

theorem evs_len {fr : Fr} : ∀ {l : List Operand} {vs : List Value}, Ink.evs fr l = some vs → vs.length = l.length
  | [], vs, h => by simp [Ink.evs] at h; simp [← h]
  | x :: l, vs, h => by
    simp only [Ink.evs] at h
    split at h
    · rename_i u us hu hus
      simp only [Option.some.injEq] at h
      subst h
      simp [evs_len hus]
    cases h
theorem evP_of {fr : Fr} : ∀ {l : List (Nat × Operand)} {vs : List Value}, Ink.evs fr (l.map Prod.snd) = some vs → evP fr l = some (List.zip (l.map Prod.fst) vs)
  | [], _, _ => by simp [evP]
  | (i, x) :: l, vs, h => by
    simp only [List.map_cons, Ink.evs] at h
    split at h
    · rename_i u us hu hus
      simp only [Option.some.injEq] at h
      subst h
      simp [evP, hu, evP_of hus]
    cases h
/-- A slice of one-cell elements that is written out. -/
theorem t_buildSl1 {n e : Nat} {ps : List (Nat × Operand)} {vs : List Value} {z : Value} (hp : Ink.evs fr (ps.map Prod.snd) = some vs) (ht : C.P.underlying T = some (.slice e)) (hs : ∀ w, (sizeOf e).run C.P w = .ok 1 w) (hz : ∀ w, (zeroValue e).run C.P w = .ok z w)
    (hk : (ps.map Prod.fst == List.range' 0 n && ps.length == n && Nat.ble n 16777216) = true) (h1 : vs.all (·.oneCell') = true) :
    OpT C ⟨d, .buildSlice T n ps.toArray, ty, pos, af, gd⟩ fr cs false (fun v cs' => ∃ b, v = .slice (some ⟨b, 0, none⟩) n n ∧ cs' = cs ++ [slv e 1 (some ⟨b, 0, none⟩) n n vs]) := by
  simp only [Bool.and_eq_true, beq_iff_eq] at hk
  obtain ⟨⟨hk1, hk2⟩, hk3⟩ := hk
  have hl : vs.length = n := by rw [evs_len hp, List.length_map, hk2]
  have hcell : ∀ v ∈ vs, v.cells = #[v] := fun v hv => by
    have := List.all_eq_true.1 h1 v hv
    cases v <;> first | rfl | cases this
  have hzip : (List.zip (ps.map Prod.fst) vs).map Prod.snd = vs := List.map_snd_zip (by simp [hk2, hl])
  have hflat : (List.zip (ps.map Prod.fst) vs).flatMap (fun p => p.2.cells.toList) = vs := by
    have : (List.zip (ps.map Prod.fst) vs).flatMap (fun p => p.2.cells.toList) = ((List.zip (ps.map Prod.fst) vs).map Prod.snd).flatMap (fun v => v.cells.toList) := by simp [List.flatMap_map]
    rw [this, hzip]
    clear hp hl hzip this h1 hk1
    induction vs with
    | nil => rfl
    | cons v vs ih =>
      rw [List.flatMap_cons, hcell v (by simp), ih (fun u hu => hcell u (by simp [hu]))]
      rfl
  refine t_buildSl (prs := List.zip (ps.map Prod.fst) vs) (evP_of hp) ht hs hz ?_ ?_ hflat
  · simp only [Bool.and_eq_true, beq_iff_eq, List.all_eq_true]
    refine ⟨⟨?_, ?_⟩, fun p hp' => ?_⟩
    · rw [List.map_fst_zip (by simp [hk2, hl]), hk1]
    · simp [hk2, hl]
    have := hcell p.2 (by rw [← hzip]; exact List.mem_map_of_mem hp')
    simp [this]
  simp only [Nat.mul_one, Bool.and_eq_true]
  exact ⟨hk3, hk3⟩

/-! ### calls -/
/-- What a call gives: a value and chunks of which K holds, in the place of the chunks 'cin'; nothing else has turned. -/
def Ctr (P : Program) (f : FuncId) (args : List Value) (w : World) (cin : List Chunk) (K : Value → List Chunk → Prop) : Prop :=
  Calls P f args.toArray w (fun e w' => ∃ v cout, e = .returned v ∧ K v cout ∧ Inv w (blocks cin) cout w')
theorem Ctr.mono {P : Program} {f : FuncId} {args : List Value} {w : World} {cin : List Chunk} {K K' : Value → List Chunk → Prop} (h : Ctr P f args w cin K) (hk : ∀ v cout, K v cout → K' v cout) : Ctr P f args w cin K' :=
  Calls.mono h fun _ _ ⟨v, cout, he, h1, h2⟩ => ⟨v, cout, he, hk _ _ h1, h2⟩
theorem run_call {f : FuncId} {l : List Operand} {vs : List Value} {ats : Array TypeId} {a : Act} {w : World} (hf : FrOk C.N fr a) (hl : evs fr l = some vs) (hc : ∀ args w, (callFunc f args).run C.P w = .ok (.enter f args) w) :
    (execOp a.eval ⟨d, .call { callee := .value (.func f), args := l.toArray, argTypes := ats }, ty, pos, af, gd⟩).run C.P w = .ok (.enter f vs.toArray) w := by
  simp [execOp, resolve, invoke, Deferred.ofValue, Act.eval, ← evs_ok hf hl, hc]

/-- A call that turns nothing that was there. -/
theorem t_call {f : FuncId} {l : List Operand} {vs : List Value} {ats : Array TypeId} {K : Value → List Chunk → Prop} (hl : evs fr l = some vs) (hc : ∀ args w, (callFunc f args).run C.P w = .ok (.enter f args) w)
    (h : ∀ w, Inv C.w0 C.S cs w → Ctr C.P f vs w [] K) :
    OpT C ⟨d, .call { callee := .value (.func f), args := l.toArray, argTypes := ats }, ty, pos, af, gd⟩ fr cs false (fun v cs' => ∃ news, K v news ∧ cs' = cs ++ news) := fun a w hf hinv next Q hn => by
  unfold Oper.wp
  rw [run_call hf hl hc]
  refine Calls.mono (h w hinv) fun e w' hp => ?_
  obtain ⟨v, cout, rfl, hk, hi⟩ := hp
  exact hn _ _ _ ⟨cout, hk, rfl⟩ (hinv.more hi) (fun _ => Pres.of_keep hi.keep)
/-- The operands' values where a guard holds. -/
inductive EvL (fr : Fr) (g : Bool) : List Operand → List Value → Prop
  | nil : EvL fr g [] []
  | cons {x : Operand} {v : Value} {l : List Operand} {vs : List Value} (h : Ev fr g x v) (t : EvL fr g l vs) : EvL fr g (x :: l) (v :: vs)
theorem EvL.ok {N : Nat} {a : Act} {g : Bool} (hf : FrOk N fr a) (hg : g = true) {l : List Operand} {vs : List Value} (h : EvL fr g l vs) : l.map a.eval = vs := by
  induction h with
  | nil => rfl
  | cons h _ ih => simp [h.eval hf hg, ih]
/-- A guarded call that turns nothing and makes nothing. -/
theorem call_g {N : Nat} {g : Bool} {f : FuncId} {l : List Operand} {vs : List Value} {ats : Array TypeId} {v0 : Value} {a : Act} {w : World} {next : Act → World → Prop} {Q : Post} (hf : FrOk N fr a) (hg : g = true) (hl : EvL fr g l vs) (hc : ∀ args w, (callFunc f args).run C.P w = .ok (.enter f args) w)
    (h : Ctr C.P f vs w [] (fun v cs => v = v0 ∧ cs = [])) (hn : ∀ w', Keep [] w w' → next (a.put d v0) w') :
    (Oper.mk d (.call { callee := .value (.func f), args := l.toArray, argTypes := ats }) ty pos af gd).wp C.P a w next Q := by
  unfold Oper.wp
  have hr : (execOp a.eval ⟨d, .call { callee := .value (.func f), args := l.toArray, argTypes := ats }, ty, pos, af, gd⟩).run C.P w = .ok (.enter f vs.toArray) w := by
    simp [execOp, resolve, invoke, Deferred.ofValue, Act.eval, ← hl.ok hf hg, hc]
  rw [hr]
  refine Calls.mono h fun e w' hp => ?_
  obtain ⟨v, cout, rfl, ⟨rfl, rfl⟩, hi⟩ := hp
  exact hn w' hi.keep
theorem Inv.kept {w0 w w' : World} {S : List Nat} (hi : Inv w0 S cs w) (hk : Keep [] w w') : Inv w0 S cs w' := by
  have := hi.more (news := []) ⟨hk, by simp [blocks], by simp, by simp [blocks]⟩
  simpa using this
theorem wl_callg {d : Nat} {Q : Post} {ops : Array Oper} {rest : List Oper} {g : Bool} {f : FuncId} {l : List Operand} {vs : List Value} {ats : Array TypeId} {v0 : Value} (hg : GuardIs ops fr ⟨some d, .call { callee := .value (.func f), args := l.toArray, argTypes := ats }, ty, pos, af, gd⟩ g) (hl : EvL fr g l vs)
    (hc : ∀ args w, (callFunc f args).run C.P w = .ok (.enter f args) w) (h : g = true → ∀ w, Inv C.w0 C.S cs w → Ctr C.P f vs w [] (fun v cs => v = v0 ∧ cs = [])) (hd : Nat.blt d C.N = true)
    (hn : WL C ops Q rest ((d, bif g then v0 else undef) :: fr) cs) : WL C ops Q (⟨some d, .call { callee := .value (.func f), args := l.toArray, argTypes := ats }, ty, pos, af, gd⟩ :: rest) fr cs := fun a w hf hi => by
  refine wpList_step fun K hK => ?_
  rw [hg _ a hf]
  cases g with
  | true =>
    rw [if_pos rfl]
    exact call_g hf rfl hl hc (h rfl w hi) fun w' hk => hK _ _ (hn _ w' (hf.put (by simpa [Nat.blt_eq] using hd) _) (hi.kept hk))
  | false =>
    rw [if_neg (by simp)]
    exact hK _ _ (hn _ w (hf.put (by simpa [Nat.blt_eq] using hd) _) hi)
/-- A call that turns one chunk. -/
theorem t_call1 {f : FuncId} {l : List Operand} {vs : List Value} {ats : Array TypeId} {c : Chunk} {K : Value → Chunk → List Chunk → Prop} (hl : evs fr l = some vs) (hc : ∀ args w, (callFunc f args).run C.P w = .ok (.enter f args) w)
    (hu : At cs c mk) (h : ∀ w, Inv C.w0 C.S cs w → Ctr C.P f vs w [c] (fun v cout => ∃ c' news, cout = c' :: news ∧ K v c' news)) :
    OpT C ⟨d, .call { callee := .value (.func f), args := l.toArray, argTypes := ats }, ty, pos, af, gd⟩ fr cs true (fun v cs' => ∃ c' news, K v c' news ∧ cs' = mk c' ++ news) := fun a w hf hinv next Q hn => by
  unfold Oper.wp
  rw [run_call hf hl hc]
  refine Calls.mono (h w hinv) fun e w' hp => ?_
  obtain ⟨v, cout, rfl, ⟨c', news, rfl, hk⟩, hi⟩ := hp
  refine hn _ _ _ ⟨c', news, hk, rfl⟩ ?_ (fun e => by cases e)
  obtain ⟨rest, h1, h2, h3⟩ := (hu c').perm
  exact hinv.step (cin := [c]) (rest := rest) (cout := c' :: news) h1 (by
    refine ((h2.append_right news).trans ?_)
    simp only [List.cons_append]
    exact (List.perm_append_comm).cons c') hi.keep hi
/-- A call that turns several chunks. -/
theorem t_callN {f : FuncId} {l : List Operand} {vs : List Value} {ats : Array TypeId} {K : Value → List Chunk → Prop} (cin rest : List Chunk) (hl : evs fr l = some vs) (hc : ∀ args w, (callFunc f args).run C.P w = .ok (.enter f args) w)
    (hp : cs.Perm (cin ++ rest)) (h : ∀ w, Inv C.w0 C.S cs w → Ctr C.P f vs w cin K) :
    OpT C ⟨d, .call { callee := .value (.func f), args := l.toArray, argTypes := ats }, ty, pos, af, gd⟩ fr cs true (fun v cs' => ∃ cout, K v cout ∧ cs' = cout ++ rest) := fun a w hf hinv next Q hn => by
  unfold Oper.wp
  rw [run_call hf hl hc]
  refine Calls.mono (h w hinv) fun e w' hq => ?_
  obtain ⟨v, cout, rfl, hk, hi⟩ := hq
  exact hn _ _ _ ⟨cout, hk, rfl⟩ (hinv.step hp (.refl _) hi.keep hi) (fun e => by cases e)
end

/-! ### a function's beginning and end -/
def RetK (w : World) (S : List Nat) (K : Value → List Chunk → Prop) (e : Ending) (w' : World) : Prop := ∃ v cout, e = .returned v ∧ K v cout ∧ Inv w S cout w'
def initFr : Nat → List Value → Fr
  | _, [] => []
  | i, v :: vs => (i, v) :: initFr (i + 1) vs
theorem look_initFr : ∀ {vs : List Value} {i t : Nat} {v : Value}, look (initFr i vs) t = some v → ∃ j, t = i + j ∧ vs[j]? = some v
  | [], _, _, _, h => by cases h
  | u :: vs, i, t, v, h => by
    simp only [initFr, look] at h
    by_cases e : i = t
    · subst e
      simp at h
      exact ⟨0, rfl, by simp [h]⟩
    have e' : Nat.beq i t = false := by cases h' : Nat.beq i t with | false => rfl | true => exact absurd (Nat.eq_of_beq_eq_true h') e
    rw [e'] at h
    obtain ⟨j, h1, h2⟩ := look_initFr h
    exact ⟨j + 1, by omega, by simpa using h2⟩
theorem frOk_init {N : Nat} {vs : List Value} (h : vs.length ≤ N) : FrOk N (initFr 0 vs) { tmps := vs.toArray ++ Array.replicate (N - vs.toArray.size) undef, defers := [] } := by
  refine ⟨by simp; omega, rfl, fun t v hl => ?_⟩
  obtain ⟨j, e, hj⟩ := look_initFr hl
  obtain rfl : t = j := by omega
  have hlt : t < vs.length := (List.getElem?_eq_some_iff.1 hj).1
  rw [List.getElem?_eq_getElem hlt] at hj
  simp only [Option.some.injEq] at hj
  simp [Array.getElem?_append, hlt, hj]
theorem Inv.start (w : World) : Inv w (blocks []) [] w := ⟨Keep.refl _ _, by simp [blocks], by simp, by simp [blocks]⟩
theorem fn_ctr {P : Program} {f : FuncId} {fn : Func} {c : Code} {N : Nat} {args : List Value} {w : World} {cin : List Chunk} {K : Value → List Chunk → Prop} (hf : P.funcs[f]? = some fn) (hb : fn.body = some c) (hn : fn.ntmps = N) (hl : Nat.ble args.length N = true)
    (hi : Inv w (blocks cin) cin w) (h : WC ⟨P, N, w, blocks cin⟩ c (bodyPost P fn (RetK w (blocks cin) K)) (initFr 0 args) cin) : Ctr P f args w cin K := by
  subst hn
  exact calls_of_wp hf hb (h _ w (frOk_init (by simpa [Nat.ble_eq] using hl)) hi)

section
variable {C : Cx} {fr : Fr} {cs cs' : List Chunk} {fn : Func} {K : Value → List Chunk → Prop}
theorem ret_of {e : Exit} (he : e = .ret ∨ e = .normal) {v : Value} (hs : cs'.Sublist cs) (hr : ∀ a w, FrOk C.N fr a → Inv C.w0 C.S cs w → (results fn a.tmps).run C.P w = .ok v w) (hk : K v cs') : QOk C (bodyPost C.P fn (RetK C.w0 C.S K)) e fr cs := fun a w hf hi => by
  have : a.defers = [] ∧ ∃ v, (results fn a.tmps).run C.P w = .ok v w ∧ RetK C.w0 C.S K (.returned v) w := ⟨hf.defs, v, hr a w hf hi, v, cs', rfl, hk, hi.drop hs⟩
  rcases he with rfl | rfl <;> exact this
/-- One result in a slot. -/
theorem ret1 {e : Exit} {t : Nat} {v : Value} (he : e = .ret ∨ e = .normal) (hs : cs'.Sublist cs) (h0 : fn.results = #[.tmp t]) (h1 : look fr t = some v) (hk : K v cs') : QOk C (bodyPost C.P fn (RetK C.w0 C.S K)) e fr cs :=
  ret_of he hs (fun a w hf _ => by rw [results_tmp h0, hf.at_ t v h1]) hk
theorem ret2 {e : Exit} {t u : Nat} {v v' : Value} (he : e = .ret ∨ e = .normal) (hs : cs'.Sublist cs) (h0 : fn.results = #[.tmp t, .tmp u]) (h1 : look fr t = some v) (h2 : look fr u = some v') (hk : K (.tuple #[v, v']) cs') : QOk C (bodyPost C.P fn (RetK C.w0 C.S K)) e fr cs :=
  ret_of he hs (fun a w hf _ => by rw [results_tmp2 h0, hf.at_ t v h1, hf.at_ u v' h2]) hk
theorem ret0 {e : Exit} (he : e = .ret ∨ e = .normal) (hs : cs'.Sublist cs) (h0 : fn.results = #[]) (hk : K (.tuple #[]) cs') : QOk C (bodyPost C.P fn (RetK C.w0 C.S K)) e fr cs :=
  ret_of he hs (fun a w hf _ => by rw [results_none h0]) hk
theorem loadVar_row {w : World} {T bb t : Nat} {xs : List Value} (hT : ∀ w, (isAgg T).run C.P w = .ok true w) (hz : ∀ w, (sizeOf T).run C.P w = .ok xs.length w) (hi : Inv C.w0 C.S cs w) (hc : Has cs (row bb xs t)) : (loadVar T ⟨bb, 0, none⟩).run C.P w = .ok (.agg xs.toArray) w := by
  have h := run_loadCells_list (P := C.P) w ⟨bb, 0, none⟩ xs (fun j v hj => by
    rw [Addr.add_lit, hi.cell hc]
    simpa using hj)
  simp [loadVar, hT, hz, h]
/-- One result in memory. -/
theorem retC {e : Exit} {t T bb tt : Nat} {xs : List Value} (he : e = .ret ∨ e = .normal) (hs : cs'.Sublist cs) (h0 : fn.results = #[.cell t T]) (h1 : look fr t = some (.pointer (some ⟨bb, 0, none⟩))) (hc : Has cs (row bb xs tt))
    (hT : ∀ w, (isAgg T).run C.P w = .ok true w) (hz : ∀ w, (sizeOf T).run C.P w = .ok xs.length w) (hk : K (.agg xs.toArray) cs') : QOk C (bodyPost C.P fn (RetK C.w0 C.S K)) e fr cs :=
  ret_of he hs (fun a w hf hi => by
    have e1 := hf.at_ t _ h1
    simp only [Array.getD_eq_getD_getElem?] at e1
    simp [results, h0, e1, asAddr, loadVar_row hT hz hi hc]) hk
theorem retC1 {e : Exit} {t T bb tt u : Nat} {v : Value} {xs : List Value} (he : e = .ret ∨ e = .normal) (hs : cs'.Sublist cs) (h0 : fn.results = #[.cell t T, .tmp u]) (h1 : look fr t = some (.pointer (some ⟨bb, 0, none⟩))) (h2 : look fr u = some v) (hc : Has cs (row bb xs tt))
    (hT : ∀ w, (isAgg T).run C.P w = .ok true w) (hz : ∀ w, (sizeOf T).run C.P w = .ok xs.length w) (hk : K (.tuple #[.agg xs.toArray, v]) cs') : QOk C (bodyPost C.P fn (RetK C.w0 C.S K)) e fr cs :=
  ret_of he hs (fun a w hf hi => by
    have e1 := hf.at_ t _ h1
    have e2 := hf.at_ u _ h2
    simp only [Array.getD_eq_getD_getElem?] at e1 e2
    simp [results, h0, e1, e2, asAddr, loadVar_row hT hz hi hc]) hk
end
end Go.Ink
