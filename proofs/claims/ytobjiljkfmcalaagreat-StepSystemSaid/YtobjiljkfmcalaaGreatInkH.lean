/- More: rows whose cells are a list that is not written out, copy, max, arrays' elements; chunks that are many in one; what a call only reads. Nothing of the program. -/
import Derived.Test.YtobjiljkfmcalaaGreatInkG
import Derived.Laws.IdiomCopy
set_option linter.unusedSimpArgs false
set_option linter.unusedVariables false
namespace Go.Ink
open Go.RowKit

theorem wa_nilc {C : Cx} {Q : Post} {fr : Fr} {cs : List Chunk} {ops : Array Oper} {St : Dr} {fuel : Nat} {listed : Array Bool} (e sz : Nat) (h : WA C St ops Q fuel listed fr (cs ++ [slv e sz none 0 0 []])) : WA C St ops Q fuel listed fr cs := fun a w hf hi => h a w hf (hi.more (inv_nil w [] e sz))
theorem wi_nilc {C : Cx} {Q : Post} {fr : Fr} {cs : List Chunk} {ops : Array Oper} {St : Dr} {fuel : Nat} {listed : Array Bool} {i : Nat} (e sz : Nat) (h : WI C St ops Q fuel listed i fr (cs ++ [slv e sz none 0 0 []])) : WI C St ops Q fuel listed i fr cs := fun a w hf hi => h a w hf (hi.more (inv_nil w [] e sz))
theorem slv_some {w : World} {e n c : Nat} {A : Option Addr} {xs : List Value} (h : (slv e 1 A n c xs).ok w) (hn : 0 < n) : ∃ b, A = some ⟨b, 0, none⟩ := by
  rcases h.2 with ⟨_, h'⟩ | ⟨g', cap', cur, h', _⟩
  · omega
  simp only [Value.slice.injEq] at h'
  exact ⟨g', h'.1⟩
/-! ### chunks that are many in one -/
/-- Some of a family of chunks, over the same blocks. -/
def exC {α : Type} (bs : List Nat) (F : α → List Chunk) (hb : ∀ a, blocks (F a) = bs) (p : α → Prop) : Chunk :=
  .gen bs (fun w => ∃ a, p a ∧ (blocks (F a)).Nodup ∧ ∀ c, c ∈ F a → c.ok w)
    (fun w w' h ⟨a, h1, h2, h3⟩ => ⟨a, h1, h2, fun c hc => c.loc w w' (fun b hbc => h b (by rw [← hb a]; exact mem_blocks.2 ⟨c, hc, hbc⟩)) (h3 c hc)⟩)
    (fun w ⟨a, h1, h2, h3⟩ b hbb => by
      rw [← hb a] at hbb
      obtain ⟨c, hc, hbc⟩ := mem_blocks.1 hbb
      exact c.lt w (h3 c hc) b hbc)
theorem exC_bs {α : Type} {bs : List Nat} {F : α → List Chunk} {hb : ∀ a, blocks (F a) = bs} {p : α → Prop} : (exC bs F hb p).bs = bs := rfl
theorem Inv.perm {w0 w : World} {S : List Nat} {cs cs' : List Chunk} (h : Inv w0 S cs w) (hp : cs.Perm cs') : Inv w0 S cs' w :=
  ⟨h.keep, ((hp.flatMap_right Chunk.bs).nodup_iff).1 h.nodup, fun c hc => h.ok c (hp.mem_iff.2 hc), fun b hb => by
    obtain ⟨c, hc, hbc⟩ := mem_blocks.1 hb
    exact h.own b (mem_blocks.2 ⟨c, hp.mem_iff.2 hc, hbc⟩)⟩
theorem Inv.openE {α : Type} {w0 w : World} {S : List Nat} {rest : List Chunk} {bs : List Nat} {F : α → List Chunk} {hb : ∀ a, blocks (F a) = bs} {p : α → Prop} (h : Inv w0 S (exC bs F hb p :: rest) w) : ∃ a, p a ∧ Inv w0 S (F a ++ rest) w := by
  obtain ⟨a, h1, h2, h3⟩ := h.ok _ (List.mem_cons_self ..)
  have e : blocks (F a ++ rest) = blocks (exC bs F hb p :: rest) := by rw [blocks_append, blocks_cons, hb a]; rfl
  refine ⟨a, h1, h.keep, by rw [e]; exact h.nodup, fun c hc => ?_, by rw [e]; exact h.own⟩
  rcases List.mem_append.1 hc with hc | hc
  · exact h3 c hc
  exact h.ok c (List.mem_cons_of_mem _ hc)
theorem Inv.closeE {α : Type} {w0 w : World} {S : List Nat} {rest : List Chunk} {bs : List Nat} {F : α → List Chunk} {hb : ∀ a, blocks (F a) = bs} {p : α → Prop} (a : α) (hp : p a) (h : Inv w0 S (F a ++ rest) w) : Inv w0 S (exC bs F hb p :: rest) w := by
  have e : blocks (F a ++ rest) = blocks (exC bs F hb p :: rest) := by rw [blocks_append, blocks_cons, hb a]; rfl
  have hn := h.nodup
  rw [blocks_append] at hn
  refine ⟨h.keep, by rw [← e]; exact h.nodup, fun c hc => ?_, by rw [← e]; exact h.own⟩
  rcases List.mem_cons.1 hc with rfl | hc
  · exact ⟨a, hp, (List.nodup_append.1 hn).1, fun c hc => h.ok c (List.mem_append.2 (.inl hc))⟩
  exact h.ok c (List.mem_append.2 (.inr hc))
/-- Some chunks are picked out; what is left. -/
inductive Split : List Chunk → List Chunk → List Chunk → Prop
  | nil (cs : List Chunk) : Split [] cs cs
  | cons {cs rest r : List Chunk} {c : Chunk} {cs' : List Chunk} (h : Del cs c rest) (s : Split cs' rest r) : Split (c :: cs') cs r
theorem Split.perm {cs' cs r : List Chunk} (h : Split cs' cs r) : cs.Perm (cs' ++ r) := by
  induction h with
  | nil cs => exact .refl _
  | cons h _ ih => exact h.perm.trans (ih.cons _)

section
variable {C : Cx} {Q : Post} {fr : Fr} {cs : List Chunk} {ops : Array Oper} {rest : List Oper} {x : Code} {α : Type} {bs : List Nat} {F : α → List Chunk} {hb : ∀ a, blocks (F a) = bs} {p : α → Prop} {r : List Chunk}
theorem wc_open (hd : Del cs (exC bs F hb p) r) (h : ∀ a, p a → WC C x Q fr (F a ++ r)) : WC C x Q fr cs := fun a w hf hi => by
  obtain ⟨a', h1, h2⟩ := (hi.perm hd.perm).openE
  exact h a' h1 a w hf h2
theorem wl_open {l : List Oper} (hd : Del cs (exC bs F hb p) r) (h : ∀ a, p a → WL C ops Q l fr (F a ++ r)) : WL C ops Q l fr cs := fun a w hf hi => by
  obtain ⟨a', h1, h2⟩ := (hi.perm hd.perm).openE
  exact h a' h1 a w hf h2
theorem wc_close (a : α) (hp : p a) (hs : Split (F a) cs r) (h : WC C x Q fr (exC bs F hb p :: r)) : WC C x Q fr cs := fun A w hf hi => h A w hf ((hi.perm hs.perm).closeE a hp)
theorem wl_close {l : List Oper} (a : α) (hp : p a) (hs : Split (F a) cs r) (h : WL C ops Q l fr (exC bs F hb p :: r)) : WL C ops Q l fr cs := fun A w hf hi => h A w hf ((hi.perm hs.perm).closeE a hp)
theorem qok_close {e : Exit} (a : α) (hp : p a) (hs : Split (F a) cs r) (h : QOk C Q e fr (exC bs F hb p :: r)) : QOk C Q e fr cs := fun A w hf hi => h A w hf ((hi.perm hs.perm).closeE a hp)
end
/-- The whole of a call's chunks. -/
theorem exC_ok {α : Type} {bs : List Nat} {F : α → List Chunk} {hb : ∀ a, blocks (F a) = bs} {p : α → Prop} {w : World} (h : (exC bs F hb p).ok w) : ∃ a, p a ∧ ∀ c, Has (F a) c → c.ok w := by
  obtain ⟨a, h1, _, h3⟩ := h
  exact ⟨a, h1, fun c hc => h3 c hc.mem⟩
/-- A call on a chunk that is many in one, shown of the many. -/
theorem ctr_E {P : Program} {f : FuncId} {args : List Value} {w : World} {α β : Type} {bs : List Nat} {F : α → List Chunk} {hb : ∀ a, blocks (F a) = bs} {p : α → Prop} {F' : β → List Chunk} {hb' : ∀ a, blocks (F' a) = bs} {p' : β → Prop} {K : Value → Prop}
    (hi : Inv w (blocks [exC bs F hb p]) [exC bs F hb p] w) (h : ∀ a, p a → Inv w (blocks (F a)) (F a) w → Ctr P f args w (F a) (fun v cout => K v ∧ ∃ a', p' a' ∧ cout = F' a')) : Ctr P f args w [exC bs F hb p] (fun v cout => K v ∧ cout = [exC bs F' hb' p']) := by
  obtain ⟨a, h1, h2⟩ := hi.openE
  have e : blocks [exC bs F hb p] = blocks (F a) := by rw [blocks_cons, blocks_nil, List.append_nil, hb a]; rfl
  rw [List.append_nil, e] at h2
  refine Calls.mono (h a h1 h2) ?_
  rintro en w' ⟨v, cout, rfl, ⟨hk, a', hp', rfl⟩, hi'⟩
  refine ⟨v, _, rfl, ⟨hk, rfl⟩, ?_⟩
  rw [e]
  exact Inv.closeE (rest := []) a' hp' (by rw [List.append_nil]; exact hi')
/-! ### what a call only reads -/
theorem Chunk.old {w0 w : World} {cs : List Chunk} {c : Chunk} (h : c.ok w0) (hi : Inv w0 [] cs w) : c.ok w := c.loc w0 w (fun b hb => hi.keep.block b (c.lt w0 h b hb) (by simp)) h
theorem Chunk.oldK {w0 w : World} {S : List Nat} {cs : List Chunk} {c : Chunk} (h : c.ok w0) (hi : Inv w0 S cs w) (hS : ∀ b, b ∈ c.bs → b ∉ S) : c.ok w := c.loc w0 w (fun b hb => hi.keep.block b (c.lt w0 h b hb) (hS b hb)) h
theorem old_row {w0 : World} {cs : List Chunk} {bb o t : Nat} {xs : List Value} {v : Value} (h : (row bb xs t).ok w0) (hv : xs[o]? = some v) : ∀ w, Inv w0 [] cs w → cells [(⟨bb, o, none⟩, v)] w := fun w hi z hz => by
  rw [List.mem_singleton] at hz
  subst hz
  have h1 : w.heap[bb]? = some (.cells xs.toArray t (0, 0)) := Chunk.old h hi
  simp [World.cell?, h1, hv]
theorem old_rows {w0 : World} {cs : List Chunk} {bb o t : Nat} {xs vs : List Value} (h : (row bb xs t).ok w0) (hv : (xs.drop o).take vs.length = vs) : ∀ w, Inv w0 [] cs w → cells (cellsFrom ⟨bb, o, none⟩ 0 vs) w := fun w hi z hz => by
  obtain ⟨j, h1, h2⟩ := mem_cellsFrom hz
  rw [h2, Addr.add_lit]
  have h3 : w.heap[bb]? = some (.cells xs.toArray t (0, 0)) := Chunk.old h hi
  have hj : j < vs.length := (List.getElem?_eq_some_iff.1 h1).1
  have h4 : xs[o + (0 + j)]? = some z.2 := by
    rw [← h1, ← hv, List.getElem?_take, if_pos hj, List.getElem?_drop]
    simp
  rw [Nat.zero_add] at h4 ⊢
  simp [World.cell?, h3, h4]
theorem slvok_rd {w : World} {e sz n c : Nat} {A : Option Addr} {xs : List Value} (h : (slv e sz A n c xs).ok w) : RdV w sz A n c xs := slv_rd h

section
variable {C : Cx} {fr : Fr} {cs : List Chunk} {d : Option Tmp} {ty : TypeId} {pos : String} {af : Array Edge} {gd : Option (Nat × Bool)} {v : Value} {x y : Operand} {T T' : TypeId} {mk : Chunk → List Chunk} {g : Bool} {V : World → Prop}
/-- A store of one cell into a row. -/
theorem t_storeR {bb o t : Nat} {xs : List Value} (hT : ∀ w, (sizeOf T).run C.P w = .ok 1 w) (hx : ev fr x = some (.pointer (some ⟨bb, o, none⟩))) (hy : ev fr y = some v) (h1 : v.oneCell' = true) (hu : At cs (row bb xs t) mk) (ho : o < xs.length) :
    OpT C ⟨d, .store T x y, ty, pos, af, gd⟩ fr cs true (fun u cs' => u = undef ∧ cs' = mk (row bb (xs.set o v) t)) := fun a w hf hi next Q h => by
  have hc := hi.cell hu.has o
  have hfz := hi.free hu.has o
  have hcs : v.cells = #[v] := by cases v <;> first | rfl | cases h1
  have hr : (execOp a.eval ⟨d, .store T x y, ty, pos, af, gd⟩).run C.P w = .ok .skip (w.setCell ⟨bb, o, none⟩ v) := by
    simp [execOp, hf.ev hx, hf.ev hy, Instr.storeAt, Instr.sureAddr, storeVar, hT, hcs, storeCells, Addr.add_lit, run_store _ _ _ v _ h1, hc, hfz, ho]
  unfold Oper.wp
  rw [hr]
  exact h _ _ _ ⟨rfl, rfl⟩ (hi.set o v (hu _)) (fun e => by cases e)
/-- A store of a struct or an array into a part of a row. -/
theorem t_storeRN {bb o t n : Nat} {xs vs : List Value} (hT : ∀ w, (sizeOf T).run C.P w = .ok n w) (hx : ev fr x = some (.pointer (some ⟨bb, o, none⟩))) (hy : ev fr y = some (.agg vs.toArray)) (h1 : ∀ u ∈ vs, u.oneCell' = true) (hu : At cs (row bb xs t) mk) (hn : vs.length = n) (ho : o + vs.length ≤ xs.length) :
    OpT C ⟨d, .store T x y, ty, pos, af, gd⟩ fr cs true (fun u cs' => u = undef ∧ cs' = mk (row bb (xs.take o ++ vs ++ xs.drop (o + vs.length)) t)) := fun a w hf hi next Q h => by
  subst hn
  have hg : w.heap[bb]? = some (.cells xs.toArray t (0, 0)) := hi.get hu.has
  have hst := run_storeCells_at C.P bb o t vs 0 xs.toArray w hg (by simpa using ho) h1
  simp only [Nat.add_zero] at hst
  have hr : (execOp a.eval ⟨d, .store T x y, ty, pos, af, gd⟩).run C.P w = .ok .skip (w.setRow bb (xs.take o ++ vs ++ xs.drop (o + vs.length)).toArray) := by
    simp [execOp, hf.ev hx, hf.ev hy, Instr.storeAt, Instr.sureAddr, storeVar, hT, Value.cells, hst]
  have hsame : ∀ (k : Nat) (cur : Array Value), k ≠ bb → (w.setRow bb cur).heap[k]? = w.heap[k]? := fun k cur hk => by
    simp only [World.setRow, Array.getElem?_modify]
    rw [if_neg (by omega)]
  have hsz : ∀ cur, (w.setRow bb cur).heap.size = w.heap.size := fun cur => by simp [World.setRow]
  unfold Oper.wp
  rw [hr]
  refine h _ _ _ ⟨rfl, rfl⟩ (hi.upd (hu _) ⟨rfl, rfl, rfl, by rw [hsz]; exact Nat.le_refl _, fun k _ hk => hsame k _ (by simpa [row, Chunk.bs] using hk)⟩ ⟨⟨rfl, rfl, rfl, by rw [hsz]; exact Nat.le_refl _, fun k _ hk => hsame k _ (by simpa [row, Chunk.bs] using hk)⟩, by simp [blocks, row, Chunk.bs], ?_, ?_⟩) (fun e => by cases e)
  · intro c hc
    simp only [List.mem_singleton] at hc
    subst hc
    show (w.setRow bb _).heap[bb]? = _
    simp [World.setRow, Array.getElem?_modify, hg]
  intro k hk
  left
  simpa [blocks, row, Chunk.bs] using hk
/-- An element of an array that is a value. -/
theorem y_indexV {n e j : Nat} {i : Int} {k : IntKind} {vs : List Value} (hT : C.P.underlying T = some (.array n e)) (he : ∀ w, (isAgg e).run C.P w = .ok false w) (hs : ∀ w, (sizeOf e).run C.P w = .ok 1 w) (hx : Ev fr g x (.agg vs.toArray)) (hy : Ev fr g y (.int k i)) (hi : g = true → i = (j : Int)) (hj : g = true → j < n) (hv : g = true → vs[j]? = some v) :
    OpY C ⟨d, .index T x y, ty, pos, af, gd⟩ fr g Any v := fun A w hf _ hg => by
  have h1 := hx.eval hf hg
  have h2 := hy.eval hf hg
  rw [hi hg] at h2
  have h3 := hj hg
  have h4 := hv hg
  have hr : (Instr.index T (.agg vs.toArray) (.int k (j : Int))).run C.P w = .ok v w := by
    simp [Instr.index, asIntOf, run_underlying hT, h3, hs, part, he, h4]
  simp [execOp, h1, h2, hr]
theorem y_max {k : IntKind} {a b : Int} (hx : Ev fr g x (.int k a)) (hy : Ev fr g y (.int k b)) {r : Int} (hr : (if b > a then b else a) = r) : OpY C ⟨d, .call { callee := .builtin .max, args := #[x, y], argTypes := #[T, T'] }, ty, pos, af, gd⟩ fr g Any (.int k r) := fun A w hf _ hg => by
  subst hr
  simp [execOp, resolve, invoke, builtin, hx.eval hf hg, hy.eval hf hg, Builtin.max_, Builtin.max2]
theorem zero_of {P : Program} {T : TypeId} {z : Value} (h : (P.info? T).bind (·.zero) = some z) : ∀ w, (zeroValue T).run P w = .ok z w := fun w => by
  obtain ⟨i, hi, hz⟩ := Option.bind_eq_some_iff.1 h
  simp [zeroValue, typeInfo, hi, hz]
/-- A new variable with what a value has, whatever its type's form. -/
theorem t_boxL {xs : List Value} (hx : ev fr x = some (.agg xs.toArray)) :
    OpT C ⟨d, .box T x, ty, pos, af, gd⟩ fr cs false (fun v cs' => ∃ b, v = .pointer (some ⟨b, 0, none⟩) ∧ cs' = cs ++ [row b xs T]) := t_box hx rfl
/-- The zero value of a struct or an array. -/
theorem y_build00 {vs : List Value} (hz : (C.P.info? T).bind (·.zero) = some (.agg vs.toArray)) (hT : (∃ fs, C.P.underlying T = some (.struct fs) ∧ fs.toList.all (fun f => (C.P.info? f.type).isSome) = true) ∨ ∃ n e s, C.P.underlying T = some (.array n e) ∧ ∀ w, (sizeOf e).run C.P w = .ok s w) :
    OpY C ⟨d, .build T #[], ty, pos, af, gd⟩ fr g Any (.agg vs.toArray) := by
  rcases hT with ⟨fs, hT, hf⟩ | ⟨n, e, s, hT, hs⟩
  · exact y_build (ps := []) rfl hT (zero_of hz) rfl hf rfl (.nil _)
  exact y_buildA (ps := []) rfl hT (zero_of hz) rfl hs rfl (.nil _)
/-! ### copy -/
theorem setCells_block (w : World) (b o : Nat) (vs : List Value) : ∀ k, k ≠ b → (w.setCells b o vs).heap[k]? = w.heap[k]? := by
  induction vs generalizing w o with
  | nil => intro k _; rfl
  | cons v vs ih =>
    intro k hk
    simp only [World.setCells]
    rw [ih _ _ k hk]
    exact Below.heap_setCell w _ v k (by simpa using hk)
theorem t_copy {bb o dLen dCap e n c sLen sCap : Nat} {A : Option Addr} {xs ys : List Value} (hx : ev fr x = some (.slice (some ⟨bb, o, none⟩) dLen dCap)) (hy : ev fr y = some (.slice A sLen sCap)) (hu : At cs (slv e 1 (some ⟨bb, 0, none⟩) n c xs) mk)
    (ht : C.P.underlying T = some (.slice e)) (hs : (C.P.info? e).map (·.size) = some 1) (hr : ∀ w, Inv C.w0 C.S cs w → RdV w 1 A sLen sCap ys) (h1 : ∀ u ∈ ys, u.oneCell' = true) (hfit : o + min sLen dLen ≤ n) :
    OpT C ⟨d, .call { callee := .builtin .copy, args := #[x, y], argTypes := #[T, T'] }, ty, pos, af, gd⟩ fr cs true (fun v cs' => v = .int .i64 (min sLen dLen : Nat) ∧ cs' = mk (slv e 1 (some ⟨bb, 0, none⟩) n c (xs.take o ++ ys.take (min sLen dLen) ++ xs.drop (o + min sLen dLen)))) := fun a w hf hi next Q h => by
  have hrd := hr w hi
  have hyl := hrd.len
  have hown : w.ownsRow 0 e 1 (.slice (some ⟨bb, 0, none⟩) n c) n xs := hi.get hu.has
  have hxl := hown.1
  obtain ⟨hl0, h2⟩ := hown
  rcases h2 with ⟨hv, _⟩ | ⟨g', cap, cur, hv, hg0, hh, hnc, hcm, hcs, htk⟩
  · cases hv
  simp only [Value.slice.injEq, Option.some.injEq, Addr.mk.injEq, and_true, true_and] at hv
  obtain ⟨rfl, rfl⟩ := hv
  simp only [Nat.mul_one] at hl0 htk hcs hyl
  obtain ⟨m, hm⟩ : ∃ m, m = min sLen dLen := ⟨_, rfl⟩
  have hm' : Nat.min sLen dLen = m := by rw [hm]
  rw [← hm] at hfit h
  have htl : (ys.take m).length = m := by rw [List.length_take]; omega
  have hfinal : (cur.toList.take o ++ ys.take m ++ cur.toList.drop (o + (ys.take m).length)).take n = xs.take o ++ ys.take m ++ xs.drop (o + m) := by
    rw [htl, ← htk]
    have hcl : cur.toList.length = c := by simpa using hcs
    apply List.ext_getElem?
    intro j
    simp only [List.getElem?_take, List.getElem?_append, List.length_append, List.length_take, List.getElem?_drop, htl]
    have e1 : min o cur.toList.length = o := by omega
    have e2 : min o (min n cur.toList.length) = o := by omega
    rw [e1, e2]
    by_cases hjn : j < n
    · by_cases hj1 : j < o
      · simp [hjn, hj1, show j < o + m by omega]
      by_cases hj2 : j < o + m
      · simp [hjn, hj1, hj2]
      simp only [hjn, hj2, if_true, if_false]
      rw [if_pos (by omega)]
    have hj1 : ¬ j < o + m := by omega
    simp only [hjn, hj1, if_false]
    rw [if_neg (by omega)]
  have key : ∃ w', (Builtin.copy_ #[T, T'] ty #[.slice (some ⟨bb, o, none⟩) dLen dCap, .slice A sLen sCap]).run C.P w = .ok (goInt m) w' ∧ Keep [bb] w w' ∧ w'.ownsRow 0 e 1 (.slice (some ⟨bb, 0, none⟩) n c) n (xs.take o ++ ys.take m ++ xs.drop (o + m)) := by
    by_cases hm0 : m = 0
    · refine ⟨w, ?_, Keep.refl _ _, ?_⟩
      · have := run_copy_none (P := C.P) w T T' ty e (some ⟨bb, o, none⟩) A dLen dCap sLen sCap ht hs (by rw [hm', hm0])
        rw [this, hm0]; rfl
      rw [hm0]
      simp only [List.take_zero, List.append_nil, Nat.add_zero, List.take_append_drop]
      exact ⟨by simpa using hl0, .inr ⟨bb, c, cur, rfl, hg0, hh, hnc, hcm, by simpa using hcs, by simpa using htk⟩⟩
    cases A with
    | none => have := (hrd.nil rfl).1; omega
    | some ad =>
      have hrow := run_copy_row C.P w T T' ty e bb o dLen dCap ad sLen sCap cur e (ys.take m) ht hs hh (by rw [htl, hm']) (fun j v hj => by
        rw [List.getElem?_take] at hj
        split at hj
        · exact hrd.at_ ad rfl j v hj
        cases hj) (by rw [htl, hcs]; omega) (fun v hv => h1 v (List.mem_of_mem_take hv))
      rw [htl] at hrow
      rw [htl] at hfinal
      refine ⟨_, hrow, ⟨rfl, rfl, rfl, by simp [World.setRow], fun k _ hk => ?_⟩, ?_⟩
      · simp only [World.setRow, Array.getElem?_modify]
        rw [if_neg (by simp at hk; omega)]
      refine ⟨?_, .inr ⟨bb, c, (cur.toList.take o ++ ys.take m ++ cur.toList.drop (o + m)).toArray, rfl, hg0, ?_, hnc, hcm, ?_, ?_⟩⟩
      · simp only [List.length_append, List.length_take, List.length_drop, hl0, Nat.mul_one]; omega
      · simp [World.setRow, Array.getElem?_modify, hh]
      · have : cur.toList.length = c := by simpa using hcs
        simp only [List.size_toArray, List.length_append, List.length_take, List.length_drop, this, Nat.mul_one]; omega
      simpa using hfinal
  obtain ⟨w', hrun, hk, ho⟩ := key
  have hr' : (execOp a.eval ⟨d, .call { callee := .builtin .copy, args := #[x, y], argTypes := #[T, T'] }, ty, pos, af, gd⟩).run C.P w = .ok (.value (goInt m)) w' := by
    simp [execOp, resolve, invoke, builtin, hf.ev hx, hf.ev hy, hrun]
  unfold Oper.wp
  rw [hr']
  refine h _ _ _ ⟨rfl, rfl⟩ (hi.upd (hu _) (by simpa [Chunk.bs, ab] using hk) (inv_own (by simpa [Chunk.bs, ab] using hk) ho fun a ha => ?_)) (fun e => by cases e)
  obtain rfl : (⟨bb, 0, none⟩ : Addr) = a := by simpa using ha
  left; simp [Chunk.bs, ab]
/-- A call that turns some chunks. -/
theorem t_callS {f : FuncId} {l : List Operand} {vs : List Value} {ats : Array TypeId} {K : Value → List Chunk → Prop} (cin : List Chunk) {rest : List Chunk} (hl : evs fr l = some vs) (hc : ∀ args w, (callFunc f args).run C.P w = .ok (.enter f args) w)
    (hp : Split cin cs rest) (h : ∀ w, Inv C.w0 C.S cs w → Inv w (blocks cin) cin w → Ctr C.P f vs w cin K) :
    OpT C ⟨d, .call { callee := .value (.func f), args := l.toArray, argTypes := ats }, ty, pos, af, gd⟩ fr cs true (fun v cs' => ∃ cout, K v cout ∧ cs' = cout ++ rest) :=
  t_callN cin rest hl hc hp.perm fun w hi => h w hi ⟨Keep.refl _ _, by
    have := ((hp.perm.flatMap_right Chunk.bs).nodup_iff).1 hi.nodup
    rw [show List.flatMap Chunk.bs (cin ++ rest) = blocks cin ++ blocks rest from blocks_append _ _] at this
    exact (List.nodup_append.1 this).1, fun c hc => hi.ok c (hp.perm.mem_iff.2 (List.mem_append.2 (.inl hc))), fun b hb => .inl hb⟩
end

section
variable {C : Cx} {fr : Fr} {cs cs' : List Chunk} {fn : Func} {K : Value → List Chunk → Prop}
/-- Results in slots and in memory. -/
theorem retTC {e : Exit} {t T bb tt u : Nat} {v : Value} {xs : List Value} (he : e = .ret ∨ e = .normal) (hs : cs'.Sublist cs) (h0 : fn.results = #[.tmp u, .cell t T]) (h2 : look fr u = some v) (h1 : look fr t = some (.pointer (some ⟨bb, 0, none⟩))) (hc : Has cs (row bb xs tt))
    (hT : ∀ w, (isAgg T).run C.P w = .ok true w) (hz : ∀ w, (sizeOf T).run C.P w = .ok xs.length w) (hk : K (.tuple #[v, .agg xs.toArray]) cs') : QOk C (bodyPost C.P fn (RetK C.w0 C.S K)) e fr cs :=
  ret_of he hs (fun a w hf hi => by
    have e1 := hf.at_ t _ h1
    have e2 := hf.at_ u _ h2
    simp only [Array.getD_eq_getD_getElem?] at e1 e2
    simp [results, h0, e1, e2, asAddr, loadVar_row hT hz hi hc]) hk
theorem retCC {e : Exit} {t T bb tt t2 T2 b2 tt2 : Nat} {xs ys : List Value} (he : e = .ret ∨ e = .normal) (hs : cs'.Sublist cs) (h0 : fn.results = #[.cell t T, .cell t2 T2]) (h1 : look fr t = some (.pointer (some ⟨bb, 0, none⟩))) (h2 : look fr t2 = some (.pointer (some ⟨b2, 0, none⟩))) (hc : Has cs (row bb xs tt)) (hc2 : Has cs (row b2 ys tt2))
    (hT : ∀ w, (isAgg T).run C.P w = .ok true w) (hz : ∀ w, (sizeOf T).run C.P w = .ok xs.length w) (hT2 : ∀ w, (isAgg T2).run C.P w = .ok true w) (hz2 : ∀ w, (sizeOf T2).run C.P w = .ok ys.length w) (hk : K (.tuple #[.agg xs.toArray, .agg ys.toArray]) cs') : QOk C (bodyPost C.P fn (RetK C.w0 C.S K)) e fr cs :=
  ret_of he hs (fun a w hf hi => by
    have e1 := hf.at_ t _ h1
    have e2 := hf.at_ t2 _ h2
    simp only [Array.getD_eq_getD_getElem?] at e1 e2
    simp [results, h0, e1, e2, asAddr, loadVar_row hT hz hi hc, loadVar_row hT2 hz2 hi hc2]) hk
theorem ret3 {e : Exit} {t u s : Nat} {v v' v2 : Value} (he : e = .ret ∨ e = .normal) (hs : cs'.Sublist cs) (h0 : fn.results = #[.tmp t, .tmp u, .tmp s]) (h1 : look fr t = some v) (h2 : look fr u = some v') (h3 : look fr s = some v2) (hk : K (.tuple #[v, v', v2]) cs') : QOk C (bodyPost C.P fn (RetK C.w0 C.S K)) e fr cs :=
  ret_of he hs (fun a w hf _ => by
    have e1 := hf.at_ t _ h1
    have e2 := hf.at_ u _ h2
    have e3 := hf.at_ s _ h3
    simp only [Array.getD_eq_getD_getElem?] at e1 e2 e3
    simp [results, h0, e1, e2, e3]) hk
theorem ret4 {e : Exit} {t u s r : Nat} {v v' v2 v3 : Value} (he : e = .ret ∨ e = .normal) (hs : cs'.Sublist cs) (h0 : fn.results = #[.tmp t, .tmp u, .tmp s, .tmp r]) (h1 : look fr t = some v) (h2 : look fr u = some v') (h3 : look fr s = some v2) (h4 : look fr r = some v3) (hk : K (.tuple #[v, v', v2, v3]) cs') : QOk C (bodyPost C.P fn (RetK C.w0 C.S K)) e fr cs :=
  ret_of he hs (fun a w hf _ => by
    have e1 := hf.at_ t _ h1
    have e2 := hf.at_ u _ h2
    have e3 := hf.at_ s _ h3
    have e4 := hf.at_ r _ h4
    simp only [Array.getD_eq_getD_getElem?] at e1 e2 e3 e4
    simp [results, h0, e1, e2, e3, e4]) hk
end
end Go.Ink
