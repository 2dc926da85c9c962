/- A small calculus over the base's own weakest preconditions: what a frame's slots hold, which blocks are known, what a call leaves alone. Nothing of the program. -/
import Derived.WalkKit
import Derived.WalkSpells
import Derived.WalkLawsBesides
import Derived.OrdersHeld
import Derived.Deep.RegionHeld3
import Derived.Maps.AppendAt
import Derived.Lib.SliceRun
namespace Go.Ink
open Go.RowKit

/-! ### Frames: what the slots hold -/
abbrev Fr := List (Nat × Value)
def look : Fr → Nat → Option Value
  | [], _ => none
  | (k, v) :: fr, t => bif Nat.beq k t then some v else look fr t

structure FrOk (N : Nat) (fr : Fr) (a : Act) : Prop where
  size : a.tmps.size = N
  defs : a.defers = []
  at_ : ∀ t v, look fr t = some v → a.tmps.getD t undef = v

theorem FrOk.put {N d : Nat} {fr : Fr} {a : Act} (h : FrOk N fr a) (hd : d < N) (v : Value) : FrOk N ((d, v) :: fr) (a.put (some d) v) := by
  refine ⟨by simp [Act.put, h.size], h.defs, fun t u hl => ?_⟩
  simp only [look] at hl
  by_cases e : d = t
  · subst e
    simp only [Nat.beq_refl, cond_true, Option.some.injEq] at hl
    subst hl
    have : d < a.tmps.size := by rw [h.size]; exact hd
    simp [Act.put, this]
  have e' : Nat.beq d t = false := by cases h' : Nat.beq d t with | false => rfl | true => exact absurd (Nat.eq_of_beq_eq_true h') e
  rw [e'] at hl
  simp only [cond_false] at hl
  have := h.at_ t u hl
  simp only [Act.put, Array.getD_eq_getD_getElem?] at this ⊢
  rw [Array.getElem?_setIfInBounds_ne e]
  exact this
theorem FrOk.put_none {N : Nat} {fr : Fr} {a : Act} (h : FrOk N fr a) (v : Value) : FrOk N fr (a.put none v) := h

def putFr (d : Option Nat) (v : Value) (fr : Fr) : Fr := match d with | some d => (d, v) :: fr | none => fr
def dstOk (N : Nat) (d : Option Nat) : Bool := match d with | some d => Nat.blt d N | none => true
theorem FrOk.putO {N : Nat} {d : Option Nat} {fr : Fr} {a : Act} (h : FrOk N fr a) (hd : dstOk N d = true) (v : Value) : FrOk N (putFr d v fr) (a.put d v) := by
  cases d with
  | none => exact h
  | some d => exact h.put (by simpa [dstOk, Nat.blt_eq] using hd) v

def ev (fr : Fr) : Operand → Option Value
  | .tmp t => look fr t
  | .const v => some v
  | .global g => some (.pointer (some ⟨g, 0, none⟩))
  | .func f => some (.func (.func f) #[] #[])
theorem FrOk.ev {N : Nat} {fr : Fr} {a : Act} (h : FrOk N fr a) {x : Operand} {v : Value} (he : ev fr x = some v) : a.eval x = v := by
  cases x with
  | tmp t => exact h.at_ t v he
  | const u => exact Option.some.inj he
  | global g => exact Option.some.inj he
  | func f => exact Option.some.inj he

/-- The operand's value where the operation's guard holds. -/
def Ev (fr : Fr) (g : Bool) (x : Operand) (v : Value) : Prop := ∃ u, ev fr x = some u ∧ (g = true → u = v)
theorem Ev.eval {N : Nat} {fr : Fr} {g : Bool} {a : Act} {x : Operand} {v : Value} (h : Ev fr g x v) (hf : FrOk N fr a) (hg : g = true) : a.eval x = v := by
  obtain ⟨u, hu, e⟩ := h
  rw [← e hg]
  exact hf.ev hu

/-- One frame says at least what the other says. -/
def Wk (fr' : Fr) : Fr → Prop
  | [] => True
  | (t, v) :: fr => look fr' t = some v ∧ Wk fr' fr
theorem Wk.look {fr' : Fr} : ∀ {fr : Fr} {t : Nat} {v : Value}, Wk fr' fr → look fr t = some v → Ink.look fr' t = some v
  | [], _, _, _, h => by cases h
  | (k, u) :: fr, t, v, hw, h => by
    simp only [Ink.look] at h
    by_cases e : k = t
    · subst e
      simp only [Nat.beq_refl, cond_true, Option.some.injEq] at h
      subst h
      exact hw.1
    have e' : Nat.beq k t = false := by cases h' : Nat.beq k t with | false => rfl | true => exact absurd (Nat.eq_of_beq_eq_true h') e
    rw [e'] at h
    exact Wk.look hw.2 h
theorem FrOk.weaken {N : Nat} {fr fr' : Fr} {a : Act} (h : FrOk N fr' a) (hw : Wk fr' fr) : FrOk N fr a :=
  ⟨h.size, h.defs, fun t v hl => h.at_ t v (hw.look hl)⟩

/-! ### Chunks: blocks that are known; what is left alone -/
/-- The block that an address lies in. -/
def ab : Option Addr → List Nat
  | some a => [a.block]
  | none => []
/-- A block that is just these cells; a slice of the call's own; or what else is known of some blocks. -/
inductive Chunk where
  | row (b : Nat) (xs : List Value) (t : TypeId)
  | slv (e sz : Nat) (A : Option Addr) (n c : Nat) (xs : List Value)
  | gen (bs : List Nat) (ok : World → Prop) (loc : ∀ w w' : World, (∀ b, b ∈ bs → w'.heap[b]? = w.heap[b]?) → ok w → ok w') (lt : ∀ w : World, ok w → ∀ b, b ∈ bs → b < w.heap.size)
abbrev row (b : Nat) (xs : List Value) (t : TypeId) : Chunk := .row b xs t
abbrev slv (e sz : Nat) (A : Option Addr) (n c : Nat) (xs : List Value) : Chunk := .slv e sz A n c xs
def Chunk.bs : Chunk → List Nat
  | .row b _ _ => [b]
  | .slv _ _ A _ _ _ => ab A
  | .gen bs _ _ _ => bs
def Chunk.ok : Chunk → World → Prop
  | .row b xs t, w => w.heap[b]? = some (.cells xs.toArray t (0, 0))
  | .slv e sz A n c xs, w => w.ownsRow 0 e sz (.slice A n c) n xs
  | .gen _ ok _ _, w => ok w
theorem Chunk.loc (c : Chunk) (w w' : World) (h : ∀ b, b ∈ c.bs → w'.heap[b]? = w.heap[b]?) (hk : c.ok w) : c.ok w' := by
  match c, h, hk with
  | .row b xs t, h, hk =>
    show w'.heap[b]? = _
    rw [h b (by simp [Chunk.bs])]
    exact hk
  | .slv e sz A n c xs, h, hk =>
    obtain ⟨h1, h2⟩ := hk
    refine ⟨h1, ?_⟩
    rcases h2 with h2 | ⟨g, cap, cur, hv, hg, hh, r⟩
    · exact .inl h2
    refine .inr ⟨g, cap, cur, hv, hg, ?_, r⟩
    injection hv with hA
    subst hA
    rw [h g (by simp [Chunk.bs, ab])]
    exact hh
  | .gen bs ok loc lt, h, hk => exact loc w w' h hk
theorem Chunk.lt (c : Chunk) (w : World) (hk : c.ok w) : ∀ b, b ∈ c.bs → b < w.heap.size := by
  match c, hk with
  | .row b xs t, hk =>
    intro x hx
    simp only [Chunk.bs, List.mem_singleton] at hx
    subst hx
    have hk : w.heap[x]? = _ := hk
    exact (Array.getElem?_eq_some_iff.1 hk).1
  | .slv e sz A n c xs, hk =>
    intro b hb
    obtain ⟨h1, h2⟩ := hk
    rcases h2 with ⟨hv, _⟩ | ⟨g, cap, cur, hv, hg, hh, r⟩
    · injection hv with hA
      subst hA
      simp [Chunk.bs, ab] at hb
    injection hv with hA
    subst hA
    simp only [Chunk.bs, ab, List.mem_singleton] at hb
    subst hb
    exact (Array.getElem?_eq_some_iff.1 hh).1
  | .gen bs ok loc lt, hk => exact lt w hk

/-- From one world to another only the blocks of a list have turned, and there may be new ones. -/
structure Keep (S : List Nat) (w w' : World) : Prop where
  os : w'.os = w.os
  tape : w'.tape = w.tape
  output : w'.output = w.output
  size : w.heap.size ≤ w'.heap.size
  block : ∀ b, b < w.heap.size → b ∉ S → w'.heap[b]? = w.heap[b]?

theorem Keep.refl (S : List Nat) (w : World) : Keep S w w := ⟨rfl, rfl, rfl, Nat.le_refl _, fun _ _ _ => rfl⟩
theorem Keep.of_below {w w' : World} (h : Below w.heap.size w w') (S : List Nat) : Keep S w w' := ⟨h.os, h.tape, h.output, h.size, fun b hb _ => h.block b hb⟩
theorem Keep.below {w w' : World} (h : Keep [] w w') : Below w.heap.size w w' := ⟨h.os, h.tape, h.output, h.size, fun b hb => h.block b hb (by simp)⟩

def blocks (cs : List Chunk) : List Nat := cs.flatMap Chunk.bs

structure Inv (w0 : World) (S : List Nat) (cs : List Chunk) (w : World) : Prop where
  keep : Keep S w0 w
  nodup : (blocks cs).Nodup
  ok : ∀ c, c ∈ cs → c.ok w
  own : ∀ b, b ∈ blocks cs → b ∈ S ∨ w0.heap.size ≤ b

theorem mem_blocks {cs : List Chunk} {b : Nat} : b ∈ blocks cs ↔ ∃ c, c ∈ cs ∧ b ∈ c.bs := by simp [blocks, List.mem_flatMap]
theorem Inv.lt {w0 w : World} {S : List Nat} {cs : List Chunk} (h : Inv w0 S cs w) : ∀ b, b ∈ blocks cs → b < w.heap.size := by
  intro b hb
  obtain ⟨c, hc, hbc⟩ := mem_blocks.1 hb
  exact c.lt w (h.ok c hc) b hbc
theorem blocks_append (xs ys : List Chunk) : blocks (xs ++ ys) = blocks xs ++ blocks ys := by simp [blocks]
theorem blocks_cons (c : Chunk) (ys : List Chunk) : blocks (c :: ys) = c.bs ++ blocks ys := by simp [blocks]
theorem blocks_nil : blocks [] = [] := rfl

/-- The step: blocks of 'cin' alone may turn; 'cout' stands in their place. -/
theorem Inv.step {w0 w w' : World} {S : List Nat} {cs cs' cin rest cout : List Chunk} (h : Inv w0 S cs w) (hp : cs.Perm (cin ++ rest)) (hp' : cs'.Perm (cout ++ rest))
    (hk : Keep (blocks cin) w w') (hout : Inv w (blocks cin) cout w') : Inv w0 S cs' w' := by
  have hpb : ∀ b, b ∈ blocks cs ↔ b ∈ blocks cin ∨ b ∈ blocks rest := fun b => by
    rw [mem_blocks]
    simp only [hp.mem_iff, List.mem_append, mem_blocks]
    constructor
    · rintro ⟨c, hc | hc, hb⟩
      · exact .inl ⟨c, hc, hb⟩
      exact .inr ⟨c, hc, hb⟩
    rintro (⟨c, hc, hb⟩ | ⟨c, hc, hb⟩)
    · exact ⟨c, .inl hc, hb⟩
    exact ⟨c, .inr hc, hb⟩
  have hnd : (blocks cin ++ blocks rest).Nodup := by
    rw [← blocks_append]
    exact ((hp.flatMap_right Chunk.bs).nodup_iff).1 h.nodup
  obtain ⟨hn1, hn2, hn3⟩ := List.nodup_append.1 hnd
  have hlt := h.lt
  have hrest : ∀ c, c ∈ rest → c.ok w' := fun c hc => by
    refine c.loc w w' (fun b hb => hk.block b ?_ ?_) (h.ok c (hp.mem_iff.2 (List.mem_append.2 (.inr hc))))
    · exact hlt b ((hpb b).2 (.inr (mem_blocks.2 ⟨c, hc, hb⟩)))
    exact fun hin => hn3 b hin b (mem_blocks.2 ⟨c, hc, hb⟩) rfl
  have hmem' : ∀ c, c ∈ cs' ↔ c ∈ cout ∨ c ∈ rest := fun c => by rw [hp'.mem_iff, List.mem_append]
  refine ⟨⟨hk.os.trans h.keep.os, hk.tape.trans h.keep.tape, hk.output.trans h.keep.output, Nat.le_trans h.keep.size hk.size, fun b hb hS => ?_⟩, ?_, ?_, ?_⟩
  · refine (hk.block b (Nat.lt_of_lt_of_le hb h.keep.size) (fun hin => ?_)).trans (h.keep.block b hb hS)
    rcases h.own b ((hpb b).2 (.inl hin)) with h1 | h1
    · exact hS h1
    omega
  · have : (blocks cout ++ blocks rest).Nodup := by
      refine List.nodup_append.2 ⟨hout.nodup, hn2, fun x hx y hy => ?_⟩
      rintro rfl
      rcases hout.own x hx with h1 | h1
      · exact hn3 x h1 x hy rfl
      exact absurd (hlt x ((hpb x).2 (.inr hy))) (by omega)
    rw [← blocks_append] at this
    exact ((hp'.flatMap_right Chunk.bs).nodup_iff).2 this
  · intro c hc
    rcases (hmem' c).1 hc with hc | hc
    · exact hout.ok c hc
    exact hrest c hc
  intro b hb
  obtain ⟨c, hc, hbc⟩ := mem_blocks.1 hb
  rcases (hmem' c).1 hc with hc | hc
  · rcases hout.own b (mem_blocks.2 ⟨c, hc, hbc⟩) with h1 | h1
    · exact h.own b ((hpb b).2 (.inl h1))
    exact .inr (Nat.le_trans h.keep.size h1)
  exact h.own b ((hpb b).2 (.inr (mem_blocks.2 ⟨c, hc, hbc⟩)))

/-- Nothing that was there has turned; there are new chunks. -/
theorem Inv.more {w0 w w' : World} {S : List Nat} {cs news : List Chunk} (h : Inv w0 S cs w) (hout : Inv w [] news w') : Inv w0 S (cs ++ news) w' :=
  h.step (cin := []) (rest := cs) (cout := news) (List.Perm.refl _) List.perm_append_comm hout.keep hout
theorem sublist_blocks {cs cs' : List Chunk} (h : cs'.Sublist cs) : (blocks cs').Sublist (blocks cs) := by
  induction h with
  | slnil => exact List.Sublist.refl _
  | cons c _ ih => rw [blocks_cons]; exact ih.trans (List.sublist_append_right _ _)
  | cons_cons c _ ih => rw [blocks_cons, blocks_cons]; exact (List.Sublist.refl _).append ih
/-- A chunk is forgotten. -/
theorem Inv.drop {w0 w : World} {S : List Nat} {cs cs' : List Chunk} (h : Inv w0 S cs w) (hs : cs'.Sublist cs) : Inv w0 S cs' w :=
  ⟨h.keep, (sublist_blocks hs).nodup h.nodup, fun c hc => h.ok c (hs.subset hc), fun b hb => h.own b ((sublist_blocks hs).subset hb)⟩

/-- One chunk of a list is replaced. -/
inductive Upd : List Chunk → Chunk → Chunk → List Chunk → Prop
  | head (c c' : Chunk) (cs : List Chunk) : Upd (c :: cs) c c' (c' :: cs)
  | tail (d : Chunk) {cs cs' : List Chunk} {c c' : Chunk} (h : Upd cs c c' cs') : Upd (d :: cs) c c' (d :: cs')
theorem Upd.perm {cs cs' : List Chunk} {c c' : Chunk} (h : Upd cs c c' cs') : ∃ rest, cs.Perm ([c] ++ rest) ∧ cs'.Perm ([c'] ++ rest) ∧ c ∈ cs := by
  induction h with
  | head c c' cs => exact ⟨cs, .refl _, .refl _, by simp⟩
  | tail d _ ih =>
    obtain ⟨rest, h1, h2, h3⟩ := ih
    exact ⟨d :: rest, (h1.cons d).trans (List.perm_middle (l₁ := [_])).symm, (h2.cons d).trans (List.perm_middle (l₁ := [_])).symm, List.mem_cons_of_mem _ h3⟩
theorem Inv.upd {w0 w w' : World} {S : List Nat} {cs cs' : List Chunk} {c c' : Chunk} (h : Inv w0 S cs w) (hu : Upd cs c c' cs') (hk : Keep c.bs w w') (hout : Inv w c.bs [c'] w') : Inv w0 S cs' w' := by
  obtain ⟨rest, h1, h2, h3⟩ := hu.perm
  have e : blocks [c] = c.bs := by simp [blocks]
  exact h.step h1 h2 (by rw [e]; exact hk) (by rw [e]; exact hout)
inductive Has : List Chunk → Chunk → Prop
  | head (c : Chunk) (cs : List Chunk) : Has (c :: cs) c
  | tail (d : Chunk) {cs : List Chunk} {c : Chunk} (h : Has cs c) : Has (d :: cs) c
theorem Has.mem {cs : List Chunk} {c : Chunk} (h : Has cs c) : c ∈ cs := by
  induction h with
  | head => simp
  | tail d _ ih => exact List.mem_cons_of_mem _ ih
theorem Inv.get {w0 w : World} {S : List Nat} {cs : List Chunk} {c : Chunk} (h : Inv w0 S cs w) (hc : Has cs c) : c.ok w := h.ok c hc.mem

theorem heap_new (w : World) (o : Obj) : (w.alloc o).heap[w.heap.size]? = some o := heap_alloc_new w o
theorem Inv.alloc {w0 w : World} {S : List Nat} {cs : List Chunk} (h : Inv w0 S cs w) (xs : List Value) (t : TypeId) : Inv w0 S (cs ++ [row w.heap.size xs t]) (w.alloc (.cells xs.toArray t)) := by
  refine h.more ⟨Keep.of_below ((Below.refl _ _).alloc (Nat.le_refl _) _) _, by simp [blocks, row, Chunk.bs], ?_, ?_⟩
  · intro c hc
    simp only [List.mem_singleton] at hc
    subst hc
    exact heap_new w _
  intro b hb
  simp [blocks, row, Chunk.bs] at hb
  omega
theorem Inv.drew {w0 w : World} {S : List Nat} {cs : List Chunk} (h : Inv w0 S cs w) : Inv w0 S cs w.drew :=
  ⟨⟨h.keep.os, h.keep.tape, h.keep.output, h.keep.size, h.keep.block⟩, h.nodup, fun c hc => c.loc w _ (fun _ _ => rfl) (h.ok c hc), h.own⟩
theorem Inv.cell {w0 w : World} {S : List Nat} {cs : List Chunk} {b : Nat} {xs : List Value} {t : TypeId} (h : Inv w0 S cs w) (hc : Has cs (row b xs t)) (j : Nat) : w.cell? ⟨b, j, none⟩ = xs[j]? := by
  have : w.heap[b]? = some (.cells xs.toArray t (0, 0)) := h.get hc
  simp [World.cell?, this]
theorem Inv.free {w0 w : World} {S : List Nat} {cs : List Chunk} {b : Nat} {xs : List Value} {t : TypeId} (h : Inv w0 S cs w) (hc : Has cs (row b xs t)) (j : Nat) : w.frozen? ⟨b, j, none⟩ = false := by
  have : w.heap[b]? = some (.cells xs.toArray t (0, 0)) := h.get hc
  simp [World.frozen?, this]
theorem Upd.has {cs cs' : List Chunk} {c c' : Chunk} (h : Upd cs c c' cs') : Has cs c := by
  induction h with
  | head => exact .head _ _
  | tail d _ ih => exact .tail d ih
theorem Inv.set {w0 w : World} {S : List Nat} {cs cs' : List Chunk} {b : Nat} {xs : List Value} {t : TypeId} (h : Inv w0 S cs w) (j : Nat) (v : Value) (hu : Upd cs (row b xs t) (row b (xs.set j v) t) cs') : Inv w0 S cs' (w.setCell ⟨b, j, none⟩ v) := by
  have hg : w.heap[b]? = some (.cells xs.toArray t (0, 0)) := h.get hu.has
  have hlt : b < w.heap.size := (Array.getElem?_eq_some_iff.1 hg).1
  refine h.upd hu ⟨rfl, rfl, rfl, by simp [World.setCell], fun k _ hk => ?_⟩ ⟨⟨rfl, rfl, rfl, by simp [World.setCell], fun k _ hk => ?_⟩, by simp [blocks, row, Chunk.bs], ?_, ?_⟩
  · exact Below.heap_setCell w _ v k (by simpa [row, Chunk.bs] using hk)
  · exact Below.heap_setCell w _ v k (by simpa [row, Chunk.bs] using hk)
  · intro c hc
    simp only [List.mem_singleton] at hc
    subst hc
    show (w.setCell ⟨b, j, none⟩ v).heap[b]? = _
    simp [World.setCell, Array.getElem?_modify, hg]
  intro k hk
  left
  simpa [blocks, row, Chunk.bs] using hk
end Go.Ink
