/- The calculus' judgements: code, lists of operations, regions that draw their order; the plain operations. Nothing of the program. -/
import Derived.Test.YtobjiljkfmcalaaGreatInk
namespace Go.Ink
open Go.RowKit

structure Cx where
  P : Program
  N : Nat
  w0 : World
  S : List Nat

abbrev Post := Exit → Act → World → Prop
def QOk (C : Cx) (Q : Post) (e : Exit) (fr : Fr) (cs : List Chunk) : Prop := ∀ a w, FrOk C.N fr a → Inv C.w0 C.S cs w → Q e a w
def WC (C : Cx) (c : Code) (Q : Post) (fr : Fr) (cs : List Chunk) : Prop := ∀ a w, FrOk C.N fr a → Inv C.w0 C.S cs w → c.wp C.P Q a w
def WL (C : Cx) (ops : Array Oper) (Q : Post) (rest : List Oper) (fr : Fr) (cs : List Chunk) : Prop := ∀ a w, FrOk C.N fr a → Inv C.w0 C.S cs w → wpList C.P ops Q rest a w

section
variable {C : Cx} {Q : Post} {fr : Fr} {cs : List Chunk} {x y c : Code} {id id' : Nat} {K : Act → World → Prop}
theorem wc_seq (h : WC C x (Exit.then (y.wp C.P Q) Q) fr cs) : WC C (.seq x y) Q fr cs := fun a w hf hi => wp_seq (h a w hf hi)
theorem wc_skip (h : QOk C Q .normal fr cs) : WC C .skip Q fr cs := fun a w hf hi => wp_skip (h a w hf hi)
theorem wc_ret (h : QOk C Q .ret fr cs) : WC C .ret Q fr cs := fun a w hf hi => wp_ret (h a w hf hi)
theorem wc_exit (h : QOk C Q (.exit id) fr cs) : WC C (.exit id) Q fr cs := fun a w hf hi => wp_exit (h a w hf hi)
theorem wc_block (h : WC C c (Exit.inBlock id Q) fr cs) : WC C (.block id c) Q fr cs := fun a w hf hi => wp_block (h a w hf hi)
theorem wc_cond {o : Operand} (b : Bool) (hc : ev fr o = some (.bool b)) (ht : b = true → WC C x Q fr cs) (hf : b = false → WC C y Q fr cs) : WC C (.cond o x y) Q fr cs :=
  fun a w hfr hi => wp_cond_split (hfr.ev hc) (fun h => ht h a w hfr hi) (fun h => hf h a w hfr hi)
theorem wc_cond_t {o : Operand} {b : Bool} (hc : ev fr o = some (.bool b)) (hb : b = true) (h : WC C x Q fr cs) : WC C (.cond o x y) Q fr cs := wc_cond b hc (fun _ => h) (fun h => by rw [hb] at h; cases h)
theorem wc_cond_f {o : Operand} {b : Bool} (hc : ev fr o = some (.bool b)) (hb : b = false) (h : WC C y Q fr cs) : WC C (.cond o x y) Q fr cs := wc_cond b hc (fun h => by rw [hb] at h; cases h) (fun _ => h)
theorem wc_region {l : List Oper} (h : WL C l.toArray Q l fr cs) : WC C (.region id l.toArray false) Q fr cs := fun a w hf hi => wp_region_lit (h a w hf hi)
theorem wl_nil {ops : Array Oper} (h : QOk C Q .normal fr cs) : WL C ops Q [] fr cs := h
theorem q_then (h : WC C y Q fr cs) : QOk C (Exit.then (y.wp C.P Q) Q) .normal fr cs := h
theorem q_then_ret (h : QOk C Q .ret fr cs) : QOk C (Exit.then K Q) .ret fr cs := h
theorem q_then_exit (h : QOk C Q (.exit id) fr cs) : QOk C (Exit.then K Q) (.exit id) fr cs := h
theorem q_block (h : QOk C Q .normal fr cs) : QOk C (Exit.inBlock id Q) .normal fr cs := h
theorem q_block_ret (h : QOk C Q .ret fr cs) : QOk C (Exit.inBlock id Q) .ret fr cs := h
theorem q_block_same (he : Nat.beq id' id = true) (h : QOk C Q .normal fr cs) : QOk C (Exit.inBlock id Q) (.exit id') fr cs := fun a w hf hi => by
  simp only [Exit.inBlock, Nat.eq_of_beq_eq_true he, if_true]
  exact h a w hf hi
theorem q_block_other (he : Nat.beq id' id = false) (h : QOk C Q (.exit id') fr cs) : QOk C (Exit.inBlock id Q) (.exit id') fr cs := fun a w hf hi => by
  have : id' ≠ id := fun e => by subst e; simp at he
  simp only [Exit.inBlock, this, if_false]
  exact h a w hf hi
theorem qok_weaken {e : Exit} {fr' : Fr} (hw : Wk fr fr') (h : QOk C Q e fr' cs) : QOk C Q e fr cs := fun a w hf hi => h a w (hf.weaken hw) hi
theorem wc_weaken {fr' : Fr} (hw : Wk fr fr') (h : WC C c Q fr' cs) : WC C c Q fr cs := fun a w hf hi => h a w (hf.weaken hw) hi
theorem wl_weaken {ops : Array Oper} {l : List Oper} {fr' : Fr} (hw : Wk fr fr') (h : WL C ops Q l fr' cs) : WL C ops Q l fr cs := fun a w hf hi => h a w (hf.weaken hw) hi
theorem wc_drop {cs' : List Chunk} (hs : cs'.Sublist cs) (h : WC C c Q fr cs') : WC C c Q fr cs := fun a w hf hi => h a w hf (hi.drop hs)

/-- Where ways meet: a family of frames and chunks. -/
def Mid (C : Cx) {σ : Type} (F : σ → Fr) (G : σ → List Chunk) (ok : σ → Prop) (a : Act) (w : World) : Prop := ∃ s, ok s ∧ FrOk C.N (F s) a ∧ Inv C.w0 C.S (G s) w
theorem wc_seq_mid {σ : Type} (F : σ → Fr) (G : σ → List Chunk) (ok : σ → Prop) (h : WC C x (Exit.then (Mid C F G ok) Q) fr cs) (h' : ∀ s, ok s → WC C y Q (F s) (G s)) : WC C (.seq x y) Q fr cs :=
  fun a w hf hi => wp_seq (wp_mono (h a w hf hi) fun e a' w' q => by
    cases e with
    | normal => obtain ⟨s, ho, hf', hi'⟩ := q; exact h' s ho a' w' hf' hi'
    | _ => exact q)
theorem q_mid {σ : Type} {F : σ → Fr} {G : σ → List Chunk} {ok : σ → Prop} (s : σ) (ho : ok s) (hf : Wk fr (F s)) (hg : (G s).Sublist cs) : QOk C (Exit.then (Mid C F G ok) Q) .normal fr cs :=
  fun _ _ hfr hi => ⟨s, ho, hfr.weaken hf, hi.drop hg⟩
/-- A loop: a family of frames and chunks, and a measure on its index. -/
theorem wc_loop {σ : Type} (F : σ → Fr) (G : σ → List Chunk) (ok : σ → Prop) (μ : σ → Nat) (s0 : σ) (h0 : ok s0) (hf : Wk fr (F s0)) (hg : (G s0).Sublist cs)
    (round : ∀ s, ok s → WC C c (Exit.then (Mid C F G fun s' => ok s' ∧ μ s' < μ s) Q) (F s) (G s)) : WC C (.loop c) Q fr cs := by
  have key : ∀ n s, μ s = n → ok s → ∀ a w, FrOk C.N (F s) a → Inv C.w0 C.S (G s) w → ∀ (b : Frame) (k : List Item) (cs' : List Frame),
      ∃ e a' w', Q e a' w' ∧ Arrives C.P (lone (b.at a (.code c :: .inLoop c :: k)) cs' w) b k cs' e a' w' := by
    intro n
    induction n using Nat.strongRecOn with
    | _ n ih =>
      intro s hn hok a w hfr hi b k cs'
      obtain ⟨e, a₁, w₁, hq, harr⟩ := round s hok a w hfr hi b (.inLoop c :: k) cs'
      cases e with
      | normal =>
        obtain ⟨s', ⟨hok', hlt⟩, hf', hi'⟩ := hq
        obtain ⟨e₂, a₂, w₂, hq₂, harr₂⟩ := ih (μ s') (hn ▸ hlt) s' rfl hok' a₁ w₁ hf' hi' b k cs'
        exact ⟨e₂, a₂, w₂, hq₂, .of_steps (Steps.trans harr (.one step_inLoop)) harr₂⟩
      | exit id => exact ⟨_, a₁, w₁, hq, .pass (x := .inLoop c) rfl (fun _ _ => .inl (by simp)) harr⟩
      | goto l => exact ⟨_, a₁, w₁, hq, .pass (x := .inLoop c) rfl (fun _ _ => .inl (by simp)) harr⟩
      | ret => exact ⟨_, a₁, w₁, hq, .pass (x := .inLoop c) rfl (fun _ _ => .inl (by simp)) harr⟩
      | panic ch => exact ⟨_, a₁, w₁, hq, .pass (x := .inLoop c) rfl (fun _ _ => .inl (by simp)) harr⟩
      | outgrown => exact ⟨_, a₁, w₁, hq, .pass (x := .inLoop c) rfl (fun _ _ => .inl (by simp)) harr⟩
  intro a w hfr hi b k cs'
  obtain ⟨e, a', w', hq, harr⟩ := key _ s0 rfl h0 a w (hfr.weaken hf) (hi.drop hg) b k cs'
  exact ⟨e, a', w', hq, .of_steps (.one step_loop) harr⟩
end

/-! ### Operations -/
/-- Does the operation's guard hold? -/
def GuardIs (ops : Array Oper) (fr : Fr) (o : Oper) (g : Bool) : Prop := ∀ N a, FrOk N fr a → Region.wanted o (yielded ops a.tmps) = g
theorem guard_none {ops : Array Oper} {fr : Fr} {d : Option Tmp} {op : Op} {ty : TypeId} {pos : String} {af : Array Edge} : GuardIs ops fr ⟨d, op, ty, pos, af, none⟩ true := fun _ _ _ => rfl
theorem yielded_of {N : Nat} {ops : Array Oper} {fr : Fr} {a : Act} {j d : Nat} {v : Value} (hf : FrOk N fr a) (hd : (ops[j]?).bind (·.dst) = some d) (hl : look fr d = some v) :
    yielded ops a.tmps j = (match v with | .bool b => some b | _ => none) := by
  have h := hf.at_ d v hl
  unfold yielded
  rw [hd]
  simp only [Option.bind_some]
  rw [Array.getD_eq_getD_getElem?] at h
  cases hg : a.tmps[d]? with
  | none => rw [hg] at h; simp only [Option.getD_none] at h; subst h; rfl
  | some u => rw [hg] at h; simp only [Option.getD_some] at h; subst h; cases u <;> rfl
theorem guard_some {ops : Array Oper} {fr : Fr} {dd : Option Tmp} {op : Op} {ty : TypeId} {pos : String} {af : Array Edge} {j d : Nat} {want b : Bool}
    (hd : (ops[j]?).bind (·.dst) = some d) (hl : look fr d = some (.bool b)) : GuardIs ops fr ⟨dd, op, ty, pos, af, some (j, want)⟩ (b == want) := fun N a hf => by
  unfold Region.wanted
  simp only [yielded_of hf hd hl]
  cases b <;> cases want <;> rfl
theorem guard_yes {ops : Array Oper} {fr : Fr} {dd : Option Tmp} {op : Op} {ty : TypeId} {pos : String} {af : Array Edge} {j d : Nat} {b : Bool}
    (hd : (ops[j]?).bind (·.dst) = some d) (hl : look fr d = some (.bool b)) : GuardIs ops fr ⟨dd, op, ty, pos, af, some (j, true)⟩ b := fun N a hf => by
  rw [guard_some hd hl N a hf]
  cases b <;> rfl
theorem guard_no {ops : Array Oper} {fr : Fr} {dd : Option Tmp} {op : Op} {ty : TypeId} {pos : String} {af : Array Edge} {j d : Nat} {b : Bool}
    (hd : (ops[j]?).bind (·.dst) = some d) (hl : look fr d = some (.bool b)) : GuardIs ops fr ⟨dd, op, ty, pos, af, some (j, false)⟩ (!b) := fun N a hf => by
  rw [guard_some hd hl N a hf]
  cases b <;> rfl
/-- A guard that is itself guarded. -/
theorem guard_deep {ops : Array Oper} {fr : Fr} {dd : Option Tmp} {op : Op} {ty : TypeId} {pos : String} {af : Array Edge} {j d : Nat} {want b g : Bool}
    (hd : (ops[j]?).bind (·.dst) = some d) (hl : look fr d = some (bif g then .bool b else undef)) : GuardIs ops fr ⟨dd, op, ty, pos, af, some (j, want)⟩ (g && (b == want)) := fun N a hf => by
  unfold Region.wanted
  simp only [yielded_of hf hd hl]
  cases g <;> cases b <;> cases want <;> rfl

/-- Where V holds of the world, the operation yields v and turns nothing. -/
def OpY (C : Cx) (o : Oper) (fr : Fr) (g : Bool) (V : World → Prop) (v : Value) : Prop :=
  ∀ a w, FrOk C.N fr a → V w → g = true → (execOp a.eval o).run C.P w = .ok (.value v) w
def Any (_ : World) : Prop := True
def cells (l : List (Addr × Value)) (w : World) : Prop := ∀ x, x ∈ l → w.cell? x.1 = some x.2
def Pres (w w' : World) : Prop := ∀ ad v, w.cell? ad = some v → w'.cell? ad = some v

/-- The operation ends in a value and a world with chunks of which K holds; unless 'st', what was in a cell is there still. -/
def OpT (C : Cx) (o : Oper) (fr : Fr) (cs : List Chunk) (st : Bool) (K : Value → List Chunk → Prop) : Prop :=
  ∀ a w, FrOk C.N fr a → Inv C.w0 C.S cs w → ∀ (next : Act → World → Prop) (Q : Post), (∀ v cs' w', K v cs' → Inv C.w0 C.S cs' w' → (st = false → Pres w w') → next (a.put o.dst v) w') → o.wp C.P a w next Q

section
variable {C : Cx} {Q : Post} {fr : Fr} {cs : List Chunk} {ops : Array Oper} {rest : List Oper} {d : Nat} {op : Op} {ty : TypeId} {pos : String} {af : Array Edge} {gd : Option (Nat × Bool)} {V : World → Prop} {v : Value} {g : Bool}
theorem wl_y (hy : OpY C ⟨some d, op, ty, pos, af, none⟩ fr true V v) (hV : ∀ w, Inv C.w0 C.S cs w → V w) (hd : Nat.blt d C.N = true) (h : WL C ops Q rest ((d, v) :: fr) cs) :
    WL C ops Q (⟨some d, op, ty, pos, af, none⟩ :: rest) fr cs := fun a w hf hi => by
  refine wpList_plain rfl fun K hK => ?_
  unfold Oper.wp
  rw [hy a w hf (hV w hi) rfl]
  exact hK _ _ (h _ w (hf.put (by simpa [Nat.blt_eq] using hd) v) hi)
theorem wl_yg (hg : GuardIs ops fr ⟨some d, op, ty, pos, af, gd⟩ g) (hy : OpY C ⟨some d, op, ty, pos, af, gd⟩ fr g V v) (hV : ∀ w, Inv C.w0 C.S cs w → V w) (hd : Nat.blt d C.N = true)
    (h : WL C ops Q rest ((d, bif g then v else undef) :: fr) cs) : WL C ops Q (⟨some d, op, ty, pos, af, gd⟩ :: rest) fr cs := fun a w hf hi => by
  refine wpList_step fun K hK => ?_
  rw [hg _ a hf]
  cases g with
  | true =>
    rw [if_pos rfl]
    unfold Oper.wp
    rw [hy a w hf (hV w hi) rfl]
    exact hK _ _ (h _ w (hf.put (by simpa [Nat.blt_eq] using hd) _) hi)
  | false =>
    rw [if_neg (by simp)]
    exact hK _ _ (h _ w (hf.put (by simpa [Nat.blt_eq] using hd) _) hi)
theorem wl_t {st : Bool} {K : Value → List Chunk → Prop} (ht : OpT C ⟨some d, op, ty, pos, af, none⟩ fr cs st K) (hd : Nat.blt d C.N = true) (h : ∀ v cs', K v cs' → WL C ops Q rest ((d, v) :: fr) cs') :
    WL C ops Q (⟨some d, op, ty, pos, af, none⟩ :: rest) fr cs := fun a w hf hi => by
  refine wpList_plain rfl fun K' hK => ht a w hf hi _ _ fun v cs' w' hk hi' _ => hK _ _ (h v cs' hk _ w' (hf.put (by simpa [Nat.blt_eq] using hd) v) hi')
theorem wl_t0 {st : Bool} {K : Value → List Chunk → Prop} (ht : OpT C ⟨none, op, ty, pos, af, none⟩ fr cs st K) (h : ∀ v cs', K v cs' → WL C ops Q rest fr cs') :
    WL C ops Q (⟨none, op, ty, pos, af, none⟩ :: rest) fr cs := fun a w hf hi => by
  refine wpList_plain rfl fun K' hK => ht a w hf hi _ _ fun v cs' w' hk hi' _ => hK _ _ (h v cs' hk _ w' hf hi')
/-- The guard is known. -/
theorem wl_skip (hg : GuardIs ops fr ⟨some d, op, ty, pos, af, gd⟩ g) (hf0 : g = false) (hd : Nat.blt d C.N = true) (h : WL C ops Q rest ((d, undef) :: fr) cs) : WL C ops Q (⟨some d, op, ty, pos, af, gd⟩ :: rest) fr cs := fun a w hf hi => by
  refine wpList_step fun K hK => ?_
  rw [hg _ a hf, hf0, if_neg (by simp)]
  exact hK _ _ (h _ w (hf.put (by simpa [Nat.blt_eq] using hd) _) hi)
theorem wl_skip0 (hg : GuardIs ops fr ⟨none, op, ty, pos, af, gd⟩ g) (hf0 : g = false) (h : WL C ops Q rest fr cs) : WL C ops Q (⟨none, op, ty, pos, af, gd⟩ :: rest) fr cs := fun a w hf hi => by
  refine wpList_step fun K hK => ?_
  rw [hg _ a hf, hf0, if_neg (by simp)]
  exact hK _ _ (h _ w hf hi)
theorem wl_tg {st : Bool} {K : Value → List Chunk → Prop} (hg : GuardIs ops fr ⟨some d, op, ty, pos, af, gd⟩ g) (hg1 : g = true) (ht : OpT C ⟨some d, op, ty, pos, af, gd⟩ fr cs st K) (hd : Nat.blt d C.N = true) (h : ∀ v cs', K v cs' → WL C ops Q rest ((d, v) :: fr) cs') :
    WL C ops Q (⟨some d, op, ty, pos, af, gd⟩ :: rest) fr cs := fun a w hf hi => by
  refine wpList_step fun K' hK => ?_
  rw [hg _ a hf, hg1, if_pos rfl]
  exact ht a w hf hi _ _ fun v cs' w' hk hi' _ => hK _ _ (h v cs' hk _ w' (hf.put (by simpa [Nat.blt_eq] using hd) v) hi')
end
end Go.Ink
