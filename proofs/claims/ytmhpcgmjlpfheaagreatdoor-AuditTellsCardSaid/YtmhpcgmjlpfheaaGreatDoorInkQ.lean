/- A part of a row that is read alone, wherever it begins. Nothing of the program. -/
import Derived.Test.YtmhpcgmjlpfheaaGreatDoorInkA
set_option linter.unusedSimpArgs false
set_option linter.unusedVariables false
namespace Go.Ink
open Go.RowKit
def rdB (A : Option Addr) : List Value → List Nat
  | [] => []
  | _ :: _ => ab A
theorem cell_local {w w' : World} {a : Addr} (h : w'.heap[a.block]? = w.heap[a.block]?) : w'.cell? a = w.cell? a := by
  unfold World.cell?
  rw [h]
theorem cell_lt {w : World} {a : Addr} {v : Value} (h : w.cell? a = some v) : a.block < w.heap.size := by
  unfold World.cell? at h
  cases hb : w.heap[a.block]? with
  | none => rw [hb] at h; cases h
  | some o => exact (Array.getElem?_eq_some_iff.1 hb).1
def rdC (A : Option Addr) (n c : Nat) (xs : List Value) : Chunk := .gen (rdB A xs) (fun w => RdV w 1 A n c xs)
  (fun w w' hb h => ⟨h.len, h.cap, h.max, h.nil, fun ad e j u hu => by
    have h1 := h.at_ ad e j u hu
    rw [cell_local]
    · exact h1
    rw [block_of_add]
    refine hb _ ?_
    cases xs with
    | nil => simp at hu
    | cons x xs => subst e; simp [rdB, ab]⟩)
  (fun w h b hb => by
    cases xs with
    | nil => cases hb
    | cons x xs =>
      cases hA : A with
      | none => rw [hA] at hb; simp [rdB, ab] at hb
      | some ad =>
        rw [hA] at hb
        simp only [rdB, ab, List.mem_singleton] at hb
        subst hb
        have := cell_lt (h.at_ ad hA 0 x rfl)
        rwa [block_of_add] at this)
theorem rdC_rd {w : World} {A : Option Addr} {n c : Nat} {xs : List Value} (h : (rdC A n c xs).ok w) : RdV w 1 A n c xs := h
theorem Upd.subs {cs cs' : List Chunk} {c c' : Chunk} (hu : Upd cs c c' cs') : c'.bs.Sublist c.bs → (blocks cs').Sublist (blocks cs) ∧ ∀ x, x ∈ cs' → x ∈ cs ∨ x = c' := by
  induction hu with
  | head d d' cs => exact fun hs => ⟨by rw [blocks_cons, blocks_cons]; exact hs.append (List.Sublist.refl _), fun x hx => by
      rcases List.mem_cons.1 hx with h | h
      · exact .inr h
      exact .inl (List.mem_cons_of_mem _ h)⟩
  | tail d _ ih =>
    intro hs
    obtain ⟨i1, i2⟩ := ih hs
    exact ⟨by rw [blocks_cons, blocks_cons]; exact (List.Sublist.refl _).append i1, fun x hx => by
      rcases List.mem_cons.1 hx with h | h
      · exact .inl (h ▸ List.mem_cons_self ..)
      rcases i2 x h with h | h
      · exact .inl (List.mem_cons_of_mem _ h)
      exact .inr h⟩
/-- One chunk stands for another, of no more blocks. -/
theorem Inv.convS {w0 w : World} {S : List Nat} {cs cs' : List Chunk} {c c' : Chunk} (h : Inv w0 S cs w) (hu : Upd cs c c' cs') (hs : c'.bs.Sublist c.bs) (hok : c.ok w → c'.ok w) : Inv w0 S cs' w := by
  obtain ⟨k1, k2⟩ := hu.subs hs
  exact ⟨h.keep, k1.nodup h.nodup, fun x hx => by
    rcases k2 x hx with hx | rfl
    · exact h.ok x hx
    exact hok (h.ok c hu.has.mem), fun b hb => h.own b (k1.subset hb)⟩
section
variable {C : Cx} {Q : Post} {fr : Fr} {cs cs' : List Chunk} {c c' : Chunk} {ops : Array Oper} {rest : List Oper}
theorem wl_convS {mk : Chunk → List Chunk} (hu : At cs c mk) (hs : c'.bs.Sublist c.bs) (hok : ∀ w, c.ok w → c'.ok w) (h : WL C ops Q rest fr (mk c')) : WL C ops Q rest fr cs := fun a w hf hi => h a w hf (hi.convS (hu c') hs (hok w))
theorem wc_convS {x : Code} {mk : Chunk → List Chunk} (hu : At cs c mk) (hs : c'.bs.Sublist c.bs) (hok : ∀ w, c.ok w → c'.ok w) (h : WC C x Q fr (mk c')) : WC C x Q fr cs := fun a w hf hi => h a w hf (hi.convS (hu c') hs (hok w))
theorem qok_convS {e : Exit} {mk : Chunk → List Chunk} (hu : At cs c mk) (hs : c'.bs.Sublist c.bs) (hok : ∀ w, c.ok w → c'.ok w) (h : QOk C Q e fr (mk c')) : QOk C Q e fr cs := fun a w hf hi => h a w hf (hi.convS (hu c') hs (hok w))
end
theorem inv_nilr (w : World) (S : List Nat) : Inv w S [rdC none 0 0 []] w :=
  ⟨Keep.refl _ _, by simp [blocks, rdC, Chunk.bs, rdB], fun c hc => by
    rw [List.mem_singleton] at hc
    subst hc
    exact (⟨rfl, Nat.le_refl _, Nat.zero_le _, fun _ => ⟨rfl, rfl⟩, fun ad e => by cases e⟩ : RdV w 1 none 0 0 []), fun b hb => by simp [blocks, rdC, Chunk.bs, rdB] at hb⟩
theorem wl_nilr {C : Cx} {Q : Post} {fr : Fr} {cs : List Chunk} {ops : Array Oper} {rest : List Oper} (h : WL C ops Q rest fr (cs ++ [rdC none 0 0 []])) : WL C ops Q rest fr cs := fun a w hf hi => h a w hf (hi.more (inv_nilr w []))
/-- What is the call's own is read. -/
theorem slv_rdC {e n c : Nat} {A : Option Addr} {xs : List Value} (w : World) (h : (slv e 1 A n c xs).ok w) : (rdC A n c xs).ok w := slv_rd h
theorem rdC_sub {A : Option Addr} {xs : List Value} : (rdB A xs).Sublist (ab A) := by
  cases xs with
  | nil => exact List.nil_sublist _
  | cons x xs => exact List.Sublist.refl _
/-- The first cell goes. -/
theorem rdC_tail {n c : Nat} {ad r : Addr} {x : Value} {xs : List Value} (hr : (some r : Option Addr) = (if c = 1 then some ad else (some ad).map (·.add (1 * 1)))) (w : World) (h : (rdC (some ad) (n + 1) c (x :: xs)).ok w) : (rdC (some r) n (c - 1) xs).ok w := by
  have h1 := (rdC_rd h).cut (lo := 1) (hi := n + 1) (by omega) (Nat.le_refl _)
  have hl := (rdC_rd h).len
  rw [← hr, List.take_of_length_le (by rw [hl]; omega), Nat.add_sub_cancel] at h1
  exact h1
theorem rdC_tail_sub {ad r : Addr} {c : Nat} {x : Value} {xs : List Value} (hr : (some r : Option Addr) = (if c = 1 then some ad else (some ad).map (·.add (1 * 1)))) : (rdB (some r) xs).Sublist (rdB (some ad) (x :: xs)) := by
  have e : r.block = ad.block := by
    split at hr
    · rw [Option.some.inj hr]
    rw [Option.map_some] at hr; rw [Option.some.inj hr, block_of_add]
  cases xs with
  | nil => exact List.nil_sublist _
  | cons y ys => simp [rdB, ab, e]
/-- A cell of it. -/
theorem rdC_cell {w0 : World} {S : List Nat} {cs : List Chunk} {n c j : Nat} {ad : Addr} {xs : List Value} {v : Value} (hc : Has cs (rdC (some ad) n c xs)) (hv : xs[j]? = some v) : ∀ w, Inv w0 S cs w → cells [(ad.add (j * 1), v)] w := fun w hi z hz => by
  rw [List.mem_singleton] at hz
  subst hz
  rw [Nat.mul_one]
  exact (rdC_rd (hi.get hc)).at_ ad rfl j v hv
theorem rdC_some {w : World} {A : Option Addr} {n c : Nat} {xs : List Value} (h : (rdC A n c xs).ok w) (hn : 0 < n) : ∃ ad, A = some ad := by
  cases A with
  | none => have := ((rdC_rd h).nil rfl).1; omega
  | some ad => exact ⟨ad, rfl⟩
end Go.Ink
