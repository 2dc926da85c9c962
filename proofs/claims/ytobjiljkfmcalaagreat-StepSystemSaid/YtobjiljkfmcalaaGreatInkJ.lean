/- A slice of the call's own is cut; what a part of the chunks leaves alone. Nothing of the program. -/
import Derived.Test.YtobjiljkfmcalaaGreatInkI
set_option linter.unusedSimpArgs false
set_option linter.unusedVariables false
namespace Go.Ink
open Go.RowKit
section
variable {C : Cx} {Q : Post} {fr : Fr} {cs : List Chunk}
theorem qok_conv {e : Exit} {c c' : Chunk} {mk : Chunk → List Chunk} (hu : At cs c mk) (hb : c'.bs = c.bs) (hok : ∀ w, c.ok w → c'.ok w) (h : QOk C Q e fr (mk c')) : QOk C Q e fr cs :=
  fun a w hf hi => h a w hf (hi.conv hu hb (hok w))
theorem sl_pop {w : World} {k : IntKind} {e c : Nat} {A : Option Addr} {xs : List Int} {x : Int} (h : (sl k e A (xs ++ [x]).length c (xs ++ [x])).ok w) : (sl k e A xs.length c xs).ok w := by
  have := sl_cut (m := xs.length) h
  rwa [List.take_left] at this
theorem t_storeRX {d : Option Tmp} {ty : TypeId} {pos : String} {af : Array Edge} {gd : Option (Nat × Bool)} {x y : Operand} {T : TypeId} {mk : Chunk → List Chunk} {bb o t n : Nat} {xs vs ys : List Value} (he : ys = xs.take o ++ vs ++ xs.drop (o + vs.length)) (hT : ∀ w, (sizeOf T).run C.P w = .ok n w) (hx : ev fr x = some (.pointer (some ⟨bb, o, none⟩))) (hy : ev fr y = some (.agg vs.toArray)) (h1 : ∀ u ∈ vs, u.oneCell' = true) (hu : At cs (row bb xs t) mk) (hn : vs.length = n) (ho : o + vs.length ≤ xs.length) :
    OpT C ⟨d, .store T x y, ty, pos, af, gd⟩ fr cs true (fun u cs' => u = undef ∧ cs' = mk (row bb ys t)) := by
  subst he
  exact t_storeRN hT hx hy h1 hu hn ho
/-- A slice reads as it did while other chunks turn. -/
theorem Inv.rdKs {w0 w w' : World} {S : List Nat} {cin rest : List Chunk} {e sz n cc : Nat} {A : Option Addr} {xs : List Value} (h : Inv w0 S cs w) (hp : Split cin cs rest) (h2 : Has rest (slv e sz A n cc xs)) (hk : Keep (blocks cin) w w') : RdV w' sz A n cc xs := by
  have hc := h.ok _ (hp.perm.symm.subset (List.mem_append_right _ h2.mem))
  refine slv_rd ((slv e sz A n cc xs).loc w w' (fun b hb => hk.block b ((slv e sz A n cc xs).lt w hc b hb) fun hin => ?_) hc)
  have hn := ((hp.perm.flatMap_right Chunk.bs).nodup_iff).1 h.nodup
  rw [List.flatMap_append] at hn
  exact (List.nodup_append.1 hn).2.2 b hin b (mem_blocks.2 ⟨_, h2.mem, hb⟩) rfl
end
theorem snoc_get (l : List Int) (x : Int) : (l ++ [x])[l.length]? = some x := by simp
theorem snoc_of {l : List Int} (h : 0 < l.length) : ∃ m x, l = m ++ [x] := ⟨l.dropLast, l.getLast (by intro h'; subst h'; cases h), (List.dropLast_concat_getLast _).symm⟩
end Go.Ink
