/- What came in reads as it did while several chunks of the call's own turn. Nothing of the program. -/
import Derived.Test.YtobjiljkfmcalaaGreatInkJ
set_option linter.unusedSimpArgs false
set_option linter.unusedVariables false
namespace Go.Ink
open Go.RowKit
theorem RdV.oldKs {cs : List Chunk} {w0 w w' : World} {cin rest : List Chunk} {sz n cc : Nat} {A : Option Addr} {xs : List Value} (h : RdV w0 sz A n cc xs) (hi : Inv w0 [] cs w) (hp : Split cin cs rest) (hk : Keep (blocks cin) w w') : RdV w' sz A n cc xs :=
  ⟨h.len, h.cap, h.max, h.nil, fun ad e j u hu => by
    have h1 := h.at_ ad e j u hu
    have hlt := World.block_lt_of_cell? w0 _ h1
    refine (World.cell?_of_block ((hk.block _ (Nat.lt_of_lt_of_le hlt hi.keep.size) fun hin => ?_).trans (hi.keep.block _ hlt (by simp)))).trans h1
    obtain ⟨c, hc, hb⟩ := mem_blocks.1 hin
    have hc' := hp.perm.symm.subset (List.mem_append_left _ hc)
    rcases hi.own _ (mem_blocks.2 ⟨c, hc', hb⟩) with h2 | h2
    · cases h2
    omega⟩
end Go.Ink
