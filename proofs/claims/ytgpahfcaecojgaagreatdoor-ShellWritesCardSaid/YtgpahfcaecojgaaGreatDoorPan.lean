/- Lemmas. -/
import Derived.Test.YtgpahfcaecojgaaGreatDoorPam
set_option linter.all false
set_option maxRecDepth 100000
set_option maxHeartbeats 4000000
namespace Go.Ink
open Go.RowKit Go.Proofs.Tryz
abbrev HI.cells(i:HI):List Value:=[.i i.op,.i i.rd,.i i.ra,.i i.rb,.w i.imm]
abbrev hiv(i:HI):Value:= .agg i.cells.toArray
def zj(i:HI):HI×Bool:=
 bif i.op==0 then(⟨i.op,0,0,0,0⟩,true)else bif i.op==1 then(⟨i.op,i.rd,0,0,i.imm⟩,true)else bif i.op==2 then(⟨i.op,i.rd,i.ra,0,0⟩,true)else
 bif decide (3<=i.op)&&decide (i.op<=13)then(⟨i.op,i.rd,i.ra,i.rb,0⟩,true)else bif i.op==14 then(⟨i.op,i.rd,i.ra,0,i.imm⟩,true)else bif i.op==15 then(⟨i.op,0,i.ra,i.rb,i.imm⟩,true)else
 bif i.op==16||i.op==17 then(⟨i.op,0,i.ra,0,i.imm⟩,true)else bif i.op==18||i.op==19 then(⟨i.op,0,0,0,i.imm⟩,true)else(⟨i.op,0,0,0,0⟩,false)
structure HI.WO(i:HI):Prop where
 asked:zj i=(i,true)
 rd:0<=i.rd/\i.rd<=15
 ra:0<=i.ra/\i.ra<=15
 rb:0<=i.rb/\i.rb<=15
 imm:0<=i.imm/\i.imm<=4294967295
theorem HI.WO.op{i:HI}(h:i.WO):0<=i.op/\i.op<=19:=by
 grind [h.asked,zj]
def tU(i:HI):List Int:=[i.op,i.rd,i.ra,i.rb,i.imm%256,i.imm/256%256,i.imm/65536%256,i.imm/16777216%256]
def cI(l:List HI):List Int:=l.flatMap tU
theorem jg:∀l:List HI,(cI l).length=8*l.length
 |[]=>rfl
 |i::l=>by
  have:=jg l;show(tU i++cI l).length=_;rw[aj,this];show 8+_=8*(l.length+1);omega
theorem F9(l:List HI)(i:HI):cI (l++[i])=cI l++tU i:=by simp[cI]
variable{i:HI}{l:List HI}{v:Int}
abbrev hiC(A:Oa)(c:Nat)(l:List HI):bJ:=slv 347 5 A l.length c (l.flatMap HI.cells)
theorem hi_snoc{A:Oa}{c:Nat}:slv 347 5 A (l.length+1) c (l.flatMap HI.cells++i.cells)=hiC A c (l++[i]):=by
 grind
def r64(l:Li):Prop:=∀x,x∈l->0<=x/\x<=18446744073709551615
theorem AO{l:Li}(h:r64 l)(n:Nat):0<=l.getD n 0/\l.getD n 0<=18446744073709551615:=by
 rw[List.getD_eq_getElem?_getD];by_cases hn:n<l.length
 .rw[ae hn];exact h _ (List.getElem_mem hn)
 grind
structure HM.ok(m:HM):Prop where
 rl:m.WJ.length=16
 wl:m.words.length=256
 r:r64 m.WJ
 w:wds m.words
 pc:0<=m.pc
theorem FQ{l:Li}{n:Nat}{x:Int}(h:x∈l.set n v):x∈l\/x=v:=by grind
def nv(W:Li):Bool:= !((decide (16<W.getD 2 0)||decide (16<W.getD 3 0))||decide (15<W.getD 1 0))
def Hl(s:St)(r:(Int×Int)×HM):St×Int:=bif r.1.1 !=1 then(s,0)else bif nv r.2.words then(oZ r.2.words s,r.1.2)else(s,0)
def iu(C:List HI)(s:St):St×Int:=Hl s (j0 C 4096 ⟨List.replicate 16 0,WW s,0⟩)
end Go.Ink
