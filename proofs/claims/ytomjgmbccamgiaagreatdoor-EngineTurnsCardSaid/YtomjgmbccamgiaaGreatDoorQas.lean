/- Lemmas. -/
import Derived.Test.YtomjgmbccamgiaaGreatDoorQaa
import Derived.Test.YtomjgmbccamgiaaGreatDoorQab
import Derived.Test.YtomjgmbccamgiaaGreatDoorQac
import Derived.Test.YtomjgmbccamgiaaGreatDoorQah
import Derived.Test.YtomjgmbccamgiaaGreatDoorQai
import Derived.Test.YtomjgmbccamgiaaGreatDoorQam
import Derived.Test.YtomjgmbccamgiaaGreatDoorQan
import Derived.Test.YtomjgmbccamgiaaGreatDoorQaq
import Derived.Test.YtomjgmbccamgiaaGreatDoorQar
set_option linter.unusedSimpArgs false
set_option linter.unusedVariables false
set_option maxRecDepth 100000
set_option maxHeartbeats 4000000
namespace Go.Ink
open Go.RowKit
section
variable {C:Cx} {Q:kM} {fr:Fr} {cs cs' cin rest:List bJ} {St:Dr} {ops:Array Oper} {fuel i:Nat} {listed:Array Bool}
theorem wa_inv(hc:∀w,Inv C.w0 C.S cs w→Inv C.w0 C.S cs' w)(h:WA C St ops Q fuel listed fr cs'):WA C St ops Q fuel listed fr cs:=fun a w hf hi=>h a w hf (hc w hi)
theorem wi_inv(hc:∀w,Inv C.w0 C.S cs w→Inv C.w0 C.S cs' w)(h:WI C St ops Q fuel listed i fr cs'):WI C St ops Q fuel listed i fr cs:=fun a w hf hi=>h a w hf (hc w hi)
theorem Inv.Jo{w0 w:World}{S:List Nat}(h:Inv w0 S (dw cin::rest) w):Inv w0 S (cin++rest) w:=by
 obtain⟨_,_,h1⟩:=h.Jr;exact h1
theorem Inv.JC{w0 w:World}{S:List Nat}(h:Inv w0 S cs w)(hs:jX cin cs rest):Inv w0 S (dw cin::rest) w:=
 Inv.I3 (F:=fun _:Unit=>cin) (hb:=fun _=>rfl) (p:=fun _=>True) () trivial (h.perm hs.perm)
theorem mB{w0:World}{S:List Nat}{bb t:Nat}{xs:List Value}(hc:Has cs (dw cin))(hr:row bb xs t∈cin):∀w,Inv w0 S cs w→cells (rh bb xs) w:=fun w hi=>by
 have h:=qD (hi.get hc) _ hr;have h1:Inv w [bb] [row bb xs t] w:=⟨dQ.refl _ _,by simp[bK,row,bJ.bs],fun c hc=>by rw[aN]at hc;subst hc;exact h,fun b hb=>by left;simpa[bK,row,bJ.bs]using hb⟩;exact bX (.head _ _) w h1
end
theorem u32_div{a:Int}(h:0≤a∧a≤4294967295):0≤a/64∧a/64≤67108863:=by omega
theorem uX(xs ys:List Int)(h:ys.length≤xs.length):(xs.take ys.length==ys)=ys.isPrefixOf xs:=by
 rw[Bool.eq_iff_iff,List.isPrefixOf_iff_prefix,beq_iff_eq];constructor
 ·intro e;exact⟨xs.drop ys.length,by conv=>rhs;rw[←List.take_append_drop ys.length xs,e]⟩
 rintro⟨z,rfl⟩;exact List.take_left
end Go.Ink
namespace Go.Proofs.YtomjgmbccamgiaaGreatDoor
open Go.RowKit Go.Ink Go.Proofs.Tryz
attribute [local irreducible] OpY bW
theorem wH(A B:Option Addr)(c d:Nat)(xs ys:List Int)(hx:u8s xs)(hy:u8s ys)(w:World)(h:Rd w .u8 A xs.length c xs)(h2:Rd w .u8 B ys.length d ys):
  Ctr prog 115 [.slice A xs.length c,.slice B ys.length d] w [] (fun v cs=>v= .bool (ys.isPrefixOf xs)∧cs=[]):=by
 have hcap:=h.cap;refine bL func115 rfl ntmps115 rfl (Inv.start w) ?_;by_cases hle:ys.length≤xs.length
 ·have hg:decide ((xs.length:Int)≥(ys.length:Int))=true:=aG (by omega)
  have htl:(xs.take ys.length).length=ys.length:=by rw[az];omega
  have HE:=EG A B c d (xs.take ys.length) ys (fun x hx'=>hx x (List.mem_of_mem_take hx')) hy;rw[htl,uX xs ys hle]at HE;have hrt:=lN h ys.length;rw[htl]at hrt;refine p5 ?_;refine Zyy rfl rfl (gL ys.length rfl Zrf (dc rfl) (dc rfl) (fun _=>by first|rfl|omega) (fun _=>by omega)) ?_;refine ZB ?_;refine dX (bP rfl rfl) (.cons (dc rfl) (.cons (dc rfl) .nil)) (fun _ _=>rfl) (fun hg w hi=>HE w (hrt.IB hi) (h2.IB hi)) rfl ?_;refine Z_5 ?_;refine Zra ?_;refine⟨?_,rfl⟩;rw[show decide ((ys.length:Int)≤(xs.length:Int))=true from aG (by omega),Bool.true_and]
 have hp:ys.isPrefixOf xs=false:=by
  cases hb:ys.isPrefixOf xs with
  |false=>rfl
  |true=>
   obtain⟨z,rfl⟩:=List.isPrefixOf_iff_prefix.1 hb;simp at hle
 have hg0:decide ((ys.length:Int)≤(xs.length:Int))=false:=aF (by omega)
 refine jW ?_;refine dr (bP rfl rfl) hg0 rfl ?_;refine dr (bP rfl rfl) hg0 rfl ?_;refine dr (bP rfl rfl) hg0 rfl ?_;refine dr (bP rfl rfl) hg0 rfl ?_;refine dr (bP rfl rfl) hg0 rfl ?_;refine dr (bP rfl rfl) hg0 rfl ?_;refine Zy (p7 (q:=false) (Zv rfl) ⟨_,rfl,fun _ e=>by rw[hg0]at e;cases e⟩) ?_;refine Z_4 ?_;refine Zra ?_;refine⟨?_,rfl⟩;rw[hp,hg0,Bool.false_and]
theorem EH(A:Option Addr)(n c:Nat)(xs:List Int)(w:World)(h:Rd w .u8 A n c xs)(hn:n≤140737488355328):Ctr prog 142 [.slice A n c] w [] (fun v cs=>∃A' c',v= .slice A' n c'∧cs=[sl .u8 5 A' n c' xs]):=by
 refine bL func142 rfl ntmps142 rfl (Inv.start w) ?_;refine gK ?_;refine ZW ?_ ?_<;>intro hc1
 ·obtain rfl:A=none:=by simpa using hc1
  obtain⟨rfl,rfl⟩:=h.nil rfl;obtain rfl:xs=[]:=by have:=h.len;simpa[ints]using this
  refine Z_2 ?_;refine dB 5 1 ?_;refine Z_5 ?_;refine Zrb ([slv _ _ _ _ _ _]) ?_;exact⟨_,_,rfl,rfl⟩
 refine Z_4 ?_;refine dM (cm rfl rfl Zrf Zrf rfl rfl) rfl ?_;rintro _ _ ⟨b5,rfl,rfl⟩;refine ZA ?_;refine dM (cM (e:=5) (sz:=1) (bytes:=1) rfl rfl Za rfl rfl (fun w hi=>h.IB hi) cY (by simp only[maxLen];omega) (by omega)) rfl ?_;rintro _ _ ⟨A',c',rfl,rfl⟩;simp only[bo,aR];refine Z_4 ?_;refine Zrb ([slv _ _ _ _ _ _]) ?_;exact⟨_,_,rfl,rfl⟩
abbrev xj(bc ml b2 b3 b5:Nat)(r0 r1 r3:Value)(Ap:Option Addr)(cp:Nat)(Ig:List Int)(r:Int×List (Ky×LS)):List bJ:=
 [row b2 [.pointer (some ⟨bc,0,none⟩)] 78,row b3 [.slice Ap Ig.length cp] 64,sl .i64 3 Ap Ig.length cp Ig,row b5 [.int .i64 r.1] 3,caR bc r0 r1 (.map (some ml)) r3,mpc ml (lkV r.2),dw (lkC r.2)]
abbrev eI(Ig:List Int)(x:BA):Bool:=Ig.contains (x.b.key.2/64)
theorem GS(bc ml b2 b3 b5:Nat)(r0 r1 r3:Value)(Ap:Option Addr)(cp:Nat)(Ig:List Int)(r:Int×List (Ky×LS))(x:BA)(hx:ko x.b.key)(hsm:LkSm r.2)(w:World)(hi:Inv w (bK (xj bc ml b2 b3 b5 r0 r1 r3 Ap cp Ig r)) (xj bc ml b2 b3 b5 r0 r1 r3 Ap cp Ig r) w):
  Ctr prog 79 ([]++[.agg x.cells.toArray]++[.pointer (some ⟨b3,0,none⟩),.pointer (some ⟨b2,0,none⟩),.pointer (some ⟨b5,0,none⟩)]) w (xj bc ml b2 b3 b5 r0 r1 r3 Ap cp Ig r) (fun v cs=>v= .bool (eI Ig x)∧cs=xj bc ml b2 b3 b5 r0 r1 r3 Ap cp Ig (mi (eI Ig) r x)):=by
 obtain⟨k0,k1⟩:=hx.2;have hd:=u32_div hx.2;obtain⟨D,hD⟩:=Zgn (eI Ig x);have hD2:Ig.contains (x.b.key.2/64)=D:=hD;have HC:=sj Ap cp Ig (x.b.key.2/64);rw[hD2]at HC;have ht:D=true→mi (eI Ig) r x=(IntKind.i64.wrap (r.1+1),gv r.2 x.key):=fun e=>by unfold mi;rw[hD,e,ac]
 have hf:D=false→mi (eI Ig) r x=r:=fun e=>by unfold mi;rw[hD,e,aa]
 rw[hD];refine bL func79 rfl ntmps79 rfl hi ?_;refine Z_2 ?_;refine ZO fun b4=>?_;refine Z_9 ?_;refine Zy (jA (Zv rfl) (Zv rfl) (by omega) (show _=x.b.key.2/64 from by rw[bn k0,aE];omega)) ?_;refine Zy (cu rfl rfl Zv0 Zl) ?_;refine ZSe (fun w hi=>HC w (hi.rd (show Has _ (sl .i64 3 Ap Ig.length cp Ig)from Zh))) ?_;refine Z_9 ?_;refine ZW ?_ ?_<;>intro hc2
 ·refine Z_4 ?_;refine dU (cC (vs:=cH x.b.key) Zrf Zrf Zv0) (cL Zh rfl) rfl ?_;refine ZcL ([caR bc r0 r1 (.map (some ml)) r3,mpc ml (lkV r.2),dw (lkC r.2)]) (fun w hi hin=>vz bc ml r0 r1 r3 r.2 hsm x.b.key hx w hin) ?_;rintro _ _ ⟨_,rfl,rfl⟩;refine Z_4 ?_;refine Zy (cF Zv0 Zv0 rfl) ?_;refine ZL ?_;refine Z_9 ?_;refine bQ (xj bc ml b2 b3 b5 r0 r1 r3 Ap cp Ig (IntKind.i64.wrap (r.1+1),gv r.2 x.key)) Zj ?_;refine vQ (cs':=xj bc ml b2 b3 b5 r0 r1 r3 Ap cp Ig (IntKind.i64.wrap (r.1+1),gv r.2 x.key)) (.inl rfl) (aI _) rfl rfl ?_;rw[ht hc2];exact⟨rfl,rfl⟩
 refine Z_9 ?_;refine bQ (xj bc ml b2 b3 b5 r0 r1 r3 Ap cp Ig r) Zj ?_;refine vQ (cs':=xj bc ml b2 b3 b5 r0 r1 r3 Ap cp Ig r) (.inl rfl) (aI _) rfl rfl ?_;rw[hf hc2];exact⟨rfl,rfl⟩
theorem G8(bc:Nat)(room:Int)(X:CaX)(hX:oN room X)(Ap:Option Addr)(cp:Nat)(Ig:List Int)(w:World)(hi:Inv w (bK (caF bc room X++[sl .i64 3 Ap Ig.length cp Ig])) (caF bc room X++[sl .i64 3 Ap Ig.length cp Ig]) w):
  Ctr prog 48 [.pointer (some ⟨bc,0,none⟩),.slice Ap Ig.length cp] w (caF bc room X++[sl .i64 3 Ap Ig.length cp Ig]) (fun v cs=>v= .int .i64 ((X.Z.filter (eI Ig)).length:Int)∧∃X':CaX,cs=caF bc room X'++[sl .i64 3 Ap Ig.length cp Ig]∧oN room X'∧X'.Z=X.Z.filter fun x=> !eI Ig x):=by
 have hS:=hX.sm;have hlen:=hX.len;obtain⟨hr1,hr2⟩:=hX.rm;have hba:=hX.ba;have hlk:=hX.lk;obtain⟨ml,Ac,cc,fl,LK,Z⟩:=X;dsimp only at hS hlen hba hlk;have hZ:=hS.1;have HD:=fun b2 b3 b5 w hi=>delB_ok (fun r:Int×List (Ky×LS)=>dw (xj bc ml b2 b3 b5 (.int .i64 room) (.slice Ac Z.length cc) (.int .i64 fl) Ap cp Ig r)) (fun r=>xf (Z.map BA.key) r.2) (mi (eI Ig)) (eI Ig) 79 [.pointer (some ⟨b3,0,none⟩),.pointer (some ⟨b2,0,none⟩),.pointer (some ⟨b5,0,none⟩)] (fun _ _=>rfl) Z hZ
  (fun r x w hok hx hin=>Ctr.mono (Ctr.join hin fun hin2=>GS bc ml b2 b3 b5 (.int .i64 room) (.slice Ac Z.length cc) (.int .i64 fl) Ap cp Ig r x (hba x hx).2 (hok.sm (by simpa using hZ)) w hin2)
   (fun v cs ⟨cs0,⟨h1,h2⟩,h3⟩=>⟨h1,by rw[h3,h2],by
    show xf (Z.map BA.key) (mi (eI Ig) r x).2;unfold mi;cases eI Ig x with
    |true=>exact(hok.unlink x.key).1
    |false=>exact hok⟩)) Ac cc (0,LK) hlk w hi
 obtain⟨hf1,hf2, -,hf4⟩:=sb (eI Ig) (Z.map BA.key) Z (0,LK) (bF _) (by dsimp only;omega) hlk;obtain⟨⟨n9,LK9⟩,h9⟩:=Zgn (Z.foldl (mi (eI Ig)) (0,LK));rw[h9]at HD hf1 hf2 hf4;dsimp only at hf1 hf2 hf4;have hsub:(Z.filter fun x=> !eI Ig x).Sublist Z:=List.filter_sublist;have hOk:∀A c,oN room ⟨ml,A,c,fl,LK9,Z.filter fun x=> !eI Ig x⟩:=fun A c=>⟨⟨hr1,hr2⟩,(by have:=hsub.length_le;dsimp only;omega),(fun y hy=>hba y (hsub.subset hy)),fun y hy=>⟨(hf2 y hy).1,(hf2 y hy).2.1,fun q hq=>by
  obtain⟨z,hz,hzq⟩:=bh.1 ((hf2 y hy).2.2 q hq);refine bh.2 ⟨z,List.mem_filter.2 ⟨hz,?_⟩,hzq⟩;cases hD:eI Ig z with
  |false=>rfl
  |true=>exact absurd hzq.symm (hf4 y hy q hq z hz hD)⟩⟩
 refine bL func48 rfl ntmps48 rfl hi ?_;refine Z_2 ?_;refine ZO fun b2=>?_;refine ZO fun b3=>?_
 refine Z_5 ?_;refine ZN fun b5=>?_;refine ZL ?_;refine Z_3 ?_;refine cj ⟨fun j=>List.elem j [6,9],rh b2 [.pointer (some ⟨bc,0,none⟩)]⟩ Zk ?_;refine iA 0 rfl Zk Zk Zk (bM Zrf (pY rfl)) (by first|exact bZ rfl|exact aC _ (bZ rfl)|exact ah _ (bZ rfl)|exact ah _ (ah _ (aC _ (bZ rfl)))|exact ah _ (ah _ (ah _ (bZ rfl)))) ((by first|(refine bX (t:=78) ?_;(repeat (first|exact .head _ _|apply Has.tail));done)|(refine mB (t:=78) (cin:=xj bc ml b2 b3 b5 (.int .i64 room) (.slice Ac Z.length cc) (.int .i64 fl) Ap cp Ig (n9,LK9)) ?_ (List.mem_cons_self ..);(repeat (first|exact .head _ _|apply Has.tail));done))) rfl ?_;refine iA 1 rfl Zk Zk Zk (bM Zrf (pY rfl)) (by first|exact bZ rfl|exact aC _ (bZ rfl)|exact ah _ (bZ rfl)|exact ah _ (ah _ (aC _ (bZ rfl)))|exact ah _ (ah _ (ah _ (bZ rfl)))) ((by first|(refine bX (t:=78) ?_;(repeat (first|exact .head _ _|apply Has.tail));done)|(refine mB (t:=78) (cin:=xj bc ml b2 b3 b5 (.int .i64 room) (.slice Ac Z.length cc) (.int .i64 fl) Ap cp Ig (n9,LK9)) ?_ (List.mem_cons_self ..);(repeat (first|exact .head _ _|apply Has.tail));done))) rfl ?_;refine ZE 2 ?_;refine ZFe 3 1 ?_;refine ZG 4 ?_;refine cR 5 rfl Zk Zk Zk (kP rfl) rfl ?_;refine cE 6 Zk ?_;refine wi_inv (cs':=dw (xj bc ml b2 b3 b5 (.int .i64 room) (.slice Ac Z.length cc) (.int .i64 fl) Ap cp Ig (0,LK))::[slv 173 4 Ac Z.length cc (Z.flatMap BA.cells),dw (Z.map baC)]) (fun w hi=>hi.JC Zi) ?_;refine gu rfl rfl (dR ([slv 173 4 Ac Z.length cc (Z.flatMap BA.cells),dw (xj bc ml b2 b3 b5 (.int .i64 room) (.slice Ac Z.length cc) (.int .i64 fl) Ap cp Ig (0,LK))]) rfl (fun _ _=>rfl) Zi (fun w hi hin=>HD b2 b3 b5 w hin)) (fun _=>by rintro _ _ ⟨_,⟨rfl,rfl⟩,rfl⟩;exact(by first|(refine bX (t:=78) ?_;(repeat (first|exact .head _ _|apply Has.tail));done)|(refine mB (t:=78) (cin:=xj bc ml b2 b3 b5 (.int .i64 room) (.slice Ac Z.length cc) (.int .i64 fl) Ap cp Ig (n9,LK9)) ?_ (List.mem_cons_self ..);(repeat (first|exact .head _ _|apply Has.tail));done))) rfl ?_;rintro _ _ ⟨_,⟨rfl,rfl⟩,rfl⟩;refine wa_inv (cs':=xj bc ml b2 b3 b5 (.int .i64 room) (.slice Ac Z.length cc) (.int .i64 fl) Ap cp Ig (n9,LK9)++[slv 173 4 Ac (Z.filter fun x=> !eI Ig x).length cc ((Z.filter fun x=> !eI Ig x).flatMap BA.cells),dw (Z.map baC)]) (fun w hi=>(hi.perm (List.Perm.swap ..)).Jo) ?_;refine ZE 7 ?_;refine ZFe 8 1 ?_;refine cE 9 Zk ?_;refine dC rfl rfl (fo Zrf rfl rfl rfl Za Zp) (fun _=>by rintro _ _ ⟨rfl,rfl⟩;exact(by first|(refine bX (t:=78) ?_;(repeat (first|exact .head _ _|apply Has.tail));done)|(refine mB (t:=78) (cin:=xj bc ml b2 b3 b5 (.int .i64 room) (.slice Ac Z.length cc) (.int .i64 fl) Ap cp Ig (n9,LK9)) ?_ (List.mem_cons_self ..);(repeat (first|exact .head _ _|apply Has.tail));done))) ?_;rintro _ _ ⟨rfl,rfl⟩;refine bO Zk ?_;refine Z_8 ?_;refine jI (cin:=Z.map baC) (cin':=(Z.filter fun x=> !eI Ig x).map baC) Zd (hsub.map _) ?_;refine bQ (caF bc room ⟨ml,Ac,cc,fl,LK9,Z.filter fun x=> !eI Ig x⟩++[sl .i64 3 Ap Ig.length cp Ig]) Zj ?_;refine vQ (cs':=caF bc room ⟨ml,Ac,cc,fl,LK9,Z.filter fun x=> !eI Ig x⟩++[sl .i64 3 Ap Ig.length cp Ig]) (.inl rfl) (aI _) rfl rfl ?_;refine⟨by rw[hf1];show Value.int .i64 (0+_)=_;rw[Int.zero_add],⟨ml,Ac,cc,fl,LK9,Z.filter fun x=> !eI Ig x⟩,rfl,hOk _ _,rfl⟩
end Go.Proofs.YtomjgmbccamgiaaGreatDoor
namespace Go.Ink
open Go.RowKit
theorem wc_inv{C:Cx}{Q:kM}{fr:Fr}{cs cs':List bJ}{x:Code}(hc:∀w,Inv C.w0 C.S cs w→Inv C.w0 C.S cs' w)(h:WC C x Q fr cs'):WC C x Q fr cs:=fun a w hf hi=>h a w hf (hc w hi)
def gP(LK:List (Ky×LS))(k:Ky):LS:=fX LK k LS.zero
theorem lW{LK:List (Ky×LS)}{k:Ky}(h:cX (·.1) k LK=none):gP LK k=LS.zero:=rj h _
theorem lV{LK:List (Ky×LS)}{k:Ky}{j:Nat}(h:cX (·.1) k LK=some j):∃x,LK[j]? =some (k,x)∧gP LK k=x:=by
 obtain⟨hj,hk⟩:=fp h;have hx:LK[j]? =some (k,LK[j].2):=by rw[ak hj,←hk]
 exact⟨_,hx,oZ h hx _⟩
theorem Dm(LK:List (Ky×LS))(k:Ky):fX (lkV LK) k (.slice none 0 0)=(gP LK k).v:=uy LS.v LK k LS.zero
theorem ww(LK:List (Ky×LS))(k:Ky):cX (·.1) k (lkV LK)=cX (·.1) k LK:=jy (key:=fun x:Ky×LS=>x.1) (key':=fun x:Ky×Value=>x.1) (fun x:Ky×LS=>(x.1,x.2.v)) Zrf k LK
theorem ment_at(LK:List (Ky×LS))(k:Ky):(rB (lkV LK) k (.slice none 0 0))[uQ (lkV LK) k]? =some (k,(gP LK k).v):=by
 unfold rB uQ;rw[ww];cases h:cX (fun x:Ky×LS=>x.1) k LK with
 |some j=>
  obtain⟨x,hx,hl⟩:=lV h;dsimp only[Option.getD_some];unfold lkV;rw[bj,hx,hl]
  rfl
 |none=>
  dsimp only[Option.getD_none];rw[lW h];simp[LS.v,LS.zero]
theorem Ga(LK:List (Ky×LS))(k:Ky)(x:LS):(rB (lkV LK) k (.slice none 0 0)).set (uQ (lkV LK) k) (k,x.v)=lkV (dF LK k x):=by
 unfold rB uQ dF;rw[ww];cases h:cX (fun x:Ky×LS=>x.1) k LK with
 |some j=>
  dsimp only[Option.getD_some];unfold lkV;rw[List.map_set]
 |none=>
  dsimp only[Option.getD_none];unfold lkV;simp
theorem xf.put{keys:List Ky}{LK:List (Ky×LS)}(h:xf keys LK){f t:Ky}(hf:ko f)(ht:t∈keys)(hn:t∉(gP LK f).ks)(A:Option Addr)(c:Nat):xf keys (dF LK f ⟨A,c,(gP LK f).ks++[t]⟩):=by
 have hl:(gP LK f).ks.Nodup∧∀q,q∈(gP LK f).ks→q∈keys:=by
  cases hp:cX (fun x:Ky×LS=>x.1) f LK with
  |some j=>obtain⟨x,hx,hl⟩:=lV hp;rw[hl];exact(h _ (aK hx)).2
  |none=>rw[lW hp];exact⟨List.nodup_nil,fun q hq=>nomatch hq⟩
 have hnew:ko f∧((gP LK f).ks++[t]).Nodup∧∀q,q∈(gP LK f).ks++[t]→q∈keys:=by
  refine⟨hf,?_,fun q hq=>?_⟩
  ·rw[List.nodup_append];exact⟨hl.1,by simp,fun a ha b hb=>by rw[aN]at hb;subst hb;exact fun e=>hn (e▸ha)⟩
  rcases aV.1 hq with hq|hq
  ·exact hl.2 q hq
  rw[aN]at hq;rw[hq];exact ht
 intro x hx;unfold dF at hx;cases hp:cX (fun x:Ky×LS=>x.1) f LK with
 |some j=>
  rw[hp]at hx;rcases List.mem_or_eq_of_mem_set hx with hx|rfl
  ·exact h x hx
  exact hnew
 |none=>
  rw[hp]at hx;rcases aV.1 hx with hx|hx
  ·exact h x hx
  rw[aN]at hx;rw[hx];exact hnew
end Go.Ink
namespace Go.Proofs.YtomjgmbccamgiaaGreatDoor
open Go.RowKit Go.Ink Go.Proofs.Tryz
attribute [local irreducible] OpY bW
def tL(LK:List (Ky×LS))(k:Ky):List bJ:=match cX (·.1) k LK with|some j=>(lkC LK).eraseIdx j|none=>lkC LK
theorem Gl{LK:List (Ky×LS)}{k:Ky}{j:Nat}{x:LS}(h:cX (·.1) k LK=some j)(hx:LK[j]? =some (k,x)):(lkC LK).Perm (lsC x::(lkC LK).eraseIdx j):=mF (by unfold lkC;rw[bj,hx];rfl)
theorem lkTake{w0 w:World}{S:List Nat}{LK:List (Ky×LS)}{rest:List bJ}(k:Ky)(h:Inv w0 S (dw (lkC LK)::rest) w):Inv w0 S (lsC (gP LK k)::dw (tL LK k)::rest) w:=by
 unfold tL;cases hp:cX (fun x:Ky×LS=>x.1) k LK with
 |some j=>
  obtain⟨x,hx,hl⟩:=lV hp;rw[hl];exact h.Jf (Gl hp hx)
 |none=>
  rw[lW hp];exact(h.more (uY w [] 83 2)).perm (List.perm_append_singleton _ _)
theorem lkPut(LK:List (Ky×LS))(k:Ky)(x:LS):(lkC (dF LK k x)).Perm (lsC x::tL LK k):=by
 unfold tL dF;cases hp:cX (fun x:Ky×LS=>x.1) k LK with
 |some j=>
  obtain⟨hj, -⟩:=fp hp;dsimp only;unfold lkC;rw[List.map_set];exact qz (by simpa using hj)
 |none=>
  dsimp only;unfold lkC;rw[List.map_append];exact List.perm_append_singleton _ _
theorem DD(A:Option Addr)(c:Nat)(l:List Ky)(x:Ky)(w:World)(h:RdV w 2 A l.length c (l.flatMap cH)):Ctr prog 162 [.slice A l.length c,.agg (cH x).toArray] w [] (fun v cs=>(∃z,v= .int .i64 z∧decide (0≤z)=l.contains x)∧cs=[]):=by
 have hlm:=aY h.cap h.max;simp only[maxLen]at hlm;refine bL func162 rfl ntmps162 rfl (Inv.start w) ?_;refine Z_2 ?_;refine ZO fun b3=>?_;refine gK ?_;refine cJ (fun k:Nat=>[(0,.slice A l.length c),(3,.pointer (some ⟨b3,0,none⟩)),(7,.int .i64 (l.length:Int)),(8,.int .i64 (k:Int))]) (fun _=>[kyR b3 x]) (fun k=>k≤l.length∧(l.drop k).contains x=l.contains x) (fun k=>l.length - k) (0) ?_ ?_ ?_ ?_
 ·exact⟨aw _,rfl⟩
 ·exact Zwk
 ·exact Zu
 rintro k ⟨hk,hc⟩;refine Z_6 ?_;refine ZW ?_ ?_<;>intro hc2
 ·simp only[ap]at hc2;have hkl:k<l.length:=(by omega);obtain⟨ad,had⟩:=h.some_ (by omega);have h2:=h;rw[had]at h2;obtain⟨y,hy⟩:∃y,l[k]? =some y:=⟨_,ak hkl⟩;rw[oF hy]at hc;refine eo ?_;refine cj ⟨fun j=>List.elem j [],[]⟩ Zk ?_;refine ZI 0 ?_;refine ZE 1 ?_;refine ZE 2 ?_;refine cR 3 rfl Zk Zk Zk (eV (j:=k) had rfl Zrf Zv0 Zv0 Zrf (fun _=>hkl)) rfl ?_;refine eQ 4 rfl Zk Zk Zk Zk (cC (vs:=cH y) Zrf Zrf Zv0) (fC h2 (fun i v hi=>fF (f:=cH) Zrf (i:=i) hy hi)) rfl ?_;refine cR 5 rfl Zk Zk Zk (BL rM (ye x y) (Zv rfl) (Zv rfl)) rfl ?_;refine bO Zk ?_;refine Zt ?_;refine ZW ?_ ?_<;>intro hc4
  ·have hcx:l.contains x=true:=(by rw[←hc,List.contains_cons,hc4,Bool.true_or]);refine gK ?_;refine Zra ?_;exact⟨⟨_,rfl,by rw[hcx];exact aG (by omega)⟩,rfl⟩
  rw[List.contains_cons,hc4,Bool.false_or]at hc;refine Z_4 ?_;refine Zy (cF Zv0 Zv0 Zl) ?_;refine Z_2 ?_;refine eh (k+1) ?_ ?_ ?_
  ·exact⟨⟨by omega,hc⟩,by omega⟩
  ·exact Zwk
  exact Zu
 simp only[aj]at hc2;obtain rfl:k=l.length:=(by omega);rw[List.drop_length]at hc;refine eo ?_;refine Zra ?_;exact⟨⟨_,rfl,by rw[←hc];rfl⟩,rfl⟩
theorem wX(A:Option Addr)(c:Nat)(l:List Ky)(x:Ky)(w:World)(h:RdV w 2 A l.length c (l.flatMap cH)):Ctr prog 125 [.slice A l.length c,.agg (cH x).toArray] w [] (fun v cs=>v= .bool (l.contains x)∧cs=[]):=by
 refine bL func125 rfl ntmps125 rfl (Inv.start w) ?_;refine Z_2 ?_;refine ZO fun b3=>?_;refine Z_7 ?_;refine ZS (fun w hi=>DD A c l x w (h.IB hi)) ?_;rintro _ _ ⟨_,⟨⟨z,rfl,hz⟩,rfl⟩,rfl⟩;refine Z_5 ?_;refine Zra ?_;exact⟨by rw[←hz],rfl⟩
theorem link_rd{w:World}{LK:List (Ky×LS)}{k:Ky}(h:(dw (lkC LK)).ok w):RdV w 2 (gP LK k).A (gP LK k).ks.length (gP LK k).c ((gP LK k).ks.flatMap cH):=by
 cases hp:cX (fun x:Ky×LS=>x.1) k LK with
 |some j=>
  obtain⟨x,hx,hl⟩:=lV hp;rw[hl];exact dq (qD h (lsC x) (bh.2 ⟨_,aK hx,rfl⟩))
 |none=>
  rw[lW hp];exact⟨rfl,aQ _,aw _,fun _=>⟨rfl,rfl⟩,fun ad e=>nomatch e⟩
theorem G0(bc:Nat)(room:Int)(X:CaX)(hX:oN room X)(f t:Ky)(hkf:ko f)(w:World)(hi:Inv w (bK (caF bc room X)) (caF bc room X) w):
  Ctr prog 93 [.pointer (some ⟨bc,0,none⟩),.agg (cH f).toArray,.agg (cH t).toArray] w (caF bc room X) (fun _ cs=>∃X':CaX,cs=caF bc room X'∧oN room X'∧X'.Z=X.Z):=by
 have hS:=hX.sm;have hlk:=hX.lk;have hX2:∀LK,xf (X.Z.map BA.key) LK→oN room ⟨X.ml,X.Ac,X.cc,X.fl,LK,X.Z⟩:=fun LK h=>⟨hX.rm,hX.len,hX.ba,h⟩
 obtain⟨ml,Ac,cc,fl,LK,Z⟩:=X;dsimp only at hS hlk hX2;have hZ:=hS.1;have HP:=sh bc (.int .i64 room) (.map (some ml)) (.int .i64 fl) Ac cc Z hZ;have hgv:=Dm LK f;have hget:∀L,fX (lkV LK) f (.slice none 0 0)=L→L=(gP LK f).v:=fun L e=>e▸hgv
 refine bL func93 rfl ntmps93 rfl hi ?_;refine Z_2 ?_;refine ZO fun b4=>?_;refine ZO fun b5=>?_
 refine Z_5 ?_;rcases ho1:cX BA.key f Z with _|j1
 ·refine Z_3 ?_;refine ZcM ([caR bc (.int .i64 room) (.slice Ac Z.length cc) (.map (some ml)) (.int .i64 fl),slv 173 4 Ac Z.length cc (Z.flatMap BA.cells)]) (fun w hi hin=>HP f w hin) ?_;rw[ho1];refine Z_2 ?_;refine dr (bS rfl rfl) rfl rfl ?_;refine dr (bS rfl rfl) rfl rfl ?_;refine dr (bS rfl rfl) rfl rfl ?_;refine dr (bS rfl rfl) rfl rfl ?_;refine Zy (EZ (q:=false) (Zv rfl) ⟨_,rfl,fun _ e=>absurd e (by decide)⟩) ?_;refine Z_2 ?_;refine cB rfl (rfl) ?_;refine Z_7 ?_;refine bQ (caF bc room ⟨ml,Ac,cc,fl,LK,Z⟩) Zj ?_;refine vQ (cs':=caF bc room ⟨ml,Ac,cc,fl,LK,Z⟩) (.inl rfl) (aI _) rfl rfl ?_;exact⟨_,rfl,hX,rfl⟩
 refine Z_3 ?_;refine ZcM ([caR bc (.int .i64 room) (.slice Ac Z.length cc) (.map (some ml)) (.int .i64 fl),slv 173 4 Ac Z.length cc (Z.flatMap BA.cells)]) (fun w hi hin=>HP f w hin) ?_;rw[ho1];refine Z_3 ?_;refine iO (bS rfl rfl) Zh Zrf Zrf (Zv rfl) rfl ?_;refine ku (bS rfl rfl) (by rw[show decide (BF (some j1)<0)=false from aF (by show¬((j1:Nat):Int)<0;omega)];rfl) (dR ([caR bc (.int .i64 room) (.slice Ac Z.length cc) (.map (some ml)) (.int .i64 fl),slv 173 4 Ac Z.length cc (Z.flatMap BA.cells)]) rfl (fun _ _=>rfl) Zi (fun w hi hin=>HP t w hin)) rfl ?_;rintro _ _ ⟨_,⟨rfl,rfl⟩,rfl⟩;refine Z_4 ?_;refine ZW ?_ ?_<;>intro hc1
 ·refine Z_7 ?_;refine bQ (caF bc room ⟨ml,Ac,cc,fl,LK,Z⟩) Zj ?_;refine vQ (cs':=caF bc room ⟨ml,Ac,cc,fl,LK,Z⟩) (.inl rfl) (aI _) rfl rfl ?_;exact⟨_,rfl,hX,rfl⟩
 have htk:t∈Z.map BA.key:=(by cases ho2:cX BA.key t Z with|none=>rw[ho2]at hc1;simp[BF]at hc1|some j2=>obtain⟨x2,hx2,hxk2, -⟩:=pu ho2;exact bh.2 ⟨x2,aK hx2,hxk2⟩);refine Z_2 ?_;refine de (fun Y:CaX=>[(6,.bool false)]) (fun Y=>caF bc room Y) (fun Y=>oN room Y∧Y.Z=Z) ?_ ?_
 ·refine Zs (cj ⟨fun j=>List.elem j [],[]⟩ Zk ?_);refine ZE 0 ?_;refine ZE 1 ?_;refine ZFe 2 2 ?_;refine ZG 3 ?_;refine ZI 4 ?_;refine ZI 6 ?_;refine cE 5 Zk ?_;refine eN rfl (xn (Zv rfl) (Zv rfl) hkf rfl wx Zrf) (fun w hi=>(show lw ml (lkV LK) w from hi.get (show Has _ (mpc ml (lkV LK))from Zh))) rfl ?_;refine cE 7 Zk ?_;rw[Dm LK f];refine ZT (fun w hi=>wX (gP LK f).A (gP LK f).c (gP LK f).ks t w (link_rd (hi.get (show Has _ (dw (lkC LK))from Zh)))) ?_;rintro _ _ ⟨_,⟨rfl,rfl⟩,rfl⟩;refine ZE 8 ?_;refine bO Zk ?_;refine Zt ?_;refine ZW ?_ ?_<;>intro hc3
  ·have hnt:t∉(gP LK f).ks:=(by intro hm;have h9:(!(gP LK f).ks.contains t)=true:=hc3;rw[List.contains_iff_mem.2 hm]at h9;cases h9);have hxl:(gP LK f).ks.length≤1000000:=(by cases hp:cX (fun x:Ky×LS=>x.1) f LK with|some j=>obtain⟨x,hx,hl⟩:=lV hp;rw[hl];exact((hlk.sm (by simpa using hZ)) _ (aK hx)).2|none=>rw[lW hp];exact aw _);obtain⟨⟨Ax,cx,kx⟩,hlx⟩:=Zgn (gP LK f);refine wc_inv (cs':=lsC (gP LK f)::dw (tL LK f)::[caR bc (.int .i64 room) (.slice Ac Z.length cc) (.map (some ml)) (.int .i64 fl),slv 173 4 Ac Z.length cc (Z.flatMap BA.cells),dw (Z.map baC),mpc ml (lkV LK),kyR b4 f,kyR b5 t]) (fun w hi=>lkTake f (hi.pick (cs':=dw (lkC LK)::[caR bc (.int .i64 room) (.slice Ac Z.length cc) (.map (some ml)) (.int .i64 fl),slv 173 4 Ac Z.length cc (Z.flatMap BA.cells),dw (Z.map baC),mpc ml (lkV LK),kyR b4 f,kyR b5 t]) Zj)) ?_;refine eM ⟨fun j=>List.elem j [7,9,11],[]⟩ [(0,0),(1,0),(2,0),(3,4),(4,4),(5,4),(6,2),(7,2),(8,0),(10,0),(9,2),(11,2)] Zk Zk ?_;refine bU rfl (cy Zv0) rfl ?_;refine bU rfl (dI Zv0) rfl ?_;refine bU rfl (cA 2 rfl Zv0 Zf) rfl ?_;refine iL rfl (bM Zrf Zv0) (bR Zh rfl) rfl ?_;refine jB rfl Zh Zrf Zrf (Zv rfl) rfl ?_;refine jB rfl Zh Zrf Zrf (Zv rfl) rfl ?_;refine et rfl ?_;refine fa rfl rfl (di rfl rfl Zrf Zrf rfl rfl rfl) ZJ rfl ?_;rintro _ _ ⟨b33,rfl,rfl⟩;refine et rfl ?_;refine fa rfl rfl (Fv rfl rfl hkf rfl wx Zrf Za) ZJ rfl ?_;rintro _ _ ⟨st34,rfl,rfl⟩;refine bU rfl (cV Zv0 (.zero _ _)) rfl ?_;refine bU rfl (cV Zv0 (.succ _ (.zero _ _))) rfl ?_;refine et rfl ?_;rw[Dm LK f];refine fa rfl rfl (cM (n:=(gP LK f).ks.length) (e:=83) (sz:=2) (bytes:=8) rfl rfl Za rfl rfl (fun w hi=>hi.rd (show Has _ (slv 83 2 (some ⟨b33,0,none⟩) 1 1 (cH t))from Zh)) (rL t) (by simp only[maxLen];omega) (by omega)) ZJ rfl ?_;rintro _ _ ⟨A9,c9,rfl,rfl⟩;rw[show(gP LK f).ks.flatMap cH++cH t=((gP LK f).ks++[t]).flatMap cH by simp,show(gP LK f).ks.length+1=((gP LK f).ks++[t]).length by simp];refine et rfl ?_;refine dN rfl rfl (Co (ment_at LK f) rfl rfl rfl Za) ZJ ?_;rintro _ _ ⟨rfl,rfl⟩;refine dA ?_;refine j5 (c:=mpc ml ((rB (lkV LK) f (.slice none 0 0)).set (uQ (lkV LK) f) (f,(LS.mk A9 c9 ((gP LK f).ks++[t])).v))) (c':=mpc ml (lkV (dF LK f ⟨A9,c9,(gP LK f).ks++[t]⟩))) Za rfl (fun w h=>by rw[←Ga];exact h) ?_
   refine iR (cin:=tL LK f) (c:=lsC ⟨A9,c9,(gP LK f).ks++[t]⟩) (cin':=lkC (dF LK f ⟨A9,c9,(gP LK f).ks++[t]⟩)) Zd Zd (lkPut LK f _) ?_;refine cz ((⟨ml,Ac,cc,fl,dF LK f ⟨A9,c9,(gP LK f).ks++[t]⟩,Z⟩:CaX)) ?_ ?_ ?_
   ·exact⟨hX2 _ (hlk.put hkf htk hnt _ _),rfl⟩
   ·exact Zwk
   exact Zj
  refine Zc ?_;refine cz ((⟨ml,Ac,cc,fl,LK,Z⟩:CaX)) ?_ ?_ ?_
  ·exact⟨hX,rfl⟩
  ·exact Zwk
  exact Zj
 rintro Y ⟨hY,hYZ⟩;refine Z_6 ?_
 skip
 refine vQ (cs':=caF bc room Y) (.inl rfl) (aI _) rfl rfl ?_;exact⟨Y,rfl,hY,hYZ⟩
end Go.Proofs.YtomjgmbccamgiaaGreatDoor
namespace Go.Ink
open Go.RowKit
structure RS where
 r:Rn
 A:Option Addr
 c:Nat
def RS.cells(x:RS):List Value:=[.slice x.A x.r.bytes.length x.c,.bool x.r.ends]
def RS.v(x:RS):Value:= .agg x.cells.toArray
def RS.zero:RS:=⟨Rn.zero,none,0⟩
def rnV(RZ:List (Ky×RS)):List (Ky×Value):=RZ.map fun x=>(x.1,x.2.v)
def rnM(RZ:List (Ky×RS)):List (Ky×Rn):=RZ.map fun x=>(x.1,x.2.r)
theorem fW(x:RS):∀u∈x.cells,u.oneCell'=true:=fun u h=>by
 simp only[RS.cells,aM,a9,or_false]at h;rcases h with rfl|rfl<;>rfl
theorem it_cur{b r:Nat}{L:List (Bool×Ky×Value)}{cur:Option (Ky×Value)}{w:World}(h:vq b r L cur w):vq b r L none w:=by
 obtain⟨es,clock,since,seen,c0,hb,hs,hr,hold,hsc,hsk,hL,hok,hne,hcur⟩:=h;exact⟨es,clock,since,seen,c0,hb,hs,hr,hold,hsc,hsk,hL,hok,hne,fun _ _ e=>by cases e⟩
structure EnX where
 bc:Nat
 mr:Nat
 room:Int
 X:CaX
 RZ:List (Ky×RS)
 last:Ky
 IC:Int
 IA:Int
 begun:Bool
def EnX.eng(E:EnX):Eng:=⟨E.room,E.X.Z.map BA.b,rnM E.RZ,E.last,E.IC,E.IA,E.begun⟩
structure mS(E:EnX):Prop where
 ca:oN E.room E.X
 eg:gJ E.eng
 rs:∀y,y∈E.RZ→ko y.1∧y.2.r.bytes.length≤1000∧u8s y.2.r.bytes
 last:ko E.last
def gIL(G:List (Bool×Ky×RS)):List (Bool×Ky×Value):=G.map fun g=>(g.1,g.2.1,g.2.2.v)
theorem gIL_at{G:List (Bool×Ky×RS)}{j:Nat}{q:Ky}{v:Value}(h:(gIL G)[j]? =some (false,q,v)):∃x,G[j]? =some (false,q,x)∧v=x.v:=by
 unfold gIL at h;rw[bj]at h;cases hg:G[j]? with
 |none=>rw[hg]at h;cases h
 |some g=>
  obtain⟨f,p,x⟩:=g;rw[hg]at h;simp only[Option.map_some,aU,aX]at h;obtain⟨rfl,rfl,rfl⟩:=h;exact⟨x,rfl,rfl⟩
theorem gIL_del{G:List (Bool×Ky×RS)}{j:Nat}{f:Bool}{q:Ky}{x:RS}(hn:(G.map fun g=>g.2.1).Nodup)(h:G[j]? =some (f,q,x)):sM (gIL G) q=gIL (G.eraseIdx j):=by
 have hp:cX (fun z:Bool×Ky×Value=>z.2.1) q (gIL G)=some j:=by
  have e:cX (fun z:Bool×Ky×Value=>z.2.1) q (gIL G)=cX (fun g:Bool×Ky×RS=>g.2.1) q G:=jy (key:=fun g:Bool×Ky×RS=>g.2.1) (key':=fun z:Bool×Ky×Value=>z.2.1) (fun g:Bool×Ky×RS=>(g.1,g.2.1,g.2.2.v)) Zrf q G;rw[e];cases hp:cX (fun g:Bool×Ky×RS=>g.2.1) q G with
  |none=>exact absurd rfl (ik hp _ (aK h))
  |some i=>
   obtain⟨hi,hk⟩:=fp hp;obtain⟨hj,hje⟩:=au.1 h;have:i=j:=(List.getElem_inj (xs:=G.map fun g=>g.2.1) (h₀:=by simpa using hi) (h₁:=by simpa using hj) hn).1 (by simp[hk,hje]);rw[this]
 unfold sM;rw[hp];dsimp only;unfold gIL;rw[ChangeMaps.map_eraseIdx]
theorem vM{α:Type}:∀(l:List α) (j:Nat) (x:α),(l.set j x).eraseIdx j=l.eraseIdx j
 |[],_,_=>rfl
 |_::_,0,_=>rfl
 |a::l,j+1,x=>by
  show a::(l.set j x).eraseIdx j=a::l.eraseIdx j;rw[vM l j x]
theorem pX{α:Type}{f:α→Bool}:∀{l:List α} {j:Nat} {x:α},l[j]? =some x→f x=false→(l.eraseIdx j).filter f=l.filter f
 |[],j,x,h,_=>by simp at h
 |a::l,0,x,h,hf=>by
  obtain rfl:a=x:=by simpa using h
  show l.filter f=_;rw[List.filter_cons,hf];simp
 |a::l,j+1,x,h,hf=>by
  show(a::l.eraseIdx j).filter f=_;rw[List.filter_cons,List.filter_cons,pX (l:=l) (by simpa using h) hf]
theorem pS{α β:Type}{g:α→β}{l:List α}{j:Nat}{x y:α}(h:l[j]? =some x)(hg:g y=g x):(l.set j y).map g=l.map g:=by
 rw[List.map_set,hg];apply List.ext_getElem?;intro i;rw[List.getElem?_set];by_cases hij:j=i
 ·subst hij;have hj:=(au.1 h).1;rw[if_pos rfl,if_pos (by simpa using hj),bj,h]
  rfl
 rw[if_neg hij]
def nH(G:List (Bool×Ky×RS)):Nat:=(G.filter fun g=> !g.1).length
theorem sZ:∀{G:List (Bool×Ky×RS)} {j:Nat} {x:Ky×RS},G[j]? =some (false,x)→nH (G.set j (true,x))<nH G
 |[],j,x,h=>by simp at h
 |g::G,0,x,h=>by
  obtain rfl:g=(false,x):=by simpa using h
  simp[nH]
 |g::G,j+1,x,h=>by
  have:=sZ (G:=G) (j:=j) (x:=x) (by simpa using h);unfold nH at this⊢;rw[List.set_cons_succ,List.filter_cons,List.filter_cons];cases g.1<;>simp<;>exact this
theorem pM:∀{G:List (Bool×Ky×RS)} {j:Nat} {x:Ky×RS},G[j]? =some (false,x)→nH (G.eraseIdx j)<nH G
 |[],j,x,h=>by simp at h
 |g::G,0,x,h=>by
  obtain rfl:g=(false,x):=by simpa using h
  simp[nH]
 |g::G,j+1,x,h=>by
  have:=pM (G:=G) (j:=j) (x:=x) (by simpa using h);unfold nH at this⊢;show((g::G.eraseIdx j).filter _).length<_;rw[List.filter_cons,List.filter_cons];cases g.1<;>simp<;>exact this
theorem wy(Z:List BA)(RZ:List (Ky×RS)):sL (Z.map BA.b) (rnM RZ)=rnM (RZ.filter fun x=>Z.any fun t=>t.key==x.1):=by
 unfold sL rnM;rw[List.filter_map];congr 1;apply List.filter_congr;intro x _;simp only[Function.comp,List.any_map]
 rfl
theorem Hb(Z:List BA)(k:Ky):(Z.any fun t=>t.key==k)=(Z.find? fun t=>t.key==k).isSome:=by
 rw[Bool.eq_iff_iff,List.any_eq_true,List.find?_isSome]
theorem GQ(Z:List BA)(Ig:List Int):(Z.map BA.b).filter (fun t=> !Ig.contains (t.key.2/64))=(Z.filter fun x=> !Ig.contains (x.b.key.2/64)).map BA.b:=by
 rw[List.filter_map]
 rfl
theorem tR{α:Type}(D:α→Bool):∀l:List α,(l.filter D).length+(l.filter fun x=> !D x).length=l.length
 |[]=>rfl
 |x::l=>by
  have:=tR D l;rw[List.filter_cons,List.filter_cons];cases D x<;>simp<;>omega
end Go.Ink
namespace Go.Proofs.YtomjgmbccamgiaaGreatDoor
open Go.RowKit Go.Ink Go.Proofs.Tryz
attribute [local irreducible] OpY bW
abbrev rsC(x:RS):bJ:=sl .u8 5 x.A x.r.bytes.length x.c x.r.bytes
def rnC(RZ:List (Ky×RS)):List bJ:=RZ.map fun x=>rsC x.2
abbrev enR(be:Nat)(E:EnX):bJ:=row be [.pointer (some ⟨E.bc,0,none⟩),.map (some E.mr),.int .u32 E.last.1,.int .u32 E.last.2,.int .i64 E.IC,.int .i64 E.IA,.bool E.begun] 85
abbrev enF(be:Nat)(E:EnX):List bJ:=[enR be E,caR E.bc (.int .i64 E.room) (.slice E.X.Ac E.X.Z.length E.X.cc) (.map (some E.X.ml)) (.int .i64 E.X.fl),blC E.X,dw (E.X.Z.map baC),mpc E.X.ml (lkV E.X.LK),dw (lkC E.X.LK),mpc E.mr (rnV E.RZ),dw (rnC E.RZ)]
theorem zC(x:RS)(n:Int)(w:World):Ctr prog 54 [.agg x.cells.toArray,.int .i64 n] w [] (fun v cs=>v= .int .i64 (bif n==0 then 0 else(x.r.bytes.length:Int))∧cs=[]):=by
 refine bL func54 rfl ntmps54 rfl (Inv.start w) ?_;refine Z_2 ?_;refine ZO fun b2=>?_;refine eK ?_;refine ZW ?_ ?_<;>intro hc1
 ·refine Z_7 ?_;refine Zra ?_;rw[hc1];exact⟨rfl,rfl⟩
 refine eo ?_;refine Zra ?_;rw[hc1];exact⟨rfl,rfl⟩
theorem qE(be:Nat)(E:EnX)(w:World)(hi:Inv w (bK (enF be E)) (enF be E) w):Ctr prog 11 [.pointer (some ⟨be,0,none⟩)] w (enF be E) (fun v cs=>v= .tuple #[.int .i64 E.IC,.int .i64 E.IA]∧cs=enF be E):=by
 refine bL func11 rfl ntmps11 rfl hi ?_;refine Z_7 ?_;refine cj ⟨fun j=>List.elem j [],[]⟩ Zk ?_;refine ZE 0 ?_;refine ZE 1 ?_;refine ZFe 2 4 ?_;refine ZG 3 ?_;refine ZE 4 ?_;refine ZE 5 ?_;refine ZFe 6 5 ?_;refine ZG 7 ?_;refine ZE 8 ?_;refine ZE 9 ?_;refine bO Zk ?_;refine Z_2 ?_;refine fw (cs':=enF be E) (.inl rfl) (aI _) rfl rfl rfl ?_;exact⟨rfl,rfl⟩
theorem pE(be:Nat)(E:EnX)(w:World)(hi:Inv w (bK (enF be E)) (enF be E) w):Ctr prog 15 [.pointer (some ⟨be,0,none⟩)] w (enF be E) (fun v cs=>v= .int .i64 (E.X.Z.length:Int)∧cs=enF be E):=by
 refine bL func15 rfl ntmps15 rfl hi ?_;refine eo ?_;refine ZcM (caF E.bc E.room E.X) (fun w hi hin=>Ey E.bc E.room E.X w hin) ?_;refine Z_4 ?_;refine bQ (enF be E) Zj ?_;refine vQ (cs':=enF be E) (.inl rfl) (aI _) rfl rfl ?_;exact⟨rfl,rfl⟩
theorem enew_ok(room:Int)(w:World):Ctr prog 9 [.int .i64 room] w [] (fun v cs=>if 1≤room∧room≤1024 then∃be bc mr ml,v= .tuple #[.pointer (some ⟨be,0,none⟩),.int .i64 0]∧cs=enF be ⟨bc,mr,room,⟨ml,none,0,0,[],[]⟩,[],(0,0),0,0,false⟩else v= .tuple #[.pointer none,.int .i64 1]∧cs=[]):=by
 have HN:=cnew_ok room;refine bL func9 rfl ntmps9 rfl (Inv.start w) ?_;by_cases hr:1≤room∧room≤1024
 ·have HN2:∀w,Ctr prog 34 [.int .i64 room] w [] (fun v cs=>∃bc ml,v= .tuple #[.pointer (some ⟨bc,0,none⟩),.int .i64 0]∧cs=caF bc room ⟨ml,none,0,0,[],[]⟩):=fun w=>Ctr.mono (HN w) fun v cs h=>by rw[if_pos hr]at h;exact h
  refine Z_9 ?_;refine ZS (fun w hi=>HN2 w) ?_;rintro _ _ ⟨_,⟨bc,ml,rfl,rfl⟩,rfl⟩;refine ic ?_;refine bY rfl (rfl) ?_;refine Z_4 ?_;refine ny ?_;refine ZA ?_;refine dM (xy rfl) rfl ?_;rintro _ _ ⟨b15,rfl,rfl⟩;refine ZA ?_;refine ZO fun b17=>?_
  refine Z_5 ?_;refine bQ (enF b17 ⟨bc,b15,room,⟨ml,none,0,0,[],[]⟩,[],(0,0),0,0,false⟩) Zj ?_;refine fw (cs':=enF b17 ⟨bc,b15,room,⟨ml,none,0,0,[],[]⟩,[],(0,0),0,0,false⟩) (.inl rfl) (aI _) rfl rfl rfl ?_;rw[if_pos hr];exact⟨b17,bc,b15,ml,rfl,rfl⟩
 have HN2:∀w,Ctr prog 34 [.int .i64 room] w [] (fun v cs=>v= .tuple #[.pointer none,.int .i64 1]∧cs=[]):=fun w=>Ctr.mono (HN w) fun v cs h=>by rw[if_neg hr]at h;exact h
 refine Z_9 ?_;refine ZSe (fun w hi=>HN2 w) ?_;refine ic ?_;refine cB rfl (rfl) ?_;refine Z_9 ?_;refine fw (cs':=[]) (.inl rfl) Zu rfl rfl rfl ?_;rw[if_neg hr];exact⟨rfl,rfl⟩
theorem Ee(be:Nat)(E:EnX)(w:World)(hi:Inv w (bK (enF be E)) (enF be E) w):Ctr prog 21 [.pointer (some ⟨be,0,none⟩)] w (enF be E) (fun _ cs=>∃ml fl,cs=enF be ⟨E.bc,E.mr,E.room,⟨ml,none,0,fl,[],[]⟩,[],E.last,E.IC,E.IA,E.begun⟩):=by
 refine bL func21 rfl ntmps21 rfl hi ?_;refine Z_6 ?_;refine ZcL (caF E.bc E.room E.X) (fun w hi hin=>w6 E.bc E.room E.X w hin) ?_;rintro _ _ ⟨_,⟨ml,fl,rfl,rfl⟩,rfl⟩;refine Z_7 ?_;refine dz (Fw rfl rfl Za) ?_;rintro _ _ ⟨rfl,rfl⟩;refine Zn (jI (cin:=rnC E.RZ) (cin':=[]) Zd (List.nil_sublist _) ?_);refine bQ (enF be ⟨E.bc,E.mr,E.room,⟨ml,none,0,fl,[],[]⟩,[],E.last,E.IC,E.IA,E.begun⟩) Zj ?_;refine fL (cs':=enF be ⟨E.bc,E.mr,E.room,⟨ml,none,0,fl,[],[]⟩,[],E.last,E.IC,E.IA,E.begun⟩) (.inr rfl) (aI _) rfl ?_;exact⟨ml,fl,rfl⟩
theorem AV(Y:bJ)(D:Ky→Bool)(f:FuncId)(caps:List Value)(HF:∀args w,(callFunc f args).run prog w= .ok (.enter f args) w)(RZ:List (Ky×RS))(hn:(RZ.map (·.1)).Nodup)(hk:∀y,y∈RZ→ko y.1)(mr:Nat)
  (HC:∀(q:Ky) (x:RS) (w:World),ko q→Inv w (bK [Y]) [Y] w→Ctr prog f ([]++[.agg (cH q).toArray,.agg x.cells.toArray]++caps) w [Y] (fun v cs=>v= .bool (D q)∧cs=[Y]))
  (w:World) (hi:Inv w (bK [mpc mr (rnV RZ),Y]) [mpc mr (rnV RZ),Y] w):
  Ctr prog 82 [.map (some mr),.func (.func f) #[] caps.toArray] w [mpc mr (rnV RZ),Y] (fun _ cs=>cs=[mpc mr (rnV (RZ.filter fun x=> !D x.1)),Y]):=by
 refine bL func82 rfl ntmps82 rfl hi ?_;refine Z_3 ?_;refine dM (yL rfl rfl Za) rfl ?_;rintro _ _ ⟨b7,rfl,rfl⟩;rw[show(rnV RZ).map (fun x=>(false,x))=gIL (RZ.map fun x=>(false,x)) by unfold rnV gIL;rw[List.map_map,List.map_map];rfl];refine Z_3 ?_;refine cJ (fun G:List (Bool×Ky×RS)=>[(0,.map (some mr)),(1,.func (.func f) #[] caps.toArray),(7,.pointer (some ⟨b7,0,none⟩))]) (fun G=>[itC mr b7 (gIL G) none,Y]) (fun G=>(G.map (·.2)).filter (fun x=> !D x.1)=RZ.filter (fun x=> !D x.1)∧(∀g,g∈G→g.1=true→D g.2.1=false)∧(G.map fun g=>g.2.1).Nodup∧(∀g,g∈G→ko g.2.1)) (fun G=>nH G) (RZ.map fun x=>(false,x)) ?_ ?_ ?_ ?_
 ·exact⟨(by rw[List.map_map];show(RZ.map id).filter _=_;rw[List.map_id]),(fun g hg h=>by obtain⟨y, -,rfl⟩:=bh.1 hg;cases h),(by rw[List.map_map];exact hn),(fun g hg=>by obtain⟨y,hy,rfl⟩:=bh.1 hg;exact hk y hy)⟩
 ·exact Zwk
 ·exact Zu
 rintro G ⟨hG,hT,hN,hK⟩;refine Z_2 ?_;refine dM (Cn rfl Za) rfl ?_;rintro _ _ ⟨o8,ho8,rfl,rfl⟩;refine Zy (BI Zv0) ?_;refine Z_3 ?_;refine ZW ?_ ?_<;>intro hc1
 ·obtain⟨⟨j,q,v⟩,rfl⟩:=Option.isSome_iff_exists.1 hc1;have hj0:(gIL G)[j]? =some (false,q,v):=ho8;obtain⟨x,hx,rfl⟩:=gIL_at hj0;have hq:=hK _ (aK hx);have hIT:(gIL G).set j (true,q,x.v)=gIL (G.set j (true,q,x)):=(by unfold gIL;rw[List.map_set]);have hx2:(G.set j (true,q,x))[j]? =some (true,q,x):=List.getElem?_set_self (au.1 hx).1;have hN2:((G.set j (true,q,x)).map fun g=>g.2.1).Nodup:=(by rw[pS (y:=(true,q,x)) hx rfl];exact hN);have hdel:sM ((gIL G).set j (true,q,x.v)) q=gIL (G.eraseIdx j):=(by rw[hIT,gIL_del hN2 hx2,vM]);refine Z_5 ?_;refine dU (BN (Zv rfl)) (fun w hi=>(show vq mr b7 (xU (gIL G) (some (j,q,x.v))) (some (q,x.v)) w from hi.get (show Has _ (itC mr b7 (xU (gIL G) (some (j,q,x.v))) (C0 (some (j,q,x.v))))from Zh))) rfl ?_;refine Z_2 ?_;refine ZN fun b4=>?_
  refine ZN fun b5=>?_
  refine dz (cq (vs:=cH q) Zrf rfl rfl (rL q) Za (by exact rfl)) ?_;rintro _ _ ⟨rfl,rfl⟩;refine dz (cq (vs:=x.cells) Zrf rfl rfl (fW x) Za (by exact rfl)) ?_;rintro _ _ ⟨rfl,rfl⟩;refine Z_7 ?_;refine dM (fx ([Y]) rfl rfl HF Zi (fun w hi hin=>HC q x w hq hin)) rfl ?_;rintro _ _ ⟨_,⟨rfl,rfl⟩,rfl⟩;refine Z_2 ?_;refine ZW ?_ ?_<;>intro hc3
  ·refine Z_3 ?_;refine dz (t_itdel rfl rfl hq rfl wx Za) ?_;rintro _ _ ⟨rfl,rfl⟩;refine Z_2 ?_;refine j5 (c:=itC mr b7 (sM ((gIL G).set j (true,q,x.v)) q) none) (c':=itC mr b7 (gIL (G.eraseIdx j)) none) Za rfl (fun w h=>by rw[←hdel];exact h) ?_;refine cz ((G.eraseIdx j)) ?_ ?_ ?_
   ·exact⟨⟨(by rw[ChangeMaps.map_eraseIdx,pX (x:=(q,x)) (by rw[bj,hx];rfl) (by rw[hc3];rfl)];exact hG),(fun g hg h=>hT g ((List.eraseIdx_sublist _ _).subset hg) h),hN.sublist ((List.eraseIdx_sublist _ _).map _),fun g hg=>hK g ((List.eraseIdx_sublist _ _).subset hg)⟩,pM hx⟩
   ·exact Zwk
   exact Zj
  refine Z_2 ?_;refine j5 (c:=itC mr b7 ((gIL G).set j (true,q,x.v)) (some (q,x.v))) (c':=itC mr b7 (gIL (G.set j (true,q,x))) none) Za rfl (fun w h=>by rw[←hIT];exact it_cur h) ?_;refine cz ((G.set j (true,q,x))) ?_ ?_ ?_
  ·exact⟨⟨(by rw[pS (y:=(true,q,x)) hx rfl];exact hG),(fun g hg h=>(List.mem_or_eq_of_mem_set hg).elim (fun hg=>hT g hg h) (fun e=>by rw[e];exact hc3)),hN2,(fun g hg=>(List.mem_or_eq_of_mem_set hg).elim (fun hg=>hK g hg) (fun e=>by rw[e];exact hq))⟩,sZ hx⟩
  ·exact Zwk
  exact Zj
 obtain rfl:o8=none:=(by cases o8 with|none=>rfl|some z=>simp at hc1);have ho0:∀x,x∈gIL G→x.1=true:=ho8;have hall:∀g,g∈G→D g.2.1=false:=(fun g hg=>hT g hg (ho0 (g.1,g.2.1,g.2.2.v) (bh.2 ⟨g,hg,rfl⟩)));refine Z_4 ?_;refine vV (IL:=gIL G) (cur:=none) (b:=mr) (r:=b7) Zd ?_;rw[show(gIL G).map (·.2)=rnV (RZ.filter fun x=> !D x.1) by rw[←hG,List.filter_eq_self.2 (fun y hy=>by obtain⟨g,hg,rfl⟩:=bh.1 hy;rw[hall g hg];rfl)];unfold gIL rnV;rw[List.map_map,List.map_map];rfl];refine fL (cs':=[mpc mr (rnV (RZ.filter fun x=> !D x.1)),Y]) (.inr rfl) Zu rfl ?_
 rfl
end Go.Proofs.YtomjgmbccamgiaaGreatDoor
namespace Go.Ink
open Go.RowKit
section
variable {C:Cx} {Q:kM} {fr:Fr} {cs cs':List bJ} {ops:Array Oper} {l:List Oper} {e:Exit} {fn:Func} {K:Value→List bJ→Prop}
theorem Hj(hc:∀w,Inv C.w0 C.S cs w→Inv C.w0 C.S cs' w)(h:WL C ops Q l fr cs'):WL C ops Q l fr cs:=fun a w hf hi=>h a w hf (hc w hi)
theorem kB{t T bb tt t2 T2 b2 tt2 u:Nat}{v:Value}{xs ys:List Value}(he:e= .ret∨e= .normal)(hs:cs'.Sublist cs)(h0:fn.results= #[.cell t T,.cell t2 T2,.tmp u])(h1:look fr t=some (.pointer (some ⟨bb,0,none⟩)))(h2:look fr t2=some (.pointer (some ⟨b2,0,none⟩)))(h3:look fr u=some v)(hc:Has cs (row bb xs tt))(hc2:Has cs (row b2 ys tt2))
  (hT:∀w,(isAgg T).run C.P w= .ok true w) (hz:∀w,(sizeOf T).run C.P w= .ok xs.length w) (hT2:∀w,(isAgg T2).run C.P w= .ok true w) (hz2:∀w,(sizeOf T2).run C.P w= .ok ys.length w) (hk:K (.tuple #[.agg xs.toArray,.agg ys.toArray,v]) cs'):QOk C (bodyPost C.P fn (xl C.w0 C.S K)) e fr cs:=
 lM he hs (fun a w hf hi=>by
  have e1:=hf.at_ t _ h1;have e2:=hf.at_ t2 _ h2;have e3:=hf.at_ u _ h3;simp only[aZ]at e1 e2 e3;simp[results,h0,e1,e2,e3,asAddr,gz hT hz hi hc,gz hT2 hz2 hi hc2]) hk
end
theorem Ctr.up{P:Program}{f:FuncId}{args:List Value}{w:World}{cin:List bJ}{K K':Value→List bJ→Prop}(h:Ctr P f args w cin K)(hk:∀v cs w',K v cs→Inv w (bK cin) cs w'→∃cs',K' v cs'∧Inv w (bK cin) cs' w'):Ctr P f args w cin K':=
 Calls.mono h fun e w' hq=>by
  obtain⟨v,cout,rfl,h1,h2⟩:=hq;obtain⟨cs',h3,h4⟩:=hk v cout w' h1 h2;exact⟨v,cs',rfl,h3,h4⟩
abbrev EnX.IJ(E:EnX)(X:CaX):EnX:=⟨E.bc,E.mr,E.room,X,E.RZ,E.last,E.IC,E.IA,E.begun⟩
abbrev EnX.IP(E:EnX)(RZ:List (Ky×RS)):EnX:=⟨E.bc,E.mr,E.room,E.X,RZ,E.last,E.IC,E.IA,E.begun⟩
def k8(Z:List BA)(RZ:List (Ky×RS)):List (Ky×RS):=RZ.filter fun x=>Z.any fun t=>t.key==x.1
theorem FE(RZ:List (Ky×RS)):(rnM RZ).map (·.1)=RZ.map (·.1):=by unfold rnM;rw[List.map_map];rfl
theorem mS.rk{E:EnX}(h:mS E):(E.RZ.map (·.1)).Nodup:=by have:=h.eg.Jp;rwa[show E.eng.runs=rnM E.RZ from rfl,FE]at this
theorem nI(E:Eng){Ig:List Int}(h:Ig≠[]):lD E Ig=Ej E Ig:=by
 unfold lD;cases Ig with
 |nil=>exact absurd rfl h
 |cons=>rfl
theorem GR(E:EnX)(Ig:List Int)(X':CaX)(hX:X'.Z=E.X.Z.filter fun x=> !Ig.contains (x.b.key.2/64)):
  (bif decide (0<((E.X.Z.filter fun x=>Ig.contains (x.b.key.2/64)).length:Int))then((E.IJ X').IP (k8 X'.Z E.RZ)).eng else(E.IJ X').eng)=Ej E.eng Ig:=by
 have h2:=tR (fun x:BA=>Ig.contains (x.b.key.2/64)) E.X.Z;have hl:(E.eng.l.filter fun t=> !Ig.contains (t.key.2/64))=X'.Z.map BA.b:=by rw[hX];exact GQ E.X.Z Ig
 have hlen:E.eng.l.length=E.X.Z.length:=List.length_map _;unfold Ej;rw[hl,hlen];dsimp only;rw[List.length_map,hX];cases hd:decide (0<((E.X.Z.filter fun x=>Ig.contains (x.b.key.2/64)).length:Int))with
 |true=>
  simp only[ap]at hd;rw[ac,aG (by omega),ac];rw[←hX];show Eng.mk E.room (X'.Z.map BA.b) (rnM (k8 X'.Z E.RZ)) E.last E.IC E.IA E.begun=Eng.mk E.room _ (sL _ (rnM E.RZ)) E.last E.IC E.IA E.begun;rw[wy]
  rfl
 |false=>
  simp only[aj]at hd;rw[aa,aF (by omega),aa];rw[←hX]
  rfl
theorem B8(E:Eng)(Ig:List Int):(lD E Ig).last=E.last:=by unfold lD;cases Ig.isEmpty<;>rfl
theorem mS.Jx{E E':EnX}(h:mS E)(Ig:List Int)(he:E'.eng=lD E.eng Ig)(hc:oN E'.room E'.X)(hr:∀y,y∈E'.RZ→y∈E.RZ):mS E':=⟨hc,by rw[he];exact h.eg.turn Ig,fun y hy=>h.rs y (hr y hy),by have e:=congrArg Eng.last he;rw[B8]at e;rw[show E'.last=E.last from e];exact h.last⟩
theorem AR{b:List Int}{l:List (Int×Int)}{sz:Nat}{R:List (Int×Int)×Nat×Bool}(h:(l++(cP b 0 sz).1,(cP b 0 sz).2)=R):(l,sz,false)=R:=by
 rw[←h];show(l,sz,false)=(l++[],sz,false);rw[ay]
theorem AQ{b:List Int}{l:List (Int×Int)}{k sz:Nat}{R:List (Int×Int)×Nat×Bool}(h:(l++(cP b (k+1) sz).1,(cP b (k+1) sz).2)=R)(hd:dY (b.drop sz)=none):(l,sz,false)=R:=by
 rw[←h];have e:cP b (k+1) sz=([],sz,false):=by rw[cP,hd]
 rw[e,ay]
theorem CR{b:List Int}{l:List (Int×Int)}{k sz z:Nat}{i:Int×Int}{R:List (Int×Int)×Nat×Bool}(h:(l++(cP b (k+1) sz).1,(cP b (k+1) sz).2)=R)(hd:dY (b.drop sz)=some (i,z))(hp:dD i.1=false):(l,sz,false)=R:=by
 rw[←h];have e:cP b (k+1) sz=([],sz,false):=by rw[cP,hd];dsimp only;rw[hp,aa]
 rw[e,ay]
theorem CT{b:List Int}{l:List (Int×Int)}{k sz z:Nat}{i:Int×Int}{R:List (Int×Int)×Nat×Bool}(h:(l++(cP b (k+1) sz).1,(cP b (k+1) sz).2)=R)(hd:dY (b.drop sz)=some (i,z))(hp:dD i.1=true)(he:gq i.1=true):(l++[i],sz+z,true)=R:=by
 rw[←h];have e:cP b (k+1) sz=([i],sz+z,true):=by rw[cP,hd];dsimp only;rw[hp,he,ac,ac]
 rw[e]
theorem FY{b:List Int}{l:List (Int×Int)}{k sz z:Nat}{i:Int×Int}{R:List (Int×Int)×Nat×Bool}(h:(l++(cP b (k+1) sz).1,(cP b (k+1) sz).2)=R)(hd:dY (b.drop sz)=some (i,z))(hp:dD i.1=true)(he:gq i.1=false):(l++[i]++(cP b k (sz+z)).1,(cP b k (sz+z)).2)=R:=by
 rw[←h];have e:cP b (k+1) sz=(i::(cP b k (sz+z)).1,(cP b k (sz+z)).2.1,(cP b k (sz+z)).2.2):=by rw[cP,hd];dsimp only;rw[hp,he,ac,aa]
 rw[e,aq]
 rfl
end Go.Ink
namespace Go.Proofs.YtomjgmbccamgiaaGreatDoor
open Go.RowKit Go.Ink Go.Proofs.Tryz
attribute [local irreducible] OpY bW
abbrev pgC(Ap:Option Addr)(cp:Nat)(Ig:List Int):bJ:=sl .i64 3 Ap Ig.length cp Ig
abbrev caP(bc:Nat)(room:Int)(X:CaX)(Ap:Option Addr)(cp:Nat)(Ig:List Int):List bJ:=[caR bc (.int .i64 room) (.slice X.Ac X.Z.length X.cc) (.map (some X.ml)) (.int .i64 X.fl),blC X,dw (X.Z.map baC),mpc X.ml (lkV X.LK),dw (lkC X.LK),pgC Ap cp Ig]
theorem EB(bc:Nat)(room:Int)(X:CaX)(hX:oN room X)(Ap:Option Addr)(cp:Nat)(Ig:List Int)(w:World)(hi:Inv w (bK (caP bc room X Ap cp Ig)) (caP bc room X Ap cp Ig) w):
  Ctr prog 48 [.pointer (some ⟨bc,0,none⟩),.slice Ap Ig.length cp] w (caP bc room X Ap cp Ig) (fun v cs=>v= .int .i64 ((X.Z.filter (eI Ig)).length:Int)∧∃X':CaX,cs=caP bc room X' Ap cp Ig∧oN room X'∧X'.Z=X.Z.filter fun x=> !eI Ig x):=G8 bc room X hX Ap cp Ig w hi
abbrev enP(be:Nat)(E:EnX)(Ap:Option Addr)(cp:Nat)(Ig:List Int):List bJ:=[enR be E,caR E.bc (.int .i64 E.room) (.slice E.X.Ac E.X.Z.length E.X.cc) (.map (some E.X.ml)) (.int .i64 E.X.fl),blC E.X,dw (E.X.Z.map baC),mpc E.X.ml (lkV E.X.LK),dw (lkC E.X.LK),mpc E.mr (rnV E.RZ),dw (rnC E.RZ),pgC Ap cp Ig]
abbrev tdF(b1 be:Nat)(E:EnX):List bJ:=row b1 [.pointer (some ⟨be,0,none⟩)] 30::enR be E::caF E.bc E.room E.X
theorem Fo(b1 be:Nat)(E:EnX)(hS:BaSm E.X.Z)(q:Ky)(x:RS)(w:World)(hi:Inv w (bK (tdF b1 be E)) (tdF b1 be E) w):
  Ctr prog 83 ([]++[.agg (cH q).toArray,.agg x.cells.toArray]++[.pointer (some ⟨b1,0,none⟩)]) w (tdF b1 be E) (fun v cs=>v= .bool (!(E.X.Z.find? fun t=>t.key==q).isSome)∧cs=tdF b1 be E):=by
 have HF:=zK E.bc E.room E.X hS q;obtain⟨o,ho⟩:=Zgn ((E.X.Z.find? fun t=>t.key==q));rw[ho]at HF⊢;refine bL func83 rfl ntmps83 rfl hi ?_;cases o with
 |none=>
  refine Z_2 ?_;refine ZO fun b3=>?_;refine ZO fun b4=>?_
  refine Z_4 ?_;refine eM ⟨fun j=>List.elem j [5,10],[]⟩ [(0,4),(1,0),(2,0),(3,1),(4,1),(5,3),(6,3),(7,3),(8,3),(9,3),(10,3),(11,3)] Zk Zk ?_;refine iL rfl (bM Zrf Zv0) (bR Zh rfl) rfl ?_;refine bU rfl (dI Zv0) rfl ?_;refine bU rfl (cA 0 rfl Zv0 Zf) rfl ?_;refine fJ rfl (bM Zrf Zv0) (bR Zh rfl) rfl ?_;refine mt rfl Zh Zrf Zrf (Zv rfl) rfl ?_;refine EW [(5,[(6,0),(7,0),(8,0),(9,2),(10,2),(11,0)]),(9,[(5,2),(6,0),(7,0),(8,0),(10,2),(11,0)])] Zk (.cons ?_ (.cons ?_ .nil))
  ·refine ZcS (caF E.bc E.room E.X) (fun w hi hin=>HF w hin) ?_;rintro _ _ ⟨_,⟨rfl,rfl⟩,rfl⟩;refine bU rfl (cy Zv0) rfl ?_;refine bU rfl (cV Zv0 (.zero _ _)) rfl ?_;refine bU rfl (cV Zv0 (.succ _ (.zero _ _))) rfl ?_;refine et rfl ?_;refine fa rfl rfl (fc Zrf rfl) ZJ rfl ?_;rintro _ _ ⟨b6,rfl,rfl⟩;refine et rfl ?_;refine dN rfl rfl (cq Zrf rfl rfl (iK rfl) Za (by exact rfl)) ZJ ?_;rintro _ _ ⟨rfl,rfl⟩;refine bU rfl (fh Zv0) rfl ?_;refine dA ?_;refine Z_9 ?_;refine bQ (tdF b1 be E) Zj ?_;refine vQ (cs':=tdF b1 be E) (.inl rfl) (aI _) rfl rfl ?_;exact⟨rfl,rfl⟩
  refine fa rfl rfl (fc Zrf rfl) ZJ rfl ?_;rintro _ _ ⟨b6,rfl,rfl⟩;refine et rfl ?_;refine ZcS (caF E.bc E.room E.X) (fun w hi hin=>HF w hin) ?_;rintro _ _ ⟨_,⟨rfl,rfl⟩,rfl⟩;refine bU rfl (cy Zv0) rfl ?_;refine bU rfl (cV Zv0 (.zero _ _)) rfl ?_;refine bU rfl (cV Zv0 (.succ _ (.zero _ _))) rfl ?_;refine et rfl ?_;refine dN rfl rfl (cq Zrf rfl rfl (iK rfl) Za (by exact rfl)) ZJ ?_;rintro _ _ ⟨rfl,rfl⟩;refine bU rfl (fh Zv0) rfl ?_;refine dA ?_;refine Z_9 ?_;refine bQ (tdF b1 be E) Zj ?_;refine vQ (cs':=tdF b1 be E) (.inl rfl) (aI _) rfl rfl ?_;exact⟨rfl,rfl⟩
 |some y=>
  refine Z_2 ?_;refine ZO fun b3=>?_;refine ZO fun b4=>?_
  refine Z_4 ?_;refine eM ⟨fun j=>List.elem j [5,10],[]⟩ [(0,4),(1,0),(2,0),(3,1),(4,1),(5,3),(6,3),(7,3),(8,3),(9,3),(10,3),(11,3)] Zk Zk ?_;refine iL rfl (bM Zrf Zv0) (bR Zh rfl) rfl ?_;refine bU rfl (dI Zv0) rfl ?_;refine bU rfl (cA 0 rfl Zv0 Zf) rfl ?_;refine fJ rfl (bM Zrf Zv0) (bR Zh rfl) rfl ?_;refine mt rfl Zh Zrf Zrf (Zv rfl) rfl ?_;refine EW [(5,[(6,0),(7,0),(8,0),(9,2),(10,2),(11,0)]),(9,[(5,2),(6,0),(7,0),(8,0),(10,2),(11,0)])] Zk (.cons ?_ (.cons ?_ .nil))
  ·refine ZcS (caF E.bc E.room E.X) (fun w hi hin=>HF w hin) ?_;rintro _ _ ⟨_,⟨A9,c9,rfl,rfl⟩,rfl⟩;refine bU rfl (cy Zv0) rfl ?_;refine bU rfl (cV Zv0 (.zero _ _)) rfl ?_;refine bU rfl (cV Zv0 (.succ _ (.zero _ _))) rfl ?_;refine et rfl ?_;refine fa rfl rfl (fc Zrf rfl) ZJ rfl ?_;rintro _ _ ⟨b6,rfl,rfl⟩;refine et rfl ?_;refine dN rfl rfl (cq Zrf rfl rfl (fP ⟨y.b,A9,c9⟩) Za (by exact rfl)) ZJ ?_;rintro _ _ ⟨rfl,rfl⟩;refine bU rfl (fh Zv0) rfl ?_;refine dA ?_;refine Z_9 ?_;refine bQ (tdF b1 be E) Zj ?_;refine vQ (cs':=tdF b1 be E) (.inl rfl) (aI _) rfl rfl ?_;exact⟨rfl,rfl⟩
  refine fa rfl rfl (fc Zrf rfl) ZJ rfl ?_;rintro _ _ ⟨b6,rfl,rfl⟩;refine et rfl ?_;refine ZcS (caF E.bc E.room E.X) (fun w hi hin=>HF w hin) ?_;rintro _ _ ⟨_,⟨A9,c9,rfl,rfl⟩,rfl⟩;refine bU rfl (cy Zv0) rfl ?_;refine bU rfl (cV Zv0 (.zero _ _)) rfl ?_;refine bU rfl (cV Zv0 (.succ _ (.zero _ _))) rfl ?_;refine et rfl ?_;refine dN rfl rfl (cq Zrf rfl rfl (fP ⟨y.b,A9,c9⟩) Za (by exact rfl)) ZJ ?_;rintro _ _ ⟨rfl,rfl⟩;refine bU rfl (fh Zv0) rfl ?_;refine dA ?_;refine Z_9 ?_;refine bQ (tdF b1 be E) Zj ?_;refine vQ (cs':=tdF b1 be E) (.inl rfl) (aI _) rfl rfl ?_;exact⟨rfl,rfl⟩
theorem zB(be:Nat)(E:EnX)(hS:BaSm E.X.Z)(hn:(E.RZ.map (·.1)).Nodup)(hk:∀y,y∈E.RZ→ko y.1)(w:World)(hi:Inv w (bK (enF be E)) (enF be E) w):
  Ctr prog 49 [.pointer (some ⟨be,0,none⟩)] w (enF be E) (fun _ cs=>cs=enF be (E.IP (k8 E.X.Z E.RZ))):=by
 have hkr:(E.RZ.filter fun x=> !!(E.X.Z.find? fun t=>t.key==x.1).isSome)=k8 E.X.Z E.RZ:=by
  unfold k8;apply List.filter_congr;intro x _;rw[Bool.not_not,Hb]
 have hsub:(rnC (k8 E.X.Z E.RZ)).Sublist (rnC E.RZ):=List.Sublist.map _ List.filter_sublist;have HM:=fun b1 w hi=>AV (dw (tdF b1 be E)) (fun q=> !(E.X.Z.find? fun t=>t.key==q).isSome) 83 [.pointer (some ⟨b1,0,none⟩)] (fun _ _=>rfl) E.RZ hn hk E.mr
  (fun q x w _ hin=>Ctr.mono (Ctr.join hin fun hin2=>Fo b1 be E hS q x w hin2) (fun v cs ⟨cs0,⟨h1,h2⟩,h3⟩=>⟨h1,by rw[h3,h2]⟩)) w hi
 rw[hkr]at HM;refine bL func49 rfl ntmps49 rfl hi ?_;refine Z_2 ?_;refine ZO fun b1=>?_;refine Z_7 ?_;refine Zy (kP rfl) ?_;refine Hj (cs':=dw (tdF b1 be E)::[mpc E.mr (rnV E.RZ),dw (rnC E.RZ)]) (fun w hi=>hi.JC Zi) ?_;refine ZcL ([mpc E.mr (rnV E.RZ),dw (tdF b1 be E)]) (fun w hi hin=>HM b1 w hin) ?_;rintro _ _ ⟨_,rfl,rfl⟩;refine Hj (cs':=tdF b1 be E++[mpc E.mr (rnV (k8 E.X.Z E.RZ)),dw (rnC E.RZ)]) (fun w hi=>(hi.perm (List.Perm.swap ..)).Jo) ?_;refine Zn (jI (cin:=rnC E.RZ) (cin':=rnC (k8 E.X.Z E.RZ)) Zd hsub ?_);refine bQ (enF be (E.IP (k8 E.X.Z E.RZ))) Zj ?_;refine fL (cs':=enF be (E.IP (k8 E.X.Z E.RZ))) (.inr rfl) (aI _) rfl ?_
 rfl
theorem tT(be:Nat)(E:EnX)(hE:mS E)(Ap:Option Addr)(cp:Nat)(Ig:List Int)(w:World)(hi:Inv w (bK (enP be E Ap cp Ig)) (enP be E Ap cp Ig) w):
  Ctr prog 20 [.pointer (some ⟨be,0,none⟩),.slice Ap Ig.length cp] w (enP be E Ap cp Ig) (fun _ cs=>∃E',cs=enP be E' Ap cp Ig∧mS E'∧E'.eng=lD E.eng Ig):=by
 have HD:=EB E.bc E.room E.X hE.ca Ap cp Ig;refine bL func20 rfl ntmps20 rfl hi ?_;by_cases hp:Ig=[]
 ·subst hp;refine Z_6 ?_;refine dr (bP rfl rfl) rfl rfl ?_;refine dr (bP rfl rfl) rfl rfl ?_;refine dr (bP rfl rfl) rfl rfl ?_;refine dr (bP rfl rfl) rfl rfl ?_;refine dr (bP rfl rfl) rfl rfl ?_;refine dr (bP rfl rfl) rfl rfl ?_;refine dr (bP rfl rfl) rfl rfl ?_;refine Zy (p7 (q:=false) (Zv rfl) ⟨_,rfl,fun _ e=>absurd e (by decide)⟩) ?_;refine Z_2 ?_;refine bY rfl (rfl) ?_;refine Zc (fL (cs':=enP be E Ap cp []) (.inr rfl) (aI _) rfl ?_);exact⟨E,rfl,hE,rfl⟩
 have hpl:0<Ig.length:=List.length_pos_iff.2 hp;have HX:=GR E Ig;obtain⟨n9,hn9⟩:∃n:Nat,(E.X.Z.filter fun x=>Ig.contains (x.b.key.2/64)).length=n:=⟨_,rfl⟩;rw[hn9]at HX;rw[show(E.X.Z.filter (eI Ig)).length=n9 from hn9]at HD;refine Z_5 ?_;rw[show decide ((0:Int)<(Ig.length:Int))=true from aG (by omega)];refine Z_6 ?_;refine ku (bP rfl rfl) rfl (dR (caP E.bc E.room E.X Ap cp Ig) rfl (fun _ _=>rfl) Zi (fun w hi hin=>HD w hin)) rfl ?_;rintro _ _ ⟨_,⟨rfl,X',rfl,hX',hXZ⟩,rfl⟩;have hX2:=HX X' hXZ;refine Z_4 ?_;refine ZW ?_ ?_<;>intro hc0
 ·have hd:decide (0<((n9:Nat):Int))=true:=hc0
  rw[hd,ac]at hX2;refine Z_2 ?_;refine ZcL (enF be (E.IJ X')) (fun w hi hin=>zB be (E.IJ X') hX'.sm hE.rk (fun y hy=>(hE.rs y hy).1) w hin) ?_;rintro _ _ ⟨_,rfl,rfl⟩;refine Zn (bQ (enP be ((E.IJ X').IP (k8 X'.Z E.RZ)) Ap cp Ig) Zj ?_);refine fL (cs':=enP be ((E.IJ X').IP (k8 X'.Z E.RZ)) Ap cp Ig) (.inr rfl) (aI _) rfl ?_;exact⟨_,rfl,hE.Jx Ig (by rw[hX2,nI _ hp]) hX' (fun y hy=>(List.mem_filter.1 hy).1),by rw[hX2,nI _ hp]⟩
 have hd:decide (0<((n9:Nat):Int))=false:=hc0
 rw[hd,aa]at hX2;refine Zc (bQ (enP be (E.IJ X') Ap cp Ig) Zj ?_);refine fL (cs':=enP be (E.IJ X') Ap cp Ig) (.inr rfl) (aI _) rfl ?_;exact⟨_,rfl,hE.Jx Ig (by rw[hX2,nI _ hp]) hX' (fun y hy=>hy),by rw[hX2,nI _ hp]⟩
end Go.Proofs.YtomjgmbccamgiaaGreatDoor
namespace Go.Ink
open Go.RowKit
theorem rd_drop{w:World}{A:Option Addr}{c:Nat}{xs:List Int}(h:Rd w .u8 A xs.length c xs){k:Nat}(hk:k≤xs.length):Rd w .u8 (if c=k then A else A.map (·.add (k*1))) (xs.length - k) (c - k) (xs.drop k):=by
 have h5:=RdV.cut h (lo:=k) (hi:=xs.length) hk (aQ _);have e:(ints .u8 xs).take xs.length=ints .u8 xs:=List.take_of_length_le (by simp[ints]);rw[Nat.mul_one]at h5;simp only[Nat.mul_one]at h5⊢;rw[e]at h5;have e2:(ints .u8 xs).drop k=ints .u8 (xs.drop k):=by simp[ints]
 rw[e2]at h5;exact h5
theorem Gy(l:List (Int×Int))(op nn:Int):l.flatMap BE++[.int .i64 op,.int .u32 nn]=(l++[(op,nn)]).flatMap BE:=by simp
theorem two1(a b:Int):∀u∈([.int .i64 a,.int .u32 b]:List Value),u.oneCell'=true:=fun u h=>by
 simp only[aM,a9,or_false]at h;rcases h with rfl|rfl<;>rfl
end Go.Ink
namespace Go.Proofs.YtomjgmbccamgiaaGreatDoor
open Go.RowKit Go.Ink Go.Proofs.Tryz
attribute [local irreducible] OpY bW
theorem Eb(A:Option Addr)(c:Nat)(b:List Int)(hb:u8s b)(hbl:b.length≤1000)(w:World)(h:Rd w .u8 A b.length c b):
  Ctr prog 116 [.slice A b.length c] w [] (fun v cs=>∃A1 c1,∃x:RS,x.r=⟨b.take (cP b 8 0).2.1,(cP b 8 0).2.2⟩∧v= .tuple #[.slice A1 (cP b 8 0).1.length c1,.agg x.cells.toArray]∧cs=[slv 94 2 A1 (cP b 8 0).1.length c1 ((cP b 8 0).1.flatMap BE),rsC x]):=by
 obtain⟨R,hR⟩:=Zgn (cP b 8 0);rw[hR];have hR0:(([]:List (Int×Int))++(cP b 8 0).1,(cP b 8 0).2)=R:=hR;have hcap:=h.cap;refine bL func116 rfl ntmps116 rfl (Inv.start w) ?_;refine Z_3 ?_;refine ZN fun b3=>?_
 refine Z_9 ?_;refine ZN fun b5=>?_;refine Z_4 ?_;refine dB 94 2 ?_;refine Z_3 ?_;refine de (fun q:(List (Int×Int)×Nat×Bool)×Option Addr×Nat=>[(0,.slice A b.length c),(3,.pointer (some ⟨b3,0,none⟩)),(4,.slice q.2.1 q.1.1.length q.2.2),(5,.pointer (some ⟨b5,0,none⟩)),(6,.int .i64 (q.1.2.1:Int))]) (fun q=>[row b3 [.slice none 0 0,.bool false] 113,row b5 [.slice none 0 0,.bool q.1.2.2] 113,slv 94 2 q.2.1 q.1.1.length q.2.2 (q.1.1.flatMap BE)]) (fun q=>q.1=R∧q.1.2.1≤b.length) ?_ ?_
 ·refine Zx ?_;refine cJ (fun q:(List (Int×Int)×Nat×Bool)×Option Addr×Nat=>[(0,.slice A b.length c),(3,.pointer (some ⟨b3,0,none⟩)),(4,.slice q.2.1 q.1.1.length q.2.2),(5,.pointer (some ⟨b5,0,none⟩)),(6,.int .i64 (q.1.2.1:Int))]) (fun q=>[row b3 [.slice none 0 0,.bool false] 113,row b5 [.slice none 0 0,.bool q.1.2.2] 113,slv 94 2 q.2.1 q.1.1.length q.2.2 (q.1.1.flatMap BE)]) (fun q=>q.1.1.length≤8∧q.1.2.1≤b.length∧(q.1.2.2=true→q.1=R)∧(q.1.2.2=false→(q.1.1++(cP b (8 - q.1.1.length) q.1.2.1).1,(cP b (8 - q.1.1.length) q.1.2.1).2)=R)) (fun q=>8 - q.1.1.length) (⟨([],0,false),none,0⟩) ?_ ?_ ?_ ?_
  ·exact⟨aw _,aw _,fun e=>(by cases e),fun _=>hR0⟩
  ·exact Zwk
  ·exact Zu
  rintro⟨⟨l,sz,en⟩,A1,c1⟩ ⟨hl,hsz,hT,hF⟩;dsimp only at hl hsz hT hF⊢;have hb5:(b.drop sz).length=b.length - sz:=bz;refine jW ?_;refine ZW ?_ ?_<;>intro hc4
  ·have hc4':(decide ((l.length:Int)<8)&& !en)=true:=hc4;simp only[aB,ap,Bool.not_eq_true']at hc4';obtain⟨hl8,rfl⟩:=hc4';have hF:=hF rfl;obtain⟨k,hk⟩:∃k,8 - l.length=k+1:=⟨8 - l.length - 1,by omega⟩;rw[hk]at hF;have HD:=fun A c w h=>wV A c (b.drop sz) (fun x hx=>hb x (List.mem_of_mem_drop hx)) w h
   rw[hb5]at HD;have hS:=AQ hF;have hN:=fun i z=>CR (z:=z) (i:=i) hF
   have hE:=fun i z=>CT (z:=z) (i:=i) hF
   have hO:=fun i z=>FY (z:=z) (i:=i) hF
   have hRg:=fun(op nn:Int) (z:Nat)=>mj (b:=b.drop sz) (fun x hx=>hb x (List.mem_of_mem_drop hx)) (op:=op) (nn:=nn) (z:=z)
   obtain⟨o,ho⟩:=Zgn (dY (b.drop sz));rw[ho]at HD hS hN hE hO hRg;refine Z_7 ?_;refine Zy (uf rfl Zrf (Zv rfl) (.inr ⟨_,_,rfl,(Zv rfl)⟩) (.inl ⟨rfl,rfl⟩) (by omega) (by omega)) ?_;refine ZS (fun w hi=>HD _ _ w (rd_drop (h.IB hi) hsz)) ?_;rintro _ _ ⟨_,⟨⟨y,rfl,hy⟩,rfl⟩,rfl⟩;refine Z_4 ?_;refine ZN fun b7=>?_
   refine ZM ?_;refine Z_6 ?_;rcases o with _|⟨⟨op,nn⟩,z⟩
   ·have hy0:(y==0)=false:=hy;have hq:=hS rfl;have hy1:(y !=0)=true:=(by rw[bne,hy0];rfl);refine Z_3 ?_;rw[hy1];refine ZA ?_;refine dr (bS rfl rfl) rfl rfl ?_;refine dr (bS rfl rfl) rfl rfl ?_;refine dr (bS rfl rfl) rfl rfl ?_;refine dr (bS rfl rfl) rfl rfl ?_;refine Zy (EZ (q:=false) (Zv rfl) ⟨_,rfl,fun _ e=>absurd e (by decide)⟩) ?_;refine Z_2 ?_;refine cB rfl (rfl) ?_;refine Z_5 ?_;refine cz ((⟨(l,sz,false),A1,c1⟩:(List (Int×Int)×Nat×Bool)×Option Addr×Nat)) ?_ ?_ ?_
    ·exact⟨hq,hsz⟩
    ·exact Zwk
    exact Zj
   have hy0:(y==0)=true:=hy;obtain rfl:y=0:=(by simpa using hy0);have hN:=hN (op,nn) z rfl;have hE:=hE (op,nn) z rfl;have hO:=hO (op,nn) z rfl;obtain⟨hnn,hz1,hz5,hzl⟩:=hRg op nn z rfl;dsimp only at hN hE hO;refine Z_6 ?_;refine dX (bS rfl rfl) (.cons (dc rfl) .nil) (fun _ _=>rfl) (fun hg w hi=>wJ op w) rfl ?_;refine Z_4 ?_;refine ZW ?_ ?_<;>intro hc6
   ·have hp:dD op=false:=(by have h9:(false|| !dD op)=true:=hc6;simpa using h9);have hq:=hN hp;refine Z_5 ?_;refine cz ((⟨(l,sz,false),A1,c1⟩:(List (Int×Int)×Nat×Bool)×Option Addr×Nat)) ?_ ?_ ?_
    ·exact⟨hq,hsz⟩
    ·exact Zwk
    exact Zj
   have hp:dD op=true:=(by have h9:(false|| !dD op)=false:=hc6;simpa using h9);refine Z_6 ?_;refine dM (di rfl rfl Zrf Zrf rfl rfl rfl) rfl ?_;rintro _ _ ⟨b36,rfl,rfl⟩;refine dM (cM (n:=l.length) (e:=94) (sz:=2) (bytes:=16) rfl rfl Za rfl rfl (fun w hi=>hi.rd (show Has _ (slv 94 2 (some ⟨b36,0,none⟩) 1 1 [.int .i64 op,.int .u32 nn])from Zh)) (two1 op nn) (by simp only[maxLen];omega) (by omega)) rfl ?_;rintro _ _ ⟨A2,c2,rfl,rfl⟩;rw[Gy,show l.length+1=(l++[(op,nn)]).length by simp];refine Z_7 ?_;refine Zy (cF (Zv rfl) (Zv rfl) (show _=((sz+z:Nat):Int)from by show IntKind.i64.wrap ((sz:Int)+(z:Int))=_;rw[bI];omega)) ?_;refine Z_6 ?_;refine ZSe (fun w hi=>u6 op w) ?_;refine Z_1 ?_;refine ZL ?_;refine Z_2 ?_;refine cz ((⟨(l++[(op,nn)],sz+z,gq op),A2,c2⟩:(List (Int×Int)×Nat×Bool)×Option Addr×Nat)) ?_ ?_ ?_
   ·exact⟨⟨(by simp;omega),(by dsimp only;omega),(fun e=>by dsimp only at e⊢;rw[e];exact hE hp e),(fun e=>by dsimp only;rw[ae,show 8 - (l.length+[(op,nn)].length)=k by simp;omega];exact hO hp e)⟩,(by simp;omega)⟩
   ·exact Zwk
   exact Zj
  have hq:(l,sz,en)=R:=(by cases en with|true=>exact hT rfl|false=>(have h8:¬((l.length:Int)<8):=(by have h9:(decide ((l.length:Int)<8)&& !false)=false:=hc4;rw[Bool.not_false,Bool.and_true]at h9;exact of_decide_eq_false h9);have hF:=hF rfl;rw[show 8 - l.length=0 by omega]at hF;exact AR hF));refine Z_4 ?_;refine cz ((⟨(l,sz,en),A1,c1⟩:(List (Int×Int)×Nat×Bool)×Option Addr×Nat)) ?_ ?_ ?_
  ·exact⟨hq,hsz⟩
  ·exact Zwk
  exact Zj
 rintro⟨⟨l,sz,en⟩,A1,c1⟩ ⟨rfl,hsz⟩;dsimp only at hsz⊢;have htl:(b.take sz).length=sz:=(by rw[az];omega);refine Z_4 ?_;refine Zy (gL sz rfl Zrf (Zv rfl) (Zv rfl) (fun _=>by first|rfl|omega) (fun _=>by omega)) ?_;refine ZS (fun w hi=>EH A sz c (b.take sz) w (by have h9:=lN (h.IB hi) sz;rw[htl]at h9;exact h9) (by omega)) ?_;rintro _ _ ⟨_,⟨A9,c9,rfl,rfl⟩,rfl⟩;refine Z_1 ?_;refine ZL ?_;refine Z_3 ?_;refine cj ⟨fun j=>List.elem j [3],[]⟩ Zk ?_;refine ZE 0 ?_;refine ZI 1 ?_;refine ZE 2 ?_;refine cE 3 Zk ?_;refine ZR ?_;refine bO Zk ?_;refine Z_2 ?_;refine bQ (row b3 [.slice A9 sz c9,.bool en] 113::[slv 94 2 A1 l.length c1 (l.flatMap BE),sl .u8 5 A9 sz c9 (b.take sz)]) Zj ?_;refine nc (cs':=[slv 94 2 A1 l.length c1 (l.flatMap BE),sl .u8 5 A9 sz c9 (b.take sz)]) (.inl rfl) (List.Sublist.cons _ (aI _)) rfl rfl rfl Zh Zrf Zrf ?_;exact⟨A1,c1,⟨⟨b.take sz,en⟩,A9,c9⟩,rfl,by show _=Value.tuple #[_,.agg (RS.cells ⟨⟨b.take sz,en⟩,A9,c9⟩).toArray];unfold RS.cells;dsimp only;rw[htl],by unfold rsC;dsimp only;rw[htl]⟩
end Go.Proofs.YtomjgmbccamgiaaGreatDoor
