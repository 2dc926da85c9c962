/- Lemmas. -/
import Derived.Test.YtakodpimdalajaaGreatDoorQaa
import Derived.Test.YtakodpimdalajaaGreatDoorQab
import Derived.Test.YtakodpimdalajaaGreatDoorQac
import Derived.Test.YtakodpimdalajaaGreatDoorQah
import Derived.Test.YtakodpimdalajaaGreatDoorQai
import Derived.Test.YtakodpimdalajaaGreatDoorQan
import Derived.Test.YtakodpimdalajaaGreatDoorQaq
import Derived.Test.YtakodpimdalajaaGreatDoorQar
set_option linter.unusedSimpArgs false
set_option linter.unusedVariables false
set_option maxRecDepth 100000
set_option maxHeartbeats 4000000
namespace Go.Ink
open Go.RowKit
section
variable {C:Cx} {Q:kI} {fr:Fr} {cs cs' cin rest:List bJ} {St:Dr} {ops:Array Oper} {fuel i:Nat} {listed:Array Bool}
theorem wa_inv(hc:∀w,Inv C.w0 C.S cs w→Inv C.w0 C.S cs' w)(h:WA C St ops Q fuel listed fr cs'):WA C St ops Q fuel listed fr cs:=fun a w hf hi=>h a w hf (hc w hi)
theorem wi_inv(hc:∀w,Inv C.w0 C.S cs w→Inv C.w0 C.S cs' w)(h:WI C St ops Q fuel listed i fr cs'):WI C St ops Q fuel listed i fr cs:=fun a w hf hi=>h a w hf (hc w hi)
theorem Inv.Jf{w0 w:World}{S:List Nat}(h:Inv w0 S (dq cin::rest) w):Inv w0 S (cin++rest) w:=by
 obtain⟨_,_,h1⟩:=h.Ji;exact h1
theorem Inv.Jr{w0 w:World}{S:List Nat}(h:Inv w0 S cs w)(hs:jU cin cs rest):Inv w0 S (dq cin::rest) w:=
 Inv.IV (F:=fun _:Unit=>cin) (hb:=fun _=>rfl) (p:=fun _=>True) () trivial (h.perm hs.perm)
theorem mj{w0:World}{S:List Nat}{bb t:Nat}{xs:List Value}(hc:Has cs (dq cin))(hr:row bb xs t∈cin):∀w,Inv w0 S cs w→cells (qM bb xs) w:=fun w hi=>by
 have h:=qg (hi.get hc) _ hr;have h1:Inv w [bb] [row bb xs t] w:=⟨dR.refl _ _,by simp[bK,row,bJ.bs],fun c hc=>by rw[aN]at hc;subst hc;exact h,fun b hb=>by left;simpa[bK,row,bJ.bs]using hb⟩;exact bR (.head _ _) w h1
end
theorem u32_div{a:Int}(h:0≤a∧a≤4294967295):0≤a/64∧a/64≤67108863:=by omega
theorem uO(xs ys:List Int)(h:ys.length≤xs.length):(xs.take ys.length==ys)=ys.isPrefixOf xs:=by
 rw[Bool.eq_iff_iff,List.isPrefixOf_iff_prefix,beq_iff_eq];constructor
 ·intro e;exact⟨xs.drop ys.length,by conv=>rhs;rw[←List.take_append_drop ys.length xs,e]⟩
 rintro⟨z,rfl⟩;exact List.take_left
end Go.Ink
namespace Go.Proofs.YtakodpimdalajaaGreatDoor
open Go.RowKit Go.Ink Go.Proofs.Tryz
attribute [local irreducible] OpY bU
theorem wu(A B:Option Addr)(c d:Nat)(xs ys:List Int)(hx:u8s xs)(hy:u8s ys)(w:World)(h:Rd w .u8 A xs.length c xs)(h2:Rd w .u8 B ys.length d ys):
  Ctr prog 126 [.slice A xs.length c,.slice B ys.length d] w [] (fun v cs=>v= .bool (ys.isPrefixOf xs)∧cs=[]):=by
 have hcap:=h.cap;refine bL func126 rfl ntmps126 rfl (Inv.start w) ?_;by_cases hle:ys.length≤xs.length
 ·have hg:decide ((xs.length:Int)≥(ys.length:Int))=true:=aB (by omega)
  have htl:(xs.take ys.length).length=ys.length:=by rw[aF];omega
  have HE:=Eh A B c d (xs.take ys.length) ys (fun x hx'=>hx x (List.mem_of_mem_take hx')) hy;rw[htl,uO xs ys hle]at HE;have hrt:=xB h ys.length;rw[htl]at hrt;refine qn ?_;refine Zyy rfl rfl (gZ ys.length rfl Zrf (dQ rfl) (dQ rfl) (fun _=>by first|rfl|omega) (fun _=>by omega)) ?_;refine ZB ?_;refine eH (cu rfl rfl) (.cons (dQ rfl) (.cons (dQ rfl) .nil)) (fun _ _=>rfl) (fun hg w hi=>HE w (hrt.Iy hi) (h2.Iy hi)) rfl ?_;refine Z_5 ?_;refine Zra ?_;refine⟨?_,rfl⟩;rw[show decide ((ys.length:Int)≤(xs.length:Int))=true from aB (by omega),Bool.true_and]
 have hp:ys.isPrefixOf xs=false:=by
  cases hb:ys.isPrefixOf xs with
  |false=>rfl
  |true=>
   obtain⟨z,rfl⟩:=List.isPrefixOf_iff_prefix.1 hb;simp at hle
 have hg0:decide ((ys.length:Int)≤(xs.length:Int))=false:=aD (by omega)
 refine jT ?_;refine dk (cu rfl rfl) hg0 rfl ?_;refine dk (cu rfl rfl) hg0 rfl ?_;refine dk (cu rfl rfl) hg0 rfl ?_;refine dk (cu rfl rfl) hg0 rfl ?_;refine dk (cu rfl rfl) hg0 rfl ?_;refine dk (cu rfl rfl) hg0 rfl ?_;refine Zy (Bp (q:=false) (Zv rfl) ⟨_,rfl,fun _ e=>by rw[hg0]at e;cases e⟩) ?_;refine Z_4 ?_;refine Zra ?_;refine⟨?_,rfl⟩;rw[hp,hg0,Bool.false_and]
theorem Ei(A:Option Addr)(n c:Nat)(xs:List Int)(w:World)(h:Rd w .u8 A n c xs)(hn:n≤140737488355328):Ctr prog 163 [.slice A n c] w [] (fun v cs=>∃A' c',v= .slice A' n c'∧cs=[sl .u8 5 A' n c' xs]):=by
 refine bL func163 rfl ntmps163 rfl (Inv.start w) ?_;refine gQ ?_;refine ZW ?_ ?_<;>intro hc1
 ·obtain rfl:A=none:=by simpa using hc1
  obtain⟨rfl,rfl⟩:=h.nil rfl;obtain rfl:xs=[]:=by have:=h.len;simpa[ints]using this
  refine Z_2 ?_;refine dC 5 1 ?_;refine Z_5 ?_;refine Zrb ([slv _ _ _ _ _ _]) ?_;exact⟨_,_,rfl,rfl⟩
 refine Z_4 ?_;refine dJ (bZ rfl rfl Zrf Zrf rfl rfl) rfl ?_;rintro _ _ ⟨b5,rfl,rfl⟩;refine ZA ?_;refine dJ (cW (e:=5) (sz:=1) (bytes:=1) rfl rfl Za rfl rfl (fun w hi=>h.Iy hi) cY (by simp only[maxLen];omega) (by omega)) rfl ?_;rintro _ _ ⟨A',c',rfl,rfl⟩;simp only[bl,aP];refine Z_4 ?_;refine Zrb ([slv _ _ _ _ _ _]) ?_;exact⟨_,_,rfl,rfl⟩
abbrev w7(bc ml b2 b3 b5:Nat)(r0 r1 r3:Value)(Ap:Option Addr)(cp:Nat)(H8:List Int)(r:Int×List (Ky×LS)):List bJ:=
 [row b2 [.pointer (some ⟨bc,0,none⟩)] 93,row b3 [.slice Ap H8.length cp] 66,sl .i64 3 Ap H8.length cp H8,row b5 [.int .i64 r.1] 3,caR bc r0 r1 (.map (some ml)) r3,mpc ml (lkV r.2),dq (lkC r.2)]
abbrev eC(H8:List Int)(x:BA):Bool:=H8.contains (x.b.key.2/64)
theorem Gz(bc ml b2 b3 b5:Nat)(r0 r1 r3:Value)(Ap:Option Addr)(cp:Nat)(H8:List Int)(r:Int×List (Ky×LS))(x:BA)(hx:ki x.b.key)(hsm:LkSm r.2)(w:World)(hi:Inv w (bK (w7 bc ml b2 b3 b5 r0 r1 r3 Ap cp H8 r)) (w7 bc ml b2 b3 b5 r0 r1 r3 Ap cp H8 r) w):
  Ctr prog 150 ([]++[.agg x.cells.toArray]++[.pointer (some ⟨b3,0,none⟩),.pointer (some ⟨b2,0,none⟩),.pointer (some ⟨b5,0,none⟩)]) w (w7 bc ml b2 b3 b5 r0 r1 r3 Ap cp H8 r) (fun v cs=>v= .bool (eC H8 x)∧cs=w7 bc ml b2 b3 b5 r0 r1 r3 Ap cp H8 (lX (eC H8) r x)):=by
 obtain⟨k0,k1⟩:=hx.2;have hd:=u32_div hx.2;obtain⟨D,hD⟩:=Zgn (eC H8 x);have hD2:H8.contains (x.b.key.2/64)=D:=hD;have HC:=rP Ap cp H8 (x.b.key.2/64);rw[hD2]at HC;have ht:D=true→lX (eC H8) r x=(IntKind.i64.wrap (r.1+1),gp r.2 x.key):=fun e=>by unfold lX;rw[hD,e,ac]
 have hf:D=false→lX (eC H8) r x=r:=fun e=>by unfold lX;rw[hD,e,aa]
 rw[hD];refine bL func150 rfl ntmps150 rfl hi ?_;refine Z_2 ?_;refine ZO fun b4=>?_;refine Z_9 ?_;refine Zy (kb (Zv rfl) (Zv rfl) (by omega) (show _=x.b.key.2/64 from by rw[bC k0,aE];omega)) ?_;refine Zy (ce rfl rfl Zv0 Zl) ?_;refine ZSe (fun w hi=>HC w (hi.rd (show Has _ (sl .i64 3 Ap H8.length cp H8)from Zh))) ?_;refine Z_9 ?_;refine ZW ?_ ?_<;>intro hc2
 ·refine Z_4 ?_;refine dX (cB (vs:=cA x.b.key) Zrf Zrf Zv0) (cX Zh rfl) rfl ?_;refine ZcL ([caR bc r0 r1 (.map (some ml)) r3,mpc ml (lkV r.2),dq (lkC r.2)]) (fun w hi hin=>vq bc ml r0 r1 r3 r.2 hsm x.b.key hx w hin) ?_;rintro _ _ ⟨_,rfl,rfl⟩;refine Z_4 ?_;refine Zy (cy Zv0 Zv0 rfl) ?_;refine ZL ?_;refine Z_9 ?_;refine bP (w7 bc ml b2 b3 b5 r0 r1 r3 Ap cp H8 (IntKind.i64.wrap (r.1+1),gp r.2 x.key)) Zj ?_;refine vH (cs':=w7 bc ml b2 b3 b5 r0 r1 r3 Ap cp H8 (IntKind.i64.wrap (r.1+1),gp r.2 x.key)) (.inl rfl) (aK _) rfl rfl ?_;rw[ht hc2];exact⟨rfl,rfl⟩
 refine Z_9 ?_;refine bP (w7 bc ml b2 b3 b5 r0 r1 r3 Ap cp H8 r) Zj ?_;refine vH (cs':=w7 bc ml b2 b3 b5 r0 r1 r3 Ap cp H8 r) (.inl rfl) (aK _) rfl rfl ?_;rw[hf hc2];exact⟨rfl,rfl⟩
theorem GO(bc:Nat)(room:Int)(X:CaX)(hX:oF room X)(Ap:Option Addr)(cp:Nat)(H8:List Int)(w:World)(hi:Inv w (bK (caF bc room X++[sl .i64 3 Ap H8.length cp H8])) (caF bc room X++[sl .i64 3 Ap H8.length cp H8]) w):
  Ctr prog 107 [.pointer (some ⟨bc,0,none⟩),.slice Ap H8.length cp] w (caF bc room X++[sl .i64 3 Ap H8.length cp H8]) (fun v cs=>v= .int .i64 ((X.Z.filter (eC H8)).length:Int)∧∃X':CaX,cs=caF bc room X'++[sl .i64 3 Ap H8.length cp H8]∧oF room X'∧X'.Z=X.Z.filter fun x=> !eC H8 x):=by
 have hS:=hX.sm;have hlen:=hX.len;obtain⟨hr1,hr2⟩:=hX.rm;have hba:=hX.ba;have hlk:=hX.lk;obtain⟨ml,Ac,cc,fl,LK,Z⟩:=X;dsimp only at hS hlen hba hlk;have hZ:=hS.1;have HD:=fun b2 b3 b5 w hi=>delB_ok (fun r:Int×List (Ky×LS)=>dq (w7 bc ml b2 b3 b5 (.int .i64 room) (.slice Ac Z.length cc) (.int .i64 fl) Ap cp H8 r)) (fun r=>wZ (Z.map BA.key) r.2) (lX (eC H8)) (eC H8) 150 [.pointer (some ⟨b3,0,none⟩),.pointer (some ⟨b2,0,none⟩),.pointer (some ⟨b5,0,none⟩)] (fun _ _=>rfl) Z hZ
  (fun r x w hok hx hin=>Ctr.mono (Ctr.join hin fun hin2=>Gz bc ml b2 b3 b5 (.int .i64 room) (.slice Ac Z.length cc) (.int .i64 fl) Ap cp H8 r x (hba x hx).2 (hok.sm (by simpa using hZ)) w hin2)
   (fun v cs ⟨cs0,⟨h1,h2⟩,h3⟩=>⟨h1,by rw[h3,h2],by
    show wZ (Z.map BA.key) (lX (eC H8) r x).2;unfold lX;cases eC H8 x with
    |true=>exact(hok.unlink x.key).1
    |false=>exact hok⟩)) Ac cc (0,LK) hlk w hi
 obtain⟨hf1,hf2, -,hf4⟩:=rL (eC H8) (Z.map BA.key) Z (0,LK) (bE _) (by dsimp only;omega) hlk;obtain⟨⟨n9,LK9⟩,h9⟩:=Zgn (Z.foldl (lX (eC H8)) (0,LK));rw[h9]at HD hf1 hf2 hf4;dsimp only at hf1 hf2 hf4;have hsub:(Z.filter fun x=> !eC H8 x).Sublist Z:=List.filter_sublist;have hOk:∀A c,oF room ⟨ml,A,c,fl,LK9,Z.filter fun x=> !eC H8 x⟩:=fun A c=>⟨⟨hr1,hr2⟩,(by have:=hsub.length_le;dsimp only;omega),(fun y hy=>hba y (hsub.subset hy)),fun y hy=>⟨(hf2 y hy).1,(hf2 y hy).2.1,fun q hq=>by
  obtain⟨z,hz,hzq⟩:=aY.1 ((hf2 y hy).2.2 q hq);refine aY.2 ⟨z,List.mem_filter.2 ⟨hz,?_⟩,hzq⟩;cases hD:eC H8 z with
  |false=>rfl
  |true=>exact absurd hzq.symm (hf4 y hy q hq z hz hD)⟩⟩
 refine bL func107 rfl ntmps107 rfl hi ?_;refine Z_2 ?_;refine ZO fun b2=>?_;refine ZO fun b3=>?_
 refine Z_5 ?_;refine ZN fun b5=>?_;refine ZL ?_;refine Z_3 ?_;refine bX ⟨fun j=>List.elem j [6,9],qM b2 [.pointer (some ⟨bc,0,none⟩)]⟩ Zk ?_;refine iv 0 rfl Zk Zk Zk (bO Zrf (pK rfl)) (by first|exact bW rfl|exact aC _ (bW rfl)|exact ah _ (bW rfl)|exact ah _ (ah _ (aC _ (bW rfl)))|exact ah _ (ah _ (ah _ (bW rfl)))) ((by first|(refine bR (t:=93) ?_;(repeat (first|exact .head _ _|apply Has.tail));done)|(refine mj (t:=93) (cin:=w7 bc ml b2 b3 b5 (.int .i64 room) (.slice Ac Z.length cc) (.int .i64 fl) Ap cp H8 (n9,LK9)) ?_ (List.mem_cons_self ..);(repeat (first|exact .head _ _|apply Has.tail));done))) rfl ?_;refine iv 1 rfl Zk Zk Zk (bO Zrf (pK rfl)) (by first|exact bW rfl|exact aC _ (bW rfl)|exact ah _ (bW rfl)|exact ah _ (ah _ (aC _ (bW rfl)))|exact ah _ (ah _ (ah _ (bW rfl)))) ((by first|(refine bR (t:=93) ?_;(repeat (first|exact .head _ _|apply Has.tail));done)|(refine mj (t:=93) (cin:=w7 bc ml b2 b3 b5 (.int .i64 room) (.slice Ac Z.length cc) (.int .i64 fl) Ap cp H8 (n9,LK9)) ?_ (List.mem_cons_self ..);(repeat (first|exact .head _ _|apply Has.tail));done))) rfl ?_;refine ZE 2 ?_;refine ZFe 3 1 ?_;refine ZG 4 ?_;refine cN 5 rfl Zk Zk Zk (jX rfl) rfl ?_;refine cw 6 Zk ?_;refine wi_inv (cs':=dq (w7 bc ml b2 b3 b5 (.int .i64 room) (.slice Ac Z.length cc) (.int .i64 fl) Ap cp H8 (0,LK))::[slv 186 4 Ac Z.length cc (Z.flatMap BA.cells),dq (Z.map baC)]) (fun w hi=>hi.Jr Zi) ?_;refine gn rfl rfl (dW ([slv 186 4 Ac Z.length cc (Z.flatMap BA.cells),dq (w7 bc ml b2 b3 b5 (.int .i64 room) (.slice Ac Z.length cc) (.int .i64 fl) Ap cp H8 (0,LK))]) rfl (fun _ _=>rfl) Zi (fun w hi hin=>HD b2 b3 b5 w hin)) (fun _=>by rintro _ _ ⟨_,⟨rfl,rfl⟩,rfl⟩;exact(by first|(refine bR (t:=93) ?_;(repeat (first|exact .head _ _|apply Has.tail));done)|(refine mj (t:=93) (cin:=w7 bc ml b2 b3 b5 (.int .i64 room) (.slice Ac Z.length cc) (.int .i64 fl) Ap cp H8 (n9,LK9)) ?_ (List.mem_cons_self ..);(repeat (first|exact .head _ _|apply Has.tail));done))) rfl ?_;rintro _ _ ⟨_,⟨rfl,rfl⟩,rfl⟩;refine wa_inv (cs':=w7 bc ml b2 b3 b5 (.int .i64 room) (.slice Ac Z.length cc) (.int .i64 fl) Ap cp H8 (n9,LK9)++[slv 186 4 Ac (Z.filter fun x=> !eC H8 x).length cc ((Z.filter fun x=> !eC H8 x).flatMap BA.cells),dq (Z.map baC)]) (fun w hi=>(hi.perm (List.Perm.swap ..)).Jf) ?_;refine ZE 7 ?_;refine ZFe 8 1 ?_;refine cw 9 Zk ?_;refine dz rfl rfl (fj Zrf rfl rfl rfl Za Zp) (fun _=>by rintro _ _ ⟨rfl,rfl⟩;exact(by first|(refine bR (t:=93) ?_;(repeat (first|exact .head _ _|apply Has.tail));done)|(refine mj (t:=93) (cin:=w7 bc ml b2 b3 b5 (.int .i64 room) (.slice Ac Z.length cc) (.int .i64 fl) Ap cp H8 (n9,LK9)) ?_ (List.mem_cons_self ..);(repeat (first|exact .head _ _|apply Has.tail));done))) ?_;rintro _ _ ⟨rfl,rfl⟩;refine bN Zk ?_;refine Z_8 ?_;refine jD (cin:=Z.map baC) (cin':=(Z.filter fun x=> !eC H8 x).map baC) Zd (hsub.map _) ?_;refine bP (caF bc room ⟨ml,Ac,cc,fl,LK9,Z.filter fun x=> !eC H8 x⟩++[sl .i64 3 Ap H8.length cp H8]) Zj ?_;refine vH (cs':=caF bc room ⟨ml,Ac,cc,fl,LK9,Z.filter fun x=> !eC H8 x⟩++[sl .i64 3 Ap H8.length cp H8]) (.inl rfl) (aK _) rfl rfl ?_;refine⟨by rw[hf1];show Value.int .i64 (0+_)=_;rw[Int.zero_add],⟨ml,Ac,cc,fl,LK9,Z.filter fun x=> !eC H8 x⟩,rfl,hOk _ _,rfl⟩
end Go.Proofs.YtakodpimdalajaaGreatDoor
namespace Go.Ink
open Go.RowKit
theorem wc_inv{C:Cx}{Q:kI}{fr:Fr}{cs cs':List bJ}{x:Code}(hc:∀w,Inv C.w0 C.S cs w→Inv C.w0 C.S cs' w)(h:WC C x Q fr cs'):WC C x Q fr cs:=fun a w hf hi=>h a w hf (hc w hi)
def gD(LK:List (Ky×LS))(k:Ky):LS:=fU LK k LS.zero
theorem lO{LK:List (Ky×LS)}{k:Ky}(h:cT (·.1) k LK=none):gD LK k=LS.zero:=qO h _
theorem lN{LK:List (Ky×LS)}{k:Ky}{j:Nat}(h:cT (·.1) k LK=some j):∃x,LK[j]? =some (k,x)∧gD LK k=x:=by
 obtain⟨hj,hk⟩:=fm h;have hx:LK[j]? =some (k,LK[j].2):=by rw[ao hj,←hk]
 exact⟨_,hx,oO h hx _⟩
theorem CT(LK:List (Ky×LS))(k:Ky):fU (lkV LK) k (.slice none 0 0)=(gD LK k).v:=ui LS.v LK k LS.zero
theorem wa(LK:List (Ky×LS))(k:Ky):cT (·.1) k (lkV LK)=cT (·.1) k LK:=ju (key:=fun x:Ky×LS=>x.1) (key':=fun x:Ky×Value=>x.1) (fun x:Ky×LS=>(x.1,x.2.v)) Zrf k LK
theorem ment_at(LK:List (Ky×LS))(k:Ky):(qV (lkV LK) k (.slice none 0 0))[uH (lkV LK) k]? =some (k,(gD LK k).v):=by
 unfold qV uH;rw[wa];cases h:cT (fun x:Ky×LS=>x.1) k LK with
 |some j=>
  obtain⟨x,hx,hl⟩:=lN h;dsimp only[Option.getD_some];unfold lkV;rw[aZ,hx,hl]
  rfl
 |none=>
  dsimp only[Option.getD_none];rw[lO h];simp[LS.v,LS.zero]
theorem FM(LK:List (Ky×LS))(k:Ky)(x:LS):(qV (lkV LK) k (.slice none 0 0)).set (uH (lkV LK) k) (k,x.v)=lkV (dD LK k x):=by
 unfold qV uH dD;rw[wa];cases h:cT (fun x:Ky×LS=>x.1) k LK with
 |some j=>
  dsimp only[Option.getD_some];unfold lkV;rw[List.map_set]
 |none=>
  dsimp only[Option.getD_none];unfold lkV;simp
theorem wZ.put{keys:List Ky}{LK:List (Ky×LS)}(h:wZ keys LK){f t:Ky}(hf:ki f)(ht:t∈keys)(hn:t∉(gD LK f).ks)(A:Option Addr)(c:Nat):wZ keys (dD LK f ⟨A,c,(gD LK f).ks++[t]⟩):=by
 have hl:(gD LK f).ks.Nodup∧∀q,q∈(gD LK f).ks→q∈keys:=by
  cases hp:cT (fun x:Ky×LS=>x.1) f LK with
  |some j=>obtain⟨x,hx,hl⟩:=lN hp;rw[hl];exact(h _ (aJ hx)).2
  |none=>rw[lO hp];exact⟨List.nodup_nil,fun q hq=>nomatch hq⟩
 have hnew:ki f∧((gD LK f).ks++[t]).Nodup∧∀q,q∈(gD LK f).ks++[t]→q∈keys:=by
  refine⟨hf,?_,fun q hq=>?_⟩
  ·rw[List.nodup_append];exact⟨hl.1,by simp,fun a ha b hb=>by rw[aN]at hb;subst hb;exact fun e=>hn (e▸ha)⟩
  rcases aV.1 hq with hq|hq
  ·exact hl.2 q hq
  rw[aN]at hq;rw[hq];exact ht
 intro x hx;unfold dD at hx;cases hp:cT (fun x:Ky×LS=>x.1) f LK with
 |some j=>
  rw[hp]at hx;rcases List.mem_or_eq_of_mem_set hx with hx|rfl
  ·exact h x hx
  exact hnew
 |none=>
  rw[hp]at hx;rcases aV.1 hx with hx|hx
  ·exact h x hx
  rw[aN]at hx;rw[hx];exact hnew
end Go.Ink
namespace Go.Proofs.YtakodpimdalajaaGreatDoor
open Go.RowKit Go.Ink Go.Proofs.Tryz
attribute [local irreducible] OpY bU
def tf(LK:List (Ky×LS))(k:Ky):List bJ:=match cT (·.1) k LK with|some j=>(lkC LK).eraseIdx j|none=>lkC LK
theorem FX{LK:List (Ky×LS)}{k:Ky}{j:Nat}{x:LS}(h:cT (·.1) k LK=some j)(hx:LK[j]? =some (k,x)):(lkC LK).Perm (lsC x::(lkC LK).eraseIdx j):=mq (by unfold lkC;rw[aZ,hx];rfl)
theorem lkTake{w0 w:World}{S:List Nat}{LK:List (Ky×LS)}{rest:List bJ}(k:Ky)(h:Inv w0 S (dq (lkC LK)::rest) w):Inv w0 S (lsC (gD LK k)::dq (tf LK k)::rest) w:=by
 unfold tf;cases hp:cT (fun x:Ky×LS=>x.1) k LK with
 |some j=>
  obtain⟨x,hx,hl⟩:=lN hp;rw[hl];exact h.I7 (FX hp hx)
 |none=>
  rw[lO hp];exact(h.more (uP w [] 98 2)).perm (List.perm_append_singleton _ _)
theorem lkPut(LK:List (Ky×LS))(k:Ky)(x:LS):(lkC (dD LK k x)).Perm (lsC x::tf LK k):=by
 unfold tf dD;cases hp:cT (fun x:Ky×LS=>x.1) k LK with
 |some j=>
  obtain⟨hj, -⟩:=fm hp;dsimp only;unfold lkC;rw[List.map_set];exact qd (by simpa using hj)
 |none=>
  dsimp only;unfold lkC;rw[List.map_append];exact List.perm_append_singleton _ _
theorem Dh(A:Option Addr)(c:Nat)(l:List Ky)(x:Ky)(w:World)(h:RdV w 2 A l.length c (l.flatMap cA)):Ctr prog 185 [.slice A l.length c,.agg (cA x).toArray] w [] (fun v cs=>(∃z,v= .int .i64 z∧decide (0≤z)=l.contains x)∧cs=[]):=by
 have hlm:=a9 h.cap h.max;simp only[maxLen]at hlm;refine bL func185 rfl ntmps185 rfl (Inv.start w) ?_;refine Z_2 ?_;refine ZO fun b3=>?_;refine gQ ?_;refine cG (fun k:Nat=>[(0,.slice A l.length c),(3,.pointer (some ⟨b3,0,none⟩)),(7,.int .i64 (l.length:Int)),(8,.int .i64 (k:Int))]) (fun _=>[kyR b3 x]) (fun k=>k≤l.length∧(l.drop k).contains x=l.contains x) (fun k=>l.length - k) (0) ?_ ?_ ?_ ?_
 ·exact⟨ax _,rfl⟩
 ·exact Zwk
 ·exact Zu
 rintro k ⟨hk,hc⟩;refine Z_6 ?_;refine ZW ?_ ?_<;>intro hc2
 ·simp only[ap]at hc2;have hkl:k<l.length:=(by omega);obtain⟨ad,had⟩:=h.some_ (by omega);have h2:=h;rw[had]at h2;obtain⟨y,hy⟩:∃y,l[k]? =some y:=⟨_,ao hkl⟩;rw[ou hy]at hc;refine eu ?_;refine bX ⟨fun j=>List.elem j [],[]⟩ Zk ?_;refine ZI 0 ?_;refine ZE 1 ?_;refine ZE 2 ?_;refine cN 3 rfl Zk Zk Zk (eQ (j:=k) had rfl Zrf Zv0 Zv0 Zrf (fun _=>hkl)) rfl ?_;refine eX 4 rfl Zk Zk Zk Zk (cB (vs:=cA y) Zrf Zrf Zv0) (fV h2 (fun i v hi=>fP (f:=cA) Zrf (i:=i) hy hi)) rfl ?_;refine cN 5 rfl Zk Zk Zk (Bn rf (xR x y) (Zv rfl) (Zv rfl)) rfl ?_;refine bN Zk ?_;refine Zt ?_;refine ZW ?_ ?_<;>intro hc4
  ·have hcx:l.contains x=true:=(by rw[←hc,List.contains_cons,hc4,Bool.true_or]);refine gQ ?_;refine Zra ?_;exact⟨⟨_,rfl,by rw[hcx];exact aB (by omega)⟩,rfl⟩
  rw[List.contains_cons,hc4,Bool.false_or]at hc;refine Z_4 ?_;refine Zy (cy Zv0 Zv0 Zl) ?_;refine Z_2 ?_;refine ez (k+1) ?_ ?_ ?_
  ·exact⟨⟨by omega,hc⟩,by omega⟩
  ·exact Zwk
  exact Zu
 simp only[aj]at hc2;obtain rfl:k=l.length:=(by omega);rw[List.drop_length]at hc;refine eu ?_;refine Zra ?_;exact⟨⟨_,rfl,by rw[←hc];rfl⟩,rfl⟩
theorem wL(A:Option Addr)(c:Nat)(l:List Ky)(x:Ky)(w:World)(h:RdV w 2 A l.length c (l.flatMap cA)):Ctr prog 137 [.slice A l.length c,.agg (cA x).toArray] w [] (fun v cs=>v= .bool (l.contains x)∧cs=[]):=by
 refine bL func137 rfl ntmps137 rfl (Inv.start w) ?_;refine Z_2 ?_;refine ZO fun b3=>?_;refine Z_7 ?_;refine ZS (fun w hi=>Dh A c l x w (h.Iy hi)) ?_;rintro _ _ ⟨_,⟨⟨z,rfl,hz⟩,rfl⟩,rfl⟩;refine Z_5 ?_;refine Zra ?_;exact⟨by rw[←hz],rfl⟩
theorem link_rd{w:World}{LK:List (Ky×LS)}{k:Ky}(h:(dq (lkC LK)).ok w):RdV w 2 (gD LK k).A (gD LK k).ks.length (gD LK k).c ((gD LK k).ks.flatMap cA):=by
 cases hp:cT (fun x:Ky×LS=>x.1) k LK with
 |some j=>
  obtain⟨x,hx,hl⟩:=lN hp;rw[hl];exact dm (qg h (lsC x) (aY.2 ⟨_,aJ hx,rfl⟩))
 |none=>
  rw[lO hp];exact⟨rfl,aS _,ax _,fun _=>⟨rfl,rfl⟩,fun ad e=>nomatch e⟩
theorem GI(bc:Nat)(room:Int)(X:CaX)(hX:oF room X)(f t:Ky)(hkf:ki f)(w:World)(hi:Inv w (bK (caF bc room X)) (caF bc room X) w):
  Ctr prog 97 [.pointer (some ⟨bc,0,none⟩),.agg (cA f).toArray,.agg (cA t).toArray] w (caF bc room X) (fun _ cs=>∃X':CaX,cs=caF bc room X'∧oF room X'∧X'.Z=X.Z):=by
 have hS:=hX.sm;have hlk:=hX.lk;have hX2:∀LK,wZ (X.Z.map BA.key) LK→oF room ⟨X.ml,X.Ac,X.cc,X.fl,LK,X.Z⟩:=fun LK h=>⟨hX.rm,hX.len,hX.ba,h⟩
 obtain⟨ml,Ac,cc,fl,LK,Z⟩:=X;dsimp only at hS hlk hX2;have hZ:=hS.1;have HP:=rO bc (.int .i64 room) (.map (some ml)) (.int .i64 fl) Ac cc Z hZ;have hgv:=CT LK f;have hget:∀L,fU (lkV LK) f (.slice none 0 0)=L→L=(gD LK f).v:=fun L e=>e▸hgv
 refine bL func97 rfl ntmps97 rfl hi ?_;refine Z_2 ?_;refine ZO fun b4=>?_;refine ZO fun b5=>?_
 refine Z_5 ?_;rcases ho1:cT BA.key f Z with _|j1
 ·refine Z_3 ?_;refine ZcM ([caR bc (.int .i64 room) (.slice Ac Z.length cc) (.map (some ml)) (.int .i64 fl),slv 186 4 Ac Z.length cc (Z.flatMap BA.cells)]) (fun w hi hin=>HP f w hin) ?_;rw[ho1];refine Z_2 ?_;refine dk (cD rfl rfl) rfl rfl ?_;refine dk (cD rfl rfl) rfl rfl ?_;refine dk (cD rfl rfl) rfl rfl ?_;refine dk (cD rfl rfl) rfl rfl ?_;refine Zy (y_or (q:=false) (Zv rfl) ⟨_,rfl,fun _ e=>absurd e (by decide)⟩) ?_;refine Z_2 ?_;refine cn rfl (rfl) ?_;refine Z_7 ?_;refine bP (caF bc room ⟨ml,Ac,cc,fl,LK,Z⟩) Zj ?_;refine vH (cs':=caF bc room ⟨ml,Ac,cc,fl,LK,Z⟩) (.inl rfl) (aK _) rfl rfl ?_;exact⟨_,rfl,hX,rfl⟩
 refine Z_3 ?_;refine ZcM ([caR bc (.int .i64 room) (.slice Ac Z.length cc) (.map (some ml)) (.int .i64 fl),slv 186 4 Ac Z.length cc (Z.flatMap BA.cells)]) (fun w hi hin=>HP f w hin) ?_;rw[ho1];refine Z_3 ?_;refine iM (cD rfl rfl) Zh Zrf Zrf (Zv rfl) rfl ?_;refine jm (cD rfl rfl) (by rw[show decide (Bi (some j1)<0)=false from aD (by show¬((j1:Nat):Int)<0;omega)];rfl) (dW ([caR bc (.int .i64 room) (.slice Ac Z.length cc) (.map (some ml)) (.int .i64 fl),slv 186 4 Ac Z.length cc (Z.flatMap BA.cells)]) rfl (fun _ _=>rfl) Zi (fun w hi hin=>HP t w hin)) rfl ?_;rintro _ _ ⟨_,⟨rfl,rfl⟩,rfl⟩;refine Z_4 ?_;refine ZW ?_ ?_<;>intro hc1
 ·refine Z_7 ?_;refine bP (caF bc room ⟨ml,Ac,cc,fl,LK,Z⟩) Zj ?_;refine vH (cs':=caF bc room ⟨ml,Ac,cc,fl,LK,Z⟩) (.inl rfl) (aK _) rfl rfl ?_;exact⟨_,rfl,hX,rfl⟩
 have htk:t∈Z.map BA.key:=(by cases ho2:cT BA.key t Z with|none=>rw[ho2]at hc1;simp[Bi]at hc1|some j2=>obtain⟨x2,hx2,hxk2, -⟩:=pd ho2;exact aY.2 ⟨x2,aJ hx2,hxk2⟩);refine Z_2 ?_;refine cS (fun Y:CaX=>[(6,.bool false)]) (fun Y=>caF bc room Y) (fun Y=>oF room Y∧Y.Z=Z) ?_ ?_
 ·refine Zs (bX ⟨fun j=>List.elem j [],[]⟩ Zk ?_);refine ZE 0 ?_;refine ZE 1 ?_;refine ZFe 2 2 ?_;refine ZG 3 ?_;refine ZI 4 ?_;refine ZI 6 ?_;refine cw 5 Zk ?_;refine eK rfl (xd (Zv rfl) (Zv rfl) hkf rfl wc Zrf) (fun w hi=>(show lh ml (lkV LK) w from hi.get (show Has _ (mpc ml (lkV LK))from Zh))) rfl ?_;refine cw 7 Zk ?_;rw[CT LK f];refine ZT (fun w hi=>wL (gD LK f).A (gD LK f).c (gD LK f).ks t w (link_rd (hi.get (show Has _ (dq (lkC LK))from Zh)))) ?_;rintro _ _ ⟨_,⟨rfl,rfl⟩,rfl⟩;refine ZE 8 ?_;refine bN Zk ?_;refine Zt ?_;refine ZW ?_ ?_<;>intro hc3
  ·have hnt:t∉(gD LK f).ks:=(by intro hm;have h9:(!(gD LK f).ks.contains t)=true:=hc3;rw[List.contains_iff_mem.2 hm]at h9;cases h9);have hxl:(gD LK f).ks.length≤1000000:=(by cases hp:cT (fun x:Ky×LS=>x.1) f LK with|some j=>obtain⟨x,hx,hl⟩:=lN hp;rw[hl];exact((hlk.sm (by simpa using hZ)) _ (aJ hx)).2|none=>rw[lO hp];exact ax _);obtain⟨⟨Ax,cx,kx⟩,hlx⟩:=Zgn (gD LK f);refine wc_inv (cs':=lsC (gD LK f)::dq (tf LK f)::[caR bc (.int .i64 room) (.slice Ac Z.length cc) (.map (some ml)) (.int .i64 fl),slv 186 4 Ac Z.length cc (Z.flatMap BA.cells),dq (Z.map baC),mpc ml (lkV LK),kyR b4 f,kyR b5 t]) (fun w hi=>lkTake f (hi.pick (cs':=dq (lkC LK)::[caR bc (.int .i64 room) (.slice Ac Z.length cc) (.map (some ml)) (.int .i64 fl),slv 186 4 Ac Z.length cc (Z.flatMap BA.cells),dq (Z.map baC),mpc ml (lkV LK),kyR b4 f,kyR b5 t]) Zj)) ?_;refine fK ⟨fun j=>List.elem j [7,9,11],[]⟩ [(0,0),(1,0),(2,0),(3,4),(4,4),(5,4),(6,2),(7,2),(8,0),(10,0),(9,2),(11,2)] Zk Zk ?_;refine cm rfl (da Zv0) rfl ?_;refine cm rfl (kq Zv0) rfl ?_;refine cm rfl (dr 2 rfl Zv0 Zf) rfl ?_;refine ln rfl (bO Zrf Zv0) (bS Zh rfl) rfl ?_;refine qq rfl Zh Zrf Zrf (Zv rfl) rfl ?_;refine qq rfl Zh Zrf Zrf (Zv rfl) rfl ?_;refine fb rfl ?_;refine eB rfl rfl (dh rfl rfl Zrf Zrf rfl rfl rfl) ZJ rfl ?_;rintro _ _ ⟨b33,rfl,rfl⟩;refine fb rfl ?_;refine eB rfl rfl (EW rfl rfl hkf rfl wc Zrf Za) ZJ rfl ?_;rintro _ _ ⟨st34,rfl,rfl⟩;refine cm rfl (cQ Zv0 (.zero _ _)) rfl ?_;refine cm rfl (cQ Zv0 (.succ _ (.zero _ _))) rfl ?_;refine fb rfl ?_;rw[CT LK f];refine eB rfl rfl (cW (n:=(gD LK f).ks.length) (e:=98) (sz:=2) (bytes:=8) rfl rfl Za rfl rfl (fun w hi=>hi.rd (show Has _ (slv 98 2 (some ⟨b33,0,none⟩) 1 1 (cA t))from Zh)) (rc t) (by simp only[maxLen];omega) (by omega)) ZJ rfl ?_;rintro _ _ ⟨A9,c9,rfl,rfl⟩;rw[show(gD LK f).ks.flatMap cA++cA t=((gD LK f).ks++[t]).flatMap cA by simp,show(gD LK f).ks.length+1=((gD LK f).ks++[t]).length by simp];refine fb rfl ?_;refine dI rfl rfl (BW (ment_at LK f) rfl rfl rfl Za) ZJ ?_;rintro _ _ ⟨rfl,rfl⟩;refine dB ?_;refine j0 (c:=mpc ml ((qV (lkV LK) f (.slice none 0 0)).set (uH (lkV LK) f) (f,(LS.mk A9 c9 ((gD LK f).ks++[t])).v))) (c':=mpc ml (lkV (dD LK f ⟨A9,c9,(gD LK f).ks++[t]⟩))) Za rfl (fun w h=>by rw[←FM];exact h) ?_
   refine iO (cin:=tf LK f) (c:=lsC ⟨A9,c9,(gD LK f).ks++[t]⟩) (cin':=lkC (dD LK f ⟨A9,c9,(gD LK f).ks++[t]⟩)) Zd Zd (lkPut LK f _) ?_;refine cq ((⟨ml,Ac,cc,fl,dD LK f ⟨A9,c9,(gD LK f).ks++[t]⟩,Z⟩:CaX)) ?_ ?_ ?_
   ·exact⟨hX2 _ (hlk.put hkf htk hnt _ _),rfl⟩
   ·exact Zwk
   exact Zj
  refine Zc ?_;refine cq ((⟨ml,Ac,cc,fl,LK,Z⟩:CaX)) ?_ ?_ ?_
  ·exact⟨hX,rfl⟩
  ·exact Zwk
  exact Zj
 rintro Y ⟨hY,hYZ⟩;refine Z_6 ?_
 skip
 refine vH (cs':=caF bc room Y) (.inl rfl) (aK _) rfl rfl ?_;exact⟨Y,rfl,hY,hYZ⟩
end Go.Proofs.YtakodpimdalajaaGreatDoor
namespace Go.Ink
open Go.RowKit
structure RS where
 r:Rn
 A:Option Addr
 c:Nat
def RS.cells(x:RS):List Value:=[.slice x.A x.r.bytes.length x.c,.bool x.r.ends]
def RS.v(x:RS):Value:= .agg x.cells.toArray
def RS.zero:RS:=⟨Rn.zero,none,0⟩
def rnV(RZ:List (Ky×RS)):List (Ky×Value):=RZ.map fun x=>(x.1,x.2.v)
def rnM(RZ:List (Ky×RS)):List (Ky×Rn):=RZ.map fun x=>(x.1,x.2.r)
theorem fT(x:RS):∀u∈x.cells,u.oneCell'=true:=fun u h=>by
 simp only[RS.cells,aL,bh,or_false]at h;rcases h with rfl|rfl<;>rfl
theorem it_cur{b r:Nat}{L:List (Bool×Ky×Value)}{cur:Option (Ky×Value)}{w:World}(h:vh b r L cur w):vh b r L none w:=by
 obtain⟨es,clock,since,seen,c0,hb,hs,hr,hold,hsc,hsk,hL,hok,hne,hcur⟩:=h;exact⟨es,clock,since,seen,c0,hb,hs,hr,hold,hsc,hsk,hL,hok,hne,fun _ _ e=>by cases e⟩
structure EnX where
 bc:Nat
 mr:Nat
 room:Int
 X:CaX
 RZ:List (Ky×RS)
 last:Ky
 Iw:Int
 Iv:Int
 begun:Bool
def EnX.eng(E:EnX):Eng:=⟨E.room,E.X.Z.map BA.b,rnM E.RZ,E.last,E.Iw,E.Iv,E.begun⟩
structure mH(E:EnX):Prop where
 ca:oF E.room E.X
 eg:gw E.eng
 rs:∀y,y∈E.RZ→ki y.1∧y.2.r.bytes.length≤1000∧u8s y.2.r.bytes
 last:ki E.last
def gIL(G:List (Bool×Ky×RS)):List (Bool×Ky×Value):=G.map fun g=>(g.1,g.2.1,g.2.2.v)
theorem gIL_at{G:List (Bool×Ky×RS)}{j:Nat}{q:Ky}{v:Value}(h:(gIL G)[j]? =some (false,q,v)):∃x,G[j]? =some (false,q,x)∧v=x.v:=by
 unfold gIL at h;rw[aZ]at h;cases hg:G[j]? with
 |none=>rw[hg]at h;cases h
 |some g=>
  obtain⟨f,p,x⟩:=g;rw[hg]at h;simp only[Option.map_some,aR,bz]at h;obtain⟨rfl,rfl,rfl⟩:=h;exact⟨x,rfl,rfl⟩
theorem gIL_del{G:List (Bool×Ky×RS)}{j:Nat}{f:Bool}{q:Ky}{x:RS}(hn:(G.map fun g=>g.2.1).Nodup)(h:G[j]? =some (f,q,x)):sk (gIL G) q=gIL (G.eraseIdx j):=by
 have hp:cT (fun z:Bool×Ky×Value=>z.2.1) q (gIL G)=some j:=by
  have e:cT (fun z:Bool×Ky×Value=>z.2.1) q (gIL G)=cT (fun g:Bool×Ky×RS=>g.2.1) q G:=ju (key:=fun g:Bool×Ky×RS=>g.2.1) (key':=fun z:Bool×Ky×Value=>z.2.1) (fun g:Bool×Ky×RS=>(g.1,g.2.1,g.2.2.v)) Zrf q G;rw[e];cases hp:cT (fun g:Bool×Ky×RS=>g.2.1) q G with
  |none=>exact absurd rfl (ib hp _ (aJ h))
  |some i=>
   obtain⟨hi,hk⟩:=fm hp;obtain⟨hj,hje⟩:=au.1 h;have:i=j:=(List.getElem_inj (xs:=G.map fun g=>g.2.1) (h₀:=by simpa using hi) (h₁:=by simpa using hj) hn).1 (by simp[hk,hje]);rw[this]
 unfold sk;rw[hp];dsimp only;unfold gIL;rw[ChangeMaps.map_eraseIdx]
theorem vD{α:Type}:∀(l:List α) (j:Nat) (x:α),(l.set j x).eraseIdx j=l.eraseIdx j
 |[],_,_=>rfl
 |_::_,0,_=>rfl
 |a::l,j+1,x=>by
  show a::(l.set j x).eraseIdx j=a::l.eraseIdx j;rw[vD l j x]
theorem pJ{α:Type}{f:α→Bool}:∀{l:List α} {j:Nat} {x:α},l[j]? =some x→f x=false→(l.eraseIdx j).filter f=l.filter f
 |[],j,x,h,_=>by simp at h
 |a::l,0,x,h,hf=>by
  obtain rfl:a=x:=by simpa using h
  show l.filter f=_;rw[List.filter_cons,hf];simp
 |a::l,j+1,x,h,hf=>by
  show(a::l.eraseIdx j).filter f=_;rw[List.filter_cons,List.filter_cons,pJ (l:=l) (by simpa using h) hf]
theorem pF{α β:Type}{g:α→β}{l:List α}{j:Nat}{x y:α}(h:l[j]? =some x)(hg:g y=g x):(l.set j y).map g=l.map g:=by
 rw[List.map_set,hg];apply List.ext_getElem?;intro i;rw[List.getElem?_set];by_cases hij:j=i
 ·subst hij;have hj:=(au.1 h).1;rw[if_pos rfl,if_pos (by simpa using hj),aZ,h]
  rfl
 rw[if_neg hij]
def ny(G:List (Bool×Ky×RS)):Nat:=(G.filter fun g=> !g.1).length
theorem sF:∀{G:List (Bool×Ky×RS)} {j:Nat} {x:Ky×RS},G[j]? =some (false,x)→ny (G.set j (true,x))<ny G
 |[],j,x,h=>by simp at h
 |g::G,0,x,h=>by
  obtain rfl:g=(false,x):=by simpa using h
  simp[ny]
 |g::G,j+1,x,h=>by
  have:=sF (G:=G) (j:=j) (x:=x) (by simpa using h);unfold ny at this⊢;rw[List.set_cons_succ,List.filter_cons,List.filter_cons];cases g.1<;>simp<;>exact this
theorem pB:∀{G:List (Bool×Ky×RS)} {j:Nat} {x:Ky×RS},G[j]? =some (false,x)→ny (G.eraseIdx j)<ny G
 |[],j,x,h=>by simp at h
 |g::G,0,x,h=>by
  obtain rfl:g=(false,x):=by simpa using h
  simp[ny]
 |g::G,j+1,x,h=>by
  have:=pB (G:=G) (j:=j) (x:=x) (by simpa using h);unfold ny at this⊢;show((g::G.eraseIdx j).filter _).length<_;rw[List.filter_cons,List.filter_cons];cases g.1<;>simp<;>exact this
theorem we(Z:List BA)(RZ:List (Ky×RS)):sj (Z.map BA.b) (rnM RZ)=rnM (RZ.filter fun x=>Z.any fun t=>t.key==x.1):=by
 unfold sj rnM;rw[List.filter_map];congr 1;apply List.filter_congr;intro x _;simp only[Function.comp,List.any_map]
 rfl
theorem GR(Z:List BA)(k:Ky):(Z.any fun t=>t.key==k)=(Z.find? fun t=>t.key==k).isSome:=by
 rw[Bool.eq_iff_iff,List.any_eq_true,List.find?_isSome]
theorem Gx(Z:List BA)(H8:List Int):(Z.map BA.b).filter (fun t=> !H8.contains (t.key.2/64))=(Z.filter fun x=> !H8.contains (x.b.key.2/64)).map BA.b:=by
 rw[List.filter_map]
 rfl
theorem tw{α:Type}(D:α→Bool):∀l:List α,(l.filter D).length+(l.filter fun x=> !D x).length=l.length
 |[]=>rfl
 |x::l=>by
  have:=tw D l;rw[List.filter_cons,List.filter_cons];cases D x<;>simp<;>omega
end Go.Ink
namespace Go.Proofs.YtakodpimdalajaaGreatDoor
open Go.RowKit Go.Ink Go.Proofs.Tryz
attribute [local irreducible] OpY bU
abbrev rsC(x:RS):bJ:=sl .u8 5 x.A x.r.bytes.length x.c x.r.bytes
def rnC(RZ:List (Ky×RS)):List bJ:=RZ.map fun x=>rsC x.2
abbrev enR(be:Nat)(E:EnX):bJ:=row be [.pointer (some ⟨E.bc,0,none⟩),.map (some E.mr),.int .u32 E.last.1,.int .u32 E.last.2,.int .i64 E.Iw,.int .i64 E.Iv,.bool E.begun] 100
abbrev enF(be:Nat)(E:EnX):List bJ:=[enR be E,caR E.bc (.int .i64 E.room) (.slice E.X.Ac E.X.Z.length E.X.cc) (.map (some E.X.ml)) (.int .i64 E.X.fl),blC E.X,dq (E.X.Z.map baC),mpc E.X.ml (lkV E.X.LK),dq (lkC E.X.LK),mpc E.mr (rnV E.RZ),dq (rnC E.RZ)]
theorem ze(x:RS)(n:Int)(w:World):Ctr prog 46 [.agg x.cells.toArray,.int .i64 n] w [] (fun v cs=>v= .int .i64 (bif n==0 then 0 else(x.r.bytes.length:Int))∧cs=[]):=by
 refine bL func46 rfl ntmps46 rfl (Inv.start w) ?_;refine Z_2 ?_;refine ZO fun b2=>?_;refine eJ ?_;refine ZW ?_ ?_<;>intro hc1
 ·refine Z_7 ?_;refine Zra ?_;rw[hc1];exact⟨rfl,rfl⟩
 refine eu ?_;refine Zra ?_;rw[hc1];exact⟨rfl,rfl⟩
theorem zc(be:Nat)(E:EnX)(w:World)(hi:Inv w (bK (enF be E)) (enF be E) w):Ctr prog 50 [.pointer (some ⟨be,0,none⟩)] w (enF be E) (fun v cs=>v= .tuple #[.int .i64 E.Iw,.int .i64 E.Iv]∧cs=enF be E):=by
 refine bL func50 rfl ntmps50 rfl hi ?_;refine Z_7 ?_;refine bX ⟨fun j=>List.elem j [],[]⟩ Zk ?_;refine ZE 0 ?_;refine ZE 1 ?_;refine ZFe 2 4 ?_;refine ZG 3 ?_;refine ZE 4 ?_;refine ZE 5 ?_;refine ZFe 6 5 ?_;refine ZG 7 ?_;refine ZE 8 ?_;refine ZE 9 ?_;refine bN Zk ?_;refine Z_2 ?_;refine ft (cs':=enF be E) (.inl rfl) (aK _) rfl rfl rfl ?_;exact⟨rfl,rfl⟩
theorem AT(be:Nat)(E:EnX)(w:World)(hi:Inv w (bK (enF be E)) (enF be E) w):Ctr prog 51 [.pointer (some ⟨be,0,none⟩)] w (enF be E) (fun v cs=>v= .int .i64 (E.X.Z.length:Int)∧cs=enF be E):=by
 refine bL func51 rfl ntmps51 rfl hi ?_;refine eu ?_;refine ZcM (caF E.bc E.room E.X) (fun w hi hin=>D9 E.bc E.room E.X w hin) ?_;refine Z_4 ?_;refine bP (enF be E) Zj ?_;refine vH (cs':=enF be E) (.inl rfl) (aK _) rfl rfl ?_;exact⟨rfl,rfl⟩
theorem enew_ok(room:Int)(w:World):Ctr prog 11 [.int .i64 room] w [] (fun v cs=>if 1≤room∧room≤1024 then∃be bc mr ml,v= .tuple #[.pointer (some ⟨be,0,none⟩),.int .i64 0]∧cs=enF be ⟨bc,mr,room,⟨ml,none,0,0,[],[]⟩,[],(0,0),0,0,false⟩else v= .tuple #[.pointer none,.int .i64 1]∧cs=[]):=by
 have HN:=cnew_ok room;refine bL func11 rfl ntmps11 rfl (Inv.start w) ?_;by_cases hr:1≤room∧room≤1024
 ·have HN2:∀w,Ctr prog 42 [.int .i64 room] w [] (fun v cs=>∃bc ml,v= .tuple #[.pointer (some ⟨bc,0,none⟩),.int .i64 0]∧cs=caF bc room ⟨ml,none,0,0,[],[]⟩):=fun w=>Ctr.mono (HN w) fun v cs h=>by rw[if_pos hr]at h;exact h
  refine Z_9 ?_;refine ZS (fun w hi=>HN2 w) ?_;rintro _ _ ⟨_,⟨bc,ml,rfl,rfl⟩,rfl⟩;refine iG ?_;refine bV rfl (rfl) ?_;refine Z_4 ?_;refine nh ?_;refine ZA ?_;refine dJ (xn rfl) rfl ?_;rintro _ _ ⟨b15,rfl,rfl⟩;refine ZA ?_;refine ZO fun b17=>?_
  refine Z_5 ?_;refine bP (enF b17 ⟨bc,b15,room,⟨ml,none,0,0,[],[]⟩,[],(0,0),0,0,false⟩) Zj ?_;refine ft (cs':=enF b17 ⟨bc,b15,room,⟨ml,none,0,0,[],[]⟩,[],(0,0),0,0,false⟩) (.inl rfl) (aK _) rfl rfl rfl ?_;rw[if_pos hr];exact⟨b17,bc,b15,ml,rfl,rfl⟩
 have HN2:∀w,Ctr prog 42 [.int .i64 room] w [] (fun v cs=>v= .tuple #[.pointer none,.int .i64 1]∧cs=[]):=fun w=>Ctr.mono (HN w) fun v cs h=>by rw[if_neg hr]at h;exact h
 refine Z_9 ?_;refine ZSe (fun w hi=>HN2 w) ?_;refine iG ?_;refine cn rfl (rfl) ?_;refine Z_9 ?_;refine ft (cs':=[]) (.inl rfl) Zu rfl rfl rfl ?_;rw[if_neg hr];exact⟨rfl,rfl⟩
theorem DT(be:Nat)(E:EnX)(w:World)(hi:Inv w (bK (enF be E)) (enF be E) w):Ctr prog 19 [.pointer (some ⟨be,0,none⟩)] w (enF be E) (fun _ cs=>∃ml fl,cs=enF be ⟨E.bc,E.mr,E.room,⟨ml,none,0,fl,[],[]⟩,[],E.last,E.Iw,E.Iv,E.begun⟩):=by
 refine bL func19 rfl ntmps19 rfl hi ?_;refine Z_6 ?_;refine ZcL (caF E.bc E.room E.X) (fun w hi hin=>wR E.bc E.room E.X w hin) ?_;rintro _ _ ⟨_,⟨ml,fl,rfl,rfl⟩,rfl⟩;refine Z_7 ?_;refine dy (EX rfl rfl Za) ?_;rintro _ _ ⟨rfl,rfl⟩;refine Zn (jD (cin:=rnC E.RZ) (cin':=[]) Zd (List.nil_sublist _) ?_);refine bP (enF be ⟨E.bc,E.mr,E.room,⟨ml,none,0,fl,[],[]⟩,[],E.last,E.Iw,E.Iv,E.begun⟩) Zj ?_;refine fE (cs':=enF be ⟨E.bc,E.mr,E.room,⟨ml,none,0,fl,[],[]⟩,[],E.last,E.Iw,E.Iv,E.begun⟩) (.inr rfl) (aK _) rfl ?_;exact⟨ml,fl,rfl⟩
theorem Az(Y:bJ)(D:Ky→Bool)(f:FuncId)(caps:List Value)(HF:∀args w,(callFunc f args).run prog w= .ok (.enter f args) w)(RZ:List (Ky×RS))(hn:(RZ.map (·.1)).Nodup)(hk:∀y,y∈RZ→ki y.1)(mr:Nat)
  (HC:∀(q:Ky) (x:RS) (w:World),ki q→Inv w (bK [Y]) [Y] w→Ctr prog f ([]++[.agg (cA q).toArray,.agg x.cells.toArray]++caps) w [Y] (fun v cs=>v= .bool (D q)∧cs=[Y]))
  (w:World) (hi:Inv w (bK [mpc mr (rnV RZ),Y]) [mpc mr (rnV RZ),Y] w):
  Ctr prog 152 [.map (some mr),.func (.func f) #[] caps.toArray] w [mpc mr (rnV RZ),Y] (fun _ cs=>cs=[mpc mr (rnV (RZ.filter fun x=> !D x.1)),Y]):=by
 refine bL func152 rfl ntmps152 rfl hi ?_;refine Z_3 ?_;refine dJ (yp rfl rfl Za) rfl ?_;rintro _ _ ⟨b7,rfl,rfl⟩;rw[show(rnV RZ).map (fun x=>(false,x))=gIL (RZ.map fun x=>(false,x)) by unfold rnV gIL;rw[List.map_map,List.map_map];rfl];refine Z_3 ?_;refine cG (fun G:List (Bool×Ky×RS)=>[(0,.map (some mr)),(1,.func (.func f) #[] caps.toArray),(7,.pointer (some ⟨b7,0,none⟩))]) (fun G=>[itC mr b7 (gIL G) none,Y]) (fun G=>(G.map (·.2)).filter (fun x=> !D x.1)=RZ.filter (fun x=> !D x.1)∧(∀g,g∈G→g.1=true→D g.2.1=false)∧(G.map fun g=>g.2.1).Nodup∧(∀g,g∈G→ki g.2.1)) (fun G=>ny G) (RZ.map fun x=>(false,x)) ?_ ?_ ?_ ?_
 ·exact⟨(by rw[List.map_map];show(RZ.map id).filter _=_;rw[List.map_id]),(fun g hg h=>by obtain⟨y, -,rfl⟩:=aY.1 hg;cases h),(by rw[List.map_map];exact hn),(fun g hg=>by obtain⟨y,hy,rfl⟩:=aY.1 hg;exact hk y hy)⟩
 ·exact Zwk
 ·exact Zu
 rintro G ⟨hG,hT,hN,hK⟩;refine Z_2 ?_;refine dJ (BV rfl Za) rfl ?_;rintro _ _ ⟨o8,ho8,rfl,rfl⟩;refine Zy (Bl Zv0) ?_;refine Z_3 ?_;refine ZW ?_ ?_<;>intro hc1
 ·obtain⟨⟨j,q,v⟩,rfl⟩:=Option.isSome_iff_exists.1 hc1;have hj0:(gIL G)[j]? =some (false,q,v):=ho8;obtain⟨x,hx,rfl⟩:=gIL_at hj0;have hq:=hK _ (aJ hx);have hIT:(gIL G).set j (true,q,x.v)=gIL (G.set j (true,q,x)):=(by unfold gIL;rw[List.map_set]);have hx2:(G.set j (true,q,x))[j]? =some (true,q,x):=List.getElem?_set_self (au.1 hx).1;have hN2:((G.set j (true,q,x)).map fun g=>g.2.1).Nodup:=(by rw[pF (y:=(true,q,x)) hx rfl];exact hN);have hdel:sk ((gIL G).set j (true,q,x.v)) q=gIL (G.eraseIdx j):=(by rw[hIT,gIL_del hN2 hx2,vD]);refine Z_5 ?_;refine dX (Bo (Zv rfl)) (fun w hi=>(show vh mr b7 (xI (gIL G) (some (j,q,x.v))) (some (q,x.v)) w from hi.get (show Has _ (itC mr b7 (xI (gIL G) (some (j,q,x.v))) (CA (some (j,q,x.v))))from Zh))) rfl ?_;refine Z_2 ?_;refine ZN fun b4=>?_
  refine ZN fun b5=>?_
  refine dy (bY (vs:=cA q) Zrf rfl rfl (rc q) Za (by exact rfl)) ?_;rintro _ _ ⟨rfl,rfl⟩;refine dy (bY (vs:=x.cells) Zrf rfl rfl (fT x) Za (by exact rfl)) ?_;rintro _ _ ⟨rfl,rfl⟩;refine Z_7 ?_;refine dJ (eA ([Y]) rfl rfl HF Zi (fun w hi hin=>HC q x w hq hin)) rfl ?_;rintro _ _ ⟨_,⟨rfl,rfl⟩,rfl⟩;refine Z_2 ?_;refine ZW ?_ ?_<;>intro hc3
  ·refine Z_3 ?_;refine dy (t_itdel rfl rfl hq rfl wc Za) ?_;rintro _ _ ⟨rfl,rfl⟩;refine Z_2 ?_;refine j0 (c:=itC mr b7 (sk ((gIL G).set j (true,q,x.v)) q) none) (c':=itC mr b7 (gIL (G.eraseIdx j)) none) Za rfl (fun w h=>by rw[←hdel];exact h) ?_;refine cq ((G.eraseIdx j)) ?_ ?_ ?_
   ·exact⟨⟨(by rw[ChangeMaps.map_eraseIdx,pJ (x:=(q,x)) (by rw[aZ,hx];rfl) (by rw[hc3];rfl)];exact hG),(fun g hg h=>hT g ((List.eraseIdx_sublist _ _).subset hg) h),hN.sublist ((List.eraseIdx_sublist _ _).map _),fun g hg=>hK g ((List.eraseIdx_sublist _ _).subset hg)⟩,pB hx⟩
   ·exact Zwk
   exact Zj
  refine Z_2 ?_;refine j0 (c:=itC mr b7 ((gIL G).set j (true,q,x.v)) (some (q,x.v))) (c':=itC mr b7 (gIL (G.set j (true,q,x))) none) Za rfl (fun w h=>by rw[←hIT];exact it_cur h) ?_;refine cq ((G.set j (true,q,x))) ?_ ?_ ?_
  ·exact⟨⟨(by rw[pF (y:=(true,q,x)) hx rfl];exact hG),(fun g hg h=>(List.mem_or_eq_of_mem_set hg).elim (fun hg=>hT g hg h) (fun e=>by rw[e];exact hc3)),hN2,(fun g hg=>(List.mem_or_eq_of_mem_set hg).elim (fun hg=>hK g hg) (fun e=>by rw[e];exact hq))⟩,sF hx⟩
  ·exact Zwk
  exact Zj
 obtain rfl:o8=none:=(by cases o8 with|none=>rfl|some z=>simp at hc1);have ho0:∀x,x∈gIL G→x.1=true:=ho8;have hall:∀g,g∈G→D g.2.1=false:=(fun g hg=>hT g hg (ho0 (g.1,g.2.1,g.2.2.v) (aY.2 ⟨g,hg,rfl⟩)));refine Z_4 ?_;refine vM (IL:=gIL G) (cur:=none) (b:=mr) (r:=b7) Zd ?_;rw[show(gIL G).map (·.2)=rnV (RZ.filter fun x=> !D x.1) by rw[←hG,List.filter_eq_self.2 (fun y hy=>by obtain⟨g,hg,rfl⟩:=aY.1 hy;rw[hall g hg];rfl)];unfold gIL rnV;rw[List.map_map,List.map_map];rfl];refine fE (cs':=[mpc mr (rnV (RZ.filter fun x=> !D x.1)),Y]) (.inr rfl) Zu rfl ?_
 rfl
end Go.Proofs.YtakodpimdalajaaGreatDoor
namespace Go.Ink
open Go.RowKit
section
variable {C:Cx} {Q:kI} {fr:Fr} {cs cs':List bJ} {ops:Array Oper} {l:List Oper} {e:Exit} {fn:Func} {K:Value→List bJ→Prop}
theorem G6(hc:∀w,Inv C.w0 C.S cs w→Inv C.w0 C.S cs' w)(h:WL C ops Q l fr cs'):WL C ops Q l fr cs:=fun a w hf hi=>h a w hf (hc w hi)
theorem ky{t T bb tt t2 T2 b2 tt2 u:Nat}{v:Value}{xs ys:List Value}(he:e= .ret∨e= .normal)(hs:cs'.Sublist cs)(h0:fn.results= #[.cell t T,.cell t2 T2,.tmp u])(h1:look fr t=some (.pointer (some ⟨bb,0,none⟩)))(h2:look fr t2=some (.pointer (some ⟨b2,0,none⟩)))(h3:look fr u=some v)(hc:Has cs (row bb xs tt))(hc2:Has cs (row b2 ys tt2))
  (hT:∀w,(isAgg T).run C.P w= .ok true w) (hz:∀w,(sizeOf T).run C.P w= .ok xs.length w) (hT2:∀w,(isAgg T2).run C.P w= .ok true w) (hz2:∀w,(sizeOf T2).run C.P w= .ok ys.length w) (hk:K (.tuple #[.agg xs.toArray,.agg ys.toArray,v]) cs'):QOk C (bodyPost C.P fn (w9 C.w0 C.S K)) e fr cs:=
 lF he hs (fun a w hf hi=>by
  have e1:=hf.at_ t _ h1;have e2:=hf.at_ t2 _ h2;have e3:=hf.at_ u _ h3;simp only[aX]at e1 e2 e3;simp[results,h0,e1,e2,e3,asAddr,gr hT hz hi hc,gr hT2 hz2 hi hc2]) hk
end
theorem Ctr.up{P:Program}{f:FuncId}{args:List Value}{w:World}{cin:List bJ}{K K':Value→List bJ→Prop}(h:Ctr P f args w cin K)(hk:∀v cs w',K v cs→Inv w (bK cin) cs w'→∃cs',K' v cs'∧Inv w (bK cin) cs' w'):Ctr P f args w cin K':=
 Calls.mono h fun e w' hq=>by
  obtain⟨v,cout,rfl,h1,h2⟩:=hq;obtain⟨cs',h3,h4⟩:=hk v cout w' h1 h2;exact⟨v,cs',rfl,h3,h4⟩
abbrev EnX.IA(E:EnX)(X:CaX):EnX:=⟨E.bc,E.mr,E.room,X,E.RZ,E.last,E.Iw,E.Iv,E.begun⟩
abbrev EnX.IE(E:EnX)(RZ:List (Ky×RS)):EnX:=⟨E.bc,E.mr,E.room,E.X,RZ,E.last,E.Iw,E.Iv,E.begun⟩
def kT(Z:List BA)(RZ:List (Ky×RS)):List (Ky×RS):=RZ.filter fun x=>Z.any fun t=>t.key==x.1
theorem Fc(RZ:List (Ky×RS)):(rnM RZ).map (·.1)=RZ.map (·.1):=by unfold rnM;rw[List.map_map];rfl
theorem mH.rk{E:EnX}(h:mH E):(E.RZ.map (·.1)).Nodup:=by have:=h.eg.Jg;rwa[show E.eng.runs=rnM E.RZ from rfl,Fc]at this
theorem nz(E:Eng){H8:List Int}(h:H8≠[]):lv E H8=DY E H8:=by
 unfold lv;cases H8 with
 |nil=>exact absurd rfl h
 |cons=>rfl
theorem Gy(E:EnX)(H8:List Int)(X':CaX)(hX:X'.Z=E.X.Z.filter fun x=> !H8.contains (x.b.key.2/64)):
  (bif decide (0<((E.X.Z.filter fun x=>H8.contains (x.b.key.2/64)).length:Int))then((E.IA X').IE (kT X'.Z E.RZ)).eng else(E.IA X').eng)=DY E.eng H8:=by
 have h2:=tw (fun x:BA=>H8.contains (x.b.key.2/64)) E.X.Z;have hl:(E.eng.l.filter fun t=> !H8.contains (t.key.2/64))=X'.Z.map BA.b:=by rw[hX];exact Gx E.X.Z H8
 have hlen:E.eng.l.length=E.X.Z.length:=List.length_map _;unfold DY;rw[hl,hlen];dsimp only;rw[List.length_map,hX];cases hd:decide (0<((E.X.Z.filter fun x=>H8.contains (x.b.key.2/64)).length:Int))with
 |true=>
  simp only[ap]at hd;rw[ac,aB (by omega),ac];rw[←hX];show Eng.mk E.room (X'.Z.map BA.b) (rnM (kT X'.Z E.RZ)) E.last E.Iw E.Iv E.begun=Eng.mk E.room _ (sj _ (rnM E.RZ)) E.last E.Iw E.Iv E.begun;rw[we]
  rfl
 |false=>
  simp only[aj]at hd;rw[aa,aD (by omega),aa];rw[←hX]
  rfl
theorem BG(E:Eng)(H8:List Int):(lv E H8).last=E.last:=by unfold lv;cases H8.isEmpty<;>rfl
theorem mH.Jm{E E':EnX}(h:mH E)(H8:List Int)(he:E'.eng=lv E.eng H8)(hc:oF E'.room E'.X)(hr:∀y,y∈E'.RZ→y∈E.RZ):mH E':=⟨hc,by rw[he];exact h.eg.turn H8,fun y hy=>h.rs y (hr y hy),by have e:=congrArg Eng.last he;rw[BG]at e;rw[show E'.last=E.last from e];exact h.last⟩
theorem Ak{b:List Int}{l:List (Int×Int)}{sz:Nat}{R:List (Int×Int)×Nat×Bool}(h:(l++(cK b 0 sz).1,(cK b 0 sz).2)=R):(l,sz,false)=R:=by
 rw[←h];show(l,sz,false)=(l++[],sz,false);rw[ay]
theorem Aj{b:List Int}{l:List (Int×Int)}{k sz:Nat}{R:List (Int×Int)×Nat×Bool}(h:(l++(cK b (k+1) sz).1,(cK b (k+1) sz).2)=R)(hd:dU (b.drop sz)=none):(l,sz,false)=R:=by
 rw[←h];have e:cK b (k+1) sz=([],sz,false):=by rw[cK,hd]
 rw[e,ay]
theorem Ct{b:List Int}{l:List (Int×Int)}{k sz z:Nat}{i:Int×Int}{R:List (Int×Int)×Nat×Bool}(h:(l++(cK b (k+1) sz).1,(cK b (k+1) sz).2)=R)(hd:dU (b.drop sz)=some (i,z))(hp:dA i.1=false):(l,sz,false)=R:=by
 rw[←h];have e:cK b (k+1) sz=([],sz,false):=by rw[cK,hd];dsimp only;rw[hp,aa]
 rw[e,ay]
theorem Cv{b:List Int}{l:List (Int×Int)}{k sz z:Nat}{i:Int×Int}{R:List (Int×Int)×Nat×Bool}(h:(l++(cK b (k+1) sz).1,(cK b (k+1) sz).2)=R)(hd:dU (b.drop sz)=some (i,z))(hp:dA i.1=true)(he:gl i.1=true):(l++[i],sz+z,true)=R:=by
 rw[←h];have e:cK b (k+1) sz=([i],sz+z,true):=by rw[cK,hd];dsimp only;rw[hp,he,ac,ac]
 rw[e]
theorem Fu{b:List Int}{l:List (Int×Int)}{k sz z:Nat}{i:Int×Int}{R:List (Int×Int)×Nat×Bool}(h:(l++(cK b (k+1) sz).1,(cK b (k+1) sz).2)=R)(hd:dU (b.drop sz)=some (i,z))(hp:dA i.1=true)(he:gl i.1=false):(l++[i]++(cK b k (sz+z)).1,(cK b k (sz+z)).2)=R:=by
 rw[←h];have e:cK b (k+1) sz=(i::(cK b k (sz+z)).1,(cK b k (sz+z)).2.1,(cK b k (sz+z)).2.2):=by rw[cK,hd];dsimp only;rw[hp,he,ac,aa]
 rw[e,aq]
 rfl
end Go.Ink
namespace Go.Proofs.YtakodpimdalajaaGreatDoor
open Go.RowKit Go.Ink Go.Proofs.Tryz
attribute [local irreducible] OpY bU
abbrev pgC(Ap:Option Addr)(cp:Nat)(H8:List Int):bJ:=sl .i64 3 Ap H8.length cp H8
abbrev caP(bc:Nat)(room:Int)(X:CaX)(Ap:Option Addr)(cp:Nat)(H8:List Int):List bJ:=[caR bc (.int .i64 room) (.slice X.Ac X.Z.length X.cc) (.map (some X.ml)) (.int .i64 X.fl),blC X,dq (X.Z.map baC),mpc X.ml (lkV X.LK),dq (lkC X.LK),pgC Ap cp H8]
theorem Ec(bc:Nat)(room:Int)(X:CaX)(hX:oF room X)(Ap:Option Addr)(cp:Nat)(H8:List Int)(w:World)(hi:Inv w (bK (caP bc room X Ap cp H8)) (caP bc room X Ap cp H8) w):
  Ctr prog 107 [.pointer (some ⟨bc,0,none⟩),.slice Ap H8.length cp] w (caP bc room X Ap cp H8) (fun v cs=>v= .int .i64 ((X.Z.filter (eC H8)).length:Int)∧∃X':CaX,cs=caP bc room X' Ap cp H8∧oF room X'∧X'.Z=X.Z.filter fun x=> !eC H8 x):=GO bc room X hX Ap cp H8 w hi
abbrev enP(be:Nat)(E:EnX)(Ap:Option Addr)(cp:Nat)(H8:List Int):List bJ:=[enR be E,caR E.bc (.int .i64 E.room) (.slice E.X.Ac E.X.Z.length E.X.cc) (.map (some E.X.ml)) (.int .i64 E.X.fl),blC E.X,dq (E.X.Z.map baC),mpc E.X.ml (lkV E.X.LK),dq (lkC E.X.LK),mpc E.mr (rnV E.RZ),dq (rnC E.RZ),pgC Ap cp H8]
abbrev tdF(b1 be:Nat)(E:EnX):List bJ:=row b1 [.pointer (some ⟨be,0,none⟩)] 33::enR be E::caF E.bc E.room E.X
theorem EQ(b1 be:Nat)(E:EnX)(hS:BaSm E.X.Z)(q:Ky)(x:RS)(w:World)(hi:Inv w (bK (tdF b1 be E)) (tdF b1 be E) w):
  Ctr prog 153 ([]++[.agg (cA q).toArray,.agg x.cells.toArray]++[.pointer (some ⟨b1,0,none⟩)]) w (tdF b1 be E) (fun v cs=>v= .bool (!(E.X.Z.find? fun t=>t.key==q).isSome)∧cs=tdF b1 be E):=by
 have HF:=zn E.bc E.room E.X hS q;obtain⟨o,ho⟩:=Zgn ((E.X.Z.find? fun t=>t.key==q));rw[ho]at HF⊢;refine bL func153 rfl ntmps153 rfl hi ?_;cases o with
 |none=>
  refine Z_2 ?_;refine ZO fun b3=>?_;refine ZO fun b4=>?_
  refine Z_4 ?_;refine fK ⟨fun j=>List.elem j [5,10],[]⟩ [(0,4),(1,0),(2,0),(3,1),(4,1),(5,3),(6,3),(7,3),(8,3),(9,3),(10,3),(11,3)] Zk Zk ?_;refine ln rfl (bO Zrf Zv0) (bS Zh rfl) rfl ?_;refine cm rfl (kq Zv0) rfl ?_;refine cm rfl (dr 0 rfl Zv0 Zf) rfl ?_;refine iI rfl (bO Zrf Zv0) (bS Zh rfl) rfl ?_;refine mc rfl Zh Zrf Zrf (Zv rfl) rfl ?_;refine yg [(5,[(6,0),(7,0),(8,0),(9,2),(10,2),(11,0)]),(9,[(5,2),(6,0),(7,0),(8,0),(10,2),(11,0)])] Zk (.cons ?_ (.cons ?_ .nil))
  ·refine ZcS (caF E.bc E.room E.X) (fun w hi hin=>HF w hin) ?_;rintro _ _ ⟨_,⟨rfl,rfl⟩,rfl⟩;refine cm rfl (da Zv0) rfl ?_;refine cm rfl (cQ Zv0 (.zero _ _)) rfl ?_;refine cm rfl (cQ Zv0 (.succ _ (.zero _ _))) rfl ?_;refine fb rfl ?_;refine eB rfl rfl (dO Zrf rfl) ZJ rfl ?_;rintro _ _ ⟨b6,rfl,rfl⟩;refine fb rfl ?_;refine dI rfl rfl (bY Zrf rfl rfl (iE rfl) Za (by exact rfl)) ZJ ?_;rintro _ _ ⟨rfl,rfl⟩;refine cm rfl (gx Zv0) rfl ?_;refine dB ?_;refine Z_9 ?_;refine bP (tdF b1 be E) Zj ?_;refine vH (cs':=tdF b1 be E) (.inl rfl) (aK _) rfl rfl ?_;exact⟨rfl,rfl⟩
  refine eB rfl rfl (dO Zrf rfl) ZJ rfl ?_;rintro _ _ ⟨b6,rfl,rfl⟩;refine fb rfl ?_;refine ZcS (caF E.bc E.room E.X) (fun w hi hin=>HF w hin) ?_;rintro _ _ ⟨_,⟨rfl,rfl⟩,rfl⟩;refine cm rfl (da Zv0) rfl ?_;refine cm rfl (cQ Zv0 (.zero _ _)) rfl ?_;refine cm rfl (cQ Zv0 (.succ _ (.zero _ _))) rfl ?_;refine fb rfl ?_;refine dI rfl rfl (bY Zrf rfl rfl (iE rfl) Za (by exact rfl)) ZJ ?_;rintro _ _ ⟨rfl,rfl⟩;refine cm rfl (gx Zv0) rfl ?_;refine dB ?_;refine Z_9 ?_;refine bP (tdF b1 be E) Zj ?_;refine vH (cs':=tdF b1 be E) (.inl rfl) (aK _) rfl rfl ?_;exact⟨rfl,rfl⟩
 |some y=>
  refine Z_2 ?_;refine ZO fun b3=>?_;refine ZO fun b4=>?_
  refine Z_4 ?_;refine fK ⟨fun j=>List.elem j [5,10],[]⟩ [(0,4),(1,0),(2,0),(3,1),(4,1),(5,3),(6,3),(7,3),(8,3),(9,3),(10,3),(11,3)] Zk Zk ?_;refine ln rfl (bO Zrf Zv0) (bS Zh rfl) rfl ?_;refine cm rfl (kq Zv0) rfl ?_;refine cm rfl (dr 0 rfl Zv0 Zf) rfl ?_;refine iI rfl (bO Zrf Zv0) (bS Zh rfl) rfl ?_;refine mc rfl Zh Zrf Zrf (Zv rfl) rfl ?_;refine yg [(5,[(6,0),(7,0),(8,0),(9,2),(10,2),(11,0)]),(9,[(5,2),(6,0),(7,0),(8,0),(10,2),(11,0)])] Zk (.cons ?_ (.cons ?_ .nil))
  ·refine ZcS (caF E.bc E.room E.X) (fun w hi hin=>HF w hin) ?_;rintro _ _ ⟨_,⟨A9,c9,rfl,rfl⟩,rfl⟩;refine cm rfl (da Zv0) rfl ?_;refine cm rfl (cQ Zv0 (.zero _ _)) rfl ?_;refine cm rfl (cQ Zv0 (.succ _ (.zero _ _))) rfl ?_;refine fb rfl ?_;refine eB rfl rfl (dO Zrf rfl) ZJ rfl ?_;rintro _ _ ⟨b6,rfl,rfl⟩;refine fb rfl ?_;refine dI rfl rfl (bY Zrf rfl rfl (fJ ⟨y.b,A9,c9⟩) Za (by exact rfl)) ZJ ?_;rintro _ _ ⟨rfl,rfl⟩;refine cm rfl (gx Zv0) rfl ?_;refine dB ?_;refine Z_9 ?_;refine bP (tdF b1 be E) Zj ?_;refine vH (cs':=tdF b1 be E) (.inl rfl) (aK _) rfl rfl ?_;exact⟨rfl,rfl⟩
  refine eB rfl rfl (dO Zrf rfl) ZJ rfl ?_;rintro _ _ ⟨b6,rfl,rfl⟩;refine fb rfl ?_;refine ZcS (caF E.bc E.room E.X) (fun w hi hin=>HF w hin) ?_;rintro _ _ ⟨_,⟨A9,c9,rfl,rfl⟩,rfl⟩;refine cm rfl (da Zv0) rfl ?_;refine cm rfl (cQ Zv0 (.zero _ _)) rfl ?_;refine cm rfl (cQ Zv0 (.succ _ (.zero _ _))) rfl ?_;refine fb rfl ?_;refine dI rfl rfl (bY Zrf rfl rfl (fJ ⟨y.b,A9,c9⟩) Za (by exact rfl)) ZJ ?_;rintro _ _ ⟨rfl,rfl⟩;refine cm rfl (gx Zv0) rfl ?_;refine dB ?_;refine Z_9 ?_;refine bP (tdF b1 be E) Zj ?_;refine vH (cs':=tdF b1 be E) (.inl rfl) (aK _) rfl rfl ?_;exact⟨rfl,rfl⟩
theorem zd(be:Nat)(E:EnX)(hS:BaSm E.X.Z)(hn:(E.RZ.map (·.1)).Nodup)(hk:∀y,y∈E.RZ→ki y.1)(w:World)(hi:Inv w (bK (enF be E)) (enF be E) w):
  Ctr prog 108 [.pointer (some ⟨be,0,none⟩)] w (enF be E) (fun _ cs=>cs=enF be (E.IE (kT E.X.Z E.RZ))):=by
 have hkr:(E.RZ.filter fun x=> !!(E.X.Z.find? fun t=>t.key==x.1).isSome)=kT E.X.Z E.RZ:=by
  unfold kT;apply List.filter_congr;intro x _;rw[Bool.not_not,GR]
 have hsub:(rnC (kT E.X.Z E.RZ)).Sublist (rnC E.RZ):=List.Sublist.map _ List.filter_sublist;have HM:=fun b1 w hi=>Az (dq (tdF b1 be E)) (fun q=> !(E.X.Z.find? fun t=>t.key==q).isSome) 153 [.pointer (some ⟨b1,0,none⟩)] (fun _ _=>rfl) E.RZ hn hk E.mr
  (fun q x w _ hin=>Ctr.mono (Ctr.join hin fun hin2=>EQ b1 be E hS q x w hin2) (fun v cs ⟨cs0,⟨h1,h2⟩,h3⟩=>⟨h1,by rw[h3,h2]⟩)) w hi
 rw[hkr]at HM;refine bL func108 rfl ntmps108 rfl hi ?_;refine Z_2 ?_;refine ZO fun b1=>?_;refine Z_7 ?_;refine Zy (jX rfl) ?_;refine G6 (cs':=dq (tdF b1 be E)::[mpc E.mr (rnV E.RZ),dq (rnC E.RZ)]) (fun w hi=>hi.Jr Zi) ?_;refine ZcL ([mpc E.mr (rnV E.RZ),dq (tdF b1 be E)]) (fun w hi hin=>HM b1 w hin) ?_;rintro _ _ ⟨_,rfl,rfl⟩;refine G6 (cs':=tdF b1 be E++[mpc E.mr (rnV (kT E.X.Z E.RZ)),dq (rnC E.RZ)]) (fun w hi=>(hi.perm (List.Perm.swap ..)).Jf) ?_;refine Zn (jD (cin:=rnC E.RZ) (cin':=rnC (kT E.X.Z E.RZ)) Zd hsub ?_);refine bP (enF be (E.IE (kT E.X.Z E.RZ))) Zj ?_;refine fE (cs':=enF be (E.IE (kT E.X.Z E.RZ))) (.inr rfl) (aK _) rfl ?_
 rfl
theorem AR(be:Nat)(E:EnX)(hE:mH E)(Ap:Option Addr)(cp:Nat)(H8:List Int)(w:World)(hi:Inv w (bK (enP be E Ap cp H8)) (enP be E Ap cp H8) w):
  Ctr prog 58 [.pointer (some ⟨be,0,none⟩),.slice Ap H8.length cp] w (enP be E Ap cp H8) (fun _ cs=>∃E',cs=enP be E' Ap cp H8∧mH E'∧E'.eng=lv E.eng H8):=by
 have HD:=Ec E.bc E.room E.X hE.ca Ap cp H8;refine bL func58 rfl ntmps58 rfl hi ?_;by_cases hp:H8=[]
 ·subst hp;refine Z_6 ?_;refine dk (cu rfl rfl) rfl rfl ?_;refine dk (cu rfl rfl) rfl rfl ?_;refine dk (cu rfl rfl) rfl rfl ?_;refine dk (cu rfl rfl) rfl rfl ?_;refine dk (cu rfl rfl) rfl rfl ?_;refine dk (cu rfl rfl) rfl rfl ?_;refine dk (cu rfl rfl) rfl rfl ?_;refine Zy (Bp (q:=false) (Zv rfl) ⟨_,rfl,fun _ e=>absurd e (by decide)⟩) ?_;refine Z_2 ?_;refine bV rfl (rfl) ?_;refine Zc (fE (cs':=enP be E Ap cp []) (.inr rfl) (aK _) rfl ?_);exact⟨E,rfl,hE,rfl⟩
 have hpl:0<H8.length:=List.length_pos_iff.2 hp;have HX:=Gy E H8;obtain⟨n9,hn9⟩:∃n:Nat,(E.X.Z.filter fun x=>H8.contains (x.b.key.2/64)).length=n:=⟨_,rfl⟩;rw[hn9]at HX;rw[show(E.X.Z.filter (eC H8)).length=n9 from hn9]at HD;refine Z_5 ?_;rw[show decide ((0:Int)<(H8.length:Int))=true from aB (by omega)];refine Z_6 ?_;refine jm (cu rfl rfl) rfl (dW (caP E.bc E.room E.X Ap cp H8) rfl (fun _ _=>rfl) Zi (fun w hi hin=>HD w hin)) rfl ?_;rintro _ _ ⟨_,⟨rfl,X',rfl,hX',hXZ⟩,rfl⟩;have hX2:=HX X' hXZ;refine Z_4 ?_;refine ZW ?_ ?_<;>intro hc0
 ·have hd:decide (0<((n9:Nat):Int))=true:=hc0
  rw[hd,ac]at hX2;refine Z_2 ?_;refine ZcL (enF be (E.IA X')) (fun w hi hin=>zd be (E.IA X') hX'.sm hE.rk (fun y hy=>(hE.rs y hy).1) w hin) ?_;rintro _ _ ⟨_,rfl,rfl⟩;refine Zn (bP (enP be ((E.IA X').IE (kT X'.Z E.RZ)) Ap cp H8) Zj ?_);refine fE (cs':=enP be ((E.IA X').IE (kT X'.Z E.RZ)) Ap cp H8) (.inr rfl) (aK _) rfl ?_;exact⟨_,rfl,hE.Jm H8 (by rw[hX2,nz _ hp]) hX' (fun y hy=>(List.mem_filter.1 hy).1),by rw[hX2,nz _ hp]⟩
 have hd:decide (0<((n9:Nat):Int))=false:=hc0
 rw[hd,aa]at hX2;refine Zc (bP (enP be (E.IA X') Ap cp H8) Zj ?_);refine fE (cs':=enP be (E.IA X') Ap cp H8) (.inr rfl) (aK _) rfl ?_;exact⟨_,rfl,hE.Jm H8 (by rw[hX2,nz _ hp]) hX' (fun y hy=>hy),by rw[hX2,nz _ hp]⟩
end Go.Proofs.YtakodpimdalajaaGreatDoor
namespace Go.Ink
open Go.RowKit
theorem rd_drop{w:World}{A:Option Addr}{c:Nat}{xs:List Int}(h:Rd w .u8 A xs.length c xs){k:Nat}(hk:k≤xs.length):Rd w .u8 (if c=k then A else A.map (·.add (k*1))) (xs.length - k) (c - k) (xs.drop k):=by
 have h5:=RdV.cut h (lo:=k) (hi:=xs.length) hk (aS _);have e:(ints .u8 xs).take xs.length=ints .u8 xs:=List.take_of_length_le (by simp[ints]);rw[Nat.mul_one]at h5;simp only[Nat.mul_one]at h5⊢;rw[e]at h5;have e2:(ints .u8 xs).drop k=ints .u8 (xs.drop k):=by simp[ints]
 rw[e2]at h5;exact h5
theorem Gc(l:List (Int×Int))(op nn:Int):l.flatMap Bh++[.int .i64 op,.int .u32 nn]=(l++[(op,nn)]).flatMap Bh:=by simp
theorem two1(a b:Int):∀u∈([.int .i64 a,.int .u32 b]:List Value),u.oneCell'=true:=fun u h=>by
 simp only[aL,bh,or_false]at h;rcases h with rfl|rfl<;>rfl
end Go.Ink
namespace Go.Proofs.YtakodpimdalajaaGreatDoor
open Go.RowKit Go.Ink Go.Proofs.Tryz
attribute [local irreducible] OpY bU
theorem DQ(A:Option Addr)(c:Nat)(b:List Int)(hb:u8s b)(hbl:b.length≤1000)(w:World)(h:Rd w .u8 A b.length c b):
  Ctr prog 127 [.slice A b.length c] w [] (fun v cs=>∃A1 c1,∃x:RS,x.r=⟨b.take (cK b 8 0).2.1,(cK b 8 0).2.2⟩∧v= .tuple #[.slice A1 (cK b 8 0).1.length c1,.agg x.cells.toArray]∧cs=[slv 24 2 A1 (cK b 8 0).1.length c1 ((cK b 8 0).1.flatMap Bh),rsC x]):=by
 obtain⟨R,hR⟩:=Zgn (cK b 8 0);rw[hR];have hR0:(([]:List (Int×Int))++(cK b 8 0).1,(cK b 8 0).2)=R:=hR;have hcap:=h.cap;refine bL func127 rfl ntmps127 rfl (Inv.start w) ?_;refine Z_3 ?_;refine ZN fun b3=>?_
 refine Z_9 ?_;refine ZN fun b5=>?_;refine Z_4 ?_;refine dC 24 2 ?_;refine Z_3 ?_;refine cS (fun q:(List (Int×Int)×Nat×Bool)×Option Addr×Nat=>[(0,.slice A b.length c),(3,.pointer (some ⟨b3,0,none⟩)),(4,.slice q.2.1 q.1.1.length q.2.2),(5,.pointer (some ⟨b5,0,none⟩)),(6,.int .i64 (q.1.2.1:Int))]) (fun q=>[row b3 [.slice none 0 0,.bool false] 105,row b5 [.slice none 0 0,.bool q.1.2.2] 105,slv 24 2 q.2.1 q.1.1.length q.2.2 (q.1.1.flatMap Bh)]) (fun q=>q.1=R∧q.1.2.1≤b.length) ?_ ?_
 ·refine Zx ?_;refine cG (fun q:(List (Int×Int)×Nat×Bool)×Option Addr×Nat=>[(0,.slice A b.length c),(3,.pointer (some ⟨b3,0,none⟩)),(4,.slice q.2.1 q.1.1.length q.2.2),(5,.pointer (some ⟨b5,0,none⟩)),(6,.int .i64 (q.1.2.1:Int))]) (fun q=>[row b3 [.slice none 0 0,.bool false] 105,row b5 [.slice none 0 0,.bool q.1.2.2] 105,slv 24 2 q.2.1 q.1.1.length q.2.2 (q.1.1.flatMap Bh)]) (fun q=>q.1.1.length≤8∧q.1.2.1≤b.length∧(q.1.2.2=true→q.1=R)∧(q.1.2.2=false→(q.1.1++(cK b (8 - q.1.1.length) q.1.2.1).1,(cK b (8 - q.1.1.length) q.1.2.1).2)=R)) (fun q=>8 - q.1.1.length) (⟨([],0,false),none,0⟩) ?_ ?_ ?_ ?_
  ·exact⟨ax _,ax _,fun e=>(by cases e),fun _=>hR0⟩
  ·exact Zwk
  ·exact Zu
  rintro⟨⟨l,sz,en⟩,A1,c1⟩ ⟨hl,hsz,hT,hF⟩;dsimp only at hl hsz hT hF⊢;have hb5:(b.drop sz).length=b.length - sz:=bn;refine jT ?_;refine ZW ?_ ?_<;>intro hc4
  ·have hc4':(decide ((l.length:Int)<8)&& !en)=true:=hc4;simp only[az,ap,Bool.not_eq_true']at hc4';obtain⟨hl8,rfl⟩:=hc4';have hF:=hF rfl;obtain⟨k,hk⟩:∃k,8 - l.length=k+1:=⟨8 - l.length - 1,by omega⟩;rw[hk]at hF;have HD:=fun A c w h=>wJ A c (b.drop sz) (fun x hx=>hb x (List.mem_of_mem_drop hx)) w h
   rw[hb5]at HD;have hS:=Aj hF;have hN:=fun i z=>Ct (z:=z) (i:=i) hF
   have hE:=fun i z=>Cv (z:=z) (i:=i) hF
   have hO:=fun i z=>Fu (z:=z) (i:=i) hF
   have hRg:=fun(op nn:Int) (z:Nat)=>lY (b:=b.drop sz) (fun x hx=>hb x (List.mem_of_mem_drop hx)) (op:=op) (nn:=nn) (z:=z)
   obtain⟨o,ho⟩:=Zgn (dU (b.drop sz));rw[ho]at HD hS hN hE hO hRg;refine Z_7 ?_;refine Zy (tR rfl Zrf (Zv rfl) (.inr ⟨_,_,rfl,(Zv rfl)⟩) (.inl ⟨rfl,rfl⟩) (by omega) (by omega)) ?_;refine ZS (fun w hi=>HD _ _ w (rd_drop (h.Iy hi) hsz)) ?_;rintro _ _ ⟨_,⟨⟨y,rfl,hy⟩,rfl⟩,rfl⟩;refine Z_4 ?_;refine ZN fun b7=>?_
   refine ZM ?_;refine Z_6 ?_;rcases o with _|⟨⟨op,nn⟩,z⟩
   ·have hy0:(y==0)=false:=hy;have hq:=hS rfl;have hy1:(y !=0)=true:=(by rw[bne,hy0];rfl);refine Z_3 ?_;rw[hy1];refine ZA ?_;refine dk (cD rfl rfl) rfl rfl ?_;refine dk (cD rfl rfl) rfl rfl ?_;refine dk (cD rfl rfl) rfl rfl ?_;refine dk (cD rfl rfl) rfl rfl ?_;refine Zy (y_or (q:=false) (Zv rfl) ⟨_,rfl,fun _ e=>absurd e (by decide)⟩) ?_;refine Z_2 ?_;refine cn rfl (rfl) ?_;refine Z_5 ?_;refine cq ((⟨(l,sz,false),A1,c1⟩:(List (Int×Int)×Nat×Bool)×Option Addr×Nat)) ?_ ?_ ?_
    ·exact⟨hq,hsz⟩
    ·exact Zwk
    exact Zj
   have hy0:(y==0)=true:=hy;obtain rfl:y=0:=(by simpa using hy0);have hN:=hN (op,nn) z rfl;have hE:=hE (op,nn) z rfl;have hO:=hO (op,nn) z rfl;obtain⟨hnn,hz1,hz5,hzl⟩:=hRg op nn z rfl;dsimp only at hN hE hO;refine Z_6 ?_;refine eH (cD rfl rfl) (.cons (dQ rfl) .nil) (fun _ _=>rfl) (fun hg w hi=>ww op w) rfl ?_;refine Z_4 ?_;refine ZW ?_ ?_<;>intro hc6
   ·have hp:dA op=false:=(by have h9:(false|| !dA op)=true:=hc6;simpa using h9);have hq:=hN hp;refine Z_5 ?_;refine cq ((⟨(l,sz,false),A1,c1⟩:(List (Int×Int)×Nat×Bool)×Option Addr×Nat)) ?_ ?_ ?_
    ·exact⟨hq,hsz⟩
    ·exact Zwk
    exact Zj
   have hp:dA op=true:=(by have h9:(false|| !dA op)=false:=hc6;simpa using h9);refine Z_6 ?_;refine dJ (dh rfl rfl Zrf Zrf rfl rfl rfl) rfl ?_;rintro _ _ ⟨b36,rfl,rfl⟩;refine dJ (cW (n:=l.length) (e:=24) (sz:=2) (bytes:=16) rfl rfl Za rfl rfl (fun w hi=>hi.rd (show Has _ (slv 24 2 (some ⟨b36,0,none⟩) 1 1 [.int .i64 op,.int .u32 nn])from Zh)) (two1 op nn) (by simp only[maxLen];omega) (by omega)) rfl ?_;rintro _ _ ⟨A2,c2,rfl,rfl⟩;rw[Gc,show l.length+1=(l++[(op,nn)]).length by simp];refine Z_7 ?_;refine Zy (cy (Zv rfl) (Zv rfl) (show _=((sz+z:Nat):Int)from by show IntKind.i64.wrap ((sz:Int)+(z:Int))=_;rw[bI];omega)) ?_;refine Z_6 ?_;refine ZSe (fun w hi=>uS op w) ?_;refine Z_1 ?_;refine ZL ?_;refine Z_2 ?_;refine cq ((⟨(l++[(op,nn)],sz+z,gl op),A2,c2⟩:(List (Int×Int)×Nat×Bool)×Option Addr×Nat)) ?_ ?_ ?_
   ·exact⟨⟨(by simp;omega),(by dsimp only;omega),(fun e=>by dsimp only at e⊢;rw[e];exact hE hp e),(fun e=>by dsimp only;rw[ae,show 8 - (l.length+[(op,nn)].length)=k by simp;omega];exact hO hp e)⟩,(by simp;omega)⟩
   ·exact Zwk
   exact Zj
  have hq:(l,sz,en)=R:=(by cases en with|true=>exact hT rfl|false=>(have h8:¬((l.length:Int)<8):=(by have h9:(decide ((l.length:Int)<8)&& !false)=false:=hc4;rw[Bool.not_false,Bool.and_true]at h9;exact of_decide_eq_false h9);have hF:=hF rfl;rw[show 8 - l.length=0 by omega]at hF;exact Ak hF));refine Z_4 ?_;refine cq ((⟨(l,sz,en),A1,c1⟩:(List (Int×Int)×Nat×Bool)×Option Addr×Nat)) ?_ ?_ ?_
  ·exact⟨hq,hsz⟩
  ·exact Zwk
  exact Zj
 rintro⟨⟨l,sz,en⟩,A1,c1⟩ ⟨rfl,hsz⟩;dsimp only at hsz⊢;have htl:(b.take sz).length=sz:=(by rw[aF];omega);refine Z_4 ?_;refine Zy (gZ sz rfl Zrf (Zv rfl) (Zv rfl) (fun _=>by first|rfl|omega) (fun _=>by omega)) ?_;refine ZS (fun w hi=>Ei A sz c (b.take sz) w (by have h9:=xB (h.Iy hi) sz;rw[htl]at h9;exact h9) (by omega)) ?_;rintro _ _ ⟨_,⟨A9,c9,rfl,rfl⟩,rfl⟩;refine Z_1 ?_;refine ZL ?_;refine Z_3 ?_;refine bX ⟨fun j=>List.elem j [3],[]⟩ Zk ?_;refine ZE 0 ?_;refine ZI 1 ?_;refine ZE 2 ?_;refine cw 3 Zk ?_;refine ZR ?_;refine bN Zk ?_;refine Z_2 ?_;refine bP (row b3 [.slice A9 sz c9,.bool en] 105::[slv 24 2 A1 l.length c1 (l.flatMap Bh),sl .u8 5 A9 sz c9 (b.take sz)]) Zj ?_;refine mR (cs':=[slv 24 2 A1 l.length c1 (l.flatMap Bh),sl .u8 5 A9 sz c9 (b.take sz)]) (.inl rfl) (List.Sublist.cons _ (aK _)) rfl rfl rfl Zh Zrf Zrf ?_;exact⟨A1,c1,⟨⟨b.take sz,en⟩,A9,c9⟩,rfl,by show _=Value.tuple #[_,.agg (RS.cells ⟨⟨b.take sz,en⟩,A9,c9⟩).toArray];unfold RS.cells;dsimp only;rw[htl],by unfold rsC;dsimp only;rw[htl]⟩
end Go.Proofs.YtakodpimdalajaaGreatDoor
