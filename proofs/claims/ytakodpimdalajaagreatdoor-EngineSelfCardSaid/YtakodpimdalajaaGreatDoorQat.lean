/- Lemmas. -/
import Derived.Test.YtakodpimdalajaaGreatDoorQaa
import Derived.Test.YtakodpimdalajaaGreatDoorQab
import Derived.Test.YtakodpimdalajaaGreatDoorQaq
import Derived.Test.YtakodpimdalajaaGreatDoorQar
import Derived.Test.YtakodpimdalajaaGreatDoorQas
set_option linter.unusedSimpArgs false
set_option linter.unusedVariables false
set_option maxRecDepth 100000
set_option maxHeartbeats 4000000
namespace Go.Ink
open Go.RowKit
theorem run_v(RZ:List (Ky×RS))(k:Ky):fU (rnV RZ) k (.agg #[.slice none 0 0,.bool false])=(fU RZ k RS.zero).v:=ui RS.v RZ k RS.zero
theorem run_r(RZ:List (Ky×RS))(k:Ky):fU (rnM RZ) k Rn.zero=(fU RZ k RS.zero).r:=ui RS.r RZ k RS.zero
theorem rnM_put(RZ:List (Ky×RS))(k:Ky)(x:RS):rnM (dD RZ k x)=dD (rnM RZ) k x.r:=(yE RS.r RZ k x).symm
theorem rnV_put(RZ:List (Ky×RS))(k:Ky)(x:RS):dD (rnV RZ) k (.agg x.cells.toArray)=rnV (dD RZ k x):=yE RS.v RZ k x
theorem B8(RZ:List (Ky×RS))(k:Ky):fU RZ k RS.zero=RS.zero∨∃y,y∈RZ∧y.2=fU RZ k RS.zero:=by
 unfold fU;cases hf:RZ.find? (fun x=>x.1==k)with
 |none=>exact Or.inl rfl
 |some y=>exact Or.inr ⟨y,List.mem_of_find?_eq_some hf,rfl⟩
theorem nI{β:Type}{L:List (Ky×β)}{k:Ky}{v:β}{y:Ky×β}(h:y∈dD L k v):y=(k,v)∨y∈L:=by
 unfold dD at h;cases hp:cT (fun x:Ky×β=>x.1) k L with
 |some j=>rw[hp]at h;exact(List.mem_or_eq_of_mem_set h).symm
 |none=>
  rw[hp]at h;rcases aV.1 h with h|h
  ·exact Or.inr h
  exact Or.inl (by simpa using h)
theorem CX{RZ:List (Ky×RS)}(k:Ky)(x:RS)(h:(RZ.map (·.1)).Nodup):((dD RZ k x).map (·.1)).Nodup:=by
 rw[uf];exact oP h
theorem y8(Z:List BA)(k:Ky):(Z.map BA.b).find? (fun t=>t.key==k)=(Z.find? fun x=>x.key==k).map BA.b:=by
 rw[List.find?_map]
 rfl
theorem DJ{E:EnX}{k:Ky}{b:List Int}{y:BA}(h:(E.X.Z.find? fun x=>x.key==k)=some y)(hp:(fU E.RZ k RS.zero).r.bytes.isPrefixOf b=true):km E.eng k b=(some (y.b,(fU E.RZ k RS.zero).r),E.eng):=by
 unfold km wg;rw[show E.eng.l=E.X.Z.map BA.b from rfl,y8,h,show E.eng.runs=rnM E.RZ from rfl,run_r];dsimp only[Option.map_some];rw[hp]
 rfl
theorem Gr{E:EnX}{k:Ky}{b:List Int}{o:Option BA}(ho:(E.X.Z.find? fun x=>x.key==k)=o)(hp:(o.isSome&&(fU E.RZ k RS.zero).r.bytes.isPrefixOf b)=false):wg E.eng k b=none:=by
 unfold wg;rw[show E.eng.l=E.X.Z.map BA.b from rfl,y8,ho,show E.eng.runs=rnM E.RZ from rfl,run_r];cases o with
 |none=>rfl
 |some y=>
  dsimp only[Option.map_some];rw[show(fU E.RZ k RS.zero).r.bytes.isPrefixOf b=false from hp]
  rfl
theorem tv{E:Eng}{k:Ky}{b:List Int}(h:wg E k b=none)(hm:qY k b=none):km E k b=(none,E):=by
 unfold km;rw[h,hm]
theorem DI{E:Eng}{k:Ky}{b:List Int}{t:Blk}{r:Rn}(h:wg E k b=none)(hm:qY k b=some (t,r)):km E k b=(some (t,r),addE E t r):=by
 unfold km;rw[h,hm]
theorem CH{k:Ky}{b:List Int}{l:List (Int×Int)}{sz:Nat}{en:Bool}(hR:cK b 8 0=(l,sz,en))(h:fo k.1 l=none):qY k b=none:=by
 unfold qY;rw[hR,h]
theorem FS{k:Ky}{b:List Int}{l:List (Int×Int)}{sz:Nat}{en:Bool}{p:Pg}(hR:cK b 8 0=(l,sz,en))(h:fo k.1 l=some p)(hr:p.In=false):qY k b=none:=by
 unfold qY;rw[hR,h];dsimp only;rw[hr]
 rfl
theorem FR{k:Ky}{b:List Int}{l:List (Int×Int)}{sz:Nat}{en:Bool}{p:Pg}(hR:cK b 8 0=(l,sz,en))(h:fo k.1 l=some p)(hr:p.In=true):qY k b=some (⟨k,gm p (dN p),(l.length:Int)⟩,⟨b.take sz,en⟩):=by
 unfold qY;rw[hR,h];dsimp only;rw[hr]
 rfl
theorem GH(p:Pg)(pl:Pl):gm p pl≠[]:=by
 unfold gm;simp
theorem Ep(E:EnX)(X':CaX)(t:Blk)(x:RS)(hX:X'.Z.map BA.b=qR Blk.key E.room (E.X.Z.map BA.b) t):
  (bif decide ((X'.Z.length:Int)<((dD E.RZ t.key x).length:Int))then((E.IA X').IE (kT X'.Z (dD E.RZ t.key x))).eng else((E.IA X').IE (dD E.RZ t.key x)).eng)=addE E.eng t x.r:=by
 unfold addE;dsimp only;rw[show E.eng.room=E.room from rfl,show E.eng.l=E.X.Z.map BA.b from rfl,show E.eng.runs=rnM E.RZ from rfl,←hX,←rnM_put,List.length_map];have e:(rnM (dD E.RZ t.key x)).length=(dD E.RZ t.key x).length:=List.length_map _;rw[e];cases hd:decide ((X'.Z.length:Int)<((dD E.RZ t.key x).length:Int))with
 |true=>
  simp only[ap]at hd;rw[aB (show X'.Z.length<(dD E.RZ t.key x).length by omega),ac,ac,we]
  rfl
 |false=>
  simp only[aj]at hd;rw[aD (show¬X'.Z.length<(dD E.RZ t.key x).length by omega),aa,aa]
  rfl
end Go.Ink
namespace Go.Proofs.YtakodpimdalajaaGreatDoor
open Go.RowKit Go.Ink Go.Proofs.Tryz
attribute [local irreducible] OpY bU
theorem run_rd{w:World}{RZ:List (Ky×RS)}{k:Ky}(h:(dq (rnC RZ)).ok w):Rd w .u8 (fU RZ k RS.zero).A (fU RZ k RS.zero).r.bytes.length (fU RZ k RS.zero).c (fU RZ k RS.zero).r.bytes:=by
 rcases B8 RZ k with e|⟨y,hy,e⟩
 ·rw[e];exact Cg w .u8
 rw[←e];exact dm (qg h (rsC y.2) (aY.2 ⟨y,hy,rfl⟩))
def mI(RZ:List (Ky×RS))(k:Ky):List bJ:=match cT (·.1) k RZ with|some j=>(rnC RZ).eraseIdx j|none=>rnC RZ
theorem oM(RZ:List (Ky×RS))(k:Ky):(mI RZ k).Sublist (rnC RZ):=by
 unfold mI;cases cT (fun x:Ky×RS=>x.1) k RZ with
 |some j=>exact List.eraseIdx_sublist _ _
 |none=>exact aK _
theorem rnPut(RZ:List (Ky×RS))(k:Ky)(x:RS):(rnC (dD RZ k x)).Perm (rsC x::mI RZ k):=by
 unfold mI dD;cases hp:cT (fun x:Ky×RS=>x.1) k RZ with
 |some j=>
  obtain⟨hj, -⟩:=fm hp;dsimp only;unfold rnC;rw[List.map_set];exact qd (by simpa using hj)
 |none=>
  dsimp only;unfold rnC;rw[List.map_append];exact List.perm_append_singleton _ _
theorem Eb(bc:Nat)(room:Int)(X:CaX)(hS:BaSm X.Z)(k:Ky)(w:World)(hi:Inv w (bK (caF bc room X)) (caF bc room X) w):
  Ctr prog 125 [.pointer (some ⟨bc,0,none⟩),.agg (cA k).toArray] w (caF bc room X) (fun v cs=>∃y:BA,v= .tuple #[.agg y.cells.toArray,.bool (X.Z.find? fun x=>x.key==k).isSome]∧cs=caF bc room X++[baC y]∧∀x,(X.Z.find? fun x=>x.key==k)=some x→y.b=x.b):=by
 have h:=zn bc room X hS k w hi;obtain⟨o,ho⟩:=Zgn ((X.Z.find? fun x=>x.key==k));rw[ho]at h⊢;refine h.up fun v cs w' hk hi'=>?_
 cases o with
 |none=>
  obtain⟨rfl,rfl⟩:=hk;exact⟨_,⟨⟨⟨(0,0),[],0⟩,none,0⟩,rfl,rfl,fun x e=>nomatch e⟩,hi'.more (uP w' [] 5 1)⟩
 |some x=>
  obtain⟨A',c',rfl,rfl⟩:=hk;exact⟨_,⟨⟨x.b,A',c'⟩,rfl,rfl,fun x e=>by cases e;rfl⟩,hi'.perm (List.perm_append_singleton _ _).symm⟩
def FindR(be:Nat)(o:Option (Blk×Rn))(E':EnX)(v:Value)(cs:List bJ):Prop:=∃(y:BA) (x:RS),v= .tuple #[.agg y.cells.toArray,.agg x.cells.toArray,.bool o.isSome]∧cs=baC y::enF be E'∧∀t r,o=some (t,r)→y.b=t∧x.r=r
theorem Gv(be:Nat)(E:EnX)(hE:mH E)(k:Ky)(hk:ki k)(A:Option Addr)(c:Nat)(b:List Int)(hb:u8s b)(hbl:b.length≤1000)(w:World)(hi:Inv w (bK (enF be E)) (enF be E) w)(h:∀w',dR (bK (enF be E)) w w'→Rd w' .u8 A b.length c b):
  Ctr prog 95 [.pointer (some ⟨be,0,none⟩),.agg (cA k).toArray,.slice A b.length c] w (enF be E) (fun v cs=>∃E',mH E'∧E'.eng=(km E.eng k b).2∧FindR be (km E.eng k b).1 E' v cs):=by
 have HF:=Eb E.bc E.room E.X hE.ca.sm k;have FK:=fun y h1 h2=>DJ (E:=E) (k:=k) (b:=b) (y:=y) h1 h2
 obtain⟨o,ho⟩:=Zgn ((E.X.Z.find? fun x=>x.key==k));have FN:=Gr (E:=E) (k:=k) (b:=b) ho;rw[ho]at HF FK;have HG:=oh hE.eg (k:=k) hb;have hxr:u8s (fU E.RZ k RS.zero).r.bytes:=by
  rcases B8 E.RZ k with e|⟨y,hy,e⟩
  ·rw[e];exact fun x hx=>nomatch hx
  rw[←e];exact(hE.rs y hy).2.2
 have hxrd:=fun(w:World) h=>run_rd (w:=w) (RZ:=E.RZ) (k:=k) h
 obtain⟨x,hx⟩:=Zgn (fU E.RZ k RS.zero);rw[hx]at FK FN hxr hxrd;have HP:=DQ A c b hb hbl;obtain⟨⟨l,sz,en⟩,hR⟩:=Zgn (cK b 8 0);have hu:∀i,i∈l→u32 i.2:=by
  have:=(kQ b 8 0).1.u32 hb;rw[hR]at this;exact this
 rw[hR]at HP;dsimp only at HP;have HL:=fun A1 c1 w h=>Di k.1 A1 c1 l hu w h
 obtain⟨lo,hlo⟩:=Zgn (fo k.1 l);rw[hlo]at HL;have hcap:=(h w (dR.refl _ _)).cap;refine bL func95 rfl ntmps95 rfl hi ?_;refine Z_2 ?_;refine ZO fun b4=>?_;refine ZN fun b6=>?_
 refine ZN fun b7=>?_
 refine Z_3 ?_;refine cS (fun q:BA×Nat=>[(0,.pointer (some ⟨be,0,none⟩)),(2,.slice A b.length c),(4,.pointer (some ⟨b4,0,none⟩)),(6,.pointer (some ⟨b6,0,none⟩)),(7,.pointer (some ⟨b7,0,none⟩)),(9,.pointer (some ⟨q.2,0,none⟩)),(10,.bool o.isSome)]) (fun q=>enF be E++[baC q.1,row b4 (cA k) 98,row b6 (BA.cells ⟨⟨(0,0),[],0⟩,none,0⟩) 186,row b7 (RS.cells RS.zero) 105,row q.2 (BA.cells q.1) 186]) (fun q=>∀x,o=some x→q.1.b=x.b) ?_ ?_
 ·refine fK ⟨fun j=>List.elem j [5,10],[]⟩ [(0,0),(1,0),(2,0),(3,1),(4,1),(5,3),(6,3),(7,3),(8,3),(9,3),(10,3),(11,3)] Zk Zk ?_;refine cm rfl (da Zv0) rfl ?_;refine cm rfl (kq Zv0) rfl ?_;refine cm rfl (dr 0 rfl Zv0 Zf) rfl ?_;refine iI rfl (bO Zrf Zv0) (bS Zh rfl) rfl ?_;refine mc rfl Zh Zrf Zrf (Zv rfl) rfl ?_;refine yg [(5,[(6,0),(7,0),(8,0),(9,2),(10,2),(11,0)]),(9,[(5,2),(6,0),(7,0),(8,0),(10,2),(11,0)])] Zk (.cons ?_ (.cons ?_ .nil))
  ·refine ZcS (caF E.bc E.room E.X) (fun w hi hin=>HF w hin) ?_;rintro _ _ ⟨_,⟨y,rfl,rfl,hy⟩,rfl⟩;refine cm rfl (da Zv0) rfl ?_;refine cm rfl (cQ Zv0 (.zero _ _)) rfl ?_;refine cm rfl (cQ Zv0 (.succ _ (.zero _ _))) rfl ?_;refine fb rfl ?_;refine eB rfl rfl (dO Zrf rfl) ZJ rfl ?_;rintro _ _ ⟨b9,rfl,rfl⟩;refine fb rfl ?_;refine dI rfl rfl (bY Zrf rfl rfl (fJ y) Za (by exact rfl)) ZJ ?_;rintro _ _ ⟨rfl,rfl⟩;refine cm rfl (gx Zv0) rfl ?_;refine dB ?_;refine cq ((y,b9)) ?_ ?_ ?_
   ·exact hy
   ·exact Zwk
   exact Zj
  refine eB rfl rfl (dO Zrf rfl) ZJ rfl ?_;rintro _ _ ⟨b9,rfl,rfl⟩;refine fb rfl ?_;refine ZcS (caF E.bc E.room E.X) (fun w hi hin=>HF w hin) ?_;rintro _ _ ⟨_,⟨y,rfl,rfl,hy⟩,rfl⟩;refine cm rfl (da Zv0) rfl ?_;refine cm rfl (cQ Zv0 (.zero _ _)) rfl ?_;refine cm rfl (cQ Zv0 (.succ _ (.zero _ _))) rfl ?_;refine fb rfl ?_;refine dI rfl rfl (bY Zrf rfl rfl (fJ y) Za (by exact rfl)) ZJ ?_;rintro _ _ ⟨rfl,rfl⟩;refine cm rfl (gx Zv0) rfl ?_;refine dB ?_;refine cq ((y,b9)) ?_ ?_ ?_
  ·exact hy
  ·exact Zwk
  exact Zj
 rintro⟨y,b9⟩ hy;dsimp only at hy⊢;refine Zs ?_;refine cS (fun q:Nat=>[(0,.pointer (some ⟨be,0,none⟩)),(2,.slice A b.length c),(4,.pointer (some ⟨b4,0,none⟩)),(6,.pointer (some ⟨b6,0,none⟩)),(7,.pointer (some ⟨b7,0,none⟩)),(9,.pointer (some ⟨b9,0,none⟩)),(10,.bool o.isSome),(11,.pointer (some ⟨q,0,none⟩))]) (fun q=>enF be E++[baC y,row b4 (cA k) 98,row b6 (BA.cells ⟨⟨(0,0),[],0⟩,none,0⟩) 186,row b7 (RS.cells RS.zero) 105,row b9 (BA.cells y) 186,row q (RS.cells x) 105]) (fun _=>True) ?_ ?_
 ·refine fK ⟨fun j=>List.elem j [7],[]⟩ [(0,0),(1,0),(2,0),(3,1),(4,1),(5,3),(6,3),(7,3)] Zk Zk ?_;refine cm rfl (da Zv0) rfl ?_;refine cm rfl (kq Zv0) rfl ?_;refine cm rfl (dr 1 rfl Zv0 Zf) rfl ?_;refine iI rfl (bO Zrf Zv0) (bS Zh rfl) rfl ?_;refine mc rfl Zh Zrf Zrf (Zv rfl) rfl ?_;refine yg [(5,[(6,2),(7,2)]),(6,[(5,2),(7,2)])] Zk (.cons ?_ (.cons ?_ .nil))
  ·refine Bq rfl (xd (zv:= .agg #[.slice none 0 0,.bool false]) (Zv rfl) (Zv rfl) hk rfl wc Zrf) (fun w hi=>(show lh E.mr (rnV E.RZ) w from hi.get (show Has _ (mpc E.mr (rnV E.RZ))from Zh))) rfl ?_;refine fb rfl ?_;refine eB rfl rfl (dO Zrf rfl) ZJ rfl ?_;rintro _ _ ⟨b11,rfl,rfl⟩;refine fb rfl ?_;rw[run_v E.RZ k,hx];refine dI rfl rfl (bY Zrf rfl rfl (fT x) Za (by exact rfl)) ZJ ?_;rintro _ _ ⟨rfl,rfl⟩;refine dB ?_;refine cq (b11) ?_ ?_ ?_
   ·trivial
   ·exact Zwk
   exact Zj
  refine eB rfl rfl (dO Zrf rfl) ZJ rfl ?_;rintro _ _ ⟨b11,rfl,rfl⟩;refine fb rfl ?_;refine Bq rfl (xd (zv:= .agg #[.slice none 0 0,.bool false]) (Zv rfl) (Zv rfl) hk rfl wc Zrf) (fun w hi=>(show lh E.mr (rnV E.RZ) w from hi.get (show Has _ (mpc E.mr (rnV E.RZ))from Zh))) rfl ?_;refine fb rfl ?_;rw[run_v E.RZ k,hx];refine dI rfl rfl (bY Zrf rfl rfl (fT x) Za (by exact rfl)) ZJ ?_;rintro _ _ ⟨rfl,rfl⟩;refine dB ?_;refine cq (b11) ?_ ?_ ?_
  ·trivial
  ·exact Zwk
  exact Zj
 rintro b11 -;refine Z_7 ?_;refine eH (cu rfl rfl) (.cons (dQ rfl) (.cons (dQ rfl) .nil)) (fun _ _=>rfl) (fun hg w hi=>wu A x.A c x.c b x.r.bytes hb hxr w (h w hi.Iz) (hxrd w (hi.get (show Has _ (dq (rnC E.RZ))from Zh)))) rfl ?_;refine Z_3 ?_;refine ZW ?_ ?_<;>intro hc3
 ·have h9:(o.isSome&&x.r.bytes.isPrefixOf b)=true:=hc3;rw[az]at h9;obtain⟨y0,rfl⟩:=Option.isSome_iff_exists.1 h9.1;have hfk:=FK y0 rfl h9.2;have hyb:=hy y0 rfl;refine Zs (bX ⟨fun j=>List.elem j [2,3],[]⟩ Zk ?_);refine ZI 0 ?_;refine jY 1 2 Zk ?_ ?_
  ·refine jx rfl Zh Zrf Zrf (Zv rfl) rfl ?_;refine cw 2 Zk ?_;refine dz rfl rfl (bY Zrf rfl rfl (fJ y) Za (by exact rfl)) ZJ ?_;rintro _ _ ⟨rfl,rfl⟩;refine cw 3 Zk ?_;refine dz rfl rfl (bY Zrf rfl rfl (fT x) Za (by exact rfl)) ZJ ?_;rintro _ _ ⟨rfl,rfl⟩;refine ZE 4 ?_;refine bN Zk ?_;refine Z_3 ?_;refine bP (row b6 (BA.cells y) 186::row b7 (RS.cells x) 105::baC y::enF be E) Zj ?_;refine ky (cs':=baC y::enF be E) (.inl rfl) (List.Sublist.cons _ (List.Sublist.cons _ (aK _))) rfl rfl rfl rfl Zh Zh Zrf Zrf Zrf Zrf ?_;exact⟨E,hE,by rw[hfk],by rw[hfk];exact⟨y,x,rfl,rfl,fun t r e=>by cases e;exact⟨hyb,rfl⟩⟩⟩
  refine dz rfl rfl (bY Zrf rfl rfl (fJ y) Za (by exact rfl)) ZJ ?_;rintro _ _ ⟨rfl,rfl⟩;refine ZI 1 ?_;refine cw 3 Zk ?_;refine dz rfl rfl (bY Zrf rfl rfl (fT x) Za (by exact rfl)) ZJ ?_;rintro _ _ ⟨rfl,rfl⟩;refine ZE 4 ?_;refine bN Zk ?_;refine Z_3 ?_;refine bP (row b6 (BA.cells y) 186::row b7 (RS.cells x) 105::baC y::enF be E) Zj ?_;refine ky (cs':=baC y::enF be E) (.inl rfl) (List.Sublist.cons _ (List.Sublist.cons _ (aK _))) rfl rfl rfl rfl Zh Zh Zrf Zrf Zrf Zrf ?_;exact⟨E,hE,by rw[hfk],by rw[hfk];exact⟨y,x,rfl,rfl,fun t r e=>by cases e;exact⟨hyb,rfl⟩⟩⟩
 have hnk:=FN hc3;refine Z_5 ?_;refine ZS (fun w hi=>HP w (h w hi.Iz)) ?_;rintro _ _ ⟨_,⟨A1,c1,x2,hx2,rfl,rfl⟩,rfl⟩;refine Z_3 ?_;refine ZN fun b13=>?_
 refine ZA ?_;refine dy (bY Zrf rfl rfl (fT x2) Za (by exact rfl)) ?_;rintro _ _ ⟨rfl,rfl⟩;refine Z_3 ?_;rcases lo with _|p
 ·have hfn:=tv hnk (CH hR hlo);refine Z_4 ?_;refine ZSe (fun w hi=>HL A1 c1 w (hi.rd (show Has _ (slv 24 2 A1 l.length c1 (l.flatMap Bh))from Zh))) ?_;refine Z_3 ?_;refine ZN fun b14=>?_
  refine ZM ?_;refine eJ ?_;refine cn rfl (rfl) ?_;refine Zs (bX ⟨fun j=>List.elem j [2,3],[]⟩ Zk ?_);refine ZI 0 ?_;refine jY 1 2 Zk ?_ ?_
  ·refine jx rfl Zh Zrf Zrf (Zv rfl) rfl ?_;refine cw 2 Zk ?_;refine dz rfl rfl (bY Zrf rfl rfl (fJ y) Za (by exact rfl)) ZJ ?_;rintro _ _ ⟨rfl,rfl⟩;refine cw 3 Zk ?_;refine dz rfl rfl (bY Zrf rfl rfl (fT x2) Za (by exact rfl)) ZJ ?_;rintro _ _ ⟨rfl,rfl⟩;refine ZE 4 ?_;refine bN Zk ?_;refine Z_3 ?_;refine bP (row b6 (BA.cells y) 186::row b7 (RS.cells x2) 105::baC y::enF be E) Zj ?_;refine ky (cs':=baC y::enF be E) (.inl rfl) (List.Sublist.cons _ (List.Sublist.cons _ (aK _))) rfl rfl rfl rfl Zh Zh Zrf Zrf Zrf Zrf ?_;exact⟨E,hE,by rw[hfn],by rw[hfn];exact⟨y,x2,rfl,rfl,fun _ _ e=>nomatch e⟩⟩
  refine dz rfl rfl (bY Zrf rfl rfl (fJ y) Za (by exact rfl)) ZJ ?_;rintro _ _ ⟨rfl,rfl⟩;refine ZI 1 ?_;refine cw 3 Zk ?_;refine dz rfl rfl (bY Zrf rfl rfl (fT x2) Za (by exact rfl)) ZJ ?_;rintro _ _ ⟨rfl,rfl⟩;refine ZE 4 ?_;refine bN Zk ?_;refine Z_3 ?_;refine bP (row b6 (BA.cells y) 186::row b7 (RS.cells x2) 105::baC y::enF be E) Zj ?_;refine ky (cs':=baC y::enF be E) (.inl rfl) (List.Sublist.cons _ (List.Sublist.cons _ (aK _))) rfl rfl rfl rfl Zh Zh Zrf Zrf Zrf Zrf ?_;exact⟨E,hE,by rw[hfn],by rw[hfn];exact⟨y,x2,rfl,rfl,fun _ _ e=>nomatch e⟩⟩
 obtain⟨hfit,hcnt,hl1,hl8,hgo⟩:=v6 hu hlo;refine Z_4 ?_;refine ZS (fun w hi=>HL A1 c1 w (hi.rd (show Has _ (slv 24 2 A1 l.length c1 (l.flatMap Bh))from Zh))) ?_;rintro _ _ ⟨_,⟨Q,rfl,rfl⟩,rfl⟩;refine Z_3 ?_;refine ZN fun b14=>?_
 refine ZM ?_;refine eJ ?_;refine bV rfl (rfl) ?_;refine Z_3 ?_;rcases hrb:p.In with _|_
 ·have hfn:=tv hnk (FS hR hlo hrb);refine Z_2 ?_;refine ZSe (fun w hi=>DV p Q hfit hrb w ⟨hi.rd (show Has _ (slv 294 5 Q.Ac p.code.length Q.cc (p.code.flatMap II.cells))from Zh),hi.rd (show Has _ (sl .i64 3 Q.Ad p.Ij.length Q.cd p.Ij)from Zh),hi.rd (show Has _ (sl .i64 3 Q.Ar p.Ik.length Q.cr p.Ik)from Zh)⟩) ?_;refine iG ?_;refine cn rfl (rfl) ?_;refine Zs (bX ⟨fun j=>List.elem j [2,3],[]⟩ Zk ?_);refine ZI 0 ?_;refine jY 1 2 Zk ?_ ?_
  ·refine jx rfl Zh Zrf Zrf (Zv rfl) rfl ?_;refine cw 2 Zk ?_;refine dz rfl rfl (bY Zrf rfl rfl (fJ y) Za (by exact rfl)) ZJ ?_;rintro _ _ ⟨rfl,rfl⟩;refine cw 3 Zk ?_;refine dz rfl rfl (bY Zrf rfl rfl (fT x2) Za (by exact rfl)) ZJ ?_;rintro _ _ ⟨rfl,rfl⟩;refine ZE 4 ?_;refine bN Zk ?_;refine Z_3 ?_;refine bP (row b6 (BA.cells y) 186::row b7 (RS.cells x2) 105::baC y::enF be E) Zj ?_;refine ky (cs':=baC y::enF be E) (.inl rfl) (List.Sublist.cons _ (List.Sublist.cons _ (aK _))) rfl rfl rfl rfl Zh Zh Zrf Zrf Zrf Zrf ?_;exact⟨E,hE,by rw[hfn],by rw[hfn];exact⟨y,x2,rfl,rfl,fun _ _ e=>nomatch e⟩⟩
  refine dz rfl rfl (bY Zrf rfl rfl (fJ y) Za (by exact rfl)) ZJ ?_;rintro _ _ ⟨rfl,rfl⟩;refine ZI 1 ?_;refine cw 3 Zk ?_;refine dz rfl rfl (bY Zrf rfl rfl (fT x2) Za (by exact rfl)) ZJ ?_;rintro _ _ ⟨rfl,rfl⟩;refine ZE 4 ?_;refine bN Zk ?_;refine Z_3 ?_;refine bP (row b6 (BA.cells y) 186::row b7 (RS.cells x2) 105::baC y::enF be E) Zj ?_;refine ky (cs':=baC y::enF be E) (.inl rfl) (List.Sublist.cons _ (List.Sublist.cons _ (aK _))) rfl rfl rfl rfl Zh Zh Zrf Zrf Zrf Zrf ?_;exact⟨E,hE,by rw[hfn],by rw[hfn];exact⟨y,x2,rfl,rfl,fun _ _ e=>nomatch e⟩⟩
 have hfm:=DI hnk (FR hR hlo hrb);obtain⟨hgd,hCl⟩:=hgo hrb;have hCne:=GH p (dN p);have HE:=Gw p Q hfit hrb hgd;obtain⟨C,hC⟩:=Zgn (gm p (dN p));rw[hC]at hfm hgd hCl hCne HE;have hnew:ki k∧x2.r.bytes.length≤1000∧u8s x2.r.bytes:=(by rw[hx2];exact⟨hk,by show(b.take sz).length≤1000;rw[aF];omega,fun z hz=>hb z (List.mem_of_mem_take hz)⟩);refine Z_2 ?_;refine ZS (fun w hi=>HE w ⟨hi.rd (show Has _ (slv 294 5 Q.Ac p.code.length Q.cc (p.code.flatMap II.cells))from Zh),hi.rd (show Has _ (sl .i64 3 Q.Ad p.Ij.length Q.cd p.Ij)from Zh),hi.rd (show Has _ (sl .i64 3 Q.Ar p.Ik.length Q.cr p.Ik)from Zh)⟩) ?_;rintro _ _ ⟨_,⟨A3,c3,rfl,rfl⟩,rfl⟩;refine iG ?_;refine bV rfl (rfl) ?_;refine Z_9 ?_;refine dy (bY Zrf rfl rfl (fJ ⟨⟨k,C,(l.length:Int)⟩,A3,c3⟩) Za (by exact rfl)) ?_;rintro _ _ ⟨rfl,rfl⟩;refine Z_3 ?_;refine bX ⟨fun j=>List.elem j [5],[]⟩ Zk ?_;refine ZE 0 ?_;refine ZE 1 ?_;refine ZFe 2 0 ?_;refine ZG 3 ?_;refine ZI 4 ?_;refine cw 5 Zk ?_;refine ZcA (caF E.bc E.room E.X) (fun w hi hin=>cput_ok E.bc E.room E.X hE.ca ⟨⟨k,C,(l.length:Int)⟩,A3,c3⟩ ⟨hCl,hk⟩ (show(1:Int)≤(l.length:Int) by omega) hCne w hin (fun w' hk'=>dm (hi.IP Zi (show Has _ (sl .u8 5 A3 (cJ C).length c3 (cJ C))from Zh) hk'))) ?_;rintro _ _ ⟨_,⟨X',rfl,hX',hXZ⟩,rfl⟩;refine bN Zk ?_;refine Z_2 ?_;refine bX ⟨fun j=>List.elem j [6],[]⟩ Zk ?_;refine ZE 0 ?_;refine ZE 1 ?_;refine ZFe 2 1 ?_;refine ZG 3 ?_;refine ZI 4 ?_;refine ZI 5 ?_;refine cw 6 Zk ?_;refine dz rfl rfl (t_mput rfl rfl rfl hk rfl wc Za) ZJ ?_;rintro _ _ ⟨rfl,rfl⟩;rw[rnV_put E.RZ k x2];refine bN Zk ?_;refine Z_3 ?_;refine bX ⟨fun j=>List.elem j [9],[]⟩ Zk ?_;refine ZE 0 ?_;refine ZE 1 ?_;refine ZFe 2 1 ?_;refine ZE 5 ?_;refine ZE 6 ?_;refine ZFe 7 0 ?_;refine ZG 8 ?_;refine cw 3 Zk ?_;refine eK rfl (bO Zrf Zv0) (bS Zh rfl) rfl ?_;refine cw 4 Zk ?_;refine eK rfl (y_mlen (Zv rfl) rfl) (fun w hi=>(show lh E.mr (rnV (dD E.RZ k x2)) w from hi.get (show Has _ (mpc E.mr (rnV (dD E.RZ k x2)))from Zh))) rfl ?_;refine cw 9 Zk ?_;refine ZcA (caF E.bc E.room X') (fun w hi hin=>D9 E.bc E.room X' w hin) ?_;rintro _ _ ⟨_,⟨rfl,rfl⟩,rfl⟩;refine ZE 10 ?_;refine bN Zk ?_;refine Zt ?_;refine ZW ?_ ?_<;>intro hc15
 ·have hd:decide ((X'.Z.length:Int)<((dD E.RZ k x2).length:Int))=true:=(by have h9:=hc15;rw[show(rnV (dD E.RZ k x2)).length=(dD E.RZ k x2).length from List.length_map _]at h9;exact h9)
  have had:=Ep E X' ⟨k,C,(l.length:Int)⟩ x2 hXZ;dsimp only at had;rw[hd,ac,hx2]at had;refine Zr (sB (cin:=rnC E.RZ) (cin':=mI E.RZ k) Zd (oM E.RZ k) ?_);refine zD (cin:=mI E.RZ k) (c:=rsC x2) (cin':=rnC (dD E.RZ k x2)) Zd Zd (rnPut E.RZ k x2) ?_;refine ZA ?_;refine ZcL (enF be ((E.IA X').IE (dD E.RZ k x2))) (fun w hi hin=>zd be ((E.IA X').IE (dD E.RZ k x2)) hX'.sm (CX k x2 hE.rk) (fun y hy=>(nI hy).elim (fun e=>by rw[e];exact hk) (fun hy=>(hE.rs y hy).1)) w hin) ?_;rintro _ _ ⟨_,rfl,rfl⟩;refine Z_3 ?_;refine bX ⟨fun j=>List.elem j [2,3],[]⟩ Zk ?_;refine ZI 0 ?_;refine jY 1 2 Zk ?_ ?_
  ·refine jx rfl Zh Zrf Zrf (Zv rfl) rfl ?_;refine cw 2 Zk ?_;refine dz rfl rfl (bY Zrf rfl rfl (fJ ⟨⟨k,C,(l.length:Int)⟩,A3,c3⟩) Za (by exact rfl)) ZJ ?_;rintro _ _ ⟨rfl,rfl⟩;refine cw 3 Zk ?_;refine dz rfl rfl (bY Zrf rfl rfl (fT x2) Za (by exact rfl)) ZJ ?_;rintro _ _ ⟨rfl,rfl⟩;refine ZE 4 ?_;refine bN Zk ?_;refine Z_2 ?_;refine bP (row b6 (BA.cells ⟨⟨k,C,(l.length:Int)⟩,A3,c3⟩) 186::row b7 (RS.cells x2) 105::baC ⟨⟨k,C,(l.length:Int)⟩,A3,c3⟩::enF be ((E.IA X').IE (kT X'.Z (dD E.RZ k x2)))) Zj ?_;refine ky (cs':=baC ⟨⟨k,C,(l.length:Int)⟩,A3,c3⟩::enF be ((E.IA X').IE (kT X'.Z (dD E.RZ k x2)))) (.inl rfl) (List.Sublist.cons _ (List.Sublist.cons _ (aK _))) rfl rfl rfl rfl Zh Zh Zrf Zrf Zrf Zrf ?_;rw[hfm]at HG⊢;exact⟨(E.IA X').IE (kT X'.Z (dD E.RZ k x2)),⟨hX',by rw[had];exact HG.1,fun y hy=>(nI (List.mem_filter.1 hy).1).elim (fun e=>by rw[e];exact hnew) (fun hy=>hE.rs y hy),hE.last⟩,had,⟨⟨⟨k,C,(l.length:Int)⟩,A3,c3⟩,x2,rfl,rfl,fun t r e=>by cases e;exact⟨rfl,hx2⟩⟩⟩
  refine dz rfl rfl (bY Zrf rfl rfl (fJ ⟨⟨k,C,(l.length:Int)⟩,A3,c3⟩) Za (by exact rfl)) ZJ ?_;rintro _ _ ⟨rfl,rfl⟩;refine ZI 1 ?_;refine cw 3 Zk ?_;refine dz rfl rfl (bY Zrf rfl rfl (fT x2) Za (by exact rfl)) ZJ ?_;rintro _ _ ⟨rfl,rfl⟩;refine ZE 4 ?_;refine bN Zk ?_;refine Z_2 ?_;refine bP (row b6 (BA.cells ⟨⟨k,C,(l.length:Int)⟩,A3,c3⟩) 186::row b7 (RS.cells x2) 105::baC ⟨⟨k,C,(l.length:Int)⟩,A3,c3⟩::enF be ((E.IA X').IE (kT X'.Z (dD E.RZ k x2)))) Zj ?_;refine ky (cs':=baC ⟨⟨k,C,(l.length:Int)⟩,A3,c3⟩::enF be ((E.IA X').IE (kT X'.Z (dD E.RZ k x2)))) (.inl rfl) (List.Sublist.cons _ (List.Sublist.cons _ (aK _))) rfl rfl rfl rfl Zh Zh Zrf Zrf Zrf Zrf ?_;rw[hfm]at HG⊢;exact⟨(E.IA X').IE (kT X'.Z (dD E.RZ k x2)),⟨hX',by rw[had];exact HG.1,fun y hy=>(nI (List.mem_filter.1 hy).1).elim (fun e=>by rw[e];exact hnew) (fun hy=>hE.rs y hy),hE.last⟩,had,⟨⟨⟨k,C,(l.length:Int)⟩,A3,c3⟩,x2,rfl,rfl,fun t r e=>by cases e;exact⟨rfl,hx2⟩⟩⟩
 have hd:decide ((X'.Z.length:Int)<((dD E.RZ k x2).length:Int))=false:=(by have h9:=hc15;rw[show(rnV (dD E.RZ k x2)).length=(dD E.RZ k x2).length from List.length_map _]at h9;exact h9)
 have had:=Ep E X' ⟨k,C,(l.length:Int)⟩ x2 hXZ;dsimp only at had;rw[hd,aa,hx2]at had;refine Z_3 ?_;refine bX ⟨fun j=>List.elem j [2,3],[]⟩ Zk ?_;refine ZI 0 ?_;refine jY 1 2 Zk ?_ ?_
 ·refine jx rfl Zh Zrf Zrf (Zv rfl) rfl ?_;refine cw 2 Zk ?_;refine dz rfl rfl (bY Zrf rfl rfl (fJ ⟨⟨k,C,(l.length:Int)⟩,A3,c3⟩) Za (by exact rfl)) ZJ ?_;rintro _ _ ⟨rfl,rfl⟩;refine cw 3 Zk ?_;refine dz rfl rfl (bY Zrf rfl rfl (fT x2) Za (by exact rfl)) ZJ ?_;rintro _ _ ⟨rfl,rfl⟩;refine ZE 4 ?_;refine bN Zk ?_;refine Z_2 ?_;refine jD (cin:=rnC E.RZ) (cin':=mI E.RZ k) Zd (oM E.RZ k) ?_;refine iO (cin:=mI E.RZ k) (c:=rsC x2) (cin':=rnC (dD E.RZ k x2)) Zd Zd (rnPut E.RZ k x2) ?_;refine bP (row b6 (BA.cells ⟨⟨k,C,(l.length:Int)⟩,A3,c3⟩) 186::row b7 (RS.cells x2) 105::baC ⟨⟨k,C,(l.length:Int)⟩,A3,c3⟩::enF be ((E.IA X').IE (dD E.RZ k x2))) Zj ?_;refine ky (cs':=baC ⟨⟨k,C,(l.length:Int)⟩,A3,c3⟩::enF be ((E.IA X').IE (dD E.RZ k x2))) (.inl rfl) (List.Sublist.cons _ (List.Sublist.cons _ (aK _))) rfl rfl rfl rfl Zh Zh Zrf Zrf Zrf Zrf ?_;rw[hfm]at HG⊢;exact⟨(E.IA X').IE (dD E.RZ k x2),⟨hX',by rw[had];exact HG.1,fun y hy=>(nI hy).elim (fun e=>by rw[e];exact hnew) (fun hy=>hE.rs y hy),hE.last⟩,had,⟨⟨⟨k,C,(l.length:Int)⟩,A3,c3⟩,x2,rfl,rfl,fun t r e=>by cases e;exact⟨rfl,hx2⟩⟩⟩
 refine dz rfl rfl (bY Zrf rfl rfl (fJ ⟨⟨k,C,(l.length:Int)⟩,A3,c3⟩) Za (by exact rfl)) ZJ ?_;rintro _ _ ⟨rfl,rfl⟩;refine ZI 1 ?_;refine cw 3 Zk ?_;refine dz rfl rfl (bY Zrf rfl rfl (fT x2) Za (by exact rfl)) ZJ ?_;rintro _ _ ⟨rfl,rfl⟩;refine ZE 4 ?_;refine bN Zk ?_;refine Z_2 ?_;refine jD (cin:=rnC E.RZ) (cin':=mI E.RZ k) Zd (oM E.RZ k) ?_;refine iO (cin:=mI E.RZ k) (c:=rsC x2) (cin':=rnC (dD E.RZ k x2)) Zd Zd (rnPut E.RZ k x2) ?_;refine bP (row b6 (BA.cells ⟨⟨k,C,(l.length:Int)⟩,A3,c3⟩) 186::row b7 (RS.cells x2) 105::baC ⟨⟨k,C,(l.length:Int)⟩,A3,c3⟩::enF be ((E.IA X').IE (dD E.RZ k x2))) Zj ?_;refine ky (cs':=baC ⟨⟨k,C,(l.length:Int)⟩,A3,c3⟩::enF be ((E.IA X').IE (dD E.RZ k x2))) (.inl rfl) (List.Sublist.cons _ (List.Sublist.cons _ (aK _))) rfl rfl rfl rfl Zh Zh Zrf Zrf Zrf Zrf ?_;rw[hfm]at HG⊢;exact⟨(E.IA X').IE (dD E.RZ k x2),⟨hX',by rw[had];exact HG.1,fun y hy=>(nI hy).elim (fun e=>by rw[e];exact hnew) (fun hy=>hE.rs y hy),hE.last⟩,had,⟨⟨⟨k,C,(l.length:Int)⟩,A3,c3⟩,x2,rfl,rfl,fun t r e=>by cases e;exact⟨rfl,hx2⟩⟩⟩
end Go.Proofs.YtakodpimdalajaaGreatDoor
namespace Go.Ink
open Go.RowKit
abbrev EnX.toldE(E:EnX)(X:CaX)(k:Ky)(c:Int):EnX:=⟨E.bc,E.mr,E.room,X,E.RZ,k,IntKind.i64.wrap (E.Iw+c),E.Iv,true⟩
theorem EM{E:Eng}{s:St}{p:Int}{b:List Int}{G:Eng}(h:km E (s.pc,p) b=(none,G)):i5 E s p b=(none,G):=by
 unfold i5;rw[h]
theorem BK{E:Eng}{s:St}{p:Int}{b:List Int}{G:Eng}{t:Blk}{r:Rn}{s1:St}{how:Int}(h:km E (s.pc,p) b=(some (t,r),G))(hr:ia t.code s=(s1,how))(hh:(how !=1)=true):i5 E s p b=(none,G):=by
 unfold i5;rw[h];dsimp only;rw[hr];dsimp only;rw[show(how==1)=false by simpa using hh]
 rfl
theorem BJ{E:Eng}{s:St}{p:Int}{b:List Int}{G:Eng}{t:Blk}{r:Rn}{s1:St}{how:Int}(h:km E (s.pc,p) b=(some (t,r),G))(hr:ia t.code s=(s1,how))(hh:(how !=1)=false):i5 E s p b=(some (s1,r,t.count),{G with last:=(s.pc,p),begun:=true,Iw:=IntKind.i64.wrap (G.Iw+t.count)}):=by
 unfold i5;rw[h];dsimp only;rw[hr];dsimp only;rw[show(how==1)=true by simpa using hh]
 rfl
theorem mH.told{E:EnX}(h:mH E){X:CaX}(hX:oF E.room X)(hZ:X.Z=E.X.Z){k:Ky}(hk:ki k)(c:Int):mH (E.toldE X k c):=
 ⟨hX,h.eg.same rfl (by show X.Z.map BA.b=E.X.Z.map BA.b;rw[hZ]) rfl,h.rs,hk⟩
theorem EO{E:EnX}{X:CaX}(hZ:X.Z=E.X.Z)(k:Ky)(c:Int):(E.toldE X k c).eng={E.eng with last:=k,begun:=true,Iw:=IntKind.i64.wrap (E.eng.Iw+c)}:=by
 show Eng.mk E.room (X.Z.map BA.b) (rnM E.RZ) k (IntKind.i64.wrap (E.Iw+c)) E.Iv true=Eng.mk E.room (E.X.Z.map BA.b) (rnM E.RZ) k (IntKind.i64.wrap (E.Iw+c)) E.Iv true;rw[hZ]
end Go.Ink
namespace Go.Proofs.YtakodpimdalajaaGreatDoor
open Go.RowKit Go.Ink Go.Proofs.Tryz
attribute [local irreducible] OpY bU
abbrev tF(bu bb:Nat)(L:gR)(s:St)(X:hI)(U:Mmu)(be:Nat)(E:EnX):List bJ:=slD s X.Ad X.cd::slR s X.Ar X.cr::(uF bu bb L U++enF be E)
def TransR(bu bb:Nat)(L:gR)(s:St)(U:Mmu)(be:Nat)(o:Option (St×Rn×Int))(E':EnX)(v:Value)(cs:List bJ):Prop:=match o with
 |none=>∃(X:hI) (x:RS),v= .tuple #[sv s X.Ad X.cd X.Ar X.cr,.agg x.cells.toArray,.int .i64 0]∧cs=tF bu bb L s X U be E'
 |some (o,r,k)=>∃(X:hI) (x:RS),x.r=r∧v= .tuple #[sv o X.Ad X.cd X.Ar X.cr,.agg x.cells.toArray,.int .i64 k]∧cs=tF bu bb L o X ⟨U.m.calm,U.t⟩ be E'
theorem DO(be bu bb:Nat)(L:gR)(E:EnX)(hE:mH E)(s:St)(X:hI)(p:Nat)(hp:p≤4294967295)(hpn:p/64<L.n)(U:Mmu)(hwf:s.wf)(hs:s.right=true)(hM:U.m.ok L.n)(w:World)(hi:Inv w (bK (tF bu bb L s X U be E)) (tF bu bb L s X U be E) w):
  Ctr prog 44 [.pointer (some ⟨be,0,none⟩),sv s X.Ad X.cd X.Ar X.cr,.int .u32 (p:Int),.pointer (some ⟨bu,0,none⟩)] w (tF bu bb L s X U be E) (fun v cs=>∃E',mH E'∧E'.eng=(i5 E.eng s p (ii U.m p)).2∧TransR bu bb L s U be (i5 E.eng s p (ii U.m p)).1 E' v cs):=by
 have hq:IntKind.u32.wrap ((p:Int).tdiv 64)=((p/64:Nat):Int):=by rw[bC (by omega),u32_wrap_id _ (by omega) (by omega)];omega
 have hrm:(p:Int).tmod 64=((p%64:Nat):Int):=by rw[aW (by omega)];omega
 have HP:=ug L U.m (p/64) hpn;have hbb:=qU hM p;have hbe:ii U.m p=((U.m.data.drop (p/64*64)).take 64).drop (p%64):=rfl;have hdl:=hM.dl;have hXl:((U.m.data.drop (p/64*64)).take 64).length=64:=by rw[aF,bn];omega
 obtain⟨D,hD⟩:=Zgn ((U.m.data.drop (p/64*64)).take 64);rw[hD]at HP hXl hbe;obtain⟨hd16,hr16, -⟩:=St.fits hs;have hky:ki (s.pc,(p:Int)):=⟨hwf.pc,by show 0≤(p:Int);omega,by show(p:Int)≤4294967295;omega⟩;have hbl:(ii U.m p).length=64 - p%64:=by rw[hbe,bn,hXl]
 have HFi:=fun A c w hi h=>Gv be E hE (s.pc,(p:Int)) hky A c (ii U.m p) hbb (by rw[hbl];omega) w hi h
 have HGo:=oh hE.eg (k:=(s.pc,(p:Int))) hbb;have hT1:=fun G h=>EM (E:=E.eng) (s:=s) (p:=p) (b:=ii U.m p) (G:=G) h
 have hT2:=fun G t r s1 how h=>BK (E:=E.eng) (s:=s) (p:=p) (b:=ii U.m p) (G:=G) (t:=t) (r:=r) (s1:=s1) (how:=how) h
 have hT3:=fun G t r s1 how h=>BJ (E:=E.eng) (s:=s) (p:=p) (b:=ii U.m p) (G:=G) (t:=t) (r:=r) (s1:=s1) (how:=how) h
 rw[hbl]at HFi;obtain⟨⟨o,G⟩,hF⟩:=Zgn (km E.eng (s.pc,(p:Int)) (ii U.m p));rw[hF]at HFi HGo hT1 hT2 hT3;obtain⟨T,hT⟩:=Zgn (i5 E.eng s p (ii U.m p));rw[hT]at hT1 hT2 hT3⊢;rw[hbe]at HFi;clear hbe hbl;refine bL func44 rfl ntmps44 rfl hi ?_;refine Z_2 ?_;refine ZO fun b5=>?_;refine ZN fun b8=>?_
 refine ZN fun b9=>?_
 refine Z_6 ?_;refine ZSe (fun w hi=>kL bu L.bm bb w (hi.get (show Has _ (EK bu L.bm bb)from Zh))) ?_;refine ZA ?_;refine Zy (kb (Zv rfl) (Zv rfl) (by omega) hq) ?_;refine Zy (ce rfl rfl Zv0 Zl) ?_;refine ZS (fun w hi=>HP w (hi.get (show Has _ (eL L U.m)from Zh))) ?_;rintro _ _ ⟨_,⟨bq,rfl,rfl⟩,rfl⟩;refine jT ?_;refine ZN fun b13=>?_
 refine dy (bY (vs:=cA (s.pc,(p:Int))) Zrf rfl rfl (rc _) Za (by exact rfl)) ?_;rintro _ _ ⟨rfl,rfl⟩;refine Z_2 ?_;refine cS (fun q:EnX×BA×RS×Nat×Nat=>[(0,.pointer (some ⟨be,0,none⟩)),(3,.pointer (some ⟨bu,0,none⟩)),(5,.pointer (some ⟨b5,0,none⟩)),(8,.pointer (some ⟨b8,0,none⟩)),(9,.pointer (some ⟨b9,0,none⟩)),(13,.pointer (some ⟨b13,0,none⟩)),(14,.pointer (some ⟨q.2.2.2.1,0,none⟩)),(15,.pointer (some ⟨q.2.2.2.2,0,none⟩)),(16,.bool o.isSome)]) (fun q=>tF bu bb L s X U be q.1++[baC q.2.1,row b5 (s.cells (.slice X.Ad s.d.length X.cd) (.slice X.Ar s.r.length X.cr)) 44,row b8 (St.zero.cells (.slice none 0 0) (.slice none 0 0)) 44,row b9 (RS.cells RS.zero) 105,row b13 (cA (s.pc,(p:Int))) 98,row q.2.2.2.1 (BA.cells q.2.1) 186,row q.2.2.2.2 (RS.cells q.2.2.1) 105]) (fun q=>mH q.1∧q.1.eng=G∧∀t r,o=some (t,r)→q.2.1.b=t∧q.2.2.1.r=r) ?_ ?_
 ·refine fK ⟨fun j=>List.elem j [6,13,14],[]⟩ [(0,0),(1,1),(2,0),(3,0),(4,0),(5,0),(6,3),(7,3),(8,3),(9,3),(10,3),(11,3),(12,3),(13,3),(14,3),(15,3)] Zk Zk ?_;refine cm rfl (da Zv0) rfl ?_;refine iI rfl (cB (vs:=cA (s.pc,(p:Int))) Zrf Zrf Zv0) (cX Zh rfl) rfl ?_;refine cm rfl (da Zv0) rfl ?_;refine cm rfl (da Zv0) rfl ?_;refine cm rfl (kp (Zv rfl) (Zv rfl) (by omega) hrm) rfl ?_;refine cm rfl (iX (sz:=1) (lo:=p%64) (hi:=64) (r:=p%64) rfl Zrf (Zv rfl) (.inr ⟨_,_,rfl,(Zv rfl)⟩) (.inl ⟨rfl,rfl⟩) (by omega) (by omega) (by omega) (by omega)) rfl ?_;refine yg [(6,[(7,0),(8,0),(9,0),(10,0),(11,3),(12,3),(13,3),(14,3),(15,3)]),(11,[(6,3),(7,3),(8,3),(9,3),(10,3),(12,3),(13,3),(14,3),(15,3)]),(12,[(6,3),(7,3),(8,3),(9,3),(10,3),(11,3),(13,3),(14,3),(15,3)])] Zk (.cons ?_ (.cons ?_ (.cons ?_ .nil)))
  ·refine ZcS (enF be E) (fun w hi hin=>HFi (some ⟨bq,p%64,none⟩) (64 - p%64) w hin (fun w' hk=>AX (dm (hi.IP Zi (show Has _ (sl .u8 5 (some ⟨bq,0,none⟩) 64 64 D)from Zh) hk)) (by omega) hXl)) ?_;rintro _ _ ⟨_,⟨E2,hE2,hEe,y,x,rfl,rfl,hyx⟩,rfl⟩;refine cm rfl (da Zv0) rfl ?_;refine cm rfl (cQ Zv0 (.zero _ _)) rfl ?_;refine cm rfl (cQ Zv0 (.succ _ (.zero _ _))) rfl ?_;refine cm rfl (cQ Zv0 (.succ _ (.succ _ (.zero _ _)))) rfl ?_;refine yg [(11,[(12,2),(13,2),(14,2),(15,0)]),(12,[(11,2),(13,2),(14,2),(15,0)])] Zk (.cons ?_ (.cons ?_ .nil))
   ·refine eB rfl rfl (dO Zrf rfl) ZJ rfl ?_;rintro _ _ ⟨b14,rfl,rfl⟩;refine fb rfl ?_;refine eB rfl rfl (dO Zrf rfl) ZJ rfl ?_;rintro _ _ ⟨b15,rfl,rfl⟩;refine fb rfl ?_;refine dI rfl rfl (bY Zrf rfl rfl (fJ y) Za (by exact rfl)) ZJ ?_;rintro _ _ ⟨rfl,rfl⟩;refine fb rfl ?_;refine dI rfl rfl (bY Zrf rfl rfl (fT x) Za (by exact rfl)) ZJ ?_;rintro _ _ ⟨rfl,rfl⟩;refine cm rfl (gx Zv0) rfl ?_;refine dB ?_;refine cq ((E2,y,x,b14,b15)) ?_ ?_ ?_
    ·exact⟨hE2,hEe,hyx⟩
    ·exact Zwk
    exact Zj
   refine eB rfl rfl (dO Zrf rfl) ZJ rfl ?_;rintro _ _ ⟨b15,rfl,rfl⟩;refine fb rfl ?_;refine eB rfl rfl (dO Zrf rfl) ZJ rfl ?_;rintro _ _ ⟨b14,rfl,rfl⟩;refine fb rfl ?_;refine dI rfl rfl (bY Zrf rfl rfl (fJ y) Za (by exact rfl)) ZJ ?_;rintro _ _ ⟨rfl,rfl⟩;refine fb rfl ?_;refine dI rfl rfl (bY Zrf rfl rfl (fT x) Za (by exact rfl)) ZJ ?_;rintro _ _ ⟨rfl,rfl⟩;refine cm rfl (gx Zv0) rfl ?_;refine dB ?_;refine cq ((E2,y,x,b14,b15)) ?_ ?_ ?_
   ·exact⟨hE2,hEe,hyx⟩
   ·exact Zwk
   exact Zj
  ·refine eB rfl rfl (dO Zrf rfl) ZJ rfl ?_;rintro _ _ ⟨b14,rfl,rfl⟩;refine yg [(6,[(7,0),(8,0),(9,0),(10,0),(12,2),(13,2),(14,2),(15,0)]),(12,[(6,2),(7,0),(8,0),(9,0),(10,0),(13,2),(14,2),(15,0)])] Zk (.cons ?_ (.cons ?_ .nil))
   ·refine ZcS (enF be E) (fun w hi hin=>HFi (some ⟨bq,p%64,none⟩) (64 - p%64) w hin (fun w' hk=>AX (dm (hi.IP Zi (show Has _ (sl .u8 5 (some ⟨bq,0,none⟩) 64 64 D)from Zh) hk)) (by omega) hXl)) ?_;rintro _ _ ⟨_,⟨E2,hE2,hEe,y,x,rfl,rfl,hyx⟩,rfl⟩;refine cm rfl (da Zv0) rfl ?_;refine cm rfl (cQ Zv0 (.zero _ _)) rfl ?_;refine cm rfl (cQ Zv0 (.succ _ (.zero _ _))) rfl ?_;refine cm rfl (cQ Zv0 (.succ _ (.succ _ (.zero _ _)))) rfl ?_;refine fb rfl ?_;refine eB rfl rfl (dO Zrf rfl) ZJ rfl ?_;rintro _ _ ⟨b15,rfl,rfl⟩;refine fb rfl ?_;refine dI rfl rfl (bY Zrf rfl rfl (fJ y) Za (by exact rfl)) ZJ ?_;rintro _ _ ⟨rfl,rfl⟩;refine fb rfl ?_;refine dI rfl rfl (bY Zrf rfl rfl (fT x) Za (by exact rfl)) ZJ ?_;rintro _ _ ⟨rfl,rfl⟩;refine cm rfl (gx Zv0) rfl ?_;refine dB ?_;refine cq ((E2,y,x,b14,b15)) ?_ ?_ ?_
    ·exact⟨hE2,hEe,hyx⟩
    ·exact Zwk
    exact Zj
   refine eB rfl rfl (dO Zrf rfl) ZJ rfl ?_;rintro _ _ ⟨b15,rfl,rfl⟩;refine fb rfl ?_;refine ZcS (enF be E) (fun w hi hin=>HFi (some ⟨bq,p%64,none⟩) (64 - p%64) w hin (fun w' hk=>AX (dm (hi.IP Zi (show Has _ (sl .u8 5 (some ⟨bq,0,none⟩) 64 64 D)from Zh) hk)) (by omega) hXl)) ?_;rintro _ _ ⟨_,⟨E2,hE2,hEe,y,x,rfl,rfl,hyx⟩,rfl⟩;refine cm rfl (da Zv0) rfl ?_;refine cm rfl (cQ Zv0 (.zero _ _)) rfl ?_;refine cm rfl (cQ Zv0 (.succ _ (.zero _ _))) rfl ?_;refine cm rfl (cQ Zv0 (.succ _ (.succ _ (.zero _ _)))) rfl ?_;refine fb rfl ?_;refine dI rfl rfl (bY Zrf rfl rfl (fJ y) Za (by exact rfl)) ZJ ?_;rintro _ _ ⟨rfl,rfl⟩;refine fb rfl ?_;refine dI rfl rfl (bY Zrf rfl rfl (fT x) Za (by exact rfl)) ZJ ?_;rintro _ _ ⟨rfl,rfl⟩;refine cm rfl (gx Zv0) rfl ?_;refine dB ?_;refine cq ((E2,y,x,b14,b15)) ?_ ?_ ?_
   ·exact⟨hE2,hEe,hyx⟩
   ·exact Zwk
   exact Zj
  refine eB rfl rfl (dO Zrf rfl) ZJ rfl ?_;rintro _ _ ⟨b15,rfl,rfl⟩;refine yg [(6,[(7,0),(8,0),(9,0),(10,0),(11,2),(13,2),(14,2),(15,0)]),(11,[(6,2),(7,0),(8,0),(9,0),(10,0),(13,2),(14,2),(15,0)])] Zk (.cons ?_ (.cons ?_ .nil))
  ·refine ZcS (enF be E) (fun w hi hin=>HFi (some ⟨bq,p%64,none⟩) (64 - p%64) w hin (fun w' hk=>AX (dm (hi.IP Zi (show Has _ (sl .u8 5 (some ⟨bq,0,none⟩) 64 64 D)from Zh) hk)) (by omega) hXl)) ?_;rintro _ _ ⟨_,⟨E2,hE2,hEe,y,x,rfl,rfl,hyx⟩,rfl⟩;refine cm rfl (da Zv0) rfl ?_;refine cm rfl (cQ Zv0 (.zero _ _)) rfl ?_;refine cm rfl (cQ Zv0 (.succ _ (.zero _ _))) rfl ?_;refine cm rfl (cQ Zv0 (.succ _ (.succ _ (.zero _ _)))) rfl ?_;refine fb rfl ?_;refine eB rfl rfl (dO Zrf rfl) ZJ rfl ?_;rintro _ _ ⟨b14,rfl,rfl⟩;refine fb rfl ?_;refine dI rfl rfl (bY Zrf rfl rfl (fJ y) Za (by exact rfl)) ZJ ?_;rintro _ _ ⟨rfl,rfl⟩;refine fb rfl ?_;refine dI rfl rfl (bY Zrf rfl rfl (fT x) Za (by exact rfl)) ZJ ?_;rintro _ _ ⟨rfl,rfl⟩;refine cm rfl (gx Zv0) rfl ?_;refine dB ?_;refine cq ((E2,y,x,b14,b15)) ?_ ?_ ?_
   ·exact⟨hE2,hEe,hyx⟩
   ·exact Zwk
   exact Zj
  refine eB rfl rfl (dO Zrf rfl) ZJ rfl ?_;rintro _ _ ⟨b14,rfl,rfl⟩;refine fb rfl ?_;refine ZcS (enF be E) (fun w hi hin=>HFi (some ⟨bq,p%64,none⟩) (64 - p%64) w hin (fun w' hk=>AX (dm (hi.IP Zi (show Has _ (sl .u8 5 (some ⟨bq,0,none⟩) 64 64 D)from Zh) hk)) (by omega) hXl)) ?_;rintro _ _ ⟨_,⟨E2,hE2,hEe,y,x,rfl,rfl,hyx⟩,rfl⟩;refine cm rfl (da Zv0) rfl ?_;refine cm rfl (cQ Zv0 (.zero _ _)) rfl ?_;refine cm rfl (cQ Zv0 (.succ _ (.zero _ _))) rfl ?_;refine cm rfl (cQ Zv0 (.succ _ (.succ _ (.zero _ _)))) rfl ?_;refine fb rfl ?_;refine dI rfl rfl (bY Zrf rfl rfl (fJ y) Za (by exact rfl)) ZJ ?_;rintro _ _ ⟨rfl,rfl⟩;refine fb rfl ?_;refine dI rfl rfl (bY Zrf rfl rfl (fT x) Za (by exact rfl)) ZJ ?_;rintro _ _ ⟨rfl,rfl⟩;refine cm rfl (gx Zv0) rfl ?_;refine dB ?_;refine cq ((E2,y,x,b14,b15)) ?_ ?_ ?_
  ·exact⟨hE2,hEe,hyx⟩
  ·exact Zwk
  exact Zj
 rintro⟨E2,⟨yb,A1,c1⟩,⟨xr,A2,c2⟩,b14,b15⟩ ⟨hE2,hEe,hyx⟩;dsimp only at hE2 hEe hyx⊢;refine Z_7 ?_;refine ZW ?_ ?_<;>intro hc4
 ·obtain rfl:o=none:=(by cases o with|none=>rfl|some q=>cases hc4);have hTn:=hT1 G rfl;refine Zs (bX ⟨fun j=>List.elem j [2,3],qM b15 (RS.cells ⟨xr,A2,c2⟩)⟩ Zk ?_);refine ZI 0 ?_;refine sD 1 rfl Zk Zk Zk (cB (vs:=RS.cells ⟨xr,A2,c2⟩) Zrf Zrf Zv0) (fun x hx=>fZ x hx) (bR (t:=105) Zh) rfl ?_;refine cw 2 Zk ?_;refine dz rfl rfl (bY Zrf rfl rfl (iE rfl) Za (by exact rfl)) (fun _=>by rintro _ _ ⟨rfl,rfl⟩;exact bR (t:=105) Zh) ?_;rintro _ _ ⟨rfl,rfl⟩;refine cw 3 Zk ?_;refine dz rfl rfl (bY Zrf rfl rfl (fT ⟨xr,A2,c2⟩) Za (by exact rfl)) (fun _=>by rintro _ _ ⟨rfl,rfl⟩;exact bR (t:=105) Zh) ?_;rintro _ _ ⟨rfl,rfl⟩;refine ZE 4 ?_;refine bN Zk ?_;refine Z_3 ?_;refine bP (row b8 (s.cells (.slice X.Ad s.d.length X.cd) (.slice X.Ar s.r.length X.cr)) 44::row b9 (RS.cells ⟨xr,A2,c2⟩) 105::tF bu bb L s X U be E2) Zj ?_;refine ky (cs':=tF bu bb L s X U be E2) (.inl rfl) (List.Sublist.cons _ (List.Sublist.cons _ (aK _))) rfl rfl rfl rfl Zh Zh Zrf Zrf Zrf Zrf ?_;rw[hTn];exact⟨E2,hE2,hEe,X,⟨xr,A2,c2⟩,rfl,rfl⟩
 obtain⟨⟨⟨tk,C,tc⟩,r⟩,rfl⟩:∃q,o=some q:=(by cases o with|none=>cases hc4|some q=>exact⟨q,rfl⟩);obtain⟨rfl,rfl⟩:=hyx _ _ rfl;obtain⟨pg,il,g1,g2,g3,g4,g5,g6,g7⟩:=HGo.2.2.2.2 _ _ rfl;obtain⟨-, -, -, -,hgo⟩:=v6 g6 g1;obtain⟨hgd,hCl⟩:=hgo g2;dsimp only at g3;rw[←g3]at hgd hCl;have HRn:=fun A c w h h3=>erun_ok A c C hgd hCl s hwf hs X.Ad X.Ar X.cd X.cr w h h3
 have hTb:=fun s1 how=>hT2 G ⟨tk,C,tc⟩ xr s1 how rfl
 have hTy:=fun s1 how=>hT3 G ⟨tk,C,tc⟩ xr s1 how rfl
 obtain⟨⟨s1,how⟩,hrc⟩:=Zgn (ia C s);dsimp only at hTb hTy;rw[hrc]at HRn;dsimp only at HRn;refine Z_7 ?_;refine ZS (fun w hi=>HRn A1 c1 w (hi.rd (show Has _ (baC ⟨⟨tk,C,tc⟩,A1,c1⟩)from Zh)) (hi.rdSt (show Has _ (slD s X.Ad X.cd)from Zh) (show Has _ (slR s X.Ar X.cr)from Zh) (by omega) (by omega))) ?_;rintro _ _ ⟨_,⟨X1,rfl,rfl⟩,rfl⟩;refine Z_3 ?_;refine ZN fun b17=>?_
 refine ZM ?_;refine eJ ?_;refine ZW ?_ ?_<;>intro hc7
 ·have hTn:=hTb s1 how hrc hc7;refine Zs (bX ⟨fun j=>List.elem j [2,3],qM b15 (RS.cells ⟨xr,A2,c2⟩)⟩ Zk ?_);refine ZI 0 ?_;refine sD 1 rfl Zk Zk Zk (cB (vs:=RS.cells ⟨xr,A2,c2⟩) Zrf Zrf Zv0) (fun x hx=>fZ x hx) (bR (t:=105) Zh) rfl ?_;refine cw 2 Zk ?_;refine dz rfl rfl (bY Zrf rfl rfl (iE rfl) Za (by exact rfl)) (fun _=>by rintro _ _ ⟨rfl,rfl⟩;exact bR (t:=105) Zh) ?_;rintro _ _ ⟨rfl,rfl⟩;refine cw 3 Zk ?_;refine dz rfl rfl (bY Zrf rfl rfl (fT ⟨xr,A2,c2⟩) Za (by exact rfl)) (fun _=>by rintro _ _ ⟨rfl,rfl⟩;exact bR (t:=105) Zh) ?_;rintro _ _ ⟨rfl,rfl⟩;refine ZE 4 ?_;refine bN Zk ?_;refine Z_3 ?_;refine bP (row b8 (s.cells (.slice X.Ad s.d.length X.cd) (.slice X.Ar s.r.length X.cr)) 44::row b9 (RS.cells ⟨xr,A2,c2⟩) 105::tF bu bb L s X U be E2) Zj ?_;refine ky (cs':=tF bu bb L s X U be E2) (.inl rfl) (List.Sublist.cons _ (List.Sublist.cons _ (aK _))) rfl rfl rfl rfl Zh Zh Zrf Zrf Zrf Zrf ?_;rw[hTn];exact⟨E2,hE2,hEe,X,⟨xr,A2,c2⟩,rfl,rfl⟩
 have hTn:=hTy s1 how hrc hc7;refine Z_5 ?_;refine ZSe (fun w hi=>kL bu L.bm bb w (hi.get (show Has _ (EK bu L.bm bb)from Zh))) ?_;refine ZcM ([eL L U.m]) (fun w hi hin=>uq L U.m w hin) ?_;refine Z_2 ?_;refine cS (fun Y:CaX=>[(0,.pointer (some ⟨be,0,none⟩)),(8,.pointer (some ⟨b8,0,none⟩)),(9,.pointer (some ⟨b9,0,none⟩)),(13,.pointer (some ⟨b13,0,none⟩)),(14,.pointer (some ⟨b14,0,none⟩)),(15,.pointer (some ⟨b15,0,none⟩)),(17,.pointer (some ⟨b17,0,none⟩))]) (fun Y=>row b8 (St.zero.cells (.slice none 0 0) (.slice none 0 0)) 44::row b9 (RS.cells RS.zero) 105::row b13 (cA (s.pc,(p:Int))) 98::row b14 (BA.cells ⟨⟨tk,C,tc⟩,A1,c1⟩) 186::row b15 (RS.cells ⟨xr,A2,c2⟩) 105::row b17 (s1.cells (.slice X1.Ad s1.d.length X1.cd) (.slice X1.Ar s1.r.length X1.cr)) 44::tF bu bb L s1 X1 ⟨U.m.calm,U.t⟩ be (E2.IA Y)) (fun Y=>oF E2.room Y∧Y.Z=E2.X.Z) ?_ ?_
 ·refine Z_8 ?_;refine ZW ?_ ?_<;>intro hc10
  ·refine bX ⟨fun j=>List.elem j [9],[]⟩ Zk ?_;refine ZE 0 ?_;refine ZE 1 ?_;refine ZFe 2 0 ?_;refine ZG 3 ?_;refine ZE 4 ?_;refine ZE 5 ?_;refine ZFe 6 2 ?_;refine eX 7 rfl Zk Zk Zk Zk (cB (vs:=cA E2.last) Zrf Zrf Zv0) (cX Zh rfl) rfl ?_;refine eX 8 rfl Zk Zk Zk Zk (cB (vs:=cA (s.pc,(p:Int))) Zrf Zrf Zv0) (cX Zh rfl) rfl ?_;refine cw 9 Zk ?_;refine ZcA (caF E2.bc E2.room E2.X) (fun w hi hin=>GI E2.bc E2.room E2.X hE2.ca E2.last (s.pc,(p:Int)) hE2.last w hin) ?_;rintro _ _ ⟨_,⟨X2,rfl,hX2,hXZ⟩,rfl⟩;refine bN Zk ?_;refine cq (X2) ?_ ?_ ?_
   ·exact⟨hX2,hXZ⟩
   ·exact Zwk
   exact Zj
  refine Zc ?_;refine cq (E2.X) ?_ ?_ ?_
  ·exact⟨hE2.ca,rfl⟩
  ·exact Zwk
  exact Zj
 rintro Y ⟨hY,hYZ⟩;refine Z_4 ?_;refine dX (cB (vs:=cA (s.pc,(p:Int))) Zrf Zrf Zv0) (cX Zh rfl) rfl ?_;refine Z_2 ?_;refine dy (fv (ys:=[.pointer (some ⟨E2.bc,0,none⟩),.map (some E2.mr),.int .u32 s.pc,.int .u32 (p:Int),.int .i64 E2.Iw,.int .i64 E2.Iv,.bool E2.begun]) (n:=2) (vs:=cA (s.pc,(p:Int))) rfl Zrf rfl rfl (rc _) Za rfl (Nat.le_of_ble_eq_true rfl)) ?_;rintro _ _ ⟨rfl,rfl⟩;refine Z_2 ?_;refine ZL ?_;refine Z_3 ?_;refine bX ⟨fun j=>List.elem j [9],[]⟩ Zk ?_;refine ZE 0 ?_;refine ZE 1 ?_;refine ZFe 2 4 ?_;refine ZG 3 ?_;refine ZFe 4 3 ?_;refine ZG 5 ?_;refine cN 6 rfl Zk Zk Zk (cy Zv0 Zv0 Zl) rfl ?_;refine ZE 7 ?_;refine ZFe 8 4 ?_;refine cw 9 Zk ?_;refine ZQ ?_;refine bN Zk ?_;refine Z_2 ?_;refine bX ⟨fun j=>List.elem j [4,5],qM b14 (BA.cells ⟨⟨tk,C,tc⟩,A1,c1⟩)++qM b15 (RS.cells ⟨xr,A2,c2⟩)⟩ Zk ?_;refine ZI 0 ?_;refine sD 1 rfl Zk Zk Zk (cB (vs:=RS.cells ⟨xr,A2,c2⟩) Zrf Zrf Zv0) (fun x hx=>ah _ (fZ x hx)) (fI (bR (t:=186) Zh) (bR (t:=105) Zh)) rfl ?_;refine ZFe 2 3 ?_;refine iv 3 rfl Zk Zk Zk (bO Zrf (Zv rfl)) (by first|exact bW rfl|exact aC _ (bW rfl)|exact ah _ (bW rfl)|exact ah _ (ah _ (aC _ (bW rfl)))|exact ah _ (ah _ (ah _ (bW rfl)))) (fI (bR (t:=186) Zh) (bR (t:=105) Zh)) rfl ?_;refine cw 4 Zk ?_;refine dz rfl rfl (bY Zrf rfl rfl (iE rfl) Za (by exact rfl)) (fun _=>by rintro _ _ ⟨rfl,rfl⟩;exact fI (bR (t:=186) Zh) (bR (t:=105) Zh)) ?_;rintro _ _ ⟨rfl,rfl⟩;refine cw 5 Zk ?_;refine dz rfl rfl (bY Zrf rfl rfl (fT ⟨xr,A2,c2⟩) Za (by exact rfl)) (fun _=>by rintro _ _ ⟨rfl,rfl⟩;exact fI (bR (t:=186) Zh) (bR (t:=105) Zh)) ?_;rintro _ _ ⟨rfl,rfl⟩;refine ZE 6 ?_;refine bN Zk ?_;refine Z_2 ?_;refine bP (row b8 (s1.cells (.slice X1.Ad s1.d.length X1.cd) (.slice X1.Ar s1.r.length X1.cr)) 44::row b9 (RS.cells ⟨xr,A2,c2⟩) 105::tF bu bb L s1 X1 ⟨U.m.calm,U.t⟩ be (E2.toldE Y (s.pc,(p:Int)) tc)) Zj ?_;refine ky (cs':=tF bu bb L s1 X1 ⟨U.m.calm,U.t⟩ be (E2.toldE Y (s.pc,(p:Int)) tc)) (.inl rfl) (List.Sublist.cons _ (List.Sublist.cons _ (aK _))) rfl rfl rfl rfl Zh Zh Zrf Zrf Zrf Zrf ?_;rw[hTn];exact⟨_,hE2.told hY hYZ hky tc,by rw[EO hYZ,hEe],X1,⟨xr,A2,c2⟩,rfl,rfl,rfl⟩
end Go.Proofs.YtakodpimdalajaaGreatDoor
