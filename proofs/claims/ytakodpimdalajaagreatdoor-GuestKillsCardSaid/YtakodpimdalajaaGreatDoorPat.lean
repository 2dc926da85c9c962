/- Lemmas. -/
import Derived.Test.YtakodpimdalajaaGreatDoorPaa
import Derived.Test.YtakodpimdalajaaGreatDoorPab
import Derived.Test.YtakodpimdalajaaGreatDoorPao
import Derived.Test.YtakodpimdalajaaGreatDoorPas
set_option linter.unusedSimpArgs false
set_option linter.unusedVariables false
set_option maxRecDepth 100000
set_option maxHeartbeats 4000000
namespace Go.Ink
open Go.RowKit
theorem run_v(RZ:List (Ky×RS))(k:Ky):fT (rnV RZ) k (.agg #[.slice none 0 0,.bool false])=(fT RZ k RS.zero).v:=uM RS.v RZ k RS.zero
theorem run_r(RZ:List (Ky×RS))(k:Ky):fT (rnM RZ) k Rn.zero=(fT RZ k RS.zero).r:=uM RS.r RZ k RS.zero
theorem rnM_put(RZ:List (Ky×RS))(k:Ky)(x:RS):rnM (dB RZ k x)=dB (rnM RZ) k x.r:=(zt RS.r RZ k x).symm
theorem rnV_put(RZ:List (Ky×RS))(k:Ky)(x:RS):dB (rnV RZ) k (.agg x.cells.toArray)=rnV (dB RZ k x):=zt RS.v RZ k x
theorem Dn(RZ:List (Ky×RS))(k:Ky):fT RZ k RS.zero=RS.zero∨∃y,y∈RZ∧y.2=fT RZ k RS.zero:=by
 unfold fT;cases hf:RZ.find? (fun x=>x.1==k)with
 |none=>exact Or.inl rfl
 |some y=>exact Or.inr ⟨y,List.mem_of_find?_eq_some hf,rfl⟩
theorem qp{β:Type}{L:List (Ky×β)}{k:Ky}{v:β}{y:Ky×β}(h:y∈dB L k v):y=(k,v)∨y∈L:=by
 unfold dB at h;cases hp:cN (fun x:Ky×β=>x.1) k L with
 |some j=>rw[hp]at h;exact(List.mem_or_eq_of_mem_set h).symm
 |none=>
  rw[hp]at h;rcases aS.1 h with h|h
  ·exact Or.inr h
  exact Or.inl (by simpa using h)
theorem Ee{RZ:List (Ky×RS)}(k:Ky)(x:RS)(h:(RZ.map (·.1)).Nodup):((dB RZ k x).map (·.1)).Nodup:=by
 rw[uJ];exact o9 h
theorem z4(Z:List BA)(k:Ky):(Z.map BA.b).find? (fun t=>t.key==k)=(Z.find? fun x=>x.key==k).map BA.b:=by
 rw[List.find?_map]
 rfl
theorem ET{E:EnX}{k:Ky}{b:List Int}{y:BA}(h:(E.X.Z.find? fun x=>x.key==k)=some y)(hp:(fT E.RZ k RS.zero).r.bytes.isPrefixOf b=true):kt E.eng k b=(some (y.b,(fT E.RZ k RS.zero).r),E.eng):=by
 unfold kt wK;rw[show E.eng.l=E.X.Z.map BA.b from rfl,z4,h,show E.eng.runs=rnM E.RZ from rfl,run_r];dsimp only[Option.map_some];rw[hp]
 rfl
theorem H7{E:EnX}{k:Ky}{b:List Int}{o:Option BA}(ho:(E.X.Z.find? fun x=>x.key==k)=o)(hp:(o.isSome&&(fT E.RZ k RS.zero).r.bytes.isPrefixOf b)=false):wK E.eng k b=none:=by
 unfold wK;rw[show E.eng.l=E.X.Z.map BA.b from rfl,z4,ho,show E.eng.runs=rnM E.RZ from rfl,run_r];cases o with
 |none=>rfl
 |some y=>
  dsimp only[Option.map_some];rw[show(fT E.RZ k RS.zero).r.bytes.isPrefixOf b=false from hp]
  rfl
theorem tW{E:Eng}{k:Ky}{b:List Int}(h:wK E k b=none)(hm:rB k b=none):kt E k b=(none,E):=by
 unfold kt;rw[h,hm]
theorem ES{E:Eng}{k:Ky}{b:List Int}{t:Blk}{r:Rn}(h:wK E k b=none)(hm:rB k b=some (t,r)):kt E k b=(some (t,r),addE E t r):=by
 unfold kt;rw[h,hm]
theorem DY{k:Ky}{b:List Int}{l:List (Int×Int)}{sz:Nat}{en:Bool}(hR:cG b 8 0=(l,sz,en))(h:ff k.1 l=none):rB k b=none:=by
 unfold rB;rw[hR,h]
theorem G6{k:Ky}{b:List Int}{l:List (Int×Int)}{sz:Nat}{en:Bool}{p:Pg}(hR:cG b 8 0=(l,sz,en))(h:ff k.1 l=some p)(hr:p.JB=false):rB k b=none:=by
 unfold rB;rw[hR,h];dsimp only;rw[hr]
 rfl
theorem G5{k:Ky}{b:List Int}{l:List (Int×Int)}{sz:Nat}{en:Bool}{p:Pg}(hR:cG b 8 0=(l,sz,en))(h:ff k.1 l=some p)(hr:p.JB=true):rB k b=some (⟨k,gm p (dJ p),(l.length:Int)⟩,⟨b.take sz,en⟩):=by
 unfold rB;rw[hR,h];dsimp only;rw[hr]
 rfl
theorem Ip(p:Pg)(pl:Pl):gm p pl≠[]:=by
 unfold gm;simp
theorem FG(E:EnX)(X':CaX)(t:Blk)(x:RS)(hX:X'.Z.map BA.b=ri Blk.key E.room (E.X.Z.map BA.b) t):
  (bif decide ((X'.Z.length:Int)<((dB E.RZ t.key x).length:Int))then((E.JO X').JU (k9 X'.Z (dB E.RZ t.key x))).eng else((E.JO X').JU (dB E.RZ t.key x)).eng)=addE E.eng t x.r:=by
 unfold addE;dsimp only;rw[show E.eng.room=E.room from rfl,show E.eng.l=E.X.Z.map BA.b from rfl,show E.eng.runs=rnM E.RZ from rfl,←hX,←rnM_put,List.length_map];have e:(rnM (dB E.RZ t.key x)).length=(dB E.RZ t.key x).length:=List.length_map _;rw[e];cases hd:decide ((X'.Z.length:Int)<((dB E.RZ t.key x).length:Int))with
 |true=>
  simp only[ak]at hd;rw[ay (show X'.Z.length<(dB E.RZ t.key x).length by omega),ac,ac,wJ]
  rfl
 |false=>
  simp only[ah]at hd;rw[az (show¬X'.Z.length<(dB E.RZ t.key x).length by omega),aa,aa]
  rfl
end Go.Ink
namespace Go.Proofs.YtakodpimdalajaaGreatDoor
open Go.RowKit Go.Ink Go.Proofs.Tryz
attribute [local irreducible] OpY bP
theorem run_rd{w:World}{RZ:List (Ky×RS)}{k:Ky}(h:(dg (rnC RZ)).ok w):Rd w .u8 (fT RZ k RS.zero).A (fT RZ k RS.zero).r.bytes.length (fT RZ k RS.zero).c (fT RZ k RS.zero).r.bytes:=by
 rcases Dn RZ k with e|⟨y,hy,e⟩
 ·rw[e];exact o7 w .u8
 rw[←e];exact de (qx h (rsC y.2) (bh.2 ⟨y,hy,rfl⟩))
def pQ(RZ:List (Ky×RS))(k:Ky):List bJ:=match cN (·.1) k RZ with|some j=>(rnC RZ).eraseIdx j|none=>rnC RZ
theorem tA(RZ:List (Ky×RS))(k:Ky):(pQ RZ k).Sublist (rnC RZ):=by
 unfold pQ;cases cN (fun x:Ky×RS=>x.1) k RZ with
 |some j=>exact List.eraseIdx_sublist _ _
 |none=>exact aQ _
theorem rnPut(RZ:List (Ky×RS))(k:Ky)(x:RS):(rnC (dB RZ k x)).Perm (rsC x::pQ RZ k):=by
 unfold pQ dB;cases hp:cN (fun x:Ky×RS=>x.1) k RZ with
 |some j=>
  obtain⟨hj, -⟩:=fe hp;dsimp only;unfold rnC;rw[List.map_set];exact qu (by simpa using hj)
 |none=>
  dsimp only;unfold rnC;rw[List.map_append];exact List.perm_append_singleton _ _
theorem Fs(bc:Nat)(room:Int)(X:CaX)(hS:BaSm X.Z)(k:Ky)(w:World)(hi:Inv w (bK (caF bc room X)) (caF bc room X) w):
  Ctr prog 125 [.pointer (some ⟨bc,0,none⟩),.agg (cz k).toArray] w (caF bc room X) (fun v cs=>∃y:BA,v= .tuple #[.agg y.cells.toArray,.bool (X.Z.find? fun x=>x.key==k).isSome]∧cs=caF bc room X++[baC y]∧∀x,(X.Z.find? fun x=>x.key==k)=some x→y.b=x.b):=by
 have h:=AB bc room X hS k w hi;obtain⟨o,ho⟩:=Zgn ((X.Z.find? fun x=>x.key==k));rw[ho]at h⊢;refine h.up fun v cs w' hk hi'=>?_
 cases o with
 |none=>
  obtain⟨rfl,rfl⟩:=hk;exact⟨_,⟨⟨⟨(0,0),[],0⟩,none,0⟩,rfl,rfl,fun x e=>nomatch e⟩,hi'.more (vg w' [] 5 1)⟩
 |some x=>
  obtain⟨A',c',rfl,rfl⟩:=hk;exact⟨_,⟨⟨x.b,A',c'⟩,rfl,rfl,fun x e=>by cases e;rfl⟩,hi'.perm (List.perm_append_singleton _ _).symm⟩
def FindR(be:Nat)(o:Option (Blk×Rn))(E':EnX)(v:Value)(cs:List bJ):Prop:=∃(y:BA) (x:RS),v= .tuple #[.agg y.cells.toArray,.agg x.cells.toArray,.bool o.isSome]∧cs=baC y::enF be E'∧∀t r,o=some (t,r)→y.b=t∧x.r=r
theorem Ic(be:Nat)(E:EnX)(hE:nC E)(k:Ky)(hk:kp k)(A:Option Addr)(c:Nat)(b:List Int)(hb:u8s b)(hbl:b.length≤1000)(w:World)(hi:Inv w (bK (enF be E)) (enF be E) w)(h:∀w',dC (bK (enF be E)) w w'→Rd w' .u8 A b.length c b):
  Ctr prog 95 [.pointer (some ⟨be,0,none⟩),.agg (cz k).toArray,.slice A b.length c] w (enF be E) (fun v cs=>∃E',nC E'∧E'.eng=(kt E.eng k b).2∧FindR be (kt E.eng k b).1 E' v cs):=by
 have HF:=Fs E.bc E.room E.X hE.ca.sm k;have FK:=fun y h1 h2=>ET (E:=E) (k:=k) (b:=b) (y:=y) h1 h2
 obtain⟨o,ho⟩:=Zgn ((E.X.Z.find? fun x=>x.key==k));have FN:=H7 (E:=E) (k:=k) (b:=b) ho;rw[ho]at HF FK;have HG:=oK hE.eg (k:=k) hb;have hxr:u8s (fT E.RZ k RS.zero).r.bytes:=by
  rcases Dn E.RZ k with e|⟨y,hy,e⟩
  ·rw[e];exact fun x hx=>nomatch hx
  rw[←e];exact(hE.rs y hy).2.2
 have hxrd:=fun(w:World) h=>run_rd (w:=w) (RZ:=E.RZ) (k:=k) h
 obtain⟨x,hx⟩:=Zgn (fT E.RZ k RS.zero);rw[hx]at FK FN hxr hxrd;have HP:=E4 A c b hb hbl;obtain⟨⟨l,sz,en⟩,hR⟩:=Zgn (cG b 8 0);have hu:∀i,i∈l→u32 i.2:=by
  have:=(kY b 8 0).1.u32 hb;rw[hR]at this;exact this
 rw[hR]at HP;dsimp only at HP;have HL:=fun A1 c1 w h=>Ep k.1 A1 c1 l hu w h
 obtain⟨lo,hlo⟩:=Zgn (ff k.1 l);rw[hlo]at HL;have hcap:=(h w (dC.refl _ _)).cap;refine bL func95 rfl ntmps95 rfl hi ?_;refine Z_2 ?_;refine ZO fun b4=>?_;refine ZN fun b6=>?_
 refine ZN fun b7=>?_
 refine Z_3 ?_;refine cW (fun q:BA×Nat=>[(0,.pointer (some ⟨be,0,none⟩)),(2,.slice A b.length c),(4,.pointer (some ⟨b4,0,none⟩)),(6,.pointer (some ⟨b6,0,none⟩)),(7,.pointer (some ⟨b7,0,none⟩)),(9,.pointer (some ⟨q.2,0,none⟩)),(10,.bool o.isSome)]) (fun q=>enF be E++[baC q.1,row b4 (cz k) 98,row b6 (BA.cells ⟨⟨(0,0),[],0⟩,none,0⟩) 186,row b7 (RS.cells RS.zero) 105,row q.2 (BA.cells q.1) 186]) (fun q=>∀x,o=some x→q.1.b=x.b) ?_ ?_
 ·refine jk ⟨fun j=>List.elem j [5,10],[]⟩ [(0,0),(1,0),(2,0),(3,1),(4,1),(5,3),(6,3),(7,3),(8,3),(9,3),(10,3),(11,3)] Zk Zk ?_;refine cT rfl (fP Zv0) rfl ?_;refine cT rfl (AO Zv0) rfl ?_;refine cT rfl (dN 0 rfl Zv0 Zf) rfl ?_;refine uy rfl (bO Zrf Zv0) (cB Zh rfl) rfl ?_;refine mB rfl Zh Zrf Zrf (Zv rfl) rfl ?_;refine FZ [(5,[(6,0),(7,0),(8,0),(9,2),(10,2),(11,0)]),(9,[(5,2),(6,0),(7,0),(8,0),(10,2),(11,0)])] Zk (.cons ?_ (.cons ?_ .nil))
  ·refine ZcS (caF E.bc E.room E.X) (fun w hi hin=>HF w hin) ?_;rintro _ _ ⟨_,⟨y,rfl,rfl,hy⟩,rfl⟩;refine FH ?_;refine gM rfl ?_;refine fD rfl rfl (ft Zrf rfl) ZJ rfl ?_;rintro _ _ ⟨b9,rfl,rfl⟩;refine gM rfl ?_;refine eC rfl rfl (bV Zrf rfl rfl (fK y) Za (by exact rfl)) ZJ ?_;rintro _ _ ⟨rfl,rfl⟩;refine cT rfl (fm Zv0) rfl ?_;refine eP ?_;refine bY ((y,b9)) ?_ ?_ ?_
   ·exact hy
   ·exact Zwk
   exact Zj
  refine fD rfl rfl (ft Zrf rfl) ZJ rfl ?_;rintro _ _ ⟨b9,rfl,rfl⟩;refine gM rfl ?_;refine ZcS (caF E.bc E.room E.X) (fun w hi hin=>HF w hin) ?_;rintro _ _ ⟨_,⟨y,rfl,rfl,hy⟩,rfl⟩;refine FH ?_;refine gM rfl ?_;refine eC rfl rfl (bV Zrf rfl rfl (fK y) Za (by exact rfl)) ZJ ?_;rintro _ _ ⟨rfl,rfl⟩;refine cT rfl (fm Zv0) rfl ?_;refine eP ?_;refine bY ((y,b9)) ?_ ?_ ?_
  ·exact hy
  ·exact Zwk
  exact Zj
 rintro⟨y,b9⟩ hy;dsimp only at hy⊢;refine Zs ?_;refine cW (fun q:Nat=>[(0,.pointer (some ⟨be,0,none⟩)),(2,.slice A b.length c),(4,.pointer (some ⟨b4,0,none⟩)),(6,.pointer (some ⟨b6,0,none⟩)),(7,.pointer (some ⟨b7,0,none⟩)),(9,.pointer (some ⟨b9,0,none⟩)),(10,.bool o.isSome),(11,.pointer (some ⟨q,0,none⟩))]) (fun q=>enF be E++[baC y,row b4 (cz k) 98,row b6 (BA.cells ⟨⟨(0,0),[],0⟩,none,0⟩) 186,row b7 (RS.cells RS.zero) 105,row b9 (BA.cells y) 186,row q (RS.cells x) 105]) (fun _=>True) ?_ ?_
 ·refine jk ⟨fun j=>List.elem j [7],[]⟩ [(0,0),(1,0),(2,0),(3,1),(4,1),(5,3),(6,3),(7,3)] Zk Zk ?_;refine cT rfl (fP Zv0) rfl ?_;refine cT rfl (AO Zv0) rfl ?_;refine cT rfl (dN 1 rfl Zv0 Zf) rfl ?_;refine uy rfl (bO Zrf Zv0) (cB Zh rfl) rfl ?_;refine mB rfl Zh Zrf Zrf (Zv rfl) rfl ?_;refine FZ [(5,[(6,2),(7,2)]),(6,[(5,2),(7,2)])] Zk (.cons ?_ (.cons ?_ .nil))
  ·refine CD rfl (xM (zv:= .agg #[.slice none 0 0,.bool false]) (Zv rfl) (Zv rfl) hk rfl wI Zrf) (fun w hi=>(show ly E.mr (rnV E.RZ) w from hi.get (show Has _ (mpc E.mr (rnV E.RZ))from Zh))) rfl ?_;refine gM rfl ?_;refine fD rfl rfl (ft Zrf rfl) ZJ rfl ?_;rintro _ _ ⟨b11,rfl,rfl⟩;refine gM rfl ?_;rw[run_v E.RZ k,hx];refine eC rfl rfl (bV Zrf rfl rfl (fS x) Za (by exact rfl)) ZJ ?_;rintro _ _ ⟨rfl,rfl⟩;refine eP ?_;refine bY (b11) ?_ ?_ ?_
   ·trivial
   ·exact Zwk
   exact Zj
  refine fD rfl rfl (ft Zrf rfl) ZJ rfl ?_;rintro _ _ ⟨b11,rfl,rfl⟩;refine gM rfl ?_;refine CD rfl (xM (zv:= .agg #[.slice none 0 0,.bool false]) (Zv rfl) (Zv rfl) hk rfl wI Zrf) (fun w hi=>(show ly E.mr (rnV E.RZ) w from hi.get (show Has _ (mpc E.mr (rnV E.RZ))from Zh))) rfl ?_;refine gM rfl ?_;rw[run_v E.RZ k,hx];refine eC rfl rfl (bV Zrf rfl rfl (fS x) Za (by exact rfl)) ZJ ?_;rintro _ _ ⟨rfl,rfl⟩;refine eP ?_;refine bY (b11) ?_ ?_ ?_
  ·trivial
  ·exact Zwk
  exact Zj
 rintro b11 -;refine Z_7 ?_;refine dE (bZ rfl rfl) (.cons (dH rfl) (.cons (dH rfl) .nil)) (fun _ _=>rfl) (fun hg w hi=>wV A x.A c x.c b x.r.bytes hb hxr w (h w hi.JJ) (hxrd w (hi.get (show Has _ (dg (rnC E.RZ))from Zh)))) rfl ?_;refine Z_3 ?_;refine ZW ?_ ?_<;>intro hc3
 ·have h9:(o.isSome&&x.r.bytes.isPrefixOf b)=true:=hc3;rw[aB]at h9;obtain⟨y0,rfl⟩:=Option.isSome_iff_exists.1 h9.1;have hfk:=FK y0 rfl h9.2;have hyb:=hy y0 rfl;refine Zs (bR ⟨fun j=>List.elem j [2,3],[]⟩ Zk ?_);refine ZI 0 ?_;refine j4 1 2 Zk ?_ ?_
  ·refine jH rfl Zh Zrf Zrf (Zv rfl) rfl ?_;refine ce 2 Zk ?_;refine dp rfl rfl (bV Zrf rfl rfl (fK y) Za (by exact rfl)) ZJ ?_;rintro _ _ ⟨rfl,rfl⟩;refine ce 3 Zk ?_;refine dp rfl rfl (bV Zrf rfl rfl (fS x) Za (by exact rfl)) ZJ ?_;rintro _ _ ⟨rfl,rfl⟩;refine ZE 4 ?_;refine dr ?_;refine Z_3 ?_;refine bN (row b6 (BA.cells y) 186::row b7 (RS.cells x) 105::baC y::enF be E) Zj ?_;refine od (cs':=baC y::enF be E) (.inl rfl) (List.Sublist.cons _ (List.Sublist.cons _ (aQ _))) rfl rfl rfl rfl Zh Zh Zrf Zrf Zrf Zrf ?_;exact⟨E,hE,by rw[hfk],by rw[hfk];exact⟨y,x,rfl,rfl,fun t r e=>by cases e;exact⟨hyb,rfl⟩⟩⟩
  refine dp rfl rfl (bV Zrf rfl rfl (fK y) Za (by exact rfl)) ZJ ?_;rintro _ _ ⟨rfl,rfl⟩;refine ZI 1 ?_;refine ce 3 Zk ?_;refine dp rfl rfl (bV Zrf rfl rfl (fS x) Za (by exact rfl)) ZJ ?_;rintro _ _ ⟨rfl,rfl⟩;refine ZE 4 ?_;refine dr ?_;refine Z_3 ?_;refine bN (row b6 (BA.cells y) 186::row b7 (RS.cells x) 105::baC y::enF be E) Zj ?_;refine od (cs':=baC y::enF be E) (.inl rfl) (List.Sublist.cons _ (List.Sublist.cons _ (aQ _))) rfl rfl rfl rfl Zh Zh Zrf Zrf Zrf Zrf ?_;exact⟨E,hE,by rw[hfk],by rw[hfk];exact⟨y,x,rfl,rfl,fun t r e=>by cases e;exact⟨hyb,rfl⟩⟩⟩
 have hnk:=FN hc3;refine Z_5 ?_;refine ZS (fun w hi=>HP w (h w hi.JJ)) ?_;rintro _ _ ⟨_,⟨A1,c1,x2,hx2,rfl,rfl⟩,rfl⟩;refine Z_3 ?_;refine ZN fun b13=>?_
 refine ZA ?_;refine dD (bV Zrf rfl rfl (fS x2) Za (by exact rfl)) ?_;rintro _ _ ⟨rfl,rfl⟩;refine Z_3 ?_;rcases lo with _|p
 ·have hfn:=tW hnk (DY hR hlo);refine Z_4 ?_;refine ZSe (fun w hi=>HL A1 c1 w (hi.rd (show Has _ (slv 24 2 A1 l.length c1 (l.flatMap Cq))from Zh))) ?_;refine Z_3 ?_;refine ZN fun b14=>?_
  refine ZM ?_;refine dS ?_;refine bU rfl (rfl) ?_;refine Zs (bR ⟨fun j=>List.elem j [2,3],[]⟩ Zk ?_);refine ZI 0 ?_;refine j4 1 2 Zk ?_ ?_
  ·refine jH rfl Zh Zrf Zrf (Zv rfl) rfl ?_;refine ce 2 Zk ?_;refine dp rfl rfl (bV Zrf rfl rfl (fK y) Za (by exact rfl)) ZJ ?_;rintro _ _ ⟨rfl,rfl⟩;refine ce 3 Zk ?_;refine dp rfl rfl (bV Zrf rfl rfl (fS x2) Za (by exact rfl)) ZJ ?_;rintro _ _ ⟨rfl,rfl⟩;exact Wq30
  refine dp rfl rfl (bV Zrf rfl rfl (fK y) Za (by exact rfl)) ZJ ?_;rintro _ _ ⟨rfl,rfl⟩;refine ZI 1 ?_;refine ce 3 Zk ?_;refine dp rfl rfl (bV Zrf rfl rfl (fS x2) Za (by exact rfl)) ZJ ?_;rintro _ _ ⟨rfl,rfl⟩;exact Wq30
 obtain⟨hfit,hcnt,hl1,hl8,hgo⟩:=wG hu hlo;refine Z_4 ?_;refine ZS (fun w hi=>HL A1 c1 w (hi.rd (show Has _ (slv 24 2 A1 l.length c1 (l.flatMap Cq))from Zh))) ?_;rintro _ _ ⟨_,⟨Q,rfl,rfl⟩,rfl⟩;refine Z_3 ?_;refine ZN fun b14=>?_
 refine ZM ?_;refine dS ?_;refine gx ?_;refine Z_3 ?_;rcases hrb:p.JB with _|_
 ·have hfn:=tW hnk (G6 hR hlo hrb);refine Z_2 ?_;refine ZSe (fun w hi=>E9 p Q hfit hrb w ⟨hi.rd (show Has _ (slv 294 5 Q.Ac p.code.length Q.cc (p.code.flatMap II.cells))from Zh),hi.rd (show Has _ (sl .i64 3 Q.Ad p.Jw.length Q.cd p.Jw)from Zh),hi.rd (show Has _ (sl .i64 3 Q.Ar p.Jx.length Q.cr p.Jx)from Zh)⟩) ?_;refine gL ?_;refine bU rfl (rfl) ?_;refine Zs (bR ⟨fun j=>List.elem j [2,3],[]⟩ Zk ?_);refine ZI 0 ?_;refine j4 1 2 Zk ?_ ?_
  ·refine jH rfl Zh Zrf Zrf (Zv rfl) rfl ?_;refine ce 2 Zk ?_;refine dp rfl rfl (bV Zrf rfl rfl (fK y) Za (by exact rfl)) ZJ ?_;rintro _ _ ⟨rfl,rfl⟩;refine ce 3 Zk ?_;refine dp rfl rfl (bV Zrf rfl rfl (fS x2) Za (by exact rfl)) ZJ ?_;rintro _ _ ⟨rfl,rfl⟩;exact Wq30
  refine dp rfl rfl (bV Zrf rfl rfl (fK y) Za (by exact rfl)) ZJ ?_;rintro _ _ ⟨rfl,rfl⟩;refine ZI 1 ?_;refine ce 3 Zk ?_;refine dp rfl rfl (bV Zrf rfl rfl (fS x2) Za (by exact rfl)) ZJ ?_;rintro _ _ ⟨rfl,rfl⟩;exact Wq30
 have hfm:=ES hnk (G5 hR hlo hrb);obtain⟨hgd,hCl⟩:=hgo hrb;have hCne:=Ip p (dJ p);have HE:=Ie p Q hfit hrb hgd;obtain⟨C,hC⟩:=Zgn (gm p (dJ p));rw[hC]at hfm hgd hCl hCne HE;have hnew:kp k∧x2.r.bytes.length≤1000∧u8s x2.r.bytes:=(by rw[hx2];exact⟨hk,by show(b.take sz).length≤1000;rw[aC];omega,fun z hz=>hb z (List.mem_of_mem_take hz)⟩);refine Z_2 ?_;refine ZS (fun w hi=>HE w ⟨hi.rd (show Has _ (slv 294 5 Q.Ac p.code.length Q.cc (p.code.flatMap II.cells))from Zh),hi.rd (show Has _ (sl .i64 3 Q.Ad p.Jw.length Q.cd p.Jw)from Zh),hi.rd (show Has _ (sl .i64 3 Q.Ar p.Jx.length Q.cr p.Jx)from Zh)⟩) ?_;rintro _ _ ⟨_,⟨A3,c3,rfl,rfl⟩,rfl⟩;refine gL ?_;refine gx ?_;refine Z_9 ?_;refine dD (bV Zrf rfl rfl (fK ⟨⟨k,C,(l.length:Int)⟩,A3,c3⟩) Za (by exact rfl)) ?_;rintro _ _ ⟨rfl,rfl⟩;refine Z_3 ?_;refine bR ⟨fun j=>List.elem j [5],[]⟩ Zk ?_;refine gn ?_;refine ZFe 2 0 ?_;refine ZG 3 ?_;refine ZI 4 ?_;refine ce 5 Zk ?_;refine ZcA (caF E.bc E.room E.X) (fun w hi hin=>cput_ok E.bc E.room E.X hE.ca ⟨⟨k,C,(l.length:Int)⟩,A3,c3⟩ ⟨hCl,hk⟩ (show(1:Int)≤(l.length:Int) by omega) hCne w hin (fun w' hk'=>de (hi.JY Zi (show Has _ (sl .u8 5 A3 (cF C).length c3 (cF C))from Zh) hk'))) ?_;rintro _ _ ⟨_,⟨X',rfl,hX',hXZ⟩,rfl⟩;refine dr ?_;refine Z_2 ?_;refine bR ⟨fun j=>List.elem j [6],[]⟩ Zk ?_;refine gn ?_;refine ZFe 2 1 ?_;refine ZG 3 ?_;refine ZI 4 ?_;refine ZI 5 ?_;refine ce 6 Zk ?_;refine dp rfl rfl (t_mput rfl rfl rfl hk rfl wI Za) ZJ ?_;rintro _ _ ⟨rfl,rfl⟩;rw[rnV_put E.RZ k x2];refine dr ?_;refine Z_3 ?_;refine bR ⟨fun j=>List.elem j [9],[]⟩ Zk ?_;refine gn ?_;refine ZFe 2 1 ?_;refine ZE 5 ?_;refine ZE 6 ?_;refine ZFe 7 0 ?_;refine ZG 8 ?_;refine ce 3 Zk ?_;refine kg ?_;refine ce 4 Zk ?_;refine AU rfl (y_mlen (Zv rfl) rfl) (fun w hi=>(show ly E.mr (rnV (dB E.RZ k x2)) w from hi.get (show Has _ (mpc E.mr (rnV (dB E.RZ k x2)))from Zh))) rfl ?_;refine ce 9 Zk ?_;refine ZcA (caF E.bc E.room X') (fun w hi hin=>clen_ok E.bc E.room X' w hin) ?_;rintro _ _ ⟨_,⟨rfl,rfl⟩,rfl⟩;refine ZE 10 ?_;refine dr ?_;refine Zt ?_;refine ZW ?_ ?_<;>intro hc15
 ·have hd:decide ((X'.Z.length:Int)<((dB E.RZ k x2).length:Int))=true:=(by have h9:=hc15;rw[show(rnV (dB E.RZ k x2)).length=(dB E.RZ k x2).length from List.length_map _]at h9;exact h9)
  have had:=FG E X' ⟨k,C,(l.length:Int)⟩ x2 hXZ;dsimp only at had;rw[hd,ac,hx2]at had;refine Zr (sY (cin:=rnC E.RZ) (cin':=pQ E.RZ k) Zd (tA E.RZ k) ?_);refine AS (cin:=pQ E.RZ k) (c:=rsC x2) (cin':=rnC (dB E.RZ k x2)) Zd Zd (rnPut E.RZ k x2) ?_;refine ZA ?_;refine ZcL (enF be ((E.JO X').JU (dB E.RZ k x2))) (fun w hi hin=>z9 be ((E.JO X').JU (dB E.RZ k x2)) hX'.sm (Ee k x2 hE.rk) (fun y hy=>(qp hy).elim (fun e=>by rw[e];exact hk) (fun hy=>(hE.rs y hy).1)) w hin) ?_;rintro _ _ ⟨_,rfl,rfl⟩;refine Z_3 ?_;refine bR ⟨fun j=>List.elem j [2,3],[]⟩ Zk ?_;refine ZI 0 ?_;refine j4 1 2 Zk ?_ ?_
  ·refine jH rfl Zh Zrf Zrf (Zv rfl) rfl ?_;refine ce 2 Zk ?_;refine dp rfl rfl (bV Zrf rfl rfl (fK ⟨⟨k,C,(l.length:Int)⟩,A3,c3⟩) Za (by exact rfl)) ZJ ?_;rintro _ _ ⟨rfl,rfl⟩;refine ce 3 Zk ?_;refine dp rfl rfl (bV Zrf rfl rfl (fS x2) Za (by exact rfl)) ZJ ?_;rintro _ _ ⟨rfl,rfl⟩;refine ZE 4 ?_;refine dr ?_;refine Z_2 ?_;refine bN (row b6 (BA.cells ⟨⟨k,C,(l.length:Int)⟩,A3,c3⟩) 186::row b7 (RS.cells x2) 105::baC ⟨⟨k,C,(l.length:Int)⟩,A3,c3⟩::enF be ((E.JO X').JU (k9 X'.Z (dB E.RZ k x2)))) Zj ?_;refine od (cs':=baC ⟨⟨k,C,(l.length:Int)⟩,A3,c3⟩::enF be ((E.JO X').JU (k9 X'.Z (dB E.RZ k x2)))) (.inl rfl) (List.Sublist.cons _ (List.Sublist.cons _ (aQ _))) rfl rfl rfl rfl Zh Zh Zrf Zrf Zrf Zrf ?_;rw[hfm]at HG⊢;exact⟨(E.JO X').JU (k9 X'.Z (dB E.RZ k x2)),⟨hX',by rw[had];exact HG.1,fun y hy=>(qp (List.mem_filter.1 hy).1).elim (fun e=>by rw[e];exact hnew) (fun hy=>hE.rs y hy),hE.last⟩,had,⟨⟨⟨k,C,(l.length:Int)⟩,A3,c3⟩,x2,rfl,rfl,fun t r e=>by cases e;exact⟨rfl,hx2⟩⟩⟩
  refine dp rfl rfl (bV Zrf rfl rfl (fK ⟨⟨k,C,(l.length:Int)⟩,A3,c3⟩) Za (by exact rfl)) ZJ ?_;rintro _ _ ⟨rfl,rfl⟩;refine ZI 1 ?_;refine ce 3 Zk ?_;refine dp rfl rfl (bV Zrf rfl rfl (fS x2) Za (by exact rfl)) ZJ ?_;rintro _ _ ⟨rfl,rfl⟩;refine ZE 4 ?_;refine dr ?_;refine Z_2 ?_;refine bN (row b6 (BA.cells ⟨⟨k,C,(l.length:Int)⟩,A3,c3⟩) 186::row b7 (RS.cells x2) 105::baC ⟨⟨k,C,(l.length:Int)⟩,A3,c3⟩::enF be ((E.JO X').JU (k9 X'.Z (dB E.RZ k x2)))) Zj ?_;refine od (cs':=baC ⟨⟨k,C,(l.length:Int)⟩,A3,c3⟩::enF be ((E.JO X').JU (k9 X'.Z (dB E.RZ k x2)))) (.inl rfl) (List.Sublist.cons _ (List.Sublist.cons _ (aQ _))) rfl rfl rfl rfl Zh Zh Zrf Zrf Zrf Zrf ?_;rw[hfm]at HG⊢;exact⟨(E.JO X').JU (k9 X'.Z (dB E.RZ k x2)),⟨hX',by rw[had];exact HG.1,fun y hy=>(qp (List.mem_filter.1 hy).1).elim (fun e=>by rw[e];exact hnew) (fun hy=>hE.rs y hy),hE.last⟩,had,⟨⟨⟨k,C,(l.length:Int)⟩,A3,c3⟩,x2,rfl,rfl,fun t r e=>by cases e;exact⟨rfl,hx2⟩⟩⟩
 have hd:decide ((X'.Z.length:Int)<((dB E.RZ k x2).length:Int))=false:=(by have h9:=hc15;rw[show(rnV (dB E.RZ k x2)).length=(dB E.RZ k x2).length from List.length_map _]at h9;exact h9)
 have had:=FG E X' ⟨k,C,(l.length:Int)⟩ x2 hXZ;dsimp only at had;rw[hd,aa,hx2]at had;refine Z_3 ?_;refine bR ⟨fun j=>List.elem j [2,3],[]⟩ Zk ?_;refine ZI 0 ?_;refine j4 1 2 Zk ?_ ?_
 ·refine jH rfl Zh Zrf Zrf (Zv rfl) rfl ?_;refine ce 2 Zk ?_;refine dp rfl rfl (bV Zrf rfl rfl (fK ⟨⟨k,C,(l.length:Int)⟩,A3,c3⟩) Za (by exact rfl)) ZJ ?_;rintro _ _ ⟨rfl,rfl⟩;refine ce 3 Zk ?_;refine dp rfl rfl (bV Zrf rfl rfl (fS x2) Za (by exact rfl)) ZJ ?_;rintro _ _ ⟨rfl,rfl⟩;refine ZE 4 ?_;refine dr ?_;refine Z_2 ?_;exact Wq39
 refine dp rfl rfl (bV Zrf rfl rfl (fK ⟨⟨k,C,(l.length:Int)⟩,A3,c3⟩) Za (by exact rfl)) ZJ ?_;rintro _ _ ⟨rfl,rfl⟩;refine ZI 1 ?_;refine ce 3 Zk ?_;refine dp rfl rfl (bV Zrf rfl rfl (fS x2) Za (by exact rfl)) ZJ ?_;rintro _ _ ⟨rfl,rfl⟩;refine ZE 4 ?_;refine dr ?_;refine Z_2 ?_;exact Wq39
end Go.Proofs.YtakodpimdalajaaGreatDoor
namespace Go.Ink
open Go.RowKit
abbrev EnX.toldE(E:EnX)(X:CaX)(k:Ky)(c:Int):EnX:=⟨E.bc,E.mr,E.room,X,E.RZ,k,IntKind.i64.wrap (E.JP+c),E.JL,true⟩
theorem Ga{E:Eng}{s:St}{p:Int}{b:List Int}{G:Eng}(h:kt E (s.pc,p) b=(none,G)):i9 E s p b=(none,G):=by
 unfold i9;rw[h]
theorem CW{E:Eng}{s:St}{p:Int}{b:List Int}{G:Eng}{t:Blk}{r:Rn}{s1:St}{how:Int}(h:kt E (s.pc,p) b=(some (t,r),G))(hr:ic t.code s=(s1,how))(hh:(how !=1)=true):i9 E s p b=(none,G):=by
 unfold i9;rw[h];dsimp only;rw[hr];dsimp only;rw[show(how==1)=false by simpa using hh]
 rfl
theorem CV{E:Eng}{s:St}{p:Int}{b:List Int}{G:Eng}{t:Blk}{r:Rn}{s1:St}{how:Int}(h:kt E (s.pc,p) b=(some (t,r),G))(hr:ic t.code s=(s1,how))(hh:(how !=1)=false):i9 E s p b=(some (s1,r,t.count),{G with last:=(s.pc,p),begun:=true,JP:=IntKind.i64.wrap (G.JP+t.count)}):=by
 unfold i9;rw[h];dsimp only;rw[hr];dsimp only;rw[show(how==1)=true by simpa using hh]
 rfl
theorem nC.told{E:EnX}(h:nC E){X:CaX}(hX:oS E.room X)(hZ:X.Z=E.X.Z){k:Ky}(hk:kp k)(c:Int):nC (E.toldE X k c):=
 ⟨hX,h.eg.same rfl (by show X.Z.map BA.b=E.X.Z.map BA.b;rw[hZ]) rfl,h.rs,hk⟩
theorem Gc{E:EnX}{X:CaX}(hZ:X.Z=E.X.Z)(k:Ky)(c:Int):(E.toldE X k c).eng={E.eng with last:=k,begun:=true,JP:=IntKind.i64.wrap (E.eng.JP+c)}:=by
 show Eng.mk E.room (X.Z.map BA.b) (rnM E.RZ) k (IntKind.i64.wrap (E.JP+c)) E.JL true=Eng.mk E.room (E.X.Z.map BA.b) (rnM E.RZ) k (IntKind.i64.wrap (E.JP+c)) E.JL true;rw[hZ]
end Go.Ink
namespace Go.Proofs.YtakodpimdalajaaGreatDoor
open Go.RowKit Go.Ink Go.Proofs.Tryz
attribute [local irreducible] OpY bP
abbrev tF(bu bb:Nat)(L:fa)(s:St)(X:jq)(U:Mmu)(be:Nat)(E:EnX):List bJ:=slD s X.Ad X.cd::slR s X.Ar X.cr::(uF bu bb L U++enF be E)
def TransR(bu bb:Nat)(L:fa)(s:St)(U:Mmu)(be:Nat)(o:Option (St×Rn×Int))(E':EnX)(v:Value)(cs:List bJ):Prop:=match o with
 |none=>∃(X:jq) (x:RS),v= .tuple #[sv s X.Ad X.cd X.Ar X.cr,.agg x.cells.toArray,.int .i64 0]∧cs=tF bu bb L s X U be E'
 |some (o,r,k)=>∃(X:jq) (x:RS),x.r=r∧v= .tuple #[sv o X.Ad X.cd X.Ar X.cr,.agg x.cells.toArray,.int .i64 k]∧cs=tF bu bb L o X ⟨U.m.calm,U.t⟩ be E'
theorem EY(be bu bb:Nat)(L:fa)(E:EnX)(hE:nC E)(s:St)(X:jq)(p:Nat)(hp:p≤4294967295)(hpn:p/64<L.n)(U:Mmu)(hwf:s.wf)(hs:s.right=true)(hM:U.m.ok L.n)(w:World)(hi:Inv w (bK (tF bu bb L s X U be E)) (tF bu bb L s X U be E) w):
  Ctr prog 44 [.pointer (some ⟨be,0,none⟩),sv s X.Ad X.cd X.Ar X.cr,.int .u32 (p:Int),.pointer (some ⟨bu,0,none⟩)] w (tF bu bb L s X U be E) (fun v cs=>∃E',nC E'∧E'.eng=(i9 E.eng s p (iq U.m p)).2∧TransR bu bb L s U be (i9 E.eng s p (iq U.m p)).1 E' v cs):=by
 have hq:IntKind.u32.wrap ((p:Int).tdiv 64)=((p/64:Nat):Int):=by rw[bz Wq1,u32_wrap_id _ Wq1 Wq1];omega
 have hrm:(p:Int).tmod 64=((p%64:Nat):Int):=by rw[aF Wq1];omega
 have HP:=uK L U.m (p/64) hpn;have hbb:=rp hM p;have hbe:iq U.m p=((U.m.data.drop (p/64*64)).take 64).drop (p%64):=rfl;have hdl:=hM.dl;have hXl:((U.m.data.drop (p/64*64)).take 64).length=64:=by rw[aC,bn];omega
 obtain⟨D,hD⟩:=Zgn ((U.m.data.drop (p/64*64)).take 64);rw[hD]at HP hXl hbe;obtain⟨hd16,hr16, -⟩:=St.fits hs;have hky:kp (s.pc,(p:Int)):=⟨hwf.pc,by show 0≤(p:Int);omega,by show(p:Int)≤4294967295;omega⟩;have hbl:(iq U.m p).length=64 - p%64:=by rw[hbe,bn,hXl]
 have HFi:=fun A c w hi h=>Ic be E hE (s.pc,(p:Int)) hky A c (iq U.m p) hbb (by rw[hbl];omega) w hi h
 have HGo:=oK hE.eg (k:=(s.pc,(p:Int))) hbb;have hT1:=fun G h=>Ga (E:=E.eng) (s:=s) (p:=p) (b:=iq U.m p) (G:=G) h
 have hT2:=fun G t r s1 how h=>CW (E:=E.eng) (s:=s) (p:=p) (b:=iq U.m p) (G:=G) (t:=t) (r:=r) (s1:=s1) (how:=how) h
 have hT3:=fun G t r s1 how h=>CV (E:=E.eng) (s:=s) (p:=p) (b:=iq U.m p) (G:=G) (t:=t) (r:=r) (s1:=s1) (how:=how) h
 rw[hbl]at HFi;obtain⟨⟨o,G⟩,hF⟩:=Zgn (kt E.eng (s.pc,(p:Int)) (iq U.m p));rw[hF]at HFi HGo hT1 hT2 hT3;obtain⟨T,hT⟩:=Zgn (i9 E.eng s p (iq U.m p));rw[hT]at hT1 hT2 hT3⊢;rw[hbe]at HFi;clear hbe hbl;refine bL func44 rfl ntmps44 rfl hi ?_;refine Z_2 ?_;refine ZO fun b5=>?_;refine ZN fun b8=>?_
 refine ZN fun b9=>?_
 refine Z_6 ?_;refine ZSe (fun w hi=>kQ bu L.bm bb w (hi.get (show Has _ (FS bu L.bm bb)from Zh))) ?_;refine ZA ?_;refine Zy (jD (Zv rfl) (Zv rfl) Wq1 hq) ?_;refine Zy (bW rfl rfl Zv0 Zl) ?_;refine ZS (fun w hi=>HP w (hi.get (show Has _ (ek L U.m)from Zh))) ?_;rintro _ _ ⟨_,⟨bq,rfl,rfl⟩,rfl⟩;refine jA ?_;refine ZN fun b13=>?_
 refine dD (bV (vs:=cz (s.pc,(p:Int))) Zrf rfl rfl (rI _) Za (by exact rfl)) ?_;rintro _ _ ⟨rfl,rfl⟩;refine Z_2 ?_;refine cW (fun q:EnX×BA×RS×Nat×Nat=>[(0,.pointer (some ⟨be,0,none⟩)),(3,.pointer (some ⟨bu,0,none⟩)),(5,.pointer (some ⟨b5,0,none⟩)),(8,.pointer (some ⟨b8,0,none⟩)),(9,.pointer (some ⟨b9,0,none⟩)),(13,.pointer (some ⟨b13,0,none⟩)),(14,.pointer (some ⟨q.2.2.2.1,0,none⟩)),(15,.pointer (some ⟨q.2.2.2.2,0,none⟩)),(16,.bool o.isSome)]) (fun q=>tF bu bb L s X U be q.1++[baC q.2.1,row b5 (s.cells (.slice X.Ad s.d.length X.cd) (.slice X.Ar s.r.length X.cr)) 44,row b8 (St.zero.cells (.slice none 0 0) (.slice none 0 0)) 44,row b9 (RS.cells RS.zero) 105,row b13 (cz (s.pc,(p:Int))) 98,row q.2.2.2.1 (BA.cells q.2.1) 186,row q.2.2.2.2 (RS.cells q.2.2.1) 105]) (fun q=>nC q.1∧q.1.eng=G∧∀t r,o=some (t,r)→q.2.1.b=t∧q.2.2.1.r=r) ?_ ?_
 ·refine jk ⟨fun j=>List.elem j [6,13,14],[]⟩ [(0,0),(1,1),(2,0),(3,0),(4,0),(5,0),(6,3),(7,3),(8,3),(9,3),(10,3),(11,3),(12,3),(13,3),(14,3),(15,3)] Zk Zk ?_;refine cT rfl (fP Zv0) rfl ?_;refine uy rfl (cn (vs:=cz (s.pc,(p:Int))) Zrf Zrf Zv0) (cI Zh rfl) rfl ?_;refine cT rfl (fP Zv0) rfl ?_;refine cT rfl (fP Zv0) rfl ?_;refine cT rfl (gy (Zv rfl) (Zv rfl) Wq1 hrm) rfl ?_;refine cT rfl (kO (sz:=1) (lo:=p%64) (hi:=64) (r:=p%64) rfl Zrf (Zv rfl) (.inr ⟨_,_,rfl,(Zv rfl)⟩) (.inl ⟨rfl,rfl⟩) Wq1 Wq1 Wq1 Wq1) rfl ?_;refine FZ [(6,[(7,0),(8,0),(9,0),(10,0),(11,3),(12,3),(13,3),(14,3),(15,3)]),(11,[(6,3),(7,3),(8,3),(9,3),(10,3),(12,3),(13,3),(14,3),(15,3)]),(12,[(6,3),(7,3),(8,3),(9,3),(10,3),(11,3),(13,3),(14,3),(15,3)])] Zk (.cons ?_ (.cons ?_ (.cons ?_ .nil)))
  ·refine ZcS (enF be E) (fun w hi hin=>HFi (some ⟨bq,p%64,none⟩) (64 - p%64) w hin (fun w' hk=>Cf (de (hi.JY Zi (show Has _ (sl .u8 5 (some ⟨bq,0,none⟩) 64 64 D)from Zh) hk)) Wq1 hXl)) ?_;rintro _ _ ⟨_,⟨E2,hE2,hEe,y,x,rfl,rfl,hyx⟩,rfl⟩;refine FH ?_;refine cT rfl (fX Zv0 (.succ _ (.succ _ (.zero _ _)))) rfl ?_;refine FZ [(11,[(12,2),(13,2),(14,2),(15,0)]),(12,[(11,2),(13,2),(14,2),(15,0)])] Zk (.cons ?_ (.cons ?_ .nil))
   ·refine fD rfl rfl (ft Zrf rfl) ZJ rfl ?_;rintro _ _ ⟨b14,rfl,rfl⟩;refine gM rfl ?_;refine fD rfl rfl (ft Zrf rfl) ZJ rfl ?_;rintro _ _ ⟨b15,rfl,rfl⟩;refine gM rfl ?_;refine eC rfl rfl (bV Zrf rfl rfl (fK y) Za (by exact rfl)) ZJ ?_;rintro _ _ ⟨rfl,rfl⟩;refine gM rfl ?_;refine eC rfl rfl (bV Zrf rfl rfl (fS x) Za (by exact rfl)) ZJ ?_;rintro _ _ ⟨rfl,rfl⟩;refine cT rfl (fm Zv0) rfl ?_;refine eP ?_;refine bY ((E2,y,x,b14,b15)) ?_ ?_ ?_
    ·exact⟨hE2,hEe,hyx⟩
    ·exact Zwk
    exact Zj
   refine fD rfl rfl (ft Zrf rfl) ZJ rfl ?_;rintro _ _ ⟨b15,rfl,rfl⟩;refine gM rfl ?_;refine fD rfl rfl (ft Zrf rfl) ZJ rfl ?_;rintro _ _ ⟨b14,rfl,rfl⟩;refine gM rfl ?_;refine eC rfl rfl (bV Zrf rfl rfl (fK y) Za (by exact rfl)) ZJ ?_;rintro _ _ ⟨rfl,rfl⟩;refine gM rfl ?_;refine eC rfl rfl (bV Zrf rfl rfl (fS x) Za (by exact rfl)) ZJ ?_;rintro _ _ ⟨rfl,rfl⟩;refine cT rfl (fm Zv0) rfl ?_;refine eP ?_;refine bY ((E2,y,x,b14,b15)) ?_ ?_ ?_
   ·exact⟨hE2,hEe,hyx⟩
   ·exact Zwk
   exact Zj
  ·refine fD rfl rfl (ft Zrf rfl) ZJ rfl ?_;rintro _ _ ⟨b14,rfl,rfl⟩;refine FZ [(6,[(7,0),(8,0),(9,0),(10,0),(12,2),(13,2),(14,2),(15,0)]),(12,[(6,2),(7,0),(8,0),(9,0),(10,0),(13,2),(14,2),(15,0)])] Zk (.cons ?_ (.cons ?_ .nil))
   ·refine ZcS (enF be E) (fun w hi hin=>HFi (some ⟨bq,p%64,none⟩) (64 - p%64) w hin (fun w' hk=>Cf (de (hi.JY Zi (show Has _ (sl .u8 5 (some ⟨bq,0,none⟩) 64 64 D)from Zh) hk)) Wq1 hXl)) ?_;rintro _ _ ⟨_,⟨E2,hE2,hEe,y,x,rfl,rfl,hyx⟩,rfl⟩;refine FH ?_;refine cT rfl (fX Zv0 (.succ _ (.succ _ (.zero _ _)))) rfl ?_;refine gM rfl ?_;refine fD rfl rfl (ft Zrf rfl) ZJ rfl ?_;rintro _ _ ⟨b15,rfl,rfl⟩;refine gM rfl ?_;refine eC rfl rfl (bV Zrf rfl rfl (fK y) Za (by exact rfl)) ZJ ?_;rintro _ _ ⟨rfl,rfl⟩;refine gM rfl ?_;refine eC rfl rfl (bV Zrf rfl rfl (fS x) Za (by exact rfl)) ZJ ?_;rintro _ _ ⟨rfl,rfl⟩;refine cT rfl (fm Zv0) rfl ?_;refine eP ?_;refine bY ((E2,y,x,b14,b15)) ?_ ?_ ?_
    ·exact⟨hE2,hEe,hyx⟩
    ·exact Zwk
    exact Zj
   refine fD rfl rfl (ft Zrf rfl) ZJ rfl ?_;rintro _ _ ⟨b15,rfl,rfl⟩;refine gM rfl ?_;refine ZcS (enF be E) (fun w hi hin=>HFi (some ⟨bq,p%64,none⟩) (64 - p%64) w hin (fun w' hk=>Cf (de (hi.JY Zi (show Has _ (sl .u8 5 (some ⟨bq,0,none⟩) 64 64 D)from Zh) hk)) Wq1 hXl)) ?_;rintro _ _ ⟨_,⟨E2,hE2,hEe,y,x,rfl,rfl,hyx⟩,rfl⟩;refine FH ?_;refine cT rfl (fX Zv0 (.succ _ (.succ _ (.zero _ _)))) rfl ?_;refine gM rfl ?_;refine eC rfl rfl (bV Zrf rfl rfl (fK y) Za (by exact rfl)) ZJ ?_;rintro _ _ ⟨rfl,rfl⟩;refine gM rfl ?_;refine eC rfl rfl (bV Zrf rfl rfl (fS x) Za (by exact rfl)) ZJ ?_;rintro _ _ ⟨rfl,rfl⟩;refine cT rfl (fm Zv0) rfl ?_;refine eP ?_;refine bY ((E2,y,x,b14,b15)) ?_ ?_ ?_
   ·exact⟨hE2,hEe,hyx⟩
   ·exact Zwk
   exact Zj
  refine fD rfl rfl (ft Zrf rfl) ZJ rfl ?_;rintro _ _ ⟨b15,rfl,rfl⟩;refine FZ [(6,[(7,0),(8,0),(9,0),(10,0),(11,2),(13,2),(14,2),(15,0)]),(11,[(6,2),(7,0),(8,0),(9,0),(10,0),(13,2),(14,2),(15,0)])] Zk (.cons ?_ (.cons ?_ .nil))
  ·refine ZcS (enF be E) (fun w hi hin=>HFi (some ⟨bq,p%64,none⟩) (64 - p%64) w hin (fun w' hk=>Cf (de (hi.JY Zi (show Has _ (sl .u8 5 (some ⟨bq,0,none⟩) 64 64 D)from Zh) hk)) Wq1 hXl)) ?_;rintro _ _ ⟨_,⟨E2,hE2,hEe,y,x,rfl,rfl,hyx⟩,rfl⟩;refine FH ?_;refine cT rfl (fX Zv0 (.succ _ (.succ _ (.zero _ _)))) rfl ?_;refine gM rfl ?_;refine fD rfl rfl (ft Zrf rfl) ZJ rfl ?_;rintro _ _ ⟨b14,rfl,rfl⟩;refine gM rfl ?_;refine eC rfl rfl (bV Zrf rfl rfl (fK y) Za (by exact rfl)) ZJ ?_;rintro _ _ ⟨rfl,rfl⟩;refine gM rfl ?_;refine eC rfl rfl (bV Zrf rfl rfl (fS x) Za (by exact rfl)) ZJ ?_;rintro _ _ ⟨rfl,rfl⟩;refine cT rfl (fm Zv0) rfl ?_;refine eP ?_;refine bY ((E2,y,x,b14,b15)) ?_ ?_ ?_
   ·exact⟨hE2,hEe,hyx⟩
   ·exact Zwk
   exact Zj
  refine fD rfl rfl (ft Zrf rfl) ZJ rfl ?_;rintro _ _ ⟨b14,rfl,rfl⟩;refine gM rfl ?_;refine ZcS (enF be E) (fun w hi hin=>HFi (some ⟨bq,p%64,none⟩) (64 - p%64) w hin (fun w' hk=>Cf (de (hi.JY Zi (show Has _ (sl .u8 5 (some ⟨bq,0,none⟩) 64 64 D)from Zh) hk)) Wq1 hXl)) ?_;rintro _ _ ⟨_,⟨E2,hE2,hEe,y,x,rfl,rfl,hyx⟩,rfl⟩;refine FH ?_;refine cT rfl (fX Zv0 (.succ _ (.succ _ (.zero _ _)))) rfl ?_;refine gM rfl ?_;refine eC rfl rfl (bV Zrf rfl rfl (fK y) Za (by exact rfl)) ZJ ?_;rintro _ _ ⟨rfl,rfl⟩;refine gM rfl ?_;refine eC rfl rfl (bV Zrf rfl rfl (fS x) Za (by exact rfl)) ZJ ?_;rintro _ _ ⟨rfl,rfl⟩;refine cT rfl (fm Zv0) rfl ?_;refine eP ?_;refine bY ((E2,y,x,b14,b15)) ?_ ?_ ?_
  ·exact⟨hE2,hEe,hyx⟩
  ·exact Zwk
  exact Zj
 rintro⟨E2,⟨yb,A1,c1⟩,⟨xr,A2,c2⟩,b14,b15⟩ ⟨hE2,hEe,hyx⟩;dsimp only at hE2 hEe hyx⊢;refine Z_7 ?_;refine ZW ?_ ?_<;>intro hc4
 ·obtain rfl:o=none:=(by cases o with|none=>rfl|some q=>cases hc4);have hTn:=hT1 G rfl;refine Zs (bR ⟨fun j=>List.elem j [2,3],qY b15 (RS.cells ⟨xr,A2,c2⟩)⟩ Zk ?_);refine ZI 0 ?_;refine s6 1 rfl Zk Zk Zk (cn (vs:=RS.cells ⟨xr,A2,c2⟩) Zrf Zrf Zv0) (fun x hx=>fY x hx) (bQ (t:=105) Zh) rfl ?_;refine ce 2 Zk ?_;refine dp rfl rfl (bV Zrf rfl rfl (jp rfl) Za (by exact rfl)) (fun _=>by rintro _ _ ⟨rfl,rfl⟩;exact bQ (t:=105) Zh) ?_;rintro _ _ ⟨rfl,rfl⟩;refine ce 3 Zk ?_;refine dp rfl rfl (bV Zrf rfl rfl (fS ⟨xr,A2,c2⟩) Za (by exact rfl)) (fun _=>by rintro _ _ ⟨rfl,rfl⟩;exact bQ (t:=105) Zh) ?_;rintro _ _ ⟨rfl,rfl⟩;refine ZE 4 ?_;refine dr ?_;refine Z_3 ?_;refine bN (row b8 (s.cells (.slice X.Ad s.d.length X.cd) (.slice X.Ar s.r.length X.cr)) 44::row b9 (RS.cells ⟨xr,A2,c2⟩) 105::tF bu bb L s X U be E2) Zj ?_;refine od (cs':=tF bu bb L s X U be E2) (.inl rfl) (List.Sublist.cons _ (List.Sublist.cons _ (aQ _))) rfl rfl rfl rfl Zh Zh Zrf Zrf Zrf Zrf ?_;rw[hTn];exact⟨E2,hE2,hEe,X,⟨xr,A2,c2⟩,rfl,rfl⟩
 obtain⟨⟨⟨tk,C,tc⟩,r⟩,rfl⟩:∃q,o=some q:=(by cases o with|none=>cases hc4|some q=>exact⟨q,rfl⟩);obtain⟨rfl,rfl⟩:=hyx _ _ rfl;obtain⟨pg,il,g1,g2,g3,g4,g5,g6,g7⟩:=HGo.2.2.2.2 _ _ rfl;obtain⟨-, -, -, -,hgo⟩:=wG g6 g1;obtain⟨hgd,hCl⟩:=hgo g2;dsimp only at g3;rw[←g3]at hgd hCl;have HRn:=fun A c w h h3=>erun_ok A c C hgd hCl s hwf hs X.Ad X.Ar X.cd X.cr w h h3
 have hTb:=fun s1 how=>hT2 G ⟨tk,C,tc⟩ xr s1 how rfl
 have hTy:=fun s1 how=>hT3 G ⟨tk,C,tc⟩ xr s1 how rfl
 obtain⟨⟨s1,how⟩,hrc⟩:=Zgn (ic C s);dsimp only at hTb hTy;rw[hrc]at HRn;dsimp only at HRn;refine Z_7 ?_;refine ZS (fun w hi=>HRn A1 c1 w (hi.rd (show Has _ (baC ⟨⟨tk,C,tc⟩,A1,c1⟩)from Zh)) (hi.Kp (show Has _ (slD s X.Ad X.cd)from Zh) (show Has _ (slR s X.Ar X.cr)from Zh) Wq1 Wq1)) ?_;rintro _ _ ⟨_,⟨X1,rfl,rfl⟩,rfl⟩;refine Z_3 ?_;refine ZN fun b17=>?_
 refine ZM ?_;refine dS ?_;refine ZW ?_ ?_<;>intro hc7
 ·have hTn:=hTb s1 how hrc hc7;refine Zs (bR ⟨fun j=>List.elem j [2,3],qY b15 (RS.cells ⟨xr,A2,c2⟩)⟩ Zk ?_);refine ZI 0 ?_;refine s6 1 rfl Zk Zk Zk (cn (vs:=RS.cells ⟨xr,A2,c2⟩) Zrf Zrf Zv0) (fun x hx=>fY x hx) (bQ (t:=105) Zh) rfl ?_;refine ce 2 Zk ?_;refine dp rfl rfl (bV Zrf rfl rfl (jp rfl) Za (by exact rfl)) (fun _=>by rintro _ _ ⟨rfl,rfl⟩;exact bQ (t:=105) Zh) ?_;rintro _ _ ⟨rfl,rfl⟩;refine ce 3 Zk ?_;refine dp rfl rfl (bV Zrf rfl rfl (fS ⟨xr,A2,c2⟩) Za (by exact rfl)) (fun _=>by rintro _ _ ⟨rfl,rfl⟩;exact bQ (t:=105) Zh) ?_;rintro _ _ ⟨rfl,rfl⟩;refine ZE 4 ?_;refine dr ?_;refine Z_3 ?_;refine bN (row b8 (s.cells (.slice X.Ad s.d.length X.cd) (.slice X.Ar s.r.length X.cr)) 44::row b9 (RS.cells ⟨xr,A2,c2⟩) 105::tF bu bb L s X U be E2) Zj ?_;refine od (cs':=tF bu bb L s X U be E2) (.inl rfl) (List.Sublist.cons _ (List.Sublist.cons _ (aQ _))) rfl rfl rfl rfl Zh Zh Zrf Zrf Zrf Zrf ?_;rw[hTn];exact⟨E2,hE2,hEe,X,⟨xr,A2,c2⟩,rfl,rfl⟩
 have hTn:=hTy s1 how hrc hc7;refine Z_5 ?_;refine ZSe (fun w hi=>kQ bu L.bm bb w (hi.get (show Has _ (FS bu L.bm bb)from Zh))) ?_;refine ZcM ([ek L U.m]) (fun w hi hin=>zu L U.m w hin) ?_;refine Z_2 ?_;refine cW (fun Y:CaX=>[(0,.pointer (some ⟨be,0,none⟩)),(8,.pointer (some ⟨b8,0,none⟩)),(9,.pointer (some ⟨b9,0,none⟩)),(13,.pointer (some ⟨b13,0,none⟩)),(14,.pointer (some ⟨b14,0,none⟩)),(15,.pointer (some ⟨b15,0,none⟩)),(17,.pointer (some ⟨b17,0,none⟩))]) (fun Y=>row b8 (St.zero.cells (.slice none 0 0) (.slice none 0 0)) 44::row b9 (RS.cells RS.zero) 105::row b13 (cz (s.pc,(p:Int))) 98::row b14 (BA.cells ⟨⟨tk,C,tc⟩,A1,c1⟩) 186::row b15 (RS.cells ⟨xr,A2,c2⟩) 105::row b17 (s1.cells (.slice X1.Ad s1.d.length X1.cd) (.slice X1.Ar s1.r.length X1.cr)) 44::tF bu bb L s1 X1 ⟨U.m.calm,U.t⟩ be (E2.JO Y)) (fun Y=>oS E2.room Y∧Y.Z=E2.X.Z) ?_ ?_
 ·refine Z_8 ?_;refine ZW ?_ ?_<;>intro hc10
  ·refine bR ⟨fun j=>List.elem j [9],[]⟩ Zk ?_;refine gn ?_;refine ZFe 2 0 ?_;refine ZG 3 ?_;refine ZE 4 ?_;refine ZE 5 ?_;refine ZFe 6 2 ?_;refine dm 7 rfl Zk Zk Zk Zk (cn (vs:=cz E2.last) Zrf Zrf Zv0) (cI Zh rfl) rfl ?_;refine dm 8 rfl Zk Zk Zk Zk (cn (vs:=cz (s.pc,(p:Int))) Zrf Zrf Zv0) (cI Zh rfl) rfl ?_;refine ce 9 Zk ?_;refine ZcA (caF E2.bc E2.room E2.X) (fun w hi hin=>Iq E2.bc E2.room E2.X hE2.ca E2.last (s.pc,(p:Int)) hE2.last w hin) ?_;rintro _ _ ⟨_,⟨X2,rfl,hX2,hXZ⟩,rfl⟩;refine dr ?_;refine bY (X2) ?_ ?_ ?_
   ·exact⟨hX2,hXZ⟩
   ·exact Zwk
   exact Zj
  refine Zc ?_;refine bY (E2.X) ?_ ?_ ?_
  ·exact⟨hE2.ca,rfl⟩
  ·exact Zwk
  exact Zj
 rintro Y ⟨hY,hYZ⟩;refine Z_4 ?_;refine dL (cn (vs:=cz (s.pc,(p:Int))) Zrf Zrf Zv0) (cI Zh rfl) rfl ?_;refine Z_2 ?_;refine dD (eG (ys:=[.pointer (some ⟨E2.bc,0,none⟩),.map (some E2.mr),.int .u32 s.pc,.int .u32 (p:Int),.int .i64 E2.JP,.int .i64 E2.JL,.bool E2.begun]) (n:=2) (vs:=cz (s.pc,(p:Int))) rfl Zrf rfl rfl (rI _) Za rfl (Nat.le_of_ble_eq_true rfl)) ?_;rintro _ _ ⟨rfl,rfl⟩;refine Z_2 ?_;refine ZL ?_;refine Z_3 ?_;refine bR ⟨fun j=>List.elem j [9],[]⟩ Zk ?_;refine gn ?_;refine ZFe 2 4 ?_;refine ZG 3 ?_;refine ZFe 4 3 ?_;refine ZG 5 ?_;refine cD 6 rfl Zk Zk Zk (cX Zv0 Zv0 Zl) rfl ?_;refine ZE 7 ?_;refine ZFe 8 4 ?_;refine ce 9 Zk ?_;refine ZQ ?_;refine dr ?_;refine Z_2 ?_;refine bR ⟨fun j=>List.elem j [4,5],qY b14 (BA.cells ⟨⟨tk,C,tc⟩,A1,c1⟩)++qY b15 (RS.cells ⟨xr,A2,c2⟩)⟩ Zk ?_;refine ZI 0 ?_;refine s6 1 rfl Zk Zk Zk (cn (vs:=RS.cells ⟨xr,A2,c2⟩) Zrf Zrf Zv0) (fun x hx=>List.mem_append_right _ (fY x hx)) (fJ (bQ (t:=186) Zh) (bQ (t:=105) Zh)) rfl ?_;refine ZFe 2 3 ?_;refine iC 3 rfl Zk Zk Zk (bO Zrf (Zv rfl)) Wq2 (fJ (bQ (t:=186) Zh) (bQ (t:=105) Zh)) rfl ?_;refine ce 4 Zk ?_;refine dp rfl rfl (bV Zrf rfl rfl (jp rfl) Za (by exact rfl)) (fun _=>by rintro _ _ ⟨rfl,rfl⟩;exact fJ (bQ (t:=186) Zh) (bQ (t:=105) Zh)) ?_;rintro _ _ ⟨rfl,rfl⟩;refine ce 5 Zk ?_;refine dp rfl rfl (bV Zrf rfl rfl (fS ⟨xr,A2,c2⟩) Za (by exact rfl)) (fun _=>by rintro _ _ ⟨rfl,rfl⟩;exact fJ (bQ (t:=186) Zh) (bQ (t:=105) Zh)) ?_;rintro _ _ ⟨rfl,rfl⟩;refine ZE 6 ?_;refine dr ?_;refine Z_2 ?_;refine bN (row b8 (s1.cells (.slice X1.Ad s1.d.length X1.cd) (.slice X1.Ar s1.r.length X1.cr)) 44::row b9 (RS.cells ⟨xr,A2,c2⟩) 105::tF bu bb L s1 X1 ⟨U.m.calm,U.t⟩ be (E2.toldE Y (s.pc,(p:Int)) tc)) Zj ?_;refine od (cs':=tF bu bb L s1 X1 ⟨U.m.calm,U.t⟩ be (E2.toldE Y (s.pc,(p:Int)) tc)) (.inl rfl) (List.Sublist.cons _ (List.Sublist.cons _ (aQ _))) rfl rfl rfl rfl Zh Zh Zrf Zrf Zrf Zrf ?_;rw[hTn];exact⟨_,hE2.told hY hYZ hky tc,by rw[Gc hYZ,hEe],X1,⟨xr,A2,c2⟩,rfl,rfl,rfl⟩
end Go.Proofs.YtakodpimdalajaaGreatDoor
