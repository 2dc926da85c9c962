/- Lemmas. -/
import Derived.Test.YtkegldppffignaaGreatDoorPaa
import Derived.Test.YtkegldppffignaaGreatDoorPab
import Derived.Test.YtkegldppffignaaGreatDoorPas
import Derived.Test.YtkegldppffignaaGreatDoorPaw
set_option linter.unusedSimpArgs false
set_option linter.unusedVariables false
set_option maxRecDepth 100000
set_option maxHeartbeats 4000000
namespace Go.Ink
open Go.RowKit
theorem run_v(RZ:List (Ky×RS))(k:Ky):gq (rnV RZ) k (.agg #[.slice none 0 0,.bool false])=(gq RZ k RS.zero).v:=wP RS.v RZ k RS.zero
theorem run_r(RZ:List (Ky×RS))(k:Ky):gq (rnM RZ) k Rn.zero=(gq RZ k RS.zero).r:=wP RS.r RZ k RS.zero
theorem rnM_put(RZ:List (Ky×RS))(k:Ky)(x:RS):rnM (dL RZ k x)=dL (rnM RZ) k x.r:=(BV RS.r RZ k x).symm
theorem rnV_put(RZ:List (Ky×RS))(k:Ky)(x:RS):dL (rnV RZ) k (.agg x.cells.toArray)=rnV (dL RZ k x):=BV RS.v RZ k x
theorem F7(RZ:List (Ky×RS))(k:Ky):gq RZ k RS.zero=RS.zero\/∃y,y∈RZ/\y.2=gq RZ k RS.zero:=by
 unfold gq;cases hf:RZ.find? (λx=>x.1==k)with
 |none=>exact Or.inl rfl
 |some y=>exact Or.inr ⟨y,List.mem_of_find?_eq_some hf,rfl⟩
theorem rM{β:Type}{L:List (Ky×β)}{k:Ky}{v:β}{y:Ky×β}(h:y∈dL L k v):y=(k,v)\/y∈L:=by
 unfold dL at h;cases hp:cS (λx:Ky×β=>x.1) k L with
 |some j=>rw[hp]at h;exact(List.mem_or_eq_of_mem_set h).symm
 |none=>
  rw[hp]at h;rcases aS.1 h with h|h
  .exact Or.inr h
  exact Or.inl (by simpa using h)
theorem Ha{RZ:List (Ky×RS)}(k:Ky)(x:RS)(h:(RZ.map (·.1)).Nodup):((dL RZ k x).map (·.1)).Nodup:=by
 rw[wM];exact ql h
theorem Cw(Z:List BA)(k:Ky):(Z.map BA.b).find? (λt=>t.key==k)=(Z.find? λx=>x.key==k).map BA.b:=by
 rw[List.find?_map]
 rfl
theorem Ik{E:EnX}{k:Ky}{b:List Int}{y:BA}(h:(E.X.Z.find? λx=>x.key==k)=some y)(hp:(gq E.RZ k RS.zero).r.bytes.isPrefixOf b=true):lj E.eng k b=(some (y.b,(gq E.RZ k RS.zero).r),E.eng):=by
 unfold lj yP;rw[show E.eng.l=E.X.Z.map BA.b from rfl,Cw,h,show E.eng.runs=rnM E.RZ from rfl,run_r];dsimp only[Option.map_some];rw[hp]
 rfl
theorem Lh{E:EnX}{k:Ky}{b:List Int}{o:Option BA}(ho:(E.X.Z.find? λx=>x.key==k)=o)(hp:(o.isSome&&(gq E.RZ k RS.zero).r.bytes.isPrefixOf b)=false):yP E.eng k b=none:=by
 unfold yP;rw[show E.eng.l=E.X.Z.map BA.b from rfl,Cw,ho,show E.eng.runs=rnM E.RZ from rfl,run_r];cases o with
 |none=>rfl
 |some y=>
  dsimp only[Option.map_some];rw[show(gq E.RZ k RS.zero).r.bytes.isPrefixOf b=false from hp]
  rfl
theorem vG{E:Eng}{k:Ky}{b:List Int}(h:yP E k b=none)(hm:s8 k b=none):lj E k b=(none,E):=by
 unfold lj;rw[h,hm]
theorem Ij{E:Eng}{k:Ky}{b:List Int}{t:Blk}{r:Rn}(h:yP E k b=none)(hm:s8 k b=some (t,r)):lj E k b=(some (t,r),addE E t r):=by
 unfold lj;rw[h,hm]
theorem GQ{k:Ky}{b:List Int}{l:List (Int×Int)}{sz:Nat}{en:Bool}(hR:cM b 8 0=(l,sz,en))(h:fJ k.1 l=none):s8 k b=none:=by
 unfold s8;rw[hR,h]
theorem KI{k:Ky}{b:List Int}{l:List (Int×Int)}{sz:Nat}{en:Bool}{p:Pg}(hR:cM b 8 0=(l,sz,en))(h:fJ k.1 l=some p)(hr:p.M0=false):s8 k b=none:=by
 unfold s8;rw[hR,h];dsimp only;rw[hr]
 rfl
theorem KH{k:Ky}{b:List Int}{l:List (Int×Int)}{sz:Nat}{en:Bool}{p:Pg}(hR:cM b 8 0=(l,sz,en))(h:fJ k.1 l=some p)(hr:p.M0=true):s8 k b=some (⟨k,gQ p (dV p),(l.length:Int)⟩,⟨b.take sz,en⟩):=by
 unfold s8;rw[hR,h];dsimp only;rw[hr]
 rfl
theorem LD(p:Pg)(pl:Pl):gQ p pl≠[]:=by
 unfold gQ;simp
theorem I4(E:EnX)(X':CaX)(t:Blk)(x:RS)(hX:X'.Z.map BA.b=sU Blk.key E.room (E.X.Z.map BA.b) t):
  (bif decide ((X'.Z.length:Int)<((dL E.RZ t.key x).length:Int))then((E.Nj X').Np (lX X'.Z (dL E.RZ t.key x))).eng else((E.Nj X').Np (dL E.RZ t.key x)).eng)=addE E.eng t x.r:=by
 unfold addE;dsimp only;rw[show E.eng.room=E.room from rfl,show E.eng.l=E.X.Z.map BA.b from rfl,show E.eng.runs=rnM E.RZ from rfl,<-hX,<-rnM_put,List.length_map];have e:(rnM (dL E.RZ t.key x)).length=(dL E.RZ t.key x).length:=List.length_map _;rw[e];cases hd:decide ((X'.Z.length:Int)<((dL E.RZ t.key x).length:Int))with
 |true=>
  simp only[aj]at hd;rw[ax (show X'.Z.length<(dL E.RZ t.key x).length by omega),ac,ac,yO]
  rfl
 |false=>
  simp only[ah]at hd;rw[aw (show¬X'.Z.length<(dL E.RZ t.key x).length by omega),aa,aa]
  rfl
end Go.Ink
namespace Go.Proofs.YtkegldppffignaaGreatDoor
open Go.RowKit Go.Ink Go.Proofs.Tryz
attribute [local irreducible] OpY bS
theorem run_rd{w:World}{RZ:List (Ky×RS)}{k:Ky}(h:(dp (rnC RZ)).ok w):Rd w .u8 (gq RZ k RS.zero).A (gq RZ k RS.zero).r.bytes.length (gq RZ k RS.zero).c (gq RZ k RS.zero).r.bytes:=by
 rcases F7 RZ k with e|⟨y,hy,e⟩
 .rw[e];exact wV w .u8
 rw[<-e];exact dk (rX h (rsC y.2) (aZ.2 ⟨y,hy,rfl⟩))
def qS(RZ:List (Ky×RS))(k:Ky):List bL:=match cS (·.1) k RZ with|some j=>(rnC RZ).eraseIdx j|none=>rnC RZ
theorem vi(RZ:List (Ky×RS))(k:Ky):(qS RZ k).Sublist (rnC RZ):=by
 unfold qS;cases cS (λx:Ky×RS=>x.1) k RZ with
 |some j=>exact List.eraseIdx_sublist _ _
 |none=>exact aR _
theorem rnPut(RZ:List (Ky×RS))(k:Ky)(x:RS):(rnC (dL RZ k x)).Perm (rsC x::qS RZ k):=by
 unfold qS dL;cases hp:cS (λx:Ky×RS=>x.1) k RZ with
 |some j=>
  obtain⟨hj, -⟩:=fH hp;dsimp only;unfold rnC;rw[List.map_set];exact rR (by simpa using hj)
 |none=>
  dsimp only;unfold rnC;rw[List.map_append];exact List.perm_append_singleton _ _
theorem IQ(bc:Nat)(room:Int)(X:CaX)(hS:BaSm X.Z)(k:Ky)(w:World)(hi:Inv w (bM (caF bc room X)) (caF bc room X) w):
  Ctr prog 105 [.pointer (some ⟨bc,0,none⟩),.agg (cC k).toArray] w (caF bc room X) (λv cs=>∃y:BA,v= .tuple #[.agg y.cells.toArray,.bool (X.Z.find? λx=>x.key==k).isSome]/\cs=caF bc room X++[baC y]/\∀x,(X.Z.find? λx=>x.key==k)=some x->y.b=x.b):=by
 have h:=CL bc room X hS k w hi;obtain⟨o,ho⟩:=Zgn ((X.Z.find? λx=>x.key==k));rw[ho]at h|-;refine h.up λv cs w' hk hi'=>?_
 cases o with
 |none=>
  obtain⟨rfl,rfl⟩:=hk;exact⟨_,⟨⟨⟨(0,0),[],0⟩,none,0⟩,rfl,rfl,λx e=>nomatch e⟩,hi'.more (xn w' [] 5 1)⟩
 |some x=>
  obtain⟨A',c',rfl,rfl⟩:=hk;exact⟨_,⟨⟨x.b,A',c'⟩,rfl,rfl,λx e=>by cases e;rfl⟩,hi'.perm (List.perm_append_singleton _ _).symm⟩
def FindR(be:Nat)(o:Option (Blk×Rn))(E':EnX)(v:Value)(cs:List bL):Prop:=∃(y:BA) (x:RS),v= .tuple #[.agg y.cells.toArray,.agg x.cells.toArray,.bool o.isSome]/\cs=baC y::enF be E'/\∀t r,o=some (t,r)->y.b=t/\x.r=r
theorem Ln(be:Nat)(E:EnX)(hE:oG E)(k:Ky)(hk:lc k)(A:Option Addr)(c:Nat)(b:List Int)(hb:u8s b)(hbl:b.length<=1000)(w:World)(hi:Inv w (bM (enF be E)) (enF be E) w)(h:∀w',dG (bM (enF be E)) w w'->Rd w' .u8 A b.length c b):
  Ctr prog 129 [.pointer (some ⟨be,0,none⟩),.agg (cC k).toArray,.slice A b.length c] w (enF be E) (λv cs=>∃E',oG E'/\E'.eng=(lj E.eng k b).2/\FindR be (lj E.eng k b).1 E' v cs):=by
 have HF:=IQ E.bc E.room E.X hE.ca.sm k;have FK:=λy h1 h2=>Ik (E:=E) (k:=k) (b:=b) (y:=y) h1 h2
 obtain⟨o,ho⟩:=Zgn ((E.X.Z.find? λx=>x.key==k));have FN:=Lh (E:=E) (k:=k) (b:=b) ho;rw[ho]at HF FK;have HG:=pT hE.eg (k:=k) hb;have hxr:u8s (gq E.RZ k RS.zero).r.bytes:=by
  rcases F7 E.RZ k with e|⟨y,hy,e⟩
  .rw[e];exact λx hx=>nomatch hx
  rw[<-e];exact(hE.rs y hy).2.2
 have hxrd:=λ(w:World) h=>run_rd (w:=w) (RZ:=E.RZ) (k:=k) h
 obtain⟨x,hx⟩:=Zgn (gq E.RZ k RS.zero);rw[hx]at FK FN hxr hxrd;have HP:=Iq A c b hb hbl;obtain⟨⟨l,sz,en⟩,hR⟩:=Zgn (cM b 8 0);have hu:∀i,i∈l->u32 i.2:=by
  have:=(lU b 8 0).1.u32 hb;rw[hR]at this;exact this
 rw[hR]at HP;dsimp only at HP;have HL:=λA1 c1 w h=>Ho k.1 A1 c1 l hu w h
 obtain⟨lo,hlo⟩:=Zgn (fJ k.1 l);rw[hlo]at HL;have hcap:=(h w (dG.refl _ _)).cap;refine bN func129 rfl ntmps129 rfl hi ?_;refine Z_2 ?_;refine ZO λb4=>?_;refine ZN λb6=>?_
 refine ZN λb7=>?_
 refine Z_3 ?_;refine da (λq:BA×Nat=>[(0,.pointer (some ⟨be,0,none⟩)),(2,.slice A b.length c),(4,.pointer (some ⟨b4,0,none⟩)),(6,.pointer (some ⟨b6,0,none⟩)),(7,.pointer (some ⟨b7,0,none⟩)),(9,.pointer (some ⟨q.2,0,none⟩)),(10,.bool o.isSome)]) (λq=>enF be E++[baC q.1,row b4 (cC k) 134,row b6 (BA.cells ⟨⟨(0,0),[],0⟩,none,0⟩) 172,row b7 (RS.cells RS.zero) 181,row q.2 (BA.cells q.1) 172]) (λq=>∀x,o=some x->q.1.b=x.b) ?_ ?_
 .refine iR ⟨λj=>List.elem j [5,10],[]⟩ [(0,0),(1,0),(2,0),(3,1),(4,1),(5,3),(6,3),(7,3),(8,3),(9,3),(10,3),(11,3)] Zk Zk ?_;refine cW rfl (fZ Zv0) rfl ?_;refine cW rfl (CY Zv0) rfl ?_;refine cW rfl (dT 0 rfl Zv0 Zf) rfl ?_;refine v8 rfl (bQ Zrf Zv0) (cu Zh rfl) rfl ?_;refine ny rfl Zh Zrf Zrf (Zv rfl) rfl ?_;refine Jk [(5,[(6,0),(7,0),(8,0),(9,2),(10,2),(11,0)]),(9,[(5,2),(6,0),(7,0),(8,0),(10,2),(11,0)])] Zk (.cons ?_ (.cons ?_ .nil))
  .refine ZcS (caF E.bc E.room E.X) (λw hi hin=>HF w hin) ?_;rintro _ _ ⟨_,⟨y,rfl,rfl,hy⟩,rfl⟩;refine I5 ?_;refine fo rfl ?_;refine dO rfl rfl (fG Zrf rfl) ZJ rfl ?_;rintro _ _ ⟨b9,rfl,rfl⟩;refine fo rfl ?_;refine eX rfl rfl (bZ Zrf rfl rfl (gc y) Za (by exact rfl)) ZJ ?_;rintro _ _ ⟨rfl,rfl⟩;refine cW rfl (fP Zv0) rfl ?_;refine eU ?_;refine bX ((y,b9)) ?_ ?_ ?_
   .exact hy
   .exact Zwk
   exact Zj
  refine dO rfl rfl (fG Zrf rfl) ZJ rfl ?_;rintro _ _ ⟨b9,rfl,rfl⟩;refine fo rfl ?_;refine ZcS (caF E.bc E.room E.X) (λw hi hin=>HF w hin) ?_;rintro _ _ ⟨_,⟨y,rfl,rfl,hy⟩,rfl⟩;refine I5 ?_;refine fo rfl ?_;refine eX rfl rfl (bZ Zrf rfl rfl (gc y) Za (by exact rfl)) ZJ ?_;rintro _ _ ⟨rfl,rfl⟩;refine cW rfl (fP Zv0) rfl ?_;refine eU ?_;refine bX ((y,b9)) ?_ ?_ ?_
  .exact hy
  .exact Zwk
  exact Zj
 rintro⟨y,b9⟩ hy;dsimp only at hy|-;refine Zs ?_;refine da (λq:Nat=>[(0,.pointer (some ⟨be,0,none⟩)),(2,.slice A b.length c),(4,.pointer (some ⟨b4,0,none⟩)),(6,.pointer (some ⟨b6,0,none⟩)),(7,.pointer (some ⟨b7,0,none⟩)),(9,.pointer (some ⟨b9,0,none⟩)),(10,.bool o.isSome),(11,.pointer (some ⟨q,0,none⟩))]) (λq=>enF be E++[baC y,row b4 (cC k) 134,row b6 (BA.cells ⟨⟨(0,0),[],0⟩,none,0⟩) 172,row b7 (RS.cells RS.zero) 181,row b9 (BA.cells y) 172,row q (RS.cells x) 181]) (λ_=>True) ?_ ?_
 .refine iR ⟨λj=>List.elem j [7],[]⟩ [(0,0),(1,0),(2,0),(3,1),(4,1),(5,3),(6,3),(7,3)] Zk Zk ?_;refine cW rfl (fZ Zv0) rfl ?_;refine cW rfl (CY Zv0) rfl ?_;refine cW rfl (dT 1 rfl Zv0 Zf) rfl ?_;refine v8 rfl (bQ Zrf Zv0) (cu Zh rfl) rfl ?_;refine ny rfl Zh Zrf Zrf (Zv rfl) rfl ?_;refine Jk [(5,[(6,2),(7,2)]),(6,[(5,2),(7,2)])] Zk (.cons ?_ (.cons ?_ .nil))
  .refine EY rfl (zN (zv:= .agg #[.slice none 0 0,.bool false]) (Zv rfl) (Zv rfl) hk rfl yM Zrf) (λw hi=>(show nv E.mr (rnV E.RZ) w from hi.get (show Has _ (mpc E.mr (rnV E.RZ))from Zh))) rfl ?_;refine fo rfl ?_;refine dO rfl rfl (fG Zrf rfl) ZJ rfl ?_;rintro _ _ ⟨b11,rfl,rfl⟩;refine fo rfl ?_;rw[run_v E.RZ k,hx];refine eX rfl rfl (bZ Zrf rfl rfl (gn x) Za (by exact rfl)) ZJ ?_;rintro _ _ ⟨rfl,rfl⟩;refine eU ?_;refine bX (b11) ?_ ?_ ?_
   .trivial
   .exact Zwk
   exact Zj
  refine dO rfl rfl (fG Zrf rfl) ZJ rfl ?_;rintro _ _ ⟨b11,rfl,rfl⟩;refine fo rfl ?_;refine EY rfl (zN (zv:= .agg #[.slice none 0 0,.bool false]) (Zv rfl) (Zv rfl) hk rfl yM Zrf) (λw hi=>(show nv E.mr (rnV E.RZ) w from hi.get (show Has _ (mpc E.mr (rnV E.RZ))from Zh))) rfl ?_;refine fo rfl ?_;rw[run_v E.RZ k,hx];refine eX rfl rfl (bZ Zrf rfl rfl (gn x) Za (by exact rfl)) ZJ ?_;rintro _ _ ⟨rfl,rfl⟩;refine eU ?_;refine bX (b11) ?_ ?_ ?_
  .trivial
  .exact Zwk
  exact Zj
 rintro b11 -;refine Z_7 ?_;refine eu (bR rfl rfl) (.cons (dh rfl) (.cons (dh rfl) .nil)) (λ_ _=>rfl) (λhg w hi=>yY A x.A c x.c b x.r.bytes hb hxr w (h w hi.Nb) (hxrd w (hi.get (show Has _ (dp (rnC E.RZ))from Zh)))) rfl ?_;refine Z_3 ?_;refine ZW ?_ ?_<;>intro hc3
 .have h9:(o.isSome&&x.r.bytes.isPrefixOf b)=true:=hc3;rw[aL]at h9;obtain⟨y0,rfl⟩:=Option.isSome_iff_exists.1 h9.1;have hfk:=FK y0 rfl h9.2;have hyb:=hy y0 rfl;refine Zs (bU ⟨λj=>List.elem j [2,3],[]⟩ Zk ?_);refine ZI 0 ?_;refine k8 1 2 Zk ?_ ?_
  .refine kt rfl Zh Zrf Zrf (Zv rfl) rfl ?_;refine cn 2 Zk ?_;refine du rfl rfl (bZ Zrf rfl rfl (gc y) Za (by exact rfl)) ZJ ?_;rintro _ _ ⟨rfl,rfl⟩;refine cn 3 Zk ?_;refine du rfl rfl (bZ Zrf rfl rfl (gn x) Za (by exact rfl)) ZJ ?_;rintro _ _ ⟨rfl,rfl⟩;refine ZE 4 ?_;refine dx ?_;refine Z_3 ?_;refine bP (row b6 (BA.cells y) 172::row b7 (RS.cells x) 181::baC y::enF be E) Zj ?_;refine pq (cs':=baC y::enF be E) (.inl rfl) (List.Sublist.cons _ (List.Sublist.cons _ (aR _))) rfl rfl rfl rfl Zh Zh Zrf Zrf Zrf Zrf ?_;exact⟨E,hE,by rw[hfk],by rw[hfk];exact⟨y,x,rfl,rfl,λt r e=>by cases e;exact⟨hyb,rfl⟩⟩⟩
  refine du rfl rfl (bZ Zrf rfl rfl (gc y) Za (by exact rfl)) ZJ ?_;rintro _ _ ⟨rfl,rfl⟩;refine ZI 1 ?_;refine cn 3 Zk ?_;refine du rfl rfl (bZ Zrf rfl rfl (gn x) Za (by exact rfl)) ZJ ?_;rintro _ _ ⟨rfl,rfl⟩;refine ZE 4 ?_;refine dx ?_;refine Z_3 ?_;refine bP (row b6 (BA.cells y) 172::row b7 (RS.cells x) 181::baC y::enF be E) Zj ?_;refine pq (cs':=baC y::enF be E) (.inl rfl) (List.Sublist.cons _ (List.Sublist.cons _ (aR _))) rfl rfl rfl rfl Zh Zh Zrf Zrf Zrf Zrf ?_;exact⟨E,hE,by rw[hfk],by rw[hfk];exact⟨y,x,rfl,rfl,λt r e=>by cases e;exact⟨hyb,rfl⟩⟩⟩
 have hnk:=FN hc3;refine Z_5 ?_;refine ZS (λw hi=>HP w (h w hi.Nb)) ?_;rintro _ _ ⟨_,⟨A1,c1,x2,hx2,rfl,rfl⟩,rfl⟩;refine Z_3 ?_;refine ZN λb13=>?_
 refine ZA ?_;refine dH (bZ Zrf rfl rfl (gn x2) Za (by exact rfl)) ?_;rintro _ _ ⟨rfl,rfl⟩;refine Z_3 ?_;rcases lo with _|p
 .have hfn:=vG hnk (GQ hR hlo);refine Z_4 ?_;refine ZSe (λw hi=>HL A1 c1 w (hi.rd (show Has _ (slv 27 2 A1 l.length c1 (l.flatMap EO))from Zh))) ?_;refine Z_3 ?_;refine ZN λb14=>?_
  refine ZM ?_;refine dS ?_;refine bW rfl (rfl) ?_;refine Zs (bU ⟨λj=>List.elem j [2,3],[]⟩ Zk ?_);refine ZI 0 ?_;refine k8 1 2 Zk ?_ ?_
  .refine kt rfl Zh Zrf Zrf (Zv rfl) rfl ?_;refine cn 2 Zk ?_;refine du rfl rfl (bZ Zrf rfl rfl (gc y) Za (by exact rfl)) ZJ ?_;rintro _ _ ⟨rfl,rfl⟩;refine cn 3 Zk ?_;refine du rfl rfl (bZ Zrf rfl rfl (gn x2) Za (by exact rfl)) ZJ ?_;rintro _ _ ⟨rfl,rfl⟩;exact Wq32
  refine du rfl rfl (bZ Zrf rfl rfl (gc y) Za (by exact rfl)) ZJ ?_;rintro _ _ ⟨rfl,rfl⟩;refine ZI 1 ?_;refine cn 3 Zk ?_;refine du rfl rfl (bZ Zrf rfl rfl (gn x2) Za (by exact rfl)) ZJ ?_;rintro _ _ ⟨rfl,rfl⟩;exact Wq32
 obtain⟨hfit,hcnt,hl1,hl8,hgo⟩:=yK hu hlo;refine Z_4 ?_;refine ZS (λw hi=>HL A1 c1 w (hi.rd (show Has _ (slv 27 2 A1 l.length c1 (l.flatMap EO))from Zh))) ?_;rintro _ _ ⟨_,⟨Q,rfl,rfl⟩,rfl⟩;refine Z_3 ?_;refine ZN λb14=>?_
 refine ZM ?_;refine dS ?_;refine fS ?_;refine Z_3 ?_;rcases hrb:p.M0 with _|_
 .have hfn:=vG hnk (KI hR hlo hrb);refine Z_2 ?_;refine ZSe (λw hi=>Ix p Q hfit hrb w ⟨hi.rd (show Has _ (slv 286 5 Q.Ac p.code.length Q.cc (p.code.flatMap II.cells))from Zh),hi.rd (show Has _ (sl .i64 3 Q.Ad p.MV.length Q.cd p.MV)from Zh),hi.rd (show Has _ (sl .i64 3 Q.Ar p.MW.length Q.cr p.MW)from Zh)⟩) ?_;refine gy ?_;refine bW rfl (rfl) ?_;refine Zs (bU ⟨λj=>List.elem j [2,3],[]⟩ Zk ?_);refine ZI 0 ?_;refine k8 1 2 Zk ?_ ?_
  .refine kt rfl Zh Zrf Zrf (Zv rfl) rfl ?_;refine cn 2 Zk ?_;refine du rfl rfl (bZ Zrf rfl rfl (gc y) Za (by exact rfl)) ZJ ?_;rintro _ _ ⟨rfl,rfl⟩;refine cn 3 Zk ?_;refine du rfl rfl (bZ Zrf rfl rfl (gn x2) Za (by exact rfl)) ZJ ?_;rintro _ _ ⟨rfl,rfl⟩;exact Wq32
  refine du rfl rfl (bZ Zrf rfl rfl (gc y) Za (by exact rfl)) ZJ ?_;rintro _ _ ⟨rfl,rfl⟩;refine ZI 1 ?_;refine cn 3 Zk ?_;refine du rfl rfl (bZ Zrf rfl rfl (gn x2) Za (by exact rfl)) ZJ ?_;rintro _ _ ⟨rfl,rfl⟩;exact Wq32
 have hfm:=Ij hnk (KH hR hlo hrb);obtain⟨hgd,hCl⟩:=hgo hrb;have hCne:=LD p (dV p);have HE:=Lp p Q hfit hrb hgd;obtain⟨C,hC⟩:=Zgn (gQ p (dV p));rw[hC]at hfm hgd hCl hCne HE;have hnew:lc k/\x2.r.bytes.length<=1000/\u8s x2.r.bytes:=(by rw[hx2];exact⟨hk,by show(b.take sz).length<=1000;rw[aB];omega,λz hz=>hb z (bj hz)⟩);refine Z_2 ?_;refine ZS (λw hi=>HE w ⟨hi.rd (show Has _ (slv 286 5 Q.Ac p.code.length Q.cc (p.code.flatMap II.cells))from Zh),hi.rd (show Has _ (sl .i64 3 Q.Ad p.MV.length Q.cd p.MV)from Zh),hi.rd (show Has _ (sl .i64 3 Q.Ar p.MW.length Q.cr p.MW)from Zh)⟩) ?_;rintro _ _ ⟨_,⟨A3,c3,rfl,rfl⟩,rfl⟩;refine gy ?_;refine fS ?_;refine Z_9 ?_;refine dH (bZ Zrf rfl rfl (gc ⟨⟨k,C,(l.length:Int)⟩,A3,c3⟩) Za (by exact rfl)) ?_;rintro _ _ ⟨rfl,rfl⟩;refine Z_3 ?_;refine bU ⟨λj=>List.elem j [5],[]⟩ Zk ?_;refine gO ?_;refine ZFe 2 0 ?_;refine ZG 3 ?_;refine ZI 4 ?_;refine cn 5 Zk ?_;refine ZcA (caF E.bc E.room E.X) (λw hi hin=>cput_ok E.bc E.room E.X hE.ca ⟨⟨k,C,(l.length:Int)⟩,A3,c3⟩ ⟨hCl,hk⟩ (show(1:Int)<=(l.length:Int) by omega) hCne w hin (λw' hk'=>dk (hi.Nv Zi (show Has _ (sl .u8 5 A3 (cI C).length c3 (cI C))from Zh) hk'))) ?_;rintro _ _ ⟨_,⟨X',rfl,hX',hXZ⟩,rfl⟩;refine dx ?_;refine Z_2 ?_;refine bU ⟨λj=>List.elem j [6],[]⟩ Zk ?_;refine gO ?_;refine ZFe 2 1 ?_;refine ZG 3 ?_;refine ZI 4 ?_;refine ZI 5 ?_;refine cn 6 Zk ?_;refine du rfl rfl (t_mput rfl rfl rfl hk rfl yM Za) ZJ ?_;rintro _ _ ⟨rfl,rfl⟩;rw[rnV_put E.RZ k x2];refine dx ?_;refine Z_3 ?_;refine bU ⟨λj=>List.elem j [9],[]⟩ Zk ?_;refine gO ?_;refine ZFe 2 1 ?_;refine ZE 5 ?_;refine ZE 6 ?_;refine ZFe 7 0 ?_;refine ZG 8 ?_;refine cn 3 Zk ?_;refine kY ?_;refine cn 4 Zk ?_;refine Db rfl (y_mlen (Zv rfl) rfl) (λw hi=>(show nv E.mr (rnV (dL E.RZ k x2)) w from hi.get (show Has _ (mpc E.mr (rnV (dL E.RZ k x2)))from Zh))) rfl ?_;refine cn 9 Zk ?_;refine ZcA (caF E.bc E.room X') (λw hi hin=>clen_ok E.bc E.room X' w hin) ?_;rintro _ _ ⟨_,⟨rfl,rfl⟩,rfl⟩;refine ZE 10 ?_;refine dx ?_;refine Zt ?_;refine ZW ?_ ?_<;>intro hc15
 .have hd:decide ((X'.Z.length:Int)<((dL E.RZ k x2).length:Int))=true:=(by have h9:=hc15;rw[show(rnV (dL E.RZ k x2)).length=(dL E.RZ k x2).length from List.length_map _]at h9;exact h9)
  have had:=I4 E X' ⟨k,C,(l.length:Int)⟩ x2 hXZ;dsimp only at had;rw[hd,ac,hx2]at had;refine Zr (uV (cin:=rnC E.RZ) (cin':=qS E.RZ k) Zd (vi E.RZ k) ?_);refine Da (cin:=qS E.RZ k) (c:=rsC x2) (cin':=rnC (dL E.RZ k x2)) Zd Zd (rnPut E.RZ k x2) ?_;refine ZA ?_;refine ZcL (enF be ((E.Nj X').Np (dL E.RZ k x2))) (λw hi hin=>CC be ((E.Nj X').Np (dL E.RZ k x2)) hX'.sm (Ha k x2 hE.rk) (λy hy=>(rM hy).elim (λe=>by rw[e];exact hk) (λhy=>(hE.rs y hy).1)) w hin) ?_;rintro _ _ ⟨_,rfl,rfl⟩;refine Z_3 ?_;refine bU ⟨λj=>List.elem j [2,3],[]⟩ Zk ?_;refine ZI 0 ?_;refine k8 1 2 Zk ?_ ?_
  .refine kt rfl Zh Zrf Zrf (Zv rfl) rfl ?_;refine cn 2 Zk ?_;refine du rfl rfl (bZ Zrf rfl rfl (gc ⟨⟨k,C,(l.length:Int)⟩,A3,c3⟩) Za (by exact rfl)) ZJ ?_;rintro _ _ ⟨rfl,rfl⟩;refine cn 3 Zk ?_;refine du rfl rfl (bZ Zrf rfl rfl (gn x2) Za (by exact rfl)) ZJ ?_;rintro _ _ ⟨rfl,rfl⟩;refine ZE 4 ?_;refine dx ?_;refine Z_2 ?_;refine bP (row b6 (BA.cells ⟨⟨k,C,(l.length:Int)⟩,A3,c3⟩) 172::row b7 (RS.cells x2) 181::baC ⟨⟨k,C,(l.length:Int)⟩,A3,c3⟩::enF be ((E.Nj X').Np (lX X'.Z (dL E.RZ k x2)))) Zj ?_;refine pq (cs':=baC ⟨⟨k,C,(l.length:Int)⟩,A3,c3⟩::enF be ((E.Nj X').Np (lX X'.Z (dL E.RZ k x2)))) (.inl rfl) (List.Sublist.cons _ (List.Sublist.cons _ (aR _))) rfl rfl rfl rfl Zh Zh Zrf Zrf Zrf Zrf ?_;rw[hfm]at HG|-;exact⟨(E.Nj X').Np (lX X'.Z (dL E.RZ k x2)),⟨hX',by rw[had];exact HG.1,λy hy=>(rM (List.mem_filter.1 hy).1).elim (λe=>by rw[e];exact hnew) (λhy=>hE.rs y hy),hE.last⟩,had,⟨⟨⟨k,C,(l.length:Int)⟩,A3,c3⟩,x2,rfl,rfl,λt r e=>by cases e;exact⟨rfl,hx2⟩⟩⟩
  refine du rfl rfl (bZ Zrf rfl rfl (gc ⟨⟨k,C,(l.length:Int)⟩,A3,c3⟩) Za (by exact rfl)) ZJ ?_;rintro _ _ ⟨rfl,rfl⟩;refine ZI 1 ?_;refine cn 3 Zk ?_;refine du rfl rfl (bZ Zrf rfl rfl (gn x2) Za (by exact rfl)) ZJ ?_;rintro _ _ ⟨rfl,rfl⟩;refine ZE 4 ?_;refine dx ?_;refine Z_2 ?_;refine bP (row b6 (BA.cells ⟨⟨k,C,(l.length:Int)⟩,A3,c3⟩) 172::row b7 (RS.cells x2) 181::baC ⟨⟨k,C,(l.length:Int)⟩,A3,c3⟩::enF be ((E.Nj X').Np (lX X'.Z (dL E.RZ k x2)))) Zj ?_;refine pq (cs':=baC ⟨⟨k,C,(l.length:Int)⟩,A3,c3⟩::enF be ((E.Nj X').Np (lX X'.Z (dL E.RZ k x2)))) (.inl rfl) (List.Sublist.cons _ (List.Sublist.cons _ (aR _))) rfl rfl rfl rfl Zh Zh Zrf Zrf Zrf Zrf ?_;rw[hfm]at HG|-;exact⟨(E.Nj X').Np (lX X'.Z (dL E.RZ k x2)),⟨hX',by rw[had];exact HG.1,λy hy=>(rM (List.mem_filter.1 hy).1).elim (λe=>by rw[e];exact hnew) (λhy=>hE.rs y hy),hE.last⟩,had,⟨⟨⟨k,C,(l.length:Int)⟩,A3,c3⟩,x2,rfl,rfl,λt r e=>by cases e;exact⟨rfl,hx2⟩⟩⟩
 have hd:decide ((X'.Z.length:Int)<((dL E.RZ k x2).length:Int))=false:=(by have h9:=hc15;rw[show(rnV (dL E.RZ k x2)).length=(dL E.RZ k x2).length from List.length_map _]at h9;exact h9)
 have had:=I4 E X' ⟨k,C,(l.length:Int)⟩ x2 hXZ;dsimp only at had;rw[hd,aa,hx2]at had;refine Z_3 ?_;refine bU ⟨λj=>List.elem j [2,3],[]⟩ Zk ?_;refine ZI 0 ?_;refine k8 1 2 Zk ?_ ?_
 .refine kt rfl Zh Zrf Zrf (Zv rfl) rfl ?_;refine cn 2 Zk ?_;refine du rfl rfl (bZ Zrf rfl rfl (gc ⟨⟨k,C,(l.length:Int)⟩,A3,c3⟩) Za (by exact rfl)) ZJ ?_;rintro _ _ ⟨rfl,rfl⟩;refine cn 3 Zk ?_;refine du rfl rfl (bZ Zrf rfl rfl (gn x2) Za (by exact rfl)) ZJ ?_;rintro _ _ ⟨rfl,rfl⟩;refine ZE 4 ?_;refine dx ?_;refine Z_2 ?_;exact Wq44
 refine du rfl rfl (bZ Zrf rfl rfl (gc ⟨⟨k,C,(l.length:Int)⟩,A3,c3⟩) Za (by exact rfl)) ZJ ?_;rintro _ _ ⟨rfl,rfl⟩;refine ZI 1 ?_;refine cn 3 Zk ?_;refine du rfl rfl (bZ Zrf rfl rfl (gn x2) Za (by exact rfl)) ZJ ?_;rintro _ _ ⟨rfl,rfl⟩;refine ZE 4 ?_;refine dx ?_;refine Z_2 ?_;exact Wq44
end Go.Proofs.YtkegldppffignaaGreatDoor
namespace Go.Ink
open Go.RowKit
abbrev EnX.toldE(E:EnX)(X:CaX)(k:Ky)(c:Int):EnX:=⟨E.bc,E.mr,E.room,X,E.RZ,k,IntKind.i64.wrap (E.Nk+c),E.Nh,true⟩
theorem JA{E:Eng}{s:St}{p:Int}{b:List Int}{G:Eng}(h:lj E (s.pc,p) b=(none,G)):jF E s p b=(none,G):=by
 unfold jF;rw[h]
theorem Fy{E:Eng}{s:St}{p:Int}{b:List Int}{G:Eng}{t:Blk}{r:Rn}{s1:St}{how:Int}(h:lj E (s.pc,p) b=(some (t,r),G))(hr:iE t.code s=(s1,how))(hh:(how !=1)=true):jF E s p b=(none,G):=by
 unfold jF;rw[h];dsimp only;rw[hr];dsimp only;rw[show(how==1)=false by simpa using hh]
 rfl
theorem Fx{E:Eng}{s:St}{p:Int}{b:List Int}{G:Eng}{t:Blk}{r:Rn}{s1:St}{how:Int}(h:lj E (s.pc,p) b=(some (t,r),G))(hr:iE t.code s=(s1,how))(hh:(how !=1)=false):jF E s p b=(some (s1,r,t.count),{G with last:=(s.pc,p),begun:=true,Nk:=IntKind.i64.wrap (G.Nk+t.count)}):=by
 unfold jF;rw[h];dsimp only;rw[hr];dsimp only;rw[show(how==1)=true by simpa using hh]
 rfl
theorem oG.told{E:EnX}(h:oG E){X:CaX}(hX:qa E.room X)(hZ:X.Z=E.X.Z){k:Ky}(hk:lc k)(c:Int):oG (E.toldE X k c):=
 ⟨hX,h.eg.same rfl (by show X.Z.map BA.b=E.X.Z.map BA.b;rw[hZ]) rfl,h.rs,hk⟩
theorem JC{E:EnX}{X:CaX}(hZ:X.Z=E.X.Z)(k:Ky)(c:Int):(E.toldE X k c).eng={E.eng with last:=k,begun:=true,Nk:=IntKind.i64.wrap (E.eng.Nk+c)}:=by
 show Eng.mk E.room (X.Z.map BA.b) (rnM E.RZ) k (IntKind.i64.wrap (E.Nk+c)) E.Nh true=Eng.mk E.room (E.X.Z.map BA.b) (rnM E.RZ) k (IntKind.i64.wrap (E.Nk+c)) E.Nh true;rw[hZ]
end Go.Ink
namespace Go.Proofs.YtkegldppffignaaGreatDoor
open Go.RowKit Go.Ink Go.Proofs.Tryz
attribute [local irreducible] OpY bS
abbrev tF(bu bb:Nat)(L:fu)(s:St)(X:kb)(U:Mmu)(be:Nat)(E:EnX):List bL:=slD s X.Ad X.cd::slR s X.Ar X.cr::(uF bu bb L U++enF be E)
def TransR(bu bb:Nat)(L:fu)(s:St)(U:Mmu)(be:Nat)(o:Option (St×Rn×Int))(E':EnX)(v:Value)(cs:List bL):Prop:=match o with
 |none=>∃(X:kb) (x:RS),v= .tuple #[sv s X.Ad X.cd X.Ar X.cr,.agg x.cells.toArray,.int .i64 0]/\cs=tF bu bb L s X U be E'
 |some (o,r,k)=>∃(X:kb) (x:RS),x.r=r/\v= .tuple #[sv o X.Ad X.cd X.Ar X.cr,.agg x.cells.toArray,.int .i64 k]/\cs=tF bu bb L o X ⟨U.m.calm,U.t⟩ be E'
theorem Io(be bu bb:Nat)(L:fu)(E:EnX)(hE:oG E)(s:St)(X:kb)(p:Nat)(hp:p<=4294967295)(hpn:p/64<L.n)(U:Mmu)(hwf:s.wf)(hs:s.right=true)(hM:U.m.ok L.n)(w:World)(hi:Inv w (bM (tF bu bb L s X U be E)) (tF bu bb L s X U be E) w):
  Ctr prog 107 [.pointer (some ⟨be,0,none⟩),sv s X.Ad X.cd X.Ar X.cr,.int .u32 (p:Int),.pointer (some ⟨bu,0,none⟩)] w (tF bu bb L s X U be E) (λv cs=>∃E',oG E'/\E'.eng=(jF E.eng s p (iK U.m p)).2/\TransR bu bb L s U be (jF E.eng s p (iK U.m p)).1 E' v cs):=by
 have hq:IntKind.u32.wrap ((p:Int).tdiv 64)=((p/64:Nat):Int):=by rw[bD Wq1,u32_wrap_id _ Wq1 Wq1];omega
 have hrm:(p:Int).tmod 64=((p%64:Nat):Int):=by rw[aG Wq1];omega
 have HP:=wN L U.m (p/64) hpn;have hbb:=sX hM p;have hbe:iK U.m p=((U.m.data.drop (p/64*64)).take 64).drop (p%64):=rfl;have hdl:=hM.dl;have hXl:((U.m.data.drop (p/64*64)).take 64).length=64:=by rw[aB,bI];omega
 obtain⟨D,hD⟩:=Zgn ((U.m.data.drop (p/64*64)).take 64);rw[hD]at HP hXl hbe;obtain⟨hd16,hr16, -⟩:=St.fits hs;have hky:lc (s.pc,(p:Int)):=⟨hwf.pc,by show 0<=(p:Int);omega,by show(p:Int)<=4294967295;omega⟩;have hbl:(iK U.m p).length=64 - p%64:=by rw[hbe,bI,hXl]
 have HFi:=λA c w hi h=>Ln be E hE (s.pc,(p:Int)) hky A c (iK U.m p) hbb (by rw[hbl];omega) w hi h
 have HGo:=pT hE.eg (k:=(s.pc,(p:Int))) hbb;have hT1:=λG h=>JA (E:=E.eng) (s:=s) (p:=p) (b:=iK U.m p) (G:=G) h
 have hT2:=λG t r s1 how h=>Fy (E:=E.eng) (s:=s) (p:=p) (b:=iK U.m p) (G:=G) (t:=t) (r:=r) (s1:=s1) (how:=how) h
 have hT3:=λG t r s1 how h=>Fx (E:=E.eng) (s:=s) (p:=p) (b:=iK U.m p) (G:=G) (t:=t) (r:=r) (s1:=s1) (how:=how) h
 rw[hbl]at HFi;obtain⟨⟨o,G⟩,hF⟩:=Zgn (lj E.eng (s.pc,(p:Int)) (iK U.m p));rw[hF]at HFi HGo hT1 hT2 hT3;obtain⟨T,hT⟩:=Zgn (jF E.eng s p (iK U.m p));rw[hT]at hT1 hT2 hT3|-;rw[hbe]at HFi;clear hbe hbl;refine bN func107 rfl ntmps107 rfl hi ?_;refine Z_2 ?_;refine ZO λb5=>?_;refine ZN λb8=>?_
 refine ZN λb9=>?_
 refine Z_6 ?_;refine ZSe (λw hi=>lO bu L.bm bb w (hi.get (show Has _ (Jd bu L.bm bb)from Zh))) ?_;refine ZA ?_;refine Zy (kp (Zv rfl) (Zv rfl) Wq1 hq) ?_;refine Zy (ce rfl rfl Zv0 Zl) ?_;refine ZS (λw hi=>HP w (hi.get (show Has _ (eA L U.m)from Zh))) ?_;rintro _ _ ⟨_,⟨bq,rfl,rfl⟩,rfl⟩;refine jd ?_;refine ZN λb13=>?_
 refine dH (bZ (vs:=cC (s.pc,(p:Int))) Zrf rfl rfl (tx _) Za (by exact rfl)) ?_;rintro _ _ ⟨rfl,rfl⟩;refine Z_2 ?_;refine da (λq:EnX×BA×RS×Nat×Nat=>[(0,.pointer (some ⟨be,0,none⟩)),(3,.pointer (some ⟨bu,0,none⟩)),(5,.pointer (some ⟨b5,0,none⟩)),(8,.pointer (some ⟨b8,0,none⟩)),(9,.pointer (some ⟨b9,0,none⟩)),(13,.pointer (some ⟨b13,0,none⟩)),(14,.pointer (some ⟨q.2.2.2.1,0,none⟩)),(15,.pointer (some ⟨q.2.2.2.2,0,none⟩)),(16,.bool o.isSome)]) (λq=>tF bu bb L s X U be q.1++[baC q.2.1,row b5 (s.cells (.slice X.Ad s.d.length X.cd) (.slice X.Ar s.r.length X.cr)) 47,row b8 (St.zero.cells (.slice none 0 0) (.slice none 0 0)) 47,row b9 (RS.cells RS.zero) 181,row b13 (cC (s.pc,(p:Int))) 134,row q.2.2.2.1 (BA.cells q.2.1) 172,row q.2.2.2.2 (RS.cells q.2.2.1) 181]) (λq=>oG q.1/\q.1.eng=G/\∀t r,o=some (t,r)->q.2.1.b=t/\q.2.2.1.r=r) ?_ ?_
 .refine iR ⟨λj=>List.elem j [6,13,14],[]⟩ [(0,0),(1,1),(2,0),(3,0),(4,0),(5,0),(6,3),(7,3),(8,3),(9,3),(10,3),(11,3),(12,3),(13,3),(14,3),(15,3)] Zk Zk ?_;refine cW rfl (fZ Zv0) rfl ?_;refine v8 rfl (cz (vs:=cC (s.pc,(p:Int))) Zrf Zrf Zv0) (cK Zh rfl) rfl ?_;refine cW rfl (fZ Zv0) rfl ?_;refine cW rfl (fZ Zv0) rfl ?_;refine cW rfl (ij (Zv rfl) (Zv rfl) Wq1 hrm) rfl ?_;refine cW rfl (kL (sz:=1) (lo:=p%64) (hi:=64) (r:=p%64) rfl Zrf (Zv rfl) (.inr ⟨_,_,rfl,(Zv rfl)⟩) (.inl ⟨rfl,rfl⟩) Wq1 Wq1 Wq1 Wq1) rfl ?_;refine Jk [(6,[(7,0),(8,0),(9,0),(10,0),(11,3),(12,3),(13,3),(14,3),(15,3)]),(11,[(6,3),(7,3),(8,3),(9,3),(10,3),(12,3),(13,3),(14,3),(15,3)]),(12,[(6,3),(7,3),(8,3),(9,3),(10,3),(11,3),(13,3),(14,3),(15,3)])] Zk (.cons ?_ (.cons ?_ (.cons ?_ .nil)))
  .refine ZcS (enF be E) (λw hi hin=>HFi (some ⟨bq,p%64,none⟩) (64 - p%64) w hin (λw' hk=>Ez (dk (hi.Nv Zi (show Has _ (sl .u8 5 (some ⟨bq,0,none⟩) 64 64 D)from Zh) hk)) Wq1 hXl)) ?_;rintro _ _ ⟨_,⟨E2,hE2,hEe,y,x,rfl,rfl,hyx⟩,rfl⟩;refine I5 ?_;refine cW rfl (gu Zv0 (.succ _ (.succ _ (.zero _ _)))) rfl ?_;refine Jk [(11,[(12,2),(13,2),(14,2),(15,0)]),(12,[(11,2),(13,2),(14,2),(15,0)])] Zk (.cons ?_ (.cons ?_ .nil))
   .refine dO rfl rfl (fG Zrf rfl) ZJ rfl ?_;rintro _ _ ⟨b14,rfl,rfl⟩;refine fo rfl ?_;refine dO rfl rfl (fG Zrf rfl) ZJ rfl ?_;rintro _ _ ⟨b15,rfl,rfl⟩;refine fo rfl ?_;refine eX rfl rfl (bZ Zrf rfl rfl (gc y) Za (by exact rfl)) ZJ ?_;rintro _ _ ⟨rfl,rfl⟩;refine fo rfl ?_;refine eX rfl rfl (bZ Zrf rfl rfl (gn x) Za (by exact rfl)) ZJ ?_;rintro _ _ ⟨rfl,rfl⟩;refine cW rfl (fP Zv0) rfl ?_;refine eU ?_;refine bX ((E2,y,x,b14,b15)) ?_ ?_ ?_
    .exact⟨hE2,hEe,hyx⟩
    .exact Zwk
    exact Zj
   refine dO rfl rfl (fG Zrf rfl) ZJ rfl ?_;rintro _ _ ⟨b15,rfl,rfl⟩;refine fo rfl ?_;refine dO rfl rfl (fG Zrf rfl) ZJ rfl ?_;rintro _ _ ⟨b14,rfl,rfl⟩;refine fo rfl ?_;refine eX rfl rfl (bZ Zrf rfl rfl (gc y) Za (by exact rfl)) ZJ ?_;rintro _ _ ⟨rfl,rfl⟩;refine fo rfl ?_;refine eX rfl rfl (bZ Zrf rfl rfl (gn x) Za (by exact rfl)) ZJ ?_;rintro _ _ ⟨rfl,rfl⟩;refine cW rfl (fP Zv0) rfl ?_;refine eU ?_;refine bX ((E2,y,x,b14,b15)) ?_ ?_ ?_
   .exact⟨hE2,hEe,hyx⟩
   .exact Zwk
   exact Zj
  .refine dO rfl rfl (fG Zrf rfl) ZJ rfl ?_;rintro _ _ ⟨b14,rfl,rfl⟩;refine Jk [(6,[(7,0),(8,0),(9,0),(10,0),(12,2),(13,2),(14,2),(15,0)]),(12,[(6,2),(7,0),(8,0),(9,0),(10,0),(13,2),(14,2),(15,0)])] Zk (.cons ?_ (.cons ?_ .nil))
   .refine ZcS (enF be E) (λw hi hin=>HFi (some ⟨bq,p%64,none⟩) (64 - p%64) w hin (λw' hk=>Ez (dk (hi.Nv Zi (show Has _ (sl .u8 5 (some ⟨bq,0,none⟩) 64 64 D)from Zh) hk)) Wq1 hXl)) ?_;rintro _ _ ⟨_,⟨E2,hE2,hEe,y,x,rfl,rfl,hyx⟩,rfl⟩;refine I5 ?_;refine cW rfl (gu Zv0 (.succ _ (.succ _ (.zero _ _)))) rfl ?_;refine fo rfl ?_;refine dO rfl rfl (fG Zrf rfl) ZJ rfl ?_;rintro _ _ ⟨b15,rfl,rfl⟩;refine fo rfl ?_;refine eX rfl rfl (bZ Zrf rfl rfl (gc y) Za (by exact rfl)) ZJ ?_;rintro _ _ ⟨rfl,rfl⟩;refine fo rfl ?_;refine eX rfl rfl (bZ Zrf rfl rfl (gn x) Za (by exact rfl)) ZJ ?_;rintro _ _ ⟨rfl,rfl⟩;refine cW rfl (fP Zv0) rfl ?_;refine eU ?_;refine bX ((E2,y,x,b14,b15)) ?_ ?_ ?_
    .exact⟨hE2,hEe,hyx⟩
    .exact Zwk
    exact Zj
   refine dO rfl rfl (fG Zrf rfl) ZJ rfl ?_;rintro _ _ ⟨b15,rfl,rfl⟩;refine fo rfl ?_;refine ZcS (enF be E) (λw hi hin=>HFi (some ⟨bq,p%64,none⟩) (64 - p%64) w hin (λw' hk=>Ez (dk (hi.Nv Zi (show Has _ (sl .u8 5 (some ⟨bq,0,none⟩) 64 64 D)from Zh) hk)) Wq1 hXl)) ?_;rintro _ _ ⟨_,⟨E2,hE2,hEe,y,x,rfl,rfl,hyx⟩,rfl⟩;refine I5 ?_;refine cW rfl (gu Zv0 (.succ _ (.succ _ (.zero _ _)))) rfl ?_;refine fo rfl ?_;refine eX rfl rfl (bZ Zrf rfl rfl (gc y) Za (by exact rfl)) ZJ ?_;rintro _ _ ⟨rfl,rfl⟩;refine fo rfl ?_;refine eX rfl rfl (bZ Zrf rfl rfl (gn x) Za (by exact rfl)) ZJ ?_;rintro _ _ ⟨rfl,rfl⟩;refine cW rfl (fP Zv0) rfl ?_;refine eU ?_;refine bX ((E2,y,x,b14,b15)) ?_ ?_ ?_
   .exact⟨hE2,hEe,hyx⟩
   .exact Zwk
   exact Zj
  refine dO rfl rfl (fG Zrf rfl) ZJ rfl ?_;rintro _ _ ⟨b15,rfl,rfl⟩;refine Jk [(6,[(7,0),(8,0),(9,0),(10,0),(11,2),(13,2),(14,2),(15,0)]),(11,[(6,2),(7,0),(8,0),(9,0),(10,0),(13,2),(14,2),(15,0)])] Zk (.cons ?_ (.cons ?_ .nil))
  .refine ZcS (enF be E) (λw hi hin=>HFi (some ⟨bq,p%64,none⟩) (64 - p%64) w hin (λw' hk=>Ez (dk (hi.Nv Zi (show Has _ (sl .u8 5 (some ⟨bq,0,none⟩) 64 64 D)from Zh) hk)) Wq1 hXl)) ?_;rintro _ _ ⟨_,⟨E2,hE2,hEe,y,x,rfl,rfl,hyx⟩,rfl⟩;refine I5 ?_;refine cW rfl (gu Zv0 (.succ _ (.succ _ (.zero _ _)))) rfl ?_;refine fo rfl ?_;refine dO rfl rfl (fG Zrf rfl) ZJ rfl ?_;rintro _ _ ⟨b14,rfl,rfl⟩;refine fo rfl ?_;refine eX rfl rfl (bZ Zrf rfl rfl (gc y) Za (by exact rfl)) ZJ ?_;rintro _ _ ⟨rfl,rfl⟩;refine fo rfl ?_;refine eX rfl rfl (bZ Zrf rfl rfl (gn x) Za (by exact rfl)) ZJ ?_;rintro _ _ ⟨rfl,rfl⟩;refine cW rfl (fP Zv0) rfl ?_;refine eU ?_;refine bX ((E2,y,x,b14,b15)) ?_ ?_ ?_
   .exact⟨hE2,hEe,hyx⟩
   .exact Zwk
   exact Zj
  refine dO rfl rfl (fG Zrf rfl) ZJ rfl ?_;rintro _ _ ⟨b14,rfl,rfl⟩;refine fo rfl ?_;refine ZcS (enF be E) (λw hi hin=>HFi (some ⟨bq,p%64,none⟩) (64 - p%64) w hin (λw' hk=>Ez (dk (hi.Nv Zi (show Has _ (sl .u8 5 (some ⟨bq,0,none⟩) 64 64 D)from Zh) hk)) Wq1 hXl)) ?_;rintro _ _ ⟨_,⟨E2,hE2,hEe,y,x,rfl,rfl,hyx⟩,rfl⟩;refine I5 ?_;refine cW rfl (gu Zv0 (.succ _ (.succ _ (.zero _ _)))) rfl ?_;refine fo rfl ?_;refine eX rfl rfl (bZ Zrf rfl rfl (gc y) Za (by exact rfl)) ZJ ?_;rintro _ _ ⟨rfl,rfl⟩;refine fo rfl ?_;refine eX rfl rfl (bZ Zrf rfl rfl (gn x) Za (by exact rfl)) ZJ ?_;rintro _ _ ⟨rfl,rfl⟩;refine cW rfl (fP Zv0) rfl ?_;refine eU ?_;refine bX ((E2,y,x,b14,b15)) ?_ ?_ ?_
  .exact⟨hE2,hEe,hyx⟩
  .exact Zwk
  exact Zj
 rintro⟨E2,⟨yb,A1,c1⟩,⟨xr,A2,c2⟩,b14,b15⟩ ⟨hE2,hEe,hyx⟩;dsimp only at hE2 hEe hyx|-;refine Z_7 ?_;refine ZW ?_ ?_<;>intro hc4
 .obtain rfl:o=none:=(by cases o with|none=>rfl|some q=>cases hc4);have hTn:=hT1 G rfl;refine Zs (bU ⟨λj=>List.elem j [2,3],sQ b15 (RS.cells ⟨xr,A2,c2⟩)⟩ Zk ?_);refine ZI 0 ?_;refine uX 1 rfl Zk Zk Zk (cz (vs:=RS.cells ⟨xr,A2,c2⟩) Zrf Zrf Zv0) (λx hx=>gx x hx) (bV (t:=181) Zh) rfl ?_;refine cn 2 Zk ?_;refine du rfl rfl (bZ Zrf rfl rfl (jA rfl) Za (by exact rfl)) (λ_=>by rintro _ _ ⟨rfl,rfl⟩;exact bV (t:=181) Zh) ?_;rintro _ _ ⟨rfl,rfl⟩;refine cn 3 Zk ?_;refine du rfl rfl (bZ Zrf rfl rfl (gn ⟨xr,A2,c2⟩) Za (by exact rfl)) (λ_=>by rintro _ _ ⟨rfl,rfl⟩;exact bV (t:=181) Zh) ?_;rintro _ _ ⟨rfl,rfl⟩;refine ZE 4 ?_;refine dx ?_;refine Z_3 ?_;refine bP (row b8 (s.cells (.slice X.Ad s.d.length X.cd) (.slice X.Ar s.r.length X.cr)) 47::row b9 (RS.cells ⟨xr,A2,c2⟩) 181::tF bu bb L s X U be E2) Zj ?_;refine pq (cs':=tF bu bb L s X U be E2) (.inl rfl) (List.Sublist.cons _ (List.Sublist.cons _ (aR _))) rfl rfl rfl rfl Zh Zh Zrf Zrf Zrf Zrf ?_;rw[hTn];exact⟨E2,hE2,hEe,X,⟨xr,A2,c2⟩,rfl,rfl⟩
 obtain⟨⟨⟨tk,C,tc⟩,r⟩,rfl⟩:∃q,o=some q:=(by cases o with|none=>cases hc4|some q=>exact⟨q,rfl⟩);obtain⟨rfl,rfl⟩:=hyx _ _ rfl;obtain⟨pg,il,g1,g2,g3,g4,g5,g6,g7⟩:=HGo.2.2.2.2 _ _ rfl;obtain⟨-, -, -, -,hgo⟩:=yK g6 g1;obtain⟨hgd,hCl⟩:=hgo g2;dsimp only at g3;rw[<-g3]at hgd hCl;have HRn:=λA c w h h3=>erun_ok A c C hgd hCl s hwf hs X.Ad X.Ar X.cd X.cr w h h3
 have hTb:=λs1 how=>hT2 G ⟨tk,C,tc⟩ xr s1 how rfl
 have hTy:=λs1 how=>hT3 G ⟨tk,C,tc⟩ xr s1 how rfl
 obtain⟨⟨s1,how⟩,hrc⟩:=Zgn (iE C s);dsimp only at hTb hTy;rw[hrc]at HRn;dsimp only at HRn;refine Z_7 ?_;refine ZS (λw hi=>HRn A1 c1 w (hi.rd (show Has _ (baC ⟨⟨tk,C,tc⟩,A1,c1⟩)from Zh)) (hi.NM (show Has _ (slD s X.Ad X.cd)from Zh) (show Has _ (slR s X.Ar X.cr)from Zh) Wq1 Wq1)) ?_;rintro _ _ ⟨_,⟨X1,rfl,rfl⟩,rfl⟩;refine Z_3 ?_;refine ZN λb17=>?_
 refine ZM ?_;refine dS ?_;refine ZW ?_ ?_<;>intro hc7
 .have hTn:=hTb s1 how hrc hc7;refine Zs (bU ⟨λj=>List.elem j [2,3],sQ b15 (RS.cells ⟨xr,A2,c2⟩)⟩ Zk ?_);refine ZI 0 ?_;refine uX 1 rfl Zk Zk Zk (cz (vs:=RS.cells ⟨xr,A2,c2⟩) Zrf Zrf Zv0) (λx hx=>gx x hx) (bV (t:=181) Zh) rfl ?_;refine cn 2 Zk ?_;refine du rfl rfl (bZ Zrf rfl rfl (jA rfl) Za (by exact rfl)) (λ_=>by rintro _ _ ⟨rfl,rfl⟩;exact bV (t:=181) Zh) ?_;rintro _ _ ⟨rfl,rfl⟩;refine cn 3 Zk ?_;refine du rfl rfl (bZ Zrf rfl rfl (gn ⟨xr,A2,c2⟩) Za (by exact rfl)) (λ_=>by rintro _ _ ⟨rfl,rfl⟩;exact bV (t:=181) Zh) ?_;rintro _ _ ⟨rfl,rfl⟩;refine ZE 4 ?_;refine dx ?_;refine Z_3 ?_;refine bP (row b8 (s.cells (.slice X.Ad s.d.length X.cd) (.slice X.Ar s.r.length X.cr)) 47::row b9 (RS.cells ⟨xr,A2,c2⟩) 181::tF bu bb L s X U be E2) Zj ?_;refine pq (cs':=tF bu bb L s X U be E2) (.inl rfl) (List.Sublist.cons _ (List.Sublist.cons _ (aR _))) rfl rfl rfl rfl Zh Zh Zrf Zrf Zrf Zrf ?_;rw[hTn];exact⟨E2,hE2,hEe,X,⟨xr,A2,c2⟩,rfl,rfl⟩
 have hTn:=hTy s1 how hrc hc7;refine Z_5 ?_;refine ZSe (λw hi=>lO bu L.bm bb w (hi.get (show Has _ (Jd bu L.bm bb)from Zh))) ?_;refine ZcM ([eA L U.m]) (λw hi hin=>BW L U.m w hin) ?_;refine Z_2 ?_;refine da (λY:CaX=>[(0,.pointer (some ⟨be,0,none⟩)),(8,.pointer (some ⟨b8,0,none⟩)),(9,.pointer (some ⟨b9,0,none⟩)),(13,.pointer (some ⟨b13,0,none⟩)),(14,.pointer (some ⟨b14,0,none⟩)),(15,.pointer (some ⟨b15,0,none⟩)),(17,.pointer (some ⟨b17,0,none⟩))]) (λY=>row b8 (St.zero.cells (.slice none 0 0) (.slice none 0 0)) 47::row b9 (RS.cells RS.zero) 181::row b13 (cC (s.pc,(p:Int))) 134::row b14 (BA.cells ⟨⟨tk,C,tc⟩,A1,c1⟩) 172::row b15 (RS.cells ⟨xr,A2,c2⟩) 181::row b17 (s1.cells (.slice X1.Ad s1.d.length X1.cd) (.slice X1.Ar s1.r.length X1.cr)) 47::tF bu bb L s1 X1 ⟨U.m.calm,U.t⟩ be (E2.Nj Y)) (λY=>qa E2.room Y/\Y.Z=E2.X.Z) ?_ ?_
 .refine Z_8 ?_;refine ZW ?_ ?_<;>intro hc10
  .refine bU ⟨λj=>List.elem j [9],[]⟩ Zk ?_;refine gO ?_;refine ZFe 2 0 ?_;refine ZG 3 ?_;refine ZE 4 ?_;refine ZE 5 ?_;refine ZFe 6 2 ?_;refine dD 7 rfl Zk Zk Zk Zk (cz (vs:=cC E2.last) Zrf Zrf Zv0) (cK Zh rfl) rfl ?_;refine dD 8 rfl Zk Zk Zk Zk (cz (vs:=cC (s.pc,(p:Int))) Zrf Zrf Zv0) (cK Zh rfl) rfl ?_;refine cn 9 Zk ?_;refine ZcA (caF E2.bc E2.room E2.X) (λw hi hin=>LF E2.bc E2.room E2.X hE2.ca E2.last (s.pc,(p:Int)) hE2.last w hin) ?_;rintro _ _ ⟨_,⟨X2,rfl,hX2,hXZ⟩,rfl⟩;refine dx ?_;refine bX (X2) ?_ ?_ ?_
   .exact⟨hX2,hXZ⟩
   .exact Zwk
   exact Zj
  refine Zc ?_;refine bX (E2.X) ?_ ?_ ?_
  .exact⟨hE2.ca,rfl⟩
  .exact Zwk
  exact Zj
 rintro Y ⟨hY,hYZ⟩;refine Z_4 ?_;refine dN (cz (vs:=cC (s.pc,(p:Int))) Zrf Zrf Zv0) (cK Zh rfl) rfl ?_;refine Z_2 ?_;refine dH (fb (ys:=[.pointer (some ⟨E2.bc,0,none⟩),.map (some E2.mr),.int .u32 s.pc,.int .u32 (p:Int),.int .i64 E2.Nk,.int .i64 E2.Nh,.bool E2.begun]) (n:=2) (vs:=cC (s.pc,(p:Int))) rfl Zrf rfl rfl (tx _) Za rfl (Nat.le_of_ble_eq_true rfl)) ?_;rintro _ _ ⟨rfl,rfl⟩;refine Z_2 ?_;refine ZL ?_;refine Z_3 ?_;refine bU ⟨λj=>List.elem j [9],[]⟩ Zk ?_;refine gO ?_;refine ZFe 2 4 ?_;refine ZG 3 ?_;refine ZFe 4 3 ?_;refine ZG 5 ?_;refine cG 6 rfl Zk Zk Zk (df Zv0 Zv0 Zl) rfl ?_;refine ZE 7 ?_;refine ZFe 8 4 ?_;refine cn 9 Zk ?_;refine ZQ ?_;refine dx ?_;refine Z_2 ?_;refine bU ⟨λj=>List.elem j [4,5],sQ b14 (BA.cells ⟨⟨tk,C,tc⟩,A1,c1⟩)++sQ b15 (RS.cells ⟨xr,A2,c2⟩)⟩ Zk ?_;refine ZI 0 ?_;refine uX 1 rfl Zk Zk Zk (cz (vs:=RS.cells ⟨xr,A2,c2⟩) Zrf Zrf Zv0) (λx hx=>List.mem_append_right _ (gx x hx)) (gb (bV (t:=172) Zh) (bV (t:=181) Zh)) rfl ?_;refine ZFe 2 3 ?_;refine iV 3 rfl Zk Zk Zk (bQ Zrf (Zv rfl)) Wq2 (gb (bV (t:=172) Zh) (bV (t:=181) Zh)) rfl ?_;refine cn 4 Zk ?_;refine du rfl rfl (bZ Zrf rfl rfl (jA rfl) Za (by exact rfl)) (λ_=>by rintro _ _ ⟨rfl,rfl⟩;exact gb (bV (t:=172) Zh) (bV (t:=181) Zh)) ?_;rintro _ _ ⟨rfl,rfl⟩;refine cn 5 Zk ?_;refine du rfl rfl (bZ Zrf rfl rfl (gn ⟨xr,A2,c2⟩) Za (by exact rfl)) (λ_=>by rintro _ _ ⟨rfl,rfl⟩;exact gb (bV (t:=172) Zh) (bV (t:=181) Zh)) ?_;rintro _ _ ⟨rfl,rfl⟩;refine ZE 6 ?_;refine dx ?_;refine Z_2 ?_;refine bP (row b8 (s1.cells (.slice X1.Ad s1.d.length X1.cd) (.slice X1.Ar s1.r.length X1.cr)) 47::row b9 (RS.cells ⟨xr,A2,c2⟩) 181::tF bu bb L s1 X1 ⟨U.m.calm,U.t⟩ be (E2.toldE Y (s.pc,(p:Int)) tc)) Zj ?_;refine pq (cs':=tF bu bb L s1 X1 ⟨U.m.calm,U.t⟩ be (E2.toldE Y (s.pc,(p:Int)) tc)) (.inl rfl) (List.Sublist.cons _ (List.Sublist.cons _ (aR _))) rfl rfl rfl rfl Zh Zh Zrf Zrf Zrf Zrf ?_;rw[hTn];exact⟨_,hE2.told hY hYZ hky tc,by rw[JC hYZ,hEe],X1,⟨xr,A2,c2⟩,rfl,rfl,rfl⟩
end Go.Proofs.YtkegldppffignaaGreatDoor
