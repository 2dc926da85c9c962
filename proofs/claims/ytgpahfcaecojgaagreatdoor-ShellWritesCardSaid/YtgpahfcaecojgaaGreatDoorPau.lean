/- Lemmas. -/
import Derived.Test.YtgpahfcaecojgaaGreatDoorPzq
import Derived.Test.YtgpahfcaecojgaaGreatDoorPat
set_option linter.all false
set_option maxRecDepth 100000
set_option maxHeartbeats 4000000
namespace Go.Ink
open Go.RowKit Go.Proofs.Tryz
theorem run_v(RZ:List (Ky×RS))(k:Ky):fY (rnV RZ) k (.agg #[.slice none 0 0,.bool false])=(fY RZ k RS.zero).v:=AG RS.v RZ k RS.zero
theorem run_r(RZ:List (Ky×RS))(k:Ky):fY (rnM RZ) k Rn.zero=(fY RZ k RS.zero).r:=AG RS.r RZ k RS.zero
theorem rnM_put(RZ:List (Ky×RS))(k:Ky)(x:RS):rnM (dS RZ k x)=dS (rnM RZ) k x.r:=(Hn RS.r RZ k x).symm
theorem rnV_put(RZ:List (Ky×RS))(k:Ky)(x:RS):dS (rnV RZ) k (.agg x.cells.toArray)=rnV (dS RZ k x):=Hn RS.v RZ k x
theorem M4(RZ:List (Ky×RS))(k:Ky):fY RZ k RS.zero=RS.zero\/∃y,y∈RZ/\y.2=fY RZ k RS.zero:=by
 unfold fY;cases hf:RZ.find? (λx=>x.1==k)with
 |none=>grind
 |some y=>grind
variable{k:Ky}
theorem AC{β:Type}{L:List (Ky×β)}{v:β}{y:Ky×β}(h:y∈dS L k v):y=(k,v)\/y∈L:=by
 grind [dS,cT]
variable{RZ:List (Ky×RS)}
theorem Ot(k:Ky)(x:RS)(h:(RZ.map (·.1)).Nodup):((dS RZ k x).map (·.1)).Nodup:=by
 rw[AD];exact rU h
theorem IJ(Z:List BA)(k:Ky):(Z.map BA.b).find? (λt=>t.key==k)=(Z.find? λx=>x.key==k).map BA.b:=by
 rw[List.find?_map]
 rfl
variable{E:EnX}{b:Li}
theorem Pf{y:BA}(h:(E.X.Z.find? λx=>x.key==k)=some y)(hp:(fY E.RZ k RS.zero).r.bytes.isPrefixOf b=true):lz E.eng k b=(some (y.b,(fY E.RZ k RS.zero).r),E.eng):=by
 unfold lz Dy;rw[show E.eng.l=E.X.Z.map BA.b from rfl,IJ,h,show E.eng.runs=rnM E.RZ from rfl,run_r]
 grind
theorem Tq{o:Option BA}(ho:(E.X.Z.find? λx=>x.key==k)=o)(hp:(o.isSome&&(fY E.RZ k RS.zero).r.bytes.isPrefixOf b)=false):Dy E.eng k b=none:=by
 unfold Dy;rw[show E.eng.l=E.X.Z.map BA.b from rfl,IJ,ho,show E.eng.runs=rnM E.RZ from rfl,run_r]
 grind
variable{E:Eng}
theorem zp(h:Dy E k b=none)(hm:wa k b=none):lz E k b=(none,E):=by
 grind [lz]
variable{t:Blk}{r:Rn}
theorem Pe(h:Dy E k b=none)(hm:wa k b=some (t,r)):lz E k b=(some (t,r),addE E t r):=by
 grind [lz]
variable{l:List (Int×Int)}{sz:Nat}{en:Bool}
theorem N8(hR:cV b 8 0=(l,sz,en))(h:fq k.1 l=none):wa k b=none:=by
 grind [wa]
theorem SD{p:Pg}(hR:cV b 8 0=(l,sz,en))(h:fq k.1 l=some p)(hr:p.Ws=false):wa k b=none:=by
 grind [wa]
theorem SC{p:Pg}(hR:cV b 8 0=(l,sz,en))(h:fq k.1 l=some p)(hr:p.Ws=true):wa k b=some (⟨k,gl p (dW p),(l.length:Int)⟩,⟨b.take sz,en⟩):=by
 grind [wa]
theorem TO(p:Pg)(pl:Pl):gl p pl≠[]:=by
 unfold gl;simp
theorem Qf(E:EnX)(X':CaX)(t:Blk)(x:RS)(hX:X'.Z.map BA.b=vQ Blk.key E.room (E.X.Z.map BA.b) t):
  (bif decide ((X'.Z.length:Int)<((dS E.RZ t.key x).length:Int))then((E.WP X').WX (oY X'.Z (dS E.RZ t.key x))).eng else((E.WP X').WX (dS E.RZ t.key x)).eng)=addE E.eng t x.r:=by
 unfold addE;dsimp only;rw[show E.eng.room=E.room from rfl,show E.eng.l=E.X.Z.map BA.b from rfl,show E.eng.runs=rnM E.RZ from rfl,<-hX,<-rnM_put,ax];have e:(rnM (dS E.RZ t.key x)).length=(dS E.RZ t.key x).length:=ax _;rw[e];cases hd:decide ((X'.Z.length:Int)<((dS E.RZ t.key x).length:Int))with
 |true=>
  simp only[ac]at hd;rw[aE (show X'.Z.length<(dS E.RZ t.key x).length by omega),ai,ai,Dx]
  rfl
 |false=>
  simp only[aa]at hd;rw[aF (show¬X'.Z.length<(dS E.RZ t.key x).length by omega),ah,ah]
  rfl
section
attribute [local irreducible] OpY bN
theorem run_rd{w:World}(h:(bP (rnC RZ)).ok w):Rd w .u8 (fY RZ k RS.zero).A (fY RZ k RS.zero).r.bytes.length (fY RZ k RS.zero).c (fY RZ k RS.zero).r.bytes:=by
 rcases M4 RZ k with e|⟨y,hy,e⟩
 .rw[e];exact nH w .u8
 rw[<-e];exact dx (ek h (rsC y.2) (aZ.2 ⟨y,hy,rfl⟩))
def sT(RZ:List (Ky×RS))(k:Ky):List bJ:=match cT (·.1) k RZ with|some j=>(rnC RZ).eraseIdx j|none=>rnC RZ
theorem yK(RZ:List (Ky×RS))(k:Ky):(sT RZ k).Sublist (rnC RZ):=by
 grind [sT,cT]
theorem rnPut(RZ:List (Ky×RS))(k:Ky)(x:RS):(rnC (dS RZ k x)).Perm (rsC x::sT RZ k):=by
 grind [sT,dS,cT,fp,rnC,uB,List.map_set,List.perm_append_singleton]
theorem PY(bc:Nat)(room:Int)(X:CaX)(hS:BaSm X.Z)(k:Ky):CI prog 148 [.p bc,.agg (cD k).toArray] (caF bc room X) (λv cs=>∃y:BA,v= .tuple #[.agg y.cells.toArray,.bool (X.Z.find? λx=>x.key==k).isSome]/\cs=caF bc room X++[baC y]/\∀x,(X.Z.find? λx=>x.key==k)=some x->y.b=x.b):=λw hi=>by
 have h:=Ja bc room X hS k w hi;obtain⟨o,ho⟩:=Zgn ((X.Z.find? λx=>x.key==k));rw[ho]at h|-;refine h.up λv cs w' hk hi'=>?_
 cases o with
 |none=>
  obtain⟨rfl,rfl⟩:=hk;exact⟨_,⟨⟨⟨(0,0),[],0⟩,none,0⟩,rfl,rfl,λx e=>nomatch e⟩,hi'.more (wz w' [] 5 1)⟩
 |some x=>
  obtain⟨A',c',rfl,rfl⟩:=hk;exact⟨_,⟨⟨x.b,A',c'⟩,rfl,rfl,λx e=>by cases e;rfl⟩,hi'.perm (List.perm_append_singleton _ _).symm⟩
def FindR(be:Nat)(o:Option (Blk×Rn))(E':EnX)(v:Value)(cs:List bJ):Prop:=∃(y:BA) (x:RS),v= .tuple #[.agg y.cells.toArray,.agg x.cells.toArray,.bool o.isSome]/\cs=baC y::enF be E'/\∀t r,o=some (t,r)->y.b=t/\x.r=r
theorem Tz(be:Nat)(E:EnX)(hE:oW E)(k:Ky)(hk:ly k)(A:Oa)(c:Nat)(b:Li)(hb:u8s b)(hbl:b.length<=1000)(w:World)(hi:Inv w (bK (enF be E)) (enF be E) w)(h:∀w',dc (bK (enF be E)) w w'->Rd w' .u8 A b.length c b):
  Ctr prog 169 [.p be,.agg (cD k).toArray,.slice A b.length c] w (enF be E) (λv cs=>∃E',oW E'/\E'.eng=(lz E.eng k b).2/\FindR be (lz E.eng k b).1 E' v cs):=by
 have HF:=PY E.bc E.room E.X hE.ca.sm k;have FK:=λy h1 h2=>Pf (E:=E) (k:=k) (b:=b) (y:=y) h1 h2
 obtain⟨o,ho⟩:=Zgn ((E.X.Z.find? λx=>x.key==k));have FN:=Tq (E:=E) (k:=k) (b:=b) ho;rw[ho]at HF FK;have HG:=qT hE.eg (k:=k) hb;have hxr:u8s (fY E.RZ k RS.zero).r.bytes:=by
  rcases M4 E.RZ k with e|⟨y,hy,e⟩
  .rw[e];exact λx hx=>nomatch hx
  rw[<-e];exact(hE.rs y hy).2.2
 have hxrd:=λ(w:World) h=>run_rd (w:=w) (RZ:=E.RZ) (k:=k) h
 obtain⟨x,hx⟩:=Zgn (fY E.RZ k RS.zero);rw[hx]at FK FN hxr hxrd;have HP:=Po A c b hb hbl;obtain⟨⟨l,sz,en⟩,hR⟩:=Zgn (cV b 8 0);have hu:∀i,i∈l->u32 i.2:=by
  have:=(mB b 8 0).1.u32 hb;rw[hR]at this;exact this
 rw[hR]at HP;dsimp only at HP;have HL:=λA1 c1 w h=>OJ k.1 A1 c1 l hu w h
 obtain⟨lo,hlo⟩:=Zgn (fq k.1 l);rw[hlo]at HL;have hcap:=(h w (dc.refl _ _)).cap;refine Zfn func169 ntmps169 hi ?_;refine Z_2 ?_;refine ZO λb4=>?_;refine ZN λb6=>?_
 refine ZN λb7=>?_
 refine Z_3 ?_;refine cL (λq:BA×Nat=>[(0,.p be),(2,.slice A b.length c),(4,.p b4),(6,.p b6),(7,.p b7),(9,.p q.2),(10,.bool o.isSome)]) (λq=>enF be E++[baC q.1,row b4 (cD k) 206,row b6 (BA.cells ⟨⟨(0,0),[],0⟩,none,0⟩) 242,row b7 (RS.cells RS.zero) 248,row q.2 (BA.cells q.1) 242]) (λq=>∀x,o=some x->q.1.b=x.b) ?_ ?_
 .refine gP (Zdn [5,10]) [(0,0),(1,0),(2,0),(3,1),(4,1),(5,3),(6,3),(7,3),(8,3),(9,3),(10,3),(11,3)] Zk Zk (m5 ?_);refine Qz ?_;refine EF ?_;refine rA rfl Zh Zrf Zrf (Zv rfl) rfl (LY [(5,[(6,0),(7,0),(8,0),(9,2),(10,2),(11,0)]),(9,[(5,2),(6,0),(7,0),(8,0),(10,2),(11,0)])] Zk (.cons ?_ (.cons ?_ .nil)))
  .refine Ls ?_;rintro _ _ ⟨_,⟨y,rfl,rfl,hy⟩,rfl⟩;refine m5 ?_;refine V0 ?_;refine ym ?_;rintro _ _ ⟨b9,rfl,rfl⟩;refine EI ?_;rintro _ _ ⟨rfl,rfl⟩;refine Jm ?_;refine qMP ((y,b9)) hy
  refine Jl ?_;rintro _ _ ⟨b9,rfl,rfl⟩;refine fT ?_;refine Ls ?_;rintro _ _ ⟨_,⟨y,rfl,rfl,hy⟩,rfl⟩;refine m5 ?_;refine V0 ?_;refine EI ?_;rintro _ _ ⟨rfl,rfl⟩;refine Jm ?_;refine qMP ((y,b9)) hy
 rintro⟨y,b9⟩ hy;dsimp only at hy|-;refine Zs (cL (λq:Nat=>[(0,.p be),(2,.slice A b.length c),(4,.p b4),(6,.p b6),(7,.p b7),(9,.p b9),(10,.bool o.isSome),(11,.p q)]) (λq=>enF be E++[baC y,row b4 (cD k) 206,row b6 (BA.cells ⟨⟨(0,0),[],0⟩,none,0⟩) 242,row b7 (RS.cells RS.zero) 248,row b9 (BA.cells y) 242,row q (RS.cells x) 248]) (λ_=>True) ?_ ?_)
 .refine gP (Zdn [7]) [(0,0),(1,0),(2,0),(3,1),(4,1),(5,3),(6,3),(7,3)] Zk Zk (m5 ?_);refine dH rfl (Jr Zv0) rfl (GB ?_);refine EF ?_;refine rA rfl Zh Zrf Zrf (Zv rfl) rfl (LY [(5,[(6,2),(7,2)]),(6,[(5,2),(7,2)])] Zk (.cons ?_ (.cons ?_ .nil)))
  .refine Wq345 ?_;refine Jl ?_;rintro _ _ ⟨b11,rfl,rfl⟩;refine fT ?_;rw[run_v E.RZ k,hx];refine EG ?_;rintro _ _ ⟨rfl,rfl⟩;refine i6 (qMP (b11) kY)
  refine Jl ?_;rintro _ _ ⟨b11,rfl,rfl⟩;refine fT ?_;refine Wq345 ?_;rw[run_v E.RZ k,hx];refine EG ?_;rintro _ _ ⟨rfl,rfl⟩;refine i6 (qMP (b11) kY)
 rintro b11 -;refine Z_7 ?_;refine dE (bS rfl rfl) (.cons (cA rfl) (.cons (cA rfl) .nil)) (λ_ _=>rfl) (λhg w hi=>DJ A x.A c x.c b x.r.bytes hb hxr w (h w hi.WB) (hxrd w (hi.get (Zhc (bP (rnC E.RZ)))))) rfl (Zw3 ?_ ?_)<;>intro hc3
 .have h9:(o.isSome&&x.r.bytes.isPrefixOf b)=true:=hc3;rw[au]at h9;obtain⟨y0,rfl⟩:=Option.isSome_iff_exists.1 h9.1;have hfk:=FK y0 rfl h9.2;have hyb:=hy y0 rfl;refine Zs (bU (Zdr [2,3] (mU b11 (RS.cells x))) Zk ?_);refine Ve ?_;refine fy rfl rfl (cZ Zrf rfl rfl (mY y) Za o6) Uo ?_;rintro _ _ ⟨rfl,rfl⟩;refine cW 3 Zk (fy rfl rfl (cZ Zrf rfl rfl (nE x) Za o6) Uo ?_);rintro _ _ ⟨rfl,rfl⟩;refine ZE 4 ?_;refine dR ?_;refine Z_3 ?_;exact bO (row b6 (BA.cells y) 242::row b7 (RS.cells x) 248::baC y::enF be E) Zj (yN (cs':=baC y::enF be E) (.inl rfl) (List.Sublist.cons _ (List.Sublist.cons _ (bh _))) rfl rfl rfl rfl Zh Zh Zrf Zrf Zrf Zrf ⟨E,hE,by rw[hfk],by rw[hfk];exact⟨y,x,rfl,rfl,λt r e=>by grind⟩⟩)
 have hnk:=FN hc3;refine Z_5 ?_;refine ZSn (λw hi=>HP w (h w hi.WB)) ?_;rintro _ _ ⟨A1,c1,x2,hx2,rfl,rfl⟩;refine Z_3 ?_;refine ZN λb13=>?_
 refine ZA ?_;refine eT (cZ Zrf rfl rfl (nE x2) Za o6) ?_;rintro _ _ ⟨rfl,rfl⟩;refine Z_3 ?_;rcases lo with _|p
 .have hfn:=zp hnk (N8 hR hlo);refine Z_4 ?_;refine ZSe (λw hi=>HL A1 c1 w (hi.rd (Zhc (slv 128 2 A1 l.length c1 (l.flatMap LJ))))) ?_;refine Z_3 ?_;refine ZN λb14=>?_
  refine sF ?_;refine pX ?_;refine Zs (bU (Zdr [2,3] (mU b13 (RS.cells x2))) Zk ?_);refine Ve ?_;exact Wq268
 obtain⟨hfit,hcnt,hl1,hl8,hgo⟩:=Dv hu hlo;refine Z_4 ?_;refine ZSn (λw hi=>HL A1 c1 w (hi.rd (Zhc (slv 128 2 A1 l.length c1 (l.flatMap LJ))))) ?_;rintro _ _ ⟨Q,rfl,rfl⟩;refine Z_3 ?_;refine ZN λb14=>?_
 refine sF ?_;refine kv ?_;refine Z_3 ?_;rcases hrb:p.Ws with _|_
 .have hfn:=zp hnk (SD hR hlo hrb);refine Z_2 ?_;refine ZSe (λw hi=>Px p Q hfit hrb w ⟨hi.rd (Zhc (slv 343 5 Q.Ac p.code.length Q.cc (p.code.flatMap II.cells))),hi.rd (Zhc (sl .i64 3 Q.Ad p.Wo.length Q.cd p.Wo)),hi.rd (Zhc (sl .i64 3 Q.Ar p.Wp.length Q.cr p.Wp))⟩) ?_;refine jl ?_;refine pX ?_;refine Zs (bU (Zdr [2,3] (mU b13 (RS.cells x2))) Zk ?_);refine Ve ?_;exact Wq268
 have hfm:=Pe hnk (SC hR hlo hrb);obtain⟨hgd,hCl⟩:=hgo hrb;have hCne:=TO p (dW p);have HE:=TA p Q hfit hrb hgd;obtain⟨C,hC⟩:=Zgn (gl p (dW p));rw[hC]at hfm hgd hCl hCne HE;have hnew:ly k/\x2.r.bytes.length<=1000/\u8s x2.r.bytes:=(by rw[hx2];exact⟨hk,by grind,λz hz=>hb z (aB hz)⟩);refine Z_2 ?_;refine ZSn (λw hi=>HE w ⟨hi.rd (Zhc (slv 343 5 Q.Ac p.code.length Q.cc (p.code.flatMap II.cells))),hi.rd (Zhc (sl .i64 3 Q.Ad p.Wo.length Q.cd p.Wo)),hi.rd (Zhc (sl .i64 3 Q.Ar p.Wp.length Q.cr p.Wp))⟩) ?_;rintro _ _ ⟨A3,c3,rfl,rfl⟩;refine sG ?_;refine Z_9 ?_;refine eT (cZ Zrf rfl rfl (mY ⟨⟨k,C,(l.length:Int)⟩,A3,c3⟩) Za o6) ?_;rintro _ _ ⟨rfl,rfl⟩;refine Z_3 ?_;refine bU (Zdn [5]) Zk (uj ?_);refine ZG 3 ?_;refine ZI 4 ?_;refine kQ ?_;refine tD (caF E.bc E.room E.X) (λw hi hin=>cput_ok E.bc E.room E.X hE.ca ⟨⟨k,C,(l.length:Int)⟩,A3,c3⟩ ⟨hCl,hk⟩ (show(1:Int)<=(l.length:Int) by omega) hCne w hin (λw' hk'=>dx (hi.Xc Zi (Zhc (sl .u8 5 A3 (cI C).length c3 (cI C))) hk'))) ?_;rintro _ _ ⟨X',rfl,hX',hXZ⟩;refine jU ?_;refine bU (Zdn [6]) Zk (pP ?_);refine ZFe 2 1 ?_;refine ZG 3 ?_;refine ZI 4 ?_;refine ZI 5 ?_;refine cW 6 Zk (fy rfl rfl (t_mput rfl rfl rfl hk rfl FX Za) ZJ ?_);rintro _ _ ⟨rfl,rfl⟩;rw[rnV_put E.RZ k x2];refine dR ?_;refine Z_3 ?_;refine bU (Zdn [9]) Zk (pP ?_);refine ZFe 2 1 ?_;refine kU ?_;refine ZFe 7 0 ?_;refine ZG 8 ?_;refine cW 3 Zk (zL ?_);refine cW 4 Zk (JB rfl (y_mlen (Zv rfl) rfl) (λw hi=>(show ou E.mr (rnV (dS E.RZ k x2)) w from hi.get (Zhc (mpc E.mr (rnV (dS E.RZ k x2)))))) rfl (kR ?_));refine tD (caF E.bc E.room X') (λw hi hin=>clen_ok E.bc E.room X' w hin) ?_;rintro _ _ ⟨rfl,rfl⟩;refine ZE 10 ?_;refine ug ?_;refine ZW ?_ ?_<;>intro hc15
 .have hd:decide ((X'.Z.length:Int)<((dS E.RZ k x2).length:Int))=true:=Wq439
  have had:=Qf E X' ⟨k,C,(l.length:Int)⟩ x2 hXZ;dsimp only at had;rw[hd,ai,hx2]at had;refine Zr (yw (cin:=rnC E.RZ) (cin':=sT E.RZ k) Zd (yK E.RZ k) ?_);refine Jz (cin:=sT E.RZ k) (c:=rsC x2) (cin':=rnC (dS E.RZ k x2)) Zd Zd (rnPut E.RZ k x2) (ZA ?_);refine ZcL (enF be ((E.WP X').WX (dS E.RZ k x2))) (λw hi hin=>IP be ((E.WP X').WX (dS E.RZ k x2)) hX'.sm (Ot k x2 hE.rk) (λy hy=>(AC hy).elim (λe=>by grind) (λhy=>(hE.rs y hy).1)) w hin) ?_;rintro _ _ ⟨_,rfl,rfl⟩;refine Wq379 ?_;rintro _ _ ⟨rfl,rfl⟩;refine cW 3 Zk (fy rfl rfl (cZ Zrf rfl rfl (nE x2) Za o6) Uo ?_);rintro _ _ ⟨rfl,rfl⟩;refine ZE 4 ?_;refine jU ?_;refine bO (row b6 (BA.cells ⟨⟨k,C,(l.length:Int)⟩,A3,c3⟩) 242::row b7 (RS.cells x2) 248::baC ⟨⟨k,C,(l.length:Int)⟩,A3,c3⟩::enF be ((E.WP X').WX (oY X'.Z (dS E.RZ k x2)))) Zj (yN (cs':=baC ⟨⟨k,C,(l.length:Int)⟩,A3,c3⟩::enF be ((E.WP X').WX (oY X'.Z (dS E.RZ k x2)))) (.inl rfl) (List.Sublist.cons _ (List.Sublist.cons _ (bh _))) rfl rfl rfl rfl Zh Zh Zrf Zrf Zrf Zrf ?_);rw[hfm]at HG|-;exact⟨(E.WP X').WX (oY X'.Z (dS E.RZ k x2)),⟨hX',by grind,λy hy=>(AC (List.mem_filter.1 hy).1).elim (λe=>by grind) (λhy=>hE.rs y hy),hE.last⟩,had,⟨⟨⟨k,C,(l.length:Int)⟩,A3,c3⟩,x2,rfl,rfl,λt r e=>by grind⟩⟩
 have hd:decide ((X'.Z.length:Int)<((dS E.RZ k x2).length:Int))=false:=Wq439
 have had:=Qf E X' ⟨k,C,(l.length:Int)⟩ x2 hXZ;dsimp only at had;rw[hd,ah,hx2]at had;refine Wq379 ?_;rintro _ _ ⟨rfl,rfl⟩;refine cW 3 Zk (fy rfl rfl (cZ Zrf rfl rfl (nE x2) Za o6) Uo ?_);rintro _ _ ⟨rfl,rfl⟩;refine ZE 4 ?_;refine jU ?_;refine mA (cin:=rnC E.RZ) (cin':=sT E.RZ k) Zd (yK E.RZ k) (kC (cin:=sT E.RZ k) (c:=rsC x2) (cin':=rnC (dS E.RZ k x2)) Zd Zd (rnPut E.RZ k x2) (bO (row b6 (BA.cells ⟨⟨k,C,(l.length:Int)⟩,A3,c3⟩) 242::row b7 (RS.cells x2) 248::baC ⟨⟨k,C,(l.length:Int)⟩,A3,c3⟩::enF be ((E.WP X').WX (dS E.RZ k x2))) Zj (yN (cs':=baC ⟨⟨k,C,(l.length:Int)⟩,A3,c3⟩::enF be ((E.WP X').WX (dS E.RZ k x2))) (.inl rfl) (List.Sublist.cons _ (List.Sublist.cons _ (bh _))) rfl rfl rfl rfl Zh Zh Zrf Zrf Zrf Zrf ?_)));rw[hfm]at HG|-;exact⟨(E.WP X').WX (dS E.RZ k x2),⟨hX',by grind,λy hy=>(AC hy).elim (λe=>by grind) (λhy=>hE.rs y hy),hE.last⟩,had,⟨⟨⟨k,C,(l.length:Int)⟩,A3,c3⟩,x2,rfl,rfl,λt r e=>by grind⟩⟩
abbrev EnX.toldE(E:EnX)(X:CaX)(k:Ky)(c:Int):EnX:=⟨E.bc,E.mr,E.room,X,E.RZ,k,IntKind.i64.wrap (E.WF+c),E.WD,true⟩
variable{s:St}{p:Int}{G:Eng}
theorem Q6(h:lz E (s.pc,p) b=(none,G)):jq E s p b=(none,G):=by
 grind [jq]
theorem Mw{s1:St}{how:Int}(h:lz E (s.pc,p) b=(some (t,r),G))(hr:iu t.code s=(s1,how))(hh:(how !=1)=true):jq E s p b=(none,G):=by
 grind [jq]
theorem Mv{s1:St}{how:Int}(h:lz E (s.pc,p) b=(some (t,r),G))(hr:iu t.code s=(s1,how))(hh:(how !=1)=false):jq E s p b=(some (s1,r,t.count),{G with last:=(s.pc,p),begun:=true,WF:=IntKind.i64.wrap (G.WF+t.count)}):=by
 grind [jq]
theorem oW.told{E:EnX}(h:oW E){X:CaX}(hX:rp E.room X)(hZ:X.Z=E.X.Z){k:Ky}(hk:ly k)(c:Int):oW (E.toldE X k c):=
 ⟨hX,h.eg.same rfl (by show X.Z.map BA.b=E.X.Z.map BA.b;rw[hZ]) rfl,h.rs,hk⟩
theorem Q8{E:EnX}{X:CaX}(hZ:X.Z=E.X.Z)(k:Ky)(c:Int):(E.toldE X k c).eng={E.eng with last:=k,begun:=true,WF:=IntKind.i64.wrap (E.eng.WF+c)}:=by
 show Eng.mk E.room (X.Z.map BA.b) (rnM E.RZ) k (IntKind.i64.wrap (E.WF+c)) E.WD true=Eng.mk E.room (E.X.Z.map BA.b) (rnM E.RZ) k (IntKind.i64.wrap (E.WF+c)) E.WD true;rw[hZ]
abbrev tF(bu bb:Nat)(L:eB)(s:St)(X:ko)(U:Mmu)(be:Nat)(E:EnX):List bJ:=slD s X.Ad X.cd::slR s X.Ar X.cr::(uF bu bb L U++enF be E)
def TransR(bu bb:Nat)(L:eB)(s:St)(U:Mmu)(be:Nat)(o:Option (St×Rn×Int))(E':EnX)(v:Value)(cs:List bJ):Prop:=match o with
 |none=>∃(X:ko) (x:RS),v= .tuple #[sv s X.Ad X.cd X.Ar X.cr,.agg x.cells.toArray,.i 0]/\cs=tF bu bb L s X U be E'
 |some (o,r,k)=>∃(X:ko) (x:RS),x.r=r/\v= .tuple #[sv o X.Ad X.cd X.Ar X.cr,.agg x.cells.toArray,.i k]/\cs=tF bu bb L o X ⟨U.m.calm,U.t⟩ be E'
theorem Pm(be bu bb:Nat)(L:eB)(E:EnX)(hE:oW E)(s:St)(X:ko)(p:Nat)(hp:p<=4294967295)(hpn:p/64<L.n)(U:Mmu)(hwf:s.wf)(hs:s.right=true)(hM:U.m.ok L.n):CI prog 150 [.p be,sv s X.Ad X.cd X.Ar X.cr,.w (p:Int),.p bu] (tF bu bb L s X U be E) (λv cs=>∃E',oW E'/\E'.eng=(jq E.eng s p (iF U.m p)).2/\TransR bu bb L s U be (jq E.eng s p (iF U.m p)).1 E' v cs):=λw hi=>by
 have hq:IntKind.u32.wrap ((p:Int).tdiv 64)=((p/64:Nat):Int):=by rw[Int.tdiv_eq_ediv_of_nonneg Wq1,u32_wrap_id _ Wq1 Wq1];omega
 have hrm:(p:Int).tmod 64=((p%64:Nat):Int):=by rw[aW Wq1];omega
 have HP:=AE L U.m (p/64) hpn;have hbb:=vT hM p;have hbe:iF U.m p=((U.m.data.drop (p/64*64)).take 64).drop (p%64):=rfl;have hdl:=hM.dl;have hXl:((U.m.data.drop (p/64*64)).take 64).length=64:=by rw[aD,bH];omega
 obtain⟨D,hD⟩:=Zgn ((U.m.data.drop (p/64*64)).take 64);rw[hD]at HP hXl hbe;obtain⟨hd16,hr16, -⟩:=St.fits hs;have hky:ly (s.pc,(p:Int)):=⟨hwf.pc,by omega,by omega⟩;have hbl:(iF U.m p).length=64 - p%64:=by rw[hbe,bH,hXl]
 have HFi:=λA c w hi h=>Tz be E hE (s.pc,(p:Int)) hky A c (iF U.m p) hbb Wq1 w hi h
 have HGo:=qT hE.eg (k:=(s.pc,(p:Int))) hbb;have hT1:=λG h=>Q6 (E:=E.eng) (s:=s) (p:=p) (b:=iF U.m p) (G:=G) h
 have hT2:=λG t r s1 how h=>Mw (E:=E.eng) (s:=s) (p:=p) (b:=iF U.m p) (G:=G) (t:=t) (r:=r) (s1:=s1) (how:=how) h
 have hT3:=λG t r s1 how h=>Mv (E:=E.eng) (s:=s) (p:=p) (b:=iF U.m p) (G:=G) (t:=t) (r:=r) (s1:=s1) (how:=how) h
 rw[hbl]at HFi;obtain⟨⟨o,G⟩,hF⟩:=Zgn (lz E.eng (s.pc,(p:Int)) (iF U.m p));rw[hF]at HFi HGo hT1 hT2 hT3;obtain⟨T,hT⟩:=Zgn (jq E.eng s p (iF U.m p));rw[hT]at hT1 hT2 hT3|-;rw[hbe]at HFi;clear hbe hbl;refine Zfn func150 ntmps150 hi ?_;refine Z_2 ?_;refine ZO λb5=>?_;refine ZN λb8=>?_
 refine ZN λb9=>?_
 refine Z_6 ?_;refine ZSe (λw hi=>zU bu L.bm bb w (hi.get (Zhc (LG bu L.bm bb)))) ?_;refine ZA ?_;refine Zy (mh (Zv rfl) (Zv rfl) Wq1 hq) ?_;refine lD ?_;refine ZSn (λw hi=>HP w (hi.get (Zhc (fw L U.m)))) ?_;rintro _ _ ⟨bq,rfl,rfl⟩;refine ng ?_;refine ZN λb13=>?_
 refine eT (cZ (vs:=cD (s.pc,(p:Int))) Zrf rfl rfl (wo _) Za o6) ?_;rintro _ _ ⟨rfl,rfl⟩;refine Z_2 ?_;refine cL (λq:EnX×BA×RS×Nat×Nat=>[(0,.p be),(3,.p bu),(5,.p b5),(8,.p b8),(9,.p b9),(13,.p b13),(14,.p q.2.2.2.1),(15,.p q.2.2.2.2),(16,.bool o.isSome)]) (λq=>tF bu bb L s X U be q.1++[baC q.2.1,row b5 (s.cells (.slice X.Ad s.d.length X.cd) (.slice X.Ar s.r.length X.cr)) 53,row b8 (St.zero.cells (.slice none 0 0) (.slice none 0 0)) 53,row b9 (RS.cells RS.zero) 248,row b13 (cD (s.pc,(p:Int))) 206,row q.2.2.2.1 (BA.cells q.2.1) 242,row q.2.2.2.2 (RS.cells q.2.2.1) 248]) (λq=>oW q.1/\q.1.eng=G/\∀t r,o=some (t,r)->q.2.1.b=t/\q.2.2.1.r=r) ?_ ?_
 .refine gP (Zdn [6,13,14]) [(0,0),(1,1),(2,0),(3,0),(4,0),(5,0),(6,3),(7,3),(8,3),(9,3),(10,3),(11,3),(12,3),(13,3),(14,3),(15,3)] Zk Zk (m5 ?_);refine uY rfl (bW (vs:=cD (s.pc,(p:Int))) Zrf Zrf Zv0) (cX Zh rfl) rfl (m5 ?_);refine m5 ?_;refine dH rfl (jm (Zv rfl) (Zv rfl) Wq1 hrm) rfl (dH rfl (mg (sz:=1) (lo:=p%64) (hi:=64) (r:=p%64) rfl Zrf (Zv rfl) (.inr ⟨_,_,rfl,(Zv rfl)⟩) (.inl ⟨rfl,rfl⟩) Wq1 Wq1 Wq1 Wq1) rfl (LY [(6,[(7,0),(8,0),(9,0),(10,0),(11,3),(12,3),(13,3),(14,3),(15,3)]),(11,[(6,3),(7,3),(8,3),(9,3),(10,3),(12,3),(13,3),(14,3),(15,3)]),(12,[(6,3),(7,3),(8,3),(9,3),(10,3),(11,3),(13,3),(14,3),(15,3)])] Zk (.cons ?_ (.cons ?_ (.cons ?_ .nil)))))
  .refine Wq79 ?_;rintro _ _ ⟨_,⟨E2,hE2,hEe,y,x,rfl,rfl,hyx⟩,rfl⟩;refine QB ?_;refine LY [(11,[(12,2),(13,2),(14,2),(15,0)]),(12,[(11,2),(13,2),(14,2),(15,0)])] Zk (.cons ?_ (.cons ?_ .nil))
   .refine Jl ?_;rintro _ _ ⟨b14,rfl,rfl⟩;refine ym ?_;rintro _ _ ⟨b15,rfl,rfl⟩;refine EI ?_;rintro _ _ ⟨rfl,rfl⟩;refine fT ?_;refine EG ?_;rintro _ _ ⟨rfl,rfl⟩;refine Jm ?_;refine qMP ((E2,y,x,b14,b15)) ⟨hE2,hEe,hyx⟩
   refine Jl ?_;rintro _ _ ⟨b15,rfl,rfl⟩;refine ym ?_;rintro _ _ ⟨b14,rfl,rfl⟩;refine EI ?_;rintro _ _ ⟨rfl,rfl⟩;refine fT ?_;refine EG ?_;rintro _ _ ⟨rfl,rfl⟩;refine Jm ?_;refine qMP ((E2,y,x,b14,b15)) ⟨hE2,hEe,hyx⟩
  .refine Jl ?_;rintro _ _ ⟨b14,rfl,rfl⟩;refine LY [(6,[(7,0),(8,0),(9,0),(10,0),(12,2),(13,2),(14,2),(15,0)]),(12,[(6,2),(7,0),(8,0),(9,0),(10,0),(13,2),(14,2),(15,0)])] Zk (.cons ?_ (.cons ?_ .nil))
   .refine Wq79 ?_;rintro _ _ ⟨_,⟨E2,hE2,hEe,y,x,rfl,rfl,hyx⟩,rfl⟩;refine QB ?_;refine ym ?_;rintro _ _ ⟨b15,rfl,rfl⟩;refine EI ?_;rintro _ _ ⟨rfl,rfl⟩;refine fT ?_;refine EG ?_;rintro _ _ ⟨rfl,rfl⟩;refine Jm ?_;refine qMP ((E2,y,x,b14,b15)) ⟨hE2,hEe,hyx⟩
   refine Jl ?_;rintro _ _ ⟨b15,rfl,rfl⟩;refine fT ?_;refine Wq79 ?_;rintro _ _ ⟨_,⟨E2,hE2,hEe,y,x,rfl,rfl,hyx⟩,rfl⟩;refine QB ?_;refine EI ?_;rintro _ _ ⟨rfl,rfl⟩;refine fT ?_;refine EG ?_;rintro _ _ ⟨rfl,rfl⟩;refine Jm ?_;refine qMP ((E2,y,x,b14,b15)) ⟨hE2,hEe,hyx⟩
  refine Jl ?_;rintro _ _ ⟨b15,rfl,rfl⟩;refine LY [(6,[(7,0),(8,0),(9,0),(10,0),(11,2),(13,2),(14,2),(15,0)]),(11,[(6,2),(7,0),(8,0),(9,0),(10,0),(13,2),(14,2),(15,0)])] Zk (.cons ?_ (.cons ?_ .nil))
  .refine Wq79 ?_;rintro _ _ ⟨_,⟨E2,hE2,hEe,y,x,rfl,rfl,hyx⟩,rfl⟩;refine QB ?_;refine ym ?_;rintro _ _ ⟨b14,rfl,rfl⟩;refine EI ?_;rintro _ _ ⟨rfl,rfl⟩;refine fT ?_;refine EG ?_;rintro _ _ ⟨rfl,rfl⟩;refine Jm ?_;refine qMP ((E2,y,x,b14,b15)) ⟨hE2,hEe,hyx⟩
  refine Jl ?_;rintro _ _ ⟨b14,rfl,rfl⟩;refine fT ?_;refine Wq79 ?_;rintro _ _ ⟨_,⟨E2,hE2,hEe,y,x,rfl,rfl,hyx⟩,rfl⟩;refine QB ?_;refine EI ?_;rintro _ _ ⟨rfl,rfl⟩;refine fT ?_;refine EG ?_;rintro _ _ ⟨rfl,rfl⟩;refine Jm ?_;refine qMP ((E2,y,x,b14,b15)) ⟨hE2,hEe,hyx⟩
 rintro⟨E2,⟨yb,A1,c1⟩,⟨xr,A2,c2⟩,b14,b15⟩ ⟨hE2,hEe,hyx⟩;dsimp only at hE2 hEe hyx|-;refine Zw7 ?_ ?_<;>intro hc4
 .obtain rfl:o=none:=kS;have hTn:=hT1 G rfl;refine Zs (bU (Zdr [2,3] (mU b15 (RS.cells ⟨xr,A2,c2⟩))) Zk ?_);refine Wq280 ?_;exact Wq341
 obtain⟨⟨⟨tk,C,tc⟩,r⟩,rfl⟩:∃q,o=some q:=(by cases o with|none=>cases hc4|some q=>grind);obtain⟨rfl,rfl⟩:=hyx _ _ rfl;obtain⟨pg,il,g1,g2,g3,g4,g5,g6,g7⟩:=HGo.2.2.2.2 _ _ rfl;obtain⟨-, -, -, -,hgo⟩:=Dv g6 g1;obtain⟨hgd,hCl⟩:=hgo g2;dsimp only at g3;rw[<-g3]at hgd hCl;have HRn:=λA c w h h3=>erun_ok A c C hgd hCl s hwf hs X.Ad X.Ar X.cd X.cr w h h3
 have hTb:=λs1 how=>hT2 G ⟨tk,C,tc⟩ xr s1 how rfl
 have hTy:=λs1 how=>hT3 G ⟨tk,C,tc⟩ xr s1 how rfl
 obtain⟨⟨s1,how⟩,hrc⟩:=Zgn (iu C s);dsimp only at hTb hTy;rw[hrc]at HRn;dsimp only at HRn;refine Z_7 ?_;refine ZSn (λw hi=>HRn A1 c1 w (hi.rd (Zhc (baC ⟨⟨tk,C,tc⟩,A1,c1⟩))) (hi.XJ (Zhc (slD s X.Ad X.cd)) (Zhc (slR s X.Ar X.cr)) Wq1 Wq1)) ?_;rintro _ _ ⟨X1,rfl,rfl⟩;refine Z_3 ?_;refine ZN λb17=>?_
 refine sF ?_;refine ZW ?_ ?_<;>intro hc7
 .have hTn:=hTb s1 how hrc hc7;refine Zs (bU (Zdr [2,3] (mU b15 (RS.cells ⟨xr,A2,c2⟩))) Zk ?_);refine Wq280 ?_;exact Wq341
 have hTn:=hTy s1 how hrc hc7;refine Z_5 ?_;refine ZSe (λw hi=>zU bu L.bm bb w (hi.get (Zhc (LG bu L.bm bb)))) ?_;refine ZcM ([fw L U.m]) (λw hi hin=>Hr L U.m w hin) ?_;refine Z_2 ?_;refine cL (λY:CaX=>[(0,.p be),(8,.p b8),(9,.p b9),(13,.p b13),(14,.p b14),(15,.p b15),(17,.p b17)]) (λY=>row b8 (St.zero.cells (.slice none 0 0) (.slice none 0 0)) 53::row b9 (RS.cells RS.zero) 248::row b13 (cD (s.pc,(p:Int))) 206::row b14 (BA.cells ⟨⟨tk,C,tc⟩,A1,c1⟩) 242::row b15 (RS.cells ⟨xr,A2,c2⟩) 248::row b17 (s1.cells (.slice X1.Ad s1.d.length X1.cd) (.slice X1.Ar s1.r.length X1.cr)) 53::tF bu bb L s1 X1 ⟨U.m.calm,U.t⟩ be (E2.WP Y)) (λY=>rp E2.room Y/\Y.Z=E2.X.Z) ?_ ?_
 .refine Zw8 ?_ ?_<;>intro hc10
  .refine bU (Zdn [9]) Zk (uj ?_);refine Ca ?_;refine ZFe 6 2 ?_;refine Zy5 7 rfl (bW (vs:=cD E2.last) Zrf Zrf Zv0) (cX Zh rfl) ?_;refine Zy5 8 rfl (bW (vs:=cD (s.pc,(p:Int))) Zrf Zrf Zv0) (cX Zh rfl) ?_;refine kR ?_;refine tD (caF E2.bc E2.room E2.X) (λw hi hin=>TQ E2.bc E2.room E2.X hE2.ca E2.last (s.pc,(p:Int)) hE2.last w hin) ?_;rintro _ _ ⟨X2,rfl,hX2,hXZ⟩;refine dR ?_;refine qMP (X2) bY
  refine Zc (qMP (E2.X) ⟨hE2.ca,rfl⟩)
 rintro Y ⟨hY,hYZ⟩;refine Z_4 ?_;refine dQ (bW (vs:=cD (s.pc,(p:Int))) Zrf Zrf Zv0) (cX Zh rfl) rfl (Z_2 ?_);refine eT (gx (ys:=[.p E2.bc,.map (some E2.mr),.w s.pc,.w (p:Int),.i E2.WF,.i E2.WD,.bool E2.begun]) (n:=2) (vs:=cD (s.pc,(p:Int))) rfl Zrf rfl rfl (wo _) Za rfl (Nat.le_of_ble_eq_true rfl)) ?_;rintro _ _ ⟨rfl,rfl⟩;refine kZ ?_;refine Z_3 ?_;refine bU (Zdn [9]) Zk (pP ?_);refine ZFe 2 4 ?_;refine ZG 3 ?_;refine ZFe 4 3 ?_;refine ZG 5 ?_;refine Zy4 6 rfl (eK Zv0 Zv0 Zl) ?_;refine ZE 7 ?_;refine ZFe 8 4 ?_;refine kR ?_;refine ZQ ?_;refine jU ?_;refine bU (Zdr [4,5] (mU b14 (BA.cells ⟨⟨tk,C,tc⟩,A1,c1⟩)++mU b15 (RS.cells ⟨xr,A2,c2⟩))) Zk (ZI 0 ?_);refine nl 1 rfl Zk Zk Zk (bW (vs:=RS.cells ⟨xr,A2,c2⟩) Zrf Zrf Zv0) (λx hx=>List.mem_append_right _ (dT x hx)) (eh (bL (t:=242) Zh) (bL (t:=248) Zh)) rfl (ZFe 2 3 ?_);refine eu 3 rfl Zk Zk Zk (bM Zrf (Zv rfl)) Wq37 (eh (bL (t:=242) Zh) (bL (t:=248) Zh)) rfl (cW 4 Zk (fy rfl rfl (cZ Zrf rfl rfl (mQ rfl) Za o6) Wq480 ?_));rintro _ _ ⟨rfl,rfl⟩;refine kQ ?_;refine fy rfl rfl (cZ Zrf rfl rfl (nE ⟨xr,A2,c2⟩) Za o6) Wq480 ?_;rintro _ _ ⟨rfl,rfl⟩;refine ZE 6 ?_;refine jU ?_;refine bO (row b8 (s1.cells (.slice X1.Ad s1.d.length X1.cd) (.slice X1.Ar s1.r.length X1.cr)) 53::row b9 (RS.cells ⟨xr,A2,c2⟩) 248::tF bu bb L s1 X1 ⟨U.m.calm,U.t⟩ be (E2.toldE Y (s.pc,(p:Int)) tc)) Zj (yN (cs':=tF bu bb L s1 X1 ⟨U.m.calm,U.t⟩ be (E2.toldE Y (s.pc,(p:Int)) tc)) (.inl rfl) (List.Sublist.cons _ (List.Sublist.cons _ (bh _))) rfl rfl rfl rfl Zh Zh Zrf Zrf Zrf Zrf ?_);rw[hTn];exact⟨_,hE2.told hY hYZ hky tc,by rw[Q8 hYZ,hEe],X1,⟨xr,A2,c2⟩,rfl,rfl,rfl⟩
variable{n Wt k p:Nat}{U:Mmu}{d:Dev}
theorem Kb(h:eV n U.m p=none):jr n Wt (k+1) s p U d E=((s.next.Wv 1 0,U,d),{E with WD:=IntKind.i64.wrap (E.WD+1)}):=by
 unfold jr;rw[h]
theorem Ka{U1:Mmu}{d1:Dev}{op nn:Int}{z:Nat}{q:Res}(h:eV n U.m p=some ((op,nn),z))(hq:wO n s op nn U d=(q,U1,d1)):
  jr n Wt (k+1) s p U d E=bif lQ op q Wt s.pc then jr n Wt k q.s ((p+z)%4294967296) U1 d1 (np {E with WD:=IntKind.i64.wrap (E.WD+1)} q.Wa)else((q.s,U1,d1),np {E with WD:=IntKind.i64.wrap (E.WD+1)} q.Wa):=by
 rw[jr,h];simp only[hq]
abbrev EnX.Xo(E:EnX)(c:Int):EnX:=⟨E.bc,E.mr,E.room,E.X,E.RZ,E.last,E.WF,IntKind.i64.wrap (E.WD+c),E.begun⟩
theorem oW.slowed{E:EnX}(h:oW E)(c:Int):oW (E.Xo c):=⟨h.ca,h.eg.same rfl rfl rfl,h.rs,h.last⟩
abbrev egF(be bu bb:Nat)(L:eB)(D:rx)(s:St)(X:ko)(Y:ov)(U:Mmu)(d:Dev)(E:EnX):List bJ:=guF bu bb L D s X Y U d++enF be E
theorem IS(be bu bb:Nat)(L:eB)(D:rx)(Y:ov)(s:St)(X:ko)(p:Nat)(hp:p<=4294967295)(Wz:Nat)(hmost:Wz<=1000)(U:Mmu)(d:Dev)(hG:GOk L.n s U d)(ho:d.out.length+Wz<=1000000000)(E:EnX)(hE:oW E):CI prog 151 [.p be,sv s X.Ad X.cd X.Ar X.cr,.w (p:Int),.i (Wz:Int),.p bu,.p D.bs] (egF be bu bb L D s X Y U d E) (λv cs=>∃X' Y' E',oW E'/\E'.eng=(jr L.n (p/64) Wz s p U d E.eng).2/\v=sv (jr L.n (p/64) Wz s p U d E.eng).1.1 X'.Ad X'.cd X'.Ar X'.cr/\cs=egF be bu bb L D (jr L.n (p/64) Wz s p U d E.eng).1.1 X' Y' (jr L.n (p/64) Wz s p U d E.eng).1.2.1 (jr L.n (p/64) Wz s p U d E.eng).1.2.2 E'):=λw hi=>by
 obtain⟨pg,hpg⟩:=Zgn (p/64);have hpq:IntKind.u32.wrap ((p:Int).tdiv 64)=(pg:Int):=by rw[Int.tdiv_eq_ediv_of_nonneg Wq1,u32_wrap_id _ Wq1 Wq1];omega
 have hpgl:pg<=4294967295:=by omega
 rw[hpg];clear hpg;obtain⟨⟨⟨s9,U9,d9⟩,G9⟩,hR⟩:=Zgn (jr L.n pg Wz s p U d E.eng);rw[hR];obtain⟨o0,hoo⟩:=Zgn (d.out.length);rw[hoo]at ho;refine Zfn func151 ntmps151 hi ?_;refine Z_2 ?_;refine ZO λb7=>?_;refine ZN λb12=>?_
 refine Z_5 ?_;refine Zy (mh (Zv rfl) (Zv rfl) Wq1 hpq) ?_;refine lD ?_;refine Z_6 ?_;refine eY (row b7 (s.cells (.slice X.Ad s.d.length X.cd) (.slice X.Ar s.r.length X.cr)) 53::row b12 (St.zero.cells (.slice none 0 0) (.slice none 0 0)) 53::egF be bu bb L D s X Y U d E) Zj (Z_5 ?_);refine wLo (λq:Nat×St×ko×Nat×ov×Mmu×Dev×EnX=>[(0,.p be),(2,.w (q.2.2.2.1:Int)),(4,.p bu),(5,.p D.bs),(7,.p b7),(12,.p b12),(13,.i (pg:Int)),(22,.i (Wz:Int)),(23,.i (q.1:Int))]) (λq=>row b7 (q.2.1.cells (.slice q.2.2.1.Ad q.2.1.d.length q.2.2.1.cd) (.slice q.2.2.1.Ar q.2.1.r.length q.2.2.1.cr)) 53::row b12 (St.zero.cells (.slice none 0 0) (.slice none 0 0)) 53::egF be bu bb L D q.2.1 q.2.2.1 q.2.2.2.2.1 q.2.2.2.2.2.1 q.2.2.2.2.2.2.1 q.2.2.2.2.2.2.2) (λq=>q.1<=Wz/\q.2.2.2.1<=4294967295/\GOk L.n q.2.1 q.2.2.2.2.2.1 q.2.2.2.2.2.2.1/\q.2.2.2.2.2.2.1.out.length<=o0+q.1/\oW q.2.2.2.2.2.2.2/\jr L.n pg (Wz - q.1) q.2.1 q.2.2.2.1 q.2.2.2.2.2.1 q.2.2.2.2.2.2.1 q.2.2.2.2.2.2.2.eng=((s9,U9,d9),G9)) (λq=>Wz - q.1) (⟨0,s,X,p,Y,U,d,E⟩) ⟨ap _,hp,hG,by show d.out.length<=o0+0;omega,hE,hR⟩ ?_;rintro⟨j,s,X,p,Y,U,d,E⟩ ⟨hj,hp,hG,ho1,hE,hRj⟩;dsimp only at hj hp hG ho1 hE hRj|-;refine Zw6 ?_ ?_<;>intro hc3
 .simp only[ac]at hc3;obtain⟨k,hk⟩:∃k,Wz - j=k+1:=⟨Wz - j - 1,by omega⟩;rw[hk]at hRj;have HF:=IK bu bb L U.m p hp;have hrn:=λ(op nn:Int) (z:Nat) h=>mJ (n:=L.n) (M:=U.m) (p:=p) (op:=op) (nn:=nn) (z:=z) hG.u.m h
  have hN:=Kb (n:=L.n) (Wt:=pg) (k:=k) (s:=s) (p:=p) (U:=U) (d:=d) (E:=E.eng);have hS:=λ(op nn:Int) (z:Nat) (q:Res) (U1:Mmu) (d1:Dev) h hq=>Ka (n:=L.n) (Wt:=pg) (k:=k) (s:=s) (p:=p) (U:=U) (d:=d) (E:=E.eng) (op:=op) (nn:=nn) (z:=z) (q:=q) (U1:=U1) (d1:=d1) h hq
  obtain⟨o,hfo⟩:=Zgn (eV L.n U.m p);rw[hfo]at HF hN hS;rw[hfo]at hrn;obtain⟨hd16,hr16, -⟩:=St.fits hG.right;have hE1:=hE.slowed 1;refine fH ?_;refine pR ?_;refine kZ ?_;refine Z_6 ?_;refine ZSe (λw hi=>HF w (hi.get (Zhc (LG bu L.bm bb))) (hi.get (Zhc (fw L U.m)))) ?_;refine Z_4 ?_;refine ZN λb14=>?_
  refine ZM ?_;refine xL ?_ ?_<;>intro hc6
  .obtain rfl:o=none:=(by cases o with|none=>rfl|some o=>cases hc6);rw[hN rfl,bA,bA,bA]at hRj;obtain⟨⟨rfl,rfl,rfl⟩,hG9⟩:=hRj;refine Wq285 ?_;rintro _ _ ⟨_,⟨A3,c3,A4,c4,rfl,rfl⟩,rfl⟩;refine ZM ?_;refine Z_9 ?_;exact bO (row b12 ((s.next.Wv 1 0).cells (.slice A3 s.d.length c3) (.slice A4 s.r.length c4)) 53::egF be bu bb L D (s.next.Wv 1 0) ⟨A3,c3,A4,c4⟩ Y U d (E.Xo 1)) Zj (m8 (cs':=(egF be bu bb L D (s.next.Wv 1 0) ⟨A3,c3,A4,c4⟩ Y U d (E.Xo 1))) (.inl rfl) Zu rfl rfl Zh Zrf Zrf ⟨⟨A3,c3,A4,c4⟩,Y,E.Xo 1,hE1,hG9,rfl,rfl⟩)
  obtain⟨⟨⟨op,nn⟩,z⟩,rfl⟩:∃q,o=some q:=(by cases o with|none=>cases hc6|some o=>exact⟨o,rfl⟩);obtain⟨hnn,hz1,hz5, -⟩:=hrn op nn z rfl;have HD:=do_ok bu bb L D Y s X.Ad X.Ar X.cd X.cr op nn U d hG.wf hnn hG.u.t hG.dv.wf Wq1;have hg:=wN (op:=op) (nn:=nn) hG.wf hG.right hnn hG.u hG.dv;have hl:=uO (n:=L.n) (op:=op) (nn:=nn) (s:=s) (U:=U) hG.lines;obtain⟨⟨q,U1,d1⟩,hq⟩:=Zgn (wO L.n s op nn U d);rw[hS op nn z q U1 d1 rfl hq]at hRj;rw[hq]at HD hg hl;obtain⟨g1,g2,g3,g4,g5,g6⟩:=hg;dsimp only at g1 g2 g3 g4 g5 g6 hl;have HX:=λX1 Ap cp w h=>NH op nn q X1 Ap cp pg s.pc g1.pc hG.wf.pc w h
  obtain⟨nx,hnx⟩:=Zgn (lQ op q pg s.pc);rw[hnx]at HX hRj;refine Wq452 ?_;rintro _ _ ⟨_,⟨X1,Y1,Ap,cp,rfl,rfl⟩,rfl⟩;refine ZN λb17=>?_
  refine rf ?_;refine dy (enP be (E.Xo 1) Ap cp q.Wa) (λw hi hin=>zr be (E.Xo 1) hE1 Ap cp q.Wa w hin) ?_;rintro _ _ ⟨E2,rfl,hE2,hEe⟩;rw[show np {E.eng with WD:=IntKind.i64.wrap (E.eng.WD+1)} q.Wa=E2.eng from hEe.symm]at hRj;refine Wq469 ?_;refine ZW ?_ ?_<;>intro hc14
  .obtain rfl:nx=false:=(by cases nx with|false=>rfl|true=>cases hc14);rw[ah,bA,bA,bA]at hRj;obtain⟨⟨rfl,rfl,rfl⟩,hG9⟩:=hRj;refine Z_9 ?_;refine iC ?_;exact bO (row b12 (q.s.cells (.slice X1.Ad q.s.d.length X1.cd) (.slice X1.Ar q.s.r.length X1.cr)) 53::egF be bu bb L D q.s X1 Y1 U1 d1 E2) Zj (m8 (cs':=(egF be bu bb L D q.s X1 Y1 U1 d1 E2)) (.inl rfl) Zu rfl rfl Zh Zrf Zrf ⟨X1,Y1,E2,hE2,hG9,rfl,rfl⟩)
  obtain rfl:nx=true:=(by cases nx with|true=>rfl|false=>cases hc14);rw[ai]at hRj;refine jS ?_;refine qMP ((⟨j+1,q.s,X1,(p+z)%4294967296,Y1,U1,d1,E2⟩:Nat×St×ko×Nat×ov×Mmu×Dev×EnX)) ⟨⟨show j+1<=Wz by omega,by show(p+z)%4294967296<=4294967295;omega,⟨g1,g2,g4,g5,hl⟩,by show d1.out.length<=o0+(j+1);omega,hE2,by show jr L.n pg (Wz - (j+1)) q.s _ U1 d1 E2.eng=_;rw[show Wz - (j+1)=k by omega];exact hRj⟩,show Wz - (j+1)<Wz - j by omega⟩
 simp only[aa]at hc3;rw[show Wz - j=0 by omega]at hRj;simp only[jr,bA]at hRj;obtain⟨⟨rfl,rfl,rfl⟩,hG9⟩:=hRj;refine Z_8 ?_;refine iC ?_;exact bO (row b12 (s.cells (.slice X.Ad s.d.length X.cd) (.slice X.Ar s.r.length X.cr)) 53::egF be bu bb L D s X Y U d E) Zj Wq484
section
variable {n:Nat} {s s1 o:St} {U U1:Mmu} {d d1:Dev} {E G:Eng} {r:Rn} {c:Int}
theorem doE_no{pl:Int}(h:dO n s U d=⟨s1,pl,false,U1,d1⟩):doE n s U d E=((s1,U1,d1),{E with WD:=IntKind.i64.wrap (E.WD+IntKind.i64.wrap (IntKind.u64.wrap (s1.count - s.count)))}):=by
 unfold doE;rw[h]
 rfl
variable{pl:Nat}
theorem TG(h:dO n s U d=⟨s1,(pl:Int),true,U1,d1⟩)(ht:jq E s1 (pl:Int) (iF U1.m pl)=(none,G)):doE n s U d E=jr n (pl/64) 8 s1 pl U1 d1 G:=by
 unfold doE;rw[h];simp only[ai,aN];rw[ht]
theorem doE_out(h:dO n s U d=⟨s1,(pl:Int),true,U1,d1⟩)(ht:jq E s1 (pl:Int) (iF U1.m pl)=(some (o,r,c),G))(hc:((r.ends&&decide (0<c))||o.pc/64 !=s1.pc/64)=true):doE n s U d E=((o,⟨U1.m.calm,U1.t⟩,d1),G):=by
 unfold doE;rw[h];simp only[ai,aN];rw[ht];dsimp only;rw[hc,ai]
theorem doE_on{m:Nat}(h:dO n s U d=⟨s1,(pl:Int),true,U1,d1⟩)(ht:jq E s1 (pl:Int) (iF U1.m pl)=(some (o,r,c),G))(hm:c=(m:Int))(hc:((r.ends&&decide (0<c))||o.pc/64 !=s1.pc/64)=false):doE n s U d E=jr n ((pl+r.bytes.length)%4294967296/64) (8 - m) o ((pl+r.bytes.length)%4294967296) ⟨U1.m.calm,U1.t⟩ d1 G:=by
 unfold doE;rw[h];simp only[ai,aN];rw[ht];dsimp only;rw[hc,ah,show(8 - c).toNat=8 - m by omega]
theorem JP(h:GOk n s U d)(hE:gC E)(ht:jq E s (p:Int) (iF U.m p)=(some (o,r,c),G)):GOk n o ⟨U.m.calm,U.t⟩ d/\∃m:Nat,c=(m:Int)/\1<=m/\m<=8:=by
 have hbb:=vT h.u.m p;obtain⟨f1,f2,f3,f4,f5⟩:=qT hE (k:=(s.pc,(p:Int))) hbb;unfold jq at ht;obtain⟨⟨q,E1⟩,hf⟩:=Zgn (lz E (s.pc,(p:Int)) (iF U.m p));rw[hf]at f5 ht;dsimp only at f5;cases q with
 |none=>cases ht
 |some tr=>
  obtain⟨t,r⟩:=tr;dsimp only at ht;cases hdone:(iu t.code s).2==1 with
  |false=>rw[hdone]at ht;cases ht
  |true=>
   rw[hdone,ai]at ht;simp only[bA,bo]at ht;obtain⟨⟨h1,h2,h3⟩, -⟩:=ht;obtain⟨p',il,g1,g2,g3,g4,g5,g6,g7⟩:=f5 t r rfl;obtain⟨M,hM,hout⟩:=Hi hdone;rw[g3]at hM;obtain⟨k1,k2,k3,k4,k5,k6, -, -, -⟩:=GY h.u h.dv h.wf h.right g6 g1 g2 hM;rw[hout]at h1;subst h1;exact⟨⟨k2,k3,⟨h.u.m.calm,h.u.t⟩,h.dv,h.lines⟩,il.length,by rw[<-h3,g4],k5,k6⟩
end
abbrev eoF(be bu bb:Nat)(L:eB)(D:rx)(Y:ov)(U:Mmu)(d:Dev)(E:EnX):List bJ:=ubF bu bb L D Y U d++enF be E
theorem edo_ok(be bu bb:Nat)(L:eB)(D:rx)(Y:ov)(s:St)(Ad Ar:Oa)(cd cr:Nat)(U:Mmu)(d:Dev)(hG:GOk L.n s U d)(ho:d.out.length+8<=1000000000)(E:EnX)(hE:oW E)(w:World)(hi:Inv w (bK (eoF be bu bb L D Y U d E)) (eoF be bu bb L D Y U d E) w)
  (h:∀w',dc (bK (eoF be bu bb L D Y U d E)) w w'->rj w' s Ad Ar cd cr) (ht:∀w',dc (bK (eoF be bu bb L D Y U d E)) w w'->fc w'):
  Ctr prog 125 [.p be,sv s Ad cd Ar cr,.p bu,.p D.bs] w (eoF be bu bb L D Y U d E)
   (λv cs=>∃X' Y' E',oW E'/\E'.eng=(doE L.n s U d E.eng).2/\v=sv (doE L.n s U d E.eng).1.1 X'.Ad X'.cd X'.Ar X'.cr/\cs=egF be bu bb L D (doE L.n s U d E.eng).1.1 X' Y' (doE L.n s U d E.eng).1.2.1 (doE L.n s U d E.eng).1.2.2 E'):=by
 have hq:∀x:Int,u32 x->IntKind.u32.wrap (x.tdiv 64)=x/64:=λx hx=>by obtain⟨h1,h2⟩:=hx;rw[Int.tdiv_eq_ediv_of_nonneg h1,u32_wrap_id _ Wq1 Wq1]
 have HB:=Jf bu bb L D Y s hG.wf Ad Ar cd cr U hG.u.t d (rD hG.lines _);have hb:=oT hG;have hbp:=xg hG;have hN:=λs1 U1 d1 pl h=>doE_no (n:=L.n) (s:=s) (s1:=s1) (U:=U) (U1:=U1) (d:=d) (d1:=d1) (pl:=pl) (E:=E.eng) h
 have hY1:=λs1 U1 d1 (pl:Nat) G h ht=>TG (n:=L.n) (s:=s) (s1:=s1) (U:=U) (U1:=U1) (d:=d) (d1:=d1) (pl:=pl) (E:=E.eng) (G:=G) h ht
 have hY2:=λs1 U1 d1 (pl:Nat) o r c G h ht hc=>doE_out (n:=L.n) (s:=s) (s1:=s1) (o:=o) (U:=U) (U1:=U1) (d:=d) (d1:=d1) (pl:=pl) (E:=E.eng) (G:=G) (r:=r) (c:=c) h ht hc
 have hY3:=λs1 U1 d1 (pl:Nat) o r c G (m:Nat) h ht hm hc=>doE_on (n:=L.n) (s:=s) (s1:=s1) (o:=o) (U:=U) (U1:=U1) (d:=d) (d1:=d1) (pl:=pl) (E:=E.eng) (G:=G) (r:=r) (c:=c) (m:=m) h ht hm hc
 obtain⟨⟨s1,pl,rn,U1,d1⟩,hbe⟩:=Zgn (dO L.n s U d);rw[hbe]at HB hb hbp hN hY1 hY2 hY3;obtain⟨hg1,hpl,hout, -, -, -⟩:=hb;dsimp only at hg1 hpl hout hbp;obtain⟨pl,rfl⟩:∃m:Nat,pl=m:=ao hpl.1;have hpl2:=hpl.2;obtain⟨⟨⟨s9,U9,d9⟩,G9⟩,hR⟩:=Zgn (doE L.n s U d E.eng);rw[hR]at hN hY1 hY2 hY3|-;refine Zfn func125 ntmps125 hi ?_;refine Z_2 ?_;refine ZO λb5=>?_;refine ZN λb8=>?_
 refine Z_7 ?_;refine dy (ubF bu bb L D Y U d) (λw hi hin=>HB w hin (λw' hk=>h w' (hi.Xv (λc hc=>by simp only[eoF,enF,ubF,uF,mO,az,aJ,aY]at hc|-;grind) hk)) (λw' hk=>ht w' (hi.Xv (λc hc=>by simp only[eoF,enF,ubF,uF,mO,az,aJ,aY]at hc|-;grind) hk))) ?_;rintro _ _ ⟨X1,rfl,rfl⟩;refine ZN λb9=>?_
 refine sF ?_;refine ZW ?_ ?_<;>intro hc2
 .obtain rfl:rn=false:=(by cases rn with|false=>rfl|true=>cases hc2);have e:=hN s1 U1 d1 pl rfl;rw[bA,bA,bA]at e;obtain⟨⟨rfl,rfl,rfl⟩,hG9⟩:=e;refine Zs (bU (Zdn [14]) Zk ?_);refine pP ?_;refine ZFe 2 5 ?_;refine ZG 3 ?_;refine ZFe 4 0 ?_;refine ZFe 5 14 ?_;refine ZG 6 ?_;refine ZFe 7 14 ?_;refine ZG 8 ?_;refine Zy4 9 rfl (i5 Zv0 Zv0 rfl) ?_;refine Zy4 10 rfl (cU rfl rfl Zv0 rfl) ?_;refine Zy4 11 rfl (eK Zv0 Zv0 rfl) ?_;refine ZE 12 ?_;refine ZFe 13 5 ?_;refine cW 14 Zk (o9 ?_);refine Z_4 ?_;refine Wq462 ?_;exact bO (row b8 (s9.cells (.slice X1.Ad s9.d.length X1.cd) (.slice X1.Ar s9.r.length X1.cr)) 53::egF be bu bb L D s9 X1 Y U9 d9 (E.Xo (IntKind.i64.wrap (IntKind.u64.wrap (s9.count - s.count))))) Zj (m8 (cs':=(egF be bu bb L D s9 X1 Y U9 d9 (E.Xo (IntKind.i64.wrap (IntKind.u64.wrap (s9.count - s.count)))))) (.inl rfl) Zu rfl rfl Zh Zrf Zrf ⟨X1,Y,_,hE.slowed _,hG9.symm,rfl,rfl⟩)
 obtain rfl:rn=true:=(by cases rn with|true=>rfl|false=>cases hc2);have hpn:pl/64<L.n:=(by have:=(hbp rfl).2;omega);have HT:=λX w hi=>Pm be bu bb L E hE s1 X pl Wq1 hpn U1 hg1.wf hg1.right hg1.u.m w hi
 have hTg:=λo r c G h=>JP (o:=o) (r:=r) (c:=c) (G:=G) (p:=pl) hg1 hE.eg h
 have hY1:=hY1 s1 U1 d1 pl;have hY2:=hY2 s1 U1 d1 pl;have hY3:=hY3 s1 U1 d1 pl;obtain⟨⟨o,G⟩,hTe⟩:=Zgn (jq E.eng s1 (pl:Int) (iF U1.m pl));rw[hTe]at HT hY1 hY2 hY3 hTg;refine Z_3 ?_;rcases o with _|⟨o,r,k⟩
 .have hZ:=hY1 G rfl rfl;refine Z_3 ?_;refine Wq255 ?_;refine Z_3 ?_;refine dy (tF bu bb L s1 X1 U1 be E) (λw hi hin=>HT X1 w hin) ?_;rintro _ _ ⟨E2,hE2,hEe,X2,x,rfl,rfl⟩;refine Z_4 ?_;refine ZN λb10=>?_
  refine ZN λb11=>?_
  refine ZM ?_;refine eT (cZ Zrf rfl rfl (nE x) Za o6) ?_;rintro _ _ ⟨rfl,rfl⟩;refine oU ?_;refine Zyn rfl rfl (mh (cA rfl) (Zv rfl) Wq1 (hq _ hg1.wf.pc)) ?_;refine Z_3 ?_;refine Zyn rfl rfl (mh (cA rfl) (Zv rfl) Wq1 (hq _ hg1.wf.pc)) ?_;refine Z_4 ?_;refine ZW ?_ ?_<;>intro hc6
  ·(have h9:((x.r.ends&&decide ((0:Int)<0))||(s1.pc/64 !=s1.pc/64))=true:=hc6;simp at h9)
  refine Wq442 ?_;refine uY rfl (bW (vs:=s1.cells (.slice X2.Ad s1.d.length X2.cd) (.slice X2.Ar s1.r.length X2.cr)) Zrf Zrf Zv0) (cX Zh rfl) rfl (Wq421 ?_);refine dH rfl (i5 (Zv rfl) (Zv rfl) (show _=((8:Nat):Int)from rfl)) rfl (m5 ?_);refine m5 ?_;refine fT ?_;refine jG rfl rfl (dh rfl (λ_ _=>rfl) (λw hi=>IQ x 0 w)) ZJ rfl ?_;rintro _ _ ⟨_,⟨rfl,rfl⟩,rfl⟩;rw[aw];refine dH rfl (cU rfl rfl Zv0 rfl) rfl (dH rfl (eK (Zv rfl) (Zv rfl) (show _=(pl:Int)from by show IntKind.u32.wrap ((pl:Int)+0)=_;rw[aG];omega)) rfl (fT ?_));have HRs:=λw hi=>IS be bu bb L D Y s1 X2 pl Wq1 8 bX U1 d1 hg1 (by rw[hout];exact ho) E2 hE2 w hi
  rw[hEe,<-hZ]at HRs;refine ZcSn (egF be bu bb L D s1 X2 Y U1 d1 E2) (λw hi hin=>HRs w hin) ?_;rintro _ _ ⟨X3,Y3,E3,hE3,hEe3,rfl,rfl⟩;refine Uh ?_;exact Wq177
 obtain⟨hg2,m,rfl,hm1,hm8⟩:=hTg o r k G rfl;refine Z_3 ?_;refine Wq255 ?_;refine Z_3 ?_;refine dy (tF bu bb L s1 X1 U1 be E) (λw hi hin=>HT X1 w hin) ?_;rintro _ _ ⟨E2,hE2,hEe,X2,x,rfl,rfl,rfl⟩;refine Z_4 ?_;refine ZN λb10=>?_
 refine ZN λb11=>?_
 refine ZM ?_;refine eT (cZ Zrf rfl rfl (nE x) Za o6) ?_;rintro _ _ ⟨rfl,rfl⟩;refine oU ?_;refine Zyn rfl rfl (mh (cA rfl) (Zv rfl) Wq1 (hq _ hg2.wf.pc)) ?_;refine Z_3 ?_;refine Zyn rfl rfl (mh (cA rfl) (Zv rfl) Wq1 (hq _ hg1.wf.pc)) ?_;refine Z_4 ?_;refine ZW ?_ ?_<;>intro hc6
 .have hZ:=hY2 o x.r (m:Int) G rfl rfl hc6;simp only[bA]at hZ;obtain⟨⟨rfl,rfl,rfl⟩,hG9⟩:=hZ;refine Z_3 ?_;refine jC ?_;exact bO (row b8 (s9.cells (.slice X2.Ad s9.d.length X2.cd) (.slice X2.Ar s9.r.length X2.cr)) 53::egF be bu bb L D s9 X2 Y ⟨U1.m.calm,U1.t⟩ d9 E2) Zj (m8 (cs':=(egF be bu bb L D s9 X2 Y ⟨U1.m.calm,U1.t⟩ d9 E2)) (.inl rfl) Zu rfl rfl Zh Zrf Zrf ⟨X2,Y,E2,hE2,hEe.trans hG9.symm,rfl,rfl⟩)
 have hZ:=hY3 o x.r (m:Int) G m rfl rfl rfl hc6;refine Wq442 ?_;refine uY rfl (bW (vs:=o.cells (.slice X2.Ad o.d.length X2.cd) (.slice X2.Ar o.r.length X2.cr)) Zrf Zrf Zv0) (cX Zh rfl) rfl (Wq421 ?_);refine dH rfl (i5 (Zv rfl) (Zv rfl) (show _=((8 - m:Nat):Int)from by rw[bD _ ⟨by omega,by omega⟩];omega)) rfl (m5 ?_);refine m5 ?_;refine fT ?_;refine jG rfl rfl (dh rfl (λ_ _=>rfl) (λw hi=>IQ x (m:Int) w)) ZJ rfl ?_;rintro _ _ ⟨_,⟨rfl,rfl⟩,rfl⟩;rw[show((m:Int)==0)=false from aV.2 Wq1,ah,aw];refine dH rfl (cU rfl rfl Zv0 rfl) rfl (dH rfl (eK (Zv rfl) (Zv rfl) (show _=(((pl+x.r.bytes.length)%4294967296:Nat):Int)from by show IntKind.u32.wrap ((pl:Int)+IntKind.u32.wrap (x.r.bytes.length:Int))=_;simp only[aG];omega)) rfl (fT ?_));have HRs:=λw hi=>IS be bu bb L D Y o X2 ((pl+x.r.bytes.length)%4294967296) Wq1 (8 - m) Wq1 ⟨U1.m.calm,U1.t⟩ d1 hg2 (by rw[hout];omega) E2 hE2 w hi
 rw[hEe,<-hZ]at HRs;refine ZcSn (egF be bu bb L D o X2 Y ⟨U1.m.calm,U1.t⟩ d1 E2) (λw hi hin=>HRs w hin) ?_;rintro _ _ ⟨X3,Y3,E3,hE3,hEe3,rfl,rfl⟩;refine Uh ?_;exact Wq177
theorem Tu(be bu bb:Nat)(L:eB)(hn:L.n<=1000000)(D:rx)(Y:ov)(s:St)(Ad Ar:Oa)(cd cr:Nat)(U:Mmu)(d:Dev)(hG:GOk L.n s U d)(m:Int)(hm0: -9223372036854775808<=m)(hm:m<=1000000)(ho:d.out.length+8*m.toNat+8<=1000000000)(E:EnX)(hE:oW E)(w:World)(hi:Inv w (bK (eoF be bu bb L D Y U d E)) (eoF be bu bb L D Y U d E) w)
  (h:∀w',dc (bK (eoF be bu bb L D Y U d E)) w w'->rj w' s Ad Ar cd cr) (ht:∀w',dc (bK (eoF be bu bb L D Y U d E)) w w'->fc w'):
  Ctr prog 97 [.p be,sv s Ad cd Ar cr,.p bu,.p D.bs,.i m] w (eoF be bu bb L D Y U d E)
   (λv cs=>∃X' Y' E',oW E'/\E'.eng=(Rz L.n m s U d E.eng).2/\v=sv (Rz L.n m s U d E.eng).1.1 X'.Ad X'.cd X'.Ar X'.cr/\cs=egF be bu bb L D (Rz L.n m s U d E.eng).1.1 X' Y' (Rz L.n m s U d E.eng).1.2.1 (Rz L.n m s U d E.eng).1.2.2 E'):=by
 have HR2:=oF s;rw[hG.right]at HR2;obtain⟨hd16,hr16, -⟩:=St.fits hG.right;obtain⟨⟨⟨s9,U9,d9⟩,G9⟩,hR⟩:=Zgn (Rz L.n m s U d E.eng);rw[hR];have hR0:lO L.n m s.count (m.toNat - 0) ((s,U,d),E.eng)=((s9,U9,d9),G9):=hR;have hk0:LC L.n m s.count d.out.length 0 (s,U,d):=⟨hG,aL _,0,by show IntKind.u64.wrap (s.count - s.count)=0;rw[Int.sub_self];rfl,aL _,aL _,by cases hd:decide (0<m)with|false=>(show(0:Int)<0+8;omega)|true=>(simp only[ac]at hd;show(0:Int)<m+8;omega)⟩;obtain⟨from_,hfr⟩:=Zgn (s.count);obtain⟨o0,hoo⟩:=Zgn (d.out.length);rw[hfr]at hR0 hk0;rw[hoo]at ho hk0;refine Zfn func97 ntmps97 hi ?_;refine Z_2 ?_;refine ZO λb6=>?_;refine ZN λb10=>?_
 refine Qu ?_;rintro _ _ ⟨_,⟨A1,c1,A2,c2,rfl,rfl⟩,rfl⟩;refine Ur ?_;refine gq ?_;refine kv ?_;refine Z_4 ?_;refine eY (row b6 (s.cells (.slice A1 s.d.length c1) (.slice A2 s.r.length c2)) 53::row b10 (St.zero.cells (.slice none 0 0) (.slice none 0 0)) 53::egF be bu bb L D s ⟨A1,c1,A2,c2⟩ Y U d E) Zj (Z_7 ?_);refine wLo (λq:Nat×St×ko×ov×Mmu×Dev×EnX=>[(0,.p be),(2,.p bu),(3,.p D.bs),(4,.i m),(6,.p b6),(10,.p b10),(11,.int .u64 from_)]) (λq=>row b6 (q.2.1.cells (.slice q.2.2.1.Ad q.2.1.d.length q.2.2.1.cd) (.slice q.2.2.1.Ar q.2.1.r.length q.2.2.1.cr)) 53::row b10 (St.zero.cells (.slice none 0 0) (.slice none 0 0)) 53::egF be bu bb L D q.2.1 q.2.2.1 q.2.2.2.1 q.2.2.2.2.1 q.2.2.2.2.2.1 q.2.2.2.2.2.2) (λq=>LC L.n m from_ o0 q.1 (q.2.1,q.2.2.2.2.1,q.2.2.2.2.2.1)/\q.1<=m.toNat/\oW q.2.2.2.2.2.2/\lO L.n m from_ (m.toNat - q.1) ((q.2.1,q.2.2.2.2.1,q.2.2.2.2.2.1),q.2.2.2.2.2.2.eng)=((s9,U9,d9),G9)) (λq=>m.toNat - q.1) (⟨0,s,⟨A1,c1,A2,c2⟩,Y,U,d,E⟩) ⟨hk0,ap _,hE,hR0⟩ ?_;rintro⟨i,s,X,Y,U,d,E⟩ ⟨hk,him,hE,hRi⟩;dsimp only at hk him hE hRi|-;have hrc:gy m from_ s=((decide (0<m)&& !s.halted)&&decide (IntKind.u64.wrap (s.count - from_)<m)):=rfl;refine Wq202 ?_;refine ZW ?_ ?_<;>intro hc5
 .have hc:gy m from_ s=true:=(by rw[hrc];revert hc5;cases decide (0<m)with|false=>(intro h;cases h)|true=>exact λh=>h);obtain⟨hk2,hilt⟩:=Hh hm Wq1 hk hc;obtain⟨k,hkk⟩:∃k,m.toNat - i=k+1:=⟨m.toNat - i - 1,by omega⟩;rw[hkk,CR (q:=((s,U,d),E.eng)) hc]at hRi;obtain⟨hd16,hr16, -⟩:=St.fits hk.g.right;have hok:=hk.out;dsimp only at hok hd16 hr16;have HB:=edo_ok be bu bb L D Y s X.Ad X.Ar X.cd X.cr U d hk.g Wq1 E hE;obtain⟨hd1, -, -⟩:=VS hn hk.g hE.eg;obtain⟨⟨⟨s2,U2,d2⟩,G2⟩,hq⟩:=Zgn (doE L.n s U d E.eng);dsimp only at hRi hk2 hd1;rw[hq]at HB hRi hd1;dsimp only at hd1;rw[<-hd1]at hk2;refine Z_8 ?_;refine dy (eoF be bu bb L D Y U d E) (λw hi hin=>HB w hin (λw' hk=>hi.Xp Zi (Zhc (slD s X.Ad X.cd)) (Zhc (slR s X.Ar X.cr)) Wq1 Wq1 hk) (λw' hk=>ht w' (hi.Xv (λc hc=>by simp only[egF,eoF,enF,guF,ubF,uF,mO,az,aJ,aY]at hc|-;grind) hk))) ?_;rintro _ _ ⟨X2,Y2,E2,hE2,hEe,rfl,rfl⟩;refine ZM ?_;refine Z_2 ?_;refine qMP ((⟨i+1,s2,X2,Y2,U2,d2,E2⟩:Nat×St×ko×ov×Mmu×Dev×EnX)) ⟨⟨hk2,show i+1<=m.toNat by omega,hE2,by show lO L.n m from_ (m.toNat - (i+1)) ((s2,U2,d2),E2.eng)=_;rw[show m.toNat - (i+1)=k by omega,hEe];exact hRi⟩,show m.toNat - (i+1)<m.toNat - i by omega⟩
 have hc:gy m from_ s=false:=(by rw[hrc];revert hc5;cases decide (0<m)with|false=>exact λ_=>rfl|true=>exact λh=>h);rw[vL (q:=((s,U,d),E.eng)) hc,bA,bA,bA]at hRi;obtain⟨⟨rfl,rfl,rfl⟩,hG9⟩:=hRi;refine Z_8 ?_;refine iC ?_;exact bO (row b10 (s.cells (.slice X.Ad s.d.length X.cd) (.slice X.Ar s.r.length X.cr)) 53::egF be bu bb L D s X Y U d E) Zj Wq484
theorem new_wf:St.new.wf:=⟨u0,u0,u0,u0,u0,u0,u0,⟨Int.le_refl _,show(0:Int)<=18446744073709551615 by decide⟩,λx hx=>jT,λx hx=>by cases hx⟩
abbrev imgV(A:Oa)(c:Nat)(l:Li)(B:Oa)(e:Nat)(k:Li)(n:Nat):Value:= .agg #[.slice A l.length c,.slice B k.length e,.i (n:Int)]
section
variable {C:Cx} {fr:Fr} {d:Option Nat} {T:TypeId} {x y:Operand} {ty:TypeId} {pos:String} {af:Array Edge} {gd:Option (Nat×Bool)} {g:Bool}
end
theorem CP{n:Nat}{m f:Int}:∀(k:Nat) {q:St×Mmu×Dev},GOk n q.1 q.2.1 q.2.2->(m7 n m f k q).2.2.out.length<=q.2.2.out.length+8*k
 |0,q,h=>by show q.2.2.out.length<=_;omega
 |k+1,q,h=>by
  cases hc:gy m f q.1 with
  |false=>rw[rO hc];omega
  |true=>
   rw[Az hc];have h1:=CP (m:=m) (f:=f) k (Es h);have h2:(dL n q.1 q.2.1 q.2.2).2.2.out.length<=q.2.2.out.length+8:=by
    rcases sw h with h3|⟨-, -, -,h3⟩
    .exact h3.out
    rw[h3];omega
   omega
theorem M6(m:Int){s:St}{U:Mmu}{d:Dev}(h:GOk n s U d):(g9 n m s U d).2.2.out.length<=d.out.length+8*m.toNat:=CP m.toNat (q:=(s,U,d)) h
theorem Pq(room:Int)(hr:1<=room/\room<=1024)(w:World):Ctr prog 82 [.i room] w [] (λv cs=>∃be E,(oW E/\E.eng=Eng.fresh room)/\v= .tuple #[.p be,.i 0]/\cs=enF be E):=by
 refine(enew_ok room w).mono ?_;rintro v cs h;rw[if_pos hr]at h;obtain⟨be,bc,mr,ml,rfl,rfl⟩:=h;exact⟨be,⟨bc,mr,room,⟨ml,none,0,0,[],[]⟩,[],(0,0),0,0,false⟩,⟨⟨rp.none hr _ _ _ _,gC.fresh hr,(λy hy=>nomatch hy),(show ly (0,0)from⟨⟨by decide,by decide⟩,by decide,by decide⟩)⟩,rfl⟩,rfl,rfl⟩
structure TrapSt(s:St):Prop where
 wf:s.wf
 pg:s.Wn=false
 ha:s.halted=false
 d:s.d=[]
 r:s.r=[]
 fl:s.right=true
 pc:64<=s.pc/\s.pc<=1063
 ve:64<=s.vec/\s.vec<=1063
structure Cf where
 kd:Int
 n:Int
 v:Int
 at_:Int
 B:Option Addr
 cb:Nat
 bs:List Int
def Cf.cells(a:Cf):List Value:=[.i a.kd,.i a.n,.w a.v,.w a.at_,.slice a.B a.bs.length a.cb]
theorem Cf.V8(a:Cf):a.cells.length=5:=rfl
structure Cf.ok(W:World)(a:Cf):Prop where
 v:u32 a.v
 at_:u32 a.at_
 rd:Rd W .u8 a.B a.bs.length a.cb a.bs
 bs:u8s a.bs
theorem nm{a:Li}(h:u8s a)(h2:u8s b):u8s (a++b):=λx hx=>(az.1 hx).elim (h x) (h2 x)
set_option maxRecDepth 100000 in
theorem H0{W:World}{es:List Value}(h:Arg prog W 148 es):∃a:Cf,es=a.cells/\a.ok W:=by
 obtain⟨hl,hf⟩:=h.struct rfl;have hl:es.length=5:=hl
 match es,hl with
 |[c0,c1,c2,c3,c4],_=>
  have k0:Arg prog W _ [c0]:=hf 0 _ rfl;have k1:Arg prog W _ [c1]:=hf 1 _ rfl;have k2:Arg prog W _ [c2]:=hf 2 _ rfl;have k3:Arg prog W _ [c3]:=hf 3 _ rfl;have k4:Arg prog W _ [c4]:=hf 4 _ rfl;obtain⟨n0,rfl,m0⟩:=QN rfl k0;obtain⟨n1,rfl,m1⟩:=QN rfl k1;obtain⟨n2,rfl,m2⟩:=QN rfl k2;obtain⟨n3,rfl,m3⟩:=QN rfl k3;obtain⟨A2,d2,x2,e2,r2,b2,z2⟩:=k4.ints (e:=5) (k:= .u8) rfl rfl rfl;obtain rfl:c4=_:=by simpa using e2
  exact⟨⟨n0,n1,n2,n3,A2,d2,x2⟩,rfl,⟨Vo m2,Vo m3,r2,λx hx=>L5 (z2 x hx)⟩⟩
theorem pJ(A:Oa)(c:Nat)(l:List (Int×Int))(hl:l.length<=3)(w:World)(h:RdV w 2 A l.length c (l.flatMap gI)):Ctr prog 72 [.slice A l.length c] w [] (λv cs=>∃A' c' E,(u8s E/\E.length<=15)/\v= .slice A' E.length c'/\cs=[sl .u8 5 A' E.length c' E]):=
 (PW A c l Wq1 w h).mono (λv cs ⟨A',c',h1,h2⟩=>⟨A',c',qX l,⟨wV _ _,aK (oS _ _) Wq1⟩,h1,h2⟩)
theorem NC(A:Oa)(c:Nat)(l:List Cf)(w:World)(h:RdV w 5 A l.length c (l.flatMap Cf.cells))(hl:∀a,a∈l->a.ok w):
  Ctr prog 52 [.slice A l.length c,.i 60] w [] (λv cs=>∃A' c' E,(u8s E/\E.length<=900)/\v= .slice A' E.length c'/\cs=[sl .u8 5 A' E.length c' E]):=by
 have hlm:l.length<=maxLen:=aK h.cap h.max;simp only[maxLen]at hlm;refine Zfs func52 ntmps52 ?_;refine ng ?_;refine cY 5 1 (Z_4 ?_);refine wLo (λq:Nat×Option Addr×Nat×List Int=>[(0,.slice A l.length c),(1,.i 60),(5,.slice q.2.1 q.2.2.2.length q.2.2.1),(6,.i (q.1:Int))]) (λq=>[sl .u8 5 q.2.1 q.2.2.2.length q.2.2.1 q.2.2.2]) (λq=>q.1<=60/\u8s q.2.2.2/\q.2.2.2.length<=15*q.1) (λq=>60 - q.1) (⟨0,none,0,[]⟩) ⟨ap _,λx hx=>jT,aL _⟩ ?_;rintro⟨i,A1,c1,o⟩ ⟨hi60,ho1,ho2⟩;dsimp only at hi60 ho1 ho2|-;refine Cc ?_ ?_<;>intro hc3
 .have hil:i<l.length/\i<60:=(by revert hc3;cases h1:decide ((i:Int)<(l.length:Int))<;>cases h2:decide ((i:Int)<60)<;>simp_all<;>omega);obtain⟨ad,rfl⟩:=h.some_ Wq1;have hla:l[i]? =some (l[i]'hil.1):=ae hil.1;have hok:=hl _ (List.getElem_mem hil.1);obtain⟨r,hr⟩:=Zgn (l[i]'hil.1);rw[hr]at hla hok;obtain⟨kd,n,v,at_,B,cb,bs⟩:=r;obtain⟨hv,hat,hrd,hbs⟩:=hok;dsimp only at hv hat hrd hbs;obtain⟨v,rfl⟩:∃m:Nat,v=m:=ao hv.1;obtain⟨a,rfl⟩:∃m:Nat,at_=m:=ao hat.1;have hv2:=hv.2;have ha2:=hat.2;obtain⟨km,hkm⟩:=Zgn (dF kd 0 1000);have HW:=λw=>hkm▸eU kd 0 1000 w bX bX bX
  have hb9:=iv hrd 9;have hE2:(bs.take 9).length<=9:=ri;have hE1:u8s (bs.take 9):=(λx hx=>hbs x (aB hx));have HCut:=λw=>tA B cb bs 9 w hrd.cap
  obtain⟨E,hb9e⟩:=Zgn (bs.take 9);rw[hb9e]at hb9 hE2 hE1 HCut;have HI1:=Iq n a hat;have HI2:=Iq n v hv;obtain⟨sop,hs⟩:∃y,([49,51,53]:Li)[v%3]? =some y:=⟨_,ae (show v%3<3 by omega)⟩;obtain⟨lop,hlo⟩:∃y,([48,50,52]:Li)[v%3]? =some y:=⟨_,ae (show v%3<3 by omega)⟩;refine Z_8 ?_;refine EE ?_;refine dQ (bW (vs:=[.i kd,.i n,.w (v:Int),.w (a:Int),.slice B bs.length cb]) Zrf Zrf Zv0) (cE h (λj v hj=>bZ Cf.V8 (i:=j) hla hj)) rfl ?_;refine ZN λb7=>?_
  refine rf ?_;refine ZN λb8=>?_
  refine jj ?_;refine Zy (jm (Zv rfl) (Zv rfl) Wq1 (show _=((a%300:Nat):Int)from by rw[aW Wq1];omega)) ?_;refine ZA ?_;refine ZN λb9=>?_
  refine jj ?_;refine ZSe (λw hi=>HW w) ?_;refine Zy (jm (Zv rfl) (Zv rfl) Wq1 (by first|exact IntWalk.rem_in _ _ Wq1|exact rfl)) ?_;refine Zw9 ?_ ?_<;>intro hc10
  .refine gP (Zdn [12]) [(0,0),(1,4),(2,4),(4,0),(5,4),(6,0),(3,2),(7,0),(8,4),(9,0),(10,2),(11,2),(12,2),(13,0)] Zk Zk (m5 ?_);refine Qi ?_;refine Qi ?_;refine Wq243 ?_;rintro _ _ ⟨b50,rfl,rfl⟩;refine dH rfl (cw (j:=(v%3)) (sz:=1) (r:=(v%3)) rfl Zrf (Zv rfl) (Zv rfl) Wq2 Wq2 Wq1) rfl (kw rfl (bM Zrf Zv0) (dG Zh (cK (l:=[49,51,53]) hs)) rfl (Qn ?_));refine GL ?_;rintro _ _ ⟨b57,rfl,rfl⟩;refine fT ?_;refine jG rfl rfl (dh rfl (λ_ _=>rfl) (λw hi=>pJ (sA b57) 3 [(2,(v:Int)),(2,((a%300:Nat):Int)),(sop,0)] cP w (hi.rd (Zhc (slv 128 2 (sA b57) 3 3 ([(2,(v:Int)),(2,((a%300:Nat):Int)),(sop,0)].flatMap gI)))))) ZJ rfl ?_;rintro _ _ ⟨_,⟨A2,c2,E,⟨hE1,hE2⟩,rfl,rfl⟩,rfl⟩;refine Wq194 ?_;rintro _ _ ⟨A3,c3,rfl,rfl⟩;refine yo ?_;refine Jm ?_;refine lI ?_;refine qMP ((⟨i+1,A3,c3,o++E⟩:Nat×Option Addr×Nat×List Int)) ⟨⟨show i+1<=60 by omega,nm ho1 hE1,show(o++E).length<=15*(i+1) by rw[aj];omega⟩,show 60 - (i+1)<60 - i by omega⟩
  refine Zw6 ?_ ?_<;>intro hc12
  .refine gP (Zdn [11]) [(0,0),(1,4),(3,0),(4,4),(5,0),(2,2),(6,0),(7,4),(8,0),(9,2),(10,2),(11,2),(12,0)] Zk Zk (m5 ?_);refine Qi ?_;refine Wq243 ?_;rintro _ _ ⟨b64,rfl,rfl⟩;refine dH rfl (cw (j:=(v%3)) (sz:=1) (r:=(v%3)) rfl Zrf (Zv rfl) (Zv rfl) Wq2 Wq2 Wq1) rfl (kw rfl (bM Zrf Zv0) (dG Zh (cK (l:=[48,50,52]) hlo)) rfl (Qn ?_));refine GL ?_;rintro _ _ ⟨b71,rfl,rfl⟩;refine fT ?_;refine jG rfl rfl (dh rfl (λ_ _=>rfl) (λw hi=>pJ (sA b71) 2 [(2,((a%300:Nat):Int)),(lop,0)] cP w (hi.rd (Zhc (slv 128 2 (sA b71) 2 2 ([(2,((a%300:Nat):Int)),(lop,0)].flatMap gI)))))) ZJ rfl ?_;rintro _ _ ⟨_,⟨A2,c2,E,⟨hE1,hE2⟩,rfl,rfl⟩,rfl⟩;refine Wq194 ?_;rintro _ _ ⟨A3,c3,rfl,rfl⟩;refine yo ?_;refine Jm ?_;refine lI ?_;refine qMP ((⟨i+1,A3,c3,o++E⟩:Nat×Option Addr×Nat×List Int)) ⟨⟨show i+1<=60 by omega,nm ho1 hE1,show(o++E).length<=15*(i+1) by rw[aj];omega⟩,show 60 - (i+1)<60 - i by omega⟩
  refine Zw6 ?_ ?_<;>intro hc14
  .refine Z_4 ?_;refine Zy (jm (Zv rfl) (Zv rfl) Wq1 (show _=((a%13:Nat):Int)from by rw[aW Wq1];omega)) ?_;refine Zy (jF (Zv rfl) (Zv rfl) (show _=((a%13*4:Nat):Int)from by rw[u32_wrap_id _ Wq1 Wq1];omega)) ?_;refine Zy (eK (Zv rfl) (Zv rfl) (show _=((32768+a%13*4:Nat):Int)from by rw[u32_wrap_id _ Wq1 Wq1];omega)) ?_;refine iJ ?_;refine Z_6 ?_;refine Zy (jm (Zv rfl) (Zv rfl) Wq1 (show _=((v%3:Nat):Int)from by rw[aW Wq1];omega)) ?_;refine Zw3 ?_ ?_<;>intro hc16
   .refine Z_4 ?_;refine pZ ?_;rintro _ _ ⟨b89,rfl,rfl⟩;refine ZSn (λw hi=>pJ (sA b89) 2 [(2,((32768+a%13*4:Nat):Int)),(48,0)] cP w (hi.rd (Zhc (slv 128 2 (sA b89) 2 2 ([(2,((32768+a%13*4:Nat):Int)),(48,0)].flatMap gI))))) ?_;rintro _ _ ⟨A2,c2,E,⟨hE1,hE2⟩,rfl,rfl⟩;refine U8 ?_;rintro _ _ ⟨A3,c3,rfl,rfl⟩;refine yo ?_;refine Z_7 ?_;refine Wq6 ?_;refine qMP ((⟨i+1,A3,c3,o++E⟩:Nat×Option Addr×Nat×List Int)) ⟨⟨show i+1<=60 by omega,nm ho1 hE1,show(o++E).length<=15*(i+1) by rw[aj];omega⟩,show 60 - (i+1)<60 - i by omega⟩
   refine Z_4 ?_;refine UY ?_;refine Z_3 ?_;refine pZ ?_;rintro _ _ ⟨b99,rfl,rfl⟩;refine ZSn (λw hi=>pJ (sA b99) 3 [(1,((v%256:Nat):Int)),(2,((32768+a%13*4:Nat):Int)),(49,0)] cP w (hi.rd (Zhc (slv 128 2 (sA b99) 3 3 ([(1,((v%256:Nat):Int)),(2,((32768+a%13*4:Nat):Int)),(49,0)].flatMap gI))))) ?_;rintro _ _ ⟨A2,c2,E,⟨hE1,hE2⟩,rfl,rfl⟩;refine U8 ?_;rintro _ _ ⟨A3,c3,rfl,rfl⟩;refine yo ?_;refine Z_7 ?_;refine Wq6 ?_;refine qMP ((⟨i+1,A3,c3,o++E⟩:Nat×Option Addr×Nat×List Int)) ⟨⟨show i+1<=60 by omega,nm ho1 hE1,show(o++E).length<=15*(i+1) by rw[aj];omega⟩,show 60 - (i+1)<60 - i by omega⟩
  refine Zw6 ?_ ?_<;>intro hc19
  .refine Z_4 ?_;refine UY ?_;refine Z_3 ?_;refine Zy (jm (Zv rfl) (Zv rfl) Wq1 (show _=((a%12:Nat):Int)from by rw[aW Wq1];omega)) ?_;refine ZA ?_;refine pZ ?_;rintro _ _ ⟨b113,rfl,rfl⟩;refine ZSn (λw hi=>pJ (sA b113) 2 [(1,((v%256:Nat):Int)),(67,((a%12:Nat):Int))] cP w (hi.rd (Zhc (slv 128 2 (sA b113) 2 2 ([(1,((v%256:Nat):Int)),(67,((a%12:Nat):Int))].flatMap gI))))) ?_;rintro _ _ ⟨A2,c2,E,⟨hE1,hE2⟩,rfl,rfl⟩;refine U8 ?_;rintro _ _ ⟨A3,c3,rfl,rfl⟩;refine yo ?_;refine Z_7 ?_;refine Wq6 ?_;refine qMP ((⟨i+1,A3,c3,o++E⟩:Nat×Option Addr×Nat×List Int)) ⟨⟨show i+1<=60 by omega,nm ho1 hE1,show(o++E).length<=15*(i+1) by rw[aj];omega⟩,show 60 - (i+1)<60 - i by omega⟩
  refine Zw6 ?_ ?_<;>intro hc21
  .refine Z_4 ?_;refine ZSe (λw hi=>HCut w) ?_;refine fo (bV (e:=5) (sz:=1) (bytes:=1) rfl rfl Za rfl rfl (λw hi=>hb9.Wh hi) cN Wq9 Wq1) rfl ?_;rintro _ _ ⟨A3,c3,rfl,rfl⟩;refine yo ?_;refine Z_7 ?_;refine Wq6 ?_;refine qMP ((⟨i+1,A3,c3,o++E⟩:Nat×Option Addr×Nat×List Int)) ⟨⟨show i+1<=60 by omega,nm ho1 hE1,show(o++E).length<=15*(i+1) by rw[aj];omega⟩,show 60 - (i+1)<60 - i by omega⟩
  refine Zw6 ?_ ?_<;>intro hc23
  .refine gP (Zdn [12]) [(0,0),(1,0),(2,4),(3,0),(4,0),(5,0),(6,4),(7,0),(8,4),(9,2),(10,2),(11,2),(12,2),(13,0)] Zk Zk (m5 ?_);refine dH rfl (eH 2 rfl Zv0 Zf) rfl (LL ?_);refine dH rfl (jm (Zv rfl) (Zv rfl) Wq1 (show _=((v%256:Nat):Int)from by rw[aW Wq1];omega)) rfl (Qn ?_);refine GB ?_;refine LL ?_;refine dH rfl (eH 3 rfl Zv0 Zf) rfl (LL ?_);refine fT ?_;refine jG rfl rfl (dh rfl (λ_ _=>rfl) (λw hi=>HI1 w)) ZJ rfl ?_;rintro _ _ ⟨_,⟨⟨op,nn,rfl,hnu, -⟩,rfl⟩,rfl⟩;refine GL ?_;rintro _ _ ⟨b135,rfl,rfl⟩;refine fT ?_;refine jG rfl rfl (dh rfl (λ_ _=>rfl) (λw hi=>pJ (sA b135) 2 [(1,((v%256:Nat):Int)),(op,nn)] cP w (hi.rd (Zhc (slv 128 2 (sA b135) 2 2 ([(1,((v%256:Nat):Int)),(op,nn)].flatMap gI)))))) ZJ rfl ?_;rintro _ _ ⟨_,⟨A2,c2,E,⟨hE1,hE2⟩,rfl,rfl⟩,rfl⟩;refine Wq194 ?_;rintro _ _ ⟨A3,c3,rfl,rfl⟩;refine yo ?_;refine Jm ?_;refine lI ?_;refine qMP ((⟨i+1,A3,c3,o++E⟩:Nat×Option Addr×Nat×List Int)) ⟨⟨show i+1<=60 by omega,nm ho1 hE1,show(o++E).length<=15*(i+1) by rw[aj];omega⟩,show 60 - (i+1)<60 - i by omega⟩
  refine Z_6 ?_;refine ZSn (λw hi=>HI2 w) ?_;rintro _ _ ⟨⟨op,nn,rfl,hnu, -⟩,rfl⟩;refine pZ ?_;rintro _ _ ⟨b42,rfl,rfl⟩;refine ZSn (λw hi=>pJ (sA b42) 1 [(op,nn)] cP w (hi.rd (Zhc (slv 128 2 (sA b42) 1 1 ([(op,nn)].flatMap gI))))) ?_;rintro _ _ ⟨A2,c2,E,⟨hE1,hE2⟩,rfl,rfl⟩;refine U8 ?_;rintro _ _ ⟨A3,c3,rfl,rfl⟩;refine yo ?_;refine Z_7 ?_;refine Wq6 ?_;refine qMP ((⟨i+1,A3,c3,o++E⟩:Nat×Option Addr×Nat×List Int)) ⟨⟨show i+1<=60 by omega,nm ho1 hE1,show(o++E).length<=15*(i+1) by rw[aj];omega⟩,show 60 - (i+1)<60 - i by omega⟩
 refine fb ?_;refine xz ?_;exact⟨A1,c1,o,⟨ho1,by omega⟩,rfl,rfl⟩
theorem Bq(A B:Oa)(c e:Nat)(l:List Cf)(Wa:Int)(k:Li)(hk:u8s k)(w:World)(h:RdV w 5 A l.length c (l.flatMap Cf.cells))(hl:∀a,a∈l->a.ok w)(hB:Rd w .u8 B k.length e k):
  Ctr prog 28 [.slice A l.length c,.i Wa,.slice B k.length e] w [] (λv cs=>∃(A':Oa) (c':Nat) (E E2:Li) (n:Nat),(u8s E/\(1<=n/\n<=16)/\(E.take (n*64)).length<=n*64)/\v=imgV A' c' (E.take (n*64)) B e (k.take 1024) n/\cs=[sl .u8 5 A' E.length c' E]):=by
 have HP:=NC A c l;obtain⟨m,hm⟩:=Zgn (dF Wa 0 15);have hmr:=fU Wa 0 15 bX;rw[hm]at hmr;have HW:=λw=>hm▸eU Wa 0 15 w bX bX bX
 obtain⟨n0,rfl⟩:∃q:Nat,m=q:=ao hmr.1;have HK:=λw=>tA B e k 1024 w hB.cap
 refine Zfs func28 ntmps28 ?_;refine Z_2 ?_;refine ZN λb6=>?_;refine Z_5 ?_;refine ZSe (λw hi=>HW w) ?_;refine Zy (eK (Zv rfl) (Zv rfl) (show _=((1+n0:Nat):Int)from by rw[bD _ ⟨by omega,by omega⟩];omega)) ?_;refine Z_6 ?_;refine ZSn (λw hi=>HP w (h.Wh hi) (λa ha=>⟨(hl a ha).v,(hl a ha).at_,(hl a ha).rd.Wh hi,(hl a ha).bs⟩)) ?_;rintro _ _ ⟨A1,c1,E,⟨hE1,hE2⟩,rfl,rfl⟩;refine ZA ?_;refine Zy (jF (Zv rfl) (Zv rfl) (show _=(((1+n0)*64:Nat):Int)from by rw[bD _ ⟨by omega,by omega⟩];omega)) ?_;refine ZSe (λw hi=>tA A1 c1 E ((1+n0)*64) w (hi.rd (Zhc (sl .u8 5 A1 E.length c1 E))).cap) ?_;refine ZA ?_;refine ZSe (λw hi=>HK w) ?_;refine Z_2 ?_;refine iC ?_;exact bO [row b6 [.slice A1 (E.take ((1+n0)*64)).length c1,.slice B (k.take 1024).length e,.i ((1+n0:Nat):Int)] 59,sl .u8 5 A1 E.length c1 E] Zj (m8 (cs':=[sl .u8 5 A1 E.length c1 E]) (.inl rfl) Zu rfl rfl Zh Zrf Zrf ⟨A1,c1,E,[],1+n0,⟨hE1,⟨by omega,by omega⟩,by rw[aD];omega⟩,rfl,rfl⟩)
end
end Go.Ink
