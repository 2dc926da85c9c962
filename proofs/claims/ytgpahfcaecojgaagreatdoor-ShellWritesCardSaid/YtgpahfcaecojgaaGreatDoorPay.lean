/- Lemmas. -/
import Derived.Test.YtgpahfcaecojgaaGreatDoorPax
set_option linter.all false
set_option maxRecDepth 100000
set_option maxHeartbeats 4000000
namespace Go.Ink
open Go.RowKit Go.Proofs.Tryz
theorem Cf.ok.Wh{w0 w:World}{cs:List bJ}{a:Cf}(h:a.ok w0)(hi:Inv w0 [] cs w):a.ok w:=⟨h.v,h.at_,h.rd.Wh hi,h.bs⟩
structure ItR.ok(W:World)(x:ItR):Prop where
 rd:Rd W .u8 x.A x.b.length x.c x.b
 bs:u8s x.b
structure BoR where
 A:Option Addr
 c:Nat
 l:List Cf
 Wa:Int
 B:Option Addr
 e:Nat
 k:List Int
abbrev BoR.cells(x:BoR):List Value:=[.slice x.A x.l.length x.c,.i x.Wa,.slice x.B x.k.length x.e]
theorem BoR.V8(x:BoR):x.cells.length=3:=rfl
structure BoR.ok(W:World)(x:BoR):Prop where
 rd:RdV W 5 x.A x.l.length x.c (x.l.flatMap Cf.cells)
 raw:∀a,a∈x.l->a.ok W
 dk:Rd W .u8 x.B x.k.length x.e x.k
 bs:u8s x.k
theorem ItR.ok.Wh{w0 w:World}{cs:List bJ}{x:ItR}(h:x.ok w0)(hi:Inv w0 [] cs w):x.ok w:=⟨h.rd.Wh hi,h.bs⟩
theorem BoR.ok.Wh{w0 w:World}{cs:List bJ}{x:BoR}(h:x.ok w0)(hi:Inv w0 [] cs w):x.ok w:=⟨h.rd.Wh hi,λa ha=>(h.raw a ha).Wh hi,h.dk.Wh hi,h.bs⟩
variable{W:World}{es:List Value}
set_option maxRecDepth 100000 in
theorem De(h:Arg prog W 41 es):∃x:ItR,es=x.cells/\x.ok W:=by
 obtain⟨hl,hf⟩:=h.struct rfl;have hl:es.length=4:=hl
 match es,hl with
 |[c0,c1,c2,c3],_=>
  have k0:Arg prog W _ [c0]:=hf 0 _ rfl;have k1:Arg prog W _ [c1]:=hf 1 _ rfl;have k2:Arg prog W _ [c2]:=hf 2 _ rfl;have k3:Arg prog W _ [c3]:=hf 3 _ rfl;obtain⟨n0,rfl,m0⟩:=QN rfl k0;obtain⟨n1,rfl,m1⟩:=QN rfl k1;obtain⟨n2,rfl,m2⟩:=QN rfl k2;obtain⟨A2,d2,x2,e2,r2,b2,z2⟩:=k3.ints (e:=5) (k:= .u8) rfl rfl rfl;obtain rfl:c3=_:=by simpa using e2
  exact⟨⟨n0,n1,n2,A2,d2,x2⟩,rfl,⟨r2,λx hx=>L5 (z2 x hx)⟩⟩
variable{v:Value}
set_option maxRecDepth 100000 in
theorem yW(h:uW prog W 24 v):∃(A:Oa) (c:Nat) (l:List ItR),v= .slice A l.length c/\RdV W 4 A l.length c (l.flatMap ItR.cells)/\∀x,x∈l->x.ok W:=by
 obtain⟨A,c,xs,h1,h2,h3,h4⟩:=uW.rows (e:=41) rfl rfl ItR.V8 ⟨0,0,0,none,0,[]⟩ (λes he=>De he) h;exact⟨A,c,xs,h1,h2,h3⟩
variable{w:World}
theorem Ctr.same{P:Program}{f:FuncId}{args:List Value}{cs:List bJ}{X:Value}(hi:Inv w (bK cs) cs w)(h:Ctr P f args w [] (λv c=>v=X/\c=[])):Ctr P f args w cs (λv c=>v=X/\c=cs):=
 Ctr.via (cin:=[]) (rest:=cs) hi (λ_=>h) λv cout w' ⟨h1,h2⟩ h3=>⟨cs,⟨h1,rfl⟩,by grind⟩
section
attribute [local irreducible] OpY bN
structure Im where
 A:Option Addr
 c:Nat
 l:List Int
 B:Option Addr
 e:Nat
 k:List Int
 n:Int
abbrev Im.cells(x:Im):List Value:=[.slice x.A x.l.length x.c,.slice x.B x.k.length x.e,.i x.n]
theorem Im.V8(x:Im):x.cells.length=3:=rfl
structure Im.rd(x:Im)(w:World):Prop where
 l:Rd w .u8 x.A x.l.length x.c x.l
 k:Rd w .u8 x.B x.k.length x.e x.k
theorem Im.rd.Wh{w0 w:World}{cs:List bJ}{x:Im}(h:x.rd w0)(hi:Inv w0 [] cs w):x.rd w:=⟨h.l.Wh hi,h.k.Wh hi⟩
def Im.ag(x:Im):Ag:=⟨x.n.toNat,St.new,⟨Mem.load x.n.toNat x.l,fI⟩,Dev.init x.k,false⟩
def Im.Xq(x:Im):Bool:=decide ((if 0>x.n then 0 else x.n)<(((x.l.length+63)/64:Nat):Int))||decide (1024<x.k.length)
def Im.why(u:Int)(x:Im):Int:=bif x.Xq then 3 else bif decide (x.n<1)||decide (64<x.n)then 1 else bif decide (240<x.n+u)then 13 else 0
def jP:Int->List Im->Int
 |_,[]=>0
 |u,x::xs=>bif x.why u==0 then jP (u+x.n) xs else x.why u
def jB(L:List Im):Int:=bif decide ((L.length:Int)<1)||decide ((4:Int)<(L.length:Int))then 1 else jP 0 L
theorem L4(u:Int)(x:Im):(x.Xq=true/\x.why u=3)\/(x.Xq=false/\(x.n<1\/64<x.n)/\x.why u=1)\/(x.Xq=false/\(1<=x.n/\x.n<=64)/\240<x.n+u/\x.why u=13)\/(x.Xq=false/\(1<=x.n/\x.n<=64)/\x.n+u<=240/\x.why u=0):=by
 unfold Im.why;cases h1:x.Xq with
 |true=>grind
 |false=>
  grind
theorem FV{x:Im}(h:x.Xq=false)(h1:1<=x.n):x.l.length<=x.n.toNat*64/\x.k.length<=1024:=by
 grind [Im.Xq]
theorem pr_le{P:pU}(h:mc P):∀x,x∈P.pr->x<=1000:=by
 have hl:=h.len.pr;have hs:=h.sum;obtain⟨a,b,c,d,e⟩:∃a b c d,P.pr=[a,b,c,d]:=by
  match hh:P.pr,hl with
  |[a,b,c,d],_=>grind
 grind [rE]
def RV:pU:=⟨List.replicate 16384 0,List.replicate 256 (-1),List.replicate 4 (-1)⟩
theorem RU:mc RV:=by
 refine⟨Nv,λf hf=> .inl ?_,λo p hp=>?_,by decide⟩
 .show(List.replicate 256 (-1:Int))[f]? =_
  grind
 show((cQ (List.replicate 256 (-1)) (o:Int) 256).length:Int)<=_
 grind [mF]
theorem mon0_ok(bp:Nat):Mon.ok 0 ⟨bp,none,0,RV,[]⟩:=
 ⟨⟨RU,ap _,λo _ h=>by show(List.replicate 4 (-1:Int))[o]? =_;grind,λi g h=>by cases h⟩,λa h=>by cases h⟩
theorem Im.WV{x:Im}(hl:u8s x.l)(hk:u8s x.k)(h:x.Xq=false)(h1:1<=x.n/\x.n<=64):x.ag.WV 0:=
 ⟨Ii hl (FV h h1.1).2 hk,init_in _,OF _,aL _,by show x.n.toNat<=64;omega⟩
theorem P5(tr:Bool)(A:Oa)(c:Nat)(L:List Im)(hL:∀x,x∈L->u8s x.l/\u8s x.k/\x.l.length<=4611686018427387904)(w:World)(h:RdV w 3 A L.length c (L.flatMap Im.cells))(hr:∀x,x∈L->x.rd w):
  Ctr prog 30 [.bool tr,.slice A L.length c] w [] (λv cs=>(jB L=0/\∃bm m,(m.ok 0/\m.l=L.map Im.ag)/\v= .tuple #[.p bm,.i 0]/\cs=eE bm m)\/(jB L≠0/\v= .tuple #[.pointer none,.i (jB L)]/\cs=[])):=by
 have HF:=Pb;have hm0:=mon0_ok;have hs0:fX RV.pr 4=0:=rfl;have hp0:(⟨List.replicate 16384 0,List.replicate 256 (-1),List.replicate 4 (-1)⟩:pU)=RV:=rfl;obtain⟨B0,hB0⟩:=Zgn (List.replicate 16384 (0:Int));obtain⟨W0,hW0⟩:=Zgn (List.replicate 256 (-1:Int));obtain⟨P0,hP0⟩:=Zgn (List.replicate 4 (-1:Int));rw[hB0,hW0,hP0]at HF hp0;rw[<-hp0]at hm0 hs0;unfold jB;refine Zfs func30 ntmps30 ?_;refine Gv ?_;refine ZW ?_ ?_<;>intro hc1
 .rw[hc1];refine Z_8 ?_;refine mf ?_;exact .inr ⟨(show(1:Int)≠0 by decide),rfl,rfl⟩
 rw[hc1,ah];rw[aS,aa,aa]at hc1;obtain⟨W,hW⟩:=Zgn (jP 0 L);rw[hW];obtain⟨ad,rfl⟩:=h.some_ Wq1;refine Z_4 ?_;refine ZSn (λw hi=>HF w) ?_;rintro _ _ ⟨bp,rfl,rfl⟩;refine ZA ?_;refine ZO λb21=>?_
 refine Z_6 ?_;refine cY 116 1 (fg (eY (eE b21 ⟨bp,none,0,⟨B0,W0,P0⟩,[]⟩) Zj (Z_6 ?_)));refine wLo (λq:Nat×Mon×Int=>[(0,.bool tr),(6,.p b21),(22,.slice (some ad) L.length c),(23,.i (L.length:Int)),(24,.i (q.1:Int))]) (λq=>eE b21 q.2.1) (λq=>q.1<=L.length/\q.2.1.ok 0/\q.2.1.l=(L.take q.1).map Im.ag/\fX q.2.1.P.pr 4=q.2.2/\jP q.2.2 (L.drop q.1)=W) (λq=>L.length - q.1) ((⟨0,⟨bp,none,0,⟨B0,W0,P0⟩,[]⟩,0⟩:Nat×Mon×Int)) ⟨ap _,hm0 bp,rfl,hs0,hW⟩ ?_;rintro⟨i,⟨bp,A1,c1,P,gs⟩,u⟩ ⟨hi0,hm,hl,hsu,hwy⟩;dsimp only at hi0 hsu hwy|-;have hgl:gs.length=i:=(by have e:=congrArg List.length hl;rw[Mon.len,ax,aD]at e;grind);refine Zw6 ?_ ?_<;>intro hc5
 .simp only[ac]at hc5;have hil:i<L.length:=Wq1;obtain⟨x,hxi⟩:∃x,L[i]? =some x:=⟨_,ae hil⟩;have hxm:=ak hxi;obtain⟨hx1,hx2,hx3⟩:=hL x hxm;have hxr:=hr x hxm;have htk:(L.take (i+1)).map Im.ag=(L.take i).map Im.ag++[x.ag]:=(by rw[bE,hxi];simp);have hdr:L.drop i=x::L.drop (i+1):=(by have e:=ar.1 hxi;obtain⟨e1,e2⟩:=e;rw[List.drop_eq_getElem_cons e1,e2]);rw[hdr]at hwy;have hwy:(bif x.why u==0 then jP (u+x.n) (L.drop (i+1))else x.why u)=W:=hwy;have hno:P.pr[gs.length]? =some (-1):=hm.g.rest gs.length (aL _) Wq1;have hPL:=hm.g.Xb.len;have hPb:=pr_le hm.g.Xb;have hq4:(⟨bp,A1,c1,P,gs⟩:Mon).gs.length<=4:=(show gs.length<=4 by omega);refine Z_7 ?_;refine EE ?_;refine dQ (bW (vs:=x.cells) Zrf Zrf Zv0) (cE h (λj v hj=>bZ Im.V8 (i:=j) hxi hj)) rfl ?_;refine ZN λb8=>?_
  refine ZA ?_;refine iC ?_;rcases L4 u x with⟨z1,z2⟩|⟨z1,z3,z2⟩|⟨z1,z3,z4,z2⟩|⟨z1,z3,z4,z2⟩
  .rw[z2]at hwy;have hwy:(3:Int)=W:=hwy;subst hwy;unfold Im.Xq at z1;rw[bn,ac,ac]at z1;refine Wq424 ?_;refine ic ?_;refine tD ([ia bp P]) (λw hi hin=>Ctr.same hin (gnoL_ok bp i x.n x.A x.B x.c x.e x.l.length x.k.length hx3 z1 tr w)) ?_;rintro _ _ ⟨rfl,rfl⟩;refine UB ?_;refine pX ?_;refine jl ?_;refine mf ?_;exact .inr ⟨(show(3:Int)≠0 by decide),rfl,rfl⟩
  .rw[z2]at hwy;have hwy:(1:Int)=W:=hwy;subst hwy;unfold Im.Xq at z1;rw[aS,aa,aa]at z1;refine Wq424 ?_;refine ic ?_;refine tD ([ia bp P]) (λw hi hin=>Ctr.same hin (gnoB_ok bp i x.n x.A x.B x.c x.e x.l.length x.k.length hx3 z1.1 z1.2 z3 tr w)) ?_;rintro _ _ ⟨rfl,rfl⟩;refine UB ?_;refine pX ?_;refine jl ?_;refine mf ?_;exact .inr ⟨(show(1:Int)≠0 by decide),rfl,rfl⟩
  .have hno2:P.pr[i]? =some (-1):=bY;have z7:240<x.n+fX P.pr 4:=Wq1;rw[z2]at hwy;have hwy:(13:Int)=W:=hwy;subst hwy;obtain⟨z5,z6⟩:=FV z1 z3.1;obtain⟨xA,xc,xl,xB,xe,xk,xn⟩:=x;dsimp only at z3 z4 z5 z6 z7;obtain⟨n,rfl⟩:∃n:Nat,xn=n:=ao Wq1;rw[aN]at z5;have hFull:=gnoF_ok bp P.B P.ow P.pr hPL i n Wq1 Wq1 Wq1 hno2 z7 hPb xA xB xc xe xl.length xk.length z5 z6 tr;refine Wq308 ?_;refine ic ?_;refine tD ([ia bp P]) (λw hi hin=>Ctr.same hin (hFull w (hin.ok _ (.head _)))) ?_;rintro _ _ ⟨rfl,rfl⟩;refine UB ?_;refine pX ?_;refine jl ?_;refine mf ?_;exact .inr ⟨(show(13:Int)≠0 by decide),rfl,rfl⟩
  rw[z2]at hwy;have hwy:jP (u+x.n) (L.drop (i+1))=W:=hwy;obtain⟨z5,z6⟩:=FV z1 z3.1;have hxf:=Im.WV hx1 hx2 z1 z3;obtain⟨xA,xc,xl,xB,xe,xk,xn⟩:=x;dsimp only at z3 z4 z5 z6 hx1 hx2;obtain⟨n,rfl⟩:∃n:Nat,xn=n:=ao Wq1;rw[aN]at z5;have hNew:=λw hi hA hB=>mon_new (w:=w) hm.g (show gs.length<4 by omega) n Wq1 Wq1 bY hPb xA xB xc xe xl xk z5 hx1 z6 hx2 tr hi hA hB
  dsimp only at hNew;rw[hgl]at hNew;refine Wq308 ?_;refine ic ?_;refine tD (iR bp P gs) (λw hi hin=>hNew w hin (λw' hk=>RdV.Wm hxr.l hi Zi hk) (λw' hk=>RdV.Wm hxr.k hi Zi hk)) ?_;rintro _ _ ⟨P',g,⟨q1,q2,q3,q4,q5,q6,q7, -⟩,rfl,rfl⟩;refine UB ?_;refine kv ?_;refine Z_9 ?_;refine jD ?_;rintro _ _ ⟨b49,rfl,rfl⟩;refine fo (bV (e:=116) (sz:=1) (bytes:=8) rfl rfl Za rfl rfl (λw hi=>hi.rd (Zhc (slv 116 1 (sA b49) 1 1 [sd g]))) (mQ rfl) Wq9 Wq1) rfl ?_;rintro _ _ ⟨A2,c2,rfl,rfl⟩;refine kZ ?_;refine jS ?_;have hga:g.abs=Im.ag ⟨xA,xc,xl,xB,xe,xk,(n:Int)⟩:=(by unfold MG.abs Im.ag;grind);have hl2:(⟨bp,A2,c2,P',gs++[g]⟩:Mon).l=(L.take (i+1)).map Im.ag:=(by rw[htk,<-hga];show(gs++[g]).map MG.abs=_;rw[List.map_append];exact congrArg (λz=>z++[g.abs]) hl);have hok2:Mon.ok 0 ⟨bp,A2,c2,P',gs++[g]⟩:=⟨q1,λa ha=>by rw[hl2,htk]at ha;rcases az.1 ha with ha|ha;exact hm.f a (hl▸ha);grind⟩;have hs2:fX P'.pr 4=u+(n:Int):=(by rw[q2,<-hgl,vn (l:=P.pr) hPL.pr (show gs.length<4 by omega) hno,hsu,if_pos bX,if_neg Wq1];omega);refine yS ((⟨i+1,⟨bp,A2,c2,P',gs++[g]⟩,u+(n:Int)⟩:Nat×Mon×Int)) ?_ ?_ ?_
  .grind
  .exact Zwk
  exact(show EL (eE b21 ⟨bp,A2,c2,P',gs++[g]⟩) _ from by unfold eE lR ptrC;dsimp only;rw[aj,List.map_append];exact Zj)
 simp only[aa]at hc5;obtain rfl:i=L.length:=Wq1;rw[List.drop_length]at hwy;have hwy:(0:Int)=W:=hwy;subst hwy;refine ng ?_;refine AH (cs':=(eE b21 ⟨bp,A1,c1,P,gs⟩)) (.inl rfl) Zu rfl rfl rfl ?_;rw[bC]at hl;exact .inl ⟨rfl,b21,⟨bp,A1,c1,P,gs⟩,⟨hm,hl⟩,rfl,rfl⟩
variable{c:Nat}{L:List Im}
theorem uP{tr:Bool}{A:Oa}(hb:jB L=0)(hL:∀x,x∈L->u8s x.l/\u8s x.k/\x.l.length<=4611686018427387904)(h:RdV w 3 A L.length c (L.flatMap Im.cells))(hr:∀x,x∈L->x.rd w):
  Ctr prog 30 [.bool tr,.slice A L.length c] w [] (λv cs=>∃bm m,(m.ok 0/\m.l=L.map Im.ag)/\v= .tuple #[.p bm,.i 0]/\cs=eE bm m):=by grind [P5]
theorem BR{tr:Bool}{A:Oa}{e:Int}(he:jB L=e)(hb:e≠0)(hL:∀x,x∈L->u8s x.l/\u8s x.k/\x.l.length<=4611686018427387904)(h:RdV w 3 A L.length c (L.flatMap Im.cells))(hr:∀x,x∈L->x.rd w):
  CW prog 30 [.bool tr,.slice A L.length c] w (.tuple #[.pointer none,.i e]):=by grind [P5]
variable{n i:Nat}
theorem vu{w0:World}{S:List Nat}{cs:List bJ}{e sz bb:Nat}{xs:List Value}(hc:Has cs (slv e sz (sA bb) n c xs))(hv:xs[i]? =some v):∀w,Inv w0 S cs w->cells [(⟨bb,i,none⟩,v)] w:=λw hi z hz=>by
 rw[aC]at hz;subst hz;have:=(hi.rd hc).at_ _ rfl i v hv
 grind [Addr.add_lit]
theorem fa_lit{b j:Nat}(h:i+n=j):(Addr.add ⟨b,0,none⟩ i).add n=⟨b,j,none⟩:=by
 grind [Addr.add_lit]
variable{α β:Type}{f:α->β}
theorem N7{l:List α}{a:β}(h:l.map f=[a]):∃x,l=[x]/\f x=a:=by
 simp_all
structure Im.WO(x:Im):Prop where
 l:u8s x.l
 k:u8s x.k
 ll:x.l.length<=2048
 lg:x.Xq=false
 n1:1<=x.n
 n16:x.n<=16
theorem Eo:∀{L:List Im} {u:Int},(∀x,x∈L->x.WO)->u+16*L.length<=240->jP u L=0
 |[],_,_,_=>rfl
 |x::L,u,h,hu=>by
  obtain⟨-, -, -,q1,q2,q3⟩:=h x (.head _);have hl:(((x::L).length:Nat):Int)=L.length+1:=by simp
  rw[hl]at hu;have e:x.why u=0:=by
   unfold Im.why;rw[q1,aF (show¬x.n<1 by omega),aF (show¬64<x.n by omega),aF (show¬240<x.n+u by omega)]
   rfl
  show(bif x.why u==0 then jP (u+x.n) L else x.why u)=0;rw[e];exact Eo (λy hy=>h y (.tail _ hy)) Wq1
theorem pK(h1:1<=L.length)(h4:L.length<=4)(h:∀x,x∈L->x.WO):jB L=0:=by
 grind [jB,Eo]
theorem oP(h:∀x,x∈L->x.WO):∀x,x∈L->u8s x.l/\u8s x.k/\x.l.length<=4611686018427387904:=λx hx=>⟨(h x hx).l,(h x hx).k,aK (h x hx).ll bX⟩
structure GN(l:List BoR)(L:List Im)(J:List bJ):Prop where
 n4:L.length<=4
 WO:∀x,x∈L->x.WO
 rd:∀w:World,(∀a,a∈l->Rd w .u8 a.B a.k.length a.e a.k)->(bP J).ok w->∀x,x∈L->x.rd w
theorem zf{A:Oa}{E:Li}(hE:u8s E)(hn:1<=n/\n<=16){B:Oa}{e:Nat}{k:Li}(hk:u8s k):Im.WO ⟨A,c,E.take (n*64),B,e,k.take 1024,(n:Int)⟩:=by
 have h1:(E.take (n*64)).length<=n*64:=by rw[aD];omega
 have h2:(k.take 1024).length<=1024:=by rw[aD];omega
 refine⟨λx hx=>hE x (aB hx),λx hx=>hk x (aB hx),by grind,?_,by grind,by grind⟩;show(decide ((if 0>(n:Int)then 0 else(n:Int))<((((E.take (n*64)).length+63)/64:Nat):Int))||decide (1024<(k.take 1024).length))=false
 grind
theorem GN.snoc{l:List BoR}{J:List bJ}(h:GN l L J)(h4:L.length<4){a:BoR}(ha:a∈l)(hak:u8s a.k){A:Oa}{c n:Nat}{E:Li}(hE:u8s E)(hn:1<=n/\n<=16):
  GN l (L++[(⟨A,c,E.take (n*64),a.B,a.e,a.k.take 1024,(n:Int)⟩:Im)]) [sl .u8 5 A E.length c E,bP J]:=by
 refine⟨by grind,λx hx=>?_,λw hr hj x hx=>?_⟩
 .rcases az.1 hx with q|q
  .exact h.WO x q
  grind [zf]
 have e:∀c',c'∈[sl .u8 5 A E.length c E,bP J]->c'.ok w:=ek hj;rcases az.1 hx with q|q
 .exact h.rd w hr (e _ (.tail _ (.head _))) x q
 exact Wq310
abbrev imF(A:Oa)(c:Nat)(L:List Im)(J:List bJ):List bJ:=[slv 59 3 A L.length c (L.flatMap Im.cells),bP J]
theorem pC(x:Im):∀u∈x.cells,u.oneCell'=true:=mQ rfl
def JR(n:Int):Int:=bif decide (60<n)||decide (n< -9)then dF n 0 40 else n
theorem ML(n:Int): -9<=JR n/\JR n<=60:=by
 unfold JR;cases hc:(decide (60<n)||decide (n< -9))with
 |true=>
  have:=fU n 0 40 bX
  grind
 |false=>
  grind
structure ItR.may(w:World)(y:ItR):Prop where
 b:u8s y.b
 l:y.b.length<=1000
 n: -9223372036854775808<=y.n
 rd:Rd w .u8 y.A y.b.length y.c y.b
theorem je(y:ItR):∀u∈y.cells,u.oneCell'=true:=mQ rfl
abbrev iU(A:Oa)(c:Nat)(ys:List ItR):bJ:=slv 41 4 A ys.length c (ys.flatMap ItR.cells)
theorem eA{ys:List ItR}{y:ItR}:ys.length+1=(ys++[y]).length/\ys.flatMap ItR.cells++y.cells=(ys++[y]).flatMap ItR.cells:=by
 exact Wq304
structure Si where
 n:Int
 l:List Int
 k:List Int
def lo(n:Int):Int:=n%256
def hi8(n:Int):Int:=n/256%256
def mK(x:Li):List Int:=lo x.length::hi8 x.length::x
def o3(x:Si):List Int:=lo x.n::(mK x.l++mK x.k)
def kX(k:Int):Bool:=k==1||k==3
def IV(x:It):List Int:=lo x.Wq::((bif kX x.kind then[lo x.n,hi8 x.n]else[])++(bif x.kind==2 then lo x.b.length::x.b else[]))
def kN(x:It):List Int:=lo x.kind::IV x
def pV(I:List Si)(T:List It):List Int:=lo I.length::(I.flatMap o3++T.flatMap kN)
def okI(x:Si):Bool:=decide (0<=x.n)&&decide (x.n<=255)&&decide (x.l.length<=65535)&&decide (x.k.length<=65535)
def okT(x:It):Bool:=decide (1<=x.kind)&&decide (x.kind<=6)&&decide (0<=x.Wq)&&decide (x.Wq<=255)&&(!kX x.kind||decide (0<=x.n)&&decide (x.n<=65535))&&(x.kind !=2||decide (x.b.length<=255))
def fC(I:List Si)(T:List It):Int:=bif decide (4<I.length)||decide (512<T.length)then 3 else bif I.all okI&&T.all okT then 0 else 1
def It.ask(x:It):It:=⟨x.kind,x.Wq,bif kX x.kind then x.n else 0,bif x.kind==2 then x.b else[]⟩
def Vx:List Int->Option (List Int×List Int)
 |a::b::r=>if(a+256*b).toNat<=r.length then some (r.take (a+256*b).toNat,r.drop (a+256*b).toNat)else none
 |_=>none
def xI:List Int->Option (Si×List Int)
 |[]=>none
 |p::r=>(Vx r).bind λq=>(Vx q.2).map λt=>(⟨p,q.1,t.1⟩,t.2)
def pW:Nat->List Int->List Si×Option (List Int)
 |0,bs=>([],some bs)
 |k+1,bs=>match xI bs with
  |none=>([],none)
  |some (x,r)=>(x::(pW k r).1,(pW k r).2)
def rq(c:Int):List Int->Option (It×List Int)
 |[]=>none
 |g::r=>if kX c then(match r with
   |a::b::r2=>some (⟨c,g,a+256*b,[]⟩,r2)
   |_=>none)
  else if c=2 then(match r with
   |a::r2=>if a.toNat<=r2.length then some (⟨c,g,0,r2.take a.toNat⟩,r2.drop a.toNat)else none
   |_=>none)
  else some (⟨c,g,0,[]⟩,r)
def tW:Nat->Nat->List Int->List It
 |f+1,k+1,c::r=>if c<1\/6<c then tW f (k+1) r else match rq c r with
  |none=>[]
  |some (x,r2)=>x::tW f k r2
 |_,_,_=>[]
def Eg:List Int->List Si×List It
 |[]=>([],[])
 |c::r=>((pW (min c.toNat 4) r).1,match(pW (min c.toNat 4) r).2 with
  |none=>[]
  |some r2=>tW r2.length 512 r2)
theorem Bl{n:Int}(h:0<=n)(h2:n<=255):lo n=n:=by unfold lo;omega
theorem lohi{n:Int}(h:0<=n)(h2:n<=65535):lo n+256*hi8 n=n:=by unfold lo hi8;omega
theorem Ni(x r:Li)(h:x.length<=65535):Vx (mK x++r)=some (x,r):=by
 have h1:lo x.length+256*hi8 x.length=(x.length:Int):=lohi Wq1 Wq1;show(if(lo x.length+256*hi8 x.length).toNat<=(x++r).length then _ else _)=_;rw[h1,aN,if_pos cP];show some ((x++r).take x.length,(x++r).drop x.length)=_;rw[List.take_left,List.drop_left]
theorem Sl(x:Si)(r:Li)(h:okI x=true):xI (o3 x++r)=some (x,r):=by
 simp only[okI,au,ac]at h;obtain⟨⟨⟨h1,h2⟩,h3⟩,h4⟩:=h;show(Vx (mK x.l++mK x.k++r)).bind _=_;rw[aq,Ni _ _ h3];show(Vx (mK x.k++r)).map _=_;rw[Ni _ _ h4,Bl h1 h2]
 rfl
theorem BL(r:Li):∀I:List Si,I.all okI=true->pW I.length (I.flatMap o3++r)=(I,some r)
 |[],_=>rfl
 |x::I,h=>by
  simp only[List.all_cons,au]at h;have h1:=Sl x (I.flatMap o3++r) h.1;have h2:=BL r I h.2;rw[bF,aq];show(match xI (o3 x++(I.flatMap o3++r))with|none=>_|some (x,r)=>_)=_;rw[h1];dsimp only;rw[h2]
theorem H1(x:It)(r:Li)(h:okT x=true):rq x.kind (IV x++r)=some (x.ask,r):=by
 simp only[okT,au,ac,bn,Bool.not_eq_true',bne_iff_ne,ne_eq]at h;obtain⟨⟨⟨⟨⟨h1,h2⟩,h3⟩,h4⟩,h5⟩,h6⟩:=h;unfold IV It.ask;show(if kX x.kind=true then _ else _)=_;cases hc:kX x.kind with
 |true=>
  have h7:(x.kind==2)=false:=by
   simp only[kX,bn,beq_iff_eq]at hc;rw[aV];omega
  have h8:=h5.resolve_left (by rw[hc];decide);rw[h7,if_pos rfl,Bl h3 h4];show some ((⟨x.kind,x.Wq,lo x.n+256*hi8 x.n,[]⟩:It),r)=_;rw[lohi h8.1 h8.2]
  rfl
 |false=>
  rw[if_neg bX,Bl h3 h4];by_cases h7:x.kind=2
  .have h8:(x.kind==2)=true:=by rw[h7];rfl
   have h9:=h6.resolve_left Wq1;rw[if_pos h7,h8];show(if(lo x.b.length).toNat<=(x.b++r).length then _ else _)=_;rw[Bl Wq1 Wq1,aN,if_pos cP];show some ((⟨x.kind,x.Wq,0,(x.b++r).take x.b.length⟩:It),(x.b++r).drop x.b.length)=_;rw[List.take_left,List.drop_left]
   rfl
  rw[if_neg h7,aV.2 h7]
  rfl
theorem I1:∀(T:List It) (f k:Nat),(T.flatMap kN).length<=f->T.all okT=true->tW f k (T.flatMap kN)=(T.map It.ask).take k
 |[],f,k,_,_=>by cases f<;>cases k<;>rfl
 |x::T,f,0,_,_=>by cases f<;>rfl
 |x::T,0,k+1,h,_=>by simp[kN]at h
 |x::T,f+1,k+1,h,h2=>by
  simp only[List.all_cons,au]at h2;have h3:=H1 x (T.flatMap kN) h2.1;have h4:=h2.1;simp only[okT,au,ac]at h4;have h5:=I1 T f k (by simp only[bF,aj,kN,aO]at h;omega) h2.2;rw[bF];show tW (f+1) (k+1) (lo x.kind::(IV x++T.flatMap kN))=_;rw[Bl Wq1 Wq1];show(if x.kind<1\/6<x.kind then _ else match rq x.kind (IV x++T.flatMap kN)with|none=>_|some (x,r2)=>_)=_;rw[if_neg Wq1,h3];dsimp only;rw[h5]
  rfl
theorem BK(I:List Si)(T:List It)(h:fC I T=0):Eg (pV I T)=(I,T.map It.ask):=by
 have h0:I.length<=4/\T.length<=512/\I.all okI=true/\T.all okT=true:=by
  unfold fC at h;cases h1:(decide (4<I.length)||decide (512<T.length))with
  |true=>rw[h1]at h;cases h
  |false=>
   rw[h1]at h;cases h2:(I.all okI&&T.all okT)with
   |false=>rw[h2]at h;cases h
   |true=>
    exact Wq479
 obtain⟨a,b,c,d⟩:=h0;have h1:min (lo I.length).toNat 4=I.length:=by rw[Bl Wq1 Wq1,aN];omega
 have h2:=BL (T.flatMap kN) I c;show((pW (min (lo I.length).toNat 4) (I.flatMap o3++T.flatMap kN)).1,match(pW (min (lo I.length).toNat 4) (I.flatMap o3++T.flatMap kN)).2 with|none=>[]|some r2=>tW r2.length 512 r2)=_;rw[h1,h2];dsimp only;rw[I1 T _ 512 (aL _) d,aM (by rw[ax];exact b)]
theorem Kp(x:It)(m:Nat)(h:okT x=true)(hm:m<(IV x).length):rq x.kind ((IV x).take m)=none:=by
 simp only[okT,au,ac,bn,Bool.not_eq_true',bne_iff_ne,ne_eq]at h;obtain⟨⟨⟨⟨⟨h1,h2⟩,h3⟩,h4⟩,h5⟩,h6⟩:=h
 match m,hm with
 |0,_=>rfl
 |m+1,hm=>
  unfold IV at hm|-;show(if kX x.kind=true then _ else _)=_;cases hc:kX x.kind with
  |true=>
   have h7:(x.kind==2)=false:=by
    simp only[kX,bn,beq_iff_eq]at hc;rw[aV];omega
   rw[hc,h7]at hm;rw[h7,if_pos rfl]
   match m,hm with
   |0,_=>rfl
   |1,_=>rfl
   |m+2,hm=>exact absurd hm (by simp only[ai,ah,aw,aO,List.length_nil];omega)
  |false=>
   rw[hc]at hm;rw[if_neg bX];by_cases h7:x.kind=2
   .have h8:(x.kind==2)=true:=by rw[h7];rfl
    have h9:=h6.resolve_left Wq1;rw[h8]at hm;rw[if_pos h7,h8]
    match m,hm with
    |0,_=>rfl
    |m+1,hm=>
     show(if(lo x.b.length).toNat<=(x.b.take m).length then _ else _)=_;have h10:m<x.b.length:=by simpa using hm
     rw[Bl Wq1 Wq1,aN,if_neg ri]
   rw[aV.2 h7]at hm;simp at hm
theorem I2:∀(T:List It) (f k j:Nat),((T.flatMap kN).take j).length<=f->T.all okT=true->∃n,n<=T.length/\tW f k ((T.flatMap kN).take j)=(T.map It.ask).take n
 |[],f,k,j,_,_=>⟨0,aL _,by rw[show([]:List It).flatMap kN=[]from rfl,List.take_nil];cases f<;>cases k<;>rfl⟩
 |x::T,f,0,j,_,_=>⟨0,ap _,by cases f<;>rfl⟩
 |x::T,f,k+1,0,_,_=>⟨0,ap _,by cases f<;>rfl⟩
 |x::T,0,k+1,j+1,h,_=>by simp[kN]at h
 |x::T,f+1,k+1,j+1,h,h2=>by
  simp only[List.all_cons,au]at h2;have h4:=h2.1;simp only[okT,au,ac]at h4;rw[bF]at h|-;have e:((kN x++T.flatMap kN).take (j+1))=x.kind::(IV x++T.flatMap kN).take j:=by
   show lo x.kind::_=_;rw[Bl Wq1 Wq1]
   rfl
  rw[e]at h|-;unfold tW;rw[if_neg (show¬(x.kind<1\/6<x.kind) by omega)];by_cases hj:(IV x).length<=j
  .rw[List.take_append,aM hj]at h|-;rw[H1 x _ h2.1];obtain⟨n,h5,h6⟩:=I2 T f k (j - (IV x).length) (by simp only[aO,aj]at h;omega) h2.2;refine⟨n+1,Nat.succ_le_succ h5,?_⟩;dsimp only;rw[h6]
   rfl
  rw[List.take_append_of_le_length Wq1,Kp x j h2.1 Wq1];exact⟨0,ap _,rfl⟩
variable{bs:Li}
theorem Vv(h:u8s bs){q:List Int×List Int}(e:Vx bs=some q):q.1.length<=65535/\u8s q.1/\u8s q.2:=by
 match bs,h,e with
 |a::b::r,h,e=>
  have ha:=h a (.head _);have hb:=h b (.tail _ (.head _));have e':(if(a+256*b).toNat<=r.length then some (r.take (a+256*b).toNat,r.drop (a+256*b).toNat)else none)=some q:=e;by_cases hl:(a+256*b).toNat<=r.length
  .rw[if_pos hl]at e';cases ay e'
   refine⟨by rw[aD];omega,λx hx=>h x (.tail _ (.tail _ (aB hx))),λx hx=>h x (.tail _ (.tail _ (bG hx)))⟩
  rw[if_neg hl]at e';cases e'
theorem oneI_u8(h:u8s bs){q:Si×List Int}(e:xI bs=some q):okI q.1=true/\u8s q.2:=by
 match bs,h,e with
 |p::r,h,e=>
  have hp:=h p (.head _);obtain⟨q1,e1,e2⟩:=Option.bind_eq_some_iff.1 e;obtain⟨q2,e3,e4⟩:=Option.map_eq_some_iff.1 e2;subst e4;have h1:=Vv (λx hx=>h x (.tail _ hx)) e1;have h2:=Vv h1.2.2 e3;refine⟨?_,h2.2.2⟩;simp only[okI,au,ac];exact⟨⟨⟨by omega,by omega⟩,h1.1⟩,h2.1⟩
theorem PN:∀(k:Nat) {bs:Li},u8s bs->(pW k bs).1.length<=k/\(pW k bs).1.all okI=true/\∀r,(pW k bs).2=some r->u8s r
 |0,bs,h=>⟨aL _,rfl,λr e=>by cases e;exact h⟩
 |k+1,bs,h=>by
  unfold pW;split
  .exact⟨ap _,rfl,λr e=>by cases e⟩
  rename_i x r e
  have h1:=oneI_u8 h e;have h2:=PN k h1.2;refine⟨Nat.succ_le_succ h2.1,?_,h2.2.2⟩;show(okI x&&_)=true;rw[h1.1,h2.2.1]
  rfl
variable{c:Int}
theorem oneT_u8(hc:1<=c)(hc2:c<=6)(h:u8s bs){q:It×List Int}(e:rq c bs=some q):okT q.1=true/\q.1.ask=q.1/\u8s q.2/\u8s q.1.b:=by
 match bs,h,e with
 |g::r,h,e=>
  have hg:=h g (.head _);unfold rq at e;dsimp only at e;by_cases h1:kX c=true
  .rw[if_pos h1]at e
   match r,h,e with
   |a::b::r2,h,e=>
    cases e
    have ha:=h a (.tail _ (.head _));have hb:=h b (.tail _ (.tail _ (.head _)));have h2:(c==2)=false:=by
     simp only[kX,bn,beq_iff_eq]at h1;rw[aV];omega
    refine⟨?_,?_,λx hx=>h x (.tail _ (.tail _ (.tail _ hx))),λx hx=>by cases hx⟩
    .simp only[okT,au,ac,bn,h2,bne];exact⟨⟨⟨⟨⟨hc,hc2⟩,by omega⟩,by omega⟩,.inr ⟨by omega,by omega⟩⟩,.inl rfl⟩
    simp only[It.ask,h1,h2,ai,ah]
  rw[if_neg h1]at e;have h1:=Bool.eq_false_iff.2 h1;by_cases h2:c=2
  .rw[if_pos h2]at e;subst h2
   match r,h,e with
   |a::r2,h,e=>
    have ha:=h a (.tail _ (.head _));have e':(if a.toNat<=r2.length then some ((⟨2,g,0,r2.take a.toNat⟩:It),r2.drop a.toNat)else none)=some q:=e;by_cases hl:a.toNat<=r2.length
    .rw[if_pos hl]at e';cases ay e'
     refine⟨?_,?_,λx hx=>h x (.tail _ (.tail _ (bG hx))),λx hx=>h x (.tail _ (.tail _ (aB hx)))⟩
     .simp only[okT,au,ac,bn,h1];exact⟨⟨⟨⟨⟨hc,hc2⟩,by omega⟩,by omega⟩,.inl rfl⟩,.inr ri⟩
     rfl
    rw[if_neg hl]at e';cases e'
  rw[if_neg h2]at e;cases e
  have h2:(c==2)=false:=aV.2 h2;refine⟨?_,?_,λx hx=>h x (.tail _ hx),λx hx=>by cases hx⟩
  .simp only[okT,au,ac,bn,h1,h2,bne];exact⟨⟨⟨⟨⟨hc,hc2⟩,by omega⟩,by omega⟩,.inl rfl⟩,.inl rfl⟩
  simp only[It.ask,h1,h2,ah]
theorem Gl:∀(f k:Nat) {bs:Li},u8s bs->(tW f k bs).length<=k/\(tW f k bs).all okT=true/\(tW f k bs).map It.ask=tW f k bs/\∀x,x∈tW f k bs->u8s x.b
 |0,k,bs,_=>by unfold tW;exact⟨ap _,rfl,rfl,λx hx=>by cases hx⟩
 |f+1,0,bs,_=>by unfold tW;exact⟨ap _,rfl,rfl,λx hx=>by cases hx⟩
 |f+1,k+1,[],_=>⟨ap _,rfl,rfl,λx hx=>by cases hx⟩
 |f+1,k+1,c::r,h=>by
  have hr:u8s r:=λx hx=>h x (.tail _ hx)
  unfold tW;split
  .exact Gl f (k+1) hr
  split
  .exact⟨ap _,rfl,rfl,λx hx=>by cases hx⟩
  rename_i x r2 e
  have h1:=oneT_u8 Wq1 Wq1 hr e;have h2:=Gl f k h1.2.2.1;refine⟨Nat.succ_le_succ h2.1,?_,?_,?_⟩
  .show(okT x&&_)=true;rw[h1.1,h2.2.1]
   rfl
  .show x.ask::_=_;rw[h1.2.1,h2.2.2.1]
  intro y hy;rcases aJ.1 hy with rfl|hy
  .exact h1.2.2.2
  exact h2.2.2.2 y hy
variable{I:List Si}{T:List It}
theorem ja(h:fC I T=0):I.length<=4/\T.length<=512/\I.all okI=true/\T.all okT=true:=by
 unfold fC at h;cases h1:(decide (4<I.length)||decide (512<T.length))with
 |true=>rw[h1]at h;cases h
 |false=>
  rw[h1]at h;cases h2:(I.all okI&&T.all okT)with
  |false=>rw[h2]at h;cases h
  |true=>
   exact Wq479
theorem qr(h1:I.length<=4)(h2:T.length<=512)(h3:I.all okI=true)(h4:T.all okT=true):fC I T=0:=by
 unfold fC;rw[aF (by omega:¬4<I.length),aF (by omega:¬512<T.length),h3,h4]
 rfl
theorem TI(I:List Si)(T:List It)(j:Nat)(h:fC I T=0)(hj:(pV I []).length<=j):∃n,n<=T.length/\Eg ((pV I T).take j)=(I,(T.map It.ask).take n):=by
 obtain⟨a,b,c,d⟩:=ja h;have hj2:1+(I.flatMap o3).length<=j:=by
  rw[show(pV I []).length=(I.flatMap o3++[]).length+1 from rfl,aw]at hj;omega
 obtain⟨m,rfl⟩:∃m,j=(I.flatMap o3).length+m+1:=⟨j - 1 - (I.flatMap o3).length,by omega⟩;have e:(pV I T).take ((I.flatMap o3).length+m+1)=lo I.length::(I.flatMap o3++(T.flatMap kN).take m):=by
  show lo I.length::(I.flatMap o3++T.flatMap kN).take ((I.flatMap o3).length+m)=_;rw[List.take_append,aM Wq1,Nat.add_sub_cancel_left]
 have h1:min (lo I.length).toNat 4=I.length:=by rw[Bl Wq1 Wq1,aN];omega
 have h2:=BL ((T.flatMap kN).take m) I c;obtain⟨n,h3,h4⟩:=I2 T ((T.flatMap kN).take m).length 512 m (aL _) d;refine⟨n,h3,?_⟩;rw[e];show((pW (min (lo I.length).toNat 4) (I.flatMap o3++(T.flatMap kN).take m)).1,match(pW (min (lo I.length).toNat 4) (I.flatMap o3++(T.flatMap kN).take m)).2 with|none=>[]|some r2=>tW r2.length 512 r2)=_;rw[h1,h2];dsimp only;rw[h4]
theorem PM(h:u8s bs):fC (Eg bs).1 (Eg bs).2=0/\(Eg bs).2.map It.ask=(Eg bs).2/\∀x,x∈(Eg bs).2->u8s x.b:=by
 match bs,h with
 |[],_=>exact⟨rfl,rfl,λx hx=>by cases hx⟩
 |c::r,h=>
  have h1:=PN (min c.toNat 4) (λx hx=>h x (.tail _ hx):u8s r);unfold Eg;dsimp only;split
  .exact⟨qr Wq1 cP h1.2.1 rfl,rfl,λx hx=>by cases hx⟩
  rename_i r2 e
  have h2:=Gl r2.length 512 (h1.2.2 r2 e);exact⟨qr Wq1 h2.1 h1.2.1 h2.2.1,h2.2.2.1,h2.2.2.2⟩
abbrev RS9:=List Int×Bool
def gD(n:Nat)(s:RS9):List Int×RS9:=if n<=s.1.length then(s.1.take n,(s.1.drop n,s.2))else([],([],true))
def qB:List Int->Int
 |[]=>0
 |[a]=>a
 |a::b::_=>a+256*b
def me(n:Nat)(s:RS9):Int×RS9:=(qB (gD n s).1,(gD n s).2)
def imL(s:RS9):Si×RS9:=
 let p:=me 1 s
 let a:=me 2 p.2
 let L:=gD a.1.toNat a.2
 let b:=me 2 L.2
 let K:=gD b.1.toNat b.2
 (⟨p.1,L.1,K.1⟩,K.2)
def F2(c:Int)(s:RS9):It×RS9:=
 let g:=me 1 s
 let n:=bif kX c then me 2 g.2 else(0,g.2)
 let b:=bif c==2 then gD (me 1 n.2).1.toNat (me 1 n.2).2 else([],n.2)
 (⟨c,g.1,n.1,b.1⟩,b.2)
variable{s:RS9}
theorem da(h:s.2=true):(gD n s).2.2=true:=by grind [gD]
variable{l:Li}
theorem Ir(h:xI l=none):(imL (l,false)).2.2=true:=by
 unfold imL me
 match l,h with
 |[],h=>exact da (da (da (da rfl)))
 |[p],h=>exact da (da (da rfl))
 |[p,a],h=>exact da (da (da rfl))
 |p::a::b::r,h=>
  have e:(if(a+256*b).toNat<=r.length then some (r.take (a+256*b).toNat,r.drop (a+256*b).toNat)else none).bind (λq=>(Vx q.2).map λt=>((⟨p,q.1,t.1⟩:Si),t.2))=none:=h;show(gD (qB (gD 2 (gD (a+256*b).toNat (r,false)).2).1).toNat (gD 2 (gD (a+256*b).toNat (r,false)).2).2).2.2=true;by_cases hl:(a+256*b).toNat<=r.length
  .rw[if_pos hl]at e;have e:(Vx (r.drop (a+256*b).toNat)).map _=none:=e;have e:=Option.map_eq_none_iff.1 e;rw[show gD (a+256*b).toNat (r,false)=(r.take (a+256*b).toNat,(r.drop (a+256*b).toNat,false))from if_pos hl];generalize r.drop (a+256*b).toNat=q at e
   match q,e with
   |[],e=>exact da rfl
   |[u],e=>exact da rfl
   |u::v::t,e=>
    show(gD (u+256*v).toNat (t,false)).2.2=true;have e:(if(u+256*v).toNat<=t.length then some (t.take (u+256*v).toNat,t.drop (u+256*v).toNat)else none)=none:=e;by_cases hm:(u+256*v).toNat<=t.length
    .rw[if_pos hm]at e;cases e
    unfold gD;rw[if_neg hm]
  rw[show gD (a+256*b).toNat (r,false)=([],([],true))from if_neg hl]
  rfl
variable{r:Li}{x:Si}
theorem Bs(h:xI l=some (x,r)):imL (l,false)=(x,(r,false)):=by
 match l,h with
 |p::s,h=>
  obtain⟨q1,e1,e2⟩:=Option.bind_eq_some_iff.1 h;obtain⟨q2,e3,e4⟩:=Option.map_eq_some_iff.1 e2;cases e4
  match s,e1 with
  |a::b::r,e1=>
   have e1:(if(a+256*b).toNat<=r.length then some (r.take (a+256*b).toNat,r.drop (a+256*b).toNat)else none)=some q1:=e1;by_cases hl:(a+256*b).toNat<=r.length
   .rw[if_pos hl]at e1;cases ay e1
    dsimp only at e3|-;unfold imL me;show((⟨p,(gD (a+256*b).toNat (r,false)).1,(gD (qB (gD 2 (gD (a+256*b).toNat (r,false)).2).1).toNat (gD 2 (gD (a+256*b).toNat (r,false)).2).2).1⟩:Si),(gD (qB (gD 2 (gD (a+256*b).toNat (r,false)).2).1).toNat (gD 2 (gD (a+256*b).toNat (r,false)).2).2).2)=_;rw[show gD (a+256*b).toNat (r,false)=(r.take (a+256*b).toNat,(r.drop (a+256*b).toNat,false))from if_pos hl];dsimp only;generalize r.drop (a+256*b).toNat=q at e3
    match q,e3 with
    |u::v::t,e=>
     have e:(if(u+256*v).toNat<=t.length then some (t.take (u+256*v).toNat,t.drop (u+256*v).toNat)else none)=some q2:=e;by_cases hm:(u+256*v).toNat<=t.length
     .rw[if_pos hm]at e;cases ay e
      show((⟨p,_,(gD (u+256*v).toNat (t,false)).1⟩:Si),(gD (u+256*v).toNat (t,false)).2)=_;rw[show gD (u+256*v).toNat (t,false)=(t.take (u+256*v).toNat,(t.drop (u+256*v).toNat,false))from if_pos hm]
     rw[if_neg hm]at e;cases e
   rw[if_neg hl]at e1;cases e1
theorem In(h:rq c l=none):(F2 c (l,false)).2.2=true:=by
 unfold F2 me;unfold rq at h;cases hc:kX c<;>cases hd:(c==2)
 .simp only[hc,ah,hd]
  match l,h with
  |[],h=>rfl
  |g::r,h=>grind
 .simp only[hc,ah,ai]
  match l,h with
  |[],h=>exact da (da rfl)
  |[g],h=>exact da rfl
  |g::a::r,h=>
   show(gD a.toNat (r,false)).2.2=true
   grind [gD]
 .simp only[ah,ai]
  match l,h with
  |[],h=>rfl
  |[g],h=>rfl
  |[g,a],h=>rfl
  |g::a::b::r,h=>grind
 grind [kX]
theorem Bo{x:It}(h:rq c l=some (x,r)):F2 c (l,false)=(x,(r,false)):=by
 unfold F2 me;unfold rq at h;cases hc:kX c<;>cases hd:(c==2)
 .simp only[hc,ah,hd]
  match l,h with
  |g::t,h=>
   show((⟨c,g,0,[]⟩:It),(t,false))=_
   grind
 .simp only[hc,ah,ai]
  match l,h with
  |[g],h=>grind
  |g::a::t,h=>
   show((⟨c,g,0,(gD a.toNat (t,false)).1⟩:It),(gD a.toNat (t,false)).2)=_
   grind [gD]
 .simp only[ah,ai]
  match l,h with
  |[g],h=>grind
  |[g,a],h=>grind
  |g::a::b::t,h=>
   show((⟨c,g,a+256*b,[]⟩:It),(t,false))=_
   grind
 grind [kX]
variable{k:Nat}
theorem PP(h:xI l=some (x,r)):pW (k+1) l=(x::(pW k r).1,(pW k r).2):=by
 show(match xI l with|none=>_|some (x,r)=>_)=_;rw[h]
theorem PO(h:xI l=none):pW (k+1) l=([],none):=by
 show(match xI l with|none=>_|some (x,r)=>_)=_;rw[h]
theorem nK{x:It}(h:rq c l=some (x,r)):r.length<l.length:=by
 unfold rq at h
 grind
theorem wR:∀(f g k:Nat) (l:Li),l.length<=f->l.length<=g->tW f k l=tW g k l
 |0,g,k,[],_,_=>by cases g<;>cases k<;>rfl
 |f+1,0,k,[],_,_=>by cases k<;>rfl
 |f+1,g+1,0,l,_,_=>by unfold tW;rfl
 |f+1,g+1,k+1,[],_,_=>rfl
 |f+1,g+1,k+1,c::r,h,h2=>by
  have hf:r.length<=f:=by simpa using h
  have hg:r.length<=g:=by simpa using h2
  unfold tW;rw[wR f g (k+1) r hf hg];split
  .rfl
  split
  .rfl
  rename_i x r2 e
  have:=nK e;rw[wR f g k r2 Wq1 Wq1]
def BJ(k:Nat)(l:Li):List It:=tW l.length k l
theorem I0:BJ k []=[]:=by unfold BJ;cases k<;>rfl
theorem Ed:BJ 0 l=[]:=by unfold BJ;cases l<;>rfl
theorem Ee(h:c<1\/6<c):BJ (k+1) (c::r)=BJ (k+1) r:=by
 show(if c<1\/6<c then tW r.length (k+1) r else _)=_;rw[if_pos h]
 rfl
theorem PK(h:¬(c<1\/6<c))(h2:rq c r=none):BJ (k+1) (c::r)=[]:=by
 show(if c<1\/6<c then _ else match rq c r with|none=>[]|some (x,r2)=>x::tW r.length k r2)=_;rw[if_neg h,h2]
theorem PL{r2:Li}{x:It}(h:¬(c<1\/6<c))(h2:rq c r=some (x,r2)):BJ (k+1) (c::r)=x::BJ k r2:=by
 have:=nK h2;show(if c<1\/6<c then _ else match rq c r with|none=>[]|some (x,r2)=>x::tW r.length k r2)=_;rw[if_neg h,h2];exact congrArg (x:: ·) (wR _ _ k r2 Wq1 (aL _))
theorem Ef:Eg (c::r)=((pW (min c.toNat 4) r).1,match(pW (min c.toNat 4) r).2 with|none=>[]|some r2=>BJ 512 r2):=rfl
def oX(n:Nat)(s:RS9):Int×RS9:=if n<=s.1.length then(qB (s.1.take n),(s.1.drop n,s.2))else(0,(s.1,true))
def kB(n:Nat)(s:RS9):List Int×RS9:=if s.2=false/\n<=s.1.length then(s.1.take n,(s.1.drop n,false))else([],(s.1,true))
def imP(s:RS9):Si×RS9:=
 let p:=oX 1 s
 let a:=oX 2 p.2
 let L:=kB a.1.toNat a.2
 let b:=oX 2 L.2
 let K:=kB b.1.toNat b.2
 (⟨p.1,L.1,K.1⟩,K.2)
def itP(c:Int)(s:RS9):It×RS9:=
 let g:=oX 1 s
 let n:=bif kX c then oX 2 g.2 else(0,g.2)
 let b:=bif c==2 then kB (oX 1 n.2).1.toNat (oX 1 n.2).2 else([],n.2)
 (⟨c,g.1,n.1,b.1⟩,b.2)
theorem numP_eq(n:Nat)(l:Li):((gD n (l,false)).2.2=false/\oX n (l,false)=me n (l,false))\/((gD n (l,false)).2.2=true/\(oX n (l,false)).2.2=true):=by
 unfold oX me gD
 grind
theorem Rs(n:Nat)(l:Li):((gD n (l,false)).2.2=false/\kB n (l,false)=gD n (l,false))\/((gD n (l,false)).2.2=true/\(kB n (l,false)).2.2=true):=by
 unfold kB gD
 grind
theorem iG(h:s.2=true):(oX n s).2.2=true:=by grind [oX]
theorem fL(h:s.2=true):(kB n s).2.2=true:=by grind [kB]
theorem iH(h:s.2=true):(me n s).2.2=true:=da h
theorem lP(n:Nat)(s:RS9)(h:s.2=false):((me n s).2.2=false/\oX n s=me n s)\/((me n s).2.2=true/\(oX n s).2.2=true):=by
 obtain⟨l,b⟩:=s;cases h
 exact numP_eq n l
theorem rH(n:Nat)(s:RS9)(h:s.2=false):((gD n s).2.2=false/\kB n s=gD n s)\/((gD n s).2.2=true/\(kB n s).2.2=true):=by
 obtain⟨l,b⟩:=s;cases h
 exact Rs n l
theorem VJ(l:Li):((imL (l,false)).2.2=false/\imP (l,false)=imL (l,false))\/((imL (l,false)).2.2=true/\(imP (l,false)).2.2=true):=by
 unfold imL imP;dsimp only;rcases lP 1 (l,false) rfl with⟨a1,a2⟩|⟨a1,a2⟩
 .rw[a2];rcases lP 2 _ a1 with⟨b1,b2⟩|⟨b1,b2⟩
  .rw[b2];rcases rH (me 2 (me 1 (l,false)).2).1.toNat _ b1 with⟨c1,c2⟩|⟨c1,c2⟩
   .rw[c2];rcases lP 2 _ c1 with⟨d1,d2⟩|⟨d1,d2⟩
    .rw[d2];rcases rH (me 2 (gD (me 2 (me 1 (l,false)).2).1.toNat (me 2 (me 1 (l,false)).2).2).2).1.toNat _ d1 with⟨e1,e2⟩|⟨e1,e2⟩
     .rw[e2];exact .inl ⟨e1,rfl⟩
     exact .inr ⟨e1,e2⟩
    exact .inr ⟨da d1,fL d2⟩
   exact .inr ⟨da (iH c1),fL (iG c2)⟩
  exact .inr ⟨da (iH (da b1)),fL (iG (fL b2))⟩
 exact .inr ⟨da (iH (da (iH a1))),fL (iG (fL (iG a2)))⟩
theorem VI(c:Int)(l:Li):((F2 c (l,false)).2.2=false/\itP c (l,false)=F2 c (l,false))\/((F2 c (l,false)).2.2=true/\(itP c (l,false)).2.2=true):=by
 unfold F2 itP;dsimp only;rcases lP 1 (l,false) rfl with⟨a1,a2⟩|⟨a1,a2⟩
 .rw[a2];cases hc:kX c with
  |true=>
   have hd:(c==2)=false:=by grind [kX]
   rw[hd];dsimp only[cond];rcases lP 2 _ a1 with⟨b1,b2⟩|⟨b1,b2⟩
   .rw[b2];exact .inl ⟨b1,rfl⟩
   exact .inr ⟨b1,b2⟩
  |false=>
   dsimp only[cond];cases hd:(c==2)with
   |false=>exact .inl ⟨a1,rfl⟩
   |true=>
    dsimp only[cond];rcases lP 1 _ a1 with⟨b1,b2⟩|⟨b1,b2⟩
    .rw[b2];rcases rH (me 1 (me 1 (l,false)).2).1.toNat _ b1 with⟨c1,c2⟩|⟨c1,c2⟩
     .rw[c2];exact .inl ⟨c1,rfl⟩
     exact .inr ⟨c1,c2⟩
    exact .inr ⟨da b1,fL b2⟩
 refine .inr ⟨?_,?_⟩
 .cases kX c<;>cases(c==2)<;>dsimp only[cond]<;>first|exact a1|exact iH a1|exact da (iH a1)|exact da (iH (iH a1))
 cases kX c<;>cases(c==2)<;>dsimp only[cond]<;>first|exact a2|exact iG a2|exact fL (iG a2)|exact fL (iG (iG a2))
theorem S6(h:xI l=none):(imP (l,false)).2.2=true:=by
 rcases VJ l with⟨a,_⟩|⟨_,b⟩
 .rw[Ir h]at a;cases a
 exact b
theorem S5(h:xI l=some (x,r)):imP (l,false)=(x,(r,false)):=by
 rcases VJ l with⟨_,b⟩|⟨a,_⟩
 .rw[b,Bs h]
 rw[Bs h]at a;cases a
theorem SU(h:rq c l=none):(itP c (l,false)).2.2=true:=by
 rcases VI c l with⟨a,_⟩|⟨_,b⟩
 .rw[In h]at a;cases a
 exact b
theorem SS{x:It}(h:rq c l=some (x,r)):itP c (l,false)=(x,(r,false)):=by
 rcases VI c l with⟨_,b⟩|⟨a,_⟩
 .rw[b,Bo h]
 rw[Bo h]at a;cases a
theorem uM{α β:Type}{f:α->List β}{sz:Nat}(hf:∀a,(f a).length=sz):∀{l:List α} {i j:Nat} {x y:α} {v:β},l[i]? =some x->j<sz->(f x).set j v=f y->(l.flatMap f).set (i*sz+j) v=(l.set i y).flatMap f
 |z::l,0,j,x,y,v,h,hj,e=>by
  cases ay h
  rw[Nat.zero_mul,Nat.zero_add,bF,List.set_cons_zero,bF,<-e,List.set_append_left _ _ (by rw[hf];exact hj)]
 |z::l,i+1,j,x,y,v,h,hj,e=>by
  have ih:=uM hf (l:=l) (i:=i) (j:=j) (x:=x) (y:=y) (v:=v) (by simpa using h) hj e;rw[bF,List.set_cons_succ,bF,<-ih,List.set_append_right _ _ (by rw[hf,Nat.succ_mul];omega),hf];congr 2;rw[Nat.succ_mul];omega
theorem one_ask(a:Ag)(x:It):a.one x.ask=a.one x:=by
 unfold Ag.one It.ask kX;cases h1:(x.kind==1)<;>cases h2:(x.kind==2)<;>cases h3:(x.kind==3)<;>rfl
theorem Dn(l:List Ag)(x:It):eN l x.ask=eN l x:=by
 unfold eN;show(bif decide (0<=x.Wq)&&decide (x.Wq<(l.length:Int))then _ else _)=_;cases(decide (0<=x.Wq)&&decide (x.Wq<(l.length:Int)))
 .rfl
 show(match l[x.Wq.toNat]? with|some a=>_|none=>_)=(match l[x.Wq.toNat]? with|some a=>_|none=>_);rcases l[x.Wq.toNat]? with _|a
 .rfl
 dsimp only;rw[one_ask]
 rfl
theorem H6:∀(T:List It) (l:List Ag),ER l (T.map It.ask)=ER l T
 |[],_=>rfl
 |x::T,l=>by
  show ER (eN l x.ask).1 (T.map It.ask)=ER (eN l x).1 T;rw[Dn,H6]
theorem Dk:∀(T:List It) (l:List Ag),lx l (T.map It.ask)=lx l T
 |[],_=>rfl
 |x::T,l=>by
  show(eN l x.ask).2::lx (eN l x.ask).1 (T.map It.ask)=(eN l x).2::lx (eN l x).1 T;rw[Dn,Dk]
theorem H8{k:Nat}:∀{T:List It} {l:List Ag},(∀a,a∈l->a.WV k)->(∀x,x∈T->u8s x.b)->∀o,o∈lx l T->o.v.wf
 |[],_,_,_,o,ho=>by cases ho
 |x::T,l,h,hb,o,ho=>by
  rcases aJ.1 ho with rfl|q
  .exact H9 h
  exact H8 (y7 h (hb x (.head _))) (λy hy=>hb y (.tail _ hy)) o q
theorem yY:∀(n:Nat) (T:List It) (l:List Ag),lx l (T.take n)=(lx l T).take n
 |0,T,l=>by rw[List.take_zero,List.take_zero];rfl
 |n+1,[],l=>rfl
 |n+1,x::T,l=>by
  show(eN l x).2::lx (eN l x).1 (T.take n)=(eN l x).2::(lx (eN l x).1 T).take n;rw[yY]
def Im.si(x:Im):Si:=⟨x.n,x.l,x.k⟩
def Si.im(x:Si):Im:=⟨none,0,x.l,none,0,x.k,x.n⟩
def Si.ag(x:Si):Ag:=x.im.ag
def kg(I:List Si):Int:=jB (I.map Si.im)
theorem zB:∀(L:List Im) (u:Int),jP u L=jP u ((L.map Im.si).map Si.im)
 |[],_=>rfl
 |x::L,u=>by
  show(bif x.why u==0 then jP (u+x.n) L else x.why u)=(bif x.why u==0 then jP (u+x.n) _ else x.why u);rw[zB L]
theorem w8(L:List Im):jB L=kg (L.map Im.si):=by
 unfold kg jB;rw[<-zB,ax,ax]
theorem ag_si(L:List Im):L.map Im.ag=(L.map Im.si).map Si.ag:=by
 rw[List.map_map]
 rfl
def EQ(I:List Si)(T:List It):List Ou:=bif kg I==0 then lx (I.map Si.ag) T else[]
def Kc(I:List Si)(T:List It):List Vw:=bif kg I==0 then(ER (I.map Si.ag) T).map Ag.view else[]
theorem RF(I:List Si)(T:List It):EQ I (T.map It.ask)=EQ I T:=by unfold EQ;rw[Dk]
theorem RE(I:List Si)(T:List It):Kc I (T.map It.ask)=Kc I T:=by unfold Kc;rw[H6]
theorem Nc(I:List Si)(T:List It)(n:Nat):EQ I (T.take n)=(EQ I T).take n:=by
 unfold EQ;rw[yY];cases(kg I==0)
 .exact List.take_nil.symm
 rfl
theorem AJ(h:kg I=0):(EQ I T).length=T.length:=by
 unfold EQ;rw[h];exact qC
theorem uy(h:kg I=0):(Kc I T).length=I.length:=by
 unfold Kc;rw[h];show((ER (I.map Si.ag) T).map Ag.view).length=_;rw[ax,H5,ax]
theorem Hp(h:kg I≠0):EQ I T=[]/\Kc I T=[]:=by
 unfold EQ Kc;rw[aV.2 h];exact gr
structure VwR where
 v:Vw
 Y:VAd
abbrev VwR.cells(x:VwR):List Value:=x.v.cells x.Y
theorem VwR.V8(x:VwR):x.cells.length=23:=rfl
theorem vwR_one(x:VwR):∀u∈x.cells,u.oneCell'=true:=mQ rfl
def VwOk(J:List bJ)(V:List VwR):Prop:=∀w,(bP J).ok w->∀x,x∈V->oV w x.v x.Y
theorem VwOk.snoc{J L:List bJ}{V:List VwR}{x:VwR}(h:VwOk J V)(hx:∀w,(bP L).ok w->oV w x.v x.Y):VwOk [bP L,bP J] (V++[x]):=λw hj y hy=>by
 have e:∀c,c∈[bP L,bP J]->c.ok w:=ek hj;rcases az.1 hy with q|q
 .exact h w (e _ (.tail _ (.head _))) y q
 rw[aC.1 q];exact hx w (e _ (.head _))
structure fN where
 A:Option Addr
 c:Nat
 Z:List OuR
 J:List bJ
 B:Option Addr
 e:Nat
 V:List VwR
 K:List bJ
 why:Int
abbrev fN.cells(R:fN):List Value:=[.slice R.A R.Z.length R.c,.slice R.B R.V.length R.e,.i R.why]
abbrev vU(A:Oa)(c:Nat)(Z:List OuR):bJ:=slv 107 25 A Z.length c (Z.flatMap OuR.cells)
abbrev Co(A:Oa)(c:Nat)(V:List VwR):bJ:=slv 55 23 A V.length c (V.flatMap VwR.cells)
abbrev fN.cs(R:fN):List bJ:=[vU R.A R.c R.Z,bP R.J,Co R.B R.e R.V,bP R.K]
structure fN.ok(R:fN)(I:List Si)(T:List It):Prop where
 z:R.Z.map OuR.o=EQ I T
 v:R.V.map VwR.v=Kc I T
 why:R.why=kg I
 j:OuOk R.J R.Z
 k:VwOk R.K R.V
 zw:∀o,o∈EQ I T->o.v.wf
 vw:∀v,v∈Kc I T->v.wf
theorem fN.ok.zlen{R:fN}(h:R.ok I T):R.Z.length=(EQ I T).length:=by rw[<-h.z,ax]
theorem fN.ok.vlen{R:fN}(h:R.ok I T):R.V.length=(Kc I T).length:=by rw[<-h.v,ax]
theorem map_at2{γ:Type}{g:γ->β}{l:List α}{m:List γ}(h:l.map f=m.map g){i:Nat}{a:α}{b:γ}(ha:l[i]? =some a)(hb:m[i]? =some b):f a=g b:=by
 have e:(l.map f)[i]? =(m.map g)[i]? :=by rw[h]
 rw[aX,aX,ha,hb]at e;exact ay e
theorem v8{l m:List α}(h:l.map f=m.map f){i:Nat}{a b:α}(ha:l[i]? =some a)(hb:m[i]? =some b):f a=f b:=by
 have e:(l.map f)[i]? =(m.map f)[i]? :=by rw[h]
 rw[aX,aX,ha,hb]at e;exact ay e
theorem yX{t:TypeId}{fs:Array Field}(hu:prog.underlying t=some (.struct fs))(hc:prog.cellsOf t=3)(h0:∃f,fs[0]? =some f/\f.offset=0/\f.type=61)(h1:∃f,fs[1]? =some f/\f.offset=1/\f.type=3)(h2:∃f,fs[2]? =some f/\f.offset=2/\f.type=22)(h:Arg prog W t es):∃x:BoR,es=x.cells/\x.ok W:=by
 obtain⟨hl,hf⟩:=h.struct hu;rw[hc]at hl;obtain⟨f0,e0,o0,t0⟩:=h0;obtain⟨f1,e1,o1,t1⟩:=h1;obtain⟨f2,e2,o2,t2⟩:=h2;have q0:=hf 0 f0 e0;have q1:=hf 1 f1 e1;have q2:=hf 2 f2 e2;rw[o0,t0]at q0;rw[o1,t1]at q1;rw[o2,t2]at q2
 match es,hl with
 |[c0,c1,c2],_=>
  have k0:Arg prog W 61 [c0]:=q0;have k1:Arg prog W 3 [c1]:=q1;have k2:Arg prog W 22 [c2]:=q2;obtain⟨A,c,xs,g1,g2,g3, -⟩:=k0.rows (e:=148) rfl rfl Cf.V8 ⟨0,0,0,0,none,0,[]⟩ (λes he=>H0 he);obtain⟨n1,rfl,m1⟩:=QN rfl k1;obtain⟨A2,d2,x2,g4,r2,b2,z2⟩:=k2.ints (e:=5) (k:= .u8) rfl rfl rfl;obtain rfl:c0=_:=by simpa using g1
  obtain rfl:c2=_:=by simpa using g4
  exact⟨⟨A,c,xs,n1,A2,d2,x2⟩,rfl,⟨g2,g3,r2,λx hx=>L5 (z2 x hx)⟩⟩
theorem vV(h:uW prog W 86 v):∃(A:Oa) (c:Nat) (l:List BoR),v= .slice A l.length c/\RdV W 3 A l.length c (l.flatMap BoR.cells)/\∀x,x∈l->x.ok W:=by
 obtain⟨A,c,xs,h1,h2,h3, -⟩:=uW.rows (e:=131) rfl rfl BoR.V8 ⟨none,0,[],0,none,0,[]⟩ (λes he=>yX rfl rfl ⟨_,rfl,rfl,rfl⟩ ⟨_,rfl,rfl,rfl⟩ ⟨_,rfl,rfl,rfl⟩ he) h;exact⟨A,c,xs,h1,h2,h3⟩
theorem sW(h:uW prog W 57 v):∃(A:Oa) (c:Nat) (l:List BoR),v= .slice A l.length c/\RdV W 3 A l.length c (l.flatMap BoR.cells)/\∀x,x∈l->x.ok W:=by
 obtain⟨A,c,xs,h1,h2,h3, -⟩:=uW.rows (e:=63) rfl rfl BoR.V8 ⟨none,0,[],0,none,0,[]⟩ (λes he=>yX rfl rfl ⟨_,rfl,rfl,rfl⟩ ⟨_,rfl,rfl,rfl⟩ ⟨_,rfl,rfl,rfl⟩ he) h;exact⟨A,c,xs,h1,h2,h3⟩
structure Bo4 where
 x:BoR
 raw:Bool
abbrev Bo4.cells(y:Bo4):List Value:=[.slice y.x.A y.x.l.length y.x.c,.i y.x.Wa,.slice y.x.B y.x.k.length y.x.e,.bool y.raw]
theorem Bo4.V8(y:Bo4):y.cells.length=4:=rfl
set_option maxRecDepth 100000 in
theorem FA(h:Arg prog W 93 es):∃y:Bo4,es=y.cells/\y.x.ok W:=by
 obtain⟨hl,hf⟩:=h.struct rfl;have hl:es.length=4:=hl
 match es,hl with
 |[c0,c1,c2,c3],_=>
  have k0:Arg prog W 61 [c0]:=hf 0 _ rfl;have k1:Arg prog W 3 [c1]:=hf 1 _ rfl;have k2:Arg prog W 22 [c2]:=hf 2 _ rfl;have k3:Arg prog W 4 [c3]:=hf 3 _ rfl;obtain⟨A,c,xs,g1,g2,g3, -⟩:=k0.rows (e:=148) rfl rfl Cf.V8 ⟨0,0,0,0,none,0,[]⟩ (λes he=>H0 he);obtain⟨n1,rfl,m1⟩:=QN rfl k1;obtain⟨A2,d2,x2,g4,r2,b2,z2⟩:=k2.ints (e:=5) (k:= .u8) rfl rfl rfl;obtain⟨b3,rfl⟩:=arg1b rfl k3;obtain rfl:c0=_:=by simpa using g1
  obtain rfl:c2=_:=by simpa using g4
  exact⟨⟨⟨A,c,xs,n1,A2,d2,x2⟩,b3⟩,rfl,⟨g2,g3,r2,λx hx=>L5 (z2 x hx)⟩⟩
theorem jv(h:uW prog W 23 v):∃(A:Oa) (c:Nat) (l:List Bo4),v= .slice A l.length c/\RdV W 4 A l.length c (l.flatMap Bo4.cells)/\∀y,y∈l->y.x.ok W:=by
 obtain⟨A,c,xs,h1,h2,h3, -⟩:=uW.rows (e:=93) rfl rfl Bo4.V8 ⟨⟨none,0,[],0,none,0,[]⟩,false⟩ (λes he=>FA he) h;exact⟨A,c,xs,h1,h2,h3⟩
structure ItR.okN(W:World)(x:ItR):Prop where
 o:x.ok W
 n: -9223372036854775808<=x.n/\x.n<=9223372036854775807
theorem Ko(h:Arg prog W 41 es):∃x:ItR,es=x.cells/\x.okN W:=by
 obtain⟨x,rfl,hx⟩:=De h;obtain⟨hl,hf⟩:=h.struct rfl;have k2:Arg prog W 3 [.i x.n]:=hf 2 _ rfl;obtain⟨n,e,m⟩:=QN rfl k2;cases e
 exact⟨x,rfl,hx,wf_i64 m⟩
theorem ix(h:uW prog W 24 v):∃(A:Oa) (c:Nat) (l:List ItR),v= .slice A l.length c/\RdV W 4 A l.length c (l.flatMap ItR.cells)/\∀x,x∈l->x.okN W:=by
 obtain⟨A,c,xs,h1,h2,h3,h4⟩:=uW.rows (e:=41) rfl rfl ItR.V8 ⟨0,0,0,none,0,[]⟩ (λes he=>Ko he) h;exact⟨A,c,xs,h1,h2,h3⟩
end
end Go.Ink
