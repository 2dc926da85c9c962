/- Lemmas. -/
import Derived.Test.YtgpahfcaecojgaaGreatDoorPba
import Derived.Test.YtgpahfcaecojgaaGreatDoorPbb
set_option linter.all false
set_option maxRecDepth 100000
set_option maxHeartbeats 4000000
namespace Go.Proofs.YtgpahfcaecojgaaGreatDoor
open Go.RowKit Go.Ink Go.Proofs.Tryz
theorem Tm{a b:Li}(h1:xJ a)(h2:xJ b)(h:∀x,x∈a->x∉b):xJ (a++b):=by
 refine⟨λx hx=>?_,List.nodup_append.2 ⟨h1.2,h2.2,λx hx y hy e=>h x hx (e▸hy)⟩⟩;rcases az.1 hx with q|q
 .exact h1.1 x q
 exact h2.1 x q
theorem ID{ow:Li}:∀k:Nat,(∀i:Nat,i<k->xJ (cQ ow (i:Int) 256))->xJ (pD ow k)
 |0,_=>⟨λx hx=>jT,List.nodup_nil⟩
 |k+1,h=>Tm (ID k (λi hi=>h i Wq1)) (h k Wq1) (λx hx hy=>by
  obtain⟨i,h1,h2⟩:=DR hx;obtain⟨f, -,rfl,h3⟩:=Bt.1 h2;obtain⟨g, -,h4,h5⟩:=Bt.1 hy;obtain rfl:f=g:=by omega
  rw[h3]at h5;have:=ay h5;omega)
theorem _root_.Go.Ink.Mon.ok.fr{k:Nat}{m:Mon}(h:m.ok k):xJ (pD m.P.ow m.gs.length):=ID _ λi hi=>(h.mem (ae hi)).1
theorem KR{ow:Li}{Z:List ISl}{k:Nat}(h:Z.map ISl.l=(List.range k).map (λi:Nat=>cQ ow (i:Int) 256)):Z.flatMap ISl.l=pD ow k:=by
 rw[List.flatMap_def,h];clear h
 induction k with
 |zero=>rfl
 |succ k ih=>
  rw[List.range_succ,List.map_append,List.flatten_append,ih];show _++(cQ ow (k:Int) 256++[])=_;rw[aw]
  rfl
def IsOk(J:List bJ)(Z:List ISl):Prop:=∀w,(bP J).ok w->∀x,x∈Z->x.rd w
attribute [local irreducible] OpY bN
theorem qu{w0:World}{S:List Nat}{cs:List bJ}{sz n c i:Nat}{ad:Addr}{xs:List Value}{v:Value}(h:∀w',dc S w0 w'->RdV w' sz (some ad) n c xs)(hv:xs[i]? =some v):∀w,Inv w0 S cs w->cells [(ad.add i,v)] w:=λw hi z hz=>by
 rw[aC]at hz;subst hz;exact(h w hi.WB).at_ ad rfl i v hv
theorem Kx{Z Y:List OuR}(h:Z.map OuR.o=Y.map OuR.o){i:Nat}{a b:OuR}(ha:Z[i]? =some a)(hb:Y[i]? =some b):a.o=b.o:=v8 h ha hb
theorem Ji(a:Vw)(Y Z:VAd)(ha:a.wf)(w:World)(h:oV w a Y)(h2:oV w a Z):CW prog 74 [vv a Y,vv a Z] w (.bool true):=
 (Ua a a Y Z ha ha w h h2).mono λv cs ⟨⟨r,h1,h2⟩,h3⟩=>⟨by rw[h1,h2.2 rfl],h3⟩
theorem VA{Z:List OuR}{i:Nat}{z:OuR}(h:Z[i]? =some z)(j:Nat)(v:Value)(hj:(z.o.v.cells z.Y)[j]? =some v):(Z.flatMap OuR.cells)[i*25+1+j]? =some v:=by
 rw[Nat.add_assoc];refine bZ OuR.V8 (i:=1+j) h ?_;rw[Nat.add_comm];exact(List.getElem?_append_left (ar.1 hj).1).trans hj
theorem Ug(ba bb:Nat)(a b:Mon)(k:Nat)(ha:a.ok k)(hb:b.ok k)(hk:k<=1000000000)(hl:a.l=b.l)(A B:Oa)(c e:Nat)(Z Y:List OuR)(hz:Z.map OuR.o=Y.map OuR.o)(hw:∀z,z∈Z->z.o.v.wf)(w:World)(hi:Inv w (bK (eE ba a++eE bb b)) (eE ba a++eE bb b) w)(hA:∀w',dc (bK (eE ba a++eE bb b)) w w'->RdV w' 25 A Z.length c (Z.flatMap OuR.cells)/\∀z,z∈Z->oV w' z.o.v z.Y)(hB:∀w',dc (bK (eE ba a++eE bb b)) w w'->RdV w' 25 B Y.length e (Y.flatMap OuR.cells)/\∀z,z∈Y->oV w' z.o.v z.Y):
  Ctr prog 53 [.p ba,.p bb,.slice A Z.length c,.slice B Y.length e] w (eE ba a++eE bb b) (λv cs=>v= .bool true/\cs=eE ba a++eE bb b):=by
 have hlen:Z.length=Y.length:=by have q:=congrArg List.length hz;exact Lr
 have h1:=λw' q=>(hA w' q).1
 have h2:=λw' q=>(hB w' q).1
 have r1:=λw' q=>(hA w' q).2
 have r2:=λw' q=>(hB w' q).2
 rw[<-hlen]at h2|-;have hmax:=(h1 w (dc.refl _ _)).max;have hcap:=(h1 w (dc.refl _ _)).cap;have hs1:=λq=>(h1 w (dc.refl _ _)).some_ q
 have hs2:=λq=>(h2 w (dc.refl _ _)).some_ q
 unfold maxLen at hmax;have hm4:a.l.length<=4:=by rw[a.len];exact ha.g.four
 clear hA hB;refine Zfn func53 ntmps53 hi ?_;refine Zs (Zr (ZA ?_));refine Zn (Zt (Zs (Zs (Zr (ZA ?_)))));refine Z_3 ?_;refine GH ?_;refine Zn (Zt (cy rfl (rfl) ?_));refine Zc (Zt (Zs (Zs (Zr (ZA ?_)))));refine Z_2 ?_;refine Zn (Zt (Zx ?_));refine wLo (λi:Nat=>[(0,.p ba),(1,.p bb),(2,.slice A Z.length c),(3,.slice B Z.length e),(21,.i (Z.length:Int)),(22,.i (i:Int))]) (λ_=>eE ba a++eE bb b) (λi=>i<=Z.length) (λi=>Z.length - i) (0) (ap _) ?_;rintro i hi0;refine Zw6 ?_ ?_<;>intro hc4
 .simp only[ac]at hc4;have hil:i<Z.length:=Wq1;obtain⟨ad,rfl⟩:=hs1 Wq1;obtain⟨ad2,rfl⟩:=hs2 Wq1;obtain⟨z,hzi⟩:∃z,Z[i]? =some z:=⟨_,ae hil⟩;obtain⟨y,hyi⟩:∃y,Y[i]? =some y:=⟨_,ae (show i<Y.length by omega)⟩;have hwo:=hw z (ak hzi);have v1:=λw' q=>r1 w' q z (ak hzi)
  have v2:=λw' q=>r2 w' q y (ak hyi)
  have heq:=Kx hz hzi hyi;obtain⟨o,Y1⟩:=z;obtain⟨o2,Y2⟩:=y;dsimp only at heq hwo v1 v2;subst heq;refine gq ?_;refine Wq393 ?_;refine Zy5 4 rfl (bM Zrf Zv0) (qu h1 (bZ OuR.V8 (i:=0) hzi rfl)) ?_;refine Wq390 ?_;refine Zy5 9 rfl (bM Zrf Zv0) (qu h2 (bZ OuR.V8 (i:=0) hyi rfl)) ?_;refine Zy4 10 rfl (lK (Zv rfl) (Zv rfl) (bj o.n)) ?_;refine Wq254 ?_;refine Zy7 16 rfl (bQ rfl rfl) (bM Zrf (cA rfl)) (qu h1 (bZ OuR.V8 (i:=24) hzi rfl)) ?_;refine Wq276 ?_;refine Zy7 21 rfl (bQ rfl rfl) (bM Zrf (cA rfl)) (qu h2 (bZ OuR.V8 (i:=24) hyi rfl)) ?_;refine Zy6 22 rfl (bQ rfl rfl) (lK (cA rfl) (cA rfl) (bj o.why)) ?_;refine ZE 23 ?_;refine Wq258 ?_;refine Zy7 29 rfl (bQ rfl rfl) (bW (vs:=o.v.cells Y1) Zrf Zrf (cA rfl)) (rT h1 (VA hzi)) ?_;refine Wq279 ?_;refine Zy7 34 rfl (bQ rfl rfl) (bW (vs:=o.v.cells Y2) Zrf Zrf (cA rfl)) (rT h2 (VA hyi)) ?_;refine cW 35 Zk (ur rfl (bQ rfl rfl) (.cons (cA rfl) (.cons (cA rfl) .nil)) (λ_ _=>rfl) (λhg w hi=>Ji o.v Y1 Y2 hwo w (v1 w hi.WB) (v2 w hi.WB)) rfl (ZF 36 ?_));refine ZE 37 ?_;refine dR ?_;refine Zt (cy rfl (rfl) ?_);refine jS ?_;refine qMM (i+1) ⟨by omega,by omega⟩
 refine Z_9 ?_;refine ZSe (λw hi=>oK ba a w (hi.get (Zhc (lR ba a)))) ?_;refine Z_4 ?_;refine wLo (λi:Nat=>[(0,.p ba),(1,.p bb),(65,.i (a.l.length:Int)),(66,.i (i:Int))]) (λ_=>eE ba a++eE bb b) (λi=>i<=a.l.length) (λi=>a.l.length - i) (0) (ap _) ?_;rintro i hi0;refine Zw6 ?_ ?_<;>intro hc10
 .simp only[ac]at hc10;have hil:i<a.l.length:=Wq1;obtain⟨g,hg⟩:∃g,a.l[i]? =some g:=⟨_,ae hil⟩;have hg2:b.l[i]? =some g:=(by rw[<-hl];exact hg);have hgw:=(ha.f _ (ak hg)).wf;refine jl ?_;refine ZSn (λw hi=>uE ba a k ha hk i g hg w hi Zi) ?_;rintro _ _ ⟨Y4,J4,hR4,rfl,rfl⟩;refine Z_3 ?_;refine ZN λb11=>?_
  refine rf ?_;refine ZSn (λw hi=>uE bb b k hb hk i g hg2 w hi Zi) ?_;rintro _ _ ⟨Y5,J5,hR5,rfl,rfl⟩;refine Z_3 ?_;refine ZN λb13=>?_
  refine rf ?_;refine ZSe (λw hi=>Ji g.view Y4 Y5 hgw w (hR4 w (hi.get (Zhc (bP J4)))) (hR5 w (hi.get (Zhc (bP J5))))) ?_;refine iX ?_;refine jS ?_;refine qMP (i+1) ⟨by omega,by omega⟩
 refine gq ?_;refine Zrb ((eE ba a++eE bb b)) ?_;exact gr
theorem Mo(A:Oa)(c:Nat)(L:List Im)(B:Oa)(e:Nat)(T:List ItR)(hTl:T.length<=1000)(hL:∀x,x∈L->u8s x.l/\u8s x.k/\x.l.length<=4611686018427387904)(hT:∀x,x∈T->u8s x.b/\x.b.length<=1000/\ -9223372036854775808<=x.n)(w:World)(h:RdV w 3 A L.length c (L.flatMap Im.cells))(hr:∀x,x∈L->x.rd w)(h2:RdV w 4 B T.length e (T.flatMap ItR.cells))(hB:∀x,x∈T->Rd w .u8 x.A x.b.length x.c x.b)(ht:fc w):
  CW prog 29 [.slice A L.length c,.slice B T.length e] w (.tuple #[.i (if jB L=0 then(T.length:Int)else 0),.bool true]):=by
 refine Zfs func29 ntmps29 ?_;refine Z_7 ?_;by_cases hb0:jB L=0
 .refine Z_2 ?_;refine Wq477 ?_;rintro _ _ ⟨_,⟨ba,a,⟨ha,hla⟩,rfl,rfl⟩,rfl⟩;refine fH ?_;refine Wq477 ?_;rintro _ _ ⟨_,⟨bb,b,⟨hb,hlb⟩,rfl,rfl⟩,rfl⟩;refine EU ?_;refine kv ?_;refine Z_5 ?_;rw[if_pos hb0];have hll:a.l=b.l:=hla.trans hlb.symm;refine eY (eE ba a++eE bb b) Zj (Z_6 ?_);refine wLo (λq:Nat×Mon×Mon=>[(1,.slice B T.length e),(6,.p ba),(8,.p bb),(31,.slice B T.length e),(32,.i (T.length:Int)),(33,.i (q.1:Int))]) (λq=>eE ba q.2.1++eE bb q.2.2) (λq=>q.1<=T.length/\q.2.1.ok (80000*q.1)/\q.2.2.ok (80000*q.1)/\q.2.1.l=q.2.2.l) (λq=>T.length - q.1) ((⟨0,a,b⟩:Nat×Mon×Mon)) ⟨ap _,ha,hb,hll⟩ ?_;rintro⟨i,a,b⟩ ⟨hi0,ha,hb,hll⟩;dsimp only at hi0 ha hb hll|-;refine Zw6 ?_ ?_<;>intro hc6
  .simp only[ac]at hc6;have hil:i<T.length:=Wq1;obtain⟨ad,rfl⟩:=h2.some_ Wq1;obtain⟨x,hx⟩:∃x,T[i]? =some x:=⟨_,ae hil⟩;have hxm:=ak hx;obtain⟨hx1,hx2,hx3⟩:=hT x hxm;have hxr:=hB x hxm;have HD:=NX ba a (80000*i) ha Wq1 x hx1 hx2 hx3;have HE:=NX bb b (80000*i) hb Wq1 x hx1 hx2 hx3;have hwf:=H9 (l:=a.l) (x:=x.it) ha.f;rw[<-hll]at HE;obtain⟨⟨l2,o⟩,hro⟩:=Zgn (eN a.l x.it);rw[hro]at HD HE hwf;dsimp only at HD HE hwf;obtain⟨kd,g,n,xA,xc,xb⟩:=x;dsimp only at hxr HD HE;refine Z_7 ?_;refine EE ?_;refine dQ (bW (vs:=ItR.cells ⟨kd,g,n,xA,xc,xb⟩) Zrf Zrf Zv0) (cE h2 (λj v hj=>bZ ItR.V8 (i:=j) hx hj)) rfl ?_;refine ZN λb11=>?_
   refine ZA ?_;refine iC ?_;refine bU (Zdr [5,9,10] (mU b11 [.i kd,.i g,.i n,.slice xA xb.length xc])) Zk (pS ?_);refine nl 3 rfl Zk Zk Zk (bW Zrf Zrf Zv0) (λx hx=>dT x hx) (bL (t:=41) Zh) rfl (ZE 6 ?_);refine nl 7 rfl Zk Zk Zk (bW Zrf Zrf Zv0) (λx hx=>dT x hx) (bL (t:=41) Zh) rfl (kW 4 8 Zk ?_ ?_)
   .refine gX rfl rfl (gZ rfl rfl Zrf Zrf rfl rfl rfl) (λ_=>by rintro _ _ ⟨b42,rfl,rfl⟩;exact bL (t:=41) Zh) rfl ?_;rintro _ _ ⟨b42,rfl,rfl⟩;refine kW 5 8 Zk ?_ ?_
    .refine Wq57 ?_;rintro _ _ ⟨_,⟨a2,Y,bz,cz,J2,⟨ha2,hla2,hR2⟩,rfl,rfl⟩,rfl⟩;refine ig ?_;refine Wq266 ?_;rintro _ _ ⟨b46,rfl,rfl⟩;refine Wq52 ?_;rintro _ _ ⟨_,⟨b2,Y2,by2,cy2,J3,⟨hb2,hlb2,hR3⟩,rfl,rfl⟩,rfl⟩;refine Wq32 ?_;rintro _ _ ⟨_,⟨rfl,rfl⟩,rfl⟩;refine ZE 11 ?_;refine dR ?_;refine Zt (cy rfl (rfl) ?_);refine jS ?_;refine qMP ((⟨i+1,a2,b2⟩:Nat×Mon×Mon)) ⟨⟨show i+1<=T.length by omega,ha2.le Wq1,hb2.le Wq1,hla2.trans hlb2.symm⟩,show T.length - (i+1)<T.length - i by omega⟩
    refine Wq266 ?_;rintro _ _ ⟨b46,rfl,rfl⟩;refine kQ ?_;refine Wq57 ?_;rintro _ _ ⟨_,⟨a2,Y,bz,cz,J2,⟨ha2,hla2,hR2⟩,rfl,rfl⟩,rfl⟩;refine Wq52 ?_;rintro _ _ ⟨_,⟨b2,Y2,by2,cy2,J3,⟨hb2,hlb2,hR3⟩,rfl,rfl⟩,rfl⟩;refine Wq32 ?_;rintro _ _ ⟨_,⟨rfl,rfl⟩,rfl⟩;refine ZE 11 ?_;refine dR ?_;refine Zt (cy rfl (rfl) ?_);refine jS ?_;refine qMP ((⟨i+1,a2,b2⟩:Nat×Mon×Mon)) ⟨⟨show i+1<=T.length by omega,ha2.le Wq1,hb2.le Wq1,hla2.trans hlb2.symm⟩,show T.length - (i+1)<T.length - i by omega⟩
   refine Wq266 ?_;rintro _ _ ⟨b46,rfl,rfl⟩;refine cW 4 Zk (gX rfl rfl (gZ rfl rfl Zrf Zrf rfl rfl rfl) (λ_=>by rintro _ _ ⟨b42,rfl,rfl⟩;exact bL (t:=41) Zh) rfl ?_);rintro _ _ ⟨b42,rfl,rfl⟩;refine kQ ?_;refine Wq57 ?_;rintro _ _ ⟨_,⟨a2,Y,bz,cz,J2,⟨ha2,hla2,hR2⟩,rfl,rfl⟩,rfl⟩;refine Wq52 ?_;rintro _ _ ⟨_,⟨b2,Y2,by2,cy2,J3,⟨hb2,hlb2,hR3⟩,rfl,rfl⟩,rfl⟩;refine Wq32 ?_;rintro _ _ ⟨_,⟨rfl,rfl⟩,rfl⟩;refine ZE 11 ?_;refine dR ?_;refine Zt (cy rfl (rfl) ?_);refine jS ?_;refine qMP ((⟨i+1,a2,b2⟩:Nat×Mon×Mon)) ⟨⟨show i+1<=T.length by omega,ha2.le Wq1,hb2.le Wq1,hla2.trans hlb2.symm⟩,show T.length - (i+1)<T.length - i by omega⟩
  simp only[aa]at hc6;refine jl ?_;exact lc
 refine Z_2 ?_;refine Wq448 ?_;refine fH ?_;refine Wq448 ?_;refine UO ?_;refine Z_6 ?_;refine pX ?_;refine Z_4 ?_;refine Zy (jn (Zv rfl) (Zv rfl) (beq_self_eq_true _)) ?_;refine Z_6 ?_;refine mf ?_;rw[if_neg hb0];exact gr
theorem Io{Z:List ISl}{x:ISl}:Z.length+1=(Z++[x]).length/\Z.map ISl.v++[x.v]=(Z++[x]).map ISl.v:=by
 rw[aj,List.map_append];exact gr
structure DF where
 i:Nat
 Z:List ISl
 A:Option Addr
 c:Nat
 J:List bJ
theorem z9(bm:Nat)(m:Mon)(k:Nat)(hm:m.ok k):CI prog 31 [.p bm] (eE bm m) (λv cs=>v= .bool true/\cs=eE bm m):=λw hi=>by
 have hall:=hm.all;have hfr:=hm.fr;have h4:=hm.g.four;have hml:=m.len;have hgf:=λ{Z:List ISl} {k:Nat} h=>KR (ow:=m.P.ow) (Z:=Z) (k:=k) h
 refine Zfn func31 ntmps31 hi ?_;refine fb ?_;refine kv ?_;refine Z_5 ?_;refine ZSe (λw hi=>Sw bm m w hm.g.Xb.len (hi.get (Zhc (lR bm m))) (hi.get (Zhc (ia m.bp m.P)))) ?_;refine fb ?_;refine ZSe (λw hi=>oK bm m w (hi.get (Zhc (lR bm m)))) ?_;refine cY 72 1 (fg (eY (slv 72 1 none 0 0 []::bP []::eE bm m) Zj (Z_4 ?_)));refine wLo (λq:DF=>[(0,.p bm),(3,.i ((mH m.P.ow 256+(pD m.P.ow q.i).length:Nat):Int)),(4,.slice q.A q.Z.length q.c),(12,.i (m.l.length:Int)),(13,.i (q.i:Int))]) (λq=>slv 72 1 q.A q.Z.length q.c (q.Z.map ISl.v)::bP q.J::eE bm m) (λq=>q.i<=m.l.length/\q.Z.map ISl.l=(List.range q.i).map (λi:Nat=>cQ m.P.ow (i:Int) 256)/\IsOk q.J q.Z/\(pD m.P.ow q.i).length<=64*q.i) (λq=>m.l.length - q.i) ((⟨0,[],none,0,[]⟩:DF)) ⟨ap _,rfl,λw _ x hx=>jT,aL _⟩ ?_;rintro⟨i,Z,A1,c1,J⟩ ⟨hi0,hZ,hJ,hG⟩;dsimp only at hi0 hZ hJ hG|-;have hZl:Z.length=i:=(by have q:=congrArg List.length hZ;rw[ax,ax,List.length_range]at q;exact q);refine Zw6 ?_ ?_<;>intro hc6
 .simp only[ac]at hc6;have hil:i<m.gs.length:=Wq1;obtain⟨g,hg⟩:∃g,m.gs[i]? =some g:=⟨_,ae hil⟩;obtain⟨f1,f2, -⟩:=hm.mem hg;have hn64:g.abs.n<=64:=(hm.f _ (ak (Mon.at_ hg))).n64;have HF:=λ{w0:World} {S:List Nat} {cs rest:List bJ} (w:World) (hi:Inv w0 S cs w) (hs:fe (eE bm m) cs rest)=>Ku bm m k hm i hil w hi hs
  have hF0:pD m.P.ow (i+1)=pD m.P.ow i++cQ m.P.ow (i:Int) 256:=rfl;have hZs:Z.map ISl.l++[cQ m.P.ow (i:Int) 256]=(List.range (i+1)).map (λi:Nat=>cQ m.P.ow (i:Int) 256):=(by rw[hZ,List.range_succ,List.map_append];rfl);obtain⟨F,hF⟩:=Zgn (cQ m.P.ow (i:Int) 256);rw[hF]at f2 HF hF0 hZs;have hFl:F.length<=64:=Wq1;refine jl ?_;refine ZSn (λw hi=>HF w hi Zi) ?_;rintro _ _ ⟨A5,c5,rfl,rfl⟩;refine Z_8 ?_;refine Zy (eK (Zv rfl) (Zv rfl) (show _=((mH m.P.ow 256+(pD m.P.ow (i+1)).length:Nat):Int)from by rw[hF0,aj,bD _ ⟨by omega,by omega⟩];omega)) ?_;refine Z_6 ?_;refine jD ?_;rintro _ _ ⟨b25,rfl,rfl⟩;refine fo (bV (e:=72) (sz:=1) (bytes:=24) rfl rfl Za rfl rfl (λw hi=>hi.rd (Zhc (slv 72 1 (sA b25) 1 1 [.slice A5 F.length c5]))) (mQ rfl) Wq9 Wq1) rfl ?_;rintro _ _ ⟨A6,c6,rfl,rfl⟩;rw[(Io (Z:=Z) (x:=⟨A5,c5,F⟩)).1,(Io (Z:=Z) (x:=⟨A5,c5,F⟩)).2];refine fx [sl .i64 3 A5 F.length c5 F,bP J] Zi (lI ?_);have hJ2:IsOk [sl .i64 3 A5 F.length c5 F,bP J] (Z++[(⟨A5,c5,F⟩:ISl)]):=(λw hj y hy=>by rcases az.1 hy with q|q;exact hJ w (ek hj _ (.tail _ (.head _))) y q;rw[aC.1 q];exact dM (ek hj _ (.head _)));refine qMP ((⟨i+1,Z++[(⟨A5,c5,F⟩:ISl)],A6,c6,[sl .i64 3 A5 F.length c5 F,bP J]⟩:DF)) ⟨⟨show i+1<=m.l.length by omega,by show(Z++[(⟨A5,c5,F⟩:ISl)]).map ISl.l=_;rw[List.map_append];exact hZs,hJ2,by show(pD m.P.ow (i+1)).length<=64*(i+1);rw[hF0,aj];omega⟩,show m.l.length - (i+1)<m.l.length - i by omega⟩
 simp only[aa]at hc6;obtain rfl:i=m.l.length:=Wq1;rw[hml]at hZ hG|-;have hflat:=hgf hZ;refine Z_8 ?_;refine ZSn (λw hi=>ku A1 c1 Z w (hi.rd (Zhc (slv 72 1 A1 Z.length c1 (Z.map ISl.v)))) (hJ w (hi.get (Zhc (bP J))))) ?_;rintro _ _ ⟨⟨r,rfl,hrr⟩,rfl⟩;obtain rfl:r=true:=hrr.2 (by rw[hflat];exact hfr);refine Z_2 ?_;refine Zyy rfl rfl (jn (cA rfl) (Zv rfl) (show _=true from by rw[beq_iff_eq];omega)) ?_;refine Z_5 ?_;refine Zrb ((eE bm m)) ?_;exact gr
end Go.Proofs.YtgpahfcaecojgaaGreatDoor
