/- Lemmas. -/
import Derived.Test.YtepfimeihngjoaaGreatDoorXat
import Derived.Test.YtepfimeihngjoaaGreatDoorXau
set_option linter.all false
set_option maxRecDepth 100000
set_option maxHeartbeats 4000000
namespace Go.Ink
open List renaming length→J, replicate→R9
open IntKind renaming wrap→V9
open Go.RowKit Go.Proofs.Tryz
section
attribute [local irreducible] Ve bN
variable{α:Type}{f:α->Bool}{l:List α}{k:Nat}
variable{n c:Nat}{xs:List Value}
theorem Lg(T:Li)(i j:Nat)(w:World):CW prog 300 [.agg #[.i i,.i i,.i (T.getD i 0)],.agg #[.i j,.i j,.i (T.getD j 0)]] w (.bool (nH T i j)):=by
 obtain⟨ti,hti⟩:=Do (T.getD i 0);obtain⟨tj,htj⟩:=Do (T.getD j 0);unfold nH;rw[hti,htj];refine UV func300 ntmps300 ?_;refine An ?_;refine ZO λb2=>?_;refine ZO λb3=>?_
 refine jS ?_;refine fS ?_;exact⟨by grind,rfl⟩
theorem JF(b:Nat)(A:Oa)(c:Nat)(T:Li)(n at_:Int)(hn:0<=n->n.toNat<J T):CI prog 339 [.i n,.i at_,.p b] (lvF b A c T) (λ_ cs=>cs=lvF b A c (gn T n at_)):=λw hi=>by
 refine Vb func339 ntmps339 hi ?_;refine UH ?_ ?_<;>intro hc0
 .simp only[ai]at hc0;have hlt:=hn hc0;obtain⟨m,rfl⟩:∃m:Nat,n=m:=aj hc0;rw[aV]at hlt;obtain⟨bs,rfl⟩:=iu (hi.get (UJ (lvC A c T))) O;have hx:T[m]? =some (T.getD m 0):=bZ;have hu:gn T m at_=T.set m (if at_>T.getD m 0 then at_ else T.getD m 0):=(by unfold gn;grind);obtain⟨t,ht⟩:=Do (T.getD m 0);rw[ht]at hx hu;obtain⟨t2,ht2⟩:=Do ((if at_>t then at_ else t));rw[ht2]at hu;refine bQ (WM [11] (m5 b [.slice (sA bs) (J T) c])) Zk (eY 0 I Zk Zk Zk (bO ir py) (dx I) (bP (t:=410) Zh) I (ZE 1 ?_));refine eY 2 I Zk Zk Zk (bO ir py) (dx I) (bP (t:=410) Zh) I (ZE 3 ?_);refine UY 4 I (cn (j:=m) (sz:=3) (r:=m*3) I ir (Zv I) (Zv I) ir (λ_=>hlt) O) ?_;refine UE 5 2 ?_;refine Vn 6 I (bO ir py) (E7 Zh (kI T 0 m (j:=2) hx I)) ?_;refine ZE 7 ?_;refine UY 8 I (CT py py ht2) ?_;refine UY 9 I (cn (j:=m) (sz:=3) (r:=m*3) I ir (Zv I) (Zv I) ir (λ_=>hlt) O) ?_;refine UE 10 2 ?_;refine cP 11 Zk (fq I I (EW ir I I I Za O) (λ_=>by refine UR ?_;exact bP (t:=410) Zh) ?_);refine UR ?_;refine fh ?_;refine io (cs':=[row b [.slice (sA bs) (J T) c] 410,slv 415 3 (sA bs) (J T) c ((fN 0 T).set (m*3+2) (.i t2))]) (.inr I) Zu I ?_;rw[hu,xp,show J T=J (T.set m t2) by simp]
 simp only[aa]at hc0;have hu:gn T n at_=T:=(by unfold gn;grind);refine Zc (io (cs':=lvF b A c T) (.inr I) Zu I ?_);rw[hu]
variable{m:Nat}
theorem rep0(n:Nat):(R9 n (.i 0:Value)).take 0++(ints .i64 [-1]).take (min 1 n)++(R9 n (.i 0)).drop (0+min 1 n)=Hg (min 1 n) n:=by
 unfold Hg;rw[List.take_zero,aR,List.drop_replicate,bC];cases n with
 |zero=>rfl
 |succ n=>rw[show min 1 (n+1)=1 by omega];rfl
theorem OR(h:m<=n):(Hg m n).take m++(R9 m (.i (-1):Value)).take (min m (n - m))++(Hg m n).drop (m+min m (n - m))=Hg (m+min m (n - m)) n:=by
 grind [Bb,Hg,min,List.drop_append,List.length_replicate,List.drop_of_length_le,List.replicate_append_replicate]
theorem U5.head{w:World}{A:Oa}(h:U5 w 1 A n c xs)(hm:m<=n):U5 w 1 A m c (xs.take m):=
 ⟨by simp_all [h.len],by have:=h.cap;omega,h.max,λe=>by have:=h.nil e;omega,λad e j u hu=>h.at_ ad e j u bZ⟩
theorem Po(n:Nat)(hn:n<=64)(w:World):CW prog 355 [.int .u64 1,.int .u64 n] w (.tuple #[.int .u64 0,.int .u64 n]):=by
 refine UV func355 ntmps355 ?_;refine U8 ?_;refine Zy (oX (Zv I) (Zv I) (show _=(1:Int)from I)) ?_;refine UU ?_;refine Zy (jT (Zv I) (Zv I) O (show _=(0:Int)from I)) ?_;refine UU ?_;refine Zy (oX py py (and64r n hn)) ?_;refine UU ?_;refine Zy (jT (Zv I) (Zv I) O (R6 n hn)) ?_;refine US ?_;refine Zy (fT py py (mul1r n hn)) ?_;refine US ?_;refine Zy (fT py py (mul0r n)) ?_;refine ZA ?_;refine Zy (jT (Zv I) (Zv I) O (R6 n hn)) ?_;refine Q1 ?_;refine UU ?_;refine Zy (oX (Zv I) (Zv I) (show _=(0:Int)from I)) ?_;refine UU ?_;refine Zy (jT (Zv I) (Zv I) O (show _=(0:Int)from I)) ?_;refine Va ?_;refine Zy (fT (Zv I) (Zv I) (show _=(0:Int)from I)) ?_;refine Q1 ?_;refine US ?_;refine Zy (fT (Zv I) (Zv I) (show _=(0:Int)from I)) ?_;refine ZA ?_;refine Q1 ?_;refine ZA ?_;refine Zy (jT (Zv I) (Zv I) O (show _=(0:Int)from I)) ?_;refine Q1 ?_;refine US ?_;refine Zy (fT py py (mul1r n hn)) ?_;refine UK ?_;exact oW
theorem mul_ok(n:Nat)(hn:n<=64)(w:World):CW prog 338 [.int .u64 1,.int .u64 n] w (.tuple #[.int .u64 0,.int .u64 n]):=by
 refine UV func338 ntmps338 ?_;refine US ?_;refine lN ?_;refine UU ?_;refine UZ (λw hi=>Po n hn w) ?_;refine oO ?_;exact oW
theorem FW(b:Nat)(X:SAd)(N:Nat)(Tt:Int)(T l:Li)(hT:J T=N)(hl:J l=N)(hN:N<=64)(A:Oa)(c:Nat)(n:Nat)(hn:n<N)(w:World)(h:(scR b X N Tt).ok w)(h2:Rd w .i64 A N c l)(h3:U5 w 3 X.Av N X.cv (fN 0 T)):
  CW prog 299 [.p b,.slice A N c,.i n] w (.i (fX T l n)):=by
 obtain⟨av,hav⟩:=h3.some_ O;rw[hav]at h3;have hxn:T[n]? =some (T.getD n 0):=nP O;refine UV func299 ntmps299 ?_;refine gP ?_;refine Vs (λk:Nat=>[(0,.p b),(1,.slice A N c),(2,.i n),(7,.i (k:Int))]) (λ_=>[]) (λk=>k<=N/\kV T l n (J l - k) k=fX T l n) (λk=>N+1 - k) (0) ⟨ax _,I⟩ ?_;rintro k ⟨hk,hF⟩;refine oO ?_;refine Vs (λj:Nat=>[(0,.p b),(1,.slice A N c),(2,.i n),(7,.i (k:Int)),(8,.bool (fu T l n k j)),(13,.slice A N c),(14,.i N),(15,.i (j:Int))]) (λ_=>[]) (λj=>j<=N) (λj=>N - j) (0) O ?_;rintro j hj;refine UH ?_ ?_<;>intro hc5
 .simp only[ai]at hc5;have hjN:j<N:=O;obtain⟨ad,rfl⟩:=h2.some_ O;have hx:l[j]? =some (l.getD j 0):=nP O;have hxj:T[j]? =some (T.getD j 0):=nP O;refine US ?_;refine NB ?_;refine dZ (bO ir py) (dK h2 (cw hx)) I (UK ?_);refine jf ?_;refine lO ?_;refine ZF 2 ?_;refine ZF 3 ?_;refine ZF 4 ?_;refine ZF 5 ?_;refine ZF 6 ?_;refine ZF 7 ?_;refine ZFf 8 3 ?_;refine Zy7 9 I (fQ I I) (bO ir (cO I)) (cW h I) ?_;refine ZF 10 ?_;refine Zy6 11 I (fQ I I) (iy (j:=j) hav I ir (cO I) (cO I) ir (λ_=>hjN)) ?_;refine Zy7 12 I (fQ I I) (bX (vs:=[.i j,.i j,.i (T.getD j 0)]) ir ir (cO I)) (fB h3 (λi v hv=>kI T 0 j hxj bZ)) ?_;refine ZF 13 ?_;refine ZF 14 ?_;refine ZFf 15 3 ?_;refine Zy7 16 I (fQ I I) (bO ir (cO I)) (cW h I) ?_;refine ZF 17 ?_;refine Zy6 18 I (fQ I I) (iy (j:=n) hav I ir (cO I) (cO I) ir (λ_=>hn)) ?_;refine Zy7 19 I (fQ I I) (bX (vs:=[.i n,.i n,.i (T.getD n 0)]) ir ir (cO I)) (fB h3 (λi v hv=>kI T 0 n hxn bZ)) ?_;refine cP 20 Zk (EO I (fQ I I) (.cons (cO I) (.cons (cO I) .nil)) (λ_ _=>I) (λhg w hi=>Lg T j n w) I (ZF 21 ?_));refine ZE 22 ?_;refine ZE 23 ?_;refine fh ?_;refine UN ?_;refine W8 ?_;refine VM (j+1) O
 simp only[aa]at hc5;obtain rfl:j=N:=by omega
 refine yh ?_ ?_<;>intro hc9
 .have htk:fu T l n k (J l)=false:=bZ;refine nY ?_;exact⟨by rw[P8 hF O htk],rfl⟩
 have htk:fu T l n k (J l)=true:=bZ;obtain⟨hk2,hF2⟩:=Mp hF O htk;refine j5 ?_;refine VM (k+1) O
theorem nN{k:IntKind}(l:Li)(n:Nat)(v:Int):(ints k l).set n (.int k v)=ints k (l.set n v):=by simp[ints]
theorem EY(b br cr bs cs bv cv:Nat)(N:Nat)(T:Li)(pl:Pl)(hT:J T=N)(hrl:J pl.reg=N)(hsl:J pl.slot=N)(hN:N<=64)(n:Nat)(hn:n<N):CI prog 301 [.p b,.i n] (scF b ⟨some ⟨br,0,none⟩,cr,some ⟨bs,0,none⟩,cs,some ⟨bv,0,none⟩,cv⟩ N T pl) (λ_ c=>c=scF b ⟨some ⟨br,0,none⟩,cr,some ⟨bs,0,none⟩,cs,some ⟨bv,0,none⟩,cv⟩ N T (lB T pl n)):=λw hi=>by
 obtain⟨reg,slot,Tt⟩:=pl;dsimp only at hrl hsl;have hfl:=(rI T slot n).2.1;obtain⟨f,hf⟩:=Do (fX T slot n);have hsp:lB T ⟨reg,slot,Tt⟩ n=⟨reg.set n (-1),slot.set n f,if(f:Int)+1>Tt then(f:Int)+1 else Tt⟩:=by unfold lB;rw[hf]
 have hFr:=FW b ⟨some ⟨br,0,none⟩,cr,some ⟨bs,0,none⟩,cs,some ⟨bv,0,none⟩,cv⟩ N Tt T slot hT hsl hN (sA bs) cs n hn;rw[hf]at hFr hfl;rw[hsp];have hx:(slot.set n (f:Int))[n]? =some (f:Int):=by rw[List.getElem?_set_self O]
 refine Vb func301 ntmps301 hi ?_;refine Va ?_;refine Zy (cn (j:=n) (sz:=1) (r:=n) I ir (Zv I) (Zv I) UL UL O) ?_;refine z4 ?_;refine UR ?_;rw[nN];refine UN ?_;refine bQ (Vg [15]) Zk (nZ ?_);refine UE 3 1 ?_;refine ZG 4 ?_;refine qM ?_;refine ZE 7 ?_;refine ZE 8 ?_;refine UE 9 0 ?_;refine UE 10 1 ?_;refine ZG 11 ?_;refine ZE 12 ?_;refine cP 13 Zk (V1 (λw hi=>hFr w (hi.get Zh) (cY (hi.get (UJ (sl .i64 3 (sA bs) N cs slot)))) (cY (hi.get (UJ (slv 415 3 (sA bv) N cv (fN 0 T)))))) ?_);refine UR ?_;refine UY 14 I (cn (j:=n) (sz:=1) (r:=n) I ir (Zv I) (Zv I) ir (λ_=>hn) O) ?_;refine cP 15 Zk (Nz ?_);refine UR ?_;rw[nN];refine fh ?_;refine Zt (bQ (Vg [19]) Zk ?_);refine qQ ?_;refine UE 4 2 ?_;refine ZG 5 ?_;refine wU ?_;refine UE 8 0 ?_;refine UE 9 1 ?_;refine ZG 10 ?_;refine ZE 11 ?_;refine UY 12 I (cn (j:=n) (sz:=1) (r:=n) I ir (Zv I) (Zv I) ir (λ_=>hn) O) ?_;refine Vn 13 I (bO ir py) (da Zh (cw hx)) ?_;refine UY 14 I (dy py py Zl) ?_;refine UY 15 I (CT py py I) ?_;refine ZE 16 ?_;refine UE 17 0 ?_;refine UE 18 2 ?_;refine cP 19 Zk (ξ ?_)
 rfl
end
end Go.Ink
namespace Go.Ink
open List renaming length→J
open IntKind renaming wrap→V9
open Go.RowKit Go.Proofs.Tryz
section
attribute [local irreducible] Ve bN
theorem LY(c:List II)(x:II):c.flatMap II.cells++[.i x.op,.i x.dst,.i x.a,.i x.b,.w x.imm]=(c++[x]).flatMap II.cells:=by simp
abbrev VL(b:Nat)(N:Int)(L:Lw)(X:Wq):List bJ:=[row b (D2 N L X) 351,slv 366 5 X.Ac (J L.code) X.cc (L.code.flatMap II.cells),sl .i64 3 X.Ad (J L.d.l) X.cd L.d.l,sl .i64 3 X.Ar (J L.r.l) X.cr L.r.l]
theorem vo(b:Nat)(N:Int)(L:Lw)(X:Wq)(hs:L.sm 1000)(op dst a b2 imm:Int):CI prog 291 [.p b,.agg #[.i op,.i dst,.i a,.i b2,.w imm]] (VL b N L X) (λv9 cs=>v9= .i L.here/\∃C A c,C=L.code++[⟨op,J L.code,a,b2,imm⟩]/\cs=VL b N ⟨C,L.d,L.r,L.flags,L.target,L.branch⟩ ⟨A,c,X.Ad,X.cd,X.Ar,X.cr⟩):=λw hi=>by
 have hc:=hs.code;obtain⟨Ac,cc,Ad,cd,Ar,cr⟩:=X;have hsn:=LY L.code ⟨op,J L.code,a,b2,imm⟩;dsimp only at hsn;refine Vb func291 ntmps291 hi ?_;refine An ?_;refine ZO λb3=>?_;refine fR ?_;refine ZL ?_;refine UN ?_;refine bQ (WM [8,12] (m5 b3 [.i op,.i (J L.code),.i a,.i b2,.w imm])) Zk (qQ ?_);refine UE 4 0 ?_;refine ZG 5 ?_;refine xg 6 I Zk Zk Zk (bX ir ir py) (λx hx=>gl x hx) (bP (t:=366) Zh) I (iK ?_);refine jm I I (nu I I ir ir I I I) (λ_=>by rintro _ _ ⟨b19,rfl,rfl⟩;exact bP (t:=366) Zh) I ?_;rintro _ _ ⟨b19,rfl,rfl⟩;refine gg ?_;refine jm I I (cC (e:=366) (sz:=5) (bytes:=40) I I Za I I (λw hi=>hi.rd (UJ (slv 366 5 (sA b19) 1 1 [.i op,.i (J L.code),.i a,.i b2,.w imm]))) (one5 _ _ _ _ _) gD O) (λ_=>by rintro _ _ ⟨A2,c2,rfl,rfl⟩;exact bP (t:=366) Zh) I ?_;rintro _ _ ⟨A2,c2,rfl,rfl⟩;rw[hsn,show J L.code+1=J (L.code++[(⟨op,J L.code,a,b2,imm⟩:II)]) by simp];refine ZE 9 ?_;refine UE 10 0 ?_;refine UE 11 0 ?_;refine cP 12 Zk (fq I I (mD ir I I I Za Zp) (λ_=>by refine UR ?_;exact bP (t:=366) Zh) ?_);refine UR ?_;refine fh ?_;refine U8 ?_;refine VA (VL b N ⟨L.code++[⟨op,J L.code,a,b2,imm⟩],L.d,L.r,L.flags,L.target,L.branch⟩ ⟨A2,c2,Ad,cd,Ar,cr⟩) ?_;exact⟨I,_,_,_,I,I⟩
theorem vn(b:Nat)(N:Int)(L:Lw)(X:Wq)(hs:L.sm 1000)(n:Int):CI prog 289 [.p b,.w n] (VL b N L X) (λv9 cs=>v9= .i L.here/\∃C A c,C=L.code++[⟨0,J L.code,0,0,n⟩]/\cs=VL b N ⟨C,L.d,L.r,L.flags,L.target,L.branch⟩ ⟨A,c,X.Ad,X.cd,X.Ar,X.cr⟩):=λw hi=>by
 refine Vb func289 ntmps289 hi ?_;refine eL ?_;refine dH (VL b N L X) (λw hi hin=>vo b N L X hs 0 0 0 0 n w hin) ?_;rintro _ _ ⟨rfl,C2,A2,c2,hC2,rfl⟩;refine UK ?_;refine VA (VL b N ⟨C2,L.d,L.r,L.flags,L.target,L.branch⟩ ⟨A2,c2,X.Ad,X.cd,X.Ar,X.cr⟩) ?_;exact⟨I,C2,A2,c2,hC2,I⟩
theorem Lp(b:Nat)(N:Int)(code:List II)(r:Sd)(l:Li)(x S2 high fl tg br:Int)(Ac:Oa)(cc:Nat)(Ad:Oa)(cd:Nat)(Ar:Oa)(cr:Nat)(hl:J l<=1000):CI prog 290 [.p b,.pointer (some ⟨b,14,none⟩)] (VL b N ⟨code,⟨l++[x],S2,high⟩,r,fl,tg,br⟩ ⟨Ac,cc,Ad,cd,Ar,cr⟩) (λv9 cs=>v9= .i x/\cs=VL b N ⟨code,⟨l,S2,high⟩,r,fl,tg,br⟩ ⟨Ac,cc,Ad,cd,Ar,cr⟩):=λw hi=>by
 have hrd:=cY (hi.get (show Vk _ (sl .i64 3 Ad (J (l++[x])) cd (l++[x]))from(.tail _ (.tail _ (.head _ _)))));have hcap:J (l++[x])<=cd:=hrd.cap;have hlen:J (l++[x])=J l+1:=by simp
 obtain⟨bd,rfl⟩:=dA (hi.get (show Vk _ (sl .i64 3 Ad (J (l++[x])) cd (l++[x]))from(.tail _ (.tail _ (.head _ _))))) O;refine Vb func290 ntmps290 hi ?_;refine Rx ?_;refine U8 ?_;refine bY I ((ap O)) (US ?_);refine Zy (cn (bb:=bd) (o:=0) (n:=J (l++[x])) (c:=cd) (j:=J l) (sz:=1) (r:=J l) I ir (Zv I) (Zv I) ir UL O) ?_;refine dZ (bO ir py) (da Zh (cw (i3 l x))) I (gP ?_);refine Zy (fc (A:=some ⟨bd,0,none⟩) (n:=J (l++[x])) (c:=cd) (J l) I ir (Zv I) (Zv I) ir UL) ?_;refine jO ?_;refine eL ?_;refine iA (c:=sl .i64 3 (sA bd) (J (l++[x])) cd (l++[x])) (c':=sl .i64 3 (sA bd) (J l) cd l) Za I (λw h=>mV h) (VA ([row _ _ _,slv _ _ _ _ _ _,slv _ _ _ _ _ _,slv _ _ _ _ _ _]) ?_);exact fx
theorem Lq(b:Nat)(N:Int)(code:List II)(r:Sd)(S2 high fl tg br:Int)(X:Wq)(hs:Lw.sm ⟨code,⟨[],S2,high⟩,r,fl,tg,br⟩ 999):CI prog 290 [.p b,.pointer (some ⟨b,14,none⟩)] (VL b N ⟨code,⟨[],S2,high⟩,r,fl,tg,br⟩ X) (λv9 cs=>v9= .i (J code)/\∃C A c,C=code++[⟨1,J code,0,0,V9 .u32 S2⟩]/\cs=VL b N ⟨C,⟨[],S2+1,high⟩,r,fl,tg,br⟩ ⟨A,c,X.Ad,X.cd,X.Ar,X.cr⟩):=λw hi=>by
 obtain⟨h1,h2⟩:=hs.dn;dsimp only at h1 h2;have hs2:Lw.sm ⟨code,⟨[],S2+1,high⟩,r,fl,tg,br⟩ 1000:=⟨by have:=hs.code;grind,by grind,by have:=hs.rl;grind,by grind,by have:=hs.rn;grind⟩;have hwr:V9 .i64 (S2+1 - 1)=S2:=by rw[bI];omega
 have hw1:V9 .i64 (S2+1)=S2+1:=by rw[bI];omega
 refine Vb func290 ntmps290 hi ?_;refine mv ?_;refine sa ?_;refine U8 ?_;refine lN ?_;refine Va ?_;refine Zy (dy py py hw1) ?_;refine jO ?_;refine UN ?_;refine bQ (Vg [12]) Zk (CA ?_);refine UE 3 3 ?_;refine qM ?_;refine UE 7 1 ?_;refine pS 4 8 Zk ?_ ?_
 .refine m4 ?_;refine gg ?_;refine Rp ?_;refine Et ?_;exact Wq157
 refine Rp ?_;refine cP 4 Zk (m4 ?_);refine Et ?_;exact Wq157
theorem Pz(b:Nat)(N:Int)(code:List II)(r:Sd)(l:Li)(S2 high fl tg br:Int)(X:Wq)(hl:J l<=1000)(hn:0<=S2/\S2<=1000):CI prog 292 [.pointer (some ⟨b,14,none⟩)] (VL b N ⟨code,⟨l,S2,high⟩,r,fl,tg,br⟩ X) (λ_ cs=>cs=VL b N ⟨code,⟨l,S2,max high ((J l:Int) - S2)⟩,r,fl,tg,br⟩ X):=λw hi=>by
 have hwt:V9 .i64 ((J l:Int) - S2)=(J l:Int) - S2:=by rw[bI];omega
 refine Vb func292 ntmps292 hi ?_;refine bQ (Vg [18]) Zk (NA ?_);refine UE 7 0 ?_;refine ZG 8 ?_;refine qS ?_;refine UE 12 1 ?_;refine ZG 13 ?_;refine Wq387 ?_;refine ξ ?_
 rfl
theorem Lm(b:Nat)(N:Int)(code:List II)(d:Sd)(l:Li)(x S2 high fl tg br:Int)(Ac:Oa)(cc:Nat)(Ad:Oa)(cd:Nat)(Ar:Oa)(cr:Nat)(hl:J l<=1000):CI prog 290 [.p b,.pointer (some ⟨b,18,none⟩)] (VL b N ⟨code,d,⟨l++[x],S2,high⟩,fl,tg,br⟩ ⟨Ac,cc,Ad,cd,Ar,cr⟩) (λv9 cs=>v9= .i x/\cs=VL b N ⟨code,d,⟨l,S2,high⟩,fl,tg,br⟩ ⟨Ac,cc,Ad,cd,Ar,cr⟩):=λw hi=>by
 have hrd:=cY (hi.get (show Vk _ (sl .i64 3 Ar (J (l++[x])) cr (l++[x]))from(.tail _ (.tail _ (.tail _ (.head _ _))))));have hcap:J (l++[x])<=cr:=hrd.cap;have hlen:J (l++[x])=J l+1:=by simp
 obtain⟨bd,rfl⟩:=dA (hi.get (show Vk _ (sl .i64 3 Ar (J (l++[x])) cr (l++[x]))from(.tail _ (.tail _ (.tail _ (.head _ _)))))) O;refine Vb func290 ntmps290 hi ?_;refine Rx ?_;refine U8 ?_;refine bY I ((ap O)) (US ?_);refine Zy (cn (bb:=bd) (o:=0) (n:=J (l++[x])) (c:=cr) (j:=J l) (sz:=1) (r:=J l) I ir (Zv I) (Zv I) ir UL O) ?_;refine dZ (bO ir py) (da Zh (cw (i3 l x))) I (gP ?_);refine Zy (fc (A:=some ⟨bd,0,none⟩) (n:=J (l++[x])) (c:=cr) (J l) I ir (Zv I) (Zv I) ir UL) ?_;refine jO ?_;refine eL ?_;refine iA (c:=sl .i64 3 (sA bd) (J (l++[x])) cr (l++[x])) (c':=sl .i64 3 (sA bd) (J l) cr l) Za I (λw h=>mV h) (VA ([row _ _ _,slv _ _ _ _ _ _,slv _ _ _ _ _ _,slv _ _ _ _ _ _]) ?_);exact fx
theorem Ln(b:Nat)(N:Int)(code:List II)(d:Sd)(S2 high fl tg br:Int)(X:Wq)(hs:Lw.sm ⟨code,d,⟨[],S2,high⟩,fl,tg,br⟩ 999):CI prog 290 [.p b,.pointer (some ⟨b,18,none⟩)] (VL b N ⟨code,d,⟨[],S2,high⟩,fl,tg,br⟩ X) (λv9 cs=>v9= .i (J code)/\∃C A c,C=code++[⟨2,J code,0,0,V9 .u32 S2⟩]/\cs=VL b N ⟨C,d,⟨[],S2+1,high⟩,fl,tg,br⟩ ⟨A,c,X.Ad,X.cd,X.Ar,X.cr⟩):=λw hi=>by
 obtain⟨h1,h2⟩:=hs.rn;dsimp only at h1 h2;have hs2:Lw.sm ⟨code,d,⟨[],S2+1,high⟩,fl,tg,br⟩ 1000:=⟨by have:=hs.code;grind,by have:=hs.dl;grind,by grind,by have:=hs.dn;grind,by grind⟩;have hwr:V9 .i64 (S2+1 - 1)=S2:=by rw[bI];omega
 have hw1:V9 .i64 (S2+1)=S2+1:=by rw[bI];omega
 refine Vb func290 ntmps290 hi ?_;refine mv ?_;refine sa ?_;refine U8 ?_;refine lN ?_;refine Va ?_;refine Zy (dy py py hw1) ?_;refine jO ?_;refine UN ?_;refine bQ (Vg [12]) Zk (CA ?_);refine UE 3 3 ?_;refine qM ?_;refine UE 7 1 ?_;refine pS 4 8 Zk ?_ ?_
 .refine m4 ?_;refine gg ?_;refine Rp ?_;refine Et ?_;exact Wq156
 refine Rp ?_;refine cP 4 Zk (m4 ?_);refine Et ?_;exact Wq156
theorem Py(b:Nat)(N:Int)(code:List II)(d:Sd)(l:Li)(S2 high fl tg br:Int)(X:Wq)(hl:J l<=1000)(hn:0<=S2/\S2<=1000):CI prog 292 [.pointer (some ⟨b,18,none⟩)] (VL b N ⟨code,d,⟨l,S2,high⟩,fl,tg,br⟩ X) (λ_ cs=>cs=VL b N ⟨code,d,⟨l,S2,max high ((J l:Int) - S2)⟩,fl,tg,br⟩ X):=λw hi=>by
 have hwt:V9 .i64 ((J l:Int) - S2)=(J l:Int) - S2:=by rw[bI];omega
 refine Vb func292 ntmps292 hi ?_;refine bQ (Vg [18]) Zk (NA ?_);refine UE 7 0 ?_;refine ZG 8 ?_;refine qS ?_;refine UE 12 1 ?_;refine ZG 13 ?_;refine Wq387 ?_;refine ξ ?_
 rfl
theorem tU(b:Nat)(N:Int)(L:Lw)(X:Wq)(hs:L.sm 999):CI prog 290 [.p b,.pointer (some ⟨b,14,none⟩)] (VL b N L X) (λv9 cs=>v9= .i (fO 1 L.code L.d).1/\∃C s A c,C=(fO 1 L.code L.d).2.1/\s=(fO 1 L.code L.d).2.2/\cs=VL b N ⟨C,s,L.r,L.flags,L.target,L.branch⟩ ⟨A,c,X.Ad,X.cd,X.Ar,X.cr⟩):=λw hi=>by
 have hl:=hs.dl;obtain⟨code,d,r,fl,tg,br⟩:=L;obtain⟨l,S2,high⟩:=d;obtain⟨Ac,cc,Ad,cd,Ar,cr⟩:=X;dsimp only at hl;rcases Nat.eq_zero_or_pos (J l) with h0|h0
 .obtain rfl:l=[]:=List.eq_nil_of_length_eq_zero h0;refine UW.mono (Lq b N code r S2 high fl tg br ⟨Ac,cc,Ad,cd,Ar,cr⟩ hs w hi) ?_;rintro v cs ⟨rfl,C,A,c,hC,rfl⟩;exact⟨I,C,_,A,c,hC,I,I⟩
 obtain⟨m,x,rfl⟩:=rh h0
 grind [fO,UW.mono,Lp]
theorem zp(b:Nat)(N:Int)(L:Lw)(X:Wq)(hs:L.sm 999):CI prog 290 [.p b,.pointer (some ⟨b,18,none⟩)] (VL b N L X) (λv9 cs=>v9= .i (fO 2 L.code L.r).1/\∃C s A c,C=(fO 2 L.code L.r).2.1/\s=(fO 2 L.code L.r).2.2/\cs=VL b N ⟨C,L.d,s,L.flags,L.target,L.branch⟩ ⟨A,c,X.Ad,X.cd,X.Ar,X.cr⟩):=λw hi=>by
 have hl:=hs.rl;obtain⟨code,d,r,fl,tg,br⟩:=L;obtain⟨l,S2,high⟩:=r;obtain⟨Ac,cc,Ad,cd,Ar,cr⟩:=X;dsimp only at hl;rcases Nat.eq_zero_or_pos (J l) with h0|h0
 .obtain rfl:l=[]:=List.eq_nil_of_length_eq_zero h0;refine UW.mono (Ln b N code d S2 high fl tg br ⟨Ac,cc,Ad,cd,Ar,cr⟩ hs w hi) ?_;rintro v cs ⟨rfl,C,A,c,hC,rfl⟩;exact⟨I,C,_,A,c,hC,I,I⟩
 obtain⟨m,x,rfl⟩:=rh h0
 grind [fO,UW.mono,Lm]
variable{L:Lw}{n:Nat}
theorem xq(h:L.sm n)(op a b i:Int):(L.add op a b i).sm (n+1):=⟨by have:=h.code;show(L.code++[_]).length<=_;simp;omega,aN h.dl O,aN h.rl O,⟨h.dn.1,by have:=h.dn.2;show L.d.S2<=_;omega⟩,⟨h.rn.1,by have:=h.rn.2;show L.r.S2<=_;omega⟩⟩
theorem sm_go(h:L.sm n)(op i next:Int):(L.go op i next).sm (n+10):=by
 unfold Lw.go Lw.reckon;cases op==1||op==2<;>simp only[ah,ac]
 case true=>exact(ri (xq h _ _ _ _) _ cJ).mono O
 cases op==3<;>simp only[ah,ac]
 case true=>exact(ri (sV h) _ cJ).mono O
 cases op==4<;>simp only[ah,ac]
 case true=>exact(sV h).mono O
 cases op==5<;>simp only[ah,ac]
 case true=>exact(ri (sV (sV h)) _ cJ).mono O
 cases op==6<;>simp only[ah,ac]
 case true=>exact(ri (sV (sV h)) _ cJ).mono O
 cases op==7<;>simp only[ah,ac]
 case true=>exact(Kf (sV h) _ cJ).mono O
 cases op==8<;>simp only[ah,ac]
 case true=>exact(ri (sm_pR h) _ cJ).mono O
 cases decide (16<=op)&&decide (op<=25)<;>simp only[ah,ac]
 case true=>
  cases op !=25<;>simp only[ah,ac]
  .exact(uN (xq (sV (sV h)) _ _ _ _) _ _ _).mono O
  exact(ri (xq (uN (xq (sV (sV h)) _ _ _ _) _ _ _) _ _ _ _) _ cJ).mono O
 cases op==38<;>simp only[ah,ac]
 case true=>exact(Kf (xq h _ _ _ _) _ cJ).mono O
 cases op==39<;>simp only[ah,ac]
 case true=>exact(uN (sm_pR h) _ _ _).mono O
 cases op==40<;>simp only[ah,ac]
 case true=>exact(uN (sV h) _ _ _).mono O
 cases decide (33<=op)&&decide (op<=37)<;>simp only[ah,ac]
 .exact h.mono O
 exact(uN h _ _ _).mono O
theorem Ll(b:Nat)(N:Int)(L:Lw)(X:Wq)(hs:L.sm 1000):CI prog 292 [.pointer (some ⟨b,14,none⟩)] (VL b N L X) (λ_ cs=>cs=VL b N ⟨L.code,L.d.top,L.r,L.flags,L.target,L.branch⟩ X):=λw hi=>Pz b N L.code L.r L.d.l L.d.S2 L.d.high L.flags L.target L.branch X hs.dl hs.dn w hi
theorem Lk(b:Nat)(N:Int)(L:Lw)(X:Wq)(hs:L.sm 1000):CI prog 292 [.pointer (some ⟨b,18,none⟩)] (VL b N L X) (λ_ cs=>cs=VL b N ⟨L.code,L.d,L.r.top,L.flags,L.target,L.branch⟩ X):=λw hi=>Py b N L.code L.d L.r.l L.r.S2 L.r.high L.flags L.target L.branch X hs.rl hs.rn w hi
end
end Go.Ink
namespace Go.Ink
open List renaming length→J, replicate→R9
open IntKind renaming wrap→V9
open Go.RowKit Go.Proofs.Tryz
section
attribute [local irreducible] Ve bN
theorem xm(b:Nat)(A:Oa)(c N:Nat)(pl:Li)(hN:J pl=N)(B:Oa)(cb:Nat)(l:Li)(hl:J l<=1000)(hin:∀n,n∈l->0<=n/\n.toNat<J pl)(w:World)(hi:Inv w (bM (plF b A c N pl)) (plF b A c N pl) w)(hR:∀w',dc (bM (plF b A c N pl)) w w'->Rd w' .i64 B (J l) cb l):
  UW prog 294 [.slice B (J l) cb,.p b] w (plF b A c N pl) (λv9 cs=>∃A' c',v9= .slice A' (J (dW pl l)) c'/\cs=plF b A c N pl++[sl .i64 3 A' (J (dW pl l)) c' (dW pl l)]):=by
 refine Vb func294 ntmps294 hi ?_;refine mv ?_;refine dB 3 1 (UU ?_);refine Vs (λq:Nat×List Int×Option Addr×Nat=>[(1,.p b),(4,.slice q.2.2.1 (J q.2.1) q.2.2.2),(7,.slice B (J l) cb),(8,.i (J l)),(9,.i (q.1:Int))]) (λq=>[row b [.slice A N c] 23,sl .i64 3 A N c pl,sl .i64 3 q.2.2.1 (J q.2.1) q.2.2.2 q.2.1]) (λq=>q.1<=J l/\q.2.1=dW pl (l.take q.1)) (λq=>J l - q.1) (⟨0,[],none,0⟩) ⟨ax _,I⟩ ?_;rintro⟨k,m,A1,c1⟩ ⟨hk,hm⟩;dsimp only at hk hm|-;have hml:J m=k:=(by rw[hm];unfold dW;grind);refine UH ?_ ?_<;>intro hc3
 .simp only[ai]at hc3;have hkl:k<J l:=O;obtain⟨ad,had⟩:=(hR w (dc.refl _ _)).some_ O;have hR2:∀w',dc (bM (plF b A c N pl)) w w'->U5 w' 1 (some ad) (J l) cb (ints .i64 l):=(λw' hk=>had▸hR w' hk);obtain⟨x,hx⟩:∃x,l[k]? =some x:=⟨_,ak hkl⟩;obtain⟨hx0,hx1⟩:=hin x (aG hx);obtain⟨n,rfl⟩:∃n:Nat,x=n:=aj hx0;rw[aV]at hx1;obtain⟨bs,rfl⟩:=dA (hi.get (UJ (sl .i64 3 A N c pl))) O;have hm2:dW pl (l.take (k+1))=m++[pl.getD n 0]:=(by rw[List.take_add_one,hx,hm];unfold dW;simp_all);refine UU ?_;refine Q4 ?_;refine dZ (bO ir py) (oA (v:= .i n) hR2 (cw hx)) I (US ?_);refine Zy (cn (bb:=bs) (o:=0) (n:=N) (c:=c) (j:=n) (sz:=1) (r:=n) I ir (Zv I) (Zv I) ir UL O) ?_;refine dZ (bO ir py) (da Zh (jK hx1)) I (jQ ?_);rintro _ _ ⟨b18,rfl,rfl⟩;refine gS (cC (n:=J m) (e:=3) (sz:=1) (bytes:=8) I I Za I I (λw hi=>hi.rd (UJ (slv 3 1 (sA b18) 1 1 (ints .i64 [pl.getD n 0])))) cR gD O) I ?_;rintro _ _ ⟨A2,c2,rfl,rfl⟩;rw[cy,show J m+1=J (m++[pl.getD n 0]) by simp];refine j5 ?_;refine Vd ((⟨k+1,m++[pl.getD n 0],A2,c2⟩:Nat×List Int×Option Addr×Nat)) bZ
 simp only[aa]at hc3;obtain rfl:k=J l:=by omega
 rw[List.take_length]at hm;subst hm;refine fR ?_;refine tI ?_;exact pP
end
end Go.Ink
