/- Lemmas. -/
import Derived.Test.YtepfimeihngjoaaGreatDoorXal
import Derived.Test.YtepfimeihngjoaaGreatDoorXam
import Derived.Test.YtepfimeihngjoaaGreatDoorXan
import Derived.Test.YtepfimeihngjoaaGreatDoorXao
set_option linter.all false
set_option maxRecDepth 100000
set_option maxHeartbeats 4000000
namespace Go.Ink
open List renaming length→J, replicate→R9
open IntKind renaming wrap→V9
open Go.RowKit Go.Proofs.Tryz
variable{i:Nat}
theorem Vc.calm{n:Nat}{M:UO}(h:Vc n M):Vc n M.calm:=⟨h.m.calm,h.n1,h.n64,λj _=>by
 show(R9 64 false).getD j false=false;rw[aS,List.getElem?_replicate];split<;>rfl⟩
variable{n:Nat}
theorem G0{t:List Bool}(hn:n<=64)(h:∀j,n<=j->t.getD j false=false):ee (t.take n) n=ee t 64:=by
 unfold ee;have e1:(List.range n).filter (λf=>(t.take n).getD f false)=(List.range n).filter (λf=>t.getD f false):=List.filter_congr λj hj=>by
  rw[List.mem_range]at hj;rw[aS,aS,List.getElem?_take,if_pos hj]
 rw[e1];have e2:∀m,(List.range (n+m)).filter (λf=>t.getD f false)=(List.range n).filter (λf=>t.getD f false):=λm=>by
  induction m with
  |zero=>rfl
  |succ m ih=>
   rw[<-Nat.add_assoc,List.range_succ,List.filter_append,ih];simp only[List.filter_cons,h (n+m) O,List.filter_nil];simp
 have:=e2 (64 - n);rw[show n+(64 - n)=64 by omega]at this;rw[this]
section
attribute [local irreducible] Ve bN
theorem Du(K:gi)(n:Nat)(M:UO)(hM:Vc n M)(w:World)(h:(AZ K n).ok w)(h2:(slv 4 1 (sA K.bT) n n (lH (M.SX.take n))).ok w):
  UW prog 168 [.p K.bm] w [] (λv cs=>∃A c,v= .slice A (J (ee M.SX 64)) c/\cs=[sl .i64 3 A (J (ee M.SX 64)) c (ee M.SX 64)]):=by
 have hn:=hM.n64;have htl:=hM.m.tl;have hr:U5 w 1 (sA K.bT) n n (lH (M.SX.take n)):=cY h2;have hat:∀k,k<n->(M.SX.take n)[k]? =some ((M.SX.take n).getD k false):=λk hk=>by
  rw[aS,ak I0]
  rfl
 rw[<-G0 hn hM.hi];obtain⟨tu,htu⟩:=Do (M.SX.take n);rw[htu]at hr hat|-;refine UV func168 ntmps168 ?_;refine mv ?_;refine dB 3 1 (UK ?_);refine Vs (λs:Nat×Option Addr×Nat=>[(0,.p K.bm),(3,.slice s.2.1 (J (ee tu s.1)) s.2.2),(4,.i (s.1:Int))]) (λs=>[sl .i64 3 s.2.1 (J (ee tu s.1)) s.2.2 (ee tu s.1)]) (λs=>s.1<=n) (λs=>n - s.1) ((0,none,0)) (ax _) ?_;rintro⟨k,A1,c1⟩ hk;simp only at hk;dsimp only;refine US ?_;refine I1 ?_;refine WK ?_ ?_<;>intro hc3
 .simp only[ai]at hc3;have hle:=ES tu k;have hkn:k<n:=O;have hb:=hat k hkn;obtain⟨bk,hbk⟩:=Do (tu.getD k false);rw[hbk]at hb;refine U8 ?_;refine I1 ?_;refine ZA ?_;refine GA ?_;refine dZ (bO ir py) (dK hr (zT hb)) I (An ?_);refine ZW ?_ ?_<;>intro hc5
  .have he:ee tu (k+1)=ee tu k++[(k:Int)]:=by rw[oe,hbk,hc5];rfl
   refine UN ?_;refine jQ ?_;rintro _ _ ⟨b23,rfl,rfl⟩;refine gS (cC (e:=3) (sz:=1) (bytes:=8) I I Za I I (λw hi=>hi.rd Zh) (jR I) gD O) I ?_;rintro _ _ ⟨A2,c2,rfl,rfl⟩;rw[show(ee tu k).length+1=J (ee tu (k+1)) by(rw[he];simp),show ints .i64 (ee tu k)++[Value.i (k:Int)]=ints .i64 (ee tu (k+1)) by(rw[he];exact cy _ [_])];refine UU ?_;refine W8 ?_;refine VM ((k+1,A2,c2)) ⟨by show k+1<=n;omega,by show n - (k+1)<n - k;omega⟩
  have he:ee tu (k+1)=ee tu k:=by(rw[oe,hbk,hc5];simp)
  rw[<-he];refine j5 ?_;refine VM ((k+1,A1,c1)) ⟨by show k+1<=n;omega,by show n - (k+1)<n - k;omega⟩
 simp only[aa]at hc3;obtain rfl:k=n:=by omega
 refine fR ?_;exact Nq
theorem Hp(K:gi)(n:Nat)(M:UO)(hM:Vc n M):CI prog 165 [.p K.bm] (V6 K n M) (λv cs=>v= .tuple #[]/\cs=V6 K n M.calm):=λw hi=>by
 have hn:=hM.n64;have htl:=hM.m.tl;have e:M.calm.SX.take n=R9 n false:=by show(R9 64 false).take n=_;rw[List.take_replicate,Nat.min_eq_left hn]
 have hcl:∀k,k<n->(R9 k false++(M.SX.take n).drop k).set k false=R9 (k+1) false++(M.SX.take n).drop (k+1):=λk hk=>by
  rw[List.set_append_right _ _ cJ,az,Nat.sub_self,List.drop_eq_getElem_cons (show k<J (M.SX.take n) by rw[aO];omega),List.set_cons_zero,List.replicate_succ',aw]
  rfl
 have hend:R9 n false++(M.SX.take n).drop n=R9 n false:=by rw[List.drop_eq_nil_of_le I0,aD]
 have hbeg:M.SX.take n=R9 0 false++(M.SX.take n).drop 0:=by simp
 unfold V6;rw[e];obtain⟨tu,htu⟩:=Do (M.SX.take n);rw[htu]at hcl hend hbeg;have hi':Inv w (bM (nD K n M.data tu)) (nD K n M.data tu) w:=htu▸hi;rw[htu];rw[hbeg]at hi';refine xQ func165 I ntmps165 I hi' (UU ?_);refine Vs (λk:Nat=>[(0,.p K.bm),(2,.i (k:Int))]) (λk=>nD K n M.data (R9 k false++tu.drop k)) (λk=>k<=n) (λk=>n - k) (0) (ax _) ?_;rintro k hk;refine fR ?_;refine ZW ?_ ?_<;>intro hc1
 .simp only[ai]at hc1;have hkn:k<n:=O;refine eL ?_;refine Yj ?_;refine UR ?_;rw[wh,hcl k hkn];refine j5 ?_;refine VM (k+1) ⟨by show k+1<=n;omega,by show n - (k+1)<n - k;omega⟩
 simp only[aa]at hc1;obtain rfl:k=n:=O;rw[hend];refine UK ?_;refine NJ ?_;exact fx
variable{va:Nat}
variable{x:Value}{T:List TE}
theorem Ho(bx bm:Nat)(T:List TE)(hT:J T=16)(va:Nat)(hva:va<=4294967295):CI prog 282 [.p bx,.w va] [fv bx bm T] (λx cs=>x= .tuple #[]/\cs=[fv bx bm (pv T va)]):=λw hi=>by
 have hlt:va/64%16<J T:=by omega
 have he:T[va/64%16]? =some (xl T va):=by simp[xl,hlt]
 have hcell:=Qx (x:= .p bm) he;unfold pv;obtain⟨e,hee⟩:=Do (xl T va);rw[hee]at hcell|-;refine Vb func282 ntmps282 hi ?_;refine UN ?_;refine Jn ?_;refine Zy (fG (Zv I) (Zv I) O (show _=((va/64%16:Nat):Int)from by rw[aq O];omega)) ?_;refine U8 ?_;refine κ ?_;refine Zy (EI 1 I py (I)) ?_;refine dZ (bO ir py) (cT Zh hcell) I (ZA ?_);refine Jn ?_;refine VP ?_ ?_<;>intro hc1
 .rw[hc1];refine ix ?_;refine UU ?_;refine κ ?_;refine eA (gb (n:=4) (vs:=TE.zero.cells) ir I I (jR I) Za I (by rw[aE,eG];simp only[TE.cells,aE,bD];omega)) ?_;refine UR ?_;rw[show J TE.zero.cells=4 from I,Gj (T:=T) TE.zero hlt];exact WZ
 rw[hc1];refine fE ?_;refine Zc (io (cs':=[row _ _ _]) (.inr I) Zu I ?_);exact fx
theorem Dy(bx bm:Nat)(T:List TE)(hT:J T=16):CI prog 281 [.p bx] [fv bx bm T] (λx cs=>x= .tuple #[]/\cs=[fv bx bm cX]):=λw hi=>by
 refine Vb func281 ntmps281 hi ?_;refine An ?_;refine Zy (ip (vs:=dG cX) Zk (.inr ⟨_,_,_,I,λ_=>I⟩)) ?_;refine An ?_;refine eA (gb (n:=64) ir I I (jR Zk) Za Zk (by rw[aE,eG,eG,hT];decide)) ?_;refine UR ?_;rw[show(dG cX).length=64 by kernel_rfl,show(Value.p bm::dG T).take 1=[Value.p bm]from I,List.drop_eq_nil_of_le (by rw[aE,eG,hT];decide),aD];exact WZ
end
end Go.Ink
namespace Go.Ink
open List renaming length→J
open IntKind renaming wrap→V9
open Go.RowKit Go.Proofs.Tryz
set_option maxHeartbeats 1000000
variable{x:Int}
variable{r:Int}
variable{n:Int}
section
attribute [local irreducible] Ve bN
theorem Hm(br:Nat)(X:dz)(R:UG)(dv:Bool)(op n:Int)(hnu:u32 n)(h32:32<=op)(h40:op<=40)(hd:J R.s.d<=100000)(hr:J R.s.r<=100000)(hn:(bV op).1.1<=J R.s.d)(hnr:(bV op).2.1<=J R.s.r):CI prog 214 [.p br,.agg #[.i op,.w n]] (VY br X R.s dv) (λv cs=>∃X',v= .tuple #[]/\cs=VY br X' (bW op n R).2.s dv):=λw hi=>by
 obtain⟨Ad,cd,Ar,cr⟩:=X;have hno:(decide (16<=op)&&decide (op<=25))=false:=by rw[Bool.and_eq_false_iff,aa,aa];omega
 have HH:=Dw op R.s.flags;obtain⟨⟨go,gk⟩,hgo⟩:=Do (df op R.s.flags);rw[hgo]at HH;have HS:=Hi n hnu;have hth:V9 .u32 (R.s.pc+jN n)=gq R n:=rfl;refine Vb func214 ntmps214 hi ?_;refine An ?_;refine ZO λb3=>?_;refine fR ?_;refine jf ?_;refine UE 0 0 ?_;refine ZG 1 ?_;refine ZE 2 ?_;refine ZE 3 ?_;refine UE 4 3 ?_;refine ZG 5 ?_;refine cP 6 Zk (V1 (λw hi=>HH w) ?_);refine UR ?_;refine ZE 7 ?_;refine ZE 8 ?_;refine qS ?_;refine tC ?_;refine cj (λq:Bool×dz×UG=>[(0,.p br),(3,.p b3),(4,.w R.s.pc),(5,.bool q.1)]) (λq=>VY br q.2.1 q.2.2.s dv++[row b3 [.i op,.w n] 51]) (λq=>(bW op n R).2.s=(bif q.1 then(q.2.2.wpc (gq R n)).s else q.2.2.s)) ?_ ?_
 .refine Ab ?_ ?_<;>intro hc4
  .obtain rfl:=hH hc4;obtain⟨R,l,x,rfl⟩:=UG.Ue (show 1<=J R.s.r from hnr);have hst:(bW 39 n (R.wr (l++[x]))).2=(R.wr l).wpc x:=(by show((R.wr (l++[x])).Ty).wpc (R.wr (l++[x])).topR=_;rw[UG.popR_wr,UG.topR_wr]);have hlen:J (l++[x])=J l+1:=cJ;have hdl:(R.wr (l++[x])).s.r.length=J l+1:=hlen;refine eC (λw hi=>dA (hi.get (UJ (Vj (R.wr (l++[x])).s Ar cr))) (show 0<J (l++[x]) by omega)) (λhA=>?_);obtain⟨bd,rfl⟩:=hA;refine eC (λw hi=>(eO (hi.get (UJ (Vj (R.wr (l++[x])).s (sA bd) cr)))).cap) (λhcap=>?_);have hcap:J (l++[x])<=cr:=hcap;have hcap2:J (l++[x])<=(dz.mk Ad cd (some ⟨bd,0,none⟩) cr).cr:=hcap;refine Zs (bQ (Vg [15]) Zk ?_);refine NA ?_;refine UE 7 2 ?_;refine ZG 8 ?_;refine SL ?_;refine Wq452 ?_;refine ZQ ?_;refine pk ?_;refine bQ (Vg [14]) Zk (NA ?_);refine UE 7 2 ?_;refine ZG 8 ?_;refine SL ?_;refine UY 11 I (fc (J l) I ir (Zv I) (Zv I) qR UL) ?_;refine ZE 12 ?_;refine UE 13 2 ?_;refine ku ?_;refine iT ?_;refine UK ?_;refine Η ?_;refine io (cs':=[row _ _ _,slv _ _ _ _ _ _,slv _ _ _ _ _ _]) (.inl I) Zu I ?_;rw[hst];exact⟨⟨Ad,cd,some ⟨bd,0,none⟩,cr⟩,I,I⟩
  refine UH ?_ ?_<;>intro hc7
  .obtain rfl:=hH hc7;obtain⟨R,l,x,rfl⟩:=UG.snoc (show 1<=J R.s.d from hn);have hst:(bW 40 n (R.wd (l++[x]))).2=(R.wd l).wpc x:=(by show((R.wd (l++[x])).pop).wpc (R.wd (l++[x])).top=_;rw[UG.pop_wd,UG.top_wd]);have hlen:J (l++[x])=J l+1:=cJ;have hdl:(R.wd (l++[x])).s.d.length=J l+1:=hlen;refine eC (λw hi=>dA (hi.get (UJ (Vf (R.wd (l++[x])).s Ad cd))) (show 0<J (l++[x]) by omega)) (λhA=>?_);obtain⟨bd,rfl⟩:=hA;refine eC (λw hi=>(eO (hi.get (UJ (Vf (R.wd (l++[x])).s (sA bd) cd)))).cap) (λhcap=>?_);have hcap:J (l++[x])<=cd:=hcap;have hcap2:J (l++[x])<=(dz.mk (some ⟨bd,0,none⟩) cd Ar cr).cd:=hcap;refine Zs (bQ (Vg [15]) Zk ?_);refine zX ?_;refine qM ?_;refine UE 7 1 ?_;refine ZG 8 ?_;refine SL ?_;refine Wq452 ?_;refine ZQ ?_;refine pk ?_;refine bQ (Vg [14]) Zk (zX ?_);refine qM ?_;refine UE 7 1 ?_;refine ZG 8 ?_;refine SL ?_;refine UY 11 I (fc (J l) I ir (Zv I) (Zv I) qR UL) ?_;refine ZE 12 ?_;refine UE 13 1 ?_;refine ku ?_;refine iT ?_;refine UK ?_;refine Ru ?_;refine io (cs':=[row _ _ _,slv _ _ _ _ _ _,slv _ _ _ _ _ _]) (.inl I) Zu I ?_;rw[hst];exact⟨⟨some ⟨bd,0,none⟩,cd,Ar,cr⟩,I,I⟩
  refine UH ?_ ?_<;>intro hc10
  .obtain rfl:=hH hc10;refine Va ?_;refine jQ ?_;rintro _ _ ⟨b93,rfl,rfl⟩;refine gS (cC (e:=32) (sz:=1) (bytes:=4) I I Za I I (λw hi=>hi.rd (UJ (slv 32 1 (sA b93) 1 1 (ints .u32 [R.s.pc])))) cR gD O) I ?_;rintro _ _ ⟨A',c',rfl,rfl⟩;refine jO ?_;refine UU ?_;refine sC ((true,⟨Ad,cd,A',c'⟩,R.Ul R.s.pc)) ?_ ?_ ?_
   .exact I
   .exact Xq
   exact(show z9 (VY br ⟨Ad,cd,A',c'⟩ (R.wr (R.s.r++[R.s.pc])).s dv++[row b3 [.i 38,.w n] 51]) _ from by simp only[VY,AY,Vf,Vj,ar,cy,aE,bD,bC];exact Zj)
  refine UH ?_ ?_<;>intro hc13
  .obtain rfl:=hH hc13;refine UK ?_;refine Vd ((true,⟨Ad,cd,Ar,cr⟩,R)) I
  have hst:bW op n R=(gk,bif go then R.wpc (gq R n)else R):=(by unfold bW;rw[hno,hc4,hc7,hc10,hc13,hgo];rfl);refine An ?_;refine Vd ((go,⟨Ad,cd,Ar,cr⟩,R)) ?_;dsimp only;rw[hst];cases go<;>rfl
 rintro⟨g,X',R'⟩ hq;dsimp only at hq|-;rw[hq];refine Wh ?_ ?_<;>intro hc15
 .subst hc15;refine UQ ?_;refine UZ (λw hi=>HS w) ?_;refine Zy (dy py py hth) ?_;refine jO ?_;refine Zn (io (cs':=[row _ _ _,slv _ _ _ _ _ _,slv _ _ _ _ _ _]) (.inr I) Zu I ?_);exact⟨X',I,I⟩
 subst hc15;refine Zc (io (cs':=[row _ _ _,slv _ _ _ _ _ _,slv _ _ _ _ _ _]) (.inr I) Zu I ?_);exact⟨X',I,I⟩
section
variable{n:Nat}{R:UG}{U U':UI}{d:UF}{va:Nat}{p:Nat}{tr:Tr}
theorem Ij(h:(((va%4:Nat):Int) !=0)=true):eP n R U d va=⟨R.wt ⟨6,va⟩,U,d⟩:=by
 unfold eP cu;rw[h]
 rfl
theorem D4(h:(((va%4:Nat):Int) !=0)=false)(hp:SR n U R.sp va 2=(((p:Int),tr),U'))(hc:(tr.SU !=0)=true):eP n R U d va=⟨R.wdv tr false,U',d⟩:=by
 have e:(tr.SU==0)=false:=by simpa using hc
 unfold eP cu;rw[h,hp];simp only[ac,e,Bool.not_false,ah,bo]
theorem Lv(h:(((va%4:Nat):Int) !=0)=false)(hp:SR n U R.sp va 2=(((p:Int),Tr.none),U')):eP n R U d va=bif decide ((32768:Int)<=(p:Int))then gX ⟨(p:Int),true,R.wdv Tr.none true,U'⟩ (cE d (je p) R.count).2 va (cE d (je p) R.count).1.1 (cE d (je p) R.count).1.2 else gX ⟨(p:Int),true,R.wdv Tr.none false,U'⟩ d va (iW n U'.m p).1 (iW n U'.m p).2:=by
 have e:(Tr.none.SU==0)=true:=rfl;unfold eP cu;exact Wx86_
end
end
end Go.Ink
namespace Go.Ink
open List renaming length→J, replicate→R9
open IntKind renaming wrap→V9
open Go.RowKit Go.Proofs.Tryz
section
attribute [local irreducible] Ve bN
section
theorem xk:ee (R9 64 false) 64=[]:=by rfl
end
variable{w0:World}{S:List Nat}{cs:List bJ}{n b:Nat}
theorem Kh{e sz c:Nat}{ad:Addr}{xs vs:List Value}(hc:Vk cs (slv e sz (some ad) n c xs))(hv:∀j v,vs[j]? =some v->xs[b+j]? =some v):∀w,Inv w0 S cs w->cells (fa (ad.add b) 0 vs) w:=λw hi=>
 jM λj v hj=>by
  rw[Nat.add_zero];exact(hi.rd hc).at_ ad I (b+j) v (hv j v hj)
def lI(n:Nat)(s:St)(U:UI)(d:UF):w8:=
 let q:=SR n U s.space s.pc.toNat 1
 bif q.1.2.SU !=0 then⟨s.next.S3 q.1.2.SU q.1.2.addr,0,false,q.2,d⟩else⟨s,q.1.1,true,q.2,d⟩
def cI(n:Nat)(s:St)(U:UI)(d:UF):w8:=
 bif !s.right||s.halted then⟨s,0,false,U,d⟩else lI n (told s (d.tick s.count)) U (d.tick s.count)
variable{w:World}
theorem Oz{j:Nat}{a:Int}(ht:iU w0)(h:wG[j]? =some a):∀w,Inv w0 [] cs w->cells [(⟨0,0+j*1,none⟩,.int .u8 a)] w:=by
 have h5:=dK (w0:=w0) (cs:=cs) ht (cw h);rw[Addr.add_lit]at h5;exact h5
theorem tz_ok(x k:Nat)(h0:0<x)(h:x<256)(hk:jJ x=some k)(w:World)(ht:iU w):CW prog 180 [.w (x:Int)] w (.i (k:Int)):=by
 obtain⟨k',j,e1,e5,e2,e3,e4⟩:=JJ h0 h;obtain rfl:k'=k:=aF (e1.symm.trans hk);refine UV func180 ntmps180 ?_;refine fR ?_;refine cK I ((bF.2 O)) (UU ?_);refine Zy (y_neg py I) ?_;refine ZA ?_;refine Zy (fT py py I) ?_;refine Zy (jT (Zv I) (Zv I) O (show _=(j:Int)from e2)) ?_;refine Zy (dj (j:=j) (sz:=1) (r:=0+j*1) I ir (Zv I) (Zv I) UL UL O) ?_;refine dZ (bO ir py) (Oz ht e4) I (wo ?_);exact mZ
theorem Ip(b x:Nat)(p m:Int)(hx:bits .and .u32 p m=(x:Int))(h256:x<256)(w:World)(h:(rE b p m).ok w)(ht:iU w):
  CW prog 141 [.p b] w (.tuple #[.i (((jJ x).getD 0:Nat):Int),.bool (jJ x).isSome]):=by
 refine UV func141 ntmps141 ?_;refine US ?_;refine jf ?_;refine nZ ?_;refine ε ?_;refine ZE 5 ?_;refine UE 6 1 ?_;refine Wq502 ?_;refine fh ?_;refine Wp ?_ ?_<;>intro hc2
 .obtain rfl:x=0:=(by have:=hH hc2;omega);rw[PB];refine Va ?_;exact oW
 have hx0:0<x:=(by have:=ne_of_beq_false hc2;omega);obtain⟨k,j,e1, -⟩:=JJ hx0 h256;have HT:=tz_ok x k hx0 h256 e1;rw[e1];refine UQ ?_;refine UZ (λw hi=>HT w (ht.old hi)) ?_;refine UQ ?_;exact oW
theorem tick_ok(D:qV)(bm:Nat)(X:dJ)(d:UF)(count:Int):CI prog 140 [.p D.bs,.int .u64 count] (my D bm X d) (λv cs=>v= .tuple #[]/\cs=my D bm X (d.tick count)):=λw hi=>by
 obtain⟨c,hc⟩:=Do (((d.timer==0)||decide (V9 .u32 count<d.timer)));have HD:=due_ok D.bti d.timer count;have HR:=λA c w hi h=>mg D.bi d.S7 d.mask A c [0] (λx hx=>by simp at hx;omega) w hi h
 rw[hc]at HD;rw[lines0]at HR;refine Vb func140 ntmps140 hi ?_;refine US ?_;refine Vq ([On D.bti d.timer]) (λw hi hin=>HD w hin) ?_;refine An ?_;refine ZW ?_ ?_<;>intro hc0
 .obtain rfl:c=false:=(by cases c with|false=>rfl|true=>cases hc0);have ht:d.tick count={d with timer:=0,S7:=bits .or .u32 d.S7 1}:=(by unfold UF.tick;rw[hc];rfl);rw[ht];refine UQ ?_;refine jQ ?_;rintro _ _ ⟨b14,rfl,rfl⟩;refine Vq ([rE D.bi d.S7 d.mask]) (λw hi hin=>HR (sA b14) 1 w hin (λw' hk=>hi.TU Zi (UJ (slv 3 1 (sA b14) 1 1 (ints .i64 [0]))) hk)) ?_;refine Zn (bK (my D bm X {d with timer:=0,S7:=bits .or .u32 d.S7 1}) Zj ?_);exact Wq420
 obtain rfl:c=true:=(by cases c with|true=>rfl|false=>cases hc0);have ht:d.tick count=d:=(by unfold UF.tick;rw[hc];rfl);rw[ht];refine Zc (bK (my D bm X d) Zj ?_);exact Wq420
variable{op:Int}
variable{M:UO}{p:Nat}
abbrev qK(b:w8)(X:dz):List Value:=b.s.cells (.slice X.Ad (J b.s.d) X.cd) (.slice X.Ar (J b.s.r) X.cr)++[.w b.place,.bool b.runs]
theorem Hc(L:fF)(M:UO)(p:Nat)(hp:L.n<=p)(w:World)(h:(fM L M).ok w):CW prog 144 [.p L.bm,.i p] w (.tuple #[.slice none 0 0,.bool false]):=by
 obtain⟨n1,n64,hdl,hdb,htl⟩:=mY h;obtain⟨k0,hr0,h1,h2,h3,h4⟩:=qp h;refine UV func144 ntmps144 ?_;refine Wq233 ?_;refine Vz ?_;refine UK ?_;refine bY I ((by rw[ap (show(L.n:Int)<=p by omega)];rfl)) (Va ?_);exact oW
theorem set_wd(s:St)(l1 l2:Li)(nn v:Int):(((s.wd l2).set nn v).1).wd l1=((s.wd l1).set nn v).1:=by
 have key:∀c (a b a' b':St×Bool),a.1.wd l1=a'.1->b.1.wd l1=b'.1->(bif c then a else b:St×Bool).1.wd l1=(bif c then a' else b':St×Bool).1:=λc a b a' b' h1 h2=>by cases c<;>assumption
 exact Wx91_
def ReU(br:Nat)(K:gi)(bx n:Nat)(m:eu)(v:Value)(cs:List bJ):Prop:=
 ∃X' x',v= .tuple #[.i m.r.S3.SU,.w m.r.S3.addr]/\cs=VY br X' x' m.r.device++VD K bx n m.u/\(m.r.S3.SU=0->x'=m.r.s)
variable{nn:Int}
variable{R:UG}{U:UI}{d:UF}
section
variable{n:Nat}{op nn:Int}{R:UG}{U:UI}{d:UF}{c:Int}
theorem OE:cV op nn (R.wc c)=(cV op nn R).map (·.wc c):=by
 have key:∀b (x y x' y':Option UG),x=x'.map (·.wc c)->y=y'.map (·.wc c)->(bif b then x else y)=(bif b then x' else y').map (·.wc c):=λb x y x' y' h1 h2=>by cases b<;>assumption
 unfold cV;refine SM ?_;refine SM ?_;exact key _ _ _ _ _ I I
theorem EP(va:Nat)(kind:Int):cu n (R.wc c) U va kind=⟨(cu n R U va kind).p,(cu n R U va kind).ok,(cu n R U va kind).r.wc c,(cu n R U va kind).u⟩:=by
 unfold cu;cases(((va%4:Nat):Int) !=0)<;>rfl
theorem lode_wc(va:Nat):eP n (R.wc c) U d va=(eP n R U d va).wc c:=by
 unfold eP;rw[EP];obtain⟨⟨p,ok,r,u⟩,hq⟩:=Do (cu n R U va 2);rw[hq];have hin:∀(d':UF) (v:Int) (o:Bool),gX ⟨p,ok,r.wc c,u⟩ d' va v o=(gX ⟨p,ok,r,u⟩ d' va v o).wc c:=λd' v o=>by unfold gX;cases o<;>rfl
 cases hok:ok with
 |false=>rfl
 |true=>
  rw[hok]at hin;show(bif r.device then gX ⟨p,true,r.wc c,u⟩ (cE d (je p.toNat) r.count).2 va (cE d (je p.toNat) r.count).1.1 (cE d (je p.toNat) r.count).1.2 else gX ⟨p,true,r.wc c,u⟩ d va (iW n u.m p.toNat).1 (iW n u.m p.toNat).2)=eu.wc (bif r.device then gX ⟨p,true,r,u⟩ (cE d (je p.toNat) r.count).2 va (cE d (je p.toNat) r.count).1.1 (cE d (je p.toNat) r.count).1.2 else gX ⟨p,true,r,u⟩ d va (iW n u.m p.toNat).1 (iW n u.m p.toNat).2) c;rw[hin,hin];cases r.device<;>rfl
theorem set_wc(s:St)(v:Int):((s.Ts c).set nn v).1=((s.set nn v).1).Ts c:=by
 have key:∀b (x y x' y':St×Bool),x.1=x'.1.Ts c->y.1=y'.1.Ts c->(bif b then x else y:St×Bool).1=(bif b then x' else y':St×Bool).1.Ts c:=λb x y x' y' h1 h2=>by cases b<;>assumption
 exact Wx91_
end
def Qh(s x:St)(m:eu):WP×UI×UF:=
 (⟨bif m.r.S3.SU !=0 then s.next.S3 m.r.S3.SU m.r.S3.addr else x.next,m.r.S3.SU !=0,m.r.device,ee m.u.m.SX 64⟩,m.u,m.d)
end
end Go.Ink
namespace Go.Ink
open List renaming length→J
open IntKind renaming wrap→V9
open Go.RowKit Go.Proofs.Tryz
variable{x:Nat}
variable{m:Int}
variable{n:Nat}{s:St}{U:UI}{d:UF}
theorem rT(h:(!s.right||s.halted)=true):cI n s U d=⟨s,0,false,U,d⟩:=by
 unfold cI;rw[h]
 rfl
variable{s1:St}{d1:UF}
theorem rU(h:(!s.right||s.halted)=false)(hd:d.tick s.count=d1)(hs:told s d1=s1):cI n s U d=lI n s1 U d1:=by
 unfold cI;rw[h,hd,hs]
 rfl
variable{k:Nat}
section
attribute [local irreducible] Ve bN
section
variable{n:Nat}{op nn:Int}{U:UI}{d:UF}{M:UO}{R:UG}
theorem Ih(h:d.lines)(va:Nat):(eP n R U d va).d.lines:=by
 unfold eP;refine IW ?_;exact bL (λm:eu=>m.d.lines) (zO h _ _) h
theorem Ot(h:d.ok)(c:Int):(d.tick c).ok/\(d.tick c).out=d.out:=by
 unfold UF.tick;exact bL (λq:UF=>q.ok/\q.out=d.out) ⟨h,I⟩ ⟨⟨h.wf.re I I I I,dY .or d.S7 1,h.mask,u0,h.status⟩,I⟩
theorem jz(hM:M.ok n){p:Nat}{op nn:Int}{z:Nat}(h:dL n M p=some ((op,nn),z)):u32 nn/\1<=z/\z<=5/\p/64<n/\p%64+z<=64:=by
 unfold dL at h;cases h1:decide (p/64<n)with
 |false=>rw[h1]at h;cases h
 |true=>
  rw[h1,ah]at h;obtain⟨a,b,c,e⟩:=nU (λx hx=>hM.db x (bE (aM (bE hx)))) h;refine⟨a,b,c,by simpa using h1,?_⟩;rw[List.length_drop,aO]at e;omega
end
structure VN(n:Nat)(s:St)(U:UI)(d:UF):Prop where
 wf:s.wf
 right:s.right=true
 u:Wz n U
 dv:d.ok
 lines:d.lines
section
variable{n:Nat}{s:St}{d:UF}
structure BegOk(n:Nat)(s:St)(d:UF)(b:w8):Prop where
 g:VN n b.s b.u b.d
 place:u32 b.place
 out:b.d.out=d.out
 runs:b.runs=true->b.s.count=s.count/\b.s.halted=s.halted/\s.halted=false
 stays:b.runs=false->s.halted=false->b.s.count=V9 .u64 (s.count+1)/\b.s.halted=false
 held:s.halted=true->b=⟨s,0,false,b.u,b.d⟩
structure NT(n k:Nat)(s:St)(d:UF)(q:St×UI×UF):Prop where
 g:VN n q.1 q.2.1 q.2.2
 out:J q.2.2.out<=J d.out+k
 count:∃j:Nat,j<=k/\(1<=k->1<=j)/\q.1.count=V9 .u64 (s.count+(j:Int))
end
variable{from_:Int}{q:St×UI×UF}
structure CJ(n:Nat)(m from_:Int)(o0 i:Nat)(q:St×UI×UF):Prop where
 g:VN n q.1 q.2.1 q.2.2
 out:J q.2.2.out<=o0+8*i
 cnt:∃c:Nat,V9 .u64 (q.1.count - from_)=(c:Int)/\i<=c/\c<=8*i/\(c:Int)<(bif decide (0<m)then m else 0)+8
end
end Go.Ink
namespace Go.Ink
open List renaming length→J
open IntKind renaming wrap→V9
open Go.RowKit
theorem JT(w:Lw):j7 w w.S5:=⟨Int.le_refl _,Int.le_refl _,Int.le_max_left _ _,Int.le_max_left _ _⟩
variable{a:Nat}
section
variable{C l:List HI}{k:Nat}{R W:Li}{M:HM}
variable{j:Nat}{l':List HI}
variable{ra:Nat}
theorem UP.beqz(h:UP C k (⟨16,0,(ra:Int),0,(j:Int)⟩::l) R W M)(hl:C.drop j=l'):R.getD ra 0≠0/\UP C (k+1) l R W M\/R.getD ra 0=0/\UP C j l' R W M:=by
  by_cases h0:R.getD ra 0=0
  . refine Or.inr ⟨h0,h.on ?_ h.rl h.wl hl⟩
    show(0,(⟨R,W,bif(R.getD ((ra:Int)).toNat 0==0)==true then(j:Int)else(k:Int)+1⟩:HM))=_
    grind
  refine Or.inl ⟨h0,h.on ?_ h.rl h.wl h.code.2.2⟩;show(0,(⟨R,W,bif(R.getD ((ra:Int)).toNat 0==0)==true then(j:Int)else(k:Int)+1⟩:HM))=_
  grind
end
section
variable{C l:List HI}{k:Nat}{R W:Li}{M:HM}{pl:Pl}{T:Li}
variable{n:Nat}
theorem UP.outs{V:Li}{N base B from_:Nat}(hp:NU pl T N)(hV:We V)(hbase:base=13\/base=14)(hfr:from_=4\/from_=20):∀(out:Li) (j:Nat) (k:Nat) (R W:Li),UP C k (zi pl base from_ out j++l) R W M->
  (∀n,n∈out->0<=n/\n<N/\(N:Int)<=T.getD n.toNat 0)->B+j+J out<=16->R.getD base 0=(B:Int)->R.getD 15 0=0->GD pl T V N R W->
  ∃k' R' W',UP C k' l R' W' M/\la [7] R R'/\(∀i,(i<from_+B+j\/from_+B+j+J out<=i)->W'.getD i 0=W.getD i 0)/\(∀i,i<J out->W'.getD (from_+B+j+i) 0=V.getD (out.getD i 0).toNat 0)
 |[],j,k,R,W,h,ho,hB,hb,h15,hh=>⟨k,R,W,h,la.refl _ _,λ_ _=>I,λi hi=>absurd hi cJ⟩
 |n::out,j,k,R,W,h,ho,hB,hb,h15,hh=>by
  obtain⟨n0,n1,n2⟩:=ho n cJ;have en:((n.toNat:Nat):Int)=n:=by omega
  have hn:=hp.has n.toNat O;have hl:=hh n.toNat O n2;rw[en]at hn hl;have hB':B+j+(J out+1)<=16:=hB;have h:UP C k (kr pl n 7++(⟨15,0,(base:Int),eQ pl n 7,V9 .u32 ((from_:Int)+V9 .u32 (j:Int))⟩::(zi pl base from_ out (j+1)++l))) R W M:=by
   have e:zi pl base from_ (n::out) j++l=kr pl n 7++(⟨15,0,(base:Int),eQ pl n 7,V9 .u32 ((from_:Int)+V9 .u32 (j:Int))⟩::(zi pl base from_ out (j+1)++l)):=by
    show(kr pl n 7++(_::zi pl base from_ out (j+1)))++l=_;rw[aw,aU]
   rwa[e]at h
  obtain⟨r,hr,hr2⟩:=mO hn (into:=7) O;have hr:eQ pl n 7=(r:Int):=hr;obtain⟨v,hv,hv2⟩:=nj hV n.toNat;rw[hv]at hl;obtain⟨k1,R1,g1,g2,g3⟩:=UP.get (into:=7) h hn O hr h15 hl;rw[hr]at g1;have hb1:R1.getD base 0=(B:Int):=by rw[g3 base ig,hb]
  have g4:=UP.st (ra:=base) (rb:=r) (p:=from_+B+j) (v:=(v:Int)) g1 (by grind [IntKind.wrap_u32,IntKind.wrap_u64]) O (by grind [IntKind.wrap_u32]);have hold:GD pl T V N R1 (W.set (from_+B+j) v):=λa ha ht=>by
   have h1:=hh a ha ht;have h2:=hp.has a ha;refine⟨λhi=>?_,λhi=>?_⟩
   .rw[g3 _ ?_];exact h1.1 hi;rcases h2 with⟨-,q⟩|⟨q, -⟩
    .grind
    grind
   rw[cM O];exact h1.2 hi
  obtain⟨k2,R2,W2,q1,q2,q3,q4⟩:=UP.outs hp hV hbase hfr out (j+1) _ R1 _ g4 (λm hm=>ho m (by simp[hm])) O hb1 (by rw[g3 15 ne,h15]) hold;have hw:=h.wl;refine⟨k2,R2,W2,q1,g3.trans q2 bZ,λi hi=>?_,λi hi=>?_⟩
  .grind [cM]
  cases i with
  |zero=>
   grind [de]
  |succ i=>
   grind
theorem UP.stack{V:Li}{N base B from_ word:Nat}{out:Li}(hp:NU pl T N)(hV:We V)(hbase:base=13\/base=14)(hfr:from_=4\/from_=20)(hw:word=2\/word=3)(h:UP C k (jg pl base from_ word out++l) R W M)
  (ho:∀n,n∈out->0<=n/\n<N/\(N:Int)<=T.getD n.toNat 0) (hB:B+J out<=16) (hb:R.getD base 0=(B:Int)) (h15:R.getD 15 0=0) (hh:GD pl T V N R W):
  ∃k' R' W',UP C k' l R' W' M/\la [7,11] R R'/\(∀i,i≠word->(i<from_+B\/from_+B+J out<=i)->W'.getD i 0=W.getD i 0)/\(∀i,i<J out->W'.getD (from_+B+i) 0=V.getD (out.getD i 0).toNat 0)/\W'.getD word 0=((B+J out:Nat):Int)/\GD pl T V N R' W':=by
 have h:UP C k (zi pl base from_ out 0++(⟨1,11,0,0,V9 .u32 (J out:Int)⟩::⟨3,11,11,(base:Int),0⟩::⟨15,0,15,11,(word:Int)⟩::l)) R W M:=by
  have e:jg pl base from_ word out++l=zi pl base from_ out 0++(⟨1,11,0,0,V9 .u32 (J out:Int)⟩::⟨3,11,11,(base:Int),0⟩::⟨15,0,15,11,(word:Int)⟩::l):=by
   unfold jg;simp only[aw,aU,aR]
  rwa[e]at h
 obtain⟨k1,R1,W1,g1,g2,g3,g4⟩:=UP.outs hp hV hbase hfr out 0 k R W h ho O hb h15 hh;have hl:=g1.rl;have hl2:=g1.wl;have a1:=UP.li (rd:=11) g1;have a2:=UP.op (rd:=11) (ra:=11) (rb:=base) (v:=((B+J out:Nat):Int)) a1 ne ne (by
  rw[de O,cM O,g2 base ig,hb];show V9 .u64 (V9 .u32 (J out:Int)+(B:Int))=_;rw[au,aP];omega)
 have a3:=UP.st (ra:=15) (rb:=11) (p:=word) (v:=((B+J out:Nat):Int)) a2 (by rw[cM ne,cM ne,g2 15 ne,h15,aP];omega) O (by grind [de,IntKind.wrap_u32]);refine⟨_,_,_,a3,?_,λi h1 h2=>?_,λi hi=>?_,de O,λa ha ht=>?_⟩
 .intro j hj;simp only[aI,aY,or_false,not_or]at hj;rw[cM O,cM O,g2 j ig]
 .grind
 .grind [cM]
 have h1:=hh a ha ht;have h2:=hp.has a ha;refine⟨λhi=>?_,λhi=>?_⟩
 .have q1:0<=pl.r a:=by unfold Pl.inR at hi;simpa using hi
  have q2:pl.r a<7:=by rcases h2 with⟨-,q⟩|⟨q, -⟩;exact q;rw[hi]at q;cases q
  rw[cM O,cM O,g2 _ (nm1 O)];exact h1.1 hi
 rw[cM O,g3 _ O];exact h1.2 hi
end
end Go.Ink
namespace Go.Ink
open List renaming length→J, replicate→R9
open IntKind renaming wrap→V9
open Go.RowKit
def kp(W:Li)(from_:Nat)(l:Li):Nat->List Int
 |0=>W
 |k+1=>(kp W from_ l k).set (from_+k) (l.getD k 0)
def TB(s:St):List Int:=(kp (kp (((((R9 256 (0:Int)).set 0 s.pc).set 1 s.flags).set 2 (J s.d:Int)).set 3 (J s.r:Int)) 4 s.d 16) 20 s.r 16).set 36 0
theorem mf(W:Li)(f:Nat)(l:Li):∀k,J (kp W f l k)=J W
 :=by intro y1;induction y1<;>simp_all [kp]
theorem FF(W:Li)(f:Nat)(l:Li):∀k,f+k<=J W->∀j,j<k->(kp W f l k).getD (f+j) 0=l.getD j 0
 :=by intro y1;induction y1<;>grind [kp,de,mf,cM]
theorem kR(W:Li)(f:Nat)(l:Li):∀k,∀j,(j<f\/f+k<=j)->(kp W f l k).getD j 0=W.getD j 0
 :=by intro y1;induction y1<;>grind [kp,cM]
theorem Fq(s:St):J (TB s)=256:=by unfold TB;simp[mf]
theorem O4(s:St):(TB s).getD 0 0=s.pc/\(TB s).getD 1 0=s.flags/\(TB s).getD 2 0=J s.d/\(TB s).getD 3 0=J s.r:=by
 unfold TB;refine⟨?_,?_,?_,?_⟩
 .rw[cM ne,kR _ _ _ _ _ O,kR _ _ _ _ _ O,cM ne,cM ne,cM ne];grind
 .rw[cM ne,kR _ _ _ _ _ O,kR _ _ _ _ _ O,cM ne,cM ne];grind
 .grind [cM,kR,de]
 grind [cM,kR,de]
theorem Sb(s:St)(j:Nat)(hj:j<16):(TB s).getD (4+j) 0=s.d.getD j 0:=by
 unfold TB;rw[cM O,kR _ _ _ _ _ O];exact FF _ _ _ _ cJ j hj
theorem Sa(s:St)(j:Nat)(hj:j<16):(TB s).getD (20+j) 0=s.r.getD j 0:=by
 unfold TB;rw[cM O];exact FF _ _ _ _ (by simp[mf]) j hj
def Pg.Ua(p:Pg)(V:Li)(f0:Int):Int:=bif decide (0<=p.flags)then V.getD p.flags.toNat 0%16 else f0
def Pg.TW(p:Pg)(V:Li)(f:Int):Int:=bif decide (0<=p.target)then V.getD p.target.toNat 0 else bif(df p.branch f).1 then p.taken else p.next
section
variable{C l:List HI}{k:Nat}{R W:Li}{M:HM}{pl:Pl}{T V:Li}{N:Nat}
theorem UP.take7{n:Int}(hp:NU pl T N)(hV:We V)(h:UP C k (kr pl n 7++l) R W M)(h15:R.getD 15 0=0)(hh:GD pl T V N R W)(hn:0<=n/\n<N/\(N:Int)<=T.getD n.toNat 0):
  ∃k' R' r,UP C k' l R' W M/\eQ pl n 7=(r:Nat)/\r<9/\R'.getD r 0=V.getD n.toNat 0/\la [7] R R':=by
 obtain⟨n0,n1,n2⟩:=hn;have en:((n.toNat:Nat):Int)=n:=by omega
 have h1:=hp.has n.toNat O;have h2:=hh n.toNat O n2;rw[en]at h1 h2;obtain⟨r,hr,hr2⟩:=mO h1 (into:=7) O
 grind [eQ,UP.get]
theorem QP{v:Nat}(hv:v<4294967296):bits .and .u64 15 (v:Int)=(v:Int)%16:=by
 have h1:=Ng (a:=15) (b:=v) ne O;rw[show((15:Nat):Int)=15 from I]at h1;rw[h1,Nat.and_comm,show(15:Nat)=2^4 - 1 from I,Nat.and_two_pow_sub_one_eq_mod];omega
theorem LN{op f:Int}(hop:33<=op/\op<=37)(hf:0<=f/\f<=15):(df op f).1=(bif j4 op then bits .and .u64 f (ib op) !=0 else bits .and .u64 f (ib op)==0):=by
 obtain⟨n,rfl⟩:∃n:Nat,f=n:=aj hf.1;obtain⟨h1,h2,h3,h4⟩:=Qb n O;have h:op=33\/op=34\/op=35\/op=36\/op=37:=by omega
 rcases h with rfl|rfl|rfl|rfl|rfl
 .show(bits .and .u32 (n:Int) 1 !=0)=(bits .and .u64 (n:Int) 1 !=0);rw[h1]
 .show(bits .and .u32 (n:Int) 1==0)=(bits .and .u64 (n:Int) 1==0);rw[h1]
 .show(bits .and .u32 (n:Int) 4 !=0)=(bits .and .u64 (n:Int) 4 !=0);rw[h3]
 .show(bits .and .u32 (n:Int) 2 !=0)=(bits .and .u64 (n:Int) 2 !=0);rw[h2]
 show(bits .and .u32 (n:Int) 8 !=0)=(bits .and .u64 (n:Int) 8 !=0);rw[h4]
theorem UP.flagsEnd{p:Pg}{f0:Int}(hp:NU pl T N)(hV:We V)(h:UP C k (gY p pl++l) R W M)(h15:R.getD 15 0=0)(hh:GD pl T V N R W)(hf:0<=p.flags->p.flags<N/\(N:Int)<=T.getD p.flags.toNat 0)(h1:W.getD 1 0=f0):
  ∃k' R' W',UP C k' l R' W' M/\la [7,11] R R'/\W'.getD 1 0=p.Ua V f0/\∀i,i≠1->W'.getD i 0=W.getD i 0:=by
 unfold gY at h;unfold Pg.Ua;by_cases hd:0<=p.flags
 .rw[ap hd]at h|-;have h:UP C k (⟨1,11,0,0,15⟩::(kr pl p.flags 7++(⟨5,11,11,eQ pl p.flags 7,0⟩::⟨15,0,15,11,1⟩::l))) R W M:=by
   have e:(⟨1,11,0,0,15⟩::(kr pl p.flags 7++[⟨5,11,11,eQ pl p.flags 7,0⟩,⟨15,0,15,11,1⟩]))++l=(⟨1,11,0,0,15⟩::(kr pl p.flags 7++(⟨5,11,11,eQ pl p.flags 7,0⟩::⟨15,0,15,11,1⟩::l)):List HI):=by simp
   rw[ah,e]at h;exact h
  have g0:=UP.li (rd:=11) h;obtain⟨k1,R1,r,g1,g2,g3,g4,g5⟩:=UP.take7 hp hV g0 bZ (hh.mono hp (λj hj=>cM O) (λ_ _=>I)) ⟨hd,(hf hd).1,(hf hd).2⟩;obtain⟨v,v1,v2⟩:=nj hV p.flags.toNat;rw[g2]at g1;have hl:=h.rl;have a1:=UP.op (rd:=11) (ra:=11) (rb:=r) (v:=(v:Int)%16) g1 ne ne (by rw[g5 11 ne,de O,g4,v1];exact QP v2);have a2:=UP.st (ra:=15) (rb:=11) (p:=1) (v:=(v:Int)%16) a1 (by rw[cM ne,g5 15 ne,cM ne,h15];rfl) ne (by rw[de (by rw[g1.rl];decide),au];omega);refine⟨_,_,_,a2,?_,?_,λi hi=>cM (λe=>hi e.symm)⟩
  .intro j hj;simp only[aI,aY,or_false,not_or]at hj;rw[cM O,g5 j ig,cM O]
  grind [de,h.wl]
 grind [la.refl]
theorem UP.UD{p:Pg}{pos:Nat}{f:Int}(h:UP C k (iJ p pos++l) R W M)(hk:p.branch≠0->k=pos)(hps:pos<=100000)(h15:R.getD 15 0=0)(hf:0<=f/\f<=15)(h1:W.getD 1 0=f)(h9:R.getD 9 0=p.next)(hb:p.branch=0\/(33<=p.branch/\p.branch<=37)):
  ∃k' R',UP C k' l R' W M/\R'.getD 9 0=(bif(df p.branch f).1 then p.taken else p.next)/\la [9,11,12] R R':=by
 unfold iJ at h;rcases hb with hb|hb
 .rw[hb]at h|-;exact⟨k,R,h,h9,la.refl _ _⟩
 rw[show(p.branch !=0)=true by simp;omega,ah]at h;have hk:=hk O;have hl:=h.rl;have a1:=UP.ld (rd:=11) (ra:=15) (p:=1) h (by rw[h15];rfl) ne;have a2:=UP.li (rd:=12) a1;rw[h1]at a2;have hbit:=LN hb hf;obtain⟨q,hq⟩:=Do (bits .and .u64 f (ib p.branch));rw[hq]at hbit;have a3:=UP.op (rd:=11) (ra:=11) (rb:=12) (v:=q) a2 ne ne (by rw[cM ne,de O,de bZ];exact hq);have e11:(((R.set 11 f).set 12 (ib p.branch)).set 11 q).getD 11 0=q:=de bZ;have e9:(((R.set 11 f).set 12 (ib p.branch)).set 11 q).getD 9 0=p.next:=by rw[cM ne,cM ne,cM ne,h9]
 have ew:V9 .u32 (((pos+3:Nat):Int)+2)=((pos+5:Nat):Int):=by rw[au];omega
 rw[ew]at a3;have hdrop:C.drop (pos+5)=l:=by
  have:=h.at_;rw[hk]at this;have h5:=congrArg (List.drop 5) this;rw[List.drop_drop]at h5;exact h5
 have same:la [9,11,12] R (((R.set 11 f).set 12 (ib p.branch)).set 11 q):=by
  intro j hj;simp only[aI,aY,or_false,not_or]at hj;rw[cM O,cM O,cM O]
 have goOn:∀{k2:Nat},UP C k2 (⟨1,9,0,0,p.taken⟩::l) (((R.set 11 f).set 12 (ib p.branch)).set 11 q) W M->(df p.branch f).1=true->∃k' R',UP C k' l R' W M/\R'.getD 9 0=(bif(df p.branch f).1 then p.taken else p.next)/\la [9,11,12] R R':=λg he=>by
  refine⟨_,_,UP.li (rd:=9) g,?_,same.trans (la.set _ 9 _ (e:=[9]) cJ) bZ⟩
  grind
 have stay:UP C (pos+5) l (((R.set 11 f).set 12 (ib p.branch)).set 11 q) W M->(df p.branch f).1=false->∃k' R',UP C k' l R' W M/\R'.getD 9 0=(bif(df p.branch f).1 then p.taken else p.next)/\la [9,11,12] R R':=λg he=>
  ⟨_,_,g,by grind,same⟩
 cases hs:j4 p.branch with
 |true=>
  rw[hs]at a3 hbit;have a4:=UP.beqz (ra:=11) a3 hdrop;rw[e11]at a4;rcases a4 with⟨c,g⟩|⟨c,g⟩
  .exact goOn g bZ
  grind
 |false=>
  rw[hs]at a3 hbit;have a4:=UP.bnez (ra:=11) a3 hdrop;rw[e11]at a4;rcases a4 with⟨c,g⟩|⟨c,g⟩
  .exact goOn g bZ
  grind
end
section
variable{pl:Pl}
theorem Nj(op rd a b:Int):J (yc op rd a b)<=3:=by grind [yc,zk,Si]
theorem Qa(op a b:Int):J (mP op a b)<=21:=by
 have h:=Nj op 9 a b;unfold mP gf;cases op==16 with
 |true=>simp[kX,ic,iD,wO];omega
 |false=>
  grind [kW,ic,iD,wO]
theorem oneL_le(nd nr:Int)(n:Int)(x:II):J (rA nd nr pl n x)<=25:=by
 grind [PP,eQ,zD,Nj,Qa,rA]
theorem Pv(nd nr:Int):∀(c:List II) (n:Nat),J (ko nd nr pl c n)<=25*J c
 :=by intro y1;induction y1<;>grind [oneL_le,rA,ko]
theorem endL_le(p:Pg)(pos:Nat):J (tY p pl pos)<=20:=by
 have h1:J (gY p pl)<=4:=by
  unfold gY;have:=zD (pl:=pl) p.flags 7;cases decide (0<=p.flags)with
  |true=>simp;omega
  |false=>simp
 have h2:∀q,J (iJ p q)<=5:=λq=>by grind [iJ]
 grind [jW,zD,gY,tY]
theorem work_le{p:Pg}(hn:J p.code<=64)(hD:J p.S9<=16)(hR:J p.Ta<=16):J (jc p pl)<=2000:=by
 grind [Pv,outL_le,jc,jg]
end
variable{T:Li}{pl:Pl}
theorem yv{n a:Int}(h0:0<=n)(h1:n.toNat<J T):a<=(gn T n a).getD n.toNat 0:=by
 grind [gn,de]
theorem p5:∀(l:Li) (T:Li) (a:Int),∀n,n∈l->0<=n->n.toNat<J T->a<=(j8 T l a).getD n.toNat 0
 |[],_,_,n,hn,_,_=>by cases hn
 |m::l,T,a,n,hn,h0,h1=>by
  show a<=(j8 (gn T m a) l a).getD n.toNat 0;have hl:=(kg T m a).1;rcases aI.1 hn with rfl|hn
  .exact Int.le_trans (yv h0 h1) ((jE l (gn T n a) a).2 _)
  exact p5 l (gn T m a) a n hn h0 O
theorem vl:∀(c:List II) (k:Nat) (T:Li) (i:Nat) (x:II),c[i]? =some x->lM x=true->(0<=x.a/\x.a.toNat<J T)->(0<=x.b/\x.b.toNat<J T)->
  ((k+i:Nat):Int)<=(fD c k T).getD x.a.toNat 0/\((k+i:Nat):Int)<=(fD c k T).getD x.b.toNat 0
 |[],_,_,i,x,h,_,_,_=>by cases h
 |y::c,k,T,0,x,h,hx,ha,hb=>by
  obtain rfl:y=x:=by grind
  have e:fD (y::c) k T=fD c (k+1) (gn (gn T y.a k) y.b k):=by
   show fD c (k+1) (bif lM y then _ else _)=_;rw[hx];rfl
  have h1:=(kg T y.a k).1;have h2:=kQ c (k+1) (gn (gn T y.a k) y.b k);have h3:=yv (T:=T) (a:=k) ha.1 ha.2;have h4:=yv (T:=gn T y.a k) (a:=k) hb.1 O;have h5:=(kg (gn T y.a k) y.b k).2 y.a.toNat;rw[e,Nat.add_zero];exact⟨Int.le_trans h3 (Int.le_trans h5 (h2.2 _)),Int.le_trans h4 (h2.2 _)⟩
 |y::c,k,T,i+1,x,h,hx,ha,hb=>by
  have hl:J (bif lM y then gn (gn T y.a k) y.b k else T)=J T:=by
   cases lM y with
   |true=>exact((kg T y.a k).trans (kg _ y.b k)).1
   |false=>rfl
  have:=vl c (k+1) (bif lM y then gn (gn T y.a k) y.b k else T) i x bZ hx ⟨ha.1,by omega⟩ ⟨hb.1,by omega⟩;rw[show k+1+i=k+(i+1) by omega]at this;exact this
variable{n i:Nat}
theorem PT(h:i<n):(Wa n).getD i 0=i:=by
 grind [Wa]
theorem Ly(p:Pg){i:Nat}(h:i<J p.code):(i:Int)<=(gx p).getD i 0:=by
 have h1:=((kQ p.code 0 (Wa (J p.code))).trans (zq p)).2 i
 grind [PT]
theorem Lx(p:Pg){n:Nat}{x:II}(h:p.code[n]? =some x)(hx:lM x=true)(ha:0<=x.a/\x.a<J p.code)(hb:0<=x.b/\x.b<J p.code):(n:Int)<=(gx p).getD x.a.toNat 0/\(n:Int)<=(gx p).getD x.b.toNat 0:=by
 have h1:=vl p.code 0 (Wa (J p.code)) n x h hx ⟨ha.1,by rw[qr];omega⟩ ⟨hb.1,by rw[qr];omega⟩;rw[bC]at h1;exact⟨Int.le_trans h1.1 ((zq p).2 _),Int.le_trans h1.2 ((zq p).2 _)⟩
theorem qq(p:Pg){n:Int}(h:n∈p.S9\/n∈p.Ta\/n=p.flags\/n=p.target)(h0:0<=n/\n<J p.code):(J p.code:Int)<=(gx p).getD n.toNat 0:=by
 have l0:J (fD p.code 0 (Wa (J p.code)))=J p.code:=by rw[(kQ _ _ _).1,qr]
 have l1:=(jE p.S9 (fD p.code 0 (Wa (J p.code))) (J p.code)).1;have u2:=jE p.Ta (j8 (fD p.code 0 (Wa (J p.code))) p.S9 (J p.code)) (J p.code);have l2:=u2.1;have u3:=jE [p.flags,p.target] (j8 (j8 (fD p.code 0 (Wa (J p.code))) p.S9 (J p.code)) p.Ta (J p.code)) (J p.code);rcases h with h|h|h
 .exact Int.le_trans (p5 p.S9 _ _ n h h0.1 O) ((u2.trans u3).2 _)
 .exact Int.le_trans (p5 p.Ta _ _ n h h0.1 O) (u3.2 _)
 exact p5 [p.flags,p.target] _ _ n bZ h0.1 O
theorem oK{place:Li}(hi:i<J place)(h:place.getD i 0=(fX T place n:Nat)):nH T i n=false:=by
 cases hm:nH T i n with
 |false=>rfl
 |true=>
  have:=(AK T place n (fX T place n) (J place)).2 ⟨i,hi,h,hm⟩;rw[(rI T place n).1]at this;cases this
structure SInv(T:Li)(Tu:Int)(N n:Nat)(pl:Pl):Prop where
 rl:J pl.reg=N
 sl:J pl.slot=N
 had:∀i,i<n->(0<=pl.reg.getD i 0/\pl.reg.getD i 0<Tu/\pl.slot.getD i 0= -1)\/(pl.reg.getD i 0= -1/\0<=pl.slot.getD i 0/\pl.slot.getD i 0<=N)
 new:∀i,n<=i->i<N->pl.reg.getD i 0= -1/\pl.slot.getD i 0= -1
 reg:∀i j,i<j->j<n->0<=pl.reg.getD i 0->pl.reg.getD i 0=pl.reg.getD j 0->T.getD i 0<=j
 slot:∀i j,i<j->j<n->0<=pl.slot.getD i 0->pl.slot.getD i 0=pl.slot.getD j 0->T.getD i 0<=j
theorem sinv0(T:Li)(Tu:Int)(N:Nat):SInv T Tu N 0 (jH T Tu N 0):=
 ⟨by simp[jH],by simp[jH],λi hi=>absurd hi O,λi _ hi=>by
  constructor<;>(show(R9 N (-1:Int)).getD i 0= -1;rw[aS,List.getElem?_replicate_of_lt hi];rfl),λi j _ hj=>absurd hj O,λi j _ hj=>absurd hj O⟩
theorem Ki{Tu:Int}{N:Nat}(hT:∀i,i<N->(i:Int)<=T.getD i 0)(h:SInv T Tu N n pl)(hn:n<N):SInv T Tu N (n+1) (qh T Tu pl n):=by
 have hrl:=h.rl;have hsl:=h.sl;obtain⟨nr,ns⟩:=h.new n (aK _) hn;unfold qh;by_cases hr:((fX T pl.reg n:Nat):Int)<Tu
 .rw[ap hr,ah];refine⟨by simp[hrl],hsl,λi hi=>?_,λi h1 h2=>?_,λi j hij hj h0 he=>?_,λi j hij hj h0 he=>?_⟩
  .by_cases e:i=n
   .subst e;refine Or.inl ?_;dsimp only;rw[de O];exact⟨by omega,hr,ns⟩
   dsimp only;rw[cM (λx=>e x.symm)];exact h.had i O
  .dsimp only;rw[cM O];exact h.new i O h2
  .dsimp only at h0 he;by_cases ej:j=n
   .subst ej;rw[cM O,de O]at he;exact DZ (oK O he) hij (hT j hn)
   rw[cM O,cM O]at he;rw[cM O]at h0;exact h.reg i j hij O h0 he
  by_cases ej:j=n
  .subst ej;dsimp only at h0 he;rw[ns]at he;omega
  exact h.slot i j hij O h0 he
 rw[ao hr,ac];rcases vk T pl.reg n n with hl|⟨l1,l2,l3⟩
 .rw[hl,show(n !=n)=false by simp,ac];unfold lB;have hf:=rI T pl.slot n;refine⟨by simp[hrl],by simp[hsl],λi hi=>?_,λi h1 h2=>?_,λi j hij hj h0 he=>?_,λi j hij hj h0 he=>?_⟩
  .dsimp only;by_cases e:i=n
   .subst e;refine Or.inr ?_;rw[de O,de O];exact⟨I,by omega,by omega⟩
   rw[cM (λx=>e x.symm),cM (λx=>e x.symm)];exact h.had i O
  .dsimp only;rw[cM O,cM O];exact h.new i O h2
  .dsimp only at h0 he;rw[cM O]at he h0;by_cases ej:j=n
   .subst ej;rw[de O]at he;omega
   rw[cM O]at he;exact h.reg i j hij O h0 he
  dsimp only at h0 he;rw[cM O]at he h0;by_cases ej:j=n
  .subst ej;rw[de O]at he;exact DZ (oK O he) hij (hT j hn)
  rw[cM O]at he;exact h.slot i j hij O h0 he
 obtain⟨lg,hlg⟩:=Do (gu T pl.reg n n);rw[hlg]at l1 l2 l3|-;rw[show(lg !=n)=true by simp;omega,ah];have hm:(n:Int)<T.getD lg 0:=by
  unfold nH at l3;simp only[Bool.or_eq_true,ay,ai,beq_iff_eq]at l3;omega
 obtain⟨hreg,hlt,hslot⟩:0<=pl.reg.getD lg 0/\pl.reg.getD lg 0<Tu/\pl.slot.getD lg 0= -1:=by
  rcases h.had lg l1 with q|⟨q, -⟩
  .exact q
  exact absurd q l2
 unfold lB;have hf:=rI T pl.slot lg;have er:∀i,i≠lg->i≠n->((pl.reg.set n (pl.reg.getD lg 0)).set lg (-1)).getD i 0=pl.reg.getD i 0:=λi h1 h2=>by rw[cM (λe=>h1 e.symm),cM (λe=>h2 e.symm)]
 have ern:((pl.reg.set n (pl.reg.getD lg 0)).set lg (-1)).getD n 0=pl.reg.getD lg 0:=by rw[cM O,de O]
 have erl:((pl.reg.set n (pl.reg.getD lg 0)).set lg (-1)).getD lg 0= -1:=de (by rw[List.length_set];omega);have es:∀i,i≠lg->(pl.slot.set lg ((fX T pl.slot lg:Nat):Int)).getD i 0=pl.slot.getD i 0:=λi h1=>cM (λe=>h1 e.symm)
 have esl:(pl.slot.set lg ((fX T pl.slot lg:Nat):Int)).getD lg 0=(fX T pl.slot lg:Nat):=de O;refine⟨by simp[hrl],by simp[hsl],λi hi=>?_,λi h1 h2=>?_,λi j hij hj h0 he=>?_,λi j hij hj h0 he=>?_⟩
 .dsimp only;by_cases e:i=lg
  .subst e;rw[erl,esl];exact Or.inr ⟨I,by omega,by omega⟩
  by_cases e2:i=n
  .subst e2;rw[ern,es _ e];exact Or.inl ⟨hreg,hlt,ns⟩
  rw[er i e e2,es i e];exact h.had i O
 .dsimp only;rw[er i O O,es i O];exact h.new i O h2
 .dsimp only at h0 he;by_cases ei:i=lg
  .subst ei;rw[erl]at h0;omega
  rw[er i ei O]at h0 he;by_cases ejn:j=n
  .subst ejn;rw[ern]at he;by_cases hil:i<lg
   .have:=h.reg i lg hil l1 h0 he;omega
   have:=h.reg lg i O O hreg he.symm;omega
  by_cases ejl:j=lg
  .subst ejl;rw[erl]at he;omega
  rw[er j ejl ejn]at he;exact h.reg i j hij O h0 he
 dsimp only at h0 he;by_cases ei:i=lg
 .subst ei;rw[es j O]at he;rw[esl]at he;exact Pu (oK O he.symm) hij (hT j O)
 rw[es i ei]at h0 he;by_cases ejl:j=lg
 .subst ejl;rw[esl]at he;exact DZ (oK O he) hij (hT j O)
 rw[es j ejl]at he;by_cases ejn:j=n
 .subst ejn;rw[ns]at he;omega
 exact h.slot i j hij O h0 he
theorem Fa{T:Li}{Tu:Int}{N:Nat}(hT:∀i,i<N->(i:Int)<=T.getD i 0):∀n,n<=N->SInv T Tu N n (jH T Tu N n)
 |0,_=>sinv0 T Tu N
 |n+1,h=>Ki hT (Fa hT n O) O
theorem KQ{N:Nat}(hT:∀i,i<N->(i:Int)<=T.getD i 0)(hN:N<=64):NU (jH T 7 N N) T N:=by
 have h:=Fa (Tu:=7) hT N (aK _);obtain⟨pl,hpl⟩:=Do (jH T 7 N N);rw[hpl]at h|-;have e:∀n:Nat,pl.r n=pl.reg.getD n 0/\pl.s n=pl.slot.getD n 0:=λn=>by simp only[Pl.r,Pl.s,aV,and_self]
 have hin:∀n:Nat,pl.inR n=decide (0<=pl.reg.getD n 0):=λn=>by unfold Pl.inR;rw[(e n).1]
 refine⟨λn hn=>?_,λi j hij hj h1 h2 he=>?_,λi j hij hj h1 h2 he=>?_⟩
 .unfold Pl.has;rw[hin,(e n).1,(e n).2];rcases h.had n hn with⟨q1,q2, -⟩|⟨q1,q2,q3⟩
  .exact Or.inl ⟨ap q1,q2⟩
  exact Or.inr ⟨ao O,q2,by omega⟩
 .rw[hin]at h1;rw[(e i).1,(e j).1]at he;exact h.reg i j hij hj (by simpa using h1) he
 rw[hin]at h1;rw[(e i).2,(e j).2]at he;refine h.slot i j hij hj ?_ he;rcases h.had i (by omega)with⟨q1, -⟩|⟨-,q, -⟩
 .rw[ap q1]at h1;cases h1
 exact q
end Go.Ink
