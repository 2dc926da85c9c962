/- Lemmas. -/
import Derived.Test.YtepfimeihngjoaaGreatDoorYam
import Derived.Test.YtepfimeihngjoaaGreatDoorYan
set_option linter.all false
set_option maxRecDepth 100000
set_option maxHeartbeats 4000000
namespace Go.Ink
open List renaming length→J, replicate→R9
open IntKind renaming wrap→V9
open Go.RowKit Go.Proofs.Tryz
variable{n:Nat}
theorem tM{U:Uo}(h:Wg n U)(R:Um)(va:Nat)(kind:Int):Wg n (bZ n R U va kind).u:=by
 grind [bZ,pq]
theorem wk(n:Nat)(R:Um)(U:Uo)(va:Nat)(hva:va<=4294967295)(kind:Int):Ww (bZ n R U va kind).r.SL:=by
 grind [bZ,Ww,i7,qZ]
theorem pN(n:Nat)(R:Um)(U:Uo)(va:Nat)(kind:Int):(bZ n R U va kind).ok=((bZ n R U va kind).r.SL.SB==0):=by
 grind [bZ]
variable{s:St}
section
variable{n:Nat}{op nn:Int}{R:Um}{U:Uo}{d:Un}
theorem Hk(hop:op=48){l:Li}{va:Nat}(hva:va<=4294967295)(hw:(R.wd (l++[(va:Int)])).s.wf)(hf:R.s.flags<=15)(hU:Wg n U)(hd:d.ok):vK n op (R.wd (l++[(va:Int)])).s d (eI n (R.wd l) U d va):=by
 subst hop;have hu:=tM hU (R.wd l) va 2;have ht:=wk n (R.wd l) U va hva 2;have hs:=tL n (R.wd l) U va 2;have hc:=pN n (R.wd l) U va 2;have hwl:(R.wd l).s.wf:=wm hw (sN hw.d);unfold eI;obtain⟨⟨p,ok,r,u⟩,hq⟩:=Uk (bZ n (R.wd l) U va 2);rw[hq]at hu ht hs hc|-;have hu:Wg n u:=hu;have ht:Ww r.SL:=ht;have hs:r.s=(R.wd l).s:=hs;have hc:ok=(r.SL.SB==0):=hc;have key:∀(v:Int) (o:Bool) (d':Un),u32 v->d'.ok->J d'.out<=J d.out+1->vK n 48 (R.wd (l++[(va:Int)])).s d (gL ⟨p,ok,r,u⟩ d' va v o):=λv o d' hv hd' ho'=>by
  unfold gL;cases o with
  |false=>exact⟨hu,hd',ho',(Yc (i7 hva)),λh=>by cases h⟩
  |true=>
   refine⟨hu,hd',ho',ht,λ_=>?_⟩;have e:(Um.push r [v]).s=(R.wd (l++[v])).s:=by
    show St.mk _ _ _ _ _ _ _ _ _ _ _ _ _ _ _ _=_;rw[hs]
   show VR 48 _ (Um.push r [v]).s;rw[e];exact VR.of (l:=l) (m:=R.s.r) [(va:Int)] [v] [] [] I (wm hwl (Qx (sN hw.d) hv)) hf I I I cE cE
 cases hok:ok with
 |false=>
  rw[hok]at hc;exact⟨hu,hd,Nat.le_succ _,ht,λh=>by grind⟩
 |true=>
  rw[hok]at key;refine DR ?_;refine bJ (vK n 48 (R.wd (l++[(va:Int)])).s d) ?_ ?_
  .grind [H7,iV]
  refine key _ _ _ ?_ hd (Nat.le_succ _);unfold gZ;exact bJ (λq:Int×Bool=>u32 q.1) (qM hu.m.db _) u0
theorem Gy(hop:op=49){l:Li}{va v:Nat}(hva:va<=4294967295)(hv:v<=4294967295)(hw:(R.wd ((l++[(v:Int)])++[(va:Int)])).s.wf)(hf:R.s.flags<=15)(hU:Wg n U)(hd:d.ok):vK n op (R.wd ((l++[(v:Int)])++[(va:Int)])).s d (eM n (R.wd l) U d va v):=by
 subst hop;have hu:=tM hU (R.wd l) va 3;have ht:=wk n (R.wd l) U va hva 3;have hs:=tL n (R.wd l) U va 3;have hc:=pN n (R.wd l) U va 3;have hdd:∀z,z∈(l++[(v:Int)])++[(va:Int)]->u32 z:=hw.d;have hwl:(R.wd l).s.wf:=wm hw (sN (sN hdd));unfold eM;obtain⟨⟨p,ok,r,u⟩,hq⟩:=Uk (bZ n (R.wd l) U va 3);rw[hq]at hu ht hs hc|-;have hu:Wg n u:=hu;have ht:Ww r.SL:=ht;have hs:r.s=(R.wd l).s:=hs;have hc:ok=(r.SL.SB==0):=hc;have hdid:VR 49 (R.wd ((l++[(v:Int)])++[(va:Int)])).s r.s:=by
  rw[hs];exact VR.of (l:=l) (m:=R.s.r) [(v:Int),(va:Int)] [] [] [] I hwl hf I cE cE cE cE
 cases hok:ok with
 |false=>
  rw[hok]at hc;exact⟨hu,hd,Nat.le_succ _,ht,λh=>by grind⟩
 |true=>
  refine DR ?_;refine bJ (vK n 49 (R.wd ((l++[(v:Int)])++[(va:Int)])).s d) ?_ ?_
  .obtain⟨h1,h2,h3⟩:=DI hu.m hd (iV p.toNat) hv;obtain⟨⟨o,M',d'⟩,hq2⟩:=Uk (bQ n u.m d (iV p.toNat) v);rw[hq2]at h1 h2 h3;rw[hq2];cases o with
   |false=>exact⟨⟨h1,hu.t⟩,h2,h3,(Yc (i7 hva)),λh=>by cases h⟩
   |true=>exact⟨⟨h1,hu.t⟩,h2,h3,ht,λ_=>hdid⟩
  exact⟨⟨hu.m.SY _ _ 4,hu.t⟩,hd,Nat.le_succ _,ht,λ_=>hdid⟩
theorem ue(hn:bR op=((1,1),(0,0))){l:Li}{va k:Nat}(hva:va<=4294967295)(hk:k<=4)(hw:(R.wd (l++[(va:Int)])).s.wf)(hf:R.s.flags<=15)(hU:Wg n U)(hd:d.ok):vK n op (R.wd (l++[(va:Int)])).s d (ek.of (j0 n (R.wd l) U va k) d):=by
 have hwl:(R.wd l).s.wf:=wm hw (sN hw.d);have hv:=Hm hU (R.wd l).sp va hk;exact⟨qP hU _ _ _ _,hd,Nat.le_succ _,zN n U _ va k hva 2,λ_=>VR.of (l:=l) (m:=R.s.r) [(va:Int)] [_] [] [] hn (wm hwl (Qx (sN hw.d) hv)) hf I I I cE (by simp[j0,Um.push])⟩
theorem ud(hn:bR op=((2,0),(0,0))){l:Li}{v:Int}{va k:Nat}(hva:va<=4294967295)(hw:(R.wd ((l++[v])++[(va:Int)])).s.wf)(hf:R.s.flags<=15)(hU:Wg n U)(hd:d.ok):vK n op (R.wd ((l++[v])++[(va:Int)])).s d (ek.of (jJ n (R.wd l) U va k v) d):=by
 have hdd:∀z,z∈(l++[v])++[(va:Int)]->u32 z:=hw.d;have hwl:(R.wd l).s.wf:=wm hw (sN (sN hdd));exact⟨Cp hU _ _ _ _,hd,Nat.le_succ _,zN n U _ va k hva 3,λ_=>VR.of (l:=l) (m:=R.s.r) [v,(va:Int)] [] [] [] hn hwl hf I cE (by simp[jJ]) cE (by simp[jJ])⟩
theorem Da(hw:R.s.wf)(hf:R.s.flags<=15)(hc:0<=R.count/\R.count<=18446744073709551615)(ht:R.SL=Tr.none)(hU:Wg n U)(hd:d.ok)(hnn:u32 nn)(h1:(bR op).1.1<=J R.s.d)(hst:cV op nn R=none)(hrk:(bS op nn R).1=false):vK n op R.s d (cB n op nn ⟨R,U,d⟩):=by
 have ht':Ww R.SL:=by rw[ht];exact trN
 have h0:∀{op},bR op=((0,0),(0,0))->∀(s':St),s'.wf->s'.flags<=15->s'.count=R.s.count->s'.d=R.s.d->s'.r=R.s.r->VR op R.s s':=λhn s' a1 a2 a3 a4 a5=>
  VR.of (l:=R.s.d) (m:=R.s.r) [] [] [] [] hn a1 a2 a3 cE (by simp[a4]) cE (by simp[a5])
 by_cases e:op=48
 .subst e;obtain⟨R,l,x,rfl⟩:=Um.snoc (show 1<=J R.s.d from h1);have hx:=xn (l:=l) hw.d;obtain⟨va,rfl⟩:∃va:Nat,x=va:=ai hx.1;have hva:va<=4294967295:=by have:(va:Int)<=_:=hx.2;omega
  have he:cB n 48 nn ⟨R.wd (l++[(va:Int)]),U,d⟩=eI n (R.wd l) U d va:=by show eI _ _ _ _ _=_;rw[Um.pop_wd,Um.top_wd];rfl
  grind [Hk]
 have e48:(op==48)=false:=by simpa using e
 by_cases e:op=49
 .subst e;obtain⟨R,l,y,x,rfl⟩:=Um.Tp (show 2<=J R.s.d from h1);have hx:=xn (l:=l++[y]) hw.d;have hy:=xn (l:=l) (sN (l:=l++[y]) hw.d);obtain⟨va,rfl⟩:∃va:Nat,x=va:=ai hx.1;obtain⟨v,rfl⟩:∃v:Nat,y=v:=ai hy.1;have hva:va<=4294967295:=by have:(va:Int)<=_:=hx.2;omega
  have hv:v<=4294967295:=by have:(v:Int)<=_:=hy.2;omega
  have he:cB n 49 nn ⟨R.wd ((l++[(v:Int)])++[(va:Int)]),U,d⟩=eM n (R.wd l) U d va v:=by show eM _ _ _ _ _ _=_;exact Ir
  grind [Gy]
 have e49:(op==49)=false:=by simpa using e
 by_cases e:op=50
 .subst e;obtain⟨R,l,x,rfl⟩:=Um.snoc (show 1<=J R.s.d from h1);have hx:=xn (l:=l) hw.d;obtain⟨va,rfl⟩:∃va:Nat,x=va:=ai hx.1;have hva:va<=4294967295:=by have:(va:Int)<=_:=hx.2;omega
  have he:cB n 50 nn ⟨R.wd (l++[(va:Int)]),U,d⟩=ek.of (j0 n (R.wd l) U va 4) d:=by show ek.of (j0 _ _ _ _ _) _=_;rw[Um.pop_wd,Um.top_wd];rfl
  rw[he];exact ue I hva An hw hf hU hd
 have e50:(op==50)=false:=by simpa using e
 by_cases e:op=51
 .subst e;obtain⟨R,l,y,x,rfl⟩:=Um.Tp (show 2<=J R.s.d from h1);have hx:=xn (l:=l++[y]) hw.d;obtain⟨va,rfl⟩:∃va:Nat,x=va:=ai hx.1;have hva:va<=4294967295:=by have:(va:Int)<=_:=hx.2;omega
  have he:cB n 51 nn ⟨R.wd ((l++[y])++[(va:Int)]),U,d⟩=ek.of (jJ n (R.wd l) U va 4 y) d:=by show ek.of (jJ _ _ _ _ _ _) _=_;exact Ir
  rw[he];exact ud I hva hw hf hU hd
 have e51:(op==51)=false:=by simpa using e
 by_cases e:op=52
 .subst e;obtain⟨R,l,x,rfl⟩:=Um.snoc (show 1<=J R.s.d from h1);have hx:=xn (l:=l) hw.d;obtain⟨va,rfl⟩:∃va:Nat,x=va:=ai hx.1;have hva:va<=4294967295:=by have:(va:Int)<=_:=hx.2;omega
  have he:cB n 52 nn ⟨R.wd (l++[(va:Int)]),U,d⟩=ek.of (j0 n (R.wd l) U va 1) d:=by show ek.of (j0 _ _ _ _ _) _=_;rw[Um.pop_wd,Um.top_wd];rfl
  rw[he];exact ue I hva An hw hf hU hd
 have e52:(op==52)=false:=by simpa using e
 by_cases e:op=53
 .subst e;obtain⟨R,l,y,x,rfl⟩:=Um.Tp (show 2<=J R.s.d from h1);have hx:=xn (l:=l++[y]) hw.d;obtain⟨va,rfl⟩:∃va:Nat,x=va:=ai hx.1;have hva:va<=4294967295:=by have:(va:Int)<=_:=hx.2;omega
  have he:cB n 53 nn ⟨R.wd ((l++[y])++[(va:Int)]),U,d⟩=ek.of (jJ n (R.wd l) U va 1 y) d:=by show ek.of (jJ _ _ _ _ _ _) _=_;exact Ir
  rw[he];exact ud I hva hw hf hU hd
 have e53:(op==53)=false:=by simpa using e
 by_cases e:op=64
 .subst e;exact⟨hU,hd,Nat.le_succ _,tr11,λh=>by cases h⟩
 have e64:(op==64)=false:=by simpa using e
 by_cases e:op=65
 .subst e;exact⟨hU,hd,Nat.le_succ _,ht',λ_=>h0 I R.s.back ⟨hw.epc,hw.flags,hw.root,hw.vec,hw.epc,hw.SB,hw.addr,hw.count,hw.d,hw.r⟩ hf I I I⟩
 have e65:(op==65)=false:=by simpa using e
 by_cases e:op=66
 .subst e;have hwc:(R.s.S5 R.count).wf:=⟨hw.pc,hw.flags,hw.root,hw.vec,hw.epc,hw.SB,hw.addr,hc,hw.d,hw.r⟩;exact⟨hU,hd,Nat.le_succ _,ht',λ_=>VR.of (l:=R.s.d) (m:=R.s.r) [] [((R.s.S5 R.count).get nn).1] [] [] I (wm hw (Qx hw.d (get_u32 hwc nn))) hf I cE I cE (ax _).symm⟩
 have e66:(op==66)=false:=by simpa using e
 by_cases e:op=67
 .subst e;obtain⟨R,l,x,rfl⟩:=Um.snoc (show 1<=J R.s.d from h1);have hwl:(R.wd l).s.wf:=wm hw (sN (l:=l) hw.d);have hs:=set_wf hwl hf nn (xn (l:=l) hw.d);obtain⟨q1,q2⟩:=St.T5 (R.wd l).s nn x;have he:cB n 67 nn ⟨R.wd (l++[x]),U,d⟩=⟨(R.wd l).ws ((R.wd l).s.set nn x).1,bif nn==1||nn==2 then⟨U.m,dA⟩else U,d⟩:=by show ek.mk _ _ _=_;rw[Um.pop_wd,Um.top_wd]
  rw[he];exact⟨bJ (Wg n) ⟨hU.m,qO⟩ hU,hd,Nat.le_succ _,ht',λ_=>VR.of (l:=l) (m:=R.s.r) [x] [] [] [] I hs.1 hs.2.1 hs.2.2 I Do cE Do⟩
 have e67:(op==67)=false:=by simpa using e
 by_cases e:op=68
 .subst e;obtain⟨R,l,x,rfl⟩:=Um.snoc (show 1<=J R.s.d from h1);have he:cB n 68 nn ⟨R.wd (l++[x]),U,d⟩=⟨R.wd l,⟨U.m,ph U.t x.toNat⟩,d⟩:=by show ek.mk _ _ _=_;rw[Um.pop_wd,Um.top_wd]
  rw[he];exact⟨⟨hU.m,(Jo _ _).trans hU.t⟩,hd,Nat.le_succ _,ht',λ_=>VR.of (l:=l) (m:=R.s.r) [x] [] [] [] I (wm hw (sN (l:=l) hw.d)) hf I I cE cE cE⟩
 have e68:(op==68)=false:=by simpa using e
 by_cases e:op=69
 .subst e;exact⟨hU,hd,Nat.le_succ _,ht',λ_=>h0 I R.s.halt ⟨hw.pc,hw.flags,hw.root,hw.vec,hw.epc,hw.SB,hw.addr,hw.count,hw.d,hw.r⟩ hf I I I⟩
 have e69:(op==69)=false:=by simpa using e
 have he:cB n op nn ⟨R,U,d⟩=⟨R,U,d⟩:=by simp only[cB, *,ac]
 have hn:bR op=((0,0),(0,0)):=by
  have n1:(op==1)=false:=by cases h:(op==1)with|false=>rfl|true=>(have:=gO h;subst this;cases hst)
  have n2:(op==2)=false:=by cases h:(op==2)with|false=>rfl|true=>(have:=gO h;subst this;cases hst)
  have n3:(op==3)=false:=by cases h:(op==3)with|false=>rfl|true=>(have:=gO h;subst this;cases hst)
  have n4:(op==4)=false:=by cases h:(op==4)with|false=>rfl|true=>(have:=gO h;subst this;cases hst)
  have n5:(op==5)=false:=by cases h:(op==5)with|false=>rfl|true=>(have:=gO h;subst this;cases hst)
  have n6:(op==6)=false:=by cases h:(op==6)with|false=>rfl|true=>(have:=gO h;subst this;cases hst)
  have n7:(op==7)=false:=by cases h:(op==7)with|false=>rfl|true=>(have:=gO h;subst this;cases hst)
  have n8:(op==8)=false:=by cases h:(op==8)with|false=>rfl|true=>(have:=gO h;subst this;cases hst)
  have n16:(op==16)=false:=by cases h:(op==16)with|false=>rfl|true=>(have:=gO h;subst this;cases hrk)
  have n17:(op==17)=false:=by cases h:(op==17)with|false=>rfl|true=>(have:=gO h;subst this;cases hrk)
  have n18:(op==18)=false:=by cases h:(op==18)with|false=>rfl|true=>(have:=gO h;subst this;cases hrk)
  have n19:(op==19)=false:=by cases h:(op==19)with|false=>rfl|true=>(have:=gO h;subst this;cases hrk)
  have n20:(op==20)=false:=by cases h:(op==20)with|false=>rfl|true=>(have:=gO h;subst this;cases hrk)
  have n21:(op==21)=false:=by cases h:(op==21)with|false=>rfl|true=>(have:=gO h;subst this;cases hrk)
  have n22:(op==22)=false:=by cases h:(op==22)with|false=>rfl|true=>(have:=gO h;subst this;cases hrk)
  have n23:(op==23)=false:=by cases h:(op==23)with|false=>rfl|true=>(have:=gO h;subst this;cases hrk)
  have n24:(op==24)=false:=by cases h:(op==24)with|false=>rfl|true=>(have:=gO h;subst this;cases hrk)
  have n25:(op==25)=false:=by cases h:(op==25)with|false=>rfl|true=>(have:=gO h;subst this;cases hrk)
  have n38:(op==38)=false:=by cases h:(op==38)with|false=>rfl|true=>(have:=gO h;subst this;cases hrk)
  have n39:(op==39)=false:=by cases h:(op==39)with|false=>rfl|true=>(have:=gO h;subst this;cases hrk)
  have n40:(op==40)=false:=by cases h:(op==40)with|false=>rfl|true=>(have:=gO h;subst this;cases hrk)
  unfold bR;simp only[*,ac]
 rw[he];exact⟨hU,hd,Nat.le_succ _,ht',λ_=>h0 hn R.s hw hf I I I⟩
theorem KG(hw:s.wf)(hr:s.right=true)(hnn:u32 nn)(hck:dN s op nn=0)(hU:Wg n U)(hd:d.ok):vK n op s.next d (nw n s op nn U d):=by
 obtain⟨h16,r16,f15⟩:=St.fits hr;obtain⟨n1,n2⟩:=lm hck;have hwn:=De hw
 have hw0:(eV s op).s.wf:=Gi hwn (wrap_u32 _);have key:∀{m:ek},vK n op (eV s op).s d m->vK n op s.next d m:=λh=>⟨h.u,h.dv,h.o,h.t,λhc=>by
  have h1:=h.did hc;exact⟨h1.wf,h1.fl,h1.cnt,h1.dl,h1.dt,h1.rl,h1.rt⟩⟩
 unfold nw;cases hst:cV op nn (eV s op)with
 |some R'=>
  obtain⟨h1,h2, -, -⟩:=Jy hw0 f15 hnn n1 n2 hst;exact key ⟨hU,hd,Nat.le_succ _,by show Ww R'.SL;rw[h2];exact trN,λ_=>h1⟩
 |none=>
  cases hrk:(bS op nn (eV s op)).1 with
  |true=>
   obtain⟨h1,h2, -, -⟩:=GW hw0 f15 n1 n2 hrk;refine key ⟨hU,hd,Nat.le_succ _,?_,λ_=>h1⟩
   grind [Ww,bS,eV,trN,u0]
  |false=>
   refine fy ?_;rw[mA op nn _ hrk];exact key (Da hw0 f15 hw.count I hU hd hnn n1 hst hrk)
theorem px(hw:s.wf)(hr:s.right=true)(hnn:u32 nn)(hU:Wg n U)(hd:d.ok):Goes n s d (lj n s op nn U d):=by
 have hU':Wg n ⟨U.m.calm,U.t⟩:=⟨hU.m.calm,hU.t⟩;have hfit:=St.fits hr;unfold lj;rw[hr];refine DR ?_;cases hck:(dN s op nn !=0)with
 |true=>exact⟨Jd (De hw) _ u0,hr,I,hU',hd,Nat.le_succ _⟩
 |false=>
  have hck0:dN s op nn=0:=by simpa using hck
  have hA:=KG (n:=n) hw hr hnn hck0 hU' hd;refine fy ?_;obtain⟨m,hm⟩:=Uk (nw n s op nn ⟨U.m.calm,U.t⟩ d);rw[hm]at hA|-;unfold DG;cases hc:(m.r.SL.SB !=0)with
  |true=>exact⟨Jd (De hw) _ hA.t.1,hr,I,hA.u,hA.dv,hA.o⟩
  |false=>
   have h1:=hA.did Do;have c1:=lm hck0;have c2:=BM hck0;exact⟨h1.wf,Mk h1 ⟨hfit.1,hfit.2.1⟩ c1 c2,h1.cnt,hA.u,hA.dv,hA.o⟩
end
section
attribute [local irreducible] UL bM
def dO(n:Nat)(SR:Nat):Nat->St->Nat->Uo->Un->St×Uo×Un
 |0,s,_,U,d=>(s,U,d)
 |k+1,s,p,U,d=>match dI n U.m p with
  |none=>(s.next.SL 1 0,U,d)
  |some ((op,nn),sz)=>
   let q:=lj n s op nn U d
   bif iY op q.1 SR s.pc then dO n SR k q.1.s ((p+sz)%4294967296) q.2.1 q.2.2 else(q.1.s,q.2.1,q.2.2)
def cL(n:Nat)(s:St)(U:Uo)(d:Un):St×Uo×Un:=
 let b:=cF n s U d
 bif b.runs then dO n (b.place.toNat/64) 8 b.s b.place.toNat b.u b.d else(b.s,b.u,b.d)
def ju(n:Nat)(m:Int)(from_:Int):Nat->St×Uo×Un->St×Uo×Un
 |0,q=>q
 |k+1,q=>bif decide (0<m)&& !q.1.halted&&decide (V9 .u64 (q.1.count - from_)<m)then ju n m from_ k (cL n q.1 q.2.1 q.2.2)else q
end
end Go.Ink
namespace Go.Ink
open List renaming length→J
open IntKind renaming wrap→V9
open Go.RowKit Go.Proofs.Tryz
variable{op:Int}
variable{z:Nat}
variable{k:Nat}
section
attribute [local irreducible] UL bM
variable{n:Nat}{M:Uy}{p:Nat}
variable{m:Int}
variable{s:St}{U:Uo}{d:Un}
variable{s1:St}{d1:Un}
section
variable{n:Nat}{op nn:Int}{s:St}{U:Uo}{d:Un}{R:Um}
theorem Hj(h:d.lines)(va:Nat):(eI n R U d va).d.lines:=by
 unfold eI;refine Ij ?_;exact bJ (λm:ek=>m.d.lines) (yU h _ _) h
theorem Gx(h:d.lines)(va v:Nat):(eM n R U d va v).d.lines:=by
 unfold eM;refine Ij ?_;exact bJ (λm:ek=>m.d.lines) (vW h _ _) h
theorem C8{m:ek}(h:m.d.lines):(cB n op nn m).d.lines:=by
 unfold cB;refine bJ (λm:ek=>m.d.lines) (Hj h _) ?_;refine bJ (λm:ek=>m.d.lines) (Gx h _ _) ?_;refine Wq53 ?_;refine Ij ?_;refine Ij ?_;refine Ij ?_;refine Ij ?_;exact bJ (λm:ek=>m.d.lines) h h
theorem KF(h:d.lines):(nw n s op nn U d).d.lines:=by
 unfold nw;cases cV op nn (eV s op)with
 |some R=>exact h
 |none=>exact bJ (λm:ek=>m.d.lines) h (C8 h)
theorem oG(h:d.lines):(lj n s op nn U d).2.2.lines:=by
 unfold lj;refine bJ (λq:Wn×Uo×Un=>q.2.2.lines) h ?_;exact bJ (λq:Wn×Uo×Un=>q.2.2.lines) h (KF h)
end
section
variable{n:Nat}{s:St}{U:Uo}{d:Un}
theorem z4(SR:Nat):∀(k:Nat) {s:St} (p:Nat) {U:Uo} {d:Un},Vp n s U d->Nl n k s d (dO n SR k s p U d)
 |0,s,p,U,d,h=>⟨h,aL _,0,aL _,λe=>O,by
   show s.count=V9 .u64 (s.count+0);have:=h.wf.count;rw[aS];omega⟩
 |k+1,s,p,U,d,h=>by
  unfold dO;cases hf:dI n U.m p with
  |none=>exact⟨⟨Er (Ks h.wf) _ u0,h.right,h.u,h.dv,h.lines⟩,by show J d.out<=_;omega,1,by omega,λ_=>aL _,I⟩
  |some o=>
   obtain⟨⟨op,nn⟩,z⟩:=o;obtain⟨f1, -⟩:=jl h.u.m hf;have hg:=px (op:=op) (nn:=nn) h.wf h.right f1 h.u h.dv;have hl:=oG (n:=n) (op:=op) (nn:=nn) (s:=s) (U:=U) h.lines;obtain⟨⟨q,U1,d1⟩,hq⟩:=Uk (lj n s op nn U d);rw[hq]at hg hl;obtain⟨g1,g2,g3,g4,g5,g6⟩:=hg;dsimp only at g1 g2 g3 g4 g5 g6 hl|-;rw[hq];dsimp only;cases iY op q SR s.pc with
   |false=>exact⟨⟨g1,g2,g4,g5,hl⟩,by show J d1.out<=_;omega,1,by omega,λ_=>aL _,g3⟩
   |true=>
    obtain⟨r1,r2,j,r3,r4,r5⟩:=z4 SR k ((p+z)%4294967296) (s:=q.s) (U:=U1) (d:=d1) ⟨g1,g2,g4,g5,hl⟩;refine⟨r1,by show _<=_;exact aR r2 O,j+1,by omega,λ_=>by omega,?_⟩;show(dO n SR k q.s ((p+z)%4294967296) U1 d1).1.count=_;rw[r5,g3,nW,show(1:Int)+(j:Int)=((j+1:Nat):Int) by omega]
theorem mg(h:Vp n s U d):Nl n 8 s d (cL n s U d)\/(s.halted=true/\(cL n s U d).1=s/\Vp n (cL n s U d).1 (cL n s U d).2.1 (cL n s U d).2.2/\(cL n s U d).2.2.out=d.out):=by
 have hb:=kp h;unfold cL;obtain⟨b,hbe⟩:=Uk (cF n s U d);rw[hbe]at hb|-;dsimp only;cases hr:b.runs with
 |true=>
  obtain⟨c1,c2,c3⟩:=hb.runs hr;have hq:=z4 (b.place.toNat/64) 8 b.place.toNat hb.g;left;refine⟨hq.g,by have:=hq.out;rw[hb.out]at this;exact this,?_⟩;obtain⟨j,j1,j2,j3⟩:=hq.count;exact⟨j,j1,j2,by rw[<-c1];exact j3⟩
 |false=>
  cases hh:s.halted with
  |false=>
   obtain⟨c1,c2⟩:=hb.stays hr hh;left;exact⟨hb.g,by show J b.d.out<=_;rw[hb.out];omega,1,by omega,λ_=>aL _,c1⟩
  |true=>
   right;have e:=hb.held hh;exact⟨I,by show b.s=s;rw[e],hb.g,hb.out⟩
theorem Ie(h:Vp n s U d)(hh:s.halted=false):Nl n 8 s d (cL n s U d):=by
 rcases mg h with h1|⟨h1, -⟩
 .exact h1
 rw[hh]at h1;cases h1
end
theorem ul{SR:Nat}(h:dI n U.m p=none):dO n SR (k+1) s p U d=(s.next.SL 1 0,U,d):=by
 unfold dO;rw[h]
variable{U1:Uo}
theorem uk{SR:Nat}{nn:Int}{q:Wn}(h:dI n U.m p=some ((op,nn),z))(hq:lj n s op nn U d=(q,U1,d1)):
  dO n SR (k+1) s p U d=bif iY op q SR s.pc then dO n SR k q.s ((p+z)%4294967296) U1 d1 else(q.s,U1,d1):=by
 rw[dO,h];simp only[hq]
theorem rest_ok(bu bb:Nat)(L:ez)(D:qK)(Y:fv)(s:St)(X:eN)(p:Nat)(hp:p<=4294967295)(S0:Nat)(hmost:S0<=1000)(U:Uo)(d:Un)(hG:Vp L.n s U d)(ho:J d.out+S0<=1000000000):CI prog 178 [sv s X.Ad X.cd X.Ar X.cr,.w (p:Int),.i (S0:Int),.p bu,.p D.bs] (Wh bu bb L D s X Y U d) (λv cs=>∃X' Y',v=sv (dO L.n (p/64) S0 s p U d).1 X'.Ad X'.cd X'.Ar X'.cr/\cs=Wh bu bb L D (dO L.n (p/64) S0 s p U d).1 X' Y' (dO L.n (p/64) S0 s p U d).2.1 (dO L.n (p/64) S0 s p U d).2.2):=λw hi=>by
 obtain⟨pg,hpg⟩:=Uk (p/64);have hpq:V9 .u32 ((p:Int).tdiv 64)=(pg:Int):=by rw[bj O,u32_wrap_id _ O O];omega
 have hpgl:pg<=4294967295:=by omega
 rw[hpg];clear hpg;obtain⟨⟨s9,U9,d9⟩,hR⟩:=Uk (dO L.n pg S0 s p U d);rw[hR];have ho0:J d.out<=J d.out+0:=aL _;obtain⟨o0,hoo⟩:=Uk (J d.out);rw[hoo]at ho;refine UH func178 ntmps178 hi ?_;refine py ?_;refine ZO λb5=>?_;refine ZN λb10=>?_
 refine YO ?_;refine iH (row b5 (s.cells (.slice X.Ad (J s.d) X.cd) (.slice X.Ar (J s.r) X.cr)) 36::row b10 (St.zero.cells (.slice none 0 0) (.slice none 0 0)) 36::Wh bu bb L D s X Y U d) Zj (Uu ?_);refine UX (λq:Nat×St×eN×Nat×fv×Uo×Un=>[(1,.w (q.2.2.2.1:Int)),(3,.p bu),(4,.p D.bs),(5,.p b5),(10,.p b10),(11,.i (pg:Int)),(20,.i (S0:Int)),(21,.i (q.1:Int))]) (λq=>row b5 (q.2.1.cells (.slice q.2.2.1.Ad (J q.2.1.d) q.2.2.1.cd) (.slice q.2.2.1.Ar (J q.2.1.r) q.2.2.1.cr)) 36::row b10 (St.zero.cells (.slice none 0 0) (.slice none 0 0)) 36::Wh bu bb L D q.2.1 q.2.2.1 q.2.2.2.2.1 q.2.2.2.2.2.1 q.2.2.2.2.2.2) (λq=>q.1<=S0/\q.2.2.2.1<=4294967295/\Vp L.n q.2.1 q.2.2.2.2.2.1 q.2.2.2.2.2.2/\J q.2.2.2.2.2.2.out<=o0+q.1/\dO L.n pg (S0 - q.1) q.2.1 q.2.2.2.1 q.2.2.2.2.2.1 q.2.2.2.2.2.2=(s9,U9,d9)) (λq=>S0 - q.1) (⟨0,s,X,p,Y,U,d⟩) ⟨ay _,hp,hG,by show J d.out<=o0+0;omega,hR⟩ ?_;rintro⟨j,s,X,p,Y,U,d⟩ ⟨hj,hp,hG,ho1,hRj⟩;dsimp only at hj hp hG ho1 hRj|-;refine Ul ?_ ?_<;>intro hc3
 .simp only[ah]at hc3;obtain⟨k,hk⟩:∃k,S0 - j=k+1:=⟨S0 - j - 1,by omega⟩;rw[hk]at hRj;have HF:=FB bu bb L U.m p hp;have hrn:=λ(op nn:Int) (z:Nat) h=>jl (n:=L.n) (M:=U.m) (p:=p) (op:=op) (nn:=nn) (z:=z) hG.u.m h
  have hN:=ul (n:=L.n) (SR:=pg) (k:=k) (s:=s) (p:=p) (U:=U) (d:=d);have hS:=λ(op nn:Int) (z:Nat) (q:Wn) (U1:Uo) (d1:Un) h hq=>uk (n:=L.n) (SR:=pg) (k:=k) (s:=s) (p:=p) (U:=U) (d:=d) (op:=op) (nn:=nn) (z:=z) (q:=q) (U1:=U1) (d1:=d1) h hq
  obtain⟨o,hfo⟩:=Uk (dI L.n U.m p);rw[hfo]at HF hN hS;rw[hfo]at hrn;obtain⟨hd16,hr16, -⟩:=St.fits hG.right;refine UG ?_;refine UD (λw hi=>HF w (hi.get (Ur (Cm bu L.bm bb))) (hi.get (Ur (eY L U.m)))) ?_;refine Ut ?_;refine ZN λb12=>?_
  refine ZM ?_;refine yZ ?_ ?_<;>intro hc5
  .obtain rfl:o=none:=(by cases o with|none=>rfl|some o=>cases hc5);rw[hN rfl,aD,aD]at hRj;obtain⟨rfl,rfl,rfl⟩:=hRj;refine Wq279 ?_;rintro _ _ ⟨_,⟨A3,c3,A4,c4,rfl,rfl⟩,rfl⟩;refine ZM ?_;refine UE ?_;exact bI (row b10 ((s.next.SL 1 0).cells (.slice A3 (J s.d) c3) (.slice A4 (J s.r) c4)) 36::Wh bu bb L D (s.next.SL 1 0) ⟨A3,c3,A4,c4⟩ Y U d) Zj (mz (cs':=(Wh bu bb L D (s.next.SL 1 0) ⟨A3,c3,A4,c4⟩ Y U d)) (.inl I) Zu I I Zh ir ir ⟨⟨A3,c3,A4,c4⟩,Y,I,I⟩)
  obtain⟨⟨⟨op,nn⟩,z⟩,rfl⟩:∃q,o=some q:=(by cases o with|none=>cases hc5|some o=>exact⟨o,I⟩);obtain⟨hnn,hz1,hz5, -⟩:=hrn op nn z I;have HD:=do_ok bu bb L D Y s X.Ad X.Ar X.cd X.cr op nn U d hG.wf hnn hG.u.t hG.dv.wf O;have hg:=px (op:=op) (nn:=nn) hG.wf hG.right hnn hG.u hG.dv;have hl:=oG (n:=L.n) (op:=op) (nn:=nn) (s:=s) (U:=U) hG.lines;obtain⟨⟨q,U1,d1⟩,hq⟩:=Uk (lj L.n s op nn U d);rw[hS op nn z q U1 d1 rfl hq]at hRj;rw[hq]at HD hg hl;obtain⟨g1,g2,g3,g4,g5,g6⟩:=hg;dsimp only at g1 g2 g3 g4 g5 g6 hl;have HX:=λX1 Ap cp w h=>Kr op nn q X1 Ap cp pg s.pc g1.pc hG.wf.pc w h
  obtain⟨nx,hnx⟩:=Uk (iY op q pg s.pc);rw[hnx]at HX hRj;refine Wq444 ?_;rintro _ _ ⟨_,⟨X1,Y1,Ap,cp,rfl,rfl⟩,rfl⟩;refine ZN λb15=>?_
  refine ZM ?_;refine ZY ?_;refine iS ?_;refine Ru ?_;refine YZ ?_;refine ZW ?_ ?_<;>intro hc12
  .obtain rfl:nx=false:=(by cases nx with|false=>rfl|true=>cases hc12);rw[ac,aD,aD]at hRj;obtain⟨rfl,rfl,rfl⟩:=hRj;refine UE ?_;refine kQ ?_;exact bI (row b10 (q.s.cells (.slice X1.Ad (J q.s.d) X1.cd) (.slice X1.Ar (J q.s.r) X1.cr)) 36::Wh bu bb L D q.s X1 Y1 U1 d1) Zj (mz (cs':=(Wh bu bb L D q.s X1 Y1 U1 d1)) (.inl I) Zu I I Zh ir ir ⟨X1,Y1,I,I⟩)
  obtain rfl:nx=true:=(by cases nx with|true=>rfl|false=>cases hc12);rw[ae]at hRj;refine fZ ?_;refine UN ((⟨j+1,q.s,X1,(p+z)%4294967296,Y1,U1,d1⟩:Nat×St×eN×Nat×fv×Uo×Un)) ⟨⟨show j+1<=S0 by omega,by show(p+z)%4294967296<=4294967295;omega,⟨g1,g2,g4,g5,hl⟩,by show J d1.out<=o0+(j+1);omega,by show dO L.n pg (S0 - (j+1)) q.s _ U1 d1=_;rw[show S0 - (j+1)=k by omega];exact hRj⟩,show S0 - (j+1)<S0 - j by omega⟩
 simp only[aa]at hc3;rw[show S0 - j=0 by omega]at hRj;simp only[dO,aD]at hRj;obtain⟨rfl,rfl,rfl⟩:=hRj;refine UG ?_;refine kQ ?_;exact bI (row b10 (s.cells (.slice X.Ad (J s.d) X.cd) (.slice X.Ar (J s.r) X.cr)) 36::Wh bu bb L D s X Y U d) Zj (mz (cs':=(Wh bu bb L D s X Y U d)) (.inl I) Zu I I Zh ir ir ⟨X,Y,I,I⟩)
theorem xj{pl:Int}(h:cF n s U d=⟨s1,pl,false,U1,d1⟩):cL n s U d=(s1,U1,d1):=by
 unfold cL;rw[h]
 rfl
theorem vx{pl:Nat}(h:cF n s U d=⟨s1,(pl:Int),true,U1,d1⟩):cL n s U d=dO n (pl/64) 8 s1 pl U1 d1:=by
 unfold cL;rw[h]
 rfl
def eH(n:Nat)(m:Int)(s:St)(U:Uo)(d:Un):St×Uo×Un:=ju n m s.count m.toNat (s,U,d)
variable{from_:Int}{q:St×Uo×Un}
theorem jc(h:fc m from_ q.1=false):ju n m from_ k q=q:=by
 cases k with
 |zero=>rfl
 |succ k=>
  show(bif fc m from_ q.1 then _ else q)=q;rw[h]
  rfl
theorem mw(h:fc m from_ q.1=true):ju n m from_ (k+1) q=ju n m from_ k (cL n q.1 q.2.1 q.2.2):=by
 show(bif fc m from_ q.1 then _ else q)=_;rw[h]
 rfl
theorem xV(hm:m<=1000000){o0 i:Nat}(hi:i<=1000000){q:St×Uo×Un}(h:B1 n m from_ o0 i q)(hc:fc m from_ q.1=true):B1 n m from_ o0 (i+1) (cL n q.1 q.2.1 q.2.2)/\(i:Int)<m:=by
 obtain⟨h1,h2,c,h3,h4,h5,h6⟩:=h;simp only[fc,aC,ah,Bool.not_eq_true']at hc;obtain⟨⟨hm0,hh⟩,hlt⟩:=hc;rw[ak hm0,ae]at h6;obtain⟨b1,b2,j,b3,b4,b5⟩:=Ie h1 hh;refine⟨⟨b1,by omega,c+j,?_,by omega,by omega,?_⟩,by omega⟩
 .rw[b5];rw[aS]at h3|-;rw[aS];omega
 rw[ak hm0,ae];omega
theorem Qn(bu bb:Nat)(L:ez)(D:qK)(Y:fv)(s:St)(Ad Ar:Oa)(cd cr:Nat)(U:Uo)(d:Un)(hG:Vp L.n s U d)(ho:J d.out+8<=1000000000)(w:World)(hi:Inv w (bK (Vq bu bb L D Y U d)) (Vq bu bb L D Y U d) w)
  (h:∀w',cX (bK (Vq bu bb L D Y U d)) w w'->kS w' s Ad Ar cd cr) (ht:∀w',cX (bK (Vq bu bb L D Y U d)) w w'->lG w'):
  Uz prog 126 [sv s Ad cd Ar cr,.p bu,.p D.bs] w (Vq bu bb L D Y U d)
   (λv cs=>∃X' Y',v=sv (cL L.n s U d).1 X'.Ad X'.cd X'.Ar X'.cr/\cs=Wh bu bb L D (cL L.n s U d).1 X' Y' (cL L.n s U d).2.1 (cL L.n s U d).2.2):=by
 have HB:=F4 bu bb L D Y s hG.wf Ad Ar cd cr U hG.u.t d (nY hG.lines _);have hb:=kp hG;have hN:=λs1 U1 d1 pl h=>xj (n:=L.n) (s:=s) (s1:=s1) (U:=U) (U1:=U1) (d:=d) (d1:=d1) (pl:=pl) h
 have hY:=λs1 U1 d1 pl h=>vx (n:=L.n) (s:=s) (s1:=s1) (U:=U) (U1:=U1) (d:=d) (d1:=d1) (pl:=pl) h
 obtain⟨⟨s1,pl,rn,U1,d1⟩,hbe⟩:=Uk (cF L.n s U d);rw[hbe]at HB hb hN hY;obtain⟨hg1,hpl,hout, -, -, -⟩:=hb;dsimp only at hg1 hpl hout;obtain⟨pl,rfl⟩:∃m:Nat,pl=m:=ai hpl.1;have hpl2:=hpl.2;have HR:=λX w hi=>rest_ok bu bb L D Y s1 X pl O 8 An U1 d1 hg1 (by rw[hout];exact ho) w hi
 obtain⟨⟨s9,U9,d9⟩,hR⟩:=Uk (cL L.n s U d);rw[hR]at hN hY|-;refine UH func126 ntmps126 hi ?_;refine py ?_;refine ZO λb3=>?_;refine ZN λb6=>?_
 refine Ux ?_;refine dE (Vq bu bb L D Y U d) (λw hi hin=>HB w hin (λw' hk=>h w' (hi.TR (λc hc=>by simp only[Vq,uF,lJ,aK,aI,aV]at hc|-;grind) hk)) (λw' hk=>ht w' (hi.TR (λc hc=>by simp only[Vq,uF,lJ,aK,aI,aV]at hc|-;grind) hk))) ?_;rintro _ _ ⟨X1,rfl,rfl⟩;refine ZN λb7=>?_
 refine rI ?_;refine ZW ?_ ?_<;>intro hc2
 .obtain rfl:rn=false:=(by cases rn with|false=>rfl|true=>cases hc2);have e:=hN s1 U1 d1 pl I;rw[aD,aD]at e;obtain⟨rfl,rfl,rfl⟩:=e;refine Us ?_;refine Wq457 ?_;exact bI (row b6 (s9.cells (.slice X1.Ad (J s9.d) X1.cd) (.slice X1.Ar (J s9.r) X1.cr)) 36::Wh bu bb L D s9 X1 Y U9 d9) Zj (mz (cs':=(Wh bu bb L D s9 X1 Y U9 d9)) (.inl I) Zu I I Zh ir ir ⟨X1,Y,I,I⟩)
 obtain rfl:rn=true:=(by cases rn with|true=>rfl|false=>cases hc2);have e:=hY s1 U1 d1 pl I;rw[<-e]at HR;refine Uu ?_;refine Zg ?_;refine Ut ?_;refine dE (Wh bu bb L D s1 X1 Y U1 d1) (λw hi hin=>HR X1 w hin) ?_;rintro _ _ ⟨X2,Y2,rfl,rfl⟩;refine kQ ?_;exact bI (row b6 (s9.cells (.slice X2.Ad (J s9.d) X2.cd) (.slice X2.Ar (J s9.r) X2.cr)) 36::Wh bu bb L D s9 X2 Y2 U9 d9) Zj (mz (cs':=(Wh bu bb L D s9 X2 Y2 U9 d9)) (.inl I) Zu I I Zh ir ir ⟨X2,Y2,I,I⟩)
theorem run_ok(bu bb:Nat)(L:ez)(D:qK)(Y:fv)(s:St)(Ad Ar:Oa)(cd cr:Nat)(U:Uo)(d:Un)(hG:Vp L.n s U d)(m:Int)(hm0: -9223372036854775808<=m)(hm:m<=1000000)(ho:J d.out+8*m.toNat+8<=1000000000)(w:World)(hi:Inv w (bK (Vq bu bb L D Y U d)) (Vq bu bb L D Y U d) w)
  (h:∀w',cX (bK (Vq bu bb L D Y U d)) w w'->kS w' s Ad Ar cd cr) (ht:∀w',cX (bK (Vq bu bb L D Y U d)) w w'->lG w'):
  Uz prog 75 [sv s Ad cd Ar cr,.p bu,.p D.bs,.i m] w (Vq bu bb L D Y U d)
   (λv cs=>∃X' Y',v=sv (eH L.n m s U d).1 X'.Ad X'.cd X'.Ar X'.cr/\cs=Wh bu bb L D (eH L.n m s U d).1 X' Y' (eH L.n m s U d).2.1 (eH L.n m s U d).2.2):=by
 have HR2:=oe s;rw[hG.right]at HR2;obtain⟨hd16,hr16, -⟩:=St.fits hG.right;obtain⟨⟨s9,U9,d9⟩,hR⟩:=Uk (eH L.n m s U d);rw[hR];have hR0:ju L.n m s.count (m.toNat - 0) (s,U,d)=(s9,U9,d9):=hR;have hk0:B1 L.n m s.count (J d.out) 0 (s,U,d):=⟨hG,aL _,0,by show V9 .u64 (s.count - s.count)=0;rw[Int.sub_self];rfl,aL _,aL _,by cases hd:decide (0<m)with|false=>(show(0:Int)<0+8;omega)|true=>(simp only[ah]at hd;show(0:Int)<m+8;omega)⟩;obtain⟨from_,hfr⟩:=Uk (s.count);obtain⟨o0,hoo⟩:=Uk (J d.out);rw[hfr]at hR0 hk0;rw[hoo]at ho hk0;refine UH func75 ntmps75 hi ?_;refine py ?_;refine ZO λb4=>?_;refine ZN λb8=>?_
 refine M9 ?_;rintro _ _ ⟨_,⟨A1,c1,A2,c2,rfl,rfl⟩,rfl⟩;refine QE ?_;refine gX ?_;refine jn ?_;refine Ut ?_;refine iH (row b4 (s.cells (.slice A1 (J s.d) c1) (.slice A2 (J s.r) c2)) 36::row b8 (St.zero.cells (.slice none 0 0) (.slice none 0 0)) 36::Wh bu bb L D s ⟨A1,c1,A2,c2⟩ Y U d) Zj (Ux ?_);refine UX (λq:Nat×St×eN×fv×Uo×Un=>[(1,.p bu),(2,.p D.bs),(3,.i m),(4,.p b4),(8,.p b8),(9,.int .u64 from_)]) (λq=>row b4 (q.2.1.cells (.slice q.2.2.1.Ad (J q.2.1.d) q.2.2.1.cd) (.slice q.2.2.1.Ar (J q.2.1.r) q.2.2.1.cr)) 36::row b8 (St.zero.cells (.slice none 0 0) (.slice none 0 0)) 36::Wh bu bb L D q.2.1 q.2.2.1 q.2.2.2.1 q.2.2.2.2.1 q.2.2.2.2.2) (λq=>B1 L.n m from_ o0 q.1 (q.2.1,q.2.2.2.2.1,q.2.2.2.2.2)/\q.1<=m.toNat/\ju L.n m from_ (m.toNat - q.1) (q.2.1,q.2.2.2.2.1,q.2.2.2.2.2)=(s9,U9,d9)) (λq=>m.toNat - q.1) (⟨0,s,⟨A1,c1,A2,c2⟩,Y,U,d⟩) ⟨hk0,ay _,hR0⟩ ?_;rintro⟨i,s,X,Y,U,d⟩ ⟨hk,him,hRi⟩;dsimp only at hk him hRi|-;have hrc:fc m from_ s=((decide (0<m)&& !s.halted)&&decide (V9 .u64 (s.count - from_)<m)):=rfl;refine jG ?_;refine Wq87 ?_;refine Wj ?_ ?_<;>intro hc5
 .have hc:fc m from_ s=true:=(by rw[hrc];revert hc5;cases decide (0<m)with|false=>(intro h;cases h)|true=>exact λh=>h);obtain⟨hk2,hilt⟩:=xV hm O hk hc;obtain⟨k,hkk⟩:∃k,m.toNat - i=k+1:=⟨m.toNat - i - 1,by omega⟩;rw[hkk,mw hc]at hRi;obtain⟨hd16,hr16, -⟩:=St.fits hk.g.right;have hok:=hk.out;dsimp only at hok hd16 hr16;have HB:=Qn bu bb L D Y s X.Ad X.Ar X.cd X.cr U d hk.g O;obtain⟨⟨s2,U2,d2⟩,hq⟩:=Uk (cL L.n s U d);dsimp only at hRi hk2;rw[hq]at HB hRi hk2;refine Ux ?_;refine dE (Vq bu bb L D Y U d) (λw hi hin=>HB w hin (λw' hk=>hi.Tz Zi (Ur (UP s X.Ad X.cd)) (Ur (UU s X.Ar X.cr)) O O hk) (λw' hk=>ht w' (hi.TR (λc hc=>by simp only[Wh,Vq,uF,lJ,aK,aI,aV]at hc|-;grind) hk))) ?_;rintro _ _ ⟨X2,Y2,rfl,rfl⟩;refine ZM ?_;refine py ?_;refine UN ((⟨i+1,s2,X2,Y2,U2,d2⟩:Nat×St×eN×fv×Uo×Un)) ⟨⟨hk2,show i+1<=m.toNat by omega,by show ju L.n m from_ (m.toNat - (i+1)) (s2,U2,d2)=_;rw[show m.toNat - (i+1)=k by omega];exact hRi⟩,show m.toNat - (i+1)<m.toNat - i by omega⟩
 have hc:fc m from_ s=false:=(by rw[hrc];revert hc5;cases decide (0<m)with|false=>exact λ_=>rfl|true=>exact λh=>h);rw[jc hc,aD,aD]at hRi;obtain⟨rfl,rfl,rfl⟩:=hRi;refine UG ?_;refine kQ ?_;exact bI (row b8 (s.cells (.slice X.Ad (J s.d) X.cd) (.slice X.Ar (J s.r) X.cr)) 36::Wh bu bb L D s X Y U d) Zj (mz (cs':=(Wh bu bb L D s X Y U d)) (.inl I) Zu I I Zh ir ir ⟨X,Y,I,I⟩)
section
variable{n:Nat}{U V:Uo}{s:St}{d:Un}
theorem do_eqm(h:XS U V)(op nn:Int):(lj n s op nn U d).1=(lj n s op nn V d).1/\(lj n s op nn U d).2.2=(lj n s op nn V d).2.2/\XS (lj n s op nn U d).2.1 (lj n s op nn V d).2.1:=by
 have e:(⟨U.m.calm,U.t⟩:Uo)=⟨V.m.calm,V.t⟩:=by unfold Uy.calm;rw[h.d,h.t]
 unfold lj;rw[e];cases !s.right with
 |true=>exact⟨I,I,h⟩
 |false=>
  cases dN s op nn !=0 with
  |true=>exact⟨I,I,I,I⟩
  |false=>exact⟨I,I,I,I⟩
theorem EP{SR:Nat}:∀(k:Nat) {s:St} {p:Nat} {U V:Uo} {d:Un},XS U V->Eqs (dO n SR k s p U d) (dO n SR k s p V d)
 |0,s,p,U,V,d,h=>⟨rfl,h,rfl⟩
 |k+1,s,p,U,V,d,h=>by
  have hf:dI n U.m p=dI n V.m p:=by unfold dI;rw[h.d]
  unfold dO;rw[hf];cases dI n V.m p with
  |none=>exact⟨I,h,I⟩
  |some o=>
   obtain⟨⟨op,nn⟩,z⟩:=o;obtain⟨d1,d2,d3⟩:=do_eqm (n:=n) (s:=s) (d:=d) h op nn;dsimp only;rw[d1,d2];cases iY op (lj n s op nn V d).1 SR s.pc with
   |true=>exact EP k d3
   |false=>exact⟨I,d3,I⟩
theorem Mz(h:XS U V):Eqs (cL n s U d) (cL n s V d):=by
 obtain⟨b1,b2,b3,b4,b5⟩:=MC (n:=n) (s:=s) (d:=d) h;unfold cL;dsimp only;rw[b1,b2,b3,b5];cases(cF n s V d).runs with
 |true=>exact EP 8 b4
 |false=>exact⟨I,b4,I⟩
theorem zS{m f:Int}:∀(k:Nat) {q q':St×Uo×Un},Eqs q q'->Eqs (ju n m f k q) (ju n m f k q')
 |0,q,q',h=>h
 |k+1,q,q',h=>by
  obtain⟨s,U,d⟩:=q;obtain⟨s',V,d'⟩:=q';obtain⟨h1,h2,h3⟩:=h;dsimp only at h1 h2 h3;subst h1 h3;cases hc:fc m f s with
  |false=>rw[jc (q:=(s,U,d)) hc,jc (q:=(s,V,d)) hc];exact⟨I,h2,I⟩
  |true=>rw[mw (q:=(s,U,d)) hc,mw (q:=(s,V,d)) hc];exact zS k (Mz h2)
theorem run_eqs(h:XS U V)(m:Int):Eqs (eH n m s U d) (eH n m s V d):=zS m.toNat (q:=(s,U,d)) (q':=(s,V,d)) ⟨I,h,I⟩
end
end
end Go.Ink
namespace Go.Ink
open List renaming length→J
open IntKind renaming wrap→V9
open Go.RowKit
variable{a:Nat}
variable{b:Nat}
section
variable{C l:List HI}{k:Nat}{R W:Li}{M:HM}{pl:Pl}{D Rr:Li}{SE SG:Int}{T:Li}
variable{x:II}{n:Nat}
theorem I2{V V':Li}(hx:x.ok SE SG n)(h:∀a:Nat,a<n->V.getD a 0=V'.getD a 0):lw D Rr V x=lw D Rr V' x:=by
 have hop:=hx.op;have hab:=hx.ab;obtain⟨op,dst,a,b,imm⟩:=x;dsimp only at hop hab;rcases hop with rfl|⟨rfl, -⟩|⟨rfl, -⟩|⟨rfl, -⟩|⟨rfl, -⟩
 .rfl
 .rfl
 .rfl
 .obtain⟨h1,h2⟩:=hab (Or.inl I);show(gP imm (V.getD a.toNat 0) (V.getD b.toNat 0)).1=(gP imm (V'.getD a.toNat 0) (V'.getD b.toNat 0)).1
  grind
 obtain⟨h1,h2⟩:=hab (Or.inr I);show(gP imm (V.getD a.toNat 0) (V.getD b.toNat 0)).2.1=(gP imm (V'.getD a.toNat 0) (V'.getD b.toNat 0)).2.1
 grind
def XV(SE SG:Int)(code:List II):Prop:=∀(n:Nat) (x:II),code[n]? =some x->x.ok SE SG n
variable{pre suf:List II}
theorem XV.app(h:XV SE SG (pre++suf)):XV SE SG pre:=λn x hx=>h n x Do
theorem XV.last(h:XV SE SG (pre++[x])):x.ok SE SG (J pre):=h (J pre) x cE
theorem NJ{V:Li}(hx:x.ok SE SG n)(hD:VO D)(hR:VO Rr)(hV:VO V):0<=lw D Rr V x/\lw D Rr V x<=4294967295:=by
 have hop:=hx.op;have hi:=hx.imm;obtain⟨op,dst,a,b,imm⟩:=x;dsimp only at hop hi;obtain⟨x,hx1,hx2⟩:=m5 hV a.toNat;obtain⟨y,hy1,hy2⟩:=m5 hV b.toNat;rcases hop with rfl|⟨rfl, -⟩|⟨rfl, -⟩|⟨rfl,h1⟩|⟨rfl,h1⟩
 .exact hi
 .exact iI hD _
 .exact iI hR _
 .show 0<=(gP imm (V.getD a.toNat 0) (V.getD b.toNat 0)).1/\(gP imm (V.getD a.toNat 0) (V.getD b.toNat 0)).1<=4294967295;obtain⟨r,hr,hr2⟩:=tD (Or.inl h1) hx2 hy2
  grind [gP,vM]
 show 0<=(gP imm (V.getD a.toNat 0) (V.getD b.toNat 0)).2.1/\(gP imm (V.getD a.toNat 0) (V.getD b.toNat 0)).2.1<=4294967295;rw[hx1,hy1];have:=LP hx2 hy2 h1;omega
theorem NI(code:List II)(hD:VO D)(hR:VO Rr)(h:XV SE SG code):VO (Th D Rr code):=by
 revert h;refine xP (p:=λcode=>XV SE SG code->VO (Th D Rr code)) (λ_ x hx=>by cases hx) (λl x ih h=>?_) code;rw[lN];intro y hy;rcases aK.1 hy with h1|h1
 .exact ih h.app y h1
 rw[aQ.1 h1];exact NJ h.last hD hR (ih h.app)
theorem Ι(h:XV SE SG (pre++x::suf)):(Th D Rr (pre++x::suf)).getD (J pre) 0=lw D Rr (Th D Rr (pre++x::suf)) x:=by
 have h2:pre++x::suf=(pre++[x])++suf:=by simp
 rw[h2]at h|-;obtain⟨m,hm⟩:=En (D:=D) (R:=Rr) (pre++[x]) suf;have e1:J (Th D Rr (pre++[x]))=J pre+1:=by rw[s8];simp
 have e0:J (Th D Rr pre)=J pre:=s8 _;have e2:∀a:Nat,a<J pre->(Th D Rr pre).getD a 0=(Th D Rr ((pre++[x])++suf)).getD a 0:=λa ha=>by
  grind [lN]
 rw[<-I2 (XV.last (XV.app h)) e2,hm,lN]
 grind
theorem Uv.all{V:Li}{N:Nat}(hp:Nm pl T N)(hD:VO D)(hR:VO Rr)(hV:VO V):∀(suf:List II) (n:Nat) (k:Nat) (R W:Li),Uv C k (j6 SE SG pl suf n++l) R W M->n+J suf=N->
  (∀i x,suf[i]? =some x->x.ok SE SG (n+i)/\V.getD (n+i) 0=lw D Rr V x/\(x.op=3\/x.op=4->((n+i:Nat):Int)<=T.getD x.a.toNat 0/\((n+i:Nat):Int)<=T.getD x.b.toNat 0))->
  Ry D Rr SE SG R W->Gb pl T V n R W->∃k' R' W',Uv C k' l R' W' M/\Ry D Rr SE SG R' W'/\Gb pl T V N R' W'/\∀j,j<64->W'.getD j 0=W.getD j 0
 |[],n,k,R,W,h,hN,hx,hb,hh=>⟨k,R,W,h,hb,Do,λ_ _=>I⟩
 |x::suf,n,k,R,W,h,hN,hx,hb,hh=>by
  have hN':n+1+J suf=N:=by rw[<-hN];simp;omega
  obtain⟨x1,x2,x3⟩:=hx 0 x I;rw[Nat.add_zero]at x1 x2 x3;have h:Uv C k (rc SE SG pl n x++(j6 SE SG pl suf (n+1)++l)) R W M:=by
   have e:j6 SE SG pl (x::suf) n++l=rc SE SG pl n x++(j6 SE SG pl suf (n+1)++l):=by show(rc SE SG pl n x++j6 SE SG pl suf (n+1))++l=_;rw[aq]
   rwa[e]at h
  have hn:=hp.has n O;have hab:x.op=3\/x.op=4->(pl.has x.a/\Lo pl R W x.a (V.getD x.a.toNat 0))/\(pl.has x.b/\Lo pl R W x.b (V.getD x.b.toNat 0)):=λho=>by
   obtain⟨⟨a1,a2⟩,b1,b2⟩:=x1.ab ho;obtain⟨t1,t2⟩:=x3 ho;have ea:((x.a.toNat:Nat):Int)=x.a:=by omega
   have eb:((x.b.toNat:Nat):Int)=x.b:=by omega
   have ha:=hh x.a.toNat O t1;have hb:=hh x.b.toNat O t2;have pa:=hp.has x.a.toNat O;have pb:=hp.has x.b.toNat O
   grind
  obtain⟨k1,R1,W1,g1,g2,g3,g4,g5⟩:=Uv.one h x1 hb hD hR hV hn hab;have hold:Gb pl T V (n+1) R1 W1:=λa ha ht=>by
   by_cases e:a=n
   .grind
   have h1:=hh a O O;have hlt:a<n:=by omega
   refine⟨λhi=>?_,λhi=>?_⟩
   .rw[g4 _ ?_ ?_];exact h1.1 hi
    .rcases hp.has a (by omega)with⟨-,q⟩|⟨q, -⟩
     .omega
     grind
    intro hin e2;have:=hp.reg a n hlt O hi hin (by
     grind [Pl.inR])
    omega
   rw[g5 _ ?_];exact h1.2 hi;cases hin:pl.inR n with
   |true=>grind
   |false=>
    refine Or.inr λe2=>?_
    have s1:0<=pl.s a:=by rcases hp.has a (by omega)with⟨q, -⟩|⟨-,q, -⟩;rw[hi]at q;cases q;exact q
    have s2:0<=pl.s n:=by rcases hn with⟨q, -⟩|⟨-,q, -⟩;rw[hin]at q;cases q;exact q
    have:=hp.slot a n hlt O hi hin O;omega
  obtain⟨k2,R2,W2,q1,q2,q3,q4⟩:=Uv.all hp hD hR hV suf (n+1) k1 R1 W1 g1 hN' (λi y hy=>by
   have:=hx (i+1) y Do
   grind) g3 hold
  grind
end
end Go.Ink
