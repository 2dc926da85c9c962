/- Lemmas. -/
import Derived.Test.YtakodpimdalajaaGreatDoorPaa
import Derived.Test.YtakodpimdalajaaGreatDoorPab
import Derived.Test.YtakodpimdalajaaGreatDoorPaf
set_option linter.unusedSimpArgs false
set_option linter.unusedVariables false
set_option maxRecDepth 100000
set_option maxHeartbeats 4000000
namespace Go.Ink
open Go.RowKit
structure sC(n:Nat)(op:Int)(s:St)(d:Dev)(m:iw):Prop where
 u:UOk n m.u
 dv:m.d.ok
 o:m.d.out.length≤d.out.length+1
 t:TrU m.r.JA
 did:m.r.JA.Jr=0→Did op s m.r.s
theorem qJ{n:Nat}{U:Mmu}(h:UOk n U)(R:Run)(va:Nat)(kind:Int):UOk n (cK n R U va kind).u:=by
 unfold cK;exact bM (fun W:yR=>UOk n W.u) h (kZ h ..)
theorem sZ(n:Nat)(R:Run)(U:Mmu)(va:Nat)(hva:va≤4294967295)(kind:Int):TrU (cK n R U va kind).r.JA:=by
 unfold cK;exact bM (fun W:yR=>TrU W.r.JA) ⟨hI hva,by show(0:Int)≤6;decide,by show(6:Int)≤255;decide⟩ (mL n U R.sp va hva kind)
theorem nJ(n:Nat)(R:Run)(U:Mmu)(va:Nat)(kind:Int):(cK n R U va kind).ok=((cK n R U va kind).r.JA.Jr==0):=by
 unfold cK;exact bM (fun W:yR=>W.ok=(W.r.JA.Jr==0)) rfl rfl
theorem get_u32{s:St}(h:s.wf)(reg:Int):u32 (s.get reg).1:=by
 have hb:∀b,u32 (b2i b):=fun b=>by cases b;exact u0;exact u1
 unfold St.get;refine bM (fun q:Int×Bool=>u32 q.1) (hb _) ?_;refine bM (fun q:Int×Bool=>u32 q.1) (hb _) ?_;refine bM (fun q:Int×Bool=>u32 q.1) h.root ?_;refine bM (fun q:Int×Bool=>u32 q.1) h.vec ?_;refine bM (fun q:Int×Bool=>u32 q.1) h.epc ?_;refine bM (fun q:Int×Bool=>u32 q.1) h.Jr ?_;refine bM (fun q:Int×Bool=>u32 q.1) h.addr ?_;refine bM (fun q:Int×Bool=>u32 q.1) (hb _) ?_;refine bM (fun q:Int×Bool=>u32 q.1) (hb _) ?_;refine bM (fun q:Int×Bool=>u32 q.1) (gz _) ?_;exact bM (fun q:Int×Bool=>u32 q.1) h.flags u0
def qi(s:St)(q:St×Bool):Prop:=q.1.wf∧q.1.flags≤15∧q.1.count=s.count
theorem set_wf{s:St}(h:s.wf)(hf:s.flags≤15)(reg:Int){v:Int}(hv:u32 v):qi s (s.set reg v):=by
 have h0:qi s (s,false):=⟨h,hf,rfl⟩;unfold St.set;refine bM (qi s) ⟨⟨h.pc,h.flags,h.root,h.vec,h.epc,h.Jr,h.addr,h.count,h.d,h.r⟩,hf,rfl⟩ ?_;refine bM (qi s) ⟨⟨h.pc,h.flags,h.root,h.vec,h.epc,h.Jr,h.addr,h.count,h.d,h.r⟩,hf,rfl⟩ ?_;refine bM (qi s) ⟨⟨h.pc,h.flags,gZ .andNot v 63,h.vec,h.epc,h.Jr,h.addr,h.count,h.d,h.r⟩,hf,rfl⟩ ?_;refine bM (qi s) ⟨⟨h.pc,h.flags,h.root,hv,h.epc,h.Jr,h.addr,h.count,h.d,h.r⟩,hf,rfl⟩ ?_;refine bM (qi s) ⟨⟨h.pc,h.flags,h.root,h.vec,hv,h.Jr,h.addr,h.count,h.d,h.r⟩,hf,rfl⟩ ?_;refine bM (qi s) ⟨⟨h.pc,h.flags,h.root,h.vec,h.epc,hv,h.addr,h.count,h.d,h.r⟩,hf,rfl⟩ ?_;refine bM (qi s) ⟨⟨h.pc,h.flags,h.root,h.vec,h.epc,h.Jr,hv,h.count,h.d,h.r⟩,hf,rfl⟩ ?_;refine bM (qi s) ⟨⟨h.pc,h.flags,h.root,h.vec,h.epc,h.Jr,h.addr,h.count,h.d,h.r⟩,hf,rfl⟩ ?_;refine bM (qi s) ⟨⟨h.pc,h.flags,h.root,h.vec,h.epc,h.Jr,h.addr,h.count,h.d,h.r⟩,hf,rfl⟩ ?_;refine bM (qi s) ⟨⟨h.pc,gZ .and v 15,h.root,h.vec,h.epc,h.Jr,h.addr,h.count,h.d,h.r⟩,?_,rfl⟩ h0;show bits .and .u32 v 15≤15;rw[AG hv];omega
section
variable {n:Nat} {op nn:Int} {R:Run} {U:Mmu} {d:Dev}
theorem BQ(hop:op=48){l:List Int}{va:Nat}(hva:va≤4294967295)(hw:(R.wd (l++[(va:Int)])).s.wf)(hf:R.s.flags≤15)(hU:UOk n U)(hd:d.ok):sC n op (R.wd (l++[(va:Int)])).s d (ln n (R.wd l) U d va):=by
 subst hop;have hu:=qJ hU (R.wd l) va 2;have ht:=sZ n (R.wd l) U va hva 2;have hs:=qI n (R.wd l) U va 2;have hc:=nJ n (R.wd l) U va 2;have hwl:(R.wd l).s.wf:=sG hw (pH hw.d);unfold ln;obtain⟨⟨p,ok,r,u⟩,hq⟩:=Zgn (cK n (R.wd l) U va 2);rw[hq]at hu ht hs hc⊢;have hu:UOk n u:=hu;have ht:TrU r.JA:=ht;have hs:r.s=(R.wd l).s:=hs;have hc:ok=(r.JA.Jr==0):=hc;have key:∀(v:Int) (o:Bool) (d':Dev),u32 v→d'.ok→d'.out.length≤d.out.length+1→sC n 48 (R.wd (l++[(va:Int)])).s d (pU ⟨p,ok,r,u⟩ d' va v o):=fun v o d' hv hd' ho'=>by
  unfold pU;cases o with
  |false=>exact⟨hu,hd',ho',(tr10 (hI hva)),fun h=>by cases h⟩
  |true=>
   refine⟨hu,hd',ho',ht,fun _=>?_⟩;have e:(Run.push r [v]).s=(R.wd (l++[v])).s:=by
    show St.mk _ _ _ _ _ _ _ _ _ _ _ _ _ _ _ _=_;rw[hs]
   show Did 48 _ (Run.push r [v]).s;rw[e];exact Did.of (l:=l) (m:=R.s.r) [(va:Int)] [v] [] [] rfl (sG hwl (AH (pH hw.d) hv)) hf rfl rfl rfl cJ cJ
 cases hok:ok with
 |false=>
  rw[hok]at hc;exact⟨hu,hd,Nat.le_succ _,ht,fun h=>by have h:r.JA.Jr=0:=h;rw[h]at hc;cases hc⟩
 |true=>
  rw[hok]at key;simp only[Bool.not_true,aa];refine bM (sC n 48 (R.wd (l++[(va:Int)])).s d) ?_ ?_
  ·have h1:=Cd hd (sS p.toNat) r.count;exact key _ _ _ h1.1 h1.2.1 (by rw[h1.2.2];exact Nat.le_succ _)
  refine key _ _ _ ?_ hd (Nat.le_succ _);unfold qG;exact bM (fun q:Int×Bool=>u32 q.1) (sX hu.m.db _) u0
theorem Bm(hop:op=49){l:List Int}{va v:Nat}(hva:va≤4294967295)(hv:v≤4294967295)(hw:(R.wd ((l++[(v:Int)])++[(va:Int)])).s.wf)(hf:R.s.flags≤15)(hU:UOk n U)(hd:d.ok):sC n op (R.wd ((l++[(v:Int)])++[(va:Int)])).s d (lm n (R.wd l) U d va v):=by
 subst hop;have hu:=qJ hU (R.wd l) va 3;have ht:=sZ n (R.wd l) U va hva 3;have hs:=qI n (R.wd l) U va 3;have hc:=nJ n (R.wd l) U va 3;have hdd:∀z,z∈(l++[(v:Int)])++[(va:Int)]→u32 z:=hw.d;have hwl:(R.wd l).s.wf:=sG hw (pH (pH hdd));unfold lm;obtain⟨⟨p,ok,r,u⟩,hq⟩:=Zgn (cK n (R.wd l) U va 3);rw[hq]at hu ht hs hc⊢;have hu:UOk n u:=hu;have ht:TrU r.JA:=ht;have hs:r.s=(R.wd l).s:=hs;have hc:ok=(r.JA.Jr==0):=hc;have hdid:Did 49 (R.wd ((l++[(v:Int)])++[(va:Int)])).s r.s:=by
  rw[hs];exact Did.of (l:=l) (m:=R.s.r) [(v:Int),(va:Int)] [] [] [] rfl hwl hf rfl cJ cJ cJ cJ
 cases hok:ok with
 |false=>
  rw[hok]at hc;exact⟨hu,hd,Nat.le_succ _,ht,fun h=>by have h:r.JA.Jr=0:=h;rw[h]at hc;cases hc⟩
 |true=>
  simp only[Bool.not_true,aa];refine bM (sC n 49 (R.wd ((l++[(v:Int)])++[(va:Int)])).s d) ?_ ?_
  ·obtain⟨h1,h2,h3⟩:=yN hu.m hd (sS p.toNat) hv;obtain⟨⟨o,M',d'⟩,hq2⟩:=Zgn (cP n u.m d (sS p.toNat) v);rw[hq2]at h1 h2 h3;rw[hq2];cases o with
   |false=>exact⟨⟨h1,hu.t⟩,h2,h3,(tr10 (hI hva)),fun h=>by cases h⟩
   |true=>exact⟨⟨h1,hu.t⟩,h2,h3,ht,fun _=>hdid⟩
  exact⟨⟨hu.m.J9 _ _ 4,hu.t⟩,hd,Nat.le_succ _,ht,fun _=>hdid⟩
theorem qV(hn:bS op=((1,1),(0,0))){l:List Int}{va k:Nat}(hva:va≤4294967295)(hk:k≤4)(hw:(R.wd (l++[(va:Int)])).s.wf)(hf:R.s.flags≤15)(hU:UOk n U)(hd:d.ok):sC n op (R.wd (l++[(va:Int)])).s d (iw.of (lN n (R.wd l) U va k) d):=by
 have hwl:(R.wd l).s.wf:=sG hw (pH hw.d);have hv:=BR hU (R.wd l).sp va hk;exact⟨oV hU _ _ _ _,hd,Nat.le_succ _,vU n U _ va k hva 2,fun _=>Did.of (l:=l) (m:=R.s.r) [(va:Int)] [_] [] [] hn (sG hwl (AH (pH hw.d) hv)) hf rfl rfl rfl cJ (by simp[lN,Run.push])⟩
theorem qU(hn:bS op=((2,0),(0,0))){l:List Int}{v:Int}{va k:Nat}(hva:va≤4294967295)(hw:(R.wd ((l++[v])++[(va:Int)])).s.wf)(hf:R.s.flags≤15)(hU:UOk n U)(hd:d.ok):sC n op (R.wd ((l++[v])++[(va:Int)])).s d (iw.of (lp n (R.wd l) U va k v) d):=by
 have hdd:∀z,z∈(l++[v])++[(va:Int)]→u32 z:=hw.d;have hwl:(R.wd l).s.wf:=sG hw (pH (pH hdd));exact⟨xW hU _ _ _ _,hd,Nat.le_succ _,vU n U _ va k hva 3,fun _=>Did.of (l:=l) (m:=R.s.r) [v,(va:Int)] [] [] [] hn hwl hf rfl cJ (by simp[lp]) cJ (by simp[lp])⟩
theorem tn:eE.length=16:=aJ
theorem yk(hw:R.s.wf)(hf:R.s.flags≤15)(hc:0≤R.count∧R.count≤18446744073709551615)(ht:R.JA=Tr.none)(hU:UOk n U)(hd:d.ok)(hnn:u32 nn)(h1:(bS op).1.1≤R.s.d.length)(hst:dF op nn R=none)(hrk:(cH op nn R).1=false):sC n op R.s d (dO n op nn ⟨R,U,d⟩):=by
 have ht':TrU R.JA:=by rw[ht];exact trN
 have h0:∀{op},bS op=((0,0),(0,0))→∀(s':St),s'.wf→s'.flags≤15→s'.count=R.s.count→s'.d=R.s.d→s'.r=R.s.r→Did op R.s s':=fun hn s' a1 a2 a3 a4 a5=>
  Did.of (l:=R.s.d) (m:=R.s.r) [] [] [] [] hn a1 a2 a3 cJ (by simp[a4]) cJ (by simp[a5])
 by_cases e:op=48
 ·subst e;obtain⟨R,l,x,rfl⟩:=Run.snoc (show 1≤R.s.d.length from h1);have hx:=xB (l:=l) hw.d;obtain⟨va,rfl⟩:∃va:Nat,x=va:=aq hx.1;have hva:va≤4294967295:=by have:(va:Int)≤_:=hx.2;omega
  have he:dO n 48 nn ⟨R.wd (l++[(va:Int)]),U,d⟩=ln n (R.wd l) U d va:=by show ln _ _ _ _ _=_;rw[Run.pop_wd,Run.top_wd];rfl
  rw[he];exact BQ rfl hva hw hf hU hd
 have e48:(op==48)=false:=by simpa using e
 by_cases e:op=49
 ·subst e;obtain⟨R,l,y,x,rfl⟩:=Run.J3 (show 2≤R.s.d.length from h1);have hx:=xB (l:=l++[y]) hw.d;have hy:=xB (l:=l) (pH (l:=l++[y]) hw.d);obtain⟨va,rfl⟩:∃va:Nat,x=va:=aq hx.1;obtain⟨v,rfl⟩:∃v:Nat,y=v:=aq hy.1;have hva:va≤4294967295:=by have:(va:Int)≤_:=hx.2;omega
  have hv:v≤4294967295:=by have:(v:Int)≤_:=hy.2;omega
  have he:dO n 49 nn ⟨R.wd ((l++[(v:Int)])++[(va:Int)]),U,d⟩=lm n (R.wd l) U d va v:=by show lm _ _ _ _ _ _=_;rw[Run.pop_wd,Run.top_wd,Run.pop_wd,Run.top_wd];rfl
  rw[he];exact Bm rfl hva hv hw hf hU hd
 have e49:(op==49)=false:=by simpa using e
 by_cases e:op=50
 ·subst e;obtain⟨R,l,x,rfl⟩:=Run.snoc (show 1≤R.s.d.length from h1);have hx:=xB (l:=l) hw.d;obtain⟨va,rfl⟩:∃va:Nat,x=va:=aq hx.1;have hva:va≤4294967295:=by have:(va:Int)≤_:=hx.2;omega
  have he:dO n 50 nn ⟨R.wd (l++[(va:Int)]),U,d⟩=iw.of (lN n (R.wd l) U va 4) d:=by show iw.of (lN _ _ _ _ _) _=_;rw[Run.pop_wd,Run.top_wd];rfl
  rw[he];exact qV rfl hva Wq5 hw hf hU hd
 have e50:(op==50)=false:=by simpa using e
 by_cases e:op=51
 ·subst e;obtain⟨R,l,y,x,rfl⟩:=Run.J3 (show 2≤R.s.d.length from h1);have hx:=xB (l:=l++[y]) hw.d;obtain⟨va,rfl⟩:∃va:Nat,x=va:=aq hx.1;have hva:va≤4294967295:=by have:(va:Int)≤_:=hx.2;omega
  have he:dO n 51 nn ⟨R.wd ((l++[y])++[(va:Int)]),U,d⟩=iw.of (lp n (R.wd l) U va 4 y) d:=by show iw.of (lp _ _ _ _ _ _) _=_;rw[Run.pop_wd,Run.top_wd,Run.pop_wd,Run.top_wd];rfl
  rw[he];exact qU rfl hva hw hf hU hd
 have e51:(op==51)=false:=by simpa using e
 by_cases e:op=52
 ·subst e;obtain⟨R,l,x,rfl⟩:=Run.snoc (show 1≤R.s.d.length from h1);have hx:=xB (l:=l) hw.d;obtain⟨va,rfl⟩:∃va:Nat,x=va:=aq hx.1;have hva:va≤4294967295:=by have:(va:Int)≤_:=hx.2;omega
  have he:dO n 52 nn ⟨R.wd (l++[(va:Int)]),U,d⟩=iw.of (lN n (R.wd l) U va 1) d:=by show iw.of (lN _ _ _ _ _) _=_;rw[Run.pop_wd,Run.top_wd];rfl
  rw[he];exact qV rfl hva Wq5 hw hf hU hd
 have e52:(op==52)=false:=by simpa using e
 by_cases e:op=53
 ·subst e;obtain⟨R,l,y,x,rfl⟩:=Run.J3 (show 2≤R.s.d.length from h1);have hx:=xB (l:=l++[y]) hw.d;obtain⟨va,rfl⟩:∃va:Nat,x=va:=aq hx.1;have hva:va≤4294967295:=by have:(va:Int)≤_:=hx.2;omega
  have he:dO n 53 nn ⟨R.wd ((l++[y])++[(va:Int)]),U,d⟩=iw.of (lp n (R.wd l) U va 1 y) d:=by show iw.of (lp _ _ _ _ _ _) _=_;rw[Run.pop_wd,Run.top_wd,Run.pop_wd,Run.top_wd];rfl
  rw[he];exact qU rfl hva hw hf hU hd
 have e53:(op==53)=false:=by simpa using e
 by_cases e:op=64
 ·subst e;exact⟨hU,hd,Nat.le_succ _,tr11,fun h=>by cases h⟩
 have e64:(op==64)=false:=by simpa using e
 by_cases e:op=65
 ·subst e;exact⟨hU,hd,Nat.le_succ _,ht',fun _=>h0 rfl R.s.back ⟨hw.epc,hw.flags,hw.root,hw.vec,hw.epc,hw.Jr,hw.addr,hw.count,hw.d,hw.r⟩ hf rfl rfl rfl⟩
 have e65:(op==65)=false:=by simpa using e
 by_cases e:op=66
 ·subst e;have hwc:(R.s.JZ R.count).wf:=⟨hw.pc,hw.flags,hw.root,hw.vec,hw.epc,hw.Jr,hw.addr,hc,hw.d,hw.r⟩;exact⟨hU,hd,Nat.le_succ _,ht',fun _=>Did.of (l:=R.s.d) (m:=R.s.r) [] [((R.s.JZ R.count).get nn).1] [] [] rfl (sG hw (AH hw.d (get_u32 hwc nn))) hf rfl cJ rfl cJ (ax _).symm⟩
 have e66:(op==66)=false:=by simpa using e
 by_cases e:op=67
 ·subst e;obtain⟨R,l,x,rfl⟩:=Run.snoc (show 1≤R.s.d.length from h1);have hwl:(R.wd l).s.wf:=sG hw (pH (l:=l) hw.d);have hs:=set_wf hwl hf nn (xB (l:=l) hw.d);obtain⟨q1,q2⟩:=St.set_dr (R.wd l).s nn x;have he:dO n 67 nn ⟨R.wd (l++[x]),U,d⟩=⟨(R.wd l).ws ((R.wd l).s.set nn x).1,bif nn==1||nn==2 then⟨U.m,eE⟩else U,d⟩:=by show iw.mk _ _ _=_;rw[Run.pop_wd,Run.top_wd]
  rw[he];exact⟨bM (UOk n) ⟨hU.m,tn⟩ hU,hd,Nat.le_succ _,ht',fun _=>Did.of (l:=l) (m:=R.s.r) [x] [] [] [] rfl hs.1 hs.2.1 hs.2.2 rfl (by simp only[q1,ax]) cJ (by simp only[q2,ax])⟩
 have e67:(op==67)=false:=by simpa using e
 by_cases e:op=68
 ·subst e;obtain⟨R,l,x,rfl⟩:=Run.snoc (show 1≤R.s.d.length from h1);have he:dO n 68 nn ⟨R.wd (l++[x]),U,d⟩=⟨R.wd l,⟨U.m,sI U.t x.toNat⟩,d⟩:=by show iw.mk _ _ _=_;rw[Run.pop_wd,Run.top_wd]
  rw[he];exact⟨⟨hU.m,(Da _ _).trans hU.t⟩,hd,Nat.le_succ _,ht',fun _=>Did.of (l:=l) (m:=R.s.r) [x] [] [] [] rfl (sG hw (pH (l:=l) hw.d)) hf rfl rfl cJ cJ cJ⟩
 have e68:(op==68)=false:=by simpa using e
 by_cases e:op=69
 ·subst e;exact⟨hU,hd,Nat.le_succ _,ht',fun _=>h0 rfl R.s.halt ⟨hw.pc,hw.flags,hw.root,hw.vec,hw.epc,hw.Jr,hw.addr,hw.count,hw.d,hw.r⟩ hf rfl rfl rfl⟩
 have e69:(op==69)=false:=by simpa using e
 have he:dO n op nn ⟨R,U,d⟩=⟨R,U,d⟩:=by simp only[dO, *,aa]
 have hn:bS op=((0,0),(0,0)):=by
  have n1:(op==1)=false:=by cases h:(op==1)with|false=>rfl|true=>(have:=jY h;subst this;cases hst)
  have n2:(op==2)=false:=by cases h:(op==2)with|false=>rfl|true=>(have:=jY h;subst this;cases hst)
  have n3:(op==3)=false:=by cases h:(op==3)with|false=>rfl|true=>(have:=jY h;subst this;cases hst)
  have n4:(op==4)=false:=by cases h:(op==4)with|false=>rfl|true=>(have:=jY h;subst this;cases hst)
  have n5:(op==5)=false:=by cases h:(op==5)with|false=>rfl|true=>(have:=jY h;subst this;cases hst)
  have n6:(op==6)=false:=by cases h:(op==6)with|false=>rfl|true=>(have:=jY h;subst this;cases hst)
  have n7:(op==7)=false:=by cases h:(op==7)with|false=>rfl|true=>(have:=jY h;subst this;cases hst)
  have n8:(op==8)=false:=by cases h:(op==8)with|false=>rfl|true=>(have:=jY h;subst this;cases hst)
  have n16:(op==16)=false:=by cases h:(op==16)with|false=>rfl|true=>(have:=jY h;subst this;cases hrk)
  have n17:(op==17)=false:=by cases h:(op==17)with|false=>rfl|true=>(have:=jY h;subst this;cases hrk)
  have n18:(op==18)=false:=by cases h:(op==18)with|false=>rfl|true=>(have:=jY h;subst this;cases hrk)
  have n19:(op==19)=false:=by cases h:(op==19)with|false=>rfl|true=>(have:=jY h;subst this;cases hrk)
  have n20:(op==20)=false:=by cases h:(op==20)with|false=>rfl|true=>(have:=jY h;subst this;cases hrk)
  have n21:(op==21)=false:=by cases h:(op==21)with|false=>rfl|true=>(have:=jY h;subst this;cases hrk)
  have n22:(op==22)=false:=by cases h:(op==22)with|false=>rfl|true=>(have:=jY h;subst this;cases hrk)
  have n23:(op==23)=false:=by cases h:(op==23)with|false=>rfl|true=>(have:=jY h;subst this;cases hrk)
  have n24:(op==24)=false:=by cases h:(op==24)with|false=>rfl|true=>(have:=jY h;subst this;cases hrk)
  have n25:(op==25)=false:=by cases h:(op==25)with|false=>rfl|true=>(have:=jY h;subst this;cases hrk)
  have n38:(op==38)=false:=by cases h:(op==38)with|false=>rfl|true=>(have:=jY h;subst this;cases hrk)
  have n39:(op==39)=false:=by cases h:(op==39)with|false=>rfl|true=>(have:=jY h;subst this;cases hrk)
  have n40:(op==40)=false:=by cases h:(op==40)with|false=>rfl|true=>(have:=jY h;subst this;cases hrk)
  unfold bS;simp only[*,aa]
 rw[he];exact⟨hU,hd,Nat.le_succ _,ht',fun _=>h0 hn R.s hw hf rfl rfl rfl⟩
theorem yl{s:St}(h:s.wf):s.next.wf:=by
 refine⟨h.pc,h.flags,h.root,h.vec,h.epc,h.Jr,h.addr,?_,h.d,h.r⟩;show 0≤IntKind.u64.wrap _∧IntKind.u64.wrap _≤_;rw[aU];omega
theorem CU{s:St}(h:s.wf)(c:Int){a:Int}(ha:u32 a):(s.JA c a).wf:=⟨h.vec,h.flags,h.root,h.vec,h.pc,gz _,ha,h.count,h.d,h.r⟩
theorem DV{s:St}(hw:s.wf)(hr:s.right=true)(hnn:u32 nn)(hck:gc s op nn=0)(hU:UOk n U)(hd:d.ok):sC n op s.next d (ru n s op nn U d):=by
 obtain⟨h16,r16,f15⟩:=St.fits hr;obtain⟨n1,n2⟩:=mw hck;have hwn:=yl hw
 have hw0:(eN s op).s.wf:=AW hwn (gz _);have key:∀{m:iw},sC n op (eN s op).s d m→sC n op s.next d m:=fun h=>⟨h.u,h.dv,h.o,h.t,fun hc=>by
  have h1:=h.did hc;exact⟨h1.wf,h1.fl,h1.cnt,h1.dl,h1.dt,h1.rl,h1.rt⟩⟩
 unfold ru;cases hst:dF op nn (eN s op)with
 |some R'=>
  obtain⟨h1,h2, -, -⟩:=Dh hw0 f15 hnn n1 n2 hst;exact key ⟨hU,hd,Nat.le_succ _,by show TrU R'.JA;rw[h2];exact trN,fun _=>h1⟩
 |none=>
  cases hrk:(cH op nn (eN s op)).1 with
  |true=>
   obtain⟨h1,h2, -, -⟩:=BD hw0 f15 n1 n2 hrk;refine key ⟨hU,hd,Nat.le_succ _,?_,fun _=>h1⟩;show TrU (cH op nn (eN s op)).2.JA;rcases h2 with h2|h2<;>rw[h2]
   ·exact trN
   exact⟨u0,by decide,by decide⟩
  |false=>
   simp only[aa];rw[og op nn _ hrk];exact key (yk hw0 f15 hw.count rfl hU hd hnn n1 hst hrk)
structure Goes(n:Nat)(s:St)(d:Dev)(q:Res×Mmu×Dev):Prop where
 wf:q.1.s.wf
 right:q.1.s.right=true
 cnt:q.1.s.count=IntKind.u64.wrap (s.count+1)
 u:UOk n q.2.1
 dv:q.2.2.ok
 o:q.2.2.out.length≤d.out.length+1
theorem yp{s:St}{q:(Nat×Nat)×(Nat×Nat)}(h:j8 s q=0):(s.d.length:Int) - q.1.1+q.1.2≤16∧(s.r.length:Int) - q.2.1+q.2.2≤16:=by
 unfold j8 at h;cases hc:(decide ((s.d.length:Int)<(q.1.1:Int))||decide ((s.r.length:Int)<(q.2.1:Int)))with
 |true=>rw[hc]at h;cases h
 |false=>
  rw[hc]at h;simp only[aa]at h;cases hc2:(decide (16<(s.d.length:Int) - (q.1.1:Int)+(q.1.2:Int))||decide (16<(s.r.length:Int) - (q.2.1:Int)+(q.2.2:Int)))with
  |true=>rw[hc2]at h;cases h
  |false=>
   simp only[bj,ah]at hc2;omega
theorem xu{s:St}{op n:Int}(h:gc s op n=0):(s.d.length:Int) - (bS op).1.1+(bS op).1.2≤16∧(s.r.length:Int) - (bS op).2.1+(bS op).2.2≤16:=by
 unfold gc at h;revert h;refine bM (fun x:Int=>x=0→(s.d.length:Int) - (bS op).1.1+(bS op).1.2≤16∧(s.r.length:Int) - (bS op).2.1+(bS op).2.2≤16) (fun h=>by cases h) ?_;refine bM (fun x:Int=>x=0→(s.d.length:Int) - (bS op).1.1+(bS op).1.2≤16∧(s.r.length:Int) - (bS op).2.1+(bS op).2.2≤16) (fun h=>by cases h) ?_;refine bM (fun x:Int=>x=0→(s.d.length:Int) - (bS op).1.1+(bS op).1.2≤16∧(s.r.length:Int) - (bS op).2.1+(bS op).2.2≤16) (fun h=>by cases h) ?_;refine bM (fun x:Int=>x=0→(s.d.length:Int) - (bS op).1.1+(bS op).1.2≤16∧(s.r.length:Int) - (bS op).2.1+(bS op).2.2≤16) (fun h=>by cases h) ?_;exact yp
theorem Fg{s s':St}(h:Did op s s')(hs:s.d.length≤16∧s.r.length≤16)(hn:(bS op).1.1≤s.d.length∧(bS op).2.1≤s.r.length)(hr:(s.d.length:Int) - (bS op).1.1+(bS op).1.2≤16∧(s.r.length:Int) - (bS op).2.1+(bS op).2.2≤16):s'.right=true:=by
 have h1:=h.dl;have h2:=h.rl;have h3:=h.fl;simp only[St.right,aB,ak];omega
theorem sc{s:St}(hw:s.wf)(hr:s.right=true)(hnn:u32 nn)(hU:UOk n U)(hd:d.ok):Goes n s d (vr n s op nn U d):=by
 have hU':UOk n ⟨U.m.calm,U.t⟩:=⟨hU.m.calm,hU.t⟩;have hfit:=St.fits hr;unfold vr;rw[hr];simp only[Bool.not_true,aa];cases hck:(gc s op nn !=0)with
 |true=>exact⟨CU (yl hw) _ u0,hr,rfl,hU',hd,Nat.le_succ _⟩
 |false=>
  have hck0:gc s op nn=0:=by simpa using hck
  have hA:=DV (n:=n) hw hr hnn hck0 hU' hd;simp only[aa];obtain⟨m,hm⟩:=Zgn (ru n s op nn ⟨U.m.calm,U.t⟩ d);rw[hm]at hA⊢;unfold B8;cases hc:(m.r.JA.Jr !=0)with
  |true=>exact⟨CU (yl hw) _ hA.t.1,hr,rfl,hA.u,hA.dv,hA.o⟩
  |false=>
   have h1:=hA.did (by simpa using hc);have c1:=mw hck0;have c2:=xu hck0;exact⟨h1.wf,Fg h1 ⟨hfit.1,hfit.2.1⟩ c1 c2,h1.cnt,hA.u,hA.dv,hA.o⟩
end
end Go.Ink
namespace Go.Proofs.YtakodpimdalajaaGreatDoor
open Go.RowKit Go.Ink Go.Proofs.Tryz
attribute [local irreducible] OpY bP
theorem F1{n lo hi x:Int}(hx:jG n lo hi=x)(w:World)(h0:0≤lo)(h1:lo≤hi)(h2:hi≤1000000000000):Ctr prog 12 [.int .i64 n,.int .i64 lo,.int .i64 hi] w [] (fun v cs=>v= .int .i64 x∧cs=[]):=hx▸nI n lo hi w h0 h1 h2
end Go.Proofs.YtakodpimdalajaaGreatDoor
namespace Go.Ink
open Go.RowKit
abbrev pS:List Int:=[1,1,1,2,3,4,5,6,7,8,16,17,18,19,20,21,22,23,24,25,32,33,34,35,36,37,38,39,40,48,49,50,51,52,53,64,65,66,67,68,0,69]
structure AskR where
 n:Int
 v:Int
 At:Option Addr
 ct:Nat
 ts:List Int
 raw:Bool
 op:Int
 nn:Int
def AskR.cells(a:AskR):List Value:=[.int .i64 a.n,.int .u32 a.v,.slice a.At a.ts.length a.ct,.bool a.raw,.int .i64 a.op,.int .u32 a.nn]
theorem AskR.J7(a:AskR):a.cells.length=6:=rfl
structure AskR.ok(W:World)(a:AskR):Prop where
 v:u32 a.v
 nn:u32 a.nn
 rd:Rd W .u32 a.At a.ts.length a.ct a.ts
 ts:∀x,x∈a.ts→u32 x
end Go.Ink
namespace Go.Proofs.YtakodpimdalajaaGreatDoor
open Go.RowKit Go.Ink Go.Proofs.Tryz
attribute [local irreducible] OpY bP
theorem x9(op:Int)(w:World):Ctr prog 79 [.int .i64 op] w [] (fun v cs=>(∃z,v= .int .i64 z)∧cs=[]):=by
 refine bL func79 rfl ntmps79 rfl (Inv.start w) ?_;refine gL ?_;refine ZW ?_ ?_<;>intro hc1
 ·refine fG ?_;exact⟨⟨_,rfl⟩,rfl⟩
 refine lw ?_;refine Z_3 ?_;refine ZW ?_ ?_<;>intro hc3
 ·refine fG ?_;exact⟨⟨_,rfl⟩,rfl⟩
 refine lw ?_;refine lw ?_;refine Z_3 ?_;refine ZW ?_ ?_<;>intro hc5
 ·refine fG ?_;exact⟨⟨_,rfl⟩,rfl⟩
 refine Z_9 ?_;refine Zra ?_;exact⟨⟨_,rfl⟩,rfl⟩
theorem Ef(n:Int)(w:World):Ctr prog 148 [.int .i64 n] w [] (fun v cs=>(∃z,v= .int .i64 z∧z∈pS)∧cs=[]):=by
 obtain⟨x,hx⟩:=Zgn (jG n 0 1073741824);have hxr:=mD n 0 1073741824 Wq5;rw[hx]at hxr;have HW:=fun w=>F1 hx w Wq5 Wq5 Wq5
 obtain⟨k,hk⟩:∃k:Nat,x%42=k:=aq Wq1;have hk42:k<pS.length:=by show k<42;omega
 have hop:pS[k]? =some (pS[k]'hk42):=ai hk42;have hmem:pS[k]'hk42∈pS:=List.getElem_mem hk42;obtain⟨op,hq⟩:=Zgn (pS[k]'hk42);rw[hq]at hop hmem;have hk42:k<42:=hk42;refine bL func148 rfl ntmps148 rfl (Inv.start w) ?_;refine Z_7 ?_;refine ku ?_;rintro _ _ ⟨b4,rfl,rfl⟩;refine Z_7 ?_;refine ZSe (fun w hi=>HW w) ?_;refine Z_2 ?_;refine Zy (gy (Zv rfl) (Zv rfl) Wq1 (show _=(k:Int)from by rw[aF Wq1];exact hk)) ?_;refine Zy (cu (j:=k) (sz:=1) (r:=k) rfl Zrf (Zv rfl) (Zv rfl) Wq4 Wq4 Wq1) ?_;refine dL (bO Zrf Zv0) (du Zh (cQ (l:=[1,1,1,2,3,4,5,6,7,8,16,17,18,19,20,21,22,23,24,25,32,33,34,35,36,37,38,39,40,48,49,50,51,52,53,64,65,66,67,68,0,69]) hop)) rfl ?_;refine Z_4 ?_;refine Zra ?_;exact⟨⟨_,rfl,hmem⟩,rfl⟩
theorem zM(n v:Int)(hv:u32 v)(w:World):Ctr prog 106 [.int .i64 n,.int .u32 v] w [] (fun x cs=>(∃op nn,x= .agg #[.int .i64 op,.int .u32 nn]∧u32 nn∧op∈pS)∧cs=[]):=by
 obtain⟨v,rfl⟩:∃m:Nat,v=m:=aq hv.1;have hv2:(v:Int)≤4294967295:=hv.2;obtain⟨x,hx,hxu⟩:∃x,([(v:Int),((v%256:Nat):Int),((32768+v%64:Nat):Int),((v%4096:Nat):Int)]:List Int)[v%4]? =some x∧u32 x:=by
  have:v%4=0∨v%4=1∨v%4=2∨v%4=3:=by omega
  rcases this with h|h|h|h<;>rw[h]
  ·exact⟨_,rfl,hv⟩
  ·exact⟨_,rfl,hI Wq1⟩
  ·exact⟨_,rfl,hI Wq1⟩
  exact⟨_,rfl,hI Wq1⟩
 refine bL func106 rfl ntmps106 rfl (Inv.start w) ?_;refine Z_2 ?_;refine ZN fun b4=>?_;refine Z_5 ?_;refine ZS (fun w hi=>Ef n w) ?_;rintro _ _ ⟨_,⟨⟨op,rfl,hop⟩,rfl⟩,rfl⟩;refine ZA ?_;refine ZN fun b5=>?_
 refine ZM ?_;refine Z_7 ?_;refine ZS (fun w hi=>x9 op w) ?_;rintro _ _ ⟨_,⟨⟨z,rfl⟩,rfl⟩,rfl⟩;refine Z_9 ?_;refine ZW ?_ ?_<;>intro hc3
 ·refine Z_3 ?_;refine Zy (gy (Zv rfl) (Zv rfl) Wq1 (show _=((v%256:Nat):Int)from by rw[aF Wq1];omega)) ?_;refine Z_1 ?_;refine ZL ?_;refine p6 ?_;refine ZW ?_ ?_<;>intro hc5
  ·refine Z_2 ?_;refine Zy (gy (Zv rfl) (Zv rfl) Wq1 (show _=((v%12:Nat):Int)from by rw[aF Wq1];omega)) ?_;refine Z_1 ?_;refine ZL ?_;refine gL ?_;refine ZW ?_ ?_<;>intro hc7
   ·refine Z_2 ?_;refine Zy (gy (Zv rfl) (Zv rfl) Wq1 (show _=((v%40:Nat):Int)from by rw[aF Wq1];omega)) ?_;refine Zy (cX (Zv rfl) (Zv rfl) (show _=((v%40+240:Nat):Int)from by rw[u32_wrap_id _ Wq1 Wq1];omega)) ?_;refine Zy (gy (Zv rfl) (Zv rfl) Wq1 (show _=(((v%40+240)%256:Nat):Int)from by rw[aF Wq1];omega)) ?_;refine Z_1 ?_;refine ZL ?_;exact Wq42
   exact Wq42
  refine gL ?_;refine ZW ?_ ?_<;>intro hc7
  ·refine Z_2 ?_;refine Zy (gy (Zv rfl) (Zv rfl) Wq1 (show _=((v%40:Nat):Int)from by rw[aF Wq1];omega)) ?_;refine Zy (cX (Zv rfl) (Zv rfl) (show _=((v%40+240:Nat):Int)from by rw[u32_wrap_id _ Wq1 Wq1];omega)) ?_;refine Zy (gy (Zv rfl) (Zv rfl) Wq1 (show _=(((v%40+240)%256:Nat):Int)from by rw[aF Wq1];omega)) ?_;refine Z_1 ?_;refine ZL ?_;exact Wq42
  exact Wq42
 refine Z_6 ?_;refine ZW ?_ ?_<;>intro hc9
 ·refine Z_3 ?_;refine Zy (gy (Zv rfl) (Zv rfl) Wq1 (show _=((v%256:Nat):Int)from by rw[aF Wq1];omega)) ?_;refine ZA ?_;refine Zy (gy (Zv rfl) (Zv rfl) Wq1 (show _=((v%64:Nat):Int)from by rw[aF Wq1];omega)) ?_;refine Zy (cX (Zv rfl) (Zv rfl) (show _=((32768+v%64:Nat):Int)from by rw[u32_wrap_id _ Wq1 Wq1];omega)) ?_;refine ZA ?_;refine Zy (gy (Zv rfl) (Zv rfl) Wq1 (show _=((v%4096:Nat):Int)from by rw[aF Wq1];omega)) ?_;refine ku ?_;rintro _ _ ⟨b51,rfl,rfl⟩;refine ZA ?_;refine Zy (gy (Zv rfl) (Zv rfl) Wq1 (show _=((v%4:Nat):Int)from by rw[aF Wq1];omega)) ?_;refine Zy (cu (j:=(v%4)) (sz:=1) (r:=(v%4)) rfl Zrf (Zv rfl) (Zv rfl) Wq4 Wq4 Wq1) ?_;refine dL (bO Zrf Zv0) (du Zh (cQ (l:=[(v:Int),((v%256:Nat):Int),((32768+v%64:Nat):Int),((v%4096:Nat):Int)]) hx)) rfl ?_;refine Z_1 ?_;refine ZL ?_;exact Wq42
 exact Wq42
end Go.Proofs.YtakodpimdalajaaGreatDoor
namespace Go.Ink
open Go.RowKit
end Go.Ink
namespace Go.Proofs.YtakodpimdalajaaGreatDoor
open Go.RowKit Go.Ink Go.Proofs.Tryz
attribute [local irreducible] OpY bP
end Go.Proofs.YtakodpimdalajaaGreatDoor
namespace Go.Ink
open Go.RowKit
section
variable {n:Nat} {op nn:Int} {s:St} {U:Mmu} {d:Dev}
end
theorem lR{W:World}{k:IntKind}{A:Option Addr}{c:Nat}{b:List Int}(h:Rd W k A b.length c b)(m:Nat):Rd W k A (b.take m).length c (b.take m):=by
 refine⟨by simp[ints],?_,h.max,fun e=>?_,fun ad e j u hu=>h.at_ ad e j u ?_⟩
 ·have:=h.cap;rw[aC];omega
 ·have:=h.nil e;rw[aC];omega
 unfold ints at hu⊢;rw[aZ]at hu⊢;rw[List.getElem?_take]at hu;by_cases hj:j<m
 ·simpa[hj]using hu
 simp[hj]at hu
end Go.Ink
namespace Go.Proofs.YtakodpimdalajaaGreatDoor
open Go.RowKit Go.Ink Go.Proofs.Tryz
attribute [local irreducible] OpY bP
theorem Fj(A:Option Addr)(c:Nat)(l:List Int)(k:Nat)(w:World)(hc:l.length≤c):Ctr prog 56 [.slice A l.length c,.int .i64 k] w [] (fun v cs=>v= .slice A (l.take k).length c∧cs=[]):=by
 rw[aC,Nat.min_comm];refine bL func56 rfl ntmps56 rfl (Inv.start w) ?_;refine gL ?_;refine ZW ?_ ?_<;>intro hc1
 ·simp only[ak]at hc1;have e:min l.length k=k:=by omega
  rw[e];refine Z_4 ?_;refine Zy (gf k rfl Zrf (Zv rfl) (Zv rfl) (fun _=>by first|rfl|omega) Wq4) ?_;refine Z_5 ?_;refine Zra ?_;exact df
 simp only[ah]at hc1;have e:min l.length k=l.length:=by omega
 rw[e];refine Z_9 ?_;refine Zra ?_;exact df
theorem wf_u8{n:Int}(h:(Lit.int .u8 n).wf=true):0≤n∧n≤255:=by
 simp only[Lit.wf,aB,ak]at h;have h1:IntKind.u8.min=0:=rfl;have h2:IntKind.u8.max=255:=rfl;rw[h1,h2]at h;exact h
theorem xm(b:Nat)(Ao:Option Addr)(co:Nat)(o:List Int)(Ai:Option Addr)(ni ci:Nat)(ho:o.length≤1000000000)(w:World)(h:(xn b Ao o.length co Ai ni ci).ok w)(h2:(b8 Ao co o).ok w):
  Ctr prog 62 [.pointer (some ⟨b,0,none⟩)] w [] (fun v cs=>∃A' c',v= .slice A' o.length c'∧cs=[b8 A' c' o]):=by
 refine bL func62 rfl ntmps62 rfl (Inv.start w) ?_;refine dS ?_;refine sB ?_;refine ZS (fun w hi=>mv Ao _ co o w (RdV.Jz (de h2) hi) Wq1) ?_;rintro _ _ ⟨_,⟨A',c',rfl,rfl⟩,rfl⟩;refine Z_4 ?_;refine Zrb ([slv _ _ _ _ _ _]) ?_;exact⟨_,_,rfl,rfl⟩
theorem Io(b:Nat)(Ao:Option Addr)(no co:Nat)(Ai:Option Addr)(ci:Nat)(i:List Int)(ho:i.length≤1000000000)(w:World)(h:(xn b Ao no co Ai i.length ci).ok w)(h2:(b8 Ai ci i).ok w):
  Ctr prog 68 [.pointer (some ⟨b,0,none⟩)] w [] (fun v cs=>∃A' c',v= .slice A' i.length c'∧cs=[b8 A' c' i]):=by
 refine bL func68 rfl ntmps68 rfl (Inv.start w) ?_;refine dS ?_;refine sB ?_;refine ZS (fun w hi=>mv Ai _ ci i w (RdV.Jz (de h2) hi) Wq1) ?_;rintro _ _ ⟨_,⟨A',c',rfl,rfl⟩,rfl⟩;refine Z_4 ?_;refine Zrb ([slv _ _ _ _ _ _]) ?_;exact⟨_,_,rfl,rfl⟩
theorem Fe(b bd:Nat)(l:List Int)(w:World)(h:(Cs b bd).ok w)(h2:(yK bd l).ok w):
  Ctr prog 69 [.pointer (some ⟨b,0,none⟩)] w [] (fun v cs=>∃A' c',v= .slice A' 1024 c'∧cs=[sl .u8 5 A' 1024 c' l]):=by
 refine bL func69 rfl ntmps69 rfl (Inv.start w) ?_;refine dS ?_;refine sB ?_;refine ZS (fun w hi=>mv (some ⟨bd,0,none⟩) 1024 1024 l w (RdV.Jz (de h2) hi) Wq5) ?_;rintro _ _ ⟨_,⟨A',c',rfl,rfl⟩,rfl⟩;refine Z_4 ?_;refine Zrb ([slv _ _ _ _ _ _]) ?_;exact⟨_,_,rfl,rfl⟩
end Go.Proofs.YtakodpimdalajaaGreatDoor
namespace Go.Ink
open Go.RowKit
def dx(op:Int):Bool:=bif(bif decide (0≤op)then decide (op≤8)else false)then true else bif(bif bif decide (16≤op)then decide (op≤25)else false then op !=24 else false)then true else(bif decide (32≤op)then decide (op≤40)else false)
theorem iS{op:Int}(h:dx op=true):(0≤op∧op≤8)∨(16≤op∧op≤23)∨op=25∨(32≤op∧op≤40):=by
 unfold dx at h;by_cases h1:0≤op<;>by_cases h2:op≤8<;>by_cases h3:16≤op<;>by_cases h4:op≤25<;>by_cases h5:op=24<;>by_cases h6:32≤op<;>by_cases h7:op≤40<;>simp[h1,h2,h3,h4,h5,h6,h7]at h<;>omega
theorem oo{op:Int}(h:dx op=true):op=0∨op=1∨op=2∨op=3∨op=4∨op=5∨op=6∨op=7∨op=8∨(16≤op∧op≤23)∨op=25∨op=32∨(33≤op∧op≤37)∨op=38∨op=39∨op=40:=by
 rcases iS h with h|h|h|h<;>omega
theorem uD{α:Type}{p:List α→Prop}(h0:p [])(hs:∀l x,p l→p (l++[x]))(l:List α):p l:=by
 have h:∀m:List α,p m.reverse:=fun m=>by
  induction m with
  |nil=>exact h0
  |cons x m ih=>rw[List.reverse_cons];exact hs _ x ih
 have:=h l.reverse;rwa[List.reverse_reverse]at this
structure II where
 op:Int
 dst:Int
 a:Int
 b:Int
 imm:Int
structure Sd where
 l:List Int
 Jp:Int
 high:Int
structure Lw where
 code:List II
 d:Sd
 r:Sd
 flags:Int
 target:Int
 branch:Int
def eL(k:Int)(code:List II)(s:Sd):Int×List II×Sd:=
 match s.l.getLast? with
 |some n=>(n,code,⟨s.l.dropLast,s.Jp,s.high⟩)
 |none=>(code.length,code++[⟨k,code.length,0,0,IntKind.u32.wrap s.Jp⟩],⟨[],s.Jp+1,s.high⟩)
def Sd.put(s:Sd)(l:List Int):Sd:=⟨s.l++l,s.Jp,s.high⟩
def Sd.top(s:Sd):Sd:=⟨s.l,s.Jp,max s.high ((s.l.length:Int) - s.Jp)⟩
def Lw.Js(w:Lw):Int×Lw:=((eL 1 w.code w.d).1,⟨(eL 1 w.code w.d).2.1,(eL 1 w.code w.d).2.2,w.r,w.flags,w.target,w.branch⟩)
def Lw.JT(w:Lw):Int×Lw:=((eL 2 w.code w.r).1,⟨(eL 2 w.code w.r).2.1,w.d,(eL 2 w.code w.r).2.2,w.flags,w.target,w.branch⟩)
def Lw.JX(w:Lw)(l:List Int):Lw:=⟨w.code,w.d.put l,w.r,w.flags,w.target,w.branch⟩
def Lw.Kt(w:Lw)(l:List Int):Lw:=⟨w.code,w.d,w.r.put l,w.flags,w.target,w.branch⟩
def Lw.add(w:Lw)(op a b imm:Int):Lw:=⟨w.code++[⟨op,w.code.length,a,b,imm⟩],w.d,w.r,w.flags,w.target,w.branch⟩
def Lw.here(w:Lw):Int:=w.code.length
def Lw.wfl(w:Lw)(x:Int):Lw:=⟨w.code,w.d,w.r,x,w.target,w.branch⟩
def Lw.wtg(w:Lw)(x:Int):Lw:=⟨w.code,w.d,w.r,w.flags,x,w.branch⟩
def Lw.wbr(w:Lw)(x:Int):Lw:=⟨w.code,w.d,w.r,w.flags,w.target,x⟩
def Lw.Ju(w:Lw):Lw:=⟨w.code,w.d.top,w.r.top,w.flags,w.target,w.branch⟩
def Lw.reckon(w:Lw)(op a b:Int):Lw:=
 let w1:=(w.add 4 a b op).wfl w.here
 bif op !=25 then(w1.add 3 a b op).JX [w1.here]else w1
def Lw.go(w:Lw)(op n next:Int):Lw:=
 bif op==1||op==2 then(w.add 0 0 0 n).JX [w.here]else
 bif op==3 then w.Js.2.JX [w.Js.1,w.Js.1]else
 bif op==4 then w.Js.2 else
 bif op==5 then w.Js.2.Js.2.JX [w.Js.1,w.Js.2.Js.1]else
 bif op==6 then w.Js.2.Js.2.JX [w.Js.2.Js.1,w.Js.1,w.Js.2.Js.1]else
 bif op==7 then w.Js.2.Kt [w.Js.1]else
 bif op==8 then w.JT.2.JX [w.JT.1]else
 bif decide (16≤op)&&decide (op≤25)then w.Js.2.Js.2.reckon op w.Js.2.Js.1 w.Js.1 else
 bif op==38 then(w.add 0 0 0 next).Kt [w.here]else
 bif op==39 then w.JT.2.wtg w.JT.1 else
 bif op==40 then w.Js.2.wtg w.Js.1 else
 bif decide (33≤op)&&decide (op≤37)then w.wbr op else w
def Lw.one(w:Lw)(op n next:Int):Lw:=(w.go op n next).Ju
def kj(D R V:List Int)(x:II):Int:=
 bif x.op==0 then x.imm else bif x.op==1 then D.getD (D.length - 1 - x.imm.toNat) 0 else bif x.op==2 then R.getD (R.length - 1 - x.imm.toNat) 0 else
 bif x.op==3 then(iu x.imm (V.getD x.a.toNat 0) (V.getD x.b.toNat 0)).1 else(iu x.imm (V.getD x.a.toNat 0) (V.getD x.b.toNat 0)).2.1
def JR(D R:List Int)(code:List II):List Int:=code.foldl (fun V x=>V++[kj D R V x]) []
section
variable {D R:List Int}
theorem kz(code:List II)(x:II):JR D R (code++[x])=JR D R code++[kj D R (JR D R code) x]:=by simp[JR]
theorem ql(code:List II):(JR D R code).length=code.length:=by
 refine uD (p:=fun code=>(JR D R code).length=code.length) rfl (fun l x ih=>?_) code;rw[kz];simp[ih]
theorem y8(c e:List II):∃m,JR D R (c++e)=JR D R c++m:=by
 refine uD (p:=fun e=>∃m,JR D R (c++e)=JR D R c++m) ⟨[],by simp⟩ (fun l x ih=>?_) e;obtain⟨m,hm⟩:=ih;rw[←ap,kz,hm];exact⟨_,ap ..⟩
def II.in_(n:Int)(code:List II):Prop:=0≤n∧n<(code.length:Int)
def dT(D R:List Int)(code:List II)(n:Int):Int:=(JR D R code).getD n.toNat 0
theorem gR{c e:List II}{n:Int}(h:II.in_ n c):dT D R (c++e) n=dT D R c n:=by
 obtain⟨m,hm⟩:=y8 (D:=D) (R:=R) c e;have hl:=ql (D:=D) (R:=R) c;have h2:n.toNat<(JR D R c).length:=by have:=h.1;have:=h.2;omega
 unfold dT;rw[hm];simp only[aw];rw[bD h2]
theorem pV{c:List II}{n:Int}(e:List II)(h:II.in_ n c):II.in_ n (c++e):=⟨h.1,by have:=h.2;simp;omega⟩
theorem i6(c:List II)(x:II):dT D R (c++[x]) c.length=kj D R (JR D R c) x:=by
 unfold dT;rw[kz];have hl:=ql (D:=D) (R:=R) c;simp only[aw,aO];rw[←hl,bF (aN _)];simp
theorem mg(c:List II)(x:II):II.in_ (c.length:Int) (c++[x]):=⟨by omega,by simp;omega⟩
structure SI(D R D0:List Int)(code:List II)(s:Sd)(t:List Int):Prop where
 KB:0≤s.Jp
 KA:s.Jp≤(D0.length:Int)
 eq:t=D0.take (D0.length - s.Jp.toNat)++s.l.map (dT D R code)
 idx:∀n,n∈s.l→II.in_ n code
theorem SI.app{D0:List Int}{code:List II}{s:Sd}{t:List Int}(h:SI D R D0 code s t)(e:List II):SI D R D0 (code++e) s t:=
 ⟨h.KB,h.KA,by rw[h.eq];congr 1;exact List.map_congr_left fun n hn=>(gR (h.idx n hn)).symm,fun n hn=>pV e (h.idx n hn)⟩
theorem SI.put{D0:List Int}{code:List II}{s:Sd}{t:List Int}(h:SI D R D0 code s t)(l:List Int)(hl:∀n,n∈l→II.in_ n code):SI D R D0 code (s.put l) (t++l.map (dT D R code)):=
 ⟨h.KB,h.KA,by rw[h.eq];simp[Sd.put],fun n hn=>by rcases aS.1 hn with h1|h1;exact h.idx n h1;exact hl n h1⟩
theorem SI.top{D0:List Int}{code:List II}{s:Sd}{t:List Int}(h:SI D R D0 code s t):SI D R D0 code s.top t:=⟨h.KB,h.KA,h.eq,h.idx⟩
theorem SI.len{D0:List Int}{code:List II}{s:Sd}{t:List Int}(h:SI D R D0 code s t):(t.length:Int)=(D0.length:Int) - s.Jp+(s.l.length:Int):=by
 have h1:=h.KB;have h2:=h.KA;rw[h.eq];simp;omega
theorem DD{D0:List Int}{k:Int}(hk:k=1∧D0=D∨k=2∧D0=R){code:List II}{s:Sd}{t:List Int}(h:SI D R D0 code s t)(hD:D0.length≤100)
  (hn:(eL k code s).2.2.Jp≤(D0.length:Int)):
  ∃l x,t=l++[x]∧SI D R D0 (eL k code s).2.1 (eL k code s).2.2 l∧II.in_ (eL k code s).1 (eL k code s).2.1∧dT D R (eL k code s).2.1 (eL k code s).1=x∧∃e,(eL k code s).2.1=code++e:=by
 have h0:=h.KB;have h1:=h.KA;have he:=h.eq;unfold eL at hn⊢;cases hl:s.l.getLast? with
 |some n=>
  rw[hl]at hn;obtain⟨m,hm⟩:∃m,s.l=m++[n]:=List.getLast?_eq_some_iff.1 hl;refine⟨D0.take (D0.length - s.Jp.toNat)++m.map (dT D R code),dT D R code n,?_,⟨h0,h1,?_,?_⟩,?_,rfl,[],?_⟩
  ·rw[he,hm];simp
  ·simp[hm]
  ·intro j hj;rw[hm]at hj;exact h.idx j (by rw[hm];simp at hj⊢;exact Or.inl hj)
  ·exact h.idx n (by rw[hm];simp)
  simp
 |none=>
  rw[hl]at hn;have hs:s.l=[]:=List.getLast?_eq_none_iff.1 hl;have hn:s.Jp+1≤(D0.length:Int):=hn;have hw:IntKind.u32.wrap s.Jp=s.Jp:=by rw[aE];omega
  rw[hs]at he;obtain⟨j,hj⟩:∃j:Nat,s.Jp=j:=⟨s.Jp.toNat,by omega⟩;have hv:dT D R (code++[⟨k,code.length,0,0,IntKind.u32.wrap s.Jp⟩]) code.length=D0.getD (D0.length - 1 - j) 0:=by
   rw[i6,hw,hj];rcases hk with⟨rfl,rfl⟩|⟨rfl,rfl⟩<;>rfl
  refine⟨D0.take (D0.length - (j+1)),D0.getD (D0.length - 1 - j) 0,?_,⟨by show 0≤s.Jp+1;omega,hn,?_,fun n hn=>by cases hn⟩,mg _ _,hv,_,rfl⟩
  ·rw[he,hj];have e1:D0.length - ((j:Int)).toNat=(D0.length - (j+1))+1:=by omega
   rw[e1,List.map_nil,ax,List.take_add_one];congr 1;have e2:D0.length - 1 - j=D0.length - (j+1):=by omega
   have e3:D0.length - (j+1)<D0.length:=by omega
   rw[e2,aw,ai e3];rfl
  show D0.take _=D0.take _++List.map _ [];rw[List.map_nil,ax,show(s.Jp+1).toNat=j+1 by omega]
structure LI(D R:List Int)(w:Lw)(td tr:List Int):Prop where
 d:SI D R D w.code w.d td
 r:SI D R R w.code w.r tr
def FL(D R:List Int)(f0:Int)(w:Lw)(f:Int):Prop:=w.flags= -1∧f=f0∨II.in_ w.flags w.code∧f=dT D R w.code w.flags
theorem FL.app{f0 f:Int}{w w':Lw}(h:FL D R f0 w f){e:List II}(hc:w'.code=w.code++e)(hf:w'.flags=w.flags):FL D R f0 w' f:=by
 rcases h with⟨h1,h2⟩|⟨h1,h2⟩
 ·exact Or.inl ⟨by rw[hf,h1],h2⟩
 exact Or.inr ⟨by rw[hf,hc];exact pV e h1,by rw[hf,hc,gR h1,h2]⟩
theorem pd{w:Lw}{td tr:List Int}(h:LI D R w td tr)(hD:D.length≤100)(hn:w.Js.2.d.Jp≤(D.length:Int)):
  ∃l x,td=l++[x]∧LI D R w.Js.2 l tr∧II.in_ w.Js.1 w.Js.2.code∧dT D R w.Js.2.code w.Js.1=x∧∃e,w.Js.2.code=w.code++e:=by
 obtain⟨l,x,h1,h2,h3,h4,e,h5⟩:=DD (k:=1) (Or.inl ⟨rfl,rfl⟩) h.d hD hn;exact⟨l,x,h1,⟨h2,by have:=h.r.app e;rw[←h5]at this;exact this⟩,h3,h4,e,h5⟩
theorem DE{w:Lw}{td tr:List Int}(h:LI D R w td tr)(hR:R.length≤100)(hn:w.JT.2.r.Jp≤(R.length:Int)):
  ∃l x,tr=l++[x]∧LI D R w.JT.2 td l∧II.in_ w.JT.1 w.JT.2.code∧dT D R w.JT.2.code w.JT.1=x∧∃e,w.JT.2.code=w.code++e:=by
 obtain⟨l,x,h1,h2,h3,h4,e,h5⟩:=DD (k:=2) (Or.inr ⟨rfl,rfl⟩) h.r hR hn;exact⟨l,x,h1,⟨by have:=h.d.app e;rw[←h5]at this;exact this,h2⟩,h3,h4,e,h5⟩
theorem LI.JX{w:Lw}{td tr:List Int}(h:LI D R w td tr)(l:List Int)(hl:∀n,n∈l→II.in_ n w.code):LI D R (w.JX l) (td++l.map (dT D R w.code)) tr:=⟨h.d.put l hl,h.r⟩
theorem LI.Kt{w:Lw}{td tr:List Int}(h:LI D R w td tr)(l:List Int)(hl:∀n,n∈l→II.in_ n w.code):LI D R (w.Kt l) td (tr++l.map (dT D R w.code)):=⟨h.d,h.r.put l hl⟩
theorem LI.add{w:Lw}{td tr:List Int}(h:LI D R w td tr)(op a b imm:Int):LI D R (w.add op a b imm) td tr:=⟨h.d.app _,h.r.app _⟩
theorem LI.Ju{w:Lw}{td tr:List Int}(h:LI D R w td tr):LI D R w.Ju td tr:=⟨h.d.top,h.r.top⟩
theorem LI.wfl{w:Lw}{td tr:List Int}(h:LI D R w td tr)(x:Int):LI D R (w.wfl x) td tr:=⟨h.d,h.r⟩
theorem LI.wtg{w:Lw}{td tr:List Int}(h:LI D R w td tr)(x:Int):LI D R (w.wtg x) td tr:=⟨h.d,h.r⟩
theorem LI.wbr{w:Lw}{td tr:List Int}(h:LI D R w td tr)(x:Int):LI D R (w.wbr x) td tr:=⟨h.d,h.r⟩
theorem LI.Kv{w:Lw}{td tr:List Int}(h:LI D R w.Ju td tr):(td.length:Int)≤(D.length:Int)+w.Ju.d.high:=by
 have h1:=h.d.len;have h2:w.Ju.d.Jp=w.d.Jp:=rfl;have h3:w.Ju.d.l=w.d.l:=rfl;have h4:(w.d.l.length:Int) - w.d.Jp≤w.Ju.d.high:=Int.le_max_right _ _;rw[h2,h3]at h1;omega
theorem LI.lenR{w:Lw}{td tr:List Int}(h:LI D R w.Ju td tr):(tr.length:Int)≤(R.length:Int)+w.Ju.r.high:=by
 have h1:=h.r.len;have h2:w.Ju.r.Jp=w.r.Jp:=rfl;have h3:w.Ju.r.l=w.r.l:=rfl;have h4:(w.r.l.length:Int) - w.r.Jp≤w.Ju.r.high:=Int.le_max_right _ _;rw[h2,h3]at h1;omega
end
end Go.Ink
