/- Lemmas. -/
import Derived.Test.YtkegldppffignaaGreatDoorPaa
import Derived.Test.YtkegldppffignaaGreatDoorPab
import Derived.Test.YtkegldppffignaaGreatDoorPaf
set_option linter.unusedSimpArgs false
set_option linter.unusedVariables false
set_option maxRecDepth 100000
set_option maxHeartbeats 4000000
namespace Go.Ink
open Go.RowKit
theorem u0:u32 0:=⟨by decide,by decide⟩
theorem u1:u32 1:=⟨by decide,by decide⟩
theorem gJ(a:Int):u32 (IntKind.u32.wrap a):=by
 grind [u32,IntKind.wrap_u32]
theorem jP{n:Nat}(h:n<=4294967295):u32 (n:Int):=⟨by omega,by omega⟩
structure Mem.ok(n:Nat)(M:Mem):Prop where
 dl:M.data.length=n*64
 db:u8s M.data
 tl:M.MS.length=64
theorem u8s_set{l:List Int}(h:u8s l){a:Nat}{b:Int}(hb:0<=b/\b<=255):u8s (l.set a b):=λx hx=>by
 rcases List.mem_or_eq_of_mem_set hx with h1|h1
 .exact h x h1
 omega
theorem Mem.ok.put{n:Nat}{M:Mem}(h:M.ok n)(a:Nat){b:Int}(hb:0<=b/\b<=255):(M.put a b).ok n:=
 ⟨by show(M.data.set _ _).length=_;simp[h.dl],u8s_set h.db hb,by show(M.MS.set _ _).length=_;simp[h.tl]⟩
theorem Mem.ok.NI{n:Nat}{M:Mem}(h:M.ok n)(a:Nat)(v:Int):∀k,(M.NI a v k).ok n
 |0=>h
 |k+1=>(Mem.ok.NI h a v k).put _ (oO v k)
theorem Mem.ok.Nm{n:Nat}{M:Mem}(h:M.ok n)(l:List Int)(v:Int):∀k,(Nm M l v k).ok n
 |0=>h
 |k+1=>(Mem.ok.Nm h l v k).put _ (oO v k)
theorem Mem.ok.fill{n:Nat}{M:Mem}(h:M.ok n)(a:Nat){l:List Int}(hl:u8s l):∀k,(M.fill a l k).ok n
 |0=>h
 |k+1=>(Mem.ok.fill h a hl k).put _ (ji hl k)
theorem Mem.ok.calm{n:Nat}{M:Mem}(h:M.ok n):M.calm.ok n:=⟨h.dl,h.db,aI⟩
theorem Oe{n:Nat}{b:List Int}(h:b.length<=n*64)(hb:u8s b):(Mem.init n b).ok n:=by
 refine⟨by simp[Mem.init];omega,λx hx=>?_,aI⟩;rcases aS.1 hx with hx|hx
 .exact hb x hx
 grind
theorem De{n:Nat}{M:Mem}(h:M.ok n)(root va:Nat)(kind:Int)(MQ:Bool):(ic n M root va kind MQ).2.ok n:=by
 unfold ic;refine bO (λq:(TE×Tr)×Mem=>q.2.ok n) h ?_;cases mT n M.data root va with
 |none=>exact h
 |some q=>
  obtain⟨a,l⟩:=q;refine bO (λq:(TE×Tr)×Mem=>q.2.ok n) h ?_;exact bO (λq:Mem=>q.ok n) (h.NI _ _ 4) h
def TrU(t:Tr):Prop:=u32 t.addr/\0<=t.MR/\t.MR<=255
theorem tr10{a:Int}(h:u32 a):TrU ⟨10,a⟩:=⟨h,by grind,by grind⟩
theorem trN:TrU Tr.none:=⟨u0,by decide,by decide⟩
theorem tr11:TrU ⟨11,0⟩:=⟨u0,by decide,by decide⟩
theorem Im(kind:Int):0<=fault kind/\fault kind<=255:=by
 grind [fault]
theorem E8(n:Nat)(M:Mem)(root va:Nat)(hva:va<=4294967295)(kind:Int)(MQ:Bool):TrU (ic n M root va kind MQ).1.2:=by
 grind [jP,Im,ic,TrU,tr10,mT,trN]
structure UOk(n:Nat)(U:Mmu):Prop where
 m:U.m.ok n
 t:U.t.length=16
theorem xV{n:Nat}{U:Mmu}(h:U.m.ok n)(s:Sp)(va:Nat)(kind:Int):(dg n U s va kind).2.m.ok n:=by
 grind [De,dg]
theorem zW(n:Nat)(U:Mmu)(s:Sp)(va:Nat)(hva:va<=4294967295)(kind:Int):TrU (dg n U s va kind).1.2:=by
 grind [E8,trN,dg,TrU]
theorem oh{n:Nat}{U:Mmu}(h:UOk n U)(s:Sp)(va:Nat)(kind:Int):UOk n (cP n U s va kind).2:=by
 refine⟨?_,(sV n U s va kind).trans h.t⟩
 grind [xV,h.m,cP]
theorem qq(n:Nat)(U:Mmu)(s:Sp)(va:Nat)(hva:va<=4294967295)(kind:Int):TrU (cP n U s va kind).1.2:=by
 grind [zW,TrU,tr10,jP,cP]
theorem F2(a b:Int)(va k:Nat)(t:Tr)(U:Mmu):(gf a b va k t U).2=U:=by
 grind [gf]
theorem DA(a b:Int){va:Nat}(hva:va<=4294967295)(k:Nat){t:Tr}(ht:TrU t)(U:Mmu):TrU (gf a b va k t U).1.2:=by
 grind [gf,TrU,tr10,jP,lV]
theorem qe{n:Nat}{U:Mmu}(h:UOk n U)(s:Sp)(va k:Nat)(kind:Int):UOk n (fm n U s va k kind).2:=by
 grind [oh,eC,fm,DC,F2,DB]
theorem yg(n:Nat)(U:Mmu)(s:Sp)(va k:Nat)(hva:va<=4294967295)(kind:Int):TrU (fm n U s va k kind).1.2:=by
 grind [qq,cP,eC,lV,fm,DC,TrU,DA,DB]
theorem D4{n:Nat}{U:Mmu}(h:UOk n U)(s:Sp)(va:Nat){k:Nat}(hk:k<=4):u32 (pC n U s va k).1.1:=by
 have h1:=qe h s va k 2;have h2:=mN h1.m.db (fm n U s va k 2).1.1;have h3:(fm n U s va k 2).1.1.length<=4:=aW qf hk;show u32 (gK _ _);generalize gK (fm n U s va k 2).2.m.data (fm n U s va k 2).1.1=v at h2;generalize (fm n U s va k 2).1.1.length=m at h2 h3;obtain rfl|rfl|rfl|rfl|rfl:m=0\/m=1\/m=2\/m=3\/m=4:=by omega
 all_goals (refine⟨h2.1,?_⟩;simp at h2;omega)
theorem z8{n:Nat}{U:Mmu}(h:UOk n U)(s:Sp)(va k:Nat)(v:Int):UOk n (nX n U s va k v).2:=by
 have h1:=qe h s va k 3;exact⟨h1.m.Nm _ _ _,h1.t⟩
structure Dev.ok(d:Dev):Prop where
 wf:d.wf
 M5:u32 d.M5
 mask:u32 d.mask
 timer:u32 d.timer
 status:u32 d.status
theorem Dev.wf.re{d d':Dev}(h:d.wf)(h1:d'.inp=d.inp)(h2:d'.M4=d.M4)(h3:d'.ML=d.ML)(h4:d'.place=d.place):d'.wf:=
 ⟨h1▸h.Oj,h2▸h.M4,h2▸h.NS,h3▸h.ML,h4▸h.place,h1▸h.inp⟩
theorem Dev.Oe{l:List Int}(h:l.length<=1024)(hb:u8s l):(Dev.init l).ok:=⟨init_wf h hb,u0,u0,u0,u0⟩
theorem gB_u32{l:List Int}(h:u8s l)(a:Nat):u32 (gB l a):=by have:=ji h a;exact⟨this.1,by omega⟩
theorem Ew{d:Dev}(h:d.ok)(k count:Int):u32 (di d k count).1.1/\(di d k count).2.ok/\(di d k count).2.out=d.out:=by
 have hi:=h.wf.inp;unfold di;refine bO (λq:(Int×Bool)×Dev=>u32 q.1.1/\q.2.ok/\q.2.out=d.out) ⟨h.M5,h,rfl⟩ ?_;refine bO (λq:(Int×Bool)×Dev=>u32 q.1.1/\q.2.ok/\q.2.out=d.out) ⟨h.mask,h,rfl⟩ ?_;refine bO (λq:(Int×Bool)×Dev=>u32 q.1.1/\q.2.ok/\q.2.out=d.out) ⟨h.timer,h,rfl⟩ ?_;refine bO (λq:(Int×Bool)×Dev=>u32 q.1.1/\q.2.ok/\q.2.out=d.out) ⟨gJ _,h,rfl⟩ ?_;refine bO (λq:(Int×Bool)×Dev=>u32 q.1.1/\q.2.ok/\q.2.out=d.out) ⟨u0,h,rfl⟩ ?_;refine bO (λq:(Int×Bool)×Dev=>u32 q.1.1/\q.2.ok/\q.2.out=d.out) ⟨u0,h,rfl⟩ ?_;refine bO (λq:(Int×Bool)×Dev=>u32 q.1.1/\q.2.ok/\q.2.out=d.out) ⟨gB_u32 h.wf.Oj 0,⟨⟨λx hx=>h.wf.Oj x (List.mem_of_mem_tail hx),h.wf.M4,h.wf.NS,h.wf.ML,h.wf.place,by grind⟩,h.M5,h.mask,h.timer,h.status⟩,rfl⟩ ?_
 grind [u32,jP,h.wf.ML,h.wf.place,h.status,u0]
theorem Es{n:Nat}{M:Mem}(h:M.ok n){M4:List Int}(hl:M4.length=1024)(hb:u8s M4)(ML a cmd:Nat):(gE n M M4 ML a cmd).2.1.ok n/\(gE n M M4 ML a cmd).2.2.length=1024/\u8s (gE n M M4 ML a cmd).2.2:=by
 unfold gE;cases hk:(!mc n ML a)with
 |true=>grind
 |false=>
  have hk':mc n ML a=true:=by simpa using hk
  simp only[mc,Bool.not_eq_true',bz,ah,bne_eq_false_iff_eq]at hk';obtain⟨⟨h1,h2⟩,h3⟩:=hk';have hdl:=h.dl;simp only[aa];refine bO (λq:Bool×Mem×List Int=>q.2.1.ok n/\q.2.2.length=1024/\u8s q.2.2) ⟨h.fill _ (λx hx=>hb x (List.mem_of_mem_drop (bj hx))) _,hl,hb⟩ ?_;refine bO (λq:Bool×Mem×List Int=>q.2.1.ok n/\q.2.2.length=1024/\u8s q.2.2) ⟨h,?_,λx hx=>?_⟩ ⟨h,hl,hb⟩
  .grind
  rcases aS.1 hx with hx|hx
  .rcases aS.1 hx with hx|hx
   .exact hb x (bj hx)
   exact h.db x (List.mem_of_mem_drop (bj hx))
  exact hb x (List.mem_of_mem_drop hx)
theorem Bf{n:Nat}{M:Mem}(hm:M.ok n){d:Dev}(h:d.ok)(k:Int){v:Nat}(hv:v<=4294967295):(cO n M d k v).2.1.ok n/\(cO n M d k v).2.2.ok/\(cO n M d k v).2.2.out.length<=d.out.length+1:=by
 have hD:=Es hm h.wf.M4 h.wf.NS d.ML d.place v;have hvu:=jP hv;have h0:M.ok n/\d.ok/\d.out.length<=d.out.length+1:=⟨hm,h,by omega⟩;unfold cO;refine bO (λq:Bool×Mem×Dev=>q.2.1.ok n/\q.2.2.ok/\q.2.2.out.length<=d.out.length+1) ⟨hm,⟨h.wf.re rfl rfl rfl rfl,gN .andNot d.M5 v,h.mask,h.timer,h.status⟩,Nat.le_succ _⟩ ?_;refine bO (λq:Bool×Mem×Dev=>q.2.1.ok n/\q.2.2.ok/\q.2.2.out.length<=d.out.length+1) ⟨hm,⟨h.wf.re rfl rfl rfl rfl,h.M5,gN .and v 255,h.timer,h.status⟩,Nat.le_succ _⟩ ?_;refine bO (λq:Bool×Mem×Dev=>q.2.1.ok n/\q.2.2.ok/\q.2.2.out.length<=d.out.length+1) ⟨hm,⟨h.wf.re rfl rfl rfl rfl,h.M5,h.mask,hvu,h.status⟩,Nat.le_succ _⟩ ?_;refine bO (λq:Bool×Mem×Dev=>q.2.1.ok n/\q.2.2.ok/\q.2.2.out.length<=d.out.length+1) ⟨hm,⟨⟨h.wf.Oj,h.wf.M4,h.wf.NS,h.wf.ML,h.wf.place,h.wf.inp⟩,h.M5,h.mask,h.timer,h.status⟩,by simp⟩ ?_;refine bO (λq:Bool×Mem×Dev=>q.2.1.ok n/\q.2.2.ok/\q.2.2.out.length<=d.out.length+1) ⟨hm,⟨⟨h.wf.Oj,h.wf.M4,h.wf.NS,hv,h.wf.place,h.wf.inp⟩,h.M5,h.mask,h.timer,h.status⟩,Nat.le_succ _⟩ ?_;refine bO (λq:Bool×Mem×Dev=>q.2.1.ok n/\q.2.2.ok/\q.2.2.out.length<=d.out.length+1) ⟨hm,⟨⟨h.wf.Oj,h.wf.M4,h.wf.NS,h.wf.ML,hv,h.wf.inp⟩,h.M5,h.mask,h.timer,h.status⟩,Nat.le_succ _⟩ ?_;refine bO (λq:Bool×Mem×Dev=>q.2.1.ok n/\q.2.2.ok/\q.2.2.out.length<=d.out.length+1) ⟨hD.1,⟨⟨h.wf.Oj,hD.2.1,hD.2.2,h.wf.ML,h.wf.place,h.wf.inp⟩,gN .or d.M5 (lW [2]),h.mask,h.timer,bO u32 u0 u1⟩,Nat.le_succ _⟩ ?_
 grind
structure Did(op:Int)(s s':St):Prop where
 wf:s'.wf
 fl:s'.flags<=15
 cnt:s'.count=s.count
 dl:s'.d.length+(bY op).1.1=s.d.length+(bY op).1.2
 dt:s'.d.take (s.d.length - (bY op).1.1)=s.d.take (s.d.length - (bY op).1.1)
 rl:s'.r.length+(bY op).2.1=s.r.length+(bY op).2.2
 rt:s'.r.take (s.r.length - (bY op).2.1)=s.r.take (s.r.length - (bY op).2.1)
theorem Did.of{op:Int}{s s':St}{l m:List Int}(P X Q Y:List Int)(hn:bY op=((P.length,X.length),(Q.length,Y.length)))(wf:s'.wf)(fl:s'.flags<=15)(cnt:s'.count=s.count)
  (h1:s.d=l++P) (h2:s'.d=l++X) (h3:s.r=m++Q) (h4:s'.r=m++Y):Did op s s':=by
 refine⟨wf,fl,cnt,?_,?_,?_,?_⟩
 .rw[hn,h1,h2];simp only[ae];omega
 .rw[hn,h1,h2,ae,Nat.add_sub_cancel,List.take_left,List.take_left]
 .rw[hn,h3,h4];simp only[ae];omega
 rw[hn,h3,h4,ae,Nat.add_sub_cancel,List.take_left,List.take_left]
theorem ux{s:St}(h:s.wf){l:List Int}(hl:∀x,x∈l->u32 x):(⟨s.pc,l,s.r,s.flags,s.MQ,s.MU,s.ie,s.root,s.vec,s.epc,s.MR,s.addr,s.M1,s.eie,s.count,s.halted⟩:St).wf:=⟨h.pc,h.flags,h.root,h.vec,h.epc,h.MR,h.addr,h.count,hl,h.r⟩
theorem wf_r{s:St}(h:s.wf){l:List Int}(hl:∀x,x∈l->u32 x):(⟨s.pc,s.d,l,s.flags,s.MQ,s.MU,s.ie,s.root,s.vec,s.epc,s.MR,s.addr,s.M1,s.eie,s.count,s.halted⟩:St).wf:=⟨h.pc,h.flags,h.root,h.vec,h.epc,h.MR,h.addr,h.count,h.d,hl⟩
theorem Dd{s:St}(h:s.wf){x:Int}(hx:u32 x):(⟨x,s.d,s.r,s.flags,s.MQ,s.MU,s.ie,s.root,s.vec,s.epc,s.MR,s.addr,s.M1,s.eie,s.count,s.halted⟩:St).wf:=⟨hx,h.flags,h.root,h.vec,h.epc,h.MR,h.addr,h.count,h.d,h.r⟩
theorem Jp{s:St}(h:s.wf){x:Int}(hx:u32 x):(⟨s.pc,s.d,s.r,x,s.MQ,s.MU,s.ie,s.root,s.vec,s.epc,s.MR,s.addr,s.M1,s.eie,s.count,s.halted⟩:St).wf:=⟨h.pc,hx,h.root,h.vec,h.epc,h.MR,h.addr,h.count,h.d,h.r⟩
theorem CS{l:List Int}{p:Int->Prop}(h:∀x,x∈l->p x){y:Int}(hy:p y):∀x,x∈l++[y]->p x:=λx hx=>by
 rcases aS.1 hx with h1|h1
 .exact h x h1
 rw[aK.1 h1];exact hy
theorem qJ{l m:List Int}{p:Int->Prop}(h:∀x,x∈l++m->p x):∀x,x∈l->p x:=λx hx=>h x (List.mem_append_left _ hx)
theorem zB{l:List Int}{y:Int}{p:Int->Prop}(h:∀x,x∈l++[y]->p x):p y:=h y cE
theorem FY{op nn:Int}{R R':Run}(hw:R.s.wf)(hf:R.s.flags<=15)(hnn:u32 nn)(h1:(bY op).1.1<=R.s.d.length)(h2:(bY op).2.1<=R.s.r.length)(h:dK op nn R=some R'):Did op R.s R'.s/\R'.M3=R.M3/\R'.device=R.device/\R'.count=R.count:=by
 by_cases e:op=0
 .subst e;obtain rfl:R=R':=ay h;exact⟨Did.of (l:=R.s.d) (m:=R.s.r) [] [] [] [] rfl hw hf rfl cE cE cE cE,rfl,rfl,rfl⟩
 have e0:(op==0)=false:=by simpa using e
 by_cases e:op=1
 .subst e;obtain rfl:R.push [nn]=R':=ay h;exact⟨Did.of (l:=R.s.d) (m:=R.s.r) [] [nn] [] [] rfl (ux hw (CS hw.d hnn)) hf rfl cE rfl cE (by simp[Run.push]),rfl,rfl,rfl⟩
 have e1:(op==1)=false:=by simpa using e
 by_cases e:op=2
 .subst e;obtain rfl:R.push [nn]=R':=ay h;exact⟨Did.of (l:=R.s.d) (m:=R.s.r) [] [nn] [] [] rfl (ux hw (CS hw.d hnn)) hf rfl cE rfl cE (by simp[Run.push]),rfl,rfl,rfl⟩
 have e2:(op==2)=false:=by simpa using e
 by_cases e:op=3
 .subst e;obtain⟨R,l,x,rfl⟩:=Run.snoc (show 1<=R.s.d.length from h1);rw[nZ]at h;obtain rfl:=ay h;exact⟨Did.of (l:=l) (m:=R.s.r) [x] [x,x] [] [] rfl (ux hw (by have h3:=CS hw.d (zB hw.d);simpa using h3)) hf rfl rfl rfl cE cE,rfl,rfl,rfl⟩
 have e3:(op==3)=false:=by simpa using e
 by_cases e:op=4
 .subst e;obtain⟨R,l,x,rfl⟩:=Run.snoc (show 1<=R.s.d.length from h1);rw[mF]at h;obtain rfl:=ay h;exact⟨Did.of (l:=l) (m:=R.s.r) [x] [] [] [] rfl (ux hw (qJ hw.d)) hf rfl rfl cE cE cE,rfl,rfl,rfl⟩
 have e4:(op==4)=false:=by simpa using e
 by_cases e:op=5
 .subst e;obtain⟨R,l,x,y,rfl⟩:=Run.NC (show 2<=R.s.d.length from h1);rw[mD]at h;obtain rfl:=ay h;have hd:∀z,z∈(l++[x])++[y]->u32 z:=hw.d;exact⟨Did.of (l:=l) (m:=R.s.r) [x,y] [y,x] [] [] rfl (ux hw (by have h3:=CS (CS (qJ (qJ hd)) (zB hd)) (zB (qJ hd));simpa using h3)) hf rfl cE rfl cE cE,rfl,rfl,rfl⟩
 have e5:(op==5)=false:=by simpa using e
 by_cases e:op=6
 .subst e;obtain⟨R,l,x,y,rfl⟩:=Run.NC (show 2<=R.s.d.length from h1);rw[mE]at h;obtain rfl:=ay h;have hd:∀z,z∈(l++[x])++[y]->u32 z:=hw.d;exact⟨Did.of (l:=l) (m:=R.s.r) [x,y] [x,y,x] [] [] rfl (ux hw (by have h3:=CS hd (zB (qJ hd));simpa using h3)) hf rfl cE rfl cE cE,rfl,rfl,rfl⟩
 have e6:(op==6)=false:=by simpa using e
 by_cases e:op=7
 .subst e;obtain⟨R,l,x,rfl⟩:=Run.snoc (show 1<=R.s.d.length from h1);rw[nY]at h;obtain rfl:=ay h;have hd:∀z,z∈l++[x]->u32 z:=hw.d;exact⟨Did.of (l:=l) (m:=R.s.r) [x] [] [] [x] rfl (wf_r (ux hw (qJ hd)) (CS hw.r (zB hd))) hf rfl rfl cE cE rfl,rfl,rfl,rfl⟩
 have e7:(op==7)=false:=by simpa using e
 by_cases e:op=8
 .subst e;obtain⟨R,l,x,rfl⟩:=Run.snocR (show 1<=R.s.r.length from h2);rw[lP]at h;obtain rfl:=ay h;have hd:∀z,z∈l++[x]->u32 z:=hw.r;exact⟨Did.of (l:=R.s.d) (m:=l) [] [x] [x] [] rfl (ux (wf_r hw (qJ hd)) (CS hw.d (zB hd))) hf rfl cE rfl rfl cE,rfl,rfl,rfl⟩
 have e8:(op==8)=false:=by simpa using e
 rw[qQ nn R e0 e1 e2 e3 e4 e5 e6 e7 e8]at h;cases h
theorem pS(r:Int):dE r=0\/dE r=1\/dE r=2\/dE r=3:=by
 unfold dE;generalize (bits .and .u32 r 2147483648 !=0)=c1;generalize (r==0)=c2;revert c1 c2;decide
theorem lD(a b r x:Int)(c:Bool)(o:Int):0<=jK a b r (dE x) c o/\jK a b r (dE x) c o<=15:=by
 unfold jK;generalize (o !=0)=c1;rcases pS x with h|h|h|h<;>rw[h]<;>revert c c1<;>decide
theorem Cz{a:Int}(h:u32 a)(k:Nat):u32 (a.fdiv (2^k)):=by
 have hp:(0:Int)<2^k:=Int.pow_pos Wq5;rw[bl _ (Int.le_of_lt hp)];have h1:=Int.ediv_nonneg h.1 (Int.le_of_lt hp);have h2:=Int.ediv_le_self (2^k) h.1;exact⟨h1,Int.le_trans h2 h.2⟩
def CW(q:Int×Int×Bool):Prop:=u32 q.1/\0<=q.2.1/\q.2.1<=15
theorem oD{r:Int}(h:u32 r):CW (vT r):=by
 refine⟨h,?_⟩;show 0<=dE r/\dE r<=15;rcases pS r with h|h|h|h<;>rw[h]<;>decide
theorem arDo_ok(op:Int){a b:Int}(ha:u32 a):CW (iN op a b):=by
 have h0:CW (0,0,false):=⟨u0,by decide,by decide⟩;unfold iN;refine bO CW ⟨gJ _,lD a b 0 _ _ _⟩ ?_;refine bO CW ⟨gJ _,lD a b 0 _ _ _⟩ ?_;refine bO CW ⟨u0,lD a b 0 _ _ _⟩ ?_;refine bO CW (oD (gN _ _ _)) ?_;refine bO CW (oD (gN _ _ _)) ?_;refine bO CW (oD (gN _ _ _)) ?_;refine bO CW (oD ?_) ?_
 .unfold iq;exact bO u32 u0 (bO u32 (gJ _) (Cz ha _))
 refine bO CW (oD ?_) ?_
 .unfold iq;exact bO u32 u0 (bO u32 (gJ _) (Cz ha _))
 refine bO CW (oD (gJ _)) ?_;exact bO CW (bO CW h0 (oD (gJ _))) h0
theorem GH{op:Int}(h1:16<=op)(h2:op<=24):bY op=((2,1),(0,0)):=by
 obtain rfl|rfl|rfl|rfl|rfl|rfl|rfl|rfl|rfl:op=16\/op=17\/op=18\/op=19\/op=20\/op=21\/op=22\/op=23\/op=24:=by omega
 all_goals rfl
theorem DM{op nn:Int}{R:Run}(hw:R.s.wf)(hf:R.s.flags<=15)(h1:(bY op).1.1<=R.s.d.length)(h2:(bY op).2.1<=R.s.r.length)(h:(cJ op nn R).1=true):Did op R.s (cJ op nn R).2.s/\((cJ op nn R).2.M3=R.M3\/(cJ op nn R).2.M3=⟨5,0⟩)/\(cJ op nn R).2.device=R.device/\(cJ op nn R).2.count=R.count:=by
 cases ha:(decide (16<=op)&&decide (op<=25))with
 |true=>
  have h3:=B6 ha;rw[h3]at h1;obtain⟨R,l,x,y,rfl⟩:=Run.NC h1;have hd:∀z,z∈(l++[x])++[y]->u32 z:=hw.d;obtain⟨hv,hf0,hf1⟩:=arDo_ok op (b:=y) (zB (qJ hd));obtain⟨⟨v,fl,ok⟩,hq⟩:=Zgn (iN op x y);rw[hq]at hv hf0 hf1;have hv:u32 v:=hv;have hf0:0<=fl:=hf0;have hf1:fl<=15:=hf1;have hst:cJ op nn (R.wd ((l++[x])++[y]))=(true,bif op !=25 then((bif ok then R.wd l else(R.wd l).wt ⟨5,0⟩).wfl fl).push [v]else(bif ok then R.wd l else(R.wd l).wt ⟨5,0⟩).wfl fl):=by
   simp only[cJ,ha,ac,Run.top_wd,Run.pop_wd,hq]
  simp only[aL,aj]at ha;have hwl:(R.wd l).s.wf:=ux hw (qJ (qJ hd));rw[hst];have hfu:u32 fl:=⟨hf0,by omega⟩;by_cases e:op=25
  .subst e;cases ok
   .exact⟨Did.of (l:=l) (m:=R.s.r) [x,y] [] [] [] rfl (Jp hwl hfu) hf1 rfl cE cE cE cE,.inr rfl,rfl,rfl⟩
   exact⟨Did.of (l:=l) (m:=R.s.r) [x,y] [] [] [] rfl (Jp hwl hfu) hf1 rfl cE cE cE cE,.inl rfl,rfl,rfl⟩
  have e':(op !=25)=true:=by simpa using e
  have hn:=GH (op:=op) Wq1 Wq1;simp only[e',ac];cases ok
  .exact⟨Did.of (l:=l) (m:=R.s.r) [x,y] [v] [] [] hn (ux (Jp hwl hfu) (CS (qJ (qJ hd)) hv)) hf1 rfl cE rfl cE (by simp[Run.push]),.inr rfl,rfl,rfl⟩
  exact⟨Did.of (l:=l) (m:=R.s.r) [x,y] [v] [] [] hn (ux (Jp hwl hfu) (CS (qJ (qJ hd)) hv)) hf1 rfl cE rfl cE (by simp[Run.push]),.inl rfl,rfl,rfl⟩
 |false=>
  have hth:u32 (jQ R nn):=gJ _;by_cases e:op=38
  .subst e;exact⟨Did.of (l:=R.s.d) (m:=R.s.r) [] [] [] [R.s.pc] rfl (Dd (wf_r hw (CS hw.r hw.pc)) hth) hf rfl cE (az _).symm cE rfl,.inl rfl,rfl,rfl⟩
  have e1:(op==38)=false:=by simpa using e
  by_cases e:op=32
  .subst e;exact⟨Did.of (l:=R.s.d) (m:=R.s.r) [] [] [] [] rfl (Dd hw hth) hf rfl cE (az _).symm cE (az _).symm,.inl rfl,rfl,rfl⟩
  have e2:(op==32)=false:=by simpa using e
  by_cases e:op=39
  .subst e;obtain⟨R,l,x,rfl⟩:=Run.snocR (show 1<=R.s.r.length from h2);have hst:cJ 39 nn (R.wr (l++[x]))=(true,(R.wr l).wpc x):=by show(_,_)=_;rw[Run.popR_wr,Run.topR_wr]
   rw[hst];have hd:∀z,z∈l++[x]->u32 z:=hw.r;exact⟨Did.of (l:=R.s.d) (m:=l) [] [] [x] [] rfl (Dd (wf_r hw (qJ hd)) (zB hd)) hf rfl cE cE rfl cE,.inl rfl,rfl,rfl⟩
  have e3:(op==39)=false:=by simpa using e
  by_cases e:op=40
  .subst e;obtain⟨R,l,x,rfl⟩:=Run.snoc (show 1<=R.s.d.length from h1);have hst:cJ 40 nn (R.wd (l++[x]))=(true,(R.wd l).wpc x):=by show(_,_)=_;rw[Run.pop_wd,Run.top_wd]
   rw[hst];have hd:∀z,z∈l++[x]->u32 z:=hw.d;exact⟨Did.of (l:=l) (m:=R.s.r) [x] [] [] [] rfl (Dd (ux hw (qJ hd)) (zB hd)) hf rfl rfl cE cE cE,.inl rfl,rfl,rfl⟩
  have e4:(op==40)=false:=by simpa using e
  have hst:cJ op nn R=((cY op R.s.flags).2,bif(cY op R.s.flags).1 then R.wpc (jQ R nn)else R):=by simp only[cJ, *,ac,aa]
  rw[hst]at h|-;have hn:bY op=((0,0),(0,0)):=by
   have h:(cY op R.s.flags).2=true:=h;by_cases e:op=33
   .subst e;rfl
   by_cases e':op=34
   .subst e';rfl
   by_cases e'':op=35
   .subst e'';rfl
   by_cases e5:op=36
   .subst e5;rfl
   by_cases e6:op=37
   .subst e6;rfl
   have b1:(op==33)=false:=by simpa using e
   have b2:(op==34)=false:=by simpa using e'
   have b3:(op==35)=false:=by simpa using e''
   have b4:(op==36)=false:=by simpa using e5
   have b5:(op==37)=false:=by simpa using e6
   unfold cY at h;rw[b1,b2,b3,b4,b5]at h;cases h
  cases(cY op R.s.flags).1
  .exact⟨Did.of (l:=R.s.d) (m:=R.s.r) [] [] [] [] hn hw hf rfl cE (az _).symm cE (az _).symm,.inl rfl,rfl,rfl⟩
  exact⟨Did.of (l:=R.s.d) (m:=R.s.r) [] [] [] [] hn (Dd hw hth) hf rfl cE (az _).symm cE (az _).symm,.inl rfl,rfl,rfl⟩
structure uq(n:Nat)(op:Int)(s:St)(d:Dev)(m:gi):Prop where
 u:UOk n m.u
 dv:m.d.ok
 o:m.d.out.length<=d.out.length+1
 t:TrU m.r.M3
 did:m.r.M3.MR=0->Did op s m.r.s
theorem so{n:Nat}{U:Mmu}(h:UOk n U)(R:Run)(va:Nat)(kind:Int):UOk n (cL n R U va kind).u:=by
 grind [cL,oh]
theorem uW(n:Nat)(R:Run)(U:Mmu)(va:Nat)(hva:va<=4294967295)(kind:Int):TrU (cL n R U va kind).r.M3:=by
 grind [cL,TrU,jP,qq]
theorem oN(n:Nat)(R:Run)(U:Mmu)(va:Nat)(kind:Int):(cL n R U va kind).ok=((cL n R U va kind).r.M3.MR==0):=by
 grind [cL]
theorem get_u32{s:St}(h:s.wf)(reg:Int):u32 (s.get reg).1:=by
 have hb:∀b,u32 (b2i b):=λb=>by cases b;exact u0;exact u1
 unfold St.get;refine bO (λq:Int×Bool=>u32 q.1) (hb _) ?_;refine bO (λq:Int×Bool=>u32 q.1) (hb _) ?_
 grind [u32,h.root,h.vec,h.epc,h.MR,h.addr,gJ,h.flags,u0]
def rD(s:St)(q:St×Bool):Prop:=q.1.wf/\q.1.flags<=15/\q.1.count=s.count
theorem set_wf{s:St}(h:s.wf)(hf:s.flags<=15)(reg:Int){v:Int}(hv:u32 v):rD s (s.set reg v):=by
 have h0:rD s (s,false):=⟨h,hf,rfl⟩;unfold St.set;refine bO (rD s) ⟨⟨h.pc,h.flags,h.root,h.vec,h.epc,h.MR,h.addr,h.count,h.d,h.r⟩,hf,rfl⟩ ?_;refine bO (rD s) ⟨⟨h.pc,h.flags,h.root,h.vec,h.epc,h.MR,h.addr,h.count,h.d,h.r⟩,hf,rfl⟩ ?_;refine bO (rD s) ⟨⟨h.pc,h.flags,gN .andNot v 63,h.vec,h.epc,h.MR,h.addr,h.count,h.d,h.r⟩,hf,rfl⟩ ?_;refine bO (rD s) ⟨⟨h.pc,h.flags,h.root,hv,h.epc,h.MR,h.addr,h.count,h.d,h.r⟩,hf,rfl⟩ ?_;refine bO (rD s) ⟨⟨h.pc,h.flags,h.root,h.vec,hv,h.MR,h.addr,h.count,h.d,h.r⟩,hf,rfl⟩ ?_;refine bO (rD s) ⟨⟨h.pc,h.flags,h.root,h.vec,h.epc,hv,h.addr,h.count,h.d,h.r⟩,hf,rfl⟩ ?_;refine bO (rD s) ⟨⟨h.pc,h.flags,h.root,h.vec,h.epc,h.MR,hv,h.count,h.d,h.r⟩,hf,rfl⟩ ?_;refine bO (rD s) ⟨⟨h.pc,h.flags,h.root,h.vec,h.epc,h.MR,h.addr,h.count,h.d,h.r⟩,hf,rfl⟩ ?_;refine bO (rD s) ⟨⟨h.pc,h.flags,h.root,h.vec,h.epc,h.MR,h.addr,h.count,h.d,h.r⟩,hf,rfl⟩ ?_;refine bO (rD s) ⟨⟨h.pc,gN .and v 15,h.root,h.vec,h.epc,h.MR,h.addr,h.count,h.d,h.r⟩,?_,rfl⟩ h0
 grind [bits,CR]
section
variable {n:Nat} {op nn:Int} {R:Run} {U:Mmu} {d:Dev}
theorem D2(hop:op=48){l:List Int}{va:Nat}(hva:va<=4294967295)(hw:(R.wd (l++[(va:Int)])).s.wf)(hf:R.s.flags<=15)(hU:UOk n U)(hd:d.ok):uq n op (R.wd (l++[(va:Int)])).s d (jZ n (R.wd l) U d va):=by
 subst hop;have hu:=so hU (R.wd l) va 2;have ht:=uW n (R.wd l) U va hva 2;have hs:=sk n (R.wd l) U va 2;have hc:=oN n (R.wd l) U va 2;have hwl:(R.wd l).s.wf:=ux hw (qJ hw.d);unfold jZ;obtain⟨⟨p,ok,r,u⟩,hq⟩:=Zgn (cL n (R.wd l) U va 2);rw[hq]at hu ht hs hc|-;have hu:UOk n u:=hu;have ht:TrU r.M3:=ht;have hs:r.s=(R.wd l).s:=hs;have hc:ok=(r.M3.MR==0):=hc;have key:∀(v:Int) (o:Bool) (d':Dev),u32 v->d'.ok->d'.out.length<=d.out.length+1->uq n 48 (R.wd (l++[(va:Int)])).s d (qW ⟨p,ok,r,u⟩ d' va v o):=λv o d' hv hd' ho'=>by
  unfold qW;cases o with
  |false=>exact⟨hu,hd',ho',(tr10 (jP hva)),λh=>by cases h⟩
  |true=>
   refine⟨hu,hd',ho',ht,λ_=>?_⟩;have e:(Run.push r [v]).s=(R.wd (l++[v])).s:=by
    show St.mk _ _ _ _ _ _ _ _ _ _ _ _ _ _ _ _=_;rw[hs]
   show Did 48 _ (Run.push r [v]).s;rw[e];exact Did.of (l:=l) (m:=R.s.r) [(va:Int)] [v] [] [] rfl (ux hwl (CS (qJ hw.d) hv)) hf rfl rfl rfl cE cE
 cases hok:ok with
 |false=>
  rw[hok]at hc;exact⟨hu,hd,Nat.le_succ _,ht,λh=>by grind⟩
 |true=>
  rw[hok]at key;simp only[Bool.not_true,aa];refine bO (uq n 48 (R.wd (l++[(va:Int)])).s d) ?_ ?_
  .grind [Ew,uP]
  refine key _ _ _ ?_ hd (Nat.le_succ _);unfold nT;exact bO (λq:Int×Bool=>u32 q.1) (uU hu.m.db _) u0
theorem Dy(hop:op=49){l:List Int}{va v:Nat}(hva:va<=4294967295)(hv:v<=4294967295)(hw:(R.wd ((l++[(v:Int)])++[(va:Int)])).s.wf)(hf:R.s.flags<=15)(hU:UOk n U)(hd:d.ok):uq n op (R.wd ((l++[(v:Int)])++[(va:Int)])).s d (jX n (R.wd l) U d va v):=by
 subst hop;have hu:=so hU (R.wd l) va 3;have ht:=uW n (R.wd l) U va hva 3;have hs:=sk n (R.wd l) U va 3;have hc:=oN n (R.wd l) U va 3;have hdd:∀z,z∈(l++[(v:Int)])++[(va:Int)]->u32 z:=hw.d;have hwl:(R.wd l).s.wf:=ux hw (qJ (qJ hdd));unfold jX;obtain⟨⟨p,ok,r,u⟩,hq⟩:=Zgn (cL n (R.wd l) U va 3);rw[hq]at hu ht hs hc|-;have hu:UOk n u:=hu;have ht:TrU r.M3:=ht;have hs:r.s=(R.wd l).s:=hs;have hc:ok=(r.M3.MR==0):=hc;have hdid:Did 49 (R.wd ((l++[(v:Int)])++[(va:Int)])).s r.s:=by
  rw[hs];exact Did.of (l:=l) (m:=R.s.r) [(v:Int),(va:Int)] [] [] [] rfl hwl hf rfl cE cE cE cE
 cases hok:ok with
 |false=>
  rw[hok]at hc;exact⟨hu,hd,Nat.le_succ _,ht,λh=>by grind⟩
 |true=>
  simp only[Bool.not_true,aa];refine bO (uq n 49 (R.wd ((l++[(v:Int)])++[(va:Int)])).s d) ?_ ?_
  .obtain⟨h1,h2,h3⟩:=Bf hu.m hd (uP p.toNat) hv;obtain⟨⟨o,M',d'⟩,hq2⟩:=Zgn (cO n u.m d (uP p.toNat) v);rw[hq2]at h1 h2 h3;rw[hq2];cases o with
   |false=>exact⟨⟨h1,hu.t⟩,h2,h3,(tr10 (jP hva)),λh=>by cases h⟩
   |true=>exact⟨⟨h1,hu.t⟩,h2,h3,ht,λ_=>hdid⟩
  exact⟨⟨hu.m.NI _ _ 4,hu.t⟩,hd,Nat.le_succ _,ht,λ_=>hdid⟩
theorem sL(hn:bY op=((1,1),(0,0))){l:List Int}{va k:Nat}(hva:va<=4294967295)(hk:k<=4)(hw:(R.wd (l++[(va:Int)])).s.wf)(hf:R.s.flags<=15)(hU:UOk n U)(hd:d.ok):uq n op (R.wd (l++[(va:Int)])).s d (gi.of (mI n (R.wd l) U va k) d):=by
 have hwl:(R.wd l).s.wf:=ux hw (qJ hw.d);have hv:=D4 hU (R.wd l).sp va hk;exact⟨qe hU _ _ _ _,hd,Nat.le_succ _,yg n U _ va k hva 2,λ_=>Did.of (l:=l) (m:=R.s.r) [(va:Int)] [_] [] [] hn (ux hwl (CS (qJ hw.d) hv)) hf rfl rfl rfl cE (by simp[mI,Run.push])⟩
theorem sK(hn:bY op=((2,0),(0,0))){l:List Int}{v:Int}{va k:Nat}(hva:va<=4294967295)(hw:(R.wd ((l++[v])++[(va:Int)])).s.wf)(hf:R.s.flags<=15)(hU:UOk n U)(hd:d.ok):uq n op (R.wd ((l++[v])++[(va:Int)])).s d (gi.of (mh n (R.wd l) U va k v) d):=by
 have hdd:∀z,z∈(l++[v])++[(va:Int)]->u32 z:=hw.d;have hwl:(R.wd l).s.wf:=ux hw (qJ (qJ hdd));exact⟨z8 hU _ _ _ _,hd,Nat.le_succ _,yg n U _ va k hva 3,λ_=>Did.of (l:=l) (m:=R.s.r) [v,(va:Int)] [] [] [] hn hwl hf rfl cE (by simp[mh]) cE (by simp[mh])⟩
theorem u7:dz.length=16:=aI
theorem AD(hw:R.s.wf)(hf:R.s.flags<=15)(hc:0<=R.count/\R.count<=18446744073709551615)(ht:R.M3=Tr.none)(hU:UOk n U)(hd:d.ok)(hnn:u32 nn)(h1:(bY op).1.1<=R.s.d.length)(hst:dK op nn R=none)(hrk:(cJ op nn R).1=false):uq n op R.s d (dM n op nn ⟨R,U,d⟩):=by
 have ht':TrU R.M3:=by rw[ht];exact trN
 have h0:∀{op},bY op=((0,0),(0,0))->∀(s':St),s'.wf->s'.flags<=15->s'.count=R.s.count->s'.d=R.s.d->s'.r=R.s.r->Did op R.s s':=λhn s' a1 a2 a3 a4 a5=>
  Did.of (l:=R.s.d) (m:=R.s.r) [] [] [] [] hn a1 a2 a3 cE (by simp[a4]) cE (by simp[a5])
 by_cases e:op=48
 .subst e;obtain⟨R,l,x,rfl⟩:=Run.snoc (show 1<=R.s.d.length from h1);have hx:=zB (l:=l) hw.d;obtain⟨va,rfl⟩:∃va:Nat,x=va:=ar hx.1;have hva:va<=4294967295:=by have:(va:Int)<=_:=hx.2;omega
  have he:dM n 48 nn ⟨R.wd (l++[(va:Int)]),U,d⟩=jZ n (R.wd l) U d va:=by show jZ _ _ _ _ _=_;rw[Run.pop_wd,Run.top_wd];rfl
  grind [D2]
 have e48:(op==48)=false:=by simpa using e
 by_cases e:op=49
 .subst e;obtain⟨R,l,y,x,rfl⟩:=Run.NC (show 2<=R.s.d.length from h1);have hx:=zB (l:=l++[y]) hw.d;have hy:=zB (l:=l) (qJ (l:=l++[y]) hw.d);obtain⟨va,rfl⟩:∃va:Nat,x=va:=ar hx.1;obtain⟨v,rfl⟩:∃v:Nat,y=v:=ar hy.1;have hva:va<=4294967295:=by have:(va:Int)<=_:=hx.2;omega
  have hv:v<=4294967295:=by have:(v:Int)<=_:=hy.2;omega
  have he:dM n 49 nn ⟨R.wd ((l++[(v:Int)])++[(va:Int)]),U,d⟩=jX n (R.wd l) U d va v:=by show jX _ _ _ _ _ _=_;rw[Run.pop_wd,Run.top_wd,Run.pop_wd,Run.top_wd];rfl
  grind [Dy]
 have e49:(op==49)=false:=by simpa using e
 by_cases e:op=50
 .subst e;obtain⟨R,l,x,rfl⟩:=Run.snoc (show 1<=R.s.d.length from h1);have hx:=zB (l:=l) hw.d;obtain⟨va,rfl⟩:∃va:Nat,x=va:=ar hx.1;have hva:va<=4294967295:=by have:(va:Int)<=_:=hx.2;omega
  have he:dM n 50 nn ⟨R.wd (l++[(va:Int)]),U,d⟩=gi.of (mI n (R.wd l) U va 4) d:=by show gi.of (mI _ _ _ _ _) _=_;rw[Run.pop_wd,Run.top_wd];rfl
  rw[he];exact sL rfl hva Wq5 hw hf hU hd
 have e50:(op==50)=false:=by simpa using e
 by_cases e:op=51
 .subst e;obtain⟨R,l,y,x,rfl⟩:=Run.NC (show 2<=R.s.d.length from h1);have hx:=zB (l:=l++[y]) hw.d;obtain⟨va,rfl⟩:∃va:Nat,x=va:=ar hx.1;have hva:va<=4294967295:=by have:(va:Int)<=_:=hx.2;omega
  have he:dM n 51 nn ⟨R.wd ((l++[y])++[(va:Int)]),U,d⟩=gi.of (mh n (R.wd l) U va 4 y) d:=by show gi.of (mh _ _ _ _ _ _) _=_;rw[Run.pop_wd,Run.top_wd,Run.pop_wd,Run.top_wd];rfl
  rw[he];exact sK rfl hva hw hf hU hd
 have e51:(op==51)=false:=by simpa using e
 by_cases e:op=52
 .subst e;obtain⟨R,l,x,rfl⟩:=Run.snoc (show 1<=R.s.d.length from h1);have hx:=zB (l:=l) hw.d;obtain⟨va,rfl⟩:∃va:Nat,x=va:=ar hx.1;have hva:va<=4294967295:=by have:(va:Int)<=_:=hx.2;omega
  have he:dM n 52 nn ⟨R.wd (l++[(va:Int)]),U,d⟩=gi.of (mI n (R.wd l) U va 1) d:=by show gi.of (mI _ _ _ _ _) _=_;rw[Run.pop_wd,Run.top_wd];rfl
  rw[he];exact sL rfl hva Wq5 hw hf hU hd
 have e52:(op==52)=false:=by simpa using e
 by_cases e:op=53
 .subst e;obtain⟨R,l,y,x,rfl⟩:=Run.NC (show 2<=R.s.d.length from h1);have hx:=zB (l:=l++[y]) hw.d;obtain⟨va,rfl⟩:∃va:Nat,x=va:=ar hx.1;have hva:va<=4294967295:=by have:(va:Int)<=_:=hx.2;omega
  have he:dM n 53 nn ⟨R.wd ((l++[y])++[(va:Int)]),U,d⟩=gi.of (mh n (R.wd l) U va 1 y) d:=by show gi.of (mh _ _ _ _ _ _) _=_;rw[Run.pop_wd,Run.top_wd,Run.pop_wd,Run.top_wd];rfl
  rw[he];exact sK rfl hva hw hf hU hd
 have e53:(op==53)=false:=by simpa using e
 by_cases e:op=64
 .subst e;exact⟨hU,hd,Nat.le_succ _,tr11,λh=>by cases h⟩
 have e64:(op==64)=false:=by simpa using e
 by_cases e:op=65
 .subst e;exact⟨hU,hd,Nat.le_succ _,ht',λ_=>h0 rfl R.s.back ⟨hw.epc,hw.flags,hw.root,hw.vec,hw.epc,hw.MR,hw.addr,hw.count,hw.d,hw.r⟩ hf rfl rfl rfl⟩
 have e65:(op==65)=false:=by simpa using e
 by_cases e:op=66
 .subst e;have hwc:(R.s.Ny R.count).wf:=⟨hw.pc,hw.flags,hw.root,hw.vec,hw.epc,hw.MR,hw.addr,hc,hw.d,hw.r⟩;exact⟨hU,hd,Nat.le_succ _,ht',λ_=>Did.of (l:=R.s.d) (m:=R.s.r) [] [((R.s.Ny R.count).get nn).1] [] [] rfl (ux hw (CS hw.d (get_u32 hwc nn))) hf rfl cE rfl cE (az _).symm⟩
 have e66:(op==66)=false:=by simpa using e
 by_cases e:op=67
 .subst e;obtain⟨R,l,x,rfl⟩:=Run.snoc (show 1<=R.s.d.length from h1);have hwl:(R.wd l).s.wf:=ux hw (qJ (l:=l) hw.d);have hs:=set_wf hwl hf nn (zB (l:=l) hw.d);obtain⟨q1,q2⟩:=St.set_dr (R.wd l).s nn x;have he:dM n 67 nn ⟨R.wd (l++[x]),U,d⟩=⟨(R.wd l).ws ((R.wd l).s.set nn x).1,bif nn==1||nn==2 then⟨U.m,dz⟩else U,d⟩:=by show gi.mk _ _ _=_;rw[Run.pop_wd,Run.top_wd]
  rw[he];exact⟨bO (UOk n) ⟨hU.m,u7⟩ hU,hd,Nat.le_succ _,ht',λ_=>Did.of (l:=l) (m:=R.s.r) [x] [] [] [] rfl hs.1 hs.2.1 hs.2.2 rfl (by grind) cE (by grind)⟩
 have e67:(op==67)=false:=by simpa using e
 by_cases e:op=68
 .subst e;obtain⟨R,l,x,rfl⟩:=Run.snoc (show 1<=R.s.d.length from h1);have he:dM n 68 nn ⟨R.wd (l++[x]),U,d⟩=⟨R.wd l,⟨U.m,uK U.t x.toNat⟩,d⟩:=by show gi.mk _ _ _=_;rw[Run.pop_wd,Run.top_wd]
  rw[he];exact⟨⟨hU.m,(FI _ _).trans hU.t⟩,hd,Nat.le_succ _,ht',λ_=>Did.of (l:=l) (m:=R.s.r) [x] [] [] [] rfl (ux hw (qJ (l:=l) hw.d)) hf rfl rfl cE cE cE⟩
 have e68:(op==68)=false:=by simpa using e
 by_cases e:op=69
 .subst e;exact⟨hU,hd,Nat.le_succ _,ht',λ_=>h0 rfl R.s.halt ⟨hw.pc,hw.flags,hw.root,hw.vec,hw.epc,hw.MR,hw.addr,hw.count,hw.d,hw.r⟩ hf rfl rfl rfl⟩
 have e69:(op==69)=false:=by simpa using e
 have he:dM n op nn ⟨R,U,d⟩=⟨R,U,d⟩:=by simp only[dM, *,aa]
 have hn:bY op=((0,0),(0,0)):=by
  have n1:(op==1)=false:=by cases h:(op==1)with|false=>rfl|true=>(have:=kk h;subst this;cases hst)
  have n2:(op==2)=false:=by cases h:(op==2)with|false=>rfl|true=>(have:=kk h;subst this;cases hst)
  have n3:(op==3)=false:=by cases h:(op==3)with|false=>rfl|true=>(have:=kk h;subst this;cases hst)
  have n4:(op==4)=false:=by cases h:(op==4)with|false=>rfl|true=>(have:=kk h;subst this;cases hst)
  have n5:(op==5)=false:=by cases h:(op==5)with|false=>rfl|true=>(have:=kk h;subst this;cases hst)
  have n6:(op==6)=false:=by cases h:(op==6)with|false=>rfl|true=>(have:=kk h;subst this;cases hst)
  have n7:(op==7)=false:=by cases h:(op==7)with|false=>rfl|true=>(have:=kk h;subst this;cases hst)
  have n8:(op==8)=false:=by cases h:(op==8)with|false=>rfl|true=>(have:=kk h;subst this;cases hst)
  have n16:(op==16)=false:=by cases h:(op==16)with|false=>rfl|true=>(have:=kk h;subst this;cases hrk)
  have n17:(op==17)=false:=by cases h:(op==17)with|false=>rfl|true=>(have:=kk h;subst this;cases hrk)
  have n18:(op==18)=false:=by cases h:(op==18)with|false=>rfl|true=>(have:=kk h;subst this;cases hrk)
  have n19:(op==19)=false:=by cases h:(op==19)with|false=>rfl|true=>(have:=kk h;subst this;cases hrk)
  have n20:(op==20)=false:=by cases h:(op==20)with|false=>rfl|true=>(have:=kk h;subst this;cases hrk)
  have n21:(op==21)=false:=by cases h:(op==21)with|false=>rfl|true=>(have:=kk h;subst this;cases hrk)
  have n22:(op==22)=false:=by cases h:(op==22)with|false=>rfl|true=>(have:=kk h;subst this;cases hrk)
  have n23:(op==23)=false:=by cases h:(op==23)with|false=>rfl|true=>(have:=kk h;subst this;cases hrk)
  have n24:(op==24)=false:=by cases h:(op==24)with|false=>rfl|true=>(have:=kk h;subst this;cases hrk)
  have n25:(op==25)=false:=by cases h:(op==25)with|false=>rfl|true=>(have:=kk h;subst this;cases hrk)
  have n38:(op==38)=false:=by cases h:(op==38)with|false=>rfl|true=>(have:=kk h;subst this;cases hrk)
  have n39:(op==39)=false:=by cases h:(op==39)with|false=>rfl|true=>(have:=kk h;subst this;cases hrk)
  have n40:(op==40)=false:=by cases h:(op==40)with|false=>rfl|true=>(have:=kk h;subst this;cases hrk)
  unfold bY;simp only[*,aa]
 rw[he];exact⟨hU,hd,Nat.le_succ _,ht',λ_=>h0 hn R.s hw hf rfl rfl rfl⟩
theorem AF{s:St}(h:s.wf):s.next.wf:=by
 refine⟨h.pc,h.flags,h.root,h.vec,h.epc,h.MR,h.addr,?_,h.d,h.r⟩
 grind [IntKind.wrap_u64]
theorem Fw{s:St}(h:s.wf)(c:Int){a:Int}(ha:u32 a):(s.M3 c a).wf:=⟨h.vec,h.flags,h.root,h.vec,h.pc,gJ _,ha,h.count,h.d,h.r⟩
theorem GK{s:St}(hw:s.wf)(hr:s.right=true)(hnn:u32 nn)(hck:eH s op nn=0)(hU:UOk n U)(hd:d.ok):uq n op s.next d (hH n s op nn U d):=by
 obtain⟨h16,r16,f15⟩:=St.fits hr;obtain⟨n1,n2⟩:=nm hck;have hwn:=AF hw
 have hw0:(eY s op).s.wf:=Dd hwn (gJ _);have key:∀{m:gi},uq n op (eY s op).s d m->uq n op s.next d m:=λh=>⟨h.u,h.dv,h.o,h.t,λhc=>by
  have h1:=h.did hc;exact⟨h1.wf,h1.fl,h1.cnt,h1.dl,h1.dt,h1.rl,h1.rt⟩⟩
 unfold hH;cases hst:dK op nn (eY s op)with
 |some R'=>
  obtain⟨h1,h2, -, -⟩:=FY hw0 f15 hnn n1 n2 hst;exact key ⟨hU,hd,Nat.le_succ _,by show TrU R'.M3;rw[h2];exact trN,λ_=>h1⟩
 |none=>
  cases hrk:(cJ op nn (eY s op)).1 with
  |true=>
   obtain⟨h1,h2, -, -⟩:=DM hw0 f15 n1 n2 hrk;refine key ⟨hU,hd,Nat.le_succ _,?_,λ_=>h1⟩
   grind [TrU,cJ,eY,trN,u0]
  |false=>
   simp only[aa];rw[pt op nn _ hrk];exact key (AD hw0 f15 hw.count rfl hU hd hnn n1 hst hrk)
structure Goes(n:Nat)(s:St)(d:Dev)(q:Res×Mmu×Dev):Prop where
 wf:q.1.s.wf
 right:q.1.s.right=true
 cnt:q.1.s.count=IntKind.u64.wrap (s.count+1)
 u:UOk n q.2.1
 dv:q.2.2.ok
 o:q.2.2.out.length<=d.out.length+1
theorem AI{s:St}{q:(Nat×Nat)×(Nat×Nat)}(h:iM s q=0):(s.d.length:Int) - q.1.1+q.1.2<=16/\(s.r.length:Int) - q.2.1+q.2.2<=16:=by
 grind [iM]
theorem zt{s:St}{op n:Int}(h:eH s op n=0):(s.d.length:Int) - (bY op).1.1+(bY op).1.2<=16/\(s.r.length:Int) - (bY op).2.1+(bY op).2.2<=16:=by
 unfold eH at h;revert h;refine bO (λx:Int=>x=0->(s.d.length:Int) - (bY op).1.1+(bY op).1.2<=16/\(s.r.length:Int) - (bY op).2.1+(bY op).2.2<=16) (λh=>by cases h) ?_;refine bO (λx:Int=>x=0->(s.d.length:Int) - (bY op).1.1+(bY op).1.2<=16/\(s.r.length:Int) - (bY op).2.1+(bY op).2.2<=16) (λh=>by cases h) ?_;refine bO (λx:Int=>x=0->(s.d.length:Int) - (bY op).1.1+(bY op).1.2<=16/\(s.r.length:Int) - (bY op).2.1+(bY op).2.2<=16) (λh=>by cases h) ?_;refine bO (λx:Int=>x=0->(s.d.length:Int) - (bY op).1.1+(bY op).1.2<=16/\(s.r.length:Int) - (bY op).2.1+(bY op).2.2<=16) (λh=>by cases h) ?_;exact AI
theorem IF{s s':St}(h:Did op s s')(hs:s.d.length<=16/\s.r.length<=16)(hn:(bY op).1.1<=s.d.length/\(bY op).2.1<=s.r.length)(hr:(s.d.length:Int) - (bY op).1.1+(bY op).1.2<=16/\(s.r.length:Int) - (bY op).2.1+(bY op).2.2<=16):s'.right=true:=by
 grind [h.dl,h.rl,h.fl,St.right]
theorem tU{s:St}(hw:s.wf)(hr:s.right=true)(hnn:u32 nn)(hU:UOk n U)(hd:d.ok):Goes n s d (mq n s op nn U d):=by
 have hU':UOk n ⟨U.m.calm,U.t⟩:=⟨hU.m.calm,hU.t⟩;have hfit:=St.fits hr;unfold mq;rw[hr];simp only[Bool.not_true,aa];cases hck:(eH s op nn !=0)with
 |true=>exact⟨Fw (AF hw) _ u0,hr,rfl,hU',hd,Nat.le_succ _⟩
 |false=>
  have hck0:eH s op nn=0:=by simpa using hck
  have hA:=GK (n:=n) hw hr hnn hck0 hU' hd;simp only[aa];obtain⟨m,hm⟩:=Zgn (hH n s op nn ⟨U.m.calm,U.t⟩ d);rw[hm]at hA|-;unfold rC;cases hc:(m.r.M3.MR !=0)with
  |true=>exact⟨Fw (AF hw) _ hA.t.1,hr,rfl,hA.u,hA.dv,hA.o⟩
  |false=>
   have h1:=hA.did (by grind);have c1:=nm hck0;have c2:=zt hck0;exact⟨h1.wf,IF h1 ⟨hfit.1,hfit.2.1⟩ c1 c2,h1.cnt,hA.u,hA.dv,hA.o⟩
end
end Go.Ink
