/- Lemmas. -/
import Derived.Test.YtakodpimdalajaaGreatDoorQaa
import Derived.Test.YtakodpimdalajaaGreatDoorQab
import Derived.Test.YtakodpimdalajaaGreatDoorQaf
set_option linter.unusedSimpArgs false
set_option linter.unusedVariables false
set_option maxRecDepth 100000
set_option maxHeartbeats 4000000
namespace Go.Ink
open Go.RowKit
theorem u0:u32 0:=⟨by decide,by decide⟩
theorem u1:u32 1:=⟨by decide,by decide⟩
theorem gy(a:Int):u32 (IntKind.u32.wrap a):=by
 unfold u32;rw[aE];omega
theorem jy{n:Nat}(h:n≤4294967295):u32 (n:Int):=⟨by omega,by omega⟩
structure Mem.ok(n:Nat)(M:Mem):Prop where
 dl:M.data.length=n*64
 db:u8s M.data
 tl:M.Ii.length=64
theorem u8s_set{l:List Int}(h:u8s l){a:Nat}{b:Int}(hb:0≤b∧b≤255):u8s (l.set a b):=fun x hx=>by
 rcases List.mem_or_eq_of_mem_set hx with h1|h1
 ·exact h x h1
 rw[h1];exact hb
theorem Mem.ok.put{n:Nat}{M:Mem}(h:M.ok n)(a:Nat){b:Int}(hb:0≤b∧b≤255):(M.put a b).ok n:=
 ⟨by show(M.data.set _ _).length=_;rw[aI];exact h.dl,u8s_set h.db hb,by show(M.Ii.set _ _).length=_;rw[aI];exact h.tl⟩
theorem Mem.ok.IZ{n:Nat}{M:Mem}(h:M.ok n)(a:Nat)(v:Int):∀k,(M.IZ a v k).ok n
 |0=>h
 |k+1=>(Mem.ok.IZ h a v k).put _ (nl v k)
theorem Mem.ok.IH{n:Nat}{M:Mem}(h:M.ok n)(l:List Int)(v:Int):∀k,(IH M l v k).ok n
 |0=>h
 |k+1=>(Mem.ok.IH h l v k).put _ (nl v k)
theorem Mem.ok.fill{n:Nat}{M:Mem}(h:M.ok n)(a:Nat){l:List Int}(hl:u8s l):∀k,(M.fill a l k).ok n
 |0=>h
 |k+1=>(Mem.ok.fill h a hl k).put _ (jJ hl k)
theorem Mem.ok.calm{n:Nat}{M:Mem}(h:M.ok n):M.calm.ok n:=⟨h.dl,h.db,aM⟩
theorem Jd{n:Nat}{b:List Int}(h:b.length≤n*64)(hb:u8s b):(Mem.init n b).ok n:=by
 refine⟨by simp[Mem.init];omega,fun x hx=>?_,aM⟩;rcases aV.1 hx with hx|hx
 ·exact hb x hx
 rw[List.eq_of_mem_replicate hx];decide
theorem zG{n:Nat}{M:Mem}(h:M.ok n)(root va:Nat)(kind:Int)(If:Bool):(gI n M root va kind If).2.ok n:=by
 unfold gI;refine bM (fun q:(TE×Tr)×Mem=>q.2.ok n) h ?_;cases lM n M.data root va with
 |none=>exact h
 |some q=>
  obtain⟨a,l⟩:=q;refine bM (fun q:(TE×Tr)×Mem=>q.2.ok n) h ?_;exact bM (fun q:Mem=>q.ok n) (h.IZ _ _ 4) h
def TrU(t:Tr):Prop:=u32 t.addr∧0≤t.Ie∧t.Ie≤255
theorem tr10{a:Int}(h:u32 a):TrU ⟨10,a⟩:=⟨h,by show(0:Int)≤10;decide,by show(10:Int)≤255;decide⟩
theorem trN:TrU Tr.none:=⟨u0,by decide,by decide⟩
theorem tr11:TrU ⟨11,0⟩:=⟨u0,by decide,by decide⟩
theorem DL(kind:Int):0≤fault kind∧fault kind≤255:=by
 unfold fault;refine bM (fun x:Int=>0≤x∧x≤255) (by decide) ?_;refine bM (fun x:Int=>0≤x∧x≤255) (by decide) ?_;exact bM (fun x:Int=>0≤x∧x≤255) (by decide) (by decide)
theorem Bu(n:Nat)(M:Mem)(root va:Nat)(hva:va≤4294967295)(kind:Int)(If:Bool):TrU (gI n M root va kind If).1.2:=by
 have hv:=jy hva;have hf:=DL kind;unfold gI;refine bM (fun q:(TE×Tr)×Mem=>TrU q.1.2) (tr10 hv) ?_;cases lM n M.data root va with
 |none=>exact⟨hv,hf⟩
 |some q=>
  obtain⟨a,l⟩:=q;refine bM (fun q:(TE×Tr)×Mem=>TrU q.1.2) ⟨hv,hf⟩ ?_;exact trN
structure UOk(n:Nat)(U:Mmu):Prop where
 m:U.m.ok n
 t:U.t.length=16
theorem vt{n:Nat}{U:Mmu}(h:U.m.ok n)(s:Sp)(va:Nat)(kind:Int):(de n U s va kind).2.m.ok n:=by
 have hw:=zG h s.root va kind s.If;unfold de;refine bM (fun q:(Int×Tr)×Mmu=>q.2.m.ok n) h ?_;refine bM (fun q:(Int×Tr)×Mmu=>q.2.m.ok n) h ?_;exact bM (fun q:(Int×Tr)×Mmu=>q.2.m.ok n) hw hw
theorem xl(n:Nat)(U:Mmu)(s:Sp)(va:Nat)(hva:va≤4294967295)(kind:Int):TrU (de n U s va kind).1.2:=by
 have hw:=Bu n U.m s.root va hva kind s.If;have h0:=trN;unfold de;refine bM (fun q:(Int×Tr)×Mmu=>TrU q.1.2) h0 ?_;refine bM (fun q:(Int×Tr)×Mmu=>TrU q.1.2) h0 ?_;exact bM (fun q:(Int×Tr)×Mmu=>TrU q.1.2) hw hw
theorem kR{n:Nat}{U:Mmu}(h:UOk n U)(s:Sp)(va:Nat)(kind:Int):UOk n (cR n U s va kind).2:=by
 refine⟨?_,(qS n U s va kind).trans h.t⟩;have hw:=vt h.m s va kind;unfold cR;refine bM (fun q:(Int×Tr)×Mmu=>q.2.m.ok n) h.m ?_;refine bM (fun q:(Int×Tr)×Mmu=>q.2.m.ok n) hw ?_;exact bM (fun q:(Int×Tr)×Mmu=>q.2.m.ok n) hw hw
theorem mn(n:Nat)(U:Mmu)(s:Sp)(va:Nat)(hva:va≤4294967295)(kind:Int):TrU (cR n U s va kind).1.2:=by
 have hw:=xl n U s va hva kind;have h1:TrU ⟨10,va⟩:=(tr10 (jy hva));unfold cR;refine bM (fun q:(Int×Tr)×Mmu=>TrU q.1.2) h1 ?_;refine bM (fun q:(Int×Tr)×Mmu=>TrU q.1.2) hw ?_;exact bM (fun q:(Int×Tr)×Mmu=>TrU q.1.2) hw h1
theorem vA(a b:Int)(va k:Nat)(t:Tr)(U:Mmu):(fM a b va k t U).2=U:=by
 unfold fM;refine bM (fun q:(List Int×Tr)×Mmu=>q.2=U) rfl ?_;exact bM (fun q:(List Int×Tr)×Mmu=>q.2=U) rfl rfl
theorem sN(a b:Int){va:Nat}(hva:va≤4294967295)(k:Nat){t:Tr}(ht:TrU t)(U:Mmu):TrU (fM a b va k t U).1.2:=by
 unfold fM;refine bM (fun q:(List Int×Tr)×Mmu=>TrU q.1.2) (tr10 (jy hva)) ?_;exact bM (fun q:(List Int×Tr)×Mmu=>TrU q.1.2) (tr10 (jy (kS va))) ht
theorem oI{n:Nat}{U:Mmu}(h:UOk n U)(s:Sp)(va k:Nat)(kind:Int):UOk n (eV n U s va k kind).2:=by
 have h1:=kR h s va kind;have h2:=kR h1 s (ed va) kind;unfold eV zV;refine bM (fun q:(List Int×Tr)×Mmu=>UOk n q.2) h1 ?_;refine bM (fun q:(List Int×Tr)×Mmu=>UOk n q.2) ?_ (by rw[vA];exact h1);unfold zU;exact bM (fun q:(List Int×Tr)×Mmu=>UOk n q.2) h2 (by rw[vA];exact h2)
theorem vx(n:Nat)(U:Mmu)(s:Sp)(va k:Nat)(hva:va≤4294967295)(kind:Int):TrU (eV n U s va k kind).1.2:=by
 have h1:=mn n U s va hva kind;have h2:=mn n (cR n U s va kind).2 s (ed va) (kS va) kind;unfold eV zV;refine bM (fun q:(List Int×Tr)×Mmu=>TrU q.1.2) h1 ?_;refine bM (fun q:(List Int×Tr)×Mmu=>TrU q.1.2) ?_ (sN _ _ hva _ h1 _);unfold zU;exact bM (fun q:(List Int×Tr)×Mmu=>TrU q.1.2) h2 (sN _ _ hva _ h2 _)
theorem AD{n:Nat}{U:Mmu}(h:UOk n U)(s:Sp)(va:Nat){k:Nat}(hk:k≤4):u32 (nS n U s va k).1.1:=by
 have h1:=oI h s va k 2;have h2:=lH h1.m.db (eV n U s va k 2).1.1;have h3:(eV n U s va k 2).1.1.length≤4:=a9 oJ hk;show u32 (gg _ _);generalize gg (eV n U s va k 2).2.m.data (eV n U s va k 2).1.1=v at h2;generalize (eV n U s va k 2).1.1.length=m at h2 h3;obtain rfl|rfl|rfl|rfl|rfl:m=0∨m=1∨m=2∨m=3∨m=4:=by omega
 all_goals (refine⟨h2.1,?_⟩;simp at h2;omega)
theorem xo{n:Nat}{U:Mmu}(h:UOk n U)(s:Sp)(va k:Nat)(v:Int):UOk n (mM n U s va k v).2:=by
 have h1:=oI h s va k 3;exact⟨h1.m.IH _ _ _,h1.t⟩
structure Dev.ok(d:Dev):Prop where
 wf:d.wf
 Iu:u32 d.Iu
 mask:u32 d.mask
 timer:u32 d.timer
 status:u32 d.status
theorem Dev.wf.re{d d':Dev}(h:d.wf)(h1:d'.inp=d.inp)(h2:d'.It=d.It)(h3:d'.H9=d.H9)(h4:d'.place=d.place):d'.wf:=
 ⟨h1▸h.inpb,h2▸h.It,h2▸h.Je,h3▸h.H9,h4▸h.place,h1▸h.inp⟩
theorem Dev.Jd{l:List Int}(h:l.length≤1024)(hb:u8s l):(Dev.init l).ok:=⟨init_wf h hb,u0,u0,u0,u0⟩
theorem gB_u32{l:List Int}(h:u8s l)(a:Nat):u32 (gB l a):=by have:=jJ h a;exact⟨this.1,by omega⟩
theorem AW{d:Dev}(h:d.ok)(k count:Int):u32 (du d k count).1.1∧(du d k count).2.ok∧(du d k count).2.out=d.out:=by
 have hi:=h.wf.inp;unfold du;refine bM (fun q:(Int×Bool)×Dev=>u32 q.1.1∧q.2.ok∧q.2.out=d.out) ⟨h.Iu,h,rfl⟩ ?_;refine bM (fun q:(Int×Bool)×Dev=>u32 q.1.1∧q.2.ok∧q.2.out=d.out) ⟨h.mask,h,rfl⟩ ?_;refine bM (fun q:(Int×Bool)×Dev=>u32 q.1.1∧q.2.ok∧q.2.out=d.out) ⟨h.timer,h,rfl⟩ ?_;refine bM (fun q:(Int×Bool)×Dev=>u32 q.1.1∧q.2.ok∧q.2.out=d.out) ⟨gy _,h,rfl⟩ ?_;refine bM (fun q:(Int×Bool)×Dev=>u32 q.1.1∧q.2.ok∧q.2.out=d.out) ⟨u0,h,rfl⟩ ?_;refine bM (fun q:(Int×Bool)×Dev=>u32 q.1.1∧q.2.ok∧q.2.out=d.out) ⟨u0,h,rfl⟩ ?_;refine bM (fun q:(Int×Bool)×Dev=>u32 q.1.1∧q.2.ok∧q.2.out=d.out) ⟨gB_u32 h.wf.inpb 0,⟨⟨fun x hx=>h.wf.inpb x (List.mem_of_mem_tail hx),h.wf.It,h.wf.Je,h.wf.H9,h.wf.place,by show d.inp.tail.length≤_;rw[List.length_tail];omega⟩,h.Iu,h.mask,h.timer,h.status⟩,rfl⟩ ?_;refine bM (fun q:(Int×Bool)×Dev=>u32 q.1.1∧q.2.ok∧q.2.out=d.out) ⟨jy (by omega),h,rfl⟩ ?_;refine bM (fun q:(Int×Bool)×Dev=>u32 q.1.1∧q.2.ok∧q.2.out=d.out) ⟨jy h.wf.H9,h,rfl⟩ ?_;refine bM (fun q:(Int×Bool)×Dev=>u32 q.1.1∧q.2.ok∧q.2.out=d.out) ⟨jy h.wf.place,h,rfl⟩ ?_;refine bM (fun q:(Int×Bool)×Dev=>u32 q.1.1∧q.2.ok∧q.2.out=d.out) ⟨h.status,h,rfl⟩ ?_;exact⟨u0,h,rfl⟩
theorem AU{n:Nat}{M:Mem}(h:M.ok n){It:List Int}(hl:It.length=1024)(hb:u8s It)(H9 a cmd:Nat):(ge n M It H9 a cmd).2.1.ok n∧(ge n M It H9 a cmd).2.2.length=1024∧u8s (ge n M It H9 a cmd).2.2:=by
 unfold ge;cases hk:(!kX n H9 a)with
 |true=>exact⟨h,hl,hb⟩
 |false=>
  have hk':kX n H9 a=true:=by simpa using hk
  simp only[kX,Bool.not_eq_true',bj,aj,bne_eq_false_iff_eq]at hk';obtain⟨⟨h1,h2⟩,h3⟩:=hk';have hdl:=h.dl;simp only[aa];refine bM (fun q:Bool×Mem×List Int=>q.2.1.ok n∧q.2.2.length=1024∧u8s q.2.2) ⟨h.fill _ (fun x hx=>hb x (List.mem_of_mem_drop (List.mem_of_mem_take hx))) _,hl,hb⟩ ?_;refine bM (fun q:Bool×Mem×List Int=>q.2.1.ok n∧q.2.2.length=1024∧u8s q.2.2) ⟨h,?_,fun x hx=>?_⟩ ⟨h,hl,hb⟩
  ·simp only[ae,aF,bn,hl,hdl];omega
  rcases aV.1 hx with hx|hx
  ·rcases aV.1 hx with hx|hx
   ·exact hb x (List.mem_of_mem_take hx)
   exact h.db x (List.mem_of_mem_drop (List.mem_of_mem_take hx))
  exact hb x (List.mem_of_mem_drop hx)
theorem x6{n:Nat}{M:Mem}(hm:M.ok n){d:Dev}(h:d.ok)(k:Int){v:Nat}(hv:v≤4294967295):(cU n M d k v).2.1.ok n∧(cU n M d k v).2.2.ok∧(cU n M d k v).2.2.out.length≤d.out.length+1:=by
 have hD:=AU hm h.wf.It h.wf.Je d.H9 d.place v;have hvu:=jy hv;have h0:M.ok n∧d.ok∧d.out.length≤d.out.length+1:=⟨hm,h,by omega⟩;unfold cU;refine bM (fun q:Bool×Mem×Dev=>q.2.1.ok n∧q.2.2.ok∧q.2.2.out.length≤d.out.length+1) ⟨hm,⟨h.wf.re rfl rfl rfl rfl,hH .andNot d.Iu v,h.mask,h.timer,h.status⟩,Nat.le_succ _⟩ ?_;refine bM (fun q:Bool×Mem×Dev=>q.2.1.ok n∧q.2.2.ok∧q.2.2.out.length≤d.out.length+1) ⟨hm,⟨h.wf.re rfl rfl rfl rfl,h.Iu,hH .and v 255,h.timer,h.status⟩,Nat.le_succ _⟩ ?_;refine bM (fun q:Bool×Mem×Dev=>q.2.1.ok n∧q.2.2.ok∧q.2.2.out.length≤d.out.length+1) ⟨hm,⟨h.wf.re rfl rfl rfl rfl,h.Iu,h.mask,hvu,h.status⟩,Nat.le_succ _⟩ ?_;refine bM (fun q:Bool×Mem×Dev=>q.2.1.ok n∧q.2.2.ok∧q.2.2.out.length≤d.out.length+1) ⟨hm,⟨⟨h.wf.inpb,h.wf.It,h.wf.Je,h.wf.H9,h.wf.place,h.wf.inp⟩,h.Iu,h.mask,h.timer,h.status⟩,by simp⟩ ?_;refine bM (fun q:Bool×Mem×Dev=>q.2.1.ok n∧q.2.2.ok∧q.2.2.out.length≤d.out.length+1) ⟨hm,⟨⟨h.wf.inpb,h.wf.It,h.wf.Je,hv,h.wf.place,h.wf.inp⟩,h.Iu,h.mask,h.timer,h.status⟩,Nat.le_succ _⟩ ?_;refine bM (fun q:Bool×Mem×Dev=>q.2.1.ok n∧q.2.2.ok∧q.2.2.out.length≤d.out.length+1) ⟨hm,⟨⟨h.wf.inpb,h.wf.It,h.wf.Je,h.wf.H9,hv,h.wf.inp⟩,h.Iu,h.mask,h.timer,h.status⟩,Nat.le_succ _⟩ ?_;refine bM (fun q:Bool×Mem×Dev=>q.2.1.ok n∧q.2.2.ok∧q.2.2.out.length≤d.out.length+1) ⟨hD.1,⟨⟨h.wf.inpb,hD.2.1,hD.2.2,h.wf.H9,h.wf.place,h.wf.inp⟩,hH .or d.Iu (mW [2]),h.mask,h.timer,bM u32 u0 u1⟩,Nat.le_succ _⟩ ?_;refine bM (fun q:Bool×Mem×Dev=>q.2.1.ok n∧q.2.2.ok∧q.2.2.out.length≤d.out.length+1) h0 ?_;refine bM (fun q:Bool×Mem×Dev=>q.2.1.ok n∧q.2.2.ok∧q.2.2.out.length≤d.out.length+1) h0 ?_;refine bM (fun q:Bool×Mem×Dev=>q.2.1.ok n∧q.2.2.ok∧q.2.2.out.length≤d.out.length+1) h0 ?_;exact bM (fun q:Bool×Mem×Dev=>q.2.1.ok n∧q.2.2.ok∧q.2.2.out.length≤d.out.length+1) h0 h0
structure Did(op:Int)(s s':St):Prop where
 wf:s'.wf
 fl:s'.flags≤15
 cnt:s'.count=s.count
 dl:s'.d.length+(bQ op).1.1=s.d.length+(bQ op).1.2
 dt:s'.d.take (s.d.length - (bQ op).1.1)=s.d.take (s.d.length - (bQ op).1.1)
 rl:s'.r.length+(bQ op).2.1=s.r.length+(bQ op).2.2
 rt:s'.r.take (s.r.length - (bQ op).2.1)=s.r.take (s.r.length - (bQ op).2.1)
theorem Did.of{op:Int}{s s':St}{l m:List Int}(P X Q Y:List Int)(hn:bQ op=((P.length,X.length),(Q.length,Y.length)))(wf:s'.wf)(fl:s'.flags≤15)(cnt:s'.count=s.count)
  (h1:s.d=l++P) (h2:s'.d=l++X) (h3:s.r=m++Q) (h4:s'.r=m++Y):Did op s s':=by
 refine⟨wf,fl,cnt,?_,?_,?_,?_⟩
 ·rw[hn,h1,h2];simp only[ae];omega
 ·rw[hn,h1,h2,ae,Nat.add_sub_cancel,List.take_left,List.take_left]
 ·rw[hn,h3,h4];simp only[ae];omega
 rw[hn,h3,h4,ae,Nat.add_sub_cancel,List.take_left,List.take_left]
theorem sc{s:St}(h:s.wf){l:List Int}(hl:∀x,x∈l→u32 x):(⟨s.pc,l,s.r,s.flags,s.If,s.Il,s.ie,s.root,s.vec,s.epc,s.Ie,s.addr,s.Ip,s.eie,s.count,s.halted⟩:St).wf:=⟨h.pc,h.flags,h.root,h.vec,h.epc,h.Ie,h.addr,h.count,hl,h.r⟩
theorem wf_r{s:St}(h:s.wf){l:List Int}(hl:∀x,x∈l→u32 x):(⟨s.pc,s.d,l,s.flags,s.If,s.Il,s.ie,s.root,s.vec,s.epc,s.Ie,s.addr,s.Ip,s.eie,s.count,s.halted⟩:St).wf:=⟨h.pc,h.flags,h.root,h.vec,h.epc,h.Ie,h.addr,h.count,h.d,hl⟩
theorem zF{s:St}(h:s.wf){x:Int}(hx:u32 x):(⟨x,s.d,s.r,s.flags,s.If,s.Il,s.ie,s.root,s.vec,s.epc,s.Ie,s.addr,s.Ip,s.eie,s.count,s.halted⟩:St).wf:=⟨hx,h.flags,h.root,h.vec,h.epc,h.Ie,h.addr,h.count,h.d,h.r⟩
theorem ED{s:St}(h:s.wf){x:Int}(hx:u32 x):(⟨s.pc,s.d,s.r,x,s.If,s.Il,s.ie,s.root,s.vec,s.epc,s.Ie,s.addr,s.Ip,s.eie,s.count,s.halted⟩:St).wf:=⟨h.pc,hx,h.root,h.vec,h.epc,h.Ie,h.addr,h.count,h.d,h.r⟩
theorem zt{l:List Int}{p:Int→Prop}(h:∀x,x∈l→p x){y:Int}(hy:p y):∀x,x∈l++[y]→p x:=fun x hx=>by
 rcases aV.1 hx with h1|h1
 ·exact h x h1
 rw[aN.1 h1];exact hy
theorem pu{l m:List Int}{p:Int→Prop}(h:∀x,x∈l++m→p x):∀x,x∈l→p x:=fun x hx=>h x (aC _ hx)
theorem wX{l:List Int}{y:Int}{p:Int→Prop}(h:∀x,x∈l++[y]→p x):p y:=h y (by simp)
theorem B2{op nn:Int}{R R':Run}(hw:R.s.wf)(hf:R.s.flags≤15)(hnn:u32 nn)(h1:(bQ op).1.1≤R.s.d.length)(h2:(bQ op).2.1≤R.s.r.length)(h:dK op nn R=some R'):Did op R.s R'.s∧R'.Io=R.Io∧R'.device=R.device∧R'.count=R.count:=by
 by_cases e:op=0
 ·subst e;obtain rfl:R=R':=aG h;exact⟨Did.of (l:=R.s.d) (m:=R.s.r) [] [] [] [] rfl hw hf rfl (by simp) (by simp) (by simp) (by simp),rfl,rfl,rfl⟩
 have e0:(op==0)=false:=by simpa using e
 by_cases e:op=1
 ·subst e;obtain rfl:R.push [nn]=R':=aG h;exact⟨Did.of (l:=R.s.d) (m:=R.s.r) [] [nn] [] [] rfl (sc hw (zt hw.d hnn)) hf rfl (by simp) rfl (by simp) (by simp[Run.push]),rfl,rfl,rfl⟩
 have e1:(op==1)=false:=by simpa using e
 by_cases e:op=2
 ·subst e;obtain rfl:R.push [nn]=R':=aG h;exact⟨Did.of (l:=R.s.d) (m:=R.s.r) [] [nn] [] [] rfl (sc hw (zt hw.d hnn)) hf rfl (by simp) rfl (by simp) (by simp[Run.push]),rfl,rfl,rfl⟩
 have e2:(op==2)=false:=by simpa using e
 by_cases e:op=3
 ·subst e;obtain⟨R,l,x,rfl⟩:=Run.snoc (show 1≤R.s.d.length from h1);rw[mO]at h;obtain rfl:=aG h;exact⟨Did.of (l:=l) (m:=R.s.r) [x] [x,x] [] [] rfl (sc hw (by have h3:=zt hw.d (wX hw.d);simpa using h3)) hf rfl rfl rfl (by simp) (by simp),rfl,rfl,rfl⟩
 have e3:(op==3)=false:=by simpa using e
 by_cases e:op=4
 ·subst e;obtain⟨R,l,x,rfl⟩:=Run.snoc (show 1≤R.s.d.length from h1);rw[lB]at h;obtain rfl:=aG h;exact⟨Did.of (l:=l) (m:=R.s.r) [x] [] [] [] rfl (sc hw (pu hw.d)) hf rfl rfl (by simp) (by simp) (by simp),rfl,rfl,rfl⟩
 have e4:(op==4)=false:=by simpa using e
 by_cases e:op=5
 ·subst e;obtain⟨R,l,x,y,rfl⟩:=Run.IW (show 2≤R.s.d.length from h1);rw[lz]at h;obtain rfl:=aG h;have hd:∀z,z∈(l++[x])++[y]→u32 z:=hw.d;exact⟨Did.of (l:=l) (m:=R.s.r) [x,y] [y,x] [] [] rfl (sc hw (by have h3:=zt (zt (pu (pu hd)) (wX hd)) (wX (pu hd));simpa using h3)) hf rfl (by simp) rfl (by simp) (by simp),rfl,rfl,rfl⟩
 have e5:(op==5)=false:=by simpa using e
 by_cases e:op=6
 ·subst e;obtain⟨R,l,x,y,rfl⟩:=Run.IW (show 2≤R.s.d.length from h1);rw[lA]at h;obtain rfl:=aG h;have hd:∀z,z∈(l++[x])++[y]→u32 z:=hw.d;exact⟨Did.of (l:=l) (m:=R.s.r) [x,y] [x,y,x] [] [] rfl (sc hw (by have h3:=zt hd (wX (pu hd));simpa using h3)) hf rfl (by simp) rfl (by simp) (by simp),rfl,rfl,rfl⟩
 have e6:(op==6)=false:=by simpa using e
 by_cases e:op=7
 ·subst e;obtain⟨R,l,x,rfl⟩:=Run.snoc (show 1≤R.s.d.length from h1);rw[mN]at h;obtain rfl:=aG h;have hd:∀z,z∈l++[x]→u32 z:=hw.d;exact⟨Did.of (l:=l) (m:=R.s.r) [x] [] [] [x] rfl (wf_r (sc hw (pu hd)) (zt hw.r (wX hd))) hf rfl rfl (by simp) (by simp) rfl,rfl,rfl,rfl⟩
 have e7:(op==7)=false:=by simpa using e
 by_cases e:op=8
 ·subst e;obtain⟨R,l,x,rfl⟩:=Run.snocR (show 1≤R.s.r.length from h2);rw[kM]at h;obtain rfl:=aG h;have hd:∀z,z∈l++[x]→u32 z:=hw.r;exact⟨Did.of (l:=R.s.d) (m:=l) [] [x] [x] [] rfl (sc (wf_r hw (pu hd)) (zt hw.d (wX hd))) hf rfl (by simp) rfl rfl (by simp),rfl,rfl,rfl⟩
 have e8:(op==8)=false:=by simpa using e
 rw[pC nn R e0 e1 e2 e3 e4 e5 e6 e7 e8]at h;cases h
theorem og(r:Int):dE r=0∨dE r=1∨dE r=2∨dE r=3:=by
 unfold dE;generalize (bits .and .u32 r 2147483648 !=0)=c1;generalize (r==0)=c2;revert c1 c2;decide
theorem o7(a b r x:Int)(c:Bool)(o:Int):0≤jc a b r (dE x) c o∧jc a b r (dE x) c o≤15:=by
 unfold jc;generalize (o !=0)=c1;rcases og x with h|h|h|h<;>rw[h]<;>revert c c1<;>decide
theorem y9{a:Int}(h:u32 a)(k:Nat):u32 (a.fdiv (2^k)):=by
 have hp:(0:Int)<2^k:=Int.pow_pos (by decide);rw[Int.fdiv_eq_ediv_of_nonneg _ (Int.le_of_lt hp)];have h1:=Int.ediv_nonneg h.1 (Int.le_of_lt hp);have h2:=Int.ediv_le_self (2^k) h.1;exact⟨h1,Int.le_trans h2 h.2⟩
def zy(q:Int×Int×Bool):Prop:=u32 q.1∧0≤q.2.1∧q.2.1≤15
theorem m8{r:Int}(h:u32 r):zy (tH r):=by
 refine⟨h,?_⟩;show 0≤dE r∧dE r≤15;rcases og r with h|h|h|h<;>rw[h]<;>decide
theorem arDo_ok(op:Int){a b:Int}(ha:u32 a):zy (ij op a b):=by
 have h0:zy (0,0,false):=⟨u0,by decide,by decide⟩;unfold ij;refine bM zy ⟨gy _,o7 a b 0 _ _ _⟩ ?_;refine bM zy ⟨gy _,o7 a b 0 _ _ _⟩ ?_;refine bM zy ⟨u0,o7 a b 0 _ _ _⟩ ?_;refine bM zy (m8 (hH _ _ _)) ?_;refine bM zy (m8 (hH _ _ _)) ?_;refine bM zy (m8 (hH _ _ _)) ?_;refine bM zy (m8 ?_) ?_
 ·unfold gP;exact bM u32 u0 (bM u32 (gy _) (y9 ha _))
 refine bM zy (m8 ?_) ?_
 ·unfold gP;exact bM u32 u0 (bM u32 (gy _) (y9 ha _))
 refine bM zy (m8 (gy _)) ?_;exact bM zy (bM zy h0 (m8 (gy _))) h0
theorem CB{op:Int}(h1:16≤op)(h2:op≤24):bQ op=((2,1),(0,0)):=by
 obtain rfl|rfl|rfl|rfl|rfl|rfl|rfl|rfl|rfl:op=16∨op=17∨op=18∨op=19∨op=20∨op=21∨op=22∨op=23∨op=24:=by omega
 all_goals rfl
theorem Ae{op nn:Int}{R:Run}(hw:R.s.wf)(hf:R.s.flags≤15)(h1:(bQ op).1.1≤R.s.d.length)(h2:(bQ op).2.1≤R.s.r.length)(h:(cL op nn R).1=true):Did op R.s (cL op nn R).2.s∧((cL op nn R).2.Io=R.Io∨(cL op nn R).2.Io=⟨5,0⟩)∧(cL op nn R).2.device=R.device∧(cL op nn R).2.count=R.count:=by
 cases ha:(decide (16≤op)&&decide (op≤25))with
 |true=>
  have h3:=yL ha;rw[h3]at h1;obtain⟨R,l,x,y,rfl⟩:=Run.IW h1;have hd:∀z,z∈(l++[x])++[y]→u32 z:=hw.d;obtain⟨hv,hf0,hf1⟩:=arDo_ok op (b:=y) (wX (pu hd));obtain⟨⟨v,fl,ok⟩,hq⟩:=Zgn (ij op x y);rw[hq]at hv hf0 hf1;have hv:u32 v:=hv;have hf0:0≤fl:=hf0;have hf1:fl≤15:=hf1;have hst:cL op nn (R.wd ((l++[x])++[y]))=(true,bif op !=25 then((bif ok then R.wd l else(R.wd l).wt ⟨5,0⟩).wfl fl).push [v]else(bif ok then R.wd l else(R.wd l).wt ⟨5,0⟩).wfl fl):=by
   simp only[cL,ha,ac,Run.top_wd,Run.pop_wd,hq]
  simp only[az,ap]at ha;have hwl:(R.wd l).s.wf:=sc hw (pu (pu hd));rw[hst];have hfu:u32 fl:=⟨hf0,by omega⟩;by_cases e:op=25
  ·subst e;cases ok
   ·exact⟨Did.of (l:=l) (m:=R.s.r) [x,y] [] [] [] rfl (ED hwl hfu) hf1 rfl (by simp) (by simp) (by simp) (by simp),.inr rfl,rfl,rfl⟩
   exact⟨Did.of (l:=l) (m:=R.s.r) [x,y] [] [] [] rfl (ED hwl hfu) hf1 rfl (by simp) (by simp) (by simp) (by simp),.inl rfl,rfl,rfl⟩
  have e':(op !=25)=true:=by simpa using e
  have hn:=CB (op:=op) (by omega) (by omega);simp only[e',ac];cases ok
  ·exact⟨Did.of (l:=l) (m:=R.s.r) [x,y] [v] [] [] hn (sc (ED hwl hfu) (zt (pu (pu hd)) hv)) hf1 rfl (by simp) rfl (by simp) (by simp[Run.push]),.inr rfl,rfl,rfl⟩
  exact⟨Did.of (l:=l) (m:=R.s.r) [x,y] [v] [] [] hn (sc (ED hwl hfu) (zt (pu (pu hd)) hv)) hf1 rfl (by simp) rfl (by simp) (by simp[Run.push]),.inl rfl,rfl,rfl⟩
 |false=>
  have hth:u32 (jg R nn):=gy _;by_cases e:op=38
  ·subst e;exact⟨Did.of (l:=R.s.d) (m:=R.s.r) [] [] [] [R.s.pc] rfl (zF (wf_r hw (zt hw.r hw.pc)) hth) hf rfl (by simp) (ay _).symm (by simp) rfl,.inl rfl,rfl,rfl⟩
  have e1:(op==38)=false:=by simpa using e
  by_cases e:op=32
  ·subst e;exact⟨Did.of (l:=R.s.d) (m:=R.s.r) [] [] [] [] rfl (zF hw hth) hf rfl (by simp) (ay _).symm (by simp) (ay _).symm,.inl rfl,rfl,rfl⟩
  have e2:(op==32)=false:=by simpa using e
  by_cases e:op=39
  ·subst e;obtain⟨R,l,x,rfl⟩:=Run.snocR (show 1≤R.s.r.length from h2);have hst:cL 39 nn (R.wr (l++[x]))=(true,(R.wr l).wpc x):=by show(_,_)=_;rw[Run.popR_wr,Run.topR_wr]
   rw[hst];have hd:∀z,z∈l++[x]→u32 z:=hw.r;exact⟨Did.of (l:=R.s.d) (m:=l) [] [] [x] [] rfl (zF (wf_r hw (pu hd)) (wX hd)) hf rfl (by simp) (by simp) rfl (by simp),.inl rfl,rfl,rfl⟩
  have e3:(op==39)=false:=by simpa using e
  by_cases e:op=40
  ·subst e;obtain⟨R,l,x,rfl⟩:=Run.snoc (show 1≤R.s.d.length from h1);have hst:cL 40 nn (R.wd (l++[x]))=(true,(R.wd l).wpc x):=by show(_,_)=_;rw[Run.pop_wd,Run.top_wd]
   rw[hst];have hd:∀z,z∈l++[x]→u32 z:=hw.d;exact⟨Did.of (l:=l) (m:=R.s.r) [x] [] [] [] rfl (zF (sc hw (pu hd)) (wX hd)) hf rfl rfl (by simp) (by simp) (by simp),.inl rfl,rfl,rfl⟩
  have e4:(op==40)=false:=by simpa using e
  have hst:cL op nn R=((dc op R.s.flags).2,bif(dc op R.s.flags).1 then R.wpc (jg R nn)else R):=by simp only[cL, *,ac,aa]
  rw[hst]at h⊢;have hn:bQ op=((0,0),(0,0)):=by
   have h:(dc op R.s.flags).2=true:=h;by_cases e:op=33
   ·subst e;rfl
   by_cases e':op=34
   ·subst e';rfl
   by_cases e'':op=35
   ·subst e'';rfl
   by_cases e5:op=36
   ·subst e5;rfl
   by_cases e6:op=37
   ·subst e6;rfl
   have b1:(op==33)=false:=by simpa using e
   have b2:(op==34)=false:=by simpa using e'
   have b3:(op==35)=false:=by simpa using e''
   have b4:(op==36)=false:=by simpa using e5
   have b5:(op==37)=false:=by simpa using e6
   unfold dc at h;rw[b1,b2,b3,b4,b5]at h;cases h
  cases(dc op R.s.flags).1
  ·exact⟨Did.of (l:=R.s.d) (m:=R.s.r) [] [] [] [] hn hw hf rfl (by simp) (ay _).symm (by simp) (ay _).symm,.inl rfl,rfl,rfl⟩
  exact⟨Did.of (l:=R.s.d) (m:=R.s.r) [] [] [] [] hn (zF hw hth) hf rfl (by simp) (ay _).symm (by simp) (ay _).symm,.inl rfl,rfl,rfl⟩
structure r7(n:Nat)(op:Int)(s:St)(d:Dev)(m:ik):Prop where
 u:UOk n m.u
 dv:m.d.ok
 o:m.d.out.length≤d.out.length+1
 t:TrU m.r.Io
 did:m.r.Io.Ie=0→Did op s m.r.s
theorem qv{n:Nat}{U:Mmu}(h:UOk n U)(R:Run)(va:Nat)(kind:Int):UOk n (cM n R U va kind).u:=by
 unfold cM;exact bM (fun W:x9=>UOk n W.u) h (kR h ..)
theorem sC(n:Nat)(R:Run)(U:Mmu)(va:Nat)(hva:va≤4294967295)(kind:Int):TrU (cM n R U va kind).r.Io:=by
 unfold cM;exact bM (fun W:x9=>TrU W.r.Io) ⟨jy hva,by show(0:Int)≤6;decide,by show(6:Int)≤255;decide⟩ (mn n U R.sp va hva kind)
theorem nk(n:Nat)(R:Run)(U:Mmu)(va:Nat)(kind:Int):(cM n R U va kind).ok=((cM n R U va kind).r.Io.Ie==0):=by
 unfold cM;exact bM (fun W:x9=>W.ok=(W.r.Io.Ie==0)) rfl rfl
theorem get_u32{s:St}(h:s.wf)(reg:Int):u32 (s.get reg).1:=by
 have hb:∀b,u32 (b2i b):=fun b=>by cases b;exact u0;exact u1
 unfold St.get;refine bM (fun q:Int×Bool=>u32 q.1) (hb _) ?_;refine bM (fun q:Int×Bool=>u32 q.1) (hb _) ?_;refine bM (fun q:Int×Bool=>u32 q.1) h.root ?_;refine bM (fun q:Int×Bool=>u32 q.1) h.vec ?_;refine bM (fun q:Int×Bool=>u32 q.1) h.epc ?_;refine bM (fun q:Int×Bool=>u32 q.1) h.Ie ?_;refine bM (fun q:Int×Bool=>u32 q.1) h.addr ?_;refine bM (fun q:Int×Bool=>u32 q.1) (hb _) ?_;refine bM (fun q:Int×Bool=>u32 q.1) (hb _) ?_;refine bM (fun q:Int×Bool=>u32 q.1) (gy _) ?_;exact bM (fun q:Int×Bool=>u32 q.1) h.flags u0
def pY(s:St)(q:St×Bool):Prop:=q.1.wf∧q.1.flags≤15∧q.1.count=s.count
theorem set_wf{s:St}(h:s.wf)(hf:s.flags≤15)(reg:Int){v:Int}(hv:u32 v):pY s (s.set reg v):=by
 have h0:pY s (s,false):=⟨h,hf,rfl⟩;unfold St.set;refine bM (pY s) ⟨⟨h.pc,h.flags,h.root,h.vec,h.epc,h.Ie,h.addr,h.count,h.d,h.r⟩,hf,rfl⟩ ?_;refine bM (pY s) ⟨⟨h.pc,h.flags,h.root,h.vec,h.epc,h.Ie,h.addr,h.count,h.d,h.r⟩,hf,rfl⟩ ?_;refine bM (pY s) ⟨⟨h.pc,h.flags,hH .andNot v 63,h.vec,h.epc,h.Ie,h.addr,h.count,h.d,h.r⟩,hf,rfl⟩ ?_;refine bM (pY s) ⟨⟨h.pc,h.flags,h.root,hv,h.epc,h.Ie,h.addr,h.count,h.d,h.r⟩,hf,rfl⟩ ?_;refine bM (pY s) ⟨⟨h.pc,h.flags,h.root,h.vec,hv,h.Ie,h.addr,h.count,h.d,h.r⟩,hf,rfl⟩ ?_;refine bM (pY s) ⟨⟨h.pc,h.flags,h.root,h.vec,h.epc,hv,h.addr,h.count,h.d,h.r⟩,hf,rfl⟩ ?_;refine bM (pY s) ⟨⟨h.pc,h.flags,h.root,h.vec,h.epc,h.Ie,hv,h.count,h.d,h.r⟩,hf,rfl⟩ ?_;refine bM (pY s) ⟨⟨h.pc,h.flags,h.root,h.vec,h.epc,h.Ie,h.addr,h.count,h.d,h.r⟩,hf,rfl⟩ ?_;refine bM (pY s) ⟨⟨h.pc,h.flags,h.root,h.vec,h.epc,h.Ie,h.addr,h.count,h.d,h.r⟩,hf,rfl⟩ ?_;refine bM (pY s) ⟨⟨h.pc,hH .and v 15,h.root,h.vec,h.epc,h.Ie,h.addr,h.count,h.d,h.r⟩,?_,rfl⟩ h0;show bits .and .u32 v 15≤15;rw[zr hv];omega
section
variable {n:Nat} {op nn:Int} {R:Run} {U:Mmu} {d:Dev}
theorem AC(hop:op=48){l:List Int}{va:Nat}(hva:va≤4294967295)(hw:(R.wd (l++[(va:Int)])).s.wf)(hf:R.s.flags≤15)(hU:UOk n U)(hd:d.ok):r7 n op (R.wd (l++[(va:Int)])).s d (k9 n (R.wd l) U d va):=by
 subst hop;have hu:=qv hU (R.wd l) va 2;have ht:=sC n (R.wd l) U va hva 2;have hs:=qu n (R.wd l) U va 2;have hc:=nk n (R.wd l) U va 2;have hwl:(R.wd l).s.wf:=sc hw (pu hw.d);unfold k9;obtain⟨⟨p,ok,r,u⟩,hq⟩:=Zgn (cM n (R.wd l) U va 2);rw[hq]at hu ht hs hc⊢;have hu:UOk n u:=hu;have ht:TrU r.Io:=ht;have hs:r.s=(R.wd l).s:=hs;have hc:ok=(r.Io.Ie==0):=hc;have key:∀(v:Int) (o:Bool) (d':Dev),u32 v→d'.ok→d'.out.length≤d.out.length+1→r7 n 48 (R.wd (l++[(va:Int)])).s d (pG ⟨p,ok,r,u⟩ d' va v o):=fun v o d' hv hd' ho'=>by
  unfold pG;cases o with
  |false=>exact⟨hu,hd',ho',(tr10 (jy hva)),fun h=>by cases h⟩
  |true=>
   refine⟨hu,hd',ho',ht,fun _=>?_⟩;have e:(Run.push r [v]).s=(R.wd (l++[v])).s:=by
    show St.mk _ _ _ _ _ _ _ _ _ _ _ _ _ _ _ _=_;rw[hs]
   show Did 48 _ (Run.push r [v]).s;rw[e];exact Did.of (l:=l) (m:=R.s.r) [(va:Int)] [v] [] [] rfl (sc hwl (zt (pu hw.d) hv)) hf rfl rfl rfl (by simp) (by simp)
 cases hok:ok with
 |false=>
  rw[hok]at hc;exact⟨hu,hd,Nat.le_succ _,ht,fun h=>by have h:r.Io.Ie=0:=h;rw[h]at hc;cases hc⟩
 |true=>
  rw[hok]at key;simp only[Bool.not_true,aa];refine bM (r7 n 48 (R.wd (l++[(va:Int)])).s d) ?_ ?_
  ·have h1:=AW hd (ss p.toNat) r.count;exact key _ _ _ h1.1 h1.2.1 (by rw[h1.2.2];exact Nat.le_succ _)
  refine key _ _ _ ?_ hd (Nat.le_succ _);unfold qr;exact bM (fun q:Int×Bool=>u32 q.1) (sA hu.m.db _) u0
theorem zS(hop:op=49){l:List Int}{va v:Nat}(hva:va≤4294967295)(hv:v≤4294967295)(hw:(R.wd ((l++[(v:Int)])++[(va:Int)])).s.wf)(hf:R.s.flags≤15)(hU:UOk n U)(hd:d.ok):r7 n op (R.wd ((l++[(v:Int)])++[(va:Int)])).s d (k8 n (R.wd l) U d va v):=by
 subst hop;have hu:=qv hU (R.wd l) va 3;have ht:=sC n (R.wd l) U va hva 3;have hs:=qu n (R.wd l) U va 3;have hc:=nk n (R.wd l) U va 3;have hdd:∀z,z∈(l++[(v:Int)])++[(va:Int)]→u32 z:=hw.d;have hwl:(R.wd l).s.wf:=sc hw (pu (pu hdd));unfold k8;obtain⟨⟨p,ok,r,u⟩,hq⟩:=Zgn (cM n (R.wd l) U va 3);rw[hq]at hu ht hs hc⊢;have hu:UOk n u:=hu;have ht:TrU r.Io:=ht;have hs:r.s=(R.wd l).s:=hs;have hc:ok=(r.Io.Ie==0):=hc;have hdid:Did 49 (R.wd ((l++[(v:Int)])++[(va:Int)])).s r.s:=by
  rw[hs];exact Did.of (l:=l) (m:=R.s.r) [(v:Int),(va:Int)] [] [] [] rfl hwl hf rfl (by simp) (by simp) (by simp) (by simp)
 cases hok:ok with
 |false=>
  rw[hok]at hc;exact⟨hu,hd,Nat.le_succ _,ht,fun h=>by have h:r.Io.Ie=0:=h;rw[h]at hc;cases hc⟩
 |true=>
  simp only[Bool.not_true,aa];refine bM (r7 n 49 (R.wd ((l++[(v:Int)])++[(va:Int)])).s d) ?_ ?_
  ·obtain⟨h1,h2,h3⟩:=x6 hu.m hd (ss p.toNat) hv;obtain⟨⟨o,M',d'⟩,hq2⟩:=Zgn (cU n u.m d (ss p.toNat) v);rw[hq2]at h1 h2 h3;rw[hq2];cases o with
   |false=>exact⟨⟨h1,hu.t⟩,h2,h3,(tr10 (jy hva)),fun h=>by cases h⟩
   |true=>exact⟨⟨h1,hu.t⟩,h2,h3,ht,fun _=>hdid⟩
  exact⟨⟨hu.m.IZ _ _ 4,hu.t⟩,hd,Nat.le_succ _,ht,fun _=>hdid⟩
theorem qI(hn:bQ op=((1,1),(0,0))){l:List Int}{va k:Nat}(hva:va≤4294967295)(hk:k≤4)(hw:(R.wd (l++[(va:Int)])).s.wf)(hf:R.s.flags≤15)(hU:UOk n U)(hd:d.ok):r7 n op (R.wd (l++[(va:Int)])).s d (ik.of (lE n (R.wd l) U va k) d):=by
 have hwl:(R.wd l).s.wf:=sc hw (pu hw.d);have hv:=AD hU (R.wd l).sp va hk;exact⟨oI hU _ _ _ _,hd,Nat.le_succ _,vx n U _ va k hva 2,fun _=>Did.of (l:=l) (m:=R.s.r) [(va:Int)] [_] [] [] hn (sc hwl (zt (pu hw.d) hv)) hf rfl rfl rfl (by simp) (by simp[lE,Run.push])⟩
theorem qH(hn:bQ op=((2,0),(0,0))){l:List Int}{v:Int}{va k:Nat}(hva:va≤4294967295)(hw:(R.wd ((l++[v])++[(va:Int)])).s.wf)(hf:R.s.flags≤15)(hU:UOk n U)(hd:d.ok):r7 n op (R.wd ((l++[v])++[(va:Int)])).s d (ik.of (lb n (R.wd l) U va k v) d):=by
 have hdd:∀z,z∈(l++[v])++[(va:Int)]→u32 z:=hw.d;have hwl:(R.wd l).s.wf:=sc hw (pu (pu hdd));exact⟨xo hU _ _ _ _,hd,Nat.le_succ _,vx n U _ va k hva 3,fun _=>Did.of (l:=l) (m:=R.s.r) [v,(va:Int)] [] [] [] hn hwl hf rfl (by simp) (by simp[lb]) (by simp) (by simp[lb])⟩
theorem sJ:dM.length=16:=aM
theorem xG(hw:R.s.wf)(hf:R.s.flags≤15)(hc:0≤R.count∧R.count≤18446744073709551615)(ht:R.Io=Tr.none)(hU:UOk n U)(hd:d.ok)(hnn:u32 nn)(h1:(bQ op).1.1≤R.s.d.length)(hst:dK op nn R=none)(hrk:(cL op nn R).1=false):r7 n op R.s d (dS n op nn ⟨R,U,d⟩):=by
 have ht':TrU R.Io:=by rw[ht];exact trN
 have h0:∀{op},bQ op=((0,0),(0,0))→∀(s':St),s'.wf→s'.flags≤15→s'.count=R.s.count→s'.d=R.s.d→s'.r=R.s.r→Did op R.s s':=fun hn s' a1 a2 a3 a4 a5=>
  Did.of (l:=R.s.d) (m:=R.s.r) [] [] [] [] hn a1 a2 a3 (by simp) (by simp[a4]) (by simp) (by simp[a5])
 by_cases e:op=48
 ·subst e;obtain⟨R,l,x,rfl⟩:=Run.snoc (show 1≤R.s.d.length from h1);have hx:=wX (l:=l) hw.d;obtain⟨va,rfl⟩:∃va:Nat,x=va:=ar hx.1;have hva:va≤4294967295:=by have:(va:Int)≤_:=hx.2;omega
  have he:dS n 48 nn ⟨R.wd (l++[(va:Int)]),U,d⟩=k9 n (R.wd l) U d va:=by show k9 _ _ _ _ _=_;rw[Run.pop_wd,Run.top_wd];rfl
  rw[he];exact AC rfl hva hw hf hU hd
 have e48:(op==48)=false:=by simpa using e
 by_cases e:op=49
 ·subst e;obtain⟨R,l,y,x,rfl⟩:=Run.IW (show 2≤R.s.d.length from h1);have hx:=wX (l:=l++[y]) hw.d;have hy:=wX (l:=l) (pu (l:=l++[y]) hw.d);obtain⟨va,rfl⟩:∃va:Nat,x=va:=ar hx.1;obtain⟨v,rfl⟩:∃v:Nat,y=v:=ar hy.1;have hva:va≤4294967295:=by have:(va:Int)≤_:=hx.2;omega
  have hv:v≤4294967295:=by have:(v:Int)≤_:=hy.2;omega
  have he:dS n 49 nn ⟨R.wd ((l++[(v:Int)])++[(va:Int)]),U,d⟩=k8 n (R.wd l) U d va v:=by show k8 _ _ _ _ _ _=_;rw[Run.pop_wd,Run.top_wd,Run.pop_wd,Run.top_wd];rfl
  rw[he];exact zS rfl hva hv hw hf hU hd
 have e49:(op==49)=false:=by simpa using e
 by_cases e:op=50
 ·subst e;obtain⟨R,l,x,rfl⟩:=Run.snoc (show 1≤R.s.d.length from h1);have hx:=wX (l:=l) hw.d;obtain⟨va,rfl⟩:∃va:Nat,x=va:=ar hx.1;have hva:va≤4294967295:=by have:(va:Int)≤_:=hx.2;omega
  have he:dS n 50 nn ⟨R.wd (l++[(va:Int)]),U,d⟩=ik.of (lE n (R.wd l) U va 4) d:=by show ik.of (lE _ _ _ _ _) _=_;rw[Run.pop_wd,Run.top_wd];rfl
  rw[he];exact qI rfl hva (by decide) hw hf hU hd
 have e50:(op==50)=false:=by simpa using e
 by_cases e:op=51
 ·subst e;obtain⟨R,l,y,x,rfl⟩:=Run.IW (show 2≤R.s.d.length from h1);have hx:=wX (l:=l++[y]) hw.d;obtain⟨va,rfl⟩:∃va:Nat,x=va:=ar hx.1;have hva:va≤4294967295:=by have:(va:Int)≤_:=hx.2;omega
  have he:dS n 51 nn ⟨R.wd ((l++[y])++[(va:Int)]),U,d⟩=ik.of (lb n (R.wd l) U va 4 y) d:=by show ik.of (lb _ _ _ _ _ _) _=_;rw[Run.pop_wd,Run.top_wd,Run.pop_wd,Run.top_wd];rfl
  rw[he];exact qH rfl hva hw hf hU hd
 have e51:(op==51)=false:=by simpa using e
 by_cases e:op=52
 ·subst e;obtain⟨R,l,x,rfl⟩:=Run.snoc (show 1≤R.s.d.length from h1);have hx:=wX (l:=l) hw.d;obtain⟨va,rfl⟩:∃va:Nat,x=va:=ar hx.1;have hva:va≤4294967295:=by have:(va:Int)≤_:=hx.2;omega
  have he:dS n 52 nn ⟨R.wd (l++[(va:Int)]),U,d⟩=ik.of (lE n (R.wd l) U va 1) d:=by show ik.of (lE _ _ _ _ _) _=_;rw[Run.pop_wd,Run.top_wd];rfl
  rw[he];exact qI rfl hva (by decide) hw hf hU hd
 have e52:(op==52)=false:=by simpa using e
 by_cases e:op=53
 ·subst e;obtain⟨R,l,y,x,rfl⟩:=Run.IW (show 2≤R.s.d.length from h1);have hx:=wX (l:=l++[y]) hw.d;obtain⟨va,rfl⟩:∃va:Nat,x=va:=ar hx.1;have hva:va≤4294967295:=by have:(va:Int)≤_:=hx.2;omega
  have he:dS n 53 nn ⟨R.wd ((l++[y])++[(va:Int)]),U,d⟩=ik.of (lb n (R.wd l) U va 1 y) d:=by show ik.of (lb _ _ _ _ _ _) _=_;rw[Run.pop_wd,Run.top_wd,Run.pop_wd,Run.top_wd];rfl
  rw[he];exact qH rfl hva hw hf hU hd
 have e53:(op==53)=false:=by simpa using e
 by_cases e:op=64
 ·subst e;exact⟨hU,hd,Nat.le_succ _,tr11,fun h=>by cases h⟩
 have e64:(op==64)=false:=by simpa using e
 by_cases e:op=65
 ·subst e;exact⟨hU,hd,Nat.le_succ _,ht',fun _=>h0 rfl R.s.back ⟨hw.epc,hw.flags,hw.root,hw.vec,hw.epc,hw.Ie,hw.addr,hw.count,hw.d,hw.r⟩ hf rfl rfl rfl⟩
 have e65:(op==65)=false:=by simpa using e
 by_cases e:op=66
 ·subst e;have hwc:(R.s.IQ R.count).wf:=⟨hw.pc,hw.flags,hw.root,hw.vec,hw.epc,hw.Ie,hw.addr,hc,hw.d,hw.r⟩;exact⟨hU,hd,Nat.le_succ _,ht',fun _=>Did.of (l:=R.s.d) (m:=R.s.r) [] [((R.s.IQ R.count).get nn).1] [] [] rfl (sc hw (zt hw.d (get_u32 hwc nn))) hf rfl (by simp) rfl (by simp) (ay _).symm⟩
 have e66:(op==66)=false:=by simpa using e
 by_cases e:op=67
 ·subst e;obtain⟨R,l,x,rfl⟩:=Run.snoc (show 1≤R.s.d.length from h1);have hwl:(R.wd l).s.wf:=sc hw (pu (l:=l) hw.d);have hs:=set_wf hwl hf nn (wX (l:=l) hw.d);obtain⟨q1,q2⟩:=St.set_dr (R.wd l).s nn x;have he:dS n 67 nn ⟨R.wd (l++[x]),U,d⟩=⟨(R.wd l).ws ((R.wd l).s.set nn x).1,bif nn==1||nn==2 then⟨U.m,dM⟩else U,d⟩:=by show ik.mk _ _ _=_;rw[Run.pop_wd,Run.top_wd]
  rw[he];exact⟨bM (UOk n) ⟨hU.m,sJ⟩ hU,hd,Nat.le_succ _,ht',fun _=>Did.of (l:=l) (m:=R.s.r) [x] [] [] [] rfl hs.1 hs.2.1 hs.2.2 rfl (by simp only[q1,ay]) (by simp) (by simp only[q2,ay])⟩
 have e67:(op==67)=false:=by simpa using e
 by_cases e:op=68
 ·subst e;obtain⟨R,l,x,rfl⟩:=Run.snoc (show 1≤R.s.d.length from h1);have he:dS n 68 nn ⟨R.wd (l++[x]),U,d⟩=⟨R.wd l,⟨U.m,sf U.t x.toNat⟩,d⟩:=by show ik.mk _ _ _=_;rw[Run.pop_wd,Run.top_wd]
  rw[he];exact⟨⟨hU.m,(BT _ _).trans hU.t⟩,hd,Nat.le_succ _,ht',fun _=>Did.of (l:=l) (m:=R.s.r) [x] [] [] [] rfl (sc hw (pu (l:=l) hw.d)) hf rfl rfl (by simp) (by simp) (by simp)⟩
 have e68:(op==68)=false:=by simpa using e
 by_cases e:op=69
 ·subst e;exact⟨hU,hd,Nat.le_succ _,ht',fun _=>h0 rfl R.s.halt ⟨hw.pc,hw.flags,hw.root,hw.vec,hw.epc,hw.Ie,hw.addr,hw.count,hw.d,hw.r⟩ hf rfl rfl rfl⟩
 have e69:(op==69)=false:=by simpa using e
 have he:dS n op nn ⟨R,U,d⟩=⟨R,U,d⟩:=by simp only[dS, *,aa]
 have hn:bQ op=((0,0),(0,0)):=by
  have n1:(op==1)=false:=by cases h:(op==1)with|false=>rfl|true=>(have:=jS h;subst this;cases hst)
  have n2:(op==2)=false:=by cases h:(op==2)with|false=>rfl|true=>(have:=jS h;subst this;cases hst)
  have n3:(op==3)=false:=by cases h:(op==3)with|false=>rfl|true=>(have:=jS h;subst this;cases hst)
  have n4:(op==4)=false:=by cases h:(op==4)with|false=>rfl|true=>(have:=jS h;subst this;cases hst)
  have n5:(op==5)=false:=by cases h:(op==5)with|false=>rfl|true=>(have:=jS h;subst this;cases hst)
  have n6:(op==6)=false:=by cases h:(op==6)with|false=>rfl|true=>(have:=jS h;subst this;cases hst)
  have n7:(op==7)=false:=by cases h:(op==7)with|false=>rfl|true=>(have:=jS h;subst this;cases hst)
  have n8:(op==8)=false:=by cases h:(op==8)with|false=>rfl|true=>(have:=jS h;subst this;cases hst)
  have n16:(op==16)=false:=by cases h:(op==16)with|false=>rfl|true=>(have:=jS h;subst this;cases hrk)
  have n17:(op==17)=false:=by cases h:(op==17)with|false=>rfl|true=>(have:=jS h;subst this;cases hrk)
  have n18:(op==18)=false:=by cases h:(op==18)with|false=>rfl|true=>(have:=jS h;subst this;cases hrk)
  have n19:(op==19)=false:=by cases h:(op==19)with|false=>rfl|true=>(have:=jS h;subst this;cases hrk)
  have n20:(op==20)=false:=by cases h:(op==20)with|false=>rfl|true=>(have:=jS h;subst this;cases hrk)
  have n21:(op==21)=false:=by cases h:(op==21)with|false=>rfl|true=>(have:=jS h;subst this;cases hrk)
  have n22:(op==22)=false:=by cases h:(op==22)with|false=>rfl|true=>(have:=jS h;subst this;cases hrk)
  have n23:(op==23)=false:=by cases h:(op==23)with|false=>rfl|true=>(have:=jS h;subst this;cases hrk)
  have n24:(op==24)=false:=by cases h:(op==24)with|false=>rfl|true=>(have:=jS h;subst this;cases hrk)
  have n25:(op==25)=false:=by cases h:(op==25)with|false=>rfl|true=>(have:=jS h;subst this;cases hrk)
  have n38:(op==38)=false:=by cases h:(op==38)with|false=>rfl|true=>(have:=jS h;subst this;cases hrk)
  have n39:(op==39)=false:=by cases h:(op==39)with|false=>rfl|true=>(have:=jS h;subst this;cases hrk)
  have n40:(op==40)=false:=by cases h:(op==40)with|false=>rfl|true=>(have:=jS h;subst this;cases hrk)
  unfold bQ;simp only[*,aa]
 rw[he];exact⟨hU,hd,Nat.le_succ _,ht',fun _=>h0 hn R.s hw hf rfl rfl rfl⟩
theorem xH{s:St}(h:s.wf):s.next.wf:=by
 refine⟨h.pc,h.flags,h.root,h.vec,h.epc,h.Ie,h.addr,?_,h.d,h.r⟩;show 0≤IntKind.u64.wrap _∧IntKind.u64.wrap _≤_;rw[aU];omega
theorem BH{s:St}(h:s.wf)(c:Int){a:Int}(ha:u32 a):(s.Io c a).wf:=⟨h.vec,h.flags,h.root,h.vec,h.pc,gy _,ha,h.count,h.d,h.r⟩
theorem CE{s:St}(hw:s.wf)(hr:s.right=true)(hnn:u32 nn)(hck:eO s op nn=0)(hU:UOk n U)(hd:d.ok):r7 n op s.next d (kA n s op nn U d):=by
 obtain⟨h16,r16,f15⟩:=St.fits hr;obtain⟨n1,n2⟩:=lZ hck;have hwn:=xH hw
 have hw0:(eW s op).s.wf:=zF hwn (gy _);have key:∀{m:ik},r7 n op (eW s op).s d m→r7 n op s.next d m:=fun h=>⟨h.u,h.dv,h.o,h.t,fun hc=>by
  have h1:=h.did hc;exact⟨h1.wf,h1.fl,h1.cnt,h1.dl,h1.dt,h1.rl,h1.rt⟩⟩
 unfold kA;cases hst:dK op nn (eW s op)with
 |some R'=>
  obtain⟨h1,h2, -, -⟩:=B2 hw0 f15 hnn n1 n2 hst;exact key ⟨hU,hd,Nat.le_succ _,by show TrU R'.Io;rw[h2];exact trN,fun _=>h1⟩
 |none=>
  cases hrk:(cL op nn (eW s op)).1 with
  |true=>
   obtain⟨h1,h2, -, -⟩:=Ae hw0 f15 n1 n2 hrk;refine key ⟨hU,hd,Nat.le_succ _,?_,fun _=>h1⟩;show TrU (cL op nn (eW s op)).2.Io;rcases h2 with h2|h2<;>rw[h2]
   ·exact trN
   exact⟨u0,by decide,by decide⟩
  |false=>
   simp only[aa];rw[nL op nn _ hrk];exact key (xG hw0 f15 hw.count rfl hU hd hnn n1 hst hrk)
structure Goes(n:Nat)(s:St)(d:Dev)(q:Res×Mmu×Dev):Prop where
 wf:q.1.s.wf
 right:q.1.s.right=true
 cnt:q.1.s.count=IntKind.u64.wrap (s.count+1)
 u:UOk n q.2.1
 dv:q.2.2.ok
 o:q.2.2.out.length≤d.out.length+1
theorem xL{s:St}{q:(Nat×Nat)×(Nat×Nat)}(h:jl s q=0):(s.d.length:Int) - q.1.1+q.1.2≤16∧(s.r.length:Int) - q.2.1+q.2.2≤16:=by
 unfold jl at h;cases hc:(decide ((s.d.length:Int)<(q.1.1:Int))||decide ((s.r.length:Int)<(q.2.1:Int)))with
 |true=>rw[hc]at h;cases h
 |false=>
  rw[hc]at h;simp only[aa]at h;cases hc2:(decide (16<(s.d.length:Int) - (q.1.1:Int)+(q.1.2:Int))||decide (16<(s.r.length:Int) - (q.2.1:Int)+(q.2.2:Int)))with
  |true=>rw[hc2]at h;cases h
  |false=>
   simp only[bj,aj]at hc2;omega
theorem wQ{s:St}{op n:Int}(h:eO s op n=0):(s.d.length:Int) - (bQ op).1.1+(bQ op).1.2≤16∧(s.r.length:Int) - (bQ op).2.1+(bQ op).2.2≤16:=by
 unfold eO at h;revert h;refine bM (fun x:Int=>x=0→(s.d.length:Int) - (bQ op).1.1+(bQ op).1.2≤16∧(s.r.length:Int) - (bQ op).2.1+(bQ op).2.2≤16) (fun h=>by cases h) ?_;refine bM (fun x:Int=>x=0→(s.d.length:Int) - (bQ op).1.1+(bQ op).1.2≤16∧(s.r.length:Int) - (bQ op).2.1+(bQ op).2.2≤16) (fun h=>by cases h) ?_;refine bM (fun x:Int=>x=0→(s.d.length:Int) - (bQ op).1.1+(bQ op).1.2≤16∧(s.r.length:Int) - (bQ op).2.1+(bQ op).2.2≤16) (fun h=>by cases h) ?_;refine bM (fun x:Int=>x=0→(s.d.length:Int) - (bQ op).1.1+(bQ op).1.2≤16∧(s.r.length:Int) - (bQ op).2.1+(bQ op).2.2≤16) (fun h=>by cases h) ?_;exact xL
theorem D2{s s':St}(h:Did op s s')(hs:s.d.length≤16∧s.r.length≤16)(hn:(bQ op).1.1≤s.d.length∧(bQ op).2.1≤s.r.length)(hr:(s.d.length:Int) - (bQ op).1.1+(bQ op).1.2≤16∧(s.r.length:Int) - (bQ op).2.1+(bQ op).2.2≤16):s'.right=true:=by
 have h1:=h.dl;have h2:=h.rl;have h3:=h.fl;simp only[St.right,az,ap];omega
theorem u5{s:St}(hw:s.wf)(hr:s.right=true)(hnn:u32 nn)(hU:UOk n U)(hd:d.ok):Goes n s d (sq n s op nn U d):=by
 have hU':UOk n ⟨U.m.calm,U.t⟩:=⟨hU.m.calm,hU.t⟩;have hfit:=St.fits hr;unfold sq;rw[hr];simp only[Bool.not_true,aa];cases hck:(eO s op nn !=0)with
 |true=>exact⟨BH (xH hw) _ u0,hr,rfl,hU',hd,Nat.le_succ _⟩
 |false=>
  have hck0:eO s op nn=0:=by simpa using hck
  have hA:=CE (n:=n) hw hr hnn hck0 hU' hd;simp only[aa];obtain⟨m,hm⟩:=Zgn (kA n s op nn ⟨U.m.calm,U.t⟩ d);rw[hm]at hA⊢;unfold uX;cases hc:(m.r.Io.Ie !=0)with
  |true=>exact⟨BH (xH hw) _ hA.t.1,hr,rfl,hA.u,hA.dv,hA.o⟩
  |false=>
   have h1:=hA.did (by simpa using hc);have c1:=lZ hck0;have c2:=wQ hck0;exact⟨h1.wf,D2 h1 ⟨hfit.1,hfit.2.1⟩ c1 c2,h1.cnt,hA.u,hA.dv,hA.o⟩
end
end Go.Ink
