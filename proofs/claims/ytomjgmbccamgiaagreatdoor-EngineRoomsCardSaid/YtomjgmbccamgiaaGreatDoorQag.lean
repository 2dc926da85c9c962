/- Lemmas. -/
import Derived.Test.YtomjgmbccamgiaaGreatDoorQaa
import Derived.Test.YtomjgmbccamgiaaGreatDoorQab
import Derived.Test.YtomjgmbccamgiaaGreatDoorQaf
set_option linter.unusedSimpArgs false
set_option linter.unusedVariables false
set_option maxRecDepth 100000
set_option maxHeartbeats 4000000
namespace Go.Ink
open Go.RowKit
theorem u0:u32 0:=⟨by decide,by decide⟩
theorem u1:u32 1:=⟨by decide,by decide⟩
theorem gM(a:Int):u32 (IntKind.u32.wrap a):=by
 unfold u32;rw[aE];omega
theorem fy{n:Nat}(h:n≤4294967295):u32 (n:Int):=⟨by omega,by omega⟩
structure Mem.ok(n:Nat)(M:Mem):Prop where
 dl:M.data.length=n*64
 db:u8s M.data
 tl:M.Ip.length=64
theorem u8s_set{l:List Int}(h:u8s l){a:Nat}{b:Int}(hb:0≤b∧b≤255):u8s (l.set a b):=fun x hx=>by
 rcases List.mem_or_eq_of_mem_set hx with h1|h1
 ·exact h x h1
 rw[h1];exact hb
theorem Mem.ok.put{n:Nat}{M:Mem}(h:M.ok n)(a:Nat){b:Int}(hb:0≤b∧b≤255):(M.put a b).ok n:=
 ⟨by show(M.data.set _ _).length=_;rw[aL];exact h.dl,u8s_set h.db hb,by show(M.Ip.set _ _).length=_;rw[aL];exact h.tl⟩
theorem Mem.ok.I8{n:Nat}{M:Mem}(h:M.ok n)(a:Nat)(v:Int):∀k,(M.I8 a v k).ok n
 |0=>h
 |k+1=>(Mem.ok.I8 h a v k).put _ (nA v k)
theorem Mem.ok.IR{n:Nat}{M:Mem}(h:M.ok n)(l:List Int)(v:Int):∀k,(IR M l v k).ok n
 |0=>h
 |k+1=>(Mem.ok.IR h l v k).put _ (nA v k)
theorem Mem.ok.fill{n:Nat}{M:Mem}(h:M.ok n)(a:Nat){l:List Int}(hl:u8s l):∀k,(M.fill a l k).ok n
 |0=>h
 |k+1=>(Mem.ok.fill h a hl k).put _ (jN hl k)
theorem Mem.ok.calm{n:Nat}{M:Mem}(h:M.ok n):M.calm.ok n:=⟨h.dl,h.db,aO⟩
theorem Jm{n:Nat}{b:List Int}(h:b.length≤n*64)(hb:u8s b):(Mem.init n b).ok n:=by
 refine⟨by simp[Mem.init];omega,fun x hx=>?_,aO⟩;rcases aV.1 hx with hx|hx
 ·exact hb x hx
 rw[List.eq_of_mem_replicate hx];decide
theorem z8{n:Nat}{M:Mem}(h:M.ok n)(root va:Nat)(kind:Int)(Il:Bool):(gR n M root va kind Il).2.ok n:=by
 unfold gR;refine bN (fun q:(TE×Tr)×Mem=>q.2.ok n) h ?_;cases lU n M.data root va with
 |none=>exact h
 |some q=>
  obtain⟨a,l⟩:=q;refine bN (fun q:(TE×Tr)×Mem=>q.2.ok n) h ?_;exact bN (fun q:Mem=>q.ok n) (h.I8 _ _ 4) h
def TrU(t:Tr):Prop:=u32 t.addr∧0≤t.Im∧t.Im≤255
theorem tr10{a:Int}(h:u32 a):TrU ⟨10,a⟩:=⟨h,by show(0:Int)≤10;decide,by show(10:Int)≤255;decide⟩
theorem trN:TrU Tr.none:=⟨u0,by decide,by decide⟩
theorem tr11:TrU ⟨11,0⟩:=⟨u0,by decide,by decide⟩
theorem D6(kind:Int):0≤fault kind∧fault kind≤255:=by
 unfold fault;refine bN (fun x:Int=>0≤x∧x≤255) (by decide) ?_;refine bN (fun x:Int=>0≤x∧x≤255) (by decide) ?_;exact bN (fun x:Int=>0≤x∧x≤255) (by decide) (by decide)
theorem BT(n:Nat)(M:Mem)(root va:Nat)(hva:va≤4294967295)(kind:Int)(Il:Bool):TrU (gR n M root va kind Il).1.2:=by
 have hv:=fy hva;have hf:=D6 kind;unfold gR;refine bN (fun q:(TE×Tr)×Mem=>TrU q.1.2) (tr10 hv) ?_;cases lU n M.data root va with
 |none=>exact⟨hv,hf⟩
 |some q=>
  obtain⟨a,l⟩:=q;refine bN (fun q:(TE×Tr)×Mem=>TrU q.1.2) ⟨hv,hf⟩ ?_;exact trN
structure UOk(n:Nat)(U:Mmu):Prop where
 m:U.m.ok n
 t:U.t.length=16
theorem vB{n:Nat}{U:Mmu}(h:U.m.ok n)(s:Sp)(va:Nat)(kind:Int):(dh n U s va kind).2.m.ok n:=by
 have hw:=z8 h s.root va kind s.Il;unfold dh;refine bN (fun q:(Int×Tr)×Mmu=>q.2.m.ok n) h ?_;refine bN (fun q:(Int×Tr)×Mmu=>q.2.m.ok n) h ?_;exact bN (fun q:(Int×Tr)×Mmu=>q.2.m.ok n) hw hw
theorem xw(n:Nat)(U:Mmu)(s:Sp)(va:Nat)(hva:va≤4294967295)(kind:Int):TrU (dh n U s va kind).1.2:=by
 have hw:=BT n U.m s.root va hva kind s.Il;have h0:=trN;unfold dh;refine bN (fun q:(Int×Tr)×Mmu=>TrU q.1.2) h0 ?_;refine bN (fun q:(Int×Tr)×Mmu=>TrU q.1.2) h0 ?_;exact bN (fun q:(Int×Tr)×Mmu=>TrU q.1.2) hw hw
theorem kY{n:Nat}{U:Mmu}(h:UOk n U)(s:Sp)(va:Nat)(kind:Int):UOk n (cW n U s va kind).2:=by
 refine⟨?_,(ru n U s va kind).trans h.t⟩;have hw:=vB h.m s va kind;unfold cW;refine bN (fun q:(Int×Tr)×Mmu=>q.2.m.ok n) h.m ?_;refine bN (fun q:(Int×Tr)×Mmu=>q.2.m.ok n) hw ?_;exact bN (fun q:(Int×Tr)×Mmu=>q.2.m.ok n) hw hw
theorem mE(n:Nat)(U:Mmu)(s:Sp)(va:Nat)(hva:va≤4294967295)(kind:Int):TrU (cW n U s va kind).1.2:=by
 have hw:=xw n U s va hva kind;have h1:TrU ⟨10,va⟩:=(tr10 (fy hva));unfold cW;refine bN (fun q:(Int×Tr)×Mmu=>TrU q.1.2) h1 ?_;refine bN (fun q:(Int×Tr)×Mmu=>TrU q.1.2) hw ?_;exact bN (fun q:(Int×Tr)×Mmu=>TrU q.1.2) hw h1
theorem vJ(a b:Int)(va k:Nat)(t:Tr)(U:Mmu):(fQ a b va k t U).2=U:=by
 unfold fQ;refine bN (fun q:(List Int×Tr)×Mmu=>q.2=U) rfl ?_;exact bN (fun q:(List Int×Tr)×Mmu=>q.2=U) rfl rfl
theorem tq(a b:Int){va:Nat}(hva:va≤4294967295)(k:Nat){t:Tr}(ht:TrU t)(U:Mmu):TrU (fQ a b va k t U).1.2:=by
 unfold fQ;refine bN (fun q:(List Int×Tr)×Mmu=>TrU q.1.2) (tr10 (fy hva)) ?_;exact bN (fun q:(List Int×Tr)×Mmu=>TrU q.1.2) (tr10 (fy (kZ va))) ht
theorem oR{n:Nat}{U:Mmu}(h:UOk n U)(s:Sp)(va k:Nat)(kind:Int):UOk n (eX n U s va k kind).2:=by
 have h1:=kY h s va kind;have h2:=kY h1 s (ek va) kind;unfold eX AC;refine bN (fun q:(List Int×Tr)×Mmu=>UOk n q.2) h1 ?_;refine bN (fun q:(List Int×Tr)×Mmu=>UOk n q.2) ?_ (by rw[vJ];exact h1);unfold AB;exact bN (fun q:(List Int×Tr)×Mmu=>UOk n q.2) h2 (by rw[vJ];exact h2)
theorem vG(n:Nat)(U:Mmu)(s:Sp)(va k:Nat)(hva:va≤4294967295)(kind:Int):TrU (eX n U s va k kind).1.2:=by
 have h1:=mE n U s va hva kind;have h2:=mE n (cW n U s va kind).2 s (ek va) (kZ va) kind;unfold eX AC;refine bN (fun q:(List Int×Tr)×Mmu=>TrU q.1.2) h1 ?_;refine bN (fun q:(List Int×Tr)×Mmu=>TrU q.1.2) ?_ (tq _ _ hva _ h1 _);unfold AB;exact bN (fun q:(List Int×Tr)×Mmu=>TrU q.1.2) h2 (tq _ _ hva _ h2 _)
theorem AZ{n:Nat}{U:Mmu}(h:UOk n U)(s:Sp)(va:Nat){k:Nat}(hk:k≤4):u32 (nZ n U s va k).1.1:=by
 have h1:=oR h s va k 2;have h2:=lP h1.m.db (eX n U s va k 2).1.1;have h3:(eX n U s va k 2).1.1.length≤4:=aY oS hk;show u32 (gl _ _);generalize gl (eX n U s va k 2).2.m.data (eX n U s va k 2).1.1=v at h2;generalize (eX n U s va k 2).1.1.length=m at h2 h3;obtain rfl|rfl|rfl|rfl|rfl:m=0∨m=1∨m=2∨m=3∨m=4:=by omega
 all_goals (refine⟨h2.1,?_⟩;simp at h2;omega)
theorem xz{n:Nat}{U:Mmu}(h:UOk n U)(s:Sp)(va k:Nat)(v:Int):UOk n (m4 n U s va k v).2:=by
 have h1:=oR h s va k 3;exact⟨h1.m.IR _ _ _,h1.t⟩
structure Dev.ok(d:Dev):Prop where
 wf:d.wf
 IH:u32 d.IH
 mask:u32 d.mask
 timer:u32 d.timer
 status:u32 d.status
theorem Dev.wf.re{d d':Dev}(h:d.wf)(h1:d'.inp=d.inp)(h2:d'.ID=d.ID)(h3:d'.Ih=d.Ih)(h4:d'.place=d.place):d'.wf:=
 ⟨h1▸h.inpb,h2▸h.ID,h2▸h.Jn,h3▸h.Ih,h4▸h.place,h1▸h.inp⟩
theorem Dev.Jm{l:List Int}(h:l.length≤1024)(hb:u8s l):(Dev.init l).ok:=⟨init_wf h hb,u0,u0,u0,u0⟩
theorem gB_u32{l:List Int}(h:u8s l)(a:Nat):u32 (gB l a):=by have:=jN h a;exact⟨this.1,by omega⟩
theorem Bp{d:Dev}(h:d.ok)(k count:Int):u32 (dx d k count).1.1∧(dx d k count).2.ok∧(dx d k count).2.out=d.out:=by
 have hi:=h.wf.inp;unfold dx;refine bN (fun q:(Int×Bool)×Dev=>u32 q.1.1∧q.2.ok∧q.2.out=d.out) ⟨h.IH,h,rfl⟩ ?_;refine bN (fun q:(Int×Bool)×Dev=>u32 q.1.1∧q.2.ok∧q.2.out=d.out) ⟨h.mask,h,rfl⟩ ?_;refine bN (fun q:(Int×Bool)×Dev=>u32 q.1.1∧q.2.ok∧q.2.out=d.out) ⟨h.timer,h,rfl⟩ ?_;refine bN (fun q:(Int×Bool)×Dev=>u32 q.1.1∧q.2.ok∧q.2.out=d.out) ⟨gM _,h,rfl⟩ ?_;refine bN (fun q:(Int×Bool)×Dev=>u32 q.1.1∧q.2.ok∧q.2.out=d.out) ⟨u0,h,rfl⟩ ?_;refine bN (fun q:(Int×Bool)×Dev=>u32 q.1.1∧q.2.ok∧q.2.out=d.out) ⟨u0,h,rfl⟩ ?_;refine bN (fun q:(Int×Bool)×Dev=>u32 q.1.1∧q.2.ok∧q.2.out=d.out) ⟨gB_u32 h.wf.inpb 0,⟨⟨fun x hx=>h.wf.inpb x (List.mem_of_mem_tail hx),h.wf.ID,h.wf.Jn,h.wf.Ih,h.wf.place,by show d.inp.tail.length≤_;rw[List.length_tail];omega⟩,h.IH,h.mask,h.timer,h.status⟩,rfl⟩ ?_;refine bN (fun q:(Int×Bool)×Dev=>u32 q.1.1∧q.2.ok∧q.2.out=d.out) ⟨fy (by omega),h,rfl⟩ ?_;refine bN (fun q:(Int×Bool)×Dev=>u32 q.1.1∧q.2.ok∧q.2.out=d.out) ⟨fy h.wf.Ih,h,rfl⟩ ?_;refine bN (fun q:(Int×Bool)×Dev=>u32 q.1.1∧q.2.ok∧q.2.out=d.out) ⟨fy h.wf.place,h,rfl⟩ ?_;refine bN (fun q:(Int×Bool)×Dev=>u32 q.1.1∧q.2.ok∧q.2.out=d.out) ⟨h.status,h,rfl⟩ ?_;exact⟨u0,h,rfl⟩
theorem Bn{n:Nat}{M:Mem}(h:M.ok n){ID:List Int}(hl:ID.length=1024)(hb:u8s ID)(Ih a cmd:Nat):(gf n M ID Ih a cmd).2.1.ok n∧(gf n M ID Ih a cmd).2.2.length=1024∧u8s (gf n M ID Ih a cmd).2.2:=by
 unfold gf;cases hk:(!lc n Ih a)with
 |true=>exact⟨h,hl,hb⟩
 |false=>
  have hk':lc n Ih a=true:=by simpa using hk
  simp only[lc,Bool.not_eq_true',bl,aj,bne_eq_false_iff_eq]at hk';obtain⟨⟨h1,h2⟩,h3⟩:=hk';have hdl:=h.dl;simp only[aa];refine bN (fun q:Bool×Mem×List Int=>q.2.1.ok n∧q.2.2.length=1024∧u8s q.2.2) ⟨h.fill _ (fun x hx=>hb x (List.mem_of_mem_drop (List.mem_of_mem_take hx))) _,hl,hb⟩ ?_;refine bN (fun q:Bool×Mem×List Int=>q.2.1.ok n∧q.2.2.length=1024∧u8s q.2.2) ⟨h,?_,fun x hx=>?_⟩ ⟨h,hl,hb⟩
  ·simp only[ae,az,bz,hl,hdl];omega
  rcases aV.1 hx with hx|hx
  ·rcases aV.1 hx with hx|hx
   ·exact hb x (List.mem_of_mem_take hx)
   exact h.db x (List.mem_of_mem_drop (List.mem_of_mem_take hx))
  exact hb x (List.mem_of_mem_drop hx)
theorem yp{n:Nat}{M:Mem}(hm:M.ok n){d:Dev}(h:d.ok)(k:Int){v:Nat}(hv:v≤4294967295):(cZ n M d k v).2.1.ok n∧(cZ n M d k v).2.2.ok∧(cZ n M d k v).2.2.out.length≤d.out.length+1:=by
 have hD:=Bn hm h.wf.ID h.wf.Jn d.Ih d.place v;have hvu:=fy hv;have h0:M.ok n∧d.ok∧d.out.length≤d.out.length+1:=⟨hm,h,by omega⟩;unfold cZ;refine bN (fun q:Bool×Mem×Dev=>q.2.1.ok n∧q.2.2.ok∧q.2.2.out.length≤d.out.length+1) ⟨hm,⟨h.wf.re rfl rfl rfl rfl,ii .andNot d.IH v,h.mask,h.timer,h.status⟩,Nat.le_succ _⟩ ?_;refine bN (fun q:Bool×Mem×Dev=>q.2.1.ok n∧q.2.2.ok∧q.2.2.out.length≤d.out.length+1) ⟨hm,⟨h.wf.re rfl rfl rfl rfl,h.IH,ii .and v 255,h.timer,h.status⟩,Nat.le_succ _⟩ ?_;refine bN (fun q:Bool×Mem×Dev=>q.2.1.ok n∧q.2.2.ok∧q.2.2.out.length≤d.out.length+1) ⟨hm,⟨h.wf.re rfl rfl rfl rfl,h.IH,h.mask,hvu,h.status⟩,Nat.le_succ _⟩ ?_;refine bN (fun q:Bool×Mem×Dev=>q.2.1.ok n∧q.2.2.ok∧q.2.2.out.length≤d.out.length+1) ⟨hm,⟨⟨h.wf.inpb,h.wf.ID,h.wf.Jn,h.wf.Ih,h.wf.place,h.wf.inp⟩,h.IH,h.mask,h.timer,h.status⟩,by simp⟩ ?_;refine bN (fun q:Bool×Mem×Dev=>q.2.1.ok n∧q.2.2.ok∧q.2.2.out.length≤d.out.length+1) ⟨hm,⟨⟨h.wf.inpb,h.wf.ID,h.wf.Jn,hv,h.wf.place,h.wf.inp⟩,h.IH,h.mask,h.timer,h.status⟩,Nat.le_succ _⟩ ?_;refine bN (fun q:Bool×Mem×Dev=>q.2.1.ok n∧q.2.2.ok∧q.2.2.out.length≤d.out.length+1) ⟨hm,⟨⟨h.wf.inpb,h.wf.ID,h.wf.Jn,h.wf.Ih,hv,h.wf.inp⟩,h.IH,h.mask,h.timer,h.status⟩,Nat.le_succ _⟩ ?_;refine bN (fun q:Bool×Mem×Dev=>q.2.1.ok n∧q.2.2.ok∧q.2.2.out.length≤d.out.length+1) ⟨hD.1,⟨⟨h.wf.inpb,hD.2.1,hD.2.2,h.wf.Ih,h.wf.place,h.wf.inp⟩,ii .or d.IH (pf [2]),h.mask,h.timer,bN u32 u0 u1⟩,Nat.le_succ _⟩ ?_;refine bN (fun q:Bool×Mem×Dev=>q.2.1.ok n∧q.2.2.ok∧q.2.2.out.length≤d.out.length+1) h0 ?_;refine bN (fun q:Bool×Mem×Dev=>q.2.1.ok n∧q.2.2.ok∧q.2.2.out.length≤d.out.length+1) h0 ?_;refine bN (fun q:Bool×Mem×Dev=>q.2.1.ok n∧q.2.2.ok∧q.2.2.out.length≤d.out.length+1) h0 ?_;exact bN (fun q:Bool×Mem×Dev=>q.2.1.ok n∧q.2.2.ok∧q.2.2.out.length≤d.out.length+1) h0 h0
structure Did(op:Int)(s s':St):Prop where
 wf:s'.wf
 fl:s'.flags≤15
 cnt:s'.count=s.count
 dl:s'.d.length+(bV op).1.1=s.d.length+(bV op).1.2
 dt:s'.d.take (s.d.length - (bV op).1.1)=s.d.take (s.d.length - (bV op).1.1)
 rl:s'.r.length+(bV op).2.1=s.r.length+(bV op).2.2
 rt:s'.r.take (s.r.length - (bV op).2.1)=s.r.take (s.r.length - (bV op).2.1)
theorem Did.of{op:Int}{s s':St}{l m:List Int}(P X Q Y:List Int)(hn:bV op=((P.length,X.length),(Q.length,Y.length)))(wf:s'.wf)(fl:s'.flags≤15)(cnt:s'.count=s.count)
  (h1:s.d=l++P) (h2:s'.d=l++X) (h3:s.r=m++Q) (h4:s'.r=m++Y):Did op s s':=by
 refine⟨wf,fl,cnt,?_,?_,?_,?_⟩
 ·rw[hn,h1,h2];simp only[ae];omega
 ·rw[hn,h1,h2,ae,Nat.add_sub_cancel,List.take_left,List.take_left]
 ·rw[hn,h3,h4];simp only[ae];omega
 rw[hn,h3,h4,ae,Nat.add_sub_cancel,List.take_left,List.take_left]
theorem sI{s:St}(h:s.wf){l:List Int}(hl:∀x,x∈l→u32 x):(⟨s.pc,l,s.r,s.flags,s.Il,s.It,s.ie,s.root,s.vec,s.epc,s.Im,s.addr,s.Ix,s.eie,s.count,s.halted⟩:St).wf:=⟨h.pc,h.flags,h.root,h.vec,h.epc,h.Im,h.addr,h.count,hl,h.r⟩
theorem wf_r{s:St}(h:s.wf){l:List Int}(hl:∀x,x∈l→u32 x):(⟨s.pc,s.d,l,s.flags,s.Il,s.It,s.ie,s.root,s.vec,s.epc,s.Im,s.addr,s.Ix,s.eie,s.count,s.halted⟩:St).wf:=⟨h.pc,h.flags,h.root,h.vec,h.epc,h.Im,h.addr,h.count,h.d,hl⟩
theorem z7{s:St}(h:s.wf){x:Int}(hx:u32 x):(⟨x,s.d,s.r,s.flags,s.Il,s.It,s.ie,s.root,s.vec,s.epc,s.Im,s.addr,s.Ix,s.eie,s.count,s.halted⟩:St).wf:=⟨hx,h.flags,h.root,h.vec,h.epc,h.Im,h.addr,h.count,h.d,h.r⟩
theorem Fb{s:St}(h:s.wf){x:Int}(hx:u32 x):(⟨s.pc,s.d,s.r,x,s.Il,s.It,s.ie,s.root,s.vec,s.epc,s.Im,s.addr,s.Ix,s.eie,s.count,s.halted⟩:St).wf:=⟨h.pc,hx,h.root,h.vec,h.epc,h.Im,h.addr,h.count,h.d,h.r⟩
theorem zR{l:List Int}{p:Int→Prop}(h:∀x,x∈l→p x){y:Int}(hy:p y):∀x,x∈l++[y]→p x:=fun x hx=>by
 rcases aV.1 hx with h1|h1
 ·exact h x h1
 rw[aN.1 h1];exact hy
theorem pH{l m:List Int}{p:Int→Prop}(h:∀x,x∈l++m→p x):∀x,x∈l→p x:=fun x hx=>h x (aC _ hx)
theorem xd{l:List Int}{y:Int}{p:Int→Prop}(h:∀x,x∈l++[y]→p x):p y:=h y (by simp)
theorem Cs{op nn:Int}{R R':Run}(hw:R.s.wf)(hf:R.s.flags≤15)(hnn:u32 nn)(h1:(bV op).1.1≤R.s.d.length)(h2:(bV op).2.1≤R.s.r.length)(h:dO op nn R=some R'):Did op R.s R'.s∧R'.Iv=R.Iv∧R'.device=R.device∧R'.count=R.count:=by
 by_cases e:op=0
 ·subst e;obtain rfl:R=R':=aJ h;exact⟨Did.of (l:=R.s.d) (m:=R.s.r) [] [] [] [] rfl hw hf rfl (by simp) (by simp) (by simp) (by simp),rfl,rfl,rfl⟩
 have e0:(op==0)=false:=by simpa using e
 by_cases e:op=1
 ·subst e;obtain rfl:R.push [nn]=R':=aJ h;exact⟨Did.of (l:=R.s.d) (m:=R.s.r) [] [nn] [] [] rfl (sI hw (zR hw.d hnn)) hf rfl (by simp) rfl (by simp) (by simp[Run.push]),rfl,rfl,rfl⟩
 have e1:(op==1)=false:=by simpa using e
 by_cases e:op=2
 ·subst e;obtain rfl:R.push [nn]=R':=aJ h;exact⟨Did.of (l:=R.s.d) (m:=R.s.r) [] [nn] [] [] rfl (sI hw (zR hw.d hnn)) hf rfl (by simp) rfl (by simp) (by simp[Run.push]),rfl,rfl,rfl⟩
 have e2:(op==2)=false:=by simpa using e
 by_cases e:op=3
 ·subst e;obtain⟨R,l,x,rfl⟩:=Run.snoc (show 1≤R.s.d.length from h1);rw[m6]at h;obtain rfl:=aJ h;exact⟨Did.of (l:=l) (m:=R.s.r) [x] [x,x] [] [] rfl (sI hw (by have h3:=zR hw.d (xd hw.d);simpa using h3)) hf rfl rfl rfl (by simp) (by simp),rfl,rfl,rfl⟩
 have e3:(op==3)=false:=by simpa using e
 by_cases e:op=4
 ·subst e;obtain⟨R,l,x,rfl⟩:=Run.snoc (show 1≤R.s.d.length from h1);rw[lI]at h;obtain rfl:=aJ h;exact⟨Did.of (l:=l) (m:=R.s.r) [x] [] [] [] rfl (sI hw (pH hw.d)) hf rfl rfl (by simp) (by simp) (by simp),rfl,rfl,rfl⟩
 have e4:(op==4)=false:=by simpa using e
 by_cases e:op=5
 ·subst e;obtain⟨R,l,x,y,rfl⟩:=Run.I4 (show 2≤R.s.d.length from h1);rw[lG]at h;obtain rfl:=aJ h;have hd:∀z,z∈(l++[x])++[y]→u32 z:=hw.d;exact⟨Did.of (l:=l) (m:=R.s.r) [x,y] [y,x] [] [] rfl (sI hw (by have h3:=zR (zR (pH (pH hd)) (xd hd)) (xd (pH hd));simpa using h3)) hf rfl (by simp) rfl (by simp) (by simp),rfl,rfl,rfl⟩
 have e5:(op==5)=false:=by simpa using e
 by_cases e:op=6
 ·subst e;obtain⟨R,l,x,y,rfl⟩:=Run.I4 (show 2≤R.s.d.length from h1);rw[lH]at h;obtain rfl:=aJ h;have hd:∀z,z∈(l++[x])++[y]→u32 z:=hw.d;exact⟨Did.of (l:=l) (m:=R.s.r) [x,y] [x,y,x] [] [] rfl (sI hw (by have h3:=zR hd (xd (pH hd));simpa using h3)) hf rfl (by simp) rfl (by simp) (by simp),rfl,rfl,rfl⟩
 have e6:(op==6)=false:=by simpa using e
 by_cases e:op=7
 ·subst e;obtain⟨R,l,x,rfl⟩:=Run.snoc (show 1≤R.s.d.length from h1);rw[m5]at h;obtain rfl:=aJ h;have hd:∀z,z∈l++[x]→u32 z:=hw.d;exact⟨Did.of (l:=l) (m:=R.s.r) [x] [] [] [x] rfl (wf_r (sI hw (pH hd)) (zR hw.r (xd hd))) hf rfl rfl (by simp) (by simp) rfl,rfl,rfl,rfl⟩
 have e7:(op==7)=false:=by simpa using e
 by_cases e:op=8
 ·subst e;obtain⟨R,l,x,rfl⟩:=Run.snocR (show 1≤R.s.r.length from h2);rw[kS]at h;obtain rfl:=aJ h;have hd:∀z,z∈l++[x]→u32 z:=hw.r;exact⟨Did.of (l:=R.s.d) (m:=l) [] [x] [x] [] rfl (sI (wf_r hw (pH hd)) (zR hw.d (xd hd))) hf rfl (by simp) rfl rfl (by simp),rfl,rfl,rfl⟩
 have e8:(op==8)=false:=by simpa using e
 rw[pN nn R e0 e1 e2 e3 e4 e5 e6 e7 e8]at h;cases h
theorem ou(r:Int):dG r=0∨dG r=1∨dG r=2∨dG r=3:=by
 unfold dG;generalize (bits .and .u32 r 2147483648 !=0)=c1;generalize (r==0)=c2;revert c1 c2;decide
theorem pq(a b r x:Int)(c:Bool)(o:Int):0≤jh a b r (dG x) c o∧jh a b r (dG x) c o≤15:=by
 unfold jh;generalize (o !=0)=c1;rcases ou x with h|h|h|h<;>rw[h]<;>revert c c1<;>decide
theorem zy{a:Int}(h:u32 a)(k:Nat):u32 (a.fdiv (2^k)):=by
 have hp:(0:Int)<2^k:=Int.pow_pos (by decide);rw[Int.fdiv_eq_ediv_of_nonneg _ (Int.le_of_lt hp)];have h1:=Int.ediv_nonneg h.1 (Int.le_of_lt hp);have h2:=Int.ediv_le_self (2^k) h.1;exact⟨h1,Int.le_trans h2 h.2⟩
def zV(q:Int×Int×Bool):Prop:=u32 q.1∧0≤q.2.1∧q.2.1≤15
theorem nu{r:Int}(h:u32 r):zV (JH r):=by
 refine⟨h,?_⟩;show 0≤dG r∧dG r≤15;rcases ou r with h|h|h|h<;>rw[h]<;>decide
theorem arDo_ok(op:Int){a b:Int}(ha:u32 a):zV (iq op a b):=by
 have h0:zV (0,0,false):=⟨u0,by decide,by decide⟩;unfold iq;refine bN zV ⟨gM _,pq a b 0 _ _ _⟩ ?_;refine bN zV ⟨gM _,pq a b 0 _ _ _⟩ ?_;refine bN zV ⟨u0,pq a b 0 _ _ _⟩ ?_;refine bN zV (nu (ii _ _ _)) ?_;refine bN zV (nu (ii _ _ _)) ?_;refine bN zV (nu (ii _ _ _)) ?_;refine bN zV (nu ?_) ?_
 ·unfold gZ;exact bN u32 u0 (bN u32 (gM _) (zy ha _))
 refine bN zV (nu ?_) ?_
 ·unfold gZ;exact bN u32 u0 (bN u32 (gM _) (zy ha _))
 refine bN zV (nu (gM _)) ?_;exact bN zV (bN zV h0 (nu (gM _))) h0
theorem C1{op:Int}(h1:16≤op)(h2:op≤24):bV op=((2,1),(0,0)):=by
 obtain rfl|rfl|rfl|rfl|rfl|rfl|rfl|rfl|rfl:op=16∨op=17∨op=18∨op=19∨op=20∨op=21∨op=22∨op=23∨op=24:=by omega
 all_goals rfl
theorem AO{op nn:Int}{R:Run}(hw:R.s.wf)(hf:R.s.flags≤15)(h1:(bV op).1.1≤R.s.d.length)(h2:(bV op).2.1≤R.s.r.length)(h:(cQ op nn R).1=true):Did op R.s (cQ op nn R).2.s∧((cQ op nn R).2.Iv=R.Iv∨(cQ op nn R).2.Iv=⟨5,0⟩)∧(cQ op nn R).2.device=R.device∧(cQ op nn R).2.count=R.count:=by
 cases ha:(decide (16≤op)&&decide (op≤25))with
 |true=>
  have h3:=za ha;rw[h3]at h1;obtain⟨R,l,x,y,rfl⟩:=Run.I4 h1;have hd:∀z,z∈(l++[x])++[y]→u32 z:=hw.d;obtain⟨hv,hf0,hf1⟩:=arDo_ok op (b:=y) (xd (pH hd));obtain⟨⟨v,fl,ok⟩,hq⟩:=Zgn (iq op x y);rw[hq]at hv hf0 hf1;have hv:u32 v:=hv;have hf0:0≤fl:=hf0;have hf1:fl≤15:=hf1;have hst:cQ op nn (R.wd ((l++[x])++[y]))=(true,bif op !=25 then((bif ok then R.wd l else(R.wd l).wt ⟨5,0⟩).wfl fl).push [v]else(bif ok then R.wd l else(R.wd l).wt ⟨5,0⟩).wfl fl):=by
   simp only[cQ,ha,ac,Run.top_wd,Run.pop_wd,hq]
  simp only[aB,ap]at ha;have hwl:(R.wd l).s.wf:=sI hw (pH (pH hd));rw[hst];have hfu:u32 fl:=⟨hf0,by omega⟩;by_cases e:op=25
  ·subst e;cases ok
   ·exact⟨Did.of (l:=l) (m:=R.s.r) [x,y] [] [] [] rfl (Fb hwl hfu) hf1 rfl (by simp) (by simp) (by simp) (by simp),.inr rfl,rfl,rfl⟩
   exact⟨Did.of (l:=l) (m:=R.s.r) [x,y] [] [] [] rfl (Fb hwl hfu) hf1 rfl (by simp) (by simp) (by simp) (by simp),.inl rfl,rfl,rfl⟩
  have e':(op !=25)=true:=by simpa using e
  have hn:=C1 (op:=op) (by omega) (by omega);simp only[e',ac];cases ok
  ·exact⟨Did.of (l:=l) (m:=R.s.r) [x,y] [v] [] [] hn (sI (Fb hwl hfu) (zR (pH (pH hd)) hv)) hf1 rfl (by simp) rfl (by simp) (by simp[Run.push]),.inr rfl,rfl,rfl⟩
  exact⟨Did.of (l:=l) (m:=R.s.r) [x,y] [v] [] [] hn (sI (Fb hwl hfu) (zR (pH (pH hd)) hv)) hf1 rfl (by simp) rfl (by simp) (by simp[Run.push]),.inl rfl,rfl,rfl⟩
 |false=>
  have hth:u32 (jk R nn):=gM _;by_cases e:op=38
  ·subst e;exact⟨Did.of (l:=R.s.d) (m:=R.s.r) [] [] [] [R.s.pc] rfl (z7 (wf_r hw (zR hw.r hw.pc)) hth) hf rfl (by simp) (ay _).symm (by simp) rfl,.inl rfl,rfl,rfl⟩
  have e1:(op==38)=false:=by simpa using e
  by_cases e:op=32
  ·subst e;exact⟨Did.of (l:=R.s.d) (m:=R.s.r) [] [] [] [] rfl (z7 hw hth) hf rfl (by simp) (ay _).symm (by simp) (ay _).symm,.inl rfl,rfl,rfl⟩
  have e2:(op==32)=false:=by simpa using e
  by_cases e:op=39
  ·subst e;obtain⟨R,l,x,rfl⟩:=Run.snocR (show 1≤R.s.r.length from h2);have hst:cQ 39 nn (R.wr (l++[x]))=(true,(R.wr l).wpc x):=by show(_,_)=_;rw[Run.popR_wr,Run.topR_wr]
   rw[hst];have hd:∀z,z∈l++[x]→u32 z:=hw.r;exact⟨Did.of (l:=R.s.d) (m:=l) [] [] [x] [] rfl (z7 (wf_r hw (pH hd)) (xd hd)) hf rfl (by simp) (by simp) rfl (by simp),.inl rfl,rfl,rfl⟩
  have e3:(op==39)=false:=by simpa using e
  by_cases e:op=40
  ·subst e;obtain⟨R,l,x,rfl⟩:=Run.snoc (show 1≤R.s.d.length from h1);have hst:cQ 40 nn (R.wd (l++[x]))=(true,(R.wd l).wpc x):=by show(_,_)=_;rw[Run.pop_wd,Run.top_wd]
   rw[hst];have hd:∀z,z∈l++[x]→u32 z:=hw.d;exact⟨Did.of (l:=l) (m:=R.s.r) [x] [] [] [] rfl (z7 (sI hw (pH hd)) (xd hd)) hf rfl rfl (by simp) (by simp) (by simp),.inl rfl,rfl,rfl⟩
  have e4:(op==40)=false:=by simpa using e
  have hst:cQ op nn R=((dg op R.s.flags).2,bif(dg op R.s.flags).1 then R.wpc (jk R nn)else R):=by simp only[cQ, *,ac,aa]
  rw[hst]at h⊢;have hn:bV op=((0,0),(0,0)):=by
   have h:(dg op R.s.flags).2=true:=h;by_cases e:op=33
   ·subst e;rfl
   by_cases e':op=34
   ·subst e';rfl
   by_cases e'':op=35
   ·subst e'';rfl
   by_cases e5:op=36
   ·subst e5;rfl
   by_cases e6:op=37
   ·subst e6;rfl
   have b1:(op==33)=false:=by simpa using e
   have b2:(op==34)=false:=by simpa using e'
   have b3:(op==35)=false:=by simpa using e''
   have b4:(op==36)=false:=by simpa using e5
   have b5:(op==37)=false:=by simpa using e6
   unfold dg at h;rw[b1,b2,b3,b4,b5]at h;cases h
  cases(dg op R.s.flags).1
  ·exact⟨Did.of (l:=R.s.d) (m:=R.s.r) [] [] [] [] hn hw hf rfl (by simp) (ay _).symm (by simp) (ay _).symm,.inl rfl,rfl,rfl⟩
  exact⟨Did.of (l:=R.s.d) (m:=R.s.r) [] [] [] [] hn (z7 hw hth) hf rfl (by simp) (ay _).symm (by simp) (ay _).symm,.inl rfl,rfl,rfl⟩
structure sE(n:Nat)(op:Int)(s:St)(d:Dev)(m:iu):Prop where
 u:UOk n m.u
 dv:m.d.ok
 o:m.d.out.length≤d.out.length+1
 t:TrU m.r.Iv
 did:m.r.Iv.Im=0→Did op s m.r.s
theorem qQ{n:Nat}{U:Mmu}(h:UOk n U)(R:Run)(va:Nat)(kind:Int):UOk n (cS n R U va kind).u:=by
 unfold cS;exact bN (fun W:yv=>UOk n W.u) h (kY h ..)
theorem sW(n:Nat)(R:Run)(U:Mmu)(va:Nat)(hva:va≤4294967295)(kind:Int):TrU (cS n R U va kind).r.Iv:=by
 unfold cS;exact bN (fun W:yv=>TrU W.r.Iv) ⟨fy hva,by show(0:Int)≤6;decide,by show(6:Int)≤255;decide⟩ (mE n U R.sp va hva kind)
theorem nz(n:Nat)(R:Run)(U:Mmu)(va:Nat)(kind:Int):(cS n R U va kind).ok=((cS n R U va kind).r.Iv.Im==0):=by
 unfold cS;exact bN (fun W:yv=>W.ok=(W.r.Iv.Im==0)) rfl rfl
theorem get_u32{s:St}(h:s.wf)(reg:Int):u32 (s.get reg).1:=by
 have hb:∀b,u32 (b2i b):=fun b=>by cases b;exact u0;exact u1
 unfold St.get;refine bN (fun q:Int×Bool=>u32 q.1) (hb _) ?_;refine bN (fun q:Int×Bool=>u32 q.1) (hb _) ?_;refine bN (fun q:Int×Bool=>u32 q.1) h.root ?_;refine bN (fun q:Int×Bool=>u32 q.1) h.vec ?_;refine bN (fun q:Int×Bool=>u32 q.1) h.epc ?_;refine bN (fun q:Int×Bool=>u32 q.1) h.Im ?_;refine bN (fun q:Int×Bool=>u32 q.1) h.addr ?_;refine bN (fun q:Int×Bool=>u32 q.1) (hb _) ?_;refine bN (fun q:Int×Bool=>u32 q.1) (hb _) ?_;refine bN (fun q:Int×Bool=>u32 q.1) (gM _) ?_;exact bN (fun q:Int×Bool=>u32 q.1) h.flags u0
def qq(s:St)(q:St×Bool):Prop:=q.1.wf∧q.1.flags≤15∧q.1.count=s.count
theorem set_wf{s:St}(h:s.wf)(hf:s.flags≤15)(reg:Int){v:Int}(hv:u32 v):qq s (s.set reg v):=by
 have h0:qq s (s,false):=⟨h,hf,rfl⟩;unfold St.set;refine bN (qq s) ⟨⟨h.pc,h.flags,h.root,h.vec,h.epc,h.Im,h.addr,h.count,h.d,h.r⟩,hf,rfl⟩ ?_;refine bN (qq s) ⟨⟨h.pc,h.flags,h.root,h.vec,h.epc,h.Im,h.addr,h.count,h.d,h.r⟩,hf,rfl⟩ ?_;refine bN (qq s) ⟨⟨h.pc,h.flags,ii .andNot v 63,h.vec,h.epc,h.Im,h.addr,h.count,h.d,h.r⟩,hf,rfl⟩ ?_;refine bN (qq s) ⟨⟨h.pc,h.flags,h.root,hv,h.epc,h.Im,h.addr,h.count,h.d,h.r⟩,hf,rfl⟩ ?_;refine bN (qq s) ⟨⟨h.pc,h.flags,h.root,h.vec,hv,h.Im,h.addr,h.count,h.d,h.r⟩,hf,rfl⟩ ?_;refine bN (qq s) ⟨⟨h.pc,h.flags,h.root,h.vec,h.epc,hv,h.addr,h.count,h.d,h.r⟩,hf,rfl⟩ ?_;refine bN (qq s) ⟨⟨h.pc,h.flags,h.root,h.vec,h.epc,h.Im,hv,h.count,h.d,h.r⟩,hf,rfl⟩ ?_;refine bN (qq s) ⟨⟨h.pc,h.flags,h.root,h.vec,h.epc,h.Im,h.addr,h.count,h.d,h.r⟩,hf,rfl⟩ ?_;refine bN (qq s) ⟨⟨h.pc,h.flags,h.root,h.vec,h.epc,h.Im,h.addr,h.count,h.d,h.r⟩,hf,rfl⟩ ?_;refine bN (qq s) ⟨⟨h.pc,ii .and v 15,h.root,h.vec,h.epc,h.Im,h.addr,h.count,h.d,h.r⟩,?_,rfl⟩ h0;show bits .and .u32 v 15≤15;rw[zQ hv];omega
section
variable {n:Nat} {op nn:Int} {R:Run} {U:Mmu} {d:Dev}
theorem AY(hop:op=48){l:List Int}{va:Nat}(hva:va≤4294967295)(hw:(R.wd (l++[(va:Int)])).s.wf)(hf:R.s.flags≤15)(hU:UOk n U)(hd:d.ok):sE n op (R.wd (l++[(va:Int)])).s d (lm n (R.wd l) U d va):=by
 subst hop;have hu:=qQ hU (R.wd l) va 2;have ht:=sW n (R.wd l) U va hva 2;have hs:=qP n (R.wd l) U va 2;have hc:=nz n (R.wd l) U va 2;have hwl:(R.wd l).s.wf:=sI hw (pH hw.d);unfold lm;obtain⟨⟨p,ok,r,u⟩,hq⟩:=Zgn (cS n (R.wd l) U va 2);rw[hq]at hu ht hs hc⊢;have hu:UOk n u:=hu;have ht:TrU r.Iv:=ht;have hs:r.s=(R.wd l).s:=hs;have hc:ok=(r.Iv.Im==0):=hc;have key:∀(v:Int) (o:Bool) (d':Dev),u32 v→d'.ok→d'.out.length≤d.out.length+1→sE n 48 (R.wd (l++[(va:Int)])).s d (pT ⟨p,ok,r,u⟩ d' va v o):=fun v o d' hv hd' ho'=>by
  unfold pT;cases o with
  |false=>exact⟨hu,hd',ho',(tr10 (fy hva)),fun h=>by cases h⟩
  |true=>
   refine⟨hu,hd',ho',ht,fun _=>?_⟩;have e:(Run.push r [v]).s=(R.wd (l++[v])).s:=by
    show St.mk _ _ _ _ _ _ _ _ _ _ _ _ _ _ _ _=_;rw[hs]
   show Did 48 _ (Run.push r [v]).s;rw[e];exact Did.of (l:=l) (m:=R.s.r) [(va:Int)] [v] [] [] rfl (sI hwl (zR (pH hw.d) hv)) hf rfl rfl rfl (by simp) (by simp)
 cases hok:ok with
 |false=>
  rw[hok]at hc;exact⟨hu,hd,Nat.le_succ _,ht,fun h=>by have h:r.Iv.Im=0:=h;rw[h]at hc;cases hc⟩
 |true=>
  rw[hok]at key;simp only[Bool.not_true,aa];refine bN (sE n 48 (R.wd (l++[(va:Int)])).s d) ?_ ?_
  ·have h1:=Bp hd (sQ p.toNat) r.count;exact key _ _ _ h1.1 h1.2.1 (by rw[h1.2.2];exact Nat.le_succ _)
  refine key _ _ _ ?_ hd (Nat.le_succ _);unfold qN;exact bN (fun q:Int×Bool=>u32 q.1) (sU hu.m.db _) u0
theorem Az(hop:op=49){l:List Int}{va v:Nat}(hva:va≤4294967295)(hv:v≤4294967295)(hw:(R.wd ((l++[(v:Int)])++[(va:Int)])).s.wf)(hf:R.s.flags≤15)(hU:UOk n U)(hd:d.ok):sE n op (R.wd ((l++[(v:Int)])++[(va:Int)])).s d (lj n (R.wd l) U d va v):=by
 subst hop;have hu:=qQ hU (R.wd l) va 3;have ht:=sW n (R.wd l) U va hva 3;have hs:=qP n (R.wd l) U va 3;have hc:=nz n (R.wd l) U va 3;have hdd:∀z,z∈(l++[(v:Int)])++[(va:Int)]→u32 z:=hw.d;have hwl:(R.wd l).s.wf:=sI hw (pH (pH hdd));unfold lj;obtain⟨⟨p,ok,r,u⟩,hq⟩:=Zgn (cS n (R.wd l) U va 3);rw[hq]at hu ht hs hc⊢;have hu:UOk n u:=hu;have ht:TrU r.Iv:=ht;have hs:r.s=(R.wd l).s:=hs;have hc:ok=(r.Iv.Im==0):=hc;have hdid:Did 49 (R.wd ((l++[(v:Int)])++[(va:Int)])).s r.s:=by
  rw[hs];exact Did.of (l:=l) (m:=R.s.r) [(v:Int),(va:Int)] [] [] [] rfl hwl hf rfl (by simp) (by simp) (by simp) (by simp)
 cases hok:ok with
 |false=>
  rw[hok]at hc;exact⟨hu,hd,Nat.le_succ _,ht,fun h=>by have h:r.Iv.Im=0:=h;rw[h]at hc;cases hc⟩
 |true=>
  simp only[Bool.not_true,aa];refine bN (sE n 49 (R.wd ((l++[(v:Int)])++[(va:Int)])).s d) ?_ ?_
  ·obtain⟨h1,h2,h3⟩:=yp hu.m hd (sQ p.toNat) hv;obtain⟨⟨o,M',d'⟩,hq2⟩:=Zgn (cZ n u.m d (sQ p.toNat) v);rw[hq2]at h1 h2 h3;rw[hq2];cases o with
   |false=>exact⟨⟨h1,hu.t⟩,h2,h3,(tr10 (fy hva)),fun h=>by cases h⟩
   |true=>exact⟨⟨h1,hu.t⟩,h2,h3,ht,fun _=>hdid⟩
  exact⟨⟨hu.m.I8 _ _ 4,hu.t⟩,hd,Nat.le_succ _,ht,fun _=>hdid⟩
theorem q7(hn:bV op=((1,1),(0,0))){l:List Int}{va k:Nat}(hva:va≤4294967295)(hk:k≤4)(hw:(R.wd (l++[(va:Int)])).s.wf)(hf:R.s.flags≤15)(hU:UOk n U)(hd:d.ok):sE n op (R.wd (l++[(va:Int)])).s d (iu.of (lL n (R.wd l) U va k) d):=by
 have hwl:(R.wd l).s.wf:=sI hw (pH hw.d);have hv:=AZ hU (R.wd l).sp va hk;exact⟨oR hU _ _ _ _,hd,Nat.le_succ _,vG n U _ va k hva 2,fun _=>Did.of (l:=l) (m:=R.s.r) [(va:Int)] [_] [] [] hn (sI hwl (zR (pH hw.d) hv)) hf rfl rfl rfl (by simp) (by simp[lL,Run.push])⟩
theorem q6(hn:bV op=((2,0),(0,0))){l:List Int}{v:Int}{va k:Nat}(hva:va≤4294967295)(hw:(R.wd ((l++[v])++[(va:Int)])).s.wf)(hf:R.s.flags≤15)(hU:UOk n U)(hd:d.ok):sE n op (R.wd ((l++[v])++[(va:Int)])).s d (iu.of (lp n (R.wd l) U va k v) d):=by
 have hdd:∀z,z∈(l++[v])++[(va:Int)]→u32 z:=hw.d;have hwl:(R.wd l).s.wf:=sI hw (pH (pH hdd));exact⟨xz hU _ _ _ _,hd,Nat.le_succ _,vG n U _ va k hva 3,fun _=>Did.of (l:=l) (m:=R.s.r) [v,(va:Int)] [] [] [] hn hwl hf rfl (by simp) (by simp[lp]) (by simp) (by simp[lp])⟩
theorem s8:eE.length=16:=aO
theorem xS(hw:R.s.wf)(hf:R.s.flags≤15)(hc:0≤R.count∧R.count≤18446744073709551615)(ht:R.Iv=Tr.none)(hU:UOk n U)(hd:d.ok)(hnn:u32 nn)(h1:(bV op).1.1≤R.s.d.length)(hst:dO op nn R=none)(hrk:(cQ op nn R).1=false):sE n op R.s d (dV n op nn ⟨R,U,d⟩):=by
 have ht':TrU R.Iv:=by rw[ht];exact trN
 have h0:∀{op},bV op=((0,0),(0,0))→∀(s':St),s'.wf→s'.flags≤15→s'.count=R.s.count→s'.d=R.s.d→s'.r=R.s.r→Did op R.s s':=fun hn s' a1 a2 a3 a4 a5=>
  Did.of (l:=R.s.d) (m:=R.s.r) [] [] [] [] hn a1 a2 a3 (by simp) (by simp[a4]) (by simp) (by simp[a5])
 by_cases e:op=48
 ·subst e;obtain⟨R,l,x,rfl⟩:=Run.snoc (show 1≤R.s.d.length from h1);have hx:=xd (l:=l) hw.d;obtain⟨va,rfl⟩:∃va:Nat,x=va:=ar hx.1;have hva:va≤4294967295:=by have:(va:Int)≤_:=hx.2;omega
  have he:dV n 48 nn ⟨R.wd (l++[(va:Int)]),U,d⟩=lm n (R.wd l) U d va:=by show lm _ _ _ _ _=_;rw[Run.pop_wd,Run.top_wd];rfl
  rw[he];exact AY rfl hva hw hf hU hd
 have e48:(op==48)=false:=by simpa using e
 by_cases e:op=49
 ·subst e;obtain⟨R,l,y,x,rfl⟩:=Run.I4 (show 2≤R.s.d.length from h1);have hx:=xd (l:=l++[y]) hw.d;have hy:=xd (l:=l) (pH (l:=l++[y]) hw.d);obtain⟨va,rfl⟩:∃va:Nat,x=va:=ar hx.1;obtain⟨v,rfl⟩:∃v:Nat,y=v:=ar hy.1;have hva:va≤4294967295:=by have:(va:Int)≤_:=hx.2;omega
  have hv:v≤4294967295:=by have:(v:Int)≤_:=hy.2;omega
  have he:dV n 49 nn ⟨R.wd ((l++[(v:Int)])++[(va:Int)]),U,d⟩=lj n (R.wd l) U d va v:=by show lj _ _ _ _ _ _=_;rw[Run.pop_wd,Run.top_wd,Run.pop_wd,Run.top_wd];rfl
  rw[he];exact Az rfl hva hv hw hf hU hd
 have e49:(op==49)=false:=by simpa using e
 by_cases e:op=50
 ·subst e;obtain⟨R,l,x,rfl⟩:=Run.snoc (show 1≤R.s.d.length from h1);have hx:=xd (l:=l) hw.d;obtain⟨va,rfl⟩:∃va:Nat,x=va:=ar hx.1;have hva:va≤4294967295:=by have:(va:Int)≤_:=hx.2;omega
  have he:dV n 50 nn ⟨R.wd (l++[(va:Int)]),U,d⟩=iu.of (lL n (R.wd l) U va 4) d:=by show iu.of (lL _ _ _ _ _) _=_;rw[Run.pop_wd,Run.top_wd];rfl
  rw[he];exact q7 rfl hva (by decide) hw hf hU hd
 have e50:(op==50)=false:=by simpa using e
 by_cases e:op=51
 ·subst e;obtain⟨R,l,y,x,rfl⟩:=Run.I4 (show 2≤R.s.d.length from h1);have hx:=xd (l:=l++[y]) hw.d;obtain⟨va,rfl⟩:∃va:Nat,x=va:=ar hx.1;have hva:va≤4294967295:=by have:(va:Int)≤_:=hx.2;omega
  have he:dV n 51 nn ⟨R.wd ((l++[y])++[(va:Int)]),U,d⟩=iu.of (lp n (R.wd l) U va 4 y) d:=by show iu.of (lp _ _ _ _ _ _) _=_;rw[Run.pop_wd,Run.top_wd,Run.pop_wd,Run.top_wd];rfl
  rw[he];exact q6 rfl hva hw hf hU hd
 have e51:(op==51)=false:=by simpa using e
 by_cases e:op=52
 ·subst e;obtain⟨R,l,x,rfl⟩:=Run.snoc (show 1≤R.s.d.length from h1);have hx:=xd (l:=l) hw.d;obtain⟨va,rfl⟩:∃va:Nat,x=va:=ar hx.1;have hva:va≤4294967295:=by have:(va:Int)≤_:=hx.2;omega
  have he:dV n 52 nn ⟨R.wd (l++[(va:Int)]),U,d⟩=iu.of (lL n (R.wd l) U va 1) d:=by show iu.of (lL _ _ _ _ _) _=_;rw[Run.pop_wd,Run.top_wd];rfl
  rw[he];exact q7 rfl hva (by decide) hw hf hU hd
 have e52:(op==52)=false:=by simpa using e
 by_cases e:op=53
 ·subst e;obtain⟨R,l,y,x,rfl⟩:=Run.I4 (show 2≤R.s.d.length from h1);have hx:=xd (l:=l++[y]) hw.d;obtain⟨va,rfl⟩:∃va:Nat,x=va:=ar hx.1;have hva:va≤4294967295:=by have:(va:Int)≤_:=hx.2;omega
  have he:dV n 53 nn ⟨R.wd ((l++[y])++[(va:Int)]),U,d⟩=iu.of (lp n (R.wd l) U va 1 y) d:=by show iu.of (lp _ _ _ _ _ _) _=_;rw[Run.pop_wd,Run.top_wd,Run.pop_wd,Run.top_wd];rfl
  rw[he];exact q6 rfl hva hw hf hU hd
 have e53:(op==53)=false:=by simpa using e
 by_cases e:op=64
 ·subst e;exact⟨hU,hd,Nat.le_succ _,tr11,fun h=>by cases h⟩
 have e64:(op==64)=false:=by simpa using e
 by_cases e:op=65
 ·subst e;exact⟨hU,hd,Nat.le_succ _,ht',fun _=>h0 rfl R.s.back ⟨hw.epc,hw.flags,hw.root,hw.vec,hw.epc,hw.Im,hw.addr,hw.count,hw.d,hw.r⟩ hf rfl rfl rfl⟩
 have e65:(op==65)=false:=by simpa using e
 by_cases e:op=66
 ·subst e;have hwc:(R.s.IZ R.count).wf:=⟨hw.pc,hw.flags,hw.root,hw.vec,hw.epc,hw.Im,hw.addr,hc,hw.d,hw.r⟩;exact⟨hU,hd,Nat.le_succ _,ht',fun _=>Did.of (l:=R.s.d) (m:=R.s.r) [] [((R.s.IZ R.count).get nn).1] [] [] rfl (sI hw (zR hw.d (get_u32 hwc nn))) hf rfl (by simp) rfl (by simp) (ay _).symm⟩
 have e66:(op==66)=false:=by simpa using e
 by_cases e:op=67
 ·subst e;obtain⟨R,l,x,rfl⟩:=Run.snoc (show 1≤R.s.d.length from h1);have hwl:(R.wd l).s.wf:=sI hw (pH (l:=l) hw.d);have hs:=set_wf hwl hf nn (xd (l:=l) hw.d);obtain⟨q1,q2⟩:=St.set_dr (R.wd l).s nn x;have he:dV n 67 nn ⟨R.wd (l++[x]),U,d⟩=⟨(R.wd l).ws ((R.wd l).s.set nn x).1,bif nn==1||nn==2 then⟨U.m,eE⟩else U,d⟩:=by show iu.mk _ _ _=_;rw[Run.pop_wd,Run.top_wd]
  rw[he];exact⟨bN (UOk n) ⟨hU.m,s8⟩ hU,hd,Nat.le_succ _,ht',fun _=>Did.of (l:=l) (m:=R.s.r) [x] [] [] [] rfl hs.1 hs.2.1 hs.2.2 rfl (by simp only[q1,ay]) (by simp) (by simp only[q2,ay])⟩
 have e67:(op==67)=false:=by simpa using e
 by_cases e:op=68
 ·subst e;obtain⟨R,l,x,rfl⟩:=Run.snoc (show 1≤R.s.d.length from h1);have he:dV n 68 nn ⟨R.wd (l++[x]),U,d⟩=⟨R.wd l,⟨U.m,sJ U.t x.toNat⟩,d⟩:=by show iu.mk _ _ _=_;rw[Run.pop_wd,Run.top_wd]
  rw[he];exact⟨⟨hU.m,(Cl _ _).trans hU.t⟩,hd,Nat.le_succ _,ht',fun _=>Did.of (l:=l) (m:=R.s.r) [x] [] [] [] rfl (sI hw (pH (l:=l) hw.d)) hf rfl rfl (by simp) (by simp) (by simp)⟩
 have e68:(op==68)=false:=by simpa using e
 by_cases e:op=69
 ·subst e;exact⟨hU,hd,Nat.le_succ _,ht',fun _=>h0 rfl R.s.halt ⟨hw.pc,hw.flags,hw.root,hw.vec,hw.epc,hw.Im,hw.addr,hw.count,hw.d,hw.r⟩ hf rfl rfl rfl⟩
 have e69:(op==69)=false:=by simpa using e
 have he:dV n op nn ⟨R,U,d⟩=⟨R,U,d⟩:=by simp only[dV, *,aa]
 have hn:bV op=((0,0),(0,0)):=by
  have n1:(op==1)=false:=by cases h:(op==1)with|false=>rfl|true=>(have:=jV h;subst this;cases hst)
  have n2:(op==2)=false:=by cases h:(op==2)with|false=>rfl|true=>(have:=jV h;subst this;cases hst)
  have n3:(op==3)=false:=by cases h:(op==3)with|false=>rfl|true=>(have:=jV h;subst this;cases hst)
  have n4:(op==4)=false:=by cases h:(op==4)with|false=>rfl|true=>(have:=jV h;subst this;cases hst)
  have n5:(op==5)=false:=by cases h:(op==5)with|false=>rfl|true=>(have:=jV h;subst this;cases hst)
  have n6:(op==6)=false:=by cases h:(op==6)with|false=>rfl|true=>(have:=jV h;subst this;cases hst)
  have n7:(op==7)=false:=by cases h:(op==7)with|false=>rfl|true=>(have:=jV h;subst this;cases hst)
  have n8:(op==8)=false:=by cases h:(op==8)with|false=>rfl|true=>(have:=jV h;subst this;cases hst)
  have n16:(op==16)=false:=by cases h:(op==16)with|false=>rfl|true=>(have:=jV h;subst this;cases hrk)
  have n17:(op==17)=false:=by cases h:(op==17)with|false=>rfl|true=>(have:=jV h;subst this;cases hrk)
  have n18:(op==18)=false:=by cases h:(op==18)with|false=>rfl|true=>(have:=jV h;subst this;cases hrk)
  have n19:(op==19)=false:=by cases h:(op==19)with|false=>rfl|true=>(have:=jV h;subst this;cases hrk)
  have n20:(op==20)=false:=by cases h:(op==20)with|false=>rfl|true=>(have:=jV h;subst this;cases hrk)
  have n21:(op==21)=false:=by cases h:(op==21)with|false=>rfl|true=>(have:=jV h;subst this;cases hrk)
  have n22:(op==22)=false:=by cases h:(op==22)with|false=>rfl|true=>(have:=jV h;subst this;cases hrk)
  have n23:(op==23)=false:=by cases h:(op==23)with|false=>rfl|true=>(have:=jV h;subst this;cases hrk)
  have n24:(op==24)=false:=by cases h:(op==24)with|false=>rfl|true=>(have:=jV h;subst this;cases hrk)
  have n25:(op==25)=false:=by cases h:(op==25)with|false=>rfl|true=>(have:=jV h;subst this;cases hrk)
  have n38:(op==38)=false:=by cases h:(op==38)with|false=>rfl|true=>(have:=jV h;subst this;cases hrk)
  have n39:(op==39)=false:=by cases h:(op==39)with|false=>rfl|true=>(have:=jV h;subst this;cases hrk)
  have n40:(op==40)=false:=by cases h:(op==40)with|false=>rfl|true=>(have:=jV h;subst this;cases hrk)
  unfold bV;simp only[*,aa]
 rw[he];exact⟨hU,hd,Nat.le_succ _,ht',fun _=>h0 hn R.s hw hf rfl rfl rfl⟩
theorem xT{s:St}(h:s.wf):s.next.wf:=by
 refine⟨h.pc,h.flags,h.root,h.vec,h.epc,h.Im,h.addr,?_,h.d,h.r⟩;show 0≤IntKind.u64.wrap _∧IntKind.u64.wrap _≤_;rw[aW];omega
theorem Ca{s:St}(h:s.wf)(c:Int){a:Int}(ha:u32 a):(s.Iv c a).wf:=⟨h.vec,h.flags,h.root,h.vec,h.pc,gM _,ha,h.count,h.d,h.r⟩
theorem C8{s:St}(hw:s.wf)(hr:s.right=true)(hnn:u32 nn)(hck:gg s op nn=0)(hU:UOk n U)(hd:d.ok):sE n op s.next d (rA n s op nn U d):=by
 obtain⟨h16,r16,f15⟩:=St.fits hr;obtain⟨n1,n2⟩:=mm hck;have hwn:=xT hw
 have hw0:(eY s op).s.wf:=z7 hwn (gM _);have key:∀{m:iu},sE n op (eY s op).s d m→sE n op s.next d m:=fun h=>⟨h.u,h.dv,h.o,h.t,fun hc=>by
  have h1:=h.did hc;exact⟨h1.wf,h1.fl,h1.cnt,h1.dl,h1.dt,h1.rl,h1.rt⟩⟩
 unfold rA;cases hst:dO op nn (eY s op)with
 |some R'=>
  obtain⟨h1,h2, -, -⟩:=Cs hw0 f15 hnn n1 n2 hst;exact key ⟨hU,hd,Nat.le_succ _,by show TrU R'.Iv;rw[h2];exact trN,fun _=>h1⟩
 |none=>
  cases hrk:(cQ op nn (eY s op)).1 with
  |true=>
   obtain⟨h1,h2, -, -⟩:=AO hw0 f15 n1 n2 hrk;refine key ⟨hU,hd,Nat.le_succ _,?_,fun _=>h1⟩;show TrU (cQ op nn (eY s op)).2.Iv;rcases h2 with h2|h2<;>rw[h2]
   ·exact trN
   exact⟨u0,by decide,by decide⟩
  |false=>
   simp only[aa];rw[nT op nn _ hrk];exact key (xS hw0 f15 hw.count rfl hU hd hnn n1 hst hrk)
structure Goes(n:Nat)(s:St)(d:Dev)(q:Res×Mmu×Dev):Prop where
 wf:q.1.s.wf
 right:q.1.s.right=true
 cnt:q.1.s.count=IntKind.u64.wrap (s.count+1)
 u:UOk n q.2.1
 dv:q.2.2.ok
 o:q.2.2.out.length≤d.out.length+1
theorem xY{s:St}{q:(Nat×Nat)×(Nat×Nat)}(h:j7 s q=0):(s.d.length:Int) - q.1.1+q.1.2≤16∧(s.r.length:Int) - q.2.1+q.2.2≤16:=by
 unfold j7 at h;cases hc:(decide ((s.d.length:Int)<(q.1.1:Int))||decide ((s.r.length:Int)<(q.2.1:Int)))with
 |true=>rw[hc]at h;cases h
 |false=>
  rw[hc]at h;simp only[aa]at h;cases hc2:(decide (16<(s.d.length:Int) - (q.1.1:Int)+(q.1.2:Int))||decide (16<(s.r.length:Int) - (q.2.1:Int)+(q.2.2:Int)))with
  |true=>rw[hc2]at h;cases h
  |false=>
   simp only[bl,aj]at hc2;omega
theorem w5{s:St}{op n:Int}(h:gg s op n=0):(s.d.length:Int) - (bV op).1.1+(bV op).1.2≤16∧(s.r.length:Int) - (bV op).2.1+(bV op).2.2≤16:=by
 unfold gg at h;revert h;refine bN (fun x:Int=>x=0→(s.d.length:Int) - (bV op).1.1+(bV op).1.2≤16∧(s.r.length:Int) - (bV op).2.1+(bV op).2.2≤16) (fun h=>by cases h) ?_;refine bN (fun x:Int=>x=0→(s.d.length:Int) - (bV op).1.1+(bV op).1.2≤16∧(s.r.length:Int) - (bV op).2.1+(bV op).2.2≤16) (fun h=>by cases h) ?_;refine bN (fun x:Int=>x=0→(s.d.length:Int) - (bV op).1.1+(bV op).1.2≤16∧(s.r.length:Int) - (bV op).2.1+(bV op).2.2≤16) (fun h=>by cases h) ?_;refine bN (fun x:Int=>x=0→(s.d.length:Int) - (bV op).1.1+(bV op).1.2≤16∧(s.r.length:Int) - (bV op).2.1+(bV op).2.2≤16) (fun h=>by cases h) ?_;exact xY
theorem En{s s':St}(h:Did op s s')(hs:s.d.length≤16∧s.r.length≤16)(hn:(bV op).1.1≤s.d.length∧(bV op).2.1≤s.r.length)(hr:(s.d.length:Int) - (bV op).1.1+(bV op).1.2≤16∧(s.r.length:Int) - (bV op).2.1+(bV op).2.2≤16):s'.right=true:=by
 have h1:=h.dl;have h2:=h.rl;have h3:=h.fl;simp only[St.right,aB,ap];omega
theorem sc{s:St}(hw:s.wf)(hr:s.right=true)(hnn:u32 nn)(hU:UOk n U)(hd:d.ok):Goes n s d (vd n s op nn U d):=by
 have hU':UOk n ⟨U.m.calm,U.t⟩:=⟨hU.m.calm,hU.t⟩;have hfit:=St.fits hr;unfold vd;rw[hr];simp only[Bool.not_true,aa];cases hck:(gg s op nn !=0)with
 |true=>exact⟨Ca (xT hw) _ u0,hr,rfl,hU',hd,Nat.le_succ _⟩
 |false=>
  have hck0:gg s op nn=0:=by simpa using hck
  have hA:=C8 (n:=n) hw hr hnn hck0 hU' hd;simp only[aa];obtain⟨m,hm⟩:=Zgn (rA n s op nn ⟨U.m.calm,U.t⟩ d);rw[hm]at hA⊢;unfold Bl;cases hc:(m.r.Iv.Im !=0)with
  |true=>exact⟨Ca (xT hw) _ hA.t.1,hr,rfl,hA.u,hA.dv,hA.o⟩
  |false=>
   have h1:=hA.did (by simpa using hc);have c1:=mm hck0;have c2:=w5 hck0;exact⟨h1.wf,En h1 ⟨hfit.1,hfit.2.1⟩ c1 c2,h1.cnt,hA.u,hA.dv,hA.o⟩
end
end Go.Ink
