/- Lemmas. -/
import Derived.Test.YtbkgmdgackknfaaGreatDoorPaj
set_option linter.unusedSimpArgs false
set_option linter.unusedVariables false
set_option maxRecDepth 100000
set_option maxHeartbeats 4000000
namespace Go.Ink
open Go.RowKit Go.Proofs.Tryz
theorem xV{b:Nat}:∀{m k x:Nat},zP b k m=some x->x<k+m
 |0,_,_,h=>by cases h
 |m+1,k,x,h=>by
  unfold zP at h;cases hc:(b/2^k%2==1)with
  |true=>rw[hc,ai]at h;obtain rfl:=ax h;omega
  |false=>rw[hc,ah]at h;have:=xV h;omega
theorem low_lt{b x:Nat}(h:qI b=some x):x<8:=by have:=xV h;omega
structure Dev.lines(d:Dev):Prop where
 mask:0<=d.mask/\d.mask<=255
theorem Ry{p m:Int}(hm:0<=m/\m<=255):∃x:Nat,bits .and .u32 p m=(x:Int)/\x<256:=by
 unfold bits;simp only;rw[aC];have hmt:(BitVec.ofInt IntKind.u32.bits m).toNat<=255:=by
  rw[BitVec.toNat_ofInt];have:(m%((2^IntKind.u32.bits:Nat):Int))=m:=Int.emod_eq_of_lt hm.1 (by have:((2^IntKind.u32.bits:Nat):Int)=4294967296:=rfl;omega);rw[this];omega
 have h1:=Nat.and_le_right (n:=(BitVec.ofInt IntKind.u32.bits p).toNat) (m:=(BitVec.ofInt IntKind.u32.bits m).toNat);refine⟨(BitVec.ofInt IntKind.u32.bits p&&&BitVec.ofInt IntKind.u32.bits m).toNat%4294967296,?_,?_⟩
 .simp
 rw[BitVec.toNat_and];omega
theorem yw{n:Nat}{s:St}{U:Mmu}{d:Dev}(h:(!s.right||s.halted)=true):dy n s U d=⟨s,0,false,U,d⟩:=by
 unfold dy;rw[h]
 rfl
theorem yx{n:Nat}{s s1:St}{U:Mmu}{d d1:Dev}(h:(!s.right||s.halted)=false)(hd:d.tick s.count=d1)(hs:told s d1=s1):dy n s U d=mB n s1 U d1:=by
 unfold dy;rw[h,hd,hs]
 rfl
theorem NK{s:St}{d:Dev}{x k:Nat}(hx:bits .and .u32 d.Sc d.mask=(x:Int))(ho:qI x=some k)(hie:s.ie=true):told s d=s.R8 ((16+k:Nat):Int) 0:=by
 unfold told Ln;rw[hx,aM,ho];show(bif s.ie then _ else _)=_;rw[hie]
 rfl
theorem told_no{s:St}{d:Dev}{x:Nat}(hx:bits .and .u32 d.Sc d.mask=(x:Int))(h:((qI x).isSome&&s.ie)=false):told s d=s:=by
 unfold told Ln;rw[hx,aM];cases ho:qI x with
 |none=>rfl
 |some k=>
  rw[ho]at h;show(bif s.ie then _ else _)=_;cases hie:s.ie with
  |true=>rw[hie]at h;cases h
  |false=>rfl
section
attribute [local irreducible] OpY bH
theorem Gp(bu bb:Nat)(L:eA)(D:rp)(Y:nS)(s:St)(hwf:s.wf)(Ad Ar:Option Addr)(cd cr:Nat)(U:Mmu)(hT:U.t.length=16)(d:Dev)(hm:(d.tick s.count).lines)(w:World)(hi:Inv w (bD (ubF bu bb L D Y U d)) (ubF bu bb L D Y U d) w)
  (h:∀w',cY (bD (ubF bu bb L D Y U d)) w w'->pY w' s Ad Ar cd cr) (ht:∀w',cY (bD (ubF bu bb L D Y U d)) w w'->fE w'):
  Ctr prog 119 [sv s Ad cd Ar cr,.p bu,.p D.bs] w (ubF bu bb L D Y U d)
   (λv cs=>∃X,v= .agg (q9 (dy L.n s U d) X).toArray/\cs=[slD (dy L.n s U d).s X.Ad X.cd,slR (dy L.n s U d).s X.Ar X.cr]++ubF bu bb L D Y (dy L.n s U d).u (dy L.n s U d).d):=by
 have HR:=oe s Ad Ar cd cr;have HR2:=oe s;cases hrh:(!s.right||s.halted)with
 |true=>
  rw[yw hrh];obtain⟨rt,hrt⟩:=Zgn (s.right);rw[hrt]at HR2 hrh;refine Zfn func119 ntmps119 hi ?_;refine Z_2 ?_;refine ZO λb3=>?_;refine ZN λb6=>?_
  refine M0 ?_;rintro _ _ ⟨_,⟨A1,c1,A2,c2,rfl,rfl⟩,rfl⟩;refine jh ?_;refine ZSe (λw hi=>HR2 A1 A2 c1 c2 w) ?_;refine sx ?_;refine bW rfl ((by rw[hrh];rfl)) (Z_4 ?_);refine iD ?_;exact bG ([row b6 (q9 ⟨s,0,false,U,d⟩ ⟨A1,c1,A2,c2⟩) 213,slD s A1 c1,slR s A2 c2]++ubF bu bb L D Y U d) Zj (pR (cs':=([slD s A1 c1,slR s A2 c2]++ubF bu bb L D Y U d)) (.inl rfl) Zu rfl rfl Zh Zrf Zrf ⟨⟨A1,c1,A2,c2⟩,rfl,rfl⟩)
 |false=>
  simp only[Bool.or_eq_false_iff,Bool.not_eq_false']at hrh;obtain⟨hr,hh⟩:=hrh;obtain⟨hd16,hr16,hf15⟩:=St.fits hr;obtain⟨d1,hd1⟩:=Zgn (d.tick s.count);obtain⟨s1,hs1⟩:=Zgn (told s d1);rw[yx (by rw[hr,hh];rfl) hd1 hs1];rw[hd1]at hm;obtain⟨x,hx,hx256⟩:=Ry (p:=d1.Sc) hm.mask;have HN:=H4 D.bi x d1.Sc d1.mask hx hx256;have HK:=tick_ok D L.bm Y d s.count;rw[hd1]at HK;have hY:=λk h1 h2=>NK (s:=s) (d:=d1) (x:=x) (k:=k) hx h1 h2
  have hN:=told_no (s:=s) (d:=d1) (x:=x) hx;have hlt:=λk (h:qI x=some k)=>low_lt h
  obtain⟨o,ho⟩:=Zgn (qI x);rw[ho]at HN hY hN hlt;have hw1:s1.wf/\s1.d.length<=16/\s1.r.length<=16:=by
   cases hc:(o.isSome&&s.ie)with
   |true=>
    cases o with
    |none=>cases hc
    |some k=>
     have hie:s.ie=true:=hc;rw[<-hs1,hY k rfl hie];exact⟨⟨hwf.vec,hwf.flags,hwf.root,hwf.vec,hwf.pc,wrap_u32 _,u0,hwf.count,hwf.d,hwf.r⟩,hd16,hr16⟩
   |false=>rw[<-hs1,hN hc];exact⟨hwf,hd16,hr16⟩
  obtain⟨hwf1,hs16,hq16⟩:=hw1;refine Zfn func119 ntmps119 hi ?_;refine Z_2 ?_;refine ZO λb3=>?_;refine ZN λb6=>?_
  refine M0 ?_;rintro _ _ ⟨_,⟨A1,c1,A2,c2,rfl,rfl⟩,rfl⟩;refine jh ?_;refine ZSe (λw hi=>HR2 A1 A2 c1 c2 w) ?_;refine sx ?_;refine cJ rfl ((by rw[hr,hh];rfl)) (Z_7 ?_);refine ZcM (kO D L.bm Y d) (λw hi hin=>HK w hin) ?_;refine Z_2 ?_;refine cD (λX:j0=>[(1,.p bu),(3,.p b3),(6,.p b6)]) (λX=>[row b3 (s1.cells (.slice X.Ad s1.d.length X.cd) (.slice X.Ar s1.r.length X.cr)) 43,row b6 (q9 ⟨St.zero,0,false,U,d⟩ ⟨none,0,none,0⟩) 213,slD s1 X.Ad X.cd,slR s1 X.Ar X.cr]++ubF bu bb L D Y U d1) (λ_=>True) ?_ ?_
  .refine Z_6 ?_;refine ZSe (λw hi=>HN w (hi.get Zh) (ht w hi.Sf)) ?_;refine sw ?_;refine ZW ?_ ?_<;>intro hc6
   .obtain⟨k,rfl⟩:∃k,o=some k:=(by cases o with|none=>cases hc6|some k=>exact⟨k,rfl⟩);have hk8:=hlt k rfl;obtain rfl:s1=s.R8 ((16+k:Nat):Int) 0:=(by rw[<-hs1];exact hY k rfl hc6);refine Z_3 ?_;refine Zy (ef (Zv rfl) (Zv rfl) (show _=((16+k:Nat):Int)from by rw[IntWalk.i64_in _ ⟨by show -9223372036854775808<=(16:Int)+((k:Nat):Int);omega,by show(16:Int)+((k:Nat):Int)<=9223372036854775807;omega⟩];show(16:Int)+((k:Nat):Int)=_;omega)) ?_;refine ZSn (λw hi=>uK s A1 A2 c1 c2 ((16+k:Nat):Int) 0 w (hi.Tq (show Has _ (slD s A1 c1)from Zh) (show Has _ (slR s A2 c2)from Zh) Wq1 Wq1)) ?_;rintro _ _ ⟨A3,c3,A4,c4,rfl,rfl⟩;refine ZM ?_;refine Zn (bJ ((⟨A3,c3,A4,c4⟩:j0)) ?_ ?_ ?_)
    .trivial
    .exact Zwk
    exact Zj
   obtain rfl:s1=s:=(by rw[<-hs1];exact hN hc6);refine Zc (bJ ((⟨A1,c1,A2,c2⟩:j0)) ?_ ?_ ?_)
   .trivial
   .exact Zwk
   exact Zj
  rintro⟨A5,c5,A6,c6⟩ -;clear hY hN hs1;obtain⟨pc,dd,rr,fl,su,pg,ie,rt,ve,ep,ca,ad,es,ei,co,ha⟩:=s1;obtain⟨pcN,rfl⟩:∃m:Nat,pc=m:=ap hwf1.pc.1;obtain⟨rtN,rfl⟩:∃m:Nat,rt=m:=ap hwf1.root.1;have hpc2:=hwf1.pc.2;have hrt2:=hwf1.root.2;dsimp only at hpc2 hrt2 hs16 hq16;have HP:=qc bu bb L U hT ⟨pg,su,rtN⟩ (show rtN<=4294967295 by omega) pcN Wq1 1;have hgo:mB L.n ⟨pcN,dd,rr,fl,su,pg,ie,rtN,ve,ep,ca,ad,es,ei,co,ha⟩ U d1=(bif(cG L.n U ⟨pg,su,rtN⟩ pcN 1).1.2.RN !=0 then⟨St.R8 (St.next ⟨pcN,dd,rr,fl,su,pg,ie,rtN,ve,ep,ca,ad,es,ei,co,ha⟩) (cG L.n U ⟨pg,su,rtN⟩ pcN 1).1.2.RN (cG L.n U ⟨pg,su,rtN⟩ pcN 1).1.2.addr,0,false,(cG L.n U ⟨pg,su,rtN⟩ pcN 1).2,d1⟩else⟨⟨pcN,dd,rr,fl,su,pg,ie,rtN,ve,ep,ca,ad,es,ei,co,ha⟩,(cG L.n U ⟨pg,su,rtN⟩ pcN 1).1.1,true,(cG L.n U ⟨pg,su,rtN⟩ pcN 1).2,d1⟩):=rfl;obtain⟨⟨⟨pl,⟨tc,ta⟩⟩,U1⟩,hq⟩:=Zgn (cG L.n U ⟨pg,su,rtN⟩ pcN 1);rw[hq]at HP hgo;dsimp only at hgo;rw[hgo];refine fD ?_;refine ZcM (uF bu bb L U) (λw hi hin=>HP w hin) ?_;refine Z_3 ?_;refine ZN λb10=>?_
  refine ZA ?_;refine ZM ?_;refine pV ?_ ?_<;>intro hc9
  .rw[hc9,ai];refine Z_4 ?_;refine pP ?_;refine gP ?_;refine Z_9 ?_;refine ZSn (λw hi=>uK (St.next ⟨pcN,dd,rr,fl,su,pg,ie,rtN,ve,ep,ca,ad,es,ei,co,ha⟩) A5 A6 c5 c6 tc ta w (hi.Tq (show Has _ (sl .u32 39 A5 dd.length c5 dd)from Zh) (show Has _ (sl .u32 39 A6 rr.length c6 rr)from Zh) (show dd.length*4<=_ by omega) (show rr.length*4<=_ by omega))) ?_;rintro _ _ ⟨A7,c7,A8,c8,rfl,rfl⟩;refine ZA ?_;refine iD ?_;exact bG ([row b6 (q9 ⟨St.R8 (St.next ⟨pcN,dd,rr,fl,su,pg,ie,rtN,ve,ep,ca,ad,es,ei,co,ha⟩) tc ta,0,false,U1,d1⟩ ⟨A7,c7,A8,c8⟩) 213,sl .u32 39 A7 dd.length c7 dd,sl .u32 39 A8 rr.length c8 rr]++ubF bu bb L D Y U1 d1) Zj (pR (cs':=([sl .u32 39 A7 dd.length c7 dd,sl .u32 39 A8 rr.length c8 rr]++ubF bu bb L D Y U1 d1)) (.inl rfl) Zu rfl rfl Zh Zrf Zrf ⟨⟨A7,c7,A8,c8⟩,rfl,rfl⟩)
  rw[hc9,ah];refine Z_7 ?_;refine mD ?_;exact bG ([row b6 (q9 ⟨⟨pcN,dd,rr,fl,su,pg,ie,rtN,ve,ep,ca,ad,es,ei,co,ha⟩,pl,true,U1,d1⟩ ⟨A5,c5,A6,c6⟩) 213,sl .u32 39 A5 dd.length c5 dd,sl .u32 39 A6 rr.length c6 rr]++ubF bu bb L D Y U1 d1) Zj (pR (cs':=([sl .u32 39 A5 dd.length c5 dd,sl .u32 39 A6 rr.length c6 rr]++ubF bu bb L D Y U1 d1)) (.inl rfl) Zu rfl rfl Zh Zrf Zrf ⟨⟨A5,c5,A6,c6⟩,rfl,rfl⟩)
section
variable {n:Nat} {op nn:Int} {s:St} {U:Mmu} {d:Dev} {M:Mem} {R:Run}
theorem w5(h:d.lines)(k:Int)(v:Nat):(cF n M d k v).2.2.lines:=by
 have hz:0<=bits .and .u32 (v:Int) 255/\bits .and .u32 (v:Int) 255<=255:=by
  obtain⟨x,hx,hlt⟩:=Ry (p:=(v:Int)) (m:=255) ⟨by decide,by decide⟩;omega
 unfold cF fp;refine bI (λq:Bool×Mem×Dev=>q.2.2.lines) ⟨h.mask⟩ ?_;refine bI (λq:Bool×Mem×Dev=>q.2.2.lines) ⟨hz⟩ ?_;refine Wq152 ?_;refine bI (λq:Bool×Mem×Dev=>q.2.2.lines) ⟨h.mask⟩ ?_;refine bI (λq:Bool×Mem×Dev=>q.2.2.lines) ⟨h.mask⟩ ?_
 repeat (refine bI (λq:Bool×Mem×Dev=>q.2.2.lines) h ?_)
 exact h
theorem Aq(h:d.lines)(k count:Int):(ge d k count).2.lines:=by
 unfold ge
 repeat (first|exact h|refine bI (λq:(Int×Bool)×Dev=>q.2.lines) ?_ ?_|exact⟨h.mask⟩)
theorem HJ(h:d.lines)(va:Nat):(jO n R U d va).d.lines:=by
 unfold jO;refine bI (λm:fM=>m.d.lines) h ?_;exact bI (λm:fM=>m.d.lines) (Aq h _ _) h
theorem GU(h:d.lines)(va v:Nat):(jL n R U d va v).d.lines:=by
 unfold jL;refine bI (λm:fM=>m.d.lines) h ?_;exact bI (λm:fM=>m.d.lines) (w5 h _ _) h
theorem DM{m:fM}(h:m.d.lines):(dD n op nn m).d.lines:=by
 unfold dD;refine bI (λm:fM=>m.d.lines) (HJ h _) ?_;refine bI (λm:fM=>m.d.lines) (GU h _ _) ?_;refine Wq53 ?_;refine bI (λm:fM=>m.d.lines) h ?_;refine bI (λm:fM=>m.d.lines) h ?_;refine bI (λm:fM=>m.d.lines) h ?_;refine bI (λm:fM=>m.d.lines) h ?_;exact bI (λm:fM=>m.d.lines) h h
theorem KP(h:d.lines):(iB n s op nn U d).d.lines:=by
 unfold iB;cases dC op nn (eP s op)with
 |some R=>exact h
 |none=>exact bI (λm:fM=>m.d.lines) h (DM h)
theorem un(h:d.lines):(pG n s op nn U d).2.2.lines:=by
 unfold pG;refine bI (λq:Res×Mmu×Dev=>q.2.2.lines) h ?_;exact bI (λq:Res×Mmu×Dev=>q.2.2.lines) h (KP h)
theorem ry(h:d.lines)(c:Int):(d.tick c).lines:=by
 unfold Dev.tick;exact bI Dev.lines h ⟨h.mask⟩
theorem NO(h:d.ok)(c:Int):(d.tick c).ok/\(d.tick c).out=d.out:=by
 unfold Dev.tick;exact bI (λq:Dev=>q.ok/\q.out=d.out) ⟨h,rfl⟩ ⟨⟨h.wf.re rfl rfl rfl rfl,iS .or d.Sc 1,h.mask,u0,h.status⟩,rfl⟩
theorem nJ{b:List Int}(hb:u8s b){op nn:Int}{z:Nat}(h:dj b=some ((op,nn),z)):u32 nn/\1<=z/\z<=5/\z<=b.length:=by
 cases b with
 |nil=>cases h
 |cons o l=>
  have hc:cy o=0\/cy o=1\/cy o=2\/cy o=5:=jv o;unfold dj at h;cases h1:(cy o==0)with
  |true=>simp only[h1,ai]at h;cases h
  |false=>
   simp only[h1,ah]at h;cases h2:decide ((l.length:Int)+1<cy o)with
   |true=>simp only[h2,ai]at h;cases h
   |false=>
    simp only[h2,ah,aU,aX]at h;obtain⟨⟨rfl,rfl⟩,rfl⟩:=h;have h1:=ne_of_beq_false h1;simp only[ac]at h2;obtain⟨r1,r2⟩:=zR (l:=l.take ((cy o).toNat - 1)) (λx hx=>hb x (List.mem_cons_of_mem _ (bh hx)));have hl:(l.take ((cy o).toNat - 1)).length<=4:=by rw[aI];omega
    have hp:(256^(l.take ((cy o).toNat - 1)).length:Nat)<=256^4:=Nat.pow_le_pow_right Wq7 hl;have e4:(256^4:Nat)=4294967296:=by decide
    refine⟨⟨r1,by omega⟩,by omega,by omega,?_⟩;rw[aQ];omega
theorem mw(hM:M.ok n){p:Nat}{op nn:Int}{z:Nat}(h:df n M p=some ((op,nn),z)):u32 nn/\1<=z/\z<=5/\p/64<n/\p%64+z<=64:=by
 unfold df at h;cases h1:decide (p/64<n)with
 |false=>rw[h1]at h;cases h
 |true=>
  rw[h1,ai]at h;obtain⟨a,b,c,e⟩:=nJ (λx hx=>hM.db x (List.mem_of_mem_drop (bh (List.mem_of_mem_drop hx)))) h;refine⟨a,b,c,by simpa using h1,?_⟩;rw[List.length_drop,aI]at e;omega
end
structure GOk(n:Nat)(s:St)(U:Mmu)(d:Dev):Prop where
 wf:s.wf
 right:s.right=true
 u:UOk n U
 dv:d.ok
 lines:d.lines
theorem nT(a b c:Int):IntKind.u64.wrap (IntKind.u64.wrap (a+b)+c)=IntKind.u64.wrap (a+(b+c)):=by
 rw[aK,aK,aK];omega
section
variable {n:Nat} {s:St} {U:Mmu} {d:Dev}
theorem KI(h:s.wf):s.next.wf:=⟨h.pc,h.flags,h.root,h.vec,h.epc,h.RN,h.addr,by show 0<=IntKind.u64.wrap _/\IntKind.u64.wrap _<=_;rw[aK];omega,h.d,h.r⟩
theorem EX(h:s.wf)(c:Int){a:Int}(ha:u32 a):(s.R8 c a).wf:=⟨h.vec,h.flags,h.root,h.vec,h.pc,wrap_u32 _,ha,h.count,h.d,h.r⟩
theorem JA(h:s.wf)(hr:s.right=true):(told s d).wf/\(told s d).right=true/\(told s d).count=s.count/\(told s d).halted=s.halted:=by
 unfold told;cases Ln d with
 |none=>exact⟨h,hr,rfl,rfl⟩
 |some k=>
  show(bif s.ie then s.R8 _ _ else s).wf/\(bif s.ie then s.R8 _ _ else s).right=true/\(bif s.ie then s.R8 _ _ else s).count=s.count/\(bif s.ie then s.R8 _ _ else s).halted=s.halted;cases s.ie with
  |true=>exact⟨EX h _ u0,hr,rfl,rfl⟩
  |false=>exact⟨h,hr,rfl,rfl⟩
structure BegOk(n:Nat)(s:St)(d:Dev)(b:C8):Prop where
 g:GOk n b.s b.u b.d
 place:u32 b.place
 out:b.d.out=d.out
 runs:b.runs=true->b.s.count=s.count/\b.s.halted=s.halted/\s.halted=false
 stays:b.runs=false->s.halted=false->b.s.count=IntKind.u64.wrap (s.count+1)/\b.s.halted=false
 held:s.halted=true->b=⟨s,0,false,b.u,b.d⟩
theorem oF(h:GOk n s U d):BegOk n s d (dy n s U d):=by
 obtain⟨t1,t2⟩:=NO h.dv s.count;have t3:=ry h.lines s.count;obtain⟨w1,w2,w3,w4⟩:=JA (s:=s) (d:=d.tick s.count) h.wf h.right;cases hh:s.halted with
 |true=>
  rw[yw (by rw[hh,Bool.or_true])];exact⟨h,u0,rfl,λe=>(by cases e),λ_ e=>(by rw[hh]at e;cases e),λ_=>rfl⟩
 |false=>
  rw[yx (by rw[h.right,hh];rfl) rfl rfl];rw[hh]at w4;obtain⟨s1,hs1⟩:=Zgn (told s (d.tick s.count));rw[hs1]at w1 w2 w3 w4|-;unfold mB;have hpc:s1.pc.toNat<=4294967295:=by have:=w1.pc;unfold u32 at this;omega
  have p1:=pj h.u s1.space s1.pc.toNat 1;obtain⟨p2, -⟩:=jt n U s1.space s1.pc.toNat hpc 1;have p3:=rM n U s1.space s1.pc.toNat hpc 1;obtain⟨⟨⟨pl,⟨tc,ta⟩⟩,U1⟩,hq⟩:=Zgn (cG n U s1.space s1.pc.toNat 1);rw[hq]at p1 p2 p3|-;dsimp only at p1 p2 p3|-;cases htc:(tc !=0)with
  |true=>
   rw[ai];exact⟨⟨EX (KI w1) _ p3.1,w2,p1,t1,t3⟩,u0,t2,λe=>(by cases e),λ_ _=>⟨by show IntKind.u64.wrap (s1.count+1)=_;rw[w3],w4⟩,λe=>(by rw[hh]at e;cases e)⟩
  |false=>
   rw[ah];exact⟨⟨w1,w2,p1,t1,t3⟩,p2,t2,λ_=>⟨w3,w4.trans hh.symm,hh⟩,λe=>(by cases e),λe=>(by rw[hh]at e;cases e)⟩
structure Na(n k:Nat)(s:St)(d:Dev)(q:St×Mmu×Dev):Prop where
 g:GOk n q.1 q.2.1 q.2.2
 out:q.2.2.out.length<=d.out.length+k
 count:∃j:Nat,j<=k/\(1<=k->1<=j)/\q.1.count=IntKind.u64.wrap (s.count+(j:Int))
theorem BH(RY:Nat):∀(k:Nat) {s:St} (p:Nat) {U:Mmu} {d:Dev},GOk n s U d->Na n k s d (dX n RY k s p U d)
 |0,s,p,U,d,h=>⟨h,aL _,0,aL _,λe=>Wq1,by
   show s.count=IntKind.u64.wrap (s.count+0);have:=h.wf.count;rw[aK];omega⟩
 |k+1,s,p,U,d,h=>by
  unfold dX;cases hf:df n U.m p with
  |none=>exact⟨⟨EX (KI h.wf) _ u0,h.right,h.u,h.dv,h.lines⟩,by show d.out.length<=_;omega,1,by omega,λ_=>aL _,rfl⟩
  |some o=>
   obtain⟨⟨op,nn⟩,z⟩:=o;obtain⟨f1, -⟩:=mw h.u.m hf;have hg:=wj (op:=op) (nn:=nn) h.wf h.right f1 h.u h.dv;have hl:=un (n:=n) (op:=op) (nn:=nn) (s:=s) (U:=U) h.lines;obtain⟨⟨q,U1,d1⟩,hq⟩:=Zgn (pG n s op nn U d);rw[hq]at hg hl;obtain⟨g1,g2,g3,g4,g5,g6⟩:=hg;dsimp only at g1 g2 g3 g4 g5 g6 hl|-;rw[hq];dsimp only;cases jN op q RY s.pc with
   |false=>exact⟨⟨g1,g2,g4,g5,hl⟩,by show d1.out.length<=_;omega,1,by omega,λ_=>aL _,g3⟩
   |true=>
    obtain⟨r1,r2,j,r3,r4,r5⟩:=BH RY k ((p+z)%4294967296) (s:=q.s) (U:=U1) (d:=d1) ⟨g1,g2,g4,g5,hl⟩;refine⟨r1,by show _<=_;exact aN r2 Wq1,j+1,by omega,λ_=>by omega,?_⟩;show(dX n RY k q.s ((p+z)%4294967296) U1 d1).1.count=_;rw[r5,g3,nT,show(1:Int)+(j:Int)=((j+1:Nat):Int) by omega]
theorem sr(h:GOk n s U d):Na n 8 s d (dw n s U d)\/(s.halted=true/\(dw n s U d).1=s/\GOk n (dw n s U d).1 (dw n s U d).2.1 (dw n s U d).2.2/\(dw n s U d).2.2.out=d.out):=by
 have hb:=oF h;unfold dw;obtain⟨b,hbe⟩:=Zgn (dy n s U d);rw[hbe]at hb|-;dsimp only;cases hr:b.runs with
 |true=>
  obtain⟨c1,c2,c3⟩:=hb.runs hr;have hq:=BH (b.place.toNat/64) 8 b.place.toNat hb.g;left;refine⟨hq.g,by have:=hq.out;rw[hb.out]at this;exact this,?_⟩;obtain⟨j,j1,j2,j3⟩:=hq.count;exact⟨j,j1,j2,by rw[<-c1];exact j3⟩
 |false=>
  cases hh:s.halted with
  |false=>
   obtain⟨c1,c2⟩:=hb.stays hr hh;left;exact⟨hb.g,by show b.d.out.length<=_;rw[hb.out];omega,1,by omega,λ_=>aL _,c1⟩
  |true=>
   right;have e:=hb.held hh;exact⟨rfl,by show b.s=s;rw[e],hb.g,hb.out⟩
theorem Ix(h:GOk n s U d)(hh:s.halted=false):Na n 8 s d (dw n s U d):=by
 rcases sr h with h1|⟨h1, -⟩
 .exact h1
 rw[hh]at h1;cases h1
end
theorem DG{n RY k:Nat}{s:St}{p:Nat}{U:Mmu}{d:Dev}(h:df n U.m p=none):dX n RY (k+1) s p U d=(s.next.R8 1 0,U,d):=by
 unfold dX;rw[h]
theorem DF{n RY k:Nat}{s:St}{p:Nat}{U U1:Mmu}{d d1:Dev}{op nn:Int}{z:Nat}{q:Res}(h:df n U.m p=some ((op,nn),z))(hq:pG n s op nn U d=(q,U1,d1)):
  dX n RY (k+1) s p U d=bif jN op q RY s.pc then dX n RY k q.s ((p+z)%4294967296) U1 d1 else(q.s,U1,d1):=by
 rw[dX,h];simp only[hq]
abbrev guF(bu bb:Nat)(L:eA)(D:rp)(s:St)(X:j0)(Y:nS)(U:Mmu)(d:Dev):List bC:=slD s X.Ad X.cd::slR s X.Ar X.cr::ubF bu bb L D Y U d
theorem rest_ok(bu bb:Nat)(L:eA)(D:rp)(Y:nS)(s:St)(X:j0)(p:Nat)(hp:p<=4294967295)(Se:Nat)(hmost:Se<=1000)(U:Mmu)(d:Dev)(hG:GOk L.n s U d)(ho:d.out.length+Se<=1000000000)(w:World)(hi:Inv w (bD (guF bu bb L D s X Y U d)) (guF bu bb L D s X Y U d) w):
  Ctr prog 123 [sv s X.Ad X.cd X.Ar X.cr,.w (p:Int),.i (Se:Int),.p bu,.p D.bs] w (guF bu bb L D s X Y U d)
   (λv cs=>∃X' Y',v=sv (dX L.n (p/64) Se s p U d).1 X'.Ad X'.cd X'.Ar X'.cr/\cs=guF bu bb L D (dX L.n (p/64) Se s p U d).1 X' Y' (dX L.n (p/64) Se s p U d).2.1 (dX L.n (p/64) Se s p U d).2.2):=by
 obtain⟨pg,hpg⟩:=Zgn (p/64);have hpq:IntKind.u32.wrap ((p:Int).tdiv 64)=(pg:Int):=by rw[bo Wq1,u32_wrap_id _ Wq1 Wq1];omega
 have hpgl:pg<=4294967295:=by omega
 rw[hpg];clear hpg;obtain⟨⟨s9,U9,d9⟩,hR⟩:=Zgn (dX L.n pg Se s p U d);rw[hR];have ho0:d.out.length<=d.out.length+0:=aL _;obtain⟨o0,hoo⟩:=Zgn (d.out.length);rw[hoo]at ho;refine Zfn func123 ntmps123 hi ?_;refine Z_2 ?_;refine ZO λb5=>?_;refine ZN λb10=>?_
 refine Z_5 ?_;refine Zy (k8 (Zv rfl) (Zv rfl) Wq1 hpq) ?_;refine wO ?_;refine Z_6 ?_;refine dN (row b5 (s.cells (.slice X.Ad s.d.length X.cd) (.slice X.Ar s.r.length X.cr)) 43::row b10 (St.zero.cells (.slice none 0 0) (.slice none 0 0)) 43::guF bu bb L D s X Y U d) Zj (Z_5 ?_);refine bN (λq:Nat×St×j0×Nat×nS×Mmu×Dev=>[(1,.w (q.2.2.2.1:Int)),(3,.p bu),(4,.p D.bs),(5,.p b5),(10,.p b10),(11,.i (pg:Int)),(20,.i (Se:Int)),(21,.i (q.1:Int))]) (λq=>row b5 (q.2.1.cells (.slice q.2.2.1.Ad q.2.1.d.length q.2.2.1.cd) (.slice q.2.2.1.Ar q.2.1.r.length q.2.2.1.cr)) 43::row b10 (St.zero.cells (.slice none 0 0) (.slice none 0 0)) 43::guF bu bb L D q.2.1 q.2.2.1 q.2.2.2.2.1 q.2.2.2.2.2.1 q.2.2.2.2.2.2) (λq=>q.1<=Se/\q.2.2.2.1<=4294967295/\GOk L.n q.2.1 q.2.2.2.2.2.1 q.2.2.2.2.2.2/\q.2.2.2.2.2.2.out.length<=o0+q.1/\dX L.n pg (Se - q.1) q.2.1 q.2.2.2.1 q.2.2.2.2.2.1 q.2.2.2.2.2.2=(s9,U9,d9)) (λq=>Se - q.1) (⟨0,s,X,p,Y,U,d⟩) ?_ ?_ ?_ ?_
 .exact⟨au _,hp,hG,by show d.out.length<=o0+0;omega,hR⟩
 .exact Zwk
 .exact Zu
 rintro⟨j,s,X,p,Y,U,d⟩ ⟨hj,hp,hG,ho1,hRj⟩;dsimp only at hj hp hG ho1 hRj|-;refine Zw6 ?_ ?_<;>intro hc3
 .simp only[ae]at hc3;obtain⟨k,hk⟩:∃k,Se - j=k+1:=⟨Se - j - 1,by omega⟩;rw[hk]at hRj;have HF:=F6 bu bb L U.m p hp;have hrn:=λ(op nn:Int) (z:Nat) h=>mw (n:=L.n) (M:=U.m) (p:=p) (op:=op) (nn:=nn) (z:=z) hG.u.m h
  have hN:=DG (n:=L.n) (RY:=pg) (k:=k) (s:=s) (p:=p) (U:=U) (d:=d);have hS:=λ(op nn:Int) (z:Nat) (q:Res) (U1:Mmu) (d1:Dev) h hq=>DF (n:=L.n) (RY:=pg) (k:=k) (s:=s) (p:=p) (U:=U) (d:=d) (op:=op) (nn:=nn) (z:=z) (q:=q) (U1:=U1) (d1:=d1) h hq
  obtain⟨o,hfo⟩:=Zgn (df L.n U.m p);rw[hfo]at HF hN hS;rw[hfo]at hrn;obtain⟨hd16,hr16, -⟩:=St.fits hG.right;refine Z_8 ?_;refine ZSe (λw hi=>HF w (hi.get (show Has _ (IX bu L.bm bb)from Zh)) (hi.get (show Has _ (eG L U.m)from Zh))) ?_;refine Z_4 ?_;refine ZN λb12=>?_
  refine ZM ?_;refine gK ?_;refine ZW ?_ ?_<;>intro hc5
  .obtain rfl:o=none:=(by cases o with|none=>rfl|some o=>cases hc5);rw[hN rfl,aX,aX]at hRj;obtain⟨rfl,rfl,rfl⟩:=hRj;refine Wq238 ?_;rintro _ _ ⟨_,⟨A3,c3,A4,c4,rfl,rfl⟩,rfl⟩;refine ZM ?_;refine Z_9 ?_;exact bG (row b10 ((s.next.R8 1 0).cells (.slice A3 s.d.length c3) (.slice A4 s.r.length c4)) 43::guF bu bb L D (s.next.R8 1 0) ⟨A3,c3,A4,c4⟩ Y U d) Zj (pR (cs':=(guF bu bb L D (s.next.R8 1 0) ⟨A3,c3,A4,c4⟩ Y U d)) (.inl rfl) Zu rfl rfl Zh Zrf Zrf ⟨⟨A3,c3,A4,c4⟩,Y,rfl,rfl⟩)
  obtain⟨⟨⟨op,nn⟩,z⟩,rfl⟩:∃q,o=some q:=(by cases o with|none=>cases hc5|some o=>exact⟨o,rfl⟩);obtain⟨hnn,hz1,hz5, -⟩:=hrn op nn z rfl;have HD:=do_ok bu bb L D Y s X.Ad X.Ar X.cd X.cr op nn U d hG.wf hnn hG.u.t hG.dv.wf Wq1;have hg:=wj (op:=op) (nn:=nn) hG.wf hG.right hnn hG.u hG.dv;have hl:=un (n:=L.n) (op:=op) (nn:=nn) (s:=s) (U:=U) hG.lines;obtain⟨⟨q,U1,d1⟩,hq⟩:=Zgn (pG L.n s op nn U d);rw[hS op nn z q U1 d1 rfl hq]at hRj;rw[hq]at HD hg hl;obtain⟨g1,g2,g3,g4,g5,g6⟩:=hg;dsimp only at g1 g2 g3 g4 g5 g6 hl;have HX:=λX1 Ap cp w h=>KH op nn q X1 Ap cp pg s.pc g1.pc hG.wf.pc w h
  obtain⟨nx,hnx⟩:=Zgn (jN op q pg s.pc);rw[hnx]at HX hRj;refine Wq363 ?_;rintro _ _ ⟨_,⟨X1,Y1,Ap,cp,rfl,rfl⟩,rfl⟩;refine ZN λb15=>?_
  refine ZM ?_;refine fD ?_;refine Wq132 ?_;refine Z_9 ?_;refine ZSe (λw hi=>HX X1 Ap cp w (hi.rd (show Has _ (sl .i64 3 Ap q.RG.length cp q.RG)from Zh))) ?_;refine Zw3 ?_ ?_<;>intro hc12
  .obtain rfl:nx=false:=(by cases nx with|false=>rfl|true=>cases hc12);rw[ah,aX,aX]at hRj;obtain⟨rfl,rfl,rfl⟩:=hRj;refine Z_9 ?_;refine mD ?_;exact bG (row b10 (q.s.cells (.slice X1.Ad q.s.d.length X1.cd) (.slice X1.Ar q.s.r.length X1.cr)) 43::guF bu bb L D q.s X1 Y1 U1 d1) Zj (pR (cs':=(guF bu bb L D q.s X1 Y1 U1 d1)) (.inl rfl) Zu rfl rfl Zh Zrf Zrf ⟨X1,Y1,rfl,rfl⟩)
  obtain rfl:nx=true:=(by cases nx with|true=>rfl|false=>cases hc12);rw[ai]at hRj;refine gh ?_;refine bJ ((⟨j+1,q.s,X1,(p+z)%4294967296,Y1,U1,d1⟩:Nat×St×j0×Nat×nS×Mmu×Dev)) ?_ ?_ ?_
  .exact⟨⟨show j+1<=Se by omega,by show(p+z)%4294967296<=4294967295;omega,⟨g1,g2,g4,g5,hl⟩,by show d1.out.length<=o0+(j+1);omega,by show dX L.n pg (Se - (j+1)) q.s _ U1 d1=_;rw[show Se - (j+1)=k by omega];exact hRj⟩,show Se - (j+1)<Se - j by omega⟩
  .exact Zwk
  exact Zj
 simp only[ac]at hc3;rw[show Se - j=0 by omega]at hRj;simp only[dX,aX]at hRj;obtain⟨rfl,rfl,rfl⟩:=hRj;refine Z_8 ?_;refine mD ?_;exact bG (row b10 (s.cells (.slice X.Ad s.d.length X.cd) (.slice X.Ar s.r.length X.cr)) 43::guF bu bb L D s X Y U d) Zj (pR (cs':=(guF bu bb L D s X Y U d)) (.inl rfl) Zu rfl rfl Zh Zrf Zrf ⟨X,Y,rfl,rfl⟩)
theorem Iy{n:Nat}{s s1:St}{U U1:Mmu}{d d1:Dev}{pl:Int}(h:dy n s U d=⟨s1,pl,false,U1,d1⟩):dw n s U d=(s1,U1,d1):=by
 unfold dw;rw[h]
 rfl
theorem ED{n:Nat}{s s1:St}{U U1:Mmu}{d d1:Dev}{pl:Nat}(h:dy n s U d=⟨s1,(pl:Int),true,U1,d1⟩):dw n s U d=dX n (pl/64) 8 s1 pl U1 d1:=by
 unfold dw;rw[h]
 rfl
def fc(m from_:Int)(s:St):Bool:=decide (0<m)&& !s.halted&&decide (IntKind.u64.wrap (s.count - from_)<m)
def fZ(n:Nat)(m:Int)(s:St)(U:Mmu)(d:Dev):St×Mmu×Dev:=mb n m s.count m.toNat (s,U,d)
theorem lE{n k:Nat}{m from_:Int}{q:St×Mmu×Dev}(h:fc m from_ q.1=false):mb n m from_ k q=q:=by
 cases k with
 |zero=>rfl
 |succ k=>
  show(bif fc m from_ q.1 then _ else q)=q;rw[h]
  rfl
theorem tT{n k:Nat}{m from_:Int}{q:St×Mmu×Dev}(h:fc m from_ q.1=true):mb n m from_ (k+1) q=mb n m from_ k (dw n q.1 q.2.1 q.2.2):=by
 show(bif fc m from_ q.1 then _ else q)=_;rw[h]
 rfl
structure IT(n:Nat)(m from_:Int)(o0 i:Nat)(q:St×Mmu×Dev):Prop where
 g:GOk n q.1 q.2.1 q.2.2
 out:q.2.2.out.length<=o0+8*i
 cnt:∃c:Nat,IntKind.u64.wrap (q.1.count - from_)=(c:Int)/\i<=c/\c<=8*i/\(c:Int)<(bif decide (0<m)then m else 0)+8
theorem Fi{n:Nat}{m from_:Int}(hm:m<=1000000){o0 i:Nat}(hi:i<=1000000){q:St×Mmu×Dev}(h:IT n m from_ o0 i q)(hc:fc m from_ q.1=true):IT n m from_ o0 (i+1) (dw n q.1 q.2.1 q.2.2)/\(i:Int)<m:=by
 obtain⟨h1,h2,c,h3,h4,h5,h6⟩:=h;simp only[fc,aD,ae,Bool.not_eq_true']at hc;obtain⟨⟨hm0,hh⟩,hlt⟩:=hc;rw[ay hm0,ai]at h6;obtain⟨b1,b2,j,b3,b4,b5⟩:=Ix h1 hh;refine⟨⟨b1,by omega,c+j,?_,by omega,by omega,?_⟩,by omega⟩
 .rw[b5];rw[aK]at h3|-;rw[aK];omega
 rw[ay hm0,ai];omega
theorem Qf(bu bb:Nat)(L:eA)(D:rp)(Y:nS)(s:St)(Ad Ar:Option Addr)(cd cr:Nat)(U:Mmu)(d:Dev)(hG:GOk L.n s U d)(ho:d.out.length+8<=1000000000)(w:World)(hi:Inv w (bD (ubF bu bb L D Y U d)) (ubF bu bb L D Y U d) w)
  (h:∀w',cY (bD (ubF bu bb L D Y U d)) w w'->pY w' s Ad Ar cd cr) (ht:∀w',cY (bD (ubF bu bb L D Y U d)) w w'->fE w'):
  Ctr prog 96 [sv s Ad cd Ar cr,.p bu,.p D.bs] w (ubF bu bb L D Y U d)
   (λv cs=>∃X' Y',v=sv (dw L.n s U d).1 X'.Ad X'.cd X'.Ar X'.cr/\cs=guF bu bb L D (dw L.n s U d).1 X' Y' (dw L.n s U d).2.1 (dw L.n s U d).2.2):=by
 have HB:=Gp bu bb L D Y s hG.wf Ad Ar cd cr U hG.u.t d (ry hG.lines _);have hb:=oF hG;have hN:=λs1 U1 d1 pl h=>Iy (n:=L.n) (s:=s) (s1:=s1) (U:=U) (U1:=U1) (d:=d) (d1:=d1) (pl:=pl) h
 have hY:=λs1 U1 d1 pl h=>ED (n:=L.n) (s:=s) (s1:=s1) (U:=U) (U1:=U1) (d:=d) (d1:=d1) (pl:=pl) h
 obtain⟨⟨s1,pl,rn,U1,d1⟩,hbe⟩:=Zgn (dy L.n s U d);rw[hbe]at HB hb hN hY;obtain⟨hg1,hpl,hout, -, -, -⟩:=hb;dsimp only at hg1 hpl hout;obtain⟨pl,rfl⟩:∃m:Nat,pl=m:=ap hpl.1;have hpl2:=hpl.2;have HR:=λX w hi=>rest_ok bu bb L D Y s1 X pl Wq1 8 Wq7 U1 d1 hg1 (by rw[hout];exact ho) w hi
 obtain⟨⟨s9,U9,d9⟩,hR⟩:=Zgn (dw L.n s U d);rw[hR]at hN hY|-;refine Zfn func96 ntmps96 hi ?_;refine Z_2 ?_;refine ZO λb3=>?_;refine ZN λb6=>?_
 refine Z_7 ?_;refine dz (ubF bu bb L D Y U d) (λw hi hin=>HB w hin (λw' hk=>h w' (hi.Ta (λc hc=>by simp only[ubF,uF,kO,aF,aG,aS]at hc|-;grind) hk)) (λw' hk=>ht w' (hi.Ta (λc hc=>by simp only[ubF,uF,kO,aF,aG,aS]at hc|-;grind) hk))) ?_;rintro _ _ ⟨X1,rfl,rfl⟩;refine ZN λb7=>?_
 refine ZM ?_;refine pV ?_ ?_<;>intro hc2
 .obtain rfl:rn=false:=(by cases rn with|false=>rfl|true=>cases hc2);have e:=hN s1 U1 d1 pl rfl;rw[aX,aX]at e;obtain⟨rfl,rfl,rfl⟩:=e;refine Z_3 ?_;refine dK (bP (vs:=s9.cells (.slice X1.Ad s9.d.length X1.cd) (.slice X1.Ar s9.r.length X1.cr)) Zrf Zrf Zv0) (cO Zh rfl) rfl (iD ?_);exact bG (row b6 (s9.cells (.slice X1.Ad s9.d.length X1.cd) (.slice X1.Ar s9.r.length X1.cr)) 43::guF bu bb L D s9 X1 Y U9 d9) Zj (pR (cs':=(guF bu bb L D s9 X1 Y U9 d9)) (.inl rfl) Zu rfl rfl Zh Zrf Zrf ⟨X1,Y,rfl,rfl⟩)
 obtain rfl:rn=true:=(by cases rn with|true=>rfl|false=>cases hc2);have e:=hY s1 U1 d1 pl rfl;rw[<-e]at HR;refine Z_5 ?_;refine Wq248 ?_;refine Z_4 ?_;refine dz (guF bu bb L D s1 X1 Y U1 d1) (λw hi hin=>HR X1 w hin) ?_;rintro _ _ ⟨X2,Y2,rfl,rfl⟩;refine mD ?_;exact bG (row b6 (s9.cells (.slice X2.Ad s9.d.length X2.cd) (.slice X2.Ar s9.r.length X2.cr)) 43::guF bu bb L D s9 X2 Y2 U9 d9) Zj (pR (cs':=(guF bu bb L D s9 X2 Y2 U9 d9)) (.inl rfl) Zu rfl rfl Zh Zrf Zrf ⟨X2,Y2,rfl,rfl⟩)
theorem run_ok(bu bb:Nat)(L:eA)(D:rp)(Y:nS)(s:St)(Ad Ar:Option Addr)(cd cr:Nat)(U:Mmu)(d:Dev)(hG:GOk L.n s U d)(m:Int)(hm0: -9223372036854775808<=m)(hm:m<=1000000)(ho:d.out.length+8*m.toNat+8<=1000000000)(w:World)(hi:Inv w (bD (ubF bu bb L D Y U d)) (ubF bu bb L D Y U d) w)
  (h:∀w',cY (bD (ubF bu bb L D Y U d)) w w'->pY w' s Ad Ar cd cr) (ht:∀w',cY (bD (ubF bu bb L D Y U d)) w w'->fE w'):
  Ctr prog 72 [sv s Ad cd Ar cr,.p bu,.p D.bs,.i m] w (ubF bu bb L D Y U d)
   (λv cs=>∃X' Y',v=sv (fZ L.n m s U d).1 X'.Ad X'.cd X'.Ar X'.cr/\cs=guF bu bb L D (fZ L.n m s U d).1 X' Y' (fZ L.n m s U d).2.1 (fZ L.n m s U d).2.2):=by
 have HR2:=oe s;rw[hG.right]at HR2;obtain⟨hd16,hr16, -⟩:=St.fits hG.right;obtain⟨⟨s9,U9,d9⟩,hR⟩:=Zgn (fZ L.n m s U d);rw[hR];have hR0:mb L.n m s.count (m.toNat - 0) (s,U,d)=(s9,U9,d9):=hR;have hk0:IT L.n m s.count d.out.length 0 (s,U,d):=⟨hG,aL _,0,by show IntKind.u64.wrap (s.count - s.count)=0;rw[Int.sub_self];rfl,aL _,aL _,by cases hd:decide (0<m)with|false=>(show(0:Int)<0+8;omega)|true=>(simp only[ae]at hd;show(0:Int)<m+8;omega)⟩;obtain⟨from_,hfr⟩:=Zgn (s.count);obtain⟨o0,hoo⟩:=Zgn (d.out.length);rw[hfr]at hR0 hk0;rw[hoo]at ho hk0;refine Zfn func72 ntmps72 hi ?_;refine Z_2 ?_;refine ZO λb4=>?_;refine ZN λb8=>?_
 refine M0 ?_;rintro _ _ ⟨_,⟨A1,c1,A2,c2,rfl,rfl⟩,rfl⟩;refine jh ?_;refine ZSe (λw hi=>HR2 A1 A2 c1 c2 w) ?_;refine gK ?_;refine iU ?_;refine Z_4 ?_;refine dN (row b4 (s.cells (.slice A1 s.d.length c1) (.slice A2 s.r.length c2)) 43::row b8 (St.zero.cells (.slice none 0 0) (.slice none 0 0)) 43::guF bu bb L D s ⟨A1,c1,A2,c2⟩ Y U d) Zj (Z_7 ?_);refine bN (λq:Nat×St×j0×nS×Mmu×Dev=>[(1,.p bu),(2,.p D.bs),(3,.i m),(4,.p b4),(8,.p b8),(9,.int .u64 from_)]) (λq=>row b4 (q.2.1.cells (.slice q.2.2.1.Ad q.2.1.d.length q.2.2.1.cd) (.slice q.2.2.1.Ar q.2.1.r.length q.2.2.1.cr)) 43::row b8 (St.zero.cells (.slice none 0 0) (.slice none 0 0)) 43::guF bu bb L D q.2.1 q.2.2.1 q.2.2.2.1 q.2.2.2.2.1 q.2.2.2.2.2) (λq=>IT L.n m from_ o0 q.1 (q.2.1,q.2.2.2.2.1,q.2.2.2.2.2)/\q.1<=m.toNat/\mb L.n m from_ (m.toNat - q.1) (q.2.1,q.2.2.2.2.1,q.2.2.2.2.2)=(s9,U9,d9)) (λq=>m.toNat - q.1) (⟨0,s,⟨A1,c1,A2,c2⟩,Y,U,d⟩) ?_ ?_ ?_ ?_
 .exact⟨hk0,au _,hR0⟩
 .exact Zwk
 .exact Zu
 rintro⟨i,s,X,Y,U,d⟩ ⟨hk,him,hRi⟩;dsimp only at hk him hRi|-;have hrc:fc m from_ s=((decide (0<m)&& !s.halted)&&decide (IntKind.u64.wrap (s.count - from_)<m)):=rfl;refine Wq201 ?_;refine ZW ?_ ?_<;>intro hc5
 .have hc:fc m from_ s=true:=(by rw[hrc];revert hc5;cases decide (0<m)with|false=>(intro h;cases h)|true=>exact λh=>h);obtain⟨hk2,hilt⟩:=Fi hm Wq1 hk hc;obtain⟨k,hkk⟩:∃k,m.toNat - i=k+1:=⟨m.toNat - i - 1,by omega⟩;rw[hkk,tT hc]at hRi;obtain⟨hd16,hr16, -⟩:=St.fits hk.g.right;have hok:=hk.out;dsimp only at hok hd16 hr16;have HB:=Qf bu bb L D Y s X.Ad X.Ar X.cd X.cr U d hk.g Wq1;obtain⟨⟨s2,U2,d2⟩,hq⟩:=Zgn (dw L.n s U d);dsimp only at hRi hk2;rw[hq]at HB hRi hk2;refine Z_7 ?_;refine dz (ubF bu bb L D Y U d) (λw hi hin=>HB w hin (λw' hk=>hi.S3 Zi (show Has _ (slD s X.Ad X.cd)from Zh) (show Has _ (slR s X.Ar X.cr)from Zh) Wq1 Wq1 hk) (λw' hk=>ht w' (hi.Ta (λc hc=>by simp only[guF,ubF,uF,kO,aF,aG,aS]at hc|-;grind) hk))) ?_;rintro _ _ ⟨X2,Y2,rfl,rfl⟩;refine ZM ?_;refine Z_2 ?_;refine bJ ((⟨i+1,s2,X2,Y2,U2,d2⟩:Nat×St×j0×nS×Mmu×Dev)) ?_ ?_ ?_
  .exact⟨⟨hk2,show i+1<=m.toNat by omega,by show mb L.n m from_ (m.toNat - (i+1)) (s2,U2,d2)=_;rw[show m.toNat - (i+1)=k by omega];exact hRi⟩,show m.toNat - (i+1)<m.toNat - i by omega⟩
  .exact Zwk
  exact Zj
 have hc:fc m from_ s=false:=(by rw[hrc];revert hc5;cases decide (0<m)with|false=>exact λ_=>rfl|true=>exact λh=>h);rw[lE hc,aX,aX]at hRi;obtain⟨rfl,rfl,rfl⟩:=hRi;refine Z_8 ?_;refine mD ?_;exact bG (row b8 (s.cells (.slice X.Ad s.d.length X.cd) (.slice X.Ar s.r.length X.cr)) 43::guF bu bb L D s X Y U d) Zj (pR (cs':=(guF bu bb L D s X Y U d)) (.inl rfl) Zu rfl rfl Zh Zrf Zrf ⟨X,Y,rfl,rfl⟩)
end
end Go.Ink
