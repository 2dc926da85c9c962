/- Lemmas. -/
import Derived.Test.YtgpahfcaecojgaaGreatDoorPai
set_option linter.all false
set_option maxRecDepth 100000
set_option maxHeartbeats 4000000
namespace Go.Ink
open Go.RowKit Go.Proofs.Tryz
theorem zc{b:Nat}:∀{m k x:Nat},Bk b k m=some x->x<k+m
 |0,_,_,h=>by cases h
 |m+1,k,x,h=>by
  unfold Bk at h;cases hc:(b/2^k%2==1)with
  |true=>rw[hc,ai]at h;obtain rfl:=ay h;omega
  |false=>rw[hc,ah]at h;have:=zc h;omega
variable{x:Nat}
theorem low_lt{b:Nat}(h:qF b=some x):x<8:=by have:=zc h;omega
structure Dev.lines(d:Dev):Prop where
 mask:0<=d.mask/\d.mask<=255
variable{m:Int}
theorem VV{p:Int}(hm:0<=m/\m<=255):∃x:Nat,bits .and .u32 p m=(x:Int)/\x<256:=by
 unfold bits;simp only;rw[aG];have hmt:(BitVec.ofInt IntKind.u32.bits m).toNat<=255:=by
  rw[BitVec.toNat_ofInt];have:(m%((2^IntKind.u32.bits:Nat):Int))=m:=Int.emod_eq_of_lt hm.1 (by have:((2^IntKind.u32.bits:Nat):Int)=4294967296:=rfl;omega);rw[this];omega
 have h1:=Nat.and_le_right (n:=(BitVec.ofInt IntKind.u32.bits p).toNat) (m:=(BitVec.ofInt IntKind.u32.bits m).toNat);refine⟨(BitVec.ofInt IntKind.u32.bits p&&&BitVec.ofInt IntKind.u32.bits m).toNat%4294967296,?_,?_⟩
 .simp
 rw[BitVec.toNat_and];omega
variable{n:Nat}{s:St}{U:Mmu}{d:Dev}
theorem zF(h:(!s.right||s.halted)=true):dO n s U d=⟨s,0,false,U,d⟩:=by
 unfold dO;rw[h]
 rfl
variable{s1:St}{d1:Dev}
theorem zG(h:(!s.right||s.halted)=false)(hd:d.tick s.count=d1)(hs:told s d1=s1):dO n s U d=pL n s1 U d1:=by
 unfold dO;rw[h,hd,hs]
 rfl
variable{k:Nat}
theorem Q7(hx:bits .and .u32 d.Wx d.mask=(x:Int))(ho:qF x=some k)(hie:s.ie=true):told s d=s.Wv ((16+k:Nat):Int) 0:=by
 unfold told SV;rw[hx,aN,ho];show(bif s.ie then _ else _)=_;rw[hie]
 rfl
theorem told_no(hx:bits .and .u32 d.Wx d.mask=(x:Int))(h:((qF x).isSome&&s.ie)=false):told s d=s:=by
 unfold told SV;rw[hx,aN];cases ho:qF x with
 |none=>rfl
 |some k=>
  rw[ho]at h;show(bif s.ie then _ else _)=_;cases hie:s.ie with
  |true=>rw[hie]at h;cases h
  |false=>rfl
section
attribute [local irreducible] OpY bN
theorem Jf(bu bb:Nat)(L:eB)(D:rx)(Y:ov)(s:St)(hwf:s.wf)(Ad Ar:Oa)(cd cr:Nat)(U:Mmu)(hT:U.t.length=16)(d:Dev)(hm:(d.tick s.count).lines)(w:World)(hi:Inv w (bK (ubF bu bb L D Y U d)) (ubF bu bb L D Y U d) w)
  (h:∀w',dc (bK (ubF bu bb L D Y U d)) w w'->rj w' s Ad Ar cd cr) (ht:∀w',dc (bK (ubF bu bb L D Y U d)) w w'->fc w'):
  Ctr prog 149 [sv s Ad cd Ar cr,.p bu,.p D.bs] w (ubF bu bb L D Y U d)
   (λv cs=>∃X,v= .agg (qY (dO L.n s U d) X).toArray/\cs=[slD (dO L.n s U d).s X.Ad X.cd,slR (dO L.n s U d).s X.Ar X.cr]++ubF bu bb L D Y (dO L.n s U d).u (dO L.n s U d).d):=by
 have HR:=oF s Ad Ar cd cr;have HR2:=oF s;cases hrh:(!s.right||s.halted)with
 |true=>
  rw[zF hrh];obtain⟨rt,hrt⟩:=Zgn (s.right);rw[hrt]at HR2 hrh;refine Zfn func149 ntmps149 hi ?_;refine Z_2 ?_;refine ZO λb3=>?_;refine ZN λb6=>?_
  refine Qu ?_;rintro _ _ ⟨_,⟨A1,c1,A2,c2,rfl,rfl⟩,rfl⟩;refine Ur ?_;refine oU ?_;refine cn rfl ((by rw[hrh];rfl)) (Z_4 ?_);refine jC ?_;exact bO ([row b6 (qY ⟨s,0,false,U,d⟩ ⟨A1,c1,A2,c2⟩) 253,slD s A1 c1,slR s A2 c2]++ubF bu bb L D Y U d) Zj (m8 (cs':=([slD s A1 c1,slR s A2 c2]++ubF bu bb L D Y U d)) (.inl rfl) Zu rfl rfl Zh Zrf Zrf ⟨⟨A1,c1,A2,c2⟩,rfl,rfl⟩)
 |false=>
  simp only[aS,Bool.not_eq_false']at hrh;obtain⟨hr,hh⟩:=hrh;obtain⟨hd16,hr16,hf15⟩:=St.fits hr;obtain⟨d1,hd1⟩:=Zgn (d.tick s.count);obtain⟨s1,hs1⟩:=Zgn (told s d1);rw[zG (by rw[hr,hh];rfl) hd1 hs1];rw[hd1]at hm;obtain⟨x,hx,hx256⟩:=VV (p:=d1.Wx) hm.mask;have HN:=KH D.bi x d1.Wx d1.mask hx hx256;have HK:=tick_ok D L.bm Y d s.count;rw[hd1]at HK;have hY:=λk h1 h2=>Q7 (s:=s) (d:=d1) (x:=x) (k:=k) hx h1 h2
  have hN:=told_no (s:=s) (d:=d1) (x:=x) hx;have hlt:=λk (h:qF x=some k)=>low_lt h
  obtain⟨o,ho⟩:=Zgn (qF x);rw[ho]at HN hY hN hlt;have hw1:s1.wf/\s1.d.length<=16/\s1.r.length<=16:=by
   cases hc:(o.isSome&&s.ie)with
   |true=>
    cases o with
    |none=>cases hc
    |some k=>
     have hie:s.ie=true:=hc;rw[<-hs1,hY k rfl hie];exact⟨⟨hwf.vec,hwf.flags,hwf.root,hwf.vec,hwf.pc,wrap_u32 _,u0,hwf.count,hwf.d,hwf.r⟩,hd16,hr16⟩
   |false=>rw[<-hs1,hN hc];exact⟨hwf,hd16,hr16⟩
  obtain⟨hwf1,hs16,hq16⟩:=hw1;refine Zfn func149 ntmps149 hi ?_;refine Z_2 ?_;refine ZO λb3=>?_;refine ZN λb6=>?_
  refine Qu ?_;rintro _ _ ⟨_,⟨A1,c1,A2,c2,rfl,rfl⟩,rfl⟩;refine Ur ?_;refine oU ?_;refine cy rfl ((by rw[hr,hh];rfl)) (Z_7 ?_);refine ZcM (mO D L.bm Y d) (λw hi hin=>HK w hin) ?_;refine Z_2 ?_;refine cL (λX:ko=>[(1,.p bu),(3,.p b3),(6,.p b6)]) (λX=>[row b3 (s1.cells (.slice X.Ad s1.d.length X.cd) (.slice X.Ar s1.r.length X.cr)) 53,row b6 (qY ⟨St.zero,0,false,U,d⟩ ⟨none,0,none,0⟩) 253,slD s1 X.Ad X.cd,slR s1 X.Ar X.cr]++ubF bu bb L D Y U d1) (λ_=>True) ?_ ?_
  .refine Z_6 ?_;refine ZSe (λw hi=>HN w (hi.get Zh) (ht w hi.WB)) ?_;refine rc ?_;refine ZW ?_ ?_<;>intro hc6
   .obtain⟨k,rfl⟩:∃k,o=some k:=(by cases o with|none=>cases hc6|some k=>exact⟨k,rfl⟩);have hk8:=hlt k rfl;obtain rfl:s1=s.Wv ((16+k:Nat):Int) 0:=(by rw[<-hs1];exact hY k rfl hc6);refine Z_3 ?_;refine Zy (eK (Zv rfl) (Zv rfl) (show _=((16+k:Nat):Int)from by rw[bD _ ⟨by show -9223372036854775808<=(16:Int)+((k:Nat):Int);omega,by show(16:Int)+((k:Nat):Int)<=9223372036854775807;omega⟩];show(16:Int)+((k:Nat):Int)=_;omega)) ?_;refine ZSn (λw hi=>vf s A1 A2 c1 c2 ((16+k:Nat):Int) 0 w (hi.XJ (Zhc (slD s A1 c1)) (Zhc (slR s A2 c2)) Wq1 Wq1)) ?_;rintro _ _ ⟨A3,c3,A4,c4,rfl,rfl⟩;refine ZM ?_;refine Zn (qMP ((⟨A3,c3,A4,c4⟩:ko)) kY)
   obtain rfl:s1=s:=(by rw[<-hs1];exact hN hc6);refine Zc (qMP ((⟨A1,c1,A2,c2⟩:ko)) kY)
  rintro⟨A5,c5,A6,c6⟩ -;clear hY hN hs1;obtain⟨pc,dd,rr,fl,su,pg,ie,rt,ve,ep,ca,ad,es,ei,co,ha⟩:=s1;obtain⟨pcN,rfl⟩:∃m:Nat,pc=m:=ao hwf1.pc.1;obtain⟨rtN,rfl⟩:∃m:Nat,rt=m:=ao hwf1.root.1;have hpc2:=hwf1.pc.2;have hrt2:=hwf1.root.2;dsimp only at hpc2 hrt2 hs16 hq16;have HP:=qd bu bb L U hT ⟨pg,su,rtN⟩ (show rtN<=4294967295 by omega) pcN Wq1 1;have hgo:pL L.n ⟨pcN,dd,rr,fl,su,pg,ie,rtN,ve,ep,ca,ad,es,ei,co,ha⟩ U d1=(bif(cO L.n U ⟨pg,su,rtN⟩ pcN 1).1.2.Wg !=0 then⟨St.Wv (St.next ⟨pcN,dd,rr,fl,su,pg,ie,rtN,ve,ep,ca,ad,es,ei,co,ha⟩) (cO L.n U ⟨pg,su,rtN⟩ pcN 1).1.2.Wg (cO L.n U ⟨pg,su,rtN⟩ pcN 1).1.2.addr,0,false,(cO L.n U ⟨pg,su,rtN⟩ pcN 1).2,d1⟩else⟨⟨pcN,dd,rr,fl,su,pg,ie,rtN,ve,ep,ca,ad,es,ei,co,ha⟩,(cO L.n U ⟨pg,su,rtN⟩ pcN 1).1.1,true,(cO L.n U ⟨pg,su,rtN⟩ pcN 1).2,d1⟩):=rfl;obtain⟨⟨⟨pl,⟨tc,ta⟩⟩,U1⟩,hq⟩:=Zgn (cO L.n U ⟨pg,su,rtN⟩ pcN 1);rw[hq]at HP hgo;dsimp only at hgo;rw[hgo];refine fb ?_;refine ZcM (uF bu bb L U) (λw hi hin=>HP w hin) ?_;refine Z_3 ?_;refine ZN λb10=>?_
  refine ZA ?_;refine sF ?_;refine ZW ?_ ?_<;>intro hc9
  .rw[hc9,ai];refine Z_4 ?_;refine pR ?_;refine iJ ?_;refine Z_9 ?_;refine ZSn (λw hi=>vf (St.next ⟨pcN,dd,rr,fl,su,pg,ie,rtN,ve,ep,ca,ad,es,ei,co,ha⟩) A5 A6 c5 c6 tc ta w (hi.XJ (Zhc (sl .u32 49 A5 dd.length c5 dd)) (Zhc (sl .u32 49 A6 rr.length c6 rr)) (show dd.length*4<=_ by omega) (show rr.length*4<=_ by omega))) ?_;rintro _ _ ⟨A7,c7,A8,c8,rfl,rfl⟩;refine ZA ?_;refine jC ?_;exact bO ([row b6 (qY ⟨St.Wv (St.next ⟨pcN,dd,rr,fl,su,pg,ie,rtN,ve,ep,ca,ad,es,ei,co,ha⟩) tc ta,0,false,U1,d1⟩ ⟨A7,c7,A8,c8⟩) 253,sl .u32 49 A7 dd.length c7 dd,sl .u32 49 A8 rr.length c8 rr]++ubF bu bb L D Y U1 d1) Zj (m8 (cs':=([sl .u32 49 A7 dd.length c7 dd,sl .u32 49 A8 rr.length c8 rr]++ubF bu bb L D Y U1 d1)) (.inl rfl) Zu rfl rfl Zh Zrf Zrf ⟨⟨A7,c7,A8,c8⟩,rfl,rfl⟩)
  rw[hc9,ah];refine Z_7 ?_;refine iC ?_;exact bO ([row b6 (qY ⟨⟨pcN,dd,rr,fl,su,pg,ie,rtN,ve,ep,ca,ad,es,ei,co,ha⟩,pl,true,U1,d1⟩ ⟨A5,c5,A6,c6⟩) 253,sl .u32 49 A5 dd.length c5 dd,sl .u32 49 A6 rr.length c6 rr]++ubF bu bb L D Y U1 d1) Zj (m8 (cs':=([sl .u32 49 A5 dd.length c5 dd,sl .u32 49 A6 rr.length c6 rr]++ubF bu bb L D Y U1 d1)) (.inl rfl) Zu rfl rfl Zh Zrf Zrf ⟨⟨A5,c5,A6,c6⟩,rfl,rfl⟩)
section
variable {n:Nat} {op nn:Int} {s:St} {U:Mmu} {d:Dev} {M:Mem} {R:Run}
theorem ye(h:d.lines)(k:Int)(v:Nat):(cM n M d k v).2.2.lines:=by
 have hz:0<=bits .and .u32 (v:Int) 255/\bits .and .u32 (v:Int) 255<=255:=by
  obtain⟨x,hx,hlt⟩:=VV (p:=(v:Int)) (m:=255) ⟨by decide,by decide⟩;omega
 unfold cM fu;refine bR (λq:Bool×Mem×Dev=>q.2.2.lines) ⟨h.mask⟩ ?_;refine bR (λq:Bool×Mem×Dev=>q.2.2.lines) ⟨hz⟩ ?_;refine Wq165 ?_;refine bR (λq:Bool×Mem×Dev=>q.2.2.lines) ⟨h.mask⟩ ?_;refine bR (λq:Bool×Mem×Dev=>q.2.2.lines) ⟨h.mask⟩ ?_
 repeat (refine bR (λq:Bool×Mem×Dev=>q.2.2.lines) h ?_)
 exact h
theorem BH(h:d.lines)(k count:Int):(gb d k count).2.lines:=by
 unfold gb
 repeat (first|exact h|refine bR (λq:(Int×Bool)×Dev=>q.2.lines) ?_ ?_|exact⟨h.mask⟩)
theorem KC(h:d.lines)(va:Nat):(jZ n R U d va).d.lines:=by
 unfold jZ;refine Lk ?_;exact bR (λm:gi=>m.d.lines) (BH h _ _) h
theorem JS(h:d.lines)(va v:Nat):(jY n R U d va v).d.lines:=by
 unfold jY;refine Lk ?_;exact bR (λm:gi=>m.d.lines) (ye h _ _) h
theorem Fy{m:gi}(h:m.d.lines):(dK n op nn m).d.lines:=by
 unfold dK;refine bR (λm:gi=>m.d.lines) (KC h _) ?_;refine bR (λm:gi=>m.d.lines) (JS h _ _) ?_;refine Wq58 ?_;refine Lk ?_;refine Lk ?_;refine Lk ?_;refine Lk ?_;exact bR (λm:gi=>m.d.lines) h h
theorem NQ(h:d.lines):(pB n s op nn U d).d.lines:=by
 unfold pB;cases dI op nn (eW s op)with
 |some R=>exact h
 |none=>exact bR (λm:gi=>m.d.lines) h (Fy h)
theorem uO(h:d.lines):(wO n s op nn U d).2.2.lines:=by
 unfold wO;refine bR (λq:Res×Mmu×Dev=>q.2.2.lines) h ?_;exact bR (λq:Res×Mmu×Dev=>q.2.2.lines) h (NQ h)
theorem rD(h:d.lines)(c:Int):(d.tick c).lines:=by
 unfold Dev.tick;exact bR Dev.lines h ⟨h.mask⟩
theorem Rf(h:d.ok)(c:Int):(d.tick c).ok/\(d.tick c).out=d.out:=by
 unfold Dev.tick;exact bR (λq:Dev=>q.ok/\q.out=d.out) ⟨h,rfl⟩ ⟨⟨h.wf.re rfl rfl rfl rfl,iW .or d.Wx 1,h.mask,u0,h.status⟩,rfl⟩
theorem oe{b:Li}(hb:u8s b){op nn:Int}{z:Nat}(h:eo b=some ((op,nn),z)):u32 nn/\1<=z/\z<=5/\z<=b.length:=by
 cases b with
 |nil=>cases h
 |cons o l=>
  have hc:cF o=0\/cF o=1\/cF o=2\/cF o=5:=jw o;unfold eo at h;cases h1:(cF o==0)with
  |true=>simp only[h1,ai]at h;cases h
  |false=>
   simp only[h1,ah]at h;cases h2:decide ((l.length:Int)+1<cF o)with
   |true=>simp only[h2,ai]at h;cases h
   |false=>
    simp only[h2,ah,bo,bA]at h;obtain⟨⟨rfl,rfl⟩,rfl⟩:=h;have h1:=ne_of_beq_false h1;simp only[aa]at h2;obtain⟨r1,r2⟩:=Bn (l:=l.take ((cF o).toNat - 1)) (λx hx=>hb x (List.mem_cons_of_mem _ (aB hx)));have hl:(l.take ((cF o).toNat - 1)).length<=4:=by rw[aD];omega
    have hp:(256^(l.take ((cF o).toNat - 1)).length:Nat)<=256^4:=Nat.pow_le_pow_right bX hl;have e4:(256^4:Nat)=4294967296:=by decide
    refine⟨⟨r1,by omega⟩,by omega,by omega,?_⟩;rw[aO];omega
theorem mJ(hM:M.ok n){p:Nat}{op nn:Int}{z:Nat}(h:eV n M p=some ((op,nn),z)):u32 nn/\1<=z/\z<=5/\p/64<n/\p%64+z<=64:=by
 unfold eV at h;cases h1:decide (p/64<n)with
 |false=>rw[h1]at h;cases h
 |true=>
  rw[h1,ai]at h;obtain⟨a,b,c,e⟩:=oe (λx hx=>hM.db x (bG (aB (bG hx)))) h;refine⟨a,b,c,by simpa using h1,?_⟩;rw[bH,aD]at e;omega
end
structure GOk(n:Nat)(s:St)(U:Mmu)(d:Dev):Prop where
 wf:s.wf
 right:s.right=true
 u:UOk n U
 dv:d.ok
 lines:d.lines
theorem oA(a b c:Int):IntKind.u64.wrap (IntKind.u64.wrap (a+b)+c)=IntKind.u64.wrap (a+(b+c)):=by
 rw[aU,aU,aU];omega
section
variable {n:Nat} {s:St} {U:Mmu} {d:Dev}
theorem VB(h:s.wf):s.next.wf:=⟨h.pc,h.flags,h.root,h.vec,h.epc,h.Wg,h.addr,by show 0<=IntKind.u64.wrap _/\IntKind.u64.wrap _<=_;rw[aU];omega,h.d,h.r⟩
theorem Mu(h:s.wf)(c:Int){a:Int}(ha:u32 a):(s.Wv c a).wf:=⟨h.vec,h.flags,h.root,h.vec,h.pc,wrap_u32 _,ha,h.count,h.d,h.r⟩
theorem My(h:s.wf)(hr:s.right=true):(told s d).wf/\(told s d).right=true/\(told s d).count=s.count/\(told s d).halted=s.halted:=by
 unfold told;cases SV d with
 |none=>exact⟨h,hr,rfl,rfl⟩
 |some k=>
  show(bif s.ie then s.Wv _ _ else s).wf/\(bif s.ie then s.Wv _ _ else s).right=true/\(bif s.ie then s.Wv _ _ else s).count=s.count/\(bif s.ie then s.Wv _ _ else s).halted=s.halted;cases s.ie with
  |true=>exact⟨Mu h _ u0,hr,rfl,rfl⟩
  |false=>exact⟨h,hr,rfl,rfl⟩
structure BegOk(n:Nat)(s:St)(d:Dev)(b:EP):Prop where
 g:GOk n b.s b.u b.d
 place:u32 b.place
 out:b.d.out=d.out
 runs:b.runs=true->b.s.count=s.count/\b.s.halted=s.halted/\s.halted=false
 stays:b.runs=false->s.halted=false->b.s.count=IntKind.u64.wrap (s.count+1)/\b.s.halted=false
 held:s.halted=true->b=⟨s,0,false,b.u,b.d⟩
theorem oT(h:GOk n s U d):BegOk n s d (dO n s U d):=by
 obtain⟨t1,t2⟩:=Rf h.dv s.count;have t3:=rD h.lines s.count;obtain⟨w1,w2,w3,w4⟩:=My (s:=s) (d:=d.tick s.count) h.wf h.right;cases hh:s.halted with
 |true=>
  rw[zF (by rw[hh,Bool.or_true])];exact⟨h,u0,rfl,λe=>(by cases e),λ_ e=>(by rw[hh]at e;cases e),λ_=>rfl⟩
 |false=>
  rw[zG (by rw[h.right,hh];rfl) rfl rfl];rw[hh]at w4;obtain⟨s1,hs1⟩:=Zgn (told s (d.tick s.count));rw[hs1]at w1 w2 w3 w4|-;unfold pL;have hpc:s1.pc.toNat<=4294967295:=by have:=w1.pc;unfold u32 at this;omega
  have p1:=pz h.u s1.space s1.pc.toNat 1;obtain⟨p2, -⟩:=ju n U s1.space s1.pc.toNat hpc 1;have p3:=rZ n U s1.space s1.pc.toNat hpc 1;obtain⟨⟨⟨pl,⟨tc,ta⟩⟩,U1⟩,hq⟩:=Zgn (cO n U s1.space s1.pc.toNat 1);rw[hq]at p1 p2 p3|-;dsimp only at p1 p2 p3|-;cases htc:(tc !=0)with
  |true=>
   rw[ai];exact⟨⟨Mu (VB w1) _ p3.1,w2,p1,t1,t3⟩,u0,t2,λe=>(by cases e),λ_ _=>⟨by show IntKind.u64.wrap (s1.count+1)=_;rw[w3],w4⟩,λe=>(by rw[hh]at e;cases e)⟩
  |false=>
   rw[ah];exact⟨⟨w1,w2,p1,t1,t3⟩,p2,t2,λ_=>⟨w3,w4.trans hh.symm,hh⟩,λe=>(by cases e),λe=>(by rw[hh]at e;cases e)⟩
structure QE(n k:Nat)(s:St)(d:Dev)(q:St×Mmu×Dev):Prop where
 g:GOk n q.1 q.2.1 q.2.2
 out:q.2.2.out.length<=d.out.length+k
 count:∃j:Nat,j<=k/\(1<=k->1<=j)/\q.1.count=IntKind.u64.wrap (s.count+(j:Int))
theorem CU(Wt:Nat):∀(k:Nat) {s:St} (p:Nat) {U:Mmu} {d:Dev},GOk n s U d->QE n k s d (eQ n Wt k s p U d)
 |0,s,p,U,d,h=>⟨h,aL _,0,aL _,λe=>Wq1,by
   show s.count=IntKind.u64.wrap (s.count+0);have:=h.wf.count;rw[aU];omega⟩
 |k+1,s,p,U,d,h=>by
  unfold eQ;cases hf:eV n U.m p with
  |none=>exact⟨⟨Mu (VB h.wf) _ u0,h.right,h.u,h.dv,h.lines⟩,by show d.out.length<=_;omega,1,by omega,λ_=>aL _,rfl⟩
  |some o=>
   obtain⟨⟨op,nn⟩,z⟩:=o;obtain⟨f1, -⟩:=mJ h.u.m hf;have hg:=wN (op:=op) (nn:=nn) h.wf h.right f1 h.u h.dv;have hl:=uO (n:=n) (op:=op) (nn:=nn) (s:=s) (U:=U) h.lines;obtain⟨⟨q,U1,d1⟩,hq⟩:=Zgn (wO n s op nn U d);rw[hq]at hg hl;obtain⟨g1,g2,g3,g4,g5,g6⟩:=hg;dsimp only at g1 g2 g3 g4 g5 g6 hl|-;rw[hq];dsimp only;cases lQ op q Wt s.pc with
   |false=>exact⟨⟨g1,g2,g4,g5,hl⟩,by show d1.out.length<=_;omega,1,by omega,λ_=>aL _,g3⟩
   |true=>
    obtain⟨r1,r2,j,r3,r4,r5⟩:=CU Wt k ((p+z)%4294967296) (s:=q.s) (U:=U1) (d:=d1) ⟨g1,g2,g4,g5,hl⟩;refine⟨r1,by show _<=_;exact aK r2 Wq1,j+1,by omega,λ_=>by omega,?_⟩;show(eQ n Wt k q.s ((p+z)%4294967296) U1 d1).1.count=_;rw[r5,g3,oA,show(1:Int)+(j:Int)=((j+1:Nat):Int) by omega]
theorem sw(h:GOk n s U d):QE n 8 s d (dL n s U d)\/(s.halted=true/\(dL n s U d).1=s/\GOk n (dL n s U d).1 (dL n s U d).2.1 (dL n s U d).2.2/\(dL n s U d).2.2.out=d.out):=by
 have hb:=oT h;unfold dL;obtain⟨b,hbe⟩:=Zgn (dO n s U d);rw[hbe]at hb|-;dsimp only;cases hr:b.runs with
 |true=>
  obtain⟨c1,c2,c3⟩:=hb.runs hr;have hq:=CU (b.place.toNat/64) 8 b.place.toNat hb.g;left;refine⟨hq.g,by have:=hq.out;rw[hb.out]at this;exact this,?_⟩;obtain⟨j,j1,j2,j3⟩:=hq.count;exact⟨j,j1,j2,by rw[<-c1];exact j3⟩
 |false=>
  cases hh:s.halted with
  |false=>
   obtain⟨c1,c2⟩:=hb.stays hr hh;left;exact⟨hb.g,by show b.d.out.length<=_;rw[hb.out];omega,1,by omega,λ_=>aL _,c1⟩
  |true=>
   right;have e:=hb.held hh;exact⟨rfl,by show b.s=s;rw[e],hb.g,hb.out⟩
theorem Lc(h:GOk n s U d)(hh:s.halted=false):QE n 8 s d (dL n s U d):=by
 rcases sw h with h1|⟨h1, -⟩
 .exact h1
 rw[hh]at h1;cases h1
end
theorem Fo{Wt:Nat}{p:Nat}(h:eV n U.m p=none):eQ n Wt (k+1) s p U d=(s.next.Wv 1 0,U,d):=by
 unfold eQ;rw[h]
variable{U1:Mmu}
theorem Fm{Wt:Nat}{p:Nat}{op nn:Int}{z:Nat}{q:Res}(h:eV n U.m p=some ((op,nn),z))(hq:wO n s op nn U d=(q,U1,d1)):
  eQ n Wt (k+1) s p U d=bif lQ op q Wt s.pc then eQ n Wt k q.s ((p+z)%4294967296) U1 d1 else(q.s,U1,d1):=by
 rw[eQ,h];simp only[hq]
abbrev guF(bu bb:Nat)(L:eB)(D:rx)(s:St)(X:ko)(Y:ov)(U:Mmu)(d:Dev):List bJ:=slD s X.Ad X.cd::slR s X.Ar X.cr::ubF bu bb L D Y U d
theorem rest_ok(bu bb:Nat)(L:eB)(D:rx)(Y:ov)(s:St)(X:ko)(p:Nat)(hp:p<=4294967295)(Wz:Nat)(hmost:Wz<=1000)(U:Mmu)(d:Dev)(hG:GOk L.n s U d)(ho:d.out.length+Wz<=1000000000):CI prog 153 [sv s X.Ad X.cd X.Ar X.cr,.w (p:Int),.i (Wz:Int),.p bu,.p D.bs] (guF bu bb L D s X Y U d) (λv cs=>∃X' Y',v=sv (eQ L.n (p/64) Wz s p U d).1 X'.Ad X'.cd X'.Ar X'.cr/\cs=guF bu bb L D (eQ L.n (p/64) Wz s p U d).1 X' Y' (eQ L.n (p/64) Wz s p U d).2.1 (eQ L.n (p/64) Wz s p U d).2.2):=λw hi=>by
 obtain⟨pg,hpg⟩:=Zgn (p/64);have hpq:IntKind.u32.wrap ((p:Int).tdiv 64)=(pg:Int):=by rw[Int.tdiv_eq_ediv_of_nonneg Wq1,u32_wrap_id _ Wq1 Wq1];omega
 have hpgl:pg<=4294967295:=by omega
 rw[hpg];clear hpg;obtain⟨⟨s9,U9,d9⟩,hR⟩:=Zgn (eQ L.n pg Wz s p U d);rw[hR];have ho0:d.out.length<=d.out.length+0:=aL _;obtain⟨o0,hoo⟩:=Zgn (d.out.length);rw[hoo]at ho;refine Zfn func153 ntmps153 hi ?_;refine Z_2 ?_;refine ZO λb5=>?_;refine ZN λb10=>?_
 refine Z_5 ?_;refine Zy (mh (Zv rfl) (Zv rfl) Wq1 hpq) ?_;refine lD ?_;refine Z_6 ?_;refine eY (row b5 (s.cells (.slice X.Ad s.d.length X.cd) (.slice X.Ar s.r.length X.cr)) 53::row b10 (St.zero.cells (.slice none 0 0) (.slice none 0 0)) 53::guF bu bb L D s X Y U d) Zj (Z_5 ?_);refine wLo (λq:Nat×St×ko×Nat×ov×Mmu×Dev=>[(1,.w (q.2.2.2.1:Int)),(3,.p bu),(4,.p D.bs),(5,.p b5),(10,.p b10),(11,.i (pg:Int)),(20,.i (Wz:Int)),(21,.i (q.1:Int))]) (λq=>row b5 (q.2.1.cells (.slice q.2.2.1.Ad q.2.1.d.length q.2.2.1.cd) (.slice q.2.2.1.Ar q.2.1.r.length q.2.2.1.cr)) 53::row b10 (St.zero.cells (.slice none 0 0) (.slice none 0 0)) 53::guF bu bb L D q.2.1 q.2.2.1 q.2.2.2.2.1 q.2.2.2.2.2.1 q.2.2.2.2.2.2) (λq=>q.1<=Wz/\q.2.2.2.1<=4294967295/\GOk L.n q.2.1 q.2.2.2.2.2.1 q.2.2.2.2.2.2/\q.2.2.2.2.2.2.out.length<=o0+q.1/\eQ L.n pg (Wz - q.1) q.2.1 q.2.2.2.1 q.2.2.2.2.2.1 q.2.2.2.2.2.2=(s9,U9,d9)) (λq=>Wz - q.1) (⟨0,s,X,p,Y,U,d⟩) ⟨ap _,hp,hG,by show d.out.length<=o0+0;omega,hR⟩ ?_;rintro⟨j,s,X,p,Y,U,d⟩ ⟨hj,hp,hG,ho1,hRj⟩;dsimp only at hj hp hG ho1 hRj|-;refine Zw6 ?_ ?_<;>intro hc3
 .simp only[ac]at hc3;obtain⟨k,hk⟩:∃k,Wz - j=k+1:=⟨Wz - j - 1,by omega⟩;rw[hk]at hRj;have HF:=IK bu bb L U.m p hp;have hrn:=λ(op nn:Int) (z:Nat) h=>mJ (n:=L.n) (M:=U.m) (p:=p) (op:=op) (nn:=nn) (z:=z) hG.u.m h
  have hN:=Fo (n:=L.n) (Wt:=pg) (k:=k) (s:=s) (p:=p) (U:=U) (d:=d);have hS:=λ(op nn:Int) (z:Nat) (q:Res) (U1:Mmu) (d1:Dev) h hq=>Fm (n:=L.n) (Wt:=pg) (k:=k) (s:=s) (p:=p) (U:=U) (d:=d) (op:=op) (nn:=nn) (z:=z) (q:=q) (U1:=U1) (d1:=d1) h hq
  obtain⟨o,hfo⟩:=Zgn (eV L.n U.m p);rw[hfo]at HF hN hS;rw[hfo]at hrn;obtain⟨hd16,hr16, -⟩:=St.fits hG.right;refine Z_8 ?_;refine ZSe (λw hi=>HF w (hi.get (Zhc (LG bu L.bm bb))) (hi.get (Zhc (fw L U.m)))) ?_;refine Z_4 ?_;refine ZN λb12=>?_
  refine ZM ?_;refine xL ?_ ?_<;>intro hc5
  .obtain rfl:o=none:=(by cases o with|none=>rfl|some o=>cases hc5);rw[hN rfl,bA,bA]at hRj;obtain⟨rfl,rfl,rfl⟩:=hRj;refine Wq285 ?_;rintro _ _ ⟨_,⟨A3,c3,A4,c4,rfl,rfl⟩,rfl⟩;refine ZM ?_;refine Z_9 ?_;exact bO (row b10 ((s.next.Wv 1 0).cells (.slice A3 s.d.length c3) (.slice A4 s.r.length c4)) 53::guF bu bb L D (s.next.Wv 1 0) ⟨A3,c3,A4,c4⟩ Y U d) Zj (m8 (cs':=(guF bu bb L D (s.next.Wv 1 0) ⟨A3,c3,A4,c4⟩ Y U d)) (.inl rfl) Zu rfl rfl Zh Zrf Zrf ⟨⟨A3,c3,A4,c4⟩,Y,rfl,rfl⟩)
  obtain⟨⟨⟨op,nn⟩,z⟩,rfl⟩:∃q,o=some q:=(by cases o with|none=>cases hc5|some o=>exact⟨o,rfl⟩);obtain⟨hnn,hz1,hz5, -⟩:=hrn op nn z rfl;have HD:=do_ok bu bb L D Y s X.Ad X.Ar X.cd X.cr op nn U d hG.wf hnn hG.u.t hG.dv.wf Wq1;have hg:=wN (op:=op) (nn:=nn) hG.wf hG.right hnn hG.u hG.dv;have hl:=uO (n:=L.n) (op:=op) (nn:=nn) (s:=s) (U:=U) hG.lines;obtain⟨⟨q,U1,d1⟩,hq⟩:=Zgn (wO L.n s op nn U d);rw[hS op nn z q U1 d1 rfl hq]at hRj;rw[hq]at HD hg hl;obtain⟨g1,g2,g3,g4,g5,g6⟩:=hg;dsimp only at g1 g2 g3 g4 g5 g6 hl;have HX:=λX1 Ap cp w h=>NH op nn q X1 Ap cp pg s.pc g1.pc hG.wf.pc w h
  obtain⟨nx,hnx⟩:=Zgn (lQ op q pg s.pc);rw[hnx]at HX hRj;refine Wq452 ?_;rintro _ _ ⟨_,⟨X1,Y1,Ap,cp,rfl,rfl⟩,rfl⟩;refine ZN λb15=>?_
  refine ZM ?_;refine Wq469 ?_;refine ZW ?_ ?_<;>intro hc12
  .obtain rfl:nx=false:=(by cases nx with|false=>rfl|true=>cases hc12);rw[ah,bA,bA]at hRj;obtain⟨rfl,rfl,rfl⟩:=hRj;refine Z_9 ?_;refine iC ?_;exact bO (row b10 (q.s.cells (.slice X1.Ad q.s.d.length X1.cd) (.slice X1.Ar q.s.r.length X1.cr)) 53::guF bu bb L D q.s X1 Y1 U1 d1) Zj (m8 (cs':=(guF bu bb L D q.s X1 Y1 U1 d1)) (.inl rfl) Zu rfl rfl Zh Zrf Zrf ⟨X1,Y1,rfl,rfl⟩)
  obtain rfl:nx=true:=(by cases nx with|true=>rfl|false=>cases hc12);rw[ai]at hRj;refine jS ?_;refine qMP ((⟨j+1,q.s,X1,(p+z)%4294967296,Y1,U1,d1⟩:Nat×St×ko×Nat×ov×Mmu×Dev)) ⟨⟨show j+1<=Wz by omega,by show(p+z)%4294967296<=4294967295;omega,⟨g1,g2,g4,g5,hl⟩,by show d1.out.length<=o0+(j+1);omega,by show eQ L.n pg (Wz - (j+1)) q.s _ U1 d1=_;rw[show Wz - (j+1)=k by omega];exact hRj⟩,show Wz - (j+1)<Wz - j by omega⟩
 simp only[aa]at hc3;rw[show Wz - j=0 by omega]at hRj;simp only[eQ,bA]at hRj;obtain⟨rfl,rfl,rfl⟩:=hRj;refine Z_8 ?_;refine iC ?_;exact bO (row b10 (s.cells (.slice X.Ad s.d.length X.cd) (.slice X.Ar s.r.length X.cr)) 53::guF bu bb L D s X Y U d) Zj (m8 (cs':=(guF bu bb L D s X Y U d)) (.inl rfl) Zu rfl rfl Zh Zrf Zrf ⟨X,Y,rfl,rfl⟩)
theorem Ld{pl:Int}(h:dO n s U d=⟨s1,pl,false,U1,d1⟩):dL n s U d=(s1,U1,d1):=by
 unfold dL;rw[h]
 rfl
theorem Gu{pl:Nat}(h:dO n s U d=⟨s1,(pl:Int),true,U1,d1⟩):dL n s U d=eQ n (pl/64) 8 s1 pl U1 d1:=by
 unfold dL;rw[h]
 rfl
def gy(m from_:Int)(s:St):Bool:=decide (0<m)&& !s.halted&&decide (IntKind.u64.wrap (s.count - from_)<m)
def g9(n:Nat)(m:Int)(s:St)(U:Mmu)(d:Dev):St×Mmu×Dev:=m7 n m s.count m.toNat (s,U,d)
variable{from_:Int}{q:St×Mmu×Dev}
theorem rO(h:gy m from_ q.1=false):m7 n m from_ k q=q:=by
 cases k with
 |zero=>rfl
 |succ k=>
  show(bif gy m from_ q.1 then _ else q)=q;rw[h]
  rfl
theorem Az(h:gy m from_ q.1=true):m7 n m from_ (k+1) q=m7 n m from_ k (dL n q.1 q.2.1 q.2.2):=by
 show(bif gy m from_ q.1 then _ else q)=_;rw[h]
 rfl
structure LC(n:Nat)(m from_:Int)(o0 i:Nat)(q:St×Mmu×Dev):Prop where
 g:GOk n q.1 q.2.1 q.2.2
 out:q.2.2.out.length<=o0+8*i
 cnt:∃c:Nat,IntKind.u64.wrap (q.1.count - from_)=(c:Int)/\i<=c/\c<=8*i/\(c:Int)<(bif decide (0<m)then m else 0)+8
theorem Hh(hm:m<=1000000){o0 i:Nat}(hi:i<=1000000){q:St×Mmu×Dev}(h:LC n m from_ o0 i q)(hc:gy m from_ q.1=true):LC n m from_ o0 (i+1) (dL n q.1 q.2.1 q.2.2)/\(i:Int)<m:=by
 obtain⟨h1,h2,c,h3,h4,h5,h6⟩:=h;simp only[gy,au,ac,Bool.not_eq_true']at hc;obtain⟨⟨hm0,hh⟩,hlt⟩:=hc;rw[aE hm0,ai]at h6;obtain⟨b1,b2,j,b3,b4,b5⟩:=Lc h1 hh;refine⟨⟨b1,by omega,c+j,?_,by omega,by omega,?_⟩,by omega⟩
 .rw[b5];rw[aU]at h3|-;rw[aU];omega
 rw[aE hm0,ai];omega
theorem TZ(bu bb:Nat)(L:eB)(D:rx)(Y:ov)(s:St)(Ad Ar:Oa)(cd cr:Nat)(U:Mmu)(d:Dev)(hG:GOk L.n s U d)(ho:d.out.length+8<=1000000000)(w:World)(hi:Inv w (bK (ubF bu bb L D Y U d)) (ubF bu bb L D Y U d) w)
  (h:∀w',dc (bK (ubF bu bb L D Y U d)) w w'->rj w' s Ad Ar cd cr) (ht:∀w',dc (bK (ubF bu bb L D Y U d)) w w'->fc w'):
  Ctr prog 126 [sv s Ad cd Ar cr,.p bu,.p D.bs] w (ubF bu bb L D Y U d)
   (λv cs=>∃X' Y',v=sv (dL L.n s U d).1 X'.Ad X'.cd X'.Ar X'.cr/\cs=guF bu bb L D (dL L.n s U d).1 X' Y' (dL L.n s U d).2.1 (dL L.n s U d).2.2):=by
 have HB:=Jf bu bb L D Y s hG.wf Ad Ar cd cr U hG.u.t d (rD hG.lines _);have hb:=oT hG;have hN:=λs1 U1 d1 pl h=>Ld (n:=L.n) (s:=s) (s1:=s1) (U:=U) (U1:=U1) (d:=d) (d1:=d1) (pl:=pl) h
 have hY:=λs1 U1 d1 pl h=>Gu (n:=L.n) (s:=s) (s1:=s1) (U:=U) (U1:=U1) (d:=d) (d1:=d1) (pl:=pl) h
 obtain⟨⟨s1,pl,rn,U1,d1⟩,hbe⟩:=Zgn (dO L.n s U d);rw[hbe]at HB hb hN hY;obtain⟨hg1,hpl,hout, -, -, -⟩:=hb;dsimp only at hg1 hpl hout;obtain⟨pl,rfl⟩:∃m:Nat,pl=m:=ao hpl.1;have hpl2:=hpl.2;have HR:=λX w hi=>rest_ok bu bb L D Y s1 X pl Wq1 8 bX U1 d1 hg1 (by rw[hout];exact ho) w hi
 obtain⟨⟨s9,U9,d9⟩,hR⟩:=Zgn (dL L.n s U d);rw[hR]at hN hY|-;refine Zfn func126 ntmps126 hi ?_;refine Z_2 ?_;refine ZO λb3=>?_;refine ZN λb6=>?_
 refine Z_7 ?_;refine dy (ubF bu bb L D Y U d) (λw hi hin=>HB w hin (λw' hk=>h w' (hi.Xv (λc hc=>by simp only[ubF,uF,mO,az,aJ,aY]at hc|-;grind) hk)) (λw' hk=>ht w' (hi.Xv (λc hc=>by simp only[ubF,uF,mO,az,aJ,aY]at hc|-;grind) hk))) ?_;rintro _ _ ⟨X1,rfl,rfl⟩;refine ZN λb7=>?_
 refine sF ?_;refine ZW ?_ ?_<;>intro hc2
 .obtain rfl:rn=false:=(by cases rn with|false=>rfl|true=>cases hc2);have e:=hN s1 U1 d1 pl rfl;rw[bA,bA]at e;obtain⟨rfl,rfl,rfl⟩:=e;refine Z_3 ?_;refine Wq462 ?_;exact bO (row b6 (s9.cells (.slice X1.Ad s9.d.length X1.cd) (.slice X1.Ar s9.r.length X1.cr)) 53::guF bu bb L D s9 X1 Y U9 d9) Zj (m8 (cs':=(guF bu bb L D s9 X1 Y U9 d9)) (.inl rfl) Zu rfl rfl Zh Zrf Zrf ⟨X1,Y,rfl,rfl⟩)
 obtain rfl:rn=true:=(by cases rn with|true=>rfl|false=>cases hc2);have e:=hY s1 U1 d1 pl rfl;rw[<-e]at HR;refine Z_5 ?_;refine Wq255 ?_;refine Z_4 ?_;refine dy (guF bu bb L D s1 X1 Y U1 d1) (λw hi hin=>HR X1 w hin) ?_;rintro _ _ ⟨X2,Y2,rfl,rfl⟩;refine iC ?_;exact bO (row b6 (s9.cells (.slice X2.Ad s9.d.length X2.cd) (.slice X2.Ar s9.r.length X2.cr)) 53::guF bu bb L D s9 X2 Y2 U9 d9) Zj (m8 (cs':=(guF bu bb L D s9 X2 Y2 U9 d9)) (.inl rfl) Zu rfl rfl Zh Zrf Zrf ⟨X2,Y2,rfl,rfl⟩)
theorem run_ok(bu bb:Nat)(L:eB)(D:rx)(Y:ov)(s:St)(Ad Ar:Oa)(cd cr:Nat)(U:Mmu)(d:Dev)(hG:GOk L.n s U d)(m:Int)(hm0: -9223372036854775808<=m)(hm:m<=1000000)(ho:d.out.length+8*m.toNat+8<=1000000000)(w:World)(hi:Inv w (bK (ubF bu bb L D Y U d)) (ubF bu bb L D Y U d) w)
  (h:∀w',dc (bK (ubF bu bb L D Y U d)) w w'->rj w' s Ad Ar cd cr) (ht:∀w',dc (bK (ubF bu bb L D Y U d)) w w'->fc w'):
  Ctr prog 98 [sv s Ad cd Ar cr,.p bu,.p D.bs,.i m] w (ubF bu bb L D Y U d)
   (λv cs=>∃X' Y',v=sv (g9 L.n m s U d).1 X'.Ad X'.cd X'.Ar X'.cr/\cs=guF bu bb L D (g9 L.n m s U d).1 X' Y' (g9 L.n m s U d).2.1 (g9 L.n m s U d).2.2):=by
 have HR2:=oF s;rw[hG.right]at HR2;obtain⟨hd16,hr16, -⟩:=St.fits hG.right;obtain⟨⟨s9,U9,d9⟩,hR⟩:=Zgn (g9 L.n m s U d);rw[hR];have hR0:m7 L.n m s.count (m.toNat - 0) (s,U,d)=(s9,U9,d9):=hR;have hk0:LC L.n m s.count d.out.length 0 (s,U,d):=⟨hG,aL _,0,by show IntKind.u64.wrap (s.count - s.count)=0;rw[Int.sub_self];rfl,aL _,aL _,by cases hd:decide (0<m)with|false=>(show(0:Int)<0+8;omega)|true=>(simp only[ac]at hd;show(0:Int)<m+8;omega)⟩;obtain⟨from_,hfr⟩:=Zgn (s.count);obtain⟨o0,hoo⟩:=Zgn (d.out.length);rw[hfr]at hR0 hk0;rw[hoo]at ho hk0;refine Zfn func98 ntmps98 hi ?_;refine Z_2 ?_;refine ZO λb4=>?_;refine ZN λb8=>?_
 refine Qu ?_;rintro _ _ ⟨_,⟨A1,c1,A2,c2,rfl,rfl⟩,rfl⟩;refine Ur ?_;refine gq ?_;refine kv ?_;refine Z_4 ?_;refine eY (row b4 (s.cells (.slice A1 s.d.length c1) (.slice A2 s.r.length c2)) 53::row b8 (St.zero.cells (.slice none 0 0) (.slice none 0 0)) 53::guF bu bb L D s ⟨A1,c1,A2,c2⟩ Y U d) Zj (Z_7 ?_);refine wLo (λq:Nat×St×ko×ov×Mmu×Dev=>[(1,.p bu),(2,.p D.bs),(3,.i m),(4,.p b4),(8,.p b8),(9,.int .u64 from_)]) (λq=>row b4 (q.2.1.cells (.slice q.2.2.1.Ad q.2.1.d.length q.2.2.1.cd) (.slice q.2.2.1.Ar q.2.1.r.length q.2.2.1.cr)) 53::row b8 (St.zero.cells (.slice none 0 0) (.slice none 0 0)) 53::guF bu bb L D q.2.1 q.2.2.1 q.2.2.2.1 q.2.2.2.2.1 q.2.2.2.2.2) (λq=>LC L.n m from_ o0 q.1 (q.2.1,q.2.2.2.2.1,q.2.2.2.2.2)/\q.1<=m.toNat/\m7 L.n m from_ (m.toNat - q.1) (q.2.1,q.2.2.2.2.1,q.2.2.2.2.2)=(s9,U9,d9)) (λq=>m.toNat - q.1) (⟨0,s,⟨A1,c1,A2,c2⟩,Y,U,d⟩) ⟨hk0,ap _,hR0⟩ ?_;rintro⟨i,s,X,Y,U,d⟩ ⟨hk,him,hRi⟩;dsimp only at hk him hRi|-;have hrc:gy m from_ s=((decide (0<m)&& !s.halted)&&decide (IntKind.u64.wrap (s.count - from_)<m)):=rfl;refine Wq202 ?_;refine ZW ?_ ?_<;>intro hc5
 .have hc:gy m from_ s=true:=(by rw[hrc];revert hc5;cases decide (0<m)with|false=>(intro h;cases h)|true=>exact λh=>h);obtain⟨hk2,hilt⟩:=Hh hm Wq1 hk hc;obtain⟨k,hkk⟩:∃k,m.toNat - i=k+1:=⟨m.toNat - i - 1,by omega⟩;rw[hkk,Az hc]at hRi;obtain⟨hd16,hr16, -⟩:=St.fits hk.g.right;have hok:=hk.out;dsimp only at hok hd16 hr16;have HB:=TZ bu bb L D Y s X.Ad X.Ar X.cd X.cr U d hk.g Wq1;obtain⟨⟨s2,U2,d2⟩,hq⟩:=Zgn (dL L.n s U d);dsimp only at hRi hk2;rw[hq]at HB hRi hk2;refine Z_7 ?_;refine dy (ubF bu bb L D Y U d) (λw hi hin=>HB w hin (λw' hk=>hi.Xp Zi (Zhc (slD s X.Ad X.cd)) (Zhc (slR s X.Ar X.cr)) Wq1 Wq1 hk) (λw' hk=>ht w' (hi.Xv (λc hc=>by simp only[guF,ubF,uF,mO,az,aJ,aY]at hc|-;grind) hk))) ?_;rintro _ _ ⟨X2,Y2,rfl,rfl⟩;refine ZM ?_;refine Z_2 ?_;refine qMP ((⟨i+1,s2,X2,Y2,U2,d2⟩:Nat×St×ko×ov×Mmu×Dev)) ⟨⟨hk2,show i+1<=m.toNat by omega,by show m7 L.n m from_ (m.toNat - (i+1)) (s2,U2,d2)=_;rw[show m.toNat - (i+1)=k by omega];exact hRi⟩,show m.toNat - (i+1)<m.toNat - i by omega⟩
 have hc:gy m from_ s=false:=(by rw[hrc];revert hc5;cases decide (0<m)with|false=>exact λ_=>rfl|true=>exact λh=>h);rw[rO hc,bA,bA]at hRi;obtain⟨rfl,rfl,rfl⟩:=hRi;refine Z_8 ?_;refine iC ?_;exact bO (row b8 (s.cells (.slice X.Ad s.d.length X.cd) (.slice X.Ar s.r.length X.cr)) 53::guF bu bb L D s X Y U d) Zj (m8 (cs':=(guF bu bb L D s X Y U d)) (.inl rfl) Zu rfl rfl Zh Zrf Zrf ⟨X,Y,rfl,rfl⟩)
end
end Go.Ink
