/- Lemmas. -/
import Derived.Test.YtakodpimdalajaaGreatDoorPaa
import Derived.Test.YtakodpimdalajaaGreatDoorPab
import Derived.Test.YtakodpimdalajaaGreatDoorPah
import Derived.Test.YtakodpimdalajaaGreatDoorPaj
set_option linter.unusedSimpArgs false
set_option linter.unusedVariables false
set_option maxRecDepth 100000
set_option maxHeartbeats 4000000
namespace Go.Ink
open Go.RowKit
theorem tL{b:Nat}:∀{m k x:Nat},u7 b k m=some x→x<k+m
 |0,_,_,h=>by cases h
 |m+1,k,x,h=>by
  unfold u7 at h;cases hc:(b/2^k%2==1)with
  |true=>rw[hc,ac]at h;obtain rfl:=aD h;omega
  |false=>rw[hc,aa]at h;have:=tL h;omega
theorem low_lt{b x:Nat}(h:ou b=some x):x<8:=by have:=tL h;omega
structure Dev.lines(d:Dev):Prop where
 mask:0≤d.mask∧d.mask≤255
theorem Jf{p m:Int}(hm:0≤m∧m≤255):∃x:Nat,bits .and .u32 p m=(x:Int)∧x<256:=by
 unfold bits;simp only;rw[aE];have hmt:(BitVec.ofInt IntKind.u32.bits m).toNat≤255:=by
  rw[BitVec.toNat_ofInt];have:(m%((2^IntKind.u32.bits:Nat):Int))=m:=Int.emod_eq_of_lt hm.1 (by have:((2^IntKind.u32.bits:Nat):Int)=4294967296:=rfl;omega);rw[this];omega
 have h1:=Nat.and_le_right (n:=(BitVec.ofInt IntKind.u32.bits p).toNat) (m:=(BitVec.ofInt IntKind.u32.bits m).toNat);refine⟨(BitVec.ofInt IntKind.u32.bits p&&&BitVec.ofInt IntKind.u32.bits m).toNat%4294967296,?_,?_⟩
 ·simp
 rw[BitVec.toNat_and];omega
theorem uh{n:Nat}{s:St}{U:Mmu}{d:Dev}(h:(!s.right||s.halted)=true):dW n s U d=⟨s,0,false,U,d⟩:=by
 unfold dW;rw[h]
 rfl
theorem ui{n:Nat}{s s1:St}{U:Mmu}{d d1:Dev}(h:(!s.right||s.halted)=false)(hd:d.tick s.count=d1)(hs:told s d1=s1):dW n s U d=sx n s1 U d1:=by
 unfold dW;rw[h,hd,hs]
 rfl
theorem Gb{s:St}{d:Dev}{x k:Nat}(hx:bits .and .u32 d.JH d.mask=(x:Int))(ho:ou x=some k)(hie:s.ie=true):told s d=s.JA ((16+k:Nat):Int) 0:=by
 unfold told Hl;rw[hx,aO,ho];show(bif s.ie then _ else _)=_;rw[hie]
 rfl
theorem told_no{s:St}{d:Dev}{x:Nat}(hx:bits .and .u32 d.JH d.mask=(x:Int))(h:((ou x).isSome&&s.ie)=false):told s d=s:=by
 unfold told Hl;rw[hx,aO];cases ho:ou x with
 |none=>rfl
 |some k=>
  rw[ho]at h;show(bif s.ie then _ else _)=_;cases hie:s.ie with
  |true=>rw[hie]at h;cases h
  |false=>rfl
end Go.Ink
namespace Go.Proofs.YtakodpimdalajaaGreatDoor
open Go.RowKit Go.Ink Go.Proofs.Tryz
attribute [local irreducible] OpY bP
theorem AF(bu bb:Nat)(L:fa)(D:pL)(Y:lz)(s:St)(hwf:s.wf)(Ad Ar:Option Addr)(cd cr:Nat)(U:Mmu)(hT:U.t.length=16)(d:Dev)(hm:(d.tick s.count).lines)(w:World)(hi:Inv w (bK (ubF bu bb L D Y U d)) (ubF bu bb L D Y U d) w)
  (h:∀w',dC (bK (ubF bu bb L D Y U d)) w w'→lA w' s Ad Ar cd cr) (ht:∀w',dC (bK (ubF bu bb L D Y U d)) w w'→lx w'):
  Ctr prog 43 [sv s Ad cd Ar cr,.pointer (some ⟨bu,0,none⟩),.pointer (some ⟨D.bs,0,none⟩)] w (ubF bu bb L D Y U d)
   (fun v cs=>∃X,v= .agg (oP (dW L.n s U d) X).toArray∧cs=[slD (dW L.n s U d).s X.Ad X.cd,slR (dW L.n s U d).s X.Ar X.cr]++ubF bu bb L D Y (dW L.n s U d).u (dW L.n s U d).d):=by
 have HR:=mJ s Ad Ar cd cr;have HR2:=mJ s;cases hrh:(!s.right||s.halted)with
 |true=>
  rw[uh hrh];obtain⟨rt,hrt⟩:=Zgn (s.right);rw[hrt]at HR2 hrh;refine bL func43 rfl ntmps43 rfl hi ?_;refine Z_2 ?_;refine ZO fun b3=>?_;refine ZN fun b6=>?_
  refine Z_5 ?_;refine ZS (fun w hi=>iY s Ad Ar cd cr w (h w hi.JJ)) ?_;rintro _ _ ⟨_,⟨A1,c1,A2,c2,rfl,rfl⟩,rfl⟩;refine ZM ?_;refine Z_6 ?_;refine ZSe (fun w hi=>HR2 A1 A2 c1 c2 w) ?_;refine p6 ?_;refine bU rfl ((by rw[hrh];rfl)) ?_;refine Z_4 ?_;refine ZM ?_;refine Z_4 ?_;refine bN ([row b6 (oP ⟨s,0,false,U,d⟩ ⟨A1,c1,A2,c2⟩) 102,slD s A1 c1,slR s A2 c2]++ubF bu bb L D Y U d) Zj ?_;refine lP (cs':=([slD s A1 c1,slR s A2 c2]++ubF bu bb L D Y U d)) (.inl rfl) Zu rfl rfl Zh Zrf Zrf ?_;exact⟨⟨A1,c1,A2,c2⟩,rfl,rfl⟩
 |false=>
  simp only[bj,Bool.not_eq_false']at hrh;obtain⟨hr,hh⟩:=hrh;obtain⟨hd16,hr16,hf15⟩:=St.fits hr;obtain⟨d1,hd1⟩:=Zgn (d.tick s.count);obtain⟨s1,hs1⟩:=Zgn (told s d1);rw[ui (by rw[hr,hh];rfl) hd1 hs1];rw[hd1]at hm;obtain⟨x,hx,hx256⟩:=Jf (p:=d1.JH) hm.mask;have HN:=BT D.bi x d1.JH d1.mask hx hx256;have HK:=tick_ok D L.bm Y d s.count;rw[hd1]at HK;have hY:=fun k h1 h2=>Gb (s:=s) (d:=d1) (x:=x) (k:=k) hx h1 h2
  have hN:=told_no (s:=s) (d:=d1) (x:=x) hx;have hlt:=fun k (h:ou x=some k)=>low_lt h
  obtain⟨o,ho⟩:=Zgn (ou x);rw[ho]at HN hY hN hlt;have hw1:s1.wf∧s1.d.length≤16∧s1.r.length≤16:=by
   cases hc:(o.isSome&&s.ie)with
   |true=>
    cases o with
    |none=>cases hc
    |some k=>
     have hie:s.ie=true:=hc;rw[←hs1,hY k rfl hie];exact⟨⟨hwf.vec,hwf.flags,hwf.root,hwf.vec,hwf.pc,gz _,u0,hwf.count,hwf.d,hwf.r⟩,hd16,hr16⟩
   |false=>rw[←hs1,hN hc];exact⟨hwf,hd16,hr16⟩
  obtain⟨hwf1,hs16,hq16⟩:=hw1;refine bL func43 rfl ntmps43 rfl hi ?_;refine Z_2 ?_;refine ZO fun b3=>?_;refine ZN fun b6=>?_
  refine Z_5 ?_;refine ZS (fun w hi=>iY s Ad Ar cd cr w (h w hi.JJ)) ?_;rintro _ _ ⟨_,⟨A1,c1,A2,c2,rfl,rfl⟩,rfl⟩;refine ZM ?_;refine Z_6 ?_;refine ZSe (fun w hi=>HR2 A1 A2 c1 c2 w) ?_;refine p6 ?_;refine dw rfl ((by rw[hr,hh];rfl)) ?_;refine Z_7 ?_;refine ZcM (mV D L.bm Y d) (fun w hi hin=>HK w hin) ?_;refine Z_2 ?_;refine cW (fun X:jq=>[(1,.pointer (some ⟨bu,0,none⟩)),(3,.pointer (some ⟨b3,0,none⟩)),(6,.pointer (some ⟨b6,0,none⟩))]) (fun X=>[row b3 (s1.cells (.slice X.Ad s1.d.length X.cd) (.slice X.Ar s1.r.length X.cr)) 44,row b6 (oP ⟨St.zero,0,false,U,d⟩ ⟨none,0,none,0⟩) 102,slD s1 X.Ad X.cd,slR s1 X.Ar X.cr]++ubF bu bb L D Y U d1) (fun _=>True) ?_ ?_
  ·refine Z_6 ?_;refine ZSe (fun w hi=>HN w (hi.get Zh) (ht w hi.JJ)) ?_;refine p5 ?_;refine ZW ?_ ?_<;>intro hc6
   ·obtain⟨k,rfl⟩:∃k,o=some k:=(by cases o with|none=>cases hc6|some k=>exact⟨k,rfl⟩);have hk8:=hlt k rfl;obtain rfl:s1=s.JA ((16+k:Nat):Int) 0:=(by rw[←hs1];exact hY k rfl hc6);refine Z_3 ?_;refine Zy (cX (Zv rfl) (Zv rfl) (show _=((16+k:Nat):Int)from by rw[IntWalk.i64_in _ ⟨by show -9223372036854775808≤(16:Int)+((k:Nat):Int);omega,by show(16:Int)+((k:Nat):Int)≤9223372036854775807;omega⟩];show(16:Int)+((k:Nat):Int)=_;omega)) ?_;refine ZS (fun w hi=>oT s A1 A2 c1 c2 ((16+k:Nat):Int) 0 w (hi.Kp (show Has _ (slD s A1 c1)from Zh) (show Has _ (slR s A2 c2)from Zh) Wq1 Wq1)) ?_;rintro _ _ ⟨_,⟨A3,c3,A4,c4,rfl,rfl⟩,rfl⟩;refine ZM ?_;refine Zn ?_;refine bY ((⟨A3,c3,A4,c4⟩:jq)) ?_ ?_ ?_
    ·trivial
    ·exact Zwk
    exact Zj
   obtain rfl:s1=s:=(by rw[←hs1];exact hN hc6);refine Zc ?_;refine bY ((⟨A1,c1,A2,c2⟩:jq)) ?_ ?_ ?_
   ·trivial
   ·exact Zwk
   exact Zj
  rintro⟨A5,c5,A6,c6⟩ -;clear hY hN hs1;obtain⟨pc,dd,rr,fl,su,pg,ie,rt,ve,ep,ca,ad,es,ei,co,ha⟩:=s1;obtain⟨pcN,rfl⟩:∃m:Nat,pc=m:=aq hwf1.pc.1;obtain⟨rtN,rfl⟩:∃m:Nat,rt=m:=aq hwf1.root.1;have hpc2:=hwf1.pc.2;have hrt2:=hwf1.root.2;dsimp only at hpc2 hrt2 hs16 hq16;have HP:=nQ bu bb L U hT ⟨pg,su,rtN⟩ (show rtN≤4294967295 by omega) pcN Wq1 1;have hgo:sx L.n ⟨pcN,dd,rr,fl,su,pg,ie,rtN,ve,ep,ca,ad,es,ei,co,ha⟩ U d1=(bif(cM L.n U ⟨pg,su,rtN⟩ pcN 1).1.2.Jr !=0 then⟨St.JA (St.next ⟨pcN,dd,rr,fl,su,pg,ie,rtN,ve,ep,ca,ad,es,ei,co,ha⟩) (cM L.n U ⟨pg,su,rtN⟩ pcN 1).1.2.Jr (cM L.n U ⟨pg,su,rtN⟩ pcN 1).1.2.addr,0,false,(cM L.n U ⟨pg,su,rtN⟩ pcN 1).2,d1⟩else⟨⟨pcN,dd,rr,fl,su,pg,ie,rtN,ve,ep,ca,ad,es,ei,co,ha⟩,(cM L.n U ⟨pg,su,rtN⟩ pcN 1).1.1,true,(cM L.n U ⟨pg,su,rtN⟩ pcN 1).2,d1⟩):=rfl;obtain⟨⟨⟨pl,⟨tc,ta⟩⟩,U1⟩,hq⟩:=Zgn (cM L.n U ⟨pg,su,rtN⟩ pcN 1);rw[hq]at HP hgo;dsimp only at hgo;rw[hgo];refine gE ?_;refine ZcM (uF bu bb L U) (fun w hi hin=>HP w hin) ?_;refine Z_3 ?_;refine ZN fun b10=>?_
  refine ZA ?_;refine ZM ?_;refine dS ?_;refine ZW ?_ ?_<;>intro hc9
  ·rw[hc9,ac];refine Z_4 ?_;refine Zy (cX Zv0 Zv0 rfl) ?_;refine Z_1 ?_;refine ZL ?_;refine Z_9 ?_;refine ZS (fun w hi=>oT (St.next ⟨pcN,dd,rr,fl,su,pg,ie,rtN,ve,ep,ca,ad,es,ei,co,ha⟩) A5 A6 c5 c6 tc ta w (hi.Kp (show Has _ (sl .u32 22 A5 dd.length c5 dd)from Zh) (show Has _ (sl .u32 22 A6 rr.length c6 rr)from Zh) (show dd.length*4≤_ by omega) (show rr.length*4≤_ by omega))) ?_;rintro _ _ ⟨_,⟨A7,c7,A8,c8,rfl,rfl⟩,rfl⟩;refine ZA ?_;refine ZM ?_;refine Z_4 ?_;refine bN ([row b6 (oP ⟨St.JA (St.next ⟨pcN,dd,rr,fl,su,pg,ie,rtN,ve,ep,ca,ad,es,ei,co,ha⟩) tc ta,0,false,U1,d1⟩ ⟨A7,c7,A8,c8⟩) 102,sl .u32 22 A7 dd.length c7 dd,sl .u32 22 A8 rr.length c8 rr]++ubF bu bb L D Y U1 d1) Zj ?_;refine lP (cs':=([sl .u32 22 A7 dd.length c7 dd,sl .u32 22 A8 rr.length c8 rr]++ubF bu bb L D Y U1 d1)) (.inl rfl) Zu rfl rfl Zh Zrf Zrf ?_;exact⟨⟨A7,c7,A8,c8⟩,rfl,rfl⟩
  rw[hc9,aa];refine Z_7 ?_;refine ZM ?_;refine Z_3 ?_;refine bN ([row b6 (oP ⟨⟨pcN,dd,rr,fl,su,pg,ie,rtN,ve,ep,ca,ad,es,ei,co,ha⟩,pl,true,U1,d1⟩ ⟨A5,c5,A6,c6⟩) 102,sl .u32 22 A5 dd.length c5 dd,sl .u32 22 A6 rr.length c6 rr]++ubF bu bb L D Y U1 d1) Zj ?_;refine lP (cs':=([sl .u32 22 A5 dd.length c5 dd,sl .u32 22 A6 rr.length c6 rr]++ubF bu bb L D Y U1 d1)) (.inl rfl) Zu rfl rfl Zh Zrf Zrf ?_;exact⟨⟨A5,c5,A6,c6⟩,rfl,rfl⟩
end Go.Proofs.YtakodpimdalajaaGreatDoor
namespace Go.Ink
open Go.RowKit
section
variable {n:Nat} {op nn:Int} {s:St} {U:Mmu} {d:Dev} {M:Mem} {R:Run}
theorem sR(h:d.lines)(k:Int)(v:Nat):(cP n M d k v).2.2.lines:=by
 have hz:0≤bits .and .u32 (v:Int) 255∧bits .and .u32 (v:Int) 255≤255:=by
  obtain⟨x,hx,hlt⟩:=Jf (p:=(v:Int)) (m:=255) ⟨by decide,by decide⟩;omega
 unfold cP fI;refine bM (fun q:Bool×Mem×Dev=>q.2.2.lines) ⟨h.mask⟩ ?_;refine bM (fun q:Bool×Mem×Dev=>q.2.2.lines) ⟨hz⟩ ?_;refine bM (fun q:Bool×Mem×Dev=>q.2.2.lines) ⟨h.mask⟩ ?_;refine bM (fun q:Bool×Mem×Dev=>q.2.2.lines) ⟨h.mask⟩ ?_;refine bM (fun q:Bool×Mem×Dev=>q.2.2.lines) ⟨h.mask⟩ ?_;refine bM (fun q:Bool×Mem×Dev=>q.2.2.lines) ⟨h.mask⟩ ?_;refine bM (fun q:Bool×Mem×Dev=>q.2.2.lines) ⟨h.mask⟩ ?_
 repeat (refine bM (fun q:Bool×Mem×Dev=>q.2.2.lines) h ?_)
 exact h
theorem vt(h:d.lines)(k count:Int):(dq d k count).2.lines:=by
 unfold dq
 repeat (first|exact h|refine bM (fun q:(Int×Bool)×Dev=>q.2.lines) ?_ ?_|exact⟨h.mask⟩)
theorem BP(h:d.lines)(va:Nat):(ln n R U d va).d.lines:=by
 unfold ln;refine bM (fun m:iw=>m.d.lines) h ?_;exact bM (fun m:iw=>m.d.lines) (vt h _ _) h
theorem Bl(h:d.lines)(va v:Nat):(lm n R U d va v).d.lines:=by
 unfold lm;refine bM (fun m:iw=>m.d.lines) h ?_;exact bM (fun m:iw=>m.d.lines) (sR h _ _) h
theorem yj{m:iw}(h:m.d.lines):(dO n op nn m).d.lines:=by
 unfold dO;refine bM (fun m:iw=>m.d.lines) (BP h _) ?_;refine bM (fun m:iw=>m.d.lines) (Bl h _ _) ?_;refine bM (fun m:iw=>m.d.lines) h ?_;refine bM (fun m:iw=>m.d.lines) h ?_;refine bM (fun m:iw=>m.d.lines) h ?_;refine bM (fun m:iw=>m.d.lines) h ?_;refine bM (fun m:iw=>m.d.lines) h ?_;refine bM (fun m:iw=>m.d.lines) h ?_;refine bM (fun m:iw=>m.d.lines) h ?_;refine bM (fun m:iw=>m.d.lines) h ?_;refine bM (fun m:iw=>m.d.lines) h ?_;exact bM (fun m:iw=>m.d.lines) h h
theorem DU(h:d.lines):(ru n s op nn U d).d.lines:=by
 unfold ru;cases dF op nn (eN s op)with
 |some R=>exact h
 |none=>exact bM (fun m:iw=>m.d.lines) h (yj h)
theorem qz(h:d.lines):(vr n s op nn U d).2.2.lines:=by
 unfold vr;refine bM (fun q:Res×Mmu×Dev=>q.2.2.lines) h ?_;exact bM (fun q:Res×Mmu×Dev=>q.2.2.lines) h (DU h)
theorem oU(h:d.lines)(c:Int):(d.tick c).lines:=by
 unfold Dev.tick;exact bM Dev.lines h ⟨h.mask⟩
theorem Gf(h:d.ok)(c:Int):(d.tick c).ok∧(d.tick c).out=d.out:=by
 unfold Dev.tick;exact bM (fun q:Dev=>q.ok∧q.out=d.out) ⟨h,rfl⟩ ⟨⟨h.wf.re rfl rfl rfl rfl,gZ .or d.JH 1,h.mask,u0,h.status⟩,rfl⟩
theorem mq{b:List Int}(hb:u8s b){op nn:Int}{z:Nat}(h:dR b=some ((op,nn),z)):u32 nn∧1≤z∧z≤5∧z≤b.length:=by
 cases b with
 |nil=>cases h
 |cons o l=>
  have hc:cy o=0∨cy o=1∨cy o=2∨cy o=5:=jc o;unfold dR at h;cases h1:(cy o==0)with
  |true=>simp only[h1,ac]at h;cases h
  |false=>
   simp only[h1,aa]at h;cases h2:decide ((l.length:Int)+1<cy o)with
   |true=>simp only[h2,ac]at h;cases h
   |false=>
    simp only[h2,aa,aR,aW]at h;obtain⟨⟨rfl,rfl⟩,rfl⟩:=h;have h1:=ne_of_beq_false h1;simp only[ah]at h2;obtain⟨r1,r2⟩:=vc (l:=l.take ((cy o).toNat - 1)) (fun x hx=>hb x (bC _ (List.mem_of_mem_take hx)));have hl:(l.take ((cy o).toNat - 1)).length≤4:=by rw[aC];omega
    have hp:(256^(l.take ((cy o).toNat - 1)).length:Nat)≤256^4:=Nat.pow_le_pow_right Wq5 hl;have e4:(256^4:Nat)=4294967296:=by decide
    refine⟨⟨r1,by omega⟩,by omega,by omega,?_⟩;rw[aj];omega
theorem lc(hM:M.ok n){p:Nat}{op nn:Int}{z:Nat}(h:fg n M p=some ((op,nn),z)):u32 nn∧1≤z∧z≤5∧p/64<n∧p%64+z≤64:=by
 unfold fg at h;cases h1:decide (p/64<n)with
 |false=>rw[h1]at h;cases h
 |true=>
  rw[h1,ac]at h;obtain⟨a,b,c,e⟩:=mq (fun x hx=>hM.db x (List.mem_of_mem_drop (List.mem_of_mem_take (List.mem_of_mem_drop hx)))) h;refine⟨a,b,c,by simpa using h1,?_⟩;rw[bn,aC]at e;omega
end
structure GOk(n:Nat)(s:St)(U:Mmu)(d:Dev):Prop where
 wf:s.wf
 right:s.right=true
 u:UOk n U
 dv:d.ok
 lines:d.lines
theorem mC(a b c:Int):IntKind.u64.wrap (IntKind.u64.wrap (a+b)+c)=IntKind.u64.wrap (a+(b+c)):=by
 rw[aU,aU,aU];omega
section
variable {n:Nat} {s:St} {U:Mmu} {d:Dev}
theorem DQ(h:s.wf):s.next.wf:=⟨h.pc,h.flags,h.root,h.vec,h.epc,h.Jr,h.addr,by show 0≤IntKind.u64.wrap _∧IntKind.u64.wrap _≤_;rw[aU];omega,h.d,h.r⟩
theorem zb(h:s.wf)(c:Int){a:Int}(ha:u32 a):(s.JA c a).wf:=⟨h.vec,h.flags,h.root,h.vec,h.pc,gz _,ha,h.count,h.d,h.r⟩
theorem CZ(h:s.wf)(hr:s.right=true):(told s d).wf∧(told s d).right=true∧(told s d).count=s.count∧(told s d).halted=s.halted:=by
 unfold told;cases Hl d with
 |none=>exact⟨h,hr,rfl,rfl⟩
 |some k=>
  show(bif s.ie then s.JA _ _ else s).wf∧(bif s.ie then s.JA _ _ else s).right=true∧(bif s.ie then s.JA _ _ else s).count=s.count∧(bif s.ie then s.JA _ _ else s).halted=s.halted;cases s.ie with
  |true=>exact⟨zb h _ u0,hr,rfl,rfl⟩
  |false=>exact⟨h,hr,rfl,rfl⟩
structure BegOk(n:Nat)(s:St)(d:Dev)(b:IF):Prop where
 g:GOk n b.s b.u b.d
 place:u32 b.place
 out:b.d.out=d.out
 runs:b.runs=true→b.s.count=s.count∧b.s.halted=s.halted∧s.halted=false
 stays:b.runs=false→s.halted=false→b.s.count=IntKind.u64.wrap (s.count+1)∧b.s.halted=false
 held:s.halted=true→b=⟨s,0,false,b.u,b.d⟩
theorem mW(h:GOk n s U d):BegOk n s d (dW n s U d):=by
 obtain⟨t1,t2⟩:=Gf h.dv s.count;have t3:=oU h.lines s.count;obtain⟨w1,w2,w3,w4⟩:=CZ (s:=s) (d:=d.tick s.count) h.wf h.right;cases hh:s.halted with
 |true=>
  rw[uh (by rw[hh,Bool.or_true])];exact⟨h,u0,rfl,fun e=>(by cases e),fun _ e=>(by rw[hh]at e;cases e),fun _=>rfl⟩
 |false=>
  rw[ui (by rw[h.right,hh];rfl) rfl rfl];rw[hh]at w4;obtain⟨s1,hs1⟩:=Zgn (told s (d.tick s.count));rw[hs1]at w1 w2 w3 w4⊢;unfold sx;have hpc:s1.pc.toNat≤4294967295:=by have:=w1.pc;unfold u32 at this;omega
  have p1:=kZ h.u s1.space s1.pc.toNat 1;obtain⟨p2, -⟩:=jb n U s1.space s1.pc.toNat hpc 1;have p3:=mL n U s1.space s1.pc.toNat hpc 1;obtain⟨⟨⟨pl,⟨tc,ta⟩⟩,U1⟩,hq⟩:=Zgn (cM n U s1.space s1.pc.toNat 1);rw[hq]at p1 p2 p3⊢;dsimp only at p1 p2 p3⊢;cases htc:(tc !=0)with
  |true=>
   rw[ac];exact⟨⟨zb (DQ w1) _ p3.1,w2,p1,t1,t3⟩,u0,t2,fun e=>(by cases e),fun _ _=>⟨by show IntKind.u64.wrap (s1.count+1)=_;rw[w3],w4⟩,fun e=>(by rw[hh]at e;cases e)⟩
  |false=>
   rw[aa];exact⟨⟨w1,w2,p1,t1,t3⟩,p2,t2,fun _=>⟨w3,w4.trans hh.symm,hh⟩,fun e=>(by cases e),fun e=>(by rw[hh]at e;cases e)⟩
structure FJ(n k:Nat)(s:St)(d:Dev)(q:St×Mmu×Dev):Prop where
 g:GOk n q.1 q.2.1 q.2.2
 out:q.2.2.out.length≤d.out.length+k
 count:∃j:Nat,j≤k∧(1≤k→1≤j)∧q.1.count=IntKind.u64.wrap (s.count+(j:Int))
theorem we(JD:Nat):∀(k:Nat) {s:St} (p:Nat) {U:Mmu} {d:Dev},GOk n s U d→FJ n k s d (eO n JD k s p U d)
 |0,s,p,U,d,h=>⟨h,aN _,0,aN _,fun e=>Wq1,by
   show s.count=IntKind.u64.wrap (s.count+0);have:=h.wf.count;rw[aU];omega⟩
 |k+1,s,p,U,d,h=>by
  unfold eO;cases hf:fg n U.m p with
  |none=>exact⟨⟨zb (DQ h.wf) _ u0,h.right,h.u,h.dv,h.lines⟩,by show d.out.length≤_;omega,1,by omega,fun _=>aN _,rfl⟩
  |some o=>
   obtain⟨⟨op,nn⟩,z⟩:=o;obtain⟨f1, -⟩:=lc h.u.m hf;have hg:=sc (op:=op) (nn:=nn) h.wf h.right f1 h.u h.dv;have hl:=qz (n:=n) (op:=op) (nn:=nn) (s:=s) (U:=U) h.lines;obtain⟨⟨q,U1,d1⟩,hq⟩:=Zgn (vr n s op nn U d);rw[hq]at hg hl;obtain⟨g1,g2,g3,g4,g5,g6⟩:=hg;dsimp only at g1 g2 g3 g4 g5 g6 hl⊢;rw[hq];dsimp only;cases kD op q JD s.pc with
   |false=>exact⟨⟨g1,g2,g4,g5,hl⟩,by show d1.out.length≤_;omega,1,by omega,fun _=>aN _,g3⟩
   |true=>
    obtain⟨r1,r2,j,r3,r4,r5⟩:=we JD k ((p+z)%4294967296) (s:=q.s) (U:=U1) (d:=d1) ⟨g1,g2,g4,g5,hl⟩;refine⟨r1,by show _≤_;exact aV r2 Wq1,j+1,by omega,fun _=>by omega,?_⟩;show(eO n JD k q.s ((p+z)%4294967296) U1 d1).1.count=_;rw[r5,g3,mC,show(1:Int)+(j:Int)=((j+1:Nat):Int) by omega]
theorem pF(h:GOk n s U d):FJ n 8 s d (dQ n s U d)∨(s.halted=true∧(dQ n s U d).1=s∧GOk n (dQ n s U d).1 (dQ n s U d).2.1 (dQ n s U d).2.2∧(dQ n s U d).2.2.out=d.out):=by
 have hb:=mW h;unfold dQ;obtain⟨b,hbe⟩:=Zgn (dW n s U d);rw[hbe]at hb⊢;dsimp only;cases hr:b.runs with
 |true=>
  obtain⟨c1,c2,c3⟩:=hb.runs hr;have hq:=we (b.place.toNat/64) 8 b.place.toNat hb.g;left;refine⟨hq.g,by have:=hq.out;rw[hb.out]at this;exact this,?_⟩;obtain⟨j,j1,j2,j3⟩:=hq.count;exact⟨j,j1,j2,by rw[←c1];exact j3⟩
 |false=>
  cases hh:s.halted with
  |false=>
   obtain⟨c1,c2⟩:=hb.stays hr hh;left;exact⟨hb.g,by show b.d.out.length≤_;rw[hb.out];omega,1,by omega,fun _=>aN _,c1⟩
  |true=>
   right;have e:=hb.held hh;exact⟨rfl,by show b.s=s;rw[e],hb.g,hb.out⟩
theorem Cj(h:GOk n s U d)(hh:s.halted=false):FJ n 8 s d (dQ n s U d):=by
 rcases pF h with h1|⟨h1, -⟩
 ·exact h1
 rw[hh]at h1;cases h1
end
theorem x8{n JD k:Nat}{s:St}{p:Nat}{U:Mmu}{d:Dev}(h:fg n U.m p=none):eO n JD (k+1) s p U d=(s.next.JA 1 0,U,d):=by
 unfold eO;rw[h]
theorem x7{n JD k:Nat}{s:St}{p:Nat}{U U1:Mmu}{d d1:Dev}{op nn:Int}{z:Nat}{q:Res}(h:fg n U.m p=some ((op,nn),z))(hq:vr n s op nn U d=(q,U1,d1)):
  eO n JD (k+1) s p U d=bif kD op q JD s.pc then eO n JD k q.s ((p+z)%4294967296) U1 d1 else(q.s,U1,d1):=by
 rw[eO,h];simp only[hq]
end Go.Ink
namespace Go.Proofs.YtakodpimdalajaaGreatDoor
open Go.RowKit Go.Ink Go.Proofs.Tryz
attribute [local irreducible] OpY bP
abbrev guF(bu bb:Nat)(L:fa)(D:pL)(s:St)(X:jq)(Y:lz)(U:Mmu)(d:Dev):List bJ:=slD s X.Ad X.cd::slR s X.Ar X.cr::ubF bu bb L D Y U d
theorem rest_ok(bu bb:Nat)(L:fa)(D:pL)(Y:lz)(s:St)(X:jq)(p:Nat)(hp:p≤4294967295)(JF:Nat)(hmost:JF≤1000)(U:Mmu)(d:Dev)(hG:GOk L.n s U d)(ho:d.out.length+JF≤1000000000)(w:World)(hi:Inv w (bK (guF bu bb L D s X Y U d)) (guF bu bb L D s X Y U d) w):
  Ctr prog 154 [sv s X.Ad X.cd X.Ar X.cr,.int .u32 (p:Int),.int .i64 (JF:Int),.pointer (some ⟨bu,0,none⟩),.pointer (some ⟨D.bs,0,none⟩)] w (guF bu bb L D s X Y U d)
   (fun v cs=>∃X' Y',v=sv (eO L.n (p/64) JF s p U d).1 X'.Ad X'.cd X'.Ar X'.cr∧cs=guF bu bb L D (eO L.n (p/64) JF s p U d).1 X' Y' (eO L.n (p/64) JF s p U d).2.1 (eO L.n (p/64) JF s p U d).2.2):=by
 obtain⟨pg,hpg⟩:=Zgn (p/64);have hpq:IntKind.u32.wrap ((p:Int).tdiv 64)=(pg:Int):=by rw[bz Wq1,u32_wrap_id _ Wq1 Wq1];omega
 have hpgl:pg≤4294967295:=by omega
 rw[hpg];clear hpg;obtain⟨⟨s9,U9,d9⟩,hR⟩:=Zgn (eO L.n pg JF s p U d);rw[hR];have ho0:d.out.length≤d.out.length+0:=aN _;obtain⟨o0,hoo⟩:=Zgn (d.out.length);rw[hoo]at ho;refine bL func154 rfl ntmps154 rfl hi ?_;refine Z_2 ?_;refine ZO fun b5=>?_;refine ZN fun b10=>?_
 refine Z_5 ?_;refine Zy (jD (Zv rfl) (Zv rfl) Wq1 hpq) ?_;refine Zy (bW rfl rfl Zv0 Zl) ?_;refine Z_6 ?_;refine jF (row b5 (s.cells (.slice X.Ad s.d.length X.cd) (.slice X.Ar s.r.length X.cr)) 44::row b10 (St.zero.cells (.slice none 0 0) (.slice none 0 0)) 44::guF bu bb L D s X Y U d) Zj ?_;refine Z_5 ?_;refine cw (fun q:Nat×St×jq×Nat×lz×Mmu×Dev=>[(1,.int .u32 (q.2.2.2.1:Int)),(3,.pointer (some ⟨bu,0,none⟩)),(4,.pointer (some ⟨D.bs,0,none⟩)),(5,.pointer (some ⟨b5,0,none⟩)),(10,.pointer (some ⟨b10,0,none⟩)),(11,.int .i64 (pg:Int)),(20,.int .i64 (JF:Int)),(21,.int .i64 (q.1:Int))]) (fun q=>row b5 (q.2.1.cells (.slice q.2.2.1.Ad q.2.1.d.length q.2.2.1.cd) (.slice q.2.2.1.Ar q.2.1.r.length q.2.2.1.cr)) 44::row b10 (St.zero.cells (.slice none 0 0) (.slice none 0 0)) 44::guF bu bb L D q.2.1 q.2.2.1 q.2.2.2.2.1 q.2.2.2.2.2.1 q.2.2.2.2.2.2) (fun q=>q.1≤JF∧q.2.2.2.1≤4294967295∧GOk L.n q.2.1 q.2.2.2.2.2.1 q.2.2.2.2.2.2∧q.2.2.2.2.2.2.out.length≤o0+q.1∧eO L.n pg (JF - q.1) q.2.1 q.2.2.2.1 q.2.2.2.2.2.1 q.2.2.2.2.2.2=(s9,U9,d9)) (fun q=>JF - q.1) (⟨0,s,X,p,Y,U,d⟩) ?_ ?_ ?_ ?_
 ·exact⟨au _,hp,hG,by show d.out.length≤o0+0;omega,hR⟩
 ·exact Zwk
 ·exact Zu
 rintro⟨j,s,X,p,Y,U,d⟩ ⟨hj,hp,hG,ho1,hRj⟩;dsimp only at hj hp hG ho1 hRj⊢;refine Z_6 ?_;refine ZW ?_ ?_<;>intro hc3
 ·simp only[ak]at hc3;obtain⟨k,hk⟩:∃k,JF - j=k+1:=⟨JF - j - 1,by omega⟩;rw[hk]at hRj;have HF:=z5 bu bb L U.m p hp;have hrn:=fun(op nn:Int) (z:Nat) h=>lc (n:=L.n) (M:=U.m) (p:=p) (op:=op) (nn:=nn) (z:=z) hG.u.m h
  have hN:=x8 (n:=L.n) (JD:=pg) (k:=k) (s:=s) (p:=p) (U:=U) (d:=d);have hS:=fun(op nn:Int) (z:Nat) (q:Res) (U1:Mmu) (d1:Dev) h hq=>x7 (n:=L.n) (JD:=pg) (k:=k) (s:=s) (p:=p) (U:=U) (d:=d) (op:=op) (nn:=nn) (z:=z) (q:=q) (U1:=U1) (d1:=d1) h hq
  obtain⟨o,hfo⟩:=Zgn (fg L.n U.m p);rw[hfo]at HF hN hS;rw[hfo]at hrn;obtain⟨hd16,hr16, -⟩:=St.fits hG.right;refine Z_8 ?_;refine ZSe (fun w hi=>HF w (hi.get (show Has _ (FS bu L.bm bb)from Zh)) (hi.get (show Has _ (ek L U.m)from Zh))) ?_;refine Z_4 ?_;refine ZN fun b12=>?_
  refine ZM ?_;refine fF ?_;refine ZW ?_ ?_<;>intro hc5
  ·obtain rfl:o=none:=(by cases o with|none=>rfl|some o=>cases hc5);rw[hN rfl,aW,aW]at hRj;obtain⟨rfl,rfl,rfl⟩:=hRj;refine Z_4 ?_;refine Zy (cX Zv0 Zv0 rfl) ?_;refine Z_1 ?_;refine ZL ?_;refine Z_5 ?_;refine ZS (fun w hi=>oT s.next X.Ad X.Ar X.cd X.cr 1 0 w (hi.Kp (show Has _ (slD s X.Ad X.cd)from Zh) (show Has _ (slR s X.Ar X.cr)from Zh) (show s.d.length*4≤_ by omega) (show s.r.length*4≤_ by omega))) ?_;rintro _ _ ⟨_,⟨A3,c3,A4,c4,rfl,rfl⟩,rfl⟩;refine ZM ?_;refine Z_9 ?_;refine bN (row b10 ((s.next.JA 1 0).cells (.slice A3 s.d.length c3) (.slice A4 s.r.length c4)) 44::guF bu bb L D (s.next.JA 1 0) ⟨A3,c3,A4,c4⟩ Y U d) Zj ?_;refine lP (cs':=(guF bu bb L D (s.next.JA 1 0) ⟨A3,c3,A4,c4⟩ Y U d)) (.inl rfl) Zu rfl rfl Zh Zrf Zrf ?_;exact⟨⟨A3,c3,A4,c4⟩,Y,rfl,rfl⟩
  obtain⟨⟨⟨op,nn⟩,z⟩,rfl⟩:∃q,o=some q:=(by cases o with|none=>cases hc5|some o=>exact⟨o,rfl⟩);obtain⟨hnn,hz1,hz5, -⟩:=hrn op nn z rfl;have HD:=do_ok bu bb L D Y s X.Ad X.Ar X.cd X.cr op nn U d hG.wf hnn hG.u.t hG.dv.wf Wq1;have hg:=sc (op:=op) (nn:=nn) hG.wf hG.right hnn hG.u hG.dv;have hl:=qz (n:=L.n) (op:=op) (nn:=nn) (s:=s) (U:=U) hG.lines;obtain⟨⟨q,U1,d1⟩,hq⟩:=Zgn (vr L.n s op nn U d);rw[hS op nn z q U1 d1 rfl hq]at hRj;rw[hq]at HD hg hl;obtain⟨g1,g2,g3,g4,g5,g6⟩:=hg;dsimp only at g1 g2 g3 g4 g5 g6 hl;have HX:=fun X1 Ap cp w h=>DP op nn q X1 Ap cp pg s.pc g1.pc hG.wf.pc w h
  obtain⟨nx,hnx⟩:=Zgn (kD op q pg s.pc);rw[hnx]at HX hRj;refine Z_8 ?_;refine ZcL (ubF bu bb L D Y U d) (fun w hi hin=>HD w hin (fun w' hk=>hi.Kc Zi (show Has _ (slD s X.Ad X.cd)from Zh) (show Has _ (slR s X.Ar X.cr)from Zh) Wq1 Wq1 hk)) ?_;rintro _ _ ⟨_,⟨X1,Y1,Ap,cp,rfl,rfl⟩,rfl⟩;refine ZN fun b15=>?_
  refine ZM ?_;refine gE ?_;refine dL (cn (vs:=q.s.cells (.slice X1.Ad q.s.d.length X1.cd) (.slice X1.Ar q.s.r.length X1.cr)) Zrf Zrf Zv0) (cI Zh rfl) rfl ?_;refine ZM ?_;refine Z_6 ?_;refine Zy (bW rfl rfl (Zv rfl) (u32_wrap_id _ (by show 0≤(z:Int);omega) (by show(z:Int)<4294967296;omega))) ?_;refine Zy (cX (Zv rfl) (Zv rfl) (show _=(((p+z)%4294967296:Nat):Int)from by show IntKind.u32.wrap ((p:Int)+(z:Int))=_;rw[aE];omega)) ?_;refine Z_9 ?_;refine ZSe (fun w hi=>HX X1 Ap cp w (hi.rd (show Has _ (sl .i64 3 Ap q.Jl.length cp q.Jl)from Zh))) ?_;refine Z_3 ?_;refine ZW ?_ ?_<;>intro hc12
  ·obtain rfl:nx=false:=(by cases nx with|false=>rfl|true=>cases hc12);rw[aa,aW,aW]at hRj;obtain⟨rfl,rfl,rfl⟩:=hRj;refine Z_9 ?_;refine ZM ?_;refine Z_3 ?_;refine bN (row b10 (q.s.cells (.slice X1.Ad q.s.d.length X1.cd) (.slice X1.Ar q.s.r.length X1.cr)) 44::guF bu bb L D q.s X1 Y1 U1 d1) Zj ?_;refine lP (cs':=(guF bu bb L D q.s X1 Y1 U1 d1)) (.inl rfl) Zu rfl rfl Zh Zrf Zrf ?_;exact⟨X1,Y1,rfl,rfl⟩
  obtain rfl:nx=true:=(by cases nx with|true=>rfl|false=>cases hc12);rw[ac]at hRj;refine Z_4 ?_;refine Wq8 ?_;refine bY ((⟨j+1,q.s,X1,(p+z)%4294967296,Y1,U1,d1⟩:Nat×St×jq×Nat×lz×Mmu×Dev)) ?_ ?_ ?_
  ·exact⟨⟨show j+1≤JF by omega,by show(p+z)%4294967296≤4294967295;omega,⟨g1,g2,g4,g5,hl⟩,by show d1.out.length≤o0+(j+1);omega,by show eO L.n pg (JF - (j+1)) q.s _ U1 d1=_;rw[show JF - (j+1)=k by omega];exact hRj⟩,show JF - (j+1)<JF - j by omega⟩
  ·exact Zwk
  exact Zj
 simp only[ah]at hc3;rw[show JF - j=0 by omega]at hRj;simp only[eO,aW]at hRj;obtain⟨rfl,rfl,rfl⟩:=hRj;refine Z_8 ?_;refine ZM ?_;refine Z_3 ?_;refine bN (row b10 (s.cells (.slice X.Ad s.d.length X.cd) (.slice X.Ar s.r.length X.cr)) 44::guF bu bb L D s X Y U d) Zj ?_;refine lP (cs':=(guF bu bb L D s X Y U d)) (.inl rfl) Zu rfl rfl Zh Zrf Zrf ?_;exact⟨X,Y,rfl,rfl⟩
end Go.Proofs.YtakodpimdalajaaGreatDoor
namespace Go.Ink
open Go.RowKit
theorem Ck{n:Nat}{s s1:St}{U U1:Mmu}{d d1:Dev}{pl:Int}(h:dW n s U d=⟨s1,pl,false,U1,d1⟩):dQ n s U d=(s1,U1,d1):=by
 unfold dQ;rw[h]
 rfl
theorem yQ{n:Nat}{s s1:St}{U U1:Mmu}{d d1:Dev}{pl:Nat}(h:dW n s U d=⟨s1,(pl:Int),true,U1,d1⟩):dQ n s U d=eO n (pl/64) 8 s1 pl U1 d1:=by
 unfold dQ;rw[h]
 rfl
def eT(m from_:Int)(s:St):Bool:=decide (0<m)&& !s.halted&&decide (IntKind.u64.wrap (s.count - from_)<m)
def ib(n:Nat)(m:Int)(s:St)(U:Mmu)(d:Dev):St×Mmu×Dev:=lr n m s.count m.toNat (s,U,d)
theorem kB{n k:Nat}{m from_:Int}{q:St×Mmu×Dev}(h:eT m from_ q.1=false):lr n m from_ k q=q:=by
 cases k with
 |zero=>rfl
 |succ k=>
  show(bif eT m from_ q.1 then _ else q)=q;rw[h]
  rfl
theorem qo{n k:Nat}{m from_:Int}{q:St×Mmu×Dev}(h:eT m from_ q.1=true):lr n m from_ (k+1) q=lr n m from_ k (dQ n q.1 q.2.1 q.2.2):=by
 show(bif eT m from_ q.1 then _ else q)=_;rw[h]
 rfl
structure sU(n:Nat)(m from_:Int)(o0 i:Nat)(q:St×Mmu×Dev):Prop where
 g:GOk n q.1 q.2.1 q.2.2
 out:q.2.2.out.length≤o0+8*i
 cnt:∃c:Nat,IntKind.u64.wrap (q.1.count - from_)=(c:Int)∧i≤c∧c≤8*i∧(c:Int)<(bif decide (0<m)then m else 0)+8
theorem qn{n:Nat}{m from_:Int}(hm:m≤1000000){o0 i:Nat}(hi:i≤1000000){q:St×Mmu×Dev}(h:sU n m from_ o0 i q)(hc:eT m from_ q.1=true):sU n m from_ o0 (i+1) (dQ n q.1 q.2.1 q.2.2)∧(i:Int)<m:=by
 obtain⟨h1,h2,c,h3,h4,h5,h6⟩:=h;simp only[eT,aB,ak,Bool.not_eq_true']at hc;obtain⟨⟨hm0,hh⟩,hlt⟩:=hc;rw[ay hm0,ac]at h6;obtain⟨b1,b2,j,b3,b4,b5⟩:=Cj h1 hh;refine⟨⟨b1,by omega,c+j,?_,by omega,by omega,?_⟩,by omega⟩
 ·rw[b5];rw[aU]at h3⊢;rw[aU];omega
 rw[ay hm0,ac];omega
end Go.Ink
namespace Go.Proofs.YtakodpimdalajaaGreatDoor
open Go.RowKit Go.Ink Go.Proofs.Tryz
attribute [local irreducible] OpY bP
theorem Iy(bu bb:Nat)(L:fa)(D:pL)(Y:lz)(s:St)(Ad Ar:Option Addr)(cd cr:Nat)(U:Mmu)(d:Dev)(hG:GOk L.n s U d)(ho:d.out.length+8≤1000000000)(w:World)(hi:Inv w (bK (ubF bu bb L D Y U d)) (ubF bu bb L D Y U d) w)
  (h:∀w',dC (bK (ubF bu bb L D Y U d)) w w'→lA w' s Ad Ar cd cr) (ht:∀w',dC (bK (ubF bu bb L D Y U d)) w w'→lx w'):
  Ctr prog 109 [sv s Ad cd Ar cr,.pointer (some ⟨bu,0,none⟩),.pointer (some ⟨D.bs,0,none⟩)] w (ubF bu bb L D Y U d)
   (fun v cs=>∃X' Y',v=sv (dQ L.n s U d).1 X'.Ad X'.cd X'.Ar X'.cr∧cs=guF bu bb L D (dQ L.n s U d).1 X' Y' (dQ L.n s U d).2.1 (dQ L.n s U d).2.2):=by
 have HB:=AF bu bb L D Y s hG.wf Ad Ar cd cr U hG.u.t d (oU hG.lines _);have hb:=mW hG;have hN:=fun s1 U1 d1 pl h=>Ck (n:=L.n) (s:=s) (s1:=s1) (U:=U) (U1:=U1) (d:=d) (d1:=d1) (pl:=pl) h
 have hY:=fun s1 U1 d1 pl h=>yQ (n:=L.n) (s:=s) (s1:=s1) (U:=U) (U1:=U1) (d:=d) (d1:=d1) (pl:=pl) h
 obtain⟨⟨s1,pl,rn,U1,d1⟩,hbe⟩:=Zgn (dW L.n s U d);rw[hbe]at HB hb hN hY;obtain⟨hg1,hpl,hout, -, -, -⟩:=hb;dsimp only at hg1 hpl hout;obtain⟨pl,rfl⟩:∃m:Nat,pl=m:=aq hpl.1;have hpl2:=hpl.2;have HR:=fun X w hi=>rest_ok bu bb L D Y s1 X pl Wq1 8 Wq5 U1 d1 hg1 (by rw[hout];exact ho) w hi
 obtain⟨⟨s9,U9,d9⟩,hR⟩:=Zgn (dQ L.n s U d);rw[hR]at hN hY⊢;refine bL func109 rfl ntmps109 rfl hi ?_;refine Z_2 ?_;refine ZO fun b3=>?_;refine ZN fun b6=>?_
 refine Z_7 ?_;refine ZcL (ubF bu bb L D Y U d) (fun w hi hin=>HB w hin (fun w' hk=>h w' (hi.past (fun c hc=>by simp only[ubF,uF,mV,aS,aK,aY]at hc⊢;grind) hk)) (fun w' hk=>ht w' (hi.past (fun c hc=>by simp only[ubF,uF,mV,aS,aK,aY]at hc⊢;grind) hk))) ?_;rintro _ _ ⟨_,⟨X1,rfl,rfl⟩,rfl⟩;refine ZN fun b7=>?_
 refine ZM ?_;refine dS ?_;refine ZW ?_ ?_<;>intro hc2
 ·obtain rfl:rn=false:=(by cases rn with|false=>rfl|true=>cases hc2);have e:=hN s1 U1 d1 pl rfl;rw[aW,aW]at e;obtain⟨rfl,rfl,rfl⟩:=e;refine Z_3 ?_;refine dL (cn (vs:=s9.cells (.slice X1.Ad s9.d.length X1.cd) (.slice X1.Ar s9.r.length X1.cr)) Zrf Zrf Zv0) (cI Zh rfl) rfl ?_;refine ZM ?_;refine Z_4 ?_;refine bN (row b6 (s9.cells (.slice X1.Ad s9.d.length X1.cd) (.slice X1.Ar s9.r.length X1.cr)) 44::guF bu bb L D s9 X1 Y U9 d9) Zj ?_;refine lP (cs':=(guF bu bb L D s9 X1 Y U9 d9)) (.inl rfl) Zu rfl rfl Zh Zrf Zrf ?_;exact⟨X1,Y,rfl,rfl⟩
 obtain rfl:rn=true:=(by cases rn with|true=>rfl|false=>cases hc2);have e:=hY s1 U1 d1 pl rfl;rw[←e]at HR;refine Z_5 ?_;refine dL (cn (vs:=s1.cells (.slice X1.Ad s1.d.length X1.cd) (.slice X1.Ar s1.r.length X1.cr)) Zrf Zrf Zv0) (cI Zh rfl) rfl ?_;refine Z_4 ?_;refine ZcL (guF bu bb L D s1 X1 Y U1 d1) (fun w hi hin=>HR X1 w hin) ?_;rintro _ _ ⟨_,⟨X2,Y2,rfl,rfl⟩,rfl⟩;refine ZM ?_;refine Z_3 ?_;refine bN (row b6 (s9.cells (.slice X2.Ad s9.d.length X2.cd) (.slice X2.Ar s9.r.length X2.cr)) 44::guF bu bb L D s9 X2 Y2 U9 d9) Zj ?_;refine lP (cs':=(guF bu bb L D s9 X2 Y2 U9 d9)) (.inl rfl) Zu rfl rfl Zh Zrf Zrf ?_;exact⟨X2,Y2,rfl,rfl⟩
theorem run_ok(bu bb:Nat)(L:fa)(D:pL)(Y:lz)(s:St)(Ad Ar:Option Addr)(cd cr:Nat)(U:Mmu)(d:Dev)(hG:GOk L.n s U d)(m:Int)(hm0: -1000000≤m)(hm:m≤1000000)(ho:d.out.length+8*m.toNat+8≤1000000000)(w:World)(hi:Inv w (bK (ubF bu bb L D Y U d)) (ubF bu bb L D Y U d) w)
  (h:∀w',dC (bK (ubF bu bb L D Y U d)) w w'→lA w' s Ad Ar cd cr) (ht:∀w',dC (bK (ubF bu bb L D Y U d)) w w'→lx w'):
  Ctr prog 60 [sv s Ad cd Ar cr,.pointer (some ⟨bu,0,none⟩),.pointer (some ⟨D.bs,0,none⟩),.int .i64 m] w (ubF bu bb L D Y U d)
   (fun v cs=>∃X' Y',v=sv (ib L.n m s U d).1 X'.Ad X'.cd X'.Ar X'.cr∧cs=guF bu bb L D (ib L.n m s U d).1 X' Y' (ib L.n m s U d).2.1 (ib L.n m s U d).2.2):=by
 have HR2:=mJ s;rw[hG.right]at HR2;obtain⟨hd16,hr16, -⟩:=St.fits hG.right;obtain⟨⟨s9,U9,d9⟩,hR⟩:=Zgn (ib L.n m s U d);rw[hR];have hR0:lr L.n m s.count (m.toNat - 0) (s,U,d)=(s9,U9,d9):=hR;have hk0:sU L.n m s.count d.out.length 0 (s,U,d):=⟨hG,aN _,0,by show IntKind.u64.wrap (s.count - s.count)=0;rw[Int.sub_self];rfl,aN _,aN _,by cases hd:decide (0<m)with|false=>(show(0:Int)<0+8;omega)|true=>(simp only[ak]at hd;show(0:Int)<m+8;omega)⟩;obtain⟨from_,hfr⟩:=Zgn (s.count);obtain⟨o0,hoo⟩:=Zgn (d.out.length);rw[hfr]at hR0 hk0;rw[hoo]at ho hk0;refine bL func60 rfl ntmps60 rfl hi ?_;refine Z_2 ?_;refine ZO fun b4=>?_;refine ZN fun b8=>?_
 refine Z_5 ?_;refine ZS (fun w hi=>iY s Ad Ar cd cr w (h w hi.JJ)) ?_;rintro _ _ ⟨_,⟨A1,c1,A2,c2,rfl,rfl⟩,rfl⟩;refine ZM ?_;refine Z_6 ?_;refine ZSe (fun w hi=>HR2 A1 A2 c1 c2 w) ?_;refine fF ?_;refine gx ?_;refine Z_4 ?_;refine jF (row b4 (s.cells (.slice A1 s.d.length c1) (.slice A2 s.r.length c2)) 44::row b8 (St.zero.cells (.slice none 0 0) (.slice none 0 0)) 44::guF bu bb L D s ⟨A1,c1,A2,c2⟩ Y U d) Zj ?_;refine Z_7 ?_;refine cw (fun q:Nat×St×jq×lz×Mmu×Dev=>[(1,.pointer (some ⟨bu,0,none⟩)),(2,.pointer (some ⟨D.bs,0,none⟩)),(3,.int .i64 m),(4,.pointer (some ⟨b4,0,none⟩)),(8,.pointer (some ⟨b8,0,none⟩)),(9,.int .u64 from_)]) (fun q=>row b4 (q.2.1.cells (.slice q.2.2.1.Ad q.2.1.d.length q.2.2.1.cd) (.slice q.2.2.1.Ar q.2.1.r.length q.2.2.1.cr)) 44::row b8 (St.zero.cells (.slice none 0 0) (.slice none 0 0)) 44::guF bu bb L D q.2.1 q.2.2.1 q.2.2.2.1 q.2.2.2.2.1 q.2.2.2.2.2) (fun q=>sU L.n m from_ o0 q.1 (q.2.1,q.2.2.2.2.1,q.2.2.2.2.2)∧q.1≤m.toNat∧lr L.n m from_ (m.toNat - q.1) (q.2.1,q.2.2.2.2.1,q.2.2.2.2.2)=(s9,U9,d9)) (fun q=>m.toNat - q.1) (⟨0,s,⟨A1,c1,A2,c2⟩,Y,U,d⟩) ?_ ?_ ?_ ?_
 ·exact⟨hk0,au _,hR0⟩
 ·exact Zwk
 ·exact Zu
 rintro⟨i,s,X,Y,U,d⟩ ⟨hk,him,hRi⟩;dsimp only at hk him hRi⊢;have hrc:eT m from_ s=((decide (0<m)&& !s.halted)&&decide (IntKind.u64.wrap (s.count - from_)<m)):=rfl;refine gL ?_;refine Zyy rfl rfl (dY (dH rfl) (dH rfl) rfl) ?_;refine ZB ?_;refine Zyy rfl rfl (bW rfl rfl (dH rfl) (show _=(bif decide (0<m)then m else IntKind.u64.wrap m)from by cases hd:decide (0<m)with|false=>rfl|true=>(rw[ac,aU];simp only[ak]at hd;omega))) ?_;refine Z_4 ?_;refine ZW ?_ ?_<;>intro hc5
 ·have hc:eT m from_ s=true:=(by rw[hrc];revert hc5;cases decide (0<m)with|false=>(intro h;cases h)|true=>exact fun h=>h);obtain⟨hk2,hilt⟩:=qn hm Wq1 hk hc;obtain⟨k,hkk⟩:∃k,m.toNat - i=k+1:=⟨m.toNat - i - 1,by omega⟩;rw[hkk,qo hc]at hRi;obtain⟨hd16,hr16, -⟩:=St.fits hk.g.right;have hok:=hk.out;dsimp only at hok hd16 hr16;have HB:=Iy bu bb L D Y s X.Ad X.Ar X.cd X.cr U d hk.g Wq1;obtain⟨⟨s2,U2,d2⟩,hq⟩:=Zgn (dQ L.n s U d);dsimp only at hRi hk2;rw[hq]at HB hRi hk2;refine Z_7 ?_;refine ZcL (ubF bu bb L D Y U d) (fun w hi hin=>HB w hin (fun w' hk=>hi.Kc Zi (show Has _ (slD s X.Ad X.cd)from Zh) (show Has _ (slR s X.Ar X.cr)from Zh) Wq1 Wq1 hk) (fun w' hk=>ht w' (hi.past (fun c hc=>by simp only[guF,ubF,uF,mV,aS,aK,aY]at hc⊢;grind) hk))) ?_;rintro _ _ ⟨_,⟨X2,Y2,rfl,rfl⟩,rfl⟩;refine ZM ?_;refine Z_2 ?_;refine bY ((⟨i+1,s2,X2,Y2,U2,d2⟩:Nat×St×jq×lz×Mmu×Dev)) ?_ ?_ ?_
  ·exact⟨⟨hk2,show i+1≤m.toNat by omega,by show lr L.n m from_ (m.toNat - (i+1)) (s2,U2,d2)=_;rw[show m.toNat - (i+1)=k by omega];exact hRi⟩,show m.toNat - (i+1)<m.toNat - i by omega⟩
  ·exact Zwk
  exact Zj
 have hc:eT m from_ s=false:=(by rw[hrc];revert hc5;cases decide (0<m)with|false=>exact fun _=>rfl|true=>exact fun h=>h);rw[kB hc,aW,aW]at hRi;obtain⟨rfl,rfl,rfl⟩:=hRi;refine Z_8 ?_;refine ZM ?_;refine Z_3 ?_;refine bN (row b8 (s.cells (.slice X.Ad s.d.length X.cd) (.slice X.Ar s.r.length X.cr)) 44::guF bu bb L D s X Y U d) Zj ?_;refine lP (cs':=(guF bu bb L D s X Y U d)) (.inl rfl) Zu rfl rfl Zh Zrf Zrf ?_;exact⟨X,Y,rfl,rfl⟩
end Go.Proofs.YtakodpimdalajaaGreatDoor
namespace Go.Ink
open Go.RowKit
def ImC(code:List II):Prop:=∀x,x∈code→0≤x.imm∧x.imm≤4294967295
structure lB(w:Lw):Prop where
 d:∀n,n∈w.d.l→II.in_ n w.code
 r:∀n,n∈w.r.l→II.in_ n w.code
 wf:WfC w.code
 ops:WfO w.code
 flags:w.flags= -1∨II.in_ w.flags w.code
 target:w.target= -1∨II.in_ w.target w.code
 imm:ImC w.code
theorem ImC.snoc{c:List II}{x:II}(h:ImC c)(hx:0≤x.imm∧x.imm≤4294967295):ImC (c++[x]):=fun y hy=>by
 rcases aS.1 hy with h1|h1
 ·exact h y h1
 rw[aL.1 h1];exact hx
theorem WfC.snoc{c:List II}{x:II}(h:WfC c)(hx:kq x=true→(0≤x.a∧x.a<c.length)∧(0≤x.b∧x.b<c.length)):WfC (c++[x]):=fun i y hy hab=>by
 by_cases hi:i<c.length
 ·rw[bD hi]at hy;exact h i y hy hab
 rw[bF Wq1]at hy;by_cases e:i - c.length=0
 ·rw[e]at hy;obtain rfl:x=y:=by simpa using hy
  have:=hx hab;omega
 rw[bH (by simp;omega)]at hy;cases hy
theorem WfO.snoc{c:List II}{x:II}(h:WfO c)(hx:(x.op=0∨x.op=1∨x.op=2)∨kq x=true):WfO (c++[x]):=fun i y hy=>by
 by_cases hi:i<c.length
 ·rw[bD hi]at hy;exact h i y hy
 rw[bF Wq1]at hy;by_cases e:i - c.length=0
 ·rw[e]at hy;obtain rfl:x=y:=by simpa using hy
  exact hx
 rw[bH (by simp;omega)]at hy;cases hy
theorem DB{k:Int}(hk:k=1∨k=2){c:List II}{s:Sd}(h:∀n,n∈s.l→II.in_ n c)(hw:WfC c)(ho:WfO c)(hm_:ImC c):
  II.in_ (eL k c s).1 (eL k c s).2.1∧(∀n,n∈(eL k c s).2.2.l→II.in_ n (eL k c s).2.1)∧WfC (eL k c s).2.1∧WfO (eL k c s).2.1∧ImC (eL k c s).2.1∧∃e,(eL k c s).2.1=c++e:=by
 unfold eL;cases hl:s.l.getLast? with
 |some n=>
  obtain⟨m,hm⟩:∃m,s.l=m++[n]:=List.getLast?_eq_some_iff.1 hl;refine⟨h n (by rw[hm];simp),fun j hj=>h j ?_,hw,ho,hm_,[],by simp⟩;rw[hm]at hj⊢;simp at hj⊢;exact Or.inl hj
 |none=>
  refine⟨mg _ _,fun j hj=>(by cases hj),hw.snoc (fun hab=>?_),ho.snoc (Or.inl ?_),hm_.snoc (by show 0≤IntKind.u32.wrap s.Jp∧IntKind.u32.wrap s.Jp≤_;rw[aE];omega),_,rfl⟩
  ·rcases hk with rfl|rfl<;>cases hab
  rcases hk with rfl|rfl
  ·exact Or.inr (Or.inl rfl)
  exact Or.inr (Or.inr rfl)
theorem BU{c c':List II}{n:Int}(h:II.in_ n c)(he:∃e,c'=c++e):II.in_ n c':=by obtain⟨e,rfl⟩:=he;exact pV e h
theorem BH{c c':List II}{n:Int}(h:n= -1∨II.in_ n c)(he:∃e,c'=c++e):n= -1∨II.in_ n c':=h.imp id fun h=>BU h he
theorem lB.Js{w:Lw}(h:lB w):lB w.Js.2∧II.in_ w.Js.1 w.Js.2.code∧∃e,w.Js.2.code=w.code++e:=by
 obtain⟨h1,h2,h3,h4,h6,h5⟩:=DB (k:=1) (Or.inl rfl) h.d h.wf h.ops h.imm;exact⟨⟨h2,fun n hn=>BU (h.r n hn) h5,h3,h4,BH h.flags h5,BH h.target h5,h6⟩,h1,h5⟩
theorem lB.JT{w:Lw}(h:lB w):lB w.JT.2∧II.in_ w.JT.1 w.JT.2.code∧∃e,w.JT.2.code=w.code++e:=by
 obtain⟨h1,h2,h3,h4,h6,h5⟩:=DB (k:=2) (Or.inr rfl) h.r h.wf h.ops h.imm;exact⟨⟨fun n hn=>BU (h.d n hn) h5,h2,h3,h4,BH h.flags h5,BH h.target h5,h6⟩,h1,h5⟩
theorem lB.pop2{w:Lw}(h:lB w):lB w.Js.2.Js.2∧II.in_ w.Js.1 w.Js.2.Js.2.code∧II.in_ w.Js.2.Js.1 w.Js.2.Js.2.code:=by
 obtain⟨h1,h2, -⟩:=h.Js;obtain⟨k1,k2,k3⟩:=h1.Js;exact⟨k1,BU h2 k3,k2⟩
theorem lB.JX{w:Lw}(h:lB w)(l:List Int)(hl:∀n,n∈l→II.in_ n w.code):lB (w.JX l):=⟨fun n hn=>by rcases aS.1 hn with q|q;exact h.d n q;exact hl n q,h.r,h.wf,h.ops,h.flags,h.target,h.imm⟩
theorem lB.Kt{w:Lw}(h:lB w)(l:List Int)(hl:∀n,n∈l→II.in_ n w.code):lB (w.Kt l):=⟨h.d,fun n hn=>by rcases aS.1 hn with q|q;exact h.r n q;exact hl n q,h.wf,h.ops,h.flags,h.target,h.imm⟩
theorem lB.add{w:Lw}(h:lB w)(op a b imm:Int)(him:0≤imm∧imm≤4294967295)(ho:op=0∨((op=3∨op=4)∧II.in_ a w.code∧II.in_ b w.code)):lB (w.add op a b imm)∧II.in_ w.here (w.add op a b imm).code:=by
 have he:∃e,(w.add op a b imm).code=w.code++e:=⟨_,rfl⟩;refine⟨⟨fun n hn=>BU (h.d n hn) he,fun n hn=>BU (h.r n hn) he,h.wf.snoc (fun hab=>?_),h.ops.snoc ?_,BH h.flags he,BH h.target he,h.imm.snoc him⟩,mg _ _⟩
 ·rcases ho with rfl|⟨-,⟨a1,a2⟩,b1,b2⟩
  ·cases hab
  exact⟨⟨a1,a2⟩,b1,b2⟩
 rcases ho with rfl|⟨rfl|rfl, -⟩
 ·exact Or.inl (Or.inl rfl)
 ·exact Or.inr rfl
 exact Or.inr rfl
theorem lB.Ju{w:Lw}(h:lB w):lB w.Ju:=⟨h.d,h.r,h.wf,h.ops,h.flags,h.target,h.imm⟩
theorem lB.wfl{w:Lw}(h:lB w){x:Int}(hx:II.in_ x w.code):lB (w.wfl x):=⟨h.d,h.r,h.wf,h.ops,Or.inr hx,h.target,h.imm⟩
theorem lB.wtg{w:Lw}(h:lB w){x:Int}(hx:II.in_ x w.code):lB (w.wtg x):=⟨h.d,h.r,h.wf,h.ops,h.flags,Or.inr hx,h.imm⟩
theorem lB.wbr{w:Lw}(h:lB w)(x:Int):lB (w.wbr x):=⟨h.d,h.r,h.wf,h.ops,h.flags,h.target,h.imm⟩
theorem GS{op:Int}(hp:dx op=true){w:Lw}(h:lB w){n nx:Int}(hn:u32 n)(hnx:u32 nx):lB (w.one op n nx):=by
 refine lB.Ju ?_;have sing:∀{c:List II} {x:Int},II.in_ x c→∀n,n∈[x]→II.in_ n c:=fun hx n hn=>by rw[aL.1 hn];exact hx
 obtain⟨d1,d2,d3⟩:=h.Js;obtain⟨r1,r2,r3⟩:=h.JT;obtain⟨p1,p2,p3⟩:=h.pop2;rcases oo hp with rfl|rfl|rfl|rfl|rfl|rfl|rfl|rfl|rfl|hr|hr|rfl|hr|rfl|rfl|rfl
 ·exact h
 ·exact(h.add 0 0 0 n hn (Or.inl rfl)).1.JX _ (sing (h.add 0 0 0 n hn (Or.inl rfl)).2)
 ·exact(h.add 0 0 0 n hn (Or.inl rfl)).1.JX _ (sing (h.add 0 0 0 n hn (Or.inl rfl)).2)
 ·exact d1.JX _ (fun n hn=>by simp at hn;rw[hn];exact d2)
 ·exact d1
 ·exact p1.JX _ (fun n hn=>by simp at hn;rcases hn with rfl|rfl<;>assumption)
 ·exact p1.JX _ (fun n hn=>by simp at hn;rcases hn with h|h|h<;>rw[h]<;>assumption)
 ·exact d1.Kt _ (sing d2)
 ·exact r1.JX _ (sing r2)
 ·rw[kF (Or.inl hr)];unfold Lw.reckon;rw[show(op !=25)=true by simp;omega];obtain⟨a1,a2⟩:=p1.add 4 w.Js.2.Js.1 w.Js.1 op Wq1 (Or.inr ⟨Or.inr rfl,p3,p2⟩);obtain⟨b1,b2⟩:=(a1.wfl a2).add 3 w.Js.2.Js.1 w.Js.1 op Wq1 (Or.inr ⟨Or.inl rfl,pV _ p3,pV _ p2⟩);exact b1.JX _ (sing b2)
 ·rw[kF (Or.inr hr)];subst hr;obtain⟨a1,a2⟩:=p1.add 4 w.Js.2.Js.1 w.Js.1 25 Wq1 (Or.inr ⟨Or.inr rfl,p3,p2⟩);exact a1.wfl a2
 ·exact h
 ·have h5:op=33∨op=34∨op=35∨op=36∨op=37:=by omega
  rcases h5 with rfl|rfl|rfl|rfl|rfl<;>exact h.wbr _
 ·exact(h.add 0 0 0 nx hnx (Or.inl rfl)).1.Kt _ (sing (h.add 0 0 0 nx hnx (Or.inl rfl)).2)
 ·exact r1.wtg r2
 exact d1.wtg d2
def Lw.init:Lw:=⟨[],⟨[],0,0⟩,⟨[],0,0⟩, -1, -1,0⟩
def lY(pc:Int)(w:Lw):List (Int×Int)→Option (Int×Lw)
 |[]=>some (pc,w)
 |i::l=>bif(!gO i.1 i.2|| !dx i.1)||(gl i.1&& !l.isEmpty)then none else lY (IntKind.u32.wrap (pc+IntKind.u32.wrap (cy i.1))) (w.one i.1 i.2 (IntKind.u32.wrap (pc+IntKind.u32.wrap (cy i.1)))) l
def uQ(nx:Int)(w:Lw)(i:Int×Int)(n:Nat):Pg:=
 ⟨w.code,w.d.Jp,w.r.Jp,w.d.high,w.r.high,w.d.l,w.r.l,w.flags,bif i.1==32||i.1==38 then IntKind.u32.wrap (nx+kL i.2)else nx,w.target,w.branch,bif i.1==32||i.1==38 then 0 else bif w.branch !=0 then IntKind.u32.wrap (nx+kL i.2)else 0,n,w.code.length⟩
def ff(pc:Int)(l:List (Int×Int)):Option Pg:=
 bif decide ((l.length:Int)<1)||decide (8<(l.length:Int))then none else
 match lY pc Lw.init l with
 |none=>none
 |some (nx,w)=>some (cE (uQ nx w (l.getLastD (0,0)) l.length))
theorem rC:lB Lw.init:=⟨fun _ h=>(by cases h),fun _ h=>(by cases h),fun _ _ h=>(by cases h),fun _ _ h=>(by cases h),Or.inl rfl,Or.inl rfl,fun _ h=>(by cases h)⟩
theorem kE{pc:Int}{w:Lw}{i:Int×Int}{l:List (Int×Int)}{q:Int×Lw}(h:lY pc w (i::l)=some q):
  gO i.1 i.2=true∧dx i.1=true∧(l≠[]→gl i.1=false)∧lY (IntKind.u32.wrap (pc+IntKind.u32.wrap (cy i.1))) (w.one i.1 i.2 (IntKind.u32.wrap (pc+IntKind.u32.wrap (cy i.1)))) l=some q:=by
 have h:(bif(!gO i.1 i.2|| !dx i.1)||(gl i.1&& !l.isEmpty)then none else lY (IntKind.u32.wrap (pc+IntKind.u32.wrap (cy i.1))) (w.one i.1 i.2 (IntKind.u32.wrap (pc+IntKind.u32.wrap (cy i.1)))) l)=some q:=h;cases hc:(!gO i.1 i.2|| !dx i.1)||(gl i.1&& !l.isEmpty)with
 |true=>rw[hc]at h;cases h
 |false=>
  rw[hc,aa]at h;simp only[bj,Bool.not_eq_false',Bool.and_eq_false_iff]at hc;refine⟨hc.1.1,hc.1.2,fun hl=>?_,h⟩;rcases hc.2 with h1|h1
  ·exact h1
  cases l with
  |nil=>exact absurd rfl hl
  |cons=>cases h1
theorem tf(x:Int):u32 (IntKind.u32.wrap x):=by unfold u32;rw[aE];omega
theorem qw:∀(l:List (Int×Int)) (pc:Int) (w:Lw) (q:Int×Lw),(∀i,i∈l→u32 i.2)→lY pc w l=some q→lB w→lB q.2∧fC w q.2∧(l≠[]→u32 q.1)
 |[],pc,w,q,_,h,hw=>by obtain rfl:(pc,w)=q:=aD h;exact⟨hw,fC.refl _,fun e=>absurd rfl e⟩
 |i::l,pc,w,q,hu,h,hw=>by
  obtain⟨-,h2, -,h4⟩:=kE h;obtain⟨k1,k2,k3⟩:=qw l _ _ q (fun j hj=>hu j (bC _ hj)) h4 (GS h2 hw (hu i cJ) (tf _));refine⟨k1,(wy h2 w _ _).trans k2,fun _=>?_⟩;cases l with
  |nil=>obtain rfl:=aD h4;exact tf _
  |cons j l=>exact k3 cJ
theorem Fx{b:Bool}{x y:Run}(hx:x.device=false)(hy:y.device=false):(bif b then x else y).device=false:=by cases b<;>assumption
section
variable {n:Nat} {op nn:Int} {s:St} {U:Mmu} {d:Dev}
theorem DK(h:dx op=true):∃R:Run,R.device=false∧ru n s op nn U d=⟨R,U,d⟩∧wD s op nn=R:=by
 have hc:op=0∨op=1∨op=2∨op=3∨op=4∨op=5∨op=6∨op=7∨op=8∨op=16∨op=17∨op=18∨op=19∨op=20∨op=21∨op=22∨op=23∨op=25∨op=32∨op=33∨op=34∨op=35∨op=36∨op=37∨op=38∨op=39∨op=40:=by
  rcases iS h with h|h|h|h<;>omega
 rcases hc with rfl|rfl|rfl|rfl|rfl|rfl|rfl|rfl|rfl|rfl|rfl|rfl|rfl|rfl|rfl|rfl|rfl|rfl|rfl|rfl|rfl|rfl|rfl|rfl|rfl|rfl|rfl<;>
  first
  |exact⟨_,rfl,rfl,rfl⟩
  |exact⟨_,Fx rfl rfl,rfl,rfl⟩
  |(refine⟨_,?_,rfl,rfl⟩;exact Fx (b:=(iu _ (eN s _).pop.top (eN s _).top).2.2) (x:=(eN s _).pop.pop) (y:=(eN s _).pop.pop.wt ⟨5,0⟩) rfl rfl)
theorem zy(h:dx op=true)(hr:s.right=true):vr n s op nn U d=(doN s op nn,⟨U.m.calm,U.t⟩,d)∧(doN s op nn).device=false∧(doN s op nn).Jl=[]:=by
 obtain⟨R,h1,h2,h3⟩:=DK (n:=n) (s:=s) (nn:=nn) (U:=⟨U.m.calm,U.t⟩) (d:=d) h;unfold vr doN;rw[hr,h2,h3];simp only[Bool.not_true,aa];cases(gc s op nn !=0)with
 |true=>exact⟨rfl,rfl,rfl⟩
 |false=>
  simp only[aa];have e:B8 s ⟨R,⟨U.m.calm,U.t⟩,d⟩=I9 s R:=by
   unfold B8 I9;rw[show ia U.m.calm.Jt 64=[]from Bh]
  rw[e];unfold I9;cases(R.JA.Jr !=0)with
  |true=>exact⟨rfl,h1,rfl⟩
  |false=>exact⟨rfl,h1,rfl⟩
theorem yh(h:dx op=true)(hw:s.wf)(hr:s.right=true)(hnn:u32 nn)(hU:UOk n U)(hd:d.ok):(doN s op nn).s.wf∧(doN s op nn).s.right=true:=by
 have hg:=sc (op:=op) (nn:=nn) hw hr hnn hU hd;rw[(zy (n:=n) (nn:=nn) (U:=U) (d:=d) h hr).1]at hg;exact⟨hg.wf,hg.right⟩
end
inductive Co:List (Int×Int)→St→St→Prop
 |nil (s:St):Co [] s s
 |cons {op nn:Int} {l:List (Int×Int)} {s s1 s2:St} (hp:dx op=true) (hr:s.right=true) (h:doN s op nn=⟨s1,false,false,[]⟩) (hm:l≠[]→gl op=false∧s1.pc=dK s op) (k:Co l s1 s2):Co ((op,nn)::l) s s2
def Jj(s s':St)(k:Nat):Prop:=s'=⟨s'.pc,s'.d,s'.r,s'.flags,s.Jq,s.Jv,s.ie,s.root,s.vec,s.epc,s.Jr,s.addr,s.JC,s.eie,IntKind.u64.wrap (s.count+k),s.halted⟩
theorem Jj.trans{a b c:St}{j:Nat}(h:Jj a b 1)(k:Jj b c j):Jj a c (j+1):=by
 unfold Jj at h k⊢;rw[h]at k;dsimp only at k;rw[k];have e:IntKind.u64.wrap (IntKind.u64.wrap (a.count+((1:Nat):Int))+(j:Int))=IntKind.u64.wrap (a.count+((j+1:Nat):Int)):=by simp only[aU];omega
 rw[e]
theorem E7{op:Int}(hp:dx op=true)(h:gl op=false):op<32:=by
 unfold gl at h;simp only[bj,Bool.and_eq_false_iff,ah]at h;rcases iS hp with q|q|q|q<;>omega
theorem zH{n:Nat}{U:Mmu}{d:Dev}(hU:UOk n U)(hdv:d.ok){D R:List Int}{f0:Int}(hD:D.length≤16)(hR:R.length≤16):∀(l:List (Int×Int)) (s:St) (w:Lw) (q:Int×Lw),l≠[]→(∀i,i∈l→u32 i.2)→lY s.pc w l=some q→s.wf→s.right=true→
  LI D R w s.d s.r→FL D R f0 w s.flags→w.target= -1→w.branch=0→q.2.d.Jp≤(D.length:Int)→q.2.r.Jp≤(R.length:Int)→(D.length:Int)+q.2.d.high≤16→(R.length:Int)+q.2.r.high≤16→
  ∃s',Co l s s'∧s'.wf∧s'.right=true∧LI D R q.2 s'.d s'.r∧FL D R f0 q.2 s'.flags∧s'.pc=pI D R q.2 (l.getLastD (0,0)).1 (l.getLastD (0,0)).2 q.1 s'.flags∧Jj s s' l.length∧(((l.getLastD (0,0)).1==32||(l.getLastD (0,0)).1==38)=true→q.2.branch=0)
 |[],_,_,_,hl,_,_,_,_,_,_,_,_,_,_,_,_=>absurd rfl hl
 |(op,nn)::l,s,w,q,hl,hu,h,hwf,hr,hli,hfl,htg,hbr,n1,n2,g1,g2=>by
  obtain⟨h1,h2,h3,h4⟩:=kE h;dsimp only at h1 h2 h3 h4;have hm:fC (w.one op nn (dK s op)) q.2:=by
   have:∀(l:List (Int×Int)) (pc:Int) (w:Lw) (q:Int×Lw),lY pc w l=some q→fC w q.2:=by
    intro l
    induction l with
    |nil=>intro pc w q h;obtain rfl:(pc,w)=q:=aD h;exact fC.refl _
    |cons i l ih=>intro pc w q h;obtain⟨-,h2, -,h4⟩:=kE h;exact(wy h2 w _ _).trans (ih _ _ _ h4)
   exact this l _ _ q h4
  have hnn:u32 nn:=hu (op,nn) cJ;obtain⟨s1,hs⟩:=one_ok (nn:=nn) h2 h1 hr hli hfl hD hR htg hbr (Int.le_trans hm.nd n1) (Int.le_trans hm.nr n2) (by have:=hm.hd;omega) (by have:=hm.hr;omega);have hgo:=yh (nn:=nn) h2 hwf hr hnn hU hdv;rw[hs.did]at hgo;have hk1:Jj s s1 1:=hs.rest;cases l with
  |nil=>
   obtain rfl:(dK s op,w.one op nn (dK s op))=q:=aD h4;exact⟨s1,.cons h2 hr hs.did (fun e=>absurd rfl e) (.nil s1),hgo.1,hgo.2,hs.li,hs.fl,hs.pc,hk1,fun he=>(by
    have he:(op==32||op==38)=true:=he;simp only[Bool.or_eq_true,beq_iff_eq]at he;rcases he with rfl|rfl<;>exact hbr)⟩
  |cons j l=>
   have he:=h3 cJ;have hlt:=E7 h2 he;obtain⟨t1,b1⟩:=hs.going hlt;have hpc:s1.pc=dK s op:=hs.pc.trans (qD b1 t1 (by
    have e1:(op==32)=false:=by simp;omega
    have e2:(op==38)=false:=by simp;omega
    rw[e1,e2];rfl))
   have h4:lY s1.pc (w.one op nn (dK s op)) (j::l)=some q:=by rw[hpc];exact h4
   obtain⟨s',c1,c2,c3,c4,c5,c6,c7,c8⟩:=zH hU hdv hD hR (j::l) s1 (w.one op nn (dK s op)) q cJ (fun i hi=>hu i (bC _ hi)) h4 hgo.1 hgo.2 hs.li hs.fl t1 b1 n1 n2 g1 g2;exact⟨s',.cons h2 hr hs.did (fun _=>⟨he,hpc⟩) c1,c2,c3,c4,c5,c6,hk1.trans c7,c8⟩
def nN(n at_:Int):Bool:=decide (0≤n)&&decide (n<at_)
def oN(l:List Int):Bool:=l.all fun n=>decide (0≤n)&&decide (n≤16)
def je(Jn Jo:Int)(i:Nat)(x:II):Bool:=
 bif x.dst !=i then false else
 bif x.op==0 then x.a==0&&x.b==0 else
 bif x.op==1 then(x.a==0&&x.b==0)&&decide (x.imm<Jn)else
 bif x.op==2 then(x.a==0&&x.b==0)&&decide (x.imm<Jo)else
 bif x.op==3 then((nN x.a i&&nN x.b i)&&decide (16≤x.imm))&&decide (x.imm≤23)else
 bif x.op==4 then(nN x.a i&&nN x.b i)&&((decide (16≤x.imm)&&decide (x.imm≤23))||x.imm==25)else false
def iN(Jn Jo:Int):List II→Nat→Bool
 |[],_=>true
 |x::c,i=>je Jn Jo i x&&iN Jn Jo c (i+1)
def Pg.J1(p:Pg):Bool:=oN [p.Jn,p.Jo,p.JK,p.JN]&&(!decide (p.count<1)&& !decide (8<p.count))
def Pg.J0(p:Pg):Bool:=
 (!((p.flags != -1&& !nN p.flags p.code.length)||(p.target != -1&& !nN p.target p.code.length)))&&(p.branch==0||((decide (33≤p.branch)&&decide (p.branch≤37))&&p.target== -1))
def Pg.JB(p:Pg):Bool:=p.J1&&(iN p.Jn p.Jo p.code 0&&((p.Jw.all fun n=>nN n p.code.length)&&((p.Jx.all fun n=>nN n p.code.length)&&p.J0)))
def dJ(p:Pg):Pl:=gJ (gi p) 7 p.code.length p.code.length
theorem pG{Jn Jo:Int}:∀(c:List II) (i:Nat),iN Jn Jo c i=true→∀(j:Nat) (x:II),c[j]? =some x→je Jn Jo (i+j) x=true
 |[],_,_,j,x,h=>by cases h
 |y::c,i,hm,0,x,h=>by
  have hm:(je Jn Jo i y&&iN Jn Jo c (i+1))=true:=hm;rw[aB]at hm;obtain rfl:y=x:=by simpa using h
  exact hm.1
 |y::c,i,hm,j+1,x,h=>by
  have hm:(je Jn Jo i y&&iN Jn Jo c (i+1))=true:=hm;rw[aB]at hm;have:=pG c (i+1) hm.2 j x (by simpa using h);rwa[show i+1+j=i+(j+1) by omega]at this
theorem made_ok{Jn Jo:Int}{i:Nat}{x:II}(h:je Jn Jo i x=true)(him:0≤x.imm∧x.imm≤4294967295):x.ok Jn Jo i:=by
 obtain⟨op,dst,a,b,imm⟩:=x;unfold je at h;dsimp only at h him;cases h0:dst !=(i:Int)with
 |true=>rw[h0]at h;cases h
 |false=>
 rw[h0,aa]at h;cases c0:op==0 with
 |true=>exact⟨him,Or.inl (by simpa using c0),fun hab=>by simp at c0;dsimp only at hab;omega⟩
 |false=>
 rw[c0,aa]at h;cases c1:op==1 with
 |true=>
  rw[c1,ac]at h;simp only[aB,ak,beq_iff_eq]at h c1;exact⟨him,Or.inr (Or.inl ⟨c1,h.2⟩),fun hab=>by dsimp only at hab;omega⟩
 |false=>
 rw[c1,aa]at h;cases c2:op==2 with
 |true=>
  rw[c2,ac]at h;simp only[aB,ak,beq_iff_eq]at h c2;exact⟨him,Or.inr (Or.inr (Or.inl ⟨c2,h.2⟩)),fun hab=>by dsimp only at hab;omega⟩
 |false=>
 rw[c2,aa]at h;cases c3:op==3 with
 |true=>
  rw[c3,ac]at h;simp only[nN,aB,ak,beq_iff_eq]at h c3;exact⟨him,Or.inr (Or.inr (Or.inr (Or.inl ⟨c3,h.1.2,h.2⟩))),fun _=>⟨h.1.1.1,h.1.1.2⟩⟩
 |false=>
 rw[c3,aa]at h;cases c4:op==4 with
 |true=>
  rw[c4,ac]at h;simp only[nN,aB,Bool.or_eq_true,ak,beq_iff_eq]at h c4;exact⟨him,Or.inr (Or.inr (Or.inr (Or.inr ⟨c4,h.2⟩))),fun _=>⟨h.1.1,h.1.2⟩⟩
 |false=>rw[c4,aa]at h;cases h
theorem qZ{p:Pg}(h:p.JB=true)(him:ImC p.code)(hn:p.code.length≤64)(hnx:u32 p.next)(htk:u32 p.taken):PgOk p (gi p)∧(p.branch≠0→p.target= -1)∧(p.flags= -1∨0≤p.flags)∧(p.target= -1∨0≤p.target):=by
 unfold Pg.JB Pg.J1 Pg.J0 oN at h;simp only[aB,Bool.not_eq_true',Bool.or_eq_true,bj,Bool.and_eq_false_iff,ak,ah,List.all_cons,List.all_nil,bE,beq_iff_eq,bne_eq_false_iff_eq,Bool.not_eq_false',nN]at h;obtain⟨⟨⟨d1,d2,d3,d4, -⟩,c1,c2⟩,hm,hoD,hoR,⟨hf,ht⟩,hb⟩:=h;have hok:OkC p.Jn p.Jo p.code:=fun n x hx=>by
  have:=pG p.code 0 hm n x hx;rw[bl]at this;exact made_ok this (him x (aI hx))
 refine⟨⟨hok,fun n x hx ho=>?_,fun n hn=>⟨(hoD n hn).1,(hoD n hn).2,oz p (Or.inl hn) (hoD n hn)⟩,fun n hn=>⟨(hoR n hn).1,(hoR n hn).2,oz p (Or.inr (Or.inl hn)) (hoR n hn)⟩,fun h0=>?_,fun h0=>?_,?_,hn,d1,d2,d3,d4,hnx,htk,by omega⟩,?_,?_,?_⟩
 ·have hl:=(ar.1 hx).1;obtain⟨a,b⟩:=(hok n x hx).ab ho;exact D7 p hx (by unfold kq;rcases ho with e|e<;>rw[e]<;>rfl) ⟨a.1,by omega⟩ ⟨b.1,by omega⟩
 ·have hf:0≤p.flags∧p.flags<p.code.length:=by rcases hf with e|e;omega;exact e
  exact⟨hf.2,oz p (Or.inr (Or.inr (Or.inl rfl))) hf⟩
 ·have ht:0≤p.target∧p.target<p.code.length:=by rcases ht with e|e;omega;exact e
  exact⟨ht.2,oz p (Or.inr (Or.inr (Or.inr rfl))) ht⟩
 ·rcases hb with e|e
  ·exact Or.inl e
  exact Or.inr e.1
 ·intro hne;rcases hb with e|e
  ·exact absurd e hne
  exact e.2
 ·rcases hf with e|e
  ·exact Or.inl e
  exact Or.inr e.1
 rcases ht with e|e
 ·exact Or.inl e
 exact Or.inr e.1
theorem uT(k:Int)(c:List II)(s:Sd):(eL k c s).2.1.length≤c.length+1:=by
 unfold eL;cases s.l.getLast? with
 |some n=>exact Nat.le_succ _
 |none=>simp
theorem one_len{op:Int}(hp:dx op=true)(w:Lw)(n nx:Int):(w.one op n nx).code.length≤w.code.length+4:=by
 have hD:w.Js.2.code.length≤w.code.length+1:=uT 1 w.code w.d;have hR:w.JT.2.code.length≤w.code.length+1:=uT 2 w.code w.r;have hP:w.Js.2.Js.2.code.length≤w.code.length+2:=aV (uT 1 w.Js.2.code w.Js.2.d) Wq1;have hA:∀(v:Lw) (a b c d:Int),(v.add a b c d).code.length=v.code.length+1:=fun v a b c d=>by simp[Lw.add]
 rcases oo hp with rfl|rfl|rfl|rfl|rfl|rfl|rfl|rfl|rfl|hr|hr|rfl|hr|rfl|rfl|rfl
 ·exact Nat.le_add_right _ _
 ·show(w.add 0 0 0 n).code.length≤_;rw[hA];omega
 ·show(w.add 0 0 0 n).code.length≤_;rw[hA];omega
 ·show w.Js.2.code.length≤_;omega
 ·show w.Js.2.code.length≤_;omega
 ·show w.Js.2.Js.2.code.length≤_;omega
 ·show w.Js.2.Js.2.code.length≤_;omega
 ·show w.Js.2.code.length≤_;omega
 ·show w.JT.2.code.length≤_;omega
 ·show(w.go op n nx).code.length≤_;rw[kF (Or.inl hr)];unfold Lw.reckon;rw[show(op !=25)=true by simp;omega];show(((w.Js.2.Js.2.add 4 w.Js.2.Js.1 w.Js.1 op).wfl w.Js.2.Js.2.here).add 3 w.Js.2.Js.1 w.Js.1 op).code.length≤_;rw[hA];show(w.Js.2.Js.2.add 4 w.Js.2.Js.1 w.Js.1 op).code.length+1≤_;rw[hA];omega
 ·subst hr;show(w.Js.2.Js.2.add 4 w.Js.2.Js.1 w.Js.1 25).code.length≤_;rw[hA];omega
 ·exact Nat.le_add_right _ _
 ·have h5:op=33∨op=34∨op=35∨op=36∨op=37:=by omega
  rcases h5 with rfl|rfl|rfl|rfl|rfl<;>exact Nat.le_add_right _ _
 ·show(w.add 0 0 0 nx).code.length≤_;rw[hA];omega
 ·show w.JT.2.code.length≤_;omega
 show w.Js.2.code.length≤_;omega
theorem rD:∀(l:List (Int×Int)) (pc:Int) (w:Lw) (q:Int×Lw),lY pc w l=some q→q.2.code.length≤w.code.length+4*l.length
 |[],pc,w,q,h=>by obtain rfl:(pc,w)=q:=aD h;exact aN _
 |i::l,pc,w,q,h=>by
  obtain⟨-,h2, -,h4⟩:=kE h;have h5:=rD l _ _ q h4;have h6:=one_len h2 w i.2 (IntKind.u32.wrap (pc+IntKind.u32.wrap (cy i.1)));simp only[aj];omega
theorem oG(U:List Bool):∀(suf:List II) (i:Nat) (pl:List Int) (c:List II),(kH U suf i pl c).2.length≤c.length+suf.length
 |[],_,_,_=>aN _
 |x::suf,i,pl,c=>by
  show(bif U.getD i false then kH U suf (i+1) _ _ else kH U suf (i+1) pl c).2.length≤_;cases U.getD i false with
  |true=>have:=oG U suf (i+1) (pl.set i (c.length:Int)) (c++[mX x (pl.set i (c.length:Int)) c.length]);simp at this⊢;omega
  |false=>have:=oG U suf (i+1) pl c;simp at this⊢;omega
theorem oH(U:List Bool):∀(suf:List II) (i:Nat) (pl:List Int) (c:List II),ImC c→ImC suf→ImC (kH U suf i pl c).2
 |[],_,_,_,h,_=>h
 |x::suf,i,pl,c,h,hs=>by
  show ImC (bif U.getD i false then kH U suf (i+1) _ _ else kH U suf (i+1) pl c).2;have hs':ImC suf:=fun y hy=>hs y (bC _ hy)
  cases U.getD i false with
  |true=>
   refine oH U suf (i+1) _ _ (h.snoc ?_) hs';have:=hs x cJ;unfold mX;cases kq x<;>exact this
  |false=>exact oH U suf (i+1) pl c h hs'
def fR(W:List Int)(from_ n:Nat):List Int:=(List.range n).map fun k=>W.getD (from_+k) 0
def mY(W:List Int)(s:St):St:=⟨W.getD 0 0,fR W 4 (W.getD 2 0).toNat,fR W 20 (W.getD 3 0).toNat,W.getD 1 0,s.Jq,s.Jv,s.ie,s.root,s.vec,s.epc,s.Jr,s.addr,s.JC,s.eie,IntKind.u64.wrap (s.count+W.getD 36 0),s.halted⟩
theorem vS{W D out:List Int}{f k:Nat}{n:Int}(hn:n=((D.length - k+out.length:Nat):Int))(hlow:∀i,i<D.length - k→W.getD (f+i) 0=D.getD i 0)(hnew:∀i,i<out.length→W.getD (f+(D.length - k)+i) 0=out.getD i 0):
  fR W f n.toNat=D.take (D.length - k)++out:=by
 subst hn;rw[aO];have hl:(D.take (D.length - k)).length=D.length - k:=by rw[aC];omega
 apply List.ext_getElem?;intro i;unfold fR;rw[aZ];by_cases hi:i<D.length - k+out.length
 ·rw[List.getElem?_range hi];by_cases h1:i<D.length - k
  ·rw[bD Wq1,List.getElem?_take,if_pos h1];show some (W.getD (f+i) 0)=_;rw[hlow i h1,aw,ai (show i<D.length by omega)];rfl
  rw[bF Wq1,hl];show some (W.getD (f+i) 0)=_;have:=hnew (i - (D.length - k)) Wq1;rw[show f+(D.length - k)+(i - (D.length - k))=f+i by omega]at this;rw[this,aw,ai (show i - (D.length - k)<out.length by omega)];rfl
 rw[bH (by simp;omega),bH (by rw[ae,hl];omega)];rfl
theorem zc{n:Nat}{U:Mmu}{d:Dev}(hU:UOk n U)(hdv:d.ok){s:St}(hwf:s.wf)(hr:s.right=true){l:List (Int×Int)}(hu:∀i,i∈l→u32 i.2){p:Pg}(hlow:ff s.pc l=some p)(hright:p.JB=true){M:HM}{f:Nat}
  (jo:jo (gm p (dJ p)) f ⟨List.replicate 16 0,JV s,0⟩=((1,1),M)):
  Co l s (mY M.words s)∧(mY M.words s).wf∧(mY M.words s).right=true∧Jj s (mY M.words s) l.length∧1≤l.length∧l.length≤8∧M.words.getD 2 0≤16∧M.words.getD 3 0≤16∧M.words.getD 1 0≤15:=by
 obtain⟨hd16,hr16, -⟩:=St.fits hr;unfold ff at hlow;cases hlen:decide ((l.length:Int)<1)||decide (8<(l.length:Int))with
 |true=>rw[hlen]at hlow;cases hlow
 |false=>
 rw[hlen,aa]at hlow;simp only[bj,ah]at hlen;have hl0:l≠[]:=fun e=>by rw[e]at hlen;simp at hlen
 cases hgo:lY s.pc Lw.init l with
 |none=>rw[hgo]at hlow;cases hlow
 |some q=>
 rw[hgo]at hlow;obtain⟨nx,w⟩:=q;obtain rfl:=aD hlow;obtain⟨lk, -,hnx⟩:=qw l s.pc Lw.init _ hu hgo rC;have hnx:=hnx hl0;dsimp only at lk hnx;obtain⟨i,hi⟩:=Zgn (l.getLastD (0,0));rw[hi]at hright jo;obtain⟨p0,hp0⟩:=Zgn (uQ nx w i l.length);rw[hp0]at hright jo;have f1:p0.code=w.code:=by rw[←hp0];rfl
 have f2:p0.Jw=w.d.l:=by rw[←hp0];rfl
 have f3:p0.Jx=w.r.l:=by rw[←hp0];rfl
 have f4:p0.flags=w.flags:=by rw[←hp0];rfl
 have f5:p0.target=w.target:=by rw[←hp0];rfl
 have f6:p0.branch=w.branch:=by rw[←hp0];rfl
 have raw:Raw p0:=⟨by rw[f1];exact lk.wf,by rw[f1];exact lk.ops,by rw[f1,f2];exact lk.d,by rw[f1,f3];exact lk.r,by rw[f1,f4];exact lk.flags,by rw[f1,f5];exact lk.target⟩;have g1:(cE p0).Jn=w.d.Jp:=by rw[←hp0];rfl
 have g2:(cE p0).Jo=w.r.Jp:=by rw[←hp0];rfl
 have g3:(cE p0).JK=w.d.high:=by rw[←hp0];rfl
 have g4:(cE p0).JN=w.r.high:=by rw[←hp0];rfl
 have g5:(cE p0).next=bif i.1==32||i.1==38 then IntKind.u32.wrap (nx+kL i.2)else nx:=by rw[←hp0];rfl
 have g6:(cE p0).taken=bif i.1==32||i.1==38 then 0 else bif w.branch !=0 then IntKind.u32.wrap (nx+kL i.2)else 0:=by rw[←hp0];rfl
 have g7:(cE p0).branch=w.branch:=by rw[←hp0];rfl
 have g8:(cE p0).count=l.length:=by rw[←hp0];rfl
 have hlen4:=rD l s.pc Lw.init _ hgo;have hlen5:w.code.length≤32:=by have:Lw.init.code.length=0:=rfl;dsimp only at hlen4;omega
 have hlen6:(cE p0).code.length≤64:=by
  have:=oG (fQ p0) p0.code 0 (List.replicate p0.code.length 0) [];have e:(cE p0).code=(kH (fQ p0) p0.code 0 (List.replicate p0.code.length 0) []).2:=rfl;rw[e];rw[f1]at this⊢;simp at this;omega
 have himc:ImC (cE p0).code:=oH (fQ p0) p0.code 0 _ [] (fun _ h=>by cases h) (by rw[f1];exact lk.imm);have hn32:u32 (cE p0).next:=by rw[g5];cases i.1==32||i.1==38 with|true=>exact tf _|false=>exact hnx
 have ht32:u32 (cE p0).taken:=by
  have z:u32 0:=⟨by decide,by decide⟩;rw[g6];cases i.1==32||i.1==38 with
  |true=>exact z
  |false=>cases w.branch !=0 with
   |true=>exact tf _
   |false=>exact z
 obtain⟨pok,pbt,pfl,ptg⟩:=qZ hright himc hlen6 hn32 ht32;have hplan:FO (dJ (cE p0)) (gi (cE p0)) (cE p0).code.length:=DI (fun i hi=>D8 (cE p0) hi) hlen6;have hgo2:HGo (gm (cE p0) (dJ (cE p0))) 0 (gm (cE p0) (dJ (cE p0))) (List.replicate 16 0) (JV s) M:=⟨List.drop_zero,by simp,zx s,f,jo⟩;have left:=Ib pok hplan hr hwf hgo2;have li0:LI s.d s.r Lw.init s.d s.r:=⟨⟨Int.le_refl _,by show(0:Int)≤_;omega,by show s.d=s.d.take (s.d.length - (0:Int).toNat)++[];simp,fun _ h=>by cases h⟩,⟨Int.le_refl _,by show(0:Int)≤_;omega,by show s.r=s.r.take (s.r.length - (0:Int).toNat)++[];simp,fun _ h=>by cases h⟩⟩;have n1:=left.Jn;have n2:=left.Jo;have n3:=left.JK;have n4:=left.JN;rw[g1]at n1;rw[g2]at n2;rw[g3]at n3;rw[g4]at n4;obtain⟨s',c1,c2,c3,c4,c5,c6,c7,c8⟩:=zH hU hdv hd16 hr16 l s Lw.init (nx,w) hl0 hu hgo hwf hr li0 (Or.inl ⟨rfl,rfl⟩) rfl rfl n1 n2 n3 n4;rw[hi]at c6 c8;dsimp only at c4 c5 c6 c8;obtain⟨V,hV⟩:=Zgn (JR s.d s.r (cE p0).code);have hmv:∀m,(m∈p0.Jw∨m∈p0.Jx∨m=p0.flags∨m=p0.target)→II.in_ m w.code→0≤(ee p0).1.getD m.toNat 0∧V.getD ((ee p0).1.getD m.toNat 0).toNat 0=dT s.d s.r w.code m:=fun m h1 h2=>by
  have h3:=Df (D:=s.d) (R:=s.r) raw h1 (by rw[f1];exact h2);rw[f1]at h3;refine⟨h3.1.1,?_⟩;rw[←hV];exact h3.2
 rw[hV]at left;have hoD:(cE p0).Jw=dG (ee p0).1 w.d.l:=by rw[←f2];rfl
 have hoR:(cE p0).Jx=dG (ee p0).1 w.r.l:=by rw[←f3];rfl
 have hfl:(cE p0).flags=ef (ee p0).1 w.flags:=by rw[←f4];rfl
 have htg:(cE p0).target=ef (ee p0).1 w.target:=by rw[←f5];rfl
 have hc3:=c3;obtain⟨-, -,fl15⟩:=St.fits c3;have hfl0:=c2.flags;have eF:(cE p0).Kl V s.flags=s'.flags:=by
  unfold Pg.Kl;rw[hfl];rcases c5 with⟨q1,q2⟩|⟨q1,q2⟩
  ·rw[q1];exact q2.symm
  have hne:w.flags≠ -1:=by have:=q1.1;omega
  have h3:=hmv w.flags (by rw[f4];simp) q1;unfold ef;rw[show(w.flags != -1)=true by simpa using hne,ac,ay h3.1,ac,h3.2,←q2];have:=hfl0.1;omega
 have ePc:(cE p0).Kb V s'.flags=s'.pc:=by
  rw[c6];unfold Pg.Kb pI;rw[htg,g5,g6,g7];rw[htg]at ptg pbt;rw[g7]at pbt;by_cases ht:w.target= -1
  ·have em:ef (ee p0).1 w.target= -1:=by unfold ef;rw[ht];rfl
   rw[em,show decide ((0:Int)≤ -1)=false from rfl,aa,ht,show((-1:Int)== -1)=true from rfl,ac];cases hh:(cY w.branch s'.flags).1 with
   |false=>rfl
   |true=>
    have hb:w.branch≠0:=fun e=>by rw[e]at hh;cases hh
    have hop:(i.1==32||i.1==38)=false:=by
     cases he:(i.1==32||i.1==38)with
     |false=>rfl
     |true=>exact absurd (c8 he) hb
    rw[hop,show(w.branch !=0)=true by simpa using hb];rfl
  have hin:II.in_ w.target w.code:=by rcases lk.target with e|e;exact absurd e ht;exact e
  have h3:=hmv w.target (by rw[f5];simp) hin;have em:ef (ee p0).1 w.target=(ee p0).1.getD w.target.toNat 0:=by unfold ef;rw[show(w.target != -1)=true by simpa using ht];rfl
  have hb0:w.branch=0:=by
   by_cases hb:w.branch=0
   ·exact hb
   have:=pbt hb;rw[em]at this;have:=h3.1;omega
  rw[em,ay h3.1,ac,h3.2,hb0,show(cY 0 s'.flags).1=false from rfl,aa,show(w.target== -1)=false by simpa using ht];rfl
 have Kv:(cE p0).Jw.length=w.d.l.length:=by rw[hoD];simp[dG]
 have lenR:(cE p0).Jx.length=w.r.l.length:=by rw[hoR];simp[dG]
 have outsEq:∀(L:List Int),(∀m,m∈L→(m∈p0.Jw∨m∈p0.Jx∨m=p0.flags∨m=p0.target)∧II.in_ m w.code)→∀j,j<L.length→V.getD ((dG (ee p0).1 L).getD j 0).toNat 0=(L.map (dT s.d s.r w.code)).getD j 0:=fun L hL j hj=>by
  have hm:L[j]? =some L[j]:=ai hj;obtain⟨h1,h2⟩:=hL L[j] (List.getElem_mem hj);have e1:(dG (ee p0).1 L).getD j 0=(ee p0).1.getD (L[j]).toNat 0:=by unfold dG;rw[aw,aZ,hm];rfl
  have e2:(L.map (dT s.d s.r w.code)).getD j 0=dT s.d s.r w.code L[j]:=by rw[aw,aZ,hm];rfl
  rw[e1,e2];exact(hmv _ h1 h2).2
 have hLD:∀m,m∈w.d.l→(m∈p0.Jw∨m∈p0.Jx∨m=p0.flags∨m=p0.target)∧II.in_ m w.code:=fun m hm=>⟨Or.inl (by rw[f2];exact hm),lk.d m hm⟩
 have hLR:∀m,m∈w.r.l→(m∈p0.Jw∨m∈p0.Jx∨m=p0.flags∨m=p0.target)∧II.in_ m w.code:=fun m hm=>⟨Or.inr (Or.inl (by rw[f3];exact hm)),lk.r m hm⟩
 have eD:fR M.words 4 (M.words.getD 2 0).toNat=s'.d:=by
  rw[c4.d.eq];have a1:=left.Kv;have a2:=left.lowD;have a3:=left.newD;rw[g1]at a1 a2 a3;rw[Kv]at a1 a3;refine vS (by rw[a1];simp) a2 (fun j hj=>?_);have hj:j<w.d.l.length:=by simpa using hj
  rw[a3 j hj,hoD];exact outsEq w.d.l hLD j hj
 have eR:fR M.words 20 (M.words.getD 3 0).toNat=s'.r:=by
  rw[c4.r.eq];have a1:=left.lenR;have a2:=left.lowR;have a3:=left.newR;rw[g2]at a1 a2 a3;rw[lenR]at a1 a3;refine vS (by rw[a1];simp) a2 (fun j hj=>?_);have hj:j<w.r.l.length:=by simpa using hj
  rw[a3 j hj,hoR];exact outsEq w.r.l hLR j hj
 have eS:mY M.words s=s':=by
  unfold mY;have hk:s'=_:=c7;rw[left.pc,left.flags,left.count,eF,ePc,eD,eR,g8];rw[hk]
 have hfit1:=left.fitD;have hfit2:=left.fitR;have hw2:=left.Kv;have hw3:=left.lenR;rw[eS];exact⟨c1,c2,c3,c7,by omega,by omega,by omega,by omega,by rw[left.flags,eF];omega⟩
end Go.Ink
