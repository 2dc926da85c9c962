/- Lemmas. -/
import Derived.Test.YtepfimeihngjoaaGreatDoorXal
import Derived.Test.YtepfimeihngjoaaGreatDoorXam
set_option linter.all false
set_option maxRecDepth 100000
set_option maxHeartbeats 4000000
namespace Go.Ink
open List renaming length→J, replicate→R9
open IntKind renaming wrap→V9
open Go.RowKit Go.Proofs.Tryz
section
attribute [local irreducible] Ve bN
theorem Qq(bd bk:Nat)(L:fF)(M:UO)(S8:Li)(hk:J S8=1024)(hkb:Vh S8)(SS a cmd:Nat)(hs:SS<=4294967295)(ha:a<=4294967295):CI prog 351 [.p bd,.p L.bm,.w SS,.w a,.w cmd] [N1 bd bk,Cj bk S8,fM L M] (λv cs=>v= .bool (dP L.n M S8 SS a cmd).1/\cs=[N1 bd bk,Cj bk (dP L.n M S8 SS a cmd).2.2,fM L (dP L.n M S8 SS a cmd).2.1]):=λw hi=>by
 obtain⟨n1,n64,hdl,hdb,htl⟩:=mY (hi.ok (fM L M) cJ);refine Vb func351 ntmps351 hi ?_;refine oO ?_;refine WV I I (fG (cO I) (Zv I) O (show _=((a%64:Nat):Int)from by rw[aq O];omega)) ?_;refine UQ ?_;refine dC (bR I I) (.cons (cO I) .nil) (λ_ _=>I) (λhg w hi=>mI L M w (hi.get (UJ (fM L M)))) I (WK ?_ ?_)<;>intro hc1
 .have hno:iI L.n SS a=false:=by(have h2:=(xY L.n SS a).symm.trans hc1;simpa using h2)
  have Wr:dP L.n M S8 SS a cmd=(false,M,S8):=by(unfold dP;rw[hno];rfl)
  rw[Wr];refine US ?_;exact Q7
 have hyes:iI L.n SS a=true:=by(have h2:=(xY L.n SS a).symm.trans hc1;simpa using h2)
 have hf:SS<16/\a%64=0/\a<L.n*64:=by(unfold iI at hyes;simp only[Bool.not_eq_true',aZ,aa,bne_eq_false_iff_eq]at hyes;omega)
 obtain⟨s16,am,an⟩:=hf;have Wr:dP L.n M S8 SS a cmd=bif cmd==1 then(true,M.fill (a/64*64) ((S8.drop (SS*64)).take 64) 64,S8)else bif cmd==2 then(true,M,S8.take (SS*64)++(M.data.drop (a/64*64)).take 64++S8.drop (SS*64+64))else(false,M,S8):=by(unfold dP;rw[hyes];rfl)
 rw[Wr];have hsl:J ((S8.drop (SS*64)).take 64)=64:=by(rw[aO,List.length_drop];omega)
 refine U8 ?_;refine Zy (fT (Zv I) (Zv I) (show _=((SS*64:Nat):Int)from(u32_wrap_id _ O O).trans O)) ?_;refine ZA ?_;refine Zy (dy (Zv I) (Zv I) (show _=((SS+1:Nat):Int)from(u32_wrap_id _ O O).trans O)) ?_;refine Zy (fT (Zv I) (Zv I) (show _=((SS*64+64:Nat):Int)from(u32_wrap_id _ O O).trans O)) ?_;refine Zy (lb (sz:=1) (lo:=SS*64) (hi:=SS*64+64) (r:=SS*64) I ir (Zv I) (.inr ⟨_,_,I,(Zv I)⟩) (.inr ⟨_,_,I,(Zv I)⟩) O O O O) ?_;refine UU ?_;refine Β ?_;refine wo ?_;refine UU ?_;rw[show SS*64+64 - SS*64=64 by omega];refine oU ?_ ?_<;>intro hc6
 .have hcm:(cmd==1)=true:=(jI cmd 1).symm.trans hc6;rw[hcm];refine ix ?_;refine UQ ?_;refine Vq ([fM L M]) (λw hi hin=>Dm L M (a/64) O (some ⟨bk,SS*64,none⟩) (1024 - SS*64) ((S8.drop (SS*64)).take 64) hsl (λx hx=>hkb x (bE (aM hx))) w hin (λw' hk=>disk_rd (hi.rdK (show CM _ (fM L M) (Cj bk S8)from(by repeat (first|(refine .l _ ?_;repeat (first|exact .head _ _|apply Vk.tail))|(refine .r _ ?_;repeat (first|exact .head _ _|apply Vk.tail))|apply CM.t))) hk) s16)) ?_;refine UU ?_;exact bK [N1 bd bk,Cj bk S8,fM L (M.fill (a/64*64) ((S8.drop (SS*64)).take 64) 64)] Zj Q7
 have hcm:(cmd==1)=false:=(jI cmd 1).symm.trans hc6;rw[hcm];refine fE ?_;refine UH ?_ ?_<;>intro hc8
 .have hcm2:(cmd==2)=true:=(jI cmd 2).symm.trans hc8;rw[hcm2];refine ix ?_;refine UK ?_;refine Vl (λw hi=>yT L M (a/64) O w (hi.get (UJ (fM L M)))) ?_;rintro _ _ ⟨bq,rfl,rfl⟩;refine gP ?_;refine gS (J7 I I Za I I (λw hi=>hi.rd (UJ (sl .u8 5 (sA bq) 64 64 ((M.data.drop (a/64*64)).take 64)))) cR O) I ?_;refine UR ?_;rw[show(ints .u8 S8).take (SS*64)++(ints .u8 ((M.data.drop (a/64*64)).take 64)).take (min 64 64)++(ints .u8 S8).drop (SS*64+min 64 64)=ints .u8 (S8.take (SS*64)++(M.data.drop (a/64*64)).take 64++S8.drop (SS*64+64))from by(rw[Nat.min_self,i7,i7,nO,cy,cy,List.take_take,Nat.min_self])];refine gP ?_;exact Q7
 have hcm2:(cmd==2)=false:=(jI cmd 2).symm.trans hc8;rw[hcm2];refine fE ?_;refine U8 ?_;exact Q7
def dp(n:Nat)(M:UO)(d:UF)(v:Nat):UO×UF:=
 ((dP n M d.S8 d.SS d.place v).2.1,{d with S8:=(dP n M d.S8 d.SS d.place v).2.2,status:=bif(dP n M d.S8 d.SS d.place v).1 then 0 else 1,S7:=bits .or .u32 d.S7 (ju [2])})
def bU(n:Nat)(M:UO)(d:UF)(k:Int)(v:Nat):Bool×UO×UF:=
 bif k==0 then(true,M,{d with S7:=bits .andNot .u32 d.S7 v})else bif k==4 then(true,M,{d with mask:=bits .and .u32 v 255})else bif k==8 then(true,M,{d with timer:=v})else
 bif k==16 then(true,M,{d with out:=d.out++[V9 .u8 v]})else bif k==32 then(true,M,{d with SS:=v})else bif k==36 then(true,M,{d with place:=v})else
 bif k==40 then(true,dp n M d v)else bif k==12 then(true,M,d)else bif k==20 then(true,M,d)else bif k==24 then(true,M,d)else bif k==44 then(true,M,d)else(false,M,d)
theorem Er(D:qV)(L:fF)(M:UO)(X:dJ)(d:UF)(hd:d.wf)(ho:J d.out<=1000000000)(a v:Nat)(count:Int):CI prog 323 [.p D.bs,.w a,.w v,.int .u64 count] (my D L.bm X d++[fM L M]) (λx cs=>∃X',x= .bool (bU L.n M d (je a) v).1/\cs=my D L.bm X' (bU L.n M d (je a) v).2.2++[fM L (bU L.n M d (je a) v).2.1]):=λw hi=>by
 obtain⟨k,hk⟩:=Do (je a);rw[hk];unfold je at hk;refine Vb func323 ntmps323 hi ?_;refine U8 ?_;refine Zy (ez py py hk) ?_;refine Wc ?_ ?_<;>intro hc3
 .refine UU ?_;refine Vq ([rE D.bi d.S7 d.mask]) (λw hi hin=>L5 D.bi d.S7 d.mask v w hin) ?_;refine U8 ?_;refine bK (my D L.bm X {d with S7:=bits .andNot .u32 d.S7 v}++[fM L M]) Zj (I3 ?_);refine⟨X,?_,?_⟩
  .exact Vm
  exact Vm
 refine UH ?_ ?_<;>intro hc5
 .refine UU ?_;refine Vq ([rE D.bi d.S7 d.mask]) (λw hi hin=>Ea D.bi d.S7 d.mask v w hin) ?_;refine U8 ?_;refine bK (my D L.bm X {d with mask:=bits .and .u32 v 255}++[fM L M]) Zj (I3 ?_);refine⟨X,?_,?_⟩
  .exact Vm
  exact Vm
 refine UH ?_ ?_<;>intro hc7
 .refine UU ?_;refine Vq ([On D.bti d.timer]) (λw hi hin=>tset_ok D.bti d.timer v w hin) ?_;refine U8 ?_;refine bK (my D L.bm X {d with timer:=v}++[fM L M]) Zj (I3 ?_);refine⟨X,?_,?_⟩
  .exact Vm
  exact Vm
 refine UH ?_ ?_<;>intro hc9
 .refine UU ?_;refine mU ?_;refine dH ([zP D.bcn X.Ao (J d.out) X.co X.Ai (J d.inp) X.ci,b8 X.Ao X.co d.out]) (λw hi hin=>MT D.bcn X.Ao X.co d.out X.Ai (J d.inp) X.ci (V9 .u8 v) ho w hin) ?_;rintro _ _ ⟨Ao',co',rfl,rfl⟩;refine U8 ?_;refine bK (my D L.bm ⟨Ao',co',X.Ai,X.ci⟩ {d with out:=d.out++[V9 .u8 v]}++[fM L M]) Zj (I3 ?_);refine⟨⟨Ao',co',X.Ai,X.ci⟩,?_,?_⟩
  .exact XT
  exact XT
 refine UH ?_ ?_<;>intro hc11
 .refine UQ ?_;refine nX ?_;refine I3 ?_;refine⟨X,?_,?_⟩
  .exact Vm
  exact Vm
 refine UH ?_ ?_<;>intro hc13
 .refine UQ ?_;refine nX ?_;refine I3 ?_;refine⟨X,?_,?_⟩
  .exact Vm
  exact Vm
 refine UH ?_ ?_<;>intro hc15
 .refine UQ ?_;refine ZL ?_;refine UK ?_;refine bQ (Vg [17]) Zk (lO ?_);refine UE 2 3 ?_;refine wP ?_;refine UE 6 4 ?_;refine ZG 7 ?_;refine ZE 8 ?_;refine ZE 9 ?_;refine UE 10 5 ?_;refine ZG 11 ?_;refine r8 ?_;refine UE 14 6 ?_;refine ZG 15 ?_;refine ZE 16 ?_;refine cP 17 Zk (rX ([N1 D.bdr D.bdk,Cj D.bdk d.S8,fM L M]) (λw hi hin=>Qq D.bdr D.bdk L M d.S8 hd.S8 hd.TP d.SS d.place v hd.SS hd.place w hin) ?_);refine UR ?_;refine tC ?_;refine ZW ?_ ?_<;>intro hc17
  .refine UK ?_;refine ZL ?_;refine US ?_;refine jQ ?_;rintro _ _ ⟨b86,rfl,rfl⟩;refine Vq ([rE D.bi d.S7 d.mask]) (λw hi hin=>mg D.bi d.S7 d.mask (sA b86) 1 [2] cJ w hin (λw' hk=>hi.rdK (show CM _ (rE D.bi d.S7 d.mask) (slv 3 1 (sA b86) 1 1 [.i 2])from(by repeat (first|(refine .l _ ?_;repeat (first|exact .head _ _|apply Vk.tail))|(refine .r _ ?_;repeat (first|exact .head _ _|apply Vk.tail))|apply CM.t))) hk)) ?_;refine U8 ?_;refine bK (my D L.bm X {d with S8:=(dP L.n M d.S8 d.SS d.place v).2.2,status:=0,S7:=bits .or .u32 d.S7 (ju [2])}++[fM L (dP L.n M d.S8 d.SS d.place v).2.1]) Zj (I3 ?_);refine⟨X,?_,?_⟩
   .exact Vm
   exact Vm
  refine US ?_;refine jQ ?_;rintro _ _ ⟨b86,rfl,rfl⟩;refine Vq ([rE D.bi d.S7 d.mask]) (λw hi hin=>mg D.bi d.S7 d.mask (sA b86) 1 [2] cJ w hin (λw' hk=>hi.rdK (show CM _ (rE D.bi d.S7 d.mask) (slv 3 1 (sA b86) 1 1 [.i 2])from(by repeat (first|(refine .l _ ?_;repeat (first|exact .head _ _|apply Vk.tail))|(refine .r _ ?_;repeat (first|exact .head _ _|apply Vk.tail))|apply CM.t))) hk)) ?_;refine U8 ?_;refine bK (my D L.bm X {d with S8:=(dP L.n M d.S8 d.SS d.place v).2.2,status:=1,S7:=bits .or .u32 d.S7 (ju [2])}++[fM L (dP L.n M d.S8 d.SS d.place v).2.1]) Zj (I3 ?_);refine⟨X,?_,?_⟩
  .exact Vm
  exact Vm
 refine VJ ?_ ?_<;>intro hc20
 .refine An ?_;refine bY I (hc20) (U8 ?_);refine I3 ?_;refine⟨X,?_,?_⟩
  .exact Vm
  exact Vm
 refine UH ?_ ?_<;>intro hc21
 .refine An ?_;refine bY I (hc21) (U8 ?_);refine I3 ?_;refine⟨X,?_,?_⟩
  .exact Vm
  exact Vm
 refine UH ?_ ?_<;>intro hc22
 .refine An ?_;refine bY I (hc22) (U8 ?_);refine I3 ?_;refine⟨X,?_,?_⟩
  .exact Vm
  exact Vm
 refine Wh ?_ ?_<;>intro hc23
 .refine U8 ?_;refine I3 ?_;refine⟨X,?_,?_⟩
  .exact Vm
  exact Vm
 refine Va ?_;refine I3 ?_;refine⟨X,?_,?_⟩
 .exact Vm
 exact Vm
variable{R:UG}
theorem EQ(br bu bb:Nat)(L:fF)(D:qV)(X:dz)(R:UG)(U:UI)(hT:J U.t=16)(hroot:u32 R.s.root)(va:Nat)(hva:va<=4294967295)(kind:Int):CI prog 321 [.p br,.w va,.i kind] (gU (VF br bu D) X R++uF bu bb L U) (λv cs=>v= .tuple #[.w (cu L.n R U va kind).p,.bool (cu L.n R U va kind).ok]/\cs=gU (VF br bu D) X (cu L.n R U va kind).r++uF bu bb L (cu L.n R U va kind).u):=λw hi=>by
 have hr0:=hroot.1;have hr1:=hroot.2;have hsr:R.sp.root<=4294967295:=by show R.s.root.toNat<=_;omega
 have HP:=p6 bu bb L U hT R.sp hsr va hva kind;have HS:=uM (VF br bu D) X R hr0;unfold cu;obtain⟨⟨⟨p,ca,ad⟩,U'⟩,hq⟩:=Do (SR L.n U R.sp va kind);rw[hq]at HP|-;obtain⟨S,hS⟩:=Do (R.sp);rw[hS]at HP HS;refine Vb func321 ntmps321 hi ?_;refine gP ?_;refine ο ?_;refine WK ?_ ?_<;>intro hc1
 .refine UK ?_;refine Vq (gU (VF br bu D) X R) (λw hi hin=>zJ (VF br bu D) X R 6 va w hin) ?_;refine gP ?_;refine bK (gU (VF br bu D) X (R.wt ⟨6,va⟩)++uF bu bb L U) Zj (wB (cs':=[row _ _ _,slv _ _ _ _ _ _,slv _ _ _ _ _ _,row _ _ _,Wg _ _ _ _,row _ _ _]) (.inl I) Zu I I I ?_);rw[hc1];exact fx
 refine wD ?_;refine ZW ?_ ?_<;>intro hc4
 .exact absurd hc4 cJ
 refine UK ?_;refine bQ (Vg [8,14]) Zk (lO ?_);refine UE 2 17 ?_;refine ZG 3 ?_;refine ZE 4 ?_;refine wU ?_;refine pS 5 12 Zk ?_ ?_
 .refine IU ?_;refine Vz ?_;refine pS 8 12 Zk ?_ ?_
  .refine zZ ?_;refine Vz ?_;refine qS ?_;refine cP 12 Zk ?_;refine ZP λb9=>?_
   refine ZE 13 ?_;refine Wq116 ?_;exact Wq396
  refine ZP λb9=>?_
  exact Wx71_
 refine ZP λb9=>?_
 refine cP 5 Zk (IU ?_);refine Vz ?_;exact Wx71_
theorem AA(n:Nat)(R:UG)(U:UI)(va:Nat)(hva:va<=4294967295)(kind:Int):u32 (cu n R U va kind).p:=by unfold cu;exact bL (λW:NR=>u32 W.p) (show u32 0 from⟨by decide,by decide⟩) (fj n U R.sp va hva kind).1
theorem GN(n:Nat)(hn:n<=64)(R:UG)(U:UI)(va:Nat)(hva:va<=4294967295)(kind:Int)(hk:(cu n R U va kind).ok=true)(hd:(cu n R U va kind).r.device=false):(cu n R U va kind).p.toNat+4<=n*64:=by
 obtain⟨hu,hp⟩:=fj n U R.sp va hva kind;unfold cu at hk hd|-;cases hm:(((va%4:Nat):Int) !=0)with
 |true=>rw[hm]at hk;cases hk
 |false=>
  rw[hm]at hk hd;simp only[ac]at hk hd|-;rw[hk]at hd;simp only[bz,aa]at hd;have hc:=hp (by simpa using hk);have h4:va%4=0:=by
   have:((va%4:Nat):Int)=0:=by simpa using hm
   omega
  have h1:=hc.m;have h2:=hu.1;rcases hc.r with h3|h3
  .omega
  simp only[iG,ay,ai]at h3;omega
def eZ(n:Nat)(R:UG)(U:UI)(d:UF)(va v:Nat):eu:=
 bif !(cu n R U va 3).ok then⟨(cu n R U va 3).r,(cu n R U va 3).u,d⟩else
 bif(cu n R U va 3).r.device then
  ⟨bif !(bU n (cu n R U va 3).u.m d (je (cu n R U va 3).p.toNat) v).1 then(cu n R U va 3).r.wt ⟨10,va⟩else(cu n R U va 3).r,⟨(bU n (cu n R U va 3).u.m d (je (cu n R U va 3).p.toNat) v).2.1,(cu n R U va 3).u.t⟩,(bU n (cu n R U va 3).u.m d (je (cu n R U va 3).p.toNat) v).2.2⟩
 else⟨(cu n R U va 3).r,⟨(cu n R U va 3).u.m.TB (cu n R U va 3).p.toNat v,(cu n R U va 3).u.t⟩,d⟩
abbrev pj(br bu bb:Nat)(L:fF)(D:qV)(X:dz)(Y:dJ)(m:eu):List bJ:=gU (VF br bu D) X m.r++uF bu bb L m.u++my D L.bm Y m.d
theorem lode_ok(br bu bb:Nat)(L:fF)(D:qV)(X:dz)(Y:dJ)(R:UG)(U:UI)(d:UF)(l:Li)(va:Nat)(hva:va<=4294967295)(hl:J l<=100000)(hT:J U.t=16)(hroot:u32 R.s.root)(hd:d.wf)
  :CI prog 259 [.p br] (pj br bu bb L D X Y ⟨R.wd (l++[(va:Int)]),U,d⟩) (λv cs=>∃X' Y',v= .tuple #[]/\cs=pj br bu bb L D X' Y' (eP L.n (R.wd l) U d va)):=λw hi=>by
 have HW:=λX=>EQ br bu bb L D X (R.wd l) U hT hroot va hva 2
 have hs:=uo L.n (R.wd l) U va 2;have hu:=AA L.n (R.wd l) U va hva 2;unfold eP;obtain⟨⟨p,ok,r,u⟩,hq⟩:=Do (cu L.n (R.wd l) U va 2);rw[hq]at HW hs hu|-;obtain⟨pn,rfl⟩:∃pn:Nat,p=pn:=aj hu.1;have hpn:pn<=4294967295:=by have:(pn:Int)<=_:=hu.2;omega
 have hs:r.s=(R.wd l).s:=hs;have hdl:J r.s.d<=100000:=by rw[hs];exact hl
 simp only[aV];have HB:=λX=>IH D L.bm X d hd pn r.count
 obtain⟨⟨⟨v,o⟩,d'⟩,hq2⟩:=Do (cE d (je pn) r.count);rw[hq2]at HB|-;have HM:=yN L u.m pn hpn;rw[N7]at HM;obtain⟨⟨v2,o2⟩,hq3⟩:=Do (iW L.n u.m pn);rw[hq3]at HM|-;refine Vb func259 ntmps259 hi ?_;refine Ro ?_;refine US ?_;refine Vq (gU (VF br bu D) X (R.wd l)++uF bu bb L U) (λw hi hin=>HW X w hin) ?_;refine uf ?_ ?_<;>intro hc2
 .refine An ?_;refine bK (pj br bu bb L D X Y ⟨r,u,d⟩) Zj (Wq363 ?_);rw[hc2];exact⟨X,Y,I,I⟩
 refine oO ?_;refine ZW ?_ ?_<;>intro hc4
 .refine bQ (Vg [9]) Zk (lO ?_);refine UE 2 18 ?_;refine wP ?_;refine ZE 6 ?_;refine UE 7 16 ?_;refine ZG 8 ?_;refine kt ?_;refine rX (my D L.bm Y d) (λw hi hin=>HB Y w hin) ?_;rintro _ _ ⟨Y',rfl,rfl⟩;refine ZE 10 ?_;refine ZE 11 ?_;refine r8 ?_;refine ZE 14 ?_;refine fh ?_;refine Wp ?_ ?_<;>intro hc7
  .refine Ri ?_;refine UQ ?_;refine jQ ?_;rintro _ _ ⟨b50,rfl,rfl⟩;refine dH (gU (VF br bu D) X (r.wt ⟨10,va⟩)) (λw hi hin=>jq (VF br bu D) X (r.wt ⟨10,va⟩) _ 1 1 [v] (show J r.s.d+1<=1000000 by omega) w hin (λw' hk=>hi.TU Zi Zh hk)) ?_;rintro _ _ ⟨A',c',rfl,rfl⟩;refine Zn (bK (pj br bu bb L D ⟨A',c',X.Ar,X.cr⟩ Y' ⟨(r.wt ⟨10,va⟩).wd (r.s.d++[v]),u,d'⟩) Zj ?_);refine Xp ?_;rw[lF hc2,tz hc4,gX,tz hc7];exact⟨⟨A',c',X.Ar,X.cr⟩,Y',I,I⟩
  refine UQ ?_;refine jQ ?_;rintro _ _ ⟨b50,rfl,rfl⟩;refine dH (gU (VF br bu D) X r) (λw hi hin=>jq (VF br bu D) X r _ 1 1 [v] (show J r.s.d+1<=1000000 by omega) w hin (λw' hk=>hi.TU Zi Zh hk)) ?_;rintro _ _ ⟨A',c',rfl,rfl⟩;refine Zn (bK (pj br bu bb L D ⟨A',c',X.Ar,X.cr⟩ Y' ⟨r.wd (r.s.d++[v]),u,d'⟩) Zj ?_);refine Xp ?_;rw[lF hc2,tz hc4,gX,lF hc7];exact⟨⟨A',c',X.Ar,X.cr⟩,Y',I,I⟩
 refine UQ ?_;refine Nx ?_;refine ZA ?_;refine UZ (λw hi=>HM w (hi.get Zh)) ?_;refine uf ?_ ?_<;>intro hc7
 .refine Ri ?_;refine UQ ?_;refine jQ ?_;rintro _ _ ⟨b50,rfl,rfl⟩;refine dH (gU (VF br bu D) X (r.wt ⟨10,va⟩)) (λw hi hin=>jq (VF br bu D) X (r.wt ⟨10,va⟩) _ 1 1 [v2] (show J r.s.d+1<=1000000 by omega) w hin (λw' hk=>hi.TU Zi Zh hk)) ?_;rintro _ _ ⟨A',c',rfl,rfl⟩;refine Zn (bK (pj br bu bb L D ⟨A',c',X.Ar,X.cr⟩ Y ⟨(r.wt ⟨10,va⟩).wd (r.s.d++[v2]),u,d⟩) Zj ?_);refine Xp ?_;rw[lF hc2,lF hc4,gX,tz hc7];exact⟨⟨A',c',X.Ar,X.cr⟩,Y,I,I⟩
 refine UQ ?_;refine jQ ?_;rintro _ _ ⟨b50,rfl,rfl⟩;refine dH (gU (VF br bu D) X r) (λw hi hin=>jq (VF br bu D) X r _ 1 1 [v2] (show J r.s.d+1<=1000000 by omega) w hin (λw' hk=>hi.TU Zi Zh hk)) ?_;rintro _ _ ⟨A',c',rfl,rfl⟩;refine Zn (bK (pj br bu bb L D ⟨A',c',X.Ar,X.cr⟩ Y ⟨r.wd (r.s.d++[v2]),u,d⟩) Zj ?_);refine Xp ?_;rw[lF hc2,lF hc4,gX,lF hc7];exact⟨⟨A',c',X.Ar,X.cr⟩,Y,I,I⟩
theorem stow_ok(br bu bb:Nat)(L:fF)(D:qV)(X:dz)(Y:dJ)(R:UG)(U:UI)(d:UF)(l:Li)(va v:Nat)(hva:va<=4294967295)(hv:v<=4294967295)(hT:J U.t=16)(hroot:u32 R.s.root)(hd:d.wf)(ho:J d.out<=1000000000)
  :CI prog 260 [.p br] (pj br bu bb L D X Y ⟨R.wd ((l++[(v:Int)])++[(va:Int)]),U,d⟩) (λx cs=>∃Y',x= .tuple #[]/\cs=pj br bu bb L D X Y' (eZ L.n (R.wd l) U d va v)):=λw hi=>by
 have HW:=EQ br bu bb L D X (R.wd l) U hT hroot va hva 3;have hu:=AA L.n (R.wd l) U va hva 3;obtain⟨n1,n64,_⟩:=mY (hi.ok (fM L U.m) cJ);have hin4:=GN L.n n64 (R.wd l) U va hva 3;unfold eZ;obtain⟨⟨p,ok,r,u⟩,hq⟩:=Do (cu L.n (R.wd l) U va 3);rw[hq]at HW hu hin4|-;obtain⟨pn,rfl⟩:∃pn:Nat,p=pn:=aj hu.1;have hpn:pn<=4294967295:=by have:(pn:Int)<=_:=hu.2;omega
 obtain⟨um,ut⟩:=u;simp only[aV]at hin4|-;have HB:=Er D L um Y d hd ho pn v r.count;obtain⟨⟨o,M',d'⟩,hq2⟩:=Do (bU L.n um d (je pn) v);rw[hq2]at HB|-;have HM:=λh=>uR L um pn v h ⟨by omega,by omega⟩
 obtain⟨M2,hq3⟩:=Do (um.TB pn v);rw[hq3]at HM|-;obtain⟨tt,htt⟩:∃t:Bool,t=true:=⟨_,I⟩;rw[<-htt]at HM;refine Vb func260 ntmps260 hi ?_;refine UN ?_;refine gS (dh (gU (VF br bu D) X (R.wd ((l++[(v:Int)])++[(va:Int)]))) I (λ_ _=>I) Zi (λw hi hin=>o3 (VF br bu D) X R (l++[(v:Int)]) va w hin)) I ?_;refine Vz ?_;refine UU ?_;refine Vq (gU (VF br bu D) X (R.wd (l++[(v:Int)]))) (λw hi hin=>o3 (VF br bu D) X R l v w hin) ?_;refine US ?_;refine Vq (gU (VF br bu D) X (R.wd l)++uF bu bb L U) (λw hi hin=>HW w hin) ?_;refine uf ?_ ?_<;>intro hc3
 .refine An ?_;refine bK (pj br bu bb L D X Y ⟨r,⟨um,ut⟩,d⟩) Zj (Wq363 ?_);rw[hc3];exact⟨Y,I,I⟩
 have hok:ok=true:=(by simpa using hc3);refine yh ?_ ?_<;>intro hc4
 .refine bQ (Vg [10]) Zk (lO ?_);refine UE 2 18 ?_;refine wP ?_;refine wU ?_;refine UE 8 16 ?_;refine ZG 9 ?_;refine cP 10 Zk (rX (my D L.bm Y d++[fM L um]) (λw hi hin=>HB w hin) ?_);rintro _ _ ⟨Y',rfl,rfl⟩;refine ZE 11 ?_;refine fh ?_;refine VJ ?_ ?_<;>intro hc7
  .refine Ri ?_;refine Zn (bK (pj br bu bb L D X Y' ⟨r.wt ⟨10,va⟩,⟨M',ut⟩,d'⟩) Zj ?_);refine Xp ?_;rw[lF hc3,tz hc4,tz hc7];exact⟨Y',I,I⟩
  refine Zc (bK (pj br bu bb L D X Y' ⟨r,⟨M',ut⟩,d'⟩) Zj ?_);refine Xp ?_;rw[lF hc3,tz hc4,lF hc7];exact⟨Y',I,I⟩
 have HM:=HM (hin4 hok hc4);refine UQ ?_;refine Nx ?_;refine An ?_;refine Vq ([fM L um]) (λw hi hin=>HM w hin) ?_;refine Wc ?_ ?_<;>intro hc7
 .refine Ri ?_;refine Zn (bK (pj br bu bb L D X Y ⟨r.wt ⟨10,va⟩,⟨M2,ut⟩,d⟩) Zj ?_);refine Xp ?_;rw[htt]at hc7;exact absurd hc7 cJ
 refine Zc (bK (pj br bu bb L D X Y ⟨r,⟨M2,ut⟩,d⟩) Zj ?_);refine Xp ?_;rw[lF hc3,lF hc4];exact⟨Y,I,I⟩
def kj(n:Nat)(R:UG)(U:UI)(va k:Nat):UG×UI:=((R.wt (i6 n U R.sp va k).1.2).push [(i6 n U R.sp va k).1.1],(i6 n U R.sp va k).2)
def jX(n:Nat)(R:UG)(U:UI)(va k:Nat)(v:Int):UG×UI:=(R.wt (jo n U R.sp va k v).1,(jo n U R.sp va k v).2)
theorem E5(br bu bb:Nat)(L:fF)(D:qV)(X:dz)(R:UG)(U:UI)(l:Li)(va k:Nat)(hva:va<=4294967295)(hk1:1<=k)(hk4:k<=4)(hl:J l<=100000)(hT:J U.t=16)(hroot:u32 R.s.root)
  :CI prog 261 [.p br,.i k,.bool false] (gU (VF br bu D) X (R.wd (l++[(va:Int)]))++uF bu bb L U) (λx cs=>∃X',x= .tuple #[]/\cs=gU (VF br bu D) X' (kj L.n (R.wd l) U va k).1++uF bu bb L (kj L.n (R.wd l) U va k).2):=λw hi=>by
 have hr0:=hroot.1;have hr1:=hroot.2;have hsr:(R.wd l).sp.root<=4294967295:=by show R.s.root.toNat<=_;omega
 have HP:=Oj bu bb L U hT (R.wd l).sp hsr va k hva hk1 hk4;have HS:=uM (VF br bu D) X (R.wd l) hr0;unfold kj;obtain⟨⟨⟨v,ca,ad⟩,U'⟩,hq⟩:=Do (i6 L.n U (R.wd l).sp va k);rw[hq]at HP|-;obtain⟨S,hS⟩:=Do ((R.wd l).sp);rw[hS]at HP HS;refine Vb func261 ntmps261 hi ?_;refine Ro ?_;refine jS ?_;refine Wv ?_;refine ZW ?_ ?_<;>intro hc4
 .exact absurd hc4 cJ
 refine UH ?_ ?_<;>intro hc6
 .exact absurd hc6 cJ
 refine Zs (bQ (Vg [8,14]) Zk ?_);refine lO ?_;refine UE 2 17 ?_;refine ZG 3 ?_;refine ZE 4 ?_;refine wU ?_;refine pS 5 12 Zk ?_ ?_
 .refine IU ?_;refine Vz ?_;refine pS 8 12 Zk ?_ ?_
  .refine zZ ?_;refine Vz ?_;refine qS ?_;refine cP 12 Zk ?_;refine ZP λb8=>?_
   exact θ
  refine ZP λb8=>?_
  refine gg ?_;refine zZ ?_;refine Vz ?_;refine qS ?_;exact θ
 refine ZP λb8=>?_
 refine cP 5 Zk (IU ?_);refine Vz ?_;refine gg ?_;refine zZ ?_;refine Vz ?_;refine qS ?_;exact θ
theorem E4(br bu bb:Nat)(L:fF)(D:qV)(X:dz)(R:UG)(U:UI)(l:Li)(va k:Nat)(v:Int)(hva:va<=4294967295)(hk1:1<=k)(hk4:k<=4)(hl:J l<=100000)(hT:J U.t=16)(hroot:u32 R.s.root)
  :CI prog 261 [.p br,.i k,.bool true] (gU (VF br bu D) X (R.wd ((l++[v])++[(va:Int)]))++uF bu bb L U) (λx cs=>x= .tuple #[]/\cs=gU (VF br bu D) X (jX L.n (R.wd l) U va k v).1++uF bu bb L (jX L.n (R.wd l) U va k v).2):=λw hi=>by
 have hr0:=hroot.1;have hr1:=hroot.2;have hsr:(R.wd l).sp.root<=4294967295:=by show R.s.root.toNat<=_;omega
 have HP:=JE bu bb L U hT (R.wd l).sp hsr va k v hva hk1 hk4;have HS:=uM (VF br bu D) X (R.wd (l++[v])) hr0;unfold jX;obtain⟨⟨⟨ca,ad⟩,U'⟩,hq⟩:=Do (jo L.n U (R.wd l).sp va k v);rw[hq]at HP|-;obtain⟨S,hS⟩:=Do ((R.wd l).sp);rw[show(R.wd (l++[v])).sp=(R.wd l).sp from I,hS]at HS;rw[hS]at HP;refine Vb func261 ntmps261 hi ?_;refine UN ?_;refine Vq (gU (VF br bu D) X (R.wd ((l++[v])++[(va:Int)]))) (λw hi hin=>o3 (VF br bu D) X R (l++[v]) va w hin) ?_;refine jS ?_;refine Wv ?_;refine ZW ?_ ?_<;>intro hc4
 .exact absurd hc4 cJ
 refine UH ?_ ?_<;>intro hc6
 .refine bQ (Vg [9,11,14]) Zk (CA ?_);refine UE 3 17 ?_;refine ZE 5 ?_;refine ZE 7 ?_;refine ZE 8 ?_;refine ZE 10 ?_;refine pS 4 6 Zk ?_ ?_
  .refine m4 ?_;refine cP 6 Zk (IU ?_);refine Vz ?_;refine kt ?_;refine ι ?_;refine Vz ?_;exact Wx8_
  refine IU ?_;refine Vz ?_;refine pS 4 9 Zk ?_ ?_
  .refine m4 ?_;refine kt ?_;refine ι ?_;refine Vz ?_;exact Wx8_
  refine ι ?_;refine Vz ?_;refine ZG 4 ?_;exact Wx8_
 exact absurd hc6 cJ
end
end Go.Ink
