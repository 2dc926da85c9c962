/- Lemmas. -/
import Derived.Test.YtkegldppffignaaGreatDoorPaa
import Derived.Test.YtkegldppffignaaGreatDoorPab
import Derived.Test.YtkegldppffignaaGreatDoorPac
import Derived.Test.YtkegldppffignaaGreatDoorPam
import Derived.Test.YtkegldppffignaaGreatDoorPao
set_option linter.unusedSimpArgs false
set_option linter.unusedVariables false
set_option maxRecDepth 100000
set_option maxHeartbeats 4000000
namespace Go.Ink
open Go.RowKit
def cM(b:List Int):Nat->Nat->List (Int×Int)×Nat×Bool
 |0,sz=>([],sz,false)
 |k+1,sz=>match dw (b.drop sz)with
  |none=>([],sz,false)
  |some (i,z)=>bif dB i.1 then(bif fN i.1 then([i],sz+z,true)else(i::(cM b k (sz+z)).1,(cM b k (sz+z)).2.1,(cM b k (sz+z)).2.2))else([],sz,false)
inductive lp (b:List Int):Nat->List (Int×Int)->Nat->Prop
 |nil (o:Nat):lp b o [] o
 |cons {o z e:Nat} {i:Int×Int} {l:List (Int×Int)} (h:dw (b.drop o)=some (i,z)) (t:lp b (o+z) l e):lp b o (i::l) e
theorem oz{b:List Int}{i:Int×Int}{z:Nat}(h:dw b=some (i,z)):z=(cA i.1).toNat/\0<cA i.1/\z<=b.length/\∀b':List Int,b'.take z=b.take z->dw b'=some (i,z):=by
 cases b with
 |nil=>cases h
 |cons op l=>
  have h:(bif cA op==0 then none else bif decide ((l.length:Int)+1<cA op)then none else some ((op,zI (l.take ((cA op).toNat - 1))),(cA op).toNat))=some (i,z):=h;cases h0:cA op==0 with
  |true=>grind
  |false=>
  cases h1:decide ((l.length:Int)+1<cA op)with
  |true=>grind
  |false=>
  rw[h0,h1]at h;simp only[aa,aU,aV]at h;obtain⟨rfl,rfl⟩:=h;simp only[beq_eq_false_iff_ne,ah]at h0 h1;have hz:cA op=0\/cA op=1\/cA op=2\/cA op=5:=iL op;refine⟨rfl,by grind,by grind,λb' hb=>?_⟩;obtain⟨m,hm⟩:∃m:Nat,(cA op).toNat=m+1:=⟨(cA op).toNat - 1,by omega⟩;rw[hm]at hb|-;cases b' with
  |nil=>grind
  |cons op' l'=>
   grind [pW,List.cons.injEq,List.length,List.length_take]
theorem lp.le{b:List Int}{o e:Nat}{l:List (Int×Int)}(h:lp b o l e):o<=e:=by
 induction h with
 |nil=>omega
 |cons h t ih=>omega
theorem lp.ends{b:List Int}{o e:Nat}{l:List (Int×Int)}(h:lp b o l e)(hl:l≠[]):e<=b.length/\o<e:=by
 induction h with
 |nil=>grind
 | @cons o z e i l h t ih=>
  obtain⟨h1,h2,h3, -⟩:=oz h;rw[bI]at h3;have hle:=t.le;have hz:0<z:=by omega
  cases l with
  |nil=>cases t;omega
  |cons j l=>grind
theorem lp.stay{b b':List Int}{o e:Nat}{l:List (Int×Int)}(h:lp b o l e)(hb:b'.take e=b.take e):lp b' o l e:=by
 induction h with
 |nil=>exact .nil _
 | @cons o z e i l h t ih=>
  obtain⟨-, -, -,h4⟩:=oz h;refine .cons (h4 _ ?_) (ih hb);have hle:=t.le;rw[List.take_drop,List.take_drop,show(b'.take (o+z))=(b'.take e).take (o+z) by grind,hb,List.take_take,Nat.min_eq_left hle]
theorem lU(b:List Int):∀(k sz:Nat),lp b sz (cM b k sz).1 (cM b k sz).2.1/\(cM b k sz).1.length<=k/\((cM b k sz).1≠[]->(cM b k sz).2.2=fN ((cM b k sz).1.getLastD (0,0)).1)/\((cM b k sz).1=[]->(cM b k sz).2.2=false)
 |0,sz=>⟨.nil sz,aM _,λh=>absurd rfl h,λ_=>rfl⟩
 |k+1,sz=>by
  unfold cM;cases hd:dw (b.drop sz)with
  |none=>exact⟨.nil sz,aq _,λh=>absurd rfl h,λ_=>rfl⟩
  |some q=>
   obtain⟨i,z⟩:=q;dsimp only;cases hp:dB i.1 with
   |false=>exact⟨.nil sz,aq _,λh=>absurd rfl h,λ_=>rfl⟩
   |true=>
    rw[ac];cases he:fN i.1 with
    |true=>exact⟨.cons hd (.nil _),by simp,λ_=>he.symm,λh=>by cases h⟩
    |false=>
     rw[aa];obtain⟨h1,h2,h3,h4⟩:=lU b k (sz+z);refine⟨.cons hd h1,Nat.succ_le_succ h2,λ_=>?_,λh=>by cases h⟩
     grind
theorem lp.u32{b:List Int}(hb:u8s b){o e:Nat}{l:List (Int×Int)}(h:lp b o l e):∀i,i∈l->u32 i.2:=by
 induction h with
 |nil=>grind
 | @cons o z e i l h t ih=>
  intro j hj;rcases aJ.1 hj with rfl|hj
  .obtain⟨op,nn⟩:=j;exact(nh (λx hx=>hb x (List.mem_of_mem_drop hx)) h).1
  grind
theorem CO{b:Bool}{x y:Run}{h:Bool}(hx:x.s.halted=h)(hy:y.s.halted=h):(bif b then x else y).s.halted=h:=by grind
theorem yx{op nn:Int}{s:St}(h:dB op=true):(doN s op nn).s.halted=s.halted:=by
 have hm:(yH s op nn).s.halted=s.halted:=by
  have hc:op=0\/op=1\/op=2\/op=3\/op=4\/op=5\/op=6\/op=7\/op=8\/op=16\/op=17\/op=18\/op=19\/op=20\/op=21\/op=22\/op=23\/op=25\/op=32\/op=33\/op=34\/op=35\/op=36\/op=37\/op=38\/op=39\/op=40:=by
   rcases jp h with h|h|h|h<;>omega
  rcases hc with rfl|rfl|rfl|rfl|rfl|rfl|rfl|rfl|rfl|rfl|rfl|rfl|rfl|rfl|rfl|rfl|rfl|rfl|rfl|rfl|rfl|rfl|rfl|rfl|rfl|rfl|rfl<;>
  first
  |exact rfl
  |exact CO rfl rfl
  |exact CO (b:=(iN _ (eY s _).pop.top (eY s _).top).2.2) (x:=(eY s _).pop.pop) (y:=(eY s _).pop.pop.wt ⟨5,0⟩) rfl rfl
 unfold doN;cases s.right with
 |false=>rfl
 |true=>
  simp only[Bool.not_true,aa];cases(eH s op nn !=0)with
  |true=>rfl
  |false=>
   rw[aa];unfold Mz;cases((yH s op nn).M3.MR !=0)with
   |true=>rfl
   |false=>exact hm
theorem ME{b:Bool}{x y:Run}{h:Int}(hx:x.s.pc=h)(hy:y.s.pc=h):(bif b then x else y).s.pc=h:=by grind
theorem Kk{op nn:Int}{s s1:St}(h:dB op=true)(hr:s.right=true)(he:fN op=false)(hd:doN s op nn=⟨s1,false,false,[]⟩):s1.pc=ee s op:=by
 have hlt:=Iu h he;have hm:(yH s op nn).s.pc=ee s op:=by
  have hc:op=0\/op=1\/op=2\/op=3\/op=4\/op=5\/op=6\/op=7\/op=8\/op=16\/op=17\/op=18\/op=19\/op=20\/op=21\/op=22\/op=23\/op=25:=by
   rcases jp h with h|h|h|h<;>omega
  rcases hc with rfl|rfl|rfl|rfl|rfl|rfl|rfl|rfl|rfl|rfl|rfl|rfl|rfl|rfl|rfl|rfl|rfl|rfl<;>
  first
  |exact rfl
  |exact ME rfl rfl
  |exact ME (b:=(iN _ (eY s _).pop.top (eY s _).top).2.2) (x:=(eY s _).pop.pop) (y:=(eY s _).pop.pop.wt ⟨5,0⟩) rfl rfl
 grind [doN,eH,Mz,yH]
theorem Km(p:Int)(va:Nat):(qT p va).toNat%64=va%64/\0<=qT p va:=by
 grind [qT,IntKind.wrap_u32]
theorem Dn(n:Nat)(U:Mmu)(s:Sp)(va:Nat)(kind:Int)(h:(dg n U s va kind).1.2.MR=0):(dg n U s va kind).1.1.toNat%64=va%64:=by
 grind [dg,uJ,om,z5,asked,Km,ic]
theorem Gy(n:Nat)(U:Mmu)(s:Sp)(va:Nat)(h:(cP n U s va 1).1.2.MR=0):(cP n U s va 1).1.1.toNat%64=va%64/\(cP n U s va 1).1.1<((n*64:Nat):Int):=by
 grind [fault,cP,dg,Dn]
theorem uj{n:Nat}{s:St}{U:Mmu}{d:Dev}(h:GOk n s U d)(hr:(dI n s U d).runs=true):(dI n s U d).place.toNat%64=(dI n s U d).s.pc.toNat%64/\(dI n s U d).place<((n*64:Nat):Int):=by
 grind [dI,mf,cP,told,Gy]
theorem vm{n MY:Nat}(hn:n<=1000000)(hpg:MY<n):∀(l:List (Int×Int)) {s s2:St} (o k:Nat) {e:Nat} {U:Mmu} (d:Dev),l≠[]->EN l s s2->l.length<=k->lp ((U.m.data.drop (MY*64)).take 64) o l e->0<=s.pc->s.pc<=4294967295->s.pc.toNat%64=o->s.halted=false->
  s2.halted=false/\(fN (l.getLastD (0,0)).1=false->s2.pc=IntKind.u32.wrap (s.pc+((e:Int) - (o:Int))))/\dZ n MY k s (MY*64+o) U d=bif fN (l.getLastD (0,0)).1||s2.pc/64 !=s.pc/64 then(s2,⟨U.m.calm,U.t⟩,d)else dZ n MY (k - l.length) s2 (MY*64+e) ⟨U.m.calm,U.t⟩ d
 |[],_,_,_,_,_,_,_,hl,_,_,_,_,_,_,_=>absurd rfl hl
 |(op,nn)::l,s,s2,o,0,e,U,d,_,_,hk,_,_,_,_,_=>by simp at hk
 |(op,nn)::l,s,s2,o,k+1,e,U,d,_,hc,hk,hs,p0,p1,hpo,hh=>by
  have hse:=(hs.ends cE);rw[aB]at hse;cases hc with
  | @cons _ _ _ _ s1 _ hp hr hdo hm hc=>
  cases hs with
  | @cons _ z _ _ _ hd hs=>
  obtain⟨hz1,hz2,hz3, -⟩:=oz hd;dsimp only at hz1 hz2;have hle:=hs.le;have hf:cZ n U.m (MY*64+o)=some ((op,nn),z):=by
   unfold cZ;have e1:(MY*64+o)/64=MY:=by omega
   have e2:(MY*64+o)%64=o:=by omega
   rw[e1,e2,ax hpg,ac];exact hd
  obtain⟨hpd, -, -⟩:=BY (n:=n) (nn:=nn) (U:=U) (d:=d) hp hr;rw[hdo]at hpd;have hh1:s1.halted=false:=by
   have:=yx (s:=s) (nn:=nn) hp;rw[hdo]at this;exact this.trans hh
  have e64:(MY*64+o+z)%4294967296=MY*64+(o+z):=by omega
  cases l with
  |nil=>
   cases hc
   cases hs
   refine⟨hh1,λhe=>?_,?_⟩
   .rw[Kk hp hr he hdo]
    grind [ee,IntKind.wrap_u32]
   grind [dZ,fN,jg]
  |cons j l=>
   obtain⟨he,hpc⟩:=hm cE;have hse2:=(hs.ends cE).2;have hpc1:s1.pc=s.pc+z:=by
    rw[hpc];unfold ee;rw[aE,aE];omega
   have ih:=vm hn hpg (j::l) (s:=s1) (s2:=s2) (o+z) k (e:=e) (U:=⟨U.m.calm,U.t⟩) d cE hc (by grind) hs Wq1 Wq1 Wq1 hh1;refine⟨ih.1,λhe=>?_,?_⟩
   .grind
   have hlast:(((op,nn)::j::l).getLastD (0,0))=((j::l).getLastD (0,0)):=rfl;have hq:s1.pc/64=s.pc/64:=by omega
   conv=>lhs;unfold dZ
   rw[hf];dsimp only;rw[hpd];dsimp only;rw[e64];unfold jg;dsimp only;rw[hh1,he];have hcon:List.contains ([]:List Int) ((MY:Nat):Int)=false:=rfl;rw[hcon];simp only[Bool.or_false,aa];rw[show(s1.pc/64==s.pc/64)=true by grind,ac,ih.2.2,hlast,hq];rw[show(k+1) - (((op,nn)::j::l)).length=k - (j::l).length by simp]
   rfl
structure Blk where
 key:Ky
 code:List HI
 count:Int
structure Rn where
 bytes:List Int
 ends:Bool
def Rn.zero:Rn:=⟨[],false⟩
def sU{α:Type}(key:α->Ky)(room:Int)(l:List α)(t:α):List α:=match cS key (key t) l with
 |some j=>l.set j t
 |none=>bif decide (room<=(l.length:Int))then[t]else l++[t]
def uM{β:Type}(l:List Blk)(L:List (Ky×β)):List (Ky×β):=L.filter λx=>l.any λt=>t.key==x.1
structure Eng where
 room:Int
 l:List Blk
 runs:List (Ky×Rn)
 last:Ky
 Nk:Int
 Nh:Int
 begun:Bool
def Eng.fresh(room:Int):Eng:=⟨room,[],[],(0,0),0,0,false⟩
def yP(E:Eng)(k:Ky)(b:List Int):Option (Blk×Rn):=match E.l.find? (λt=>t.key==k)with
 |some t=>bif(gq E.runs k Rn.zero).bytes.isPrefixOf b then some (t,gq E.runs k Rn.zero)else none
 |none=>none
def s8(k:Ky)(b:List Int):Option (Blk×Rn):=match fJ k.1 (cM b 8 0).1 with
 |none=>none
 |some p=>bif p.M0 then some (⟨k,gQ p (dV p),((cM b 8 0).1.length:Int)⟩,⟨b.take (cM b 8 0).2.1,(cM b 8 0).2.2⟩)else none
def addE(E:Eng)(t:Blk)(r:Rn):Eng:=
 let l':=sU Blk.key E.room E.l t
 let L:=dL E.runs t.key r
 {E with l:=l',runs:=bif decide (l'.length<L.length)then uM l' L else L}
def lj(E:Eng)(k:Ky)(b:List Int):Option (Blk×Rn)×Eng:=match yP E k b with
 |some q=>(some q,E)
 |none=>match s8 k b with
  |some q=>(some q,addE E q.1 q.2)
  |none=>(none,E)
def jF(E:Eng)(s:St)(place:Int)(b:List Int):Option (St×Rn×Int)×Eng:=match lj E (s.pc,place) b with
 |(none,E')=>(none,E')
 |(some (t,r),E')=>bif(iE t.code s).2==1 then(some ((iE t.code s).1,r,t.count),{E' with last:=(s.pc,place),begun:=true,Nk:=IntKind.i64.wrap (E'.Nk+t.count)})else(none,E')
def IA(E:Eng)(MK:List Int):Eng:=
 let l':=E.l.filter λt=> !MK.contains (t.key.2/64)
 {E with l:=l',runs:=bif decide (l'.length<E.l.length)then uM l' E.runs else E.runs}
def mA(E:Eng)(MK:List Int):Eng:=bif MK.isEmpty then E else IA E MK
def jH(n:Nat)(MY:Nat):Nat->St->Nat->Mmu->Dev->Eng->(St×Mmu×Dev)×Eng
 |0,s,_,U,d,E=>((s,U,d),E)
 |k+1,s,p,U,d,E=>match cZ n U.m p with
  |none=>((s.next.M3 1 0,U,d),{E with Nh:=IntKind.i64.wrap (E.Nh+1)})
  |some ((op,nn),sz)=>
   let q:=mq n s op nn U d
   let E':=mA {E with Nh:=IntKind.i64.wrap (E.Nh+1)} q.1.MK
   bif jg op q.1 MY s.pc then jH n MY k q.1.s ((p+sz)%4294967296) q.2.1 q.2.2 E' else((q.1.s,q.2.1,q.2.2),E')
def iK(M:Mem)(p:Nat):List Int:=((M.data.drop (p/64*64)).take 64).drop (p%64)
def doE(n:Nat)(s:St)(U:Mmu)(d:Dev)(E:Eng):(St×Mmu×Dev)×Eng:=
 let b:=dI n s U d
 bif b.runs then
  match jF E b.s b.place (iK b.u.m b.place.toNat)with
  |(none,E')=>jH n (b.place.toNat/64) 8 b.s b.place.toNat b.u b.d E'
  |(some (o,r,c),E')=>bif(r.ends&&decide (0<c))||o.pc/64 !=b.s.pc/64 then((o,⟨b.u.m.calm,b.u.t⟩,b.d),E')
    else jH n ((b.place.toNat+r.bytes.length)%4294967296/64) (8 - c).toNat o ((b.place.toNat+r.bytes.length)%4294967296) ⟨b.u.m.calm,b.u.t⟩ b.d E'
 else((b.s,b.u,b.d),{E with Nh:=IntKind.i64.wrap (E.Nh+IntKind.i64.wrap (IntKind.u64.wrap (b.s.count - s.count)))})
theorem KE{α:Type}{key:α->Ky}{room:Int}{l:List α}{t x:α}(h:x∈sU key room l t):x=t\/(x∈l/\(∀y,y∈l->(l.map key).Nodup->key x≠key t)):=by
 unfold sU at h;cases hp:cS key (key t) l with
 |some j=>
  rw[hp]at h;dsimp only at h;obtain⟨hj,hk⟩:=fH hp;obtain⟨i,hi,rfl⟩:=List.getElem_of_mem h;rw[List.getElem_set];by_cases e:j=i
  .grind
  rw[if_neg e];have hi':i<l.length:=by simpa using hi
  refine Or.inr ⟨List.getElem_mem _,λy _ hn hke=>e ?_⟩;rw[<-hk]at hke;exact((List.getElem_inj (xs:=l.map key) (h₀:=by grind) (h₁:=by grind) hn).1 (by grind)).symm
 |none=>
  grind [iF]
theorem Gi{α:Type}{key:α->Ky}{room:Int}{l:List α}{t:α}:t∈sU key room l t:=by
 unfold sU;cases hp:cS key (key t) l with
 |some j=>obtain⟨hj, -⟩:=fH hp;grind [List.mem_iff_getElem]
 |none=>grind
theorem ql{α:Type}{key:α->Ky}{room:Int}{l:List α}{t:α}(h:(l.map key).Nodup):((sU key room l t).map key).Nodup:=by
 grind [sU,cS,fH,iF,List.map_set,List.set_getElem_self,decide,List.nodup_append]
theorem Ki{α:Type}{key:α->Ky}{room:Int}{l:List α}{t:α}(h1:1<=room)(h:(l.length:Int)<=room):((sU key room l t).length:Int)<=room:=by
 grind [sU,cS]
theorem wM{β:Type}(L:List (Ky×β))(k:Ky)(v:β):dL L k v=sU (·.1) ((L.length:Int)+1) L (k,v):=by
 grind [dL,sU,cS]
theorem J4{β:Type}{L:List (Ky×β)}{k:Ky}{v:β}(z:β)(hn:(L.map (·.1)).Nodup)(h:(k,v)∈L):gq L k z=v:=by
 unfold gq;cases hf:L.find? (λx=>x.1==k)with
 |none=>grind
 |some x=>
  have h1:=List.mem_of_find?_eq_some hf;have h2:=List.find?_some hf;have h3:x.1=k:=by simpa using h2
  obtain⟨i,hi,rfl⟩:=List.getElem_of_mem h1;obtain⟨j,hj,hje⟩:=List.getElem_of_mem h;have:i=j:=(List.getElem_inj (xs:=L.map (·.1)) (h₀:=by grind) (h₁:=by grind) hn).1 (by grind)
  grind
theorem jS{α:Type}{key:α->Ky}{l:List α}(f:α->Bool)(h:(l.map key).Nodup):((l.filter f).map key).Nodup:=by grind
def Good(t:Blk)(r:Rn):Prop:=∃p il,fJ t.key.1 il=some p/\p.M0=true/\t.code=gQ p (dV p)/\t.count=(il.length:Int)/\lp r.bytes 0 il r.bytes.length/\(∀i,i∈il->u32 i.2)/\r.ends=fN (il.getLastD (0,0)).1
structure iH(E:Eng):Prop where
 room:1<=E.room/\E.room<=1024
 len:(E.l.length:Int)<=E.room
 keys:(E.l.map Blk.key).Nodup
 N0:(E.runs.map (·.1)).Nodup
 NJ:∀t,t∈E.l->∃r,(t.key,r)∈E.runs/\Good t r
theorem iH.fresh{room:Int}(h:1<=room/\room<=1024):iH (Eng.fresh room):=⟨h,by show((0:Nat):Int)<=room;omega,by simp[Eng.fresh],by simp[Eng.fresh],λt ht=>by cases ht⟩
theorem iH.same{E E':Eng}(h:iH E)(h1:E'.room=E.room)(h2:E'.l=E.l)(h3:E'.runs=E.runs):iH E':=⟨by rw[h1];exact h.room,by simp_all [h.len],by rw[h2];exact h.keys,by rw[h3];exact h.N0,by simp_all [h.NJ]⟩
theorem yI{β:Type}{l:List Blk}{L:List (Ky×β)}{t:Blk}{r:β}(ht:t∈l)(h:(t.key,r)∈L):(t.key,r)∈uM l L:=List.mem_filter.2 ⟨h,List.any_eq_true.2 ⟨t,ht,by simp⟩⟩
theorem iH.drop{E:Eng}(h:iH E)(MK:List Int):iH (IA E MK):=by
 refine⟨h.room,?_,jS _ h.keys,?_,λt ht=>?_⟩
 .have:((E.l.filter λt=> !MK.contains (t.key.2/64)).length)<=E.l.length:=List.length_filter_le _ _;have:=h.len;show(((E.l.filter λt=> !MK.contains (t.key.2/64)).length:Nat):Int)<=E.room;omega
 .show((bif _ then uM _ E.runs else E.runs).map (·.1)).Nodup;cases decide ((E.l.filter λt=> !MK.contains (t.key.2/64)).length<E.l.length)with
  |true=>exact jS _ h.N0
  |false=>exact h.N0
 have ht:t∈E.l.filter λt=> !MK.contains (t.key.2/64):=ht
 obtain⟨r,h1,h2⟩:=h.NJ t (List.mem_filter.1 ht).1;refine⟨r,?_,h2⟩;show(t.key,r)∈(bif _ then uM _ E.runs else E.runs)
 grind [yI]
theorem iH.turn{E:Eng}(h:iH E)(MK:List Int):iH (mA E MK):=by
 unfold mA;cases MK.isEmpty with
 |true=>exact h
 |false=>exact h.drop MK
theorem iH.add{E:Eng}(h:iH E){t:Blk}{r:Rn}(hg:Good t r):iH (addE E t r):=by
 have hl:(t.key,r)∈dL E.runs t.key r:=by rw[wM];exact Gi
 have hn:((dL E.runs t.key r).map (·.1)).Nodup:=by rw[wM];exact ql h.N0
 have hgo:∀x,x∈sU Blk.key E.room E.l t->∃r',(x.key,r')∈dL E.runs t.key r/\Good x r':=λx hx=>by
  rcases KE hx with rfl|⟨h1,h2⟩
  .grind
  obtain⟨r',h3,h4⟩:=h.NJ x h1;refine⟨r',?_,h4⟩;have hne:=h2 x h1 h.keys
  grind [dL,cS,fH,List.mem_append_left,List.getElem_of_mem,List.mem_iff_getElem]
 refine⟨h.room,Ki h.room.1 h.len,ql h.keys,?_,λx hx=>?_⟩
 .show((bif _ then uM _ _ else _).map (·.1)).Nodup;cases decide ((sU Blk.key E.room E.l t).length<(dL E.runs t.key r).length)with
  |true=>exact jS _ hn
  |false=>exact hn
 obtain⟨r',h1,h2⟩:=hgo x hx;refine⟨r',?_,h2⟩;show(x.key,r')∈(bif _ then uM _ _ else _);cases decide ((sU Blk.key E.room E.l t).length<(dL E.runs t.key r).length)with
 |true=>exact yI hx h1
 |false=>exact h1
theorem pT{E:Eng}(h:iH E){k:Ky}{b:List Int}(hb:u8s b):iH (lj E k b).2/\(lj E k b).2.room=E.room/\(lj E k b).2.Nk=E.Nk/\(lj E k b).2.Nh=E.Nh/\∀t r,(lj E k b).1=some (t,r)->
  ∃p il,fJ k.1 il=some p/\p.M0=true/\t.code=gQ p (dV p)/\t.count=(il.length:Int)/\lp b 0 il r.bytes.length/\(∀i,i∈il->u32 i.2)/\r.ends=fN (il.getLastD (0,0)).1:=by
 unfold lj;cases hk:yP E k b with
 |some q=>
  refine⟨h,rfl,rfl,rfl,λt r e=>?_⟩;obtain rfl:q=(t,r):=ay e;unfold yP at hk;cases hf:E.l.find? (λt=>t.key==k)with
  |none=>grind
  |some t'=>
   rw[hf]at hk;dsimp only at hk;cases hpre:(gq E.runs k Rn.zero).bytes.isPrefixOf b with
   |false=>grind
   |true=>
    rw[hpre,ac,aU,aV]at hk;obtain⟨rfl,hr⟩:=hk;have hkey:t'.key=k:=by simpa using List.find?_some hf
    obtain⟨r',h1,p,il,g1,g2,g3,g4,g5,g6,g7⟩:=h.NJ t' (List.mem_of_find?_eq_some hf);have e1:=J4 Rn.zero h.N0 h1;rw[hkey]at e1 g1;rw[e1]at hr hpre;subst hr;have hpr:b.take r'.bytes.length=r'.bytes:=by
     obtain⟨y,rfl⟩:=List.isPrefixOf_iff_prefix.1 hpre;exact List.take_left
    exact⟨p,il,g1,g2,g3,g4,g5.stay (by grind),g6,g7⟩
 |none=>
  cases hm:s8 k b with
  |none=>grind
  |some q=>
   obtain⟨t,r⟩:=q;unfold s8 at hm;cases hl:fJ k.1 (cM b 8 0).1 with
   |none=>grind
   |some p=>
    rw[hl]at hm;dsimp only at hm;cases hr:p.M0 with
    |false=>grind
    |true=>
     rw[hr,ac,aU,aV]at hm;obtain⟨rfl,rfl⟩:=hm;obtain⟨s1,s2,s3,s4⟩:=lU b 8 0;have hne:(cM b 8 0).1≠[]:=λe=>by
      grind [fJ]
     have hse:=s1.ends hne;have hlen:(b.take (cM b 8 0).2.1).length=(cM b 8 0).2.1:=by rw[aB];omega
     have hu:=s1.u32 hb;refine⟨h.add ⟨p,_,hl,hr,rfl,rfl,?_,hu,s3 hne⟩,rfl,rfl,rfl,λt r e=>?_⟩
     .dsimp only;rw[hlen];exact s1.stay (by grind)
     grind
structure CT(E E':Eng)(c:Nat):Prop where
 Nk:0<=E.Nk->0<=E.Nh->E.Nk+E.Nh+c<=1000000000->0<=E'.Nk/\0<=E'.Nh/\E'.Nk+E'.Nh=E.Nk+E.Nh+c/\E.Nk<=E'.Nk
 room:E'.room=E.room
theorem Fs(E:Eng)(MK:List Int):(mA E MK).Nk=E.Nk/\(mA E MK).Nh=E.Nh/\(mA E MK).room=E.room:=by
 unfold mA;cases MK.isEmpty<;>exact⟨rfl,rfl,rfl⟩
theorem wR{n MY:Nat}:∀(k:Nat) {s:St} (p:Nat) {U:Mmu} {d:Dev} {E:Eng},GOk n s U d->iH E->(jH n MY k s p U d E).1=dZ n MY k s p U d/\iH (jH n MY k s p U d E).2/\
  ∃c:Nat,c<=k/\CT E (jH n MY k s p U d E).2 c/\(dZ n MY k s p U d).1.count=IntKind.u64.wrap (s.count+(c:Int))
 |0,s,p,U,d,E,h,hE=>⟨rfl,hE,0,aM _,⟨λh1 h2 _=>⟨h1,h2,by show E.Nk+E.Nh=_;omega,Int.le_refl _⟩,rfl⟩,by
   show s.count=IntKind.u64.wrap (s.count+0);have:=h.wf.count;rw[aQ];omega⟩
 |k+1,s,p,U,d,E,h,hE=>by
  have hw:∀x:Int,0<=x->x<=1000000000->IntKind.i64.wrap (x+1)=x+1:=λx h1 h2=>by rw[bK];omega
  unfold jH dZ;cases hf:cZ n U.m p with
  |none=>exact⟨rfl,hE.same rfl rfl rfl,1,by omega,⟨λh1 h2 h3=>⟨h1,by grind,by grind,Int.le_refl _⟩,rfl⟩,rfl⟩
  |some o=>
   obtain⟨⟨op,nn⟩,z⟩:=o;obtain⟨f1, -⟩:=mb h.u.m hf;have hg:=tU (op:=op) (nn:=nn) h.wf h.right f1 h.u h.dv;have hl:=rZ (n:=n) (op:=op) (nn:=nn) (s:=s) (U:=U) h.lines;obtain⟨⟨q,U1,d1⟩,hq⟩:=Zgn (mq n s op nn U d);rw[hq]at hg hl;obtain⟨g1,g2,g3,g4,g5,g6⟩:=hg;dsimp only at g1 g2 g3 g4 g5 g6 hl|-;rw[hq];dsimp only;have hE1:iH {E with Nh:=IntKind.i64.wrap (E.Nh+1)}:=hE.same rfl rfl rfl;have hE2:=hE1.turn q.MK;obtain⟨u1,u2,u3⟩:=Fs {E with Nh:=IntKind.i64.wrap (E.Nh+1)} q.MK;obtain⟨E2,hE2e⟩:=Zgn (mA {E with Nh:=IntKind.i64.wrap (E.Nh+1)} q.MK);rw[hE2e]at hE2 u1 u2 u3|-;dsimp only at u1 u2 u3;have hu:CT E E2 1:=⟨λh1 h2 h3=>by
    grind,u3⟩
   cases jg op q MY s.pc with
   |false=>grind
   |true=>
    rw[ac,ac];obtain⟨r1,r2,c,r3,r4,r5⟩:=wR k ((p+z)%4294967296) (s:=q.s) (U:=U1) (d:=d1) (E:=E2) ⟨g1,g2,g4,g5,hl⟩ hE2;refine⟨r1,r2,c+1,by omega,⟨λh1 h2 h3=>?_,r4.room.trans u3⟩,?_⟩
    .obtain⟨a1,a2,a3,a4⟩:=hu.Nk h1 h2 Wq1;obtain⟨b1,b2,b3,b4⟩:=r4.Nk a1 a2 Wq1;omega
    rw[r5,g3,nz,show(1:Int)+(c:Int)=((c+1:Nat):Int) by omega]
theorem mG{w0:World}{S:List Nat}{cs:List bL}{e sz n c o bb:Nat}{xs vs:List Value}(hc:Has cs (slv e sz (some ⟨bb,0,none⟩) n c xs))(hv:∀i v,vs[i]? =some v->xs[o+i]? =some v):∀w,Inv w0 S cs w->cells (ff ⟨bb,o,none⟩ 0 vs) w:=λw hi z hz=>by
 obtain⟨j,h1,h2⟩:=ia hz;have:=(hi.rd hc).at_ _ rfl (o+j) z.2 (hv j z.2 h1);rw[Addr.add_lit,bE]at this;rw[h2,Addr.add_lit,bE];exact this
theorem pU{α:Type}{l:List α}{k:Nat}{x:α}(h:l[k]? =some x):l.drop k=x::l.drop (k+1):=by
 obtain⟨h1,h2⟩:=au.1 h;rw[List.drop_eq_getElem_cons h1,h2]
theorem pR{α:Type}{f:α->List Value}{sz:Nat}(hf:∀a,(f a).length=sz):∀(l:List α) (i:Nat),(l.flatMap f).take (i*sz)=(l.take i).flatMap f
 |[],i=>by simp
 |x::l,0=>by simp
 |x::l,i+1=>by
  rw[List.flatMap_cons,List.take_succ_cons,List.flatMap_cons,<-pR hf l i,show(i+1)*sz=(f x).length+i*sz by rw[hf,Nat.succ_mul];omega,List.take_length_add_append]
theorem zd{α:Type}{f:α->List Value}{sz:Nat}(hf:∀a,(f a).length=sz):∀(l:List α) (i:Nat),(l.flatMap f).drop (i*sz)=(l.drop i).flatMap f
 |[],i=>by simp
 |x::l,0=>by simp
 |x::l,i+1=>by
  rw[List.flatMap_cons,List.drop_succ_cons,<-zd hf l i,show(i+1)*sz=(f x).length+i*sz by rw[hf,Nat.succ_mul];omega,List.drop_length_add_append]
theorem xw{α:Type}{f:α->List Value}{sz:Nat}(hf:∀a,(f a).length=sz){l:List α}{i:Nat}{x:α}(hi:i<l.length):(l.flatMap f).take (i*sz)++f x++(l.flatMap f).drop (i*sz+sz)=(l.set i x).flatMap f:=by
 rw[pR hf,show i*sz+sz=(i+1)*sz by rw[Nat.succ_mul],zd hf,List.set_eq_take_append_cons_drop,if_pos hi,List.flatMap_append,List.flatMap_cons,ap]
def EP(o:Option Nat):Int:=match o with|none=> -1|some j=>(j:Int)
theorem Cl{o:Option Nat}(h:(EP o== -1)=true):o=none:=by
 cases o with
 |none=>rfl
 |some j=>simp only[EP,beq_iff_eq]at h;omega
theorem Ck{o:Option Nat}(h:(EP o== -1)=false):∃j,o=some j:=by
 cases o with
 |none=>simp[EP]at h
 |some j=>exact⟨j,rfl⟩
theorem tR{α:Type}{D:α->Bool}:∀{l:List α},l.findIdx? D=none->l.filter (λx=> !D x)=l/\(l.filter D).length=0
 |[],_=>⟨rfl,rfl⟩
 |x::l,h=>by
  rw[List.findIdx?_cons]at h;cases hd:D x with
  |true=>rw[hd]at h;cases h
  |false=>
   rw[hd]at h;simp only[Bool.false_eq_true,if_false,Option.map_eq_none_iff]at h;obtain⟨h1,h2⟩:=tR h;simp only[List.filter_cons,hd,Bool.not_false,if_true,Bool.false_eq_true,if_false];exact⟨by rw[h1],h2⟩
theorem qE{α:Type}{D:α->Bool}:∀{l:List α} {i:Nat},l.findIdx? D=some i->i<l.length/\l.take i++(l.drop (i+1)).filter (λx=> !D x)=l.filter (λx=> !D x)/\1+((l.drop (i+1)).filter D).length=(l.filter D).length
 |[],i,h=>by simp at h
 |x::l,i,h=>by
  rw[List.findIdx?_cons]at h;cases hd:D x with
  |true=>
   rw[hd]at h;simp only[if_true,aU]at h;subst h;simp[List.filter_cons,hd];omega
  |false=>
   rw[hd]at h;simp only[Bool.false_eq_true,if_false,Option.map_eq_some_iff]at h;obtain⟨j,hj,rfl⟩:=h;obtain⟨h1,h2,h3⟩:=qE hj;refine⟨by simp;omega,?_,?_⟩
   .simp only[List.take_succ_cons,List.drop_succ_cons,List.filter_cons,hd,Bool.not_false,if_true,aN,h2]
   simp only[List.drop_succ_cons,List.filter_cons,hd,Bool.false_eq_true,if_false,h3]
def idxN(n:Nat)(o:Option Nat):Nat:=match o with|none=>n|some i=>i+1
theorem o6{α β:Type}{l:List α}{j:Nat}{x:α}(hx:l[j]? =some x)(f:β->α->β)(b:β):(l.take (j+1)).foldl f b=f ((l.take j).foldl f b) x:=by
 obtain⟨h1,h2⟩:=au.1 hx;rw[List.take_succ_eq_append_getElem h1,List.foldl_append,h2]
 rfl
structure BA where
 b:Blk
 A:Option Addr
 c:Nat
def BA.cells(x:BA):List Value:=[.int .u32 x.b.key.1,.int .u32 x.b.key.2,.slice x.A (cI x.b.code).length x.c,.int .i64 x.b.count]
abbrev BA.key(x:BA):Ky:=x.b.key
def cC(q:Ky):List Value:=[.int .u32 q.1,.int .u32 q.2]
theorem gc(x:BA):∀u∈x.cells,u.oneCell'=true:=λu h=>by
 simp only[BA.cells,aJ,aY,or_false]at h;rcases h with rfl|rfl|rfl|rfl<;>rfl
theorem tx(x:Ky):∀u∈cC x,u.oneCell'=true:=λu h=>by
 simp only[cC,aJ,aY,or_false]at h;rcases h with rfl|rfl<;>rfl
end Go.Ink
namespace Go.Proofs.YtkegldppffignaaGreatDoor
open Go.RowKit Go.Ink Go.Proofs.Tryz
attribute [local irreducible] OpY bS
theorem Hr{ρ:Type}(Y:ρ->bL)(ok:ρ->Prop)(step:ρ->BA->ρ)(D:BA->Bool)(f:FuncId)(caps:List Value)(HF:∀args w,(callFunc f args).run prog w= .ok (.enter f args) w)(l:List BA)(hl:l.length<=1000000)
  (HC:∀(r:ρ) (x:BA) (w:World),ok r->x∈l->Inv w (bM [Y r]) [Y r] w->Ctr prog f ([]++[.agg (BA.cells x).toArray]++caps) w [Y r] (λv cs=>v= .bool (D x)/\cs=[Y (step r x)]/\ok (step r x)))
  (A:Option Addr) (c:Nat) (r0:ρ) (hok:ok r0) (w:World) (hi:Inv w (bM [slv 172 4 A l.length c (l.flatMap BA.cells),Y r0]) [slv 172 4 A l.length c (l.flatMap BA.cells),Y r0] w):
  Ctr prog 118 [.slice A l.length c,.func (.func f) #[] caps.toArray] w [slv 172 4 A l.length c (l.flatMap BA.cells),Y r0] (λv cs=>∃r',v= .int .i64 (EP (l.findIdx? D))/\r'=(l.take (idxN l.length (l.findIdx? D))).foldl step r0/\ok r'/\cs=[slv 172 4 A l.length c (l.flatMap BA.cells),Y r']):=by
 refine bN func118 rfl ntmps118 rfl hi ?_;refine gy ?_;refine cq (λq:Nat×ρ=>[(0,.slice A l.length c),(1,.func (.func f) #[] caps.toArray),(7,.int .i64 (l.length:Int)),(8,.int .i64 (q.1:Int))]) (λq=>[slv 172 4 A l.length c (l.flatMap BA.cells),Y q.2]) (λq=>(q.1<=l.length/\q.2=(l.take q.1).foldl step r0/\ok q.2)/\l.findIdx? D=((l.drop q.1).findIdx? D).map (· +q.1)) (λq=>l.length - q.1) (⟨0,r0⟩) ?_ ?_ ?_ ?_
 .exact⟨⟨aq _,rfl,hok⟩,by simp⟩
 .exact Zwk
 .exact Zu
 rintro⟨j,r⟩ ⟨⟨hj,hr,hrk⟩,hf⟩;dsimp only at hj hr hrk hf|-;refine Z_6 ?_;refine ZW ?_ ?_<;>intro hc2
 .simp only[aj]at hc2;have hjl:j<l.length:=Wq1;obtain⟨bs,rfl⟩:=iy (hi.get (show Has _ (slv 172 4 A l.length c (l.flatMap BA.cells))from Zh)) Wq1;obtain⟨x,hx⟩:∃x,l[j]? =some x:=⟨_,ai hjl⟩;rw[pU hx,List.findIdx?_cons]at hf;refine rj ?_;refine Zy (cw (bb:=bs) (o:=0) (n:=l.length) (c:=c) (j:=j) (sz:=4) (r:=j*4) rfl Zrf (Zv rfl) (Zv rfl) Zrf Wq4 Wq1) ?_;refine dN (cz (vs:=BA.cells x) Zrf Zrf Zv0) (mG Zh (λi v hiv=>fK (f:=BA.cells) Zrf hx hiv)) rfl ?_;refine gj (fR ([Y r]) rfl rfl HF Zi (λw hi hin=>HC r x w hrk (aD hx) hin)) rfl ?_;rintro _ _ ⟨_,⟨rfl,rfl,hrk2⟩,rfl⟩;obtain⟨r2,hr2⟩:=Zgn (step r x);rw[hr2]at hrk2|-;have hr3:r2=(l.take (j+1)).foldl step r0:=(by rw[<-hr2,hr,o6 hx]);refine Z_2 ?_;refine ZW ?_ ?_<;>intro hc4
  .rw[hc4,if_pos rfl]at hf;have hf:l.findIdx? D=some j:=(by rw[hf];simp);rw[hf];refine gR ?_;refine bP [slv 172 4 (some ⟨bs,0,none⟩) l.length c (l.flatMap BA.cells),Y r2] Zj ?_;refine Zrb ([_,_]) ?_;exact⟨r2,rfl,hr3,hrk2,rfl⟩
  rw[hc4,if_neg cE]at hf;refine Z_4 ?_;refine Wq8 ?_;refine bX ((⟨j+1,r2⟩:Nat×ρ)) ?_ ?_ ?_
  .exact⟨⟨⟨by omega,hr3,hrk2⟩,by dsimp only;rw[hf,Option.map_map];congr 1;funext z;simp only[Function.comp];omega⟩,by dsimp only;omega⟩
  .exact Zwk
  exact Zj
 simp only[ah]at hc2;obtain rfl:j=l.length:=Wq1;rw[List.drop_length]at hf;have hf:l.findIdx? D=none:=hf;rw[hf];refine fE ?_;refine Zrb ([_,_]) ?_;exact⟨r,rfl,by rw[bn]at hr;show r=(l.take l.length).foldl step r0;rw[bn];exact hr,hrk,rfl⟩
theorem delB_ok{ρ:Type}(Y:ρ->bL)(ok:ρ->Prop)(step:ρ->BA->ρ)(D:BA->Bool)(f:FuncId)(caps:List Value)(HF:∀args w,(callFunc f args).run prog w= .ok (.enter f args) w)(l:List BA)(hl:l.length<=1000000)
  (HC:∀(r:ρ) (x:BA) (w:World),ok r->x∈l->Inv w (bM [Y r]) [Y r] w->Ctr prog f ([]++[.agg (BA.cells x).toArray]++caps) w [Y r] (λv cs=>v= .bool (D x)/\cs=[Y (step r x)]/\ok (step r x)))
  (A:Option Addr) (c:Nat) (r0:ρ) (hok:ok r0) (w:World) (hi:Inv w (bM [slv 172 4 A l.length c (l.flatMap BA.cells),Y r0]) [slv 172 4 A l.length c (l.flatMap BA.cells),Y r0] w):
  Ctr prog 99 [.slice A l.length c,.func (.func f) #[] caps.toArray] w [slv 172 4 A l.length c (l.flatMap BA.cells),Y r0] (λv cs=>v= .slice A (l.filter λx=> !D x).length c/\cs=[slv 172 4 A (l.filter λx=> !D x).length c ((l.filter λx=> !D x).flatMap BA.cells),Y (l.foldl step r0)]):=by
 have HI:=Hr Y ok step D f caps HF l hl HC A c r0 hok;have hcap:=(hi.rd (.head (slv 172 4 A l.length c (l.flatMap BA.cells)) _)).cap;have hfn:=tR (D:=D) (l:=l);have hfs:=λi=>qE (D:=D) (l:=l) (i:=i)
 obtain⟨o,ho⟩:=Zgn (l.findIdx? D);rw[ho]at HI hfn hfs;refine bN func99 rfl ntmps99 rfl hi ?_;refine Z_9 ?_;refine ZcL ([slv 172 4 A l.length c (l.flatMap BA.cells),Y r0]) (λw hi hin=>HI w hin) ?_;rintro _ _ ⟨_,⟨r1,rfl,hr1,hok1,rfl⟩,rfl⟩;refine dS ?_;refine ZW ?_ ?_<;>intro hc2
 .obtain rfl:=Cl hc2;obtain⟨hf1,hf2⟩:=hfn rfl;refine Z_8 ?_;refine Zrb ([_,_]) ?_;rw[hf1];have hr1:r1=(l.take l.length).foldl step r0:=hr1;rw[bn]at hr1;rw[<-hr1];exact de
 obtain⟨i0,rfl⟩:=Ck hc2;obtain⟨hf1,hf2,hf3⟩:=hfs i0 rfl;obtain⟨bs,rfl⟩:=iy (hi.get (show Has _ (slv 172 4 A l.length c (l.flatMap BA.cells))from Zh)) Wq1;refine Z_6 ?_;refine Zy (df (Zv rfl) (Zv rfl) (show _=((i0+1:Nat):Int)from by rw[show EP (some i0)=(i0:Int)from rfl,bK];omega)) ?_;refine Z_4 ?_;refine cq (λq:(Nat×Nat)×List BA×ρ=>[(0,.slice (some ⟨bs,0,none⟩) l.length c),(1,.func (.func f) #[] caps.toArray),(5,.int .i64 (q.1.1:Int)),(6,.int .i64 (q.1.2:Int))]) (λq=>[slv 172 4 (some ⟨bs,0,none⟩) l.length c (q.2.1.flatMap BA.cells),Y q.2.2]) (λq=>(q.2.2=(l.take q.1.2).foldl step r0/\ok q.2.2)/\q.1.1<q.1.2/\q.1.2<=l.length/\q.2.1.length=l.length/\q.2.1.drop q.1.2=l.drop q.1.2/\q.2.1.take q.1.1++(l.drop q.1.2).filter (λx=> !D x)=l.filter (λx=> !D x)) (λq=>l.length - q.1.2) (⟨(i0,i0+1),l,r1⟩) ?_ ?_ ?_ ?_
 .exact⟨⟨hr1,hok1⟩,Nat.lt_succ_self _,by dsimp only;omega,rfl,rfl,hf2⟩
 .exact Zwk
 .exact Zu
 rintro⟨⟨i,j⟩,V,r⟩ ⟨⟨hr,hrk⟩,hij,hj,hV,hVd,hT⟩;dsimp only at hr hrk hij hj hV hVd hT|-;refine Z_9 ?_;refine ZW ?_ ?_<;>intro hc5
 .simp only[aj]at hc5;have hjl:j<l.length:=Wq1;obtain⟨x,hx⟩:∃x,l[j]? =some x:=⟨_,ai hjl⟩;have hVx:V[j]? =some x:=(by have:=congrArg (λz=>z[0]?) hVd;simp only[List.getElem?_drop,Nat.add_zero]at this;rw[this,hx]);rw[pU hx]at hT;rw[pU hx,pU hVx,List.cons.injEq]at hVd;rw[List.filter_cons]at hT;refine Z_8 ?_;refine Zy (cw (bb:=bs) (o:=0) (n:=l.length) (c:=c) (j:=j) (sz:=4) (r:=j*4) rfl Zrf (Zv rfl) (Zv rfl) Zrf Wq4 Wq1) ?_;refine dN (cz (vs:=BA.cells x) Zrf Zrf Zv0) (mG Zh (λi v hiv=>fK (f:=BA.cells) Zrf hVx hiv)) rfl ?_;refine ZN λb7=>?_
  refine dH (bZ Zrf rfl rfl (gc x) Za (by exact rfl)) ?_;rintro _ _ ⟨rfl,rfl⟩;refine Z_6 ?_;refine gj (fR ([Y r]) rfl rfl HF Zi (λw hi hin=>HC r x w hrk (aD hx) hin)) rfl ?_;rintro _ _ ⟨_,⟨rfl,rfl,hrk2⟩,rfl⟩;obtain⟨r2,hr2⟩:=Zgn (step r x);rw[hr2]at hrk2|-;have hr3:r2=(l.take (j+1)).foldl step r0:=(by rw[<-hr2,hr,o6 hx]);refine Z_3 ?_;refine ZW ?_ ?_<;>intro hc8
  .have hD:D x=false:=(by simpa using hc8);rw[hD]at hT;simp only[Bool.not_false,if_true]at hT;refine Z_5 ?_;refine Zy (cw (bb:=bs) (o:=0) (n:=l.length) (c:=c) (j:=i) (sz:=4) (r:=i*4) rfl Zrf (Zv rfl) (Zv rfl) Zrf Wq4 Wq1) ?_;refine dH (sB (sz:=4) (n:=l.length) (vs:=BA.cells x) Zrf rfl rfl (gc x) Za rfl Wq1) ?_;rintro _ _ ⟨rfl,rfl⟩;rw[xw (f:=BA.cells) (sz:=4) Zrf (show i<V.length by omega)];refine Z_4 ?_;refine Zy (df Zv0 Zv0 Zl) ?_;refine Z_6 ?_;refine Wq8 ?_;refine bX ((⟨(i+1,j+1),V.set i x,r2⟩:(Nat×Nat)×List BA×ρ)) ?_ ?_ ?_
   .exact⟨⟨⟨hr3,hrk2⟩,by dsimp only;omega,by dsimp only;omega,by dsimp only;rw[aC,hV],by dsimp only;rw[List.drop_set_of_lt Wq1,hVd.2],by dsimp only;rw[List.take_succ_eq_append_getElem (by rw[aC];omega),List.take_set_of_le (aM _),List.getElem_set_self,ap];exact hT⟩,by dsimp only;omega⟩
   .exact Zwk
   exact Zj
  have hD:D x=true:=(by simpa using hc8);rw[hD]at hT;simp only[Bool.not_true,Bool.false_eq_true,if_false]at hT;refine Z_5 ?_;refine Wq8 ?_;refine bX ((⟨(i,j+1),V,r2⟩:(Nat×Nat)×List BA×ρ)) ?_ ?_ ?_
  .exact⟨⟨⟨hr3,hrk2⟩,by dsimp only;omega,by dsimp only;omega,hV,hVd.2,hT⟩,by dsimp only;omega⟩
  .exact Zwk
  exact Zj
 simp only[ah]at hc5;obtain rfl:j=l.length:=Wq1;rw[List.drop_length]at hT;rw[List.filter_nil,az]at hT;rw[bn]at hr;have hil:(l.filter λx=> !D x).length=i:=(by rw[<-hT,aB];omega);refine Z_9 ?_;refine Zy (kL (bb:=bs) (o:=0) (n:=l.length) (c:=c) (lo:=i) (hi:=l.length) (r:=0+i*4) (sz:=4) rfl Zrf (Zv rfl) (.inr ⟨_,_,rfl,(Zv rfl)⟩) (.inl ⟨rfl,rfl⟩) Wq1 Wq1 Wq1 Wq1) ?_;refine E4 (c:=slv 172 4 (some ⟨bs,0,none⟩) l.length c (V.flatMap BA.cells)) (c':=slv 172 4 (some ⟨bs,0,none⟩) i c ((V.flatMap BA.cells).take (i*4))) Za rfl (BJ Wq1) ?_
 refine dH (ye rfl Za rfl Zrf (sz:=4) rfl rfl Wq5 (by intro u hu;simp only[aJ,aY,or_false]at hu;rcases hu with rfl|rfl|rfl|rfl<;>rfl) Wq1 Wq1) ?_;rintro _ _ ⟨rfl,rfl⟩;refine Z_6 ?_;refine Zy (ge i rfl Zrf (Zv rfl) (Zv rfl) (λ_=>by first|rfl|omega) Wq4) ?_;refine Z_4 ?_;refine Zrb ([_,_]) ?_;rw[hil,pR (f:=BA.cells) (sz:=4) Zrf,hT,<-hr];exact de
theorem idxK_ok{ρ:Type}(Y:ρ->bL)(ok:ρ->Prop)(step:ρ->Ky->ρ)(D:Ky->Bool)(f:FuncId)(caps:List Value)(HF:∀args w,(callFunc f args).run prog w= .ok (.enter f args) w)(l:List Ky)(hl:l.length<=1000000)
  (HC:∀(r:ρ) (x:Ky) (w:World),ok r->x∈l->Inv w (bM [Y r]) [Y r] w->Ctr prog f ([]++[.agg (cC x).toArray]++caps) w [Y r] (λv cs=>v= .bool (D x)/\cs=[Y (step r x)]/\ok (step r x)))
  (A:Option Addr) (c:Nat) (r0:ρ) (hok:ok r0) (w:World) (hi:Inv w (bM [slv 134 2 A l.length c (l.flatMap cC),Y r0]) [slv 134 2 A l.length c (l.flatMap cC),Y r0] w):
  Ctr prog 139 [.slice A l.length c,.func (.func f) #[] caps.toArray] w [slv 134 2 A l.length c (l.flatMap cC),Y r0] (λv cs=>∃r',v= .int .i64 (EP (l.findIdx? D))/\r'=(l.take (idxN l.length (l.findIdx? D))).foldl step r0/\ok r'/\cs=[slv 134 2 A l.length c (l.flatMap cC),Y r']):=by
 refine bN func139 rfl ntmps139 rfl hi ?_;refine gy ?_;refine cq (λq:Nat×ρ=>[(0,.slice A l.length c),(1,.func (.func f) #[] caps.toArray),(7,.int .i64 (l.length:Int)),(8,.int .i64 (q.1:Int))]) (λq=>[slv 134 2 A l.length c (l.flatMap cC),Y q.2]) (λq=>(q.1<=l.length/\q.2=(l.take q.1).foldl step r0/\ok q.2)/\l.findIdx? D=((l.drop q.1).findIdx? D).map (· +q.1)) (λq=>l.length - q.1) (⟨0,r0⟩) ?_ ?_ ?_ ?_
 .exact⟨⟨aq _,rfl,hok⟩,by simp⟩
 .exact Zwk
 .exact Zu
 rintro⟨j,r⟩ ⟨⟨hj,hr,hrk⟩,hf⟩;dsimp only at hj hr hrk hf|-;refine Z_6 ?_;refine ZW ?_ ?_<;>intro hc2
 .simp only[aj]at hc2;have hjl:j<l.length:=Wq1;obtain⟨bs,rfl⟩:=iy (hi.get (show Has _ (slv 134 2 A l.length c (l.flatMap cC))from Zh)) Wq1;obtain⟨x,hx⟩:∃x,l[j]? =some x:=⟨_,ai hjl⟩;rw[pU hx,List.findIdx?_cons]at hf;refine rj ?_;refine Zy (cw (bb:=bs) (o:=0) (n:=l.length) (c:=c) (j:=j) (sz:=2) (r:=j*2) rfl Zrf (Zv rfl) (Zv rfl) Zrf Wq4 Wq1) ?_;refine dN (cz (vs:=cC x) Zrf Zrf Zv0) (mG Zh (λi v hiv=>fK (f:=cC) Zrf hx hiv)) rfl ?_;refine gj (fR ([Y r]) rfl rfl HF Zi (λw hi hin=>HC r x w hrk (aD hx) hin)) rfl ?_;rintro _ _ ⟨_,⟨rfl,rfl,hrk2⟩,rfl⟩;obtain⟨r2,hr2⟩:=Zgn (step r x);rw[hr2]at hrk2|-;have hr3:r2=(l.take (j+1)).foldl step r0:=(by rw[<-hr2,hr,o6 hx]);refine Z_2 ?_;refine ZW ?_ ?_<;>intro hc4
  .rw[hc4,if_pos rfl]at hf;have hf:l.findIdx? D=some j:=(by rw[hf];simp);rw[hf];refine gR ?_;refine bP [slv 134 2 (some ⟨bs,0,none⟩) l.length c (l.flatMap cC),Y r2] Zj ?_;refine Zrb ([_,_]) ?_;exact⟨r2,rfl,hr3,hrk2,rfl⟩
  rw[hc4,if_neg cE]at hf;refine Z_4 ?_;refine Wq8 ?_;refine bX ((⟨j+1,r2⟩:Nat×ρ)) ?_ ?_ ?_
  .exact⟨⟨⟨by omega,hr3,hrk2⟩,by dsimp only;rw[hf,Option.map_map];congr 1;funext z;simp only[Function.comp];omega⟩,by dsimp only;omega⟩
  .exact Zwk
  exact Zj
 simp only[ah]at hc2;obtain rfl:j=l.length:=Wq1;rw[List.drop_length]at hf;have hf:l.findIdx? D=none:=hf;rw[hf];refine fE ?_;refine Zrb ([_,_]) ?_;exact⟨r,rfl,by rw[bn]at hr;show r=(l.take l.length).foldl step r0;rw[bn];exact hr,hrk,rfl⟩
theorem delK_ok{ρ:Type}(Y:ρ->bL)(ok:ρ->Prop)(step:ρ->Ky->ρ)(D:Ky->Bool)(f:FuncId)(caps:List Value)(HF:∀args w,(callFunc f args).run prog w= .ok (.enter f args) w)(l:List Ky)(hl:l.length<=1000000)
  (HC:∀(r:ρ) (x:Ky) (w:World),ok r->x∈l->Inv w (bM [Y r]) [Y r] w->Ctr prog f ([]++[.agg (cC x).toArray]++caps) w [Y r] (λv cs=>v= .bool (D x)/\cs=[Y (step r x)]/\ok (step r x)))
  (A:Option Addr) (c:Nat) (r0:ρ) (hok:ok r0) (w:World) (hi:Inv w (bM [slv 134 2 A l.length c (l.flatMap cC),Y r0]) [slv 134 2 A l.length c (l.flatMap cC),Y r0] w):
  Ctr prog 120 [.slice A l.length c,.func (.func f) #[] caps.toArray] w [slv 134 2 A l.length c (l.flatMap cC),Y r0] (λv cs=>v= .slice A (l.filter λx=> !D x).length c/\cs=[slv 134 2 A (l.filter λx=> !D x).length c ((l.filter λx=> !D x).flatMap cC),Y (l.foldl step r0)]):=by
 have HI:=idxK_ok Y ok step D f caps HF l hl HC A c r0 hok;have hcap:=(hi.rd (.head (slv 134 2 A l.length c (l.flatMap cC)) _)).cap;have hfn:=tR (D:=D) (l:=l);have hfs:=λi=>qE (D:=D) (l:=l) (i:=i)
 obtain⟨o,ho⟩:=Zgn (l.findIdx? D);rw[ho]at HI hfn hfs;refine bN func120 rfl ntmps120 rfl hi ?_;refine Z_9 ?_;refine ZcL ([slv 134 2 A l.length c (l.flatMap cC),Y r0]) (λw hi hin=>HI w hin) ?_;rintro _ _ ⟨_,⟨r1,rfl,hr1,hok1,rfl⟩,rfl⟩;refine dS ?_;refine ZW ?_ ?_<;>intro hc2
 .obtain rfl:=Cl hc2;obtain⟨hf1,hf2⟩:=hfn rfl;refine Z_8 ?_;refine Zrb ([_,_]) ?_;rw[hf1];have hr1:r1=(l.take l.length).foldl step r0:=hr1;rw[bn]at hr1;rw[<-hr1];exact de
 obtain⟨i0,rfl⟩:=Ck hc2;obtain⟨hf1,hf2,hf3⟩:=hfs i0 rfl;obtain⟨bs,rfl⟩:=iy (hi.get (show Has _ (slv 134 2 A l.length c (l.flatMap cC))from Zh)) Wq1;refine Z_6 ?_;refine Zy (df (Zv rfl) (Zv rfl) (show _=((i0+1:Nat):Int)from by rw[show EP (some i0)=(i0:Int)from rfl,bK];omega)) ?_;refine Z_4 ?_;refine cq (λq:(Nat×Nat)×List Ky×ρ=>[(0,.slice (some ⟨bs,0,none⟩) l.length c),(1,.func (.func f) #[] caps.toArray),(5,.int .i64 (q.1.1:Int)),(6,.int .i64 (q.1.2:Int))]) (λq=>[slv 134 2 (some ⟨bs,0,none⟩) l.length c (q.2.1.flatMap cC),Y q.2.2]) (λq=>(q.2.2=(l.take q.1.2).foldl step r0/\ok q.2.2)/\q.1.1<q.1.2/\q.1.2<=l.length/\q.2.1.length=l.length/\q.2.1.drop q.1.2=l.drop q.1.2/\q.2.1.take q.1.1++(l.drop q.1.2).filter (λx=> !D x)=l.filter (λx=> !D x)) (λq=>l.length - q.1.2) (⟨(i0,i0+1),l,r1⟩) ?_ ?_ ?_ ?_
 .exact⟨⟨hr1,hok1⟩,Nat.lt_succ_self _,by dsimp only;omega,rfl,rfl,hf2⟩
 .exact Zwk
 .exact Zu
 rintro⟨⟨i,j⟩,V,r⟩ ⟨⟨hr,hrk⟩,hij,hj,hV,hVd,hT⟩;dsimp only at hr hrk hij hj hV hVd hT|-;refine Z_9 ?_;refine ZW ?_ ?_<;>intro hc5
 .simp only[aj]at hc5;have hjl:j<l.length:=Wq1;obtain⟨x,hx⟩:∃x,l[j]? =some x:=⟨_,ai hjl⟩;have hVx:V[j]? =some x:=(by have:=congrArg (λz=>z[0]?) hVd;simp only[List.getElem?_drop,Nat.add_zero]at this;rw[this,hx]);rw[pU hx]at hT;rw[pU hx,pU hVx,List.cons.injEq]at hVd;rw[List.filter_cons]at hT;refine Z_8 ?_;refine Zy (cw (bb:=bs) (o:=0) (n:=l.length) (c:=c) (j:=j) (sz:=2) (r:=j*2) rfl Zrf (Zv rfl) (Zv rfl) Zrf Wq4 Wq1) ?_;refine dN (cz (vs:=cC x) Zrf Zrf Zv0) (mG Zh (λi v hiv=>fK (f:=cC) Zrf hVx hiv)) rfl ?_;refine ZN λb7=>?_
  refine dH (bZ Zrf rfl rfl (tx x) Za (by exact rfl)) ?_;rintro _ _ ⟨rfl,rfl⟩;refine Z_6 ?_;refine gj (fR ([Y r]) rfl rfl HF Zi (λw hi hin=>HC r x w hrk (aD hx) hin)) rfl ?_;rintro _ _ ⟨_,⟨rfl,rfl,hrk2⟩,rfl⟩;obtain⟨r2,hr2⟩:=Zgn (step r x);rw[hr2]at hrk2|-;have hr3:r2=(l.take (j+1)).foldl step r0:=(by rw[<-hr2,hr,o6 hx]);refine Z_3 ?_;refine ZW ?_ ?_<;>intro hc8
  .have hD:D x=false:=(by simpa using hc8);rw[hD]at hT;simp only[Bool.not_false,if_true]at hT;refine Z_5 ?_;refine Zy (cw (bb:=bs) (o:=0) (n:=l.length) (c:=c) (j:=i) (sz:=2) (r:=i*2) rfl Zrf (Zv rfl) (Zv rfl) Zrf Wq4 Wq1) ?_;refine dH (sB (sz:=2) (n:=l.length) (vs:=cC x) Zrf rfl rfl (tx x) Za rfl Wq1) ?_;rintro _ _ ⟨rfl,rfl⟩;rw[xw (f:=cC) (sz:=2) Zrf (show i<V.length by omega)];refine Z_4 ?_;refine Zy (df Zv0 Zv0 Zl) ?_;refine Z_6 ?_;refine Wq8 ?_;refine bX ((⟨(i+1,j+1),V.set i x,r2⟩:(Nat×Nat)×List Ky×ρ)) ?_ ?_ ?_
   .exact⟨⟨⟨hr3,hrk2⟩,by dsimp only;omega,by dsimp only;omega,by dsimp only;rw[aC,hV],by dsimp only;rw[List.drop_set_of_lt Wq1,hVd.2],by dsimp only;rw[List.take_succ_eq_append_getElem (by rw[aC];omega),List.take_set_of_le (aM _),List.getElem_set_self,ap];exact hT⟩,by dsimp only;omega⟩
   .exact Zwk
   exact Zj
  have hD:D x=true:=(by simpa using hc8);rw[hD]at hT;simp only[Bool.not_true,Bool.false_eq_true,if_false]at hT;refine Z_5 ?_;refine Wq8 ?_;refine bX ((⟨(i,j+1),V,r2⟩:(Nat×Nat)×List Ky×ρ)) ?_ ?_ ?_
  .exact⟨⟨⟨hr3,hrk2⟩,by dsimp only;omega,by dsimp only;omega,hV,hVd.2,hT⟩,by dsimp only;omega⟩
  .exact Zwk
  exact Zj
 simp only[ah]at hc5;obtain rfl:j=l.length:=Wq1;rw[List.drop_length]at hT;rw[List.filter_nil,az]at hT;rw[bn]at hr;have hil:(l.filter λx=> !D x).length=i:=(by rw[<-hT,aB];omega);refine Z_9 ?_;refine Zy (kL (bb:=bs) (o:=0) (n:=l.length) (c:=c) (lo:=i) (hi:=l.length) (r:=0+i*2) (sz:=2) rfl Zrf (Zv rfl) (.inr ⟨_,_,rfl,(Zv rfl)⟩) (.inl ⟨rfl,rfl⟩) Wq1 Wq1 Wq1 Wq1) ?_;refine E4 (c:=slv 134 2 (some ⟨bs,0,none⟩) l.length c (V.flatMap cC)) (c':=slv 134 2 (some ⟨bs,0,none⟩) i c ((V.flatMap cC).take (i*2))) Za rfl (BJ Wq1) ?_
 refine dH (ye rfl Za rfl Zrf (sz:=2) rfl rfl Wq5 (by intro u hu;simp only[aJ,aY,or_false]at hu;rcases hu with rfl|rfl<;>rfl) Wq1 Wq1) ?_;rintro _ _ ⟨rfl,rfl⟩;refine Z_6 ?_;refine Zy (ge i rfl Zrf (Zv rfl) (Zv rfl) (λ_=>by first|rfl|omega) Wq4) ?_;refine Z_4 ?_;refine Zrb ([_,_]) ?_;rw[hil,pR (f:=cC) (sz:=2) Zrf,hT,<-hr];exact de
end Go.Proofs.YtkegldppffignaaGreatDoor
