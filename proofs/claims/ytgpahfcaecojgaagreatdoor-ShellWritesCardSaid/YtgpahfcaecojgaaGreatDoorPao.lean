/- Lemmas. -/
import Derived.Test.YtgpahfcaecojgaaGreatDoorPan
set_option linter.all false
set_option maxRecDepth 100000
set_option maxHeartbeats 4000000
namespace Go.Ink
open Go.RowKit Go.Proofs.Tryz
def cV(b:Li):Nat->Nat->List (Int×Int)×Nat×Bool
 |0,sz=>([],sz,false)
 |k+1,sz=>match eo (b.drop sz)with
  |none=>([],sz,false)
  |some (i,z)=>bif dB i.1 then(bif gN i.1 then([i],sz+z,true)else(i::(cV b k (sz+z)).1,(cV b k (sz+z)).2.1,(cV b k (sz+z)).2.2))else([],sz,false)
inductive lE (b:Li):Nat->List (Int×Int)->Nat->Prop
 |nil (o:Nat):lE b o [] o
 |cons {o z e:Nat} {i:Int×Int} {l:List (Int×Int)} (h:eo (b.drop o)=some (i,z)) (t:lE b (o+z) l e):lE b o (i::l) e
variable{b:Li}
theorem pH{i:Int×Int}{z:Nat}(h:eo b=some (i,z)):z=(cF i.1).toNat/\0<cF i.1/\z<=b.length/\∀b':List Int,b'.take z=b.take z->eo b'=some (i,z):=by
 cases b with
 |nil=>cases h
 |cons op l=>
  have h:(bif cF op==0 then none else bif decide ((l.length:Int)+1<cF op)then none else some ((op,ET (l.take ((cF op).toNat - 1))),(cF op).toNat))=some (i,z):=h;cases h0:cF op==0 with
  |true=>grind
  |false=>
  cases h1:decide ((l.length:Int)+1<cF op)with
  |true=>grind
  |false=>
  rw[h0,h1]at h;simp only[ah,bo,bA]at h;obtain⟨rfl,rfl⟩:=h;simp only[aV,aa]at h0 h1;have hz:cF op=0\/cF op=1\/cF op=2\/cF op=5:=jw op;refine⟨rfl,by grind,by grind,λb' hb=>?_⟩;obtain⟨m,hm⟩:∃m:Nat,(cF op).toNat=m+1:=⟨(cF op).toNat - 1,by omega⟩;rw[hm]at hb|-;cases b' with
  |nil=>grind
  |cons op' l'=>
   grind [qW,List.cons.injEq,List.length,List.length_take]
variable{o e:Nat}{l:List (Int×Int)}
theorem lE.le(h:lE b o l e):o<=e:=by
 induction h with
 |nil=>omega
 |cons h t ih=>omega
theorem lE.ends(h:lE b o l e)(hl:l≠[]):e<=b.length/\o<e:=by
 induction h with
 |nil=>grind
 | @cons o z e i l h t ih=>
  obtain⟨h1,h2,h3, -⟩:=pH h;rw[bH]at h3;have hle:=t.le;have hz:0<z:=by omega
  cases l with
  |nil=>cases t;omega
  |cons j l=>grind
theorem lE.stay{b':Li}(h:lE b o l e)(hb:b'.take e=b.take e):lE b' o l e:=by
 induction h with
 |nil=>exact .nil _
 | @cons o z e i l h t ih=>
  obtain⟨-, -, -,h4⟩:=pH h;refine .cons (h4 _ ?_) (ih hb);have hle:=t.le;rw[List.take_drop,List.take_drop,show(b'.take (o+z))=(b'.take e).take (o+z) by grind,hb,List.take_take,Nat.min_eq_left hle]
theorem mB(b:Li):∀(k sz:Nat),lE b sz (cV b k sz).1 (cV b k sz).2.1/\(cV b k sz).1.length<=k/\((cV b k sz).1≠[]->(cV b k sz).2.2=gN ((cV b k sz).1.getLastD (0,0)).1)/\((cV b k sz).1=[]->(cV b k sz).2.2=false)
 |0,sz=>⟨.nil sz,aL _,λh=>absurd rfl h,λ_=>rfl⟩
 |k+1,sz=>by
  unfold cV;cases hd:eo (b.drop sz)with
  |none=>exact⟨.nil sz,ap _,λh=>absurd rfl h,λ_=>rfl⟩
  |some q=>
   obtain⟨i,z⟩:=q;dsimp only;cases hp:dB i.1 with
   |false=>exact⟨.nil sz,ap _,λh=>absurd rfl h,λ_=>rfl⟩
   |true=>
    rw[ai];cases he:gN i.1 with
    |true=>exact⟨.cons hd (.nil _),by simp,λ_=>he.symm,λh=>by cases h⟩
    |false=>
     rw[ah];obtain⟨h1,h2,h3,h4⟩:=mB b k (sz+z);refine⟨.cons hd h1,Nat.succ_le_succ h2,λ_=>?_,λh=>by cases h⟩
     grind
theorem lE.u32{b:Li}(hb:u8s b){o e:Nat}{l:List (Int×Int)}(h:lE b o l e):∀i,i∈l->u32 i.2:=by
 induction h with
 |nil=>grind
 | @cons o z e i l h t ih=>
  intro j hj;rcases aJ.1 hj with rfl|hj
  .obtain⟨op,nn⟩:=j;exact(oe (λx hx=>hb x (bG hx)) h).1
  grind
theorem Je{b:Bool}{x y:Run}{h:Bool}(hx:x.s.halted=h)(hy:y.s.halted=h):(bif b then x else y).s.halted=h:=by grind
theorem Db{op nn:Int}{s:St}(h:dB op=true):(doN s op nn).s.halted=s.halted:=by
 have hm:(Dq s op nn).s.halted=s.halted:=by
  have hc:op=0\/op=1\/op=2\/op=3\/op=4\/op=5\/op=6\/op=7\/op=8\/op=16\/op=17\/op=18\/op=19\/op=20\/op=21\/op=22\/op=23\/op=25\/op=32\/op=33\/op=34\/op=35\/op=36\/op=37\/op=38\/op=39\/op=40:=by
   rcases jc h with h|h|h|h<;>omega
  rcases hc with rfl|rfl|rfl|rfl|rfl|rfl|rfl|rfl|rfl|rfl|rfl|rfl|rfl|rfl|rfl|rfl|rfl|rfl|rfl|rfl|rfl|rfl|rfl|rfl|rfl|rfl|rfl<;>
  first
  |exact rfl
  |exact Je rfl rfl
  |exact Je (b:=(jR _ (eW s _).pop.top (eW s _).top).2.2) (x:=(eW s _).pop.pop) (y:=(eW s _).pop.pop.wt ⟨5,0⟩) rfl rfl
 unfold doN;cases s.right with
 |false=>rfl
 |true=>
  simp only[Bool.not_true,ah];cases(gc s op nn !=0)with
  |true=>rfl
  |false=>
   rw[ah];unfold VQ;cases((Dq s op nn).Wv.Wg !=0)with
   |true=>rfl
   |false=>exact hm
theorem VU{b:Bool}{x y:Run}{h:Int}(hx:x.s.pc=h)(hy:y.s.pc=h):(bif b then x else y).s.pc=h:=by grind
theorem RW{op nn:Int}{s s1:St}(h:dB op=true)(hr:s.right=true)(he:gN op=false)(hd:doN s op nn=⟨s1,false,false,[]⟩):s1.pc=dX s op:=by
 have hlt:=Pr h he;have hm:(Dq s op nn).s.pc=dX s op:=by
  have hc:op=0\/op=1\/op=2\/op=3\/op=4\/op=5\/op=6\/op=7\/op=8\/op=16\/op=17\/op=18\/op=19\/op=20\/op=21\/op=22\/op=23\/op=25:=by
   rcases jc h with h|h|h|h<;>omega
  rcases hc with rfl|rfl|rfl|rfl|rfl|rfl|rfl|rfl|rfl|rfl|rfl|rfl|rfl|rfl|rfl|rfl|rfl|rfl<;>
  first
  |exact rfl
  |exact VU rfl rfl
  |exact VU (b:=(jR _ (eW s _).pop.top (eW s _).top).2.2) (x:=(eW s _).pop.pop) (y:=(eW s _).pop.pop.wt ⟨5,0⟩) rfl rfl
 grind [doN,gc,VQ,Dq]
theorem RY(p:Int)(va:Nat):(sV p va).toNat%64=va%64/\0<=sV p va:=by
 grind [sV,IntKind.wrap_u32]
theorem JN(n:Nat)(U:Mmu)(s:Sp)(va:Nat)(kind:Int)(h:(dq n U s va kind).1.2.Wg=0):(dq n U s va kind).1.1.toNat%64=va%64:=by
 grind [dq,xO,pA,GZ,asked,RY,gK]
theorem NA(n:Nat)(U:Mmu)(s:Sp)(va:Nat)(h:(cO n U s va 1).1.2.Wg=0):(cO n U s va 1).1.1.toNat%64=va%64/\(cO n U s va 1).1.1<((n*64:Nat):Int):=by
 grind [fault,cO,dq,JN]
theorem xg{n:Nat}{s:St}{U:Mmu}{d:Dev}(h:GOk n s U d)(hr:(dO n s U d).runs=true):(dO n s U d).place.toNat%64=(dO n s U d).s.pc.toNat%64/\(dO n s U d).place<((n*64:Nat):Int):=by
 grind [dO,pL,cO,told,NA]
theorem yP{n Wt:Nat}(hn:n<=1000000)(hpg:Wt<n):∀(l:List (Int×Int)) {s s2:St} (o k:Nat) {e:Nat} {U:Mmu} (d:Dev),l≠[]->LF l s s2->l.length<=k->lE ((U.m.data.drop (Wt*64)).take 64) o l e->0<=s.pc->s.pc<=4294967295->s.pc.toNat%64=o->s.halted=false->
  s2.halted=false/\(gN (l.getLastD (0,0)).1=false->s2.pc=IntKind.u32.wrap (s.pc+((e:Int) - (o:Int))))/\eQ n Wt k s (Wt*64+o) U d=bif gN (l.getLastD (0,0)).1||s2.pc/64 !=s.pc/64 then(s2,⟨U.m.calm,U.t⟩,d)else eQ n Wt (k - l.length) s2 (Wt*64+e) ⟨U.m.calm,U.t⟩ d
 |[],_,_,_,_,_,_,_,hl,_,_,_,_,_,_,_=>absurd rfl hl
 |(op,nn)::l,s,s2,o,0,e,U,d,_,_,hk,_,_,_,_,_=>by simp at hk
 |(op,nn)::l,s,s2,o,k+1,e,U,d,_,hc,hk,hs,p0,p1,hpo,hh=>by
  have hse:=(hs.ends cP);rw[aD]at hse;cases hc with
  | @cons _ _ _ _ s1 _ hp hr hdo hm hc=>
  cases hs with
  | @cons _ z _ _ _ hd hs=>
  obtain⟨hz1,hz2,hz3, -⟩:=pH hd;dsimp only at hz1 hz2;have hle:=hs.le;have hf:eV n U.m (Wt*64+o)=some ((op,nn),z):=by
   unfold eV;have e1:(Wt*64+o)/64=Wt:=by omega
   have e2:(Wt*64+o)%64=o:=by omega
   rw[e1,e2,aE hpg,ai];exact hd
  obtain⟨hpd, -, -⟩:=Hx (n:=n) (nn:=nn) (U:=U) (d:=d) hp hr;rw[hdo]at hpd;have hh1:s1.halted=false:=by
   have:=Db (s:=s) (nn:=nn) hp;rw[hdo]at this;exact this.trans hh
  have e64:(Wt*64+o+z)%4294967296=Wt*64+(o+z):=by omega
  cases l with
  |nil=>
   cases hc
   cases hs
   refine⟨hh1,λhe=>?_,?_⟩
   .rw[RW hp hr he hdo]
    grind [dX,IntKind.wrap_u32]
   grind [eQ,gN,lQ]
  |cons j l=>
   obtain⟨he,hpc⟩:=hm cP;have hse2:=(hs.ends cP).2;have hpc1:s1.pc=s.pc+z:=by
    rw[hpc];unfold dX;rw[aG,aG];omega
   have ih:=yP hn hpg (j::l) (s:=s1) (s2:=s2) (o+z) k (e:=e) (U:=⟨U.m.calm,U.t⟩) d cP hc bY hs Wq1 Wq1 Wq1 hh1;refine⟨ih.1,λhe=>?_,?_⟩
   .grind
   have hlast:(((op,nn)::j::l).getLastD (0,0))=((j::l).getLastD (0,0)):=rfl;have hq:s1.pc/64=s.pc/64:=by omega
   conv=>lhs;unfold eQ
   rw[hf];dsimp only;rw[hpd];dsimp only;rw[e64];unfold lQ;dsimp only;rw[hh1,he];have hcon:List.contains ([]:Li) ((Wt:Nat):Int)=false:=rfl;rw[hcon];simp only[Bool.or_false,ah];rw[show(s1.pc/64==s.pc/64)=true by grind,ai,ih.2.2,hlast,hq];rw[show(k+1) - (((op,nn)::j::l)).length=k - (j::l).length by simp]
   rfl
structure Blk where
 key:Ky
 code:List HI
 count:Int
structure Rn where
 bytes:List Int
 ends:Bool
def Rn.zero:Rn:=⟨[],false⟩
def vQ{α:Type}(key:α->Ky)(room:Int)(l:List α)(t:α):List α:=match cT key (key t) l with
 |some j=>l.set j t
 |none=>bif decide (room<=(l.length:Int))then[t]else l++[t]
def yc{β:Type}(l:List Blk)(L:List (Ky×β)):List (Ky×β):=L.filter λx=>l.any λt=>t.key==x.1
structure Eng where
 room:Int
 l:List Blk
 runs:List (Ky×Rn)
 last:Ky
 WF:Int
 WD:Int
 begun:Bool
def Eng.fresh(room:Int):Eng:=⟨room,[],[],(0,0),0,0,false⟩
def Eng.flush(E:Eng):Eng:={E with l:=[],runs:=[]}
def Dy(E:Eng)(k:Ky)(b:Li):Option (Blk×Rn):=match E.l.find? (λt=>t.key==k)with
 |some t=>bif(fY E.runs k Rn.zero).bytes.isPrefixOf b then some (t,fY E.runs k Rn.zero)else none
 |none=>none
def wa(k:Ky)(b:Li):Option (Blk×Rn):=match fq k.1 (cV b 8 0).1 with
 |none=>none
 |some p=>bif p.Ws then some (⟨k,gl p (dW p),((cV b 8 0).1.length:Int)⟩,⟨b.take (cV b 8 0).2.1,(cV b 8 0).2.2⟩)else none
def addE(E:Eng)(t:Blk)(r:Rn):Eng:=
 let l':=vQ Blk.key E.room E.l t
 let L:=dS E.runs t.key r
 {E with l:=l',runs:=bif decide (l'.length<L.length)then yc l' L else L}
def lz(E:Eng)(k:Ky)(b:Li):Option (Blk×Rn)×Eng:=match Dy E k b with
 |some q=>(some q,E)
 |none=>match wa k b with
  |some q=>(some q,addE E q.1 q.2)
  |none=>(none,E)
def jq(E:Eng)(s:St)(place:Int)(b:Li):Option (St×Rn×Int)×Eng:=match lz E (s.pc,place) b with
 |(none,E')=>(none,E')
 |(some (t,r),E')=>bif(iu t.code s).2==1 then(some ((iu t.code s).1,r,t.count),{E' with last:=(s.pc,place),begun:=true,WF:=IntKind.i64.wrap (E'.WF+t.count)})else(none,E')
def PB(E:Eng)(Wa:Li):Eng:=
 let l':=E.l.filter λt=> !Wa.contains (t.key.2/64)
 {E with l:=l',runs:=bif decide (l'.length<E.l.length)then yc l' E.runs else E.runs}
def np(E:Eng)(Wa:Li):Eng:=bif Wa.isEmpty then E else PB E Wa
def jr(n:Nat)(Wt:Nat):Nat->St->Nat->Mmu->Dev->Eng->(St×Mmu×Dev)×Eng
 |0,s,_,U,d,E=>((s,U,d),E)
 |k+1,s,p,U,d,E=>match eV n U.m p with
  |none=>((s.next.Wv 1 0,U,d),{E with WD:=IntKind.i64.wrap (E.WD+1)})
  |some ((op,nn),sz)=>
   let q:=wO n s op nn U d
   let E':=np {E with WD:=IntKind.i64.wrap (E.WD+1)} q.1.Wa
   bif lQ op q.1 Wt s.pc then jr n Wt k q.1.s ((p+sz)%4294967296) q.2.1 q.2.2 E' else((q.1.s,q.2.1,q.2.2),E')
def iF(M:Mem)(p:Nat):List Int:=((M.data.drop (p/64*64)).take 64).drop (p%64)
def doE(n:Nat)(s:St)(U:Mmu)(d:Dev)(E:Eng):(St×Mmu×Dev)×Eng:=
 let b:=dO n s U d
 bif b.runs then
  match jq E b.s b.place (iF b.u.m b.place.toNat)with
  |(none,E')=>jr n (b.place.toNat/64) 8 b.s b.place.toNat b.u b.d E'
  |(some (o,r,c),E')=>bif(r.ends&&decide (0<c))||o.pc/64 !=b.s.pc/64 then((o,⟨b.u.m.calm,b.u.t⟩,b.d),E')
    else jr n ((b.place.toNat+r.bytes.length)%4294967296/64) (8 - c).toNat o ((b.place.toNat+r.bytes.length)%4294967296) ⟨b.u.m.calm,b.u.t⟩ b.d E'
 else((b.s,b.u,b.d),{E with WD:=IntKind.i64.wrap (E.WD+IntKind.i64.wrap (IntKind.u64.wrap (b.s.count - s.count)))})
variable{α:Type}{room:Int}{l:List α}{t:α}{x:α}
theorem Sy{key:α->Ky}(h:x∈vQ key room l t):x=t\/(x∈l/\(∀y,y∈l->(l.map key).Nodup->key x≠key t)):=by
 unfold vQ at h;cases hp:cT key (key t) l with
 |some j=>
  rw[hp]at h;dsimp only at h;obtain⟨hj,hk⟩:=fp hp;obtain⟨i,hi,rfl⟩:=List.getElem_of_mem h;rw[List.getElem_set];by_cases e:j=i
  .grind
  rw[if_neg e];have hi':i<l.length:=by simpa using hi
  refine Or.inr ⟨List.getElem_mem _,λy _ hn hke=>e ?_⟩;rw[<-hk]at hke;exact((List.getElem_inj (xs:=l.map key) (h₀:=by grind) (h₁:=by grind) hn).1 bY).symm
 |none=>
  grind [iw]
theorem Nk{key:α->Ky}:t∈vQ key room l t:=by
 unfold vQ;cases hp:cT key (key t) l with
 |some j=>obtain⟨hj, -⟩:=fp hp;grind [List.mem_iff_getElem]
 |none=>grind
theorem rU{key:α->Ky}(h:(l.map key).Nodup):((vQ key room l t).map key).Nodup:=by
 grind [vQ,cT,fp,iw,List.map_set,List.set_getElem_self,decide,List.nodup_append]
theorem RT{key:α->Ky}(h1:1<=room)(h:(l.length:Int)<=room):((vQ key room l t).length:Int)<=room:=by
 grind [vQ,cT]
variable{β:Type}
theorem AD(L:List (Ky×β))(k:Ky)(v:β):dS L k v=vQ (·.1) ((L.length:Int)+1) L (k,v):=by
 grind [dS,vQ,cT]
variable{L:List (Ky×β)}{k:Ky}
theorem RD{v:β}(z:β)(hn:(L.map (·.1)).Nodup)(h:(k,v)∈L):fY L k z=v:=by
 unfold fY;cases hf:L.find? (λx=>x.1==k)with
 |none=>grind
 |some x=>
  have h1:=List.mem_of_find?_eq_some hf;have h2:=List.find?_some hf;have h3:x.1=k:=by simpa using h2
  obtain⟨i,hi,rfl⟩:=List.getElem_of_mem h1;obtain⟨j,hj,hje⟩:=List.getElem_of_mem h;have:i=j:=(List.getElem_inj (xs:=L.map (·.1)) (h₀:=by grind) (h₁:=by grind) hn).1 bY
  grind
theorem jM{key:α->Ky}(f:α->Bool)(h:(l.map key).Nodup):((l.filter f).map key).Nodup:=by grind
def Good(t:Blk)(r:Rn):Prop:=∃p il,fq t.key.1 il=some p/\p.Ws=true/\t.code=gl p (dW p)/\t.count=(il.length:Int)/\lE r.bytes 0 il r.bytes.length/\(∀i,i∈il->u32 i.2)/\r.ends=gN (il.getLastD (0,0)).1
structure gC(E:Eng):Prop where
 room:1<=E.room/\E.room<=1024
 len:(E.l.length:Int)<=E.room
 keys:(E.l.map Blk.key).Nodup
 Xt:(E.runs.map (·.1)).Nodup
 WO:∀t,t∈E.l->∃r,(t.key,r)∈E.runs/\Good t r
theorem gC.fresh{room:Int}(h:1<=room/\room<=1024):gC (Eng.fresh room):=⟨h,by show((0:Nat):Int)<=room;omega,by simp[Eng.fresh],by simp[Eng.fresh],λt ht=>by cases ht⟩
theorem gC.flush{E:Eng}(h:gC E):gC E.flush:=⟨h.room,by show((0:Nat):Int)<=E.room;have:=h.room;omega,by simp[Eng.flush],by simp[Eng.flush],λt ht=>by cases ht⟩
variable{E:Eng}
theorem gC.same{E':Eng}(h:gC E)(h1:E'.room=E.room)(h2:E'.l=E.l)(h3:E'.runs=E.runs):gC E':=⟨by rw[h1];exact h.room,by simp_all [h.len],by rw[h2];exact h.keys,by rw[h3];exact h.Xt,by simp_all [h.WO]⟩
theorem Ds{l:List Blk}{t:Blk}{r:β}(ht:t∈l)(h:(t.key,r)∈L):(t.key,r)∈yc l L:=List.mem_filter.2 ⟨h,List.any_eq_true.2 ⟨t,ht,by simp⟩⟩
theorem gC.drop(h:gC E)(Wa:Li):gC (PB E Wa):=by
 refine⟨h.room,?_,jM _ h.keys,?_,λt ht=>?_⟩
 .have:((E.l.filter λt=> !Wa.contains (t.key.2/64)).length)<=E.l.length:=List.length_filter_le _ _;have:=h.len;show(((E.l.filter λt=> !Wa.contains (t.key.2/64)).length:Nat):Int)<=E.room;omega
 .show((bif _ then yc _ E.runs else E.runs).map (·.1)).Nodup;cases decide ((E.l.filter λt=> !Wa.contains (t.key.2/64)).length<E.l.length)with
  |true=>exact jM _ h.Xt
  |false=>exact h.Xt
 have ht:t∈E.l.filter λt=> !Wa.contains (t.key.2/64):=ht
 obtain⟨r,h1,h2⟩:=h.WO t (List.mem_filter.1 ht).1;refine⟨r,?_,h2⟩;show(t.key,r)∈(bif _ then yc _ E.runs else E.runs)
 grind [Ds]
theorem gC.turn(h:gC E)(Wa:Li):gC (np E Wa):=by
 unfold np;cases Wa.isEmpty with
 |true=>exact h
 |false=>exact h.drop Wa
theorem gC.add(h:gC E){t:Blk}{r:Rn}(hg:Good t r):gC (addE E t r):=by
 have hl:(t.key,r)∈dS E.runs t.key r:=by rw[AD];exact Nk
 have hn:((dS E.runs t.key r).map (·.1)).Nodup:=by rw[AD];exact rU h.Xt
 have hgo:∀x,x∈vQ Blk.key E.room E.l t->∃r',(x.key,r')∈dS E.runs t.key r/\Good x r':=λx hx=>by
  rcases Sy hx with rfl|⟨h1,h2⟩
  .grind
  obtain⟨r',h3,h4⟩:=h.WO x h1;refine⟨r',?_,h4⟩;have hne:=h2 x h1 h.keys
  grind [dS,cT,fp,List.mem_append_left,List.getElem_of_mem,List.mem_iff_getElem]
 refine⟨h.room,RT h.room.1 h.len,rU h.keys,?_,λx hx=>?_⟩
 .show((bif _ then yc _ _ else _).map (·.1)).Nodup;cases decide ((vQ Blk.key E.room E.l t).length<(dS E.runs t.key r).length)with
  |true=>exact jM _ hn
  |false=>exact hn
 obtain⟨r',h1,h2⟩:=hgo x hx;refine⟨r',?_,h2⟩;show(x.key,r')∈(bif _ then yc _ _ else _);cases decide ((vQ Blk.key E.room E.l t).length<(dS E.runs t.key r).length)with
 |true=>exact Ds hx h1
 |false=>exact h1
theorem qT(h:gC E){k:Ky}{b:Li}(hb:u8s b):gC (lz E k b).2/\(lz E k b).2.room=E.room/\(lz E k b).2.WF=E.WF/\(lz E k b).2.WD=E.WD/\∀t r,(lz E k b).1=some (t,r)->
  ∃p il,fq k.1 il=some p/\p.Ws=true/\t.code=gl p (dW p)/\t.count=(il.length:Int)/\lE b 0 il r.bytes.length/\(∀i,i∈il->u32 i.2)/\r.ends=gN (il.getLastD (0,0)).1:=by
 unfold lz;cases hk:Dy E k b with
 |some q=>
  refine⟨h,rfl,rfl,rfl,λt r e=>?_⟩;obtain rfl:q=(t,r):=ay e;unfold Dy at hk;cases hf:E.l.find? (λt=>t.key==k)with
  |none=>grind
  |some t'=>
   rw[hf]at hk;dsimp only at hk;cases hpre:(fY E.runs k Rn.zero).bytes.isPrefixOf b with
   |false=>grind
   |true=>
    rw[hpre,ai,bo,bA]at hk;obtain⟨rfl,hr⟩:=hk;have hkey:t'.key=k:=by simpa using List.find?_some hf
    obtain⟨r',h1,p,il,g1,g2,g3,g4,g5,g6,g7⟩:=h.WO t' (List.mem_of_find?_eq_some hf);have e1:=RD Rn.zero h.Xt h1;rw[hkey]at e1 g1;rw[e1]at hr hpre;subst hr;have hpr:b.take r'.bytes.length=r'.bytes:=by
     obtain⟨y,rfl⟩:=List.isPrefixOf_iff_prefix.1 hpre;exact List.take_left
    exact⟨p,il,g1,g2,g3,g4,g5.stay bY,g6,g7⟩
 |none=>
  cases hm:wa k b with
  |none=>grind
  |some q=>
   obtain⟨t,r⟩:=q;unfold wa at hm;cases hl:fq k.1 (cV b 8 0).1 with
   |none=>grind
   |some p=>
    rw[hl]at hm;dsimp only at hm;cases hr:p.Ws with
    |false=>grind
    |true=>
     rw[hr,ai,bo,bA]at hm;obtain⟨rfl,rfl⟩:=hm;obtain⟨s1,s2,s3,s4⟩:=mB b 8 0;have hne:(cV b 8 0).1≠[]:=λe=>by
      grind [fq]
     have hse:=s1.ends hne;have hlen:(b.take (cV b 8 0).2.1).length=(cV b 8 0).2.1:=by rw[aD];omega
     have hu:=s1.u32 hb;refine⟨h.add ⟨p,_,hl,hr,rfl,rfl,?_,hu,s3 hne⟩,rfl,rfl,rfl,λt r e=>?_⟩
     .dsimp only;rw[hlen];exact s1.stay bY
     grind
structure Jn(E E':Eng)(c:Nat):Prop where
 WF:0<=E.WF->0<=E.WD->E.WF+E.WD+c<=1000000000->0<=E'.WF/\0<=E'.WD/\E'.WF+E'.WD=E.WF+E.WD+c/\E.WF<=E'.WF
 room:E'.room=E.room
theorem Mq(E:Eng)(Wa:Li):(np E Wa).WF=E.WF/\(np E Wa).WD=E.WD/\(np E Wa).room=E.room:=by
 unfold np;cases Wa.isEmpty<;>exact⟨rfl,rfl,rfl⟩
theorem AI{n Wt:Nat}:∀(k:Nat) {s:St} (p:Nat) {U:Mmu} {d:Dev} {E:Eng},GOk n s U d->gC E->(jr n Wt k s p U d E).1=eQ n Wt k s p U d/\gC (jr n Wt k s p U d E).2/\
  ∃c:Nat,c<=k/\Jn E (jr n Wt k s p U d E).2 c/\(eQ n Wt k s p U d).1.count=IntKind.u64.wrap (s.count+(c:Int))
 |0,s,p,U,d,E,h,hE=>⟨rfl,hE,0,aL _,⟨λh1 h2 _=>⟨h1,h2,by show E.WF+E.WD=_;omega,Int.le_refl _⟩,rfl⟩,by
   show s.count=IntKind.u64.wrap (s.count+0);have:=h.wf.count;rw[aU];omega⟩
 |k+1,s,p,U,d,E,h,hE=>by
  have hw:∀x:Int,0<=x->x<=1000000000->IntKind.i64.wrap (x+1)=x+1:=λx h1 h2=>by rw[bI];omega
  unfold jr eQ;cases hf:eV n U.m p with
  |none=>exact⟨rfl,hE.same rfl rfl rfl,1,by omega,⟨λh1 h2 h3=>⟨h1,by grind,by grind,Int.le_refl _⟩,rfl⟩,rfl⟩
  |some o=>
   obtain⟨⟨op,nn⟩,z⟩:=o;obtain⟨f1, -⟩:=mJ h.u.m hf;have hg:=wN (op:=op) (nn:=nn) h.wf h.right f1 h.u h.dv;have hl:=uO (n:=n) (op:=op) (nn:=nn) (s:=s) (U:=U) h.lines;obtain⟨⟨q,U1,d1⟩,hq⟩:=Zgn (wO n s op nn U d);rw[hq]at hg hl;obtain⟨g1,g2,g3,g4,g5,g6⟩:=hg;dsimp only at g1 g2 g3 g4 g5 g6 hl|-;rw[hq];dsimp only;have hE1:gC {E with WD:=IntKind.i64.wrap (E.WD+1)}:=hE.same rfl rfl rfl;have hE2:=hE1.turn q.Wa;obtain⟨u1,u2,u3⟩:=Mq {E with WD:=IntKind.i64.wrap (E.WD+1)} q.Wa;obtain⟨E2,hE2e⟩:=Zgn (np {E with WD:=IntKind.i64.wrap (E.WD+1)} q.Wa);rw[hE2e]at hE2 u1 u2 u3|-;dsimp only at u1 u2 u3;have hu:Jn E E2 1:=⟨λh1 h2 h3=>by
    grind,u3⟩
   cases lQ op q Wt s.pc with
   |false=>grind
   |true=>
    rw[ai,ai];obtain⟨r1,r2,c,r3,r4,r5⟩:=AI k ((p+z)%4294967296) (s:=q.s) (U:=U1) (d:=d1) (E:=E2) ⟨g1,g2,g4,g5,hl⟩ hE2;refine⟨r1,r2,c+1,by omega,⟨λh1 h2 h3=>?_,r4.room.trans u3⟩,?_⟩
    .obtain⟨a1,a2,a3,a4⟩:=hu.WF h1 h2 Wq1;obtain⟨b1,b2,b3,b4⟩:=r4.WF a1 a2 Wq1;omega
    rw[r5,g3,oA,show(1:Int)+(c:Int)=((c+1:Nat):Int) by omega]
theorem nA{w0:World}{S:List Nat}{cs:List bJ}{sz n c bb:Nat}{xs vs:List Value}(hc:Has cs (slv e sz (sA bb) n c xs))(hv:∀i v,vs[i]? =some v->xs[o+i]? =some v):∀w,Inv w0 S cs w->cells (ee ⟨bb,o,none⟩ 0 vs) w:=λw hi z hz=>by
 obtain⟨j,h1,h2⟩:=gE hz;have:=(hi.rd hc).at_ _ rfl (o+j) z.2 (hv j z.2 h1)
 grind [Addr.add_lit]
theorem qV{k:Nat}(h:l[k]? =some x):l.drop k=x::l.drop (k+1):=by
 grind [List.getElem?_eq_some_iff,List.drop_eq_getElem_cons]
theorem qQ{α:Type}{f:α->List Value}{sz:Nat}(hf:∀a,(f a).length=sz):∀(l:List α) (i:Nat),(l.flatMap f).take (i*sz)=(l.take i).flatMap f
 |[],i=>by simp
 |x::l,0=>by simp
 |x::l,i+1=>by
  rw[bF,List.take_succ_cons,bF,<-qQ hf l i,show(i+1)*sz=(f x).length+i*sz by grind,List.take_length_add_append]
theorem D1{α:Type}{f:α->List Value}{sz:Nat}(hf:∀a,(f a).length=sz):∀(l:List α) (i:Nat),(l.flatMap f).drop (i*sz)=(l.drop i).flatMap f
 |[],i=>by simp
 |x::l,0=>by simp
 |x::l,i+1=>by
  rw[bF,List.drop_succ_cons,<-D1 hf l i,show(i+1)*sz=(f x).length+i*sz by grind,List.drop_length_add_append]
theorem Bz{f:α->List Value}{sz:Nat}(hf:∀a,(f a).length=sz){l:List α}{i:Nat}{x:α}(hi:i<l.length):(l.flatMap f).take (i*sz)++f x++(l.flatMap f).drop (i*sz+sz)=(l.set i x).flatMap f:=by
 rw[qQ hf,show i*sz+sz=(i+1)*sz by grind,D1 hf,List.set_eq_take_append_cons_drop,if_pos hi,List.flatMap_append,bF,aq]
def OM(o:Option Nat):Int:=match o with|none=> -1|some j=>(j:Int)
variable{o:Option Nat}
theorem Iv(h:(OM o== -1)=true):o=none:=by
 cases o with
 |none=>rfl
 |some j=>grind [OM]
theorem Iu(h:(OM o== -1)=false):∃j,o=some j:=by
 cases o with
 |none=>simp[OM]at h
 |some j=>grind
theorem D3{D:α->Bool}:∀{l:List α},l.findIdx? D=none->l.filter (λx=> !D x)=l/\(l.filter D).length=0
 :=by simp_all
theorem sk{α:Type}{D:α->Bool}:∀{l:List α} {i:Nat},l.findIdx? D=some i->i<l.length/\l.take i++(l.drop (i+1)).filter (λx=> !D x)=l.filter (λx=> !D x)/\1+((l.drop (i+1)).filter D).length=(l.filter D).length
 |[],i,h=>by simp at h
 |x::l,i,h=>by
  rw[List.findIdx?_cons]at h;cases hd:D x with
  |true=>
   grind
  |false=>
   rw[hd]at h;simp only[Bool.false_eq_true,if_false,Option.map_eq_some_iff]at h;obtain⟨j,hj,rfl⟩:=h;obtain⟨h1,h2,h3⟩:=sk hj
   grind
def idxN(n:Nat)(o:Option Nat):Nat:=match o with|none=>n|some i=>i+1
variable{j:Nat}
theorem qi(hx:l[j]? =some x)(f:β->α->β)(b:β):(l.take (j+1)).foldl f b=f ((l.take j).foldl f b) x:=by
 grind [List.getElem?_eq_some_iff,List.take_succ_eq_append_getElem]
structure BA where
 b:Blk
 A:Option Addr
 c:Nat
def BA.cells(x:BA):List Value:=[.w x.b.key.1,.w x.b.key.2,.slice x.A (cI x.b.code).length x.c,.i x.b.count]
abbrev BA.key(x:BA):Ky:=x.b.key
def cD(q:Ky):List Value:=[.w q.1,.w q.2]
theorem mY(x:BA):∀u∈x.cells,u.oneCell'=true:=λu h=>by
 simp only[BA.cells,aJ,aY,or_false]at h;rcases h with rfl|rfl|rfl|rfl<;>rfl
theorem wo(x:Ky):∀u∈cD x,u.oneCell'=true:=λu h=>by
 simp only[cD,aJ,aY,or_false]at h;rcases h with rfl|rfl<;>rfl
section
attribute [local irreducible] OpY bN
variable{ρ:Type}
theorem ON(Y:ρ->bJ)(ok:ρ->Prop)(step:ρ->BA->ρ)(D:BA->Bool)(f:FuncId)(caps:List Value)(HF:∀args w,(callFunc f args).run prog w= .ok (.enter f args) w)(l:List BA)(hl:l.length<=1000000)
  (HC:∀(r:ρ) (x:BA) (w:World),ok r->x∈l->Inv w (bK [Y r]) [Y r] w->Ctr prog f ([]++[.agg (BA.cells x).toArray]++caps) w [Y r] (λv cs=>v= .bool (D x)/\cs=[Y (step r x)]/\ok (step r x)))
  (A:Oa) (c:Nat) (r0:ρ) (hok:ok r0) :CI prog 158 [.slice A l.length c,.func (.func f) #[] caps.toArray] [slv 242 4 A l.length c (l.flatMap BA.cells),Y r0] (λv cs=>∃r',v= .i (OM (l.findIdx? D))/\r'=(l.take (idxN l.length (l.findIdx? D))).foldl step r0/\ok r'/\cs=[slv 242 4 A l.length c (l.flatMap BA.cells),Y r']):=λw hi=>by
 refine Zfn func158 ntmps158 hi ?_;refine jl ?_;refine wLo (λq:Nat×ρ=>[(0,.slice A l.length c),(1,.func (.func f) #[] caps.toArray),(7,.i (l.length:Int)),(8,.i (q.1:Int))]) (λq=>[slv 242 4 A l.length c (l.flatMap BA.cells),Y q.2]) (λq=>(q.1<=l.length/\q.2=(l.take q.1).foldl step r0/\ok q.2)/\l.findIdx? D=((l.drop q.1).findIdx? D).map (· +q.1)) (λq=>l.length - q.1) (⟨0,r0⟩) ?_ ?_
 .simp_all
 rintro⟨j,r⟩ ⟨⟨hj,hr,hrk⟩,hf⟩;dsimp only at hj hr hrk hf|-;refine Zw6 ?_ ?_<;>intro hc2
 .simp only[ac]at hc2;have hjl:j<l.length:=Wq1;obtain⟨bs,rfl⟩:=dV (hi.get (Zhc (slv 242 4 A l.length c (l.flatMap BA.cells)))) Wq1;obtain⟨x,hx⟩:∃x,l[j]? =some x:=⟨_,ae hjl⟩;rw[qV hx,List.findIdx?_cons]at hf;refine oU ?_;refine Zy (cw (bb:=bs) (o:=0) (n:=l.length) (c:=c) (j:=j) (sz:=4) (r:=j*4) rfl Zrf (Zv rfl) (Zv rfl) Zrf Wq2 Wq1) ?_;refine dQ (bW (vs:=BA.cells x) Zrf Zrf Zv0) (nA Zh (λi v hiv=>bZ (f:=BA.cells) Zrf hx hiv)) rfl (UV ?_);rintro _ _ ⟨_,⟨rfl,rfl,hrk2⟩,rfl⟩;obtain⟨r2,hr2⟩:=Zgn (step r x);rw[hr2]at hrk2|-;have hr3:r2=(l.take (j+1)).foldl step r0:=(by rw[<-hr2,hr,qi hx]);refine Z_2 ?_;refine ZW ?_ ?_<;>intro hc4
  .rw[hc4,if_pos rfl]at hf;have hf:l.findIdx? D=some j:=bY;rw[hf];refine fb ?_;refine bO [slv 242 4 (sA bs) l.length c (l.flatMap BA.cells),Y r2] Zj (Zrb ([_,_]) ?_);exact⟨r2,rfl,hr3,hrk2,rfl⟩
  rw[hc4,if_neg cP]at hf;refine jS ?_;refine qMP ((⟨j+1,r2⟩:Nat×ρ)) ⟨⟨⟨by omega,hr3,hrk2⟩,by dsimp only;rw[hf,Option.map_map];congr 1;grind⟩,by omega⟩
 simp only[aa]at hc2;obtain rfl:j=l.length:=Wq1;exact Wq306
theorem delB_ok(Y:ρ->bJ)(ok:ρ->Prop)(step:ρ->BA->ρ)(D:BA->Bool)(f:FuncId)(caps:List Value)(HF:∀args w,(callFunc f args).run prog w= .ok (.enter f args) w)(l:List BA)(hl:l.length<=1000000)
  (HC:∀(r:ρ) (x:BA) (w:World),ok r->x∈l->Inv w (bK [Y r]) [Y r] w->Ctr prog f ([]++[.agg (BA.cells x).toArray]++caps) w [Y r] (λv cs=>v= .bool (D x)/\cs=[Y (step r x)]/\ok (step r x)))
  (A:Oa) (c:Nat) (r0:ρ) (hok:ok r0) :CI prog 142 [.slice A l.length c,.func (.func f) #[] caps.toArray] [slv 242 4 A l.length c (l.flatMap BA.cells),Y r0] (λv cs=>v= .slice A (l.filter λx=> !D x).length c/\cs=[slv 242 4 A (l.filter λx=> !D x).length c ((l.filter λx=> !D x).flatMap BA.cells),Y (l.foldl step r0)]):=λw hi=>by
 have HI:=ON Y ok step D f caps HF l hl HC A c r0 hok;have hcap:=(hi.rd (.head (slv 242 4 A l.length c (l.flatMap BA.cells)) _)).cap;have hfn:=D3 (D:=D) (l:=l);have hfs:=λi=>sk (D:=D) (l:=l) (i:=i)
 obtain⟨o,ho⟩:=Zgn (l.findIdx? D);rw[ho]at HI hfn hfs;refine Zfn func142 ntmps142 hi ?_;refine Z_9 ?_;refine dy ([slv 242 4 A l.length c (l.flatMap BA.cells),Y r0]) (λw hi hin=>HI w hin) ?_;rintro _ _ ⟨r1,rfl,hr1,hok1,rfl⟩;refine mZ ?_ ?_<;>intro hc2
 .obtain rfl:=Iv hc2;obtain⟨hf1,hf2⟩:=hfn rfl;refine Z_8 ?_;exact Wq453
 obtain⟨i0,rfl⟩:=Iu hc2;obtain⟨hf1,hf2,hf3⟩:=hfs i0 rfl;obtain⟨bs,rfl⟩:=dV (hi.get (Zhc (slv 242 4 A l.length c (l.flatMap BA.cells)))) Wq1;refine Wq444 ?_;refine wLo (λq:(Nat×Nat)×List BA×ρ=>[(0,.slice (sA bs) l.length c),(1,.func (.func f) #[] caps.toArray),(5,.i (q.1.1:Int)),(6,.i (q.1.2:Int))]) (λq=>[slv 242 4 (sA bs) l.length c (q.2.1.flatMap BA.cells),Y q.2.2]) (λq=>(q.2.2=(l.take q.1.2).foldl step r0/\ok q.2.2)/\q.1.1<q.1.2/\q.1.2<=l.length/\q.2.1.length=l.length/\q.2.1.drop q.1.2=l.drop q.1.2/\q.2.1.take q.1.1++(l.drop q.1.2).filter (λx=> !D x)=l.filter (λx=> !D x)) (λq=>l.length - q.1.2) (⟨(i0,i0+1),l,r1⟩) ⟨⟨hr1,hok1⟩,Nat.lt_succ_self _,by grind,rfl,rfl,hf2⟩ ?_;rintro⟨⟨i,j⟩,V,r⟩ ⟨⟨hr,hrk⟩,hij,hj,hV,hVd,hT⟩;dsimp only at hr hrk hij hj hV hVd hT|-;refine Zw9 ?_ ?_<;>intro hc5
 .simp only[ac]at hc5;have hjl:j<l.length:=Wq1;obtain⟨x,hx⟩:∃x,l[j]? =some x:=⟨_,ae hjl⟩;have hVx:V[j]? =some x:=(by have:=congrArg (λz=>z[0]?) hVd;grind);rw[qV hx]at hT;rw[qV hx,qV hVx,List.cons.injEq]at hVd;rw[List.filter_cons]at hT;refine Z_8 ?_;refine Zy (cw (bb:=bs) (o:=0) (n:=l.length) (c:=c) (j:=j) (sz:=4) (r:=j*4) rfl Zrf (Zv rfl) (Zv rfl) Zrf Wq2 Wq1) ?_;refine dQ (bW (vs:=BA.cells x) Zrf Zrf Zv0) (nA Zh (λi v hiv=>bZ (f:=BA.cells) Zrf hVx hiv)) rfl ?_;refine ZN λb7=>?_
  refine eT (cZ Zrf rfl rfl (mY x) Za o6) ?_;rintro _ _ ⟨rfl,rfl⟩;refine Z_6 ?_;refine UV ?_;rintro _ _ ⟨_,⟨rfl,rfl,hrk2⟩,rfl⟩;obtain⟨r2,hr2⟩:=Zgn (step r x);rw[hr2]at hrk2|-;have hr3:r2=(l.take (j+1)).foldl step r0:=(by rw[<-hr2,hr,qi hx]);refine Zw3 ?_ ?_<;>intro hc8
  .have hD:D x=false:=bY;rw[hD]at hT;simp only[Bool.not_false,if_true]at hT;refine Z_5 ?_;refine Zy (cw (bb:=bs) (o:=0) (n:=l.length) (c:=c) (j:=i) (sz:=4) (r:=i*4) rfl Zrf (Zv rfl) (Zv rfl) Zrf Wq2 Wq1) ?_;refine eT (vm (sz:=4) (n:=l.length) (vs:=BA.cells x) Zrf rfl rfl (mY x) Za rfl Wq1) ?_;rintro _ _ ⟨rfl,rfl⟩;rw[Bz (f:=BA.cells) (sz:=4) Zrf (show i<V.length by omega)];refine Z_4 ?_;refine rh ?_;refine xu ?_;refine qMP ((⟨(i+1,j+1),V.set i x,r2⟩:(Nat×Nat)×List BA×ρ)) ⟨⟨⟨hr3,hrk2⟩,by grind,by grind,by grind,by dsimp only;rw[List.drop_set_of_lt Wq1,hVd.2],by dsimp only;rw[List.take_succ_eq_append_getElem bY,List.take_set_of_le (aL _),List.getElem_set_self,aq];exact hT⟩,by grind⟩
  have hD:D x=true:=bY;rw[hD]at hT;simp only[Bool.not_true,Bool.false_eq_true,if_false]at hT;refine lI ?_;refine qMP ((⟨(i,j+1),V,r2⟩:(Nat×Nat)×List BA×ρ)) bY
 simp only[aa]at hc5;obtain rfl:j=l.length:=Wq1;rw[List.drop_length]at hT;rw[List.filter_nil,aw]at hT;rw[bC]at hr;have hil:(l.filter λx=> !D x).length=i:=bY;refine Z_9 ?_;refine Zy (mg (bb:=bs) (o:=0) (n:=l.length) (c:=c) (lo:=i) (hi:=l.length) (r:=0+i*4) (sz:=4) rfl Zrf (Zv rfl) (.inr ⟨_,_,rfl,(Zv rfl)⟩) (.inl ⟨rfl,rfl⟩) Wq1 Wq1 Wq1 Wq1) ?_;refine L3 (c:=slv 242 4 (sA bs) l.length c (V.flatMap BA.cells)) (c':=slv 242 4 (sA bs) i c ((V.flatMap BA.cells).take (i*4))) Za rfl (Ha Wq1) ?_
 refine eT (CD rfl Za rfl Zrf (sz:=4) rfl rfl bX (by intro u hu;simp only[aJ,aY,or_false]at hu;rcases hu with rfl|rfl|rfl|rfl<;>rfl) Wq1 Wq1) ?_;rintro _ _ ⟨rfl,rfl⟩;refine Z_6 ?_;refine Zy (eC i rfl Zrf (Zv rfl) (Zv rfl) pe Wq2) ?_;refine Z_4 ?_;refine Zrb ([_,_]) ?_;rw[hil,qQ (f:=BA.cells) (sz:=4) Zrf,hT,<-hr];exact gr
theorem idxK_ok(Y:ρ->bJ)(ok:ρ->Prop)(step:ρ->Ky->ρ)(D:Ky->Bool)(f:FuncId)(caps:List Value)(HF:∀args w,(callFunc f args).run prog w= .ok (.enter f args) w)(l:List Ky)(hl:l.length<=1000000)
  (HC:∀(r:ρ) (x:Ky) (w:World),ok r->x∈l->Inv w (bK [Y r]) [Y r] w->Ctr prog f ([]++[.agg (cD x).toArray]++caps) w [Y r] (λv cs=>v= .bool (D x)/\cs=[Y (step r x)]/\ok (step r x)))
  (A:Oa) (c:Nat) (r0:ρ) (hok:ok r0) :CI prog 177 [.slice A l.length c,.func (.func f) #[] caps.toArray] [slv 206 2 A l.length c (l.flatMap cD),Y r0] (λv cs=>∃r',v= .i (OM (l.findIdx? D))/\r'=(l.take (idxN l.length (l.findIdx? D))).foldl step r0/\ok r'/\cs=[slv 206 2 A l.length c (l.flatMap cD),Y r']):=λw hi=>by
 refine Zfn func177 ntmps177 hi ?_;refine jl ?_;refine wLo (λq:Nat×ρ=>[(0,.slice A l.length c),(1,.func (.func f) #[] caps.toArray),(7,.i (l.length:Int)),(8,.i (q.1:Int))]) (λq=>[slv 206 2 A l.length c (l.flatMap cD),Y q.2]) (λq=>(q.1<=l.length/\q.2=(l.take q.1).foldl step r0/\ok q.2)/\l.findIdx? D=((l.drop q.1).findIdx? D).map (· +q.1)) (λq=>l.length - q.1) (⟨0,r0⟩) ?_ ?_
 .simp_all
 rintro⟨j,r⟩ ⟨⟨hj,hr,hrk⟩,hf⟩;dsimp only at hj hr hrk hf|-;refine Zw6 ?_ ?_<;>intro hc2
 .simp only[ac]at hc2;have hjl:j<l.length:=Wq1;obtain⟨bs,rfl⟩:=dV (hi.get (Zhc (slv 206 2 A l.length c (l.flatMap cD)))) Wq1;obtain⟨x,hx⟩:∃x,l[j]? =some x:=⟨_,ae hjl⟩;rw[qV hx,List.findIdx?_cons]at hf;refine oU ?_;refine Zy (cw (bb:=bs) (o:=0) (n:=l.length) (c:=c) (j:=j) (sz:=2) (r:=j*2) rfl Zrf (Zv rfl) (Zv rfl) Zrf Wq2 Wq1) ?_;refine dQ (bW (vs:=cD x) Zrf Zrf Zv0) (nA Zh (λi v hiv=>bZ (f:=cD) Zrf hx hiv)) rfl (UV ?_);rintro _ _ ⟨_,⟨rfl,rfl,hrk2⟩,rfl⟩;obtain⟨r2,hr2⟩:=Zgn (step r x);rw[hr2]at hrk2|-;have hr3:r2=(l.take (j+1)).foldl step r0:=(by rw[<-hr2,hr,qi hx]);refine Z_2 ?_;refine ZW ?_ ?_<;>intro hc4
  .rw[hc4,if_pos rfl]at hf;have hf:l.findIdx? D=some j:=bY;rw[hf];refine fb ?_;refine bO [slv 206 2 (sA bs) l.length c (l.flatMap cD),Y r2] Zj (Zrb ([_,_]) ?_);exact⟨r2,rfl,hr3,hrk2,rfl⟩
  rw[hc4,if_neg cP]at hf;refine jS ?_;refine qMP ((⟨j+1,r2⟩:Nat×ρ)) ⟨⟨⟨by omega,hr3,hrk2⟩,by dsimp only;rw[hf,Option.map_map];congr 1;grind⟩,by omega⟩
 simp only[aa]at hc2;obtain rfl:j=l.length:=Wq1;exact Wq306
theorem delK_ok(Y:ρ->bJ)(ok:ρ->Prop)(step:ρ->Ky->ρ)(D:Ky->Bool)(f:FuncId)(caps:List Value)(HF:∀args w,(callFunc f args).run prog w= .ok (.enter f args) w)(l:List Ky)(hl:l.length<=1000000)
  (HC:∀(r:ρ) (x:Ky) (w:World),ok r->x∈l->Inv w (bK [Y r]) [Y r] w->Ctr prog f ([]++[.agg (cD x).toArray]++caps) w [Y r] (λv cs=>v= .bool (D x)/\cs=[Y (step r x)]/\ok (step r x)))
  (A:Oa) (c:Nat) (r0:ρ) (hok:ok r0) :CI prog 160 [.slice A l.length c,.func (.func f) #[] caps.toArray] [slv 206 2 A l.length c (l.flatMap cD),Y r0] (λv cs=>v= .slice A (l.filter λx=> !D x).length c/\cs=[slv 206 2 A (l.filter λx=> !D x).length c ((l.filter λx=> !D x).flatMap cD),Y (l.foldl step r0)]):=λw hi=>by
 have HI:=idxK_ok Y ok step D f caps HF l hl HC A c r0 hok;have hcap:=(hi.rd (.head (slv 206 2 A l.length c (l.flatMap cD)) _)).cap;have hfn:=D3 (D:=D) (l:=l);have hfs:=λi=>sk (D:=D) (l:=l) (i:=i)
 obtain⟨o,ho⟩:=Zgn (l.findIdx? D);rw[ho]at HI hfn hfs;refine Zfn func160 ntmps160 hi ?_;refine Z_9 ?_;refine dy ([slv 206 2 A l.length c (l.flatMap cD),Y r0]) (λw hi hin=>HI w hin) ?_;rintro _ _ ⟨r1,rfl,hr1,hok1,rfl⟩;refine mZ ?_ ?_<;>intro hc2
 .obtain rfl:=Iv hc2;obtain⟨hf1,hf2⟩:=hfn rfl;refine Z_8 ?_;exact Wq453
 obtain⟨i0,rfl⟩:=Iu hc2;obtain⟨hf1,hf2,hf3⟩:=hfs i0 rfl;obtain⟨bs,rfl⟩:=dV (hi.get (Zhc (slv 206 2 A l.length c (l.flatMap cD)))) Wq1;refine Wq444 ?_;refine wLo (λq:(Nat×Nat)×List Ky×ρ=>[(0,.slice (sA bs) l.length c),(1,.func (.func f) #[] caps.toArray),(5,.i (q.1.1:Int)),(6,.i (q.1.2:Int))]) (λq=>[slv 206 2 (sA bs) l.length c (q.2.1.flatMap cD),Y q.2.2]) (λq=>(q.2.2=(l.take q.1.2).foldl step r0/\ok q.2.2)/\q.1.1<q.1.2/\q.1.2<=l.length/\q.2.1.length=l.length/\q.2.1.drop q.1.2=l.drop q.1.2/\q.2.1.take q.1.1++(l.drop q.1.2).filter (λx=> !D x)=l.filter (λx=> !D x)) (λq=>l.length - q.1.2) (⟨(i0,i0+1),l,r1⟩) ⟨⟨hr1,hok1⟩,Nat.lt_succ_self _,by grind,rfl,rfl,hf2⟩ ?_;rintro⟨⟨i,j⟩,V,r⟩ ⟨⟨hr,hrk⟩,hij,hj,hV,hVd,hT⟩;dsimp only at hr hrk hij hj hV hVd hT|-;refine Zw9 ?_ ?_<;>intro hc5
 .simp only[ac]at hc5;have hjl:j<l.length:=Wq1;obtain⟨x,hx⟩:∃x,l[j]? =some x:=⟨_,ae hjl⟩;have hVx:V[j]? =some x:=(by have:=congrArg (λz=>z[0]?) hVd;grind);rw[qV hx]at hT;rw[qV hx,qV hVx,List.cons.injEq]at hVd;rw[List.filter_cons]at hT;refine Z_8 ?_;refine Zy (cw (bb:=bs) (o:=0) (n:=l.length) (c:=c) (j:=j) (sz:=2) (r:=j*2) rfl Zrf (Zv rfl) (Zv rfl) Zrf Wq2 Wq1) ?_;refine dQ (bW (vs:=cD x) Zrf Zrf Zv0) (nA Zh (λi v hiv=>bZ (f:=cD) Zrf hVx hiv)) rfl ?_;refine ZN λb7=>?_
  refine eT (cZ Zrf rfl rfl (wo x) Za o6) ?_;rintro _ _ ⟨rfl,rfl⟩;refine Z_6 ?_;refine UV ?_;rintro _ _ ⟨_,⟨rfl,rfl,hrk2⟩,rfl⟩;obtain⟨r2,hr2⟩:=Zgn (step r x);rw[hr2]at hrk2|-;have hr3:r2=(l.take (j+1)).foldl step r0:=(by rw[<-hr2,hr,qi hx]);refine Zw3 ?_ ?_<;>intro hc8
  .have hD:D x=false:=bY;rw[hD]at hT;simp only[Bool.not_false,if_true]at hT;refine Z_5 ?_;refine Zy (cw (bb:=bs) (o:=0) (n:=l.length) (c:=c) (j:=i) (sz:=2) (r:=i*2) rfl Zrf (Zv rfl) (Zv rfl) Zrf Wq2 Wq1) ?_;refine eT (vm (sz:=2) (n:=l.length) (vs:=cD x) Zrf rfl rfl (wo x) Za rfl Wq1) ?_;rintro _ _ ⟨rfl,rfl⟩;rw[Bz (f:=cD) (sz:=2) Zrf (show i<V.length by omega)];refine Z_4 ?_;refine rh ?_;refine xu ?_;refine qMP ((⟨(i+1,j+1),V.set i x,r2⟩:(Nat×Nat)×List Ky×ρ)) ⟨⟨⟨hr3,hrk2⟩,by grind,by grind,by grind,by dsimp only;rw[List.drop_set_of_lt Wq1,hVd.2],by dsimp only;rw[List.take_succ_eq_append_getElem bY,List.take_set_of_le (aL _),List.getElem_set_self,aq];exact hT⟩,by grind⟩
  have hD:D x=true:=bY;rw[hD]at hT;simp only[Bool.not_true,Bool.false_eq_true,if_false]at hT;refine lI ?_;refine qMP ((⟨(i,j+1),V,r2⟩:(Nat×Nat)×List Ky×ρ)) bY
 simp only[aa]at hc5;obtain rfl:j=l.length:=Wq1;rw[List.drop_length]at hT;rw[List.filter_nil,aw]at hT;rw[bC]at hr;have hil:(l.filter λx=> !D x).length=i:=bY;refine Z_9 ?_;refine Zy (mg (bb:=bs) (o:=0) (n:=l.length) (c:=c) (lo:=i) (hi:=l.length) (r:=0+i*2) (sz:=2) rfl Zrf (Zv rfl) (.inr ⟨_,_,rfl,(Zv rfl)⟩) (.inl ⟨rfl,rfl⟩) Wq1 Wq1 Wq1 Wq1) ?_;refine L3 (c:=slv 206 2 (sA bs) l.length c (V.flatMap cD)) (c':=slv 206 2 (sA bs) i c ((V.flatMap cD).take (i*2))) Za rfl (Ha Wq1) ?_
 refine eT (CD rfl Za rfl Zrf (sz:=2) rfl rfl bX (by intro u hu;simp only[aJ,aY,or_false]at hu;rcases hu with rfl|rfl<;>rfl) Wq1 Wq1) ?_;rintro _ _ ⟨rfl,rfl⟩;refine Z_6 ?_;refine Zy (eC i rfl Zrf (Zv rfl) (Zv rfl) pe Wq2) ?_;refine Z_4 ?_;refine Zrb ([_,_]) ?_;rw[hil,qQ (f:=cD) (sz:=2) Zrf,hT,<-hr];exact gr
structure LS where
 A:Option Addr
 c:Nat
 ks:List Ky
def LS.v(x:LS):Value:= .slice x.A x.ks.length x.c
def LS.zero:LS:=⟨none,0,[]⟩
def lkV(LK:List (Ky×LS)):List (Ky×Value):=LK.map λx=>(x.1,x.2.v)
structure CaX where
 ml:Nat
 Ac:Option Addr
 cc:Nat
 fl:Int
 LK:List (Ky×LS)
 Z:List BA
def BaSm(Z:List BA):Prop:=Z.length<=1000000/\∀x,x∈Z->x.b.code.length<=100000/\ly x.b.key
def lV(k:Ky)(x:LS):LS:=⟨x.A,x.c,x.ks.filter λq=> !(q==k)⟩
def gv(LK:List (Ky×LS))(k:Ky):List (Ky×LS):=(qt LK k).map λx=>(x.1,lV k x.2)
def Ft(k:Ky)(f:Bool)(x:Ky×LS):Ky×LS:=(x.1,bif f then lV k x.2 else x.2)
def prL(k:Ky)(F:List Bool)(L0:List (Ky×LS)):List (Ky×LS):=List.zipWith (Ft k) F L0
def itL(k:Ky)(F:List Bool)(L0:List (Ky×LS)):List (Bool×Ky×Value):=List.zipWith (λf x=>(f,x.1,(Ft k f x).2.v)) F L0
theorem RJ(f:α->β)(L:List (Ky×α))(k:Ky):qt (L.map λx=>(x.1,f x.2)) k=(qt L k).map λx=>(x.1,f x.2):=by
 unfold qt;rw[kt (key:=λx:Ky×α=>x.1) (λx:Ky×α=>(x.1,f x.2)) Zrf]
 grind [cT,ChangeMaps.map_eraseIdx]
theorem uz(L:List (Ky×α))(k:Ky):(qt L k).Sublist L:=by
 grind [qt,cT]
theorem DA(k:Ky):∀L0:List (Ky×LS),itL k (List.replicate L0.length false) L0=(lkV L0).map λx=>(false,x)
 |[]=>rfl
 |x::L0=>by
  show(false,x.1,(Ft k false x).2.v)::itL k (List.replicate L0.length false) L0=_;rw[DA k L0]
  rfl
theorem Da(k:Ky):∀L0:List (Ky×LS),prL k (List.replicate L0.length false) L0=L0
 |[]=>rfl
 |x::L0=>by
  show Ft k false x::prL k (List.replicate L0.length false) L0=_;rw[Da k L0]
  rfl
theorem itL_at{F:List Bool}{L0:List (Ky×LS)}{q:Ky}{v:Value}(h:(itL k F L0)[j]? =some (false,q,v)):∃x,L0[j]? =some x/\F[j]? =some false/\q=x.1/\v=x.2.v:=by
 unfold itL at h;rw[List.getElem?_zipWith]at h;cases hf:F[j]? with
 |none=>grind
 |some f=>
  cases hx:L0[j]? with
  |none=>grind
  |some x=>
   rw[hf,hx]at h;simp only[bo,bA]at h;obtain⟨rfl,rfl,rfl⟩:=h;exact⟨x,rfl,rfl,rfl,rfl⟩
theorem EV{α β γ:Type}(g:α->β->γ):∀(F:List α) (L:List β) (j:Nat) (a:α) (b:β),L[j]? =some b->List.zipWith g (F.set j a) L=(List.zipWith g F L).set j (g a b)
 |[],L,j,a,b,_=>by simp
 |f::F,[],j,a,b,h=>by simp at h
 |f::F,x::L,0,a,b,h=>by
  simp_all
 |f::F,x::L,j+1,a,b,h=>by
  show g f x::List.zipWith g (F.set j a) L=g f x::(List.zipWith g F L).set j (g a b);rw[EV g F L j a b bY]
theorem OA{k:Ky}:∀{F:List Bool} {L0:List (Ky×LS)},F.length=L0.length->(∀x,x∈itL k F L0->x.1=true)->prL k F L0=L0.map λx=>(x.1,lV k x.2)
 |[],[],_,_=>rfl
 |[],_::_,h,_=>by simp at h
 |_::_,[],h,_=>by simp at h
 |f::F,x::L0,h,ha=>by
  have hf:f=true:=ha (f,x.1,(Ft k f x).2.v) (List.mem_cons_self ..);subst hf;show Ft k true x::prL k F L0=_;rw[OA bY (λy hy=>ha y (List.mem_cons_of_mem _ hy))]
  rfl
theorem itL_snd(k:Ky):∀(F:List Bool) (L0:List (Ky×LS)),(itL k F L0).map (·.2)=lkV (prL k F L0)
 :=by grind [itL,prL,lkV,Ft]
def D4(F:List Bool):Nat:=(F.filter λf=> !f).length
theorem zq:∀{F:List Bool} {j:Nat},F[j]? =some false->D4 (F.set j true)<D4 F
 |[],j,h=>by simp at h
 |f::F,0,h=>by
  grind [D4]
 |f::F,j+1,h=>by
  have:=zq (F:=F) (j:=j) bY
  grind [D4]
theorem oJ(h:l[j]? =some x):l.Perm (x::l.eraseIdx j):=by
 grind [List.getElem?_eq_some_iff,List.eraseIdx_eq_take_drop_succ,List.perm_middle,List.getElem_cons_drop,List.take_append_drop]
theorem uB(h:j<l.length):(l.set j x).Perm (x::l.eraseIdx j):=by
 grind [oJ,List.getElem?_set_self,List.eraseIdx_set_eq]
theorem so{key:α->Ky}(h:cT key k l=some j):∃x,l[j]? =some x/\key x=k/\l.find? (λx=>key x==k)=some x:=by
 grind [fp,cT,List.getElem?_eq_getElem,List.findIdx?_eq_some_iff_getElem,List.find?_eq_some_iff_getElem]
theorem wL{key:α->Ky}(h:cT key k l=none):l.find? (λx=>key x==k)=none:=by
 grind [iw]
section
variable {C:Cx} {Q:lF} {fr:Fr} {cs:List bJ} {c:bJ} {cin cin' rest r1:List bJ} {e:Exit} {b r:Nat} {IL:List (Bool×Ky×Value)} {cur:Option (Ky×Value)}
theorem CZ(hd:Del cs (bP cin) rest)(hp:cin.Perm (c::cin'))(h:QOk C Q e fr (c::bP cin'::rest)):QOk C Q e fr cs:=λa w hf hi=>h a w hf ((hi.perm hd.perm).Xm hp)
theorem kC(hd:Del cs (bP cin) r1)(hd2:Del r1 c rest)(hp:cin'.Perm (c::cin))(h:QOk C Q e fr (bP cin'::rest)):QOk C Q e fr cs:=λa w hf hi=>h a w hf (((hi.perm (hd.perm.trans (hd2.perm.cons _))).perm (List.Perm.swap ..)).XF hp)
theorem mA(hd:Del cs (bP cin) rest)(hs:cin'.Sublist cin)(h:QOk C Q e fr (bP cin'::rest)):QOk C Q e fr cs:=λa w hf hi=>h a w hf ((hi.perm hd.perm).XE hs)
theorem C1(hd:Del cs (itC b r IL cur) rest)(h:QOk C Q e fr (mpc b (IL.map (·.2))::rest)):QOk C Q e fr cs:=λa w hf hi=>h a w hf ((hi.perm hd.perm).itEnd)
theorem wA(w:World):Inv w [] [bP []] w:=⟨dc.refl _ _,by simp[bK,bP,exC,bJ.bs],λc hc=>by
 rw[aC]at hc;subst hc;exact⟨(),trivial,by simp[bK],λc hc=>by cases hc⟩,λb hb=>by grind [bK,exC,bJ.bs]⟩
theorem kD(h:QOk C Q e fr (cs++[bP []])):QOk C Q e fr cs:=λa w hf hi=>h a w hf (hi.more (wA w))
theorem fg{ops:Array Oper}{l:List Oper}(h:WL C ops Q l fr (cs++[bP []])):WL C ops Q l fr cs:=λa w hf hi=>h a w hf (hi.more (wA w))
end
abbrev lsC(x:LS):bJ:=slv 206 2 x.A x.ks.length x.c (x.ks.flatMap cD)
abbrev baC(x:BA):bJ:=sl .u8 5 x.A (cI x.b.code).length x.c (cI x.b.code)
def lkC(LK:List (Ky×LS)):List bJ:=LK.map λx=>lsC x.2
abbrev kyR(b:Nat)(k:Ky):bJ:=row b (cD k) 206
abbrev caR(bc:Nat)(r0 r1 r2 r3:Value):bJ:=row bc [r0,r1,r2,r3] 235
abbrev blC(X:CaX):bJ:=slv 242 4 X.Ac X.Z.length X.cc (X.Z.flatMap BA.cells)
abbrev caF(bc:Nat)(room:Int)(X:CaX):List bJ:=[caR bc (.i room) (.slice X.Ac X.Z.length X.cc) (.map (some X.ml)) (.i X.fl),blC X,bP (X.Z.map baC),mpc X.ml (lkV X.LK),bP (lkC X.LK)]
theorem NB(x:BA)(k:Ky)(bk:Nat):CI prog 178 ([]++[.agg x.cells.toArray]++[.p bk]) [kyR bk k] (λv cs=>v= .bool (x.key==k)/\cs=[kyR bk k]/\True):=λw hi=>by
 refine Zfn func178 ntmps178 hi ?_;refine Z_2 ?_;refine ZO λb2=>?_;refine Z_6 ?_;refine dQ (bW (vs:=cD x.b.key) Zrf Zrf Zv0) (cX Zh rfl) rfl (ZlR ?_);refine Zy (LW wq (FZ x.b.key k) (Zv rfl) (Zv rfl)) ?_;refine Z_4 ?_;refine bO [kyR bk k] Zj (Zrb ([row _ _ _]) ?_);exact⟨rfl,rfl,trivial⟩
theorem wT(bc:Nat)(r0 r2 r3:Value)(Ac:Oa)(cc:Nat)(Z:List BA)(hZ:Z.length<=1000000)(k:Ky):CV prog 162 [.p bc,.agg (cD k).toArray] [caR bc r0 (.slice Ac Z.length cc) r2 r3,slv 242 4 Ac Z.length cc (Z.flatMap BA.cells)] (.i (OM (cT BA.key k Z))):=λw hi=>by
 refine Zfn func162 ntmps162 hi ?_;refine Z_2 ?_;refine ZO λb3=>?_;refine Z_9 ?_;refine Zy (mi rfl) ?_;refine dy ([slv 242 4 Ac Z.length cc (Z.flatMap BA.cells),kyR b3 k]) (λw hi hin=>ON (λ_:Unit=>kyR b3 k) (λ_=>True) (λ_ _=>()) (λx=>x.key==k) 178 [.p b3] (λ_ _=>rfl) Z hZ (λ_ x w _ _ hin=>NB x k b3 w hin) Ac cc () trivial w hin) ?_;rintro _ _ ⟨_,rfl, -, -,rfl⟩;refine Z_4 ?_;refine bO [caR bc r0 (.slice Ac Z.length cc) r2 r3,slv 242 4 Ac Z.length cc (Z.flatMap BA.cells)] Zj (Zrb ([_,_]) ?_);exact gr
def FindK(o:Option BA)(F:List bJ)(v:Value)(cs:List bJ):Prop:=match o with
 |none=>v= .tuple #[.agg #[.w 0,.w 0,.slice none 0 0,.i 0],.bool false]/\cs=F
 |some x=>∃A' c',v= .tuple #[.agg (BA.cells ⟨x.b,A',c'⟩).toArray,.bool true]/\cs=baC ⟨x.b,A',c'⟩::F
theorem Ja(bc:Nat)(room:Int)(X:CaX)(hS:BaSm X.Z)(k:Ky):CI prog 148 [.p bc,.agg (cD k).toArray] (caF bc room X) (λv cs=>FindK (X.Z.find? λx=>x.key==k) (caF bc room X) v cs):=λw hi=>by
 have hZ:=hS.1;have HP:=wT bc (.i room) (.map (some X.ml)) (.i X.fl) X.Ac X.cc X.Z hZ k;obtain⟨o,ho⟩:=Zgn (cT BA.key k X.Z);rw[ho]at HP;refine Zfn func148 ntmps148 hi ?_;refine Z_2 ?_;refine ZO λb3=>?_;refine ZN λb4=>?_
 refine Z_7 ?_;refine ZcM ([caR bc (.i room) (.slice X.Ac X.Z.length X.cc) (.map (some X.ml)) (.i X.fl),blC X]) (λw hi hin=>HP w hin) ?_;refine mZ ?_ ?_<;>intro hc2
 .obtain rfl:o=none:=(by cases o with|none=>rfl|some j=>(have h9:((j:Nat):Int)<0:=of_decide_eq_true hc2;omega));rw[wL ho];refine Z_2 ?_;refine Zy (iK (vs:=[Value.w 0,.w 0,.slice none 0 0,.i 0]) Zk (.inl ⟨_,rfl,rfl⟩)) ?_;refine mR ?_;exact bO (row b4 _ _::caF bc room X) Zj (px (cs':=caF bc room X) (.inl rfl) (List.Sublist.cons _ (bh _)) rfl rfl rfl Zh Zrf Zrf gr)
 obtain⟨j,rfl⟩:∃j,o=some j:=(by cases o with|none=>simp[OM]at hc2|some j=>grind);obtain⟨x,hx,hxk,hxf⟩:=so ho;rw[hxf];have hjl:=(ar.1 hx).1;obtain⟨bs,hbs⟩:=dV (hi.get (.tail _ (.head (blC X) _))) (show 0<X.Z.length by omega);have hxr:∀w0 S cs w,Ink.Inv w0 S cs w->Has cs (bP (X.Z.map baC))->Rd w .u8 x.A (cI x.b.code).length x.c (cI x.b.code):=(λw0 S cs w h hh=>dx (h.joinGet hh (aZ.2 ⟨x,ak hx,rfl⟩)));have hxl:(cI x.b.code).length<=140737488355328:=(by rw[jg];have:=(hS.2 x (ak hx)).1;omega);refine Z_9 ?_;refine Zy (cw (bb:=bs) (o:=0) (n:=X.Z.length) (c:=X.cc) (j:=j) (sz:=4) (r:=j*4) rfl Zrf (hbs▸pk rfl) (Zv rfl) Zrf Wq2 Wq1) ?_;refine dQ (bW (vs:=BA.cells x) Zrf Zrf (Zv rfl)) (nA (n:=X.Z.length) (c:=X.cc) (sz:=4) (e:=242) (xs:=X.Z.flatMap BA.cells) (by have h9:X.Ac=sA bs:=hbs;rw[<-h9];exact(Zhc (blC X))) (λi v hiv=>bZ (f:=BA.cells) Zrf hx hiv)) rfl ?_;refine ZN λb7=>?_
 refine eT (cZ Zrf rfl rfl (mY x) Za o6) ?_;rintro _ _ ⟨rfl,rfl⟩;refine Z_6 ?_;refine ZSn (λw hi=>og x.A (cI x.b.code).length x.c (cI x.b.code) w (hxr _ _ _ _ hi Zh) hxl) ?_;rintro _ _ ⟨A9,c9,rfl,rfl⟩;refine iJ ?_;refine Z_5 ?_;refine jC ?_;exact bO (row b4 _ _::baC ⟨x.b,A9,c9⟩::caF bc room X) Zj (px (cs':=baC ⟨x.b,A9,c9⟩::caF bc room X) (.inl rfl) (List.Sublist.cons _ (bh _)) rfl rfl rfl Zh Zrf Zrf ⟨A9,c9,rfl,rfl⟩)
theorem JM(x k:Ky)(bk:Nat):CI prog 161 ([]++[.agg (cD x).toArray]++[.p bk]) [kyR bk k] (λv cs=>v= .bool (x==k)/\cs=[kyR bk k]/\True):=λw hi=>by
 refine Zfn func161 ntmps161 hi ?_;refine Z_2 ?_;refine ZO λb2=>?_;refine Z_7 ?_;refine Zy (LW wq (FZ x k) (Zv rfl) (Zv rfl)) ?_;refine Z_4 ?_;refine bO [kyR bk k] Zj (Zrb ([row _ _ _]) ?_);exact⟨rfl,rfl,trivial⟩
def LkSm(LK:List (Ky×LS)):Prop:=∀x,x∈LK->ly x.1/\x.2.ks.length<=1000000
theorem Cr(bc ml:Nat)(r0 r1 r3:Value)(LK:List (Ky×LS))(hsm:LkSm LK)(k:Ky)(hk:ly k):CI prog 145 [.p bc,.agg (cD k).toArray] [caR bc r0 r1 (.map (some ml)) r3,mpc ml (lkV LK),bP (lkC LK)] (λ_ cs=>cs=[caR bc r0 r1 (.map (some ml)) r3,mpc ml (lkV (gv LK k)),bP (lkC (gv LK k))]):=λw hi=>by
 obtain⟨L0,hL0⟩:=Zgn (qt LK k);have hU:gv LK k=L0.map λx=>(x.1,lV k x.2):=by unfold gv;rw[hL0]
 have hd:qt (lkV LK) k=lkV L0:=by rw[<-hL0];exact RJ LS.v LK k
 have hsub:(lkC L0).Sublist (lkC LK):=by rw[<-hL0];exact(uz LK k).map _
 have hs0:LkSm L0:=λx hx=>hsm x (by rw[<-hL0]at hx;exact(uz LK k).subset hx)
 refine Zfn func145 ntmps145 hi ?_;refine Z_2 ?_;refine ZO λb3=>?_;refine Z_3 ?_;refine bU (Zdn [5]) Zk (pP ?_);refine ZFe 2 2 ?_;refine ZG 3 ?_;refine ZI 4 ?_;refine kQ ?_;refine fy rfl rfl (t_mdel rfl rfl hk rfl FX Za) ZJ ?_;rintro _ _ ⟨rfl,rfl⟩;rw[hd];refine dR ?_;refine Z_3 ?_;refine yw (cin':=lkC (prL k (List.replicate L0.length false) L0)) Zd (by rw[Da];exact hsub) (Z_4 ?_);refine fo (G4 rfl rfl Za) rfl ?_;rintro _ _ ⟨b15,rfl,rfl⟩;rw[<-DA k L0];refine Z_3 ?_;refine wLo (λF:List Bool=>[(0,.p bc),(3,.p b3),(15,.p b15)]) (λF=>[bP (lkC (prL k F L0)),caR bc r0 r1 (.map (some ml)) r3,itC ml b15 (itL k F L0) none,kyR b3 k]) (λF=>F.length=L0.length) (λF=>D4 F) (List.replicate L0.length false) bY ?_;rintro F hF;refine Z_2 ?_;refine fo (MN rfl Za) rfl ?_;rintro _ _ ⟨o16,ho16,rfl,rfl⟩;refine Zy (LO Zv0) ?_;refine Zw3 ?_ ?_<;>intro hc3
 .obtain⟨⟨j,q,v⟩,rfl⟩:=Option.isSome_iff_exists.1 hc3;have hj0:(itL k F L0)[j]? =some (false,q,v):=ho16;have hjl:=(ar.1 hj0).1;obtain⟨x,hx,hFj,rfl,rfl⟩:=itL_at hj0;have hjx:(lkC (prL k F L0))[j]? =some (lsC x.2):=(by unfold lkC prL;rw[aX,List.getElem?_zipWith,hFj,hx];rfl);have hjp:=(ar.1 hjx).1;have hji:(FF (itL k F L0) (some (j,x.1,x.2.v)))[j]? =some (true,x.1,x.2.v):=(List.getElem?_set_self hjl);have hIT:((itL k F L0).set j (true,x.1,x.2.v)).set j (true,x.1,(lV k x.2).v)=itL k (F.set j true) L0:=(by rw[List.set_set];exact(EV _ F L0 j true x hx).symm);have hPR:(lkC (prL k (F.set j true) L0)).Perm (lsC (lV k x.2)::(lkC (prL k F L0)).eraseIdx j):=(by have e:lkC (prL k (F.set j true) L0)=(lkC (prL k F L0)).set j (lsC (lV k x.2)):=(by unfold lkC prL;rw[EV _ F L0 j true x hx,List.map_set];rfl);rw[e];exact uB hjp);refine Z_5 ?_;refine EY (c:=lsC x.2) (cin':=(lkC (prL k F L0)).eraseIdx j) Zd (oJ hjx) (dQ (LX (Zv rfl)) (λw hi=>(show Cg ml b15 (FF (itL k F L0) (some (j,x.1,x.2.v))) (some (x.1,x.2.v)) w from hi.get (Zhc (itC ml b15 (FF (itL k F L0) (some (j,x.1,x.2.v))) (NI (some (j,x.1,x.2.v))))))) rfl (Z_2 ?_));refine ZN λb4=>?_
  refine eT (cZ (vs:=cD x.1) Zrf rfl rfl (wo x.1) Za o6) ?_;rintro _ _ ⟨rfl,rfl⟩;refine Z_3 ?_;refine bU (Zdr [7,8] (mU bc [r0,r1,.map (some ml),r3]++mU b4 (cD x.1))) Zk (pP ?_);refine ZFe 2 2 ?_;refine eu 3 rfl Zk Zk Zk (bM Zrf (Zv rfl)) Wq37 (eh (bL (t:=235) Zh) (bL (t:=206) Zh)) rfl (nl 4 rfl Zk Zk Zk (bW Zrf Zrf Zv0) (λx hx=>List.mem_append_right _ (dT x hx)) (eh (bL (t:=235) Zh) (bL (t:=206) Zh)) rfl (ZE 5 ?_));refine Zy4 6 rfl (mi rfl) ?_;refine ic ?_;refine gX rfl rfl (dN ([lsC x.2,kyR b3 k]) rfl (λ_ _=>rfl) Zi (λw hi hin=>delK_ok (λ_:Unit=>kyR b3 k) (λ_=>True) (λ_ _=>()) (λq=>q==k) 161 [.p b3] (λ_ _=>rfl) x.2.ks (hs0 x (ak hx)).2 (λ_ y w _ _ hin=>JM y k b3 w hin) x.2.A x.2.c () trivial w hin)) (λ_=>by rintro _ _ ⟨_,⟨rfl,rfl⟩,rfl⟩;exact eh (bL (t:=235) Zh) (bL (t:=206) Zh)) rfl ?_;rintro _ _ ⟨_,⟨rfl,rfl⟩,rfl⟩;refine ig ?_;refine fy rfl rfl (t_itput hji rfl rfl rfl rfl FX Za) (λ_=>by rintro _ _ ⟨rfl,rfl⟩;exact eh (bL (t:=235) Zh) (bL (t:=206) Zh)) ?_;rintro _ _ ⟨rfl,rfl⟩;refine dR ?_;refine Zo (kC (cin':=lkC (prL k (F.set j true) L0)) (c:=lsC (lV k x.2)) Zd Zd hPR ?_);refine lf (c:=itC ml b15 (((itL k F L0).set j (true,x.1,x.2.v)).set j (true,x.1,(lV k x.2).v)) none) (c':=itC ml b15 (itL k (F.set j true) L0) none) Za rfl (λw h=>by grind) ?_
  refine qMP ((F.set j true)) ⟨by grind,zq hFj⟩
 obtain rfl:o16=none:=kS;have ho0:∀x,x∈itL k F L0->x.1=true:=ho16;refine Z_4 ?_;refine C1 (IL:=itL k F L0) (cur:=none) (b:=ml) (r:=b15) Zd ?_;rw[itL_snd k F L0,OA hF ho0];refine bO [caR bc r0 r1 (.map (some ml)) r3,mpc ml (lkV (L0.map λx=>(x.1,lV k x.2))),bP (lkC (L0.map λx=>(x.1,lV k x.2)))] Zj (jE (cs':=[caR bc r0 r1 (.map (some ml)) r3,mpc ml (lkV (L0.map λx=>(x.1,lV k x.2))),bP (lkC (L0.map λx=>(x.1,lV k x.2)))]) (.inr rfl) Zu rfl ?_);rw[hU]
def EN(keys:List Ky)(LK:List (Ky×LS)):Prop:=∀x,x∈LK->ly x.1/\x.2.ks.Nodup/\∀q,q∈x.2.ks->q∈keys
theorem Di:∀{l m:List Ky},l.Nodup->(∀x,x∈l->x∈m)->l.length<=m.length
 |[],m,_,_=>ap _
 |a::l,m,hn,hs=>by
  obtain⟨h1,h2⟩:=List.nodup_cons.1 hn;have hm:=hs a (List.mem_cons_self ..);have:=Di (l:=l) (m:=m.erase a) h2 (λx hx=>(List.mem_erase_of_ne (λe=>h1 bY)).2 (hs x (List.mem_cons_of_mem _ hx)))
  grind
structure rp(room:Int)(X:CaX):Prop where
 rm:1<=room/\room<=1024
 len:(X.Z.length:Int)<=room
 ba:∀x,x∈X.Z->x.b.code.length<=100000/\ly x.b.key
 lk:EN (X.Z.map BA.key) X.LK
variable{keys:List Ky}{LK:List (Ky×LS)}
theorem EN.sm(h:EN keys LK)(hk:keys.length<=1000000):∀x,x∈LK->ly x.1/\x.2.ks.length<=1000000:=λx hx=>⟨(h x hx).1,aK (Di (h x hx).2.1 (h x hx).2.2) hk⟩
theorem EN.unlink(h:EN keys LK)(k:Ky):EN keys (gv LK k)/\∀x,x∈gv LK k->∀q,q∈x.2.ks->q≠k:=by
 refine⟨λx hx=>?_,λx hx q hq=>?_⟩
 .obtain⟨y,hy,rfl⟩:=aZ.1 hx;obtain⟨h1,h2,h3⟩:=h y ((uz LK k).subset hy);exact⟨h1,h2.filter _,λq hq=>h3 q (List.mem_filter.1 hq).1⟩
 obtain⟨y,hy,rfl⟩:=aZ.1 hx;have:=(List.mem_filter.1 hq).2
 grind
theorem EN.mono{keys':List Ky}(h:EN keys LK)(hs:∀q,q∈keys->q∈keys'):EN keys' LK:=λx hx=>⟨(h x hx).1,(h x hx).2.1,λq hq=>hs q ((h x hx).2.2 q hq)⟩
theorem JL{x:Ky×LS}(hx:x∈gv LK k):∃y,y∈LK/\∀q,q∈x.2.ks->q∈y.2.ks:=by
 obtain⟨y,hy,rfl⟩:=aZ.1 hx;exact⟨y,(uz LK k).subset hy,λq hq=>(List.mem_filter.1 hq).1⟩
theorem rp.sm{X:CaX}(h:rp room X):BaSm X.Z:=⟨by have:=h.len;have:=h.rm;omega,h.ba⟩
theorem rp.none(h:1<=room/\room<=1024)(ml:Nat)(A:Oa)(c:Nat)(fl:Int):rp room ⟨ml,A,c,fl,[],[]⟩:=
 ⟨h,bY,(λy hy=>nomatch hy),(λy hy=>nomatch hy)⟩
theorem rp.set{room:Int}{X:CaX}(h:rp room X){j:Nat}{x t:BA}(hx:X.Z[j]? =some x)(hk:x.key=t.key)(ht:t.b.code.length<=100000/\ly t.b.key)(ml:Nat)(A:Oa)(c:Nat)(fl:Int):rp room ⟨ml,A,c,fl,gv X.LK t.key,X.Z.set j t⟩:=by
 have hjl:=(ar.1 hx).1;have e9:(X.Z.set j t).map BA.key=X.Z.map BA.key:=by
  rw[List.map_set];apply List.ext_getElem?;intro i;rw[List.getElem?_set];by_cases hij:j=i
  .grind
  grind
 refine⟨h.rm,by simp[h.len],λy hy=>?_,?_⟩
 .rcases List.mem_or_eq_of_mem_set hy with hy|rfl
  .exact h.ba y hy
  exact ht
 dsimp only;rw[e9];exact(h.lk.unlink t.key).1
theorem rp.push{X:CaX}(h:rp room X)(hlt:(X.Z.length:Int)<room){t:BA}(ht:t.b.code.length<=100000/\ly t.b.key)(A:Oa)(c:Nat):rp room ⟨X.ml,A,c,X.fl,X.LK,X.Z++[t]⟩:=by
 refine⟨h.rm,gW,λy hy=>?_,h.lk.mono λq hq=>by grind⟩;rcases az.1 hy with hy|hy
 .exact h.ba y hy
 grind
def od(D:BA->Bool)(r:Int×List (Ky×LS))(x:BA):Int×List (Ky×LS):=bif D x then(IntKind.i64.wrap (r.1+1),gv r.2 x.key)else r
theorem wM(D:BA->Bool)(keys:List Ky):∀(l:List BA) (r:Int×List (Ky×LS)),0<=r.1->r.1+(l.length:Int)<=1000000000->EN keys r.2->(l.foldl (od D) r).1=r.1+(l.filter D).length/\EN keys (l.foldl (od D) r).2/\(∀y,y∈(l.foldl (od D) r).2->∃z,z∈r.2/\∀q,q∈y.2.ks->q∈z.2.ks)/\
  ∀y,y∈(l.foldl (od D) r).2->∀q,q∈y.2.ks->∀x,x∈l->D x=true->q≠x.key
 |[],r,_,_,h=>⟨by simp,h,λy hy=>⟨y,hy,λq hq=>hq⟩,λ_ _ _ _ x hx=>by cases hx⟩
 |x::l,r,h0,hb,h=>by
  have hb2:r.1+(l.length:Int)+1<=1000000000:=by simp only[aO]at hb;omega
  rw[List.foldl_cons,List.filter_cons];cases hD:D x with
  |false=>
   have e:od D r x=r:=by unfold od;rw[hD,ah]
   rw[e];obtain⟨h1,h2,h3,h4⟩:=wM D keys l r h0 Wq1 h
   grind
  |true=>
   have e:od D r x=(r.1+1,gv r.2 x.key):=by unfold od;rw[hD,ai,show IntKind.i64.wrap (r.1+1)=r.1+1 by rw[bI];omega]
   rw[e];obtain⟨u1,u2⟩:=h.unlink x.key;obtain⟨h1,h2,h3,h4⟩:=wM D keys l (r.1+1,gv r.2 x.key) Wq1 Wq1 u1
   grind [JL]
theorem put_at{key:α->Ky}(h:cT key (key t) l=some j):vQ key room l t=l.set j t:=by unfold vQ;rw[h]
theorem RP{key:α->Ky}(h:cT key (key t) l=none)(h2:room<=(l.length:Int)):vQ key room l t=[t]:=by grind [vQ]
theorem RO{key:α->Ky}(h:cT key (key t) l=none)(h2:¬room<=(l.length:Int)):vQ key room l t=l++[t]:=by grind [vQ]
theorem place_b(k:Ky)(Z:List BA):cT Blk.key k (Z.map BA.b)=cT BA.key k Z:=by grind [kt]
theorem cnew_ok(room:Int)(w:World):Ctr prog 115 [.i room] w [] (λv cs=>if 1<=room/\room<=1024 then∃bc ml,v= .tuple #[.p bc,.i 0]/\cs=caF bc room ⟨ml,none,0,0,[],[]⟩else v= .tuple #[.pointer none,.i 1]/\cs=[]):=by
 refine Zfs func115 ntmps115 ?_;refine ue ?_;refine ZW ?_ ?_<;>intro hc1
 .have hnr:¬(1<=room/\room<=1024):=bY;refine Z_8 ?_;refine mf ?_;rw[if_neg hnr];exact gr
 have hnr:1<=room/\room<=1024:=bY;refine Z_4 ?_;refine cY 242 4 (fg (fg (ZA ?_)));refine fo (E9 rfl) rfl ?_;rintro _ _ ⟨b11,rfl,rfl⟩;refine ZA ?_;refine ZO λb13=>?_
 refine Z_5 ?_;refine bO (caF b13 room ⟨b11,none,0,0,[],[]⟩) Zj (AH (cs':=caF b13 room ⟨b11,none,0,0,[],[]⟩) (.inl rfl) (bh _) rfl rfl rfl ?_);rw[if_pos hnr];exact⟨b13,b11,rfl,rfl⟩
theorem clen_ok(bc:Nat)(room:Int)(X:CaX):CI prog 189 [.p bc] (caF bc room X) (λv cs=>v= .i (X.Z.length:Int)/\cs=caF bc room X):=λw hi=>by
 refine Zfn func189 ntmps189 hi ?_;refine rc ?_;exact LH (cs':=caF bc room X) (.inl rfl) (bh _) rfl rfl gr
theorem En(bc:Nat)(room:Int)(X:CaX):CI prog 137 [.p bc] (caF bc room X) (λv cs=>∃ml fl,v= .i (X.Z.length:Int)/\cs=caF bc room ⟨ml,none,0,fl,[],[]⟩):=λw hi=>by
 refine Zfn func137 ntmps137 hi ?_;refine ue ?_;refine cY 242 4 (fg (fg (Z_2 ?_)));refine fo (E9 rfl) rfl ?_;rintro _ _ ⟨b11,rfl,rfl⟩;refine kZ ?_;refine kZ ?_;refine Z_8 ?_;refine pR ?_;refine kZ ?_;refine Z_9 ?_;exact bO (caF bc room ⟨b11,none,0,IntKind.i64.wrap (X.fl+1),[],[]⟩) Zj (LH (cs':=caF bc room ⟨b11,none,0,IntKind.i64.wrap (X.fl+1),[],[]⟩) (.inl rfl) (bh _) rfl rfl pO)
abbrev caL(bc:Nat)(room:Int)(ml:Nat)(A:Oa)(cc:Nat)(fl:Int)(n:Nat)(xs:List Value)(cin:List bJ)(LK:List (Ky×LS)):List bJ:=[caR bc (.i room) (.slice A n cc) (.map (some ml)) (.i fl),slv 242 4 A n cc xs,bP cin,mpc ml (lkV LK),bP (lkC LK)]
theorem cput_ok(bc:Nat)(room:Int)(X:CaX)(hX:rp room X)(t:BA)(ht:t.b.code.length<=100000/\ly t.b.key)(hc1:1<=t.b.count)(hne:t.b.code≠[])(w:World)(hi:Inv w (bK (caF bc room X)) (caF bc room X) w)(hR:∀w',dc (bK (caF bc room X)) w w'->Rd w' .u8 t.A (cI t.b.code).length t.c (cI t.b.code)):
  Ctr prog 188 [.p bc,.agg t.cells.toArray] w (caF bc room X) (λ_ cs=>∃X':CaX,cs=caF bc room X'/\rp room X'/\X'.Z.map BA.b=vQ Blk.key room (X.Z.map BA.b) t.b):=by
 have hS:=hX.sm;have hZ:=hS.1;have hlen:=hX.len;obtain⟨hr1,hr2⟩:=hX.rm;have hb8:(cI t.b.code).length<=140737488355328:=by rw[jg];omega
 have hb0:(cI t.b.code).length≠0:=by rw[jg];intro e;exact hne (List.eq_nil_of_length_eq_zero Wq1)
 have HP:=wT bc (.i room) (.map (some X.ml)) (.i X.fl) X.Ac X.cc X.Z hZ t.b.key;have HU:=Cr bc X.ml (.i room) (.slice X.Ac X.Z.length X.cc) (.i X.fl) X.LK (hX.lk.sm bY) t.b.key ht.2;have HF:=En bc room X;obtain⟨o,ho⟩:=Zgn (cT BA.key t.b.key X.Z);rw[ho]at HP;have hob:cT Blk.key t.b.key (X.Z.map BA.b)=o:=by rw[place_b,ho]
 obtain⟨ml,Ac,cc,fl,LK,Z⟩:=X;dsimp only at hS hZ hlen HP HU HF ho hob;refine Zfn func188 ntmps188 hi ?_;refine Z_2 ?_;refine ZO λb3=>?_;refine ue ?_;refine cy rfl (bY) (Z_6 ?_);refine ZSn (λw hi=>og t.A (cI t.b.code).length t.c (cI t.b.code) w (hR w hi.WB) hb8) ?_;rintro _ _ ⟨A9,c9,rfl,rfl⟩;refine iJ ?_;refine Z_7 ?_;refine dQ (bW (vs:=cD t.b.key) Zrf Zrf Zv0) (cX Zh rfl) rfl (ZcM ([caR bc (.i room) (.slice Ac Z.length cc) (.map (some ml)) (.i fl),slv 242 4 Ac Z.length cc (Z.flatMap BA.cells)]) (λw hi hin=>HP w hin) ?_);refine Zw9 ?_ ?_<;>intro hc5
 .obtain⟨j,rfl⟩:∃j,o=some j:=(by cases o with|none=>cases hc5|some j=>grind);obtain⟨x,hx,hxk, -⟩:=so ho;have hjl:=(ar.1 hx).1;obtain⟨bs,rfl⟩:=dV (hi.get (.tail _ (.head (slv 242 4 Ac Z.length cc (Z.flatMap BA.cells)) _))) (show 0<Z.length by omega);refine Z_4 ?_;refine dQ (bW (vs:=cD t.b.key) Zrf Zrf Zv0) (cX Zh rfl) rfl (ZcL ([caR bc (.i room) (.slice (sA bs) Z.length cc) (.map (some ml)) (.i fl),mpc ml (lkV LK),bP (lkC LK)]) (λw hi hin=>HU w hin) ?_);rintro _ _ ⟨_,rfl,rfl⟩;refine Z_3 ?_;refine bU (Zdn [7]) Zk (pP ?_);refine ZFe 2 1 ?_;refine pQ ?_;refine ZI 5 ?_;refine Zy4 6 rfl (cw (bb:=bs) (o:=0) (n:=Z.length) (c:=cc) (j:=j) (sz:=4) (r:=j*4) rfl Zrf (Zv rfl) (Zv rfl) Zrf Wq2 Wq1) ?_;refine ic ?_;refine fy rfl rfl (vm (sz:=4) (n:=Z.length) (c:=cc) (vs:=BA.cells ⟨t.b,A9,c9⟩) Zrf rfl rfl (mY _) Za rfl Wq1) ZJ ?_;rintro _ _ ⟨rfl,rfl⟩;rw[Bz (f:=BA.cells) (sz:=4) Zrf hjl];refine dR ?_;refine Z_8 ?_;exact CZ (cin:=Z.map baC) (c:=baC x) (cin':=(Z.map baC).eraseIdx j) Zd (oJ bY) (kC (cin:=(Z.map baC).eraseIdx j) (c:=baC ⟨t.b,A9,c9⟩) (cin':=(Z.set j ⟨t.b,A9,c9⟩).map baC) Zd Zd (by rw[List.map_set];exact uB bY) (bO (caL bc room ml (sA bs) cc fl Z.length ((Z.set j ⟨t.b,A9,c9⟩).flatMap BA.cells) ((Z.set j ⟨t.b,A9,c9⟩).map baC) (gv LK t.b.key)) Zj (LH (cs':=caL bc room ml (sA bs) cc fl Z.length ((Z.set j ⟨t.b,A9,c9⟩).flatMap BA.cells) ((Z.set j ⟨t.b,A9,c9⟩).map baC) (gv LK t.b.key)) (.inl rfl) (bh _) rfl rfl ⟨⟨ml,some ⟨bs,0,none⟩,cc,fl,gv LK t.b.key,Z.set j ⟨t.b,A9,c9⟩⟩,by grind,hX.set (t:=⟨t.b,A9,c9⟩) hx hxk ht _ _ _ _,by rw[put_at hob,List.map_set]⟩)))
 obtain rfl:o=none:=(by cases o with|none=>rfl|some j=>have h9:¬(0:Int)<=((j:Nat):Int):=of_decide_eq_false hc5;omega);refine Z_2 ?_;refine cL (λY:CaX=>[(0,.p bc),(3,.p b3)]) (λY=>caF bc room Y++[row b3 (BA.cells ⟨t.b,A9,c9⟩) 242,baC ⟨t.b,A9,c9⟩]) (λY=>rp room Y/\(Y.Z.length:Int)<room/\Y.Z.map BA.b++[t.b]=vQ Blk.key room (Z.map BA.b) t.b) ?_ ?_
 .refine Zs (bU (Zdn []) Zk ?_);refine pP ?_;refine ZFe 2 1 ?_;refine pQ ?_;refine kU ?_;refine ZFe 7 0 ?_;refine ZG 8 ?_;refine ZE 9 ?_;refine ug ?_;refine ZW ?_ ?_<;>intro hc9
  .have hfull:room<=((Z.map BA.b).length:Int):=bY;refine Z_2 ?_;refine dy (caF bc room ⟨ml,Ac,cc,fl,LK,Z⟩) (λw hi hin=>HF w hin) ?_;rintro _ _ ⟨ml2,fl2,rfl,rfl⟩;refine Zn (qMP ((⟨ml2,none,0,fl2,[],[]⟩:CaX)) ⟨rp.none ⟨hr1,hr2⟩ _ _ _ _,by grind,by rw[RP hob hfull];rfl⟩)
  have hfull:¬room<=((Z.map BA.b).length:Int):=bY;refine Zc (qMP ((⟨ml,Ac,cc,fl,LK,Z⟩:CaX)) ⟨hX,by grind,by rw[RO hob hfull]⟩)
 rintro⟨ml2,Ac2,cc2,fl2,LK2,Z2⟩ ⟨hY,hlt,hput⟩;dsimp only at hlt hput|-;refine Zs (bU (Zdr [7,10] (mU b3 (BA.cells ⟨t.b,A9,c9⟩))) Zk ?_);refine pS ?_;refine ZFe 3 1 ?_;refine ZG 4 ?_;refine nl 5 rfl Zk Zk Zk (bW Zrf Zrf Zv0) (λx hx=>dT x hx) (bL (t:=242) Zh) rfl (cW 6 Zk (gX rfl rfl (gZ rfl rfl Zrf Zrf rfl rfl rfl) (λ_=>by rintro _ _ ⟨b54,rfl,rfl⟩;exact bL (t:=242) Zh) rfl ?_));rintro _ _ ⟨b54,rfl,rfl⟩;refine ic ?_;refine gX rfl rfl (bV (n:=Z2.length) (e:=242) (sz:=4) (bytes:=40) rfl rfl Za rfl rfl (λw hi=>hi.rd (Zhc (slv 242 4 (sA b54) 1 1 (BA.cells ⟨t.b,A9,c9⟩)))) (mY ⟨t.b,A9,c9⟩) Wq9 Wq1) (λ_=>by rintro _ _ ⟨A2,c2,rfl,rfl⟩;exact bL (t:=242) Zh) rfl ?_;rintro _ _ ⟨A2,c2,rfl,rfl⟩;rw[show Z2.flatMap BA.cells++BA.cells ⟨t.b,A9,c9⟩=(Z2++[(⟨t.b,A9,c9⟩:BA)]).flatMap BA.cells by simp,show Z2.length+1=(Z2++[(⟨t.b,A9,c9⟩:BA)]).length by simp];refine ZE 8 ?_;refine ZFe 9 1 ?_;refine mb ?_;refine fy rfl rfl (mm Zrf rfl rfl rfl Za Zp) (λ_=>by rintro _ _ ⟨rfl,rfl⟩;exact bL (t:=242) Zh) ?_;rintro _ _ ⟨rfl,rfl⟩;refine dR ?_;refine Z_7 ?_;exact kC (cin:=Z2.map baC) (c:=baC ⟨t.b,A9,c9⟩) (cin':=(Z2++[(⟨t.b,A9,c9⟩:BA)]).map baC) Zd Zd kS (bO (caF bc room ⟨ml2,A2,c2,fl2,LK2,Z2++[(⟨t.b,A9,c9⟩:BA)]⟩) Zj (LH (cs':=caF bc room ⟨ml2,A2,c2,fl2,LK2,Z2++[(⟨t.b,A9,c9⟩:BA)]⟩) (.inl rfl) (bh _) rfl rfl ⟨⟨ml2,A2,c2,fl2,LK2,Z2++[(⟨t.b,A9,c9⟩:BA)]⟩,rfl,hY.push (t:=⟨t.b,A9,c9⟩) hlt ht _ _,by grind⟩))
end
end Go.Ink
