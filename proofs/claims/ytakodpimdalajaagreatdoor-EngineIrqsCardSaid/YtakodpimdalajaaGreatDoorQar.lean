/- Lemmas. -/
import Derived.Test.YtakodpimdalajaaGreatDoorQaa
import Derived.Test.YtakodpimdalajaaGreatDoorQab
import Derived.Test.YtakodpimdalajaaGreatDoorQac
import Derived.Test.YtakodpimdalajaaGreatDoorQae
import Derived.Test.YtakodpimdalajaaGreatDoorQai
import Derived.Test.YtakodpimdalajaaGreatDoorQam
set_option linter.unusedSimpArgs false
set_option linter.unusedVariables false
set_option maxRecDepth 100000
set_option maxHeartbeats 4000000
namespace Go.Ink
open Go.RowKit
def cK(b:List Int):Nat→Nat→List (Int×Int)×Nat×Bool
 |0,sz=>([],sz,false)
 |k+1,sz=>match dU (b.drop sz)with
  |none=>([],sz,false)
  |some (i,z)=>bif dA i.1 then(bif gl i.1 then([i],sz+z,true)else(i::(cK b k (sz+z)).1,(cK b k (sz+z)).2.1,(cK b k (sz+z)).2.2))else([],sz,false)
inductive ko (b:List Int):Nat→List (Int×Int)→Nat→Prop
 |nil (o:Nat):ko b o [] o
 |cons {o z e:Nat} {i:Int×Int} {l:List (Int×Int)} (h:dU (b.drop o)=some (i,z)) (t:ko b (o+z) l e):ko b o (i::l) e
theorem m4{b:List Int}{i:Int×Int}{z:Nat}(h:dU b=some (i,z)):z=(cz i.1).toNat∧0<cz i.1∧z≤b.length∧∀b':List Int,b'.take z=b.take z→dU b'=some (i,z):=by
 cases b with
 |nil=>cases h
 |cons op l=>
  have h:(bif cz op==0 then none else bif decide ((l.length:Int)+1<cz op)then none else some ((op,w6 (l.take ((cz op).toNat - 1))),(cz op).toNat))=some (i,z):=h;cases h0:cz op==0 with
  |true=>rw[h0]at h;cases h
  |false=>
  cases h1:decide ((l.length:Int)+1<cz op)with
  |true=>rw[h0,h1]at h;cases h
  |false=>
  rw[h0,h1]at h;simp only[aa,aR,bz]at h;obtain⟨rfl,rfl⟩:=h;simp only[beq_eq_false_iff_ne,aj]at h0 h1;have hz:cz op=0∨cz op=1∨cz op=2∨cz op=5:=ja op;refine⟨rfl,by show 0<cz op;omega,by rw[ai];omega,fun b' hb=>?_⟩;obtain⟨m,hm⟩:∃m:Nat,(cz op).toNat=m+1:=⟨(cz op).toNat - 1,by omega⟩;rw[hm]at hb⊢;cases b' with
  |nil=>rw[List.take_succ_cons,List.take_nil]at hb;cases hb
  |cons op' l'=>
   rw[List.take_succ_cons,List.take_succ_cons,List.cons.injEq]at hb;obtain⟨rfl,hb⟩:=hb;have hl:m≤l'.length:=by
    have e:=congrArg List.length hb;rw[aF,aF]at e;omega
   rw[show m+1 - 1=m from rfl,←hb];exact oA (by omega) hl
theorem ko.le{b:List Int}{o e:Nat}{l:List (Int×Int)}(h:ko b o l e):o≤e:=by
 induction h with
 |nil=>exact aS _
 |cons h t ih=>omega
theorem ko.ends{b:List Int}{o e:Nat}{l:List (Int×Int)}(h:ko b o l e)(hl:l≠[]):e≤b.length∧o<e:=by
 induction h with
 |nil=>exact absurd rfl hl
 | @cons o z e i l h t ih=>
  obtain⟨h1,h2,h3, -⟩:=m4 h;rw[bn]at h3;have hle:=t.le;have hz:0<z:=by omega
  cases l with
  |nil=>cases t;omega
  |cons j l=>have:=ih (by simp);omega
theorem ko.stay{b b':List Int}{o e:Nat}{l:List (Int×Int)}(h:ko b o l e)(hb:b'.take e=b.take e):ko b' o l e:=by
 induction h with
 |nil=>exact .nil _
 | @cons o z e i l h t ih=>
  obtain⟨-, -, -,h4⟩:=m4 h;refine .cons (h4 _ ?_) (ih hb);have hle:=t.le;rw[List.take_drop,List.take_drop,show(b'.take (o+z))=(b'.take e).take (o+z) by rw[List.take_take,Nat.min_eq_left hle],hb,List.take_take,Nat.min_eq_left hle]
theorem kQ(b:List Int):∀(k sz:Nat),ko b sz (cK b k sz).1 (cK b k sz).2.1∧(cK b k sz).1.length≤k∧((cK b k sz).1≠[]→(cK b k sz).2.2=gl ((cK b k sz).1.getLastD (0,0)).1)∧((cK b k sz).1=[]→(cK b k sz).2.2=false)
 |0,sz=>⟨.nil sz,aS _,fun h=>absurd rfl h,fun _=>rfl⟩
 |k+1,sz=>by
  unfold cK;cases hd:dU (b.drop sz)with
  |none=>exact⟨.nil sz,ax _,fun h=>absurd rfl h,fun _=>rfl⟩
  |some q=>
   obtain⟨i,z⟩:=q;dsimp only;cases hp:dA i.1 with
   |false=>exact⟨.nil sz,ax _,fun h=>absurd rfl h,fun _=>rfl⟩
   |true=>
    rw[ac];cases he:gl i.1 with
    |true=>exact⟨.cons hd (.nil _),by simp,fun _=>he.symm,fun h=>by cases h⟩
    |false=>
     rw[aa];obtain⟨h1,h2,h3,h4⟩:=kQ b k (sz+z);refine⟨.cons hd h1,Nat.succ_le_succ h2,fun _=>?_,fun h=>by cases h⟩;dsimp only;cases hl:(cK b k (sz+z)).1 with
     |nil=>rw[h4 hl];exact he.symm
     |cons j l=>rw[h3 (by rw[hl];simp),hl];rfl
theorem ko.u32{b:List Int}(hb:u8s b){o e:Nat}{l:List (Int×Int)}(h:ko b o l e):∀i,i∈l→u32 i.2:=by
 induction h with
 |nil=>intro i hi;cases hi
 | @cons o z e i l h t ih=>
  intro j hj;rcases aL.1 hj with rfl|hj
  ·obtain⟨op,nn⟩:=j;exact(lY (fun x hx=>hb x (List.mem_of_mem_drop hx)) h).1
  exact ih j hj
theorem zq{b:Bool}{x y:Run}{h:Bool}(hx:x.s.halted=h)(hy:y.s.halted=h):(bif b then x else y).s.halted=h:=by cases b<;>assumption
theorem vP{op nn:Int}{s:St}(h:dA op=true):(doN s op nn).s.halted=s.halted:=by
 have hm:(vY s op nn).s.halted=s.halted:=by
  have hc:op=0∨op=1∨op=2∨op=3∨op=4∨op=5∨op=6∨op=7∨op=8∨op=16∨op=17∨op=18∨op=19∨op=20∨op=21∨op=22∨op=23∨op=25∨op=32∨op=33∨op=34∨op=35∨op=36∨op=37∨op=38∨op=39∨op=40:=by
   rcases iP h with h|h|h|h<;>omega
  rcases hc with rfl|rfl|rfl|rfl|rfl|rfl|rfl|rfl|rfl|rfl|rfl|rfl|rfl|rfl|rfl|rfl|rfl|rfl|rfl|rfl|rfl|rfl|rfl|rfl|rfl|rfl|rfl<;>
  first
  |exact rfl
  |exact zq rfl rfl
  |exact zq (b:=(ij _ (eW s _).pop.top (eW s _).top).2.2) (x:=(eW s _).pop.pop) (y:=(eW s _).pop.pop.wt ⟨5,0⟩) rfl rfl
 unfold doN;cases s.right with
 |false=>rfl
 |true=>
  simp only[Bool.not_true,aa];cases(eO s op nn !=0)with
  |true=>rfl
  |false=>
   rw[aa];unfold HJ;cases((vY s op nn).Io.Ie !=0)with
   |true=>rfl
   |false=>exact hm
theorem H0{b:Bool}{x y:Run}{h:Int}(hx:x.s.pc=h)(hy:y.s.pc=h):(bif b then x else y).s.pc=h:=by cases b<;>assumption
theorem Ft{op nn:Int}{s s1:St}(h:dA op=true)(hr:s.right=true)(he:gl op=false)(hd:doN s op nn=⟨s1,false,false,[]⟩):s1.pc=dP s op:=by
 have hlt:=DS h he;have hm:(vY s op nn).s.pc=dP s op:=by
  have hc:op=0∨op=1∨op=2∨op=3∨op=4∨op=5∨op=6∨op=7∨op=8∨op=16∨op=17∨op=18∨op=19∨op=20∨op=21∨op=22∨op=23∨op=25:=by
   rcases iP h with h|h|h|h<;>omega
  rcases hc with rfl|rfl|rfl|rfl|rfl|rfl|rfl|rfl|rfl|rfl|rfl|rfl|rfl|rfl|rfl|rfl|rfl|rfl<;>
  first
  |exact rfl
  |exact H0 rfl rfl
  |exact H0 (b:=(ij _ (eW s _).pop.top (eW s _).top).2.2) (x:=(eW s _).pop.pop) (y:=(eW s _).pop.pop.wt ⟨5,0⟩) rfl rfl
 unfold doN at hd;rw[hr]at hd;simp only[Bool.not_true,aa]at hd;cases hk:(eO s op nn !=0)with
 |true=>rw[hk]at hd;cases hd
 |false=>
  rw[hk,aa]at hd;unfold HJ at hd;cases ht:((vY s op nn).Io.Ie !=0)with
  |true=>rw[ht]at hd;cases hd
  |false=>
   rw[ht,aa]at hd;obtain rfl:=congrArg Res.s hd;exact hm
theorem yJ(p:Int)(va:Nat):(pE p va).toNat%64=va%64∧0≤pE p va:=by
 unfold pE;simp only[aE];omega
theorem zN(n:Nat)(U:Mmu)(s:Sp)(va:Nat)(kind:Int)(h:(de n U s va kind).1.2.Ie=0):(de n U s va kind).1.1.toNat%64=va%64:=by
 unfold de at h⊢;revert h;cases s.Il with
 |false=>intro _;show((va:Int)).toNat%64=_;rw[aQ]
 |true=>
  simp only[Bool.not_true,aa];intro h;cases hf:(pN U.t va kind s.If).2 with
  |true=>
   rw[ac];show(pN U.t va kind s.If).1.toNat%64=_;unfold pN at hf⊢;cases hn:mV (xm U.t va) va (asked kind s.If)with
   |true=>rw[hn]at hf;cases hf
   |false=>rw[aa];exact(yJ _ va).1
  |false=>
   rw[hf,aa]at h;rw[aa];cases hw:(gI n U.m s.root va kind s.If).1.2.Ie !=0 with
   |true=>
    rw[hw,ac]at h;simp only[bne_iff_ne]at hw;exact absurd h hw
   |false=>rw[aa];exact(yJ _ va).1
theorem Cw(n:Nat)(U:Mmu)(s:Sp)(va:Nat)(h:(cR n U s va 1).1.2.Ie=0):(cR n U s va 1).1.1.toNat%64=va%64∧(cR n U s va 1).1.1<((n*64:Nat):Int):=by
 have hf:(fault 1==0)=false:=rfl;unfold cR at h⊢;rw[hf,aa]at h⊢;cases hc:(de n U s va 1).1.2.Ie !=0 with
 |true=>
  rw[hc,ac]at h;simp only[bne_iff_ne]at hc;exact absurd h hc
 |false=>
  rw[hc,aa]at h;rw[aa];simp only[bne_eq_false_iff_eq]at hc;have e:((1:Int) !=1)=false:=rfl;rw[e,Bool.false_and,Bool.or_false]at h⊢;cases hd:decide ((de n U s va 1).1.1<((n*64:Nat):Int))with
  |false=>rw[hd,aa]at h;cases h
  |true=>
   rw[ac];exact⟨zN n U s va 1 hc,by simpa using hd⟩
theorem rW{n:Nat}{s:St}{U:Mmu}{d:Dev}(h:GOk n s U d)(hr:(et n s U d).runs=true):(et n s U d).place.toNat%64=(et n s U d).s.pc.toNat%64∧(et n s U d).place<((n*64:Nat):Int):=by
 unfold et at hr⊢;cases hc: !s.right||s.halted with
 |true=>rw[hc]at hr;cases hr
 |false=>
  rw[hc,aa]at hr;rw[aa];unfold rX at hr⊢;dsimp only at hr⊢;cases ht:(cR n U (told s (d.tick s.count)).space (told s (d.tick s.count)).pc.toNat 1).1.2.Ie !=0 with
  |true=>rw[ht]at hr;cases hr
  |false=>
   rw[aa];simp only[bne_eq_false_iff_eq]at ht;exact Cw n U _ _ ht
theorem sT{n Iq:Nat}(hn:n≤1000000)(hpg:Iq<n):∀(l:List (Int×Int)) {s s2:St} (o k:Nat) {e:Nat} {U:Mmu} (d:Dev),l≠[]→Bd l s s2→l.length≤k→ko ((U.m.data.drop (Iq*64)).take 64) o l e→0≤s.pc→s.pc≤4294967295→s.pc.toNat%64=o→s.halted=false→
  s2.halted=false∧(gl (l.getLastD (0,0)).1=false→s2.pc=IntKind.u32.wrap (s.pc+((e:Int) - (o:Int))))∧fe n Iq k s (Iq*64+o) U d=bif gl (l.getLastD (0,0)).1||s2.pc/64 !=s.pc/64 then(s2,⟨U.m.calm,U.t⟩,d)else fe n Iq (k - l.length) s2 (Iq*64+e) ⟨U.m.calm,U.t⟩ d
 |[],_,_,_,_,_,_,_,hl,_,_,_,_,_,_,_=>absurd rfl hl
 |(op,nn)::l,s,s2,o,0,e,U,d,_,_,hk,_,_,_,_,_=>by simp at hk
 |(op,nn)::l,s,s2,o,k+1,e,U,d,_,hc,hk,hs,p0,p1,hpo,hh=>by
  have hse:=(hs.ends (by simp));rw[aF]at hse;cases hc with
  | @cons _ _ _ _ s1 _ hp hr hdo hm hc=>
  cases hs with
  | @cons _ z _ _ _ hd hs=>
  obtain⟨hz1,hz2,hz3, -⟩:=m4 hd;dsimp only at hz1 hz2;have hle:=hs.le;have hf:eI n U.m (Iq*64+o)=some ((op,nn),z):=by
   unfold eI;have e1:(Iq*64+o)/64=Iq:=by omega
   have e2:(Iq*64+o)%64=o:=by omega
   rw[e1,e2,aB hpg,ac];exact hd
  obtain⟨hpd, -, -⟩:=yI (n:=n) (nn:=nn) (U:=U) (d:=d) hp hr;rw[hdo]at hpd;have hh1:s1.halted=false:=by
   have:=vP (s:=s) (nn:=nn) hp;rw[hdo]at this;exact this.trans hh
  have e64:(Iq*64+o+z)%4294967296=Iq*64+(o+z):=by omega
  cases l with
  |nil=>
   cases hc
   cases hs
   refine⟨hh1,fun he=>?_,?_⟩
   ·rw[Ft hp hr he hdo];unfold dP;rw[aE,aE,aE];omega
   show fe n Iq (k+1) s (Iq*64+o) U d=bif gl op||s2.pc/64 !=s.pc/64 then(s2,⟨U.m.calm,U.t⟩,d)else fe n Iq k s2 (Iq*64+(o+z)) ⟨U.m.calm,U.t⟩ d
   conv=>lhs;unfold fe
   rw[hf];dsimp only;rw[hpd];dsimp only;rw[e64];unfold kz;dsimp only;rw[hh1];have hcon:List.contains ([]:List Int) ((Iq:Nat):Int)=false:=rfl;rw[hcon];cases gl op with
   |true=>rfl
   |false=>
    simp only[Bool.or_false,aa,Bool.false_or];cases hq:s2.pc/64==s.pc/64 with
    |true=>simp only[bne,hq,Bool.not_true,ac,aa]
    |false=>simp only[bne,hq,Bool.not_false,ac,aa]
  |cons j l=>
   obtain⟨he,hpc⟩:=hm (by simp);have hse2:=(hs.ends (by simp)).2;have hpc1:s1.pc=s.pc+z:=by
    rw[hpc];unfold dP;rw[aE,aE];omega
   have ih:=sT hn hpg (j::l) (s:=s1) (s2:=s2) (o+z) k (e:=e) (U:=⟨U.m.calm,U.t⟩) d (by simp) hc (by simpa using hk) hs (by omega) (by omega) (by omega) hh1;refine⟨ih.1,fun he=>?_,?_⟩
   ·rw[ih.2.1 he,hpc1,show(s.pc+(z:Int)+((e:Int) - ((o+z:Nat):Int)))=s.pc+((e:Int) - (o:Int)) by omega]
   have hlast:(((op,nn)::j::l).getLastD (0,0))=((j::l).getLastD (0,0)):=rfl;have hq:s1.pc/64=s.pc/64:=by omega
   conv=>lhs;unfold fe
   rw[hf];dsimp only;rw[hpd];dsimp only;rw[e64];unfold kz;dsimp only;rw[hh1,he];have hcon:List.contains ([]:List Int) ((Iq:Nat):Int)=false:=rfl;rw[hcon];simp only[Bool.or_false,aa];rw[show(s1.pc/64==s.pc/64)=true by rw[hq];simp,ac,ih.2.2,hlast,hq];rw[show(k+1) - (((op,nn)::j::l)).length=k - (j::l).length by simp]
   rfl
structure Blk where
 key:Ky
 code:List HI
 count:Int
structure Rn where
 bytes:List Int
 ends:Bool
def Rn.zero:Rn:=⟨[],false⟩
def qR{α:Type}(key:α→Ky)(room:Int)(l:List α)(t:α):List α:=match cT key (key t) l with
 |some j=>l.set j t
 |none=>bif decide (room≤(l.length:Int))then[t]else l++[t]
def sj{β:Type}(l:List Blk)(L:List (Ky×β)):List (Ky×β):=L.filter fun x=>l.any fun t=>t.key==x.1
structure Eng where
 room:Int
 l:List Blk
 runs:List (Ky×Rn)
 last:Ky
 Iw:Int
 Iv:Int
 begun:Bool
def Eng.fresh(room:Int):Eng:=⟨room,[],[],(0,0),0,0,false⟩
def Eng.flush(E:Eng):Eng:={E with l:=[],runs:=[]}
def wg(E:Eng)(k:Ky)(b:List Int):Option (Blk×Rn):=match E.l.find? (fun t=>t.key==k)with
 |some t=>bif(fU E.runs k Rn.zero).bytes.isPrefixOf b then some (t,fU E.runs k Rn.zero)else none
 |none=>none
def qY(k:Ky)(b:List Int):Option (Blk×Rn):=match fo k.1 (cK b 8 0).1 with
 |none=>none
 |some p=>bif p.In then some (⟨k,gm p (dN p),((cK b 8 0).1.length:Int)⟩,⟨b.take (cK b 8 0).2.1,(cK b 8 0).2.2⟩)else none
def addE(E:Eng)(t:Blk)(r:Rn):Eng:=
 let l':=qR Blk.key E.room E.l t
 let L:=dD E.runs t.key r
 {E with l:=l',runs:=bif decide (l'.length<L.length)then sj l' L else L}
def km(E:Eng)(k:Ky)(b:List Int):Option (Blk×Rn)×Eng:=match wg E k b with
 |some q=>(some q,E)
 |none=>match qY k b with
  |some q=>(some q,addE E q.1 q.2)
  |none=>(none,E)
def i5(E:Eng)(s:St)(place:Int)(b:List Int):Option (St×Rn×Int)×Eng:=match km E (s.pc,place) b with
 |(none,E')=>(none,E')
 |(some (t,r),E')=>bif(ia t.code s).2==1 then(some ((ia t.code s).1,r,t.count),{E' with last:=(s.pc,place),begun:=true,Iw:=IntKind.i64.wrap (E'.Iw+t.count)})else(none,E')
def DY(E:Eng)(H8:List Int):Eng:=
 let l':=E.l.filter fun t=> !H8.contains (t.key.2/64)
 {E with l:=l',runs:=bif decide (l'.length<E.l.length)then sj l' E.runs else E.runs}
def lv(E:Eng)(H8:List Int):Eng:=bif H8.isEmpty then E else DY E H8
def i7(n:Nat)(Iq:Nat):Nat→St→Nat→Mmu→Dev→Eng→(St×Mmu×Dev)×Eng
 |0,s,_,U,d,E=>((s,U,d),E)
 |k+1,s,p,U,d,E=>match eI n U.m p with
  |none=>((s.next.Io 1 0,U,d),{E with Iv:=IntKind.i64.wrap (E.Iv+1)})
  |some ((op,nn),sz)=>
   let q:=sq n s op nn U d
   let E':=lv {E with Iv:=IntKind.i64.wrap (E.Iv+1)} q.1.H8
   bif kz op q.1 Iq s.pc then i7 n Iq k q.1.s ((p+sz)%4294967296) q.2.1 q.2.2 E' else((q.1.s,q.2.1,q.2.2),E')
def ii(M:Mem)(p:Nat):List Int:=((M.data.drop (p/64*64)).take 64).drop (p%64)
def doE(n:Nat)(s:St)(U:Mmu)(d:Dev)(E:Eng):(St×Mmu×Dev)×Eng:=
 let b:=et n s U d
 bif b.runs then
  match i5 E b.s b.place (ii b.u.m b.place.toNat)with
  |(none,E')=>i7 n (b.place.toNat/64) 8 b.s b.place.toNat b.u b.d E'
  |(some (o,r,c),E')=>bif(r.ends&&decide (0<c))||o.pc/64 !=b.s.pc/64 then((o,⟨b.u.m.calm,b.u.t⟩,b.d),E')
    else i7 n ((b.place.toNat+r.bytes.length)%4294967296/64) (8 - c).toNat o ((b.place.toNat+r.bytes.length)%4294967296) ⟨b.u.m.calm,b.u.t⟩ b.d E'
 else((b.s,b.u,b.d),{E with Iv:=IntKind.i64.wrap (E.Iv+IntKind.i64.wrap (IntKind.u64.wrap (b.s.count - s.count)))})
theorem FO{α:Type}{key:α→Ky}{room:Int}{l:List α}{t x:α}(h:x∈qR key room l t):x=t∨(x∈l∧(∀y,y∈l→(l.map key).Nodup→key x≠key t)):=by
 unfold qR at h;cases hp:cT key (key t) l with
 |some j=>
  rw[hp]at h;dsimp only at h;obtain⟨hj,hk⟩:=fm hp;obtain⟨i,hi,rfl⟩:=List.getElem_of_mem h;rw[List.getElem_set];by_cases e:j=i
  ·rw[if_pos e];exact Or.inl rfl
  rw[if_neg e];have hi':i<l.length:=by simpa using hi
  refine Or.inr ⟨List.getElem_mem _,fun y _ hn hke=>e ?_⟩;rw[←hk]at hke;exact((List.getElem_inj (xs:=l.map key) (h₀:=by simpa using hi') (h₁:=by simpa using hj) hn).1 (by simpa using hke)).symm
 |none=>
  rw[hp]at h;dsimp only at h;cases hd:decide (room≤(l.length:Int))with
  |true=>rw[hd,ac]at h;exact Or.inl (by simpa using h)
  |false=>
   rw[hd,aa,aV]at h;rcases h with h|h
   ·exact Or.inr ⟨h,fun _ _ _=>ib hp x h⟩
   exact Or.inl (by simpa using h)
theorem Ch{α:Type}{key:α→Ky}{room:Int}{l:List α}{t:α}:t∈qR key room l t:=by
 unfold qR;cases hp:cT key (key t) l with
 |some j=>obtain⟨hj, -⟩:=fm hp;exact List.mem_iff_getElem.2 ⟨j,by simpa using hj,by simp⟩
 |none=>cases hd:decide (room≤(l.length:Int))<;>simp
theorem oP{α:Type}{key:α→Ky}{room:Int}{l:List α}{t:α}(h:(l.map key).Nodup):((qR key room l t).map key).Nodup:=by
 unfold qR;cases hp:cT key (key t) l with
 |some j=>
  obtain⟨hj,hk⟩:=fm hp;dsimp only;rw[List.map_set,←hk];have:(l.map key).set j (key l[j])=l.map key:=by
   rw[show key l[j]=(l.map key)[j]'(by simpa using hj) by simp];exact List.set_getElem_self _
  rw[this];exact h
 |none=>
  dsimp only;cases hd:decide (room≤(l.length:Int))with
  |true=>simp
  |false=>
   rw[aa,List.map_append,List.nodup_append];refine⟨h,by simp,fun a ha b hb=>?_⟩;obtain⟨x,hx,rfl⟩:=aY.1 ha;have:b=key t:=by simpa using hb
   rw[this];exact ib hp x hx
theorem Fq{α:Type}{key:α→Ky}{room:Int}{l:List α}{t:α}(h1:1≤room)(h:(l.length:Int)≤room):((qR key room l t).length:Int)≤room:=by
 unfold qR;cases hp:cT key (key t) l with
 |some j=>simpa using h
 |none=>
  dsimp only;cases hd:decide (room≤(l.length:Int))with
  |true=>simpa using h1
  |false=>simp only[aj]at hd;simp;omega
theorem uf{β:Type}(L:List (Ky×β))(k:Ky)(v:β):dD L k v=qR (·.1) ((L.length:Int)+1) L (k,v):=by
 unfold dD qR;cases cT (·.1) k L with
 |some j=>rfl
 |none=>
  dsimp only;rw[aD (by omega),aa]
theorem Ff{β:Type}{L:List (Ky×β)}{k:Ky}{v:β}(z:β)(hn:(L.map (·.1)).Nodup)(h:(k,v)∈L):fU L k z=v:=by
 unfold fU;cases hf:L.find? (fun x=>x.1==k)with
 |none=>rw[List.find?_eq_none]at hf;exact absurd (hf _ h) (by simp)
 |some x=>
  have h1:=List.mem_of_find?_eq_some hf;have h2:=List.find?_some hf;have h3:x.1=k:=by simpa using h2
  obtain⟨i,hi,rfl⟩:=List.getElem_of_mem h1;obtain⟨j,hj,hje⟩:=List.getElem_of_mem h;have:i=j:=(List.getElem_inj (xs:=L.map (·.1)) (h₀:=by simpa using hi) (h₁:=by simpa using hj) hn).1 (by simp[h3,hje]);subst this;rw[hje];rfl
theorem jj{α:Type}{key:α→Ky}{l:List α}(f:α→Bool)(h:(l.map key).Nodup):((l.filter f).map key).Nodup:=h.sublist (List.Sublist.map key List.filter_sublist)
def Good(t:Blk)(r:Rn):Prop:=∃p il,fo t.key.1 il=some p∧p.In=true∧t.code=gm p (dN p)∧t.count=(il.length:Int)∧ko r.bytes 0 il r.bytes.length∧(∀i,i∈il→u32 i.2)∧r.ends=gl (il.getLastD (0,0)).1
structure gw(E:Eng):Prop where
 room:1≤E.room∧E.room≤1024
 len:(E.l.length:Int)≤E.room
 keys:(E.l.map Blk.key).Nodup
 Jg:(E.runs.map (·.1)).Nodup
 I0:∀t,t∈E.l→∃r,(t.key,r)∈E.runs∧Good t r
theorem gw.fresh{room:Int}(h:1≤room∧room≤1024):gw (Eng.fresh room):=⟨h,by show((0:Nat):Int)≤room;omega,by simp[Eng.fresh],by simp[Eng.fresh],fun t ht=>by cases ht⟩
theorem gw.flush{E:Eng}(h:gw E):gw E.flush:=⟨h.room,by show((0:Nat):Int)≤E.room;have:=h.room;omega,by simp[Eng.flush],by simp[Eng.flush],fun t ht=>by cases ht⟩
theorem gw.same{E E':Eng}(h:gw E)(h1:E'.room=E.room)(h2:E'.l=E.l)(h3:E'.runs=E.runs):gw E':=⟨by rw[h1];exact h.room,by rw[h1,h2];exact h.len,by rw[h2];exact h.keys,by rw[h3];exact h.Jg,by rw[h2,h3];exact h.I0⟩
theorem vZ{β:Type}{l:List Blk}{L:List (Ky×β)}{t:Blk}{r:β}(ht:t∈l)(h:(t.key,r)∈L):(t.key,r)∈sj l L:=List.mem_filter.2 ⟨h,List.any_eq_true.2 ⟨t,ht,by simp⟩⟩
theorem gw.drop{E:Eng}(h:gw E)(H8:List Int):gw (DY E H8):=by
 refine⟨h.room,?_,jj _ h.keys,?_,fun t ht=>?_⟩
 ·have:((E.l.filter fun t=> !H8.contains (t.key.2/64)).length)≤E.l.length:=List.length_filter_le _ _;have:=h.len;show(((E.l.filter fun t=> !H8.contains (t.key.2/64)).length:Nat):Int)≤E.room;omega
 ·show((bif _ then sj _ E.runs else E.runs).map (·.1)).Nodup;cases decide ((E.l.filter fun t=> !H8.contains (t.key.2/64)).length<E.l.length)with
  |true=>exact jj _ h.Jg
  |false=>exact h.Jg
 have ht:t∈E.l.filter fun t=> !H8.contains (t.key.2/64):=ht
 obtain⟨r,h1,h2⟩:=h.I0 t (List.mem_filter.1 ht).1;refine⟨r,?_,h2⟩;show(t.key,r)∈(bif _ then sj _ E.runs else E.runs);cases decide ((E.l.filter fun t=> !H8.contains (t.key.2/64)).length<E.l.length)with
 |true=>exact vZ ht h1
 |false=>exact h1
theorem gw.turn{E:Eng}(h:gw E)(H8:List Int):gw (lv E H8):=by
 unfold lv;cases H8.isEmpty with
 |true=>exact h
 |false=>exact h.drop H8
theorem gw.add{E:Eng}(h:gw E){t:Blk}{r:Rn}(hg:Good t r):gw (addE E t r):=by
 have hl:(t.key,r)∈dD E.runs t.key r:=by rw[uf];exact Ch
 have hn:((dD E.runs t.key r).map (·.1)).Nodup:=by rw[uf];exact oP h.Jg
 have hgo:∀x,x∈qR Blk.key E.room E.l t→∃r',(x.key,r')∈dD E.runs t.key r∧Good x r':=fun x hx=>by
  rcases FO hx with rfl|⟨h1,h2⟩
  ·exact⟨r,hl,hg⟩
  obtain⟨r',h3,h4⟩:=h.I0 x h1;refine⟨r',?_,h4⟩;have hne:=h2 x h1 h.keys;unfold dD;cases hp:cT (·.1) t.key E.runs with
  |none=>exact aC _ h3
  |some j=>
   obtain⟨hj,hk⟩:=fm hp;obtain⟨i,hi,hie⟩:=List.getElem_of_mem h3;refine List.mem_iff_getElem.2 ⟨i,by simpa using hi,?_⟩;rw[List.getElem_set,if_neg (fun e=>hne ?_),hie];subst e;rw[hie]at hk;exact hk
 refine⟨h.room,Fq h.room.1 h.len,oP h.keys,?_,fun x hx=>?_⟩
 ·show((bif _ then sj _ _ else _).map (·.1)).Nodup;cases decide ((qR Blk.key E.room E.l t).length<(dD E.runs t.key r).length)with
  |true=>exact jj _ hn
  |false=>exact hn
 obtain⟨r',h1,h2⟩:=hgo x hx;refine⟨r',?_,h2⟩;show(x.key,r')∈(bif _ then sj _ _ else _);cases decide ((qR Blk.key E.room E.l t).length<(dD E.runs t.key r).length)with
 |true=>exact vZ hx h1
 |false=>exact h1
theorem oh{E:Eng}(h:gw E){k:Ky}{b:List Int}(hb:u8s b):gw (km E k b).2∧(km E k b).2.room=E.room∧(km E k b).2.Iw=E.Iw∧(km E k b).2.Iv=E.Iv∧∀t r,(km E k b).1=some (t,r)→
  ∃p il,fo k.1 il=some p∧p.In=true∧t.code=gm p (dN p)∧t.count=(il.length:Int)∧ko b 0 il r.bytes.length∧(∀i,i∈il→u32 i.2)∧r.ends=gl (il.getLastD (0,0)).1:=by
 unfold km;cases hk:wg E k b with
 |some q=>
  refine⟨h,rfl,rfl,rfl,fun t r e=>?_⟩;obtain rfl:q=(t,r):=aG e;unfold wg at hk;cases hf:E.l.find? (fun t=>t.key==k)with
  |none=>rw[hf]at hk;cases hk
  |some t'=>
   rw[hf]at hk;dsimp only at hk;cases hpre:(fU E.runs k Rn.zero).bytes.isPrefixOf b with
   |false=>rw[hpre]at hk;cases hk
   |true=>
    rw[hpre,ac,aR,bz]at hk;obtain⟨rfl,hr⟩:=hk;have hkey:t'.key=k:=by simpa using List.find?_some hf
    obtain⟨r',h1,p,il,g1,g2,g3,g4,g5,g6,g7⟩:=h.I0 t' (List.mem_of_find?_eq_some hf);have e1:=Ff Rn.zero h.Jg h1;rw[hkey]at e1 g1;rw[e1]at hr hpre;subst hr;have hpr:b.take r'.bytes.length=r'.bytes:=by
     obtain⟨y,rfl⟩:=List.isPrefixOf_iff_prefix.1 hpre;exact List.take_left
    exact⟨p,il,g1,g2,g3,g4,g5.stay (by rw[hpr,bG]),g6,g7⟩
 |none=>
  cases hm:qY k b with
  |none=>exact⟨h,rfl,rfl,rfl,fun t r e=>by cases e⟩
  |some q=>
   obtain⟨t,r⟩:=q;unfold qY at hm;cases hl:fo k.1 (cK b 8 0).1 with
   |none=>rw[hl]at hm;cases hm
   |some p=>
    rw[hl]at hm;dsimp only at hm;cases hr:p.In with
    |false=>rw[hr]at hm;cases hm
    |true=>
     rw[hr,ac,aR,bz]at hm;obtain⟨rfl,rfl⟩:=hm;obtain⟨s1,s2,s3,s4⟩:=kQ b 8 0;have hne:(cK b 8 0).1≠[]:=fun e=>by
      rw[e]at hl;unfold fo at hl;cases hl
     have hse:=s1.ends hne;have hlen:(b.take (cK b 8 0).2.1).length=(cK b 8 0).2.1:=by rw[aF];omega
     have hu:=s1.u32 hb;refine⟨h.add ⟨p,_,hl,hr,rfl,rfl,?_,hu,s3 hne⟩,rfl,rfl,rfl,fun t r e=>?_⟩
     ·dsimp only;rw[hlen];exact s1.stay (by rw[List.take_take,Nat.min_self])
     obtain⟨rfl,rfl⟩:=Prod.mk.inj (aG e);refine⟨p,_,hl,hr,rfl,rfl,?_,hu,s3 hne⟩;dsimp only;rw[hlen];exact s1
structure zu(E E':Eng)(c:Nat):Prop where
 Iw:0≤E.Iw→0≤E.Iv→E.Iw+E.Iv+c≤1000000000→0≤E'.Iw∧0≤E'.Iv∧E'.Iw+E'.Iv=E.Iw+E.Iv+c∧E.Iw≤E'.Iw
 room:E'.room=E.room
theorem BF(E:Eng)(H8:List Int):(lv E H8).Iw=E.Iw∧(lv E H8).Iv=E.Iv∧(lv E H8).room=E.room:=by
 unfold lv;cases H8.isEmpty<;>exact⟨rfl,rfl,rfl⟩
theorem uj{n Iq:Nat}:∀(k:Nat) {s:St} (p:Nat) {U:Mmu} {d:Dev} {E:Eng},GOk n s U d→gw E→(i7 n Iq k s p U d E).1=fe n Iq k s p U d∧gw (i7 n Iq k s p U d E).2∧
  ∃c:Nat,c≤k∧zu E (i7 n Iq k s p U d E).2 c∧(fe n Iq k s p U d).1.count=IntKind.u64.wrap (s.count+(c:Int))
 |0,s,p,U,d,E,h,hE=>⟨rfl,hE,0,aS _,⟨fun h1 h2 _=>⟨h1,h2,by show E.Iw+E.Iv=_;omega,bE _⟩,rfl⟩,by
   show s.count=IntKind.u64.wrap (s.count+0);have:=h.wf.count;rw[aU];omega⟩
 |k+1,s,p,U,d,E,h,hE=>by
  have hw:∀x:Int,0≤x→x≤1000000000→IntKind.i64.wrap (x+1)=x+1:=fun x h1 h2=>by rw[bI];omega
  unfold i7 fe;cases hf:eI n U.m p with
  |none=>exact⟨rfl,hE.same rfl rfl rfl,1,by omega,⟨fun h1 h2 h3=>⟨h1,by show 0≤IntKind.i64.wrap (E.Iv+1);rw[hw _ h2 (by omega)];omega,by show E.Iw+IntKind.i64.wrap (E.Iv+1)=_;rw[hw _ h2 (by omega)];omega,bE _⟩,rfl⟩,rfl⟩
  |some o=>
   obtain⟨⟨op,nn⟩,z⟩:=o;obtain⟨f1, -⟩:=mX h.u.m hf;have hg:=u5 (op:=op) (nn:=nn) h.wf h.right f1 h.u h.dv;have hl:=uZ (n:=n) (op:=op) (nn:=nn) (s:=s) (U:=U) h.lines;obtain⟨⟨q,U1,d1⟩,hq⟩:=Zgn (sq n s op nn U d);rw[hq]at hg hl;obtain⟨g1,g2,g3,g4,g5,g6⟩:=hg;dsimp only at g1 g2 g3 g4 g5 g6 hl⊢;rw[hq];dsimp only;have hE1:gw {E with Iv:=IntKind.i64.wrap (E.Iv+1)}:=hE.same rfl rfl rfl;have hE2:=hE1.turn q.H8;obtain⟨u1,u2,u3⟩:=BF {E with Iv:=IntKind.i64.wrap (E.Iv+1)} q.H8;obtain⟨E2,hE2e⟩:=Zgn (lv {E with Iv:=IntKind.i64.wrap (E.Iv+1)} q.H8);rw[hE2e]at hE2 u1 u2 u3⊢;dsimp only at u1 u2 u3;have hu:zu E E2 1:=⟨fun h1 h2 h3=>by
    rw[u1,u2,hw _ h2 (by omega)];exact⟨h1,by omega,by omega,bE _⟩,u3⟩
   cases kz op q Iq s.pc with
   |false=>exact⟨rfl,hE2,1,by omega,hu,g3⟩
   |true=>
    rw[ac,ac];obtain⟨r1,r2,c,r3,r4,r5⟩:=uj k ((p+z)%4294967296) (s:=q.s) (U:=U1) (d:=d1) (E:=E2) ⟨g1,g2,g4,g5,hl⟩ hE2;refine⟨r1,r2,c+1,by omega,⟨fun h1 h2 h3=>?_,r4.room.trans u3⟩,?_⟩
    ·obtain⟨a1,a2,a3,a4⟩:=hu.Iw h1 h2 (by omega);obtain⟨b1,b2,b3,b4⟩:=r4.Iw a1 a2 (by omega);exact⟨b1,b2,by omega,by omega⟩
    rw[r5,g3,me,show(1:Int)+(c:Int)=((c+1:Nat):Int) by omega]
theorem ko.shift{B:List Int}{o:Nat}:∀{l:List (Int×Int)} {j e:Nat},ko (B.drop o) j l e→ko B (o+j) l (o+e)
 |[],j,e,h=>by cases h;exact .nil _
 |i::l,j,e,h=>by
  cases h with
  | @cons _ z _ _ _ h t=>
   rw[List.drop_drop]at h;exact .cons h (by have:=ko.shift t;rwa[show o+j+z=o+(j+z) by omega])
theorem yB{C:List HI}{s:St}(h:((ia C s).2==1)=true):∃M,iR C 4096 ⟨List.replicate 16 0,IK s,0⟩=((1,1),M)∧(ia C s).1=mF M.words s:=by
 unfold ia yD at h⊢;obtain⟨⟨⟨a,b⟩,M⟩,hq⟩:=Zgn (iR C 4096 ⟨List.replicate 16 0,IK s,0⟩);rw[hq]at h⊢;dsimp only at h⊢;cases h1:a !=1 with
 |true=>rw[h1]at h;cases h
 |false=>
  rw[h1,aa]at h;rw[aa];cases h2:lx M.words with
  |false=>rw[h2]at h;cases h
  |true=>
   rw[h2,ac]at h;rw[ac];simp only[bne_eq_false_iff_eq,beq_iff_eq]at h1 h;subst h1 h;exact⟨M,rfl,rfl⟩
theorem qU{n:Nat}{M:Mem}(h:M.ok n)(p:Nat):u8s (ii M p):=fun x hx=>h.db x (List.mem_of_mem_drop (List.mem_of_mem_take (List.mem_of_mem_drop hx)))
theorem tA{n:Nat}{s:St}{U:Mmu}{d:Dev}{E:Eng}(hn:n≤1000000)(h:GOk n s U d)(hE:gw E):(doE n s U d E).1=dg n s U d∧gw (doE n s U d E).2∧
  ∃c:Nat,c≤8∧zu E (doE n s U d E).2 c∧(dg n s U d).1.count=IntKind.u64.wrap (s.count+(c:Int)):=by
 have hb:=pq h;have hbp:=rW h;unfold doE dg;obtain⟨b,hbe⟩:=Zgn (et n s U d);rw[hbe]at hb hbp⊢;dsimp only;have hsc:=h.wf.count;cases hr:b.runs with
 |false=>
  simp only[aa];refine⟨trivial,hE.same rfl rfl rfl,?_⟩;cases hh:s.halted with
  |true=>
   have e:=hb.held hh;have es:b.s=s:=by rw[e]
   refine⟨0,by omega,⟨fun h1 h2 h3=>?_,rfl⟩,?_⟩
   ·dsimp only;rw[es,show IntKind.i64.wrap (E.Iv+IntKind.i64.wrap (IntKind.u64.wrap (s.count - s.count)))=E.Iv by rw[show s.count - s.count=0 by omega];simp only[bI,aU];omega];exact⟨h1,h2,by omega,bE _⟩
   rw[es,aU];omega
  |false=>
   obtain⟨c1,c2⟩:=hb.stays hr hh;refine⟨1,by omega,⟨fun h1 h2 h3=>?_,rfl⟩,c1⟩;dsimp only;rw[c1,show IntKind.i64.wrap (E.Iv+IntKind.i64.wrap (IntKind.u64.wrap (IntKind.u64.wrap (s.count+1) - s.count)))=E.Iv+1 by simp only[bI,aU];omega];exact⟨h1,by omega,by omega,bE _⟩
 |true=>
  simp only[ac];obtain⟨c1,c2,c3⟩:=hb.runs hr;obtain⟨q1,q2⟩:=hbp hr;have hg:=hb.g;have hp0:=hb.place;have hpc:=hg.wf.pc;have nX:((b.place.toNat:Nat):Int)=b.place:=Int.toNat_of_nonneg hp0.1;have hbb:=qU hg.u.m b.place.toNat;obtain⟨f1,f2,f3,f4,f5⟩:=oh hE (k:=(b.s.pc,b.place)) hbb;unfold i5;obtain⟨⟨o,E1⟩,hf⟩:=Zgn (km E (b.s.pc,b.place) (ii b.u.m b.place.toNat));rw[hf]at f1 f2 f3 f4 f5⊢;dsimp only at f1 f2 f3 f4 f5;have slowly:(i7 n (b.place.toNat/64) 8 b.s b.place.toNat b.u b.d E1).1=fe n (b.place.toNat/64) 8 b.s b.place.toNat b.u b.d∧gw (i7 n (b.place.toNat/64) 8 b.s b.place.toNat b.u b.d E1).2∧
    ∃c:Nat,c≤8∧zu E (i7 n (b.place.toNat/64) 8 b.s b.place.toNat b.u b.d E1).2 c∧(fe n (b.place.toNat/64) 8 b.s b.place.toNat b.u b.d).1.count=IntKind.u64.wrap (s.count+(c:Int)):=by
   obtain⟨r1,r2,c,r3,r4,r5⟩:=uj (Iq:=b.place.toNat/64) 8 b.place.toNat hg f1;refine⟨r1,r2,c,r3,⟨fun h1 h2 h3=>?_,r4.room.trans f2⟩,by rw[r5,c1]⟩;obtain⟨a1,a2,a3,a4⟩:=r4.Iw (by omega) (by omega) (by omega);exact⟨a1,a2,by omega,by omega⟩
  cases o with
  |none=>exact slowly
  |some tr=>
   obtain⟨t,r⟩:=tr;dsimp only;cases hdone:(ia t.code b.s).2==1 with
   |false=>exact slowly
   |true=>
    simp only[ac];obtain⟨p,il,g1,g2,g3,g4,g5,g6,g7⟩:=f5 t r rfl;obtain⟨M,hM,hout⟩:=yB hdone;rw[g3]at hM;obtain⟨k1,k2,k3,k4,k5,k6, -, -, -⟩:=yo hg.u hg.dv hg.wf hg.right g6 g1 g2 hM;rw[hout];obtain⟨s2,hs2⟩:=Zgn (mF M.words b.s);rw[hs2]at k1 k2 k3 k4⊢;obtain⟨Iq,hpage⟩:=Zgn (b.place.toNat/64);obtain⟨ofs,hofs⟩:=Zgn (b.place.toNat%64);have hpo:b.place.toNat=Iq*64+ofs:=by omega
    have hst:ko ((b.u.m.data.drop (Iq*64)).take 64) ofs il (ofs+r.bytes.length):=by
     have:=g5;unfold ii at this;rw[hpage,hofs]at this;simpa using this.shift
    have hil:il≠[]:=fun e=>by rw[e]at k5;simp at k5
    have hse:=(hst.ends hil).1;rw[aF]at hse;obtain⟨c4,c5,c6⟩:=sT hn (Iq:=Iq) (by omega) il ofs 8 (e:=ofs+r.bytes.length) (U:=b.u) b.d hil k1 k6 hst hpc.1 (by have:=hpc.2;omega) (by omega) (c2.trans c3);rw[hpage,hpo,c6,g7,g4];have hc0:decide ((0:Int)<(il.length:Int))=true:=aB (by omega)
    rw[hc0,Bool.and_true];have hE2:gw {E1 with last:=(b.s.pc,b.place),begun:=true,Iw:=IntKind.i64.wrap (E1.Iw+(il.length:Int))}:=f1.same rfl rfl rfl;obtain⟨E2,he2⟩:=Zgn (({E1 with last:=(b.s.pc,b.place),begun:=true,Iw:=IntKind.i64.wrap (E1.Iw+(il.length:Int))}:Eng));have hu2:zu E E2 il.length:=⟨fun h1 h2 h3=>by
     rw[←he2];dsimp only;rw[f3,f4,show IntKind.i64.wrap (E.Iw+(il.length:Int))=E.Iw+il.length by rw[bI];omega];exact⟨by omega,h2,by omega,by omega⟩,by rw[←he2];exact f2⟩
    have hcnt:s2.count=IntKind.u64.wrap (s.count+(il.length:Int)):=by
     have:=congrArg St.count k4;dsimp only at this;rw[this,c1]
    rw[he2]at hE2⊢;have hhg:GOk n s2 ⟨b.u.m.calm,b.u.t⟩ b.d:=⟨k2,k3,⟨hg.u.m.calm,hg.u.t⟩,hg.dv,hg.lines⟩;cases hend:gl (il.getLastD (0,0)).1||s2.pc/64 !=b.s.pc/64 with
    |true=>
     simp only[ac];exact⟨trivial,hE2,il.length,k6,hu2,hcnt⟩
    |false=>
     simp only[aa];obtain⟨e1,e2⟩:=bj.1 hend;have e3:=c5 e1;simp only[bne_eq_false_iff_eq]at e2;have hlt:ofs+r.bytes.length<64:=by
      rw[e3,aE]at e2;have h0:=hpc.1;have h1:=hpc.2;omega
     have ea:(Iq*64+ofs+r.bytes.length)%4294967296=Iq*64+(ofs+r.bytes.length):=by omega
     have eb:(Iq*64+(ofs+r.bytes.length))/64=Iq:=by omega
     have ec:((8:Int) - (il.length:Int)).toNat=8 - il.length:=by omega
     rw[ea,eb,ec];obtain⟨r1,r2,c,r3,r4,r5⟩:=uj (Iq:=Iq) (8 - il.length) (Iq*64+(ofs+r.bytes.length)) hhg hE2;refine⟨r1,r2,il.length+c,by omega,⟨fun h1 h2 h3=>?_,r4.room.trans hu2.room⟩,?_⟩
     ·obtain⟨a1,a2,a3,a4⟩:=hu2.Iw h1 h2 (by omega);obtain⟨b1,b2,b3,b4⟩:=r4.Iw a1 a2 (by omega);exact⟨b1,b2,by omega,by omega⟩
     rw[r5,hcnt,me,show(il.length:Int)+(c:Int)=((il.length+c:Nat):Int) by omega]
theorem lC{w0:World}{S:List Nat}{cs:List bJ}{e sz n c o bb:Nat}{xs vs:List Value}(hc:Has cs (slv e sz (some ⟨bb,0,none⟩) n c xs))(hv:∀i v,vs[i]? =some v→xs[o+i]? =some v):∀w,Inv w0 S cs w→cells (eP ⟨bb,o,none⟩ 0 vs) w:=fun w hi z hz=>by
 obtain⟨j,h1,h2⟩:=gC hz;have:=(hi.rd hc).at_ _ rfl (o+j) z.2 (hv j z.2 h1);rw[Addr.add_lit,bl]at this;rw[h2,Addr.add_lit,bl];exact this
theorem ou{α:Type}{l:List α}{k:Nat}{x:α}(h:l[k]? =some x):l.drop k=x::l.drop (k+1):=by
 obtain⟨h1,h2⟩:=au.1 h;rw[List.drop_eq_getElem_cons h1,h2]
theorem oe{α:Type}{f:α→List Value}{sz:Nat}(hf:∀a,(f a).length=sz):∀(l:List α) (i:Nat),(l.flatMap f).take (i*sz)=(l.take i).flatMap f
 |[],i=>by simp
 |x::l,0=>by simp
 |x::l,i+1=>by
  rw[List.flatMap_cons,List.take_succ_cons,List.flatMap_cons,←oe hf l i,show(i+1)*sz=(f x).length+i*sz by rw[hf,Nat.succ_mul];omega,List.take_length_add_append]
theorem wB{α:Type}{f:α→List Value}{sz:Nat}(hf:∀a,(f a).length=sz):∀(l:List α) (i:Nat),(l.flatMap f).drop (i*sz)=(l.drop i).flatMap f
 |[],i=>by simp
 |x::l,0=>by simp
 |x::l,i+1=>by
  rw[List.flatMap_cons,List.drop_succ_cons,←wB hf l i,show(i+1)*sz=(f x).length+i*sz by rw[hf,Nat.succ_mul];omega,List.drop_length_add_append]
theorem uT{α:Type}{f:α→List Value}{sz:Nat}(hf:∀a,(f a).length=sz){l:List α}{i:Nat}{x:α}(hi:i<l.length):(l.flatMap f).take (i*sz)++f x++(l.flatMap f).drop (i*sz+sz)=(l.set i x).flatMap f:=by
 rw[oe hf,show i*sz+sz=(i+1)*sz by rw[Nat.succ_mul],wB hf,List.set_eq_take_append_cons_drop,if_pos hi,List.flatMap_append,List.flatMap_cons,aq]
def Bi(o:Option Nat):Int:=match o with|none=> -1|some j=>(j:Int)
theorem yU{o:Option Nat}(h:(Bi o== -1)=true):o=none:=by
 cases o with
 |none=>rfl
 |some j=>simp only[Bi,beq_iff_eq]at h;omega
theorem yT{o:Option Nat}(h:(Bi o== -1)=false):∃j,o=some j:=by
 cases o with
 |none=>simp[Bi]at h
 |some j=>exact⟨j,rfl⟩
theorem rC{α:Type}{D:α→Bool}:∀{l:List α},l.findIdx? D=none→l.filter (fun x=> !D x)=l∧(l.filter D).length=0
 |[],_=>⟨rfl,rfl⟩
 |x::l,h=>by
  rw[List.findIdx?_cons]at h;cases hd:D x with
  |true=>rw[hd]at h;cases h
  |false=>
   rw[hd]at h;simp only[Bool.false_eq_true,if_false,Option.map_eq_none_iff]at h;obtain⟨h1,h2⟩:=rC h;simp only[List.filter_cons,hd,Bool.not_false,if_true,Bool.false_eq_true,if_false];exact⟨by rw[h1],h2⟩
theorem o9{α:Type}{D:α→Bool}:∀{l:List α} {i:Nat},l.findIdx? D=some i→i<l.length∧l.take i++(l.drop (i+1)).filter (fun x=> !D x)=l.filter (fun x=> !D x)∧1+((l.drop (i+1)).filter D).length=(l.filter D).length
 |[],i,h=>by simp at h
 |x::l,i,h=>by
  rw[List.findIdx?_cons]at h;cases hd:D x with
  |true=>
   rw[hd]at h;simp only[if_true,aR]at h;subst h;simp[List.filter_cons,hd];omega
  |false=>
   rw[hd]at h;simp only[Bool.false_eq_true,if_false,Option.map_eq_some_iff]at h;obtain⟨j,hj,rfl⟩:=h;obtain⟨h1,h2,h3⟩:=o9 hj;refine⟨by simp;omega,?_,?_⟩
   ·simp only[List.take_succ_cons,List.drop_succ_cons,List.filter_cons,hd,Bool.not_false,if_true,aO,h2]
   simp only[List.drop_succ_cons,List.filter_cons,hd,Bool.false_eq_true,if_false,h3]
def idxN(n:Nat)(o:Option Nat):Nat:=match o with|none=>n|some i=>i+1
theorem nB{α β:Type}{l:List α}{j:Nat}{x:α}(hx:l[j]? =some x)(f:β→α→β)(b:β):(l.take (j+1)).foldl f b=f ((l.take j).foldl f b) x:=by
 obtain⟨h1,h2⟩:=au.1 hx;rw[List.take_succ_eq_append_getElem h1,List.foldl_append,h2]
 rfl
structure BA where
 b:Blk
 A:Option Addr
 c:Nat
def BA.cells(x:BA):List Value:=[.int .u32 x.b.key.1,.int .u32 x.b.key.2,.slice x.A (cJ x.b.code).length x.c,.int .i64 x.b.count]
abbrev BA.key(x:BA):Ky:=x.b.key
def cA(q:Ky):List Value:=[.int .u32 q.1,.int .u32 q.2]
theorem fJ(x:BA):∀u∈x.cells,u.oneCell'=true:=fun u h=>by
 simp only[BA.cells,aL,bh,or_false]at h;rcases h with rfl|rfl|rfl|rfl<;>rfl
theorem rc(x:Ky):∀u∈cA x,u.oneCell'=true:=fun u h=>by
 simp only[cA,aL,bh,or_false]at h;rcases h with rfl|rfl<;>rfl
end Go.Ink
namespace Go.Proofs.YtakodpimdalajaaGreatDoor
open Go.RowKit Go.Ink Go.Proofs.Tryz
attribute [local irreducible] OpY bU
theorem Dl{ρ:Type}(Y:ρ→bJ)(ok:ρ→Prop)(step:ρ→BA→ρ)(D:BA→Bool)(f:FuncId)(caps:List Value)(HF:∀args w,(callFunc f args).run prog w= .ok (.enter f args) w)(l:List BA)(hl:l.length≤1000000)
  (HC:∀(r:ρ) (x:BA) (w:World),ok r→x∈l→Inv w (bK [Y r]) [Y r] w→Ctr prog f ([]++[.agg (BA.cells x).toArray]++caps) w [Y r] (fun v cs=>v= .bool (D x)∧cs=[Y (step r x)]∧ok (step r x)))
  (A:Option Addr) (c:Nat) (r0:ρ) (hok:ok r0) (w:World) (hi:Inv w (bK [slv 186 4 A l.length c (l.flatMap BA.cells),Y r0]) [slv 186 4 A l.length c (l.flatMap BA.cells),Y r0] w):
  Ctr prog 183 [.slice A l.length c,.func (.func f) #[] caps.toArray] w [slv 186 4 A l.length c (l.flatMap BA.cells),Y r0] (fun v cs=>∃r',v= .int .i64 (Bi (l.findIdx? D))∧r'=(l.take (idxN l.length (l.findIdx? D))).foldl step r0∧ok r'∧cs=[slv 186 4 A l.length c (l.flatMap BA.cells),Y r']):=by
 refine bL func183 rfl ntmps183 rfl hi ?_;refine iG ?_;refine cG (fun q:Nat×ρ=>[(0,.slice A l.length c),(1,.func (.func f) #[] caps.toArray),(7,.int .i64 (l.length:Int)),(8,.int .i64 (q.1:Int))]) (fun q=>[slv 186 4 A l.length c (l.flatMap BA.cells),Y q.2]) (fun q=>(q.1≤l.length∧q.2=(l.take q.1).foldl step r0∧ok q.2)∧l.findIdx? D=((l.drop q.1).findIdx? D).map (· +q.1)) (fun q=>l.length - q.1) (⟨0,r0⟩) ?_ ?_ ?_ ?_
 ·exact⟨⟨ax _,rfl,hok⟩,by simp⟩
 ·exact Zwk
 ·exact Zu
 rintro⟨j,r⟩ ⟨⟨hj,hr,hrk⟩,hf⟩;dsimp only at hj hr hrk hf⊢;refine Z_6 ?_;refine ZW ?_ ?_<;>intro hc2
 ·simp only[ap]at hc2;have hjl:j<l.length:=(by omega);obtain⟨bs,rfl⟩:=gW (hi.get (show Has _ (slv 186 4 A l.length c (l.flatMap BA.cells))from Zh)) (by omega);obtain⟨x,hx⟩:∃x,l[j]? =some x:=⟨_,ao hjl⟩;rw[ou hx,List.findIdx?_cons]at hf;refine qo ?_;refine Zy (cC (bb:=bs) (o:=0) (n:=l.length) (c:=c) (j:=j) (sz:=4) (r:=j*4) rfl Zrf (Zv rfl) (Zv rfl) Zrf (fun _=>by omega) (by omega)) ?_;refine dX (cB (vs:=BA.cells x) Zrf Zrf Zv0) (lC Zh (fun i v hiv=>fP (f:=BA.cells) Zrf hx hiv)) rfl ?_;refine dJ (eA ([Y r]) rfl rfl HF Zi (fun w hi hin=>HC r x w hrk (aJ hx) hin)) rfl ?_;rintro _ _ ⟨_,⟨rfl,rfl,hrk2⟩,rfl⟩;obtain⟨r2,hr2⟩:=Zgn (step r x);rw[hr2]at hrk2⊢;have hr3:r2=(l.take (j+1)).foldl step r0:=(by rw[←hr2,hr,nB hx]);refine Z_2 ?_;refine ZW ?_ ?_<;>intro hc4
  ·rw[hc4,if_pos rfl]at hf;have hf:l.findIdx? D=some j:=(by rw[hf];simp);rw[hf];refine gQ ?_;refine bP [slv 186 4 (some ⟨bs,0,none⟩) l.length c (l.flatMap BA.cells),Y r2] Zj ?_;refine Zrb ([_,_]) ?_;exact⟨r2,rfl,hr3,hrk2,rfl⟩
  rw[hc4,if_neg (by simp)]at hf;refine Z_4 ?_;refine Zy (cy Zv0 Zv0 Zl) ?_;refine Z_2 ?_;refine cq ((⟨j+1,r2⟩:Nat×ρ)) ?_ ?_ ?_
  ·exact⟨⟨⟨by omega,hr3,hrk2⟩,by dsimp only;rw[hf,Option.map_map];congr 1;funext z;simp only[Function.comp];omega⟩,by dsimp only;omega⟩
  ·exact Zwk
  exact Zj
 simp only[aj]at hc2;obtain rfl:j=l.length:=(by omega);rw[List.drop_length]at hf;have hf:l.findIdx? D=none:=hf;rw[hf];refine eu ?_;refine Zrb ([_,_]) ?_;exact⟨r,rfl,by rw[bG]at hr;show r=(l.take l.length).foldl step r0;rw[bG];exact hr,hrk,rfl⟩
theorem delB_ok{ρ:Type}(Y:ρ→bJ)(ok:ρ→Prop)(step:ρ→BA→ρ)(D:BA→Bool)(f:FuncId)(caps:List Value)(HF:∀args w,(callFunc f args).run prog w= .ok (.enter f args) w)(l:List BA)(hl:l.length≤1000000)
  (HC:∀(r:ρ) (x:BA) (w:World),ok r→x∈l→Inv w (bK [Y r]) [Y r] w→Ctr prog f ([]++[.agg (BA.cells x).toArray]++caps) w [Y r] (fun v cs=>v= .bool (D x)∧cs=[Y (step r x)]∧ok (step r x)))
  (A:Option Addr) (c:Nat) (r0:ρ) (hok:ok r0) (w:World) (hi:Inv w (bK [slv 186 4 A l.length c (l.flatMap BA.cells),Y r0]) [slv 186 4 A l.length c (l.flatMap BA.cells),Y r0] w):
  Ctr prog 149 [.slice A l.length c,.func (.func f) #[] caps.toArray] w [slv 186 4 A l.length c (l.flatMap BA.cells),Y r0] (fun v cs=>v= .slice A (l.filter fun x=> !D x).length c∧cs=[slv 186 4 A (l.filter fun x=> !D x).length c ((l.filter fun x=> !D x).flatMap BA.cells),Y (l.foldl step r0)]):=by
 have HI:=Dl Y ok step D f caps HF l hl HC A c r0 hok;have hcap:=(hi.rd (.head (slv 186 4 A l.length c (l.flatMap BA.cells)) _)).cap;have hfn:=rC (D:=D) (l:=l);have hfs:=fun i=>o9 (D:=D) (l:=l) (i:=i)
 obtain⟨o,ho⟩:=Zgn (l.findIdx? D);rw[ho]at HI hfn hfs;refine bL func149 rfl ntmps149 rfl hi ?_;refine Z_9 ?_;refine ZcL ([slv 186 4 A l.length c (l.flatMap BA.cells),Y r0]) (fun w hi hin=>HI w hin) ?_;rintro _ _ ⟨_,⟨r1,rfl,hr1,hok1,rfl⟩,rfl⟩;refine eJ ?_;refine ZW ?_ ?_<;>intro hc2
 ·obtain rfl:=yU hc2;obtain⟨hf1,hf2⟩:=hfn rfl;refine Z_8 ?_;refine Zrb ([_,_]) ?_;rw[hf1];have hr1:r1=(l.take l.length).foldl step r0:=hr1;rw[bG]at hr1;rw[←hr1];exact⟨rfl,rfl⟩
 obtain⟨i0,rfl⟩:=yT hc2;obtain⟨hf1,hf2,hf3⟩:=hfs i0 rfl;obtain⟨bs,rfl⟩:=gW (hi.get (show Has _ (slv 186 4 A l.length c (l.flatMap BA.cells))from Zh)) (by omega);refine Z_6 ?_;refine Zy (cy (Zv rfl) (Zv rfl) (show _=((i0+1:Nat):Int)from by rw[show Bi (some i0)=(i0:Int)from rfl,bI];omega)) ?_;refine Z_4 ?_;refine cG (fun q:(Nat×Nat)×List BA×ρ=>[(0,.slice (some ⟨bs,0,none⟩) l.length c),(1,.func (.func f) #[] caps.toArray),(5,.int .i64 (q.1.1:Int)),(6,.int .i64 (q.1.2:Int))]) (fun q=>[slv 186 4 (some ⟨bs,0,none⟩) l.length c (q.2.1.flatMap BA.cells),Y q.2.2]) (fun q=>(q.2.2=(l.take q.1.2).foldl step r0∧ok q.2.2)∧q.1.1<q.1.2∧q.1.2≤l.length∧q.2.1.length=l.length∧q.2.1.drop q.1.2=l.drop q.1.2∧q.2.1.take q.1.1++(l.drop q.1.2).filter (fun x=> !D x)=l.filter (fun x=> !D x)) (fun q=>l.length - q.1.2) (⟨(i0,i0+1),l,r1⟩) ?_ ?_ ?_ ?_
 ·exact⟨⟨hr1,hok1⟩,Nat.lt_succ_self _,by dsimp only;omega,rfl,rfl,hf2⟩
 ·exact Zwk
 ·exact Zu
 rintro⟨⟨i,j⟩,V,r⟩ ⟨⟨hr,hrk⟩,hij,hj,hV,hVd,hT⟩;dsimp only at hr hrk hij hj hV hVd hT⊢;refine Z_9 ?_;refine ZW ?_ ?_<;>intro hc5
 ·simp only[ap]at hc5;have hjl:j<l.length:=(by omega);obtain⟨x,hx⟩:∃x,l[j]? =some x:=⟨_,ao hjl⟩;have hVx:V[j]? =some x:=(by have:=congrArg (fun z=>z[0]?) hVd;simp only[List.getElem?_drop,Nat.add_zero]at this;rw[this,hx]);rw[ou hx]at hT;rw[ou hx,ou hVx,List.cons.injEq]at hVd;rw[List.filter_cons]at hT;refine Z_8 ?_;refine Zy (cC (bb:=bs) (o:=0) (n:=l.length) (c:=c) (j:=j) (sz:=4) (r:=j*4) rfl Zrf (Zv rfl) (Zv rfl) Zrf (fun _=>by omega) (by omega)) ?_;refine dX (cB (vs:=BA.cells x) Zrf Zrf Zv0) (lC Zh (fun i v hiv=>fP (f:=BA.cells) Zrf hVx hiv)) rfl ?_;refine ZN fun b7=>?_
  refine dy (bY Zrf rfl rfl (fJ x) Za (by exact rfl)) ?_;rintro _ _ ⟨rfl,rfl⟩;refine Z_6 ?_;refine dJ (eA ([Y r]) rfl rfl HF Zi (fun w hi hin=>HC r x w hrk (aJ hx) hin)) rfl ?_;rintro _ _ ⟨_,⟨rfl,rfl,hrk2⟩,rfl⟩;obtain⟨r2,hr2⟩:=Zgn (step r x);rw[hr2]at hrk2⊢;have hr3:r2=(l.take (j+1)).foldl step r0:=(by rw[←hr2,hr,nB hx]);refine Z_3 ?_;refine ZW ?_ ?_<;>intro hc8
  ·have hD:D x=false:=(by simpa using hc8);rw[hD]at hT;simp only[Bool.not_false,if_true]at hT;refine Z_5 ?_;refine Zy (cC (bb:=bs) (o:=0) (n:=l.length) (c:=c) (j:=i) (sz:=4) (r:=i*4) rfl Zrf (Zv rfl) (Zv rfl) Zrf (fun _=>by omega) (by omega)) ?_;refine dy (qC (sz:=4) (n:=l.length) (vs:=BA.cells x) Zrf rfl rfl (fJ x) Za rfl (by omega)) ?_;rintro _ _ ⟨rfl,rfl⟩;rw[uT (f:=BA.cells) (sz:=4) Zrf (show i<V.length by omega)];refine Z_4 ?_;refine Zy (cy Zv0 Zv0 Zl) ?_;refine Z_6 ?_;refine Zy (cy Zv0 Zv0 Zl) ?_;refine Z_2 ?_;refine cq ((⟨(i+1,j+1),V.set i x,r2⟩:(Nat×Nat)×List BA×ρ)) ?_ ?_ ?_
   ·exact⟨⟨⟨hr3,hrk2⟩,by dsimp only;omega,by dsimp only;omega,by dsimp only;rw[aI,hV],by dsimp only;rw[List.drop_set_of_lt (by omega),hVd.2],by dsimp only;rw[List.take_succ_eq_append_getElem (by rw[aI];omega),List.take_set_of_le (aS _),List.getElem_set_self,aq];exact hT⟩,by dsimp only;omega⟩
   ·exact Zwk
   exact Zj
  have hD:D x=true:=(by simpa using hc8);rw[hD]at hT;simp only[Bool.not_true,Bool.false_eq_true,if_false]at hT;refine Z_5 ?_;refine Zy (cy Zv0 Zv0 Zl) ?_;refine Z_2 ?_;refine cq ((⟨(i,j+1),V,r2⟩:(Nat×Nat)×List BA×ρ)) ?_ ?_ ?_
  ·exact⟨⟨⟨hr3,hrk2⟩,by dsimp only;omega,by dsimp only;omega,hV,hVd.2,hT⟩,by dsimp only;omega⟩
  ·exact Zwk
  exact Zj
 simp only[aj]at hc5;obtain rfl:j=l.length:=(by omega);rw[List.drop_length]at hT;rw[List.filter_nil,ay]at hT;rw[bG]at hr;have hil:(l.filter fun x=> !D x).length=i:=(by rw[←hT,aF];omega);refine Z_9 ?_;refine Zy (iX (bb:=bs) (o:=0) (n:=l.length) (c:=c) (lo:=i) (hi:=l.length) (r:=0+i*4) (sz:=4) rfl Zrf (Zv rfl) (.inr ⟨_,_,rfl,(Zv rfl)⟩) (.inl ⟨rfl,rfl⟩) (by omega) (by omega) (by omega) (by omega)) ?_;refine Br (c:=slv 186 4 (some ⟨bs,0,none⟩) l.length c (V.flatMap BA.cells)) (c':=slv 186 4 (some ⟨bs,0,none⟩) i c ((V.flatMap BA.cells).take (i*4))) Za rfl (yv (by omega)) ?_
 refine dy (vw rfl Za rfl Zrf (sz:=4) rfl rfl (by decide) (by intro u hu;simp only[aL,bh,or_false]at hu;rcases hu with rfl|rfl|rfl|rfl<;>rfl) (by omega) (by omega)) ?_;rintro _ _ ⟨rfl,rfl⟩;refine Z_6 ?_;refine Zy (gZ i rfl Zrf (Zv rfl) (Zv rfl) (fun _=>by first|rfl|omega) (fun _=>by omega)) ?_;refine Z_4 ?_;refine Zrb ([_,_]) ?_;rw[hil,oe (f:=BA.cells) (sz:=4) Zrf,hT,←hr];exact⟨rfl,rfl⟩
theorem idxK_ok{ρ:Type}(Y:ρ→bJ)(ok:ρ→Prop)(step:ρ→Ky→ρ)(D:Ky→Bool)(f:FuncId)(caps:List Value)(HF:∀args w,(callFunc f args).run prog w= .ok (.enter f args) w)(l:List Ky)(hl:l.length≤1000000)
  (HC:∀(r:ρ) (x:Ky) (w:World),ok r→x∈l→Inv w (bK [Y r]) [Y r] w→Ctr prog f ([]++[.agg (cA x).toArray]++caps) w [Y r] (fun v cs=>v= .bool (D x)∧cs=[Y (step r x)]∧ok (step r x)))
  (A:Option Addr) (c:Nat) (r0:ρ) (hok:ok r0) (w:World) (hi:Inv w (bK [slv 98 2 A l.length c (l.flatMap cA),Y r0]) [slv 98 2 A l.length c (l.flatMap cA),Y r0] w):
  Ctr prog 254 [.slice A l.length c,.func (.func f) #[] caps.toArray] w [slv 98 2 A l.length c (l.flatMap cA),Y r0] (fun v cs=>∃r',v= .int .i64 (Bi (l.findIdx? D))∧r'=(l.take (idxN l.length (l.findIdx? D))).foldl step r0∧ok r'∧cs=[slv 98 2 A l.length c (l.flatMap cA),Y r']):=by
 refine bL func254 rfl ntmps254 rfl hi ?_;refine iG ?_;refine cG (fun q:Nat×ρ=>[(0,.slice A l.length c),(1,.func (.func f) #[] caps.toArray),(7,.int .i64 (l.length:Int)),(8,.int .i64 (q.1:Int))]) (fun q=>[slv 98 2 A l.length c (l.flatMap cA),Y q.2]) (fun q=>(q.1≤l.length∧q.2=(l.take q.1).foldl step r0∧ok q.2)∧l.findIdx? D=((l.drop q.1).findIdx? D).map (· +q.1)) (fun q=>l.length - q.1) (⟨0,r0⟩) ?_ ?_ ?_ ?_
 ·exact⟨⟨ax _,rfl,hok⟩,by simp⟩
 ·exact Zwk
 ·exact Zu
 rintro⟨j,r⟩ ⟨⟨hj,hr,hrk⟩,hf⟩;dsimp only at hj hr hrk hf⊢;refine Z_6 ?_;refine ZW ?_ ?_<;>intro hc2
 ·simp only[ap]at hc2;have hjl:j<l.length:=(by omega);obtain⟨bs,rfl⟩:=gW (hi.get (show Has _ (slv 98 2 A l.length c (l.flatMap cA))from Zh)) (by omega);obtain⟨x,hx⟩:∃x,l[j]? =some x:=⟨_,ao hjl⟩;rw[ou hx,List.findIdx?_cons]at hf;refine qo ?_;refine Zy (cC (bb:=bs) (o:=0) (n:=l.length) (c:=c) (j:=j) (sz:=2) (r:=j*2) rfl Zrf (Zv rfl) (Zv rfl) Zrf (fun _=>by omega) (by omega)) ?_;refine dX (cB (vs:=cA x) Zrf Zrf Zv0) (lC Zh (fun i v hiv=>fP (f:=cA) Zrf hx hiv)) rfl ?_;refine dJ (eA ([Y r]) rfl rfl HF Zi (fun w hi hin=>HC r x w hrk (aJ hx) hin)) rfl ?_;rintro _ _ ⟨_,⟨rfl,rfl,hrk2⟩,rfl⟩;obtain⟨r2,hr2⟩:=Zgn (step r x);rw[hr2]at hrk2⊢;have hr3:r2=(l.take (j+1)).foldl step r0:=(by rw[←hr2,hr,nB hx]);refine Z_2 ?_;refine ZW ?_ ?_<;>intro hc4
  ·rw[hc4,if_pos rfl]at hf;have hf:l.findIdx? D=some j:=(by rw[hf];simp);rw[hf];refine gQ ?_;refine bP [slv 98 2 (some ⟨bs,0,none⟩) l.length c (l.flatMap cA),Y r2] Zj ?_;refine Zrb ([_,_]) ?_;exact⟨r2,rfl,hr3,hrk2,rfl⟩
  rw[hc4,if_neg (by simp)]at hf;refine Z_4 ?_;refine Zy (cy Zv0 Zv0 Zl) ?_;refine Z_2 ?_;refine cq ((⟨j+1,r2⟩:Nat×ρ)) ?_ ?_ ?_
  ·exact⟨⟨⟨by omega,hr3,hrk2⟩,by dsimp only;rw[hf,Option.map_map];congr 1;funext z;simp only[Function.comp];omega⟩,by dsimp only;omega⟩
  ·exact Zwk
  exact Zj
 simp only[aj]at hc2;obtain rfl:j=l.length:=(by omega);rw[List.drop_length]at hf;have hf:l.findIdx? D=none:=hf;rw[hf];refine eu ?_;refine Zrb ([_,_]) ?_;exact⟨r,rfl,by rw[bG]at hr;show r=(l.take l.length).foldl step r0;rw[bG];exact hr,hrk,rfl⟩
theorem delK_ok{ρ:Type}(Y:ρ→bJ)(ok:ρ→Prop)(step:ρ→Ky→ρ)(D:Ky→Bool)(f:FuncId)(caps:List Value)(HF:∀args w,(callFunc f args).run prog w= .ok (.enter f args) w)(l:List Ky)(hl:l.length≤1000000)
  (HC:∀(r:ρ) (x:Ky) (w:World),ok r→x∈l→Inv w (bK [Y r]) [Y r] w→Ctr prog f ([]++[.agg (cA x).toArray]++caps) w [Y r] (fun v cs=>v= .bool (D x)∧cs=[Y (step r x)]∧ok (step r x)))
  (A:Option Addr) (c:Nat) (r0:ρ) (hok:ok r0) (w:World) (hi:Inv w (bK [slv 98 2 A l.length c (l.flatMap cA),Y r0]) [slv 98 2 A l.length c (l.flatMap cA),Y r0] w):
  Ctr prog 205 [.slice A l.length c,.func (.func f) #[] caps.toArray] w [slv 98 2 A l.length c (l.flatMap cA),Y r0] (fun v cs=>v= .slice A (l.filter fun x=> !D x).length c∧cs=[slv 98 2 A (l.filter fun x=> !D x).length c ((l.filter fun x=> !D x).flatMap cA),Y (l.foldl step r0)]):=by
 have HI:=idxK_ok Y ok step D f caps HF l hl HC A c r0 hok;have hcap:=(hi.rd (.head (slv 98 2 A l.length c (l.flatMap cA)) _)).cap;have hfn:=rC (D:=D) (l:=l);have hfs:=fun i=>o9 (D:=D) (l:=l) (i:=i)
 obtain⟨o,ho⟩:=Zgn (l.findIdx? D);rw[ho]at HI hfn hfs;refine bL func205 rfl ntmps205 rfl hi ?_;refine Z_9 ?_;refine ZcL ([slv 98 2 A l.length c (l.flatMap cA),Y r0]) (fun w hi hin=>HI w hin) ?_;rintro _ _ ⟨_,⟨r1,rfl,hr1,hok1,rfl⟩,rfl⟩;refine eJ ?_;refine ZW ?_ ?_<;>intro hc2
 ·obtain rfl:=yU hc2;obtain⟨hf1,hf2⟩:=hfn rfl;refine Z_8 ?_;refine Zrb ([_,_]) ?_;rw[hf1];have hr1:r1=(l.take l.length).foldl step r0:=hr1;rw[bG]at hr1;rw[←hr1];exact⟨rfl,rfl⟩
 obtain⟨i0,rfl⟩:=yT hc2;obtain⟨hf1,hf2,hf3⟩:=hfs i0 rfl;obtain⟨bs,rfl⟩:=gW (hi.get (show Has _ (slv 98 2 A l.length c (l.flatMap cA))from Zh)) (by omega);refine Z_6 ?_;refine Zy (cy (Zv rfl) (Zv rfl) (show _=((i0+1:Nat):Int)from by rw[show Bi (some i0)=(i0:Int)from rfl,bI];omega)) ?_;refine Z_4 ?_;refine cG (fun q:(Nat×Nat)×List Ky×ρ=>[(0,.slice (some ⟨bs,0,none⟩) l.length c),(1,.func (.func f) #[] caps.toArray),(5,.int .i64 (q.1.1:Int)),(6,.int .i64 (q.1.2:Int))]) (fun q=>[slv 98 2 (some ⟨bs,0,none⟩) l.length c (q.2.1.flatMap cA),Y q.2.2]) (fun q=>(q.2.2=(l.take q.1.2).foldl step r0∧ok q.2.2)∧q.1.1<q.1.2∧q.1.2≤l.length∧q.2.1.length=l.length∧q.2.1.drop q.1.2=l.drop q.1.2∧q.2.1.take q.1.1++(l.drop q.1.2).filter (fun x=> !D x)=l.filter (fun x=> !D x)) (fun q=>l.length - q.1.2) (⟨(i0,i0+1),l,r1⟩) ?_ ?_ ?_ ?_
 ·exact⟨⟨hr1,hok1⟩,Nat.lt_succ_self _,by dsimp only;omega,rfl,rfl,hf2⟩
 ·exact Zwk
 ·exact Zu
 rintro⟨⟨i,j⟩,V,r⟩ ⟨⟨hr,hrk⟩,hij,hj,hV,hVd,hT⟩;dsimp only at hr hrk hij hj hV hVd hT⊢;refine Z_9 ?_;refine ZW ?_ ?_<;>intro hc5
 ·simp only[ap]at hc5;have hjl:j<l.length:=(by omega);obtain⟨x,hx⟩:∃x,l[j]? =some x:=⟨_,ao hjl⟩;have hVx:V[j]? =some x:=(by have:=congrArg (fun z=>z[0]?) hVd;simp only[List.getElem?_drop,Nat.add_zero]at this;rw[this,hx]);rw[ou hx]at hT;rw[ou hx,ou hVx,List.cons.injEq]at hVd;rw[List.filter_cons]at hT;refine Z_8 ?_;refine Zy (cC (bb:=bs) (o:=0) (n:=l.length) (c:=c) (j:=j) (sz:=2) (r:=j*2) rfl Zrf (Zv rfl) (Zv rfl) Zrf (fun _=>by omega) (by omega)) ?_;refine dX (cB (vs:=cA x) Zrf Zrf Zv0) (lC Zh (fun i v hiv=>fP (f:=cA) Zrf hVx hiv)) rfl ?_;refine ZN fun b7=>?_
  refine dy (bY Zrf rfl rfl (rc x) Za (by exact rfl)) ?_;rintro _ _ ⟨rfl,rfl⟩;refine Z_6 ?_;refine dJ (eA ([Y r]) rfl rfl HF Zi (fun w hi hin=>HC r x w hrk (aJ hx) hin)) rfl ?_;rintro _ _ ⟨_,⟨rfl,rfl,hrk2⟩,rfl⟩;obtain⟨r2,hr2⟩:=Zgn (step r x);rw[hr2]at hrk2⊢;have hr3:r2=(l.take (j+1)).foldl step r0:=(by rw[←hr2,hr,nB hx]);refine Z_3 ?_;refine ZW ?_ ?_<;>intro hc8
  ·have hD:D x=false:=(by simpa using hc8);rw[hD]at hT;simp only[Bool.not_false,if_true]at hT;refine Z_5 ?_;refine Zy (cC (bb:=bs) (o:=0) (n:=l.length) (c:=c) (j:=i) (sz:=2) (r:=i*2) rfl Zrf (Zv rfl) (Zv rfl) Zrf (fun _=>by omega) (by omega)) ?_;refine dy (qC (sz:=2) (n:=l.length) (vs:=cA x) Zrf rfl rfl (rc x) Za rfl (by omega)) ?_;rintro _ _ ⟨rfl,rfl⟩;rw[uT (f:=cA) (sz:=2) Zrf (show i<V.length by omega)];refine Z_4 ?_;refine Zy (cy Zv0 Zv0 Zl) ?_;refine Z_6 ?_;refine Zy (cy Zv0 Zv0 Zl) ?_;refine Z_2 ?_;refine cq ((⟨(i+1,j+1),V.set i x,r2⟩:(Nat×Nat)×List Ky×ρ)) ?_ ?_ ?_
   ·exact⟨⟨⟨hr3,hrk2⟩,by dsimp only;omega,by dsimp only;omega,by dsimp only;rw[aI,hV],by dsimp only;rw[List.drop_set_of_lt (by omega),hVd.2],by dsimp only;rw[List.take_succ_eq_append_getElem (by rw[aI];omega),List.take_set_of_le (aS _),List.getElem_set_self,aq];exact hT⟩,by dsimp only;omega⟩
   ·exact Zwk
   exact Zj
  have hD:D x=true:=(by simpa using hc8);rw[hD]at hT;simp only[Bool.not_true,Bool.false_eq_true,if_false]at hT;refine Z_5 ?_;refine Zy (cy Zv0 Zv0 Zl) ?_;refine Z_2 ?_;refine cq ((⟨(i,j+1),V,r2⟩:(Nat×Nat)×List Ky×ρ)) ?_ ?_ ?_
  ·exact⟨⟨⟨hr3,hrk2⟩,by dsimp only;omega,by dsimp only;omega,hV,hVd.2,hT⟩,by dsimp only;omega⟩
  ·exact Zwk
  exact Zj
 simp only[aj]at hc5;obtain rfl:j=l.length:=(by omega);rw[List.drop_length]at hT;rw[List.filter_nil,ay]at hT;rw[bG]at hr;have hil:(l.filter fun x=> !D x).length=i:=(by rw[←hT,aF];omega);refine Z_9 ?_;refine Zy (iX (bb:=bs) (o:=0) (n:=l.length) (c:=c) (lo:=i) (hi:=l.length) (r:=0+i*2) (sz:=2) rfl Zrf (Zv rfl) (.inr ⟨_,_,rfl,(Zv rfl)⟩) (.inl ⟨rfl,rfl⟩) (by omega) (by omega) (by omega) (by omega)) ?_;refine Br (c:=slv 98 2 (some ⟨bs,0,none⟩) l.length c (V.flatMap cA)) (c':=slv 98 2 (some ⟨bs,0,none⟩) i c ((V.flatMap cA).take (i*2))) Za rfl (yv (by omega)) ?_
 refine dy (vw rfl Za rfl Zrf (sz:=2) rfl rfl (by decide) (by intro u hu;simp only[aL,bh,or_false]at hu;rcases hu with rfl|rfl<;>rfl) (by omega) (by omega)) ?_;rintro _ _ ⟨rfl,rfl⟩;refine Z_6 ?_;refine Zy (gZ i rfl Zrf (Zv rfl) (Zv rfl) (fun _=>by first|rfl|omega) (fun _=>by omega)) ?_;refine Z_4 ?_;refine Zrb ([_,_]) ?_;rw[hil,oe (f:=cA) (sz:=2) Zrf,hT,←hr];exact⟨rfl,rfl⟩
end Go.Proofs.YtakodpimdalajaaGreatDoor
namespace Go.Ink
open Go.RowKit
structure LS where
 A:Option Addr
 c:Nat
 ks:List Ky
def LS.v(x:LS):Value:= .slice x.A x.ks.length x.c
def LS.zero:LS:=⟨none,0,[]⟩
def lkV(LK:List (Ky×LS)):List (Ky×Value):=LK.map fun x=>(x.1,x.2.v)
structure CaX where
 ml:Nat
 Ac:Option Addr
 cc:Nat
 fl:Int
 LK:List (Ky×LS)
 Z:List BA
def BaSm(Z:List BA):Prop:=Z.length≤1000000∧∀x,x∈Z→x.b.code.length≤100000∧ki x.b.key
def kE(k:Ky)(x:LS):LS:=⟨x.A,x.c,x.ks.filter fun q=> !(q==k)⟩
def gp(LK:List (Ky×LS))(k:Ky):List (Ky×LS):=(nM LK k).map fun x=>(x.1,kE k x.2)
def uw(k:Ky)(f:Bool)(x:Ky×LS):Ky×LS:=(x.1,bif f then kE k x.2 else x.2)
def prL(k:Ky)(F:List Bool)(L0:List (Ky×LS)):List (Ky×LS):=List.zipWith (uw k) F L0
def itL(k:Ky)(F:List Bool)(L0:List (Ky×LS)):List (Bool×Ky×Value):=List.zipWith (fun f x=>(f,x.1,(uw k f x).2.v)) F L0
theorem Fj{α β:Type}(f:α→β)(L:List (Ky×α))(k:Ky):nM (L.map fun x=>(x.1,f x.2)) k=(nM L k).map fun x=>(x.1,f x.2):=by
 unfold nM;rw[ju (key:=fun x:Ky×α=>x.1) (fun x:Ky×α=>(x.1,f x.2)) Zrf];cases cT (fun x:Ky×α=>x.1) k L with
 |some j=>dsimp only;rw[ChangeMaps.map_eraseIdx]
 |none=>rfl
theorem qa{α:Type}(L:List (Ky×α))(k:Ky):(nM L k).Sublist L:=by
 unfold nM;cases cT (fun x:Ky×α=>x.1) k L with
 |some j=>exact List.eraseIdx_sublist _ _
 |none=>exact aK _
theorem wh(k:Ky):∀L0:List (Ky×LS),itL k (List.replicate L0.length false) L0=(lkV L0).map fun x=>(false,x)
 |[]=>rfl
 |x::L0=>by
  show(false,x.1,(uw k false x).2.v)::itL k (List.replicate L0.length false) L0=_;rw[wh k L0]
  rfl
theorem vO(k:Ky):∀L0:List (Ky×LS),prL k (List.replicate L0.length false) L0=L0
 |[]=>rfl
 |x::L0=>by
  show uw k false x::prL k (List.replicate L0.length false) L0=_;rw[vO k L0]
  rfl
theorem itL_at{k:Ky}{F:List Bool}{L0:List (Ky×LS)}{j:Nat}{q:Ky}{v:Value}(h:(itL k F L0)[j]? =some (false,q,v)):∃x,L0[j]? =some x∧F[j]? =some false∧q=x.1∧v=x.2.v:=by
 unfold itL at h;rw[List.getElem?_zipWith]at h;cases hf:F[j]? with
 |none=>rw[hf]at h;cases h
 |some f=>
  cases hx:L0[j]? with
  |none=>rw[hf,hx]at h;cases h
  |some x=>
   rw[hf,hx]at h;simp only[aR,bz]at h;obtain⟨rfl,rfl,rfl⟩:=h;exact⟨x,rfl,rfl,rfl,rfl⟩
theorem xc{α β γ:Type}(g:α→β→γ):∀(F:List α) (L:List β) (j:Nat) (a:α) (b:β),L[j]? =some b→List.zipWith g (F.set j a) L=(List.zipWith g F L).set j (g a b)
 |[],L,j,a,b,_=>by simp
 |f::F,[],j,a,b,h=>by simp at h
 |f::F,x::L,0,a,b,h=>by
  obtain rfl:x=b:=by simpa using h
  rfl
 |f::F,x::L,j+1,a,b,h=>by
  show g f x::List.zipWith g (F.set j a) L=g f x::(List.zipWith g F L).set j (g a b);rw[xc g F L j a b (by simpa using h)]
theorem C7{k:Ky}:∀{F:List Bool} {L0:List (Ky×LS)},F.length=L0.length→(∀x,x∈itL k F L0→x.1=true)→prL k F L0=L0.map fun x=>(x.1,kE k x.2)
 |[],[],_,_=>rfl
 |[],_::_,h,_=>by simp at h
 |_::_,[],h,_=>by simp at h
 |f::F,x::L0,h,ha=>by
  have hf:f=true:=ha (f,x.1,(uw k f x).2.v) (List.mem_cons_self ..);subst hf;show uw k true x::prL k F L0=_;rw[C7 (by simpa using h) (fun y hy=>ha y (bA _ hy))]
  rfl
theorem C6(k:Ky):∀(F:List Bool) (L0:List (Ky×LS)),(itL k F L0).map (·.2)=lkV (prL k F L0)
 |[],L0=>by simp[itL,prL,lkV]
 |f::F,[]=>by simp[itL,prL,lkV]
 |f::F,x::L0=>by
  show(x.1,(uw k f x).2.v)::(itL k F L0).map (·.2)=((uw k f x).1,(uw k f x).2.v)::lkV (prL k F L0);rw[C6 k F L0]
  rfl
def wE(F:List Bool):Nat:=(F.filter fun f=> !f).length
theorem tx:∀{F:List Bool} {j:Nat},F[j]? =some false→wE (F.set j true)<wE F
 |[],j,h=>by simp at h
 |f::F,0,h=>by
  obtain rfl:f=false:=by simpa using h
  simp[wE]
 |f::F,j+1,h=>by
  have:=tx (F:=F) (j:=j) (by simpa using h);unfold wE at this⊢;rw[List.set_cons_succ,List.filter_cons,List.filter_cons];cases f<;>simp<;>exact this
theorem mq{α:Type}{l:List α}{j:Nat}{x:α}(h:l[j]? =some x):l.Perm (x::l.eraseIdx j):=by
 obtain⟨h1,rfl⟩:=au.1 h;rw[List.eraseIdx_eq_take_drop_succ];refine List.Perm.trans ?_ List.perm_middle;rw[List.getElem_cons_drop h1,List.take_append_drop]
theorem qd{α:Type}{l:List α}{j:Nat}{x:α}(h:j<l.length):(l.set j x).Perm (x::l.eraseIdx j):=by
 have h1:=mq (l:=l.set j x) (j:=j) (x:=x) (by rw[List.getElem?_set_self h]);rwa[List.eraseIdx_set_eq]at h1
theorem pd{α:Type}{key:α→Ky}{k:Ky}{l:List α}{j:Nat}(h:cT key k l=some j):∃x,l[j]? =some x∧key x=k∧l.find? (fun x=>key x==k)=some x:=by
 obtain⟨hj,hk⟩:=fm h;refine⟨l[j],ao hj,hk,?_⟩;unfold cT at h;rw[List.findIdx?_eq_some_iff_getElem]at h;obtain⟨_,h1,h2⟩:=h;rw[List.find?_eq_some_iff_getElem];exact⟨h1,j,hj,rfl,fun i hi=>by simpa using h2 i hi⟩
theorem rB{α:Type}{key:α→Ky}{k:Ky}{l:List α}(h:cT key k l=none):l.find? (fun x=>key x==k)=none:=by
 rw[List.find?_eq_none];exact fun x hx e=>ib h x hx (by simpa using e)
section
variable {C:Cx} {Q:kI} {fr:Fr} {cs:List bJ} {c:bJ} {cin cin' rest r1:List bJ} {e:Exit} {b r:Nat} {IL:List (Bool×Ky×Value)} {cur:Option (Ky×Value)}
theorem vL(hd:Del cs (dq cin) rest)(hp:cin.Perm (c::cin'))(h:QOk C Q e fr (c::dq cin'::rest)):QOk C Q e fr cs:=fun a w hf hi=>h a w hf ((hi.perm hd.perm).I7 hp)
theorem iO(hd:Del cs (dq cin) r1)(hd2:Del r1 c rest)(hp:cin'.Perm (c::cin))(h:QOk C Q e fr (dq cin'::rest)):QOk C Q e fr cs:=fun a w hf hi=>h a w hf (((hi.perm (hd.perm.trans (hd2.perm.cons _))).perm (List.Perm.swap ..)).Jq hp)
theorem jD(hd:Del cs (dq cin) rest)(hs:cin'.Sublist cin)(h:QOk C Q e fr (dq cin'::rest)):QOk C Q e fr cs:=fun a w hf hi=>h a w hf ((hi.perm hd.perm).Jp hs)
theorem vM(hd:Del cs (itC b r IL cur) rest)(h:QOk C Q e fr (mpc b (IL.map (·.2))::rest)):QOk C Q e fr cs:=fun a w hf hi=>h a w hf ((hi.perm hd.perm).itEnd)
theorem Dg(w:World):Inv w [] [dq []] w:=⟨dR.refl _ _,by simp[bK,dq,exC,bJ.bs],fun c hc=>by
 rw[aN]at hc;subst hc;exact⟨(),trivial,by simp[bK],fun c hc=>by cases hc⟩,fun b hb=>by simp[bK,dq,exC,bJ.bs]at hb⟩
theorem nh{ops:Array Oper}{l:List Oper}(h:WL C ops Q l fr (cs++[dq []])):WL C ops Q l fr cs:=fun a w hf hi=>h a w hf (hi.more (Dg w))
end
end Go.Ink
namespace Go.Proofs.YtakodpimdalajaaGreatDoor
open Go.RowKit Go.Ink Go.Proofs.Tryz
attribute [local irreducible] OpY bU
abbrev lsC(x:LS):bJ:=slv 98 2 x.A x.ks.length x.c (x.ks.flatMap cA)
abbrev baC(x:BA):bJ:=sl .u8 5 x.A (cJ x.b.code).length x.c (cJ x.b.code)
def lkC(LK:List (Ky×LS)):List bJ:=LK.map fun x=>lsC x.2
abbrev kyR(b:Nat)(k:Ky):bJ:=row b (cA k) 98
abbrev caR(bc:Nat)(r0 r1 r2 r3:Value):bJ:=row bc [r0,r1,r2,r3] 171
abbrev blC(X:CaX):bJ:=slv 186 4 X.Ac X.Z.length X.cc (X.Z.flatMap BA.cells)
abbrev caF(bc:Nat)(room:Int)(X:CaX):List bJ:=[caR bc (.int .i64 room) (.slice X.Ac X.Z.length X.cc) (.map (some X.ml)) (.int .i64 X.fl),blC X,dq (X.Z.map baC),mpc X.ml (lkV X.LK),dq (lkC X.LK)]
theorem Cy(x:BA)(k:Ky)(bk:Nat)(w:World)(hi:Inv w (bK [kyR bk k]) [kyR bk k] w):
  Ctr prog 184 ([]++[.agg x.cells.toArray]++[.pointer (some ⟨bk,0,none⟩)]) w [kyR bk k] (fun v cs=>v= .bool (x.key==k)∧cs=[kyR bk k]∧True):=by
 refine bL func184 rfl ntmps184 rfl hi ?_;refine Z_2 ?_;refine ZO fun b2=>?_;refine Z_6 ?_;refine dX (cB (vs:=cA x.b.key) Zrf Zrf Zv0) (cX Zh rfl) rfl ?_;refine ZlR ?_;refine Zy (Bn rf (xR x.b.key k) (Zv rfl) (Zv rfl)) ?_;refine Z_4 ?_;refine bP [kyR bk k] Zj ?_;refine Zrb ([row _ _ _]) ?_;exact⟨rfl,rfl,trivial⟩
theorem rO(bc:Nat)(r0 r2 r3:Value)(Ac:Option Addr)(cc:Nat)(Z:List BA)(hZ:Z.length≤1000000)(k:Ky)(w:World)(hi:Inv w (bK [caR bc r0 (.slice Ac Z.length cc) r2 r3,slv 186 4 Ac Z.length cc (Z.flatMap BA.cells)]) [caR bc r0 (.slice Ac Z.length cc) r2 r3,slv 186 4 Ac Z.length cc (Z.flatMap BA.cells)] w):
  Ctr prog 136 [.pointer (some ⟨bc,0,none⟩),.agg (cA k).toArray] w [caR bc r0 (.slice Ac Z.length cc) r2 r3,slv 186 4 Ac Z.length cc (Z.flatMap BA.cells)] (fun v cs=>v= .int .i64 (Bi (cT BA.key k Z))∧cs=[caR bc r0 (.slice Ac Z.length cc) r2 r3,slv 186 4 Ac Z.length cc (Z.flatMap BA.cells)]):=by
 refine bL func136 rfl ntmps136 rfl hi ?_;refine Z_2 ?_;refine ZO fun b3=>?_;refine Z_9 ?_;refine Zy (jX rfl) ?_;refine ZcL ([slv 186 4 Ac Z.length cc (Z.flatMap BA.cells),kyR b3 k]) (fun w hi hin=>Dl (fun _:Unit=>kyR b3 k) (fun _=>True) (fun _ _=>()) (fun x=>x.key==k) 184 [.pointer (some ⟨b3,0,none⟩)] (fun _ _=>rfl) Z hZ (fun _ x w _ _ hin=>Cy x k b3 w hin) Ac cc () trivial w hin) ?_;rintro _ _ ⟨_,⟨_,rfl, -, -,rfl⟩,rfl⟩;refine Z_4 ?_;refine bP [caR bc r0 (.slice Ac Z.length cc) r2 r3,slv 186 4 Ac Z.length cc (Z.flatMap BA.cells)] Zj ?_;refine Zrb ([_,_]) ?_;exact⟨rfl,rfl⟩
def FindK(o:Option BA)(F:List bJ)(v:Value)(cs:List bJ):Prop:=match o with
 |none=>v= .tuple #[.agg #[.int .u32 0,.int .u32 0,.slice none 0 0,.int .i64 0],.bool false]∧cs=F
 |some x=>∃A' c',v= .tuple #[.agg (BA.cells ⟨x.b,A',c'⟩).toArray,.bool true]∧cs=baC ⟨x.b,A',c'⟩::F
theorem zn(bc:Nat)(room:Int)(X:CaX)(hS:BaSm X.Z)(k:Ky)(w:World)(hi:Inv w (bK (caF bc room X)) (caF bc room X) w):
  Ctr prog 125 [.pointer (some ⟨bc,0,none⟩),.agg (cA k).toArray] w (caF bc room X) (fun v cs=>FindK (X.Z.find? fun x=>x.key==k) (caF bc room X) v cs):=by
 have hZ:=hS.1;have HP:=rO bc (.int .i64 room) (.map (some X.ml)) (.int .i64 X.fl) X.Ac X.cc X.Z hZ k;obtain⟨o,ho⟩:=Zgn (cT BA.key k X.Z);rw[ho]at HP;refine bL func125 rfl ntmps125 rfl hi ?_;refine Z_2 ?_;refine ZO fun b3=>?_;refine ZN fun b4=>?_
 refine Z_7 ?_;refine ZcM ([caR bc (.int .i64 room) (.slice X.Ac X.Z.length X.cc) (.map (some X.ml)) (.int .i64 X.fl),blC X]) (fun w hi hin=>HP w hin) ?_;refine eJ ?_;refine ZW ?_ ?_<;>intro hc2
 ·obtain rfl:o=none:=(by cases o with|none=>rfl|some j=>(have h9:((j:Nat):Int)<0:=of_decide_eq_true hc2;omega));rw[rB ho];refine Z_2 ?_;refine Zy (io (vs:=[Value.int .u32 0,.int .u32 0,.slice none 0 0,.int .i64 0]) Zk (.inl ⟨_,rfl,rfl⟩)) ?_;refine ZM ?_;refine Z_5 ?_;refine bP (row b4 _ _::caF bc room X) Zj ?_;refine dZ (cs':=caF bc room X) (.inl rfl) (List.Sublist.cons _ (aK _)) rfl rfl rfl Zh Zrf Zrf ?_;exact⟨rfl,rfl⟩
 obtain⟨j,rfl⟩:∃j,o=some j:=(by cases o with|none=>simp[Bi]at hc2|some j=>exact⟨j,rfl⟩);obtain⟨x,hx,hxk,hxf⟩:=pd ho;rw[hxf];have hjl:=(au.1 hx).1;obtain⟨bs,hbs⟩:=gW (hi.get (.tail _ (.head (blC X) _))) (show 0<X.Z.length by omega);have hxr:∀w0 S cs w,Ink.Inv w0 S cs w→Has cs (dq (X.Z.map baC))→Rd w .u8 x.A (cJ x.b.code).length x.c (cJ x.b.code):=(fun w0 S cs w h hh=>dm (h.joinGet hh (aY.2 ⟨x,aJ hx,rfl⟩)));have hxl:(cJ x.b.code).length≤140737488355328:=(by rw[iU];have:=(hS.2 x (aJ hx)).1;omega);refine Z_9 ?_;refine Zy (cC (bb:=bs) (o:=0) (n:=X.Z.length) (c:=X.cc) (j:=j) (sz:=4) (r:=j*4) rfl Zrf (hbs▸pK rfl) (Zv rfl) Zrf (fun _=>by omega) (by omega)) ?_;refine dX (cB (vs:=BA.cells x) Zrf Zrf (Zv rfl)) (lC (n:=X.Z.length) (c:=X.cc) (sz:=4) (e:=186) (xs:=X.Z.flatMap BA.cells) (hbs▸(show Has _ (blC X)from Zh)) (fun i v hiv=>fP (f:=BA.cells) Zrf hx hiv)) rfl ?_;refine ZN fun b7=>?_
 refine dy (bY Zrf rfl rfl (fJ x) Za (by exact rfl)) ?_;rintro _ _ ⟨rfl,rfl⟩;refine Z_6 ?_;refine ZS (fun w hi=>wO x.A (cJ x.b.code).length x.c (cJ x.b.code) w (hxr _ _ _ _ hi Zh) hxl) ?_;rintro _ _ ⟨_,⟨A9,c9,rfl,rfl⟩,rfl⟩;refine Z_1 ?_;refine ZL ?_;refine Z_5 ?_;refine ZM ?_;refine Z_4 ?_;refine bP (row b4 _ _::baC ⟨x.b,A9,c9⟩::caF bc room X) Zj ?_;refine dZ (cs':=baC ⟨x.b,A9,c9⟩::caF bc room X) (.inl rfl) (List.Sublist.cons _ (aK _)) rfl rfl rfl Zh Zrf Zrf ?_;exact⟨A9,c9,rfl,rfl⟩
theorem zM(x k:Ky)(bk:Nat)(w:World)(hi:Inv w (bK [kyR bk k]) [kyR bk k] w):
  Ctr prog 206 ([]++[.agg (cA x).toArray]++[.pointer (some ⟨bk,0,none⟩)]) w [kyR bk k] (fun v cs=>v= .bool (x==k)∧cs=[kyR bk k]∧True):=by
 refine bL func206 rfl ntmps206 rfl hi ?_;refine Z_2 ?_;refine ZO fun b2=>?_;refine Z_7 ?_;refine Zy (Bn rf (xR x k) (Zv rfl) (Zv rfl)) ?_;refine Z_4 ?_;refine bP [kyR bk k] Zj ?_;refine Zrb ([row _ _ _]) ?_;exact⟨rfl,rfl,trivial⟩
def LkSm(LK:List (Ky×LS)):Prop:=∀x,x∈LK→ki x.1∧x.2.ks.length≤1000000
theorem vq(bc ml:Nat)(r0 r1 r3:Value)(LK:List (Ky×LS))(hsm:LkSm LK)(k:Ky)(hk:ki k)(w:World)(hi:Inv w (bK [caR bc r0 r1 (.map (some ml)) r3,mpc ml (lkV LK),dq (lkC LK)]) [caR bc r0 r1 (.map (some ml)) r3,mpc ml (lkV LK),dq (lkC LK)] w):
  Ctr prog 151 [.pointer (some ⟨bc,0,none⟩),.agg (cA k).toArray] w [caR bc r0 r1 (.map (some ml)) r3,mpc ml (lkV LK),dq (lkC LK)] (fun _ cs=>cs=[caR bc r0 r1 (.map (some ml)) r3,mpc ml (lkV (gp LK k)),dq (lkC (gp LK k))]):=by
 obtain⟨L0,hL0⟩:=Zgn (nM LK k);have hU:gp LK k=L0.map fun x=>(x.1,kE k x.2):=by unfold gp;rw[hL0]
 have hd:nM (lkV LK) k=lkV L0:=by rw[←hL0];exact Fj LS.v LK k
 have hsub:(lkC L0).Sublist (lkC LK):=by rw[←hL0];exact(qa LK k).map _
 have hs0:LkSm L0:=fun x hx=>hsm x (by rw[←hL0]at hx;exact(qa LK k).subset hx)
 refine bL func151 rfl ntmps151 rfl hi ?_;refine Z_2 ?_;refine ZO fun b3=>?_;refine Z_3 ?_;refine bX ⟨fun j=>List.elem j [5],[]⟩ Zk ?_;refine ZE 0 ?_;refine ZE 1 ?_;refine ZFe 2 2 ?_;refine ZG 3 ?_;refine ZI 4 ?_;refine cw 5 Zk ?_;refine dz rfl rfl (t_mdel rfl rfl hk rfl wc Za) ZJ ?_;rintro _ _ ⟨rfl,rfl⟩;rw[hd];refine bN Zk ?_;refine Z_3 ?_;refine sB (cin':=lkC (prL k (List.replicate L0.length false) L0)) Zd (by rw[vO];exact hsub) ?_;refine Z_4 ?_;refine dJ (yp rfl rfl Za) rfl ?_;rintro _ _ ⟨b15,rfl,rfl⟩;rw[←wh k L0];refine Z_3 ?_;refine cG (fun F:List Bool=>[(0,.pointer (some ⟨bc,0,none⟩)),(3,.pointer (some ⟨b3,0,none⟩)),(15,.pointer (some ⟨b15,0,none⟩))]) (fun F=>[dq (lkC (prL k F L0)),caR bc r0 r1 (.map (some ml)) r3,itC ml b15 (itL k F L0) none,kyR b3 k]) (fun F=>F.length=L0.length) (fun F=>wE F) (List.replicate L0.length false) ?_ ?_ ?_ ?_
 ·exact aM
 ·exact Zwk
 ·exact Zu
 rintro F hF;refine Z_2 ?_;refine dJ (BV rfl Za) rfl ?_;rintro _ _ ⟨o16,ho16,rfl,rfl⟩;refine Zy (Bl Zv0) ?_;refine Z_3 ?_;refine ZW ?_ ?_<;>intro hc3
 ·obtain⟨⟨j,q,v⟩,rfl⟩:=Option.isSome_iff_exists.1 hc3;have hj0:(itL k F L0)[j]? =some (false,q,v):=ho16;have hjl:=(au.1 hj0).1;obtain⟨x,hx,hFj,rfl,rfl⟩:=itL_at hj0;have hjx:(lkC (prL k F L0))[j]? =some (lsC x.2):=(by unfold lkC prL;rw[aZ,List.getElem?_zipWith,hFj,hx];rfl);have hjp:=(au.1 hjx).1;have hji:(xI (itL k F L0) (some (j,x.1,x.2.v)))[j]? =some (true,x.1,x.2.v):=(List.getElem?_set_self hjl);have hIT:((itL k F L0).set j (true,x.1,x.2.v)).set j (true,x.1,(kE k x.2).v)=itL k (F.set j true) L0:=(by rw[List.set_set];exact(xc _ F L0 j true x hx).symm);have hPR:(lkC (prL k (F.set j true) L0)).Perm (lsC (kE k x.2)::(lkC (prL k F L0)).eraseIdx j):=(by have e:lkC (prL k (F.set j true) L0)=(lkC (prL k F L0)).set j (lsC (kE k x.2)):=(by unfold lkC prL;rw[xc _ F L0 j true x hx,List.map_set];rfl);rw[e];exact qd hjp);refine Z_5 ?_;refine xf (c:=lsC x.2) (cin':=(lkC (prL k F L0)).eraseIdx j) Zd (mq hjx) ?_;refine dX (Bo (Zv rfl)) (fun w hi=>(show vh ml b15 (xI (itL k F L0) (some (j,x.1,x.2.v))) (some (x.1,x.2.v)) w from hi.get (show Has _ (itC ml b15 (xI (itL k F L0) (some (j,x.1,x.2.v))) (CA (some (j,x.1,x.2.v))))from Zh))) rfl ?_;refine Z_2 ?_;refine ZN fun b4=>?_
  refine dy (bY (vs:=cA x.1) Zrf rfl rfl (rc x.1) Za (by exact rfl)) ?_;rintro _ _ ⟨rfl,rfl⟩;refine Z_3 ?_;refine bX ⟨fun j=>List.elem j [7,8],qM bc [r0,r1,.map (some ml),r3]++qM b4 (cA x.1)⟩ Zk ?_;refine ZE 0 ?_;refine ZE 1 ?_;refine ZFe 2 2 ?_;refine iv 3 rfl Zk Zk Zk (bO Zrf (Zv rfl)) (by first|exact bW rfl|exact aC _ (bW rfl)|exact ah _ (bW rfl)|exact ah _ (ah _ (aC _ (bW rfl)))|exact ah _ (ah _ (ah _ (bW rfl)))) (fI (bR (t:=171) Zh) (bR (t:=98) Zh)) rfl ?_;refine sD 4 rfl Zk Zk Zk (cB Zrf Zrf Zv0) (fun x hx=>ah _ (fZ x hx)) (fI (bR (t:=171) Zh) (bR (t:=98) Zh)) rfl ?_;refine ZE 5 ?_;refine cN 6 rfl Zk Zk Zk (jX rfl) rfl ?_;refine cw 7 Zk ?_;refine gn rfl rfl (dW ([lsC x.2,kyR b3 k]) rfl (fun _ _=>rfl) Zi (fun w hi hin=>delK_ok (fun _:Unit=>kyR b3 k) (fun _=>True) (fun _ _=>()) (fun q=>q==k) 206 [.pointer (some ⟨b3,0,none⟩)] (fun _ _=>rfl) x.2.ks (hs0 x (aJ hx)).2 (fun _ y w _ _ hin=>zM y k b3 w hin) x.2.A x.2.c () trivial w hin)) (fun _=>by rintro _ _ ⟨_,⟨rfl,rfl⟩,rfl⟩;exact fI (bR (t:=171) Zh) (bR (t:=98) Zh)) rfl ?_;rintro _ _ ⟨_,⟨rfl,rfl⟩,rfl⟩;refine cw 8 Zk ?_;refine dz rfl rfl (t_itput hji rfl rfl rfl rfl wc Za) (fun _=>by rintro _ _ ⟨rfl,rfl⟩;exact fI (bR (t:=171) Zh) (bR (t:=98) Zh)) ?_;rintro _ _ ⟨rfl,rfl⟩;refine bN Zk ?_;refine Zo (iO (cin':=lkC (prL k (F.set j true) L0)) (c:=lsC (kE k x.2)) Zd Zd hPR ?_);refine j0 (c:=itC ml b15 (((itL k F L0).set j (true,x.1,x.2.v)).set j (true,x.1,(kE k x.2).v)) none) (c':=itC ml b15 (itL k (F.set j true) L0) none) Za rfl (fun w h=>by rw[←hIT];exact h) ?_
  refine cq ((F.set j true)) ?_ ?_ ?_
  ·exact⟨by rw[aI,hF],tx hFj⟩
  ·exact Zwk
  exact Zj
 obtain rfl:o16=none:=(by cases o16 with|none=>rfl|some z=>simp at hc3);have ho0:∀x,x∈itL k F L0→x.1=true:=ho16;refine Z_4 ?_;refine vM (IL:=itL k F L0) (cur:=none) (b:=ml) (r:=b15) Zd ?_;rw[C6 k F L0,C7 hF ho0];refine bP [caR bc r0 r1 (.map (some ml)) r3,mpc ml (lkV (L0.map fun x=>(x.1,kE k x.2))),dq (lkC (L0.map fun x=>(x.1,kE k x.2)))] Zj ?_;refine fE (cs':=[caR bc r0 r1 (.map (some ml)) r3,mpc ml (lkV (L0.map fun x=>(x.1,kE k x.2))),dq (lkC (L0.map fun x=>(x.1,kE k x.2)))]) (.inr rfl) Zu rfl ?_;rw[hU]
end Go.Proofs.YtakodpimdalajaaGreatDoor
namespace Go.Ink
open Go.RowKit
def wZ(keys:List Ky)(LK:List (Ky×LS)):Prop:=∀x,x∈LK→ki x.1∧x.2.ks.Nodup∧∀q,q∈x.2.ks→q∈keys
theorem vU:∀{l m:List Ky},l.Nodup→(∀x,x∈l→x∈m)→l.length≤m.length
 |[],m,_,_=>ax _
 |a::l,m,hn,hs=>by
  obtain⟨h1,h2⟩:=List.nodup_cons.1 hn;have hm:=hs a (List.mem_cons_self ..);have:=vU (l:=l) (m:=m.erase a) h2 (fun x hx=>(List.mem_erase_of_ne (fun e=>h1 (by rw[←e];exact hx))).2 (hs x (bA _ hx)));rw[List.length_erase_of_mem hm]at this;have hp:=List.length_pos_of_mem hm;simp only[ai];omega
structure oF(room:Int)(X:CaX):Prop where
 rm:1≤room∧room≤1024
 len:(X.Z.length:Int)≤room
 ba:∀x,x∈X.Z→x.b.code.length≤100000∧ki x.b.key
 lk:wZ (X.Z.map BA.key) X.LK
theorem wZ.sm{keys:List Ky}{LK:List (Ky×LS)}(h:wZ keys LK)(hk:keys.length≤1000000):∀x,x∈LK→ki x.1∧x.2.ks.length≤1000000:=fun x hx=>⟨(h x hx).1,a9 (vU (h x hx).2.1 (h x hx).2.2) hk⟩
theorem wZ.unlink{keys:List Ky}{LK:List (Ky×LS)}(h:wZ keys LK)(k:Ky):wZ keys (gp LK k)∧∀x,x∈gp LK k→∀q,q∈x.2.ks→q≠k:=by
 refine⟨fun x hx=>?_,fun x hx q hq=>?_⟩
 ·obtain⟨y,hy,rfl⟩:=aY.1 hx;obtain⟨h1,h2,h3⟩:=h y ((qa LK k).subset hy);exact⟨h1,h2.filter _,fun q hq=>h3 q (List.mem_filter.1 hq).1⟩
 obtain⟨y,hy,rfl⟩:=aY.1 hx;have:=(List.mem_filter.1 hq).2;simpa using this
theorem wZ.mono{keys keys':List Ky}{LK:List (Ky×LS)}(h:wZ keys LK)(hs:∀q,q∈keys→q∈keys'):wZ keys' LK:=fun x hx=>⟨(h x hx).1,(h x hx).2.1,fun q hq=>hs q ((h x hx).2.2 q hq)⟩
theorem zL{LK:List (Ky×LS)}{k:Ky}{x:Ky×LS}(hx:x∈gp LK k):∃y,y∈LK∧∀q,q∈x.2.ks→q∈y.2.ks:=by
 obtain⟨y,hy,rfl⟩:=aY.1 hx;exact⟨y,(qa LK k).subset hy,fun q hq=>(List.mem_filter.1 hq).1⟩
theorem oF.sm{room:Int}{X:CaX}(h:oF room X):BaSm X.Z:=⟨by have:=h.len;have:=h.rm;omega,h.ba⟩
theorem oF.none{room:Int}(h:1≤room∧room≤1024)(ml:Nat)(A:Option Addr)(c:Nat)(fl:Int):oF room ⟨ml,A,c,fl,[],[]⟩:=
 ⟨h,(by show((0:Nat):Int)≤room;omega),(fun y hy=>nomatch hy),(fun y hy=>nomatch hy)⟩
theorem oF.set{room:Int}{X:CaX}(h:oF room X){j:Nat}{x t:BA}(hx:X.Z[j]? =some x)(hk:x.key=t.key)(ht:t.b.code.length≤100000∧ki t.b.key)(ml:Nat)(A:Option Addr)(c:Nat)(fl:Int):oF room ⟨ml,A,c,fl,gp X.LK t.key,X.Z.set j t⟩:=by
 have hjl:=(au.1 hx).1;have e9:(X.Z.set j t).map BA.key=X.Z.map BA.key:=by
  rw[List.map_set];apply List.ext_getElem?;intro i;rw[List.getElem?_set];by_cases hij:j=i
  ·subst hij;rw[if_pos rfl,if_pos (by simpa using hjl),aZ,hx,←hk]
   rfl
  rw[if_neg hij]
 refine⟨h.rm,by dsimp only;rw[aI];exact h.len,fun y hy=>?_,?_⟩
 ·rcases List.mem_or_eq_of_mem_set hy with hy|rfl
  ·exact h.ba y hy
  exact ht
 dsimp only;rw[e9];exact(h.lk.unlink t.key).1
theorem oF.push{room:Int}{X:CaX}(h:oF room X)(hlt:(X.Z.length:Int)<room){t:BA}(ht:t.b.code.length≤100000∧ki t.b.key)(A:Option Addr)(c:Nat):oF room ⟨X.ml,A,c,X.fl,X.LK,X.Z++[t]⟩:=by
 refine⟨h.rm,(by simp;omega),fun y hy=>?_,h.lk.mono fun q hq=>by rw[List.map_append];exact aC _ hq⟩;rcases aV.1 hy with hy|hy
 ·exact h.ba y hy
 rw[aN]at hy;subst hy;exact ht
def lX(D:BA→Bool)(r:Int×List (Ky×LS))(x:BA):Int×List (Ky×LS):=bif D x then(IntKind.i64.wrap (r.1+1),gp r.2 x.key)else r
theorem rL(D:BA→Bool)(keys:List Ky):∀(l:List BA) (r:Int×List (Ky×LS)),0≤r.1→r.1+(l.length:Int)≤1000000000→wZ keys r.2→(l.foldl (lX D) r).1=r.1+(l.filter D).length∧wZ keys (l.foldl (lX D) r).2∧(∀y,y∈(l.foldl (lX D) r).2→∃z,z∈r.2∧∀q,q∈y.2.ks→q∈z.2.ks)∧
  ∀y,y∈(l.foldl (lX D) r).2→∀q,q∈y.2.ks→∀x,x∈l→D x=true→q≠x.key
 |[],r,_,_,h=>⟨by simp,h,fun y hy=>⟨y,hy,fun q hq=>hq⟩,fun _ _ _ _ x hx=>by cases hx⟩
 |x::l,r,h0,hb,h=>by
  have hb2:r.1+(l.length:Int)+1≤1000000000:=by simp only[ai]at hb;omega
  rw[List.foldl_cons,List.filter_cons];cases hD:D x with
  |false=>
   have e:lX D r x=r:=by unfold lX;rw[hD,aa]
   rw[e];obtain⟨h1,h2,h3,h4⟩:=rL D keys l r h0 (by omega) h;refine⟨by simpa using h1,h2,h3,fun y hy q hq z hz hzD=>?_⟩;rcases aL.1 hz with rfl|hz
   ·rw[hD]at hzD;cases hzD
   exact h4 y hy q hq z hz hzD
  |true=>
   have e:lX D r x=(r.1+1,gp r.2 x.key):=by unfold lX;rw[hD,ac,show IntKind.i64.wrap (r.1+1)=r.1+1 by rw[bI];omega]
   rw[e];obtain⟨u1,u2⟩:=h.unlink x.key;obtain⟨h1,h2,h3,h4⟩:=rL D keys l (r.1+1,gp r.2 x.key) (by dsimp only;omega) (by dsimp only;omega) u1;refine⟨by rw[h1,if_pos rfl];simp only[ai];omega,h2,fun y hy=>?_,fun y hy q hq z hz hzD=>?_⟩
   ·obtain⟨z,hz,hq⟩:=h3 y hy;obtain⟨z',hz',hq'⟩:=zL hz;exact⟨z',hz',fun q h=>hq' q (hq q h)⟩
   rcases aL.1 hz with rfl|hz
   ·obtain⟨z',hz',hq'⟩:=h3 y hy;exact u2 z' hz' q (hq' q hq)
   exact h4 y hy q hq z hz hzD
theorem put_at{α:Type}{key:α→Ky}{room:Int}{l:List α}{t:α}{j:Nat}(h:cT key (key t) l=some j):qR key room l t=l.set j t:=by unfold qR;rw[h]
theorem Fm{α:Type}{key:α→Ky}{room:Int}{l:List α}{t:α}(h:cT key (key t) l=none)(h2:room≤(l.length:Int)):qR key room l t=[t]:=by unfold qR;rw[h];dsimp only;rw[aB h2,ac]
theorem Fl{α:Type}{key:α→Ky}{room:Int}{l:List α}{t:α}(h:cT key (key t) l=none)(h2:¬room≤(l.length:Int)):qR key room l t=l++[t]:=by unfold qR;rw[h];dsimp only;rw[aD h2,aa]
theorem place_b(k:Ky)(Z:List BA):cT Blk.key k (Z.map BA.b)=cT BA.key k Z:=ju (key:=BA.key) (key':=Blk.key) BA.b Zrf k Z
end Go.Ink
namespace Go.Proofs.YtakodpimdalajaaGreatDoor
open Go.RowKit Go.Ink Go.Proofs.Tryz
attribute [local irreducible] OpY bU
theorem cnew_ok(room:Int)(w:World):Ctr prog 42 [.int .i64 room] w [] (fun v cs=>if 1≤room∧room≤1024 then∃bc ml,v= .tuple #[.pointer (some ⟨bc,0,none⟩),.int .i64 0]∧cs=caF bc room ⟨ml,none,0,0,[],[]⟩else v= .tuple #[.pointer none,.int .i64 1]∧cs=[]):=by
 refine bL func42 rfl ntmps42 rfl (Inv.start w) ?_;refine vg ?_;refine ZW ?_ ?_<;>intro hc1
 ·have hnr:¬(1≤room∧room≤1024):=(by simp only[Bool.or_eq_true,ap]at hc1;omega);refine Z_8 ?_;refine ft (cs':=[]) (.inl rfl) Zu rfl rfl rfl ?_;rw[if_neg hnr];exact⟨rfl,rfl⟩
 have hnr:1≤room∧room≤1024:=(by simp only[bj,aj]at hc1;omega);refine Z_4 ?_;refine dC 186 4 ?_;refine nh ?_;refine nh ?_;refine ZA ?_;refine dJ (xn rfl) rfl ?_;rintro _ _ ⟨b11,rfl,rfl⟩;refine ZA ?_;refine ZO fun b13=>?_
 refine Z_5 ?_;refine bP (caF b13 room ⟨b11,none,0,0,[],[]⟩) Zj ?_;refine ft (cs':=caF b13 room ⟨b11,none,0,0,[],[]⟩) (.inl rfl) (aK _) rfl rfl rfl ?_;rw[if_pos hnr];exact⟨b13,b11,rfl,rfl⟩
theorem D9(bc:Nat)(room:Int)(X:CaX)(w:World)(hi:Inv w (bK (caF bc room X)) (caF bc room X) w):Ctr prog 104 [.pointer (some ⟨bc,0,none⟩)] w (caF bc room X) (fun v cs=>v= .int .i64 (X.Z.length:Int)∧cs=caF bc room X):=by
 refine bL func104 rfl ntmps104 rfl hi ?_;refine qn ?_;refine vH (cs':=caF bc room X) (.inl rfl) (aK _) rfl rfl ?_;exact⟨rfl,rfl⟩
theorem wR(bc:Nat)(room:Int)(X:CaX)(w:World)(hi:Inv w (bK (caF bc room X)) (caF bc room X) w):Ctr prog 54 [.pointer (some ⟨bc,0,none⟩)] w (caF bc room X) (fun v cs=>∃ml fl,v= .int .i64 (X.Z.length:Int)∧cs=caF bc room ⟨ml,none,0,fl,[],[]⟩):=by
 refine bL func54 rfl ntmps54 rfl hi ?_;refine vg ?_;refine dC 186 4 ?_;refine nh ?_;refine nh ?_;refine Z_2 ?_;refine dJ (xn rfl) rfl ?_;rintro _ _ ⟨b11,rfl,rfl⟩;refine Z_2 ?_;refine ZL ?_;refine Z_2 ?_;refine ZL ?_;refine Z_8 ?_;refine Zy (cy Zv0 Zv0 rfl) ?_;refine Z_2 ?_;refine ZL ?_;refine Z_9 ?_;refine bP (caF bc room ⟨b11,none,0,IntKind.i64.wrap (X.fl+1),[],[]⟩) Zj ?_;refine vH (cs':=caF bc room ⟨b11,none,0,IntKind.i64.wrap (X.fl+1),[],[]⟩) (.inl rfl) (aK _) rfl rfl ?_;exact⟨_,_,rfl,rfl⟩
abbrev caL(bc:Nat)(room:Int)(ml:Nat)(A:Option Addr)(cc:Nat)(fl:Int)(n:Nat)(xs:List Value)(cin:List bJ)(LK:List (Ky×LS)):List bJ:=[caR bc (.int .i64 room) (.slice A n cc) (.map (some ml)) (.int .i64 fl),slv 186 4 A n cc xs,dq cin,mpc ml (lkV LK),dq (lkC LK)]
theorem cput_ok(bc:Nat)(room:Int)(X:CaX)(hX:oF room X)(t:BA)(ht:t.b.code.length≤100000∧ki t.b.key)(hc1:1≤t.b.count)(hne:t.b.code≠[])(w:World)(hi:Inv w (bK (caF bc room X)) (caF bc room X) w)(hR:∀w',dR (bK (caF bc room X)) w w'→Rd w' .u8 t.A (cJ t.b.code).length t.c (cJ t.b.code)):
  Ctr prog 130 [.pointer (some ⟨bc,0,none⟩),.agg t.cells.toArray] w (caF bc room X) (fun _ cs=>∃X':CaX,cs=caF bc room X'∧oF room X'∧X'.Z.map BA.b=qR Blk.key room (X.Z.map BA.b) t.b):=by
 have hS:=hX.sm;have hZ:=hS.1;have hlen:=hX.len;obtain⟨hr1,hr2⟩:=hX.rm;have hb8:(cJ t.b.code).length≤140737488355328:=by rw[iU];omega
 have hb0:(cJ t.b.code).length≠0:=by rw[iU];intro e;exact hne (List.eq_nil_of_length_eq_zero (by omega))
 have HP:=rO bc (.int .i64 room) (.map (some X.ml)) (.int .i64 X.fl) X.Ac X.cc X.Z hZ t.b.key;have HU:=vq bc X.ml (.int .i64 room) (.slice X.Ac X.Z.length X.cc) (.int .i64 X.fl) X.LK (hX.lk.sm (by simpa using hZ)) t.b.key ht.2;have HF:=wR bc room X;obtain⟨o,ho⟩:=Zgn (cT BA.key t.b.key X.Z);rw[ho]at HP;have hob:cT Blk.key t.b.key (X.Z.map BA.b)=o:=by rw[place_b,ho]
 obtain⟨ml,Ac,cc,fl,LK,Z⟩:=X;dsimp only at hS hZ hlen HP HU HF ho hob;refine bL func130 rfl ntmps130 rfl hi ?_;refine Z_2 ?_;refine ZO fun b3=>?_;refine vg ?_;refine bV rfl ((by rw[bj];exact⟨aD (by omega),beq_eq_false_iff_ne.2 (by omega)⟩)) ?_;refine Z_6 ?_;refine ZS (fun w hi=>wO t.A (cJ t.b.code).length t.c (cJ t.b.code) w (hR w hi.Iz) hb8) ?_;rintro _ _ ⟨_,⟨A9,c9,rfl,rfl⟩,rfl⟩;refine Z_1 ?_;refine ZL ?_;refine Z_7 ?_;refine dX (cB (vs:=cA t.b.key) Zrf Zrf Zv0) (cX Zh rfl) rfl ?_;refine ZcM ([caR bc (.int .i64 room) (.slice Ac Z.length cc) (.map (some ml)) (.int .i64 fl),slv 186 4 Ac Z.length cc (Z.flatMap BA.cells)]) (fun w hi hin=>HP w hin) ?_;refine Z_9 ?_;refine ZW ?_ ?_<;>intro hc5
 ·obtain⟨j,rfl⟩:∃j,o=some j:=(by cases o with|none=>cases hc5|some j=>exact⟨j,rfl⟩);obtain⟨x,hx,hxk, -⟩:=pd ho;have hjl:=(au.1 hx).1;obtain⟨bs,rfl⟩:=gW (hi.get (.tail _ (.head (slv 186 4 Ac Z.length cc (Z.flatMap BA.cells)) _))) (show 0<Z.length by omega);refine Z_4 ?_;refine dX (cB (vs:=cA t.b.key) Zrf Zrf Zv0) (cX Zh rfl) rfl ?_;refine ZcL ([caR bc (.int .i64 room) (.slice (some ⟨bs,0,none⟩) Z.length cc) (.map (some ml)) (.int .i64 fl),mpc ml (lkV LK),dq (lkC LK)]) (fun w hi hin=>HU w hin) ?_;rintro _ _ ⟨_,rfl,rfl⟩;refine Z_3 ?_;refine bX ⟨fun j=>List.elem j [7],[]⟩ Zk ?_;refine ZE 0 ?_;refine ZE 1 ?_;refine ZFe 2 1 ?_;refine ZG 3 ?_;refine ZE 4 ?_;refine ZI 5 ?_;refine cN 6 rfl Zk Zk Zk (cC (bb:=bs) (o:=0) (n:=Z.length) (c:=cc) (j:=j) (sz:=4) (r:=j*4) rfl Zrf (Zv rfl) (Zv rfl) Zrf (fun _=>by omega) (by omega)) rfl ?_;refine cw 7 Zk ?_;refine dz rfl rfl (qC (sz:=4) (n:=Z.length) (c:=cc) (vs:=BA.cells ⟨t.b,A9,c9⟩) Zrf rfl rfl (fJ _) Za rfl (by omega)) ZJ ?_;rintro _ _ ⟨rfl,rfl⟩;rw[uT (f:=BA.cells) (sz:=4) Zrf hjl];refine bN Zk ?_;refine Z_8 ?_;refine vL (cin:=Z.map baC) (c:=baC x) (cin':=(Z.map baC).eraseIdx j) Zd (mq (by rw[aZ,hx];rfl)) ?_;refine iO (cin:=(Z.map baC).eraseIdx j) (c:=baC ⟨t.b,A9,c9⟩) (cin':=(Z.set j ⟨t.b,A9,c9⟩).map baC) Zd Zd (by rw[List.map_set];exact qd (by simpa using hjl)) ?_;refine bP (caL bc room ml (some ⟨bs,0,none⟩) cc fl Z.length ((Z.set j ⟨t.b,A9,c9⟩).flatMap BA.cells) ((Z.set j ⟨t.b,A9,c9⟩).map baC) (gp LK t.b.key)) Zj ?_;refine vH (cs':=caL bc room ml (some ⟨bs,0,none⟩) cc fl Z.length ((Z.set j ⟨t.b,A9,c9⟩).flatMap BA.cells) ((Z.set j ⟨t.b,A9,c9⟩).map baC) (gp LK t.b.key)) (.inl rfl) (aK _) rfl rfl ?_;exact⟨⟨ml,some ⟨bs,0,none⟩,cc,fl,gp LK t.b.key,Z.set j ⟨t.b,A9,c9⟩⟩,by simp only[caF,caL,blC,aI],hX.set (t:=⟨t.b,A9,c9⟩) hx hxk ht _ _ _ _,by rw[put_at hob,List.map_set]⟩
 obtain rfl:o=none:=(by cases o with|none=>rfl|some j=>have h9:¬(0:Int)≤((j:Nat):Int):=of_decide_eq_false hc5;omega);refine Z_2 ?_;refine cS (fun Y:CaX=>[(0,.pointer (some ⟨bc,0,none⟩)),(3,.pointer (some ⟨b3,0,none⟩))]) (fun Y=>caF bc room Y++[row b3 (BA.cells ⟨t.b,A9,c9⟩) 186,baC ⟨t.b,A9,c9⟩]) (fun Y=>oF room Y∧(Y.Z.length:Int)<room∧Y.Z.map BA.b++[t.b]=qR Blk.key room (Z.map BA.b) t.b) ?_ ?_
 ·refine Zs (bX ⟨fun j=>List.elem j [],[]⟩ Zk ?_);refine ZE 0 ?_;refine ZE 1 ?_;refine ZFe 2 1 ?_;refine ZG 3 ?_;refine ZE 4 ?_;refine ZE 5 ?_;refine ZE 6 ?_;refine ZFe 7 0 ?_;refine ZG 8 ?_;refine ZE 9 ?_;refine bN Zk ?_;refine Zt ?_;refine ZW ?_ ?_<;>intro hc9
  ·have hfull:room≤((Z.map BA.b).length:Int):=(by rw[List.length_map];exact of_decide_eq_true hc9);refine Z_2 ?_;refine ZcL (caF bc room ⟨ml,Ac,cc,fl,LK,Z⟩) (fun w hi hin=>HF w hin) ?_;rintro _ _ ⟨_,⟨ml2,fl2,rfl,rfl⟩,rfl⟩;refine Zn ?_;refine cq ((⟨ml2,none,0,fl2,[],[]⟩:CaX)) ?_ ?_ ?_
   ·exact⟨oF.none ⟨hr1,hr2⟩ _ _ _ _,by show((0:Nat):Int)<room;omega,by rw[Fm hob hfull];rfl⟩
   ·exact Zwk
   exact Zj
  have hfull:¬room≤((Z.map BA.b).length:Int):=(by rw[List.length_map];exact of_decide_eq_false hc9);refine Zc ?_;refine cq ((⟨ml,Ac,cc,fl,LK,Z⟩:CaX)) ?_ ?_ ?_
  ·exact⟨hX,by rw[List.length_map]at hfull;show((Z.length:Nat):Int)<room;omega,by rw[Fl hob hfull]⟩
  ·exact Zwk
  exact Zj
 rintro⟨ml2,Ac2,cc2,fl2,LK2,Z2⟩ ⟨hY,hlt,hput⟩;dsimp only at hlt hput⊢;refine Zs (bX ⟨fun j=>List.elem j [7,10],qM b3 (BA.cells ⟨t.b,A9,c9⟩)⟩ Zk ?_);refine ZE 0 ?_;refine ZE 1 ?_;refine ZE 2 ?_;refine ZFe 3 1 ?_;refine ZG 4 ?_;refine sD 5 rfl Zk Zk Zk (cB Zrf Zrf Zv0) (fun x hx=>fZ x hx) (bR (t:=186) Zh) rfl ?_;refine cw 6 Zk ?_;refine gn rfl rfl (dh rfl rfl Zrf Zrf rfl rfl rfl) (fun _=>by rintro _ _ ⟨b54,rfl,rfl⟩;exact bR (t:=186) Zh) rfl ?_;rintro _ _ ⟨b54,rfl,rfl⟩;refine cw 7 Zk ?_;refine gn rfl rfl (cW (n:=Z2.length) (e:=186) (sz:=4) (bytes:=40) rfl rfl Za rfl rfl (fun w hi=>hi.rd (show Has _ (slv 186 4 (some ⟨b54,0,none⟩) 1 1 (BA.cells ⟨t.b,A9,c9⟩))from Zh)) (fJ ⟨t.b,A9,c9⟩) (by simp only[maxLen];omega) (by omega)) (fun _=>by rintro _ _ ⟨A2,c2,rfl,rfl⟩;exact bR (t:=186) Zh) rfl ?_;rintro _ _ ⟨A2,c2,rfl,rfl⟩;rw[show Z2.flatMap BA.cells++BA.cells ⟨t.b,A9,c9⟩=(Z2++[(⟨t.b,A9,c9⟩:BA)]).flatMap BA.cells by simp,show Z2.length+1=(Z2++[(⟨t.b,A9,c9⟩:BA)]).length by simp];refine ZE 8 ?_;refine ZFe 9 1 ?_;refine cw 10 Zk ?_;refine dz rfl rfl (fj Zrf rfl rfl rfl Za Zp) (fun _=>by rintro _ _ ⟨rfl,rfl⟩;exact bR (t:=186) Zh) ?_;rintro _ _ ⟨rfl,rfl⟩;refine bN Zk ?_;refine Z_7 ?_;refine iO (cin:=Z2.map baC) (c:=baC ⟨t.b,A9,c9⟩) (cin':=(Z2++[(⟨t.b,A9,c9⟩:BA)]).map baC) Zd Zd (by rw[List.map_append];exact List.perm_append_singleton _ _) ?_;refine bP (caF bc room ⟨ml2,A2,c2,fl2,LK2,Z2++[(⟨t.b,A9,c9⟩:BA)]⟩) Zj ?_;refine vH (cs':=caF bc room ⟨ml2,A2,c2,fl2,LK2,Z2++[(⟨t.b,A9,c9⟩:BA)]⟩) (.inl rfl) (aK _) rfl rfl ?_;exact⟨⟨ml2,A2,c2,fl2,LK2,Z2++[(⟨t.b,A9,c9⟩:BA)]⟩,rfl,hY.push (t:=⟨t.b,A9,c9⟩) hlt ht _ _,by rw[List.map_append];exact hput⟩
end Go.Proofs.YtakodpimdalajaaGreatDoor
namespace Go.Ink
open Go.RowKit
def kw(n:Nat)(m from_:Int):Nat→(St×Mmu×Dev)×Eng→(St×Mmu×Dev)×Eng
 |0,q=>q
 |k+1,q=>bif gM m from_ q.1.1 then kw n m from_ k (doE n q.1.1 q.1.2.1 q.1.2.2 q.2)else q
def zX(n:Nat)(m:Int)(s:St)(U:Mmu)(d:Dev)(E:Eng):(St×Mmu×Dev)×Eng:=kw n m s.count m.toNat ((s,U,d),E)
theorem qK{n k:Nat}{m from_:Int}{q:(St×Mmu×Dev)×Eng}(h:gM m from_ q.1.1=false):kw n m from_ k q=q:=by
 cases k with
 |zero=>rfl
 |succ k=>
  unfold kw;rw[h]
  rfl
theorem vG{n k:Nat}{m from_:Int}{q:(St×Mmu×Dev)×Eng}(h:gM m from_ q.1.1=true):kw n m from_ (k+1) q=kw n m from_ k (doE n q.1.1 q.1.2.1 q.1.2.2 q.2):=by
 rw[kw,h]
 rfl
theorem oB{n:Nat}{s:St}{U:Mmu}{d:Dev}(h:GOk n s U d):GOk n (dg n s U d).1 (dg n s U d).2.1 (dg n s U d).2.2:=by
 rcases po h with h1|⟨-, -,h3, -⟩
 ·exact h1.g
 exact h3
theorem zu.trans{E E1 E2:Eng}{c1 c2:Nat}(h1:zu E E1 c1)(h2:zu E1 E2 c2):zu E E2 (c1+c2):=⟨fun a b c=>by
 obtain⟨x1,x2,x3,x4⟩:=h1.Iw a b (by omega);obtain⟨y1,y2,y3,y4⟩:=h2.Iw x1 x2 (by omega);exact⟨y1,y2,by omega,by omega⟩,h2.room.trans h1.room⟩
theorem zu.zero(E:Eng):zu E E 0:=⟨fun a b _=>⟨a,b,by omega,bE _⟩,rfl⟩
theorem vF{n:Nat}(hn:n≤1000000){m f:Int}:∀(k:Nat) {q:St×Mmu×Dev} {E:Eng},GOk n q.1 q.2.1 q.2.2→gw E→
  (kw n m f k (q,E)).1=pP n m f k q∧gw (kw n m f k (q,E)).2∧GOk n (pP n m f k q).1 (pP n m f k q).2.1 (pP n m f k q).2.2∧
  ∃c:Nat,c≤8*k∧zu E (kw n m f k (q,E)).2 c∧(pP n m f k q).1.count=IntKind.u64.wrap (q.1.count+(c:Int))
 |0,q,E,h,hE=>⟨rfl,hE,h,0,aS _,.zero E,by have:=h.wf.count;show q.1.count=IntKind.u64.wrap (q.1.count+0);rw[aU];omega⟩
 |k+1,q,E,h,hE=>by
  cases hc:gM m f q.1 with
  |false=>
   rw[qK (q:=(q,E)) hc,sP hc];exact⟨rfl,hE,h,0,ax _,.zero E,by have:=h.wf.count;show q.1.count=IntKind.u64.wrap (q.1.count+0);rw[aU];omega⟩
  |true=>
   rw[vG (q:=(q,E)) hc,nH hc];obtain⟨d1,d2,c,d3,d4,d5⟩:=tA hn h hE;have hg:=oB h;dsimp only;obtain⟨⟨q1,E1⟩,hz⟩:=Zgn (doE n q.1 q.2.1 q.2.2 E);rw[hz]at d1 d2 d4⊢;dsimp only at d1 d2 d4;rw[←d1]at d5 hg⊢;obtain⟨r1,r2,r3,c',r4,r5,r6⟩:=vF hn (m:=m) (f:=f) k hg d2;refine⟨r1,r2,r3,c+c',by omega,d4.trans r5,?_⟩;rw[r6,d5,me,show(c:Int)+(c':Int)=((c+c':Nat):Int) by omega]
theorem Ca{n:Nat}(hn:n≤1000000)(m:Int){s:St}{U:Mmu}{d:Dev}{E:Eng}(h:GOk n s U d)(hE:gw E):
  (zX n m s U d E).1=xv n m s U d∧gw (zX n m s U d E).2∧GOk n (xv n m s U d).1 (xv n m s U d).2.1 (xv n m s U d).2.2∧
  ∃c:Nat,c≤8*m.toNat∧zu E (zX n m s U d E).2 c∧(xv n m s U d).1.count=IntKind.u64.wrap (s.count+(c:Int)):=vF hn m.toNat (q:=(s,U,d)) h hE
abbrev v8(a:Int):List (Int×Int):=[(1,a),(1,1),(17,0),(34,251),(4,0),(32,246)]
theorem v7:iD (v8 3)=[1,3,1,1,17,34,251,4,32,246]:=by decide
def Hp(q:(St×Mmu×Dev)×Eng):Bool:=decide (40≤q.1.1.count)&&decide (0<q.2.Iw)&&decide (1≤q.2.l.length)
theorem AE:Hp (zX 2 40 St.new ⟨Mem.init 2 [1,3,1,1,17,34,251,4,32,246],dM⟩ (Dev.init []) (Eng.fresh 8))=true:=by decide+kernel
theorem do_go{n:Nat}{s:St}{op nn:Int}{U:Mmu}{d:Dev}(hr:s.right=true)(hc:eO s op nn=0):sq n s op nn U d=(uX s (kA n s op nn ⟨U.m.calm,U.t⟩ d),(kA n s op nn ⟨U.m.calm,U.t⟩ d).u,(kA n s op nn ⟨U.m.calm,U.t⟩ d).d):=by
 unfold sq;rw[hr,hc]
 rfl
theorem Cd{n Iq k sz p:Nat}{s:St}{op nn:Int}{U U':Mmu}{d d':Dev}{r:Res}(hf:eI n U.m p=some ((op,nn),sz))(hq:sq n s op nn U d=(r,U',d'))(hn:kz op r Iq s.pc=true):fe n Iq (k+1) s p U d=fe n Iq k r.s ((p+sz)%4294967296) U' d':=by
 rw[fe,hf];dsimp only;rw[hq,hn]
 rfl
abbrev w1(c:Int):Int:=IntKind.u64.wrap (c+1)
abbrev w3(c:Int):Int:=w1 (w1 (w1 c))
theorem wT{n:Nat}{s:St}{U:Mmu}{d:Dev}(h:GOk n s U d):(dg n s U d).2.2.out.length≤d.out.length+8:=by
 rcases po h with h3|⟨-, -, -,h3⟩
 ·exact h3.out
 rw[h3];omega
end Go.Ink
