/- Lemmas. -/
import Derived.Test.YtakodpimdalajaaGreatDoorPaa
import Derived.Test.YtakodpimdalajaaGreatDoorPab
import Derived.Test.YtakodpimdalajaaGreatDoorPac
import Derived.Test.YtakodpimdalajaaGreatDoorPae
import Derived.Test.YtakodpimdalajaaGreatDoorPak
import Derived.Test.YtakodpimdalajaaGreatDoorPam
set_option linter.unusedSimpArgs false
set_option linter.unusedVariables false
set_option maxRecDepth 100000
set_option maxHeartbeats 4000000
namespace Go.Ink
open Go.RowKit
def cG(b:List Int):Nat→Nat→List (Int×Int)×Nat×Bool
 |0,sz=>([],sz,false)
 |k+1,sz=>match dR (b.drop sz)with
  |none=>([],sz,false)
  |some (i,z)=>bif dx i.1 then(bif gl i.1 then([i],sz+z,true)else(i::(cG b k (sz+z)).1,(cG b k (sz+z)).2.1,(cG b k (sz+z)).2.2))else([],sz,false)
inductive kv (b:List Int):Nat→List (Int×Int)→Nat→Prop
 |nil (o:Nat):kv b o [] o
 |cons {o z e:Nat} {i:Int×Int} {l:List (Int×Int)} (h:dR (b.drop o)=some (i,z)) (t:kv b (o+z) l e):kv b o (i::l) e
theorem nu{b:List Int}{i:Int×Int}{z:Nat}(h:dR b=some (i,z)):z=(cy i.1).toNat∧0<cy i.1∧z≤b.length∧∀b':List Int,b'.take z=b.take z→dR b'=some (i,z):=by
 cases b with
 |nil=>cases h
 |cons op l=>
  have h:(bif cy op==0 then none else bif decide ((l.length:Int)+1<cy op)then none else some ((op,xI (l.take ((cy op).toNat - 1))),(cy op).toNat))=some (i,z):=h;cases h0:cy op==0 with
  |true=>rw[h0]at h;cases h
  |false=>
  cases h1:decide ((l.length:Int)+1<cy op)with
  |true=>rw[h0,h1]at h;cases h
  |false=>
  rw[h0,h1]at h;simp only[aa,aR,aW]at h;obtain⟨rfl,rfl⟩:=h;simp only[beq_eq_false_iff_ne,ah]at h0 h1;have hz:cy op=0∨cy op=1∨cy op=2∨cy op=5:=jc op;refine⟨rfl,by show 0<cy op;omega,by rw[aj];omega,fun b' hb=>?_⟩;obtain⟨m,hm⟩:∃m:Nat,(cy op).toNat=m+1:=⟨(cy op).toNat - 1,by omega⟩;rw[hm]at hb⊢;cases b' with
  |nil=>rw[List.take_succ_cons,List.take_nil]at hb;cases hb
  |cons op' l'=>
   rw[List.take_succ_cons,List.take_succ_cons,List.cons.injEq]at hb;obtain⟨rfl,hb⟩:=hb;have hl:m≤l'.length:=by
    have e:=congrArg List.length hb;rw[aC,aC]at e;omega
   rw[show m+1 - 1=m from rfl,←hb];exact oO Wq1 hl
theorem kv.le{b:List Int}{o e:Nat}{l:List (Int×Int)}(h:kv b o l e):o≤e:=by
 induction h with
 |nil=>exact aN _
 |cons h t ih=>omega
theorem kv.ends{b:List Int}{o e:Nat}{l:List (Int×Int)}(h:kv b o l e)(hl:l≠[]):e≤b.length∧o<e:=by
 induction h with
 |nil=>exact absurd rfl hl
 | @cons o z e i l h t ih=>
  obtain⟨h1,h2,h3, -⟩:=nu h;rw[bn]at h3;have hle:=t.le;have hz:0<z:=by omega
  cases l with
  |nil=>cases t;omega
  |cons j l=>have:=ih cJ;omega
theorem kv.stay{b b':List Int}{o e:Nat}{l:List (Int×Int)}(h:kv b o l e)(hb:b'.take e=b.take e):kv b' o l e:=by
 induction h with
 |nil=>exact .nil _
 | @cons o z e i l h t ih=>
  obtain⟨-, -, -,h4⟩:=nu h;refine .cons (h4 _ ?_) (ih hb);have hle:=t.le;rw[List.take_drop,List.take_drop,show(b'.take (o+z))=(b'.take e).take (o+z) by rw[List.take_take,Nat.min_eq_left hle],hb,List.take_take,Nat.min_eq_left hle]
theorem kY(b:List Int):∀(k sz:Nat),kv b sz (cG b k sz).1 (cG b k sz).2.1∧(cG b k sz).1.length≤k∧((cG b k sz).1≠[]→(cG b k sz).2.2=gl ((cG b k sz).1.getLastD (0,0)).1)∧((cG b k sz).1=[]→(cG b k sz).2.2=false)
 |0,sz=>⟨.nil sz,aN _,fun h=>absurd rfl h,fun _=>rfl⟩
 |k+1,sz=>by
  unfold cG;cases hd:dR (b.drop sz)with
  |none=>exact⟨.nil sz,au _,fun h=>absurd rfl h,fun _=>rfl⟩
  |some q=>
   obtain⟨i,z⟩:=q;dsimp only;cases hp:dx i.1 with
   |false=>exact⟨.nil sz,au _,fun h=>absurd rfl h,fun _=>rfl⟩
   |true=>
    rw[ac];cases he:gl i.1 with
    |true=>exact⟨.cons hd (.nil _),by simp,fun _=>he.symm,fun h=>by cases h⟩
    |false=>
     rw[aa];obtain⟨h1,h2,h3,h4⟩:=kY b k (sz+z);refine⟨.cons hd h1,Nat.succ_le_succ h2,fun _=>?_,fun h=>by cases h⟩;dsimp only;cases hl:(cG b k (sz+z)).1 with
     |nil=>rw[h4 hl];exact he.symm
     |cons j l=>rw[h3 (by rw[hl];simp),hl];rfl
theorem kv.u32{b:List Int}(hb:u8s b){o e:Nat}{l:List (Int×Int)}(h:kv b o l e):∀i,i∈l→u32 i.2:=by
 induction h with
 |nil=>intro i hi;cases hi
 | @cons o z e i l h t ih=>
  intro j hj;rcases aK.1 hj with rfl|hj
  ·obtain⟨op,nn⟩:=j;exact(mq (fun x hx=>hb x (List.mem_of_mem_drop hx)) h).1
  exact ih j hj
theorem AE{b:Bool}{x y:Run}{h:Bool}(hx:x.s.halted=h)(hy:y.s.halted=h):(bif b then x else y).s.halted=h:=by cases b<;>assumption
theorem wq{op nn:Int}{s:St}(h:dx op=true):(doN s op nn).s.halted=s.halted:=by
 have hm:(wD s op nn).s.halted=s.halted:=by
  have hc:op=0∨op=1∨op=2∨op=3∨op=4∨op=5∨op=6∨op=7∨op=8∨op=16∨op=17∨op=18∨op=19∨op=20∨op=21∨op=22∨op=23∨op=25∨op=32∨op=33∨op=34∨op=35∨op=36∨op=37∨op=38∨op=39∨op=40:=by
   rcases iS h with h|h|h|h<;>omega
  rcases hc with rfl|rfl|rfl|rfl|rfl|rfl|rfl|rfl|rfl|rfl|rfl|rfl|rfl|rfl|rfl|rfl|rfl|rfl|rfl|rfl|rfl|rfl|rfl|rfl|rfl|rfl|rfl<;>
  first
  |exact rfl
  |exact AE rfl rfl
  |exact AE (b:=(iu _ (eN s _).pop.top (eN s _).top).2.2) (x:=(eN s _).pop.pop) (y:=(eN s _).pop.pop.wt ⟨5,0⟩) rfl rfl
 unfold doN;cases s.right with
 |false=>rfl
 |true=>
  simp only[Bool.not_true,aa];cases(gc s op nn !=0)with
  |true=>rfl
  |false=>
   rw[aa];unfold I9;cases((wD s op nn).JA.Jr !=0)with
   |true=>rfl
   |false=>exact hm
theorem Je{b:Bool}{x y:Run}{h:Int}(hx:x.s.pc=h)(hy:y.s.pc=h):(bif b then x else y).s.pc=h:=by cases b<;>assumption
theorem GJ{op nn:Int}{s s1:St}(h:dx op=true)(hr:s.right=true)(he:gl op=false)(hd:doN s op nn=⟨s1,false,false,[]⟩):s1.pc=dK s op:=by
 have hlt:=E7 h he;have hm:(wD s op nn).s.pc=dK s op:=by
  have hc:op=0∨op=1∨op=2∨op=3∨op=4∨op=5∨op=6∨op=7∨op=8∨op=16∨op=17∨op=18∨op=19∨op=20∨op=21∨op=22∨op=23∨op=25:=by
   rcases iS h with h|h|h|h<;>omega
  rcases hc with rfl|rfl|rfl|rfl|rfl|rfl|rfl|rfl|rfl|rfl|rfl|rfl|rfl|rfl|rfl|rfl|rfl|rfl<;>
  first
  |exact rfl
  |exact Je rfl rfl
  |exact Je (b:=(iu _ (eN s _).pop.top (eN s _).top).2.2) (x:=(eN s _).pop.pop) (y:=(eN s _).pop.pop.wt ⟨5,0⟩) rfl rfl
 unfold doN at hd;rw[hr]at hd;simp only[Bool.not_true,aa]at hd;cases hk:(gc s op nn !=0)with
 |true=>rw[hk]at hd;cases hd
 |false=>
  rw[hk,aa]at hd;unfold I9 at hd;cases ht:((wD s op nn).JA.Jr !=0)with
  |true=>rw[ht]at hd;cases hd
  |false=>
   rw[ht,aa]at hd;obtain rfl:=congrArg Res.s hd;exact hm
theorem zz(p:Int)(va:Nat):(pR p va).toNat%64=va%64∧0≤pR p va:=by
 unfold pR;simp only[aE];omega
theorem Bg(n:Nat)(U:Mmu)(s:Sp)(va:Nat)(kind:Int)(h:(cZ n U s va kind).1.2.Jr=0):(cZ n U s va kind).1.1.toNat%64=va%64:=by
 unfold cZ at h⊢;revert h;cases s.Jv with
 |false=>intro _;show((va:Int)).toNat%64=_;rw[aO]
 |true=>
  simp only[Bool.not_true,aa];intro h;cases hf:(p8 U.t va kind s.Jq).2 with
  |true=>
   rw[ac];show(p8 U.t va kind s.Jq).1.toNat%64=_;unfold p8 at hf⊢;cases hn:nl (xU U.t va) va (asked kind s.Jq)with
   |true=>rw[hn]at hf;cases hf
   |false=>rw[aa];exact(zz _ va).1
  |false=>
   rw[hf,aa]at h;rw[aa];cases hw:(gI n U.m s.root va kind s.Jq).1.2.Jr !=0 with
   |true=>
    rw[hw,ac]at h;simp only[bne_iff_ne]at hw;exact absurd h hw
   |false=>rw[aa];exact(zz _ va).1
theorem DM(n:Nat)(U:Mmu)(s:Sp)(va:Nat)(h:(cM n U s va 1).1.2.Jr=0):(cM n U s va 1).1.1.toNat%64=va%64∧(cM n U s va 1).1.1<((n*64:Nat):Int):=by
 have hf:(fault 1==0)=false:=rfl;unfold cM at h⊢;rw[hf,aa]at h⊢;cases hc:(cZ n U s va 1).1.2.Jr !=0 with
 |true=>
  rw[hc,ac]at h;simp only[bne_iff_ne]at hc;exact absurd h hc
 |false=>
  rw[hc,aa]at h;rw[aa];simp only[bne_eq_false_iff_eq]at hc;have e:((1:Int) !=1)=false:=rfl;rw[e,Bool.false_and,Bool.or_false]at h⊢;cases hd:decide ((cZ n U s va 1).1.1<((n*64:Nat):Int))with
  |false=>rw[hd,aa]at h;cases h
  |true=>
   rw[ac];exact⟨Bg n U s va 1 hc,by simpa using hd⟩
theorem sw{n:Nat}{s:St}{U:Mmu}{d:Dev}(h:GOk n s U d)(hr:(dW n s U d).runs=true):(dW n s U d).place.toNat%64=(dW n s U d).s.pc.toNat%64∧(dW n s U d).place<((n*64:Nat):Int):=by
 unfold dW at hr⊢;cases hc: !s.right||s.halted with
 |true=>rw[hc]at hr;cases hr
 |false=>
  rw[hc,aa]at hr;rw[aa];unfold sx at hr⊢;dsimp only at hr⊢;cases ht:(cM n U (told s (d.tick s.count)).space (told s (d.tick s.count)).pc.toNat 1).1.2.Jr !=0 with
  |true=>rw[ht]at hr;cases hr
  |false=>
   rw[aa];simp only[bne_eq_false_iff_eq]at ht;exact DM n U _ _ ht
theorem tC{n JD:Nat}(hn:n≤1000000)(hpg:JD<n):∀(l:List (Int×Int)) {s s2:St} (o k:Nat) {e:Nat} {U:Mmu} (d:Dev),l≠[]→Co l s s2→l.length≤k→kv ((U.m.data.drop (JD*64)).take 64) o l e→0≤s.pc→s.pc≤4294967295→s.pc.toNat%64=o→s.halted=false→
  s2.halted=false∧(gl (l.getLastD (0,0)).1=false→s2.pc=IntKind.u32.wrap (s.pc+((e:Int) - (o:Int))))∧eO n JD k s (JD*64+o) U d=bif gl (l.getLastD (0,0)).1||s2.pc/64 !=s.pc/64 then(s2,⟨U.m.calm,U.t⟩,d)else eO n JD (k - l.length) s2 (JD*64+e) ⟨U.m.calm,U.t⟩ d
 |[],_,_,_,_,_,_,_,hl,_,_,_,_,_,_,_=>absurd rfl hl
 |(op,nn)::l,s,s2,o,0,e,U,d,_,_,hk,_,_,_,_,_=>by simp at hk
 |(op,nn)::l,s,s2,o,k+1,e,U,d,_,hc,hk,hs,p0,p1,hpo,hh=>by
  have hse:=(hs.ends cJ);rw[aC]at hse;cases hc with
  | @cons _ _ _ _ s1 _ hp hr hdo hm hc=>
  cases hs with
  | @cons _ z _ _ _ hd hs=>
  obtain⟨hz1,hz2,hz3, -⟩:=nu hd;dsimp only at hz1 hz2;have hle:=hs.le;have hf:fg n U.m (JD*64+o)=some ((op,nn),z):=by
   unfold fg;have e1:(JD*64+o)/64=JD:=by omega
   have e2:(JD*64+o)%64=o:=by omega
   rw[e1,e2,ay hpg,ac];exact hd
  obtain⟨hpd, -, -⟩:=zy (n:=n) (nn:=nn) (U:=U) (d:=d) hp hr;rw[hdo]at hpd;have hh1:s1.halted=false:=by
   have:=wq (s:=s) (nn:=nn) hp;rw[hdo]at this;exact this.trans hh
  have e64:(JD*64+o+z)%4294967296=JD*64+(o+z):=by omega
  cases l with
  |nil=>
   cases hc
   cases hs
   refine⟨hh1,fun he=>?_,?_⟩
   ·rw[GJ hp hr he hdo];unfold dK;rw[aE,aE,aE];omega
   show eO n JD (k+1) s (JD*64+o) U d=bif gl op||s2.pc/64 !=s.pc/64 then(s2,⟨U.m.calm,U.t⟩,d)else eO n JD k s2 (JD*64+(o+z)) ⟨U.m.calm,U.t⟩ d
   conv=>lhs;unfold eO
   rw[hf];dsimp only;rw[hpd];dsimp only;rw[e64];unfold kD;dsimp only;rw[hh1];have hcon:List.contains ([]:List Int) ((JD:Nat):Int)=false:=rfl;rw[hcon];cases gl op with
   |true=>rfl
   |false=>
    simp only[Bool.or_false,aa,Bool.false_or];cases hq:s2.pc/64==s.pc/64 with
    |true=>simp only[bne,hq,Bool.not_true,ac,aa]
    |false=>simp only[bne,hq,Bool.not_false,ac,aa]
  |cons j l=>
   obtain⟨he,hpc⟩:=hm cJ;have hse2:=(hs.ends cJ).2;have hpc1:s1.pc=s.pc+z:=by
    rw[hpc];unfold dK;rw[aE,aE];omega
   have ih:=tC hn hpg (j::l) (s:=s1) (s2:=s2) (o+z) k (e:=e) (U:=⟨U.m.calm,U.t⟩) d cJ hc (by simpa using hk) hs Wq1 Wq1 Wq1 hh1;refine⟨ih.1,fun he=>?_,?_⟩
   ·rw[ih.2.1 he,hpc1,show(s.pc+(z:Int)+((e:Int) - ((o+z:Nat):Int)))=s.pc+((e:Int) - (o:Int)) by omega]
   have hlast:(((op,nn)::j::l).getLastD (0,0))=((j::l).getLastD (0,0)):=rfl;have hq:s1.pc/64=s.pc/64:=by omega
   conv=>lhs;unfold eO
   rw[hf];dsimp only;rw[hpd];dsimp only;rw[e64];unfold kD;dsimp only;rw[hh1,he];have hcon:List.contains ([]:List Int) ((JD:Nat):Int)=false:=rfl;rw[hcon];simp only[Bool.or_false,aa];rw[show(s1.pc/64==s.pc/64)=true by rw[hq];simp,ac,ih.2.2,hlast,hq];rw[show(k+1) - (((op,nn)::j::l)).length=k - (j::l).length by simp]
   rfl
structure Blk where
 key:Ky
 code:List HI
 count:Int
structure Rn where
 bytes:List Int
 ends:Bool
def Rn.zero:Rn:=⟨[],false⟩
def ri{α:Type}(key:α→Ky)(room:Int)(l:List α)(t:α):List α:=match cN key (key t) l with
 |some j=>l.set j t
 |none=>bif decide (room≤(l.length:Int))then[t]else l++[t]
def sM{β:Type}(l:List Blk)(L:List (Ky×β)):List (Ky×β):=L.filter fun x=>l.any fun t=>t.key==x.1
structure Eng where
 room:Int
 l:List Blk
 runs:List (Ky×Rn)
 last:Ky
 JP:Int
 JL:Int
 begun:Bool
def Eng.fresh(room:Int):Eng:=⟨room,[],[],(0,0),0,0,false⟩
def wK(E:Eng)(k:Ky)(b:List Int):Option (Blk×Rn):=match E.l.find? (fun t=>t.key==k)with
 |some t=>bif(fT E.runs k Rn.zero).bytes.isPrefixOf b then some (t,fT E.runs k Rn.zero)else none
 |none=>none
def rB(k:Ky)(b:List Int):Option (Blk×Rn):=match ff k.1 (cG b 8 0).1 with
 |none=>none
 |some p=>bif p.JB then some (⟨k,gm p (dJ p),((cG b 8 0).1.length:Int)⟩,⟨b.take (cG b 8 0).2.1,(cG b 8 0).2.2⟩)else none
def addE(E:Eng)(t:Blk)(r:Rn):Eng:=
 let l':=ri Blk.key E.room E.l t
 let L:=dB E.runs t.key r
 {E with l:=l',runs:=bif decide (l'.length<L.length)then sM l' L else L}
def kt(E:Eng)(k:Ky)(b:List Int):Option (Blk×Rn)×Eng:=match wK E k b with
 |some q=>(some q,E)
 |none=>match rB k b with
  |some q=>(some q,addE E q.1 q.2)
  |none=>(none,E)
def i9(E:Eng)(s:St)(place:Int)(b:List Int):Option (St×Rn×Int)×Eng:=match kt E (s.pc,place) b with
 |(none,E')=>(none,E')
 |(some (t,r),E')=>bif(ic t.code s).2==1 then(some ((ic t.code s).1,r,t.count),{E' with last:=(s.pc,place),begun:=true,JP:=IntKind.i64.wrap (E'.JP+t.count)})else(none,E')
def Fb(E:Eng)(Jl:List Int):Eng:=
 let l':=E.l.filter fun t=> !Jl.contains (t.key.2/64)
 {E with l:=l',runs:=bif decide (l'.length<E.l.length)then sM l' E.runs else E.runs}
def lF(E:Eng)(Jl:List Int):Eng:=bif Jl.isEmpty then E else Fb E Jl
def ja(n:Nat)(JD:Nat):Nat→St→Nat→Mmu→Dev→Eng→(St×Mmu×Dev)×Eng
 |0,s,_,U,d,E=>((s,U,d),E)
 |k+1,s,p,U,d,E=>match fg n U.m p with
  |none=>((s.next.JA 1 0,U,d),{E with JL:=IntKind.i64.wrap (E.JL+1)})
  |some ((op,nn),sz)=>
   let q:=vr n s op nn U d
   let E':=lF {E with JL:=IntKind.i64.wrap (E.JL+1)} q.1.Jl
   bif kD op q.1 JD s.pc then ja n JD k q.1.s ((p+sz)%4294967296) q.2.1 q.2.2 E' else((q.1.s,q.2.1,q.2.2),E')
def iq(M:Mem)(p:Nat):List Int:=((M.data.drop (p/64*64)).take 64).drop (p%64)
def doE(n:Nat)(s:St)(U:Mmu)(d:Dev)(E:Eng):(St×Mmu×Dev)×Eng:=
 let b:=dW n s U d
 bif b.runs then
  match i9 E b.s b.place (iq b.u.m b.place.toNat)with
  |(none,E')=>ja n (b.place.toNat/64) 8 b.s b.place.toNat b.u b.d E'
  |(some (o,r,c),E')=>bif(r.ends&&decide (0<c))||o.pc/64 !=b.s.pc/64 then((o,⟨b.u.m.calm,b.u.t⟩,b.d),E')
    else ja n ((b.place.toNat+r.bytes.length)%4294967296/64) (8 - c).toNat o ((b.place.toNat+r.bytes.length)%4294967296) ⟨b.u.m.calm,b.u.t⟩ b.d E'
 else((b.s,b.u,b.d),{E with JL:=IntKind.i64.wrap (E.JL+IntKind.i64.wrap (IntKind.u64.wrap (b.s.count - s.count)))})
theorem G0{α:Type}{key:α→Ky}{room:Int}{l:List α}{t x:α}(h:x∈ri key room l t):x=t∨(x∈l∧(∀y,y∈l→(l.map key).Nodup→key x≠key t)):=by
 unfold ri at h;cases hp:cN key (key t) l with
 |some j=>
  rw[hp]at h;dsimp only at h;obtain⟨hj,hk⟩:=fe hp;obtain⟨i,hi,rfl⟩:=List.getElem_of_mem h;rw[List.getElem_set];by_cases e:j=i
  ·rw[if_pos e];exact Or.inl rfl
  rw[if_neg e];have hi':i<l.length:=by simpa using hi
  refine Or.inr ⟨List.getElem_mem _,fun y _ hn hke=>e ?_⟩;rw[←hk]at hke;exact((List.getElem_inj (xs:=l.map key) (h₀:=by simpa using hi') (h₁:=by simpa using hj) hn).1 (by simpa using hke)).symm
 |none=>
  rw[hp]at h;dsimp only at h;cases hd:decide (room≤(l.length:Int))with
  |true=>rw[hd,ac]at h;exact Or.inl (by simpa using h)
  |false=>
   rw[hd,aa,aS]at h;rcases h with h|h
   ·exact Or.inr ⟨h,fun _ _ _=>ii hp x h⟩
   exact Or.inl (by simpa using h)
theorem Dy{α:Type}{key:α→Ky}{room:Int}{l:List α}{t:α}:t∈ri key room l t:=by
 unfold ri;cases hp:cN key (key t) l with
 |some j=>obtain⟨hj, -⟩:=fe hp;exact List.mem_iff_getElem.2 ⟨j,by simpa using hj,by simp⟩
 |none=>cases hd:decide (room≤(l.length:Int))<;>simp
theorem o9{α:Type}{key:α→Ky}{room:Int}{l:List α}{t:α}(h:(l.map key).Nodup):((ri key room l t).map key).Nodup:=by
 unfold ri;cases hp:cN key (key t) l with
 |some j=>
  obtain⟨hj,hk⟩:=fe hp;dsimp only;rw[List.map_set,←hk];have:(l.map key).set j (key l[j])=l.map key:=by
   rw[show key l[j]=(l.map key)[j]'(by simpa using hj) by simp];exact List.set_getElem_self _
  rw[this];exact h
 |none=>
  dsimp only;cases hd:decide (room≤(l.length:Int))with
  |true=>simp
  |false=>
   rw[aa,List.map_append,List.nodup_append];refine⟨h,by simp,fun a ha b hb=>?_⟩;obtain⟨x,hx,rfl⟩:=bh.1 ha;have:b=key t:=by simpa using hb
   rw[this];exact ii hp x hx
theorem GH{α:Type}{key:α→Ky}{room:Int}{l:List α}{t:α}(h1:1≤room)(h:(l.length:Int)≤room):((ri key room l t).length:Int)≤room:=by
 unfold ri;cases hp:cN key (key t) l with
 |some j=>simpa using h
 |none=>
  dsimp only;cases hd:decide (room≤(l.length:Int))with
  |true=>simpa using h1
  |false=>simp only[ah]at hd;simp;omega
theorem uJ{β:Type}(L:List (Ky×β))(k:Ky)(v:β):dB L k v=ri (·.1) ((L.length:Int)+1) L (k,v):=by
 unfold dB ri;cases cN (·.1) k L with
 |some j=>rfl
 |none=>
  dsimp only;rw[az Wq1,aa]
theorem Gv{β:Type}{L:List (Ky×β)}{k:Ky}{v:β}(z:β)(hn:(L.map (·.1)).Nodup)(h:(k,v)∈L):fT L k z=v:=by
 unfold fT;cases hf:L.find? (fun x=>x.1==k)with
 |none=>rw[List.find?_eq_none]at hf;exact absurd (hf _ h) cJ
 |some x=>
  have h1:=List.mem_of_find?_eq_some hf;have h2:=List.find?_some hf;have h3:x.1=k:=by simpa using h2
  obtain⟨i,hi,rfl⟩:=List.getElem_of_mem h1;obtain⟨j,hj,hje⟩:=List.getElem_of_mem h;have:i=j:=(List.getElem_inj (xs:=L.map (·.1)) (h₀:=by simpa using hi) (h₁:=by simpa using hj) hn).1 (by simp[h3,hje]);subst this;rw[hje];rfl
theorem jn{α:Type}{key:α→Ky}{l:List α}(f:α→Bool)(h:(l.map key).Nodup):((l.filter f).map key).Nodup:=h.sublist (List.Sublist.map key List.filter_sublist)
def Good(t:Blk)(r:Rn):Prop:=∃p il,ff t.key.1 il=some p∧p.JB=true∧t.code=gm p (dJ p)∧t.count=(il.length:Int)∧kv r.bytes 0 il r.bytes.length∧(∀i,i∈il→u32 i.2)∧r.ends=gl (il.getLastD (0,0)).1
structure ij(E:Eng):Prop where
 room:1≤E.room∧E.room≤1024
 len:(E.l.length:Int)≤E.room
 keys:(E.l.map Blk.key).Nodup
 Ks:(E.runs.map (·.1)).Nodup
 Ka:∀t,t∈E.l→∃r,(t.key,r)∈E.runs∧Good t r
theorem ij.fresh{room:Int}(h:1≤room∧room≤1024):ij (Eng.fresh room):=⟨h,by show((0:Nat):Int)≤room;omega,by simp[Eng.fresh],by simp[Eng.fresh],fun t ht=>by cases ht⟩
theorem ij.same{E E':Eng}(h:ij E)(h1:E'.room=E.room)(h2:E'.l=E.l)(h3:E'.runs=E.runs):ij E':=⟨by rw[h1];exact h.room,by rw[h1,h2];exact h.len,by rw[h2];exact h.keys,by rw[h3];exact h.Ks,by rw[h2,h3];exact h.Ka⟩
theorem wE{β:Type}{l:List Blk}{L:List (Ky×β)}{t:Blk}{r:β}(ht:t∈l)(h:(t.key,r)∈L):(t.key,r)∈sM l L:=List.mem_filter.2 ⟨h,List.any_eq_true.2 ⟨t,ht,by simp⟩⟩
theorem ij.drop{E:Eng}(h:ij E)(Jl:List Int):ij (Fb E Jl):=by
 refine⟨h.room,?_,jn _ h.keys,?_,fun t ht=>?_⟩
 ·have:((E.l.filter fun t=> !Jl.contains (t.key.2/64)).length)≤E.l.length:=List.length_filter_le _ _;have:=h.len;show(((E.l.filter fun t=> !Jl.contains (t.key.2/64)).length:Nat):Int)≤E.room;omega
 ·show((bif _ then sM _ E.runs else E.runs).map (·.1)).Nodup;cases decide ((E.l.filter fun t=> !Jl.contains (t.key.2/64)).length<E.l.length)with
  |true=>exact jn _ h.Ks
  |false=>exact h.Ks
 have ht:t∈E.l.filter fun t=> !Jl.contains (t.key.2/64):=ht
 obtain⟨r,h1,h2⟩:=h.Ka t (List.mem_filter.1 ht).1;refine⟨r,?_,h2⟩;show(t.key,r)∈(bif _ then sM _ E.runs else E.runs);cases decide ((E.l.filter fun t=> !Jl.contains (t.key.2/64)).length<E.l.length)with
 |true=>exact wE ht h1
 |false=>exact h1
theorem ij.turn{E:Eng}(h:ij E)(Jl:List Int):ij (lF E Jl):=by
 unfold lF;cases Jl.isEmpty with
 |true=>exact h
 |false=>exact h.drop Jl
theorem ij.add{E:Eng}(h:ij E){t:Blk}{r:Rn}(hg:Good t r):ij (addE E t r):=by
 have hl:(t.key,r)∈dB E.runs t.key r:=by rw[uJ];exact Dy
 have hn:((dB E.runs t.key r).map (·.1)).Nodup:=by rw[uJ];exact o9 h.Ks
 have hgo:∀x,x∈ri Blk.key E.room E.l t→∃r',(x.key,r')∈dB E.runs t.key r∧Good x r':=fun x hx=>by
  rcases G0 hx with rfl|⟨h1,h2⟩
  ·exact⟨r,hl,hg⟩
  obtain⟨r',h3,h4⟩:=h.Ka x h1;refine⟨r',?_,h4⟩;have hne:=h2 x h1 h.keys;unfold dB;cases hp:cN (·.1) t.key E.runs with
  |none=>exact List.mem_append_left _ h3
  |some j=>
   obtain⟨hj,hk⟩:=fe hp;obtain⟨i,hi,hie⟩:=List.getElem_of_mem h3;refine List.mem_iff_getElem.2 ⟨i,by simpa using hi,?_⟩;rw[List.getElem_set,if_neg (fun e=>hne ?_),hie];subst e;rw[hie]at hk;exact hk
 refine⟨h.room,GH h.room.1 h.len,o9 h.keys,?_,fun x hx=>?_⟩
 ·show((bif _ then sM _ _ else _).map (·.1)).Nodup;cases decide ((ri Blk.key E.room E.l t).length<(dB E.runs t.key r).length)with
  |true=>exact jn _ hn
  |false=>exact hn
 obtain⟨r',h1,h2⟩:=hgo x hx;refine⟨r',?_,h2⟩;show(x.key,r')∈(bif _ then sM _ _ else _);cases decide ((ri Blk.key E.room E.l t).length<(dB E.runs t.key r).length)with
 |true=>exact wE hx h1
 |false=>exact h1
theorem oK{E:Eng}(h:ij E){k:Ky}{b:List Int}(hb:u8s b):ij (kt E k b).2∧(kt E k b).2.room=E.room∧(kt E k b).2.JP=E.JP∧(kt E k b).2.JL=E.JL∧∀t r,(kt E k b).1=some (t,r)→
  ∃p il,ff k.1 il=some p∧p.JB=true∧t.code=gm p (dJ p)∧t.count=(il.length:Int)∧kv b 0 il r.bytes.length∧(∀i,i∈il→u32 i.2)∧r.ends=gl (il.getLastD (0,0)).1:=by
 unfold kt;cases hk:wK E k b with
 |some q=>
  refine⟨h,rfl,rfl,rfl,fun t r e=>?_⟩;obtain rfl:q=(t,r):=aD e;unfold wK at hk;cases hf:E.l.find? (fun t=>t.key==k)with
  |none=>rw[hf]at hk;cases hk
  |some t'=>
   rw[hf]at hk;dsimp only at hk;cases hpre:(fT E.runs k Rn.zero).bytes.isPrefixOf b with
   |false=>rw[hpre]at hk;cases hk
   |true=>
    rw[hpre,ac,aR,aW]at hk;obtain⟨rfl,hr⟩:=hk;have hkey:t'.key=k:=by simpa using List.find?_some hf
    obtain⟨r',h1,p,il,g1,g2,g3,g4,g5,g6,g7⟩:=h.Ka t' (List.mem_of_find?_eq_some hf);have e1:=Gv Rn.zero h.Ks h1;rw[hkey]at e1 g1;rw[e1]at hr hpre;subst hr;have hpr:b.take r'.bytes.length=r'.bytes:=by
     obtain⟨y,rfl⟩:=List.isPrefixOf_iff_prefix.1 hpre;exact List.take_left
    exact⟨p,il,g1,g2,g3,g4,g5.stay (by rw[hpr,bA]),g6,g7⟩
 |none=>
  cases hm:rB k b with
  |none=>exact⟨h,rfl,rfl,rfl,fun t r e=>by cases e⟩
  |some q=>
   obtain⟨t,r⟩:=q;unfold rB at hm;cases hl:ff k.1 (cG b 8 0).1 with
   |none=>rw[hl]at hm;cases hm
   |some p=>
    rw[hl]at hm;dsimp only at hm;cases hr:p.JB with
    |false=>rw[hr]at hm;cases hm
    |true=>
     rw[hr,ac,aR,aW]at hm;obtain⟨rfl,rfl⟩:=hm;obtain⟨s1,s2,s3,s4⟩:=kY b 8 0;have hne:(cG b 8 0).1≠[]:=fun e=>by
      rw[e]at hl;unfold ff at hl;cases hl
     have hse:=s1.ends hne;have hlen:(b.take (cG b 8 0).2.1).length=(cG b 8 0).2.1:=by rw[aC];omega
     have hu:=s1.u32 hb;refine⟨h.add ⟨p,_,hl,hr,rfl,rfl,?_,hu,s3 hne⟩,rfl,rfl,rfl,fun t r e=>?_⟩
     ·dsimp only;rw[hlen];exact s1.stay (by rw[List.take_take,Nat.min_self])
     obtain⟨rfl,rfl⟩:=Prod.mk.inj (aD e);refine⟨p,_,hl,hr,rfl,rfl,?_,hu,s3 hne⟩;dsimp only;rw[hlen];exact s1
structure AJ(E E':Eng)(c:Nat):Prop where
 JP:0≤E.JP→0≤E.JL→E.JP+E.JL+c≤1000000000→0≤E'.JP∧0≤E'.JL∧E'.JP+E'.JL=E.JP+E.JL+c∧E.JP≤E'.JP
 room:E'.room=E.room
theorem CR(E:Eng)(Jl:List Int):(lF E Jl).JP=E.JP∧(lF E Jl).JL=E.JL∧(lF E Jl).room=E.room:=by
 unfold lF;cases Jl.isEmpty<;>exact⟨rfl,rfl,rfl⟩
theorem uN{n JD:Nat}:∀(k:Nat) {s:St} (p:Nat) {U:Mmu} {d:Dev} {E:Eng},GOk n s U d→ij E→(ja n JD k s p U d E).1=eO n JD k s p U d∧ij (ja n JD k s p U d E).2∧
  ∃c:Nat,c≤k∧AJ E (ja n JD k s p U d E).2 c∧(eO n JD k s p U d).1.count=IntKind.u64.wrap (s.count+(c:Int))
 |0,s,p,U,d,E,h,hE=>⟨rfl,hE,0,aN _,⟨fun h1 h2 _=>⟨h1,h2,by show E.JP+E.JL=_;omega,Int.le_refl _⟩,rfl⟩,by
   show s.count=IntKind.u64.wrap (s.count+0);have:=h.wf.count;rw[aU];omega⟩
 |k+1,s,p,U,d,E,h,hE=>by
  have hw:∀x:Int,0≤x→x≤1000000000→IntKind.i64.wrap (x+1)=x+1:=fun x h1 h2=>by rw[bI];omega
  unfold ja eO;cases hf:fg n U.m p with
  |none=>exact⟨rfl,hE.same rfl rfl rfl,1,by omega,⟨fun h1 h2 h3=>⟨h1,by show 0≤IntKind.i64.wrap (E.JL+1);rw[hw _ h2 Wq1];omega,by show E.JP+IntKind.i64.wrap (E.JL+1)=_;rw[hw _ h2 Wq1];omega,Int.le_refl _⟩,rfl⟩,rfl⟩
  |some o=>
   obtain⟨⟨op,nn⟩,z⟩:=o;obtain⟨f1, -⟩:=lc h.u.m hf;have hg:=sc (op:=op) (nn:=nn) h.wf h.right f1 h.u h.dv;have hl:=qz (n:=n) (op:=op) (nn:=nn) (s:=s) (U:=U) h.lines;obtain⟨⟨q,U1,d1⟩,hq⟩:=Zgn (vr n s op nn U d);rw[hq]at hg hl;obtain⟨g1,g2,g3,g4,g5,g6⟩:=hg;dsimp only at g1 g2 g3 g4 g5 g6 hl⊢;rw[hq];dsimp only;have hE1:ij {E with JL:=IntKind.i64.wrap (E.JL+1)}:=hE.same rfl rfl rfl;have hE2:=hE1.turn q.Jl;obtain⟨u1,u2,u3⟩:=CR {E with JL:=IntKind.i64.wrap (E.JL+1)} q.Jl;obtain⟨E2,hE2e⟩:=Zgn (lF {E with JL:=IntKind.i64.wrap (E.JL+1)} q.Jl);rw[hE2e]at hE2 u1 u2 u3⊢;dsimp only at u1 u2 u3;have hu:AJ E E2 1:=⟨fun h1 h2 h3=>by
    rw[u1,u2,hw _ h2 Wq1];exact⟨h1,by omega,by omega,Int.le_refl _⟩,u3⟩
   cases kD op q JD s.pc with
   |false=>exact⟨rfl,hE2,1,by omega,hu,g3⟩
   |true=>
    rw[ac,ac];obtain⟨r1,r2,c,r3,r4,r5⟩:=uN k ((p+z)%4294967296) (s:=q.s) (U:=U1) (d:=d1) (E:=E2) ⟨g1,g2,g4,g5,hl⟩ hE2;refine⟨r1,r2,c+1,by omega,⟨fun h1 h2 h3=>?_,r4.room.trans u3⟩,?_⟩
    ·obtain⟨a1,a2,a3,a4⟩:=hu.JP h1 h2 Wq1;obtain⟨b1,b2,b3,b4⟩:=r4.JP a1 a2 Wq1;exact⟨b1,b2,by omega,by omega⟩
    rw[r5,g3,mC,show(1:Int)+(c:Int)=((c+1:Nat):Int) by omega]
theorem lL{w0:World}{S:List Nat}{cs:List bJ}{e sz n c o bb:Nat}{xs vs:List Value}(hc:Has cs (slv e sz (some ⟨bb,0,none⟩) n c xs))(hv:∀i v,vs[i]? =some v→xs[o+i]? =some v):∀w,Inv w0 S cs w→cells (eJ ⟨bb,o,none⟩ 0 vs) w:=fun w hi z hz=>by
 obtain⟨j,h1,h2⟩:=gC hz;have:=(hi.rd hc).at_ _ rfl (o+j) z.2 (hv j z.2 h1);rw[Addr.add_lit,bl]at this;rw[h2,Addr.add_lit,bl];exact this
theorem oM{α:Type}{l:List α}{k:Nat}{x:α}(h:l[k]? =some x):l.drop k=x::l.drop (k+1):=by
 obtain⟨h1,h2⟩:=ar.1 h;rw[List.drop_eq_getElem_cons h1,h2]
theorem oI{α:Type}{f:α→List Value}{sz:Nat}(hf:∀a,(f a).length=sz):∀(l:List α) (i:Nat),(l.flatMap f).take (i*sz)=(l.take i).flatMap f
 |[],i=>by simp
 |x::l,0=>by simp
 |x::l,i+1=>by
  rw[List.flatMap_cons,List.take_succ_cons,List.flatMap_cons,←oI hf l i,show(i+1)*sz=(f x).length+i*sz by rw[hf,Nat.succ_mul];omega,List.take_length_add_append]
theorem w9{α:Type}{f:α→List Value}{sz:Nat}(hf:∀a,(f a).length=sz):∀(l:List α) (i:Nat),(l.flatMap f).drop (i*sz)=(l.drop i).flatMap f
 |[],i=>by simp
 |x::l,0=>by simp
 |x::l,i+1=>by
  rw[List.flatMap_cons,List.drop_succ_cons,←w9 hf l i,show(i+1)*sz=(f x).length+i*sz by rw[hf,Nat.succ_mul];omega,List.drop_length_add_append]
theorem vm{α:Type}{f:α→List Value}{sz:Nat}(hf:∀a,(f a).length=sz){l:List α}{i:Nat}{x:α}(hi:i<l.length):(l.flatMap f).take (i*sz)++f x++(l.flatMap f).drop (i*sz+sz)=(l.set i x).flatMap f:=by
 rw[oI hf,show i*sz+sz=(i+1)*sz by rw[Nat.succ_mul],w9 hf,List.set_eq_take_append_cons_drop,if_pos hi,List.flatMap_append,List.flatMap_cons,ap]
def Cr(o:Option Nat):Int:=match o with|none=> -1|some j=>(j:Int)
theorem zP{o:Option Nat}(h:(Cr o== -1)=true):o=none:=by
 cases o with
 |none=>rfl
 |some j=>simp only[Cr,beq_iff_eq]at h;omega
theorem zO{o:Option Nat}(h:(Cr o== -1)=false):∃j,o=some j:=by
 cases o with
 |none=>simp[Cr]at h
 |some j=>exact⟨j,rfl⟩
theorem r8{α:Type}{D:α→Bool}:∀{l:List α},l.findIdx? D=none→l.filter (fun x=> !D x)=l∧(l.filter D).length=0
 |[],_=>⟨rfl,rfl⟩
 |x::l,h=>by
  rw[List.findIdx?_cons]at h;cases hd:D x with
  |true=>rw[hd]at h;cases h
  |false=>
   rw[hd]at h;simp only[Bool.false_eq_true,if_false,Option.map_eq_none_iff]at h;obtain⟨h1,h2⟩:=r8 h;simp only[List.filter_cons,hd,Bool.not_false,if_true,Bool.false_eq_true,if_false];exact⟨by rw[h1],h2⟩
theorem pB{α:Type}{D:α→Bool}:∀{l:List α} {i:Nat},l.findIdx? D=some i→i<l.length∧l.take i++(l.drop (i+1)).filter (fun x=> !D x)=l.filter (fun x=> !D x)∧1+((l.drop (i+1)).filter D).length=(l.filter D).length
 |[],i,h=>by simp at h
 |x::l,i,h=>by
  rw[List.findIdx?_cons]at h;cases hd:D x with
  |true=>
   rw[hd]at h;simp only[if_true,aR]at h;subst h;simp[List.filter_cons,hd];omega
  |false=>
   rw[hd]at h;simp only[Bool.false_eq_true,if_false,Option.map_eq_some_iff]at h;obtain⟨j,hj,rfl⟩:=h;obtain⟨h1,h2,h3⟩:=pB hj;refine⟨by simp;omega,?_,?_⟩
   ·simp only[List.take_succ_cons,List.drop_succ_cons,List.filter_cons,hd,Bool.not_false,if_true,aM,h2]
   simp only[List.drop_succ_cons,List.filter_cons,hd,Bool.false_eq_true,if_false,h3]
def idxN(n:Nat)(o:Option Nat):Nat:=match o with|none=>n|some i=>i+1
theorem nU{α β:Type}{l:List α}{j:Nat}{x:α}(hx:l[j]? =some x)(f:β→α→β)(b:β):(l.take (j+1)).foldl f b=f ((l.take j).foldl f b) x:=by
 obtain⟨h1,h2⟩:=ar.1 hx;rw[List.take_succ_eq_append_getElem h1,List.foldl_append,h2]
 rfl
structure BA where
 b:Blk
 A:Option Addr
 c:Nat
def BA.cells(x:BA):List Value:=[.int .u32 x.b.key.1,.int .u32 x.b.key.2,.slice x.A (cF x.b.code).length x.c,.int .i64 x.b.count]
abbrev BA.key(x:BA):Ky:=x.b.key
def cz(q:Ky):List Value:=[.int .u32 q.1,.int .u32 q.2]
theorem fK(x:BA):∀u∈x.cells,u.oneCell'=true:=fun u h=>by
 simp only[BA.cells,aK,aY,or_false]at h;rcases h with rfl|rfl|rfl|rfl<;>rfl
theorem rI(x:Ky):∀u∈cz x,u.oneCell'=true:=fun u h=>by
 simp only[cz,aK,aY,or_false]at h;rcases h with rfl|rfl<;>rfl
end Go.Ink
namespace Go.Proofs.YtakodpimdalajaaGreatDoor
open Go.RowKit Go.Ink Go.Proofs.Tryz
attribute [local irreducible] OpY bP
theorem Et{ρ:Type}(Y:ρ→bJ)(ok:ρ→Prop)(step:ρ→BA→ρ)(D:BA→Bool)(f:FuncId)(caps:List Value)(HF:∀args w,(callFunc f args).run prog w= .ok (.enter f args) w)(l:List BA)(hl:l.length≤1000000)
  (HC:∀(r:ρ) (x:BA) (w:World),ok r→x∈l→Inv w (bK [Y r]) [Y r] w→Ctr prog f ([]++[.agg (BA.cells x).toArray]++caps) w [Y r] (fun v cs=>v= .bool (D x)∧cs=[Y (step r x)]∧ok (step r x)))
  (A:Option Addr) (c:Nat) (r0:ρ) (hok:ok r0) (w:World) (hi:Inv w (bK [slv 186 4 A l.length c (l.flatMap BA.cells),Y r0]) [slv 186 4 A l.length c (l.flatMap BA.cells),Y r0] w):
  Ctr prog 183 [.slice A l.length c,.func (.func f) #[] caps.toArray] w [slv 186 4 A l.length c (l.flatMap BA.cells),Y r0] (fun v cs=>∃r',v= .int .i64 (Cr (l.findIdx? D))∧r'=(l.take (idxN l.length (l.findIdx? D))).foldl step r0∧ok r'∧cs=[slv 186 4 A l.length c (l.flatMap BA.cells),Y r']):=by
 refine bL func183 rfl ntmps183 rfl hi ?_;refine gL ?_;refine cw (fun q:Nat×ρ=>[(0,.slice A l.length c),(1,.func (.func f) #[] caps.toArray),(7,.int .i64 (l.length:Int)),(8,.int .i64 (q.1:Int))]) (fun q=>[slv 186 4 A l.length c (l.flatMap BA.cells),Y q.2]) (fun q=>(q.1≤l.length∧q.2=(l.take q.1).foldl step r0∧ok q.2)∧l.findIdx? D=((l.drop q.1).findIdx? D).map (· +q.1)) (fun q=>l.length - q.1) (⟨0,r0⟩) ?_ ?_ ?_ ?_
 ·exact⟨⟨au _,rfl,hok⟩,by simp⟩
 ·exact Zwk
 ·exact Zu
 rintro⟨j,r⟩ ⟨⟨hj,hr,hrk⟩,hf⟩;dsimp only at hj hr hrk hf⊢;refine Z_6 ?_;refine ZW ?_ ?_<;>intro hc2
 ·simp only[ak]at hc2;have hjl:j<l.length:=Wq1;obtain⟨bs,rfl⟩:=gU (hi.get (show Has _ (slv 186 4 A l.length c (l.flatMap BA.cells))from Zh)) Wq1;obtain⟨x,hx⟩:∃x,l[j]? =some x:=⟨_,ai hjl⟩;rw[oM hx,List.findIdx?_cons]at hf;refine p6 ?_;refine Zy (cu (bb:=bs) (o:=0) (n:=l.length) (c:=c) (j:=j) (sz:=4) (r:=j*4) rfl Zrf (Zv rfl) (Zv rfl) Zrf Wq4 Wq1) ?_;refine dL (cn (vs:=BA.cells x) Zrf Zrf Zv0) (lL Zh (fun i v hiv=>fB (f:=BA.cells) Zrf hx hiv)) rfl ?_;refine fb (fp ([Y r]) rfl rfl HF Zi (fun w hi hin=>HC r x w hrk (aI hx) hin)) rfl ?_;rintro _ _ ⟨_,⟨rfl,rfl,hrk2⟩,rfl⟩;obtain⟨r2,hr2⟩:=Zgn (step r x);rw[hr2]at hrk2⊢;have hr3:r2=(l.take (j+1)).foldl step r0:=(by rw[←hr2,hr,nU hx]);refine Z_2 ?_;refine ZW ?_ ?_<;>intro hc4
  ·rw[hc4,if_pos rfl]at hf;have hf:l.findIdx? D=some j:=(by rw[hf];simp);rw[hf];refine gE ?_;refine bN [slv 186 4 (some ⟨bs,0,none⟩) l.length c (l.flatMap BA.cells),Y r2] Zj ?_;refine Zrb ([_,_]) ?_;exact⟨r2,rfl,hr3,hrk2,rfl⟩
  rw[hc4,if_neg cJ]at hf;refine Z_4 ?_;refine Wq8 ?_;refine bY ((⟨j+1,r2⟩:Nat×ρ)) ?_ ?_ ?_
  ·exact⟨⟨⟨by omega,hr3,hrk2⟩,by dsimp only;rw[hf,Option.map_map];congr 1;funext z;simp only[Function.comp];omega⟩,by dsimp only;omega⟩
  ·exact Zwk
  exact Zj
 simp only[ah]at hc2;obtain rfl:j=l.length:=Wq1;rw[List.drop_length]at hf;have hf:l.findIdx? D=none:=hf;rw[hf];refine fF ?_;refine Zrb ([_,_]) ?_;exact⟨r,rfl,by rw[bA]at hr;show r=(l.take l.length).foldl step r0;rw[bA];exact hr,hrk,rfl⟩
theorem delB_ok{ρ:Type}(Y:ρ→bJ)(ok:ρ→Prop)(step:ρ→BA→ρ)(D:BA→Bool)(f:FuncId)(caps:List Value)(HF:∀args w,(callFunc f args).run prog w= .ok (.enter f args) w)(l:List BA)(hl:l.length≤1000000)
  (HC:∀(r:ρ) (x:BA) (w:World),ok r→x∈l→Inv w (bK [Y r]) [Y r] w→Ctr prog f ([]++[.agg (BA.cells x).toArray]++caps) w [Y r] (fun v cs=>v= .bool (D x)∧cs=[Y (step r x)]∧ok (step r x)))
  (A:Option Addr) (c:Nat) (r0:ρ) (hok:ok r0) (w:World) (hi:Inv w (bK [slv 186 4 A l.length c (l.flatMap BA.cells),Y r0]) [slv 186 4 A l.length c (l.flatMap BA.cells),Y r0] w):
  Ctr prog 149 [.slice A l.length c,.func (.func f) #[] caps.toArray] w [slv 186 4 A l.length c (l.flatMap BA.cells),Y r0] (fun v cs=>v= .slice A (l.filter fun x=> !D x).length c∧cs=[slv 186 4 A (l.filter fun x=> !D x).length c ((l.filter fun x=> !D x).flatMap BA.cells),Y (l.foldl step r0)]):=by
 have HI:=Et Y ok step D f caps HF l hl HC A c r0 hok;have hcap:=(hi.rd (.head (slv 186 4 A l.length c (l.flatMap BA.cells)) _)).cap;have hfn:=r8 (D:=D) (l:=l);have hfs:=fun i=>pB (D:=D) (l:=l) (i:=i)
 obtain⟨o,ho⟩:=Zgn (l.findIdx? D);rw[ho]at HI hfn hfs;refine bL func149 rfl ntmps149 rfl hi ?_;refine Z_9 ?_;refine ZcL ([slv 186 4 A l.length c (l.flatMap BA.cells),Y r0]) (fun w hi hin=>HI w hin) ?_;rintro _ _ ⟨_,⟨r1,rfl,hr1,hok1,rfl⟩,rfl⟩;refine dS ?_;refine ZW ?_ ?_<;>intro hc2
 ·obtain rfl:=zP hc2;obtain⟨hf1,hf2⟩:=hfn rfl;refine Z_8 ?_;refine Zrb ([_,_]) ?_;rw[hf1];have hr1:r1=(l.take l.length).foldl step r0:=hr1;rw[bA]at hr1;rw[←hr1];exact df
 obtain⟨i0,rfl⟩:=zO hc2;obtain⟨hf1,hf2,hf3⟩:=hfs i0 rfl;obtain⟨bs,rfl⟩:=gU (hi.get (show Has _ (slv 186 4 A l.length c (l.flatMap BA.cells))from Zh)) Wq1;refine Z_6 ?_;refine Zy (cX (Zv rfl) (Zv rfl) (show _=((i0+1:Nat):Int)from by rw[show Cr (some i0)=(i0:Int)from rfl,bI];omega)) ?_;refine Z_4 ?_;refine cw (fun q:(Nat×Nat)×List BA×ρ=>[(0,.slice (some ⟨bs,0,none⟩) l.length c),(1,.func (.func f) #[] caps.toArray),(5,.int .i64 (q.1.1:Int)),(6,.int .i64 (q.1.2:Int))]) (fun q=>[slv 186 4 (some ⟨bs,0,none⟩) l.length c (q.2.1.flatMap BA.cells),Y q.2.2]) (fun q=>(q.2.2=(l.take q.1.2).foldl step r0∧ok q.2.2)∧q.1.1<q.1.2∧q.1.2≤l.length∧q.2.1.length=l.length∧q.2.1.drop q.1.2=l.drop q.1.2∧q.2.1.take q.1.1++(l.drop q.1.2).filter (fun x=> !D x)=l.filter (fun x=> !D x)) (fun q=>l.length - q.1.2) (⟨(i0,i0+1),l,r1⟩) ?_ ?_ ?_ ?_
 ·exact⟨⟨hr1,hok1⟩,Nat.lt_succ_self _,by dsimp only;omega,rfl,rfl,hf2⟩
 ·exact Zwk
 ·exact Zu
 rintro⟨⟨i,j⟩,V,r⟩ ⟨⟨hr,hrk⟩,hij,hj,hV,hVd,hT⟩;dsimp only at hr hrk hij hj hV hVd hT⊢;refine Z_9 ?_;refine ZW ?_ ?_<;>intro hc5
 ·simp only[ak]at hc5;have hjl:j<l.length:=Wq1;obtain⟨x,hx⟩:∃x,l[j]? =some x:=⟨_,ai hjl⟩;have hVx:V[j]? =some x:=(by have:=congrArg (fun z=>z[0]?) hVd;simp only[List.getElem?_drop,Nat.add_zero]at this;rw[this,hx]);rw[oM hx]at hT;rw[oM hx,oM hVx,List.cons.injEq]at hVd;rw[List.filter_cons]at hT;refine Z_8 ?_;refine Zy (cu (bb:=bs) (o:=0) (n:=l.length) (c:=c) (j:=j) (sz:=4) (r:=j*4) rfl Zrf (Zv rfl) (Zv rfl) Zrf Wq4 Wq1) ?_;refine dL (cn (vs:=BA.cells x) Zrf Zrf Zv0) (lL Zh (fun i v hiv=>fB (f:=BA.cells) Zrf hVx hiv)) rfl ?_;refine ZN fun b7=>?_
  refine dD (bV Zrf rfl rfl (fK x) Za (by exact rfl)) ?_;rintro _ _ ⟨rfl,rfl⟩;refine Z_6 ?_;refine fb (fp ([Y r]) rfl rfl HF Zi (fun w hi hin=>HC r x w hrk (aI hx) hin)) rfl ?_;rintro _ _ ⟨_,⟨rfl,rfl,hrk2⟩,rfl⟩;obtain⟨r2,hr2⟩:=Zgn (step r x);rw[hr2]at hrk2⊢;have hr3:r2=(l.take (j+1)).foldl step r0:=(by rw[←hr2,hr,nU hx]);refine Z_3 ?_;refine ZW ?_ ?_<;>intro hc8
  ·have hD:D x=false:=(by simpa using hc8);rw[hD]at hT;simp only[Bool.not_false,if_true]at hT;refine Z_5 ?_;refine Zy (cu (bb:=bs) (o:=0) (n:=l.length) (c:=c) (j:=i) (sz:=4) (r:=i*4) rfl Zrf (Zv rfl) (Zv rfl) Zrf Wq4 Wq1) ?_;refine dD (qQ (sz:=4) (n:=l.length) (vs:=BA.cells x) Zrf rfl rfl (fK x) Za rfl Wq1) ?_;rintro _ _ ⟨rfl,rfl⟩;rw[vm (f:=BA.cells) (sz:=4) Zrf (show i<V.length by omega)];refine Z_4 ?_;refine Zy (cX Zv0 Zv0 Zl) ?_;refine Z_6 ?_;refine Wq8 ?_;refine bY ((⟨(i+1,j+1),V.set i x,r2⟩:(Nat×Nat)×List BA×ρ)) ?_ ?_ ?_
   ·exact⟨⟨⟨hr3,hrk2⟩,by dsimp only;omega,by dsimp only;omega,by dsimp only;rw[aG,hV],by dsimp only;rw[List.drop_set_of_lt Wq1,hVd.2],by dsimp only;rw[List.take_succ_eq_append_getElem (by rw[aG];omega),List.take_set_of_le (aN _),List.getElem_set_self,ap];exact hT⟩,by dsimp only;omega⟩
   ·exact Zwk
   exact Zj
  have hD:D x=true:=(by simpa using hc8);rw[hD]at hT;simp only[Bool.not_true,Bool.false_eq_true,if_false]at hT;refine Z_5 ?_;refine Wq8 ?_;refine bY ((⟨(i,j+1),V,r2⟩:(Nat×Nat)×List BA×ρ)) ?_ ?_ ?_
  ·exact⟨⟨⟨hr3,hrk2⟩,by dsimp only;omega,by dsimp only;omega,hV,hVd.2,hT⟩,by dsimp only;omega⟩
  ·exact Zwk
  exact Zj
 simp only[ah]at hc5;obtain rfl:j=l.length:=Wq1;rw[List.drop_length]at hT;rw[List.filter_nil,ax]at hT;rw[bA]at hr;have hil:(l.filter fun x=> !D x).length=i:=(by rw[←hT,aC];omega);refine Z_9 ?_;refine Zy (kO (bb:=bs) (o:=0) (n:=l.length) (c:=c) (lo:=i) (hi:=l.length) (r:=0+i*4) (sz:=4) rfl Zrf (Zv rfl) (.inr ⟨_,_,rfl,(Zv rfl)⟩) (.inl ⟨rfl,rfl⟩) Wq1 Wq1 Wq1 Wq1) ?_;refine CF (c:=slv 186 4 (some ⟨bs,0,none⟩) l.length c (V.flatMap BA.cells)) (c':=slv 186 4 (some ⟨bs,0,none⟩) i c ((V.flatMap BA.cells).take (i*4))) Za rfl (zi Wq1) ?_
 refine dD (vT rfl Za rfl Zrf (sz:=4) rfl rfl Wq5 (by intro u hu;simp only[aK,aY,or_false]at hu;rcases hu with rfl|rfl|rfl|rfl<;>rfl) Wq1 Wq1) ?_;rintro _ _ ⟨rfl,rfl⟩;refine Z_6 ?_;refine Zy (gf i rfl Zrf (Zv rfl) (Zv rfl) (fun _=>by first|rfl|omega) Wq4) ?_;refine Z_4 ?_;refine Zrb ([_,_]) ?_;rw[hil,oI (f:=BA.cells) (sz:=4) Zrf,hT,←hr];exact df
theorem idxK_ok{ρ:Type}(Y:ρ→bJ)(ok:ρ→Prop)(step:ρ→Ky→ρ)(D:Ky→Bool)(f:FuncId)(caps:List Value)(HF:∀args w,(callFunc f args).run prog w= .ok (.enter f args) w)(l:List Ky)(hl:l.length≤1000000)
  (HC:∀(r:ρ) (x:Ky) (w:World),ok r→x∈l→Inv w (bK [Y r]) [Y r] w→Ctr prog f ([]++[.agg (cz x).toArray]++caps) w [Y r] (fun v cs=>v= .bool (D x)∧cs=[Y (step r x)]∧ok (step r x)))
  (A:Option Addr) (c:Nat) (r0:ρ) (hok:ok r0) (w:World) (hi:Inv w (bK [slv 98 2 A l.length c (l.flatMap cz),Y r0]) [slv 98 2 A l.length c (l.flatMap cz),Y r0] w):
  Ctr prog 254 [.slice A l.length c,.func (.func f) #[] caps.toArray] w [slv 98 2 A l.length c (l.flatMap cz),Y r0] (fun v cs=>∃r',v= .int .i64 (Cr (l.findIdx? D))∧r'=(l.take (idxN l.length (l.findIdx? D))).foldl step r0∧ok r'∧cs=[slv 98 2 A l.length c (l.flatMap cz),Y r']):=by
 refine bL func254 rfl ntmps254 rfl hi ?_;refine gL ?_;refine cw (fun q:Nat×ρ=>[(0,.slice A l.length c),(1,.func (.func f) #[] caps.toArray),(7,.int .i64 (l.length:Int)),(8,.int .i64 (q.1:Int))]) (fun q=>[slv 98 2 A l.length c (l.flatMap cz),Y q.2]) (fun q=>(q.1≤l.length∧q.2=(l.take q.1).foldl step r0∧ok q.2)∧l.findIdx? D=((l.drop q.1).findIdx? D).map (· +q.1)) (fun q=>l.length - q.1) (⟨0,r0⟩) ?_ ?_ ?_ ?_
 ·exact⟨⟨au _,rfl,hok⟩,by simp⟩
 ·exact Zwk
 ·exact Zu
 rintro⟨j,r⟩ ⟨⟨hj,hr,hrk⟩,hf⟩;dsimp only at hj hr hrk hf⊢;refine Z_6 ?_;refine ZW ?_ ?_<;>intro hc2
 ·simp only[ak]at hc2;have hjl:j<l.length:=Wq1;obtain⟨bs,rfl⟩:=gU (hi.get (show Has _ (slv 98 2 A l.length c (l.flatMap cz))from Zh)) Wq1;obtain⟨x,hx⟩:∃x,l[j]? =some x:=⟨_,ai hjl⟩;rw[oM hx,List.findIdx?_cons]at hf;refine p6 ?_;refine Zy (cu (bb:=bs) (o:=0) (n:=l.length) (c:=c) (j:=j) (sz:=2) (r:=j*2) rfl Zrf (Zv rfl) (Zv rfl) Zrf Wq4 Wq1) ?_;refine dL (cn (vs:=cz x) Zrf Zrf Zv0) (lL Zh (fun i v hiv=>fB (f:=cz) Zrf hx hiv)) rfl ?_;refine fb (fp ([Y r]) rfl rfl HF Zi (fun w hi hin=>HC r x w hrk (aI hx) hin)) rfl ?_;rintro _ _ ⟨_,⟨rfl,rfl,hrk2⟩,rfl⟩;obtain⟨r2,hr2⟩:=Zgn (step r x);rw[hr2]at hrk2⊢;have hr3:r2=(l.take (j+1)).foldl step r0:=(by rw[←hr2,hr,nU hx]);refine Z_2 ?_;refine ZW ?_ ?_<;>intro hc4
  ·rw[hc4,if_pos rfl]at hf;have hf:l.findIdx? D=some j:=(by rw[hf];simp);rw[hf];refine gE ?_;refine bN [slv 98 2 (some ⟨bs,0,none⟩) l.length c (l.flatMap cz),Y r2] Zj ?_;refine Zrb ([_,_]) ?_;exact⟨r2,rfl,hr3,hrk2,rfl⟩
  rw[hc4,if_neg cJ]at hf;refine Z_4 ?_;refine Wq8 ?_;refine bY ((⟨j+1,r2⟩:Nat×ρ)) ?_ ?_ ?_
  ·exact⟨⟨⟨by omega,hr3,hrk2⟩,by dsimp only;rw[hf,Option.map_map];congr 1;funext z;simp only[Function.comp];omega⟩,by dsimp only;omega⟩
  ·exact Zwk
  exact Zj
 simp only[ah]at hc2;obtain rfl:j=l.length:=Wq1;rw[List.drop_length]at hf;have hf:l.findIdx? D=none:=hf;rw[hf];refine fF ?_;refine Zrb ([_,_]) ?_;exact⟨r,rfl,by rw[bA]at hr;show r=(l.take l.length).foldl step r0;rw[bA];exact hr,hrk,rfl⟩
theorem delK_ok{ρ:Type}(Y:ρ→bJ)(ok:ρ→Prop)(step:ρ→Ky→ρ)(D:Ky→Bool)(f:FuncId)(caps:List Value)(HF:∀args w,(callFunc f args).run prog w= .ok (.enter f args) w)(l:List Ky)(hl:l.length≤1000000)
  (HC:∀(r:ρ) (x:Ky) (w:World),ok r→x∈l→Inv w (bK [Y r]) [Y r] w→Ctr prog f ([]++[.agg (cz x).toArray]++caps) w [Y r] (fun v cs=>v= .bool (D x)∧cs=[Y (step r x)]∧ok (step r x)))
  (A:Option Addr) (c:Nat) (r0:ρ) (hok:ok r0) (w:World) (hi:Inv w (bK [slv 98 2 A l.length c (l.flatMap cz),Y r0]) [slv 98 2 A l.length c (l.flatMap cz),Y r0] w):
  Ctr prog 205 [.slice A l.length c,.func (.func f) #[] caps.toArray] w [slv 98 2 A l.length c (l.flatMap cz),Y r0] (fun v cs=>v= .slice A (l.filter fun x=> !D x).length c∧cs=[slv 98 2 A (l.filter fun x=> !D x).length c ((l.filter fun x=> !D x).flatMap cz),Y (l.foldl step r0)]):=by
 have HI:=idxK_ok Y ok step D f caps HF l hl HC A c r0 hok;have hcap:=(hi.rd (.head (slv 98 2 A l.length c (l.flatMap cz)) _)).cap;have hfn:=r8 (D:=D) (l:=l);have hfs:=fun i=>pB (D:=D) (l:=l) (i:=i)
 obtain⟨o,ho⟩:=Zgn (l.findIdx? D);rw[ho]at HI hfn hfs;refine bL func205 rfl ntmps205 rfl hi ?_;refine Z_9 ?_;refine ZcL ([slv 98 2 A l.length c (l.flatMap cz),Y r0]) (fun w hi hin=>HI w hin) ?_;rintro _ _ ⟨_,⟨r1,rfl,hr1,hok1,rfl⟩,rfl⟩;refine dS ?_;refine ZW ?_ ?_<;>intro hc2
 ·obtain rfl:=zP hc2;obtain⟨hf1,hf2⟩:=hfn rfl;refine Z_8 ?_;refine Zrb ([_,_]) ?_;rw[hf1];have hr1:r1=(l.take l.length).foldl step r0:=hr1;rw[bA]at hr1;rw[←hr1];exact df
 obtain⟨i0,rfl⟩:=zO hc2;obtain⟨hf1,hf2,hf3⟩:=hfs i0 rfl;obtain⟨bs,rfl⟩:=gU (hi.get (show Has _ (slv 98 2 A l.length c (l.flatMap cz))from Zh)) Wq1;refine Z_6 ?_;refine Zy (cX (Zv rfl) (Zv rfl) (show _=((i0+1:Nat):Int)from by rw[show Cr (some i0)=(i0:Int)from rfl,bI];omega)) ?_;refine Z_4 ?_;refine cw (fun q:(Nat×Nat)×List Ky×ρ=>[(0,.slice (some ⟨bs,0,none⟩) l.length c),(1,.func (.func f) #[] caps.toArray),(5,.int .i64 (q.1.1:Int)),(6,.int .i64 (q.1.2:Int))]) (fun q=>[slv 98 2 (some ⟨bs,0,none⟩) l.length c (q.2.1.flatMap cz),Y q.2.2]) (fun q=>(q.2.2=(l.take q.1.2).foldl step r0∧ok q.2.2)∧q.1.1<q.1.2∧q.1.2≤l.length∧q.2.1.length=l.length∧q.2.1.drop q.1.2=l.drop q.1.2∧q.2.1.take q.1.1++(l.drop q.1.2).filter (fun x=> !D x)=l.filter (fun x=> !D x)) (fun q=>l.length - q.1.2) (⟨(i0,i0+1),l,r1⟩) ?_ ?_ ?_ ?_
 ·exact⟨⟨hr1,hok1⟩,Nat.lt_succ_self _,by dsimp only;omega,rfl,rfl,hf2⟩
 ·exact Zwk
 ·exact Zu
 rintro⟨⟨i,j⟩,V,r⟩ ⟨⟨hr,hrk⟩,hij,hj,hV,hVd,hT⟩;dsimp only at hr hrk hij hj hV hVd hT⊢;refine Z_9 ?_;refine ZW ?_ ?_<;>intro hc5
 ·simp only[ak]at hc5;have hjl:j<l.length:=Wq1;obtain⟨x,hx⟩:∃x,l[j]? =some x:=⟨_,ai hjl⟩;have hVx:V[j]? =some x:=(by have:=congrArg (fun z=>z[0]?) hVd;simp only[List.getElem?_drop,Nat.add_zero]at this;rw[this,hx]);rw[oM hx]at hT;rw[oM hx,oM hVx,List.cons.injEq]at hVd;rw[List.filter_cons]at hT;refine Z_8 ?_;refine Zy (cu (bb:=bs) (o:=0) (n:=l.length) (c:=c) (j:=j) (sz:=2) (r:=j*2) rfl Zrf (Zv rfl) (Zv rfl) Zrf Wq4 Wq1) ?_;refine dL (cn (vs:=cz x) Zrf Zrf Zv0) (lL Zh (fun i v hiv=>fB (f:=cz) Zrf hVx hiv)) rfl ?_;refine ZN fun b7=>?_
  refine dD (bV Zrf rfl rfl (rI x) Za (by exact rfl)) ?_;rintro _ _ ⟨rfl,rfl⟩;refine Z_6 ?_;refine fb (fp ([Y r]) rfl rfl HF Zi (fun w hi hin=>HC r x w hrk (aI hx) hin)) rfl ?_;rintro _ _ ⟨_,⟨rfl,rfl,hrk2⟩,rfl⟩;obtain⟨r2,hr2⟩:=Zgn (step r x);rw[hr2]at hrk2⊢;have hr3:r2=(l.take (j+1)).foldl step r0:=(by rw[←hr2,hr,nU hx]);refine Z_3 ?_;refine ZW ?_ ?_<;>intro hc8
  ·have hD:D x=false:=(by simpa using hc8);rw[hD]at hT;simp only[Bool.not_false,if_true]at hT;refine Z_5 ?_;refine Zy (cu (bb:=bs) (o:=0) (n:=l.length) (c:=c) (j:=i) (sz:=2) (r:=i*2) rfl Zrf (Zv rfl) (Zv rfl) Zrf Wq4 Wq1) ?_;refine dD (qQ (sz:=2) (n:=l.length) (vs:=cz x) Zrf rfl rfl (rI x) Za rfl Wq1) ?_;rintro _ _ ⟨rfl,rfl⟩;rw[vm (f:=cz) (sz:=2) Zrf (show i<V.length by omega)];refine Z_4 ?_;refine Zy (cX Zv0 Zv0 Zl) ?_;refine Z_6 ?_;refine Wq8 ?_;refine bY ((⟨(i+1,j+1),V.set i x,r2⟩:(Nat×Nat)×List Ky×ρ)) ?_ ?_ ?_
   ·exact⟨⟨⟨hr3,hrk2⟩,by dsimp only;omega,by dsimp only;omega,by dsimp only;rw[aG,hV],by dsimp only;rw[List.drop_set_of_lt Wq1,hVd.2],by dsimp only;rw[List.take_succ_eq_append_getElem (by rw[aG];omega),List.take_set_of_le (aN _),List.getElem_set_self,ap];exact hT⟩,by dsimp only;omega⟩
   ·exact Zwk
   exact Zj
  have hD:D x=true:=(by simpa using hc8);rw[hD]at hT;simp only[Bool.not_true,Bool.false_eq_true,if_false]at hT;refine Z_5 ?_;refine Wq8 ?_;refine bY ((⟨(i,j+1),V,r2⟩:(Nat×Nat)×List Ky×ρ)) ?_ ?_ ?_
  ·exact⟨⟨⟨hr3,hrk2⟩,by dsimp only;omega,by dsimp only;omega,hV,hVd.2,hT⟩,by dsimp only;omega⟩
  ·exact Zwk
  exact Zj
 simp only[ah]at hc5;obtain rfl:j=l.length:=Wq1;rw[List.drop_length]at hT;rw[List.filter_nil,ax]at hT;rw[bA]at hr;have hil:(l.filter fun x=> !D x).length=i:=(by rw[←hT,aC];omega);refine Z_9 ?_;refine Zy (kO (bb:=bs) (o:=0) (n:=l.length) (c:=c) (lo:=i) (hi:=l.length) (r:=0+i*2) (sz:=2) rfl Zrf (Zv rfl) (.inr ⟨_,_,rfl,(Zv rfl)⟩) (.inl ⟨rfl,rfl⟩) Wq1 Wq1 Wq1 Wq1) ?_;refine CF (c:=slv 98 2 (some ⟨bs,0,none⟩) l.length c (V.flatMap cz)) (c':=slv 98 2 (some ⟨bs,0,none⟩) i c ((V.flatMap cz).take (i*2))) Za rfl (zi Wq1) ?_
 refine dD (vT rfl Za rfl Zrf (sz:=2) rfl rfl Wq5 (by intro u hu;simp only[aK,aY,or_false]at hu;rcases hu with rfl|rfl<;>rfl) Wq1 Wq1) ?_;rintro _ _ ⟨rfl,rfl⟩;refine Z_6 ?_;refine Zy (gf i rfl Zrf (Zv rfl) (Zv rfl) (fun _=>by first|rfl|omega) Wq4) ?_;refine Z_4 ?_;refine Zrb ([_,_]) ?_;rw[hil,oI (f:=cz) (sz:=2) Zrf,hT,←hr];exact df
end Go.Proofs.YtakodpimdalajaaGreatDoor
namespace Go.Ink
open Go.RowKit
structure LS where
 A:Option Addr
 c:Nat
 ks:List Ky
def LS.v(x:LS):Value:= .slice x.A x.ks.length x.c
def LS.zero:LS:=⟨none,0,[]⟩
def lkV(LK:List (Ky×LS)):List (Ky×Value):=LK.map fun x=>(x.1,x.2.v)
structure CaX where
 ml:Nat
 Ac:Option Addr
 cc:Nat
 fl:Int
 LK:List (Ky×LS)
 Z:List BA
def BaSm(Z:List BA):Prop:=Z.length≤1000000∧∀x,x∈Z→x.b.code.length≤100000∧kp x.b.key
def kI(k:Ky)(x:LS):LS:=⟨x.A,x.c,x.ks.filter fun q=> !(q==k)⟩
def gq(LK:List (Ky×LS))(k:Ky):List (Ky×LS):=(oh LK k).map fun x=>(x.1,kI k x.2)
def uS(k:Ky)(f:Bool)(x:Ky×LS):Ky×LS:=(x.1,bif f then kI k x.2 else x.2)
def prL(k:Ky)(F:List Bool)(L0:List (Ky×LS)):List (Ky×LS):=List.zipWith (uS k) F L0
def itL(k:Ky)(F:List Bool)(L0:List (Ky×LS)):List (Bool×Ky×Value):=List.zipWith (fun f x=>(f,x.1,(uS k f x).2.v)) F L0
theorem Gz{α β:Type}(f:α→β)(L:List (Ky×α))(k:Ky):oh (L.map fun x=>(x.1,f x.2)) k=(oh L k).map fun x=>(x.1,f x.2):=by
 unfold oh;rw[jB (key:=fun x:Ky×α=>x.1) (fun x:Ky×α=>(x.1,f x.2)) Zrf];cases cN (fun x:Ky×α=>x.1) k L with
 |some j=>dsimp only;rw[ChangeMaps.map_eraseIdx]
 |none=>rfl
theorem qr{α:Type}(L:List (Ky×α))(k:Ky):(oh L k).Sublist L:=by
 unfold oh;cases cN (fun x:Ky×α=>x.1) k L with
 |some j=>exact List.eraseIdx_sublist _ _
 |none=>exact aQ _
theorem wM(k:Ky):∀L0:List (Ky×LS),itL k (List.replicate L0.length false) L0=(lkV L0).map fun x=>(false,x)
 |[]=>rfl
 |x::L0=>by
  show(false,x.1,(uS k false x).2.v)::itL k (List.replicate L0.length false) L0=_;rw[wM k L0]
  rfl
theorem wn(k:Ky):∀L0:List (Ky×LS),prL k (List.replicate L0.length false) L0=L0
 |[]=>rfl
 |x::L0=>by
  show uS k false x::prL k (List.replicate L0.length false) L0=_;rw[wn k L0]
  rfl
theorem itL_at{k:Ky}{F:List Bool}{L0:List (Ky×LS)}{j:Nat}{q:Ky}{v:Value}(h:(itL k F L0)[j]? =some (false,q,v)):∃x,L0[j]? =some x∧F[j]? =some false∧q=x.1∧v=x.2.v:=by
 unfold itL at h;rw[List.getElem?_zipWith]at h;cases hf:F[j]? with
 |none=>rw[hf]at h;cases h
 |some f=>
  cases hx:L0[j]? with
  |none=>rw[hf,hx]at h;cases h
  |some x=>
   rw[hf,hx]at h;simp only[aR,aW]at h;obtain⟨rfl,rfl,rfl⟩:=h;exact⟨x,rfl,rfl,rfl,rfl⟩
theorem xL{α β γ:Type}(g:α→β→γ):∀(F:List α) (L:List β) (j:Nat) (a:α) (b:β),L[j]? =some b→List.zipWith g (F.set j a) L=(List.zipWith g F L).set j (g a b)
 |[],L,j,a,b,_=>by simp
 |f::F,[],j,a,b,h=>by simp at h
 |f::F,x::L,0,a,b,h=>by
  obtain rfl:x=b:=by simpa using h
  rfl
 |f::F,x::L,j+1,a,b,h=>by
  show g f x::List.zipWith g (F.set j a) L=g f x::(List.zipWith g F L).set j (g a b);rw[xL g F L j a b (by simpa using h)]
theorem El{k:Ky}:∀{F:List Bool} {L0:List (Ky×LS)},F.length=L0.length→(∀x,x∈itL k F L0→x.1=true)→prL k F L0=L0.map fun x=>(x.1,kI k x.2)
 |[],[],_,_=>rfl
 |[],_::_,h,_=>by simp at h
 |_::_,[],h,_=>by simp at h
 |f::F,x::L0,h,ha=>by
  have hf:f=true:=ha (f,x.1,(uS k f x).2.v) (List.mem_cons_self ..);subst hf;show uS k true x::prL k F L0=_;rw[El (by simpa using h) (fun y hy=>ha y (bC _ hy))]
  rfl
theorem Ek(k:Ky):∀(F:List Bool) (L0:List (Ky×LS)),(itL k F L0).map (·.2)=lkV (prL k F L0)
 |[],L0=>by simp[itL,prL,lkV]
 |f::F,[]=>by simp[itL,prL,lkV]
 |f::F,x::L0=>by
  show(x.1,(uS k f x).2.v)::(itL k F L0).map (·.2)=((uS k f x).1,(uS k f x).2.v)::lkV (prL k F L0);rw[Ek k F L0]
  rfl
def xe(F:List Bool):Nat:=(F.filter fun f=> !f).length
theorem tY:∀{F:List Bool} {j:Nat},F[j]? =some false→xe (F.set j true)<xe F
 |[],j,h=>by simp at h
 |f::F,0,h=>by
  obtain rfl:f=false:=by simpa using h
  simp[xe]
 |f::F,j+1,h=>by
  have:=tY (F:=F) (j:=j) (by simpa using h);unfold xe at this⊢;rw[List.set_cons_succ,List.filter_cons,List.filter_cons];cases f<;>simp<;>exact this
theorem mM{α:Type}{l:List α}{j:Nat}{x:α}(h:l[j]? =some x):l.Perm (x::l.eraseIdx j):=by
 obtain⟨h1,rfl⟩:=ar.1 h;rw[List.eraseIdx_eq_take_drop_succ];refine List.Perm.trans ?_ List.perm_middle;rw[List.getElem_cons_drop h1,List.take_append_drop]
theorem qu{α:Type}{l:List α}{j:Nat}{x:α}(h:j<l.length):(l.set j x).Perm (x::l.eraseIdx j):=by
 have h1:=mM (l:=l.set j x) (j:=j) (x:=x) (by rw[List.getElem?_set_self h]);rwa[List.eraseIdx_set_eq]at h1
theorem pC{α:Type}{key:α→Ky}{k:Ky}{l:List α}{j:Nat}(h:cN key k l=some j):∃x,l[j]? =some x∧key x=k∧l.find? (fun x=>key x==k)=some x:=by
 obtain⟨hj,hk⟩:=fe h;refine⟨l[j],ai hj,hk,?_⟩;unfold cN at h;rw[List.findIdx?_eq_some_iff_getElem]at h;obtain⟨_,h1,h2⟩:=h;rw[List.find?_eq_some_iff_getElem];exact⟨h1,j,hj,rfl,fun i hi=>by simpa using h2 i hi⟩
theorem r7{α:Type}{key:α→Ky}{k:Ky}{l:List α}(h:cN key k l=none):l.find? (fun x=>key x==k)=none:=by
 rw[List.find?_eq_none];exact fun x hx e=>ii h x hx (by simpa using e)
section
variable {C:Cx} {Q:kM} {fr:Fr} {cs:List bJ} {c:bJ} {cin cin' rest r1:List bJ} {e:Exit} {b r:Nat} {IL:List (Bool×Ky×Value)} {cur:Option (Ky×Value)}
theorem wj(hd:Del cs (dg cin) rest)(hp:cin.Perm (c::cin'))(h:QOk C Q e fr (c::dg cin'::rest)):QOk C Q e fr cs:=fun a w hf hi=>h a w hf ((hi.perm hd.perm).Kg hp)
theorem jL(hd:Del cs (dg cin) r1)(hd2:Del r1 c rest)(hp:cin'.Perm (c::cin))(h:QOk C Q e fr (dg cin'::rest)):QOk C Q e fr cs:=fun a w hf hi=>h a w hf (((hi.perm (hd.perm.trans (hd2.perm.cons _))).perm (List.Perm.swap ..)).KE hp)
theorem nk(hd:Del cs (dg cin) rest)(hs:cin'.Sublist cin)(h:QOk C Q e fr (dg cin'::rest)):QOk C Q e fr cs:=fun a w hf hi=>h a w hf ((hi.perm hd.perm).KD hs)
theorem wk(hd:Del cs (itC b r IL cur) rest)(h:QOk C Q e fr (mpc b (IL.map (·.2))::rest)):QOk C Q e fr cs:=fun a w hf hi=>h a w hf ((hi.perm hd.perm).itEnd)
theorem wN(w:World):Inv w [] [dg []] w:=⟨dC.refl _ _,by simp[bK,dg,exC,bJ.bs],fun c hc=>by
 rw[aL]at hc;subst hc;exact⟨(),trivial,by simp[bK],fun c hc=>by cases hc⟩,fun b hb=>by simp[bK,dg,exC,bJ.bs]at hb⟩
theorem Dx(h:QOk C Q e fr (cs++[dg []])):QOk C Q e fr cs:=fun a w hf hi=>h a w hf (hi.more (wN w))
theorem nH{ops:Array Oper}{l:List Oper}(h:WL C ops Q l fr (cs++[dg []])):WL C ops Q l fr cs:=fun a w hf hi=>h a w hf (hi.more (wN w))
end
end Go.Ink
namespace Go.Proofs.YtakodpimdalajaaGreatDoor
open Go.RowKit Go.Ink Go.Proofs.Tryz
attribute [local irreducible] OpY bP
abbrev lsC(x:LS):bJ:=slv 98 2 x.A x.ks.length x.c (x.ks.flatMap cz)
abbrev baC(x:BA):bJ:=sl .u8 5 x.A (cF x.b.code).length x.c (cF x.b.code)
def lkC(LK:List (Ky×LS)):List bJ:=LK.map fun x=>lsC x.2
abbrev kyR(b:Nat)(k:Ky):bJ:=row b (cz k) 98
abbrev caR(bc:Nat)(r0 r1 r2 r3:Value):bJ:=row bc [r0,r1,r2,r3] 171
abbrev blC(X:CaX):bJ:=slv 186 4 X.Ac X.Z.length X.cc (X.Z.flatMap BA.cells)
abbrev caF(bc:Nat)(room:Int)(X:CaX):List bJ:=[caR bc (.int .i64 room) (.slice X.Ac X.Z.length X.cc) (.map (some X.ml)) (.int .i64 X.fl),blC X,dg (X.Z.map baC),mpc X.ml (lkV X.LK),dg (lkC X.LK)]
theorem DN(x:BA)(k:Ky)(bk:Nat)(w:World)(hi:Inv w (bK [kyR bk k]) [kyR bk k] w):
  Ctr prog 184 ([]++[.agg x.cells.toArray]++[.pointer (some ⟨bk,0,none⟩)]) w [kyR bk k] (fun v cs=>v= .bool (x.key==k)∧cs=[kyR bk k]∧True):=by
 refine bL func184 rfl ntmps184 rfl hi ?_;refine Z_2 ?_;refine ZO fun b2=>?_;refine Z_6 ?_;refine dL (cn (vs:=cz x.b.key) Zrf Zrf Zv0) (cI Zh rfl) rfl ?_;refine ZlR ?_;refine Zy (Cz rJ (yx x.b.key k) (Zv rfl) (Zv rfl)) ?_;refine Z_4 ?_;refine bN [kyR bk k] Zj ?_;refine Zrb ([row _ _ _]) ?_;exact⟨rfl,rfl,trivial⟩
theorem sh(bc:Nat)(r0 r2 r3:Value)(Ac:Option Addr)(cc:Nat)(Z:List BA)(hZ:Z.length≤1000000)(k:Ky)(w:World)(hi:Inv w (bK [caR bc r0 (.slice Ac Z.length cc) r2 r3,slv 186 4 Ac Z.length cc (Z.flatMap BA.cells)]) [caR bc r0 (.slice Ac Z.length cc) r2 r3,slv 186 4 Ac Z.length cc (Z.flatMap BA.cells)] w):
  Ctr prog 136 [.pointer (some ⟨bc,0,none⟩),.agg (cz k).toArray] w [caR bc r0 (.slice Ac Z.length cc) r2 r3,slv 186 4 Ac Z.length cc (Z.flatMap BA.cells)] (fun v cs=>v= .int .i64 (Cr (cN BA.key k Z))∧cs=[caR bc r0 (.slice Ac Z.length cc) r2 r3,slv 186 4 Ac Z.length cc (Z.flatMap BA.cells)]):=by
 refine bL func136 rfl ntmps136 rfl hi ?_;refine Z_2 ?_;refine ZO fun b3=>?_;refine Z_9 ?_;refine Zy (kP rfl) ?_;refine ZcL ([slv 186 4 Ac Z.length cc (Z.flatMap BA.cells),kyR b3 k]) (fun w hi hin=>Et (fun _:Unit=>kyR b3 k) (fun _=>True) (fun _ _=>()) (fun x=>x.key==k) 184 [.pointer (some ⟨b3,0,none⟩)] (fun _ _=>rfl) Z hZ (fun _ x w _ _ hin=>DN x k b3 w hin) Ac cc () trivial w hin) ?_;rintro _ _ ⟨_,⟨_,rfl, -, -,rfl⟩,rfl⟩;refine Z_4 ?_;refine bN [caR bc r0 (.slice Ac Z.length cc) r2 r3,slv 186 4 Ac Z.length cc (Z.flatMap BA.cells)] Zj ?_;refine Zrb ([_,_]) ?_;exact df
def FindK(o:Option BA)(F:List bJ)(v:Value)(cs:List bJ):Prop:=match o with
 |none=>v= .tuple #[.agg #[.int .u32 0,.int .u32 0,.slice none 0 0,.int .i64 0],.bool false]∧cs=F
 |some x=>∃A' c',v= .tuple #[.agg (BA.cells ⟨x.b,A',c'⟩).toArray,.bool true]∧cs=baC ⟨x.b,A',c'⟩::F
theorem AB(bc:Nat)(room:Int)(X:CaX)(hS:BaSm X.Z)(k:Ky)(w:World)(hi:Inv w (bK (caF bc room X)) (caF bc room X) w):
  Ctr prog 125 [.pointer (some ⟨bc,0,none⟩),.agg (cz k).toArray] w (caF bc room X) (fun v cs=>FindK (X.Z.find? fun x=>x.key==k) (caF bc room X) v cs):=by
 have hZ:=hS.1;have HP:=sh bc (.int .i64 room) (.map (some X.ml)) (.int .i64 X.fl) X.Ac X.cc X.Z hZ k;obtain⟨o,ho⟩:=Zgn (cN BA.key k X.Z);rw[ho]at HP;refine bL func125 rfl ntmps125 rfl hi ?_;refine Z_2 ?_;refine ZO fun b3=>?_;refine ZN fun b4=>?_
 refine Z_7 ?_;refine ZcM ([caR bc (.int .i64 room) (.slice X.Ac X.Z.length X.cc) (.map (some X.ml)) (.int .i64 X.fl),blC X]) (fun w hi hin=>HP w hin) ?_;refine dS ?_;refine ZW ?_ ?_<;>intro hc2
 ·obtain rfl:o=none:=(by cases o with|none=>rfl|some j=>(have h9:((j:Nat):Int)<0:=of_decide_eq_true hc2;omega));rw[r7 ho];refine Z_2 ?_;refine Zy (ix (vs:=[Value.int .u32 0,.int .u32 0,.slice none 0 0,.int .i64 0]) Zk (.inl ⟨_,rfl,rfl⟩)) ?_;refine ZM ?_;refine Z_5 ?_;refine bN (row b4 _ _::caF bc room X) Zj ?_;refine kV (cs':=caF bc room X) (.inl rfl) (List.Sublist.cons _ (aQ _)) rfl rfl rfl Zh Zrf Zrf ?_;exact df
 obtain⟨j,rfl⟩:∃j,o=some j:=(by cases o with|none=>simp[Cr]at hc2|some j=>exact⟨j,rfl⟩);obtain⟨x,hx,hxk,hxf⟩:=pC ho;rw[hxf];have hjl:=(ar.1 hx).1;obtain⟨bs,hbs⟩:=gU (hi.get (.tail _ (.head (blC X) _))) (show 0<X.Z.length by omega);have hxr:∀w0 S cs w,Ink.Inv w0 S cs w→Has cs (dg (X.Z.map baC))→Rd w .u8 x.A (cF x.b.code).length x.c (cF x.b.code):=(fun w0 S cs w h hh=>de (h.joinGet hh (bh.2 ⟨x,aI hx,rfl⟩)));have hxl:(cF x.b.code).length≤140737488355328:=(by rw[iV];have:=(hS.2 x (aI hx)).1;omega);refine Z_9 ?_;refine Zy (cu (bb:=bs) (o:=0) (n:=X.Z.length) (c:=X.cc) (j:=j) (sz:=4) (r:=j*4) rfl Zrf (hbs▸pY rfl) (Zv rfl) Zrf Wq4 Wq1) ?_;refine dL (cn (vs:=BA.cells x) Zrf Zrf (Zv rfl)) (lL (n:=X.Z.length) (c:=X.cc) (sz:=4) (e:=186) (xs:=X.Z.flatMap BA.cells) (hbs▸(show Has _ (blC X)from Zh)) (fun i v hiv=>fB (f:=BA.cells) Zrf hx hiv)) rfl ?_;refine ZN fun b7=>?_
 refine dD (bV Zrf rfl rfl (fK x) Za (by exact rfl)) ?_;rintro _ _ ⟨rfl,rfl⟩;refine Z_6 ?_;refine ZS (fun w hi=>mv x.A (cF x.b.code).length x.c (cF x.b.code) w (hxr _ _ _ _ hi Zh) hxl) ?_;rintro _ _ ⟨_,⟨A9,c9,rfl,rfl⟩,rfl⟩;refine Z_1 ?_;refine ZL ?_;refine Z_5 ?_;refine ZM ?_;refine Z_4 ?_;refine bN (row b4 _ _::baC ⟨x.b,A9,c9⟩::caF bc room X) Zj ?_;refine kV (cs':=baC ⟨x.b,A9,c9⟩::caF bc room X) (.inl rfl) (List.Sublist.cons _ (aQ _)) rfl rfl rfl Zh Zrf Zrf ?_;exact⟨A9,c9,rfl,rfl⟩
theorem Be(x k:Ky)(bk:Nat)(w:World)(hi:Inv w (bK [kyR bk k]) [kyR bk k] w):
  Ctr prog 206 ([]++[.agg (cz x).toArray]++[.pointer (some ⟨bk,0,none⟩)]) w [kyR bk k] (fun v cs=>v= .bool (x==k)∧cs=[kyR bk k]∧True):=by
 refine bL func206 rfl ntmps206 rfl hi ?_;refine Z_2 ?_;refine ZO fun b2=>?_;refine Z_7 ?_;refine Zy (Cz rJ (yx x k) (Zv rfl) (Zv rfl)) ?_;refine Z_4 ?_;refine bN [kyR bk k] Zj ?_;refine Zrb ([row _ _ _]) ?_;exact⟨rfl,rfl,trivial⟩
def LkSm(LK:List (Ky×LS)):Prop:=∀x,x∈LK→kp x.1∧x.2.ks.length≤1000000
theorem vO(bc ml:Nat)(r0 r1 r3:Value)(LK:List (Ky×LS))(hsm:LkSm LK)(k:Ky)(hk:kp k)(w:World)(hi:Inv w (bK [caR bc r0 r1 (.map (some ml)) r3,mpc ml (lkV LK),dg (lkC LK)]) [caR bc r0 r1 (.map (some ml)) r3,mpc ml (lkV LK),dg (lkC LK)] w):
  Ctr prog 151 [.pointer (some ⟨bc,0,none⟩),.agg (cz k).toArray] w [caR bc r0 r1 (.map (some ml)) r3,mpc ml (lkV LK),dg (lkC LK)] (fun _ cs=>cs=[caR bc r0 r1 (.map (some ml)) r3,mpc ml (lkV (gq LK k)),dg (lkC (gq LK k))]):=by
 obtain⟨L0,hL0⟩:=Zgn (oh LK k);have hU:gq LK k=L0.map fun x=>(x.1,kI k x.2):=by unfold gq;rw[hL0]
 have hd:oh (lkV LK) k=lkV L0:=by rw[←hL0];exact Gz LS.v LK k
 have hsub:(lkC L0).Sublist (lkC LK):=by rw[←hL0];exact(qr LK k).map _
 have hs0:LkSm L0:=fun x hx=>hsm x (by rw[←hL0]at hx;exact(qr LK k).subset hx)
 refine bL func151 rfl ntmps151 rfl hi ?_;refine Z_2 ?_;refine ZO fun b3=>?_;refine Z_3 ?_;refine bR ⟨fun j=>List.elem j [5],[]⟩ Zk ?_;refine gn ?_;refine ZFe 2 2 ?_;refine ZG 3 ?_;refine ZI 4 ?_;refine ce 5 Zk ?_;refine dp rfl rfl (t_mdel rfl rfl hk rfl wI Za) ZJ ?_;rintro _ _ ⟨rfl,rfl⟩;rw[hd];refine dr ?_;refine Z_3 ?_;refine sY (cin':=lkC (prL k (List.replicate L0.length false) L0)) Zd (by rw[wn];exact hsub) ?_;refine Z_4 ?_;refine fb (zd rfl rfl Za) rfl ?_;rintro _ _ ⟨b15,rfl,rfl⟩;rw[←wM k L0];refine Z_3 ?_;refine cw (fun F:List Bool=>[(0,.pointer (some ⟨bc,0,none⟩)),(3,.pointer (some ⟨b3,0,none⟩)),(15,.pointer (some ⟨b15,0,none⟩))]) (fun F=>[dg (lkC (prL k F L0)),caR bc r0 r1 (.map (some ml)) r3,itC ml b15 (itL k F L0) none,kyR b3 k]) (fun F=>F.length=L0.length) (fun F=>xe F) (List.replicate L0.length false) ?_ ?_ ?_ ?_
 ·exact aJ
 ·exact Zwk
 ·exact Zu
 rintro F hF;refine Z_2 ?_;refine fb (Dc rfl Za) rfl ?_;rintro _ _ ⟨o16,ho16,rfl,rfl⟩;refine Zy (Cw Zv0) ?_;refine Z_3 ?_;refine ZW ?_ ?_<;>intro hc3
 ·obtain⟨⟨j,q,v⟩,rfl⟩:=Option.isSome_iff_exists.1 hc3;have hj0:(itL k F L0)[j]? =some (false,q,v):=ho16;have hjl:=(ar.1 hj0).1;obtain⟨x,hx,hFj,rfl,rfl⟩:=itL_at hj0;have hjx:(lkC (prL k F L0))[j]? =some (lsC x.2):=(by unfold lkC prL;rw[aZ,List.getElem?_zipWith,hFj,hx];rfl);have hjp:=(ar.1 hjx).1;have hji:(ym (itL k F L0) (some (j,x.1,x.2.v)))[j]? =some (true,x.1,x.2.v):=(List.getElem?_set_self hjl);have hIT:((itL k F L0).set j (true,x.1,x.2.v)).set j (true,x.1,(kI k x.2).v)=itL k (F.set j true) L0:=(by rw[List.set_set];exact(xL _ F L0 j true x hx).symm);have hPR:(lkC (prL k (F.set j true) L0)).Perm (lsC (kI k x.2)::(lkC (prL k F L0)).eraseIdx j):=(by have e:lkC (prL k (F.set j true) L0)=(lkC (prL k F L0)).set j (lsC (kI k x.2)):=(by unfold lkC prL;rw[xL _ F L0 j true x hx,List.map_set];rfl);rw[e];exact qu hjp);refine Z_5 ?_;refine xO (c:=lsC x.2) (cin':=(lkC (prL k F L0)).eraseIdx j) Zd (mM hjx) ?_;refine dL (CB (Zv rfl)) (fun w hi=>(show vF ml b15 (ym (itL k F L0) (some (j,x.1,x.2.v))) (some (x.1,x.2.v)) w from hi.get (show Has _ (itC ml b15 (ym (itL k F L0) (some (j,x.1,x.2.v))) (DR (some (j,x.1,x.2.v))))from Zh))) rfl ?_;refine Z_2 ?_;refine ZN fun b4=>?_
  refine dD (bV (vs:=cz x.1) Zrf rfl rfl (rI x.1) Za (by exact rfl)) ?_;rintro _ _ ⟨rfl,rfl⟩;refine Z_3 ?_;refine bR ⟨fun j=>List.elem j [7,8],qY bc [r0,r1,.map (some ml),r3]++qY b4 (cz x.1)⟩ Zk ?_;refine gn ?_;refine ZFe 2 2 ?_;refine iC 3 rfl Zk Zk Zk (bO Zrf (Zv rfl)) Wq2 (fJ (bQ (t:=171) Zh) (bQ (t:=98) Zh)) rfl ?_;refine s6 4 rfl Zk Zk Zk (cn Zrf Zrf Zv0) (fun x hx=>List.mem_append_right _ (fY x hx)) (fJ (bQ (t:=171) Zh) (bQ (t:=98) Zh)) rfl ?_;refine ZE 5 ?_;refine cD 6 rfl Zk Zk Zk (kP rfl) rfl ?_;refine ce 7 Zk ?_;refine iZ rfl rfl (eB ([lsC x.2,kyR b3 k]) rfl (fun _ _=>rfl) Zi (fun w hi hin=>delK_ok (fun _:Unit=>kyR b3 k) (fun _=>True) (fun _ _=>()) (fun q=>q==k) 206 [.pointer (some ⟨b3,0,none⟩)] (fun _ _=>rfl) x.2.ks (hs0 x (aI hx)).2 (fun _ y w _ _ hin=>Be y k b3 w hin) x.2.A x.2.c () trivial w hin)) (fun _=>by rintro _ _ ⟨_,⟨rfl,rfl⟩,rfl⟩;exact fJ (bQ (t:=171) Zh) (bQ (t:=98) Zh)) rfl ?_;rintro _ _ ⟨_,⟨rfl,rfl⟩,rfl⟩;refine ce 8 Zk ?_;refine dp rfl rfl (t_itput hji rfl rfl rfl rfl wI Za) (fun _=>by rintro _ _ ⟨rfl,rfl⟩;exact fJ (bQ (t:=171) Zh) (bQ (t:=98) Zh)) ?_;rintro _ _ ⟨rfl,rfl⟩;refine dr ?_;refine Zo (jL (cin':=lkC (prL k (F.set j true) L0)) (c:=lsC (kI k x.2)) Zd Zd hPR ?_);refine j6 (c:=itC ml b15 (((itL k F L0).set j (true,x.1,x.2.v)).set j (true,x.1,(kI k x.2).v)) none) (c':=itC ml b15 (itL k (F.set j true) L0) none) Za rfl (fun w h=>by rw[←hIT];exact h) ?_
  refine bY ((F.set j true)) ?_ ?_ ?_
  ·exact⟨by rw[aG,hF],tY hFj⟩
  ·exact Zwk
  exact Zj
 obtain rfl:o16=none:=(by cases o16 with|none=>rfl|some z=>simp at hc3);have ho0:∀x,x∈itL k F L0→x.1=true:=ho16;refine Z_4 ?_;refine wk (IL:=itL k F L0) (cur:=none) (b:=ml) (r:=b15) Zd ?_;rw[Ek k F L0,El hF ho0];refine bN [caR bc r0 r1 (.map (some ml)) r3,mpc ml (lkV (L0.map fun x=>(x.1,kI k x.2))),dg (lkC (L0.map fun x=>(x.1,kI k x.2)))] Zj ?_;refine iF (cs':=[caR bc r0 r1 (.map (some ml)) r3,mpc ml (lkV (L0.map fun x=>(x.1,kI k x.2))),dg (lkC (L0.map fun x=>(x.1,kI k x.2)))]) (.inr rfl) Zu rfl ?_;rw[hU]
end Go.Proofs.YtakodpimdalajaaGreatDoor
namespace Go.Ink
open Go.RowKit
def xE(keys:List Ky)(LK:List (Ky×LS)):Prop:=∀x,x∈LK→kp x.1∧x.2.ks.Nodup∧∀q,q∈x.2.ks→q∈keys
theorem wz:∀{l m:List Ky},l.Nodup→(∀x,x∈l→x∈m)→l.length≤m.length
 |[],m,_,_=>au _
 |a::l,m,hn,hs=>by
  obtain⟨h1,h2⟩:=List.nodup_cons.1 hn;have hm:=hs a (List.mem_cons_self ..);have:=wz (l:=l) (m:=m.erase a) h2 (fun x hx=>(List.mem_erase_of_ne (fun e=>h1 (by rw[←e];exact hx))).2 (hs x (bC _ hx)));rw[List.length_erase_of_mem hm]at this;have hp:=List.length_pos_of_mem hm;simp only[aj];omega
structure oS(room:Int)(X:CaX):Prop where
 rm:1≤room∧room≤1024
 len:(X.Z.length:Int)≤room
 ba:∀x,x∈X.Z→x.b.code.length≤100000∧kp x.b.key
 lk:xE (X.Z.map BA.key) X.LK
theorem xE.sm{keys:List Ky}{LK:List (Ky×LS)}(h:xE keys LK)(hk:keys.length≤1000000):∀x,x∈LK→kp x.1∧x.2.ks.length≤1000000:=fun x hx=>⟨(h x hx).1,aV (wz (h x hx).2.1 (h x hx).2.2) hk⟩
theorem xE.unlink{keys:List Ky}{LK:List (Ky×LS)}(h:xE keys LK)(k:Ky):xE keys (gq LK k)∧∀x,x∈gq LK k→∀q,q∈x.2.ks→q≠k:=by
 refine⟨fun x hx=>?_,fun x hx q hq=>?_⟩
 ·obtain⟨y,hy,rfl⟩:=bh.1 hx;obtain⟨h1,h2,h3⟩:=h y ((qr LK k).subset hy);exact⟨h1,h2.filter _,fun q hq=>h3 q (List.mem_filter.1 hq).1⟩
 obtain⟨y,hy,rfl⟩:=bh.1 hx;have:=(List.mem_filter.1 hq).2;simpa using this
theorem xE.mono{keys keys':List Ky}{LK:List (Ky×LS)}(h:xE keys LK)(hs:∀q,q∈keys→q∈keys'):xE keys' LK:=fun x hx=>⟨(h x hx).1,(h x hx).2.1,fun q hq=>hs q ((h x hx).2.2 q hq)⟩
theorem Bc{LK:List (Ky×LS)}{k:Ky}{x:Ky×LS}(hx:x∈gq LK k):∃y,y∈LK∧∀q,q∈x.2.ks→q∈y.2.ks:=by
 obtain⟨y,hy,rfl⟩:=bh.1 hx;exact⟨y,(qr LK k).subset hy,fun q hq=>(List.mem_filter.1 hq).1⟩
theorem oS.sm{room:Int}{X:CaX}(h:oS room X):BaSm X.Z:=⟨by have:=h.len;have:=h.rm;omega,h.ba⟩
theorem oS.none{room:Int}(h:1≤room∧room≤1024)(ml:Nat)(A:Option Addr)(c:Nat)(fl:Int):oS room ⟨ml,A,c,fl,[],[]⟩:=
 ⟨h,(by show((0:Nat):Int)≤room;omega),(fun y hy=>nomatch hy),(fun y hy=>nomatch hy)⟩
theorem oS.set{room:Int}{X:CaX}(h:oS room X){j:Nat}{x t:BA}(hx:X.Z[j]? =some x)(hk:x.key=t.key)(ht:t.b.code.length≤100000∧kp t.b.key)(ml:Nat)(A:Option Addr)(c:Nat)(fl:Int):oS room ⟨ml,A,c,fl,gq X.LK t.key,X.Z.set j t⟩:=by
 have hjl:=(ar.1 hx).1;have e9:(X.Z.set j t).map BA.key=X.Z.map BA.key:=by
  rw[List.map_set];apply List.ext_getElem?;intro i;rw[List.getElem?_set];by_cases hij:j=i
  ·subst hij;rw[if_pos rfl,if_pos (by simpa using hjl),aZ,hx,←hk]
   rfl
  rw[if_neg hij]
 refine⟨h.rm,by dsimp only;rw[aG];exact h.len,fun y hy=>?_,?_⟩
 ·rcases List.mem_or_eq_of_mem_set hy with hy|rfl
  ·exact h.ba y hy
  exact ht
 dsimp only;rw[e9];exact(h.lk.unlink t.key).1
theorem oS.push{room:Int}{X:CaX}(h:oS room X)(hlt:(X.Z.length:Int)<room){t:BA}(ht:t.b.code.length≤100000∧kp t.b.key)(A:Option Addr)(c:Nat):oS room ⟨X.ml,A,c,X.fl,X.LK,X.Z++[t]⟩:=by
 refine⟨h.rm,(by simp;omega),fun y hy=>?_,h.lk.mono fun q hq=>by rw[List.map_append];exact List.mem_append_left _ hq⟩;rcases aS.1 hy with hy|hy
 ·exact h.ba y hy
 rw[aL]at hy;subst hy;exact ht
def mn(D:BA→Bool)(r:Int×List (Ky×LS))(x:BA):Int×List (Ky×LS):=bif D x then(IntKind.i64.wrap (r.1+1),gq r.2 x.key)else r
theorem sb(D:BA→Bool)(keys:List Ky):∀(l:List BA) (r:Int×List (Ky×LS)),0≤r.1→r.1+(l.length:Int)≤1000000000→xE keys r.2→(l.foldl (mn D) r).1=r.1+(l.filter D).length∧xE keys (l.foldl (mn D) r).2∧(∀y,y∈(l.foldl (mn D) r).2→∃z,z∈r.2∧∀q,q∈y.2.ks→q∈z.2.ks)∧
  ∀y,y∈(l.foldl (mn D) r).2→∀q,q∈y.2.ks→∀x,x∈l→D x=true→q≠x.key
 |[],r,_,_,h=>⟨by simp,h,fun y hy=>⟨y,hy,fun q hq=>hq⟩,fun _ _ _ _ x hx=>by cases hx⟩
 |x::l,r,h0,hb,h=>by
  have hb2:r.1+(l.length:Int)+1≤1000000000:=by simp only[aj]at hb;omega
  rw[List.foldl_cons,List.filter_cons];cases hD:D x with
  |false=>
   have e:mn D r x=r:=by unfold mn;rw[hD,aa]
   rw[e];obtain⟨h1,h2,h3,h4⟩:=sb D keys l r h0 Wq1 h;refine⟨by simpa using h1,h2,h3,fun y hy q hq z hz hzD=>?_⟩;rcases aK.1 hz with rfl|hz
   ·rw[hD]at hzD;cases hzD
   exact h4 y hy q hq z hz hzD
  |true=>
   have e:mn D r x=(r.1+1,gq r.2 x.key):=by unfold mn;rw[hD,ac,show IntKind.i64.wrap (r.1+1)=r.1+1 by rw[bI];omega]
   rw[e];obtain⟨u1,u2⟩:=h.unlink x.key;obtain⟨h1,h2,h3,h4⟩:=sb D keys l (r.1+1,gq r.2 x.key) (by dsimp only;omega) (by dsimp only;omega) u1;refine⟨by rw[h1,if_pos rfl];simp only[aj];omega,h2,fun y hy=>?_,fun y hy q hq z hz hzD=>?_⟩
   ·obtain⟨z,hz,hq⟩:=h3 y hy;obtain⟨z',hz',hq'⟩:=Bc hz;exact⟨z',hz',fun q h=>hq' q (hq q h)⟩
   rcases aK.1 hz with rfl|hz
   ·obtain⟨z',hz',hq'⟩:=h3 y hy;exact u2 z' hz' q (hq' q hq)
   exact h4 y hy q hq z hz hzD
theorem put_at{α:Type}{key:α→Ky}{room:Int}{l:List α}{t:α}{j:Nat}(h:cN key (key t) l=some j):ri key room l t=l.set j t:=by unfold ri;rw[h]
theorem GD{α:Type}{key:α→Ky}{room:Int}{l:List α}{t:α}(h:cN key (key t) l=none)(h2:room≤(l.length:Int)):ri key room l t=[t]:=by unfold ri;rw[h];dsimp only;rw[ay h2,ac]
theorem GC{α:Type}{key:α→Ky}{room:Int}{l:List α}{t:α}(h:cN key (key t) l=none)(h2:¬room≤(l.length:Int)):ri key room l t=l++[t]:=by unfold ri;rw[h];dsimp only;rw[az h2,aa]
theorem place_b(k:Ky)(Z:List BA):cN Blk.key k (Z.map BA.b)=cN BA.key k Z:=jB (key:=BA.key) (key':=Blk.key) BA.b Zrf k Z
end Go.Ink
namespace Go.Proofs.YtakodpimdalajaaGreatDoor
open Go.RowKit Go.Ink Go.Proofs.Tryz
attribute [local irreducible] OpY bP
theorem cnew_ok(room:Int)(w:World):Ctr prog 42 [.int .i64 room] w [] (fun v cs=>if 1≤room∧room≤1024 then∃bc ml,v= .tuple #[.pointer (some ⟨bc,0,none⟩),.int .i64 0]∧cs=caF bc room ⟨ml,none,0,0,[],[]⟩else v= .tuple #[.pointer none,.int .i64 1]∧cs=[]):=by
 refine bL func42 rfl ntmps42 rfl (Inv.start w) ?_;refine vz ?_;refine ZW ?_ ?_<;>intro hc1
 ·have hnr:¬(1≤room∧room≤1024):=(by simp only[Bool.or_eq_true,ak]at hc1;omega);refine Z_8 ?_;refine jh ?_;rw[if_neg hnr];exact df
 have hnr:1≤room∧room≤1024:=(by simp only[bj,ah]at hc1;omega);refine Z_4 ?_;refine dy 186 4 ?_;refine nH ?_;refine nH ?_;refine ZA ?_;refine fb (xV rfl) rfl ?_;rintro _ _ ⟨b11,rfl,rfl⟩;refine ZA ?_;refine ZO fun b13=>?_
 refine Z_5 ?_;refine bN (caF b13 room ⟨b11,none,0,0,[],[]⟩) Zj ?_;refine rc (cs':=caF b13 room ⟨b11,none,0,0,[],[]⟩) (.inl rfl) (aQ _) rfl rfl rfl ?_;rw[if_pos hnr];exact⟨b13,b11,rfl,rfl⟩
theorem clen_ok(bc:Nat)(room:Int)(X:CaX)(w:World)(hi:Inv w (bK (caF bc room X)) (caF bc room X) w):Ctr prog 104 [.pointer (some ⟨bc,0,none⟩)] w (caF bc room X) (fun v cs=>v= .int .i64 (X.Z.length:Int)∧cs=caF bc room X):=by
 refine bL func104 rfl ntmps104 rfl hi ?_;refine p5 ?_;refine xH (cs':=caF bc room X) (.inl rfl) (aQ _) rfl rfl ?_;exact df
theorem Fq(bc:Nat)(room:Int)(X:CaX)(w:World)(hi:Inv w (bK (caF bc room X)) (caF bc room X) w):Ctr prog 54 [.pointer (some ⟨bc,0,none⟩)] w (caF bc room X) (fun v cs=>∃ml fl,v= .int .i64 (X.Z.length:Int)∧cs=caF bc room ⟨ml,none,0,fl,[],[]⟩):=by
 refine bL func54 rfl ntmps54 rfl hi ?_;refine vz ?_;refine dy 186 4 ?_;refine nH ?_;refine nH ?_;refine Z_2 ?_;refine fb (xV rfl) rfl ?_;rintro _ _ ⟨b11,rfl,rfl⟩;refine Z_2 ?_;refine ZL ?_;refine Z_2 ?_;refine ZL ?_;refine Z_8 ?_;refine Zy (cX Zv0 Zv0 rfl) ?_;refine Z_2 ?_;refine ZL ?_;refine Z_9 ?_;refine bN (caF bc room ⟨b11,none,0,IntKind.i64.wrap (X.fl+1),[],[]⟩) Zj ?_;refine xH (cs':=caF bc room ⟨b11,none,0,IntKind.i64.wrap (X.fl+1),[],[]⟩) (.inl rfl) (aQ _) rfl rfl ?_;exact⟨_,_,rfl,rfl⟩
abbrev caL(bc:Nat)(room:Int)(ml:Nat)(A:Option Addr)(cc:Nat)(fl:Int)(n:Nat)(xs:List Value)(cin:List bJ)(LK:List (Ky×LS)):List bJ:=[caR bc (.int .i64 room) (.slice A n cc) (.map (some ml)) (.int .i64 fl),slv 186 4 A n cc xs,dg cin,mpc ml (lkV LK),dg (lkC LK)]
theorem cput_ok(bc:Nat)(room:Int)(X:CaX)(hX:oS room X)(t:BA)(ht:t.b.code.length≤100000∧kp t.b.key)(hc1:1≤t.b.count)(hne:t.b.code≠[])(w:World)(hi:Inv w (bK (caF bc room X)) (caF bc room X) w)(hR:∀w',dC (bK (caF bc room X)) w w'→Rd w' .u8 t.A (cF t.b.code).length t.c (cF t.b.code)):
  Ctr prog 130 [.pointer (some ⟨bc,0,none⟩),.agg t.cells.toArray] w (caF bc room X) (fun _ cs=>∃X':CaX,cs=caF bc room X'∧oS room X'∧X'.Z.map BA.b=ri Blk.key room (X.Z.map BA.b) t.b):=by
 have hS:=hX.sm;have hZ:=hS.1;have hlen:=hX.len;obtain⟨hr1,hr2⟩:=hX.rm;have hb8:(cF t.b.code).length≤140737488355328:=by rw[iV];omega
 have hb0:(cF t.b.code).length≠0:=by rw[iV];intro e;exact hne (List.eq_nil_of_length_eq_zero Wq1)
 have HP:=sh bc (.int .i64 room) (.map (some X.ml)) (.int .i64 X.fl) X.Ac X.cc X.Z hZ t.b.key;have HU:=vO bc X.ml (.int .i64 room) (.slice X.Ac X.Z.length X.cc) (.int .i64 X.fl) X.LK (hX.lk.sm (by simpa using hZ)) t.b.key ht.2;have HF:=Fq bc room X;obtain⟨o,ho⟩:=Zgn (cN BA.key t.b.key X.Z);rw[ho]at HP;have hob:cN Blk.key t.b.key (X.Z.map BA.b)=o:=by rw[place_b,ho]
 obtain⟨ml,Ac,cc,fl,LK,Z⟩:=X;dsimp only at hS hZ hlen HP HU HF ho hob;refine bL func130 rfl ntmps130 rfl hi ?_;refine Z_2 ?_;refine ZO fun b3=>?_;refine vz ?_;refine dw rfl ((by rw[bj];exact⟨az Wq1,beq_eq_false_iff_ne.2 Wq1⟩)) ?_;refine Z_6 ?_;refine ZS (fun w hi=>mv t.A (cF t.b.code).length t.c (cF t.b.code) w (hR w hi.JJ) hb8) ?_;rintro _ _ ⟨_,⟨A9,c9,rfl,rfl⟩,rfl⟩;refine Z_1 ?_;refine ZL ?_;refine Z_7 ?_;refine dL (cn (vs:=cz t.b.key) Zrf Zrf Zv0) (cI Zh rfl) rfl ?_;refine ZcM ([caR bc (.int .i64 room) (.slice Ac Z.length cc) (.map (some ml)) (.int .i64 fl),slv 186 4 Ac Z.length cc (Z.flatMap BA.cells)]) (fun w hi hin=>HP w hin) ?_;refine Z_9 ?_;refine ZW ?_ ?_<;>intro hc5
 ·obtain⟨j,rfl⟩:∃j,o=some j:=(by cases o with|none=>cases hc5|some j=>exact⟨j,rfl⟩);obtain⟨x,hx,hxk, -⟩:=pC ho;have hjl:=(ar.1 hx).1;obtain⟨bs,rfl⟩:=gU (hi.get (.tail _ (.head (slv 186 4 Ac Z.length cc (Z.flatMap BA.cells)) _))) (show 0<Z.length by omega);refine Z_4 ?_;refine dL (cn (vs:=cz t.b.key) Zrf Zrf Zv0) (cI Zh rfl) rfl ?_;refine ZcL ([caR bc (.int .i64 room) (.slice (some ⟨bs,0,none⟩) Z.length cc) (.map (some ml)) (.int .i64 fl),mpc ml (lkV LK),dg (lkC LK)]) (fun w hi hin=>HU w hin) ?_;rintro _ _ ⟨_,rfl,rfl⟩;refine Z_3 ?_;refine bR ⟨fun j=>List.elem j [7],[]⟩ Zk ?_;refine gn ?_;refine ZFe 2 1 ?_;refine ZG 3 ?_;refine ZE 4 ?_;refine ZI 5 ?_;refine cD 6 rfl Zk Zk Zk (cu (bb:=bs) (o:=0) (n:=Z.length) (c:=cc) (j:=j) (sz:=4) (r:=j*4) rfl Zrf (Zv rfl) (Zv rfl) Zrf Wq4 Wq1) rfl ?_;refine ce 7 Zk ?_;refine dp rfl rfl (qQ (sz:=4) (n:=Z.length) (c:=cc) (vs:=BA.cells ⟨t.b,A9,c9⟩) Zrf rfl rfl (fK _) Za rfl Wq1) ZJ ?_;rintro _ _ ⟨rfl,rfl⟩;rw[vm (f:=BA.cells) (sz:=4) Zrf hjl];refine dr ?_;refine Z_8 ?_;refine wj (cin:=Z.map baC) (c:=baC x) (cin':=(Z.map baC).eraseIdx j) Zd (mM (by rw[aZ,hx];rfl)) ?_;refine jL (cin:=(Z.map baC).eraseIdx j) (c:=baC ⟨t.b,A9,c9⟩) (cin':=(Z.set j ⟨t.b,A9,c9⟩).map baC) Zd Zd (by rw[List.map_set];exact qu (by simpa using hjl)) ?_;refine bN (caL bc room ml (some ⟨bs,0,none⟩) cc fl Z.length ((Z.set j ⟨t.b,A9,c9⟩).flatMap BA.cells) ((Z.set j ⟨t.b,A9,c9⟩).map baC) (gq LK t.b.key)) Zj ?_;refine xH (cs':=caL bc room ml (some ⟨bs,0,none⟩) cc fl Z.length ((Z.set j ⟨t.b,A9,c9⟩).flatMap BA.cells) ((Z.set j ⟨t.b,A9,c9⟩).map baC) (gq LK t.b.key)) (.inl rfl) (aQ _) rfl rfl ?_;exact⟨⟨ml,some ⟨bs,0,none⟩,cc,fl,gq LK t.b.key,Z.set j ⟨t.b,A9,c9⟩⟩,by simp only[caF,caL,blC,aG],hX.set (t:=⟨t.b,A9,c9⟩) hx hxk ht _ _ _ _,by rw[put_at hob,List.map_set]⟩
 obtain rfl:o=none:=(by cases o with|none=>rfl|some j=>have h9:¬(0:Int)≤((j:Nat):Int):=of_decide_eq_false hc5;omega);refine Z_2 ?_;refine cW (fun Y:CaX=>[(0,.pointer (some ⟨bc,0,none⟩)),(3,.pointer (some ⟨b3,0,none⟩))]) (fun Y=>caF bc room Y++[row b3 (BA.cells ⟨t.b,A9,c9⟩) 186,baC ⟨t.b,A9,c9⟩]) (fun Y=>oS room Y∧(Y.Z.length:Int)<room∧Y.Z.map BA.b++[t.b]=ri Blk.key room (Z.map BA.b) t.b) ?_ ?_
 ·refine Zs (bR ⟨fun j=>List.elem j [],[]⟩ Zk ?_);refine gn ?_;refine ZFe 2 1 ?_;refine ZG 3 ?_;refine ZE 4 ?_;refine ZE 5 ?_;refine ZE 6 ?_;refine ZFe 7 0 ?_;refine ZG 8 ?_;refine ZE 9 ?_;refine dr ?_;refine Zt ?_;refine ZW ?_ ?_<;>intro hc9
  ·have hfull:room≤((Z.map BA.b).length:Int):=(by rw[List.length_map];exact of_decide_eq_true hc9);refine Z_2 ?_;refine ZcL (caF bc room ⟨ml,Ac,cc,fl,LK,Z⟩) (fun w hi hin=>HF w hin) ?_;rintro _ _ ⟨_,⟨ml2,fl2,rfl,rfl⟩,rfl⟩;refine Zn ?_;refine bY ((⟨ml2,none,0,fl2,[],[]⟩:CaX)) ?_ ?_ ?_
   ·exact⟨oS.none ⟨hr1,hr2⟩ _ _ _ _,by show((0:Nat):Int)<room;omega,by rw[GD hob hfull];rfl⟩
   ·exact Zwk
   exact Zj
  have hfull:¬room≤((Z.map BA.b).length:Int):=(by rw[List.length_map];exact of_decide_eq_false hc9);refine Zc ?_;refine bY ((⟨ml,Ac,cc,fl,LK,Z⟩:CaX)) ?_ ?_ ?_
  ·exact⟨hX,by rw[List.length_map]at hfull;show((Z.length:Nat):Int)<room;omega,by rw[GC hob hfull]⟩
  ·exact Zwk
  exact Zj
 rintro⟨ml2,Ac2,cc2,fl2,LK2,Z2⟩ ⟨hY,hlt,hput⟩;dsimp only at hlt hput⊢;refine Zs (bR ⟨fun j=>List.elem j [7,10],qY b3 (BA.cells ⟨t.b,A9,c9⟩)⟩ Zk ?_);refine gn ?_;refine ZE 2 ?_;refine ZFe 3 1 ?_;refine ZG 4 ?_;refine s6 5 rfl Zk Zk Zk (cn Zrf Zrf Zv0) (fun x hx=>fY x hx) (bQ (t:=186) Zh) rfl ?_;refine ce 6 Zk ?_;refine iZ rfl rfl (da rfl rfl Zrf Zrf rfl rfl rfl) (fun _=>by rintro _ _ ⟨b54,rfl,rfl⟩;exact bQ (t:=186) Zh) rfl ?_;rintro _ _ ⟨b54,rfl,rfl⟩;refine ce 7 Zk ?_;refine iZ rfl rfl (cC (n:=Z2.length) (e:=186) (sz:=4) (bytes:=40) rfl rfl Za rfl rfl (fun w hi=>hi.rd (show Has _ (slv 186 4 (some ⟨b54,0,none⟩) 1 1 (BA.cells ⟨t.b,A9,c9⟩))from Zh)) (fK ⟨t.b,A9,c9⟩) g9 Wq1) (fun _=>by rintro _ _ ⟨A2,c2,rfl,rfl⟩;exact bQ (t:=186) Zh) rfl ?_;rintro _ _ ⟨A2,c2,rfl,rfl⟩;rw[show Z2.flatMap BA.cells++BA.cells ⟨t.b,A9,c9⟩=(Z2++[(⟨t.b,A9,c9⟩:BA)]).flatMap BA.cells by simp,show Z2.length+1=(Z2++[(⟨t.b,A9,c9⟩:BA)]).length by simp];refine ZE 8 ?_;refine ZFe 9 1 ?_;refine ce 10 Zk ?_;refine dp rfl rfl (fc Zrf rfl rfl rfl Za Zp) (fun _=>by rintro _ _ ⟨rfl,rfl⟩;exact bQ (t:=186) Zh) ?_;rintro _ _ ⟨rfl,rfl⟩;refine dr ?_;refine Z_7 ?_;refine jL (cin:=Z2.map baC) (c:=baC ⟨t.b,A9,c9⟩) (cin':=(Z2++[(⟨t.b,A9,c9⟩:BA)]).map baC) Zd Zd (by rw[List.map_append];exact List.perm_append_singleton _ _) ?_;refine bN (caF bc room ⟨ml2,A2,c2,fl2,LK2,Z2++[(⟨t.b,A9,c9⟩:BA)]⟩) Zj ?_;refine xH (cs':=caF bc room ⟨ml2,A2,c2,fl2,LK2,Z2++[(⟨t.b,A9,c9⟩:BA)]⟩) (.inl rfl) (aQ _) rfl rfl ?_;exact⟨⟨ml2,A2,c2,fl2,LK2,Z2++[(⟨t.b,A9,c9⟩:BA)]⟩,rfl,hY.push (t:=⟨t.b,A9,c9⟩) hlt ht _ _,by rw[List.map_append];exact hput⟩
end Go.Proofs.YtakodpimdalajaaGreatDoor
