/- Lemmas. -/
import Derived.Test.YtepfimeihngjoaaGreatDoorYan
import Derived.Test.YtepfimeihngjoaaGreatDoorYao
set_option linter.all false
set_option maxRecDepth 100000
set_option maxHeartbeats 4000000
namespace Go.Ink
open List renaming length→J, replicate→R9
open IntKind renaming wrap→V9
open Go.RowKit Go.Proofs.Tryz
section
attribute [local irreducible] UL bM
def EM(s:St)(r:(Int×Int)×HM):St×Int:=bif r.1.1 !=1 then(s,0)else bif nc r.2.words then(oO r.2.words s,r.1.2)else(s,0)
def iq(C:List HI)(s:St):St×Int:=EM s (jU C 4096 ⟨R9 16 0,Tm s,0⟩)
theorem Fo{C:List HI}(hC:fY C):∀(f:Nat) (m:HM),0<=(jU C f m).1.2/\(jU C f m).1.2<=4294967295
 |0,m=>z32
 |f+1,m=>by
  show 0<=(bif(SW C m).1==0 then jU C f (SW C m).2 else bif(SW C m).1==1 then((1,(C.getD (SW C m).2.pc.toNat HI.zero).imm),(SW C m).2)else(((SW C m).1,0),(SW C m).2)).1.2/\(bif(SW C m).1==0 then jU C f (SW C m).2 else bif(SW C m).1==1 then((1,(C.getD (SW C m).2.pc.toNat HI.zero).imm),(SW C m).2)else(((SW C m).1,0),(SW C m).2)).1.2<=_;cases(SW C m).1==0 with
  |true=>exact Fo hC f _
  |false=>cases(SW C m).1==1 with
   |true=>
    show 0<=(C.getD (SW C m).2.pc.toNat HI.zero).imm/\(C.getD (SW C m).2.pc.toNat HI.zero).imm<=_;rw[aM];by_cases hl:(SW C m).2.pc.toNat<J C
    .rw[aj hl];exact(hC _ (List.getElem_mem hl)).imm
    rw[List.getElem?_eq_none O];exact⟨by decide,by decide⟩
   |false=>exact z32
variable{s:St}
def cM(b:Li):Nat->Nat->List (Int×Int)×Nat×Bool
 |0,sz=>([],sz,false)
 |k+1,sz=>match dH (b.drop sz)with
  |none=>([],sz,false)
  |some (i,z)=>bif dy i.1 then(bif gg i.1 then([i],sz+z,true)else(i::(cM b k (sz+z)).1,(cM b k (sz+z)).2.1,(cM b k (sz+z)).2.2))else([],sz,false)
inductive lH (b:Li):Nat->List (Int×Int)->Nat->Prop
 |nil (o:Nat):lH b o [] o
 |cons {o z e:Nat} {i:Int×Int} {l:List (Int×Int)} (h:dH (b.drop o)=some (i,z)) (t:lH b (o+z) l e):lH b o (i::l) e
variable{b:Li}
theorem pA{i:Int×Int}{z:Nat}(h:dH b=some (i,z)):z=(cw i.1).toNat/\0<cw i.1/\z<=J b/\∀b':List Int,b'.take z=b.take z->dH b'=some (i,z):=by
 cases b with
 |nil=>cases h
 |cons op l=>
  have h:(bif cw op==0 then none else bif decide ((J l:Int)+1<cw op)then none else some ((op,sE (l.take ((cw op).toNat - 1))),(cw op).toNat))=some (i,z):=h;cases h0:cw op==0 with
  |true=>grind
  |false=>
  cases h1:decide ((J l:Int)+1<cw op)with
  |true=>grind
  |false=>
  rw[h0,h1]at h;simp only[ac,aW,aD]at h;obtain⟨rfl,rfl⟩:=h;simp only[bE,aa]at h0 h1;have hz:cw op=0\/cw op=1\/cw op=2\/cw op=5:=iD op;refine⟨I,by grind,by grind,λb' hb=>?_⟩;obtain⟨m,hm⟩:∃m:Nat,(cw op).toNat=m+1:=⟨(cw op).toNat - 1,by omega⟩;rw[hm]at hb|-;cases b' with
  |nil=>grind
  |cons op' l'=>
   grind [mG,List.cons.injEq,List.length,List.length_take]
variable{o e:Nat}{l:List (Int×Int)}
theorem lH.le(h:lH b o l e):o<=e:=by
 induction h with
 |nil=>omega
 |cons h t ih=>omega
theorem lH.ends(h:lH b o l e)(hl:l≠[]):e<=J b/\o<e:=by
 induction h with
 |nil=>grind
 | @cons o z e i l h t ih=>
  obtain⟨h1,h2,h3, -⟩:=pA h;rw[List.length_drop]at h3;have hle:=t.le;have hz:0<z:=by omega
  cases l with
  |nil=>cases t;omega
  |cons j l=>grind
theorem lH.stay{b':Li}(h:lH b o l e)(hb:b'.take e=b.take e):lH b' o l e:=by
 induction h with
 |nil=>exact .nil _
 | @cons o z e i l h t ih=>
  obtain⟨-, -, -,h4⟩:=pA h;refine .cons (h4 _ ?_) (ih hb);have hle:=t.le;rw[List.take_drop,List.take_drop,show(b'.take (o+z))=(b'.take e).take (o+z) by grind,hb,List.take_take,Nat.min_eq_left hle]
theorem mC(b:Li):∀(k sz:Nat),lH b sz (cM b k sz).1 (cM b k sz).2.1/\(cM b k sz).1.length<=k/\((cM b k sz).1≠[]->(cM b k sz).2.2=gg ((cM b k sz).1.getLastD (0,0)).1)/\((cM b k sz).1=[]->(cM b k sz).2.2=false)
 |0,sz=>⟨.nil sz,aL _,λh=>absurd I h,λ_=>I⟩
 |k+1,sz=>by
  unfold cM;cases hd:dH (b.drop sz)with
  |none=>exact⟨.nil sz,ay _,λh=>absurd I h,λ_=>I⟩
  |some q=>
   obtain⟨i,z⟩:=q;dsimp only;cases hp:dy i.1 with
   |false=>exact⟨.nil sz,ay _,λh=>absurd I h,λ_=>I⟩
   |true=>
    rw[ae];cases he:gg i.1 with
    |true=>exact⟨.cons hd (.nil _),by simp,λ_=>he.symm,λh=>by cases h⟩
    |false=>
     rw[ac];obtain⟨h1,h2,h3,h4⟩:=mC b k (sz+z);refine⟨.cons hd h1,Nat.succ_le_succ h2,λ_=>?_,λh=>by cases h⟩
     grind
theorem lH.u32{b:Li}(hb:UO b){o e:Nat}{l:List (Int×Int)}(h:lH b o l e):∀i,i∈l->u32 i.2:=by
 induction h with
 |nil=>grind
 | @cons o z e i l h t ih=>
  intro j hj;rcases aI.1 hj with rfl|hj
  .obtain⟨op,nn⟩:=j;exact(nN (λx hx=>hb x (bD hx)) h).1
  grind
theorem F3{b:Bool}{x y:Um}{h:Bool}(hx:x.s.halted=h)(hy:y.s.halted=h):(bif b then x else y).s.halted=h:=by grind
theorem AF{op nn:Int}(h:dy op=true):(Xs s op nn).s.halted=s.halted:=by
 have hm:(AP s op nn).s.halted=s.halted:=by
  have hc:op=0\/op=1\/op=2\/op=3\/op=4\/op=5\/op=6\/op=7\/op=8\/op=16\/op=17\/op=18\/op=19\/op=20\/op=21\/op=22\/op=23\/op=25\/op=32\/op=33\/op=34\/op=35\/op=36\/op=37\/op=38\/op=39\/op=40:=by
   exact Xt
  rcases hc with rfl|rfl|rfl|rfl|rfl|rfl|rfl|rfl|rfl|rfl|rfl|rfl|rfl|rfl|rfl|rfl|rfl|rfl|rfl|rfl|rfl|rfl|rfl|rfl|rfl|rfl|rfl<;>
  first
  |exact rfl
  |exact F3 rfl rfl
  |exact F3 (b:=(gP _ (eV s _).pop.top (eV s _).top).2.2) (x:=(eV s _).pop.pop) (y:=(eV s _).pop.pop.wt ⟨5,0⟩) rfl rfl
 unfold Xs;cases s.right with
 |false=>rfl
 |true=>
  refine DR ?_;cases(dN s op nn !=0)with
  |true=>rfl
  |false=>
   rw[ac];unfold Sb;cases((AP s op nn).SL.SB !=0)with
   |true=>rfl
   |false=>exact hm
theorem Si{b:Bool}{x y:Um}{h:Int}(hx:x.s.pc=h)(hy:y.s.pc=h):(bif b then x else y).s.pc=h:=by grind
theorem OA{op nn:Int}{s1:St}(h:dy op=true)(hr:s.right=true)(he:gg op=false)(hd:Xs s op nn=⟨s1,false,false,[]⟩):s1.pc=dS s op:=by
 have hlt:=L4 h he;have hm:(AP s op nn).s.pc=dS s op:=by
  have hc:op=0\/op=1\/op=2\/op=3\/op=4\/op=5\/op=6\/op=7\/op=8\/op=16\/op=17\/op=18\/op=19\/op=20\/op=21\/op=22\/op=23\/op=25:=by
   exact Xt
  rcases hc with rfl|rfl|rfl|rfl|rfl|rfl|rfl|rfl|rfl|rfl|rfl|rfl|rfl|rfl|rfl|rfl|rfl|rfl<;>
  first
  |exact rfl
  |exact Si rfl rfl
  |exact Si (b:=(gP _ (eV s _).pop.top (eV s _).top).2.2) (x:=(eV s _).pop.pop) (y:=(eV s _).pop.pop.wt ⟨5,0⟩) rfl rfl
 grind [Xs,dN,Sb,AP]
theorem OC(p:Int)(va:Nat):(oU p va).toNat%64=va%64/\0<=oU p va:=by
 grind [oU,IntKind.wrap_u32]
theorem Gs(n:Nat)(U:Uo)(s:Sp)(va:Nat)(kind:Int)(h:(SF n U s va kind).1.2.SB=0):(SF n U s va kind).1.1.toNat%64=va%64:=by
 grind [SF,pf,kC,wx,asked,OC,dw]
theorem Kf(n:Nat)(U:Uo)(s:Sp)(va:Nat)(h:(Sz n U s va 1).1.2.SB=0):(Sz n U s va 1).1.1.toNat%64=va%64/\(Sz n U s va 1).1.1<((n*64:Nat):Int):=by
 grind [UV,Sz,SF,Gs]
theorem vy{n:Nat}{U:Uo}{d:Un}(h:Vp n s U d)(hr:(cF n s U d).runs=true):(cF n s U d).place.toNat%64=(cF n s U d).s.pc.toNat%64/\(cF n s U d).place<((n*64:Nat):Int):=by
 grind [cF,lF,Sz,told,Kf]
structure Rn where
 bytes:List Int
 ends:Bool
def Rn.zero:Rn:=⟨[],false⟩
def ur{α:Type}(key:α->Ky)(room:Int)(l:List α)(t:α):List α:=match cK key (key t) l with
 |some j=>l.set j t
 |none=>bif decide (room<=(J l:Int))then[t]else l++[t]
variable{α:Type}{key:α->Ky}{room:Int}{l:List α}{t:α}
theorem J1:t∈ur key room l t:=by
 unfold ur;cases hp:cK key (key t) l with
 |some j=>obtain⟨hj, -⟩:=fj hp;grind [List.mem_iff_getElem]
 |none=>grind
theorem Oz(h1:1<=room)(h:(J l:Int)<=room):(J (ur key room l t):Int)<=room:=by
 grind [ur,cK]
theorem jN(f:α->Bool)(h:(l.map key).Nodup):((l.filter f).map key).Nodup:=by grind
end
end Go.Ink
namespace Go.Ink
open List renaming length→J, replicate→R9
open IntKind renaming wrap→V9
open Go.RowKit Go.Proofs.Tryz
section
open Go.MapKept
open Go.ChangeMaps (setBlock)
section
variable{C:Cx}{Q:kW}{fr:Fr}{cs:List bH}{c:bH}{cin cin' rest r1:List bH}
variable{w:World}
variable{ops:Array Oper}{l:List Oper}
theorem Gf(hd:V5 cs (cR cin) r1)(hd2:V5 r1 c rest)(hp:cin'.Perm (c::cin))(h:WL C ops Q l fr (cR cin'::rest)):WL C ops Q l fr cs:=λa w hf hi=>h a w hf (((hi.perm (hd.perm.trans (hd2.perm.cons _))).perm (List.Perm.swap ..)).Ud hp)
end
def Np(b:Nat)(L:List (Ky×Value))(j:Nat)(st:Nat)(w:World):Prop:=∃es clock,w.heap[b]? =some (.map es clock)/\Stamped es clock/\(es.toList.map λe=>(e.key,e.val))=(L.map λx=>(Vj x.1,x.2))/\(∀x,x∈L->lA x.1)/\∃e,es.toList[j]? =some e/\e.born=st
abbrev meC(b:Nat)(L:List (Ky×Value))(j:Nat)(st:Nat):bH:= .gen [b] (Np b L j st)
 (λw w' h hk=>by obtain⟨es,cl,h1,h2⟩:=hk;exact⟨es,cl,(h b (by simp)).trans h1,h2⟩)
 (λw hk b' hb=>by obtain⟨es,cl,h1,_⟩:=hk;grind)
def uz(L:List (Ky×Value))(q:Ky)(z:Value):List (Ky×Value):=match cK (·.1) q L with|some _=>L|none=>L++[(q,z)]
end
variable{α:Type}{l:List α}{x:α}
def Lm(o:Option Nat):Int:=match o with|none=> -1|some j=>(j:Int)
variable{o:Option Nat}
theorem Fk(h:(Lm o== -1)=true):o=none:=by
 cases o with
 |none=>rfl
 |some j=>grind [Lm]
theorem Fj(h:(Lm o== -1)=false):∃j,o=some j:=by
 cases o with
 |none=>simp[Lm]at h
 |some j=>grind
theorem Bu{D:α->Bool}:∀{l:List α},l.findIdx? D=none->l.filter (λx=> !D x)=l/\J (l.filter D)=0
 :=by simp_all
def idxN(n:Nat)(o:Option Nat):Nat:=match o with|none=>n|some i=>i+1
variable{j:Nat}
variable{a:Int}
def LS.zero:LS:=⟨none,0,[]⟩
theorem Cc{α β γ:Type}(g:α->β->γ):∀(F:List α) (L:List β) (j:Nat) (a:α) (b:β),L[j]? =some b->List.zipWith g (F.set j a) L=(List.zipWith g F L).set j (g a b)
 |[],L,j,a,b,_=>by simp
 |f::F,[],j,a,b,h=>by simp at h
 |f::F,x::L,0,a,b,h=>by
  simp_all
 |f::F,x::L,j+1,a,b,h=>by
  show g f x::List.zipWith g (F.set j a) L=g f x::(List.zipWith g F L).set j (g a b);rw[Cc g F L j a b Do]
theorem xc:∀{F:List Bool} {j:Nat},F[j]? =some false->Bx (F.set j true)<Bx F
 |[],j,h=>by simp at h
 |f::F,0,h=>by
  grind [Bx]
 |f::F,j+1,h=>by
  have:=xc (F:=F) (j:=j) Do
  grind [Bx]
theorem tq(h:j<J l):(l.set j x).Perm (x::l.eraseIdx j):=by
 grind [ov,List.getElem?_set_self,List.eraseIdx_set_eq]
section
attribute [local irreducible] UL bM
abbrev VE(x:BA):bH:=sl .u8 5 x.A (J (cD x.b.code)) x.c (cD x.b.code)
def VJ(LK:List (Ky×LS)):List bH:=LK.map λx=>XI x.2
structure qI(room:Int)(X:VY):Prop where
 rm:1<=room/\room<=1024
 len:(J X.Z:Int)<=room
 ba:∀x,x∈X.Z->J x.b.code<=100000/\lA x.b.key
 lk:B3 (X.Z.map BA.key) X.LK
variable{keys:List Ky}{LK:List (Ky×LS)}
theorem B3.mono{keys':List Ky}(h:B3 keys LK)(hs:∀q,q∈keys->q∈keys'):B3 keys' LK:=λx hx=>⟨(h x hx).1,(h x hx).2.1,λq hq=>hs q ((h x hx).2.2 q hq)⟩
variable{room:Int}{X:VY}
theorem qI.sm(h:qI room X):ο X.Z:=⟨by have:=h.len;have:=h.rm;omega,h.ba⟩
theorem qI.none(h:1<=room/\room<=1024)(ml:Nat)(A:Oa)(c:Nat)(fl:Int):qI room ⟨ml,A,c,fl,[],[]⟩:=
 ⟨h,Do,(λy hy=>nomatch hy),(λy hy=>nomatch hy)⟩
theorem qI.push(h:qI room X)(hlt:(J X.Z:Int)<room){t:BA}(ht:J t.b.code<=100000/\lA t.b.key)(A:Oa)(c:Nat):qI room ⟨X.ml,A,c,X.fl,X.LK,X.Z++[t]⟩:=by
 refine⟨h.rm,gW,λy hy=>?_,h.lk.mono λq hq=>by grind⟩;rcases aK.1 hy with hy|hy
 .exact h.ba y hy
 grind
theorem Ow{key:α->Ky}{t:α}(h:cK key (key t) l=none)(h2:room<=(J l:Int)):ur key room l t=[t]:=by grind [ur]
theorem Ov{key:α->Ky}{t:α}(h:cK key (key t) l=none)(h2:¬room<=(J l:Int)):ur key room l t=l++[t]:=by grind [ur]
end
end Go.Ink
namespace Go.Ink
open List renaming length→J
open IntKind renaming wrap→V9
open Go.RowKit Go.Proofs.Tryz
section
attribute [local irreducible] UL bM
abbrev jM(p:Pg)(Q:W6):List Value:=[.slice Q.Ac (J p.code) Q.cc,.i p.SE,.i p.SG,.i p.Tc,.i p.Te,.slice Q.Ad (J p.SP) Q.cd,.slice Q.Ar (J p.SQ) Q.cr,.i p.flags,.w p.next,.i p.target,.i p.branch,.w p.taken,.i p.count,.i p.values]
abbrev Xq(p:Pg)(Q:W6):Value:= .agg (jM p Q).toArray
structure VU where
 b:Nat
 p:Pg
 Q:W6
 pl:Pl
 Ag:Option Addr
 cg:Nat
 As:Option Addr
 cs:Nat
abbrev rC(S:VU)(n m:Nat)(X:VB):List Value:=[.slice S.Q.Ac (J S.p.code) S.Q.cc,.i S.p.SE,.i S.p.SG,.i S.p.Tc,.i S.p.Te,.slice S.Q.Ad (J S.p.SP) S.Q.cd,.slice S.Q.Ar (J S.p.SQ) S.Q.cr,.i S.p.flags,.w S.p.next,.i S.p.target,.i S.p.branch,.w S.p.taken,.i S.p.count,.i S.p.values,
 .slice S.Ag (J S.pl.reg) S.cg,.slice S.As (J S.pl.slot) S.cs,.i S.pl.Ta,.slice X.Al n X.cl,.slice X.Af m X.cf]
abbrev UC(S:VU)(l:List HI)(fix:Li)(X:VB):List bH:=[row S.b (rC S (J l) (J fix) X) 362,Wu X.Al X.cl l,sl .i64 3 X.Af (J fix) X.cf fix]
end
variable{rest:List bH}{w0 w:World}
theorem Inv.Tn{S:List Nat}{cs cin:List bH}{w':World}(h:Inv w0 S cs w)(hp:ga cin cs rest)(hk:cX (bK cin) w w'):cX S w0 w':=
 h.TR (λc hc=>hp.perm.symm.subset (List.mem_append_left _ hc)) hk
theorem tE(op rd a b:Int):J (xm op rd a b)<=3:=by grind [xm,yu,RT]
theorem Bt(op a b:Int):J (mF op a b)<=24:=by
 have:=tE op 9 a b;unfold mF fR;cases op==16<;>cases op==17||op==25<;>simp[kN,kM,gU,ip,vX]<;>omega
theorem IX(x:Int):V9 .u32 (V9 .i64 (64+x))=V9 .u32 (64+x):=by grind [IntKind.wrap_u32,IntKind.wrap_i64]
section
attribute [local irreducible] UL bM
variable{LK:List (Ky×LS)}{k:Ky}
def wQ(LK:List (Ky×LS))(k:Ky):List bH:=match cK (·.1) k LK with|some j=>(VJ LK).eraseIdx j|none=>VJ LK
theorem Pf{j:Nat}{x:LS}(h:cK (·.1) k LK=some j)(hx:LK[j]? =some (k,x)):(VJ LK).Perm (XI x::(VJ LK).eraseIdx j):=by grind [ov,VJ]
end
end Go.Ink
namespace Go.Ink
open List renaming length→J, replicate→R9
open IntKind renaming wrap→V9
open Go.RowKit Go.Proofs.Tryz
set_option maxHeartbeats 1000000
variable{x:Int}
theorem Fq(h:u32 x):(BitVec.ofInt 32 x).msb=Vg x:=by
 obtain⟨a,rfl⟩:∃a:Nat,x=a:=ai h.1;have:=h.2;rw[BitVec.msb_eq_decide,BitVec.ofInt_natCast,BitVec.toNat_ofNat,Nat.mod_eq_of_lt O];exact decide_eq_decide.2 O
variable{a b:Int}
theorem F6(h:u32 x):(bits .and .u32 x 2147483648 !=0)=Vg x:=by
 obtain⟨a,rfl⟩:∃a:Nat,x=a:=ai h.1;have h2:=h.2;have e1:(BitVec.ofInt 32 (a:Int)).toNat=a:=by rw[BitVec.ofInt_natCast,BitVec.toNat_ofNat];exact BS
 have e:bits .and .u32 (a:Int) 2147483648=((a&&&2^31:Nat):Int):=by
  show V9 .u32 (((BitVec.ofInt 32 (a:Int))&&&(BitVec.ofInt 32 2147483648)).toNat:Int)=_;have e2:(BitVec.ofInt 32 2147483648).toNat=2^31:=by decide
  have e3:a&&&2^31<=2^31:=Nat.and_le_right;rw[BitVec.toNat_and,e1,e2,u32_wrap_id _ O O]
 have key:(((a&&&2^31:Nat):Int) !=0)=a.testBit 31:=by
  cases ht:a.testBit 31 with
  |true=>
   have h1:(a&&&2^31).testBit 31=true:=by rw[Nat.testBit_and,ht,Nat.testBit_two_pow];rfl
   have h3:a&&&2^31≠0:=λh0=>by rw[h0]at h1;simp at h1
   simp only[bne_iff_ne,ne_eq];omega
  |false=>
   have h1:a&&&2^31=0:=by
    apply Nat.eq_of_testBit_eq;intro i;rw[Nat.testBit_and,Nat.testBit_two_pow,Nat.zero_testBit];by_cases hi:31=i
    .subst hi;rw[ht];rfl
    simp[hi]
   rw[h1]
   rfl
 rw[e,key];unfold Vg;cases ht:a.testBit 31 with
 |true=>
  have:2^31<=a:=Nat.ge_two_pow_of_testBit ht;rw[ak O]
 |false=>
  have h3:a<2^31:=by
   rcases Nat.lt_or_ge a (2^31)with h|h
   .exact h
   exfalso;have:a.testBit 31=true:=by
    rw[Nat.testBit_eq_decide_div_mod_eq];simp;omega
   rw[this]at ht;cases ht
  rw[ao O]
theorem EG(h:u32 x):x.fdiv (2^31)=if Vg x then 1 else 0:=by
 have h1:=h.1;have h2:=h.2;rw[Xe x 31];unfold Vg;by_cases hc:2147483648<=x
 .simp only[hc,decide_true,if_true];omega
 simp only[hc,decide_false,Bool.false_eq_true,if_false];omega
theorem EH{y:Int}(hx:u32 x)(hy:u32 y):(x.fdiv (2^31)==y.fdiv (2^31))=(Vg x==Vg y):=by
 rw[EG hx,EG hy];cases Vg x<;>cases Vg y<;>decide
theorem tf{y:Int}(hx:u32 x)(hy:u32 y):(x.fdiv (2^31) !=y.fdiv (2^31))=(Vg x !=Vg y):=by
 rw[EG hx,EG hy];cases Vg x<;>cases Vg y<;>decide
def yP(c o:Bool)(r:Int):Int:=
 bif Vg r then bits .or .u32 (bif r==0 then bits .or .u32 (bif o then bits .or .u32 (bif c then 4 else 0) 8 else bif c then 4 else 0) 1 else bif o then bits .or .u32 (bif c then 4 else 0) 8 else bif c then 4 else 0) 2
 else bif r==0 then bits .or .u32 (bif o then bits .or .u32 (bif c then 4 else 0) 8 else bif c then 4 else 0) 1 else bif o then bits .or .u32 (bif c then 4 else 0) 8 else bif c then 4 else 0
variable{r:Int}
theorem Hy(h:u32 r):dj r=yP false false r:=by
 unfold dj yP;rw[F6 h];cases Vg r<;>cases(r==0)<;>decide
theorem w6(h:u32 x){c:Bool}{o:Int}{ob:Bool}(ho:(o !=0)=ob):mb a b r (dj x) c o=yP c ob x:=by
 unfold mb dj yP;rw[F6 h,ho];cases Vg x<;>cases(x==0)<;>cases c<;>cases ob<;>decide
def gm(op a b:Int):Int×(Bool×Bool)×Bool:=
 bif op==16 then(V9 .u32 (a+b),(decide (4294967296<=a+b),(Vg a==Vg b)&&(Vg (V9 .u32 (a+b)) !=Vg a)),true)else
 bif op==17||op==25 then(V9 .u32 (a - b),(decide (a<b),(Vg a !=Vg b)&&(Vg (V9 .u32 (a - b)) !=Vg a)),true)else
 bif op==18 then(bits .and .u32 a b,(false,false),true)else bif op==19 then(bits .or .u32 a b,(false,false),true)else bif op==20 then(bits .xor .u32 a b,(false,false),true)else
 bif op==21 then(da a b true,(false,false),true)else bif op==22 then(da a b false,(false,false),true)else bif op==23 then(V9 .u32 (a*b),(false,false),true)else
 bif op==24&&b !=0 then(V9 .u32 (a.tdiv b),(false,false),true)else(0,(false,false),false)
def jK(c o:Bool):Int:=bif o then bits .or .u32 (bif c then 4 else 0) 8 else bif c then 4 else 0
theorem NC(n:Int):IntKind.i8.wrap n=(n+128)%256 - 128:=by
 simp[IntKind.wrap,IntKind.signed,IntKind.bits];split<;>omega
theorem N7(h:u32 b):jC b=if 128<=b%256 then V9 .u32 (b%256 - 256)else b%256:=by
 have h1:=h.1;unfold jC;rw[au,IntKind.wrap_i32,NC];split
 .rw[au];omega
 omega
def xT(op:Int):Int:=
 bif op==2 then 5 else bif(((op==1)||(decide (32<=op)&&decide (op<=38)))||(op==66))||(op==67)then 2 else
 bif(((((decide (0<=op)&&decide (op<=8))||(decide (16<=op)&&decide (op<=25)))||(op==39))||(op==40))||(decide (48<=op)&&decide (op<=53)))||(decide (64<=op)&&decide (op<=69))then 1 else 0
theorem N6:∀k:Fin 70,xT (k.val:Int)=cw (k.val:Int):=by decide+kernel
theorem EZ(op:Int):(∃k:Fin 70,op=(k.val:Int))\/(∀k:Int,0<=k->k<=69->(op==k)=false)/\(op<0\/69<op):=by
 by_cases h:0<=op/\op<=69
 .exact .inl ⟨⟨op.toNat,by omega⟩,by show op=((op.toNat:Nat):Int);omega⟩
 exact .inr ⟨λk h1 h2=>by simp only[bE,ne_eq];omega,by omega⟩
theorem xR(op:Int):xT op=cw op:=by
 rcases EZ op with⟨k,rfl⟩|⟨e,h⟩
 .exact N6 k
 have r:∀a b:Int,0<=a->b<=69->(decide (a<=op)&&decide (op<=b))=false:=λa b ha hb=>by
  rw[Bool.and_eq_false_iff,aa,aa];omega
 unfold xT cw ux yt;rw[r 32 38 An An,r 0 8 An An,r 16 25 An An,r 48 53 An An,r 64 69 An An];simp[e]
def fE(op:Int):(Nat×Nat)×(Nat×Nat):=
 bif op==1 then((0,1),(0,0))else bif op==2 then((0,1),(0,0))else bif op==66 then((0,1),(0,0))else bif op==3 then((1,2),(0,0))else
 bif op==4 then((1,0),(0,0))else bif op==40 then((1,0),(0,0))else bif op==67 then((1,0),(0,0))else bif op==68 then((1,0),(0,0))else
 bif op==5 then((2,2),(0,0))else bif op==6 then((2,3),(0,0))else bif op==7 then((1,0),(0,1))else bif op==8 then((0,1),(1,0))else
 bif op==25 then((2,0),(0,0))else bif op==49 then((2,0),(0,0))else bif op==51 then((2,0),(0,0))else bif op==53 then((2,0),(0,0))else
 bif op==48 then((1,1),(0,0))else bif op==50 then((1,1),(0,0))else bif op==52 then((1,1),(0,0))else
 bif op==38 then((0,0),(0,1))else bif op==39 then((0,0),(1,0))else bif decide (16<=op)&&decide (op<=24)then((2,1),(0,0))else((0,0),(0,0))
theorem Kw:∀k:Fin 70,fE (k.val:Int)=bR (k.val:Int):=by decide+kernel
theorem Kv(op:Int):fE op=bR op:=by
 rcases EZ op with⟨k,rfl⟩|⟨e,h⟩
 .exact Kw k
 have r:(decide (16<=op)&&decide (op<=24))=false:=by rw[Bool.and_eq_false_iff,aa,aa];omega
 unfold fE bR;rw[r];simp[e]
variable{s:St}{n:Int}
theorem LD(h:0<=n):(s.get n).2=decide (n<=10):=by
 by_cases hn:n<=10
 .obtain rfl|rfl|rfl|rfl|rfl|rfl|rfl|rfl|rfl|rfl|rfl:n=0\/n=1\/n=2\/n=3\/n=4\/n=5\/n=6\/n=7\/n=8\/n=9\/n=10:=by omega
  all_goals rfl
 have e:∀k:Int,k<=10->(n==k)=false:=λk hk=>by simp only[bE,ne_eq];omega
 rw[ao hn];unfold St.get;simp[e]
section
attribute [local irreducible] UL bM
def encB(nn:Int)(j:Nat):Int:=V9 .u8 (nn.fdiv (2^(min (Int.toNat ((8*j:Nat):Int)) IntKind.u32.bits)))
def yR(op nn:Int)(k:Nat):List Int:=V9 .u8 op::(List.range (k - 1)).map (encB nn)
def qt(op nn:Int):List Int:=yR op nn (max 1 (cw op).toNat)
theorem By(op nn:Int){k:Nat}(h:1<=k):J (yR op nn k)=k:=by simp[yR];omega
theorem HJ(op nn:Int){k:Nat}(h:1<=k):yR op nn (k+1)=yR op nn k++[encB nn (k - 1)]:=by
 obtain⟨j,rfl⟩:∃j,k=j+1:=⟨k - 1,by omega⟩;simp[yR,List.range_succ]
theorem tK(x:Int):0<=V9 .u8 x/\V9 .u8 x<=255:=by
 have e:V9 .u8 x=x%256:=by simp[IntKind.wrap,IntKind.bits,IntKind.signed]
 rw[e];omega
theorem PU(op nn:Int):UO (qt op nn):=by
 intro x hx;unfold qt yR at hx;rcases aI.1 hx with rfl|hx
 .exact tK _
 obtain⟨j, -,rfl⟩:=List.mem_map.1 hx;exact tK _
theorem Bz(op nn:Int):1<=J (qt op nn)/\J (qt op nn)<=5:=by
 unfold qt;rw[By _ _ O];have:cw op=0\/cw op=1\/cw op=2\/cw op=5:=iD op;omega
def me(l:List (Int×Int))(k:Nat):List Int:=(l.take k).flatMap λi=>qt i.1 i.2
def BK(l:List (Int×Int)):List Int:=me l (J l)
variable{k:Nat}
theorem vr{l:List (Int×Int)}{i:Int×Int}(h:l[k]? =some i):me l (k+1)=me l k++qt i.1 i.2:=by
 unfold me;rw[List.take_add_one,h];simp
theorem oH(l:List (Int×Int)):∀k,J (me l k)<=5*k
 |0=>by simp[me]
 |k+1=>by
  cases h:l[k]? with
  |none=>
   unfold me;rw[List.take_add_one,h];have:=oH l k;unfold me at this;simp only[Option.toList_none,ax];omega
  |some i=>
   rw[vr h,ar];have:=oH l k;have:=(Bz i.1 i.2).2;omega
theorem BJ(l:List (Int×Int))(k:Nat):UO (me l k):=by
 intro x hx;unfold me at hx;obtain⟨i, -,h⟩:=List.mem_flatMap.1 hx;exact PU _ _ x h
theorem EJ{C:List HI}(h:((iq C s).2==1)=true):∃M,jU C 4096 ⟨R9 16 0,Tm s,0⟩=((1,1),M)/\(iq C s).1=oO M.words s:=by
 grind [iq,EM,jU,Tm,nc]
structure RS where
 r:Rn
 A:Option Addr
 c:Nat
def RS.zero:RS:=⟨Rn.zero,none,0⟩
def WW(RZ:List (Ky×RS)):List (Ky×Rn):=RZ.map λx=>(x.1,x.2.r)
variable{G:List (Bool×Ky×RS)}{j:Nat}
def pS(G:List (Bool×Ky×RS)):Nat:=J (G.filter λg=> !g.1)
theorem rV:∀{G:List (Bool×Ky×RS)} {j:Nat} {x:Ky×RS},G[j]? =some (false,x)->pS (G.eraseIdx j)<pS G
 |[],j,x,h=>by simp at h
 |g::G,0,x,h=>by
  grind [pS]
 |g::G,j+1,x,h=>by
  have:=rV (G:=G) (j:=j) (x:=x) Do
  grind [pS]
theorem AW(Z:List BA)(RZ:List (Ky×RS)):vT (Z.map BA.b) (WW RZ)=WW (RZ.filter λx=>Z.any λt=>t.key==x.1):=by
 grind [vT,WW,List.filter_congr,List.any_map]
theorem PZ(Z:List BA)(SC:Li):(Z.map BA.b).filter (λt=> !SC.contains (t.key.2/64))=(Z.filter λx=> !SC.contains (x.b.key.2/64)).map BA.b:=by
 rw[List.filter_map]
 rfl
abbrev rsC(x:RS):bH:=sl .u8 5 x.A (J x.r.bytes) x.c x.r.bytes
def WF(RZ:List (Ky×RS)):List bH:=RZ.map λx=>rsC x.2
end
end Go.Ink
namespace Go.Ink
open List renaming length→J, replicate→R9
open IntKind renaming wrap→V9
open Go.RowKit Go.Proofs.Tryz
theorem AI(pl:Pl)(base f:Int)(n:Int):∀(c:Li) (k:Nat),yr pl base f (c++[n]) k=yr pl base f c k++(j9 pl n 7++[⟨15,0,base,eJ pl n 7,V9 .u32 (f+V9 .u32 ((k+J c:Nat):Int))⟩])
 |[],k=>by simp[yr]
 |x::c,k=>by
  have ih:=AI pl base f n c (k+1)
  grind [j9,yr]
theorem OL(a b:Int)(pl:Pl)(n:Int)(x:II):J (rc a b pl n x)<=30:=by
 grind [j8,tE,eJ,Bt,K7,rc]
theorem Eh(c d i:Int):V9 .u32 (V9 .i64 (V9 .i64 (V9 .i64 (c+d) - 1) - V9 .i64 i))=V9 .u32 (c+d - 1 - i):=by
 grind [IntKind.wrap_u32,IntKind.wrap_i64]
section
attribute [local irreducible] UL bM
theorem w5(p:Pg)(pl:Pl):J (gM p pl)<=4:=by
 grind [j8,gM]
theorem vw(p:Pg)(pos:Nat):J (iy p pos)<=5:=by
 grind [iy]
theorem tS(p:Pg)(pl:Pl):J (jI p pl)<=2:=by
 grind [j8,jI]
theorem AS(a b:Int)(pl:Pl):∀(c:List II) (n:Nat),J (j6 a b pl c n)<=30*J c
 :=by intro y1;induction y1<;>grind [OL,rc,j6]
theorem wO(a b:Int)(pl:Pl)(x:II):∀(c:List II) (n:Nat),j6 a b pl (c++[x]) n=j6 a b pl c n++rc a b pl ((n+J c:Nat):Int) x
 |[],n=>by simp[j6]
 |y::c,n=>by
  have h:=wO a b pl x c (n+1);show rc a b pl n y++j6 a b pl (c++[x]) (n+1)=(rc a b pl n y++j6 a b pl c (n+1))++_
  grind
theorem br_eq{p:Pg}{l11 l12 l13 l14 l15 l16:List HI}(h12:l12=l11++[⟨14,11,15,0,1⟩])(h13:l13=l12++[⟨1,12,0,0,gS p.branch⟩])(h14:l14=l13++[⟨5,11,11,12,0⟩])(h15:l15=l14++[⟨bif jO p.branch then 16 else 17,0,11,0,V9 .u32 ((J l14:Int)+2)⟩])(h16:l16=l15++[⟨1,9,0,0,p.taken⟩])(hb:(p.branch !=0)=true):
  l16=l11++iy p (J l11):=by
 grind [iy]
theorem end_eq{p:Pg}{pl:Pl}{l m1 l11 m2 m3 l31 l32 l33 l34:List HI}(h1:m1=l++gM p pl)(h11:l11=m1++[⟨1,9,0,0,p.next⟩])(h2:m2=l11++iy p (J l11))(h3:m3=m2++jI p pl)(h31:l31=m3++[⟨15,0,15,9,0⟩])(h32:l32=l31++[⟨1,11,0,0,V9 .u32 p.count⟩])(h33:l33=l32++[⟨15,0,15,11,36⟩])(h34:l34=l33++[⟨19,0,0,0,1⟩]):
  l34=l++tB p pl (J l):=by
 have hn:J l11=J l+J (gM p pl)+1:=by rw[h11,h1];simp;omega
 grind [tB]
variable{α:Type}{l:List α}{k:Nat}{x:α}
theorem sw{a b:Int}:∀(c:List II) (i k:Nat) {x:II},c[k]? =some x->jm a b (c.take k) i=true->kD a b (i+k) x=true->jm a b (c.take (k+1)) i=true
 |[],_,_,_,h,_,_=>by simp at h
 |y::c,i,0,x,h,_,h2=>by
  grind [kD,jm]
 |y::c,i,k+1,x,h,h1,h2=>by
  have h1:(kD a b i y&&jm a b (c.take k) (i+1))=true:=h1;rw[aC]at h1;have:=sw c (i+1) k (x:=x) Do h1.2 Do
  grind [kD,jm]
theorem xo{a b:Int}:∀(c:List II) (i k:Nat) {x:II},c[k]? =some x->kD a b (i+k) x=false->jm a b c i=false
 |[],_,_,_,h,_=>by simp at h
 |y::c,i,0,x,h,h2=>by
  grind [kD,jm]
 |y::c,i,k+1,x,h,h2=>by
  have:=xo c (i+1) k (x:=x) Do (by rw[show i+1+k=i+(k+1) by omega];exact h2)
  grind [kD,jm]
structure sY(p:Pg):Prop where
 Th:p.values=J p.code
 S0:J p.code<=64
 SP:J p.SP<=100
 SQ:J p.SQ<=100
 imm:∀x,x∈p.code->0<=x.imm/\x.imm<=4294967295
theorem pP(T:Li)(n a:Int):J (fV T n a)=J T:=(jY T n a).1
theorem Le(n:Nat):VK (n+1)=VK n++[(n:Int)]:=by grind [VK,List.range_succ]
variable{n:Nat}
theorem LL{T l:Li}(h:kL T l n (J l - k) k=fG T l n)(hk:k<=J l)(ht:fa T l n k (J l)=true):k<J l/\kL T l n (J l - (k+1)) (k+1)=fG T l n:=by
 rcases Nat.lt_or_ge k (J l) with h9|h9
 .refine⟨h9,?_⟩;rw[show J l - k=(J l - (k+1))+1 by omega]at h
  grind [fa,kL,fG]
 obtain rfl:k=J l:=by omega
 rw[Nat.sub_self]at h;have h:J l=fG T l n:=h
 grind [rx]
abbrev SBk.X(Y:SBk):SAd:=⟨some ⟨Y.br,0,none⟩,Y.cr,some ⟨Y.bs,0,none⟩,Y.cs,some ⟨Y.bv,0,none⟩,Y.cv⟩
abbrev scF(b:Nat)(X:SAd)(N:Nat)(T:Li)(pl:Pl):List bH:=[scR b X N pl.Ta,sl .i64 3 X.Ar N X.cr pl.reg,sl .i64 3 X.As N X.cs pl.slot,slv 415 3 X.Av N X.cv (fO 0 T)]
theorem qb(T:Li)(Tb:Int)(N:Nat):∀n,(jx T Tb N n).reg.length=N/\(jx T Tb N n).slot.length=N
 :=by intro y1;induction y1<;>grind [jx,p5,ly,fG,gc]
abbrev Sl(b:Nat):bH:=row b [.slice none 0 0,.slice none 0 0,.i 0] 356
end
end Go.Ink
namespace Go.Ink
open List renaming length→J
open IntKind renaming wrap→V9
open Go.RowKit Go.Proofs.Tryz
def sL(p:Pg):List Int:=bif p.Ty then(bif p.TI then[4,7,12,15]else[4,7])else[]
def HI.imm'(i:HI)(e:Int):HI:=⟨i.op,i.rd,i.ra,i.rb,e⟩
theorem R7(p:Pg)(pl:Pl):∀i,i∈sL p->∃n:Nat,i=n/\n<J (fB p pl 0):=λi hi=>by
 have h2:p.Ty=true:=by
  cases h:p.Ty with
  |true=>rfl
  |false=>grind [sL]
 unfold sL at hi;rw[h2,ae]at hi;unfold fB;rw[h2,ae];cases h3:p.TI<;>rw[h3]at hi<;>simp only[ae,ac,aI,aV,or_false]at hi|-
 .have hl:J (⟨1,15,0,0,0⟩::p7 0 14 2 p.SE p.TK:List HI)=9:=rfl;rcases hi with rfl|rfl
  .exact⟨4,I,by omega⟩
  exact⟨7,I,by omega⟩
 have hl:J (uT p 0)=17:=rfl;rcases hi with rfl|rfl|rfl|rfl
 .exact⟨4,I,by grind⟩
 .exact⟨7,I,by grind⟩
 .exact⟨12,I,by grind⟩
 exact⟨15,I,by grind⟩
theorem end_len(p:Pg)(pl:Pl)(n:Nat):J (tB p pl n)<=20:=by
 grind [w5,vw,gM,tS,tB]
theorem yY(p:Pg)(pl:Pl)(e:Int)(hc:J p.code<=64)(hD:J p.SP<=100)(hR:J p.SQ<=100):J (fB p pl e)<=4000:=by
 have h1:=AS p.SE p.SG pl p.code 0;have h2:=oa pl 14 4 2 p.SP;have h3:=oa pl 13 20 3 p.SQ;have h4:=end_len p pl (17+J (iT p pl));have h5:J (uT p e)=17:=rfl;unfold fB;cases p.Ty<;>cases p.TI<;>simp only[ae,ac]
 .simp
 .simp
 .show 9<=4000;omega
 grind [iT,j6,iX]
section
attribute [local irreducible] UL bM
structure Lw.sm(L:Lw)(n:Nat):Prop where
 code:J L.code<=n
 dl:J L.d.l<=n
 rl:J L.r.l<=n
 dn:0<=L.d.SK/\L.d.SK<=n
 rn:0<=L.r.SK/\L.r.SK<=n
abbrev Dp(N:Int)(L:Lw)(X:VZ):List Value:=[.slice X.Ac (J L.code) X.cc,.i 0,.i 0,.i 0,.i 0,.slice none 0 0,.slice none 0 0,.i L.flags,.w 0,.i L.target,.i L.branch,.w 0,.i N,.i 0,
 .slice X.Ad (J L.d.l) X.cd,.i L.d.SK,.i L.d.high,.i 1,.slice X.Ar (J L.r.l) X.cr,.i L.r.SK,.i L.r.high,.i 2]
variable{L:Lw}{n:Nat}
theorem Lw.sm.mono{m:Nat}(h:L.sm n)(hnm:n<=m):L.sm m:=⟨aR h.code hnm,aR h.dl hnm,aR h.rl hnm,⟨h.dn.1,by have:=h.dn.2;omega⟩,⟨h.rn.1,by have:=h.rn.2;omega⟩⟩
theorem J5{k:Int}{code:List II}{s:Sd}(h1:J code<=n)(h2:J s.l<=n)(h3:0<=s.SK/\s.SK<=n):(fu k code s).2.1.length<=n+1/\(fu k code s).2.2.l.length<=n+1/\(0<=(fu k code s).2.2.SK/\(fu k code s).2.2.SK<=(n+1:Nat)):=by
 grind [fu]
theorem jb(h:L.sm n){C:List II}{s:Sd}(hC:C=(fu 1 L.code L.d).2.1)(hs:s=(fu 1 L.code L.d).2.2)(f t br:Int):Lw.sm ⟨C,s,L.r,f,t,br⟩ (n+1):=by
 subst hC hs;obtain⟨h1,h2,h3⟩:=J5 (k:=1) h.code h.dl h.dn;exact⟨h1,h2,aR h.rl O,h3,⟨h.rn.1,by have:=h.rn.2;grind⟩⟩
theorem sm_popR(h:L.sm n){C:List II}{s:Sd}(hC:C=(fu 2 L.code L.r).2.1)(hs:s=(fu 2 L.code L.r).2.2)(f t br:Int):Lw.sm ⟨C,L.d,s,f,t,br⟩ (n+1):=by
 subst hC hs;obtain⟨h1,h2,h3⟩:=J5 (k:=2) h.code h.rl h.rn;exact⟨h1,aR h.dl O,h2,⟨h.dn.1,by have:=h.dn.2;grind⟩,h3⟩
theorem qR(h:L.sm n)(l:Li)(hl:J l<=3):(L.Tt l).sm (n+3):=⟨aR h.code O,by have:=h.dl;show(L.d.l++l).length<=_;grind,aR h.rl O,⟨h.dn.1,by have:=h.dn.2;show L.d.SK<=_;omega⟩,⟨h.rn.1,by have:=h.rn.2;show L.r.SK<=_;omega⟩⟩
theorem JA(h:L.sm n)(l:Li)(hl:J l<=3):(L.TX l).sm (n+3):=⟨aR h.code O,aR h.dl O,by have:=h.rl;show(L.r.l++l).length<=_;grind,⟨h.dn.1,by have:=h.dn.2;show L.d.SK<=_;omega⟩,⟨h.rn.1,by have:=h.rn.2;show L.r.SK<=_;omega⟩⟩
theorem sC(h:L.sm n):L.SH.2.sm (n+1):=jb h I I _ _ _
theorem sm_pR(h:L.sm n):L.Ti.2.sm (n+1):=sm_popR h I I _ _ _
theorem uc(h:L.sm n)(f t br:Int):Lw.sm ⟨L.code,L.d,L.r,f,t,br⟩ n:=⟨h.code,h.dl,h.rl,h.dn,h.rn⟩
end
end Go.Ink
namespace Go.Ink
open List renaming length→J, replicate→R9
open IntKind renaming wrap→V9
open Go.RowKit Go.Proofs.Tryz
section
attribute [local irreducible] UL bM
abbrev XU(b:Nat)(A:Oa)(c N:Nat)(U:List Bool):List bH:=[row b [.slice A N c] 59,slv 4 1 A N c (U.map Value.bool)]
theorem zC{U:List Bool}{j:Nat}(h:j<J U):(U.map Value.bool)[j]? =some (.bool (U.getD j false)):=by grind
abbrev pg0(b:Nat):bH:=row b [.slice none 0 0,.i 0,.i 0,.i 0,.i 0,.slice none 0 0,.slice none 0 0,.i 0,.w 0,.i 0,.i 0,.w 0,.i 0,.i 0] 308
abbrev pgZ:List Value:=[.slice none 0 0,.i 0,.i 0,.i 0,.i 0,.slice none 0 0,.slice none 0 0,.i 0,.w 0,.i 0,.i 0,.w 0,.i 0,.i 0]
theorem JB:Lw.init.sm 0:=⟨aL _,aL _,aL _,⟨Int.le_refl _,Int.le_refl _⟩,⟨Int.le_refl _,Int.le_refl _⟩⟩
variable{l:List (Int×Int)}
def oN(Z:List BA)(RZ:List (Ky×RS)):List (Ky×RS):=RZ.filter λx=>Z.any λt=>t.key==x.1
theorem Ob(RZ:List (Ky×RS)):(WW RZ).map (·.1)=RZ.map (·.1):=by simp[WW]
variable{b:Li}{sz:Nat}{R:List (Int×Int)×Nat×Bool}
theorem G0(h:(l++(cM b 0 sz).1,(cM b 0 sz).2)=R):(l,sz,false)=R:=by
 rw[<-h];show(l,sz,false)=(l++[],sz,false)
 grind
variable{i:Int×Int}
theorem Pw(l:List (Int×Int))(op nn:Int):l.flatMap IJ++[.i op,.w nn]=(l++[(op,nn)]).flatMap IJ:=by simp
end
end Go.Ink
namespace Go.Ink
open List renaming length→J, replicate→R9
open IntKind renaming wrap→V9
open Go.RowKit Go.Proofs.Tryz
section
attribute [local irreducible] UL bM
theorem F0{a b:Nat}(ha:a<4294967296)(hb:b<4294967296):bits .and .u32 (a:Int) (b:Int)=((a&&&b:Nat):Int):=by
 have h1:(BitVec.ofInt IntKind.u32.bits (a:Int)).toNat=a:=by rw[BitVec.toNat_ofInt];show((a:Int)%((4294967296:Nat):Int)).toNat=a;omega
 have h2:(BitVec.ofInt IntKind.u32.bits (b:Int)).toNat=b:=by rw[BitVec.toNat_ofInt];show((b:Int)%((4294967296:Nat):Int)).toNat=b;omega
 have h3:a&&&b<=a:=Nat.and_le_left;unfold bits;simp only;rw[au,BitVec.toNat_and,h1,h2];omega
theorem Qp{a:Nat}(ha:a<4294967296):bits .and .u32 (a:Int) 255=((a%256:Nat):Int):=by
 rw[show(255:Int)=((255:Nat):Int)from I,F0 ha An,show(255:Nat)=2^8 - 1 from I,Nat.and_two_pow_sub_one_eq_mod]
def oV(x:Nat):Int:=match jy x with
 |none=> -1
 |some k=>(k:Int)
variable{k:Ky}
variable{RZ:List (Ky×RS)}
theorem FA(Z:List BA)(k:Ky):(Z.map BA.b).find? (λt=>t.key==k)=(Z.find? λx=>x.key==k).map BA.b:=by
 rw[List.find?_map]
 rfl
theorem Qf(p:Pg)(pl:Pl):gh p pl≠[]:=by
 unfold gh;simp
def rX(RZ:List (Ky×RS))(k:Ky):List bH:=match cK (·.1) k RZ with|some j=>(WF RZ).eraseIdx j|none=>WF RZ
theorem wF(RZ:List (Ky×RS))(k:Ky):(rX RZ k).Sublist (WF RZ):=by
 grind [rX,cK]
end
end Go.Ink
namespace Go.Ink
open List renaming length→J, replicate→R9
open IntKind renaming wrap→V9
open Go.RowKit Go.Proofs.Tryz
section
variable{L:ez}{k:Cb}
theorem nS.none(h:nS L k)(hall:∀p:Nat,p<L.n->k.fr[p]? =some (-1))(hl:J L.gw=256)(hno:∀x,x∈L.gw->x≠(L.o:Int)):k.ow=L.gw/\∀f,f<256->L.oth f=true->∀j,j<64->k.B[f*64+j]? =L.gB[f*64+j]? :=by
 have hfr:∀(p f:Nat),k.fr[p]? ≠some (f:Int):=λp f hp=>by
  have hpl:=(ap.1 hp).1
  simp_all [h.fr]
 refine⟨List.ext_getElem? λf=>?_,λf hf ho=>?_⟩
 .by_cases hf:f<256
  .rcases h.held f hf with⟨h1,h2⟩|⟨-, -,q,hq⟩|⟨-,h2, -⟩
   .grind [ez.oth]
   .grind
   exact h2
  grind [h.pl.ow]
 rcases h.held f hf with⟨h1, -⟩|⟨h1, -⟩|⟨-, -,h3⟩
 .grind
 .grind
 exact h3
end
variable{ow:Li}{o:Int}
variable{L:ez}{k:Cb}
theorem ls.none(h:nS L k):ls L k k 0:=⟨h,λp=>by simp⟩
section
attribute [local irreducible] UL bM
def Uy.load(n:Nat)(l:Li):Uy:=(Uy.new n).fill 0 l (J l)
theorem Uy.Ub{n:Nat}{l:Li}(h:J l<=n*64):(Uy.load n l).data=l++R9 (n*64 - J l) 0:=congrArg Uy.data (Uy.init_eq h)
structure mY where
 bg:Nat
 bu:Nat
 bb:Nat
 be:Nat
 L:ez
 D:qK
def ez.on(L:ez)(P:qG):ez:={L with gw:=P.ow.map (λx=>if x=(L.o:Int)then -1 else x),gB:=P.B,gp:=P.pr}
structure nT(P:qG):Prop where
 len:dz P.B P.ow P.pr
 own:∀f:Nat,f<256->P.ow[f]? =some (-1)\/∃o:Nat,o<4/\P.ow[f]? =some (o:Int)
 few:∀(o:Nat) (p:Int),P.pr[o]? =some p->(J (dU P.ow o 256):Int)<=(if 0>p then 0 else p)
 sum:gQ P.pr 4<=240
abbrev rP(L:ez)(P:qG)(M:Uy)(fr:Li)(gd:List Bool):Prop:=dK (L.on P) M ⟨P.B,P.ow,P.pr,fr,gd⟩
variable{P:qG}{f:Nat}
theorem on_gw:(L.on P).gw[f]? =(P.ow[f]?).map (λx=>if x=(L.o:Int)then -1 else x):=by
 show(P.ow.map _)[f]? =_
 grind
theorem lc:(L.on P).oth f=true<->∃x,P.ow[f]? =some x/\x≠ -1/\x≠(L.o:Int):=by
 unfold ez.oth;rw[on_gw];rcases h:P.ow[f]? with _|x
 .simp
 show(((if x=(L.o:Int)then(-1:Int)else x) != -1)&&((if x=(L.o:Int)then(-1:Int)else x) !=(L.o:Int)))=true<->_
 grind
theorem nT.cap(h:nT P){L:ez}(ho:L.o<4)(hp:P.pr[L.o]? =some (L.n:Int)):L.n<=J ((List.range' 16 240).filter (λf=> !(L.on P).oth f)):=by
 have hsub:List.Sublist (List.range' 16 240) (List.range 256):=by decide+kernel
 have hq:∀(o:Nat) (b:Bool),(b=true->o≠L.o)->J ((List.range' 16 240).filter (λf=>(P.ow[f]? ==some (o:Int))&&b))<=(bif b then(dU P.ow o 256).length else 0):=λo b hb=>by
  cases b with
  |false=>simp
  |true=>
   grind [dU]
 have hlen:=h.len.pr;obtain⟨a0,a1,a2,a3,hpr⟩:∃a b c d,P.pr=[a,b,c,d]:=by
  match hh:P.pr,hlen with
  |[a,b,c,d],_=>grind
 have hs:=h.sum;rw[hpr,wz]at hs;have f0:=h.few 0 a0 Do;have f1:=h.few 1 a1 Do;have f2:=h.few 2 a2 Do;have f3:=h.few 3 a3 Do;have hc:=DL (λf=>(L.on P).oth f) (λf=>(P.ow[f]? ==some ((0:Nat):Int))&&(L.o !=0)) (λf=>(P.ow[f]? ==some ((1:Nat):Int))&&(L.o !=1)) (λf=>(P.ow[f]? ==some ((2:Nat):Int))&&(L.o !=2)) (λf=>(P.ow[f]? ==some ((3:Nat):Int))&&(L.o !=3)) (List.range' 16 240) (λf hf ht=>by
  rw[List.mem_range'_1]at hf;obtain⟨x,h1,h2,h3⟩:=lc.1 ht;rcases h.own f (by omega)with h4|⟨o,h4,h5⟩
  ·grind
  rw[h1]at h5;obtain rfl:=aG h5;have hne:o≠L.o:=λe=>h3 (by rw[e])
  rw[h1];obtain rfl|rfl|rfl|rfl:o=0\/o=1\/o=2\/o=3:=by omega
  ·grind
  ·grind
  ·grind
  grind)
 have g0:=hq 0 (L.o !=0) (λe=>by grind);have g1:=hq 1 (L.o !=1) (λe=>by grind);have g2:=hq 2 (L.o !=2) (λe=>by grind);have g3:=hq 3 (L.o !=3) (λe=>by grind);have hpt:=DE (λf=>(L.on P).oth f) (List.range' 16 240);rw[List.length_range']at hpt;rw[hpr]at hp;obtain e|e|e|e:L.o=0\/L.o=1\/L.o=2\/L.o=3:=by omega
 .rw[e]at hp g0 g1 g2 g3;obtain rfl:a0=(L.n:Int):=aG hp;simp only[bne_self_eq_false,ac,show((0:Nat) !=1)=true from I,show((0:Nat) !=2)=true from I,show((0:Nat) !=3)=true from I,ae]at g0 g1 g2 g3;rw[e]at hc;simp only[bne_self_eq_false,show((0:Nat) !=1)=true from I,show((0:Nat) !=2)=true from I,show((0:Nat) !=3)=true from I]at hc;omega
 .rw[e]at hp g0 g1 g2 g3;obtain rfl:a1=(L.n:Int):=aG hp;simp only[bne_self_eq_false,ac,show((1:Nat) !=0)=true from I,show((1:Nat) !=2)=true from I,show((1:Nat) !=3)=true from I,ae]at g0 g1 g2 g3;rw[e]at hc;simp only[bne_self_eq_false,show((1:Nat) !=0)=true from I,show((1:Nat) !=2)=true from I,show((1:Nat) !=3)=true from I]at hc;omega
 .rw[e]at hp g0 g1 g2 g3;obtain rfl:a2=(L.n:Int):=aG hp;simp only[bne_self_eq_false,ac,show((2:Nat) !=0)=true from I,show((2:Nat) !=1)=true from I,show((2:Nat) !=3)=true from I,ae]at g0 g1 g2 g3;rw[e]at hc;simp only[bne_self_eq_false,show((2:Nat) !=0)=true from I,show((2:Nat) !=1)=true from I,show((2:Nat) !=3)=true from I]at hc;omega
 rw[e]at hp g0 g1 g2 g3;obtain rfl:a3=(L.n:Int):=aG hp;simp only[bne_self_eq_false,ac,show((3:Nat) !=0)=true from I,show((3:Nat) !=1)=true from I,show((3:Nat) !=2)=true from I,ae]at g0 g1 g2 g3;rw[e]at hc;simp only[bne_self_eq_false,show((3:Nat) !=0)=true from I,show((3:Nat) !=1)=true from I,show((3:Nat) !=2)=true from I]at hc;omega
end
end Go.Ink
