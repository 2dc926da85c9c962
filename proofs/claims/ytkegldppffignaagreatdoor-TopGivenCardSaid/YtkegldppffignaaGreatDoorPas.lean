/- Lemmas. -/
import Derived.Test.YtkegldppffignaaGreatDoorPaa
import Derived.Test.YtkegldppffignaaGreatDoorPab
import Derived.Test.YtkegldppffignaaGreatDoorPag
import Derived.Test.YtkegldppffignaaGreatDoorPah
import Derived.Test.YtkegldppffignaaGreatDoorPai
import Derived.Test.YtkegldppffignaaGreatDoorPam
import Derived.Test.YtkegldppffignaaGreatDoorPap
import Derived.Test.YtkegldppffignaaGreatDoorPaq
import Derived.Test.YtkegldppffignaaGreatDoorPar
set_option linter.unusedSimpArgs false
set_option linter.unusedVariables false
set_option maxRecDepth 100000
set_option maxHeartbeats 4000000
set_option maxHeartbeats 1000000
namespace Go.Ink
open Go.RowKit
def Ab(op:Int):Int:=
 bif op==2 then 5 else bif(((op==1)||(decide (32<=op)&&decide (op<=38)))||(op==66))||(op==67)then 2 else
 bif(((((decide (0<=op)&&decide (op<=8))||(decide (16<=op)&&decide (op<=25)))||(op==39))||(op==40))||(decide (48<=op)&&decide (op<=53)))||(decide (64<=op)&&decide (op<=69))then 1 else 0
theorem JY:∀k:Fin 70,Ab (k.val:Int)=cA (k.val:Int):=by decide+kernel
theorem Ku(op:Int):(∃k:Fin 70,op=(k.val:Int))\/(∀k:Int,0<=k->k<=69->(op==k)=false)/\(op<0\/69<op):=by
 by_cases h:0<=op/\op<=69
 .exact .inl ⟨⟨op.toNat,by omega⟩,by show op=((op.toNat:Nat):Int);omega⟩
 exact .inr ⟨λk h1 h2=>by simp only[beq_eq_false_iff_ne,ne_eq];omega,by omega⟩
theorem JX(op:Int):Ab op=cA op:=by
 rcases Ku op with⟨k,rfl⟩|⟨e,h⟩
 .exact JY k
 have r:∀a b:Int,0<=a->b<=69->(decide (a<=op)&&decide (op<=b))=false:=λa b ha hb=>by
  rw[Bool.and_eq_false_iff,ah,ah];omega
 unfold Ab cA ft xc;rw[r 32 38 Wq5 Wq5,r 0 8 Wq5 Wq5,r 16 25 Wq5 Wq5,r 48 53 Wq5 Wq5,r 64 69 Wq5 Wq5];simp[e]
end Go.Ink
namespace Go.Proofs.YtkegldppffignaaGreatDoor
open Go.RowKit Go.Ink Go.Proofs.Tryz
attribute [local irreducible] OpY bS
theorem DK(op:Int)(w:World):Ctr prog 98 [.int .i64 op] w [] (λv cs=>v= .int .i64 (cA op)/\cs=[]):=by
 rw[<-JX];refine bN func98 rfl ntmps98 rfl (Inv.start w) ?_;refine gy ?_;refine ZW ?_ ?_<;>intro hc1
 .refine fX ?_;refine⟨?_,rfl⟩;simp only[Ab, *,ac,aa]
 refine mn ?_;refine Z_3 ?_;refine ZW ?_ ?_<;>intro hc3
 .refine fX ?_;refine⟨?_,rfl⟩;simp only[Ab, *,ac,aa]
 refine mn ?_;refine mn ?_;refine Z_3 ?_;refine ZW ?_ ?_<;>intro hc5
 .refine fX ?_;refine⟨?_,rfl⟩;simp only[Ab, *,ac,aa]
 refine Z_9 ?_;refine Zra ?_;refine⟨?_,rfl⟩;simp only[Ab, *,ac,aa]
end Go.Proofs.YtkegldppffignaaGreatDoor
namespace Go.Ink
open Go.RowKit
def zi(nn:Int)(j:Nat):Int:=IntKind.u8.wrap (nn.fdiv (2^(min (Int.toNat ((8*j:Nat):Int)) IntKind.u32.bits)))
def kH(op nn:Int)(k:Nat):List Int:=IntKind.u8.wrap op::(List.range (k - 1)).map (zi nn)
def gP(op nn:Int):List Int:=kH op nn (max 1 (cA op).toNat)
theorem tS(op nn:Int){k:Nat}(h:1<=k):(kH op nn k).length=k:=by simp[kH];omega
theorem vK(op nn:Int){k:Nat}(h:1<=k):kH op nn (k+1)=kH op nn k++[zi nn (k - 1)]:=by
 obtain⟨j,rfl⟩:∃j,k=j+1:=⟨k - 1,by omega⟩;simp[kH,List.range_succ]
theorem sh(x:Int):0<=IntKind.u8.wrap x/\IntKind.u8.wrap x<=255:=by
 have e:IntKind.u8.wrap x=x%256:=by simp[IntKind.wrap,IntKind.bits,IntKind.signed]
 rw[e];omega
theorem Ll(op nn:Int):u8s (gP op nn):=by
 intro x hx;unfold gP kH at hx;rcases aJ.1 hx with rfl|hx
 .exact sh _
 obtain⟨j, -,rfl⟩:=aZ.1 hx;exact sh _
theorem zh(op nn:Int):1<=(gP op nn).length/\(gP op nn).length<=5:=by
 unfold gP;rw[tS _ _ Wq1];have:cA op=0\/cA op=1\/cA op=2\/cA op=5:=iL op;omega
def dR(i:Int×Int):List Value:=[.int .i64 i.1,.int .u32 i.2]
theorem qX(i:Int×Int):(dR i).length=2:=rfl
def fD(l:List (Int×Int))(k:Nat):List Int:=(l.take k).flatMap λi=>gP i.1 i.2
def eG(l:List (Int×Int)):List Int:=fD l l.length
theorem gZ{l:List (Int×Int)}{k:Nat}{i:Int×Int}(h:l[k]? =some i):fD l (k+1)=fD l k++gP i.1 i.2:=by
 unfold fD;rw[List.take_add_one,h];simp
theorem jw(l:List (Int×Int)):∀k,(fD l k).length<=5*k
 |0=>by simp[fD]
 |k+1=>by
  cases h:l[k]? with
  |none=>
   unfold fD;rw[List.take_add_one,h];have:=jw l k;unfold fD at this;simp only[Option.toList_none,az];omega
  |some i=>
   rw[gZ h,ae];have:=jw l k;have:=(zh i.1 i.2).2;omega
theorem nk(l:List (Int×Int))(k:Nat):u8s (fD l k):=by
 intro x hx;unfold fD at hx;obtain⟨i, -,h⟩:=List.mem_flatMap.1 hx;exact Ll _ _ x h
end Go.Ink
namespace Go.Proofs.YtkegldppffignaaGreatDoor
open Go.RowKit Go.Ink Go.Proofs.Tryz
attribute [local irreducible] OpY bS
theorem enc_ok(op nn:Int)(w:World):Ctr prog 73 [.agg #[.int .i64 op,.int .u32 nn]] w [] (λv cs=>∃A c,v= .slice A (gP op nn).length c/\cs=[sl .u8 5 A (gP op nn).length c (gP op nn)]):=by
 have hz5:cA op=0\/cA op=1\/cA op=2\/cA op=5:=iL op;have HS:=DK op;obtain⟨z,hz⟩:∃z:Nat,cA op=z:=ar Wq1;have he:gP op nn=kH op nn (max 1 z):=by unfold gP;rw[hz];rfl
 rw[he,tS _ _ Wq1];rw[hz]at hz5 HS;refine bN func73 rfl ntmps73 rfl (Inv.start w) ?_;refine Z_2 ?_;refine ZO λb1=>?_;refine Z_7 ?_;refine Zy (ce rfl rfl (Zv rfl) (by first|exact IntWalk.u8_in _ ⟨by omega,by omega⟩|exact rfl)) ?_;refine jO ?_;rintro _ _ ⟨b8,rfl,rfl⟩;refine dS ?_;refine cq (λq:Nat×Option Addr×Nat=>[(1,.pointer (some ⟨b1,0,none⟩)),(3,.slice q.2.1 q.1 q.2.2),(4,.int .i64 (q.1:Int))]) (λq=>[row b1 [.int .i64 op,.int .u32 nn] 27,sl .u8 5 q.2.1 q.1 q.2.2 (kH op nn q.1)]) (λq=>1<=q.1/\q.1<=max 1 z) (λq=>10 - q.1) ((⟨1,some ⟨b8,0,none⟩,1⟩:Nat×Option Addr×Nat)) ?_ ?_ ?_ ?_
 .exact⟨aM _,by omega⟩
 .exact Zwk
 .exact Zu
 rintro⟨k,A,c⟩ ⟨hk1,hkz⟩;dsimp only at hk1 hkz|-;refine Z_6 ?_;refine ZSe (λw hi=>HS w) ?_;refine Z_3 ?_;refine ZW ?_ ?_<;>intro hc3
 .simp only[aj]at hc3;refine Z_9 ?_;refine Zy (eE (Zv rfl) (Zv rfl) (show _=((k - 1:Nat):Int)from by rw[bF _ ⟨by omega,by omega⟩];omega)) ?_;refine Zy (ce rfl rfl (Zv rfl) (u64_wrap_id _ Wq1 Wq1)) ?_;refine Zy (jk (Zv rfl) (Zv rfl) (show _=((8*(k - 1):Nat):Int)from by rw[u64_wrap_id _ Wq1 Wq1];omega)) ?_;refine Zy (ko (Zv rfl) (Zv rfl) Wq1 rfl) ?_;refine Zy (ce rfl rfl (Zv rfl) (show _=zi nn (k - 1)from rfl)) ?_;refine jO ?_;rintro _ _ ⟨b25,rfl,rfl⟩;refine gj (cD (e:=5) (sz:=1) (bytes:=1) rfl rfl Za rfl rfl (λw hi=>hi.rd (show Has _ (slv 5 1 (some ⟨b25,0,none⟩) 1 1 (ints .u8 [zi nn (k - 1)]))from Zh)) cN gS Wq1) rfl ?_;rintro _ _ ⟨A2,c2,rfl,rfl⟩;rw[cj,<-vK op nn hk1];refine Z_6 ?_;refine Wq8 ?_;refine bX ((⟨k+1,A2,c2⟩:Nat×Option Addr×Nat)) ?_ ?_ ?_
  .exact⟨⟨show 1<=k+1 by omega,show k+1<=max 1 z by omega⟩,show 10 - (k+1)<10 - k by omega⟩
  .exact Zwk
  exact Zj
 simp only[ah]at hc3;obtain rfl:k=max 1 z:=Wq1;refine gR ?_;refine Zrb ([slv _ _ _ _ _ _]) ?_;exact⟨A,c,rfl,rfl⟩
theorem Bh(A:Option Addr)(c:Nat)(l:List (Int×Int))(hl:l.length<=1000)(w:World)(h:RdV w 2 A l.length c (l.flatMap dR)):Ctr prog 41 [.slice A l.length c] w [] (λv cs=>∃A' c',v= .slice A' (eG l).length c'/\cs=[sl .u8 5 A' (eG l).length c' (eG l)]):=by
 refine bN func41 rfl ntmps41 rfl (Inv.start w) ?_;refine jd ?_;refine dC 5 1 ?_;refine Z_4 ?_;refine cq (λq:Nat×Option Addr×Nat=>[(0,.slice A l.length c),(3,.slice q.2.1 (fD l q.1).length q.2.2),(4,.int .i64 (q.1:Int))]) (λq=>[sl .u8 5 q.2.1 (fD l q.1).length q.2.2 (fD l q.1)]) (λq=>q.1<=l.length) (λq=>l.length - q.1) ((⟨0,none,0⟩:Nat×Option Addr×Nat)) ?_ ?_ ?_ ?_
 .exact aq _
 .exact Zwk
 .exact Zu
 rintro⟨k,A1,c1⟩ hk;dsimp only at hk|-;have hcl:=jw l k;refine Z_9 ?_;refine ZW ?_ ?_<;>intro hc3
 .simp only[aj]at hc3;have hkl:k<l.length:=Wq1;obtain⟨ad,rfl⟩:=h.some_ Wq1;have hla:l[k]? =some (l[k]'hkl):=ai hkl;obtain⟨⟨op,nn⟩,ha⟩:=Zgn (l[k]'hkl);rw[ha]at hla;have hel:=zh op nn;refine Z_8 ?_;refine uR ?_;refine dN (cz (vs:=[.int .i64 op,.int .u32 nn]) Zrf Zrf Zv0) (fv h (λj v hj=>fK qX (i:=j) hla hj)) rfl ?_;refine ZS (λw hi=>enc_ok op nn w) ?_;rintro _ _ ⟨_,⟨A2,c2,rfl,rfl⟩,rfl⟩;refine gj (cD (e:=5) (sz:=1) (bytes:=1) rfl rfl Za rfl rfl (λw hi=>hi.rd (show Has _ (sl .u8 5 A2 (gP op nn).length c2 (gP op nn))from Zh)) cN gS Wq1) rfl ?_;rintro _ _ ⟨A3,c3,rfl,rfl⟩;rw[cj,<-ae,<-gZ hla];refine Z_6 ?_;refine Wq8 ?_;refine bX ((⟨k+1,A3,c3⟩:Nat×Option Addr×Nat)) ?_ ?_ ?_
  .exact⟨show k+1<=l.length by omega,show l.length - (k+1)<l.length - k by omega⟩
  .exact Zwk
  exact Zj
 simp only[ah]at hc3;obtain rfl:k=l.length:=Wq1;refine gR ?_;refine Zrb ([slv _ _ _ _ _ _]) ?_;exact⟨A1,c1,rfl,rfl⟩
end Go.Proofs.YtkegldppffignaaGreatDoor
namespace Go.Ink
open Go.RowKit
theorem lp.shift{B:List Int}{o:Nat}:∀{l:List (Int×Int)} {j e:Nat},lp (B.drop o) j l e->lp B (o+j) l (o+e)
 |[],j,e,h=>by cases h;exact .nil _
 |i::l,j,e,h=>by
  cases h with
  | @cons _ z _ _ _ h t=>
   rw[List.drop_drop]at h;exact .cons h (by have:=lp.shift t;rwa[show o+j+z=o+(j+z) by omega])
theorem BQ{C:List HI}{s:St}(h:((iE C s).2==1)=true):∃M,jy C 4096 ⟨List.replicate 16 0,Nl s,0⟩=((1,1),M)/\(iE C s).1=nS M.words s:=by
 unfold iE BT at h|-;obtain⟨⟨⟨a,b⟩,M⟩,hq⟩:=Zgn (jy C 4096 ⟨List.replicate 16 0,Nl s,0⟩);rw[hq]at h|-;dsimp only at h|-;cases h1:a !=1 with
 |true=>rw[h1]at h;cases h
 |false=>
  rw[h1,aa]at h;rw[aa];cases h2:mC M.words with
  |false=>rw[h2]at h;cases h
  |true=>
   rw[h2,ac]at h;rw[ac];simp only[bne_eq_false_iff_eq,beq_iff_eq]at h1 h;subst h1 h;exact⟨M,rfl,rfl⟩
theorem sX{n:Nat}{M:Mem}(h:M.ok n)(p:Nat):u8s (iK M p):=λx hx=>h.db x (List.mem_of_mem_drop (bj (List.mem_of_mem_drop hx)))
theorem MB{n:Nat}{s:St}{U:Mmu}{d:Dev}{E:Eng}(hn:n<=1000000)(h:GOk n s U d)(hE:iH E):(doE n s U d E).1=cT n s U d/\iH (doE n s U d E).2/\
  ∃c:Nat,c<=8/\CT E (doE n s U d E).2 c/\(cT n s U d).1.count=IntKind.u64.wrap (s.count+(c:Int)):=by
 have hb:=nQ h;have hbp:=uj h;unfold doE cT;obtain⟨b,hbe⟩:=Zgn (dI n s U d);rw[hbe]at hb hbp|-;dsimp only;have hsc:=h.wf.count;cases hr:b.runs with
 |false=>
  simp only[aa];refine⟨trivial,hE.same rfl rfl rfl,?_⟩;cases hh:s.halted with
  |true=>
   have e:=hb.held hh;have es:b.s=s:=by rw[e]
   refine⟨0,by omega,⟨λh1 h2 h3=>?_,rfl⟩,?_⟩
   .dsimp only;rw[es,show IntKind.i64.wrap (E.Nh+IntKind.i64.wrap (IntKind.u64.wrap (s.count - s.count)))=E.Nh by rw[show s.count - s.count=0 by omega];simp only[bK,aQ];omega];exact⟨h1,h2,by omega,Int.le_refl _⟩
   rw[es,aQ];omega
  |false=>
   obtain⟨c1,c2⟩:=hb.stays hr hh;refine⟨1,by omega,⟨λh1 h2 h3=>?_,rfl⟩,c1⟩;dsimp only;rw[c1,show IntKind.i64.wrap (E.Nh+IntKind.i64.wrap (IntKind.u64.wrap (IntKind.u64.wrap (s.count+1) - s.count)))=E.Nh+1 by simp only[bK,aQ];omega];exact⟨h1,by omega,by omega,Int.le_refl _⟩
 |true=>
  simp only[ac];obtain⟨c1,c2,c3⟩:=hb.runs hr;obtain⟨q1,q2⟩:=hbp hr;have hg:=hb.g;have hp0:=hb.place;have hpc:=hg.wf.pc;have pI:((b.place.toNat:Nat):Int)=b.place:=Int.toNat_of_nonneg hp0.1;have hbb:=sX hg.u.m b.place.toNat;obtain⟨f1,f2,f3,f4,f5⟩:=pT hE (k:=(b.s.pc,b.place)) hbb;unfold jF;obtain⟨⟨o,E1⟩,hf⟩:=Zgn (lj E (b.s.pc,b.place) (iK b.u.m b.place.toNat));rw[hf]at f1 f2 f3 f4 f5|-;dsimp only at f1 f2 f3 f4 f5;have slowly:(jH n (b.place.toNat/64) 8 b.s b.place.toNat b.u b.d E1).1=dZ n (b.place.toNat/64) 8 b.s b.place.toNat b.u b.d/\iH (jH n (b.place.toNat/64) 8 b.s b.place.toNat b.u b.d E1).2/\
    ∃c:Nat,c<=8/\CT E (jH n (b.place.toNat/64) 8 b.s b.place.toNat b.u b.d E1).2 c/\(dZ n (b.place.toNat/64) 8 b.s b.place.toNat b.u b.d).1.count=IntKind.u64.wrap (s.count+(c:Int)):=by
   obtain⟨r1,r2,c,r3,r4,r5⟩:=wR (MY:=b.place.toNat/64) 8 b.place.toNat hg f1;refine⟨r1,r2,c,r3,⟨λh1 h2 h3=>?_,r4.room.trans f2⟩,by rw[r5,c1]⟩;obtain⟨a1,a2,a3,a4⟩:=r4.Nk Wq1 Wq1 Wq1;exact⟨a1,a2,by omega,by omega⟩
  cases o with
  |none=>exact slowly
  |some tr=>
   obtain⟨t,r⟩:=tr;dsimp only;cases hdone:(iE t.code b.s).2==1 with
   |false=>exact slowly
   |true=>
    simp only[ac];obtain⟨p,il,g1,g2,g3,g4,g5,g6,g7⟩:=f5 t r rfl;obtain⟨M,hM,hout⟩:=BQ hdone;rw[g3]at hM;obtain⟨k1,k2,k3,k4,k5,k6, -, -, -⟩:=BD hg.u hg.dv hg.wf hg.right g6 g1 g2 hM;rw[hout];obtain⟨s2,hs2⟩:=Zgn (nS M.words b.s);rw[hs2]at k1 k2 k3 k4|-;obtain⟨MY,hpage⟩:=Zgn (b.place.toNat/64);obtain⟨ofs,hofs⟩:=Zgn (b.place.toNat%64);have hpo:b.place.toNat=MY*64+ofs:=by omega
    have hst:lp ((b.u.m.data.drop (MY*64)).take 64) ofs il (ofs+r.bytes.length):=by
     have:=g5;unfold iK at this;rw[hpage,hofs]at this;simpa using this.shift
    have hil:il≠[]:=λe=>by rw[e]at k5;simp at k5
    have hse:=(hst.ends hil).1;rw[aB]at hse;obtain⟨c4,c5,c6⟩:=vm hn (MY:=MY) Wq1 il ofs 8 (e:=ofs+r.bytes.length) (U:=b.u) b.d hil k1 k6 hst hpc.1 (by have:=hpc.2;omega) Wq1 (c2.trans c3);rw[hpage,hpo,c6,g7,g4];have hc0:decide ((0:Int)<(il.length:Int))=true:=ax Wq1
    rw[hc0,Bool.and_true];have hE2:iH {E1 with last:=(b.s.pc,b.place),begun:=true,Nk:=IntKind.i64.wrap (E1.Nk+(il.length:Int))}:=f1.same rfl rfl rfl;obtain⟨E2,he2⟩:=Zgn (({E1 with last:=(b.s.pc,b.place),begun:=true,Nk:=IntKind.i64.wrap (E1.Nk+(il.length:Int))}:Eng));have hu2:CT E E2 il.length:=⟨λh1 h2 h3=>by
     rw[<-he2];dsimp only;rw[f3,f4,show IntKind.i64.wrap (E.Nk+(il.length:Int))=E.Nk+il.length by rw[bK];omega];exact⟨by omega,h2,by omega,by omega⟩,by rw[<-he2];exact f2⟩
    have hcnt:s2.count=IntKind.u64.wrap (s.count+(il.length:Int)):=by
     have:=congrArg St.count k4;dsimp only at this;rw[this,c1]
    rw[he2]at hE2|-;have hhg:GOk n s2 ⟨b.u.m.calm,b.u.t⟩ b.d:=⟨k2,k3,⟨hg.u.m.calm,hg.u.t⟩,hg.dv,hg.lines⟩;cases hend:fN (il.getLastD (0,0)).1||s2.pc/64 !=b.s.pc/64 with
    |true=>
     simp only[ac];exact⟨trivial,hE2,il.length,k6,hu2,hcnt⟩
    |false=>
     simp only[aa];obtain⟨e1,e2⟩:=bz.1 hend;have e3:=c5 e1;simp only[bne_eq_false_iff_eq]at e2;have hlt:ofs+r.bytes.length<64:=by
      rw[e3,aE]at e2;have h0:=hpc.1;have h1:=hpc.2;omega
     have ea:(MY*64+ofs+r.bytes.length)%4294967296=MY*64+(ofs+r.bytes.length):=by omega
     have eb:(MY*64+(ofs+r.bytes.length))/64=MY:=by omega
     have ec:((8:Int) - (il.length:Int)).toNat=8 - il.length:=by omega
     rw[ea,eb,ec];obtain⟨r1,r2,c,r3,r4,r5⟩:=wR (MY:=MY) (8 - il.length) (MY*64+(ofs+r.bytes.length)) hhg hE2;refine⟨r1,r2,il.length+c,by omega,⟨λh1 h2 h3=>?_,r4.room.trans hu2.room⟩,?_⟩
     .obtain⟨a1,a2,a3,a4⟩:=hu2.Nk h1 h2 Wq1;obtain⟨b1,b2,b3,b4⟩:=r4.Nk a1 a2 Wq1;exact⟨b1,b2,by omega,by omega⟩
     rw[r5,hcnt,nz,show(il.length:Int)+(c:Int)=((il.length+c:Nat):Int) by omega]
section
variable {C:Cx} {Q:lK} {fr:Fr} {cs cs' cin rest:List bL} {St:Dr} {ops:Array Oper} {fuel i:Nat} {listed:Array Bool}
theorem wa_inv(hc:∀w,Inv C.w0 C.S cs w->Inv C.w0 C.S cs' w)(h:WA C St ops Q fuel listed fr cs'):WA C St ops Q fuel listed fr cs:=λa w hf hi=>h a w hf (hc w hi)
theorem wi_inv(hc:∀w,Inv C.w0 C.S cs w->Inv C.w0 C.S cs' w)(h:WI C St ops Q fuel listed i fr cs'):WI C St ops Q fuel listed i fr cs:=λa w hf hi=>h a w hf (hc w hi)
theorem Inv.NY{w0 w:World}{S:List Nat}(h:Inv w0 S (dp cin::rest) w):Inv w0 S (cin++rest) w:=by
 obtain⟨_,_,h1⟩:=h.NV;exact h1
theorem Inv.Od{w0 w:World}{S:List Nat}(h:Inv w0 S cs w)(hs:ja cin cs rest):Inv w0 S (dp cin::rest) w:=
 Inv.NB (F:=λ_:Unit=>cin) (hb:=λ_=>rfl) (p:=λ_=>True) () trivial (h.perm hs.perm)
theorem nE{w0:World}{S:List Nat}{bb t:Nat}{xs:List Value}(hc:Has cs (dp cin))(hr:row bb xs t∈cin):∀w,Inv w0 S cs w->cells (sQ bb xs) w:=λw hi=>by
 have h:=rX (hi.get hc) _ hr;have h1:Inv w [bb] [row bb xs t] w:=⟨dG.refl _ _,by simp[bM,row,bL.bs],λc hc=>by rw[aK]at hc;subst hc;exact h,λb hb=>by left;simpa[bM,row,bL.bs]using hb⟩;exact bV (.head _ _) w h1
end
theorem u32_div{a:Int}(h:0<=a/\a<=4294967295):0<=a/64/\a/64<=67108863:=by omega
theorem xm(xs ys:List Int)(h:ys.length<=xs.length):(xs.take ys.length==ys)=ys.isPrefixOf xs:=by
 rw[Bool.eq_iff_iff,List.isPrefixOf_iff_prefix,beq_iff_eq];constructor
 .intro e;exact⟨xs.drop ys.length,by conv=>rhs;rw[<-List.take_append_drop ys.length xs,e]⟩
 rintro⟨z,rfl⟩;exact List.take_left
end Go.Ink
namespace Go.Proofs.YtkegldppffignaaGreatDoor
open Go.RowKit Go.Ink Go.Proofs.Tryz
attribute [local irreducible] OpY bS
theorem yY(A B:Option Addr)(c d:Nat)(xs ys:List Int)(hx:u8s xs)(hy:u8s ys)(w:World)(h:Rd w .u8 A xs.length c xs)(h2:Rd w .u8 B ys.length d ys):
  Ctr prog 146 [.slice A xs.length c,.slice B ys.length d] w [] (λv cs=>v= .bool (ys.isPrefixOf xs)/\cs=[]):=by
 have hcap:=h.cap;refine bN func146 rfl ntmps146 rfl (Inv.start w) ?_;by_cases hle:ys.length<=xs.length
 .have hg:decide ((xs.length:Int)>=(ys.length:Int))=true:=ax Wq1
  have htl:(xs.take ys.length).length=ys.length:=by rw[aB];omega
  have HE:=IW A B c d (xs.take ys.length) ys (λx hx'=>hx x (bj hx')) hy;rw[htl,xm xs ys hle]at HE;have hrt:=jo h ys.length;rw[htl]at hrt;refine ri ?_;refine Zyy rfl rfl (ge ys.length rfl Zrf (dh rfl) (dh rfl) (λ_=>by first|rfl|omega) Wq4) ?_;refine ZB ?_;refine eu (bR rfl rfl) (.cons (dh rfl) (.cons (dh rfl) .nil)) (λ_ _=>rfl) (λhg w hi=>HE w (hrt.MZ hi) (h2.MZ hi)) rfl ?_;refine Z_5 ?_;refine Zra ?_;refine⟨?_,rfl⟩;rw[show decide ((ys.length:Int)<=(xs.length:Int))=true from ax Wq1,Bool.true_and]
 have hp:ys.isPrefixOf xs=false:=by
  cases hb:ys.isPrefixOf xs with
  |false=>rfl
  |true=>
   obtain⟨z,rfl⟩:=List.isPrefixOf_iff_prefix.1 hb;simp at hle
 have hg0:decide ((ys.length:Int)<=(xs.length:Int))=false:=aw Wq1
 refine jd ?_;refine eZ (bR rfl rfl) hg0 rfl ?_;refine eZ (bR rfl rfl) hg0 rfl ?_;refine eZ (bR rfl rfl) hg0 rfl ?_;refine eZ (bR rfl rfl) hg0 rfl ?_;refine eZ (bR rfl rfl) hg0 rfl ?_;refine eZ (bR rfl rfl) hg0 rfl ?_;refine Zy (CZ (q:=false) (Zv rfl) ⟨_,rfl,λ_ e=>by rw[hg0]at e;cases e⟩) ?_;refine Z_4 ?_;refine Zra ?_;refine⟨?_,rfl⟩;rw[hp,hg0,Bool.false_and]
theorem IX(A:Option Addr)(n c:Nat)(xs:List Int)(w:World)(h:Rd w .u8 A n c xs)(hn:n<=140737488355328):Ctr prog 169 [.slice A n c] w [] (λv cs=>∃A' c',v= .slice A' n c'/\cs=[sl .u8 5 A' n c' xs]):=by
 refine bN func169 rfl ntmps169 rfl (Inv.start w) ?_;refine gR ?_;refine ZW ?_ ?_<;>intro hc1
 .obtain rfl:A=none:=by simpa using hc1
  obtain⟨rfl,rfl⟩:=h.nil rfl;obtain rfl:xs=[]:=by have:=h.len;simpa[ints]using this
  refine Z_2 ?_;refine dC 5 1 ?_;refine Z_5 ?_;refine Zrb ([slv _ _ _ _ _ _]) ?_;exact⟨_,_,rfl,rfl⟩
 refine Z_4 ?_;refine jO ?_;rintro _ _ ⟨b5,rfl,rfl⟩;refine ZA ?_;refine gj (cD (e:=5) (sz:=1) (bytes:=1) rfl rfl Za rfl rfl (λw hi=>h.MZ hi) cN gS Wq1) rfl ?_;rintro _ _ ⟨A',c',rfl,rfl⟩;simp only[bE,aO];refine Z_4 ?_;refine Zrb ([slv _ _ _ _ _ _]) ?_;exact⟨_,_,rfl,rfl⟩
abbrev zJ(bc ml b2 b3 b5:Nat)(r0 r1 r3:Value)(Ap:Option Addr)(cp:Nat)(MK:List Int)(r:Int×List (Ky×LS)):List bL:=
 [row b2 [.pointer (some ⟨bc,0,none⟩)] 131,row b3 [.slice Ap MK.length cp] 60,sl .i64 3 Ap MK.length cp MK,row b5 [.int .i64 r.1] 3,caR bc r0 r1 (.map (some ml)) r3,mpc ml (lkV r.2),dp (lkC r.2)]
abbrev eM(MK:List Int)(x:BA):Bool:=MK.contains (x.b.key.2/64)
theorem Lu(bc ml b2 b3 b5:Nat)(r0 r1 r3:Value)(Ap:Option Addr)(cp:Nat)(MK:List Int)(r:Int×List (Ky×LS))(x:BA)(hx:lc x.b.key)(hsm:LkSm r.2)(w:World)(hi:Inv w (bM (zJ bc ml b2 b3 b5 r0 r1 r3 Ap cp MK r)) (zJ bc ml b2 b3 b5 r0 r1 r3 Ap cp MK r) w):
  Ctr prog 100 ([]++[.agg x.cells.toArray]++[.pointer (some ⟨b3,0,none⟩),.pointer (some ⟨b2,0,none⟩),.pointer (some ⟨b5,0,none⟩)]) w (zJ bc ml b2 b3 b5 r0 r1 r3 Ap cp MK r) (λv cs=>v= .bool (eM MK x)/\cs=zJ bc ml b2 b3 b5 r0 r1 r3 Ap cp MK (ng (eM MK) r x)):=by
 obtain⟨k0,k1⟩:=hx.2;have hd:=u32_div hx.2;obtain⟨D,hD⟩:=Zgn (eM MK x);have hD2:MK.contains (x.b.key.2/64)=D:=hD;have HC:=oA Ap cp MK (x.b.key.2/64);rw[hD2]at HC;have ht:D=true->ng (eM MK) r x=(IntKind.i64.wrap (r.1+1),gU r.2 x.key):=λe=>by unfold ng;rw[hD,e,ac]
 have hf:D=false->ng (eM MK) r x=r:=λe=>by unfold ng;rw[hD,e,aa]
 rw[hD];refine bN func100 rfl ntmps100 rfl hi ?_;refine Z_2 ?_;refine ZO λb4=>?_;refine Z_9 ?_;refine Zy (kp (Zv rfl) (Zv rfl) Wq1 (show _=x.b.key.2/64 from by rw[bD k0,aE];omega)) ?_;refine Zy (ce rfl rfl Zv0 Zl) ?_;refine ZSe (λw hi=>HC w (hi.rd (show Has _ (sl .i64 3 Ap MK.length cp MK)from Zh))) ?_;refine Z_9 ?_;refine ZW ?_ ?_<;>intro hc2
 .refine Z_4 ?_;refine dN (cz (vs:=cC x.b.key) Zrf Zrf Zv0) (cK Zh rfl) rfl ?_;refine ZcL ([caR bc r0 r1 (.map (some ml)) r3,mpc ml (lkV r.2),dp (lkC r.2)]) (λw hi hin=>xR bc ml r0 r1 r3 r.2 hsm x.b.key hx w hin) ?_;rintro _ _ ⟨_,rfl,rfl⟩;refine Z_4 ?_;refine Zy (df Zv0 Zv0 rfl) ?_;refine ZL ?_;refine Z_9 ?_;refine bP (zJ bc ml b2 b3 b5 r0 r1 r3 Ap cp MK (IntKind.i64.wrap (r.1+1),gU r.2 x.key)) Zj ?_;refine zH (cs':=zJ bc ml b2 b3 b5 r0 r1 r3 Ap cp MK (IntKind.i64.wrap (r.1+1),gU r.2 x.key)) (.inl rfl) (aR _) rfl rfl ?_;rw[ht hc2];exact de
 refine Z_9 ?_;refine bP (zJ bc ml b2 b3 b5 r0 r1 r3 Ap cp MK r) Zj ?_;refine zH (cs':=zJ bc ml b2 b3 b5 r0 r1 r3 Ap cp MK r) (.inl rfl) (aR _) rfl rfl ?_;rw[hf hc2];exact de
theorem LN(bc:Nat)(room:Int)(X:CaX)(hX:qa room X)(Ap:Option Addr)(cp:Nat)(MK:List Int)(w:World)(hi:Inv w (bM (caF bc room X++[sl .i64 3 Ap MK.length cp MK])) (caF bc room X++[sl .i64 3 Ap MK.length cp MK]) w):
  Ctr prog 75 [.pointer (some ⟨bc,0,none⟩),.slice Ap MK.length cp] w (caF bc room X++[sl .i64 3 Ap MK.length cp MK]) (λv cs=>v= .int .i64 ((X.Z.filter (eM MK)).length:Int)/\∃X':CaX,cs=caF bc room X'++[sl .i64 3 Ap MK.length cp MK]/\qa room X'/\X'.Z=X.Z.filter λx=> !eM MK x):=by
 have hS:=hX.sm;have hlen:=hX.len;obtain⟨hr1,hr2⟩:=hX.rm;have hba:=hX.ba;have hlk:=hX.lk;obtain⟨ml,Ac,cc,fl,LK,Z⟩:=X;dsimp only at hS hlen hba hlk;have hZ:=hS.1;have HD:=λb2 b3 b5 w hi=>delB_ok (λr:Int×List (Ky×LS)=>dp (zJ bc ml b2 b3 b5 (.int .i64 room) (.slice Ac Z.length cc) (.int .i64 fl) Ap cp MK r)) (λr=>zE (Z.map BA.key) r.2) (ng (eM MK)) (eM MK) 100 [.pointer (some ⟨b3,0,none⟩),.pointer (some ⟨b2,0,none⟩),.pointer (some ⟨b5,0,none⟩)] (λ_ _=>rfl) Z hZ
  (λr x w hok hx hin=>Ctr.mono (Ctr.join hin λhin2=>Lu bc ml b2 b3 b5 (.int .i64 room) (.slice Ac Z.length cc) (.int .i64 fl) Ap cp MK r x (hba x hx).2 (hok.sm (by simpa using hZ)) w hin2)
   (λv cs ⟨cs0,⟨h1,h2⟩,h3⟩=>⟨h1,by rw[h3,h2],by
    show zE (Z.map BA.key) (ng (eM MK) r x).2;unfold ng;cases eM MK x with
    |true=>exact(hok.unlink x.key).1
    |false=>exact hok⟩)) Ac cc (0,LK) hlk w hi
 obtain⟨hf1,hf2, -,hf4⟩:=tT (eM MK) (Z.map BA.key) Z (0,LK) (Int.le_refl _) (by dsimp only;omega) hlk;obtain⟨⟨n9,LK9⟩,h9⟩:=Zgn (Z.foldl (ng (eM MK)) (0,LK));rw[h9]at HD hf1 hf2 hf4;dsimp only at hf1 hf2 hf4;have hsub:(Z.filter λx=> !eM MK x).Sublist Z:=List.filter_sublist;have hOk:∀A c,qa room ⟨ml,A,c,fl,LK9,Z.filter λx=> !eM MK x⟩:=λA c=>⟨⟨hr1,hr2⟩,(by have:=hsub.length_le;dsimp only;omega),(λy hy=>hba y (hsub.subset hy)),λy hy=>⟨(hf2 y hy).1,(hf2 y hy).2.1,λq hq=>by
  obtain⟨z,hz,hzq⟩:=aZ.1 ((hf2 y hy).2.2 q hq);refine aZ.2 ⟨z,List.mem_filter.2 ⟨hz,?_⟩,hzq⟩;cases hD:eM MK z with
  |false=>rfl
  |true=>exact absurd hzq.symm (hf4 y hy q hq z hz hD)⟩⟩
 refine bN func75 rfl ntmps75 rfl hi ?_;refine Z_2 ?_;refine ZO λb2=>?_;refine ZO λb3=>?_
 refine Z_5 ?_;refine ZN λb5=>?_;refine ZL ?_;refine Z_3 ?_;refine bU ⟨λj=>List.elem j [6,9],sQ b2 [.pointer (some ⟨bc,0,none⟩)]⟩ Zk ?_;refine iV 0 rfl Zk Zk Zk (bQ Zrf (rc rfl)) Wq2 ((by first|(refine bV (t:=131) ?_;(repeat (first|exact .head _ _|apply Has.tail));done)|(refine nE (t:=131) (cin:=zJ bc ml b2 b3 b5 (.int .i64 room) (.slice Ac Z.length cc) (.int .i64 fl) Ap cp MK (n9,LK9)) ?_ (List.mem_cons_self ..);(repeat (first|exact .head _ _|apply Has.tail));done))) rfl ?_;refine iV 1 rfl Zk Zk Zk (bQ Zrf (rc rfl)) Wq2 ((by first|(refine bV (t:=131) ?_;(repeat (first|exact .head _ _|apply Has.tail));done)|(refine nE (t:=131) (cin:=zJ bc ml b2 b3 b5 (.int .i64 room) (.slice Ac Z.length cc) (.int .i64 fl) Ap cp MK (n9,LK9)) ?_ (List.mem_cons_self ..);(repeat (first|exact .head _ _|apply Has.tail));done))) rfl ?_;refine ZE 2 ?_;refine ZFe 3 1 ?_;refine ZG 4 ?_;refine cG 5 rfl Zk Zk Zk (lL rfl) rfl ?_;refine cn 6 Zk ?_;refine wi_inv (cs':=dp (zJ bc ml b2 b3 b5 (.int .i64 room) (.slice Ac Z.length cc) (.int .i64 fl) Ap cp MK (0,LK))::[slv 172 4 Ac Z.length cc (Z.flatMap BA.cells),dp (Z.map baC)]) (λw hi=>hi.Od Zi) ?_;refine kf rfl rfl (dY ([slv 172 4 Ac Z.length cc (Z.flatMap BA.cells),dp (zJ bc ml b2 b3 b5 (.int .i64 room) (.slice Ac Z.length cc) (.int .i64 fl) Ap cp MK (0,LK))]) rfl (λ_ _=>rfl) Zi (λw hi hin=>HD b2 b3 b5 w hin)) (λ_=>by rintro _ _ ⟨_,⟨rfl,rfl⟩,rfl⟩;exact(by first|(refine bV (t:=131) ?_;(repeat (first|exact .head _ _|apply Has.tail));done)|(refine nE (t:=131) (cin:=zJ bc ml b2 b3 b5 (.int .i64 room) (.slice Ac Z.length cc) (.int .i64 fl) Ap cp MK (n9,LK9)) ?_ (List.mem_cons_self ..);(repeat (first|exact .head _ _|apply Has.tail));done))) rfl ?_;rintro _ _ ⟨_,⟨rfl,rfl⟩,rfl⟩;refine wa_inv (cs':=zJ bc ml b2 b3 b5 (.int .i64 room) (.slice Ac Z.length cc) (.int .i64 fl) Ap cp MK (n9,LK9)++[slv 172 4 Ac (Z.filter λx=> !eM MK x).length cc ((Z.filter λx=> !eM MK x).flatMap BA.cells),dp (Z.map baC)]) (λw hi=>(hi.perm (List.Perm.swap ..)).NY) ?_;refine ZE 7 ?_;refine ZFe 8 1 ?_;refine cn 9 Zk ?_;refine du rfl rfl (fq Zrf rfl rfl rfl Za Zp) (λ_=>by rintro _ _ ⟨rfl,rfl⟩;exact(by first|(refine bV (t:=131) ?_;(repeat (first|exact .head _ _|apply Has.tail));done)|(refine nE (t:=131) (cin:=zJ bc ml b2 b3 b5 (.int .i64 room) (.slice Ac Z.length cc) (.int .i64 fl) Ap cp MK (n9,LK9)) ?_ (List.mem_cons_self ..);(repeat (first|exact .head _ _|apply Has.tail));done))) ?_;rintro _ _ ⟨rfl,rfl⟩;refine dx ?_;refine Z_8 ?_;refine og (cin:=Z.map baC) (cin':=(Z.filter λx=> !eM MK x).map baC) Zd (hsub.map _) ?_;refine bP (caF bc room ⟨ml,Ac,cc,fl,LK9,Z.filter λx=> !eM MK x⟩++[sl .i64 3 Ap MK.length cp MK]) Zj ?_;refine zH (cs':=caF bc room ⟨ml,Ac,cc,fl,LK9,Z.filter λx=> !eM MK x⟩++[sl .i64 3 Ap MK.length cp MK]) (.inl rfl) (aR _) rfl rfl ?_;refine⟨by rw[hf1];show Value.int .i64 (0+_)=_;rw[Int.zero_add],⟨ml,Ac,cc,fl,LK9,Z.filter λx=> !eM MK x⟩,rfl,hOk _ _,rfl⟩
end Go.Proofs.YtkegldppffignaaGreatDoor
namespace Go.Ink
open Go.RowKit
theorem wc_inv{C:Cx}{Q:lK}{fr:Fr}{cs cs':List bL}{x:Code}(hc:∀w,Inv C.w0 C.S cs w->Inv C.w0 C.S cs' w)(h:WC C x Q fr cs'):WC C x Q fr cs:=λa w hf hi=>h a w hf (hc w hi)
def ib(LK:List (Ky×LS))(k:Ky):LS:=gq LK k LS.zero
theorem mV{LK:List (Ky×LS)}{k:Ky}(h:cS (·.1) k LK=none):ib LK k=LS.zero:=sS h _
theorem mU{LK:List (Ky×LS)}{k:Ky}{j:Nat}(h:cS (·.1) k LK=some j):∃x,LK[j]? =some (k,x)/\ib LK k=x:=by
 obtain⟨hj,hk⟩:=fH h;have hx:LK[j]? =some (k,LK[j].2):=by rw[ai hj,<-hk]
 exact⟨_,hx,qk h hx _⟩
theorem G5(LK:List (Ky×LS))(k:Ky):gq (lkV LK) k (.slice none 0 0)=(ib LK k).v:=wP LS.v LK k LS.zero
theorem yL(LK:List (Ky×LS))(k:Ky):cS (·.1) k (lkV LK)=cS (·.1) k LK:=ki (key:=λx:Ky×LS=>x.1) (key':=λx:Ky×Value=>x.1) (λx:Ky×LS=>(x.1,x.2.v)) Zrf k LK
theorem ment_at(LK:List (Ky×LS))(k:Ky):(sY (lkV LK) k (.slice none 0 0))[xf (lkV LK) k]? =some (k,(ib LK k).v):=by
 unfold sY xf;rw[yL];cases h:cS (λx:Ky×LS=>x.1) k LK with
 |some j=>
  obtain⟨x,hx,hl⟩:=mU h;dsimp only[Option.getD_some];unfold lkV;rw[bh,hx,hl]
  rfl
 |none=>
  dsimp only[Option.getD_none];rw[mV h];simp[LS.v,LS.zero]
theorem KD(LK:List (Ky×LS))(k:Ky)(x:LS):(sY (lkV LK) k (.slice none 0 0)).set (xf (lkV LK) k) (k,x.v)=lkV (dL LK k x):=by
 unfold sY xf dL;rw[yL];cases h:cS (λx:Ky×LS=>x.1) k LK with
 |some j=>
  dsimp only[Option.getD_some];unfold lkV;rw[List.map_set]
 |none=>
  dsimp only[Option.getD_none];unfold lkV;simp
theorem zE.put{keys:List Ky}{LK:List (Ky×LS)}(h:zE keys LK){f t:Ky}(hf:lc f)(ht:t∈keys)(hn:t∉(ib LK f).ks)(A:Option Addr)(c:Nat):zE keys (dL LK f ⟨A,c,(ib LK f).ks++[t]⟩):=by
 have hl:(ib LK f).ks.Nodup/\∀q,q∈(ib LK f).ks->q∈keys:=by
  cases hp:cS (λx:Ky×LS=>x.1) f LK with
  |some j=>obtain⟨x,hx,hl⟩:=mU hp;rw[hl];exact(h _ (aD hx)).2
  |none=>rw[mV hp];exact⟨List.nodup_nil,λq hq=>nomatch hq⟩
 have hnew:lc f/\((ib LK f).ks++[t]).Nodup/\∀q,q∈(ib LK f).ks++[t]->q∈keys:=by
  refine⟨hf,?_,λq hq=>?_⟩
  .rw[List.nodup_append];exact⟨hl.1,by simp,λa ha b hb=>by rw[aK]at hb;subst hb;exact λe=>hn (e▸ha)⟩
  rcases aS.1 hq with hq|hq
  .exact hl.2 q hq
  rw[aK]at hq;rw[hq];exact ht
 intro x hx;unfold dL at hx;cases hp:cS (λx:Ky×LS=>x.1) f LK with
 |some j=>
  rw[hp]at hx;rcases List.mem_or_eq_of_mem_set hx with hx|rfl
  .exact h x hx
  exact hnew
 |none=>
  rw[hp]at hx;rcases aS.1 hx with hx|hx
  .exact h x hx
  rw[aK]at hx;rw[hx];exact hnew
end Go.Ink
namespace Go.Proofs.YtkegldppffignaaGreatDoor
open Go.RowKit Go.Ink Go.Proofs.Tryz
attribute [local irreducible] OpY bS
def vx(LK:List (Ky×LS))(k:Ky):List bL:=match cS (·.1) k LK with|some j=>(lkC LK).eraseIdx j|none=>lkC LK
theorem KO{LK:List (Ky×LS)}{k:Ky}{j:Nat}{x:LS}(h:cS (·.1) k LK=some j)(hx:LK[j]? =some (k,x)):(lkC LK).Perm (lsC x::(lkC LK).eraseIdx j):=nH (by unfold lkC;rw[bh,hx];rfl)
theorem lkTake{w0 w:World}{S:List Nat}{LK:List (Ky×LS)}{rest:List bL}(k:Ky)(h:Inv w0 S (dp (lkC LK)::rest) w):Inv w0 S (lsC (ib LK k)::dp (vx LK k)::rest) w:=by
 unfold vx;cases hp:cS (λx:Ky×LS=>x.1) k LK with
 |some j=>
  obtain⟨x,hx,hl⟩:=mU hp;rw[hl];exact h.NR (KO hp hx)
 |none=>
  rw[mV hp];exact(h.more (xn w [] 134 2)).perm (List.perm_append_singleton _ _)
theorem lkPut(LK:List (Ky×LS))(k:Ky)(x:LS):(lkC (dL LK k x)).Perm (lsC x::vx LK k):=by
 unfold vx dL;cases hp:cS (λx:Ky×LS=>x.1) k LK with
 |some j=>
  obtain⟨hj, -⟩:=fH hp;dsimp only;unfold lkC;rw[List.map_set];exact rR (by simpa using hj)
 |none=>
  dsimp only;unfold lkC;rw[List.map_append];exact List.perm_append_singleton _ _
theorem Hn(A:Option Addr)(c:Nat)(l:List Ky)(x:Ky)(w:World)(h:RdV w 2 A l.length c (l.flatMap cC)):Ctr prog 189 [.slice A l.length c,.agg (cC x).toArray] w [] (λv cs=>(∃z,v= .int .i64 z/\decide (0<=z)=l.contains x)/\cs=[]):=by
 have hlm:=aW h.cap h.max;simp only[maxLen]at hlm;refine bN func189 rfl ntmps189 rfl (Inv.start w) ?_;refine Z_2 ?_;refine ZO λb3=>?_;refine gR ?_;refine cq (λk:Nat=>[(0,.slice A l.length c),(3,.pointer (some ⟨b3,0,none⟩)),(7,.int .i64 (l.length:Int)),(8,.int .i64 (k:Int))]) (λ_=>[kyR b3 x]) (λk=>k<=l.length/\(l.drop k).contains x=l.contains x) (λk=>l.length - k) (0) ?_ ?_ ?_ ?_
 .exact⟨aq _,rfl⟩
 .exact Zwk
 .exact Zu
 rintro k ⟨hk,hc⟩;refine Z_6 ?_;refine ZW ?_ ?_<;>intro hc2
 .simp only[aj]at hc2;have hkl:k<l.length:=Wq1;obtain⟨ad,had⟩:=h.some_ Wq1;have h2:=h;rw[had]at h2;obtain⟨y,hy⟩:∃y,l[k]? =some y:=⟨_,ai hkl⟩;rw[pU hy]at hc;refine fE ?_;refine bU ⟨λj=>List.elem j [],[]⟩ Zk ?_;refine ZI 0 ?_;refine ZE 1 ?_;refine ZE 2 ?_;refine cG 3 rfl Zk Zk Zk (fg (j:=k) had rfl Zrf Zv0 Zv0 Zrf (λ_=>hkl)) rfl ?_;refine dD 4 rfl Zk Zk Zk Zk (cz (vs:=cC y) Zrf Zrf Zv0) (fv h2 (λi v hi=>fK (f:=cC) Zrf (i:=i) hy hi)) rfl ?_;refine cG 5 rfl Zk Zk Zk (EW tz (AP x y) (Zv rfl) (Zv rfl)) rfl ?_;refine dx ?_;refine Zt ?_;refine ZW ?_ ?_<;>intro hc4
  .have hcx:l.contains x=true:=(by rw[<-hc,List.contains_cons,hc4,Bool.true_or]);refine gR ?_;refine Zra ?_;exact⟨⟨_,rfl,by rw[hcx];exact ax Wq1⟩,rfl⟩
  rw[List.contains_cons,hc4,Bool.false_or]at hc;refine Z_4 ?_;refine Wq8 ?_;refine dW (k+1) ?_ ?_ ?_
  .exact⟨⟨by omega,hc⟩,by omega⟩
  .exact Zwk
  exact Zu
 simp only[ah]at hc2;obtain rfl:k=l.length:=Wq1;rw[List.drop_length]at hc;refine fE ?_;refine Zra ?_;exact⟨⟨_,rfl,by rw[<-hc];rfl⟩,rfl⟩
theorem zp(A:Option Addr)(c:Nat)(l:List Ky)(x:Ky)(w:World)(h:RdV w 2 A l.length c (l.flatMap cC)):Ctr prog 157 [.slice A l.length c,.agg (cC x).toArray] w [] (λv cs=>v= .bool (l.contains x)/\cs=[]):=by
 refine bN func157 rfl ntmps157 rfl (Inv.start w) ?_;refine Z_2 ?_;refine ZO λb3=>?_;refine Z_7 ?_;refine ZS (λw hi=>Hn A c l x w (h.MZ hi)) ?_;rintro _ _ ⟨_,⟨⟨z,rfl,hz⟩,rfl⟩,rfl⟩;refine Z_5 ?_;refine Zra ?_;exact⟨by rw[<-hz],rfl⟩
theorem link_rd{w:World}{LK:List (Ky×LS)}{k:Ky}(h:(dp (lkC LK)).ok w):RdV w 2 (ib LK k).A (ib LK k).ks.length (ib LK k).c ((ib LK k).ks.flatMap cC):=by
 cases hp:cS (λx:Ky×LS=>x.1) k LK with
 |some j=>
  obtain⟨x,hx,hl⟩:=mU hp;rw[hl];exact dk (rX h (lsC x) (aZ.2 ⟨_,aD hx,rfl⟩))
 |none=>
  rw[mV hp];exact⟨rfl,aM _,aq _,λ_=>⟨rfl,rfl⟩,λad e=>nomatch e⟩
theorem LF(bc:Nat)(room:Int)(X:CaX)(hX:qa room X)(f t:Ky)(hkf:lc f)(w:World)(hi:Inv w (bM (caF bc room X)) (caF bc room X) w):
  Ctr prog 132 [.pointer (some ⟨bc,0,none⟩),.agg (cC f).toArray,.agg (cC t).toArray] w (caF bc room X) (λ_ cs=>∃X':CaX,cs=caF bc room X'/\qa room X'/\X'.Z=X.Z):=by
 have hS:=hX.sm;have hlk:=hX.lk;have hX2:∀LK,zE (X.Z.map BA.key) LK->qa room ⟨X.ml,X.Ac,X.cc,X.fl,LK,X.Z⟩:=λLK h=>⟨hX.rm,hX.len,hX.ba,h⟩
 obtain⟨ml,Ac,cc,fl,LK,Z⟩:=X;dsimp only at hS hlk hX2;have hZ:=hS.1;have HP:=tY bc (.int .i64 room) (.map (some ml)) (.int .i64 fl) Ac cc Z hZ;have hgv:=G5 LK f;have hget:∀L,gq (lkV LK) f (.slice none 0 0)=L->L=(ib LK f).v:=λL e=>e▸hgv
 refine bN func132 rfl ntmps132 rfl hi ?_;refine Z_2 ?_;refine ZO λb4=>?_;refine ZO λb5=>?_
 refine Z_5 ?_;rcases ho1:cS BA.key f Z with _|j1
 .refine Z_3 ?_;refine ZcM ([caR bc (.int .i64 room) (.slice Ac Z.length cc) (.map (some ml)) (.int .i64 fl),slv 172 4 Ac Z.length cc (Z.flatMap BA.cells)]) (λw hi hin=>HP f w hin) ?_;rw[ho1];refine Z_2 ?_;refine eZ (cy rfl rfl) rfl rfl ?_;refine eZ (cy rfl rfl) rfl rfl ?_;refine eZ (cy rfl rfl) rfl rfl ?_;refine eZ (cy rfl rfl) rfl rfl ?_;refine Zy (y_or (q:=false) (Zv rfl) ⟨_,rfl,λ_ e=>absurd e Wq5⟩) ?_;refine Z_2 ?_;refine bW rfl (rfl) ?_;refine Z_7 ?_;refine bP (caF bc room ⟨ml,Ac,cc,fl,LK,Z⟩) Zj ?_;refine zH (cs':=caF bc room ⟨ml,Ac,cc,fl,LK,Z⟩) (.inl rfl) (aR _) rfl rfl ?_;exact⟨_,rfl,hX,rfl⟩
 refine Z_3 ?_;refine ZcM ([caR bc (.int .i64 room) (.slice Ac Z.length cc) (.map (some ml)) (.int .i64 fl),slv 172 4 Ac Z.length cc (Z.flatMap BA.cells)]) (λw hi hin=>HP f w hin) ?_;rw[ho1];refine Z_3 ?_;refine jl (cy rfl rfl) Zh Zrf Zrf (Zv rfl) rfl ?_;refine fF (cy rfl rfl) (by rw[show decide (EP (some j1)<0)=false from aw (by show¬((j1:Nat):Int)<0;omega)];rfl) (dY ([caR bc (.int .i64 room) (.slice Ac Z.length cc) (.map (some ml)) (.int .i64 fl),slv 172 4 Ac Z.length cc (Z.flatMap BA.cells)]) rfl (λ_ _=>rfl) Zi (λw hi hin=>HP t w hin)) rfl ?_;rintro _ _ ⟨_,⟨rfl,rfl⟩,rfl⟩;refine Z_4 ?_;refine ZW ?_ ?_<;>intro hc1
 .refine Z_7 ?_;refine bP (caF bc room ⟨ml,Ac,cc,fl,LK,Z⟩) Zj ?_;refine zH (cs':=caF bc room ⟨ml,Ac,cc,fl,LK,Z⟩) (.inl rfl) (aR _) rfl rfl ?_;exact⟨_,rfl,hX,rfl⟩
 have htk:t∈Z.map BA.key:=(by cases ho2:cS BA.key t Z with|none=>rw[ho2]at hc1;simp[EP]at hc1|some j2=>obtain⟨x2,hx2,hxk2, -⟩:=qF ho2;exact aZ.2 ⟨x2,aD hx2,hxk2⟩);refine Z_2 ?_;refine da (λY:CaX=>[(6,.bool false)]) (λY=>caF bc room Y) (λY=>qa room Y/\Y.Z=Z) ?_ ?_
 .refine Zs (bU ⟨λj=>List.elem j [],[]⟩ Zk ?_);refine gO ?_;refine ZFe 2 2 ?_;refine ZG 3 ?_;refine ZI 4 ?_;refine ZI 6 ?_;refine cn 5 Zk ?_;refine Db rfl (zN (Zv rfl) (Zv rfl) hkf rfl yM Zrf) (λw hi=>(show nv ml (lkV LK) w from hi.get (show Has _ (mpc ml (lkV LK))from Zh))) rfl ?_;refine cn 7 Zk ?_;rw[G5 LK f];refine ZT (λw hi=>zp (ib LK f).A (ib LK f).c (ib LK f).ks t w (link_rd (hi.get (show Has _ (dp (lkC LK))from Zh)))) ?_;rintro _ _ ⟨_,⟨rfl,rfl⟩,rfl⟩;refine ZE 8 ?_;refine dx ?_;refine Zt ?_;refine ZW ?_ ?_<;>intro hc3
  .have hnt:t∉(ib LK f).ks:=(by intro hm;have h9:(!(ib LK f).ks.contains t)=true:=hc3;rw[List.contains_iff_mem.2 hm]at h9;cases h9);have hxl:(ib LK f).ks.length<=1000000:=(by cases hp:cS (λx:Ky×LS=>x.1) f LK with|some j=>obtain⟨x,hx,hl⟩:=mU hp;rw[hl];exact((hlk.sm (by simpa using hZ)) _ (aD hx)).2|none=>rw[mV hp];exact aq _);obtain⟨⟨Ax,cx,kx⟩,hlx⟩:=Zgn (ib LK f);refine wc_inv (cs':=lsC (ib LK f)::dp (vx LK f)::[caR bc (.int .i64 room) (.slice Ac Z.length cc) (.map (some ml)) (.int .i64 fl),slv 172 4 Ac Z.length cc (Z.flatMap BA.cells),dp (Z.map baC),mpc ml (lkV LK),kyR b4 f,kyR b5 t]) (λw hi=>lkTake f (hi.pick (cs':=dp (lkC LK)::[caR bc (.int .i64 room) (.slice Ac Z.length cc) (.map (some ml)) (.int .i64 fl),slv 172 4 Ac Z.length cc (Z.flatMap BA.cells),dp (Z.map baC),mpc ml (lkV LK),kyR b4 f,kyR b5 t]) Zj)) ?_;refine iR ⟨λj=>List.elem j [7,9,11],[]⟩ [(0,0),(1,0),(2,0),(3,4),(4,4),(5,4),(6,2),(7,2),(8,0),(10,0),(9,2),(11,2)] Zk Zk ?_;refine cW rfl (fZ Zv0) rfl ?_;refine cW rfl (CY Zv0) rfl ?_;refine cW rfl (dT 2 rfl Zv0 Zf) rfl ?_;refine jB rfl (bQ Zrf Zv0) (cu Zh rfl) rfl ?_;refine kq rfl Zh Zrf Zrf (Zv rfl) rfl ?_;refine kq rfl Zh Zrf Zrf (Zv rfl) rfl ?_;refine fo rfl ?_;refine dO rfl rfl (iw rfl rfl Zrf Zrf rfl rfl rfl) ZJ rfl ?_;rintro _ _ ⟨b33,rfl,rfl⟩;refine fo rfl ?_;refine dO rfl rfl (JM rfl rfl hkf rfl yM Zrf Za) ZJ rfl ?_;rintro _ _ ⟨st34,rfl,rfl⟩;refine cW rfl (gu Zv0 (.zero _ _)) rfl ?_;refine cW rfl (gu Zv0 (.succ _ (.zero _ _))) rfl ?_;refine fo rfl ?_;rw[G5 LK f];refine dO rfl rfl (cD (n:=(ib LK f).ks.length) (e:=134) (sz:=2) (bytes:=8) rfl rfl Za rfl rfl (λw hi=>hi.rd (show Has _ (slv 134 2 (some ⟨b33,0,none⟩) 1 1 (cC t))from Zh)) (tx t) gS Wq1) ZJ rfl ?_;rintro _ _ ⟨A9,c9,rfl,rfl⟩;rw[show(ib LK f).ks.flatMap cC++cC t=((ib LK f).ks++[t]).flatMap cC by simp,show(ib LK f).ks.length+1=((ib LK f).ks++[t]).length by simp];refine fo rfl ?_;refine eX rfl rfl (FO (ment_at LK f) rfl rfl rfl Za) ZJ ?_;rintro _ _ ⟨rfl,rfl⟩;refine eU ?_;refine kS (c:=mpc ml ((sY (lkV LK) f (.slice none 0 0)).set (xf (lkV LK) f) (f,(LS.mk A9 c9 ((ib LK f).ks++[t])).v))) (c':=mpc ml (lkV (dL LK f ⟨A9,c9,(ib LK f).ks++[t]⟩))) Za rfl (λw h=>by rw[<-KD];exact h) ?_
   refine ky (cin:=vx LK f) (c:=lsC ⟨A9,c9,(ib LK f).ks++[t]⟩) (cin':=lkC (dL LK f ⟨A9,c9,(ib LK f).ks++[t]⟩)) Zd Zd (lkPut LK f _) ?_;refine bX ((⟨ml,Ac,cc,fl,dL LK f ⟨A9,c9,(ib LK f).ks++[t]⟩,Z⟩:CaX)) ?_ ?_ ?_
   .exact⟨hX2 _ (hlk.put hkf htk hnt _ _),rfl⟩
   .exact Zwk
   exact Zj
  refine Zc ?_;refine bX ((⟨ml,Ac,cc,fl,LK,Z⟩:CaX)) ?_ ?_ ?_
  .exact⟨hX,rfl⟩
  .exact Zwk
  exact Zj
 rintro Y ⟨hY,hYZ⟩;refine Z_6 ?_
 skip
 refine zH (cs':=caF bc room Y) (.inl rfl) (aR _) rfl rfl ?_;exact⟨Y,rfl,hY,hYZ⟩
end Go.Proofs.YtkegldppffignaaGreatDoor
namespace Go.Ink
open Go.RowKit
structure RS where
 r:Rn
 A:Option Addr
 c:Nat
def RS.cells(x:RS):List Value:=[.slice x.A x.r.bytes.length x.c,.bool x.r.ends]
def RS.v(x:RS):Value:= .agg x.cells.toArray
def RS.zero:RS:=⟨Rn.zero,none,0⟩
def rnV(RZ:List (Ky×RS)):List (Ky×Value):=RZ.map λx=>(x.1,x.2.v)
def rnM(RZ:List (Ky×RS)):List (Ky×Rn):=RZ.map λx=>(x.1,x.2.r)
theorem gn(x:RS):∀u∈x.cells,u.oneCell'=true:=λu h=>by
 simp only[RS.cells,aJ,aY,or_false]at h;rcases h with rfl|rfl<;>rfl
theorem it_cur{b r:Nat}{L:List (Bool×Ky×Value)}{cur:Option (Ky×Value)}{w:World}(h:xK b r L cur w):xK b r L none w:=by
 obtain⟨es,clock,since,seen,c0,hb,hs,hr,hold,hsc,hsk,hL,hok,hne,hcur⟩:=h;exact⟨es,clock,since,seen,c0,hb,hs,hr,hold,hsc,hsk,hL,hok,hne,λ_ _ e=>by cases e⟩
structure EnX where
 bc:Nat
 mr:Nat
 room:Int
 X:CaX
 RZ:List (Ky×RS)
 last:Ky
 Nk:Int
 Nh:Int
 begun:Bool
def EnX.eng(E:EnX):Eng:=⟨E.room,E.X.Z.map BA.b,rnM E.RZ,E.last,E.Nk,E.Nh,E.begun⟩
structure oG(E:EnX):Prop where
 ca:qa E.room E.X
 eg:iH E.eng
 rs:∀y,y∈E.RZ->lc y.1/\y.2.r.bytes.length<=1000/\u8s y.2.r.bytes
 last:lc E.last
def gIL(G:List (Bool×Ky×RS)):List (Bool×Ky×Value):=G.map λg=>(g.1,g.2.1,g.2.2.v)
theorem gIL_at{G:List (Bool×Ky×RS)}{j:Nat}{q:Ky}{v:Value}(h:(gIL G)[j]? =some (false,q,v)):∃x,G[j]? =some (false,q,x)/\v=x.v:=by
 unfold gIL at h;rw[bh]at h;cases hg:G[j]? with
 |none=>rw[hg]at h;cases h
 |some g=>
  obtain⟨f,p,x⟩:=g;rw[hg]at h;simp only[Option.map_some,aU,aV]at h;obtain⟨rfl,rfl,rfl⟩:=h;exact⟨x,rfl,rfl⟩
theorem gIL_del{G:List (Bool×Ky×RS)}{j:Nat}{f:Bool}{q:Ky}{x:RS}(hn:(G.map λg=>g.2.1).Nodup)(h:G[j]? =some (f,q,x)):uN (gIL G) q=gIL (G.eraseIdx j):=by
 have hp:cS (λz:Bool×Ky×Value=>z.2.1) q (gIL G)=some j:=by
  have e:cS (λz:Bool×Ky×Value=>z.2.1) q (gIL G)=cS (λg:Bool×Ky×RS=>g.2.1) q G:=ki (key:=λg:Bool×Ky×RS=>g.2.1) (key':=λz:Bool×Ky×Value=>z.2.1) (λg:Bool×Ky×RS=>(g.1,g.2.1,g.2.2.v)) Zrf q G;rw[e];cases hp:cS (λg:Bool×Ky×RS=>g.2.1) q G with
  |none=>exact absurd rfl (iF hp _ (aD h))
  |some i=>
   obtain⟨hi,hk⟩:=fH hp;obtain⟨hj,hje⟩:=au.1 h;have:i=j:=(List.getElem_inj (xs:=G.map λg=>g.2.1) (h₀:=by simpa using hi) (h₁:=by simpa using hj) hn).1 (by simp[hk,hje]);rw[this]
 unfold uN;rw[hp];dsimp only;unfold gIL;rw[ChangeMaps.map_eraseIdx]
theorem yl{α:Type}:∀(l:List α) (j:Nat) (x:α),(l.set j x).eraseIdx j=l.eraseIdx j
 |[],_,_=>rfl
 |_::_,0,_=>rfl
 |a::l,j+1,x=>by
  show a::(l.set j x).eraseIdx j=a::l.eraseIdx j;rw[yl l j x]
theorem q9{α:Type}{f:α->Bool}:∀{l:List α} {j:Nat} {x:α},l[j]? =some x->f x=false->(l.eraseIdx j).filter f=l.filter f
 |[],j,x,h,_=>by simp at h
 |a::l,0,x,h,hf=>by
  obtain rfl:a=x:=by simpa using h
  show l.filter f=_;rw[List.filter_cons,hf];simp
 |a::l,j+1,x,h,hf=>by
  show(a::l.eraseIdx j).filter f=_;rw[List.filter_cons,List.filter_cons,q9 (l:=l) (by simpa using h) hf]
theorem qV{α β:Type}{g:α->β}{l:List α}{j:Nat}{x y:α}(h:l[j]? =some x)(hg:g y=g x):(l.set j y).map g=l.map g:=by
 rw[List.map_set,hg];apply List.ext_getElem?;intro i;rw[List.getElem?_set];by_cases hij:j=i
 .subst hij;have hj:=(au.1 h).1;rw[if_pos rfl,if_pos (by simpa using hj),bh,h]
  rfl
 rw[if_neg hij]
def oW(G:List (Bool×Ky×RS)):Nat:=(G.filter λg=> !g.1).length
theorem uZ:∀{G:List (Bool×Ky×RS)} {j:Nat} {x:Ky×RS},G[j]? =some (false,x)->oW (G.set j (true,x))<oW G
 |[],j,x,h=>by simp at h
 |g::G,0,x,h=>by
  obtain rfl:g=(false,x):=by simpa using h
  simp[oW]
 |g::G,j+1,x,h=>by
  have:=uZ (G:=G) (j:=j) (x:=x) (by simpa using h);unfold oW at this|-;rw[List.set_cons_succ,List.filter_cons,List.filter_cons];cases g.1<;>simp<;>exact this
theorem qP:∀{G:List (Bool×Ky×RS)} {j:Nat} {x:Ky×RS},G[j]? =some (false,x)->oW (G.eraseIdx j)<oW G
 |[],j,x,h=>by simp at h
 |g::G,0,x,h=>by
  obtain rfl:g=(false,x):=by simpa using h
  simp[oW]
 |g::G,j+1,x,h=>by
  have:=qP (G:=G) (j:=j) (x:=x) (by simpa using h);unfold oW at this|-;show((g::G.eraseIdx j).filter _).length<_;rw[List.filter_cons,List.filter_cons];cases g.1<;>simp<;>exact this
theorem yO(Z:List BA)(RZ:List (Ky×RS)):uM (Z.map BA.b) (rnM RZ)=rnM (RZ.filter λx=>Z.any λt=>t.key==x.1):=by
 unfold uM rnM;rw[List.filter_map];congr 1;apply List.filter_congr;intro x _;simp only[Function.comp,List.any_map]
 rfl
theorem LR(Z:List BA)(k:Ky):(Z.any λt=>t.key==k)=(Z.find? λt=>t.key==k).isSome:=by
 rw[Bool.eq_iff_iff,List.any_eq_true,List.find?_isSome]
theorem Ls(Z:List BA)(MK:List Int):(Z.map BA.b).filter (λt=> !MK.contains (t.key.2/64))=(Z.filter λx=> !MK.contains (x.b.key.2/64)).map BA.b:=by
 rw[List.filter_map]
 rfl
theorem vH{α:Type}(D:α->Bool):∀l:List α,(l.filter D).length+(l.filter λx=> !D x).length=l.length
 |[]=>rfl
 |x::l=>by
  have:=vH D l;rw[List.filter_cons,List.filter_cons];cases D x<;>simp<;>omega
end Go.Ink
namespace Go.Proofs.YtkegldppffignaaGreatDoor
open Go.RowKit Go.Ink Go.Proofs.Tryz
attribute [local irreducible] OpY bS
abbrev rsC(x:RS):bL:=sl .u8 5 x.A x.r.bytes.length x.c x.r.bytes
def rnC(RZ:List (Ky×RS)):List bL:=RZ.map λx=>rsC x.2
abbrev enR(be:Nat)(E:EnX):bL:=row be [.pointer (some ⟨E.bc,0,none⟩),.map (some E.mr),.int .u32 E.last.1,.int .u32 E.last.2,.int .i64 E.Nk,.int .i64 E.Nh,.bool E.begun] 136
abbrev enF(be:Nat)(E:EnX):List bL:=[enR be E,caR E.bc (.int .i64 E.room) (.slice E.X.Ac E.X.Z.length E.X.cc) (.map (some E.X.ml)) (.int .i64 E.X.fl),blC E.X,dp (E.X.Z.map baC),mpc E.X.ml (lkV E.X.LK),dp (lkC E.X.LK),mpc E.mr (rnV E.RZ),dp (rnC E.RZ)]
theorem CD(x:RS)(n:Int)(w:World):Ctr prog 109 [.agg x.cells.toArray,.int .i64 n] w [] (λv cs=>v= .int .i64 (bif n==0 then 0 else(x.r.bytes.length:Int))/\cs=[]):=by
 refine bN func109 rfl ntmps109 rfl (Inv.start w) ?_;refine Z_2 ?_;refine ZO λb2=>?_;refine dS ?_;refine ZW ?_ ?_<;>intro hc1
 .refine Z_7 ?_;refine Zra ?_;rw[hc1];exact de
 refine fE ?_;refine Zra ?_;rw[hc1];exact de
theorem enew_ok(room:Int)(w:World):Ctr prog 56 [.int .i64 room] w [] (λv cs=>if 1<=room/\room<=1024 then∃be bc mr ml,v= .tuple #[.pointer (some ⟨be,0,none⟩),.int .i64 0]/\cs=enF be ⟨bc,mr,room,⟨ml,none,0,0,[],[]⟩,[],(0,0),0,0,false⟩else v= .tuple #[.pointer none,.int .i64 1]/\cs=[]):=by
 have HN:=cnew_ok room;refine bN func56 rfl ntmps56 rfl (Inv.start w) ?_;by_cases hr:1<=room/\room<=1024
 .have HN2:∀w,Ctr prog 88 [.int .i64 room] w [] (λv cs=>∃bc ml,v= .tuple #[.pointer (some ⟨bc,0,none⟩),.int .i64 0]/\cs=caF bc room ⟨ml,none,0,0,[],[]⟩):=λw=>Ctr.mono (HN w) λv cs h=>by rw[if_pos hr]at h;exact h
  refine Z_9 ?_;refine ZS (λw hi=>HN2 w) ?_;rintro _ _ ⟨_,⟨bc,ml,rfl,rfl⟩,rfl⟩;refine gy ?_;refine fS ?_;refine Z_4 ?_;refine oM ?_;refine ZA ?_;refine gj (z6 rfl) rfl ?_;rintro _ _ ⟨b15,rfl,rfl⟩;refine ZA ?_;refine ZO λb17=>?_
  refine Z_5 ?_;refine bP (enF b17 ⟨bc,b15,room,⟨ml,none,0,0,[],[]⟩,[],(0,0),0,0,false⟩) Zj ?_;refine rx (cs':=enF b17 ⟨bc,b15,room,⟨ml,none,0,0,[],[]⟩,[],(0,0),0,0,false⟩) (.inl rfl) (aR _) rfl rfl rfl ?_;rw[if_pos hr];exact⟨b17,bc,b15,ml,rfl,rfl⟩
 have HN2:∀w,Ctr prog 88 [.int .i64 room] w [] (λv cs=>v= .tuple #[.pointer none,.int .i64 1]/\cs=[]):=λw=>Ctr.mono (HN w) λv cs h=>by rw[if_neg hr]at h;exact h
 refine Z_9 ?_;refine ZSe (λw hi=>HN2 w) ?_;refine gy ?_;refine bW rfl (rfl) ?_;refine Z_9 ?_;refine i9 ?_;rw[if_neg hr];exact de
theorem DW(Y:bL)(D:Ky->Bool)(f:FuncId)(caps:List Value)(HF:∀args w,(callFunc f args).run prog w= .ok (.enter f args) w)(RZ:List (Ky×RS))(hn:(RZ.map (·.1)).Nodup)(hk:∀y,y∈RZ->lc y.1)(mr:Nat)
  (HC:∀(q:Ky) (x:RS) (w:World),lc q->Inv w (bM [Y]) [Y] w->Ctr prog f ([]++[.agg (cC q).toArray,.agg x.cells.toArray]++caps) w [Y] (λv cs=>v= .bool (D q)/\cs=[Y]))
  (w:World) (hi:Inv w (bM [mpc mr (rnV RZ),Y]) [mpc mr (rnV RZ),Y] w):
  Ctr prog 103 [.map (some mr),.func (.func f) #[] caps.toArray] w [mpc mr (rnV RZ),Y] (λ_ cs=>cs=[mpc mr (rnV (RZ.filter λx=> !D x.1)),Y]):=by
 refine bN func103 rfl ntmps103 rfl hi ?_;refine Z_3 ?_;refine gj (BE rfl rfl Za) rfl ?_;rintro _ _ ⟨b7,rfl,rfl⟩;rw[show(rnV RZ).map (λx=>(false,x))=gIL (RZ.map λx=>(false,x)) by unfold rnV gIL;rw[List.map_map,List.map_map];rfl];refine Z_3 ?_;refine cq (λG:List (Bool×Ky×RS)=>[(0,.map (some mr)),(1,.func (.func f) #[] caps.toArray),(7,.pointer (some ⟨b7,0,none⟩))]) (λG=>[itC mr b7 (gIL G) none,Y]) (λG=>(G.map (·.2)).filter (λx=> !D x.1)=RZ.filter (λx=> !D x.1)/\(∀g,g∈G->g.1=true->D g.2.1=false)/\(G.map λg=>g.2.1).Nodup/\(∀g,g∈G->lc g.2.1)) (λG=>oW G) (RZ.map λx=>(false,x)) ?_ ?_ ?_ ?_
 .exact⟨(by rw[List.map_map];show(RZ.map id).filter _=_;rw[List.map_id]),(λg hg h=>by obtain⟨y, -,rfl⟩:=aZ.1 hg;cases h),(by rw[List.map_map];exact hn),(λg hg=>by obtain⟨y,hy,rfl⟩:=aZ.1 hg;exact hk y hy)⟩
 .exact Zwk
 .exact Zu
 rintro G ⟨hG,hT,hN,hK⟩;refine Z_2 ?_;refine gj (FM rfl Za) rfl ?_;rintro _ _ ⟨o8,ho8,rfl,rfl⟩;refine Zy (EU Zv0) ?_;refine Z_3 ?_;refine ZW ?_ ?_<;>intro hc1
 .obtain⟨⟨j,q,v⟩,rfl⟩:=Option.isSome_iff_exists.1 hc1;have hj0:(gIL G)[j]? =some (false,q,v):=ho8;obtain⟨x,hx,rfl⟩:=gIL_at hj0;have hq:=hK _ (aD hx);have hIT:(gIL G).set j (true,q,x.v)=gIL (G.set j (true,q,x)):=(by unfold gIL;rw[List.map_set]);have hx2:(G.set j (true,q,x))[j]? =some (true,q,x):=List.getElem?_set_self (au.1 hx).1;have hN2:((G.set j (true,q,x)).map λg=>g.2.1).Nodup:=(by rw[qV (y:=(true,q,x)) hx rfl];exact hN);have hdel:uN ((gIL G).set j (true,q,x.v)) q=gIL (G.eraseIdx j):=(by rw[hIT,gIL_del hN2 hx2,yl]);refine Z_5 ?_;refine dN (EX (Zv rfl)) (λw hi=>(show xK mr b7 (AG (gIL G) (some (j,q,x.v))) (some (q,x.v)) w from hi.get (show Has _ (itC mr b7 (AG (gIL G) (some (j,q,x.v))) (GG (some (j,q,x.v))))from Zh))) rfl ?_;refine Z_2 ?_;refine ZN λb4=>?_
  refine ZN λb5=>?_
  refine dH (bZ (vs:=cC q) Zrf rfl rfl (tx q) Za (by exact rfl)) ?_;rintro _ _ ⟨rfl,rfl⟩;refine dH (bZ (vs:=x.cells) Zrf rfl rfl (gn x) Za (by exact rfl)) ?_;rintro _ _ ⟨rfl,rfl⟩;refine Z_7 ?_;refine gj (fR ([Y]) rfl rfl HF Zi (λw hi hin=>HC q x w hq hin)) rfl ?_;rintro _ _ ⟨_,⟨rfl,rfl⟩,rfl⟩;refine Z_2 ?_;refine ZW ?_ ?_<;>intro hc3
  .refine Z_3 ?_;refine dH (t_itdel rfl rfl hq rfl yM Za) ?_;rintro _ _ ⟨rfl,rfl⟩;refine Z_2 ?_;refine kS (c:=itC mr b7 (uN ((gIL G).set j (true,q,x.v)) q) none) (c':=itC mr b7 (gIL (G.eraseIdx j)) none) Za rfl (λw h=>by rw[<-hdel];exact h) ?_;refine bX ((G.eraseIdx j)) ?_ ?_ ?_
   .exact⟨⟨(by rw[ChangeMaps.map_eraseIdx,q9 (x:=(q,x)) (by rw[bh,hx];rfl) (by rw[hc3];rfl)];exact hG),(λg hg h=>hT g ((List.eraseIdx_sublist _ _).subset hg) h),hN.sublist ((List.eraseIdx_sublist _ _).map _),λg hg=>hK g ((List.eraseIdx_sublist _ _).subset hg)⟩,qP hx⟩
   .exact Zwk
   exact Zj
  refine Z_2 ?_;refine kS (c:=itC mr b7 ((gIL G).set j (true,q,x.v)) (some (q,x.v))) (c':=itC mr b7 (gIL (G.set j (true,q,x))) none) Za rfl (λw h=>by rw[<-hIT];exact it_cur h) ?_;refine bX ((G.set j (true,q,x))) ?_ ?_ ?_
  .exact⟨⟨(by rw[qV (y:=(true,q,x)) hx rfl];exact hG),(λg hg h=>(List.mem_or_eq_of_mem_set hg).elim (λhg=>hT g hg h) (λe=>by rw[e];exact hc3)),hN2,(λg hg=>(List.mem_or_eq_of_mem_set hg).elim (λhg=>hK g hg) (λe=>by rw[e];exact hq))⟩,uZ hx⟩
  .exact Zwk
  exact Zj
 obtain rfl:o8=none:=(by cases o8 with|none=>rfl|some z=>simp at hc1);have ho0:∀x,x∈gIL G->x.1=true:=ho8;have hall:∀g,g∈G->D g.2.1=false:=(λg hg=>hT g hg (ho0 (g.1,g.2.1,g.2.2.v) (aZ.2 ⟨g,hg,rfl⟩)));refine Z_4 ?_;refine yv (IL:=gIL G) (cur:=none) (b:=mr) (r:=b7) Zd ?_;rw[show(gIL G).map (·.2)=rnV (RZ.filter λx=> !D x.1) by rw[<-hG,List.filter_eq_self.2 (λy hy=>by obtain⟨g,hg,rfl⟩:=aZ.1 hy;rw[hall g hg];rfl)];unfold gIL rnV;rw[List.map_map,List.map_map];rfl];refine jb (cs':=[mpc mr (rnV (RZ.filter λx=> !D x.1)),Y]) (.inr rfl) Zu rfl ?_
 rfl
end Go.Proofs.YtkegldppffignaaGreatDoor
namespace Go.Ink
open Go.RowKit
def ly(n:Nat)(m from_:Int):Nat->(St×Mmu×Dev)×Eng->(St×Mmu×Dev)×Eng
 |0,q=>q
 |k+1,q=>bif eL m from_ q.1.1 then ly n m from_ k (doE n q.1.1 q.1.2.1 q.1.2.2 q.2)else q
def J1(n:Nat)(m:Int)(s:St)(U:Mmu)(d:Dev)(E:Eng):(St×Mmu×Dev)×Eng:=ly n m s.count m.toNat ((s,U,d),E)
theorem sP{n k:Nat}{m from_:Int}{q:(St×Mmu×Dev)×Eng}(h:eL m from_ q.1.1=false):ly n m from_ k q=q:=by
 cases k with
 |zero=>rfl
 |succ k=>
  unfold ly;rw[h]
  rfl
theorem yo{n k:Nat}{m from_:Int}{q:(St×Mmu×Dev)×Eng}(h:eL m from_ q.1.1=true):ly n m from_ (k+1) q=ly n m from_ k (doE n q.1.1 q.1.2.1 q.1.2.2 q.2):=by
 rw[ly,h]
 rfl
theorem zx{n:Nat}{s:St}{U:Mmu}{d:Dev}(h:GOk n s U d):GOk n (cT n s U d).1 (cT n s U d).2.1 (cT n s U d).2.2:=by
 rcases qI h with h1|⟨-, -,h3, -⟩
 .exact h1.g
 exact h3
theorem CT.trans{E E1 E2:Eng}{c1 c2:Nat}(h1:CT E E1 c1)(h2:CT E1 E2 c2):CT E E2 (c1+c2):=⟨λa b c=>by
 obtain⟨x1,x2,x3,x4⟩:=h1.Nk a b Wq1;obtain⟨y1,y2,y3,y4⟩:=h2.Nk x1 x2 Wq1;exact⟨y1,y2,by omega,by omega⟩,h2.room.trans h1.room⟩
theorem CT.zero(E:Eng):CT E E 0:=⟨λa b _=>⟨a,b,by omega,Int.le_refl _⟩,rfl⟩
theorem yn{n:Nat}(hn:n<=1000000){m f:Int}:∀(k:Nat) {q:St×Mmu×Dev} {E:Eng},GOk n q.1 q.2.1 q.2.2->iH E->
  (ly n m f k (q,E)).1=kK n m f k q/\iH (ly n m f k (q,E)).2/\GOk n (kK n m f k q).1 (kK n m f k q).2.1 (kK n m f k q).2.2/\
  ∃c:Nat,c<=8*k/\CT E (ly n m f k (q,E)).2 c/\(kK n m f k q).1.count=IntKind.u64.wrap (q.1.count+(c:Int))
 |0,q,E,h,hE=>⟨rfl,hE,h,0,aM _,.zero E,by have:=h.wf.count;show q.1.count=IntKind.u64.wrap (q.1.count+0);rw[aQ];omega⟩
 |k+1,q,E,h,hE=>by
  cases hc:eL m f q.1 with
  |false=>
   rw[sP (q:=(q,E)) hc,jn hc];exact⟨rfl,hE,h,0,aq _,.zero E,by have:=h.wf.count;show q.1.count=IntKind.u64.wrap (q.1.count+0);rw[aQ];omega⟩
  |true=>
   rw[yo (q:=(q,E)) hc,po hc];obtain⟨d1,d2,c,d3,d4,d5⟩:=MB hn h hE;have hg:=zx h;dsimp only;obtain⟨⟨q1,E1⟩,hz⟩:=Zgn (doE n q.1 q.2.1 q.2.2 E);rw[hz]at d1 d2 d4|-;dsimp only at d1 d2 d4;rw[<-d1]at d5 hg|-;obtain⟨r1,r2,r3,c',r4,r5,r6⟩:=yn hn (m:=m) (f:=f) k hg d2;refine⟨r1,r2,r3,c+c',by omega,d4.trans r5,?_⟩;rw[r6,d5,nz,show(c:Int)+(c':Int)=((c+c':Nat):Int) by omega]
theorem Ga{n:Nat}(hn:n<=1000000)(m:Int){s:St}{U:Mmu}{d:Dev}{E:Eng}(h:GOk n s U d)(hE:iH E):
  (J1 n m s U d E).1=eW n m s U d/\iH (J1 n m s U d E).2/\GOk n (eW n m s U d).1 (eW n m s U d).2.1 (eW n m s U d).2.2/\
  ∃c:Nat,c<=8*m.toNat/\CT E (J1 n m s U d E).2 c/\(eW n m s U d).1.count=IntKind.u64.wrap (s.count+(c:Int)):=yn hn m.toNat (q:=(s,U,d)) h hE
end Go.Ink
