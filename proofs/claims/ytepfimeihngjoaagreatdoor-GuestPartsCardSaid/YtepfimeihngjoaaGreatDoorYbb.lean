/- Lemmas. -/
import Derived.Test.YtepfimeihngjoaaGreatDoorYay
import Derived.Test.YtepfimeihngjoaaGreatDoorYaz
set_option linter.all false
set_option maxRecDepth 100000
set_option maxHeartbeats 4000000
namespace Go.Ink
open List renaming length→J, replicate→R9
open IntKind renaming wrap→V9
open Go.RowKit Go.Proofs.Tryz
set_option maxHeartbeats 1000000
variable{s:St}{n:Int}
section
attribute [local irreducible] UL bM
variable{k:Nat}
variable{n:Nat}
variable{q:Ky}
variable{q:(St×Uo×Un)×Vi}
theorem zU{n:Nat}(hn:n<=1000000){m f:Int}:∀(k:Nat) {q:St×Uo×Un} {E:Vi},Vp n q.1 q.2.1 q.2.2->gy E->
  (lS n m f k (q,E)).1=ju n m f k q/\gy (lS n m f k (q,E)).2/\Vp n (ju n m f k q).1 (ju n m f k q).2.1 (ju n m f k q).2.2/\
  ∃c:Nat,c<=8*k/\F9 E (lS n m f k (q,E)).2 c/\(ju n m f k q).1.count=V9 .u64 (q.1.count+(c:Int))
 |0,q,E,h,hE=>⟨rfl,hE,h,0,aL _,.zero E,by have:=h.wf.count;show q.1.count=V9 .u64 (q.1.count+0);rw[aS];omega⟩
 |k+1,q,E,h,hE=>by
  cases hc:fc m f q.1 with
  |false=>
   rw[uf (q:=(q,E)) hc,jc hc];exact⟨I,hE,h,0,ay _,.zero E,by have:=h.wf.count;show q.1.count=V9 .u64 (q.1.count+0);rw[aS];omega⟩
  |true=>
   rw[zV (q:=(q,E)) hc,mw hc];obtain⟨d1,d2,c,d3,d4,d5⟩:=Se hn h hE;have hg:=BO h;dsimp only;obtain⟨⟨q1,E1⟩,hz⟩:=Uk (Wv n q.1 q.2.1 q.2.2 E);rw[hz]at d1 d2 d4|-;dsimp only at d1 d2 d4;rw[<-d1]at d5 hg|-;obtain⟨r1,r2,r3,c',r4,r5,r6⟩:=zU hn (m:=m) (f:=f) k hg d2;refine⟨r1,r2,r3,c+c',by omega,d4.trans r5,?_⟩;rw[r6,d5,nW,show(c:Int)+(c':Int)=((c+c':Nat):Int) by omega]
theorem Cy(hn:n<=1000000)(m:Int){s:St}{U:Uo}{d:Un}{E:Vi}(h:Vp n s U d)(hE:gy E):
  (N9 n m s U d E).1=eH n m s U d/\gy (N9 n m s U d E).2/\Vp n (eH n m s U d).1 (eH n m s U d).2.1 (eH n m s U d).2.2/\
  ∃c:Nat,c<=8*m.toNat/\F9 E (N9 n m s U d E).2 c/\(eH n m s U d).1.count=V9 .u64 (s.count+(c:Int)):=zU hn m.toNat (q:=(s,U,d)) h hE
end
end Go.Ink
namespace Go.Ink
open List renaming length→J, replicate→R9
open IntKind renaming wrap→V9
open Go.RowKit Go.Proofs.Tryz
section
attribute [local irreducible] UL bM
section
variable(S:VU)(l:List HI)(fix:Li)(X:VB)
theorem cone_ok(hl:J l<=12000)(n:Nat)(op dst xa xb imm:Int)(hn:n<J S.pl.reg)(hn2:n<J S.pl.slot)(hab:(op==3)=true\/(op==4)=true->∃na nb:Nat,xa=na/\xb=nb/\(na<J S.pl.reg/\na<J S.pl.slot)/\(nb<J S.pl.reg/\nb<J S.pl.slot))(w:World)(hi:Inv w (bK (UC S l fix X)) (UC S l fix X) w)(hK:∀w',cX (bK (UC S l fix X)) w w'->Nq S w'):
  Uz prog 234 [.p S.b,.i n,.agg #[.i op,.i dst,.i xa,.i xb,.w imm]] w (UC S l fix X) (λr9 cs=>∃l' X',l'=l++rc S.p.SE S.p.SG S.pl n ⟨op,dst,xa,xb,imm⟩/\cs=UC S l' (fix) X'):=by
 have gA:=j8 S.pl xa 7;have gB:=j8 S.pl xb 8;have aA:=tE imm (eJ S.pl n 9) (eJ S.pl xa 7) (eJ S.pl xb 8);have fA:=Bt imm (eJ S.pl xa 7) (eJ S.pl xb 8);refine UH func234 ntmps234 hi ?_;refine py ?_;refine ZO λb5=>?_;refine UA ?_;refine dE (UC S l fix X) (λw hi hin=>cto_ok S l fix X O n hn w hin (λw' hk=>hK w' (hi.Tn Zi hk))) ?_;rintro _ _ ⟨rfl,l1,X1,hl1,rfl⟩;refine Us ?_;refine cq (λq:List HI×VB=>[(0,.p S.b),(1,.i n),(6,.i (eJ S.pl n 9))]) (λq=>UC S q.1 fix q.2) (λq=>J q.1<=J l+30/\q.1++jh S.pl n (eJ S.pl n 9)=l++rc S.p.SE S.p.SG S.pl n ⟨op,dst,xa,xb,imm⟩) ?_ ?_
 .refine iR ?_;refine ZW ?_ ?_<;>intro hc3
  .refine Uu ?_;refine dE (UC S l1 fix X1) (λw hi hin=>mf S l1 fix X1 Do (eJ S.pl n 9) imm w hin) ?_;rintro _ _ ⟨l2,X2,hl2,rfl⟩;refine py ?_;refine Vo (((l2,X2):List HI×VB)) ⟨by grind,by simp only[hl1,hl2,rc,ae,ac,aq,aF,aJ,ax,hc3]⟩
  refine Ul ?_ ?_<;>intro hc5
  .refine Wq447 ?_;refine Ld 5 1 ?_;refine Wq351 ?_;refine Y9 ?_;refine jX I I (eE (UC S l1 fix X1) I (λ_ _=>I) Zi (λw hi hin=>BL S l1 fix X1 Do (eJ S.pl n 9) 14 (V9 .u32 (4+S.p.SE - 1 - imm)) w hin)) (λ_=>by rintro _ _ ⟨_,⟨l2,X2,hl2,rfl⟩,rfl⟩;exact bO (t:=366) Zh) I ?_;rintro _ _ ⟨_,⟨l2,X2,hl2,rfl⟩,rfl⟩;refine fe ?_;refine Zo (Vo (((l2,X2):List HI×VB)) ⟨by grind,by simp only[hl1,hl2,rc,ae,ac,aq,aF,aJ,ax,hc3,hc5]⟩)
  refine Ul ?_ ?_<;>intro hc7
  .refine Wq447 ?_;refine Ld 5 2 ?_;refine Wq351 ?_;refine Y9 ?_;refine jX I I (eE (UC S l1 fix X1) I (λ_ _=>I) Zi (λw hi hin=>BL S l1 fix X1 Do (eJ S.pl n 9) 13 (V9 .u32 (20+S.p.SG - 1 - imm)) w hin)) (λ_=>by rintro _ _ ⟨_,⟨l2,X2,hl2,rfl⟩,rfl⟩;exact bO (t:=366) Zh) I ?_;rintro _ _ ⟨_,⟨l2,X2,hl2,rfl⟩,rfl⟩;refine fe ?_;refine Zo (Vo (((l2,X2):List HI×VB)) ⟨by grind,by simp only[hl1,hl2,rc,ae,ac,aq,aF,aJ,ax,hc3,hc5,hc7]⟩)
  refine Ul ?_ ?_<;>intro hc9
  .obtain⟨na,nb,rfl,rfl,⟨h1,h2⟩,h3,h4⟩:=hab (Or.inl hc9);refine Zs (bN (Wz [3,7] (pk b5 [.i op,.i dst,.i na,.i nb,.w imm])) Zk ?_);refine ZE 0 ?_;refine Ld 1 2 ?_;refine fD 2 I Zk Zk Zk (bL ir ne) (dD I) (bO (t:=366) Zh) I (Wq162 ?_);rintro _ _ ⟨_,⟨rfl,l2,X2,hl2,rfl⟩,rfl⟩;refine Wq238 ?_;rintro _ _ ⟨_,⟨rfl,l3,X3,hl3,rfl⟩,rfl⟩;refine ZE 8 ?_;refine ZE 9 ?_;refine fe ?_;refine UG ?_;refine dE (UC S l3 fix X3) (λw hi hin=>Mv S l3 fix X3 Do imm (eJ S.pl n 9) (eJ S.pl na 7) (eJ S.pl nb 8) w hin) ?_;rintro _ _ ⟨l4,X4,hl4,rfl⟩;refine py ?_;refine Vo (((l4,X4):List HI×VB)) ⟨by grind,by simp only[hl1,hl2,hl3,hl4,rc,ae,ac,aq,aF,aJ,ax,hc3,hc5,hc7,hc9]⟩
  refine Ul ?_ ?_<;>intro hc12
  .obtain⟨na,nb,rfl,rfl,⟨h1,h2⟩,h3,h4⟩:=hab (Or.inr hc12);refine Zs (bN (Wz [3,7] (pk b5 [.i op,.i dst,.i na,.i nb,.w imm])) Zk ?_);refine ZE 0 ?_;refine Ld 1 2 ?_;refine fD 2 I Zk Zk Zk (bL ir ne) (dD I) (bO (t:=366) Zh) I (Wq162 ?_);rintro _ _ ⟨_,⟨rfl,l2,X2,hl2,rfl⟩,rfl⟩;refine Wq238 ?_;rintro _ _ ⟨_,⟨rfl,l3,X3,hl3,rfl⟩,rfl⟩;refine ZE 8 ?_;refine ZE 9 ?_;refine fe ?_;refine UG ?_;refine dE (UC S l3 fix X3) (λw hi hin=>Ql S l3 fix X3 Do imm (eJ S.pl na 7) (eJ S.pl nb 8) w hin) ?_;rintro _ _ ⟨l4,X4,hl4,rfl⟩;refine UA ?_;refine y6 ?_;rintro _ _ ⟨b93,rfl,rfl⟩;refine dE (UC S l4 fix X4) (λw hi hin=>lD S l4 fix X4 Do [⟨2,eJ S.pl n 9,10,0,0⟩] (sA b93) 1 cE w hin (λw' hk=>de (hi.TD Zi (Ur (slv 370 5 (sA b93) 1 1 ([⟨2,eJ S.pl n 9,10,0,0⟩].flatMap HI.cells))) hk))) ?_;rintro _ _ ⟨l5,X5,hl5,rfl⟩;refine py ?_;refine Vo (((l5,X5):List HI×VB)) ⟨by grind,by simp only[hl1,hl2,hl3,hl4,hl5,rc,ae,ac,aq,aF,aJ,ax,hc3,hc5,hc7,hc9,hc12]⟩
  refine py ?_;refine Vo (((l1,X1):List HI×VB)) ⟨by grind,by simp only[hl1,rc,ae,ac,aq,aF,aJ,ax,hc3,hc5,hc7,hc9,hc12]⟩
 rintro⟨m9,s9⟩ ⟨hs8,hs9⟩;dsimp only at hs8 hs9|-;refine Ut ?_;refine dE (UC S m9 fix s9) (λw hi hin=>Qh S m9 fix s9 O n (eJ S.pl n 9) hn hn2 w hin (λw' hk=>hK w' (hi.Tn Zi hk))) ?_;rintro _ _ ⟨l21,X21,hl21,rfl⟩;refine Zn (gK (cs':=UC S l21 fix X21) (.inr I) Zu I ?_);exact⟨l21,X21,Do,I⟩
theorem BG(hl:J l<=10000)(base f word:Int)(A:Oa)(c:Nat)(o:Li)(ho:J o<=1000)(hoj:∀j,j∈o->∃n:Nat,j=n/\n<J S.pl.reg/\n<J S.pl.slot)(w:World)(hi:Inv w (bK (UC S l fix X)) (UC S l fix X) w)(hK:∀w',cX (bK (UC S l fix X)) w w'->Nq S w')(hO:∀w',cX (bK (UC S l fix X)) w w'->Rd w' .i64 A (J o) c o):
  Uz prog 235 [.p S.b,.i base,.w f,.w word,.slice A (J o) c] w (UC S l fix X) (λr9 cs=>∃l' X',l'=l++iX S.pl base f word o/\cs=UC S l' (fix) X'):=by
 refine UH func235 ntmps235 hi ?_;refine UE ?_;refine UX (λq:Nat×List HI×VB=>[(0,.p S.b),(1,.i base),(2,.w f),(3,.w word),(4,.slice A (J o) c),(12,.slice A (J o) c),(13,.i (J o)),(14,.i (q.1:Int))]) (λq=>UC S q.2.1 fix q.2.2) (λq=>q.1<=J o/\q.2.1=l++yr S.pl base f (o.take q.1) 0) (λq=>J o - q.1) (⟨0,l,X⟩) ⟨ay _,(ax l).symm⟩ ?_;rintro⟨k,l0,X0⟩ ⟨hk,hl0⟩;dsimp only at hk hl0|-;have ol:=EY S.pl base f (o.take k) 0;have ll:J l0<=J l+2*J o:=Do;refine Ul ?_ ?_<;>intro hc1
 .simp only[ah]at hc1;obtain⟨ad,had⟩:∃ad,A=some ad:=Option.ne_none_iff_exists'.1 (λe=>by have:=((hO w (cX.refl _ _)).nil e).1;omega);obtain⟨j,hj⟩:∃j,o[k]? =some j:=⟨_,aj (show k<J o by omega)⟩;obtain⟨n,rfl,h1,h2⟩:=hoj j (az hj);have htk:o.take (k+1)=o.take k++[(n:Int)]:=(by rw[List.take_add_one,hj];rfl);have hO2:∀w',cX (bK (UC S l fix X)) w w'->UJ w' 1 (some ad) (J o) c (ints .i64 o):=λw' hk=>had▸hO w' hk
  have hol:J (o.take k)=k:=Do;have gA:=j8 S.pl n 7;refine Ux ?_;refine Zy (ib (j:=k) had I ir (Zv I) (Zv I) ir Uq) ?_;refine dW (bL ir ne) (oq (v:= .i n) hO2 (bX hj)) I (UE ?_);refine mL ?_;refine kR ?_;refine py ?_;refine dE (UC S l0 fix X0) (λw hi hin=>yX S l0 fix X0 O n 7 h1 h2 w hin (λw' hk=>hK w' (hi.Tn Zi hk))) ?_;rintro _ _ ⟨rfl,l1,X1,hl1,rfl⟩;refine dE (UC S l1 fix X1) (λw hi hin=>xg S l1 fix X1 Do base (V9 .u32 (f+V9 .u32 (k:Int))) (eJ S.pl n 7) w hin) ?_;rintro _ _ ⟨l2,X2,hl2,rfl⟩;refine fZ ?_;refine Vo ((⟨k+1,l2,X2⟩:Nat×List HI×VB)) ⟨⟨by omega,by dsimp only;rw[htk,AI,hol,bA,hl2,hl1,hl0];grind⟩,by omega⟩
 simp only[aa]at hc1;obtain rfl:k=J o:=by omega
 rw[List.take_length]at hl0;refine eK ?_;refine mL ?_;refine dE (UC S l0 fix X0) (λw hi hin=>mf S l0 fix X0 O 11 (V9 .u32 (J o:Int)) w hin) ?_;rintro _ _ ⟨l11,X11,hl11,rfl⟩;refine UA ?_;refine dE (UC S l11 fix X11) (λw hi hin=>gN S l11 fix X11 Do 3 11 11 base w hin) ?_;rintro _ _ ⟨l12,X12,hl12,rfl⟩;refine Uu ?_;refine dE (UC S l12 fix X12) (λw hi hin=>xg S l12 fix X12 Do 15 word 11 w hin) ?_;rintro _ _ ⟨l13,X13,hl13,rfl⟩;refine Zn (gK (cs':=UC S l13 fix X13) (.inr I) Zu I ?_);exact⟨l13,X13,(by simp only[hl11,hl12,hl13,hl0,iX,ae,ac,aq,aF,aJ,ax]),rfl⟩
end
section
variable(S:VU)(l:List HI)(fix:Li)(X:VB)
theorem FX(hl:J l<=20000)(j into:Int)(hj:∃n:Nat,j=n/\n<J S.pl.reg/\n<J S.pl.slot)(w:World)(hi:Inv w (bK (UC S l fix X)) (UC S l fix X) w)(hK:∀w',cX (bK (UC S l fix X)) w w'->Nq S w'):
  Uz prog 306 [.p S.b,.i j,.i into] w (UC S l fix X) (λr9 cs=>r9= .i (eJ S.pl j into)/\∃l' X',l'=l++j9 S.pl j into/\cs=UC S l' (fix) X'):=by
 grind [yX]
theorem cend_ok(hl:J l<=10000)(hfl:0<=S.p.flags->∃n:Nat,S.p.flags=n/\n<J S.pl.reg/\n<J S.pl.slot)(htg:0<=S.p.target->∃n:Nat,S.p.target=n/\n<J S.pl.reg/\n<J S.pl.slot)(w:World)(hi:Inv w (bK (UC S l fix X)) (UC S l fix X) w)(hK:∀w',cX (bK (UC S l fix X)) w w'->Nq S w'):
  Uz prog 236 [.p S.b] w (UC S l fix X) (λr9 cs=>∃l' X',l'=l++tB S.p S.pl (J l)/\cs=UC S l' (fix) X'):=by
 have gF:=w5 S.p S.pl;have gG:=j8 S.pl S.p.flags 7;have gH:=j8 S.pl S.p.target 7;refine UH func236 ntmps236 hi ?_;refine cq (λq:List HI×VB=>[(0,.p S.b)]) (λq=>UC S q.1 fix q.2) (λq=>q.1=l++gM S.p S.pl) ?_ ?_
 .refine oI ?_ ?_<;>intro hc0
  .have hf:=hfl Do;refine Us ?_;refine dE (UC S l fix X) (λw hi hin=>mf S l fix X O 11 15 w hin) ?_;rintro _ _ ⟨l1,X1,hl1,rfl⟩;refine gX ?_;refine dE (UC S l1 fix X1) (λw hi hin=>FX S l1 fix X1 Do S.p.flags 7 hf w hin (λw' hk=>hK w' (hi.Tn Zi hk))) ?_;rintro _ _ ⟨rfl,l2,X2,hl2,rfl⟩;refine dE (UC S l2 fix X2) (λw hi hin=>gN S l2 fix X2 Do 5 11 11 (eJ S.pl S.p.flags 7) w hin) ?_;rintro _ _ ⟨l3,X3,hl3,rfl⟩;refine Ut ?_;refine dE (UC S l3 fix X3) (λw hi hin=>xg S l3 fix X3 Do 15 1 11 w hin) ?_;rintro _ _ ⟨l4,X4,hl4,rfl⟩;refine Zn (Vo (((l4,X4):List HI×VB)) ?_);simp only[hl1,hl2,hl3,hl4,gM,hc0,ae,ac,aq,aF,aJ,ax]
  refine Zc (Vo (((l,X):List HI×VB)) ?_);simp only[gM,hc0,ae,ac,aq,aF,aJ,ax]
 rintro⟨m1,s1⟩ hm1;dsimp only at hm1|-;have bm1:J m1<=J l+4:=Do;refine UG ?_;refine dE (UC S m1 fix s1) (λw hi hin=>mf S m1 fix s1 O 9 S.p.next w hin) ?_;rintro _ _ ⟨l11,X11,hl11,rfl⟩;refine py ?_;refine cq (λq:List HI×VB=>[(0,.p S.b)]) (λq=>UC S q.1 fix q.2) (λq=>q.1=l11++iy S.p (J l11)) ?_ ?_
 .refine oI ?_ ?_<;>intro hc5
  .refine Ux ?_;refine UD (λw hi=>Pr S.p.branch w) ?_;refine eK ?_;refine dE (UC S l11 fix X11) (λw hi hin=>BL S l11 fix X11 Do 11 15 1 w hin) ?_;rintro _ _ ⟨l12,X12,hl12,rfl⟩;refine UA ?_;refine dE (UC S l12 fix X12) (λw hi hin=>mf S l12 fix X12 Do 12 (gS S.p.branch) w hin) ?_;rintro _ _ ⟨l13,X13,hl13,rfl⟩;refine Uu ?_;refine dE (UC S l13 fix X13) (λw hi hin=>gN S l13 fix X13 Do 5 11 11 12 w hin) ?_;rintro _ _ ⟨l14,X14,hl14,rfl⟩;refine Ut ?_;have b14:J l14<=20000:=Do;refine Uu ?_;refine mT ?_;refine mL ?_;refine ZA ?_;refine ZN λb4=>?_
   refine ZM ?_;refine py ?_;refine cq (λ_:Unit=>[(0,.p S.b),(4,.p b4)]) (λ_=>[row S.b (rC S (J l14) (J fix) X14) 362,Wu X14.Al X14.cl l14,sl .i64 3 X14.Af (J fix) X14.cf fix,row b4 [.i (bif jO S.p.branch then 16 else 17),.i 0,.i 11,.i 0,.w (V9 .u32 ((J l14:Int)+2))] 370]) (λ_=>True) ?_ ?_
   .refine Ul ?_ ?_<;>intro hc11
    .have hjs:jO S.p.branch=false:=Do;rw[hjs,ac];refine jD ?_;refine Zn (UN (()) iF)
    have hjs:jO S.p.branch=true:=Do;rw[hjs,ae];refine Zc (UN (()) iF)
   intro s hs;refine Ut ?_;refine y6 ?_;rintro _ _ ⟨b66,rfl,rfl⟩;refine dE (UC S l14 fix X14) (λw hi hin=>lD S l14 fix X14 O [⟨bif jO S.p.branch then 16 else 17,0,11,0,V9 .u32 ((J l14:Int)+2)⟩] (sA b66) 1 cE w hin (λw' hk=>de (hi.TD Zi (Ur (slv 370 5 (sA b66) 1 1 ([⟨bif jO S.p.branch then 16 else 17,0,11,0,V9 .u32 ((J l14:Int)+2)⟩].flatMap HI.cells))) hk))) ?_;rintro _ _ ⟨l15,X15,hl15,rfl⟩;refine UE ?_;refine dE (UC S l15 fix X15) (λw hi hin=>mf S l15 fix X15 Do 9 S.p.taken w hin) ?_;rintro _ _ ⟨l16,X16,hl16,rfl⟩;refine Zn (Vo (((l16,X16):List HI×VB)) (br_eq hl12 hl13 hl14 hl15 hl16 hc5))
  refine Zc (Vo (((l11,X11):List HI×VB)) ?_);simp only[hl11,iy,hc5,ae,ac,aq,aF,aJ,ax]
 rintro⟨m2,s2⟩ hm2;dsimp only at hm2|-;have gB:=vw S.p (J l11);have bm2:J m2<=J l+20:=Do;refine cq (λq:List HI×VB=>[(0,.p S.b)]) (λq=>UC S q.1 fix q.2) (λq=>q.1=m2++jI S.p S.pl) ?_ ?_
 .refine oI ?_ ?_<;>intro hc15
  .have ht:=htg Do;refine UG ?_;refine dE (UC S m2 fix s2) (λw hi hin=>FX S m2 fix s2 O S.p.target 7 ht w hin (λw' hk=>hK w' (hi.Tn Zi hk))) ?_;rintro _ _ ⟨rfl,l21,X21,hl21,rfl⟩;refine ZA ?_;refine y6 ?_;rintro _ _ ⟨b90,rfl,rfl⟩;refine dE (UC S l21 fix X21) (λw hi hin=>lD S l21 fix X21 Do [⟨2,9,eJ S.pl S.p.target 7,0,0⟩] (sA b90) 1 cE w hin (λw' hk=>de (hi.TD Zi (Ur (slv 370 5 (sA b90) 1 1 ([⟨2,9,eJ S.pl S.p.target 7,0,0⟩].flatMap HI.cells))) hk))) ?_;rintro _ _ ⟨l22,X22,hl22,rfl⟩;refine Zn (Vo (((l22,X22):List HI×VB)) ?_);simp only[hl21,hl22,jI,hc15,ae,ac,aq,aF,aJ,ax]
  refine Zc (Vo (((m2,s2):List HI×VB)) ?_);simp only[jI,hc15,ae,ac,aq,aF,aJ,ax]
 rintro⟨m3,s3⟩ hm3;dsimp only at hm3|-;have gT:=tS S.p S.pl;have bm3:J m3<=J l+30:=Do;refine Us ?_;refine dE (UC S m3 fix s3) (λw hi hin=>xg S m3 fix s3 O 15 0 9 w hin) ?_;rintro _ _ ⟨l31,X31,hl31,rfl⟩;refine eK ?_;refine mL ?_;refine dE (UC S l31 fix X31) (λw hi hin=>mf S l31 fix X31 Do 11 (V9 .u32 S.p.count) w hin) ?_;rintro _ _ ⟨l32,X32,hl32,rfl⟩;refine Uu ?_;refine dE (UC S l32 fix X32) (λw hi hin=>xg S l32 fix X32 Do 15 36 11 w hin) ?_;rintro _ _ ⟨l33,X33,hl33,rfl⟩;refine Uu ?_;refine y6 ?_;rintro _ _ ⟨b106,rfl,rfl⟩;refine dE (UC S l33 fix X33) (λw hi hin=>lD S l33 fix X33 Do [⟨19,0,0,0,1⟩] (sA b106) 1 cE w hin (λw' hk=>de (hi.TD Zi (Ur (slv 370 5 (sA b106) 1 1 ([⟨19,0,0,0,1⟩].flatMap HI.cells))) hk))) ?_;rintro _ _ ⟨l34,X34,hl34,rfl⟩;refine Zn (gK (cs':=UC S l34 fix X34) (.inr I) Zu I ?_);exact⟨l34,X34,(end_eq hm1 hl11 hm2 hm3 hl31 hl32 hl33 hl34),I⟩
end
variable{α:Type}{f:α->Bool}{l:List α}{k:Nat}{x:α}
theorem Pz(p:Pg)(Q:W6)(i:Nat)(x:II)(hx:p.code[i]? =some x)(him:0<=x.imm/\x.imm<=4294967295)(hd:0<=p.SE/\p.SE<=16)(hr:0<=p.SG/\p.SG<=16)(w:World)(h:UJ w 5 Q.Ac (J p.code) Q.cc (p.code.flatMap II.cells)):
  CW prog 336 [Xq p Q,.i i] w (.bool (kD p.SE p.SG i x)):=by
 have hil:i<J p.code:=by
  rcases Nat.lt_or_ge i (J p.code) with h9|h9
  .exact h9
  grind
 obtain⟨ad,had⟩:=h.some_ O;rw[had]at h;obtain⟨op,dst,xa,xb,imm⟩:=x;obtain⟨hi1,hi2⟩:=him;obtain⟨hd1,hd2⟩:=hd;obtain⟨hr1,hr2⟩:=hr;dsimp only at hi1 hi2;refine UB func336 ntmps336 ?_;refine py ?_;refine ZO λb2=>?_;refine UG ?_;refine Zy (ib (j:=i) had I ir ne ne ir (λ_=>hil)) ?_;refine dW (cj (vs:=[.i op,.i dst,.i xa,.i xb,.w imm]) ir ir ne) (fP h (λj v hj=>fK (f:=II.cells) ir (i:=j) hx hj)) I ?_;refine ZN λb5=>?_
 refine ZM ?_;refine yZ ?_ ?_<;>intro hc2
 .refine vE ?_;exact⟨by simp only[kD,hc2,ae],rfl⟩
 refine Ux ?_;refine dx fT (.cons ne (.cons ne .nil)) (λ_ _=>I) (λhg w hi=>pO xa i w) I (Ut ?_);refine dx (bP I I) (.cons (cU I) (.cons (cU I) .nil)) (λ_ _=>I) (λhg w hi=>pO xb i w) I (jF ?_);refine yZ ?_ ?_<;>intro hc7
 .refine jE ?_;exact⟨by simp only[kD,hc2,hc7,ae,ac]<;>cases xa==0<;>cases xb==0<;>rfl,rfl⟩
 refine Ul ?_ ?_<;>intro hc9
 .refine Wq465 ?_;exact⟨by simp only[kD,hc2,hc7,hc9,ae,ac]<;>cases xa==0<;>cases xb==0<;>cases decide (imm<p.SE)<;>rfl,rfl⟩
 refine Ul ?_ ?_<;>intro hc11
 .refine Wq465 ?_;exact⟨by simp only[kD,hc2,hc7,hc9,hc11,ae,ac]<;>cases xa==0<;>cases xb==0<;>cases decide (imm<p.SG)<;>rfl,rfl⟩
 refine Ul ?_ ?_<;>intro hc13
 .refine IK ?_;refine VW ?_;exact⟨by simp only[kD,hc2,hc7,hc9,hc11,hc13,ae,ac]<;>cases sB xa i<;>cases sB xb i<;>cases decide (16<=imm)<;>cases decide (imm<=23)<;>rfl,rfl⟩
 refine Ul ?_ ?_<;>intro hc15
 .refine jF ?_;refine Ut ?_;refine VW ?_;exact⟨by simp only[kD,hc2,hc7,hc9,hc11,hc13,hc15,ae,ac]<;>cases sB xa i<;>cases sB xb i<;>cases decide (16<=imm)<;>cases decide (imm<=23)<;>cases imm==25<;>rfl,rfl⟩
 refine jE ?_;exact⟨by simp only[kD,hc2,hc7,hc9,hc11,hc13,hc15,ae,ac],rfl⟩
theorem uQ(p:Pg)(Q:W6)(hf:sY p)(w:World)(h:Ga p Q w):CW prog 295 [Xq p Q] w (.bool p.SX):=by
 have hv1:(p.values !=(J p.code:Int))=false:=by rw[hf.Th];simp
 have hv2:decide (64<p.values)=false:=by rw[hf.Th];have:=hf.S0;simp;omega
 have hv3:p.values=J p.code:=hf.Th;have hm64:=hf.S0;have hoD:=hf.SP;have hoR:=hf.SQ;have himm:=hf.imm;have hrc:=h.code;have hrD:=h.SP;have hrR:=h.SQ;refine UB func295 ntmps295 ?_;refine py ?_;refine ZO λb1=>?_;refine xt ?_;rw[hv1,hv2];refine UG ?_;refine kt (bU I I) I (i9 I I ir ir I I) I ?_;rintro _ _ ⟨b28,rfl,rfl⟩;refine dx (bU I I) (.cons (cU I) .nil) (λ_ _=>I) (λhg w hi=>P7 (sA b28) 4 [p.SE,p.SG,p.Tc,p.Te] cE w (hi.rd (Ur (slv 3 1 (sA b28) 4 4 (ints .i64 [p.SE,p.SG,p.Tc,p.Te]))))) I (tH ?_ ?_)<;>intro hc1
 .have hok:p.Tv=false:=(by unfold Pg.Tv;grind);refine vE ?_;exact⟨by unfold Pg.SX;grind,rfl⟩
 have hok:p.Tv=true:=(by unfold Pg.Tv;grind);have hnn:(0<=p.SE/\p.SE<=16)/\(0<=p.SG/\p.SG<=16):=(by have:=hok;unfold Pg.Tv vm at this;grind);refine fo ?_;refine UX (λk:Nat=>[(1,.p b1),(43,.slice Q.Ac (J p.code) Q.cc),(44,.i (J p.code)),(45,.i (k:Int))]) (λ_=>[row b1 (jM p Q) 308]) (λk=>k<=J p.code/\jm p.SE p.SG (p.code.take k) 0=true) (λk=>J p.code - k) (0) ⟨ay _,I⟩ ?_;rintro k ⟨hk,ha⟩;refine Ul ?_ ?_<;>intro hc4
 .simp only[ah]at hc4;obtain⟨x,hx⟩:∃x,p.code[k]? =some x:=⟨_,aj (show k<J p.code by omega)⟩;refine jG ?_;refine UD (λw hi=>Pz p Q k x hx (himm x (az hx)) hnn.1 hnn.2 w (hrc.SS hi)) ?_;refine Vs ?_ ?_<;>intro hc6
  .have hm:kD p.SE p.SG (0+k) x=false:=Do;refine nR ?_;exact⟨by unfold Pg.SX;rw[xo _ 0 _ hx hm,bn,bF],rfl⟩
  have hm:kD p.SE p.SG (0+k) x=true:=Do;refine fZ ?_;refine Vo (k+1) ⟨⟨by omega,sw _ 0 k hx ha hm⟩,by omega⟩
 simp only[aa]at hc4;obtain rfl:k=J p.code:=by omega
 rw[List.take_length]at ha;refine fo ?_;refine jP ?_;rintro _ _ ⟨b57,rfl,rfl⟩;refine Uu ?_;refine UX (λk:Nat=>[(1,.p b1),(57,.slice (sA b57) 2 2),(58,.i 2),(59,.i (k:Int))]) (λ_=>[row b1 (jM p Q) 308,slv 23 1 (sA b57) 2 2 [.slice Q.Ad (J p.SP) Q.cd,.slice Q.Ar (J p.SQ) Q.cr]]) (λk=>k<=2/\([p.SP,p.SQ].take k).all (λl=>l.all λn=>sB n (J p.code))=true) (λk=>2 - k) (0) Do ?_;rintro k2 ⟨hk2,ha2⟩;refine Ul ?_ ?_<;>intro hc10
 .simp only[ah]at hc10;obtain⟨A1,c1,l1,hx1,hx2,hR1,hb1⟩:∃(A1:Oa) (c1:Nat) (l1:Li),[Value.slice Q.Ad (J p.SP) Q.cd,.slice Q.Ar (J p.SQ) Q.cr][k2]? =some (.slice A1 (J l1) c1)/\[p.SP,p.SQ][k2]? =some l1/\Rd w .i64 A1 (J l1) c1 l1/\J l1<=100:=Do;refine Wq479 ?_;refine UX (λk:Nat=>[(1,.p b1),(57,.slice (sA b57) 2 2),(58,.i 2),(59,.i (k2:Int)),(63,.slice A1 (J l1) c1),(64,.i (J l1)),(65,.i (k:Int))]) (λ_=>[row b1 (jM p Q) 308,slv 23 1 (sA b57) 2 2 [.slice Q.Ad (J p.SP) Q.cd,.slice Q.Ar (J p.SQ) Q.cr]]) (λk=>k<=J l1/\(l1.take k).all (λn=>sB n (J p.code))=true) (λk=>J l1 - k) (0) Do ?_;rintro k3 ⟨hk3,ha3⟩;refine Ul ?_ ?_<;>intro hc13
  .simp only[ah]at hc13;obtain⟨ad,rfl⟩:=hR1.some_ O;obtain⟨x,hx⟩:∃x,l1[k3]? =some x:=⟨_,aj (show k3<J l1 by omega)⟩;refine UA ?_;refine Zy (cW (j:=k3) I ir (Zv I) (Zv I) Uq Uq) ?_;refine dW (bL ir ne) (dG hR1 (bX hx)) I (UG ?_);refine UD (λw hi=>pO x p.values w) ?_;refine Vs ?_ ?_<;>intro hc15
   .have hm:sB x (J p.code)=false:=Do;refine oQ ?_;refine VW ?_;exact⟨by have h9:=Sj (f:=λl:List Int=>l.all λn=>sB n (J p.code)) hx2 (Sj hx hm);unfold Pg.SX;grind,rfl⟩
   have hm:sB x (J p.code)=true:=Do;refine fZ ?_;refine Vo (k3+1) ⟨⟨by omega,F7 hx ha3 hm⟩,by omega⟩
  simp only[aa]at hc13;obtain rfl:k3=J l1:=by omega
  rw[List.take_length]at ha3;refine Ux ?_;refine WR ?_;refine Vo (k2+1) Do
 simp only[aa]at hc10;obtain rfl:k2=2:=by omega
 refine mU ?_;refine dx (bP I I) (.cons (cU I) (.cons (cU I) .nil)) (λ_ _=>I) (λhg w hi=>pO p.flags p.values w) I (gX ?_);refine dx (fx I I) (.cons (cU I) (.cons (cU I) .nil)) (λ_ _=>I) (λhg w hi=>pO p.target p.values w) I (VQ ?_ ?_)<;>intro hc19
 .refine vE ?_;exact⟨by have h9:p.Tu=false:=(by unfold Pg.Tu;grind);unfold Pg.SX;grind,rfl⟩
 refine jF ?_;refine UA ?_;refine VW ?_;exact⟨by have h9:p.Tu=(p.branch==0||((decide (33<=p.branch)&&decide (p.branch<=37))&&p.target== -1)):=(by unfold Pg.Tu;grind);simp only[List.take,List.all_cons,List.all_nil,Bool.and_true,aC]at ha2;unfold Pg.SX;rw[hok,ha,ha2.1,ha2.2,h9];cases p.branch==0<;>cases decide (33<=p.branch)<;>cases decide (p.branch<=37)<;>cases p.target== -1<;>rfl,rfl⟩
variable{n c:Nat}
theorem lof_ok(p:Pg)(Q:W6)(hf:sY p)(hr:p.SX=true)(w:World)(h:Ga p Q w):
  Uz prog 298 [Xq p Q] w [] (λr cs=>∃A c,r= .slice A (J (ge p)) c/\cs=[lvC A c (ge p)]):=by
 have hv3:p.values=J p.code:=hf.Th;have hm64:=hf.S0;have hrc:=h.code;have hrD:=h.SP;have hrR:=h.SQ;obtain⟨u1,u2,u3,u4⟩:=qT hr;obtain⟨N,hN⟩:=Uk (J p.code);rw[hN]at hv3 hm64 u2 u3 u4;have hlv:[p.SP,p.SQ,[p.flags,p.target]].foldl (λT l=>jR T l N) (fh p.code 0 (VK N))=ge p:=by unfold ge;rw[hN];rfl
 obtain⟨L0,hL0⟩:=Uk (fh p.code 0 (VK N));rw[hL0]at hlv;refine UB func298 ntmps298 ?_;refine py ?_;refine ZO λb1=>?_;refine Ux ?_;refine UD (λw hi=>uQ p Q hf w (h.SS hi)) ?_;rw[hr];refine kU ?_;refine Ut ?_;refine ZN λb3=>?_;refine Uu ?_;refine dg 415 3 ?_
 try rw[hv3]
 refine UA ?_;refine UX (λq:Nat×List Int×Option Addr×Nat=>[(1,.p b1),(3,.p b3),(16,.i p.values),(17,.i (q.1:Int))]) (λq=>[row b1 (jM p Q) 308,row b3 [.slice q.2.2.1 (J q.2.1) q.2.2.2] 410,slv 415 3 q.2.2.1 (J q.2.1) q.2.2.2 (fO 0 q.2.1)]) (λq=>q.1<=N/\q.2.1=VK q.1) (λq=>N - q.1) (⟨0,[],none,0⟩) ⟨ay _,I⟩ ?_;rintro⟨k,T,A1,c1⟩ ⟨hk,hT⟩;dsimp only at hk hT|-;have hTl:J T=k:=(by rw[hT,qj]);refine Ul ?_ ?_<;>intro hc5
 .simp only[ah]at hc5;rw[hv3]at hc5;have hsp:fO 0 T++[.i (k:Int),.i (k:Int),.i (k:Int)]=fO 0 (T++[(k:Int)]):=(by rw[GA,hTl,bA]);refine mU ?_;refine y6 ?_;rintro _ _ ⟨b25,rfl,rfl⟩;refine gJ (cu (e:=415) (sz:=3) (bytes:=24) I I Za I I (λw hi=>hi.rd (Ur (slv 415 3 (sA b25) 1 1 [.i (k:Int),.i (k:Int),.i (k:Int)]))) (one3 _ _ _) gI O) I ?_;rintro _ _ ⟨A2,c2,rfl,rfl⟩;rw[hsp,show J T+1=J (T++[(k:Int)]) by simp];refine ZL ?_;refine fZ ?_;refine UN ((⟨k+1,T++[(k:Int)],A2,c2⟩:Nat×List Int×Option Addr×Nat)) ⟨⟨by omega,by dsimp only;rw[Le,hT]⟩,by omega⟩
 simp only[aa]at hc5;rw[hv3]at hc5;obtain rfl:k=N:=by omega
 refine Ux ?_;refine Zy (mi I) ?_;refine iR ?_;refine UX (λq:Nat×List Int=>[(1,.p b1),(3,.p b3),(5,.func (.func 339) #[] #[.p b3]),(30,.slice Q.Ac (J p.code) Q.cc),(31,.i (J p.code)),(32,.i (q.1:Int))]) (λq=>[row b1 (jM p Q) 308,row b3 [.slice A1 (J q.2) c1] 410,slv 415 3 A1 (J q.2) c1 (fO 0 q.2)]) (λq=>q.1<=k/\J q.2=k/\fh (p.code.drop q.1) q.1 q.2=L0) (λq=>k - q.1) (⟨0,T⟩) Do ?_;rintro⟨i,T⟩ ⟨hi2,hTl,hL⟩;dsimp only at hi2 hTl hL|-;refine Ul ?_ ?_<;>intro hc11
 .simp only[ah]at hc11;rw[hN]at hc11;have hil:i<J p.code:=O;obtain⟨ad,had⟩:=hrc.some_ O;have hrc2:=hrc;rw[had]at hrc2;obtain⟨x,hx⟩:∃x,p.code[i]? =some x:=⟨_,aj hil⟩;have hu:=u1 i x hx;rw[jB hx]at hL;have hL:fh (p.code.drop (i+1)) (i+1) (bif lZ x then fV (fV T x.a i) x.b i else T)=L0:=hL;obtain⟨op,dst,xa,xb,imm⟩:=x;dsimp only at hL hu;refine Ux ?_;refine Zy (ib (j:=i) had I ir ne ne ir (λ_=>hil)) ?_;refine Z6 ?_;refine ZN λb7=>?_
  refine ZA ?_;refine ZM ?_;refine tH ?_ ?_<;>intro hc13
  .have hab:lZ ⟨op,dst,xa,xb,imm⟩=true:=hc13;obtain⟨⟨ha1,ha2⟩,hb1,hb2⟩:=hu hab;rw[hab,ae]at hL;refine UA ?_;refine gJ (iK (lvF b3 A1 c1 T) I I (λ_ _=>I) Zi (λw hi hin=>I4 b3 A1 c1 T xa i Uq w hin)) I ?_;rintro _ _ ⟨_,rfl,rfl⟩;refine Ux ?_;refine gJ (iK (lvF b3 A1 c1 (fV T xa i)) I I (λ_ _=>I) Zi (λw hi hin=>I4 b3 A1 c1 (fV T xa i) xb i (λ_=>by rw[pP];omega) w hin)) rfl ?_;rintro _ _ ⟨_,rfl,rfl⟩;refine fZ ?_;refine UN ((⟨i+1,fV (fV T xa i) xb i⟩:Nat×List Int)) ⟨⟨by omega,by dsimp only;rw[pP,pP,hTl],hL⟩,by omega⟩
  have hab:lZ ⟨op,dst,xa,xb,imm⟩=false:=hc13;rw[hab,ac]at hL;refine fZ ?_;refine UN ((⟨i+1,T⟩:Nat×List Int)) Do
 simp only[aa]at hc11;rw[hN]at hc11;obtain rfl:i=k:=by omega
 rw[List.drop_of_length_le O]at hL;obtain rfl:T=L0:=hL;refine mU ?_;refine jP ?_;rintro _ _ ⟨b64,rfl,rfl⟩;refine jP ?_;rintro _ _ ⟨b65,rfl,rfl⟩;refine Uu ?_;refine UX (λq:Nat×List Int=>[(1,.p b1),(3,.p b3),(5,.func (.func 339) #[] #[.p b3]),(65,.slice (sA b65) 3 3),(66,.i 3),(67,.i (q.1:Int))]) (λq=>[row b1 (jM p Q) 308,row b3 [.slice A1 (J q.2) c1] 410,slv 415 3 A1 (J q.2) c1 (fO 0 q.2),slv 3 1 (sA b64) 2 2 (ints .i64 [p.flags,p.target]),slv 23 1 (sA b65) 3 3 [.slice Q.Ad (J p.SP) Q.cd,.slice Q.Ar (J p.SQ) Q.cr,.slice (sA b64) 2 2]]) (λq=>q.1<=3/\J q.2=i/\([p.SP,p.SQ,[p.flags,p.target]].drop q.1).foldl (λT l=>jR T l i) q.2=ge p) (λq=>3 - q.1) (⟨0,T⟩) Do ?_;rintro⟨k2,T2⟩ ⟨hk2,hTl2,hF⟩;dsimp only at hk2 hTl2 hF|-;refine Ul ?_ ?_<;>intro hc18
 .simp only[ah]at hc18;obtain⟨A9,c9,l9,hx1,hx2,had9,hR9,hb9,hlen9⟩:∃(A9:Oa) (c9:Nat) (l9:Li),[Value.slice Q.Ad (J p.SP) Q.cd,.slice Q.Ar (J p.SQ) Q.cr,.slice (sA b64) 2 2][k2]? =some (.slice A9 (J l9) c9)/\[p.SP,p.SQ,[p.flags,p.target]][k2]? =some l9/\(0<J l9->∃ad,A9=some ad)/\(∀(cs:List bH) (w':World),Inv w [] cs w'->UQ cs (slv 3 1 (sA b64) 2 2 (ints .i64 [p.flags,p.target]))->UJ w' 1 A9 (J l9) c9 (ints .i64 l9))/\(∀x,x∈l9->0<=x->x<i)/\J l9<=100:=(by have h9:k2=0\/k2=1\/k2=2:=O;rcases h9 with rfl|rfl|rfl;exact⟨_,_,p.SP,I,I,λh=>hrD.some_ h,λ_ _ hi _=>hrD.SS hi,λx hx _=>(u2 x (Or.inl hx)).2,hf.SP⟩;exact⟨_,_,p.SQ,I,I,λh=>hrR.some_ h,λ_ _ hi _=>hrR.SS hi,λx hx _=>(u2 x (Or.inr hx)).2,hf.SQ⟩;exact⟨_,_,[p.flags,p.target],I,I,λ_=>⟨_,I⟩,λ_ _ hi hh=>hi.rd hh,λx hx h0=>Do,by grind⟩);rw[jB hx2]at hF;have hF:([p.SP,p.SQ,[p.flags,p.target]].drop (k2+1)).foldl (λT l=>jR T l i) (jR T2 l9 i)=ge p:=hF;obtain⟨R9,hR9e⟩:=Uk (jR T2 l9 i);rw[hR9e]at hF;refine Wq479 ?_;refine UX (λq:Nat×List Int=>[(1,.p b1),(3,.p b3),(5,.func (.func 339) #[] #[.p b3]),(65,.slice (sA b65) 3 3),(66,.i 3),(67,.i (k2:Int)),(71,.slice A9 (J l9) c9),(72,.i (J l9)),(73,.i (q.1:Int))]) (λq=>[row b1 (jM p Q) 308,row b3 [.slice A1 (J q.2) c1] 410,slv 415 3 A1 (J q.2) c1 (fO 0 q.2),slv 3 1 (sA b64) 2 2 (ints .i64 [p.flags,p.target]),slv 23 1 (sA b65) 3 3 [.slice Q.Ad (J p.SP) Q.cd,.slice Q.Ar (J p.SQ) Q.cr,.slice (sA b64) 2 2]]) (λq=>q.1<=J l9/\J q.2=i/\jR q.2 (l9.drop q.1) i=R9) (λq=>J l9 - q.1) (⟨0,T2⟩) Do ?_;rintro⟨k3,T3⟩ ⟨hk3,hTl3,hF3⟩;dsimp only at hk3 hTl3 hF3|-;refine Ul ?_ ?_<;>intro hc21
  .simp only[ah]at hc21;have hkl:k3<J l9:=O;obtain⟨ad9,rfl⟩:=had9 O;obtain⟨x,hx⟩:∃x,l9[k3]? =some x:=⟨_,aj hkl⟩;have hxb:=hb9 x (az hx);rw[jB hx]at hF3;have hF3:jR (fV T3 x i) (l9.drop (k3+1)) i=R9:=hF3;refine UA ?_;refine Zy (cW (j:=k3) I ir (Zv I) (Zv I) Uq Uq) ?_;refine dW (bL ir ne) (Om (λw hi=>hR9 _ w hi Zh) (bX hx)) I (UE ?_);refine gJ (iK (lvF b3 A1 c1 T3) I I (λ_ _=>I) Zi (λw hi hin=>I4 b3 A1 c1 T3 x (J p.code) (λh0=>by omega) w hin)) rfl ?_;rintro _ _ ⟨_,rfl,rfl⟩;rw[show fV T3 x (J p.code:Int)=fV T3 x i by rw[hN]];refine fZ ?_;refine UN ((⟨k3+1,fV T3 x i⟩:Nat×List Int)) ⟨⟨by omega,by dsimp only;rw[pP,hTl3],hF3⟩,by omega⟩
  simp only[aa]at hc21;obtain rfl:k3=J l9:=by omega
  rw[List.drop_length]at hF3;obtain rfl:T3=R9:=hF3;refine Ux ?_;refine WR ?_;refine UN ((⟨k2+1,T3⟩:Nat×List Int)) Do
 simp only[aa]at hc18;obtain rfl:k2=3:=by omega
 obtain rfl:T2=ge p:=hF;refine fo ?_;refine Vd ([lvC A1 c1 (ge p)]) ?_;exact⟨A1,c1,I,I⟩
theorem Fx(b:Nat)(X:SAd)(N:Nat)(Ta:Int)(T l:Li)(hT:J T=N)(hl:J l=N)(hN:N<=64)(A:Oa)(c:Nat)(n:Nat)(hn:n<N)(w:World)(h:(scR b X N Ta).ok w)(h2:Rd w .i64 A N c l)(h3:UJ w 3 X.Av N X.cv (fO 0 T)):
  CW prog 299 [.p b,.slice A N c,.i n] w (.i (fG T l n)):=by
 obtain⟨av,hav⟩:=h3.some_ O;rw[hav]at h3;have hxn:T[n]? =some (T.getD n 0):=nI O;refine UB func299 ntmps299 ?_;refine gX ?_;refine UX (λk:Nat=>[(0,.p b),(1,.slice A N c),(2,.i n),(7,.i (k:Int))]) (λ_=>[]) (λk=>k<=N/\kL T l n (J l - k) k=fG T l n) (λk=>N+1 - k) (0) ⟨ay _,I⟩ ?_;rintro k ⟨hk,hF⟩;refine mU ?_;refine UX (λj:Nat=>[(0,.p b),(1,.slice A N c),(2,.i n),(7,.i (k:Int)),(8,.bool (fa T l n k j)),(13,.slice A N c),(14,.i N),(15,.i (j:Int))]) (λ_=>[]) (λj=>j<=N) (λj=>N - j) (0) O ?_;rintro j hj;refine Ul ?_ ?_<;>intro hc5
 .simp only[ah]at hc5;have hjN:j<N:=O;obtain⟨ad,rfl⟩:=h2.some_ O;have hx:l[j]? =some (l.getD j 0):=nI O;have hxj:T[j]? =some (T.getD j 0):=nI O;refine Ux ?_;refine Zy (cW (j:=j) I ir (Zv I) (Zv I) Uq Uq) ?_;refine dW (bL ir ne) (dG h2 (bX hx)) I (Ut ?_);refine B7 ?_;refine ZF 2 ?_;refine ZF 3 ?_;refine ZF 4 ?_;refine ZF 5 ?_;refine ZF 6 ?_;refine ZF 7 ?_;refine τ 8 3 ?_;refine Yq 9 I (fx I I) (bL ir (cU I)) (cS h I) ?_;refine ZF 10 ?_;refine Zy6 11 I (fx I I) (ib (j:=j) hav I ir (cU I) (cU I) ir (λ_=>hjN)) ?_;refine Yq 12 I (fx I I) (cj (vs:=[.i j,.i j,.i (T.getD j 0)]) ir ir (cU I)) (fP h3 (λi v hv=>kw T 0 j hxj Do)) ?_;refine ZF 13 ?_;refine ZF 14 ?_;refine τ 15 3 ?_;refine Yq 16 I (fx I I) (bL ir (cU I)) (cS h I) ?_;refine ZF 17 ?_;refine Zy6 18 I (fx I I) (ib (j:=n) hav I ir (cU I) (cU I) ir (λ_=>hn)) ?_;refine Yq 19 I (fx I I) (cj (vs:=[.i n,.i n,.i (T.getD n 0)]) ir ir (cU I)) (fP h3 (λi v hv=>kw T 0 n hxn Do)) ?_;refine cQ 20 Zk (Ek I (fx I I) (.cons (cU I) (.cons (cU I) .nil)) (λ_ _=>I) (λhg w hi=>KJ T j n w) I (ZF 21 ?_));refine ZE 22 ?_;refine ZE 23 ?_;refine fe ?_;refine Us ?_;refine WR ?_;refine Vo (j+1) O
 simp only[aa]at hc5;obtain rfl:j=N:=by omega
 refine yZ ?_ ?_<;>intro hc9
 .have htk:fa T l n k (J l)=false:=Do;refine nR ?_;exact⟨by rw[PK hF O htk],rfl⟩
 have htk:fa T l n k (J l)=true:=Do;obtain⟨hk2,hF2⟩:=LL hF O htk;refine kb ?_;refine Vo (k+1) O
theorem Ex(b br cr bs cs bv cv:Nat)(N:Nat)(T:Li)(pl:Pl)(hT:J T=N)(hrl:J pl.reg=N)(hsl:J pl.slot=N)(hN:N<=64)(n:Nat)(hn:n<N):CI prog 301 [.p b,.i n] (scF b ⟨some ⟨br,0,none⟩,cr,some ⟨bs,0,none⟩,cs,some ⟨bv,0,none⟩,cv⟩ N T pl) (λ_ c=>c=scF b ⟨some ⟨br,0,none⟩,cr,some ⟨bs,0,none⟩,cs,some ⟨bv,0,none⟩,cv⟩ N T (ly T pl n)):=λw hi=>by
 obtain⟨reg,slot,Ta⟩:=pl;dsimp only at hrl hsl;have hfl:=(rx T slot n).2.1;obtain⟨f,hf⟩:=Uk (fG T slot n);have hsp:ly T ⟨reg,slot,Ta⟩ n=⟨reg.set n (-1),slot.set n f,if(f:Int)+1>Ta then(f:Int)+1 else Ta⟩:=by unfold ly;rw[hf]
 have hFr:=Fx b ⟨some ⟨br,0,none⟩,cr,some ⟨bs,0,none⟩,cs,some ⟨bv,0,none⟩,cv⟩ N Ta T slot hT hsl hN (sA bs) cs n hn;rw[hf]at hFr hfl;rw[hsp];have hx:(slot.set n (f:Int))[n]? =some (f:Int):=by rw[List.getElem?_set_self O]
 refine UH func301 ntmps301 hi ?_;refine UG ?_;refine Zy (bW (j:=n) (sz:=1) (r:=n) I ir (Zv I) (Zv I) Uq Uq O) ?_;refine zc ?_;refine Uw ?_;rw[nG];refine Us ?_;refine bN (UK [15]) Zk (rK ?_);refine Ld 3 1 ?_;refine BX ?_;refine ZE 7 ?_;refine ZE 8 ?_;refine Ld 9 0 ?_;refine Ld 10 1 ?_;refine ZG 11 ?_;refine ZE 12 ?_;refine cQ 13 Zk (VF (λw hi=>hFr w (hi.get Zh) (de (hi.get (Ur (sl .i64 3 (sA bs) N cs slot)))) (de (hi.get (Ur (slv 415 3 (sA bv) N cv (fO 0 T)))))) ?_);refine Uw ?_;refine UF 14 I (bW (j:=n) (sz:=1) (r:=n) I ir (Zv I) (Zv I) ir (λ_=>hn) O) ?_;refine cQ 15 Zk (DY ?_);refine Uw ?_;rw[nG];refine fe ?_;refine Zt (bN (UK [19]) Zk ?_);refine sU ?_;refine Ld 4 2 ?_;refine ZG 5 ?_;refine ZE 6 ?_;refine ZE 7 ?_;refine Ld 8 0 ?_;refine Ld 9 1 ?_;refine ZG 10 ?_;refine ZE 11 ?_;refine UF 12 I (bW (j:=n) (sz:=1) (r:=n) I ir (Zv I) (Zv I) ir (λ_=>hn) O) ?_;refine US 13 I (bL ir ne) (cN Zh (bX hx)) ?_;refine UF 14 I (dr ne ne Zl) ?_;refine UF 15 I (vP ne ne I) ?_;refine ZE 16 ?_;refine Ld 17 0 ?_;refine Ld 18 2 ?_;refine cQ 19 Zk (YW ?_)
 rfl
theorem lofN_ok(p:Pg)(Q:W6)(hf:sY p)(hr:p.SX=true)(T:Li)(N:Nat)(hT:ge p=T)(hN:J T=N)(w:World)(h:Ga p Q w):
  Uz prog 298 [Xq p Q] w [] (λr cs=>∃A c,r= .slice A N c/\cs=[slv 415 3 A N c (fO 0 T)]):=by
 grind [lof_ok]
theorem Qw(p:Pg)(Q:W6)(hf:sY p)(hr:p.SX=true)(w:World)(h:Ga p Q w):
  Uz prog 231 [Xq p Q,.i 7] w [] (λr cs=>∃Ar cr As c2,r= .tuple #[.agg #[.slice Ar (J p.code) cr,.slice As (J p.code) c2,.i (dR p).Ta],.i 0]/\cs=[sl .i64 3 Ar (J p.code) cr (dR p).reg,sl .i64 3 As (J p.code) c2 (dR p).slot]):=by
 have hv3:p.values=J p.code:=hf.Th;have hm64:=hf.S0;have hpl:dR p=jx (ge p) 7 (J p.code) (J p.code):=rfl;have hTl:=Ph p;obtain⟨T,hT⟩:=Uk (ge p);rw[hT]at hpl hTl;have hlo:=lofN_ok p Q hf hr T _ hT hTl;have hrp:=GH p.values (J p.code) hv3 hm64;have hpl0:jx T 7 (J p.code) 0=⟨R9 (J p.code) (-1),R9 (J p.code) (-1),0⟩:=rfl;rw[hpl];obtain⟨N,hN⟩:=Uk (J p.code);rw[hN]at hlo hTl hrp hpl0 hm64|-;have hlens:=qb T 7 N;have hst:∀k,jx T 7 N (k+1)=p5 T 7 (jx T 7 N k) k:=λ_=>I
 refine UB func231 ntmps231 ?_;refine py ?_;refine ZO λb2=>?_;refine ZN λb4=>?_
 refine Ux ?_;refine UD (λw hi=>uQ p Q hf w (h.SS hi)) ?_;rw[hr];refine Us ?_;refine dx (bU I I) (.cons (cU I) .nil) (λ_ _=>I) (λhg w hi=>z6 w) I (Ut ?_);refine jn ?_;refine py ?_;refine cq (λq:Nat×SAd=>[(1,.i 7),(2,.p b2),(4,.p b4),(5,.i 0),(6,.p q.1)]) (λq=>[row b4 [.slice none 0 0,.slice none 0 0,.i 0] 356,scR q.1 q.2 N 0,sl .i64 3 q.2.Ar N q.2.cr (R9 N (-1)),sl .i64 3 q.2.As N q.2.cs (R9 N (-1)),slv 415 3 q.2.Av N q.2.cv (fO 0 T)]) (λ_=>True) ?_ ?_
 .refine sS ?_;refine Ld 1 13 ?_;refine ZG 2 ?_;refine Ld 5 13 ?_;refine ZG 6 ?_;refine ZI 9 ?_;refine rU 0 4 Zk ?_ ?_
  .refine vO ?_;rintro _ _ ⟨b22,rfl,rfl⟩;refine rU 3 4 Zk ?_ ?_
   .refine Wq295 ?_;rintro _ _ ⟨_,⟨Ar,rfl,rfl⟩,rfl⟩;refine cQ 4 Zk (vO ?_);rintro _ _ ⟨b26,rfl,rfl⟩;exact Wx10_
   refine vO ?_;rintro _ _ ⟨b26,rfl,rfl⟩;exact Wx96_
  refine vO ?_;rintro _ _ ⟨b26,rfl,rfl⟩;refine cQ 0 Zk (vO ?_);rintro _ _ ⟨b22,rfl,rfl⟩;exact Wx96_
 rintro⟨b6,X⟩ -;dsimp only;refine fo ?_;refine UX (λk:Nat=>[(1,.i 7),(2,.p b2),(4,.p b4),(5,.i 0),(6,.p b6),(38,.slice X.Av N X.cv),(39,.i N),(40,.i (k:Int))]) (λk=>Sl b4::scF b6 X N T (jx T 7 N k)) (λk=>k<=N) (λk=>N - k) (0) O ?_;rintro k hk;obtain⟨hrl,hsl⟩:=hlens k;have hstk:=hst k;obtain⟨pl,hplk⟩:=Uk (jx T 7 N k);rw[hplk]at hrl hsl hstk;dsimp only;rw[hplk];refine Ul ?_ ?_<;>intro hc5
 .simp only[ah]at hc5;have hkN:k<N:=O;have hxk:T[k]? =some (T.getD k 0):=nI O;have hfl:=(rx T pl.reg k).2.1;obtain⟨f,hfe⟩:=Uk (fG T pl.reg k);rw[hfe]at hfl;refine UA ?_;refine eZ (λw hi=>dp (hi.get (Ur (sl .i64 3 X.Ar N X.cr pl.reg))) O) (λh1=>?_);refine eZ (λw hi=>dp (hi.get (Ur (sl .i64 3 X.As N X.cs pl.slot))) O) (λh2=>?_);refine eZ (λw hi=>hH (hi.get (Ur (slv 415 3 X.Av N X.cv (fO 0 T)))) O) (λh3=>?_);refine eZ (λw hi=>(de (hi.get (Ur (slv 415 3 X.Av N X.cv (fO 0 T))))).cap) (λh4=>?_);obtain⟨Ar,cr,As,c2,Av,cv⟩:=X;dsimp only at h1 h2 h3 h4|-;obtain⟨br,rfl⟩:=h1;obtain⟨bs,rfl⟩:=h2;obtain⟨bv,rfl⟩:=h3;have hFr:=Fx b6 ⟨some ⟨br,0,none⟩,cr,some ⟨bs,0,none⟩,c2,some ⟨bv,0,none⟩,cv⟩ N pl.Ta T pl.reg hTl hrl hm64 (sA br) cr k hkN;rw[hfe]at hFr;refine ZA ?_;refine BR ?_;refine dW (cj (vs:=[.i k,.i k,.i (T.getD k 0)]) ir ir (Zv I)) (zP Zh (λi v hv=>kw T 0 k hxk Do)) I ?_;refine ZN λb8=>?_
  refine ZA ?_;refine ZM ?_;refine gX ?_;refine UD (λw hi=>hFr w (hi.get Zh) (de (hi.get (Ur (sl .i64 3 (sA br) N cr pl.reg)))) (de (hi.get (Ur (slv 415 3 (sA bv) N cv (fO 0 T)))))) ?_;refine yZ ?_ ?_<;>intro hc8
  .have hsc:p5 T 7 pl k=⟨pl.reg.set k f,pl.slot,pl.Ta⟩:=(by unfold p5;grind);rw[hsc]at hstk;refine UE ?_;refine XM ?_;refine Uw ?_;rw[nG];refine Ux ?_;refine WR ?_;refine r8 (k+1) ?_ ?_ ?_
   .omega
   .exact XK
   exact YK
  have hsc:p5 T 7 pl k=(bif(gc T pl.reg k k !=k)then ly T ⟨pl.reg.set k (pl.reg.getD (gc T pl.reg k k) 0),pl.slot,pl.Ta⟩ (gc T pl.reg k k)else ly T pl k):=(by unfold p5;grind);rw[hsc]at hstk;refine mU ?_;refine Zy (eO (A:=some ⟨bv,0,none⟩) (n:=N) (c:=cv) k I ir (Zv I) (Zv I) ir Uq) ?_;refine Uu ?_;refine UX (λj:Nat=>[(1,.i 7),(2,.p b2),(4,.p b4),(5,.i 0),(6,.p b6),(7,.i k),(8,.p b8),(10,.i (gc T pl.reg k j:Nat)),(38,.slice (sA bv) N cv),(39,.i N),(40,.i (k:Int)),(70,.slice (sA bv) k cv),(71,.i k),(72,.i (j:Int))]) (λj=>[Sl b4,scR b6 ⟨some ⟨br,0,none⟩,cr,some ⟨bs,0,none⟩,c2,some ⟨bv,0,none⟩,cv⟩ N pl.Ta,sl .i64 3 (sA br) N cr pl.reg,sl .i64 3 (sA bs) N c2 pl.slot,slv 415 3 (sA bv) N cv (fO 0 T),row b8 [.i k,.i k,.i (T.getD k 0)] 415]) (λj=>j<=k) (λj=>k - j) (0) O ?_;rintro j hj;have hL:gc T pl.reg k j<=k:=(by rcases uH T pl.reg k j with h|⟨h, -⟩<;>omega);have hLs:gc T pl.reg k (j+1)=bif((pl.reg.getD j 0 != -1)&&nA T k j)&&decide (T.getD (gc T pl.reg k j) 0<T.getD j 0)then j else gc T pl.reg k j:=rfl
  obtain⟨L,hLe⟩:=Uk (gc T pl.reg k j);rw[hLe]at hL hLs;dsimp only;rw[hLe];refine Ul ?_ ?_<;>intro hc12
  .simp only[ah]at hc12;have hjk:j<k:=O;have hxj:T[j]? =some (T.getD j 0):=nI O;have hxL:T[L]? =some (T.getD L 0):=nI O;have hxr:pl.reg[j]? =some (pl.reg.getD j 0):=nI O;refine Ux ?_;refine Zy (cW (j:=j) I ir (Zv I) (Zv I) Uq Uq) ?_;refine dW (cj (vs:=[.i j,.i j,.i (T.getD j 0)]) ir ir (Zv I)) (zP Zh (λi v hv=>kw T 0 j hxj Do)) I ?_;refine ZN λb12=>?_
   refine ZA ?_;refine kQ ?_;refine B7 ?_;refine Ld 2 0 ?_;refine Ld 3 0 ?_;refine ZG 4 ?_;refine ZE 5 ?_;refine UF 6 I (bW (j:=j) (sz:=1) (r:=j) I ir (Zv I) (Zv I) ir Uq O) ?_;refine US 7 I (bL ir ne) (cN Zh (bX hxr)) ?_;refine ZE 8 ?_;refine ZE 9 ?_;refine tP 10 I Zk Zk Zk Zk (bP I I) Zh ir ir (Zv I) I (tP 11 I Zk Zk Zk Zk (bP I I) Zh ir ir (Zv I) I (cQ 12 Zk (Ek I (bP I I) (.cons (cU I) (.cons (cU I) .nil)) (λ_ _=>I) (λhg w hi=>KJ T k j w) I (ZE 13 ?_))));refine ZE 14 ?_;refine τ 15 2 ?_;refine Yq 16 I (bP I I) (bL ir (cU I)) (cO Zh I) ?_;refine ZF 17 ?_;refine ZF 18 ?_;refine τ 19 3 ?_;refine Yq 20 I (bP I I) (bL ir (cU I)) (cO Zh I) ?_;refine ZF 21 ?_;refine Zy6 22 I (bP I I) (bW (bb:=bv) (o:=0) (n:=N) (c:=cv) (j:=L) (sz:=3) (r:=L*3) I ir (cU I) (cU I) ir Uq O) ?_;refine τ 23 2 ?_;refine Yq 24 I (bP I I) (bL ir (cU I)) (EC Zh (kw T 0 L (j:=2) hxL I)) ?_;refine ZF 25 ?_;refine ZE 26 ?_;refine sR ?_;refine ZW ?_ ?_<;>intro hc14
   .rw[hc14,ae]at hLs;refine Ux ?_;refine WR ?_;refine UN (j+1) ⟨hjk,by omega⟩
   rw[hc14,ac]at hLs;refine fZ ?_;refine UN (j+1) ⟨hjk,by omega⟩
  simp only[aa]at hc12;obtain rfl:j=k:=by omega
  rw[hLe]at hstk;refine iR ?_;refine ZW ?_ ?_<;>intro hc17
  .have hne:(L !=j)=true:=Do;rw[hne,ae]at hstk;have hxr:pl.reg[L]? =some (pl.reg.getD L 0):=nI O;refine bN (UK [15]) Zk (rK ?_);refine Ld 3 0 ?_;refine BX ?_;refine ZE 7 ?_;refine Ld 8 0 ?_;refine Ld 9 0 ?_;refine ZG 10 ?_;refine ZE 11 ?_;refine UF 12 I (bW (j:=L) (sz:=1) (r:=L) I ir (Zv I) (Zv I) ir Uq O) ?_;refine US 13 I (bL ir ne) (cN Zh (bX hxr)) ?_;refine UF 14 I (bW (j:=j) (sz:=1) (r:=j) I ir (Zv I) (Zv I) ir Uq O) ?_;refine cQ 15 Zk (DY ?_);refine Uw ?_;rw[nG];refine fe ?_;refine Ut ?_;refine V7 (scF b6 ⟨some ⟨br,0,none⟩,cr,some ⟨bs,0,none⟩,c2,some ⟨bv,0,none⟩,cv⟩ N T ⟨pl.reg.set j (pl.reg.getD L 0),pl.slot,pl.Ta⟩) (λw hi hin=>Ex b6 br cr bs c2 bv cv N T ⟨pl.reg.set j (pl.reg.getD L 0),pl.slot,pl.Ta⟩ hTl (by simp[hrl]) hsl hm64 L O w hin) ?_;rintro _ _ ⟨_,rfl,rfl⟩;refine fZ ?_;refine r8 (j+1) ?_ ?_ ?_
   .omega
   .exact XK
   exact YK
  have hne:(L !=j)=false:=Do;rw[hne,ac]at hstk;obtain rfl:L=j:=Do;refine Uu ?_;refine V7 (scF b6 ⟨some ⟨br,0,none⟩,cr,some ⟨bs,0,none⟩,c2,some ⟨bv,0,none⟩,cv⟩ N T pl) (λw hi hin=>Ex b6 br cr bs c2 bv cv N T pl hTl hrl hsl hm64 L O w hin) ?_;rintro _ _ ⟨_,rfl,rfl⟩;refine fZ ?_;refine r8 (L+1) ?_ ?_ ?_
  .omega
  .exact XK
  exact YK
 simp only[aa]at hc5;obtain rfl:k=N:=by omega
 refine eK ?_;refine dW (cj (vs:=[.slice X.Ar k X.cr,.slice X.As k X.cs,.i pl.Ta]) ir ir ne) (cI Zh I) I (iz ?_);refine sD (cs':=[sl .i64 3 X.Ar k X.cr pl.reg,sl .i64 3 X.As k X.cs pl.slot]) (.inl I) Zu I I I Zh ir ir ?_;rw[hplk];exact⟨_,_,_,_,I,I⟩
end
end Go.Ink
