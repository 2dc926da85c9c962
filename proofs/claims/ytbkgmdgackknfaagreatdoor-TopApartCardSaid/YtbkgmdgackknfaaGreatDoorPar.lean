/- Lemmas. -/
import Derived.Test.YtbkgmdgackknfaaGreatDoorPaq
set_option linter.unusedSimpArgs false
set_option linter.unusedVariables false
set_option maxRecDepth 100000
set_option maxHeartbeats 4000000
namespace Go.Ink
open Go.RowKit Go.Proofs.Tryz
theorem BP(pl:Pl)(base f:Int)(n:Int):∀(c:List Int) (k:Nat),zF pl base f (c++[n]) k=zF pl base f c k++(jY pl n 7++[⟨15,0,base,eC pl n 7,IntKind.u32.wrap (f+IntKind.u32.wrap ((k+c.length:Nat):Int))⟩])
 |[],k=>by simp[zF]
 |x::c,k=>by
  have ih:=BP pl base f n c (k+1)
  grind [jY,zF]
theorem Fy(pl:Pl)(base f:Int):∀(c:List Int) (k:Nat),(zF pl base f c k).length<=2*c.length
 :=by intro y1;induction y1<;>grind [jX,jY,zF]
theorem OM(a b:Int)(pl:Pl)(n:Int)(x:II):(rO a b pl n x).length<=30:=by
 grind [jX,uu,eC,Ct,Lg,rO]
theorem Nv(c d i:Int):IntKind.u32.wrap (IntKind.i64.wrap (IntKind.i64.wrap (IntKind.i64.wrap (c+d) - 1) - IntKind.i64.wrap i))=IntKind.u32.wrap (c+d - 1 - i):=by
 grind [IntKind.wrap_u32,IntKind.wrap_i64]
section
attribute [local irreducible] OpY bH
section
variable (S:CdS) (l:List HI) (fix:List Int) (X:CAd)
theorem cone_ok(hl:l.length<=12000)(n:Nat)(op dst xa xb imm:Int)(hn:n<S.pl.reg.length)(hn2:n<S.pl.slot.length)(hab:(op==3)=true\/(op==4)=true->∃na nb:Nat,xa=na/\xb=nb/\(na<S.pl.reg.length/\na<S.pl.slot.length)/\(nb<S.pl.reg.length/\nb<S.pl.slot.length))(w:World)(hi:Inv w (bD (cdF S l fix X)) (cdF S l fix X) w)(hK:∀w',cY (bD (cdF S l fix X)) w w'->Nh S w'):
  Ctr prog 186 [.p S.b,.i n,.agg #[.i op,.i dst,.i xa,.i xb,.w imm]] w (cdF S l fix X) (λr9 cs=>∃l' X',l'=l++rO S.p.RI S.p.RJ S.pl n ⟨op,dst,xa,xb,imm⟩/\cs=cdF S l' (fix) X'):=by
 have gA:=jX S.pl xa 7;have gB:=jX S.pl xb 8;have aA:=uu imm (eC S.pl n 9) (eC S.pl xa 7) (eC S.pl xb 8);have fA:=Ct imm (eC S.pl xa 7) (eC S.pl xb 8);refine Zfn func186 ntmps186 hi ?_;refine Z_2 ?_;refine ZO λb5=>?_;refine Z_6 ?_;refine dz (cdF S l fix X) (λw hi hin=>cto_ok S l fix X Wq1 n hn w hin (λw' hk=>hK w' (hi.SC Zi hk))) ?_;rintro _ _ ⟨rfl,l1,X1,hl1,rfl⟩;refine Z_3 ?_;refine cD (λq:List HI×CAd=>[(0,.p S.b),(1,.i n),(6,.i (eC S.pl n 9))]) (λq=>cdF S q.1 fix q.2) (λq=>q.1.length<=l.length+30/\q.1++jb S.pl n (eC S.pl n 9)=l++rO S.p.RI S.p.RJ S.pl n ⟨op,dst,xa,xb,imm⟩) ?_ ?_
 .refine uw ?_ ?_<;>intro hc3
  .refine Z_5 ?_;refine dz (cdF S l1 fix X1) (λw hi hin=>lN S l1 fix X1 bR (eC S.pl n 9) imm w hin) ?_;rintro _ _ ⟨l2,X2,hl2,rfl⟩;refine Z_2 ?_;refine dM (((l2,X2):List HI×CAd)) ?_ ?_ ?_
   .exact⟨by grind,by simp only[hl1,hl2,rO,ai,ah,aw,aJ,aP,az,hc3]⟩
   .exact Zwk
   exact Zu
  refine Zw6 ?_ ?_<;>intro hc5
  .refine bL ⟨λj=>List.elem j [14],tx b5 [.i op,.i dst,.i xa,.i xb,.w imm]⟩ Zk (kQ ?_);refine ZE 3 ?_;refine ZFe 4 0 ?_;refine ZFe 5 1 ?_;refine Wq339 ?_;refine Wq254 ?_;refine jT rfl rfl (eo (cdF S l1 fix X1) rfl (λ_ _=>rfl) Zi (λw hi hin=>CH S l1 fix X1 bR (eC S.pl n 9) 14 (IntKind.u32.wrap (4+S.p.RI - 1 - imm)) w hin)) (λ_=>by rintro _ _ ⟨_,⟨l2,X2,hl2,rfl⟩,rfl⟩;exact bK (t:=305) Zh) rfl ?_;rintro _ _ ⟨_,⟨l2,X2,hl2,rfl⟩,rfl⟩;refine eQ ?_;refine Zo (dM (((l2,X2):List HI×CAd)) ?_ ?_ ?_)
   .exact⟨by grind,by simp only[hl1,hl2,rO,ai,ah,aw,aJ,aP,az,hc3,hc5]⟩
   .exact Zwk
   exact Zu
  refine Zw6 ?_ ?_<;>intro hc7
  .refine bL ⟨λj=>List.elem j [14],tx b5 [.i op,.i dst,.i xa,.i xb,.w imm]⟩ Zk (kQ ?_);refine ZE 3 ?_;refine ZFe 4 0 ?_;refine ZFe 5 2 ?_;refine Wq339 ?_;refine Wq254 ?_;refine jT rfl rfl (eo (cdF S l1 fix X1) rfl (λ_ _=>rfl) Zi (λw hi hin=>CH S l1 fix X1 bR (eC S.pl n 9) 13 (IntKind.u32.wrap (20+S.p.RJ - 1 - imm)) w hin)) (λ_=>by rintro _ _ ⟨_,⟨l2,X2,hl2,rfl⟩,rfl⟩;exact bK (t:=305) Zh) rfl ?_;rintro _ _ ⟨_,⟨l2,X2,hl2,rfl⟩,rfl⟩;refine eQ ?_;refine Zo (dM (((l2,X2):List HI×CAd)) ?_ ?_ ?_)
   .exact⟨by grind,by simp only[hl1,hl2,rO,ai,ah,aw,aJ,aP,az,hc3,hc5,hc7]⟩
   .exact Zwk
   exact Zu
  refine Zw6 ?_ ?_<;>intro hc9
  .obtain⟨na,nb,rfl,rfl,⟨h1,h2⟩,h3,h4⟩:=hab (Or.inl hc9);refine Zs (bL ⟨λj=>List.elem j [3,7],tx b5 [.i op,.i dst,.i na,.i nb,.w imm]⟩ Zk ?_);refine ZE 0 ?_;refine ZFe 1 2 ?_;refine iW 2 rfl Zk Zk Zk (bF Zrf (Zv rfl)) Wq3 (bK (t:=305) Zh) rfl (Wq148 ?_);rintro _ _ ⟨_,⟨rfl,l2,X2,hl2,rfl⟩,rfl⟩;refine Wq237 ?_;rintro _ _ ⟨_,⟨rfl,l3,X3,hl3,rfl⟩,rfl⟩;refine CT ?_;refine Z_8 ?_;refine dz (cdF S l3 fix X3) (λw hi hin=>ME S l3 fix X3 bR imm (eC S.pl n 9) (eC S.pl na 7) (eC S.pl nb 8) w hin) ?_;rintro _ _ ⟨l4,X4,hl4,rfl⟩;refine Z_2 ?_;refine dM (((l4,X4):List HI×CAd)) ?_ ?_ ?_
   .exact⟨by grind,by simp only[hl1,hl2,hl3,hl4,rO,ai,ah,aw,aJ,aP,az,hc3,hc5,hc7,hc9]⟩
   .exact Zwk
   exact Zu
  refine Zw6 ?_ ?_<;>intro hc12
  .obtain⟨na,nb,rfl,rfl,⟨h1,h2⟩,h3,h4⟩:=hab (Or.inr hc12);refine Zs (bL ⟨λj=>List.elem j [3,7],tx b5 [.i op,.i dst,.i na,.i nb,.w imm]⟩ Zk ?_);refine ZE 0 ?_;refine ZFe 1 2 ?_;refine iW 2 rfl Zk Zk Zk (bF Zrf (Zv rfl)) Wq3 (bK (t:=305) Zh) rfl (Wq148 ?_);rintro _ _ ⟨_,⟨rfl,l2,X2,hl2,rfl⟩,rfl⟩;refine Wq237 ?_;rintro _ _ ⟨_,⟨rfl,l3,X3,hl3,rfl⟩,rfl⟩;refine CT ?_;refine Z_8 ?_;refine dz (cdF S l3 fix X3) (λw hi hin=>Qc S l3 fix X3 bR imm (eC S.pl na 7) (eC S.pl nb 8) w hin) ?_;rintro _ _ ⟨l4,X4,hl4,rfl⟩;refine Z_6 ?_;refine jj ?_;rintro _ _ ⟨b93,rfl,rfl⟩;refine dz (cdF S l4 fix X4) (λw hi hin=>lr S l4 fix X4 bR [⟨2,eC S.pl n 9,10,0,0⟩] (sA b93) 1 cH w hin (λw' hk=>dp (hi.SO Zi (show Has _ (slv 309 5 (sA b93) 1 1 ([⟨2,eC S.pl n 9,10,0,0⟩].flatMap HI.cells))from Zh) hk))) ?_;rintro _ _ ⟨l5,X5,hl5,rfl⟩;refine Z_2 ?_;refine dM (((l5,X5):List HI×CAd)) ?_ ?_ ?_
   .exact⟨by grind,by simp only[hl1,hl2,hl3,hl4,hl5,rO,ai,ah,aw,aJ,aP,az,hc3,hc5,hc7,hc9,hc12]⟩
   .exact Zwk
   exact Zu
  refine Z_2 ?_;refine dM (((l1,X1):List HI×CAd)) ?_ ?_ ?_
  .exact⟨by grind,by simp only[hl1,rO,ai,ah,aw,aJ,aP,az,hc3,hc5,hc7,hc9,hc12]⟩
  .exact Zwk
  exact Zu
 rintro⟨m9,s9⟩ ⟨hs8,hs9⟩;dsimp only at hs8 hs9|-;refine Z_4 ?_;refine dz (cdF S m9 fix s9) (λw hi hin=>P8 S m9 fix s9 Wq1 n (eC S.pl n 9) hn hn2 w hin (λw' hk=>hK w' (hi.SC Zi hk))) ?_;rintro _ _ ⟨l21,X21,hl21,rfl⟩;refine Zn (iY (cs':=cdF S l21 fix X21) (.inr rfl) Zu rfl ?_);exact⟨l21,X21,bR,rfl⟩
theorem CD(hl:l.length<=10000)(base f word:Int)(A:Option Addr)(c:Nat)(o:List Int)(ho:o.length<=1000)(hoj:∀j,j∈o->∃n:Nat,j=n/\n<S.pl.reg.length/\n<S.pl.slot.length)(w:World)(hi:Inv w (bD (cdF S l fix X)) (cdF S l fix X) w)(hK:∀w',cY (bD (cdF S l fix X)) w w'->Nh S w')(hO:∀w',cY (bD (cdF S l fix X)) w w'->Rd w' .i64 A o.length c o):
  Ctr prog 187 [.p S.b,.i base,.w f,.w word,.slice A o.length c] w (cdF S l fix X) (λr9 cs=>∃l' X',l'=l++iX S.pl base f word o/\cs=cdF S l' (fix) X'):=by
 refine Zfn func187 ntmps187 hi ?_;refine Z_9 ?_;refine bN (λq:Nat×List HI×CAd=>[(0,.p S.b),(1,.i base),(2,.w f),(3,.w word),(4,.slice A o.length c),(12,.slice A o.length c),(13,.i o.length),(14,.i (q.1:Int))]) (λq=>cdF S q.2.1 fix q.2.2) (λq=>q.1<=o.length/\q.2.1=l++zF S.pl base f (o.take q.1) 0) (λq=>o.length - q.1) (⟨0,l,X⟩) ?_ ?_ ?_ ?_
 .exact⟨au _,(az l).symm⟩
 .exact Zwk
 .exact Zu
 rintro⟨k,l0,X0⟩ ⟨hk,hl0⟩;dsimp only at hk hl0|-;have ol:=Fy S.pl base f (o.take k) 0;have ll:l0.length<=l.length+2*o.length:=bR;refine Zw6 ?_ ?_<;>intro hc1
 .simp only[ae]at hc1;obtain⟨ad,had⟩:∃ad,A=some ad:=Option.ne_none_iff_exists'.1 (λe=>by have:=((hO w (cY.refl _ _)).nil e).1;omega);obtain⟨j,hj⟩:∃j,o[k]? =some j:=⟨_,aa (show k<o.length by omega)⟩;obtain⟨n,rfl,h1,h2⟩:=hoj j (ak hj);have htk:o.take (k+1)=o.take k++[(n:Int)]:=(by rw[List.take_add_one,hj];rfl);have hO2:∀w',cY (bD (cdF S l fix X)) w w'->RdV w' 1 (some ad) o.length c (ints .i64 o):=λw' hk=>had▸hO w' hk
  have hol:(o.take k).length=k:=bR;have gA:=jX S.pl n 7;refine Z_7 ?_;refine Zy (fI (j:=k) had rfl Zrf (Zv rfl) (Zv rfl) Zrf Wq2) ?_;refine dK (bF Zrf Zv0) (oh (v:= .i n) hO2 (cq hj)) rfl (Z_9 ?_);refine nP ?_;refine pP ?_;refine Z_2 ?_;refine dz (cdF S l0 fix X0) (λw hi hin=>AC S l0 fix X0 Wq1 n 7 h1 h2 w hin (λw' hk=>hK w' (hi.SC Zi hk))) ?_;rintro _ _ ⟨rfl,l1,X1,hl1,rfl⟩;refine dz (cdF S l1 fix X1) (λw hi hin=>yq S l1 fix X1 bR base (IntKind.u32.wrap (f+IntKind.u32.wrap (k:Int))) (eC S.pl n 7) w hin) ?_;rintro _ _ ⟨l2,X2,hl2,rfl⟩;refine gh ?_;refine dM ((⟨k+1,l2,X2⟩:Nat×List HI×CAd)) ?_ ?_ ?_
  .exact⟨⟨by omega,by dsimp only;rw[htk,BP,hol,Nat.zero_add,hl2,hl1,hl0];grind⟩,by omega⟩
  .exact Zwk
  exact Zu
 simp only[ac]at hc1;obtain rfl:k=o.length:=by omega
 rw[bl]at hl0;refine fB ?_;refine nP ?_;refine dz (cdF S l0 fix X0) (λw hi hin=>lN S l0 fix X0 Wq1 11 (IntKind.u32.wrap (o.length:Int)) w hin) ?_;rintro _ _ ⟨l11,X11,hl11,rfl⟩;refine Z_6 ?_;refine dz (cdF S l11 fix X11) (λw hi hin=>gS S l11 fix X11 bR 3 11 11 base w hin) ?_;rintro _ _ ⟨l12,X12,hl12,rfl⟩;refine Z_5 ?_;refine dz (cdF S l12 fix X12) (λw hi hin=>yq S l12 fix X12 bR 15 word 11 w hin) ?_;rintro _ _ ⟨l13,X13,hl13,rfl⟩;refine Zn (iY (cs':=cdF S l13 fix X13) (.inr rfl) Zu rfl ?_);exact⟨l13,X13,(by simp only[hl11,hl12,hl13,hl0,iX,ai,ah,aw,aJ,aP,az]),rfl⟩
theorem P2(hl:l.length<=10000)(base word RL high:Int)(o:Nat)(hb1:0<=RL/\RL<=100000)(hb2: -100000<=high/\high<=100000)(hb3:o<=100000)(hf:fix.length<=100)(w:World)(hi:Inv w (bD (cdF S l fix X)) (cdF S l fix X) w):
  Ctr prog 185 [.p S.b,.i base,.w word,.i RL,.i high,.i o] w (cdF S l fix X) (λr9 cs=>r9= .bool (!decide (iZ RL high o<RL))/\∃l' f' X',l'=l++(bif(!decide (iZ RL high o<RL))then pf 0 base word RL (iZ RL high o)else[])/\f'=fix++(bif(!decide (iZ RL high o<RL))then[((l.length+3:Nat):Int),((l.length+6:Nat):Int)]else[])/\cs=cdF S l' f' X'):=by
 have hm:(if(16:Int)+RL - o<16 - high then(16:Int)+RL - o else 16 - high)=iZ RL high o:=rfl;obtain⟨mo,hmo⟩:=Zgn (iZ RL high o);rw[hmo]at hm|-;refine Zfn func185 ntmps185 hi ?_;refine Z_8 ?_;refine oN ?_;refine ZA ?_;refine ri ?_;refine ZA ?_;refine oN ?_;refine Zy (Ns Zv0 Zv0 hm) ?_;refine gK ?_;refine ZW ?_ ?_<;>intro hc2
 .have hok:(!decide (mo<RL))=false:=bR;rw[hok];refine Z_7 ?_;refine Zrb (cdF S l fix X) ?_;exact⟨rfl,l,fix,X,(az l).symm,(az fix).symm,rfl⟩
 have hok:(!decide (mo<RL))=true:=bR;rw[hok];refine Z_7 ?_;refine dz (cdF S l fix X) (λw hi hin=>CH S l fix X Wq1 base 15 word w hin) ?_;rintro _ _ ⟨l1,X1,hl1,rfl⟩;refine Z_6 ?_;refine nP ?_;refine dz (cdF S l1 fix X1) (λw hi hin=>lN S l1 fix X1 bR 11 (IntKind.u32.wrap RL) w hin) ?_;rintro _ _ ⟨l2,X2,hl2,rfl⟩;refine Z_6 ?_;refine dz (cdF S l2 fix X2) (λw hi hin=>gS S l2 fix X2 bR 12 12 base 11 w hin) ?_;rintro _ _ ⟨l3,X3,hl3,rfl⟩;refine Z_5 ?_;refine dz (cdF S l3 fix X3) (λw hi hin=>yp S l3 fix X3 bR 12 Wq1 w hin) ?_;rintro _ _ ⟨l4,X4,hl4,rfl⟩;refine Z_6 ?_;refine nP ?_;refine dz (cdF S l4 (fix++[(l3.length:Int)]) X4) (λw hi hin=>lN S l4 (fix++[(l3.length:Int)]) X4 bR 12 (IntKind.u32.wrap mo) w hin) ?_;rintro _ _ ⟨l5,X5,hl5,rfl⟩;refine Z_6 ?_;refine dz (cdF S l5 (fix++[(l3.length:Int)]) X5) (λw hi hin=>gS S l5 (fix++[(l3.length:Int)]) X5 bR 12 12 12 base w hin) ?_;rintro _ _ ⟨l6,X6,hl6,rfl⟩;refine Z_5 ?_;refine dz (cdF S l6 (fix++[(l3.length:Int)]) X6) (λw hi hin=>yp S l6 (fix++[(l3.length:Int)]) X6 bR 12 bR w hin) ?_;rintro _ _ ⟨l7,X7,hl7,rfl⟩;refine Z_7 ?_;refine dz (cdF S l7 ((fix++[(l3.length:Int)])++[(l6.length:Int)]) X7) (λw hi hin=>gS S l7 ((fix++[(l3.length:Int)])++[(l6.length:Int)]) X7 bR 4 base base 11 w hin) ?_;rintro _ _ ⟨l8,X8,hl8,rfl⟩;refine Z_8 ?_;refine Zrb (cdF S l8 ((fix++[(l3.length:Int)])++[(l6.length:Int)]) X8) ?_;exact⟨rfl,l8,_,X8,(by simp only[hl1,hl2,hl3,hl4,hl5,hl6,hl7,hl8,pf,ai,aw,aJ,aP]),bR,rfl⟩
end
theorem yi(p:Pg)(pl:Pl):(gR p pl).length<=4:=by
 grind [jX,gR]
theorem wz(p:Pg)(pos:Nat):(iu p pos).length<=5:=by
 grind [iu]
theorem uT(p:Pg)(pl:Pl):(jC p pl).length<=2:=by
 grind [jX,jC]
theorem nY(pl:Pl)(b f w:Int)(o:List Int):(iX pl b f w o).length<=2*o.length+3:=by
 simp[Fy,iX]
theorem B1(a b:Int)(pl:Pl):∀(c:List II) (n:Nat),(jV a b pl c n).length<=30*c.length
 :=by intro y1;induction y1<;>grind [OM,rO,jV]
theorem xU(a b:Int)(pl:Pl)(x:II):∀(c:List II) (n:Nat),jV a b pl (c++[x]) n=jV a b pl c n++rO a b pl ((n+c.length:Nat):Int) x
 |[],n=>by simp[jV]
 |y::c,n=>by
  have h:=xU a b pl x c (n+1);show rO a b pl n y++jV a b pl (c++[x]) (n+1)=(rO a b pl n y++jV a b pl c (n+1))++_
  grind
theorem br_eq{p:Pg}{l11 l12 l13 l14 l15 l16:List HI}(h12:l12=l11++[⟨14,11,15,0,1⟩])(h13:l13=l12++[⟨1,12,0,0,gX p.branch⟩])(h14:l14=l13++[⟨5,11,11,12,0⟩])(h15:l15=l14++[⟨bif jF p.branch then 16 else 17,0,11,0,IntKind.u32.wrap ((l14.length:Int)+2)⟩])(h16:l16=l15++[⟨1,9,0,0,p.taken⟩])(hb:(p.branch !=0)=true):
  l16=l11++iu p l11.length:=by
 grind [iu]
theorem end_eq{p:Pg}{pl:Pl}{l m1 l11 m2 m3 l31 l32 l33 l34:List HI}(h1:m1=l++gR p pl)(h11:l11=m1++[⟨1,9,0,0,p.next⟩])(h2:m2=l11++iu p l11.length)(h3:m3=m2++jC p pl)(h31:l31=m3++[⟨15,0,15,9,0⟩])(h32:l32=l31++[⟨1,11,0,0,IntKind.u32.wrap p.count⟩])(h33:l33=l32++[⟨15,0,15,11,36⟩])(h34:l34=l33++[⟨19,0,0,0,1⟩]):
  l34=l++ul p pl l.length:=by
 have hn:l11.length=l.length+(gR p pl).length+1:=by rw[h11,h1];simp;omega
 grind [ul]
section
variable (S:CdS) (l:List HI) (fix:List Int) (X:CAd)
theorem Gj(hl:l.length<=20000)(j into:Int)(hj:∃n:Nat,j=n/\n<S.pl.reg.length/\n<S.pl.slot.length)(w:World)(hi:Inv w (bD (cdF S l fix X)) (cdF S l fix X) w)(hK:∀w',cY (bD (cdF S l fix X)) w w'->Nh S w'):
  Ctr prog 238 [.p S.b,.i j,.i into] w (cdF S l fix X) (λr9 cs=>r9= .i (eC S.pl j into)/\∃l' X',l'=l++jY S.pl j into/\cs=cdF S l' (fix) X'):=by
 grind [AC]
theorem cend_ok(hl:l.length<=10000)(hfl:0<=S.p.flags->∃n:Nat,S.p.flags=n/\n<S.pl.reg.length/\n<S.pl.slot.length)(htg:0<=S.p.target->∃n:Nat,S.p.target=n/\n<S.pl.reg.length/\n<S.pl.slot.length)(w:World)(hi:Inv w (bD (cdF S l fix X)) (cdF S l fix X) w)(hK:∀w',cY (bD (cdF S l fix X)) w w'->Nh S w'):
  Ctr prog 188 [.p S.b] w (cdF S l fix X) (λr9 cs=>∃l' X',l'=l++ul S.p S.pl l.length/\cs=cdF S l' (fix) X'):=by
 have gF:=yi S.p S.pl;have gG:=jX S.pl S.p.flags 7;have gH:=jX S.pl S.p.target 7;refine Zfn func188 ntmps188 hi ?_;refine cD (λq:List HI×CAd=>[(0,.p S.b)]) (λq=>cdF S q.1 fix q.2) (λq=>q.1=l++gR S.p S.pl) ?_ ?_
 .refine pV ?_ ?_<;>intro hc0
  .have hf:=hfl bR;refine Z_3 ?_;refine dz (cdF S l fix X) (λw hi hin=>lN S l fix X Wq1 11 15 w hin) ?_;rintro _ _ ⟨l1,X1,hl1,rfl⟩;refine gK ?_;refine dz (cdF S l1 fix X1) (λw hi hin=>Gj S l1 fix X1 bR S.p.flags 7 hf w hin (λw' hk=>hK w' (hi.SC Zi hk))) ?_;rintro _ _ ⟨rfl,l2,X2,hl2,rfl⟩;refine dz (cdF S l2 fix X2) (λw hi hin=>gS S l2 fix X2 bR 5 11 11 (eC S.pl S.p.flags 7) w hin) ?_;rintro _ _ ⟨l3,X3,hl3,rfl⟩;refine Z_4 ?_;refine dz (cdF S l3 fix X3) (λw hi hin=>yq S l3 fix X3 bR 15 1 11 w hin) ?_;rintro _ _ ⟨l4,X4,hl4,rfl⟩;refine Zn (dM (((l4,X4):List HI×CAd)) ?_ ?_ ?_)
   ·(simp only[hl1,hl2,hl3,hl4,gR,hc0,ai,ah,aw,aJ,aP,az])
   .exact Zwk
   exact Zu
  refine Zc (dM (((l,X):List HI×CAd)) ?_ ?_ ?_)
  ·(simp only[gR,hc0,ai,ah,aw,aJ,aP,az])
  .exact Zwk
  exact Zu
 rintro⟨m1,s1⟩ hm1;dsimp only at hm1|-;have bm1:m1.length<=l.length+4:=bR;refine Z_8 ?_;refine dz (cdF S m1 fix s1) (λw hi hin=>lN S m1 fix s1 Wq1 9 S.p.next w hin) ?_;rintro _ _ ⟨l11,X11,hl11,rfl⟩;refine Z_2 ?_;refine cD (λq:List HI×CAd=>[(0,.p S.b)]) (λq=>cdF S q.1 fix q.2) (λq=>q.1=l11++iu S.p l11.length) ?_ ?_
 .refine pV ?_ ?_<;>intro hc5
  .refine Z_7 ?_;refine ZSe (λw hi=>Ph S.p.branch w) ?_;refine fB ?_;refine dz (cdF S l11 fix X11) (λw hi hin=>CH S l11 fix X11 bR 11 15 1 w hin) ?_;rintro _ _ ⟨l12,X12,hl12,rfl⟩;refine Z_6 ?_;refine dz (cdF S l12 fix X12) (λw hi hin=>lN S l12 fix X12 bR 12 (gX S.p.branch) w hin) ?_;rintro _ _ ⟨l13,X13,hl13,rfl⟩;refine Z_5 ?_;refine dz (cdF S l13 fix X13) (λw hi hin=>gS S l13 fix X13 bR 5 11 11 12 w hin) ?_;rintro _ _ ⟨l14,X14,hl14,rfl⟩;refine Z_4 ?_;have b14:l14.length<=20000:=bR;refine Z_5 ?_;refine ri ?_;refine nP ?_;refine ZA ?_;refine ZN λb4=>?_
   refine ZM ?_;refine Z_2 ?_;refine cD (λ_:Unit=>[(0,.p S.b),(4,.p b4)]) (λ_=>[row S.b (pK S l14.length fix.length X14) 301,hiC X14.Al X14.cl l14,sl .i64 3 X14.Af fix.length X14.cf fix,row b4 [.i (bif jF S.p.branch then 16 else 17),.i 0,.i 11,.i 0,.w (IntKind.u32.wrap ((l14.length:Int)+2))] 309]) (λ_=>True) ?_ ?_
   .refine Zw6 ?_ ?_<;>intro hc11
    .have hjs:jF S.p.branch=false:=bR;rw[hjs,ah];refine mP ?_;refine Zn (bJ (()) ?_ ?_ ?_)
     .trivial
     .exact Zwk
     exact Zj
    have hjs:jF S.p.branch=true:=bR;rw[hjs,ai];refine Zc (bJ (()) ?_ ?_ ?_)
    .trivial
    .exact Zwk
    exact Zj
   intro s hs;refine Z_4 ?_;refine jj ?_;rintro _ _ ⟨b66,rfl,rfl⟩;refine dz (cdF S l14 fix X14) (λw hi hin=>lr S l14 fix X14 Wq1 [⟨bif jF S.p.branch then 16 else 17,0,11,0,IntKind.u32.wrap ((l14.length:Int)+2)⟩] (sA b66) 1 cH w hin (λw' hk=>dp (hi.SO Zi (show Has _ (slv 309 5 (sA b66) 1 1 ([⟨bif jF S.p.branch then 16 else 17,0,11,0,IntKind.u32.wrap ((l14.length:Int)+2)⟩].flatMap HI.cells))from Zh) hk))) ?_;rintro _ _ ⟨l15,X15,hl15,rfl⟩;refine Z_9 ?_;refine dz (cdF S l15 fix X15) (λw hi hin=>lN S l15 fix X15 bR 9 S.p.taken w hin) ?_;rintro _ _ ⟨l16,X16,hl16,rfl⟩;refine Zn (dM (((l16,X16):List HI×CAd)) ?_ ?_ ?_)
   .exact br_eq hl12 hl13 hl14 hl15 hl16 hc5
   .exact Zwk
   exact Zu
  refine Zc (dM (((l11,X11):List HI×CAd)) ?_ ?_ ?_)
  ·(simp only[hl11,iu,hc5,ai,ah,aw,aJ,aP,az])
  .exact Zwk
  exact Zu
 rintro⟨m2,s2⟩ hm2;dsimp only at hm2|-;have gB:=wz S.p l11.length;have bm2:m2.length<=l.length+20:=bR;refine cD (λq:List HI×CAd=>[(0,.p S.b)]) (λq=>cdF S q.1 fix q.2) (λq=>q.1=m2++jC S.p S.pl) ?_ ?_
 .refine pV ?_ ?_<;>intro hc15
  .have ht:=htg bR;refine Z_8 ?_;refine dz (cdF S m2 fix s2) (λw hi hin=>Gj S m2 fix s2 Wq1 S.p.target 7 ht w hin (λw' hk=>hK w' (hi.SC Zi hk))) ?_;rintro _ _ ⟨rfl,l21,X21,hl21,rfl⟩;refine ZA ?_;refine jj ?_;rintro _ _ ⟨b90,rfl,rfl⟩;refine dz (cdF S l21 fix X21) (λw hi hin=>lr S l21 fix X21 bR [⟨2,9,eC S.pl S.p.target 7,0,0⟩] (sA b90) 1 cH w hin (λw' hk=>dp (hi.SO Zi (show Has _ (slv 309 5 (sA b90) 1 1 ([⟨2,9,eC S.pl S.p.target 7,0,0⟩].flatMap HI.cells))from Zh) hk))) ?_;rintro _ _ ⟨l22,X22,hl22,rfl⟩;refine Zn (dM (((l22,X22):List HI×CAd)) ?_ ?_ ?_)
   ·(simp only[hl21,hl22,jC,hc15,ai,ah,aw,aJ,aP,az])
   .exact Zwk
   exact Zu
  refine Zc (dM (((m2,s2):List HI×CAd)) ?_ ?_ ?_)
  ·(simp only[jC,hc15,ai,ah,aw,aJ,aP,az])
  .exact Zwk
  exact Zu
 rintro⟨m3,s3⟩ hm3;dsimp only at hm3|-;have gT:=uT S.p S.pl;have bm3:m3.length<=l.length+30:=bR;refine Z_3 ?_;refine dz (cdF S m3 fix s3) (λw hi hin=>yq S m3 fix s3 Wq1 15 0 9 w hin) ?_;rintro _ _ ⟨l31,X31,hl31,rfl⟩;refine fB ?_;refine nP ?_;refine dz (cdF S l31 fix X31) (λw hi hin=>lN S l31 fix X31 bR 11 (IntKind.u32.wrap S.p.count) w hin) ?_;rintro _ _ ⟨l32,X32,hl32,rfl⟩;refine Z_5 ?_;refine dz (cdF S l32 fix X32) (λw hi hin=>yq S l32 fix X32 bR 15 36 11 w hin) ?_;rintro _ _ ⟨l33,X33,hl33,rfl⟩;refine Z_5 ?_;refine jj ?_;rintro _ _ ⟨b106,rfl,rfl⟩;refine dz (cdF S l33 fix X33) (λw hi hin=>lr S l33 fix X33 bR [⟨19,0,0,0,1⟩] (sA b106) 1 cH w hin (λw' hk=>dp (hi.SO Zi (show Has _ (slv 309 5 (sA b106) 1 1 ([⟨19,0,0,0,1⟩].flatMap HI.cells))from Zh) hk))) ?_;rintro _ _ ⟨l34,X34,hl34,rfl⟩;refine Zn (iY (cs':=cdF S l34 fix X34) (.inr rfl) Zu rfl ?_);exact⟨l34,X34,(end_eq hm1 hl11 hm2 hm3 hl31 hl32 hl33 hl34),rfl⟩
end
theorem Gr{α:Type}{f:α->Bool}{l:List α}{k:Nat}{x:α}(hx:l[k]? =some x)(h:(l.take k).all f=true)(hf:f x=true):(l.take (k+1)).all f=true:=by
 grind [List.take_add_one]
theorem Rz{α:Type}{f:α->Bool}{l:List α}{k:Nat}{x:α}(hx:l[k]? =some x)(hf:f x=false):l.all f=false:=by
 grind
theorem s6{a b:Int}:∀(c:List II) (i k:Nat) {x:II},c[k]? =some x->jf a b (c.take k) i=true->kw a b (i+k) x=true->jf a b (c.take (k+1)) i=true
 |[],_,_,_,h,_,_=>by simp at h
 |y::c,i,0,x,h,_,h2=>by
  grind [kw,jf]
 |y::c,i,k+1,x,h,h1,h2=>by
  have h1:(kw a b i y&&jf a b (c.take k) (i+1))=true:=h1;rw[aD]at h1;have:=s6 c (i+1) k (x:=x) bR h1.2 bR
  grind [kw,jf]
theorem yB{a b:Int}:∀(c:List II) (i k:Nat) {x:II},c[k]? =some x->kw a b (i+k) x=false->jf a b c i=false
 |[],_,_,_,h,_=>by simp at h
 |y::c,i,0,x,h,h2=>by
  grind [kw,jf]
 |y::c,i,k+1,x,h,h2=>by
  have:=yB c (i+1) k (x:=x) bR (by rw[show i+1+k=i+(k+1) by omega];exact h2)
  grind [kw,jf]
structure Gt(p:Pg)(Q:PAd)(w:World):Prop where
 code:RdV w 5 Q.Ac p.code.length Q.cc (p.code.flatMap II.cells)
 RV:Rd w .i64 Q.Ad p.RV.length Q.cd p.RV
 RX:Rd w .i64 Q.Ar p.RX.length Q.cr p.RX
structure tM(p:Pg):Prop where
 Si:p.values=p.code.length
 Se:p.code.length<=64
 RV:p.RV.length<=100
 RX:p.RX.length<=100
 imm:∀x,x∈p.code->0<=x.imm/\x.imm<=4294967295
theorem p8(a b:Int)(w:World):Ctr prog 265 [.i a,.i b] w [] (λr cs=>r= .bool (tf a b)/\cs=[]):=by
 refine Zfs func265 ntmps265 ?_;refine AO ?_;refine Zra ?_;exact⟨by unfold tf;grind,rfl⟩
theorem BJ(w:World):Ctr prog 228 [.i 7] w [] (λr cs=>r= .bool true/\cs=[]):=by
 refine Zfs func228 ntmps228 ?_;refine AG ?_;exact pM
theorem PY(A:Option Addr)(c:Nat)(l:List Int)(hl:l.length<=100)(w:World)(h:Rd w .i64 A l.length c l):Ctr prog 263 [.slice A l.length c] w [] (λr cs=>r= .bool (wm l)/\cs=[]):=by
 refine Zfs func263 ntmps263 ?_;refine iT ?_;refine bN (λk:Nat=>[(5,.slice A l.length c),(6,.i l.length),(7,.i (k:Int))]) (λ_=>[]) (λk=>k<=l.length/\(l.take k).all (λn=>decide (0<=n)&&decide (n<=16))=true) (λk=>l.length - k) (0) ?_ ?_ ?_ ?_
 .grind
 .exact Zwk
 .exact Zu
 rintro k ⟨hk,ha⟩;refine Zw6 ?_ ?_<;>intro hc2
 .simp only[ae]at hc2;obtain⟨ad,rfl⟩:=h.some_ Wq1;obtain⟨x,hx⟩:∃x,l[k]? =some x:=⟨_,aa (show k<l.length by omega)⟩;refine Z_6 ?_;refine CS ?_;refine dK (bF Zrf Zv0) (dL h (cq hx)) rfl (uw ?_ ?_)<;>intro hc4
  .have hf:(λn:Int=>decide (0<=n)&&decide (n<=16)) x=false:=bR;refine rf ?_;exact⟨by unfold wm;grind,rfl⟩
  have hf:(λn:Int=>decide (0<=n)&&decide (n<=16)) x=true:=bR;refine gh ?_;refine dM (k+1) ?_ ?_ ?_
  .exact⟨⟨by omega,Gr hx ha hf⟩,by omega⟩
  .exact Zwk
  exact Zu
 simp only[ac]at hc2;obtain rfl:k=l.length:=by omega
 rw[bl]at ha;refine rf ?_;exact⟨by unfold wm;rw[ha],rfl⟩
theorem Pp(p:Pg)(Q:PAd)(i:Nat)(x:II)(hx:p.code[i]? =some x)(him:0<=x.imm/\x.imm<=4294967295)(hd:0<=p.RI/\p.RI<=16)(hr:0<=p.RJ/\p.RJ<=16)(w:World)(h:RdV w 5 Q.Ac p.code.length Q.cc (p.code.flatMap II.cells)):
  Ctr prog 264 [pgv p Q,.i i] w [] (λr cs=>r= .bool (kw p.RI p.RJ i x)/\cs=[]):=by
 have hil:i<p.code.length:=by
  rcases Nat.lt_or_ge i p.code.length with h9|h9
  .exact h9
  grind
 obtain⟨ad,had⟩:=h.some_ Wq1;rw[had]at h;obtain⟨op,dst,xa,xb,imm⟩:=x;obtain⟨hi1,hi2⟩:=him;obtain⟨hd1,hd2⟩:=hd;obtain⟨hr1,hr2⟩:=hr;dsimp only at hi1 hi2;refine Zfs func264 ntmps264 ?_;refine Z_2 ?_;refine ZO λb2=>?_;refine Z_8 ?_;refine Zy (fI (j:=i) had rfl Zrf Zv0 Zv0 Zrf (λ_=>hil)) ?_;refine dK (bP (vs:=[.i op,.i dst,.i xa,.i xb,.w imm]) Zrf Zrf Zv0) (dY h (λj v hj=>da (f:=II.cells) Zrf (i:=j) hx hj)) rfl ?_;refine ZN λb5=>?_
 refine ZM ?_;refine gK ?_;refine ZW ?_ ?_<;>intro hc2
 .refine Z_7 ?_;refine Zra ?_;exact⟨by simp only[kw,hc2,ai],rfl⟩
 refine Z_7 ?_;refine dU fV (.cons Zv0 (.cons Zv0 .nil)) (λ_ _=>rfl) (λhg w hi=>p8 xa i w) rfl (Z_4 ?_);refine dU (bM rfl rfl) (.cons (bU rfl) (.cons (bU rfl) .nil)) (λ_ _=>rfl) (λhg w hi=>p8 xb i w) rfl (kX ?_);refine gK ?_;refine ZW ?_ ?_<;>intro hc7
 .refine ls ?_;exact⟨by simp only[kw,hc2,hc7,ai,ah]<;>cases xa==0<;>cases xb==0<;>rfl,rfl⟩
 refine Zw6 ?_ ?_<;>intro hc9
 .refine Z_6 ?_;refine Zyy rfl rfl (cQ rfl rfl (bU rfl) QB) ?_;refine Z_2 ?_;refine Zyy rfl rfl (cQ rfl rfl (bU rfl) QB) ?_;refine gf ?_;exact⟨by simp only[kw,hc2,hc7,hc9,ai,ah]<;>cases xa==0<;>cases xb==0<;>cases decide (imm<p.RI)<;>rfl,rfl⟩
 refine Zw6 ?_ ?_<;>intro hc11
 .refine Z_6 ?_;refine Zyy rfl rfl (cQ rfl rfl (bU rfl) QB) ?_;refine Z_2 ?_;refine Zyy rfl rfl (cQ rfl rfl (bU rfl) QB) ?_;refine gf ?_;exact⟨by simp only[kw,hc2,hc7,hc9,hc11,ai,ah]<;>cases xa==0<;>cases xb==0<;>cases decide (imm<p.RJ)<;>rfl,rfl⟩
 refine Zw6 ?_ ?_<;>intro hc13
 .refine IB ?_;refine Zra ?_;exact⟨by simp only[kw,hc2,hc7,hc9,hc11,hc13,ai,ah]<;>cases tf xa i<;>cases tf xb i<;>cases decide (16<=imm)<;>cases decide (imm<=23)<;>rfl,rfl⟩
 refine Zw6 ?_ ?_<;>intro hc15
 .refine kX ?_;refine Z_4 ?_;refine Zra ?_;exact⟨by simp only[kw,hc2,hc7,hc9,hc11,hc13,hc15,ai,ah]<;>cases tf xa i<;>cases tf xb i<;>cases decide (16<=imm)<;>cases decide (imm<=23)<;>cases imm==25<;>rfl,rfl⟩
 refine ls ?_;exact⟨by simp only[kw,hc2,hc7,hc9,hc11,hc13,hc15,ai,ah],rfl⟩
theorem vO(p:Pg)(Q:PAd)(hf:tM p)(w:World)(h:Gt p Q w):Ctr prog 227 [pgv p Q] w [] (λr cs=>r= .bool p.R7/\cs=[]):=by
 have hv1:(p.values !=(p.code.length:Int))=false:=by rw[hf.Si];simp
 have hv2:decide (64<p.values)=false:=by rw[hf.Si];have:=hf.Se;simp;omega
 have hv3:p.values=p.code.length:=hf.Si;have hm64:=hf.Se;have hoD:=hf.RV;have hoR:=hf.RX;have himm:=hf.imm;have hrc:=h.code;have hrD:=h.RV;have hrR:=h.RX;refine Zfs func227 ntmps227 ?_;refine Z_2 ?_;refine ZO λb1=>?_;refine AO ?_;rw[hv1,hv2];refine Z_8 ?_;refine gU (bE rfl rfl) rfl (i6 rfl rfl Zrf Zrf rfl rfl) rfl ?_;rintro _ _ ⟨b28,rfl,rfl⟩;refine dU (bE rfl rfl) (.cons (bU rfl) .nil) (λ_ _=>rfl) (λhg w hi=>PY (sA b28) 4 [p.RI,p.RJ,p.Sn,p.Sq] cH w (hi.rd (show Has _ (slv 3 1 (sA b28) 4 4 (ints .i64 [p.RI,p.RJ,p.Sn,p.Sq]))from Zh))) rfl (AN ?_ ?_)<;>intro hc1
 .have hok:p.SH=false:=(by unfold Pg.SH;grind);refine Z_7 ?_;refine Zra ?_;exact⟨by unfold Pg.R7;grind,rfl⟩
 have hok:p.SH=true:=(by unfold Pg.SH;grind);have hnn:(0<=p.RI/\p.RI<=16)/\(0<=p.RJ/\p.RJ<=16):=(by have:=hok;unfold Pg.SH wm at this;grind);refine fD ?_;refine bN (λk:Nat=>[(1,.p b1),(43,.slice Q.Ac p.code.length Q.cc),(44,.i p.code.length),(45,.i (k:Int))]) (λ_=>[row b1 (jD p Q) 258]) (λk=>k<=p.code.length/\jf p.RI p.RJ (p.code.take k) 0=true) (λk=>p.code.length - k) (0) ?_ ?_ ?_ ?_
 .exact⟨au _,rfl⟩
 .exact Zwk
 .exact Zu
 rintro k ⟨hk,ha⟩;refine Zw6 ?_ ?_<;>intro hc4
 .simp only[ae]at hc4;obtain⟨x,hx⟩:∃x,p.code[k]? =some x:=⟨_,aa (show k<p.code.length by omega)⟩;refine iT ?_;refine ZSe (λw hi=>Pp p Q k x hx (himm x (ak hx)) hnn.1 hnn.2 w (hrc.RU hi)) ?_;refine Zw3 ?_ ?_<;>intro hc6
  .have hm:kw p.RI p.RJ (0+k) x=false:=bR;refine rf ?_;exact⟨by unfold Pg.R7;rw[yB _ 0 _ hx hm,Bool.false_and,Bool.and_false],rfl⟩
  have hm:kw p.RI p.RJ (0+k) x=true:=bR;refine gh ?_;refine dM (k+1) ?_ ?_ ?_
  .exact⟨⟨by omega,s6 _ 0 k hx ha hm⟩,by omega⟩
  .exact Zwk
  exact Zu
 simp only[ac]at hc4;obtain rfl:k=p.code.length:=by omega
 rw[bl]at ha;refine fD ?_;refine kY ?_;rintro _ _ ⟨b57,rfl,rfl⟩;refine Z_5 ?_;refine bN (λk:Nat=>[(1,.p b1),(57,.slice (sA b57) 2 2),(58,.i 2),(59,.i (k:Int))]) (λ_=>[row b1 (jD p Q) 258,slv 55 1 (sA b57) 2 2 [.slice Q.Ad p.RV.length Q.cd,.slice Q.Ar p.RX.length Q.cr]]) (λk=>k<=2/\([p.RV,p.RX].take k).all (λl=>l.all λn=>tf n p.code.length)=true) (λk=>2 - k) (0) ?_ ?_ ?_ ?_
 .grind
 .exact Zwk
 .exact Zu
 rintro k2 ⟨hk2,ha2⟩;refine Zw6 ?_ ?_<;>intro hc10
 .simp only[ae]at hc10;obtain⟨A1,c1,l1,hx1,hx2,hR1,hb1⟩:∃(A1:Option Addr) (c1:Nat) (l1:List Int),[Value.slice Q.Ad p.RV.length Q.cd,.slice Q.Ar p.RX.length Q.cr][k2]? =some (.slice A1 l1.length c1)/\[p.RV,p.RX][k2]? =some l1/\Rd w .i64 A1 l1.length c1 l1/\l1.length<=100:=bR;refine Z_6 ?_;refine Zy (bS (j:=k2) rfl Zrf (Zv rfl) (Zv rfl) Wq2 Wq2) ?_;refine dK (bF Zrf Zv0) (u5 Zh hx1) rfl (gK ?_);refine bN (λk:Nat=>[(1,.p b1),(57,.slice (sA b57) 2 2),(58,.i 2),(59,.i (k2:Int)),(63,.slice A1 l1.length c1),(64,.i l1.length),(65,.i (k:Int))]) (λ_=>[row b1 (jD p Q) 258,slv 55 1 (sA b57) 2 2 [.slice Q.Ad p.RV.length Q.cd,.slice Q.Ar p.RX.length Q.cr]]) (λk=>k<=l1.length/\(l1.take k).all (λn=>tf n p.code.length)=true) (λk=>l1.length - k) (0) ?_ ?_ ?_ ?_
  .grind
  .exact Zwk
  .exact Zu
  rintro k3 ⟨hk3,ha3⟩;refine Zw6 ?_ ?_<;>intro hc13
  .simp only[ae]at hc13;obtain⟨ad,rfl⟩:=hR1.some_ Wq1;obtain⟨x,hx⟩:∃x,l1[k3]? =some x:=⟨_,aa (show k3<l1.length by omega)⟩;refine Z_6 ?_;refine Zy (bS (j:=k3) rfl Zrf (Zv rfl) (Zv rfl) Wq2 Wq2) ?_;refine dK (bF Zrf Zv0) (dL hR1 (cq hx)) rfl (Z_8 ?_);refine ZSe (λw hi=>p8 x p.values w) ?_;refine Zw3 ?_ ?_<;>intro hc15
   .have hm:tf x p.code.length=false:=bR;refine sx ?_;refine Zra ?_;exact⟨by have h9:=Rz (f:=λl:List Int=>l.all λn=>tf n p.code.length) hx2 (Rz hx hm);unfold Pg.R7;grind,rfl⟩
   have hm:tf x p.code.length=true:=bR;refine gh ?_;refine dM (k3+1) ?_ ?_ ?_
   .exact⟨⟨by omega,Gr hx ha3 hm⟩,by omega⟩
   .exact Zwk
   exact Zu
  simp only[ac]at hc13;obtain rfl:k3=l1.length:=by omega
  rw[bl]at ha3;refine Z_7 ?_;refine Wq6 ?_;refine dM (k2+1) ?_ ?_ ?_
  .grind
  .exact Zwk
  exact Zu
 simp only[ac]at hc10;obtain rfl:k2=2:=by omega
 refine sw ?_;refine dU (bM rfl rfl) (.cons (bU rfl) (.cons (bU rfl) .nil)) (λ_ _=>rfl) (λhg w hi=>p8 p.flags p.values w) rfl (gK ?_);refine dU (cu rfl rfl) (.cons (bU rfl) (.cons (bU rfl) .nil)) (λ_ _=>rfl) (λhg w hi=>p8 p.target p.values w) rfl (Zw5 ?_ ?_)<;>intro hc19
 .refine Z_7 ?_;refine Zra ?_;exact⟨by have h9:p.SG=false:=(by unfold Pg.SG;grind);unfold Pg.R7;grind,rfl⟩
 refine kX ?_;refine Z_6 ?_;refine Zra ?_;exact⟨by have h9:p.SG=(p.branch==0||((decide (33<=p.branch)&&decide (p.branch<=37))&&p.target== -1)):=(by unfold Pg.SG;grind);simp only[List.take,List.all_cons,List.all_nil,Bool.and_true,aD]at ha2;unfold Pg.R7;rw[hok,ha,ha2.1,ha2.2,h9];cases p.branch==0<;>cases decide (33<=p.branch)<;>cases decide (p.branch<=37)<;>cases p.target== -1<;>rfl,rfl⟩
end
end Go.Ink
