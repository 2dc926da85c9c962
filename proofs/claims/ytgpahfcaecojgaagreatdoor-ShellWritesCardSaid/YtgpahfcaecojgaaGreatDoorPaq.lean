/- Lemmas. -/
import Derived.Test.YtgpahfcaecojgaaGreatDoorPap
set_option linter.all false
set_option maxRecDepth 100000
set_option maxHeartbeats 4000000
namespace Go.Ink
open Go.RowKit Go.Proofs.Tryz
theorem Dd(pl:Pl)(base f:Int)(n:Int):∀(c:Li) (k:Nat),AY pl base f (c++[n]) k=AY pl base f c k++(kf pl n 7++[⟨15,0,base,eG pl n 7,IntKind.u32.wrap (f+IntKind.u32.wrap ((k+c.length:Nat):Int))⟩])
 |[],k=>by simp[AY]
 |x::c,k=>by
  have ih:=Dd pl base f n c (k+1)
  grind [kf,AY]
theorem HV(pl:Pl)(base f:Int):∀(c:Li) (k:Nat),(AY pl base f c k).length<=2*c.length
 :=by intro y1;induction y1<;>grind [ke,kf,AY]
theorem Sj(a b:Int)(pl:Pl)(n:Int)(x:II):(r8 a b pl n x).length<=30:=by
 grind [ke,uS,eG,D2,Ow,r8]
theorem QT(c d i:Int):IntKind.u32.wrap (IntKind.i64.wrap (IntKind.i64.wrap (IntKind.i64.wrap (c+d) - 1) - IntKind.i64.wrap i))=IntKind.u32.wrap (c+d - 1 - i):=by
 grind [IntKind.wrap_u32,IntKind.wrap_i64]
section
attribute [local irreducible] OpY bN
section
variable (S:CdS) (l:List HI) (fix:Li) (X:CAd)
theorem cone_ok(hl:l.length<=12000)(n:Nat)(op dst xa xb imm:Int)(hn:n<S.pl.reg.length)(hn2:n<S.pl.slot.length)(hab:(op==3)=true\/(op==4)=true->∃na nb:Nat,xa=na/\xb=nb/\(na<S.pl.reg.length/\na<S.pl.slot.length)/\(nb<S.pl.reg.length/\nb<S.pl.slot.length))(w:World)(hi:Inv w (bK (cdF S l fix X)) (cdF S l fix X) w)(hK:∀w',dc (bK (cdF S l fix X)) w w'->QJ S w'):
  Ctr prog 215 [.p S.b,.i n,.agg #[.i op,.i dst,.i xa,.i xb,.w imm]] w (cdF S l fix X) (λr9 cs=>∃l' X',l'=l++r8 S.p.Wc S.p.Wd S.pl n ⟨op,dst,xa,xb,imm⟩/\cs=cdF S l' (fix) X'):=by
 have gA:=ke S.pl xa 7;have gB:=ke S.pl xb 8;have aA:=uS imm (eG S.pl n 9) (eG S.pl xa 7) (eG S.pl xb 8);have fA:=D2 imm (eG S.pl xa 7) (eG S.pl xb 8);refine Zfn func215 ntmps215 hi ?_;refine Z_2 ?_;refine ZO λb5=>?_;refine Z_6 ?_;refine dy (cdF S l fix X) (λw hi hin=>cto_ok S l fix X Wq1 n hn w hin (λw' hk=>hK w' (hi.WU Zi hk))) ?_;rintro _ _ ⟨rfl,l1,X1,hl1,rfl⟩;refine Z_3 ?_;refine cL (λq:List HI×CAd=>[(0,.p S.b),(1,.i n),(6,.i (eG S.pl n 9))]) (λq=>cdF S q.1 fix q.2) (λq=>q.1.length<=l.length+30/\q.1++jd S.pl n (eG S.pl n 9)=l++r8 S.p.Wc S.p.Wd S.pl n ⟨op,dst,xa,xb,imm⟩) ?_ ?_
 .refine yk ?_ ?_<;>intro hc3
  .refine Z_5 ?_;refine dy (cdF S l1 fix X1) (λw hi hin=>lZ S l1 fix X1 bY (eG S.pl n 9) imm w hin) ?_;rintro _ _ ⟨l2,X2,hl2,rfl⟩;refine Z_2 ?_;refine qMM (((l2,X2):List HI×CAd)) ⟨by grind,by simp only[hl1,hl2,r8,ai,ah,aq,aP,aR,aw,hc3]⟩
  refine Zw6 ?_ ?_<;>intro hc5
  .refine Wq454 ?_;refine ZFe 5 1 ?_;refine Wq352 ?_;refine Wq260 ?_;refine gX rfl rfl (dN (cdF S l1 fix X1) rfl (λ_ _=>rfl) Zi (λw hi hin=>El S l1 fix X1 bY (eG S.pl n 9) 14 (IntKind.u32.wrap (4+S.p.Wc - 1 - imm)) w hin)) (λ_=>by rintro _ _ ⟨_,⟨l2,X2,hl2,rfl⟩,rfl⟩;exact bL (t:=343) Zh) rfl ?_;rintro _ _ ⟨_,⟨l2,X2,hl2,rfl⟩,rfl⟩;refine dR ?_;refine Zo (qMM (((l2,X2):List HI×CAd)) ⟨by grind,by simp only[hl1,hl2,r8,ai,ah,aq,aP,aR,aw,hc3,hc5]⟩)
  refine Zw6 ?_ ?_<;>intro hc7
  .refine Wq454 ?_;refine ZFe 5 2 ?_;refine Wq352 ?_;refine Wq260 ?_;refine gX rfl rfl (dN (cdF S l1 fix X1) rfl (λ_ _=>rfl) Zi (λw hi hin=>El S l1 fix X1 bY (eG S.pl n 9) 13 (IntKind.u32.wrap (20+S.p.Wd - 1 - imm)) w hin)) (λ_=>by rintro _ _ ⟨_,⟨l2,X2,hl2,rfl⟩,rfl⟩;exact bL (t:=343) Zh) rfl ?_;rintro _ _ ⟨_,⟨l2,X2,hl2,rfl⟩,rfl⟩;refine dR ?_;refine Zo (qMM (((l2,X2):List HI×CAd)) ⟨by grind,by simp only[hl1,hl2,r8,ai,ah,aq,aP,aR,aw,hc3,hc5,hc7]⟩)
  refine Zw6 ?_ ?_<;>intro hc9
  .obtain⟨na,nb,rfl,rfl,⟨h1,h2⟩,h3,h4⟩:=hab (Or.inl hc9);refine Zs (bU (Zdr [3,7] (mU b5 [.i op,.i dst,.i na,.i nb,.w imm])) Zk ?_);refine ZE 0 ?_;refine ZFe 1 2 ?_;refine eu 2 rfl Zk Zk Zk (bM Zrf Zv0) (dg rfl) (bL (t:=343) Zh) rfl (Wq156 ?_);rintro _ _ ⟨_,⟨rfl,l2,X2,hl2,rfl⟩,rfl⟩;refine Wq239 ?_;rintro _ _ ⟨_,⟨rfl,l3,X3,hl3,rfl⟩,rfl⟩;refine ZE 8 ?_;refine ZE 9 ?_;refine dR ?_;refine Z_8 ?_;refine dy (cdF S l3 fix X3) (λw hi hin=>P2 S l3 fix X3 bY imm (eG S.pl n 9) (eG S.pl na 7) (eG S.pl nb 8) w hin) ?_;rintro _ _ ⟨l4,X4,hl4,rfl⟩;refine Z_2 ?_;refine qMM (((l4,X4):List HI×CAd)) ⟨by grind,by simp only[hl1,hl2,hl3,hl4,r8,ai,ah,aq,aP,aR,aw,hc3,hc5,hc7,hc9]⟩
  refine Zw6 ?_ ?_<;>intro hc12
  .obtain⟨na,nb,rfl,rfl,⟨h1,h2⟩,h3,h4⟩:=hab (Or.inr hc12);refine Zs (bU (Zdr [3,7] (mU b5 [.i op,.i dst,.i na,.i nb,.w imm])) Zk ?_);refine ZE 0 ?_;refine ZFe 1 2 ?_;refine eu 2 rfl Zk Zk Zk (bM Zrf Zv0) (dg rfl) (bL (t:=343) Zh) rfl (Wq156 ?_);rintro _ _ ⟨_,⟨rfl,l2,X2,hl2,rfl⟩,rfl⟩;refine Wq239 ?_;rintro _ _ ⟨_,⟨rfl,l3,X3,hl3,rfl⟩,rfl⟩;refine ZE 8 ?_;refine ZE 9 ?_;refine dR ?_;refine Z_8 ?_;refine dy (cdF S l3 fix X3) (λw hi hin=>TV S l3 fix X3 bY imm (eG S.pl na 7) (eG S.pl nb 8) w hin) ?_;rintro _ _ ⟨l4,X4,hl4,rfl⟩;refine xv ?_;rintro _ _ ⟨b93,rfl,rfl⟩;refine dy (cdF S l4 fix X4) (λw hi hin=>lB S l4 fix X4 bY [⟨2,eG S.pl n 9,10,0,0⟩] (sA b93) 1 cP w hin (λw' hk=>dx (hi.Xc Zi (Zhc (slv 347 5 (sA b93) 1 1 ([⟨2,eG S.pl n 9,10,0,0⟩].flatMap HI.cells))) hk))) ?_;rintro _ _ ⟨l5,X5,hl5,rfl⟩;refine Z_2 ?_;refine qMM (((l5,X5):List HI×CAd)) ⟨by grind,by simp only[hl1,hl2,hl3,hl4,hl5,r8,ai,ah,aq,aP,aR,aw,hc3,hc5,hc7,hc9,hc12]⟩
  refine Z_2 ?_;refine qMM (((l1,X1):List HI×CAd)) ⟨by grind,by simp only[hl1,r8,ai,ah,aq,aP,aR,aw,hc3,hc5,hc7,hc9,hc12]⟩
 rintro⟨m9,s9⟩ ⟨hs8,hs9⟩;dsimp only at hs8 hs9|-;refine Z_4 ?_;refine dy (cdF S m9 fix s9) (λw hi hin=>TR S m9 fix s9 Wq1 n (eG S.pl n 9) hn hn2 w hin (λw' hk=>hK w' (hi.WU Zi hk))) ?_;rintro _ _ ⟨l21,X21,hl21,rfl⟩;refine Zn (jE (cs':=cdF S l21 fix X21) (.inr rfl) Zu rfl ?_);exact⟨l21,X21,bY,rfl⟩
theorem Eh(hl:l.length<=10000)(base f word:Int)(A:Oa)(c:Nat)(o:Li)(ho:o.length<=1000)(hoj:∀j,j∈o->∃n:Nat,j=n/\n<S.pl.reg.length/\n<S.pl.slot.length)(w:World)(hi:Inv w (bK (cdF S l fix X)) (cdF S l fix X) w)(hK:∀w',dc (bK (cdF S l fix X)) w w'->QJ S w')(hO:∀w',dc (bK (cdF S l fix X)) w w'->Rd w' .i64 A o.length c o):
  Ctr prog 216 [.p S.b,.i base,.w f,.w word,.slice A o.length c] w (cdF S l fix X) (λr9 cs=>∃l' X',l'=l++iZ S.pl base f word o/\cs=cdF S l' (fix) X'):=by
 refine Zfn func216 ntmps216 hi ?_;refine Z_9 ?_;refine wLo (λq:Nat×List HI×CAd=>[(0,.p S.b),(1,.i base),(2,.w f),(3,.w word),(4,.slice A o.length c),(12,.slice A o.length c),(13,.i o.length),(14,.i (q.1:Int))]) (λq=>cdF S q.2.1 fix q.2.2) (λq=>q.1<=o.length/\q.2.1=l++AY S.pl base f (o.take q.1) 0) (λq=>o.length - q.1) (⟨0,l,X⟩) ⟨ap _,(aw l).symm⟩ ?_;rintro⟨k,l0,X0⟩ ⟨hk,hl0⟩;dsimp only at hk hl0|-;have ol:=HV S.pl base f (o.take k) 0;have ll:l0.length<=l.length+2*o.length:=bY;refine Zw6 ?_ ?_<;>intro hc1
 .simp only[ac]at hc1;obtain⟨ad,had⟩:∃ad,A=some ad:=Option.ne_none_iff_exists'.1 (λe=>by have:=((hO w (dc.refl _ _)).nil e).1;omega);obtain⟨j,hj⟩:∃j,o[k]? =some j:=⟨_,ae (show k<o.length by omega)⟩;obtain⟨n,rfl,h1,h2⟩:=hoj j (ak hj);have htk:o.take (k+1)=o.take k++[(n:Int)]:=(by rw[bE,hj];rfl);have hO2:∀w',dc (bK (cdF S l fix X)) w w'->RdV w' 1 (some ad) o.length c (ints .i64 o):=λw' hk=>had▸hO w' hk
  have hol:(o.take k).length=k:=bY;have gA:=ke S.pl n 7;refine Z_7 ?_;refine Zy (ii (j:=k) had rfl Zrf (Zv rfl) (Zv rfl) Zrf Wq2) ?_;refine dQ (bM Zrf Zv0) (oH (v:= .i n) hO2 (cK hj)) rfl (Z_9 ?_);refine oq ?_;refine pR ?_;refine Z_2 ?_;refine dy (cdF S l0 fix X0) (λw hi hin=>BO S l0 fix X0 Wq1 n 7 h1 h2 w hin (λw' hk=>hK w' (hi.WU Zi hk))) ?_;rintro _ _ ⟨rfl,l1,X1,hl1,rfl⟩;refine dy (cdF S l1 fix X1) (λw hi hin=>zx S l1 fix X1 bY base (IntKind.u32.wrap (f+IntKind.u32.wrap (k:Int))) (eG S.pl n 7) w hin) ?_;rintro _ _ ⟨l2,X2,hl2,rfl⟩;refine jS ?_;refine qMM ((⟨k+1,l2,X2⟩:Nat×List HI×CAd)) ⟨⟨by omega,by dsimp only;rw[htk,Dd,hol,Nat.zero_add,hl2,hl1,hl0];grind⟩,by omega⟩
 simp only[aa]at hc1;obtain rfl:k=o.length:=by omega
 rw[bC]at hl0;refine fH ?_;refine oq ?_;refine dy (cdF S l0 fix X0) (λw hi hin=>lZ S l0 fix X0 Wq1 11 (IntKind.u32.wrap (o.length:Int)) w hin) ?_;rintro _ _ ⟨l11,X11,hl11,rfl⟩;refine Z_6 ?_;refine dy (cdF S l11 fix X11) (λw hi hin=>gO S l11 fix X11 bY 3 11 11 base w hin) ?_;rintro _ _ ⟨l12,X12,hl12,rfl⟩;refine Z_5 ?_;refine dy (cdF S l12 fix X12) (λw hi hin=>zx S l12 fix X12 bY 15 word 11 w hin) ?_;rintro _ _ ⟨l13,X13,hl13,rfl⟩;refine Zn (jE (cs':=cdF S l13 fix X13) (.inr rfl) Zu rfl ?_);exact⟨l13,X13,(by simp only[hl11,hl12,hl13,hl0,iZ,ai,ah,aq,aP,aR,aw]),rfl⟩
theorem TL(hl:l.length<=10000)(base word Wi high:Int)(o:Nat)(hb1:0<=Wi/\Wi<=100000)(hb2: -100000<=high/\high<=100000)(hb3:o<=100000)(hf:fix.length<=100):CI prog 214 [.p S.b,.i base,.w word,.i Wi,.i high,.i o] (cdF S l fix X) (λr9 cs=>r9= .bool (!decide (i3 Wi high o<Wi))/\∃l' f' X',l'=l++(bif(!decide (i3 Wi high o<Wi))then qq 0 base word Wi (i3 Wi high o)else[])/\f'=fix++(bif(!decide (i3 Wi high o<Wi))then[((l.length+3:Nat):Int),((l.length+6:Nat):Int)]else[])/\cs=cdF S l' f' X'):=λw hi=>by
 have hm:(if(16:Int)+Wi - o<16 - high then(16:Int)+Wi - o else 16 - high)=i3 Wi high o:=rfl;obtain⟨mo,hmo⟩:=Zgn (i3 Wi high o);rw[hmo]at hm|-;refine Zfn func214 ntmps214 hi ?_;refine Z_8 ?_;refine pd ?_;refine ZA ?_;refine rh ?_;refine ZA ?_;refine pd ?_;refine Zy (Js Zv0 Zv0 hm) ?_;refine xL ?_ ?_<;>intro hc2
 .have hok:(!decide (mo<Wi))=false:=bY;rw[hok];refine Z_7 ?_;refine Zrb (cdF S l fix X) ?_;exact⟨rfl,l,fix,X,(aw l).symm,(aw fix).symm,rfl⟩
 have hok:(!decide (mo<Wi))=true:=bY;rw[hok];refine Z_7 ?_;refine dy (cdF S l fix X) (λw hi hin=>El S l fix X Wq1 base 15 word w hin) ?_;rintro _ _ ⟨l1,X1,hl1,rfl⟩;refine Z_6 ?_;refine oq ?_;refine dy (cdF S l1 fix X1) (λw hi hin=>lZ S l1 fix X1 bY 11 (IntKind.u32.wrap Wi) w hin) ?_;rintro _ _ ⟨l2,X2,hl2,rfl⟩;refine Z_6 ?_;refine dy (cdF S l2 fix X2) (λw hi hin=>gO S l2 fix X2 bY 12 12 base 11 w hin) ?_;rintro _ _ ⟨l3,X3,hl3,rfl⟩;refine Z_5 ?_;refine dy (cdF S l3 fix X3) (λw hi hin=>zu S l3 fix X3 bY 12 Wq1 w hin) ?_;rintro _ _ ⟨l4,X4,hl4,rfl⟩;refine Z_6 ?_;refine oq ?_;refine dy (cdF S l4 (fix++[(l3.length:Int)]) X4) (λw hi hin=>lZ S l4 (fix++[(l3.length:Int)]) X4 bY 12 (IntKind.u32.wrap mo) w hin) ?_;rintro _ _ ⟨l5,X5,hl5,rfl⟩;refine Z_6 ?_;refine dy (cdF S l5 (fix++[(l3.length:Int)]) X5) (λw hi hin=>gO S l5 (fix++[(l3.length:Int)]) X5 bY 12 12 12 base w hin) ?_;rintro _ _ ⟨l6,X6,hl6,rfl⟩;refine Z_5 ?_;refine dy (cdF S l6 (fix++[(l3.length:Int)]) X6) (λw hi hin=>zu S l6 (fix++[(l3.length:Int)]) X6 bY 12 bY w hin) ?_;rintro _ _ ⟨l7,X7,hl7,rfl⟩;refine Z_7 ?_;refine dy (cdF S l7 ((fix++[(l3.length:Int)])++[(l6.length:Int)]) X7) (λw hi hin=>gO S l7 ((fix++[(l3.length:Int)])++[(l6.length:Int)]) X7 bY 4 base base 11 w hin) ?_;rintro _ _ ⟨l8,X8,hl8,rfl⟩;refine Z_8 ?_;refine Zrb (cdF S l8 ((fix++[(l3.length:Int)])++[(l6.length:Int)]) X8) ?_;exact⟨rfl,l8,_,X8,(by simp only[hl1,hl2,hl3,hl4,hl5,hl6,hl7,hl8,qq,ai,aq,aP,aR]),bY,rfl⟩
end
theorem zo(p:Pg)(pl:Pl):(gM p pl).length<=4:=by
 grind [ke,gM]
theorem wZ(p:Pg)(pos:Nat):(iz p pos).length<=5:=by
 grind [iz]
theorem vk(p:Pg)(pl:Pl):(jJ p pl).length<=2:=by
 grind [ke,jJ]
theorem oC(pl:Pl)(b f w:Int)(o:Li):(iZ pl b f w o).length<=2*o.length+3:=by
 simp[HV,iZ]
theorem Du(a b:Int)(pl:Pl):∀(c:List II) (n:Nat),(ka a b pl c n).length<=30*c.length
 :=by intro y1;induction y1<;>grind [Sj,r8,ka]
theorem zb(a b:Int)(pl:Pl)(x:II):∀(c:List II) (n:Nat),ka a b pl (c++[x]) n=ka a b pl c n++r8 a b pl ((n+c.length:Nat):Int) x
 |[],n=>by simp[ka]
 |y::c,n=>by
  have h:=zb a b pl x c (n+1);show r8 a b pl n y++ka a b pl (c++[x]) (n+1)=(r8 a b pl n y++ka a b pl c (n+1))++_
  grind
theorem br_eq{p:Pg}{l11 l12 l13 l14 l15 l16:List HI}(h12:l12=l11++[⟨14,11,15,0,1⟩])(h13:l13=l12++[⟨1,12,0,0,gU p.branch⟩])(h14:l14=l13++[⟨5,11,11,12,0⟩])(h15:l15=l14++[⟨bif jN p.branch then 16 else 17,0,11,0,IntKind.u32.wrap ((l14.length:Int)+2)⟩])(h16:l16=l15++[⟨1,9,0,0,p.taken⟩])(hb:(p.branch !=0)=true):
  l16=l11++iz p l11.length:=by
 grind [iz]
theorem end_eq{p:Pg}{pl:Pl}{l m1 l11 m2 m3 l31 l32 l33 l34:List HI}(h1:m1=l++gM p pl)(h11:l11=m1++[⟨1,9,0,0,p.next⟩])(h2:m2=l11++iz p l11.length)(h3:m3=m2++jJ p pl)(h31:l31=m3++[⟨15,0,15,9,0⟩])(h32:l32=l31++[⟨1,11,0,0,IntKind.u32.wrap p.count⟩])(h33:l33=l32++[⟨15,0,15,11,36⟩])(h34:l34=l33++[⟨19,0,0,0,1⟩]):
  l34=l++uN p pl l.length:=by
 have hn:l11.length=l.length+(gM p pl).length+1:=by rw[h11,h1];simp;omega
 grind [uN]
section
variable (S:CdS) (l:List HI) (fix:Li) (X:CAd)
theorem I9(hl:l.length<=20000)(j into:Int)(hj:∃n:Nat,j=n/\n<S.pl.reg.length/\n<S.pl.slot.length)(w:World)(hi:Inv w (bK (cdF S l fix X)) (cdF S l fix X) w)(hK:∀w',dc (bK (cdF S l fix X)) w w'->QJ S w'):
  Ctr prog 267 [.p S.b,.i j,.i into] w (cdF S l fix X) (λr9 cs=>r9= .i (eG S.pl j into)/\∃l' X',l'=l++kf S.pl j into/\cs=cdF S l' (fix) X'):=by
 grind [BO]
theorem cend_ok(hl:l.length<=10000)(hfl:0<=S.p.flags->∃n:Nat,S.p.flags=n/\n<S.pl.reg.length/\n<S.pl.slot.length)(htg:0<=S.p.target->∃n:Nat,S.p.target=n/\n<S.pl.reg.length/\n<S.pl.slot.length)(w:World)(hi:Inv w (bK (cdF S l fix X)) (cdF S l fix X) w)(hK:∀w',dc (bK (cdF S l fix X)) w w'->QJ S w'):
  Ctr prog 217 [.p S.b] w (cdF S l fix X) (λr9 cs=>∃l' X',l'=l++uN S.p S.pl l.length/\cs=cdF S l' (fix) X'):=by
 have gF:=zo S.p S.pl;have gG:=ke S.pl S.p.flags 7;have gH:=ke S.pl S.p.target 7;refine Zfn func217 ntmps217 hi ?_;refine cL (λq:List HI×CAd=>[(0,.p S.b)]) (λq=>cdF S q.1 fix q.2) (λq=>q.1=l++gM S.p S.pl) ?_ ?_
 .refine mZ ?_ ?_<;>intro hc0
  .have hf:=hfl bY;refine Z_3 ?_;refine dy (cdF S l fix X) (λw hi hin=>lZ S l fix X Wq1 11 15 w hin) ?_;rintro _ _ ⟨l1,X1,hl1,rfl⟩;refine gq ?_;refine dy (cdF S l1 fix X1) (λw hi hin=>I9 S l1 fix X1 bY S.p.flags 7 hf w hin (λw' hk=>hK w' (hi.WU Zi hk))) ?_;rintro _ _ ⟨rfl,l2,X2,hl2,rfl⟩;refine dy (cdF S l2 fix X2) (λw hi hin=>gO S l2 fix X2 bY 5 11 11 (eG S.pl S.p.flags 7) w hin) ?_;rintro _ _ ⟨l3,X3,hl3,rfl⟩;refine Z_4 ?_;refine dy (cdF S l3 fix X3) (λw hi hin=>zx S l3 fix X3 bY 15 1 11 w hin) ?_;rintro _ _ ⟨l4,X4,hl4,rfl⟩;refine Zn (qMM (((l4,X4):List HI×CAd)) ?_);simp only[hl1,hl2,hl3,hl4,gM,hc0,ai,ah,aq,aP,aR,aw]
  refine Zc (qMM (((l,X):List HI×CAd)) ?_);simp only[gM,hc0,ai,ah,aq,aP,aR,aw]
 rintro⟨m1,s1⟩ hm1;dsimp only at hm1|-;have bm1:m1.length<=l.length+4:=bY;refine Z_8 ?_;refine dy (cdF S m1 fix s1) (λw hi hin=>lZ S m1 fix s1 Wq1 9 S.p.next w hin) ?_;rintro _ _ ⟨l11,X11,hl11,rfl⟩;refine Z_2 ?_;refine cL (λq:List HI×CAd=>[(0,.p S.b)]) (λq=>cdF S q.1 fix q.2) (λq=>q.1=l11++iz S.p l11.length) ?_ ?_
 .refine mZ ?_ ?_<;>intro hc5
  .refine Z_7 ?_;refine ZSe (λw hi=>SR S.p.branch w) ?_;refine fH ?_;refine dy (cdF S l11 fix X11) (λw hi hin=>El S l11 fix X11 bY 11 15 1 w hin) ?_;rintro _ _ ⟨l12,X12,hl12,rfl⟩;refine Z_6 ?_;refine dy (cdF S l12 fix X12) (λw hi hin=>lZ S l12 fix X12 bY 12 (gU S.p.branch) w hin) ?_;rintro _ _ ⟨l13,X13,hl13,rfl⟩;refine Z_5 ?_;refine dy (cdF S l13 fix X13) (λw hi hin=>gO S l13 fix X13 bY 5 11 11 12 w hin) ?_;rintro _ _ ⟨l14,X14,hl14,rfl⟩;refine Z_4 ?_;have b14:l14.length<=20000:=bY;refine Z_5 ?_;refine rh ?_;refine oq ?_;refine ZA ?_;refine ZN λb4=>?_
   refine ZM ?_;refine Z_2 ?_;refine cL (λ_:Unit=>[(0,.p S.b),(4,.p b4)]) (λ_=>[row S.b (ss S l14.length fix.length X14) 339,hiC X14.Al X14.cl l14,sl .i64 3 X14.Af fix.length X14.cf fix,row b4 [.i (bif jN S.p.branch then 16 else 17),.i 0,.i 11,.i 0,.w (IntKind.u32.wrap ((l14.length:Int)+2))] 347]) (λ_=>True) ?_ ?_
   .refine Zw6 ?_ ?_<;>intro hc11
    .have hjs:jN S.p.branch=false:=bY;rw[hjs,ah];refine kZ ?_;refine Zn (qMP (()) kY)
    have hjs:jN S.p.branch=true:=bY;rw[hjs,ai];refine Zc (qMP (()) kY)
   intro s hs;refine Z_4 ?_;refine pZ ?_;rintro _ _ ⟨b66,rfl,rfl⟩;refine dy (cdF S l14 fix X14) (λw hi hin=>lB S l14 fix X14 Wq1 [⟨bif jN S.p.branch then 16 else 17,0,11,0,IntKind.u32.wrap ((l14.length:Int)+2)⟩] (sA b66) 1 cP w hin (λw' hk=>dx (hi.Xc Zi (Zhc (slv 347 5 (sA b66) 1 1 ([⟨bif jN S.p.branch then 16 else 17,0,11,0,IntKind.u32.wrap ((l14.length:Int)+2)⟩].flatMap HI.cells))) hk))) ?_;rintro _ _ ⟨l15,X15,hl15,rfl⟩;refine Z_9 ?_;refine dy (cdF S l15 fix X15) (λw hi hin=>lZ S l15 fix X15 bY 9 S.p.taken w hin) ?_;rintro _ _ ⟨l16,X16,hl16,rfl⟩;refine Zn (qMM (((l16,X16):List HI×CAd)) (br_eq hl12 hl13 hl14 hl15 hl16 hc5))
  refine Zc (qMM (((l11,X11):List HI×CAd)) ?_);simp only[hl11,iz,hc5,ai,ah,aq,aP,aR,aw]
 rintro⟨m2,s2⟩ hm2;dsimp only at hm2|-;have gB:=wZ S.p l11.length;have bm2:m2.length<=l.length+20:=bY;refine cL (λq:List HI×CAd=>[(0,.p S.b)]) (λq=>cdF S q.1 fix q.2) (λq=>q.1=m2++jJ S.p S.pl) ?_ ?_
 .refine mZ ?_ ?_<;>intro hc15
  .have ht:=htg bY;refine Z_8 ?_;refine dy (cdF S m2 fix s2) (λw hi hin=>I9 S m2 fix s2 Wq1 S.p.target 7 ht w hin (λw' hk=>hK w' (hi.WU Zi hk))) ?_;rintro _ _ ⟨rfl,l21,X21,hl21,rfl⟩;refine ZA ?_;refine pZ ?_;rintro _ _ ⟨b90,rfl,rfl⟩;refine dy (cdF S l21 fix X21) (λw hi hin=>lB S l21 fix X21 bY [⟨2,9,eG S.pl S.p.target 7,0,0⟩] (sA b90) 1 cP w hin (λw' hk=>dx (hi.Xc Zi (Zhc (slv 347 5 (sA b90) 1 1 ([⟨2,9,eG S.pl S.p.target 7,0,0⟩].flatMap HI.cells))) hk))) ?_;rintro _ _ ⟨l22,X22,hl22,rfl⟩;refine Zn (qMM (((l22,X22):List HI×CAd)) ?_);simp only[hl21,hl22,jJ,hc15,ai,ah,aq,aP,aR,aw]
  refine Zc (qMM (((m2,s2):List HI×CAd)) ?_);simp only[jJ,hc15,ai,ah,aq,aP,aR,aw]
 rintro⟨m3,s3⟩ hm3;dsimp only at hm3|-;have gT:=vk S.p S.pl;have bm3:m3.length<=l.length+30:=bY;refine Z_3 ?_;refine dy (cdF S m3 fix s3) (λw hi hin=>zx S m3 fix s3 Wq1 15 0 9 w hin) ?_;rintro _ _ ⟨l31,X31,hl31,rfl⟩;refine fH ?_;refine oq ?_;refine dy (cdF S l31 fix X31) (λw hi hin=>lZ S l31 fix X31 bY 11 (IntKind.u32.wrap S.p.count) w hin) ?_;rintro _ _ ⟨l32,X32,hl32,rfl⟩;refine Z_5 ?_;refine dy (cdF S l32 fix X32) (λw hi hin=>zx S l32 fix X32 bY 15 36 11 w hin) ?_;rintro _ _ ⟨l33,X33,hl33,rfl⟩;refine Z_5 ?_;refine pZ ?_;rintro _ _ ⟨b106,rfl,rfl⟩;refine dy (cdF S l33 fix X33) (λw hi hin=>lB S l33 fix X33 bY [⟨19,0,0,0,1⟩] (sA b106) 1 cP w hin (λw' hk=>dx (hi.Xc Zi (Zhc (slv 347 5 (sA b106) 1 1 ([⟨19,0,0,0,1⟩].flatMap HI.cells))) hk))) ?_;rintro _ _ ⟨l34,X34,hl34,rfl⟩;refine Zn (jE (cs':=cdF S l34 fix X34) (.inr rfl) Zu rfl ?_);exact⟨l34,X34,(end_eq hm1 hl11 hm2 hm3 hl31 hl32 hl33 hl34),rfl⟩
end
theorem Jk{α:Type}{f:α->Bool}{l:List α}{k:Nat}{x:α}(hx:l[k]? =some x)(h:(l.take k).all f=true)(hf:f x=true):(l.take (k+1)).all f=true:=by
 grind [List.take_add_one]
theorem VW{α:Type}{f:α->Bool}{l:List α}{k:Nat}{x:α}(hx:l[k]? =some x)(hf:f x=false):l.all f=false:=by
 grind
theorem tC{a b:Int}:∀(c:List II) (i k:Nat) {x:II},c[k]? =some x->ji a b (c.take k) i=true->kE a b (i+k) x=true->ji a b (c.take (k+1)) i=true
 |[],_,_,_,h,_,_=>by simp at h
 |y::c,i,0,x,h,_,h2=>by
  grind [kE,ji]
 |y::c,i,k+1,x,h,h1,h2=>by
  have h1:(kE a b i y&&ji a b (c.take k) (i+1))=true:=h1;rw[au]at h1;have:=tC c (i+1) k (x:=x) bY h1.2 bY
  grind [kE,ji]
theorem zJ{a b:Int}:∀(c:List II) (i k:Nat) {x:II},c[k]? =some x->kE a b (i+k) x=false->ji a b c i=false
 |[],_,_,_,h,_=>by simp at h
 |y::c,i,0,x,h,h2=>by
  grind [kE,ji]
 |y::c,i,k+1,x,h,h2=>by
  have:=zJ c (i+1) k (x:=x) bY (by rw[show i+1+k=i+(k+1) by omega];exact h2)
  grind [kE,ji]
structure Jo(p:Pg)(Q:PAd)(w:World):Prop where
 code:RdV w 5 Q.Ac p.code.length Q.cc (p.code.flatMap II.cells)
 Wo:Rd w .i64 Q.Ad p.Wo.length Q.cd p.Wo
 Wp:Rd w .i64 Q.Ar p.Wp.length Q.cr p.Wp
structure uo(p:Pg):Prop where
 WE:p.values=p.code.length
 Wz:p.code.length<=64
 Wo:p.Wo.length<=100
 Wp:p.Wp.length<=100
 imm:∀x,x∈p.code->0<=x.imm/\x.imm<=4294967295
theorem qa(a b:Int)(w:World):CW prog 294 [.i a,.i b] w (.bool (tG a b)):=by
 refine Zfs func294 ntmps294 ?_;refine EU ?_;refine Zra ?_;exact⟨by unfold tG;grind,rfl⟩
theorem CY(w:World):CW prog 257 [.i 7] w (.bool true):=by
 refine Zfs func257 ntmps257 ?_;refine ue ?_;exact ru
theorem TH(A:Oa)(c:Nat)(l:Li)(hl:l.length<=100)(w:World)(h:Rd w .i64 A l.length c l):CW prog 292 [.slice A l.length c] w (.bool (wQ l)):=by
 refine Zfs func292 ntmps292 ?_;refine jl ?_;refine wLo (λk:Nat=>[(5,.slice A l.length c),(6,.i l.length),(7,.i (k:Int))]) (λ_=>[]) (λk=>k<=l.length/\(l.take k).all (λn=>decide (0<=n)&&decide (n<=16))=true) (λk=>l.length - k) (0) bY ?_;rintro k ⟨hk,ha⟩;refine Zw6 ?_ ?_<;>intro hc2
 .simp only[ac]at hc2;obtain⟨ad,rfl⟩:=h.some_ Wq1;obtain⟨x,hx⟩:∃x,l[k]? =some x:=⟨_,ae (show k<l.length by omega)⟩;refine Z_6 ?_;refine Ex ?_;refine dQ (bM Zrf Zv0) (dJ h (cK hx)) rfl (yk ?_ ?_)<;>intro hc4
  .have hf:(λn:Int=>decide (0<=n)&&decide (n<=16)) x=false:=bY;refine oo ?_;exact⟨by unfold wQ;grind,rfl⟩
  have hf:(λn:Int=>decide (0<=n)&&decide (n<=16)) x=true:=bY;refine jS ?_;refine qMM (k+1) ⟨⟨by omega,Jk hx ha hf⟩,by omega⟩
 simp only[aa]at hc2;obtain rfl:k=l.length:=by omega
 rw[bC]at ha;refine oo ?_;exact⟨by unfold wQ;rw[ha],rfl⟩
theorem S0(p:Pg)(Q:PAd)(i:Nat)(x:II)(hx:p.code[i]? =some x)(him:0<=x.imm/\x.imm<=4294967295)(hd:0<=p.Wc/\p.Wc<=16)(hr:0<=p.Wd/\p.Wd<=16)(w:World)(h:RdV w 5 Q.Ac p.code.length Q.cc (p.code.flatMap II.cells)):
  CW prog 293 [pgv p Q,.i i] w (.bool (kE p.Wc p.Wd i x)):=by
 have hil:i<p.code.length:=by
  rcases Nat.lt_or_ge i p.code.length with h9|h9
  .exact h9
  grind
 obtain⟨ad,had⟩:=h.some_ Wq1;rw[had]at h;obtain⟨op,dst,xa,xb,imm⟩:=x;obtain⟨hi1,hi2⟩:=him;obtain⟨hd1,hd2⟩:=hd;obtain⟨hr1,hr2⟩:=hr;dsimp only at hi1 hi2;refine Zfs func293 ntmps293 ?_;refine Z_2 ?_;refine ZO λb2=>?_;refine Z_8 ?_;refine Zy (ii (j:=i) had rfl Zrf Zv0 Zv0 Zrf (λ_=>hil)) ?_;refine dQ (bW (vs:=[.i op,.i dst,.i xa,.i xb,.w imm]) Zrf Zrf Zv0) (cE h (λj v hj=>bZ (f:=II.cells) Zrf (i:=j) hx hj)) rfl ?_;refine ZN λb5=>?_
 refine ZM ?_;refine xL ?_ ?_<;>intro hc2
 .refine sE ?_;exact⟨by simp only[kE,hc2,ai],rfl⟩
 refine Z_7 ?_;refine dE fE (.cons Zv0 (.cons Zv0 .nil)) (λ_ _=>rfl) (λhg w hi=>qa xa i w) rfl (Z_4 ?_);refine dE (bS rfl rfl) (.cons (cA rfl) (.cons (cA rfl) .nil)) (λ_ _=>rfl) (λhg w hi=>qa xb i w) rfl (om ?_);refine xL ?_ ?_<;>intro hc7
 .refine lC ?_;exact⟨by simp only[kE,hc2,hc7,ai,ah]<;>cases xa==0<;>cases xb==0<;>rfl,rfl⟩
 refine Zw6 ?_ ?_<;>intro hc9
 .refine Wq473 ?_;exact⟨by simp only[kE,hc2,hc7,hc9,ai,ah]<;>cases xa==0<;>cases xb==0<;>cases decide (imm<p.Wc)<;>rfl,rfl⟩
 refine Zw6 ?_ ?_<;>intro hc11
 .refine Wq473 ?_;exact⟨by simp only[kE,hc2,hc7,hc9,hc11,ai,ah]<;>cases xa==0<;>cases xb==0<;>cases decide (imm<p.Wd)<;>rfl,rfl⟩
 refine Zw6 ?_ ?_<;>intro hc13
 .refine Gv ?_;refine Zra ?_;exact⟨by simp only[kE,hc2,hc7,hc9,hc11,hc13,ai,ah]<;>cases tG xa i<;>cases tG xb i<;>cases decide (16<=imm)<;>cases decide (imm<=23)<;>rfl,rfl⟩
 refine Zw6 ?_ ?_<;>intro hc15
 .refine om ?_;refine Z_4 ?_;refine Zra ?_;exact⟨by simp only[kE,hc2,hc7,hc9,hc11,hc13,hc15,ai,ah]<;>cases tG xa i<;>cases tG xb i<;>cases decide (16<=imm)<;>cases decide (imm<=23)<;>cases imm==25<;>rfl,rfl⟩
 refine lC ?_;exact⟨by simp only[kE,hc2,hc7,hc9,hc11,hc13,hc15,ai,ah],rfl⟩
theorem wy(p:Pg)(Q:PAd)(hf:uo p)(w:World)(h:Jo p Q w):CW prog 256 [pgv p Q] w (.bool p.Ws):=by
 have hv1:(p.values !=(p.code.length:Int))=false:=by rw[hf.WE];simp
 have hv2:decide (64<p.values)=false:=by rw[hf.WE];have:=hf.Wz;simp;omega
 have hv3:p.values=p.code.length:=hf.WE;have hm64:=hf.Wz;have hoD:=hf.Wo;have hoR:=hf.Wp;have himm:=hf.imm;have hrc:=h.code;have hrD:=h.Wo;have hrR:=h.Wp;refine Zfs func256 ntmps256 ?_;refine Z_2 ?_;refine ZO λb1=>?_;refine EU ?_;rw[hv1,hv2];refine Z_8 ?_;refine fF (bQ rfl rfl) rfl (ff rfl rfl Zrf Zrf rfl rfl) rfl ?_;rintro _ _ ⟨b28,rfl,rfl⟩;refine dE (bQ rfl rfl) (.cons (cA rfl) .nil) (λ_ _=>rfl) (λhg w hi=>TH (sA b28) 4 [p.Wc,p.Wd,p.WH,p.WK] cP w (hi.rd (Zhc (slv 3 1 (sA b28) 4 4 (ints .i64 [p.Wc,p.Wd,p.WH,p.WK]))))) rfl (Cc ?_ ?_)<;>intro hc1
 .have hok:p.W9=false:=(by unfold Pg.W9;grind);refine sE ?_;exact⟨by unfold Pg.Ws;grind,rfl⟩
 have hok:p.W9=true:=(by unfold Pg.W9;grind);have hnn:(0<=p.Wc/\p.Wc<=16)/\(0<=p.Wd/\p.Wd<=16):=(by have:=hok;unfold Pg.W9 wQ at this;grind);refine fb ?_;refine wLo (λk:Nat=>[(1,.p b1),(43,.slice Q.Ac p.code.length Q.cc),(44,.i p.code.length),(45,.i (k:Int))]) (λ_=>[row b1 (jL p Q) 297]) (λk=>k<=p.code.length/\ji p.Wc p.Wd (p.code.take k) 0=true) (λk=>p.code.length - k) (0) ⟨ap _,rfl⟩ ?_;rintro k ⟨hk,ha⟩;refine Zw6 ?_ ?_<;>intro hc4
 .simp only[ac]at hc4;obtain⟨x,hx⟩:∃x,p.code[k]? =some x:=⟨_,ae (show k<p.code.length by omega)⟩;refine jl ?_;refine ZSe (λw hi=>S0 p Q k x hx (himm x (ak hx)) hnn.1 hnn.2 w (hrc.Wh hi)) ?_;refine Zw3 ?_ ?_<;>intro hc6
  .have hm:kE p.Wc p.Wd (0+k) x=false:=bY;refine oo ?_;exact⟨by unfold Pg.Ws;rw[zJ _ 0 _ hx hm,Bool.false_and,Bool.and_false],rfl⟩
  have hm:kE p.Wc p.Wd (0+k) x=true:=bY;refine jS ?_;refine qMM (k+1) ⟨⟨by omega,tC _ 0 k hx ha hm⟩,by omega⟩
 simp only[aa]at hc4;obtain rfl:k=p.code.length:=by omega
 rw[bC]at ha;refine fb ?_;refine jD ?_;rintro _ _ ⟨b57,rfl,rfl⟩;refine Z_5 ?_;refine wLo (λk:Nat=>[(1,.p b1),(57,.slice (sA b57) 2 2),(58,.i 2),(59,.i (k:Int))]) (λ_=>[row b1 (jL p Q) 297,slv 72 1 (sA b57) 2 2 [.slice Q.Ad p.Wo.length Q.cd,.slice Q.Ar p.Wp.length Q.cr]]) (λk=>k<=2/\([p.Wo,p.Wp].take k).all (λl=>l.all λn=>tG n p.code.length)=true) (λk=>2 - k) (0) bY ?_;rintro k2 ⟨hk2,ha2⟩;refine Zw6 ?_ ?_<;>intro hc10
 .simp only[ac]at hc10;obtain⟨A1,c1,l1,hx1,hx2,hR1,hb1⟩:∃(A1:Oa) (c1:Nat) (l1:Li),[Value.slice Q.Ad p.Wo.length Q.cd,.slice Q.Ar p.Wp.length Q.cr][k2]? =some (.slice A1 l1.length c1)/\[p.Wo,p.Wp][k2]? =some l1/\Rd w .i64 A1 l1.length c1 l1/\l1.length<=100:=bY;refine Wq492 ?_;refine wLo (λk:Nat=>[(1,.p b1),(57,.slice (sA b57) 2 2),(58,.i 2),(59,.i (k2:Int)),(63,.slice A1 l1.length c1),(64,.i l1.length),(65,.i (k:Int))]) (λ_=>[row b1 (jL p Q) 297,slv 72 1 (sA b57) 2 2 [.slice Q.Ad p.Wo.length Q.cd,.slice Q.Ar p.Wp.length Q.cr]]) (λk=>k<=l1.length/\(l1.take k).all (λn=>tG n p.code.length)=true) (λk=>l1.length - k) (0) bY ?_;rintro k3 ⟨hk3,ha3⟩;refine Zw6 ?_ ?_<;>intro hc13
  .simp only[ac]at hc13;obtain⟨ad,rfl⟩:=hR1.some_ Wq1;obtain⟨x,hx⟩:∃x,l1[k3]? =some x:=⟨_,ae (show k3<l1.length by omega)⟩;refine Z_6 ?_;refine Zy (cC (j:=k3) rfl Zrf (Zv rfl) (Zv rfl) Wq2 Wq2) ?_;refine dQ (bM Zrf Zv0) (dJ hR1 (cK hx)) rfl (Z_8 ?_);refine ZSe (λw hi=>qa x p.values w) ?_;refine Zw3 ?_ ?_<;>intro hc15
   .have hm:tG x p.code.length=false:=bY;refine oU ?_;refine Zra ?_;exact⟨by have h9:=VW (f:=λl:List Int=>l.all λn=>tG n p.code.length) hx2 (VW hx hm);unfold Pg.Ws;grind,rfl⟩
   have hm:tG x p.code.length=true:=bY;refine jS ?_;refine qMM (k3+1) ⟨⟨by omega,Jk hx ha3 hm⟩,by omega⟩
  simp only[aa]at hc13;obtain rfl:k3=l1.length:=by omega
  rw[bC]at ha3;refine Z_7 ?_;refine Wq6 ?_;refine qMM (k2+1) bY
 simp only[aa]at hc10;obtain rfl:k2=2:=by omega
 refine rc ?_;refine dE (bS rfl rfl) (.cons (cA rfl) (.cons (cA rfl) .nil)) (λ_ _=>rfl) (λhg w hi=>qa p.flags p.values w) rfl (gq ?_);refine dE (df rfl rfl) (.cons (cA rfl) (.cons (cA rfl) .nil)) (λ_ _=>rfl) (λhg w hi=>qa p.target p.values w) rfl (Zw5 ?_ ?_)<;>intro hc19
 .refine sE ?_;exact⟨by have h9:p.W8=false:=(by unfold Pg.W8;grind);unfold Pg.Ws;grind,rfl⟩
 refine om ?_;refine Z_6 ?_;refine Zra ?_;exact⟨by have h9:p.W8=(p.branch==0||((decide (33<=p.branch)&&decide (p.branch<=37))&&p.target== -1)):=(by unfold Pg.W8;grind);simp only[List.take,List.all_cons,List.all_nil,Bool.and_true,au]at ha2;unfold Pg.Ws;rw[hok,ha,ha2.1,ha2.2,h9];cases p.branch==0<;>cases decide (33<=p.branch)<;>cases decide (p.branch<=37)<;>cases p.target== -1<;>rfl,rfl⟩
end
end Go.Ink
