/- Lemmas. -/
import Derived.Test.YtepfimeihngjoaaGreatDoorYbb
import Derived.Test.YtepfimeihngjoaaGreatDoorYbc
set_option linter.all false
set_option maxRecDepth 100000
set_option maxHeartbeats 4000000
namespace Go.Ink
open List renaming length→J
open IntKind renaming wrap→V9
open Go.RowKit Go.Proofs.Tryz
section
attribute [local irreducible] UL bM
theorem BQ(p:Pg)(Q:W6)(hf:sY p)(hr:p.SX=true)(pl:Pl)(hpl:dR p=pl)(w:World)(h:Ga p Q w):
  Uz prog 231 [Xq p Q,.i 7] w [] (λr cs=>∃Ar cr As c2,r= .tuple #[.agg #[.slice Ar (J pl.reg) cr,.slice As (J pl.slot) c2,.i pl.Ta],.i 0]/\cs=[sl .i64 3 Ar (J pl.reg) cr pl.reg,sl .i64 3 As (J pl.slot) c2 pl.slot]):=by
 grind [Qw,qb,ge,dR]
theorem L6(p:Pg)(Q:W6)(hf:sY p)(hr:p.SX=true)(hg:fY (gh p (dR p)))(hroom:p.Ty=true)(w:World)(h:Ga p Q w):
  Uz prog 187 [Xq p Q] w [] (λr cs=>∃A c,r= .tuple #[.slice A (J (cD (gh p (dR p)))) c,.i 0]/\cs=[sl .u8 5 A (J (cD (gh p (dR p)))) c (cD (gh p (dR p)))]):=by
 have hm64:=hf.S0;have hoD:=hf.SP;have hoR:=hf.SQ;have hrc:=h.code;obtain⟨u1,u2,u3,u4⟩:=qT hr;obtain⟨hnD,hnR,hhD,hhR⟩:=wU hr;obtain⟨hrl,hsl⟩:(dR p).reg.length=J p.code/\(dR p).slot.length=J p.code:=qb (ge p) 7 (J p.code) (J p.code);obtain⟨pl,hpl⟩:=Uk (dR p);rw[hpl]at hg hrl hsl|-;have hAl:=BQ p Q hf hr pl hpl;have hbl:=λe=>yY p pl e hm64 hoD hoR
 have hpb:=wL p pl (V9 .u32 (J (fB p pl 0):Nat));have hfx:=R7 p pl;have hcode:gh p pl=fB p pl (V9 .u32 (J (fB p pl 0):Nat))++[⟨19,0,0,0,2⟩]:=rfl;obtain⟨C9,hC9⟩:=Uk (gh p pl);rw[hC9]at hg hcode|-;have hC9l:J C9<=100000:=by have:=hbl (V9 .u32 (J (fB p pl 0):Nat));rw[hcode,ar,aE,bC];omega
 have hJ:=λA c w h=>Fp A c C9 hg hC9l w h
 refine UB func187 ntmps187 ?_;refine py ?_;refine ZO λb1=>?_;refine Ux ?_;refine UW (λw hi=>hAl w (h.SS hi)) ?_;rintro _ _ ⟨Ar,cr,As,c2,rfl,rfl⟩;refine Us ?_;refine ZN λb4=>?_
 refine rI ?_;refine jn ?_;refine Ux ?_;refine ZO λb21=>?_
 refine Wq273 ?_;rintro _ _ ⟨_,⟨l1,X1,hl1,rfl⟩,rfl⟩;refine py ?_;refine cq (λq:List HI×List Int×VB=>[(6,.p b21)]) (λq=>[row b21 (rC (⟨b21,p,Q,pl,Ar,cr,As,c2⟩:VU) (J q.1) (J q.2.1) q.2.2) 362,Wu q.2.2.Al q.2.2.cl q.1,sl .i64 3 q.2.2.Af (J q.2.1) q.2.2.cf q.2.1]) (λq=>q.1=fB p pl 0/\q.2.1=sL p) ?_ ?_
 .refine eK ?_;refine dE (UC (⟨b21,p,Q,pl,Ar,cr,As,c2⟩:VU) l1 [] X1) (λw hi hin=>vn (⟨b21,p,Q,pl,Ar,cr,As,c2⟩:VU) l1 [] X1 Do 14 2 p.SE p.Tc (J p.SP) true hroom ⟨by omega,by omega⟩ ⟨by omega,by omega⟩ O cE w hin) ?_;rintro _ _ ⟨rfl,l2,f2,X2,hl2,hf2,rfl⟩;refine ZA ?_;have hl2n:J l2=9:=(by rw[hl2,hl1];rfl);have hf2n:f2=[4,7]:=Do;obtain⟨rr,hrr⟩:=Uk (p.TI);refine UG ?_;refine kt (bP I I) I (eE (UC (⟨b21,p,Q,pl,Ar,cr,As,c2⟩:VU) l2 f2 X2) I (λ_ _=>I) Zi (λw hi hin=>vn (⟨b21,p,Q,pl,Ar,cr,As,c2⟩:VU) l2 f2 X2 O 13 3 p.SG p.Te (J p.SQ) rr hrr ⟨by omega,by omega⟩ ⟨by omega,by omega⟩ O Do w hin)) rfl ?_;rintro _ _ ⟨_,⟨rfl,l3,f3,X3,hl3,hf3,rfl⟩,rfl⟩;refine Vs ?_ ?_<;>intro hc6
  .obtain rfl:rr=true:=Do;have hl3n:J l3=17:=(by rw[hl3,ar,hl2n];rfl);have hl3h:l3=uT p 0:=(by rw[hl3,hl2,hl1];rfl);have hf3n:f3=[4,7,12,15]:=Do;refine eK ?_;refine UX (λq:Nat×List HI×VB=>[(1,.p b1),(6,.p b21),(45,.slice Q.Ac (J p.code) Q.cc),(46,.i (J p.code)),(47,.i (q.1:Int))]) (λq=>[row b21 (rC (⟨b21,p,Q,pl,Ar,cr,As,c2⟩:VU) (J q.2.1) (J f3) q.2.2) 362,Wu q.2.2.Al q.2.2.cl q.2.1,sl .i64 3 q.2.2.Af (J f3) q.2.2.cf f3,row b1 (jM p Q) 308,(sl .i64 3 Ar (J pl.reg) cr pl.reg),(sl .i64 3 As (J pl.slot) c2 pl.slot)]) (λq=>q.1<=J p.code/\q.2.1=l3++j6 p.SE p.SG pl (p.code.take q.1) 0) (λq=>J p.code - q.1) (⟨0,l3,X3⟩) ⟨ay _,(ax l3).symm⟩ ?_;rintro⟨k,l4,X4⟩ ⟨hk,hl4⟩;dsimp only at hk hl4|-;have hml:=AS p.SE p.SG pl (p.code.take k) 0;have hl4n:J l4<=2000:=Do;refine Ul ?_ ?_<;>intro hc8
   .simp only[ah]at hc8;have hkl:k<J p.code:=O;obtain⟨ad,had⟩:=hrc.some_ O;have hrc2:=hrc;rw[had]at hrc2;obtain⟨x,hx⟩:∃x,p.code[k]? =some x:=⟨_,aj hkl⟩;have hu:=u1 k x hx;have hmk:l3++j6 p.SE p.SG pl (p.code.take (k+1)) 0=l4++rc p.SE p.SG pl k x:=(by rw[List.take_add_one,hx,hl4];show l3++j6 _ _ _ (p.code.take k++[x]) 0=_;rw[wO,aq,bA,aU,Nat.min_eq_left O]);obtain⟨op,dst,xa,xb,imm⟩:=x;dsimp only at hu;have hab:(op==3)=true\/(op==4)=true->∃na nb:Nat,xa=na/\xb=nb/\(na<J pl.reg/\na<J pl.slot)/\(nb<J pl.reg/\nb<J pl.slot):=(λho=>by obtain⟨⟨a1,a2⟩,a3,a4⟩:=hu (by unfold lZ;grind);exact⟨xa.toNat,xb.toNat,by omega,by omega,⟨by omega,by omega⟩,by omega,by omega⟩);refine Ux ?_;refine QN ?_;refine Z6 ?_;refine ZN λb8=>?_
    refine ZA ?_;refine iS ?_;refine dE (UC (⟨b21,p,Q,pl,Ar,cr,As,c2⟩:VU) l4 f3 X4) (λw hi hin=>cone_ok (⟨b21,p,Q,pl,Ar,cr,As,c2⟩:VU) l4 f3 X4 O k op dst xa xb imm Do Do hab w hin (λw' hk=>(⟨de (hi.TD Zi (Ur (sl .i64 3 Ar (J pl.reg) cr pl.reg)) hk),de (hi.TD Zi (Ur (sl .i64 3 As (J pl.slot) c2 pl.slot)) hk),UJ.S4 h.SP hi Zi hk,UJ.S4 h.SQ hi Zi hk,UJ.S4 h.code hi Zi hk⟩:Nq (⟨b21,p,Q,pl,Ar,cr,As,c2⟩:VU) w'))) ?_;rintro _ _ ⟨l5,X5,hl5,rfl⟩;refine fZ ?_;refine UN ((⟨k+1,l5,X5⟩:Nat×List HI×VB)) Do
   simp only[aa]at hc8;obtain rfl:k=J p.code:=by omega
   rw[List.take_length]at hl4;refine Ux ?_;have hs1:=oa pl 14 4 2 p.SP;have hs2:=oa pl 13 20 3 p.SQ;have hoj:∀j,j∈p.SP\/j∈p.SQ->∃n:Nat,j=n/\n<J pl.reg/\n<J pl.slot:=(λj hj=>by obtain⟨a1,a2⟩:=u2 j hj;exact⟨j.toNat,by omega,by omega,by omega⟩);refine Us ?_;refine dE (UC (⟨b21,p,Q,pl,Ar,cr,As,c2⟩:VU) l4 f3 X4) (λw hi hin=>BG (⟨b21,p,Q,pl,Ar,cr,As,c2⟩:VU) l4 f3 X4 O 14 4 2 Q.Ad Q.cd p.SP O (λj hj=>hoj j (Or.inl hj)) w hin (λw' hk=>(⟨de (hi.TD Zi (Ur (sl .i64 3 Ar (J pl.reg) cr pl.reg)) hk),de (hi.TD Zi (Ur (sl .i64 3 As (J pl.slot) c2 pl.slot)) hk),UJ.S4 h.SP hi Zi hk,UJ.S4 h.SQ hi Zi hk,UJ.S4 h.code hi Zi hk⟩:Nq (⟨b21,p,Q,pl,Ar,cr,As,c2⟩:VU) w')) (λw' hk=>UJ.S4 h.SP hi Zi hk)) ?_;rintro _ _ ⟨l6,X6,hl6,rfl⟩;refine Ut ?_;have hl6n:J l6<=4000:=Do;refine Us ?_;refine dE (UC (⟨b21,p,Q,pl,Ar,cr,As,c2⟩:VU) l6 f3 X6) (λw hi hin=>BG (⟨b21,p,Q,pl,Ar,cr,As,c2⟩:VU) l6 f3 X6 O 13 20 3 Q.Ar Q.cr p.SQ O (λj hj=>hoj j (Or.inr hj)) w hin (λw' hk=>(⟨de (hi.TD Zi (Ur (sl .i64 3 Ar (J pl.reg) cr pl.reg)) hk),de (hi.TD Zi (Ur (sl .i64 3 As (J pl.slot) c2 pl.slot)) hk),UJ.S4 h.SP hi Zi hk,UJ.S4 h.SQ hi Zi hk,UJ.S4 h.code hi Zi hk⟩:Nq (⟨b21,p,Q,pl,Ar,cr,As,c2⟩:VU) w')) (λw' hk=>UJ.S4 h.SQ hi Zi hk)) ?_;rintro _ _ ⟨l7,X7,hl7,rfl⟩;refine Us ?_;have hl7n:J l7<=8000:=Do;have hl7e:l7=uT p 0++iT p pl:=(by rw[hl7,hl6,hl4,hl3h];unfold iT;grind);refine ZA ?_;refine dE (UC (⟨b21,p,Q,pl,Ar,cr,As,c2⟩:VU) l7 f3 X7) (λw hi hin=>cend_ok (⟨b21,p,Q,pl,Ar,cr,As,c2⟩:VU) l7 f3 X7 O (λh0=>⟨p.flags.toNat,by grind,by grind,by grind⟩) (λh0=>⟨p.target.toNat,by grind,by grind,by grind⟩) w hin (λw' hk=>(⟨de (hi.TD Zi (Ur (sl .i64 3 Ar (J pl.reg) cr pl.reg)) hk),de (hi.TD Zi (Ur (sl .i64 3 As (J pl.slot) c2 pl.slot)) hk),UJ.S4 h.SP hi Zi hk,UJ.S4 h.SQ hi Zi hk,UJ.S4 h.code hi Zi hk⟩:Nq (⟨b21,p,Q,pl,Ar,cr,As,c2⟩:VU) w'))) ?_;rintro _ _ ⟨l8,X8,hl8,rfl⟩;refine Zn (UN (((l8,f3,X8):List HI×List Int×VB)) ⟨by dsimp only;rw[hl8,show J l7=17+J (iT p pl) by grind];unfold fB;grind,by dsimp only;rw[hf3n];unfold sL;grind⟩)
  obtain rfl:rr=false:=Do;refine Zc (UN (((l3,f3,X3):List HI×List Int×VB)) ⟨by dsimp only;rw[hl3,hl2,hl1];unfold fB;rw[hroom,hrr];rfl,by dsimp only;rw[hf3,hf2n];unfold sL;grind⟩)
 rintro⟨l9,f9,⟨Al,cl,Af,cf⟩⟩ ⟨hb9,hf9⟩;dsimp only at hb9 hf9|-;rw[<-hb9]at hpb hcode hfx;rw[<-hf9]at hpb hfx;have hl9n:=hbl 0;rw[<-hb9]at hl9n;have hf9n:J f9<=4:=(by rw[hf9];unfold sL;grind);obtain⟨B9,hB9⟩:=Uk (fB p pl (V9 .u32 ((J l9:Nat):Int)));rw[hB9]at hpb hcode;refine Wq89 ?_;rintro⟨k,m⟩ ⟨hk,hml,hP⟩;dsimp only at hk hml hP|-;refine Ul ?_ ?_<;>intro hc16
 .exact Wx6_
 simp only[aa]at hc16;obtain rfl:k=J f9:=by omega
 rw[List.drop_length]at hP;obtain rfl:m=B9:=hP;refine UE ?_;exact Wq413
theorem L8(p:Pg)(Q:W6)(hf:sY p)(hr:p.SX=true)(hg:fY (gh p (dR p)))(hroom:p.Ty=false)(w:World)(h:Ga p Q w):
  Uz prog 187 [Xq p Q] w [] (λr cs=>∃A c,r= .tuple #[.slice A (J (cD (gh p (dR p)))) c,.i 0]/\cs=[sl .u8 5 A (J (cD (gh p (dR p)))) c (cD (gh p (dR p)))]):=by
 have hm64:=hf.S0;have hoD:=hf.SP;have hoR:=hf.SQ;have hrc:=h.code;obtain⟨u1,u2,u3,u4⟩:=qT hr;obtain⟨hnD,hnR,hhD,hhR⟩:=wU hr;obtain⟨hrl,hsl⟩:(dR p).reg.length=J p.code/\(dR p).slot.length=J p.code:=qb (ge p) 7 (J p.code) (J p.code);obtain⟨pl,hpl⟩:=Uk (dR p);rw[hpl]at hg hrl hsl|-;have hAl:=BQ p Q hf hr pl hpl;have hbl:=λe=>yY p pl e hm64 hoD hoR
 have hpb:=wL p pl (V9 .u32 (J (fB p pl 0):Nat));have hfx:=R7 p pl;have hcode:gh p pl=fB p pl (V9 .u32 (J (fB p pl 0):Nat))++[⟨19,0,0,0,2⟩]:=rfl;obtain⟨C9,hC9⟩:=Uk (gh p pl);rw[hC9]at hg hcode|-;have hC9l:J C9<=100000:=by have:=hbl (V9 .u32 (J (fB p pl 0):Nat));rw[hcode,ar,aE,bC];omega
 have hJ:=λA c w h=>Fp A c C9 hg hC9l w h
 refine UB func187 ntmps187 ?_;refine py ?_;refine ZO λb1=>?_;refine Ux ?_;refine UW (λw hi=>hAl w (h.SS hi)) ?_;rintro _ _ ⟨Ar,cr,As,c2,rfl,rfl⟩;refine Us ?_;refine ZN λb4=>?_
 refine rI ?_;refine jn ?_;refine Ux ?_;refine ZO λb21=>?_
 refine Wq273 ?_;rintro _ _ ⟨_,⟨l1,X1,hl1,rfl⟩,rfl⟩;refine py ?_;refine cq (λq:List HI×List Int×VB=>[(6,.p b21)]) (λq=>[row b21 (rC (⟨b21,p,Q,pl,Ar,cr,As,c2⟩:VU) (J q.1) (J q.2.1) q.2.2) 362,Wu q.2.2.Al q.2.2.cl q.1,sl .i64 3 q.2.2.Af (J q.2.1) q.2.2.cf q.2.1]) (λq=>q.1=fB p pl 0/\q.2.1=sL p) ?_ ?_
 .refine eK ?_;refine dE (UC (⟨b21,p,Q,pl,Ar,cr,As,c2⟩:VU) l1 [] X1) (λw hi hin=>vn (⟨b21,p,Q,pl,Ar,cr,As,c2⟩:VU) l1 [] X1 Do 14 2 p.SE p.Tc (J p.SP) false hroom ⟨by omega,by omega⟩ ⟨by omega,by omega⟩ O cE w hin) ?_;rintro _ _ ⟨rfl,l2,f2,X2,hl2,hf2,rfl⟩;refine ZA ?_;refine Wq19 ?_;refine Wq19 ?_;refine io (bP I I) I I (Zy (Cd (q:=false) (Zv I) ⟨_,I,λ_ e=>by simp at e⟩) ?_);refine py ?_;refine jn ?_;refine Zc (UN (((l2,f2,X2):List HI×List Int×VB)) ⟨by dsimp only;rw[hl2,hl1];unfold fB;grind,by dsimp only;rw[hf2];unfold sL;grind⟩)
 rintro⟨l9,f9,⟨Al,cl,Af,cf⟩⟩ ⟨hb9,hf9⟩;dsimp only at hb9 hf9|-;rw[<-hb9]at hpb hcode hfx;rw[<-hf9]at hpb hfx;have hl9n:=hbl 0;rw[<-hb9]at hl9n;have hf9n:J f9<=4:=(by rw[hf9];unfold sL;grind);obtain⟨B9,hB9⟩:=Uk (fB p pl (V9 .u32 ((J l9:Nat):Int)));rw[hB9]at hpb hcode;refine Wq89 ?_;rintro⟨k,m⟩ ⟨hk,hml,hP⟩;dsimp only at hk hml hP|-;refine Ul ?_ ?_<;>intro hc16
 .exact Wx6_
 simp only[aa]at hc16;obtain rfl:k=J f9:=by omega
 rw[List.drop_length]at hP;obtain rfl:m=B9:=hP;refine UE ?_;exact Wq413
theorem PX(p:Pg)(Q:W6)(hf:sY p)(hr:p.SX=true)(hg:fY (gh p (dR p)))(w:World)(h:Ga p Q w):
  Uz prog 187 [Xq p Q] w [] (λr cs=>∃A c,r= .tuple #[.slice A (J (cD (gh p (dR p)))) c,.i 0]/\cs=[sl .u8 5 A (J (cD (gh p (dR p)))) c (cD (gh p (dR p)))]):=by
 grind [L6,L8]
end
end Go.Ink
namespace Go.Ink
open List renaming length→J, replicate→R9
open IntKind renaming wrap→V9
open Go.RowKit Go.Proofs.Tryz
section
attribute [local irreducible] UL bM
variable{i:Int×Int}
theorem MN(p:Pg)(Q:W6)(hf:sY p)(hr:p.SX=false)(w:World)(h:Ga p Q w):
  CW prog 231 [Xq p Q,.i 7] w (.tuple #[.agg #[.slice none 0 0,.slice none 0 0,.i 0],.i 1]):=by
 have hR:=uQ p Q hf;rw[hr]at hR;refine UB func231 ntmps231 ?_;refine py ?_;refine ZO λb2=>?_;refine ZN λb4=>?_
 refine Ux ?_;refine UD (λw hi=>hR w (h.SS hi)) ?_;refine py ?_;refine Ni ?_;refine io (bU I I) I I (Zy (Nx (q:=false) (Zv I) ⟨_,I,λ_ e=>by simp at e⟩) ?_);refine py ?_;refine mV ?_;refine py ?_;refine Zy (gY (vs:=[Value.slice none 0 0,.slice none 0 0,.i 0]) Zk (.inl ⟨_,I,I⟩)) ?_;refine mS ?_;exact Wa
theorem L7(p:Pg)(Q:W6)(hf:sY p)(hr:p.SX=false)(w:World)(h:Ga p Q w):
  CW prog 187 [Xq p Q] w (.tuple #[.slice none 0 0,.i 12]):=by
 refine UB func187 ntmps187 ?_;refine py ?_;refine ZO λb1=>?_;refine Ux ?_;refine UD (λw hi=>MN p Q hf hr w (h.SS hi)) ?_;refine Us ?_;refine ZN λb4=>?_
 refine rI ?_;refine mV ?_;refine UG ?_;exact kV
end
end Go.Ink
namespace Go.Ink
open List renaming length→J, replicate→R9
open IntKind renaming wrap→V9
open Go.RowKit Go.Proofs.Tryz
variable{n:Nat}
section
attribute [local irreducible] UL bM
variable{k:Ky}
variable{RZ:List (Ky×RS)}
variable{E:Vk}{b:Li}
variable{E:Vi}
variable{t:Wo}{r:Rn}
variable{l:List (Int×Int)}{sz:Nat}{en:Bool}
theorem PW(be:Nat)(E:Vk)(hE:oJ E)(k:Ky)(hk:lA k)(A:Oa)(c:Nat)(b:Li)(hb:UO b)(hbl:J b<=1000)(w:World)(hi:Inv w (bK (Vr be E)) (Vr be E) w)(h:∀w',cX (bK (Vr be E)) w w'->Rd w' .u8 A (J b) c b):
  Uz prog 145 [.p be,.agg (cy k).toArray,.slice A (J b) c] w (Vr be E) (λv cs=>∃E',oJ E'/\E'.eng=(lB E.eng k b).2/\FindR be (lB E.eng k b).1 E' v cs):=by
 have HF:=Mt E.bc E.room E.X hE.ca.sm k;have FK:=λy h1 h2=>LR (E:=E) (k:=k) (b:=b) (y:=y) h1 h2
 obtain⟨o,ho⟩:=Uk ((E.X.Z.find? λx=>x.key==k));have FN:=PP (E:=E) (k:=k) (b:=b) ho;rw[ho]at HF FK;have HG:=qs hE.eg (k:=k) hb;have hxr:UO (fX E.RZ k RS.zero).r.bytes:=by
  rcases JG E.RZ k with e|⟨y,hy,e⟩
  .rw[e];exact λx hx=>nomatch hx
  rw[<-e];exact(hE.rs y hy).2.2
 have hxrd:=λ(w:World) h=>run_rd (w:=w) (RZ:=E.RZ) (k:=k) h
 obtain⟨x,hx⟩:=Uk (fX E.RZ k RS.zero);rw[hx]at FK FN hxr hxrd;have HP:=LZ A c b hb hbl;obtain⟨⟨l,sz,en⟩,hR⟩:=Uk (cM b 8 0);have hu:∀i,i∈l->u32 i.2:=by
  have:=(mC b 8 0).1.u32 hb;rw[hR]at this;exact this
 rw[hR]at HP;dsimp only at HP;have HL:=λA1 c1 w h=>Lh k.1 A1 c1 l hu w h
 obtain⟨lo,hlo⟩:=Uk (fm k.1 l);rw[hlo]at HL;have hcap:=(h w (cX.refl _ _)).cap;refine UH func145 ntmps145 hi ?_;refine py ?_;refine ZO λb4=>?_;refine ZN λb6=>?_
 refine ZN λb7=>?_
 refine Us ?_;refine cq (λq:BA×Nat=>[(0,.p be),(2,.slice A (J b) c),(4,.p b4),(6,.p b6),(7,.p b7),(9,.p q.2),(10,.bool o.isSome)]) (λq=>Vr be E++[VE q.1,row b4 (cy k) 173,row b6 (BA.cells ⟨⟨(0,0),[],0⟩,none,0⟩) 262,row b7 (RS.cells RS.zero) 180,row q.2 (BA.cells q.1) 262]) (λq=>∀x,o=some x->q.1.b=x.b) ?_ ?_
 .refine ik (UK [5,10]) [(0,0),(1,0),(2,0),(3,1),(4,1),(5,3),(6,3),(7,3),(8,3),(9,3),(10,3),(11,3)] Zk Zk (mK ?_);refine So ?_;refine BV ?_;refine qL I Zh ir ir (Zv I) I (NA [(5,[(6,0),(7,0),(8,0),(9,2),(10,2),(11,0)]),(9,[(5,2),(6,0),(7,0),(8,0),(10,2),(11,0)])] Zk (.cons ?_ (.cons ?_ .nil)))
  .refine Iq ?_;rintro _ _ ⟨_,⟨y,rfl,rfl,hy⟩,rfl⟩;refine Xn ?_;refine dZ ?_;refine zl ?_;rintro _ _ ⟨b9,rfl,rfl⟩;refine BZ ?_;refine Uw ?_;refine If ?_;refine UN ((y,b9)) hy
  refine zl ?_;rintro _ _ ⟨b9,rfl,rfl⟩;refine dZ ?_;refine Iq ?_;rintro _ _ ⟨_,⟨y,rfl,rfl,hy⟩,rfl⟩;refine Xn ?_;refine BZ ?_;refine Uw ?_;refine If ?_;refine UN ((y,b9)) hy
 rintro⟨y,b9⟩ hy;dsimp only at hy|-;refine Zs (cq (λq:Nat=>[(0,.p be),(2,.slice A (J b) c),(4,.p b4),(6,.p b6),(7,.p b7),(9,.p b9),(10,.bool o.isSome),(11,.p q)]) (λq=>Vr be E++[VE y,row b4 (cy k) 173,row b6 (BA.cells ⟨⟨(0,0),[],0⟩,none,0⟩) 262,row b7 (RS.cells RS.zero) 180,row b9 (BA.cells y) 262,row q (RS.cells x) 180]) (λ_=>True) ?_ ?_)
 .refine ik (UK [7]) [(0,0),(1,0),(2,0),(3,1),(4,1),(5,3),(6,3),(7,3)] Zk Zk (MY ?_);refine dX I (dq 1 I ne Zf) I (BV ?_);refine qL I Zh ir ir (Zv I) I (NA [(5,[(6,2),(7,2)]),(6,[(5,2),(7,2)])] Zk (.cons ?_ (.cons ?_ .nil)))
  .refine Wq345 ?_;refine zl ?_;rintro _ _ ⟨b11,rfl,rfl⟩;refine dZ ?_;rw[run_v E.RZ k,hx];refine BW ?_;refine Uw ?_;refine kr (UN (b11) iF)
  refine zl ?_;rintro _ _ ⟨b11,rfl,rfl⟩;refine dZ ?_;refine Wq345 ?_;rw[run_v E.RZ k,hx];refine BW ?_;refine Uw ?_;refine kr (UN (b11) iF)
 rintro b11 -;refine Ux ?_;refine dx (bP I I) (.cons (cU I) (.cons (cU I) .nil)) (λ_ _=>I) (λhg w hi=>Bg A x.A c x.c b x.r.bytes hb hxr w (h w hi.S1) (hxrd w (hi.get (Ur (cR (WF E.RZ)))))) I (Vs ?_ ?_)<;>intro hc3
 .have h9:(o.isSome&&x.r.bytes.isPrefixOf b)=true:=hc3;rw[aC]at h9;obtain⟨y0,rfl⟩:=Option.isSome_iff_exists.1 h9.1;have hfk:=FK y0 I h9.2;have hyb:=hy y0 I;refine Zs (bN (Wz [2,3] (pk b11 (RS.cells x))) Zk ?_);refine Wq99 ?_;refine ft I I (cH ir I I (mO y) Za mJ) QA ?_;refine Uw ?_;refine cQ 3 Zk (ft I I (cH ir I I (nl x) Za mJ) QA ?_);refine Uw ?_;refine ZE 4 ?_;refine fe ?_;refine Us ?_;exact bI (row b6 (BA.cells y) 262::row b7 (RS.cells x) 180::VE y::Vr be E) Zj (wH (cs':=VE y::Vr be E) (.inl I) (List.Sublist.cons _ (List.Sublist.cons _ (aO _))) I I I I Zh Zh ir ir ir ir ⟨E,hE,by rw[hfk],by rw[hfk];exact⟨y,x,I,I,λt r e=>by grind⟩⟩)
 have hnk:=FN hc3;refine Uu ?_;refine UW (λw hi=>HP w (h w hi.S1)) ?_;rintro _ _ ⟨A1,c1,x2,hx2,rfl,rfl⟩;refine Us ?_;refine ZN λb13=>?_
 refine ZA ?_;refine et (cH ir I I (nl x2) Za mJ) ?_;refine Uw ?_;refine Us ?_;rcases lo with _|p
 .have hfn:=w7 hnk (KK hR hlo);refine Ut ?_;refine UD (λw hi=>HL A1 c1 w (hi.rd (Ur (slv 51 2 A1 (J l) c1 (l.flatMap IJ))))) ?_;refine Us ?_;refine ZN λb14=>?_
  refine rI ?_;exact Wx70_
 obtain⟨hfit,hcnt,hl1,hl8,hgo⟩:=AT hu hlo;refine Ut ?_;refine UW (λw hi=>HL A1 c1 w (hi.rd (Ur (slv 51 2 A1 (J l) c1 (l.flatMap IJ))))) ?_;rintro _ _ ⟨Q,rfl,rfl⟩;refine Us ?_;refine ZN λb14=>?_
 refine rI ?_;refine jn ?_;refine Us ?_;rcases hrb:p.SX with _|_
 .have hfn:=w7 hnk (O4 hR hlo hrb);refine py ?_;refine UD (λw hi=>L7 p Q hfit hrb w ⟨hi.rd (Ur (slv 366 5 Q.Ac (J p.code) Q.cc (p.code.flatMap II.cells))),hi.rd (Ur (sl .i64 3 Q.Ad (J p.SP) Q.cd p.SP)),hi.rd (Ur (sl .i64 3 Q.Ar (J p.SQ) Q.cr p.SQ))⟩) ?_;refine jG ?_;exact Wx70_
 have hfm:=LQ hnk (O3 hR hlo hrb);obtain⟨hgd,hCl⟩:=hgo hrb;have hCne:=Qf p (dR p);have HE:=PX p Q hfit hrb hgd;obtain⟨C,hC⟩:=Uk (gh p (dR p));rw[hC]at hfm hgd hCl hCne HE;have hnew:lA k/\J x2.r.bytes<=1000/\UO x2.r.bytes:=(by rw[hx2];exact⟨hk,by grind,λz hz=>hb z (aX hz)⟩);refine py ?_;refine UW (λw hi=>HE w ⟨hi.rd (Ur (slv 366 5 Q.Ac (J p.code) Q.cc (p.code.flatMap II.cells))),hi.rd (Ur (sl .i64 3 Q.Ad (J p.SP) Q.cd p.SP)),hi.rd (Ur (sl .i64 3 Q.Ar (J p.SQ) Q.cr p.SQ))⟩) ?_;rintro _ _ ⟨A3,c3,rfl,rfl⟩;refine qB ?_;refine UE ?_;refine et (cH ir I I (mO ⟨⟨k,C,(J l:Int)⟩,A3,c3⟩) Za mJ) ?_;refine Uw ?_;refine Us ?_;refine bN (UK [5]) Zk (rK ?_);refine ZG 3 ?_;refine ZI 4 ?_;refine cQ 5 Zk (rH (Vu E.bc E.room E.X) (λw hi hin=>cput_ok E.bc E.room E.X hE.ca ⟨⟨k,C,(J l:Int)⟩,A3,c3⟩ ⟨hCl,hk⟩ (show(1:Int)<=(J l:Int) by omega) hCne w hin (λw' hk'=>de (hi.TD Zi (Ur (sl .u8 5 A3 (J (cD C)) c3 (cD C))) hk'))) ?_);rintro _ _ ⟨X',rfl,hX',hXZ⟩;refine pI ?_;refine bN (UK [6]) Zk (mW ?_);refine Ld 2 1 ?_;refine ZG 3 ?_;refine ZI 4 ?_;refine ZI 5 ?_;refine cQ 6 Zk (ft I I (t_mput I I I hk I Dt Za) ZJ ?_);refine Uw ?_;rw[rnV_put E.RZ k x2];refine fe ?_;refine Us ?_;refine bN (UK [9]) Zk (mW ?_);refine Ld 2 1 ?_;refine qC ?_;refine Ld 7 0 ?_;refine ZG 8 ?_;refine cQ 3 Zk (pE ?_);refine cQ 4 Zk (vQ I (y_mlen (Zv I) I) (λw hi=>(show nV E.mr (WE (dP E.RZ k x2)) w from hi.get (Ur (VG E.mr (WE (dP E.RZ k x2)))))) I (kO ?_));refine rH (Vu E.bc E.room X') (λw hi hin=>clen_ok E.bc E.room X' w hin) ?_;refine Uw ?_;refine ZE 10 ?_;refine sR ?_;refine ZW ?_ ?_<;>intro hc15
 .have hd:decide ((J X'.Z:Int)<(J (dP E.RZ k x2):Int))=true:=Wq431
  have had:=MO E X' ⟨k,C,(J l:Int)⟩ x2 hXZ;dsimp only at had;rw[hd,ae,hx2]at had;refine Zr (wj (cin:=WF E.RZ) (cin':=rX E.RZ k) Zd (wF E.RZ k) ?_);refine Gf (cin:=rX E.RZ k) (c:=rsC x2) (cin':=WF (dP E.RZ k x2)) Zd Zd (rnPut E.RZ k x2) (ZA ?_);refine V7 (Vr be ((E.Tj X').To (dP E.RZ k x2))) (λw hi hin=>FG be ((E.Tj X').To (dP E.RZ k x2)) hX'.sm (K4 k x2 hE.rk) (λy hy=>(xY hy).elim (λe=>by grind) (λhy=>(hE.rs y hy).1)) w hin) ?_;rintro _ _ ⟨_,rfl,rfl⟩;refine Wq379 ?_;refine Uw ?_;refine cQ 3 Zk (ft I I (cH ir I I (nl x2) Za mJ) QA ?_);refine Uw ?_;refine ZE 4 ?_;refine pI ?_;refine bI (row b6 (BA.cells ⟨⟨k,C,(J l:Int)⟩,A3,c3⟩) 262::row b7 (RS.cells x2) 180::VE ⟨⟨k,C,(J l:Int)⟩,A3,c3⟩::Vr be ((E.Tj X').To (oN X'.Z (dP E.RZ k x2)))) Zj (wH (cs':=VE ⟨⟨k,C,(J l:Int)⟩,A3,c3⟩::Vr be ((E.Tj X').To (oN X'.Z (dP E.RZ k x2)))) (.inl I) (List.Sublist.cons _ (List.Sublist.cons _ (aO _))) I I I I Zh Zh ir ir ir ir ?_);rw[hfm]at HG|-;exact⟨(E.Tj X').To (oN X'.Z (dP E.RZ k x2)),⟨hX',by grind,λy hy=>(xY (List.mem_filter.1 hy).1).elim (λe=>by grind) (λhy=>hE.rs y hy),hE.last⟩,had,⟨⟨⟨k,C,(J l:Int)⟩,A3,c3⟩,x2,I,I,λt r e=>by grind⟩⟩
 have hd:decide ((J X'.Z:Int)<(J (dP E.RZ k x2):Int))=false:=Wq431
 have had:=MO E X' ⟨k,C,(J l:Int)⟩ x2 hXZ;dsimp only at had;rw[hd,ac,hx2]at had;refine Wq379 ?_;refine Uw ?_;refine cQ 3 Zk (ft I I (cH ir I I (nl x2) Za mJ) QA ?_);refine Uw ?_;refine ZE 4 ?_;refine pI ?_;refine mB (cin:=WF E.RZ) (cin':=rX E.RZ k) Zd (wF E.RZ k) (kB (cin:=rX E.RZ k) (c:=rsC x2) (cin':=WF (dP E.RZ k x2)) Zd Zd (rnPut E.RZ k x2) (bI (row b6 (BA.cells ⟨⟨k,C,(J l:Int)⟩,A3,c3⟩) 262::row b7 (RS.cells x2) 180::VE ⟨⟨k,C,(J l:Int)⟩,A3,c3⟩::Vr be ((E.Tj X').To (dP E.RZ k x2))) Zj (wH (cs':=VE ⟨⟨k,C,(J l:Int)⟩,A3,c3⟩::Vr be ((E.Tj X').To (dP E.RZ k x2))) (.inl I) (List.Sublist.cons _ (List.Sublist.cons _ (aO _))) I I I I Zh Zh ir ir ir ir ?_)));rw[hfm]at HG|-;exact⟨(E.Tj X').To (dP E.RZ k x2),⟨hX',by grind,λy hy=>(xY hy).elim (λe=>by grind) (λhy=>hE.rs y hy),hE.last⟩,had,⟨⟨⟨k,C,(J l:Int)⟩,A3,c3⟩,x2,I,I,λt r e=>by grind⟩⟩
variable{s:St}{p:Int}{G:Vi}
theorem LX(be bu bb:Nat)(L:ez)(E:Vk)(hE:oJ E)(s:St)(X:eN)(p:Nat)(hp:p<=4294967295)(hpn:p/64<L.n)(U:Uo)(hwf:s.wf)(hs:s.right=true)(hM:U.m.ok L.n):CI prog 94 [.p be,sv s X.Ad X.cd X.Ar X.cr,.w (p:Int),.p bu] (tF bu bb L s X U be E) (λv cs=>∃E',oJ E'/\E'.eng=(jr E.eng s p (iC U.m p)).2/\TransR bu bb L s U be (jr E.eng s p (iC U.m p)).1 E' v cs):=λw hi=>by
 have hq:V9 .u32 ((p:Int).tdiv 64)=((p/64:Nat):Int):=by rw[bj O,u32_wrap_id _ O O];omega
 have hrm:(p:Int).tmod 64=((p%64:Nat):Int):=by rw[aw O];omega
 have HP:=x0 L U.m (p/64) hpn;have hbb:=uw hM p;have hbe:iC U.m p=((U.m.data.drop (p/64*64)).take 64).drop (p%64):=rfl;have hdl:=hM.dl;have hXl:J ((U.m.data.drop (p/64*64)).take 64)=64:=by rw[aU,List.length_drop];omega
 obtain⟨D,hD⟩:=Uk ((U.m.data.drop (p/64*64)).take 64);rw[hD]at HP hXl hbe;obtain⟨hd16,hr16, -⟩:=St.fits hs;have hky:lA (s.pc,(p:Int)):=⟨hwf.pc,by omega,by omega⟩;have hbl:J (iC U.m p)=64 - p%64:=by rw[hbe,List.length_drop,hXl]
 have HFi:=λA c w hi h=>PW be E hE (s.pc,(p:Int)) hky A c (iC U.m p) hbb O w hi h
 have Uv:=qs hE.eg (k:=(s.pc,(p:Int))) hbb;have hT1:=λG h=>NN (E:=E.eng) (s:=s) (p:=p) (b:=iC U.m p) (G:=G) h
 have hT2:=λG t r s1 how h=>Jf (E:=E.eng) (s:=s) (p:=p) (b:=iC U.m p) (G:=G) (t:=t) (r:=r) (s1:=s1) (how:=how) h
 have hT3:=λG t r s1 how h=>Je (E:=E.eng) (s:=s) (p:=p) (b:=iC U.m p) (G:=G) (t:=t) (r:=r) (s1:=s1) (how:=how) h
 rw[hbl]at HFi;obtain⟨⟨o,G⟩,hF⟩:=Uk (lB E.eng (s.pc,(p:Int)) (iC U.m p));rw[hF]at HFi Uv hT1 hT2 hT3;obtain⟨T,hT⟩:=Uk (jr E.eng s p (iC U.m p));rw[hT]at hT1 hT2 hT3|-;rw[hbe]at HFi;clear hbe hbl;refine UH func94 ntmps94 hi ?_;refine py ?_;refine ZO λb5=>?_;refine ZN λb8=>?_
 refine ZN λb9=>?_
 refine UA ?_;refine UD (λw hi=>qN bu L.bm bb w (hi.get (Ur (Cm bu L.bm bb)))) ?_;refine ZA ?_;refine Zy (jW (Zv I) (Zv I) O hq) ?_;refine sO ?_;refine UW (λw hi=>HP w (hi.get (Ur (eY L U.m)))) ?_;rintro _ _ ⟨bq,rfl,rfl⟩;refine iR ?_;refine ZN λb13=>?_
 refine et (cH (vs:=cy (s.pc,(p:Int))) ir I I (uM _) Za mJ) ?_;refine Uw ?_;refine py ?_;refine cq (λq:Vk×BA×RS×Nat×Nat=>[(0,.p be),(3,.p bu),(5,.p b5),(8,.p b8),(9,.p b9),(13,.p b13),(14,.p q.2.2.2.1),(15,.p q.2.2.2.2),(16,.bool o.isSome)]) (λq=>tF bu bb L s X U be q.1++[VE q.2.1,row b5 (s.cells (.slice X.Ad (J s.d) X.cd) (.slice X.Ar (J s.r) X.cr)) 36,row b8 (St.zero.cells (.slice none 0 0) (.slice none 0 0)) 36,row b9 (RS.cells RS.zero) 180,row b13 (cy (s.pc,(p:Int))) 173,row q.2.2.2.1 (BA.cells q.2.1) 262,row q.2.2.2.2 (RS.cells q.2.2.1) 180]) (λq=>oJ q.1/\q.1.eng=G/\∀t r,o=some (t,r)->q.2.1.b=t/\q.2.2.1.r=r) ?_ ?_
 .refine ik (UK [6,13,14]) [(0,0),(1,1),(2,0),(3,0),(4,0),(5,0),(6,3),(7,3),(8,3),(9,3),(10,3),(11,3),(12,3),(13,3),(14,3),(15,3)] Zk Zk (mK ?_);refine Cf I (cj (vs:=cy (s.pc,(p:Int))) ir ir ne) (cI Zh I) I (mK ?_);refine mK ?_;refine dX I (fH (Zv I) (Zv I) O hrm) I (dX I (kX (sz:=1) (lo:=p%64) (hi:=64) (r:=p%64) I ir (Zv I) (.inr ⟨_,_,I,(Zv I)⟩) (.inl ⟨I,I⟩) O O O O) I (NA [(6,[(7,0),(8,0),(9,0),(10,0),(11,3),(12,3),(13,3),(14,3),(15,3)]),(11,[(6,3),(7,3),(8,3),(9,3),(10,3),(12,3),(13,3),(14,3),(15,3)]),(12,[(6,3),(7,3),(8,3),(9,3),(10,3),(11,3),(13,3),(14,3),(15,3)])] Zk (.cons ?_ (.cons ?_ (.cons ?_ .nil)))))
  .refine Wq67 ?_;rintro _ _ ⟨_,⟨E2,hE2,hEe,y,x,rfl,rfl,hyx⟩,rfl⟩;refine Nc ?_;refine NA [(11,[(12,2),(13,2),(14,2),(15,0)]),(12,[(11,2),(13,2),(14,2),(15,0)])] Zk (.cons ?_ (.cons ?_ .nil))
   .refine zl ?_;rintro _ _ ⟨b14,rfl,rfl⟩;refine dZ ?_;refine zl ?_;rintro _ _ ⟨b15,rfl,rfl⟩;exact Yr
   refine zl ?_;rintro _ _ ⟨b15,rfl,rfl⟩;refine dZ ?_;refine zl ?_;rintro _ _ ⟨b14,rfl,rfl⟩;exact Yr
  .refine zl ?_;rintro _ _ ⟨b14,rfl,rfl⟩;refine NA [(6,[(7,0),(8,0),(9,0),(10,0),(12,2),(13,2),(14,2),(15,0)]),(12,[(6,2),(7,0),(8,0),(9,0),(10,0),(13,2),(14,2),(15,0)])] Zk (.cons ?_ (.cons ?_ .nil))
   .refine Wq67 ?_;rintro _ _ ⟨_,⟨E2,hE2,hEe,y,x,rfl,rfl,hyx⟩,rfl⟩;refine Nc ?_;refine dZ ?_;refine zl ?_;rintro _ _ ⟨b15,rfl,rfl⟩;exact Yr
   refine zl ?_;rintro _ _ ⟨b15,rfl,rfl⟩;exact Wx61_
  refine zl ?_;rintro _ _ ⟨b15,rfl,rfl⟩;refine NA [(6,[(7,0),(8,0),(9,0),(10,0),(11,2),(13,2),(14,2),(15,0)]),(11,[(6,2),(7,0),(8,0),(9,0),(10,0),(13,2),(14,2),(15,0)])] Zk (.cons ?_ (.cons ?_ .nil))
  .refine Wq67 ?_;rintro _ _ ⟨_,⟨E2,hE2,hEe,y,x,rfl,rfl,hyx⟩,rfl⟩;refine Nc ?_;refine dZ ?_;refine zl ?_;rintro _ _ ⟨b14,rfl,rfl⟩;exact Yr
  refine zl ?_;rintro _ _ ⟨b14,rfl,rfl⟩;exact Wx61_
 rintro⟨E2,⟨yb,A1,c1⟩,⟨xr,A2,c2⟩,b14,b15⟩ ⟨hE2,hEe,hyx⟩;dsimp only at hE2 hEe hyx|-;refine Vl ?_ ?_<;>intro hc4
 .obtain rfl:o=none:=kP;have hTn:=hT1 G I;exact Wx72_
 obtain⟨⟨⟨tk,C,tc⟩,r⟩,rfl⟩:∃q,o=some q:=(by cases o with|none=>cases hc4|some q=>grind);obtain⟨rfl,rfl⟩:=hyx _ _ I;obtain⟨pg,il,g1,g2,g3,g4,g5,g6,g7⟩:=Uv.2.2.2.2 _ _ I;obtain⟨-, -, -, -,hgo⟩:=AT g6 g1;obtain⟨hgd,hCl⟩:=hgo g2;dsimp only at g3;rw[<-g3]at hgd hCl;have HRn:=λA c w h h3=>erun_ok A c C hgd hCl s hwf hs X.Ad X.Ar X.cd X.cr w h h3
 have hTb:=λs1 how=>hT2 G ⟨tk,C,tc⟩ xr s1 how I
 have hTy:=λs1 how=>hT3 G ⟨tk,C,tc⟩ xr s1 how I
 obtain⟨⟨s1,how⟩,hrc⟩:=Uk (iq C s);dsimp only at hTb hTy;rw[hrc]at HRn;dsimp only at HRn;refine Ux ?_;refine UW (λw hi=>HRn A1 c1 w (hi.rd (Ur (VE ⟨⟨tk,C,tc⟩,A1,c1⟩))) (hi.TM (Ur (UP s X.Ad X.cd)) (Ur (UU s X.Ar X.cr)) O O)) ?_;rintro _ _ ⟨X1,rfl,rfl⟩;refine Us ?_;refine ZN λb17=>?_
 refine rI ?_;refine ZW ?_ ?_<;>intro hc7
 .have hTn:=hTb s1 how hrc hc7;exact Wx72_
 have hTn:=hTy s1 how hrc hc7;refine Uu ?_;refine UD (λw hi=>qN bu L.bm bb w (hi.get (Ur (Cm bu L.bm bb)))) ?_;refine U5 ([eY L U.m]) (λw hi hin=>ER L U.m w hin) ?_;refine py ?_;refine cq (λY:VY=>[(0,.p be),(8,.p b8),(9,.p b9),(13,.p b13),(14,.p b14),(15,.p b15),(17,.p b17)]) (λY=>row b8 (St.zero.cells (.slice none 0 0) (.slice none 0 0)) 36::row b9 (RS.cells RS.zero) 180::row b13 (cy (s.pc,(p:Int))) 173::row b14 (BA.cells ⟨⟨tk,C,tc⟩,A1,c1⟩) 262::row b15 (RS.cells ⟨xr,A2,c2⟩) 180::row b17 (s1.cells (.slice X1.Ad (J s1.d) X1.cd) (.slice X1.Ar (J s1.r) X1.cr)) 36::tF bu bb L s1 X1 ⟨U.m.calm,U.t⟩ be (E2.Tj Y)) (λY=>qI E2.room Y/\Y.Z=E2.X.Z) ?_ ?_
 .refine V1 ?_ ?_<;>intro hc10
  .refine bN (UK [9]) Zk (rK ?_);refine sP ?_;refine Ld 6 2 ?_;refine US 7 I (cj (vs:=cy E2.last) ir ir ne) (cI Zh I) ?_;refine US 8 I (cj (vs:=cy (s.pc,(p:Int))) ir ir ne) (cI Zh I) ?_;refine kO ?_;refine rH (Vu E2.bc E2.room E2.X) (λw hi hin=>Qg E2.bc E2.room E2.X hE2.ca E2.last (s.pc,(p:Int)) hE2.last w hin) ?_;rintro _ _ ⟨X2,rfl,hX2,hXZ⟩;refine fe ?_;refine UN (X2) Do
  refine Zc (UN (E2.X) ⟨hE2.ca,I⟩)
 rintro Y ⟨hY,hYZ⟩;refine Ut ?_;refine dW (cj (vs:=cy (s.pc,(p:Int))) ir ir ne) (cI Zh I) I (py ?_);refine et (fg (ys:=[.p E2.bc,.map (some E2.mr),.w s.pc,.w (p:Int),.i E2.S9,.i E2.S8,.bool E2.begun]) (n:=2) (vs:=cy (s.pc,(p:Int))) I ir I I (uM _) Za I (Nat.le_of_ble_eq_true I)) ?_;refine Uw ?_;refine jD ?_;refine Us ?_;refine bN (UK [9]) Zk (mW ?_);refine Ld 2 4 ?_;refine ZG 3 ?_;refine Ld 4 3 ?_;refine ZG 5 ?_;refine UF 6 I (dr ne ne Zl) ?_;refine ZE 7 ?_;refine Ld 8 4 ?_;refine kO ?_;refine ZQ ?_;refine pI ?_;refine bN (Wz [4,5] (pk b14 (BA.cells ⟨⟨tk,C,tc⟩,A1,c1⟩)++pk b15 (RS.cells ⟨xr,A2,c2⟩))) Zk (ZI 0 ?_);refine wn 1 I Zk Zk Zk (cj (vs:=RS.cells ⟨xr,A2,c2⟩) ir ir ne) (λx hx=>List.mem_append_right _ (fU x hx)) (gu (bO (t:=262) Zh) (bO (t:=180) Zh)) I (Ld 2 3 ?_);refine fD 3 I Zk Zk Zk (bL ir (Zv I)) XO (gu (bO (t:=262) Zh) (bO (t:=180) Zh)) I (cQ 4 Zk (ft I I (cH ir I I (ka I) Za mJ) Wq471 ?_));refine Uw ?_;refine cQ 5 Zk (ft I I (cH ir I I (nl ⟨xr,A2,c2⟩) Za mJ) Wq471 ?_);refine Uw ?_;refine ZE 6 ?_;refine pI ?_;refine bI (row b8 (s1.cells (.slice X1.Ad (J s1.d) X1.cd) (.slice X1.Ar (J s1.r) X1.cr)) 36::row b9 (RS.cells ⟨xr,A2,c2⟩) 180::tF bu bb L s1 X1 ⟨U.m.calm,U.t⟩ be (E2.toldE Y (s.pc,(p:Int)) tc)) Zj (wH (cs':=tF bu bb L s1 X1 ⟨U.m.calm,U.t⟩ be (E2.toldE Y (s.pc,(p:Int)) tc)) (.inl I) (List.Sublist.cons _ (List.Sublist.cons _ (aO _))) I I I I Zh Zh ir ir ir ir ?_);rw[hTn];exact⟨_,hE2.told hY hYZ hky tc,by rw[NO hYZ,hEe],X1,⟨xr,A2,c2⟩,rfl,rfl,rfl⟩
variable{p:Nat}{U:Uo}{d:Un}
theorem edo_ok(be bu bb:Nat)(L:ez)(D:qK)(Y:fv)(s:St)(Ad Ar:Oa)(cd cr:Nat)(U:Uo)(d:Un)(hG:Vp L.n s U d)(ho:J d.out+8<=1000000000)(E:Vk)(hE:oJ E)(w:World)(hi:Inv w (bK (WH be bu bb L D Y U d E)) (WH be bu bb L D Y U d E) w)
  (h:∀w',cX (bK (WH be bu bb L D Y U d E)) w w'->kS w' s Ad Ar cd cr) (ht:∀w',cX (bK (WH be bu bb L D Y U d E)) w w'->lG w'):
  Uz prog 30 [.p be,sv s Ad cd Ar cr,.p bu,.p D.bs] w (WH be bu bb L D Y U d E)
   (λv cs=>∃X' Y' E',oJ E'/\E'.eng=(Wv L.n s U d E.eng).2/\v=sv (Wv L.n s U d E.eng).1.1 X'.Ad X'.cd X'.Ar X'.cr/\cs=Wi be bu bb L D (Wv L.n s U d E.eng).1.1 X' Y' (Wv L.n s U d E.eng).1.2.1 (Wv L.n s U d E.eng).1.2.2 E'):=by
 have hq:∀x:Int,u32 x->V9 .u32 (x.tdiv 64)=x/64:=λx hx=>by obtain⟨h1,h2⟩:=hx;rw[bj h1,u32_wrap_id _ O O]
 have HB:=F4 bu bb L D Y s hG.wf Ad Ar cd cr U hG.u.t d (nY hG.lines _);have hb:=kp hG;have hbp:=vy hG;have hN:=λs1 U1 d1 pl h=>doE_no (n:=L.n) (s:=s) (s1:=s1) (U:=U) (U1:=U1) (d:=d) (d1:=d1) (pl:=pl) (E:=E.eng) h
 have hY1:=λs1 U1 d1 (pl:Nat) G h ht=>P6 (n:=L.n) (s:=s) (s1:=s1) (U:=U) (U1:=U1) (d:=d) (d1:=d1) (pl:=pl) (E:=E.eng) (G:=G) h ht
 have hY2:=λs1 U1 d1 (pl:Nat) o r c G h ht hc=>doE_out (n:=L.n) (s:=s) (s1:=s1) (o:=o) (U:=U) (U1:=U1) (d:=d) (d1:=d1) (pl:=pl) (E:=E.eng) (G:=G) (r:=r) (c:=c) h ht hc
 have hY3:=λs1 U1 d1 (pl:Nat) o r c G (m:Nat) h ht hm hc=>doE_on (n:=L.n) (s:=s) (s1:=s1) (o:=o) (U:=U) (U1:=U1) (d:=d) (d1:=d1) (pl:=pl) (E:=E.eng) (G:=G) (r:=r) (c:=c) (m:=m) h ht hm hc
 obtain⟨⟨s1,pl,rn,U1,d1⟩,hbe⟩:=Uk (cF L.n s U d);rw[hbe]at HB hb hbp hN hY1 hY2 hY3;obtain⟨hg1,hpl,hout, -, -, -⟩:=hb;dsimp only at hg1 hpl hout hbp;obtain⟨pl,rfl⟩:∃m:Nat,pl=m:=ai hpl.1;have hpl2:=hpl.2;obtain⟨⟨⟨s9,U9,d9⟩,G9⟩,hR⟩:=Uk (Wv L.n s U d E.eng);rw[hR]at hN hY1 hY2 hY3|-;refine UH func30 ntmps30 hi ?_;refine py ?_;refine ZO λb5=>?_;refine ZN λb8=>?_
 refine Ux ?_;refine dE (Vq bu bb L D Y U d) (λw hi hin=>HB w hin (λw' hk=>h w' (hi.TR (λc hc=>by simp only[WH,Vr,Vq,uF,lJ,aK,aI,aV]at hc|-;grind) hk)) (λw' hk=>ht w' (hi.TR (λc hc=>by simp only[WH,Vr,Vq,uF,lJ,aK,aI,aV]at hc|-;grind) hk))) ?_;rintro _ _ ⟨X1,rfl,rfl⟩;refine ZN λb9=>?_
 refine rI ?_;refine ZW ?_ ?_<;>intro hc2
 .obtain rfl:rn=false:=(by cases rn with|false=>rfl|true=>cases hc2);have e:=hN s1 U1 d1 pl I;rw[aD,aD,aD]at e;obtain⟨⟨rfl,rfl,rfl⟩,hG9⟩:=e;refine Zs (bN (UK [14]) Zk ?_);refine mW ?_;refine Ld 2 5 ?_;refine ZG 3 ?_;refine Ld 4 0 ?_;refine Ld 5 14 ?_;refine ZG 6 ?_;refine Ld 7 14 ?_;refine ZG 8 ?_;refine UF 9 I (eA ne ne I) ?_;refine UF 10 I (cA I I ne I) ?_;refine UF 11 I (dr ne ne I) ?_;refine ZE 12 ?_;refine Ld 13 5 ?_;refine cQ 14 Zk (ke ?_);refine Ut ?_;refine Wq457 ?_;exact bI (row b8 (s9.cells (.slice X1.Ad (J s9.d) X1.cd) (.slice X1.Ar (J s9.r) X1.cr)) 36::Wi be bu bb L D s9 X1 Y U9 d9 (E.TN (V9 .i64 (V9 .u64 (s9.count - s.count))))) Zj (mz (cs':=(Wi be bu bb L D s9 X1 Y U9 d9 (E.TN (V9 .i64 (V9 .u64 (s9.count - s.count)))))) (.inl I) Zu I I Zh ir ir ⟨X1,Y,_,hE.slowed _,hG9.symm,I,I⟩)
 obtain rfl:rn=true:=(by cases rn with|true=>rfl|false=>cases hc2);have hpn:pl/64<L.n:=(by have:=(hbp I).2;omega);have HT:=λX w hi=>LX be bu bb L E hE s1 X pl O hpn U1 hg1.wf hg1.right hg1.u.m w hi
 have hTg:=λo r c G h=>Gv (o:=o) (r:=r) (c:=c) (G:=G) (p:=pl) hg1 hE.eg h
 have hY1:=hY1 s1 U1 d1 pl;have hY2:=hY2 s1 U1 d1 pl;have hY3:=hY3 s1 U1 d1 pl;obtain⟨⟨o,G⟩,hTe⟩:=Uk (jr E.eng s1 (pl:Int) (iC U1.m pl));rw[hTe]at HT hY1 hY2 hY3 hTg;refine Us ?_;rcases o with _|⟨o,r,k⟩
 .have hZ:=hY1 G I I;refine Us ?_;refine Zg ?_;refine Us ?_;refine dE (tF bu bb L s1 X1 U1 be E) (λw hi hin=>HT X1 w hin) ?_;rintro _ _ ⟨E2,hE2,hEe,X2,x,rfl,rfl⟩;refine Ut ?_;refine ZN λb10=>?_
  refine ZN λb11=>?_
  refine ZM ?_;refine et (cH ir I I (nl x) Za mJ) ?_;refine Uw ?_;refine oQ ?_;refine Wm I I (jW (cU I) (Zv I) O (hq _ hg1.wf.pc)) ?_;refine Us ?_;refine Wm I I (jW (cU I) (Zv I) O (hq _ hg1.wf.pc)) ?_;refine Wj ?_ ?_<;>intro hc6
  ·(have h9:((x.r.ends&&decide ((0:Int)<0))||(s1.pc/64 !=s1.pc/64))=true:=hc6;simp at h9)
  refine Wq432 ?_;refine Cf I (cj (vs:=s1.cells (.slice X2.Ad (J s1.d) X2.cd) (.slice X2.Ar (J s1.r) X2.cr)) ir ir ne) (cI Zh I) I (Wq414 ?_);refine dX I (eA (Zv I) (Zv I) (show _=((8:Nat):Int)from I)) I (mK ?_);refine mK ?_;refine dZ ?_;refine lv I I (dQ I (λ_ _=>I) (λw hi=>FH x 0 w)) ZJ I ?_;refine Vb ?_;rw[ax];refine dX I (cA I I ne I) I (dX I (dr (Zv I) (Zv I) (show _=(pl:Int)from by show V9 .u32 ((pl:Int)+0)=_;rw[au];omega)) rfl (dZ ?_));have HRs:=λw hi=>FI be bu bb L D Y s1 X2 pl O 8 An U1 d1 hg1 (by rw[hout];exact ho) E2 hE2 w hi
  rw[hEe,<-hZ]at HRs;refine ZcSn (Wi be bu bb L D s1 X2 Y U1 d1 E2) (λw hi hin=>HRs w hin) ?_;rintro _ _ ⟨X3,Y3,E3,hE3,hEe3,rfl,rfl⟩;refine Q2 ?_;exact Wq178
 obtain⟨hg2,m,rfl,hm1,hm8⟩:=hTg o r k G I;refine Us ?_;refine Zg ?_;refine Us ?_;refine dE (tF bu bb L s1 X1 U1 be E) (λw hi hin=>HT X1 w hin) ?_;rintro _ _ ⟨E2,hE2,hEe,X2,x,rfl,rfl,rfl⟩;refine Ut ?_;refine ZN λb10=>?_
 refine ZN λb11=>?_
 refine ZM ?_;refine et (cH ir I I (nl x) Za mJ) ?_;refine Uw ?_;refine oQ ?_;refine Wm I I (jW (cU I) (Zv I) O (hq _ hg2.wf.pc)) ?_;refine Us ?_;refine Wm I I (jW (cU I) (Zv I) O (hq _ hg1.wf.pc)) ?_;refine Wj ?_ ?_<;>intro hc6
 .have hZ:=hY2 o x.r (m:Int) G I I hc6;simp only[aD]at hZ;obtain⟨⟨rfl,rfl,rfl⟩,hG9⟩:=hZ;refine Us ?_;refine iz ?_;exact bI (row b8 (s9.cells (.slice X2.Ad (J s9.d) X2.cd) (.slice X2.Ar (J s9.r) X2.cr)) 36::Wi be bu bb L D s9 X2 Y ⟨U1.m.calm,U1.t⟩ d9 E2) Zj (mz (cs':=(Wi be bu bb L D s9 X2 Y ⟨U1.m.calm,U1.t⟩ d9 E2)) (.inl I) Zu I I Zh ir ir ⟨X2,Y,E2,hE2,hEe.trans hG9.symm,I,I⟩)
 have hZ:=hY3 o x.r (m:Int) G m I I I hc6;refine Wq432 ?_;refine Cf I (cj (vs:=o.cells (.slice X2.Ad (J o.d) X2.cd) (.slice X2.Ar (J o.r) X2.cr)) ir ir ne) (cI Zh I) I (Wq414 ?_);refine dX I (eA (Zv I) (Zv I) (show _=((8 - m:Nat):Int)from by rw[aN _ ⟨by omega,by omega⟩];omega)) rfl (mK ?_);refine mK ?_;refine dZ ?_;refine lv I I (dQ I (λ_ _=>I) (λw hi=>FH x (m:Int) w)) ZJ I ?_;refine Vb ?_;rw[show((m:Int)==0)=false from bE.2 O,ac,ax];refine dX I (cA I I ne I) I (dX I (dr (Zv I) (Zv I) (show _=(((pl+J x.r.bytes)%4294967296:Nat):Int)from by show V9 .u32 ((pl:Int)+V9 .u32 (J x.r.bytes:Int))=_;simp only[au];omega)) rfl (dZ ?_));have HRs:=λw hi=>FI be bu bb L D Y o X2 ((pl+J x.r.bytes)%4294967296) O (8 - m) O ⟨U1.m.calm,U1.t⟩ d1 hg2 (by rw[hout];omega) E2 hE2 w hi
 rw[hEe,<-hZ]at HRs;refine ZcSn (Wi be bu bb L D o X2 Y ⟨U1.m.calm,U1.t⟩ d1 E2) (λw hi hin=>HRs w hin) ?_;rintro _ _ ⟨X3,Y3,E3,hE3,hEe3,rfl,rfl⟩;refine Q2 ?_;exact Wq178
end
end Go.Ink
