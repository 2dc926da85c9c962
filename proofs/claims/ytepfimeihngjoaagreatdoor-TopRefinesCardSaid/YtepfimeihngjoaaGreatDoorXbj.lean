/- Lemmas. -/
import Derived.Test.YtepfimeihngjoaaGreatDoorXbf
import Derived.Test.YtepfimeihngjoaaGreatDoorXbg
import Derived.Test.YtepfimeihngjoaaGreatDoorXbh
set_option linter.all false
set_option maxRecDepth 100000
set_option maxHeartbeats 4000000
namespace Go.Ink
open List renaming length→J
open IntKind renaming wrap→V9
open Go.RowKit Go.Proofs.Tryz
section
attribute [local irreducible] Ve bN
theorem MI(p:Pg)(Q:Xu)(hf:tJ p)(hr:p.Tf=true)(hg:gt (gC p (dU p)))(hroom:p.TR=true)(w:World)(h:GC p Q w):
  UW prog 187 [XP p Q] w [] (λr cs=>∃A c,r= .tuple #[.slice A (J (cH (gC p (dU p)))) c,.i 0]/\cs=[sl .u8 5 A (J (cH (gC p (dU p)))) c (cH (gC p (dU p)))]):=by
 have hm64:=hf.Tq;have hoD:=hf.S9;have hoR:=hf.Ta;have hrc:=h.code;obtain⟨u1,u2,u3,u4⟩:=rp hr;obtain⟨hnD,hnR,hhD,hhR⟩:=xK hr;obtain⟨hrl,hsl⟩:(dU p).reg.length=J p.code/\(dU p).slot.length=J p.code:=ql (gx p) 7 (J p.code) (J p.code);obtain⟨pl,hpl⟩:=Do (dU p);rw[hpl]at hg hrl hsl|-;have hAl:=Cz p Q hf hr pl hpl;have hbl:=λe=>zU p pl e hm64 hoD hoR
 have hpb:=xD p pl (V9 .u32 (J (fU p pl 0):Nat));have hfx:=Su p pl;have hcode:gC p pl=fU p pl (V9 .u32 (J (fU p pl 0):Nat))++[⟨19,0,0,0,2⟩]:=rfl;obtain⟨C9,hC9⟩:=Do (gC p pl);rw[hC9]at hg hcode|-;have hC9l:J C9<=100000:=by have:=hbl (V9 .u32 (J (fU p pl 0):Nat));rw[hcode,ar,aE,bD];omega
 have hJ:=λA c w h=>FR A c C9 hg hC9l w h
 refine UV func187 ntmps187 ?_;refine An ?_;refine ZO λb1=>?_;refine US ?_;refine Vl (λw hi=>hAl w (h.Tb hi)) ?_;rintro _ _ ⟨Ar,cr,As,c2,rfl,rfl⟩;refine UN ?_;refine ZN λb4=>?_
 refine qN ?_;refine lN ?_;refine US ?_;refine ZO λb21=>?_
 refine Wq292 ?_;rintro _ _ ⟨_,⟨l1,X1,hl1,rfl⟩,rfl⟩;refine An ?_;refine cj (λq:List HI×List Int×VX=>[(6,.p b21)]) (λq=>[row b21 (rR (⟨b21,p,Q,pl,Ar,cr,As,c2⟩:Wj) (J q.1) (J q.2.1) q.2.2) 362,W7 q.2.2.Al q.2.2.cl q.1,sl .i64 3 q.2.2.Af (J q.2.1) q.2.2.cf q.2.1]) (λq=>q.1=fU p pl 0/\q.2.1=tm p) ?_ ?_
 .refine eL ?_;refine dH (UX (⟨b21,p,Q,pl,Ar,cr,As,c2⟩:Wj) l1 [] X1) (λw hi hin=>vV (⟨b21,p,Q,pl,Ar,cr,As,c2⟩:Wj) l1 [] X1 bZ 14 2 p.SW p.Tw (J p.S9) true hroom ⟨by omega,by omega⟩ ⟨by omega,by omega⟩ O cJ w hin) ?_;rintro _ _ ⟨rfl,l2,f2,X2,hl2,hf2,rfl⟩;refine ZA ?_;have hl2n:J l2=9:=(by rw[hl2,hl1];rfl);have hf2n:f2=[4,7]:=bZ;obtain⟨rr,hrr⟩:=Do (p.TZ);refine Va ?_;refine gm (bS I I) I (dh (UX (⟨b21,p,Q,pl,Ar,cr,As,c2⟩:Wj) l2 f2 X2) I (λ_ _=>I) Zi (λw hi hin=>vV (⟨b21,p,Q,pl,Ar,cr,As,c2⟩:Wj) l2 f2 X2 O 13 3 p.SZ p.Tx (J p.Ta) rr hrr ⟨by omega,by omega⟩ ⟨by omega,by omega⟩ O bZ w hin)) rfl ?_;rintro _ _ ⟨_,⟨rfl,l3,f3,X3,hl3,hf3,rfl⟩,rfl⟩;refine VP ?_ ?_<;>intro hc6
  .obtain rfl:rr=true:=bZ;have hl3n:J l3=17:=(by rw[hl3,ar,hl2n];rfl);have hl3h:l3=vz p 0:=(by rw[hl3,hl2,hl1];rfl);have hf3n:f3=[4,7,12,15]:=bZ;refine eL ?_;refine Vs (λq:Nat×List HI×VX=>[(1,.p b1),(6,.p b21),(45,.slice Q.Ac (J p.code) Q.cc),(46,.i (J p.code)),(47,.i (q.1:Int))]) (λq=>[row b21 (rR (⟨b21,p,Q,pl,Ar,cr,As,c2⟩:Wj) (J q.2.1) (J f3) q.2.2) 362,W7 q.2.2.Al q.2.2.cl q.2.1,sl .i64 3 q.2.2.Af (J f3) q.2.2.cf f3,row b1 (jZ p Q) 308,(sl .i64 3 Ar (J pl.reg) cr pl.reg),(sl .i64 3 As (J pl.slot) c2 pl.slot)]) (λq=>q.1<=J p.code/\q.2.1=l3++ko p.SW p.SZ pl (p.code.take q.1) 0) (λq=>J p.code - q.1) (⟨0,l3,X3⟩) ⟨ax _,(aD l3).symm⟩ ?_;rintro⟨k,l4,X4⟩ ⟨hk,hl4⟩;dsimp only at hk hl4|-;have hml:=BK p.SW p.SZ pl (p.code.take k) 0;have hl4n:J l4<=2000:=bZ;refine UH ?_ ?_<;>intro hc8
   .simp only[ai]at hc8;have hkl:k<J p.code:=O;obtain⟨ad,had⟩:=hrc.some_ O;have hrc2:=hrc;rw[had]at hrc2;obtain⟨x,hx⟩:∃x,p.code[k]? =some x:=⟨_,ak hkl⟩;have hu:=u1 k x hx;have hmk:l3++ko p.SW p.SZ pl (p.code.take (k+1)) 0=l4++rA p.SW p.SZ pl k x:=(by rw[List.take_add_one,hx,hl4];show l3++ko _ _ _ (p.code.take k++[x]) 0=_;rw[xG,aw,bC,aO,Nat.min_eq_left O]);obtain⟨op,dst,xa,xb,imm⟩:=x;dsimp only at hu;have hab:(op==3)=true\/(op==4)=true->∃na nb:Nat,xa=na/\xb=nb/\(na<J pl.reg/\na<J pl.slot)/\(nb<J pl.reg/\nb<J pl.slot):=(λho=>by obtain⟨⟨a1,a2⟩,a3,a4⟩:=hu (by unfold lM;grind);exact⟨xa.toNat,xb.toNat,by omega,by omega,⟨by omega,by omega⟩,by omega,by omega⟩);refine US ?_;refine Q4 ?_;refine Φ ?_;refine ZN λb8=>?_
    refine ZA ?_;refine jb ?_;refine dH (UX (⟨b21,p,Q,pl,Ar,cr,As,c2⟩:Wj) l4 f3 X4) (λw hi hin=>cone_ok (⟨b21,p,Q,pl,Ar,cr,As,c2⟩:Wj) l4 f3 X4 O k op dst xa xb imm bZ bZ hab w hin (λw' hk=>(⟨cY (hi.TM Zi (UJ (sl .i64 3 Ar (J pl.reg) cr pl.reg)) hk),cY (hi.TM Zi (UJ (sl .i64 3 As (J pl.slot) c2 pl.slot)) hk),U5.Th h.S9 hi Zi hk,U5.Th h.Ta hi Zi hk,U5.Th h.code hi Zi hk⟩:NX (⟨b21,p,Q,pl,Ar,cr,As,c2⟩:Wj) w'))) ?_;rintro _ _ ⟨l5,X5,hl5,rfl⟩;refine ii ?_;refine Vd ((⟨k+1,l5,X5⟩:Nat×List HI×VX)) bZ
   simp only[aa]at hc8;obtain rfl:k=J p.code:=by omega
   rw[List.take_length]at hl4;refine US ?_;have hs1:=om pl 14 4 2 p.S9;have hs2:=om pl 13 20 3 p.Ta;have hoj:∀j,j∈p.S9\/j∈p.Ta->∃n:Nat,j=n/\n<J pl.reg/\n<J pl.slot:=(λj hj=>by obtain⟨a1,a2⟩:=u2 j hj;exact⟨j.toNat,by omega,by omega,by omega⟩);refine UN ?_;refine dH (UX (⟨b21,p,Q,pl,Ar,cr,As,c2⟩:Wj) l4 f3 X4) (λw hi hin=>Cq (⟨b21,p,Q,pl,Ar,cr,As,c2⟩:Wj) l4 f3 X4 O 14 4 2 Q.Ad Q.cd p.S9 O (λj hj=>hoj j (Or.inl hj)) w hin (λw' hk=>(⟨cY (hi.TM Zi (UJ (sl .i64 3 Ar (J pl.reg) cr pl.reg)) hk),cY (hi.TM Zi (UJ (sl .i64 3 As (J pl.slot) c2 pl.slot)) hk),U5.Th h.S9 hi Zi hk,U5.Th h.Ta hi Zi hk,U5.Th h.code hi Zi hk⟩:NX (⟨b21,p,Q,pl,Ar,cr,As,c2⟩:Wj) w')) (λw' hk=>U5.Th h.S9 hi Zi hk)) ?_;rintro _ _ ⟨l6,X6,hl6,rfl⟩;refine UK ?_;have hl6n:J l6<=4000:=bZ;refine UN ?_;refine dH (UX (⟨b21,p,Q,pl,Ar,cr,As,c2⟩:Wj) l6 f3 X6) (λw hi hin=>Cq (⟨b21,p,Q,pl,Ar,cr,As,c2⟩:Wj) l6 f3 X6 O 13 20 3 Q.Ar Q.cr p.Ta O (λj hj=>hoj j (Or.inr hj)) w hin (λw' hk=>(⟨cY (hi.TM Zi (UJ (sl .i64 3 Ar (J pl.reg) cr pl.reg)) hk),cY (hi.TM Zi (UJ (sl .i64 3 As (J pl.slot) c2 pl.slot)) hk),U5.Th h.S9 hi Zi hk,U5.Th h.Ta hi Zi hk,U5.Th h.code hi Zi hk⟩:NX (⟨b21,p,Q,pl,Ar,cr,As,c2⟩:Wj) w')) (λw' hk=>U5.Th h.Ta hi Zi hk)) ?_;rintro _ _ ⟨l7,X7,hl7,rfl⟩;refine UN ?_;have hl7n:J l7<=8000:=bZ;have hl7e:l7=vz p 0++jc p pl:=(by rw[hl7,hl6,hl4,hl3h];unfold jc;grind);refine ZA ?_;refine dH (UX (⟨b21,p,Q,pl,Ar,cr,As,c2⟩:Wj) l7 f3 X7) (λw hi hin=>cend_ok (⟨b21,p,Q,pl,Ar,cr,As,c2⟩:Wj) l7 f3 X7 O (λh0=>⟨p.flags.toNat,by grind,by grind,by grind⟩) (λh0=>⟨p.target.toNat,by grind,by grind,by grind⟩) w hin (λw' hk=>(⟨cY (hi.TM Zi (UJ (sl .i64 3 Ar (J pl.reg) cr pl.reg)) hk),cY (hi.TM Zi (UJ (sl .i64 3 As (J pl.slot) c2 pl.slot)) hk),U5.Th h.S9 hi Zi hk,U5.Th h.Ta hi Zi hk,U5.Th h.code hi Zi hk⟩:NX (⟨b21,p,Q,pl,Ar,cr,As,c2⟩:Wj) w'))) ?_;rintro _ _ ⟨l8,X8,hl8,rfl⟩;refine Zn (Vd (((l8,f3,X8):List HI×List Int×VX)) ⟨by dsimp only;rw[hl8,show J l7=17+J (jc p pl) by grind];unfold fU;grind,by dsimp only;rw[hf3n];unfold tm;grind⟩)
  obtain rfl:rr=false:=bZ;refine Zc (Vd (((l3,f3,X3):List HI×List Int×VX)) ⟨by dsimp only;rw[hl3,hl2,hl1];unfold fU;rw[hroom,hrr];rfl,by dsimp only;rw[hf3,hf2n];unfold tm;grind⟩)
 rintro⟨l9,f9,⟨Al,cl,Af,cf⟩⟩ ⟨hb9,hf9⟩;dsimp only at hb9 hf9|-;rw[<-hb9]at hpb hcode hfx;rw[<-hf9]at hpb hfx;have hl9n:=hbl 0;rw[<-hb9]at hl9n;have hf9n:J f9<=4:=(by rw[hf9];unfold tm;grind);obtain⟨B9,hB9⟩:=Do (fU p pl (V9 .u32 ((J l9:Nat):Int)));rw[hB9]at hpb hcode;refine Wq100 ?_;rintro⟨k,m⟩ ⟨hk,hml,hP⟩;dsimp only at hk hml hP|-;refine UH ?_ ?_<;>intro hc16
 .exact Wx6_
 simp only[aa]at hc16;obtain rfl:k=J f9:=by omega
 rw[List.drop_length]at hP;obtain rfl:m=B9:=hP;refine U8 ?_;exact Wq438
theorem Qm(p:Pg)(Q:Xu)(hf:tJ p)(hr:p.Tf=true)(hg:gt (gC p (dU p)))(w:World)(h:GC p Q w):
  UW prog 187 [XP p Q] w [] (λr cs=>∃A c,r= .tuple #[.slice A (J (cH (gC p (dU p)))) c,.i 0]/\cs=[sl .u8 5 A (J (cH (gC p (dU p)))) c (cH (gC p (dU p)))]):=by
 grind [MI,MK]
end
end Go.Ink
namespace Go.Ink
open List renaming length→J, replicate→R9
open IntKind renaming wrap→V9
open Go.RowKit Go.Proofs.Tryz
section
attribute [local irreducible] Ve bN
variable{l:List (Int×Int)}
theorem LX(pc:Int)(A:Oa)(c:Nat)(l:List (Int×Int))(hu:∀i,i∈l->u32 i.2)(w:World)(h:U5 w 2 A (J l) c (l.flatMap Jl)):
  UW prog 186 [.w pc,.slice A (J l) c] w [] (λv cs=>LowK (fK pc l) v cs):=by
 have hlm:J l<=maxLen:=aN h.cap h.max;simp only[maxLen]at hlm;obtain⟨R,hR⟩:=Do (nI pc Lw.init l);have hbad:(decide ((J l:Int)<1)||decide (8<(J l:Int)))=true->fK pc l=none:=λe=>by unfold fK;grind
 have hno:R=none->(decide ((J l:Int)<1)||decide (8<(J l:Int)))=false->fK pc l=none:=λe e2=>by unfold fK;grind
 have hyes:∀nx L,R=some (nx,L)->(decide ((J l:Int)<1)||decide (8<(J l:Int)))=false->fK pc l=some (cG (y8 nx L (l.getLastD (0,0)) (J l))):=λnx L e e2=>by unfold fK;grind
 have hraw:∀nx L y,R=some (nx,L)->Raw (y8 nx L y (J l)):=λnx L y e=>by
  rw[e]at hR;obtain⟨lk, -, -⟩:=tV l pc Lw.init _ hu hR vg;exact⟨lk.wf,lk.ops,lk.d,lk.r,lk.flags,lk.target⟩
 obtain⟨LT,hLT⟩:=Do (fK pc l);rw[hLT]at hbad hno hyes|-;refine UV func186 ntmps186 ?_;refine An ?_;refine ZN λb4=>?_;refine oO ?_;refine ZW ?_ ?_<;>intro hc1
 .rw[hbad hc1];refine An ?_;refine Zy (ip (vs:=pgZ) Zk (.inl ⟨_,I,I⟩)) ?_;refine rY ?_;exact Wy
 have hc1':=hc1;simp only[aZ,aa]at hc1';refine eL ?_;refine ZO λb26=>?_
 refine UU ?_;refine dB 366 5 (dB 3 1 (dB 3 1 (UU ?_)));refine Vs (λq:(Nat×Int)×Lw×Wq=>[(0,.w q.1.2),(1,.slice A (J l) c),(4,.p b4),(6,.p b26),(27,.slice A (J l) c),(28,.i (J l:Int)),(29,.i (q.1.1:Int))]) (λq=>[pg0 b4]++VL b26 (J l:Int) q.2.1 q.2.2) (λq=>q.1.1<=J l/\nI q.1.2 q.2.1 (l.drop q.1.1)=R/\q.2.1.sm (10*q.1.1)) (λq=>J l - q.1.1) (⟨(0,pc),Lw.init,⟨none,0,none,0,none,0⟩⟩) ⟨ax _,hR,Kg⟩ ?_;rintro⟨⟨k,pc2⟩,L,X⟩ ⟨hk,hG,hsm⟩;dsimp only at hk hG hsm|-;refine UH ?_ ?_<;>intro hc5
 .simp only[ai]at hc5;have hkl:k<J l:=O;obtain⟨ad,had⟩:=h.some_ O;have h2:=h;rw[had]at h2;obtain⟨x,hx⟩:∃x,l[k]? =some x:=⟨_,ak hkl⟩;rw[jL hx,Ig,Ck l k hkl]at hG;obtain⟨op,nn⟩:=x;dsimp only at hG;refine US ?_;refine Q4 ?_;refine dZ (bX (vs:=[.i op,.w nn]) ir ir py) (fB h2 (λi v hi=>fw (f:=Jl) ir (i:=i) hx hi)) I ?_;refine ZN λb8=>?_
  refine ZA ?_;refine jb ?_;refine UZ (λw hi=>BZ op nn w) ?_;refine UK ?_;refine dC (bR I I) (.cons (cO I) .nil) (λ_ _=>I) (λhg w hi=>B2 op w) I (UQ ?_);refine dC (bR I I) (.cons (cO I) .nil) (λ_ _=>I) (λhg w hi=>zE op w) I (UK ?_);refine iX (fQ I I) (ez (cO I) py Zl) (λ_ _=>trivial) I (Wh ?_ ?_)<;>intro hc7
  .rw[hc7,ah]at hG;rw[hno hG.symm hc1];refine An ?_;refine Zy (ip (vs:=pgZ) Zk (.inl ⟨_,I,I⟩)) ?_;refine qN ?_;exact Wy
  rw[hc7,ac]at hG;refine US ?_;refine UZ (λw hi=>yK op w) ?_;refine mU ?_;refine kZ ?_;refine US ?_;refine dH (VL b26 (J l:Int) L X) (λw hi hin=>lone_ok b26 (J l:Int) L X (hsm.mono O) op nn _ w hin) ?_;rintro _ _ ⟨L2,X2,hL2,rfl⟩;refine ii ?_;refine Vd ((⟨(k+1,V9 .u32 (pc2+V9 .u32 (cB op))),L2,X2⟩:(Nat×Int)×Lw×Wq)) ⟨⟨by grind,by grind,by dsimp only;rw[hL2];exact(RY hsm _ _ _).mono O⟩,by grind⟩
 simp only[aa]at hc5;obtain rfl:k=J l:=O;rw[List.drop_length]at hG;have hG:R=some (pc2,L):=hG.symm;have hraw2:=hraw pc2 L (l.getLastD (0,0)) hG;rw[hyes pc2 L hG hc1];refine eL ?_;refine dZ (bX (vs:=[.slice X.Ac (J L.code) X.cc,.i 0,.i 0,.i 0,.i 0,.slice none 0 0,.slice none 0 0,.i L.flags,.w 0,.i L.target,.i L.branch,.w 0,.i (J l:Int),.i 0]) ir ir py) (cq Zh I) I ?_;refine ZN λb9=>?_
 refine jb ?_;refine ZL ?_;refine An ?_;refine cj (λq:Int×Int=>[(1,.slice A (J l) c),(4,.p b4),(6,.p b26),(9,.p b9)]) (λq=>[pg0 b4]++VL b26 (J l:Int) L X++[row b9 [.slice X.Ac (J L.code) X.cc,.i 0,.i 0,.i 0,.i 0,.slice none 0 0,.slice none 0 0,.i L.flags,.w q.1,.i L.target,.i L.branch,.w q.2,.i (J l:Int),.i 0] 308]) (λq=>y8 pc2 L (l.getLastD (0,0)) (J l)=⟨L.code,L.d.S2,L.r.S2,L.d.high,L.r.high,L.d.l,L.r.l,L.flags,q.1,L.target,L.branch,q.2,J l,J L.code⟩) ?_ ?_
 .refine UQ ?_;refine sb ?_;obtain⟨ad,had⟩:=h.some_ (show 0<J l by omega);have h2:=h;rw[had]at h2;obtain⟨x,hx⟩:∃x,l[J l - 1]? =some x:=⟨_,ak O⟩;have hlast:=PN hx;rw[hlast];obtain⟨op,nn⟩:=x;refine Zy (iy (j:=J l - 1) had I ir (Zv I) (Zv I) UL UL) ?_;refine dZ (bX (vs:=[.i op,.w nn]) ir ir py) (fB h2 (λi v hi=>fw (f:=Jl) ir (i:=i) hx hi)) I ?_;refine ZN λb10=>?_
  refine ZM ?_;refine oO ?_;refine ZW ?_ ?_<;>intro hc15
  .refine UK ?_;refine UZ (λw hi=>Dg nn w) ?_;refine kZ ?_;refine lx ?_;refine An ?_;refine Vd ((⟨V9 .u32 (pc2+jN nn),0⟩:Int×Int)) (by unfold y8;grind)
  refine Wp ?_ ?_<;>intro hc17
  .refine UK ?_;refine UZ (λw hi=>Dg nn w) ?_;refine kZ ?_;refine lx ?_;refine An ?_;refine Vd ((⟨pc2,V9 .u32 (pc2+jN nn)⟩:Int×Int)) (by unfold y8;grind)
  refine An ?_;refine Vd ((⟨pc2,0⟩:Int×Int)) (by unfold y8;grind)
 rintro⟨nx,tk⟩ hq;dsimp only at hq|-;rw[hq]at hraw2|-;have hl500:=hsm;refine Zs (bQ (WM [21,23,25,27] (m5 b26 (D2 (J l:Int) L X))) Zk ?_);refine lO ?_;refine UE 2 14 ?_;refine UE 3 1 ?_;refine eY 4 I Zk Zk Zk (bO ir py) (dx I) (bP (t:=351) Zh) I (qM ?_);refine UE 7 18 ?_;refine UE 8 1 ?_;refine eY 9 I Zk Zk Zk (bO ir py) (dx I) (bP (t:=351) Zh) I (ZE 10 ?_);refine ZE 11 ?_;refine UE 12 14 ?_;refine UE 13 2 ?_;refine eY 14 I Zk Zk Zk (bO ir py) (dx I) (bP (t:=351) Zh) I (ZE 15 ?_);refine ZE 16 ?_;refine UE 17 18 ?_;refine UE 18 2 ?_;refine eY 19 I Zk Zk Zk (bO ir py) (dx I) (bP (t:=351) Zh) I (UE 20 1 ?_);refine cP 21 Zk (Jh ?_);refine UR ?_;refine UE 22 2 ?_;refine cP 23 Zk (Jh ?_);refine UR ?_;refine UE 24 3 ?_;refine cP 25 Zk (Jh ?_);refine UR ?_;refine UE 26 4 ?_;refine cP 27 Zk (Jh ?_);refine UR ?_;refine pk ?_;refine bQ (WM [11,13] (m5 b26 (D2 (J l:Int) L X))) Zk (lO ?_);refine UE 2 14 ?_;refine UE 3 0 ?_;refine eY 4 I Zk Zk Zk (bO ir py) (dx I) (bP (t:=351) Zh) I (qM ?_);refine UE 7 18 ?_;refine UE 8 0 ?_;refine eY 9 I Zk Zk Zk (bO ir py) (dx I) (bP (t:=351) Zh) I (UE 10 5 ?_);refine cP 11 Zk (Jh ?_);refine UR ?_;refine UE 12 6 ?_;refine cP 13 Zk (Jh ?_);refine UR ?_;refine fh ?_;refine US ?_;refine ZL ?_;refine UQ ?_;refine Vl (λw hi=>OC ⟨L.code,L.d.S2,L.r.S2,L.d.high,L.r.high,L.d.l,L.r.l,L.flags,nx,L.target,L.branch,tk,J l,J L.code⟩ ⟨X.Ac,X.cc,X.Ad,X.cd,X.Ar,X.cr⟩ hraw2 I (aN hsm.code O) (aN hsm.dl O) (aN hsm.rl O) w ⟨hi.rd Zh,hi.rd Zh,hi.rd Zh⟩) ?_;rintro _ _ ⟨Q9,rfl,rfl⟩;refine ij ?_;obtain⟨p9,hp9⟩:=Do (cG ⟨L.code,L.d.S2,L.r.S2,L.d.high,L.r.high,L.d.l,L.r.l,L.flags,nx,L.target,L.branch,tk,J l,J L.code⟩);rw[hp9];exact bK [row b4 _ _,slv 366 5 Q9.Ac (J p9.code) Q9.cc (p9.code.flatMap II.cells),sl .i64 3 Q9.Ad (J p9.S9) Q9.cd p9.S9,sl .i64 3 Q9.Ar (J p9.Ta) Q9.cr p9.Ta] Zj (sW (cs':=[slv _ _ _ _ _ _,slv _ _ _ _ _ _,slv _ _ _ _ _ _]) (.inl I) Zu I I I Zh ir ir ⟨Q9,I,I⟩)
theorem BL{pc:Int}(hu:∀i,i∈l->u32 i.2){p:Pg}(hlow:fK pc l=some p):tJ p/\p.count=J l/\1<=J l/\J l<=8/\(p.Tf=true->gt (gC p (dU p))/\J (gC p (dU p))<=100000):=by
 unfold fK at hlow;cases hlen:decide ((J l:Int)<1)||decide (8<(J l:Int))with
 |true=>rw[hlen]at hlow;cases hlow
 |false=>
 rw[hlen,ac]at hlow;simp only[aZ,aa]at hlen;have hl0:l≠[]:=λe=>by rw[e]at hlen;simp at hlen
 cases hgo:nI pc Lw.init l with
 |none=>rw[hgo]at hlow;cases hlow
 |some q=>
 rw[hgo]at hlow;obtain⟨nx,w⟩:=q;obtain rfl:=aF hlow;obtain⟨lk, -,hnx⟩:=tV l pc Lw.init _ hu hgo vg;have hnx:=hnx hl0;have hsm:=FB l pc Lw.init _ 0 hgo Kg;dsimp only at lk hnx hsm;obtain⟨i,hi⟩:=Do (l.getLastD (0,0));rw[hi];obtain⟨p0,hp0⟩:=Do (y8 nx w i (J l));rw[hp0];have f1:p0.code=w.code:=by rw[<-hp0];rfl
 have f2:p0.S9=w.d.l:=by rw[<-hp0];rfl
 have f3:p0.Ta=w.r.l:=by rw[<-hp0];rfl
 have g5:(cG p0).next=bif i.1==32||i.1==38 then V9 .u32 (nx+jN i.2)else nx:=by rw[<-hp0];rfl
 have g6:(cG p0).taken=bif i.1==32||i.1==38 then 0 else bif w.branch !=0 then V9 .u32 (nx+jN i.2)else 0:=by rw[<-hp0];rfl
 have g8:(cG p0).count=J l:=by rw[<-hp0];rfl
 have hlen4:=vh l pc Lw.init _ hgo;have hlen5:J w.code<=32:=by have:J Lw.init.code=0:=rfl;dsimp only at hlen4;omega
 have hlen6:(cG p0).code.length<=64:=by
  exact Wq303
 have himc:Ym (cG p0).code:=B6 (gI p0) p0.code 0 _ [] (λ_ h=>by cases h) (by rw[f1];exact lk.imm);have hn32:u32 (cG p0).next:=by rw[g5];cases i.1==32||i.1==38 with|true=>exact xj _|false=>exact hnx
 have ht32:u32 (cG p0).taken:=by
  have z:u32 0:=⟨by decide,by decide⟩;rw[g6];cases i.1==32||i.1==38 with
  |true=>exact z
  |false=>cases w.branch !=0 with
   |true=>exact xj _
   |false=>exact z
 have hd:=hsm.dl;have hr:=hsm.rl;have fit:tJ (cG p0):=⟨I,hlen6,by show(dW _ p0.S9).length<=100;unfold dW;rw[List.length_map,f2];omega,by show(dW _ p0.Ta).length<=100;unfold dW;rw[List.length_map,f3];omega,himc⟩;refine⟨fit,g8,by omega,by omega,λhright=>?_⟩;obtain⟨pok, -, -, -⟩:=uS hright himc hlen6 hn32 ht32;have hplan:NU (dU (cG p0)) (gx (cG p0)) (cG p0).code.length:=KQ (λi hi=>Ly (cG p0) hi) hlen6;refine⟨Iy pok I hplan.has,?_⟩;have:=zU (cG p0) (dU (cG p0)) (V9 .u32 (J (fU (cG p0) (dU (cG p0)) 0):Nat)) hlen6 fit.S9 fit.Ta;unfold gC;rw[ar,aE,bD];omega
end
end Go.Ink
namespace Go.Ink
open List renaming length→J
open IntKind renaming wrap→V9
open Go.RowKit Go.Proofs.Tryz
variable{w:World}
variable{q:Ky}
section
attribute [local irreducible] Ve bN
variable{E:Vy}
variable{b:Li}{l:List (Int×Int)}{sz:Nat}
variable{k:Nat}
variable{z:Nat}{i:Int×Int}
variable{k:Ky}
variable{RZ:List (Ky×RS)}
variable{E:VB}
variable{r:Rn}
variable{en:Bool}
theorem Ql(be:Nat)(E:Vy)(hE:mw E)(k:Ky)(hk:lD k)(A:Oa)(c:Nat)(b:Li)(hb:Vh b)(hbl:J b<=1000)(w:World)(hi:Inv w (bM (Vt be E)) (Vt be E) w)(h:∀w',dc (bM (Vt be E)) w w'->Rd w' .u8 A (J b) c b):
  UW prog 145 [.p be,.agg (cD k).toArray,.slice A (J b) c] w (Vt be E) (λv cs=>∃E',mw E'/\E'.eng=(lE E.eng k b).2/\FindR be (lE E.eng k b).1 E' v cs):=by
 have HF:=M3 E.bc E.room E.X hE.ca.sm k;have FK:=λy h1 h2=>Mu (E:=E) (k:=k) (b:=b) (y:=y) h1 h2
 obtain⟨o,ho⟩:=Do ((E.X.Z.find? λx=>x.key==k));have FN:=Qc (E:=E) (k:=k) (b:=b) ho;rw[ho]at HF FK;have HG:=qB hE.eg (k:=k) hb;have hxr:Vh (gr E.RZ k RS.zero).r.bytes:=by
  rcases Km E.RZ k with e|⟨y,hy,e⟩
  .rw[e];exact λx hx=>nomatch hx
  rw[<-e];exact(hE.rs y hy).2.2
 have hxrd:=λ(w:World) h=>run_rd (w:=w) (RZ:=E.RZ) (k:=k) h
 obtain⟨x,hx⟩:=Do (gr E.RZ k RS.zero);rw[hx]at FK FN hxr hxrd;have HP:=MA A c b hb hbl;obtain⟨⟨l,sz,en⟩,hR⟩:=Do (cQ b 8 0);have hu:∀i,i∈l->u32 i.2:=by
  have:=(mM b 8 0).1.u32 hb;rw[hR]at this;exact this
 rw[hR]at HP;dsimp only at HP;have HL:=λA1 c1 w h=>LX k.1 A1 c1 l hu w h
 obtain⟨lo,hlo⟩:=Do (fK k.1 l);rw[hlo]at HL;have hcap:=(h w (dc.refl _ _)).cap;refine Vb func145 ntmps145 hi ?_;refine An ?_;refine ZO λb4=>?_;refine ZN λb6=>?_
 refine ZN λb7=>?_
 refine UN ?_;refine cj (λq:BA×Nat=>[(0,.p be),(2,.slice A (J b) c),(4,.p b4),(6,.p b6),(7,.p b7),(9,.p q.2),(10,.bool o.isSome)]) (λq=>Vt be E++[VZ q.1,row b4 (cD k) 173,row b6 (BA.cells ⟨⟨(0,0),[],0⟩,none,0⟩) 262,row b7 (RS.cells RS.zero) 180,row q.2 (BA.cells q.1) 262]) (λq=>∀x,o=some x->q.1.b=x.b) ?_ ?_
 .refine iC (Vg [5,10]) [(0,0),(1,0),(2,0),(3,1),(4,1),(5,3),(6,3),(7,3),(8,3),(9,3),(10,3),(11,3)] Zk Zk (tD ?_);refine RF ?_;refine qX I Zh ir ir (Zv I) I (GI [(5,[(6,0),(7,0),(8,0),(9,2),(10,2),(11,0)]),(9,[(5,2),(6,0),(7,0),(8,0),(10,2),(11,0)])] Zk (.cons ?_ (.cons ?_ .nil)))
  .refine I6 ?_;rintro _ _ ⟨_,⟨y,rfl,rfl,hy⟩,rfl⟩;refine XN ?_;refine et ?_;refine yi ?_;rintro _ _ ⟨b9,rfl,rfl⟩;refine CH ?_;refine UR ?_;refine IT ?_;refine Vd ((y,b9)) hy
  refine yi ?_;rintro _ _ ⟨b9,rfl,rfl⟩;refine et ?_;refine I6 ?_;rintro _ _ ⟨_,⟨y,rfl,rfl,hy⟩,rfl⟩;refine XN ?_;refine CH ?_;refine UR ?_;refine IT ?_;refine Vd ((y,b9)) hy
 rintro⟨y,b9⟩ hy;dsimp only at hy|-;refine Zs (cj (λq:Nat=>[(0,.p be),(2,.slice A (J b) c),(4,.p b4),(6,.p b6),(7,.p b7),(9,.p b9),(10,.bool o.isSome),(11,.p q)]) (λq=>Vt be E++[VZ y,row b4 (cD k) 173,row b6 (BA.cells ⟨⟨(0,0),[],0⟩,none,0⟩) 262,row b7 (RS.cells RS.zero) 180,row b9 (BA.cells y) 262,row q (RS.cells x) 180]) (λ_=>True) ?_ ?_)
 .refine iC (Vg [7]) [(0,0),(1,0),(2,0),(3,1),(4,1),(5,3),(6,3),(7,3)] Zk Zk (Ν ?_);refine qX I Zh ir ir (Zv I) I (GI [(5,[(6,2),(7,2)]),(6,[(5,2),(7,2)])] Zk (.cons ?_ (.cons ?_ .nil)))
  .refine Wq368 ?_;refine yi ?_;rintro _ _ ⟨b11,rfl,rfl⟩;refine et ?_;rw[run_v E.RZ k,hx];refine CF ?_;refine UR ?_;refine jU (Vd (b11) gh)
  refine yi ?_;rintro _ _ ⟨b11,rfl,rfl⟩;refine et ?_;refine Wq368 ?_;rw[run_v E.RZ k,hx];refine CF ?_;refine UR ?_;refine jU (Vd (b11) gh)
 rintro b11 -;refine US ?_;refine dC (bS I I) (.cons (cO I) (.cons (cO I) .nil)) (λ_ _=>I) (λhg w hi=>BY A x.A c x.c b x.r.bytes hb hxr w (h w hi.To) (hxrd w (hi.get (UJ (dm (Xf E.RZ)))))) I (VP ?_ ?_)<;>intro hc3
 .have h9:(o.isSome&&x.r.bytes.isPrefixOf b)=true:=hc3;rw[ay]at h9;obtain⟨y0,rfl⟩:=Option.isSome_iff_exists.1 h9.1;have hfk:=FK y0 I h9.2;have hyb:=hy y0 I;refine Zs (bQ (WM [2,3] (m5 b11 (RS.cells x))) Zk ?_);refine RJ ?_;refine fq I I (cL ir I I (mW y) Za mS) QT ?_;refine UR ?_;refine cP 3 Zk (fq I I (cL ir I I (nB x) Za mS) QT ?_);refine UR ?_;refine ZE 4 ?_;refine fh ?_;refine UN ?_;exact bK (row b6 (BA.cells y) 262::row b7 (RS.cells x) 180::VZ y::Vt be E) Zj (xw (cs':=VZ y::Vt be E) (.inl I) (List.Sublist.cons _ (List.Sublist.cons _ (aL _))) I I I I Zh Zh ir ir ir ir ⟨E,hE,by rw[hfk],by rw[hfk];exact⟨y,x,I,I,λt r e=>by grind⟩⟩)
 have hnk:=FN hc3;refine UQ ?_;refine Vl (λw hi=>HP w (h w hi.To)) ?_;rintro _ _ ⟨A1,c1,x2,hx2,rfl,rfl⟩;refine UN ?_;refine ZN λb13=>?_
 refine ZA ?_;refine eA (cL ir I I (nB x2) Za mS) ?_;refine UR ?_;refine UN ?_;rcases lo with _|p
 .have hfn:=xT hnk (Lh hR hlo);refine UK ?_;refine UZ (λw hi=>HL A1 c1 w (hi.rd (UJ (slv 51 2 A1 (J l) c1 (l.flatMap Jl))))) ?_;refine UN ?_;refine ZN λb14=>?_
  refine qN ?_;exact Wx76_
 obtain⟨hfit,hcnt,hl1,hl8,hgo⟩:=BL hu hlo;refine UK ?_;refine Vl (λw hi=>HL A1 c1 w (hi.rd (UJ (slv 51 2 A1 (J l) c1 (l.flatMap Jl))))) ?_;rintro _ _ ⟨Q,rfl,rfl⟩;refine UN ?_;refine ZN λb14=>?_
 refine qN ?_;refine lN ?_;refine UN ?_;rcases hrb:p.Tf with _|_
 .have hfn:=xT hnk (Px hR hlo hrb);refine An ?_;refine UZ (λw hi=>MJ p Q hfit hrb w ⟨hi.rd (UJ (slv 366 5 Q.Ac (J p.code) Q.cc (p.code.flatMap II.cells))),hi.rd (UJ (sl .i64 3 Q.Ad (J p.S9) Q.cd p.S9)),hi.rd (UJ (sl .i64 3 Q.Ar (J p.Ta) Q.cr p.Ta))⟩) ?_;refine kF ?_;exact Wx76_
 have hfm:=Mt hnk (Pw hR hlo hrb);obtain⟨hgd,hCl⟩:=hgo hrb;have hCne:=Qz p (dU p);have HE:=Qm p Q hfit hrb hgd;obtain⟨C,hC⟩:=Do (gC p (dU p));rw[hC]at hfm hgd hCl hCne HE;have hnew:lD k/\J x2.r.bytes<=1000/\Vh x2.r.bytes:=(by rw[hx2];exact⟨hk,by grind,λz hz=>hb z (aM hz)⟩);refine An ?_;refine Vl (λw hi=>HE w ⟨hi.rd (UJ (slv 366 5 Q.Ac (J p.code) Q.cc (p.code.flatMap II.cells))),hi.rd (UJ (sl .i64 3 Q.Ad (J p.S9) Q.cd p.S9)),hi.rd (UJ (sl .i64 3 Q.Ar (J p.Ta) Q.cr p.Ta))⟩) ?_;rintro _ _ ⟨A3,c3,rfl,rfl⟩;refine r7 ?_;refine U8 ?_;refine eA (cL ir I I (mW ⟨⟨k,C,(J l:Int)⟩,A3,c3⟩) Za mS) ?_;refine UR ?_;refine UN ?_;refine bQ (Vg [5]) Zk (nZ ?_);refine ZG 3 ?_;refine ZI 4 ?_;refine cP 5 Zk (rX (VQ E.bc E.room E.X) (λw hi hin=>cput_ok E.bc E.room E.X hE.ca ⟨⟨k,C,(J l:Int)⟩,A3,c3⟩ ⟨hCl,hk⟩ (show(1:Int)<=(J l:Int) by omega) hCne w hin (λw' hk'=>cY (hi.TM Zi (UJ (sl .u8 5 A3 (J (cH C)) c3 (cH C))) hk'))) ?_);rintro _ _ ⟨X',rfl,hX',hXZ⟩;refine pk ?_;refine bQ (Vg [6]) Zk (wx ?_);refine ZG 3 ?_;refine ZI 4 ?_;refine ZI 5 ?_;refine cP 6 Zk (fq I I (t_mput I I I hk I D6 Za) ZJ ?_);refine UR ?_;rw[rnV_put E.RZ k x2];refine fh ?_;refine UN ?_;refine bQ (Vg [9]) Zk (wx ?_);refine qM ?_;refine UE 7 0 ?_;refine ZG 8 ?_;refine cP 3 Zk (m4 ?_);refine cP 4 Zk (un I (y_mlen (Zv I) I) (λw hi=>(show oc E.mr (Xe (dS E.RZ k x2)) w from hi.get (UJ (V0 E.mr (Xe (dS E.RZ k x2)))))) I (kt ?_));refine rX (VQ E.bc E.room X') (λw hi hin=>MX E.bc E.room X' w hin) ?_;refine UR ?_;refine ZE 10 ?_;refine tC ?_;refine ZW ?_ ?_<;>intro hc15
 .have hd:decide ((J X'.Z:Int)<(J (dS E.RZ k x2):Int))=true:=Wq458
  have had:=Nl E X' ⟨k,C,(J l:Int)⟩ x2 hXZ;dsimp only at had;rw[hd,ah,hx2]at had;refine Zr (xd (cin:=Xf E.RZ) (cin':=ss E.RZ k) Zd (xv E.RZ k) ?_);refine GL (cin:=ss E.RZ k) (c:=rsC x2) (cin':=Xf (dS E.RZ k x2)) Zd Zd (rnPut E.RZ k x2) (ZA ?_);refine Ws (Vt be ((E.TA X').TD (dS E.RZ k x2))) (λw hi hin=>F8 be ((E.TA X').TD (dS E.RZ k x2)) hX'.sm (LH k x2 hE.rk) (λy hy=>(yR hy).elim (λe=>by grind) (λhy=>(hE.rs y hy).1)) w hin) ?_;rintro _ _ ⟨_,rfl,rfl⟩;refine Wq402 ?_;refine UR ?_;refine cP 3 Zk (fq I I (cL ir I I (nB x2) Za mS) QT ?_);refine UR ?_;refine ZE 4 ?_;refine pk ?_;refine bK (row b6 (BA.cells ⟨⟨k,C,(J l:Int)⟩,A3,c3⟩) 262::row b7 (RS.cells x2) 180::VZ ⟨⟨k,C,(J l:Int)⟩,A3,c3⟩::Vt be ((E.TA X').TD (oQ X'.Z (dS E.RZ k x2)))) Zj (xw (cs':=VZ ⟨⟨k,C,(J l:Int)⟩,A3,c3⟩::Vt be ((E.TA X').TD (oQ X'.Z (dS E.RZ k x2)))) (.inl I) (List.Sublist.cons _ (List.Sublist.cons _ (aL _))) I I I I Zh Zh ir ir ir ir ?_);rw[hfm]at HG|-;exact⟨(E.TA X').TD (oQ X'.Z (dS E.RZ k x2)),⟨hX',by grind,λy hy=>(yR (List.mem_filter.1 hy).1).elim (λe=>by grind) (λhy=>hE.rs y hy),hE.last⟩,had,⟨⟨⟨k,C,(J l:Int)⟩,A3,c3⟩,x2,I,I,λt r e=>by grind⟩⟩
 have hd:decide ((J X'.Z:Int)<(J (dS E.RZ k x2):Int))=false:=Wq458
 have had:=Nl E X' ⟨k,C,(J l:Int)⟩ x2 hXZ;dsimp only at had;rw[hd,ac,hx2]at had;refine Wq402 ?_;refine UR ?_;refine cP 3 Zk (fq I I (cL ir I I (nB x2) Za mS) QT ?_);refine UR ?_;refine ZE 4 ?_;refine pk ?_;refine mL (cin:=Xf E.RZ) (cin':=ss E.RZ k) Zd (xv E.RZ k) (kM (cin:=ss E.RZ k) (c:=rsC x2) (cin':=Xf (dS E.RZ k x2)) Zd Zd (rnPut E.RZ k x2) (bK (row b6 (BA.cells ⟨⟨k,C,(J l:Int)⟩,A3,c3⟩) 262::row b7 (RS.cells x2) 180::VZ ⟨⟨k,C,(J l:Int)⟩,A3,c3⟩::Vt be ((E.TA X').TD (dS E.RZ k x2))) Zj (xw (cs':=VZ ⟨⟨k,C,(J l:Int)⟩,A3,c3⟩::Vt be ((E.TA X').TD (dS E.RZ k x2))) (.inl I) (List.Sublist.cons _ (List.Sublist.cons _ (aL _))) I I I I Zh Zh ir ir ir ir ?_)));rw[hfm]at HG|-;exact⟨(E.TA X').TD (dS E.RZ k x2),⟨hX',by grind,λy hy=>(yR hy).elim (λe=>by grind) (λhy=>hE.rs y hy),hE.last⟩,had,⟨⟨⟨k,C,(J l:Int)⟩,A3,c3⟩,x2,I,I,λt r e=>by grind⟩⟩
end
end Go.Ink
