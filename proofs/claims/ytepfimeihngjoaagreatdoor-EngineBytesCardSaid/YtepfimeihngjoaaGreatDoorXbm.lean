/- Lemmas. -/
import Derived.Test.YtepfimeihngjoaaGreatDoorXbl
set_option linter.all false
set_option maxRecDepth 100000
set_option maxHeartbeats 4000000
namespace Go.Ink
open List renaming length→J, replicate→R9
open Go.RowKit
section
variable{C:Cx}{Q:lK}{fr:Fr}{cs:List bJ}{ops:Array Oper}{d:Nat}{op:Op}{ty:TypeId}{pos:String}{af:Array Edge}{gd:Option (Nat×Bool)}{v:Value}{g:Bool}{St:Dr}{fuel:Nat}{listed:Array Bool}
variable{i:Nat}{st:Bool}
variable{K:Value->List bJ->Prop}
theorem wi_tg(hi:ops[i]? =some ⟨some d,op,ty,pos,af,gd⟩)(hst:St.st i=st)
  (hg:bN ops fr ⟨some d,op,ty,pos,af,gd⟩ g) (hg1:g=true)
  (ht:VU C ⟨some d,op,ty,pos,af,gd⟩ fr cs st K) (hJ:st=true->∀v cs',K v cs'->∀w,Inv C.w0 C.S cs' w->cells St.l0 w) (hd:Nat.blt d C.N=true) (h:∀v cs',K v cs'->WA C St ops Q fuel (listed.setIfInBounds i true) ((d,v)::fr) cs'):WI C St ops Q fuel listed i fr cs:=λa w hf hi'=>by
 unfold wpOp
 rw[hi]
 simp only[hg _ a hf,hg1,if_true]
 exact Wq435
end
section
variable{C:Cx}{fr:Fr}{d:Option Nat}{ty T T':TypeId}{pos:String}{af:Array Edge}{gd:Option (Nat×Bool)}{g p:Bool}{x y:Operand}
theorem y_neqS{a b:ByteArray}(hT:C.P.underlying T=some .string)(hx:Ev fr g x (.string a))(hy:Ev fr g y (.string b))(hr:(a.data.toList !=b.data.toList)=p):Ve C ⟨d,.binOp .neq T x y T',ty,pos,af,gd⟩ fr g Vr (.bool p):=λA w hf _ hg=>by
 subst hr
 rw[<-ByteArray.toList_eq a,<-ByteArray.toList_eq b]
 have:(binOp .neq T (.string a) (.string b)).run C.P w= .ok (.bool (a.toList !=b.toList)) w:=rfl
 simp[execOp,hx.eval hf hg,hy.eval hf hg,this,eqGuard]
end
end Go.Ink
namespace Go.Ink
open List renaming length→J
open IntKind renaming wrap→V9
open Go.RowKit Go.Proofs.Tryz
variable{w:World}{xs:List Value}
section
variable{C:Cx}{fr:Fr}{d:Option Nat}{T T':TypeId}{x y:Operand}{ty:TypeId}{pos:String}{af:Array Edge}{gd:Option (Nat×Bool)}{g:Bool}
variable{xs ys:Array Value}
theorem y_neqT(hm:C.P.eqGuardType C.P.depth T=false)(he:Yr C.P 10000 T (.agg xs) (.agg ys))(hx:Ev fr g x (.agg xs))(hy:Ev fr g y (.agg ys)):Ve C ⟨d,.binOp .neq T x y T',ty,pos,af,gd⟩ fr g Vr (.bool false):=λA w hf _ hg=>by
 simp[execOp,hx.eval hf hg,hy.eval hf hg,run_eqGuard_agg w _ _ _ _ _ _ hm,run_neq_struct,he w,Result.andThen]
end
variable{i:Nat}{listed:Array Bool}
variable{ops:Array Oper}
section
variable{C:Cx}{Q:lK}{fr:Fr}{cs:List bJ}{ops:Array Oper}{d:Nat}{op:Op}{ty:TypeId}{pos:String}{af:Array Edge}{gd:Option (Nat×Bool)}{v:Value}{g:Bool}{St:Dr}{i:Nat}{s:List (Nat×Nat)}
variable{st:Bool}{K:Value->List bJ->Prop}
theorem lP(hi:ops[i]? =some ⟨some d,op,ty,pos,af,gd⟩)(hst:St.st i=st)
  (hg:bN ops fr ⟨some d,op,ty,pos,af,gd⟩ g) (hg1:g=true)
  (ht:VU C ⟨some d,op,ty,pos,af,gd⟩ fr cs st K) (hJ:st=true->∀v cs',K v cs'->∀w,Inv C.w0 C.S cs' w->cells St.l0 w) (hd:Nat.blt d C.N=true) (h:∀v cs',K v cs'->WS C St ops Q s ((d,v)::fr) cs'):WSI C St ops Q i s fr cs:=λfuel listed h1 h2 h3 h4=>
 wi_tg hi hst hg hg1 ht hJ hd λv cs' hk=>h v cs' hk fuel _ h1 h2 h3 h4
theorem nh{F:Prop}(hf:∀w,Inv C.w0 C.S cs w->F)(h:F->WS C St ops Q s fr cs):WS C St ops Q s fr cs:=λfuel listed h1 h2 h3 h4 a w hfr hi=>h (hf w hi) fuel listed h1 h2 h3 h4 a w hfr hi
end
section
attribute [local irreducible] Ve bN
theorem St.Uf(a:St):a.Uh a=true:=(St.T7 a a).2 I
theorem iL.nil_(w:World){s:St}(hd:s.d=[])(hr:s.r=[]):iL w s none none 0 0:=by
 obtain⟨pc,d,r,f3,f4,f5,f6,f7,f8,f9,f10,f11,f12,f13,f14,f15⟩:=s;simp only at hd hr;subst hd hr;exact⟨⟨I,by simp,by simp,by simp,by simp⟩,⟨rfl,by simp,by simp,by simp,by simp⟩,by simp,by simp⟩
end
end Go.Ink
namespace Go.Ink
open List renaming length→J, replicate→R9
open IntKind renaming wrap→V9
open Go.RowKit Go.Proofs.Tryz
variable{j:Nat}
section
attribute [local irreducible] Ve bN
theorem tat_ok(bb:Nat)(T:List TE)(hT:J T=16)(i:Nat)(hi16:i<16)(w:World)(h:(CO bb T).ok w):CW prog 132 [.p bb,.i i] w ((T.getD i TE.zero).v):=by
 have he:T[i]? =some (T.getD i TE.zero):=by simp[show i<J T by omega]
 obtain⟨e,hee⟩:=Do (T.getD i TE.zero);rw[hee]at he|-;refine UV func132 ntmps132 ?_;refine An ?_;refine ZN λb4=>?_;refine mv ?_;refine cK I ((by rw[ao (show¬(i:Int)<0 by omega),ao (show¬(16:Int)<=i by omega)];rfl)) (Va ?_);refine Zy (dj (j:=i) (sz:=4) (r:=i*4) I ir (Zv I) (Zv I) UL UL O) ?_;refine dZ (bX (vs:=e.cells) ir ir py) (oE (o:=i*4) h (gK he)) I (oV ?_);exact EC
theorem ubuf_ok(bu bm bb:Nat)(w:World)(h:(JH bu bm bb).ok w):CW prog 130 [.p bu] w (.p bb):=by
 refine UV func130 ntmps130 ?_;refine ww ?_;exact mZ
end
end Go.Ink
namespace Go.Ink
open List renaming length→J, replicate→R9
open IntKind renaming wrap→V9
open Go.RowKit Go.Proofs.Tryz
section
attribute [local irreducible] Ve bN
theorem Le(A:Oa)(c n:Nat)(l:Li)(hn0:1<=n)(hn:n<=64)(hl:J l<=n*64)(hb:Vh l)(w:World)(h:Rd w .u8 A (J l) c l):UW prog 87 [.slice A (J l) c,.i n] w []
  (λv cs=>∃L,L.n=n/\v= .p L.bm/\cs=[fM L (UO.init n l)]):=by
 have HN:=λbp w (hi:Inv w (bM [ft bp (R9 16384 0) (R9 256 (-1)) (R9 4 (-1))]) [ft bp (R9 16384 0) (R9 256 (-1)) (R9 4 (-1))] w)=>K5 bp (R9 16384 0) (R9 256 (-1)) (R9 4 (-1)) ⟨az,az,I⟩ 0 n ne hn0 hn I (by rw[show nv (R9 4 (-1)) 4=0 from I];omega) (by intro x hx;rw[List.eq_of_mem_replicate hx];decide) w hi
 have HE:=UO.UA hl;obtain⟨W0,hW0⟩:=Do (R9 256 (-1:Int));obtain⟨B0,hB0⟩:=Do (R9 16384 (0:Int));obtain⟨P0,hP0⟩:=Do ((R9 4 (-1:Int)).set 0 n);have HF:=zF;rw[hB0,hW0]at HF HN;rw[hP0]at HN;have HM:∀bp bt bf bg bm,eT (⟨bp,bt,bf,bg,bm,0,n,W0,B0,P0⟩) (UO.new n) ⟨B0,W0,P0,R9 n (-1),R9 n false⟩:=λbp bt bf bg bm=>by
  subst hW0 hB0 hP0;exact eT.new (L:=⟨bp,bt,bf,bg,bm,0,n,R9 256 (-1),R9 16384 0,(R9 4 (-1)).set 0 n⟩) (show(0:Nat)<4 by decide) hn0 hn (pr:=R9 4 (-1)) ⟨az,az,az⟩ rfl (λx hx=>by rw[List.eq_of_mem_replicate hx];show(-1:Int)≠0;decide) (FX (aN (show n<=240 by omega) (show 240<=J ((List.range' 16 240).filter (λf=>(R9 256 (-1:Int))[f]? ==some (-1))) by decide+kernel)))
 refine UV func87 ntmps87 ?_;refine US ?_;refine Vl (λw hi=>HF w) ?_;rintro _ _ ⟨bp,rfl,rfl⟩;refine eL ?_;refine lN ?_;refine UU ?_;refine dH ([ft bp B0 W0 (R9 4 (-1))]) (λw hi hin=>HN bp w hin) ?_;rintro _ _ ⟨bt,bf,bg,rfl,rfl⟩;refine wn ?_;refine lN ?_;refine UU ?_;refine Vl (λw hi=>Kp bp bt w) ?_;rintro _ _ ⟨bm,rfl,rfl⟩;refine eL ?_;refine yt (bs:=[bp,bt,bf,bg,bm]) (F:=Ib ⟨bp,bt,bf,bg,bm,0,n,W0,B0,P0⟩ (R9 64 false)) (hb:=λ_=>I) (p:=eT ⟨bp,bt,bf,bg,bm,0,n,W0,B0,P0⟩ (UO.new n)) ⟨B0,W0,P0,R9 n (-1),R9 n false⟩ (HM bp bt bf bg bm) Zi (U8 ?_);refine gm (bR I I) I (dh ([fM ⟨bp,bt,bf,bg,bm,0,n,W0,B0,P0⟩ (UO.new n)]) I (λ_ _=>I) Zi (λw hi hin=>Fj ⟨bp,bt,bf,bg,bm,0,n,W0,B0,P0⟩ (UO.new n) A c l hl hb w hin (λw' hk=>U5.Th h hi Zi hk))) I ?_;refine Vz ?_;refine UK ?_;refine j6 ?_;refine Vq ([fM ⟨bp,bt,bf,bg,bm,0,n,W0,B0,P0⟩ ((UO.new n).fill 0 l (J l))]) (λw hi hin=>y7 ⟨bp,bt,bf,bg,bm,0,n,W0,B0,P0⟩ ((UO.new n).fill 0 l (J l)) w hin) ?_;rw[HE];refine U8 ?_;refine VA ([Wg _ _ _ _]) ?_;exact⟨⟨bp,bt,bf,bg,bm,0,n,W0,B0,P0⟩,I,I,I⟩
end
end Go.Ink
namespace Go.Ink
open List renaming length→J
open IntKind renaming wrap→V9
open Go.RowKit Go.Proofs.Tryz
section
attribute [local irreducible] Ve bN
theorem Qf(e:TE):Yr prog 10000 92 e.v e.v:=
 .struct rfl Zk (XC.cons ne ir ir (.bool rfl) (XC.cons ne ir ir (.int rfl) (XC.cons ne ir ir (.int rfl) (XC.cons ne ir ir (.int rfl) XC.nil))))
theorem Ei:prog.eqGuardType prog.depth 92=false:=by kernel_rfl
end
end Go.Ink
namespace Go.Ink
open List renaming length→J, replicate→R9
open IntKind renaming wrap→V9
open Go.RowKit Go.Proofs.Tryz
variable{l:List (Int×Int)}{k:Nat}
section
attribute [local irreducible] Ve bN
structure EF where
 bw:Nat
 bu:Nat
 bb:Nat
 L:fF
 D:qV
 bg:Nat
 K:gi
 bx:Nat
 by_:Nat
 bd:Nat
variable{n:Nat}
abbrev Mm(F:EF)(s:St):bJ:=row F.bg (s.cells (.slice none 0 0) (.slice none 0 0)++[.p F.bx,.p F.by_]) 41
abbrev JC(F:EF)(s:St):bJ:=row F.bw ([.p F.bu,.p F.D.bs,.p F.L.bm]++(s.cells (.slice none 0 0) (.slice none 0 0)++[.p F.bg])) 70
abbrev r18F(F:EF)(n:Nat)(Z:dJ)(data:Li)(tu:List Bool)(T:List TE)(d:UF):List bJ:=nD F.K n data tu++[fv F.bx F.K.bm T]++eI F.by_ F.K.bm F.bd Z d
abbrev fr18(F:EF)(n:Nat)(l k:Li):List bJ:=JC F St.new::Mm F St.new::(VK F.bu F.bb F.L F.D ⟨none,0,none,0⟩ ⟨UO.init n l,cX⟩ (UF.init k)++r18F F n ⟨none,0,none,0⟩ (kL n l) (R9 n false) cX (UF.init k))
theorem xP(A B:Oa)(c e n:Nat)(l k:Li)(hn0:1<=n)(hn:n<=64)(hl:J l<=n*64)(hb:Vh l)(hk:J k<=1024)(w:World)(h:Rd w .u8 A (J l) c l)(hB:Rd w .u8 B (J k) e k):
  UW prog 26 [NZ A c l B e k n] w [] (λv cs=>∃F,F.L.n=n/\v= .p F.bw/\cs=fr18 F n l k):=by
 have H1:=Le A c n l hn0 hn hl hb;have H2:=λbm w h=>Cw bm B e k hk w h
 have H3:=pB A B c e n l k hn hl hk;unfold fr18;obtain⟨M,hM⟩:=Do (UO.init n l);obtain⟨d,hd⟩:=Do (UF.init k);obtain⟨data,hda⟩:=Do (kL n l);obtain⟨tu,htu⟩:=Do (R9 n false);rw[hM]at H1|-;rw[hd]at H2 H3|-;rw[hda,htu]at H3|-;refine UV func26 ntmps26 ?_;refine An ?_;refine ZO λb1=>?_;refine U8 ?_;refine Vl (λw hi=>H1 w (h.Tb hi)) ?_;rintro _ _ ⟨L,hL,rfl,rfl⟩;refine eL ?_;refine j6 ?_;refine Vl (λw hi=>BF L.bm w) ?_;rintro _ _ ⟨bu,bb,rfl,rfl⟩;refine fR ?_;refine Vl (λw hi=>H2 L.bm w (hB.Tb hi)) ?_;rintro _ _ ⟨D,rfl,rfl⟩;refine jS ?_;refine UU ?_;refine lN ?_;refine UN ?_;refine jf ?_;refine CA ?_;refine ZI 4 ?_;refine cP 3 Zk (V1 (λw hi=>Uc w) ?_);refine UR ?_;refine cP 5 Zk (V1 (λw hi=>H3 w (h.Tb hi) (hB.Tb hi)) ?_);rintro _ _ ⟨bg,K,bx,by_,bd,rfl,rfl⟩;refine ZE 6 ?_;refine iK ?_;refine wZ ?_;rintro _ _ ⟨b48,rfl,rfl⟩;refine ZE 8 ?_;refine pk ?_;refine bK (JC ⟨b48,bu,bb,L,D,bg,K,bx,by_,bd⟩ St.new::Mm ⟨b48,bu,bb,L,D,bg,K,bx,by_,bd⟩ St.new::(VK bu bb L D ⟨none,0,none,0⟩ ⟨M,cX⟩ d++r18F ⟨b48,bu,bb,L,D,bg,K,bx,by_,bd⟩ n ⟨none,0,none,0⟩ data tu cX d)) Zj (VA ((JC ⟨b48,bu,bb,L,D,bg,K,bx,by_,bd⟩ St.new::Mm ⟨b48,bu,bb,L,D,bg,K,bx,by_,bd⟩ St.new::(VK bu bb L D ⟨none,0,none,0⟩ ⟨M,cX⟩ d++r18F ⟨b48,bu,bb,L,D,bg,K,bx,by_,bd⟩ n ⟨none,0,none,0⟩ data tu cX d))) ?_);exact⟨⟨b48,bu,bb,L,D,bg,K,bx,by_,bd⟩,hL,I,I⟩
theorem nL(s t:St)(Ad Ar Bd Br:Oa)(cd cr ed er:Nat)(w:World)(h:iL w s Ad Ar cd cr)(h2:iL w t Bd Br ed er):
  CW prog 29 [sv s Ad cd Ar cr,sv t Bd ed Br er] w (.bool (s.Uh t)):=by
 have HS:=Fp s t Ad Ar Bd Br cd cr ed er;refine UV func29 ntmps29 ?_;refine An ?_;refine ZO λb2=>?_;refine ZO λb3=>?_
 exact Wq422
variable{α:Type}{l:List α}
variable{q:(St×UI×UF)×VB}
abbrev rC(a:Int):List (Int×Int):=[(1,a),(1,1),(17,0),(34,251),(4,0),(32,246)]
theorem BM:g9 (rC 3)=[1,3,1,1,17,34,251,4,32,246]:=by decide
def Sm(q:(St×UI×UF)×VB):Bool:=decide (40<=q.1.1.count)&&decide (0<q.2.Ti)&&decide (1<=J q.2.l)
theorem In:Sm (Kn 2 40 St.new ⟨UO.init 2 [1,3,1,1,17,34,251,4,32,246],cX⟩ (UF.init []) (VB.fresh 8))=true:=by decide+kernel
end
end Go.Ink
namespace Go.Ink
open List renaming length→J, replicate→R9
open IntKind renaming wrap→V9
open Go.RowKit Go.Proofs.Tryz
variable{d:UF}{c:Int}
variable{x k:Nat}
section
attribute [local irreducible] Ve bN
variable{n:Nat}{s:St}{U:UI}
def Sv(kind n:Int)(l:Li)(d:UF):UF:=bif eN kind 0 1000%3==1 then d.Tp (l.take 9)else bif eN kind 0 1000%3==2 then d.raise (eN n 0 7).toNat else d
theorem Eh(h:VN n s U d)(hi:VO d)(kind m:Int){l:Li}(hl:Vh l):VN n s U (Sv kind m l d)/\VO (Sv kind m l d)/\(Sv kind m l d).out=d.out:=by
 have hm:=h.lines.mask;have h64:=hi.i64;have hw:=h.dv.wf;unfold Sv;refine bL (λd':UF=>VN n s U d'/\VO d'/\d'.out=d.out) ?_ (bL (λd':UF=>VN n s U d'/\VO d'/\d'.out=d.out) ?_ ⟨h,hi,I⟩)
 .have hlen:J (d.inp++(l.take 9).take (d.Tz (l.take 9)))<=64:=by
   unfold UF.Tz;rw[ar,aO];omega
  have hb:Vh (d.inp++(l.take 9).take (d.Tz (l.take 9))):=λx hx=>(aJ.1 hx).elim (hw.Uo x) (λq=>hl x (aM (aM q)))
  exact⟨⟨h.wf,h.right,h.u,⟨⟨hb,hw.S8,hw.TP,hw.SS,hw.place,aN hlen ne⟩,bL u32 (dY .or d.S7 2) h.dv.S7,h.dv.mask,h.dv.timer,h.dv.status⟩,⟨hm⟩⟩,⟨hlen⟩,I⟩
 exact⟨⟨h.wf,h.right,h.u,⟨hw.re I I I I,dY .or d.S7 _,h.dv.mask,h.dv.timer,h.dv.status⟩,⟨hm⟩⟩,⟨h64⟩,I⟩
abbrev Yu(F:EF)(s:St)(X:dz):List Value:=[.p F.bu,.p F.D.bs,.p F.L.bm]++(s.cells (.slice X.Ad (J s.d) X.cd) (.slice X.Ar (J s.r) X.cr)++[.p F.bg])
abbrev g18L(F:EF)(s:St)(V:dz):List Value:=s.cells (.slice V.Ad (J s.d) V.cd) (.slice V.Ar (J s.r) V.cr)++[.p F.bx,.p F.by_]
abbrev Yd(F:EF)(s:St)(X:dz):bJ:=row F.bw (Yu F s X) 70
abbrev Yf(F:EF)(s:St)(V:dz):bJ:=row F.bg (g18L F s V) 41
abbrev Yg(F:EF)(s t:St)(X V:dz)(Y Z:dJ)(d:UF):List bJ:=Yd F s X::Yf F t V::(my F.D F.L.bm Y d++eI F.by_ F.K.bm F.bd Z d)
theorem Qd(F:EF)(s t:St)(X V:dz)(Y Z:dJ)(d:UF)(h64:J d.inp<=64)(kd n:Int)(B:Oa)(cb:Nat)(bs:Li)(w:World)(hi:Inv w (bM (Yg F s t X V Y Z d)) (Yg F s t X V Y Z d) w)
  (h:∀w',dc (bM (Yg F s t X V Y Z d)) w w'->Rd w' .u8 B (J bs) cb bs):
  UW prog 82 [.p F.bw,.agg (Xz.cells ⟨kd,n,B,cb,bs⟩).toArray] w (Yg F s t X V Y Z d) (λv cs=>∃Y' Z',v= .bool true/\cs=Yg F s t X V Y' Z' (Sv kd n bs d)):=by
 obtain⟨km,hkm⟩:=Do (eN kd 0 1000);have HW:=λw=>hkm▸fy kd 0 1000 w ne ne ne
 have hkr:=eM kd 0 1000 ne;obtain⟨nm,hnm⟩:=Do (eN n 0 7);have HV:=λw=>hnm▸fy n 0 7 w ne ne ne
 have hnr:=eM n 0 7 ne;rw[hkm]at hkr;rw[hnm]at hnr;obtain⟨nm,rfl⟩:∃m:Nat,nm=m:=aj hnr.1;obtain⟨km,rfl⟩:∃m:Nat,km=m:=aj hkr.1;have hr:=h w (dc.refl _ _);have hE:Sv kd n bs d=bif km%3==1 then d.Tp (bs.take 9)else bif km%3==2 then d.raise nm else d:=by
  unfold Sv;have e1:(((km%3:Nat):Int)==1)=(km%3==1):=jI (km%3) 1;have e2:(((km%3:Nat):Int)==2)=(km%3==2):=jI (km%3) 2;rw[hkm,hnm,show((km:Int)%3)=((km%3:Nat):Int) by omega,e1,e2]
  rfl
 have h9:J (bs.take 9)<=1000:=by rw[aO];omega
 have HB:=we F.D F.L.bm Y d h64 B cb (bs.take 9) O;have HI:=pA F.by_ F.K.bm F.bd Z d h64 B cb (bs.take 9) O;obtain⟨T,hT⟩:=Do (d.Tp (bs.take 9));obtain⟨N,hN⟩:=Do (d.Tz (bs.take 9));rw[hT]at hE HB HI;rw[hN]at HB HI;obtain⟨L,hL⟩:=Do (ju [nm]);have hL2:V9 .u32 (1*2^(min (nm:Int).toNat IntKind.u32.bits))=L:=by rw[<-hL,zr nm O];exact Dh nm O
 have HR:=λA c p w hi h=>mg F.D.bi p d.mask A c [nm] (λx hx=>by simp at hx;omega) w hi h
 rw[hL]at HR;rw[hE];unfold UF.raise;rw[hL];refine Vb func82 ntmps82 hi ?_;refine An ?_;refine ZO λb3=>?_;refine Va ?_;refine wV ?_;refine Zy (fG (Zv I) (Zv I) O (show _=((km%3:Nat):Int)from by rw[aq O];omega)) ?_;refine ZH ?_;refine ZW ?_ ?_<;>intro hc2
 .rw[hc2,ah];refine UK ?_;refine UZ (λw hi=>sO B cb bs 9 w hr.cap) ?_;refine UK ?_;refine bQ (WM [5,14] (m5 F.bw (Yu F s X)++m5 F.bg (g18L F t V))) Zk (wx ?_);refine eY 3 I Zk Zk Zk (bO ir (Zv I)) RK ((λw hi x hx=>(aJ.1 hx).elim (bP (t:=70) Zh w hi x) (bP (t:=41) Zh w hi x))) I (ZE 4 ?_);refine wU ?_;refine UE 8 19 ?_;refine eY 9 I Zk Zk Zk (bO ir (Zv I)) RK ((λw hi x hx=>(aJ.1 hx).elim (bP (t:=70) Zh w hi x) (bP (t:=41) Zh w hi x))) I (ZE 10 ?_);refine UE 11 17 ?_;refine eY 12 I Zk Zk Zk (bO ir (Zv I)) RK ((λw hi x hx=>(aJ.1 hx).elim (bP (t:=70) Zh w hi x) (bP (t:=41) Zh w hi x))) I (ZE 13 ?_);refine cP 5 Zk (jm I I (dh (my F.D F.L.bm Y d) I (λ_ _=>I) Zi (λw hi hin=>HB w hin (λw' hk=>fI (h w' (hi.Ub (λc hc=>by simp only[Yg,my,aJ,aI,aY]at hc|-;grind) hk)) 9))) (λ_=>by rintro _ _ ⟨_,⟨Y2,rfl,rfl⟩,rfl⟩;exact(λw hi x hx=>(aJ.1 hx).elim (bP (t:=70) Zh w hi x) (bP (t:=41) Zh w hi x))) I ?_);rintro _ _ ⟨_,⟨Y2,rfl,rfl⟩,rfl⟩;refine ku ?_;refine jm I I (dh (eI F.by_ F.K.bm F.bd Z d) I (λ_ _=>I) Zi (λw hi hin=>HI w hin (λw' hk=>fI (h w' (hi.Ub (λc hc=>(Zic (eI F.by_ F.K.bm F.bd Z d)).perm.symm.subset (List.mem_append_left _ hc)) hk)) 9))) (λ_=>by rintro _ _ ⟨_,⟨Z2,rfl,rfl⟩,rfl⟩;exact(λw hi x hx=>(aJ.1 hx).elim (bP (t:=70) Zh w hi x) (bP (t:=41) Zh w hi x))) I ?_;rintro _ _ ⟨_,⟨Z2,rfl,rfl⟩,rfl⟩;refine UY 15 I (ly (Zv I) (Zv I) (beq_self_eq_true _)) ?_;refine ZE 16 ?_;refine fh ?_;refine UK ?_;refine bK (Yg F s t X V Y2 Z2 T) Zj (VA ((Yg F s t X V Y2 Z2 T)) ?_);exact⟨Y2,Z2,I,I⟩
 rw[hc2,ac];refine ZU ?_;refine ZW ?_ ?_<;>intro hc5
 .rw[hc5,ah];refine UK ?_;refine UZ (λw hi=>HV w) ?_;refine UK ?_;refine bQ (Vg [23]) Zk (lO ?_);refine UE 2 19 ?_;refine ZG 3 ?_;refine ZE 4 ?_;refine UE 5 17 ?_;refine ZG 6 ?_;refine ZE 7 ?_;refine ZE 8 ?_;refine UE 9 19 ?_;refine ZG 10 ?_;refine ZE 11 ?_;refine UE 12 17 ?_;refine ZG 13 ?_;refine ZE 14 ?_;refine UE 15 1 ?_;refine ZG 16 ?_;refine ZE 17 ?_;refine UY 18 I (cz I I (Zv I) (show _=(nm:Int)from by first|exact u64_wrap_id _ O O|exact uint_wrap_id _ O O)) ?_;refine UY 19 I (pq (Zv I) (Zv I) O hL2) ?_;refine ZE 20 ?_;refine ZE 21 ?_;refine UE 22 1 ?_;refine cP 23 Zk (iT ?_);refine gP ?_;refine jQ ?_;rintro _ _ ⟨b68,rfl,rfl⟩;refine Vq ([rE F.D.bi d.S7 d.mask]) (λw hi hin=>HR (sA b68) 1 d.S7 w hin (λw' hk=>hi.TU Zi (UJ (slv 3 1 (sA b68) 1 1 (ints .i64 [(nm:Int)]))) hk)) ?_;refine UU ?_;refine bK (Yg F s t X V Y Z {d with S7:=bits .or .u32 d.S7 L}) Zj (VA ((Yg F s t X V Y Z {d with S7:=bits .or .u32 d.S7 L})) ?_);exact⟨Y,Z,I,I⟩
 rw[hc5,ac];refine U8 ?_;refine bK (Yg F s t X V Y Z d) Zj (VA ((Yg F s t X V Y Z d)) ?_);exact⟨Y,Z,I,I⟩
abbrev SE(F:EF)(n:Nat)(s:St)(X V:dz)(Y Z:dJ)(U:UI)(d:UF):List bJ:=Yd F s X::Yf F s V::Vf s X.Ad X.cd::Vj s X.Ar X.cr::Vf s V.Ad V.cd::Vj s V.Ar V.cr::(VK F.bu F.bb F.L F.D Y U d++V7 F.K F.bx n F.by_ F.bd Z U d)
theorem IQ(F:EF)(n:Nat)(hF:F.L.n=n)(s:St)(hs:s.right=true)(X V:dz)(Y Z:dJ)(U:UI)(d:UF)(hU:Wz n U)(hn:n<=64)(hd:d.ok)(ho:J d.out<=1000000000):CI prog 85 [.p F.bw] (SE F n s X V Y Z U d) (λv cs=>v= .bool true/\cs=SE F n s X V Y Z U d):=λw hi=>by
 have hin:J d.inp<=1000000000:=aN hd.wf.inp ne;obtain⟨hd16,hr16, -⟩:=St.fits hs;have HQ:=nL s s;rw[St.Uf]at HQ;obtain⟨UM,T⟩:=U;have hdl:J UM.data=n*64:=hU.m.dl;have hT:J T=16:=hU.t;refine Vb func85 ntmps85 hi ?_;refine gP ?_;refine UZ (λw hi=>ubuf_ok F.bu F.L.bm F.bb w (hi.get Zh)) ?_;refine wD ?_;refine iC (Vg []) [(0,0),(1,0),(2,0),(3,0),(4,0),(5,0),(6,1),(7,0),(8,0),(9,0),(10,1),(11,0),(12,0),(13,1),(14,2),(15,0),(16,0),(17,0),(18,0),(19,0),(20,0),(21,1),(24,0),(25,0),(26,0),(27,1),(28,0),(29,0),(30,1),(31,0),(32,0),(33,1),(34,0),(35,0),(36,1),(37,1),(22,2),(23,1),(38,0),(39,0),(40,0),(41,0),(42,0),(43,0),(44,1),(45,0),(46,0),(47,1),(49,0),(50,0),(51,0),(52,1),(48,2),(53,0),(54,0),(55,0),(56,0),(57,0),(58,0),(59,1),(60,0),(61,0),(62,1),(64,0),(65,0),(66,0),(67,1),(63,2),(68,0),(69,0),(70,0),(71,0),(72,0),(73,0),(74,1),(75,0),(76,0),(77,1),(79,0),(80,0),(81,0),(82,1),(78,2),(83,0),(84,0),(85,0),(86,0),(87,0),(88,0),(89,1),(90,0),(91,0),(92,1),(95,0),(96,0),(97,0),(98,1),(99,1),(93,2),(94,1),(100,0),(101,0),(102,0),(103,0),(104,0),(105,0),(106,1),(107,0),(108,0),(109,1),(112,0),(113,0),(114,0),(115,1),(116,1),(110,2),(111,1),(117,0),(118,0),(119,0),(120,0),(121,0),(122,0),(123,1),(124,0),(125,0),(126,1),(129,0),(130,0),(131,0),(132,1),(133,1),(127,2),(128,1),(134,0),(135,0)] Zk Zk (tD ?_);refine ek I (RP I py) I (tD ?_);refine Jo ?_;refine ng I (bR I I) (dg 3 I (cO I) Zf) I (CN I (bR I I) (bX (vs:=s.cells (.slice X.Ad (J s.d) X.cd) (.slice X.Ar (J s.r) X.cr)) ir ir (cO I)) (cq Zh I) I (Jo ?_));refine ng I (bR I I) (dg 19 I (cO I) Zf) I (Ι ?_);refine CN I (bR I I) (bX (vs:=s.cells (.slice V.Ad (J s.d) V.cd) (.slice V.Ar (J s.r) V.cr)) ir ir (cO I)) (cq Zh I) I (et ?_);refine lP I I (bR I I) I (dT I (λ_ _=>I) (λw hi=>HQ X.Ad X.Ar V.Ad V.Ar X.cd X.cr V.cd V.cr w (hi.TX (UJ (Vf s X.Ad X.cd)) (UJ (Vj s X.Ar X.cr)) O O) (hi.TX (UJ (Vf s V.Ad V.cd)) (UJ (Vj s V.Ar V.cr)) O O))) ZJ I ?_;refine Vz ?_;refine ng I (bR I I) (y_not (cO I) I) I (ek I (N4 py (KX I ir)) I (tD ?_));refine Jo ?_;refine Rc ?_;refine Jo ?_;refine ng I (bR I I) (dg 19 I (cO I) Zf) I (Ez ?_);refine ng I (bR I I) (qW (cO I)) I (ng I (bR I I) (dg 16 I (cO I) Zf) I (Ι ?_));refine Ι ?_;refine Ez ?_;refine nh (λw hi=>iO (hi.rd (UJ (sl .u8 5 (sA F.K.bB) (n*64) (n*64) UM.data)))) (λhrd55=>?_);refine CN I (bR I I) (iM I I I (cO I) hrd55) (λw hi=>U5.Tn (hi.rd (UJ (sl .u8 5 (sA F.K.bB) (n*64) (n*64) UM.data)))) I (et ?_);refine lP I I (bR I I) I (dT I (λ_ _=>I) (λw hi=>KD F.L UM w (hi.get Zh))) ZJ I ?_;rintro _ _ ⟨_,⟨bx,rfl,rfl⟩,rfl⟩;refine nh (λw hi=>iO (hi.rd (UJ (sl .u8 5 (sA bx) (J UM.data) (J UM.data) UM.data)))) (λhrd41=>?_);refine CN I (bR I I) (iM I I I (cO I) hrd41) (λw hi=>U5.Tn (hi.rd (UJ (sl .u8 5 (sA bx) (J UM.data) (J UM.data) UM.data)))) I (Rv ?_);refine Wq60 ?_;refine ng I (bR I I) (dg 0 I (cO I) Zf) I (Ez ?_);refine Jo ?_;refine ng I (bR I I) (dg 1 I (cO I) Zf) I (Ez ?_);refine et ?_;refine lP I I (bR I I) I (dT I (λ_ _=>I) (λw hi=>rz F.D.bi d.S7 d.mask w (hi.get Zh))) ZJ I ?_;refine Vz ?_;refine Ο ?_;refine ng I (bR I I) (dg 0 I (cO I) Zf) I (Ez ?_);refine Jo ?_;refine Rc ?_;refine et ?_;refine lP I I (bR I I) I (dT I (λ_ _=>I) (λw hi=>D1 F.D.bi d.S7 d.mask w (hi.get Zh))) ZJ I ?_;refine Vz ?_;refine Ο ?_;refine ng I (bR I I) (dg 1 I (cO I) Zf) I (Ez ?_);refine Jo ?_;refine ng I (bR I I) (dg 3 I (cO I) Zf) I (Ez ?_);refine et ?_;refine lP I I (bR I I) I (dT I (λ_ _=>I) (λw hi=>EV F.D.bti d.timer w (hi.get Zh))) ZJ I ?_;refine Vz ?_;refine Ο ?_;refine Rc ?_;refine Jo ?_;refine ng I (bR I I) (dg 4 I (cO I) Zf) I (Ez ?_);refine nh (λw hi=>iO (hi.rd (UJ (b8 Z.Ao Z.co d.out)))) (λhrd117=>?_);refine CN I (bR I I) (iM I I I (cO I) hrd117) (λw hi=>U5.Tn (hi.rd (UJ (b8 Z.Ao Z.co d.out)))) I (et ?_);refine lP I I (bR I I) I (dT I (λ_ _=>I) (λw hi=>vY F.D.bcn Y.Ao Y.co d.out Y.Ai (J d.inp) Y.ci ho w (hi.get Zh) (hi.get Zh))) ZJ I ?_;rintro _ _ ⟨_,⟨A1,c1,rfl,rfl⟩,rfl⟩;refine nh (λw hi=>iO (hi.rd (UJ (b8 A1 c1 d.out)))) (λhrd112=>?_);refine CN I (bR I I) (iM I I I (cO I) hrd112) (λw hi=>U5.Tn (hi.rd (UJ (b8 A1 c1 d.out)))) I (Rv ?_);refine Wq60 ?_;refine Rc ?_;refine Jo ?_;refine ng I (bR I I) (dg 5 I (cO I) Zf) I (Ez ?_);refine nh (λw hi=>iO (oZ (hi.get (UJ (Wo Z.Ai (J d.inp) Z.ci (ints .u8 d.inp)))))) (λhrd134=>?_);refine CN I (bR I I) (iM I I I (cO I) hrd134) (λw hi=>U5.Tn (oZ (hi.get (UJ (Wo Z.Ai (J d.inp) Z.ci (ints .u8 d.inp)))))) I (et ?_);refine lP I I (bR I I) I (dT I (λ_ _=>I) (λw hi=>Gk F.D.bcn Y.Ao (J d.out) Y.co Y.Ai Y.ci d.inp hin w (hi.get Zh) (hi.get Zh))) ZJ I ?_;rintro _ _ ⟨_,⟨A2,c2,rfl,rfl⟩,rfl⟩;refine nh (λw hi=>iO (hi.rd (UJ (b8 A2 c2 d.inp)))) (λhrd129=>?_);refine CN I (bR I I) (iM I I I (cO I) hrd129) (λw hi=>U5.Tn (hi.rd (UJ (b8 A2 c2 d.inp)))) I (Rv ?_);refine Wq60 ?_;refine ng I (bR I I) (dg 3 I (cO I) Zf) I (Ez ?_);refine Jo ?_;refine ng I (bR I I) (dg 6 I (cO I) Zf) I (Ez ?_);refine nh (λw hi=>iO (hi.rd (UJ (Cj F.bd d.S8)))) (λhrd151=>?_);refine CN I (bR I I) (iM I I I (cO I) hrd151) (λw hi=>U5.Tn (hi.rd (UJ (Cj F.bd d.S8)))) I (et ?_);refine lP I I (bR I I) I (dT I (λ_ _=>I) (λw hi=>Cm F.D.bdr F.D.bdk d.S8 w (hi.get Zh) (hi.get Zh))) ZJ I ?_;rintro _ _ ⟨_,⟨A3,c3,rfl,rfl⟩,rfl⟩;refine nh (λw hi=>iO (hi.rd (UJ (sl .u8 5 A3 1024 c3 d.S8)))) (λhrd146=>?_);refine CN I (bR I I) (iM I I I (cO I) hrd146) (λw hi=>U5.Tn (hi.rd (UJ (sl .u8 5 A3 1024 c3 d.S8)))) I (Rv ?_);refine jU (Zt (cK I (I) ?_));refine UQ ?_;refine gE (SE F n s X V Y Z ⟨UM,T⟩ d) Zj (UK ?_);refine mB (λk:Nat=>[(0,.p F.bw),(3,.p F.bb),(5,.i (k:Int))]) (λ_=>SE F n s X V Y Z ⟨UM,T⟩ d) (λk=>k<=16) (λk=>16 - k) (0) ?_ ?_ ?_ ?_
 .exact ax _
 .exact Xq
 .exact CB
 rintro k hk;refine VJ ?_ ?_<;>intro hc6
 .simp only[ai]at hc6;have hk16:k<16:=O;have he:T[k]? =some (T.getD k TE.zero):=(by simp[show k<J T by omega]);have HA:=tat_ok F.bb T hT k hk16;obtain⟨e,hee⟩:=Do (T.getD k TE.zero);rw[hee]at he HA;refine UQ ?_;refine jf ?_;refine lO ?_;refine ZE 3 ?_;refine ZE 4 ?_;refine UE 5 19 ?_;refine ZG 6 ?_;refine ZE 7 ?_;refine UE 8 16 ?_;refine ZG 9 ?_;refine ZE 10 ?_;refine ZE 11 ?_;refine UE 12 1 ?_;refine UY 13 I (dj (j:=k) (sz:=4) (r:=1+k*4) I ir (Zv I) (Zv I) UL UL O) ?_;refine Vn 14 I (bX (vs:=e.cells) ir ir (Zv I)) (cq (o:=1+k*4) Zh (by rw[Nat.add_comm];exact gK he)) ?_;refine cP 2 Zk (V1 (λw hi=>HA w (hi.get Zh)) ?_);refine UR ?_;refine UY 15 I (y_neqT Ei (Qf e) (Zv I) (Zv I)) ?_;refine fh ?_;refine Zt (cK I (I) ?_);refine j5 ?_;refine q_mid (k+1) ?_ ?_ ?_
  .exact⟨show k+1<=16 by omega,show 16 - (k+1)<16 - k by omega⟩
  .exact Xq
  exact CB
 refine gP ?_;exact bK (SE F n s X V Y Z ⟨UM,T⟩ d) Zj (Fl (cs':=(SE F n s X V Y Z ⟨UM,T⟩ d)) (.inl I) (aL _) I I fx)
end
end Go.Ink
namespace Go.Ink
open List renaming length→J
open IntKind renaming wrap→V9
open Go.RowKit Go.Proofs.Tryz
variable{w:World}
section
attribute [local irreducible] Ve bN
theorem zK(be:Nat)(E:Vy):CI prog 86 [.p be] (Vt be E) (λv cs=>v= .tuple #[.i E.Ti,.i E.Tk]/\cs=Vt be E):=λw hi=>by
 refine Vb func86 ntmps86 hi ?_;refine US ?_;refine jf ?_;refine lO ?_;refine UE 2 4 ?_;refine wP ?_;refine UE 6 5 ?_;refine ZG 7 ?_;refine ZE 8 ?_;refine ZE 9 ?_;refine pk ?_;exact wB (cs':=Vt be E) (.inl I) (aL _) I I I fx
theorem rQ(be:Nat)(E:Vy):CI prog 84 [.p be] (Vt be E) (λv cs=>v= .i (J E.X.Z:Int)/\cs=Vt be E):=λw hi=>by
 refine Vb func84 ntmps84 hi ?_;refine gP ?_;refine Vq (VQ E.bc E.room E.X) (λw hi hin=>MX E.bc E.room E.X w hin) ?_;refine UK ?_;exact bK (Vt be E) Zj (Fl (cs':=Vt be E) (.inl I) (aL _) I I fx)
end
end Go.Ink
namespace Go.Ink
open List renaming length→J, replicate→R9
open IntKind renaming wrap→V9
open Go.RowKit Go.Proofs.Tryz
variable{n k:Nat}{p:Nat}{d:UF}{E:VB}
section
attribute [local irreducible] Ve bN
theorem Qj{E:Vy}(h:mw E){G:VB}(he:E.eng=G):(J E.X.Z:Int)<=G.room:=by
 have h1:=h.eg.len;rw[he]at h1;rw[show J E.X.Z=J G.l by rw[<-he];exact(List.length_map _).symm];exact h1
theorem BN(n:Int)(hn:u32 n)(w:World):UW prog 27 [.w n] w [] (λv cs=>∃A c,v=NZ A c (g9 (rC (n.tmod 256))) none 0 [] 2/\cs=[sl .u8 5 A (J (g9 (rC (n.tmod 256)))) c (g9 (rC (n.tmod 256)))]):=by
 obtain⟨a,ha⟩:=Do (n.tmod 256);rw[ha];have HC:=λA c w h=>vZ A c (rC a) (show(6:Nat)<=1000 by decide) w h
 obtain⟨L,hL⟩:=Do (g9 (rC a));rw[hL]at HC|-;refine UV func27 ntmps27 ?_;refine An ?_;refine ZN λb2=>?_;refine UQ ?_;refine Zy (fG (Zv I) (Zv I) O ha) ?_;refine UU ?_;refine wF ?_;rintro _ _ ⟨b11,rfl,rfl⟩;refine Vl (λw hi=>HC (sA b11) 6 w (hi.rd (UJ (slv 51 2 (sA b11) 6 6 ((rC a).flatMap fY))))) ?_;rintro _ _ ⟨A1,c1,rfl,rfl⟩;refine ZA ?_;refine oV ?_;exact lL (cs':=[sl .u8 5 A1 (J L) c1 L]) (.inl I) Zu I I Zh ir ir ⟨A1,c1,I,I⟩
theorem xJ(w:World)(ht:iU w):CW prog 31 [] w (.bool true):=by
 have HN:=qG 8 ⟨by decide,by decide⟩;have HL:=BN 3 ⟨by decide,by decide⟩;have hcode:g9 (rC ((3:Int).tmod 256))=[1,3,1,1,17,34,251,4,32,246]:=BM;have hb:Vh [1,3,1,1,17,34,251,4,32,246]:=by rw[<-BM];exact mj _ _
 rw[hcode]at HL;have HF:=λA c w h=>xP A none c 0 2 [1,3,1,1,17,34,251,4,32,246] [] ne ne ne hb ne w h (y6 w .u8)
 have hG:=B7 (n:=2) (l:=[1,3,1,1,17,34,251,4,32,246]) (k:=[]) ne hb ne (λx hx=>by cases hx);have hK:=In;obtain⟨r1,r2,r3,c9,r4,r5,r6⟩:=Dl ne 40 hG (gR.fresh (room:=8) ⟨by decide,by decide⟩);rw[<-r1]at r6;obtain⟨⟨⟨s9,U9,d9⟩,G9⟩,hR⟩:=Do (Kn 2 40 St.new ⟨UO.init 2 [1,3,1,1,17,34,251,4,32,246],cX⟩ (UF.init []) (VB.fresh 8));rw[hR]at hK r5 r6;simp only[Sm,ay,ai]at hK;obtain⟨⟨k1,k2⟩,k3⟩:=hK;obtain⟨u1,u2,u3, -⟩:=r5.Ti (Int.le_refl _) (Int.le_refl _) (show(0:Int)+0+(c9:Int)<=1000000000 by simp at r4;omega);dsimp only at r6 u1 u2 u3;have r6':s9.count=(c9:Int):=by rw[r6];show V9 .u64 (0+(c9:Int))=_;rw[aP];simp at r4;omega
 have u3':G9.Ti+G9.Tk=s9.count:=by rw[r6',u3];show(0:Int)+0+(c9:Int)=_;omega
 have hc9:s9.count<=320:=by rw[r6'];simp at r4;omega
 clear r1 r2 r3 r5 u3 r6;have ho:(UF.init []).out.length<=0:=aK _;unfold fr18 at HF;obtain⟨data,hda⟩:=Do (kL 2 [1,3,1,1,17,34,251,4,32,246]);obtain⟨tu,htu⟩:=Do (R9 2 false);obtain⟨U0,hU⟩:=Do ((⟨UO.init 2 [1,3,1,1,17,34,251,4,32,246],cX⟩:UI));obtain⟨T0,hTT⟩:=Do (cX);obtain⟨d0,hd⟩:=Do (UF.init []);rw[hda,htu,hU,hd,hTT]at HF;rw[hU,hd]at hG hR;rw[hd]at ho;obtain⟨l0,hl0⟩:∃l:List Int,[1,3,1,1,17,34,251,4,32,246]=l:=⟨_,I⟩;rw[hl0]at HF HL;refine UV func31 ntmps31 ?_;refine Zs (Zr (ZA ?_));refine Zn (Zt (Zs (Zr (ZS (λw hi=>HN w) ?_))));rintro _ _ ⟨_,⟨be,E,⟨hE,hE0⟩,rfl,rfl⟩,rfl⟩;refine UQ ?_;refine Zn (Zt (Zs (Zr (ZS (λw hi=>HL w) ?_))));rintro _ _ ⟨_,⟨A1,c1,rfl,rfl⟩,rfl⟩;refine Vl (λw hi=>HF A1 c1 w (hi.rd (UJ (sl .u8 5 A1 (J l0) c1 l0)))) ?_;rintro _ _ ⟨F,hF,rfl,rfl⟩;have HR:=λw hi h ht=>Ga be F.bu F.bb F.L (hF▸ne) F.D ⟨none,0,none,0⟩ St.new none none 0 0 U0 d0 (hF▸hG) 40 ne ne (by rw[show(40:Int).toNat=40 from I];omega) E hE w hi h ht
 rw[hF,hE0,hR]at HR;have ef:E.Ti=0:=congrArg VB.Ti hE0;have es:E.Tk=0:=congrArg VB.Tk hE0;refine wn ?_;refine j6 ?_;refine Vq (Vt be E) (λw hi hin=>zK be E w hin) ?_;rw[ef,es];refine US ?_;refine cj (λq:dz×dJ×Vy×Nat=>[(1,.p be),(4,.i 0),(5,.i 0),(6,.p q.2.2.2)]) (λq=>row q.2.2.2 (s9.cells (.slice q.1.Ad (J s9.d) q.1.cd) (.slice q.1.Ar (J s9.r) q.1.cr)) 36::Vt be q.2.2.1) (λq=>q.2.2.1.eng=G9) ?_ ?_
 .refine iC (Vg [13,15]) [(0,0),(1,0),(2,0),(3,0),(4,1),(5,0),(6,0),(7,0),(8,1),(9,0),(10,0),(11,0),(12,1),(13,3),(14,3),(15,3)] Zk Zk (zW ?_);refine ZY ?_;refine yq I (bX (vs:=St.new.cells (.slice none 0 0) (.slice none 0 0)) ir ir py) (cq Zh I) I (tD ?_);refine RF ?_;refine Ν ?_;refine GI [(13,[(14,2),(15,2)]),(14,[(13,2),(15,2)])] Zk (.cons ?_ (.cons ?_ .nil))
  .refine Wq465 ?_;rintro _ _ ⟨_,⟨X1,Y1,E1,hE1,hEe,rfl,rfl⟩,rfl⟩;refine et ?_;refine yi ?_;rintro _ _ ⟨b6,rfl,rfl⟩;exact Wx88_
  refine yi ?_;rintro _ _ ⟨b6,rfl,rfl⟩;refine et ?_;refine Wq465 ?_;rintro _ _ ⟨_,⟨X1,Y1,E1,hE1,hEe,rfl,rfl⟩,rfl⟩;exact Wx88_
 rintro⟨X1,Y1,E1,b6⟩ hEe;dsimp only at hEe|-;have ef1:E1.Ti=G9.Ti:=congrArg VB.Ti hEe;have es1:E1.Tk=G9.Tk:=congrArg VB.Tk hEe;have el1:J E1.X.Z=J G9.l:=(by have e:=congrArg (λG:VB=>J G.l) hEe;rw[<-e];exact(List.length_map _).symm);refine UN ?_;refine Vq (Vt be E1) (λw hi hin=>zK be E1 w hin) ?_;rw[ef1,es1];refine wn ?_;refine V3 I I (CU (cO I) (Zv I) (ap (show(40:Int)<=s9.count from k1))) ?_;refine UN ?_;refine V3 I I (N5 (cO I) (Zv I) (ap (show(0:Int)<G9.Ti from k2))) ?_;refine UN ?_;refine V3 I I (cz I I (cO I) (u64_wrap_id _ O O)) ?_;refine ZB ?_;refine V3 I I (cz I I (cO I) (u64_wrap_id _ O O)) ?_;refine V3 I I (dy (cO I) (cO I) (show _=s9.count from by rw[u3'];exact u64_wrap_id _ O O)) ?_;refine An ?_;refine V3 I I (ly (cO I) (cO I) (beq_self_eq_true _)) ?_;refine UN ?_;refine gm (bS I I) I (dh (Vt be E1) I (λ_ _=>I) Zi (λw hi hin=>rQ be E1 w hin)) I ?_;refine Vz ?_;refine V3 I I (CU (cO I) (Zv I) (ap (show(1:Int)<=(J E1.X.Z:Int) by omega))) ?_;exact qP
end
end Go.Ink
namespace Go.Ink
open List renaming length→J
open IntKind renaming wrap→V9
open Go.RowKit
theorem mw.flushed{E:Vy}(h:mw E)(ml:Nat)(fl:Int):mw ⟨E.bc,E.mr,E.room,⟨ml,none,0,fl,[],[]⟩,[],E.last,E.Ti,E.Tk,E.begun⟩:=
 ⟨pU.none h.ca.rm _ _ _ _,h.eg.flush,(λy hy=>nomatch hy),h.last⟩
end Go.Ink
namespace Go.Ink
open List renaming length→J
open IntKind renaming wrap→V9
open Go.RowKit
variable{n:Nat}
theorem Hu{w0:World}{S:List Nat}{cs:List bJ}{sz c b:Nat}{ad:Addr}{xs vs:List Value}(h:∀w',dc S w0 w'->U5 w' sz (some ad) n c xs)(hv:∀j v,vs[j]? =some v->xs[b+j]? =some v):∀w,Inv w0 S cs w->cells (fa (ad.add b) 0 vs) w:=λw hi=>
 jM λj v hj=>by
  rw[Nat.add_zero];exact(h w hi.To).at_ ad I (b+j) v (hv j v hj)
structure w6(room from_:Int)(j:Nat)(s:St)(E:Vy):Prop where
 ok:mw E
 room:E.eng.room=room
 Ti:0<=E.Ti
 Tk:0<=E.Tk
 sum:∃c:Nat,E.Ti+E.Tk=(c:Int)/\c<=8*j/\s.count=V9 .u64 (from_+(c:Int))
theorem w6.next{room from_:Int}{j:Nat}{s:St}{U:UI}{d:UF}{E E':Vy}(h:w6 room from_ j s E)(hj:j<=1000)(hn:n<=1000000)(hG:VN n s U d)(hE:mw E')(he:E'.eng=(WO n s U d E.eng).2):w6 room from_ (j+1) (cS n s U d).1 E':=by
 obtain⟨h1,h2,h3,h4,c,h5,h6,h7⟩:=h;obtain⟨-, -,c2,r1,r2,r3⟩:=Gg hn hG h1.eg;obtain⟨u1,u2,u3, -⟩:=r2.Ti h3 h4 (show E.Ti+E.Tk+(c2:Int)<=1000000000 by omega);rw[<-he]at u1 u2 u3;have u3:E'.Ti+E'.Tk=E.Ti+E.Tk+c2:=u3;exact⟨hE,by rw[he,r2.room,h2],u1,u2,c+c2,by omega,by omega,by rw[r3,h7,lQ,show(c:Int)+(c2:Int)=((c+c2:Nat):Int) by omega]⟩
end Go.Ink
