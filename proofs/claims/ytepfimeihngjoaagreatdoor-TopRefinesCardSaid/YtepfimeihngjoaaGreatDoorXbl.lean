/- Lemmas. -/
import Derived.Test.YtepfimeihngjoaaGreatDoorXbj
import Derived.Test.YtepfimeihngjoaaGreatDoorXbk
set_option linter.all false
set_option maxRecDepth 100000
set_option maxHeartbeats 4000000
namespace Go.Ink
open List renaming length→J
open IntKind renaming wrap→V9
open Go.RowKit Go.Proofs.Tryz
variable{w:World}
variable{G:List (Bool×Ky×RS)}{q:Ky}
section
attribute [local irreducible] Ve bN
variable{E:Vy}
variable{b:Li}{sz:Nat}
variable{k:Nat}
variable{i:Int×Int}
variable{k:Ky}
variable{E:VB}
variable{t:WR}{r:Rn}
variable{p:Int}{G:VB}
theorem My(be bu bb:Nat)(L:fF)(E:Vy)(hE:mw E)(s:St)(X:dz)(p:Nat)(hp:p<=4294967295)(hpn:p/64<L.n)(U:UI)(hwf:s.wf)(hs:s.right=true)(hM:U.m.ok L.n):CI prog 94 [.p be,sv s X.Ad X.cd X.Ar X.cr,.w (p:Int),.p bu] (tF bu bb L s X U be E) (λv cs=>∃E',mw E'/\E'.eng=(jF E.eng s p (iQ U.m p)).2/\TransR bu bb L s U be (jF E.eng s p (iQ U.m p)).1 E' v cs):=λw hi=>by
 have hq:V9 .u32 ((p:Int).tdiv 64)=((p/64:Nat):Int):=by rw[bl O,u32_wrap_id _ O O];omega
 have hrm:(p:Int).tmod 64=((p%64:Nat):Int):=by rw[aq O];omega
 have HP:=yT L U.m (p/64) hpn;have hbb:=u6 hM p;have hbe:iQ U.m p=((U.m.data.drop (p/64*64)).take 64).drop (p%64):=rfl;have hdl:=hM.dl;have hXl:J ((U.m.data.drop (p/64*64)).take 64)=64:=by rw[aO,List.length_drop];omega
 obtain⟨D,hD⟩:=Do ((U.m.data.drop (p/64*64)).take 64);rw[hD]at HP hXl hbe;obtain⟨hd16,hr16, -⟩:=St.fits hs;have hky:lD (s.pc,(p:Int)):=⟨hwf.pc,by omega,by omega⟩;have hbl:J (iQ U.m p)=64 - p%64:=by rw[hbe,List.length_drop,hXl]
 have HFi:=λA c w hi h=>Ql be E hE (s.pc,(p:Int)) hky A c (iQ U.m p) hbb O w hi h
 have UP:=qB hE.eg (k:=(s.pc,(p:Int))) hbb;have hT1:=λG h=>Ol (E:=E.eng) (s:=s) (p:=p) (b:=iQ U.m p) (G:=G) h
 have hT2:=λG t r s1 how h=>JR (E:=E.eng) (s:=s) (p:=p) (b:=iQ U.m p) (G:=G) (t:=t) (r:=r) (s1:=s1) (how:=how) h
 have hT3:=λG t r s1 how h=>JQ (E:=E.eng) (s:=s) (p:=p) (b:=iQ U.m p) (G:=G) (t:=t) (r:=r) (s1:=s1) (how:=how) h
 rw[hbl]at HFi;obtain⟨⟨o,G⟩,hF⟩:=Do (lE E.eng (s.pc,(p:Int)) (iQ U.m p));rw[hF]at HFi UP hT1 hT2 hT3;obtain⟨T,hT⟩:=Do (jF E.eng s p (iQ U.m p));rw[hT]at hT1 hT2 hT3|-;rw[hbe]at HFi;clear hbe hbl;refine Vb func94 ntmps94 hi ?_;refine An ?_;refine ZO λb5=>?_;refine ZN λb8=>?_
 refine ZN λb9=>?_
 refine UU ?_;refine UZ (λw hi=>uw bu L.bm bb w (hi.get (UJ (JH bu L.bm bb)))) ?_;refine ZA ?_;refine Zy (kf (Zv I) (Zv I) O hq) ?_;refine wo ?_;refine Vl (λw hi=>HP w (hi.get (UJ (fM L U.m)))) ?_;rintro _ _ ⟨bq,rfl,rfl⟩;refine mv ?_;refine ZN λb13=>?_
 refine eA (cL (vs:=cD (s.pc,(p:Int))) ir I I (vq _) Za mS) ?_;refine UR ?_;refine An ?_;refine cj (λq:Vy×BA×RS×Nat×Nat=>[(0,.p be),(3,.p bu),(5,.p b5),(8,.p b8),(9,.p b9),(13,.p b13),(14,.p q.2.2.2.1),(15,.p q.2.2.2.2),(16,.bool o.isSome)]) (λq=>tF bu bb L s X U be q.1++[VZ q.2.1,row b5 (s.cells (.slice X.Ad (J s.d) X.cd) (.slice X.Ar (J s.r) X.cr)) 36,row b8 (St.zero.cells (.slice none 0 0) (.slice none 0 0)) 36,row b9 (RS.cells RS.zero) 180,row b13 (cD (s.pc,(p:Int))) 173,row q.2.2.2.1 (BA.cells q.2.1) 262,row q.2.2.2.2 (RS.cells q.2.2.1) 180]) (λq=>mw q.1/\q.1.eng=G/\∀t r,o=some (t,r)->q.2.1.b=t/\q.2.2.1.r=r) ?_ ?_
 .refine iC (Vg [6,13,14]) [(0,0),(1,1),(2,0),(3,0),(4,0),(5,0),(6,3),(7,3),(8,3),(9,3),(10,3),(11,3),(12,3),(13,3),(14,3),(15,3)] Zk Zk (tD ?_);refine yq I (bX (vs:=cD (s.pc,(p:Int))) ir ir py) (cq Zh I) I (zW ?_);refine ek I (fG (Zv I) (Zv I) O hrm) I (ek I (lb (sz:=1) (lo:=p%64) (hi:=64) (r:=p%64) I ir (Zv I) (.inr ⟨_,_,I,(Zv I)⟩) (.inl ⟨I,I⟩) O O O O) I (GI [(6,[(7,0),(8,0),(9,0),(10,0),(11,3),(12,3),(13,3),(14,3),(15,3)]),(11,[(6,3),(7,3),(8,3),(9,3),(10,3),(12,3),(13,3),(14,3),(15,3)]),(12,[(6,3),(7,3),(8,3),(9,3),(10,3),(11,3),(13,3),(14,3),(15,3)])] Zk (.cons ?_ (.cons ?_ (.cons ?_ .nil)))))
  .refine Wq76 ?_;rintro _ _ ⟨_,⟨E2,hE2,hEe,y,x,rfl,rfl,hyx⟩,rfl⟩;refine NK ?_;refine GI [(11,[(12,2),(13,2),(14,2),(15,0)]),(12,[(11,2),(13,2),(14,2),(15,0)])] Zk (.cons ?_ (.cons ?_ .nil))
   .refine yi ?_;rintro _ _ ⟨b14,rfl,rfl⟩;refine et ?_;refine yi ?_;rintro _ _ ⟨b15,rfl,rfl⟩;exact Xy
   refine yi ?_;rintro _ _ ⟨b15,rfl,rfl⟩;refine et ?_;refine yi ?_;rintro _ _ ⟨b14,rfl,rfl⟩;exact Xy
  .refine yi ?_;rintro _ _ ⟨b14,rfl,rfl⟩;refine GI [(6,[(7,0),(8,0),(9,0),(10,0),(12,2),(13,2),(14,2),(15,0)]),(12,[(6,2),(7,0),(8,0),(9,0),(10,0),(13,2),(14,2),(15,0)])] Zk (.cons ?_ (.cons ?_ .nil))
   .refine Wq76 ?_;rintro _ _ ⟨_,⟨E2,hE2,hEe,y,x,rfl,rfl,hyx⟩,rfl⟩;refine NK ?_;refine et ?_;refine yi ?_;rintro _ _ ⟨b15,rfl,rfl⟩;exact Xy
   refine yi ?_;rintro _ _ ⟨b15,rfl,rfl⟩;exact Wx62_
  refine yi ?_;rintro _ _ ⟨b15,rfl,rfl⟩;refine GI [(6,[(7,0),(8,0),(9,0),(10,0),(11,2),(13,2),(14,2),(15,0)]),(11,[(6,2),(7,0),(8,0),(9,0),(10,0),(13,2),(14,2),(15,0)])] Zk (.cons ?_ (.cons ?_ .nil))
  .refine Wq76 ?_;rintro _ _ ⟨_,⟨E2,hE2,hEe,y,x,rfl,rfl,hyx⟩,rfl⟩;refine NK ?_;refine et ?_;refine yi ?_;rintro _ _ ⟨b14,rfl,rfl⟩;exact Xy
  refine yi ?_;rintro _ _ ⟨b14,rfl,rfl⟩;exact Wx62_
 rintro⟨E2,⟨yb,A1,c1⟩,⟨xr,A2,c2⟩,b14,b15⟩ ⟨hE2,hEe,hyx⟩;dsimp only at hE2 hEe hyx|-;refine VJ ?_ ?_<;>intro hc4
 .obtain rfl:o=none:=kY;have hTn:=hT1 G I;exact Wx73_
 obtain⟨⟨⟨tk,C,tc⟩,r⟩,rfl⟩:∃q,o=some q:=(by cases o with|none=>cases hc4|some q=>grind);obtain⟨rfl,rfl⟩:=hyx _ _ I;obtain⟨pg,il,g1,g2,g3,g4,g5,g6,g7⟩:=UP.2.2.2.2 _ _ I;obtain⟨-, -, -, -,hgo⟩:=BL g6 g1;obtain⟨hgd,hCl⟩:=hgo g2;dsimp only at g3;rw[<-g3]at hgd hCl;have HRn:=λA c w h h3=>erun_ok A c C hgd hCl s hwf hs X.Ad X.Ar X.cd X.cr w h h3
 have hTb:=λs1 how=>hT2 G ⟨tk,C,tc⟩ xr s1 how I
 have hTy:=λs1 how=>hT3 G ⟨tk,C,tc⟩ xr s1 how I
 obtain⟨⟨s1,how⟩,hrc⟩:=Do (iE C s);dsimp only at hTb hTy;rw[hrc]at HRn;dsimp only at HRn;refine US ?_;refine Vl (λw hi=>HRn A1 c1 w (hi.rd (UJ (VZ ⟨⟨tk,C,tc⟩,A1,c1⟩))) (hi.TX (UJ (Vf s X.Ad X.cd)) (UJ (Vj s X.Ar X.cr)) O O)) ?_;rintro _ _ ⟨X1,rfl,rfl⟩;refine UN ?_;refine ZN λb17=>?_
 refine qN ?_;refine ZW ?_ ?_<;>intro hc7
 .have hTn:=hTb s1 how hrc hc7;exact Wx73_
 have hTn:=hTy s1 how hrc hc7;refine UQ ?_;refine UZ (λw hi=>uw bu L.bm bb w (hi.get (UJ (JH bu L.bm bb)))) ?_;refine Vq ([fM L U.m]) (λw hi hin=>y7 L U.m w hin) ?_;refine An ?_;refine cj (λY:Wn=>[(0,.p be),(8,.p b8),(9,.p b9),(13,.p b13),(14,.p b14),(15,.p b15),(17,.p b17)]) (λY=>row b8 (St.zero.cells (.slice none 0 0) (.slice none 0 0)) 36::row b9 (RS.cells RS.zero) 180::row b13 (cD (s.pc,(p:Int))) 173::row b14 (BA.cells ⟨⟨tk,C,tc⟩,A1,c1⟩) 262::row b15 (RS.cells ⟨xr,A2,c2⟩) 180::row b17 (s1.cells (.slice X1.Ad (J s1.d) X1.cd) (.slice X1.Ar (J s1.r) X1.cr)) 36::tF bu bb L s1 X1 ⟨U.m.calm,U.t⟩ be (E2.TA Y)) (λY=>pU E2.room Y/\Y.Z=E2.X.Z) ?_ ?_
 .refine Wp ?_ ?_<;>intro hc10
  .refine bQ (Vg [9]) Zk (nZ ?_);refine wP ?_;refine UE 6 2 ?_;refine Vn 7 I (bX (vs:=cD E2.last) ir ir py) (cq Zh I) ?_;refine Vn 8 I (bX (vs:=cD (s.pc,(p:Int))) ir ir py) (cq Zh I) ?_;refine kt ?_;refine rX (VQ E2.bc E2.room E2.X) (λw hi hin=>QA E2.bc E2.room E2.X hE2.ca E2.last (s.pc,(p:Int)) hE2.last w hin) ?_;rintro _ _ ⟨X2,rfl,hX2,hXZ⟩;refine fh ?_;refine Vd (X2) bZ
  refine Zc (Vd (E2.X) ⟨hE2.ca,I⟩)
 rintro Y ⟨hY,hYZ⟩;refine UK ?_;refine dZ (bX (vs:=cD (s.pc,(p:Int))) ir ir py) (cq Zh I) I (An ?_);refine eA (eo (ys:=[.p E2.bc,.map (some E2.mr),.w s.pc,.w (p:Int),.i E2.Ti,.i E2.Tk,.bool E2.begun]) (n:=2) (vs:=cD (s.pc,(p:Int))) I ir I I (vq _) Za I (Nat.le_of_ble_eq_true I)) ?_;refine UR ?_;refine jO ?_;refine UN ?_;refine bQ (Vg [9]) Zk (lO ?_);refine UE 2 4 ?_;refine ZG 3 ?_;refine UE 4 3 ?_;refine ZG 5 ?_;refine UY 6 I (dy py py Zl) ?_;refine ZE 7 ?_;refine UE 8 4 ?_;refine kt ?_;refine ZQ ?_;refine pk ?_;refine bQ (WM [4,5] (m5 b14 (BA.cells ⟨⟨tk,C,tc⟩,A1,c1⟩)++m5 b15 (RS.cells ⟨xr,A2,c2⟩))) Zk (ZI 0 ?_);refine xg 1 I Zk Zk Zk (bX (vs:=RS.cells ⟨xr,A2,c2⟩) ir ir py) (λx hx=>List.mem_append_right _ (gl x hx)) (gO (bP (t:=262) Zh) (bP (t:=180) Zh)) I (UE 2 3 ?_);refine eY 3 I Zk Zk Zk (bO ir (Zv I)) RK (gO (bP (t:=262) Zh) (bP (t:=180) Zh)) I (cP 4 Zk (fq I I (cL ir I I (jR I) Za mS) Wq500 ?_));refine UR ?_;refine cP 5 Zk (fq I I (cL ir I I (nB ⟨xr,A2,c2⟩) Za mS) Wq500 ?_);refine UR ?_;refine ZE 6 ?_;refine pk ?_;refine bK (row b8 (s1.cells (.slice X1.Ad (J s1.d) X1.cd) (.slice X1.Ar (J s1.r) X1.cr)) 36::row b9 (RS.cells ⟨xr,A2,c2⟩) 180::tF bu bb L s1 X1 ⟨U.m.calm,U.t⟩ be (E2.toldE Y (s.pc,(p:Int)) tc)) Zj (xw (cs':=tF bu bb L s1 X1 ⟨U.m.calm,U.t⟩ be (E2.toldE Y (s.pc,(p:Int)) tc)) (.inl I) (List.Sublist.cons _ (List.Sublist.cons _ (aL _))) I I I I Zh Zh ir ir ir ir ?_);rw[hTn];exact⟨_,hE2.told hY hYZ hky tc,by rw[Om hYZ,hEe],X1,⟨xr,A2,c2⟩,rfl,rfl,rfl⟩
end
end Go.Ink
namespace Go.Ink
open List renaming length→J, replicate→R9
open IntKind renaming wrap→V9
open Go.RowKit Go.Proofs.Tryz
variable{n k:Nat}{s:St}{p:Nat}{U:UI}{d:UF}{E:VB}
section
attribute [local irreducible] Ve bN
theorem MF(be bu bb:Nat)(L:fF)(D:qV)(Y:dJ)(s:St)(Ad Ar:Oa)(cd cr:Nat)(U:UI)(d:UF)(hG:VN L.n s U d)(ho:J d.out+8<=1000000000)(E:Vy)(hE:mw E)(w:World)(hi:Inv w (bM (WT be bu bb L D Y U d E)) (WT be bu bb L D Y U d E) w)
  (h:∀w',dc (bM (WT be bu bb L D Y U d E)) w w'->iL w' s Ad Ar cd cr) (ht:∀w',dc (bM (WT be bu bb L D Y U d E)) w w'->iU w'):
  UW prog 30 [.p be,sv s Ad cd Ar cr,.p bu,.p D.bs] w (WT be bu bb L D Y U d E)
   (λv cs=>∃X' Y' E',mw E'/\E'.eng=(WO L.n s U d E.eng).2/\v=sv (WO L.n s U d E.eng).1.1 X'.Ad X'.cd X'.Ar X'.cr/\cs=WJ be bu bb L D (WO L.n s U d E.eng).1.1 X' Y' (WO L.n s U d E.eng).1.2.1 (WO L.n s U d E.eng).1.2.2 E'):=by
 have hq:∀x:Int,u32 x->V9 .u32 (x.tdiv 64)=x/64:=λx hx=>by obtain⟨h1,h2⟩:=hx;rw[bl h1,u32_wrap_id _ O O]
 have HB:=Gv bu bb L D Y s hG.wf Ad Ar cd cr U hG.u.t d (oh hG.lines _);have hb:=kE hG;have hbp:=wj hG;have hN:=λs1 U1 d1 pl h=>doE_no (n:=L.n) (s:=s) (s1:=s1) (U:=U) (U1:=U1) (d:=d) (d1:=d1) (pl:=pl) (E:=E.eng) h
 have hY1:=λs1 U1 d1 (pl:Nat) G h ht=>Qs (n:=L.n) (s:=s) (s1:=s1) (U:=U) (U1:=U1) (d:=d) (d1:=d1) (pl:=pl) (E:=E.eng) (G:=G) h ht
 have hY2:=λs1 U1 d1 (pl:Nat) o r c G h ht hc=>doE_out (n:=L.n) (s:=s) (s1:=s1) (o:=o) (U:=U) (U1:=U1) (d:=d) (d1:=d1) (pl:=pl) (E:=E.eng) (G:=G) (r:=r) (c:=c) h ht hc
 have hY3:=λs1 U1 d1 (pl:Nat) o r c G (m:Nat) h ht hm hc=>doE_on (n:=L.n) (s:=s) (s1:=s1) (o:=o) (U:=U) (U1:=U1) (d:=d) (d1:=d1) (pl:=pl) (E:=E.eng) (G:=G) (r:=r) (c:=c) (m:=m) h ht hm hc
 obtain⟨⟨s1,pl,rn,U1,d1⟩,hbe⟩:=Do (cI L.n s U d);rw[hbe]at HB hb hbp hN hY1 hY2 hY3;obtain⟨hg1,hpl,hout, -, -, -⟩:=hb;dsimp only at hg1 hpl hout hbp;obtain⟨pl,rfl⟩:∃m:Nat,pl=m:=aj hpl.1;have hpl2:=hpl.2;obtain⟨⟨⟨s9,U9,d9⟩,G9⟩,hR⟩:=Do (WO L.n s U d E.eng);rw[hR]at hN hY1 hY2 hY3|-;refine Vb func30 ntmps30 hi ?_;refine An ?_;refine ZO λb5=>?_;refine ZN λb8=>?_
 refine US ?_;refine dH (VK bu bb L D Y U d) (λw hi hin=>HB w hin (λw' hk=>h w' (hi.Ub (λc hc=>by simp only[WT,Vt,VK,uF,my,aJ,aI,aY]at hc|-;grind) hk)) (λw' hk=>ht w' (hi.Ub (λc hc=>by simp only[WT,Vt,VK,uF,my,aJ,aI,aY]at hc|-;grind) hk))) ?_;rintro _ _ ⟨X1,rfl,rfl⟩;refine ZN λb9=>?_
 refine qN ?_;refine ZW ?_ ?_<;>intro hc2
 .obtain rfl:rn=false:=(by cases rn with|false=>rfl|true=>cases hc2);have e:=hN s1 U1 d1 pl I;rw[aB,aB,aB]at e;obtain⟨⟨rfl,rfl,rfl⟩,hG9⟩:=e;refine Zs (bQ (Vg [14]) Zk ?_);refine lO ?_;refine UE 2 5 ?_;refine ZG 3 ?_;refine UE 4 0 ?_;refine UE 5 14 ?_;refine ZG 6 ?_;refine UE 7 14 ?_;refine ZG 8 ?_;refine Wq377 ?_;refine ku ?_;refine iT ?_;refine UK ?_;refine Wq485 ?_;exact bK (row b8 (s9.cells (.slice X1.Ad (J s9.d) X1.cd) (.slice X1.Ar (J s9.r) X1.cr)) 36::WJ be bu bb L D s9 X1 Y U9 d9 (E.TL (V9 .i64 (V9 .u64 (s9.count - s.count))))) Zj (lL (cs':=(WJ be bu bb L D s9 X1 Y U9 d9 (E.TL (V9 .i64 (V9 .u64 (s9.count - s.count)))))) (.inl I) Zu I I Zh ir ir ⟨X1,Y,_,hE.Uq _,hG9.symm,I,I⟩)
 obtain rfl:rn=true:=(by cases rn with|true=>rfl|false=>cases hc2);have hpn:pl/64<L.n:=(by have:=(hbp I).2;omega);have HT:=λX w hi=>My be bu bb L E hE s1 X pl O hpn U1 hg1.wf hg1.right hg1.u.m w hi
 have hTg:=λo r c G h=>G1 (o:=o) (r:=r) (c:=c) (G:=G) (p:=pl) hg1 hE.eg h
 have hY1:=hY1 s1 U1 d1 pl;have hY2:=hY2 s1 U1 d1 pl;have hY3:=hY3 s1 U1 d1 pl;obtain⟨⟨o,G⟩,hTe⟩:=Do (jF E.eng s1 (pl:Int) (iQ U1.m pl));rw[hTe]at HT hY1 hY2 hY3 hTg;refine UN ?_;rcases o with _|⟨o,r,k⟩
 .have hZ:=hY1 G I I;refine UN ?_;refine Δ ?_;refine UN ?_;refine dH (tF bu bb L s1 X1 U1 be E) (λw hi hin=>HT X1 w hin) ?_;rintro _ _ ⟨E2,hE2,hEe,X2,x,rfl,rfl⟩;refine UK ?_;refine ZN λb10=>?_
  refine ZN λb11=>?_
  refine ZM ?_;refine eA (cL ir I I (nB x) Za mS) ?_;refine UR ?_;refine nW ?_;refine WV I I (kf (cO I) (Zv I) O (hq _ hg1.wf.pc)) ?_;refine UN ?_;refine WV I I (kf (cO I) (Zv I) O (hq _ hg1.wf.pc)) ?_;refine WK ?_ ?_<;>intro hc6
  ·(have h9:((x.r.ends&&decide ((0:Int)<0))||(s1.pc/64 !=s1.pc/64))=true:=hc6;simp at h9)
  refine Wq460 ?_;refine yq I (bX (vs:=s1.cells (.slice X2.Ad (J s1.d) X2.cd) (.slice X2.Ar (J s1.r) X2.cr)) ir ir py) (cq Zh I) I (Wq473 ?_);refine ek I (ez (Zv I) (Zv I) (show _=((8:Nat):Int)from I)) I (zW ?_);refine et ?_;refine mX I I (dT I (λ_ _=>I) (λw hi=>F9 x 0 w)) ZJ I ?_;refine Vz ?_;rw[aD];refine ek I (cz I I py I) I (ek I (dy (Zv I) (Zv I) (show _=(pl:Int)from by show V9 .u32 ((pl:Int)+0)=_;rw[au];omega)) rfl (et ?_));have HRs:=λw hi=>Gb be bu bb L D Y s1 X2 pl O 8 ne U1 d1 hg1 (by rw[hout];exact ho) E2 hE2 w hi
  rw[hEe,<-hZ]at HRs;refine ZcSn (WJ be bu bb L D s1 X2 Y U1 d1 E2) (λw hi hin=>HRs w hin) ?_;rintro _ _ ⟨X3,Y3,E3,hE3,hEe3,rfl,rfl⟩;refine Jb ?_;exact Wq194
 obtain⟨hg2,m,rfl,hm1,hm8⟩:=hTg o r k G I;refine UN ?_;refine Δ ?_;refine UN ?_;refine dH (tF bu bb L s1 X1 U1 be E) (λw hi hin=>HT X1 w hin) ?_;rintro _ _ ⟨E2,hE2,hEe,X2,x,rfl,rfl,rfl⟩;refine UK ?_;refine ZN λb10=>?_
 refine ZN λb11=>?_
 refine ZM ?_;refine eA (cL ir I I (nB x) Za mS) ?_;refine UR ?_;refine nW ?_;refine WV I I (kf (cO I) (Zv I) O (hq _ hg2.wf.pc)) ?_;refine UN ?_;refine WV I I (kf (cO I) (Zv I) O (hq _ hg1.wf.pc)) ?_;refine WK ?_ ?_<;>intro hc6
 .have hZ:=hY2 o x.r (m:Int) G I I hc6;simp only[aB]at hZ;obtain⟨⟨rfl,rfl,rfl⟩,hG9⟩:=hZ;refine UN ?_;refine ij ?_;exact bK (row b8 (s9.cells (.slice X2.Ad (J s9.d) X2.cd) (.slice X2.Ar (J s9.r) X2.cr)) 36::WJ be bu bb L D s9 X2 Y ⟨U1.m.calm,U1.t⟩ d9 E2) Zj (lL (cs':=(WJ be bu bb L D s9 X2 Y ⟨U1.m.calm,U1.t⟩ d9 E2)) (.inl I) Zu I I Zh ir ir ⟨X2,Y,E2,hE2,hEe.trans hG9.symm,I,I⟩)
 have hZ:=hY3 o x.r (m:Int) G m I I I hc6;refine Wq460 ?_;refine yq I (bX (vs:=o.cells (.slice X2.Ad (J o.d) X2.cd) (.slice X2.Ar (J o.r) X2.cr)) ir ir py) (cq Zh I) I (Wq473 ?_);refine ek I (ez (Zv I) (Zv I) (show _=((8 - m:Nat):Int)from by rw[aQ _ ⟨by omega,by omega⟩];omega)) rfl (zW ?_);refine et ?_;refine mX I I (dT I (λ_ _=>I) (λw hi=>F9 x (m:Int) w)) ZJ I ?_;refine Vz ?_;rw[show((m:Int)==0)=false from bF.2 O,ac,aD];refine ek I (cz I I py I) I (ek I (dy (Zv I) (Zv I) (show _=(((pl+J x.r.bytes)%4294967296:Nat):Int)from by show V9 .u32 ((pl:Int)+V9 .u32 (J x.r.bytes:Int))=_;simp only[au];omega)) rfl (et ?_));have HRs:=λw hi=>Gb be bu bb L D Y o X2 ((pl+J x.r.bytes)%4294967296) O (8 - m) O ⟨U1.m.calm,U1.t⟩ d1 hg2 (by rw[hout];omega) E2 hE2 w hi
 rw[hEe,<-hZ]at HRs;refine ZcSn (WJ be bu bb L D o X2 Y ⟨U1.m.calm,U1.t⟩ d1 E2) (λw hi hin=>HRs w hin) ?_;rintro _ _ ⟨X3,Y3,E3,hE3,hEe3,rfl,rfl⟩;refine Jb ?_;exact Wq194
theorem Ga(be bu bb:Nat)(L:fF)(hn:L.n<=1000000)(D:qV)(Y:dJ)(s:St)(Ad Ar:Oa)(cd cr:Nat)(U:UI)(d:UF)(hG:VN L.n s U d)(m:Int)(hm0: -9223372036854775808<=m)(hm:m<=1000000)(ho:J d.out+8*m.toNat+8<=1000000000)(E:Vy)(hE:mw E)(w:World)(hi:Inv w (bM (WT be bu bb L D Y U d E)) (WT be bu bb L D Y U d E) w)
  (h:∀w',dc (bM (WT be bu bb L D Y U d E)) w w'->iL w' s Ad Ar cd cr) (ht:∀w',dc (bM (WT be bu bb L D Y U d E)) w w'->iU w'):
  UW prog 74 [.p be,sv s Ad cd Ar cr,.p bu,.p D.bs,.i m] w (WT be bu bb L D Y U d E)
   (λv cs=>∃X' Y' E',mw E'/\E'.eng=(Kn L.n m s U d E.eng).2/\v=sv (Kn L.n m s U d E.eng).1.1 X'.Ad X'.cd X'.Ar X'.cr/\cs=WJ be bu bb L D (Kn L.n m s U d E.eng).1.1 X' Y' (Kn L.n m s U d E.eng).1.2.1 (Kn L.n m s U d E.eng).1.2.2 E'):=by
 have HR2:=mJ s;rw[hG.right]at HR2;obtain⟨hd16,hr16, -⟩:=St.fits hG.right;obtain⟨⟨⟨s9,U9,d9⟩,G9⟩,hR⟩:=Do (Kn L.n m s U d E.eng);rw[hR];have hR0:lY L.n m s.count (m.toNat - 0) ((s,U,d),E.eng)=((s9,U9,d9),G9):=hR;have hk0:CJ L.n m s.count (J d.out) 0 (s,U,d):=⟨hG,aK _,0,by show V9 .u64 (s.count - s.count)=0;rw[Int.sub_self];rfl,aK _,aK _,by cases hd:decide (0<m)with|false=>(show(0:Int)<0+8;omega)|true=>(simp only[ai]at hd;show(0:Int)<m+8;omega)⟩;obtain⟨from_,hfr⟩:=Do (s.count);obtain⟨o0,hoo⟩:=Do (J d.out);rw[hfr]at hR0 hk0;rw[hoo]at ho hk0;refine Vb func74 ntmps74 hi ?_;refine An ?_;refine ZO λb6=>?_;refine ZN λb10=>?_
 refine NH ?_;rintro _ _ ⟨_,⟨A1,c1,A2,c2,rfl,rfl⟩,rfl⟩;refine Ny ?_;refine gP ?_;refine lN ?_;refine UK ?_;refine gE (row b6 (s.cells (.slice A1 (J s.d) c1) (.slice A2 (J s.r) c2)) 36::row b10 (St.zero.cells (.slice none 0 0) (.slice none 0 0)) 36::WJ be bu bb L D s ⟨A1,c1,A2,c2⟩ Y U d E) Zj (US ?_);refine Vs (λq:Nat×St×dz×dJ×UI×UF×Vy=>[(0,.p be),(2,.p bu),(3,.p D.bs),(4,.i m),(6,.p b6),(10,.p b10),(11,.int .u64 from_)]) (λq=>row b6 (q.2.1.cells (.slice q.2.2.1.Ad (J q.2.1.d) q.2.2.1.cd) (.slice q.2.2.1.Ar (J q.2.1.r) q.2.2.1.cr)) 36::row b10 (St.zero.cells (.slice none 0 0) (.slice none 0 0)) 36::WJ be bu bb L D q.2.1 q.2.2.1 q.2.2.2.1 q.2.2.2.2.1 q.2.2.2.2.2.1 q.2.2.2.2.2.2) (λq=>CJ L.n m from_ o0 q.1 (q.2.1,q.2.2.2.2.1,q.2.2.2.2.2.1)/\q.1<=m.toNat/\mw q.2.2.2.2.2.2/\lY L.n m from_ (m.toNat - q.1) ((q.2.1,q.2.2.2.2.1,q.2.2.2.2.2.1),q.2.2.2.2.2.2.eng)=((s9,U9,d9),G9)) (λq=>m.toNat - q.1) (⟨0,s,⟨A1,c1,A2,c2⟩,Y,U,d,E⟩) ⟨hk0,ax _,hE,hR0⟩ ?_;rintro⟨i,s,X,Y,U,d,E⟩ ⟨hk,him,hE,hRi⟩;dsimp only at hk him hE hRi|-;have hrc:fH m from_ s=((decide (0<m)&& !s.halted)&&decide (V9 .u64 (s.count - from_)<m)):=rfl;refine kF ?_;refine Wq98 ?_;refine WK ?_ ?_<;>intro hc5
 .have hc:fH m from_ s=true:=(by rw[hrc];revert hc5;cases decide (0<m)with|false=>(intro h;cases h)|true=>exact λh=>h);obtain⟨hk2,hilt⟩:=yO hm O hk hc;obtain⟨k,hkk⟩:∃k,m.toNat - i=k+1:=⟨m.toNat - i - 1,by omega⟩;rw[hkk,AX (q:=((s,U,d),E.eng)) hc]at hRi;obtain⟨hd16,hr16, -⟩:=St.fits hk.g.right;have hok:=hk.out;dsimp only at hok hd16 hr16;have HB:=MF be bu bb L D Y s X.Ad X.Ar X.cd X.cr U d hk.g O E hE;obtain⟨hd1, -, -⟩:=Gg hn hk.g hE.eg;obtain⟨⟨⟨s2,U2,d2⟩,G2⟩,hq⟩:=Do (WO L.n s U d E.eng);dsimp only at hRi hk2 hd1;rw[hq]at HB hRi hd1;dsimp only at hd1;rw[<-hd1]at hk2;refine Va ?_;refine dH (WT be bu bb L D Y U d E) (λw hi hin=>HB w hin (λw' hk=>hi.TS Zi (UJ (Vf s X.Ad X.cd)) (UJ (Vj s X.Ar X.cr)) O O hk) (λw' hk=>ht w' (hi.Ub (λc hc=>by simp only[WJ,WT,Vt,WH,VK,uF,my,aJ,aI,aY]at hc|-;grind) hk))) ?_;rintro _ _ ⟨X2,Y2,E2,hE2,hEe,rfl,rfl⟩;refine ZM ?_;refine An ?_;refine Vd ((⟨i+1,s2,X2,Y2,U2,d2,E2⟩:Nat×St×dz×dJ×UI×UF×Vy)) ⟨⟨hk2,show i+1<=m.toNat by omega,hE2,by show lY L.n m from_ (m.toNat - (i+1)) ((s2,U2,d2),E2.eng)=_;rw[show m.toNat - (i+1)=k by omega,hEe];exact hRi⟩,show m.toNat - (i+1)<m.toNat - i by omega⟩
 have hc:fH m from_ s=false:=(by rw[hrc];revert hc5;cases decide (0<m)with|false=>exact λ_=>rfl|true=>exact λh=>h);rw[uQ (q:=((s,U,d),E.eng)) hc,aB,aB,aB]at hRi;obtain⟨⟨rfl,rfl,rfl⟩,hG9⟩:=hRi;refine Va ?_;refine oV ?_;exact bK (row b10 (s.cells (.slice X.Ad (J s.d) X.cd) (.slice X.Ar (J s.r) X.cr)) 36::WJ be bu bb L D s X Y U d E) Zj Wq501
end
end Go.Ink
