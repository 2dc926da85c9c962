/- Lemmas. -/
import Derived.Test.YtkegldppffignaaGreatDoorPaa
import Derived.Test.YtkegldppffignaaGreatDoorPab
import Derived.Test.YtkegldppffignaaGreatDoorPay
set_option linter.unusedSimpArgs false
set_option linter.unusedVariables false
set_option maxRecDepth 100000
set_option maxHeartbeats 4000000
namespace Go.Ink
open Go.RowKit
structure xG where
 kd:Int
 n:Int
 v:Int
 at_:Int
 B:Option Addr
 cb:Nat
 bs:List Int
def xG.cells(a:xG):List Value:=[.int .i64 a.kd,.int .i64 a.n,.int .u32 a.v,.int .u32 a.at_,.slice a.B a.bs.length a.cb]
theorem xG.NH(a:xG):a.cells.length=5:=rfl
structure xG.ok(W:World)(a:xG):Prop where
 v:u32 a.v
 at_:u32 a.at_
 rd:Rd W .u8 a.B a.bs.length a.cb a.bs
 bs:u8s a.bs
theorem Ff{a b:List Int}(h:u8s a)(h2:u8s b):u8s (a++b):=λx hx=>(aS.1 hx).elim (h x) (h2 x)
end Go.Ink
namespace Go.Proofs.YtkegldppffignaaGreatDoor
open Go.RowKit Go.Ink Go.Proofs.Tryz
attribute [local irreducible] OpY bS
set_option maxRecDepth 100000 in
theorem Kt{W:World}{es:List Value}(h:Arg prog W 167 es):∃a:xG,es=a.cells/\a.ok W:=by
 obtain⟨hl,hf⟩:=h.struct rfl;have hl:es.length=5:=hl
 match es,hl with
 |[c0,c1,c2,c3,c4],_=>
  have k0:Arg prog W _ [c0]:=hf 0 _ rfl;have k1:Arg prog W _ [c1]:=hf 1 _ rfl;have k2:Arg prog W _ [c2]:=hf 2 _ rfl;have k3:Arg prog W _ [c3]:=hf 3 _ rfl;have k4:Arg prog W _ [c4]:=hf 4 _ rfl;obtain⟨n0,rfl,m0⟩:=arg1 rfl k0;obtain⟨n1,rfl,m1⟩:=arg1 rfl k1;obtain⟨n2,rfl,m2⟩:=arg1 rfl k2;obtain⟨n3,rfl,m3⟩:=arg1 rfl k3;obtain⟨A2,d2,x2,e2,r2,b2,z2⟩:=k4.ints (e:=5) (k:= .u8) rfl rfl rfl;obtain rfl:c4=_:=by simpa using e2
  exact⟨⟨n0,n1,n2,n3,A2,d2,x2⟩,rfl,⟨E5 m2,E5 m3,r2,λx hx=>Jo (z2 x hx)⟩⟩
set_option maxRecDepth 100000 in
theorem yB{W:World}{v:Value}(h:Bp prog W 79 v):∃(A:Option Addr) (c:Nat) (l:List xG),v= .slice A l.length c/\RdV W 5 A l.length c (l.flatMap xG.cells)/\∀a,a∈l->a.ok W:=by
 obtain⟨A,c,xs,h1,h2,h3,h4⟩:=Bp.rows (e:=167) rfl rfl xG.NH ⟨0,0,0,0,none,0,[]⟩ (λes he=>Kt he) h;exact⟨A,c,xs,h1,h2,h3⟩
theorem oB(A:Option Addr)(c:Nat)(l:List (Int×Int))(hl:l.length<=3)(w:World)(h:RdV w 2 A l.length c (l.flatMap dR)):Ctr prog 41 [.slice A l.length c] w [] (λv cs=>∃A' c' E,(u8s E/\E.length<=15)/\v= .slice A' E.length c'/\cs=[sl .u8 5 A' E.length c' E]):=
 (Bh A c l Wq1 w h).mono (λv cs ⟨A',c',h1,h2⟩=>⟨A',c',eG l,⟨nk _ _,aW (jw _ _) Wq1⟩,h1,h2⟩)
theorem GA(A:Option Addr)(c:Nat)(l:List xG)(w:World)(h:RdV w 5 A l.length c (l.flatMap xG.cells))(hl:∀a,a∈l->a.ok w):
  Ctr prog 70 [.slice A l.length c,.int .i64 60] w [] (λv cs=>∃A' c' E,(u8s E/\E.length<=900)/\v= .slice A' E.length c'/\cs=[sl .u8 5 A' E.length c' E]):=by
 have hlm:l.length<=maxLen:=aW h.cap h.max;simp only[maxLen]at hlm;refine bN func70 rfl ntmps70 rfl (Inv.start w) ?_;refine jd ?_;refine dC 5 1 ?_;refine Z_4 ?_;refine cq (λq:Nat×Option Addr×Nat×List Int=>[(0,.slice A l.length c),(1,.int .i64 60),(5,.slice q.2.1 q.2.2.2.length q.2.2.1),(6,.int .i64 (q.1:Int))]) (λq=>[sl .u8 5 q.2.1 q.2.2.2.length q.2.2.1 q.2.2.2]) (λq=>q.1<=60/\u8s q.2.2.2/\q.2.2.2.length<=15*q.1) (λq=>60 - q.1) (⟨0,none,0,[]⟩) ?_ ?_ ?_ ?_
 .exact⟨aq _,λx hx=>(by cases hx),aM _⟩
 .exact Zwk
 .exact Zu
 rintro⟨i,A1,c1,o⟩ ⟨hi60,ho1,ho2⟩;dsimp only at hi60 ho1 ho2|-;refine gy ?_;refine ZW ?_ ?_<;>intro hc3
 .have hil:i<l.length/\i<60:=(by revert hc3;cases h1:decide ((i:Int)<(l.length:Int))<;>cases h2:decide ((i:Int)<60)<;>simp_all<;>omega);obtain⟨ad,rfl⟩:=h.some_ Wq1;have hla:l[i]? =some (l[i]'hil.1):=ai hil.1;have hok:=hl _ (List.getElem_mem hil.1);obtain⟨r,hr⟩:=Zgn (l[i]'hil.1);rw[hr]at hla hok;obtain⟨kd,n,v,at_,B,cb,bs⟩:=r;obtain⟨hv,hat,hrd,hbs⟩:=hok;dsimp only at hv hat hrd hbs;obtain⟨v,rfl⟩:∃m:Nat,v=m:=ar hv.1;obtain⟨a,rfl⟩:∃m:Nat,at_=m:=ar hat.1;have hv2:=hv.2;have ha2:=hat.2;obtain⟨km,hkm⟩:=Zgn (kM kd 0 1000);have HW:=λw=>hkm▸kr kd 0 1000 w Wq5 Wq5 Wq5
  have hb9:=jo hrd 9;have hE2:(bs.take 9).length<=9:=(by rw[aB];omega);have hE1:u8s (bs.take 9):=(λx hx=>hbs x (bj hx));have HCut:=λw=>tW B cb bs 9 w hrd.cap
  obtain⟨E,hb9e⟩:=Zgn (bs.take 9);rw[hb9e]at hb9 hE2 hE1 HCut;have HI1:=Ci n a hat;have HI2:=Ci n v hv;obtain⟨sop,hs⟩:∃y,([49,51,53]:List Int)[v%3]? =some y:=⟨_,ai (show v%3<3 by omega)⟩;obtain⟨lop,hlo⟩:∃y,([48,50,52]:List Int)[v%3]? =some y:=⟨_,ai (show v%3<3 by omega)⟩;refine Z_8 ?_;refine Zy (dX (j:=i) rfl Zrf (Zv rfl) (Zv rfl) Wq4 Wq4) ?_;refine dN (cz (vs:=[.int .i64 kd,.int .i64 n,.int .u32 (v:Int),.int .u32 (a:Int),.slice B bs.length cb]) Zrf Zrf Zv0) (fv h (λj v hj=>fK xG.NH (i:=j) hla hj)) rfl ?_;refine ZN λb7=>?_
  refine ZM ?_;refine Z_7 ?_;refine ZN λb8=>?_
  refine ZM ?_;refine Z_6 ?_;refine Zy (ij (Zv rfl) (Zv rfl) Wq1 (show _=((a%300:Nat):Int)from by rw[aG Wq1];omega)) ?_;refine ZA ?_;refine ZN λb9=>?_
  refine ZM ?_;refine Z_6 ?_;refine ZSe (λw hi=>HW w) ?_;refine Zy (ij (Zv rfl) (Zv rfl) Wq1 (by first|exact IntWalk.rem_in _ _ Wq1|exact rfl)) ?_;refine Z_9 ?_;refine ZW ?_ ?_<;>intro hc10
  .refine iR ⟨λj=>List.elem j [12],[]⟩ [(0,0),(1,4),(2,4),(4,0),(5,4),(6,0),(3,2),(7,0),(8,4),(9,0),(10,2),(11,2),(12,2),(13,0)] Zk Zk ?_;refine cW rfl (fZ Zv0) rfl ?_;refine kq rfl Zh Zrf Zrf (Zv rfl) rfl ?_;refine kq rfl Zh Zrf Zrf (Zv rfl) rfl ?_;refine cW rfl (dT 2 rfl Zv0 Zf) rfl ?_;refine jB rfl (bQ Zrf Zv0) (cu Zh rfl) rfl ?_;refine cW rfl (ij (Zv rfl) (Zv rfl) Wq1 (show _=((v%3:Nat):Int)from by rw[aG Wq1];omega)) rfl ?_;refine fo rfl ?_;refine dO rfl rfl (g9 rfl rfl Zrf Zrf rfl rfl) ZJ rfl ?_;rintro _ _ ⟨b50,rfl,rfl⟩;refine cW rfl (cw (j:=(v%3)) (sz:=1) (r:=(v%3)) rfl Zrf (Zv rfl) (Zv rfl) Wq4 Wq4 Wq1) rfl ?_;refine jB rfl (bQ Zrf Zv0) (dm Zh (cR (l:=[49,51,53]) hs)) rfl ?_;refine cW rfl (sf rfl rfl Zrf rfl rfl rfl Zb) rfl ?_;refine fo rfl ?_;refine dO rfl rfl (iw rfl rfl Zrf Zrf rfl rfl rfl) ZJ rfl ?_;rintro _ _ ⟨b57,rfl,rfl⟩;refine fo rfl ?_;refine dO rfl rfl (cU rfl (λ_ _=>rfl) (λw hi=>oB (some ⟨b57,0,none⟩) 3 [(2,(v:Int)),(2,((a%300:Nat):Int)),(sop,0)] cE w (hi.rd (show Has _ (slv 27 2 (some ⟨b57,0,none⟩) 3 3 ([(2,(v:Int)),(2,((a%300:Nat):Int)),(sop,0)].flatMap dR))from Zh)))) ZJ rfl ?_;rintro _ _ ⟨_,⟨A2,c2,E,⟨hE1,hE2⟩,rfl,rfl⟩,rfl⟩;refine fo rfl ?_;refine dO rfl rfl (cD (e:=5) (sz:=1) (bytes:=1) rfl rfl Za rfl rfl (λw hi=>hi.rd (show Has _ (sl .u8 5 A2 E.length c2 E)from Zh)) cN gS Wq1) ZJ rfl ?_;rintro _ _ ⟨A3,c3,rfl,rfl⟩;rw[cj,<-ae];refine cW rfl (fP Zv0) rfl ?_;refine eU ?_;refine Z_5 ?_;refine Wq8 ?_;refine bX ((⟨i+1,A3,c3,o++E⟩:Nat×Option Addr×Nat×List Int)) ?_ ?_ ?_
   .exact MH
   .exact Zwk
   exact Zj
  refine Z_6 ?_;refine ZW ?_ ?_<;>intro hc12
  .refine iR ⟨λj=>List.elem j [11],[]⟩ [(0,0),(1,4),(3,0),(4,4),(5,0),(2,2),(6,0),(7,4),(8,0),(9,2),(10,2),(11,2),(12,0)] Zk Zk ?_;refine cW rfl (fZ Zv0) rfl ?_;refine kq rfl Zh Zrf Zrf (Zv rfl) rfl ?_;refine cW rfl (dT 2 rfl Zv0 Zf) rfl ?_;refine jB rfl (bQ Zrf Zv0) (cu Zh rfl) rfl ?_;refine cW rfl (ij (Zv rfl) (Zv rfl) Wq1 (show _=((v%3:Nat):Int)from by rw[aG Wq1];omega)) rfl ?_;refine fo rfl ?_;refine dO rfl rfl (g9 rfl rfl Zrf Zrf rfl rfl) ZJ rfl ?_;rintro _ _ ⟨b64,rfl,rfl⟩;refine cW rfl (cw (j:=(v%3)) (sz:=1) (r:=(v%3)) rfl Zrf (Zv rfl) (Zv rfl) Wq4 Wq4 Wq1) rfl ?_;refine jB rfl (bQ Zrf Zv0) (dm Zh (cR (l:=[48,50,52]) hlo)) rfl ?_;refine cW rfl (sf rfl rfl Zrf rfl rfl rfl Zb) rfl ?_;refine fo rfl ?_;refine dO rfl rfl (iw rfl rfl Zrf Zrf rfl rfl rfl) ZJ rfl ?_;rintro _ _ ⟨b71,rfl,rfl⟩;refine fo rfl ?_;refine dO rfl rfl (cU rfl (λ_ _=>rfl) (λw hi=>oB (some ⟨b71,0,none⟩) 2 [(2,((a%300:Nat):Int)),(lop,0)] cE w (hi.rd (show Has _ (slv 27 2 (some ⟨b71,0,none⟩) 2 2 ([(2,((a%300:Nat):Int)),(lop,0)].flatMap dR))from Zh)))) ZJ rfl ?_;rintro _ _ ⟨_,⟨A2,c2,E,⟨hE1,hE2⟩,rfl,rfl⟩,rfl⟩;refine fo rfl ?_;refine dO rfl rfl (cD (e:=5) (sz:=1) (bytes:=1) rfl rfl Za rfl rfl (λw hi=>hi.rd (show Has _ (sl .u8 5 A2 E.length c2 E)from Zh)) cN gS Wq1) ZJ rfl ?_;rintro _ _ ⟨A3,c3,rfl,rfl⟩;rw[cj,<-ae];refine cW rfl (fP Zv0) rfl ?_;refine eU ?_;refine Z_5 ?_;refine Wq8 ?_;refine bX ((⟨i+1,A3,c3,o++E⟩:Nat×Option Addr×Nat×List Int)) ?_ ?_ ?_
   .exact MH
   .exact Zwk
   exact Zj
  refine Z_6 ?_;refine ZW ?_ ?_<;>intro hc14
  .refine Z_4 ?_;refine Zy (ij (Zv rfl) (Zv rfl) Wq1 (show _=((a%13:Nat):Int)from by rw[aG Wq1];omega)) ?_;refine Zy (jk (Zv rfl) (Zv rfl) (show _=((a%13*4:Nat):Int)from by rw[u32_wrap_id _ Wq1 Wq1];omega)) ?_;refine Zy (df (Zv rfl) (Zv rfl) (show _=((32768+a%13*4:Nat):Int)from by rw[u32_wrap_id _ Wq1 Wq1];omega)) ?_;refine Z_1 ?_;refine ZL ?_;refine Z_6 ?_;refine Zy (ij (Zv rfl) (Zv rfl) Wq1 (show _=((v%3:Nat):Int)from by rw[aG Wq1];omega)) ?_;refine Z_3 ?_;refine ZW ?_ ?_<;>intro hc16
   .refine Z_4 ?_;refine ro ?_;rintro _ _ ⟨b89,rfl,rfl⟩;refine ZS (λw hi=>oB (some ⟨b89,0,none⟩) 2 [(2,((32768+a%13*4:Nat):Int)),(48,0)] cE w (hi.rd (show Has _ (slv 27 2 (some ⟨b89,0,none⟩) 2 2 ([(2,((32768+a%13*4:Nat):Int)),(48,0)].flatMap dR))from Zh))) ?_;rintro _ _ ⟨_,⟨A2,c2,E,⟨hE1,hE2⟩,rfl,rfl⟩,rfl⟩;refine gj (cD (e:=5) (sz:=1) (bytes:=1) rfl rfl Za rfl rfl (λw hi=>hi.rd (show Has _ (sl .u8 5 A2 E.length c2 E)from Zh)) cN gS Wq1) rfl ?_;rintro _ _ ⟨A3,c3,rfl,rfl⟩;rw[cj,<-ae];refine Z_7 ?_;refine Wq8 ?_;refine bX ((⟨i+1,A3,c3,o++E⟩:Nat×Option Addr×Nat×List Int)) ?_ ?_ ?_
    .exact MH
    .exact Zwk
    exact Zj
   refine Z_4 ?_;refine Zy (ij (Zv rfl) (Zv rfl) Wq1 (show _=((v%256:Nat):Int)from by rw[aG Wq1];omega)) ?_;refine Z_3 ?_;refine ro ?_;rintro _ _ ⟨b99,rfl,rfl⟩;refine ZS (λw hi=>oB (some ⟨b99,0,none⟩) 3 [(1,((v%256:Nat):Int)),(2,((32768+a%13*4:Nat):Int)),(49,0)] cE w (hi.rd (show Has _ (slv 27 2 (some ⟨b99,0,none⟩) 3 3 ([(1,((v%256:Nat):Int)),(2,((32768+a%13*4:Nat):Int)),(49,0)].flatMap dR))from Zh))) ?_;rintro _ _ ⟨_,⟨A2,c2,E,⟨hE1,hE2⟩,rfl,rfl⟩,rfl⟩;refine gj (cD (e:=5) (sz:=1) (bytes:=1) rfl rfl Za rfl rfl (λw hi=>hi.rd (show Has _ (sl .u8 5 A2 E.length c2 E)from Zh)) cN gS Wq1) rfl ?_;rintro _ _ ⟨A3,c3,rfl,rfl⟩;rw[cj,<-ae];refine Z_7 ?_;refine Wq8 ?_;refine bX ((⟨i+1,A3,c3,o++E⟩:Nat×Option Addr×Nat×List Int)) ?_ ?_ ?_
   .exact MH
   .exact Zwk
   exact Zj
  refine Z_6 ?_;refine ZW ?_ ?_<;>intro hc19
  .refine Z_4 ?_;refine Zy (ij (Zv rfl) (Zv rfl) Wq1 (show _=((v%256:Nat):Int)from by rw[aG Wq1];omega)) ?_;refine Z_3 ?_;refine Zy (ij (Zv rfl) (Zv rfl) Wq1 (show _=((a%12:Nat):Int)from by rw[aG Wq1];omega)) ?_;refine ZA ?_;refine ro ?_;rintro _ _ ⟨b113,rfl,rfl⟩;refine ZS (λw hi=>oB (some ⟨b113,0,none⟩) 2 [(1,((v%256:Nat):Int)),(67,((a%12:Nat):Int))] cE w (hi.rd (show Has _ (slv 27 2 (some ⟨b113,0,none⟩) 2 2 ([(1,((v%256:Nat):Int)),(67,((a%12:Nat):Int))].flatMap dR))from Zh))) ?_;rintro _ _ ⟨_,⟨A2,c2,E,⟨hE1,hE2⟩,rfl,rfl⟩,rfl⟩;refine gj (cD (e:=5) (sz:=1) (bytes:=1) rfl rfl Za rfl rfl (λw hi=>hi.rd (show Has _ (sl .u8 5 A2 E.length c2 E)from Zh)) cN gS Wq1) rfl ?_;rintro _ _ ⟨A3,c3,rfl,rfl⟩;rw[cj,<-ae];refine Z_7 ?_;refine Wq8 ?_;refine bX ((⟨i+1,A3,c3,o++E⟩:Nat×Option Addr×Nat×List Int)) ?_ ?_ ?_
   .exact MH
   .exact Zwk
   exact Zj
  refine Z_6 ?_;refine ZW ?_ ?_<;>intro hc21
  .refine Z_4 ?_;refine ZSe (λw hi=>HCut w) ?_;refine gj (cD (e:=5) (sz:=1) (bytes:=1) rfl rfl Za rfl rfl (λw hi=>hb9.MZ hi) cN gS Wq1) rfl ?_;rintro _ _ ⟨A3,c3,rfl,rfl⟩;rw[cj,<-ae];refine Z_7 ?_;refine Wq8 ?_;refine bX ((⟨i+1,A3,c3,o++E⟩:Nat×Option Addr×Nat×List Int)) ?_ ?_ ?_
   .exact MH
   .exact Zwk
   exact Zj
  refine Z_6 ?_;refine ZW ?_ ?_<;>intro hc23
  .refine iR ⟨λj=>List.elem j [12],[]⟩ [(0,0),(1,0),(2,4),(3,0),(4,0),(5,0),(6,4),(7,0),(8,4),(9,2),(10,2),(11,2),(12,2),(13,0)] Zk Zk ?_;refine cW rfl (fZ Zv0) rfl ?_;refine cW rfl (dT 2 rfl Zv0 Zf) rfl ?_;refine jB rfl (bQ Zrf Zv0) (cu Zh rfl) rfl ?_;refine cW rfl (ij (Zv rfl) (Zv rfl) Wq1 (show _=((v%256:Nat):Int)from by rw[aG Wq1];omega)) rfl ?_;refine cW rfl (sf rfl rfl Zrf rfl rfl rfl Zb) rfl ?_;refine cW rfl (dT 1 rfl Zv0 Zf) rfl ?_;refine jB rfl (bQ Zrf Zv0) (cu Zh rfl) rfl ?_;refine cW rfl (dT 3 rfl Zv0 Zf) rfl ?_;refine jB rfl (bQ Zrf Zv0) (cu Zh rfl) rfl ?_;refine fo rfl ?_;refine dO rfl rfl (cU rfl (λ_ _=>rfl) (λw hi=>HI1 w)) ZJ rfl ?_;rintro _ _ ⟨_,⟨⟨op,nn,rfl,hnu, -⟩,rfl⟩,rfl⟩;refine fo rfl ?_;refine dO rfl rfl (iw rfl rfl Zrf Zrf rfl rfl rfl) ZJ rfl ?_;rintro _ _ ⟨b135,rfl,rfl⟩;refine fo rfl ?_;refine dO rfl rfl (cU rfl (λ_ _=>rfl) (λw hi=>oB (some ⟨b135,0,none⟩) 2 [(1,((v%256:Nat):Int)),(op,nn)] cE w (hi.rd (show Has _ (slv 27 2 (some ⟨b135,0,none⟩) 2 2 ([(1,((v%256:Nat):Int)),(op,nn)].flatMap dR))from Zh)))) ZJ rfl ?_;rintro _ _ ⟨_,⟨A2,c2,E,⟨hE1,hE2⟩,rfl,rfl⟩,rfl⟩;refine fo rfl ?_;refine dO rfl rfl (cD (e:=5) (sz:=1) (bytes:=1) rfl rfl Za rfl rfl (λw hi=>hi.rd (show Has _ (sl .u8 5 A2 E.length c2 E)from Zh)) cN gS Wq1) ZJ rfl ?_;rintro _ _ ⟨A3,c3,rfl,rfl⟩;rw[cj,<-ae];refine cW rfl (fP Zv0) rfl ?_;refine eU ?_;refine Z_5 ?_;refine Wq8 ?_;refine bX ((⟨i+1,A3,c3,o++E⟩:Nat×Option Addr×Nat×List Int)) ?_ ?_ ?_
   .exact MH
   .exact Zwk
   exact Zj
  refine Z_6 ?_;refine ZS (λw hi=>HI2 w) ?_;rintro _ _ ⟨_,⟨⟨op,nn,rfl,hnu, -⟩,rfl⟩,rfl⟩;refine ro ?_;rintro _ _ ⟨b42,rfl,rfl⟩;refine ZS (λw hi=>oB (some ⟨b42,0,none⟩) 1 [(op,nn)] cE w (hi.rd (show Has _ (slv 27 2 (some ⟨b42,0,none⟩) 1 1 ([(op,nn)].flatMap dR))from Zh))) ?_;rintro _ _ ⟨_,⟨A2,c2,E,⟨hE1,hE2⟩,rfl,rfl⟩,rfl⟩;refine gj (cD (e:=5) (sz:=1) (bytes:=1) rfl rfl Za rfl rfl (λw hi=>hi.rd (show Has _ (sl .u8 5 A2 E.length c2 E)from Zh)) cN gS Wq1) rfl ?_;rintro _ _ ⟨A3,c3,rfl,rfl⟩;rw[cj,<-ae];refine Z_7 ?_;refine Wq8 ?_;refine bX ((⟨i+1,A3,c3,o++E⟩:Nat×Option Addr×Nat×List Int)) ?_ ?_ ?_
  .exact MH
  .exact Zwk
  exact Zj
 refine gR ?_;refine Zrb ([slv _ _ _ _ _ _]) ?_;exact⟨A1,c1,o,⟨ho1,by omega⟩,rfl,rfl⟩
theorem Cj(A B:Option Addr)(c e:Nat)(l:List xG)(MK:Int)(k:List Int)(hk:u8s k)(w:World)(h:RdV w 5 A l.length c (l.flatMap xG.cells))(hl:∀a,a∈l->a.ok w)(hB:Rd w .u8 B k.length e k):
  Ctr prog 35 [.slice A l.length c,.int .i64 MK,.slice B k.length e] w [] (λv cs=>∃(A':Option Addr) (c':Nat) (E E2:List Int) (n:Nat),(u8s E/\(1<=n/\n<=16)/\(E.take (n*64)).length<=n*64)/\v=imgV A' c' (E.take (n*64)) B e (k.take 1024) n/\cs=[sl .u8 5 A' E.length c' E]):=by
 have HP:=GA A c l;obtain⟨m,hm⟩:=Zgn (kM MK 0 15);have hmr:=ke MK 0 15 Wq5;rw[hm]at hmr;have HW:=λw=>hm▸kr MK 0 15 w Wq5 Wq5 Wq5
 obtain⟨n0,rfl⟩:∃q:Nat,m=q:=ar hmr.1;have HK:=λw=>tW B e k 1024 w hB.cap
 refine bN func35 rfl ntmps35 rfl (Inv.start w) ?_;refine Z_2 ?_;refine ZN λb6=>?_;refine Z_5 ?_;refine ZSe (λw hi=>HW w) ?_;refine Zy (df (Zv rfl) (Zv rfl) (show _=((1+n0:Nat):Int)from by rw[bF _ ⟨by omega,by omega⟩];omega)) ?_;refine Z_6 ?_;refine ZS (λw hi=>HP w (h.MZ hi) (λa ha=>⟨(hl a ha).v,(hl a ha).at_,(hl a ha).rd.MZ hi,(hl a ha).bs⟩)) ?_;rintro _ _ ⟨_,⟨A1,c1,E,⟨hE1,hE2⟩,rfl,rfl⟩,rfl⟩;refine ZA ?_;refine Zy (jk (Zv rfl) (Zv rfl) (show _=(((1+n0)*64:Nat):Int)from by rw[bF _ ⟨by omega,by omega⟩];omega)) ?_;refine ZSe (λw hi=>tW A1 c1 E ((1+n0)*64) w (hi.rd (show Has _ (sl .u8 5 A1 E.length c1 E)from Zh)).cap) ?_;refine ZA ?_;refine ZSe (λw hi=>HK w) ?_;refine Z_2 ?_;refine ZM ?_;refine Z_3 ?_;refine bP [row b6 [.slice A1 (E.take ((1+n0)*64)).length c1,.slice B (k.take 1024).length e,.int .i64 ((1+n0:Nat):Int)] 34,sl .u8 5 A1 E.length c1 E] Zj ?_;refine mi (cs':=[sl .u8 5 A1 E.length c1 E]) (.inl rfl) Zu rfl rfl Zh Zrf Zrf ?_;exact⟨A1,c1,E,[],1+n0,⟨hE1,⟨by omega,by omega⟩,by rw[aB];omega⟩,rfl,rfl⟩
end Go.Proofs.YtkegldppffignaaGreatDoor
namespace Go.Ink
open Go.RowKit
end Go.Ink
namespace Go.Proofs.YtkegldppffignaaGreatDoor
open Go.RowKit Go.Ink Go.Proofs.Tryz
attribute [local irreducible] OpY bS
end Go.Proofs.YtkegldppffignaaGreatDoor
namespace Go.Ink
open Go.RowKit
abbrev codeG:List (Int×Int):=[(1,65),(2,32784),(49,0),(69,0)]
theorem CI:eG codeG=[1,65,2,16,128,0,0,49,69]:=by decide
def Mq(q:St×Mmu×Dev):Bool:=q.1.halted&&(q.1.count==4)&&(q.2.2.out==[65])&&(q.2.2.inp==[])
theorem D6:Mq (eW 2 9 St.new ⟨Mem.load 2 [1,65,2,16,128,0,0,49,69],dz⟩ (Dev.init []))=true:=by decide+kernel
end Go.Ink
namespace Go.Proofs.YtkegldppffignaaGreatDoor
open Go.RowKit Go.Ink Go.Proofs.Tryz
attribute [local irreducible] OpY bS
theorem HY{L:fu}{M:Mem}{k:zL}(h:eI L M k):Ig (fC k.ow L.o 256):=by
 unfold fC;refine⟨λf hf=>?_,List.pairwise_map.2 ((List.filter_sublist.nodup List.nodup_range).imp λhne e=>hne (Int.ofNat.inj e))⟩;obtain⟨g,hg,rfl⟩:=aZ.1 hf;rw[List.mem_filter,List.mem_range]at hg;have e:=eq_of_beq hg.2;rcases h.held g hg.1 with⟨-,h1⟩|⟨-, -,q,hq⟩|⟨h1,h2, -⟩
 .rw[h1]at e;have:=ay e;omega
 .have hql:q<L.n:=by have:=(au.1 hq).1;rw[h.fr]at this;exact this
  rcases h.MY q hql with⟨h3, -⟩|⟨f',h3,h4,h5, -⟩
  .rw[hq]at h3;have:=ay h3;omega
  rw[hq]at h3;have:=ay h3;omega
 rw[fu.oth,<-h2,e]at h1;simp at h1
def Gst.view(G:Gst):Vw:=⟨G.s,G.U.m.data,G.d.out,G.d.inp,G.d.M4,G.d.M5,G.d.mask,false⟩
def deadV:Vw:=⟨St.zero,[],[],[],[],0,0,true⟩
def nilY:VAd:=⟨⟨none,0,none,0⟩,none,0,none,0,none,0,none,0⟩
abbrev vwC(v:Vw)(Y:VAd):List bL:=[slD v.s Y.X.Ad Y.X.cd,slR v.s Y.X.Ar Y.X.cr,b8 Y.Am Y.cm v.m,b8 Y.Ao Y.co v.o,b8 Y.Ai Y.ci v.i,b8 Y.Ak Y.ck v.k]
theorem Gst.ok.view{n:Nat}{G:Gst}(h:G.ok n)(ho:u8s G.d.out):G.view.wf:=⟨h.g.wf,h.g.u.m.db,ho,h.g.dv.wf.Oj,h.g.dv.wf.NS⟩
theorem Js{w:World}{v:Vw}{Y:VAd}(h:∀c,c∈vwC v Y->c.ok w)(hd:v.s.d.length*4<=140737488355328)(hr:v.s.r.length*4<=140737488355328):RdVw w v Y:=
 ⟨⟨iB (h _ (.head _)),iB (h _ (.tail _ (.head _))),hd,hr⟩,iB (h _ (.tail _ (.tail _ (.head _)))),iB (h _ (.tail _ (.tail _ (.tail _ (.head _))))),iB (h _ (.tail _ (.tail _ (.tail _ (.tail _ (.head _)))))),iB (h _ (.tail _ (.tail _ (.tail _ (.tail _ (.tail _ (.head _)))))))⟩
theorem pJ(H:rp)(G:Gst)(hG:G.ok H.L.n)(ho:G.d.out.length<=1000000000)(w:World)(h:∀c,c∈gsF H G->c.ok w):
  Ctr prog 27 [.pointer (some ⟨H.bg,0,none⟩)] w [] (λv cs=>∃Y,v=vv G.view Y/\cs=vwC G.view Y):=by
 obtain⟨s,X,Y,U,d,o⟩:=G;have hg:=hG.g;dsimp only at hg ho;obtain⟨hd16,hr16, -⟩:=St.fits hg.right;have hinp:=hg.dv.wf.inp;have hdk:=hg.dv.wf.M4;have h0:(Cs H ⟨s,X,Y,U,d,o⟩ false).ok w:=h _ cE;have hst:oJ w s X.Ad X.Ar X.cd X.cr:=⟨iB (h (slD s X.Ad X.cd) cE),iB (h (slR s X.Ar X.cr) cE),by omega,by omega⟩;have hm:(eA H.L U.m).ok w:=h _ cE;have hbu:(MD H.D H.L.bm d).ok w:=h _ cE;have hir:(pF H.D.bi d.M5 d.mask).ok w:=h _ cE;have hcn:(uc H.D.bcn Y.Ao d.out.length Y.co Y.Ai d.inp.length Y.ci).ok w:=h _ cE;have hou:(b8 Y.Ao Y.co d.out).ok w:=h _ cE;have hii:(b8 Y.Ai Y.ci d.inp).ok w:=h _ cE;have hdr:(EQ H.D.bdr H.D.bdk).ok w:=h _ cE;have hds:(Er H.D.bdk d.M4).ok w:=h _ cE;have HDr:∀w,(EQ H.D.bdr H.D.bdk).ok w->(Er H.D.bdk d.M4).ok w->Ctr prog 62 [.pointer (some ⟨H.D.bdr,0,none⟩)] w [] (λv cs=>∃A' c',v= .slice A' d.M4.length c'/\cs=[sl .u8 5 A' d.M4.length c' d.M4]):=λw h h2=>by
  have e:=IC H.D.bdr H.D.bdk d.M4 w h h2;rw[hdk];exact e
 refine bN func27 rfl ntmps27 rfl (Inv.start w) ?_;refine Z_2 ?_;refine ZN λb2=>?_;refine Z_7 ?_;refine ZFa 22 ?_;refine uv ?_;refine Z_2 ?_;refine fS ?_;refine Z_3 ?_;refine bU ⟨λj=>List.elem j [48],[]⟩ Zk ?_;refine ZE 0 ?_;refine ZE 2 ?_;refine ZE 3 ?_;refine ZFe 4 1 ?_;refine dD 5 rfl Zk Zk Zk Zk (bQ Zrf (Zv rfl)) (dy (by assumption) rfl) rfl ?_;refine ZE 7 ?_;refine ZE 8 ?_;refine ZFe 9 0 ?_;refine dD 10 rfl Zk Zk Zk Zk (bQ Zrf (Zv rfl)) (dy (by assumption) rfl) rfl ?_;refine ZE 11 ?_;refine ZFe 12 2 ?_;refine dD 13 rfl Zk Zk Zk Zk (bQ Zrf (Zv rfl)) (dy (by assumption) rfl) rfl ?_;refine ZE 15 ?_;refine ZE 16 ?_;refine ZFe 17 0 ?_;refine dD 18 rfl Zk Zk Zk Zk (bQ Zrf (Zv rfl)) (dy (by assumption) rfl) rfl ?_;refine ZE 19 ?_;refine ZFe 20 2 ?_;refine dD 21 rfl Zk Zk Zk Zk (bQ Zrf (Zv rfl)) (dy (by assumption) rfl) rfl ?_;refine ZE 23 ?_;refine ZE 24 ?_;refine ZFe 25 0 ?_;refine dD 26 rfl Zk Zk Zk Zk (bQ Zrf (Zv rfl)) (dy (by assumption) rfl) rfl ?_;refine ZE 27 ?_;refine ZFe 28 3 ?_;refine dD 29 rfl Zk Zk Zk Zk (bQ Zrf (Zv rfl)) (dy (by assumption) rfl) rfl ?_;refine ZE 31 ?_;refine ZE 32 ?_;refine ZFe 33 0 ?_;refine dD 34 rfl Zk Zk Zk Zk (bQ Zrf (Zv rfl)) (dy (by assumption) rfl) rfl ?_;refine ZE 35 ?_;refine ZFe 36 0 ?_;refine dD 37 rfl Zk Zk Zk Zk (bQ Zrf (Zv rfl)) (dy (by assumption) rfl) rfl ?_;refine ZE 39 ?_;refine ZE 40 ?_;refine ZFe 41 0 ?_;refine dD 42 rfl Zk Zk Zk Zk (bQ Zrf (Zv rfl)) (dy (by assumption) rfl) rfl ?_;refine ZE 43 ?_;refine ZFe 44 0 ?_;refine dD 45 rfl Zk Zk Zk Zk (bQ Zrf (Zv rfl)) (dy (by assumption) rfl) rfl ?_;refine cn 1 Zk ?_;refine ZT (λw hi=>i5 H ⟨s,X,Y,U,d,o⟩ w (bL.old h0 hi) (hst.MZ hi)) ?_;rintro _ _ ⟨_,⟨A1,c1,A2,c2,rfl,rfl⟩,rfl⟩;refine cn 6 Zk ?_;refine ZT (λw hi=>rall_ok H.L U.m w (bL.old hm hi)) ?_;rintro _ _ ⟨_,⟨bx,rfl,rfl⟩,rfl⟩;refine cn 14 Zk ?_;refine ZT (λw hi=>nj H.D.bcn Y.Ao Y.co d.out Y.Ai d.inp.length Y.ci ho w (bL.old hcn hi) (bL.old hou hi)) ?_;rintro _ _ ⟨_,⟨A5,c5,rfl,rfl⟩,rfl⟩;refine cn 22 Zk ?_;refine ZT (λw hi=>LC H.D.bcn Y.Ao d.out.length Y.co Y.Ai Y.ci d.inp Wq1 w (bL.old hcn hi) (bL.old hii hi)) ?_;rintro _ _ ⟨_,⟨A6,c6,rfl,rfl⟩,rfl⟩;refine cn 30 Zk ?_;refine ZT (λw hi=>HDr w (bL.old hdr hi) (bL.old hds hi)) ?_;rintro _ _ ⟨_,⟨A7,c7,rfl,rfl⟩,rfl⟩;refine cn 38 Zk ?_;refine ZT (λw hi=>qr H.D.bi d.M5 d.mask w (bL.old hir hi)) ?_;rintro _ _ ⟨_,⟨rfl,rfl⟩,rfl⟩;refine cn 46 Zk ?_;refine ZT (λw hi=>GN H.D.bi d.M5 d.mask w (bL.old hir hi)) ?_;rintro _ _ ⟨_,⟨rfl,rfl⟩,rfl⟩;refine ZE 47 ?_;refine cn 48 Zk ?_;refine ZR ?_;refine dx ?_;refine Z_2 ?_;refine bP (row b2 (Vw.cells (Gst.view ⟨s,X,Y,U,d,o⟩) ⟨⟨A1,c1,A2,c2⟩,some ⟨bx,0,none⟩,U.m.data.length,A5,c5,A6,c6,A7,c7⟩) 68::vwC (Gst.view ⟨s,X,Y,U,d,o⟩) ⟨⟨A1,c1,A2,c2⟩,some ⟨bx,0,none⟩,U.m.data.length,A5,c5,A6,c6,A7,c7⟩) Zj ?_;refine mi (cs':=(vwC (Gst.view ⟨s,X,Y,U,d,o⟩) ⟨⟨A1,c1,A2,c2⟩,some ⟨bx,0,none⟩,U.m.data.length,A5,c5,A6,c6,A7,c7⟩)) (.inl rfl) Zu rfl rfl Zh Zrf Zrf ?_;exact⟨⟨⟨A1,c1,A2,c2⟩,some ⟨bx,0,none⟩,U.m.data.length,A5,c5,A6,c6,A7,c7⟩,rfl,rfl⟩
theorem H4(H:rp)(G:Gst)(w:World)(h0:(Cs H G true).ok w):Ctr prog 27 [.pointer (some ⟨H.bg,0,none⟩)] w [] (λv cs=>v=vv deadV nilY/\cs=[]):=by
 refine bN func27 rfl ntmps27 rfl (Inv.start w) ?_;refine Z_2 ?_;refine ZN λb2=>?_;refine Z_7 ?_;refine ZFa 22 ?_;refine uv ?_;refine Z_2 ?_;refine bW rfl (rfl) ?_;refine Z_3 ?_;refine ZM ?_;refine Z_4 ?_;refine mi (cs':=[]) (.inl rfl) Zu rfl rfl Zh Zrf Zrf ?_;exact de
theorem K9(H:rp)(G:Gst)(m:Int)(w:World)(h0:(Cs H G true).ok w):Ctr prog 17 [.pointer (some ⟨H.bg,0,none⟩),.int .i64 m] w [] (λv cs=>v= .int .i64 0/\cs=[]):=by
 refine bN func17 rfl ntmps17 rfl (Inv.start w) ?_;refine dS ?_;refine ZFa 22 ?_;refine uv ?_;refine Z_2 ?_;refine bW rfl (rfl) ?_;refine Z_7 ?_;refine Zra ?_;exact de
theorem Eh(H:rp)(G:Gst)(v:Value)(w:World)(h0:(Cs H G true).ok w):Ctr prog 16 [.pointer (some ⟨H.bg,0,none⟩),v] w [] (λv cs=>v= .int .i64 0/\cs=[]):=by
 refine bN func16 rfl ntmps16 rfl (Inv.start w) ?_;refine dS ?_;refine ZFa 22 ?_;refine uv ?_;refine Z_2 ?_;refine bW rfl (rfl) ?_;refine Z_7 ?_;refine Zra ?_;exact de
theorem A0(H:rp)(G:Gst)(w:World)(h0:(Cs H G true).ok w):Ctr prog 30 [.pointer (some ⟨H.bg,0,none⟩)] w [] (λv cs=>v= .slice none 0 0/\cs=[]):=by
 refine bN func30 rfl ntmps30 rfl (Inv.start w) ?_;refine dS ?_;refine ZFa 22 ?_;refine uv ?_;refine Z_2 ?_;refine bW rfl (rfl) ?_;refine Z_7 ?_;refine Zra ?_;exact de
theorem Eg(H:rp)(G:Gst)(k:Bool)(w:World)(h0:(Cs H G k).ok w):Ctr prog 28 [.pointer (some ⟨H.bg,0,none⟩)] w [] (λv cs=>v= .bool k/\cs=[]):=by
 refine bN func28 rfl ntmps28 rfl (Inv.start w) ?_;refine Z_9 ?_;refine ZFa 22 ?_;refine uv ?_;refine Z_4 ?_;refine Zra ?_;exact de
theorem vE(H:rp)(G:Gst)(w:World)(h0:(Cs H G false).ok w)(hm:(eA H.L G.U.m).ok w):Ctr prog 30 [.pointer (some ⟨H.bg,0,none⟩)] w [] (λv cs=>∃(A:Option Addr) (c:Nat) (fs:List Int),(fs.length<=H.L.n/\Ig fs)/\v= .slice A fs.length c/\cs=[sl .i64 3 A fs.length c fs]):=by
 obtain⟨k,hr,h1, -⟩:=mg hm;refine bN func30 rfl ntmps30 rfl (Inv.start w) ?_;refine dS ?_;refine ZFa 22 ?_;refine uv ?_;refine Z_2 ?_;refine fS ?_;refine Z_3 ?_;refine bU ⟨λj=>List.elem j [],[]⟩ Zk ?_;refine gO ?_;refine ZFe 2 2 ?_;refine dD 3 rfl Zk Zk Zk Zk (bQ Zrf (Zv rfl)) (dy (by assumption) rfl) rfl ?_;refine ZE 4 ?_;refine ZE 5 ?_;refine ZFe 6 3 ?_;refine dD 7 rfl Zk Zk Zk Zk (bQ Zrf (Zv rfl)) (dy (by assumption) rfl) rfl ?_;refine cn 8 Zk ?_;refine ZT (λw hi=>AU H.L.bp k.B k.ow k.pr hr.pl H.L.o hr.o4 w (bL.old h1 hi)) ?_;rintro _ _ ⟨_,⟨A1,c1,rfl,rfl⟩,rfl⟩;refine ZE 9 ?_;refine dx ?_;refine Z_2 ?_;refine Zrb ([slv _ _ _ _ _ _]) ?_;exact⟨A1,c1,_,⟨hr.Og.1,HY hr⟩,rfl,rfl⟩
theorem Lb(H:rp)(G:Gst)(ho4:H.L.o<4)(hl:H.L.gw.length=256)(hno:∀x,x∈H.L.gw->x≠(H.L.o:Int))(w:World)(hi:Inv w (bM (gsF H G)) (gsF H G) w):
  Ctr prog 26 [.pointer (some ⟨H.bg,0,none⟩)] w (gsF H G) (λ_ cs=>∃B,(dF B H.L.gw (H.L.gp.set H.L.o (-1))/\∀f,f<256->H.L.oth f=true->∀j,j<64->B[f*64+j]? =H.L.gB[f*64+j]?)/\cs=[Cs H G true,dj H.L.bp B H.L.gw (H.L.gp.set H.L.o (-1))]):=by
 refine bN func26 rfl ntmps26 rfl hi ?_;refine Z_5 ?_;refine ZFa 22 ?_;refine Z_3 ?_;refine fS ?_;refine Z_6 ?_;refine ZFa 22 ?_;refine dH (eK Zrf rfl rfl rfl Za (Nat.le_of_ble_eq_true rfl)) ?_;rintro _ _ ⟨rfl,rfl⟩;rw[show(y8 H G false).set 22 (.bool true)=y8 H G true from rfl];refine Z_8 ?_;refine ZcL ([eA H.L G.U.m]) (λw hi hin=>Gg H.L G.U.m hl hno w hin) ?_;rintro _ _ ⟨_,⟨B,⟨e1,e2⟩,rfl⟩,rfl⟩;refine Z_2 ?_;refine bU ⟨λj=>List.elem j [8],[]⟩ Zk ?_;refine gO ?_;refine ZFe 2 2 ?_;refine ZG 3 ?_;refine ZE 4 ?_;refine ZE 5 ?_;refine ZFe 6 3 ?_;refine ZG 7 ?_;refine cn 8 Zk ?_;refine ZcA ([dj H.L.bp B H.L.gw H.L.gp]) (λw hi hin=>Ko H.L.bp B H.L.gw H.L.gp e1 H.L.o ho4 hno w hin) ?_;rintro _ _ ⟨_,⟨rfl,rfl⟩,rfl⟩;refine dx ?_;refine bP [Cs H G true,dj H.L.bp B H.L.gw (H.L.gp.set H.L.o (-1))] Zj ?_;refine jb (cs':=[Cs H G true,dj H.L.bp B H.L.gw (H.L.gp.set H.L.o (-1))]) (.inr rfl) Zu rfl ?_;exact⟨B,⟨⟨e1.b,e1.ow,by rw[aC];exact e1.pr⟩,e2⟩,rfl⟩
structure EL where
 bg:Nat
 K:RMLoc
 bx:Nat
 by_:Nat
 bd:Nat
theorem Gt:dF (List.replicate 16384 0) (List.replicate 256 (-1)) (List.replicate 4 (-1)):=⟨aI,aI,aI⟩
theorem free0:qD (List.replicate 256 (-1)) 256=240:=by decide+kernel
theorem xt(bp o n:Nat)(W:List Int)(hW:W.length=16384)(ho:o<4)(hn0:1<=n)(hn:n<=64)(A B:Option Addr)(c e:Nat)(l k:List Int)(hll:l.length<=n*64)(hlb:u8s l)(hkl:k.length<=1024)(hkb:u8s k)(tr:Bool)(w:World)(hi:Inv w (bM [dj bp W (List.replicate 256 (-1)) (List.replicate 4 (-1))]) [dj bp W (List.replicate 256 (-1)) (List.replicate 4 (-1))] w)
  (hA:∀w',dG (bM [dj bp W (List.replicate 256 (-1)) (List.replicate 4 (-1))]) w w'->Rd w' .u8 A l.length c l) (hB:∀w',dG (bM [dj bp W (List.replicate 256 (-1)) (List.replicate 4 (-1))]) w w'->Rd w' .u8 B k.length e k):
  Ctr prog 24 [.pointer (some ⟨bp,0,none⟩),.int .i64 o,imgV A c l B e k n,.bool tr] w [dj bp W (List.replicate 256 (-1)) (List.replicate 4 (-1))] (λv cs=>∃H G,Jg bp o n W (List.replicate 256 (-1)) (List.replicate 4 (-1)) l k tr H G/\v= .tuple #[.pointer (some ⟨H.bg,0,none⟩),.int .i64 0]/\cs=gsF H G):=
 gnew_ok bp W (List.replicate 256 (-1)) (List.replicate 4 (-1)) ⟨hW,aI,aI⟩ o n ho hn0 hn (by rw[List.getElem?_replicate,if_pos ho]) (by rw[show pd (List.replicate 4 (-1)) 4=0 from rfl];omega) (λx hx=>by rw[List.eq_of_mem_replicate hx];decide) (λx hx=>by rw[List.eq_of_mem_replicate hx];omega) (by rw[free0];omega) A B c e l k hll hlb hkl hkb tr w hi hA hB
end Go.Proofs.YtkegldppffignaaGreatDoor
