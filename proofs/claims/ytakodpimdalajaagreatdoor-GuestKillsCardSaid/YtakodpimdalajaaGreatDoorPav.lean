/- Lemmas. -/
import Derived.Test.YtakodpimdalajaaGreatDoorPaa
import Derived.Test.YtakodpimdalajaaGreatDoorPab
import Derived.Test.YtakodpimdalajaaGreatDoorPau
set_option linter.unusedSimpArgs false
set_option linter.unusedVariables false
set_option maxRecDepth 100000
set_option maxHeartbeats 4000000
namespace Go.Ink
open Go.RowKit
structure vA where
 kd:Int
 n:Int
 v:Int
 at_:Int
 B:Option Addr
 cb:Nat
 bs:List Int
def vA.cells(a:vA):List Value:=[.int .i64 a.kd,.int .i64 a.n,.int .u32 a.v,.int .u32 a.at_,.slice a.B a.bs.length a.cb]
theorem vA.J7(a:vA):a.cells.length=5:=rfl
structure vA.ok(W:World)(a:vA):Prop where
 v:u32 a.v
 at_:u32 a.at_
 rd:Rd W .u8 a.B a.bs.length a.cb a.bs
 bs:u8s a.bs
theorem u8s_app{a b:List Int}(h:u8s a)(h2:u8s b):u8s (a++b):=fun x hx=>(aS.1 hx).elim (h x) (h2 x)
end Go.Ink
namespace Go.Proofs.YtakodpimdalajaaGreatDoor
open Go.RowKit Go.Ink Go.Proofs.Tryz
attribute [local irreducible] OpY bP
set_option maxRecDepth 100000 in
theorem GQ{W:World}{es:List Value}(h:Arg prog W 206 es):∃a:vA,es=a.cells∧a.ok W:=by
 obtain⟨hl,hf⟩:=h.struct rfl;have hl:es.length=5:=hl
 match es,hl with
 |[c0,c1,c2,c3,c4],_=>
  have k0:Arg prog W _ [c0]:=hf 0 _ rfl;have k1:Arg prog W _ [c1]:=hf 1 _ rfl;have k2:Arg prog W _ [c2]:=hf 2 _ rfl;have k3:Arg prog W _ [c3]:=hf 3 _ rfl;have k4:Arg prog W _ [c4]:=hf 4 _ rfl;obtain⟨n0,rfl,m0⟩:=arg1 rfl k0;obtain⟨n1,rfl,m1⟩:=arg1 rfl k1;obtain⟨n2,rfl,m2⟩:=arg1 rfl k2;obtain⟨n3,rfl,m3⟩:=arg1 rfl k3;obtain⟨A2,d2,x2,e2,r2,b2,z2⟩:=k4.ints (e:=5) (k:= .u8) rfl rfl rfl;obtain rfl:c4=_:=by simpa using e2
  exact⟨⟨n0,n1,n2,n3,A2,d2,x2⟩,rfl,⟨IM m2,IM m3,r2,fun x hx=>wf_u8 (z2 x hx)⟩⟩
set_option maxRecDepth 100000 in
theorem wx{W:World}{v:Value}(h:yU prog W 65 v):∃(A:Option Addr) (c:Nat) (l:List vA),v= .slice A l.length c∧RdV W 5 A l.length c (l.flatMap vA.cells)∧∀a,a∈l→a.ok W:=by
 obtain⟨A,c,xs,h1,h2,h3,h4⟩:=yU.rows (e:=206) rfl rfl vA.J7 ⟨0,0,0,0,none,0,[]⟩ (fun es he=>GQ he) h;exact⟨A,c,xs,h1,h2,h3⟩
theorem nw(A:Option Addr)(c:Nat)(l:List (Int×Int))(hl:l.length≤3)(w:World)(h:RdV w 2 A l.length c (l.flatMap iL)):Ctr prog 9 [.slice A l.length c] w [] (fun v cs=>∃A' c' E,(u8s E∧E.length≤15)∧v= .slice A' E.length c'∧cs=[sl .u8 5 A' E.length c' E]):=
 (Fo A c l Wq1 w h).mono (fun v cs ⟨A',c',h1,h2⟩=>⟨A',c',xq l,⟨xp _ _,aV (mU _ _) Wq1⟩,h1,h2⟩)
theorem DO(A:Option Addr)(c:Nat)(l:List vA)(w:World)(h:RdV w 5 A l.length c (l.flatMap vA.cells))(hl:∀a,a∈l→a.ok w):
  Ctr prog 57 [.slice A l.length c,.int .i64 60] w [] (fun v cs=>∃A' c' E,(u8s E∧E.length≤900)∧v= .slice A' E.length c'∧cs=[sl .u8 5 A' E.length c' E]):=by
 have hlm:l.length≤maxLen:=aV h.cap h.max;simp only[maxLen]at hlm;refine bL func57 rfl ntmps57 rfl (Inv.start w) ?_;refine jA ?_;refine dy 5 1 ?_;refine Z_4 ?_;refine cw (fun q:Nat×Option Addr×Nat×List Int=>[(0,.slice A l.length c),(1,.int .i64 60),(5,.slice q.2.1 q.2.2.2.length q.2.2.1),(6,.int .i64 (q.1:Int))]) (fun q=>[sl .u8 5 q.2.1 q.2.2.2.length q.2.2.1 q.2.2.2]) (fun q=>q.1≤60∧u8s q.2.2.2∧q.2.2.2.length≤15*q.1) (fun q=>60 - q.1) (⟨0,none,0,[]⟩) ?_ ?_ ?_ ?_
 ·exact⟨au _,fun x hx=>(by cases hx),aN _⟩
 ·exact Zwk
 ·exact Zu
 rintro⟨i,A1,c1,o⟩ ⟨hi60,ho1,ho2⟩;dsimp only at hi60 ho1 ho2⊢;refine gL ?_;refine ZW ?_ ?_<;>intro hc3
 ·have hil:i<l.length∧i<60:=(by revert hc3;cases h1:decide ((i:Int)<(l.length:Int))<;>cases h2:decide ((i:Int)<60)<;>simp_all<;>omega);obtain⟨ad,rfl⟩:=h.some_ Wq1;have hla:l[i]? =some (l[i]'hil.1):=ai hil.1;have hok:=hl _ (List.getElem_mem hil.1);obtain⟨r,hr⟩:=Zgn (l[i]'hil.1);rw[hr]at hla hok;obtain⟨kd,n,v,at_,B,cb,bs⟩:=r;obtain⟨hv,hat,hrd,hbs⟩:=hok;dsimp only at hv hat hrd hbs;obtain⟨v,rfl⟩:∃m:Nat,v=m:=aq hv.1;obtain⟨a,rfl⟩:∃m:Nat,at_=m:=aq hat.1;have hv2:=hv.2;have ha2:=hat.2;obtain⟨km,hkm⟩:=Zgn (jG kd 0 1000);have HW:=fun w=>hkm▸nI kd 0 1000 w Wq5 Wq5 Wq5
  have hb9:=lR hrd 9;have hE2:(bs.take 9).length≤9:=(by rw[aC];omega);have hE1:u8s (bs.take 9):=(fun x hx=>hbs x (List.mem_of_mem_take hx));have HCut:=fun w=>Fj B cb bs 9 w hrd.cap
  obtain⟨E,hb9e⟩:=Zgn (bs.take 9);rw[hb9e]at hb9 hE2 hE1 HCut;have HI1:=zM n a hat;have HI2:=zM n v hv;obtain⟨sop,hs⟩:∃y,([49,51,53]:List Int)[v%3]? =some y:=⟨_,ai (show v%3<3 by omega)⟩;obtain⟨lop,hlo⟩:∃y,([48,50,52]:List Int)[v%3]? =some y:=⟨_,ai (show v%3<3 by omega)⟩;refine Z_8 ?_;refine Zy (cU (j:=i) rfl Zrf (Zv rfl) (Zv rfl) Wq4 Wq4) ?_;refine dL (cn (vs:=[.int .i64 kd,.int .i64 n,.int .u32 (v:Int),.int .u32 (a:Int),.slice B bs.length cb]) Zrf Zrf Zv0) (fv h (fun j v hj=>fB vA.J7 (i:=j) hla hj)) rfl ?_;refine ZN fun b7=>?_
  refine ZM ?_;refine Z_7 ?_;refine ZN fun b8=>?_
  refine ZM ?_;refine Z_6 ?_;refine Zy (gy (Zv rfl) (Zv rfl) Wq1 (show _=((a%300:Nat):Int)from by rw[aF Wq1];omega)) ?_;refine ZA ?_;refine ZN fun b9=>?_
  refine ZM ?_;refine Z_6 ?_;refine ZSe (fun w hi=>HW w) ?_;refine Zy (gy (Zv rfl) (Zv rfl) Wq1 (by first|exact IntWalk.rem_in _ _ Wq1|exact rfl)) ?_;refine Z_9 ?_;refine ZW ?_ ?_<;>intro hc10
  ·refine jk ⟨fun j=>List.elem j [12],[]⟩ [(0,0),(1,4),(2,4),(4,0),(5,4),(6,0),(3,2),(7,0),(8,4),(9,0),(10,2),(11,2),(12,2),(13,0)] Zk Zk ?_;refine cT rfl (fP Zv0) rfl ?_;refine jE rfl Zh Zrf Zrf (Zv rfl) rfl ?_;refine jE rfl Zh Zrf Zrf (Zv rfl) rfl ?_;refine cT rfl (dN 2 rfl Zv0 Zf) rfl ?_;refine jr rfl (bO Zrf Zv0) (cB Zh rfl) rfl ?_;refine cT rfl (gy (Zv rfl) (Zv rfl) Wq1 (show _=((v%3:Nat):Int)from by rw[aF Wq1];omega)) rfl ?_;refine gM rfl ?_;refine fD rfl rfl (io rfl rfl Zrf Zrf rfl rfl) ZJ rfl ?_;rintro _ _ ⟨b50,rfl,rfl⟩;refine cT rfl (cu (j:=(v%3)) (sz:=1) (r:=(v%3)) rfl Zrf (Zv rfl) (Zv rfl) Wq4 Wq4 Wq1) rfl ?_;refine jr rfl (bO Zrf Zv0) (du Zh (cQ (l:=[49,51,53]) hs)) rfl ?_;refine cT rfl (qF rfl rfl Zrf rfl rfl rfl Zb) rfl ?_;refine gM rfl ?_;refine fD rfl rfl (da rfl rfl Zrf Zrf rfl rfl rfl) ZJ rfl ?_;rintro _ _ ⟨b57,rfl,rfl⟩;refine gM rfl ?_;refine fD rfl rfl (eW rfl (fun _ _=>rfl) (fun w hi=>nw (some ⟨b57,0,none⟩) 3 [(2,(v:Int)),(2,((a%300:Nat):Int)),(sop,0)] cJ w (hi.rd (show Has _ (slv 24 2 (some ⟨b57,0,none⟩) 3 3 ([(2,(v:Int)),(2,((a%300:Nat):Int)),(sop,0)].flatMap iL))from Zh)))) ZJ rfl ?_;rintro _ _ ⟨_,⟨A2,c2,E,⟨hE1,hE2⟩,rfl,rfl⟩,rfl⟩;refine gM rfl ?_;refine fD rfl rfl (cC (e:=5) (sz:=1) (bytes:=1) rfl rfl Za rfl rfl (fun w hi=>hi.rd (show Has _ (sl .u8 5 A2 E.length c2 E)from Zh)) cO g9 Wq1) ZJ rfl ?_;rintro _ _ ⟨A3,c3,rfl,rfl⟩;rw[cj,←ae];refine cT rfl (fm Zv0) rfl ?_;refine eP ?_;refine Z_5 ?_;refine Wq8 ?_;refine bY ((⟨i+1,A3,c3,o++E⟩:Nat×Option Addr×Nat×List Int)) ?_ ?_ ?_
   ·exact Jh
   ·exact Zwk
   exact Zj
  refine Z_6 ?_;refine ZW ?_ ?_<;>intro hc12
  ·refine jk ⟨fun j=>List.elem j [11],[]⟩ [(0,0),(1,4),(3,0),(4,4),(5,0),(2,2),(6,0),(7,4),(8,0),(9,2),(10,2),(11,2),(12,0)] Zk Zk ?_;refine cT rfl (fP Zv0) rfl ?_;refine jE rfl Zh Zrf Zrf (Zv rfl) rfl ?_;refine cT rfl (dN 2 rfl Zv0 Zf) rfl ?_;refine jr rfl (bO Zrf Zv0) (cB Zh rfl) rfl ?_;refine cT rfl (gy (Zv rfl) (Zv rfl) Wq1 (show _=((v%3:Nat):Int)from by rw[aF Wq1];omega)) rfl ?_;refine gM rfl ?_;refine fD rfl rfl (io rfl rfl Zrf Zrf rfl rfl) ZJ rfl ?_;rintro _ _ ⟨b64,rfl,rfl⟩;refine cT rfl (cu (j:=(v%3)) (sz:=1) (r:=(v%3)) rfl Zrf (Zv rfl) (Zv rfl) Wq4 Wq4 Wq1) rfl ?_;refine jr rfl (bO Zrf Zv0) (du Zh (cQ (l:=[48,50,52]) hlo)) rfl ?_;refine cT rfl (qF rfl rfl Zrf rfl rfl rfl Zb) rfl ?_;refine gM rfl ?_;refine fD rfl rfl (da rfl rfl Zrf Zrf rfl rfl rfl) ZJ rfl ?_;rintro _ _ ⟨b71,rfl,rfl⟩;refine gM rfl ?_;refine fD rfl rfl (eW rfl (fun _ _=>rfl) (fun w hi=>nw (some ⟨b71,0,none⟩) 2 [(2,((a%300:Nat):Int)),(lop,0)] cJ w (hi.rd (show Has _ (slv 24 2 (some ⟨b71,0,none⟩) 2 2 ([(2,((a%300:Nat):Int)),(lop,0)].flatMap iL))from Zh)))) ZJ rfl ?_;rintro _ _ ⟨_,⟨A2,c2,E,⟨hE1,hE2⟩,rfl,rfl⟩,rfl⟩;refine gM rfl ?_;refine fD rfl rfl (cC (e:=5) (sz:=1) (bytes:=1) rfl rfl Za rfl rfl (fun w hi=>hi.rd (show Has _ (sl .u8 5 A2 E.length c2 E)from Zh)) cO g9 Wq1) ZJ rfl ?_;rintro _ _ ⟨A3,c3,rfl,rfl⟩;rw[cj,←ae];refine cT rfl (fm Zv0) rfl ?_;refine eP ?_;refine Z_5 ?_;refine Wq8 ?_;refine bY ((⟨i+1,A3,c3,o++E⟩:Nat×Option Addr×Nat×List Int)) ?_ ?_ ?_
   ·exact Jh
   ·exact Zwk
   exact Zj
  refine Z_6 ?_;refine ZW ?_ ?_<;>intro hc14
  ·refine Z_4 ?_;refine Zy (gy (Zv rfl) (Zv rfl) Wq1 (show _=((a%13:Nat):Int)from by rw[aF Wq1];omega)) ?_;refine Zy (i4 (Zv rfl) (Zv rfl) (show _=((a%13*4:Nat):Int)from by rw[u32_wrap_id _ Wq1 Wq1];omega)) ?_;refine Zy (cX (Zv rfl) (Zv rfl) (show _=((32768+a%13*4:Nat):Int)from by rw[u32_wrap_id _ Wq1 Wq1];omega)) ?_;refine Z_1 ?_;refine ZL ?_;refine Z_6 ?_;refine Zy (gy (Zv rfl) (Zv rfl) Wq1 (show _=((v%3:Nat):Int)from by rw[aF Wq1];omega)) ?_;refine Z_3 ?_;refine ZW ?_ ?_<;>intro hc16
   ·refine Z_4 ?_;refine fb (da rfl rfl Zrf Zrf rfl rfl rfl) rfl ?_;rintro _ _ ⟨b89,rfl,rfl⟩;refine ZS (fun w hi=>nw (some ⟨b89,0,none⟩) 2 [(2,((32768+a%13*4:Nat):Int)),(48,0)] cJ w (hi.rd (show Has _ (slv 24 2 (some ⟨b89,0,none⟩) 2 2 ([(2,((32768+a%13*4:Nat):Int)),(48,0)].flatMap iL))from Zh))) ?_;rintro _ _ ⟨_,⟨A2,c2,E,⟨hE1,hE2⟩,rfl,rfl⟩,rfl⟩;refine fb (cC (e:=5) (sz:=1) (bytes:=1) rfl rfl Za rfl rfl (fun w hi=>hi.rd (show Has _ (sl .u8 5 A2 E.length c2 E)from Zh)) cO g9 Wq1) rfl ?_;rintro _ _ ⟨A3,c3,rfl,rfl⟩;rw[cj,←ae];refine Z_7 ?_;refine Wq8 ?_;refine bY ((⟨i+1,A3,c3,o++E⟩:Nat×Option Addr×Nat×List Int)) ?_ ?_ ?_
    ·exact Jh
    ·exact Zwk
    exact Zj
   refine Z_4 ?_;refine Zy (gy (Zv rfl) (Zv rfl) Wq1 (show _=((v%256:Nat):Int)from by rw[aF Wq1];omega)) ?_;refine Z_3 ?_;refine fb (da rfl rfl Zrf Zrf rfl rfl rfl) rfl ?_;rintro _ _ ⟨b99,rfl,rfl⟩;refine ZS (fun w hi=>nw (some ⟨b99,0,none⟩) 3 [(1,((v%256:Nat):Int)),(2,((32768+a%13*4:Nat):Int)),(49,0)] cJ w (hi.rd (show Has _ (slv 24 2 (some ⟨b99,0,none⟩) 3 3 ([(1,((v%256:Nat):Int)),(2,((32768+a%13*4:Nat):Int)),(49,0)].flatMap iL))from Zh))) ?_;rintro _ _ ⟨_,⟨A2,c2,E,⟨hE1,hE2⟩,rfl,rfl⟩,rfl⟩;refine fb (cC (e:=5) (sz:=1) (bytes:=1) rfl rfl Za rfl rfl (fun w hi=>hi.rd (show Has _ (sl .u8 5 A2 E.length c2 E)from Zh)) cO g9 Wq1) rfl ?_;rintro _ _ ⟨A3,c3,rfl,rfl⟩;rw[cj,←ae];refine Z_7 ?_;refine Wq8 ?_;refine bY ((⟨i+1,A3,c3,o++E⟩:Nat×Option Addr×Nat×List Int)) ?_ ?_ ?_
   ·exact Jh
   ·exact Zwk
   exact Zj
  refine Z_6 ?_;refine ZW ?_ ?_<;>intro hc19
  ·refine Z_4 ?_;refine Zy (gy (Zv rfl) (Zv rfl) Wq1 (show _=((v%256:Nat):Int)from by rw[aF Wq1];omega)) ?_;refine Z_3 ?_;refine Zy (gy (Zv rfl) (Zv rfl) Wq1 (show _=((a%12:Nat):Int)from by rw[aF Wq1];omega)) ?_;refine ZA ?_;refine fb (da rfl rfl Zrf Zrf rfl rfl rfl) rfl ?_;rintro _ _ ⟨b113,rfl,rfl⟩;refine ZS (fun w hi=>nw (some ⟨b113,0,none⟩) 2 [(1,((v%256:Nat):Int)),(67,((a%12:Nat):Int))] cJ w (hi.rd (show Has _ (slv 24 2 (some ⟨b113,0,none⟩) 2 2 ([(1,((v%256:Nat):Int)),(67,((a%12:Nat):Int))].flatMap iL))from Zh))) ?_;rintro _ _ ⟨_,⟨A2,c2,E,⟨hE1,hE2⟩,rfl,rfl⟩,rfl⟩;refine fb (cC (e:=5) (sz:=1) (bytes:=1) rfl rfl Za rfl rfl (fun w hi=>hi.rd (show Has _ (sl .u8 5 A2 E.length c2 E)from Zh)) cO g9 Wq1) rfl ?_;rintro _ _ ⟨A3,c3,rfl,rfl⟩;rw[cj,←ae];refine Z_7 ?_;refine Wq8 ?_;refine bY ((⟨i+1,A3,c3,o++E⟩:Nat×Option Addr×Nat×List Int)) ?_ ?_ ?_
   ·exact Jh
   ·exact Zwk
   exact Zj
  refine Z_6 ?_;refine ZW ?_ ?_<;>intro hc21
  ·refine Z_4 ?_;refine ZSe (fun w hi=>HCut w) ?_;refine fb (cC (e:=5) (sz:=1) (bytes:=1) rfl rfl Za rfl rfl (fun w hi=>hb9.Jz hi) cO g9 Wq1) rfl ?_;rintro _ _ ⟨A3,c3,rfl,rfl⟩;rw[cj,←ae];refine Z_7 ?_;refine Wq8 ?_;refine bY ((⟨i+1,A3,c3,o++E⟩:Nat×Option Addr×Nat×List Int)) ?_ ?_ ?_
   ·exact Jh
   ·exact Zwk
   exact Zj
  refine Z_6 ?_;refine ZW ?_ ?_<;>intro hc23
  ·refine jk ⟨fun j=>List.elem j [12],[]⟩ [(0,0),(1,0),(2,4),(3,0),(4,0),(5,0),(6,4),(7,0),(8,4),(9,2),(10,2),(11,2),(12,2),(13,0)] Zk Zk ?_;refine cT rfl (fP Zv0) rfl ?_;refine cT rfl (dN 2 rfl Zv0 Zf) rfl ?_;refine jr rfl (bO Zrf Zv0) (cB Zh rfl) rfl ?_;refine cT rfl (gy (Zv rfl) (Zv rfl) Wq1 (show _=((v%256:Nat):Int)from by rw[aF Wq1];omega)) rfl ?_;refine cT rfl (qF rfl rfl Zrf rfl rfl rfl Zb) rfl ?_;refine cT rfl (dN 1 rfl Zv0 Zf) rfl ?_;refine jr rfl (bO Zrf Zv0) (cB Zh rfl) rfl ?_;refine cT rfl (dN 3 rfl Zv0 Zf) rfl ?_;refine jr rfl (bO Zrf Zv0) (cB Zh rfl) rfl ?_;refine gM rfl ?_;refine fD rfl rfl (eW rfl (fun _ _=>rfl) (fun w hi=>HI1 w)) ZJ rfl ?_;rintro _ _ ⟨_,⟨⟨op,nn,rfl,hnu, -⟩,rfl⟩,rfl⟩;refine gM rfl ?_;refine fD rfl rfl (da rfl rfl Zrf Zrf rfl rfl rfl) ZJ rfl ?_;rintro _ _ ⟨b135,rfl,rfl⟩;refine gM rfl ?_;refine fD rfl rfl (eW rfl (fun _ _=>rfl) (fun w hi=>nw (some ⟨b135,0,none⟩) 2 [(1,((v%256:Nat):Int)),(op,nn)] cJ w (hi.rd (show Has _ (slv 24 2 (some ⟨b135,0,none⟩) 2 2 ([(1,((v%256:Nat):Int)),(op,nn)].flatMap iL))from Zh)))) ZJ rfl ?_;rintro _ _ ⟨_,⟨A2,c2,E,⟨hE1,hE2⟩,rfl,rfl⟩,rfl⟩;refine gM rfl ?_;refine fD rfl rfl (cC (e:=5) (sz:=1) (bytes:=1) rfl rfl Za rfl rfl (fun w hi=>hi.rd (show Has _ (sl .u8 5 A2 E.length c2 E)from Zh)) cO g9 Wq1) ZJ rfl ?_;rintro _ _ ⟨A3,c3,rfl,rfl⟩;rw[cj,←ae];refine cT rfl (fm Zv0) rfl ?_;refine eP ?_;refine Z_5 ?_;refine Wq8 ?_;refine bY ((⟨i+1,A3,c3,o++E⟩:Nat×Option Addr×Nat×List Int)) ?_ ?_ ?_
   ·exact Jh
   ·exact Zwk
   exact Zj
  refine Z_6 ?_;refine ZS (fun w hi=>HI2 w) ?_;rintro _ _ ⟨_,⟨⟨op,nn,rfl,hnu, -⟩,rfl⟩,rfl⟩;refine fb (da rfl rfl Zrf Zrf rfl rfl rfl) rfl ?_;rintro _ _ ⟨b42,rfl,rfl⟩;refine ZS (fun w hi=>nw (some ⟨b42,0,none⟩) 1 [(op,nn)] cJ w (hi.rd (show Has _ (slv 24 2 (some ⟨b42,0,none⟩) 1 1 ([(op,nn)].flatMap iL))from Zh))) ?_;rintro _ _ ⟨_,⟨A2,c2,E,⟨hE1,hE2⟩,rfl,rfl⟩,rfl⟩;refine fb (cC (e:=5) (sz:=1) (bytes:=1) rfl rfl Za rfl rfl (fun w hi=>hi.rd (show Has _ (sl .u8 5 A2 E.length c2 E)from Zh)) cO g9 Wq1) rfl ?_;rintro _ _ ⟨A3,c3,rfl,rfl⟩;rw[cj,←ae];refine Z_7 ?_;refine Wq8 ?_;refine bY ((⟨i+1,A3,c3,o++E⟩:Nat×Option Addr×Nat×List Int)) ?_ ?_ ?_
  ·exact Jh
  ·exact Zwk
  exact Zj
 refine gE ?_;refine Zrb ([slv _ _ _ _ _ _]) ?_;exact⟨A1,c1,o,⟨ho1,by omega⟩,rfl,rfl⟩
theorem zN(A B:Option Addr)(c e:Nat)(l:List vA)(Jl:Int)(k:List Int)(hk:u8s k)(w:World)(h:RdV w 5 A l.length c (l.flatMap vA.cells))(hl:∀a,a∈l→a.ok w)(hB:Rd w .u8 B k.length e k):
  Ctr prog 21 [.slice A l.length c,.int .i64 Jl,.slice B k.length e] w [] (fun v cs=>∃(A':Option Addr) (c':Nat) (E E2:List Int) (n:Nat),(u8s E∧(1≤n∧n≤16)∧(E.take (n*64)).length≤n*64)∧v=imgV A' c' (E.take (n*64)) B e (k.take 1024) n∧cs=[sl .u8 5 A' E.length c' E]):=by
 have HP:=DO A c l;obtain⟨m,hm⟩:=Zgn (jG Jl 0 15);have hmr:=mD Jl 0 15 Wq5;rw[hm]at hmr;have HW:=fun w=>hm▸nI Jl 0 15 w Wq5 Wq5 Wq5
 obtain⟨n0,rfl⟩:∃q:Nat,m=q:=aq hmr.1;have HK:=fun w=>Fj B e k 1024 w hB.cap
 refine bL func21 rfl ntmps21 rfl (Inv.start w) ?_;refine Z_2 ?_;refine ZN fun b6=>?_;refine Z_5 ?_;refine ZSe (fun w hi=>HW w) ?_;refine Zy (cX (Zv rfl) (Zv rfl) (show _=((1+n0:Nat):Int)from by rw[IntWalk.i64_in _ ⟨by omega,by omega⟩];omega)) ?_;refine Z_6 ?_;refine ZS (fun w hi=>HP w (h.Jz hi) (fun a ha=>⟨(hl a ha).v,(hl a ha).at_,(hl a ha).rd.Jz hi,(hl a ha).bs⟩)) ?_;rintro _ _ ⟨_,⟨A1,c1,E,⟨hE1,hE2⟩,rfl,rfl⟩,rfl⟩;refine ZA ?_;refine Zy (i4 (Zv rfl) (Zv rfl) (show _=(((1+n0)*64:Nat):Int)from by rw[IntWalk.i64_in _ ⟨by omega,by omega⟩];omega)) ?_;refine ZSe (fun w hi=>Fj A1 c1 E ((1+n0)*64) w (hi.rd (show Has _ (sl .u8 5 A1 E.length c1 E)from Zh)).cap) ?_;refine ZA ?_;refine ZSe (fun w hi=>HK w) ?_;refine Z_2 ?_;refine ZM ?_;refine Z_3 ?_;refine bN [row b6 [.slice A1 (E.take ((1+n0)*64)).length c1,.slice B (k.take 1024).length e,.int .i64 ((1+n0:Nat):Int)] 32,sl .u8 5 A1 E.length c1 E] Zj ?_;refine lP (cs':=[sl .u8 5 A1 E.length c1 E]) (.inl rfl) Zu rfl rfl Zh Zrf Zrf ?_;exact⟨A1,c1,E,[],1+n0,⟨hE1,⟨by omega,by omega⟩,by rw[aC];omega⟩,rfl,rfl⟩
end Go.Proofs.YtakodpimdalajaaGreatDoor
namespace Go.Ink
open Go.RowKit
theorem IV{n:Nat}{m f:Int}(hm:m≤100000){o0 i:Nat}{q:St×Mmu×Dev}(h:sU n m f o0 i q):i≤1000000:=by
 obtain⟨c,h3,h4,h5,h6⟩:=h.cnt;cases e:decide (0<m)with
 |true=>rw[e,ac]at h6;omega
 |false=>rw[e,aa]at h6;omega
theorem v7{n:Nat}{m f:Int}(hm:m≤100000){o0:Nat}:∀(k i:Nat) (q:St×Mmu×Dev),sU n m f o0 i q→m.toNat≤i+k→∃i',sU n m f o0 i' (lr n m f k q)∧eT m f (lr n m f k q).1=false
 |0,i,q,h,hk=>by
  refine⟨i,h,?_⟩;cases hc:eT m f q.1 with
  |false=>exact hc
  |true=>have:=(qn Wq1 (IV hm h) h hc).2;omega
 |k+1,i,q,h,hk=>by
  cases hc:eT m f q.1 with
  |false=>rw[kB hc];exact⟨i,h,hc⟩
  |true=>
   rw[qo hc];exact v7 hm k (i+1) _ (qn Wq1 (IV hm h) h hc).1 Wq1
theorem Bq{n:Nat}{m:Int}(hm:m≤100000){s:St}{U:Mmu}{d:Dev}(h:GOk n s U d):
  ∃c:Nat,IntKind.u64.wrap ((ib n m s U d).1.count - s.count)=(c:Int)∧c<100008∧
   ((decide (m<1)||s.halted)=true→c=0∧ib n m s U d=(s,U,d))∧
   ((decide (m<1)||s.halted)=false→((ib n m s U d).1.halted||decide (m≤(c:Int)))=true∧(c:Int)<m+8):=by
 have h0:sU n m s.count d.out.length 0 (s,U,d):=⟨h,aN _,0,by show IntKind.u64.wrap (s.count - s.count)=0;rw[Int.sub_self];rfl,aN _,aN _,by cases hd:decide (0<m)with|false=>(show(0:Int)<0+8;omega)|true=>(simp only[ak]at hd;show(0:Int)<m+8;omega)⟩;cases hc:(decide (m<1)||s.halted)with
 |true=>
  have e:ib n m s U d=(s,U,d):=by
   unfold ib;exact kB (by
    unfold eT;cases hh:s.halted with
    |true=>simp
    |false=>rw[hh,Bool.or_false,ak]at hc;rw[az (show¬0<m by omega)];rfl)
  refine⟨0,?_,by omega,fun _=>⟨rfl,e⟩,(by intro q;cases q)⟩;rw[e];show IntKind.u64.wrap (s.count - s.count)=0;rw[Int.sub_self];rfl
 |false=>
  have hm1:¬m<1:=fun q=>by rw[ay q]at hc;cases hc
  obtain⟨i',r1,r2⟩:=v7 hm m.toNat 0 (s,U,d) h0 Wq1;obtain⟨c,h3,h4,h5,h6⟩:=r1.cnt;rw[ay (show 0<m by omega),ac]at h6;refine⟨c,h3,by omega,(by intro q;cases q),fun _=>⟨?_,h6⟩⟩;unfold eT at r2;rw[h3,ay (show 0<m by omega),Bool.true_and]at r2;show((lr n m s.count m.toNat (s,U,d)).1.halted||decide (m≤(c:Int)))=true;cases hh:(lr n m s.count m.toNat (s,U,d)).1.halted with
  |true=>rfl
  |false=>
   rw[hh]at r2;simp only[Bool.not_false,Bool.true_and,ah]at r2;rw[Bool.false_or,ak];omega
end Go.Ink
namespace Go.Proofs.YtakodpimdalajaaGreatDoor
open Go.RowKit Go.Ink Go.Proofs.Tryz
attribute [local irreducible] OpY bP
theorem AT(n lo hi:Int)(w:World)(h0: -1000≤lo)(h1:lo≤hi)(h2:hi≤1000000000000):Ctr prog 12 [.int .i64 n,.int .i64 lo,.int .i64 hi] w [] (fun v cs=>v= .int .i64 (jG n lo hi)∧cs=[]):=by
 obtain⟨m,hm⟩:∃m,m=hi - lo+1:=⟨_,rfl⟩;obtain⟨t,ht⟩:∃t,t=n.tmod m:=⟨_,rfl⟩;have e1:t<m:=by rw[ht];exact Int.tmod_lt_of_pos _ Wq1
 have e2: - m<t:=by
  have:=Int.tmod_lt_of_pos (-n) (b:=m) Wq1;rw[Int.neg_tmod]at this;omega
 have e3:t%m=n%m:=by
  rw[ht,Int.tmod_eq_emod];split
  ·simp
  rw[Int.natAbs_of_nonneg Wq1];simp
 rw[hm]at ht e1 e2;refine bL func12 rfl ntmps12 rfl (Inv.start w) ?_;refine dS ?_;refine Zy (dY Zv0 Zv0 Zl) ?_;refine Zy (cX Zv0 Zv0 Zl) ?_;refine Zy (gy (Zv rfl) (Zv rfl) Wq1 (show _=t from by rw[ht])) ?_;refine dS ?_;refine ZW ?_ ?_<;>intro hc2
 ·refine Z_3 ?_;refine Zy (cX Zv0 Zv0 Zl) ?_;refine ZA ?_;refine Zy (dY Zv0 Zv0 Zl) ?_;refine Zy (cX Zv0 Zv0 Zl) ?_;refine Z_7 ?_;refine Zy (cX Zv0 Zv0 Zl) ?_;refine Z_4 ?_;refine Zra ?_;simp only[ak]at hc2;refine⟨congrArg _ ?_,rfl⟩;unfold jG;rw[←hm,←e3];have e4:(t+m)%m=t%m:=by simp
  rw[←e4,Int.emod_eq_of_lt Wq1 Wq1];omega
 refine Z_6 ?_;refine Zy (cX Zv0 Zv0 Zl) ?_;refine Z_4 ?_;refine Zra ?_;simp only[ah]at hc2;refine⟨congrArg _ ?_,rfl⟩;unfold jG;rw[←hm,←e3,Int.emod_eq_of_lt Wq1 Wq1]
end Go.Proofs.YtakodpimdalajaaGreatDoor
namespace Go.Ink
open Go.RowKit
abbrev codeG:List (Int×Int):=[(1,65),(2,32784),(49,0),(69,0)]
theorem Ay:xq codeG=[1,65,2,16,128,0,0,49,69]:=by decide
def I1(q:St×Mmu×Dev):Bool:=q.1.halted&&(q.1.count==4)&&(q.2.2.out==[65])&&(q.2.2.inp==[])
theorem BS:I1 (ib 2 9 St.new ⟨Mem.load 2 [1,65,2,16,128,0,0,49,69],eE⟩ (Dev.init []))=true:=by decide+kernel
end Go.Ink
namespace Go.Proofs.YtakodpimdalajaaGreatDoor
open Go.RowKit Go.Ink Go.Proofs.Tryz
attribute [local irreducible] OpY bP
def Gst.view(G:Gst):Vw:=⟨G.s,G.U.m.data,G.d.out,G.d.inp,G.d.JE,G.d.JH,G.d.mask,false⟩
def Ce:Vw:=⟨St.zero,[],[],[],[],0,0,true⟩
def nilY:VAd:=⟨⟨none,0,none,0⟩,none,0,none,0,none,0,none,0⟩
abbrev vwC(v:Vw)(Y:VAd):List bJ:=[slD v.s Y.X.Ad Y.X.cd,slR v.s Y.X.Ar Y.X.cr,b8 Y.Am Y.cm v.m,b8 Y.Ao Y.co v.o,b8 Y.Ai Y.ci v.i,b8 Y.Ak Y.ck v.k]
theorem Gst.ok.view{n:Nat}{G:Gst}(h:G.ok n)(ho:u8s G.d.out):G.view.wf:=⟨h.g.wf,h.g.u.m.db,ho,h.g.dv.wf.inpb,h.g.dv.wf.Kk⟩
theorem vw_rd{w:World}{v:Vw}{Y:VAd}(h:∀c,c∈vwC v Y→c.ok w)(hd:v.s.d.length*4≤140737488355328)(hr:v.s.r.length*4≤140737488355328):Ji w v Y:=
 ⟨⟨gX (h _ (.head _)),gX (h _ (.tail _ (.head _))),hd,hr⟩,gX (h _ (.tail _ (.tail _ (.head _)))),gX (h _ (.tail _ (.tail _ (.tail _ (.head _))))),gX (h _ (.tail _ (.tail _ (.tail _ (.tail _ (.head _)))))),gX (h _ (.tail _ (.tail _ (.tail _ (.tail _ (.tail _ (.head _)))))))⟩
theorem Hy(H:xG)(G:Gst)(hG:G.ok H.L.n)(ho:G.d.out.length≤1000000000)(w:World)(h:∀c,c∈gsF H G→c.ok w):
  Ctr prog 27 [.pointer (some ⟨H.bg,0,none⟩)] w [] (fun v cs=>∃Y,v=vv G.view Y∧cs=vwC G.view Y):=by
 obtain⟨s,X,Y,U,d,o⟩:=G;have hg:=hG.g;dsimp only at hg ho;obtain⟨hd16,hr16, -⟩:=St.fits hg.right;have hinp:=hg.dv.wf.inp;have hdk:=hg.dv.wf.JE;have h0:(zW H ⟨s,X,Y,U,d,o⟩ false).ok w:=h _ cJ;have hst:lA w s X.Ad X.Ar X.cd X.cr:=⟨gX (h (slD s X.Ad X.cd) cJ),gX (h (slR s X.Ar X.cr) cJ),by omega,by omega⟩;have hm:(ek H.L U.m).ok w:=h _ cJ;have hbu:(Jd H.D H.L.bm d).ok w:=h _ cJ;have hir:(po H.D.bi d.JH d.mask).ok w:=h _ cJ;have hcn:(xn H.D.bcn Y.Ao d.out.length Y.co Y.Ai d.inp.length Y.ci).ok w:=h _ cJ;have hou:(b8 Y.Ao Y.co d.out).ok w:=h _ cJ;have hii:(b8 Y.Ai Y.ci d.inp).ok w:=h _ cJ;have hdr:(Cs H.D.bdr H.D.bdk).ok w:=h _ cJ;have hds:(yK H.D.bdk d.JE).ok w:=h _ cJ;have HDr:∀w,(Cs H.D.bdr H.D.bdk).ok w→(yK H.D.bdk d.JE).ok w→Ctr prog 69 [.pointer (some ⟨H.D.bdr,0,none⟩)] w [] (fun v cs=>∃A' c',v= .slice A' d.JE.length c'∧cs=[sl .u8 5 A' d.JE.length c' d.JE]):=fun w h h2=>by
  have e:=Fe H.D.bdr H.D.bdk d.JE w h h2;rw[hdk];exact e
 refine bL func27 rfl ntmps27 rfl (Inv.start w) ?_;refine Z_2 ?_;refine ZN fun b2=>?_;refine Z_7 ?_;refine ZFa 22 ?_;refine sB ?_;refine Z_2 ?_;refine gx ?_;refine Z_3 ?_;refine bR ⟨fun j=>List.elem j [48],[]⟩ Zk ?_;refine ZE 0 ?_;refine ZE 2 ?_;refine ZE 3 ?_;refine ZFe 4 1 ?_;refine dm 5 rfl Zk Zk Zk Zk (bO Zrf (Zv rfl)) (cS (by assumption) rfl) rfl ?_;refine ZE 7 ?_;refine ZE 8 ?_;refine ZFe 9 0 ?_;refine dm 10 rfl Zk Zk Zk Zk (bO Zrf (Zv rfl)) (cS (by assumption) rfl) rfl ?_;refine ZE 11 ?_;refine ZFe 12 2 ?_;refine dm 13 rfl Zk Zk Zk Zk (bO Zrf (Zv rfl)) (cS (by assumption) rfl) rfl ?_;refine ZE 15 ?_;refine ZE 16 ?_;refine ZFe 17 0 ?_;refine dm 18 rfl Zk Zk Zk Zk (bO Zrf (Zv rfl)) (cS (by assumption) rfl) rfl ?_;refine ZE 19 ?_;refine ZFe 20 2 ?_;refine dm 21 rfl Zk Zk Zk Zk (bO Zrf (Zv rfl)) (cS (by assumption) rfl) rfl ?_;refine ZE 23 ?_;refine ZE 24 ?_;refine ZFe 25 0 ?_;refine dm 26 rfl Zk Zk Zk Zk (bO Zrf (Zv rfl)) (cS (by assumption) rfl) rfl ?_;refine ZE 27 ?_;refine ZFe 28 3 ?_;refine dm 29 rfl Zk Zk Zk Zk (bO Zrf (Zv rfl)) (cS (by assumption) rfl) rfl ?_;refine ZE 31 ?_;refine ZE 32 ?_;refine ZFe 33 0 ?_;refine dm 34 rfl Zk Zk Zk Zk (bO Zrf (Zv rfl)) (cS (by assumption) rfl) rfl ?_;refine ZE 35 ?_;refine ZFe 36 0 ?_;refine dm 37 rfl Zk Zk Zk Zk (bO Zrf (Zv rfl)) (cS (by assumption) rfl) rfl ?_;refine ZE 39 ?_;refine ZE 40 ?_;refine ZFe 41 0 ?_;refine dm 42 rfl Zk Zk Zk Zk (bO Zrf (Zv rfl)) (cS (by assumption) rfl) rfl ?_;refine ZE 43 ?_;refine ZFe 44 0 ?_;refine dm 45 rfl Zk Zk Zk Zk (bO Zrf (Zv rfl)) (cS (by assumption) rfl) rfl ?_;refine ce 1 Zk ?_;refine ZT (fun w hi=>oD H ⟨s,X,Y,U,d,o⟩ w (bJ.old h0 hi) (hst.Jz hi)) ?_;rintro _ _ ⟨_,⟨A1,c1,A2,c2,rfl,rfl⟩,rfl⟩;refine ce 6 Zk ?_;refine ZT (fun w hi=>rall_ok H.L U.m w (bJ.old hm hi)) ?_;rintro _ _ ⟨_,⟨bx,rfl,rfl⟩,rfl⟩;refine ce 14 Zk ?_;refine ZT (fun w hi=>xm H.D.bcn Y.Ao Y.co d.out Y.Ai d.inp.length Y.ci ho w (bJ.old hcn hi) (bJ.old hou hi)) ?_;rintro _ _ ⟨_,⟨A5,c5,rfl,rfl⟩,rfl⟩;refine ce 22 Zk ?_;refine ZT (fun w hi=>Io H.D.bcn Y.Ao d.out.length Y.co Y.Ai Y.ci d.inp Wq1 w (bJ.old hcn hi) (bJ.old hii hi)) ?_;rintro _ _ ⟨_,⟨A6,c6,rfl,rfl⟩,rfl⟩;refine ce 30 Zk ?_;refine ZT (fun w hi=>HDr w (bJ.old hdr hi) (bJ.old hds hi)) ?_;rintro _ _ ⟨_,⟨A7,c7,rfl,rfl⟩,rfl⟩;refine ce 38 Zk ?_;refine ZT (fun w hi=>tE H.D.bi d.JH d.mask w (bJ.old hir hi)) ?_;rintro _ _ ⟨_,⟨rfl,rfl⟩,rfl⟩;refine ce 46 Zk ?_;refine ZT (fun w hi=>DX H.D.bi d.JH d.mask w (bJ.old hir hi)) ?_;rintro _ _ ⟨_,⟨rfl,rfl⟩,rfl⟩;refine ZE 47 ?_;refine ce 48 Zk ?_;refine ZR ?_;refine dr ?_;refine Z_2 ?_;refine bN (row b2 (Vw.cells (Gst.view ⟨s,X,Y,U,d,o⟩) ⟨⟨A1,c1,A2,c2⟩,some ⟨bx,0,none⟩,U.m.data.length,A5,c5,A6,c6,A7,c7⟩) 77::vwC (Gst.view ⟨s,X,Y,U,d,o⟩) ⟨⟨A1,c1,A2,c2⟩,some ⟨bx,0,none⟩,U.m.data.length,A5,c5,A6,c6,A7,c7⟩) Zj ?_;refine lP (cs':=(vwC (Gst.view ⟨s,X,Y,U,d,o⟩) ⟨⟨A1,c1,A2,c2⟩,some ⟨bx,0,none⟩,U.m.data.length,A5,c5,A6,c6,A7,c7⟩)) (.inl rfl) Zu rfl rfl Zh Zrf Zrf ?_;exact⟨⟨⟨A1,c1,A2,c2⟩,some ⟨bx,0,none⟩,U.m.data.length,A5,c5,A6,c6,A7,c7⟩,rfl,rfl⟩
theorem EE(H:xG)(G:Gst)(w:World)(h0:(zW H G true).ok w):Ctr prog 27 [.pointer (some ⟨H.bg,0,none⟩)] w [] (fun v cs=>v=vv Ce nilY∧cs=[]):=by
 refine bL func27 rfl ntmps27 rfl (Inv.start w) ?_;refine Z_2 ?_;refine ZN fun b2=>?_;refine Z_7 ?_;refine ZFa 22 ?_;refine sB ?_;refine Z_2 ?_;refine bU rfl (rfl) ?_;refine Z_3 ?_;refine ZM ?_;refine Z_4 ?_;refine lP (cs':=[]) (.inl rfl) Zu rfl rfl Zh Zrf Zrf ?_;exact df
theorem Hz(H:xG)(G:Gst)(m:Int)(w:World)(h0:(zW H G true).ok w):Ctr prog 23 [.pointer (some ⟨H.bg,0,none⟩),.int .i64 m] w [] (fun v cs=>v= .int .i64 0∧cs=[]):=by
 refine bL func23 rfl ntmps23 rfl (Inv.start w) ?_;refine dS ?_;refine ZFa 22 ?_;refine sB ?_;refine Z_2 ?_;refine bU rfl (rfl) ?_;refine Z_7 ?_;refine Zra ?_;exact df
theorem B3(H:xG)(G:Gst)(v:Value)(w:World)(h0:(zW H G true).ok w):Ctr prog 29 [.pointer (some ⟨H.bg,0,none⟩),v] w [] (fun v cs=>v= .int .i64 0∧cs=[]):=by
 refine bL func29 rfl ntmps29 rfl (Inv.start w) ?_;refine dS ?_;refine ZFa 22 ?_;refine sB ?_;refine Z_2 ?_;refine bU rfl (rfl) ?_;refine Z_7 ?_;refine Zra ?_;exact df
theorem yI(H:xG)(G:Gst)(w:World)(h0:(zW H G true).ok w):Ctr prog 30 [.pointer (some ⟨H.bg,0,none⟩)] w [] (fun v cs=>v= .slice none 0 0∧cs=[]):=by
 refine bL func30 rfl ntmps30 rfl (Inv.start w) ?_;refine dS ?_;refine ZFa 22 ?_;refine sB ?_;refine Z_2 ?_;refine bU rfl (rfl) ?_;refine Z_7 ?_;refine Zra ?_;exact df
theorem EJ(H:xG)(G:Gst)(w:World)(h0:(zW H G true).ok w):Ctr prog 26 [.pointer (some ⟨H.bg,0,none⟩)] w [] (fun _ cs=>cs=[]):=by
 refine bL func26 rfl ntmps26 rfl (Inv.start w) ?_;refine Z_5 ?_;refine ZFa 22 ?_;refine sB ?_;refine Z_2 ?_;refine bU rfl (rfl) ?_;refine Z_2 ?_;refine iF (cs':=[]) (.inl rfl) Zu rfl ?_
 rfl
theorem B2(H:xG)(G:Gst)(k:Bool)(w:World)(h0:(zW H G k).ok w):Ctr prog 28 [.pointer (some ⟨H.bg,0,none⟩)] w [] (fun v cs=>v= .bool k∧cs=[]):=by
 refine bL func28 rfl ntmps28 rfl (Inv.start w) ?_;refine Z_9 ?_;refine ZFa 22 ?_;refine sB ?_;refine Z_4 ?_;refine Zra ?_;exact df
theorem B4(H:xG)(G:Gst)(w:World)(h0:(zW H G false).ok w)(hm:(ek H.L G.U.m).ok w):Ctr prog 30 [.pointer (some ⟨H.bg,0,none⟩)] w [] (fun v cs=>∃(A:Option Addr) (c:Nat) (fs:List Int),fs.length≤H.L.n∧v= .slice A fs.length c∧cs=[sl .i64 3 A fs.length c fs]):=by
 obtain⟨k,hr,h1, -⟩:=mZ hm;refine bL func30 rfl ntmps30 rfl (Inv.start w) ?_;refine dS ?_;refine ZFa 22 ?_;refine sB ?_;refine Z_2 ?_;refine gx ?_;refine Z_3 ?_;refine bR ⟨fun j=>List.elem j [],[]⟩ Zk ?_;refine gn ?_;refine ZFe 2 2 ?_;refine dm 3 rfl Zk Zk Zk Zk (bO Zrf (Zv rfl)) (cS (by assumption) rfl) rfl ?_;refine ZE 4 ?_;refine ZE 5 ?_;refine ZFe 6 3 ?_;refine dm 7 rfl Zk Zk Zk Zk (bO Zrf (Zv rfl)) (cS (by assumption) rfl) rfl ?_;refine ce 8 Zk ?_;refine ZT (fun w hi=>yC H.L.bp k.B k.ow k.pr hr.pl H.L.o hr.o4 w (bJ.old h1 hi)) ?_;rintro _ _ ⟨_,⟨A1,c1,rfl,rfl⟩,rfl⟩;refine ZE 9 ?_;refine dr ?_;refine Z_2 ?_;refine Zrb ([slv _ _ _ _ _ _]) ?_;exact⟨A1,c1,_,hr.KH.1,rfl,rfl⟩
theorem HV(H:xG)(G:Gst)(ho4:H.L.o<4)(hl:H.L.gw.length=256)(hno:∀x,x∈H.L.gw→x≠(H.L.o:Int))(w:World)(hi:Inv w (bK (gsF H G)) (gsF H G) w):
  Ctr prog 26 [.pointer (some ⟨H.bg,0,none⟩)] w (gsF H G) (fun _ cs=>∃B,(dI B H.L.gw (H.L.gp.set H.L.o (-1))∧∀f,f<256→H.L.oth f=true→∀j,j<64→B[f*64+j]? =H.L.gB[f*64+j]?)∧cs=[zW H G true,dj H.L.bp B H.L.gw (H.L.gp.set H.L.o (-1))]):=by
 refine bL func26 rfl ntmps26 rfl hi ?_;refine Z_5 ?_;refine ZFa 22 ?_;refine Z_3 ?_;refine gx ?_;refine Z_6 ?_;refine ZFa 22 ?_;refine dD (eA Zrf rfl rfl rfl Za (Nat.le_of_ble_eq_true rfl)) ?_;rintro _ _ ⟨rfl,rfl⟩;rw[show(w7 H G false).set 22 (.bool true)=w7 H G true from rfl];refine Z_8 ?_;refine ZcL ([ek H.L G.U.m]) (fun w hi hin=>Dw H.L G.U.m hl hno w hin) ?_;rintro _ _ ⟨_,⟨B,⟨e1,e2⟩,rfl⟩,rfl⟩;refine Z_2 ?_;refine bR ⟨fun j=>List.elem j [8],[]⟩ Zk ?_;refine gn ?_;refine ZFe 2 2 ?_;refine ZG 3 ?_;refine ZE 4 ?_;refine ZE 5 ?_;refine ZFe 6 3 ?_;refine ZG 7 ?_;refine ce 8 Zk ?_;refine ZcA ([dj H.L.bp B H.L.gw H.L.gp]) (fun w hi hin=>GM H.L.bp B H.L.gw H.L.gp e1 H.L.o ho4 hno w hin) ?_;rintro _ _ ⟨_,⟨rfl,rfl⟩,rfl⟩;refine dr ?_;refine bN [zW H G true,dj H.L.bp B H.L.gw (H.L.gp.set H.L.o (-1))] Zj ?_;refine iF (cs':=[zW H G true,dj H.L.bp B H.L.gw (H.L.gp.set H.L.o (-1))]) (.inr rfl) Zu rfl ?_;exact⟨B,⟨⟨e1.b,e1.ow,by rw[aG];exact e1.pr⟩,e2⟩,rfl⟩
structure vB where
 bg:Nat
 K:RMLoc
 bx:Nat
 by_:Nat
 bd:Nat
abbrev docF(R:vB)(n:Nat)(l k:List Int):List bJ:=row R.bg (St.new.cells (.slice none 0 0) (.slice none 0 0)++[.pointer (some ⟨R.bx,0,none⟩),.pointer (some ⟨R.by_,0,none⟩)]) 144::(rf R.K n (ig n l) (List.replicate n false)++[lQ R.bx R.K.bm eE]++wi R.by_ R.K.bm R.bd ⟨none,0,none,0⟩ (Dev.init k))
theorem free0:pz (List.replicate 256 (-1)) 256=240:=by decide+kernel
theorem vk(bp o n:Nat)(W:List Int)(hW:W.length=16384)(ho:o<4)(hn0:1≤n)(hn:n≤64)(A B:Option Addr)(c e:Nat)(l k:List Int)(hll:l.length≤n*64)(hlb:u8s l)(hkl:k.length≤1024)(hkb:u8s k)(tr:Bool)(w:World)(hi:Inv w (bK [dj bp W (List.replicate 256 (-1)) (List.replicate 4 (-1))]) [dj bp W (List.replicate 256 (-1)) (List.replicate 4 (-1))] w)
  (hA:∀w',dC (bK [dj bp W (List.replicate 256 (-1)) (List.replicate 4 (-1))]) w w'→Rd w' .u8 A l.length c l) (hB:∀w',dC (bK [dj bp W (List.replicate 256 (-1)) (List.replicate 4 (-1))]) w w'→Rd w' .u8 B k.length e k):
  Ctr prog 34 [.pointer (some ⟨bp,0,none⟩),.int .i64 o,imgV A c l B e k n,.bool tr] w [dj bp W (List.replicate 256 (-1)) (List.replicate 4 (-1))] (fun v cs=>∃H G,Born bp o n W (List.replicate 256 (-1)) (List.replicate 4 (-1)) l k tr H G∧v= .tuple #[.pointer (some ⟨H.bg,0,none⟩),.int .i64 0]∧cs=gsF H G):=
 gnew_ok bp W (List.replicate 256 (-1)) (List.replicate 4 (-1)) ⟨hW,aJ,aJ⟩ o n ho hn0 hn (by rw[List.getElem?_replicate,if_pos ho]) (by rw[show nW (List.replicate 4 (-1)) 4=0 from rfl];omega) (fun x hx=>by rw[List.eq_of_mem_replicate hx];decide) (fun x hx=>by rw[List.eq_of_mem_replicate hx];omega) (by rw[free0];omega) A B c e l k hll hlb hkl hkb tr w hi hA hB
end Go.Proofs.YtakodpimdalajaaGreatDoor
