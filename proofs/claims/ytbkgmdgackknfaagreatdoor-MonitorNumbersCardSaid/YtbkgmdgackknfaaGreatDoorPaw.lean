/- Lemmas. -/
import Derived.Test.YtbkgmdgackknfaaGreatDoorPav
set_option linter.unusedSimpArgs false
set_option linter.unusedVariables false
set_option maxRecDepth 100000
set_option maxHeartbeats 4000000
namespace Go.Ink
open Go.RowKit Go.Proofs.Tryz
theorem new_wf:St.new.wf:=⟨u0,u0,u0,u0,u0,u0,u0,⟨Int.le_refl _,show(0:Int)<=18446744073709551615 by decide⟩,λx hx=>(by cases hx),λx hx=>by cases hx⟩
section
attribute [local irreducible] OpY bH
abbrev imgV(A:Option Addr)(c:Nat)(l:List Int)(B:Option Addr)(e:Nat)(k:List Int)(n:Nat):Value:= .agg #[.slice A l.length c,.slice B k.length e,.i (n:Int)]
structure M9(s:St):Prop where
 wf:s.wf
 pg:s.RW=false
 ha:s.halted=false
 d:s.d=[]
 r:s.r=[]
 fl:s.right=true
 pc:64<=s.pc/\s.pc<=1063
 ve:64<=s.vec/\s.vec<=1063
theorem M9.next{s:St}(h:M9 s):M9 (s.next.R8 10 s.pc):=
 ⟨EX (KI h.wf) _ h.wf.pc,h.pg,h.ha,h.d,h.r,h.fl,h.ve,h.ve⟩
structure CZ where
 kd:Int
 n:Int
 v:Int
 at_:Int
 B:Option Addr
 cb:Nat
 bs:List Int
def CZ.cells(a:CZ):List Value:=[.i a.kd,.i a.n,.w a.v,.w a.at_,.slice a.B a.bs.length a.cb]
theorem CZ.RO(a:CZ):a.cells.length=5:=rfl
structure CZ.ok(W:World)(a:CZ):Prop where
 v:u32 a.v
 at_:u32 a.at_
 rd:Rd W .u8 a.B a.bs.length a.cb a.bs
 bs:u8s a.bs
theorem u8s_app{a b:List Int}(h:u8s a)(h2:u8s b):u8s (a++b):=λx hx=>(aF.1 hx).elim (h x) (h2 x)
set_option maxRecDepth 100000 in
theorem OH{W:World}{es:List Value}(h:Arg prog W 142 es):∃a:CZ,es=a.cells/\a.ok W:=by
 obtain⟨hl,hf⟩:=h.struct rfl;have hl:es.length=5:=hl
 match es,hl with
 |[c0,c1,c2,c3,c4],_=>
  have k0:Arg prog W _ [c0]:=hf 0 _ rfl;have k1:Arg prog W _ [c1]:=hf 1 _ rfl;have k2:Arg prog W _ [c2]:=hf 2 _ rfl;have k3:Arg prog W _ [c3]:=hf 3 _ rfl;have k4:Arg prog W _ [c4]:=hf 4 _ rfl;obtain⟨n0,rfl,m0⟩:=Rx rfl k0;obtain⟨n1,rfl,m1⟩:=Rx rfl k1;obtain⟨n2,rfl,m2⟩:=Rx rfl k2;obtain⟨n3,rfl,m3⟩:=Rx rfl k3;obtain⟨A2,d2,x2,e2,r2,b2,z2⟩:=k4.ints (e:=5) (k:= .u8) rfl rfl rfl;obtain rfl:c4=_:=by simpa using e2
  exact⟨⟨n0,n1,n2,n3,A2,d2,x2⟩,rfl,⟨Q3 m2,Q3 m3,r2,λx hx=>Je (z2 x hx)⟩⟩
theorem pJ(A:Option Addr)(c:Nat)(l:List (Int×Int))(hl:l.length<=3)(w:World)(h:RdV w 2 A l.length c (l.flatMap dA)):Ctr prog 47 [.slice A l.length c] w [] (λv cs=>∃A' c' E,(u8s E/\E.length<=15)/\v= .slice A' E.length c'/\cs=[sl .u8 5 A' E.length c' E]):=
 (MA A c l Wq1 w h).mono (λv cs ⟨A',c',h1,h2⟩=>⟨A',c',et l,⟨qZ _ _,aN (lM _ _) Wq1⟩,h1,h2⟩)
theorem Kw(A:Option Addr)(c:Nat)(l:List CZ)(w:World)(h:RdV w 5 A l.length c (l.flatMap CZ.cells))(hl:∀a,a∈l->a.ok w):
  Ctr prog 48 [.slice A l.length c,.i 60] w [] (λv cs=>∃A' c' E,(u8s E/\E.length<=900)/\v= .slice A' E.length c'/\cs=[sl .u8 5 A' E.length c' E]):=by
 have hlm:l.length<=maxLen:=aN h.cap h.max;simp only[maxLen]at hlm;refine Zfs func48 ntmps48 ?_;refine kM ?_;refine cT 5 1 (Z_4 ?_);refine bN (λq:Nat×Option Addr×Nat×List Int=>[(0,.slice A l.length c),(1,.i 60),(5,.slice q.2.1 q.2.2.2.length q.2.2.1),(6,.i (q.1:Int))]) (λq=>[sl .u8 5 q.2.1 q.2.2.2.length q.2.2.1 q.2.2.2]) (λq=>q.1<=60/\u8s q.2.2.2/\q.2.2.2.length<=15*q.1) (λq=>60 - q.1) (⟨0,none,0,[]⟩) ?_ ?_ ?_ ?_
 .exact⟨au _,λx hx=>(by cases hx),aL _⟩
 .exact Zwk
 .exact Zu
 rintro⟨i,A1,c1,o⟩ ⟨hi60,ho1,ho2⟩;dsimp only at hi60 ho1 ho2|-;refine AN ?_ ?_<;>intro hc3
 .have hil:i<l.length/\i<60:=(by revert hc3;cases h1:decide ((i:Int)<(l.length:Int))<;>cases h2:decide ((i:Int)<60)<;>simp_all<;>omega);obtain⟨ad,rfl⟩:=h.some_ Wq1;have hla:l[i]? =some (l[i]'hil.1):=aa hil.1;have hok:=hl _ (List.getElem_mem hil.1);obtain⟨r,hr⟩:=Zgn (l[i]'hil.1);rw[hr]at hla hok;obtain⟨kd,n,v,at_,B,cb,bs⟩:=r;obtain⟨hv,hat,hrd,hbs⟩:=hok;dsimp only at hv hat hrd hbs;obtain⟨v,rfl⟩:∃m:Nat,v=m:=ap hv.1;obtain⟨a,rfl⟩:∃m:Nat,at_=m:=ap hat.1;have hv2:=hv.2;have ha2:=hat.2;obtain⟨km,hkm⟩:=Zgn (gx kd 0 1000);have HW:=λw=>hkm▸fu kd 0 1000 w Wq7 Wq7 Wq7
  have hb9:=kp hrd 9;have hE2:(bs.take 9).length<=9:=(by rw[aI];omega);have hE1:u8s (bs.take 9):=(λx hx=>hbs x (bh hx));have HCut:=λw=>wn B cb bs 9 w hrd.cap
  obtain⟨E,hb9e⟩:=Zgn (bs.take 9);rw[hb9e]at hb9 hE2 hE1 HCut;have HI1:=FR n a hat;have HI2:=FR n v hv;obtain⟨sop,hs⟩:∃y,([49,51,53]:List Int)[v%3]? =some y:=⟨_,aa (show v%3<3 by omega)⟩;obtain⟨lop,hlo⟩:∃y,([48,50,52]:List Int)[v%3]? =some y:=⟨_,aa (show v%3<3 by omega)⟩;refine Z_8 ?_;refine wJ ?_;refine dK (bP (vs:=[.i kd,.i n,.w (v:Int),.w (a:Int),.slice B bs.length cb]) Zrf Zrf Zv0) (dY h (λj v hj=>da CZ.RO (i:=j) hla hj)) rfl ?_;refine ZN λb7=>?_
  refine ZM ?_;refine Z_7 ?_;refine ZN λb8=>?_
  refine jh ?_;refine Zy (i4 (Zv rfl) (Zv rfl) Wq1 (show _=((a%300:Nat):Int)from by rw[aO Wq1];omega)) ?_;refine ZA ?_;refine ZN λb9=>?_
  refine jh ?_;refine ZSe (λw hi=>HW w) ?_;refine Zy (i4 (Zv rfl) (Zv rfl) Wq1 (by first|exact IntWalk.rem_in _ _ Wq1|exact rfl)) ?_;refine Zw9 ?_ ?_<;>intro hc10
  .refine ig ⟨λj=>List.elem j [12],[]⟩ [(0,0),(1,4),(2,4),(4,0),(5,4),(6,0),(3,2),(7,0),(8,4),(9,0),(10,2),(11,2),(12,2),(13,0)] Zk Zk (nN ?_);refine ka rfl Zh Zrf Zrf (Zv rfl) rfl (ka rfl Zh Zrf Zrf (Zv rfl) rfl (Wq242 ?_));rintro _ _ ⟨b50,rfl,rfl⟩;refine dx rfl (bV (j:=(v%3)) (sz:=1) (r:=(v%3)) rfl Zrf (Zv rfl) (Zv rfl) Wq2 Wq2 Wq1) rfl (kb rfl (bF Zrf Zv0) (cM Zh (cq (l:=[49,51,53]) hs)) rfl (dx rfl (oX rfl rfl Zrf rfl rfl rfl Zb) rfl (EL ?_)));rintro _ _ ⟨b57,rfl,rfl⟩;refine eW ?_;refine la rfl rfl (dW rfl (λ_ _=>rfl) (λw hi=>pJ (sA b57) 3 [(2,(v:Int)),(2,((a%300:Nat):Int)),(sop,0)] cH w (hi.rd (show Has _ (slv 71 2 (sA b57) 3 3 ([(2,(v:Int)),(2,((a%300:Nat):Int)),(sop,0)].flatMap dA))from Zh)))) ZJ rfl ?_;rintro _ _ ⟨_,⟨A2,c2,E,⟨hE1,hE2⟩,rfl,rfl⟩,rfl⟩;refine Wq164 ?_;rintro _ _ ⟨A3,c3,rfl,rfl⟩;rw[bX,<-aq];refine ID ?_;refine gv ?_;refine bJ ((⟨i+1,A3,c3,o++E⟩:Nat×Option Addr×Nat×List Int)) ?_ ?_ ?_
   .exact RD
   .exact Zwk
   exact Zj
  refine Zw6 ?_ ?_<;>intro hc12
  .refine ig ⟨λj=>List.elem j [11],[]⟩ [(0,0),(1,4),(3,0),(4,4),(5,0),(2,2),(6,0),(7,4),(8,0),(9,2),(10,2),(11,2),(12,0)] Zk Zk (nN ?_);refine ka rfl Zh Zrf Zrf (Zv rfl) rfl (Wq242 ?_);rintro _ _ ⟨b64,rfl,rfl⟩;refine dx rfl (bV (j:=(v%3)) (sz:=1) (r:=(v%3)) rfl Zrf (Zv rfl) (Zv rfl) Wq2 Wq2 Wq1) rfl (kb rfl (bF Zrf Zv0) (cM Zh (cq (l:=[48,50,52]) hlo)) rfl (dx rfl (oX rfl rfl Zrf rfl rfl rfl Zb) rfl (EL ?_)));rintro _ _ ⟨b71,rfl,rfl⟩;refine eW ?_;refine la rfl rfl (dW rfl (λ_ _=>rfl) (λw hi=>pJ (sA b71) 2 [(2,((a%300:Nat):Int)),(lop,0)] cH w (hi.rd (show Has _ (slv 71 2 (sA b71) 2 2 ([(2,((a%300:Nat):Int)),(lop,0)].flatMap dA))from Zh)))) ZJ rfl ?_;rintro _ _ ⟨_,⟨A2,c2,E,⟨hE1,hE2⟩,rfl,rfl⟩,rfl⟩;refine Wq164 ?_;rintro _ _ ⟨A3,c3,rfl,rfl⟩;rw[bX,<-aq];refine ID ?_;refine gv ?_;refine bJ ((⟨i+1,A3,c3,o++E⟩:Nat×Option Addr×Nat×List Int)) ?_ ?_ ?_
   .exact RD
   .exact Zwk
   exact Zj
  refine Zw6 ?_ ?_<;>intro hc14
  .refine Z_4 ?_;refine Zy (i4 (Zv rfl) (Zv rfl) Wq1 (show _=((a%13:Nat):Int)from by rw[aO Wq1];omega)) ?_;refine Zy (jR (Zv rfl) (Zv rfl) (show _=((a%13*4:Nat):Int)from by rw[u32_wrap_id _ Wq1 Wq1];omega)) ?_;refine Zy (ef (Zv rfl) (Zv rfl) (show _=((32768+a%13*4:Nat):Int)from by rw[u32_wrap_id _ Wq1 Wq1];omega)) ?_;refine gP ?_;refine Z_6 ?_;refine Zy (i4 (Zv rfl) (Zv rfl) Wq1 (show _=((v%3:Nat):Int)from by rw[aO Wq1];omega)) ?_;refine Zw3 ?_ ?_<;>intro hc16
   .refine Z_4 ?_;refine jj ?_;rintro _ _ ⟨b89,rfl,rfl⟩;refine ZSn (λw hi=>pJ (sA b89) 2 [(2,((32768+a%13*4:Nat):Int)),(48,0)] cH w (hi.rd (show Has _ (slv 71 2 (sA b89) 2 2 ([(2,((32768+a%13*4:Nat):Int)),(48,0)].flatMap dA))from Zh))) ?_;rintro _ _ ⟨A2,c2,E,⟨hE1,hE2⟩,rfl,rfl⟩;refine QO ?_;rintro _ _ ⟨A3,c3,rfl,rfl⟩;refine MW ?_;refine bJ ((⟨i+1,A3,c3,o++E⟩:Nat×Option Addr×Nat×List Int)) ?_ ?_ ?_
    .exact RD
    .exact Zwk
    exact Zj
   refine Z_4 ?_;refine QI ?_;refine Z_3 ?_;refine jj ?_;rintro _ _ ⟨b99,rfl,rfl⟩;refine ZSn (λw hi=>pJ (sA b99) 3 [(1,((v%256:Nat):Int)),(2,((32768+a%13*4:Nat):Int)),(49,0)] cH w (hi.rd (show Has _ (slv 71 2 (sA b99) 3 3 ([(1,((v%256:Nat):Int)),(2,((32768+a%13*4:Nat):Int)),(49,0)].flatMap dA))from Zh))) ?_;rintro _ _ ⟨A2,c2,E,⟨hE1,hE2⟩,rfl,rfl⟩;refine QO ?_;rintro _ _ ⟨A3,c3,rfl,rfl⟩;refine MW ?_;refine bJ ((⟨i+1,A3,c3,o++E⟩:Nat×Option Addr×Nat×List Int)) ?_ ?_ ?_
   .exact RD
   .exact Zwk
   exact Zj
  refine Zw6 ?_ ?_<;>intro hc19
  .refine Z_4 ?_;refine QI ?_;refine Z_3 ?_;refine Zy (i4 (Zv rfl) (Zv rfl) Wq1 (show _=((a%12:Nat):Int)from by rw[aO Wq1];omega)) ?_;refine ZA ?_;refine jj ?_;rintro _ _ ⟨b113,rfl,rfl⟩;refine ZSn (λw hi=>pJ (sA b113) 2 [(1,((v%256:Nat):Int)),(67,((a%12:Nat):Int))] cH w (hi.rd (show Has _ (slv 71 2 (sA b113) 2 2 ([(1,((v%256:Nat):Int)),(67,((a%12:Nat):Int))].flatMap dA))from Zh))) ?_;rintro _ _ ⟨A2,c2,E,⟨hE1,hE2⟩,rfl,rfl⟩;refine QO ?_;rintro _ _ ⟨A3,c3,rfl,rfl⟩;refine MW ?_;refine bJ ((⟨i+1,A3,c3,o++E⟩:Nat×Option Addr×Nat×List Int)) ?_ ?_ ?_
   .exact RD
   .exact Zwk
   exact Zj
  refine Zw6 ?_ ?_<;>intro hc21
  .refine Z_4 ?_;refine ZSe (λw hi=>HCut w) ?_;refine fW (cj (e:=5) (sz:=1) (bytes:=1) rfl rfl Za rfl rfl (λw hi=>hb9.RU hi) di gq Wq1) rfl ?_;rintro _ _ ⟨A3,c3,rfl,rfl⟩;refine MW ?_;refine bJ ((⟨i+1,A3,c3,o++E⟩:Nat×Option Addr×Nat×List Int)) ?_ ?_ ?_
   .exact RD
   .exact Zwk
   exact Zj
  refine Zw6 ?_ ?_<;>intro hc23
  .refine ig ⟨λj=>List.elem j [12],[]⟩ [(0,0),(1,0),(2,4),(3,0),(4,0),(5,0),(6,4),(7,0),(8,4),(9,2),(10,2),(11,2),(12,2),(13,0)] Zk Zk (nN ?_);refine dx rfl (dF 2 rfl Zv0 Zf) rfl (MS ?_);refine dx rfl (i4 (Zv rfl) (Zv rfl) Wq1 (show _=((v%256:Nat):Int)from by rw[aO Wq1];omega)) rfl (dx rfl (oX rfl rfl Zrf rfl rfl rfl Zb) rfl (dx rfl (dF 1 rfl Zv0 Zf) rfl (MS ?_)));refine dx rfl (dF 3 rfl Zv0 Zf) rfl (MS ?_);refine eW ?_;refine la rfl rfl (dW rfl (λ_ _=>rfl) (λw hi=>HI1 w)) ZJ rfl ?_;rintro _ _ ⟨_,⟨⟨op,nn,rfl,hnu, -⟩,rfl⟩,rfl⟩;refine EL ?_;rintro _ _ ⟨b135,rfl,rfl⟩;refine eW ?_;refine la rfl rfl (dW rfl (λ_ _=>rfl) (λw hi=>pJ (sA b135) 2 [(1,((v%256:Nat):Int)),(op,nn)] cH w (hi.rd (show Has _ (slv 71 2 (sA b135) 2 2 ([(1,((v%256:Nat):Int)),(op,nn)].flatMap dA))from Zh)))) ZJ rfl ?_;rintro _ _ ⟨_,⟨A2,c2,E,⟨hE1,hE2⟩,rfl,rfl⟩,rfl⟩;refine Wq164 ?_;rintro _ _ ⟨A3,c3,rfl,rfl⟩;rw[bX,<-aq];refine ID ?_;refine gv ?_;refine bJ ((⟨i+1,A3,c3,o++E⟩:Nat×Option Addr×Nat×List Int)) ?_ ?_ ?_
   .exact RD
   .exact Zwk
   exact Zj
  refine Z_6 ?_;refine ZSn (λw hi=>HI2 w) ?_;rintro _ _ ⟨⟨op,nn,rfl,hnu, -⟩,rfl⟩;refine jj ?_;rintro _ _ ⟨b42,rfl,rfl⟩;refine ZSn (λw hi=>pJ (sA b42) 1 [(op,nn)] cH w (hi.rd (show Has _ (slv 71 2 (sA b42) 1 1 ([(op,nn)].flatMap dA))from Zh))) ?_;rintro _ _ ⟨A2,c2,E,⟨hE1,hE2⟩,rfl,rfl⟩;refine QO ?_;rintro _ _ ⟨A3,c3,rfl,rfl⟩;refine MW ?_;refine bJ ((⟨i+1,A3,c3,o++E⟩:Nat×Option Addr×Nat×List Int)) ?_ ?_ ?_
  .exact RD
  .exact Zwk
  exact Zj
 refine fD ?_;refine Zrb ([slv _ _ _ _ _ _]) ?_;exact⟨A1,c1,o,⟨ho1,by omega⟩,rfl,rfl⟩
theorem Po(A B:Option Addr)(c e:Nat)(l:List CZ)(RG:Int)(k:List Int)(hk:u8s k)(w:World)(h:RdV w 5 A l.length c (l.flatMap CZ.cells))(hl:∀a,a∈l->a.ok w)(hB:Rd w .u8 B k.length e k):
  Ctr prog 34 [.slice A l.length c,.i RG,.slice B k.length e] w [] (λv cs=>∃(A':Option Addr) (c':Nat) (E E2:List Int) (n:Nat),(u8s E/\(1<=n/\n<=16)/\(E.take (n*64)).length<=n*64)/\v=imgV A' c' (E.take (n*64)) B e (k.take 1024) n/\cs=[sl .u8 5 A' E.length c' E]):=by
 have HP:=Kw A c l;obtain⟨m,hm⟩:=Zgn (gx RG 0 15);have hmr:=fT RG 0 15 Wq7;rw[hm]at hmr;have HW:=λw=>hm▸fu RG 0 15 w Wq7 Wq7 Wq7
 obtain⟨n0,rfl⟩:∃q:Nat,m=q:=ap hmr.1;have HK:=λw=>wn B e k 1024 w hB.cap
 refine Zfs func34 ntmps34 ?_;refine Z_2 ?_;refine ZN λb6=>?_;refine Z_5 ?_;refine ZSe (λw hi=>HW w) ?_;refine Zy (ef (Zv rfl) (Zv rfl) (show _=((1+n0:Nat):Int)from by rw[IntWalk.i64_in _ ⟨by omega,by omega⟩];omega)) ?_;refine Z_6 ?_;refine ZSn (λw hi=>HP w (h.RU hi) (λa ha=>⟨(hl a ha).v,(hl a ha).at_,(hl a ha).rd.RU hi,(hl a ha).bs⟩)) ?_;rintro _ _ ⟨A1,c1,E,⟨hE1,hE2⟩,rfl,rfl⟩;refine ZA ?_;refine Zy (jR (Zv rfl) (Zv rfl) (show _=(((1+n0)*64:Nat):Int)from by rw[IntWalk.i64_in _ ⟨by omega,by omega⟩];omega)) ?_;refine ZSe (λw hi=>wn A1 c1 E ((1+n0)*64) w (hi.rd (show Has _ (sl .u8 5 A1 E.length c1 E)from Zh)).cap) ?_;refine ZA ?_;refine ZSe (λw hi=>HK w) ?_;refine Z_2 ?_;refine mD ?_;exact bG [row b6 [.slice A1 (E.take ((1+n0)*64)).length c1,.slice B (k.take 1024).length e,.i ((1+n0:Nat):Int)] 33,sl .u8 5 A1 E.length c1 E] Zj (pR (cs':=[sl .u8 5 A1 E.length c1 E]) (.inl rfl) Zu rfl rfl Zh Zrf Zrf ⟨A1,c1,E,[],1+n0,⟨hE1,⟨by omega,by omega⟩,by rw[aI];omega⟩,rfl,rfl⟩)
theorem run_v(RZ:List (Ky×RS))(k:Ky):ga (rnV RZ) k (.agg #[.slice none 0 0,.bool false])=(ga RZ k RS.zero).v:=zr RS.v RZ k RS.zero
theorem run_r(RZ:List (Ky×RS))(k:Ky):ga (rnM RZ) k Rn.zero=(ga RZ k RS.zero).r:=zr RS.r RZ k RS.zero
theorem rnM_put(RZ:List (Ky×RS))(k:Ky)(x:RS):rnM (dG RZ k x)=dG (rnM RZ) k x.r:=(Fp RS.r RZ k x).symm
theorem rnV_put(RZ:List (Ky×RS))(k:Ky)(x:RS):dG (rnV RZ) k (.agg x.cells.toArray)=rnV (dG RZ k x):=Fp RS.v RZ k x
theorem JY(RZ:List (Ky×RS))(k:Ky):ga RZ k RS.zero=RS.zero\/∃y,y∈RZ/\y.2=ga RZ k RS.zero:=by
 unfold ga;cases hf:RZ.find? (λx=>x.1==k)with
 |none=>grind
 |some y=>grind
theorem zm{β:Type}{L:List (Ky×β)}{k:Ky}{v:β}{y:Ky×β}(h:y∈dG L k v):y=(k,v)\/y∈L:=by
 grind [dG,cL]
theorem Le{RZ:List (Ky×RS)}(k:Ky)(x:RS)(h:(RZ.map (·.1)).Nodup):((dG RZ k x).map (·.1)).Nodup:=by
 rw[zo];exact rH h
theorem F5(Z:List BA)(k:Ky):(Z.map BA.b).find? (λt=>t.key==k)=(Z.find? λx=>x.key==k).map BA.b:=by
 rw[List.find?_map]
 rfl
theorem L6{E:EnX}{k:Ky}{b:List Int}{y:BA}(h:(E.X.Z.find? λx=>x.key==k)=some y)(hp:(ga E.RZ k RS.zero).r.bytes.isPrefixOf b=true):lp E.eng k b=(some (y.b,(ga E.RZ k RS.zero).r),E.eng):=by
 unfold lp B7;rw[show E.eng.l=E.X.Z.map BA.b from rfl,F5,h,show E.eng.runs=rnM E.RZ from rfl,run_r]
 grind
theorem PI{E:EnX}{k:Ky}{b:List Int}{o:Option BA}(ho:(E.X.Z.find? λx=>x.key==k)=o)(hp:(o.isSome&&(ga E.RZ k RS.zero).r.bytes.isPrefixOf b)=false):B7 E.eng k b=none:=by
 unfold B7;rw[show E.eng.l=E.X.Z.map BA.b from rfl,F5,ho,show E.eng.runs=rnM E.RZ from rfl,run_r]
 grind
theorem yj{E:Eng}{k:Ky}{b:List Int}(h:B7 E k b=none)(hm:vB k b=none):lp E k b=(none,E):=by
 grind [lp]
theorem L5{E:Eng}{k:Ky}{b:List Int}{t:Blk}{r:Rn}(h:B7 E k b=none)(hm:vB k b=some (t,r)):lp E k b=(some (t,r),addE E t r):=by
 grind [lp]
theorem KY{k:Ky}{b:List Int}{l:List (Int×Int)}{sz:Nat}{en:Bool}(hR:cP b 8 0=(l,sz,en))(h:fg k.1 l=none):vB k b=none:=by
 grind [vB]
theorem O4{k:Ky}{b:List Int}{l:List (Int×Int)}{sz:Nat}{en:Bool}{p:Pg}(hR:cP b 8 0=(l,sz,en))(h:fg k.1 l=some p)(hr:p.R7=false):vB k b=none:=by
 grind [vB]
theorem O3{k:Ky}{b:List Int}{l:List (Int×Int)}{sz:Nat}{en:Bool}{p:Pg}(hR:cP b 8 0=(l,sz,en))(h:fg k.1 l=some p)(hr:p.R7=true):vB k b=some (⟨k,gt p (dP p),(l.length:Int)⟩,⟨b.take sz,en⟩):=by
 grind [vB]
theorem P5(p:Pg)(pl:Pl):gt p pl≠[]:=by
 unfold gt;simp
theorem MR(E:EnX)(X':CaX)(t:Blk)(x:RS)(hX:X'.Z.map BA.b=vh Blk.key E.room (E.X.Z.map BA.b) t):
  (bif decide ((X'.Z.length:Int)<((dG E.RZ t.key x).length:Int))then((E.Sv X').SB (oL X'.Z (dG E.RZ t.key x))).eng else((E.Sv X').SB (dG E.RZ t.key x)).eng)=addE E.eng t x.r:=by
 unfold addE;dsimp only;rw[show E.eng.room=E.room from rfl,show E.eng.l=E.X.Z.map BA.b from rfl,show E.eng.runs=rnM E.RZ from rfl,<-hX,<-rnM_put,aV];have e:(rnM (dG E.RZ t.key x)).length=(dG E.RZ t.key x).length:=aV _;rw[e];cases hd:decide ((X'.Z.length:Int)<((dG E.RZ t.key x).length:Int))with
 |true=>
  simp only[ae]at hd;rw[ay (show X'.Z.length<(dG E.RZ t.key x).length by omega),ai,ai,B6]
  rfl
 |false=>
  simp only[ac]at hd;rw[ar (show¬X'.Z.length<(dG E.RZ t.key x).length by omega),ah,ah]
  rfl
theorem run_rd{w:World}{RZ:List (Ky×RS)}{k:Ky}(h:(bQ (rnC RZ)).ok w):Rd w .u8 (ga RZ k RS.zero).A (ga RZ k RS.zero).r.bytes.length (ga RZ k RS.zero).c (ga RZ k RS.zero).r.bytes:=by
 rcases JY RZ k with e|⟨y,hy,e⟩
 .rw[e];exact jq w .u8
 rw[<-e];exact dp (jk h (rsC y.2) (bn.2 ⟨y,hy,rfl⟩))
def sL(RZ:List (Ky×RS))(k:Ky):List bC:=match cL (·.1) k RZ with|some j=>(rnC RZ).eraseIdx j|none=>rnC RZ
theorem xF(RZ:List (Ky×RS))(k:Ky):(sL RZ k).Sublist (rnC RZ):=by
 grind [sL,cL]
theorem rnPut(RZ:List (Ky×RS))(k:Ky)(x:RS):(rnC (dG RZ k x)).Perm (rsC x::sL RZ k):=by
 grind [sL,dG,cL,ff,rnC,tY,List.map_set,List.perm_append_singleton]
theorem MC(bc:Nat)(room:Int)(X:CaX)(hS:BaSm X.Z)(k:Ky)(w:World)(hi:Inv w (bD (caF bc room X)) (caF bc room X) w):
  Ctr prog 118 [.p bc,.agg (bZ k).toArray] w (caF bc room X) (λv cs=>∃y:BA,v= .tuple #[.agg y.cells.toArray,.bool (X.Z.find? λx=>x.key==k).isSome]/\cs=caF bc room X++[baC y]/\∀x,(X.Z.find? λx=>x.key==k)=some x->y.b=x.b):=by
 have h:=Gk bc room X hS k w hi;obtain⟨o,ho⟩:=Zgn ((X.Z.find? λx=>x.key==k));rw[ho]at h|-;refine h.up λv cs w' hk hi'=>?_
 cases o with
 |none=>
  obtain⟨rfl,rfl⟩:=hk;exact⟨_,⟨⟨⟨(0,0),[],0⟩,none,0⟩,rfl,rfl,λx e=>nomatch e⟩,hi'.more (zV w' [] 5 1)⟩
 |some x=>
  obtain⟨A',c',rfl,rfl⟩:=hk;exact⟨_,⟨⟨x.b,A',c'⟩,rfl,rfl,λx e=>by cases e;rfl⟩,hi'.perm (List.perm_append_singleton _ _).symm⟩
def FindR(be:Nat)(o:Option (Blk×Rn))(E':EnX)(v:Value)(cs:List bC):Prop:=∃(y:BA) (x:RS),v= .tuple #[.agg y.cells.toArray,.agg x.cells.toArray,.bool o.isSome]/\cs=baC y::enF be E'/\∀t r,o=some (t,r)->y.b=t/\x.r=r
theorem PQ(be:Nat)(E:EnX)(hE:oG E)(k:Ky)(hk:lj k)(A:Option Addr)(c:Nat)(b:List Int)(hb:u8s b)(hbl:b.length<=1000)(w:World)(hi:Inv w (bD (enF be E)) (enF be E) w)(h:∀w',cY (bD (enF be E)) w w'->Rd w' .u8 A b.length c b):
  Ctr prog 139 [.p be,.agg (bZ k).toArray,.slice A b.length c] w (enF be E) (λv cs=>∃E',oG E'/\E'.eng=(lp E.eng k b).2/\FindR be (lp E.eng k b).1 E' v cs):=by
 have HF:=MC E.bc E.room E.X hE.ca.sm k;have FK:=λy h1 h2=>L6 (E:=E) (k:=k) (b:=b) (y:=y) h1 h2
 obtain⟨o,ho⟩:=Zgn ((E.X.Z.find? λx=>x.key==k));have FN:=PI (E:=E) (k:=k) (b:=b) ho;rw[ho]at HF FK;have HG:=qV hE.eg (k:=k) hb;have hxr:u8s (ga E.RZ k RS.zero).r.bytes:=by
  rcases JY E.RZ k with e|⟨y,hy,e⟩
  .rw[e];exact λx hx=>nomatch hx
  rw[<-e];exact(hE.rs y hy).2.2
 have hxrd:=λ(w:World) h=>run_rd (w:=w) (RZ:=E.RZ) (k:=k) h
 obtain⟨x,hx⟩:=Zgn (ga E.RZ k RS.zero);rw[hx]at FK FN hxr hxrd;have HP:=Me A c b hb hbl;obtain⟨⟨l,sz,en⟩,hR⟩:=Zgn (cP b 8 0);have hu:∀i,i∈l->u32 i.2:=by
  have:=(mg b 8 0).1.u32 hb;rw[hR]at this;exact this
 rw[hR]at HP;dsimp only at HP;have HL:=λA1 c1 w h=>Lt k.1 A1 c1 l hu w h
 obtain⟨lo,hlo⟩:=Zgn (fg k.1 l);rw[hlo]at HL;have hcap:=(h w (cY.refl _ _)).cap;refine Zfn func139 ntmps139 hi ?_;refine Z_2 ?_;refine ZO λb4=>?_;refine ZN λb6=>?_
 refine ZN λb7=>?_
 refine Z_3 ?_;refine cD (λq:BA×Nat=>[(0,.p be),(2,.slice A b.length c),(4,.p b4),(6,.p b6),(7,.p b7),(9,.p q.2),(10,.bool o.isSome)]) (λq=>enF be E++[baC q.1,row b4 (bZ k) 164,row b6 (BA.cells ⟨⟨(0,0),[],0⟩,none,0⟩) 202,row b7 (RS.cells RS.zero) 208,row q.2 (BA.cells q.1) 202]) (λq=>∀x,o=some x->q.1.b=x.b) ?_ ?_
 .refine ig ⟨λj=>List.elem j [5,10],[]⟩ [(0,0),(1,0),(2,0),(3,1),(4,1),(5,3),(6,3),(7,3),(8,3),(9,3),(10,3),(11,3)] Zk Zk (nN ?_);refine Wq161 ?_;refine Nu [(5,[(6,0),(7,0),(8,0),(9,2),(10,2),(11,0)]),(9,[(5,2),(6,0),(7,0),(8,0),(10,2),(11,0)])] Zk (.cons ?_ (.cons ?_ .nil))
  .refine IF ?_;rintro _ _ ⟨_,⟨y,rfl,rfl,hy⟩,rfl⟩;refine Wq24 ?_;refine eW ?_;refine AP ?_;rintro _ _ ⟨b9,rfl,rfl⟩;refine RC ?_;rintro _ _ ⟨rfl,rfl⟩;refine ID ?_;refine bJ ((y,b9)) ?_ ?_ ?_
   .exact hy
   .exact Zwk
   exact Zj
  refine AP ?_;rintro _ _ ⟨b9,rfl,rfl⟩;refine eW ?_;refine IF ?_;rintro _ _ ⟨_,⟨y,rfl,rfl,hy⟩,rfl⟩;refine Wq24 ?_;refine RC ?_;rintro _ _ ⟨rfl,rfl⟩;refine ID ?_;refine bJ ((y,b9)) ?_ ?_ ?_
  .exact hy
  .exact Zwk
  exact Zj
 rintro⟨y,b9⟩ hy;dsimp only at hy|-;refine Zs (cD (λq:Nat=>[(0,.p be),(2,.slice A b.length c),(4,.p b4),(6,.p b6),(7,.p b7),(9,.p b9),(10,.bool o.isSome),(11,.p q)]) (λq=>enF be E++[baC y,row b4 (bZ k) 164,row b6 (BA.cells ⟨⟨(0,0),[],0⟩,none,0⟩) 202,row b7 (RS.cells RS.zero) 208,row b9 (BA.cells y) 202,row q (RS.cells x) 208]) (λ_=>True) ?_ ?_)
 .refine ig ⟨λj=>List.elem j [7],[]⟩ [(0,0),(1,0),(2,0),(3,1),(4,1),(5,3),(6,3),(7,3)] Zk Zk (nN ?_);refine dx rfl (Gw Zv0) rfl (dx rfl (dF 1 rfl Zv0 Zf) rfl (AZ rfl (bF Zrf Zv0) (cN Zh rfl) rfl (xh rfl Zh Zrf Zrf (Zv rfl) rfl (Nu [(5,[(6,2),(7,2)]),(6,[(5,2),(7,2)])] Zk (.cons ?_ (.cons ?_ .nil))))))
  .refine Wq305 ?_;refine AP ?_;rintro _ _ ⟨b11,rfl,rfl⟩;refine eW ?_;rw[run_v E.RZ k,hx];refine CX ?_;rintro _ _ ⟨rfl,rfl⟩;refine lb (bJ (b11) ?_ ?_ ?_)
   .trivial
   .exact Zwk
   exact Zj
  refine AP ?_;rintro _ _ ⟨b11,rfl,rfl⟩;refine eW ?_;refine Wq305 ?_;rw[run_v E.RZ k,hx];refine CX ?_;rintro _ _ ⟨rfl,rfl⟩;refine lb (bJ (b11) ?_ ?_ ?_)
  .trivial
  .exact Zwk
  exact Zj
 rintro b11 -;refine Z_7 ?_;refine dU (bM rfl rfl) (.cons (bU rfl) (.cons (bU rfl) .nil)) (λ_ _=>rfl) (λhg w hi=>Cg A x.A c x.c b x.r.bytes hb hxr w (h w hi.Sf) (hxrd w (hi.get (show Has _ (bQ (rnC E.RZ))from Zh)))) rfl (Zw3 ?_ ?_)<;>intro hc3
 .have h9:(o.isSome&&x.r.bytes.isPrefixOf b)=true:=hc3;rw[aD]at h9;obtain⟨y0,rfl⟩:=Option.isSome_iff_exists.1 h9.1;have hfk:=FK y0 rfl h9.2;have hyb:=hy y0 rfl;refine Zs (bL ⟨λj=>List.elem j [2,3],[]⟩ Zk ?_);refine ZI 0 ?_;refine ke 1 2 Zk ?_ ?_
  .refine MX ?_;refine IJ ?_;rintro _ _ ⟨rfl,rfl⟩;refine cn 3 Zk (fO rfl rfl (cS Zrf rfl rfl (oQ x) Za oV) ZJ ?_);rintro _ _ ⟨rfl,rfl⟩;exact Wq146
  refine IJ ?_;rintro _ _ ⟨rfl,rfl⟩;refine ZI 1 ?_;refine cn 3 Zk (fO rfl rfl (cS Zrf rfl rfl (oQ x) Za oV) ZJ ?_);rintro _ _ ⟨rfl,rfl⟩;exact Wq146
 have hnk:=FN hc3;refine Z_5 ?_;refine ZSn (λw hi=>HP w (h w hi.Sf)) ?_;rintro _ _ ⟨A1,c1,x2,hx2,rfl,rfl⟩;refine Z_3 ?_;refine ZN λb13=>?_
 refine ZA ?_;refine eE (cS Zrf rfl rfl (oQ x2) Za oV) ?_;rintro _ _ ⟨rfl,rfl⟩;refine Z_3 ?_;rcases lo with _|p
 .have hfn:=yj hnk (KY hR hlo);refine Z_4 ?_;refine ZSe (λw hi=>HL A1 c1 w (hi.rd (show Has _ (slv 71 2 A1 l.length c1 (l.flatMap IZ))from Zh))) ?_;refine Z_3 ?_;refine ZN λb14=>?_
  refine ZM ?_;refine fB ?_;refine oU ?_;refine Zs (bL ⟨λj=>List.elem j [2,3],[]⟩ Zk ?_);refine ZI 0 ?_;refine ke 1 2 Zk ?_ ?_
  .refine MX ?_;refine IJ ?_;rintro _ _ ⟨rfl,rfl⟩;exact Qz
  refine IJ ?_;rintro _ _ ⟨rfl,rfl⟩;refine ZI 1 ?_;exact Qz
 obtain⟨hfit,hcnt,hl1,hl8,hgo⟩:=B2 hu hlo;refine Z_4 ?_;refine ZSn (λw hi=>HL A1 c1 w (hi.rd (show Has _ (slv 71 2 A1 l.length c1 (l.flatMap IZ))from Zh))) ?_;rintro _ _ ⟨Q,rfl,rfl⟩;refine Z_3 ?_;refine ZN λb14=>?_
 refine ZM ?_;refine fB ?_;refine iU ?_;refine Z_3 ?_;rcases hrb:p.R7 with _|_
 .have hfn:=yj hnk (O4 hR hlo hrb);refine Z_2 ?_;refine ZSe (λw hi=>Mm p Q hfit hrb w ⟨hi.rd (show Has _ (slv 305 5 Q.Ac p.code.length Q.cc (p.code.flatMap II.cells))from Zh),hi.rd (show Has _ (sl .i64 3 Q.Ad p.RV.length Q.cd p.RV)from Zh),hi.rd (show Has _ (sl .i64 3 Q.Ar p.RX.length Q.cr p.RX)from Zh)⟩) ?_;refine iT ?_;refine oU ?_;refine Zs (bL ⟨λj=>List.elem j [2,3],[]⟩ Zk ?_);refine ZI 0 ?_;refine ke 1 2 Zk ?_ ?_
  .refine MX ?_;refine IJ ?_;rintro _ _ ⟨rfl,rfl⟩;exact Qz
  refine IJ ?_;rintro _ _ ⟨rfl,rfl⟩;refine ZI 1 ?_;exact Qz
 have hfm:=L5 hnk (O3 hR hlo hrb);obtain⟨hgd,hCl⟩:=hgo hrb;have hCne:=P5 p (dP p);have HE:=PR p Q hfit hrb hgd;obtain⟨C,hC⟩:=Zgn (gt p (dP p));rw[hC]at hfm hgd hCl hCne HE;have hnew:lj k/\x2.r.bytes.length<=1000/\u8s x2.r.bytes:=(by rw[hx2];exact⟨hk,by grind,λz hz=>hb z (bh hz)⟩);refine Z_2 ?_;refine ZSn (λw hi=>HE w ⟨hi.rd (show Has _ (slv 305 5 Q.Ac p.code.length Q.cc (p.code.flatMap II.cells))from Zh),hi.rd (show Has _ (sl .i64 3 Q.Ad p.RV.length Q.cd p.RV)from Zh),hi.rd (show Has _ (sl .i64 3 Q.Ar p.RX.length Q.cr p.RX)from Zh)⟩) ?_;rintro _ _ ⟨A3,c3,rfl,rfl⟩;refine iT ?_;refine iU ?_;refine Z_9 ?_;refine eE (cS Zrf rfl rfl (nM ⟨⟨k,C,(l.length:Int)⟩,A3,c3⟩) Za oV) ?_;rintro _ _ ⟨rfl,rfl⟩;refine Z_3 ?_;refine bL ⟨λj=>List.elem j [5],[]⟩ Zk (lU ?_);refine ZFe 2 0 ?_;refine ZG 3 ?_;refine ZI 4 ?_;refine cn 5 Zk (pL (caF E.bc E.room E.X) (λw hi hin=>cput_ok E.bc E.room E.X hE.ca ⟨⟨k,C,(l.length:Int)⟩,A3,c3⟩ ⟨hCl,hk⟩ (show(1:Int)<=(l.length:Int) by omega) hCne w hin (λw' hk'=>dp (hi.SO Zi (show Has _ (sl .u8 5 A3 (cE C).length c3 (cE C))from Zh) hk'))) ?_);rintro _ _ ⟨X',rfl,hX',hXZ⟩;refine lv ?_;refine bL ⟨λj=>List.elem j [6],[]⟩ Zk (lU ?_);refine ZFe 2 1 ?_;refine ZG 3 ?_;refine ZI 4 ?_;refine ZI 5 ?_;refine cn 6 Zk (fO rfl rfl (t_mput rfl rfl rfl hk rfl D8 Za) ZJ ?_);rintro _ _ ⟨rfl,rfl⟩;rw[rnV_put E.RZ k x2];refine eQ ?_;refine Z_3 ?_;refine bL ⟨λj=>List.elem j [9],[]⟩ Zk (lU ?_);refine ZFe 2 1 ?_;refine mE ?_;refine ZFe 7 0 ?_;refine ZG 8 ?_;refine cn 3 Zk (lR ?_);refine cn 4 Zk (GC rfl (y_mlen (Zv rfl) rfl) (λw hi=>(show nR E.mr (rnV (dG E.RZ k x2)) w from hi.get (show Has _ (mpc E.mr (rnV (dG E.RZ k x2)))from Zh))) rfl (cn 9 Zk (pL (caF E.bc E.room X') (λw hi hin=>clen_ok E.bc E.room X' w hin) ?_)));rintro _ _ ⟨rfl,rfl⟩;refine ZE 10 ?_;refine eQ ?_;refine Zt (ZW ?_ ?_)<;>intro hc15
 .have hd:decide ((X'.Z.length:Int)<((dG E.RZ k x2).length:Int))=true:=(by have h9:=hc15;rw[show(rnV (dG E.RZ k x2)).length=(dG E.RZ k x2).length from aV _]at h9;exact h9)
  have had:=MR E X' ⟨k,C,(l.length:Int)⟩ x2 hXZ;dsimp only at had;rw[hd,ai,hx2]at had;refine Zr (xm (cin:=rnC E.RZ) (cin':=sL E.RZ k) Zd (xF E.RZ k) ?_);refine GB (cin:=sL E.RZ k) (c:=rsC x2) (cin':=rnC (dG E.RZ k x2)) Zd Zd (rnPut E.RZ k x2) (ZA ?_);refine ZcL (enF be ((E.Sv X').SB (dG E.RZ k x2))) (λw hi hin=>F9 be ((E.Sv X').SB (dG E.RZ k x2)) hX'.sm (Le k x2 hE.rk) (λy hy=>(zm hy).elim (λe=>by grind) (λhy=>(hE.rs y hy).1)) w hin) ?_;rintro _ _ ⟨_,rfl,rfl⟩;refine Z_3 ?_;refine bL ⟨λj=>List.elem j [2,3],[]⟩ Zk (ZI 0 ?_);refine ke 1 2 Zk ?_ ?_
  .refine MX ?_;refine QC ?_;rintro _ _ ⟨rfl,rfl⟩;refine Wq88 ?_;rintro _ _ ⟨rfl,rfl⟩;refine ZE 4 ?_;exact Wq60
  refine QC ?_;rintro _ _ ⟨rfl,rfl⟩;refine ZI 1 ?_;refine Wq88 ?_;rintro _ _ ⟨rfl,rfl⟩;refine ZE 4 ?_;exact Wq60
 have hd:decide ((X'.Z.length:Int)<((dG E.RZ k x2).length:Int))=false:=(by have h9:=hc15;rw[show(rnV (dG E.RZ k x2)).length=(dG E.RZ k x2).length from aV _]at h9;exact h9)
 have had:=MR E X' ⟨k,C,(l.length:Int)⟩ x2 hXZ;dsimp only at had;rw[hd,ah,hx2]at had;refine Z_3 ?_;refine bL ⟨λj=>List.elem j [2,3],[]⟩ Zk (ZI 0 ?_);refine ke 1 2 Zk ?_ ?_
 .refine MX ?_;refine QC ?_;rintro _ _ ⟨rfl,rfl⟩;refine Wq88 ?_;rintro _ _ ⟨rfl,rfl⟩;refine ZE 4 ?_;refine lv ?_;exact Wq51
 refine QC ?_;rintro _ _ ⟨rfl,rfl⟩;refine ZI 1 ?_;refine Wq88 ?_;rintro _ _ ⟨rfl,rfl⟩;refine ZE 4 ?_;refine lv ?_;exact Wq51
abbrev EnX.toldE(E:EnX)(X:CaX)(k:Ky)(c:Int):EnX:=⟨E.bc,E.mr,E.room,X,E.RZ,k,IntKind.i64.wrap (E.Sl+c),E.Sh,true⟩
theorem NJ{E:Eng}{s:St}{p:Int}{b:List Int}{G:Eng}(h:lp E (s.pc,p) b=(none,G)):jo E s p b=(none,G):=by
 grind [jo]
theorem Jx{E:Eng}{s:St}{p:Int}{b:List Int}{G:Eng}{t:Blk}{r:Rn}{s1:St}{how:Int}(h:lp E (s.pc,p) b=(some (t,r),G))(hr:io t.code s=(s1,how))(hh:(how !=1)=true):jo E s p b=(none,G):=by
 grind [jo]
theorem Jw{E:Eng}{s:St}{p:Int}{b:List Int}{G:Eng}{t:Blk}{r:Rn}{s1:St}{how:Int}(h:lp E (s.pc,p) b=(some (t,r),G))(hr:io t.code s=(s1,how))(hh:(how !=1)=false):jo E s p b=(some (s1,r,t.count),{G with last:=(s.pc,p),begun:=true,Sl:=IntKind.i64.wrap (G.Sl+t.count)}):=by
 grind [jo]
theorem oG.told{E:EnX}(h:oG E){X:CaX}(hX:ro E.room X)(hZ:X.Z=E.X.Z){k:Ky}(hk:lj k)(c:Int):oG (E.toldE X k c):=
 ⟨hX,h.eg.same rfl (by show X.Z.map BA.b=E.X.Z.map BA.b;rw[hZ]) rfl,h.rs,hk⟩
theorem NL{E:EnX}{X:CaX}(hZ:X.Z=E.X.Z)(k:Ky)(c:Int):(E.toldE X k c).eng={E.eng with last:=k,begun:=true,Sl:=IntKind.i64.wrap (E.eng.Sl+c)}:=by
 show Eng.mk E.room (X.Z.map BA.b) (rnM E.RZ) k (IntKind.i64.wrap (E.Sl+c)) E.Sh true=Eng.mk E.room (E.X.Z.map BA.b) (rnM E.RZ) k (IntKind.i64.wrap (E.Sl+c)) E.Sh true;rw[hZ]
abbrev tF(bu bb:Nat)(L:eA)(s:St)(X:j0)(U:Mmu)(be:Nat)(E:EnX):List bC:=slD s X.Ad X.cd::slR s X.Ar X.cr::(uF bu bb L U++enF be E)
def TransR(bu bb:Nat)(L:eA)(s:St)(U:Mmu)(be:Nat)(o:Option (St×Rn×Int))(E':EnX)(v:Value)(cs:List bC):Prop:=match o with
 |none=>∃(X:j0) (x:RS),v= .tuple #[sv s X.Ad X.cd X.Ar X.cr,.agg x.cells.toArray,.i 0]/\cs=tF bu bb L s X U be E'
 |some (o,r,k)=>∃(X:j0) (x:RS),x.r=r/\v= .tuple #[sv o X.Ad X.cd X.Ar X.cr,.agg x.cells.toArray,.i k]/\cs=tF bu bb L o X ⟨U.m.calm,U.t⟩ be E'
theorem Mc(be bu bb:Nat)(L:eA)(E:EnX)(hE:oG E)(s:St)(X:j0)(p:Nat)(hp:p<=4294967295)(hpn:p/64<L.n)(U:Mmu)(hwf:s.wf)(hs:s.right=true)(hM:U.m.ok L.n)(w:World)(hi:Inv w (bD (tF bu bb L s X U be E)) (tF bu bb L s X U be E) w):
  Ctr prog 120 [.p be,sv s X.Ad X.cd X.Ar X.cr,.w (p:Int),.p bu] w (tF bu bb L s X U be E) (λv cs=>∃E',oG E'/\E'.eng=(jo E.eng s p (iA U.m p)).2/\TransR bu bb L s U be (jo E.eng s p (iA U.m p)).1 E' v cs):=by
 have hq:IntKind.u32.wrap ((p:Int).tdiv 64)=((p/64:Nat):Int):=by rw[bo Wq1,u32_wrap_id _ Wq1 Wq1];omega
 have hrm:(p:Int).tmod 64=((p%64:Nat):Int):=by rw[aO Wq1];omega
 have HP:=zp L U.m (p/64) hpn;have hbb:=vl hM p;have hbe:iA U.m p=((U.m.data.drop (p/64*64)).take 64).drop (p%64):=rfl;have hdl:=hM.dl;have hXl:((U.m.data.drop (p/64*64)).take 64).length=64:=by rw[aI,List.length_drop];omega
 obtain⟨D,hD⟩:=Zgn ((U.m.data.drop (p/64*64)).take 64);rw[hD]at HP hXl hbe;obtain⟨hd16,hr16, -⟩:=St.fits hs;have hky:lj (s.pc,(p:Int)):=⟨hwf.pc,by omega,by omega⟩;have hbl:(iA U.m p).length=64 - p%64:=by rw[hbe,List.length_drop,hXl]
 have HFi:=λA c w hi h=>PQ be E hE (s.pc,(p:Int)) hky A c (iA U.m p) hbb Wq1 w hi h
 have HGo:=qV hE.eg (k:=(s.pc,(p:Int))) hbb;have hT1:=λG h=>NJ (E:=E.eng) (s:=s) (p:=p) (b:=iA U.m p) (G:=G) h
 have hT2:=λG t r s1 how h=>Jx (E:=E.eng) (s:=s) (p:=p) (b:=iA U.m p) (G:=G) (t:=t) (r:=r) (s1:=s1) (how:=how) h
 have hT3:=λG t r s1 how h=>Jw (E:=E.eng) (s:=s) (p:=p) (b:=iA U.m p) (G:=G) (t:=t) (r:=r) (s1:=s1) (how:=how) h
 rw[hbl]at HFi;obtain⟨⟨o,G⟩,hF⟩:=Zgn (lp E.eng (s.pc,(p:Int)) (iA U.m p));rw[hF]at HFi HGo hT1 hT2 hT3;obtain⟨T,hT⟩:=Zgn (jo E.eng s p (iA U.m p));rw[hT]at hT1 hT2 hT3|-;rw[hbe]at HFi;clear hbe hbl;refine Zfn func120 ntmps120 hi ?_;refine Z_2 ?_;refine ZO λb5=>?_;refine ZN λb8=>?_
 refine ZN λb9=>?_
 refine Z_6 ?_;refine ZSe (λw hi=>uH bu L.bm bb w (hi.get (show Has _ (IX bu L.bm bb)from Zh))) ?_;refine ZA ?_;refine Zy (k8 (Zv rfl) (Zv rfl) Wq1 hq) ?_;refine wO ?_;refine ZSn (λw hi=>HP w (hi.get (show Has _ (eG L U.m)from Zh))) ?_;rintro _ _ ⟨bq,rfl,rfl⟩;refine kM ?_;refine ZN λb13=>?_
 refine eE (cS (vs:=bZ (s.pc,(p:Int))) Zrf rfl rfl (vL _) Za oV) ?_;rintro _ _ ⟨rfl,rfl⟩;refine Z_2 ?_;refine cD (λq:EnX×BA×RS×Nat×Nat=>[(0,.p be),(3,.p bu),(5,.p b5),(8,.p b8),(9,.p b9),(13,.p b13),(14,.p q.2.2.2.1),(15,.p q.2.2.2.2),(16,.bool o.isSome)]) (λq=>tF bu bb L s X U be q.1++[baC q.2.1,row b5 (s.cells (.slice X.Ad s.d.length X.cd) (.slice X.Ar s.r.length X.cr)) 43,row b8 (St.zero.cells (.slice none 0 0) (.slice none 0 0)) 43,row b9 (RS.cells RS.zero) 208,row b13 (bZ (s.pc,(p:Int))) 164,row q.2.2.2.1 (BA.cells q.2.1) 202,row q.2.2.2.2 (RS.cells q.2.2.1) 208]) (λq=>oG q.1/\q.1.eng=G/\∀t r,o=some (t,r)->q.2.1.b=t/\q.2.2.1.r=r) ?_ ?_
 .refine ig ⟨λj=>List.elem j [6,13,14],[]⟩ [(0,0),(1,1),(2,0),(3,0),(4,0),(5,0),(6,3),(7,3),(8,3),(9,3),(10,3),(11,3),(12,3),(13,3),(14,3),(15,3)] Zk Zk (nN ?_);refine AZ rfl (bP (vs:=bZ (s.pc,(p:Int))) Zrf Zrf Zv0) (cO Zh rfl) rfl (nN ?_);refine nN ?_;refine dx rfl (i4 (Zv rfl) (Zv rfl) Wq1 hrm) rfl (dx rfl (lV (sz:=1) (lo:=p%64) (hi:=64) (r:=p%64) rfl Zrf (Zv rfl) (.inr ⟨_,_,rfl,(Zv rfl)⟩) (.inl ⟨rfl,rfl⟩) Wq1 Wq1 Wq1 Wq1) rfl (Nu [(6,[(7,0),(8,0),(9,0),(10,0),(11,3),(12,3),(13,3),(14,3),(15,3)]),(11,[(6,3),(7,3),(8,3),(9,3),(10,3),(12,3),(13,3),(14,3),(15,3)]),(12,[(6,3),(7,3),(8,3),(9,3),(10,3),(11,3),(13,3),(14,3),(15,3)])] Zk (.cons ?_ (.cons ?_ (.cons ?_ .nil)))))
  .refine Wq62 ?_;rintro _ _ ⟨_,⟨E2,hE2,hEe,y,x,rfl,rfl,hyx⟩,rfl⟩;refine M5 ?_;refine Nu [(11,[(12,2),(13,2),(14,2),(15,0)]),(12,[(11,2),(13,2),(14,2),(15,0)])] Zk (.cons ?_ (.cons ?_ .nil))
   .refine AP ?_;rintro _ _ ⟨b14,rfl,rfl⟩;refine eW ?_;refine AP ?_;rintro _ _ ⟨b15,rfl,rfl⟩;refine RC ?_;rintro _ _ ⟨rfl,rfl⟩;refine eW ?_;refine CX ?_;rintro _ _ ⟨rfl,rfl⟩;refine ID ?_;refine bJ ((E2,y,x,b14,b15)) ?_ ?_ ?_
    .exact⟨hE2,hEe,hyx⟩
    .exact Zwk
    exact Zj
   refine AP ?_;rintro _ _ ⟨b15,rfl,rfl⟩;refine eW ?_;refine AP ?_;rintro _ _ ⟨b14,rfl,rfl⟩;refine RC ?_;rintro _ _ ⟨rfl,rfl⟩;refine eW ?_;refine CX ?_;rintro _ _ ⟨rfl,rfl⟩;refine ID ?_;refine bJ ((E2,y,x,b14,b15)) ?_ ?_ ?_
   .exact⟨hE2,hEe,hyx⟩
   .exact Zwk
   exact Zj
  .refine AP ?_;rintro _ _ ⟨b14,rfl,rfl⟩;refine Nu [(6,[(7,0),(8,0),(9,0),(10,0),(12,2),(13,2),(14,2),(15,0)]),(12,[(6,2),(7,0),(8,0),(9,0),(10,0),(13,2),(14,2),(15,0)])] Zk (.cons ?_ (.cons ?_ .nil))
   .refine Wq62 ?_;rintro _ _ ⟨_,⟨E2,hE2,hEe,y,x,rfl,rfl,hyx⟩,rfl⟩;refine M5 ?_;refine eW ?_;refine AP ?_;rintro _ _ ⟨b15,rfl,rfl⟩;refine RC ?_;rintro _ _ ⟨rfl,rfl⟩;refine eW ?_;refine CX ?_;rintro _ _ ⟨rfl,rfl⟩;refine ID ?_;refine bJ ((E2,y,x,b14,b15)) ?_ ?_ ?_
    .exact⟨hE2,hEe,hyx⟩
    .exact Zwk
    exact Zj
   refine AP ?_;rintro _ _ ⟨b15,rfl,rfl⟩;refine eW ?_;refine Wq62 ?_;rintro _ _ ⟨_,⟨E2,hE2,hEe,y,x,rfl,rfl,hyx⟩,rfl⟩;refine M5 ?_;refine RC ?_;rintro _ _ ⟨rfl,rfl⟩;refine eW ?_;refine CX ?_;rintro _ _ ⟨rfl,rfl⟩;refine ID ?_;refine bJ ((E2,y,x,b14,b15)) ?_ ?_ ?_
   .exact⟨hE2,hEe,hyx⟩
   .exact Zwk
   exact Zj
  refine AP ?_;rintro _ _ ⟨b15,rfl,rfl⟩;refine Nu [(6,[(7,0),(8,0),(9,0),(10,0),(11,2),(13,2),(14,2),(15,0)]),(11,[(6,2),(7,0),(8,0),(9,0),(10,0),(13,2),(14,2),(15,0)])] Zk (.cons ?_ (.cons ?_ .nil))
  .refine Wq62 ?_;rintro _ _ ⟨_,⟨E2,hE2,hEe,y,x,rfl,rfl,hyx⟩,rfl⟩;refine M5 ?_;refine eW ?_;refine AP ?_;rintro _ _ ⟨b14,rfl,rfl⟩;refine RC ?_;rintro _ _ ⟨rfl,rfl⟩;refine eW ?_;refine CX ?_;rintro _ _ ⟨rfl,rfl⟩;refine ID ?_;refine bJ ((E2,y,x,b14,b15)) ?_ ?_ ?_
   .exact⟨hE2,hEe,hyx⟩
   .exact Zwk
   exact Zj
  refine AP ?_;rintro _ _ ⟨b14,rfl,rfl⟩;refine eW ?_;refine Wq62 ?_;rintro _ _ ⟨_,⟨E2,hE2,hEe,y,x,rfl,rfl,hyx⟩,rfl⟩;refine M5 ?_;refine RC ?_;rintro _ _ ⟨rfl,rfl⟩;refine eW ?_;refine CX ?_;rintro _ _ ⟨rfl,rfl⟩;refine ID ?_;refine bJ ((E2,y,x,b14,b15)) ?_ ?_ ?_
  .exact⟨hE2,hEe,hyx⟩
  .exact Zwk
  exact Zj
 rintro⟨E2,⟨yb,A1,c1⟩,⟨xr,A2,c2⟩,b14,b15⟩ ⟨hE2,hEe,hyx⟩;dsimp only at hE2 hEe hyx|-;refine Zw7 ?_ ?_<;>intro hc4
 .obtain rfl:o=none:=jg;have hTn:=hT1 G rfl;refine Zs (bL ⟨λj=>List.elem j [2,3],tx b15 (RS.cells ⟨xr,A2,c2⟩)⟩ Zk ?_);refine Wq210 ?_;exact Wq244
 obtain⟨⟨⟨tk,C,tc⟩,r⟩,rfl⟩:∃q,o=some q:=(by cases o with|none=>cases hc4|some q=>grind);obtain⟨rfl,rfl⟩:=hyx _ _ rfl;obtain⟨pg,il,g1,g2,g3,g4,g5,g6,g7⟩:=HGo.2.2.2.2 _ _ rfl;obtain⟨-, -, -, -,hgo⟩:=B2 g6 g1;obtain⟨hgd,hCl⟩:=hgo g2;dsimp only at g3;rw[<-g3]at hgd hCl;have HRn:=λA c w h h3=>erun_ok A c C hgd hCl s hwf hs X.Ad X.Ar X.cd X.cr w h h3
 have hTb:=λs1 how=>hT2 G ⟨tk,C,tc⟩ xr s1 how rfl
 have hTy:=λs1 how=>hT3 G ⟨tk,C,tc⟩ xr s1 how rfl
 obtain⟨⟨s1,how⟩,hrc⟩:=Zgn (io C s);dsimp only at hTb hTy;rw[hrc]at HRn;dsimp only at HRn;refine Z_7 ?_;refine ZSn (λw hi=>HRn A1 c1 w (hi.rd (show Has _ (baC ⟨⟨tk,C,tc⟩,A1,c1⟩)from Zh)) (hi.Tq (show Has _ (slD s X.Ad X.cd)from Zh) (show Has _ (slR s X.Ar X.cr)from Zh) Wq1 Wq1)) ?_;rintro _ _ ⟨X1,rfl,rfl⟩;refine Z_3 ?_;refine ZN λb17=>?_
 refine ZM ?_;refine pV ?_ ?_<;>intro hc7
 .have hTn:=hTb s1 how hrc hc7;refine Zs (bL ⟨λj=>List.elem j [2,3],tx b15 (RS.cells ⟨xr,A2,c2⟩)⟩ Zk ?_);refine Wq210 ?_;exact Wq244
 have hTn:=hTy s1 how hrc hc7;refine Z_5 ?_;refine ZSe (λw hi=>uH bu L.bm bb w (hi.get (show Has _ (IX bu L.bm bb)from Zh))) ?_;refine ZcM ([eG L U.m]) (λw hi hin=>Fs L U.m w hin) ?_;refine Z_2 ?_;refine cD (λY:CaX=>[(0,.p be),(8,.p b8),(9,.p b9),(13,.p b13),(14,.p b14),(15,.p b15),(17,.p b17)]) (λY=>row b8 (St.zero.cells (.slice none 0 0) (.slice none 0 0)) 43::row b9 (RS.cells RS.zero) 208::row b13 (bZ (s.pc,(p:Int))) 164::row b14 (BA.cells ⟨⟨tk,C,tc⟩,A1,c1⟩) 202::row b15 (RS.cells ⟨xr,A2,c2⟩) 208::row b17 (s1.cells (.slice X1.Ad s1.d.length X1.cd) (.slice X1.Ar s1.r.length X1.cr)) 43::tF bu bb L s1 X1 ⟨U.m.calm,U.t⟩ be (E2.Sv Y)) (λY=>ro E2.room Y/\Y.Z=E2.X.Z) ?_ ?_
 .refine Zw8 ?_ ?_<;>intro hc10
  .refine bL ⟨λj=>List.elem j [9],[]⟩ Zk (lU ?_);refine ZFe 2 0 ?_;refine oO ?_;refine ZFe 6 2 ?_;refine Zy5 7 rfl (bP (vs:=bZ E2.last) Zrf Zrf Zv0) (cO Zh rfl) ?_;refine Zy5 8 rfl (bP (vs:=bZ (s.pc,(p:Int))) Zrf Zrf Zv0) (cO Zh rfl) ?_;refine cn 9 Zk (pL (caF E2.bc E2.room E2.X) (λw hi hin=>P7 E2.bc E2.room E2.X hE2.ca E2.last (s.pc,(p:Int)) hE2.last w hin) ?_);rintro _ _ ⟨X2,rfl,hX2,hXZ⟩;refine eQ ?_;refine bJ (X2) ?_ ?_ ?_
   .grind
   .exact Zwk
   exact Zj
  refine Zc (bJ (E2.X) ?_ ?_ ?_)
  .exact⟨hE2.ca,rfl⟩
  .exact Zwk
  exact Zj
 rintro Y ⟨hY,hYZ⟩;refine Z_4 ?_;refine dK (bP (vs:=bZ (s.pc,(p:Int))) Zrf Zrf Zv0) (cO Zh rfl) rfl (Z_2 ?_);refine eE (gC (ys:=[.p E2.bc,.map (some E2.mr),.w s.pc,.w (p:Int),.i E2.Sl,.i E2.Sh,.bool E2.begun]) (n:=2) (vs:=bZ (s.pc,(p:Int))) rfl Zrf rfl rfl (vL _) Za rfl (Nat.le_of_ble_eq_true rfl)) ?_;rintro _ _ ⟨rfl,rfl⟩;refine mP ?_;refine Z_3 ?_;refine bL ⟨λj=>List.elem j [9],[]⟩ Zk (lU ?_);refine ZFe 2 4 ?_;refine ZG 3 ?_;refine ZFe 4 3 ?_;refine ZG 5 ?_;refine Zy4 6 rfl (ef Zv0 Zv0 Zl) ?_;refine ZE 7 ?_;refine ZFe 8 4 ?_;refine cn 9 Zk (ZQ ?_);refine lv ?_;refine bL ⟨λj=>List.elem j [4,5],tx b14 (BA.cells ⟨⟨tk,C,tc⟩,A1,c1⟩)++tx b15 (RS.cells ⟨xr,A2,c2⟩)⟩ Zk (ZI 0 ?_);refine uG 1 rfl Zk Zk Zk (bP (vs:=RS.cells ⟨xr,A2,c2⟩) Zrf Zrf Zv0) (λx hx=>List.mem_append_right _ (fh x hx)) (fG (bK (t:=202) Zh) (bK (t:=208) Zh)) rfl (ZFe 2 3 ?_);refine iW 3 rfl Zk Zk Zk (bF Zrf (Zv rfl)) Wq3 (fG (bK (t:=202) Zh) (bK (t:=208) Zh)) rfl (cn 4 Zk (fO rfl rfl (cS Zrf rfl rfl (mO rfl) Za oV) (λ_=>by rintro _ _ ⟨rfl,rfl⟩;exact fG (bK (t:=202) Zh) (bK (t:=208) Zh)) ?_));rintro _ _ ⟨rfl,rfl⟩;refine cn 5 Zk (fO rfl rfl (cS Zrf rfl rfl (oQ ⟨xr,A2,c2⟩) Za oV) (λ_=>by rintro _ _ ⟨rfl,rfl⟩;exact fG (bK (t:=202) Zh) (bK (t:=208) Zh)) ?_);rintro _ _ ⟨rfl,rfl⟩;refine ZE 6 ?_;refine lv ?_;refine bG (row b8 (s1.cells (.slice X1.Ad s1.d.length X1.cd) (.slice X1.Ar s1.r.length X1.cr)) 43::row b9 (RS.cells ⟨xr,A2,c2⟩) 208::tF bu bb L s1 X1 ⟨U.m.calm,U.t⟩ be (E2.toldE Y (s.pc,(p:Int)) tc)) Zj (xG (cs':=tF bu bb L s1 X1 ⟨U.m.calm,U.t⟩ be (E2.toldE Y (s.pc,(p:Int)) tc)) (.inl rfl) (List.Sublist.cons _ (List.Sublist.cons _ (aR _))) rfl rfl rfl rfl Zh Zh Zrf Zrf Zrf Zrf ?_);rw[hTn];exact⟨_,hE2.told hY hYZ hky tc,by rw[NL hYZ,hEe],X1,⟨xr,A2,c2⟩,rfl,rfl,rfl⟩
theorem G6{n RY k:Nat}{s:St}{p:Nat}{U:Mmu}{d:Dev}{E:Eng}(h:df n U.m p=none):jp n RY (k+1) s p U d E=((s.next.R8 1 0,U,d),{E with Sh:=IntKind.i64.wrap (E.Sh+1)}):=by
 unfold jp;rw[h]
theorem G5{n RY k:Nat}{s:St}{p:Nat}{U U1:Mmu}{d d1:Dev}{E:Eng}{op nn:Int}{z:Nat}{q:Res}(h:df n U.m p=some ((op,nn),z))(hq:pG n s op nn U d=(q,U1,d1)):
  jp n RY (k+1) s p U d E=bif jN op q RY s.pc then jp n RY k q.s ((p+z)%4294967296) U1 d1 (mV {E with Sh:=IntKind.i64.wrap (E.Sh+1)} q.RG)else((q.s,U1,d1),mV {E with Sh:=IntKind.i64.wrap (E.Sh+1)} q.RG):=by
 rw[jp,h];simp only[hq]
abbrev EnX.S1(E:EnX)(c:Int):EnX:=⟨E.bc,E.mr,E.room,E.X,E.RZ,E.last,E.Sl,IntKind.i64.wrap (E.Sh+c),E.begun⟩
theorem oG.slowed{E:EnX}(h:oG E)(c:Int):oG (E.S1 c):=⟨h.ca,h.eg.same rfl rfl rfl,h.rs,h.last⟩
abbrev egF(be bu bb:Nat)(L:eA)(D:rp)(s:St)(X:j0)(Y:nS)(U:Mmu)(d:Dev)(E:EnX):List bC:=guF bu bb L D s X Y U d++enF be E
theorem Gb(be bu bb:Nat)(L:eA)(D:rp)(Y:nS)(s:St)(X:j0)(p:Nat)(hp:p<=4294967295)(Se:Nat)(hmost:Se<=1000)(U:Mmu)(d:Dev)(hG:GOk L.n s U d)(ho:d.out.length+Se<=1000000000)(E:EnX)(hE:oG E)(w:World)(hi:Inv w (bD (egF be bu bb L D s X Y U d E)) (egF be bu bb L D s X Y U d E) w):
  Ctr prog 121 [.p be,sv s X.Ad X.cd X.Ar X.cr,.w (p:Int),.i (Se:Int),.p bu,.p D.bs] w (egF be bu bb L D s X Y U d E)
   (λv cs=>∃X' Y' E',oG E'/\E'.eng=(jp L.n (p/64) Se s p U d E.eng).2/\v=sv (jp L.n (p/64) Se s p U d E.eng).1.1 X'.Ad X'.cd X'.Ar X'.cr/\cs=egF be bu bb L D (jp L.n (p/64) Se s p U d E.eng).1.1 X' Y' (jp L.n (p/64) Se s p U d E.eng).1.2.1 (jp L.n (p/64) Se s p U d E.eng).1.2.2 E'):=by
 obtain⟨pg,hpg⟩:=Zgn (p/64);have hpq:IntKind.u32.wrap ((p:Int).tdiv 64)=(pg:Int):=by rw[bo Wq1,u32_wrap_id _ Wq1 Wq1];omega
 have hpgl:pg<=4294967295:=by omega
 rw[hpg];clear hpg;obtain⟨⟨⟨s9,U9,d9⟩,G9⟩,hR⟩:=Zgn (jp L.n pg Se s p U d E.eng);rw[hR];obtain⟨o0,hoo⟩:=Zgn (d.out.length);rw[hoo]at ho;refine Zfn func121 ntmps121 hi ?_;refine Z_2 ?_;refine ZO λb7=>?_;refine ZN λb12=>?_
 refine Z_5 ?_;refine Zy (k8 (Zv rfl) (Zv rfl) Wq1 hpq) ?_;refine wO ?_;refine Z_6 ?_;refine dN (row b7 (s.cells (.slice X.Ad s.d.length X.cd) (.slice X.Ar s.r.length X.cr)) 43::row b12 (St.zero.cells (.slice none 0 0) (.slice none 0 0)) 43::egF be bu bb L D s X Y U d E) Zj (Z_5 ?_);refine bN (λq:Nat×St×j0×Nat×nS×Mmu×Dev×EnX=>[(0,.p be),(2,.w (q.2.2.2.1:Int)),(4,.p bu),(5,.p D.bs),(7,.p b7),(12,.p b12),(13,.i (pg:Int)),(22,.i (Se:Int)),(23,.i (q.1:Int))]) (λq=>row b7 (q.2.1.cells (.slice q.2.2.1.Ad q.2.1.d.length q.2.2.1.cd) (.slice q.2.2.1.Ar q.2.1.r.length q.2.2.1.cr)) 43::row b12 (St.zero.cells (.slice none 0 0) (.slice none 0 0)) 43::egF be bu bb L D q.2.1 q.2.2.1 q.2.2.2.2.1 q.2.2.2.2.2.1 q.2.2.2.2.2.2.1 q.2.2.2.2.2.2.2) (λq=>q.1<=Se/\q.2.2.2.1<=4294967295/\GOk L.n q.2.1 q.2.2.2.2.2.1 q.2.2.2.2.2.2.1/\q.2.2.2.2.2.2.1.out.length<=o0+q.1/\oG q.2.2.2.2.2.2.2/\jp L.n pg (Se - q.1) q.2.1 q.2.2.2.1 q.2.2.2.2.2.1 q.2.2.2.2.2.2.1 q.2.2.2.2.2.2.2.eng=((s9,U9,d9),G9)) (λq=>Se - q.1) (⟨0,s,X,p,Y,U,d,E⟩) ?_ ?_ ?_ ?_
 .exact⟨au _,hp,hG,by show d.out.length<=o0+0;omega,hE,hR⟩
 .exact Zwk
 .exact Zu
 rintro⟨j,s,X,p,Y,U,d,E⟩ ⟨hj,hp,hG,ho1,hE,hRj⟩;dsimp only at hj hp hG ho1 hE hRj|-;refine Zw6 ?_ ?_<;>intro hc3
 .simp only[ae]at hc3;obtain⟨k,hk⟩:∃k,Se - j=k+1:=⟨Se - j - 1,by omega⟩;rw[hk]at hRj;have HF:=F6 bu bb L U.m p hp;have hrn:=λ(op nn:Int) (z:Nat) h=>mw (n:=L.n) (M:=U.m) (p:=p) (op:=op) (nn:=nn) (z:=z) hG.u.m h
  have hN:=G6 (n:=L.n) (RY:=pg) (k:=k) (s:=s) (p:=p) (U:=U) (d:=d) (E:=E.eng);have hS:=λ(op nn:Int) (z:Nat) (q:Res) (U1:Mmu) (d1:Dev) h hq=>G5 (n:=L.n) (RY:=pg) (k:=k) (s:=s) (p:=p) (U:=U) (d:=d) (E:=E.eng) (op:=op) (nn:=nn) (z:=z) (q:=q) (U1:=U1) (d1:=d1) h hq
  obtain⟨o,hfo⟩:=Zgn (df L.n U.m p);rw[hfo]at HF hN hS;rw[hfo]at hrn;obtain⟨hd16,hr16, -⟩:=St.fits hG.right;have hE1:=hE.slowed 1;refine fB ?_;refine pP ?_;refine mP ?_;refine Z_6 ?_;refine ZSe (λw hi=>HF w (hi.get (show Has _ (IX bu L.bm bb)from Zh)) (hi.get (show Has _ (eG L U.m)from Zh))) ?_;refine Z_4 ?_;refine ZN λb14=>?_
  refine ZM ?_;refine gK ?_;refine ZW ?_ ?_<;>intro hc6
  .obtain rfl:o=none:=(by cases o with|none=>rfl|some o=>cases hc6);rw[hN rfl,aX,aX,aX]at hRj;obtain⟨⟨rfl,rfl,rfl⟩,hG9⟩:=hRj;refine Wq238 ?_;rintro _ _ ⟨_,⟨A3,c3,A4,c4,rfl,rfl⟩,rfl⟩;refine ZM ?_;refine Z_9 ?_;exact bG (row b12 ((s.next.R8 1 0).cells (.slice A3 s.d.length c3) (.slice A4 s.r.length c4)) 43::egF be bu bb L D (s.next.R8 1 0) ⟨A3,c3,A4,c4⟩ Y U d (E.S1 1)) Zj (pR (cs':=(egF be bu bb L D (s.next.R8 1 0) ⟨A3,c3,A4,c4⟩ Y U d (E.S1 1))) (.inl rfl) Zu rfl rfl Zh Zrf Zrf ⟨⟨A3,c3,A4,c4⟩,Y,E.S1 1,hE1,hG9,rfl,rfl⟩)
  obtain⟨⟨⟨op,nn⟩,z⟩,rfl⟩:∃q,o=some q:=(by cases o with|none=>cases hc6|some o=>exact⟨o,rfl⟩);obtain⟨hnn,hz1,hz5, -⟩:=hrn op nn z rfl;have HD:=do_ok bu bb L D Y s X.Ad X.Ar X.cd X.cr op nn U d hG.wf hnn hG.u.t hG.dv.wf Wq1;have hg:=wj (op:=op) (nn:=nn) hG.wf hG.right hnn hG.u hG.dv;have hl:=un (n:=L.n) (op:=op) (nn:=nn) (s:=s) (U:=U) hG.lines;obtain⟨⟨q,U1,d1⟩,hq⟩:=Zgn (pG L.n s op nn U d);rw[hS op nn z q U1 d1 rfl hq]at hRj;rw[hq]at HD hg hl;obtain⟨g1,g2,g3,g4,g5,g6⟩:=hg;dsimp only at g1 g2 g3 g4 g5 g6 hl;have HX:=λX1 Ap cp w h=>KH op nn q X1 Ap cp pg s.pc g1.pc hG.wf.pc w h
  obtain⟨nx,hnx⟩:=Zgn (jN op q pg s.pc);rw[hnx]at HX hRj;refine Wq363 ?_;rintro _ _ ⟨_,⟨X1,Y1,Ap,cp,rfl,rfl⟩,rfl⟩;refine ZN λb17=>?_
  refine ZM ?_;refine Z_7 ?_;refine dz (enP be (E.S1 1) Ap cp q.RG) (λw hi hin=>ym be (E.S1 1) hE1 Ap cp q.RG w hin) ?_;rintro _ _ ⟨E2,rfl,hE2,hEe⟩;rw[show mV {E.eng with Sh:=IntKind.i64.wrap (E.eng.Sh+1)} q.RG=E2.eng from hEe.symm]at hRj;refine fD ?_;refine Wq132 ?_;refine Z_9 ?_;refine ZSe (λw hi=>HX X1 Ap cp w (hi.rd (show Has _ (sl .i64 3 Ap q.RG.length cp q.RG)from Zh))) ?_;refine Zw3 ?_ ?_<;>intro hc14
  .obtain rfl:nx=false:=(by cases nx with|false=>rfl|true=>cases hc14);rw[ah,aX,aX,aX]at hRj;obtain⟨⟨rfl,rfl,rfl⟩,hG9⟩:=hRj;refine Z_9 ?_;refine mD ?_;exact bG (row b12 (q.s.cells (.slice X1.Ad q.s.d.length X1.cd) (.slice X1.Ar q.s.r.length X1.cr)) 43::egF be bu bb L D q.s X1 Y1 U1 d1 E2) Zj (pR (cs':=(egF be bu bb L D q.s X1 Y1 U1 d1 E2)) (.inl rfl) Zu rfl rfl Zh Zrf Zrf ⟨X1,Y1,E2,hE2,hG9,rfl,rfl⟩)
  obtain rfl:nx=true:=(by cases nx with|true=>rfl|false=>cases hc14);rw[ai]at hRj;refine gh ?_;refine bJ ((⟨j+1,q.s,X1,(p+z)%4294967296,Y1,U1,d1,E2⟩:Nat×St×j0×Nat×nS×Mmu×Dev×EnX)) ?_ ?_ ?_
  .exact⟨⟨show j+1<=Se by omega,by show(p+z)%4294967296<=4294967295;omega,⟨g1,g2,g4,g5,hl⟩,by show d1.out.length<=o0+(j+1);omega,hE2,by show jp L.n pg (Se - (j+1)) q.s _ U1 d1 E2.eng=_;rw[show Se - (j+1)=k by omega];exact hRj⟩,show Se - (j+1)<Se - j by omega⟩
  .exact Zwk
  exact Zj
 simp only[ac]at hc3;rw[show Se - j=0 by omega]at hRj;simp only[jp,aX]at hRj;obtain⟨⟨rfl,rfl,rfl⟩,hG9⟩:=hRj;refine Z_8 ?_;refine mD ?_;exact bG (row b12 (s.cells (.slice X.Ad s.d.length X.cd) (.slice X.Ar s.r.length X.cr)) 43::egF be bu bb L D s X Y U d E) Zj (pR (cs':=(egF be bu bb L D s X Y U d E)) (.inl rfl) Zu rfl rfl Zh Zrf Zrf ⟨X,Y,E,hE,hG9,rfl,rfl⟩)
section
variable {n:Nat} {s s1 o:St} {U U1:Mmu} {d d1:Dev} {E G:Eng} {r:Rn} {c:Int}
theorem doE_no{pl:Int}(h:dy n s U d=⟨s1,pl,false,U1,d1⟩):doE n s U d E=((s1,U1,d1),{E with Sh:=IntKind.i64.wrap (E.Sh+IntKind.i64.wrap (IntKind.u64.wrap (s1.count - s.count)))}):=by
 unfold doE;rw[h]
 rfl
theorem PX{pl:Nat}(h:dy n s U d=⟨s1,(pl:Int),true,U1,d1⟩)(ht:jo E s1 (pl:Int) (iA U1.m pl)=(none,G)):doE n s U d E=jp n (pl/64) 8 s1 pl U1 d1 G:=by
 unfold doE;rw[h];simp only[ai,aM];rw[ht]
theorem doE_out{pl:Nat}(h:dy n s U d=⟨s1,(pl:Int),true,U1,d1⟩)(ht:jo E s1 (pl:Int) (iA U1.m pl)=(some (o,r,c),G))(hc:((r.ends&&decide (0<c))||o.pc/64 !=s1.pc/64)=true):doE n s U d E=((o,⟨U1.m.calm,U1.t⟩,d1),G):=by
 unfold doE;rw[h];simp only[ai,aM];rw[ht];dsimp only;rw[hc,ai]
theorem doE_on{pl:Nat}{m:Nat}(h:dy n s U d=⟨s1,(pl:Int),true,U1,d1⟩)(ht:jo E s1 (pl:Int) (iA U1.m pl)=(some (o,r,c),G))(hm:c=(m:Int))(hc:((r.ends&&decide (0<c))||o.pc/64 !=s1.pc/64)=false):doE n s U d E=jp n ((pl+r.bytes.length)%4294967296/64) (8 - m) o ((pl+r.bytes.length)%4294967296) ⟨U1.m.calm,U1.t⟩ d1 G:=by
 unfold doE;rw[h];simp only[ai,aM];rw[ht];dsimp only;rw[hc,ah,show(8 - c).toNat=8 - m by omega]
theorem GQ{p:Nat}(h:GOk n s U d)(hE:gL E)(ht:jo E s (p:Int) (iA U.m p)=(some (o,r,c),G)):GOk n o ⟨U.m.calm,U.t⟩ d/\∃m:Nat,c=(m:Int)/\1<=m/\m<=8:=by
 have hbb:=vl h.u.m p;obtain⟨f1,f2,f3,f4,f5⟩:=qV hE (k:=(s.pc,(p:Int))) hbb;unfold jo at ht;obtain⟨⟨q,E1⟩,hf⟩:=Zgn (lp E (s.pc,(p:Int)) (iA U.m p));rw[hf]at f5 ht;dsimp only at f5;cases q with
 |none=>cases ht
 |some tr=>
  obtain⟨t,r⟩:=tr;dsimp only at ht;cases hdone:(io t.code s).2==1 with
  |false=>rw[hdone]at ht;cases ht
  |true=>
   rw[hdone,ai]at ht;simp only[aX,aU]at ht;obtain⟨⟨h1,h2,h3⟩, -⟩:=ht;obtain⟨p',il,g1,g2,g3,g4,g5,g6,g7⟩:=f5 t r rfl;obtain⟨M,hM,hout⟩:=Fj hdone;rw[g3]at hM;obtain⟨k1,k2,k3,k4,k5,k6, -, -, -⟩:=EY h.u h.dv h.wf h.right g6 g1 g2 hM;rw[hout]at h1;subst h1;exact⟨⟨k2,k3,⟨h.u.m.calm,h.u.t⟩,h.dv,h.lines⟩,il.length,by rw[<-h3,g4],k5,k6⟩
end
abbrev eoF(be bu bb:Nat)(L:eA)(D:rp)(Y:nS)(U:Mmu)(d:Dev)(E:EnX):List bC:=ubF bu bb L D Y U d++enF be E
theorem edo_ok(be bu bb:Nat)(L:eA)(D:rp)(Y:nS)(s:St)(Ad Ar:Option Addr)(cd cr:Nat)(U:Mmu)(d:Dev)(hG:GOk L.n s U d)(ho:d.out.length+8<=1000000000)(E:EnX)(hE:oG E)(w:World)(hi:Inv w (bD (eoF be bu bb L D Y U d E)) (eoF be bu bb L D Y U d E) w)
  (h:∀w',cY (bD (eoF be bu bb L D Y U d E)) w w'->pY w' s Ad Ar cd cr) (ht:∀w',cY (bD (eoF be bu bb L D Y U d E)) w w'->fE w'):
  Ctr prog 95 [.p be,sv s Ad cd Ar cr,.p bu,.p D.bs] w (eoF be bu bb L D Y U d E)
   (λv cs=>∃X' Y' E',oG E'/\E'.eng=(doE L.n s U d E.eng).2/\v=sv (doE L.n s U d E.eng).1.1 X'.Ad X'.cd X'.Ar X'.cr/\cs=egF be bu bb L D (doE L.n s U d E.eng).1.1 X' Y' (doE L.n s U d E.eng).1.2.1 (doE L.n s U d E.eng).1.2.2 E'):=by
 have hq:∀x:Int,u32 x->IntKind.u32.wrap (x.tdiv 64)=x/64:=λx hx=>by obtain⟨h1,h2⟩:=hx;rw[bo h1,u32_wrap_id _ Wq1 Wq1]
 have HB:=Gp bu bb L D Y s hG.wf Ad Ar cd cr U hG.u.t d (ry hG.lines _);have hb:=oF hG;have hbp:=wC hG;have hN:=λs1 U1 d1 pl h=>doE_no (n:=L.n) (s:=s) (s1:=s1) (U:=U) (U1:=U1) (d:=d) (d1:=d1) (pl:=pl) (E:=E.eng) h
 have hY1:=λs1 U1 d1 (pl:Nat) G h ht=>PX (n:=L.n) (s:=s) (s1:=s1) (U:=U) (U1:=U1) (d:=d) (d1:=d1) (pl:=pl) (E:=E.eng) (G:=G) h ht
 have hY2:=λs1 U1 d1 (pl:Nat) o r c G h ht hc=>doE_out (n:=L.n) (s:=s) (s1:=s1) (o:=o) (U:=U) (U1:=U1) (d:=d) (d1:=d1) (pl:=pl) (E:=E.eng) (G:=G) (r:=r) (c:=c) h ht hc
 have hY3:=λs1 U1 d1 (pl:Nat) o r c G (m:Nat) h ht hm hc=>doE_on (n:=L.n) (s:=s) (s1:=s1) (o:=o) (U:=U) (U1:=U1) (d:=d) (d1:=d1) (pl:=pl) (E:=E.eng) (G:=G) (r:=r) (c:=c) (m:=m) h ht hm hc
 obtain⟨⟨s1,pl,rn,U1,d1⟩,hbe⟩:=Zgn (dy L.n s U d);rw[hbe]at HB hb hbp hN hY1 hY2 hY3;obtain⟨hg1,hpl,hout, -, -, -⟩:=hb;dsimp only at hg1 hpl hout hbp;obtain⟨pl,rfl⟩:∃m:Nat,pl=m:=ap hpl.1;have hpl2:=hpl.2;obtain⟨⟨⟨s9,U9,d9⟩,G9⟩,hR⟩:=Zgn (doE L.n s U d E.eng);rw[hR]at hN hY1 hY2 hY3|-;refine Zfn func95 ntmps95 hi ?_;refine Z_2 ?_;refine ZO λb5=>?_;refine ZN λb8=>?_
 refine Z_7 ?_;refine dz (ubF bu bb L D Y U d) (λw hi hin=>HB w hin (λw' hk=>h w' (hi.Ta (λc hc=>by simp only[eoF,enF,ubF,uF,kO,aF,aG,aS]at hc|-;grind) hk)) (λw' hk=>ht w' (hi.Ta (λc hc=>by simp only[eoF,enF,ubF,uF,kO,aF,aG,aS]at hc|-;grind) hk))) ?_;rintro _ _ ⟨X1,rfl,rfl⟩;refine ZN λb9=>?_
 refine ZM ?_;refine pV ?_ ?_<;>intro hc2
 .obtain rfl:rn=false:=(by cases rn with|false=>rfl|true=>cases hc2);have e:=hN s1 U1 d1 pl rfl;rw[aX,aX,aX]at e;obtain⟨⟨rfl,rfl,rfl⟩,hG9⟩:=e;refine Zs (bL ⟨λj=>List.elem j [14],[]⟩ Zk ?_);refine lU ?_;refine ZFe 2 5 ?_;refine ZG 3 ?_;refine ZFe 4 0 ?_;refine ZFe 5 14 ?_;refine ZG 6 ?_;refine ZFe 7 14 ?_;refine ZG 8 ?_;refine Zy4 9 rfl (gr Zv0 Zv0 rfl) ?_;refine Zy4 10 rfl (cQ rfl rfl Zv0 rfl) ?_;refine Zy4 11 rfl (ef Zv0 Zv0 rfl) ?_;refine ZE 12 ?_;refine ZFe 13 5 ?_;refine cn 14 Zk (nO ?_);refine Z_4 ?_;refine dK (bP (vs:=s9.cells (.slice X1.Ad s9.d.length X1.cd) (.slice X1.Ar s9.r.length X1.cr)) Zrf Zrf Zv0) (cO Zh rfl) rfl (iD ?_);exact bG (row b8 (s9.cells (.slice X1.Ad s9.d.length X1.cd) (.slice X1.Ar s9.r.length X1.cr)) 43::egF be bu bb L D s9 X1 Y U9 d9 (E.S1 (IntKind.i64.wrap (IntKind.u64.wrap (s9.count - s.count))))) Zj (pR (cs':=(egF be bu bb L D s9 X1 Y U9 d9 (E.S1 (IntKind.i64.wrap (IntKind.u64.wrap (s9.count - s.count)))))) (.inl rfl) Zu rfl rfl Zh Zrf Zrf ⟨X1,Y,_,hE.slowed _,hG9.symm,rfl,rfl⟩)
 obtain rfl:rn=true:=(by cases rn with|true=>rfl|false=>cases hc2);have hpn:pl/64<L.n:=(by have:=(hbp rfl).2;omega);have HT:=λX w hi=>Mc be bu bb L E hE s1 X pl Wq1 hpn U1 hg1.wf hg1.right hg1.u.m w hi
 have hTg:=λo r c G h=>GQ (o:=o) (r:=r) (c:=c) (G:=G) (p:=pl) hg1 hE.eg h
 have hY1:=hY1 s1 U1 d1 pl;have hY2:=hY2 s1 U1 d1 pl;have hY3:=hY3 s1 U1 d1 pl;obtain⟨⟨o,G⟩,hTe⟩:=Zgn (jo E.eng s1 (pl:Int) (iA U1.m pl));rw[hTe]at HT hY1 hY2 hY3 hTg;refine Z_3 ?_;rcases o with _|⟨o,r,k⟩
 .have hZ:=hY1 G rfl rfl;refine Z_3 ?_;refine Wq248 ?_;refine Z_3 ?_;refine dz (tF bu bb L s1 X1 U1 be E) (λw hi hin=>HT X1 w hin) ?_;rintro _ _ ⟨E2,hE2,hEe,X2,x,rfl,rfl⟩;refine Z_4 ?_;refine ZN λb10=>?_
  refine ZN λb11=>?_
  refine ZM ?_;refine eE (cS Zrf rfl rfl (oQ x) Za oV) ?_;rintro _ _ ⟨rfl,rfl⟩;refine sx ?_;refine Zyn rfl rfl (k8 (bU rfl) (Zv rfl) Wq1 (hq _ hg1.wf.pc)) ?_;refine Z_3 ?_;refine Zyn rfl rfl (k8 (bU rfl) (Zv rfl) Wq1 (hq _ hg1.wf.pc)) ?_;refine Z_4 ?_;refine ZW ?_ ?_<;>intro hc6
  ·(have h9:((x.r.ends&&decide ((0:Int)<0))||(s1.pc/64 !=s1.pc/64))=true:=hc6;simp at h9)
  refine Wq364 ?_;refine AZ rfl (bP (vs:=s1.cells (.slice X2.Ad s1.d.length X2.cd) (.slice X2.Ar s1.r.length X2.cr)) Zrf Zrf Zv0) (cO Zh rfl) rfl (dx rfl (dF 16 rfl Zv0 Zf) rfl (MS ?_));refine kb rfl (bP (vs:=x.cells) Zrf Zrf Zv0) (cO Zh rfl) rfl (nN ?_);refine nN ?_;refine dx rfl (gr (Zv rfl) (Zv rfl) (show _=((8:Nat):Int)from rfl)) rfl (nN ?_);refine nN ?_;refine eW ?_;refine la rfl rfl (dW rfl (λ_ _=>rfl) (λw hi=>Ga x 0 w)) ZJ rfl ?_;rintro _ _ ⟨_,⟨rfl,rfl⟩,rfl⟩;rw[az];refine dx rfl (cQ rfl rfl Zv0 rfl) rfl (dx rfl (ef (Zv rfl) (Zv rfl) (show _=(pl:Int)from by show IntKind.u32.wrap ((pl:Int)+0)=_;rw[aC];omega)) rfl (eW ?_));have HRs:=λw hi=>Gb be bu bb L D Y s1 X2 pl Wq1 8 Wq7 U1 d1 hg1 (by rw[hout];exact ho) E2 hE2 w hi
  rw[hEe,<-hZ]at HRs;refine ZcSn (egF be bu bb L D s1 X2 Y U1 d1 E2) (λw hi hin=>HRs w hin) ?_;rintro _ _ ⟨X3,Y3,E3,hE3,hEe3,rfl,rfl⟩;refine Qx ?_;exact Wq166
 obtain⟨hg2,m,rfl,hm1,hm8⟩:=hTg o r k G rfl;refine Z_3 ?_;refine Wq248 ?_;refine Z_3 ?_;refine dz (tF bu bb L s1 X1 U1 be E) (λw hi hin=>HT X1 w hin) ?_;rintro _ _ ⟨E2,hE2,hEe,X2,x,rfl,rfl,rfl⟩;refine Z_4 ?_;refine ZN λb10=>?_
 refine ZN λb11=>?_
 refine ZM ?_;refine eE (cS Zrf rfl rfl (oQ x) Za oV) ?_;rintro _ _ ⟨rfl,rfl⟩;refine sx ?_;refine Zyn rfl rfl (k8 (bU rfl) (Zv rfl) Wq1 (hq _ hg2.wf.pc)) ?_;refine Z_3 ?_;refine Zyn rfl rfl (k8 (bU rfl) (Zv rfl) Wq1 (hq _ hg1.wf.pc)) ?_;refine Z_4 ?_;refine ZW ?_ ?_<;>intro hc6
 .have hZ:=hY2 o x.r (m:Int) G rfl rfl hc6;simp only[aX]at hZ;obtain⟨⟨rfl,rfl,rfl⟩,hG9⟩:=hZ;refine Z_3 ?_;refine iD ?_;exact bG (row b8 (s9.cells (.slice X2.Ad s9.d.length X2.cd) (.slice X2.Ar s9.r.length X2.cr)) 43::egF be bu bb L D s9 X2 Y ⟨U1.m.calm,U1.t⟩ d9 E2) Zj (pR (cs':=(egF be bu bb L D s9 X2 Y ⟨U1.m.calm,U1.t⟩ d9 E2)) (.inl rfl) Zu rfl rfl Zh Zrf Zrf ⟨X2,Y,E2,hE2,hEe.trans hG9.symm,rfl,rfl⟩)
 have hZ:=hY3 o x.r (m:Int) G m rfl rfl rfl hc6;refine Wq364 ?_;refine AZ rfl (bP (vs:=o.cells (.slice X2.Ad o.d.length X2.cd) (.slice X2.Ar o.r.length X2.cr)) Zrf Zrf Zv0) (cO Zh rfl) rfl (dx rfl (dF 16 rfl Zv0 Zf) rfl (MS ?_));refine kb rfl (bP (vs:=x.cells) Zrf Zrf Zv0) (cO Zh rfl) rfl (nN ?_);refine nN ?_;refine dx rfl (gr (Zv rfl) (Zv rfl) (show _=((8 - m:Nat):Int)from by rw[IntWalk.i64_in _ ⟨by omega,by omega⟩];omega)) rfl (nN ?_);refine nN ?_;refine eW ?_;refine la rfl rfl (dW rfl (λ_ _=>rfl) (λw hi=>Ga x (m:Int) w)) ZJ rfl ?_;rintro _ _ ⟨_,⟨rfl,rfl⟩,rfl⟩;rw[show((m:Int)==0)=false from beq_eq_false_iff_ne.2 Wq1,ah,az];refine dx rfl (cQ rfl rfl Zv0 rfl) rfl (dx rfl (ef (Zv rfl) (Zv rfl) (show _=(((pl+x.r.bytes.length)%4294967296:Nat):Int)from by show IntKind.u32.wrap ((pl:Int)+IntKind.u32.wrap (x.r.bytes.length:Int))=_;simp only[aC];omega)) rfl (eW ?_));have HRs:=λw hi=>Gb be bu bb L D Y o X2 ((pl+x.r.bytes.length)%4294967296) Wq1 (8 - m) Wq1 ⟨U1.m.calm,U1.t⟩ d1 hg2 (by rw[hout];omega) E2 hE2 w hi
 rw[hEe,<-hZ]at HRs;refine ZcSn (egF be bu bb L D o X2 Y ⟨U1.m.calm,U1.t⟩ d1 E2) (λw hi hin=>HRs w hin) ?_;rintro _ _ ⟨X3,Y3,E3,hE3,hEe3,rfl,rfl⟩;refine Qx ?_;exact Wq166
theorem PM(be bu bb:Nat)(L:eA)(hn:L.n<=1000000)(D:rp)(Y:nS)(s:St)(Ad Ar:Option Addr)(cd cr:Nat)(U:Mmu)(d:Dev)(hG:GOk L.n s U d)(m:Int)(hm0: -9223372036854775808<=m)(hm:m<=1000000)(ho:d.out.length+8*m.toNat+8<=1000000000)(E:EnX)(hE:oG E)(w:World)(hi:Inv w (bD (eoF be bu bb L D Y U d E)) (eoF be bu bb L D Y U d E) w)
  (h:∀w',cY (bD (eoF be bu bb L D Y U d E)) w w'->pY w' s Ad Ar cd cr) (ht:∀w',cY (bD (eoF be bu bb L D Y U d E)) w w'->fE w'):
  Ctr prog 71 [.p be,sv s Ad cd Ar cr,.p bu,.p D.bs,.i m] w (eoF be bu bb L D Y U d E)
   (λv cs=>∃X' Y' E',oG E'/\E'.eng=(N6 L.n m s U d E.eng).2/\v=sv (N6 L.n m s U d E.eng).1.1 X'.Ad X'.cd X'.Ar X'.cr/\cs=egF be bu bb L D (N6 L.n m s U d E.eng).1.1 X' Y' (N6 L.n m s U d E.eng).1.2.1 (N6 L.n m s U d E.eng).1.2.2 E'):=by
 have HR2:=oe s;rw[hG.right]at HR2;obtain⟨hd16,hr16, -⟩:=St.fits hG.right;obtain⟨⟨⟨s9,U9,d9⟩,G9⟩,hR⟩:=Zgn (N6 L.n m s U d E.eng);rw[hR];have hR0:lF L.n m s.count (m.toNat - 0) ((s,U,d),E.eng)=((s9,U9,d9),G9):=hR;have hk0:IT L.n m s.count d.out.length 0 (s,U,d):=⟨hG,aL _,0,by show IntKind.u64.wrap (s.count - s.count)=0;rw[Int.sub_self];rfl,aL _,aL _,by cases hd:decide (0<m)with|false=>(show(0:Int)<0+8;omega)|true=>(simp only[ae]at hd;show(0:Int)<m+8;omega)⟩;obtain⟨from_,hfr⟩:=Zgn (s.count);obtain⟨o0,hoo⟩:=Zgn (d.out.length);rw[hfr]at hR0 hk0;rw[hoo]at ho hk0;refine Zfn func71 ntmps71 hi ?_;refine Z_2 ?_;refine ZO λb6=>?_;refine ZN λb10=>?_
 refine M0 ?_;rintro _ _ ⟨_,⟨A1,c1,A2,c2,rfl,rfl⟩,rfl⟩;refine jh ?_;refine ZSe (λw hi=>HR2 A1 A2 c1 c2 w) ?_;refine gK ?_;refine iU ?_;refine Z_4 ?_;refine dN (row b6 (s.cells (.slice A1 s.d.length c1) (.slice A2 s.r.length c2)) 43::row b10 (St.zero.cells (.slice none 0 0) (.slice none 0 0)) 43::egF be bu bb L D s ⟨A1,c1,A2,c2⟩ Y U d E) Zj (Z_7 ?_);refine bN (λq:Nat×St×j0×nS×Mmu×Dev×EnX=>[(0,.p be),(2,.p bu),(3,.p D.bs),(4,.i m),(6,.p b6),(10,.p b10),(11,.int .u64 from_)]) (λq=>row b6 (q.2.1.cells (.slice q.2.2.1.Ad q.2.1.d.length q.2.2.1.cd) (.slice q.2.2.1.Ar q.2.1.r.length q.2.2.1.cr)) 43::row b10 (St.zero.cells (.slice none 0 0) (.slice none 0 0)) 43::egF be bu bb L D q.2.1 q.2.2.1 q.2.2.2.1 q.2.2.2.2.1 q.2.2.2.2.2.1 q.2.2.2.2.2.2) (λq=>IT L.n m from_ o0 q.1 (q.2.1,q.2.2.2.2.1,q.2.2.2.2.2.1)/\q.1<=m.toNat/\oG q.2.2.2.2.2.2/\lF L.n m from_ (m.toNat - q.1) ((q.2.1,q.2.2.2.2.1,q.2.2.2.2.2.1),q.2.2.2.2.2.2.eng)=((s9,U9,d9),G9)) (λq=>m.toNat - q.1) (⟨0,s,⟨A1,c1,A2,c2⟩,Y,U,d,E⟩) ?_ ?_ ?_ ?_
 .exact⟨hk0,au _,hE,hR0⟩
 .exact Zwk
 .exact Zu
 rintro⟨i,s,X,Y,U,d,E⟩ ⟨hk,him,hE,hRi⟩;dsimp only at hk him hE hRi|-;have hrc:fc m from_ s=((decide (0<m)&& !s.halted)&&decide (IntKind.u64.wrap (s.count - from_)<m)):=rfl;refine Wq201 ?_;refine ZW ?_ ?_<;>intro hc5
 .have hc:fc m from_ s=true:=(by rw[hrc];revert hc5;cases decide (0<m)with|false=>(intro h;cases h)|true=>exact λh=>h);obtain⟨hk2,hilt⟩:=Fi hm Wq1 hk hc;obtain⟨k,hkk⟩:∃k,m.toNat - i=k+1:=⟨m.toNat - i - 1,by omega⟩;rw[hkk,BF (q:=((s,U,d),E.eng)) hc]at hRi;obtain⟨hd16,hr16, -⟩:=St.fits hk.g.right;have hok:=hk.out;dsimp only at hok hd16 hr16;have HB:=edo_ok be bu bb L D Y s X.Ad X.Ar X.cd X.cr U d hk.g Wq1 E hE;obtain⟨hd1, -, -⟩:=Ru hn hk.g hE.eg;obtain⟨⟨⟨s2,U2,d2⟩,G2⟩,hq⟩:=Zgn (doE L.n s U d E.eng);dsimp only at hRi hk2 hd1;rw[hq]at HB hRi hd1;dsimp only at hd1;rw[<-hd1]at hk2;refine Z_8 ?_;refine dz (eoF be bu bb L D Y U d E) (λw hi hin=>HB w hin (λw' hk=>hi.S3 Zi (show Has _ (slD s X.Ad X.cd)from Zh) (show Has _ (slR s X.Ar X.cr)from Zh) Wq1 Wq1 hk) (λw' hk=>ht w' (hi.Ta (λc hc=>by simp only[egF,eoF,enF,guF,ubF,uF,kO,aF,aG,aS]at hc|-;grind) hk))) ?_;rintro _ _ ⟨X2,Y2,E2,hE2,hEe,rfl,rfl⟩;refine ZM ?_;refine Z_2 ?_;refine bJ ((⟨i+1,s2,X2,Y2,U2,d2,E2⟩:Nat×St×j0×nS×Mmu×Dev×EnX)) ?_ ?_ ?_
  .exact⟨⟨hk2,show i+1<=m.toNat by omega,hE2,by show lF L.n m from_ (m.toNat - (i+1)) ((s2,U2,d2),E2.eng)=_;rw[show m.toNat - (i+1)=k by omega,hEe];exact hRi⟩,show m.toNat - (i+1)<m.toNat - i by omega⟩
  .exact Zwk
  exact Zj
 have hc:fc m from_ s=false:=(by rw[hrc];revert hc5;cases decide (0<m)with|false=>exact λ_=>rfl|true=>exact λh=>h);rw[vc (q:=((s,U,d),E.eng)) hc,aX,aX,aX]at hRi;obtain⟨⟨rfl,rfl,rfl⟩,hG9⟩:=hRi;refine Z_8 ?_;refine mD ?_;exact bG (row b10 (s.cells (.slice X.Ad s.d.length X.cd) (.slice X.Ar s.r.length X.cr)) 43::egF be bu bb L D s X Y U d E) Zj (pR (cs':=(egF be bu bb L D s X Y U d E)) (.inl rfl) Zu rfl rfl Zh Zrf Zrf ⟨X,Y,E,hE,hG9,rfl,rfl⟩)
section
variable {C:Cx} {fr:Fr} {d:Option Nat} {T:TypeId} {x y:Operand} {ty:TypeId} {pos:String} {af:Array Edge} {gd:Option (Nat×Bool)} {g:Bool}
end
theorem BD{n:Nat}{m f:Int}:∀(k:Nat) {q:St×Mmu×Dev},GOk n q.1 q.2.1 q.2.2->(mb n m f k q).2.2.out.length<=q.2.2.out.length+8*k
 |0,q,h=>by show q.2.2.out.length<=_;omega
 |k+1,q,h=>by
  cases hc:fc m f q.1 with
  |false=>rw[lE hc];omega
  |true=>
   rw[tT hc];have h1:=BD (m:=m) (f:=f) k (CN h);have h2:(dw n q.1 q.2.1 q.2.2).2.2.out.length<=q.2.2.out.length+8:=by
    rcases sr h with h3|⟨-, -, -,h3⟩
    .exact h3.out
    rw[h3];omega
   omega
theorem J0{n:Nat}(m:Int){s:St}{U:Mmu}{d:Dev}(h:GOk n s U d):(fZ n m s U d).2.2.out.length<=d.out.length+8*m.toNat:=BD m.toNat (q:=(s,U,d)) h
theorem Mg(room:Int)(hr:1<=room/\room<=1024)(w:World):Ctr prog 56 [.i room] w [] (λv cs=>∃be E,(oG E/\E.eng=Eng.fresh room)/\v= .tuple #[.p be,.i 0]/\cs=enF be E):=by
 refine(enew_ok room w).mono ?_;rintro v cs h;rw[if_pos hr]at h;obtain⟨be,bc,mr,ml,rfl,rfl⟩:=h;exact⟨be,⟨bc,mr,room,⟨ml,none,0,0,[],[]⟩,[],(0,0),0,0,false⟩,⟨⟨ro.none hr _ _ _ _,gL.fresh hr,(λy hy=>nomatch hy),(show lj (0,0)from⟨⟨by decide,by decide⟩,by decide,by decide⟩)⟩,rfl⟩,rfl,rfl⟩
end
end Go.Ink
