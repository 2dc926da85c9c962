/- For every input the law TopGiven answers true and leaves every argument as it was; the table of math/bits is what the program's text lays (the card ties it); no other condition. -/
import Derived.Test.YtkegldppffignaaGreatDoorPaa
import Derived.Test.YtkegldppffignaaGreatDoorPab
import Derived.Test.YtkegldppffignaaGreatDoorPac
import Derived.Test.YtkegldppffignaaGreatDoorPaz
import Derived.Test.YtkegldppffignaaGreatDoorPbb
import Derived.Test.YtkegldppffignaaGreatDoorRows
import Derived.JoinedOf
import Derived.Test.YtkegldppffignaaGreatDoorCards
import Derived.Test.YtkegldppffignaaGreatDoorTie
import Derived.SevenTiedAt
set_option linter.unusedSimpArgs false
set_option linter.unusedVariables false
set_option maxRecDepth 100000
set_option maxHeartbeats 4000000
namespace Go.Ink
open Go.RowKit
def Dev.said(d:Dev):Prop:=u8s d.out
section
variable {n:Nat} {op nn:Int} {s:St} {U:Mmu} {d:Dev} {M:Mem} {R:Run}
theorem xz(h:d.said)(k:Int)(v:Nat):(cO n M d k v).2.2.said:=by
 have ha:u8s (d.out++[IntKind.u8.wrap (v:Int)]):=λx hx=>by
  rcases aS.1 hx with q|q
  .exact h x q
  rw[aK.1 q];exact sh _
 unfold cO fO
 repeat (first|exact h|exact ha|refine bO (λq:Bool×Mem×Dev=>q.2.2.said) ?_ ?_)
theorem zm(h:d.said)(k count:Int):(di d k count).2.said:=by
 unfold di
 repeat (first|exact h|refine bO (λq:(Int×Bool)×Dev=>q.2.said) ?_ ?_)
theorem GZ(h:d.said)(va:Nat):(jZ n R U d va).d.said:=by
 unfold jZ;refine bO (λm:gi=>m.d.said) h ?_;exact bO (λm:gi=>m.d.said) (zm h _ _) h
theorem FX(h:d.said)(va v:Nat):(jX n R U d va v).d.said:=by
 unfold jX;refine bO (λm:gi=>m.d.said) h ?_;exact bO (λm:gi=>m.d.said) (xz h _ _) h
theorem DR{m:gi}(h:m.d.said):(dM n op nn m).d.said:=by
 unfold dM;refine bO (λm:gi=>m.d.said) (GZ h _) ?_;refine bO (λm:gi=>m.d.said) (FX h _ _) ?_
 repeat (first|exact h|refine bO (λm:gi=>m.d.said) h ?_)
theorem KC(h:d.said):(hH n s op nn U d).d.said:=by
 unfold hH;cases dK op nn (eY s op)with
 |some R=>exact h
 |none=>exact bO (λm:gi=>m.d.said) h (DR h)
theorem ID(h:d.said):(mq n s op nn U d).2.2.said:=by
 unfold mq;refine bO (λq:Res×Mmu×Dev=>q.2.2.said) h ?_;exact bO (λq:Res×Mmu×Dev=>q.2.2.said) h (KC h)
theorem x8(h:d.said)(c:Int):(d.tick c).said:=by
 unfold Dev.tick;exact bO Dev.said h h
theorem vQ(h:d.said):(dI n s U d).d.said:=by
 unfold dI;refine bO (λb:zG=>b.d.said) h ?_;unfold mf;exact bO (λb:zG=>b.d.said) (x8 h _) (x8 h _)
theorem yp(MY:Nat):∀(k:Nat) {s:St} (p:Nat) {U:Mmu} {d:Dev},d.said->(dZ n MY k s p U d).2.2.said
 |0,s,p,U,d,h=>h
 |k+1,s,p,U,d,h=>by
  rw[dZ];cases cZ n U.m p with
  |none=>exact h
  |some q=>
   obtain⟨⟨op,nn⟩,sz⟩:=q;exact bO (λq:St×Mmu×Dev=>q.2.2.said) (yp MY k _ (ID h)) (ID h)
theorem EE(h:d.said):(cT n s U d).2.2.said:=by
 unfold cT;exact bO (λq:St×Mmu×Dev=>q.2.2.said) (yp _ _ _ (vQ h)) (vQ h)
theorem vh{m f:Int}:∀(k:Nat) {q:St×Mmu×Dev},q.2.2.said->(kK n m f k q).2.2.said
 |0,q,h=>h
 |k+1,q,h=>by
  unfold kK;exact bO (λq:St×Mmu×Dev=>q.2.2.said) (vh k (EE h)) h
theorem JZ(m:Int)(h:d.said):(eW n m s U d).2.2.said:=vh _ h
theorem Hl(k:List Int):(Dev.init k).said:=λx hx=>by cases hx
end
theorem xT:u8s [100,114,105,118,101]:=λx hx=>by simp only[aJ,List.not_mem_nil,or_false]at hx;omega
theorem u8s_56:u8s [5,6]:=λx hx=>by simp only[aJ,List.not_mem_nil,or_false]at hx;omega
theorem ty_said{d:Dev}(h:d.said)(l:List Int):(d.M7 l).said:=h
end Go.Ink
namespace Go.Proofs.YtkegldppffignaaGreatDoor
open Go.RowKit Go.Ink Go.Proofs.Tryz
attribute [local irreducible] OpY bS
abbrev gvF(H:rp)(G:Gst)(V:Vw)(Y Y2:VAd)(b b2:Nat)(m o i k d r:List Int):List bL:=
 [sl .u8 5 Y.Am V.m.length Y.cm m,sl .u8 5 Y.Ao V.o.length Y.co o,sl .u8 5 Y.Ai V.i.length Y.ci i,sl .u8 5 Y.Ak V.k.length Y.ck k,sl .u32 25 Y.X.Ad V.s.d.length Y.X.cd d,sl .u32 25 Y.X.Ar V.s.r.length Y.X.cr r,row b (V.cells Y) 68,row b2 (V.cells Y2) 68]++(vwC V Y2++gsF H G)
theorem zZ(A:Option Addr)(c:Nat)(l:List xG)(MK n:Int)(w:World)(h:RdV w 5 A l.length c (l.flatMap xG.cells))(hl:∀a,a∈l->a.ok w)(ht:iG w):
  Ctr prog 8 [.slice A l.length c,.int .i64 MK,.int .i64 n] w [] (λv cs=>v= .bool true/\cs=[]):=by
 have HI:=λB w h hl hB=>Cj A B c 5 l MK [100,114,105,118,101] xT w h hl hB
 have HN:=λA B c l n hn0 hn hll hlb w hA hB=>lw n hn0 hn A B c 5 l [100,114,105,118,101] hll hlb Wq5 xT true w hA hB
 obtain⟨W0,hW0⟩:=Zgn (List.replicate 256 (-1:Int));obtain⟨B0,hB0⟩:=Zgn (List.replicate 16384 (0:Int));obtain⟨P0,hP0⟩:=Zgn (List.replicate 4 (-1:Int));rw[hB0,hW0,hP0]at HN;obtain⟨m,hm⟩:=Zgn (kM n 0 60);have hmr:=ke n 0 60 Wq5;rw[hm]at hmr;have HW:=λw=>hm▸kr n 0 60 w Wq5 Wq5 Wq5
 have HG:∀(H:rp) (G:Gst) (N:Nat) (l:List Int),Jg H.L.bp 0 N B0 W0 P0 l [100,114,105,118,101] true H G->H.L.n=N/\G.ok N/\GIn G.d/\G.d.said/\G.d.out.length<=0:=λH G N l h=>⟨h.hn,h.ok,by rw[h.hd];exact Hm _,by rw[h.hd];exact Hl _,by rw[h.hd];exact aM _⟩
 refine bN func8 rfl ntmps8 rfl (Inv.start w) ?_;refine Z_9 ?_;refine jO ?_;rintro _ _ ⟨b20,rfl,rfl⟩;refine gj (t_mark rfl Za rfl rfl) rfl ?_;rintro _ _ ⟨rfl,rfl⟩;refine ZS (λw hi=>HI (some ⟨b20,0,none⟩) w (h.MZ hi) (λa ha=>⟨(hl a ha).v,(hl a ha).at_,(hl a ha).rd.MZ hi,(hl a ha).bs⟩) (Mg (hi.get (show Has _ (rdC (some ⟨b20,0,none⟩) 5 5 (ints .u8 [100,114,105,118,101]))from Zh)))) ?_;rintro _ _ ⟨_,⟨A1,c1,E,E2,N,⟨hE1,⟨hn1,hn2⟩,hE2⟩,rfl,rfl⟩,rfl⟩;refine ZS (λw hi=>HN A1 (some ⟨b20,0,none⟩) c1 (E.take (N*64)) N hn1 Wq1 hE2 (λx hx=>hE1 x (bj hx)) w (jo (hi.rd (show Has _ (sl .u8 5 A1 E.length c1 E)from Zh)) (N*64)) (Mg (hi.get (show Has _ (rdC (some ⟨b20,0,none⟩) 5 5 (ints .u8 [100,114,105,118,101]))from Zh)))) ?_;rintro _ _ ⟨_,⟨H,⟨s,X,Y,U,d,o⟩,hBo,rfl,rfl⟩,rfl⟩;obtain⟨hn3,hG,hI,hS,ho⟩:=HG H _ N _ hBo;clear hBo;dsimp only at hI hS ho;have hg:=hG.g;dsimp only at hg;obtain⟨g3,hI3⟩:=oX hg hI u8s_56;have hS3:=ty_said hS [5,6];have ho3:(d.M7 [5,6]).out.length<=0:=ho;have HI2:=λA w hi h=>pQ H ⟨s,X,Y,U,d,o⟩ hI.i64 A 2 [5,6] Wq5 w hi h
 dsimp only at HI2;obtain⟨d3,hd3⟩:=Zgn (d.M7 [5,6]);obtain⟨N2,hN2⟩:=Zgn (d.Nd [5,6]);rw[hd3]at g3 hI3 hS3 ho3 HI2;rw[hN2]at HI2;have HR:=λY w hi ht=>lf H ⟨s,X,Y,U,d3,o⟩ Wq1 (hn3.symm▸(⟨g3,hG.e⟩:Gst.ok N ⟨s,X,Y,U,d3,o⟩)) m Wq1 Wq1 (by dsimp only;omega) w hi ht
 have hro:=F9 m g3;have hrs:=JZ (n:=N) (s:=s) (U:=U) m hS3;refine dS ?_;refine fS ?_;refine Z_5 ?_;refine jO ?_;rintro _ _ ⟨b27,rfl,rfl⟩;refine ZcL (gsF H ⟨s,X,Y,U,d,o⟩) (λw hi hin=>HI2 (some ⟨b27,0,none⟩) w hin (λw' hk=>hi.NE Zi (show Has _ (slv 5 1 (some ⟨b27,0,none⟩) 2 2 (ints .u8 [5,6]))from Zh) hk)) ?_;rintro _ _ ⟨_,⟨Y3,rfl,rfl⟩,rfl⟩;refine Z_6 ?_;refine ZSe (λw hi=>HW w) ?_;refine ZcL (gsF H ⟨s,X,Y3,U,d3,o⟩) (λw hi hin=>HR Y3 w hin (λw' hk=>RdV.M6 ht hi Zi hk)) ?_;rintro _ _ ⟨_,⟨G,⟨hG4,hr4, -⟩,rfl,rfl⟩,rfl⟩;dsimp only at hr4;rw[hn3]at hr4;rw[<-hr4]at hro hrs;have hGn:G.ok N:=(hn3▸hG4);obtain⟨hd16,hr16, -⟩:=St.fits hGn.g.right;have HV:=λw h=>pJ H G hG4 (by dsimp only at hro;omega) w h
 have hVw:G.view.wf:=hGn.view hrs;have hVd:G.view.s.d.length<=16:=hd16;have hVr:G.view.s.r.length<=16:=hr16;have hVm:G.view.m.length=N*64:=hGn.g.u.m.dl;have hVo:G.view.o.length<=1000:=(by show G.d.out.length<=_;dsimp only at hro;omega);have hVi:G.view.i.length<=1000000000:=hGn.g.dv.wf.inp;have hVk:G.view.k.length=1024:=hGn.g.dv.wf.M4;obtain⟨V,hV⟩:=Zgn (G.view);rw[hV]at HV hVw hVd hVr hVm hVo hVi hVk;refine Z_5 ?_;refine ZS (λw hi=>HV w (hi.okS Zi)) ?_;rintro _ _ ⟨_,⟨Y1,rfl,rfl⟩,rfl⟩;refine ZA ?_;refine ZS (λw hi=>HV w (hi.okS Zi)) ?_;rintro _ _ ⟨_,⟨Y2,rfl,rfl⟩,rfl⟩;refine ZN λb8=>?_
 refine ZN λb9=>?_
 refine ZM ?_;refine ZM ?_;refine Z_5 ?_;obtain⟨⟨Ad,cd,Ar,cr⟩,Am,cm,Ao,co,Ai,ci,Ak,ck⟩:=Y1;refine iT (gvF H G V ⟨⟨Ad,cd,Ar,cr⟩,Am,cm,Ao,co,Ai,ci,Ak,ck⟩ Y2 b8 b9 V.m V.o V.i V.k V.s.d V.s.r) Zj ?_;refine Z_4 ?_;refine cq (λq:Nat×List Int=>[(7,.pointer (some ⟨H.bg,0,none⟩)),(8,.pointer (some ⟨b8,0,none⟩)),(9,.pointer (some ⟨b9,0,none⟩)),(10,.int .i64 (q.1:Int))]) (λq=>gvF H G V ⟨⟨Ad,cd,Ar,cr⟩,Am,cm,Ao,co,Ai,ci,Ak,ck⟩ Y2 b8 b9 q.2 V.o V.i V.k V.s.d V.s.r) (λq=>q.2.length=V.m.length/\q.1<=V.m.length) (λq=>V.m.length - q.1) ((⟨0,V.m⟩:Nat×List Int)) ?_ ?_ ?_ ?_
 .exact⟨rfl,aq _⟩
 .exact Zwk
 .exact Zu
 rintro⟨k,M⟩ ⟨hM,hk⟩;dsimp only at hM hk|-;refine dS ?_;refine ZW ?_ ?_<;>intro hc8
 .simp only[aj]at hc8;obtain⟨x,hx⟩:∃x,M[k]? =some x:=⟨_,ai Wq1⟩;refine Z_5 ?_;refine dU (λw hi=>ez (hi.get (show Has _ (sl .u8 5 Am V.m.length cm M)from Zh)) Wq1) (λh1=>?_);obtain⟨ba,rfl⟩:=h1;refine Z_3 ?_;refine Wq22 ?_;rintro _ _ ⟨rfl,rfl⟩;rw[eh];refine Z_5 ?_;refine Wq8 ?_;refine bX ((⟨k+1,M.set k (IntKind.u8.wrap (x+1))⟩:Nat×List Int)) ?_ ?_ ?_
  .exact⟨⟨by rw[aC];exact hM,show k+1<=V.m.length by omega⟩,show V.m.length - (k+1)<V.m.length - k by omega⟩
  .exact Zwk
  exact Zj
 clear hk;refine lN ?_;refine dA ?_;refine dA ?_;refine fw rfl ?_;refine Zt (Zs (Zs (Zr (ZFa 17 ?_))));refine ZC ?_;refine ZFa 18 ?_;refine ZC ?_;refine ZFa 19 ?_;refine ZC ?_;refine jO ?_;rintro _ _ ⟨b57,rfl,rfl⟩;refine Z_2 ?_;refine Zn (Zt (Zx ?_));refine cq (λq:Nat×List Int×List Int×List Int=>[(7,.pointer (some ⟨H.bg,0,none⟩)),(8,.pointer (some ⟨b8,0,none⟩)),(9,.pointer (some ⟨b9,0,none⟩)),(57,.slice (some ⟨b57,0,none⟩) 3 3),(58,.int .i64 3),(59,.int .i64 (q.1:Int))]) (λq=>gvF H G V ⟨⟨Ad,cd,Ar,cr⟩,Am,cm,Ao,co,Ai,ci,Ak,ck⟩ Y2 b8 b9 M q.2.1 q.2.2.1 q.2.2.2 V.s.d V.s.r++[slv 22 1 (some ⟨b57,0,none⟩) 3 3 [.slice Ao V.o.length co,.slice Ai V.i.length ci,.slice Ak V.k.length ck]]) (λq=>q.1<=3/\q.2.1.length=V.o.length/\q.2.2.1.length=V.i.length/\q.2.2.2.length=V.k.length) (λq=>3 - q.1) ((⟨0,V.o,V.i,V.k⟩:Nat×List Int×List Int×List Int)) ?_ ?_ ?_ ?_
 .exact⟨aq _,rfl,rfl,rfl⟩
 .exact Zwk
 .exact Zu
 rintro⟨j,Mo,Mi,Mk⟩ ⟨hj,hMo,hMi,hMk⟩;dsimp only at hj hMo hMi hMk|-;refine Z_6 ?_;refine ZW ?_ ?_<;>intro hc12
 .simp only[aj]at hc12;refine Z_5 ?_;obtain h3:j=0\/j=1\/j=2:=Wq1;rcases h3 with rfl|rfl|rfl
  .refine Zr (Zy (cw (j:=0) (sz:=1) (r:=0) rfl Zrf (Zv rfl) (Zv rfl) Wq4 Wq4 Wq1) ?_);refine dN (bQ Zrf Zv0) (dm Zh rfl) rfl ?_;refine Z_9 ?_;refine cq (λq:Nat×List Int=>[(7,.pointer (some ⟨H.bg,0,none⟩)),(8,.pointer (some ⟨b8,0,none⟩)),(9,.pointer (some ⟨b9,0,none⟩)),(12,.slice Ao V.o.length co),(13,.int .i64 (q.1:Int)),(57,.slice (some ⟨b57,0,none⟩) 3 3),(58,.int .i64 3),(59,.int .i64 ((0:Nat):Int))]) (λq=>gvF H G V ⟨⟨Ad,cd,Ar,cr⟩,Am,cm,Ao,co,Ai,ci,Ak,ck⟩ Y2 b8 b9 M q.2 Mi Mk V.s.d V.s.r++[slv 22 1 (some ⟨b57,0,none⟩) 3 3 [.slice Ao V.o.length co,.slice Ai V.i.length ci,.slice Ak V.k.length ck]]) (λq=>q.2.length=V.o.length/\q.1<=V.o.length) (λq=>V.o.length - q.1) ((⟨0,Mo⟩:Nat×List Int)) ?_ ?_ ?_ ?_
   .exact⟨hMo,aq _⟩
   .exact Zwk
   .exact Zu
   rintro⟨k,M2⟩ ⟨hM2,hk⟩;dsimp only at hM2 hk|-;refine Z_9 ?_;refine ZW ?_ ?_<;>intro hc15
   .simp only[aj]at hc15;obtain⟨x,hx⟩:∃x,M2[k]? =some x:=⟨_,ai Wq1⟩;refine Z_5 ?_;refine dU (λw hi=>ez (hi.get (show Has _ (sl .u8 5 Ao V.o.length co M2)from Zh)) Wq1) (λh1=>?_);obtain⟨ba,rfl⟩:=h1;refine Z_2 ?_;refine Wq22 ?_;rintro _ _ ⟨rfl,rfl⟩;rw[eh];refine Z_5 ?_;refine Wq8 ?_;refine bX ((⟨k+1,M2.set k (IntKind.u8.wrap (x+1))⟩:Nat×List Int)) ?_ ?_ ?_
    .exact⟨⟨by rw[aC];exact hM2,by show k+1<=_;omega⟩,by show _ - (k+1)<_ - k;omega⟩
    .exact Zwk
    exact Zj
   clear hk;refine lN ?_;refine dA ?_;refine dA ?_;refine fw rfl ?_;refine Zo (Zt (Zr (Zy (df Zv0 Zv0 Zl) ?_)));refine ZA ?_;refine Zn ?_;refine bX ((⟨1,M2,Mi,Mk⟩:Nat×List Int×List Int×List Int)) ?_ ?_ ?_
   .exact⟨⟨(by show 1<=3;decide),hM2,hMi,hMk⟩,(by show 3 - 1<3 - 0;decide)⟩
   .exact Zwk
   exact Zj
  .refine Zr (Zy (cw (j:=1) (sz:=1) (r:=1) rfl Zrf (Zv rfl) (Zv rfl) Wq4 Wq4 Wq1) ?_);refine dN (bQ Zrf Zv0) (dm Zh rfl) rfl ?_;refine Z_9 ?_;refine cq (λq:Nat×List Int=>[(7,.pointer (some ⟨H.bg,0,none⟩)),(8,.pointer (some ⟨b8,0,none⟩)),(9,.pointer (some ⟨b9,0,none⟩)),(12,.slice Ai V.i.length ci),(13,.int .i64 (q.1:Int)),(57,.slice (some ⟨b57,0,none⟩) 3 3),(58,.int .i64 3),(59,.int .i64 ((1:Nat):Int))]) (λq=>gvF H G V ⟨⟨Ad,cd,Ar,cr⟩,Am,cm,Ao,co,Ai,ci,Ak,ck⟩ Y2 b8 b9 M Mo q.2 Mk V.s.d V.s.r++[slv 22 1 (some ⟨b57,0,none⟩) 3 3 [.slice Ao V.o.length co,.slice Ai V.i.length ci,.slice Ak V.k.length ck]]) (λq=>q.2.length=V.i.length/\q.1<=V.i.length) (λq=>V.i.length - q.1) ((⟨0,Mi⟩:Nat×List Int)) ?_ ?_ ?_ ?_
   .exact⟨hMi,aq _⟩
   .exact Zwk
   .exact Zu
   rintro⟨k,M2⟩ ⟨hM2,hk⟩;dsimp only at hM2 hk|-;refine Z_9 ?_;refine ZW ?_ ?_<;>intro hc15
   .simp only[aj]at hc15;obtain⟨x,hx⟩:∃x,M2[k]? =some x:=⟨_,ai Wq1⟩;refine Z_5 ?_;refine dU (λw hi=>ez (hi.get (show Has _ (sl .u8 5 Ai V.i.length ci M2)from Zh)) Wq1) (λh1=>?_);obtain⟨ba,rfl⟩:=h1;refine Z_2 ?_;refine Wq22 ?_;rintro _ _ ⟨rfl,rfl⟩;rw[eh];refine Z_5 ?_;refine Wq8 ?_;refine bX ((⟨k+1,M2.set k (IntKind.u8.wrap (x+1))⟩:Nat×List Int)) ?_ ?_ ?_
    .exact⟨⟨by rw[aC];exact hM2,by show k+1<=_;omega⟩,by show _ - (k+1)<_ - k;omega⟩
    .exact Zwk
    exact Zj
   clear hk;refine lN ?_;refine dA ?_;refine dA ?_;refine fw rfl ?_;refine Zo (Zt (Zr (Zy (df Zv0 Zv0 Zl) ?_)));refine ZA ?_;refine Zn ?_;refine bX ((⟨2,Mo,M2,Mk⟩:Nat×List Int×List Int×List Int)) ?_ ?_ ?_
   .exact⟨⟨(by show 2<=3;decide),hMo,hM2,hMk⟩,(by show 3 - 2<3 - 1;decide)⟩
   .exact Zwk
   exact Zj
  refine Zr (Zy (cw (j:=2) (sz:=1) (r:=2) rfl Zrf (Zv rfl) (Zv rfl) Wq4 Wq4 Wq1) ?_);refine dN (bQ Zrf Zv0) (dm Zh rfl) rfl ?_;refine Z_9 ?_;refine cq (λq:Nat×List Int=>[(7,.pointer (some ⟨H.bg,0,none⟩)),(8,.pointer (some ⟨b8,0,none⟩)),(9,.pointer (some ⟨b9,0,none⟩)),(12,.slice Ak V.k.length ck),(13,.int .i64 (q.1:Int)),(57,.slice (some ⟨b57,0,none⟩) 3 3),(58,.int .i64 3),(59,.int .i64 ((2:Nat):Int))]) (λq=>gvF H G V ⟨⟨Ad,cd,Ar,cr⟩,Am,cm,Ao,co,Ai,ci,Ak,ck⟩ Y2 b8 b9 M Mo Mi q.2 V.s.d V.s.r++[slv 22 1 (some ⟨b57,0,none⟩) 3 3 [.slice Ao V.o.length co,.slice Ai V.i.length ci,.slice Ak V.k.length ck]]) (λq=>q.2.length=V.k.length/\q.1<=V.k.length) (λq=>V.k.length - q.1) ((⟨0,Mk⟩:Nat×List Int)) ?_ ?_ ?_ ?_
  .exact⟨hMk,aq _⟩
  .exact Zwk
  .exact Zu
  rintro⟨k,M2⟩ ⟨hM2,hk⟩;dsimp only at hM2 hk|-;refine Z_9 ?_;refine ZW ?_ ?_<;>intro hc15
  .simp only[aj]at hc15;obtain⟨x,hx⟩:∃x,M2[k]? =some x:=⟨_,ai Wq1⟩;refine Z_5 ?_;refine dU (λw hi=>ez (hi.get (show Has _ (sl .u8 5 Ak V.k.length ck M2)from Zh)) Wq1) (λh1=>?_);obtain⟨ba,rfl⟩:=h1;refine Z_2 ?_;refine Wq22 ?_;rintro _ _ ⟨rfl,rfl⟩;rw[eh];refine Z_5 ?_;refine Wq8 ?_;refine bX ((⟨k+1,M2.set k (IntKind.u8.wrap (x+1))⟩:Nat×List Int)) ?_ ?_ ?_
   .exact⟨⟨by rw[aC];exact hM2,by show k+1<=_;omega⟩,by show _ - (k+1)<_ - k;omega⟩
   .exact Zwk
   exact Zj
  clear hk;refine lN ?_;refine dA ?_;refine dA ?_;refine fw rfl ?_;refine Zo (Zt (Zr (Zy (df Zv0 Zv0 Zl) ?_)));refine ZA ?_;refine Zn ?_;refine bX ((⟨3,Mo,Mi,M2⟩:Nat×List Int×List Int×List Int)) ?_ ?_ ?_
  .exact⟨⟨(by show 3<=3;decide),hMo,hMi,hM2⟩,(by show 3 - 3<3 - 2;decide)⟩
  .exact Zwk
  exact Zj
 clear hj;refine lN ?_;refine dA ?_;refine dA ?_;refine fw rfl ?_;refine Zt (Zs (Zs (Zr (ZA ?_))));refine Zn (Zt (Zx ?_));refine cq (λq:Nat×List Int=>[(7,.pointer (some ⟨H.bg,0,none⟩)),(8,.pointer (some ⟨b8,0,none⟩)),(9,.pointer (some ⟨b9,0,none⟩)),(14,.int .i64 (q.1:Int))]) (λq=>gvF H G V ⟨⟨Ad,cd,Ar,cr⟩,Am,cm,Ao,co,Ai,ci,Ak,ck⟩ Y2 b8 b9 M Mo Mi Mk q.2 V.s.r) (λq=>q.2.length=V.s.d.length/\q.1<=V.s.d.length) (λq=>V.s.d.length - q.1) ((⟨0,V.s.d⟩:Nat×List Int)) ?_ ?_ ?_ ?_
 .exact⟨rfl,aq _⟩
 .exact Zwk
 .exact Zu
 rintro⟨k,Md⟩ ⟨hMd,hk⟩;dsimp only at hMd hk|-;refine fE ?_;refine ZW ?_ ?_<;>intro hc20
 .simp only[aj]at hc20;obtain⟨x,hx⟩:∃x,Md[k]? =some x:=⟨_,ai Wq1⟩;refine Z_5 ?_;refine dU (λw hi=>ez (hi.get (show Has _ (sl .u32 25 Ad V.s.d.length cd Md)from Zh)) Wq1) (λh1=>?_);obtain⟨ba,rfl⟩:=h1;refine Z_4 ?_;refine Wq22 ?_;rintro _ _ ⟨rfl,rfl⟩;rw[eh];refine Z_5 ?_;refine Wq8 ?_;refine bX ((⟨k+1,Md.set k (IntKind.u32.wrap (x+1))⟩:Nat×List Int)) ?_ ?_ ?_
  .exact⟨⟨by rw[aC];exact hMd,show k+1<=V.s.d.length by omega⟩,show V.s.d.length - (k+1)<V.s.d.length - k by omega⟩
  .exact Zwk
  exact Zj
 clear hk;refine lN ?_;refine dA ?_;refine dA ?_;refine fw rfl ?_;refine Zt (Zs (Zs (Zr (ZA ?_))));refine Zn (Zt (Zx ?_));refine cq (λq:Nat×List Int=>[(7,.pointer (some ⟨H.bg,0,none⟩)),(8,.pointer (some ⟨b8,0,none⟩)),(9,.pointer (some ⟨b9,0,none⟩)),(15,.int .i64 (q.1:Int))]) (λq=>gvF H G V ⟨⟨Ad,cd,Ar,cr⟩,Am,cm,Ao,co,Ai,ci,Ak,ck⟩ Y2 b8 b9 M Mo Mi Mk Md q.2) (λq=>q.2.length=V.s.r.length/\q.1<=V.s.r.length) (λq=>V.s.r.length - q.1) ((⟨0,V.s.r⟩:Nat×List Int)) ?_ ?_ ?_ ?_
 .exact⟨rfl,aq _⟩
 .exact Zwk
 .exact Zu
 rintro⟨k,Mr⟩ ⟨hMr,hk⟩;dsimp only at hMr hk|-;refine fE ?_;refine ZW ?_ ?_<;>intro hc24
 .simp only[aj]at hc24;obtain⟨x,hx⟩:∃x,Mr[k]? =some x:=⟨_,ai Wq1⟩;refine Z_5 ?_;refine dU (λw hi=>ez (hi.get (show Has _ (sl .u32 25 Ar V.s.r.length cr Mr)from Zh)) Wq1) (λh1=>?_);obtain⟨ba,rfl⟩:=h1;refine Z_4 ?_;refine Wq22 ?_;rintro _ _ ⟨rfl,rfl⟩;rw[eh];refine Z_5 ?_;refine Wq8 ?_;refine bX ((⟨k+1,Mr.set k (IntKind.u32.wrap (x+1))⟩:Nat×List Int)) ?_ ?_ ?_
  .exact⟨⟨by rw[aC];exact hMr,show k+1<=V.s.r.length by omega⟩,show V.s.r.length - (k+1)<V.s.r.length - k by omega⟩
  .exact Zwk
  exact Zj
 clear hk;refine lN ?_;refine dA ?_;refine dA ?_;refine fw rfl ?_;refine Zt (Zs (Zr (ZA ?_)));refine ZS (λw hi=>vE H G w (hi.get (show Has _ (Cs H G false)from Zh)) (hi.get (show Has _ (eA H.L G.U.m)from Zh))) ?_;rintro _ _ ⟨_,⟨A9,c9,fs,⟨hfs, -⟩,rfl,rfl⟩,rfl⟩;refine ZA ?_;refine Zn (Zt (Zs (Zs (Zr (ZA ?_)))));refine Zn (Zt (Zx ?_));refine cq (λq:Nat×List Int=>[(7,.pointer (some ⟨H.bg,0,none⟩)),(8,.pointer (some ⟨b8,0,none⟩)),(9,.pointer (some ⟨b9,0,none⟩)),(16,.slice A9 fs.length c9),(17,.int .i64 (q.1:Int))]) (λq=>gvF H G V ⟨⟨Ad,cd,Ar,cr⟩,Am,cm,Ao,co,Ai,ci,Ak,ck⟩ Y2 b8 b9 M Mo Mi Mk Md Mr++[sl .i64 3 A9 fs.length c9 q.2]) (λq=>q.2.length=fs.length/\q.1<=fs.length) (λq=>fs.length - q.1) ((⟨0,fs⟩:Nat×List Int)) ?_ ?_ ?_ ?_
 .exact⟨rfl,aq _⟩
 .exact Zwk
 .exact Zu
 rintro⟨k,Mf⟩ ⟨hMf,hk⟩;dsimp only at hMf hk|-;refine Z_9 ?_;refine ZW ?_ ?_<;>intro hc29
 .simp only[aj]at hc29;refine Z_5 ?_;refine dU (λw hi=>ez (hi.get (show Has _ (sl .i64 3 A9 fs.length c9 Mf)from Zh)) Wq1) (λh1=>?_);obtain⟨ba,rfl⟩:=h1;refine Z_2 ?_;refine Zy (cw (j:=k) (sz:=1) (r:=k) rfl Zrf (Zv rfl) (Zv rfl) Wq4 Wq4 Wq1) ?_;refine dH (fh Zrf rfl rfl rfl Za Wq1) ?_;rintro _ _ ⟨rfl,rfl⟩;rw[eh];refine Z_5 ?_;refine Wq8 ?_;refine bX ((⟨k+1,Mf.set k 0⟩:Nat×List Int)) ?_ ?_ ?_
  .exact⟨⟨by rw[aC];exact hMf,show k+1<=fs.length by omega⟩,show fs.length - (k+1)<fs.length - k by omega⟩
  .exact Zwk
  exact Zj
 clear hk;refine lN ?_;refine dA ?_;refine dA ?_;refine fw rfl ?_;refine Zt (Zs (bU ⟨λj=>List.elem j [],[]⟩ Zk ?_));refine ZE 0 ?_;refine dD 2 rfl Zk Zk Zk Zk (cz (vs:=V.cells Y2) Zrf Zrf Zv0) (cK Zh rfl) rfl ?_;refine cn 1 Zk ?_;refine ZT (λw hi=>HV w (hi.okS Zi)) ?_;rintro _ _ ⟨_,⟨Y5,rfl,rfl⟩,rfl⟩;refine cn 3 Zk ?_;refine ZT (λw hi=>Cf V V Y5 Y2 hVw hVw w (Js (hi.okS (show ja (vwC V Y5) _ _ from Zi)) Wq1 Wq1) (Js (hi.okS (show ja (vwC V Y2) _ _ from Zi)) Wq1 Wq1)) ?_;rintro _ _ ⟨_,⟨⟨r,rfl,hr⟩,rfl⟩,rfl⟩;obtain rfl:r=true:=hr.2 rfl;refine ZE 4 ?_;refine ZF 5 ?_;refine cn 6 Zk ?_;refine sj rfl rfl (bR rfl rfl) rfl (cU rfl (λ_ _=>rfl) (λw hi=>vE H G w (hi.get (show Has _ (Cs H G false)from Zh)) (hi.get (show Has _ (eA H.L G.U.m)from Zh)))) ZJ rfl ?_;rintro _ _ ⟨_,⟨A8,c8,fs2,⟨-,hfo⟩,rfl,rfl⟩,rfl⟩;refine cn 7 Zk ?_;refine sj rfl rfl (bR rfl rfl) rfl (g9 rfl rfl Zrf Zrf rfl rfl) ZJ rfl ?_;rintro _ _ ⟨b126,rfl,rfl⟩;refine cn 8 Zk ?_;refine sj rfl rfl (bR rfl rfl) rfl (cU rfl (λ_ _=>rfl) (λw hi=>EH (some ⟨b126,0,none⟩) 1 [⟨A8,c8,fs2⟩] w (hi.rd (show Has _ (slv 60 1 (some ⟨b126,0,none⟩) 1 1 [.slice A8 fs2.length c8])from Zh)) (λx hx=>by rw[aK.1 hx];exact hi.rd (show Has _ (sl .i64 3 A8 fs2.length c8 fs2)from Zh)))) ZJ rfl ?_;rintro _ _ ⟨_,⟨⟨r2,rfl,hr2⟩,rfl⟩,rfl⟩;obtain rfl:r2=true:=hr2.2 (by simpa using hfo);refine ZE 9 ?_;refine ZE 10 ?_;refine ZFf 11 16 ?_;refine qO 12 rfl Zk Zk Zk Zk (bR rfl rfl) (bQ Zrf (dh rfl)) (cu Zh rfl) rfl ?_;refine ZF 13 ?_;refine ZF 14 ?_;refine ZF 15 ?_;refine ZFf 16 1 ?_;refine qO 17 rfl Zk Zk Zk Zk (bR rfl rfl) (bQ Zrf (dh rfl)) (cu Zh rfl) rfl ?_;refine cn 18 Zk ?_;refine sj rfl rfl (bR rfl rfl) rfl (cU rfl (λ_ _=>rfl) (λw hi=>kR H.L G.U.m w (hi.get (show Has _ (eA H.L G.U.m)from Zh)))) ZJ rfl ?_;rintro _ _ ⟨_,⟨rfl,rfl⟩,rfl⟩;refine Df 19 rfl Zk Zk Zk (bR rfl rfl) (ce rfl rfl (dh rfl) (show _=((N*64:Nat):Int)from by rw[hn3,bF _ ⟨by omega,by omega⟩])) rfl ?_;refine Df 20 rfl Zk Zk Zk (bR rfl rfl) (jc (dh rfl) (dh rfl) (show _=true from by rw[hVm];exact beq_self_eq_true _)) rfl ?_;refine ZE 21 ?_;refine ZE 22 ?_;refine cn 23 Zk ?_;refine sj rfl rfl (bR rfl rfl) rfl (cU rfl (λ_ _=>rfl) (λw hi=>p5 w (ht.old hi))) ZJ rfl ?_;rintro _ _ ⟨_,⟨rfl,rfl⟩,rfl⟩;refine ZE 24 ?_;refine ZE 25 ?_;refine dx ?_;refine Zt (Ze (Zra ?_));exact de
open Go
set_option maxRecDepth 100000 in
set_option maxHeartbeats 0 in
theorem uG:joinedFacts checked.prog 8 f8 Rows.topGivenSpec Rows.topGivenRow=true:=by
 unfold joinedFacts
 repeat refine andI ?_ Wq6
 as_aux_lemma=>kernel_rfl
set_option maxHeartbeats 0 in
theorem wA:f8.isInstance checked.prog Rows.topGivenRow.origin Rows.topGivenRow.targs:=of_decide_eq_true (by kernel_rfl)
set_option maxHeartbeats 0 in
theorem wy:f8.isWrapper checked.prog Rows.topGivenRow.wrapper Rows.topGivenRow.mainSum:=of_decide_eq_true (by kernel_rfl)
set_option maxHeartbeats 0 in
theorem uE:checked.prog.funcNamed Rows.topGivenRow.func=some 8:=by kernel_rfl
theorem fa{W:World}(h:laidMetH prog Rows.topGivenRow.laid W):iG W:=
 kj (t:=262) (e:=5) (Ni:=uy) h (MakeChecks.laidMetH_plain _ _ _ Wq6) rfl (g:=0) Wq6 Wq6 Wq6 Wq6 Wq6 rfl gS
theorem i7(os:Os)(args:Array Value):laidMetH prog Rows.topGivenRow.laid ((World.doorLaid prog 400 os).forCall (λ_ _=>0) ⟨#[],args,[]⟩).memory:=
 laidMetH_of_parts3 (fuel:=8) (laidMet_of_run' 8 Wq6 Wq6) Wq6 Wq6
set_option maxRecDepth 100000 in
theorem sy(os:Os)(started:os.Started)(H:Type)(enc:TypeId×Value->H):
  ReturnsInHanded {} checked os 8 .any (λw args=>(Rows.topGivenSpec.pre enc prog f8 [] false w args/\laidMetH prog Rows.topGivenRow.laid w)/\sizedMet enc prog f8 (OpenSpec.ofChange Rows.topGivenSpec) false w args) (Rows.topGivenSpec.post enc prog f8 false true false false):=
 lz (C:=checked) (ts:=[79,3,3]) own0 started Wq6 func8
  (ChangeSpec.witness_shaped (enc:=enc) (C:=checked) (os:=os) (X:=λw _=>laidMetH prog Rows.topGivenRow.laid w) false (World.doorLaid prog 400 os) #[.slice none 0 0,.int .i64 0,.int .i64 0] 8 rfl (World.shaped_of_RefB Wq6 Wq6) Wq6 Wq6 Wq6 (i7 os _))
  rfl rfl rfl rfl (λds h=>by match ds,h with|[_,_,_],_=>rfl) AO Wq6 (λW vs h hx=>by
   have ht:=fa hx;obtain⟨v0,_,rfl,a0,v1,_,rfl,a1,v2,_,rfl,a2,rfl⟩:=h;obtain⟨A,c,l,rfl,hl,hr⟩:=yB a0;obtain⟨n1,rfl,w1⟩:=a1.int (k:= .i64) rfl;obtain⟨n2,rfl,w2⟩:=a2.int (k:= .i64) rfl;exact nP (zZ A c l n1 n2 W hl hr ht))
set_option maxHeartbeats 0 in
theorem wz:Rows.TopGivenSaid:=
 OpenClaim.holds_of_wide 8 f8 rfl rfl rfl rfl rfl rfl rfl ⟨rfl,rfl,rfl,rfl,rfl⟩ rfl rfl rfl rfl rfl uE func8 uG wA wy
  (λos started H enc _=>sy os started H enc)
set_option maxHeartbeats 0 in
theorem topGiven_holds:Rows.TopGivenCardSaid:=
 Claim7.holds_tied_plain_at .later [] [.data] true Rows.topGivenCard.stood.harness false
  wz (λ_ h=>by cases h) Wq6 (λ_ h=>by cases h) topGiven_row_tie rfl ⟨rfl,rfl⟩ Wq6 rfl
  (λf fn hf hfn=>by
   obtain rfl:f=8:=ay ((show prog.funcNamed "innkeeper/innkeepertop.TopGiven" =some 8 by as_aux_lemma=>kernel_rfl).symm.trans hf)|>.symm
   obtain rfl:fn=f8:=(ay (func8.symm.trans hfn)).symm;exact⟨by as_aux_lemma=>kernel_rfl,λj t ht=>by
    have hm:t∈f8.params.toList:=by simpa using Array.mem_of_getElem? ht
    have hall:(f8.params.toList.all λu=> !prog.wantsStandIn u)=true:=by as_aux_lemma=>kernel_rfl
    exact(show prog.wantsStandIn t=false by simpa using bo.1 hall t hm)⟩)
  Wq6
#print axioms topGiven_holds
end Go.Proofs.YtkegldppffignaaGreatDoor
