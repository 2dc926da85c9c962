/- Lemmas. -/
import Derived.Test.YtakodpimdalajaaGreatDoorPaa
import Derived.Test.YtakodpimdalajaaGreatDoorPab
import Derived.Test.YtakodpimdalajaaGreatDoorPah
import Derived.Test.YtakodpimdalajaaGreatDoorPak
import Derived.Test.YtakodpimdalajaaGreatDoorPao
import Derived.Test.YtakodpimdalajaaGreatDoorPas
import Derived.Test.YtakodpimdalajaaGreatDoorPat
set_option linter.unusedSimpArgs false
set_option linter.unusedVariables false
set_option maxRecDepth 100000
set_option maxHeartbeats 4000000
namespace Go.Ink
open Go.RowKit
theorem new_wf:St.new.wf:=⟨u0,u0,u0,u0,u0,u0,u0,⟨Int.le_refl _,show(0:Int)≤18446744073709551615 by decide⟩,fun x hx=>(by cases hx),fun x hx=>by cases hx⟩
end Go.Ink
namespace Go.Proofs.YtakodpimdalajaaGreatDoor
open Go.RowKit Go.Ink Go.Proofs.Tryz
attribute [local irreducible] OpY bP
theorem yn(A:Option Addr)(c n:Nat)(l:List Int)(hn:n≤64)(hl:l.length≤n*64)(w:World)(h:Rd w .u8 A l.length c l):
  Ctr prog 87 [.int .i64 n,.slice A l.length c] w [] (fun v cs=>∃K,v= .pointer (some ⟨K.bm,0,none⟩)∧cs=rf K n (ig n l) (List.replicate n false)):=by
 refine bL func87 rfl ntmps87 rfl (Inv.start w) ?_;refine Z_8 ?_;refine ZS (fun w hi=>BB n hn w) ?_;rintro _ _ ⟨_,⟨K,rfl,rfl⟩,rfl⟩;refine dS ?_;refine fb (tp rfl rfl Za rfl rfl (fun w hi=>h.Jz hi) cO Wq1) rfl ?_;rintro _ _ ⟨rfl,rfl⟩;have hd2:(ints .u8 (List.replicate (n*64) 0)).take 0++(ints .u8 l).take (min l.length (n*64))++(ints .u8 (List.replicate (n*64) 0)).drop (0+min l.length (n*64))=ints .u8 (ig n l):=(by rw[Nat.min_eq_left hl];simp[ints,ig,List.take_of_length_le]);rw[hd2];refine Z_9 ?_;refine Zrb ((rf K n (ig n l) (List.replicate n false))) ?_;exact⟨K,rfl,rfl⟩
abbrev imgV(A:Option Addr)(c:Nat)(l:List Int)(B:Option Addr)(e:Nat)(k:List Int)(n:Nat):Value:= .agg #[.slice A l.length c,.slice B k.length e,.int .i64 (n:Int)]
theorem yc(A B:Option Addr)(c e n:Nat)(l k:List Int)(hn:n≤64)(hl:l.length≤n*64)(hk:k.length≤1024)(w:World)(h:Rd w .u8 A l.length c l)(hB:Rd w .u8 B k.length e k):
  Ctr prog 41 [imgV A c l B e k n] w [] (fun v cs=>∃bg K bx by_ bd,v= .pointer (some ⟨bg,0,none⟩)∧cs=row bg (St.new.cells (.slice none 0 0) (.slice none 0 0)++[.pointer (some ⟨bx,0,none⟩),.pointer (some ⟨by_,0,none⟩)]) 144::(rf K n (ig n l) (List.replicate n false)++[lQ bx K.bm eE]++wi by_ K.bm bd ⟨none,0,none,0⟩ (Dev.init k))):=by
 have H1:=yn A c n l hn hl;have H3:=fun bm w h=>yd bm B e k hk w h
 obtain⟨d,hd⟩:=Zgn (Dev.init k);obtain⟨data,hda⟩:=Zgn (ig n l);obtain⟨tu,htu⟩:=Zgn (List.replicate n false);rw[hd]at H3⊢;rw[hda,htu]at H1⊢;refine bL func41 rfl ntmps41 rfl (Inv.start w) ?_;refine Z_2 ?_;refine ZO fun b1=>?_;refine Z_9 ?_;refine ZS (fun w hi=>H1 w (h.Jz hi)) ?_;rintro _ _ ⟨_,⟨K,rfl,rfl⟩,rfl⟩;refine ZS (fun w hi=>ye K.bm w) ?_;rintro _ _ ⟨_,⟨bx,rfl,rfl⟩,rfl⟩;refine Z_4 ?_;refine bR ⟨fun j=>List.elem j [],[]⟩ Zk ?_;refine gn ?_;refine ZE 2 ?_;refine ZE 3 ?_;refine ZFe 4 0 ?_;refine ZG 5 ?_;refine ZFe 6 1 ?_;refine ZG 7 ?_;refine ce 8 Zk ?_;refine ZT (fun w hi=>H3 K.bm w (hB.Jz hi)) ?_;rintro _ _ ⟨_,⟨by_,bd,rfl,rfl⟩,rfl⟩;refine ZE 9 ?_;refine ce 10 Zk ?_;refine iZ rfl rfl (sJ rfl rfl) ZJ rfl ?_;rintro _ _ ⟨b20,rfl,rfl⟩;refine ZE 11 ?_;refine dr ?_;refine Z_2 ?_;refine bN (row b20 (St.new.cells (.slice none 0 0) (.slice none 0 0)++[.pointer (some ⟨bx,0,none⟩),.pointer (some ⟨by_,0,none⟩)]) 144::(rf K n data tu++[lQ bx K.bm eE]++wi by_ K.bm bd ⟨none,0,none,0⟩ d)) Zj ?_;refine Zrb ((row b20 (St.new.cells (.slice none 0 0) (.slice none 0 0)++[.pointer (some ⟨bx,0,none⟩),.pointer (some ⟨by_,0,none⟩)]) 144::(rf K n data tu++[lQ bx K.bm eE]++wi by_ K.bm bd ⟨none,0,none,0⟩ d))) ?_;exact⟨b20,K,bx,by_,bd,rfl,rfl⟩
end Go.Proofs.YtakodpimdalajaaGreatDoor
namespace Go.Ink
open Go.RowKit
end Go.Ink
namespace Go.Proofs.YtakodpimdalajaaGreatDoor
open Go.RowKit Go.Ink Go.Proofs.Tryz
attribute [local irreducible] OpY bP
end Go.Proofs.YtakodpimdalajaaGreatDoor
namespace Go.Ink
open Go.RowKit
structure FI(s:St):Prop where
 wf:s.wf
 pg:s.Jv=false
 ha:s.halted=false
 d:s.d=[]
 r:s.r=[]
 fl:s.right=true
 pc:64≤s.pc∧s.pc≤1063
 ve:64≤s.vec∧s.vec≤1063
theorem FI.next{s:St}(h:FI s):FI (s.next.JA 10 s.pc):=
 ⟨zb (DQ h.wf) _ h.wf.pc,h.pg,h.ha,h.d,h.r,h.fl,h.ve,h.ve⟩
end Go.Ink
namespace Go.Proofs.YtakodpimdalajaaGreatDoor
open Go.RowKit Go.Ink Go.Proofs.Tryz
attribute [local irreducible] OpY bP
end Go.Proofs.YtakodpimdalajaaGreatDoor
namespace Go.Ink
open Go.RowKit
end Go.Ink
namespace Go.Proofs.YtakodpimdalajaaGreatDoor
open Go.RowKit Go.Ink Go.Proofs.Tryz
attribute [local irreducible] OpY bP
theorem wL(s t:St)(Ad Ar Bd Br:Option Addr)(cd cr ed er:Nat)(w:World)(h:lA w s Ad Ar cd cr)(h2:lA w t Bd Br ed er):
  Ctr prog 24 [sv s Ad cd Ar cr,sv t Bd ed Br er] w [] (fun v cs=>v= .bool (s.Ko t)∧cs=[]):=by
 have HS:=zw s t Ad Ar Bd Br cd cr ed er;refine bL func24 rfl ntmps24 rfl (Inv.start w) ?_;refine Z_2 ?_;refine ZO fun b2=>?_;refine ZO fun b3=>?_
 refine Z_7 ?_;refine dE fy (.cons Zv0 (.cons Zv0 .nil)) (fun _ _=>rfl) (fun hg w hi=>HS w (h.Jz hi) (h2.Jz hi)) rfl ?_;refine Z_4 ?_;refine Zra ?_;exact df
end Go.Proofs.YtakodpimdalajaaGreatDoor
namespace Go.Ink
open Go.RowKit
theorem Bw{n JD k:Nat}{s:St}{p:Nat}{U:Mmu}{d:Dev}{E:Eng}(h:fg n U.m p=none):ja n JD (k+1) s p U d E=((s.next.JA 1 0,U,d),{E with JL:=IntKind.i64.wrap (E.JL+1)}):=by
 unfold ja;rw[h]
theorem Bv{n JD k:Nat}{s:St}{p:Nat}{U U1:Mmu}{d d1:Dev}{E:Eng}{op nn:Int}{z:Nat}{q:Res}(h:fg n U.m p=some ((op,nn),z))(hq:vr n s op nn U d=(q,U1,d1)):
  ja n JD (k+1) s p U d E=bif kD op q JD s.pc then ja n JD k q.s ((p+z)%4294967296) U1 d1 (lF {E with JL:=IntKind.i64.wrap (E.JL+1)} q.Jl)else((q.s,U1,d1),lF {E with JL:=IntKind.i64.wrap (E.JL+1)} q.Jl):=by
 rw[ja,h];simp only[hq]
abbrev EnX.Kh(E:EnX)(c:Int):EnX:=⟨E.bc,E.mr,E.room,E.X,E.RZ,E.last,E.JP,IntKind.i64.wrap (E.JL+c),E.begun⟩
theorem nC.slowed{E:EnX}(h:nC E)(c:Int):nC (E.Kh c):=⟨h.ca,h.eg.same rfl rfl rfl,h.rs,h.last⟩
end Go.Ink
namespace Go.Proofs.YtakodpimdalajaaGreatDoor
open Go.RowKit Go.Ink Go.Proofs.Tryz
attribute [local irreducible] OpY bP
abbrev egF(be bu bb:Nat)(L:fa)(D:pL)(s:St)(X:jq)(Y:lz)(U:Mmu)(d:Dev)(E:EnX):List bJ:=guF bu bb L D s X Y U d++enF be E
theorem Ab(be bu bb:Nat)(L:fa)(D:pL)(Y:lz)(s:St)(X:jq)(p:Nat)(hp:p≤4294967295)(JF:Nat)(hmost:JF≤1000)(U:Mmu)(d:Dev)(hG:GOk L.n s U d)(ho:d.out.length+JF≤1000000000)(E:EnX)(hE:nC E)(w:World)(hi:Inv w (bK (egF be bu bb L D s X Y U d E)) (egF be bu bb L D s X Y U d E) w):
  Ctr prog 45 [.pointer (some ⟨be,0,none⟩),sv s X.Ad X.cd X.Ar X.cr,.int .u32 (p:Int),.int .i64 (JF:Int),.pointer (some ⟨bu,0,none⟩),.pointer (some ⟨D.bs,0,none⟩)] w (egF be bu bb L D s X Y U d E)
   (fun v cs=>∃X' Y' E',nC E'∧E'.eng=(ja L.n (p/64) JF s p U d E.eng).2∧v=sv (ja L.n (p/64) JF s p U d E.eng).1.1 X'.Ad X'.cd X'.Ar X'.cr∧cs=egF be bu bb L D (ja L.n (p/64) JF s p U d E.eng).1.1 X' Y' (ja L.n (p/64) JF s p U d E.eng).1.2.1 (ja L.n (p/64) JF s p U d E.eng).1.2.2 E'):=by
 obtain⟨pg,hpg⟩:=Zgn (p/64);have hpq:IntKind.u32.wrap ((p:Int).tdiv 64)=(pg:Int):=by rw[bz Wq1,u32_wrap_id _ Wq1 Wq1];omega
 have hpgl:pg≤4294967295:=by omega
 rw[hpg];clear hpg;obtain⟨⟨⟨s9,U9,d9⟩,G9⟩,hR⟩:=Zgn (ja L.n pg JF s p U d E.eng);rw[hR];obtain⟨o0,hoo⟩:=Zgn (d.out.length);rw[hoo]at ho;refine bL func45 rfl ntmps45 rfl hi ?_;refine Z_2 ?_;refine ZO fun b7=>?_;refine ZN fun b12=>?_
 refine Z_5 ?_;refine Zy (jD (Zv rfl) (Zv rfl) Wq1 hpq) ?_;refine Zy (bW rfl rfl Zv0 Zl) ?_;refine Z_6 ?_;refine jF (row b7 (s.cells (.slice X.Ad s.d.length X.cd) (.slice X.Ar s.r.length X.cr)) 44::row b12 (St.zero.cells (.slice none 0 0) (.slice none 0 0)) 44::egF be bu bb L D s X Y U d E) Zj ?_;refine Z_5 ?_;refine cw (fun q:Nat×St×jq×Nat×lz×Mmu×Dev×EnX=>[(0,.pointer (some ⟨be,0,none⟩)),(2,.int .u32 (q.2.2.2.1:Int)),(4,.pointer (some ⟨bu,0,none⟩)),(5,.pointer (some ⟨D.bs,0,none⟩)),(7,.pointer (some ⟨b7,0,none⟩)),(12,.pointer (some ⟨b12,0,none⟩)),(13,.int .i64 (pg:Int)),(22,.int .i64 (JF:Int)),(23,.int .i64 (q.1:Int))]) (fun q=>row b7 (q.2.1.cells (.slice q.2.2.1.Ad q.2.1.d.length q.2.2.1.cd) (.slice q.2.2.1.Ar q.2.1.r.length q.2.2.1.cr)) 44::row b12 (St.zero.cells (.slice none 0 0) (.slice none 0 0)) 44::egF be bu bb L D q.2.1 q.2.2.1 q.2.2.2.2.1 q.2.2.2.2.2.1 q.2.2.2.2.2.2.1 q.2.2.2.2.2.2.2) (fun q=>q.1≤JF∧q.2.2.2.1≤4294967295∧GOk L.n q.2.1 q.2.2.2.2.2.1 q.2.2.2.2.2.2.1∧q.2.2.2.2.2.2.1.out.length≤o0+q.1∧nC q.2.2.2.2.2.2.2∧ja L.n pg (JF - q.1) q.2.1 q.2.2.2.1 q.2.2.2.2.2.1 q.2.2.2.2.2.2.1 q.2.2.2.2.2.2.2.eng=((s9,U9,d9),G9)) (fun q=>JF - q.1) (⟨0,s,X,p,Y,U,d,E⟩) ?_ ?_ ?_ ?_
 ·exact⟨au _,hp,hG,by show d.out.length≤o0+0;omega,hE,hR⟩
 ·exact Zwk
 ·exact Zu
 rintro⟨j,s,X,p,Y,U,d,E⟩ ⟨hj,hp,hG,ho1,hE,hRj⟩;dsimp only at hj hp hG ho1 hE hRj⊢;refine Z_6 ?_;refine ZW ?_ ?_<;>intro hc3
 ·simp only[ak]at hc3;obtain⟨k,hk⟩:∃k,JF - j=k+1:=⟨JF - j - 1,by omega⟩;rw[hk]at hRj;have HF:=z5 bu bb L U.m p hp;have hrn:=fun(op nn:Int) (z:Nat) h=>lc (n:=L.n) (M:=U.m) (p:=p) (op:=op) (nn:=nn) (z:=z) hG.u.m h
  have hN:=Bw (n:=L.n) (JD:=pg) (k:=k) (s:=s) (p:=p) (U:=U) (d:=d) (E:=E.eng);have hS:=fun(op nn:Int) (z:Nat) (q:Res) (U1:Mmu) (d1:Dev) h hq=>Bv (n:=L.n) (JD:=pg) (k:=k) (s:=s) (p:=p) (U:=U) (d:=d) (E:=E.eng) (op:=op) (nn:=nn) (z:=z) (q:=q) (U1:=U1) (d1:=d1) h hq
  obtain⟨o,hfo⟩:=Zgn (fg L.n U.m p);rw[hfo]at HF hN hS;rw[hfo]at hrn;obtain⟨hd16,hr16, -⟩:=St.fits hG.right;have hE1:=hE.slowed 1;refine dS ?_;refine Zy (cX Zv0 Zv0 rfl) ?_;refine Z_2 ?_;refine ZL ?_;refine Z_6 ?_;refine ZSe (fun w hi=>HF w (hi.get (show Has _ (FS bu L.bm bb)from Zh)) (hi.get (show Has _ (ek L U.m)from Zh))) ?_;refine Z_4 ?_;refine ZN fun b14=>?_
  refine ZM ?_;refine fF ?_;refine ZW ?_ ?_<;>intro hc6
  ·obtain rfl:o=none:=(by cases o with|none=>rfl|some o=>cases hc6);rw[hN rfl,aW,aW,aW]at hRj;obtain⟨⟨rfl,rfl,rfl⟩,hG9⟩:=hRj;refine Z_4 ?_;refine Zy (cX Zv0 Zv0 rfl) ?_;refine Z_1 ?_;refine ZL ?_;refine Z_5 ?_;refine ZS (fun w hi=>oT s.next X.Ad X.Ar X.cd X.cr 1 0 w (hi.Kp (show Has _ (slD s X.Ad X.cd)from Zh) (show Has _ (slR s X.Ar X.cr)from Zh) (show s.d.length*4≤_ by omega) (show s.r.length*4≤_ by omega))) ?_;rintro _ _ ⟨_,⟨A3,c3,A4,c4,rfl,rfl⟩,rfl⟩;refine ZM ?_;refine Z_9 ?_;refine bN (row b12 ((s.next.JA 1 0).cells (.slice A3 s.d.length c3) (.slice A4 s.r.length c4)) 44::egF be bu bb L D (s.next.JA 1 0) ⟨A3,c3,A4,c4⟩ Y U d (E.Kh 1)) Zj ?_;refine lP (cs':=(egF be bu bb L D (s.next.JA 1 0) ⟨A3,c3,A4,c4⟩ Y U d (E.Kh 1))) (.inl rfl) Zu rfl rfl Zh Zrf Zrf ?_;exact⟨⟨A3,c3,A4,c4⟩,Y,E.Kh 1,hE1,hG9,rfl,rfl⟩
  obtain⟨⟨⟨op,nn⟩,z⟩,rfl⟩:∃q,o=some q:=(by cases o with|none=>cases hc6|some o=>exact⟨o,rfl⟩);obtain⟨hnn,hz1,hz5, -⟩:=hrn op nn z rfl;have HD:=do_ok bu bb L D Y s X.Ad X.Ar X.cd X.cr op nn U d hG.wf hnn hG.u.t hG.dv.wf Wq1;have hg:=sc (op:=op) (nn:=nn) hG.wf hG.right hnn hG.u hG.dv;have hl:=qz (n:=L.n) (op:=op) (nn:=nn) (s:=s) (U:=U) hG.lines;obtain⟨⟨q,U1,d1⟩,hq⟩:=Zgn (vr L.n s op nn U d);rw[hS op nn z q U1 d1 rfl hq]at hRj;rw[hq]at HD hg hl;obtain⟨g1,g2,g3,g4,g5,g6⟩:=hg;dsimp only at g1 g2 g3 g4 g5 g6 hl;have HX:=fun X1 Ap cp w h=>DP op nn q X1 Ap cp pg s.pc g1.pc hG.wf.pc w h
  obtain⟨nx,hnx⟩:=Zgn (kD op q pg s.pc);rw[hnx]at HX hRj;refine Z_8 ?_;refine ZcL (ubF bu bb L D Y U d) (fun w hi hin=>HD w hin (fun w' hk=>hi.Kc Zi (show Has _ (slD s X.Ad X.cd)from Zh) (show Has _ (slR s X.Ar X.cr)from Zh) Wq1 Wq1 hk)) ?_;rintro _ _ ⟨_,⟨X1,Y1,Ap,cp,rfl,rfl⟩,rfl⟩;refine ZN fun b17=>?_
  refine ZM ?_;refine Z_7 ?_;refine ZcL (enP be (E.Kh 1) Ap cp q.Jl) (fun w hi hin=>tZ be (E.Kh 1) hE1 Ap cp q.Jl w hin) ?_;rintro _ _ ⟨_,⟨E2,rfl,hE2,hEe⟩,rfl⟩;rw[show lF {E.eng with JL:=IntKind.i64.wrap (E.eng.JL+1)} q.Jl=E2.eng from hEe.symm]at hRj;refine gE ?_;refine dL (cn (vs:=q.s.cells (.slice X1.Ad q.s.d.length X1.cd) (.slice X1.Ar q.s.r.length X1.cr)) Zrf Zrf Zv0) (cI Zh rfl) rfl ?_;refine ZM ?_;refine Z_6 ?_;refine Zy (bW rfl rfl (Zv rfl) (u32_wrap_id _ (by show 0≤(z:Int);omega) (by show(z:Int)<4294967296;omega))) ?_;refine Zy (cX (Zv rfl) (Zv rfl) (show _=(((p+z)%4294967296:Nat):Int)from by show IntKind.u32.wrap ((p:Int)+(z:Int))=_;rw[aE];omega)) ?_;refine Z_9 ?_;refine ZSe (fun w hi=>HX X1 Ap cp w (hi.rd (show Has _ (sl .i64 3 Ap q.Jl.length cp q.Jl)from Zh))) ?_;refine Z_3 ?_;refine ZW ?_ ?_<;>intro hc14
  ·obtain rfl:nx=false:=(by cases nx with|false=>rfl|true=>cases hc14);rw[aa,aW,aW,aW]at hRj;obtain⟨⟨rfl,rfl,rfl⟩,hG9⟩:=hRj;refine Z_9 ?_;refine ZM ?_;refine Z_3 ?_;refine bN (row b12 (q.s.cells (.slice X1.Ad q.s.d.length X1.cd) (.slice X1.Ar q.s.r.length X1.cr)) 44::egF be bu bb L D q.s X1 Y1 U1 d1 E2) Zj ?_;refine lP (cs':=(egF be bu bb L D q.s X1 Y1 U1 d1 E2)) (.inl rfl) Zu rfl rfl Zh Zrf Zrf ?_;exact⟨X1,Y1,E2,hE2,hG9,rfl,rfl⟩
  obtain rfl:nx=true:=(by cases nx with|true=>rfl|false=>cases hc14);rw[ac]at hRj;refine Z_4 ?_;refine Wq8 ?_;refine bY ((⟨j+1,q.s,X1,(p+z)%4294967296,Y1,U1,d1,E2⟩:Nat×St×jq×Nat×lz×Mmu×Dev×EnX)) ?_ ?_ ?_
  ·exact⟨⟨show j+1≤JF by omega,by show(p+z)%4294967296≤4294967295;omega,⟨g1,g2,g4,g5,hl⟩,by show d1.out.length≤o0+(j+1);omega,hE2,by show ja L.n pg (JF - (j+1)) q.s _ U1 d1 E2.eng=_;rw[show JF - (j+1)=k by omega];exact hRj⟩,show JF - (j+1)<JF - j by omega⟩
  ·exact Zwk
  exact Zj
 simp only[ah]at hc3;rw[show JF - j=0 by omega]at hRj;simp only[ja,aW]at hRj;obtain⟨⟨rfl,rfl,rfl⟩,hG9⟩:=hRj;refine Z_8 ?_;refine ZM ?_;refine Z_3 ?_;refine bN (row b12 (s.cells (.slice X.Ad s.d.length X.cd) (.slice X.Ar s.r.length X.cr)) 44::egF be bu bb L D s X Y U d E) Zj ?_;refine lP (cs':=(egF be bu bb L D s X Y U d E)) (.inl rfl) Zu rfl rfl Zh Zrf Zrf ?_;exact⟨X,Y,E,hE,hG9,rfl,rfl⟩
end Go.Proofs.YtakodpimdalajaaGreatDoor
namespace Go.Ink
open Go.RowKit
section
variable {n:Nat} {s s1 o:St} {U U1:Mmu} {d d1:Dev} {E G:Eng} {r:Rn} {c:Int}
theorem doE_no{pl:Int}(h:dW n s U d=⟨s1,pl,false,U1,d1⟩):doE n s U d E=((s1,U1,d1),{E with JL:=IntKind.i64.wrap (E.JL+IntKind.i64.wrap (IntKind.u64.wrap (s1.count - s.count)))}):=by
 unfold doE;rw[h]
 rfl
theorem Ik{pl:Nat}(h:dW n s U d=⟨s1,(pl:Int),true,U1,d1⟩)(ht:i9 E s1 (pl:Int) (iq U1.m pl)=(none,G)):doE n s U d E=ja n (pl/64) 8 s1 pl U1 d1 G:=by
 unfold doE;rw[h];simp only[ac,aO];rw[ht]
theorem doE_out{pl:Nat}(h:dW n s U d=⟨s1,(pl:Int),true,U1,d1⟩)(ht:i9 E s1 (pl:Int) (iq U1.m pl)=(some (o,r,c),G))(hc:((r.ends&&decide (0<c))||o.pc/64 !=s1.pc/64)=true):doE n s U d E=((o,⟨U1.m.calm,U1.t⟩,d1),G):=by
 unfold doE;rw[h];simp only[ac,aO];rw[ht];dsimp only;rw[hc,ac]
theorem doE_on{pl:Nat}{m:Nat}(h:dW n s U d=⟨s1,(pl:Int),true,U1,d1⟩)(ht:i9 E s1 (pl:Int) (iq U1.m pl)=(some (o,r,c),G))(hm:c=(m:Int))(hc:((r.ends&&decide (0<c))||o.pc/64 !=s1.pc/64)=false):doE n s U d E=ja n ((pl+r.bytes.length)%4294967296/64) (8 - m) o ((pl+r.bytes.length)%4294967296) ⟨U1.m.calm,U1.t⟩ d1 G:=by
 unfold doE;rw[h];simp only[ac,aO];rw[ht];dsimp only;rw[hc,aa,show(8 - c).toNat=8 - m by omega]
theorem Bi{p:Nat}(h:GOk n s U d)(hE:ij E)(ht:i9 E s (p:Int) (iq U.m p)=(some (o,r,c),G)):GOk n o ⟨U.m.calm,U.t⟩ d∧∃m:Nat,c=(m:Int)∧1≤m∧m≤8:=by
 have hbb:=rp h.u.m p;obtain⟨f1,f2,f3,f4,f5⟩:=oK hE (k:=(s.pc,(p:Int))) hbb;unfold i9 at ht;obtain⟨⟨q,E1⟩,hf⟩:=Zgn (kt E (s.pc,(p:Int)) (iq U.m p));rw[hf]at f5 ht;dsimp only at f5;cases q with
 |none=>cases ht
 |some tr=>
  obtain⟨t,r⟩:=tr;dsimp only at ht;cases hdone:(ic t.code s).2==1 with
  |false=>rw[hdone]at ht;cases ht
  |true=>
   rw[hdone,ac]at ht;simp only[aW,aR]at ht;obtain⟨⟨h1,h2,h3⟩, -⟩:=ht;obtain⟨p',il,g1,g2,g3,g4,g5,g6,g7⟩:=f5 t r rfl;obtain⟨M,hM,hout⟩:=zo hdone;rw[g3]at hM;obtain⟨k1,k2,k3,k4,k5,k6, -, -, -⟩:=zc h.u h.dv h.wf h.right g6 g1 g2 hM;rw[hout]at h1;subst h1;exact⟨⟨k2,k3,⟨h.u.m.calm,h.u.t⟩,h.dv,h.lines⟩,il.length,by rw[←h3,g4],k5,k6⟩
end
end Go.Ink
namespace Go.Proofs.YtakodpimdalajaaGreatDoor
open Go.RowKit Go.Ink Go.Proofs.Tryz
attribute [local irreducible] OpY bP
abbrev eoF(be bu bb:Nat)(L:fa)(D:pL)(Y:lz)(U:Mmu)(d:Dev)(E:EnX):List bJ:=ubF bu bb L D Y U d++enF be E
theorem edo_ok(be bu bb:Nat)(L:fa)(D:pL)(Y:lz)(s:St)(Ad Ar:Option Addr)(cd cr:Nat)(U:Mmu)(d:Dev)(hG:GOk L.n s U d)(ho:d.out.length+8≤1000000000)(E:EnX)(hE:nC E)(w:World)(hi:Inv w (bK (eoF be bu bb L D Y U d E)) (eoF be bu bb L D Y U d E) w)
  (h:∀w',dC (bK (eoF be bu bb L D Y U d E)) w w'→lA w' s Ad Ar cd cr) (ht:∀w',dC (bK (eoF be bu bb L D Y U d E)) w w'→lx w'):
  Ctr prog 13 [.pointer (some ⟨be,0,none⟩),sv s Ad cd Ar cr,.pointer (some ⟨bu,0,none⟩),.pointer (some ⟨D.bs,0,none⟩)] w (eoF be bu bb L D Y U d E)
   (fun v cs=>∃X' Y' E',nC E'∧E'.eng=(doE L.n s U d E.eng).2∧v=sv (doE L.n s U d E.eng).1.1 X'.Ad X'.cd X'.Ar X'.cr∧cs=egF be bu bb L D (doE L.n s U d E.eng).1.1 X' Y' (doE L.n s U d E.eng).1.2.1 (doE L.n s U d E.eng).1.2.2 E'):=by
 have hq:∀x:Int,u32 x→IntKind.u32.wrap (x.tdiv 64)=x/64:=fun x hx=>by obtain⟨h1,h2⟩:=hx;rw[bz h1,u32_wrap_id _ Wq1 Wq1]
 have HB:=AF bu bb L D Y s hG.wf Ad Ar cd cr U hG.u.t d (oU hG.lines _);have hb:=mW hG;have hbp:=sw hG;have hN:=fun s1 U1 d1 pl h=>doE_no (n:=L.n) (s:=s) (s1:=s1) (U:=U) (U1:=U1) (d:=d) (d1:=d1) (pl:=pl) (E:=E.eng) h
 have hY1:=fun s1 U1 d1 (pl:Nat) G h ht=>Ik (n:=L.n) (s:=s) (s1:=s1) (U:=U) (U1:=U1) (d:=d) (d1:=d1) (pl:=pl) (E:=E.eng) (G:=G) h ht
 have hY2:=fun s1 U1 d1 (pl:Nat) o r c G h ht hc=>doE_out (n:=L.n) (s:=s) (s1:=s1) (o:=o) (U:=U) (U1:=U1) (d:=d) (d1:=d1) (pl:=pl) (E:=E.eng) (G:=G) (r:=r) (c:=c) h ht hc
 have hY3:=fun s1 U1 d1 (pl:Nat) o r c G (m:Nat) h ht hm hc=>doE_on (n:=L.n) (s:=s) (s1:=s1) (o:=o) (U:=U) (U1:=U1) (d:=d) (d1:=d1) (pl:=pl) (E:=E.eng) (G:=G) (r:=r) (c:=c) (m:=m) h ht hm hc
 obtain⟨⟨s1,pl,rn,U1,d1⟩,hbe⟩:=Zgn (dW L.n s U d);rw[hbe]at HB hb hbp hN hY1 hY2 hY3;obtain⟨hg1,hpl,hout, -, -, -⟩:=hb;dsimp only at hg1 hpl hout hbp;obtain⟨pl,rfl⟩:∃m:Nat,pl=m:=aq hpl.1;have hpl2:=hpl.2;obtain⟨⟨⟨s9,U9,d9⟩,G9⟩,hR⟩:=Zgn (doE L.n s U d E.eng);rw[hR]at hN hY1 hY2 hY3⊢;refine bL func13 rfl ntmps13 rfl hi ?_;refine Z_2 ?_;refine ZO fun b5=>?_;refine ZN fun b8=>?_
 refine Z_7 ?_;refine ZcL (ubF bu bb L D Y U d) (fun w hi hin=>HB w hin (fun w' hk=>h w' (hi.past (fun c hc=>by simp only[eoF,enF,ubF,uF,mV,aS,aK,aY]at hc⊢;grind) hk)) (fun w' hk=>ht w' (hi.past (fun c hc=>by simp only[eoF,enF,ubF,uF,mV,aS,aK,aY]at hc⊢;grind) hk))) ?_;rintro _ _ ⟨_,⟨X1,rfl,rfl⟩,rfl⟩;refine ZN fun b9=>?_
 refine ZM ?_;refine dS ?_;refine ZW ?_ ?_<;>intro hc2
 ·obtain rfl:rn=false:=(by cases rn with|false=>rfl|true=>cases hc2);have e:=hN s1 U1 d1 pl rfl;rw[aW,aW,aW]at e;obtain⟨⟨rfl,rfl,rfl⟩,hG9⟩:=e;refine Zs (bR ⟨fun j=>List.elem j [14],[]⟩ Zk ?_);refine gn ?_;refine ZFe 2 5 ?_;refine ZG 3 ?_;refine ZFe 4 0 ?_;refine ZFe 5 14 ?_;refine ZG 6 ?_;refine ZFe 7 14 ?_;refine ZG 8 ?_;refine cD 9 rfl Zk Zk Zk (dY Zv0 Zv0 rfl) rfl ?_;refine cD 10 rfl Zk Zk Zk (bW rfl rfl Zv0 rfl) rfl ?_;refine cD 11 rfl Zk Zk Zk (cX Zv0 Zv0 rfl) rfl ?_;refine ZE 12 ?_;refine ZFe 13 5 ?_;refine ce 14 Zk ?_;refine ZQ ?_;refine dr ?_;refine Z_4 ?_;refine dL (cn (vs:=s9.cells (.slice X1.Ad s9.d.length X1.cd) (.slice X1.Ar s9.r.length X1.cr)) Zrf Zrf Zv0) (cI Zh rfl) rfl ?_;refine ZM ?_;refine Z_4 ?_;refine bN (row b8 (s9.cells (.slice X1.Ad s9.d.length X1.cd) (.slice X1.Ar s9.r.length X1.cr)) 44::egF be bu bb L D s9 X1 Y U9 d9 (E.Kh (IntKind.i64.wrap (IntKind.u64.wrap (s9.count - s.count))))) Zj ?_;refine lP (cs':=(egF be bu bb L D s9 X1 Y U9 d9 (E.Kh (IntKind.i64.wrap (IntKind.u64.wrap (s9.count - s.count)))))) (.inl rfl) Zu rfl rfl Zh Zrf Zrf ?_;exact⟨X1,Y,_,hE.slowed _,hG9.symm,rfl,rfl⟩
 obtain rfl:rn=true:=(by cases rn with|true=>rfl|false=>cases hc2);have hpn:pl/64<L.n:=(by have:=(hbp rfl).2;omega);have HT:=fun X w hi=>EY be bu bb L E hE s1 X pl Wq1 hpn U1 hg1.wf hg1.right hg1.u.m w hi
 have hTg:=fun o r c G h=>Bi (o:=o) (r:=r) (c:=c) (G:=G) (p:=pl) hg1 hE.eg h
 have hY1:=hY1 s1 U1 d1 pl;have hY2:=hY2 s1 U1 d1 pl;have hY3:=hY3 s1 U1 d1 pl;obtain⟨⟨o,G⟩,hTe⟩:=Zgn (i9 E.eng s1 (pl:Int) (iq U1.m pl));rw[hTe]at HT hY1 hY2 hY3 hTg;refine Z_3 ?_;rcases o with _|⟨o,r,k⟩
 ·have hZ:=hY1 G rfl rfl;refine Z_3 ?_;refine dL (cn (vs:=s1.cells (.slice X1.Ad s1.d.length X1.cd) (.slice X1.Ar s1.r.length X1.cr)) Zrf Zrf Zv0) (cI Zh rfl) rfl ?_;refine Z_3 ?_;refine ZcL (tF bu bb L s1 X1 U1 be E) (fun w hi hin=>HT X1 w hin) ?_;rintro _ _ ⟨_,⟨E2,hE2,hEe,X2,x,rfl,rfl⟩,rfl⟩;refine Z_4 ?_;refine ZN fun b10=>?_
  refine ZN fun b11=>?_
  refine ZM ?_;refine dD (bV Zrf rfl rfl (fS x) Za (by exact rfl)) ?_;rintro _ _ ⟨rfl,rfl⟩;refine p6 ?_;refine Zyn rfl rfl (jD (dH rfl) (Zv rfl) Wq1 (hq _ hg1.wf.pc)) ?_;refine Z_3 ?_;refine Zyn rfl rfl (jD (dH rfl) (Zv rfl) Wq1 (hq _ hg1.wf.pc)) ?_;refine Z_4 ?_;refine ZW ?_ ?_<;>intro hc6
  ·(have h9:((x.r.ends&&decide ((0:Int)<0))||(s1.pc/64 !=s1.pc/64))=true:=hc6;simp at h9)
  refine Z_3 ?_;refine jk ⟨fun j=>List.elem j [13,14],[]⟩ [(0,0),(1,1),(2,0),(3,4),(4,4),(5,0),(9,0),(10,0),(11,0),(12,0),(6,2),(7,0),(8,0),(13,2),(14,2)] Zk Zk ?_;refine cT rfl (fP Zv0) rfl ?_;refine uy rfl (cn (vs:=s1.cells (.slice X2.Ad s1.d.length X2.cd) (.slice X2.Ar s1.r.length X2.cr)) Zrf Zrf Zv0) (cI Zh rfl) rfl ?_;refine cT rfl (dN 16 rfl Zv0 Zf) rfl ?_;refine jr rfl (bO Zrf Zv0) (cB Zh rfl) rfl ?_;refine jr rfl (cn (vs:=x.cells) Zrf Zrf Zv0) (cI Zh rfl) rfl ?_;refine cT rfl (fP Zv0) rfl ?_;refine cT rfl (fP Zv0) rfl ?_;refine cT rfl (dY (Zv rfl) (Zv rfl) (show _=((8:Nat):Int)from rfl)) rfl ?_;refine cT rfl (fP Zv0) rfl ?_;refine cT rfl (fP Zv0) rfl ?_;refine gM rfl ?_;refine fD rfl rfl (eW rfl (fun _ _=>rfl) (fun w hi=>Aa x 0 w)) ZJ rfl ?_;rintro _ _ ⟨_,⟨rfl,rfl⟩,rfl⟩;rw[ax];refine cT rfl (bW rfl rfl Zv0 rfl) rfl ?_;refine cT rfl (cX (Zv rfl) (Zv rfl) (show _=(pl:Int)from by show IntKind.u32.wrap ((pl:Int)+0)=_;rw[aE];omega)) rfl ?_;refine gM rfl ?_;have HRs:=fun w hi=>Ab be bu bb L D Y s1 X2 pl Wq1 8 Wq5 U1 d1 hg1 (by rw[hout];exact ho) E2 hE2 w hi
  rw[hEe,←hZ]at HRs;refine ZcS (egF be bu bb L D s1 X2 Y U1 d1 E2) (fun w hi hin=>HRs w hin) ?_;rintro _ _ ⟨_,⟨X3,Y3,E3,hE3,hEe3,rfl,rfl⟩,rfl⟩;refine gM rfl ?_;refine eC rfl rfl (bV Zrf rfl rfl (jp rfl) Za (by exact rfl)) ZJ ?_;rintro _ _ ⟨rfl,rfl⟩;refine eP ?_;refine Z_2 ?_;refine bN (row b8 (s9.cells (.slice X3.Ad s9.d.length X3.cd) (.slice X3.Ar s9.r.length X3.cr)) 44::egF be bu bb L D s9 X3 Y3 U9 d9 E3) Zj ?_;refine lP (cs':=(egF be bu bb L D s9 X3 Y3 U9 d9 E3)) (.inl rfl) Zu rfl rfl Zh Zrf Zrf ?_;exact⟨X3,Y3,E3,hE3,hEe3,rfl,rfl⟩
 obtain⟨hg2,m,rfl,hm1,hm8⟩:=hTg o r k G rfl;refine Z_3 ?_;refine dL (cn (vs:=s1.cells (.slice X1.Ad s1.d.length X1.cd) (.slice X1.Ar s1.r.length X1.cr)) Zrf Zrf Zv0) (cI Zh rfl) rfl ?_;refine Z_3 ?_;refine ZcL (tF bu bb L s1 X1 U1 be E) (fun w hi hin=>HT X1 w hin) ?_;rintro _ _ ⟨_,⟨E2,hE2,hEe,X2,x,rfl,rfl,rfl⟩,rfl⟩;refine Z_4 ?_;refine ZN fun b10=>?_
 refine ZN fun b11=>?_
 refine ZM ?_;refine dD (bV Zrf rfl rfl (fS x) Za (by exact rfl)) ?_;rintro _ _ ⟨rfl,rfl⟩;refine p6 ?_;refine Zyn rfl rfl (jD (dH rfl) (Zv rfl) Wq1 (hq _ hg2.wf.pc)) ?_;refine Z_3 ?_;refine Zyn rfl rfl (jD (dH rfl) (Zv rfl) Wq1 (hq _ hg1.wf.pc)) ?_;refine Z_4 ?_;refine ZW ?_ ?_<;>intro hc6
 ·have hZ:=hY2 o x.r (m:Int) G rfl rfl hc6;simp only[aW]at hZ;obtain⟨⟨rfl,rfl,rfl⟩,hG9⟩:=hZ;refine Z_3 ?_;refine ZM ?_;refine Z_4 ?_;refine bN (row b8 (s9.cells (.slice X2.Ad s9.d.length X2.cd) (.slice X2.Ar s9.r.length X2.cr)) 44::egF be bu bb L D s9 X2 Y ⟨U1.m.calm,U1.t⟩ d9 E2) Zj ?_;refine lP (cs':=(egF be bu bb L D s9 X2 Y ⟨U1.m.calm,U1.t⟩ d9 E2)) (.inl rfl) Zu rfl rfl Zh Zrf Zrf ?_;exact⟨X2,Y,E2,hE2,hEe.trans hG9.symm,rfl,rfl⟩
 have hZ:=hY3 o x.r (m:Int) G m rfl rfl rfl hc6;refine Z_3 ?_;refine jk ⟨fun j=>List.elem j [13,14],[]⟩ [(0,0),(1,1),(2,0),(3,4),(4,4),(5,0),(9,0),(10,0),(11,0),(12,0),(6,2),(7,0),(8,0),(13,2),(14,2)] Zk Zk ?_;refine cT rfl (fP Zv0) rfl ?_;refine uy rfl (cn (vs:=o.cells (.slice X2.Ad o.d.length X2.cd) (.slice X2.Ar o.r.length X2.cr)) Zrf Zrf Zv0) (cI Zh rfl) rfl ?_;refine cT rfl (dN 16 rfl Zv0 Zf) rfl ?_;refine jr rfl (bO Zrf Zv0) (cB Zh rfl) rfl ?_;refine jr rfl (cn (vs:=x.cells) Zrf Zrf Zv0) (cI Zh rfl) rfl ?_;refine cT rfl (fP Zv0) rfl ?_;refine cT rfl (fP Zv0) rfl ?_;refine cT rfl (dY (Zv rfl) (Zv rfl) (show _=((8 - m:Nat):Int)from by rw[IntWalk.i64_in _ ⟨by omega,by omega⟩];omega)) rfl ?_;refine cT rfl (fP Zv0) rfl ?_;refine cT rfl (fP Zv0) rfl ?_;refine gM rfl ?_;refine fD rfl rfl (eW rfl (fun _ _=>rfl) (fun w hi=>Aa x (m:Int) w)) ZJ rfl ?_;rintro _ _ ⟨_,⟨rfl,rfl⟩,rfl⟩;rw[show((m:Int)==0)=false from beq_eq_false_iff_ne.2 Wq1,aa,ax];refine cT rfl (bW rfl rfl Zv0 rfl) rfl ?_;refine cT rfl (cX (Zv rfl) (Zv rfl) (show _=(((pl+x.r.bytes.length)%4294967296:Nat):Int)from by show IntKind.u32.wrap ((pl:Int)+IntKind.u32.wrap (x.r.bytes.length:Int))=_;simp only[aE];omega)) rfl ?_;refine gM rfl ?_;have HRs:=fun w hi=>Ab be bu bb L D Y o X2 ((pl+x.r.bytes.length)%4294967296) Wq1 (8 - m) Wq1 ⟨U1.m.calm,U1.t⟩ d1 hg2 (by rw[hout];omega) E2 hE2 w hi
 rw[hEe,←hZ]at HRs;refine ZcS (egF be bu bb L D o X2 Y ⟨U1.m.calm,U1.t⟩ d1 E2) (fun w hi hin=>HRs w hin) ?_;rintro _ _ ⟨_,⟨X3,Y3,E3,hE3,hEe3,rfl,rfl⟩,rfl⟩;refine gM rfl ?_;refine eC rfl rfl (bV Zrf rfl rfl (jp rfl) Za (by exact rfl)) ZJ ?_;rintro _ _ ⟨rfl,rfl⟩;refine eP ?_;refine Z_2 ?_;refine bN (row b8 (s9.cells (.slice X3.Ad s9.d.length X3.cd) (.slice X3.Ar s9.r.length X3.cr)) 44::egF be bu bb L D s9 X3 Y3 U9 d9 E3) Zj ?_;refine lP (cs':=(egF be bu bb L D s9 X3 Y3 U9 d9 E3)) (.inl rfl) Zu rfl rfl Zh Zrf Zrf ?_;exact⟨X3,Y3,E3,hE3,hEe3,rfl,rfl⟩
theorem H8(be bu bb:Nat)(L:fa)(hn:L.n≤1000000)(D:pL)(Y:lz)(s:St)(Ad Ar:Option Addr)(cd cr:Nat)(U:Mmu)(d:Dev)(hG:GOk L.n s U d)(m:Int)(hm0: -1000000≤m)(hm:m≤1000000)(ho:d.out.length+8*m.toNat+8≤1000000000)(E:EnX)(hE:nC E)(w:World)(hi:Inv w (bK (eoF be bu bb L D Y U d E)) (eoF be bu bb L D Y U d E) w)
  (h:∀w',dC (bK (eoF be bu bb L D Y U d E)) w w'→lA w' s Ad Ar cd cr) (ht:∀w',dC (bK (eoF be bu bb L D Y U d E)) w w'→lx w'):
  Ctr prog 16 [.pointer (some ⟨be,0,none⟩),sv s Ad cd Ar cr,.pointer (some ⟨bu,0,none⟩),.pointer (some ⟨D.bs,0,none⟩),.int .i64 m] w (eoF be bu bb L D Y U d E)
   (fun v cs=>∃X' Y' E',nC E'∧E'.eng=(Gs L.n m s U d E.eng).2∧v=sv (Gs L.n m s U d E.eng).1.1 X'.Ad X'.cd X'.Ar X'.cr∧cs=egF be bu bb L D (Gs L.n m s U d E.eng).1.1 X' Y' (Gs L.n m s U d E.eng).1.2.1 (Gs L.n m s U d E.eng).1.2.2 E'):=by
 have HR2:=mJ s;rw[hG.right]at HR2;obtain⟨hd16,hr16, -⟩:=St.fits hG.right;obtain⟨⟨⟨s9,U9,d9⟩,G9⟩,hR⟩:=Zgn (Gs L.n m s U d E.eng);rw[hR];have hR0:kC L.n m s.count (m.toNat - 0) ((s,U,d),E.eng)=((s9,U9,d9),G9):=hR;have hk0:sU L.n m s.count d.out.length 0 (s,U,d):=⟨hG,aN _,0,by show IntKind.u64.wrap (s.count - s.count)=0;rw[Int.sub_self];rfl,aN _,aN _,by cases hd:decide (0<m)with|false=>(show(0:Int)<0+8;omega)|true=>(simp only[ak]at hd;show(0:Int)<m+8;omega)⟩;obtain⟨from_,hfr⟩:=Zgn (s.count);obtain⟨o0,hoo⟩:=Zgn (d.out.length);rw[hfr]at hR0 hk0;rw[hoo]at ho hk0;refine bL func16 rfl ntmps16 rfl hi ?_;refine Z_2 ?_;refine ZO fun b6=>?_;refine ZN fun b10=>?_
 refine Z_5 ?_;refine ZS (fun w hi=>iY s Ad Ar cd cr w (h w hi.JJ)) ?_;rintro _ _ ⟨_,⟨A1,c1,A2,c2,rfl,rfl⟩,rfl⟩;refine ZM ?_;refine Z_6 ?_;refine ZSe (fun w hi=>HR2 A1 A2 c1 c2 w) ?_;refine fF ?_;refine gx ?_;refine Z_4 ?_;refine jF (row b6 (s.cells (.slice A1 s.d.length c1) (.slice A2 s.r.length c2)) 44::row b10 (St.zero.cells (.slice none 0 0) (.slice none 0 0)) 44::egF be bu bb L D s ⟨A1,c1,A2,c2⟩ Y U d E) Zj ?_;refine Z_7 ?_;refine cw (fun q:Nat×St×jq×lz×Mmu×Dev×EnX=>[(0,.pointer (some ⟨be,0,none⟩)),(2,.pointer (some ⟨bu,0,none⟩)),(3,.pointer (some ⟨D.bs,0,none⟩)),(4,.int .i64 m),(6,.pointer (some ⟨b6,0,none⟩)),(10,.pointer (some ⟨b10,0,none⟩)),(11,.int .u64 from_)]) (fun q=>row b6 (q.2.1.cells (.slice q.2.2.1.Ad q.2.1.d.length q.2.2.1.cd) (.slice q.2.2.1.Ar q.2.1.r.length q.2.2.1.cr)) 44::row b10 (St.zero.cells (.slice none 0 0) (.slice none 0 0)) 44::egF be bu bb L D q.2.1 q.2.2.1 q.2.2.2.1 q.2.2.2.2.1 q.2.2.2.2.2.1 q.2.2.2.2.2.2) (fun q=>sU L.n m from_ o0 q.1 (q.2.1,q.2.2.2.2.1,q.2.2.2.2.2.1)∧q.1≤m.toNat∧nC q.2.2.2.2.2.2∧kC L.n m from_ (m.toNat - q.1) ((q.2.1,q.2.2.2.2.1,q.2.2.2.2.2.1),q.2.2.2.2.2.2.eng)=((s9,U9,d9),G9)) (fun q=>m.toNat - q.1) (⟨0,s,⟨A1,c1,A2,c2⟩,Y,U,d,E⟩) ?_ ?_ ?_ ?_
 ·exact⟨hk0,au _,hE,hR0⟩
 ·exact Zwk
 ·exact Zu
 rintro⟨i,s,X,Y,U,d,E⟩ ⟨hk,him,hE,hRi⟩;dsimp only at hk him hE hRi⊢;have hrc:eT m from_ s=((decide (0<m)&& !s.halted)&&decide (IntKind.u64.wrap (s.count - from_)<m)):=rfl;refine gL ?_;refine Zyy rfl rfl (dY (dH rfl) (dH rfl) rfl) ?_;refine ZB ?_;refine Zyy rfl rfl (bW rfl rfl (dH rfl) (show _=(bif decide (0<m)then m else IntKind.u64.wrap m)from by cases hd:decide (0<m)with|false=>rfl|true=>(rw[ac,aU];simp only[ak]at hd;omega))) ?_;refine Z_4 ?_;refine ZW ?_ ?_<;>intro hc5
 ·have hc:eT m from_ s=true:=(by rw[hrc];revert hc5;cases decide (0<m)with|false=>(intro h;cases h)|true=>exact fun h=>h);obtain⟨hk2,hilt⟩:=qn hm Wq1 hk hc;obtain⟨k,hkk⟩:∃k,m.toNat - i=k+1:=⟨m.toNat - i - 1,by omega⟩;rw[hkk,wa (q:=((s,U,d),E.eng)) hc]at hRi;obtain⟨hd16,hr16, -⟩:=St.fits hk.g.right;have hok:=hk.out;dsimp only at hok hd16 hr16;have HB:=edo_ok be bu bb L D Y s X.Ad X.Ar X.cd X.cr U d hk.g Wq1 E hE;obtain⟨hd1, -, -⟩:=Jb hn hk.g hE.eg;obtain⟨⟨⟨s2,U2,d2⟩,G2⟩,hq⟩:=Zgn (doE L.n s U d E.eng);dsimp only at hRi hk2 hd1;rw[hq]at HB hRi hd1;dsimp only at hd1;rw[←hd1]at hk2;refine Z_8 ?_;refine ZcL (eoF be bu bb L D Y U d E) (fun w hi hin=>HB w hin (fun w' hk=>hi.Kc Zi (show Has _ (slD s X.Ad X.cd)from Zh) (show Has _ (slR s X.Ar X.cr)from Zh) Wq1 Wq1 hk) (fun w' hk=>ht w' (hi.past (fun c hc=>by simp only[egF,eoF,enF,guF,ubF,uF,mV,aS,aK,aY]at hc⊢;grind) hk))) ?_;rintro _ _ ⟨_,⟨X2,Y2,E2,hE2,hEe,rfl,rfl⟩,rfl⟩;refine ZM ?_;refine Z_2 ?_;refine bY ((⟨i+1,s2,X2,Y2,U2,d2,E2⟩:Nat×St×jq×lz×Mmu×Dev×EnX)) ?_ ?_ ?_
  ·exact⟨⟨hk2,show i+1≤m.toNat by omega,hE2,by show kC L.n m from_ (m.toNat - (i+1)) ((s2,U2,d2),E2.eng)=_;rw[show m.toNat - (i+1)=k by omega,hEe];exact hRi⟩,show m.toNat - (i+1)<m.toNat - i by omega⟩
  ·exact Zwk
  exact Zj
 have hc:eT m from_ s=false:=(by rw[hrc];revert hc5;cases decide (0<m)with|false=>exact fun _=>rfl|true=>exact fun h=>h);rw[qX (q:=((s,U,d),E.eng)) hc,aW,aW,aW]at hRi;obtain⟨⟨rfl,rfl,rfl⟩,hG9⟩:=hRi;refine Z_8 ?_;refine ZM ?_;refine Z_3 ?_;refine bN (row b10 (s.cells (.slice X.Ad s.d.length X.cd) (.slice X.Ar s.r.length X.cr)) 44::egF be bu bb L D s X Y U d E) Zj ?_;refine lP (cs':=(egF be bu bb L D s X Y U d E)) (.inl rfl) Zu rfl rfl Zh Zrf Zrf ?_;exact⟨X,Y,E,hE,hG9,rfl,rfl⟩
end Go.Proofs.YtakodpimdalajaaGreatDoor
namespace Go.Ink
open Go.RowKit
section
variable {C:Cx} {fr:Fr} {d:Option Nat} {T:TypeId} {x y:Operand} {ty:TypeId} {pos:String} {af:Array Edge} {gd:Option (Nat×Bool)} {g:Bool}
end
theorem v6{n:Nat}{m f:Int}:∀(k:Nat) {q:St×Mmu×Dev},GOk n q.1 q.2.1 q.2.2→(lr n m f k q).2.2.out.length≤q.2.2.out.length+8*k
 |0,q,h=>by show q.2.2.out.length≤_;omega
 |k+1,q,h=>by
  cases hc:eT m f q.1 with
  |false=>rw[kB hc];omega
  |true=>
   rw[qo hc];have h1:=v6 (m:=m) (f:=f) k (xx h);have h2:(dQ n q.1 q.2.1 q.2.2).2.2.out.length≤q.2.2.out.length+8:=by
    rcases pF h with h3|⟨-, -, -,h3⟩
    ·exact h3.out
    rw[h3];omega
   omega
theorem Dp{n:Nat}(m:Int){s:St}{U:Mmu}{d:Dev}(h:GOk n s U d):(ib n m s U d).2.2.out.length≤d.out.length+8*m.toNat:=v6 m.toNat (q:=(s,U,d)) h
end Go.Ink
namespace Go.Proofs.YtakodpimdalajaaGreatDoor
open Go.RowKit Go.Ink Go.Proofs.Tryz
attribute [local irreducible] OpY bP
theorem E6(room:Int)(hr:1≤room∧room≤1024)(w:World):Ctr prog 11 [.int .i64 room] w [] (fun v cs=>∃be E,(nC E∧E.eng=Eng.fresh room)∧v= .tuple #[.pointer (some ⟨be,0,none⟩),.int .i64 0]∧cs=enF be E):=by
 refine(enew_ok room w).mono ?_;rintro v cs h;rw[if_pos hr]at h;obtain⟨be,bc,mr,ml,rfl,rfl⟩:=h;exact⟨be,⟨bc,mr,room,⟨ml,none,0,0,[],[]⟩,[],(0,0),0,0,false⟩,⟨⟨oS.none hr _ _ _ _,ij.fresh hr,(fun y hy=>nomatch hy),(show kp (0,0)from⟨⟨by decide,by decide⟩,by decide,by decide⟩)⟩,rfl⟩,rfl,rfl⟩
end Go.Proofs.YtakodpimdalajaaGreatDoor
namespace Go.Ink
open Go.RowKit
def Mem.load(n:Nat)(l:List Int):Mem:=(Mem.new n).fill 0 l l.length
theorem Mem.KC{n:Nat}{l:List Int}(h:l.length≤n*64):(Mem.load n l).data=l++List.replicate (n*64 - l.length) 0:=congrArg Mem.data (Mem.init_eq h)
theorem Mem.Kz(n:Nat):(Mem.new n).ok n:=⟨aJ,fun x hx=>by rw[List.eq_of_mem_replicate hx];decide,aJ⟩
theorem Hc{n:Nat}{l k:List Int}(hb:u8s l)(hk:k.length≤1024)(hkb:u8s k):GOk n St.new ⟨Mem.load n l,eE⟩ (Dev.init k):=
 ⟨new_wf,rfl,⟨(Mem.Kz n).fill 0 hb _,tn⟩,Dev.KG hk hkb,⟨Int.le_refl _,show(0:Int)≤255 by decide⟩⟩
theorem Inv.okS{w0 w:World}{S:List Nat}{cs cin rest:List bJ}(h:Inv w0 S cs w)(hp:ji cin cs rest):∀c,c∈cin→c.ok w:=fun c hc=>h.ok c (hp.perm.symm.subset (List.mem_append_left _ hc))
end Go.Ink
namespace Go.Proofs.YtakodpimdalajaaGreatDoor
open Go.RowKit Go.Ink Go.Proofs.Tryz
attribute [local irreducible] OpY bP
structure xG where
 bg:Nat
 bu:Nat
 bb:Nat
 be:Nat
 L:fa
 D:pL
structure Gst where
 s:St
 X:jq
 Y:lz
 U:Mmu
 d:Dev
 o:Option EnX
def engV(be:Nat):Option EnX→Value
 |none=> .pointer none
 |some _=> .pointer (some ⟨be,0,none⟩)
def enO(be:Nat):Option EnX→List bJ
 |none=>[]
 |some E=>enF be E
abbrev w7(H:xG)(G:Gst)(k:Bool):List Value:=[.pointer (some ⟨H.D.bs,0,none⟩),.pointer (some ⟨H.L.bm,0,none⟩),.pointer (some ⟨H.L.bp,0,none⟩),.int .i64 (H.L.o:Int),.pointer (some ⟨H.bu,0,none⟩),engV H.be G.o]++(G.s.cells (.slice G.X.Ad G.s.d.length G.X.cd) (.slice G.X.Ar G.s.r.length G.X.cr)++[.bool k])
abbrev zW(H:xG)(G:Gst)(k:Bool):bJ:=row H.bg (w7 H G k) 123
abbrev gsF(H:xG)(G:Gst):List bJ:=zW H G false::(guF H.bu H.bb H.L H.D G.s G.X G.Y G.U G.d++[dg (enO H.be G.o)])
structure Gst.ok(n:Nat)(G:Gst):Prop where
 g:GOk n G.s G.U G.d
 e:∀E,G.o=some E→nC E
structure Born(bp o n:Nat)(W ow pr l k:List Int)(tr:Bool)(H:xG)(G:Gst):Prop where
 hbp:H.L.bp=bp
 ho:H.L.o=o
 hn:H.L.n=n
 hgw:H.L.gw=ow
 hgB:H.L.gB=W
 hgp:H.L.gp=pr.set o n
 hs:G.s=St.new
 hu:G.U=⟨Mem.load n l,eE⟩
 hd:G.d=Dev.init k
 htr:G.o.isSome=tr
 ok:G.ok n
theorem gnew_ok(bp:Nat)(W ow pr:List Int)(hl:dI W ow pr)(o n:Nat)(ho:o<4)(hn0:1≤n)(hn:n≤64)(h1:pr[o]? =some (-1))(hs:(n:Int)+nW pr 4≤240)(hb:∀x,x∈pr→x≤1000)(hno:∀x,x∈ow→x≠(o:Int))(hc:n≤pz ow 256)
  (A B:Option Addr) (c e:Nat) (l k:List Int) (hll:l.length≤n*64) (hlb:u8s l) (hkl:k.length≤1024) (hkb:u8s k) (tr:Bool) (w:World) (hi:Inv w (bK [dj bp W ow pr]) [dj bp W ow pr] w)
  (hA:∀w',dC (bK [dj bp W ow pr]) w w'→Rd w' .u8 A l.length c l) (hB:∀w',dC (bK [dj bp W ow pr]) w w'→Rd w' .u8 B k.length e k):
  Ctr prog 34 [.pointer (some ⟨bp,0,none⟩),.int .i64 o,imgV A c l B e k n,.bool tr] w [dj bp W ow pr] (fun v cs=>∃H G,Born bp o n W ow pr l k tr H G∧v= .tuple #[.pointer (some ⟨H.bg,0,none⟩),.int .i64 0]∧cs=gsF H G):=by
 have hG:=Hc (n:=n) (l:=l) (k:=k) hlb hkl hkb;have HM:∀bt bf bg bm,eo (⟨bp,bt,bf,bg,bm,o,n,ow,W,pr.set o n⟩) (Mem.new n) ⟨W,ow,pr.set o n,List.replicate n (-1),List.replicate n false⟩:=fun bt bf bg bm=>
  eo.new (L:=⟨bp,bt,bf,bg,bm,o,n,ow,W,pr.set o n⟩) ho hn0 hn (pr:=pr) hl rfl hno (H0 hc)
 have HB:∀(H:xG) (G:Gst),H.L.bp=bp→H.L.o=o→H.L.n=n→H.L.gw=ow→H.L.gB=W→H.L.gp=pr.set o n→G.s=St.new→G.U=⟨Mem.load n l,eE⟩→G.d=Dev.init k→G.o.isSome=tr→(∀E,G.o=some E→nC E)→Born bp o n W ow pr l k tr H G:=fun H G a1 a2 a3 a4 a5 a6 a7 a8 a9 a10 a11=>⟨a1,a2,a3,a4,a5,a6,a7,a8,a9,a10,⟨by rw[a7,a8,a9];exact hG,a11⟩⟩
 have H2:=fun bm w h=>Fv bm B e k hkl w h
 unfold Mem.load at HB;obtain⟨d,hd⟩:=Zgn (Dev.init k);rw[hd]at H2 HB;clear hG hd;refine bL func34 rfl ntmps34 rfl hi ?_;refine Z_2 ?_;refine ZO fun b6=>?_;refine jA ?_;refine gx ?_;refine Zs (bR ⟨fun j=>List.elem j [],[]⟩ Zk ?_);refine ZFe 0 0 ?_;refine ZG 1 ?_;refine ZE 2 ?_;refine ZFe 4 2 ?_;refine ZG 5 ?_;refine cD 6 rfl Zk Zk Zk (vH Zv0 Zv0 rfl) rfl ?_;refine ce 3 Zk ?_;refine ZT (fun w hi=>EG l.length Wq1 w) ?_;rintro _ _ ⟨_,⟨rfl,rfl⟩,rfl⟩;refine ZE 7 ?_;refine ZE 8 ?_;refine ZFf 9 1 ?_;refine AZ 10 rfl Zk Zk Zk Zk (cq rfl rfl) (bO Zrf (dH rfl)) (cB Zh rfl) rfl ?_;refine ZF 11 ?_;refine ZF 12 ?_;refine ZE 13 ?_;refine ZE 14 ?_;refine dr ?_;refine Zt (dw rfl ((by rw[if_neg (show¬(0:Int)>(n:Int) by omega),az (show¬(n:Int)<(((l.length+63)/64:Nat):Int) by omega),az (show¬(1024:Int)<(k.length:Int) by omega)];rfl)) ?_);refine Z_9 ?_;refine ZcL ([dj bp W ow pr]) (fun w hi hin=>nnew_ok bp W ow pr hl o n ho hn0 hn h1 hs hb w hin) ?_;rintro _ _ ⟨_,⟨bt,bf,bg,rfl,rfl⟩,rfl⟩;refine gL ?_;refine gx ?_;refine Z_6 ?_;refine ZS (fun w hi=>rnew_ok bp bt w) ?_;rintro _ _ ⟨_,⟨bm,rfl,rfl⟩,rfl⟩;refine Z_9 ?_;refine y5 (bs:=[bp,bt,bf,bg,bm]) (F:=BJ ⟨bp,bt,bf,bg,bm,o,n,ow,W,pr.set o n⟩ (List.replicate 64 false)) (hb:=fun _=>rfl) (p:=eo ⟨bp,bt,bf,bg,bm,o,n,ow,W,pr.set o n⟩ (Mem.new n)) ⟨W,ow,pr.set o n,List.replicate n (-1),List.replicate n false⟩ (HM bt bf bg bm) Zi ?_;refine Z_3 ?_;refine ZcM ([ek ⟨bp,bt,bf,bg,bm,o,n,ow,W,pr.set o n⟩ (Mem.new n)]) (fun w hi hin=>Gu ⟨bp,bt,bf,bg,bm,o,n,ow,W,pr.set o n⟩ (Mem.new n) A c l hll hlb w hin (fun w' hk=>hA w' (hi.J5 Zi hk))) ?_;refine Z_7 ?_;refine ZS (fun w hi=>H2 bm w (hB w hi.JJ)) ?_;rintro _ _ ⟨_,⟨D,rfl,rfl⟩,rfl⟩;refine dS ?_;refine ZS (fun w hi=>DT bm w) ?_;rintro _ _ ⟨_,⟨bu,bb,rfl,rfl⟩,rfl⟩;refine gL ?_;refine ZSe (fun w hi=>Kz w) ?_;refine ZA ?_;refine ZO fun b77=>?_
 refine dy 22 1 ?_;refine dy 22 1 ?_;refine Z_9 ?_;refine ZW ?_ ?_<;>intro hc13
 ·refine Z_2 ?_;refine ZS (fun w hi=>E6 32 ⟨by decide,by decide⟩ w) ?_;rintro _ _ ⟨_,⟨be,E,⟨hE,hE0⟩,rfl,rfl⟩,rfl⟩;refine Z_5 ?_;refine CE (enF be E) Zi ?_;refine ZL ?_;refine dS ?_;refine bN (gsF ⟨b77,bu,bb,be,⟨bp,bt,bf,bg,bm,o,n,ow,W,pr.set o n⟩,D⟩ ⟨St.new,⟨none,0,none,0⟩,⟨none,0,none,0⟩,⟨(Mem.new n).fill 0 l l.length,eE⟩,d,some E⟩) Zj ?_;refine rc (cs':=(gsF ⟨b77,bu,bb,be,⟨bp,bt,bf,bg,bm,o,n,ow,W,pr.set o n⟩,D⟩ ⟨St.new,⟨none,0,none,0⟩,⟨none,0,none,0⟩,⟨(Mem.new n).fill 0 l l.length,eE⟩,d,some E⟩)) (.inl rfl) Zu rfl rfl rfl ?_;exact⟨⟨b77,bu,bb,be,⟨bp,bt,bf,bg,bm,o,n,ow,W,pr.set o n⟩,D⟩,⟨St.new,⟨none,0,none,0⟩,⟨none,0,none,0⟩,⟨(Mem.new n).fill 0 l l.length,eE⟩,d,some E⟩,HB _ _ rfl rfl rfl rfl rfl rfl rfl rfl rfl (show true=tr from hc13.symm) (fun E' h=>by cases h;exact hE),rfl,rfl⟩
 refine dS ?_;refine Dx ?_;refine bN (gsF ⟨b77,bu,bb,0,⟨bp,bt,bf,bg,bm,o,n,ow,W,pr.set o n⟩,D⟩ ⟨St.new,⟨none,0,none,0⟩,⟨none,0,none,0⟩,⟨(Mem.new n).fill 0 l l.length,eE⟩,d,none⟩) Zj ?_;refine rc (cs':=(gsF ⟨b77,bu,bb,0,⟨bp,bt,bf,bg,bm,o,n,ow,W,pr.set o n⟩,D⟩ ⟨St.new,⟨none,0,none,0⟩,⟨none,0,none,0⟩,⟨(Mem.new n).fill 0 l l.length,eE⟩,d,none⟩)) (.inl rfl) Zu rfl rfl rfl ?_;exact⟨⟨b77,bu,bb,0,⟨bp,bt,bf,bg,bm,o,n,ow,W,pr.set o n⟩,D⟩,⟨St.new,⟨none,0,none,0⟩,⟨none,0,none,0⟩,⟨(Mem.new n).fill 0 l l.length,eE⟩,d,none⟩,HB _ _ rfl rfl rfl rfl rfl rfl rfl rfl rfl (show false=tr from hc13.symm) (fun E' h=>by cases h),rfl,rfl⟩
theorem oD(H:xG)(G:Gst)(w:World)(h:(zW H G false).ok w)(h2:lA w G.s G.X.Ad G.X.Ar G.X.cd G.X.cr):Ctr prog 22 [.pointer (some ⟨H.bg,0,none⟩)] w [] (ID G.s):=by
 refine bL func22 rfl ntmps22 rfl (Inv.start w) ?_;refine Z_2 ?_;refine ZN fun b2=>?_;refine Z_7 ?_;refine dL (cn (vs:=G.s.cells (.slice G.X.Ad G.s.d.length G.X.cd) (.slice G.X.Ar G.s.r.length G.X.cr)) Zrf Zrf Zv0) (oq (o:=6) h rfl) rfl ?_;refine ZS (fun w hi=>iY G.s G.X.Ad G.X.Ar G.X.cd G.X.cr w (h2.Jz hi)) ?_;rintro _ _ ⟨_,⟨A1,c1,A2,c2,rfl,rfl⟩,rfl⟩;refine ZM ?_;refine Z_3 ?_;refine lP (cs':=[slD G.s A1 c1,slR G.s A2 c2]) (.inl rfl) Zu rfl rfl Zh Zrf Zrf ?_;exact⟨A1,c1,A2,c2,rfl,rfl⟩
theorem H9(be bu bb:Nat)(L:fa)(hn:L.n≤1000000)(D:pL)(Y:lz)(s:St)(Ad Ar:Option Addr)(cd cr:Nat)(U:Mmu)(d:Dev)(hG:GOk L.n s U d)(m:Int)(hm0: -1000000≤m)(hm:m≤1000000)(ho:d.out.length+8*m.toNat+8≤1000000000)(E:EnX)(hE:nC E)(w:World)(hi:Inv w (bK (eoF be bu bb L D Y U d E)) (eoF be bu bb L D Y U d E) w)
  (h:∀w',dC (bK (eoF be bu bb L D Y U d E)) w w'→lA w' s Ad Ar cd cr) (ht:∀w',dC (bK (eoF be bu bb L D Y U d E)) w w'→lx w'):
  Ctr prog 16 [.pointer (some ⟨be,0,none⟩),sv s Ad cd Ar cr,.pointer (some ⟨bu,0,none⟩),.pointer (some ⟨D.bs,0,none⟩),.int .i64 m] w (eoF be bu bb L D Y U d E)
   (fun v cs=>∃X' Y' E',nC E'∧v=sv (ib L.n m s U d).1 X'.Ad X'.cd X'.Ar X'.cr∧cs=egF be bu bb L D (ib L.n m s U d).1 X' Y' (ib L.n m s U d).2.1 (ib L.n m s U d).2.2 E'):=by
 refine(H8 be bu bb L hn D Y s Ad Ar cd cr U d hG m hm0 hm ho E hE w hi h ht).mono ?_;rintro v cs ⟨X',Y',E',hE', -,hv,hcs⟩;rw[(Dq hn m hG hE.eg).1]at hv hcs;exact⟨X',Y',E',hE',hv,hcs⟩
theorem yG(H:xG)(G:Gst)(hn:H.L.n≤1000000)(hG:G.ok H.L.n)(m:Int)(hm0: -1000000≤m)(hm:m≤1000000)(ho:G.d.out.length+8*m.toNat+8≤1000000000)(w:World)(hi:Inv w (bK (gsF H G)) (gsF H G) w)(ht:∀w',dC (bK (gsF H G)) w w'→lx w'):
  Ctr prog 23 [.pointer (some ⟨H.bg,0,none⟩),.int .i64 m] w (gsF H G)
   (fun v cs=>∃G',(G'.ok H.L.n∧(G'.s,G'.U,G'.d)=ib H.L.n m G.s G.U G.d∧G'.o.isSome=G.o.isSome)∧v= .int .i64 (IntKind.i64.wrap (IntKind.u64.wrap ((ib H.L.n m G.s G.U G.d).1.count - G.s.count)))∧cs=gsF H G'):=by
 obtain⟨s,X,Y,U,d,o⟩:=G;have hg:=hG.g;dsimp only at hg ho⊢;obtain⟨hd16,hr16, -⟩:=St.fits hg.right;have hg2:GOk H.L.n (ib H.L.n m s U d).1 (ib H.L.n m s U d).2.1 (ib H.L.n m s U d).2.2:=(Dq hn m hg (ij.fresh (room:=8) ⟨by decide,by decide⟩)).2.2.1;cases o with
 |none=>
  have HR:=run_ok H.bu H.bb H.L H.D Y s X.Ad X.Ar X.cd X.cr U d hg m hm0 hm ho;obtain⟨⟨s2,U2,d2⟩,hq⟩:=Zgn (ib H.L.n m s U d);rw[hq]at HR hg2⊢;dsimp only at hg2;refine bL func23 rfl ntmps23 rfl hi ?_;refine dS ?_;refine ZFa 22 ?_;refine Z_3 ?_;refine gx ?_;refine lw ?_;refine Z_2 ?_;refine gx ?_;refine bR ⟨fun j=>List.elem j [14,17],[]⟩ Zk ?_;refine gn ?_;refine ZE 2 ?_;refine ZFe 3 6 ?_;refine dm 4 rfl Zk Zk Zk Zk (cn (vs:=s.cells (.slice X.Ad s.d.length X.cd) (.slice X.Ar s.r.length X.cr)) Zrf Zrf Zv0) (cI (o:=6) Zh rfl) rfl ?_;refine ZE 5 ?_;refine ZE 6 ?_;refine ZFe 7 4 ?_;refine ZG 8 ?_;refine ZE 9 ?_;refine ZE 10 ?_;refine ZFe 11 0 ?_;refine ZG 12 ?_;refine ZE 13 ?_;refine ce 14 Zk ?_;refine ZcA (ubF H.bu H.bb H.L H.D Y U d) (fun w hi hin=>HR w hin (fun w' hk=>hi.Kc Zi (show Has _ (slD s X.Ad X.cd)from Zh) (show Has _ (slR s X.Ar X.cr)from Zh) Wq1 Wq1 hk) (fun w' hk=>ht w' (hi.J5 Zi hk))) ?_;rintro _ _ ⟨_,⟨X2,Y2,rfl,rfl⟩,rfl⟩;refine ZE 15 ?_;refine ZFe 16 6 ?_;refine ce 17 Zk ?_;refine dp rfl rfl (eG (ys:=w7 H ⟨s2,X2,Y2,U2,d2,none⟩ false) (n:=16) (vs:=s2.cells (.slice X2.Ad s2.d.length X2.cd) (.slice X2.Ar s2.r.length X2.cr)) rfl Zrf rfl rfl (jp rfl) Za rfl (Nat.le_of_ble_eq_true rfl)) ZJ ?_;rintro _ _ ⟨rfl,rfl⟩;refine dr ?_;refine Z_9 ?_;refine Zy (dY Zv0 Zv0 rfl) ?_;refine Zy (bW rfl rfl Zv0 Zl) ?_;refine Z_4 ?_;refine bN (gsF H ⟨s2,X2,Y2,U2,d2,none⟩) Zj ?_;refine Zrb ((gsF H ⟨s2,X2,Y2,U2,d2,none⟩)) ?_;exact⟨⟨s2,X2,Y2,U2,d2,none⟩,⟨⟨hg2,fun E h=>by cases h⟩,rfl,rfl⟩,rfl,rfl⟩
 |some E=>
  have hE:=hG.e E rfl;have HR:=H9 H.be H.bu H.bb H.L hn H.D Y s X.Ad X.Ar X.cd X.cr U d hg m hm0 hm ho;obtain⟨⟨s2,U2,d2⟩,hq⟩:=Zgn (ib H.L.n m s U d);rw[hq]at HR hg2⊢;dsimp only at hg2;refine bL func23 rfl ntmps23 rfl hi ?_;refine dS ?_;refine ZFa 22 ?_;refine Z_3 ?_;refine gx ?_;refine FT ?_;refine wl_open (bs:=bK (enF H.be E)) (F:=fun _:Unit=>enF H.be E) (hb:=fun _=>rfl) (p:=fun _=>True) Zd (fun _ _=>?_);refine Z_3 ?_;refine bU rfl (rfl) ?_;refine Zs (bR ⟨fun j=>List.elem j [9],[]⟩ Zk ?_);refine gn ?_;refine ZFe 2 5 ?_;refine ZG 3 ?_;refine ZE 4 ?_;refine ZE 5 ?_;refine ZFe 6 1 ?_;refine ce 7 Zk ?_;refine kg ?_;refine ce 8 Zk ?_;refine ZT (fun w hi=>oZ H.L U.m w (hi.get (show Has _ (ek H.L U.m)from Zh))) ?_;rintro _ _ ⟨_,⟨A3,c3,rfl,rfl⟩,rfl⟩;refine ce 9 Zk ?_;refine ZcA (enP H.be E A3 c3 (ia U.m.Jt 64)) (fun w hi hin=>tZ H.be E hE A3 c3 (ia U.m.Jt 64) w hin) ?_;rintro _ _ ⟨_,⟨E2,rfl,hE2, -⟩,rfl⟩;refine dr ?_;refine Zt (bR ⟨fun j=>List.elem j [18,21],[]⟩ Zk ?_);refine gn ?_;refine ZE 2 ?_;refine ZFe 3 5 ?_;refine ZG 4 ?_;refine ZE 5 ?_;refine ZE 6 ?_;refine ZFe 7 6 ?_;refine dm 8 rfl Zk Zk Zk Zk (cn (vs:=s.cells (.slice X.Ad s.d.length X.cd) (.slice X.Ar s.r.length X.cr)) Zrf Zrf Zv0) (cI (o:=6) Zh rfl) rfl ?_;refine ZE 9 ?_;refine ZE 10 ?_;refine ZFe 11 4 ?_;refine ZG 12 ?_;refine ZE 13 ?_;refine ZE 14 ?_;refine ZFe 15 0 ?_;refine ZG 16 ?_;refine ZE 17 ?_;refine ce 18 Zk ?_;refine ZcA (eoF H.be H.bu H.bb H.L H.D Y U d E2) (fun w hi hin=>HR E2 hE2 w hin (fun w' hk=>hi.Kc Zi (show Has _ (slD s X.Ad X.cd)from Zh) (show Has _ (slR s X.Ar X.cr)from Zh) Wq1 Wq1 hk) (fun w' hk=>ht w' (hi.J5 Zi hk))) ?_;rintro _ _ ⟨_,⟨X2,Y2,E3,hE3,rfl,rfl⟩,rfl⟩;refine ZE 19 ?_;refine ZFe 20 6 ?_;refine ce 21 Zk ?_;refine dp rfl rfl (eG (ys:=w7 H ⟨s2,X2,Y2,U2,d2,some E3⟩ false) (n:=16) (vs:=s2.cells (.slice X2.Ad s2.d.length X2.cd) (.slice X2.Ar s2.r.length X2.cr)) rfl Zrf rfl rfl (jp rfl) Za rfl (Nat.le_of_ble_eq_true rfl)) ZJ ?_;rintro _ _ ⟨rfl,rfl⟩;refine dr ?_;refine Z_3 ?_;refine CE (enF H.be E3) Zi ?_;refine Z_6 ?_;refine Zy (dY Zv0 Zv0 rfl) ?_;refine Zy (bW rfl rfl Zv0 Zl) ?_;refine Z_4 ?_;refine bN (gsF H ⟨s2,X2,Y2,U2,d2,some E3⟩) Zj ?_;refine Zrb ((gsF H ⟨s2,X2,Y2,U2,d2,some E3⟩)) ?_;exact⟨⟨s2,X2,Y2,U2,d2,some E3⟩,⟨⟨hg2,fun E h=>by cases h;exact hE3⟩,rfl,rfl⟩,rfl,rfl⟩
end Go.Proofs.YtakodpimdalajaaGreatDoor
