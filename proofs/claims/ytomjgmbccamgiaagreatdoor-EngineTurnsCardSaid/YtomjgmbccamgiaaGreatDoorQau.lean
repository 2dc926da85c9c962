/- Lemmas. -/
import Derived.Test.YtomjgmbccamgiaaGreatDoorQaa
import Derived.Test.YtomjgmbccamgiaaGreatDoorQab
import Derived.Test.YtomjgmbccamgiaaGreatDoorQai
import Derived.Test.YtomjgmbccamgiaaGreatDoorQak
import Derived.Test.YtomjgmbccamgiaaGreatDoorQan
import Derived.Test.YtomjgmbccamgiaaGreatDoorQas
import Derived.Test.YtomjgmbccamgiaaGreatDoorQat
set_option linter.unusedSimpArgs false
set_option linter.unusedVariables false
set_option maxRecDepth 100000
set_option maxHeartbeats 4000000
namespace Go.Ink
open Go.RowKit
theorem AH{n Iy k:Nat}{s:St}{p:Nat}{U:Mmu}{d:Dev}{E:Eng}(h:ft n U.m p=none):jd n Iy (k+1) s p U d E=((s.next.Iv 1 0,U,d),{E with IA:=IntKind.i64.wrap (E.IA+1)}):=by
 unfold jd;rw[h]
theorem AG{n Iy k:Nat}{s:St}{p:Nat}{U U1:Mmu}{d d1:Dev}{E:Eng}{op nn:Int}{z:Nat}{q:Res}(h:ft n U.m p=some ((op,nn),z))(hq:vd n s op nn U d=(q,U1,d1)):
  jd n Iy (k+1) s p U d E=bif kC op q Iy s.pc then jd n Iy k q.s ((p+z)%4294967296) U1 d1 (lD {E with IA:=IntKind.i64.wrap (E.IA+1)} q.Ig)else((q.s,U1,d1),lD {E with IA:=IntKind.i64.wrap (E.IA+1)} q.Ig):=by
 rw[jd,h];simp only[hq]
abbrev EnX.Jg(E:EnX)(c:Int):EnX:=⟨E.bc,E.mr,E.room,E.X,E.RZ,E.last,E.IC,IntKind.i64.wrap (E.IA+c),E.begun⟩
theorem mS.slowed{E:EnX}(h:mS E)(c:Int):mS (E.Jg c):=⟨h.ca,h.eg.same rfl rfl rfl,h.rs,h.last⟩
end Go.Ink
namespace Go.Proofs.YtomjgmbccamgiaaGreatDoor
open Go.RowKit Go.Ink Go.Proofs.Tryz
attribute [local irreducible] OpY bW
abbrev egF(be bu bb:Nat)(L:gQ)(D:p6)(s:St)(X:iv)(Y:j0)(U:Mmu)(d:Dev)(E:EnX):List bJ:=guF bu bb L D s X Y U d++enF be E
theorem zD(be bu bb:Nat)(L:gQ)(D:p6)(Y:j0)(s:St)(X:iv)(p:Nat)(hp:p≤4294967295)(IE:Nat)(hmost:IE≤1000)(U:Mmu)(d:Dev)(hG:GOk L.n s U d)(ho:d.out.length+IE≤1000000000)(E:EnX)(hE:mS E)(w:World)(hi:Inv w (bK (egF be bu bb L D s X Y U d E)) (egF be bu bb L D s X Y U d E) w):
  Ctr prog 53 [.pointer (some ⟨be,0,none⟩),sv s X.Ad X.cd X.Ar X.cr,.int .u32 (p:Int),.int .i64 (IE:Int),.pointer (some ⟨bu,0,none⟩),.pointer (some ⟨D.bs,0,none⟩)] w (egF be bu bb L D s X Y U d E)
   (fun v cs=>∃X' Y' E',mS E'∧E'.eng=(jd L.n (p/64) IE s p U d E.eng).2∧v=sv (jd L.n (p/64) IE s p U d E.eng).1.1 X'.Ad X'.cd X'.Ar X'.cr∧cs=egF be bu bb L D (jd L.n (p/64) IE s p U d E.eng).1.1 X' Y' (jd L.n (p/64) IE s p U d E.eng).1.2.1 (jd L.n (p/64) IE s p U d E.eng).1.2.2 E'):=by
 obtain⟨pg,hpg⟩:=Zgn (p/64);have hpq:IntKind.u32.wrap ((p:Int).tdiv 64)=(pg:Int):=by rw[bn (by omega),u32_wrap_id _ (by omega) (by omega)];omega
 have hpgl:pg≤4294967295:=by omega
 rw[hpg];clear hpg;obtain⟨⟨⟨s9,U9,d9⟩,G9⟩,hR⟩:=Zgn (jd L.n pg IE s p U d E.eng);rw[hR];obtain⟨o0,hoo⟩:=Zgn (d.out.length);rw[hoo]at ho;refine bL func53 rfl ntmps53 rfl hi ?_;refine Z_2 ?_;refine ZO fun b7=>?_;refine ZN fun b12=>?_
 refine Z_5 ?_;refine Zy (jA (Zv rfl) (Zv rfl) (by omega) hpq) ?_;refine Zy (cu rfl rfl Zv0 Zl) ?_;refine Z_6 ?_;refine kQ (row b7 (s.cells (.slice X.Ad s.d.length X.cd) (.slice X.Ar s.r.length X.cr)) 38::row b12 (St.zero.cells (.slice none 0 0) (.slice none 0 0)) 38::egF be bu bb L D s X Y U d E) Zj ?_;refine Z_5 ?_;refine cJ (fun q:Nat×St×iv×Nat×j0×Mmu×Dev×EnX=>[(0,.pointer (some ⟨be,0,none⟩)),(2,.int .u32 (q.2.2.2.1:Int)),(4,.pointer (some ⟨bu,0,none⟩)),(5,.pointer (some ⟨D.bs,0,none⟩)),(7,.pointer (some ⟨b7,0,none⟩)),(12,.pointer (some ⟨b12,0,none⟩)),(13,.int .i64 (pg:Int)),(22,.int .i64 (IE:Int)),(23,.int .i64 (q.1:Int))]) (fun q=>row b7 (q.2.1.cells (.slice q.2.2.1.Ad q.2.1.d.length q.2.2.1.cd) (.slice q.2.2.1.Ar q.2.1.r.length q.2.2.1.cr)) 38::row b12 (St.zero.cells (.slice none 0 0) (.slice none 0 0)) 38::egF be bu bb L D q.2.1 q.2.2.1 q.2.2.2.2.1 q.2.2.2.2.2.1 q.2.2.2.2.2.2.1 q.2.2.2.2.2.2.2) (fun q=>q.1≤IE∧q.2.2.2.1≤4294967295∧GOk L.n q.2.1 q.2.2.2.2.2.1 q.2.2.2.2.2.2.1∧q.2.2.2.2.2.2.1.out.length≤o0+q.1∧mS q.2.2.2.2.2.2.2∧jd L.n pg (IE - q.1) q.2.1 q.2.2.2.1 q.2.2.2.2.2.1 q.2.2.2.2.2.2.1 q.2.2.2.2.2.2.2.eng=((s9,U9,d9),G9)) (fun q=>IE - q.1) (⟨0,s,X,p,Y,U,d,E⟩) ?_ ?_ ?_ ?_
 ·exact⟨aw _,hp,hG,by show d.out.length≤o0+0;omega,hE,hR⟩
 ·exact Zwk
 ·exact Zu
 rintro⟨j,s,X,p,Y,U,d,E⟩ ⟨hj,hp,hG,ho1,hE,hRj⟩;dsimp only at hj hp hG ho1 hE hRj⊢;refine Z_6 ?_;refine ZW ?_ ?_<;>intro hc3
 ·simp only[ap]at hc3;obtain⟨k,hk⟩:∃k,IE - j=k+1:=⟨IE - j - 1,by omega⟩;rw[hk]at hRj;have HF:=zx bu bb L U.m p hp;have hrn:=fun(op nn:Int) (z:Nat) h=>lb (n:=L.n) (M:=U.m) (p:=p) (op:=op) (nn:=nn) (z:=z) hG.u.m h
  have hN:=AH (n:=L.n) (Iy:=pg) (k:=k) (s:=s) (p:=p) (U:=U) (d:=d) (E:=E.eng);have hS:=fun(op nn:Int) (z:Nat) (q:Res) (U1:Mmu) (d1:Dev) h hq=>AG (n:=L.n) (Iy:=pg) (k:=k) (s:=s) (p:=p) (U:=U) (d:=d) (E:=E.eng) (op:=op) (nn:=nn) (z:=z) (q:=q) (U1:=U1) (d1:=d1) h hq
  obtain⟨o,hfo⟩:=Zgn (ft L.n U.m p);rw[hfo]at HF hN hS;rw[hfo]at hrn;obtain⟨hd16,hr16, -⟩:=St.fits hG.right;have hE1:=hE.slowed 1;refine eK ?_;refine Zy (cF Zv0 Zv0 rfl) ?_;refine Z_2 ?_;refine ZL ?_;refine Z_6 ?_;refine ZSe (fun w hi=>HF w (hi.get (show Has _ (B3 bu L.bm bb)from Zh)) (hi.get (show Has _ (eH L U.m)from Zh))) ?_;refine Z_4 ?_;refine ZN fun b14=>?_
  refine ZM ?_;refine eo ?_;refine ZW ?_ ?_<;>intro hc6
  ·obtain rfl:o=none:=(by cases o with|none=>rfl|some o=>cases hc6);rw[hN rfl,aX,aX,aX]at hRj;obtain⟨⟨rfl,rfl,rfl⟩,hG9⟩:=hRj;refine Z_4 ?_;refine Zy (cF Zv0 Zv0 rfl) ?_;refine Z_1 ?_;refine ZL ?_;refine Z_5 ?_;refine ZS (fun w hi=>oO s.next X.Ad X.Ar X.cd X.cr 1 0 w (hi.Jh (show Has _ (slD s X.Ad X.cd)from Zh) (show Has _ (slR s X.Ar X.cr)from Zh) (show s.d.length*4≤_ by omega) (show s.r.length*4≤_ by omega))) ?_;rintro _ _ ⟨_,⟨A3,c3,A4,c4,rfl,rfl⟩,rfl⟩;refine ZM ?_;refine Z_9 ?_;refine bQ (row b12 ((s.next.Iv 1 0).cells (.slice A3 s.d.length c3) (.slice A4 s.r.length c4)) 38::egF be bu bb L D (s.next.Iv 1 0) ⟨A3,c3,A4,c4⟩ Y U d (E.Jg 1)) Zj ?_;refine kk (cs':=(egF be bu bb L D (s.next.Iv 1 0) ⟨A3,c3,A4,c4⟩ Y U d (E.Jg 1))) (.inl rfl) Zu rfl rfl Zh Zrf Zrf ?_;exact⟨⟨A3,c3,A4,c4⟩,Y,E.Jg 1,hE1,hG9,rfl,rfl⟩
  obtain⟨⟨⟨op,nn⟩,z⟩,rfl⟩:∃q,o=some q:=(by cases o with|none=>cases hc6|some o=>exact⟨o,rfl⟩);obtain⟨hnn,hz1,hz5, -⟩:=hrn op nn z rfl;have HD:=do_ok bu bb L D Y s X.Ad X.Ar X.cd X.cr op nn U d hG.wf hnn hG.u.t hG.dv.wf (by omega);have hg:=sc (op:=op) (nn:=nn) hG.wf hG.right hnn hG.u hG.dv;have hl:=qG (n:=L.n) (op:=op) (nn:=nn) (s:=s) (U:=U) hG.lines;obtain⟨⟨q,U1,d1⟩,hq⟩:=Zgn (vd L.n s op nn U d);rw[hS op nn z q U1 d1 rfl hq]at hRj;rw[hq]at HD hg hl;obtain⟨g1,g2,g3,g4,g5,g6⟩:=hg;dsimp only at g1 g2 g3 g4 g5 g6 hl;have HX:=fun X1 Ap cp w h=>CY op nn q X1 Ap cp pg s.pc g1.pc hG.wf.pc w h
  obtain⟨nx,hnx⟩:=Zgn (kC op q pg s.pc);rw[hnx]at HX hRj;refine Z_8 ?_;refine ZcL (ubF bu bb L D Y U d) (fun w hi hin=>HD w hin (fun w' hk=>hi.I0 Zi (show Has _ (slD s X.Ad X.cd)from Zh) (show Has _ (slR s X.Ar X.cr)from Zh) (by omega) (by omega) hk)) ?_;rintro _ _ ⟨_,⟨X1,Y1,Ap,cp,rfl,rfl⟩,rfl⟩;refine ZN fun b17=>?_
  refine ZM ?_;refine Z_7 ?_;refine ZcL (enP be (E.Jg 1) Ap cp q.Ig) (fun w hi hin=>tT be (E.Jg 1) hE1 Ap cp q.Ig w hin) ?_;rintro _ _ ⟨_,⟨E2,rfl,hE2,hEe⟩,rfl⟩;rw[show lD {E.eng with IA:=IntKind.i64.wrap (E.eng.IA+1)} q.Ig=E2.eng from hEe.symm]at hRj;refine gK ?_;refine dU (cC (vs:=q.s.cells (.slice X1.Ad q.s.d.length X1.cd) (.slice X1.Ar q.s.r.length X1.cr)) Zrf Zrf Zv0) (cL Zh rfl) rfl ?_;refine ZM ?_;refine Z_6 ?_;refine Zy (cu rfl rfl (Zv rfl) (u32_wrap_id _ (by show 0≤(z:Int);omega) (by show(z:Int)<4294967296;omega))) ?_;refine Zy (cF (Zv rfl) (Zv rfl) (show _=(((p+z)%4294967296:Nat):Int)from by show IntKind.u32.wrap ((p:Int)+(z:Int))=_;rw[aE];omega)) ?_;refine Z_9 ?_;refine ZSe (fun w hi=>HX X1 Ap cp w (hi.rd (show Has _ (sl .i64 3 Ap q.Ig.length cp q.Ig)from Zh))) ?_;refine Z_3 ?_;refine ZW ?_ ?_<;>intro hc14
  ·obtain rfl:nx=false:=(by cases nx with|false=>rfl|true=>cases hc14);rw[aa,aX,aX,aX]at hRj;obtain⟨⟨rfl,rfl,rfl⟩,hG9⟩:=hRj;refine Z_9 ?_;refine ZM ?_;refine Z_3 ?_;refine bQ (row b12 (q.s.cells (.slice X1.Ad q.s.d.length X1.cd) (.slice X1.Ar q.s.r.length X1.cr)) 38::egF be bu bb L D q.s X1 Y1 U1 d1 E2) Zj ?_;refine kk (cs':=(egF be bu bb L D q.s X1 Y1 U1 d1 E2)) (.inl rfl) Zu rfl rfl Zh Zrf Zrf ?_;exact⟨X1,Y1,E2,hE2,hG9,rfl,rfl⟩
  obtain rfl:nx=true:=(by cases nx with|true=>rfl|false=>cases hc14);rw[ac]at hRj;refine Z_4 ?_;refine Zy (cF Zv0 Zv0 Zl) ?_;refine Z_2 ?_;refine cz ((⟨j+1,q.s,X1,(p+z)%4294967296,Y1,U1,d1,E2⟩:Nat×St×iv×Nat×j0×Mmu×Dev×EnX)) ?_ ?_ ?_
  ·exact⟨⟨show j+1≤IE by omega,by show(p+z)%4294967296≤4294967295;omega,⟨g1,g2,g4,g5,hl⟩,by show d1.out.length≤o0+(j+1);omega,hE2,by show jd L.n pg (IE - (j+1)) q.s _ U1 d1 E2.eng=_;rw[show IE - (j+1)=k by omega];exact hRj⟩,show IE - (j+1)<IE - j by omega⟩
  ·exact Zwk
  exact Zj
 simp only[aj]at hc3;rw[show IE - j=0 by omega]at hRj;simp only[jd,aX]at hRj;obtain⟨⟨rfl,rfl,rfl⟩,hG9⟩:=hRj;refine Z_8 ?_;refine ZM ?_;refine Z_3 ?_;refine bQ (row b12 (s.cells (.slice X.Ad s.d.length X.cd) (.slice X.Ar s.r.length X.cr)) 38::egF be bu bb L D s X Y U d E) Zj ?_;refine kk (cs':=(egF be bu bb L D s X Y U d E)) (.inl rfl) Zu rfl rfl Zh Zrf Zrf ?_;exact⟨X,Y,E,hE,hG9,rfl,rfl⟩
end Go.Proofs.YtomjgmbccamgiaaGreatDoor
namespace Go.Ink
open Go.RowKit
section
variable {n:Nat} {s s1 o:St} {U U1:Mmu} {d d1:Dev} {E G:Eng} {r:Rn} {c:Int}
theorem doE_no{pl:Int}(h:JE n s U d=⟨s1,pl,false,U1,d1⟩):doE n s U d E=((s1,U1,d1),{E with IA:=IntKind.i64.wrap (E.IA+IntKind.i64.wrap (IntKind.u64.wrap (s1.count - s.count)))}):=by
 unfold doE;rw[h]
 rfl
theorem GV{pl:Nat}(h:JE n s U d=⟨s1,(pl:Int),true,U1,d1⟩)(ht:ja E s1 (pl:Int) (ip U1.m pl)=(none,G)):doE n s U d E=jd n (pl/64) 8 s1 pl U1 d1 G:=by
 unfold doE;rw[h];simp only[ac,aS];rw[ht]
theorem doE_out{pl:Nat}(h:JE n s U d=⟨s1,(pl:Int),true,U1,d1⟩)(ht:ja E s1 (pl:Int) (ip U1.m pl)=(some (o,r,c),G))(hc:((r.ends&&decide (0<c))||o.pc/64 !=s1.pc/64)=true):doE n s U d E=((o,⟨U1.m.calm,U1.t⟩,d1),G):=by
 unfold doE;rw[h];simp only[ac,aS];rw[ht];dsimp only;rw[hc,ac]
theorem doE_on{pl:Nat}{m:Nat}(h:JE n s U d=⟨s1,(pl:Int),true,U1,d1⟩)(ht:ja E s1 (pl:Int) (ip U1.m pl)=(some (o,r,c),G))(hm:c=(m:Int))(hc:((r.ends&&decide (0<c))||o.pc/64 !=s1.pc/64)=false):doE n s U d E=jd n ((pl+r.bytes.length)%4294967296/64) (8 - m) o ((pl+r.bytes.length)%4294967296) ⟨U1.m.calm,U1.t⟩ d1 G:=by
 unfold doE;rw[h];simp only[ac,aS];rw[ht];dsimp only;rw[hc,aa,show(8 - c).toNat=8 - m by omega]
theorem Aq{p:Nat}(h:GOk n s U d)(hE:gJ E)(ht:ja E s (p:Int) (ip U.m p)=(some (o,r,c),G)):GOk n o ⟨U.m.calm,U.t⟩ d∧∃m:Nat,c=(m:Int)∧1≤m∧m≤8:=by
 have hbb:=ry h.u.m p;obtain⟨f1,f2,f3,f4,f5⟩:=ov hE (k:=(s.pc,(p:Int))) hbb;unfold ja at ht;obtain⟨⟨q,E1⟩,hf⟩:=Zgn (kr E (s.pc,(p:Int)) (ip U.m p));rw[hf]at f5 ht;dsimp only at f5;cases q with
 |none=>cases ht
 |some tr=>
  obtain⟨t,r⟩:=tr;dsimp only at ht;cases hdone:(ij t.code s).2==1 with
  |false=>rw[hdone]at ht;cases ht
  |true=>
   rw[hdone,ac]at ht;simp only[aX,aU]at ht;obtain⟨⟨h1,h2,h3⟩, -⟩:=ht;obtain⟨p',il,g1,g2,g3,g4,g5,g6,g7⟩:=f5 t r rfl;obtain⟨M,hM,hout⟩:=yX hdone;rw[g3]at hM;obtain⟨k1,k2,k3,k4,k5,k6, -, -, -⟩:=yK h.u h.dv h.wf h.right g6 g1 g2 hM;rw[hout]at h1;subst h1;exact⟨⟨k2,k3,⟨h.u.m.calm,h.u.t⟩,h.dv,h.lines⟩,il.length,by rw[←h3,g4],k5,k6⟩
end
end Go.Ink
namespace Go.Proofs.YtomjgmbccamgiaaGreatDoor
open Go.RowKit Go.Ink Go.Proofs.Tryz
attribute [local irreducible] OpY bW
abbrev eoF(be bu bb:Nat)(L:gQ)(D:p6)(Y:j0)(U:Mmu)(d:Dev)(E:EnX):List bJ:=ubF bu bb L D Y U d++enF be E
theorem H7(be bu bb:Nat)(L:gQ)(D:p6)(Y:j0)(s:St)(Ad Ar:Option Addr)(cd cr:Nat)(U:Mmu)(d:Dev)(hG:GOk L.n s U d)(ho:d.out.length+8≤1000000000)(E:EnX)(hE:mS E)(w:World)(hi:Inv w (bK (eoF be bu bb L D Y U d E)) (eoF be bu bb L D Y U d E) w)
  (h:∀w',dQ (bK (eoF be bu bb L D Y U d E)) w w'→mR w' s Ad Ar cd cr) (ht:∀w',dQ (bK (eoF be bu bb L D Y U d E)) w w'→lv w'):
  Ctr prog 22 [.pointer (some ⟨be,0,none⟩),sv s Ad cd Ar cr,.pointer (some ⟨bu,0,none⟩),.pointer (some ⟨D.bs,0,none⟩)] w (eoF be bu bb L D Y U d E)
   (fun v cs=>∃X' Y' E',mS E'∧E'.eng=(doE L.n s U d E.eng).2∧v=sv (doE L.n s U d E.eng).1.1 X'.Ad X'.cd X'.Ar X'.cr∧cs=egF be bu bb L D (doE L.n s U d E.eng).1.1 X' Y' (doE L.n s U d E.eng).1.2.1 (doE L.n s U d E.eng).1.2.2 E'):=by
 have hq:∀x:Int,u32 x→IntKind.u32.wrap (x.tdiv 64)=x/64:=fun x hx=>by obtain⟨h1,h2⟩:=hx;rw[bn h1,u32_wrap_id _ (by omega) (by omega)]
 have HB:=zP bu bb L D Y s hG.wf Ad Ar cd cr U hG.u.t d (oP hG.lines _);have hb:=mQ hG;have hbp:=sB hG;have hN:=fun s1 U1 d1 pl h=>doE_no (n:=L.n) (s:=s) (s1:=s1) (U:=U) (U1:=U1) (d:=d) (d1:=d1) (pl:=pl) (E:=E.eng) h
 have hY1:=fun s1 U1 d1 (pl:Nat) G h ht=>GV (n:=L.n) (s:=s) (s1:=s1) (U:=U) (U1:=U1) (d:=d) (d1:=d1) (pl:=pl) (E:=E.eng) (G:=G) h ht
 have hY2:=fun s1 U1 d1 (pl:Nat) o r c G h ht hc=>doE_out (n:=L.n) (s:=s) (s1:=s1) (o:=o) (U:=U) (U1:=U1) (d:=d) (d1:=d1) (pl:=pl) (E:=E.eng) (G:=G) (r:=r) (c:=c) h ht hc
 have hY3:=fun s1 U1 d1 (pl:Nat) o r c G (m:Nat) h ht hm hc=>doE_on (n:=L.n) (s:=s) (s1:=s1) (o:=o) (U:=U) (U1:=U1) (d:=d) (d1:=d1) (pl:=pl) (E:=E.eng) (G:=G) (r:=r) (c:=c) (m:=m) h ht hm hc
 obtain⟨⟨s1,pl,rn,U1,d1⟩,hbe⟩:=Zgn (JE L.n s U d);rw[hbe]at HB hb hbp hN hY1 hY2 hY3;obtain⟨hg1,hpl,hout, -, -, -⟩:=hb;dsimp only at hg1 hpl hout hbp;obtain⟨pl,rfl⟩:∃m:Nat,pl=m:=ar hpl.1;have hpl2:=hpl.2;obtain⟨⟨⟨s9,U9,d9⟩,G9⟩,hR⟩:=Zgn (doE L.n s U d E.eng);rw[hR]at hN hY1 hY2 hY3⊢;refine bL func22 rfl ntmps22 rfl hi ?_;refine Z_2 ?_;refine ZO fun b5=>?_;refine ZN fun b8=>?_
 refine Z_7 ?_;refine ZcL (ubF bu bb L D Y U d) (fun w hi hin=>HB w hin (fun w' hk=>h w' (hi.past (fun c hc=>by simp only[eoF,enF,ubF,uF,mO,aV,aM,a9]at hc⊢;grind) hk)) (fun w' hk=>ht w' (hi.past (fun c hc=>by simp only[eoF,enF,ubF,uF,mO,aV,aM,a9]at hc⊢;grind) hk))) ?_;rintro _ _ ⟨_,⟨X1,rfl,rfl⟩,rfl⟩;refine ZN fun b9=>?_
 refine ZM ?_;refine eK ?_;refine ZW ?_ ?_<;>intro hc2
 ·obtain rfl:rn=false:=(by cases rn with|false=>rfl|true=>cases hc2);have e:=hN s1 U1 d1 pl rfl;rw[aX,aX,aX]at e;obtain⟨⟨rfl,rfl,rfl⟩,hG9⟩:=e;refine Zs (cj ⟨fun j=>List.elem j [14],[]⟩ Zk ?_);refine ZE 0 ?_;refine ZE 1 ?_;refine ZFe 2 5 ?_;refine ZG 3 ?_;refine ZFe 4 0 ?_;refine ZFe 5 14 ?_;refine ZG 6 ?_;refine ZFe 7 14 ?_;refine ZG 8 ?_;refine cR 9 rfl Zk Zk Zk (eP Zv0 Zv0 rfl) rfl ?_;refine cR 10 rfl Zk Zk Zk (cu rfl rfl Zv0 rfl) rfl ?_;refine cR 11 rfl Zk Zk Zk (cF Zv0 Zv0 rfl) rfl ?_;refine ZE 12 ?_;refine ZFe 13 5 ?_;refine cE 14 Zk ?_;refine ZQ ?_;refine bO Zk ?_;refine Z_4 ?_;refine dU (cC (vs:=s9.cells (.slice X1.Ad s9.d.length X1.cd) (.slice X1.Ar s9.r.length X1.cr)) Zrf Zrf Zv0) (cL Zh rfl) rfl ?_;refine ZM ?_;refine Z_4 ?_;refine bQ (row b8 (s9.cells (.slice X1.Ad s9.d.length X1.cd) (.slice X1.Ar s9.r.length X1.cr)) 38::egF be bu bb L D s9 X1 Y U9 d9 (E.Jg (IntKind.i64.wrap (IntKind.u64.wrap (s9.count - s.count))))) Zj ?_;refine kk (cs':=(egF be bu bb L D s9 X1 Y U9 d9 (E.Jg (IntKind.i64.wrap (IntKind.u64.wrap (s9.count - s.count)))))) (.inl rfl) Zu rfl rfl Zh Zrf Zrf ?_;exact⟨X1,Y,_,hE.slowed _,hG9.symm,rfl,rfl⟩
 obtain rfl:rn=true:=(by cases rn with|true=>rfl|false=>cases hc2);have hpn:pl/64<L.n:=(by have:=(hbp rfl).2;omega);have HT:=fun X w hi=>D9 be bu bb L E hE s1 X pl (by omega) hpn U1 hg1.wf hg1.right hg1.u.m w hi
 have hTg:=fun o r c G h=>Aq (o:=o) (r:=r) (c:=c) (G:=G) (p:=pl) hg1 hE.eg h
 have hY1:=hY1 s1 U1 d1 pl;have hY2:=hY2 s1 U1 d1 pl;have hY3:=hY3 s1 U1 d1 pl;obtain⟨⟨o,G⟩,hTe⟩:=Zgn (ja E.eng s1 (pl:Int) (ip U1.m pl));rw[hTe]at HT hY1 hY2 hY3 hTg;refine Z_3 ?_;rcases o with _|⟨o,r,k⟩
 ·have hZ:=hY1 G rfl rfl;refine Z_3 ?_;refine dU (cC (vs:=s1.cells (.slice X1.Ad s1.d.length X1.cd) (.slice X1.Ar s1.r.length X1.cr)) Zrf Zrf Zv0) (cL Zh rfl) rfl ?_;refine Z_3 ?_;refine ZcL (tF bu bb L s1 X1 U1 be E) (fun w hi hin=>HT X1 w hin) ?_;rintro _ _ ⟨_,⟨E2,hE2,hEe,X2,x,rfl,rfl⟩,rfl⟩;refine Z_4 ?_;refine ZN fun b10=>?_
  refine ZN fun b11=>?_
  refine ZM ?_;refine dz (cq Zrf rfl rfl (fW x) Za (by exact rfl)) ?_;rintro _ _ ⟨rfl,rfl⟩;refine qp ?_;refine Zyn rfl rfl (jA (dc rfl) (Zv rfl) (by omega) (hq _ hg1.wf.pc)) ?_;refine Z_3 ?_;refine Zyn rfl rfl (jA (dc rfl) (Zv rfl) (by omega) (hq _ hg1.wf.pc)) ?_;refine Z_4 ?_;refine ZW ?_ ?_<;>intro hc6
  ·(have h9:((x.r.ends&&decide ((0:Int)<0))||(s1.pc/64 !=s1.pc/64))=true:=hc6;simp at h9)
  refine Z_3 ?_;refine eM ⟨fun j=>List.elem j [13,14],[]⟩ [(0,0),(1,1),(2,0),(3,4),(4,4),(5,0),(9,0),(10,0),(11,0),(12,0),(6,2),(7,0),(8,0),(13,2),(14,2)] Zk Zk ?_;refine bU rfl (cy Zv0) rfl ?_;refine fJ rfl (cC (vs:=s1.cells (.slice X2.Ad s1.d.length X2.cd) (.slice X2.Ar s1.r.length X2.cr)) Zrf Zrf Zv0) (cL Zh rfl) rfl ?_;refine bU rfl (cA 16 rfl Zv0 Zf) rfl ?_;refine iL rfl (bM Zrf Zv0) (bR Zh rfl) rfl ?_;refine iL rfl (cC (vs:=x.cells) Zrf Zrf Zv0) (cL Zh rfl) rfl ?_;refine bU rfl (cy Zv0) rfl ?_;refine bU rfl (cy Zv0) rfl ?_;refine bU rfl (eP (Zv rfl) (Zv rfl) (show _=((8:Nat):Int)from rfl)) rfl ?_;refine bU rfl (cy Zv0) rfl ?_;refine bU rfl (cy Zv0) rfl ?_;refine et rfl ?_;refine fa rfl rfl (eG rfl (fun _ _=>rfl) (fun w hi=>zC x 0 w)) ZJ rfl ?_;rintro _ _ ⟨_,⟨rfl,rfl⟩,rfl⟩;rw[ay];refine bU rfl (cu rfl rfl Zv0 rfl) rfl ?_;refine bU rfl (cF (Zv rfl) (Zv rfl) (show _=(pl:Int)from by show IntKind.u32.wrap ((pl:Int)+0)=_;rw[aE];omega)) rfl ?_;refine et rfl ?_;have HRs:=fun w hi=>zD be bu bb L D Y s1 X2 pl (by omega) 8 (by decide) U1 d1 hg1 (by rw[hout];exact ho) E2 hE2 w hi
  rw[hEe,←hZ]at HRs;refine ZcS (egF be bu bb L D s1 X2 Y U1 d1 E2) (fun w hi hin=>HRs w hin) ?_;rintro _ _ ⟨_,⟨X3,Y3,E3,hE3,hEe3,rfl,rfl⟩,rfl⟩;refine et rfl ?_;refine dN rfl rfl (cq Zrf rfl rfl (iK rfl) Za (by exact rfl)) ZJ ?_;rintro _ _ ⟨rfl,rfl⟩;refine dA ?_;refine Z_2 ?_;refine bQ (row b8 (s9.cells (.slice X3.Ad s9.d.length X3.cd) (.slice X3.Ar s9.r.length X3.cr)) 38::egF be bu bb L D s9 X3 Y3 U9 d9 E3) Zj ?_;refine kk (cs':=(egF be bu bb L D s9 X3 Y3 U9 d9 E3)) (.inl rfl) Zu rfl rfl Zh Zrf Zrf ?_;exact⟨X3,Y3,E3,hE3,hEe3,rfl,rfl⟩
 obtain⟨hg2,m,rfl,hm1,hm8⟩:=hTg o r k G rfl;refine Z_3 ?_;refine dU (cC (vs:=s1.cells (.slice X1.Ad s1.d.length X1.cd) (.slice X1.Ar s1.r.length X1.cr)) Zrf Zrf Zv0) (cL Zh rfl) rfl ?_;refine Z_3 ?_;refine ZcL (tF bu bb L s1 X1 U1 be E) (fun w hi hin=>HT X1 w hin) ?_;rintro _ _ ⟨_,⟨E2,hE2,hEe,X2,x,rfl,rfl,rfl⟩,rfl⟩;refine Z_4 ?_;refine ZN fun b10=>?_
 refine ZN fun b11=>?_
 refine ZM ?_;refine dz (cq Zrf rfl rfl (fW x) Za (by exact rfl)) ?_;rintro _ _ ⟨rfl,rfl⟩;refine qp ?_;refine Zyn rfl rfl (jA (dc rfl) (Zv rfl) (by omega) (hq _ hg2.wf.pc)) ?_;refine Z_3 ?_;refine Zyn rfl rfl (jA (dc rfl) (Zv rfl) (by omega) (hq _ hg1.wf.pc)) ?_;refine Z_4 ?_;refine ZW ?_ ?_<;>intro hc6
 ·have hZ:=hY2 o x.r (m:Int) G rfl rfl hc6;simp only[aX]at hZ;obtain⟨⟨rfl,rfl,rfl⟩,hG9⟩:=hZ;refine Z_3 ?_;refine ZM ?_;refine Z_4 ?_;refine bQ (row b8 (s9.cells (.slice X2.Ad s9.d.length X2.cd) (.slice X2.Ar s9.r.length X2.cr)) 38::egF be bu bb L D s9 X2 Y ⟨U1.m.calm,U1.t⟩ d9 E2) Zj ?_;refine kk (cs':=(egF be bu bb L D s9 X2 Y ⟨U1.m.calm,U1.t⟩ d9 E2)) (.inl rfl) Zu rfl rfl Zh Zrf Zrf ?_;exact⟨X2,Y,E2,hE2,hEe.trans hG9.symm,rfl,rfl⟩
 have hZ:=hY3 o x.r (m:Int) G m rfl rfl rfl hc6;refine Z_3 ?_;refine eM ⟨fun j=>List.elem j [13,14],[]⟩ [(0,0),(1,1),(2,0),(3,4),(4,4),(5,0),(9,0),(10,0),(11,0),(12,0),(6,2),(7,0),(8,0),(13,2),(14,2)] Zk Zk ?_;refine bU rfl (cy Zv0) rfl ?_;refine fJ rfl (cC (vs:=o.cells (.slice X2.Ad o.d.length X2.cd) (.slice X2.Ar o.r.length X2.cr)) Zrf Zrf Zv0) (cL Zh rfl) rfl ?_;refine bU rfl (cA 16 rfl Zv0 Zf) rfl ?_;refine iL rfl (bM Zrf Zv0) (bR Zh rfl) rfl ?_;refine iL rfl (cC (vs:=x.cells) Zrf Zrf Zv0) (cL Zh rfl) rfl ?_;refine bU rfl (cy Zv0) rfl ?_;refine bU rfl (cy Zv0) rfl ?_;refine bU rfl (eP (Zv rfl) (Zv rfl) (show _=((8 - m:Nat):Int)from by rw[IntWalk.i64_in _ ⟨by omega,by omega⟩];omega)) rfl ?_;refine bU rfl (cy Zv0) rfl ?_;refine bU rfl (cy Zv0) rfl ?_;refine et rfl ?_;refine fa rfl rfl (eG rfl (fun _ _=>rfl) (fun w hi=>zC x (m:Int) w)) ZJ rfl ?_;rintro _ _ ⟨_,⟨rfl,rfl⟩,rfl⟩;rw[show((m:Int)==0)=false from beq_eq_false_iff_ne.2 (by omega),aa,ay];refine bU rfl (cu rfl rfl Zv0 rfl) rfl ?_;refine bU rfl (cF (Zv rfl) (Zv rfl) (show _=(((pl+x.r.bytes.length)%4294967296:Nat):Int)from by show IntKind.u32.wrap ((pl:Int)+IntKind.u32.wrap (x.r.bytes.length:Int))=_;simp only[aE];omega)) rfl ?_;refine et rfl ?_;have HRs:=fun w hi=>zD be bu bb L D Y o X2 ((pl+x.r.bytes.length)%4294967296) (by omega) (8 - m) (by omega) ⟨U1.m.calm,U1.t⟩ d1 hg2 (by rw[hout];omega) E2 hE2 w hi
 rw[hEe,←hZ]at HRs;refine ZcS (egF be bu bb L D o X2 Y ⟨U1.m.calm,U1.t⟩ d1 E2) (fun w hi hin=>HRs w hin) ?_;rintro _ _ ⟨_,⟨X3,Y3,E3,hE3,hEe3,rfl,rfl⟩,rfl⟩;refine et rfl ?_;refine dN rfl rfl (cq Zrf rfl rfl (iK rfl) Za (by exact rfl)) ZJ ?_;rintro _ _ ⟨rfl,rfl⟩;refine dA ?_;refine Z_2 ?_;refine bQ (row b8 (s9.cells (.slice X3.Ad s9.d.length X3.cd) (.slice X3.Ar s9.r.length X3.cr)) 38::egF be bu bb L D s9 X3 Y3 U9 d9 E3) Zj ?_;refine kk (cs':=(egF be bu bb L D s9 X3 Y3 U9 d9 E3)) (.inl rfl) Zu rfl rfl Zh Zrf Zrf ?_;exact⟨X3,Y3,E3,hE3,hEe3,rfl,rfl⟩
theorem oz(be bu bb:Nat)(L:gQ)(hn:L.n≤1000000)(D:p6)(Y:j0)(s:St)(Ad Ar:Option Addr)(cd cr:Nat)(U:Mmu)(d:Dev)(hG:GOk L.n s U d)(m:Int)(hm0: -1000000≤m)(hm:m≤1000000)(ho:d.out.length+8*m.toNat+8≤1000000000)(E:EnX)(hE:mS E)(w:World)(hi:Inv w (bK (eoF be bu bb L D Y U d E)) (eoF be bu bb L D Y U d E) w)
  (h:∀w',dQ (bK (eoF be bu bb L D Y U d E)) w w'→mR w' s Ad Ar cd cr) (ht:∀w',dQ (bK (eoF be bu bb L D Y U d E)) w w'→lv w'):
  Ctr prog 10 [.pointer (some ⟨be,0,none⟩),sv s Ad cd Ar cr,.pointer (some ⟨bu,0,none⟩),.pointer (some ⟨D.bs,0,none⟩),.int .i64 m] w (eoF be bu bb L D Y U d E)
   (fun v cs=>∃X' Y' E',mS E'∧E'.eng=(xh L.n m s U d E.eng).2∧v=sv (xh L.n m s U d E.eng).1.1 X'.Ad X'.cd X'.Ar X'.cr∧cs=egF be bu bb L D (xh L.n m s U d E.eng).1.1 X' Y' (xh L.n m s U d E.eng).1.2.1 (xh L.n m s U d E.eng).1.2.2 E'):=by
 have HR2:=mC s;rw[hG.right]at HR2;obtain⟨hd16,hr16, -⟩:=St.fits hG.right;obtain⟨⟨⟨s9,U9,d9⟩,G9⟩,hR⟩:=Zgn (xh L.n m s U d E.eng);rw[hR];have hR0:kA L.n m s.count (m.toNat - 0) ((s,U,d),E.eng)=((s9,U9,d9),G9):=hR;have hk0:By L.n m s.count d.out.length 0 (s,U,d):=⟨hG,aQ _,0,by show IntKind.u64.wrap (s.count - s.count)=0;rw[Int.sub_self];rfl,aQ _,aQ _,by cases hd:decide (0<m)with|false=>(show(0:Int)<0+8;omega)|true=>(simp only[ap]at hd;show(0:Int)<m+8;omega)⟩;obtain⟨from_,hfr⟩:=Zgn (s.count);obtain⟨o0,hoo⟩:=Zgn (d.out.length);rw[hfr]at hR0 hk0;rw[hoo]at ho hk0;refine bL func10 rfl ntmps10 rfl hi ?_;refine Z_2 ?_;refine ZO fun b6=>?_;refine ZN fun b10=>?_
 refine Z_5 ?_;refine ZS (fun w hi=>jp s Ad Ar cd cr w (h w hi.IG)) ?_;rintro _ _ ⟨_,⟨A1,c1,A2,c2,rfl,rfl⟩,rfl⟩;refine ZM ?_;refine Z_6 ?_;refine ZSe (fun w hi=>HR2 A1 A2 c1 c2 w) ?_;refine eo ?_;refine bY rfl (rfl) ?_;refine Z_4 ?_;refine kQ (row b6 (s.cells (.slice A1 s.d.length c1) (.slice A2 s.r.length c2)) 38::row b10 (St.zero.cells (.slice none 0 0) (.slice none 0 0)) 38::egF be bu bb L D s ⟨A1,c1,A2,c2⟩ Y U d E) Zj ?_;refine Z_7 ?_;refine cJ (fun q:Nat×St×iv×j0×Mmu×Dev×EnX=>[(0,.pointer (some ⟨be,0,none⟩)),(2,.pointer (some ⟨bu,0,none⟩)),(3,.pointer (some ⟨D.bs,0,none⟩)),(4,.int .i64 m),(6,.pointer (some ⟨b6,0,none⟩)),(10,.pointer (some ⟨b10,0,none⟩)),(11,.int .u64 from_)]) (fun q=>row b6 (q.2.1.cells (.slice q.2.2.1.Ad q.2.1.d.length q.2.2.1.cd) (.slice q.2.2.1.Ar q.2.1.r.length q.2.2.1.cr)) 38::row b10 (St.zero.cells (.slice none 0 0) (.slice none 0 0)) 38::egF be bu bb L D q.2.1 q.2.2.1 q.2.2.2.1 q.2.2.2.2.1 q.2.2.2.2.2.1 q.2.2.2.2.2.2) (fun q=>By L.n m from_ o0 q.1 (q.2.1,q.2.2.2.2.1,q.2.2.2.2.2.1)∧q.1≤m.toNat∧mS q.2.2.2.2.2.2∧kA L.n m from_ (m.toNat - q.1) ((q.2.1,q.2.2.2.2.1,q.2.2.2.2.2.1),q.2.2.2.2.2.2.eng)=((s9,U9,d9),G9)) (fun q=>m.toNat - q.1) (⟨0,s,⟨A1,c1,A2,c2⟩,Y,U,d,E⟩) ?_ ?_ ?_ ?_
 ·exact⟨hk0,aw _,hE,hR0⟩
 ·exact Zwk
 ·exact Zu
 rintro⟨i,s,X,Y,U,d,E⟩ ⟨hk,him,hE,hRi⟩;dsimp only at hk him hE hRi⊢;have hrc:gy m from_ s=((decide (0<m)&& !s.halted)&&decide (IntKind.u64.wrap (s.count - from_)<m)):=rfl;refine ic ?_;refine Zyy rfl rfl (eP (dc rfl) (dc rfl) rfl) ?_;refine ZB ?_;refine Zyy rfl rfl (cu rfl rfl (dc rfl) (show _=(bif decide (0<m)then m else IntKind.u64.wrap m)from by cases hd:decide (0<m)with|false=>rfl|true=>(rw[ac,aW];simp only[ap]at hd;omega))) ?_;refine Z_4 ?_;refine ZW ?_ ?_<;>intro hc5
 ·have hc:gy m from_ s=true:=(by rw[hrc];revert hc5;cases decide (0<m)with|false=>(intro h;cases h)|true=>exact fun h=>h);obtain⟨hk2,hilt⟩:=yW hm (by omega) hk hc;obtain⟨k,hkk⟩:∃k,m.toNat - i=k+1:=⟨m.toNat - i - 1,by omega⟩;rw[hkk,vP (q:=((s,U,d),E.eng)) hc]at hRi;obtain⟨hd16,hr16, -⟩:=St.fits hk.g.right;have hok:=hk.out;dsimp only at hok hd16 hr16;have HB:=H7 be bu bb L D Y s X.Ad X.Ar X.cd X.cr U d hk.g (by omega) E hE;obtain⟨hd1, -, -⟩:=El hn hk.g hE.eg;obtain⟨⟨⟨s2,U2,d2⟩,G2⟩,hq⟩:=Zgn (doE L.n s U d E.eng);dsimp only at hRi hk2 hd1;rw[hq]at HB hRi hd1;dsimp only at hd1;rw[←hd1]at hk2;refine Z_8 ?_;refine ZcL (eoF be bu bb L D Y U d E) (fun w hi hin=>HB w hin (fun w' hk=>hi.I0 Zi (show Has _ (slD s X.Ad X.cd)from Zh) (show Has _ (slR s X.Ar X.cr)from Zh) (by omega) (by omega) hk) (fun w' hk=>ht w' (hi.past (fun c hc=>by simp only[egF,eoF,enF,guF,ubF,uF,mO,aV,aM,a9]at hc⊢;grind) hk))) ?_;rintro _ _ ⟨_,⟨X2,Y2,E2,hE2,hEe,rfl,rfl⟩,rfl⟩;refine ZM ?_;refine Z_2 ?_;refine cz ((⟨i+1,s2,X2,Y2,U2,d2,E2⟩:Nat×St×iv×j0×Mmu×Dev×EnX)) ?_ ?_ ?_
  ·exact⟨⟨hk2,show i+1≤m.toNat by omega,hE2,by show kA L.n m from_ (m.toNat - (i+1)) ((s2,U2,d2),E2.eng)=_;rw[show m.toNat - (i+1)=k by omega,hEe];exact hRi⟩,show m.toNat - (i+1)<m.toNat - i by omega⟩
  ·exact Zwk
  exact Zj
 have hc:gy m from_ s=false:=(by rw[hrc];revert hc5;cases decide (0<m)with|false=>exact fun _=>rfl|true=>exact fun h=>h);rw[rc (q:=((s,U,d),E.eng)) hc,aX,aX,aX]at hRi;obtain⟨⟨rfl,rfl,rfl⟩,hG9⟩:=hRi;refine Z_8 ?_;refine ZM ?_;refine Z_3 ?_;refine bQ (row b10 (s.cells (.slice X.Ad s.d.length X.cd) (.slice X.Ar s.r.length X.cr)) 38::egF be bu bb L D s X Y U d E) Zj ?_;refine kk (cs':=(egF be bu bb L D s X Y U d E)) (.inl rfl) Zu rfl rfl Zh Zrf Zrf ?_;exact⟨X,Y,E,hE,hG9,rfl,rfl⟩
end Go.Proofs.YtomjgmbccamgiaaGreatDoor
namespace Go.Ink
open Go.RowKit
section
variable {C:Cx} {fr:Fr} {d:Option Nat} {T:TypeId} {x y:Operand} {ty:TypeId} {pos:String} {af:Array Edge} {gd:Option (Nat×Bool)} {g:Bool}
theorem BJ{n e j sz:Nat}{i:Int}{k:IntKind}{vs ws:List Value}(hT:C.P.underlying T=some (.array n e))(he:∀w,(isAgg e).run C.P w= .ok true w)(hs:∀w,(sizeOf e).run C.P w= .ok sz w)(hx:Ev fr g x (.agg vs.toArray))(hy:Ev fr g y (.int k i))(hi:g=true→i=(j:Int))(hj:g=true→j<n)(hv:g=true→(vs.drop (j*sz)).take sz=ws):
  OpY C ⟨d,.index T x y,ty,pos,af,gd⟩ fr g Any (.agg ws.toArray):=fun A w hf _ hg=>by
 have h1:=hx.eval hf hg;have h2:=hy.eval hf hg;rw[hi hg]at h2;have h3:=hj hg;have h4:=hv hg;have hr:(Instr.index T (.agg vs.toArray) (.int k (j:Int))).run C.P w= .ok (.agg ws.toArray) w:=by
  simp[Instr.index,asIntOf,run_underlying hT,h3,hs,part,he,←h4]
 simp[execOp,h1,h2,hr]
end
def qa(T:List TE)(k:Nat):Nat:=((T.take k).filter (·.valid)).length
theorem Au{T:List TE}{k:Nat}{e:TE}(h:T[k]? =some e):qa T (k+1)=qa T k+(bif e.valid then 1 else 0):=by
 unfold qa;rw[List.take_add_one,h,List.filter_append,ae];cases hv:e.valid<;>simp[hv]
theorem Fm(T:List TE)(k:Nat):qa T k≤k:=by
 unfold qa;exact aY (List.length_filter_le _ _) (by rw[az];omega)
theorem vN{n:Nat}{m f:Int}:∀(k:Nat) {q:St×Mmu×Dev},GOk n q.1 q.2.1 q.2.2→(nQ n m f k q).2.2.out.length≤q.2.2.out.length+8*k
 |0,q,h=>by show q.2.2.out.length≤_;omega
 |k+1,q,h=>by
  cases hc:gy m f q.1 with
  |false=>rw[oV hc];omega
  |true=>
   rw[uu hc];have h1:=vN (m:=m) (f:=f) k (sA h);have h2:(dT n q.1 q.2.1 q.2.2).2.2.out.length≤q.2.2.out.length+8:=by
    rcases mP h with h3|⟨-, -, -,h3⟩
    ·exact h3.out
    rw[h3];omega
   omega
theorem q8{n:Nat}(m:Int){s:St}{U:Mmu}{d:Dev}(h:GOk n s U d):(qd n m s U d).2.2.out.length≤d.out.length+8*m.toNat:=vN m.toNat (q:=(s,U,d)) h
theorem xW{n:Nat}(hn:n≤1000000){room:Int}(hr:1≤room∧room≤1024)(m:Int)(hm:m≤1000){U:Mmu}{d:Dev}(h:GOk n St.new U d){s2:St}{U2:Mmu}{d2:Dev}{G:Eng}(hq:xh n m St.new U d (Eng.fresh room)=((s2,U2,d2),G)):
  qd n m St.new U d=(s2,U2,d2)∧GOk n s2 U2 d2∧G.room=room∧0≤G.IC∧0≤G.IA∧G.IC+G.IA=s2.count∧s2.count≤8000:=by
 obtain⟨r1,r2,r3,c,r4,r5,r6⟩:=xE hn m h (gJ.fresh hr);rw[hq]at r1 r2 r5;dsimp only at r1 r2 r5;rw[←r1]at r3 r6;dsimp only at r3 r6;have hz:(St.new).count=0:=rfl;rw[hz]at r6;obtain⟨u1,u2,u3, -⟩:=r5.IC (bF _) (bF _) (show(0:Int)+0+(c:Int)≤1000000000 by omega);have h6:s2.count=(c:Int):=by rw[r6,aW];omega
 have u3:G.IC+G.IA=0+0+(c:Int):=u3;exact⟨r1.symm,r3,r5.room,u1,u2,by rw[u3,h6];omega,by omega⟩
end Go.Ink
namespace Go.Proofs.YtomjgmbccamgiaaGreatDoor
open Go.RowKit Go.Ink Go.Proofs.Tryz
attribute [local irreducible] OpY bW
abbrev wwL(F:GLoc)(s:St)(X:iv):List Value:=[.pointer (some ⟨F.bu,0,none⟩),.pointer (some ⟨F.D.bs,0,none⟩),.pointer (some ⟨F.L.bm,0,none⟩)]++(s.cells (.slice X.Ad s.d.length X.cd) (.slice X.Ar s.r.length X.cr)++[.pointer (some ⟨F.bg,0,none⟩)])
abbrev wwX(F:GLoc)(s:St)(X:iv):bJ:=row F.bw (wwL F s X) 45
theorem zF{E:EnX}(h:mS E){G:Eng}(he:E.eng=G):(E.X.Z.length:Int)≤G.room:=by
 have h1:=h.eg.len;rw[he]at h1;rw[show E.X.Z.length=G.l.length by rw[←he];exact(List.length_map _).symm];exact h1
theorem vD(bb:Nat)(T:List TE)(hT:T.length=16)(w:World)(h:(sF bb T).ok w):Ctr prog 26 [.pointer (some ⟨bb,0,none⟩)] w [] (fun v cs=>v= .int .i64 (qa T 16:Int)∧cs=[]):=by
 have hl64:(eC T).length=64:=by rw[gw,hT]
 refine bL func26 rfl ntmps26 rfl (Inv.start w) ?_;refine p5 ?_;refine dU (cC (vs:=eC T) Zrf (fun _=>by rw[hl64];rfl) (Zv rfl)) (qB (o:=0) h (by rw[List.drop_zero,bA])) rfl ?_;refine Z_4 ?_;refine cJ (fun k:Nat=>[(3,.int .i64 (qa T k:Int)),(9,.agg (eC T).toArray),(10,.int .i64 (k:Int))]) (fun _=>[]) (fun k=>k≤16) (fun k=>16 - k) (0) ?_ ?_ ?_ ?_
 ·exact aw _
 ·exact Zwk
 ·exact Zu
 rintro k hk;have hle:=Fm T k;refine Z_6 ?_;refine ZW ?_ ?_<;>intro hc3
 ·simp only[ap]at hc3;obtain⟨e,he⟩:∃e,T[k]? =some e:=⟨_,ak (show k<T.length by omega)⟩;have hsu:=Au he;refine Z_6 ?_;refine Zy (BJ (j:=k) (sz:=4) rfl Zrf Zrf (Zv rfl) (Zv rfl) (fun _=>by omega) (fun _=>by omega) (fun _=>(jb he))) ?_;refine ZN fun b5=>?_
  refine ZM ?_;refine Z_8 ?_;refine ZW ?_ ?_<;>intro hc5
  ·have hsu:qa T (k+1)=qa T k+1:=(by rw[hsu,hc5];rfl);refine Z_2 ?_;refine Zy (cF (Zv rfl) (Zv rfl) (show _=((qa T k+1:Nat):Int)from by rw[IntWalk.i64_in _ ⟨by omega,by omega⟩];omega)) ?_;refine Z_5 ?_;refine Zy (cF Zv0 Zv0 Zl) ?_;refine Z_2 ?_;rw[←hsu];refine eh (k+1) ?_ ?_ ?_
   ·exact⟨show k+1≤16 by omega,show 16 - (k+1)<16 - k by omega⟩
   ·exact Zwk
   exact Zu
  have hsu:qa T (k+1)=qa T k:=(by rw[hsu,hc5];rfl);refine Z_4 ?_;refine Zy (cF Zv0 Zv0 Zl) ?_;refine Z_2 ?_;rw[←hsu];refine eh (k+1) ?_ ?_ ?_
  ·exact⟨show k+1≤16 by omega,show 16 - (k+1)<16 - k by omega⟩
  ·exact Zwk
  exact Zu
 simp only[aj]at hc3;obtain rfl:k=16:=(by omega);refine gK ?_;refine Zra ?_;exact⟨rfl,rfl⟩
theorem mh(room:Int)(hr:1≤room∧room≤1024)(w:World):Ctr prog 9 [.int .i64 room] w [] (fun v cs=>∃be E,(mS E∧E.eng=Eng.fresh room)∧v= .tuple #[.pointer (some ⟨be,0,none⟩),.int .i64 0]∧cs=enF be E):=by
 refine(enew_ok room w).mono ?_;rintro v cs h;rw[if_pos hr]at h;obtain⟨be,bc,mr,ml,rfl,rfl⟩:=h;exact⟨be,⟨bc,mr,room,⟨ml,none,0,0,[],[]⟩,[],(0,0),0,0,false⟩,⟨⟨oN.none hr _ _ _ _,gJ.fresh hr,(fun y hy=>nomatch hy),(show ko (0,0)from⟨⟨by decide,by decide⟩,by decide,by decide⟩)⟩,rfl⟩,rfl,rfl⟩
theorem wv(n:Int)(hn:u32 n)(w:World):Ctr prog 17 [.int .u32 n] w [] (fun v cs=>∃A c,v=imgV A c (kK (qe (n.tmod 256))) none 0 [] 2∧cs=[sl .u8 5 A (kK (qe (n.tmod 256))).length c (kK (qe (n.tmod 256)))]):=by
 obtain⟨a,ha⟩:=Zgn (n.tmod 256);rw[ha];have HC:=fun A c w h=>Ex A c (qe a) (show(6:Nat)≤1000 by decide) w h
 obtain⟨L,hL⟩:=Zgn (kK (qe a));rw[hL]at HC⊢;refine bL func17 rfl ntmps17 rfl (Inv.start w) ?_;refine Z_2 ?_;refine ZN fun b2=>?_;refine Z_5 ?_;refine Zy (gt (Zv rfl) (Zv rfl) (by omega) ha) ?_;refine Z_6 ?_;refine dM (di rfl rfl Zrf Zrf rfl rfl rfl) rfl ?_;rintro _ _ ⟨b11,rfl,rfl⟩;refine ZS (fun w hi=>HC (some ⟨b11,0,none⟩) 6 w (hi.rd (show Has _ (slv 94 2 (some ⟨b11,0,none⟩) 6 6 ((qe a).flatMap iH))from Zh))) ?_;rintro _ _ ⟨_,⟨A1,c1,rfl,rfl⟩,rfl⟩;refine ZA ?_;refine ZM ?_;refine Z_3 ?_;refine kk (cs':=[sl .u8 5 A1 L.length c1 L]) (.inl rfl) Zu rfl rfl Zh Zrf Zrf ?_;exact⟨A1,c1,rfl,rfl⟩
theorem pi(w:World)(ht:lv w):Ctr prog 16 [] w [] (fun v cs=>v= .bool true∧cs=[]):=by
 have HN:=mh 8 ⟨by decide,by decide⟩;have HL:=wv 3 ⟨by decide,by decide⟩;have hcode:kK (qe ((3:Int).tmod 256))=[1,3,1,1,17,34,251,4,32,246]:=wu;have hb:u8s [1,3,1,1,17,34,251,4,32,246]:=by rw[←wu];exact so _ _
 rw[hcode]at HL;have HF:=fun A c w h=>mL A none c 0 2 [1,3,1,1,17,34,251,4,32,246] [] (by decide) (by decide) (by decide) hb (by decide) w h (xN w .u8)
 have hG:=oq (n:=2) (l:=[1,3,1,1,17,34,251,4,32,246]) (k:=[]) (by decide) hb (by decide) (fun x hx=>by cases hx);have hK:=A0;obtain⟨r1,r2,r3,c9,r4,r5,r6⟩:=xE (by decide) 40 hG (gJ.fresh (room:=8) ⟨by decide,by decide⟩);rw[←r1]at r6;obtain⟨⟨⟨s9,U9,d9⟩,G9⟩,hR⟩:=Zgn (xh 2 40 St.new ⟨Mem.init 2 [1,3,1,1,17,34,251,4,32,246],eE⟩ (Dev.init []) (Eng.fresh 8));rw[hR]at hK r5 r6;simp only[Hy,aB,ap]at hK;obtain⟨⟨k1,k2⟩,k3⟩:=hK;obtain⟨u1,u2,u3, -⟩:=r5.IC (bF _) (bF _) (show(0:Int)+0+(c9:Int)≤1000000000 by simp at r4;omega);dsimp only at r6 u1 u2 u3;have r6':s9.count=(c9:Int):=by rw[r6];show IntKind.u64.wrap (0+(c9:Int))=_;rw[aW];simp at r4;omega
 have u3':G9.IC+G9.IA=s9.count:=by rw[r6',u3];show(0:Int)+0+(c9:Int)=_;omega
 have hc9:s9.count≤320:=by rw[r6'];simp at r4;omega
 clear r1 r2 r3 r5 u3 r6;have ho:(Dev.init []).out.length≤0:=aQ _;unfold fr18 at HF;obtain⟨data,hda⟩:=Zgn (jl 2 [1,3,1,1,17,34,251,4,32,246]);obtain⟨tu,htu⟩:=Zgn (List.replicate 2 false);obtain⟨U0,hU⟩:=Zgn ((⟨Mem.init 2 [1,3,1,1,17,34,251,4,32,246],eE⟩:Mmu));obtain⟨T0,hTT⟩:=Zgn (eE);obtain⟨d0,hd⟩:=Zgn (Dev.init []);rw[hda,htu,hU,hd,hTT]at HF;rw[hU,hd]at hG hR;rw[hd]at ho;obtain⟨l0,hl0⟩:∃l:List Int,[1,3,1,1,17,34,251,4,32,246]=l:=⟨_,rfl⟩;rw[hl0]at HF HL;refine bL func16 rfl ntmps16 rfl (Inv.start w) ?_;refine Zs (Zr (ZA ?_));refine Zn (Zt (Zs (Zr (ZS (fun w hi=>HN w) ?_))));rintro _ _ ⟨_,⟨be,E,⟨hE,hE0⟩,rfl,rfl⟩,rfl⟩;refine Z_5 ?_;refine Zn (Zt (Zs (Zr (ZS (fun w hi=>HL w) ?_))));rintro _ _ ⟨_,⟨A1,c1,rfl,rfl⟩,rfl⟩;refine ZS (fun w hi=>HF A1 c1 w (hi.rd (show Has _ (sl .u8 5 A1 l0.length c1 l0)from Zh))) ?_;rintro _ _ ⟨_,⟨F,hF,rfl,rfl⟩,rfl⟩;have HR:=fun w hi h ht=>oz be F.bu F.bb F.L (hF▸(by decide)) F.D ⟨none,0,none,0⟩ St.new none none 0 0 U0 d0 (hF▸hG) 40 (by decide) (by decide) (by rw[show(40:Int).toNat=40 from rfl];omega) E hE w hi h ht
 rw[hF,hE0,hR]at HR;have ef:E.IC=0:=congrArg Eng.IC hE0;have es:E.IA=0:=congrArg Eng.IA hE0;refine xk ?_;refine bY rfl (rfl) ?_;refine Z_5 ?_;refine ZcM (enF be E) (fun w hi hin=>qE be E w hin) ?_;rw[ef,es];refine Z_7 ?_;refine de (fun q:iv×j0×EnX×Nat=>[(1,.pointer (some ⟨be,0,none⟩)),(4,.int .i64 0),(5,.int .i64 0),(6,.pointer (some ⟨q.2.2.2,0,none⟩))]) (fun q=>row q.2.2.2 (s9.cells (.slice q.1.Ad s9.d.length q.1.cd) (.slice q.1.Ar s9.r.length q.1.cr)) 38::enF be q.2.2.1) (fun q=>q.2.2.1.eng=G9) ?_ ?_
 ·refine eM ⟨fun j=>List.elem j [13,15],[]⟩ [(0,0),(1,0),(2,0),(3,0),(4,1),(5,0),(6,0),(7,0),(8,1),(9,0),(10,0),(11,0),(12,1),(13,3),(14,3),(15,3)] Zk Zk ?_;refine bU rfl (cy Zv0) rfl ?_;refine bU rfl (cy Zv0) rfl ?_;refine bU rfl (dI Zv0) rfl ?_;refine bU rfl (cA 3 rfl Zv0 Zf) rfl ?_;refine fJ rfl (cC (vs:=St.new.cells (.slice none 0 0) (.slice none 0 0)) Zrf Zrf Zv0) (cL Zh rfl) rfl ?_;refine bU rfl (cy Zv0) rfl ?_;refine bU rfl (dI Zv0) rfl ?_;refine bU rfl (cA 0 rfl Zv0 Zf) rfl ?_;refine fJ rfl (bM Zrf Zv0) (bR Zh rfl) rfl ?_;refine bU rfl (cy Zv0) rfl ?_;refine bU rfl (dI Zv0) rfl ?_;refine bU rfl (cA 1 rfl Zv0 Zf) rfl ?_;refine fJ rfl (bM Zrf Zv0) (bR Zh rfl) rfl ?_;refine EW [(13,[(14,2),(15,2)]),(14,[(13,2),(15,2)])] Zk (.cons ?_ (.cons ?_ .nil))
  ·refine ZcS (eoF be F.bu F.bb F.L F.D ⟨none,0,none,0⟩ U0 d0 E) (fun w hi hin=>HR w hin (fun w' hk=>mR.nil_ w' rfl rfl) (fun w' hk=>RdV.Iz ht hi Zi hk)) ?_;rintro _ _ ⟨_,⟨X1,Y1,E1,hE1,hEe,rfl,rfl⟩,rfl⟩;refine et rfl ?_;refine fa rfl rfl (fc Zrf rfl) ZJ rfl ?_;rintro _ _ ⟨b6,rfl,rfl⟩;refine et rfl ?_;refine dN rfl rfl (cq Zrf rfl rfl (iK rfl) Za (by exact rfl)) ZJ ?_;rintro _ _ ⟨rfl,rfl⟩;refine dA ?_;refine cz ((⟨X1,Y1,E1,b6⟩:iv×j0×EnX×Nat)) ?_ ?_ ?_
   ·exact hEe
   ·exact Zwk
   exact Zj
  refine fa rfl rfl (fc Zrf rfl) ZJ rfl ?_;rintro _ _ ⟨b6,rfl,rfl⟩;refine et rfl ?_;refine ZcS (eoF be F.bu F.bb F.L F.D ⟨none,0,none,0⟩ U0 d0 E) (fun w hi hin=>HR w hin (fun w' hk=>mR.nil_ w' rfl rfl) (fun w' hk=>RdV.Iz ht hi Zi hk)) ?_;rintro _ _ ⟨_,⟨X1,Y1,E1,hE1,hEe,rfl,rfl⟩,rfl⟩;refine et rfl ?_;refine dN rfl rfl (cq Zrf rfl rfl (iK rfl) Za (by exact rfl)) ZJ ?_;rintro _ _ ⟨rfl,rfl⟩;refine dA ?_;refine cz ((⟨X1,Y1,E1,b6⟩:iv×j0×EnX×Nat)) ?_ ?_ ?_
  ·exact hEe
  ·exact Zwk
  exact Zj
 rintro⟨X1,Y1,E1,b6⟩ hEe;dsimp only at hEe⊢;have ef1:E1.IC=G9.IC:=congrArg Eng.IC hEe;have es1:E1.IA=G9.IA:=congrArg Eng.IA hEe;have el1:E1.X.Z.length=G9.l.length:=(by have e:=congrArg (fun G:Eng=>G.l.length) hEe;rw[←e];exact(List.length_map _).symm);refine Z_3 ?_;refine ZcM (enF be E1) (fun w hi hin=>qE be E1 w hin) ?_;rw[ef1,es1];refine xk ?_;refine Zyy rfl rfl (y_geq (dc rfl) (Zv rfl) (aG (show(40:Int)≤s9.count from k1))) ?_;refine Z_3 ?_;refine Zyy rfl rfl (y_gtr (dc rfl) (Zv rfl) (aG (show(0:Int)<G9.IC from k2))) ?_;refine Z_3 ?_;refine Zyy rfl rfl (cu rfl rfl (dc rfl) (u64_wrap_id _ (by omega) (by omega))) ?_;refine ZB ?_;refine Zyy rfl rfl (cu rfl rfl (dc rfl) (u64_wrap_id _ (by omega) (by omega))) ?_;refine Zyy rfl rfl (cF (dc rfl) (dc rfl) (show _=s9.count from by rw[u3'];exact u64_wrap_id _ (by omega) (by omega))) ?_;refine Z_2 ?_;refine Zyy rfl rfl (BM (dc rfl) (dc rfl) (beq_self_eq_true _)) ?_;refine Z_3 ?_;refine ku (bP rfl rfl) rfl (dR (enF be E1) rfl (fun _ _=>rfl) Zi (fun w hi hin=>pE be E1 w hin)) rfl ?_;rintro _ _ ⟨_,⟨rfl,rfl⟩,rfl⟩;refine Zyy rfl rfl (y_geq (dc rfl) (Zv rfl) (aG (show(1:Int)≤(E1.X.Z.length:Int) by omega))) ?_;refine Z_5 ?_;refine Zra ?_;exact⟨rfl,rfl⟩
end Go.Proofs.YtomjgmbccamgiaaGreatDoor
