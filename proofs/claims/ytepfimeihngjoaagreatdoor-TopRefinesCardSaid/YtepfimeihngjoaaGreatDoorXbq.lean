/- Lemmas. -/
import Derived.Test.YtepfimeihngjoaaGreatDoorXbl
set_option linter.all false
set_option maxRecDepth 100000
set_option maxHeartbeats 4000000
namespace Go.Ink
open List renaming length→J, replicate→R9
open Go.RowKit
variable{w:World}{cs:List bJ}
variable{α:Type}{F:α->List bJ}{p:α->Prop}
section
variable{C:Cx}{Q:lK}{fr:Fr}{cs:List bJ}{ops:Array Oper}{α:Type}{bs:List Nat}{F:α->List bJ}{hb:∀a,bM (F a)=bs}{p:α->Prop}{r:List bJ}
theorem Jx{l:List Oper}(hd:WB cs (Wg bs F hb p) r)(h:∀a,p a->WL C ops Q l fr (F a++r)):WL C ops Q l fr cs:=λa w hf hi=>by
 obtain⟨a',h1,h2⟩:=(hi.perm hd.perm).T9
 exact h a' h1 a w hf h2
end
end Go.Ink
namespace Go.Ink
open List renaming length→J
open IntKind renaming wrap→V9
open Go.RowKit Go.Proofs.Tryz
variable{m:Int}
variable{n:Nat}{s:St}{U:UI}{d:UF}
variable{s1:St}{d1:UF}
variable{k:Nat}
section
attribute [local irreducible] Ve bN
variable{U1:UI}
theorem rest_ok(bu bb:Nat)(L:fF)(D:qV)(Y:dJ)(s:St)(X:dz)(p:Nat)(hp:p<=4294967295)(Tq:Nat)(hmost:Tq<=1000)(U:UI)(d:UF)(hG:VN L.n s U d)(ho:J d.out+Tq<=1000000000):CI prog 178 [sv s X.Ad X.cd X.Ar X.cr,.w (p:Int),.i (Tq:Int),.p bu,.p D.bs] (WH bu bb L D s X Y U d) (λv cs=>∃X' Y',v=sv (dR L.n (p/64) Tq s p U d).1 X'.Ad X'.cd X'.Ar X'.cr/\cs=WH bu bb L D (dR L.n (p/64) Tq s p U d).1 X' Y' (dR L.n (p/64) Tq s p U d).2.1 (dR L.n (p/64) Tq s p U d).2.2):=λw hi=>by
 obtain⟨pg,hpg⟩:=Do (p/64);have hpq:V9 .u32 ((p:Int).tdiv 64)=(pg:Int):=by rw[bl O,u32_wrap_id _ O O];omega
 have hpgl:pg<=4294967295:=by omega
 rw[hpg];clear hpg;obtain⟨⟨s9,U9,d9⟩,hR⟩:=Do (dR L.n pg Tq s p U d);rw[hR];have ho0:J d.out<=J d.out+0:=aK _;obtain⟨o0,hoo⟩:=Do (J d.out);rw[hoo]at ho;refine Vb func178 ntmps178 hi ?_;refine An ?_;refine ZO λb5=>?_;refine ZN λb10=>?_
 refine Z8 ?_;refine gE (row b5 (s.cells (.slice X.Ad (J s.d) X.cd) (.slice X.Ar (J s.r) X.cr)) 36::row b10 (St.zero.cells (.slice none 0 0) (.slice none 0 0)) 36::WH bu bb L D s X Y U d) Zj (UQ ?_);refine Vs (λq:Nat×St×dz×Nat×dJ×UI×UF=>[(1,.w (q.2.2.2.1:Int)),(3,.p bu),(4,.p D.bs),(5,.p b5),(10,.p b10),(11,.i (pg:Int)),(20,.i (Tq:Int)),(21,.i (q.1:Int))]) (λq=>row b5 (q.2.1.cells (.slice q.2.2.1.Ad (J q.2.1.d) q.2.2.1.cd) (.slice q.2.2.1.Ar (J q.2.1.r) q.2.2.1.cr)) 36::row b10 (St.zero.cells (.slice none 0 0) (.slice none 0 0)) 36::WH bu bb L D q.2.1 q.2.2.1 q.2.2.2.2.1 q.2.2.2.2.2.1 q.2.2.2.2.2.2) (λq=>q.1<=Tq/\q.2.2.2.1<=4294967295/\VN L.n q.2.1 q.2.2.2.2.2.1 q.2.2.2.2.2.2/\J q.2.2.2.2.2.2.out<=o0+q.1/\dR L.n pg (Tq - q.1) q.2.1 q.2.2.2.1 q.2.2.2.2.2.1 q.2.2.2.2.2.2=(s9,U9,d9)) (λq=>Tq - q.1) (⟨0,s,X,p,Y,U,d⟩) ⟨ax _,hp,hG,by show J d.out<=o0+0;omega,hR⟩ ?_;rintro⟨j,s,X,p,Y,U,d⟩ ⟨hj,hp,hG,ho1,hRj⟩;dsimp only at hj hp hG ho1 hRj|-;refine UH ?_ ?_<;>intro hc3
 .simp only[ai]at hc3;obtain⟨k,hk⟩:∃k,Tq - j=k+1:=⟨Tq - j - 1,by omega⟩;rw[hk]at hRj;have HF:=F0 bu bb L U.m p hp;have hrn:=λ(op nn:Int) (z:Nat) h=>jz (n:=L.n) (M:=U.m) (p:=p) (op:=op) (nn:=nn) (z:=z) hG.u.m h
  have hN:=uV (n:=L.n) (Tc:=pg) (k:=k) (s:=s) (p:=p) (U:=U) (d:=d);have hS:=λ(op nn:Int) (z:Nat) (q:WP) (U1:UI) (d1:UF) h hq=>uU (n:=L.n) (Tc:=pg) (k:=k) (s:=s) (p:=p) (U:=U) (d:=d) (op:=op) (nn:=nn) (z:=z) (q:=q) (U1:=U1) (d1:=d1) h hq
  obtain⟨o,hfo⟩:=Do (dL L.n U.m p);rw[hfo]at HF hN hS;rw[hfo]at hrn;obtain⟨hd16,hr16, -⟩:=St.fits hG.right;refine Va ?_;refine UZ (λw hi=>HF w (hi.get (UJ (JH bu L.bm bb))) (hi.get (UJ (fM L U.m)))) ?_;refine UK ?_;refine ZN λb12=>?_
  refine ZM ?_;refine yh ?_ ?_<;>intro hc5
  .obtain rfl:o=none:=(by cases o with|none=>rfl|some o=>cases hc5);rw[hN rfl,aB,aB]at hRj;obtain⟨rfl,rfl,rfl⟩:=hRj;refine Wq300 ?_;rintro _ _ ⟨_,⟨A3,c3,A4,c4,rfl,rfl⟩,rfl⟩;refine ZM ?_;refine U8 ?_;exact bK (row b10 ((s.next.S3 1 0).cells (.slice A3 (J s.d) c3) (.slice A4 (J s.r) c4)) 36::WH bu bb L D (s.next.S3 1 0) ⟨A3,c3,A4,c4⟩ Y U d) Zj (lL (cs':=(WH bu bb L D (s.next.S3 1 0) ⟨A3,c3,A4,c4⟩ Y U d)) (.inl I) Zu I I Zh ir ir ⟨⟨A3,c3,A4,c4⟩,Y,I,I⟩)
  obtain⟨⟨⟨op,nn⟩,z⟩,rfl⟩:∃q,o=some q:=(by cases o with|none=>cases hc5|some o=>exact⟨o,I⟩);obtain⟨hnn,hz1,hz5, -⟩:=hrn op nn z I;have HD:=do_ok bu bb L D Y s X.Ad X.Ar X.cd X.cr op nn U d hG.wf hnn hG.u.t hG.dv.wf O;have hg:=pI (op:=op) (nn:=nn) hG.wf hG.right hnn hG.u hG.dv;have hl:=oM (n:=L.n) (op:=op) (nn:=nn) (s:=s) (U:=U) hG.lines;obtain⟨⟨q,U1,d1⟩,hq⟩:=Do (ls L.n s op nn U d);rw[hS op nn z q U1 d1 rfl hq]at hRj;rw[hq]at HD hg hl;obtain⟨g1,g2,g3,g4,g5,g6⟩:=hg;dsimp only at g1 g2 g3 g4 g5 g6 hl;have HX:=λX1 Ap cp w h=>K6 op nn q X1 Ap cp pg s.pc g1.pc hG.wf.pc w h
  obtain⟨nx,hnx⟩:=Do (jh op q pg s.pc);rw[hnx]at HX hRj;refine Wq471 ?_;rintro _ _ ⟨_,⟨X1,Y1,Ap,cp,rfl,rfl⟩,rfl⟩;refine ZN λb15=>?_
  refine ZM ?_;refine Ξ ?_;refine jb ?_;refine RG ?_;refine τ ?_;refine ZW ?_ ?_<;>intro hc12
  .obtain rfl:nx=false:=(by cases nx with|false=>rfl|true=>cases hc12);rw[ac,aB,aB]at hRj;obtain⟨rfl,rfl,rfl⟩:=hRj;refine U8 ?_;refine oV ?_;exact bK (row b10 (q.s.cells (.slice X1.Ad (J q.s.d) X1.cd) (.slice X1.Ar (J q.s.r) X1.cr)) 36::WH bu bb L D q.s X1 Y1 U1 d1) Zj (lL (cs':=(WH bu bb L D q.s X1 Y1 U1 d1)) (.inl I) Zu I I Zh ir ir ⟨X1,Y1,I,I⟩)
  obtain rfl:nx=true:=(by cases nx with|true=>rfl|false=>cases hc12);rw[ah]at hRj;refine ii ?_;refine Vd ((⟨j+1,q.s,X1,(p+z)%4294967296,Y1,U1,d1⟩:Nat×St×dz×Nat×dJ×UI×UF)) ⟨⟨show j+1<=Tq by omega,by show(p+z)%4294967296<=4294967295;omega,⟨g1,g2,g4,g5,hl⟩,by show J d1.out<=o0+(j+1);omega,by show dR L.n pg (Tq - (j+1)) q.s _ U1 d1=_;rw[show Tq - (j+1)=k by omega];exact hRj⟩,show Tq - (j+1)<Tq - j by omega⟩
 simp only[aa]at hc3;rw[show Tq - j=0 by omega]at hRj;simp only[dR,aB]at hRj;obtain⟨rfl,rfl,rfl⟩:=hRj;refine Va ?_;refine oV ?_;exact bK (row b10 (s.cells (.slice X.Ad (J s.d) X.cd) (.slice X.Ar (J s.r) X.cr)) 36::WH bu bb L D s X Y U d) Zj (lL (cs':=(WH bu bb L D s X Y U d)) (.inl I) Zu I I Zh ir ir ⟨X,Y,I,I⟩)
variable{from_:Int}{q:St×UI×UF}
theorem QH(bu bb:Nat)(L:fF)(D:qV)(Y:dJ)(s:St)(Ad Ar:Oa)(cd cr:Nat)(U:UI)(d:UF)(hG:VN L.n s U d)(ho:J d.out+8<=1000000000)(w:World)(hi:Inv w (bM (VK bu bb L D Y U d)) (VK bu bb L D Y U d) w)
  (h:∀w',dc (bM (VK bu bb L D Y U d)) w w'->iL w' s Ad Ar cd cr) (ht:∀w',dc (bM (VK bu bb L D Y U d)) w w'->iU w'):
  UW prog 126 [sv s Ad cd Ar cr,.p bu,.p D.bs] w (VK bu bb L D Y U d)
   (λv cs=>∃X' Y',v=sv (cS L.n s U d).1 X'.Ad X'.cd X'.Ar X'.cr/\cs=WH bu bb L D (cS L.n s U d).1 X' Y' (cS L.n s U d).2.1 (cS L.n s U d).2.2):=by
 have HB:=Gv bu bb L D Y s hG.wf Ad Ar cd cr U hG.u.t d (oh hG.lines _);have hb:=kE hG;have hN:=λs1 U1 d1 pl h=>x6 (n:=L.n) (s:=s) (s1:=s1) (U:=U) (U1:=U1) (d:=d) (d1:=d1) (pl:=pl) h
 have hY:=λs1 U1 d1 pl h=>wi (n:=L.n) (s:=s) (s1:=s1) (U:=U) (U1:=U1) (d:=d) (d1:=d1) (pl:=pl) h
 obtain⟨⟨s1,pl,rn,U1,d1⟩,hbe⟩:=Do (cI L.n s U d);rw[hbe]at HB hb hN hY;obtain⟨hg1,hpl,hout, -, -, -⟩:=hb;dsimp only at hg1 hpl hout;obtain⟨pl,rfl⟩:∃m:Nat,pl=m:=aj hpl.1;have hpl2:=hpl.2;have HR:=λX w hi=>rest_ok bu bb L D Y s1 X pl O 8 ne U1 d1 hg1 (by rw[hout];exact ho) w hi
 obtain⟨⟨s9,U9,d9⟩,hR⟩:=Do (cS L.n s U d);rw[hR]at hN hY|-;refine Vb func126 ntmps126 hi ?_;refine An ?_;refine ZO λb3=>?_;refine ZN λb6=>?_
 refine US ?_;refine dH (VK bu bb L D Y U d) (λw hi hin=>HB w hin (λw' hk=>h w' (hi.Ub (λc hc=>by simp only[VK,uF,my,aJ,aI,aY]at hc|-;grind) hk)) (λw' hk=>ht w' (hi.Ub (λc hc=>by simp only[VK,uF,my,aJ,aI,aY]at hc|-;grind) hk))) ?_;rintro _ _ ⟨X1,rfl,rfl⟩;refine ZN λb7=>?_
 refine qN ?_;refine ZW ?_ ?_<;>intro hc2
 .obtain rfl:rn=false:=(by cases rn with|false=>rfl|true=>cases hc2);have e:=hN s1 U1 d1 pl I;rw[aB,aB]at e;obtain⟨rfl,rfl,rfl⟩:=e;refine UN ?_;refine Wq485 ?_;exact bK (row b6 (s9.cells (.slice X1.Ad (J s9.d) X1.cd) (.slice X1.Ar (J s9.r) X1.cr)) 36::WH bu bb L D s9 X1 Y U9 d9) Zj (lL (cs':=(WH bu bb L D s9 X1 Y U9 d9)) (.inl I) Zu I I Zh ir ir ⟨X1,Y,I,I⟩)
 obtain rfl:rn=true:=(by cases rn with|true=>rfl|false=>cases hc2);have e:=hY s1 U1 d1 pl I;rw[<-e]at HR;refine UQ ?_;refine Δ ?_;refine UK ?_;refine dH (WH bu bb L D s1 X1 Y U1 d1) (λw hi hin=>HR X1 w hin) ?_;rintro _ _ ⟨X2,Y2,rfl,rfl⟩;refine oV ?_;exact bK (row b6 (s9.cells (.slice X2.Ad (J s9.d) X2.cd) (.slice X2.Ar (J s9.r) X2.cr)) 36::WH bu bb L D s9 X2 Y2 U9 d9) Zj (lL (cs':=(WH bu bb L D s9 X2 Y2 U9 d9)) (.inl I) Zu I I Zh ir ir ⟨X2,Y2,I,I⟩)
theorem run_ok(bu bb:Nat)(L:fF)(D:qV)(Y:dJ)(s:St)(Ad Ar:Oa)(cd cr:Nat)(U:UI)(d:UF)(hG:VN L.n s U d)(m:Int)(hm0: -9223372036854775808<=m)(hm:m<=1000000)(ho:J d.out+8*m.toNat+8<=1000000000)(w:World)(hi:Inv w (bM (VK bu bb L D Y U d)) (VK bu bb L D Y U d) w)
  (h:∀w',dc (bM (VK bu bb L D Y U d)) w w'->iL w' s Ad Ar cd cr) (ht:∀w',dc (bM (VK bu bb L D Y U d)) w w'->iU w'):
  UW prog 75 [sv s Ad cd Ar cr,.p bu,.p D.bs,.i m] w (VK bu bb L D Y U d)
   (λv cs=>∃X' Y',v=sv (eH L.n m s U d).1 X'.Ad X'.cd X'.Ar X'.cr/\cs=WH bu bb L D (eH L.n m s U d).1 X' Y' (eH L.n m s U d).2.1 (eH L.n m s U d).2.2):=by
 have HR2:=mJ s;rw[hG.right]at HR2;obtain⟨hd16,hr16, -⟩:=St.fits hG.right;obtain⟨⟨s9,U9,d9⟩,hR⟩:=Do (eH L.n m s U d);rw[hR];have hR0:kJ L.n m s.count (m.toNat - 0) (s,U,d)=(s9,U9,d9):=hR;have hk0:CJ L.n m s.count (J d.out) 0 (s,U,d):=⟨hG,aK _,0,by show V9 .u64 (s.count - s.count)=0;rw[Int.sub_self];rfl,aK _,aK _,by cases hd:decide (0<m)with|false=>(show(0:Int)<0+8;omega)|true=>(simp only[ai]at hd;show(0:Int)<m+8;omega)⟩;obtain⟨from_,hfr⟩:=Do (s.count);obtain⟨o0,hoo⟩:=Do (J d.out);rw[hfr]at hR0 hk0;rw[hoo]at ho hk0;refine Vb func75 ntmps75 hi ?_;refine An ?_;refine ZO λb4=>?_;refine ZN λb8=>?_
 refine NH ?_;rintro _ _ ⟨_,⟨A1,c1,A2,c2,rfl,rfl⟩,rfl⟩;refine Ny ?_;refine gP ?_;refine lN ?_;refine UK ?_;refine gE (row b4 (s.cells (.slice A1 (J s.d) c1) (.slice A2 (J s.r) c2)) 36::row b8 (St.zero.cells (.slice none 0 0) (.slice none 0 0)) 36::WH bu bb L D s ⟨A1,c1,A2,c2⟩ Y U d) Zj (US ?_);refine Vs (λq:Nat×St×dz×dJ×UI×UF=>[(1,.p bu),(2,.p D.bs),(3,.i m),(4,.p b4),(8,.p b8),(9,.int .u64 from_)]) (λq=>row b4 (q.2.1.cells (.slice q.2.2.1.Ad (J q.2.1.d) q.2.2.1.cd) (.slice q.2.2.1.Ar (J q.2.1.r) q.2.2.1.cr)) 36::row b8 (St.zero.cells (.slice none 0 0) (.slice none 0 0)) 36::WH bu bb L D q.2.1 q.2.2.1 q.2.2.2.1 q.2.2.2.2.1 q.2.2.2.2.2) (λq=>CJ L.n m from_ o0 q.1 (q.2.1,q.2.2.2.2.1,q.2.2.2.2.2)/\q.1<=m.toNat/\kJ L.n m from_ (m.toNat - q.1) (q.2.1,q.2.2.2.2.1,q.2.2.2.2.2)=(s9,U9,d9)) (λq=>m.toNat - q.1) (⟨0,s,⟨A1,c1,A2,c2⟩,Y,U,d⟩) ⟨hk0,ax _,hR0⟩ ?_;rintro⟨i,s,X,Y,U,d⟩ ⟨hk,him,hRi⟩;dsimp only at hk him hRi|-;have hrc:fH m from_ s=((decide (0<m)&& !s.halted)&&decide (V9 .u64 (s.count - from_)<m)):=rfl;refine kF ?_;refine Wq98 ?_;refine WK ?_ ?_<;>intro hc5
 .have hc:fH m from_ s=true:=(by rw[hrc];revert hc5;cases decide (0<m)with|false=>(intro h;cases h)|true=>exact λh=>h);obtain⟨hk2,hilt⟩:=yO hm O hk hc;obtain⟨k,hkk⟩:∃k,m.toNat - i=k+1:=⟨m.toNat - i - 1,by omega⟩;rw[hkk,oq hc]at hRi;obtain⟨hd16,hr16, -⟩:=St.fits hk.g.right;have hok:=hk.out;dsimp only at hok hd16 hr16;have HB:=QH bu bb L D Y s X.Ad X.Ar X.cd X.cr U d hk.g O;obtain⟨⟨s2,U2,d2⟩,hq⟩:=Do (cS L.n s U d);dsimp only at hRi hk2;rw[hq]at HB hRi hk2;refine US ?_;refine dH (VK bu bb L D Y U d) (λw hi hin=>HB w hin (λw' hk=>hi.TS Zi (UJ (Vf s X.Ad X.cd)) (UJ (Vj s X.Ar X.cr)) O O hk) (λw' hk=>ht w' (hi.Ub (λc hc=>by simp only[WH,VK,uF,my,aJ,aI,aY]at hc|-;grind) hk))) ?_;rintro _ _ ⟨X2,Y2,rfl,rfl⟩;refine ZM ?_;refine An ?_;refine Vd ((⟨i+1,s2,X2,Y2,U2,d2⟩:Nat×St×dz×dJ×UI×UF)) ⟨⟨hk2,show i+1<=m.toNat by omega,by show kJ L.n m from_ (m.toNat - (i+1)) (s2,U2,d2)=_;rw[show m.toNat - (i+1)=k by omega];exact hRi⟩,show m.toNat - (i+1)<m.toNat - i by omega⟩
 have hc:fH m from_ s=false:=(by rw[hrc];revert hc5;cases decide (0<m)with|false=>exact λ_=>rfl|true=>exact λh=>h);rw[kz hc,aB,aB]at hRi;obtain⟨rfl,rfl,rfl⟩:=hRi;refine Va ?_;refine oV ?_;exact bK (row b8 (s.cells (.slice X.Ad (J s.d) X.cd) (.slice X.Ar (J s.r) X.cr)) 36::WH bu bb L D s X Y U d) Zj (lL (cs':=(WH bu bb L D s X Y U d)) (.inl I) Zu I I Zh ir ir ⟨X,Y,I,I⟩)
end
end Go.Ink
namespace Go.Ink
open List renaming length→J, replicate→R9
open IntKind renaming wrap→V9
open Go.RowKit Go.Proofs.Tryz
variable{l:List (Int×Int)}
section
attribute [local irreducible] Ve bN
variable{n:Nat}
variable{s:St}{U:UI}{d:UF}
theorem p8(h:VN n s U d)(hi:VO d){l:Li}(hl:Vh l):VN n s U (d.Tp l)/\VO (d.Tp l):=by
 have hw:=h.dv.wf;have hlen:J (d.inp++l.take (d.Tz l))<=64:=by
  have:=hi.i64;unfold UF.Tz;rw[ar,aO];omega
 have hb:Vh (d.inp++l.take (d.Tz l)):=λx hx=>(aJ.1 hx).elim (hw.Uo x) (λq=>hl x (aM q))
 exact⟨⟨h.wf,h.right,h.u,⟨⟨hb,hw.S8,hw.TP,hw.SS,hw.place,aN hlen ne⟩,bL u32 (dY .or d.S7 2) h.dv.S7,h.dv.mask,h.dv.timer,h.dv.status⟩,⟨h.lines.mask⟩⟩,⟨hlen⟩⟩
end
end Go.Ink
namespace Go.Ink
open List renaming length→J, replicate→R9
open IntKind renaming wrap→V9
open Go.RowKit Go.Proofs.Tryz
variable{a:Int}
section
variable{C:Cx}{Q:lK}{fr:Fr}{cs:List bJ}{e:Exit}
theorem KE(h:VC C Q e fr (cs++[dm []])):VC C Q e fr cs:=λa w hf hi=>h a w hf (hi.more (BS w))
end
end Go.Ink
namespace Go.Ink
open List renaming length→J, replicate→R9
open IntKind renaming wrap→V9
open Go.RowKit Go.Proofs.Tryz
variable{n k:Nat}{s:St}{p:Nat}{U:UI}{d:UF}
section
attribute [local irreducible] Ve bN
variable{o:Nat}
theorem AV{n:Nat}{m f:Int}:∀(k:Nat) {o:Nat} {q:St×UI×UF},WQ n o q.1 q.2.1 q.2.2->WQ n (o+8*k) (kJ n m f k q).1 (kJ n m f k q).2.1 (kJ n m f k q).2.2
 |0,o,q,h=>h
 |k+1,o,q,h=>by
  cases hc:fH m f q.1 with
  |false=>rw[kz hc];exact h.le O
  |true=>
   rw[oq hc];exact(AV k (q:=cS n q.1 q.2.1 q.2.2) h.block).le O
theorem WQ.run(h:WQ n o s U d)(m:Int):WQ n (o+8*m.toNat) (eH n m s U d).1 (eH n m s U d).2.1 (eH n m s U d).2.2:=AV m.toNat (q:=(s,U,d)) h
theorem WQ.type(h:WQ n o s U d){l:Li}(hl:Vh l):WQ n o s U (d.Tp l):=⟨(p8 h.g h.i hl).1,h.m,(p8 h.g h.i hl).2,h.o⟩
abbrev dsF(K:gi)(bx n b bd:Nat)(s:St)(X:dz)(Z:dJ)(U:UI)(d:UF):List bJ:=Vf s X.Ad X.cd::Vj s X.Ar X.cr::V7 K bx n b bd Z U d
theorem uW(K:gi)(bx n b bd:Nat)(Z:dJ)(s:St)(X:dz)(U:UI)(d:UF)(o0:Nat)(hG:WQ n o0 s U d)(m:Int)(hm0: -9223372036854775808<=m)(hm:m<=1000000)(ho:o0+8*m.toNat+8<=1000000000):CI prog 16 [sv s X.Ad X.cd X.Ar X.cr,.p bx,.p b,.i m] (dsF K bx n b bd s X Z U d) (λv cs=>∃(X':dz) (Z':dJ),v=sv (eH n m s U d).1 X'.Ad X'.cd X'.Ar X'.cr/\cs=dsF K bx n b bd (eH n m s U d).1 X' Z' (eH n m s U d).2.1 (eH n m s U d).2.2):=λw hi=>by
 obtain⟨⟨s9,U9,d9⟩,hR⟩:=Do (eH n m s U d);rw[hR];have hR0:kJ n m s.count (m.toNat - 0) (s,U,d)=(s9,U9,d9):=hR;have hk0:CJ n m s.count o0 0 (s,U,d):=⟨hG.g,hG.o,0,by show V9 .u64 (s.count - s.count)=0;rw[Int.sub_self];rfl,aK _,aK _,by cases hd:decide (0<m)with|false=>(show(0:Int)<0+8;omega)|true=>(simp only[ai]at hd;show(0:Int)<m+8;omega)⟩;have hM0:=hG.m;obtain⟨from_,hfr⟩:=Do (s.count);rw[hfr]at hR0 hk0;refine Vb func16 ntmps16 hi ?_;refine An ?_;refine ZO λb4=>?_;refine ZN λb8=>?_
 refine UK ?_;refine gE (row b4 (s.cells (.slice X.Ad (J s.d) X.cd) (.slice X.Ar (J s.r) X.cr)) 36::row b8 (St.zero.cells (.slice none 0 0) (.slice none 0 0)) 36::dsF K bx n b bd s X Z U d) Zj (US ?_);refine mB (λq:Nat×St×dz×dJ×UI×UF=>[(1,.p bx),(2,.p b),(3,.i m),(4,.p b4),(8,.p b8),(9,.int .u64 from_)]) (λq=>row b4 (q.2.1.cells (.slice q.2.2.1.Ad (J q.2.1.d) q.2.2.1.cd) (.slice q.2.2.1.Ar (J q.2.1.r) q.2.2.1.cr)) 36::row b8 (St.zero.cells (.slice none 0 0) (.slice none 0 0)) 36::dsF K bx n b bd q.2.1 q.2.2.1 q.2.2.2.1 q.2.2.2.2.1 q.2.2.2.2.2) (λq=>CJ n m from_ o0 q.1 (q.2.1,q.2.2.2.2.1,q.2.2.2.2.2)/\q.1<=m.toNat/\kJ n m from_ (m.toNat - q.1) (q.2.1,q.2.2.2.2.1,q.2.2.2.2.2)=(s9,U9,d9)/\Vc n q.2.2.2.2.1.m) (λq=>m.toNat - q.1) (⟨0,s,X,Z,U,d⟩) ?_ ?_ ?_ ?_
 .exact⟨hk0,ax _,hR0,hM0⟩
 .exact Xq
 .exact CB
 rintro⟨i,s,X,Z,U,d⟩ ⟨hk,him,hRi,hM⟩;dsimp only at hk him hRi hM|-;have hrc:fH m from_ s=((decide (0<m)&& !s.halted)&&decide (V9 .u64 (s.count - from_)<m)):=rfl;refine U8 ?_;refine Wq98 ?_;refine Wc ?_ ?_<;>intro hc2
 .have hc:fH m from_ s=true:=(by rw[hrc];revert hc2;cases decide (0<m)with|false=>(intro h;cases h)|true=>(intro h;have h:(decide (V9 .u64 (s.count - from_)<m)&& !s.halted)=true:=h;rw[ay]at h;rw[h.1,h.2];rfl));obtain⟨hk2,hilt⟩:=yO hm O hk hc;obtain⟨k,hkk⟩:∃k,m.toNat - i=k+1:=⟨m.toNat - i - 1,by omega⟩;rw[hkk,oq hc]at hRi;obtain⟨hd16,hr16, -⟩:=St.fits hk.g.right;have hok:=hk.out;dsimp only at hok hd16 hr16;have HB:=uX K bx n b bd Z s X.Ad X.Ar X.cd X.cr U d hk.g hM O;have hM2:=hM.block hk.g (λroot va kind SQ=>hM.walk root va kind SQ);obtain⟨⟨s2,U2,d2⟩,hq⟩:=Do (cS n s U d);dsimp only at hRi hk2 hM2;rw[hq]at HB hRi hk2 hM2;refine US ?_;refine dH (V7 K bx n b bd Z U d) (λw hi hin=>HB w hin (λw' hk=>hi.TS Zi (UJ (Vf s X.Ad X.cd)) (UJ (Vj s X.Ar X.cr)) O O hk)) ?_;rintro _ _ ⟨X2,Z2,rfl,rfl⟩;refine ZM ?_;refine An ?_;refine Vd ((⟨i+1,s2,X2,Z2,U2,d2⟩:Nat×St×dz×dJ×UI×UF)) ⟨⟨hk2,show i+1<=m.toNat by omega,by show kJ n m from_ (m.toNat - (i+1)) (s2,U2,d2)=_;rw[show m.toNat - (i+1)=k by omega];exact hRi,hM2⟩,show m.toNat - (i+1)<m.toNat - i by omega⟩
 have hc:fH m from_ s=false:=(by rw[hrc];revert hc2;cases decide (0<m)with|false=>exact λ_=>rfl|true=>(intro h;have h:(decide (V9 .u64 (s.count - from_)<m)&& !s.halted)=false:=h;rw[Bool.and_comm]at h;exact h));rw[kz hc,aB,aB]at hRi;obtain⟨rfl,rfl,rfl⟩:=hRi;refine Va ?_;refine oV ?_;exact bK (row b8 (s.cells (.slice X.Ad (J s.d) X.cd) (.slice X.Ar (J s.r) X.cr)) 36::dsF K bx n b bd s X Z U d) Zj (lL (cs':=(dsF K bx n b bd s X Z U d)) (.inl I) Zu I I Zh ir ir ⟨X,Z,I,I⟩)
end
end Go.Ink
namespace Go.Proofs.YtepfimeihngjoaaGreatDoor
open List renaming length→J, replicate→R9
open IntKind renaming wrap→V9
open Go.RowKit Go.Ink Go.Proofs.Tryz
attribute [local irreducible] Ve bN
structure Vw where
 s:St
 m:List Int
 o:List Int
 i:List Int
 k:List Int
 S7:Int
 mask:Int
 Uw:Bool
structure VAd where
 X:dz
 Am:Option Addr
 cm:Nat
 Ao:Option Addr
 co:Nat
 Ai:Option Addr
 ci:Nat
 Ak:Option Addr
 ck:Nat
abbrev Vw.cells(v:Vw)(Y:VAd):List Value:=v.s.cells (.slice Y.X.Ad (J v.s.d) Y.X.cd) (.slice Y.X.Ar (J v.s.r) Y.X.cr)++[.slice Y.Am (J v.m) Y.cm,.slice Y.Ao (J v.o) Y.co,.slice Y.Ai (J v.i) Y.ci,.slice Y.Ak (J v.k) Y.ck,.w v.S7,.w v.mask,.bool v.Uw]
structure BSl where
 A:Option Addr
 c:Nat
 l:List Int
abbrev BSl.v(x:BSl):Value:= .slice x.A (J x.l) x.c
structure ISl where
 A:Option Addr
 c:Nat
 l:List Int
abbrev ISl.v(x:ISl):Value:= .slice x.A (J x.l) x.c
abbrev ISl.cells(x:ISl):List Value:=[x.v]
def ISl.rd(x:ISl)(w:World):Prop:=Rd w .i64 x.A (J x.l) x.c x.l
theorem Mf(n:Nat)(hn:n<=4611686018427387904)(w:World):CW prog 112 [.i n] w (.i (((n+63)/64:Nat):Int)):=by
 refine UV func112 ntmps112 ?_;refine Va ?_;refine mT ?_;refine sb ?_;refine Zy (kf (Zv I) (Zv I) O (show _=(((n+63)/64:Nat):Int)from by rw[IntWalk.i64_quo _ _ ⟨by omega,by omega,by omega⟩];omega)) ?_;exact mZ
end Go.Proofs.YtepfimeihngjoaaGreatDoor
namespace Go.Ink
open List renaming length→J, replicate→R9
open IntKind renaming wrap→V9
open Go.RowKit
structure Yn(U V:UI):Prop where
 d:U.m.data=V.m.data
 t:U.t=V.t
theorem Bu{M N:UO}(h:M.data=N.data)(a:Nat)(v:Int):∀k,(M.Tj a v k).data=(N.Tj a v k).data
 |0=>h
 |k+1=>by
  show(M.Tj a v k).data.set _ _=(N.Tj a v k).data.set _ _;rw[Bu h a v k]
theorem Od{n:Nat}{M N:UO}(h:M.data=N.data)(root va:Nat)(kind:Int)(SQ:Bool):(dE n M root va kind SQ).1=(dE n N root va kind SQ).1/\(dE n M root va kind SQ).2.data=(dE n N root va kind SQ).2.data:=by
 unfold dE;rw[h];cases Vo kind==0 with
 |true=>exact⟨I,h⟩
 |false=>
  dsimp only[cond];cases iw n N.data root va with
  |none=>exact⟨I,h⟩
  |some x=>
   obtain⟨a,l⟩:=x;dsimp only;cases bits .and .u32 l (oP kind SQ) !=oP kind SQ with
   |true=>exact⟨I,h⟩
   |false=>
    refine⟨I,?_⟩;dsimp only[cond];cases jj l kind !=l with
    |true=>exact Bu h _ _ 4
    |false=>exact h
section
variable{n:Nat}{U V:UI}{s:St}{d:UF}
theorem GZ(h:Yn U V)(s:Sp)(va:Nat)(kind:Int):(SY n U s va kind).1=(SY n V s va kind).1/\Yn (SY n U s va kind).2 (SY n V s va kind).2:=by
 obtain⟨w1,w2⟩:=Od (n:=n) h.d s.root va kind s.SQ;unfold SY;rw[h.t,w1];cases !s.S1 with
 |true=>exact⟨I,h⟩
 |false=>
  cases(pu V.t va kind s.SQ).2 with
  |true=>exact⟨I,h⟩
  |false=>
   cases(dE n V.m s.root va kind s.SQ).1.2.SU !=0 with
   |true=>exact⟨I,w2,I⟩
   |false=>exact⟨I,w2,I⟩
theorem KV(h:Yn U V)(s:Sp)(va:Nat)(kind:Int):(SR n U s va kind).1=(SR n V s va kind).1/\Yn (SR n U s va kind).2 (SR n V s va kind).2:=by
 obtain⟨t1,t2⟩:=GZ (n:=n) h s va kind;unfold SR;rw[t1];cases Vo kind==0 with
 |true=>exact⟨I,h⟩
 |false=>
  dsimp only[cond];cases(SY n V s va kind).1.2.SU !=0 with
  |true=>exact⟨I,t2⟩
  |false=>
   dsimp only[cond];cases decide ((SY n V s va kind).1.1<((n*64:Nat):Int))||((kind !=1)&&iG (SY n V s va kind).1.1)with
   |true=>exact⟨t1,t2⟩
   |false=>exact⟨I,t2⟩
theorem do_eqm(h:Yn U V)(op nn:Int):(ls n s op nn U d).1=(ls n s op nn V d).1/\(ls n s op nn U d).2.2=(ls n s op nn V d).2.2/\Yn (ls n s op nn U d).2.1 (ls n s op nn V d).2.1:=by
 have e:(⟨U.m.calm,U.t⟩:UI)=⟨V.m.calm,V.t⟩:=by unfold UO.calm;rw[h.d,h.t]
 unfold ls;rw[e];cases !s.right with
 |true=>exact⟨I,I,h⟩
 |false=>
  cases dQ s op nn !=0 with
  |true=>exact⟨I,I,I,I⟩
  |false=>exact⟨I,I,I,I⟩
end
section
variable{C:Cx}{fr:Fr}{d:Option Nat}{T:TypeId}{x:Operand}{ty:TypeId}{pos:String}{af:Array Edge}{gd:Option (Nat×Bool)}{g:Bool}
theorem tL{i:Nat}{fs:Array Field}{f:Field}{vs:List Value}{v:Value}(hT:C.P.underlying T=some (.struct fs))(hf:fs[i]? =some f)(he:∀w,(isAgg f.type).run C.P w= .ok false w)(hx:Ev fr g x (.agg vs.toArray))(hv:vs[f.offset]? =some v):
  Ve C ⟨d,.field T x i,ty,pos,af,gd⟩ fr g Vr v:=λa w hfr _ hg=>by
 have h1:=hx.eval hfr hg;have hr:(Instr.field T (.agg vs.toArray) i).run C.P w= .ok v w:=by
  simp[Instr.field,run_underlying hT,hf,asAgg,part,he,hv]
 simp[execOp,h1,hr]
end
def freeN(ow:Li)(k:Nat):Nat:=J ((List.range' 16 (k - 16)).filter (λf=>ow[f]? ==some (-1)))
end Go.Ink
namespace Go.Ink
open List renaming length→J, replicate→R9
open IntKind renaming wrap→V9
open Go.RowKit
def UO.load(n:Nat)(l:Li):UO:=(UO.new n).fill 0 l (J l)
theorem UO.Uc(n:Nat):(UO.new n).ok n:=⟨az,λx hx=>by rw[List.eq_of_mem_replicate hx];decide,az⟩
theorem PI{n:Nat}{l k:Li}(hb:Vh l)(hk:J k<=1024)(hkb:Vh k):VN n St.new ⟨UO.load n l,cX⟩ (UF.init k):=
 ⟨Sg,rfl,⟨(UO.Uc n).fill 0 hb _,rc⟩,UF.TT hk hkb,⟨Int.le_refl _,show(0:Int)<=255 by decide⟩⟩
end Go.Ink
namespace Go.Proofs.YtepfimeihngjoaaGreatDoor
open List renaming length→J, replicate→R9
open IntKind renaming wrap→V9
open Go.RowKit Go.Ink Go.Proofs.Tryz
attribute [local irreducible] Ve bN
structure ug where
 bg:Nat
 bu:Nat
 bb:Nat
 be:Nat
 L:fF
 D:qV
structure VS where
 s:St
 X:dz
 Y:dJ
 U:UI
 d:UF
 o:Option Vy
def engV(be:Nat):Option Vy->Value
 |none=> .pointer none
 |some _=> .p be
def enO(be:Nat):Option Vy->List bJ
 |none=>[]
 |some E=>Vt be E
abbrev Ml(H:ug)(G:VS)(k:Bool):List Value:=[.p H.D.bs,.p H.L.bm,.p H.L.bp,.i (H.L.o:Int),.p H.bu,engV H.be G.o]++(G.s.cells (.slice G.X.Ad (J G.s.d) G.X.cd) (.slice G.X.Ar (J G.s.r) G.X.cr)++[.bool k])
abbrev gRow(H:ug)(G:VS)(k:Bool):bJ:=row H.bg (Ml H G k) 81
abbrev Vp(H:ug)(G:VS):List bJ:=gRow H G false::(WH H.bu H.bb H.L H.D G.s G.X G.Y G.U G.d++[dm (enO H.be G.o)])
structure VS.ok(n:Nat)(G:VS):Prop where
 g:VN n G.s G.U G.d
 e:∀E,G.o=some E->mw E
structure RN(bp o n:Nat)(W ow pr l k:Li)(tr:Bool)(H:ug)(G:VS):Prop where
 hbp:H.L.bp=bp
 ho:H.L.o=o
 hn:H.L.n=n
 hgw:H.L.gw=ow
 hgB:H.L.gB=W
 hgp:H.L.gp=pr.set o n
 hs:G.s=St.new
 hu:G.U=⟨UO.load n l,cX⟩
 hd:G.d=UF.init k
 htr:G.o.isSome=tr
 ok:G.ok n
theorem gnew_ok(bp:Nat)(W ow pr:Li)(hl:eV W ow pr)(o n:Nat)(ho:o<4)(hn0:1<=n)(hn:n<=64)(h1:pr[o]? =some (-1))(hs:(n:Int)+nv pr 4<=240)(hb:∀x,x∈pr->x<=1000)(hno:∀x,x∈ow->x≠(o:Int))(hc:n<=freeN ow 256)
  (A B:Oa) (c e:Nat) (l k:Li) (hll:J l<=n*64) (hlb:Vh l) (hkl:J k<=1024) (hkb:Vh k) (tr:Bool) (w:World) (hi:Inv w (bM [ft bp W ow pr]) [ft bp W ow pr] w)
  (hA:∀w',dc (bM [ft bp W ow pr]) w w'->Rd w' .u8 A (J l) c l) (hB:∀w',dc (bM [ft bp W ow pr]) w w'->Rd w' .u8 B (J k) e k):
  UW prog 66 [.p bp,.i o,NZ A c l B e k n,.bool tr] w [ft bp W ow pr] (λv cs=>∃H G,RN bp o n W ow pr l k tr H G/\v= .tuple #[.p H.bg,.i 0]/\cs=Vp H G):=by
 have hG:=PI (n:=n) (l:=l) (k:=k) hlb hkl hkb;have HM:∀bt bf bg bm,eT (⟨bp,bt,bf,bg,bm,o,n,ow,W,pr.set o n⟩) (UO.new n) ⟨W,ow,pr.set o n,R9 n (-1),R9 n false⟩:=λbt bf bg bm=>
  eT.new (L:=⟨bp,bt,bf,bg,bm,o,n,ow,W,pr.set o n⟩) ho hn0 hn (pr:=pr) hl rfl hno (FX hc)
 have HB:∀(H:ug) (G:VS),H.L.bp=bp->H.L.o=o->H.L.n=n->H.L.gw=ow->H.L.gB=W->H.L.gp=pr.set o n->G.s=St.new->G.U=⟨UO.load n l,cX⟩->G.d=UF.init k->G.o.isSome=tr->(∀E,G.o=some E->mw E)->RN bp o n W ow pr l k tr H G:=λH G a1 a2 a3 a4 a5 a6 a7 a8 a9 a10 a11=>⟨a1,a2,a3,a4,a5,a6,a7,a8,a9,a10,⟨by grind,a11⟩⟩
 have H2:=λbm w h=>Cw bm B e k hkl w h
 unfold UO.load at HB;obtain⟨d,hd⟩:=Do (UF.init k);rw[hd]at H2 HB;clear hG hd;refine Vb func66 ntmps66 hi ?_;refine An ?_;refine ZO λb6=>?_;refine mv ?_;refine lN ?_;refine Zs (bQ (Vg []) Zk ?_);refine UE 0 0 ?_;refine ZG 1 ?_;refine ZE 2 ?_;refine UE 4 2 ?_;refine ZG 5 ?_;refine UY 6 I (CT py py I) ?_;refine cP 3 Zk (V1 (λw hi=>Mf (J l) O w) ?_);refine UR ?_;refine ZE 7 ?_;refine ZE 8 ?_;refine ZFf 9 1 ?_;refine Zy7 10 I (bR I I) (bO ir (cO I)) (cT Zh I) ?_;refine ZF 11 ?_;refine ZF 12 ?_;refine ZE 13 ?_;refine ZE 14 ?_;refine fh ?_;refine Zt (cK I (bZ) ?_);refine U8 ?_;refine dH ([ft bp W ow pr]) (λw hi hin=>K5 bp W ow pr hl o n ho hn0 hn h1 hs hb w hin) ?_;rintro _ _ ⟨bt,bf,bg,rfl,rfl⟩;refine r7 ?_;refine UU ?_;refine Vl (λw hi=>Kp bp bt w) ?_;rintro _ _ ⟨bm,rfl,rfl⟩;refine U8 ?_;refine yt (bs:=[bp,bt,bf,bg,bm]) (F:=Ib ⟨bp,bt,bf,bg,bm,o,n,ow,W,pr.set o n⟩ (R9 64 false)) (hb:=λ_=>I) (p:=eT ⟨bp,bt,bf,bg,bm,o,n,ow,W,pr.set o n⟩ (UO.new n)) ⟨W,ow,pr.set o n,R9 n (-1),R9 n false⟩ (HM bt bf bg bm) Zi (UN ?_);refine Vq ([fM ⟨bp,bt,bf,bg,bm,o,n,ow,W,pr.set o n⟩ (UO.new n)]) (λw hi hin=>Fj ⟨bp,bt,bf,bg,bm,o,n,ow,W,pr.set o n⟩ (UO.new n) A c l hll hlb w hin (λw' hk=>hA w' (hi.TC Zi hk))) ?_;refine US ?_;refine Vl (λw hi=>H2 bm w (hB w hi.To)) ?_;rintro _ _ ⟨D,rfl,rfl⟩;refine eL ?_;refine Vl (λw hi=>BF bm w) ?_;rintro _ _ ⟨bu,bb,rfl,rfl⟩;refine kF ?_;refine UZ (λw hi=>Uc w) ?_;refine ZA ?_;refine ZO λb77=>?_
 refine Nv ?_;refine Wc ?_ ?_<;>intro hc13
 .refine An ?_;refine Vl (λw hi=>qG 32 ⟨by decide,by decide⟩ w) ?_;rintro _ _ ⟨be,E,⟨hE,hE0⟩,rfl,rfl⟩;refine UQ ?_;refine mA (Vt be E) Zi (ZL ?_);refine eL ?_;exact bK (Vp ⟨b77,bu,bb,be,⟨bp,bt,bf,bg,bm,o,n,ow,W,pr.set o n⟩,D⟩ ⟨St.new,⟨none,0,none,0⟩,⟨none,0,none,0⟩,⟨(UO.new n).fill 0 l (J l),cX⟩,d,some E⟩) Zj (wB (cs':=(Vp ⟨b77,bu,bb,be,⟨bp,bt,bf,bg,bm,o,n,ow,W,pr.set o n⟩,D⟩ ⟨St.new,⟨none,0,none,0⟩,⟨none,0,none,0⟩,⟨(UO.new n).fill 0 l (J l),cX⟩,d,some E⟩)) (.inl I) Zu I I I ⟨⟨b77,bu,bb,be,⟨bp,bt,bf,bg,bm,o,n,ow,W,pr.set o n⟩,D⟩,⟨St.new,⟨none,0,none,0⟩,⟨none,0,none,0⟩,⟨(UO.new n).fill 0 l (J l),cX⟩,d,some E⟩,HB _ _ I I I I I I I I I (show true=tr from hc13.symm) (λE' h=>by grind),rfl,rfl⟩)
 refine eL ?_;exact KE (bK (Vp ⟨b77,bu,bb,0,⟨bp,bt,bf,bg,bm,o,n,ow,W,pr.set o n⟩,D⟩ ⟨St.new,⟨none,0,none,0⟩,⟨none,0,none,0⟩,⟨(UO.new n).fill 0 l (J l),cX⟩,d,none⟩) Zj (wB (cs':=(Vp ⟨b77,bu,bb,0,⟨bp,bt,bf,bg,bm,o,n,ow,W,pr.set o n⟩,D⟩ ⟨St.new,⟨none,0,none,0⟩,⟨none,0,none,0⟩,⟨(UO.new n).fill 0 l (J l),cX⟩,d,none⟩)) (.inl I) Zu I I I ⟨⟨b77,bu,bb,0,⟨bp,bt,bf,bg,bm,o,n,ow,W,pr.set o n⟩,D⟩,⟨St.new,⟨none,0,none,0⟩,⟨none,0,none,0⟩,⟨(UO.new n).fill 0 l (J l),cX⟩,d,none⟩,HB _ _ I I I I I I I I I (show false=tr from hc13.symm) (λE' h=>by cases h),rfl,rfl⟩))
theorem qt(H:ug)(G:VS)(w:World)(h:(gRow H G false).ok w)(h2:iL w G.s G.X.Ad G.X.Ar G.X.cd G.X.cr):UW prog 17 [.p H.bg] w [] (CK G.s):=by
 refine UV func17 ntmps17 ?_;refine An ?_;refine ZN λb2=>?_;refine US ?_;refine dZ (bX (vs:=G.s.cells (.slice G.X.Ad (J G.s.d) G.X.cd) (.slice G.X.Ar (J G.s.r) G.X.cr)) ir ir py) (oE (o:=6) h I) I (Vl (λw hi=>pL G.s G.X.Ad G.X.Ar G.X.cd G.X.cr w (h2.Tb hi)) ?_);rintro _ _ ⟨A1,c1,A2,c2,rfl,rfl⟩;refine oV ?_;exact lL (cs':=[Vf G.s A1 c1,Vj G.s A2 c2]) (.inl I) Zu I I Zh ir ir ⟨A1,c1,A2,c2,I,I⟩
theorem Qe(be bu bb:Nat)(L:fF)(hn:L.n<=1000000)(D:qV)(Y:dJ)(s:St)(Ad Ar:Oa)(cd cr:Nat)(U:UI)(d:UF)(hG:VN L.n s U d)(m:Int)(hm0: -9223372036854775808<=m)(hm:m<=1000000)(ho:J d.out+8*m.toNat+8<=1000000000)(E:Vy)(hE:mw E)(w:World)(hi:Inv w (bM (WT be bu bb L D Y U d E)) (WT be bu bb L D Y U d E) w)
  (h:∀w',dc (bM (WT be bu bb L D Y U d E)) w w'->iL w' s Ad Ar cd cr) (ht:∀w',dc (bM (WT be bu bb L D Y U d E)) w w'->iU w'):
  UW prog 74 [.p be,sv s Ad cd Ar cr,.p bu,.p D.bs,.i m] w (WT be bu bb L D Y U d E)
   (λv cs=>∃X' Y' E',mw E'/\v=sv (eH L.n m s U d).1 X'.Ad X'.cd X'.Ar X'.cr/\cs=WJ be bu bb L D (eH L.n m s U d).1 X' Y' (eH L.n m s U d).2.1 (eH L.n m s U d).2.2 E'):=by
 refine(Ga be bu bb L hn D Y s Ad Ar cd cr U d hG m hm0 hm ho E hE w hi h ht).mono ?_
 grind [Dl,hE.eg]
theorem vE(H:ug)(G:VS)(hn:H.L.n<=1000000)(hG:G.ok H.L.n)(m:Int)(hm0: -9223372036854775808<=m)(hm:m<=1000000)(ho:J G.d.out+8*m.toNat+8<=1000000000)(w:World)(hi:Inv w (bM (Vp H G)) (Vp H G) w)(ht:∀w',dc (bM (Vp H G)) w w'->iU w'):
  UW prog 18 [.p H.bg,.i m] w (Vp H G)
   (λv cs=>∃G',(G'.ok H.L.n/\(G'.s,G'.U,G'.d)=eH H.L.n m G.s G.U G.d/\G'.o.isSome=G.o.isSome)/\v= .i (V9 .i64 (V9 .u64 ((eH H.L.n m G.s G.U G.d).1.count - G.s.count)))/\cs=Vp H G'):=by
 obtain⟨s,X,Y,U,d,o⟩:=G;have hg:=hG.g;dsimp only at hg ho|-;obtain⟨hd16,hr16, -⟩:=St.fits hg.right;have hg2:VN H.L.n (eH H.L.n m s U d).1 (eH H.L.n m s U d).2.1 (eH H.L.n m s U d).2.2:=(Dl hn m hg (gR.fresh (room:=8) ⟨by decide,by decide⟩)).2.2.1;cases o with
 |none=>
  have HR:=run_ok H.bu H.bb H.L H.D Y s X.Ad X.Ar X.cd X.cr U d hg m hm0 hm ho;obtain⟨⟨s2,U2,d2⟩,hq⟩:=Do (eH H.L.n m s U d);rw[hq]at HR hg2|-;dsimp only at hg2;refine Vb func18 ntmps18 hi ?_;refine eL ?_;refine XR 22 ?_;refine rZ ?_;refine jS ?_;refine An ?_;refine lN ?_;refine bQ (Vg [14,17]) Zk (CA ?_);refine UE 3 6 ?_;refine Vn 4 I (bX (vs:=s.cells (.slice X.Ad (J s.d) X.cd) (.slice X.Ar (J s.r) X.cr)) ir ir py) (cq (o:=6) Zh I) ?_;refine qM ?_;refine UE 7 4 ?_;refine wT ?_;refine ZE 10 ?_;refine UE 11 0 ?_;refine ZG 12 ?_;refine ZE 13 ?_;refine ku ?_;refine rX (VK H.bu H.bb H.L H.D Y U d) (λw hi hin=>HR w hin (λw' hk=>hi.TS Zi (UJ (Vf s X.Ad X.cd)) (UJ (Vj s X.Ar X.cr)) O O hk) (λw' hk=>ht w' (hi.TC Zi hk))) ?_;rintro _ _ ⟨X2,Y2,rfl,rfl⟩;refine ZE 15 ?_;refine UE 16 6 ?_;refine cP 17 Zk (fq I I (eo (ys:=Ml H ⟨s2,X2,Y2,U2,d2,none⟩ false) (n:=16) (vs:=s2.cells (.slice X2.Ad (J s2.d) X2.cd) (.slice X2.Ar (J s2.r) X2.cr)) I ir I I (jR I) Za I (Nat.le_of_ble_eq_true I)) ZJ ?_);refine UR ?_;refine fh ?_;refine U8 ?_;refine sa ?_;refine wo ?_;refine UK ?_;refine bK (Vp H ⟨s2,X2,Y2,U2,d2,none⟩) Zj (VA ((Vp H ⟨s2,X2,Y2,U2,d2,none⟩)) ?_);exact⟨⟨s2,X2,Y2,U2,d2,none⟩,⟨⟨hg2,λE h=>by cases h⟩,rfl,rfl⟩,rfl,rfl⟩
 |some E=>
  have hE:=hG.e E I;have HR:=Qe H.be H.bu H.bb H.L hn H.D Y s X.Ad X.Ar X.cd X.cr U d hg m hm0 hm ho;obtain⟨⟨s2,U2,d2⟩,hq⟩:=Do (eH H.L.n m s U d);rw[hq]at HR hg2|-;dsimp only at hg2;refine Vb func18 ntmps18 hi ?_;refine eL ?_;refine XR 22 ?_;refine rZ ?_;refine Jm ?_;refine Jx (bs:=bM (Vt H.be E)) (F:=λ_:Unit=>Vt H.be E) (hb:=λ_=>I) (p:=λ_=>True) Zd (λ_ _=>?_);refine UN ?_;refine iS ?_;refine Zs (bQ (Vg [9]) Zk ?_);refine lO ?_;refine UE 2 5 ?_;refine wP ?_;refine UE 6 1 ?_;refine iK ?_;refine m4 ?_;refine gg ?_;refine V1 (λw hi=>rj H.L U.m w (hi.get (UJ (fM H.L U.m)))) ?_;rintro _ _ ⟨A3,c3,rfl,rfl⟩;refine kt ?_;refine rX (enP H.be E A3 c3 (ee U.m.SX 64)) (λw hi hin=>xX H.be E hE A3 c3 (ee U.m.SX 64) w hin) ?_;rintro _ _ ⟨E2,rfl,hE2, -⟩;refine fh ?_;refine Zt (bQ (Vg [18,21]) Zk ?_);refine CA ?_;refine UE 3 5 ?_;refine ZG 4 ?_;refine qM ?_;refine UE 7 6 ?_;refine Vn 8 I (bX (vs:=s.cells (.slice X.Ad (J s.d) X.cd) (.slice X.Ar (J s.r) X.cr)) ir ir py) (cq (o:=6) Zh I) ?_;refine ZE 9 ?_;refine ZE 10 ?_;refine UE 11 4 ?_;refine ZG 12 ?_;refine ZE 13 ?_;refine ZE 14 ?_;refine UE 15 0 ?_;refine ZG 16 ?_;refine ZE 17 ?_;refine cP 18 Zk (rX (WT H.be H.bu H.bb H.L H.D Y U d E2) (λw hi hin=>HR E2 hE2 w hin (λw' hk=>hi.TS Zi (UJ (Vf s X.Ad X.cd)) (UJ (Vj s X.Ar X.cr)) O O hk) (λw' hk=>ht w' (hi.TC Zi hk))) ?_);rintro _ _ ⟨X2,Y2,E3,hE3,rfl,rfl⟩;refine ZE 19 ?_;refine UE 20 6 ?_;refine cP 21 Zk (fq I I (eo (ys:=Ml H ⟨s2,X2,Y2,U2,d2,some E3⟩ false) (n:=16) (vs:=s2.cells (.slice X2.Ad (J s2.d) X2.cd) (.slice X2.Ar (J s2.r) X2.cr)) I ir I I (jR I) Za I (Nat.le_of_ble_eq_true I)) ZJ ?_);refine UR ?_;refine fh ?_;refine UN ?_;refine mA (Vt H.be E3) Zi (UU ?_);refine sa ?_;refine wo ?_;refine UK ?_;refine bK (Vp H ⟨s2,X2,Y2,U2,d2,some E3⟩) Zj (VA ((Vp H ⟨s2,X2,Y2,U2,d2,some E3⟩)) ?_);exact⟨⟨s2,X2,Y2,U2,d2,some E3⟩,⟨⟨hg2,λE h=>by grind⟩,rfl,rfl⟩,rfl,rfl⟩
end Go.Proofs.YtepfimeihngjoaaGreatDoor
