/- Lemmas. -/
import Derived.Test.YtepfimeihngjoaaGreatDoorXbb
import Derived.Test.YtepfimeihngjoaaGreatDoorXbc
import Derived.Test.YtepfimeihngjoaaGreatDoorXbd
import Derived.Test.YtepfimeihngjoaaGreatDoorXbe
set_option linter.all false
set_option maxRecDepth 100000
set_option maxHeartbeats 4000000
namespace Go.Ink
open List renaming length→J, replicate→R9
open IntKind renaming wrap→V9
open Go.RowKit Go.Proofs.Tryz
variable{k:Nat}
section
attribute [local irreducible] Ve bN
variable{n:Nat}
variable{b:Li}
variable{s:St}{U:UI}{d:UF}
variable{o e:Nat}
def jF(E:VB)(s:St)(place:Int)(b:Li):Option (St×Rn×Int)×VB:=match lE E (s.pc,place) b with
 |(none,E')=>(none,E')
 |(some (t,r),E')=>bif(iE t.code s).2==1 then(some ((iE t.code s).1,r,t.count),{E' with last:=(s.pc,place),begun:=true,Ti:=V9 .i64 (E'.Ti+t.count)})else(none,E')
def WO(n:Nat)(s:St)(U:UI)(d:UF)(E:VB):(St×UI×UF)×VB:=
 let b:=cI n s U d
 bif b.runs then
  match jF E b.s b.place (iQ b.u.m b.place.toNat)with
  |(none,E')=>jG n (b.place.toNat/64) 8 b.s b.place.toNat b.u b.d E'
  |(some (o,r,c),E')=>bif(r.ends&&decide (0<c))||o.pc/64 !=b.s.pc/64 then((o,⟨b.u.m.calm,b.u.t⟩,b.d),E')
    else jG n ((b.place.toNat+J r.bytes)%4294967296/64) (8 - c).toNat o ((b.place.toNat+J r.bytes)%4294967296) ⟨b.u.m.calm,b.u.t⟩ b.d E'
 else((b.s,b.u,b.d),{E with Tk:=V9 .i64 (E.Tk+V9 .i64 (V9 .u64 (b.s.count - s.count)))})
variable{α:Type}{room:Int}{t:α}
variable{E:VB}
theorem Fe{C:List HI}(h:((iE C s).2==1)=true):∃M,ka C 4096 ⟨R9 16 0,TB s,0⟩=((1,1),M)/\(iE C s).1=oR M.words s:=by
 grind [iE,Fg,ka,TB,nq]
theorem Gg(hn:n<=1000000)(h:VN n s U d)(hE:gR E):(WO n s U d E).1=cS n s U d/\gR (WO n s U d E).2/\
  ∃c:Nat,c<=8/\GB E (WO n s U d E).2 c/\(cS n s U d).1.count=V9 .u64 (s.count+(c:Int)):=by
 have hb:=kE h;have hbp:=wj h;unfold WO cS;obtain⟨b,hbe⟩:=Do (cI n s U d);rw[hbe]at hb hbp|-;dsimp only;have hsc:=h.wf.count;cases hr:b.runs with
 |false=>
  refine fE ?_;refine⟨trivial,hE.same I I I,?_⟩;cases hh:s.halted with
  |true=>
   have e:=hb.held hh;have es:b.s=s:=by rw[e]
   refine⟨0,by omega,⟨λh1 h2 h3=>?_,I⟩,?_⟩
   .grind [IntKind.wrap_i64,IntKind.wrap_u64]
   grind [IntKind.wrap_u64]
  |false=>
   obtain⟨c1,c2⟩:=hb.stays hr hh;refine⟨1,by omega,⟨λh1 h2 h3=>?_,I⟩,c1⟩
   grind [IntKind.wrap_i64,IntKind.wrap_u64]
 |true=>
  simp only[ah];obtain⟨c1,c2,c3⟩:=hb.runs hr;obtain⟨q1,q2⟩:=hbp hr;have hg:=hb.g;have hp0:=hb.place;have hpc:=hg.wf.pc;have qs:((b.place.toNat:Nat):Int)=b.place:=Int.toNat_of_nonneg hp0.1;have hbb:=u6 hg.u.m b.place.toNat;obtain⟨f1,f2,f3,f4,f5⟩:=qB hE (k:=(b.s.pc,b.place)) hbb;unfold jF;obtain⟨⟨o,E1⟩,hf⟩:=Do (lE E (b.s.pc,b.place) (iQ b.u.m b.place.toNat));rw[hf]at f1 f2 f3 f4 f5|-;dsimp only at f1 f2 f3 f4 f5;have slowly:(jG n (b.place.toNat/64) 8 b.s b.place.toNat b.u b.d E1).1=dR n (b.place.toNat/64) 8 b.s b.place.toNat b.u b.d/\gR (jG n (b.place.toNat/64) 8 b.s b.place.toNat b.u b.d E1).2/\
    ∃c:Nat,c<=8/\GB E (jG n (b.place.toNat/64) 8 b.s b.place.toNat b.u b.d E1).2 c/\(dR n (b.place.toNat/64) 8 b.s b.place.toNat b.u b.d).1.count=V9 .u64 (s.count+(c:Int)):=by
   obtain⟨r1,r2,c,r3,r4,r5⟩:=yW (Tc:=b.place.toNat/64) 8 b.place.toNat hg f1;refine⟨r1,r2,c,r3,⟨λh1 h2 h3=>?_,r4.room.trans f2⟩,by rw[r5,c1]⟩;obtain⟨a1,a2,a3,a4⟩:=r4.Ti O O O;exact⟨a1,a2,by omega,by omega⟩
  cases o with
  |none=>exact slowly
  |some tr=>
   obtain⟨t,r⟩:=tr;dsimp only;cases hdone:(iE t.code b.s).2==1 with
   |false=>exact slowly
   |true=>
    refine ix ?_;obtain⟨p,il,g1,g2,g3,g4,g5,g6,g7⟩:=f5 t r I;obtain⟨M,hM,hout⟩:=Fe hdone;rw[g3]at hM;obtain⟨k1,k2,k3,k4,k5,k6, -, -, -⟩:=ET hg.u hg.dv hg.wf hg.right g6 g1 g2 hM;rw[hout];obtain⟨s2,hs2⟩:=Do (oR M.words b.s);rw[hs2]at k1 k2 k3 k4|-;obtain⟨Tc,hpage⟩:=Do (b.place.toNat/64);obtain⟨ofs,hofs⟩:=Do (b.place.toNat%64);have hpo:b.place.toNat=Tc*64+ofs:=by omega
    have hst:lJ ((b.u.m.data.drop (Tc*64)).take 64) ofs il (ofs+J r.bytes):=by
     have:=g5;unfold iQ at this;rw[hpage,hofs]at this;simpa using this.shift
    have hil:il≠[]:=λe=>by grind
    have hse:=(hst.ends hil).1;rw[aO]at hse;obtain⟨c4,c5,c6⟩:=xx hn (Tc:=Tc) O il ofs 8 (e:=ofs+J r.bytes) (U:=b.u) b.d hil k1 k6 hst hpc.1 (by have:=hpc.2;omega) O (c2.trans c3);rw[hpage,hpo,c6,g7,g4];have hc0:decide ((0:Int)<(J il:Int))=true:=ap O
    rw[hc0,Bool.and_true];have hE2:gR {E1 with last:=(b.s.pc,b.place),begun:=true,Ti:=V9 .i64 (E1.Ti+(J il:Int))}:=f1.same I I I;obtain⟨E2,he2⟩:=Do (({E1 with last:=(b.s.pc,b.place),begun:=true,Ti:=V9 .i64 (E1.Ti+(J il:Int))}:VB));have hu2:GB E E2 (J il):=⟨λh1 h2 h3=>by
     grind [IntKind.wrap_i64],by grind⟩
    have hcnt:s2.count=V9 .u64 (s.count+(J il:Int)):=by
     have:=congrArg St.count k4;dsimp only at this;rw[this,c1]
    rw[he2]at hE2|-;have hhg:VN n s2 ⟨b.u.m.calm,b.u.t⟩ b.d:=⟨k2,k3,⟨hg.u.m.calm,hg.u.t⟩,hg.dv,hg.lines⟩;cases hend:gz (il.getLastD (0,0)).1||s2.pc/64 !=b.s.pc/64 with
    |true=>
     grind
    |false=>
     simp only[ac];obtain⟨e1,e2⟩:=aZ.1 hend;have e3:=c5 e1;simp only[bne_eq_false_iff_eq]at e2;have hlt:ofs+J r.bytes<64:=by
      rw[e3,au]at e2;have h0:=hpc.1;have h1:=hpc.2;omega
     have ea:(Tc*64+ofs+J r.bytes)%4294967296=Tc*64+(ofs+J r.bytes):=by omega
     have eb:(Tc*64+(ofs+J r.bytes))/64=Tc:=by omega
     have ec:((8:Int) - (J il:Int)).toNat=8 - J il:=by omega
     rw[ea,eb,ec];obtain⟨r1,r2,c,r3,r4,r5⟩:=yW (Tc:=Tc) (8 - J il) (Tc*64+(ofs+J r.bytes)) hhg hE2;refine⟨r1,r2,J il+c,by omega,⟨λh1 h2 h3=>?_,r4.room.trans hu2.room⟩,?_⟩
     .obtain⟨a1,a2,a3,a4⟩:=hu2.Ti h1 h2 O;obtain⟨b1,b2,b3,b4⟩:=r4.Ti a1 a2 O;omega
     simp_all [lQ]
def lY(n:Nat)(m from_:Int):Nat->(St×UI×UF)×VB->(St×UI×UF)×VB
 |0,q=>q
 |k+1,q=>bif fH m from_ q.1.1 then lY n m from_ k (WO n q.1.1 q.1.2.1 q.1.2.2 q.2)else q
def Kn(n:Nat)(m:Int)(s:St)(U:UI)(d:UF)(E:VB):(St×UI×UF)×VB:=lY n m s.count m.toNat ((s,U,d),E)
variable{q:(St×UI×UF)×VB}
theorem uQ{m from_:Int}(h:fH m from_ q.1.1=false):lY n m from_ k q=q:=by
 cases k with
 |zero=>rfl
 |succ k=>
  unfold lY;rw[h]
  rfl
theorem AX{m from_:Int}(h:fH m from_ q.1.1=true):lY n m from_ (k+1) q=lY n m from_ k (WO n q.1.1 q.1.2.1 q.1.2.2 q.2):=by
 rw[lY,h]
 rfl
theorem M6(h:VN n s U d):VN n (cS n s U d).1 (cS n s U d).2.1 (cS n s U d).2.2:=by
 rcases rS h with h1|⟨-, -,h3, -⟩
 .exact h1.g
 exact h3
theorem AW{n:Nat}(hn:n<=1000000){m f:Int}:∀(k:Nat) {q:St×UI×UF} {E:VB},VN n q.1 q.2.1 q.2.2->gR E->
  (lY n m f k (q,E)).1=kJ n m f k q/\gR (lY n m f k (q,E)).2/\VN n (kJ n m f k q).1 (kJ n m f k q).2.1 (kJ n m f k q).2.2/\
  ∃c:Nat,c<=8*k/\GB E (lY n m f k (q,E)).2 c/\(kJ n m f k q).1.count=V9 .u64 (q.1.count+(c:Int))
 |0,q,E,h,hE=>⟨rfl,hE,h,0,aK _,.zero E,by have:=h.wf.count;show q.1.count=V9 .u64 (q.1.count+0);rw[aP];omega⟩
 |k+1,q,E,h,hE=>by
  cases hc:fH m f q.1 with
  |false=>
   rw[uQ (q:=(q,E)) hc,kz hc];exact⟨I,hE,h,0,ax _,.zero E,by have:=h.wf.count;show q.1.count=V9 .u64 (q.1.count+0);rw[aP];omega⟩
  |true=>
   rw[AX (q:=(q,E)) hc,oq hc];obtain⟨d1,d2,c,d3,d4,d5⟩:=Gg hn h hE;have hg:=M6 h;dsimp only;obtain⟨⟨q1,E1⟩,hz⟩:=Do (WO n q.1 q.2.1 q.2.2 E);rw[hz]at d1 d2 d4|-;dsimp only at d1 d2 d4;rw[<-d1]at d5 hg|-;obtain⟨r1,r2,r3,c',r4,r5,r6⟩:=AW hn (m:=m) (f:=f) k hg d2;refine⟨r1,r2,r3,c+c',by omega,d4.trans r5,?_⟩;rw[r6,d5,lQ,show(c:Int)+(c':Int)=((c+c':Nat):Int) by omega]
theorem Dl(hn:n<=1000000)(m:Int){s:St}{U:UI}{d:UF}{E:VB}(h:VN n s U d)(hE:gR E):
  (Kn n m s U d E).1=eH n m s U d/\gR (Kn n m s U d E).2/\VN n (eH n m s U d).1 (eH n m s U d).2.1 (eH n m s U d).2.2/\
  ∃c:Nat,c<=8*m.toNat/\GB E (Kn n m s U d E).2 c/\(eH n m s U d).1.count=V9 .u64 (s.count+(c:Int)):=AW hn m.toNat (q:=(s,U,d)) h hE
end
end Go.Ink
namespace Go.Ink
open List renaming length→J, replicate→R9
open IntKind renaming wrap→V9
open Go.RowKit Go.Proofs.Tryz
variable{d:UF}
variable{k:Nat}
section
attribute [local irreducible] Ve bN
variable{n:Nat}{s:St}{U:UI}
theorem Vc.rest{n Tc:Nat}:∀(k:Nat) {s:St} {p:Nat} {U:UI} {d:UF},VN n s U d->Vc n U.m->Vc n (dR n Tc k s p U d).2.1.m
 |0,s,p,U,d,_,h=>h
 |k+1,s,p,U,d,hG,h=>by
  unfold dR;cases hf:dL n U.m p with
  |none=>exact h
  |some o=>
   obtain⟨⟨op,nn⟩,z⟩:=o;obtain⟨f1, -⟩:=jz hG.u.m hf;have hg:=pI (op:=op) (nn:=nn) hG.wf hG.right f1 hG.u hG.dv;have hl:=oM (n:=n) (op:=op) (nn:=nn) (s:=s) (U:=U) hG.lines;have hm:=h.do (d:=d) hG.dv.wf (s:=s) hG.wf.d op nn;obtain⟨⟨q,U1,d1⟩,hq⟩:=Do (ls n s op nn U d);rw[hq]at hg hl hm;obtain⟨g1,g2, -,g4,g5, -⟩:=hg;dsimp only at g1 g2 g4 g5 hl hm|-;rw[hq];dsimp only;cases jh op q Tc s.pc with
   |false=>exact hm
   |true=>exact Vc.rest k ⟨g1,g2,g4,g5,hl⟩ hm
theorem Vc.block(hG:VN n s U d)(h:Vc n U.m)(hw:∀root va kind SQ,Vc n (dE n U.m root va kind SQ).2):Vc n (cS n s U d).2.1.m:=by
 have hb:=(kE hG).g;have hm:=h.begin (s:=s) (d:=d) hw;unfold cS;dsimp only;cases(cI n s U d).runs with
 |true=>exact Vc.rest 8 hb hm
 |false=>exact hm
theorem uX(K:gi)(bx n b bd:Nat)(Z:dJ)(s:St)(Ad Ar:Oa)(cd cr:Nat)(U:UI)(d:UF)(hG:VN n s U d)(hM:Vc n U.m)(ho:J d.out+8<=1000000000)(w:World)(hi:Inv w (bM (V7 K bx n b bd Z U d)) (V7 K bx n b bd Z U d) w)
  (h:∀w',dc (bM (V7 K bx n b bd Z U d)) w w'->iL w' s Ad Ar cd cr):
  UW prog 70 [sv s Ad cd Ar cr,.p bx,.p b] w (V7 K bx n b bd Z U d)
   (λv cs=>∃(X':dz) (Z':dJ),v=sv (cS n s U d).1 X'.Ad X'.cd X'.Ar X'.cr/\cs=[Vf (cS n s U d).1 X'.Ad X'.cd,Vj (cS n s U d).1 X'.Ar X'.cr]++V7 K bx n b bd Z' (cS n s U d).2.1 (cS n s U d).2.2):=by
 have HB:=DF K bx n b bd Z s hG.wf hG.right Ad Ar cd cr U hM hG.u.t d (oh hG.lines _);have hb:=kE hG;have hMb:=hM.begin (s:=s) (d:=d) (λroot va kind SQ=>hM.walk root va kind SQ);have hN:=λs1 U1 d1 pl h=>x6 (n:=n) (s:=s) (s1:=s1) (U:=U) (U1:=U1) (d:=d) (d1:=d1) (pl:=pl) h
 have hY:=λs1 U1 d1 pl h=>wi (n:=n) (s:=s) (s1:=s1) (U:=U) (U1:=U1) (d:=d) (d1:=d1) (pl:=pl) h
 obtain⟨⟨s1,pl,rn,U1,d1⟩,hbe⟩:=Do (cI n s U d);rw[hbe]at HB hb hMb hN hY;obtain⟨hg1,hpl,hout, -, -, -⟩:=hb;dsimp only at hg1 hpl hout hMb;obtain⟨pl,rfl⟩:∃m:Nat,pl=m:=aj hpl.1;have hpl2:=hpl.2;have hpl3:pl<=4294967295:=by omega
 obtain⟨⟨s9,U9,d9⟩,hR⟩:=Do (cS n s U d);rw[hR]at hN hY|-;obtain⟨o0,hoo⟩:=Do (J d1.out);have ho1:o0+8<=1000000000:=by rw[<-hoo,hout];exact ho
 have ho0:J d1.out<=o0+0:=by rw[hoo];exact aK _
 refine Vb func70 ntmps70 hi ?_;refine An ?_;refine ZO λb3=>?_;refine ZN λb6=>?_
 refine US ?_;refine dH (V7 K bx n b bd Z U d) (λw hi hin=>HB w hin (λw' hk=>h w' (hi.Ub (λc hc=>by simp only[V7,VD,V6,nD,eI,aJ,aI,aY]at hc|-;grind) hk))) ?_;rintro _ _ ⟨X1,rfl,rfl⟩;refine UK ?_;refine ZM ?_;refine yh ?_ ?_<;>intro hc2
 .obtain rfl:rn=false:=(by cases rn with|false=>rfl|true=>cases hc2);have e:=hN s1 U1 d1 pl I;rw[aB,aB]at e;obtain⟨rfl,rfl,rfl⟩:=e;refine UN ?_;refine ij ?_;exact bK (row b6 (s9.cells (.slice X1.Ad (J s9.d) X1.cd) (.slice X1.Ar (J s9.r) X1.cr)) 36::([Vf s9 X1.Ad X1.cd,Vj s9 X1.Ar X1.cr]++V7 K bx n b bd Z U9 d9)) Zj (lL (cs':=([Vf s9 X1.Ad X1.cd,Vj s9 X1.Ar X1.cr]++V7 K bx n b bd Z U9 d9)) (.inl I) Zu I I Zh ir ir ⟨X1,Z,I,I⟩)
 obtain rfl:rn=true:=(by cases rn with|true=>rfl|false=>cases hc2);have hR0:=(hY s1 U1 d1 pl I).symm;obtain⟨pg,hpg⟩:=Do (pl/64);have hpq:V9 .u32 ((pl:Int).tdiv 64)=(pg:Int):=(by rw[bl O,u32_wrap_id _ O O];omega);rw[hpg]at hR0;have hpgl:pg<=4294967295:=O;clear hpg;refine Z8 ?_;refine gE (row b3 (s1.cells (.slice X1.Ad (J s1.d) X1.cd) (.slice X1.Ar (J s1.r) X1.cr)) 36::row b6 (St.zero.cells (.slice none 0 0) (.slice none 0 0)) 36::Vf s1 X1.Ad X1.cd::Vj s1 X1.Ar X1.cr::V7 K bx n b bd Z U1 d1) Zj (UK ?_);refine Vs (λq:Nat×St×dz×Nat×dJ×UI×UF=>[(1,.p bx),(2,.p b),(3,.p b3),(6,.p b6),(7,.w (q.2.2.2.1:Int)),(9,.i (pg:Int)),(10,.i (q.1:Int))]) (λq=>row b3 (q.2.1.cells (.slice q.2.2.1.Ad (J q.2.1.d) q.2.2.1.cd) (.slice q.2.2.1.Ar (J q.2.1.r) q.2.2.1.cr)) 36::row b6 (St.zero.cells (.slice none 0 0) (.slice none 0 0)) 36::Vf q.2.1 q.2.2.1.Ad q.2.2.1.cd::Vj q.2.1 q.2.2.1.Ar q.2.2.1.cr::V7 K bx n b bd q.2.2.2.2.1 q.2.2.2.2.2.1 q.2.2.2.2.2.2) (λq=>q.1<=8/\q.2.2.2.1<=4294967295/\VN n q.2.1 q.2.2.2.2.2.1 q.2.2.2.2.2.2/\Vc n q.2.2.2.2.2.1.m/\J q.2.2.2.2.2.2.out<=o0+q.1/\dR n pg (8 - q.1) q.2.1 q.2.2.2.1 q.2.2.2.2.2.1 q.2.2.2.2.2.2=(s9,U9,d9)) (λq=>8 - q.1) (⟨0,s1,X1,pl,Z,U1,d1⟩) ⟨ax _,hpl3,hg1,hMb,ho0,hR0⟩ ?_;rintro⟨j,s,X,p,Z,U,d⟩ ⟨hj,hp,hG,hM,ho,hRj⟩;dsimp only at hj hp hG hM ho hRj|-;refine VJ ?_ ?_<;>intro hc6
 .simp only[ai]at hc6;have hj8:j<8:=O;obtain⟨k,hkk⟩:∃k,8 - j=k+1:=⟨7 - j,by omega⟩;rw[hkk]at hRj;obtain⟨hd16,hr16, -⟩:=St.fits hG.right;have HF:=Dz K bx n U.t U.m hM p hp;have hN:=uV (n:=n) (Tc:=pg) (k:=k) (s:=s) (p:=p) (U:=U) (d:=d);have hS:=λop nn z q U1 d1 h1 h2=>uU (n:=n) (Tc:=pg) (k:=k) (s:=s) (p:=p) (U:=U) (U1:=U1) (d:=d) (d1:=d1) (op:=op) (nn:=nn) (z:=z) (q:=q) h1 h2
  have hrn:=λop nn z h=>jz hG.u.m (p:=p) (op:=op) (nn:=nn) (z:=z) h
  obtain⟨o,hoq⟩:=Do (dL n U.m p);rw[hoq]at HF hN hS hrn;refine Va ?_;refine UZ (λw hi=>HF w (hi.get (UJ (fv bx K.bm U.t))) (hi.get (UJ (AZ K n))) (hi.get (UJ (rmB K n U.m)))) ?_;refine UN ?_;refine ZN λb11=>?_
  refine qN ?_;refine ZW ?_ ?_<;>intro hc9
  .obtain rfl:o=none:=(by cases o with|none=>rfl|some o=>(obtain⟨⟨op,nn⟩,z⟩:=o;obtain⟨-,hz1, -⟩:=hrn op nn z I;have:=hH hc9;have e:((z:Nat):Int)=0:=this;omega));rw[hN rfl,aB,aB]at hRj;obtain⟨rfl,rfl,rfl⟩:=hRj;refine UN ?_;refine Vl (λw hi=>ov s X.Ad X.Ar X.cd X.cr 1 0 w (hi.TX (UJ (Vf s X.Ad X.cd)) (UJ (Vj s X.Ar X.cr)) (show J s.d*4<=_ by omega) (show J s.r*4<=_ by omega))) ?_;rintro _ _ ⟨A3,c3,A4,c4,rfl,rfl⟩;refine jb ?_;refine kZ ?_;refine lx ?_;refine UQ ?_;refine ZM ?_;refine U8 ?_;exact bK (row b6 ((s.next.S3 1 0).cells (.slice A3 (J s.d) c3) (.slice A4 (J s.r) c4)) 36::([Vf (s.next.S3 1 0) A3 c3,Vj (s.next.S3 1 0) A4 c4]++V7 K bx n b bd Z U d)) Zj (lL (cs':=([Vf (s.next.S3 1 0) A3 c3,Vj (s.next.S3 1 0) A4 c4]++V7 K bx n b bd Z U d)) (.inl I) Zu I I Zh ir ir ⟨⟨A3,c3,A4,c4⟩,Z,I,I⟩)
  obtain⟨⟨⟨op,nn⟩,z⟩,rfl⟩:∃q,o=some q:=(by cases o with|none=>exact absurd hc9 ne|some o=>exact⟨o,I⟩);obtain⟨hnn,hz1,hz5, -⟩:=hrn op nn z I;have HD:=OU s hG.right hG.wf K bx n U b bd Z d hM hG.u.t hG.dv.wf O op nn hnn X.Ad X.Ar X.cd X.cr;have hM1:=hM.do (d:=d) hG.dv.wf (s:=s) hG.wf.d op nn;have hg:=pI (op:=op) (nn:=nn) hG.wf hG.right hnn hG.u hG.dv;have hl:=oM (n:=n) (op:=op) (nn:=nn) (s:=s) (U:=U) hG.lines;obtain⟨⟨q,U1,d1⟩,hq⟩:=Do (ls n s op nn U d);rw[hS op nn z q U1 d1 rfl hq]at hRj;rw[hq]at HD hg hl hM1;obtain⟨g1,g2,g3,g4,g5,g6⟩:=hg;dsimp only at g1 g2 g3 g4 g5 g6 hl hM1;have HX:=λX1 Ap cp w h=>Bl op nn q X1 Ap cp pg s.pc g1.pc hG.wf.pc w h
  obtain⟨nx,hnx⟩:=Do (jh op q pg s.pc);rw[hnx]at HX hRj;refine Va ?_;refine dH (V7 K bx n b bd Z U d) (λw hi hin=>HD w hin (λw' hk=>hi.TS Zi (UJ (Vf s X.Ad X.cd)) (UJ (Vj s X.Ar X.cr)) O O hk)) ?_;rintro _ _ ⟨X1,Z1,Ap,cp,rfl,rfl⟩;refine ZN λb13=>?_
  refine ZM ?_;refine Ξ ?_;refine ZM ?_;refine τ ?_;refine ZW ?_ ?_<;>intro hc16
  .obtain rfl:nx=false:=(by cases nx with|false=>rfl|true=>cases hc16);rw[ac,aB,aB]at hRj;obtain⟨rfl,rfl,rfl⟩:=hRj;refine UN ?_;refine ZM ?_;refine U8 ?_;exact bK (row b6 (q.s.cells (.slice X1.Ad (J q.s.d) X1.cd) (.slice X1.Ar (J q.s.r) X1.cr)) 36::([Vf q.s X1.Ad X1.cd,Vj q.s X1.Ar X1.cr]++V7 K bx n b bd Z1 U1 d1)) Zj (lL (cs':=([Vf q.s X1.Ad X1.cd,Vj q.s X1.Ar X1.cr]++V7 K bx n b bd Z1 U1 d1)) (.inl I) Zu I I Zh ir ir ⟨X1,Z1,I,I⟩)
  obtain rfl:nx=true:=(by cases nx with|true=>rfl|false=>cases hc16);rw[ah]at hRj;refine UQ ?_;refine RG ?_;refine UU ?_;refine W8 ?_;refine Vd ((⟨j+1,q.s,X1,(p+z)%4294967296,Z1,U1,d1⟩:Nat×St×dz×Nat×dJ×UI×UF)) ⟨⟨show j+1<=8 by omega,by show(p+z)%4294967296<=4294967295;omega,⟨g1,g2,g4,g5,hl⟩,hM1,by show J d1.out<=o0+(j+1);omega,by show dR n pg (8 - (j+1)) q.s _ U1 d1=_;rw[show 8 - (j+1)=k by omega];exact hRj⟩,show 8 - (j+1)<8 - j by omega⟩
 simp only[aa]at hc6;obtain rfl:j=8:=O;rw[show 8 - 8=0 from I,dR,aB,aB]at hRj;obtain⟨rfl,rfl,rfl⟩:=hRj;refine Va ?_;refine oV ?_;exact bK (row b6 (s.cells (.slice X.Ad (J s.d) X.cd) (.slice X.Ar (J s.r) X.cr)) 36::([Vf s X.Ad X.cd,Vj s X.Ar X.cr]++V7 K bx n b bd Z U d)) Zj (lL (cs':=([Vf s X.Ad X.cd,Vj s X.Ar X.cr]++V7 K bx n b bd Z U d)) (.inl I) Zu I I Zh ir ir ⟨X,Z,I,I⟩)
end
end Go.Ink
namespace Go.Ink
open List renaming length→J
open IntKind renaming wrap→V9
open Go.RowKit Go.Proofs.Tryz
variable{w:World}
section
attribute [local irreducible] Ve bN
variable{LK:List (Ky×LS)}{k:Ky}
theorem link_rd(h:(dm (V8 LK)).ok w):U5 w 2 (ia LK k).A (ia LK k).ks.length (ia LK k).c ((ia LK k).ks.flatMap cD):=by
 cases hp:cN (λx:Ky×LS=>x.1) k LK with
 |some j=>
  obtain⟨x,hx,hl⟩:=nJ hp;rw[hl];exact cY (oJ h (Ye x) (List.mem_map.2 ⟨_,aG hx,I⟩))
 |none=>
  rw[nK hp];exact⟨I,aK _,ax _,λ_=>⟨I,I⟩,λad e=>nomatch e⟩
theorem QA(bc:Nat)(room:Int)(X:Wn)(hX:pU room X)(f t:Ky)(hkf:lD f):CI prog 147 [.p bc,.agg (cD f).toArray,.agg (cD t).toArray] (VQ bc room X) (λ_ cs=>∃X':Wn,cs=VQ bc room X'/\pU room X'/\X'.Z=X.Z):=λw hi=>by
 have hS:=hX.sm;have hlk:=hX.lk;have hX2:∀LK,CL (X.Z.map BA.key) LK->pU room ⟨X.ml,X.Ac,X.cc,X.fl,LK,X.Z⟩:=λLK h=>⟨hX.rm,hX.len,hX.ba,h⟩
 obtain⟨ml,Ac,cc,fl,LK,Z⟩:=X;dsimp only at hS hlk hX2;have hZ:=hS.1;have HP:=vW bc (.i room) (.map (some ml)) (.i fl) Ac cc Z hZ;have hgv:=Lz LK f;have hget:∀L,gr (Wf LK) f (.slice none 0 0)=L->L=(ia LK f).v:=λL e=>e▸hgv
 refine Vb func147 ntmps147 hi ?_;refine An ?_;refine ZO λb4=>?_;refine ZO λb5=>?_
 refine UQ ?_;rcases ho1:cN BA.key f Z with _|j1
 .refine Wq405 ?_;refine An ?_;refine NP ?_;refine NP ?_;refine Zy (N4 (q:=false) (Zv I) ⟨_,I,λ_ e=>absurd e ne⟩) ?_;refine An ?_;refine iS ?_;exact Wq335
 refine Wq405 ?_;refine UN ?_;refine jl (bR I I) Zh ir ir (Zv I) I (gm (bR I I) (by rw[show decide (L1 (some j1)<0)=false from ao (by show¬((j1:Nat):Int)<0;omega)];rfl) (dh ([Xa bc (.i room) (.slice Ac (J Z) cc) (.map (some ml)) (.i fl),slv 262 4 Ac (J Z) cc (Z.flatMap BA.cells)]) rfl (λ_ _=>I) Zi (λw hi hin=>HP t w hin)) I ?_);refine Vz ?_;refine WK ?_ ?_<;>intro hc1
 .exact Wq335
 have htk:t∈Z.map BA.key:=(by cases ho2:cN BA.key t Z with|none=>rw[ho2]at hc1;simp[L1]at hc1|some j2=>obtain⟨x2,hx2,hxk2, -⟩:=rL ho2;grind);refine An ?_;refine cj (λY:Wn=>[(6,.bool false)]) (λY=>VQ bc room Y) (λY=>pU room Y/\Y.Z=Z) ?_ ?_
 .refine Zs (bQ (Vg []) Zk ?_);refine lO ?_;refine UE 2 2 ?_;refine ZG 3 ?_;refine ZI 4 ?_;refine ZI 6 ?_;refine cP 5 Zk (un I (Js (Zv I) (Zv I) hkf I D6 ir) (λw hi=>(show oc ml (Wf LK) w from hi.get (UJ (V0 ml (Wf LK))))) I (iK ?_));rw[Lz LK f];refine V1 (λw hi=>Cr (ia LK f).A (ia LK f).c (ia LK f).ks t w (link_rd (hi.get (UJ (dm (V8 LK)))))) ?_;refine UR ?_;refine ZE 8 ?_;refine tC ?_;refine ZW ?_ ?_<;>intro hc3
  .have hnt:t∉(ia LK f).ks:=bZ;have hxl:(ia LK f).ks.length<=1000000:=(by cases hp:cN (λx:Ky×LS=>x.1) f LK with|some j=>obtain⟨x,hx,hl⟩:=nJ hp;rw[hl];exact((hlk.sm bZ) _ (aG hx)).2|none=>rw[nK hp];exact ax _);obtain⟨⟨Ax,cx,kx⟩,hlx⟩:=Do (ia LK f);refine wc_inv (cs':=Ye (ia LK f)::dm (xI LK f)::[Xa bc (.i room) (.slice Ac (J Z) cc) (.map (some ml)) (.i fl),slv 262 4 Ac (J Z) cc (Z.flatMap BA.cells),dm (Z.map VZ),V0 ml (Wf LK),XI b4 f,XI b5 t]) (λw hi=>lkTake f (hi.pick (cs':=dm (V8 LK)::[Xa bc (.i room) (.slice Ac (J Z) cc) (.map (some ml)) (.i fl),slv 262 4 Ac (J Z) cc (Z.flatMap BA.cells),dm (Z.map VZ),V0 ml (Wf LK),XI b4 f,XI b5 t]) Zj)) (iC (Vg [7,9,11]) [(0,0),(1,0),(2,0),(3,4),(4,4),(5,4),(6,2),(7,2),(8,0),(10,0),(9,2),(11,2)] Zk Zk (tD ?_));refine ek I (qW py) I (ek I (dg 2 I py Zf) I (z5 ?_));refine Nu ?_;refine Nu ?_;refine Re ?_;rintro _ _ ⟨b33,rfl,rfl⟩;refine et ?_;refine mX I I (OA I I hkf I D6 ir Za) ZJ I ?_;rintro _ _ ⟨st34,rfl,rfl⟩;refine ek I (kv py (.zero _ _)) I (ek I (kv py (.succ _ (.zero _ _))) I (et ?_));rw[Lz LK f];refine mX I I (cC (n:=(ia LK f).ks.length) (e:=173) (sz:=2) (bytes:=8) I I Za I I (λw hi=>hi.rd (UJ (slv 173 2 (sA b33) 1 1 (cD t)))) (vq t) gD O) ZJ I ?_;rintro _ _ ⟨A9,c9,rfl,rfl⟩;rw[show(ia LK f).ks.flatMap cD++cD t=((ia LK f).ks++[t]).flatMap cD by simp,show(ia LK f).ks.length+1=J ((ia LK f).ks++[t]) by simp];refine et ?_;refine sk I I (J6 (ment_at LK f) I I I Za) ZJ ?_;refine UR ?_;refine jU (iA (c:=V0 ml ((vc (Wf LK) f (.slice none 0 0)).set (zm (Wf LK) f) (f,(LS.mk A9 c9 ((ia LK f).ks++[t])).v))) (c':=V0 ml (Wf (dS LK f ⟨A9,c9,(ia LK f).ks++[t]⟩))) Za I (λw h=>by rw[<-Pr];exact h) ?_)
   refine kM (cin:=xI LK f) (c:=Ye ⟨A9,c9,(ia LK f).ks++[t]⟩) (cin':=V8 (dS LK f ⟨A9,c9,(ia LK f).ks++[t]⟩)) Zd Zd (lkPut LK f _) (Vd ((⟨ml,Ac,cc,fl,dS LK f ⟨A9,c9,(ia LK f).ks++[t]⟩,Z⟩:Wn)) ⟨hX2 _ (hlk.put hkf htk hnt _ _),I⟩)
  refine Zc (Vd ((⟨ml,Ac,cc,fl,LK,Z⟩:Wn)) bZ)
 rintro Y ⟨hY,hYZ⟩;refine UU ?_
 skip
 refine Fl (cs':=VQ bc room Y) (.inl I) (aL _) I I ?_
 grind
end
end Go.Ink
namespace Go.Ink
open List renaming length→J, replicate→R9
open IntKind renaming wrap→V9
open Go.RowKit Go.Proofs.Tryz
theorem By(pl:Pl)(base f:Int)(n:Int):∀(c:Li) (k:Nat),zi pl base f (c++[n]) k=zi pl base f c k++(kr pl n 7++[⟨15,0,base,eQ pl n 7,V9 .u32 (f+V9 .u32 ((k+J c:Nat):Int))⟩])
 |[],k=>by simp[zi]
 |x::c,k=>by
  have ih:=By pl base f n c (k+1)
  grind [kr,zi]
theorem Pk(a b:Int)(pl:Pl)(n:Int)(x:II):J (rA a b pl n x)<=30:=by
 grind [kq,ud,eQ,Cb,LM,rA]
section
attribute [local irreducible] Ve bN
section
variable(S:Wj)(l:List HI)(fix:Li)(X:VX)
theorem Cq(hl:J l<=10000)(base f word:Int)(A:Oa)(c:Nat)(o:Li)(ho:J o<=1000)(hoj:∀j,j∈o->∃n:Nat,j=n/\n<J S.pl.reg/\n<J S.pl.slot)(w:World)(hi:Inv w (bM (UX S l fix X)) (UX S l fix X) w)(hK:∀w',dc (bM (UX S l fix X)) w w'->NX S w')(hO:∀w',dc (bM (UX S l fix X)) w w'->Rd w' .i64 A (J o) c o):
  UW prog 235 [.p S.b,.i base,.w f,.w word,.slice A (J o) c] w (UX S l fix X) (λr9 cs=>∃l' X',l'=l++jg S.pl base f word o/\cs=UX S l' (fix) X'):=by
 refine Vb func235 ntmps235 hi ?_;refine U8 ?_;refine Vs (λq:Nat×List HI×VX=>[(0,.p S.b),(1,.i base),(2,.w f),(3,.w word),(4,.slice A (J o) c),(12,.slice A (J o) c),(13,.i (J o)),(14,.i (q.1:Int))]) (λq=>UX S q.2.1 fix q.2.2) (λq=>q.1<=J o/\q.2.1=l++zi S.pl base f (o.take q.1) 0) (λq=>J o - q.1) (⟨0,l,X⟩) ⟨ax _,(aD l).symm⟩ ?_;rintro⟨k,l0,X0⟩ ⟨hk,hl0⟩;dsimp only at hk hl0|-;have ol:=Fv S.pl base f (o.take k) 0;have ll:J l0<=J l+2*J o:=bZ;refine UH ?_ ?_<;>intro hc1
 .simp only[ai]at hc1;obtain⟨ad,had⟩:∃ad,A=some ad:=Option.ne_none_iff_exists'.1 (λe=>by have:=((hO w (dc.refl _ _)).nil e).1;omega);obtain⟨j,hj⟩:∃j,o[k]? =some j:=⟨_,ak (show k<J o by omega)⟩;obtain⟨n,rfl,h1,h2⟩:=hoj j (aG hj);have htk:o.take (k+1)=o.take k++[(n:Int)]:=(by rw[List.take_add_one,hj];rfl);have hO2:∀w',dc (bM (UX S l fix X)) w w'->U5 w' 1 (some ad) (J o) c (ints .i64 o):=λw' hk=>had▸hO w' hk
  have hol:J (o.take k)=k:=bZ;have gA:=kq S.pl n 7;refine US ?_;refine Zy (iy (j:=k) had I ir (Zv I) (Zv I) ir UL) ?_;refine dZ (bO ir py) (oA (v:= .i n) hO2 (cw hj)) I (U8 ?_);refine mU ?_;refine kZ ?_;refine An ?_;refine dH (UX S l0 fix X0) (λw hi hin=>zR S l0 fix X0 O n 7 h1 h2 w hin (λw' hk=>hK w' (hi.TC Zi hk))) ?_;rintro _ _ ⟨rfl,l1,X1,hl1,rfl⟩;refine dH (UX S l1 fix X1) (λw hi hin=>x0 S l1 fix X1 bZ base (V9 .u32 (f+V9 .u32 (k:Int))) (eQ S.pl n 7) w hin) ?_;rintro _ _ ⟨l2,X2,hl2,rfl⟩;refine ii ?_;refine VM ((⟨k+1,l2,X2⟩:Nat×List HI×VX)) ⟨⟨by omega,by dsimp only;rw[htk,By,hol,bC,hl2,hl1,hl0];grind⟩,by omega⟩
 simp only[aa]at hc1;obtain rfl:k=J o:=by omega
 rw[List.take_length]at hl0;refine eL ?_;refine mU ?_;refine dH (UX S l0 fix X0) (λw hi hin=>mn S l0 fix X0 O 11 (V9 .u32 (J o:Int)) w hin) ?_;rintro _ _ ⟨l11,X11,hl11,rfl⟩;refine UU ?_;refine dH (UX S l11 fix X11) (λw hi hin=>gZ S l11 fix X11 bZ 3 11 11 base w hin) ?_;rintro _ _ ⟨l12,X12,hl12,rfl⟩;refine UQ ?_;refine dH (UX S l12 fix X12) (λw hi hin=>x0 S l12 fix X12 bZ 15 word 11 w hin) ?_;rintro _ _ ⟨l13,X13,hl13,rfl⟩;refine Zn (io (cs':=UX S l13 fix X13) (.inr I) Zu I ?_);exact⟨l13,X13,(by simp only[hl11,hl12,hl13,hl0,jg,ah,ac,aw,aU,aR,aD]),rfl⟩
theorem Qv(hl:J l<=10000)(base word S2 high:Int)(o:Nat)(hb1:0<=S2/\S2<=100000)(hb2: -100000<=high/\high<=100000)(hb3:o<=100000)(hf:J fix<=100):CI prog 233 [.p S.b,.i base,.w word,.i S2,.i high,.i o] (UX S l fix X) (λr9 cs=>r9= .bool (!decide (ji S2 high o<S2))/\∃l' f' X',l'=l++(bif(!decide (ji S2 high o<S2))then qj 0 base word S2 (ji S2 high o)else[])/\f'=fix++(bif(!decide (ji S2 high o<S2))then[((J l+3:Nat):Int),((J l+6:Nat):Int)]else[])/\cs=UX S l' f' X'):=λw hi=>by
 have hm:(if(16:Int)+S2 - o<16 - high then(16:Int)+S2 - o else 16 - high)=ji S2 high o:=rfl;obtain⟨mo,hmo⟩:=Do (ji S2 high o);rw[hmo]at hm|-;refine Vb func233 ntmps233 hi ?_;refine Va ?_;refine sb ?_;refine ZA ?_;refine mT ?_;refine ZA ?_;refine sb ?_;refine Zy (Ys py py hm) ?_;refine yh ?_ ?_<;>intro hc2
 .have hok:(!decide (mo<S2))=false:=bZ;rw[hok];refine US ?_;refine VA (UX S l fix X) ?_;exact⟨I,l,fix,X,(aD l).symm,(aD fix).symm,I⟩
 have hok:(!decide (mo<S2))=true:=bZ;rw[hok];refine US ?_;refine dH (UX S l fix X) (λw hi hin=>Ct S l fix X O base 15 word w hin) ?_;rintro _ _ ⟨l1,X1,hl1,rfl⟩;refine UU ?_;refine mU ?_;refine dH (UX S l1 fix X1) (λw hi hin=>mn S l1 fix X1 bZ 11 (V9 .u32 S2) w hin) ?_;rintro _ _ ⟨l2,X2,hl2,rfl⟩;refine UU ?_;refine dH (UX S l2 fix X2) (λw hi hin=>gZ S l2 fix X2 bZ 12 12 base 11 w hin) ?_;rintro _ _ ⟨l3,X3,hl3,rfl⟩;refine UQ ?_;refine dH (UX S l3 fix X3) (λw hi hin=>xZ S l3 fix X3 bZ 12 O w hin) ?_;rintro _ _ ⟨l4,X4,hl4,rfl⟩;refine UU ?_;refine mU ?_;refine dH (UX S l4 (fix++[(J l3:Int)]) X4) (λw hi hin=>mn S l4 (fix++[(J l3:Int)]) X4 bZ 12 (V9 .u32 mo) w hin) ?_;rintro _ _ ⟨l5,X5,hl5,rfl⟩;refine UU ?_;refine dH (UX S l5 (fix++[(J l3:Int)]) X5) (λw hi hin=>gZ S l5 (fix++[(J l3:Int)]) X5 bZ 12 12 12 base w hin) ?_;rintro _ _ ⟨l6,X6,hl6,rfl⟩;refine UQ ?_;refine dH (UX S l6 (fix++[(J l3:Int)]) X6) (λw hi hin=>xZ S l6 (fix++[(J l3:Int)]) X6 bZ 12 bZ w hin) ?_;rintro _ _ ⟨l7,X7,hl7,rfl⟩;refine US ?_;refine dH (UX S l7 ((fix++[(J l3:Int)])++[(J l6:Int)]) X7) (λw hi hin=>gZ S l7 ((fix++[(J l3:Int)])++[(J l6:Int)]) X7 bZ 4 base base 11 w hin) ?_;rintro _ _ ⟨l8,X8,hl8,rfl⟩;refine Va ?_;refine VA (UX S l8 ((fix++[(J l3:Int)])++[(J l6:Int)]) X8) ?_;exact⟨I,l8,_,X8,(by simp only[hl1,hl2,hl3,hl4,hl5,hl6,hl7,hl8,qj,ah,aw,aU,aR]),bZ,rfl⟩
end
theorem BK(a b:Int)(pl:Pl):∀(c:List II) (n:Nat),J (ko a b pl c n)<=30*J c
 :=by intro y1;induction y1<;>grind [Pk,rA,ko]
theorem xG(a b:Int)(pl:Pl)(x:II):∀(c:List II) (n:Nat),ko a b pl (c++[x]) n=ko a b pl c n++rA a b pl ((n+J c:Nat):Int) x
 |[],n=>by simp[ko]
 |y::c,n=>by
  have h:=xG a b pl x c (n+1);show rA a b pl n y++ko a b pl (c++[x]) (n+1)=(rA a b pl n y++ko a b pl c (n+1))++_
  grind
end
end Go.Ink
namespace Go.Ink
open List renaming length→J
open IntKind renaming wrap→V9
open Go.RowKit Go.Proofs.Tryz
def tm(p:Pg):List Int:=bif p.TR then(bif p.TZ then[4,7,12,15]else[4,7])else[]
def HI.imm'(i:HI)(e:Int):HI:=⟨i.op,i.rd,i.ra,i.rb,e⟩
def qn(e:Int):List Int->List HI->List HI
 |[],l=>l
 |i::f,l=>qn e f (l.set i.toNat ((l.getD i.toNat HI.zero).imm' e))
theorem xD(p:Pg)(pl:Pl)(e:Int):qn e (tm p) (fU p pl 0)=fU p pl e:=by
 unfold tm fU vz;cases p.TR<;>cases p.TZ<;>rfl
theorem Su(p:Pg)(pl:Pl):∀i,i∈tm p->∃n:Nat,i=n/\n<J (fU p pl 0):=λi hi=>by
 have h2:p.TR=true:=by
  cases h:p.TR with
  |true=>rfl
  |false=>grind [tm]
 unfold tm at hi;rw[h2,ah]at hi;unfold fU;rw[h2,ah];cases h3:p.TZ<;>rw[h3]at hi<;>simp only[ah,ac,aI,aY,or_false]at hi|-
 .have hl:J (⟨1,15,0,0,0⟩::qj 0 14 2 p.SW p.T5:List HI)=9:=rfl;rcases hi with rfl|rfl
  .exact⟨4,I,by omega⟩
  exact⟨7,I,by omega⟩
 have hl:J (vz p 0)=17:=rfl;rcases hi with rfl|rfl|rfl|rfl
 .exact⟨4,I,by grind⟩
 .exact⟨7,I,by grind⟩
 .exact⟨12,I,by grind⟩
 exact⟨15,I,by grind⟩
theorem end_len(p:Pg)(pl:Pl)(n:Nat):J (tY p pl n)<=20:=by
 grind [xR,wg,gY,uE,tY]
theorem zU(p:Pg)(pl:Pl)(e:Int)(hc:J p.code<=64)(hD:J p.S9<=100)(hR:J p.Ta<=100):J (fU p pl e)<=4000:=by
 have h1:=BK p.SW p.SZ pl p.code 0;have h2:=om pl 14 4 2 p.S9;have h3:=om pl 13 20 3 p.Ta;have h4:=end_len p pl (17+J (jc p pl));have h5:J (vz p e)=17:=rfl;unfold fU;cases p.TR<;>cases p.TZ<;>simp only[ah,ac]
 .simp
 .simp
 .show 9<=4000;omega
 grind [jc,ko,jg]
theorem Sr:∀(l:List HI) (i:Nat) (e:Int),i<J l->(l.flatMap HI.cells).set (i*5+4) (.w e)=(l.set i ((l.getD i HI.zero).imm' e)).flatMap HI.cells
 |[],_,_,h=>by simp at h
 |x::l,0,e,_=>rfl
 |x::l,i+1,e,h=>by
  have ih:=Sr l i e bZ
  grind
theorem xK{p:Pg}(h:p.Tf=true):(0<=p.SW/\p.SW<=16)/\(0<=p.SZ/\p.SZ<=16)/\(0<=p.Tw/\p.Tw<=16)/\(0<=p.Tx/\p.Tx<=16):=by
 grind [Pg.Tf,Pg.TJ,vU]
section
attribute [local irreducible] Ve bN
theorem vV(S:Wj)(l:List HI)(fix:Li)(X:VX)(hl:J l<=10000)(base word S2 high:Int)(o:Nat)(ok:Bool)(hok:(!decide (ji S2 high o<S2))=ok)(hb1:0<=S2/\S2<=100000)(hb2: -100000<=high/\high<=100000)(hb3:o<=100000)(hf:J fix<=100):CI prog 233 [.p S.b,.i base,.w word,.i S2,.i high,.i o] (UX S l fix X) (λr9 cs=>r9= .bool ok/\∃l' f' X',l'=l++(bif ok then qj 0 base word S2 (ji S2 high o)else[])/\f'=fix++(bif ok then[((J l+3:Nat):Int),((J l+6:Nat):Int)]else[])/\cs=UX S l' f' X'):=λw hi=>by
 subst hok
 grind [Qv]
theorem Cz(p:Pg)(Q:Xu)(hf:tJ p)(hr:p.Tf=true)(pl:Pl)(hpl:dU p=pl)(w:World)(h:GC p Q w):
  UW prog 231 [XP p Q,.i 7] w [] (λr cs=>∃Ar cr As c2,r= .tuple #[.agg #[.slice Ar (J pl.reg) cr,.slice As (J pl.slot) c2,.i pl.Tt],.i 0]/\cs=[sl .i64 3 Ar (J pl.reg) cr pl.reg,sl .i64 3 As (J pl.slot) c2 pl.slot]):=by
 grind [QQ,ql,gx,dU]
theorem MK(p:Pg)(Q:Xu)(hf:tJ p)(hr:p.Tf=true)(hg:gt (gC p (dU p)))(hroom:p.TR=false)(w:World)(h:GC p Q w):
  UW prog 187 [XP p Q] w [] (λr cs=>∃A c,r= .tuple #[.slice A (J (cH (gC p (dU p)))) c,.i 0]/\cs=[sl .u8 5 A (J (cH (gC p (dU p)))) c (cH (gC p (dU p)))]):=by
 have hm64:=hf.Tq;have hoD:=hf.S9;have hoR:=hf.Ta;have hrc:=h.code;obtain⟨u1,u2,u3,u4⟩:=rp hr;obtain⟨hnD,hnR,hhD,hhR⟩:=xK hr;obtain⟨hrl,hsl⟩:(dU p).reg.length=J p.code/\(dU p).slot.length=J p.code:=ql (gx p) 7 (J p.code) (J p.code);obtain⟨pl,hpl⟩:=Do (dU p);rw[hpl]at hg hrl hsl|-;have hAl:=Cz p Q hf hr pl hpl;have hbl:=λe=>zU p pl e hm64 hoD hoR
 have hpb:=xD p pl (V9 .u32 (J (fU p pl 0):Nat));have hfx:=Su p pl;have hcode:gC p pl=fU p pl (V9 .u32 (J (fU p pl 0):Nat))++[⟨19,0,0,0,2⟩]:=rfl;obtain⟨C9,hC9⟩:=Do (gC p pl);rw[hC9]at hg hcode|-;have hC9l:J C9<=100000:=by have:=hbl (V9 .u32 (J (fU p pl 0):Nat));rw[hcode,ar,aE,bD];omega
 have hJ:=λA c w h=>FR A c C9 hg hC9l w h
 refine UV func187 ntmps187 ?_;refine An ?_;refine ZO λb1=>?_;refine US ?_;refine Vl (λw hi=>hAl w (h.Tb hi)) ?_;rintro _ _ ⟨Ar,cr,As,c2,rfl,rfl⟩;refine UN ?_;refine ZN λb4=>?_
 refine qN ?_;refine lN ?_;refine US ?_;refine ZO λb21=>?_
 refine Wq292 ?_;rintro _ _ ⟨_,⟨l1,X1,hl1,rfl⟩,rfl⟩;refine An ?_;refine cj (λq:List HI×List Int×VX=>[(6,.p b21)]) (λq=>[row b21 (rR (⟨b21,p,Q,pl,Ar,cr,As,c2⟩:Wj) (J q.1) (J q.2.1) q.2.2) 362,W7 q.2.2.Al q.2.2.cl q.1,sl .i64 3 q.2.2.Af (J q.2.1) q.2.2.cf q.2.1]) (λq=>q.1=fU p pl 0/\q.2.1=tm p) ?_ ?_
 .refine eL ?_;refine dH (UX (⟨b21,p,Q,pl,Ar,cr,As,c2⟩:Wj) l1 [] X1) (λw hi hin=>vV (⟨b21,p,Q,pl,Ar,cr,As,c2⟩:Wj) l1 [] X1 bZ 14 2 p.SW p.Tw (J p.S9) false hroom ⟨by omega,by omega⟩ ⟨by omega,by omega⟩ O cJ w hin) ?_;rintro _ _ ⟨rfl,l2,f2,X2,hl2,hf2,rfl⟩;refine ZA ?_;refine Υ ?_;refine Υ ?_;refine IX ?_;refine π ?_;refine Vd (((l2,f2,X2):List HI×List Int×VX)) ⟨by dsimp only;rw[hl2,hl1];unfold fU;grind,by dsimp only;rw[hf2];unfold tm;grind⟩
 rintro⟨l9,f9,⟨Al,cl,Af,cf⟩⟩ ⟨hb9,hf9⟩;dsimp only at hb9 hf9|-;rw[<-hb9]at hpb hcode hfx;rw[<-hf9]at hpb hfx;have hl9n:=hbl 0;rw[<-hb9]at hl9n;have hf9n:J f9<=4:=(by rw[hf9];unfold tm;grind);obtain⟨B9,hB9⟩:=Do (fU p pl (V9 .u32 ((J l9:Nat):Int)));rw[hB9]at hpb hcode;refine Wq100 ?_;rintro⟨k,m⟩ ⟨hk,hml,hP⟩;dsimp only at hk hml hP|-;refine UH ?_ ?_<;>intro hc16
 .exact Wx6_
 simp only[aa]at hc16;obtain rfl:k=J f9:=by omega
 rw[List.drop_length]at hP;obtain rfl:m=B9:=hP;refine U8 ?_;exact Wq438
end
end Go.Ink
