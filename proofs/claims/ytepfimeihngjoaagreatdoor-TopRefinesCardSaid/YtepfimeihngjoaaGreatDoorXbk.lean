/- Lemmas. -/
import Derived.Test.YtepfimeihngjoaaGreatDoorXbg
import Derived.Test.YtepfimeihngjoaaGreatDoorXbh
import Derived.Test.YtepfimeihngjoaaGreatDoorXbi
set_option linter.all false
set_option maxRecDepth 100000
set_option maxHeartbeats 4000000
namespace Go.Ink
open List renaming length→J
open IntKind renaming wrap→V9
open Go.RowKit Go.Proofs.Tryz
variable{G:List (Bool×Ky×RS)}
section
attribute [local irreducible] Ve bN
variable{E:Vy}
variable{b:Li}
variable{E:VB}
variable{t:WR}{r:Rn}
variable{p:Int}{G:VB}
theorem Ol{s:St}(h:lE E (s.pc,p) b=(none,G)):jF E s p b=(none,G):=by
 grind [jF]
theorem JR{s:St}{s1:St}{how:Int}(h:lE E (s.pc,p) b=(some (t,r),G))(hr:iE t.code s=(s1,how))(hh:(how !=1)=true):jF E s p b=(none,G):=by
 grind [jF]
theorem JQ{s:St}{s1:St}{how:Int}(h:lE E (s.pc,p) b=(some (t,r),G))(hr:iE t.code s=(s1,how))(hh:(how !=1)=false):jF E s p b=(some (s1,r,t.count),{G with last:=(s.pc,p),begun:=true,Ti:=V9 .i64 (G.Ti+t.count)}):=by
 grind [jF]
end
end Go.Ink
namespace Go.Ink
open List renaming length→J, replicate→R9
open IntKind renaming wrap→V9
open Go.RowKit Go.Proofs.Tryz
variable{n k:Nat}{s:St}{p:Nat}{U:UI}{d:UF}{E:VB}
section
attribute [local irreducible] Ve bN
section
variable{n:Nat}{s s1 o:St}{U U1:UI}{d d1:UF}{E G:VB}{r:Rn}{c:Int}
theorem doE_no{pl:Int}(h:cI n s U d=⟨s1,pl,false,U1,d1⟩):WO n s U d E=((s1,U1,d1),{E with Tk:=V9 .i64 (E.Tk+V9 .i64 (V9 .u64 (s1.count - s.count)))}):=by
 unfold WO;rw[h]
 rfl
variable{pl:Nat}
theorem Qs(h:cI n s U d=⟨s1,(pl:Int),true,U1,d1⟩)(ht:jF E s1 (pl:Int) (iQ U1.m pl)=(none,G)):WO n s U d E=jG n (pl/64) 8 s1 pl U1 d1 G:=by
 unfold WO;rw[h];simp only[ah,aV];rw[ht]
theorem doE_out(h:cI n s U d=⟨s1,(pl:Int),true,U1,d1⟩)(ht:jF E s1 (pl:Int) (iQ U1.m pl)=(some (o,r,c),G))(hc:((r.ends&&decide (0<c))||o.pc/64 !=s1.pc/64)=true):WO n s U d E=((o,⟨U1.m.calm,U1.t⟩,d1),G):=by
 unfold WO;rw[h];simp only[ah,aV];rw[ht];dsimp only;rw[hc,ah]
theorem doE_on{m:Nat}(h:cI n s U d=⟨s1,(pl:Int),true,U1,d1⟩)(ht:jF E s1 (pl:Int) (iQ U1.m pl)=(some (o,r,c),G))(hm:c=(m:Int))(hc:((r.ends&&decide (0<c))||o.pc/64 !=s1.pc/64)=false):WO n s U d E=jG n ((pl+J r.bytes)%4294967296/64) (8 - m) o ((pl+J r.bytes)%4294967296) ⟨U1.m.calm,U1.t⟩ d1 G:=by
 unfold WO;rw[h];simp only[ah,aV];rw[ht];dsimp only;rw[hc,ac,show(8 - c).toNat=8 - m by omega]
theorem G1(h:VN n s U d)(hE:gR E)(ht:jF E s (p:Int) (iQ U.m p)=(some (o,r,c),G)):VN n o ⟨U.m.calm,U.t⟩ d/\∃m:Nat,c=(m:Int)/\1<=m/\m<=8:=by
 have hbb:=u6 h.u.m p;obtain⟨f1,f2,f3,f4,f5⟩:=qB hE (k:=(s.pc,(p:Int))) hbb;unfold jF at ht;obtain⟨⟨q,E1⟩,hf⟩:=Do (lE E (s.pc,(p:Int)) (iQ U.m p));rw[hf]at f5 ht;dsimp only at f5;cases q with
 |none=>cases ht
 |some tr=>
  obtain⟨t,r⟩:=tr;dsimp only at ht;cases hdone:(iE t.code s).2==1 with
  |false=>rw[hdone]at ht;cases ht
  |true=>
   rw[hdone,ah]at ht;simp only[aB,bh]at ht;obtain⟨⟨h1,h2,h3⟩, -⟩:=ht;obtain⟨p',il,g1,g2,g3,g4,g5,g6,g7⟩:=f5 t r I;obtain⟨M,hM,hout⟩:=Fe hdone;rw[g3]at hM;obtain⟨k1,k2,k3,k4,k5,k6, -, -, -⟩:=ET h.u h.dv h.wf h.right g6 g1 g2 hM;rw[hout]at h1;subst h1;exact⟨⟨k2,k3,⟨h.u.m.calm,h.u.t⟩,h.dv,h.lines⟩,J il,by rw[<-h3,g4],k5,k6⟩
end
abbrev WT(be bu bb:Nat)(L:fF)(D:qV)(Y:dJ)(U:UI)(d:UF)(E:Vy):List bJ:=VK bu bb L D Y U d++Vt be E
theorem qG(room:Int)(hr:1<=room/\room<=1024)(w:World):UW prog 28 [.i room] w [] (λv cs=>∃be E,(mw E/\E.eng=VB.fresh room)/\v= .tuple #[.p be,.i 0]/\cs=Vt be E):=by
 refine(MC room w).mono ?_;rintro v cs h;rw[if_pos hr]at h;obtain⟨be,bc,mr,ml,rfl,rfl⟩:=h;exact⟨be,⟨bc,mr,room,⟨ml,none,0,0,[],[]⟩,[],(0,0),0,0,false⟩,⟨⟨pU.none hr _ _ _ _,gR.fresh hr,(λy hy=>nomatch hy),(show lD (0,0)from⟨⟨by decide,by decide⟩,by decide,by decide⟩)⟩,rfl⟩,rfl,rfl⟩
variable{o:Nat}
theorem WQ.block{n o:Nat}{s:St}{U:UI}{d:UF}(h:WQ n o s U d):WQ n (o+8) (cS n s U d).1 (cS n s U d).2.1 (cS n s U d).2.2:=by
 have ho:=h.o;rcases rS h.g with h1|⟨-, -,h1,h2⟩
 .exact⟨h1.g,h.m.block h.g (λroot va kind SQ=>h.m.walk root va kind SQ),Gr h.i,by have:=h1.out;omega⟩
 exact⟨h1,h.m.block h.g (λroot va kind SQ=>h.m.walk root va kind SQ),Gr h.i,by rw[h2];omega⟩
end
end Go.Ink
