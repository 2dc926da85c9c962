/- Lemmas. -/
import Derived.Test.YtomjgmbccamgiaaGreatDoorQaa
import Derived.Test.YtomjgmbccamgiaaGreatDoorQab
import Derived.Test.YtomjgmbccamgiaaGreatDoorQah
set_option linter.unusedSimpArgs false
set_option linter.unusedVariables false
set_option maxRecDepth 100000
set_option maxHeartbeats 4000000
namespace Go.Ink
open Go.RowKit
structure Pg where
  code:List II
  Ii:Int
  Ij:Int
  IK:Int
  IN:Int
  Iq:List Int
  Ir:List Int
  flags:Int
  next:Int
  target:Int
  branch:Int
  taken:Int
  count:Int
  values:Int
structure Pl where
  reg:List Int
  slot:List Int
  IM:Int
abbrev Pl.r(pl:Pl)(n:Int):Int:=pl.reg.getD n.toNat 0
abbrev Pl.s(pl:Pl)(n:Int):Int:=pl.slot.getD n.toNat 0
def Pl.inR(pl:Pl)(n:Int):Bool:=decide (0≤pl.r n)
def jj(pl:Pl)(n into:Int):List HI:=bif pl.inR n then[]else[⟨14,into,15,0,IntKind.u32.wrap (64+pl.s n)⟩]
def dW(pl:Pl)(n into:Int):Int:=bif pl.inR n then pl.r n else into
def iT(pl:Pl)(n r:Int):List HI:=bif pl.inR n then[]else[⟨15,0,15,r,IntKind.u32.wrap (64+pl.s n)⟩]
def o9(Ii Ij:Int)(pl:Pl)(n:Int)(x:II):List HI:=
  (bif x.op==0 then[⟨1,dW pl n 9,0,0,x.imm⟩]else
   bif x.op==1 then[⟨14,dW pl n 9,14,0,IntKind.u32.wrap (4+Ii - 1 - x.imm)⟩]else
   bif x.op==2 then[⟨14,dW pl n 9,13,0,IntKind.u32.wrap (20+Ij - 1 - x.imm)⟩]else
   bif x.op==3 then jj pl x.a 7++(jj pl x.b 8++JI x.imm (dW pl n 9) (dW pl x.a 7) (dW pl x.b 8))else
   bif x.op==4 then jj pl x.a 7++(jj pl x.b 8++(la x.imm (dW pl x.a 7) (dW pl x.b 8)++[⟨2,dW pl n 9,10,0,0⟩]))else[])++iT pl n (dW pl n 9)
def jw(Ii Ij:Int)(pl:Pl):List II→Nat→List HI
  |[],_=>[]
  |x::c,n=>o9 Ii Ij pl n x++jw Ii Ij pl c (n+1)
def tG(pl:Pl)(base from_:Int):List Int→Nat→List HI
  |[],_=>[]
  |n::c,k=>jj pl n 7++(⟨15,0,base,dW pl n 7,IntKind.u32.wrap (from_+IntKind.u32.wrap k)⟩::tG pl base from_ c (k+1))
def hH(pl:Pl)(base from_ word:Int)(out:List Int):List HI:=tG pl base from_ out 0++[⟨1,11,0,0,IntKind.u32.wrap out.length⟩,⟨3,11,11,base,0⟩,⟨15,0,15,11,word⟩]
def m8(e base word Ik IE:Int):List HI:=[⟨14,base,15,0,word⟩,⟨1,11,0,0,IntKind.u32.wrap Ik⟩,⟨12,12,base,11,0⟩,⟨17,0,12,0,e⟩,⟨1,12,0,0,IntKind.u32.wrap IE⟩,⟨12,12,12,base,0⟩,⟨17,0,12,0,e⟩,⟨4,base,base,11,0⟩]
def fD(op:Int):Int:=bif op==33 then 1 else bif op==34 then 1 else bif op==35 then 4 else bif op==36 then 2 else 8
def gY(op:Int):Bool:=bif op==33 then true else bif op==34 then false else true
def gE(p:Pg)(pl:Pl):List HI:=bif decide (0≤p.flags)then⟨1,11,0,0,15⟩::(jj pl p.flags 7++[⟨5,11,11,dW pl p.flags 7,0⟩,⟨15,0,15,11,1⟩])else[]
def gh(p:Pg)(pos:Nat):List HI:=bif p.branch !=0 then[⟨14,11,15,0,1⟩,⟨1,12,0,0,fD p.branch⟩,⟨5,11,11,12,0⟩,⟨bif gY p.branch then 16 else 17,0,11,0,IntKind.u32.wrap ((pos+3:Nat)+2)⟩,⟨1,9,0,0,p.taken⟩]else[]
def iQ(p:Pg)(pl:Pl):List HI:=bif decide (0≤p.target)then jj pl p.target 7++[⟨2,9,dW pl p.target 7,0,0⟩]else[]
def qF(p:Pg)(pl:Pl)(pos:Nat):List HI:=
  gE p pl++(⟨1,9,0,0,p.next⟩::(gh p (pos+(gE p pl).length+1)++(iQ p pl++[⟨15,0,15,9,0⟩,⟨1,11,0,0,IntKind.u32.wrap p.count⟩,⟨15,0,15,11,36⟩,⟨19,0,0,0,1⟩])))
def iM(Ik high:Int)(out:Nat):Int:=if 16+Ik - out<16 - high then 16+Ik - out else 16 - high
def Pg.Je(p:Pg):Int:=iM p.Ii p.IK p.Iq.length
def Pg.Js(p:Pg):Int:=iM p.Ij p.IN p.Ir.length
def Pg.IV(p:Pg):Bool:= !decide (p.Je<p.Ii)
def Pg.I5(p:Pg):Bool:= !decide (p.Js<p.Ij)
def qg(p:Pg)(e:Int):List HI:=⟨1,15,0,0,0⟩::(m8 e 14 2 p.Ii p.Je++m8 e 13 3 p.Ij p.Js)
def iy(p:Pg)(pl:Pl):List HI:=jw p.Ii p.Ij pl p.code 0++(hH pl 14 4 2 p.Iq++hH pl 13 20 3 p.Ir)
def fu(p:Pg)(pl:Pl)(e:Int):List HI:=
  bif p.IV then(bif p.I5 then qg p e++(iy p pl++qF p pl (17+(iy p pl).length))else⟨1,15,0,0,0⟩::m8 e 14 2 p.Ii p.Je)else[⟨1,15,0,0,0⟩]
def gr(p:Pg)(pl:Pl):List HI:=fu p pl (IntKind.u32.wrap ((fu p pl 0).length:Nat))++[⟨19,0,0,0,2⟩]
def Lo(pl:Pl)(R W:List Int)(n:Int)(v:Int):Prop:=(pl.inR n=true→R.getD (pl.r n).toNat 0=v)∧(pl.inR n=false→W.getD (64+(pl.s n).toNat) 0=v)
def Pl.has(pl:Pl)(n:Int):Prop:=(pl.inR n=true∧pl.r n<7)∨(pl.inR n=false∧0≤pl.s n∧pl.s n<128)
section
variable {C l:List HI} {k:Nat} {R W:List Int} {M:HM} {pl:Pl}
theorem k9{n:Int}{into:Nat}(h:pl.has n)(hi:into=7∨into=8∨into=9):∃r:Nat,dW pl n into=r∧(r=into∧pl.inR n=false∨r<7∧pl.inR n=true∧(pl.r n).toNat=r):=by
  unfold dW;rcases h with⟨h1,h2⟩|⟨h1,h2,h3⟩
  · rw[h1]
    have h0:0≤pl.r n:=by unfold Pl.inR at h1;simpa using h1
    exact⟨(pl.r n).toNat,by show pl.r n=_;omega,Or.inr ⟨by omega,rfl,rfl⟩⟩
  rw[h1];exact⟨into,rfl,Or.inl ⟨rfl,rfl⟩⟩
theorem vK{n:Int}(h:0≤pl.s n∧pl.s n<128)(h15:R.getD 15 0=0):IntKind.u64.wrap (R.getD 15 0+IntKind.u32.wrap (64+pl.s n))=((64+(pl.s n).toNat:Nat):Int):=by
  rw[h15,aE,aW];omega
theorem HGo.get{n v:Int}{into r:Nat}(h:HGo C k (jj pl n into++l) R W M)(hh:pl.has n)(hi:into=7∨into=8)(hr:dW pl n into=r)(h15:R.getD 15 0=0)(hv:Lo pl R W n v):
    ∃k' R',HGo C k' l R' W M∧R'.getD r 0=v∧jZ [into] R R':=by
  obtain⟨r2,h1,h2⟩:=k9 hh (into:=into) (by omega);obtain rfl:r2=r:=by have:=hr.symm.trans h1;omega
  rcases h2 with⟨rfl,h3⟩|⟨h3,h4,h5⟩
  · unfold jj at h
    rw[h3]at h;have hs:0≤pl.s n∧pl.s n<128:=by rcases hh with⟨h6, -⟩|⟨-,h6⟩;rw[h3]at h6;cases h6;exact h6
    have g:=HGo.ld (rd:=r2) (ra:=15) (p:=64+(pl.s n).toNat) h (vK hs h15) (by omega);exact⟨_,_,g,(da (by rw[h.rl];omega)).trans (hv.2 h3),jZ.set R _ _ (by simp)⟩
  unfold jj at h;rw[h4]at h;exact⟨k,R,h,by rw[←h5];exact hv.1 h4,jZ.refl _ _⟩
theorem HGo.IG{n v:Int}{r:Nat}(h:HGo C k (iT pl n (dW pl n 9)++l) R W M)(hh:pl.has n)(hr:dW pl n 9=r)(h15:R.getD 15 0=0)(hv:R.getD r 0=v)(hv2:0≤v∧v≤4294967295):
    ∃k' W',HGo C k' l R W' M∧Lo pl R W' n v∧∀j,(pl.inR n=true∨j≠64+(pl.s n).toNat)→W'.getD j 0=W.getD j 0:=by
  obtain⟨r2,h1,h2⟩:=k9 hh (into:=9) (by omega);have h1:dW pl n 9=r2:=h1;obtain rfl:r2=r:=by have:=hr.symm.trans h1;omega
  unfold iT at h;rcases h2 with⟨rfl,h3⟩|⟨h3,h4,h5⟩
  · rw[h3]at h
    have hs:0≤pl.s n∧pl.s n<128:=by rcases hh with⟨h6, -⟩|⟨-,h6⟩;rw[h3]at h6;cases h6;exact h6
    have hg:dW pl n 9=9:=by unfold dW;rw[h3];rfl
    rw[hg]at h;have g:=HGo.st (ra:=15) (rb:=9) (p:=64+(pl.s n).toNat) (v:=v) h (vK hs h15) (by omega) (by rw[hv,aE];omega);refine⟨_,_,g,⟨fun h6=>(by rw[h3]at h6;cases h6),fun _=>da (by rw[h.wl];omega)⟩,fun j hj=>?_⟩;rcases hj with hj|hj
    · rw[h3]at hj;cases hj
    exact cK (fun e=>hj e.symm)
  rw[h4]at h;exact⟨k,W,h,⟨fun _=>(by rw[h5];exact hv),fun h6=>(by rw[h4]at h6;cases h6)⟩,fun _ _=>rfl⟩
structure II.ok(x:II)(Ii Ij:Int)(n:Nat):Prop where
  imm:0≤x.imm∧x.imm≤4294967295
  op:(x.op=0)∨(x.op=1∧x.imm<Ii)∨(x.op=2∧x.imm<Ij)∨(x.op=3∧16≤x.imm∧x.imm≤23)∨(x.op=4∧((16≤x.imm∧x.imm≤23)∨x.imm=25))
  ab:x.op=3∨x.op=4→(0≤x.a∧x.a<n)∧(0≤x.b∧x.b<n)
def wds(l:List Int):Prop:=∀x,x∈l→0≤x∧x≤4294967295
theorem iz{l:List Int}(h:wds l)(n:Nat):0≤l.getD n 0∧l.getD n 0≤4294967295:=by
  rw[ax];by_cases hn:n<l.length
  · rw[ak hn];exact h _ (List.getElem_mem hn)
  rw[List.getElem?_eq_none (by omega)];exact⟨by decide,by decide⟩
theorem lB{l:List Int}(h:wds l)(n:Nat):∃x:Nat,l.getD n 0=(x:Int)∧x<4294967296:=by
  obtain⟨h1,h2⟩:=iz h n;exact⟨(l.getD n 0).toNat,by omega,by omega⟩
theorem D1{op:Int}{x y:Nat}(hx:x<4294967296)(hy:y<4294967296)(hop:(16≤op∧op≤23)∨op=25):0≤(iq op x y).2.1∧(iq op x y).2.1≤15:=by
  have hb:∀b:Bool,0≤b2i b∧b2i b≤1:=fun b=>by cases b<;>decide
  have hT:∀(a b r o:Int) (p q c:Bool),0≤jh a b r (b2i p+2*b2i q) c o∧jh a b r (b2i p+2*b2i q) c o≤15:=fun a b r o p q c=>by
    rw[rY];have h1:=hb p;have h2:=hb q;have h3:=hb c;have h4:=hb (o !=0);omega
  have hp:∀r:Nat,r<4294967296→0≤dG r∧dG r≤15:=fun r hr=>by
    rw[iY hr];have h1:=hb ((r:Int)==0);have h2:=hb (decide (2147483648≤r));omega
  have hr:=qI hop hx hy;have h8:op=16∨op=17∨op=18∨op=19∨op=20∨op=21∨op=22∨op=23∨op=25:=by omega
  obtain⟨r,hr,hr2⟩:=hr;rcases h8 with rfl|rfl|rfl|rfl|rfl|rfl|rfl|rfl|rfl
  · show 0≤me x y∧me x y≤15
    have hr:IntKind.u32.wrap ((x:Int)+y)=(r:Int):=hr;unfold me;rw[hr,iY hr2];exact hT ..
  · show 0≤jR x y∧jR x y≤15
    have hr:IntKind.u32.wrap ((x:Int) - y)=(r:Int):=hr;unfold jR;rw[hr,iY hr2];exact hT ..
  · show 0≤dG (sH 18 x y)∧dG (sH 18 x y)≤15;rw[hr];exact hp r hr2
  · show 0≤dG (sH 19 x y)∧dG (sH 19 x y)≤15;rw[hr];exact hp r hr2
  · show 0≤dG (sH 20 x y)∧dG (sH 20 x y)≤15;rw[hr];exact hp r hr2
  · show 0≤dG (sH 21 x y)∧dG (sH 21 x y)≤15;rw[hr];exact hp r hr2
  · show 0≤dG (sH 22 x y)∧dG (sH 22 x y)≤15;rw[hr];exact hp r hr2
  · show 0≤dG (sH 23 x y)∧dG (sH 23 x y)≤15;rw[hr];exact hp r hr2
  show 0≤jR x y∧jR x y≤15;have hr:IntKind.u32.wrap ((x:Int) - y)=(r:Int):=hr;unfold jR;rw[hr,iY hr2];exact hT ..
structure Hh(D Rr:List Int)(Ii Ij:Int)(R W:List Int):Prop where
  z:R.getD 15 0=0
  bd:R.getD 14 0=(D.length:Int) - Ii
  br:R.getD 13 0=(Rr.length:Int) - Ij
  d:∀j,j<D.length→W.getD (4+j) 0=D.getD j 0
  r:∀j,j<Rr.length→W.getD (20+j) 0=Rr.getD j 0
  d16:D.length≤16
  r16:Rr.length≤16
  nd:0≤Ii∧Ii≤D.length
  nr:0≤Ij∧Ij≤Rr.length
theorem Hh.mono{D Rr:List Int}{Ii Ij:Int}{R W R' W':List Int}(h:Hh D Rr Ii Ij R W)(hs:∀j,13≤j→R'.getD j 0=R.getD j 0)(hw:∀j,j<64→W'.getD j 0=W.getD j 0):Hh D Rr Ii Ij R' W':=
  ⟨by rw[hs 15 (by decide),h.z],by rw[hs 14 (by decide),h.bd],by rw[hs 13 (by decide),h.br],fun j hj=>by have:=h.d16;rw[hw _ (by omega),h.d j hj],fun j hj=>by have:=h.r16;rw[hw _ (by omega),h.r j hj],h.d16,h.r16,h.nd,h.nr⟩
theorem HGo.one{D Rr V:List Int}{Ii Ij:Int}{n:Nat}{x:II}(h:HGo C k (o9 Ii Ij pl n x++l) R W M)(hx:x.ok Ii Ij n)(hb:Hh D Rr Ii Ij R W)(hD:wds D)(hR:wds Rr)(hV:wds V)
    (hn:pl.has n) (hab:x.op=3∨x.op=4→(pl.has x.a∧Lo pl R W x.a (V.getD x.a.toNat 0))∧(pl.has x.b∧Lo pl R W x.b (V.getD x.b.toNat 0))):
    ∃k' R' W',HGo C k' l R' W' M∧Lo pl R' W' n (kg D Rr V x)∧Hh D Rr Ii Ij R' W'∧(∀j,j<7→(pl.inR n=true→j≠(pl.r n).toNat)→R'.getD j 0=R.getD j 0)∧(∀j,(pl.inR n=true∨j≠64+(pl.s n).toNat)→W'.getD j 0=W.getD j 0):=by
  obtain⟨rd,hrd,hrd2⟩:=k9 hn (into:=9) (by omega);have hrd:dW pl n 9=(rd:Int):=hrd;have hrd10:rd<10:=by rcases hrd2 with⟨h1, -⟩|⟨h1, -⟩<;>omega
  have fin:∀(k1:Nat) (R1:List Int) (v:Int),HGo C k1 (iT pl n (dW pl n 9)++l) R1 W M→R1.getD rd 0=v→(0≤v∧v≤4294967295)→(∀j,j≠rd→(j<7∨13≤j)→R1.getD j 0=R.getD j 0)→
      ∃k' R' W',HGo C k' l R' W' M∧Lo pl R' W' n v∧Hh D Rr Ii Ij R' W'∧(∀j,j<7→(pl.inR n=true→j≠(pl.r n).toNat)→R'.getD j 0=R.getD j 0)∧(∀j,(pl.inR n=true∨j≠64+(pl.s n).toNat)→W'.getD j 0=W.getD j 0):=fun k1 R1 v g hv hv2 hs=>by
    obtain⟨k2,W2,g1,g2,g3⟩:=HGo.IG g hn hrd (by rw[hs 15 (by omega) (by omega),hb.z]) hv hv2;have hw:∀j,j<64→W2.getD j 0=W.getD j 0:=fun j hj=>g3 j (by
      cases hi:pl.inR n with
      |true=>exact Or.inl rfl
      |false=>exact Or.inr (by omega))
    refine⟨k2,R1,W2,g1,g2,hb.mono (fun j hj=>hs j (by omega) (by omega)) hw,fun j hj hne=>?_,g3⟩;rcases hrd2 with⟨h1,h2⟩|⟨h1,h2,h3⟩
    · exact hs j (by omega) (Or.inl hj)
    exact hs j (by have:=hne h2;omega) (Or.inl hj)
  have hap:∀m:List HI,HGo C k (m++(iT pl n (dW pl n 9)++l)) R W M↔HGo C k ((m++iT pl n (dW pl n 9))++l) R W M:=fun m=>by rw[aq]
  have two:∀m:List HI,(x.op=3∨x.op=4)→HGo C k (jj pl x.a 7++(jj pl x.b 8++m)) R W M→∃(k1:Nat) (R1:List Int) (ra rb a b:Nat),HGo C k1 m R1 W M∧dW pl x.a 7=ra∧dW pl x.b 8=rb∧ra<9∧rb<9∧R1.getD ra 0=(a:Int)∧R1.getD rb 0=(b:Int)∧
      V.getD x.a.toNat 0=(a:Int)∧V.getD x.b.toNat 0=(b:Int)∧a<4294967296∧b<4294967296∧jZ [7,8] R R1:=fun m ho g=>by
    obtain⟨⟨h1,h2⟩,h3,h4⟩:=hab ho;obtain⟨ra,e1,e2⟩:=k9 h1 (into:=7) (by omega);obtain⟨rb,e3,e4⟩:=k9 h3 (into:=8) (by omega);have e1:dW pl x.a 7=(ra:Int):=e1;have e3:dW pl x.b 8=(rb:Int):=e3;obtain⟨a,a1,a2⟩:=lB hV x.a.toNat;obtain⟨b,b1,b2⟩:=lB hV x.b.toNat;rw[a1]at h2;rw[b1]at h4;obtain⟨k1,R1,g1,g2,g3⟩:=HGo.get (into:=7) g h1 (by omega) e1 hb.z h2;have h4':Lo pl R1 W x.b b:=by
      refine⟨fun hi=>?_,h4.2⟩;rcases h3 with⟨q1,q2⟩|⟨q1, -⟩
      · rw[g3 _ ?_]
        · exact h4.1 hi
        have:(pl.r x.b).toNat≠7:=by omega
        simpa using this
      rw[q1]at hi;cases hi
    obtain⟨k2,R2,p1,p2,p3⟩:=HGo.get (into:=8) g1 h3 (by omega) e3 (by rw[g3 15 (by decide),hb.z]) h4';refine⟨k2,R2,ra,rb,a,b,p1,e1,e3,?_,?_,?_,p2,a1,b1,a2,b2,g3.trans p3 (by intro z hz;simpa using hz)⟩
    · rcases e2 with⟨q, -⟩|⟨q, -⟩<;>omega
    · rcases e4 with⟨q, -⟩|⟨q, -⟩<;>omega
    rw[p3 ra (by rcases e2 with⟨q, -⟩|⟨q, -⟩<;>simp<;>omega),g2]
  obtain⟨op,dst,xa,xb,imm⟩:=x;obtain⟨hi1,hi2⟩:=hx.imm;have hop:=hx.op;dsimp only at hop hi1 hi2 two hab;rcases hop with rfl|⟨rfl,h1⟩|⟨rfl,h1⟩|⟨rfl,h1⟩|⟨rfl,h1⟩
  · have g:HGo C k (⟨1,(rd:Int),0,0,imm⟩::(iT pl n (dW pl n 9)++l)) R W M:=by rw[←hrd];exact(hap [⟨1,dW pl n 9,0,0,imm⟩]).2 h
    exact fin _ _ imm g.li (da (by rw[h.rl];omega)) ⟨hi1,hi2⟩ (fun j h1 _=>cK (fun e=>h1 e.symm))
  · have g:HGo C k (⟨14,(rd:Int),14,0,IntKind.u32.wrap (4+Ii - 1 - imm)⟩::(iT pl n (dW pl n 9)++l)) R W M:=by rw[←hrd];exact(hap [_]).2 h
    obtain⟨n1,n2⟩:=hb.nd;have hd:=hb.d16;have g1:=HGo.ld (rd:=rd) (ra:=14) (p:=4+(D.length - 1 - imm.toNat)) g (by rw[hb.bd,aE,aW];omega) (by omega);have hv:W.getD (4+(D.length - 1 - imm.toNat)) 0=D.getD (D.length - 1 - imm.toNat) 0:=hb.d _ (by omega);rw[hv]at g1;exact fin _ _ _ g1 (da (by rw[h.rl];omega)) (iz hD _) (fun j h1 _=>cK (fun e=>h1 e.symm))
  · have g:HGo C k (⟨14,(rd:Int),13,0,IntKind.u32.wrap (20+Ij - 1 - imm)⟩::(iT pl n (dW pl n 9)++l)) R W M:=by rw[←hrd];exact(hap [_]).2 h
    obtain⟨n1,n2⟩:=hb.nr;have hd:=hb.r16;have g1:=HGo.ld (rd:=rd) (ra:=13) (p:=20+(Rr.length - 1 - imm.toNat)) g (by rw[hb.br,aE,aW];omega) (by omega);have hv:W.getD (20+(Rr.length - 1 - imm.toNat)) 0=Rr.getD (Rr.length - 1 - imm.toNat) 0:=hb.r _ (by omega);rw[hv]at g1;exact fin _ _ _ g1 (da (by rw[h.rl];omega)) (iz hR _) (fun j h1 _=>cK (fun e=>h1 e.symm))
  · have g:HGo C k (jj pl xa 7++(jj pl xb 8++(JI imm (dW pl n 9) (dW pl xa 7) (dW pl xb 8)++(iT pl n (dW pl n 9)++l)))) R W M:=by
      have e:o9 Ii Ij pl n ⟨3,dst,xa,xb,imm⟩++l=jj pl xa 7++(jj pl xb 8++(JI imm (dW pl n 9) (dW pl xa 7) (dW pl xb 8)++(iT pl n (dW pl n 9)++l))):=by
        show((jj pl xa 7++(jj pl xb 8++JI imm (dW pl n 9) (dW pl xa 7) (dW pl xb 8)))++iT pl n (dW pl n 9))++l=_;simp only[aq]
      rwa[e]at h
    obtain⟨k1,R1,ra,rb,a,b,g1,e1,e2,ha,hbb,ea,eb,va,vb,a2,b2,hs⟩:=two _ (Or.inl rfl) g;rw[e1,e2,hrd]at g1;obtain⟨k2,R2,p1,p2,p3⟩:=HGo.alu (rd:=rd) (Or.inl h1) g1 (by omega) ea eb a2 b2;obtain⟨q,q1,q2⟩:=qI (Or.inl h1) a2 b2;have hv:kg D Rr V ⟨3,dst,xa,xb,imm⟩=sH imm a b:=by
      show(iq imm (V.getD xa.toNat 0) (V.getD xb.toNat 0)).1=_;rw[va,vb];unfold sH;rw[show(imm==25)=false by simp;omega];rfl
    rw[hv];exact fin _ _ _ (by rw[hrd];exact p1) p2 (by rw[q1];omega) (fun j h1 h2=>by rw[p3 j (by simp;omega),hs j (by simp;omega)])
  have g:HGo C k (jj pl xa 7++(jj pl xb 8++(la imm (dW pl xa 7) (dW pl xb 8)++(⟨2,dW pl n 9,10,0,0⟩::(iT pl n (dW pl n 9)++l))))) R W M:=by
    have e:o9 Ii Ij pl n ⟨4,dst,xa,xb,imm⟩++l=jj pl xa 7++(jj pl xb 8++(la imm (dW pl xa 7) (dW pl xb 8)++(⟨2,dW pl n 9,10,0,0⟩::(iT pl n (dW pl n 9)++l)))):=by
      show((jj pl xa 7++(jj pl xb 8++(la imm (dW pl xa 7) (dW pl xb 8)++[⟨2,dW pl n 9,10,0,0⟩])))++iT pl n (dW pl n 9))++l=_;simp only[aq,aP,aR]
    rwa[e]at h
  obtain⟨k1,R1,ra,rb,a,b,g1,e1,e2,ha,hbb,ea,eb,va,vb,a2,b2,hs⟩:=two _ (Or.inr rfl) g;rw[e1,e2]at g1;obtain⟨k2,R2,p1,p2,p3⟩:=HGo.flag h1 g1 ha hbb (by rw[hs 15 (by decide),hb.z]) ea eb a2 b2;have hfl:=D1 a2 b2 h1;have hv:kg D Rr V ⟨4,dst,xa,xb,imm⟩=(iq imm a b).2.1:=by
    show(iq imm (V.getD xa.toNat 0) (V.getD xb.toNat 0)).2.1=_;rw[va,vb]
  rw[hv];rw[hrd]at p1;have p4:=HGo.mov (rd:=rd) (ra:=10) p1;rw[p2]at p4;exact fin _ _ _ (by rw[hrd];exact p4) (da (by rw[p1.rl];omega)) (by omega) (fun j h1 h2=>by rw[cK (fun e=>h1 e.symm),p3 j (by simp;omega),hs j (by simp;omega)])
end
theorem nm1{a b:Nat}(h:a≠b):a∉[b]:=fun hm=>h (aN.1 hm)
structure ES(pl:Pl)(T:List Int)(N:Nat):Prop where
 has:∀n:Nat,n<N→pl.has n
 reg:∀i j:Nat,i<j→j<N→pl.inR i=true→pl.inR j=true→pl.r i=pl.r j→T.getD i 0≤j
 slot:∀i j:Nat,i<j→j<N→pl.inR i=false→pl.inR j=false→pl.s i=pl.s j→T.getD i 0≤j
def zU(pl:Pl)(T V:List Int)(n:Nat)(R W:List Int):Prop:=∀a:Nat,a<n→(n:Int)≤T.getD a 0→Lo pl R W a (V.getD a 0)
section
variable {C l:List HI} {k:Nat} {R W:List Int} {M:HM} {pl:Pl} {D Rr:List Int} {Ii Ij:Int} {T:List Int}
theorem BX{V V':List Int}{x:II}{n:Nat}(hx:x.ok Ii Ij n)(h:∀a:Nat,a<n→V.getD a 0=V'.getD a 0):kg D Rr V x=kg D Rr V' x:=by
 have hop:=hx.op;have hab:=hx.ab;obtain⟨op,dst,a,b,imm⟩:=x;dsimp only at hop hab;rcases hop with rfl|⟨rfl, -⟩|⟨rfl, -⟩|⟨rfl, -⟩|⟨rfl, -⟩
 ·rfl
 ·rfl
 ·rfl
 ·obtain⟨h1,h2⟩:=hab (Or.inl rfl);show(iq imm (V.getD a.toNat 0) (V.getD b.toNat 0)).1=(iq imm (V'.getD a.toNat 0) (V'.getD b.toNat 0)).1;rw[h a.toNat (by omega),h b.toNat (by omega)]
 obtain⟨h1,h2⟩:=hab (Or.inr rfl);show(iq imm (V.getD a.toNat 0) (V.getD b.toNat 0)).2.1=(iq imm (V'.getD a.toNat 0) (V'.getD b.toNat 0)).2.1;rw[h a.toNat (by omega),h b.toNat (by omega)]
def OkC(Ii Ij:Int)(code:List II):Prop:=∀(n:Nat) (x:II),code[n]? =some x→x.ok Ii Ij n
theorem OkC.app{pre suf:List II}(h:OkC Ii Ij (pre++suf)):OkC Ii Ij pre:=fun n x hx=>h n x (by rw[bE (au.1 hx).1];exact hx)
theorem OkC.last{pre:List II}{x:II}(h:OkC Ii Ij (pre++[x])):x.ok Ii Ij pre.length:=h pre.length x (by simp)
theorem Ff{V:List Int}{x:II}{n:Nat}(hx:x.ok Ii Ij n)(hD:wds D)(hR:wds Rr)(hV:wds V):0≤kg D Rr V x∧kg D Rr V x≤4294967295:=by
 have hop:=hx.op;have hi:=hx.imm;obtain⟨op,dst,a,b,imm⟩:=x;dsimp only at hop hi;obtain⟨x,hx1,hx2⟩:=lB hV a.toNat;obtain⟨y,hy1,hy2⟩:=lB hV b.toNat;rcases hop with rfl|⟨rfl, -⟩|⟨rfl, -⟩|⟨rfl,h1⟩|⟨rfl,h1⟩
 ·exact hi
 ·exact iz hD _
 ·exact iz hR _
 ·show 0≤(iq imm (V.getD a.toNat 0) (V.getD b.toNat 0)).1∧(iq imm (V.getD a.toNat 0) (V.getD b.toNat 0)).1≤4294967295;obtain⟨r,hr,hr2⟩:=qI (Or.inl h1) hx2 hy2;have:(iq imm x y).1=(r:Int):=by rw[←hr];unfold sH;rw[show(imm==25)=false by simp;omega];rfl
  rw[hx1,hy1,this];omega
 show 0≤(iq imm (V.getD a.toNat 0) (V.getD b.toNat 0)).2.1∧(iq imm (V.getD a.toNat 0) (V.getD b.toNat 0)).2.1≤4294967295;rw[hx1,hy1];have:=D1 hx2 hy2 h1;omega
theorem Fe(code:List II)(hD:wds D)(hR:wds Rr)(h:OkC Ii Ij code):wds (IQ D Rr code):=by
 revert h;refine ul (p:=fun code=>OkC Ii Ij code→wds (IQ D Rr code)) (fun _ x hx=>by cases hx) (fun l x ih h=>?_) code;rw[kw];intro y hy;rcases aV.1 hy with h1|h1
 ·exact ih h.app y h1
 rw[aN.1 h1];exact Ff h.last hD hR (ih h.app)
theorem vals_at{pre:List II}{x:II}{suf:List II}(h:OkC Ii Ij (pre++x::suf)):(IQ D Rr (pre++x::suf)).getD pre.length 0=kg D Rr (IQ D Rr (pre++x::suf)) x:=by
 have h2:pre++x::suf=(pre++[x])++suf:=by simp
 rw[h2]at h⊢;obtain⟨m,hm⟩:=yH (D:=D) (R:=Rr) (pre++[x]) suf;have e1:(IQ D Rr (pre++[x])).length=pre.length+1:=by rw[qt];simp
 have e0:(IQ D Rr pre).length=pre.length:=qt _;have e2:∀a:Nat,a<pre.length→(IQ D Rr pre).getD a 0=(IQ D Rr ((pre++[x])++suf)).getD a 0:=fun a ha=>by
  rw[hm,kw,aq];simp only[ax];rw[bE (by omega)]
 rw[←BX (OkC.last (OkC.app h)) e2,hm,kw];simp only[ax];rw[aq,bG (by omega),e0,Nat.sub_self]
 rfl
theorem HGo.all{V:List Int}{N:Nat}(hp:ES pl T N)(hD:wds D)(hR:wds Rr)(hV:wds V):∀(suf:List II) (n:Nat) (k:Nat) (R W:List Int),HGo C k (jw Ii Ij pl suf n++l) R W M→n+suf.length=N→
  (∀i x,suf[i]? =some x→x.ok Ii Ij (n+i)∧V.getD (n+i) 0=kg D Rr V x∧(x.op=3∨x.op=4→((n+i:Nat):Int)≤T.getD x.a.toNat 0∧((n+i:Nat):Int)≤T.getD x.b.toNat 0))→
  Hh D Rr Ii Ij R W→zU pl T V n R W→∃k' R' W',HGo C k' l R' W' M∧Hh D Rr Ii Ij R' W'∧zU pl T V N R' W'∧∀j,j<64→W'.getD j 0=W.getD j 0
 |[],n,k,R,W,h,hN,hx,hb,hh=>⟨k,R,W,h,hb,(by have:n=N:=(by simpa using hN);subst this;exact hh),fun _ _=>rfl⟩
 |x::suf,n,k,R,W,h,hN,hx,hb,hh=>by
  have hN':n+1+suf.length=N:=by rw[←hN];simp;omega
  obtain⟨x1,x2,x3⟩:=hx 0 x rfl;rw[Nat.add_zero]at x1 x2 x3;have h:HGo C k (o9 Ii Ij pl n x++(jw Ii Ij pl suf (n+1)++l)) R W M:=by
   have e:jw Ii Ij pl (x::suf) n++l=o9 Ii Ij pl n x++(jw Ii Ij pl suf (n+1)++l):=by show(o9 Ii Ij pl n x++jw Ii Ij pl suf (n+1))++l=_;rw[aq]
   rwa[e]at h
  have hn:=hp.has n (by omega);have hab:x.op=3∨x.op=4→(pl.has x.a∧Lo pl R W x.a (V.getD x.a.toNat 0))∧(pl.has x.b∧Lo pl R W x.b (V.getD x.b.toNat 0)):=fun ho=>by
   obtain⟨⟨a1,a2⟩,b1,b2⟩:=x1.ab ho;obtain⟨t1,t2⟩:=x3 ho;have ea:((x.a.toNat:Nat):Int)=x.a:=by omega
   have eb:((x.b.toNat:Nat):Int)=x.b:=by omega
   have ha:=hh x.a.toNat (by omega) t1;have hb:=hh x.b.toNat (by omega) t2;have pa:=hp.has x.a.toNat (by omega);have pb:=hp.has x.b.toNat (by omega);rw[ea]at ha pa;rw[eb]at hb pb;exact⟨⟨pa,ha⟩,pb,hb⟩
  obtain⟨k1,R1,W1,g1,g2,g3,g4,g5⟩:=HGo.one h x1 hb hD hR hV hn hab;have hold:zU pl T V (n+1) R1 W1:=fun a ha ht=>by
   by_cases e:a=n
   ·subst e;rw[x2];exact g2
   have h1:=hh a (by omega) (by omega);have hlt:a<n:=by omega
   refine⟨fun hi=>?_,fun hi=>?_⟩
   ·rw[g4 _ ?_ ?_];exact h1.1 hi
    ·rcases hp.has a (by omega)with⟨-,q⟩|⟨q, -⟩
     ·have:0≤pl.r a:=by unfold Pl.inR at hi;simpa using hi
      omega
     rw[hi]at q;cases q
    intro hin e2;have:=hp.reg a n hlt (by omega) hi hin (by
     have q1:0≤pl.r a:=by unfold Pl.inR at hi;simpa using hi
     have q2:0≤pl.r n:=by unfold Pl.inR at hin;simpa using hin
     omega)
    omega
   rw[g5 _ ?_];exact h1.2 hi;cases hin:pl.inR n with
   |true=>exact Or.inl rfl
   |false=>
    refine Or.inr fun e2=>?_
    have s1:0≤pl.s a:=by rcases hp.has a (by omega)with⟨q, -⟩|⟨-,q, -⟩;rw[hi]at q;cases q;exact q
    have s2:0≤pl.s n:=by rcases hn with⟨q, -⟩|⟨-,q, -⟩;rw[hin]at q;cases q;exact q
    have:=hp.slot a n hlt (by omega) hi hin (by omega);omega
  obtain⟨k2,R2,W2,q1,q2,q3,q4⟩:=HGo.all hp hD hR hV suf (n+1) k1 R1 W1 g1 hN' (fun i y hy=>by
   have:=hx (i+1) y (by simpa using hy);rw[show n+(i+1)=n+1+i by omega]at this;exact this) g3 hold
  refine⟨k2,R2,W2,q1,q2,q3,fun j hj=>?_⟩;rw[q4 j hj,g5 j ?_];cases hin:pl.inR n with
  |true=>exact Or.inl rfl
  |false=>exact Or.inr (by omega)
theorem HGo.outs{V:List Int}{N base B from_:Nat}(hp:ES pl T N)(hV:wds V)(hbase:base=13∨base=14)(hfr:from_=4∨from_=20):∀(out:List Int) (j:Nat) (k:Nat) (R W:List Int),HGo C k (tG pl base from_ out j++l) R W M→
  (∀n,n∈out→0≤n∧n<N∧(N:Int)≤T.getD n.toNat 0)→B+j+out.length≤16→R.getD base 0=(B:Int)→R.getD 15 0=0→zU pl T V N R W→
  ∃k' R' W',HGo C k' l R' W' M∧jZ [7] R R'∧(∀i,(i<from_+B+j∨from_+B+j+out.length≤i)→W'.getD i 0=W.getD i 0)∧(∀i,i<out.length→W'.getD (from_+B+j+i) 0=V.getD (out.getD i 0).toNat 0)
 |[],j,k,R,W,h,ho,hB,hb,h15,hh=>⟨k,R,W,h,jZ.refl _ _,fun _ _=>rfl,fun i hi=>absurd hi (by simp)⟩
 |n::out,j,k,R,W,h,ho,hB,hb,h15,hh=>by
  obtain⟨n0,n1,n2⟩:=ho n (by simp);have en:((n.toNat:Nat):Int)=n:=by omega
  have hn:=hp.has n.toNat (by omega);have hl:=hh n.toNat (by omega) n2;rw[en]at hn hl;have hB':B+j+(out.length+1)≤16:=hB;have h:HGo C k (jj pl n 7++(⟨15,0,(base:Int),dW pl n 7,IntKind.u32.wrap ((from_:Int)+IntKind.u32.wrap (j:Int))⟩::(tG pl base from_ out (j+1)++l))) R W M:=by
   have e:tG pl base from_ (n::out) j++l=jj pl n 7++(⟨15,0,(base:Int),dW pl n 7,IntKind.u32.wrap ((from_:Int)+IntKind.u32.wrap (j:Int))⟩::(tG pl base from_ out (j+1)++l)):=by
    show(jj pl n 7++(_::tG pl base from_ out (j+1)))++l=_;rw[aq,aP]
   rwa[e]at h
  obtain⟨r,hr,hr2⟩:=k9 hn (into:=7) (by omega);have hr:dW pl n 7=(r:Int):=hr;obtain⟨v,hv,hv2⟩:=lB hV n.toNat;rw[hv]at hl;obtain⟨k1,R1,g1,g2,g3⟩:=HGo.get (into:=7) h hn (by omega) hr h15 hl;rw[hr]at g1;have hb1:R1.getD base 0=(B:Int):=by rw[g3 base (by simp;omega),hb]
  have g4:=HGo.st (ra:=base) (rb:=r) (p:=from_+B+j) (v:=(v:Int)) g1 (by rw[hb1,aE,aE,aW];omega) (by omega) (by rw[g2,aE];omega);have hold:zU pl T V N R1 (W.set (from_+B+j) v):=fun a ha ht=>by
   have h1:=hh a ha ht;have h2:=hp.has a ha;refine⟨fun hi=>?_,fun hi=>?_⟩
   ·rw[g3 _ ?_];exact h1.1 hi;rcases h2 with⟨-,q⟩|⟨q, -⟩
    ·have:0≤pl.r a:=by unfold Pl.inR at hi;simpa using hi
     exact nm1 (by omega)
    rw[hi]at q;cases q
   rw[cK (by omega)];exact h1.2 hi
  obtain⟨k2,R2,W2,q1,q2,q3,q4⟩:=HGo.outs hp hV hbase hfr out (j+1) _ R1 _ g4 (fun m hm=>ho m (by simp[hm])) (by omega) hb1 (by rw[g3 15 (by decide),h15]) hold;have hw:=h.wl;refine⟨k2,R2,W2,q1,g3.trans q2 (by intro z hz;simpa using hz),fun i hi=>?_,fun i hi=>?_⟩
  ·have hi:i<from_+B+j∨from_+B+j+(out.length+1)≤i:=hi;rw[q3 i (by omega),cK (by omega)]
  cases i with
  |zero=>
   rw[Nat.add_zero,q3 _ (by omega),da (by omega)];show(v:Int)=V.getD n.toNat 0;rw[hv]
  |succ i=>
   have:=q4 i (by simpa using hi);rw[show from_+B+(j+1)+i=from_+B+j+(i+1) by omega]at this;exact this
theorem HGo.stack{V:List Int}{N base B from_ word:Nat}{out:List Int}(hp:ES pl T N)(hV:wds V)(hbase:base=13∨base=14)(hfr:from_=4∨from_=20)(hw:word=2∨word=3)(h:HGo C k (hH pl base from_ word out++l) R W M)
  (ho:∀n,n∈out→0≤n∧n<N∧(N:Int)≤T.getD n.toNat 0) (hB:B+out.length≤16) (hb:R.getD base 0=(B:Int)) (h15:R.getD 15 0=0) (hh:zU pl T V N R W):
  ∃k' R' W',HGo C k' l R' W' M∧jZ [7,11] R R'∧(∀i,i≠word→(i<from_+B∨from_+B+out.length≤i)→W'.getD i 0=W.getD i 0)∧(∀i,i<out.length→W'.getD (from_+B+i) 0=V.getD (out.getD i 0).toNat 0)∧W'.getD word 0=((B+out.length:Nat):Int)∧zU pl T V N R' W':=by
 have h:HGo C k (tG pl base from_ out 0++(⟨1,11,0,0,IntKind.u32.wrap (out.length:Int)⟩::⟨3,11,11,(base:Int),0⟩::⟨15,0,15,11,(word:Int)⟩::l)) R W M:=by
  have e:hH pl base from_ word out++l=tG pl base from_ out 0++(⟨1,11,0,0,IntKind.u32.wrap (out.length:Int)⟩::⟨3,11,11,(base:Int),0⟩::⟨15,0,15,11,(word:Int)⟩::l):=by
   unfold hH;simp only[aq,aP,aR]
  rwa[e]at h
 obtain⟨k1,R1,W1,g1,g2,g3,g4⟩:=HGo.outs hp hV hbase hfr out 0 k R W h ho (by omega) hb h15 hh;have hl:=g1.rl;have hl2:=g1.wl;have a1:=HGo.li (rd:=11) g1;have a2:=HGo.op (rd:=11) (ra:=11) (rb:=base) (v:=((B+out.length:Nat):Int)) a1 (by decide) (by decide) (by
  rw[da (by omega),cK (by omega),g2 base (by simp;omega),hb];show IntKind.u64.wrap (IntKind.u32.wrap (out.length:Int)+(B:Int))=_;rw[aE,aW];omega)
 have a3:=HGo.st (ra:=15) (rb:=11) (p:=word) (v:=((B+out.length:Nat):Int)) a2 (by rw[cK (by decide),cK (by decide),g2 15 (by decide),h15,aW];omega) (by omega) (by rw[da (by rw[aL];omega),aE];omega);refine⟨_,_,_,a3,?_,fun i h1 h2=>?_,fun i hi=>?_,da (by omega),fun a ha ht=>?_⟩
 ·intro j hj;simp only[aM,a9,or_false,not_or]at hj;rw[cK (by omega),cK (by omega),g2 j (by simp;omega)]
 ·rw[cK (fun e=>h1 e.symm),g3 i (by omega)]
 ·rw[cK (by omega)];have:=g4 i hi;rwa[Nat.add_zero]at this
 have h1:=hh a ha ht;have h2:=hp.has a ha;refine⟨fun hi=>?_,fun hi=>?_⟩
 ·have q1:0≤pl.r a:=by unfold Pl.inR at hi;simpa using hi
  have q2:pl.r a<7:=by rcases h2 with⟨-,q⟩|⟨q, -⟩;exact q;rw[hi]at q;cases q
  rw[cK (by omega),cK (by omega),g2 _ (nm1 (by omega))];exact h1.1 hi
 rw[cK (by omega),g3 _ (by omega)];exact h1.2 hi
theorem HGo.room{base word n e:Nat}{Ik IE:Int}(h:HGo C k (m8 e base word Ik IE++l) R W M)(hbase:base=13∨base=14)(hw:word=2∨word=3)(h15:R.getD 15 0=0)(hn:W.getD word 0=(n:Int))(hn2:n≤16)(h0:0≤Ik∧Ik≤16)(hm:0≤IE∧IE≤4294967295)
  (he:C.drop e=[⟨19,0,0,0,2⟩]):Ik≤n∧(n:Int)≤IE∧∃k' R',HGo C k' l R' W M∧R'.getD base 0=(n:Int) - Ik∧jZ [base,11,12] R R':=by
 have hl:=h.rl;have no:∀(R1:List Int),¬HGo C e [⟨19,0,0,0,2⟩] R1 W M:=fun R1 g=>by have:=(HGo.exit g).1;cases this
 have a1:=HGo.ld (rd:=base) (ra:=15) (p:=word) h (by rw[h15,aW];omega) (by omega);rw[hn]at a1;have a2:=HGo.li (rd:=11) a1;have e11:((R.set base (n:Int)).set 11 (IntKind.u32.wrap Ik)).getD 11 0=Ik:=by rw[da (by rw[aL];omega),aE];omega
 have eb:((R.set base (n:Int)).set 11 (IntKind.u32.wrap Ik)).getD base 0=n:=by rw[cK (by omega),da (by omega)]
 have a3:=HGo.op (rd:=12) (ra:=base) (rb:=11) (v:=b2i (decide ((n:Int)<Ik))) a2 (by decide) (by decide) (by rw[e11,eb];rfl);have b3:(((R.set base (n:Int)).set 11 (IntKind.u32.wrap Ik)).set 12 (b2i (decide ((n:Int)<Ik)))).getD 12 0=b2i (decide ((n:Int)<Ik)):=da (by simp only[aL];omega);have a4:=HGo.bnez (ra:=12) a3 he;rw[b3]at a4;rcases a4 with⟨c1,a4⟩|⟨-,a4⟩
 ·have hlt:Ik≤n:=by
   cases hd:decide ((n:Int)<Ik)with
   |true=>rw[hd]at c1;cases c1
   |false=>have:=of_decide_eq_false hd;omega
  have a5:=HGo.li (rd:=12) a4;have a6:=HGo.op (rd:=12) (ra:=12) (rb:=base) (v:=b2i (decide (IE<(n:Int)))) a5 (by decide) (by decide) (by
   rw[da (by simp only[aL];omega),cK (by omega),cK (by omega),eb];show b2i (decide (IntKind.u32.wrap IE<(n:Int)))=_;rw[show IntKind.u32.wrap IE=IE by rw[aE];omega])
  have a7:=HGo.bnez (ra:=12) a6 he;rw[da (by simp only[aL];omega)]at a7;rcases a7 with⟨c2,a7⟩|⟨-,a7⟩
  ·have hle:(n:Int)≤IE:=by
    cases hd:decide (IE<(n:Int))with
    |true=>rw[hd]at c2;cases c2
    |false=>have:=of_decide_eq_false hd;omega
   have a8:=HGo.op (rd:=base) (ra:=base) (rb:=11) (v:=(n:Int) - Ik) a7 (by decide) (by decide) (by
    rw[cK (by omega),cK (by omega),cK (by omega),eb,cK (by decide),cK (by decide),cK (by decide),e11];show IntKind.u64.wrap ((n:Int) - Ik)=_;rw[aW];omega)
   refine⟨hlt,hle,_,_,a8,da (by simp only[aL];omega),?_⟩;intro j hj;simp only[aM,a9,or_false,not_or]at hj;rw[cK (by omega),cK (by omega),cK (by omega),cK (by omega),cK (by omega),cK (by omega)]
  exact absurd a7 (no _)
 exact absurd a4 (no _)
end
def jx(W:List Int)(from_:Nat)(l:List Int):Nat→List Int
 |0=>W
 |k+1=>(jx W from_ l k).set (from_+k) (l.getD k 0)
def IU(s:St):List Int:=(jx (jx (((((List.replicate 256 (0:Int)).set 0 s.pc).set 1 s.flags).set 2 (s.d.length:Int)).set 3 (s.r.length:Int)) 4 s.d 16) 20 s.r 16).set 36 0
theorem jK(W:List Int)(f:Nat)(l:List Int):∀k,(jx W f l k).length=W.length
 |0=>rfl
 |k+1=>by show((jx W f l k).set _ _).length=_;rw[aL,jK W f l k]
theorem uW(W:List Int)(f:Nat)(l:List Int):∀k,f+k≤W.length→∀j,j<k→(jx W f l k).getD (f+j) 0=l.getD j 0
 |0,_,j,hj=>absurd hj (by omega)
 |k+1,hk,j,hj=>by
  show((jx W f l k).set (f+k) (l.getD k 0)).getD (f+j) 0=_;by_cases e:j=k
  ·subst e;exact da (by rw[jK];omega)
  rw[cK (by omega)];exact uW W f l k (by omega) j (by omega)
theorem ib(W:List Int)(f:Nat)(l:List Int):∀k,∀j,(j<f∨f+k≤j)→(jx W f l k).getD j 0=W.getD j 0
 |0,_,_=>rfl
 |k+1,j,hj=>by
  show((jx W f l k).set (f+k) (l.getD k 0)).getD j 0=_;rw[cK (by omega)];exact ib W f l k j (by omega)
theorem y7(s:St):(IU s).length=256:=by unfold IU;simp[jK]
theorem FU(s:St):(IU s).getD 0 0=s.pc∧(IU s).getD 1 0=s.flags∧(IU s).getD 2 0=s.d.length∧(IU s).getD 3 0=s.r.length:=by
 unfold IU;refine⟨?_,?_,?_,?_⟩
 ·rw[cK (by decide),ib _ _ _ _ _ (by omega),ib _ _ _ _ _ (by omega),cK (by decide),cK (by decide),cK (by decide)];exact da (by simp)
 ·rw[cK (by decide),ib _ _ _ _ _ (by omega),ib _ _ _ _ _ (by omega),cK (by decide),cK (by decide)];exact da (by simp)
 ·rw[cK (by decide),ib _ _ _ _ _ (by omega),ib _ _ _ _ _ (by omega),cK (by decide)];exact da (by simp)
 rw[cK (by decide),ib _ _ _ _ _ (by omega),ib _ _ _ _ _ (by omega)];exact da (by simp)
theorem Hu(s:St)(j:Nat)(hj:j<16):(IU s).getD (4+j) 0=s.d.getD j 0:=by
 unfold IU;rw[cK (by omega),ib _ _ _ _ _ (by omega)];exact uW _ _ _ _ (by simp) j hj
theorem Ht(s:St)(j:Nat)(hj:j<16):(IU s).getD (20+j) 0=s.r.getD j 0:=by
 unfold IU;rw[cK (by omega)];exact uW _ _ _ _ (by simp[jK]) j hj
def Pg.Ji(p:Pg)(V:List Int)(f0:Int):Int:=bif decide (0≤p.flags)then V.getD p.flags.toNat 0%16 else f0
def Pg.Ja(p:Pg)(V:List Int)(f:Int):Int:=bif decide (0≤p.target)then V.getD p.target.toNat 0 else bif(dg p.branch f).1 then p.taken else p.next
section
variable {C l:List HI} {k:Nat} {R W:List Int} {M:HM} {pl:Pl} {T V:List Int} {N:Nat}
theorem HGo.pos{pre:List HI}(h:HGo C k l R W M)(hl:l≠[])(hC:C=pre++l):k=pre.length:=by
 have h1:=congrArg List.length h.at_;have h2:=congrArg List.length hC;rw[bz]at h1;rw[ae]at h2;have h3:0<l.length:=List.length_pos_iff.2 hl;omega
theorem zU.mono{R' W':List Int}(hp:ES pl T N)(h:zU pl T V N R W)(hs:∀j,j<7→R'.getD j 0=R.getD j 0)(hw:∀j,64≤j→W'.getD j 0=W.getD j 0):zU pl T V N R' W':=fun a ha ht=>by
 have h1:=h a ha ht;have h2:=hp.has a ha;refine⟨fun hi=>?_,fun hi=>?_⟩
 ·have q1:0≤pl.r a:=by unfold Pl.inR at hi;simpa using hi
  have q2:pl.r a<7:=by rcases h2 with⟨-,q⟩|⟨q, -⟩;exact q;rw[hi]at q;cases q
  rw[hs _ (by omega)];exact h1.1 hi
 rw[hw _ (by omega)];exact h1.2 hi
theorem HGo.take7{n:Int}(hp:ES pl T N)(hV:wds V)(h:HGo C k (jj pl n 7++l) R W M)(h15:R.getD 15 0=0)(hh:zU pl T V N R W)(hn:0≤n∧n<N∧(N:Int)≤T.getD n.toNat 0):
  ∃k' R' r,HGo C k' l R' W M∧dW pl n 7=(r:Nat)∧r<9∧R'.getD r 0=V.getD n.toNat 0∧jZ [7] R R':=by
 obtain⟨n0,n1,n2⟩:=hn;have en:((n.toNat:Nat):Int)=n:=by omega
 have h1:=hp.has n.toNat (by omega);have h2:=hh n.toNat (by omega) n2;rw[en]at h1 h2;obtain⟨r,hr,hr2⟩:=k9 h1 (into:=7) (by omega);have hr:dW pl n 7=(r:Int):=hr;obtain⟨k1,R1,g1,g2,g3⟩:=HGo.get (into:=7) h h1 (by omega) hr h15 h2;exact⟨k1,R1,r,g1,hr,by rcases hr2 with⟨q, -⟩|⟨q, -⟩<;>omega,g2,g3⟩
theorem Hc{v:Nat}(hv:v<4294967296):bits .and .u64 15 (v:Int)=(v:Int)%16:=by
 have h1:=EJ (a:=15) (b:=v) (by decide) (by omega);rw[show((15:Nat):Int)=15 from rfl]at h1;rw[h1,Nat.and_comm,show(15:Nat)=2^4 - 1 from rfl,Nat.and_two_pow_sub_one_eq_mod];omega
theorem GK:∀f:Nat,f<16→(bits .and .u64 (f:Int) 1=bits .and .u32 (f:Int) 1∧bits .and .u64 (f:Int) 2=bits .and .u32 (f:Int) 2∧bits .and .u64 (f:Int) 4=bits .and .u32 (f:Int) 4∧bits .and .u64 (f:Int) 8=bits .and .u32 (f:Int) 8):=by decide+kernel
theorem Dv{op f:Int}(hop:33≤op∧op≤37)(hf:0≤f∧f≤15):(dg op f).1=(bif gY op then bits .and .u64 f (fD op) !=0 else bits .and .u64 f (fD op)==0):=by
 obtain⟨n,rfl⟩:∃n:Nat,f=n:=ar hf.1;obtain⟨h1,h2,h3,h4⟩:=GK n (by omega);have h:op=33∨op=34∨op=35∨op=36∨op=37:=by omega
 rcases h with rfl|rfl|rfl|rfl|rfl
 ·show(bits .and .u32 (n:Int) 1 !=0)=(bits .and .u64 (n:Int) 1 !=0);rw[h1]
 ·show(bits .and .u32 (n:Int) 1==0)=(bits .and .u64 (n:Int) 1==0);rw[h1]
 ·show(bits .and .u32 (n:Int) 4 !=0)=(bits .and .u64 (n:Int) 4 !=0);rw[h3]
 ·show(bits .and .u32 (n:Int) 2 !=0)=(bits .and .u64 (n:Int) 2 !=0);rw[h2]
 show(bits .and .u32 (n:Int) 8 !=0)=(bits .and .u64 (n:Int) 8 !=0);rw[h4]
theorem HGo.flagsEnd{p:Pg}{f0:Int}(hp:ES pl T N)(hV:wds V)(h:HGo C k (gE p pl++l) R W M)(h15:R.getD 15 0=0)(hh:zU pl T V N R W)(hf:0≤p.flags→p.flags<N∧(N:Int)≤T.getD p.flags.toNat 0)(h1:W.getD 1 0=f0):
  ∃k' R' W',HGo C k' l R' W' M∧jZ [7,11] R R'∧W'.getD 1 0=p.Ji V f0∧∀i,i≠1→W'.getD i 0=W.getD i 0:=by
 unfold gE at h;unfold Pg.Ji;by_cases hd:0≤p.flags
 ·rw[aG hd]at h⊢;have h:HGo C k (⟨1,11,0,0,15⟩::(jj pl p.flags 7++(⟨5,11,11,dW pl p.flags 7,0⟩::⟨15,0,15,11,1⟩::l))) R W M:=by
   have e:(⟨1,11,0,0,15⟩::(jj pl p.flags 7++[⟨5,11,11,dW pl p.flags 7,0⟩,⟨15,0,15,11,1⟩]))++l=(⟨1,11,0,0,15⟩::(jj pl p.flags 7++(⟨5,11,11,dW pl p.flags 7,0⟩::⟨15,0,15,11,1⟩::l)):List HI):=by simp
   rw[ac,e]at h;exact h
  have g0:=HGo.li (rd:=11) h;obtain⟨k1,R1,r,g1,g2,g3,g4,g5⟩:=HGo.take7 hp hV g0 (by rw[cK (by decide),h15]) (hh.mono hp (fun j hj=>cK (by omega)) (fun _ _=>rfl)) ⟨hd,(hf hd).1,(hf hd).2⟩;obtain⟨v,v1,v2⟩:=lB hV p.flags.toNat;rw[g2]at g1;have hl:=h.rl;have a1:=HGo.op (rd:=11) (ra:=11) (rb:=r) (v:=(v:Int)%16) g1 (by decide) (by decide) (by rw[g5 11 (by decide),da (by omega),g4,v1];exact Hc v2);have a2:=HGo.st (ra:=15) (rb:=11) (p:=1) (v:=(v:Int)%16) a1 (by rw[cK (by decide),g5 15 (by decide),cK (by decide),h15];rfl) (by decide) (by rw[da (by rw[g1.rl];decide),aE];omega);refine⟨_,_,_,a2,?_,?_,fun i hi=>cK (fun e=>hi e.symm)⟩
  ·intro j hj;simp only[aM,a9,or_false,not_or]at hj;rw[cK (by omega),g5 j (by simp;omega),cK (by omega)]
  rw[da (by rw[h.wl];decide),ac,v1]
 rw[aF hd]at h⊢;exact⟨k,R,W,h,jZ.refl _ _,h1,fun _ _=>rfl⟩
theorem HGo.JD{p:Pg}{pos:Nat}{f:Int}(h:HGo C k (gh p pos++l) R W M)(hk:p.branch≠0→k=pos)(hps:pos≤100000)(h15:R.getD 15 0=0)(hf:0≤f∧f≤15)(h1:W.getD 1 0=f)(h9:R.getD 9 0=p.next)(hb:p.branch=0∨(33≤p.branch∧p.branch≤37)):
  ∃k' R',HGo C k' l R' W M∧R'.getD 9 0=(bif(dg p.branch f).1 then p.taken else p.next)∧jZ [9,11,12] R R':=by
 unfold gh at h;rcases hb with hb|hb
 ·rw[hb]at h⊢;exact⟨k,R,h,h9,jZ.refl _ _⟩
 rw[show(p.branch !=0)=true by simp;omega,ac]at h;have hk:=hk (by omega);have hl:=h.rl;have a1:=HGo.ld (rd:=11) (ra:=15) (p:=1) h (by rw[h15];rfl) (by decide);have a2:=HGo.li (rd:=12) a1;rw[h1]at a2;have hbit:=Dv hb hf;obtain⟨q,hq⟩:=Zgn (bits .and .u64 f (fD p.branch));rw[hq]at hbit;have a3:=HGo.op (rd:=11) (ra:=11) (rb:=12) (v:=q) a2 (by decide) (by decide) (by rw[cK (by decide),da (by omega),da (by rw[aL];omega)];exact hq);have e11:(((R.set 11 f).set 12 (fD p.branch)).set 11 q).getD 11 0=q:=da (by simp only[aL];omega);have e9:(((R.set 11 f).set 12 (fD p.branch)).set 11 q).getD 9 0=p.next:=by rw[cK (by decide),cK (by decide),cK (by decide),h9]
 have ew:IntKind.u32.wrap (((pos+3:Nat):Int)+2)=((pos+5:Nat):Int):=by rw[aE];omega
 rw[ew]at a3;have hdrop:C.drop (pos+5)=l:=by
  have:=h.at_;rw[hk]at this;have h5:=congrArg (List.drop 5) this;rw[List.drop_drop]at h5;exact h5
 have same:jZ [9,11,12] R (((R.set 11 f).set 12 (fD p.branch)).set 11 q):=by
  intro j hj;simp only[aM,a9,or_false,not_or]at hj;rw[cK (by omega),cK (by omega),cK (by omega)]
 have goOn:∀{k2:Nat},HGo C k2 (⟨1,9,0,0,p.taken⟩::l) (((R.set 11 f).set 12 (fD p.branch)).set 11 q) W M→(dg p.branch f).1=true→∃k' R',HGo C k' l R' W M∧R'.getD 9 0=(bif(dg p.branch f).1 then p.taken else p.next)∧jZ [9,11,12] R R':=fun g he=>by
  refine⟨_,_,HGo.li (rd:=9) g,?_,same.trans (jZ.set _ 9 _ (e:=[9]) (by simp)) (by intro z hz;simp at hz⊢;omega)⟩;rw[he];exact da (by simp only[aL];omega)
 have stay:HGo C (pos+5) l (((R.set 11 f).set 12 (fD p.branch)).set 11 q) W M→(dg p.branch f).1=false→∃k' R',HGo C k' l R' W M∧R'.getD 9 0=(bif(dg p.branch f).1 then p.taken else p.next)∧jZ [9,11,12] R R':=fun g he=>
  ⟨_,_,g,by rw[he];exact e9,same⟩
 cases hs:gY p.branch with
 |true=>
  rw[hs]at a3 hbit;have a4:=HGo.beqz (ra:=11) a3 hdrop;rw[e11]at a4;rcases a4 with⟨c,g⟩|⟨c,g⟩
  ·exact goOn g (by rw[hbit];show(q !=0)=true;simpa using c)
  exact stay g (by rw[hbit];show(q !=0)=false;simpa using c)
 |false=>
  rw[hs]at a3 hbit;have a4:=HGo.bnez (ra:=11) a3 hdrop;rw[e11]at a4;rcases a4 with⟨c,g⟩|⟨c,g⟩
  ·exact goOn g (by rw[hbit];show(q==0)=true;simpa using c)
  exact stay g (by rw[hbit];show(q==0)=false;simpa using c)
structure PgOk(p:Pg)(T:List Int):Prop where
 code:OkC p.Ii p.Ij p.code
 uses:∀(n:Nat) (x:II),p.code[n]? =some x→x.op=3∨x.op=4→(n:Int)≤T.getD x.a.toNat 0∧(n:Int)≤T.getD x.b.toNat 0
 Iq:∀n,n∈p.Iq→0≤n∧n<p.code.length∧(p.code.length:Int)≤T.getD n.toNat 0
 Ir:∀n,n∈p.Ir→0≤n∧n<p.code.length∧(p.code.length:Int)≤T.getD n.toNat 0
 flags:0≤p.flags→p.flags<p.code.length∧(p.code.length:Int)≤T.getD p.flags.toNat 0
 target:0≤p.target→p.target<p.code.length∧(p.code.length:Int)≤T.getD p.target.toNat 0
 branch:p.branch=0∨(33≤p.branch∧p.branch≤37)
 n64:p.code.length≤64
 Ii:0≤p.Ii∧p.Ii≤16
 Ij:0≤p.Ij∧p.Ij≤16
 IK:0≤p.IK∧p.IK≤16
 IN:0≤p.IN∧p.IN≤16
 next:0≤p.next∧p.next≤4294967295
 taken:0≤p.taken∧p.taken≤4294967295
 count:1≤p.count∧p.count≤8
theorem HGo.fin{p:Pg}{pos:Nat}{f0:Int}{l:List HI}(ok:PgOk p T)(hN:N=p.code.length)(hp:ES pl T N)(hV:wds V)(h:HGo C k (qF p pl pos++l) R W M)(hk:k=pos)(hl:l≠[])(hps:pos≤10000)(h15:R.getD 15 0=0)(hh:zU pl T V N R W)(h1:W.getD 1 0=f0)(hf0:0≤f0∧f0≤15):
  M.words.getD 0 0=p.Ja V (p.Ji V f0)∧M.words.getD 1 0=p.Ji V f0∧M.words.getD 36 0=p.count∧∀i,i≠0→i≠1→i≠36→M.words.getD i 0=W.getD i 0:=by
 subst hN;have hfl:=ok.flags;have htg:=ok.target;have hbr:=ok.branch;have hnx:=ok.next
 have htk:=ok.taken;have hct:=ok.count;have hC:C=C.take k++(qF p pl pos++l):=by rw[←h.at_];exact(List.take_append_drop k C).symm
 obtain⟨rest,hrest⟩:∃rest,rest=iQ p pl++(⟨15,0,15,9,0⟩::⟨1,11,0,0,IntKind.u32.wrap p.count⟩::⟨15,0,15,11,36⟩::⟨19,0,0,0,1⟩::l):=⟨_,rfl⟩;have e1:qF p pl pos++l=gE p pl++(⟨1,9,0,0,p.next⟩::(gh p (pos+(gE p pl).length+1)++rest)):=by
  rw[hrest];unfold qF;simp
 have hkl:C.length=k+(qF p pl pos++l).length:=by
  have h2:=h.at_;have h3:=congrArg List.length h2;rw[bz]at h3;have h4:0<(qF p pl pos++l).length:=by rw[ae];have:=List.length_pos_iff.2 hl;omega
  omega
 rw[e1]at h hkl;obtain⟨k1,R1,W1,g1,g2,g3,g4⟩:=HGo.flagsEnd hp hV h h15 hh hfl h1;have a1:=HGo.li (rd:=9) g1;have hf:0≤p.Ji V f0∧p.Ji V f0≤15:=by
  unfold Pg.Ji;cases decide (0≤p.flags)with
  |true=>show 0≤V.getD p.flags.toNat 0%16∧V.getD p.flags.toNat 0%16≤15;omega
  |false=>exact hf0
 have hrl:=h.rl;have hfle:(gE p pl).length≤5:=by
  unfold gE;cases decide (0≤p.flags)with
  |false=>exact aw _
  |true=>
   show(_::(jj pl p.flags 7++[_,_])).length≤5;have:(jj pl p.flags 7).length≤1:=by unfold jj;cases pl.inR p.flags<;>simp
   simp;omega
 obtain⟨k2,R2,b1,b2,b3⟩:=HGo.JD (pos:=pos+(gE p pl).length+1) a1 (fun hb=>by
   have h5:k1+1=_:=rfl;have h6:=congrArg List.length a1.at_;rw[bz]at h6;have h7:0<(gh p (pos+(gE p pl).length+1)++rest).length:=by
    rw[ae];unfold gh;rw[show(p.branch !=0)=true by simpa using hb];show 0<5+_;omega
   simp only[ae,ai]at hkl h6 h7;omega) (by omega) (by rw[cK (by decide),g2 15 (by decide),h15]) hf g3 (da (by rw[g1.rl];decide)) hbr
 have h15':R2.getD 15 0=0:=by rw[b3 15 (by decide),cK (by decide),g2 15 (by decide),h15]
 have hold2:zU pl T V p.code.length R2 W1:=hh.mono hp (fun j hj=>by rw[b3 j (by simp;omega),cK (by omega),g2 j (by simp;omega)]) (fun j hj=>g4 j (by omega));have tgt:∃k3 R3,HGo C k3 (⟨15,0,15,9,0⟩::⟨1,11,0,0,IntKind.u32.wrap p.count⟩::⟨15,0,15,11,36⟩::⟨19,0,0,0,1⟩::l) R3 W1 M∧R3.getD 9 0=p.Ja V (p.Ji V f0)∧R3.getD 15 0=0:=by
  rw[hrest]at b1;unfold iQ at b1;unfold Pg.Ja;by_cases hd:0≤p.target
  ·rw[aG hd]at b1⊢;have b1:HGo C k2 (jj pl p.target 7++(⟨2,9,dW pl p.target 7,0,0⟩::(⟨15,0,15,9,0⟩::⟨1,11,0,0,IntKind.u32.wrap p.count⟩::⟨15,0,15,11,36⟩::⟨19,0,0,0,1⟩::l))) R2 W1 M:=by
    rw[ac,aq]at b1;exact b1
   obtain⟨k3,R3,r,c1,c2,c3,c4,c5⟩:=HGo.take7 hp hV b1 h15' hold2 ⟨hd,(htg hd).1,(htg hd).2⟩;rw[c2]at c1;have c6:=HGo.mov (rd:=9) (ra:=r) c1;rw[c4]at c6;exact⟨_,_,c6,da (by rw[c1.rl];decide),by rw[cK (by decide),c5 15 (by decide),h15']⟩
  rw[aF hd]at b1⊢;exact⟨k2,R2,b1,b2,h15'⟩
 obtain⟨k3,R3,d1,d2,d3⟩:=tgt;have hpc:0≤p.Ja V (p.Ji V f0)∧p.Ja V (p.Ji V f0)≤4294967295:=by
  unfold Pg.Ja;cases decide (0≤p.target)with
  |true=>exact iz hV _
  |false=>cases(dg p.branch (p.Ji V f0)).1 with
   |true=>exact htk
   |false=>exact hnx
 have hl3:=d1.rl;have hw3:=d1.wl;have x1:=HGo.st (ra:=15) (rb:=9) (p:=0) (v:=p.Ja V (p.Ji V f0)) d1 (by rw[d3];rfl) (by decide) (by rw[d2,aE];omega);have x2:=HGo.li (rd:=11) x1;have x3:=HGo.st (ra:=15) (rb:=11) (p:=36) (v:=p.count) x2 (by rw[cK (by decide),d3];rfl) (by decide) (by rw[da (by omega),aE,aE];omega);have x4:=HGo.exit x3;rw[x4.2];refine⟨?_,?_,?_,fun i h0 h1 h36=>?_⟩
 ·show((W1.set 0 _).set 36 _).getD 0 0=_;rw[cK (by decide),da (by omega)]
 ·show((W1.set 0 _).set 36 _).getD 1 0=_;rw[cK (by decide),cK (by decide),g3]
 ·show((W1.set 0 _).set 36 _).getD 36 0=_;exact da (by rw[aL];omega)
 show((W1.set 0 _).set 36 _).getD i 0=_;rw[cK (fun e=>h36 e.symm),cK (fun e=>h0 e.symm),g4 i h1]
end
section
variable {pl:Pl}
theorem rV(n into:Int):(jj pl n into).length≤1:=by unfold jj;cases pl.inR n<;>simp
theorem Gt(n r:Int):(iT pl n r).length≤1:=by unfold iT;cases pl.inR n<;>simp
theorem EL(op rd a b:Int):(JI op rd a b).length≤3:=by unfold JI;cases uP op<;>simp[Hx]
theorem GJ(op a b:Int):(la op a b).length≤21:=by
 have h:=EL op 9 a b;unfold la fZ;cases op==16 with
 |true=>simp[jQ,gI,gV,sG];omega
 |false=>
  cases op==17||op==25 with
  |true=>simp[jP,gI,gV,sG];omega
  |false=>simp[gI,gV,sG];omega
theorem oneL_le(nd nr:Int)(n:Int)(x:II):(o9 nd nr pl n x).length≤25:=by
 have h0:=Gt (pl:=pl) n (dW pl n 9);have h1:=rV (pl:=pl) x.a 7;have h2:=rV (pl:=pl) x.b 8;have h3:=EL x.imm (dW pl n 9) (dW pl x.a 7) (dW pl x.b 8);have h4:=GJ x.imm (dW pl x.a 7) (dW pl x.b 8);unfold o9;rw[ae];cases x.op==0 with
 |true=>simp;omega
 |false=>cases x.op==1 with
  |true=>simp;omega
  |false=>cases x.op==2 with
   |true=>simp;omega
   |false=>cases x.op==3 with
    |true=>simp only[ac,aa,ae];omega
    |false=>cases x.op==4 with
     |true=>simp only[ac,aa,ae,ai,ao];omega
     |false=>simp;omega
theorem zd(nd nr:Int):∀(c:List II) (n:Nat),(jw nd nr pl c n).length≤25*c.length
 |[],_=>aw _
 |x::c,n=>by
  have h1:=oneL_le (pl:=pl) nd nr n x;have h2:=zd nd nr c (n+1);show(o9 nd nr pl n x++jw nd nr pl c (n+1)).length≤25*(c.length+1);rw[ae];omega
theorem xQ(base f:Int):∀(c:List Int) (n:Nat),(tG pl base f c n).length≤2*c.length
 |[],_=>aw _
 |x::c,n=>by
  have h1:=rV (pl:=pl) x 7;have h2:=xQ base f c (n+1);show(jj pl x 7++(_::tG pl base f c (n+1))).length≤2*(c.length+1);rw[ae,ai];omega
theorem endL_le(p:Pg)(pos:Nat):(qF p pl pos).length≤20:=by
 have h1:(gE p pl).length≤4:=by
  unfold gE;have:=rV (pl:=pl) p.flags 7;cases decide (0≤p.flags)with
  |true=>simp;omega
  |false=>simp
 have h2:∀q,(gh p q).length≤5:=fun q=>by unfold gh;cases p.branch !=0<;>simp
 have h3:(iQ p pl).length≤2:=by
  unfold iQ;have:=rV (pl:=pl) p.target 7;cases decide (0≤p.target)with
  |true=>simp;omega
  |false=>simp
 have h4:=h2 (pos+(gE p pl).length+1);unfold qF;simp;omega
theorem work_le{p:Pg}(hn:p.code.length≤64)(hD:p.Iq.length≤16)(hR:p.Ir.length≤16):(iy p pl).length≤2000:=by
 have h1:=zd (pl:=pl) p.Ii p.Ij p.code 0;have h2:=xQ (pl:=pl) 14 4 p.Iq 0;have h3:=xQ (pl:=pl) 13 20 p.Ir 0;unfold iy hH;simp only[ae,ai,ao];omega
theorem w7(p:Pg)(e:Int):(fu p pl e).length=(fu p pl 0).length:=by
 unfold fu qg m8;cases p.IV<;>cases p.I5<;>simp
end
structure Left(p:Pg)(V:List Int)(s:St)(W:List Int):Prop where
 Ii:p.Ii≤s.d.length
 IK:(s.d.length:Int)+p.IK≤16
 Ij:p.Ij≤s.r.length
 IN:(s.r.length:Int)+p.IN≤16
 pc:W.getD 0 0=p.Ja V (p.Ji V s.flags)
 flags:W.getD 1 0=p.Ji V s.flags
 Jt:W.getD 2 0=((s.d.length - p.Ii.toNat+p.Iq.length:Nat):Int)
 lenR:W.getD 3 0=((s.r.length - p.Ij.toNat+p.Ir.length:Nat):Int)
 fitD:s.d.length - p.Ii.toNat+p.Iq.length≤16
 fitR:s.r.length - p.Ij.toNat+p.Ir.length≤16
 lowD:∀i,i<s.d.length - p.Ii.toNat→W.getD (4+i) 0=s.d.getD i 0
 newD:∀i,i<p.Iq.length→W.getD (4+(s.d.length - p.Ii.toNat)+i) 0=V.getD (p.Iq.getD i 0).toNat 0
 lowR:∀i,i<s.r.length - p.Ij.toNat→W.getD (20+i) 0=s.r.getD i 0
 newR:∀i,i<p.Ir.length→W.getD (20+(s.r.length - p.Ij.toNat)+i) 0=V.getD (p.Ir.getD i 0).toNat 0
 count:W.getD 36 0=p.count
theorem wi{Ik high:Int}{out:Nat}:iM Ik high out≤16 - high∧iM Ik high out≤16+Ik - out:=by
 unfold iM;split<;>omega
theorem wj{Ik high:Int}{out:Nat}(h0:0≤Ik∧Ik≤16)(h1:0≤high∧high≤16):iM Ik high out≤16∧(out≤16→0≤iM Ik high out):=by
 unfold iM;split<;>omega
theorem GN{p:Pg}{T:List Int}{pl:Pl}{s:St}{M:HM}(ok:PgOk p T)(hp:ES pl T p.code.length)(hs:s.right=true)(hw:s.wf)(h:HGo (gr p pl) 0 (gr p pl) (List.replicate 16 0) (IU s) M):
  Left p (IQ s.d s.r p.code) s M.words:=by
 obtain⟨hd16,hr16, -⟩:=St.fits hs;have hf15:0≤s.flags∧s.flags≤15:=⟨hw.flags.1,by have:=hs;unfold St.right at this;simp at this;omega⟩;have hD:wds s.d:=fun x hx=>hw.d x hx
 have hR:wds s.r:=fun x hx=>hw.r x hx
 have hV:wds (IQ s.d s.r p.code):=Fe p.code hD hR ok.code;obtain⟨w0,w1,w2,w3⟩:=FU s;obtain⟨e,he⟩:=Zgn ((fu p pl 0).length);have hnd:=ok.Ii;have hnr:=ok.Ij;have hhd:=ok.IK;have hhr:=ok.IN;cases hrd:p.IV with
 |false=>
  have hb:∀e,fu p pl e=[⟨1,15,0,0,0⟩]:=fun e=>by unfold fu;rw[hrd];rfl
  unfold gr at h;rw[hb]at h;have:=(HGo.exit (HGo.li (rd:=15) h)).1;cases this
 |true=>
 have hmD:p.Ii≤p.Je:=by unfold Pg.IV at hrd;simp at hrd;exact hrd
 have hmD2:=wi (Ik:=p.Ii) (high:=p.IK) (out:=p.Iq.length);have hmD3:=wj (Ik:=p.Ii) (high:=p.IK) (out:=p.Iq.length) hnd hhd;have hmD0:p.Je=iM p.Ii p.IK p.Iq.length:=rfl;cases hrr:p.I5 with
 |false=>
  have hb:∀e,fu p pl e=⟨1,15,0,0,0⟩::m8 e 14 2 p.Ii p.Je:=fun e=>by unfold fu;rw[hrd,hrr];rfl
  have h9:IntKind.u32.wrap ((fu p pl 0).length:Nat)=((9:Nat):Int):=by rw[hb];rfl
  unfold gr at h;rw[h9,hb]at h;have g:=HGo.li (rd:=15) h;obtain⟨-, -,k',R',g1, -⟩:=HGo.room (base:=14) (word:=2) (n:=s.d.length) (e:=9) (l:=[⟨19,0,0,0,2⟩]) (by exact g) (by omega) (by omega) (da (by simp)) (by rw[w2]) hd16 hnd (by omega) rfl;have:=(HGo.exit g1).1;cases this
 |true=>
 have hmR:p.Ij≤p.Js:=by unfold Pg.I5 at hrr;simp at hrr;exact hrr
 have hmR2:=wi (Ik:=p.Ij) (high:=p.IN) (out:=p.Ir.length);have hmR3:=wj (Ik:=p.Ij) (high:=p.IN) (out:=p.Ir.length) hnr hhr;have hmR0:p.Js=iM p.Ij p.IN p.Ir.length:=rfl;have hoD:p.Iq.length≤16:=by omega
 have hoR:p.Ir.length≤16:=by omega
 have hb:∀e,fu p pl e=qg p e++(iy p pl++qF p pl (17+(iy p pl).length)):=fun e=>by unfold fu;rw[hrd,hrr];rfl
 have hwl:=work_le (pl:=pl) ok.n64 hoD hoR;have hel:=endL_le (pl:=pl) p (17+(iy p pl).length);have hh17:∀e,(qg p e).length=17:=fun e=>rfl
 have hbl:(fu p pl 0).length=17+((iy p pl).length+(qF p pl (17+(iy p pl).length)).length):=by rw[hb,ae,ae,hh17]
 have hwr:IntKind.u32.wrap ((fu p pl 0).length:Nat)=(e:Int):=by rw[he,aE];omega
 obtain⟨C,hC⟩:=Zgn (gr p pl);rw[hC]at h;have hC2:C=fu p pl (e:Int)++[⟨19,0,0,0,2⟩]:=by rw[←hC];unfold gr;rw[hwr]
 have hCe:C.drop e=[⟨19,0,0,0,2⟩]:=by
  rw[hC2,List.drop_append_of_le_length (by rw[w7,he];omega),List.drop_eq_nil_of_le (by rw[w7,he];omega)];rfl
 have hC3:C=⟨1,15,0,0,0⟩::(m8 e 14 2 p.Ii p.Je++(m8 e 13 3 p.Ij p.Js++(iy p pl++(qF p pl (17+(iy p pl).length)++[⟨19,0,0,0,2⟩])))):=by
  rw[hC2,hb];unfold qg;simp
 have h1:HGo C 0 (⟨1,15,0,0,0⟩::(m8 e 14 2 p.Ii p.Je++(m8 e 13 3 p.Ij p.Js++(iy p pl++(qF p pl (17+(iy p pl).length)++[⟨19,0,0,0,2⟩]))))) (List.replicate 16 0) (IU s) M:=⟨by rw[List.drop_zero];exact hC3,h.rl,h.wl,h.ends⟩;have g0:=HGo.li (rd:=15) h1;obtain⟨r1,r2,k1,R1,g1,b1,s1⟩:=HGo.room (base:=14) (word:=2) (n:=s.d.length) g0 (by omega) (by omega) (da (by simp)) (by rw[w2]) hd16 hnd (by omega) hCe;obtain⟨r3,r4,k2,R2,g2,b2,s2⟩:=HGo.room (base:=13) (word:=3) (n:=s.r.length) g1 (by omega) (by omega) (by rw[s1 15 (by decide)];exact da (by simp)) (by rw[w3]) hr16 hnr (by omega) hCe;have hbase:Hh s.d s.r p.Ii p.Ij R2 (IU s):=⟨by rw[s2 15 (by decide),s1 15 (by decide)];exact da (by simp),by rw[s2 14 (by decide),b1],b2,fun j hj=>Hu s j (by omega),fun j hj=>Ht s j (by omega),hd16,hr16,⟨hnd.1,r1⟩,⟨hnr.1,r3⟩⟩;have g2:HGo C k2 (jw p.Ii p.Ij pl p.code 0++(hH pl 14 4 2 p.Iq++(hH pl 13 20 3 p.Ir++(qF p pl (17+(iy p pl).length)++[⟨19,0,0,0,2⟩])))) R2 (IU s) M:=by
  have e:iy p pl++(qF p pl (17+(iy p pl).length)++[⟨19,0,0,0,2⟩])=jw p.Ii p.Ij pl p.code 0++(hH pl 14 4 2 p.Iq++(hH pl 13 20 3 p.Ir++(qF p pl (17+(iy p pl).length)++[⟨19,0,0,0,2⟩]))):=by
   rw[show iy p pl=jw p.Ii p.Ij pl p.code 0++(hH pl 14 4 2 p.Iq++hH pl 13 20 3 p.Ir)from rfl];simp only[aq]
  rw[e]at g2;exact g2
 obtain⟨V,hVe⟩:=Zgn (IQ s.d s.r p.code);have hVal:∀i x,p.code[i]? =some x→x.ok p.Ii p.Ij (0+i)∧V.getD (0+i) 0=kg s.d s.r V x∧(x.op=3∨x.op=4→((0+i:Nat):Int)≤T.getD x.a.toNat 0∧((0+i:Nat):Int)≤T.getD x.b.toNat 0):=fun i x hx=>by
  rw[bo];refine⟨ok.code i x hx,?_,ok.uses i x hx⟩;obtain⟨hlt,hxe⟩:=au.1 hx;have hsp:p.code=p.code.take i++x::p.code.drop (i+1):=by rw[←hxe,←List.drop_eq_getElem_cons hlt,List.take_append_drop]
  have hok:=ok.code;rw[←hVe];rw[hsp]at hok⊢;have:=vals_at (D:=s.d) (Rr:=s.r) hok;rw[az,Nat.min_eq_left (by omega)]at this;exact this
 rw[hVe]at hV;obtain⟨k3,R3,W3,g3,b3,hold,ws3⟩:=HGo.all (N:=p.code.length) (V:=V) hp hD hR hV p.code 0 k2 R2 (IU s) g2 (by omega) hVal hbase (fun a ha=>absurd ha (by omega));have hBD:R3.getD 14 0=((s.d.length - p.Ii.toNat:Nat):Int):=by rw[b3.bd];omega
 obtain⟨k4,R4,W4,g4,s4,o4,n4,l4,hold4⟩:=HGo.stack (B:=s.d.length - p.Ii.toNat) hp hV (by omega) (by omega) (by omega) (base:=14) (from_:=4) (word:=2) g3 ok.Iq (by omega) hBD b3.z hold;have hBR:R4.getD 13 0=((s.r.length - p.Ij.toNat:Nat):Int):=by rw[s4 13 (by decide),b3.br];omega
 obtain⟨k5,R5,W5,g5,s5,o5,n5,l5,hold5⟩:=HGo.stack (B:=s.r.length - p.Ij.toNat) hp hV (by omega) (by omega) (by omega) (base:=13) (from_:=20) (word:=3) g4 ok.Ir (by omega) hBR (by rw[s4 15 (by decide),b3.z]) hold4;have hpos:k5=17+(iy p pl).length:=by
  have hpre:C=(qg p e++iy p pl)++(qF p pl (17+(iy p pl).length)++[⟨19,0,0,0,2⟩]):=by rw[hC2,hb];simp only[aq]
  have:=HGo.pos g5 (by simp) hpre;rw[this,ae,hh17]
 have e1:W5.getD 1 0=s.flags:=by rw[o5 1 (by decide) (by omega),o4 1 (by decide) (by omega),ws3 1 (by decide),w1]
 obtain⟨f1,f2,f3,f4⟩:=HGo.fin ok rfl hp hV g5 hpos (by simp) (by omega) (by rw[s5 15 (by decide),s4 15 (by decide),b3.z]) hold5 e1 hf15;rw[hVe];exact⟨r1,by omega,r3,by omega,f1,f2,by rw[f4 2 (by decide) (by decide) (by decide),o5 2 (by decide) (by omega),l4],by rw[f4 3 (by decide) (by decide) (by decide),l5],by omega,by omega,
  fun i hi=>by rw[f4 (4+i) (by omega) (by omega) (by omega),o5 (4+i) (by omega) (by omega),o4 (4+i) (by omega) (by omega),ws3 (4+i) (by omega),Hu s i (by omega)],
  fun i hi=>by rw[f4 _ (by omega) (by omega) (by omega),o5 _ (by omega) (by omega),n4 i hi],
  fun i hi=>by rw[f4 (20+i) (by omega) (by omega) (by omega),o5 (20+i) (by omega) (by omega),o4 (20+i) (by omega) (by omega),ws3 (20+i) (by omega),Ht s i (by omega)],
  fun i hi=>by rw[f4 _ (by omega) (by omega) (by omega),n5 i hi],f3⟩
end Go.Ink
