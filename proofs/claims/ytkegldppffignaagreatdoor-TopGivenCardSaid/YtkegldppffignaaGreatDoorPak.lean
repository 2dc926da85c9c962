/- Lemmas. -/
import Derived.Test.YtkegldppffignaaGreatDoorPaa
import Derived.Test.YtkegldppffignaaGreatDoorPab
import Derived.Test.YtkegldppffignaaGreatDoorPaj
set_option linter.unusedSimpArgs false
set_option linter.unusedVariables false
set_option maxRecDepth 100000
set_option maxHeartbeats 4000000
namespace Go.Ink
open Go.RowKit
structure Pg where
  code:List II
  MM:Int
  MO:Int
  Nc:Int
  Ng:Int
  MV:List Int
  MW:List Int
  flags:Int
  next:Int
  target:Int
  branch:Int
  taken:Int
  count:Int
  values:Int
structure Pl where
  reg:List Int
  slot:List Int
  Nf:Int
abbrev Pl.r(pl:Pl)(n:Int):Int:=pl.reg.getD n.toNat 0
abbrev Pl.s(pl:Pl)(n:Int):Int:=pl.slot.getD n.toNat 0
def Pl.inR(pl:Pl)(n:Int):Bool:=decide (0<=pl.r n)
def jN(pl:Pl)(n into:Int):List HI:=bif pl.inR n then[]else[⟨14,into,15,0,IntKind.u32.wrap (64+pl.s n)⟩]
def et(pl:Pl)(n into:Int):Int:=bif pl.inR n then pl.r n else into
def jq(pl:Pl)(n r:Int):List HI:=bif pl.inR n then[]else[⟨15,0,15,r,IntKind.u32.wrap (64+pl.s n)⟩]
def qu(MM MO:Int)(pl:Pl)(n:Int)(x:II):List HI:=
  (bif x.op==0 then[⟨1,et pl n 9,0,0,x.imm⟩]else
   bif x.op==1 then[⟨14,et pl n 9,14,0,IntKind.u32.wrap (4+MM - 1 - x.imm)⟩]else
   bif x.op==2 then[⟨14,et pl n 9,13,0,IntKind.u32.wrap (20+MO - 1 - x.imm)⟩]else
   bif x.op==3 then jN pl x.a 7++(jN pl x.b 8++vV x.imm (et pl n 9) (et pl x.a 7) (et pl x.b 8))else
   bif x.op==4 then jN pl x.a 7++(jN pl x.b 8++(ma x.imm (et pl x.a 7) (et pl x.b 8)++[⟨2,et pl n 9,10,0,0⟩]))else[])++jq pl n (et pl n 9)
def j9(MM MO:Int)(pl:Pl):List II->Nat->List HI
  |[],_=>[]
  |x::c,n=>qu MM MO pl n x++j9 MM MO pl c (n+1)
def vq(pl:Pl)(base from_:Int):List Int->Nat->List HI
  |[],_=>[]
  |n::c,k=>jN pl n 7++(⟨15,0,base,et pl n 7,IntKind.u32.wrap (from_+IntKind.u32.wrap k)⟩::vq pl base from_ c (k+1))
def ix(pl:Pl)(base from_ word:Int)(out:List Int):List HI:=vq pl base from_ out 0++[⟨1,11,0,0,IntKind.u32.wrap out.length⟩,⟨3,11,11,base,0⟩,⟨15,0,15,11,word⟩]
def oc(e base word MN M9:Int):List HI:=[⟨14,base,15,0,word⟩,⟨1,11,0,0,IntKind.u32.wrap MN⟩,⟨12,12,base,11,0⟩,⟨17,0,12,0,e⟩,⟨1,12,0,0,IntKind.u32.wrap M9⟩,⟨12,12,12,base,0⟩,⟨17,0,12,0,e⟩,⟨4,base,base,11,0⟩]
def fU(op:Int):Int:=bif op==33 then 1 else bif op==34 then 1 else bif op==35 then 4 else bif op==36 then 2 else 8
def ip(op:Int):Bool:=bif op==33 then true else bif op==34 then false else true
def gX(p:Pg)(pl:Pl):List HI:=bif decide (0<=p.flags)then⟨1,11,0,0,15⟩::(jN pl p.flags 7++[⟨5,11,11,et pl p.flags 7,0⟩,⟨15,0,15,11,1⟩])else[]
def gI(p:Pg)(pos:Nat):List HI:=bif p.branch !=0 then[⟨14,11,15,0,1⟩,⟨1,12,0,0,fU p.branch⟩,⟨5,11,11,12,0⟩,⟨bif ip p.branch then 16 else 17,0,11,0,IntKind.u32.wrap ((pos+3:Nat)+2)⟩,⟨1,9,0,0,p.taken⟩]else[]
def jm(p:Pg)(pl:Pl):List HI:=bif decide (0<=p.target)then jN pl p.target 7++[⟨2,9,et pl p.target 7,0,0⟩]else[]
def rY(p:Pg)(pl:Pl)(pos:Nat):List HI:=
  gX p pl++(⟨1,9,0,0,p.next⟩::(gI p (pos+(gX p pl).length+1)++(jm p pl++[⟨15,0,15,9,0⟩,⟨1,11,0,0,IntKind.u32.wrap p.count⟩,⟨15,0,15,11,36⟩,⟨19,0,0,0,1⟩])))
def jh(MN high:Int)(out:Nat):Int:=if 16+MN - out<16 - high then 16+MN - out else 16 - high
def Pg.NQ(p:Pg):Int:=jh p.MM p.Nc p.MV.length
def Pg.N3(p:Pg):Int:=jh p.MO p.Ng p.MW.length
def Pg.Nq(p:Pg):Bool:= !decide (p.NQ<p.MM)
def Pg.ND(p:Pg):Bool:= !decide (p.N3<p.MO)
def rz(p:Pg)(e:Int):List HI:=⟨1,15,0,0,0⟩::(oc e 14 2 p.MM p.NQ++oc e 13 3 p.MO p.N3)
def iS(p:Pg)(pl:Pl):List HI:=j9 p.MM p.MO pl p.code 0++(ix pl 14 4 2 p.MV++ix pl 13 20 3 p.MW)
def fL(p:Pg)(pl:Pl)(e:Int):List HI:=
  bif p.Nq then(bif p.ND then rz p e++(iS p pl++rY p pl (17+(iS p pl).length))else⟨1,15,0,0,0⟩::oc e 14 2 p.MM p.NQ)else[⟨1,15,0,0,0⟩]
def gQ(p:Pg)(pl:Pl):List HI:=fL p pl (IntKind.u32.wrap ((fL p pl 0).length:Nat))++[⟨19,0,0,0,2⟩]
def Lo(pl:Pl)(R W:List Int)(n:Int)(v:Int):Prop:=(pl.inR n=true->R.getD (pl.r n).toNat 0=v)/\(pl.inR n=false->W.getD (64+(pl.s n).toNat) 0=v)
def Pl.has(pl:Pl)(n:Int):Prop:=(pl.inR n=true/\pl.r n<7)\/(pl.inR n=false/\0<=pl.s n/\pl.s n<128)
section
variable {C l:List HI} {k:Nat} {R W:List Int} {M:HM} {pl:Pl}
theorem lZ{n:Int}{into:Nat}(h:pl.has n)(hi:into=7\/into=8\/into=9):∃r:Nat,et pl n into=r/\(r=into/\pl.inR n=false\/r<7/\pl.inR n=true/\(pl.r n).toNat=r):=by
  unfold et;rcases h with⟨h1,h2⟩|⟨h1,h2,h3⟩
  . rw[h1]
    have h0:0<=pl.r n:=by unfold Pl.inR at h1;simpa using h1
    exact⟨(pl.r n).toNat,by show pl.r n=_;omega,Or.inr ⟨by omega,rfl,rfl⟩⟩
  rw[h1];exact⟨into,rfl,Or.inl ⟨rfl,rfl⟩⟩
theorem yj{n:Int}(h:0<=pl.s n/\pl.s n<128)(h15:R.getD 15 0=0):IntKind.u64.wrap (R.getD 15 0+IntKind.u32.wrap (64+pl.s n))=((64+(pl.s n).toNat:Nat):Int):=by
  rw[h15,aE,aQ];omega
theorem HGo.get{n v:Int}{into r:Nat}(h:HGo C k (jN pl n into++l) R W M)(hh:pl.has n)(hi:into=7\/into=8)(hr:et pl n into=r)(h15:R.getD 15 0=0)(hv:Lo pl R W n v):
    ∃k' R',HGo C k' l R' W M/\R'.getD r 0=v/\kJ [into] R R':=by
  obtain⟨r2,h1,h2⟩:=lZ hh (into:=into) Wq1;obtain rfl:r2=r:=by have:=hr.symm.trans h1;omega
  rcases h2 with⟨rfl,h3⟩|⟨h3,h4,h5⟩
  . unfold jN at h
    rw[h3]at h;have hs:0<=pl.s n/\pl.s n<128:=by rcases hh with⟨h6, -⟩|⟨-,h6⟩;rw[h3]at h6;cases h6;exact h6
    have g:=HGo.ld (rd:=r2) (ra:=15) (p:=64+(pl.s n).toNat) h (yj hs h15) Wq1;exact⟨_,_,g,(cV (by rw[h.rl];omega)).trans (hv.2 h3),kJ.set R _ _ cE⟩
  unfold jN at h;rw[h4]at h;exact⟨k,R,h,by rw[<-h5];exact hv.1 h4,kJ.refl _ _⟩
theorem HGo.Nb{n v:Int}{r:Nat}(h:HGo C k (jq pl n (et pl n 9)++l) R W M)(hh:pl.has n)(hr:et pl n 9=r)(h15:R.getD 15 0=0)(hv:R.getD r 0=v)(hv2:0<=v/\v<=4294967295):
    ∃k' W',HGo C k' l R W' M/\Lo pl R W' n v/\∀j,(pl.inR n=true\/j≠64+(pl.s n).toNat)->W'.getD j 0=W.getD j 0:=by
  obtain⟨r2,h1,h2⟩:=lZ hh (into:=9) Wq1;have h1:et pl n 9=r2:=h1;obtain rfl:r2=r:=by have:=hr.symm.trans h1;omega
  unfold jq at h;rcases h2 with⟨rfl,h3⟩|⟨h3,h4,h5⟩
  . rw[h3]at h
    have hs:0<=pl.s n/\pl.s n<128:=by rcases hh with⟨h6, -⟩|⟨-,h6⟩;rw[h3]at h6;cases h6;exact h6
    have hg:et pl n 9=9:=by unfold et;rw[h3];rfl
    rw[hg]at h;have g:=HGo.st (ra:=15) (rb:=9) (p:=64+(pl.s n).toNat) (v:=v) h (yj hs h15) Wq1 (by rw[hv,aE];omega);refine⟨_,_,g,⟨λh6=>(by rw[h3]at h6;cases h6),λ_=>cV (by rw[h.wl];omega)⟩,λj hj=>?_⟩;rcases hj with hj|hj
    . rw[h3]at hj;cases hj
    exact cF (λe=>hj e.symm)
  rw[h4]at h;exact⟨k,W,h,⟨λ_=>(by rw[h5];exact hv),λh6=>(by rw[h4]at h6;cases h6)⟩,λ_ _=>rfl⟩
structure II.ok(x:II)(MM MO:Int)(n:Nat):Prop where
  imm:0<=x.imm/\x.imm<=4294967295
  op:(x.op=0)\/(x.op=1/\x.imm<MM)\/(x.op=2/\x.imm<MO)\/(x.op=3/\16<=x.imm/\x.imm<=23)\/(x.op=4/\((16<=x.imm/\x.imm<=23)\/x.imm=25))
  ab:x.op=3\/x.op=4->(0<=x.a/\x.a<n)/\(0<=x.b/\x.b<n)
def wds(l:List Int):Prop:=∀x,x∈l->0<=x/\x<=4294967295
theorem iU{l:List Int}(h:wds l)(n:Nat):0<=l.getD n 0/\l.getD n 0<=4294967295:=by
  rw[aF];by_cases hn:n<l.length
  . rw[ai hn];exact h _ (List.getElem_mem hn)
  rw[List.getElem?_eq_none Wq1];exact⟨by decide,by decide⟩
theorem mz{l:List Int}(h:wds l)(n:Nat):∃x:Nat,l.getD n 0=(x:Int)/\x<4294967296:=by
  obtain⟨h1,h2⟩:=iU h n;exact⟨(l.getD n 0).toNat,by omega,by omega⟩
theorem Ii{op:Int}{x y:Nat}(hx:x<4294967296)(hy:y<4294967296)(hop:(16<=op/\op<=23)\/op=25):0<=(iN op x y).2.1/\(iN op x y).2.1<=15:=by
  have hb:∀b:Bool,0<=b2i b/\b2i b<=1:=λb=>by cases b<;>decide
  have hT:∀(a b r o:Int) (p q c:Bool),0<=jK a b r (b2i p+2*b2i q) c o/\jK a b r (b2i p+2*b2i q) c o<=15:=λa b r o p q c=>by
    rw[tO];have h1:=hb p;have h2:=hb q;have h3:=hb c;have h4:=hb (o !=0);omega
  have hp:∀r:Nat,r<4294967296->0<=dE r/\dE r<=15:=λr hr=>by
    rw[ju hr];have h1:=hb ((r:Int)==0);have h2:=hb (decide (2147483648<=r));omega
  have hr:=r8 hop hx hy;have h8:op=16\/op=17\/op=18\/op=19\/op=20\/op=21\/op=22\/op=23\/op=25:=by omega
  obtain⟨r,hr,hr2⟩:=hr;rcases h8 with rfl|rfl|rfl|rfl|rfl|rfl|rfl|rfl|rfl
  . show 0<=lE x y/\lE x y<=15
    have hr:IntKind.u32.wrap ((x:Int)+y)=(r:Int):=hr;unfold lE;rw[hr,ju hr2];exact hT ..
  . show 0<=fe x y/\fe x y<=15
    have hr:IntKind.u32.wrap ((x:Int) - y)=(r:Int):=hr;unfold fe;rw[hr,ju hr2];exact hT ..
  . show 0<=dE (uu 18 x y)/\dE (uu 18 x y)<=15;rw[hr];exact hp r hr2
  . show 0<=dE (uu 19 x y)/\dE (uu 19 x y)<=15;rw[hr];exact hp r hr2
  . show 0<=dE (uu 20 x y)/\dE (uu 20 x y)<=15;rw[hr];exact hp r hr2
  . show 0<=dE (uu 21 x y)/\dE (uu 21 x y)<=15;rw[hr];exact hp r hr2
  . show 0<=dE (uu 22 x y)/\dE (uu 22 x y)<=15;rw[hr];exact hp r hr2
  . show 0<=dE (uu 23 x y)/\dE (uu 23 x y)<=15;rw[hr];exact hp r hr2
  show 0<=fe x y/\fe x y<=15;have hr:IntKind.u32.wrap ((x:Int) - y)=(r:Int):=hr;unfold fe;rw[hr,ju hr2];exact hT ..
structure L1(D Rr:List Int)(MM MO:Int)(R W:List Int):Prop where
  z:R.getD 15 0=0
  bd:R.getD 14 0=(D.length:Int) - MM
  br:R.getD 13 0=(Rr.length:Int) - MO
  d:∀j,j<D.length->W.getD (4+j) 0=D.getD j 0
  r:∀j,j<Rr.length->W.getD (20+j) 0=Rr.getD j 0
  d16:D.length<=16
  r16:Rr.length<=16
  nd:0<=MM/\MM<=D.length
  nr:0<=MO/\MO<=Rr.length
theorem L1.mono{D Rr:List Int}{MM MO:Int}{R W R' W':List Int}(h:L1 D Rr MM MO R W)(hs:∀j,13<=j->R'.getD j 0=R.getD j 0)(hw:∀j,j<64->W'.getD j 0=W.getD j 0):L1 D Rr MM MO R' W':=
  ⟨by rw[hs 15 Wq5,h.z],by rw[hs 14 Wq5,h.bd],by rw[hs 13 Wq5,h.br],λj hj=>by have:=h.d16;rw[hw _ Wq1,h.d j hj],λj hj=>by have:=h.r16;rw[hw _ Wq1,h.r j hj],h.d16,h.r16,h.nd,h.nr⟩
theorem HGo.one{D Rr V:List Int}{MM MO:Int}{n:Nat}{x:II}(h:HGo C k (qu MM MO pl n x++l) R W M)(hx:x.ok MM MO n)(hb:L1 D Rr MM MO R W)(hD:wds D)(hR:wds Rr)(hV:wds V)
    (hn:pl.has n) (hab:x.op=3\/x.op=4->(pl.has x.a/\Lo pl R W x.a (V.getD x.a.toNat 0))/\(pl.has x.b/\Lo pl R W x.b (V.getD x.b.toNat 0))):
    ∃k' R' W',HGo C k' l R' W' M/\Lo pl R' W' n (k9 D Rr V x)/\L1 D Rr MM MO R' W'/\(∀j,j<7->(pl.inR n=true->j≠(pl.r n).toNat)->R'.getD j 0=R.getD j 0)/\(∀j,(pl.inR n=true\/j≠64+(pl.s n).toNat)->W'.getD j 0=W.getD j 0):=by
  obtain⟨rd,hrd,hrd2⟩:=lZ hn (into:=9) Wq1;have hrd:et pl n 9=(rd:Int):=hrd;have hrd10:rd<10:=by rcases hrd2 with⟨h1, -⟩|⟨h1, -⟩<;>omega
  have fin:∀(k1:Nat) (R1:List Int) (v:Int),HGo C k1 (jq pl n (et pl n 9)++l) R1 W M->R1.getD rd 0=v->(0<=v/\v<=4294967295)->(∀j,j≠rd->(j<7\/13<=j)->R1.getD j 0=R.getD j 0)->
      ∃k' R' W',HGo C k' l R' W' M/\Lo pl R' W' n v/\L1 D Rr MM MO R' W'/\(∀j,j<7->(pl.inR n=true->j≠(pl.r n).toNat)->R'.getD j 0=R.getD j 0)/\(∀j,(pl.inR n=true\/j≠64+(pl.s n).toNat)->W'.getD j 0=W.getD j 0):=λk1 R1 v g hv hv2 hs=>by
    obtain⟨k2,W2,g1,g2,g3⟩:=HGo.Nb g hn hrd (by rw[hs 15 Wq1 Wq1,hb.z]) hv hv2;have hw:∀j,j<64->W2.getD j 0=W.getD j 0:=λj hj=>g3 j (by
      cases hi:pl.inR n with
      |true=>exact Or.inl rfl
      |false=>exact Or.inr Wq1)
    refine⟨k2,R1,W2,g1,g2,hb.mono (λj hj=>hs j Wq1 Wq1) hw,λj hj hne=>?_,g3⟩;rcases hrd2 with⟨h1,h2⟩|⟨h1,h2,h3⟩
    . exact hs j Wq1 (Or.inl hj)
    exact hs j (by have:=hne h2;omega) (Or.inl hj)
  have hap:∀m:List HI,HGo C k (m++(jq pl n (et pl n 9)++l)) R W M<->HGo C k ((m++jq pl n (et pl n 9))++l) R W M:=λm=>by rw[ap]
  have two:∀m:List HI,(x.op=3\/x.op=4)->HGo C k (jN pl x.a 7++(jN pl x.b 8++m)) R W M->∃(k1:Nat) (R1:List Int) (ra rb a b:Nat),HGo C k1 m R1 W M/\et pl x.a 7=ra/\et pl x.b 8=rb/\ra<9/\rb<9/\R1.getD ra 0=(a:Int)/\R1.getD rb 0=(b:Int)/\
      V.getD x.a.toNat 0=(a:Int)/\V.getD x.b.toNat 0=(b:Int)/\a<4294967296/\b<4294967296/\kJ [7,8] R R1:=λm ho g=>by
    obtain⟨⟨h1,h2⟩,h3,h4⟩:=hab ho;obtain⟨ra,e1,e2⟩:=lZ h1 (into:=7) Wq1;obtain⟨rb,e3,e4⟩:=lZ h3 (into:=8) Wq1;have e1:et pl x.a 7=(ra:Int):=e1;have e3:et pl x.b 8=(rb:Int):=e3;obtain⟨a,a1,a2⟩:=mz hV x.a.toNat;obtain⟨b,b1,b2⟩:=mz hV x.b.toNat;rw[a1]at h2;rw[b1]at h4;obtain⟨k1,R1,g1,g2,g3⟩:=HGo.get (into:=7) g h1 Wq1 e1 hb.z h2;have h4':Lo pl R1 W x.b b:=by
      refine⟨λhi=>?_,h4.2⟩;rcases h3 with⟨q1,q2⟩|⟨q1, -⟩
      . rw[g3 _ ?_]
        . exact h4.1 hi
        have:(pl.r x.b).toNat≠7:=by omega
        simpa using this
      rw[q1]at hi;cases hi
    obtain⟨k2,R2,p1,p2,p3⟩:=HGo.get (into:=8) g1 h3 Wq1 e3 (by rw[g3 15 Wq5,hb.z]) h4';refine⟨k2,R2,ra,rb,a,b,p1,e1,e3,?_,?_,?_,p2,a1,b1,a2,b2,g3.trans p3 (by intro z hz;simpa using hz)⟩
    . rcases e2 with⟨q, -⟩|⟨q, -⟩<;>omega
    . rcases e4 with⟨q, -⟩|⟨q, -⟩<;>omega
    rw[p3 ra (by rcases e2 with⟨q, -⟩|⟨q, -⟩<;>simp<;>omega),g2]
  obtain⟨op,dst,xa,xb,imm⟩:=x;obtain⟨hi1,hi2⟩:=hx.imm;have hop:=hx.op;dsimp only at hop hi1 hi2 two hab;rcases hop with rfl|⟨rfl,h1⟩|⟨rfl,h1⟩|⟨rfl,h1⟩|⟨rfl,h1⟩
  . have g:HGo C k (⟨1,(rd:Int),0,0,imm⟩::(jq pl n (et pl n 9)++l)) R W M:=by rw[<-hrd];exact(hap [⟨1,et pl n 9,0,0,imm⟩]).2 h
    exact fin _ _ imm g.li (cV (by rw[h.rl];omega)) ⟨hi1,hi2⟩ (λj h1 _=>cF (λe=>h1 e.symm))
  . have g:HGo C k (⟨14,(rd:Int),14,0,IntKind.u32.wrap (4+MM - 1 - imm)⟩::(jq pl n (et pl n 9)++l)) R W M:=by rw[<-hrd];exact(hap [_]).2 h
    obtain⟨n1,n2⟩:=hb.nd;have hd:=hb.d16;have g1:=HGo.ld (rd:=rd) (ra:=14) (p:=4+(D.length - 1 - imm.toNat)) g (by rw[hb.bd,aE,aQ];omega) Wq1;have hv:W.getD (4+(D.length - 1 - imm.toNat)) 0=D.getD (D.length - 1 - imm.toNat) 0:=hb.d _ Wq1;rw[hv]at g1;exact fin _ _ _ g1 (cV (by rw[h.rl];omega)) (iU hD _) (λj h1 _=>cF (λe=>h1 e.symm))
  . have g:HGo C k (⟨14,(rd:Int),13,0,IntKind.u32.wrap (20+MO - 1 - imm)⟩::(jq pl n (et pl n 9)++l)) R W M:=by rw[<-hrd];exact(hap [_]).2 h
    obtain⟨n1,n2⟩:=hb.nr;have hd:=hb.r16;have g1:=HGo.ld (rd:=rd) (ra:=13) (p:=20+(Rr.length - 1 - imm.toNat)) g (by rw[hb.br,aE,aQ];omega) Wq1;have hv:W.getD (20+(Rr.length - 1 - imm.toNat)) 0=Rr.getD (Rr.length - 1 - imm.toNat) 0:=hb.r _ Wq1;rw[hv]at g1;exact fin _ _ _ g1 (cV (by rw[h.rl];omega)) (iU hR _) (λj h1 _=>cF (λe=>h1 e.symm))
  . have g:HGo C k (jN pl xa 7++(jN pl xb 8++(vV imm (et pl n 9) (et pl xa 7) (et pl xb 8)++(jq pl n (et pl n 9)++l)))) R W M:=by
      have e:qu MM MO pl n ⟨3,dst,xa,xb,imm⟩++l=jN pl xa 7++(jN pl xb 8++(vV imm (et pl n 9) (et pl xa 7) (et pl xb 8)++(jq pl n (et pl n 9)++l))):=by
        show((jN pl xa 7++(jN pl xb 8++vV imm (et pl n 9) (et pl xa 7) (et pl xb 8)))++jq pl n (et pl n 9))++l=_;simp only[ap]
      rwa[e]at h
    obtain⟨k1,R1,ra,rb,a,b,g1,e1,e2,ha,hbb,ea,eb,va,vb,a2,b2,hs⟩:=two _ (Or.inl rfl) g;rw[e1,e2,hrd]at g1;obtain⟨k2,R2,p1,p2,p3⟩:=HGo.alu (rd:=rd) (Or.inl h1) g1 Wq1 ea eb a2 b2;obtain⟨q,q1,q2⟩:=r8 (Or.inl h1) a2 b2;have hv:k9 D Rr V ⟨3,dst,xa,xb,imm⟩=uu imm a b:=by
      show(iN imm (V.getD xa.toNat 0) (V.getD xb.toNat 0)).1=_;rw[va,vb];unfold uu;rw[show(imm==25)=false by simp;omega];rfl
    rw[hv];exact fin _ _ _ (by rw[hrd];exact p1) p2 (by rw[q1];omega) (λj h1 h2=>by rw[p3 j (by simp;omega),hs j (by simp;omega)])
  have g:HGo C k (jN pl xa 7++(jN pl xb 8++(ma imm (et pl xa 7) (et pl xb 8)++(⟨2,et pl n 9,10,0,0⟩::(jq pl n (et pl n 9)++l))))) R W M:=by
    have e:qu MM MO pl n ⟨4,dst,xa,xb,imm⟩++l=jN pl xa 7++(jN pl xb 8++(ma imm (et pl xa 7) (et pl xb 8)++(⟨2,et pl n 9,10,0,0⟩::(jq pl n (et pl n 9)++l)))):=by
      show((jN pl xa 7++(jN pl xb 8++(ma imm (et pl xa 7) (et pl xb 8)++[⟨2,et pl n 9,10,0,0⟩])))++jq pl n (et pl n 9))++l=_;simp only[ap,aN,aO]
    rwa[e]at h
  obtain⟨k1,R1,ra,rb,a,b,g1,e1,e2,ha,hbb,ea,eb,va,vb,a2,b2,hs⟩:=two _ (Or.inr rfl) g;rw[e1,e2]at g1;obtain⟨k2,R2,p1,p2,p3⟩:=HGo.flag h1 g1 ha hbb (by rw[hs 15 Wq5,hb.z]) ea eb a2 b2;have hfl:=Ii a2 b2 h1;have hv:k9 D Rr V ⟨4,dst,xa,xb,imm⟩=(iN imm a b).2.1:=by
    show(iN imm (V.getD xa.toNat 0) (V.getD xb.toNat 0)).2.1=_;rw[va,vb]
  rw[hv];rw[hrd]at p1;have p4:=HGo.mov (rd:=rd) (ra:=10) p1;rw[p2]at p4;exact fin _ _ _ (by rw[hrd];exact p4) (cV (by rw[p1.rl];omega)) Wq1 (λj h1 h2=>by rw[cF (λe=>h1 e.symm),p3 j (by simp;omega),hs j (by simp;omega)])
end
theorem nm1{a b:Nat}(h:a≠b):a∉[b]:=λhm=>h (aK.1 hm)
structure I9(pl:Pl)(T:List Int)(N:Nat):Prop where
 has:∀n:Nat,n<N->pl.has n
 reg:∀i j:Nat,i<j->j<N->pl.inR i=true->pl.inR j=true->pl.r i=pl.r j->T.getD i 0<=j
 slot:∀i j:Nat,i<j->j<N->pl.inR i=false->pl.inR j=false->pl.s i=pl.s j->T.getD i 0<=j
def CV(pl:Pl)(T V:List Int)(n:Nat)(R W:List Int):Prop:=∀a:Nat,a<n->(n:Int)<=T.getD a 0->Lo pl R W a (V.getD a 0)
section
variable {C l:List HI} {k:Nat} {R W:List Int} {M:HM} {pl:Pl} {D Rr:List Int} {MM MO:Int} {T:List Int}
theorem Fa{V V':List Int}{x:II}{n:Nat}(hx:x.ok MM MO n)(h:∀a:Nat,a<n->V.getD a 0=V'.getD a 0):k9 D Rr V x=k9 D Rr V' x:=by
 have hop:=hx.op;have hab:=hx.ab;obtain⟨op,dst,a,b,imm⟩:=x;dsimp only at hop hab;rcases hop with rfl|⟨rfl, -⟩|⟨rfl, -⟩|⟨rfl, -⟩|⟨rfl, -⟩
 .rfl
 .rfl
 .rfl
 .obtain⟨h1,h2⟩:=hab (Or.inl rfl);show(iN imm (V.getD a.toNat 0) (V.getD b.toNat 0)).1=(iN imm (V'.getD a.toNat 0) (V'.getD b.toNat 0)).1;rw[h a.toNat Wq1,h b.toNat Wq1]
 obtain⟨h1,h2⟩:=hab (Or.inr rfl);show(iN imm (V.getD a.toNat 0) (V.getD b.toNat 0)).2.1=(iN imm (V'.getD a.toNat 0) (V'.getD b.toNat 0)).2.1;rw[h a.toNat Wq1,h b.toNat Wq1]
def OkC(MM MO:Int)(code:List II):Prop:=∀(n:Nat) (x:II),code[n]? =some x->x.ok MM MO n
theorem OkC.app{pre suf:List II}(h:OkC MM MO (pre++suf)):OkC MM MO pre:=λn x hx=>h n x (by rw[bG (au.1 hx).1];exact hx)
theorem OkC.last{pre:List II}{x:II}(h:OkC MM MO (pre++[x])):x.ok MM MO pre.length:=h pre.length x cE
theorem Ju{V:List Int}{x:II}{n:Nat}(hx:x.ok MM MO n)(hD:wds D)(hR:wds Rr)(hV:wds V):0<=k9 D Rr V x/\k9 D Rr V x<=4294967295:=by
 have hop:=hx.op;have hi:=hx.imm;obtain⟨op,dst,a,b,imm⟩:=x;dsimp only at hop hi;obtain⟨x,hx1,hx2⟩:=mz hV a.toNat;obtain⟨y,hy1,hy2⟩:=mz hV b.toNat;rcases hop with rfl|⟨rfl, -⟩|⟨rfl, -⟩|⟨rfl,h1⟩|⟨rfl,h1⟩
 .exact hi
 .exact iU hD _
 .exact iU hR _
 .show 0<=(iN imm (V.getD a.toNat 0) (V.getD b.toNat 0)).1/\(iN imm (V.getD a.toNat 0) (V.getD b.toNat 0)).1<=4294967295;obtain⟨r,hr,hr2⟩:=r8 (Or.inl h1) hx2 hy2;have:(iN imm x y).1=(r:Int):=by rw[<-hr];unfold uu;rw[show(imm==25)=false by simp;omega];rfl
  rw[hx1,hy1,this];omega
 show 0<=(iN imm (V.getD a.toNat 0) (V.getD b.toNat 0)).2.1/\(iN imm (V.getD a.toNat 0) (V.getD b.toNat 0)).2.1<=4294967295;rw[hx1,hy1];have:=Ii hx2 hy2 h1;omega
theorem Jt(code:List II)(hD:wds D)(hR:wds Rr)(h:OkC MM MO code):wds (Ni D Rr code):=by
 revert h;refine wJ (p:=λcode=>OkC MM MO code->wds (Ni D Rr code)) (λ_ x hx=>by cases hx) (λl x ih h=>?_) code;rw[lv];intro y hy;rcases aS.1 hy with h1|h1
 .exact ih h.app y h1
 rw[aK.1 h1];exact Ju h.last hD hR (ih h.app)
theorem vals_at{pre:List II}{x:II}{suf:List II}(h:OkC MM MO (pre++x::suf)):(Ni D Rr (pre++x::suf)).getD pre.length 0=k9 D Rr (Ni D Rr (pre++x::suf)) x:=by
 have h2:pre++x::suf=(pre++[x])++suf:=by simp
 rw[h2]at h|-;obtain⟨m,hm⟩:=Bz (D:=D) (R:=Rr) (pre++[x]) suf;have e1:(Ni D Rr (pre++[x])).length=pre.length+1:=by rw[rH];simp
 have e0:(Ni D Rr pre).length=pre.length:=rH _;have e2:∀a:Nat,a<pre.length->(Ni D Rr pre).getD a 0=(Ni D Rr ((pre++[x])++suf)).getD a 0:=λa ha=>by
  rw[hm,lv,ap];simp only[aF];rw[bG Wq1]
 rw[<-Fa (OkC.last (OkC.app h)) e2,hm,lv];simp only[aF];rw[ap,bC Wq1,e0,Nat.sub_self]
 rfl
theorem HGo.all{V:List Int}{N:Nat}(hp:I9 pl T N)(hD:wds D)(hR:wds Rr)(hV:wds V):∀(suf:List II) (n:Nat) (k:Nat) (R W:List Int),HGo C k (j9 MM MO pl suf n++l) R W M->n+suf.length=N->
  (∀i x,suf[i]? =some x->x.ok MM MO (n+i)/\V.getD (n+i) 0=k9 D Rr V x/\(x.op=3\/x.op=4->((n+i:Nat):Int)<=T.getD x.a.toNat 0/\((n+i:Nat):Int)<=T.getD x.b.toNat 0))->
  L1 D Rr MM MO R W->CV pl T V n R W->∃k' R' W',HGo C k' l R' W' M/\L1 D Rr MM MO R' W'/\CV pl T V N R' W'/\∀j,j<64->W'.getD j 0=W.getD j 0
 |[],n,k,R,W,h,hN,hx,hb,hh=>⟨k,R,W,h,hb,(by have:n=N:=(by simpa using hN);subst this;exact hh),λ_ _=>rfl⟩
 |x::suf,n,k,R,W,h,hN,hx,hb,hh=>by
  have hN':n+1+suf.length=N:=by rw[<-hN];simp;omega
  obtain⟨x1,x2,x3⟩:=hx 0 x rfl;rw[Nat.add_zero]at x1 x2 x3;have h:HGo C k (qu MM MO pl n x++(j9 MM MO pl suf (n+1)++l)) R W M:=by
   have e:j9 MM MO pl (x::suf) n++l=qu MM MO pl n x++(j9 MM MO pl suf (n+1)++l):=by show(qu MM MO pl n x++j9 MM MO pl suf (n+1))++l=_;rw[ap]
   rwa[e]at h
  have hn:=hp.has n Wq1;have hab:x.op=3\/x.op=4->(pl.has x.a/\Lo pl R W x.a (V.getD x.a.toNat 0))/\(pl.has x.b/\Lo pl R W x.b (V.getD x.b.toNat 0)):=λho=>by
   obtain⟨⟨a1,a2⟩,b1,b2⟩:=x1.ab ho;obtain⟨t1,t2⟩:=x3 ho;have ea:((x.a.toNat:Nat):Int)=x.a:=by omega
   have eb:((x.b.toNat:Nat):Int)=x.b:=by omega
   have ha:=hh x.a.toNat Wq1 t1;have hb:=hh x.b.toNat Wq1 t2;have pa:=hp.has x.a.toNat Wq1;have pb:=hp.has x.b.toNat Wq1;rw[ea]at ha pa;rw[eb]at hb pb;exact⟨⟨pa,ha⟩,pb,hb⟩
  obtain⟨k1,R1,W1,g1,g2,g3,g4,g5⟩:=HGo.one h x1 hb hD hR hV hn hab;have hold:CV pl T V (n+1) R1 W1:=λa ha ht=>by
   by_cases e:a=n
   .subst e;rw[x2];exact g2
   have h1:=hh a Wq1 Wq1;have hlt:a<n:=by omega
   refine⟨λhi=>?_,λhi=>?_⟩
   .rw[g4 _ ?_ ?_];exact h1.1 hi
    .rcases hp.has a (by omega)with⟨-,q⟩|⟨q, -⟩
     .have:0<=pl.r a:=by unfold Pl.inR at hi;simpa using hi
      omega
     rw[hi]at q;cases q
    intro hin e2;have:=hp.reg a n hlt Wq1 hi hin (by
     have q1:0<=pl.r a:=by unfold Pl.inR at hi;simpa using hi
     have q2:0<=pl.r n:=by unfold Pl.inR at hin;simpa using hin
     omega)
    omega
   rw[g5 _ ?_];exact h1.2 hi;cases hin:pl.inR n with
   |true=>exact Or.inl rfl
   |false=>
    refine Or.inr λe2=>?_
    have s1:0<=pl.s a:=by rcases hp.has a (by omega)with⟨q, -⟩|⟨-,q, -⟩;rw[hi]at q;cases q;exact q
    have s2:0<=pl.s n:=by rcases hn with⟨q, -⟩|⟨-,q, -⟩;rw[hin]at q;cases q;exact q
    have:=hp.slot a n hlt Wq1 hi hin Wq1;omega
  obtain⟨k2,R2,W2,q1,q2,q3,q4⟩:=HGo.all hp hD hR hV suf (n+1) k1 R1 W1 g1 hN' (λi y hy=>by
   have:=hx (i+1) y (by simpa using hy);rw[show n+(i+1)=n+1+i by omega]at this;exact this) g3 hold
  refine⟨k2,R2,W2,q1,q2,q3,λj hj=>?_⟩;rw[q4 j hj,g5 j ?_];cases hin:pl.inR n with
  |true=>exact Or.inl rfl
  |false=>exact Or.inr Wq1
theorem HGo.outs{V:List Int}{N base B from_:Nat}(hp:I9 pl T N)(hV:wds V)(hbase:base=13\/base=14)(hfr:from_=4\/from_=20):∀(out:List Int) (j:Nat) (k:Nat) (R W:List Int),HGo C k (vq pl base from_ out j++l) R W M->
  (∀n,n∈out->0<=n/\n<N/\(N:Int)<=T.getD n.toNat 0)->B+j+out.length<=16->R.getD base 0=(B:Int)->R.getD 15 0=0->CV pl T V N R W->
  ∃k' R' W',HGo C k' l R' W' M/\kJ [7] R R'/\(∀i,(i<from_+B+j\/from_+B+j+out.length<=i)->W'.getD i 0=W.getD i 0)/\(∀i,i<out.length->W'.getD (from_+B+j+i) 0=V.getD (out.getD i 0).toNat 0)
 |[],j,k,R,W,h,ho,hB,hb,h15,hh=>⟨k,R,W,h,kJ.refl _ _,λ_ _=>rfl,λi hi=>absurd hi cE⟩
 |n::out,j,k,R,W,h,ho,hB,hb,h15,hh=>by
  obtain⟨n0,n1,n2⟩:=ho n cE;have en:((n.toNat:Nat):Int)=n:=by omega
  have hn:=hp.has n.toNat Wq1;have hl:=hh n.toNat Wq1 n2;rw[en]at hn hl;have hB':B+j+(out.length+1)<=16:=hB;have h:HGo C k (jN pl n 7++(⟨15,0,(base:Int),et pl n 7,IntKind.u32.wrap ((from_:Int)+IntKind.u32.wrap (j:Int))⟩::(vq pl base from_ out (j+1)++l))) R W M:=by
   have e:vq pl base from_ (n::out) j++l=jN pl n 7++(⟨15,0,(base:Int),et pl n 7,IntKind.u32.wrap ((from_:Int)+IntKind.u32.wrap (j:Int))⟩::(vq pl base from_ out (j+1)++l)):=by
    show(jN pl n 7++(_::vq pl base from_ out (j+1)))++l=_;rw[ap,aN]
   rwa[e]at h
  obtain⟨r,hr,hr2⟩:=lZ hn (into:=7) Wq1;have hr:et pl n 7=(r:Int):=hr;obtain⟨v,hv,hv2⟩:=mz hV n.toNat;rw[hv]at hl;obtain⟨k1,R1,g1,g2,g3⟩:=HGo.get (into:=7) h hn Wq1 hr h15 hl;rw[hr]at g1;have hb1:R1.getD base 0=(B:Int):=by rw[g3 base (by simp;omega),hb]
  have g4:=HGo.st (ra:=base) (rb:=r) (p:=from_+B+j) (v:=(v:Int)) g1 (by rw[hb1,aE,aE,aQ];omega) Wq1 (by rw[g2,aE];omega);have hold:CV pl T V N R1 (W.set (from_+B+j) v):=λa ha ht=>by
   have h1:=hh a ha ht;have h2:=hp.has a ha;refine⟨λhi=>?_,λhi=>?_⟩
   .rw[g3 _ ?_];exact h1.1 hi;rcases h2 with⟨-,q⟩|⟨q, -⟩
    .have:0<=pl.r a:=by unfold Pl.inR at hi;simpa using hi
     exact nm1 Wq1
    rw[hi]at q;cases q
   rw[cF Wq1];exact h1.2 hi
  obtain⟨k2,R2,W2,q1,q2,q3,q4⟩:=HGo.outs hp hV hbase hfr out (j+1) _ R1 _ g4 (λm hm=>ho m (by simp[hm])) Wq1 hb1 (by rw[g3 15 Wq5,h15]) hold;have hw:=h.wl;refine⟨k2,R2,W2,q1,g3.trans q2 (by intro z hz;simpa using hz),λi hi=>?_,λi hi=>?_⟩
  .have hi:i<from_+B+j\/from_+B+j+(out.length+1)<=i:=hi;rw[q3 i Wq1,cF Wq1]
  cases i with
  |zero=>
   rw[Nat.add_zero,q3 _ Wq1,cV Wq1];show(v:Int)=V.getD n.toNat 0;rw[hv]
  |succ i=>
   have:=q4 i (by simpa using hi);rw[show from_+B+(j+1)+i=from_+B+j+(i+1) by omega]at this;exact this
theorem HGo.stack{V:List Int}{N base B from_ word:Nat}{out:List Int}(hp:I9 pl T N)(hV:wds V)(hbase:base=13\/base=14)(hfr:from_=4\/from_=20)(hw:word=2\/word=3)(h:HGo C k (ix pl base from_ word out++l) R W M)
  (ho:∀n,n∈out->0<=n/\n<N/\(N:Int)<=T.getD n.toNat 0) (hB:B+out.length<=16) (hb:R.getD base 0=(B:Int)) (h15:R.getD 15 0=0) (hh:CV pl T V N R W):
  ∃k' R' W',HGo C k' l R' W' M/\kJ [7,11] R R'/\(∀i,i≠word->(i<from_+B\/from_+B+out.length<=i)->W'.getD i 0=W.getD i 0)/\(∀i,i<out.length->W'.getD (from_+B+i) 0=V.getD (out.getD i 0).toNat 0)/\W'.getD word 0=((B+out.length:Nat):Int)/\CV pl T V N R' W':=by
 have h:HGo C k (vq pl base from_ out 0++(⟨1,11,0,0,IntKind.u32.wrap (out.length:Int)⟩::⟨3,11,11,(base:Int),0⟩::⟨15,0,15,11,(word:Int)⟩::l)) R W M:=by
  have e:ix pl base from_ word out++l=vq pl base from_ out 0++(⟨1,11,0,0,IntKind.u32.wrap (out.length:Int)⟩::⟨3,11,11,(base:Int),0⟩::⟨15,0,15,11,(word:Int)⟩::l):=by
   unfold ix;simp only[ap,aN,aO]
  rwa[e]at h
 obtain⟨k1,R1,W1,g1,g2,g3,g4⟩:=HGo.outs hp hV hbase hfr out 0 k R W h ho Wq1 hb h15 hh;have hl:=g1.rl;have hl2:=g1.wl;have a1:=HGo.li (rd:=11) g1;have a2:=HGo.op (rd:=11) (ra:=11) (rb:=base) (v:=((B+out.length:Nat):Int)) a1 Wq5 Wq5 (by
  rw[cV Wq1,cF Wq1,g2 base (by simp;omega),hb];show IntKind.u64.wrap (IntKind.u32.wrap (out.length:Int)+(B:Int))=_;rw[aE,aQ];omega)
 have a3:=HGo.st (ra:=15) (rb:=11) (p:=word) (v:=((B+out.length:Nat):Int)) a2 (by rw[cF Wq5,cF Wq5,g2 15 Wq5,h15,aQ];omega) Wq1 (by rw[cV (by rw[aC];omega),aE];omega);refine⟨_,_,_,a3,?_,λi h1 h2=>?_,λi hi=>?_,cV Wq1,λa ha ht=>?_⟩
 .intro j hj;simp only[aJ,aY,or_false,not_or]at hj;rw[cF Wq1,cF Wq1,g2 j (by simp;omega)]
 .rw[cF (λe=>h1 e.symm),g3 i Wq1]
 .rw[cF Wq1];have:=g4 i hi;rwa[Nat.add_zero]at this
 have h1:=hh a ha ht;have h2:=hp.has a ha;refine⟨λhi=>?_,λhi=>?_⟩
 .have q1:0<=pl.r a:=by unfold Pl.inR at hi;simpa using hi
  have q2:pl.r a<7:=by rcases h2 with⟨-,q⟩|⟨q, -⟩;exact q;rw[hi]at q;cases q
  rw[cF Wq1,cF Wq1,g2 _ (nm1 Wq1)];exact h1.1 hi
 rw[cF Wq1,g3 _ Wq1];exact h1.2 hi
theorem HGo.room{base word n e:Nat}{MN M9:Int}(h:HGo C k (oc e base word MN M9++l) R W M)(hbase:base=13\/base=14)(hw:word=2\/word=3)(h15:R.getD 15 0=0)(hn:W.getD word 0=(n:Int))(hn2:n<=16)(h0:0<=MN/\MN<=16)(hm:0<=M9/\M9<=4294967295)
  (he:C.drop e=[⟨19,0,0,0,2⟩]):MN<=n/\(n:Int)<=M9/\∃k' R',HGo C k' l R' W M/\R'.getD base 0=(n:Int) - MN/\kJ [base,11,12] R R':=by
 have hl:=h.rl;have no:∀(R1:List Int),¬HGo C e [⟨19,0,0,0,2⟩] R1 W M:=λR1 g=>by have:=(HGo.exit g).1;cases this
 have a1:=HGo.ld (rd:=base) (ra:=15) (p:=word) h (by rw[h15,aQ];omega) Wq1;rw[hn]at a1;have a2:=HGo.li (rd:=11) a1;have e11:((R.set base (n:Int)).set 11 (IntKind.u32.wrap MN)).getD 11 0=MN:=by rw[cV (by rw[aC];omega),aE];omega
 have eb:((R.set base (n:Int)).set 11 (IntKind.u32.wrap MN)).getD base 0=n:=by rw[cF Wq1,cV Wq1]
 have a3:=HGo.op (rd:=12) (ra:=base) (rb:=11) (v:=b2i (decide ((n:Int)<MN))) a2 Wq5 Wq5 (by rw[e11,eb];rfl);have b3:(((R.set base (n:Int)).set 11 (IntKind.u32.wrap MN)).set 12 (b2i (decide ((n:Int)<MN)))).getD 12 0=b2i (decide ((n:Int)<MN)):=cV (by simp only[aC];omega);have a4:=HGo.bnez (ra:=12) a3 he;rw[b3]at a4;rcases a4 with⟨c1,a4⟩|⟨-,a4⟩
 .have hlt:MN<=n:=by
   cases hd:decide ((n:Int)<MN)with
   |true=>rw[hd]at c1;cases c1
   |false=>have:=of_decide_eq_false hd;omega
  have a5:=HGo.li (rd:=12) a4;have a6:=HGo.op (rd:=12) (ra:=12) (rb:=base) (v:=b2i (decide (M9<(n:Int)))) a5 Wq5 Wq5 (by
   rw[cV (by simp only[aC];omega),cF Wq1,cF Wq1,eb];show b2i (decide (IntKind.u32.wrap M9<(n:Int)))=_;rw[show IntKind.u32.wrap M9=M9 by rw[aE];omega])
  have a7:=HGo.bnez (ra:=12) a6 he;rw[cV (by simp only[aC];omega)]at a7;rcases a7 with⟨c2,a7⟩|⟨-,a7⟩
  .have hle:(n:Int)<=M9:=by
    cases hd:decide (M9<(n:Int))with
    |true=>rw[hd]at c2;cases c2
    |false=>have:=of_decide_eq_false hd;omega
   have a8:=HGo.op (rd:=base) (ra:=base) (rb:=11) (v:=(n:Int) - MN) a7 Wq5 Wq5 (by
    rw[cF Wq1,cF Wq1,cF Wq1,eb,cF Wq5,cF Wq5,cF Wq5,e11];show IntKind.u64.wrap ((n:Int) - MN)=_;rw[aQ];omega)
   refine⟨hlt,hle,_,_,a8,cV (by simp only[aC];omega),?_⟩;intro j hj;simp only[aJ,aY,or_false,not_or]at hj;rw[cF Wq1,cF Wq1,cF Wq1,cF Wq1,cF Wq1,cF Wq1]
  exact absurd a7 (no _)
 exact absurd a4 (no _)
end
end Go.Ink
