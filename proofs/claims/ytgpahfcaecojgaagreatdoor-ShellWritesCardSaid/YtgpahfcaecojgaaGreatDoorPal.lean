/- Lemmas. -/
import Derived.Test.YtgpahfcaecojgaaGreatDoorPak
set_option linter.all false
set_option maxRecDepth 100000
set_option maxHeartbeats 4000000
namespace Go.Ink
open Go.RowKit
structure Pg where
  code:List II
  Wc:Int
  Wd:Int
  WH:Int
  WK:Int
  Wo:List Int
  Wp:List Int
  flags:Int
  next:Int
  target:Int
  branch:Int
  taken:Int
  count:Int
  values:Int
structure Pl where
  reg:List Int
  slot:List Int
  WG:Int
abbrev Pl.r(pl:Pl)(n:Int):Int:=pl.reg.getD n.toNat 0
abbrev Pl.s(pl:Pl)(n:Int):Int:=pl.slot.getD n.toNat 0
def Pl.inR(pl:Pl)(n:Int):Bool:=decide (0<=pl.r n)
def kf(pl:Pl)(n into:Int):List HI:=bif pl.inR n then[]else[⟨14,into,15,0,IntKind.u32.wrap (64+pl.s n)⟩]
def eG(pl:Pl)(n into:Int):Int:=bif pl.inR n then pl.r n else into
def jd(pl:Pl)(n r:Int):List HI:=bif pl.inR n then[]else[⟨15,0,15,r,IntKind.u32.wrap (64+pl.s n)⟩]
def r8(Wc Wd:Int)(pl:Pl)(n:Int)(x:II):List HI:=
  (bif x.op==0 then[⟨1,eG pl n 9,0,0,x.imm⟩]else
   bif x.op==1 then[⟨14,eG pl n 9,14,0,IntKind.u32.wrap (4+Wc - 1 - x.imm)⟩]else
   bif x.op==2 then[⟨14,eG pl n 9,13,0,IntKind.u32.wrap (20+Wd - 1 - x.imm)⟩]else
   bif x.op==3 then kf pl x.a 7++(kf pl x.b 8++zI x.imm (eG pl n 9) (eG pl x.a 7) (eG pl x.b 8))else
   bif x.op==4 then kf pl x.a 7++(kf pl x.b 8++(mI x.imm (eG pl x.a 7) (eG pl x.b 8)++[⟨2,eG pl n 9,10,0,0⟩]))else[])++jd pl n (eG pl n 9)
def ka(Wc Wd:Int)(pl:Pl):List II->Nat->List HI
  |[],_=>[]
  |x::c,n=>r8 Wc Wd pl n x++ka Wc Wd pl c (n+1)
def AY(pl:Pl)(base from_:Int):List Int->Nat->List HI
  |[],_=>[]
  |n::c,k=>kf pl n 7++(⟨15,0,base,eG pl n 7,IntKind.u32.wrap (from_+IntKind.u32.wrap k)⟩::AY pl base from_ c (k+1))
def iZ(pl:Pl)(base from_ word:Int)(out:Li):List HI:=AY pl base from_ out 0++[⟨1,11,0,0,IntKind.u32.wrap out.length⟩,⟨3,11,11,base,0⟩,⟨15,0,15,11,word⟩]
def qq(e base word Wi Wz:Int):List HI:=[⟨14,base,15,0,word⟩,⟨1,11,0,0,IntKind.u32.wrap Wi⟩,⟨12,12,base,11,0⟩,⟨17,0,12,0,e⟩,⟨1,12,0,0,IntKind.u32.wrap Wz⟩,⟨12,12,12,base,0⟩,⟨17,0,12,0,e⟩,⟨4,base,base,11,0⟩]
def gU(op:Int):Int:=bif op==33 then 1 else bif op==34 then 1 else bif op==35 then 4 else bif op==36 then 2 else 8
def jN(op:Int):Bool:=bif op==33 then true else bif op==34 then false else true
def gM(p:Pg)(pl:Pl):List HI:=bif decide (0<=p.flags)then⟨1,11,0,0,15⟩::(kf pl p.flags 7++[⟨5,11,11,eG pl p.flags 7,0⟩,⟨15,0,15,11,1⟩])else[]
def iz(p:Pg)(pos:Nat):List HI:=bif p.branch !=0 then[⟨14,11,15,0,1⟩,⟨1,12,0,0,gU p.branch⟩,⟨5,11,11,12,0⟩,⟨bif jN p.branch then 16 else 17,0,11,0,IntKind.u32.wrap ((pos+3:Nat)+2)⟩,⟨1,9,0,0,p.taken⟩]else[]
def jJ(p:Pg)(pl:Pl):List HI:=bif decide (0<=p.target)then kf pl p.target 7++[⟨2,9,eG pl p.target 7,0,0⟩]else[]
def uN(p:Pg)(pl:Pl)(pos:Nat):List HI:=
  gM p pl++(⟨1,9,0,0,p.next⟩::(iz p (pos+(gM p pl).length+1)++(jJ p pl++[⟨15,0,15,9,0⟩,⟨1,11,0,0,IntKind.u32.wrap p.count⟩,⟨15,0,15,11,36⟩,⟨19,0,0,0,1⟩])))
def i3(Wi high:Int)(out:Nat):Int:=if 16+Wi - out<16 - high then 16+Wi - out else 16 - high
def Pg.Xl(p:Pg):Int:=i3 p.Wc p.WH p.Wo.length
def Pg.Xw(p:Pg):Int:=i3 p.Wd p.WK p.Wp.length
def Pg.Xf(p:Pg):Bool:= !decide (p.Xl<p.Wc)
def Pg.Xi(p:Pg):Bool:= !decide (p.Xw<p.Wd)
def wD(p:Pg)(e:Int):List HI:=⟨1,15,0,0,0⟩::(qq e 14 2 p.Wc p.Xl++qq e 13 3 p.Wd p.Xw)
def iY(p:Pg)(pl:Pl):List HI:=ka p.Wc p.Wd pl p.code 0++(iZ pl 14 4 2 p.Wo++iZ pl 13 20 3 p.Wp)
def fG(p:Pg)(pl:Pl)(e:Int):List HI:=
  bif p.Xf then(bif p.Xi then wD p e++(iY p pl++uN p pl (17+(iY p pl).length))else⟨1,15,0,0,0⟩::qq e 14 2 p.Wc p.Xl)else[⟨1,15,0,0,0⟩]
def gl(p:Pg)(pl:Pl):List HI:=fG p pl (IntKind.u32.wrap ((fG p pl 0).length:Nat))++[⟨19,0,0,0,2⟩]
def Lo(pl:Pl)(R W:Li)(n:Int)(v:Int):Prop:=(pl.inR n=true->R.getD (pl.r n).toNat 0=v)/\(pl.inR n=false->W.getD (64+(pl.s n).toNat) 0=v)
def Pl.has(pl:Pl)(n:Int):Prop:=(pl.inR n=true/\pl.r n<7)\/(pl.inR n=false/\0<=pl.s n/\pl.s n<128)
section
variable {C l:List HI} {k:Nat} {R W:Li} {M:HM} {pl:Pl}
variable{n:Int}{into:Nat}
theorem mG(h:pl.has n)(hi:into=7\/into=8\/into=9):∃r:Nat,eG pl n into=r/\(r=into/\pl.inR n=false\/r<7/\pl.inR n=true/\(pl.r n).toNat=r):=by
  unfold eG;rcases h with⟨h1,h2⟩|⟨h1,h2,h3⟩
  . grind [Pl.inR]
  grind
theorem CK(h:0<=pl.s n/\pl.s n<128)(h15:R.getD 15 0=0):IntKind.u64.wrap (R.getD 15 0+IntKind.u32.wrap (64+pl.s n))=((64+(pl.s n).toNat:Nat):Int):=by
  grind [IntKind.wrap_u32,IntKind.wrap_u64]
theorem HGo.get{v:Int}{r:Nat}(h:HGo C k (kf pl n into++l) R W M)(hh:pl.has n)(hi:into=7\/into=8)(hr:eG pl n into=r)(h15:R.getD 15 0=0)(hv:Lo pl R W n v):
    ∃k' R',HGo C k' l R' W M/\R'.getD r 0=v/\kV [into] R R':=by
  obtain⟨r2,h1,h2⟩:=mG hh (into:=into) Wq1;obtain rfl:r2=r:=by omega
  rcases h2 with⟨rfl,h3⟩|⟨h3,h4,h5⟩
  . unfold kf at h
    rw[h3]at h;have hs:0<=pl.s n/\pl.s n<128:=by rcases hh with⟨h6, -⟩|⟨-,h6⟩;rw[h3]at h6;cases h6;exact h6
    have g:=HGo.ld (rd:=r2) (ra:=15) (p:=64+(pl.s n).toNat) h (CK hs h15) Wq1;exact⟨_,_,g,(de (by rw[h.rl];omega)).trans (hv.2 h3),kV.set R _ _ cP⟩
  unfold kf at h;rw[h4]at h;exact⟨k,R,h,by rw[<-h5];exact hv.1 h4,kV.refl _ _⟩
theorem HGo.WB{v:Int}{r:Nat}(h:HGo C k (jd pl n (eG pl n 9)++l) R W M)(hh:pl.has n)(hr:eG pl n 9=r)(h15:R.getD 15 0=0)(hv:R.getD r 0=v)(hv2:0<=v/\v<=4294967295):
    ∃k' W',HGo C k' l R W' M/\Lo pl R W' n v/\∀j,(pl.inR n=true\/j≠64+(pl.s n).toNat)->W'.getD j 0=W.getD j 0:=by
  obtain⟨r2,h1,h2⟩:=mG hh (into:=9) Wq1;have h1:eG pl n 9=r2:=h1;obtain rfl:r2=r:=by omega
  unfold jd at h;rcases h2 with⟨rfl,h3⟩|⟨h3,h4,h5⟩
  . rw[h3]at h
    have hs:0<=pl.s n/\pl.s n<128:=by rcases hh with⟨h6, -⟩|⟨-,h6⟩;rw[h3]at h6;cases h6;exact h6
    have hg:eG pl n 9=9:=by unfold eG;rw[h3];rfl
    rw[hg]at h;have g:=HGo.st (ra:=15) (rb:=9) (p:=64+(pl.s n).toNat) (v:=v) h (CK hs h15) Wq1 (by grind [IntKind.wrap_u32]);refine⟨_,_,g,⟨λh6=>bY,λ_=>de (by rw[h.wl];omega)⟩,λj hj=>?_⟩
    grind
  rw[h4]at h;exact⟨k,W,h,⟨λ_=>bY,λh6=>bY⟩,λ_ _=>rfl⟩
structure II.ok(x:II)(Wc Wd:Int)(n:Nat):Prop where
  imm:0<=x.imm/\x.imm<=4294967295
  op:(x.op=0)\/(x.op=1/\x.imm<Wc)\/(x.op=2/\x.imm<Wd)\/(x.op=3/\16<=x.imm/\x.imm<=23)\/(x.op=4/\((16<=x.imm/\x.imm<=23)\/x.imm=25))
  ab:x.op=3\/x.op=4->(0<=x.a/\x.a<n)/\(0<=x.b/\x.b<n)
def wds(l:Li):Prop:=∀x,x∈l->0<=x/\x<=4294967295
theorem iN{l:Li}(h:wds l)(n:Nat):0<=l.getD n 0/\l.getD n 0<=4294967295:=by
  rw[List.getD_eq_getElem?_getD];by_cases hn:n<l.length
  . rw[ae hn];exact h _ (List.getElem_mem hn)
  grind
theorem nk{l:Li}(h:wds l)(n:Nat):∃x:Nat,l.getD n 0=(x:Int)/\x<4294967296:=by
  obtain⟨h1,h2⟩:=iN h n;exact⟨(l.getD n 0).toNat,by omega,by omega⟩
theorem Pd{op:Int}{x y:Nat}(hx:x<4294967296)(hy:y<4294967296)(hop:(16<=op/\op<=23)\/op=25):0<=(jR op x y).2.1/\(jR op x y).2.1<=15:=by
  have hb:∀b:Bool,0<=b2i b/\b2i b<=1:=λb=>by cases b<;>decide
  have hT:∀(a b r o:Int) (p q c:Bool),0<=oa a b r (b2i p+2*b2i q) c o/\oa a b r (b2i p+2*b2i q) c o<=15:=λa b r o p q c=>by
    rw[wK];grind
  have hp:∀r:Nat,r<4294967296->0<=dC r/\dC r<=15:=λr hr=>by
    grind [jh]
  have hr:=uR hop hx hy;have h8:op=16\/op=17\/op=18\/op=19\/op=20\/op=21\/op=22\/op=23\/op=25:=by omega
  obtain⟨r,hr,hr2⟩:=hr;rcases h8 with rfl|rfl|rfl|rfl|rfl|rfl|rfl|rfl|rfl
  . show 0<=tv x y/\tv x y<=15
    have hr:IntKind.u32.wrap ((x:Int)+y)=(r:Int):=hr;unfold tv;rw[hr,jh hr2];exact hT ..
  . show 0<=mX x y/\mX x y<=15
    have hr:IntKind.u32.wrap ((x:Int) - y)=(r:Int):=hr;unfold mX;rw[hr,jh hr2];exact hT ..
  . show 0<=dC (xK 18 x y)/\dC (xK 18 x y)<=15;grind
  . show 0<=dC (xK 19 x y)/\dC (xK 19 x y)<=15;grind
  . show 0<=dC (xK 20 x y)/\dC (xK 20 x y)<=15;grind
  . show 0<=dC (xK 21 x y)/\dC (xK 21 x y)<=15;grind
  . show 0<=dC (xK 22 x y)/\dC (xK 22 x y)<=15;grind
  . show 0<=dC (xK 23 x y)/\dC (xK 23 x y)<=15;grind
  show 0<=mX x y/\mX x y<=15;have hr:IntKind.u32.wrap ((x:Int) - y)=(r:Int):=hr;unfold mX;rw[hr,jh hr2];exact hT ..
structure Vi(D Rr:Li)(Wc Wd:Int)(R W:Li):Prop where
  z:R.getD 15 0=0
  bd:R.getD 14 0=(D.length:Int) - Wc
  br:R.getD 13 0=(Rr.length:Int) - Wd
  d:∀j,j<D.length->W.getD (4+j) 0=D.getD j 0
  r:∀j,j<Rr.length->W.getD (20+j) 0=Rr.getD j 0
  d16:D.length<=16
  r16:Rr.length<=16
  nd:0<=Wc/\Wc<=D.length
  nr:0<=Wd/\Wd<=Rr.length
theorem Vi.mono{D Rr:Li}{Wc Wd:Int}{R' W':Li}(h:Vi D Rr Wc Wd R W)(hs:∀j,13<=j->R'.getD j 0=R.getD j 0)(hw:∀j,j<64->W'.getD j 0=W.getD j 0):Vi D Rr Wc Wd R' W':=
  ⟨by rw[hs 15 bX,h.z],by rw[hs 14 bX,h.bd],by rw[hs 13 bX,h.br],λj hj=>by have:=h.d16;rw[hw _ Wq1,h.d j hj],λj hj=>by have:=h.r16;rw[hw _ Wq1,h.r j hj],h.d16,h.r16,h.nd,h.nr⟩
theorem HGo.one{D Rr V:Li}{Wc Wd:Int}{n:Nat}{x:II}(h:HGo C k (r8 Wc Wd pl n x++l) R W M)(hx:x.ok Wc Wd n)(hb:Vi D Rr Wc Wd R W)(hD:wds D)(hR:wds Rr)(hV:wds V)
    (hn:pl.has n) (hab:x.op=3\/x.op=4->(pl.has x.a/\Lo pl R W x.a (V.getD x.a.toNat 0))/\(pl.has x.b/\Lo pl R W x.b (V.getD x.b.toNat 0))):
    ∃k' R' W',HGo C k' l R' W' M/\Lo pl R' W' n (lr D Rr V x)/\Vi D Rr Wc Wd R' W'/\(∀j,j<7->(pl.inR n=true->j≠(pl.r n).toNat)->R'.getD j 0=R.getD j 0)/\(∀j,(pl.inR n=true\/j≠64+(pl.s n).toNat)->W'.getD j 0=W.getD j 0):=by
  obtain⟨rd,hrd,hrd2⟩:=mG hn (into:=9) Wq1;have hrd:eG pl n 9=(rd:Int):=hrd;have hrd10:rd<10:=by rcases hrd2 with⟨h1, -⟩|⟨h1, -⟩<;>omega
  have fin:∀(k1:Nat) (R1:Li) (v:Int),HGo C k1 (jd pl n (eG pl n 9)++l) R1 W M->R1.getD rd 0=v->(0<=v/\v<=4294967295)->(∀j,j≠rd->(j<7\/13<=j)->R1.getD j 0=R.getD j 0)->
      ∃k' R' W',HGo C k' l R' W' M/\Lo pl R' W' n v/\Vi D Rr Wc Wd R' W'/\(∀j,j<7->(pl.inR n=true->j≠(pl.r n).toNat)->R'.getD j 0=R.getD j 0)/\(∀j,(pl.inR n=true\/j≠64+(pl.s n).toNat)->W'.getD j 0=W.getD j 0):=λk1 R1 v g hv hv2 hs=>by
    obtain⟨k2,W2,g1,g2,g3⟩:=HGo.WB g hn hrd (by grind [hb.z]) hv hv2;have hw:∀j,j<64->W2.getD j 0=W.getD j 0:=λj hj=>g3 j (by
      omega)
    refine⟨k2,R1,W2,g1,g2,hb.mono (λj hj=>hs j Wq1 Wq1) hw,λj hj hne=>?_,g3⟩
    grind
  have hap:∀m:List HI,HGo C k (m++(jd pl n (eG pl n 9)++l)) R W M<->HGo C k ((m++jd pl n (eG pl n 9))++l) R W M:=λm=>by grind
  have two:∀m:List HI,(x.op=3\/x.op=4)->HGo C k (kf pl x.a 7++(kf pl x.b 8++m)) R W M->∃(k1:Nat) (R1:Li) (ra rb a b:Nat),HGo C k1 m R1 W M/\eG pl x.a 7=ra/\eG pl x.b 8=rb/\ra<9/\rb<9/\R1.getD ra 0=(a:Int)/\R1.getD rb 0=(b:Int)/\
      V.getD x.a.toNat 0=(a:Int)/\V.getD x.b.toNat 0=(b:Int)/\a<4294967296/\b<4294967296/\kV [7,8] R R1:=λm ho g=>by
    obtain⟨⟨h1,h2⟩,h3,h4⟩:=hab ho;obtain⟨ra,e1,e2⟩:=mG h1 (into:=7) Wq1;obtain⟨rb,e3,e4⟩:=mG h3 (into:=8) Wq1;have e1:eG pl x.a 7=(ra:Int):=e1;have e3:eG pl x.b 8=(rb:Int):=e3;obtain⟨a,a1,a2⟩:=nk hV x.a.toNat;obtain⟨b,b1,b2⟩:=nk hV x.b.toNat;rw[a1]at h2;rw[b1]at h4;obtain⟨k1,R1,g1,g2,g3⟩:=HGo.get (into:=7) g h1 Wq1 e1 hb.z h2;have h4':Lo pl R1 W x.b b:=by
      refine⟨λhi=>?_,h4.2⟩;rcases h3 with⟨q1,q2⟩|⟨q1, -⟩
      . rw[g3 _ ?_]
        . exact h4.1 hi
        grind
      grind
    obtain⟨k2,R2,p1,p2,p3⟩:=HGo.get (into:=8) g1 h3 Wq1 e3 (by rw[g3 15 bX,hb.z]) h4';refine⟨k2,R2,ra,rb,a,b,p1,e1,e3,?_,?_,?_,p2,a1,b1,a2,b2,g3.trans p3 bY⟩
    . omega
    . omega
    rw[p3 ra bY,g2]
  obtain⟨op,dst,xa,xb,imm⟩:=x;obtain⟨hi1,hi2⟩:=hx.imm;have hop:=hx.op;dsimp only at hop hi1 hi2 two hab;rcases hop with rfl|⟨rfl,h1⟩|⟨rfl,h1⟩|⟨rfl,h1⟩|⟨rfl,h1⟩
  . have g:HGo C k (⟨1,(rd:Int),0,0,imm⟩::(jd pl n (eG pl n 9)++l)) R W M:=by rw[<-hrd];exact(hap [⟨1,eG pl n 9,0,0,imm⟩]).2 h
    exact fin _ _ imm g.li (de (by rw[h.rl];omega)) ⟨hi1,hi2⟩ (λj h1 _=>cS (λe=>h1 e.symm))
  . have g:HGo C k (⟨14,(rd:Int),14,0,IntKind.u32.wrap (4+Wc - 1 - imm)⟩::(jd pl n (eG pl n 9)++l)) R W M:=by rw[<-hrd];exact(hap [_]).2 h
    obtain⟨n1,n2⟩:=hb.nd;have hd:=hb.d16;have g1:=HGo.ld (rd:=rd) (ra:=14) (p:=4+(D.length - 1 - imm.toNat)) g (by rw[hb.bd,aG,aU];omega) Wq1;have hv:W.getD (4+(D.length - 1 - imm.toNat)) 0=D.getD (D.length - 1 - imm.toNat) 0:=hb.d _ Wq1;rw[hv]at g1;exact fin _ _ _ g1 (de (by rw[h.rl];omega)) (iN hD _) (λj h1 _=>cS (λe=>h1 e.symm))
  . have g:HGo C k (⟨14,(rd:Int),13,0,IntKind.u32.wrap (20+Wd - 1 - imm)⟩::(jd pl n (eG pl n 9)++l)) R W M:=by rw[<-hrd];exact(hap [_]).2 h
    obtain⟨n1,n2⟩:=hb.nr;have hd:=hb.r16;have g1:=HGo.ld (rd:=rd) (ra:=13) (p:=20+(Rr.length - 1 - imm.toNat)) g (by rw[hb.br,aG,aU];omega) Wq1;have hv:W.getD (20+(Rr.length - 1 - imm.toNat)) 0=Rr.getD (Rr.length - 1 - imm.toNat) 0:=hb.r _ Wq1;rw[hv]at g1;exact fin _ _ _ g1 (de (by rw[h.rl];omega)) (iN hR _) (λj h1 _=>cS (λe=>h1 e.symm))
  . have g:HGo C k (kf pl xa 7++(kf pl xb 8++(zI imm (eG pl n 9) (eG pl xa 7) (eG pl xb 8)++(jd pl n (eG pl n 9)++l)))) R W M:=by
      have e:r8 Wc Wd pl n ⟨3,dst,xa,xb,imm⟩++l=kf pl xa 7++(kf pl xb 8++(zI imm (eG pl n 9) (eG pl xa 7) (eG pl xb 8)++(jd pl n (eG pl n 9)++l))):=by
        show((kf pl xa 7++(kf pl xb 8++zI imm (eG pl n 9) (eG pl xa 7) (eG pl xb 8)))++jd pl n (eG pl n 9))++l=_;simp only[aq]
      rwa[e]at h
    obtain⟨k1,R1,ra,rb,a,b,g1,e1,e2,ha,hbb,ea,eb,va,vb,a2,b2,hs⟩:=two _ (Or.inl rfl) g;rw[e1,e2,hrd]at g1;obtain⟨k2,R2,p1,p2,p3⟩:=HGo.alu (rd:=rd) (Or.inl h1) g1 Wq1 ea eb a2 b2;obtain⟨q,q1,q2⟩:=uR (Or.inl h1) a2 b2;have hv:lr D Rr V ⟨3,dst,xa,xb,imm⟩=xK imm a b:=by
      show(jR imm (V.getD xa.toNat 0) (V.getD xb.toNat 0)).1=_;rw[va,vb];unfold xK;rw[show(imm==25)=false by simp;omega];rfl
    rw[hv];exact fin _ _ _ (by rw[hrd];exact p1) p2 Wq1 (λj h1 h2=>by rw[p3 j gW,hs j gW])
  have g:HGo C k (kf pl xa 7++(kf pl xb 8++(mI imm (eG pl xa 7) (eG pl xb 8)++(⟨2,eG pl n 9,10,0,0⟩::(jd pl n (eG pl n 9)++l))))) R W M:=by
    have e:r8 Wc Wd pl n ⟨4,dst,xa,xb,imm⟩++l=kf pl xa 7++(kf pl xb 8++(mI imm (eG pl xa 7) (eG pl xb 8)++(⟨2,eG pl n 9,10,0,0⟩::(jd pl n (eG pl n 9)++l)))):=by
      show((kf pl xa 7++(kf pl xb 8++(mI imm (eG pl xa 7) (eG pl xb 8)++[⟨2,eG pl n 9,10,0,0⟩])))++jd pl n (eG pl n 9))++l=_;simp only[aq,aP,aR]
    rwa[e]at h
  obtain⟨k1,R1,ra,rb,a,b,g1,e1,e2,ha,hbb,ea,eb,va,vb,a2,b2,hs⟩:=two _ (Or.inr rfl) g;rw[e1,e2]at g1;obtain⟨k2,R2,p1,p2,p3⟩:=HGo.flag h1 g1 ha hbb (by rw[hs 15 bX,hb.z]) ea eb a2 b2;have hfl:=Pd a2 b2 h1;have hv:lr D Rr V ⟨4,dst,xa,xb,imm⟩=(jR imm a b).2.1:=by
    show(jR imm (V.getD xa.toNat 0) (V.getD xb.toNat 0)).2.1=_;rw[va,vb]
  rw[hv];rw[hrd]at p1;have p4:=HGo.mov (rd:=rd) (ra:=10) p1;rw[p2]at p4;exact fin _ _ _ (by rw[hrd];exact p4) (de (by rw[p1.rl];omega)) Wq1 (λj h1 h2=>by rw[cS (λe=>h1 e.symm),p3 j gW,hs j gW])
end
theorem nm1{a b:Nat}(h:a≠b):a∉[b]:=by grind
structure QG(pl:Pl)(T:Li)(N:Nat):Prop where
 has:∀n:Nat,n<N->pl.has n
 reg:∀i j:Nat,i<j->j<N->pl.inR i=true->pl.inR j=true->pl.r i=pl.r j->T.getD i 0<=j
 slot:∀i j:Nat,i<j->j<N->pl.inR i=false->pl.inR j=false->pl.s i=pl.s j->T.getD i 0<=j
def Jp(pl:Pl)(T V:Li)(n:Nat)(R W:Li):Prop:=∀a:Nat,a<n->(n:Int)<=T.getD a 0->Lo pl R W a (V.getD a 0)
section
variable {C l:List HI} {k:Nat} {R W:Li} {M:HM} {pl:Pl} {D Rr:Li} {Wc Wd:Int} {T:Li}
variable{x:II}{n:Nat}
theorem Mg{V V':Li}(hx:x.ok Wc Wd n)(h:∀a:Nat,a<n->V.getD a 0=V'.getD a 0):lr D Rr V x=lr D Rr V' x:=by
 have hop:=hx.op;have hab:=hx.ab;obtain⟨op,dst,a,b,imm⟩:=x;dsimp only at hop hab;rcases hop with rfl|⟨rfl, -⟩|⟨rfl, -⟩|⟨rfl, -⟩|⟨rfl, -⟩
 .rfl
 .rfl
 .rfl
 .obtain⟨h1,h2⟩:=hab (Or.inl rfl);show(jR imm (V.getD a.toNat 0) (V.getD b.toNat 0)).1=(jR imm (V'.getD a.toNat 0) (V'.getD b.toNat 0)).1
  grind
 obtain⟨h1,h2⟩:=hab (Or.inr rfl);show(jR imm (V.getD a.toNat 0) (V.getD b.toNat 0)).2.1=(jR imm (V'.getD a.toNat 0) (V'.getD b.toNat 0)).2.1
 grind
def OkC(Wc Wd:Int)(code:List II):Prop:=∀(n:Nat) (x:II),code[n]? =some x->x.ok Wc Wd n
variable{pre suf:List II}
theorem OkC.app(h:OkC Wc Wd (pre++suf)):OkC Wc Wd pre:=λn x hx=>h n x bY
theorem OkC.last(h:OkC Wc Wd (pre++[x])):x.ok Wc Wd pre.length:=h pre.length x cP
theorem Q0{V:Li}(hx:x.ok Wc Wd n)(hD:wds D)(hR:wds Rr)(hV:wds V):0<=lr D Rr V x/\lr D Rr V x<=4294967295:=by
 have hop:=hx.op;have hi:=hx.imm;obtain⟨op,dst,a,b,imm⟩:=x;dsimp only at hop hi;obtain⟨x,hx1,hx2⟩:=nk hV a.toNat;obtain⟨y,hy1,hy2⟩:=nk hV b.toNat;rcases hop with rfl|⟨rfl, -⟩|⟨rfl, -⟩|⟨rfl,h1⟩|⟨rfl,h1⟩
 .exact hi
 .exact iN hD _
 .exact iN hR _
 .show 0<=(jR imm (V.getD a.toNat 0) (V.getD b.toNat 0)).1/\(jR imm (V.getD a.toNat 0) (V.getD b.toNat 0)).1<=4294967295;obtain⟨r,hr,hr2⟩:=uR (Or.inl h1) hx2 hy2
  grind [jR,xK]
 show 0<=(jR imm (V.getD a.toNat 0) (V.getD b.toNat 0)).2.1/\(jR imm (V.getD a.toNat 0) (V.getD b.toNat 0)).2.1<=4294967295;rw[hx1,hy1];have:=Pd hx2 hy2 h1;omega
theorem QZ(code:List II)(hD:wds D)(hR:wds Rr)(h:OkC Wc Wd code):wds (WE D Rr code):=by
 revert h;refine Ab (p:=λcode=>OkC Wc Wd code->wds (WE D Rr code)) (λ_ x hx=>by cases hx) (λl x ih h=>?_) code;rw[lM];intro y hy;rcases az.1 hy with h1|h1
 .exact ih h.app y h1
 rw[aC.1 h1];exact Q0 h.last hD hR (ih h.app)
theorem vals_at(h:OkC Wc Wd (pre++x::suf)):(WE D Rr (pre++x::suf)).getD pre.length 0=lr D Rr (WE D Rr (pre++x::suf)) x:=by
 have h2:pre++x::suf=(pre++[x])++suf:=by simp
 rw[h2]at h|-;obtain⟨m,hm⟩:=GX (D:=D) (R:=Rr) (pre++[x]) suf;have e1:(WE D Rr (pre++[x])).length=pre.length+1:=by rw[uu];simp
 have e0:(WE D Rr pre).length=pre.length:=uu _;have e2:∀a:Nat,a<pre.length->(WE D Rr pre).getD a 0=(WE D Rr ((pre++[x])++suf)).getD a 0:=λa ha=>by
  grind [lM]
 rw[<-Mg (OkC.last (OkC.app h)) e2,hm,lM]
 grind
theorem HGo.all{V:Li}{N:Nat}(hp:QG pl T N)(hD:wds D)(hR:wds Rr)(hV:wds V):∀(suf:List II) (n:Nat) (k:Nat) (R W:Li),HGo C k (ka Wc Wd pl suf n++l) R W M->n+suf.length=N->
  (∀i x,suf[i]? =some x->x.ok Wc Wd (n+i)/\V.getD (n+i) 0=lr D Rr V x/\(x.op=3\/x.op=4->((n+i:Nat):Int)<=T.getD x.a.toNat 0/\((n+i:Nat):Int)<=T.getD x.b.toNat 0))->
  Vi D Rr Wc Wd R W->Jp pl T V n R W->∃k' R' W',HGo C k' l R' W' M/\Vi D Rr Wc Wd R' W'/\Jp pl T V N R' W'/\∀j,j<64->W'.getD j 0=W.getD j 0
 |[],n,k,R,W,h,hN,hx,hb,hh=>⟨k,R,W,h,hb,bY,λ_ _=>rfl⟩
 |x::suf,n,k,R,W,h,hN,hx,hb,hh=>by
  have hN':n+1+suf.length=N:=by rw[<-hN];simp;omega
  obtain⟨x1,x2,x3⟩:=hx 0 x rfl;rw[Nat.add_zero]at x1 x2 x3;have h:HGo C k (r8 Wc Wd pl n x++(ka Wc Wd pl suf (n+1)++l)) R W M:=by
   have e:ka Wc Wd pl (x::suf) n++l=r8 Wc Wd pl n x++(ka Wc Wd pl suf (n+1)++l):=by show(r8 Wc Wd pl n x++ka Wc Wd pl suf (n+1))++l=_;rw[aq]
   rwa[e]at h
  have hn:=hp.has n Wq1;have hab:x.op=3\/x.op=4->(pl.has x.a/\Lo pl R W x.a (V.getD x.a.toNat 0))/\(pl.has x.b/\Lo pl R W x.b (V.getD x.b.toNat 0)):=λho=>by
   obtain⟨⟨a1,a2⟩,b1,b2⟩:=x1.ab ho;obtain⟨t1,t2⟩:=x3 ho;have ea:((x.a.toNat:Nat):Int)=x.a:=by omega
   have eb:((x.b.toNat:Nat):Int)=x.b:=by omega
   have ha:=hh x.a.toNat Wq1 t1;have hb:=hh x.b.toNat Wq1 t2;have pa:=hp.has x.a.toNat Wq1;have pb:=hp.has x.b.toNat Wq1
   grind
  obtain⟨k1,R1,W1,g1,g2,g3,g4,g5⟩:=HGo.one h x1 hb hD hR hV hn hab;have hold:Jp pl T V (n+1) R1 W1:=λa ha ht=>by
   by_cases e:a=n
   .grind
   have h1:=hh a Wq1 Wq1;have hlt:a<n:=by omega
   refine⟨λhi=>?_,λhi=>?_⟩
   .rw[g4 _ ?_ ?_];exact h1.1 hi
    .rcases hp.has a (by omega)with⟨-,q⟩|⟨q, -⟩
     .omega
     grind
    intro hin e2;have:=hp.reg a n hlt Wq1 hi hin (by
     grind [Pl.inR])
    omega
   rw[g5 _ ?_];exact h1.2 hi;cases hin:pl.inR n with
   |true=>grind
   |false=>
    refine Or.inr λe2=>?_
    have s1:0<=pl.s a:=by rcases hp.has a (by omega)with⟨q, -⟩|⟨-,q, -⟩;rw[hi]at q;cases q;exact q
    have s2:0<=pl.s n:=by rcases hn with⟨q, -⟩|⟨-,q, -⟩;rw[hin]at q;cases q;exact q
    have:=hp.slot a n hlt Wq1 hi hin Wq1;omega
  obtain⟨k2,R2,W2,q1,q2,q3,q4⟩:=HGo.all hp hD hR hV suf (n+1) k1 R1 W1 g1 hN' (λi y hy=>by
   have:=hx (i+1) y bY
   grind) g3 hold
  grind
theorem HGo.outs{V:Li}{N base B from_:Nat}(hp:QG pl T N)(hV:wds V)(hbase:base=13\/base=14)(hfr:from_=4\/from_=20):∀(out:Li) (j:Nat) (k:Nat) (R W:Li),HGo C k (AY pl base from_ out j++l) R W M->
  (∀n,n∈out->0<=n/\n<N/\(N:Int)<=T.getD n.toNat 0)->B+j+out.length<=16->R.getD base 0=(B:Int)->R.getD 15 0=0->Jp pl T V N R W->
  ∃k' R' W',HGo C k' l R' W' M/\kV [7] R R'/\(∀i,(i<from_+B+j\/from_+B+j+out.length<=i)->W'.getD i 0=W.getD i 0)/\(∀i,i<out.length->W'.getD (from_+B+j+i) 0=V.getD (out.getD i 0).toNat 0)
 |[],j,k,R,W,h,ho,hB,hb,h15,hh=>⟨k,R,W,h,kV.refl _ _,λ_ _=>rfl,λi hi=>absurd hi cP⟩
 |n::out,j,k,R,W,h,ho,hB,hb,h15,hh=>by
  obtain⟨n0,n1,n2⟩:=ho n cP;have en:((n.toNat:Nat):Int)=n:=by omega
  have hn:=hp.has n.toNat Wq1;have hl:=hh n.toNat Wq1 n2;rw[en]at hn hl;have hB':B+j+(out.length+1)<=16:=hB;have h:HGo C k (kf pl n 7++(⟨15,0,(base:Int),eG pl n 7,IntKind.u32.wrap ((from_:Int)+IntKind.u32.wrap (j:Int))⟩::(AY pl base from_ out (j+1)++l))) R W M:=by
   have e:AY pl base from_ (n::out) j++l=kf pl n 7++(⟨15,0,(base:Int),eG pl n 7,IntKind.u32.wrap ((from_:Int)+IntKind.u32.wrap (j:Int))⟩::(AY pl base from_ out (j+1)++l)):=by
    show(kf pl n 7++(_::AY pl base from_ out (j+1)))++l=_;rw[aq,aP]
   rwa[e]at h
  obtain⟨r,hr,hr2⟩:=mG hn (into:=7) Wq1;have hr:eG pl n 7=(r:Int):=hr;obtain⟨v,hv,hv2⟩:=nk hV n.toNat;rw[hv]at hl;obtain⟨k1,R1,g1,g2,g3⟩:=HGo.get (into:=7) h hn Wq1 hr h15 hl;rw[hr]at g1;have hb1:R1.getD base 0=(B:Int):=by rw[g3 base gW,hb]
  have g4:=HGo.st (ra:=base) (rb:=r) (p:=from_+B+j) (v:=(v:Int)) g1 (by grind [IntKind.wrap_u32,IntKind.wrap_u64]) Wq1 (by grind [IntKind.wrap_u32]);have hold:Jp pl T V N R1 (W.set (from_+B+j) v):=λa ha ht=>by
   have h1:=hh a ha ht;have h2:=hp.has a ha;refine⟨λhi=>?_,λhi=>?_⟩
   .rw[g3 _ ?_];exact h1.1 hi;rcases h2 with⟨-,q⟩|⟨q, -⟩
    .grind
    grind
   rw[cS Wq1];exact h1.2 hi
  obtain⟨k2,R2,W2,q1,q2,q3,q4⟩:=HGo.outs hp hV hbase hfr out (j+1) _ R1 _ g4 (λm hm=>ho m (by simp[hm])) Wq1 hb1 (by rw[g3 15 bX,h15]) hold;have hw:=h.wl;refine⟨k2,R2,W2,q1,g3.trans q2 bY,λi hi=>?_,λi hi=>?_⟩
  .grind [cS]
  cases i with
  |zero=>
   grind [de]
  |succ i=>
   grind
theorem HGo.stack{V:Li}{N base B from_ word:Nat}{out:Li}(hp:QG pl T N)(hV:wds V)(hbase:base=13\/base=14)(hfr:from_=4\/from_=20)(hw:word=2\/word=3)(h:HGo C k (iZ pl base from_ word out++l) R W M)
  (ho:∀n,n∈out->0<=n/\n<N/\(N:Int)<=T.getD n.toNat 0) (hB:B+out.length<=16) (hb:R.getD base 0=(B:Int)) (h15:R.getD 15 0=0) (hh:Jp pl T V N R W):
  ∃k' R' W',HGo C k' l R' W' M/\kV [7,11] R R'/\(∀i,i≠word->(i<from_+B\/from_+B+out.length<=i)->W'.getD i 0=W.getD i 0)/\(∀i,i<out.length->W'.getD (from_+B+i) 0=V.getD (out.getD i 0).toNat 0)/\W'.getD word 0=((B+out.length:Nat):Int)/\Jp pl T V N R' W':=by
 have h:HGo C k (AY pl base from_ out 0++(⟨1,11,0,0,IntKind.u32.wrap (out.length:Int)⟩::⟨3,11,11,(base:Int),0⟩::⟨15,0,15,11,(word:Int)⟩::l)) R W M:=by
  have e:iZ pl base from_ word out++l=AY pl base from_ out 0++(⟨1,11,0,0,IntKind.u32.wrap (out.length:Int)⟩::⟨3,11,11,(base:Int),0⟩::⟨15,0,15,11,(word:Int)⟩::l):=by
   unfold iZ;simp only[aq,aP,aR]
  rwa[e]at h
 obtain⟨k1,R1,W1,g1,g2,g3,g4⟩:=HGo.outs hp hV hbase hfr out 0 k R W h ho Wq1 hb h15 hh;have hl:=g1.rl;have hl2:=g1.wl;have a1:=HGo.li (rd:=11) g1;have a2:=HGo.op (rd:=11) (ra:=11) (rb:=base) (v:=((B+out.length:Nat):Int)) a1 bX bX (by
  rw[de Wq1,cS Wq1,g2 base gW,hb];show IntKind.u64.wrap (IntKind.u32.wrap (out.length:Int)+(B:Int))=_;rw[aG,aU];omega)
 have a3:=HGo.st (ra:=15) (rb:=11) (p:=word) (v:=((B+out.length:Nat):Int)) a2 (by rw[cS bX,cS bX,g2 15 bX,h15,aU];omega) Wq1 (by grind [de,IntKind.wrap_u32]);refine⟨_,_,_,a3,?_,λi h1 h2=>?_,λi hi=>?_,de Wq1,λa ha ht=>?_⟩
 .intro j hj;simp only[aJ,aY,or_false,not_or]at hj;rw[cS Wq1,cS Wq1,g2 j gW]
 .grind
 .grind [cS]
 have h1:=hh a ha ht;have h2:=hp.has a ha;refine⟨λhi=>?_,λhi=>?_⟩
 .have q1:0<=pl.r a:=by unfold Pl.inR at hi;simpa using hi
  have q2:pl.r a<7:=by rcases h2 with⟨-,q⟩|⟨q, -⟩;exact q;rw[hi]at q;cases q
  rw[cS Wq1,cS Wq1,g2 _ (nm1 Wq1)];exact h1.1 hi
 rw[cS Wq1,g3 _ Wq1];exact h1.2 hi
theorem HGo.room{base word e:Nat}{Wi Wz:Int}(h:HGo C k (qq e base word Wi Wz++l) R W M)(hbase:base=13\/base=14)(hw:word=2\/word=3)(h15:R.getD 15 0=0)(hn:W.getD word 0=(n:Int))(hn2:n<=16)(h0:0<=Wi/\Wi<=16)(hm:0<=Wz/\Wz<=4294967295)
  (he:C.drop e=[⟨19,0,0,0,2⟩]):Wi<=n/\(n:Int)<=Wz/\∃k' R',HGo C k' l R' W M/\R'.getD base 0=(n:Int) - Wi/\kV [base,11,12] R R':=by
 have hl:=h.rl;have no:∀(R1:Li),¬HGo C e [⟨19,0,0,0,2⟩] R1 W M:=λR1 g=>by have:=(HGo.exit g).1;cases this
 have a1:=HGo.ld (rd:=base) (ra:=15) (p:=word) h (by grind [IntKind.wrap_u64]) Wq1;rw[hn]at a1;have a2:=HGo.li (rd:=11) a1;have e11:((R.set base (n:Int)).set 11 (IntKind.u32.wrap Wi)).getD 11 0=Wi:=by rw[de bY,aG];omega
 have eb:((R.set base (n:Int)).set 11 (IntKind.u32.wrap Wi)).getD base 0=n:=by rw[cS Wq1,de Wq1]
 have a3:=HGo.op (rd:=12) (ra:=base) (rb:=11) (v:=b2i (decide ((n:Int)<Wi))) a2 bX bX (by rw[e11,eb];rfl);have b3:(((R.set base (n:Int)).set 11 (IntKind.u32.wrap Wi)).set 12 (b2i (decide ((n:Int)<Wi)))).getD 12 0=b2i (decide ((n:Int)<Wi)):=de bY;have a4:=HGo.bnez (ra:=12) a3 he;rw[b3]at a4;rcases a4 with⟨c1,a4⟩|⟨-,a4⟩
 .have hlt:Wi<=n:=by
   cases hd:decide ((n:Int)<Wi)with
   |true=>rw[hd]at c1;cases c1
   |false=>grind
  have a5:=HGo.li (rd:=12) a4;have a6:=HGo.op (rd:=12) (ra:=12) (rb:=base) (v:=b2i (decide (Wz<(n:Int)))) a5 bX bX (by
   rw[de bY,cS Wq1,cS Wq1,eb];show b2i (decide (IntKind.u32.wrap Wz<(n:Int)))=_;rw[show IntKind.u32.wrap Wz=Wz by rw[aG];omega])
  have a7:=HGo.bnez (ra:=12) a6 he;rw[de bY]at a7;rcases a7 with⟨c2,a7⟩|⟨-,a7⟩
  .have hle:(n:Int)<=Wz:=by
    cases hd:decide (Wz<(n:Int))with
    |true=>rw[hd]at c2;cases c2
    |false=>grind
   have a8:=HGo.op (rd:=base) (ra:=base) (rb:=11) (v:=(n:Int) - Wi) a7 bX bX (by
    rw[cS Wq1,cS Wq1,cS Wq1,eb,cS bX,cS bX,cS bX,e11];show IntKind.u64.wrap ((n:Int) - Wi)=_;rw[aU];omega)
   refine⟨hlt,hle,_,_,a8,de bY,?_⟩;intro j hj
   grind
  grind
 grind
end
def kb(W:Li)(from_:Nat)(l:Li):Nat->List Int
 |0=>W
 |k+1=>(kb W from_ l k).set (from_+k) (l.getD k 0)
def WW(s:St):List Int:=(kb (kb (((((List.replicate 256 (0:Int)).set 0 s.pc).set 1 s.flags).set 2 (s.d.length:Int)).set 3 (s.r.length:Int)) 4 s.d 16) 20 s.r 16).set 36 0
theorem lT(W:Li)(f:Nat)(l:Li):∀k,(kb W f l k).length=W.length
 :=by intro y1;induction y1<;>simp_all [kb]
theorem Ij(W:Li)(f:Nat)(l:Li):∀k,f+k<=W.length->∀j,j<k->(kb W f l k).getD (f+j) 0=l.getD j 0
 :=by intro y1;induction y1<;>grind [kb,de,lT,cS]
theorem kG(W:Li)(f:Nat)(l:Li):∀k,∀j,(j<f\/f+k<=j)->(kb W f l k).getD j 0=W.getD j 0
 :=by intro y1;induction y1<;>grind [kb,cS]
theorem Hs(s:St):(WW s).length=256:=by unfold WW;simp[lT]
theorem RR(s:St):(WW s).getD 0 0=s.pc/\(WW s).getD 1 0=s.flags/\(WW s).getD 2 0=s.d.length/\(WW s).getD 3 0=s.r.length:=by
 unfold WW;refine⟨?_,?_,?_,?_⟩
 .rw[cS bX,kG _ _ _ _ _ Wq1,kG _ _ _ _ _ Wq1,cS bX,cS bX,cS bX];grind
 .rw[cS bX,kG _ _ _ _ _ Wq1,kG _ _ _ _ _ Wq1,cS bX,cS bX];grind
 .grind [cS,kG,de]
 grind [cS,kG,de]
theorem Vz(s:St)(j:Nat)(hj:j<16):(WW s).getD (4+j) 0=s.d.getD j 0:=by
 unfold WW;rw[cS Wq1,kG _ _ _ _ _ Wq1];exact Ij _ _ _ _ cP j hj
theorem Vy(s:St)(j:Nat)(hj:j<16):(WW s).getD (20+j) 0=s.r.getD j 0:=by
 unfold WW;rw[cS Wq1];exact Ij _ _ _ _ (by simp[lT]) j hj
def Pg.Xs(p:Pg)(V:Li)(f0:Int):Int:=bif decide (0<=p.flags)then V.getD p.flags.toNat 0%16 else f0
def Pg.Xh(p:Pg)(V:Li)(f:Int):Int:=bif decide (0<=p.target)then V.getD p.target.toNat 0 else bif(dw p.branch f).1 then p.taken else p.next
section
variable {C l:List HI} {k:Nat} {R W:Li} {M:HM} {pl:Pl} {T V:Li} {N:Nat}
theorem HGo.pos{pre:List HI}(h:HGo C k l R W M)(hl:l≠[])(hC:C=pre++l):k=pre.length:=by
 grind [h.at_,List.length,List.length_drop,List.length_append,List.length_pos_iff]
theorem Jp.mono{R' W':Li}(hp:QG pl T N)(h:Jp pl T V N R W)(hs:∀j,j<7->R'.getD j 0=R.getD j 0)(hw:∀j,64<=j->W'.getD j 0=W.getD j 0):Jp pl T V N R' W':=λa ha ht=>by
 have h1:=h a ha ht;have h2:=hp.has a ha;refine⟨λhi=>?_,λhi=>?_⟩
 .have q1:0<=pl.r a:=by unfold Pl.inR at hi;simpa using hi
  have q2:pl.r a<7:=by rcases h2 with⟨-,q⟩|⟨q, -⟩;exact q;rw[hi]at q;cases q
  rw[hs _ Wq1];exact h1.1 hi
 rw[hw _ Wq1];exact h1.2 hi
theorem HGo.take7{n:Int}(hp:QG pl T N)(hV:wds V)(h:HGo C k (kf pl n 7++l) R W M)(h15:R.getD 15 0=0)(hh:Jp pl T V N R W)(hn:0<=n/\n<N/\(N:Int)<=T.getD n.toNat 0):
  ∃k' R' r,HGo C k' l R' W M/\eG pl n 7=(r:Nat)/\r<9/\R'.getD r 0=V.getD n.toNat 0/\kV [7] R R':=by
 obtain⟨n0,n1,n2⟩:=hn;have en:((n.toNat:Nat):Int)=n:=by omega
 have h1:=hp.has n.toNat Wq1;have h2:=hh n.toNat Wq1 n2;rw[en]at h1 h2;obtain⟨r,hr,hr2⟩:=mG h1 (into:=7) Wq1
 grind [eG,HGo.get]
theorem Ud{v:Nat}(hv:v<4294967296):bits .and .u64 15 (v:Int)=(v:Int)%16:=by
 have h1:=Qa (a:=15) (b:=v) bX Wq1;rw[show((15:Nat):Int)=15 from rfl]at h1;rw[h1,Nat.and_comm,show(15:Nat)=2^4 - 1 from rfl,Nat.and_two_pow_sub_one_eq_mod];omega
theorem Tp:∀f:Nat,f<16->(bits .and .u64 (f:Int) 1=bits .and .u32 (f:Int) 1/\bits .and .u64 (f:Int) 2=bits .and .u32 (f:Int) 2/\bits .and .u64 (f:Int) 4=bits .and .u32 (f:Int) 4/\bits .and .u64 (f:Int) 8=bits .and .u32 (f:Int) 8):=by decide+kernel
theorem Ox{op f:Int}(hop:33<=op/\op<=37)(hf:0<=f/\f<=15):(dw op f).1=(bif jN op then bits .and .u64 f (gU op) !=0 else bits .and .u64 f (gU op)==0):=by
 obtain⟨n,rfl⟩:∃n:Nat,f=n:=ao hf.1;obtain⟨h1,h2,h3,h4⟩:=Tp n Wq1;have h:op=33\/op=34\/op=35\/op=36\/op=37:=by omega
 rcases h with rfl|rfl|rfl|rfl|rfl
 .show(bits .and .u32 (n:Int) 1 !=0)=(bits .and .u64 (n:Int) 1 !=0);rw[h1]
 .show(bits .and .u32 (n:Int) 1==0)=(bits .and .u64 (n:Int) 1==0);rw[h1]
 .show(bits .and .u32 (n:Int) 4 !=0)=(bits .and .u64 (n:Int) 4 !=0);rw[h3]
 .show(bits .and .u32 (n:Int) 2 !=0)=(bits .and .u64 (n:Int) 2 !=0);rw[h2]
 show(bits .and .u32 (n:Int) 8 !=0)=(bits .and .u64 (n:Int) 8 !=0);rw[h4]
theorem HGo.flagsEnd{p:Pg}{f0:Int}(hp:QG pl T N)(hV:wds V)(h:HGo C k (gM p pl++l) R W M)(h15:R.getD 15 0=0)(hh:Jp pl T V N R W)(hf:0<=p.flags->p.flags<N/\(N:Int)<=T.getD p.flags.toNat 0)(h1:W.getD 1 0=f0):
  ∃k' R' W',HGo C k' l R' W' M/\kV [7,11] R R'/\W'.getD 1 0=p.Xs V f0/\∀i,i≠1->W'.getD i 0=W.getD i 0:=by
 unfold gM at h;unfold Pg.Xs;by_cases hd:0<=p.flags
 .rw[aE hd]at h|-;have h:HGo C k (⟨1,11,0,0,15⟩::(kf pl p.flags 7++(⟨5,11,11,eG pl p.flags 7,0⟩::⟨15,0,15,11,1⟩::l))) R W M:=by
   have e:(⟨1,11,0,0,15⟩::(kf pl p.flags 7++[⟨5,11,11,eG pl p.flags 7,0⟩,⟨15,0,15,11,1⟩]))++l=(⟨1,11,0,0,15⟩::(kf pl p.flags 7++(⟨5,11,11,eG pl p.flags 7,0⟩::⟨15,0,15,11,1⟩::l)):List HI):=by simp
   rw[ai,e]at h;exact h
  have g0:=HGo.li (rd:=11) h;obtain⟨k1,R1,r,g1,g2,g3,g4,g5⟩:=HGo.take7 hp hV g0 bY (hh.mono hp (λj hj=>cS Wq1) (λ_ _=>rfl)) ⟨hd,(hf hd).1,(hf hd).2⟩;obtain⟨v,v1,v2⟩:=nk hV p.flags.toNat;rw[g2]at g1;have hl:=h.rl;have a1:=HGo.op (rd:=11) (ra:=11) (rb:=r) (v:=(v:Int)%16) g1 bX bX (by rw[g5 11 bX,de Wq1,g4,v1];exact Ud v2);have a2:=HGo.st (ra:=15) (rb:=11) (p:=1) (v:=(v:Int)%16) a1 (by rw[cS bX,g5 15 bX,cS bX,h15];rfl) bX (by rw[de (by rw[g1.rl];decide),aG];omega);refine⟨_,_,_,a2,?_,?_,λi hi=>cS (λe=>hi e.symm)⟩
  .intro j hj;simp only[aJ,aY,or_false,not_or]at hj;rw[cS Wq1,g5 j gW,cS Wq1]
  grind [de,h.wl]
 grind [kV.refl]
theorem HGo.XI{p:Pg}{pos:Nat}{f:Int}(h:HGo C k (iz p pos++l) R W M)(hk:p.branch≠0->k=pos)(hps:pos<=100000)(h15:R.getD 15 0=0)(hf:0<=f/\f<=15)(h1:W.getD 1 0=f)(h9:R.getD 9 0=p.next)(hb:p.branch=0\/(33<=p.branch/\p.branch<=37)):
  ∃k' R',HGo C k' l R' W M/\R'.getD 9 0=(bif(dw p.branch f).1 then p.taken else p.next)/\kV [9,11,12] R R':=by
 unfold iz at h;rcases hb with hb|hb
 .rw[hb]at h|-;exact⟨k,R,h,h9,kV.refl _ _⟩
 rw[show(p.branch !=0)=true by simp;omega,ai]at h;have hk:=hk Wq1;have hl:=h.rl;have a1:=HGo.ld (rd:=11) (ra:=15) (p:=1) h (by rw[h15];rfl) bX;have a2:=HGo.li (rd:=12) a1;rw[h1]at a2;have hbit:=Ox hb hf;obtain⟨q,hq⟩:=Zgn (bits .and .u64 f (gU p.branch));rw[hq]at hbit;have a3:=HGo.op (rd:=11) (ra:=11) (rb:=12) (v:=q) a2 bX bX (by rw[cS bX,de Wq1,de bY];exact hq);have e11:(((R.set 11 f).set 12 (gU p.branch)).set 11 q).getD 11 0=q:=de bY;have e9:(((R.set 11 f).set 12 (gU p.branch)).set 11 q).getD 9 0=p.next:=by rw[cS bX,cS bX,cS bX,h9]
 have ew:IntKind.u32.wrap (((pos+3:Nat):Int)+2)=((pos+5:Nat):Int):=by rw[aG];omega
 rw[ew]at a3;have hdrop:C.drop (pos+5)=l:=by
  have:=h.at_;rw[hk]at this;have h5:=congrArg (List.drop 5) this;rw[List.drop_drop]at h5;exact h5
 have same:kV [9,11,12] R (((R.set 11 f).set 12 (gU p.branch)).set 11 q):=by
  intro j hj;simp only[aJ,aY,or_false,not_or]at hj;rw[cS Wq1,cS Wq1,cS Wq1]
 have goOn:∀{k2:Nat},HGo C k2 (⟨1,9,0,0,p.taken⟩::l) (((R.set 11 f).set 12 (gU p.branch)).set 11 q) W M->(dw p.branch f).1=true->∃k' R',HGo C k' l R' W M/\R'.getD 9 0=(bif(dw p.branch f).1 then p.taken else p.next)/\kV [9,11,12] R R':=λg he=>by
  refine⟨_,_,HGo.li (rd:=9) g,?_,same.trans (kV.set _ 9 _ (e:=[9]) cP) bY⟩
  grind
 have stay:HGo C (pos+5) l (((R.set 11 f).set 12 (gU p.branch)).set 11 q) W M->(dw p.branch f).1=false->∃k' R',HGo C k' l R' W M/\R'.getD 9 0=(bif(dw p.branch f).1 then p.taken else p.next)/\kV [9,11,12] R R':=λg he=>
  ⟨_,_,g,by grind,same⟩
 cases hs:jN p.branch with
 |true=>
  rw[hs]at a3 hbit;have a4:=HGo.beqz (ra:=11) a3 hdrop;rw[e11]at a4;rcases a4 with⟨c,g⟩|⟨c,g⟩
  .exact goOn g bY
  grind
 |false=>
  rw[hs]at a3 hbit;have a4:=HGo.bnez (ra:=11) a3 hdrop;rw[e11]at a4;rcases a4 with⟨c,g⟩|⟨c,g⟩
  .exact goOn g bY
  grind
structure PgOk(p:Pg)(T:Li):Prop where
 code:OkC p.Wc p.Wd p.code
 uses:∀(n:Nat) (x:II),p.code[n]? =some x->x.op=3\/x.op=4->(n:Int)<=T.getD x.a.toNat 0/\(n:Int)<=T.getD x.b.toNat 0
 Wo:∀n,n∈p.Wo->0<=n/\n<p.code.length/\(p.code.length:Int)<=T.getD n.toNat 0
 Wp:∀n,n∈p.Wp->0<=n/\n<p.code.length/\(p.code.length:Int)<=T.getD n.toNat 0
 flags:0<=p.flags->p.flags<p.code.length/\(p.code.length:Int)<=T.getD p.flags.toNat 0
 target:0<=p.target->p.target<p.code.length/\(p.code.length:Int)<=T.getD p.target.toNat 0
 branch:p.branch=0\/(33<=p.branch/\p.branch<=37)
 n64:p.code.length<=64
 Wc:0<=p.Wc/\p.Wc<=16
 Wd:0<=p.Wd/\p.Wd<=16
 WH:0<=p.WH/\p.WH<=16
 WK:0<=p.WK/\p.WK<=16
 next:0<=p.next/\p.next<=4294967295
 taken:0<=p.taken/\p.taken<=4294967295
 count:1<=p.count/\p.count<=8
theorem HGo.fin{p:Pg}{pos:Nat}{f0:Int}(ok:PgOk p T)(hN:N=p.code.length)(hp:QG pl T N)(hV:wds V)(h:HGo C k (uN p pl pos++l) R W M)(hk:k=pos)(hl:l≠[])(hps:pos<=10000)(h15:R.getD 15 0=0)(hh:Jp pl T V N R W)(h1:W.getD 1 0=f0)(hf0:0<=f0/\f0<=15):
  M.words.getD 0 0=p.Xh V (p.Xs V f0)/\M.words.getD 1 0=p.Xs V f0/\M.words.getD 36 0=p.count/\∀i,i≠0->i≠1->i≠36->M.words.getD i 0=W.getD i 0:=by
 subst hN;have hfl:=ok.flags;have htg:=ok.target;have hbr:=ok.branch;have hnx:=ok.next
 have htk:=ok.taken;have hct:=ok.count;have hC:C=C.take k++(uN p pl pos++l):=by rw[<-h.at_];exact(List.take_append_drop k C).symm
 obtain⟨rest,hrest⟩:∃rest,rest=jJ p pl++(⟨15,0,15,9,0⟩::⟨1,11,0,0,IntKind.u32.wrap p.count⟩::⟨15,0,15,11,36⟩::⟨19,0,0,0,1⟩::l):=⟨_,rfl⟩;have e1:uN p pl pos++l=gM p pl++(⟨1,9,0,0,p.next⟩::(iz p (pos+(gM p pl).length+1)++rest)):=by
  rw[hrest];unfold uN;simp
 have hkl:C.length=k+(uN p pl pos++l).length:=by
  have h2:=h.at_;have h3:=congrArg List.length h2;rw[bH]at h3;have h4:0<(uN p pl pos++l).length:=by rw[aj];have:=List.length_pos_iff.2 hl;omega
  omega
 rw[e1]at h hkl;obtain⟨k1,R1,W1,g1,g2,g3,g4⟩:=HGo.flagsEnd hp hV h h15 hh hfl h1;have a1:=HGo.li (rd:=9) g1;have hf:0<=p.Xs V f0/\p.Xs V f0<=15:=by
  unfold Pg.Xs;cases decide (0<=p.flags)with
  |true=>grind
  |false=>exact hf0
 have hrl:=h.rl;have hfle:(gM p pl).length<=5:=by
  unfold gM;cases decide (0<=p.flags)with
  |false=>grind
  |true=>
   grind [kf]
 obtain⟨k2,R2,b1,b2,b3⟩:=HGo.XI (pos:=pos+(gM p pl).length+1) a1 (λhb=>by
   have h5:k1+1=_:=rfl;have h6:=congrArg List.length a1.at_
   grind) Wq1 (by rw[cS bX,g2 15 bX,h15]) hf g3 (de (by rw[g1.rl];decide)) hbr
 have h15':R2.getD 15 0=0:=by rw[b3 15 bX,cS bX,g2 15 bX,h15]
 have hold2:Jp pl T V p.code.length R2 W1:=hh.mono hp (λj hj=>by rw[b3 j gW,cS Wq1,g2 j gW]) (λj hj=>g4 j Wq1);have tgt:∃k3 R3,HGo C k3 (⟨15,0,15,9,0⟩::⟨1,11,0,0,IntKind.u32.wrap p.count⟩::⟨15,0,15,11,36⟩::⟨19,0,0,0,1⟩::l) R3 W1 M/\R3.getD 9 0=p.Xh V (p.Xs V f0)/\R3.getD 15 0=0:=by
  rw[hrest]at b1;unfold jJ at b1;unfold Pg.Xh;by_cases hd:0<=p.target
  .rw[aE hd]at b1|-;have b1:HGo C k2 (kf pl p.target 7++(⟨2,9,eG pl p.target 7,0,0⟩::(⟨15,0,15,9,0⟩::⟨1,11,0,0,IntKind.u32.wrap p.count⟩::⟨15,0,15,11,36⟩::⟨19,0,0,0,1⟩::l))) R2 W1 M:=by
    rw[ai,aq]at b1;exact b1
   obtain⟨k3,R3,r,c1,c2,c3,c4,c5⟩:=HGo.take7 hp hV b1 h15' hold2 ⟨hd,(htg hd).1,(htg hd).2⟩;rw[c2]at c1;have c6:=HGo.mov (rd:=9) (ra:=r) c1;rw[c4]at c6;exact⟨_,_,c6,de (by rw[c1.rl];decide),by rw[cS bX,c5 15 bX,h15']⟩
  grind
 obtain⟨k3,R3,d1,d2,d3⟩:=tgt;have hpc:0<=p.Xh V (p.Xs V f0)/\p.Xh V (p.Xs V f0)<=4294967295:=by
  unfold Pg.Xh;cases decide (0<=p.target)with
  |true=>exact iN hV _
  |false=>grind
 have hl3:=d1.rl;have hw3:=d1.wl;have x1:=HGo.st (ra:=15) (rb:=9) (p:=0) (v:=p.Xh V (p.Xs V f0)) d1 (by rw[d3];rfl) bX (by grind [IntKind.wrap_u32]);have x2:=HGo.li (rd:=11) x1;have x3:=HGo.st (ra:=15) (rb:=11) (p:=36) (v:=p.count) x2 (by rw[cS bX,d3];rfl) bX (by grind [de,IntKind.wrap_u32]);have x4:=HGo.exit x3
 grind
end
section
variable {pl:Pl}
theorem Bw(n into:Int):(kf pl n into).length<=1:=by grind [kf]
theorem SQ(n r:Int):(jd pl n r).length<=1:=by grind [jd]
theorem Qd(op rd a b:Int):(zI op rd a b).length<=3:=by grind [zI,Ba,VE]
theorem To(op a b:Int):(mI op a b).length<=21:=by
 have h:=Qd op 9 a b;unfold mI fS;cases op==16 with
 |true=>simp[kM,gV,iq,yi];omega
 |false=>
  grind [kL,gV,iq,yi]
theorem oneL_le(nd nr:Int)(n:Int)(x:II):(r8 nd nr pl n x).length<=25:=by
 grind [SQ,eG,Bw,Qd,To,r8]
theorem SB(nd nr:Int):∀(c:List II) (n:Nat),(ka nd nr pl c n).length<=25*c.length
 :=by intro y1;induction y1<;>grind [oneL_le,r8,ka]
theorem outL_le(base f:Int):∀(c:Li) (n:Nat),(AY pl base f c n).length<=2*c.length
 :=by intro y1;induction y1<;>grind [Bw,kf,AY]
theorem endL_le(p:Pg)(pos:Nat):(uN p pl pos).length<=20:=by
 have h1:(gM p pl).length<=4:=by
  unfold gM;have:=Bw (pl:=pl) p.flags 7;cases decide (0<=p.flags)with
  |true=>simp;omega
  |false=>simp
 have h2:∀q,(iz p q).length<=5:=λq=>by grind [iz]
 grind [jJ,Bw,gM,uN]
theorem work_le{p:Pg}(hn:p.code.length<=64)(hD:p.Wo.length<=16)(hR:p.Wp.length<=16):(iY p pl).length<=2000:=by
 grind [SB,outL_le,iY,iZ]
end
structure Left(p:Pg)(V:Li)(s:St)(W:Li):Prop where
 Wc:p.Wc<=s.d.length
 WH:(s.d.length:Int)+p.WH<=16
 Wd:p.Wd<=s.r.length
 WK:(s.r.length:Int)+p.WK<=16
 pc:W.getD 0 0=p.Xh V (p.Xs V s.flags)
 flags:W.getD 1 0=p.Xs V s.flags
 Xx:W.getD 2 0=((s.d.length - p.Wc.toNat+p.Wo.length:Nat):Int)
 lenR:W.getD 3 0=((s.r.length - p.Wd.toNat+p.Wp.length:Nat):Int)
 fitD:s.d.length - p.Wc.toNat+p.Wo.length<=16
 fitR:s.r.length - p.Wd.toNat+p.Wp.length<=16
 lowD:∀i,i<s.d.length - p.Wc.toNat->W.getD (4+i) 0=s.d.getD i 0
 newD:∀i,i<p.Wo.length->W.getD (4+(s.d.length - p.Wc.toNat)+i) 0=V.getD (p.Wo.getD i 0).toNat 0
 lowR:∀i,i<s.r.length - p.Wd.toNat->W.getD (20+i) 0=s.r.getD i 0
 newR:∀i,i<p.Wp.length->W.getD (20+(s.r.length - p.Wd.toNat)+i) 0=V.getD (p.Wp.getD i 0).toNat 0
 count:W.getD 36 0=p.count
theorem Dl{Wi high:Int}{out:Nat}:i3 Wi high out<=16 - high/\i3 Wi high out<=16+Wi - out:=by
 grind [i3]
theorem Dm{Wi high:Int}{out:Nat}(h0:0<=Wi/\Wi<=16)(h1:0<=high/\high<=16):i3 Wi high out<=16/\(out<=16->0<=i3 Wi high out):=by
 grind [i3]
variable{T:Li}{pl:Pl}
theorem Ty{p:Pg}{s:St}{M:HM}(ok:PgOk p T)(hp:QG pl T p.code.length)(hs:s.right=true)(hw:s.wf)(h:HGo (gl p pl) 0 (gl p pl) (List.replicate 16 0) (WW s) M):
  Left p (WE s.d s.r p.code) s M.words:=by
 obtain⟨hd16,hr16, -⟩:=St.fits hs;have hf15:0<=s.flags/\s.flags<=15:=⟨hw.flags.1,by grind [St.right]⟩;have hD:wds s.d:=λx hx=>hw.d x hx
 have hR:wds s.r:=λx hx=>hw.r x hx
 have hV:wds (WE s.d s.r p.code):=QZ p.code hD hR ok.code;obtain⟨w0,w1,w2,w3⟩:=RR s;obtain⟨e,he⟩:=Zgn ((fG p pl 0).length);have hnd:=ok.Wc;have hnr:=ok.Wd;have hhd:=ok.WH;have hhr:=ok.WK;cases hrd:p.Xf with
 |false=>
  have hb:∀e,fG p pl e=[⟨1,15,0,0,0⟩]:=λe=>by grind [fG]
  unfold gl at h;rw[hb]at h;have:=(HGo.exit (HGo.li (rd:=15) h)).1;cases this
 |true=>
 have hmD:p.Wc<=p.Xl:=by unfold Pg.Xf at hrd;simp at hrd;exact hrd
 have hmD2:=Dl (Wi:=p.Wc) (high:=p.WH) (out:=p.Wo.length);have hmD3:=Dm (Wi:=p.Wc) (high:=p.WH) (out:=p.Wo.length) hnd hhd;have hmD0:p.Xl=i3 p.Wc p.WH p.Wo.length:=rfl;cases hrr:p.Xi with
 |false=>
  have hb:∀e,fG p pl e=⟨1,15,0,0,0⟩::qq e 14 2 p.Wc p.Xl:=λe=>by grind [fG]
  have h9:IntKind.u32.wrap ((fG p pl 0).length:Nat)=((9:Nat):Int):=by rw[hb];rfl
  unfold gl at h;rw[h9,hb]at h;have g:=HGo.li (rd:=15) h;obtain⟨-, -,k',R',g1, -⟩:=HGo.room (base:=14) (word:=2) (n:=s.d.length) (e:=9) (l:=[⟨19,0,0,0,2⟩]) (by exact g) Wq1 Wq1 (de cP) (by rw[w2]) hd16 hnd Wq1 rfl;have:=(HGo.exit g1).1;cases this
 |true=>
 have hmR:p.Wd<=p.Xw:=by unfold Pg.Xi at hrr;simp at hrr;exact hrr
 have hmR2:=Dl (Wi:=p.Wd) (high:=p.WK) (out:=p.Wp.length);have hmR3:=Dm (Wi:=p.Wd) (high:=p.WK) (out:=p.Wp.length) hnr hhr;have hmR0:p.Xw=i3 p.Wd p.WK p.Wp.length:=rfl;have hoD:p.Wo.length<=16:=by omega
 have hoR:p.Wp.length<=16:=by omega
 have hb:∀e,fG p pl e=wD p e++(iY p pl++uN p pl (17+(iY p pl).length)):=λe=>by grind [fG]
 have hwl:=work_le (pl:=pl) ok.n64 hoD hoR;have hel:=endL_le (pl:=pl) p (17+(iY p pl).length);have hh17:∀e,(wD p e).length=17:=λe=>rfl
 have hbl:(fG p pl 0).length=17+((iY p pl).length+(uN p pl (17+(iY p pl).length)).length):=by rw[hb,aj,aj,hh17]
 have hwr:IntKind.u32.wrap ((fG p pl 0).length:Nat)=(e:Int):=by rw[he,aG];omega
 obtain⟨C,hC⟩:=Zgn (gl p pl);rw[hC]at h;have hC2:C=fG p pl (e:Int)++[⟨19,0,0,0,2⟩]:=by rw[<-hC];unfold gl;rw[hwr]
 have hCe:C.drop e=[⟨19,0,0,0,2⟩]:=by
  rw[hC2,List.drop_append_of_le_length bY,List.drop_eq_nil_of_le bY];rfl
 have hC3:C=⟨1,15,0,0,0⟩::(qq e 14 2 p.Wc p.Xl++(qq e 13 3 p.Wd p.Xw++(iY p pl++(uN p pl (17+(iY p pl).length)++[⟨19,0,0,0,2⟩])))):=by
  rw[hC2,hb];unfold wD;simp
 have h1:HGo C 0 (⟨1,15,0,0,0⟩::(qq e 14 2 p.Wc p.Xl++(qq e 13 3 p.Wd p.Xw++(iY p pl++(uN p pl (17+(iY p pl).length)++[⟨19,0,0,0,2⟩]))))) (List.replicate 16 0) (WW s) M:=⟨by grind,h.rl,h.wl,h.ends⟩;have g0:=HGo.li (rd:=15) h1;obtain⟨r1,r2,k1,R1,g1,b1,s1⟩:=HGo.room (base:=14) (word:=2) (n:=s.d.length) g0 Wq1 Wq1 (de cP) (by rw[w2]) hd16 hnd Wq1 hCe;obtain⟨r3,r4,k2,R2,g2,b2,s2⟩:=HGo.room (base:=13) (word:=3) (n:=s.r.length) g1 Wq1 Wq1 (by rw[s1 15 bX];grind) (by rw[w3]) hr16 hnr Wq1 hCe;have hbase:Vi s.d s.r p.Wc p.Wd R2 (WW s):=⟨by rw[s2 15 bX,s1 15 bX];grind,by rw[s2 14 bX,b1],b2,λj hj=>Vz s j Wq1,λj hj=>Vy s j Wq1,hd16,hr16,⟨hnd.1,r1⟩,⟨hnr.1,r3⟩⟩;have g2:HGo C k2 (ka p.Wc p.Wd pl p.code 0++(iZ pl 14 4 2 p.Wo++(iZ pl 13 20 3 p.Wp++(uN p pl (17+(iY p pl).length)++[⟨19,0,0,0,2⟩])))) R2 (WW s) M:=by
  have e:iY p pl++(uN p pl (17+(iY p pl).length)++[⟨19,0,0,0,2⟩])=ka p.Wc p.Wd pl p.code 0++(iZ pl 14 4 2 p.Wo++(iZ pl 13 20 3 p.Wp++(uN p pl (17+(iY p pl).length)++[⟨19,0,0,0,2⟩]))):=by
   rw[show iY p pl=ka p.Wc p.Wd pl p.code 0++(iZ pl 14 4 2 p.Wo++iZ pl 13 20 3 p.Wp)from rfl];simp only[aq]
  rw[e]at g2;exact g2
 obtain⟨V,hVe⟩:=Zgn (WE s.d s.r p.code);have hVal:∀i x,p.code[i]? =some x->x.ok p.Wc p.Wd (0+i)/\V.getD (0+i) 0=lr s.d s.r V x/\(x.op=3\/x.op=4->((0+i:Nat):Int)<=T.getD x.a.toNat 0/\((0+i:Nat):Int)<=T.getD x.b.toNat 0):=λi x hx=>by
  rw[Nat.zero_add];refine⟨ok.code i x hx,?_,ok.uses i x hx⟩;obtain⟨hlt,hxe⟩:=ar.1 hx;have hsp:p.code=p.code.take i++x::p.code.drop (i+1):=by rw[<-hxe,<-List.drop_eq_getElem_cons hlt,List.take_append_drop]
  grind [ok.code,vals_at]
 rw[hVe]at hV;obtain⟨k3,R3,W3,g3,b3,hold,ws3⟩:=HGo.all (N:=p.code.length) (V:=V) hp hD hR hV p.code 0 k2 R2 (WW s) g2 Wq1 hVal hbase (λa ha=>absurd ha Wq1);have hBD:R3.getD 14 0=((s.d.length - p.Wc.toNat:Nat):Int):=by rw[b3.bd];omega
 obtain⟨k4,R4,W4,g4,s4,o4,n4,l4,hold4⟩:=HGo.stack (B:=s.d.length - p.Wc.toNat) hp hV Wq1 Wq1 Wq1 (base:=14) (from_:=4) (word:=2) g3 ok.Wo Wq1 hBD b3.z hold;have hBR:R4.getD 13 0=((s.r.length - p.Wd.toNat:Nat):Int):=by rw[s4 13 bX,b3.br];omega
 obtain⟨k5,R5,W5,g5,s5,o5,n5,l5,hold5⟩:=HGo.stack (B:=s.r.length - p.Wd.toNat) hp hV Wq1 Wq1 Wq1 (base:=13) (from_:=20) (word:=3) g4 ok.Wp Wq1 hBR (by rw[s4 15 bX,b3.z]) hold4;have hpos:k5=17+(iY p pl).length:=by
  have hpre:C=(wD p e++iY p pl)++(uN p pl (17+(iY p pl).length)++[⟨19,0,0,0,2⟩]):=by rw[hC2,hb];simp only[aq]
  have:=HGo.pos g5 cP hpre;rw[this,aj,hh17]
 have e1:W5.getD 1 0=s.flags:=by rw[o5 1 bX Wq1,o4 1 bX Wq1,ws3 1 bX,w1]
 obtain⟨f1,f2,f3,f4⟩:=HGo.fin ok rfl hp hV g5 hpos cP Wq1 (by rw[s5 15 bX,s4 15 bX,b3.z]) hold5 e1 hf15;rw[hVe];exact⟨r1,by omega,r3,by omega,f1,f2,by grind,by grind,by omega,by omega,
  λi hi=>by rw[f4 (4+i) Wq1 Wq1 Wq1,o5 (4+i) Wq1 Wq1,o4 (4+i) Wq1 Wq1,ws3 (4+i) Wq1,Vz s i Wq1],
  λi hi=>by rw[f4 _ Wq1 Wq1 Wq1,o5 _ Wq1 Wq1,n4 i hi],
  λi hi=>by rw[f4 (20+i) Wq1 Wq1 Wq1,o5 (20+i) Wq1 Wq1,o4 (20+i) Wq1 Wq1,ws3 (20+i) Wq1,Vy s i Wq1],
  λi hi=>by rw[f4 _ Wq1 Wq1 Wq1,n5 i hi],f3⟩
def fW(T:Li)(n at_:Int):List Int:=bif decide (0<=n)then T.set n.toNat (if at_>T.getD n.toNat 0 then at_ else T.getD n.toNat 0)else T
def lH(x:II):Bool:=x.op==3||x.op==4
def fj:List II->Nat->List Int->List Int
 |[],_,T=>T
 |x::c,k,T=>fj c (k+1) (bif lH x then fW (fW T x.a k) x.b k else T)
def jW(T:Li)(l:Li)(at_:Int):List Int:=l.foldl (λT n=>fW T n at_) T
def iota(n:Nat):List Int:=(List.range n).map λk:Nat=>(k:Int)
def gg(p:Pg):List Int:=jW (jW (jW (fj p.code 0 (iota p.code.length)) p.Wo p.code.length) p.Wp p.code.length) [p.flags,p.target] p.code.length
def Up(A B:Li):Prop:=B.length=A.length/\∀i,A.getD i 0<=B.getD i 0
theorem Up.refl(A:Li):Up A A:=⟨rfl,λ_=>Int.le_refl _⟩
theorem Up.trans{A B D:Li}(h:Up A B)(k:Up B D):Up A D:=⟨k.1.trans h.1,λi=>Int.le_trans (h.2 i) (k.2 i)⟩
theorem j5(T:Li)(n a:Int):Up T (fW T n a):=by
 unfold fW;cases decide (0<=n)with
 |false=>exact Up.refl T
 |true=>
  refine⟨by grind,λi=>?_⟩
  grind
theorem zT{n a:Int}(h0:0<=n)(h1:n.toNat<T.length):a<=(fW T n a).getD n.toNat 0:=by
 grind [fW,de]
theorem jp:∀(l:Li) (T:Li) (a:Int),Up T (jW T l a)
 |[],T,a=>Up.refl T
 |n::l,T,a=>(j5 T n a).trans (jp l (fW T n a) a)
theorem qc:∀(l:Li) (T:Li) (a:Int),∀n,n∈l->0<=n->n.toNat<T.length->a<=(jW T l a).getD n.toNat 0
 |[],_,_,n,hn,_,_=>by cases hn
 |m::l,T,a,n,hn,h0,h1=>by
  show a<=(jW (fW T m a) l a).getD n.toNat 0;have hl:=(j5 T m a).1;rcases aJ.1 hn with rfl|hn
  .exact Int.le_trans (zT h0 h1) ((jp l (fW T n a) a).2 _)
  exact qc l (fW T m a) a n hn h0 Wq1
theorem kF:∀(c:List II) (k:Nat) (T:Li),Up T (fj c k T)
 |[],_,T=>Up.refl T
 |x::c,k,T=>by
  refine Up.trans ?_ (kF c (k+1) _);cases lH x with
  |true=>exact(j5 T x.a k).trans (j5 _ x.b k)
  |false=>exact Up.refl T
theorem wi:∀(c:List II) (k:Nat) (T:Li) (i:Nat) (x:II),c[i]? =some x->lH x=true->(0<=x.a/\x.a.toNat<T.length)->(0<=x.b/\x.b.toNat<T.length)->
  ((k+i:Nat):Int)<=(fj c k T).getD x.a.toNat 0/\((k+i:Nat):Int)<=(fj c k T).getD x.b.toNat 0
 |[],_,_,i,x,h,_,_,_=>by cases h
 |y::c,k,T,0,x,h,hx,ha,hb=>by
  obtain rfl:y=x:=by grind
  have e:fj (y::c) k T=fj c (k+1) (fW (fW T y.a k) y.b k):=by
   show fj c (k+1) (bif lH y then _ else _)=_;rw[hx];rfl
  have h1:=(j5 T y.a k).1;have h2:=kF c (k+1) (fW (fW T y.a k) y.b k);have h3:=zT (T:=T) (a:=k) ha.1 ha.2;have h4:=zT (T:=fW T y.a k) (a:=k) hb.1 Wq1;have h5:=(j5 (fW T y.a k) y.b k).2 y.a.toNat;rw[e,Nat.add_zero];exact⟨Int.le_trans h3 (Int.le_trans h5 (h2.2 _)),Int.le_trans h4 (h2.2 _)⟩
 |y::c,k,T,i+1,x,h,hx,ha,hb=>by
  have hl:(bif lH y then fW (fW T y.a k) y.b k else T).length=T.length:=by
   cases lH y with
   |true=>exact((j5 T y.a k).trans (j5 _ y.b k)).1
   |false=>rfl
  have:=wi c (k+1) (bif lH y then fW (fW T y.a k) y.b k else T) i x bY hx ⟨ha.1,by omega⟩ ⟨hb.1,by omega⟩;rw[show k+1+i=k+(i+1) by omega]at this;exact this
variable{n i:Nat}
theorem SW(h:i<n):(iota n).getD i 0=i:=by
 grind [iota]
theorem qJ(n:Nat):(iota n).length=n:=by simp[iota]
theorem Bm(p:Pg):Up (fj p.code 0 (iota p.code.length)) (gg p):=((jp _ _ _).trans (jp _ _ _)).trans (jp _ _ _)
theorem SK(p:Pg):(gg p).length=p.code.length:=by rw[(Bm p).1,(kF _ _ _).1,qJ]
theorem Ok(p:Pg){i:Nat}(h:i<p.code.length):(i:Int)<=(gg p).getD i 0:=by
 have h1:=((kF p.code 0 (iota p.code.length)).trans (Bm p)).2 i
 grind [SW]
theorem Oj(p:Pg){n:Nat}{x:II}(h:p.code[n]? =some x)(hx:lH x=true)(ha:0<=x.a/\x.a<p.code.length)(hb:0<=x.b/\x.b<p.code.length):(n:Int)<=(gg p).getD x.a.toNat 0/\(n:Int)<=(gg p).getD x.b.toNat 0:=by
 have h1:=wi p.code 0 (iota p.code.length) n x h hx ⟨ha.1,by rw[qJ];omega⟩ ⟨hb.1,by rw[qJ];omega⟩;rw[Nat.zero_add]at h1;exact⟨Int.le_trans h1.1 ((Bm p).2 _),Int.le_trans h1.2 ((Bm p).2 _)⟩
theorem qH(p:Pg){n:Int}(h:n∈p.Wo\/n∈p.Wp\/n=p.flags\/n=p.target)(h0:0<=n/\n<p.code.length):(p.code.length:Int)<=(gg p).getD n.toNat 0:=by
 have l0:(fj p.code 0 (iota p.code.length)).length=p.code.length:=by rw[(kF _ _ _).1,qJ]
 have l1:=(jp p.Wo (fj p.code 0 (iota p.code.length)) p.code.length).1;have u2:=jp p.Wp (jW (fj p.code 0 (iota p.code.length)) p.Wo p.code.length) p.code.length;have l2:=u2.1;have u3:=jp [p.flags,p.target] (jW (jW (fj p.code 0 (iota p.code.length)) p.Wo p.code.length) p.Wp p.code.length) p.code.length;rcases h with h|h|h
 .exact Int.le_trans (qc p.Wo _ _ n h h0.1 Wq1) ((u2.trans u3).2 _)
 .exact Int.le_trans (qc p.Wp _ _ n h h0.1 Wq1) (u3.2 _)
 exact qc [p.flags,p.target] _ _ n bY h0.1 Wq1
def nO(T:Li)(i j:Nat):Bool:=(decide ((i:Int)<T.getD j 0)&&decide ((j:Int)<T.getD i 0))||((i:Int)==(j:Int))
def eZ(T place:Li)(n:Nat)(k:Int):Nat->Bool
 |0=>false
 |i+1=>eZ T place n k i||((place.getD i 0==k)&&nO T i n)
def kK(T place:Li)(n:Nat):Nat->Nat->Nat
 |0,k=>k
 |f+1,k=>bif eZ T place n k place.length then kK T place n f (k+1)else k
def fJ(T place:Li)(n:Nat):Nat:=kK T place n place.length 0
def gf(T reg:Li)(n:Nat):Nat->Nat
 |0=>n
 |k+1=>bif((reg.getD k 0 != -1)&&nO T n k)&&decide (T.getD (gf T reg n k) 0<T.getD k 0)then k else gf T reg n k
def lw(T:Li)(pl:Pl)(n:Nat):Pl:=
 ⟨pl.reg.set n (-1),pl.slot.set n (fJ T pl.slot n),if((fJ T pl.slot n:Nat):Int)+1>pl.WG then((fJ T pl.slot n:Nat):Int)+1 else pl.WG⟩
def qn(T:Li)(WJ:Int)(pl:Pl)(n:Nat):Pl:=
 bif decide (((fJ T pl.reg n:Nat):Int)<WJ)then⟨pl.reg.set n (fJ T pl.reg n),pl.slot,pl.WG⟩else
 bif(gf T pl.reg n n !=n)then lw T ⟨pl.reg.set n (pl.reg.getD (gf T pl.reg n n) 0),pl.slot,pl.WG⟩ (gf T pl.reg n n)else lw T pl n
def jt(T:Li)(WJ:Int)(N:Nat):Nat->Pl
 |0=>⟨List.replicate N (-1),List.replicate N (-1),0⟩
 |n+1=>qn T WJ (jt T WJ N n) n
theorem CA(T place:Li)(n:Nat)(k:Int):∀m,eZ T place n k m=true<->∃i,i<m/\place.getD i 0=k/\nO T i n=true
 :=by intro y1;induction y1<;>grind [eZ,nO]
theorem pigeon(place:Li)(h:∀k:Nat,k<=place.length->∃i,i<place.length/\place.getD i 0=(k:Int)):False:=by
 have hc:∃f:Nat->Nat,∀k,k<=place.length->f k<place.length/\place.getD (f k) 0=(k:Int):=by
  refine⟨λk=>if hk:k<=place.length then Classical.choose (h k hk)else 0,λk hk=>?_⟩;simp only[dif_pos hk];exact Classical.choose_spec (h k hk)
 obtain⟨f,hf⟩:=hc;have h1:=nL place.length ((List.range (place.length+1)).map f) ?_ ?_
 .simp at h1;omega
 .rw[List.Nodup,List.pairwise_map];refine List.Pairwise.imp_of_mem ?_ (List.nodup_range (n:=place.length+1));intro a b ha hb hab e;have h2:=(hf a (by have:=List.mem_range.1 ha;omega)).2;have h3:=(hf b (by have:=List.mem_range.1 hb;omega)).2;rw[e,h3]at h2;exact hab Wq1
 intro x hx;obtain⟨k,hk,rfl⟩:=aZ.1 hx;exact(hf k (by have:=List.mem_range.1 hk;omega)).1
theorem DX(T place:Li)(n:Nat):∀f k,k+f=place.length->(∀j,j<k->eZ T place n j place.length=true)->eZ T place n (kK T place n f k) place.length=false/\kK T place n f k<=place.length/\∀j,j<kK T place n f k->eZ T place n j place.length=true
 |0,k,hk,hb=>by
  refine⟨?_,by show k<=_;omega,hb⟩;show eZ T place n k place.length=false;cases h:eZ T place n k place.length with
  |false=>rfl
  |true=>
   refine(pigeon place λj hj=>?_).elim;have ht:eZ T place n j place.length=true:=by
    by_cases e:j=k
    .rw[e];exact h
    exact hb j Wq1
   obtain⟨i,h1,h2, -⟩:=(CA T place n j place.length).1 ht;exact⟨i,h1,h2⟩
 |f+1,k,hk,hb=>by
  cases h:eZ T place n k place.length with
  |false=>
   have e:kK T place n (f+1) k=k:=by show(bif eZ T place n k place.length then _ else k)=k;rw[h];rfl
   rw[e];exact⟨h,by omega,hb⟩
  |true=>
   have e:kK T place n (f+1) k=kK T place n f (k+1):=by show(bif eZ T place n k place.length then kK T place n f (k+1)else k)=_;rw[h];rfl
   rw[e];exact DX T place n f (k+1) Wq1 (λj hj=>by
    by_cases e:j=k
    ·rw[e];exact h
    exact hb j Wq1)
theorem sf(T place:Li)(n:Nat):eZ T place n (fJ T place n) place.length=false/\fJ T place n<=place.length/\∀j,j<fJ T place n->eZ T place n j place.length=true:=
 DX T place n place.length 0 Wq1 (λj hj=>absurd hj Wq1)
theorem oQ{place:Li}(hi:i<place.length)(h:place.getD i 0=(fJ T place n:Nat)):nO T i n=false:=by
 cases hm:nO T i n with
 |false=>rfl
 |true=>
  have:=(CA T place n (fJ T place n) place.length).2 ⟨i,hi,h,hm⟩;rw[(sf T place n).1]at this;cases this
theorem FS{j:Nat}(h:nO T i j=false)(hij:i<j)(hT:(j:Int)<=T.getD j 0):T.getD i 0<=j:=by
 unfold nO at h;simp only[aS,Bool.and_eq_false_iff,aa]at h;omega
theorem SA{j:Nat}(h:nO T i j=false)(hij:j<i)(hT:(i:Int)<=T.getD i 0):T.getD j 0<=i:=by
 unfold nO at h;simp only[aS,Bool.and_eq_false_iff,aa]at h;omega
theorem wh(T reg:Li)(n:Nat):∀k,gf T reg n k=n\/(gf T reg n k<k/\reg.getD (gf T reg n k) 0≠ -1/\nO T n (gf T reg n k)=true)
 |0=>Or.inl rfl
 |k+1=>by
  have e:gf T reg n (k+1)=bif((reg.getD k 0 != -1)&&nO T n k)&&decide (T.getD (gf T reg n k) 0<T.getD k 0)then k else gf T reg n k:=rfl
  cases hc:((reg.getD k 0 != -1)&&nO T n k)&&decide (T.getD (gf T reg n k) 0<T.getD k 0)with
  |true=>
   rw[hc,ai]at e;rw[e];simp only[au,bne_iff_ne,ne_eq]at hc;exact Or.inr ⟨by omega,hc.1.1,hc.1.2⟩
  |false=>
   rw[hc,ah]at e;rw[e];rcases wh T reg n k with h|⟨h1,h2⟩
   .exact Or.inl h
   exact Or.inr ⟨by omega,h2⟩
structure SInv(T:Li)(WJ:Int)(N n:Nat)(pl:Pl):Prop where
 rl:pl.reg.length=N
 sl:pl.slot.length=N
 had:∀i,i<n->(0<=pl.reg.getD i 0/\pl.reg.getD i 0<WJ/\pl.slot.getD i 0= -1)\/(pl.reg.getD i 0= -1/\0<=pl.slot.getD i 0/\pl.slot.getD i 0<=N)
 new:∀i,n<=i->i<N->pl.reg.getD i 0= -1/\pl.slot.getD i 0= -1
 reg:∀i j,i<j->j<n->0<=pl.reg.getD i 0->pl.reg.getD i 0=pl.reg.getD j 0->T.getD i 0<=j
 slot:∀i j,i<j->j<n->0<=pl.slot.getD i 0->pl.slot.getD i 0=pl.slot.getD j 0->T.getD i 0<=j
theorem sinv0(T:Li)(WJ:Int)(N:Nat):SInv T WJ N 0 (jt T WJ N 0):=
 ⟨by simp[jt],by simp[jt],λi hi=>absurd hi Wq1,λi _ hi=>by
  constructor<;>(show(List.replicate N (-1:Int)).getD i 0= -1;rw[List.getD_eq_getElem?_getD,List.getElem?_replicate_of_lt hi];rfl),λi j _ hj=>absurd hj Wq1,λi j _ hj=>absurd hj Wq1⟩
theorem M0{WJ:Int}{N:Nat}(hT:∀i,i<N->(i:Int)<=T.getD i 0)(h:SInv T WJ N n pl)(hn:n<N):SInv T WJ N (n+1) (qn T WJ pl n):=by
 have hrl:=h.rl;have hsl:=h.sl;obtain⟨nr,ns⟩:=h.new n (aL _) hn;unfold qn;by_cases hr:((fJ T pl.reg n:Nat):Int)<WJ
 .rw[aE hr,ai];refine⟨by simp[hrl],hsl,λi hi=>?_,λi h1 h2=>?_,λi j hij hj h0 he=>?_,λi j hij hj h0 he=>?_⟩
  .by_cases e:i=n
   .subst e;refine Or.inl ?_;dsimp only;rw[de Wq1];exact⟨by omega,hr,ns⟩
   dsimp only;rw[cS (λx=>e x.symm)];exact h.had i Wq1
  .dsimp only;rw[cS Wq1];exact h.new i Wq1 h2
  .dsimp only at h0 he;by_cases ej:j=n
   .subst ej;rw[cS Wq1,de Wq1]at he;exact FS (oQ Wq1 he) hij (hT j hn)
   rw[cS Wq1,cS Wq1]at he;rw[cS Wq1]at h0;exact h.reg i j hij Wq1 h0 he
  by_cases ej:j=n
  .subst ej;dsimp only at h0 he;rw[ns]at he;omega
  exact h.slot i j hij Wq1 h0 he
 rw[aF hr,ah];rcases wh T pl.reg n n with hl|⟨l1,l2,l3⟩
 .rw[hl,show(n !=n)=false by simp,ah];unfold lw;have hf:=sf T pl.slot n;refine⟨by simp[hrl],by simp[hsl],λi hi=>?_,λi h1 h2=>?_,λi j hij hj h0 he=>?_,λi j hij hj h0 he=>?_⟩
  .dsimp only;by_cases e:i=n
   .subst e;refine Or.inr ?_;rw[de Wq1,de Wq1];exact⟨rfl,by omega,by omega⟩
   rw[cS (λx=>e x.symm),cS (λx=>e x.symm)];exact h.had i Wq1
  .dsimp only;rw[cS Wq1,cS Wq1];exact h.new i Wq1 h2
  .dsimp only at h0 he;rw[cS Wq1]at he h0;by_cases ej:j=n
   .subst ej;rw[de Wq1]at he;omega
   rw[cS Wq1]at he;exact h.reg i j hij Wq1 h0 he
  dsimp only at h0 he;rw[cS Wq1]at he h0;by_cases ej:j=n
  .subst ej;rw[de Wq1]at he;exact FS (oQ Wq1 he) hij (hT j hn)
  rw[cS Wq1]at he;exact h.slot i j hij Wq1 h0 he
 obtain⟨lg,hlg⟩:=Zgn (gf T pl.reg n n);rw[hlg]at l1 l2 l3|-;rw[show(lg !=n)=true by simp;omega,ai];have hm:(n:Int)<T.getD lg 0:=by
  unfold nO at l3;simp only[bn,au,ac,beq_iff_eq]at l3;omega
 obtain⟨hreg,hlt,hslot⟩:0<=pl.reg.getD lg 0/\pl.reg.getD lg 0<WJ/\pl.slot.getD lg 0= -1:=by
  rcases h.had lg l1 with q|⟨q, -⟩
  .exact q
  exact absurd q l2
 unfold lw;have hf:=sf T pl.slot lg;have er:∀i,i≠lg->i≠n->((pl.reg.set n (pl.reg.getD lg 0)).set lg (-1)).getD i 0=pl.reg.getD i 0:=λi h1 h2=>by rw[cS (λe=>h1 e.symm),cS (λe=>h2 e.symm)]
 have ern:((pl.reg.set n (pl.reg.getD lg 0)).set lg (-1)).getD n 0=pl.reg.getD lg 0:=by rw[cS Wq1,de Wq1]
 have erl:((pl.reg.set n (pl.reg.getD lg 0)).set lg (-1)).getD lg 0= -1:=de (by rw[List.length_set];omega);have es:∀i,i≠lg->(pl.slot.set lg ((fJ T pl.slot lg:Nat):Int)).getD i 0=pl.slot.getD i 0:=λi h1=>cS (λe=>h1 e.symm)
 have esl:(pl.slot.set lg ((fJ T pl.slot lg:Nat):Int)).getD lg 0=(fJ T pl.slot lg:Nat):=de Wq1;refine⟨by simp[hrl],by simp[hsl],λi hi=>?_,λi h1 h2=>?_,λi j hij hj h0 he=>?_,λi j hij hj h0 he=>?_⟩
 .dsimp only;by_cases e:i=lg
  .subst e;rw[erl,esl];exact Or.inr ⟨rfl,by omega,by omega⟩
  by_cases e2:i=n
  .subst e2;rw[ern,es _ e];exact Or.inl ⟨hreg,hlt,ns⟩
  rw[er i e e2,es i e];exact h.had i Wq1
 .dsimp only;rw[er i Wq1 Wq1,es i Wq1];exact h.new i Wq1 h2
 .dsimp only at h0 he;by_cases ei:i=lg
  .subst ei;rw[erl]at h0;omega
  rw[er i ei Wq1]at h0 he;by_cases ejn:j=n
  .subst ejn;rw[ern]at he;by_cases hil:i<lg
   .have:=h.reg i lg hil l1 h0 he;omega
   have:=h.reg lg i Wq1 Wq1 hreg he.symm;omega
  by_cases ejl:j=lg
  .subst ejl;rw[erl]at he;omega
  rw[er j ejl ejn]at he;exact h.reg i j hij Wq1 h0 he
 dsimp only at h0 he;by_cases ei:i=lg
 .subst ei;rw[es j Wq1]at he;rw[esl]at he;exact SA (oQ Wq1 he.symm) hij (hT j Wq1)
 rw[es i ei]at h0 he;by_cases ejl:j=lg
 .subst ejl;rw[esl]at he;exact FS (oQ Wq1 he) hij (hT j Wq1)
 rw[es j ejl]at he;by_cases ejn:j=n
 .subst ejn;rw[ns]at he;omega
 exact h.slot i j hij Wq1 h0 he
theorem Hf{T:Li}{WJ:Int}{N:Nat}(hT:∀i,i<N->(i:Int)<=T.getD i 0):∀n,n<=N->SInv T WJ N n (jt T WJ N n)
 |0,_=>sinv0 T WJ N
 |n+1,h=>M0 hT (Hf hT n Wq1) Wq1
theorem Nw{N:Nat}(hT:∀i,i<N->(i:Int)<=T.getD i 0)(hN:N<=64):QG (jt T 7 N N) T N:=by
 have h:=Hf (WJ:=7) hT N (aL _);obtain⟨pl,hpl⟩:=Zgn (jt T 7 N N);rw[hpl]at h|-;have e:∀n:Nat,pl.r n=pl.reg.getD n 0/\pl.s n=pl.slot.getD n 0:=λn=>by simp only[Pl.r,Pl.s,aN,and_self]
 have hin:∀n:Nat,pl.inR n=decide (0<=pl.reg.getD n 0):=λn=>by unfold Pl.inR;rw[(e n).1]
 refine⟨λn hn=>?_,λi j hij hj h1 h2 he=>?_,λi j hij hj h1 h2 he=>?_⟩
 .unfold Pl.has;rw[hin,(e n).1,(e n).2];rcases h.had n hn with⟨q1,q2, -⟩|⟨q1,q2,q3⟩
  .exact Or.inl ⟨aE q1,q2⟩
  exact Or.inr ⟨aF Wq1,q2,by omega⟩
 .rw[hin]at h1;rw[(e i).1,(e j).1]at he;exact h.reg i j hij hj (by simpa using h1) he
 rw[hin]at h1;rw[(e i).2,(e j).2]at he;refine h.slot i j hij hj ?_ he;rcases h.had i (by omega)with⟨q1, -⟩|⟨-,q, -⟩
 .rw[aE q1]at h1;cases h1
 exact q
end Go.Ink
