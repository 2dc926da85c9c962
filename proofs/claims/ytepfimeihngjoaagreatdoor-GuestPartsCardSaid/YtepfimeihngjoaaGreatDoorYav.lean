/- Lemmas. -/
import Derived.Test.YtepfimeihngjoaaGreatDoorYas
import Derived.Test.YtepfimeihngjoaaGreatDoorYat
set_option linter.all false
set_option maxRecDepth 100000
set_option maxHeartbeats 4000000
namespace Go.Ink
open List renaming length→J, replicate→R9
open IntKind renaming wrap→V9
open Go.RowKit Go.Proofs.Tryz
section
attribute [local irreducible] UL bM
variable{s:St}
theorem PE(bm bw:Nat)(Ac:Oa)(cc:Nat)(C:List HI)(hC:fY C)(steps:Nat)(hst:steps<=100000)(m:HM)(hm:m.ok):CI prog 192 [.p bm,.i steps] (hmF bm bw Ac cc C m) (λx cs=>∃n:Nat,x= .tuple #[.i (jU C steps m).1.1,.w (jU C steps m).1.2,.i n]/\cs=hmF bm bw Ac cc C (jU C steps m).2):=λw hi=>by
 have hcap:=(de (hi.get (show UQ _ (Wu Ac cc C)from by repeat (first|exact .head _ _|apply UQ.tail)))).cap;have hmx:=(de (hi.get (show UQ _ (Wu Ac cc C)from by repeat (first|exact .head _ _|apply UQ.tail)))).max;have hsome:=λh=>(de (hi.get (show UQ _ (Wu Ac cc C)from by repeat (first|exact .head _ _|apply UQ.tail)))).some_ h
 simp only[maxLen]at hmx;obtain⟨⟨⟨how,im⟩,m9⟩,hq⟩:=Uk (jU C steps m);rw[hq];have hq0:jU C (steps - 0) m=((how,im),m9):=hq;refine UH func192 ntmps192 hi ?_;refine jG ?_;refine UX (λq:Nat×HM=>[(0,.p bm),(1,.i steps),(7,.i (q.1:Int))]) (λq=>hmF bm bw Ac cc C q.2) (λq=>q.1<=steps/\q.2.ok/\jU C (steps - q.1) q.2=((how,im),m9)) (λq=>steps - q.1) (⟨0,m⟩) Do ?_;rintro⟨k,m⟩ ⟨hk,hm,hE⟩;dsimp only at hk hm hE|-;have HS:=Lq bm bw Ac cc C hC m hm;have hm2:=Fm hC hm;have hex:=Hr (C:=C) (m:=m);refine V1 ?_ ?_<;>intro hc2
 .simp only[ah]at hc2;obtain⟨f,hf⟩:∃f,steps - k=f+1:=⟨steps - k - 1,by omega⟩;rw[hf]at hE;have hE:(bif(SW C m).1==0 then jU C f (SW C m).2 else bif(SW C m).1==1 then((1,(C.getD (SW C m).2.pc.toNat HI.zero).imm),(SW C m).2)else(((SW C m).1,0),(SW C m).2))=((how,im),m9):=hE;obtain⟨⟨why,m2⟩,hsq⟩:=Uk (SW C m);rw[hsq]at hE HS hm2 hex;dsimp only at hE hm2 hex;refine Ux ?_;refine U5 (hmF bm bw Ac cc C m) (λw hi hin=>HS w hin) ?_;refine oQ ?_;refine ZW ?_ ?_<;>intro hc7
  .rw[hc7,ae]at hE;refine UA ?_;refine WR ?_;refine Vo ((⟨k+1,m2⟩:Nat×HM)) Do
  rw[hc7,ac]at hE;refine Ul ?_ ?_<;>intro hc8
  .rw[hc8,ae]at hE;obtain⟨he1,rfl⟩:=Prod.mk.inj hE;obtain⟨rfl,rfl⟩:=Prod.mk.inj he1;have hw1:why=1:=Do;subst hw1;obtain⟨rfl,hp0,hpl⟩:=hex I;have hR:=hm.rl;obtain⟨p,hpe⟩:∃p:Nat,m2.pc=p:=ai hp0;rw[hpe]at hpl;have hx:C[p]? =some (C.getD p HI.zero):=Do;rw[show m2.pc.toNat=p by omega];obtain⟨ad,rfl⟩:=hsome O;obtain⟨i,hie⟩:=Uk (C.getD p HI.zero);rw[hie]at hx|-;refine Zs (bN (UK []) Zk ?_);refine y5 ?_;refine Ld 3 17 ?_;refine US 4 I (bL ir ne) (cO Zh (hm_c hR)) ?_;refine qC ?_;refine Ld 7 18 ?_;refine US 8 I (bL ir ne) (cO Zh (Yi hR)) ?_;refine UF 9 I (cW (j:=p) I ir (Zv I) (Zv I) (λ_=>hpe) Uq) ?_;refine UF 10 I (Ec 4 I (Zv I) ((rG ad (p*5) 4))) ?_;refine US 11 I (bL ir (Zv I)) (λw hi z hz=>by rw[aQ]at hz;subst hz;exact(hi.rd (Ur (Wu (some ad) cc C))).at_ ad I (p*5+4) (.w i.imm) (fK (f:=HI.cells) ir (i:=4) hx I)) ?_;refine rJ ?_;refine ZE 14 ?_;refine ZE 15 ?_;refine fe ?_;refine UG ?_;exact Y4
  rw[hc8,ac]at hE;obtain⟨he1,rfl⟩:=Prod.mk.inj hE;obtain⟨rfl,rfl⟩:=Prod.mk.inj he1;refine mU ?_;exact Y4
 simp only[aa]at hc2;obtain rfl:k=steps:=O;rw[Nat.sub_self]at hE;obtain⟨he1,rfl⟩:=Prod.mk.inj hE;obtain⟨rfl,rfl⟩:=Prod.mk.inj he1;refine UG ?_;refine Zy (vP (Zv I) (Zv I) (show _=((k:Nat):Int)from by omega)) ?_;refine UA ?_;exact Y4
theorem erun_ok(A:Oa)(c:Nat)(C:List HI)(hC:fY C)(hl:J C<=100000)(s:St)(hw:s.wf)(hs:s.right=true)(Ad Ar:Oa)(cd cr:Nat)(w:World)(h:Rd w .u8 A (J (cD C)) c (cD C))(h3:kS w s Ad Ar cd cr):
  Uz prog 146 [.slice A (J (cD C)) c,sv s Ad cd Ar cr] w [] (λx cs=>∃X:eN,x= .tuple #[sv (iq C s).1 X.Ad X.cd X.Ar X.cr,.i (iq C s).2]/\cs=[UP (iq C s).1 X.Ad X.cd,UU (iq C s).1 X.Ar X.cr]):=by
 have h0:=hm0_ok hw hs;have hm9:=hrun_ok hC 4096 _ h0;have him:=Fo hC 4096 ⟨R9 16 0,Tm s,0⟩;have hrc:iq C s=EM s (jU C 4096 ⟨R9 16 0,Tm s,0⟩):=rfl;obtain⟨W0,hW0⟩:=Uk (Tm s);have HP:=λbm bw w hi h=>hput_ok bm bw s hs hw Ad Ar cd cr w hi h
 obtain⟨R0,hR0⟩:=Uk (R9 16 (0:Int));obtain⟨Z0,hZ0⟩:=Uk (R9 256 (0:Int));have HN:=hnew_ok;rw[hW0,hR0]at h0 hm9 hrc him;rw[hR0,hZ0]at HN HP;rw[hW0]at HP;have HR:=λbm bw Ac cc w hi=>PE bm bw Ac cc C hC 4096 An ⟨R0,W0,0⟩ h0 w hi
 obtain⟨⟨⟨how,im⟩,m9⟩,hq⟩:=Uk (jU C 4096 ⟨R0,W0,0⟩);rw[hq]at HR hrc hm9 him;dsimp only at HR hrc hm9 him;have hre:EM s ((how,im),m9)=bif how !=1 then(s,0)else bif nc m9.words then(oO m9.words s,im)else(s,0):=rfl
 rw[hrc,hre];clear hrc hq hre;have hR16:J R0=16:=h0.rl;have HG:=λbm bw Ac cc w h1 h2 h3=>hget_ok bm bw Ac (J C) cc m9.Tb m9.words m9.pc hm9.rl hm9.wl hm9.w s Ad Ar cd cr w h1 h2 h3
 obtain⟨tk,htk⟩:=Uk (nc m9.words);obtain⟨s9,hs9⟩:=Uk (oO m9.words s);rw[htk,hs9]at HG|-;refine UB func146 ntmps146 ?_;refine py ?_;refine ZO λb3=>?_;refine ZN λb4=>?_
 refine Uu ?_;refine UW (λw hi=>HN w) ?_;rintro _ _ ⟨bm,bw,rfl,rfl⟩;refine jG ?_;refine i6 (bU I I) Zh ir ir (Zv I) I (kt (bU I I) I (eE ([fQ bm bw none 0 0 R0 0,VL bw Z0]) I (λ_ _=>I) Zi (λw hi hin=>HP bm bw w hin (λw' hk=>⟨UJ.S4 h3.d hi Zi hk,UJ.S4 h3.r hi Zi hk,h3.hd,h3.hr⟩))) I ?_);refine Vb ?_;refine Uu ?_;refine kt (bU I I) I (eE ([fQ bm bw none 0 0 R0 0,VL bw W0]) I (λ_ _=>I) Zi (λw hi hin=>PF bm bw R0 W0 hR16 A c C hC hl w hin (λw' hk=>UJ.S4 h hi Zi hk))) I ?_;rintro _ _ ⟨_,⟨Ac,cc,rfl,rfl⟩,rfl⟩;refine Ut ?_;refine jn ?_;refine Uu ?_;refine dE (hmF bm bw Ac cc C ⟨R0,W0,0⟩) (λw hi hin=>HR bm bw Ac cc w hin) ?_;rintro _ _ ⟨n,rfl,rfl⟩;refine mU ?_;refine ZW ?_ ?_<;>intro hc5
 .rw[hc5,ae];refine Us ?_;refine UW (λw hi=>mH s Ad Ar cd cr w (h3.SS hi)) ?_;rintro _ _ ⟨A1,c1,A2,c2,rfl,rfl⟩;exact Wq416
 rw[hc5,ac];refine UA ?_;refine UW (λw hi=>HG bm bw Ac cc w (hi.get Zh) (hi.get Zh) (h3.SS hi)) ?_;rintro _ _ ⟨X,rfl,rfl⟩;refine Us ?_;refine ZN λb11=>?_
 refine rI ?_;refine ZW ?_ ?_<;>intro hc8
 .obtain rfl:tk=false:=Do;refine Us ?_;refine mS ?_;exact sD (cs':=[UP s X.Ad X.cd,UU s X.Ar X.cr]) (.inl I) Zu I I I Zh ir ir ⟨X,I,I⟩
 obtain rfl:tk=true:=Do;refine UA ?_;refine sO ?_;refine iz ?_;exact sD (cs':=[UP s9 X.Ad X.cd,UU s9 X.Ar X.cr]) (.inl I) Zu I I I Zh ir ir ⟨X,I,I⟩
variable{b:Li}
variable{o e:Nat}{l:List (Int×Int)}
def uB(k:Ky)(b:Li):Option (Wo×Rn):=match fm k.1 (cM b 8 0).1 with
 |none=>none
 |some p=>bif p.SX then some (⟨k,gh p (dR p),((cM b 8 0).1.length:Int)⟩,⟨b.take (cM b 8 0).2.1,(cM b 8 0).2.2⟩)else none
def lB(E:Vi)(k:Ky)(b:Li):Option (Wo×Rn)×Vi:=match AX E k b with
 |some q=>(some q,E)
 |none=>match uB k b with
  |some q=>(some q,Yp E q.1 q.2)
  |none=>(none,E)
def jr(E:Vi)(s:St)(place:Int)(b:Li):Option (St×Rn×Int)×Vi:=match lB E (s.pc,place) b with
 |(none,E')=>(none,E')
 |(some (t,r),E')=>bif(iq t.code s).2==1 then(some ((iq t.code s).1,r,t.count),{E' with last:=(s.pc,place),begun:=true,S9:=V9 .i64 (E'.S9+t.count)})else(none,E')
def Wv(n:Nat)(s:St)(U:Uo)(d:Un)(E:Vi):(St×Uo×Un)×Vi:=
 let b:=cF n s U d
 bif b.runs then
  match jr E b.s b.place (iC b.u.m b.place.toNat)with
  |(none,E')=>jv n (b.place.toNat/64) 8 b.s b.place.toNat b.u b.d E'
  |(some (o,r,c),E')=>bif(r.ends&&decide (0<c))||o.pc/64 !=b.s.pc/64 then((o,⟨b.u.m.calm,b.u.t⟩,b.d),E')
    else jv n ((b.place.toNat+J r.bytes)%4294967296/64) (8 - c).toNat o ((b.place.toNat+J r.bytes)%4294967296) ⟨b.u.m.calm,b.u.t⟩ b.d E'
 else((b.s,b.u,b.d),{E with S8:=V9 .i64 (E.S8+V9 .i64 (V9 .u64 (b.s.count - s.count)))})
variable{α:Type}{key:α->Ky}{room:Int}{l:List α}{t:α}
def Good(t:Wo)(r:Rn):Prop:=∃p il,fm t.key.1 il=some p/\p.SX=true/\t.code=gh p (dR p)/\t.count=(J il:Int)/\lH r.bytes 0 il (J r.bytes)/\(∀i,i∈il->u32 i.2)/\r.ends=gg (il.getLastD (0,0)).1
structure gy(E:Vi):Prop where
 room:1<=E.room/\E.room<=1024
 len:(J E.l:Int)<=E.room
 keys:(E.l.map Wo.key).Nodup
 TW:(E.runs.map (·.1)).Nodup
 TF:∀t,t∈E.l->∃r,(t.key,r)∈E.runs/\Good t r
theorem gy.fresh{room:Int}(h:1<=room/\room<=1024):gy (Vi.fresh room):=⟨h,by show((0:Nat):Int)<=room;omega,by simp[Vi.fresh],by simp[Vi.fresh],λt ht=>by cases ht⟩
variable{E:Vi}
theorem gy.same{E':Vi}(h:gy E)(h1:E'.room=E.room)(h2:E'.l=E.l)(h3:E'.runs=E.runs):gy E':=⟨by rw[h1];exact h.room,by simp_all [h.len],by rw[h2];exact h.keys,by rw[h3];exact h.TW,by simp_all [h.TF]⟩
theorem gy.drop(h:gy E)(SC:Li):gy (Ma E SC):=by
 refine⟨h.room,?_,jN _ h.keys,?_,λt ht=>?_⟩
 .have:(J (E.l.filter λt=> !SC.contains (t.key.2/64)))<=J E.l:=List.length_filter_le _ _;have:=h.len;show((J (E.l.filter λt=> !SC.contains (t.key.2/64)):Nat):Int)<=E.room;omega
 .show((bif _ then vT _ E.runs else E.runs).map (·.1)).Nodup;cases decide (J (E.l.filter λt=> !SC.contains (t.key.2/64))<J E.l)with
  |true=>exact jN _ h.TW
  |false=>exact h.TW
 have ht:t∈E.l.filter λt=> !SC.contains (t.key.2/64):=ht
 obtain⟨r,h1,h2⟩:=h.TF t (List.mem_filter.1 ht).1;refine⟨r,?_,h2⟩;show(t.key,r)∈(bif _ then vT _ E.runs else E.runs)
 grind [AQ]
theorem gy.turn(h:gy E)(SC:Li):gy (m8 E SC):=by
 unfold m8;cases SC.isEmpty with
 |true=>exact h
 |false=>exact h.drop SC
theorem gy.add(h:gy E){t:Wo}{r:Rn}(hg:Good t r):gy (Yp E t r):=by
 have hl:(t.key,r)∈dP E.runs t.key r:=by rw[xZ];exact J1
 have hn:((dP E.runs t.key r).map (·.1)).Nodup:=by rw[xZ];exact qV h.TW
 have hgo:∀x,x∈ur Wo.key E.room E.l t->∃r',(x.key,r')∈dP E.runs t.key r/\Good x r':=λx hx=>by
  rcases OY hx with rfl|⟨h1,h2⟩
  .grind
  obtain⟨r',h3,h4⟩:=h.TF x h1;refine⟨r',?_,h4⟩;have hne:=h2 x h1 h.keys
  grind [dP,cK,fj,List.mem_append_left,List.getElem_of_mem,List.mem_iff_getElem]
 refine⟨h.room,Oz h.room.1 h.len,qV h.keys,?_,λx hx=>?_⟩
 .show((bif _ then vT _ _ else _).map (·.1)).Nodup;cases decide (J (ur Wo.key E.room E.l t)<J (dP E.runs t.key r))with
  |true=>exact jN _ hn
  |false=>exact hn
 obtain⟨r',h1,h2⟩:=hgo x hx;refine⟨r',?_,h2⟩;show(x.key,r')∈(bif _ then vT _ _ else _);cases decide (J (ur Wo.key E.room E.l t)<J (dP E.runs t.key r))with
 |true=>exact AQ hx h1
 |false=>exact h1
theorem qs(h:gy E){k:Ky}{b:Li}(hb:UO b):gy (lB E k b).2/\(lB E k b).2.room=E.room/\(lB E k b).2.S9=E.S9/\(lB E k b).2.S8=E.S8/\∀t r,(lB E k b).1=some (t,r)->
  ∃p il,fm k.1 il=some p/\p.SX=true/\t.code=gh p (dR p)/\t.count=(J il:Int)/\lH b 0 il (J r.bytes)/\(∀i,i∈il->u32 i.2)/\r.ends=gg (il.getLastD (0,0)).1:=by
 unfold lB;cases hk:AX E k b with
 |some q=>
  refine⟨h,I,I,I,λt r e=>?_⟩;obtain rfl:q=(t,r):=aG e;unfold AX at hk;cases hf:E.l.find? (λt=>t.key==k)with
  |none=>grind
  |some t'=>
   rw[hf]at hk;dsimp only at hk;cases hpre:(fX E.runs k Rn.zero).bytes.isPrefixOf b with
   |false=>grind
   |true=>
    rw[hpre,ae,aW,aD]at hk;obtain⟨rfl,hr⟩:=hk;have hkey:t'.key=k:=by simpa using List.find?_some hf
    obtain⟨r',h1,p,il,g1,g2,g3,g4,g5,g6,g7⟩:=h.TF t' (List.mem_of_find?_eq_some hf);have e1:=Oe Rn.zero h.TW h1;rw[hkey]at e1 g1;rw[e1]at hr hpre;subst hr;have hpr:b.take (J r'.bytes)=r'.bytes:=by
     obtain⟨y,rfl⟩:=List.isPrefixOf_iff_prefix.1 hpre;exact List.take_left
    exact⟨p,il,g1,g2,g3,g4,g5.stay Do,g6,g7⟩
 |none=>
  cases hm:uB k b with
  |none=>grind
  |some q=>
   obtain⟨t,r⟩:=q;unfold uB at hm;cases hl:fm k.1 (cM b 8 0).1 with
   |none=>grind
   |some p=>
    rw[hl]at hm;dsimp only at hm;cases hr:p.SX with
    |false=>grind
    |true=>
     rw[hr,ae,aW,aD]at hm;obtain⟨rfl,rfl⟩:=hm;obtain⟨s1,s2,s3,s4⟩:=mC b 8 0;have hne:(cM b 8 0).1≠[]:=λe=>by
      grind [fm]
     have hse:=s1.ends hne;have hlen:J (b.take (cM b 8 0).2.1)=(cM b 8 0).2.1:=by rw[aU];omega
     have hu:=s1.u32 hb;refine⟨h.add ⟨p,_,hl,hr,I,I,?_,hu,s3 hne⟩,I,I,I,λt r e=>?_⟩
     .dsimp only;rw[hlen];exact s1.stay Do
     grind
theorem ye{n SR:Nat}:∀(k:Nat) {s:St} (p:Nat) {U:Uo} {d:Un} {E:Vi},Vp n s U d->gy E->(jv n SR k s p U d E).1=dO n SR k s p U d/\gy (jv n SR k s p U d E).2/\
  ∃c:Nat,c<=k/\F9 E (jv n SR k s p U d E).2 c/\(dO n SR k s p U d).1.count=V9 .u64 (s.count+(c:Int))
 |0,s,p,U,d,E,h,hE=>⟨rfl,hE,0,aL _,⟨λh1 h2 _=>⟨h1,h2,by show E.S9+E.S8=_;omega,Int.le_refl _⟩,rfl⟩,by
   show s.count=V9 .u64 (s.count+0);have:=h.wf.count;rw[aS];omega⟩
 |k+1,s,p,U,d,E,h,hE=>by
  have hw:∀x:Int,0<=x->x<=1000000000->V9 .i64 (x+1)=x+1:=λx h1 h2=>by rw[bG];omega
  unfold jv dO;cases hf:dI n U.m p with
  |none=>exact⟨I,hE.same I I I,1,by omega,⟨λh1 h2 h3=>⟨h1,by grind,by grind,Int.le_refl _⟩,rfl⟩,rfl⟩
  |some o=>
   obtain⟨⟨op,nn⟩,z⟩:=o;obtain⟨f1, -⟩:=jl h.u.m hf;have hg:=px (op:=op) (nn:=nn) h.wf h.right f1 h.u h.dv;have hl:=oG (n:=n) (op:=op) (nn:=nn) (s:=s) (U:=U) h.lines;obtain⟨⟨q,U1,d1⟩,hq⟩:=Uk (lj n s op nn U d);rw[hq]at hg hl;obtain⟨g1,g2,g3,g4,g5,g6⟩:=hg;dsimp only at g1 g2 g3 g4 g5 g6 hl|-;rw[hq];dsimp only;have hE1:gy {E with S8:=V9 .i64 (E.S8+1)}:=hE.same I I I;have hE2:=hE1.turn q.SC;obtain⟨u1,u2,u3⟩:=Ja {E with S8:=V9 .i64 (E.S8+1)} q.SC;obtain⟨E2,hE2e⟩:=Uk (m8 {E with S8:=V9 .i64 (E.S8+1)} q.SC);rw[hE2e]at hE2 u1 u2 u3|-;dsimp only at u1 u2 u3;have hu:F9 E E2 1:=⟨λh1 h2 h3=>by
    grind,u3⟩
   cases iY op q SR s.pc with
   |false=>grind
   |true=>
    rw[ae,ae];obtain⟨r1,r2,c,r3,r4,r5⟩:=ye k ((p+z)%4294967296) (s:=q.s) (U:=U1) (d:=d1) (E:=E2) ⟨g1,g2,g4,g5,hl⟩ hE2;refine⟨r1,r2,c+1,by omega,⟨λh1 h2 h3=>?_,r4.room.trans u3⟩,?_⟩
    .obtain⟨a1,a2,a3,a4⟩:=hu.S9 h1 h2 O;obtain⟨b1,b2,b3,b4⟩:=r4.S9 a1 a2 O;omega
    rw[r5,g3,nW,show(1:Int)+(c:Int)=((c+1:Nat):Int) by omega]
end
end Go.Ink
namespace Go.Ink
open List renaming length→J, replicate→R9
open IntKind renaming wrap→V9
open Go.RowKit Go.Proofs.Tryz
section
open Go.MapKept
open Go.ChangeMaps (setBlock)
theorem Pj{α:Type}(cur vs:List α)(o m:Nat)(h:o+J vs<=m)(hm:m<=J cur):(cur.take o++vs++cur.drop (o+J vs)).take m=(cur.take m).take o++vs++(cur.take m).drop (o+J vs):=by
 rw[List.take_append,List.take_of_length_le Do,List.take_take,Nat.min_eq_left O,List.drop_take,ar,aU,Nat.min_eq_left O]
section
variable{C:Cx}{fr:Fr}{cs:List bH}{d:Option Nat}{T k e:TypeId}{x y z:Operand}{ty:TypeId}{pos:String}{af:Array Edge}{gd:Option (Nat×Bool)}{v:Value}{mk:bH->List bH}
variable{xs:List Value}
theorem tU{bb o n c sz:Nat}{vs:List Value}(hT:∀w,(sizeOf T).run C.P w= .ok sz w)(hx:ev fr x=some (.pointer (some ⟨bb,o,none⟩)))(hy:ev fr y=some (.agg vs.toArray))(h1:∀u∈vs,u.oneCell'=true)(hu:At cs (slv e sz (sA bb) n c xs) mk)(hn:J vs=sz)(ho:o+sz<=n*sz):
  Vx C ⟨d,.store T x y,ty,pos,af,gd⟩ fr cs true (λu cs'=>u=undef/\cs'=mk (slv e sz (sA bb) n c (xs.take o++vs++xs.drop (o+sz)))):=λa w hf hi next Q h=>by
 have hown:w.ownsRow 0 e sz (.slice (sA bb) n c) n xs:=hi.get hu.has;obtain⟨hl0,h2⟩:=hown;rcases h2 with⟨hv,_⟩|⟨g',cap,cur,hv,hg0,hh,hnc,hcm,hcs,htk⟩
 .cases hv
 simp only[Value.slice.injEq,aW,Addr.mk.injEq,and_true,true_and]at hv;obtain⟨rfl,rfl⟩:=hv;have hle:n*sz<=c*sz:=Nat.mul_le_mul_right _ hnc;have hcl:J cur.toList=c*sz:=by simpa using hcs
 have hst:=run_storeCells_at C.P bb o e vs 0 cur w hh O h1;simp only[Nat.add_zero]at hst;have hk:cX [bb] w (w.setRow bb (cur.toList.take o++vs++cur.toList.drop (o+J vs)).toArray):=⟨I,I,I,by simp_all,λj _ hj=>by
  grind [World.setRow]⟩
 have hr:(execOp a.eval ⟨d,.store T x y,ty,pos,af,gd⟩).run C.P w= .ok .skip (w.setRow bb (cur.toList.take o++vs++cur.toList.drop (o+J vs)).toArray):=by
  simp[execOp,hf.ev hx,hf.ev hy,Instr.storeAt,Instr.sureAddr,storeVar,hT,Value.cells,hst,hn]
 have hown2:(w.setRow bb (cur.toList.take o++vs++cur.toList.drop (o+J vs)).toArray).ownsRow 0 e sz (.slice (sA bb) n c) n (xs.take o++vs++xs.drop (o+sz)):=by
  refine⟨?_,.inr ⟨bb,c,(cur.toList.take o++vs++cur.toList.drop (o+J vs)).toArray,I,hg0,?_,hnc,hcm,?_,?_⟩⟩
  .grind
  .exact vD
  .grind
  grind [Pj]
 unfold Oper.wp;rw[hr];refine h _ _ _ ⟨I,I⟩ (hi.upd (hu _) v6 (kI v6 hown2 λa ha=>?_)) (λe=>by cases e)
 grind [bH.bs,ab]
theorem zJ{bb o k cc n c sz:Nat}{zs:List Value}{z:Value}(hx:ev fr x=some (.slice (some ⟨bb,o,none⟩) k cc))(hu:At cs (slv e sz (sA bb) n c xs) mk)(ht:C.P.underlying T=some (.slice e))(hz:∀w,(zeroValue e).run C.P w= .ok z w)(hz1:z.cells=zs.toArray)(hzl:J zs=sz)(hs0:0<sz)(hz2:∀u∈zs,u.oneCell'=true)(hno:n*sz<=o)(hoc:o+k*sz<=c*sz):
  Vx C ⟨d,.call {callee:= .builtin .clear,args:= #[x],argTypes:= #[T]},ty,pos,af,gd⟩ fr cs true (λv cs'=>v= .tuple #[]/\cs'=mk (slv e sz (sA bb) n c xs)):=λa w hf hi next Q h=>by
 have hown:w.ownsRow 0 e sz (.slice (sA bb) n c) n xs:=hi.get hu.has;obtain⟨hl0,h2⟩:=hown;rcases h2 with⟨hv,_⟩|⟨g',cap,cur,hv,hg0,hh,hnc,hcm,hcs,htk⟩
 .cases hv
 simp only[Value.slice.injEq,aW,Addr.mk.injEq,and_true,true_and]at hv;obtain⟨rfl,rfl⟩:=hv;have hcl:J cur.toList=c*sz:=by simpa using hcs
 obtain⟨ZC,hZC⟩:=Uk ((Builtin.zeroCells zs.toArray k).toList);have hZl:J ZC=k*sz:=by rw[<-hZC,xy,hzl]
 have hst:=run_storeCells_at C.P bb o e ZC 0 cur w hh O (λu hu=>hz2 u (xx zs k O u Do));simp only[Nat.add_zero]at hst;have key:∃w',(Builtin.clear_ #[T] ty #[.slice (some ⟨bb,o,none⟩) k cc]).run C.P w= .ok (.tuple #[]) w'/\cX [bb] w w'/\w'.ownsRow 0 e sz (.slice (sA bb) n c) n xs:=by
  cases k with
  |zero=>
   refine⟨w,by simp[Builtin.clear_,run_underlying ht],cX.refl _ _,⟨hl0,.inr ⟨bb,c,cur,rfl,hg0,hh,hnc,hcm,hcs,htk⟩⟩⟩
  |succ k=>
   refine⟨w.setRow bb (cur.toList.take o++ZC++cur.toList.drop (o+J ZC)).toArray,?_,⟨I,I,I,by simp_all,λj _ hj=>?_⟩,⟨hl0,.inr ⟨bb,c,(cur.toList.take o++ZC++cur.toList.drop (o+J ZC)).toArray,I,hg0,?_,hnc,hcm,?_,?_⟩⟩⟩
   .simp_all [Builtin.clear_,Sem.run_bind,Result.andThen,run_underlying]
   .exact vD
   .exact vD
   .grind
   grind
 obtain⟨w',jU,hk,ho⟩:=key;have hr':(execOp a.eval ⟨d,.call {callee:= .builtin .clear,args:= #[x],argTypes:= #[T]},ty,pos,af,gd⟩).run C.P w= .ok (.value (.tuple #[])) w':=by
  simp[execOp,resolve,invoke,builtin,hf.ev hx,jU]
 unfold Oper.wp;rw[hr'];refine h _ _ _ ⟨I,I⟩ (hi.upd (hu _) v6 (kI v6 ho λa ha=>?_)) (λe=>by cases e)
 grind [bH.bs,ab]
end
section
variable{C:Cx}{Q:kW}{fr:Fr}{cs:List bH}{cin cin' rest:List bH}
variable{w0 w:World}{S:List Nat}
theorem Inv.Uc(h:Inv w0 S (cR cin::rest) w)(hs:cin'.Sublist cin):Inv w0 S (cR cin'::rest) w:=by
 obtain⟨_,_,h1⟩:=h.TA;exact Inv.Tf (F:=λ_:Unit=>cin') (hb:=λ_=>I) (p:=λ_=>True) () trivial (h1.drop (hs.append (aO _)))
variable{ops:Array Oper}{l:List Oper}
theorem wj(hd:V5 cs (cR cin) rest)(hs:cin'.Sublist cin)(h:WL C ops Q l fr (cR cin'::rest)):WL C ops Q l fr cs:=λa w hf hi=>h a w hf ((hi.perm hd.perm).Uc hs)
end
end
variable{α:Type}{l:List α}{x:α}
theorem qu{k:Nat}(h:l[k]? =some x):l.drop k=x::l.drop (k+1):=by
 grind [List.getElem?_eq_some_iff,List.drop_eq_getElem_cons]
theorem Bs{α:Type}{f:α->List Value}{sz:Nat}(hf:∀a,J (f a)=sz):∀(l:List α) (i:Nat),(l.flatMap f).drop (i*sz)=(l.drop i).flatMap f
 |[],i=>by simp
 |x::l,0=>by simp
 |x::l,i+1=>by
  rw[List.flatMap_cons,List.drop_succ_cons,<-Bs hf l i,show(i+1)*sz=J (f x)+i*sz by grind,List.drop_length_add_append]
theorem yN{f:α->List Value}{sz:Nat}(hf:∀a,J (f a)=sz){l:List α}{i:Nat}{x:α}(hi:i<J l):(l.flatMap f).take (i*sz)++f x++(l.flatMap f).drop (i*sz+sz)=(l.set i x).flatMap f:=by
 rw[qq hf,show i*sz+sz=(i+1)*sz by grind,Bs hf,List.set_eq_take_append_cons_drop,if_pos hi,List.flatMap_append,List.flatMap_cons,aq]
variable{o:Option Nat}
theorem rz{α:Type}{D:α->Bool}:∀{l:List α} {i:Nat},l.findIdx? D=some i->i<J l/\l.take i++(l.drop (i+1)).filter (λx=> !D x)=l.filter (λx=> !D x)/\1+J ((l.drop (i+1)).filter D)=J (l.filter D)
 |[],i,h=>by simp at h
 |x::l,i,h=>by
  rw[List.findIdx?_cons]at h;cases hd:D x with
  |true=>
   grind
  |false=>
   rw[hd]at h;simp only[Bool.false_eq_true,if_false,Option.map_eq_some_iff]at h;obtain⟨j,hj,rfl⟩:=h;obtain⟨h1,h2,h3⟩:=rz hj
   grind
variable{j:Nat}
section
attribute [local irreducible] UL bM
variable{ρ:Type}
theorem Ln(Y:ρ->bH)(ok:ρ->Prop)(step:ρ->BA->ρ)(D:BA->Bool)(f:FuncId)(caps:List Value)(HF:∀args w,(callFunc f args).run prog w= .ok (.enter f args) w)(l:List BA)(hl:J l<=1000000)
  (HC:∀(r:ρ) (x:BA) (w:World),ok r->x∈l->Inv w (bK [Y r]) [Y r] w->Uz prog f ([]++[.agg (BA.cells x).toArray]++caps) w [Y r] (λv cs=>v= .bool (D x)/\cs=[Y (step r x)]/\ok (step r x)))
  (A:Oa) (c:Nat) (r0:ρ) (hok:ok r0) :CI prog 217 [.slice A (J l) c,.func (.func f) #[] caps.toArray] [slv 262 4 A (J l) c (l.flatMap BA.cells),Y r0] (λv cs=>∃r',v= .i (Lm (l.findIdx? D))/\r'=(l.take (idxN (J l) (l.findIdx? D))).foldl step r0/\ok r'/\cs=[slv 262 4 A (J l) c (l.flatMap BA.cells),Y r']):=λw hi=>by
 refine UH func217 ntmps217 hi ?_;refine jG ?_;refine UX (λq:Nat×ρ=>[(0,.slice A (J l) c),(1,.func (.func f) #[] caps.toArray),(7,.i (J l:Int)),(8,.i (q.1:Int))]) (λq=>[slv 262 4 A (J l) c (l.flatMap BA.cells),Y q.2]) (λq=>(q.1<=J l/\q.2=(l.take q.1).foldl step r0/\ok q.2)/\l.findIdx? D=((l.drop q.1).findIdx? D).map (· +q.1)) (λq=>J l - q.1) (⟨0,r0⟩) ?_ ?_
 .simp_all
 rintro⟨j,r⟩ ⟨⟨hj,hr,hrk⟩,hf⟩;dsimp only at hj hr hrk hf|-;refine Ul ?_ ?_<;>intro hc2
 .simp only[ah]at hc2;have hjl:j<J l:=O;obtain⟨bs,rfl⟩:=hH (hi.get (Ur (slv 262 4 A (J l) c (l.flatMap BA.cells)))) O;obtain⟨x,hx⟩:∃x,l[j]? =some x:=⟨_,aj hjl⟩;rw[qu hx,List.findIdx?_cons]at hf;refine oQ ?_;refine Zy (bW (bb:=bs) (o:=0) (n:=J l) (c:=c) (j:=j) (sz:=4) (r:=j*4) I ir (Zv I) (Zv I) ir Uq O) ?_;refine dW (cj (vs:=BA.cells x) ir ir ne) (nk Zh (λi v Xb=>fK (f:=BA.cells) ir hx Xb)) I (Rb ?_);rintro _ _ ⟨_,⟨rfl,rfl,hrk2⟩,rfl⟩;obtain⟨r2,hr2⟩:=Uk (step r x);rw[hr2]at hrk2|-;have hr3:r2=(l.take (j+1)).foldl step r0:=(by rw[<-hr2,hr,pW hx]);refine py ?_;refine ZW ?_ ?_<;>intro hc4
  .rw[hc4,if_pos rfl]at hf;have hf:l.findIdx? D=some j:=Do;rw[hf];refine fo ?_;refine bI [slv 262 4 (sA bs) (J l) c (l.flatMap BA.cells),Y r2] Zj (Vd ([_,_]) ?_);exact⟨r2,I,hr3,hrk2,I⟩
  exact Wx36_
 simp only[aa]at hc2;obtain rfl:j=J l:=O;exact Wq303
theorem delB_ok(Y:ρ->bH)(ok:ρ->Prop)(step:ρ->BA->ρ)(D:BA->Bool)(f:FuncId)(caps:List Value)(HF:∀args w,(callFunc f args).run prog w= .ok (.enter f args) w)(l:List BA)(hl:J l<=1000000)
  (HC:∀(r:ρ) (x:BA) (w:World),ok r->x∈l->Inv w (bK [Y r]) [Y r] w->Uz prog f ([]++[.agg (BA.cells x).toArray]++caps) w [Y r] (λv cs=>v= .bool (D x)/\cs=[Y (step r x)]/\ok (step r x)))
  (A:Oa) (c:Nat) (r0:ρ) (hok:ok r0) :CI prog 171 [.slice A (J l) c,.func (.func f) #[] caps.toArray] [slv 262 4 A (J l) c (l.flatMap BA.cells),Y r0] (λv cs=>v= .slice A (J (l.filter λx=> !D x)) c/\cs=[slv 262 4 A (J (l.filter λx=> !D x)) c ((l.filter λx=> !D x).flatMap BA.cells),Y (l.foldl step r0)]):=λw hi=>by
 have HI:=Ln Y ok step D f caps HF l hl HC A c r0 hok;have hcap:=(hi.rd (.head (slv 262 4 A (J l) c (l.flatMap BA.cells)) _)).cap;have hfn:=Bu (D:=D) (l:=l);have hfs:=λi=>rz (D:=D) (l:=l) (i:=i)
 obtain⟨o,ho⟩:=Uk (l.findIdx? D);rw[ho]at HI hfn hfs;refine UH func171 ntmps171 hi ?_;refine UE ?_;refine dE ([slv 262 4 A (J l) c (l.flatMap BA.cells),Y r0]) (λw hi hin=>HI w hin) ?_;rintro _ _ ⟨r1,rfl,hr1,hok1,rfl⟩;refine oI ?_ ?_<;>intro hc2
 .obtain rfl:=Fk hc2;obtain⟨hf1,hf2⟩:=hfn I;refine UG ?_;exact Wq445
 obtain⟨i0,rfl⟩:=Fj hc2;obtain⟨hf1,hf2,hf3⟩:=hfs i0 I;obtain⟨bs,rfl⟩:=hH (hi.get (Ur (slv 262 4 A (J l) c (l.flatMap BA.cells)))) O;refine Wq433 ?_;refine UX (λq:(Nat×Nat)×List BA×ρ=>[(0,.slice (sA bs) (J l) c),(1,.func (.func f) #[] caps.toArray),(5,.i (q.1.1:Int)),(6,.i (q.1.2:Int))]) (λq=>[slv 262 4 (sA bs) (J l) c (q.2.1.flatMap BA.cells),Y q.2.2]) (λq=>(q.2.2=(l.take q.1.2).foldl step r0/\ok q.2.2)/\q.1.1<q.1.2/\q.1.2<=J l/\J q.2.1=J l/\q.2.1.drop q.1.2=l.drop q.1.2/\q.2.1.take q.1.1++(l.drop q.1.2).filter (λx=> !D x)=l.filter (λx=> !D x)) (λq=>J l - q.1.2) (⟨(i0,i0+1),l,r1⟩) ⟨⟨hr1,hok1⟩,Nat.lt_succ_self _,by grind,rfl,rfl,hf2⟩ ?_;rintro⟨⟨i,j⟩,V,r⟩ ⟨⟨hr,hrk⟩,hij,hj,hV,hVd,hT⟩;dsimp only at hr hrk hij hj hV hVd hT|-;refine VM ?_ ?_<;>intro hc5
 .simp only[ah]at hc5;have hjl:j<J l:=O;obtain⟨x,hx⟩:∃x,l[j]? =some x:=⟨_,aj hjl⟩;have hVx:V[j]? =some x:=(by have:=congrArg (λz=>z[0]?) hVd;grind);rw[qu hx]at hT;rw[qu hx,qu hVx,List.cons.injEq]at hVd;rw[List.filter_cons]at hT;refine UG ?_;refine Zy (bW (bb:=bs) (o:=0) (n:=J l) (c:=c) (j:=j) (sz:=4) (r:=j*4) I ir (Zv I) (Zv I) ir Uq O) ?_;refine dW (cj (vs:=BA.cells x) ir ir ne) (nk Zh (λi v Xb=>fK (f:=BA.cells) ir hVx Xb)) I ?_;refine ZN λb7=>?_
  refine et (cH ir I I (mO x) Za mJ) ?_;refine Uw ?_;refine UA ?_;refine Rb ?_;rintro _ _ ⟨_,⟨rfl,rfl,hrk2⟩,rfl⟩;obtain⟨r2,hr2⟩:=Uk (step r x);rw[hr2]at hrk2|-;have hr3:r2=(l.take (j+1)).foldl step r0:=(by rw[<-hr2,hr,pW hx]);refine Vs ?_ ?_<;>intro hc8
  .have hD:D x=false:=Do;rw[hD]at hT;simp only[Bool.not_false,if_true]at hT;refine Uu ?_;refine Zy (bW (bb:=bs) (o:=0) (n:=J l) (c:=c) (j:=i) (sz:=4) (r:=i*4) I ir (Zv I) (Zv I) ir Uq O) ?_;refine et (tU (sz:=4) (n:=J l) (vs:=BA.cells x) ir I I (mO x) Za I O) ?_;refine Uw ?_;rw[yN (f:=BA.cells) (sz:=4) ir (show i<J V by omega)];refine Ut ?_;refine mT ?_;refine UA ?_;refine WR ?_;refine UN ((⟨(i+1,j+1),V.set i x,r2⟩:(Nat×Nat)×List BA×ρ)) ⟨⟨⟨hr3,hrk2⟩,by grind,by grind,by grind,by dsimp only;rw[List.drop_set_of_lt O,hVd.2],by dsimp only;rw[List.take_succ_eq_append_getElem Do,List.take_set_of_le (aL _),List.getElem_set_self,aq];exact hT⟩,by grind⟩
  have hD:D x=true:=Do;rw[hD]at hT;simp only[Bool.not_true,Bool.false_eq_true,if_false]at hT;refine kb ?_;refine UN ((⟨(i,j+1),V,r2⟩:(Nat×Nat)×List BA×ρ)) Do
 simp only[aa]at hc5;obtain rfl:j=J l:=O;rw[List.drop_length]at hT;rw[List.filter_nil,ax]at hT;rw[List.take_length]at hr;have hil:J (l.filter λx=> !D x)=i:=Do;refine UE ?_;refine Zy (kX (bb:=bs) (o:=0) (n:=J l) (c:=c) (lo:=i) (hi:=J l) (r:=0+i*4) (sz:=4) I ir (Zv I) (.inr ⟨_,_,I,(Zv I)⟩) (.inl ⟨I,I⟩) O O O O) ?_;refine Ci (c:=slv 262 4 (sA bs) (J l) c (V.flatMap BA.cells)) (c':=slv 262 4 (sA bs) i c ((V.flatMap BA.cells).take (i*4))) Za I (EB O) ?_
 refine et (zJ I Za I ir (sz:=4) I I An (by intro u hu;simp only[aI,aV,or_false]at hu;rcases hu with rfl|rfl|rfl|rfl<;>rfl) O O) ?_;refine Uw ?_;refine UA ?_;refine Zy (eO i I ir (Zv I) (Zv I) qD Uq) ?_;refine Ut ?_;refine Vd ([_,_]) ?_;rw[hil,qq (f:=BA.cells) (sz:=4) ir,hT,<-hr];exact ff
theorem idxK_ok(Y:ρ->bH)(ok:ρ->Prop)(step:ρ->Ky->ρ)(D:Ky->Bool)(f:FuncId)(caps:List Value)(HF:∀args w,(callFunc f args).run prog w= .ok (.enter f args) w)(l:List Ky)(hl:J l<=1000000)
  (HC:∀(r:ρ) (x:Ky) (w:World),ok r->x∈l->Inv w (bK [Y r]) [Y r] w->Uz prog f ([]++[.agg (cy x).toArray]++caps) w [Y r] (λv cs=>v= .bool (D x)/\cs=[Y (step r x)]/\ok (step r x)))
  (A:Oa) (c:Nat) (r0:ρ) (hok:ok r0) :CI prog 283 [.slice A (J l) c,.func (.func f) #[] caps.toArray] [slv 173 2 A (J l) c (l.flatMap cy),Y r0] (λv cs=>∃r',v= .i (Lm (l.findIdx? D))/\r'=(l.take (idxN (J l) (l.findIdx? D))).foldl step r0/\ok r'/\cs=[slv 173 2 A (J l) c (l.flatMap cy),Y r']):=λw hi=>by
 refine UH func283 ntmps283 hi ?_;refine jG ?_;refine UX (λq:Nat×ρ=>[(0,.slice A (J l) c),(1,.func (.func f) #[] caps.toArray),(7,.i (J l:Int)),(8,.i (q.1:Int))]) (λq=>[slv 173 2 A (J l) c (l.flatMap cy),Y q.2]) (λq=>(q.1<=J l/\q.2=(l.take q.1).foldl step r0/\ok q.2)/\l.findIdx? D=((l.drop q.1).findIdx? D).map (· +q.1)) (λq=>J l - q.1) (⟨0,r0⟩) ?_ ?_
 .simp_all
 rintro⟨j,r⟩ ⟨⟨hj,hr,hrk⟩,hf⟩;dsimp only at hj hr hrk hf|-;refine Ul ?_ ?_<;>intro hc2
 .simp only[ah]at hc2;have hjl:j<J l:=O;obtain⟨bs,rfl⟩:=hH (hi.get (Ur (slv 173 2 A (J l) c (l.flatMap cy)))) O;obtain⟨x,hx⟩:∃x,l[j]? =some x:=⟨_,aj hjl⟩;rw[qu hx,List.findIdx?_cons]at hf;refine oQ ?_;refine Zy (bW (bb:=bs) (o:=0) (n:=J l) (c:=c) (j:=j) (sz:=2) (r:=j*2) I ir (Zv I) (Zv I) ir Uq O) ?_;refine dW (cj (vs:=cy x) ir ir ne) (nk Zh (λi v Xb=>fK (f:=cy) ir hx Xb)) I (Rb ?_);rintro _ _ ⟨_,⟨rfl,rfl,hrk2⟩,rfl⟩;obtain⟨r2,hr2⟩:=Uk (step r x);rw[hr2]at hrk2|-;have hr3:r2=(l.take (j+1)).foldl step r0:=(by rw[<-hr2,hr,pW hx]);refine py ?_;refine ZW ?_ ?_<;>intro hc4
  .rw[hc4,if_pos rfl]at hf;have hf:l.findIdx? D=some j:=Do;rw[hf];refine fo ?_;refine bI [slv 173 2 (sA bs) (J l) c (l.flatMap cy),Y r2] Zj (Vd ([_,_]) ?_);exact⟨r2,I,hr3,hrk2,I⟩
  exact Wx36_
 simp only[aa]at hc2;obtain rfl:j=J l:=O;exact Wq303
theorem delK_ok(Y:ρ->bH)(ok:ρ->Prop)(step:ρ->Ky->ρ)(D:Ky->Bool)(f:FuncId)(caps:List Value)(HF:∀args w,(callFunc f args).run prog w= .ok (.enter f args) w)(l:List Ky)(hl:J l<=1000000)
  (HC:∀(r:ρ) (x:Ky) (w:World),ok r->x∈l->Inv w (bK [Y r]) [Y r] w->Uz prog f ([]++[.agg (cy x).toArray]++caps) w [Y r] (λv cs=>v= .bool (D x)/\cs=[Y (step r x)]/\ok (step r x)))
  (A:Oa) (c:Nat) (r0:ρ) (hok:ok r0) :CI prog 219 [.slice A (J l) c,.func (.func f) #[] caps.toArray] [slv 173 2 A (J l) c (l.flatMap cy),Y r0] (λv cs=>v= .slice A (J (l.filter λx=> !D x)) c/\cs=[slv 173 2 A (J (l.filter λx=> !D x)) c ((l.filter λx=> !D x).flatMap cy),Y (l.foldl step r0)]):=λw hi=>by
 have HI:=idxK_ok Y ok step D f caps HF l hl HC A c r0 hok;have hcap:=(hi.rd (.head (slv 173 2 A (J l) c (l.flatMap cy)) _)).cap;have hfn:=Bu (D:=D) (l:=l);have hfs:=λi=>rz (D:=D) (l:=l) (i:=i)
 obtain⟨o,ho⟩:=Uk (l.findIdx? D);rw[ho]at HI hfn hfs;refine UH func219 ntmps219 hi ?_;refine UE ?_;refine dE ([slv 173 2 A (J l) c (l.flatMap cy),Y r0]) (λw hi hin=>HI w hin) ?_;rintro _ _ ⟨r1,rfl,hr1,hok1,rfl⟩;refine oI ?_ ?_<;>intro hc2
 .obtain rfl:=Fk hc2;obtain⟨hf1,hf2⟩:=hfn I;refine UG ?_;exact Wq445
 obtain⟨i0,rfl⟩:=Fj hc2;obtain⟨hf1,hf2,hf3⟩:=hfs i0 I;obtain⟨bs,rfl⟩:=hH (hi.get (Ur (slv 173 2 A (J l) c (l.flatMap cy)))) O;refine Wq433 ?_;refine UX (λq:(Nat×Nat)×List Ky×ρ=>[(0,.slice (sA bs) (J l) c),(1,.func (.func f) #[] caps.toArray),(5,.i (q.1.1:Int)),(6,.i (q.1.2:Int))]) (λq=>[slv 173 2 (sA bs) (J l) c (q.2.1.flatMap cy),Y q.2.2]) (λq=>(q.2.2=(l.take q.1.2).foldl step r0/\ok q.2.2)/\q.1.1<q.1.2/\q.1.2<=J l/\J q.2.1=J l/\q.2.1.drop q.1.2=l.drop q.1.2/\q.2.1.take q.1.1++(l.drop q.1.2).filter (λx=> !D x)=l.filter (λx=> !D x)) (λq=>J l - q.1.2) (⟨(i0,i0+1),l,r1⟩) ⟨⟨hr1,hok1⟩,Nat.lt_succ_self _,by grind,rfl,rfl,hf2⟩ ?_;rintro⟨⟨i,j⟩,V,r⟩ ⟨⟨hr,hrk⟩,hij,hj,hV,hVd,hT⟩;dsimp only at hr hrk hij hj hV hVd hT|-;refine VM ?_ ?_<;>intro hc5
 .simp only[ah]at hc5;have hjl:j<J l:=O;obtain⟨x,hx⟩:∃x,l[j]? =some x:=⟨_,aj hjl⟩;have hVx:V[j]? =some x:=(by have:=congrArg (λz=>z[0]?) hVd;grind);rw[qu hx]at hT;rw[qu hx,qu hVx,List.cons.injEq]at hVd;rw[List.filter_cons]at hT;refine UG ?_;refine Zy (bW (bb:=bs) (o:=0) (n:=J l) (c:=c) (j:=j) (sz:=2) (r:=j*2) I ir (Zv I) (Zv I) ir Uq O) ?_;refine dW (cj (vs:=cy x) ir ir ne) (nk Zh (λi v Xb=>fK (f:=cy) ir hVx Xb)) I ?_;refine ZN λb7=>?_
  refine et (cH ir I I (uM x) Za mJ) ?_;refine Uw ?_;refine UA ?_;refine Rb ?_;rintro _ _ ⟨_,⟨rfl,rfl,hrk2⟩,rfl⟩;obtain⟨r2,hr2⟩:=Uk (step r x);rw[hr2]at hrk2|-;have hr3:r2=(l.take (j+1)).foldl step r0:=(by rw[<-hr2,hr,pW hx]);refine Vs ?_ ?_<;>intro hc8
  .have hD:D x=false:=Do;rw[hD]at hT;simp only[Bool.not_false,if_true]at hT;refine Uu ?_;refine Zy (bW (bb:=bs) (o:=0) (n:=J l) (c:=c) (j:=i) (sz:=2) (r:=i*2) I ir (Zv I) (Zv I) ir Uq O) ?_;refine et (tU (sz:=2) (n:=J l) (vs:=cy x) ir I I (uM x) Za I O) ?_;refine Uw ?_;rw[yN (f:=cy) (sz:=2) ir (show i<J V by omega)];refine Ut ?_;refine mT ?_;refine UA ?_;refine WR ?_;refine UN ((⟨(i+1,j+1),V.set i x,r2⟩:(Nat×Nat)×List Ky×ρ)) ⟨⟨⟨hr3,hrk2⟩,by grind,by grind,by grind,by dsimp only;rw[List.drop_set_of_lt O,hVd.2],by dsimp only;rw[List.take_succ_eq_append_getElem Do,List.take_set_of_le (aL _),List.getElem_set_self,aq];exact hT⟩,by grind⟩
  have hD:D x=true:=Do;rw[hD]at hT;simp only[Bool.not_true,Bool.false_eq_true,if_false]at hT;refine kb ?_;refine UN ((⟨(i,j+1),V,r2⟩:(Nat×Nat)×List Ky×ρ)) Do
 simp only[aa]at hc5;obtain rfl:j=J l:=O;rw[List.drop_length]at hT;rw[List.filter_nil,ax]at hT;rw[List.take_length]at hr;have hil:J (l.filter λx=> !D x)=i:=Do;refine UE ?_;refine Zy (kX (bb:=bs) (o:=0) (n:=J l) (c:=c) (lo:=i) (hi:=J l) (r:=0+i*2) (sz:=2) I ir (Zv I) (.inr ⟨_,_,I,(Zv I)⟩) (.inl ⟨I,I⟩) O O O O) ?_;refine Ci (c:=slv 173 2 (sA bs) (J l) c (V.flatMap cy)) (c':=slv 173 2 (sA bs) i c ((V.flatMap cy).take (i*2))) Za I (EB O) ?_
 refine et (zJ I Za I ir (sz:=2) I I An (by intro u hu;simp only[aI,aV,or_false]at hu;rcases hu with rfl|rfl<;>rfl) O O) ?_;refine Uw ?_;refine UA ?_;refine Zy (eO i I ir (Zv I) (Zv I) qD Uq) ?_;refine Ut ?_;refine Vd ([_,_]) ?_;rw[hil,qq (f:=cy) (sz:=2) ir,hT,<-hr];exact ff
end
variable{a:Int}
variable{P:Program}{d:Nat}
theorem Dv{k:TypeId}{f1 f2:Field}{b:Int}(hk:P.underlying k=some (.struct #[f1,f2]))(hc:P.cellsOf k=2)(hn:(#[f1,f2]:Array Field).all (·.name != "_")=true)
  (h1:P.underlying f1.type=some (.int .u32)) (h2:P.underlying f2.type=some (.int .u32)) (o1:f1.offset=0) (o2:f2.offset=1) (c1:P.cellsOf f1.type=1) (c2:P.cellsOf f2.type=1) (ha:(Lit.int .u32 a).wf=true) (hb:(Lit.int .u32 b).wf=true):
  P.keyLits (d+2) k [.w a,.w b]=some [.w a,.w b]:=by
 unfold Program.keyLits;rw[hk];have e1:J [Value.w a,.w b]=P.cellsOf k/\(#[f1,f2]:Array Field).all (·.name != "_")=true:=⟨by rw[hc];rfl,hn⟩;show(if _ then _ else none)=_;rw[if_pos e1];show((([f1,f2]:List Field).mapM λf=>P.keyLits (d+1) f.type (([Value.w a,.w b].drop f.offset).take (P.cellsOf f.type))).map List.flatten)=_;simp only[List.mapM_cons,List.mapM_nil,o1,o2,c1,c2,List.drop_zero,List.drop_succ_cons,List.take_succ_cons,List.take_zero,uO h1 ha,uO h2 hb,Option.bind_eq_bind,Option.bind_some,Option.pure_def,Option.map_some]
 rfl
theorem K3{n:Nat}{k:TypeId}{f1 f2:Field}{q:Ky}(hs:P.types.size=n+1)(hk:P.underlying k=some (.struct #[f1,f2]))(hkt:P.keyType k=true)(hf:(Vj q).formed P k=true)(hc:P.cellsOf k=2)(hn:(#[f1,f2]:Array Field).all (·.name != "_")=true)
  (h1:P.underlying f1.type=some (.int .u32)) (h2:P.underlying f2.type=some (.int .u32)) (o1:f1.offset=0) (o2:f2.offset=1) (c1:P.cellsOf f1.type=1) (c2:P.cellsOf f2.type=1) (hq:lA q):∃l,keyOf P k (Vj q)=some l:=by
 refine⟨.string (keyBytes [.w q.1,.w q.2]),?_⟩;unfold keyOf;rw[hk];show(if _ then _ else none)=_;rw[if_pos (by rw[hkt,hf];rfl),hs];show(P.keyLits (n+2) k [.w q.1,.w q.2]).map _=_;rw[Dv hk hc hn h1 h2 o1 o2 c1 c2 (RD hq.1) (RD hq.2)]
 rfl
theorem Dt:rQ prog 173:=by
 refine⟨Maps.Keyed.of_law (deep_law_laid Yh (m:=2) O RV (by kernel_rfl) keyWide),λq hq=>?_⟩;obtain⟨f1,f2,hu,h1,h2,h3,h4,h5,h6,h7⟩:=Pp;obtain⟨n,hn⟩:∃n,prog.types.size=n+1:=⟨prog.types.size - 1,by have:(173:Nat)<prog.types.size:=RV;omega⟩;exact K3 hn hu keyKind (by simp[Vj,Value.formed,hu,Ff]) Ff h1 h2 h3 h4 h5 h6 h7 hq
section
variable{C:Cx}{Q:kW}{fr:Fr}{cs:List bH}{cin cin' rest:List bH}{e:Exit}
theorem mB(hd:V5 cs (cR cin) rest)(hs:cin'.Sublist cin)(h:Vh C Q e fr (cR cin'::rest)):Vh C Q e fr cs:=λa w hf hi=>h a w hf ((hi.perm hd.perm).Uc hs)
end
end Go.Ink
