/- Lemmas. -/
import Derived.Test.YtepfimeihngjoaaGreatDoorXbs
set_option linter.all false
set_option maxRecDepth 100000
set_option maxHeartbeats 4000000
namespace Go.Proofs.YtepfimeihngjoaaGreatDoor
open List renaming length→J, replicate→R9
open IntKind renaming wrap→V9
open Go.RowKit Go.Ink Go.Proofs.Tryz
attribute [local irreducible] Ve bN
abbrev docF(R:wy)(n:Nat)(l k:Li):List bJ:=row R.bg (St.new.cells (.slice none 0 0) (.slice none 0 0)++[.p R.bx,.p R.by_]) 41::(nD R.K n (kL n l) (R9 n false)++[fv R.bx R.K.bm cX]++eI R.by_ R.K.bm R.bd ⟨none,0,none,0⟩ (UF.init k))
end Go.Proofs.YtepfimeihngjoaaGreatDoor
namespace Go.Proofs.YtepfimeihngjoaaGreatDoor
open List renaming length→J, replicate→R9
open IntKind renaming wrap→V9
open Go.RowKit Go.Ink Go.Proofs.Tryz
attribute [local irreducible] Ve bN
abbrev dgRow(R:wy)(s:St)(X:dz):bJ:=row R.bg (s.cells (.slice X.Ad (J s.d) X.cd) (.slice X.Ar (J s.r) X.cr)++[.p R.bx,.p R.by_]) 41
theorem Ge(R:wy)(n:Nat)(s:St)(X:dz)(T:List TE)(Y:dJ)(d:UF)(data:Li)(hda:J data=n*64)(hdk:J d.S8=1024)(w:World)(h0:(dgRow R s X).ok w)(h1:(fv R.bx R.K.bm T).ok w)(h2:(dmRow R n).ok w)(h3:(dbRow R Y d).ok w):
  CW prog 21 [.p R.bg] w (vv ⟨s,data,d.out,d.inp,d.S8,d.S7,d.mask,false⟩ ⟨X,some ⟨R.K.bB,0,none⟩,n*64,Y.Ao,Y.co,Y.Ai,Y.ci,some ⟨R.bd,0,none⟩,1024⟩):=by
 unfold vv Vw.cells;dsimp only;rw[hda,hdk];refine UV func21 ntmps21 ?_;refine An ?_;refine ZN λb2=>?_;refine UN ?_;refine bQ (Vg [50]) Zk (nZ ?_);refine Vn 3 I (bX (vs:=s.cells (.slice X.Ad (J s.d) X.cd) (.slice X.Ar (J s.r) X.cr)) ir ir py) (oE (o:=0) h0 I) ?_;refine ZE 4 ?_;refine ZE 5 ?_;refine UE 6 16 ?_;refine Vn 7 I (bO ir (Zv I)) (cW gQ I) ?_;refine ZE 8 ?_;refine UE 9 0 ?_;refine Vn 10 I (bO ir (Zv I)) (cW gQ I) ?_;refine ZE 11 ?_;refine UE 12 0 ?_;refine Vn 13 I (bO ir (Zv I)) (cW gQ I) ?_;refine ZE 14 ?_;refine ZE 15 ?_;refine UE 16 17 ?_;refine Vn 17 I (bO ir (Zv I)) (cW gQ I) ?_;refine ZE 18 ?_;refine UE 19 4 ?_;refine Vn 20 I (bO ir (Zv I)) (cW gQ I) ?_;refine ZE 21 ?_;refine ZE 22 ?_;refine UE 23 17 ?_;refine Vn 24 I (bO ir (Zv I)) (cW gQ I) ?_;refine ZE 25 ?_;refine UE 26 5 ?_;refine Vn 27 I (bO ir (Zv I)) (cW gQ I) ?_;refine ZE 28 ?_;refine ZE 29 ?_;refine UE 30 17 ?_;refine Vn 31 I (bO ir (Zv I)) (cW gQ I) ?_;refine ZE 32 ?_;refine UE 33 6 ?_;refine Vn 34 I (bO ir (Zv I)) (cW gQ I) ?_;refine ZE 35 ?_;refine ZE 36 ?_;refine UE 37 17 ?_;refine Vn 38 I (bO ir (Zv I)) (cW gQ I) ?_;refine ZE 39 ?_;refine UE 40 1 ?_;refine Vn 41 I (bO ir (Zv I)) (cW gQ I) ?_;refine ZE 42 ?_;refine ZE 43 ?_;refine UE 44 17 ?_;refine Vn 45 I (bO ir (Zv I)) (cW gQ I) ?_;refine ZE 46 ?_;refine UE 47 2 ?_;refine Vn 48 I (bO ir (Zv I)) (cW gQ I) ?_;refine ZE 49 ?_;refine cP 50 Zk (ZR ?_);refine pk ?_;exact EC
end Go.Proofs.YtepfimeihngjoaaGreatDoor
namespace Go.Ink
open List renaming length→J, replicate→R9
open IntKind renaming wrap→V9
open Go.RowKit
section
variable{n:Nat}{op nn:Int}{s:St}{U:UI}{d:UF}{R:UG}
theorem Kc(h:d.said)(va v:Nat):(eZ n R U d va v).d.said:=by
 unfold eZ;refine bL (λm:eu=>m.d.said) h ?_;exact bL (λm:eu=>m.d.said) (zN h _ _) h
theorem Hz{m:eu}(h:m.d.said):(cF n op nn m).d.said:=by
 unfold cF;refine bL (λm:eu=>m.d.said) (Lu h _) ?_;refine bL (λm:eu=>m.d.said) (Kc h _ _) ?_
 repeat (first|exact h|refine bL (λm:eu=>m.d.said) h ?_)
theorem Pq(h:d.said):(nF n s op nn U d).d.said:=by
 unfold nF;cases cV op nn (fm s op)with
 |some R=>exact h
 |none=>exact bL (λm:eu=>m.d.said) h (Hz h)
theorem MO(h:d.said):(ls n s op nn U d).2.2.said:=by
 unfold ls;refine bL (λq:WP×UI×UF=>q.2.2.said) h ?_;exact bL (λq:WP×UI×UF=>q.2.2.said) h (Pq h)
theorem A0(Tc:Nat):∀(k:Nat) {s:St} (p:Nat) {U:UI} {d:UF},d.said->(dR n Tc k s p U d).2.2.said
 |0,s,p,U,d,h=>h
 |k+1,s,p,U,d,h=>by
  rw[dR];cases dL n U.m p with
  |none=>exact h
  |some q=>
   obtain⟨⟨op,nn⟩,sz⟩:=q;exact bL (λq:St×UI×UF=>q.2.2.said) (A0 Tc k _ (MO h)) (MO h)
theorem IM(h:d.said):(cS n s U d).2.2.said:=by
 unfold cS;exact bL (λq:St×UI×UF=>q.2.2.said) (A0 _ _ _ (x7 h)) (x7 h)
theorem xu{m f:Int}:∀(k:Nat) {q:St×UI×UF},q.2.2.said->(kJ n m f k q).2.2.said
 |0,q,h=>h
 |k+1,q,h=>by
  unfold kJ;exact bL (λq:St×UI×UF=>q.2.2.said) (xu k (IM h)) h
theorem OM(m:Int)(h:d.said):(eH n m s U d).2.2.said:=xu _ h
end
end Go.Ink
namespace Go.Proofs.YtepfimeihngjoaaGreatDoor
open List renaming length→J, replicate→R9
open IntKind renaming wrap→V9
open Go.RowKit Go.Ink Go.Proofs.Tryz
attribute [local irreducible] Ve bN
theorem xO(H:ug)(G:VS)(h64:J G.d.inp<=64)(A:Oa)(c:Nat)(l:Li)(hl:J l<=9223372036854775807)(w:World)(hi:Inv w (bM (Vp H G)) (Vp H G) w)(h:∀w',dc (bM (Vp H G)) w w'->Rd w' .u8 A (J l) c l):
  UW prog 60 [.p H.bg,.slice A (J l) c] w (Vp H G)
   (λv cs=>∃Y',v= .i (G.d.Tz l:Int)/\cs=Vp H ⟨G.s,G.X,Y',G.U,G.d.Tp l,G.o⟩):=by
 obtain⟨s,X,Y,U,d,o⟩:=G;dsimp only at h64|-;have HB:=we H.D H.L.bm Y d h64 A c l hl;obtain⟨d2,hd⟩:=Do (d.Tp l);obtain⟨N,hN⟩:=Do (d.Tz l);rw[hd,hN]at HB|-;refine Vb func60 ntmps60 hi ?_;refine eL ?_;refine XR 22 ?_;refine rZ ?_;refine U8 ?_;refine dH (my H.D H.L.bm Y d) (λw hi hin=>HB w hin (λw' hk=>h w' (hi.TC Zi hk))) ?_;rintro _ _ ⟨Y2,rfl,rfl⟩;refine UK ?_;refine bK (Vp H ⟨s,X,Y2,U,d2,o⟩) Zj (VA ((Vp H ⟨s,X,Y2,U,d2,o⟩)) ?_);exact⟨Y2,I,I⟩
end Go.Proofs.YtepfimeihngjoaaGreatDoor
namespace Go.Ink
open List renaming length→J, replicate→R9
open IntKind renaming wrap→V9
open Go.RowKit
theorem UW.via{P:Program}{f:FuncId}{args:List Value}{w:World}{cs0 cin rest:List bJ}{K1 K:Value->List bJ->Prop}(h1:Inv w (bM cs0) (cin++rest) w)(hc:Inv w (bM cin) cin w->UW P f args w cin K1)
  (hk:∀v cout w',K1 v cout->Inv w (bM cs0) (cout++rest) w'->∃cs',K v cs'/\Inv w (bM cs0) cs' w'):UW P f args w cs0 K:=by
 have hi:Inv w (bM cin) cin w:=⟨dc.refl _ _,(List.nodup_append.1 (by have:=h1.nodup;rw[fg]at this;exact this)).1,λc hc=>h1.ok c (aJ.2 (.inl hc)),λb hb=> .inl hb⟩;refine Calls.mono (hc hi) λe w' hq=>?_
 obtain⟨v,cout,rfl,hk1,hi2⟩:=hq;have h3:Inv w (bM cs0) (cout++rest) w':=h1.step (cin:=cin) (rest:=rest) (cout:=cout) (.refl _) (.refl _) hi2.To hi2
 grind
end Go.Ink
namespace Go.Proofs.YtepfimeihngjoaaGreatDoor
open List renaming length→J, replicate→R9
open IntKind renaming wrap→V9
open Go.RowKit Go.Ink Go.Proofs.Tryz
structure Ou where
 n:Int
 v:Vw
 why:Int
def Ag.view(a:Ag):Vw:=bif a.dead then deadV else⟨a.s,a.U.m.data,a.d.out,a.d.inp,a.d.S8,a.d.S7,a.d.mask,false⟩
def Ag.run(m:Int)(a:Ag):Ag:=⟨a.n,(eH a.n m a.s a.U a.d).1,(eH a.n m a.s a.U a.d).2.1,(eH a.n m a.s a.U a.d).2.2,a.dead⟩
abbrev ItR.cells(x:ItR):List Value:=[.i x.kind,.i x.TO,.i x.n,.slice x.A (J x.b) x.c]
abbrev Ou.cells(o:Ou)(Y:VAd):List Value:= .i o.n::(o.v.cells Y++[.i o.why])
structure OuR where
 o:Ou
 Y:VAd
abbrev OuR.cells(z:OuR):List Value:=z.o.cells z.Y
end Go.Proofs.YtepfimeihngjoaaGreatDoor
namespace Go.Proofs.YtepfimeihngjoaaGreatDoor
open List renaming length→J, replicate→R9
open IntKind renaming wrap→V9
open Go.RowKit Go.Ink Go.Proofs.Tryz
attribute [local irreducible] Ve bN
theorem vH(H:ug)(G:VS)(n:Nat)(hG:G.ok n):CI prog 47 [.p H.bg] (Vp H G) (λ_ cs=>∃G',(G'.ok n/\(G'.s,G'.U,G'.d)=(G.s,G.U,G.d))/\cs=Vp H G'):=λw hi=>by
 obtain⟨s,X,Y,U,d,o⟩:=G;cases o with
 |none=>
  refine Vb func47 ntmps47 hi ?_;refine U8 ?_;refine lN ?_;refine Zc (bK (Vp H ⟨s,X,Y,U,d,none⟩) Zj ?_);exact io (cs':=(Vp H ⟨s,X,Y,U,d,none⟩)) (.inr I) Zu I ⟨⟨s,X,Y,U,d,none⟩,⟨hG,I⟩,I⟩
 |some E=>
  have hE:=hG.e E I;refine Vb func47 ntmps47 hi ?_;refine U8 ?_;refine iS ?_;refine Zr (Jx (bs:=bM (Vt H.be E)) (F:=λ_:Unit=>Vt H.be E) (hb:=λ_=>I) (p:=λ_=>True) Zd (λ_ _=>?_));refine UK ?_;refine dH (Vt H.be E) (λw hi hin=>Ci H.be E w hin) ?_;rintro _ _ ⟨ml,fl,rfl⟩;refine mA (Vt H.be ⟨E.bc,E.mr,E.room,⟨ml,none,0,fl,[],[]⟩,[],E.last,E.Ti,E.Tk,E.begun⟩) Zi (Zn (bK (Vp H ⟨s,X,Y,U,d,some ⟨E.bc,E.mr,E.room,⟨ml,none,0,fl,[],[]⟩,[],E.last,E.Ti,E.Tk,E.begun⟩⟩) Zj ?_));exact io (cs':=(Vp H ⟨s,X,Y,U,d,some ⟨E.bc,E.mr,E.room,⟨ml,none,0,fl,[],[]⟩,[],E.last,E.Ti,E.Tk,E.begun⟩⟩)) (.inr I) Zu I ⟨⟨s,X,Y,U,d,some ⟨E.bc,E.mr,E.room,⟨ml,none,0,fl,[],[]⟩,[],E.last,E.Ti,E.Tk,E.begun⟩⟩,⟨⟨hG.g,λE' h=>by cases h;exact hE.flush ml fl⟩,I⟩,I⟩
theorem B1(H:ug)(G:VS)(A:Oa)(c:Nat)(n:Int)(w:World)(hi:Inv w (bM (Vp H G)) (Vp H G) w)(h:∀w',dc (bM (Vp H G)) w w'->Rd w' .i64 A 1 c [n]):
  UW prog 62 [.p H.D.bi,.slice A 1 c] w (Vp H G) (λv cs=>v= .bool (!(decide (n<0)||decide (8<=n)))/\cs=Vp H ⟨G.s,G.X,G.Y,G.U,bif decide (n<0)||decide (8<=n)then G.d else G.d.raise n.toNat,G.o⟩):=by
 obtain⟨s,X,Y,U,d,o⟩:=G;cases hb:(decide (n<0)||decide (8<=n))with
 |true=>
  rw[Bool.or_eq_true,ai,ai]at hb;refine UW.via (cin:=[]) (rest:=Vp H ⟨s,X,Y,U,d,o⟩) hi (λ_=>Eb H.D.bi A c n hb w (h w (dc.refl _ _))) ?_
  grind
 |false=>
  rw[aZ,aa,aa]at hb;obtain⟨k,rfl⟩:∃k:Nat,n=k:=aj O;obtain⟨R,hs,hs2⟩:∃R,ik [rE H.D.bi d.S7 d.mask] (Vp H ⟨s,X,Y,U,d,o⟩) R/\ik [rE H.D.bi (d.raise k).S7 d.mask] (Vp H ⟨s,X,Y,U,d.raise k,o⟩) R:=⟨_,by repeat (first|exact .nil _|(apply ik.cons;(repeat (first|exact .head _ _|apply WB.tail)))),by repeat (first|exact .nil _|(apply ik.cons;(repeat (first|exact .head _ _|apply WB.tail))))⟩;refine UW.via (hi.perm hs.perm) (λhi2=>mg H.D.bi d.S7 d.mask A c [k] (λx hx=>by grind) w hi2 (λw' hk=>h w' (hi.TC hs hk))) ?_;rintro v cout w' ⟨rfl,rfl⟩ h3;exact⟨_,⟨I,I⟩,h3.perm hs2.perm.symm⟩
abbrev dgL(R:wy)(s:St)(X:dz):List Value:=s.cells (.slice X.Ad (J s.d) X.cd) (.slice X.Ar (J s.r) X.cr)++[.p R.bx,.p R.by_]
abbrev Wx(R:wy)(n:Nat)(s:St)(X:dz)(Z:dJ)(U:UI)(d:UF):List bJ:=row R.bg (dgL R s X) 41::dsF R.K R.bx n R.by_ R.bd s X Z U d
structure wz(H:ug)(n o:Nat)(G:VS)(U:UI):Prop where
 hn:H.L.n=n
 ok:G.ok n
 g:WQ n o G.s U G.d
 e:Yn G.U U
 sd:G.d.said
theorem wz.le{H:ug}{n o o2:Nat}{G:VS}{U:UI}(h:wz H n o G U)(ho:o<=o2):wz H n o2 G U:=⟨h.hn,h.ok,h.g.le ho,h.e,h.sd⟩
theorem wz.put{H:ug}{n o:Nat}{s:St}{X:dz}{Y:dJ}{Mg Md:UO}{Tg Td:List TE}{d:UF}{og:Option Vy}(h:wz H n o ⟨s,X,Y,⟨Mg,Tg⟩,d,og⟩ ⟨Md,Td⟩){a:Nat}(ha:a<n*64){b:Int}(hb:0<=b/\b<=255):
  wz H n o ⟨s,X,Y,⟨Mg.put a b,Tg⟩,d,og⟩ ⟨Md.put a b,Td⟩:=by
 obtain⟨h1,⟨g1,g2⟩,⟨k1,k2,k3,k4⟩,⟨e1,e2⟩,sd⟩:=h;dsimp only at g1 g2 k1 k2 k3 k4 e1 e2 sd;exact⟨h1,⟨⟨g1.wf,g1.right,⟨g1.u.m.put a hb,g1.u.t⟩,g1.dv,g1.lines⟩,g2⟩,⟨⟨k1.wf,k1.right,⟨k1.u.m.put a hb,k1.u.t⟩,k1.dv,k1.lines⟩,k2.put ha hb,k3,k4⟩,⟨by show Mg.data.set a b=Md.data.set a b;rw[e1],e2⟩,sd⟩
theorem wz.run{H:ug}{n o:Nat}{G G':VS}{U:UI}(h:wz H n o G U)(m:Int)(ho:G'.ok n)(he:(G'.s,G'.U,G'.d)=eH n m G.s G.U G.d):
  wz H n (o+8*m.toNat) G' (eH n m G.s U G.d).2.1/\G'.s=(eH n m G.s U G.d).1/\G'.d=(eH n m G.s U G.d).2.2:=by
 obtain⟨e1,e2,e3⟩:=run_eqs (n:=n) (s:=G.s) (d:=G.d) h.e m;have hg:=h.g.run m;rw[<-he]at e1 e2 e3;dsimp only at e1 e2 e3;rw[<-e1,<-e3]at hg;exact⟨⟨h.hn,ho,hg,e2,by rw[e3];exact OM m h.sd⟩,e1,e3⟩
abbrev uh.cells(a:uh):List Value:=[.i a.kd,.i a.n,.w a.at_,.slice a.B (J a.bs) a.cb]
theorem uh.Tm(a:uh):J a.cells=4:=rfl
theorem Ek(R:wy)(n:Nat)(l k:Li)(hn:n<=64):docF R n l k=row R.bg (dgL R St.new g0S) 41::(V6 R.K n (UO.init n l)++[fv R.bx R.K.bm cX]++eI R.by_ R.K.bm R.bd g0D (UF.init k)):=by
 have e:(UO.init n l).SX.take n=R9 n false:=by show(R9 64 false).take n=_;rw[List.take_replicate,Nat.min_eq_left hn]
 unfold docF V6;rw[e]
 rfl
theorem sB(A B:Oa)(c e n:Nat)(l k:Li)(hn:n<=64)(hl:J l<=n*64)(hk:J k<=1024)(w:World)(h:Rd w .u8 A (J l) c l)(hB:Rd w .u8 B (J k) e k):
  UW prog 15 [NZ A c l B e k n] w [] (λv cs=>∃R:wy,v= .p R.bg/\cs=row R.bg (dgL R St.new g0S) 41::(V6 R.K n (UO.init n l)++[fv R.bx R.K.bm cX]++eI R.by_ R.K.bm R.bd g0D (UF.init k))):=by
 refine(pB A B c e n l k hn hl hk w h hB).mono ?_;rintro v cs ⟨bg,K,bx,by_,bd,rfl,rfl⟩;exact⟨⟨bg,K,bx,by_,bd⟩,I,Ek ⟨bg,K,bx,by_,bd⟩ n l k hn⟩
theorem RN.pair{bp o n:Nat}{W ow pr l k:Li}{tr:Bool}{H:ug}{X:dz}{Y:dJ}{s:St}{U:UI}{d:UF}{og:Option Vy}(h:RN bp o n W ow pr l k tr H ⟨s,X,Y,U,d,og⟩)(hn0:1<=n)(hn:n<=64)(hl:J l<=n*64)(hb:Vh l)(hk:J k<=1024)(hkb:Vh k):
  s=St.new/\d=UF.init k/\wz H n 0 ⟨s,X,Y,U,d,og⟩ ⟨UO.init n l,cX⟩:=by
 have h1:s=St.new:=h.hs;have h2:U=⟨UO.load n l,cX⟩:=h.hu;have h3:d=UF.init k:=h.hd;subst h1 h2 h3;have hG:=qy (n:=n) hn0 hn hl hb hk hkb;exact⟨I,I,h.hn,h.ok,⟨hG.g,hG.m,hG.i,hG.o⟩,⟨UO.Uv hl,I⟩,LV k⟩
abbrev dvY(R:wy)(n:Nat)(X:dz)(Z:dJ):VAd:=⟨X,some ⟨R.K.bB,0,none⟩,n*64,Z.Ao,Z.co,Z.Ai,Z.ci,some ⟨R.bd,0,none⟩,1024⟩
abbrev GU(s:St)(U:UI)(d:UF):Vw:=⟨s,U.m.data,d.out,d.inp,d.S8,d.S7,d.mask,false⟩
theorem wz.view{H:ug}{n o:Nat}{s:St}{X:dz}{Y:dJ}{Ug U:UI}{d:UF}{og:Option Vy}(h:wz H n o ⟨s,X,Y,Ug,d,og⟩ U):VS.view ⟨s,X,Y,Ug,d,og⟩=GU s U d/\(GU s U d).wf:=by
 have e:VS.view ⟨s,X,Y,Ug,d,og⟩=GU s U d:=by show(⟨s,Ug.m.data,d.out,d.inp,d.S8,d.S7,d.mask,false⟩:Vw)=_;rw[show Ug.m.data=U.m.data from h.e.d]
 exact⟨e,e▸h.ok.view h.sd⟩
end Go.Proofs.YtepfimeihngjoaaGreatDoor
