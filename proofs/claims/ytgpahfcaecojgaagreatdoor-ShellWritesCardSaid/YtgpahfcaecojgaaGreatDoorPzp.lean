/- Lemmas. -/
import Derived.Test.YtgpahfcaecojgaaGreatDoorPao
set_option linter.all false
set_option maxRecDepth 100000
set_option maxHeartbeats 4000000
namespace Go.Ink
open Go.RowKit Go.Proofs.Tryz
variable{rest:List bJ}{w0 w:World}{n:Nat}{LK:List (Ky×LS)}{k:Ky}{j:Nat}
theorem lE.shift{B:Li}{o:Nat}:∀{l:List (Int×Int)} {j e:Nat},lE (B.drop o) j l e->lE B (o+j) l (o+e)
 |[],j,e,h=>by cases h;exact .nil _
 |i::l,j,e,h=>by
  cases h with
  | @cons _ z _ _ _ h t=>
   rw[List.drop_drop]at h;exact .cons h (by have:=lE.shift t;grind)
theorem Hi{C:List HI}{s:St}(h:((iu C s).2==1)=true):∃M,j0 C 4096 ⟨List.replicate 16 0,WW s,0⟩=((1,1),M)/\(iu C s).1=oZ M.words s:=by
 grind [iu,Hl,j0,WW,nv]
theorem vT{M:Mem}(h:M.ok n)(p:Nat):u8s (iF M p):=λx hx=>h.db x (bG (aB (bG hx)))
theorem VS{s:St}{U:Mmu}{d:Dev}{E:Eng}(hn:n<=1000000)(h:GOk n s U d)(hE:gC E):(doE n s U d E).1=dL n s U d/\gC (doE n s U d E).2/\
  ∃c:Nat,c<=8/\Jn E (doE n s U d E).2 c/\(dL n s U d).1.count=IntKind.u64.wrap (s.count+(c:Int)):=by
 have hb:=oT h;have hbp:=xg h;unfold doE dL;obtain⟨b,hbe⟩:=Zgn (dO n s U d);rw[hbe]at hb hbp|-;dsimp only;have hsc:=h.wf.count;cases hr:b.runs with
 |false=>
  refine iB ?_;refine⟨trivial,hE.same rfl rfl rfl,?_⟩;cases hh:s.halted with
  |true=>
   have e:=hb.held hh;have es:b.s=s:=by rw[e]
   refine⟨0,by omega,⟨λh1 h2 h3=>?_,rfl⟩,?_⟩
   .grind [IntKind.wrap_i64,IntKind.wrap_u64]
   grind [IntKind.wrap_u64]
  |false=>
   obtain⟨c1,c2⟩:=hb.stays hr hh;refine⟨1,by omega,⟨λh1 h2 h3=>?_,rfl⟩,c1⟩
   grind [IntKind.wrap_i64,IntKind.wrap_u64]
 |true=>
  simp only[ai];obtain⟨c1,c2,c3⟩:=hb.runs hr;obtain⟨q1,q2⟩:=hbp hr;have hg:=hb.g;have hp0:=hb.place;have hpc:=hg.wf.pc;have qK:((b.place.toNat:Nat):Int)=b.place:=Int.toNat_of_nonneg hp0.1;have hbb:=vT hg.u.m b.place.toNat;obtain⟨f1,f2,f3,f4,f5⟩:=qT hE (k:=(b.s.pc,b.place)) hbb;unfold jq;obtain⟨⟨o,E1⟩,hf⟩:=Zgn (lz E (b.s.pc,b.place) (iF b.u.m b.place.toNat));rw[hf]at f1 f2 f3 f4 f5|-;dsimp only at f1 f2 f3 f4 f5;have slowly:(jr n (b.place.toNat/64) 8 b.s b.place.toNat b.u b.d E1).1=eQ n (b.place.toNat/64) 8 b.s b.place.toNat b.u b.d/\gC (jr n (b.place.toNat/64) 8 b.s b.place.toNat b.u b.d E1).2/\
    ∃c:Nat,c<=8/\Jn E (jr n (b.place.toNat/64) 8 b.s b.place.toNat b.u b.d E1).2 c/\(eQ n (b.place.toNat/64) 8 b.s b.place.toNat b.u b.d).1.count=IntKind.u64.wrap (s.count+(c:Int)):=by
   obtain⟨r1,r2,c,r3,r4,r5⟩:=AI (Wt:=b.place.toNat/64) 8 b.place.toNat hg f1;refine⟨r1,r2,c,r3,⟨λh1 h2 h3=>?_,r4.room.trans f2⟩,by rw[r5,c1]⟩;obtain⟨a1,a2,a3,a4⟩:=r4.WF Wq1 Wq1 Wq1;exact⟨a1,a2,by omega,by omega⟩
  cases o with
  |none=>exact slowly
  |some tr=>
   obtain⟨t,r⟩:=tr;dsimp only;cases hdone:(iu t.code b.s).2==1 with
   |false=>exact slowly
   |true=>
    simp only[ai];obtain⟨p,il,g1,g2,g3,g4,g5,g6,g7⟩:=f5 t r rfl;obtain⟨M,hM,hout⟩:=Hi hdone;rw[g3]at hM;obtain⟨k1,k2,k3,k4,k5,k6, -, -, -⟩:=GY hg.u hg.dv hg.wf hg.right g6 g1 g2 hM;rw[hout];obtain⟨s2,hs2⟩:=Zgn (oZ M.words b.s);rw[hs2]at k1 k2 k3 k4|-;obtain⟨Wt,hpage⟩:=Zgn (b.place.toNat/64);obtain⟨ofs,hofs⟩:=Zgn (b.place.toNat%64);have hpo:b.place.toNat=Wt*64+ofs:=by omega
    have hst:lE ((b.u.m.data.drop (Wt*64)).take 64) ofs il (ofs+r.bytes.length):=by
     have:=g5;unfold iF at this;rw[hpage,hofs]at this;simpa using this.shift
    have hil:il≠[]:=λe=>by grind
    have hse:=(hst.ends hil).1;rw[aD]at hse;obtain⟨c4,c5,c6⟩:=yP hn (Wt:=Wt) Wq1 il ofs 8 (e:=ofs+r.bytes.length) (U:=b.u) b.d hil k1 k6 hst hpc.1 (by have:=hpc.2;omega) Wq1 (c2.trans c3);rw[hpage,hpo,c6,g7,g4];have hc0:decide ((0:Int)<(il.length:Int))=true:=aE Wq1
    rw[hc0,Bool.and_true];have hE2:gC {E1 with last:=(b.s.pc,b.place),begun:=true,WF:=IntKind.i64.wrap (E1.WF+(il.length:Int))}:=f1.same rfl rfl rfl;obtain⟨E2,he2⟩:=Zgn (({E1 with last:=(b.s.pc,b.place),begun:=true,WF:=IntKind.i64.wrap (E1.WF+(il.length:Int))}:Eng));have hu2:Jn E E2 il.length:=⟨λh1 h2 h3=>by
     grind [IntKind.wrap_i64],by grind⟩
    have hcnt:s2.count=IntKind.u64.wrap (s.count+(il.length:Int)):=by
     have:=congrArg St.count k4;dsimp only at this;rw[this,c1]
    rw[he2]at hE2|-;have hhg:GOk n s2 ⟨b.u.m.calm,b.u.t⟩ b.d:=⟨k2,k3,⟨hg.u.m.calm,hg.u.t⟩,hg.dv,hg.lines⟩;cases hend:gN (il.getLastD (0,0)).1||s2.pc/64 !=b.s.pc/64 with
    |true=>
     grind
    |false=>
     simp only[ah];obtain⟨e1,e2⟩:=aS.1 hend;have e3:=c5 e1;simp only[bne_eq_false_iff_eq]at e2;have hlt:ofs+r.bytes.length<64:=by
      rw[e3,aG]at e2;have h0:=hpc.1;have h1:=hpc.2;omega
     have ea:(Wt*64+ofs+r.bytes.length)%4294967296=Wt*64+(ofs+r.bytes.length):=by omega
     have eb:(Wt*64+(ofs+r.bytes.length))/64=Wt:=by omega
     have ec:((8:Int) - (il.length:Int)).toNat=8 - il.length:=by omega
     rw[ea,eb,ec];obtain⟨r1,r2,c,r3,r4,r5⟩:=AI (Wt:=Wt) (8 - il.length) (Wt*64+(ofs+r.bytes.length)) hhg hE2;refine⟨r1,r2,il.length+c,by omega,⟨λh1 h2 h3=>?_,r4.room.trans hu2.room⟩,?_⟩
     .obtain⟨a1,a2,a3,a4⟩:=hu2.WF h1 h2 Wq1;obtain⟨b1,b2,b3,b4⟩:=r4.WF a1 a2 Wq1;omega
     simp_all [oA]
structure RS where
 r:Rn
 A:Option Addr
 c:Nat
def RS.cells(x:RS):List Value:=[.slice x.A x.r.bytes.length x.c,.bool x.r.ends]
def RS.v(x:RS):Value:= .agg x.cells.toArray
def RS.zero:RS:=⟨Rn.zero,none,0⟩
def rnV(RZ:List (Ky×RS)):List (Ky×Value):=RZ.map λx=>(x.1,x.2.v)
def rnM(RZ:List (Ky×RS)):List (Ky×Rn):=RZ.map λx=>(x.1,x.2.r)
theorem nE(x:RS):∀u∈x.cells,u.oneCell'=true:=λu h=>by
 simp only[RS.cells,aJ,aY,or_false]at h;rcases h with rfl|rfl<;>rfl
theorem it_cur{b r:Nat}{L:List (Bool×Ky×Value)}{cur:Option (Ky×Value)}(h:Cg b r L cur w):Cg b r L none w:=by
 obtain⟨es,clock,since,seen,c0,hb,hs,hr,hold,hsc,hsk,hL,hok,hne,hcur⟩:=h;exact⟨es,clock,since,seen,c0,hb,hs,hr,hold,hsc,hsk,hL,hok,hne,λ_ _ e=>by cases e⟩
structure EnX where
 bc:Nat
 mr:Nat
 room:Int
 X:CaX
 RZ:List (Ky×RS)
 last:Ky
 WF:Int
 WD:Int
 begun:Bool
def EnX.eng(E:EnX):Eng:=⟨E.room,E.X.Z.map BA.b,rnM E.RZ,E.last,E.WF,E.WD,E.begun⟩
structure oW(E:EnX):Prop where
 ca:rp E.room E.X
 eg:gC E.eng
 rs:∀y,y∈E.RZ->ly y.1/\y.2.r.bytes.length<=1000/\u8s y.2.r.bytes
 last:ly E.last
def gIL(G:List (Bool×Ky×RS)):List (Bool×Ky×Value):=G.map λg=>(g.1,g.2.1,g.2.2.v)
variable{G:List (Bool×Ky×RS)}{q:Ky}
theorem gIL_at{v:Value}(h:(gIL G)[j]? =some (false,q,v)):∃x,G[j]? =some (false,q,x)/\v=x.v:=by
 grind [gIL]
theorem gIL_del{f:Bool}{x:RS}(hn:(G.map λg=>g.2.1).Nodup)(h:G[j]? =some (f,q,x)):yd (gIL G) q=gIL (G.eraseIdx j):=by
 have hp:cT (λz:Bool×Ky×Value=>z.2.1) q (gIL G)=some j:=by
  have e:cT (λz:Bool×Ky×Value=>z.2.1) q (gIL G)=cT (λg:Bool×Ky×RS=>g.2.1) q G:=kt (key:=λg:Bool×Ky×RS=>g.2.1) (key':=λz:Bool×Ky×Value=>z.2.1) (λg:Bool×Ky×RS=>(g.1,g.2.1,g.2.2.v)) Zrf q G;rw[e];cases hp:cT (λg:Bool×Ky×RS=>g.2.1) q G with
  |none=>exact absurd rfl (iw hp _ (ak h))
  |some i=>
   obtain⟨hi,hk⟩:=fp hp;obtain⟨hj,hje⟩:=ar.1 h;have:i=j:=(List.getElem_inj (xs:=G.map λg=>g.2.1) (h₀:=by grind) (h₁:=by grind) hn).1 bY;rw[this]
 grind [yd,gIL,ChangeMaps.map_eraseIdx]
variable{α:Type}
theorem M3:∀(l:List α) (j:Nat) (x:α),(l.set j x).eraseIdx j=l.eraseIdx j
 :=by grind
theorem tw{α:Type}{f:α->Bool}:∀{l:List α} {j:Nat} {x:α},l[j]? =some x->f x=false->(l.eraseIdx j).filter f=l.filter f
 |[],j,x,h,_=>by simp at h
 |a::l,0,x,h,hf=>by
  grind
 |a::l,j+1,x,h,hf=>by
  show(a::l.eraseIdx j).filter f=_;rw[List.filter_cons,List.filter_cons,tw (l:=l) bY hf]
theorem s6{β:Type}{g:α->β}{l:List α}{x y:α}(h:l[j]? =some x)(hg:g y=g x):(l.set j y).map g=l.map g:=by
 rw[List.map_set,hg];apply List.ext_getElem?
 grind
def qe(G:List (Bool×Ky×RS)):Nat:=(G.filter λg=> !g.1).length
theorem yA:∀{G:List (Bool×Ky×RS)} {j:Nat} {x:Ky×RS},G[j]? =some (false,x)->qe (G.set j (true,x))<qe G
 |[],j,x,h=>by simp at h
 |g::G,0,x,h=>by
  grind [qe]
 |g::G,j+1,x,h=>by
  have:=yA (G:=G) (j:=j) (x:=x) bY
  grind [qe]
theorem sP:∀{G:List (Bool×Ky×RS)} {j:Nat} {x:Ky×RS},G[j]? =some (false,x)->qe (G.eraseIdx j)<qe G
 |[],j,x,h=>by simp at h
 |g::G,0,x,h=>by
  grind [qe]
 |g::G,j+1,x,h=>by
  have:=sP (G:=G) (j:=j) (x:=x) bY
  grind [qe]
theorem Dx(Z:List BA)(RZ:List (Ky×RS)):yc (Z.map BA.b) (rnM RZ)=rnM (RZ.filter λx=>Z.any λt=>t.key==x.1):=by
 grind [yc,rnM,List.filter_congr,List.any_map]
theorem Uc(Z:List BA)(k:Ky):(Z.any λt=>t.key==k)=(Z.find? λt=>t.key==k).isSome:=by
 grind
theorem TB(Z:List BA)(Wa:Li):(Z.map BA.b).filter (λt=> !Wa.contains (t.key.2/64))=(Z.filter λx=> !Wa.contains (x.b.key.2/64)).map BA.b:=by
 rw[List.filter_map]
 rfl
theorem KT(D:α->Bool):∀l:List α,(l.filter D).length+(l.filter λx=> !D x).length=l.length
 :=by intro y1;induction y1<;>grind
abbrev rsC(x:RS):bJ:=sl .u8 5 x.A x.r.bytes.length x.c x.r.bytes
def rnC(RZ:List (Ky×RS)):List bJ:=RZ.map λx=>rsC x.2
abbrev enR(be:Nat)(E:EnX):bJ:=row be [.p E.bc,.map (some E.mr),.w E.last.1,.w E.last.2,.i E.WF,.i E.WD,.bool E.begun] 208
abbrev enF(be:Nat)(E:EnX):List bJ:=[enR be E,caR E.bc (.i E.room) (.slice E.X.Ac E.X.Z.length E.X.cc) (.map (some E.X.ml)) (.i E.X.fl),blC E.X,bP (E.X.Z.map baC),mpc E.X.ml (lkV E.X.LK),bP (lkC E.X.LK),mpc E.mr (rnV E.RZ),bP (rnC E.RZ)]
theorem IQ(x:RS)(n:Int)(w:World):CW prog 152 [.agg x.cells.toArray,.i n] w (.i (bif n==0 then 0 else(x.r.bytes.length:Int))):=by
 refine Zfs func152 ntmps152 ?_;refine Z_2 ?_;refine ZO λb2=>?_;refine mZ ?_ ?_<;>intro hc1
 .refine sE ?_;rw[hc1];exact gr
 refine oo ?_;rw[hc1];exact gr
theorem enew_ok(room:Int)(w:World):Ctr prog 82 [.i room] w [] (λv cs=>if 1<=room/\room<=1024 then∃be bc mr ml,v= .tuple #[.p be,.i 0]/\cs=enF be ⟨bc,mr,room,⟨ml,none,0,0,[],[]⟩,[],(0,0),0,0,false⟩else v= .tuple #[.pointer none,.i 1]/\cs=[]):=by
 have HN:=cnew_ok room;refine Zfs func82 ntmps82 ?_;by_cases hr:1<=room/\room<=1024
 .have HN2:∀w,Ctr prog 115 [.i room] w [] (λv cs=>∃bc ml,v= .tuple #[.p bc,.i 0]/\cs=caF bc room ⟨ml,none,0,0,[],[]⟩):=λw=>Ctr.mono (HN w) λv cs h=>by grind
  refine Z_9 ?_;refine ZSn (λw hi=>HN2 w) ?_;rintro _ _ ⟨bc,ml,rfl,rfl⟩;refine sG ?_;refine Z_4 ?_;refine fg (ZA ?_);refine fo (E9 rfl) rfl ?_;rintro _ _ ⟨b15,rfl,rfl⟩;refine ZA ?_;refine ZO λb17=>?_
  refine Z_5 ?_;refine bO (enF b17 ⟨bc,b15,room,⟨ml,none,0,0,[],[]⟩,[],(0,0),0,0,false⟩) Zj (AH (cs':=enF b17 ⟨bc,b15,room,⟨ml,none,0,0,[],[]⟩,[],(0,0),0,0,false⟩) (.inl rfl) (bh _) rfl rfl rfl ?_);rw[if_pos hr];exact⟨b17,bc,b15,ml,rfl,rfl⟩
 have HN2:∀w,Ctr prog 115 [.i room] w [] (λv cs=>v= .tuple #[.pointer none,.i 1]/\cs=[]):=λw=>Ctr.mono (HN w) λv cs h=>by grind
 refine Z_9 ?_;refine ZSe (λw hi=>HN2 w) ?_;refine jl ?_;refine pX ?_;refine Z_9 ?_;refine mf ?_;rw[if_neg hr];exact gr
theorem Pv(be:Nat)(E:EnX):CI prog 118 [.p be] (enF be E) (λ_ cs=>∃ml fl,cs=enF be ⟨E.bc,E.mr,E.room,⟨ml,none,0,fl,[],[]⟩,[],E.last,E.WF,E.WD,E.begun⟩):=λw hi=>by
 refine Zfn func118 ntmps118 hi ?_;refine Z_6 ?_;refine dy (caF E.bc E.room E.X) (λw hi hin=>En E.bc E.room E.X w hin) ?_;rintro _ _ ⟨ml,fl,rfl,rfl⟩;refine Z_7 ?_;refine eT (Rl rfl rfl Za) ?_;rintro _ _ ⟨rfl,rfl⟩;refine Zn (mA (cin:=rnC E.RZ) (cin':=[]) Zd (List.nil_sublist _) ?_);exact bO (enF be ⟨E.bc,E.mr,E.room,⟨ml,none,0,fl,[],[]⟩,[],E.last,E.WF,E.WD,E.begun⟩) Zj (jE (cs':=enF be ⟨E.bc,E.mr,E.room,⟨ml,none,0,fl,[],[]⟩,[],E.last,E.WF,E.WD,E.begun⟩) (.inr rfl) (bh _) rfl ⟨ml,fl,rfl⟩)
theorem Kw(Y:bJ)(D:Ky->Bool)(f:FuncId)(caps:List Value)(HF:∀args w,(callFunc f args).run prog w= .ok (.enter f args) w)(RZ:List (Ky×RS))(hn:(RZ.map (·.1)).Nodup)(hk:∀y,y∈RZ->ly y.1)(mr:Nat)
  (HC:∀(q:Ky) (x:RS) (w:World),ly q->Inv w (bK [Y]) [Y] w->Ctr prog f ([]++[.agg (cD q).toArray,.agg x.cells.toArray]++caps) w [Y] (λv cs=>v= .bool (D q)/\cs=[Y]))
  :CI prog 146 [.map (some mr),.func (.func f) #[] caps.toArray] [mpc mr (rnV RZ),Y] (λ_ cs=>cs=[mpc mr (rnV (RZ.filter λx=> !D x.1)),Y]):=λw hi=>by
 refine Zfn func146 ntmps146 hi ?_;refine Z_3 ?_;refine fo (G4 rfl rfl Za) rfl ?_;rintro _ _ ⟨b7,rfl,rfl⟩;rw[show(rnV RZ).map (λx=>(false,x))=gIL (RZ.map λx=>(false,x)) by unfold rnV gIL;simp_all];refine Z_3 ?_;refine wLo (λG:List (Bool×Ky×RS)=>[(0,.map (some mr)),(1,.func (.func f) #[] caps.toArray),(7,.p b7)]) (λG=>[itC mr b7 (gIL G) none,Y]) (λG=>(G.map (·.2)).filter (λx=> !D x.1)=RZ.filter (λx=> !D x.1)/\(∀g,g∈G->g.1=true->D g.2.1=false)/\(G.map λg=>g.2.1).Nodup/\(∀g,g∈G->ly g.2.1)) (λG=>qe G) (RZ.map λx=>(false,x)) ⟨(by rw[List.map_map];show(RZ.map id).filter _=_;simp_all),(λg hg h=>by grind),bY,(λg hg=>by grind)⟩ ?_;rintro G ⟨hG,hT,hN,hK⟩;refine Z_2 ?_;refine fo (MN rfl Za) rfl ?_;rintro _ _ ⟨o8,ho8,rfl,rfl⟩;refine Zy (LO Zv0) ?_;refine Zw3 ?_ ?_<;>intro hc1
 .obtain⟨⟨j,q,v⟩,rfl⟩:=Option.isSome_iff_exists.1 hc1;have hj0:(gIL G)[j]? =some (false,q,v):=ho8;obtain⟨x,hx,rfl⟩:=gIL_at hj0;have hq:=hK _ (ak hx);have hIT:(gIL G).set j (true,q,x.v)=gIL (G.set j (true,q,x)):=(by unfold gIL;simp_all);have hx2:(G.set j (true,q,x))[j]? =some (true,q,x):=List.getElem?_set_self (ar.1 hx).1;have hN2:((G.set j (true,q,x)).map λg=>g.2.1).Nodup:=(by rw[s6 (y:=(true,q,x)) hx rfl];exact hN);have hdel:yd ((gIL G).set j (true,q,x.v)) q=gIL (G.eraseIdx j):=(by rw[hIT,gIL_del hN2 hx2,M3]);refine Z_5 ?_;refine dQ (LX (Zv rfl)) (λw hi=>(show Cg mr b7 (FF (gIL G) (some (j,q,x.v))) (some (q,x.v)) w from hi.get (Zhc (itC mr b7 (FF (gIL G) (some (j,q,x.v))) (NI (some (j,q,x.v))))))) rfl (Z_2 ?_);refine ZN λb4=>?_
  refine ZN λb5=>?_
  refine eT (cZ (vs:=cD q) Zrf rfl rfl (wo q) Za o6) ?_;rintro _ _ ⟨rfl,rfl⟩;refine eT (cZ (vs:=x.cells) Zrf rfl rfl (nE x) Za o6) ?_;rintro _ _ ⟨rfl,rfl⟩;refine Z_7 ?_;refine fo (iO ([Y]) rfl rfl HF Zi (λw hi hin=>HC q x w hq hin)) rfl ?_;rintro _ _ ⟨_,⟨rfl,rfl⟩,rfl⟩;refine Z_2 ?_;refine ZW ?_ ?_<;>intro hc3
  .refine Z_3 ?_;refine eT (t_itdel rfl rfl hq rfl FX Za) ?_;rintro _ _ ⟨rfl,rfl⟩;refine Z_2 ?_;refine lf (c:=itC mr b7 (yd ((gIL G).set j (true,q,x.v)) q) none) (c':=itC mr b7 (gIL (G.eraseIdx j)) none) Za rfl (λw h=>by grind) (qMP ((G.eraseIdx j)) ⟨⟨(by rw[ChangeMaps.map_eraseIdx,tw (x:=(q,x)) bY bY];exact hG),(λg hg h=>hT g ((List.eraseIdx_sublist _ _).subset hg) h),hN.sublist ((List.eraseIdx_sublist _ _).map _),λg hg=>hK g ((List.eraseIdx_sublist _ _).subset hg)⟩,sP hx⟩)
  refine Z_2 ?_;refine lf (c:=itC mr b7 ((gIL G).set j (true,q,x.v)) (some (q,x.v))) (c':=itC mr b7 (gIL (G.set j (true,q,x))) none) Za rfl (λw h=>by rw[<-hIT];exact it_cur h) (qMP ((G.set j (true,q,x))) ⟨⟨(by rw[s6 (y:=(true,q,x)) hx rfl];exact hG),(λg hg h=>(List.mem_or_eq_of_mem_set hg).elim (λhg=>hT g hg h) (λe=>by grind)),hN2,(λg hg=>(List.mem_or_eq_of_mem_set hg).elim (λhg=>hK g hg) (λe=>by grind))⟩,yA hx⟩)
 obtain rfl:o8=none:=kS;have ho0:∀x,x∈gIL G->x.1=true:=ho8;have hall:∀g,g∈G->D g.2.1=false:=(λg hg=>hT g hg (ho0 (g.1,g.2.1,g.2.2.v) (aZ.2 ⟨g,hg,rfl⟩)));refine Z_4 ?_;refine C1 (IL:=gIL G) (cur:=none) (b:=mr) (r:=b7) Zd ?_;rw[show(gIL G).map (·.2)=rnV (RZ.filter λx=> !D x.1) by rw[<-hG,List.filter_eq_self.2 (λy hy=>by grind)];unfold gIL rnV;simp_all];refine jE (cs':=[mpc mr (rnV (RZ.filter λx=> !D x.1)),Y]) (.inr rfl) Zu rfl ?_
 rfl
set_option maxHeartbeats 1000000
def Fe(op:Int):Int:=
 bif op==2 then 5 else bif(((op==1)||(decide (32<=op)&&decide (op<=38)))||(op==66))||(op==67)then 2 else
 bif(((((decide (0<=op)&&decide (op<=8))||(decide (16<=op)&&decide (op<=25)))||(op==39))||(op==40))||(decide (48<=op)&&decide (op<=53)))||(decide (64<=op)&&decide (op<=69))then 1 else 0
theorem Rv:∀k:Fin 70,Fe (k.val:Int)=cF (k.val:Int):=by decide+kernel
theorem Sf(op:Int):(∃k:Fin 70,op=(k.val:Int))\/(∀k:Int,0<=k->k<=69->(op==k)=false)/\(op<0\/69<op):=by
 by_cases h:0<=op/\op<=69
 .exact .inl ⟨⟨op.toNat,by omega⟩,by show op=((op.toNat:Nat):Int);omega⟩
 exact .inr ⟨λk h1 h2=>by simp only[aV,ne_eq];omega,by omega⟩
theorem Ru(op:Int):Fe op=cF op:=by
 rcases Sf op with⟨k,rfl⟩|⟨e,h⟩
 .exact Rv k
 have r:∀a b:Int,0<=a->b<=69->(decide (a<=op)&&decide (op<=b))=false:=λa b ha hb=>by
  rw[Bool.and_eq_false_iff,aa,aa];omega
 unfold Fe cF vX AZ;rw[r 32 38 bX bX,r 0 8 bX bX,r 16 25 bX bX,r 48 53 bX bX,r 64 69 bX bX];simp[e]
theorem Kf(op:Int)(w:World):CW prog 104 [.i op] w (.i (cF op)):=by
 rw[<-Ru];refine Zfs func104 ntmps104 ?_;refine Cc ?_ ?_<;>intro hc1
 .refine gm ?_;refine⟨?_,rfl⟩;simp only[Fe, *,ai,ah]
 refine om ?_;refine Zw3 ?_ ?_<;>intro hc3
 .refine gm ?_;refine⟨?_,rfl⟩;simp only[Fe, *,ai,ah]
 refine EC ?_;refine Zw3 ?_ ?_<;>intro hc5
 .refine gm ?_;refine⟨?_,rfl⟩;simp only[Fe, *,ai,ah]
 refine lC ?_;refine⟨?_,rfl⟩;simp only[Fe, *,ai,ah]
def encB(nn:Int)(j:Nat):Int:=IntKind.u8.wrap (nn.fdiv (2^(min (Int.toNat ((8*j:Nat):Int)) IntKind.u32.bits)))
def BD(op nn:Int)(k:Nat):List Int:=IntKind.u8.wrap op::(List.range (k - 1)).map (encB nn)
def qU(op nn:Int):List Int:=BD op nn (max 1 (cF op).toNat)
theorem D7(op nn:Int){k:Nat}(h:1<=k):(BD op nn k).length=k:=by simp[BD];omega
theorem KX(op nn:Int){k:Nat}(h:1<=k):BD op nn (k+1)=BD op nn k++[encB nn (k - 1)]:=by
 obtain⟨j,rfl⟩:∃j,k=j+1:=⟨k - 1,by omega⟩;simp[BD,List.range_succ]
theorem uZ(x:Int):0<=IntKind.u8.wrap x/\IntKind.u8.wrap x<=255:=by
 have e:IntKind.u8.wrap x=x%256:=by simp[IntKind.wrap,IntKind.bits,IntKind.signed]
 rw[e];omega
theorem Tx(op nn:Int):u8s (qU op nn):=by
 intro x hx;unfold qU BD at hx;rcases aJ.1 hx with rfl|hx
 .exact uZ _
 obtain⟨j, -,rfl⟩:=aZ.1 hx;exact uZ _
theorem D8(op nn:Int):1<=(qU op nn).length/\(qU op nn).length<=5:=by
 unfold qU;rw[D7 _ _ Wq1];have:cF op=0\/cF op=1\/cF op=2\/cF op=5:=jw op;omega
def gI(i:Int×Int):List Value:=[.i i.1,.w i.2]
theorem DB(i:Int×Int):(gI i).length=2:=rfl
def lY(l:List (Int×Int))(k:Nat):List Int:=(l.take k).flatMap λi=>qU i.1 i.2
def qX(l:List (Int×Int)):List Int:=lY l l.length
variable{k:Nat}
theorem wW{l:List (Int×Int)}{i:Int×Int}(h:l[k]? =some i):lY l (k+1)=lY l k++qU i.1 i.2:=by
 unfold lY;rw[bE,h];simp
theorem oS(l:List (Int×Int)):∀k,(lY l k).length<=5*k
 |0=>by simp[lY]
 |k+1=>by
  cases h:l[k]? with
  |none=>
   unfold lY;rw[bE,h];have:=oS l k;unfold lY at this;simp only[Option.toList_none,aw];omega
  |some i=>
   rw[wW h,aj];have:=oS l k;have:=(D8 i.1 i.2).2;omega
theorem wV(l:List (Int×Int))(k:Nat):u8s (lY l k):=by
 intro x hx;unfold lY at hx;obtain⟨i, -,h⟩:=List.mem_flatMap.1 hx;exact Tx _ _ x h
theorem enc_ok(op nn:Int)(w:World):Ctr prog 102 [.agg #[.i op,.w nn]] w [] (λv cs=>∃A c,v= .slice A (qU op nn).length c/\cs=[sl .u8 5 A (qU op nn).length c (qU op nn)]):=by
 have hz5:cF op=0\/cF op=1\/cF op=2\/cF op=5:=jw op;have HS:=Kf op;obtain⟨z,hz⟩:∃z:Nat,cF op=z:=ao Wq1;have he:qU op nn=BD op nn (max 1 z):=by unfold qU;rw[hz];rfl
 rw[he,D7 _ _ Wq1];rw[hz]at hz5 HS;refine Zfs func102 ntmps102 ?_;refine Z_2 ?_;refine ZO λb1=>?_;refine Z_7 ?_;refine Zy (cU rfl rfl (Zv rfl) (by first|exact IntWalk.u8_in _ ⟨by omega,by omega⟩|exact rfl)) ?_;refine jD ?_;rintro _ _ ⟨b8,rfl,rfl⟩;refine fH ?_;refine wLo (λq:Nat×Option Addr×Nat=>[(1,.p b1),(3,.slice q.2.1 q.1 q.2.2),(4,.i (q.1:Int))]) (λq=>[row b1 [.i op,.w nn] 128,sl .u8 5 q.2.1 q.1 q.2.2 (BD op nn q.1)]) (λq=>1<=q.1/\q.1<=max 1 z) (λq=>10 - q.1) ((⟨1,some ⟨b8,0,none⟩,1⟩:Nat×Option Addr×Nat)) ⟨aL _,by omega⟩ ?_;rintro⟨k,A,c⟩ ⟨hk1,hkz⟩;dsimp only at hk1 hkz|-;refine Z_6 ?_;refine ZSe (λw hi=>HS w) ?_;refine Zw3 ?_ ?_<;>intro hc3
 .simp only[ac]at hc3;refine Z_9 ?_;refine Zy (i5 (Zv rfl) (Zv rfl) (show _=((k - 1:Nat):Int)from by rw[bD _ ⟨by omega,by omega⟩];omega)) ?_;refine Zy (cU rfl rfl (Zv rfl) (u64_wrap_id _ Wq1 Wq1)) ?_;refine Zy (jF (Zv rfl) (Zv rfl) (show _=((8*(k - 1):Nat):Int)from by rw[u64_wrap_id _ Wq1 Wq1];omega)) ?_;refine Zy (lJ (Zv rfl) (Zv rfl) Wq1 rfl) ?_;refine Zy (cU rfl rfl (Zv rfl) (show _=encB nn (k - 1)from rfl)) ?_;refine jD ?_;rintro _ _ ⟨b25,rfl,rfl⟩;refine fo (bV (e:=5) (sz:=1) (bytes:=1) rfl rfl Za rfl rfl (λw hi=>hi.rd (Zhc (slv 5 1 (sA b25) 1 1 (ints .u8 [encB nn (k - 1)])))) cN Wq9 Wq1) rfl ?_;rintro _ _ ⟨A2,c2,rfl,rfl⟩;rw[cj,<-KX op nn hk1];refine xu ?_;refine qMP ((⟨k+1,A2,c2⟩:Nat×Option Addr×Nat)) ⟨⟨show 1<=k+1 by omega,show k+1<=max 1 z by omega⟩,show 10 - (k+1)<10 - k by omega⟩
 simp only[aa]at hc3;obtain rfl:k=max 1 z:=Wq1;refine fb ?_;refine xz ?_;exact⟨A,c,rfl,rfl⟩
theorem PW(A:Oa)(c:Nat)(l:List (Int×Int))(hl:l.length<=1000)(w:World)(h:RdV w 2 A l.length c (l.flatMap gI)):Ctr prog 72 [.slice A l.length c] w [] (λv cs=>∃A' c',v= .slice A' (qX l).length c'/\cs=[sl .u8 5 A' (qX l).length c' (qX l)]):=by
 refine Zfs func72 ntmps72 ?_;refine ng ?_;refine cY 5 1 (Z_4 ?_);refine wLo (λq:Nat×Option Addr×Nat=>[(0,.slice A l.length c),(3,.slice q.2.1 (lY l q.1).length q.2.2),(4,.i (q.1:Int))]) (λq=>[sl .u8 5 q.2.1 (lY l q.1).length q.2.2 (lY l q.1)]) (λq=>q.1<=l.length) (λq=>l.length - q.1) ((⟨0,none,0⟩:Nat×Option Addr×Nat)) (ap _) ?_;rintro⟨k,A1,c1⟩ hk;dsimp only at hk|-;have hcl:=oS l k;refine Zw9 ?_ ?_<;>intro hc3
 .simp only[ac]at hc3;have hkl:k<l.length:=Wq1;obtain⟨ad,rfl⟩:=h.some_ Wq1;have hla:l[k]? =some (l[k]'hkl):=ae hkl;obtain⟨⟨op,nn⟩,ha⟩:=Zgn (l[k]'hkl);rw[ha]at hla;have hel:=D8 op nn;refine Z_8 ?_;refine Ex ?_;refine dQ (bW (vs:=[.i op,.w nn]) Zrf Zrf Zv0) (cE h (λj v hj=>bZ DB (i:=j) hla hj)) rfl (ZSn (λw hi=>enc_ok op nn w) ?_);rintro _ _ ⟨A2,c2,rfl,rfl⟩;refine fo (bV (e:=5) (sz:=1) (bytes:=1) rfl rfl Za rfl rfl (λw hi=>hi.rd (Zhc (sl .u8 5 A2 (qU op nn).length c2 (qU op nn)))) cN Wq9 Wq1) rfl ?_;rintro _ _ ⟨A3,c3,rfl,rfl⟩;rw[cj,<-aj,<-wW hla];refine xu ?_;refine qMP ((⟨k+1,A3,c3⟩:Nat×Option Addr×Nat)) ⟨show k+1<=l.length by omega,show l.length - (k+1)<l.length - k by omega⟩
 simp only[aa]at hc3;obtain rfl:k=l.length:=Wq1;refine fb ?_;refine xz ?_;exact⟨A1,c1,rfl,rfl⟩
def lO(n:Nat)(m from_:Int):Nat->(St×Mmu×Dev)×Eng->(St×Mmu×Dev)×Eng
 |0,q=>q
 |k+1,q=>bif gy m from_ q.1.1 then lO n m from_ k (doE n q.1.1 q.1.2.1 q.1.2.2 q.2)else q
def Rz(n:Nat)(m:Int)(s:St)(U:Mmu)(d:Dev)(E:Eng):(St×Mmu×Dev)×Eng:=lO n m s.count m.toNat ((s,U,d),E)
variable{q:(St×Mmu×Dev)×Eng}
theorem vL{m from_:Int}(h:gy m from_ q.1.1=false):lO n m from_ k q=q:=by
 cases k with
 |zero=>rfl
 |succ k=>
  unfold lO;rw[h]
  rfl
theorem CR{m from_:Int}(h:gy m from_ q.1.1=true):lO n m from_ (k+1) q=lO n m from_ k (doE n q.1.1 q.1.2.1 q.1.2.2 q.2):=by
 rw[lO,h]
 rfl
theorem Es{s:St}{U:Mmu}{d:Dev}(h:GOk n s U d):GOk n (dL n s U d).1 (dL n s U d).2.1 (dL n s U d).2.2:=by
 rcases sw h with h1|⟨-, -,h3, -⟩
 .exact h1.g
 exact h3
theorem Jn.trans{E E1 E2:Eng}{c1 c2:Nat}(h1:Jn E E1 c1)(h2:Jn E1 E2 c2):Jn E E2 (c1+c2):=⟨λa b c=>by
 obtain⟨x1,x2,x3,x4⟩:=h1.WF a b Wq1;obtain⟨y1,y2,y3,y4⟩:=h2.WF x1 x2 Wq1;exact⟨y1,y2,by omega,by omega⟩,h2.room.trans h1.room⟩
theorem Jn.zero(E:Eng):Jn E E 0:=⟨λa b _=>⟨a,b,by omega,Int.le_refl _⟩,rfl⟩
theorem CQ{n:Nat}(hn:n<=1000000){m f:Int}:∀(k:Nat) {q:St×Mmu×Dev} {E:Eng},GOk n q.1 q.2.1 q.2.2->gC E->
  (lO n m f k (q,E)).1=m7 n m f k q/\gC (lO n m f k (q,E)).2/\GOk n (m7 n m f k q).1 (m7 n m f k q).2.1 (m7 n m f k q).2.2/\
  ∃c:Nat,c<=8*k/\Jn E (lO n m f k (q,E)).2 c/\(m7 n m f k q).1.count=IntKind.u64.wrap (q.1.count+(c:Int))
 |0,q,E,h,hE=>⟨rfl,hE,h,0,aL _,.zero E,by have:=h.wf.count;show q.1.count=IntKind.u64.wrap (q.1.count+0);rw[aU];omega⟩
 |k+1,q,E,h,hE=>by
  cases hc:gy m f q.1 with
  |false=>
   rw[vL (q:=(q,E)) hc,rO hc];exact⟨rfl,hE,h,0,ap _,.zero E,by have:=h.wf.count;show q.1.count=IntKind.u64.wrap (q.1.count+0);rw[aU];omega⟩
  |true=>
   rw[CR (q:=(q,E)) hc,Az hc];obtain⟨d1,d2,c,d3,d4,d5⟩:=VS hn h hE;have hg:=Es h;dsimp only;obtain⟨⟨q1,E1⟩,hz⟩:=Zgn (doE n q.1 q.2.1 q.2.2 E);rw[hz]at d1 d2 d4|-;dsimp only at d1 d2 d4;rw[<-d1]at d5 hg|-;obtain⟨r1,r2,r3,c',r4,r5,r6⟩:=CQ hn (m:=m) (f:=f) k hg d2;refine⟨r1,r2,r3,c+c',by omega,d4.trans r5,?_⟩;rw[r6,d5,oA,show(c:Int)+(c':Int)=((c+c':Nat):Int) by omega]
theorem Fj(hn:n<=1000000)(m:Int){s:St}{U:Mmu}{d:Dev}{E:Eng}(h:GOk n s U d)(hE:gC E):
  (Rz n m s U d E).1=g9 n m s U d/\gC (Rz n m s U d E).2/\GOk n (g9 n m s U d).1 (g9 n m s U d).2.1 (g9 n m s U d).2.2/\
  ∃c:Nat,c<=8*m.toNat/\Jn E (Rz n m s U d E).2 c/\(g9 n m s U d).1.count=IntKind.u64.wrap (s.count+(c:Int)):=CQ hn m.toNat (q:=(s,U,d)) h hE
end Go.Ink
