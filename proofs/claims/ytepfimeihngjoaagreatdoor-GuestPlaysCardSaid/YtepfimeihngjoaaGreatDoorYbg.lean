/- Lemmas. -/
import Derived.Test.YtepfimeihngjoaaGreatDoorYbb
import Derived.Test.YtepfimeihngjoaaGreatDoorYbc
import Derived.Test.YtepfimeihngjoaaGreatDoorYbd
set_option linter.all false
set_option maxRecDepth 100000
set_option maxHeartbeats 4000000
namespace Go.Ink
open List renaming length→J
open IntKind renaming wrap→V9
open Go.RowKit Go.Proofs.Tryz
section
attribute [local irreducible] UL bM
variable{op nn:Int}
variable{n:Nat}{R:Um}{U:Uo}{d:Un}
section
variable{n:Nat}{op nn:Int}{R:Um}{U:Uo}{d:Un}{c:Int}
theorem lode_wc(va:Nat):eI n (R.wc c) U d va=(eI n R U d va).wc c:=by
 unfold eI;rw[El];obtain⟨⟨p,ok,r,u⟩,hq⟩:=Uk (bZ n R U va 2);rw[hq];have hin:∀(d':Un) (v:Int) (o:Bool),gL ⟨p,ok,r.wc c,u⟩ d' va v o=(gL ⟨p,ok,r,u⟩ d' va v o).wc c:=λd' v o=>by unfold gL;cases o<;>rfl
 cases hok:ok with
 |false=>rfl
 |true=>
  rw[hok]at hin;show(bif r.device then gL ⟨p,true,r.wc c,u⟩ (cz d (iV p.toNat) r.count).2 va (cz d (iV p.toNat) r.count).1.1 (cz d (iV p.toNat) r.count).1.2 else gL ⟨p,true,r.wc c,u⟩ d va (gZ n u.m p.toNat).1 (gZ n u.m p.toNat).2)=ek.wc (bif r.device then gL ⟨p,true,r,u⟩ (cz d (iV p.toNat) r.count).2 va (cz d (iV p.toNat) r.count).1.1 (cz d (iV p.toNat) r.count).1.2 else gL ⟨p,true,r,u⟩ d va (gZ n u.m p.toNat).1 (gZ n u.m p.toNat).2) c;rw[hin,hin];cases r.device<;>rfl
theorem Ψ(va v:Nat):eM n (R.wc c) U d va v=(eM n R U d va v).wc c:=by
 unfold eM;rw[El];obtain⟨⟨p,ok,r,u⟩,hq⟩:=Uk (bZ n R U va 3);rw[hq];cases hok:ok with
 |false=>rfl
 |true=>
  refine DR ?_;cases r.device with
  |false=>rfl
  |true=>cases(bQ n u.m d (iV p.toNat) v).1<;>rfl
theorem set_wc(s:St)(v:Int):((s.S5 c).set nn v).1=((s.set nn v).1).S5 c:=by
 have key:∀b (x y x' y':St×Bool),x.1=x'.1.S5 c->y.1=y'.1.S5 c->(bif b then x else y:St×Bool).1=(bif b then x' else y':St×Bool).1.S5 c:=λb x y x' y' h1 h2=>by cases b<;>assumption
 exact Wx89_
theorem OG:cB n op nn ⟨R.wc c,U,d⟩=(cB n op nn ⟨R,U,d⟩).wc c:=by
 have key:∀b (x y x' y':ek),x=x'.wc c->y=y'.wc c->(bif b then x else y)=(bif b then x' else y').wc c:=λb x y x' y' h1 h2=>by cases b<;>assumption
 unfold cB;refine key _ _ _ _ _ (lode_wc (R:=R.pop) _) (key _ _ _ _ _ (Ψ (R:=R.pop.pop) _ _) (Sv ?_));refine key _ _ _ _ _ I (key _ _ _ _ _ I (key _ _ _ _ _ I (key _ _ _ _ _ ?_ ?_)))
 .show ek.mk ((R.pop.wc c).ws ((R.pop.s.S5 c).set nn R.top).1) _ _=_;rw[set_wc]
 exact key _ _ _ _ _ I (key _ _ _ _ _ I I)
theorem Sm:oP n op nn (R.wc c) U d=(oP n op nn R U d).wc c:=by
 unfold oP;rw[N2,JT];cases cV op nn R with
 |some R'=>rfl
 |none=>
  simp only[Option.map_none];cases(bS op nn R).1 with
  |true=>rfl
  |false=>exact OG
end
section
variable{n:Nat}{U:Uo}{d:Un}
theorem UI.puts{M:Uy}(h:UI n M){l:Li}(hl:∀x,x∈l->0<=x/\x<((n*64:Nat):Int))(v:Int):∀k,k<=J l->UI n (SZ M l v k)
 |0,_=>h
 |k+1,hk=>by
  have h1:=hl (l[k]'(by omega)) (List.getElem_mem _);have e:l.getD k 0=l[k]'(by omega):=by rw[aM,aj O];rfl
  rw[SZ];exact(UI.puts h hl v k O).put (by rw[e];omega) (ku v k)
theorem UI.dev{M:Uy}(h:UI n M)(hd:d.wf)(k:Int)(v:Nat):UI n (bQ n M d k v).2.1:=by
 have hD:UI n (df n M d v).1:=by
  show UI n (dL n M d.SV d.SA d.place v).2.1;unfold dL;cases hk:ix n d.SA d.place with
  |false=>exact h
  |true=>
   have hf:d.SA<16/\d.place%64=0/\d.place<n*64:=by
    have h2:=hk;unfold ix at h2;simp only[Bool.not_eq_true',aY,aa,bne_eq_false_iff_eq]at h2;omega
   refine DR ?_;refine bJ (λq:Bool×Uy×List Int=>UI n q.2.1) (h.fill (λx hx=>hd.Tw x (bD (aX hx))) 64 O) ?_;exact bJ (λq:Bool×Uy×List Int=>UI n q.2.1) h h
 unfold bQ;refine Wq78 ?_;refine Wq78 ?_;refine bJ (λq:Bool×Uy×Un=>UI n q.2.1) hD ?_;refine Wq78 ?_;exact bJ (λq:Bool×Uy×Un=>UI n q.2.1) h h
theorem UI.stow(h:UI n U.m)(hd:d.wf)(R:Um){va:Nat}(hva:va<=4294967295)(v:Nat):UI n (eM n R U d va v).u.m:=by
 have hu:=h.whole R va 3;have hpf:=eU n U R.sp va hva 3;cases hm:(((va%4:Nat):Int) !=0)with
 |true=>rw[wA hm];exact h
 |false=>
  obtain⟨⟨⟨p,tr⟩,U'⟩,hp⟩:=Uk (Go.Ink.Sz n U R.sp va 3);rw[hp]at hpf;obtain⟨p,rfl⟩:∃m:Nat,p=m:=ai hpf.1.1;have hU':UI n U'.m:=by
   have:=h.Sz R.sp va 3 (h.walk _ _ _ _);rw[hp]at this;exact this
  cases hc:(tr.SB !=0)with
  |true=>rw[tW hm hp hc];exact hU'
  |false=>
   have hz:tr.SB=0:=by simpa using hc
   have hto:=gq n U R.sp va 3;rw[hp]at hto;have hPo:=hpf.2 hz;have htn:tr=Tr.none:=hto hz;rw[htn]at hp;have hPo:nU n va (p:Int):=hPo;rw[zL hm hp];cases hb:decide ((32768:Int)<=(p:Int))with
   |true=>exact hU'.dev hd _ _
   |false=>
    have hb':¬(32768:Int)<=(p:Int):=of_decide_eq_false hb;have h4:va%4=0:=(by have h5:((va%4:Nat):Int)=0:=(by simpa using hm);omega);have h1:=hPo.m;have h2:=pz (by unfold iv;rw[ao hb'];rfl) hPo;exact hU'.SY _ 4 O
theorem UI.other(h:UI n U.m)(hd:d.wf)(hn:n<=64){op nn:Int}{R:Um}(hw:∀x,x∈R.s.d->u32 x):UI n (cB n op nn ⟨R,U,d⟩).u.m:=by
 have hlast:∀l:List Int,(∀x,x∈l->u32 x)->u32 (l.getLastD 0):=λl hl=>by
  by_cases e:l=[]
  .subst e;exact u0
  obtain⟨l',x,rfl⟩:=qQ (List.length_pos_iff.2 e);have e2:(l'++[x]).getLastD 0=x:=by simp
  rw[e2];exact hl x cE
 have htop:R.top.toNat<=4294967295:=by
  have h1:=hlast R.s.d hw;have h2:R.top<=4294967295:=h1.2;omega
 unfold cB;refine bJ (λm:ek=>UI n m.u.m) (h.lode _ _) ?_;refine bJ (λm:ek=>UI n m.u.m) (h.stow hd _ htop _) ?_;refine Wq398 ?_;refine Wq398 ?_;refine bJ (λm:ek=>UI n m.u.m) h ?_;refine bJ (λm:ek=>UI n m.u.m) h ?_;refine bJ (λm:ek=>UI n m.u.m) h ?_;refine bJ (λm:ek=>UI n m.u.m) (bJ (λV:Uo=>UI n V.m) h h) ?_;refine bJ (λm:ek=>UI n m.u.m) h ?_;exact bJ (λm:ek=>UI n m.u.m) h h
theorem UI.act(h:UI n U.m)(hd:d.wf){op nn:Int}{R:Um}(hw:∀x,x∈R.s.d->u32 x):UI n (oP n op nn R U d).u.m:=by
 unfold oP;cases cV op nn R with
 |some R'=>exact h
 |none=>
  cases hr:(bS op nn R).1 with
  |true=>exact h
  |false=>
   rw[mA op nn R hr];exact h.other hd h.n64 hw
theorem UI.do(h:UI n U.m)(hd:d.wf){s:St}(hw:∀x,x∈s.d->u32 x)(op nn:Int):UI n (lj n s op nn U d).2.1.m:=by
 unfold lj;refine bJ (λq:Wn×Uo×Un=>UI n q.2.1.m) h ?_;refine bJ (λq:Wn×Uo×Un=>UI n q.2.1.m) h.calm ?_;exact UI.act (U:=⟨U.m.calm,U.t⟩) h.calm hd (R:=eV s op) hw
end
theorem MR(n:Nat)(op nn:Int)(R:Um)(U:Uo)(d:Un):(oP n op nn R U d).r.s.count=R.s.count:=by
 have h:=Sm (n:=n) (op:=op) (nn:=nn) (R:=R) (U:=U) (d:=d) (c:=R.s.count);rw[show R.wc R.s.count=R from I]at h;rw[h]
theorem Mh{s x:St}{m:ek}(h:s.right=true)(hc:dN s op nn=0)(hm:oP n op nn (runR s op) ⟨U.m.calm,U.t⟩ d=m)(hx:m.r.SL.SB=0->x=m.r.s):lj n s op nn U d=PT s x m:=by
 have hw:nw n s op nn ⟨U.m.calm,U.t⟩ d=m.wc (V9 .u64 (s.count+1)):=by
  rw[mid_act,<-hm,<-Sm]
  rfl
 have hcn:m.r.s.count=s.count:=by rw[<-hm,MR]
 have e:(dN s op nn !=0)=false:=by rw[hc];rfl
 unfold lj PT;rw[h];simp only[e,Bool.not_true,ac,hw];unfold DG;cases ht:(m.r.SL.SB !=0)with
 |true=>simp only[ht,ae]
 |false=>
  have hx:=hx (by simpa using ht);subst hx;simp only[ht,ac];show(Wn.mk (m.r.s.S5 (V9 .u64 (s.count+1))) false m.r.device (dY m.u.m.SD 64),m.u,m.d)=_;rw[<-hcn]
end
end Go.Ink
namespace Go.Ink
open List renaming length→J
open IntKind renaming wrap→V9
open Go.RowKit Go.Proofs.Tryz
variable{rest:List bH}
abbrev WY(H:mY)(G:Vy):List bH:=vV H G false::UP G.s G.X.Ad G.X.cd::UU G.s G.X.Ar G.X.cr::Cm H.bu H.L.bm H.bb::ww H.bb G.U.t::(lJ H.D H.L.bm G.Y G.d++[cR (enO H.be G.o)])
def MG.cs(g:MG):List bH:=bif g.dead then[vV g.H g.G true]else WY g.H g.G++Xa g.H g.G g.fr g.gd
variable{P:qG}{H:mY}{G:Vy}
structure lI(bp:Nat)(P:qG)(gs:List MG):Prop where
 TQ:nT P
 four:J gs<=4
 rest:∀o:Nat,J gs<=o->o<4->P.pr[o]? =some (-1)
 at_:∀(i:Nat) (g:MG),gs[i]? =some g->g.H.L.o=i/\g.H.L.bp=bp/\(g.dead=false->rP g.H.L P g.G.U.m g.fr g.gd/\g.G.ok g.H.L.n)/\(g.dead=true->P.pr[i]? =some (-1))
variable{bp:Nat}{gs:List MG}{i:Nat}{g:MG}
structure Ou where
 n:Int
 v:Vw
 why:Int
def ij:Vw:=⟨St.zero,[],[],[],[],0,0,false⟩
def Ag.view(a:Ag):Vw:=bif a.dead then DK else⟨a.s,a.U.m.data,a.d.out,a.d.inp,a.d.SV,a.d.SU,a.d.mask,false⟩
def Ag.one(a:Ag)(x:It):Ag×Ou:=
 bif a.dead&&(x.kind !=6)then(a,⟨0,ij,26⟩)else
 bif x.kind==1 then(a.run (min x.n 10000),⟨a.ran (min x.n 10000),ij,0⟩)else
 bif x.kind==2 then({a with d:=a.d.S3 x.b},⟨a.d.Tk x.b,ij,0⟩)else
 bif x.kind==3 then(bif decide (x.n<0)||decide (8<=x.n)then(a,⟨0,ij,1⟩)else({a with d:=a.d.raise x.n.toNat},⟨0,ij,0⟩))else
 bif x.kind==4 then(a,⟨0,ij,0⟩)else
 bif x.kind==5 then({a with dead:=true},⟨0,ij,0⟩)else
 bif x.kind==6 then(a,⟨0,a.view,0⟩)else(a,⟨0,ij,1⟩)
theorem RF:St.zero.wf:=⟨u00,u00,u00,u00,u00,u00,u00,⟨Int.le_refl _,show(0:Int)<=18446744073709551615 by decide⟩,λx hx=>(by cases hx),λx hx=>(by cases hx)⟩
theorem D7:ij.wf:=⟨RF,nv,nv,nv,nv⟩
theorem P8:DK.wf:=⟨RF,nv,nv,nv,nv⟩
section
variable{k:Nat}{a:Ag}{x:It}{i:Nat}
theorem Ag.Ts.wf(h:a.Ts k):a.view.wf:=by
 unfold Ag.view;refine bJ Vw.wf P8 ?_;exact⟨h.g.wf,h.g.u.m.db,h.s,h.g.dv.wf.T4,h.g.dv.wf.Tw⟩
theorem Ag.Ts.run(h:a.Ts k){m:Int}(hm:m<=10000):(a.run m).Ts (k+80000):=by
 have h1:=(Cy (n:=a.n) (by have:=h.n64;omega) m h.g (gy.fresh (room:=8) ⟨by decide,by decide⟩)).2.2.1;have h2:=JI m h.g;refine⟨h1,run_in m h.i,EI m h.s,?_,h.n64⟩;show(eH a.n m a.s a.U a.d).2.2.out.length<=_;have:=h.o;omega
theorem Ag.Ts.one(h:a.Ts k)(hb:UO x.b):(a.one x).1.Ts (k+80000):=by
 have h0:=h.le (show k<=k+80000 by omega);unfold Ag.one;refine bJ (λq:Ag×Ou=>q.1.Ts (k+80000)) h0 ?_;refine bJ (λq:Ag×Ou=>q.1.Ts (k+80000)) (h.run O) ?_;refine bJ (λq:Ag×Ou=>q.1.Ts (k+80000)) ?_ ?_
 .obtain⟨h1,h2⟩:=m7 h.g h.i hb;exact⟨h1,h2,h.s,h0.o,h.n64⟩
 refine bJ (λq:Ag×Ou=>q.1.Ts (k+80000)) ?_ ?_
 .refine bJ (λq:Ag×Ou=>q.1.Ts (k+80000)) h0 ?_;obtain⟨h1,h2⟩:=lU h.g h.i x.n.toNat;exact⟨h1,h2,h.s,h0.o,h.n64⟩
 refine bJ (λq:Ag×Ou=>q.1.Ts (k+80000)) h0 ?_;refine bJ (λq:Ag×Ou=>q.1.Ts (k+80000)) ⟨h0.g,h0.i,h0.s,h0.o,h0.n64⟩ ?_
 grind
theorem Ag.Ts.out(h:a.Ts k):(a.one x).2.v.wf:=by
 grind [Ag.one,D7,h.wf]
end
abbrev ItR.cells(x:ItR):List Value:=[.i x.kind,.i x.S2,.i x.n,.slice x.A (J x.b) x.c]
abbrev Ou.cells(o:Ou)(Y:ν):List Value:= .i o.n::(o.v.cells Y++[.i o.why])
structure OuR where
 o:Ou
 Y:ν
abbrev OuR.cells(z:OuR):List Value:=z.o.cells z.Y
structure Wx.ok(k:Nat)(m:Wx):Prop where
 g:lI m.bp m.P m.gs
 f:∀a,a∈m.l->a.Ts k
theorem Wx.ok.le{k j:Nat}{m:Wx}(h:m.ok k)(hj:k<=j):m.ok j:=⟨h.g,λa ha=>(h.f a ha).le hj⟩
end Go.Ink
namespace Go.Ink
open List renaming length→J, replicate→R9
open IntKind renaming wrap→V9
open Go.RowKit Go.Proofs.Tryz
variable{d:Un}{c:Int}
variable{x k:Nat}
section
attribute [local irreducible] UL bM
theorem GJ(b bm bd:Nat)(Z:fv)(d:Un)(count:Int):CI prog 159 [.p b,.int .u64 count] (eW b bm bd Z d) (λv cs=>v= .tuple #[]/\cs=eW b bm bd Z (d.tick count)):=λw hi=>by
 have HY:=NS (d:=d) (c:=count);have HN:=Ο (d:=d) (c:=count);obtain⟨dt,hdt⟩:=Uk (d.tick count);rw[hdt]at HY HN|-;obtain⟨pe,ma,ti,ou,inp,dk,se,pl,st⟩:=d;obtain⟨Ao,co,Ai,ci⟩:=Z;dsimp only at HY HN;refine UH func159 ntmps159 hi ?_;refine UE ?_;refine Wl I I (cA I I (cU I) I) ?_;refine V1 ?_ ?_<;>intro hc0
 .rw[HY hc0];refine Uu ?_;refine ZL ?_;refine gX ?_;refine ZL ?_;refine Zn (gK (cs':=[row _ _ _,slv _ _ _ _ _ _,V6 _ _ _ _,slv _ _ _ _ _ _]) (.inr I) Zu I ?_);exact ff
 rw[HN hc0];refine Zc (gK (cs':=[row _ _ _,slv _ _ _ _ _ _,V6 _ _ _ _,slv _ _ _ _ _ _]) (.inr I) Zu I ?_);exact ff
theorem GL(b bm bd x:Nat)(Z:fv)(d:Un)(hx:bits .and .u32 d.SU d.mask=(x:Int))(h256:x<256)(w:World)(h:(refBRow b bm bd Z d).ok w):
  CW prog 160 [.p b] w (.i (oV x)):=by
 refine UB func160 ntmps160 ?_;refine fo ?_;refine UX (λk:Nat=>[(0,.p b),(3,.i (k:Int))]) (λ_=>[]) (λk=>k<=8/\kE x k (8 - k)=jy x) (λk=>8 - k) (0) ⟨ay _,I⟩ ?_;rintro k ⟨hk,hlf⟩;refine Vl ?_ ?_<;>intro hc2
 .simp only[ah]at hc2;have hk8:k<8:=O;have hle:x/2^k<=x:=Nat.div_le_self _ _;refine Uu ?_;refine B7 ?_;refine Ld 2 1 ?_;refine Q5 ?_;refine ZE 5 ?_;refine Ld 6 2 ?_;refine QU ?_;refine UF 8 I (m4 ne ne hx) ?_;refine ZE 9 ?_;refine UF 10 I (cA I I (Zv I) (show _=(k:Int)from by first|exact u64_wrap_id _ O O|exact uint_wrap_id _ O O)) ?_;refine UF 11 I (jH (Zv I) (Zv I) O (N8 hk8)) ?_;refine UF 12 I (m4 (Zv I) (Zv I) (Qo O)) ?_;refine UF 13 I (oK (Zv I) (Zv I) (lW _ 1)) ?_;refine sR ?_;refine ZW ?_ ?_<;>intro hc4
  .refine fo ?_;refine VW ?_;exact⟨by rw[low_hit hk8 hlf hc4],rfl⟩
  refine kb ?_;refine Vo (k+1) ⟨⟨by omega,O9 hk8 hlf hc4⟩,by omega⟩
 simp only[aa]at hc2;obtain rfl:k=8:=O;refine nR ?_;exact⟨by rw[O8 hlf],rfl⟩
theorem CO(op:Int)(w:World):CW prog 169 [.i op] w (.bool (gg op)):=by
 refine UB func169 ntmps169 ?_;refine jF ?_;exact vG
theorem Au(A:Oa)(c:Nat)(b:Li)(hb:UO b)(w:World)(h:Rd w .u8 A (J b) c b):
  Uz prog 163 [.slice A (J b) c] w [] (λv cs=>(∃y:Bool,v= .tuple #[.agg (insV (dH b)).toArray,.i (insN (dH b):Int),.bool y])/\cs=[]):=by
 have hlm:J b<=maxLen:=aR h.cap h.max;simp only[maxLen]at hlm;cases b with
 |nil=>
  refine UB func163 ntmps163 ?_;refine py ?_;refine ZN λb2=>?_;refine fo ?_;refine mV ?_;refine Us ?_;refine iS ?_;refine v8 ?_;exact⟨⟨true,I⟩,I⟩
 |cons op l=>
  have hop:=hb op cE;have hl:UO l:=λx hx=>hb x (bo _ hx)
  have hlen:J (op::l)=J l+1:=rfl;obtain⟨ad,rfl⟩:=h.some_ (by rw[hlen];omega);have hz5:cw op=0\/cw op=1\/cw op=2\/cw op=5:=iD op;have HS:=om op;have hn0:0<=cw op:=by omega
  obtain⟨z0,hz0⟩:∃z:Nat,cw op=z:=ai hn0;have E0:=qv (op:=op) l;have E1:=oZ (op:=op) (l:=l);have E2:=λz h1 h2=>mG (op:=op) (l:=l) (z:=z) h1 h2
  rw[hz0]at hz5 HS E0 E1 E2;have hz6:z0<=5:=by omega
  refine UB func163 ntmps163 ?_;refine py ?_;refine ZN λb2=>?_;refine Wq289 ?_;refine sO ?_;refine ZA ?_;refine ZN λb5=>?_
  refine iS ?_;refine UD (λw hi=>HS w) ?_;refine oI ?_ ?_<;>intro hc5
  .rw[E0 (gO hc5)];refine Us ?_;refine iS ?_;refine v8 ?_;exact⟨⟨false,I⟩,I⟩
  have hz1:1<=z0:=(by have:=ne_of_beq_false hc5;omega);refine yZ ?_ ?_<;>intro hc7
  .simp only[ah]at hc7;rw[E1 (by rw[hlen]at hc7;omega)];refine Us ?_;refine iS ?_;refine v8 ?_;exact⟨⟨true,I⟩,I⟩
  simp only[aa]at hc7;obtain⟨z,rfl⟩:∃z,z0=z+1:=⟨z0 - 1,by omega⟩;have hzl:z<=J l:=(by rw[hlen]at hc7;omega);rw[E2 z rfl hzl];obtain⟨N,hN⟩:∃N:Nat->Int,(λk=>sE (l.take k))=N:=⟨_,I⟩;have hNz:N z=sE (l.take z):=(by rw[<-hN]);have hN0:N 0=0:=(by rw[<-hN];rfl);have hNs:∀k x,k<=3->l[k]? =some x->bits .or .u32 (N k) (V9 .u32 (x*2^(8*k)))=N (k+1):=(λk x h1 h2=>by rw[<-hN];exact K2 hl h1 h2);rw[<-hNz];refine Uu ?_;refine iH ([row b2 [.i 0,.w 0] 51,row b5 [.i op,.w 0] 51]) Zj ?_;rw[show row b5 [Value.i op,Value.w 0] 51=row b5 [Value.i op,Value.w (N 0)] 51 from by rw[hN0]];refine Ut ?_;refine UX (λk:Nat=>[(0,.slice (some ad) (J (op::l)) c),(2,.p b2),(5,.p b5),(6,.i ((z+1:Nat):Int)),(7,.i ((k+1:Nat):Int))]) (λk=>[row b2 [.i 0,.w 0] 51,row b5 [.i op,.w (N k)] 51]) (λk=>k<=z) (λk=>z - k) (0) (ay _) ?_;rintro k hk;refine V1 ?_ ?_<;>intro hc10
  .simp only[ah]at hc10;have hkz:k<z:=O;have hx:l[k]? =some (l[k]'(by omega)):=aj O;have hxb:=hl _ (List.getElem_mem (show k<J l by omega));obtain⟨x,hxx⟩:=Uk (l[k]'(by omega));rw[hxx]at hx hxb;have hst:=hNs k x O hx;refine Ut ?_;refine bN (UK [14]) Zk (Ld 0 1 ?_);refine ZG 1 ?_;refine ZE 2 ?_;refine ZE 3 ?_;refine UF 4 I (cW (j:=k+1) I ir (Zv I) (Zv I) Uq Uq) ?_;refine US 5 I (bL ir ne) (dG h (bX (l:=op::l) (j:=k+1) hx)) ?_;refine UF 6 I (cA I I (Zv I) (u32_wrap_id _ O O)) ?_;refine ZE 7 ?_;refine UF 8 I (eA (Zv I) (Zv I) (show _=(k:Int)from by rw[aN _ ⟨by omega,by omega⟩];omega)) ?_;refine UF 9 I (cA I I (Zv I) (show _=(k:Int)from by first|exact u64_wrap_id _ O O|exact uint_wrap_id _ O O)) ?_;refine UF 10 I (fL (Zv I) (Zv I) (show _=((8*k:Nat):Int)from(u64_wrap_id _ O O).trans O)) ?_;refine UF 11 I (tI (Zv I) (Zv I) O (show _=V9 .u32 (x*2^(8*k))from by rw[minU (show 8*k<=31 by omega)])) ?_;refine UF 12 I (xA ne ne hst) ?_;refine Ld 13 1 ?_;refine cQ 14 Zk (ke ?_);refine Ut ?_;refine Zy (dr (Zv I) (Zv I) (show _=((k+1+1:Nat):Int)from by rw[aN _ ⟨by omega,by omega⟩];omega)) ?_;refine py ?_;refine Vo (k+1) ⟨show k+1<=z by omega,show z - (k+1)<z - k by omega⟩
  simp only[aa]at hc10;obtain rfl:k=z:=O;refine UE ?_;refine mS ?_;refine v8 ?_;exact⟨⟨false,I⟩,I⟩
theorem CM(K:gb)(bx n:Nat)(T:List TE)(M:Uy)(hM:UI n M)(p:Nat)(hp:p<=4294967295)(w:World)(h:(fw bx K.bm T).ok w)(h2:(zY K n).ok w)(h3:(rmB K n M).ok w):
  CW prog 118 [.p bx,.w (p:Int)] w (.tuple #[.agg (insV (dI n M p)).toArray,.i (insN (dI n M p):Int)]):=by
 have hn:=hM.n64;have hdl:=hM.m.dl;have hdb:=hM.m.db;have hr:Rd w .u8 (sA K.bB) (n*64) (n*64) M.data:=de h3;have HH:=lT K n hn p 1 O An;by_cases hpn:p/64<n
 .rw[w9 hpn];rw[ak (show p+1<=n*64 by omega)]at HH;have hXl:J ((M.data.drop (p/64*64)).take 64)=64:=by rw[aU,List.length_drop];omega
  have hXb:UO ((M.data.drop (p/64*64)).take 64):=λx hx=>hdb x (bD (aX hx))
  have hcut:=UJ.cut hr (lo:=p) (hi:=(p/64+1)*64) O O;rw[if_neg O,Option.map_some,Addr.add_lit,bA,Nat.mul_one]at hcut;have hX2:((ints .u8 M.data).take ((p/64+1)*64)).drop p=ints .u8 (((M.data.drop (p/64*64)).take 64).drop (p%64)):=by
   unfold ints;rw[<-List.map_take,<-List.map_drop];congr 1;rw[List.take_drop,List.drop_drop,show p/64*64+p%64=p by omega,show p/64*64+64=(p/64+1)*64 by omega]
  rw[hX2,show(p/64+1)*64 - p=64 - p%64 by omega]at hcut;obtain⟨X,hX⟩:=Uk ((M.data.drop (p/64*64)).take 64);rw[hX]at hXl hXb hcut|-;have hbl:J (X.drop (p%64))=64 - p%64:=by rw[List.length_drop,hXl]
  have HD:=λA c w h=>Au A c (X.drop (p%64)) (λx hx=>hXb x (bD hx)) w h
  rw[hbl]at HD;obtain⟨o,ho⟩:=Uk (dH (X.drop (p%64)));rw[ho]at HD|-;obtain⟨e1,he1⟩:=Uk (64 - p%64);rw[he1]at HD hcut;refine UB func118 ntmps118 ?_;refine py ?_;refine ZN λb4=>?_;refine UE ?_;refine BT ?_;refine ZA ?_;refine Ig ?_;refine UD (λw hi=>HH w (bH.old h2 hi)) ?_;refine kU ?_;refine Uu ?_;refine Zy (jW (Zv I) (Zv I) O (show _=((p/64:Nat):Int)from by rw[bj O,u32_wrap_id _ O O];omega)) ?_;refine Zy (dr (Zv I) (Zv I) (show _=((p/64+1:Nat):Int)from by rw[u32_wrap_id _ O O];omega)) ?_;refine Zy (fL (Zv I) (Zv I) (show _=(((p/64+1)*64:Nat):Int)from by rw[u32_wrap_id _ O O];omega)) ?_;refine UG ?_;refine BT ?_;refine py ?_;refine BT ?_;refine py ?_;refine Zy (kX (sz:=1) (lo:=p) (hi:=(p/64+1)*64) (r:=p) I ir (Zv I) (.inr ⟨_,_,I,(Zv I)⟩) (.inr ⟨_,_,I,(Zv I)⟩) O O O O) ?_;rw[show(p/64+1)*64 - p=e1 by omega];refine UW (λw hi=>HD (some ⟨K.bB,p,none⟩) (n*64 - p) w (UJ.SS hcut hi)) ?_;rintro _ _ ⟨⟨y,rfl⟩,rfl⟩;refine Ut ?_;refine ZN λb7=>?_
  refine ZM ?_;refine UG ?_;refine iz ?_;exact Wa
 rw[w8 O];rw[ao (show¬p+1<=n*64 by omega)]at HH;refine UB func118 ntmps118 ?_;refine py ?_;refine ZN λb4=>?_;refine UE ?_;refine BT ?_;refine ZA ?_;refine Ig ?_;refine UD (λw hi=>HH w (bH.old h2 hi)) ?_;refine Us ?_;refine mV ?_;refine Us ?_;refine mS ?_;exact Wa
theorem CK(A:Oa)(c:Nat)(l:Li)(x:Int)(w:World)(h:Rd w .i64 A (J l) c l):CW prog 170 [.slice A (J l) c,.i x] w (.bool (l.contains x)):=by
 have hlm:J l<=maxLen:=aR h.cap h.max;simp only[maxLen]at hlm;refine UB func170 ntmps170 ?_;refine fo ?_;refine UX (λk:Nat=>[(0,.slice A (J l) c),(1,.i x),(5,.i (k:Int))]) (λ_=>[]) (λk=>k<=J l/\∀j,j<k->l[j]? ≠some x) (λk=>J l - k) (0) ⟨ay _,λj hj=>by omega⟩ ?_;rintro k ⟨hk,hno⟩;refine VM ?_ ?_<;>intro hc2
 .simp only[ah]at hc2;have hkl:k<J l:=O;obtain⟨ad,rfl⟩:=h.some_ O;have hy:l[k]? =some (l[k]'hkl):=aj hkl;obtain⟨y,hyy⟩:=Uk (l[k]'hkl);rw[hyy]at hy;refine UG ?_;refine BR ?_;refine dW (bL ir ne) (dG h (bX hy)) I (Wj ?_ ?_)<;>intro hc4
  .have e:=gO hc4;refine nR ?_;exact⟨by rw[List.contains_eq_mem,ak (e▸az hy)],rfl⟩
  refine kb ?_;refine Vo (k+1) ⟨⟨by omega,λj hj=>by rcases Nat.lt_or_ge j k with h1|h1;exact hno j h1;obtain rfl:j=k:=O;rw[hy];intro e;exact ne_of_beq_false hc4 (aG e)⟩,by omega⟩
 simp only[aa]at hc2;have hnm:l.contains x=false:=(by rw[List.contains_eq_mem,aa];intro hm;obtain⟨j,hj,e⟩:=List.getElem_of_mem hm;exact hno j O (by rw[aj hj,e]));refine nR ?_;exact⟨by rw[hnm],rfl⟩
theorem Aq(op nn:Int)(r:Wn)(X:eN)(Ap:Oa)(cp:Nat)(SR was:Int)(hpc:u32 r.s.pc)(hw:u32 was)(w:World)(h:Rd w .i64 Ap (J r.SC) cp r.SC):
  CW prog 121 [.agg #[.i op,.w nn],.agg (ic r X Ap cp).toArray,.i SR,.w was] w (.bool (iY op r SR was)):=by
 have HC:=CK Ap cp r.SC SR;have hq:∀x:Int,u32 x->V9 .u32 (x.tdiv 64)=x/64:=λx hx=>by obtain⟨h1,h2⟩:=hx;rw[bj h1,u32_wrap_id _ O O]
 refine UB func121 ntmps121 ?_;refine py ?_;refine ZO λb4=>?_;refine ZO λb5=>?_
 refine Ux ?_;refine UD (λw hi=>CO op w) ?_;refine oQ ?_;refine dx (bP I I) (.cons (cU I) (.cons (cU I) .nil)) (λ_ _=>I) (λhg w hi=>HC w (UJ.SS h hi)) I (fo ?_);refine Wl I I (jW (cU I) (Zv I) O (hq _ hpc)) ?_;refine ZB ?_;refine Wl I I (jW (cU I) (Zv I) O (hq _ hw)) ?_;refine UA ?_;refine VW ?_;refine⟨congrArg Value.bool ?_,I⟩;unfold iY;cases gg op<;>cases r.TH<;>cases r.device<;>cases r.s.halted<;>cases r.SC.contains SR<;>rfl
variable{n:Nat}{s:St}{U:Uo}
theorem UI.rest{n SR:Nat}:∀(k:Nat) {s:St} {p:Nat} {U:Uo} {d:Un},Vp n s U d->UI n U.m->UI n (dO n SR k s p U d).2.1.m
 |0,s,p,U,d,_,h=>h
 |k+1,s,p,U,d,hG,h=>by
  unfold dO;cases hf:dI n U.m p with
  |none=>exact h
  |some o=>
   obtain⟨⟨op,nn⟩,z⟩:=o;obtain⟨f1, -⟩:=jl hG.u.m hf;have hg:=px (op:=op) (nn:=nn) hG.wf hG.right f1 hG.u hG.dv;have hl:=oG (n:=n) (op:=op) (nn:=nn) (s:=s) (U:=U) hG.lines;have hm:=h.do (d:=d) hG.dv.wf (s:=s) hG.wf.d op nn;obtain⟨⟨q,U1,d1⟩,hq⟩:=Uk (lj n s op nn U d);rw[hq]at hg hl hm;obtain⟨g1,g2, -,g4,g5, -⟩:=hg;dsimp only at g1 g2 g4 g5 hl hm|-;rw[hq];dsimp only;cases iY op q SR s.pc with
   |false=>exact hm
   |true=>exact UI.rest k ⟨g1,g2,g4,g5,hl⟩ hm
theorem UI.block(hG:Vp n s U d)(h:UI n U.m)(hw:∀root va kind Sy,UI n (dw n U.m root va kind Sy).2):UI n (cL n s U d).2.1.m:=by
 have hb:=(kp hG).g;have hm:=h.begin (s:=s) (d:=d) hw;unfold cL;dsimp only;cases(cF n s U d).runs with
 |true=>exact UI.rest 8 hb hm
 |false=>exact hm
theorem CT(K:gb)(bx n b bd:Nat)(Z:fv)(s:St)(hwf:s.wf)(hr:s.right=true)(Ad Ar:Oa)(cd cr:Nat)(U:Uo)(hM:UI n U.m)(hT:J U.t=16)(d:Un)(hm:(d.tick s.count).lines)(w:World)(hi:Inv w (bK (VV K bx n b bd Z U d)) (VV K bx n b bd Z U d) w)
  (h:∀w',cX (bK (VV K bx n b bd Z U d)) w w'->kS w' s Ad Ar cd cr):
  Uz prog 117 [sv s Ad cd Ar cr,.p bx,.p b] w (VV K bx n b bd Z U d)
   (λv cs=>∃X:eN,v= .tuple #[sv (cF n s U d).s X.Ad X.cd X.Ar X.cr,.w (cF n s U d).place,.bool (cF n s U d).runs]/\cs=[UP (cF n s U d).s X.Ad X.cd,UU (cF n s U d).s X.Ar X.cr]++VV K bx n b bd Z (cF n s U d).u (cF n s U d).d):=by
 cases hh:s.halted with
 |true=>
  rw[rD (by rw[hh,aZ])];refine UH func117 ntmps117 hi ?_;refine py ?_;refine ZO λb3=>?_;refine ZN λb6=>?_
  refine YI ?_;rintro _ _ ⟨_,⟨A1,c1,A2,c2,rfl,rfl⟩,rfl⟩;refine ZM ?_;refine UE ?_;refine bV I (hh) (Us ?_);refine iS ?_;exact bI ([row b6 (s.cells (.slice A1 (J s.d) c1) (.slice A2 (J s.r) c2)) 36,UP s A1 c1,UU s A2 c2]++VV K bx n b bd Z U d) Zj (Og (cs':=([UP s A1 c1,UU s A2 c2]++VV K bx n b bd Z U d)) (.inl I) Zu I I I I Zh ir ir ⟨⟨A1,c1,A2,c2⟩,I,I⟩)
 |false=>
  obtain⟨hd16,hr16,hf15⟩:=St.fits hr;obtain⟨d1,hd1⟩:=Uk (d.tick s.count);obtain⟨s1,hs1⟩:=Uk (told s d1);rw[rE (by rw[hr,hh];rfl) hd1 hs1];rw[hd1]at hm;obtain⟨x,hx,hx256⟩:=MH (p:=d1.SU) hm.mask;have HN:=GL b K.bm bd x Z d1 hx hx256;have HK:=GJ b K.bm bd Z d s.count;rw[hd1]at HK;have hY:=λk h1 h2=>Et (s:=s) (d:=d1) (x:=x) (k:=k) hx h1 h2
  have hN:=Jh (s:=s) (d:=d1) (x:=x) hx;have hlt:=λk (h:jy x=some k)=>RR h
  have hls:=λk (h:jy x=some k)=>Pa h
  have hle:=Dq (x:=x);obtain⟨lo,hlo⟩:=Uk (oV x);rw[hlo]at HN hls hle;obtain⟨o,ho⟩:=Uk (jy x);rw[ho]at hY hN hlt hls hle;have hw1:s1.wf/\J s1.d<=16/\J s1.r<=16:=by
   cases hc:(o.isSome&&s.ie)with
   |true=>
    cases o with
    |none=>cases hc
    |some k=>
     exact Wq389
   |false=>rw[<-hs1,hN hc];exact⟨hwf,hd16,hr16⟩
  obtain⟨hwf1,hs16,hq16⟩:=hw1;refine UH func117 ntmps117 hi ?_;refine py ?_;refine ZO λb3=>?_;refine ZN λb6=>?_
  refine YI ?_;rintro _ _ ⟨_,⟨A1,c1,A2,c2,rfl,rfl⟩,rfl⟩;refine ZM ?_;refine UE ?_;refine cG I (hh) (Ux ?_);refine U5 (eW b K.bm bd Z d) (λw hi hin=>HK w hin) ?_;refine py ?_;refine cq (λX:eN=>[(1,.p bx),(3,.p b3),(6,.p b6)]) (λX=>[row b3 (s1.cells (.slice X.Ad (J s1.d) X.cd) (.slice X.Ar (J s1.r) X.cr)) 36,row b6 (St.zero.cells (.slice none 0 0) (.slice none 0 0)) 36,UP s1 X.Ad X.cd,UU s1 X.Ar X.cr]++VV K bx n b bd Z U d1) (λ_=>True) ?_ ?_
  .refine Us ?_;refine UD (λw hi=>HN w (hi.get Zh)) ?_;refine iR ?_;refine ZW ?_ ?_<;>intro hc6
   .have hc6':(o.isSome&&s.ie)=true:=(by rw[<-hle,Bool.and_comm];exact hc6);obtain⟨k,rfl⟩:∃k,o=some k:=(by cases o with|none=>cases hc6'|some k=>exact⟨k,I⟩);have hk8:=hlt k I;obtain rfl:=hls k I;obtain rfl:s1=s.SL ((16+k:Nat):Int) 0:=(by rw[<-hs1];exact hY k I hc6');refine Wq253 ?_;refine UW (λw hi=>oh s A1 A2 c1 c2 ((16+k:Nat):Int) 0 w (hi.TM (Ur (UP s A1 c1)) (Ur (UU s A2 c2)) O O)) ?_;exact Wx73_
   obtain rfl:s1=s:=(by rw[<-hs1];exact hN (by rw[<-hle,Bool.and_comm];exact hc6));refine Zc (UN ((⟨A1,c1,A2,c2⟩:eN)) iF)
  rintro⟨A5,c5,A6,c6⟩ -;clear hY hN hs1;obtain⟨pc,dd,rr,fl,su,pg,ie,rt,ve,ep,ca,ad,es,ei,co,ha⟩:=s1;obtain⟨pcN,rfl⟩:∃m:Nat,pc=m:=ai hwf1.pc.1;obtain⟨rtN,rfl⟩:∃m:Nat,rt=m:=ai hwf1.root.1;have hpc2:=hwf1.pc.2;have hrt2:=hwf1.root.2;dsimp only at hpc2 hrt2 hs16 hq16;have HP:=ky K bx n U hM hT pg su rtN pcN (show rtN<=4294967295 by omega) O 1;have hgo:lF n ⟨pcN,dd,rr,fl,su,pg,ie,rtN,ve,ep,ca,ad,es,ei,co,ha⟩ U d1=(bif(Sz n U ⟨pg,su,rtN⟩ pcN 1).1.2.SB !=0 then⟨St.SL (St.next ⟨pcN,dd,rr,fl,su,pg,ie,rtN,ve,ep,ca,ad,es,ei,co,ha⟩) (Sz n U ⟨pg,su,rtN⟩ pcN 1).1.2.SB (Sz n U ⟨pg,su,rtN⟩ pcN 1).1.2.addr,0,false,(Sz n U ⟨pg,su,rtN⟩ pcN 1).2,d1⟩else⟨⟨pcN,dd,rr,fl,su,pg,ie,rtN,ve,ep,ca,ad,es,ei,co,ha⟩,(Sz n U ⟨pg,su,rtN⟩ pcN 1).1.1,true,(Sz n U ⟨pg,su,rtN⟩ pcN 1).2,d1⟩):=rfl;obtain⟨⟨⟨pl,⟨tc,ta⟩⟩,U1⟩,hq⟩:=Uk (Sz n U ⟨pg,su,rtN⟩ pcN 1);rw[hq]at HP hgo;dsimp only at hgo;rw[hgo];refine gX ?_;refine U5 (Vc K bx n U) (λw hi hin=>HP w hin) ?_;refine Us ?_;refine ZN λb11=>?_
  refine ZA ?_;refine et (cH (vs:=[.i tc,.w ta]) ir I I (ka I) Za mJ) ?_;refine Uw ?_;refine oI ?_ ?_<;>intro hc9
  .rw[hc9,ae];refine Ux ?_;refine UW (λw hi=>oh ⟨pcN,dd,rr,fl,su,pg,ie,rtN,ve,ep,ca,ad,es,ei,co,ha⟩ A5 A6 c5 c6 tc ta w (hi.TM (Ur (sl .u32 32 A5 (J dd) c5 dd)) (Ur (sl .u32 32 A6 (J rr) c6 rr)) (show J dd*4<=_ by omega) (show J rr*4<=_ by omega))) ?_;rintro _ _ ⟨A7,c7,A8,c8,rfl,rfl⟩;refine iS ?_;refine kR ?_;refine mR ?_;refine Uu ?_;refine iS ?_;exact bI ([row b6 (St.cells (St.SL (St.next ⟨pcN,dd,rr,fl,su,pg,ie,rtN,ve,ep,ca,ad,es,ei,co,ha⟩) tc ta) (.slice A7 (J dd) c7) (.slice A8 (J rr) c8)) 36,sl .u32 32 A7 (J dd) c7 dd,sl .u32 32 A8 (J rr) c8 rr]++VV K bx n b bd Z U1 d1) Zj (Og (cs':=([sl .u32 32 A7 (J dd) c7 dd,sl .u32 32 A8 (J rr) c8 rr]++VV K bx n b bd Z U1 d1)) (.inl I) Zu I I I I Zh ir ir ⟨⟨A7,c7,A8,c8⟩,I,I⟩)
  rw[hc9,ac];refine UA ?_;refine mS ?_;exact bI ([row b6 (St.cells ⟨pcN,dd,rr,fl,su,pg,ie,rtN,ve,ep,ca,ad,es,ei,co,ha⟩ (.slice A5 (J dd) c5) (.slice A6 (J rr) c6)) 36,sl .u32 32 A5 (J dd) c5 dd,sl .u32 32 A6 (J rr) c6 rr]++VV K bx n b bd Z U1 d1) Zj (Og (cs':=([sl .u32 32 A5 (J dd) c5 dd,sl .u32 32 A6 (J rr) c6 rr]++VV K bx n b bd Z U1 d1)) (.inl I) Zu I I I I Zh ir ir ⟨⟨A5,c5,A6,c6⟩,I,I⟩)
def EvR.cells(a:EvR):List Value:=[.i a.kd,.i a.n,.slice a.B (J a.bs) a.cb]
structure EvR.ok(W:World)(a:EvR):Prop where
 rd:Rd W .u8 a.B (J a.bs) a.cb a.bs
 bs:UO a.bs
structure G18(n k:Nat)(s:St)(U:Uo)(d:Un):Prop where
 g:Vp n s U d
 m:UI n U.m
 i:Vm d
 o:J d.out<=8*k
theorem G18.block{n k:Nat}{s:St}{U:Uo}{d:Un}(h:G18 n k s U d)(hw:∀root va kind Sy,UI n (dw n U.m root va kind Sy).2):G18 n (k+1) (cL n s U d).1 (cL n s U d).2.1 (cL n s U d).2.2:=by
 have ho:=h.o;rcases mg h.g with h1|⟨-, -,h1,h2⟩
 .exact⟨h1.g,h.m.block h.g hw,qx h.i,by have:=h1.out;omega⟩
 exact⟨h1,h.m.block h.g hw,qx h.i,by rw[h2];omega⟩
theorem LJ{l k:Li}(hn0:1<=n)(hn:n<=64)(hl:J l<=n*64)(hb:UO l)(hk:J k<=1024)(hkb:UO k):G18 n 0 St.new ⟨Uy.init n l,dA⟩ (Un.init k):=
 ⟨LH hl hb hk hkb,UI.init18 hn0 hn hl hb,⟨ay _⟩,aL _⟩
structure WV(n o:Nat)(s:St)(U:Uo)(d:Un):Prop where
 g:Vp n s U d
 m:UI n U.m
 i:Vm d
 o:J d.out<=o
variable{o:Nat}
theorem WV.le{o2:Nat}(h:WV n o s U d)(ho:o<=o2):WV n o2 s U d:=⟨h.g,h.m,h.i,aR h.o ho⟩
theorem WV.block{n o:Nat}{s:St}{U:Uo}{d:Un}(h:WV n o s U d):WV n (o+8) (cL n s U d).1 (cL n s U d).2.1 (cL n s U d).2.2:=by
 have ho:=h.o;rcases mg h.g with h1|⟨-, -,h1,h2⟩
 .exact⟨h1.g,h.m.block h.g (λroot va kind Sy=>h.m.walk root va kind Sy),qx h.i,by have:=h1.out;omega⟩
 exact⟨h1,h.m.block h.g (λroot va kind Sy=>h.m.walk root va kind Sy),qx h.i,by rw[h2];omega⟩
theorem zT{n:Nat}{m f:Int}:∀(k:Nat) {o:Nat} {q:St×Uo×Un},WV n o q.1 q.2.1 q.2.2->WV n (o+8*k) (ju n m f k q).1 (ju n m f k q).2.1 (ju n m f k q).2.2
 |0,o,q,h=>h
 |k+1,o,q,h=>by
  cases hc:fc m f q.1 with
  |false=>rw[jc hc];exact h.le O
  |true=>
   rw[mw hc];exact(zT k (q:=cL n q.1 q.2.1 q.2.2) h.block).le O
theorem WV.run(h:WV n o s U d)(m:Int):WV n (o+8*m.toNat) (eH n m s U d).1 (eH n m s U d).2.1 (eH n m s U d).2.2:=zT m.toNat (q:=(s,U,d)) h
abbrev dgL(R:vJ)(s:St)(X:eN):List Value:=s.cells (.slice X.Ad (J s.d) X.cd) (.slice X.Ar (J s.r) X.cr)++[.p R.bx,.p R.by_]
abbrev WJ(R:vJ)(n:Nat)(s:St)(X:eN)(Z:fv)(U:Uo)(d:Un):List bH:=row R.bg (dgL R s X) 41::dsF R.K R.bx n R.by_ R.bd s X Z U d
structure B2(H:mY)(n o:Nat)(G:Vy)(U:Uo):Prop where
 hn:H.L.n=n
 ok:G.ok n
 g:WV n o G.s U G.d
 e:XS G.U U
 sd:G.d.said
theorem B2.run{H:mY}{n o:Nat}{G G':Vy}{U:Uo}(h:B2 H n o G U)(m:Int)(ho:G'.ok n)(he:(G'.s,G'.U,G'.d)=eH n m G.s G.U G.d):
  B2 H n (o+8*m.toNat) G' (eH n m G.s U G.d).2.1/\G'.s=(eH n m G.s U G.d).1/\G'.d=(eH n m G.s U G.d).2.2:=by
 obtain⟨e1,e2,e3⟩:=run_eqs (n:=n) (s:=G.s) (d:=G.d) h.e m;have hg:=h.g.run m;rw[<-he]at e1 e2 e3;dsimp only at e1 e2 e3;rw[<-e1,<-e3]at hg;exact⟨⟨h.hn,ho,hg,e2,by rw[e3];exact EI m h.sd⟩,e1,e3⟩
abbrev D6.cells(a:D6):List Value:=[.i a.kd,.i a.n,.w a.at_,.slice a.B (J a.bs) a.cb]
structure D6.ok(W:World)(a:D6):Prop where
 rd:Rd W .u8 a.B (J a.bs) a.cb a.bs
 bs:UO a.bs
 at_:u32 a.at_
theorem DH(R:vJ)(n:Nat)(l k:Li)(hn:n<=64):docF R n l k=row R.bg (dgL R St.new Yk) 41::(VT R.K n (Uy.init n l)++[fw R.bx R.K.bm dA]++eW R.by_ R.K.bm R.bd g0D (Un.init k)):=by
 have e:(Uy.init n l).SD.take n=R9 n false:=by show(R9 64 false).take n=_;rw[List.take_replicate,Nat.min_eq_left hn]
 unfold docF VT;rw[e]
 rfl
theorem Xo.pair{bp:Nat}{W ow pr l k:Li}{tr:Bool}{H:mY}{X:eN}{Y:fv}{og:Option Vk}(h:Xo bp o n W ow pr l k tr H ⟨s,X,Y,U,d,og⟩)(hn0:1<=n)(hn:n<=64)(hl:J l<=n*64)(hb:UO l)(hk:J k<=1024)(hkb:UO k):
  s=St.new/\d=Un.init k/\B2 H n 0 ⟨s,X,Y,U,d,og⟩ ⟨Uy.init n l,dA⟩:=by
 have h1:s=St.new:=h.hs;have h2:U=⟨Uy.load n l,dA⟩:=h.hu;have h3:d=Un.init k:=h.hd;subst h1 h2 h3;have hG:=LJ (n:=n) hn0 hn hl hb hk hkb;exact⟨I,I,h.hn,h.ok,⟨hG.g,hG.m,hG.i,hG.o⟩,⟨Uy.Ub hl,I⟩,Lf k⟩
end
end Go.Ink
