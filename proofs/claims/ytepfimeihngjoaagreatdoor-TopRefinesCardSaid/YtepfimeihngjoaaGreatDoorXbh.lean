/- Lemmas. -/
import Derived.Test.YtepfimeihngjoaaGreatDoorXax
import Derived.Test.YtepfimeihngjoaaGreatDoorXay
import Derived.Test.YtepfimeihngjoaaGreatDoorXbd
import Derived.Test.YtepfimeihngjoaaGreatDoorXbe
set_option linter.all false
set_option maxRecDepth 100000
set_option maxHeartbeats 4000000
namespace Go.Ink
open List renaming length→J, replicate→R9
open IntKind renaming wrap→V9
open Go.RowKit Go.Proofs.Tryz
section
attribute [local irreducible] Ve bN
theorem B2(op:Int)(w:World):CW prog 225 [.i op] w (.bool (dD op)):=by
 refine UV func225 ntmps225 ?_;refine Jm ?_;refine ZW ?_ ?_<;>intro hc1
 .refine An ?_;refine bY I (hc1) (fS ?_);exact YR
 refine oU ?_ ?_<;>intro hc2
 .refine fS ?_;exact YR
 refine Jm ?_;refine Wl ?_;exact YR
abbrev pgZ:List Value:=[.slice none 0 0,.i 0,.i 0,.i 0,.i 0,.slice none 0 0,.slice none 0 0,.i 0,.w 0,.i 0,.i 0,.w 0,.i 0,.i 0]
theorem RY{L:Lw}{n:Nat}(h:L.sm n)(op i next:Int):(L.one op i next).sm (n+10):=by
 have h2:=sm_go h op i next
 exact⟨h2.code,h2.dl,h2.rl,h2.dn,h2.rn⟩
theorem Kg:Lw.init.sm 0:=⟨aK _,aK _,aK _,⟨Int.le_refl _,Int.le_refl _⟩,⟨Int.le_refl _,Int.le_refl _⟩⟩
theorem Ig(pc:Int)(w:Lw)(i:Int×Int)(l:List (Int×Int)):nI pc w (i::l)=bif(!eJ i.1 i.2|| !dD i.1)||(gz i.1&& !l.isEmpty)then none else nI (V9 .u32 (pc+V9 .u32 (cB i.1))) (w.one i.1 i.2 (V9 .u32 (pc+V9 .u32 (cB i.1)))) l:=rfl
theorem Ck{α:Type}(l:List α)(k:Nat)(hk:k<J l):(!(l.drop (k+1)).isEmpty)=decide ((k:Int)<(J l:Int) - 1):=by
 grind [decide_eq_true,List.drop_eq_nil_iff,decide_eq_false,List.drop_of_length_le]
variable{l:List (Int×Int)}
def LowK(o:Option Pg)(v:Value)(cs:List bJ):Prop:=match o with
 |some p=>∃Q':Xu,v= .tuple #[XP p Q',.i 0]/\cs=[slv 366 5 Q'.Ac (J p.code) Q'.cc (p.code.flatMap II.cells),sl .i64 3 Q'.Ad (J p.S9) Q'.cd p.S9,sl .i64 3 Q'.Ar (J p.Ta) Q'.cr p.Ta]
 |none=>v= .tuple #[.agg pgZ.toArray,.i 12]/\cs=[]
theorem FB:∀(l:List (Int×Int)) (pc:Int) (L:Lw) (q:Int×Lw) (n:Nat),nI pc L l=some q->L.sm n->q.2.sm (n+10*J l)
 |[],pc,L,q,n,h,hs=>by obtain rfl:(pc,L)=q:=aF h;exact hs.mono cJ
 |i::l,pc,L,q,n,h,hs=>by
  obtain⟨-, -, -,h4⟩:=me h;exact(FB l _ _ q (n+10) h4 (RY hs _ _ _)).mono (by simp only[aE];omega)
theorem Nk(p:Pg)(Q:Xu)(hf:tJ p)(hr:p.Tf=false)(w:World)(h:GC p Q w):
  CW prog 231 [XP p Q,.i 7] w (.tuple #[.agg #[.slice none 0 0,.slice none 0 0,.i 0],.i 1]):=by
 have hR:=vu p Q hf;rw[hr]at hR;refine UV func231 ntmps231 ?_;refine An ?_;refine ZO λb2=>?_;refine ZN λb4=>?_
 refine US ?_;refine UZ (λw hi=>hR w (h.Tb hi)) ?_;refine An ?_;refine NP ?_;refine jV (bR I I) I I (Zy (N4 (q:=false) (Zv I) ⟨_,I,λ_ e=>by simp at e⟩) ?_);refine An ?_;refine iS ?_;refine An ?_;refine Zy (ip (vs:=[Value.slice none 0 0,.slice none 0 0,.i 0]) Zk (.inl ⟨_,I,I⟩)) ?_;refine rY ?_;exact Wy
theorem MJ(p:Pg)(Q:Xu)(hf:tJ p)(hr:p.Tf=false)(w:World)(h:GC p Q w):
  CW prog 187 [XP p Q] w (.tuple #[.slice none 0 0,.i 12]):=by
 refine UV func187 ntmps187 ?_;refine An ?_;refine ZO λb1=>?_;refine US ?_;refine UZ (λw hi=>Nk p Q hf hr w (h.Tb hi)) ?_;refine UN ?_;refine ZN λb4=>?_
 refine qN ?_;refine iS ?_;refine Va ?_;exact oW
end
end Go.Ink
namespace Go.Ink
open List renaming length→J
open IntKind renaming wrap→V9
open Go.RowKit Go.Proofs.Tryz
structure RS where
 r:Rn
 A:Option Addr
 c:Nat
def RS.cells(x:RS):List Value:=[.slice x.A (J x.r.bytes) x.c,.bool x.r.ends]
def RS.v(x:RS):Value:= .agg x.cells.toArray
def RS.zero:RS:=⟨Rn.zero,none,0⟩
def Xe(RZ:List (Ky×RS)):List (Ky×Value):=RZ.map λx=>(x.1,x.2.v)
def Xr(RZ:List (Ky×RS)):List (Ky×Rn):=RZ.map λx=>(x.1,x.2.r)
theorem nB(x:RS):∀u∈x.cells,u.oneCell'=true:=λu h=>by
 simp only[RS.cells,aI,aY,or_false]at h;rcases h with rfl|rfl<;>rfl
variable{w:World}
theorem it_cur{b r:Nat}{L:List (Bool×Ky×Value)}{cur:Option (Ky×Value)}(h:Aj b r L cur w):Aj b r L none w:=by
 obtain⟨es,clock,since,seen,c0,hb,hs,hr,hold,hsc,hsk,hL,hok,hne,hcur⟩:=h;exact⟨es,clock,since,seen,c0,hb,hs,hr,hold,hsc,hsk,hL,hok,hne,λ_ _ e=>by cases e⟩
structure Vy where
 bc:Nat
 mr:Nat
 room:Int
 X:Wn
 RZ:List (Ky×RS)
 last:Ky
 Ti:Int
 Tk:Int
 begun:Bool
def Vy.eng(E:Vy):VB:=⟨E.room,E.X.Z.map BA.b,Xr E.RZ,E.last,E.Ti,E.Tk,E.begun⟩
structure mw(E:Vy):Prop where
 ca:pU E.room E.X
 eg:gR E.eng
 rs:∀y,y∈E.RZ->lD y.1/\J y.2.r.bytes<=1000/\Vh y.2.r.bytes
 last:lD E.last
def WD(G:List (Bool×Ky×RS)):List (Bool×Ky×Value):=G.map λg=>(g.1,g.2.1,g.2.2.v)
variable{G:List (Bool×Ky×RS)}{j:Nat}{q:Ky}
theorem gIL_at{v:Value}(h:(WD G)[j]? =some (false,q,v)):∃x,G[j]? =some (false,q,x)/\v=x.v:=by
 grind [WD]
theorem gIL_del{f:Bool}{x:RS}(hn:(G.map λg=>g.2.1).Nodup)(h:G[j]? =some (f,q,x)):wL (WD G) q=WD (G.eraseIdx j):=by
 have hp:cN (λz:Bool×Ky×Value=>z.2.1) q (WD G)=some j:=by
  have e:cN (λz:Bool×Ky×Value=>z.2.1) q (WD G)=cN (λg:Bool×Ky×RS=>g.2.1) q G:=kB (key:=λg:Bool×Ky×RS=>g.2.1) (key':=λz:Bool×Ky×Value=>z.2.1) (λg:Bool×Ky×RS=>(g.1,g.2.1,g.2.2.v)) ir q G;rw[e];cases hp:cN (λg:Bool×Ky×RS=>g.2.1) q G with
  |none=>exact absurd I (iF hp _ (aG h))
  |some i=>
   obtain⟨hi,hk⟩:=fJ hp;obtain⟨hj,hje⟩:=aC.1 h;have:i=j:=(List.getElem_inj (xs:=G.map λg=>g.2.1) (h₀:=by grind) (h₁:=by grind) hn).1 bZ;rw[this]
 grind [wL,WD,ChangeMaps.map_eraseIdx]
variable{α:Type}
theorem Kk:∀(l:List α) (j:Nat) (x:α),(l.set j x).eraseIdx j=l.eraseIdx j
 :=by grind
theorem sG{β:Type}{g:α->β}{l:List α}{x y:α}(h:l[j]? =some x)(hg:g y=g x):(l.set j y).map g=l.map g:=by
 rw[List.map_set,hg];apply List.ext_getElem?
 grind
def p7(G:List (Bool×Ky×RS)):Nat:=J (G.filter λg=> !g.1)
theorem xi:∀{G:List (Bool×Ky×RS)} {j:Nat} {x:Ky×RS},G[j]? =some (false,x)->p7 (G.set j (true,x))<p7 G
 |[],j,x,h=>by simp at h
 |g::G,0,x,h=>by
  grind [p7]
 |g::G,j+1,x,h=>by
  have:=xi (G:=G) (j:=j) (x:=x) bZ
  grind [p7]
theorem sq:∀{G:List (Bool×Ky×RS)} {j:Nat} {x:Ky×RS},G[j]? =some (false,x)->p7 (G.eraseIdx j)<p7 G
 |[],j,x,h=>by simp at h
 |g::G,0,x,h=>by
  grind [p7]
 |g::G,j+1,x,h=>by
  have:=sq (G:=G) (j:=j) (x:=x) bZ
  grind [p7]
theorem BP(Z:List BA)(RZ:List (Ky×RS)):wK (Z.map BA.b) (Xr RZ)=Xr (RZ.filter λx=>Z.any λt=>t.key==x.1):=by
 grind [wK,Xr,List.filter_congr,List.any_map]
theorem QN(Z:List BA)(k:Ky):(Z.any λt=>t.key==k)=(Z.find? λt=>t.key==k).isSome:=by
 grind
theorem Qn(Z:List BA)(SV:Li):(Z.map BA.b).filter (λt=> !SV.contains (t.key.2/64))=(Z.filter λx=> !SV.contains (x.b.key.2/64)).map BA.b:=by
 rw[List.filter_map]
 rfl
section
attribute [local irreducible] Ve bN
abbrev rsC(x:RS):bJ:=sl .u8 5 x.A (J x.r.bytes) x.c x.r.bytes
def Xf(RZ:List (Ky×RS)):List bJ:=RZ.map λx=>rsC x.2
abbrev enR(be:Nat)(E:Vy):bJ:=row be [.p E.bc,.map (some E.mr),.w E.last.1,.w E.last.2,.i E.Ti,.i E.Tk,.bool E.begun] 175
abbrev Vt(be:Nat)(E:Vy):List bJ:=[enR be E,Xa E.bc (.i E.room) (.slice E.X.Ac (J E.X.Z) E.X.cc) (.map (some E.X.ml)) (.i E.X.fl),blC E.X,dm (E.X.Z.map VZ),V0 E.X.ml (Wf E.X.LK),dm (V8 E.X.LK),V0 E.mr (Xe E.RZ),dm (Xf E.RZ)]
theorem F9(x:RS)(n:Int)(w:World):CW prog 96 [.agg x.cells.toArray,.i n] w (.i (bif n==0 then 0 else(J x.r.bytes:Int))):=by
 refine UV func96 ntmps96 ?_;refine An ?_;refine ZO λb2=>?_;refine oU ?_ ?_<;>intro hc1
 .refine wv ?_;rw[hc1];exact fx
 refine nY ?_;rw[hc1];exact fx
theorem MC(room:Int)(w:World):UW prog 28 [.i room] w [] (λv cs=>if 1<=room/\room<=1024 then∃be bc mr ml,v= .tuple #[.p be,.i 0]/\cs=Vt be ⟨bc,mr,room,⟨ml,none,0,0,[],[]⟩,[],(0,0),0,0,false⟩else v= .tuple #[.pointer none,.i 1]/\cs=[]):=by
 have HN:=cnew_ok room;refine UV func28 ntmps28 ?_;by_cases hr:1<=room/\room<=1024
 .have HN2:∀w,UW prog 91 [.i room] w [] (λv cs=>∃bc ml,v= .tuple #[.p bc,.i 0]/\cs=VQ bc room ⟨ml,none,0,0,[],[]⟩):=λw=>UW.mono (HN w) λv cs h=>by grind
  refine U8 ?_;refine Vl (λw hi=>HN2 w) ?_;rintro _ _ ⟨bc,ml,rfl,rfl⟩;refine r7 ?_;refine UK ?_;refine pW (ZA ?_);refine gS (Db I) I ?_;rintro _ _ ⟨b15,rfl,rfl⟩;refine ZA ?_;refine ZO λb17=>?_
  refine UQ ?_;refine bK (Vt b17 ⟨bc,b15,room,⟨ml,none,0,0,[],[]⟩,[],(0,0),0,0,false⟩) Zj (wB (cs':=Vt b17 ⟨bc,b15,room,⟨ml,none,0,0,[],[]⟩,[],(0,0),0,0,false⟩) (.inl I) (aL _) I I I ?_);rw[if_pos hr];exact⟨b17,bc,b15,ml,I,I⟩
 have HN2:∀w,UW prog 91 [.i room] w [] (λv cs=>v= .tuple #[.pointer none,.i 1]/\cs=[]):=λw=>UW.mono (HN w) λv cs h=>by grind
 refine U8 ?_;refine UZ (λw hi=>HN2 w) ?_;refine kF ?_;refine iS ?_;refine U8 ?_;refine po ?_;rw[if_neg hr];exact fx
theorem Ci(be:Nat)(E:Vy):CI prog 83 [.p be] (Vt be E) (λ_ cs=>∃ml fl,cs=Vt be ⟨E.bc,E.mr,E.room,⟨ml,none,0,fl,[],[]⟩,[],E.last,E.Ti,E.Tk,E.begun⟩):=λw hi=>by
 refine Vb func83 ntmps83 hi ?_;refine UU ?_;refine dH (VQ E.bc E.room E.X) (λw hi hin=>Cv E.bc E.room E.X w hin) ?_;rintro _ _ ⟨ml,fl,rfl,rfl⟩;refine US ?_;refine eA (OB I I Za) ?_;refine UR ?_;refine Zn (mL (cin:=Xf E.RZ) (cin':=[]) Zd (List.nil_sublist _) ?_);exact bK (Vt be ⟨E.bc,E.mr,E.room,⟨ml,none,0,fl,[],[]⟩,[],E.last,E.Ti,E.Tk,E.begun⟩) Zj (io (cs':=Vt be ⟨E.bc,E.mr,E.room,⟨ml,none,0,fl,[],[]⟩,[],E.last,E.Ti,E.Tk,E.begun⟩) (.inr I) (aL _) I ⟨ml,fl,I⟩)
theorem If(Y:bJ)(D:Ky->Bool)(f:FuncId)(caps:List Value)(HF:∀args w,(callFunc f args).run prog w= .ok (.enter f args) w)(RZ:List (Ky×RS))(hn:(RZ.map (·.1)).Nodup)(hk:∀y,y∈RZ->lD y.1)(mr:Nat)
  (HC:∀(q:Ky) (x:RS) (w:World),lD q->Inv w (bM [Y]) [Y] w->UW prog f ([]++[.agg (cD q).toArray,.agg x.cells.toArray]++caps) w [Y] (λv cs=>v= .bool (D q)/\cs=[Y]))
  :CI prog 175 [.map (some mr),.func (.func f) #[] caps.toArray] [V0 mr (Xe RZ),Y] (λ_ cs=>cs=[V0 mr (Xe (RZ.filter λx=> !D x.1)),Y]):=λw hi=>by
 refine Vb func175 ntmps175 hi ?_;refine UN ?_;refine gS (EX I I Za) I ?_;rintro _ _ ⟨b7,rfl,rfl⟩;rw[show(Xe RZ).map (λx=>(false,x))=WD (RZ.map λx=>(false,x)) by unfold Xe WD;simp_all];refine UN ?_;refine Vs (λG:List (Bool×Ky×RS)=>[(0,.map (some mr)),(1,.func (.func f) #[] caps.toArray),(7,.p b7)]) (λG=>[Xg mr b7 (WD G) none,Y]) (λG=>(G.map (·.2)).filter (λx=> !D x.1)=RZ.filter (λx=> !D x.1)/\(∀g,g∈G->g.1=true->D g.2.1=false)/\(G.map λg=>g.2.1).Nodup/\(∀g,g∈G->lD g.2.1)) (λG=>p7 G) (RZ.map λx=>(false,x)) ⟨(by rw[List.map_map];show(RZ.map id).filter _=_;simp_all),(λg hg h=>by grind),bZ,(λg hg=>by grind)⟩ ?_;rintro G ⟨hG,hT,hN,hK⟩;refine An ?_;refine gS (J5 I Za) I ?_;rintro _ _ ⟨o8,ho8,rfl,rfl⟩;refine Zy (Jr py) ?_;refine VP ?_ ?_<;>intro hc1
 .obtain⟨⟨j,q,v⟩,rfl⟩:=Option.isSome_iff_exists.1 hc1;have hj0:(WD G)[j]? =some (false,q,v):=ho8;obtain⟨x,hx,rfl⟩:=gIL_at hj0;have hq:=hK _ (aG hx);have hIT:(WD G).set j (true,q,x.v)=WD (G.set j (true,q,x)):=(by unfold WD;simp_all);have hx2:(G.set j (true,q,x))[j]? =some (true,q,x):=List.getElem?_set_self (aC.1 hx).1;have hN2:((G.set j (true,q,x)).map λg=>g.2.1).Nodup:=(by rw[sG (y:=(true,q,x)) hx rfl];exact hN);have hdel:wL ((WD G).set j (true,q,x.v)) q=WD (G.eraseIdx j):=(by rw[hIT,gIL_del hN2 hx2,Kk]);refine UQ ?_;refine dZ (Jv (Zv I)) (λw hi=>(show Aj mr b7 (DT (WD G) (some (j,q,x.v))) (some (q,x.v)) w from hi.get (UJ (Xg mr b7 (DT (WD G) (some (j,q,x.v))) (K7 (some (j,q,x.v))))))) I (An ?_);refine ZN λb4=>?_
  refine ZN λb5=>?_
  refine eA (cL (vs:=cD q) ir I I (vq q) Za mS) ?_;refine UR ?_;refine eA (cL (vs:=x.cells) ir I I (nB x) Za mS) ?_;refine UR ?_;refine US ?_;refine gS (iZ ([Y]) I I HF Zi (λw hi hin=>HC q x w hq hin)) I ?_;refine Vz ?_;refine An ?_;refine ZW ?_ ?_<;>intro hc3
  .refine UN ?_;refine eA (t_itdel I I hq I D6 Za) ?_;refine UR ?_;refine An ?_;refine iA (c:=Xg mr b7 (wL ((WD G).set j (true,q,x.v)) q) none) (c':=Xg mr b7 (WD (G.eraseIdx j)) none) Za I (λw h=>by grind) (Vd ((G.eraseIdx j)) ⟨⟨(by rw[ChangeMaps.map_eraseIdx,sK (x:=(q,x)) bZ bZ];exact hG),(λg hg h=>hT g ((List.eraseIdx_sublist _ _).subset hg) h),hN.sublist ((List.eraseIdx_sublist _ _).map _),λg hg=>hK g ((List.eraseIdx_sublist _ _).subset hg)⟩,sq hx⟩)
  refine An ?_;refine iA (c:=Xg mr b7 ((WD G).set j (true,q,x.v)) (some (q,x.v))) (c':=Xg mr b7 (WD (G.set j (true,q,x))) none) Za I (λw h=>by rw[<-hIT];exact it_cur h) (Vd ((G.set j (true,q,x))) ⟨⟨(by rw[sG (y:=(true,q,x)) hx rfl];exact hG),(λg hg h=>(List.mem_or_eq_of_mem_set hg).elim (λhg=>hT g hg h) (λe=>by grind)),hN2,(λg hg=>(List.mem_or_eq_of_mem_set hg).elim (λhg=>hK g hg) (λe=>by grind))⟩,xi hx⟩)
 obtain rfl:o8=none:=kY;have ho0:∀x,x∈WD G->x.1=true:=ho8;have hall:∀g,g∈G->D g.2.1=false:=(λg hg=>hT g hg (ho0 (g.1,g.2.1,g.2.2.v) (List.mem_map.2 ⟨g,hg,I⟩)));refine UK ?_;refine Bq (IL:=WD G) (cur:=none) (b:=mr) (r:=b7) Zd ?_;rw[show(WD G).map (·.2)=Xe (RZ.filter λx=> !D x.1) by rw[<-hG,List.filter_eq_self.2 (λy hy=>by grind)];unfold WD Xe;simp_all];refine io (cs':=[V0 mr (Xe (RZ.filter λx=> !D x.1)),Y]) (.inr I) Zu I ?_
 rfl
section
variable{C:Cx}{fr:Fr}{cs cs':List bJ}{e:Exit}{fn:Func}{K:Value->List bJ->Prop}
theorem xw{t T bb tt t2 T2 b2 tt2 u:Nat}{v:Value}{xs ys:List Value}(he:e= .ret\/e= .normal)(hs:cs'.Sublist cs)(h0:fn.results= #[.cell t T,.cell t2 T2,.tmp u])(h1:look fr t=some (.p bb))(h2:look fr t2=some (.p b2))(h3:look fr u=some v)(hc:Vk cs (row bb xs tt))(hc2:Vk cs (row b2 ys tt2))
  (hT:∀w,(isAgg T).run C.P w= .ok true w) (hz:∀w,(sizeOf T).run C.P w= .ok (J xs) w) (hT2:∀w,(isAgg T2).run C.P w= .ok true w) (hz2:∀w,(sizeOf T2).run C.P w= .ok (J ys) w) (hk:K (.tuple #[.agg xs.toArray,.agg ys.toArray,v]) cs'):VC C (bodyPost C.P fn (Ah C.w0 C.S K)) e fr cs:=
 nC he hs (λa w hf hi=>by
  have e1:=hf.at_ t _ h1;have e2:=hf.at_ t2 _ h2;have e3:=hf.at_ u _ h3;simp only[Array.getD_eq_getD_getElem?]at e1 e2 e3;simp[results,h0,e1,e2,e3,asAddr,gN hT hz hi hc,gN hT2 hz2 hi hc2]) hk
end
theorem UW.up{P:Program}{f:FuncId}{args:List Value}{cin:List bJ}{K K':Value->List bJ->Prop}(h:UW P f args w cin K)(hk:∀v cs w',K v cs->Inv w (bM cin) cs w'->∃cs',K' v cs'/\Inv w (bM cin) cs' w'):UW P f args w cin K':=
 Calls.mono h λe w' hq=>by
  obtain⟨v,cout,rfl,h1,h2⟩:=hq;obtain⟨cs',h3,h4⟩:=hk v cout w' h1 h2;exact⟨v,cs',I,h3,h4⟩
abbrev Vy.TA(E:Vy)(X:Wn):Vy:=⟨E.bc,E.mr,E.room,X,E.RZ,E.last,E.Ti,E.Tk,E.begun⟩
abbrev Vy.TD(E:Vy)(RZ:List (Ky×RS)):Vy:=⟨E.bc,E.mr,E.room,E.X,RZ,E.last,E.Ti,E.Tk,E.begun⟩
def oQ(Z:List BA)(RZ:List (Ky×RS)):List (Ky×RS):=RZ.filter λx=>Z.any λt=>t.key==x.1
theorem ON(RZ:List (Ky×RS)):(Xr RZ).map (·.1)=RZ.map (·.1):=by simp[Xr]
variable{E:Vy}
theorem mw.rk(h:mw E):(E.RZ.map (·.1)).Nodup:=by have:=h.eg.Ui;rwa[show E.eng.runs=Xr E.RZ from I,ON]at this
theorem qb(E:VB){SV:Li}(h:SV≠[]):nl E SV=ML E SV:=by
 grind [nl]
theorem Qo(E:Vy)(SV:Li)(X':Wn)(hX:X'.Z=E.X.Z.filter λx=> !SV.contains (x.b.key.2/64)):
  (bif decide (0<(J (E.X.Z.filter λx=>SV.contains (x.b.key.2/64)):Int))then((E.TA X').TD (oQ X'.Z E.RZ)).eng else(E.TA X').eng)=ML E.eng SV:=by
 have h2:=IA (λx:BA=>SV.contains (x.b.key.2/64)) E.X.Z;have hl:(E.eng.l.filter λt=> !SV.contains (t.key.2/64))=X'.Z.map BA.b:=by rw[hX];exact Qn E.X.Z SV
 have hlen:J E.eng.l=J E.X.Z:=List.length_map _;unfold ML;rw[hl,hlen];dsimp only;rw[List.length_map,hX];cases hd:decide (0<(J (E.X.Z.filter λx=>SV.contains (x.b.key.2/64)):Int))with
 |true=>
  simp only[ai]at hd;rw[ah,ap O,ah];rw[<-hX];show VB.mk E.room (X'.Z.map BA.b) (Xr (oQ X'.Z E.RZ)) E.last E.Ti E.Tk E.begun=VB.mk E.room _ (wK _ (Xr E.RZ)) E.last E.Ti E.Tk E.begun;rw[BP]
  rfl
 |false=>
  simp only[aa]at hd;rw[ac,ao O,ac];rw[<-hX]
  rfl
theorem JN(E:VB)(SV:Li):(nl E SV).last=E.last:=by unfold nl;cases SV.isEmpty<;>rfl
theorem mw.Us{E':Vy}(h:mw E)(SV:Li)(he:E'.eng=nl E.eng SV)(hc:pU E'.room E'.X)(hr:∀y,y∈E'.RZ->y∈E.RZ):mw E':=⟨hc,by rw[he];exact h.eg.turn SV,λy hy=>h.rs y (hr y hy),by have e:=congrArg VB.last he;rw[JN]at e;rw[show E'.last=E.last from e];exact h.last⟩
variable{b:Li}{l:List (Int×Int)}{sz:Nat}{R:List (Int×Int)×Nat×Bool}
variable{k:Nat}
theorem Hw(h:(l++(cQ b (k+1) sz).1,(cQ b (k+1) sz).2)=R)(hd:dI (b.drop sz)=none):(l,sz,false)=R:=by
 grind [cQ]
variable{z:Nat}{i:Int×Int}
theorem KR(h:(l++(cQ b (k+1) sz).1,(cQ b (k+1) sz).2)=R)(hd:dI (b.drop sz)=some (i,z))(hp:dD i.1=false):(l,sz,false)=R:=by
 grind [cQ]
theorem KT(h:(l++(cQ b (k+1) sz).1,(cQ b (k+1) sz).2)=R)(hd:dI (b.drop sz)=some (i,z))(hp:dD i.1=true)(he:gz i.1=true):(l++[i],sz+z,true)=R:=by
 grind [cQ]
theorem O8(h:(l++(cQ b (k+1) sz).1,(cQ b (k+1) sz).2)=R)(hd:dI (b.drop sz)=some (i,z))(hp:dD i.1=true)(he:gz i.1=false):(l++[i]++(cQ b k (sz+z)).1,(cQ b k (sz+z)).2)=R:=by
 grind [cQ]
abbrev caP(bc:Nat)(room:Int)(X:Wn)(Ap:Oa)(cp:Nat)(SV:Li):List bJ:=[Xa bc (.i room) (.slice X.Ac (J X.Z) X.cc) (.map (some X.ml)) (.i X.fl),blC X,dm (X.Z.map VZ),V0 X.ml (Wf X.LK),dm (V8 X.LK),pgC Ap cp SV]
theorem M4(bc:Nat)(room:Int)(X:Wn)(hX:pU room X)(Ap:Oa)(cp:Nat)(SV:Li):CI prog 123 [.p bc,.slice Ap (J SV) cp] (caP bc room X Ap cp SV) (λv cs=>v= .i (J (X.Z.filter (ff SV)):Int)/\∃X':Wn,cs=caP bc room X' Ap cp SV/\pU room X'/\X'.Z=X.Z.filter λx=> !ff SV x):=λw hi=>QG bc room X hX Ap cp SV w hi
abbrev enP(be:Nat)(E:Vy)(Ap:Oa)(cp:Nat)(SV:Li):List bJ:=[enR be E,Xa E.bc (.i E.room) (.slice E.X.Ac (J E.X.Z) E.X.cc) (.map (some E.X.ml)) (.i E.X.fl),blC E.X,dm (E.X.Z.map VZ),V0 E.X.ml (Wf E.X.LK),dm (V8 E.X.LK),V0 E.mr (Xe E.RZ),dm (Xf E.RZ),pgC Ap cp SV]
abbrev tdF(b1 be:Nat)(E:Vy):List bJ:=row b1 [.p be] 60::enR be E::VQ E.bc E.room E.X
theorem Oo(b1 be:Nat)(E:Vy)(hS:BaSm E.X.Z)(q:Ky)(x:RS):CI prog 176 ([]++[.agg (cD q).toArray,.agg x.cells.toArray]++[.p b1]) (tdF b1 be E) (λv cs=>v= .bool (!(E.X.Z.find? λt=>t.key==q).isSome)/\cs=tdF b1 be E):=λw hi=>by
 have HF:=Gq E.bc E.room E.X hS q;obtain⟨o,ho⟩:=Do ((E.X.Z.find? λt=>t.key==q));rw[ho]at HF|-;refine Vb func176 ntmps176 hi ?_;cases o with
 |none=>
  refine An ?_;refine ZO λb3=>?_;refine ZO λb4=>?_
  refine Wq376 ?_;refine GI [(5,[(6,0),(7,0),(8,0),(9,2),(10,2),(11,0)]),(9,[(5,2),(6,0),(7,0),(8,0),(10,2),(11,0)])] Zk (.cons ?_ (.cons ?_ .nil))
  .refine I6 ?_;refine Vz ?_;refine XN ?_;refine et ?_;refine yi ?_;rintro _ _ ⟨b6,rfl,rfl⟩;refine Jb ?_;exact RH
  refine yi ?_;rintro _ _ ⟨b6,rfl,rfl⟩;refine et ?_;refine I6 ?_;refine Vz ?_;refine XN ?_;refine Jb ?_;exact RH
 |some y=>
  refine An ?_;refine ZO λb3=>?_;refine ZO λb4=>?_
  refine Wq376 ?_;refine GI [(5,[(6,0),(7,0),(8,0),(9,2),(10,2),(11,0)]),(9,[(5,2),(6,0),(7,0),(8,0),(10,2),(11,0)])] Zk (.cons ?_ (.cons ?_ .nil))
  .refine I6 ?_;rintro _ _ ⟨_,⟨A9,c9,rfl,rfl⟩,rfl⟩;refine XN ?_;refine et ?_;refine yi ?_;rintro _ _ ⟨b6,rfl,rfl⟩;refine et ?_;exact sk I I (cL ir I I (mW ⟨y.b,A9,c9⟩) Za mS) ZJ RH
  refine yi ?_;rintro _ _ ⟨b6,rfl,rfl⟩;refine et ?_;refine I6 ?_;rintro _ _ ⟨_,⟨A9,c9,rfl,rfl⟩,rfl⟩;refine XN ?_;refine et ?_;exact sk I I (cL ir I I (mW ⟨y.b,A9,c9⟩) Za mS) ZJ RH
theorem F8(be:Nat)(E:Vy)(hS:BaSm E.X.Z)(hn:(E.RZ.map (·.1)).Nodup)(hk:∀y,y∈E.RZ->lD y.1):CI prog 124 [.p be] (Vt be E) (λ_ cs=>cs=Vt be (E.TD (oQ E.X.Z E.RZ))):=λw hi=>by
 have hkr:(E.RZ.filter λx=> !!(E.X.Z.find? λt=>t.key==x.1).isSome)=oQ E.X.Z E.RZ:=by
  unfold oQ;apply List.filter_congr;intro x _;rw[Bool.not_not,QN]
 have hsub:(Xf (oQ E.X.Z E.RZ)).Sublist (Xf E.RZ):=List.Sublist.map _ List.filter_sublist;have HM:=λb1 w hi=>If (dm (tdF b1 be E)) (λq=> !(E.X.Z.find? λt=>t.key==q).isSome) 176 [.p b1] (λ_ _=>I) E.RZ hn hk E.mr
  (λq x w _ hin=>UW.mono (UW.join hin λhin2=>Oo b1 be E hS q x w hin2) (λv cs ⟨cs0,⟨h1,h2⟩,h3⟩=>⟨h1,by rw[h3,h2]⟩)) w hi
 rw[hkr]at HM;refine Vb func124 ntmps124 hi ?_;refine An ?_;refine ZO λb1=>?_;refine US ?_;refine Zy (mz I) ?_;refine RR (cs':=dm (tdF b1 be E)::[V0 E.mr (Xe E.RZ),dm (Xf E.RZ)]) (λw hi=>hi.Uz Zi) (Ws ([V0 E.mr (Xe E.RZ),dm (tdF b1 be E)]) (λw hi hin=>HM b1 w hin) ?_);rintro _ _ ⟨_,rfl,rfl⟩;refine RR (cs':=tdF b1 be E++[V0 E.mr (Xe (oQ E.X.Z E.RZ)),dm (Xf E.RZ)]) (λw hi=>(hi.perm (List.Perm.swap ..)).Ud) (Zn (mL (cin:=Xf E.RZ) (cin':=Xf (oQ E.X.Z E.RZ)) Zd hsub ?_));refine bK (Vt be (E.TD (oQ E.X.Z E.RZ))) Zj (io (cs':=Vt be (E.TD (oQ E.X.Z E.RZ))) (.inr I) (aL _) I ?_)
 rfl
theorem xX(be:Nat)(E:Vy)(hE:mw E)(Ap:Oa)(cp:Nat)(SV:Li):CI prog 72 [.p be,.slice Ap (J SV) cp] (enP be E Ap cp SV) (λ_ cs=>∃E',cs=enP be E' Ap cp SV/\mw E'/\E'.eng=nl E.eng SV):=λw hi=>by
 have HD:=M4 E.bc E.room E.X hE.ca Ap cp SV;refine Vb func72 ntmps72 hi ?_;by_cases hp:SV=[]
 .subst hp;refine UU ?_;refine Υ ?_;refine IX ?_;refine IX ?_;refine IX ?_;refine Zy (Ay (q:=false) (Zv I) ⟨_,I,λ_ e=>absurd e ne⟩) ?_;refine An ?_;refine lN ?_;refine Zc (io (cs':=enP be E Ap cp []) (.inr I) (aL _) I ?_);exact⟨E,I,hE,I⟩
 have hpl:0<J SV:=List.length_pos_iff.2 hp;have HX:=Qo E SV;obtain⟨n9,hn9⟩:∃n:Nat,J (E.X.Z.filter λx=>SV.contains (x.b.key.2/64))=n:=⟨_,I⟩;rw[hn9]at HX;rw[show(E.X.Z.filter (ff SV)).length=n9 from hn9]at HD;refine UQ ?_;rw[show decide ((0:Int)<(J SV:Int))=true from ap O];refine UU ?_;refine gm (bS I I) I (dh (caP E.bc E.room E.X Ap cp SV) I (λ_ _=>I) Zi (λw hi hin=>HD w hin)) I ?_;rintro _ _ ⟨_,⟨rfl,X',rfl,hX',hXZ⟩,rfl⟩;have hX2:=HX X' hXZ;refine WK ?_ ?_<;>intro hc0
 .have hd:decide (0<((n9:Nat):Int))=true:=hc0
  rw[hd,ah]at hX2;refine An ?_;refine Ws (Vt be (E.TA X')) (λw hi hin=>F8 be (E.TA X') hX'.sm hE.rk (λy hy=>(hE.rs y hy).1) w hin) ?_;rintro _ _ ⟨_,rfl,rfl⟩;refine Zn (bK (enP be ((E.TA X').TD (oQ X'.Z E.RZ)) Ap cp SV) Zj ?_);exact io (cs':=enP be ((E.TA X').TD (oQ X'.Z E.RZ)) Ap cp SV) (.inr I) (aL _) I ⟨_,I,hE.Us SV (by rw[hX2,qb _ hp]) hX' (λy hy=>(List.mem_filter.1 hy).1),by rw[hX2,qb _ hp]⟩
 have hd:decide (0<((n9:Nat):Int))=false:=hc0
 rw[hd,ac]at hX2;refine Zc (bK (enP be (E.TA X') Ap cp SV) Zj ?_);exact io (cs':=enP be (E.TA X') Ap cp SV) (.inr I) (aL _) I ⟨_,I,hE.Us SV (by rw[hX2,qb _ hp]) hX' (λy hy=>hy),by rw[hX2,qb _ hp]⟩
theorem rd_drop{A:Oa}{c:Nat}{xs:Li}(h:Rd w .u8 A (J xs) c xs){k:Nat}(hk:k<=J xs):Rd w .u8 (if c=k then A else A.map (·.add (k*1))) (J xs - k) (c - k) (xs.drop k):=by
 have h5:=U5.cut h (lo:=k) (hi:=J xs) hk (aK _);have e:(ints .u8 xs).take (J xs)=ints .u8 xs:=List.take_of_length_le (by simp[ints]);rw[Nat.mul_one]at h5;simp only[Nat.mul_one]at h5|-;rw[e]at h5;have e2:(ints .u8 xs).drop k=ints .u8 (xs.drop k):=by simp[ints]
 rw[e2]at h5;exact h5
theorem PV(l:List (Int×Int))(op nn:Int):l.flatMap Jl++[.i op,.w nn]=(l++[(op,nn)]).flatMap Jl:=by simp
theorem MA(A:Oa)(c:Nat)(b:Li)(hb:Vh b)(hbl:J b<=1000)(w:World)(h:Rd w .u8 A (J b) c b):
  UW prog 185 [.slice A (J b) c] w [] (λv cs=>∃A1 c1,∃x:RS,x.r=⟨b.take (cQ b 8 0).2.1,(cQ b 8 0).2.2⟩/\v= .tuple #[.slice A1 (cQ b 8 0).1.length c1,.agg x.cells.toArray]/\cs=[slv 51 2 A1 (cQ b 8 0).1.length c1 ((cQ b 8 0).1.flatMap Jl),rsC x]):=by
 obtain⟨R,hR⟩:=Do (cQ b 8 0);rw[hR];have hR0:(([]:List (Int×Int))++(cQ b 8 0).1,(cQ b 8 0).2)=R:=hR;have hcap:=h.cap;refine UV func185 ntmps185 ?_;refine UN ?_;refine ZN λb3=>?_
 refine U8 ?_;refine ZN λb5=>?_;refine UK ?_;refine dB 51 2 (UN ?_);refine cj (λq:(List (Int×Int)×Nat×Bool)×Option Addr×Nat=>[(0,.slice A (J b) c),(3,.p b3),(4,.slice q.2.1 (J q.1.1) q.2.2),(5,.p b5),(6,.i (q.1.2.1:Int))]) (λq=>[row b3 [.slice none 0 0,.bool false] 180,row b5 [.slice none 0 0,.bool q.1.2.2] 180,slv 51 2 q.2.1 (J q.1.1) q.2.2 (q.1.1.flatMap Jl)]) (λq=>q.1=R/\q.1.2.1<=J b) ?_ ?_
 .refine Zx (Vs (λq:(List (Int×Int)×Nat×Bool)×Option Addr×Nat=>[(0,.slice A (J b) c),(3,.p b3),(4,.slice q.2.1 (J q.1.1) q.2.2),(5,.p b5),(6,.i (q.1.2.1:Int))]) (λq=>[row b3 [.slice none 0 0,.bool false] 180,row b5 [.slice none 0 0,.bool q.1.2.2] 180,slv 51 2 q.2.1 (J q.1.1) q.2.2 (q.1.1.flatMap Jl)]) (λq=>J q.1.1<=8/\q.1.2.1<=J b/\(q.1.2.2=true->q.1=R)/\(q.1.2.2=false->(q.1.1++(cQ b (8 - J q.1.1) q.1.2.1).1,(cQ b (8 - J q.1.1) q.1.2.1).2)=R)) (λq=>8 - J q.1.1) (⟨([],0,false),none,0⟩) ⟨ax _,ax _,λe=>(by cases e),λ_=>hR0⟩ ?_);rintro⟨⟨l,sz,en⟩,A1,c1⟩ ⟨hl,hsz,hT,hF⟩;dsimp only at hl hsz hT hF|-;have hb5:J (b.drop sz)=J b - sz:=List.length_drop;refine Ab ?_ ?_<;>intro hc4
  .have hc4':(decide ((J l:Int)<8)&& !en)=true:=hc4;simp only[ay,ai,Bool.not_eq_true']at hc4';obtain⟨hl8,rfl⟩:=hc4';have hF:=hF I;obtain⟨k,hk⟩:∃k,8 - J l=k+1:=⟨8 - J l - 1,by omega⟩;rw[hk]at hF;have HD:=λA c w h=>Co A c (b.drop sz) (λx hx=>hb x (bE hx)) w h
   rw[hb5]at HD;have hS:=Hw hF;have hN:=λi z=>KR (z:=z) (i:=i) hF
   have hE:=λi z=>KT (z:=z) (i:=i) hF
   have hO:=λi z=>O8 (z:=z) (i:=i) hF
   have hRg:=λ(op nn:Int) (z:Nat)=>nU (b:=b.drop sz) (λx hx=>hb x (bE hx)) (op:=op) (nn:=nn) (z:=z)
   obtain⟨o,ho⟩:=Do (dI (b.drop sz));rw[ho]at HD hS hN hE hO hRg;refine US ?_;refine Zy (yo I ir (Zv I) (.inr ⟨_,_,I,(Zv I)⟩) (.inl ⟨I,I⟩) O O) ?_;refine Vl (λw hi=>HD _ _ w (rd_drop (h.Tb hi) hsz)) ?_;rintro _ _ ⟨⟨y,rfl,hy⟩,rfl⟩;refine UK ?_;refine ZN λb7=>?_
   refine jb ?_;rcases o with _|⟨⟨op,nn⟩,z⟩
   .have hy0:(y==0)=false:=hy;have hq:=hS I;have hy1:(y !=0)=true:=(by rw[bne,hy0];rfl);refine UN ?_;rw[hy1];refine ZA ?_;refine NP ?_;refine NP ?_;refine Zy (N4 (q:=false) (Zv I) ⟨_,I,λ_ e=>absurd e ne⟩) ?_;refine An ?_;refine iS ?_;exact Wx55_
   have hy0:(y==0)=true:=hy;obtain rfl:y=0:=(by simpa using hy0);have hN:=hN (op,nn) z I;have hE:=hE (op,nn) z I;have hO:=hO (op,nn) z I;obtain⟨hnn,hz1,hz5,hzl⟩:=hRg op nn z I;dsimp only at hN hE hO;refine UU ?_;refine dC (bR I I) (.cons (cO I) .nil) (λ_ _=>I) (λhg w hi=>B2 op w) I (WK ?_ ?_)<;>intro hc6
   .have hp:dD op=false:=(by have h9:(false|| !dD op)=true:=hc6;simpa using h9);have hq:=hN hp;exact Wx55_
   have hp:dD op=true:=(by have h9:(false|| !dD op)=false:=hc6;simpa using h9);refine UU ?_;refine wF ?_;rintro _ _ ⟨b36,rfl,rfl⟩;refine gS (cC (n:=J l) (e:=51) (sz:=2) (bytes:=16) I I Za I I (λw hi=>hi.rd (UJ (slv 51 2 (sA b36) 1 1 [.i op,.w nn]))) (two1 op nn) gD O) I ?_;rintro _ _ ⟨A2,c2,rfl,rfl⟩;rw[PV,show J l+1=J (l++[(op,nn)]) by simp];refine US ?_;refine Zy (dy (Zv I) (Zv I) (show _=((sz+z:Nat):Int)from by show V9 .i64 ((sz:Int)+(z:Int))=_;rw[bI];omega)) ?_;refine UU ?_;refine UZ (λw hi=>zE op w) ?_;refine lx ?_;refine An ?_;refine Vd ((⟨(l++[(op,nn)],sz+z,gz op),A2,c2⟩:(List (Int×Int)×Nat×Bool)×Option Addr×Nat)) ⟨⟨ig,CD,(λe=>by dsimp only at e|-;rw[e];exact hE hp e),(λe=>by dsimp only;rw[ar,show 8 - (J l+J [(op,nn)])=k by simp;omega];exact hO hp e)⟩,ig⟩
  have hq:(l,sz,en)=R:=(by cases en with|true=>exact hT rfl|false=>(have h8:¬((J l:Int)<8):=(by have h9:(decide ((J l:Int)<8)&& !false)=false:=hc4;rw[Bool.not_false,Bool.and_true]at h9;exact of_decide_eq_false h9);have hF:=hF I;rw[show 8 - J l=0 by omega]at hF;exact Hx hF));refine UK ?_;refine Vd ((⟨(l,sz,en),A1,c1⟩:(List (Int×Int)×Nat×Bool)×Option Addr×Nat)) ⟨hq,hsz⟩
 rintro⟨⟨l,sz,en⟩,A1,c1⟩ ⟨rfl,hsz⟩;dsimp only at hsz|-;have htl:J (b.take sz)=sz:=I0;refine UK ?_;refine Zy (fc sz I ir (Zv I) (Zv I) qR UL) ?_;refine Vl (λw hi=>Nb A sz c (b.take sz) w (by have h9:=fI (h.Tb hi) sz;rw[htl]at h9;exact h9) O) ?_;rintro _ _ ⟨A9,c9,rfl,rfl⟩;refine lx ?_;refine UN ?_;refine QX ?_;exact bK (row b3 [.slice A9 sz c9,.bool en] 180::[slv 51 2 A1 (J l) c1 (l.flatMap Jl),sl .u8 5 A9 sz c9 (b.take sz)]) Zj (Kr (cs':=[slv 51 2 A1 (J l) c1 (l.flatMap Jl),sl .u8 5 A9 sz c9 (b.take sz)]) (.inl I) (List.Sublist.cons _ (aL _)) I I I Zh ir ir ⟨A1,c1,⟨⟨b.take sz,en⟩,A9,c9⟩,I,by show _=Value.tuple #[_,.agg (RS.cells ⟨⟨b.take sz,en⟩,A9,c9⟩).toArray];unfold RS.cells;dsimp only;rw[htl],by unfold rsC;dsimp only;rw[htl]⟩)
theorem run_v(RZ:List (Ky×RS))(k:Ky):gr (Xe RZ) k (.agg #[.slice none 0 0,.bool false])=(gr RZ k RS.zero).v:=yV RS.v RZ k RS.zero
theorem run_r(RZ:List (Ky×RS))(k:Ky):gr (Xr RZ) k Rn.zero=(gr RZ k RS.zero).r:=yV RS.r RZ k RS.zero
theorem rnM_put(RZ:List (Ky×RS))(k:Ky)(x:RS):Xr (dS RZ k x)=dS (Xr RZ) k x.r:=(Fi RS.r RZ k x).symm
theorem rnV_put(RZ:List (Ky×RS))(k:Ky)(x:RS):dS (Xe RZ) k (.agg x.cells.toArray)=Xe (dS RZ k x):=Fi RS.v RZ k x
theorem Km(RZ:List (Ky×RS))(k:Ky):gr RZ k RS.zero=RS.zero\/∃y,y∈RZ/\y.2=gr RZ k RS.zero:=by
 unfold gr;cases hf:RZ.find? (λx=>x.1==k)with
 |none=>grind
 |some y=>grind
variable{k:Ky}
theorem yR{β:Type}{L:List (Ky×β)}{v:β}{y:Ky×β}(h:y∈dS L k v):y=(k,v)\/y∈L:=by
 grind [dS,cN]
variable{RZ:List (Ky×RS)}
theorem LH(k:Ky)(x:RS)(h:(RZ.map (·.1)).Nodup):((dS RZ k x).map (·.1)).Nodup:=by
 rw[yS];exact ru h
theorem FZ(Z:List BA)(k:Ky):(Z.map BA.b).find? (λt=>t.key==k)=(Z.find? λx=>x.key==k).map BA.b:=by
 rw[List.find?_map]
 rfl
theorem Mu{y:BA}(h:(E.X.Z.find? λx=>x.key==k)=some y)(hp:(gr E.RZ k RS.zero).r.bytes.isPrefixOf b=true):lE E.eng k b=(some (y.b,(gr E.RZ k RS.zero).r),E.eng):=by
 unfold lE BQ;rw[show E.eng.l=E.X.Z.map BA.b from I,FZ,h,show E.eng.runs=Xr E.RZ from I,run_r]
 grind
theorem Qc{o:Option BA}(ho:(E.X.Z.find? λx=>x.key==k)=o)(hp:(o.isSome&&(gr E.RZ k RS.zero).r.bytes.isPrefixOf b)=false):BQ E.eng k b=none:=by
 unfold BQ;rw[show E.eng.l=E.X.Z.map BA.b from I,FZ,ho,show E.eng.runs=Xr E.RZ from I,run_r]
 grind
variable{E:VB}
theorem xT(h:BQ E k b=none)(hm:vf k b=none):lE E k b=(none,E):=by
 grind [lE]
variable{t:WR}{r:Rn}
theorem Mt(h:BQ E k b=none)(hm:vf k b=some (t,r)):lE E k b=(some (t,r),YI E t r):=by
 grind [lE]
variable{en:Bool}
theorem Lh(hR:cQ b 8 0=(l,sz,en))(h:fK k.1 l=none):vf k b=none:=by
 grind [vf]
theorem Px{p:Pg}(hR:cQ b 8 0=(l,sz,en))(h:fK k.1 l=some p)(hr:p.Tf=false):vf k b=none:=by
 grind [vf]
theorem Pw{p:Pg}(hR:cQ b 8 0=(l,sz,en))(h:fK k.1 l=some p)(hr:p.Tf=true):vf k b=some (⟨k,gC p (dU p),(J l:Int)⟩,⟨b.take sz,en⟩):=by
 grind [vf]
theorem Qz(p:Pg)(pl:Pl):gC p pl≠[]:=by
 unfold gC;simp
theorem Nl(E:Vy)(X':Wn)(t:WR)(x:RS)(hX:X'.Z.map BA.b=uZ WR.key E.room (E.X.Z.map BA.b) t):
  (bif decide ((J X'.Z:Int)<(J (dS E.RZ t.key x):Int))then((E.TA X').TD (oQ X'.Z (dS E.RZ t.key x))).eng else((E.TA X').TD (dS E.RZ t.key x)).eng)=YI E.eng t x.r:=by
 unfold YI;dsimp only;rw[show E.eng.room=E.room from I,show E.eng.l=E.X.Z.map BA.b from I,show E.eng.runs=Xr E.RZ from I,<-hX,<-rnM_put,List.length_map];have e:J (Xr (dS E.RZ t.key x))=J (dS E.RZ t.key x):=List.length_map _;rw[e];cases hd:decide ((J X'.Z:Int)<(J (dS E.RZ t.key x):Int))with
 |true=>
  simp only[ai]at hd;rw[ap (show J X'.Z<J (dS E.RZ t.key x) by omega),ah,ah,BP]
  rfl
 |false=>
  simp only[aa]at hd;rw[ao (show¬J X'.Z<J (dS E.RZ t.key x) by omega),ac,ac]
  rfl
theorem run_rd(h:(dm (Xf RZ)).ok w):Rd w .u8 (gr RZ k RS.zero).A (gr RZ k RS.zero).r.bytes.length (gr RZ k RS.zero).c (gr RZ k RS.zero).r.bytes:=by
 rcases Km RZ k with e|⟨y,hy,e⟩
 .rw[e];exact y6 w .u8
 rw[<-e];exact cY (oJ h (rsC y.2) (List.mem_map.2 ⟨y,hy,I⟩))
def ss(RZ:List (Ky×RS))(k:Ky):List bJ:=match cN (·.1) k RZ with|some j=>(Xf RZ).eraseIdx j|none=>Xf RZ
theorem xv(RZ:List (Ky×RS))(k:Ky):(ss RZ k).Sublist (Xf RZ):=by
 grind [ss,cN]
theorem rnPut(RZ:List (Ky×RS))(k:Ky)(x:RS):(Xf (dS RZ k x)).Perm (rsC x::ss RZ k):=by
 grind [ss,dS,cN,fJ,Xf,tS,List.map_set,List.perm_append_singleton]
theorem M3(bc:Nat)(room:Int)(X:Wn)(hS:BaSm X.Z)(k:Ky):CI prog 177 [.p bc,.agg (cD k).toArray] (VQ bc room X) (λv cs=>∃y:BA,v= .tuple #[.agg y.cells.toArray,.bool (X.Z.find? λx=>x.key==k).isSome]/\cs=VQ bc room X++[VZ y]/\∀x,(X.Z.find? λx=>x.key==k)=some x->y.b=x.b):=λw hi=>by
 have h:=Gq bc room X hS k w hi;obtain⟨o,ho⟩:=Do ((X.Z.find? λx=>x.key==k));rw[ho]at h|-;refine h.up λv cs w' hk hi'=>?_
 cases o with
 |none=>
  obtain⟨rfl,rfl⟩:=hk;exact⟨_,⟨⟨⟨(0,0),[],0⟩,none,0⟩,I,I,λx e=>nomatch e⟩,hi'.more (zw w' [] 5 1)⟩
 |some x=>
  obtain⟨A',c',rfl,rfl⟩:=hk;exact⟨_,⟨⟨x.b,A',c'⟩,I,I,λx e=>by cases e;rfl⟩,hi'.perm (List.perm_append_singleton _ _).symm⟩
def FindR(be:Nat)(o:Option (WR×Rn))(E':Vy)(v:Value)(cs:List bJ):Prop:=∃(y:BA) (x:RS),v= .tuple #[.agg y.cells.toArray,.agg x.cells.toArray,.bool o.isSome]/\cs=VZ y::Vt be E'/\∀t r,o=some (t,r)->y.b=t/\x.r=r
abbrev Vy.toldE(E:Vy)(X:Wn)(k:Ky)(c:Int):Vy:=⟨E.bc,E.mr,E.room,X,E.RZ,k,V9 .i64 (E.Ti+c),E.Tk,true⟩
theorem mw.told{E:Vy}(h:mw E){X:Wn}(hX:pU E.room X)(hZ:X.Z=E.X.Z){k:Ky}(hk:lD k)(c:Int):mw (E.toldE X k c):=
 ⟨hX,h.eg.same rfl (by show X.Z.map BA.b=E.X.Z.map BA.b;rw[hZ]) rfl,h.rs,hk⟩
theorem Om{E:Vy}{X:Wn}(hZ:X.Z=E.X.Z)(k:Ky)(c:Int):(E.toldE X k c).eng={E.eng with last:=k,begun:=true,Ti:=V9 .i64 (E.eng.Ti+c)}:=by
 show VB.mk E.room (X.Z.map BA.b) (Xr E.RZ) k (V9 .i64 (E.Ti+c)) E.Tk true=VB.mk E.room (E.X.Z.map BA.b) (Xr E.RZ) k (V9 .i64 (E.Ti+c)) E.Tk true;rw[hZ]
abbrev tF(bu bb:Nat)(L:fF)(s:St)(X:dz)(U:UI)(be:Nat)(E:Vy):List bJ:=Vf s X.Ad X.cd::Vj s X.Ar X.cr::(uF bu bb L U++Vt be E)
def TransR(bu bb:Nat)(L:fF)(s:St)(U:UI)(be:Nat)(o:Option (St×Rn×Int))(E':Vy)(v:Value)(cs:List bJ):Prop:=match o with
 |none=>∃(X:dz) (x:RS),v= .tuple #[sv s X.Ad X.cd X.Ar X.cr,.agg x.cells.toArray,.i 0]/\cs=tF bu bb L s X U be E'
 |some (o,r,k)=>∃(X:dz) (x:RS),x.r=r/\v= .tuple #[sv o X.Ad X.cd X.Ar X.cr,.agg x.cells.toArray,.i k]/\cs=tF bu bb L o X ⟨U.m.calm,U.t⟩ be E'
end
end Go.Ink
namespace Go.Ink
open List renaming length→J, replicate→R9
open IntKind renaming wrap→V9
open Go.RowKit Go.Proofs.Tryz
variable{n Tc k:Nat}{s:St}{p:Nat}{U:UI}{d:UF}{E:VB}
theorem He(h:dL n U.m p=none):jG n Tc (k+1) s p U d E=((s.next.S3 1 0,U,d),{E with Tk:=V9 .i64 (E.Tk+1)}):=by
 unfold jG;rw[h]
theorem Hd{U1:UI}{d1:UF}{op nn:Int}{z:Nat}{q:WP}(h:dL n U.m p=some ((op,nn),z))(hq:ls n s op nn U d=(q,U1,d1)):
  jG n Tc (k+1) s p U d E=bif jh op q Tc s.pc then jG n Tc k q.s ((p+z)%4294967296) U1 d1 (nl {E with Tk:=V9 .i64 (E.Tk+1)} q.SV)else((q.s,U1,d1),nl {E with Tk:=V9 .i64 (E.Tk+1)} q.SV):=by
 rw[jG,h];simp only[hq]
abbrev Vy.TL(E:Vy)(c:Int):Vy:=⟨E.bc,E.mr,E.room,E.X,E.RZ,E.last,E.Ti,V9 .i64 (E.Tk+c),E.begun⟩
theorem mw.Uq{E:Vy}(h:mw E)(c:Int):mw (E.TL c):=⟨h.ca,h.eg.same I I I,h.rs,h.last⟩
section
attribute [local irreducible] Ve bN
abbrev WJ(be bu bb:Nat)(L:fF)(D:qV)(s:St)(X:dz)(Y:dJ)(U:UI)(d:UF)(E:Vy):List bJ:=WH bu bb L D s X Y U d++Vt be E
theorem Gb(be bu bb:Nat)(L:fF)(D:qV)(Y:dJ)(s:St)(X:dz)(p:Nat)(hp:p<=4294967295)(Tq:Nat)(hmost:Tq<=1000)(U:UI)(d:UF)(hG:VN L.n s U d)(ho:J d.out+Tq<=1000000000)(E:Vy)(hE:mw E):CI prog 95 [.p be,sv s X.Ad X.cd X.Ar X.cr,.w (p:Int),.i (Tq:Int),.p bu,.p D.bs] (WJ be bu bb L D s X Y U d E) (λv cs=>∃X' Y' E',mw E'/\E'.eng=(jG L.n (p/64) Tq s p U d E.eng).2/\v=sv (jG L.n (p/64) Tq s p U d E.eng).1.1 X'.Ad X'.cd X'.Ar X'.cr/\cs=WJ be bu bb L D (jG L.n (p/64) Tq s p U d E.eng).1.1 X' Y' (jG L.n (p/64) Tq s p U d E.eng).1.2.1 (jG L.n (p/64) Tq s p U d E.eng).1.2.2 E'):=λw hi=>by
 obtain⟨pg,hpg⟩:=Do (p/64);have hpq:V9 .u32 ((p:Int).tdiv 64)=(pg:Int):=by rw[bl O,u32_wrap_id _ O O];omega
 have hpgl:pg<=4294967295:=by omega
 rw[hpg];clear hpg;obtain⟨⟨⟨s9,U9,d9⟩,G9⟩,hR⟩:=Do (jG L.n pg Tq s p U d E.eng);rw[hR];obtain⟨o0,hoo⟩:=Do (J d.out);rw[hoo]at ho;refine Vb func95 ntmps95 hi ?_;refine An ?_;refine ZO λb7=>?_;refine ZN λb12=>?_
 refine Z8 ?_;refine gE (row b7 (s.cells (.slice X.Ad (J s.d) X.cd) (.slice X.Ar (J s.r) X.cr)) 36::row b12 (St.zero.cells (.slice none 0 0) (.slice none 0 0)) 36::WJ be bu bb L D s X Y U d E) Zj (UQ ?_);refine Vs (λq:Nat×St×dz×Nat×dJ×UI×UF×Vy=>[(0,.p be),(2,.w (q.2.2.2.1:Int)),(4,.p bu),(5,.p D.bs),(7,.p b7),(12,.p b12),(13,.i (pg:Int)),(22,.i (Tq:Int)),(23,.i (q.1:Int))]) (λq=>row b7 (q.2.1.cells (.slice q.2.2.1.Ad (J q.2.1.d) q.2.2.1.cd) (.slice q.2.2.1.Ar (J q.2.1.r) q.2.2.1.cr)) 36::row b12 (St.zero.cells (.slice none 0 0) (.slice none 0 0)) 36::WJ be bu bb L D q.2.1 q.2.2.1 q.2.2.2.2.1 q.2.2.2.2.2.1 q.2.2.2.2.2.2.1 q.2.2.2.2.2.2.2) (λq=>q.1<=Tq/\q.2.2.2.1<=4294967295/\VN L.n q.2.1 q.2.2.2.2.2.1 q.2.2.2.2.2.2.1/\J q.2.2.2.2.2.2.1.out<=o0+q.1/\mw q.2.2.2.2.2.2.2/\jG L.n pg (Tq - q.1) q.2.1 q.2.2.2.1 q.2.2.2.2.2.1 q.2.2.2.2.2.2.1 q.2.2.2.2.2.2.2.eng=((s9,U9,d9),G9)) (λq=>Tq - q.1) (⟨0,s,X,p,Y,U,d,E⟩) ⟨ax _,hp,hG,by show J d.out<=o0+0;omega,hE,hR⟩ ?_;rintro⟨j,s,X,p,Y,U,d,E⟩ ⟨hj,hp,hG,ho1,hE,hRj⟩;dsimp only at hj hp hG ho1 hE hRj|-;refine UH ?_ ?_<;>intro hc3
 .simp only[ai]at hc3;obtain⟨k,hk⟩:∃k,Tq - j=k+1:=⟨Tq - j - 1,by omega⟩;rw[hk]at hRj;have HF:=F0 bu bb L U.m p hp;have hrn:=λ(op nn:Int) (z:Nat) h=>jz (n:=L.n) (M:=U.m) (p:=p) (op:=op) (nn:=nn) (z:=z) hG.u.m h
  have hN:=He (n:=L.n) (Tc:=pg) (k:=k) (s:=s) (p:=p) (U:=U) (d:=d) (E:=E.eng);have hS:=λ(op nn:Int) (z:Nat) (q:WP) (U1:UI) (d1:UF) h hq=>Hd (n:=L.n) (Tc:=pg) (k:=k) (s:=s) (p:=p) (U:=U) (d:=d) (E:=E.eng) (op:=op) (nn:=nn) (z:=z) (q:=q) (U1:=U1) (d1:=d1) h hq
  obtain⟨o,hfo⟩:=Do (dL L.n U.m p);rw[hfo]at HF hN hS;rw[hfo]at hrn;obtain⟨hd16,hr16, -⟩:=St.fits hG.right;have hE1:=hE.Uq 1;refine eL ?_;refine kZ ?_;refine jO ?_;refine UU ?_;refine UZ (λw hi=>HF w (hi.get (UJ (JH bu L.bm bb))) (hi.get (UJ (fM L U.m)))) ?_;refine UK ?_;refine ZN λb14=>?_
  refine ZM ?_;refine yh ?_ ?_<;>intro hc6
  .obtain rfl:o=none:=(by cases o with|none=>rfl|some o=>cases hc6);rw[hN rfl,aB,aB,aB]at hRj;obtain⟨⟨rfl,rfl,rfl⟩,hG9⟩:=hRj;refine Wq300 ?_;rintro _ _ ⟨_,⟨A3,c3,A4,c4,rfl,rfl⟩,rfl⟩;refine ZM ?_;refine U8 ?_;exact bK (row b12 ((s.next.S3 1 0).cells (.slice A3 (J s.d) c3) (.slice A4 (J s.r) c4)) 36::WJ be bu bb L D (s.next.S3 1 0) ⟨A3,c3,A4,c4⟩ Y U d (E.TL 1)) Zj (lL (cs':=(WJ be bu bb L D (s.next.S3 1 0) ⟨A3,c3,A4,c4⟩ Y U d (E.TL 1))) (.inl I) Zu I I Zh ir ir ⟨⟨A3,c3,A4,c4⟩,Y,E.TL 1,hE1,hG9,I,I⟩)
  obtain⟨⟨⟨op,nn⟩,z⟩,rfl⟩:∃q,o=some q:=(by cases o with|none=>cases hc6|some o=>exact⟨o,I⟩);obtain⟨hnn,hz1,hz5, -⟩:=hrn op nn z I;have HD:=do_ok bu bb L D Y s X.Ad X.Ar X.cd X.cr op nn U d hG.wf hnn hG.u.t hG.dv.wf O;have hg:=pI (op:=op) (nn:=nn) hG.wf hG.right hnn hG.u hG.dv;have hl:=oM (n:=L.n) (op:=op) (nn:=nn) (s:=s) (U:=U) hG.lines;obtain⟨⟨q,U1,d1⟩,hq⟩:=Do (ls L.n s op nn U d);rw[hS op nn z q U1 d1 rfl hq]at hRj;rw[hq]at HD hg hl;obtain⟨g1,g2,g3,g4,g5,g6⟩:=hg;dsimp only at g1 g2 g3 g4 g5 g6 hl;have HX:=λX1 Ap cp w h=>K6 op nn q X1 Ap cp pg s.pc g1.pc hG.wf.pc w h
  obtain⟨nx,hnx⟩:=Do (jh op q pg s.pc);rw[hnx]at HX hRj;refine Wq471 ?_;rintro _ _ ⟨_,⟨X1,Y1,Ap,cp,rfl,rfl⟩,rfl⟩;refine ZN λb17=>?_
  refine ZM ?_;refine US ?_;refine dH (enP be (E.TL 1) Ap cp q.SV) (λw hi hin=>xX be (E.TL 1) hE1 Ap cp q.SV w hin) ?_;rintro _ _ ⟨E2,rfl,hE2,hEe⟩;rw[show nl {E.eng with Tk:=V9 .i64 (E.eng.Tk+1)} q.SV=E2.eng from hEe.symm]at hRj;refine Ξ ?_;refine jb ?_;refine RG ?_;refine τ ?_;refine ZW ?_ ?_<;>intro hc14
  .obtain rfl:nx=false:=(by cases nx with|false=>rfl|true=>cases hc14);rw[ac,aB,aB,aB]at hRj;obtain⟨⟨rfl,rfl,rfl⟩,hG9⟩:=hRj;refine U8 ?_;refine oV ?_;exact bK (row b12 (q.s.cells (.slice X1.Ad (J q.s.d) X1.cd) (.slice X1.Ar (J q.s.r) X1.cr)) 36::WJ be bu bb L D q.s X1 Y1 U1 d1 E2) Zj (lL (cs':=(WJ be bu bb L D q.s X1 Y1 U1 d1 E2)) (.inl I) Zu I I Zh ir ir ⟨X1,Y1,E2,hE2,hG9,I,I⟩)
  obtain rfl:nx=true:=(by cases nx with|true=>rfl|false=>cases hc14);rw[ah]at hRj;refine ii ?_;refine Vd ((⟨j+1,q.s,X1,(p+z)%4294967296,Y1,U1,d1,E2⟩:Nat×St×dz×Nat×dJ×UI×UF×Vy)) ⟨⟨show j+1<=Tq by omega,by show(p+z)%4294967296<=4294967295;omega,⟨g1,g2,g4,g5,hl⟩,by show J d1.out<=o0+(j+1);omega,hE2,by show jG L.n pg (Tq - (j+1)) q.s _ U1 d1 E2.eng=_;rw[show Tq - (j+1)=k by omega];exact hRj⟩,show Tq - (j+1)<Tq - j by omega⟩
 simp only[aa]at hc3;rw[show Tq - j=0 by omega]at hRj;simp only[jG,aB]at hRj;obtain⟨⟨rfl,rfl,rfl⟩,hG9⟩:=hRj;refine Va ?_;refine oV ?_;exact bK (row b12 (s.cells (.slice X.Ad (J s.d) X.cd) (.slice X.Ar (J s.r) X.cr)) 36::WJ be bu bb L D s X Y U d E) Zj Wq501
end
end Go.Ink
