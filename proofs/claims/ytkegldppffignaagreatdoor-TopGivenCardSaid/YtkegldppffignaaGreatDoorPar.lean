/- Lemmas. -/
import Derived.Test.YtkegldppffignaaGreatDoorPaa
import Derived.Test.YtkegldppffignaaGreatDoorPab
import Derived.Test.YtkegldppffignaaGreatDoorPac
import Derived.Test.YtkegldppffignaaGreatDoorPae
import Derived.Test.YtkegldppffignaaGreatDoorPaq
set_option linter.unusedSimpArgs false
set_option linter.unusedVariables false
set_option maxRecDepth 100000
set_option maxHeartbeats 4000000
namespace Go.Ink
open Go.RowKit
structure LS where
 A:Option Addr
 c:Nat
 ks:List Ky
def LS.v(x:LS):Value:= .slice x.A x.ks.length x.c
def LS.zero:LS:=⟨none,0,[]⟩
def lkV(LK:List (Ky×LS)):List (Ky×Value):=LK.map λx=>(x.1,x.2.v)
structure CaX where
 ml:Nat
 Ac:Option Addr
 cc:Nat
 fl:Int
 LK:List (Ky×LS)
 Z:List BA
def BaSm(Z:List BA):Prop:=Z.length<=1000000/\∀x,x∈Z->x.b.code.length<=100000/\lc x.b.key
def lF(k:Ky)(x:LS):LS:=⟨x.A,x.c,x.ks.filter λq=> !(q==k)⟩
def gU(LK:List (Ky×LS))(k:Ky):List (Ky×LS):=(pu LK k).map λx=>(x.1,lF k x.2)
def wY(k:Ky)(f:Bool)(x:Ky×LS):Ky×LS:=(x.1,bif f then lF k x.2 else x.2)
def prL(k:Ky)(F:List Bool)(L0:List (Ky×LS)):List (Ky×LS):=List.zipWith (wY k) F L0
def itL(k:Ky)(F:List Bool)(L0:List (Ky×LS)):List (Bool×Ky×Value):=List.zipWith (λf x=>(f,x.1,(wY k f x).2.v)) F L0
theorem J8{α β:Type}(f:α->β)(L:List (Ky×α))(k:Ky):pu (L.map λx=>(x.1,f x.2)) k=(pu L k).map λx=>(x.1,f x.2):=by
 unfold pu;rw[ki (key:=λx:Ky×α=>x.1) (λx:Ky×α=>(x.1,f x.2)) Zrf];cases cS (λx:Ky×α=>x.1) k L with
 |some j=>dsimp only;rw[ChangeMaps.map_eraseIdx]
 |none=>rfl
theorem rO{α:Type}(L:List (Ky×α))(k:Ky):(pu L k).Sublist L:=by
 unfold pu;cases cS (λx:Ky×α=>x.1) k L with
 |some j=>exact List.eraseIdx_sublist _ _
 |none=>exact aR _
theorem yQ(k:Ky):∀L0:List (Ky×LS),itL k (List.replicate L0.length false) L0=(lkV L0).map λx=>(false,x)
 |[]=>rfl
 |x::L0=>by
  show(false,x.1,(wY k false x).2.v)::itL k (List.replicate L0.length false) L0=_;rw[yQ k L0]
  rfl
theorem yw(k:Ky):∀L0:List (Ky×LS),prL k (List.replicate L0.length false) L0=L0
 |[]=>rfl
 |x::L0=>by
  show wY k false x::prL k (List.replicate L0.length false) L0=_;rw[yw k L0]
  rfl
theorem itL_at{k:Ky}{F:List Bool}{L0:List (Ky×LS)}{j:Nat}{q:Ky}{v:Value}(h:(itL k F L0)[j]? =some (false,q,v)):∃x,L0[j]? =some x/\F[j]? =some false/\q=x.1/\v=x.2.v:=by
 unfold itL at h;rw[List.getElem?_zipWith]at h;cases hf:F[j]? with
 |none=>rw[hf]at h;cases h
 |some f=>
  cases hx:L0[j]? with
  |none=>rw[hf,hx]at h;cases h
  |some x=>
   rw[hf,hx]at h;simp only[aU,aV]at h;obtain⟨rfl,rfl,rfl⟩:=h;exact⟨x,rfl,rfl,rfl,rfl⟩
theorem zM{α β γ:Type}(g:α->β->γ):∀(F:List α) (L:List β) (j:Nat) (a:α) (b:β),L[j]? =some b->List.zipWith g (F.set j a) L=(List.zipWith g F L).set j (g a b)
 |[],L,j,a,b,_=>by simp
 |f::F,[],j,a,b,h=>by simp at h
 |f::F,x::L,0,a,b,h=>by
  obtain rfl:x=b:=by simpa using h
  rfl
 |f::F,x::L,j+1,a,b,h=>by
  show g f x::List.zipWith g (F.set j a) L=g f x::(List.zipWith g F L).set j (g a b);rw[zM g F L j a b (by simpa using h)]
theorem Hh{k:Ky}:∀{F:List Bool} {L0:List (Ky×LS)},F.length=L0.length->(∀x,x∈itL k F L0->x.1=true)->prL k F L0=L0.map λx=>(x.1,lF k x.2)
 |[],[],_,_=>rfl
 |[],_::_,h,_=>by simp at h
 |_::_,[],h,_=>by simp at h
 |f::F,x::L0,h,ha=>by
  have hf:f=true:=ha (f,x.1,(wY k f x).2.v) (List.mem_cons_self ..);subst hf;show wY k true x::prL k F L0=_;rw[Hh (by simpa using h) (λy hy=>ha y (bH _ hy))]
  rfl
theorem Hg(k:Ky):∀(F:List Bool) (L0:List (Ky×LS)),(itL k F L0).map (·.2)=lkV (prL k F L0)
 |[],L0=>by simp[itL,prL,lkV]
 |f::F,[]=>by simp[itL,prL,lkV]
 |f::F,x::L0=>by
  show(x.1,(wY k f x).2.v)::(itL k F L0).map (·.2)=((wY k f x).1,(wY k f x).2.v)::lkV (prL k F L0);rw[Hg k F L0]
  rfl
def zg(F:List Bool):Nat:=(F.filter λf=> !f).length
theorem vI:∀{F:List Bool} {j:Nat},F[j]? =some false->zg (F.set j true)<zg F
 |[],j,h=>by simp at h
 |f::F,0,h=>by
  obtain rfl:f=false:=by simpa using h
  simp[zg]
 |f::F,j+1,h=>by
  have:=vI (F:=F) (j:=j) (by simpa using h);unfold zg at this|-;rw[List.set_cons_succ,List.filter_cons,List.filter_cons];cases f<;>simp<;>exact this
theorem nH{α:Type}{l:List α}{j:Nat}{x:α}(h:l[j]? =some x):l.Perm (x::l.eraseIdx j):=by
 obtain⟨h1,rfl⟩:=au.1 h;rw[List.eraseIdx_eq_take_drop_succ];refine List.Perm.trans ?_ List.perm_middle;rw[List.getElem_cons_drop h1,List.take_append_drop]
theorem rR{α:Type}{l:List α}{j:Nat}{x:α}(h:j<l.length):(l.set j x).Perm (x::l.eraseIdx j):=by
 have h1:=nH (l:=l.set j x) (j:=j) (x:=x) (by rw[List.getElem?_set_self h]);rwa[List.eraseIdx_set_eq]at h1
theorem qF{α:Type}{key:α->Ky}{k:Ky}{l:List α}{j:Nat}(h:cS key k l=some j):∃x,l[j]? =some x/\key x=k/\l.find? (λx=>key x==k)=some x:=by
 obtain⟨hj,hk⟩:=fH h;refine⟨l[j],ai hj,hk,?_⟩;unfold cS at h;rw[List.findIdx?_eq_some_iff_getElem]at h;obtain⟨_,h1,h2⟩:=h;rw[List.find?_eq_some_iff_getElem];exact⟨h1,j,hj,rfl,λi hi=>by simpa using h2 i hi⟩
theorem tQ{α:Type}{key:α->Ky}{k:Ky}{l:List α}(h:cS key k l=none):l.find? (λx=>key x==k)=none:=by
 rw[List.find?_eq_none];exact λx hx e=>iF h x hx (by simpa using e)
section
variable {C:Cx} {Q:lK} {fr:Fr} {cs:List bL} {c:bL} {cin cin' rest r1:List bL} {e:Exit} {b r:Nat} {IL:List (Bool×Ky×Value)} {cur:Option (Ky×Value)}
theorem yu(hd:Del cs (dp cin) rest)(hp:cin.Perm (c::cin'))(h:QOk C Q e fr (c::dp cin'::rest)):QOk C Q e fr cs:=λa w hf hi=>h a w hf ((hi.perm hd.perm).NR hp)
theorem ky(hd:Del cs (dp cin) r1)(hd2:Del r1 c rest)(hp:cin'.Perm (c::cin))(h:QOk C Q e fr (dp cin'::rest)):QOk C Q e fr cs:=λa w hf hi=>h a w hf (((hi.perm (hd.perm.trans (hd2.perm.cons _))).perm (List.Perm.swap ..)).Oc hp)
theorem og(hd:Del cs (dp cin) rest)(hs:cin'.Sublist cin)(h:QOk C Q e fr (dp cin'::rest)):QOk C Q e fr cs:=λa w hf hi=>h a w hf ((hi.perm hd.perm).Ob hs)
theorem yv(hd:Del cs (itC b r IL cur) rest)(h:QOk C Q e fr (mpc b (IL.map (·.2))::rest)):QOk C Q e fr cs:=λa w hf hi=>h a w hf ((hi.perm hd.perm).itEnd)
theorem yR(w:World):Inv w [] [dp []] w:=⟨dG.refl _ _,by simp[bM,dp,exC,bL.bs],λc hc=>by
 rw[aK]at hc;subst hc;exact⟨(),trivial,by simp[bM],λc hc=>by cases hc⟩,λb hb=>by simp[bM,dp,exC,bL.bs]at hb⟩
theorem Gh(h:QOk C Q e fr (cs++[dp []])):QOk C Q e fr cs:=λa w hf hi=>h a w hf (hi.more (yR w))
theorem oM{ops:Array Oper}{l:List Oper}(h:WL C ops Q l fr (cs++[dp []])):WL C ops Q l fr cs:=λa w hf hi=>h a w hf (hi.more (yR w))
end
end Go.Ink
namespace Go.Proofs.YtkegldppffignaaGreatDoor
open Go.RowKit Go.Ink Go.Proofs.Tryz
attribute [local irreducible] OpY bS
abbrev lsC(x:LS):bL:=slv 134 2 x.A x.ks.length x.c (x.ks.flatMap cC)
abbrev baC(x:BA):bL:=sl .u8 5 x.A (cI x.b.code).length x.c (cI x.b.code)
def lkC(LK:List (Ky×LS)):List bL:=LK.map λx=>lsC x.2
abbrev kyR(b:Nat)(k:Ky):bL:=row b (cC k) 134
abbrev caR(bc:Nat)(r0 r1 r2 r3:Value):bL:=row bc [r0,r1,r2,r3] 175
abbrev blC(X:CaX):bL:=slv 172 4 X.Ac X.Z.length X.cc (X.Z.flatMap BA.cells)
abbrev caF(bc:Nat)(room:Int)(X:CaX):List bL:=[caR bc (.int .i64 room) (.slice X.Ac X.Z.length X.cc) (.map (some X.ml)) (.int .i64 X.fl),blC X,dp (X.Z.map baC),mpc X.ml (lkV X.LK),dp (lkC X.LK)]
theorem Gz(x:BA)(k:Ky)(bk:Nat)(w:World)(hi:Inv w (bM [kyR bk k]) [kyR bk k] w):
  Ctr prog 140 ([]++[.agg x.cells.toArray]++[.pointer (some ⟨bk,0,none⟩)]) w [kyR bk k] (λv cs=>v= .bool (x.key==k)/\cs=[kyR bk k]/\True):=by
 refine bN func140 rfl ntmps140 rfl hi ?_;refine Z_2 ?_;refine ZO λb2=>?_;refine Z_6 ?_;refine dN (cz (vs:=cC x.b.key) Zrf Zrf Zv0) (cK Zh rfl) rfl ?_;refine ZlR ?_;refine Zy (EW tz (AP x.b.key k) (Zv rfl) (Zv rfl)) ?_;refine Z_4 ?_;refine bP [kyR bk k] Zj ?_;refine Zrb ([row _ _ _]) ?_;exact⟨rfl,rfl,trivial⟩
theorem tY(bc:Nat)(r0 r2 r3:Value)(Ac:Option Addr)(cc:Nat)(Z:List BA)(hZ:Z.length<=1000000)(k:Ky)(w:World)(hi:Inv w (bM [caR bc r0 (.slice Ac Z.length cc) r2 r3,slv 172 4 Ac Z.length cc (Z.flatMap BA.cells)]) [caR bc r0 (.slice Ac Z.length cc) r2 r3,slv 172 4 Ac Z.length cc (Z.flatMap BA.cells)] w):
  Ctr prog 122 [.pointer (some ⟨bc,0,none⟩),.agg (cC k).toArray] w [caR bc r0 (.slice Ac Z.length cc) r2 r3,slv 172 4 Ac Z.length cc (Z.flatMap BA.cells)] (λv cs=>v= .int .i64 (EP (cS BA.key k Z))/\cs=[caR bc r0 (.slice Ac Z.length cc) r2 r3,slv 172 4 Ac Z.length cc (Z.flatMap BA.cells)]):=by
 refine bN func122 rfl ntmps122 rfl hi ?_;refine Z_2 ?_;refine ZO λb3=>?_;refine Z_9 ?_;refine Zy (lL rfl) ?_;refine ZcL ([slv 172 4 Ac Z.length cc (Z.flatMap BA.cells),kyR b3 k]) (λw hi hin=>Hr (λ_:Unit=>kyR b3 k) (λ_=>True) (λ_ _=>()) (λx=>x.key==k) 140 [.pointer (some ⟨b3,0,none⟩)] (λ_ _=>rfl) Z hZ (λ_ x w _ _ hin=>Gz x k b3 w hin) Ac cc () trivial w hin) ?_;rintro _ _ ⟨_,⟨_,rfl, -, -,rfl⟩,rfl⟩;refine Z_4 ?_;refine bP [caR bc r0 (.slice Ac Z.length cc) r2 r3,slv 172 4 Ac Z.length cc (Z.flatMap BA.cells)] Zj ?_;refine Zrb ([_,_]) ?_;exact de
def FindK(o:Option BA)(F:List bL)(v:Value)(cs:List bL):Prop:=match o with
 |none=>v= .tuple #[.agg #[.int .u32 0,.int .u32 0,.slice none 0 0,.int .i64 0],.bool false]/\cs=F
 |some x=>∃A' c',v= .tuple #[.agg (BA.cells ⟨x.b,A',c'⟩).toArray,.bool true]/\cs=baC ⟨x.b,A',c'⟩::F
theorem CL(bc:Nat)(room:Int)(X:CaX)(hS:BaSm X.Z)(k:Ky)(w:World)(hi:Inv w (bM (caF bc room X)) (caF bc room X) w):
  Ctr prog 105 [.pointer (some ⟨bc,0,none⟩),.agg (cC k).toArray] w (caF bc room X) (λv cs=>FindK (X.Z.find? λx=>x.key==k) (caF bc room X) v cs):=by
 have hZ:=hS.1;have HP:=tY bc (.int .i64 room) (.map (some X.ml)) (.int .i64 X.fl) X.Ac X.cc X.Z hZ k;obtain⟨o,ho⟩:=Zgn (cS BA.key k X.Z);rw[ho]at HP;refine bN func105 rfl ntmps105 rfl hi ?_;refine Z_2 ?_;refine ZO λb3=>?_;refine ZN λb4=>?_
 refine Z_7 ?_;refine ZcM ([caR bc (.int .i64 room) (.slice X.Ac X.Z.length X.cc) (.map (some X.ml)) (.int .i64 X.fl),blC X]) (λw hi hin=>HP w hin) ?_;refine dS ?_;refine ZW ?_ ?_<;>intro hc2
 .obtain rfl:o=none:=(by cases o with|none=>rfl|some j=>(have h9:((j:Nat):Int)<0:=of_decide_eq_true hc2;omega));rw[tQ ho];refine Z_2 ?_;refine Zy (iP (vs:=[Value.int .u32 0,.int .u32 0,.slice none 0 0,.int .i64 0]) Zk (.inl ⟨_,rfl,rfl⟩)) ?_;refine ZM ?_;refine Z_5 ?_;refine bP (row b4 _ _::caF bc room X) Zj ?_;refine lS (cs':=caF bc room X) (.inl rfl) (List.Sublist.cons _ (aR _)) rfl rfl rfl Zh Zrf Zrf ?_;exact de
 obtain⟨j,rfl⟩:∃j,o=some j:=(by cases o with|none=>simp[EP]at hc2|some j=>exact⟨j,rfl⟩);obtain⟨x,hx,hxk,hxf⟩:=qF ho;rw[hxf];have hjl:=(au.1 hx).1;obtain⟨bs,hbs⟩:=iy (hi.get (.tail _ (.head (blC X) _))) (show 0<X.Z.length by omega);have hxr:∀w0 S cs w,Ink.Inv w0 S cs w->Has cs (dp (X.Z.map baC))->Rd w .u8 x.A (cI x.b.code).length x.c (cI x.b.code):=(λw0 S cs w h hh=>dk (h.joinGet hh (aZ.2 ⟨x,aD hx,rfl⟩)));have hxl:(cI x.b.code).length<=140737488355328:=(by rw[jt];have:=(hS.2 x (aD hx)).1;omega);refine Z_9 ?_;refine Zy (cw (bb:=bs) (o:=0) (n:=X.Z.length) (c:=X.cc) (j:=j) (sz:=4) (r:=j*4) rfl Zrf (hbs▸rc rfl) (Zv rfl) Zrf Wq4 Wq1) ?_;refine dN (cz (vs:=BA.cells x) Zrf Zrf (Zv rfl)) (mG (n:=X.Z.length) (c:=X.cc) (sz:=4) (e:=172) (xs:=X.Z.flatMap BA.cells) (hbs▸(show Has _ (blC X)from Zh)) (λi v hiv=>fK (f:=BA.cells) Zrf hx hiv)) rfl ?_;refine ZN λb7=>?_
 refine dH (bZ Zrf rfl rfl (gc x) Za (by exact rfl)) ?_;rintro _ _ ⟨rfl,rfl⟩;refine Z_6 ?_;refine ZS (λw hi=>nl x.A (cI x.b.code).length x.c (cI x.b.code) w (hxr _ _ _ _ hi Zh) hxl) ?_;rintro _ _ ⟨_,⟨A9,c9,rfl,rfl⟩,rfl⟩;refine Z_1 ?_;refine ZL ?_;refine Z_5 ?_;refine ZM ?_;refine Z_4 ?_;refine bP (row b4 _ _::baC ⟨x.b,A9,c9⟩::caF bc room X) Zj ?_;refine lS (cs':=baC ⟨x.b,A9,c9⟩::caF bc room X) (.inl rfl) (List.Sublist.cons _ (aR _)) rfl rfl rfl Zh Zrf Zrf ?_;exact⟨A9,c9,rfl,rfl⟩
theorem Dl(x k:Ky)(bk:Nat)(w:World)(hi:Inv w (bM [kyR bk k]) [kyR bk k] w):
  Ctr prog 121 ([]++[.agg (cC x).toArray]++[.pointer (some ⟨bk,0,none⟩)]) w [kyR bk k] (λv cs=>v= .bool (x==k)/\cs=[kyR bk k]/\True):=by
 refine bN func121 rfl ntmps121 rfl hi ?_;refine Z_2 ?_;refine ZO λb2=>?_;refine Z_7 ?_;refine Zy (EW tz (AP x k) (Zv rfl) (Zv rfl)) ?_;refine Z_4 ?_;refine bP [kyR bk k] Zj ?_;refine Zrb ([row _ _ _]) ?_;exact⟨rfl,rfl,trivial⟩
def LkSm(LK:List (Ky×LS)):Prop:=∀x,x∈LK->lc x.1/\x.2.ks.length<=1000000
theorem xR(bc ml:Nat)(r0 r1 r3:Value)(LK:List (Ky×LS))(hsm:LkSm LK)(k:Ky)(hk:lc k)(w:World)(hi:Inv w (bM [caR bc r0 r1 (.map (some ml)) r3,mpc ml (lkV LK),dp (lkC LK)]) [caR bc r0 r1 (.map (some ml)) r3,mpc ml (lkV LK),dp (lkC LK)] w):
  Ctr prog 102 [.pointer (some ⟨bc,0,none⟩),.agg (cC k).toArray] w [caR bc r0 r1 (.map (some ml)) r3,mpc ml (lkV LK),dp (lkC LK)] (λ_ cs=>cs=[caR bc r0 r1 (.map (some ml)) r3,mpc ml (lkV (gU LK k)),dp (lkC (gU LK k))]):=by
 obtain⟨L0,hL0⟩:=Zgn (pu LK k);have hU:gU LK k=L0.map λx=>(x.1,lF k x.2):=by unfold gU;rw[hL0]
 have hd:pu (lkV LK) k=lkV L0:=by rw[<-hL0];exact J8 LS.v LK k
 have hsub:(lkC L0).Sublist (lkC LK):=by rw[<-hL0];exact(rO LK k).map _
 have hs0:LkSm L0:=λx hx=>hsm x (by rw[<-hL0]at hx;exact(rO LK k).subset hx)
 refine bN func102 rfl ntmps102 rfl hi ?_;refine Z_2 ?_;refine ZO λb3=>?_;refine Z_3 ?_;refine bU ⟨λj=>List.elem j [5],[]⟩ Zk ?_;refine gO ?_;refine ZFe 2 2 ?_;refine ZG 3 ?_;refine ZI 4 ?_;refine cn 5 Zk ?_;refine du rfl rfl (t_mdel rfl rfl hk rfl yM Za) ZJ ?_;rintro _ _ ⟨rfl,rfl⟩;rw[hd];refine dx ?_;refine Z_3 ?_;refine uV (cin':=lkC (prL k (List.replicate L0.length false) L0)) Zd (by rw[yw];exact hsub) ?_;refine Z_4 ?_;refine gj (BE rfl rfl Za) rfl ?_;rintro _ _ ⟨b15,rfl,rfl⟩;rw[<-yQ k L0];refine Z_3 ?_;refine cq (λF:List Bool=>[(0,.pointer (some ⟨bc,0,none⟩)),(3,.pointer (some ⟨b3,0,none⟩)),(15,.pointer (some ⟨b15,0,none⟩))]) (λF=>[dp (lkC (prL k F L0)),caR bc r0 r1 (.map (some ml)) r3,itC ml b15 (itL k F L0) none,kyR b3 k]) (λF=>F.length=L0.length) (λF=>zg F) (List.replicate L0.length false) ?_ ?_ ?_ ?_
 .exact aI
 .exact Zwk
 .exact Zu
 rintro F hF;refine Z_2 ?_;refine gj (FM rfl Za) rfl ?_;rintro _ _ ⟨o16,ho16,rfl,rfl⟩;refine Zy (EU Zv0) ?_;refine Z_3 ?_;refine ZW ?_ ?_<;>intro hc3
 .obtain⟨⟨j,q,v⟩,rfl⟩:=Option.isSome_iff_exists.1 hc3;have hj0:(itL k F L0)[j]? =some (false,q,v):=ho16;have hjl:=(au.1 hj0).1;obtain⟨x,hx,hFj,rfl,rfl⟩:=itL_at hj0;have hjx:(lkC (prL k F L0))[j]? =some (lsC x.2):=(by unfold lkC prL;rw[bh,List.getElem?_zipWith,hFj,hx];rfl);have hjp:=(au.1 hjx).1;have hji:(AG (itL k F L0) (some (j,x.1,x.2.v)))[j]? =some (true,x.1,x.2.v):=(List.getElem?_set_self hjl);have hIT:((itL k F L0).set j (true,x.1,x.2.v)).set j (true,x.1,(lF k x.2).v)=itL k (F.set j true) L0:=(by rw[List.set_set];exact(zM _ F L0 j true x hx).symm);have hPR:(lkC (prL k (F.set j true) L0)).Perm (lsC (lF k x.2)::(lkC (prL k F L0)).eraseIdx j):=(by have e:lkC (prL k (F.set j true) L0)=(lkC (prL k F L0)).set j (lsC (lF k x.2)):=(by unfold lkC prL;rw[zM _ F L0 j true x hx,List.map_set];rfl);rw[e];exact rR hjp);refine Z_5 ?_;refine zO (c:=lsC x.2) (cin':=(lkC (prL k F L0)).eraseIdx j) Zd (nH hjx) ?_;refine dN (EX (Zv rfl)) (λw hi=>(show xK ml b15 (AG (itL k F L0) (some (j,x.1,x.2.v))) (some (x.1,x.2.v)) w from hi.get (show Has _ (itC ml b15 (AG (itL k F L0) (some (j,x.1,x.2.v))) (GG (some (j,x.1,x.2.v))))from Zh))) rfl ?_;refine Z_2 ?_;refine ZN λb4=>?_
  refine dH (bZ (vs:=cC x.1) Zrf rfl rfl (tx x.1) Za (by exact rfl)) ?_;rintro _ _ ⟨rfl,rfl⟩;refine Z_3 ?_;refine bU ⟨λj=>List.elem j [7,8],sQ bc [r0,r1,.map (some ml),r3]++sQ b4 (cC x.1)⟩ Zk ?_;refine gO ?_;refine ZFe 2 2 ?_;refine iV 3 rfl Zk Zk Zk (bQ Zrf (Zv rfl)) Wq2 (gb (bV (t:=175) Zh) (bV (t:=134) Zh)) rfl ?_;refine uX 4 rfl Zk Zk Zk (cz Zrf Zrf Zv0) (λx hx=>List.mem_append_right _ (gx x hx)) (gb (bV (t:=175) Zh) (bV (t:=134) Zh)) rfl ?_;refine ZE 5 ?_;refine cG 6 rfl Zk Zk Zk (lL rfl) rfl ?_;refine cn 7 Zk ?_;refine kf rfl rfl (dY ([lsC x.2,kyR b3 k]) rfl (λ_ _=>rfl) Zi (λw hi hin=>delK_ok (λ_:Unit=>kyR b3 k) (λ_=>True) (λ_ _=>()) (λq=>q==k) 121 [.pointer (some ⟨b3,0,none⟩)] (λ_ _=>rfl) x.2.ks (hs0 x (aD hx)).2 (λ_ y w _ _ hin=>Dl y k b3 w hin) x.2.A x.2.c () trivial w hin)) (λ_=>by rintro _ _ ⟨_,⟨rfl,rfl⟩,rfl⟩;exact gb (bV (t:=175) Zh) (bV (t:=134) Zh)) rfl ?_;rintro _ _ ⟨_,⟨rfl,rfl⟩,rfl⟩;refine cn 8 Zk ?_;refine du rfl rfl (t_itput hji rfl rfl rfl rfl yM Za) (λ_=>by rintro _ _ ⟨rfl,rfl⟩;exact gb (bV (t:=175) Zh) (bV (t:=134) Zh)) ?_;rintro _ _ ⟨rfl,rfl⟩;refine dx ?_;refine Zo (ky (cin':=lkC (prL k (F.set j true) L0)) (c:=lsC (lF k x.2)) Zd Zd hPR ?_);refine kS (c:=itC ml b15 (((itL k F L0).set j (true,x.1,x.2.v)).set j (true,x.1,(lF k x.2).v)) none) (c':=itC ml b15 (itL k (F.set j true) L0) none) Za rfl (λw h=>by rw[<-hIT];exact h) ?_
  refine bX ((F.set j true)) ?_ ?_ ?_
  .exact⟨by rw[aC,hF],vI hFj⟩
  .exact Zwk
  exact Zj
 obtain rfl:o16=none:=(by cases o16 with|none=>rfl|some z=>simp at hc3);have ho0:∀x,x∈itL k F L0->x.1=true:=ho16;refine Z_4 ?_;refine yv (IL:=itL k F L0) (cur:=none) (b:=ml) (r:=b15) Zd ?_;rw[Hg k F L0,Hh hF ho0];refine bP [caR bc r0 r1 (.map (some ml)) r3,mpc ml (lkV (L0.map λx=>(x.1,lF k x.2))),dp (lkC (L0.map λx=>(x.1,lF k x.2)))] Zj ?_;refine jb (cs':=[caR bc r0 r1 (.map (some ml)) r3,mpc ml (lkV (L0.map λx=>(x.1,lF k x.2))),dp (lkC (L0.map λx=>(x.1,lF k x.2)))]) (.inr rfl) Zu rfl ?_;rw[hU]
end Go.Proofs.YtkegldppffignaaGreatDoor
namespace Go.Ink
open Go.RowKit
def zE(keys:List Ky)(LK:List (Ky×LS)):Prop:=∀x,x∈LK->lc x.1/\x.2.ks.Nodup/\∀q,q∈x.2.ks->q∈keys
theorem yD:∀{l m:List Ky},l.Nodup->(∀x,x∈l->x∈m)->l.length<=m.length
 |[],m,_,_=>aq _
 |a::l,m,hn,hs=>by
  obtain⟨h1,h2⟩:=List.nodup_cons.1 hn;have hm:=hs a (List.mem_cons_self ..);have:=yD (l:=l) (m:=m.erase a) h2 (λx hx=>(List.mem_erase_of_ne (λe=>h1 (by rw[<-e];exact hx))).2 (hs x (bH _ hx)));rw[List.length_erase_of_mem hm]at this;have hp:=List.length_pos_of_mem hm;simp only[ak];omega
structure qa(room:Int)(X:CaX):Prop where
 rm:1<=room/\room<=1024
 len:(X.Z.length:Int)<=room
 ba:∀x,x∈X.Z->x.b.code.length<=100000/\lc x.b.key
 lk:zE (X.Z.map BA.key) X.LK
theorem zE.sm{keys:List Ky}{LK:List (Ky×LS)}(h:zE keys LK)(hk:keys.length<=1000000):∀x,x∈LK->lc x.1/\x.2.ks.length<=1000000:=λx hx=>⟨(h x hx).1,aW (yD (h x hx).2.1 (h x hx).2.2) hk⟩
theorem zE.unlink{keys:List Ky}{LK:List (Ky×LS)}(h:zE keys LK)(k:Ky):zE keys (gU LK k)/\∀x,x∈gU LK k->∀q,q∈x.2.ks->q≠k:=by
 refine⟨λx hx=>?_,λx hx q hq=>?_⟩
 .obtain⟨y,hy,rfl⟩:=aZ.1 hx;obtain⟨h1,h2,h3⟩:=h y ((rO LK k).subset hy);exact⟨h1,h2.filter _,λq hq=>h3 q (List.mem_filter.1 hq).1⟩
 obtain⟨y,hy,rfl⟩:=aZ.1 hx;have:=(List.mem_filter.1 hq).2;simpa using this
theorem zE.mono{keys keys':List Ky}{LK:List (Ky×LS)}(h:zE keys LK)(hs:∀q,q∈keys->q∈keys'):zE keys' LK:=λx hx=>⟨(h x hx).1,(h x hx).2.1,λq hq=>hs q ((h x hx).2.2 q hq)⟩
theorem Dk{LK:List (Ky×LS)}{k:Ky}{x:Ky×LS}(hx:x∈gU LK k):∃y,y∈LK/\∀q,q∈x.2.ks->q∈y.2.ks:=by
 obtain⟨y,hy,rfl⟩:=aZ.1 hx;exact⟨y,(rO LK k).subset hy,λq hq=>(List.mem_filter.1 hq).1⟩
theorem qa.sm{room:Int}{X:CaX}(h:qa room X):BaSm X.Z:=⟨by have:=h.len;have:=h.rm;omega,h.ba⟩
theorem qa.none{room:Int}(h:1<=room/\room<=1024)(ml:Nat)(A:Option Addr)(c:Nat)(fl:Int):qa room ⟨ml,A,c,fl,[],[]⟩:=
 ⟨h,(by show((0:Nat):Int)<=room;omega),(λy hy=>nomatch hy),(λy hy=>nomatch hy)⟩
theorem qa.set{room:Int}{X:CaX}(h:qa room X){j:Nat}{x t:BA}(hx:X.Z[j]? =some x)(hk:x.key=t.key)(ht:t.b.code.length<=100000/\lc t.b.key)(ml:Nat)(A:Option Addr)(c:Nat)(fl:Int):qa room ⟨ml,A,c,fl,gU X.LK t.key,X.Z.set j t⟩:=by
 have hjl:=(au.1 hx).1;have e9:(X.Z.set j t).map BA.key=X.Z.map BA.key:=by
  rw[List.map_set];apply List.ext_getElem?;intro i;rw[List.getElem?_set];by_cases hij:j=i
  .subst hij;rw[if_pos rfl,if_pos (by simpa using hjl),bh,hx,<-hk]
   rfl
  rw[if_neg hij]
 refine⟨h.rm,by dsimp only;rw[aC];exact h.len,λy hy=>?_,?_⟩
 .rcases List.mem_or_eq_of_mem_set hy with hy|rfl
  .exact h.ba y hy
  exact ht
 dsimp only;rw[e9];exact(h.lk.unlink t.key).1
theorem qa.push{room:Int}{X:CaX}(h:qa room X)(hlt:(X.Z.length:Int)<room){t:BA}(ht:t.b.code.length<=100000/\lc t.b.key)(A:Option Addr)(c:Nat):qa room ⟨X.ml,A,c,X.fl,X.LK,X.Z++[t]⟩:=by
 refine⟨h.rm,(by simp;omega),λy hy=>?_,h.lk.mono λq hq=>by rw[List.map_append];exact List.mem_append_left _ hq⟩;rcases aS.1 hy with hy|hy
 .exact h.ba y hy
 rw[aK]at hy;subst hy;exact ht
def ng(D:BA->Bool)(r:Int×List (Ky×LS))(x:BA):Int×List (Ky×LS):=bif D x then(IntKind.i64.wrap (r.1+1),gU r.2 x.key)else r
theorem tT(D:BA->Bool)(keys:List Ky):∀(l:List BA) (r:Int×List (Ky×LS)),0<=r.1->r.1+(l.length:Int)<=1000000000->zE keys r.2->(l.foldl (ng D) r).1=r.1+(l.filter D).length/\zE keys (l.foldl (ng D) r).2/\(∀y,y∈(l.foldl (ng D) r).2->∃z,z∈r.2/\∀q,q∈y.2.ks->q∈z.2.ks)/\
  ∀y,y∈(l.foldl (ng D) r).2->∀q,q∈y.2.ks->∀x,x∈l->D x=true->q≠x.key
 |[],r,_,_,h=>⟨by simp,h,λy hy=>⟨y,hy,λq hq=>hq⟩,λ_ _ _ _ x hx=>by cases hx⟩
 |x::l,r,h0,hb,h=>by
  have hb2:r.1+(l.length:Int)+1<=1000000000:=by simp only[ak]at hb;omega
  rw[List.foldl_cons,List.filter_cons];cases hD:D x with
  |false=>
   have e:ng D r x=r:=by unfold ng;rw[hD,aa]
   rw[e];obtain⟨h1,h2,h3,h4⟩:=tT D keys l r h0 Wq1 h;refine⟨by simpa using h1,h2,h3,λy hy q hq z hz hzD=>?_⟩;rcases aJ.1 hz with rfl|hz
   .rw[hD]at hzD;cases hzD
   exact h4 y hy q hq z hz hzD
  |true=>
   have e:ng D r x=(r.1+1,gU r.2 x.key):=by unfold ng;rw[hD,ac,show IntKind.i64.wrap (r.1+1)=r.1+1 by rw[bK];omega]
   rw[e];obtain⟨u1,u2⟩:=h.unlink x.key;obtain⟨h1,h2,h3,h4⟩:=tT D keys l (r.1+1,gU r.2 x.key) (by dsimp only;omega) (by dsimp only;omega) u1;refine⟨by rw[h1,if_pos rfl];simp only[ak];omega,h2,λy hy=>?_,λy hy q hq z hz hzD=>?_⟩
   .obtain⟨z,hz,hq⟩:=h3 y hy;obtain⟨z',hz',hq'⟩:=Dk hz;exact⟨z',hz',λq h=>hq' q (hq q h)⟩
   rcases aJ.1 hz with rfl|hz
   .obtain⟨z',hz',hq'⟩:=h3 y hy;exact u2 z' hz' q (hq' q hq)
   exact h4 y hy q hq z hz hzD
theorem put_at{α:Type}{key:α->Ky}{room:Int}{l:List α}{t:α}{j:Nat}(h:cS key (key t) l=some j):sU key room l t=l.set j t:=by unfold sU;rw[h]
theorem Ke{α:Type}{key:α->Ky}{room:Int}{l:List α}{t:α}(h:cS key (key t) l=none)(h2:room<=(l.length:Int)):sU key room l t=[t]:=by unfold sU;rw[h];dsimp only;rw[ax h2,ac]
theorem Kd{α:Type}{key:α->Ky}{room:Int}{l:List α}{t:α}(h:cS key (key t) l=none)(h2:¬room<=(l.length:Int)):sU key room l t=l++[t]:=by unfold sU;rw[h];dsimp only;rw[aw h2,aa]
theorem place_b(k:Ky)(Z:List BA):cS Blk.key k (Z.map BA.b)=cS BA.key k Z:=ki (key:=BA.key) (key':=Blk.key) BA.b Zrf k Z
end Go.Ink
namespace Go.Proofs.YtkegldppffignaaGreatDoor
open Go.RowKit Go.Ink Go.Proofs.Tryz
attribute [local irreducible] OpY bS
theorem cnew_ok(room:Int)(w:World):Ctr prog 88 [.int .i64 room] w [] (λv cs=>if 1<=room/\room<=1024 then∃bc ml,v= .tuple #[.pointer (some ⟨bc,0,none⟩),.int .i64 0]/\cs=caF bc room ⟨ml,none,0,0,[],[]⟩else v= .tuple #[.pointer none,.int .i64 1]/\cs=[]):=by
 refine bN func88 rfl ntmps88 rfl (Inv.start w) ?_;refine xF ?_;refine ZW ?_ ?_<;>intro hc1
 .have hnr:¬(1<=room/\room<=1024):=(by simp only[Bool.or_eq_true,aj]at hc1;omega);refine Z_8 ?_;refine i9 ?_;rw[if_neg hnr];exact de
 have hnr:1<=room/\room<=1024:=(by simp only[bz,ah]at hc1;omega);refine Z_4 ?_;refine dC 172 4 ?_;refine oM ?_;refine oM ?_;refine ZA ?_;refine gj (z6 rfl) rfl ?_;rintro _ _ ⟨b11,rfl,rfl⟩;refine ZA ?_;refine ZO λb13=>?_
 refine Z_5 ?_;refine bP (caF b13 room ⟨b11,none,0,0,[],[]⟩) Zj ?_;refine rx (cs':=caF b13 room ⟨b11,none,0,0,[],[]⟩) (.inl rfl) (aR _) rfl rfl rfl ?_;rw[if_pos hnr];exact⟨b13,b11,rfl,rfl⟩
theorem clen_ok(bc:Nat)(room:Int)(X:CaX)(w:World)(hi:Inv w (bM (caF bc room X)) (caF bc room X) w):Ctr prog 151 [.pointer (some ⟨bc,0,none⟩)] w (caF bc room X) (λv cs=>v= .int .i64 (X.Z.length:Int)/\cs=caF bc room X):=by
 refine bN func151 rfl ntmps151 rfl hi ?_;refine ri ?_;refine zH (cs':=caF bc room X) (.inl rfl) (aR _) rfl rfl ?_;exact de
theorem IP(bc:Nat)(room:Int)(X:CaX)(w:World)(hi:Inv w (bM (caF bc room X)) (caF bc room X) w):Ctr prog 181 [.pointer (some ⟨bc,0,none⟩)] w (caF bc room X) (λv cs=>∃ml fl,v= .int .i64 (X.Z.length:Int)/\cs=caF bc room ⟨ml,none,0,fl,[],[]⟩):=by
 refine bN func181 rfl ntmps181 rfl hi ?_;refine xF ?_;refine dC 172 4 ?_;refine oM ?_;refine oM ?_;refine Z_2 ?_;refine gj (z6 rfl) rfl ?_;rintro _ _ ⟨b11,rfl,rfl⟩;refine Z_2 ?_;refine ZL ?_;refine Z_2 ?_;refine ZL ?_;refine Z_8 ?_;refine Zy (df Zv0 Zv0 rfl) ?_;refine Z_2 ?_;refine ZL ?_;refine Z_9 ?_;refine bP (caF bc room ⟨b11,none,0,IntKind.i64.wrap (X.fl+1),[],[]⟩) Zj ?_;refine zH (cs':=caF bc room ⟨b11,none,0,IntKind.i64.wrap (X.fl+1),[],[]⟩) (.inl rfl) (aR _) rfl rfl ?_;exact⟨_,_,rfl,rfl⟩
abbrev caL(bc:Nat)(room:Int)(ml:Nat)(A:Option Addr)(cc:Nat)(fl:Int)(n:Nat)(xs:List Value)(cin:List bL)(LK:List (Ky×LS)):List bL:=[caR bc (.int .i64 room) (.slice A n cc) (.map (some ml)) (.int .i64 fl),slv 172 4 A n cc xs,dp cin,mpc ml (lkV LK),dp (lkC LK)]
theorem cput_ok(bc:Nat)(room:Int)(X:CaX)(hX:qa room X)(t:BA)(ht:t.b.code.length<=100000/\lc t.b.key)(hc1:1<=t.b.count)(hne:t.b.code≠[])(w:World)(hi:Inv w (bM (caF bc room X)) (caF bc room X) w)(hR:∀w',dG (bM (caF bc room X)) w w'->Rd w' .u8 t.A (cI t.b.code).length t.c (cI t.b.code)):
  Ctr prog 150 [.pointer (some ⟨bc,0,none⟩),.agg t.cells.toArray] w (caF bc room X) (λ_ cs=>∃X':CaX,cs=caF bc room X'/\qa room X'/\X'.Z.map BA.b=sU Blk.key room (X.Z.map BA.b) t.b):=by
 have hS:=hX.sm;have hZ:=hS.1;have hlen:=hX.len;obtain⟨hr1,hr2⟩:=hX.rm;have hb8:(cI t.b.code).length<=140737488355328:=by rw[jt];omega
 have hb0:(cI t.b.code).length≠0:=by rw[jt];intro e;exact hne (List.eq_nil_of_length_eq_zero Wq1)
 have HP:=tY bc (.int .i64 room) (.map (some X.ml)) (.int .i64 X.fl) X.Ac X.cc X.Z hZ t.b.key;have HU:=xR bc X.ml (.int .i64 room) (.slice X.Ac X.Z.length X.cc) (.int .i64 X.fl) X.LK (hX.lk.sm (by simpa using hZ)) t.b.key ht.2;have HF:=IP bc room X;obtain⟨o,ho⟩:=Zgn (cS BA.key t.b.key X.Z);rw[ho]at HP;have hob:cS Blk.key t.b.key (X.Z.map BA.b)=o:=by rw[place_b,ho]
 obtain⟨ml,Ac,cc,fl,LK,Z⟩:=X;dsimp only at hS hZ hlen HP HU HF ho hob;refine bN func150 rfl ntmps150 rfl hi ?_;refine Z_2 ?_;refine ZO λb3=>?_;refine xF ?_;refine dc rfl ((by rw[bz];exact⟨aw Wq1,beq_eq_false_iff_ne.2 Wq1⟩)) ?_;refine Z_6 ?_;refine ZS (λw hi=>nl t.A (cI t.b.code).length t.c (cI t.b.code) w (hR w hi.Nb) hb8) ?_;rintro _ _ ⟨_,⟨A9,c9,rfl,rfl⟩,rfl⟩;refine Z_1 ?_;refine ZL ?_;refine Z_7 ?_;refine dN (cz (vs:=cC t.b.key) Zrf Zrf Zv0) (cK Zh rfl) rfl ?_;refine ZcM ([caR bc (.int .i64 room) (.slice Ac Z.length cc) (.map (some ml)) (.int .i64 fl),slv 172 4 Ac Z.length cc (Z.flatMap BA.cells)]) (λw hi hin=>HP w hin) ?_;refine Z_9 ?_;refine ZW ?_ ?_<;>intro hc5
 .obtain⟨j,rfl⟩:∃j,o=some j:=(by cases o with|none=>cases hc5|some j=>exact⟨j,rfl⟩);obtain⟨x,hx,hxk, -⟩:=qF ho;have hjl:=(au.1 hx).1;obtain⟨bs,rfl⟩:=iy (hi.get (.tail _ (.head (slv 172 4 Ac Z.length cc (Z.flatMap BA.cells)) _))) (show 0<Z.length by omega);refine Z_4 ?_;refine dN (cz (vs:=cC t.b.key) Zrf Zrf Zv0) (cK Zh rfl) rfl ?_;refine ZcL ([caR bc (.int .i64 room) (.slice (some ⟨bs,0,none⟩) Z.length cc) (.map (some ml)) (.int .i64 fl),mpc ml (lkV LK),dp (lkC LK)]) (λw hi hin=>HU w hin) ?_;rintro _ _ ⟨_,rfl,rfl⟩;refine Z_3 ?_;refine bU ⟨λj=>List.elem j [7],[]⟩ Zk ?_;refine gO ?_;refine ZFe 2 1 ?_;refine ZG 3 ?_;refine ZE 4 ?_;refine ZI 5 ?_;refine cG 6 rfl Zk Zk Zk (cw (bb:=bs) (o:=0) (n:=Z.length) (c:=cc) (j:=j) (sz:=4) (r:=j*4) rfl Zrf (Zv rfl) (Zv rfl) Zrf Wq4 Wq1) rfl ?_;refine cn 7 Zk ?_;refine du rfl rfl (sB (sz:=4) (n:=Z.length) (c:=cc) (vs:=BA.cells ⟨t.b,A9,c9⟩) Zrf rfl rfl (gc _) Za rfl Wq1) ZJ ?_;rintro _ _ ⟨rfl,rfl⟩;rw[xw (f:=BA.cells) (sz:=4) Zrf hjl];refine dx ?_;refine Z_8 ?_;refine yu (cin:=Z.map baC) (c:=baC x) (cin':=(Z.map baC).eraseIdx j) Zd (nH (by rw[bh,hx];rfl)) ?_;refine ky (cin:=(Z.map baC).eraseIdx j) (c:=baC ⟨t.b,A9,c9⟩) (cin':=(Z.set j ⟨t.b,A9,c9⟩).map baC) Zd Zd (by rw[List.map_set];exact rR (by simpa using hjl)) ?_;refine bP (caL bc room ml (some ⟨bs,0,none⟩) cc fl Z.length ((Z.set j ⟨t.b,A9,c9⟩).flatMap BA.cells) ((Z.set j ⟨t.b,A9,c9⟩).map baC) (gU LK t.b.key)) Zj ?_;refine zH (cs':=caL bc room ml (some ⟨bs,0,none⟩) cc fl Z.length ((Z.set j ⟨t.b,A9,c9⟩).flatMap BA.cells) ((Z.set j ⟨t.b,A9,c9⟩).map baC) (gU LK t.b.key)) (.inl rfl) (aR _) rfl rfl ?_;exact⟨⟨ml,some ⟨bs,0,none⟩,cc,fl,gU LK t.b.key,Z.set j ⟨t.b,A9,c9⟩⟩,by simp only[caF,caL,blC,aC],hX.set (t:=⟨t.b,A9,c9⟩) hx hxk ht _ _ _ _,by rw[put_at hob,List.map_set]⟩
 obtain rfl:o=none:=(by cases o with|none=>rfl|some j=>have h9:¬(0:Int)<=((j:Nat):Int):=of_decide_eq_false hc5;omega);refine Z_2 ?_;refine da (λY:CaX=>[(0,.pointer (some ⟨bc,0,none⟩)),(3,.pointer (some ⟨b3,0,none⟩))]) (λY=>caF bc room Y++[row b3 (BA.cells ⟨t.b,A9,c9⟩) 172,baC ⟨t.b,A9,c9⟩]) (λY=>qa room Y/\(Y.Z.length:Int)<room/\Y.Z.map BA.b++[t.b]=sU Blk.key room (Z.map BA.b) t.b) ?_ ?_
 .refine Zs (bU ⟨λj=>List.elem j [],[]⟩ Zk ?_);refine gO ?_;refine ZFe 2 1 ?_;refine ZG 3 ?_;refine ZE 4 ?_;refine ZE 5 ?_;refine ZE 6 ?_;refine ZFe 7 0 ?_;refine ZG 8 ?_;refine ZE 9 ?_;refine dx ?_;refine Zt ?_;refine ZW ?_ ?_<;>intro hc9
  .have hfull:room<=((Z.map BA.b).length:Int):=(by rw[List.length_map];exact of_decide_eq_true hc9);refine Z_2 ?_;refine ZcL (caF bc room ⟨ml,Ac,cc,fl,LK,Z⟩) (λw hi hin=>HF w hin) ?_;rintro _ _ ⟨_,⟨ml2,fl2,rfl,rfl⟩,rfl⟩;refine Zn ?_;refine bX ((⟨ml2,none,0,fl2,[],[]⟩:CaX)) ?_ ?_ ?_
   .exact⟨qa.none ⟨hr1,hr2⟩ _ _ _ _,by show((0:Nat):Int)<room;omega,by rw[Ke hob hfull];rfl⟩
   .exact Zwk
   exact Zj
  have hfull:¬room<=((Z.map BA.b).length:Int):=(by rw[List.length_map];exact of_decide_eq_false hc9);refine Zc ?_;refine bX ((⟨ml,Ac,cc,fl,LK,Z⟩:CaX)) ?_ ?_ ?_
  .exact⟨hX,by rw[List.length_map]at hfull;show((Z.length:Nat):Int)<room;omega,by rw[Kd hob hfull]⟩
  .exact Zwk
  exact Zj
 rintro⟨ml2,Ac2,cc2,fl2,LK2,Z2⟩ ⟨hY,hlt,hput⟩;dsimp only at hlt hput|-;refine Zs (bU ⟨λj=>List.elem j [7,10],sQ b3 (BA.cells ⟨t.b,A9,c9⟩)⟩ Zk ?_);refine gO ?_;refine ZE 2 ?_;refine ZFe 3 1 ?_;refine ZG 4 ?_;refine uX 5 rfl Zk Zk Zk (cz Zrf Zrf Zv0) (λx hx=>gx x hx) (bV (t:=172) Zh) rfl ?_;refine cn 6 Zk ?_;refine kf rfl rfl (iw rfl rfl Zrf Zrf rfl rfl rfl) (λ_=>by rintro _ _ ⟨b54,rfl,rfl⟩;exact bV (t:=172) Zh) rfl ?_;rintro _ _ ⟨b54,rfl,rfl⟩;refine cn 7 Zk ?_;refine kf rfl rfl (cD (n:=Z2.length) (e:=172) (sz:=4) (bytes:=40) rfl rfl Za rfl rfl (λw hi=>hi.rd (show Has _ (slv 172 4 (some ⟨b54,0,none⟩) 1 1 (BA.cells ⟨t.b,A9,c9⟩))from Zh)) (gc ⟨t.b,A9,c9⟩) gS Wq1) (λ_=>by rintro _ _ ⟨A2,c2,rfl,rfl⟩;exact bV (t:=172) Zh) rfl ?_;rintro _ _ ⟨A2,c2,rfl,rfl⟩;rw[show Z2.flatMap BA.cells++BA.cells ⟨t.b,A9,c9⟩=(Z2++[(⟨t.b,A9,c9⟩:BA)]).flatMap BA.cells by simp,show Z2.length+1=(Z2++[(⟨t.b,A9,c9⟩:BA)]).length by simp];refine ZE 8 ?_;refine ZFe 9 1 ?_;refine cn 10 Zk ?_;refine du rfl rfl (fq Zrf rfl rfl rfl Za Zp) (λ_=>by rintro _ _ ⟨rfl,rfl⟩;exact bV (t:=172) Zh) ?_;rintro _ _ ⟨rfl,rfl⟩;refine dx ?_;refine Z_7 ?_;refine ky (cin:=Z2.map baC) (c:=baC ⟨t.b,A9,c9⟩) (cin':=(Z2++[(⟨t.b,A9,c9⟩:BA)]).map baC) Zd Zd (by rw[List.map_append];exact List.perm_append_singleton _ _) ?_;refine bP (caF bc room ⟨ml2,A2,c2,fl2,LK2,Z2++[(⟨t.b,A9,c9⟩:BA)]⟩) Zj ?_;refine zH (cs':=caF bc room ⟨ml2,A2,c2,fl2,LK2,Z2++[(⟨t.b,A9,c9⟩:BA)]⟩) (.inl rfl) (aR _) rfl rfl ?_;exact⟨⟨ml2,A2,c2,fl2,LK2,Z2++[(⟨t.b,A9,c9⟩:BA)]⟩,rfl,hY.push (t:=⟨t.b,A9,c9⟩) hlt ht _ _,by rw[List.map_append];exact hput⟩
end Go.Proofs.YtkegldppffignaaGreatDoor
