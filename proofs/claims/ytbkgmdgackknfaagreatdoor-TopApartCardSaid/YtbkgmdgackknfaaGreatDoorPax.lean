/- Lemmas. -/
import Derived.Test.YtbkgmdgackknfaaGreatDoorPaw
set_option linter.unusedSimpArgs false
set_option linter.unusedVariables false
set_option maxRecDepth 100000
set_option maxHeartbeats 4000000
namespace Go.Ink
open Go.RowKit Go.Proofs.Tryz
section
attribute [local irreducible] OpY bH
structure Vw where
 s:St
 m:List Int
 o:List Int
 i:List Int
 k:List Int
 Sc:Int
 mask:Int
 SV:Bool
structure VAd where
 X:j0
 Am:Option Addr
 cm:Nat
 Ao:Option Addr
 co:Nat
 Ai:Option Addr
 ci:Nat
 Ak:Option Addr
 ck:Nat
abbrev Vw.cells(v:Vw)(Y:VAd):List Value:=v.s.cells (.slice Y.X.Ad v.s.d.length Y.X.cd) (.slice Y.X.Ar v.s.r.length Y.X.cr)++[.slice Y.Am v.m.length Y.cm,.slice Y.Ao v.o.length Y.co,.slice Y.Ai v.i.length Y.ci,.slice Y.Ak v.k.length Y.ck,.w v.Sc,.w v.mask,.bool v.SV]
abbrev vv(v:Vw)(Y:VAd):Value:= .agg (v.cells Y).toArray
structure Vw.wf(v:Vw):Prop where
 s:v.s.wf
 m:u8s v.m
 o:u8s v.o
 i:u8s v.i
 k:u8s v.k
structure xf(w:World)(v:Vw)(Y:VAd):Prop where
 s:pY w v.s Y.X.Ad Y.X.Ar Y.X.cd Y.X.cr
 m:Rd w .u8 Y.Am v.m.length Y.cm v.m
 o:Rd w .u8 Y.Ao v.o.length Y.co v.o
 i:Rd w .u8 Y.Ai v.i.length Y.ci v.i
 k:Rd w .u8 Y.Ak v.k.length Y.ck v.k
theorem xf.RU{w0 w:World}{cs:List bC}{v:Vw}{Y:VAd}(h:xf w0 v Y)(hi:Inv w0 [] cs w):xf w v Y:=⟨h.s.RU hi,h.m.RU hi,h.o.RU hi,h.i.RU hi,h.k.RU hi⟩
structure BSl where
 A:Option Addr
 c:Nat
 l:List Int
abbrev BSl.v(x:BSl):Value:= .slice x.A x.l.length x.c
def _root_.Go.Proofs.YtbkgmdgackknfaaGreatDoor.marks(pre:List Int):List Bool:=(List.range 256).map λf:Nat=>decide ((f:Int)∈pre)
def frOk(l:List Int):Prop:=(∀f,f∈l->16<=f/\f<256)/\l.Nodup
theorem vA(pre:List Int):(Go.Proofs.YtbkgmdgackknfaaGreatDoor.marks pre).length=256:=by simp[Go.Proofs.YtbkgmdgackknfaaGreatDoor.marks]
theorem nqF{pre:List Int}{f:Nat}(h:f<256):(Go.Proofs.YtbkgmdgackknfaaGreatDoor.marks pre)[f]? =some (decide ((f:Int)∈pre)):=by
 unfold Go.Proofs.YtbkgmdgackknfaaGreatDoor.marks;rw[aW,List.getElem?_range h];rfl
theorem KV{pre:List Int}{f:Nat}(h:f<256):(Go.Proofs.YtbkgmdgackknfaaGreatDoor.marks pre).set f true=Go.Proofs.YtbkgmdgackknfaaGreatDoor.marks (pre++[(f:Int)]):=by
 apply List.ext_getElem?;intro j;by_cases hj:j<256
 .rw[nqF hj];by_cases e:f=j
  .subst e;rw[List.getElem?_set_self (by rw[vA];exact h)];simp
  rw[List.getElem?_set_ne e,nqF hj];congr 1;have:(j:Int)≠(f:Int):=by omega
  simp[this]
 rw[List.getElem?_eq_none (by rw[List.length_set,vA];omega),List.getElem?_eq_none (by rw[vA];omega)]
theorem KW:Go.Proofs.YtbkgmdgackknfaaGreatDoor.marks []=List.replicate 256 false:=by decide+kernel
theorem kK{pre:List Int}{f:Nat}(h:f<256):(jA (Go.Proofs.YtbkgmdgackknfaaGreatDoor.marks pre))[f]? =some (.bool (decide ((f:Int)∈pre))):=by unfold jA;rw[aW,nqF h];rfl
theorem wB{pre:List Int}{f:Nat}(h:f<256):(jA (Go.Proofs.YtbkgmdgackknfaaGreatDoor.marks pre)).set f (.bool true)=jA (Go.Proofs.YtbkgmdgackknfaaGreatDoor.marks (pre++[(f:Int)])):=by rw[<-KV h];unfold jA;rw[List.map_set]
structure ISl where
 A:Option Addr
 c:Nat
 l:List Int
abbrev ISl.v(x:ISl):Value:= .slice x.A x.l.length x.c
abbrev ISl.cells(x:ISl):List Value:=[x.v]
def ISl.rd(x:ISl)(w:World):Prop:=Rd w .i64 x.A x.l.length x.c x.l
theorem B4(s t:St)(Ad Ar Bd Br:Option Addr)(cd cr ed er:Nat)(w:World)(h:pY w s Ad Ar cd cr)(h2:pY w t Bd Br ed er):
  Ctr prog 24 [sv s Ad cd Ar cr,sv t Bd ed Br er] w [] (λv cs=>v= .bool (s.Td t)/\cs=[]):=by
 have HS:=Oj s t Ad Ar Bd Br cd cr ed er;refine Zfs func24 ntmps24 ?_;refine Z_2 ?_;refine ZO λb2=>?_;refine ZO λb3=>?_
 refine Z_7 ?_;exact dU fV (.cons Zv0 (.cons Zv0 .nil)) (λ_ _=>rfl) (λhg w hi=>HS w (h.RU hi) (h2.RU hi)) rfl mF
theorem mj(a b:Vw)(Y Z:VAd)(ha:a.wf)(hb:b.wf)(w:World)(h:xf w a Y)(h2:xf w b Z):
  Ctr prog 18 [vv a Y,vv b Z] w [] (λv cs=>(∃r,v= .bool r/\(r=true<->a=b))/\cs=[]):=by
 refine Zfs func18 ntmps18 ?_;refine Z_2 ?_;refine ZO λb2=>?_;refine ZO λb3=>?_
 refine Z_6 ?_;refine dK (bP (vs:=a.s.cells (.slice Y.X.Ad a.s.d.length Y.X.cd) (.slice Y.X.Ar a.s.r.length Y.X.cr)) Zrf Zrf Zv0) (cO (o:=0) Zh rfl) rfl (Z_1 ?_);refine dK (bP (vs:=b.s.cells (.slice Z.X.Ad b.s.d.length Z.X.cd) (.slice Z.X.Ar b.s.r.length Z.X.cr)) Zrf Zrf Zv0) (cO (o:=0) Zh rfl) rfl (ZSe (λw hi=>B4 a.s b.s Y.X.Ad Y.X.Ar Z.X.Ad Z.X.Ar Y.X.cd Y.X.cr Z.X.cd Z.X.cr w (h.s.RU hi) (h2.s.RU hi)) ?_);refine Z_3 ?_;refine dZ (λw hi=>kq (h.m.RU hi)) (λhrd13=>?_);refine fN (bM rfl rfl) (j9 rfl rfl rfl (bU rfl) hrd13) (λw hi=>RdV.Sg (h.m.RU hi)) rfl (Z_2 ?_);refine dZ (λw hi=>kq (h2.m.RU hi)) (λhrd16=>?_);refine fN (bM rfl rfl) (j9 rfl rfl rfl (bU rfl) hrd16) (λw hi=>RdV.Sg (h2.m.RU hi)) rfl (Zyy rfl rfl (uy rfl (bU rfl) (bU rfl) (nX ha.m hb.m)) ?_);refine Z_4 ?_;refine dZ (λw hi=>kq (h.o.RU hi)) (λhrd22=>?_);refine fN (bM rfl rfl) (j9 rfl rfl rfl (bU rfl) hrd22) (λw hi=>RdV.Sg (h.o.RU hi)) rfl (Z_2 ?_);refine dZ (λw hi=>kq (h2.o.RU hi)) (λhrd25=>?_);refine fN (bM rfl rfl) (j9 rfl rfl rfl (bU rfl) hrd25) (λw hi=>RdV.Sg (h2.o.RU hi)) rfl (Zyy rfl rfl (uy rfl (bU rfl) (bU rfl) (nX ha.o hb.o)) ?_);refine Z_4 ?_;refine dZ (λw hi=>kq (h.i.RU hi)) (λhrd31=>?_);refine fN (bM rfl rfl) (j9 rfl rfl rfl (bU rfl) hrd31) (λw hi=>RdV.Sg (h.i.RU hi)) rfl (Z_2 ?_);refine dZ (λw hi=>kq (h2.i.RU hi)) (λhrd34=>?_);refine fN (bM rfl rfl) (j9 rfl rfl rfl (bU rfl) hrd34) (λw hi=>RdV.Sg (h2.i.RU hi)) rfl (Zyy rfl rfl (uy rfl (bU rfl) (bU rfl) (nX ha.i hb.i)) ?_);refine Z_2 ?_;refine ZFb 19 ?_;refine ZD ?_;refine dZ (λw hi=>kq (h.k.RU hi)) (λhrd40=>?_);refine fN (bM rfl rfl) (j9 rfl rfl rfl (bU rfl) hrd40) (λw hi=>RdV.Sg (h.k.RU hi)) rfl (ZFb 19 ?_);refine ZD ?_;refine dZ (λw hi=>kq (h2.k.RU hi)) (λhrd43=>?_);refine fN (bM rfl rfl) (j9 rfl rfl rfl (bU rfl) hrd43) (λw hi=>RdV.Sg (h2.k.RU hi)) rfl (Zyy rfl rfl (uy rfl (bU rfl) (bU rfl) (nX ha.k hb.k)) ?_);refine Z_2 ?_;refine ZFb 20 ?_;refine ZD ?_;refine ZFb 20 ?_;refine Z_4 ?_;refine ZFb 21 ?_;refine ZD ?_;refine ZFb 21 ?_;refine Z_4 ?_;refine ZFb 22 ?_;refine ZD ?_;refine ZFb 22 ?_;refine Z_7 ?_;refine Zra ?_;refine⟨⟨_,rfl,?_⟩,rfl⟩;simp only[aD,beq_iff_eq,St.S2];constructor
 .rintro⟨⟨⟨⟨⟨⟨⟨q1,q2⟩,q3⟩,q4⟩,q5⟩,q6⟩,q7⟩,q8⟩;cases a;cases b;simp_all
 rintro rfl;simp
theorem qO(n:Nat)(hn:n<=4611686018427387904)(w:World):Ctr prog 49 [.i n] w [] (λv cs=>v= .i (((n+63)/64:Nat):Int)/\cs=[]):=by
 refine Zfs func49 ntmps49 ?_;refine Z_8 ?_;refine ri ?_;refine oN ?_;refine Zy (k8 (Zv rfl) (Zv rfl) Wq1 (show _=(((n+63)/64:Nat):Int)from by rw[IntWalk.i64_quo _ _ ⟨by omega,by omega,by omega⟩];omega)) ?_;exact mF
theorem Qe(tr:Bool)(w:World):Ctr prog 15 [.bool tr,.slice none 0 0] w [] (λv cs=>v= .tuple #[.pointer none,.i 1]/\cs=[]):=by
 refine Zfs func15 ntmps15 ?_;refine IB ?_;refine oU ?_;refine Z_8 ?_;exact lQ
def Dev.SD(d:Dev)(l:List Int):Nat:=min l.length (64 - d.inp.length)
def Dev.Sx(d:Dev)(l:List Int):Dev:={d with inp:=d.inp++l.take (d.SD l),Sc:=bif decide (0<d.SD l)then bits .or .u32 d.Sc 2 else d.Sc}
def Dev.raise(d:Dev)(k:Nat):Dev:={d with Sc:=bits .or .u32 d.Sc (nz [k])}
structure GIn(d:Dev):Prop where
 i64:d.inp.length<=64
section
variable {n:Nat} {op nn:Int} {s:St} {U:Mmu} {d:Dev} {M:Mem} {R:Run}
theorem Eu(h:GIn d)(k:Int)(v:Nat):GIn (cF n M d k v).2.2:=by
 unfold cF fp
 repeat (first|exact h|exact⟨h.i64⟩|refine bI (λq:Bool×Mem×Dev=>GIn q.2.2) ?_ ?_)
theorem Ip(h:GIn d)(k count:Int):GIn (ge d k count).2:=by
 have ht:GIn {d with inp:=d.inp.tail}:=⟨by show d.inp.tail.length<=64;rw[List.length_tail];have:=h.i64;omega⟩;unfold ge
 repeat (first|exact h|exact ht|refine bI (λq:(Int×Bool)×Dev=>GIn q.2) ?_ ?_)
theorem lode_in(h:GIn d)(va:Nat):GIn (jO n R U d va).d:=by
 unfold jO;refine bI (λm:fM=>GIn m.d) h ?_;exact bI (λm:fM=>GIn m.d) (Ip h _ _) h
theorem stow_in(h:GIn d)(va v:Nat):GIn (jL n R U d va v).d:=by
 unfold jL;refine bI (λm:fM=>GIn m.d) h ?_;exact bI (λm:fM=>GIn m.d) (Eu h _ _) h
theorem OG{m:fM}(h:GIn m.d):GIn (dD n op nn m).d:=by
 unfold dD;refine bI (λm:fM=>GIn m.d) (lode_in h _) ?_;refine bI (λm:fM=>GIn m.d) (stow_in h _ _) ?_
 repeat (first|exact h|refine bI (λm:fM=>GIn m.d) ?_ ?_)
theorem mid_in(h:GIn d):GIn (iB n s op nn U d).d:=by
 unfold iB;cases dC op nn (eP s op)with
 |some R=>exact h
 |none=>exact bI (λm:fM=>GIn m.d) h (OG h)
theorem do_in(h:GIn d):GIn (pG n s op nn U d).2.2:=by
 unfold pG;refine bI (λq:Res×Mmu×Dev=>GIn q.2.2) h ?_;exact bI (λq:Res×Mmu×Dev=>GIn q.2.2) h (mid_in h)
theorem JD(h:GIn d)(c:Int):GIn (d.tick c):=by
 unfold Dev.tick;exact bI GIn h ⟨h.i64⟩
theorem Gq(h:GIn d):GIn (dy n s U d).d:=by
 unfold dy;refine bI (λb:C8=>GIn b.d) h ?_;unfold mB;exact bI (λb:C8=>GIn b.d) (JD h _) (JD h _)
theorem Ka{RY:Nat}:∀(k:Nat) {s:St} {p:Nat} {U:Mmu} {d:Dev},GIn d->GIn (dX n RY k s p U d).2.2
 |0,s,p,U,d,h=>h
 |k+1,s,p,U,d,h=>by
  unfold dX;cases df n U.m p with
  |none=>exact h
  |some o=>
   obtain⟨⟨op,nn⟩,z⟩:=o;have hd:=do_in (n:=n) (s:=s) (op:=op) (nn:=nn) (U:=U) h;exact bI (λq:St×Mmu×Dev=>GIn q.2.2) (Ka k hd) hd
theorem Qg(h:GIn d):GIn (dw n s U d).2.2:=by
 unfold dw;dsimp only;exact bI (λq:St×Mmu×Dev=>GIn q.2.2) (Ka 8 (Gq h)) (Gq h)
end
theorem lines1:nz [1]=2:=by decide
theorem Fl{n:Nat}{m f:Int}:∀(k:Nat) {q:St×Mmu×Dev},GIn q.2.2->GIn (mb n m f k q).2.2
 |0,q,h=>h
 |k+1,q,h=>by
  unfold mb;exact bI (λq:St×Mmu×Dev=>GIn q.2.2) (Fl k (Qg h)) h
theorem run_in{n:Nat}{s:St}{U:Mmu}{d:Dev}(m:Int)(h:GIn d):GIn (fZ n m s U d).2.2:=Fl _ h
theorem init_in(k:List Int):GIn (Dev.init k):=⟨au _⟩
theorem Bi{n:Nat}{s:St}{U:Mmu}{d:Dev}(h:GOk n s U d)(hi:GIn d){l:List Int}(hl:u8s l):GOk n s U (d.Sx l)/\GIn (d.Sx l):=by
 have hw:=h.dv.wf;have hlen:(d.inp++l.take (d.SD l)).length<=64:=by
  have:=hi.i64;unfold Dev.SD;rw[aq,aI];omega
 have hb:u8s (d.inp++l.take (d.SD l)):=λx hx=>(aF.1 hx).elim (hw.Tm x) (λq=>hl x (bh q))
 exact⟨⟨h.wf,h.right,h.u,⟨⟨hb,hw.Sb,hw.SU,hw.RH,hw.place,aN hlen Wq7⟩,bI u32 (iS .or d.Sc 2) h.dv.Sc,h.dv.mask,h.dv.timer,h.dv.status⟩,⟨h.lines.mask⟩⟩,⟨hlen⟩⟩
theorem xL{n:Nat}{s:St}{U:Mmu}{d:Dev}(h:GOk n s U d)(hi:GIn d)(k:Nat):GOk n s U (d.raise k)/\GIn (d.raise k):=
 ⟨⟨h.wf,h.right,h.u,⟨h.dv.wf.re rfl rfl rfl rfl,iS .or d.Sc _,h.dv.mask,h.dv.timer,h.dv.status⟩,⟨h.lines.mask⟩⟩,⟨hi.i64⟩⟩
theorem Bs{l:List Int}{N m:Nat}(h:min l.length m=N):(l.take N).length=N:=by rw[aI];omega
theorem Og{W:World}{A:Option Addr}{c N m:Nat}{l:List Int}(h:Rd W .u8 A l.length c l)(hN:min l.length m=N):Rd W .u8 A N c (l.take N):=by
 have h2:=kp h N;rwa[Bs hN]at h2
theorem PZ(b:Nat)(Ao:Option Addr)(no co:Nat)(Ai:Option Addr)(ci:Nat)(inp:List Int)(h64:inp.length<=64)(A:Option Addr)(c:Nat)(l:List Int)(hl:l.length<=1000)(N:Nat)(hN:min l.length (64 - inp.length)=N)(w:World)
  (hi:Inv w (bD [ww b Ao no co Ai inp.length ci,b8 Ai ci inp]) [ww b Ao no co Ai inp.length ci,b8 Ai ci inp] w) (h:∀w',cY (bD [ww b Ao no co Ai inp.length ci,b8 Ai ci inp]) w w'->Rd w' .u8 A l.length c l):
  Ctr prog 106 [.p b,.slice A l.length c] w [ww b Ao no co Ai inp.length ci,b8 Ai ci inp] (λv cs=>∃Ai' ci',v= .i (N:Int)/\cs=[ww b Ao no co Ai' (inp++l.take N).length ci',b8 Ai' ci' (inp++l.take N)]):=by
 have hcap:=(h w (cY.refl _ _)).cap;have htl:=Bs hN;refine Zfn func106 ntmps106 hi ?_;refine iT ?_;refine Zy (gr (Zv rfl) (Zv rfl) (show _=((64 - inp.length:Nat):Int)from by rw[IntWalk.i64_in _ ⟨by omega,by omega⟩];omega)) ?_;refine Zy (Ns (Zv rfl) (Zv rfl) (show _=(N:Int)from by split<;>omega)) ?_;refine Z_4 ?_;refine bL ⟨λj=>List.elem j [8,11],[]⟩ Zk (kQ ?_);refine ZFe 3 1 ?_;refine ZG 4 ?_;refine mE ?_;refine Zy4 7 rfl (fH N rfl Zrf (Zv rfl) (Zv rfl) AH Wq2) ?_;refine cn 8 Zk (jT rfl rfl (cj (e:=5) (sz:=1) (bytes:=1) rfl rfl Za rfl rfl (λw hi=>(Og (h w hi.Sf) hN)) di gq Wq1) ZJ rfl ?_);rintro _ _ ⟨A2,c2,rfl,rfl⟩;rw[show inp.length+N=(inp++l.take N).length by rw[aq,htl],show ints .u8 inp++ints .u8 (l.take N)=ints .u8 (inp++l.take N)from bX inp (l.take N)];refine ZE 9 ?_;refine ZFe 10 1 ?_;refine cn 11 Zk (nO ?_);refine Z_8 ?_;refine Zrb ([row _ _ _,slv _ _ _ _ _ _]) ?_;exact⟨A2,c2,rfl,rfl⟩
theorem EA(D:rp)(bm:Nat)(X:nS)(d:Dev)(h64:d.inp.length<=64)(A:Option Addr)(c:Nat)(l:List Int)(hl:l.length<=1000)(w:World)(hi:Inv w (bD (kO D bm X d)) (kO D bm X d) w)(h:∀w',cY (bD (kO D bm X d)) w w'->Rd w' .u8 A l.length c l):
  Ctr prog 86 [.p D.bs,.slice A l.length c] w (kO D bm X d) (λv cs=>∃X',v= .i (d.SD l:Int)/\cs=kO D bm X' (d.Sx l)):=by
 obtain⟨N,hN⟩:=Zgn (d.SD l);have hT:d.Sx l={d with inp:=d.inp++l.take N,Sc:=bif decide (0<N)then bits .or .u32 d.Sc 2 else d.Sc}:=by unfold Dev.Sx;rw[hN]
 rw[hT,hN];unfold Dev.SD at hN;have HR:=λA c p w hi h=>nA D.bi p d.mask A c [1] (λx hx=>by simp at hx;omega) w hi h
 rw[lines1]at HR;refine Zfn func86 ntmps86 hi ?_;refine fD ?_;refine dz ([ww D.bcn X.Ao d.out.length X.co X.Ai d.inp.length X.ci,b8 X.Ai X.ci d.inp]) (λw hi hin=>PZ D.bcn X.Ao d.out.length X.co X.Ai X.ci d.inp h64 A c l hl N hN w hin (λw' hk=>h w' (hi.Ta (λc hc=>by simp only[kO,aF,aG,aS]at hc|-;grind) hk))) ?_;rintro _ _ ⟨Ai',ci',rfl,rfl⟩;refine pV ?_ ?_<;>intro hc2
 .simp only[ae]at hc2;rw[ay (show 0<N by omega),ai];refine Z_5 ?_;refine kY ?_;rintro _ _ ⟨b18,rfl,rfl⟩;refine ZcM ([pT D.bi d.Sc d.mask]) (λw hi hin=>HR (sA b18) 1 d.Sc w hin (λw' hk=>hi.Sr Zi (show Has _ (slv 3 1 (sA b18) 1 1 (ints .i64 [1]))from Zh) hk)) ?_;refine Z_9 ?_;exact bG (kO D bm ⟨X.Ao,X.co,Ai',ci'⟩ {d with inp:=d.inp++l.take N,Sc:=bits .or .u32 d.Sc 2}) Zj Wq357
 simp only[ac]at hc2;rw[ar (show¬0<N by omega),ah];refine Z_9 ?_;exact bG (kO D bm ⟨X.Ao,X.co,Ai',ci'⟩ {d with inp:=d.inp++l.take N}) Zj Wq357
def Mem.load(n:Nat)(l:List Int):Mem:=(Mem.new n).fill 0 l l.length
theorem Mem.S4{n:Nat}{l:List Int}(h:l.length<=n*64):(Mem.load n l).data=l++List.replicate (n*64 - l.length) 0:=congrArg Mem.data (Mem.init_eq h)
theorem Mem.Tg(n:Nat):(Mem.new n).ok n:=⟨aE,λx hx=>by rw[List.eq_of_mem_replicate hx];decide,aE⟩
theorem FJ{n:Nat}{l k:List Int}(hb:u8s l)(hk:k.length<=1024)(hkb:u8s k):GOk n St.new ⟨Mem.load n l,eB⟩ (Dev.init k):=
 ⟨new_wf,rfl,⟨(Mem.Tg n).fill 0 hb _,xw⟩,Dev.Tn hk hkb,⟨Int.le_refl _,show(0:Int)<=255 by decide⟩⟩
theorem Inv.okS{w0 w:World}{S:List Nat}{cs cin rest:List bC}(h:Inv w0 S cs w)(hp:eJ cin cs rest):∀c,c∈cin->c.ok w:=λc hc=>h.ok c (hp.perm.symm.subset (List.mem_append_left _ hc))
structure sG where
 bg:Nat
 bu:Nat
 bb:Nat
 be:Nat
 L:eA
 D:rp
structure Gst where
 s:St
 X:j0
 Y:nS
 U:Mmu
 d:Dev
 o:Option EnX
def engV(be:Nat):Option EnX->Value
 |none=> .pointer none
 |some _=> .p be
def enO(be:Nat):Option EnX->List bC
 |none=>[]
 |some E=>enF be E
abbrev Cp(H:sG)(G:Gst)(k:Bool):List Value:=[.p H.D.bs,.p H.L.bm,.p H.L.bp,.i (H.L.o:Int),.p H.bu,engV H.be G.o]++(G.s.cells (.slice G.X.Ad G.s.d.length G.X.cd) (.slice G.X.Ar G.s.r.length G.X.cr)++[.bool k])
abbrev Aa(H:sG)(G:Gst)(k:Bool):bC:=row H.bg (Cp H G k) 102
abbrev gsF(H:sG)(G:Gst):List bC:=Aa H G false::(guF H.bu H.bb H.L H.D G.s G.X G.Y G.U G.d++[bQ (enO H.be G.o)])
structure Gst.ok(n:Nat)(G:Gst):Prop where
 g:GOk n G.s G.U G.d
 e:∀E,G.o=some E->oG E
structure Born(bp o n:Nat)(W ow pr l k:List Int)(tr:Bool)(H:sG)(G:Gst):Prop where
 hbp:H.L.bp=bp
 ho:H.L.o=o
 hn:H.L.n=n
 hgw:H.L.gw=ow
 hgB:H.L.gB=W
 hgp:H.L.gp=pr.set o n
 hs:G.s=St.new
 hu:G.U=⟨Mem.load n l,eB⟩
 hd:G.d=Dev.init k
 htr:G.o.isSome=tr
 ok:G.ok n
theorem LQ(bp:Nat)(W ow pr:List Int)(hl:dg W ow pr)(o n:Nat)(ho:o<4)(hn0:1<=n)(hn:n<=64)(h1:pr[o]? =some (-1))(hs:(n:Int)+fY pr 4<=240)(hb:∀x,x∈pr->x<=1000)(hno:∀x,x∈ow->x≠(o:Int))(hc:n<=nE ow 256)
  (A B:Option Addr) (c e:Nat) (l k:List Int) (hll:l.length<=n*64) (hlb:u8s l) (hkl:k.length<=1024) (hkb:u8s k) (tr:Bool) (w:World) (hi:Inv w (bD [cV bp W ow pr]) [cV bp W ow pr] w)
  (hA:∀w',cY (bD [cV bp W ow pr]) w w'->Rd w' .u8 A l.length c l) (hB:∀w',cY (bD [cV bp W ow pr]) w w'->Rd w' .u8 B k.length e k):
  Ctr prog 36 [.p bp,.i o,imgV A c l B e k n,.bool tr] w [cV bp W ow pr] (λv cs=>∃H G,Born bp o n W ow pr l k tr H G/\v= .tuple #[.p H.bg,.i 0]/\cs=gsF H G):=by
 have hG:=FJ (n:=n) (l:=l) (k:=k) hlb hkl hkb;have HM:∀bt bf bg bm,dJ (⟨bp,bt,bf,bg,bm,o,n,ow,W,pr.set o n⟩) (Mem.new n) ⟨W,ow,pr.set o n,List.replicate n (-1),List.replicate n false⟩:=λbt bf bg bm=>
  dJ.new (L:=⟨bp,bt,bf,bg,bm,o,n,ow,W,pr.set o n⟩) ho hn0 hn (pr:=pr) hl rfl hno (PE hc)
 have HB:∀(H:sG) (G:Gst),H.L.bp=bp->H.L.o=o->H.L.n=n->H.L.gw=ow->H.L.gB=W->H.L.gp=pr.set o n->G.s=St.new->G.U=⟨Mem.load n l,eB⟩->G.d=Dev.init k->G.o.isSome=tr->(∀E,G.o=some E->oG E)->Born bp o n W ow pr l k tr H G:=λH G a1 a2 a3 a4 a5 a6 a7 a8 a9 a10 a11=>⟨a1,a2,a3,a4,a5,a6,a7,a8,a9,a10,⟨by grind,a11⟩⟩
 have H2:=λbm w h=>MF bm B e k hkl w h
 unfold Mem.load at HB;obtain⟨d,hd⟩:=Zgn (Dev.init k);rw[hd]at H2 HB;clear hG hd;refine Zfn func36 ntmps36 hi ?_;refine Z_2 ?_;refine ZO λb6=>?_;refine kM ?_;refine iU ?_;refine Zs (bL ⟨λj=>List.elem j [],[]⟩ Zk ?_);refine ZFe 0 0 ?_;refine ZG 1 ?_;refine QJ ?_;refine ZTn (λw hi=>qO l.length Wq1 w) ?_;rintro _ _ ⟨rfl,rfl⟩;refine Qs ?_;refine Zt (cJ rfl (bR) ?_);refine Z_9 ?_;refine dz ([cV bp W ow pr]) (λw hi hin=>nnew_ok bp W ow pr hl o n ho hn0 hn h1 hs hb w hin) ?_;rintro _ _ ⟨bt,bf,bg,rfl,rfl⟩;refine iT ?_;refine iU ?_;refine Z_6 ?_;refine ZSn (λw hi=>rnew_ok bp bt w) ?_;rintro _ _ ⟨bm,rfl,rfl⟩;refine Z_9 ?_;refine ET (bs:=[bp,bt,bf,bg,bm]) (F:=D2 ⟨bp,bt,bf,bg,bm,o,n,ow,W,pr.set o n⟩ (List.replicate 64 false)) (hb:=λ_=>rfl) (p:=dJ ⟨bp,bt,bf,bg,bm,o,n,ow,W,pr.set o n⟩ (Mem.new n)) ⟨W,ow,pr.set o n,List.replicate n (-1),List.replicate n false⟩ (HM bt bf bg bm) Zi (Z_3 ?_);refine ZcM ([eG ⟨bp,bt,bf,bg,bm,o,n,ow,W,pr.set o n⟩ (Mem.new n)]) (λw hi hin=>N8 ⟨bp,bt,bf,bg,bm,o,n,ow,W,pr.set o n⟩ (Mem.new n) A c l hll hlb w hin (λw' hk=>hA w' (hi.SC Zi hk))) ?_;refine Z_7 ?_;refine ZSn (λw hi=>H2 bm w (hB w hi.Sf)) ?_;rintro _ _ ⟨D,rfl,rfl⟩;refine fB ?_;refine ZSn (λw hi=>KO bm w) ?_;rintro _ _ ⟨bu,bb,rfl,rfl⟩;refine iT ?_;refine ZSe (λw hi=>Tg w) ?_;refine ZA ?_;refine ZO λb77=>?_
 refine cT 39 1 (cT 39 1 (Zw9 ?_ ?_))<;>intro hc13
 .refine Z_2 ?_;refine ZSn (λw hi=>Mg 32 ⟨by decide,by decide⟩ w) ?_;rintro _ _ ⟨be,E,⟨hE,hE0⟩,rfl,rfl⟩;refine Z_5 ?_;refine lY (enF be E) Zi (ZL ?_);refine fB ?_;exact bG (gsF ⟨b77,bu,bb,be,⟨bp,bt,bf,bg,bm,o,n,ow,W,pr.set o n⟩,D⟩ ⟨St.new,⟨none,0,none,0⟩,⟨none,0,none,0⟩,⟨(Mem.new n).fill 0 l l.length,eB⟩,d,some E⟩) Zj (xH (cs':=(gsF ⟨b77,bu,bb,be,⟨bp,bt,bf,bg,bm,o,n,ow,W,pr.set o n⟩,D⟩ ⟨St.new,⟨none,0,none,0⟩,⟨none,0,none,0⟩,⟨(Mem.new n).fill 0 l l.length,eB⟩,d,some E⟩)) (.inl rfl) Zu rfl rfl rfl ⟨⟨b77,bu,bb,be,⟨bp,bt,bf,bg,bm,o,n,ow,W,pr.set o n⟩,D⟩,⟨St.new,⟨none,0,none,0⟩,⟨none,0,none,0⟩,⟨(Mem.new n).fill 0 l l.length,eB⟩,d,some E⟩,HB _ _ rfl rfl rfl rfl rfl rfl rfl rfl rfl (show true=tr from hc13.symm) (λE' h=>by grind),rfl,rfl⟩)
 refine fB ?_;exact kt (bG (gsF ⟨b77,bu,bb,0,⟨bp,bt,bf,bg,bm,o,n,ow,W,pr.set o n⟩,D⟩ ⟨St.new,⟨none,0,none,0⟩,⟨none,0,none,0⟩,⟨(Mem.new n).fill 0 l l.length,eB⟩,d,none⟩) Zj (xH (cs':=(gsF ⟨b77,bu,bb,0,⟨bp,bt,bf,bg,bm,o,n,ow,W,pr.set o n⟩,D⟩ ⟨St.new,⟨none,0,none,0⟩,⟨none,0,none,0⟩,⟨(Mem.new n).fill 0 l l.length,eB⟩,d,none⟩)) (.inl rfl) Zu rfl rfl rfl ⟨⟨b77,bu,bb,0,⟨bp,bt,bf,bg,bm,o,n,ow,W,pr.set o n⟩,D⟩,⟨St.new,⟨none,0,none,0⟩,⟨none,0,none,0⟩,⟨(Mem.new n).fill 0 l l.length,eB⟩,d,none⟩,HB _ _ rfl rfl rfl rfl rfl rfl rfl rfl rfl (show false=tr from hc13.symm) (λE' h=>by cases h),rfl,rfl⟩))
theorem Ci(H:sG)(G:Gst)(w:World)(h:(Aa H G false).ok w)(h2:pY w G.s G.X.Ad G.X.Ar G.X.cd G.X.cr):Ctr prog 46 [.p H.bg] w [] (QQ G.s):=by
 refine Zfs func46 ntmps46 ?_;refine Z_2 ?_;refine ZN λb2=>?_;refine Z_7 ?_;refine dK (bP (vs:=G.s.cells (.slice G.X.Ad G.s.d.length G.X.cd) (.slice G.X.Ar G.s.r.length G.X.cr)) Zrf Zrf Zv0) (tZ (o:=6) h rfl) rfl (ZSn (λw hi=>mz G.s G.X.Ad G.X.Ar G.X.cd G.X.cr w (h2.RU hi)) ?_);rintro _ _ ⟨A1,c1,A2,c2,rfl,rfl⟩;refine mD ?_;exact pR (cs':=[slD G.s A1 c1,slR G.s A2 c2]) (.inl rfl) Zu rfl rfl Zh Zrf Zrf ⟨A1,c1,A2,c2,rfl,rfl⟩
theorem PN(be bu bb:Nat)(L:eA)(hn:L.n<=1000000)(D:rp)(Y:nS)(s:St)(Ad Ar:Option Addr)(cd cr:Nat)(U:Mmu)(d:Dev)(hG:GOk L.n s U d)(m:Int)(hm0: -9223372036854775808<=m)(hm:m<=1000000)(ho:d.out.length+8*m.toNat+8<=1000000000)(E:EnX)(hE:oG E)(w:World)(hi:Inv w (bD (eoF be bu bb L D Y U d E)) (eoF be bu bb L D Y U d E) w)
  (h:∀w',cY (bD (eoF be bu bb L D Y U d E)) w w'->pY w' s Ad Ar cd cr) (ht:∀w',cY (bD (eoF be bu bb L D Y U d E)) w w'->fE w'):
  Ctr prog 71 [.p be,sv s Ad cd Ar cr,.p bu,.p D.bs,.i m] w (eoF be bu bb L D Y U d E)
   (λv cs=>∃X' Y' E',oG E'/\v=sv (fZ L.n m s U d).1 X'.Ad X'.cd X'.Ar X'.cr/\cs=egF be bu bb L D (fZ L.n m s U d).1 X' Y' (fZ L.n m s U d).2.1 (fZ L.n m s U d).2.2 E'):=by
 refine(PM be bu bb L hn D Y s Ad Ar cd cr U d hG m hm0 hm ho E hE w hi h ht).mono ?_
 grind [DD,hE.eg]
theorem LM(H:sG)(G:Gst)(hn:H.L.n<=1000000)(hG:G.ok H.L.n)(m:Int)(hm0: -9223372036854775808<=m)(hm:m<=1000000)(ho:G.d.out.length+8*m.toNat+8<=1000000000)(w:World)(hi:Inv w (bD (gsF H G)) (gsF H G) w)(ht:∀w',cY (bD (gsF H G)) w w'->fE w'):
  Ctr prog 44 [.p H.bg,.i m] w (gsF H G)
   (λv cs=>∃G',(G'.ok H.L.n/\(G'.s,G'.U,G'.d)=fZ H.L.n m G.s G.U G.d/\G'.o.isSome=G.o.isSome)/\v= .i (IntKind.i64.wrap (IntKind.u64.wrap ((fZ H.L.n m G.s G.U G.d).1.count - G.s.count)))/\cs=gsF H G'):=by
 obtain⟨s,X,Y,U,d,o⟩:=G;have hg:=hG.g;dsimp only at hg ho|-;obtain⟨hd16,hr16, -⟩:=St.fits hg.right;have hg2:GOk H.L.n (fZ H.L.n m s U d).1 (fZ H.L.n m s U d).2.1 (fZ H.L.n m s U d).2.2:=(DD hn m hg (gL.fresh (room:=8) ⟨by decide,by decide⟩)).2.2.1;cases o with
 |none=>
  have HR:=run_ok H.bu H.bb H.L H.D Y s X.Ad X.Ar X.cd X.cr U d hg m hm0 hm ho;obtain⟨⟨s2,U2,d2⟩,hq⟩:=Zgn (fZ H.L.n m s U d);rw[hq]at HR hg2|-;dsimp only at hg2;refine Zfn func44 ntmps44 hi ?_;refine fB ?_;refine ZFa 22 ?_;refine ji ?_;refine kX ?_;refine tI ?_;refine bL ⟨λj=>List.elem j [14,17],[]⟩ Zk (kQ ?_);refine ZFe 3 6 ?_;refine Zy5 4 rfl (bP (vs:=s.cells (.slice X.Ad s.d.length X.cd) (.slice X.Ar s.r.length X.cr)) Zrf Zrf Zv0) (cO (o:=6) Zh rfl) ?_;refine mE ?_;refine ZFe 7 4 ?_;refine ZG 8 ?_;refine ZE 9 ?_;refine ZE 10 ?_;refine ZFe 11 0 ?_;refine ZG 12 ?_;refine ZE 13 ?_;refine cn 14 Zk (pL (ubF H.bu H.bb H.L H.D Y U d) (λw hi hin=>HR w hin (λw' hk=>hi.S3 Zi (show Has _ (slD s X.Ad X.cd)from Zh) (show Has _ (slR s X.Ar X.cr)from Zh) Wq1 Wq1 hk) (λw' hk=>ht w' (hi.SC Zi hk))) ?_);rintro _ _ ⟨X2,Y2,rfl,rfl⟩;refine ZE 15 ?_;refine ZFe 16 6 ?_;refine cn 17 Zk (fO rfl rfl (gC (ys:=Cp H ⟨s2,X2,Y2,U2,d2,none⟩ false) (n:=16) (vs:=s2.cells (.slice X2.Ad s2.d.length X2.cd) (.slice X2.Ar s2.r.length X2.cr)) rfl Zrf rfl rfl (mO rfl) Za rfl (Nat.le_of_ble_eq_true rfl)) ZJ ?_);rintro _ _ ⟨rfl,rfl⟩;refine eQ ?_;refine Z_9 ?_;refine Zy (gr Zv0 Zv0 rfl) ?_;refine wO ?_;refine Z_4 ?_;refine bG (gsF H ⟨s2,X2,Y2,U2,d2,none⟩) Zj (Zrb ((gsF H ⟨s2,X2,Y2,U2,d2,none⟩)) ?_);exact⟨⟨s2,X2,Y2,U2,d2,none⟩,⟨⟨hg2,λE h=>by cases h⟩,rfl,rfl⟩,rfl,rfl⟩
 |some E=>
  have hE:=hG.e E rfl;have HR:=PN H.be H.bu H.bb H.L hn H.D Y s X.Ad X.Ar X.cd X.cr U d hg m hm0 hm ho;obtain⟨⟨s2,U2,d2⟩,hq⟩:=Zgn (fZ H.L.n m s U d);rw[hq]at HR hg2|-;dsimp only at hg2;refine Zfn func44 ntmps44 hi ?_;refine fB ?_;refine ZFa 22 ?_;refine ji ?_;refine IB ?_;refine Jb (bs:=bD (enF H.be E)) (F:=λ_:Unit=>enF H.be E) (hb:=λ_=>rfl) (p:=λ_=>True) Zd (λ_ _=>?_);refine Z_3 ?_;refine oU ?_;refine Zs (bL ⟨λj=>List.elem j [9],[]⟩ Zk ?_);refine lU ?_;refine ZFe 2 5 ?_;refine oO ?_;refine ZFe 6 1 ?_;refine cn 7 Zk (lR ?_);refine cn 8 Zk (ZTn (λw hi=>rD H.L U.m w (hi.get (show Has _ (eG H.L U.m)from Zh))) ?_);rintro _ _ ⟨A3,c3,rfl,rfl⟩;refine cn 9 Zk (pL (enP H.be E A3 c3 (ii U.m.RQ 64)) (λw hi hin=>ym H.be E hE A3 c3 (ii U.m.RQ 64) w hin) ?_);rintro _ _ ⟨E2,rfl,hE2, -⟩;refine eQ ?_;refine Zt (bL ⟨λj=>List.elem j [18,21],[]⟩ Zk ?_);refine kQ ?_;refine ZFe 3 5 ?_;refine ZG 4 ?_;refine mE ?_;refine ZFe 7 6 ?_;refine Zy5 8 rfl (bP (vs:=s.cells (.slice X.Ad s.d.length X.cd) (.slice X.Ar s.r.length X.cr)) Zrf Zrf Zv0) (cO (o:=6) Zh rfl) ?_;refine ZE 9 ?_;refine ZE 10 ?_;refine ZFe 11 4 ?_;refine ZG 12 ?_;refine ZE 13 ?_;refine ZE 14 ?_;refine ZFe 15 0 ?_;refine ZG 16 ?_;refine ZE 17 ?_;refine cn 18 Zk (pL (eoF H.be H.bu H.bb H.L H.D Y U d E2) (λw hi hin=>HR E2 hE2 w hin (λw' hk=>hi.S3 Zi (show Has _ (slD s X.Ad X.cd)from Zh) (show Has _ (slR s X.Ar X.cr)from Zh) Wq1 Wq1 hk) (λw' hk=>ht w' (hi.SC Zi hk))) ?_);rintro _ _ ⟨X2,Y2,E3,hE3,rfl,rfl⟩;refine ZE 19 ?_;refine ZFe 20 6 ?_;refine cn 21 Zk (fO rfl rfl (gC (ys:=Cp H ⟨s2,X2,Y2,U2,d2,some E3⟩ false) (n:=16) (vs:=s2.cells (.slice X2.Ad s2.d.length X2.cd) (.slice X2.Ar s2.r.length X2.cr)) rfl Zrf rfl rfl (mO rfl) Za rfl (Nat.le_of_ble_eq_true rfl)) ZJ ?_);rintro _ _ ⟨rfl,rfl⟩;refine eQ ?_;refine Z_3 ?_;refine lY (enF H.be E3) Zi (Z_6 ?_);refine Zy (gr Zv0 Zv0 rfl) ?_;refine wO ?_;refine Z_4 ?_;refine bG (gsF H ⟨s2,X2,Y2,U2,d2,some E3⟩) Zj (Zrb ((gsF H ⟨s2,X2,Y2,U2,d2,some E3⟩)) ?_);exact⟨⟨s2,X2,Y2,U2,d2,some E3⟩,⟨⟨hg2,λE h=>by grind⟩,rfl,rfl⟩,rfl,rfl⟩
theorem LG{L:eA}{M:Mem}{k:C1}(h:dJ L M k):frOk (cI k.ow L.o 256):=by
 unfold cI;refine⟨λf hf=>?_,List.pairwise_map.2 ((List.filter_sublist.nodup List.nodup_range).imp λhne e=>hne (Int.ofNat.inj e))⟩;obtain⟨g,hg,rfl⟩:=bn.1 hf;rw[List.mem_filter,List.mem_range]at hg;have e:=eq_of_beq hg.2;rcases h.held g hg.1 with⟨-,h1⟩|⟨-, -,q,hq⟩|⟨h1,h2, -⟩
 .grind
 .have hql:q<L.n:=by have:=(aj.1 hq).1;rw[h.fr]at this;exact this
  rcases h.RY q hql with⟨h3, -⟩|⟨f',h3,h4,h5, -⟩
  .grind
  grind
 grind [eA.oth]
def Gst.view(G:Gst):Vw:=⟨G.s,G.U.m.data,G.d.out,G.d.inp,G.d.Sb,G.d.Sc,G.d.mask,false⟩
def mN:Vw:=⟨St.zero,[],[],[],[],0,0,true⟩
def uc:VAd:=⟨⟨none,0,none,0⟩,none,0,none,0,none,0,none,0⟩
abbrev vwC(v:Vw)(Y:VAd):List bC:=[slD v.s Y.X.Ad Y.X.cd,slR v.s Y.X.Ar Y.X.cr,b8 Y.Am Y.cm v.m,b8 Y.Ao Y.co v.o,b8 Y.Ai Y.ci v.i,b8 Y.Ak Y.ck v.k]
theorem Gst.ok.view{n:Nat}{G:Gst}(h:G.ok n)(ho:u8s G.d.out):G.view.wf:=⟨h.g.wf,h.g.u.m.db,ho,h.g.dv.wf.Tm,h.g.dv.wf.SU⟩
theorem vw_rd{w:World}{v:Vw}{Y:VAd}(h:∀c,c∈vwC v Y->c.ok w)(hd:v.s.d.length*4<=140737488355328)(hr:v.s.r.length*4<=140737488355328):xf w v Y:=
 ⟨⟨eL (h _ (.head _)),eL (h _ (.tail _ (.head _))),hd,hr⟩,eL (h _ (.tail _ (.tail _ (.head _)))),eL (h _ (.tail _ (.tail _ (.tail _ (.head _))))),eL (h _ (.tail _ (.tail _ (.tail _ (.tail _ (.head _)))))),eL (h _ (.tail _ (.tail _ (.tail _ (.tail _ (.tail _ (.head _)))))))⟩
theorem FY(H:sG)(G:Gst)(hG:G.ok H.L.n)(ho:G.d.out.length<=1000000000)(w:World)(h:∀c,c∈gsF H G->c.ok w):
  Ctr prog 39 [.p H.bg] w [] (λv cs=>∃Y,v=vv G.view Y/\cs=vwC G.view Y):=by
 obtain⟨s,X,Y,U,d,o⟩:=G;have hg:=hG.g;dsimp only at hg ho;obtain⟨hd16,hr16, -⟩:=St.fits hg.right;have hinp:=hg.dv.wf.inp;have hdk:=hg.dv.wf.Sb;have h0:(Aa H ⟨s,X,Y,U,d,o⟩ false).ok w:=h _ cH;have hst:pY w s X.Ad X.Ar X.cd X.cr:=⟨eL (h (slD s X.Ad X.cd) cH),eL (h (slR s X.Ar X.cr) cH),by omega,by omega⟩;have hm:(eG H.L U.m).ok w:=h _ cH;have hbu:(MH H.D H.L.bm d).ok w:=h _ cH;have hir:(pT H.D.bi d.Sc d.mask).ok w:=h _ cH;have hcn:(ww H.D.bcn Y.Ao d.out.length Y.co Y.Ai d.inp.length Y.ci).ok w:=h _ cH;have hou:(b8 Y.Ao Y.co d.out).ok w:=h _ cH;have hii:(b8 Y.Ai Y.ci d.inp).ok w:=h _ cH;have hdr:(I1 H.D.bdr H.D.bdk).ok w:=h _ cH;have hds:(Ik H.D.bdk d.Sb).ok w:=h _ cH;have HDr:∀w,(I1 H.D.bdr H.D.bdk).ok w->(Ik H.D.bdk d.Sb).ok w->Ctr prog 64 [.p H.D.bdr] w [] (λv cs=>∃A' c',v= .slice A' d.Sb.length c'/\cs=[sl .u8 5 A' d.Sb.length c' d.Sb]):=λw h h2=>by
  have e:=Mq H.D.bdr H.D.bdk d.Sb w h h2
  simp_all
 refine Zfs func39 ntmps39 ?_;refine Z_2 ?_;refine ZN λb2=>?_;refine Z_7 ?_;refine ZFa 22 ?_;refine MV ?_;refine tI ?_;refine Z_3 ?_;refine bL ⟨λj=>List.elem j [48],[]⟩ Zk (ZE 0 ?_);refine ZE 2 ?_;refine ZE 3 ?_;refine ZFe 4 1 ?_;refine Zy5 5 rfl (bF Zrf (Zv rfl)) (dc kP rfl) ?_;refine ZE 7 ?_;refine ZE 8 ?_;refine ZFe 9 0 ?_;refine Zy5 10 rfl (bF Zrf (Zv rfl)) (dc kP rfl) ?_;refine ZE 11 ?_;refine ZFe 12 2 ?_;refine Zy5 13 rfl (bF Zrf (Zv rfl)) (dc kP rfl) ?_;refine ZE 15 ?_;refine ZE 16 ?_;refine ZFe 17 0 ?_;refine Zy5 18 rfl (bF Zrf (Zv rfl)) (dc kP rfl) ?_;refine ZE 19 ?_;refine ZFe 20 2 ?_;refine Zy5 21 rfl (bF Zrf (Zv rfl)) (dc kP rfl) ?_;refine ZE 23 ?_;refine ZE 24 ?_;refine ZFe 25 0 ?_;refine Zy5 26 rfl (bF Zrf (Zv rfl)) (dc kP rfl) ?_;refine ZE 27 ?_;refine ZFe 28 3 ?_;refine Zy5 29 rfl (bF Zrf (Zv rfl)) (dc kP rfl) ?_;refine ZE 31 ?_;refine ZE 32 ?_;refine ZFe 33 0 ?_;refine Zy5 34 rfl (bF Zrf (Zv rfl)) (dc kP rfl) ?_;refine ZE 35 ?_;refine ZFe 36 0 ?_;refine Zy5 37 rfl (bF Zrf (Zv rfl)) (dc kP rfl) ?_;refine ZE 39 ?_;refine ZE 40 ?_;refine ZFe 41 0 ?_;refine Zy5 42 rfl (bF Zrf (Zv rfl)) (dc kP rfl) ?_;refine ZE 43 ?_;refine ZFe 44 0 ?_;refine Zy5 45 rfl (bF Zrf (Zv rfl)) (dc kP rfl) ?_;refine cn 1 Zk (ZTn (λw hi=>Ci H ⟨s,X,Y,U,d,o⟩ w (bC.old h0 hi) (hst.RU hi)) ?_);rintro _ _ ⟨A1,c1,A2,c2,rfl,rfl⟩;refine cn 6 Zk (ZTn (λw hi=>rall_ok H.L U.m w (bC.old hm hi)) ?_);rintro _ _ ⟨bx,rfl,rfl⟩;refine cn 14 Zk (ZTn (λw hi=>CF H.D.bcn Y.Ao Y.co d.out Y.Ai d.inp.length Y.ci ho w (bC.old hcn hi) (bC.old hou hi)) ?_);rintro _ _ ⟨A5,c5,rfl,rfl⟩;refine cn 22 Zk (ZTn (λw hi=>P4 H.D.bcn Y.Ao d.out.length Y.co Y.Ai Y.ci d.inp Wq1 w (bC.old hcn hi) (bC.old hii hi)) ?_);rintro _ _ ⟨A6,c6,rfl,rfl⟩;refine cn 30 Zk (ZTn (λw hi=>HDr w (bC.old hdr hi) (bC.old hds hi)) ?_);rintro _ _ ⟨A7,c7,rfl,rfl⟩;refine cn 38 Zk (ZTn (λw hi=>xM H.D.bi d.Sc d.mask w (bC.old hir hi)) ?_);rintro _ _ ⟨rfl,rfl⟩;refine cn 46 Zk (ZTn (λw hi=>KU H.D.bi d.Sc d.mask w (bC.old hir hi)) ?_);rintro _ _ ⟨rfl,rfl⟩;refine ZE 47 ?_;refine cn 48 Zk (ZR ?_);refine lv ?_;exact bG (row b2 (Vw.cells (Gst.view ⟨s,X,Y,U,d,o⟩) ⟨⟨A1,c1,A2,c2⟩,some ⟨bx,0,none⟩,U.m.data.length,A5,c5,A6,c6,A7,c7⟩) 45::vwC (Gst.view ⟨s,X,Y,U,d,o⟩) ⟨⟨A1,c1,A2,c2⟩,some ⟨bx,0,none⟩,U.m.data.length,A5,c5,A6,c6,A7,c7⟩) Zj (pR (cs':=(vwC (Gst.view ⟨s,X,Y,U,d,o⟩) ⟨⟨A1,c1,A2,c2⟩,some ⟨bx,0,none⟩,U.m.data.length,A5,c5,A6,c6,A7,c7⟩)) (.inl rfl) Zu rfl rfl Zh Zrf Zrf ⟨⟨⟨A1,c1,A2,c2⟩,some ⟨bx,0,none⟩,U.m.data.length,A5,c5,A6,c6,A7,c7⟩,rfl,rfl⟩)
theorem Ch(H:sG)(G:Gst)(w:World)(h0:(Aa H G true).ok w):Ctr prog 39 [.p H.bg] w [] (λv cs=>v=vv mN uc/\cs=[]):=by
 refine Zfs func39 ntmps39 ?_;refine Z_2 ?_;refine ZN λb2=>?_;refine Z_7 ?_;refine ZFa 22 ?_;refine MV ?_;refine Z_2 ?_;refine oU ?_;refine Z_3 ?_;refine iD ?_;exact M3
theorem vX(H:sG)(G:Gst)(w:World)(h0:(Aa H G true).ok w):Ctr prog 41 [.p H.bg] w [] (λv cs=>v= .slice none 0 0/\cs=[]):=by
 refine Zfs func41 ntmps41 ?_;refine fB ?_;refine ZFa 22 ?_;refine MV ?_;refine Z_2 ?_;refine oU ?_;refine Z_7 ?_;exact pM
theorem yh(H:sG)(G:Gst)(k:Bool)(w:World)(h0:(Aa H G k).ok w):Ctr prog 57 [.p H.bg] w [] (λv cs=>v= .bool k/\cs=[]):=by
 refine Zfs func57 ntmps57 ?_;refine Z_9 ?_;refine ZFa 22 ?_;refine MV ?_;exact mF
theorem PC(H:sG)(G:Gst)(ho4:H.L.o<4)(hl:H.L.gw.length=256)(hno:∀x,x∈H.L.gw->x≠(H.L.o:Int))(w:World)(hi:Inv w (bD (gsF H G)) (gsF H G) w):
  Ctr prog 61 [.p H.bg] w (gsF H G) (λ_ cs=>∃B,(dg B H.L.gw (H.L.gp.set H.L.o (-1))/\∀f,f<256->H.L.oth f=true->∀j,j<64->B[f*64+j]? =H.L.gB[f*64+j]?)/\cs=[Aa H G true,cV H.L.bp B H.L.gw (H.L.gp.set H.L.o (-1))]):=by
 refine Zfn func61 ntmps61 hi ?_;refine Z_5 ?_;refine ZFa 22 ?_;refine ji ?_;refine Z_6 ?_;refine ZFa 22 ?_;refine eE (iL Zrf rfl rfl rfl Za (Nat.le_of_ble_eq_true rfl)) ?_;rintro _ _ ⟨rfl,rfl⟩;rw[show(Cp H G false).set 22 (.bool true)=Cp H G true from rfl];refine Z_8 ?_;refine dz ([eG H.L G.U.m]) (λw hi hin=>Ke H.L G.U.m hl hno w hin) ?_;rintro _ _ ⟨B,⟨e1,e2⟩,rfl⟩;refine Z_2 ?_;refine bL ⟨λj=>List.elem j [8],[]⟩ Zk (lU ?_);refine ZFe 2 2 ?_;refine oO ?_;refine ZFe 6 3 ?_;refine ZG 7 ?_;refine cn 8 Zk (pL ([cV H.L.bp B H.L.gw H.L.gp]) (λw hi hin=>OA H.L.bp B H.L.gw H.L.gp e1 H.L.o ho4 hno w hin) ?_);rintro _ _ ⟨rfl,rfl⟩;refine eQ ?_;exact bG [Aa H G true,cV H.L.bp B H.L.gw (H.L.gp.set H.L.o (-1))] Zj (iY (cs':=[Aa H G true,cV H.L.bp B H.L.gw (H.L.gp.set H.L.o (-1))]) (.inr rfl) Zu rfl ⟨B,⟨⟨e1.b,e1.ow,by rw[List.length_set];exact e1.pr⟩,e2⟩,rfl⟩)
structure IUg where
 bg:Nat
 K:RMLoc
 bx:Nat
 by_:Nat
 bd:Nat
theorem Kp:dg (List.replicate 16384 0) (List.replicate 256 (-1)) (List.replicate 4 (-1)):=⟨aE,aE,aE⟩
theorem free0:nE (List.replicate 256 (-1)) 256=240:=by decide+kernel
theorem PB(bp o n:Nat)(W:List Int)(hW:W.length=16384)(ho:o<4)(hn0:1<=n)(hn:n<=64)(A B:Option Addr)(c e:Nat)(l k:List Int)(hll:l.length<=n*64)(hlb:u8s l)(hkl:k.length<=1024)(hkb:u8s k)(tr:Bool)(w:World)(hi:Inv w (bD [cV bp W (List.replicate 256 (-1)) (List.replicate 4 (-1))]) [cV bp W (List.replicate 256 (-1)) (List.replicate 4 (-1))] w)
  (hA:∀w',cY (bD [cV bp W (List.replicate 256 (-1)) (List.replicate 4 (-1))]) w w'->Rd w' .u8 A l.length c l) (hB:∀w',cY (bD [cV bp W (List.replicate 256 (-1)) (List.replicate 4 (-1))]) w w'->Rd w' .u8 B k.length e k):
  Ctr prog 36 [.p bp,.i o,imgV A c l B e k n,.bool tr] w [cV bp W (List.replicate 256 (-1)) (List.replicate 4 (-1))] (λv cs=>∃H G,Born bp o n W (List.replicate 256 (-1)) (List.replicate 4 (-1)) l k tr H G/\v= .tuple #[.p H.bg,.i 0]/\cs=gsF H G):=
 LQ bp W (List.replicate 256 (-1)) (List.replicate 4 (-1)) ⟨hW,aE,aE⟩ o n ho hn0 hn bR (by rw[show fY (List.replicate 4 (-1)) 4=0 from rfl];omega) (λx hx=>by grind) (λx hx=>by grind) (by rw[free0];omega) A B c e l k hll hlb hkl hkb tr w hi hA hB
theorem KG(bp:Nat)(o n:Int)(h:4<=o\/n<1\/64<n)(w:World):Ctr prog 50 [.p bp,.i o,.i n] w [] (λv cs=>v= .tuple #[.pointer none,.i 1]/\cs=[]):=by
 refine Zfs func50 ntmps50 ?_;refine kX ?_;refine Z_9 ?_;refine bW rfl ((by rcases h with h|h|h;(rw[ay h,Bool.or_true,Bool.true_or,Bool.true_or]);(rw[ay h,Bool.or_true,Bool.true_or]);(rw[ay h,Bool.or_true]))) (Z_8 ?_);exact lQ
theorem gnoL_ok(bp:Nat)(o n:Int)(A B:Option Addr)(c e na nb:Nat)(ha:na<=4611686018427387904)(h:(if 0>n then 0 else n)<(((na+63)/64:Nat):Int)\/1024<nb)(tr:Bool)(w:World):
  Ctr prog 36 [.p bp,.i o,.agg #[.slice A na c,.slice B nb e,.i n],.bool tr] w [] (λv cs=>v= .tuple #[.pointer none,.i 3]/\cs=[]):=by
 refine Zfs func36 ntmps36 ?_;refine Z_2 ?_;refine ZO λb6=>?_;refine kM ?_;refine iU ?_;refine Zs (bL ⟨λj=>List.elem j [],[]⟩ Zk ?_);refine ZFe 0 0 ?_;refine ZG 1 ?_;refine QJ ?_;refine ZTn (λw hi=>qO na ha w) ?_;rintro _ _ ⟨rfl,rfl⟩;refine Qs ?_;refine Zt (bW rfl ((by rcases h with h|h;(rw[ay h,Bool.true_or]);(rw[ay (show(1024:Int)<(nb:Int) by omega),Bool.or_true]))) ?_);refine Z_9 ?_;exact lQ
theorem gnoB_ok(bp:Nat)(o n:Int)(A B:Option Addr)(c e na nb:Nat)(ha:na<=4611686018427387904)(h0:¬(if 0>n then 0 else n)<(((na+63)/64:Nat):Int))(hb:¬1024<nb)(h:n<1\/64<n)(tr:Bool)(w:World):
  Ctr prog 36 [.p bp,.i o,.agg #[.slice A na c,.slice B nb e,.i n],.bool tr] w [] (λv cs=>v= .tuple #[.pointer none,.i 1]/\cs=[]):=by
 refine Zfs func36 ntmps36 ?_;refine Z_2 ?_;refine ZO λb6=>?_;refine kM ?_;refine iU ?_;refine Zs (bL ⟨λj=>List.elem j [],[]⟩ Zk ?_);refine ZFe 0 0 ?_;refine ZG 1 ?_;refine QJ ?_;refine ZTn (λw hi=>qO na ha w) ?_;rintro _ _ ⟨rfl,rfl⟩;refine Qs ?_;refine Zt (cJ rfl ((by rw[ar h0,ar (show¬(1024:Int)<(nb:Int) by omega)];rfl)) ?_);refine Z_9 ?_;refine ZSe (λw hi=>KG bp o n (.inr h) w) ?_;refine iT ?_;refine oU ?_;refine Z_9 ?_;exact lQ
theorem Hf(bp:Nat)(B ow pr:List Int)(hl:dg B ow pr)(o n:Nat)(ho:o<4)(hn:n<=64)(h1:pr[o]? =some (-1))(hs:240<(n:Int)+fY pr 4)(hb:∀x,x∈pr->x<=1000)(w:World)(h:(cV bp B ow pr).ok w):
  Ctr prog 77 [.p bp,.i o,.i n] w [] (λv cs=>v= .i 13/\cs=[]):=by
 have hpl:=hl.pr;have hbd:∀k,k<=4->0<=fY pr k/\fY pr k<=1000*(k:Int):=by
  intro k
  induction k with
  |zero=>intro _;exact⟨by simp[fY],by simp[fY]⟩
  |succ k ih=>
   intro hk;have h1:=ih Wq1;have hkl:k<pr.length:=by omega
   have h2:=hb _ (List.getElem_mem hkl);rw[nV hkl];split<;>omega
 refine Zfs func77 ntmps77 ?_;refine fB ?_;refine Wq85 ?_;refine fD ?_;refine cJ rfl ((by rw[ar (show¬(n:Int)<0 by omega),ar (show¬(64:Int)<n by omega)];rfl)) (Z_5 ?_);refine QE ?_;refine dK (bF Zrf Zv0) (dc h (DK hl h1)) rfl (Z_4 ?_);refine iU ?_;refine fD ?_;have e0:fY pr 0=0:=rfl;refine Z_2 ?_;refine ZFa 16640 ?_;refine dK (bP (vs:=ints .i64 pr) Zrf (λw=>by rw[de,hpl];rfl) (Zv rfl)) (tZ (o:=16640) h (Fu hl)) rfl (Z_4 ?_);refine bN (λk:Nat=>[(0,.p bp),(1,.i o),(2,.i n),(7,.i (n+fY pr k)),(34,.agg (ints .i64 pr).toArray),(35,.i (k:Int))]) (λ_=>[]) (λk=>k<=4) (λk=>4 - k) (0) ?_ ?_ ?_ ?_
 .exact au _
 .exact Zwk
 .exact Zu
 rintro k hk;refine Zw6 ?_ ?_<;>intro hc7
 .simp only[ae]at hc7;have hkl:k<pr.length:=by omega
  have hbk:=hbd k hk;have hbk2:=hb _ (List.getElem_mem hkl);refine Z_6 ?_;refine Zy (yJ (j:=k) rfl Zrf Zrf (Zv rfl) (Zv rfl) Wq2 Wq2 (λ_=>mm hkl)) ?_;refine Z_6 ?_;refine Zy (wQ Zv0 Zv0 rfl) ?_;refine dK (ef (nH rfl) (nH rfl) (show IntKind.i64.wrap _=n+fY pr (k+1) by rw[nV hkl];refine(IntWalk.i64_in _ ⟨?_,?_⟩).trans Wq1<;>split<;>omega)) (λ_ _=>trivial) rfl ?_;refine gv ?_;refine dM (k+1) ?_ ?_ ?_
  .exact wH
  .exact Zwk
  exact Zu
 simp only[ac]at hc7;obtain rfl:k=4:=by omega
 refine fD ?_;refine bW rfl ((ay Wq1)) (Z_7 ?_);exact pM
theorem gnoF_ok(bp:Nat)(W ow pr:List Int)(hl:dg W ow pr)(o n:Nat)(ho:o<4)(hn0:1<=n)(hn:n<=64)(h1:pr[o]? =some (-1))(hs:240<(n:Int)+fY pr 4)(hb:∀x,x∈pr->x<=1000)(A B:Option Addr)(c e na nb:Nat)(ha:na<=n*64)(hnb:nb<=1024)(tr:Bool)(w:World)(h:(cV bp W ow pr).ok w):
  Ctr prog 36 [.p bp,.i o,.agg #[.slice A na c,.slice B nb e,.i n],.bool tr] w [] (λv cs=>v= .tuple #[.pointer none,.i 13]/\cs=[]):=by
 have HN:∀w,(cV bp W ow pr).ok w->Ctr prog 50 [.p bp,.i o,.i n] w [] (λv cs=>v= .tuple #[.pointer none,.i 13]/\cs=[]):=λw h=>by
  refine Zfs func50 ntmps50 ?_;refine kX ?_;refine Z_9 ?_;refine cJ rfl ((by rw[ar (show¬(o:Int)<0 by omega),ar (show¬(4:Int)<=o by omega),ar (show¬(n:Int)<1 by omega),ar (show¬(64:Int)<n by omega)];rfl)) (Z_8 ?_);refine ZSe (λw hi=>Hf bp W ow pr hl o n ho hn h1 hs hb w (bC.old h hi)) ?_;refine Z_9 ?_;refine oU ?_;refine Z_9 ?_;exact lQ
 refine Zfs func36 ntmps36 ?_;refine Z_2 ?_;refine ZO λb6=>?_;refine kM ?_;refine iU ?_;refine Zs (bL ⟨λj=>List.elem j [],[]⟩ Zk ?_);refine ZFe 0 0 ?_;refine ZG 1 ?_;refine QJ ?_;refine ZTn (λw hi=>qO na Wq1 w) ?_;rintro _ _ ⟨rfl,rfl⟩;refine Qs ?_;refine Zt (cJ rfl ((by rw[if_neg (show¬(0:Int)>(n:Int) by omega),ar (show¬(n:Int)<(((na+63)/64:Nat):Int) by omega),ar (show¬(1024:Int)<(nb:Int) by omega)];rfl)) ?_);refine Z_9 ?_;refine ZSe (λw hi=>HN w (bC.old h hi)) ?_;refine iT ?_;refine oU ?_;refine Z_9 ?_;exact lQ
def Dev.said(d:Dev):Prop:=u8s d.out
section
variable {n:Nat} {op nn:Int} {s:St} {U:Mmu} {d:Dev} {M:Mem} {R:Run}
theorem Aj(h:d.said)(k:Int)(v:Nat):(cF n M d k v).2.2.said:=by
 have ha:u8s (d.out++[IntKind.u8.wrap (v:Int)]):=λx hx=>by
  rcases aF.1 hx with q|q
  .exact h x q
  rw[aB.1 q];exact uA _
 unfold cF fp
 repeat (first|exact h|exact ha|refine bI (λq:Bool×Mem×Dev=>q.2.2.said) ?_ ?_)
theorem CB(h:d.said)(k count:Int):(ge d k count).2.said:=by
 unfold ge
 repeat (first|exact h|refine bI (λq:(Int×Bool)×Dev=>q.2.said) ?_ ?_)
theorem K7(h:d.said)(va:Nat):(jO n R U d va).d.said:=by
 unfold jO;refine bI (λm:fM=>m.d.said) h ?_;exact bI (λm:fM=>m.d.said) (CB h _ _) h
theorem JP(h:d.said)(va v:Nat):(jL n R U d va v).d.said:=by
 unfold jL;refine bI (λm:fM=>m.d.said) h ?_;exact bI (λm:fM=>m.d.said) (Aj h _ _) h
theorem Hk{m:fM}(h:m.d.said):(dD n op nn m).d.said:=by
 unfold dD;refine bI (λm:fM=>m.d.said) (K7 h _) ?_;refine bI (λm:fM=>m.d.said) (JP h _ _) ?_
 repeat (first|exact h|refine bI (λm:fM=>m.d.said) h ?_)
theorem OU(h:d.said):(iB n s op nn U d).d.said:=by
 unfold iB;cases dC op nn (eP s op)with
 |some R=>exact h
 |none=>exact bI (λm:fM=>m.d.said) h (Hk h)
theorem Mr(h:d.said):(pG n s op nn U d).2.2.said:=by
 unfold pG;refine bI (λq:Res×Mmu×Dev=>q.2.2.said) h ?_;exact bI (λq:Res×Mmu×Dev=>q.2.2.said) h (OU h)
theorem Bm(h:d.said)(c:Int):(d.tick c).said:=by
 unfold Dev.tick;exact bI Dev.said h h
theorem yv(h:d.said):(dy n s U d).d.said:=by
 unfold dy;refine bI (λb:C8=>b.d.said) h ?_;unfold mB;exact bI (λb:C8=>b.d.said) (Bm h _) (Bm h _)
theorem BG(RY:Nat):∀(k:Nat) {s:St} (p:Nat) {U:Mmu} {d:Dev},d.said->(dX n RY k s p U d).2.2.said
 |0,s,p,U,d,h=>h
 |k+1,s,p,U,d,h=>by
  rw[dX];cases df n U.m p with
  |none=>exact h
  |some q=>
   obtain⟨⟨op,nn⟩,sz⟩:=q;exact bI (λq:St×Mmu×Dev=>q.2.2.said) (BG RY k _ (Mr h)) (Mr h)
theorem Iw(h:d.said):(dw n s U d).2.2.said:=by
 unfold dw;exact bI (λq:St×Mmu×Dev=>q.2.2.said) (BG _ _ _ (yv h)) (yv h)
theorem xE{m f:Int}:∀(k:Nat) {q:St×Mmu×Dev},q.2.2.said->(mb n m f k q).2.2.said
 |0,q,h=>h
 |k+1,q,h=>by
  unfold mb;exact bI (λq:St×Mmu×Dev=>q.2.2.said) (xE k (Iw h)) h
theorem N5(m:Int)(h:d.said):(fZ n m s U d).2.2.said:=xE _ h
theorem Lr(k:List Int):(Dev.init k).said:=λx hx=>by cases hx
end
theorem LR(H:sG)(G:Gst)(h64:G.d.inp.length<=64)(A:Option Addr)(c:Nat)(l:List Int)(hl:l.length<=1000)(w:World)(hi:Inv w (bD (gsF H G)) (gsF H G) w)(h:∀w',cY (bD (gsF H G)) w w'->Rd w' .u8 A l.length c l):
  Ctr prog 58 [.p H.bg,.slice A l.length c] w (gsF H G)
   (λv cs=>∃Y',v= .i (G.d.SD l:Int)/\cs=gsF H ⟨G.s,G.X,Y',G.U,G.d.Sx l,G.o⟩):=by
 obtain⟨s,X,Y,U,d,o⟩:=G;dsimp only at h64|-;have HB:=EA H.D H.L.bm Y d h64 A c l hl;obtain⟨d2,hd⟩:=Zgn (d.Sx l);obtain⟨N,hN⟩:=Zgn (d.SD l);rw[hd,hN]at HB|-;refine Zfn func58 ntmps58 hi ?_;refine fB ?_;refine ZFa 22 ?_;refine ji ?_;refine Z_9 ?_;refine dz (kO H.D H.L.bm Y d) (λw hi hin=>HB w hin (λw' hk=>h w' (hi.SC Zi hk))) ?_;rintro _ _ ⟨Y2,rfl,rfl⟩;refine Z_4 ?_;refine bG (gsF H ⟨s,X,Y2,U,d2,o⟩) Zj (Zrb ((gsF H ⟨s,X,Y2,U,d2,o⟩)) ?_);exact⟨Y2,rfl,rfl⟩
theorem Ctr.via{P:Program}{f:FuncId}{args:List Value}{w:World}{cs0 cin rest:List bC}{K1 K:Value->List bC->Prop}(h1:Inv w (bD cs0) (cin++rest) w)(hc:Inv w (bD cin) cin w->Ctr P f args w cin K1)
  (hk:∀v cout w',K1 v cout->Inv w (bD cs0) (cout++rest) w'->∃cs',K v cs'/\Inv w (bD cs0) cs' w'):Ctr P f args w cs0 K:=by
 have hi:Inv w (bD cin) cin w:=⟨cY.refl _ _,(List.nodup_append.1 (by have:=h1.nodup;rw[e8]at this;exact this)).1,λc hc=>h1.ok c (aF.2 (.inl hc)),λb hb=> .inl hb⟩;refine Calls.mono (hc hi) λe w' hq=>?_
 obtain⟨v,cout,rfl,hk1,hi2⟩:=hq;have h3:Inv w (bD cs0) (cout++rest) w':=h1.step (cin:=cin) (rest:=rest) (cout:=cout) (.refl _) (.refl _) hi2.Sf hi2
 grind
theorem Kx{α:Type}(a:α)(A B R:List α):(a::(A++B)++R).Perm (a::B++(A++R)):=by
 rw[aJ,aJ,aw];refine List.Perm.cons _ ?_;rw[<-aw,<-aw];exact List.perm_append_comm.append_right _
theorem jx{α β:Type}(f:α->List β):∀{l:List α} {i:Nat} {x:α},l[i]? =some x->(l.flatMap f).Perm (f x++(l.eraseIdx i).flatMap f)
 |y::l,0,x,h=>by
  simp_all
 |y::l,i+1,x,h=>by
  have ih:=jx f (l:=l) (i:=i) (x:=x) h;rw[List.flatMap_cons,List.eraseIdx_cons_succ,List.flatMap_cons];refine(ih.append_left (f y)).trans ?_;rw[<-aw,<-aw];exact List.perm_append_comm.append_right _
theorem v8{α β:Type}(f:α->List β){l:List α}{i:Nat}{x y:α}(h:l[i]? =some x):((l.set i y).flatMap f).Perm (f y++(l.eraseIdx i).flatMap f):=by
 grind [jx,List.getElem?_eq_some_iff,List.eraseIdx_set_eq,List.getElem?_set_self]
structure MG where
 H:sG
 G:Gst
 fr:List Int
 gd:List Bool
 dead:Bool
def sG.on(H:sG)(P:oW):sG:=⟨H.bg,H.bu,H.bb,H.be,H.L.on P,H.D⟩
abbrev gxF(H:sG)(G:Gst):List bC:=Aa H G false::slD G.s G.X.Ad G.X.cd::slR G.s G.X.Ar G.X.cr::IX H.bu H.L.bm H.bb::uS H.bb G.U.t::(kO H.D H.L.bm G.Y G.d++[bQ (enO H.be G.o)])
abbrev tmF(H:sG)(G:Gst)(fr:List Int)(gd:List Bool):List bC:=[iy H.L.bt H.L.bp H.L.o H.L.bf H.L.bg H.L.n,frC H.L.bf H.L.n fr,gdC H.L.bg H.L.n gd,sQ H.L G.U.m.RQ]
def MG.cs(g:MG):List bC:=bif g.dead then[Aa g.H g.G true]else gxF g.H g.G++tmF g.H g.G g.fr g.gd
abbrev ia(bp:Nat)(P:oW):bC:=cV bp P.B P.ow P.pr
theorem LL(H:sG)(G:Gst):(gsF H G).Perm (eG H.L G.U.m::gxF H G):=by
 show List.Perm (Aa H G false::slD G.s G.X.Ad G.X.cd::slR G.s G.X.Ar G.X.cr::IX H.bu H.L.bm H.bb::eG H.L G.U.m::uS H.bb G.U.t::(kO H.D H.L.bm G.Y G.d++[bQ (enO H.be G.o)])) _;refine((((List.Perm.swap _ _ _).cons _).cons _).cons _).trans ?_;refine(((List.Perm.swap _ _ _).cons _).cons _).trans ?_;refine((List.Perm.swap _ _ _).cons _).trans ?_;exact List.Perm.swap _ _ _
theorem DZ{w0 w:World}{S:List Nat}{P:oW}{H:sG}{G:Gst}{fr:List Int}{gd:List Bool}{rest:List bC}(hm:sE H.L P G.U.m fr gd)(h:Inv w0 S (ia H.L.bp P::(gxF H G++tmF H G fr gd)++rest) w):Inv w0 S (gsF (H.on P) G++rest) w:=by
 have h1:Inv w0 S (D2 (H.L.on P) G.U.m.RQ ⟨P.B,P.ow,P.pr,fr,gd⟩++(gxF (H.on P) G++rest)) w:=by
  refine h.perm ?_;show List.Perm (ia H.L.bp P::(gxF H G++tmF H G fr gd)++rest) (ia H.L.bp P::tmF H G fr gd++(gxF H G++rest));exact Kx _ _ _ _
 have h2:=Inv.Sy (bs:=[H.L.bp,H.L.bt,H.L.bf,H.L.bg,H.L.bm]) (F:=D2 (H.L.on P) G.U.m.RQ) (hb:=λ_=>rfl) (p:=dJ (H.L.on P) G.U.m) ⟨P.B,P.ow,P.pr,fr,gd⟩ hm h1;exact h2.perm ((LL (H.on P) G).symm.append_right rest)
theorem Rg{w0 w:World}{S:List Nat}{P:oW}{H:sG}{G:Gst}{rest:List bC}(h:Inv w0 S (gsF (H.on P) G++rest) w):∃k,dJ (H.L.on P) G.U.m k/\Inv w0 S (ia H.L.bp ⟨k.B,k.ow,k.pr⟩::(gxF H G++tmF H G k.fr k.gd)++rest) w:=by
 have h1:=h.perm ((LL (H.on P) G).append_right rest);obtain⟨k,hk,h2⟩:=h1.SX;refine⟨k,hk,h2.perm ?_⟩;show List.Perm (ia H.L.bp ⟨k.B,k.ow,k.pr⟩::tmF H G k.fr k.gd++(gxF H G++rest)) (ia H.L.bp ⟨k.B,k.ow,k.pr⟩::(gxF H G++tmF H G k.fr k.gd)++rest)
 grind [Kx]
structure lx(bp:Nat)(P:oW)(gs:List MG):Prop where
 SL:lT P
 four:gs.length<=4
 rest:∀o:Nat,gs.length<=o->o<4->P.pr[o]? =some (-1)
 at_:∀(i:Nat) (g:MG),gs[i]? =some g->g.H.L.o=i/\g.H.L.bp=bp/\(g.dead=false->sE g.H.L P g.G.U.m g.fr g.gd/\g.G.ok g.H.L.n)/\(g.dead=true->P.pr[i]? =some (-1))
abbrev iE(bp:Nat)(P:oW)(gs:List MG):List bC:=[ia bp P,bQ (gs.flatMap MG.cs)]
theorem uf{bp:Nat}{P:oW}{gs:List MG}{i:Nat}{g:MG}{f:FuncId}{args:List Value}{w:World}{K1:Value->List bC->Prop}{K:Value->Gst->Prop}(hM:lx bp P gs)(hg:gs[i]? =some g)(hd:g.dead=false)
  (hi:Inv w (bD (iE bp P gs)) (iE bp P gs) w) (hc:(∀w',cY (bD (gsF (g.H.on P) g.G)) w w'->cY (bD (iE bp P gs)) w w')->Inv w (bD (gsF (g.H.on P) g.G)) (gsF (g.H.on P) g.G) w->Ctr prog f args w (gsF (g.H.on P) g.G) K1)
  (hk:∀v cs,K1 v cs->∃G',K v G'/\G'.ok g.H.L.n/\cs=gsF (g.H.on P) G'):
  Ctr prog f args w (iE bp P gs) (λv cs=>∃P' g',(K v g'.G/\g'.H=g.H/\g'.dead=false/\lx bp P' (gs.set i g'))/\cs=iE bp P' (gs.set i g')):=by
 obtain⟨ho,hbp,hal, -⟩:=hM.at_ i g hg;obtain⟨hm,hG⟩:=hal hd;have hcs:g.cs=gxF g.H g.G++tmF g.H g.G g.fr g.gd:=by unfold MG.cs;rw[hd];rfl
 have h1:Inv w (bD (iE bp P gs)) (ia g.H.L.bp P::(gxF g.H g.G++tmF g.H g.G g.fr g.gd)++(gs.eraseIdx i).flatMap MG.cs) w:=by
  have h2:Inv w (bD (iE bp P gs)) (gs.flatMap MG.cs++[ia bp P]) w:=(hi.perm (List.Perm.swap _ _ _)).Sw;refine h2.perm (List.perm_append_comm.trans ?_);rw[hbp,aJ];refine List.Perm.cons _ ?_;rw[<-hcs];exact jx MG.cs hg
 have h2:=DZ hm h1;refine Ctr.via h2 (hc ?_) ?_
 .intro w' hk';exact h2.Ta (cin:=gsF (g.H.on P) g.G) (λc hc=>aF.2 (.inl hc)) hk'
 intro v cout w' hK1 h3;obtain⟨G',hK,hG',rfl⟩:=hk v cout hK1;obtain⟨k,hkk,h4⟩:=Rg h3;refine⟨_,⟨⟨k.B,k.ow,k.pr⟩,⟨g.H,G',k.fr,k.gd,false⟩,⟨hK,rfl,rfl,?_⟩,rfl⟩,?_⟩
 .refine⟨hM.SL.turn (hkk.turns hM.SL),by grind [hM.four],λo' h1 h2=>by rw[List.length_set]at h1;show k.pr[o']? =_;rw[show k.pr=P.pr from hkk.prs];exact hM.rest o' h1 h2,λj x hx=>?_⟩;by_cases hji:j=i
  .grind [sE.own,hM.SL]
  rw[List.getElem?_set_ne (Ne.symm hji)]at hx;obtain⟨a1,a2,a3,a4⟩:=hM.at_ j x hx;refine⟨a1,a2,λe=>?_,λe=>by show k.pr[j]? =_;rw[show k.pr=P.pr from hkk.prs];exact a4 e⟩;obtain⟨b1,b2⟩:=a3 e;exact⟨sE.other hM.SL (hkk.turns hM.SL) b1 Wq1,b2⟩
 have h5:Inv w (bD (iE bp P gs)) ((gs.set i ⟨g.H,G',k.fr,k.gd,false⟩).flatMap MG.cs++[ia bp ⟨k.B,k.ow,k.pr⟩]) w':=by
  refine h4.perm ((List.perm_append_comm.trans ?_).symm);rw[hbp,aJ];exact List.Perm.cons _ (v8 MG.cs (y:=⟨g.H,G',k.fr,k.gd,false⟩) hg)
 exact(Inv.Sy (F:=λ_:Unit=>(gs.set i ⟨g.H,G',k.fr,k.gd,false⟩).flatMap MG.cs) (hb:=λ_=>rfl) (p:=λ_=>True) () trivial h5).perm (List.Perm.swap _ _ _)
theorem DX{bp:Nat}{P:oW}{gs:List MG}{i:Nat}{g:MG}{w0 w:World}{S:List Nat}{cs rest:List bC}(hM:lx bp P gs)(hg:gs[i]? =some g)(hd:g.dead=false)(hi:Inv w0 S cs w)(hs:eJ (iE bp P gs) cs rest):∀c,c∈gsF (g.H.on P) g.G->c.ok w:=by
 obtain⟨ho,hbp,hal, -⟩:=hM.at_ i g hg;obtain⟨hm, -⟩:=hal hd;have hcs:g.cs=gxF g.H g.G++tmF g.H g.G g.fr g.gd:=by unfold MG.cs;rw[hd];rfl
 have h1:Inv w0 S (ia g.H.L.bp P::(gxF g.H g.G++tmF g.H g.G g.fr g.gd)++((gs.eraseIdx i).flatMap MG.cs++rest)) w:=by
  have h2:Inv w0 S (gs.flatMap MG.cs++(ia bp P::rest)) w:=((hi.perm hs.perm).perm (List.Perm.swap _ _ _)).Sw;refine h2.perm (List.perm_middle.trans ?_);rw[hbp,aJ];refine List.Perm.cons _ ?_;rw[<-hcs,<-aw];exact(jx MG.cs hg).append_right rest
 exact λc hc=>(DZ hm h1).ok c (aF.2 (.inl hc))
theorem ue{bp:Nat}{P:oW}{gs:List MG}{i:Nat}{g:MG}{w0 w:World}{S:List Nat}{cs rest:List bC}(hg:gs[i]? =some g)(hd:g.dead=true)(hi:Inv w0 S cs w)(hs:eJ (iE bp P gs) cs rest):(Aa g.H g.G true).ok w:=by
 have hcs:g.cs=[Aa g.H g.G true]:=by unfold MG.cs;rw[hd];rfl
 have h2:Inv w0 S (gs.flatMap MG.cs++(ia bp P::rest)) w:=((hi.perm hs.perm).perm (List.Perm.swap _ _ _)).Sw;exact h2.ok _ (aF.2 (.inl (List.mem_flatMap.2 ⟨g,ak hg,by grind⟩)))
theorem OT{bp:Nat}{P:oW}{gs:List MG}{i:Nat}{g:MG}{w:World}(hM:lx bp P gs)(hg:gs[i]? =some g)(hd:g.dead=false)(hi:Inv w (bD (iE bp P gs)) (iE bp P gs) w):
  Ctr prog 61 [.p g.H.bg] w (iE bp P gs) (λ_ cs=>∃P',lx bp P' (gs.set i ⟨g.H,g.G,[],[],true⟩)/\cs=iE bp P' (gs.set i ⟨g.H,g.G,[],[],true⟩)):=by
 obtain⟨ho,hbp,hal, -⟩:=hM.at_ i g hg;obtain⟨hm,hG⟩:=hal hd;have ho4:g.H.L.o<4:=hm.o4;have hcs:g.cs=gxF g.H g.G++tmF g.H g.G g.fr g.gd:=by unfold MG.cs;rw[hd];rfl
 have h1:Inv w (bD (iE bp P gs)) (ia g.H.L.bp P::(gxF g.H g.G++tmF g.H g.G g.fr g.gd)++(gs.eraseIdx i).flatMap MG.cs) w:=by
  have h2:Inv w (bD (iE bp P gs)) (gs.flatMap MG.cs++[ia bp P]) w:=(hi.perm (List.Perm.swap _ _ _)).Sw;refine h2.perm (List.perm_append_comm.trans ?_);rw[hbp,aJ];refine List.Perm.cons _ ?_;rw[<-hcs];exact jx MG.cs hg
 refine Ctr.via (DZ hm h1) (λhi2=>PC (g.H.on P) g.G ho4 (by show(P.ow.map _).length=256;grind [hM.SL.len.ow]) DO w hi2) ?_;rintro v cout w' ⟨B,⟨e1,e2⟩,rfl⟩ h3;have ht:wK g.H.L P ⟨B,(g.H.L.on P).gw,P.pr.set g.H.L.o (-1)⟩:=H3 hM.SL ho4 e1 e2;refine⟨_,⟨⟨B,(g.H.L.on P).gw,P.pr.set g.H.L.o (-1)⟩,⟨hM.SL.turn ht,by grind [hM.four],λo' q1 q2=>?_,λj x hx=>?_⟩,rfl⟩,?_⟩
 .rw[List.length_set]at q1;have:=(aj.1 hg).1;show(P.pr.set g.H.L.o (-1))[o']? =_;rw[List.getElem?_set_ne Wq1];exact hM.rest o' q1 q2
 .by_cases hji:j=i
  .grind [hM.four,hM.SL.len.pr]
  rw[List.getElem?_set_ne (Ne.symm hji)]at hx;obtain⟨a1,a2,a3,a4⟩:=hM.at_ j x hx;refine⟨a1,a2,λe=>?_,λe=>by grind⟩;obtain⟨b1,b2⟩:=a3 e;exact⟨sE.other hM.SL ht b1 Wq1,b2⟩
 have h5:Inv w (bD (iE bp P gs)) ((gs.set i ⟨g.H,g.G,[],[],true⟩).flatMap MG.cs++[ia bp ⟨B,(g.H.L.on P).gw,P.pr.set g.H.L.o (-1)⟩]) w':=by
  have h4:Inv w (bD (iE bp P gs)) (ia bp ⟨B,(g.H.L.on P).gw,P.pr.set g.H.L.o (-1)⟩::([Aa g.H g.G true]++(gs.eraseIdx i).flatMap MG.cs)) w':=by
   have h6:=h3.perm (List.Perm.swap _ _ _);rw[show(g.H.on P).L.bp=bp from hbp]at h6;exact h6
  refine h4.perm ((List.perm_append_comm.trans ?_).symm);exact List.Perm.cons _ (v8 MG.cs (y:=⟨g.H,g.G,[],[],true⟩) hg)
 exact(Inv.Sy (F:=λ_:Unit=>(gs.set i ⟨g.H,g.G,[],[],true⟩).flatMap MG.cs) (hb:=λ_=>rfl) (p:=λ_=>True) () trivial h5).perm (List.Perm.swap _ _ _)
theorem mon_new{bp:Nat}{P:oW}{gs:List MG}{w:World}(hM:lx bp P gs)(h4:gs.length<4)(n:Nat)(hn0:1<=n)(hn:n<=64)(hs:(n:Int)+fY P.pr 4<=240)(hb:∀x,x∈P.pr->x<=1000)(A B:Option Addr)(c e:Nat)(l k:List Int)(hll:l.length<=n*64)(hlb:u8s l)(hkl:k.length<=1024)(hkb:u8s k)(tr:Bool)
  (hi:Inv w (bD (iE bp P gs)) (iE bp P gs) w) (hA:∀w',cY (bD (iE bp P gs)) w w'->Rd w' .u8 A l.length c l) (hB:∀w',cY (bD (iE bp P gs)) w w'->Rd w' .u8 B k.length e k):
  Ctr prog 36 [.p bp,.i (gs.length:Nat),imgV A c l B e k n,.bool tr] w (iE bp P gs) (λv cs=>∃P' g,(lx bp P' (gs++[g])/\P'.pr=P.pr.set gs.length n/\g.dead=false/\g.H.L.n=n/\g.G.s=St.new/\g.G.U=⟨Mem.load n l,eB⟩/\g.G.d=Dev.init k/\g.G.o.isSome=tr)/\v= .tuple #[.p g.H.bg,.i 0]/\cs=iE bp P' (gs++[g])):=by
 have hno:=hM.rest gs.length (aL _) h4;obtain⟨h0,ht⟩:=KK (L:=⟨bp,0,0,0,0,gs.length,n,[],[],[]⟩) hM.SL h4 hno hs;obtain⟨P1,hP1⟩:∃P1:oW,(⟨P.B,P.ow,P.pr.set gs.length n⟩:oW)=P1:=⟨_,rfl⟩;have ht1:wK ⟨bp,0,0,0,0,gs.length,n,[],[],[]⟩ P P1:=hP1▸ht;have hok1:=hM.SL.turn ht1;have h0':∀x,x∈P.ow->¬x=((gs.length:Nat):Int):=h0;have hmap:P.ow.map (λx=>if x=((gs.length:Nat):Int)then(-1:Int)else x)=P.ow:=(List.map_congr_left (g:=id) (λx hx=>if_neg (h0' x hx))).trans (List.map_id _);have hcap:n<=nE P.ow 256:=by
  have h5:=hok1.cap (L:=⟨bp,0,0,0,0,gs.length,n,[],[],[]⟩) h4 bR;refine aN h5 (Nat.le_of_eq ?_);unfold nE;congr 1;refine List.filter_congr λf hf=>?_
  rw[List.mem_range'_1]at hf;obtain⟨x,hx⟩:∃x,P.ow[f]? =some x:=⟨_,aa (show f<P.ow.length by rw[hM.SL.len.ow];omega)⟩;have hx1:P1.ow[f]? =some x:=by rw[<-hP1];exact hx
  rw[hx,Bool.eq_iff_iff];constructor
  .intro e1;by_cases e2:x= -1
   .rw[e2];rfl
   grind [kS]
  intro e1;cases e3:(eA.on ⟨bp,0,0,0,0,gs.length,n,[],[],[]⟩ P1).oth f with
  |false=>rfl
  |true=>
   simp_all [kS]
 refine Ctr.via (cin:=[ia bp P]) (rest:=[bQ (gs.flatMap MG.cs)]) hi (λhi2=>LQ bp P.B P.ow P.pr hM.SL.len gs.length n h4 hn0 hn hno hs hb h0 hcap A B c e l k hll hlb hkl hkb tr w hi2 (λw' hk=>hA w' (hi.Ta (cin:=[ia bp P]) (λc hc=>by grind) hk)) (λw' hk=>hB w' (hi.Ta (cin:=[ia bp P]) (λc hc=>by grind) hk))) ?_;rintro v cout w' ⟨H,G,hBo,rfl,rfl⟩ h3;have hHo:H.on P1=H:=by
  obtain⟨bg,bu,bb,be,⟨x1,x2,x3,x4,x5,x6,x7,x8,x9,x10⟩,D⟩:=H;have q1:=hBo.ho;have q2:=hBo.hgw;have q3:=hBo.hgB;have q4:=hBo.hgp;dsimp only at q1 q2 q3 q4;subst q1 q2 q3 q4;rw[<-hP1];show sG.mk _ _ _ _ (eA.mk _ _ _ _ _ _ _ (P.ow.map _) P.B _) _=_;rw[hmap]
 rw[<-hHo]at h3;obtain⟨kk,hkk,h6⟩:=Rg h3;have hLo:H.L.o=gs.length:=hBo.ho;have hLb:H.L.bp=bp:=hBo.hbp;refine⟨_,⟨⟨kk.B,kk.ow,kk.pr⟩,⟨H,G,kk.fr,kk.gd,false⟩,⟨⟨hok1.turn (hkk.turns hok1),by grind,λo' q1 q2=>?_,λj x hx=>?_⟩,?_,rfl,hBo.hn,hBo.hs,hBo.hu,hBo.hd,hBo.htr⟩,rfl,rfl⟩,?_⟩
 .rw[aq]at q1;simp at q1;show kk.pr[o']? =_;rw[show kk.pr=P1.pr from hkk.prs,<-hP1];show(P.pr.set gs.length (n:Int))[o']? =_;rw[List.getElem?_set_ne Wq1];exact hM.rest o' Wq1 q2
 .by_cases hj:j<gs.length
  .rw[aZ hj]at hx;obtain⟨a1,a2,a3,a4⟩:=hM.at_ j x hx;refine⟨a1,a2,λq=>?_,λe=>by show kk.pr[j]? =_;rw[show kk.pr=P1.pr from hkk.prs,<-hP1];grind [List.getElem?_set_ne]⟩;obtain⟨b1,b2⟩:=a3 q;exact⟨sE.other hok1 (hkk.turns hok1) (sE.other hM.SL ht1 b1 bR) Wq1,b2⟩
  rw[List.getElem?_append_right Wq1]at hx;obtain⟨rfl,rfl⟩:j=gs.length/\x=⟨H,G,kk.fr,kk.gd,false⟩:=by
   rcases hjl:j - gs.length with _|m
   .grind
   grind
  exact⟨hLo,hLb,λ_=>⟨sE.own hok1 hkk,by show G.ok H.L.n;rw[hBo.hn];exact hBo.ok⟩,λe=>by cases e⟩
 .rw[show kk.pr=P1.pr from hkk.prs,<-hP1]
 have h7:Inv w (bD (iE bp P gs)) (bQ (gs.flatMap MG.cs)::(ia bp ⟨kk.B,kk.ow,kk.pr⟩::(gxF H G++tmF H G kk.fr kk.gd))) w':=by
  rw[hLb]at h6;exact h6.perm List.perm_append_comm
 have h8:Inv w (bD (iE bp P gs)) ((gs++[(⟨H,G,kk.fr,kk.gd,false⟩:MG)]).flatMap MG.cs++[ia bp ⟨kk.B,kk.ow,kk.pr⟩]) w':=by
  refine h7.Sw.perm ?_;rw[List.flatMap_append,aw];refine List.Perm.append_left _ ?_;have e9:[(⟨H,G,kk.fr,kk.gd,false⟩:MG)].flatMap MG.cs=gxF H G++tmF H G kk.fr kk.gd:=by
   rw[List.flatMap_cons,List.flatMap_nil,az]
   rfl
  rw[e9];exact(List.perm_append_comm (l₁:=gxF H G++tmF H G kk.fr kk.gd) (l₂:=[ia bp ⟨kk.B,kk.ow,kk.pr⟩])).symm
 exact(Inv.Sy (F:=λ_:Unit=>(gs++[(⟨H,G,kk.fr,kk.gd,false⟩:MG)]).flatMap MG.cs) (hb:=λ_=>rfl) (p:=λ_=>True) () trivial h8).perm (List.Perm.swap _ _ _)
theorem ze{α:Type}{l:List α}{i:Nat}{a:α}(h:l[i]? =some a):l.set i a=l:=by
 grind [List.getElem?_eq_some_iff,List.set_getElem_self]
structure It where
 kind:Int
 RP:Int
 n:Int
 b:List Int
structure Ou where
 n:Int
 v:Vw
 why:Int
def dT:Vw:=⟨St.zero,[],[],[],[],0,0,false⟩
structure Ag where
 n:Nat
 s:St
 U:Mmu
 d:Dev
 dead:Bool
def Ag.view(a:Ag):Vw:=bif a.dead then mN else⟨a.s,a.U.m.data,a.d.out,a.d.inp,a.d.Sb,a.d.Sc,a.d.mask,false⟩
def Ag.run(m:Int)(a:Ag):Ag:=⟨a.n,(fZ a.n m a.s a.U a.d).1,(fZ a.n m a.s a.U a.d).2.1,(fZ a.n m a.s a.U a.d).2.2,a.dead⟩
def Ag.ran(m:Int)(a:Ag):Int:=IntKind.i64.wrap (IntKind.u64.wrap ((a.run m).s.count - a.s.count))
def Ag.one(a:Ag)(x:It):Ag×Ou:=
 bif a.dead&&(x.kind !=6)then(a,⟨0,dT,26⟩)else
 bif x.kind==1 then(a.run (min x.n 10000),⟨a.ran (min x.n 10000),dT,0⟩)else
 bif x.kind==2 then({a with d:=a.d.Sx x.b},⟨a.d.SD x.b,dT,0⟩)else
 bif x.kind==3 then(bif decide (x.n<0)||decide (8<=x.n)then(a,⟨0,dT,1⟩)else({a with d:=a.d.raise x.n.toNat},⟨0,dT,0⟩))else
 bif x.kind==4 then(a,⟨0,dT,0⟩)else
 bif x.kind==5 then({a with dead:=true},⟨0,dT,0⟩)else
 bif x.kind==6 then(a,⟨0,a.view,0⟩)else(a,⟨0,dT,1⟩)
structure Ag.SA(k:Nat)(a:Ag):Prop where
 g:GOk a.n a.s a.U a.d
 i:GIn a.d
 s:a.d.said
 o:a.d.out.length<=k
 n64:a.n<=64
theorem u00:u32 0:=⟨Int.le_refl _,show(0:Int)<=4294967295 by decide⟩
theorem Q7:St.zero.wf:=⟨u00,u00,u00,u00,u00,u00,u00,⟨Int.le_refl _,show(0:Int)<=18446744073709551615 by decide⟩,λx hx=>(by cases hx),λx hx=>(by cases hx)⟩
theorem eM:u8s []:=λx hx=>(by cases hx)
theorem EO:dT.wf:=⟨Q7,eM,eM,eM,eM⟩
theorem Ay:mN.wf:=⟨Q7,eM,eM,eM,eM⟩
theorem Kd{v:Vw}(h:v.s=St.zero/\v.m=[]/\v.o=[]/\v.i=[]/\v.k=[])(w:World):xf w v uc:=by
 obtain⟨s,m,o,i,k,p,q,b⟩:=v;obtain⟨h1,h2,h3,h4,h5⟩:=h;dsimp only at h1 h2 h3 h4 h5;subst h1 h2 h3 h4 h5;exact⟨⟨jq w .u32,jq w .u32,au _,au _⟩,jq w .u8,jq w .u8,jq w .u8,jq w .u8⟩
theorem tN(w:World):xf w dT uc:=Kd ⟨rfl,rfl,rfl,rfl,rfl⟩ w
theorem AA(w:World):xf w mN uc:=Kd ⟨rfl,rfl,rfl,rfl,rfl⟩ w
section
variable {k:Nat} {a:Ag} {x:It} {l:List Ag} {i:Nat}
theorem Ag.SA.wf(h:a.SA k):a.view.wf:=by
 unfold Ag.view;refine bI Vw.wf Ay ?_;exact⟨h.g.wf,h.g.u.m.db,h.s,h.g.dv.wf.Tm,h.g.dv.wf.SU⟩
theorem Ag.SA.le(h:a.SA k){m:Nat}(hm:k<=m):a.SA m:=⟨h.g,h.i,h.s,aN h.o hm,h.n64⟩
theorem Ag.SA.run(h:a.SA k){m:Int}(hm:m<=10000):(a.run m).SA (k+80000):=by
 have h1:=(DD (n:=a.n) (by have:=h.n64;omega) m h.g (gL.fresh (room:=8) ⟨by decide,by decide⟩)).2.2.1;have h2:=J0 m h.g;refine⟨h1,run_in m h.i,N5 m h.s,?_,h.n64⟩;show(fZ a.n m a.s a.U a.d).2.2.out.length<=_;have:=h.o;omega
theorem Ag.SA.one(h:a.SA k)(hb:u8s x.b):(a.one x).1.SA (k+80000):=by
 have h0:=h.le (show k<=k+80000 by omega);unfold Ag.one;refine bI (λq:Ag×Ou=>q.1.SA (k+80000)) h0 ?_;refine bI (λq:Ag×Ou=>q.1.SA (k+80000)) (h.run Wq1) ?_;refine bI (λq:Ag×Ou=>q.1.SA (k+80000)) ?_ ?_
 .obtain⟨h1,h2⟩:=Bi h.g h.i hb;exact⟨h1,h2,h.s,h0.o,h.n64⟩
 refine bI (λq:Ag×Ou=>q.1.SA (k+80000)) ?_ ?_
 .refine bI (λq:Ag×Ou=>q.1.SA (k+80000)) h0 ?_;obtain⟨h1,h2⟩:=xL h.g h.i x.n.toNat;exact⟨h1,h2,h.s,h0.o,h.n64⟩
 refine bI (λq:Ag×Ou=>q.1.SA (k+80000)) h0 ?_;refine bI (λq:Ag×Ou=>q.1.SA (k+80000)) ⟨h0.g,h0.i,h0.s,h0.o,h0.n64⟩ ?_
 grind
theorem Ag.SA.out(h:a.SA k):(a.one x).2.v.wf:=by
 grind [Ag.one,EO,h.wf]
def dB(l:List Ag)(x:It):List Ag×Ou:=
 bif decide (0<=x.RP)&&decide (x.RP<(l.length:Int))then
  match l[x.RP.toNat]? with
  |some a=>(l.set x.RP.toNat (a.one x).1,(a.one x).2)
  |none=>(l,⟨0,dT,22⟩)
 else(l,⟨0,dT,22⟩)
theorem ug(h:l[i]? =some a)(hx:x.RP=(i:Int)):dB l x=(l.set i (a.one x).1,(a.one x).2):=by
 grind [dB]
theorem FE(h:(decide (0<=x.RP)&&decide (x.RP<(l.length:Int)))=false):dB l x=(l,⟨0,dT,22⟩):=by
 grind [dB]
theorem lG{P:List Ag×Ou->Prop}(h1:∀(i:Nat) (a:Ag),l[i]? =some a->x.RP=(i:Int)->P (l.set i (a.one x).1,(a.one x).2))(h2:(∀i:Nat,i<l.length->x.RP≠(i:Int))->P (l,⟨0,dT,22⟩)):P (dB l x):=by
 cases hc:(decide (0<=x.RP)&&decide (x.RP<(l.length:Int)))with
 |false=>
  grind [FE]
 |true=>
  rw[aD,ae,ae]at hc;obtain⟨i,hi⟩:=ap hc.1;have hl:l[i]? =some (l[i]'(by omega)):=aa _
  grind [ug]
theorem kv:(dB l x).1.length=l.length:=lG (P:=λq=>q.1.length=l.length) (λi a _ _=>List.length_set) Zrf
theorem jw(j:Nat):(dB l x).1[j]? =(l[j]?).map (λa=>if x.RP=(j:Int)then(a.one x).1 else a):=by
 refine lG (P:=λq=>q.1[j]? =(l[j]?).map (λa=>if x.RP=(j:Int)then(a.one x).1 else a)) (λi a h e=>?_) (λh=>?_)
 .grind
 grind
theorem Hq(h:∀a,a∈l->a.SA k)(hb:u8s x.b):∀a,a∈(dB l x).1->a.SA (k+80000):=by
 refine lG (P:=λq=>∀a,a∈q.1->a.SA (k+80000)) (λi a hl _ b hm=>?_) (λ_ b hm=>(h b hm).le Wq1);rcases List.mem_or_eq_of_mem_set hm with q|rfl
 .exact(h b q).le Wq1
 exact(h a (ak hl)).one hb
theorem zJ(h:∀a,a∈l->a.SA k):(dB l x).2.v.wf:=lG (P:=λq=>q.2.v.wf) (λi a hl _=>(h a (ak hl)).out) (λ_=>EO)
end
def DW(l:List Ag)(xs:List It):List Ag:=xs.foldl (λl x=>(dB l x).1) l
def wW:List Ag->List It->List Ou
 |_,[]=>[]
 |l,x::xs=>(dB l x).2::wW (dB l x).1 xs
theorem BT{l:List Ag}{xs:List It}{x:It}:DW l (xs++[x])=(dB (DW l xs) x).1:=by
 grind [DW]
theorem xQ{x:It}:∀{xs:List It} {l:List Ag},wW l (xs++[x])=wW l xs++[(dB (DW l xs) x).2]
 |[],l=>rfl
 |y::xs,l=>by
  show(dB l y).2::wW (dB l y).1 (xs++[x])=_;rw[xQ (xs:=xs)]
  rfl
theorem vq:∀{xs:List It} {l:List Ag},(wW l xs).length=xs.length
 |[],_=>rfl
 |x::xs,l=>congrArg Nat.succ (vq (xs:=xs))
theorem ot:∀{xs:List It} {l:List Ag},(DW l xs).length=l.length
 |[],_=>rfl
 |x::xs,l=>(ot (xs:=xs) (l:=(dB l x).1)).trans kv
def Qi(j:Nat)(a:Ag)(xs:List It):Ag:=xs.foldl (λa x=>if x.RP=(j:Int)then(a.one x).1 else a) a
theorem FB{j:Nat}:∀{xs:List It} {l:List Ag},(DW l xs)[j]? =(l[j]?).map (λa=>Qi j a xs)
 |[],l=>by
  show l[j]? =_;rcases l[j]? with _|a<;>rfl
 |x::xs,l=>by
  show(DW (dB l x).1 xs)[j]? =_;rw[FB,jw];rcases l[j]? with _|a<;>rfl
theorem AF{j:Nat}{a:Ag}{xs ys:List It}:Qi j a (xs++ys)=Qi j (Qi j a xs) ys:=by
 grind [Qi]
theorem CP{j:Nat}:∀{xs:List It} {a:Ag},(∀x,x∈xs->x.RP≠(j:Int))->Qi j a xs=a
 |[],_,_=>rfl
 |x::xs,a,h=>by
  show Qi j (if x.RP=(j:Int)then _ else a) xs=a;rw[if_neg (h x (.head _))];exact CP (xs:=xs) (λy hy=>h y (.tail _ hy))
theorem OL{a:Ag}{x:It}(h:x.kind=6):a.one x=(a,⟨0,a.view,0⟩):=by
 grind [Ag.one]
theorem KD{a:Ag}{x:It}(h:x.kind=4):(a.one x).1=a:=by
 grind [Ag.one]
theorem FD{l:List Ag}{x:It}(h:∀a:Ag,(a.one x).1=a):(dB l x).1=l:=
 lG (P:=λq=>q.1=l) (λi a hl _=>by grind [ze]) Zrf
theorem zH{a:Ag}{x:It}(h:a.dead=true):(a.one x).1=a/\(a.one x).2=(if x.kind=6 then⟨0,mN,0⟩else⟨0,dT,26⟩):=by
 grind [Ag.one,Ag.view]
structure ItR where
 kind:Int
 RP:Int
 n:Int
 A:Option Addr
 c:Nat
 b:List Int
abbrev ItR.it(x:ItR):It:=⟨x.kind,x.RP,x.n,x.b⟩
abbrev ItR.cells(x:ItR):List Value:=[.i x.kind,.i x.RP,.i x.n,.slice x.A x.b.length x.c]
theorem ItR.RO(x:ItR):x.cells.length=4:=rfl
abbrev Ou.cells(o:Ou)(Y:VAd):List Value:= .i o.n::(o.v.cells Y++[.i o.why])
structure OuR where
 o:Ou
 Y:VAd
abbrev OuR.cells(z:OuR):List Value:=z.o.cells z.Y
theorem OuR.RO(z:OuR):z.cells.length=25:=rfl
structure Mon where
 bp:Nat
 A:Option Addr
 c:Nat
 P:oW
 gs:List MG
def MG.abs(g:MG):Ag:=⟨g.H.L.n,g.G.s,g.G.U,g.G.d,g.dead⟩
def Mon.l(m:Mon):List Ag:=m.gs.map MG.abs
abbrev pU(g:MG):Value:= .p g.H.bg
structure Mon.ok(k:Nat)(m:Mon):Prop where
 g:lx m.bp m.P m.gs
 f:∀a,a∈m.l->a.SA k
theorem Mon.len(m:Mon):m.l.length=m.gs.length:=aV ..
theorem Mon.at_{m:Mon}{i:Nat}{g:MG}(h:m.gs[i]? =some g):m.l[i]? =some g.abs:=by
 grind [Mon.l]
theorem Mon.get{m:Mon}{i:Nat}{a:Ag}(h:m.l[i]? =some a):∃g,m.gs[i]? =some g/\g.abs=a:=by
 grind [Mon.l]
theorem Mon.ok.le{k j:Nat}{m:Mon}(h:m.ok k)(hj:k<=j):m.ok j:=⟨h.g,λa ha=>(h.f a ha).le hj⟩
theorem Mon.set{m:Mon}{i:Nat}{g:MG}{P:oW}(h:i<m.gs.length):(Mon.mk m.bp m.A m.c P (m.gs.set i g)).l=m.l.set i g.abs:=List.map_set
theorem Pz{gs:List MG}{i:Nat}{g g':MG}(h:gs[i]? =some g)(he:g'.H=g.H):(gs.set i g').map pU=gs.map pU:=by
 rw[List.map_set];have e:pU g'=pU g:=by unfold pU;rw[he]
 rw[e];apply List.ext_getElem?
 grind
abbrev mI(bm:Nat)(m:Mon):bC:=row bm [.p m.bp,.slice m.A m.gs.length m.c] 85
abbrev ptrC(m:Mon):bC:=slv 86 1 m.A m.gs.length m.c (m.gs.map pU)
abbrev dq(bm:Nat)(m:Mon):List bC:=[mI bm m,ptrC m,ia m.bp m.P,bQ (m.gs.flatMap MG.cs)]
section
variable {l m:List Ag} {x y:It} {a b:Ag} {i j k:Nat}
theorem ku(h:l[i]? =some a)(hx:x.RP=(i:Int)):(dB l x).2=(a.one x).2:=by rw[ug h hx]
theorem vx(h:l[i]? =some a)(hx:x.RP=(i:Int)):(dB l x).1[i]? =some (a.one x).1:=by
 grind [jw]
theorem ud(hx:x.RP≠(i:Int)):(dB l x).1[i]? =l[i]? :=by
 grind [jw]
theorem Hp(hn:l.length=m.length)(h:∀i:Nat,x.RP=(i:Int)->l[i]? =m[i]?):(dB l x).2=(dB m x).2:=by
 grind [dB,ku,dT]
theorem one_any(hk:x.kind=y.kind)(hn:x.n=y.n)(hb:x.b=y.b):a.one x=a.one y:=by
 grind [Ag.one]
theorem Iz(hm:m[k]? =some a)(hx:x.RP=(k:Int)):(dB m x).2=(dB [a] {x with RP:=0}).2/\(dB m x).1[k]? =some (a.one x).1/\(dB [a] {x with RP:=0}).1=[(a.one x).1]:=by
 grind [one_any,dB,ug,ku,vx]
structure EN(k:Nat)(m l:List Ag):Prop where
 len:m.length=l.length
 oth:∀j:Nat,j≠k->m[j]? =l[j]?
 dead:∃a,m[k]? =some a/\a.dead=true
theorem EN.step(h:EN k m l)(x:It):EN k (dB m x).1 (dB l x).1/\(x.RP≠(k:Int)->(dB m x).2=(dB l x).2)/\(x.RP=(k:Int)->(dB m x).2=(if x.kind=6 then⟨0,mN,0⟩else⟨0,dT,26⟩)):=by
 obtain⟨a,ha,hd⟩:=h.dead;refine⟨⟨?_,λj hj=>?_,?_⟩,λhx=>?_,λhx=>?_⟩
 .grind [kv,h.len]
 .rw[jw,jw,h.oth j hj]
 .by_cases hx:x.RP=(k:Int)
  .simp_all [vx,zH]
  grind [ud]
 .exact Hp h.len λi hi=>h.oth i (λe=>hx (by rw[hi,e]))
 rw[ku ha hx];exact(zH hd).2
theorem EN.first(h:l[k]? =some a)(hx:x.RP=(k:Int))(hk:x.kind=5)(hd:a.dead=false):EN k (dB l x).1 l/\(dB l x).2=⟨0,dT,0⟩:=by
 obtain⟨kd,g,n,b⟩:=x;dsimp only at hk;subst hk;have e:a.one ⟨5,g,n,b⟩=({a with dead:=true},⟨0,dT,0⟩):=by
  unfold Ag.one;rw[hd]
  rfl
 refine⟨⟨kv,λj hj=>ud (λe=>hj ?_),⟨_,vx h hx,by rw[e]⟩⟩,by rw[ku h hx,e]⟩;omega
def ord(k:Nat)(a:Ag)(xs ys:List It):Ag:=if k=0 then Qi 0 a xs else if k=1 then Qi 1 a ys else a
theorem ord_x{xs ys:List It}(hx:x.RP=0):(if x.RP=(k:Int)then((ord k a xs ys).one x).1 else ord k a xs ys)=ord k a (xs++[x]) ys:=by
 unfold ord;by_cases h0:k=0
 .subst h0;rw[if_pos rfl,if_pos rfl,AF,if_pos Wq1];show _=if x.RP=((0:Nat):Int)then _ else _
  grind
 grind
theorem ord_y{xs ys:List It}(hy:y.RP=1):(if y.RP=(k:Int)then((ord k a xs ys).one y).1 else ord k a xs ys)=ord k a xs (ys++[y]):=by
 unfold ord;by_cases h1:k=1
 .subst h1;have hy2:y.RP=((1:Nat):Int):=hy;rw[if_pos hy2,if_neg (show¬(1:Nat)=0 by decide),if_pos rfl,if_neg (show¬(1:Nat)=0 by decide),if_pos rfl,AF];show _=if y.RP=((1:Nat):Int)then _ else _
  grind
 grind
def C0(l m:List Ag)(xs ys:List It):Prop:=∀k:Nat,m[k]? =(l[k]?).map (λa=>ord k a xs ys)
theorem C0.nil:C0 l l [] []:=λk=>by
 have e:∀a:Ag,ord k a [] []=a:=λa=>by unfold ord;split<;>(try split)<;>rfl
 grind
theorem C0.addx{xs ys:List It}(h:C0 l m xs ys)(hx:x.RP=0):C0 l (dB m x).1 (xs++[x]) ys:=λk=>by
 rw[jw,h k];rcases l[k]? with _|a
 .rfl
 grind [ord_x]
theorem C0.addy{xs ys:List It}(h:C0 l m xs ys)(hy:y.RP=1):C0 l (dB m y).1 xs (ys++[y]):=λk=>by
 rw[jw,h k];rcases l[k]? with _|a
 .rfl
 grind [ord_y]
theorem C0.all{xs ys:List It}(hx:∀x,x∈xs->x.RP=0)(hy:∀y,y∈ys->y.RP=1):C0 l (DW l (xs++ys)) xs ys:=λk=>by
 grind [FB,AF,ord,CP]
theorem C0.eq{m':List Ag}{xs ys:List It}(h:C0 l m xs ys)(h':C0 l m' xs ys):m=m':=List.ext_getElem? λk=>by rw[h k,h' k]
end
end
end Go.Ink
