/- Lemmas. -/
import Derived.Test.YtepfimeihngjoaaGreatDoorYbh
set_option linter.all false
set_option maxRecDepth 100000
set_option maxHeartbeats 4000000
namespace Go.Ink
open List renaming length→J
open IntKind renaming wrap→V9
open Go.RowKit Go.Proofs.Tryz
section
variable{c:Code}
theorem Zic(a:List bH){c e:List bH}(h:ga a c e:=by exact Zi):ga a c e:=h
end
section
attribute [local irreducible] UL bM
theorem EN(A A2:Oa)(c c2:Nat)(xs ys:Li)(w:World)(h:Rd w .u32 A (J xs) c xs)(h2:Rd w .u32 A2 (J ys) c2 ys):
  CW prog 139 [.slice A (J xs) c,.slice A2 (J ys) c2] w (.bool (xs==ys)):=by
 have hm:=h.max;have hc:=h.cap;unfold maxLen at hm;refine UB func139 ntmps139 ?_;refine oQ ?_;refine ZW ?_ ?_<;>intro hc1
 .have hne:(xs==ys)=false:=by rw[bE];rintro rfl;simp at hc1
  refine vE ?_
  grind
 have hlen:J xs=J ys:=by(have:(J xs:Int)=J ys:=by simpa using hc1);omega
 refine UE ?_;refine UX (λk:Nat=>[(5,.i (k:Int)),(0,.slice A (J xs) c),(1,.slice A2 (J ys) c2)]) (λ_=>[]) (λk=>k<=J xs/\xs.take k=ys.take k) (λk=>J xs - k) (0) Do ?_;rintro k ⟨hk,he⟩;refine VM ?_ ?_<;>intro hc4
 .simp only[ah]at hc4;obtain⟨ad,rfl⟩:=h.some_ O;obtain⟨ad2,rfl⟩:=h2.some_ O;refine Uu ?_;refine B7 ?_;refine UF 2 I (cW I ir (Zv I) (Zv I) ir Uq) ?_;refine US 3 I (bL ir (Zv I)) (dG h (lh (show k<J xs by omega))) ?_;refine ZE 4 ?_;refine ZE 5 ?_;refine UF 6 I (cW I ir (Zv I) (Zv I) ir Uq) ?_;refine US 7 I (bL ir (Zv I)) (dG h2 (lh (show k<J ys by omega))) ?_;refine ZE 8 ?_;refine sR ?_;refine ZW ?_ ?_<;>intro hc6
  .have hne:(xs==ys)=false:=by rw[bE];rintro rfl;simp at hc6
   refine nR ?_;exact⟨by rw[hne],rfl⟩
  have heq:xs[k]'(by omega)=ys[k]'(by omega):=by simpa using hc6
  refine kb ?_;refine Vo (k+1) ⟨⟨by omega,?_⟩,by omega⟩;rw[List.take_succ_eq_append_getElem O,List.take_succ_eq_append_getElem O,he,heq]
 simp only[aa]at hc4;refine nR ?_;refine⟨?_,I⟩;have hkk:k=J xs:=by omega
 subst hkk;rw[List.take_length]at he;rw[he,hlen,List.take_length];simp
def St.T6(a b:St):Bool:=
 (((((((((((((((a.pc==b.pc)&&(a.d==b.d))&&(a.r==b.r))&&(a.flags==b.flags))&&(a.Sy==b.Sy))&&(a.SJ==b.SJ))&&(a.ie==b.ie))&&(a.root==b.root))&&(a.vec==b.vec))&&(a.epc==b.epc))&&(a.SB==b.SB))&&(a.addr==b.addr))&&(a.SO==b.SO))&&(a.eie==b.eie))&&(a.count==b.count))&&(a.halted==b.halted)
theorem St.TO(a b:St):a.T6 b=true<->a=b:=by
 unfold St.T6;constructor
 .intro h;simp only[aC,beq_iff_eq]at h;obtain⟨⟨⟨⟨⟨⟨⟨⟨⟨⟨⟨⟨⟨⟨⟨h1,h2⟩,h3⟩,h4⟩,h5⟩,h6⟩,h7⟩,h8⟩,h9⟩,h10⟩,h11⟩,h12⟩,h13⟩,h14⟩,h15⟩,h16⟩:=h;cases a;simp_all
 grind
theorem St.TV(a:St):a.T6 a=true:=(St.TO a a).2 I
set_option maxRecDepth 100000 in
theorem Ot(s t:St)(Ad Ar Bd Br:Oa)(cd cr ed er:Nat)(w:World)(h:kS w s Ad Ar cd cr)(h2:kS w t Bd Br ed er):
  CW prog 92 [sv s Ad cd Ar cr,sv t Bd ed Br er] w (.bool (s.T6 t)):=by
 refine UB func92 ntmps92 ?_;refine py ?_;refine ZO λb2=>?_;refine ZO λb3=>?_
 refine oQ ?_;refine dx (bP I I) (.cons (cU I) (.cons (cU I) .nil)) (λ_ _=>I) (λhg w hi=>EN Ad Bd cd ed s.d t.d w (h.d.SS hi) (h2.d.SS hi)) I (UA ?_);refine dx (bP I I) (.cons (cU I) (.cons (cU I) .nil)) (λ_ _=>I) (λhg w hi=>EN Ar Br cr er s.r t.r w (h.r.SS hi) (h2.r.SS hi)) I (jF ?_);refine jF ?_;refine jF ?_;refine jF ?_;refine mU ?_;exact vB
variable{w:World}{A:Oa}{n c:Nat}{xs:List Value}
theorem slv_rdC{e:Nat}(w:World)(h:(slv e 1 A n c xs).ok w):(V6 A n c xs).ok w:=de h
theorem rdC_sub:(ς A xs).Sublist (ab A):=by
 cases xs with
 |nil=>exact List.nil_sublist _
 |cons x xs=>exact aO _
end
end Go.Ink
namespace Go.Ink
open List renaming length→J, replicate→R9
open IntKind renaming wrap→V9
open Go.RowKit Go.Proofs.Tryz
section
attribute [local irreducible] UL bM
theorem Eo{l:Li}(h:UO l)(m:Nat):UO (l.take m):=λx hx=>h x (aX hx)
theorem G6{W:World}{v:Value}(h:zp prog W 22 v):∃(B:Oa) (cb:Nat) (b:Li),v= .slice B (J b) cb/\Rd W .u8 B (J b) cb b/\UO b:=by
 obtain⟨B,cb,b,h1,h2, -,h3⟩:=h.ints (e:=5) (k:= .u8) I I I;exact⟨B,cb,b,h1,h2,λx hx=>Yb (h3 x hx)⟩
theorem Qe(b:Nat)(Ao:Oa)(no co:Nat)(Ai:Oa)(ci:Nat)(i:Li)(ho:J i<=1000000000)(w:World)(h:(yV b Ao no co Ai (J i) ci).ok w)(h2:(b8 Ai ci i).ok w):
  Uz prog 76 [.p b] w [] (λv cs=>∃A' c',v= .slice A' (J i) c'/\cs=[b8 A' c' i]):=by
 refine UB func76 ntmps76 ?_;refine vF ?_;refine ZS (λw hi=>nO Ai _ ci i w (UJ.SS (de h2) hi) O) ?_;exact YM
theorem Mc(b bd:Nat)(l:Li)(w:World)(h:(Ns b bd).ok w)(h2:(FO bd l).ok w):
  Uz prog 77 [.p b] w [] (λv cs=>∃A' c',v= .slice A' 1024 c'/\cs=[sl .u8 5 A' 1024 c' l]):=by
 refine UB func77 ntmps77 ?_;refine vF ?_;refine ZS (λw hi=>nO (sA bd) 1024 1024 l w (UJ.SS (de h2) hi) An) ?_;exact YM
end
end Go.Ink
namespace Go.Ink
open List renaming length→J, replicate→R9
open IntKind renaming wrap→V9
open Go.RowKit Go.Proofs.Tryz
section
attribute [local irreducible] UL bM
abbrev vv(v:Vw)(Y:ν):Value:= .agg (v.cells Y).toArray
theorem AV(s t:St)(Ad Ar Bd Br:Oa)(cd cr ed er:Nat)(w:World)(h:kS w s Ad Ar cd cr)(h2:kS w t Bd Br ed er):
  CW prog 29 [sv s Ad cd Ar cr,sv t Bd ed Br er] w (.bool (s.T6 t)):=by
 have HS:=Ot s t Ad Ar Bd Br cd cr ed er;refine UB func29 ntmps29 ?_;refine py ?_;refine ZO λb2=>?_;refine ZO λb3=>?_
 refine Ux ?_;exact dx fT (.cons ne (.cons ne .nil)) (λ_ _=>I) (λhg w hi=>HS w (h.SS hi) (h2.SS hi)) I oR
theorem Po(a b:Vw)(Y Z:ν)(ha:a.wf)(hb:b.wf)(w:World)(h:Nv w a Y)(h2:Nv w b Z):
  Uz prog 19 [vv a Y,vv b Z] w [] (λv cs=>(∃r,v= .bool r/\(r=true<->a=b))/\cs=[]):=by
 refine UB func19 ntmps19 ?_;refine py ?_;refine ZO λb2=>?_;refine ZO λb3=>?_
 refine UA ?_;refine dW (cj (vs:=a.s.cells (.slice Y.X.Ad (J a.s.d) Y.X.cd) (.slice Y.X.Ar (J a.s.r) Y.X.cr)) ir ir ne) (cI (o:=0) Zh I) I (V2 ?_);refine dW (cj (vs:=b.s.cells (.slice Z.X.Ad (J b.s.d) Z.X.cd) (.slice Z.X.Ar (J b.s.r) Z.X.cr)) ir ir ne) (cI (o:=0) Zh I) I (UD (λw hi=>AV a.s b.s Y.X.Ad Y.X.Ar Z.X.Ad Z.X.Ar Y.X.cd Y.X.cr Z.X.cd Z.X.cr w (h.s.SS hi) (h2.s.SS hi)) ?_);refine Us ?_;refine eZ (λw hi=>kA (h.m.SS hi)) (λhrd13=>?_);refine i5 (bP I I) (kq I I I (cU I) hrd13) (λw hi=>UJ.S7 (h.m.SS hi)) I (py ?_);refine eZ (λw hi=>kA (h2.m.SS hi)) (λhrd16=>?_);refine i5 (bP I I) (kq I I I (cU I) hrd16) (λw hi=>UJ.S7 (h2.m.SS hi)) I (Wl I I (pL I (cU I) (cU I) (pY ha.m hb.m)) ?_);refine Ut ?_;refine eZ (λw hi=>kA (h.o.SS hi)) (λhrd22=>?_);refine i5 (bP I I) (kq I I I (cU I) hrd22) (λw hi=>UJ.S7 (h.o.SS hi)) I (py ?_);refine eZ (λw hi=>kA (h2.o.SS hi)) (λhrd25=>?_);refine i5 (bP I I) (kq I I I (cU I) hrd25) (λw hi=>UJ.S7 (h2.o.SS hi)) I (Wl I I (pL I (cU I) (cU I) (pY ha.o hb.o)) ?_);refine Ut ?_;refine eZ (λw hi=>kA (h.i.SS hi)) (λhrd31=>?_);refine i5 (bP I I) (kq I I I (cU I) hrd31) (λw hi=>UJ.S7 (h.i.SS hi)) I (py ?_);refine eZ (λw hi=>kA (h2.i.SS hi)) (λhrd34=>?_);refine i5 (bP I I) (kq I I I (cU I) hrd34) (λw hi=>UJ.S7 (h2.i.SS hi)) I (Wl I I (pL I (cU I) (cU I) (pY ha.i hb.i)) ?_);refine py ?_;refine υ 19 ?_;refine ZD ?_;refine eZ (λw hi=>kA (h.k.SS hi)) (λhrd40=>?_);refine i5 (bP I I) (kq I I I (cU I) hrd40) (λw hi=>UJ.S7 (h.k.SS hi)) I (υ 19 ?_);refine ZD ?_;refine eZ (λw hi=>kA (h2.k.SS hi)) (λhrd43=>?_);refine i5 (bP I I) (kq I I I (cU I) hrd43) (λw hi=>UJ.S7 (h2.k.SS hi)) I (Wl I I (pL I (cU I) (cU I) (pY ha.k hb.k)) ?_);refine py ?_;refine υ 20 ?_;refine ZD ?_;refine υ 20 ?_;refine Ut ?_;refine υ 21 ?_;refine ZD ?_;refine υ 21 ?_;refine Ut ?_;refine υ 22 ?_;refine ZD ?_;refine υ 22 ?_;refine vE ?_;refine⟨⟨_,I,?_⟩,I⟩;simp only[aC,beq_iff_eq,St.TO];constructor
 .rintro⟨⟨⟨⟨⟨⟨⟨q1,q2⟩,q3⟩,q4⟩,q5⟩,q6⟩,q7⟩,q8⟩;cases a;cases b;simp_all
 rintro rfl;simp
end
section
open Go.MapKept
open Go.ChangeMaps (setBlock)
open Go.Maps (Keyed)
variable{b:Nat}{L:List (Bool×Ky×Value)}{w:World}
section
variable{C:Cx}{fr:Fr}{cs:List bH}{d:Option Nat}{T k e:TypeId}{x:Operand}{ty:TypeId}{pos:String}{af:Array Edge}{gd:Option (Nat×Bool)}{b:Nat}{L:List (Ky×Value)}{mk:bH->List bH}
theorem NZ(hx:ev fr x=some (.map (some b)))(hT:C.P.underlying T=some (.map k e))(hu:At cs (VG b L) mk):
  Vx C ⟨d,.call {callee:= .builtin .clear,args:= #[x],argTypes:= #[T]},ty,pos,af,gd⟩ fr cs true (λu cs'=>u= .tuple #[]/\cs'=mk (VG b [])):=λa w hf hi next Q h=>by
 obtain⟨es,clock,hb,hs,hL,hok⟩:=(show nV b L w from hi.get hu.has);have hr:(execOp a.eval ⟨d,.call {callee:= .builtin .clear,args:= #[x],argTypes:= #[T]},ty,pos,af,gd⟩).run C.P w= .ok (.value (.tuple #[])) (setBlock w b (.map #[] clock)):=by
  simp[execOp,resolve,invoke,builtin,hf.ev hx,Builtin.clear_,run_underlying hT,MapKept.run_getObj_map hb,MapKept.run_setObj_map _ hb,Result.andThen,setBlock]
 unfold Oper.wp;rw[hr];exact h _ _ _ ⟨I,I⟩ (hi.upd (hu _) (gf hb) (nF (gf hb) (by simp[bH.bs]) ⟨#[],clock,(heap_set hb).1,stamped_empty clock,by simp,by simp⟩ (λb hb=>Or.inl hb))) (λe=>by cases e)
end
end
section
attribute [local irreducible] UL bM
variable{l:List (Int×Int)}
def Vi.flush(E:Vi):Vi:={E with l:=[],runs:=[]}
variable{room:Int}
theorem gy.flush{E:Vi}(h:gy E):gy E.flush:=⟨h.room,by show((0:Nat):Int)<=E.room;have:=h.room;omega,by simp[Vi.flush],by simp[Vi.flush],λt ht=>by cases ht⟩
end
end Go.Ink
namespace Go.Ink
open List renaming length→J, replicate→R9
open IntKind renaming wrap→V9
open Go.RowKit Go.Proofs.Tryz
set_option maxHeartbeats 1000000
section
attribute [local irreducible] UL bM
theorem L5(be:Nat)(E:Vk):CI prog 83 [.p be] (Vr be E) (λ_ cs=>∃ml fl,cs=Vr be ⟨E.bc,E.mr,E.room,⟨ml,none,0,fl,[],[]⟩,[],E.last,E.S9,E.S8,E.begun⟩):=λw hi=>by
 refine UH func83 ntmps83 hi ?_;refine UA ?_;refine dE (Vu E.bc E.room E.X) (λw hi hin=>BN E.bc E.room E.X w hin) ?_;rintro _ _ ⟨ml,fl,rfl,rfl⟩;refine Ux ?_;refine et (NZ I I Za) ?_;refine Uw ?_;refine Zn (mB (cin:=WF E.RZ) (cin':=[]) Zd (List.nil_sublist _) ?_);exact bI (Vr be ⟨E.bc,E.mr,E.room,⟨ml,none,0,fl,[],[]⟩,[],E.last,E.S9,E.S8,E.begun⟩) Zj (gK (cs':=Vr be ⟨E.bc,E.mr,E.room,⟨ml,none,0,fl,[],[]⟩,[],E.last,E.S9,E.S8,E.begun⟩) (.inr I) (aO _) I ⟨ml,fl,I⟩)
end
end Go.Ink
namespace Go.Ink
open List renaming length→J, replicate→R9
open IntKind renaming wrap→V9
open Go.RowKit Go.Proofs.Tryz
section
attribute [local irreducible] UL bM
theorem Pk:∀k,k<8->kG [k]=((2^k:Nat):Int):=by decide
end
end Go.Ink
namespace Go.Ink
open List renaming length→J, replicate→R9
open IntKind renaming wrap→V9
open Go.RowKit Go.Proofs.Tryz
section
attribute [local irreducible] UL bM
theorem Inv.okS{w0 w:World}{S:List Nat}{cs cin rest:List bH}(h:Inv w0 S cs w)(hp:ga cin cs rest):∀c,c∈cin->c.ok w:=λc hc=>h.ok c (hp.perm.symm.subset (List.mem_append_left _ hc))
end
end Go.Ink
namespace Go.Ink
open List renaming length→J, replicate→R9
open IntKind renaming wrap→V9
open Go.RowKit Go.Proofs.Tryz
section
attribute [local irreducible] UL bM
variable{W:World}
theorem lines1:kG [1]=2:=by decide
variable{n:Nat}{s:St}{U:Uo}{d:Un}
theorem tT{l:Li}{N m:Nat}(h:min (J l) m=N):J (l.take N)=N:=by rw[aU];omega
theorem EQ{A:Oa}{c N m:Nat}{l:Li}(h:Rd W .u8 A (J l) c l)(hN:min (J l) m=N):Rd W .u8 A N c (l.take N):=by
 have h2:=kz h N;rwa[tT hN]at h2
theorem P9(b:Nat)(Ao:Oa)(no co:Nat)(Ai:Oa)(ci:Nat)(inp:Li)(h64:J inp<=64)(A:Oa)(c:Nat)(l:Li)(hl:J l<=9223372036854775807)(N:Nat)(hN:min (J l) (64 - J inp)=N)(w:World)
  (hi:Inv w (bK [yV b Ao no co Ai (J inp) ci,b8 Ai ci inp]) [yV b Ao no co Ai (J inp) ci,b8 Ai ci inp] w) (h:∀w',cX (bK [yV b Ao no co Ai (J inp) ci,b8 Ai ci inp]) w w'->Rd w' .u8 A (J l) c l):
  Uz prog 154 [.p b,.slice A (J l) c] w [yV b Ao no co Ai (J inp) ci,b8 Ai ci inp] (λv cs=>∃Ai' ci',v= .i (N:Int)/\cs=[yV b Ao no co Ai' (J (inp++l.take N)) ci',b8 Ai' ci' (inp++l.take N)]):=by
 have hcap:=(h w (cX.refl _ _)).cap;have htl:=tT hN;refine UH func154 ntmps154 hi ?_;refine jG ?_;refine Zy (eA (Zv I) (Zv I) (show _=((64 - J inp:Nat):Int)from by rw[aN _ ⟨by omega,by omega⟩];omega)) ?_;refine Zy (Ny (Zv I) (Zv I) (show _=(N:Int)from by split<;>omega)) ?_;refine Ut ?_;refine bN (UK [8,11]) Zk (Im ?_);refine UF 7 I (eO N I ir (Zv I) (Zv I) qD Uq) ?_;refine fS ?_;refine jX I I (cu (e:=5) (sz:=1) (bytes:=1) I I Za I I (λw hi=>(EQ (h w hi.S1) hN)) cP gI O) ZJ I ?_;rintro _ _ ⟨A2,c2,rfl,rfl⟩;rw[show J inp+N=J (inp++l.take N) by rw[ar,htl],show ints .u8 inp++ints .u8 (l.take N)=ints .u8 (inp++l.take N)from bY inp (l.take N)];refine ZE 9 ?_;refine Ld 10 1 ?_;refine cQ 11 Zk (ke ?_);refine UG ?_;refine Vd ([row _ _ _,slv _ _ _ _ _ _]) ?_;exact⟨A2,c2,I,I⟩
theorem DQ(D:qK)(bm:Nat)(X:fv)(d:Un)(h64:J d.inp<=64)(A:Oa)(c:Nat)(l:Li)(hl:J l<=9223372036854775807)(w:World)(hi:Inv w (bK (lJ D bm X d)) (lJ D bm X d) w)(h:∀w',cX (bK (lJ D bm X d)) w w'->Rd w' .u8 A (J l) c l):
  Uz prog 107 [.p D.bs,.slice A (J l) c] w (lJ D bm X d) (λv cs=>∃X',v= .i (d.Tk l:Int)/\cs=lJ D bm X' (d.S3 l)):=by
 obtain⟨N,hN⟩:=Uk (d.Tk l);have hT:d.S3 l={d with inp:=d.inp++l.take N,SU:=bif decide (0<N)then bits .or .u32 d.SU 2 else d.SU}:=by unfold Un.S3;rw[hN]
 rw[hT,hN];unfold Un.Tk at hN;have HR:=λA c p w hi h=>nE D.bi p d.mask A c [1] (λx hx=>by simp at hx;omega) w hi h
 rw[lines1]at HR;refine UH func107 ntmps107 hi ?_;refine fo ?_;refine dE ([yV D.bcn X.Ao (J d.out) X.co X.Ai (J d.inp) X.ci,b8 X.Ai X.ci d.inp]) (λw hi hin=>P9 D.bcn X.Ao (J d.out) X.co X.Ai X.ci d.inp h64 A c l hl N hN w hin (λw' hk=>h w' (hi.TR (λc hc=>by simp only[lJ,aK,aI,aV]at hc|-;grind) hk))) ?_;rintro _ _ ⟨Ai',ci',rfl,rfl⟩;refine oI ?_ ?_<;>intro hc2
 .simp only[ah]at hc2;rw[ak (show 0<N by omega),ae];refine Uu ?_;refine jP ?_;rintro _ _ ⟨b18,rfl,rfl⟩;refine U5 ([ri D.bi d.SU d.mask]) (λw hi hin=>HR (sA b18) 1 d.SU w hin (λw' hk=>hi.TC Zi (Ur (slv 3 1 (sA b18) 1 1 (ints .i64 [1]))) hk)) ?_;refine UE ?_;exact bI (lJ D bm ⟨X.Ao,X.co,Ai',ci'⟩ {d with inp:=d.inp++l.take N,SU:=bits .or .u32 d.SU 2}) Zj Wq384
 simp only[aa]at hc2;rw[ao (show¬0<N by omega),ac];refine UE ?_;exact bI (lJ D bm ⟨X.Ao,X.co,Ai',ci'⟩ {d with inp:=d.inp++l.take N}) Zj Wq384
abbrev Θ(v:Vw)(Y:ν):List bH:=[UP v.s Y.X.Ad Y.X.cd,UU v.s Y.X.Ar Y.X.cr,b8 Y.Am Y.cm v.m,b8 Y.Ao Y.co v.o,b8 Y.Ai Y.ci v.i,b8 Y.Ak Y.ck v.k]
theorem vw_rd{w:World}{v:Vw}{Y:ν}(h:∀c,c∈Θ v Y->c.ok w)(hd:J v.s.d*4<=140737488355328)(hr:J v.s.r*4<=140737488355328):Nv w v Y:=
 ⟨⟨ee (h _ (.head _)),ee (h _ (.tail _ (.head _))),hd,hr⟩,ee (h _ (.tail _ (.tail _ (.head _)))),ee (h _ (.tail _ (.tail _ (.tail _ (.head _))))),ee (h _ (.tail _ (.tail _ (.tail _ (.tail _ (.head _)))))),ee (h _ (.tail _ (.tail _ (.tail _ (.tail _ (.tail _ (.head _)))))))⟩
theorem Fs(H:mY)(G:Vy)(hG:G.ok H.L.n)(ho:J G.d.out<=1000000000)(w:World)(h:∀c,c∈UY H G->c.ok w):
  Uz prog 20 [.p H.bg] w [] (λv cs=>∃Y,v=vv G.view Y/\cs=Θ G.view Y):=by
 obtain⟨s,X,Y,U,d,o⟩:=G;have hg:=hG.g;dsimp only at hg ho;obtain⟨hd16,hr16, -⟩:=St.fits hg.right;have hinp:=hg.dv.wf.inp;have hdk:=hg.dv.wf.SV;have h0:(vV H ⟨s,X,Y,U,d,o⟩ false).ok w:=h _ cE;have hst:kS w s X.Ad X.Ar X.cd X.cr:=⟨ee (h (UP s X.Ad X.cd) cE),ee (h (UU s X.Ar X.cr) cE),by omega,by omega⟩;have hm:(eY H.L U.m).ok w:=h _ cE;have hbu:(Mx H.D H.L.bm d).ok w:=h _ cE;have hir:(ri H.D.bi d.SU d.mask).ok w:=h _ cE;have hcn:(yV H.D.bcn Y.Ao (J d.out) Y.co Y.Ai (J d.inp) Y.ci).ok w:=h _ cE;have hou:(b8 Y.Ao Y.co d.out).ok w:=h _ cE;have hii:(b8 Y.Ai Y.ci d.inp).ok w:=h _ cE;have hdr:(Ns H.D.bdr H.D.bdk).ok w:=h _ cE;have hds:(FO H.D.bdk d.SV).ok w:=h _ cE;have HDr:∀w,(Ns H.D.bdr H.D.bdk).ok w->(FO H.D.bdk d.SV).ok w->Uz prog 77 [.p H.D.bdr] w [] (λv cs=>∃A' c',v= .slice A' (J d.SV) c'/\cs=[sl .u8 5 A' (J d.SV) c' d.SV]):=λw h h2=>by
  have e:=Mc H.D.bdr H.D.bdk d.SV w h h2
  simp_all
 refine UB func20 ntmps20 ?_;refine py ?_;refine ZN λb2=>?_;refine Ux ?_;refine WB 22 ?_;refine BT ?_;refine py ?_;refine jn ?_;refine Us ?_;refine bN (UK [48]) Zk (ZE 0 ?_);refine ZE 2 ?_;refine ZE 3 ?_;refine Ld 4 1 ?_;refine US 5 I (bL ir (Zv I)) (cS gx I) ?_;refine ZE 7 ?_;refine ZE 8 ?_;refine Ld 9 0 ?_;refine US 10 I (bL ir (Zv I)) (cS gx I) ?_;refine ZE 11 ?_;refine Ld 12 2 ?_;refine US 13 I (bL ir (Zv I)) (cS gx I) ?_;refine ZE 15 ?_;refine ZE 16 ?_;refine Ld 17 0 ?_;refine US 18 I (bL ir (Zv I)) (cS gx I) ?_;refine ZE 19 ?_;refine Ld 20 2 ?_;refine US 21 I (bL ir (Zv I)) (cS gx I) ?_;refine ZE 23 ?_;refine ZE 24 ?_;refine Ld 25 0 ?_;refine US 26 I (bL ir (Zv I)) (cS gx I) ?_;refine ZE 27 ?_;refine Ld 28 3 ?_;refine US 29 I (bL ir (Zv I)) (cS gx I) ?_;refine ZE 31 ?_;refine ZE 32 ?_;refine Ld 33 0 ?_;refine US 34 I (bL ir (Zv I)) (cS gx I) ?_;refine ZE 35 ?_;refine Ld 36 0 ?_;refine US 37 I (bL ir (Zv I)) (cS gx I) ?_;refine ZE 39 ?_;refine ZE 40 ?_;refine Ld 41 0 ?_;refine US 42 I (bL ir (Zv I)) (cS gx I) ?_;refine ZE 43 ?_;refine Ld 44 0 ?_;refine US 45 I (bL ir (Zv I)) (cS gx I) ?_;refine cQ 1 Zk (VF (λw hi=>u5 H ⟨s,X,Y,U,d,o⟩ w (bH.old h0 hi) (hst.SS hi)) ?_);rintro _ _ ⟨A1,c1,A2,c2,rfl,rfl⟩;refine cQ 6 Zk (VF (λw hi=>J0 H.L U.m w (bH.old hm hi)) ?_);rintro _ _ ⟨bx,rfl,rfl⟩;refine cQ 14 Zk (VF (λw hi=>vq H.D.bcn Y.Ao Y.co d.out Y.Ai (J d.inp) Y.ci ho w (bH.old hcn hi) (bH.old hou hi)) ?_);rintro _ _ ⟨A5,c5,rfl,rfl⟩;refine cQ 22 Zk (VF (λw hi=>Qe H.D.bcn Y.Ao (J d.out) Y.co Y.Ai Y.ci d.inp O w (bH.old hcn hi) (bH.old hii hi)) ?_);rintro _ _ ⟨A6,c6,rfl,rfl⟩;refine cQ 30 Zk (VF (λw hi=>HDr w (bH.old hdr hi) (bH.old hds hi)) ?_);rintro _ _ ⟨A7,c7,rfl,rfl⟩;refine cQ 38 Zk (VF (λw hi=>q9 H.D.bi d.SU d.mask w (bH.old hir hi)) ?_);refine Uw ?_;refine cQ 46 Zk (VF (λw hi=>yA H.D.bi d.SU d.mask w (bH.old hir hi)) ?_);refine Uw ?_;refine ZE 47 ?_;refine cQ 48 Zk (ZR ?_);refine pI ?_;exact bI (row b2 (Vw.cells (Vy.view ⟨s,X,Y,U,d,o⟩) ⟨⟨A1,c1,A2,c2⟩,some ⟨bx,0,none⟩,J U.m.data,A5,c5,A6,c6,A7,c7⟩) 46::Θ (Vy.view ⟨s,X,Y,U,d,o⟩) ⟨⟨A1,c1,A2,c2⟩,some ⟨bx,0,none⟩,J U.m.data,A5,c5,A6,c6,A7,c7⟩) Zj (mz (cs':=(Θ (Vy.view ⟨s,X,Y,U,d,o⟩) ⟨⟨A1,c1,A2,c2⟩,some ⟨bx,0,none⟩,J U.m.data,A5,c5,A6,c6,A7,c7⟩)) (.inl I) Zu I I Zh ir ir ⟨⟨⟨A1,c1,A2,c2⟩,some ⟨bx,0,none⟩,J U.m.data,A5,c5,A6,c6,A7,c7⟩,I,I⟩)
theorem ru(H:mY)(G:Vy)(k:Bool)(w:World)(h0:(vV H G k).ok w):CW prog 50 [.p H.bg] w (.bool k):=by
 refine UB func50 ntmps50 ?_;refine UE ?_;refine WB 22 ?_;refine BT ?_;exact oR
abbrev dgRow(R:vJ)(s:St)(X:eN):bH:=row R.bg (s.cells (.slice X.Ad (J s.d) X.cd) (.slice X.Ar (J s.r) X.cr)++[.p R.bx,.p R.by_]) 41
abbrev dbRow(R:vJ)(Y:fv)(d:Un):bH:=row R.by_ [.p R.K.bm,.w d.SU,.w d.mask,.w d.timer,.slice Y.Ao (J d.out) Y.co,.slice Y.Ai (J d.inp) Y.ci,.slice (sA R.bd) 1024 1024,.w (d.SA:Int),.w (d.place:Int),.w d.status] 103
abbrev dmRow(R:vJ)(n:Nat):bH:=row R.K.bm [.slice (sA R.K.bB) (n*64) (n*64),.slice (sA R.K.bT) n n] 89
theorem PY(R:vJ)(n:Nat)(s:St)(X:eN)(T:List TE)(Y:fv)(d:Un)(data:Li)(hda:J data=n*64)(hdk:J d.SV=1024)(w:World)(h0:(dgRow R s X).ok w)(h1:(fw R.bx R.K.bm T).ok w)(h2:(dmRow R n).ok w)(h3:(dbRow R Y d).ok w):
  CW prog 21 [.p R.bg] w (vv ⟨s,data,d.out,d.inp,d.SV,d.SU,d.mask,false⟩ ⟨X,some ⟨R.K.bB,0,none⟩,n*64,Y.Ao,Y.co,Y.Ai,Y.ci,some ⟨R.bd,0,none⟩,1024⟩):=by
 unfold vv Vw.cells;dsimp only;rw[hda,hdk];refine UB func21 ntmps21 ?_;refine py ?_;refine ZN λb2=>?_;refine Us ?_;refine bN (UK [50]) Zk (rK ?_);refine US 3 I (cj (vs:=s.cells (.slice X.Ad (J s.d) X.cd) (.slice X.Ar (J s.r) X.cr)) ir ir ne) (oz (o:=0) h0 I) ?_;refine ZE 4 ?_;refine ZE 5 ?_;refine Ld 6 16 ?_;refine QU ?_;refine ZE 8 ?_;refine Ld 9 0 ?_;refine US 10 I (bL ir (Zv I)) (cS gx I) ?_;refine ZE 11 ?_;refine Ld 12 0 ?_;refine US 13 I (bL ir (Zv I)) (cS gx I) ?_;refine ZE 14 ?_;refine ZE 15 ?_;refine Ld 16 17 ?_;refine US 17 I (bL ir (Zv I)) (cS gx I) ?_;refine ZE 18 ?_;refine Ld 19 4 ?_;refine US 20 I (bL ir (Zv I)) (cS gx I) ?_;refine ZE 21 ?_;refine ZE 22 ?_;refine Ld 23 17 ?_;refine US 24 I (bL ir (Zv I)) (cS gx I) ?_;refine ZE 25 ?_;refine Ld 26 5 ?_;refine US 27 I (bL ir (Zv I)) (cS gx I) ?_;refine ZE 28 ?_;refine ZE 29 ?_;refine Ld 30 17 ?_;refine US 31 I (bL ir (Zv I)) (cS gx I) ?_;refine ZE 32 ?_;refine Ld 33 6 ?_;refine US 34 I (bL ir (Zv I)) (cS gx I) ?_;refine ZE 35 ?_;refine ZE 36 ?_;refine Ld 37 17 ?_;refine US 38 I (bL ir (Zv I)) (cS gx I) ?_;refine ZE 39 ?_;refine Ld 40 1 ?_;refine US 41 I (bL ir (Zv I)) (cS gx I) ?_;refine ZE 42 ?_;refine ZE 43 ?_;refine Ld 44 17 ?_;refine US 45 I (bL ir (Zv I)) (cS gx I) ?_;refine ZE 46 ?_;refine Ld 47 2 ?_;refine US 48 I (bL ir (Zv I)) (cS gx I) ?_;refine ZE 49 ?_;refine cQ 50 Zk (ZR ?_);refine pI ?_;exact D2
theorem wY(H:mY)(G:Vy)(h64:J G.d.inp<=64)(A:Oa)(c:Nat)(l:Li)(hl:J l<=9223372036854775807)(w:World)(hi:Inv w (bK (UY H G)) (UY H G) w)(h:∀w',cX (bK (UY H G)) w w'->Rd w' .u8 A (J l) c l):
  Uz prog 60 [.p H.bg,.slice A (J l) c] w (UY H G)
   (λv cs=>∃Y',v= .i (G.d.Tk l:Int)/\cs=UY H ⟨G.s,G.X,Y',G.U,G.d.S3 l,G.o⟩):=by
 obtain⟨s,X,Y,U,d,o⟩:=G;dsimp only at h64|-;have HB:=DQ H.D H.L.bm Y d h64 A c l hl;obtain⟨d2,hd⟩:=Uk (d.S3 l);obtain⟨N,hN⟩:=Uk (d.Tk l);rw[hd,hN]at HB|-;refine UH func60 ntmps60 hi ?_;refine eK ?_;refine WB 22 ?_;refine kU ?_;refine UE ?_;refine dE (lJ H.D H.L.bm Y d) (λw hi hin=>HB w hin (λw' hk=>h w' (hi.Tn Zi hk))) ?_;rintro _ _ ⟨Y2,rfl,rfl⟩;refine Ut ?_;refine bI (UY H ⟨s,X,Y2,U,d2,o⟩) Zj (Vd ((UY H ⟨s,X,Y2,U,d2,o⟩)) ?_);exact⟨Y2,I,I⟩
end
end Go.Ink
namespace Go.Ink
open List renaming length→J
open IntKind renaming wrap→V9
open Go.RowKit Go.Proofs.Tryz
variable{args:List Value}{w:World}{rest:List bH}{K1:Value->List bH->Prop}
theorem Uz.via{P:Program}{f:FuncId}{cs0 cin:List bH}{K:Value->List bH->Prop}(h1:Inv w (bK cs0) (cin++rest) w)(hc:Inv w (bK cin) cin w->Uz P f args w cin K1)
  (hk:∀v cout w',K1 v cout->Inv w (bK cs0) (cout++rest) w'->∃cs',K v cs'/\Inv w (bK cs0) cs' w'):Uz P f args w cs0 K:=by
 have hi:Inv w (bK cin) cin w:=⟨cX.refl _ _,(List.nodup_append.1 (by have:=h1.nodup;rw[eT]at this;exact this)).1,λc hc=>h1.ok c (aK.2 (.inl hc)),λb hb=> .inl hb⟩;refine Calls.mono (hc hi) λe w' hq=>?_
 obtain⟨v,cout,rfl,hk1,hi2⟩:=hq;have h3:Inv w (bK cs0) (cout++rest) w':=h1.step (cin:=cin) (rest:=rest) (cout:=cout) (.refl _) (.refl _) hi2.S1 hi2
 grind
variable{P:qG}{H:mY}{G:Vy}
variable{bp:Nat}{gs:List MG}{i:Nat}{g:MG}
theorem ItR.S6(x:ItR):J x.cells=4:=rfl
theorem OuR.S6(z:OuR):J z.cells=25:=rfl
theorem Wx.set{m:Wx}{i:Nat}{g:MG}{P:qG}(h:i<J m.gs):(Wx.mk m.bp m.A m.c P (m.gs.set i g)).l=m.l.set i g.abs:=List.map_set
theorem oJ.flush{E:Vk}(h:oJ E)(ml:Nat)(fl:Int):oJ ⟨E.bc,E.mr,E.room,⟨ml,none,0,fl,[],[]⟩,[],E.last,E.S9,E.S8,E.begun⟩:=
 ⟨qI.none h.ca.rm _ _ _ _,h.eg.flush,(λy hy=>nomatch hy),h.last⟩
section
attribute [local irreducible] UL bM
theorem Bn(H:mY)(G:Vy)(n:Nat)(hG:G.ok n):CI prog 47 [.p H.bg] (UY H G) (λ_ cs=>∃G',(G'.ok n/\(G'.s,G'.U,G'.d)=(G.s,G.U,G.d))/\cs=UY H G'):=λw hi=>by
 obtain⟨s,X,Y,U,d,o⟩:=G;cases o with
 |none=>
  refine UH func47 ntmps47 hi ?_;refine UE ?_;refine jn ?_;refine Zc (bI (UY H ⟨s,X,Y,U,d,none⟩) Zj ?_);exact gK (cs':=(UY H ⟨s,X,Y,U,d,none⟩)) (.inr I) Zu I ⟨⟨s,X,Y,U,d,none⟩,⟨hG,I⟩,I⟩
 |some E=>
  have hE:=hG.e E I;refine UH func47 ntmps47 hi ?_;refine UE ?_;refine mV ?_;refine Zr (IY (bs:=bK (Vr H.be E)) (F:=λ_:Unit=>Vr H.be E) (hb:=λ_=>I) (p:=λ_=>True) Zd (λ_ _=>?_));refine Ut ?_;refine dE (Vr H.be E) (λw hi hin=>L5 H.be E w hin) ?_;rintro _ _ ⟨ml,fl,rfl⟩;refine xE (Vr H.be ⟨E.bc,E.mr,E.room,⟨ml,none,0,fl,[],[]⟩,[],E.last,E.S9,E.S8,E.begun⟩) Zi (Zn (bI (UY H ⟨s,X,Y,U,d,some ⟨E.bc,E.mr,E.room,⟨ml,none,0,fl,[],[]⟩,[],E.last,E.S9,E.S8,E.begun⟩⟩) Zj ?_));exact gK (cs':=(UY H ⟨s,X,Y,U,d,some ⟨E.bc,E.mr,E.room,⟨ml,none,0,fl,[],[]⟩,[],E.last,E.S9,E.S8,E.begun⟩⟩)) (.inr I) Zu I ⟨⟨s,X,Y,U,d,some ⟨E.bc,E.mr,E.room,⟨ml,none,0,fl,[],[]⟩,[],E.last,E.S9,E.S8,E.begun⟩⟩,⟨⟨hG.g,λE' h=>by cases h;exact hE.flush ml fl⟩,I⟩,I⟩
theorem Dx(b:Nat)(A:Oa)(c:Nat)(n:Int)(hn:n<0\/8<=n)(w:World)(h:Rd w .i64 A 1 c [n]):CW prog 62 [.p b,.slice A 1 c] w (.bool false):=by
 obtain⟨ad,rfl⟩:=h.some_ O;refine UB func62 ntmps62 ?_;refine IK ?_;refine UX (λ_:Unit=>[(0,.p b),(5,.w 0),(8,.slice (some ad) 1 c),(9,.i 1),(10,.i 0)]) (λ_=>[]) (λ_=>True) (λ_=>0) (()) iF ?_;rintro - -;refine UA ?_;refine mV ?_;refine UA ?_;refine Zy (cW (j:=0) I ir (Zv I) (Zv I) Uq Uq) ?_;refine dW (bL ir ne) (dG h I) I (jG ?_);refine bV I (Do) (fo ?_);exact vB
theorem Bi(H:mY)(G:Vy)(A:Oa)(c:Nat)(n:Int)(w:World)(hi:Inv w (bK (UY H G)) (UY H G) w)(h:∀w',cX (bK (UY H G)) w w'->Rd w' .i64 A 1 c [n]):
  Uz prog 62 [.p H.D.bi,.slice A 1 c] w (UY H G) (λv cs=>v= .bool (!(decide (n<0)||decide (8<=n)))/\cs=UY H ⟨G.s,G.X,G.Y,G.U,bif decide (n<0)||decide (8<=n)then G.d else G.d.raise n.toNat,G.o⟩):=by
 obtain⟨s,X,Y,U,d,o⟩:=G;cases hb:(decide (n<0)||decide (8<=n))with
 |true=>
  rw[Bool.or_eq_true,ah,ah]at hb;refine Uz.via (cin:=[]) (rest:=UY H ⟨s,X,Y,U,d,o⟩) hi (λ_=>Dx H.D.bi A c n hb w (h w (cX.refl _ _))) ?_
  grind
 |false=>
  rw[aY,aa,aa]at hb;obtain⟨k,rfl⟩:∃k:Nat,n=k:=ai O;obtain⟨R,hs,hs2⟩:∃R,ga [ri H.D.bi d.SU d.mask] (UY H ⟨s,X,Y,U,d,o⟩) R/\ga [ri H.D.bi (d.raise k).SU d.mask] (UY H ⟨s,X,Y,U,d.raise k,o⟩) R:=⟨_,by repeat (first|exact .nil _|(apply ga.cons;(repeat (first|exact .head _ _|apply V5.tail)))),by repeat (first|exact .nil _|(apply ga.cons;(repeat (first|exact .head _ _|apply V5.tail))))⟩;refine Uz.via (hi.perm hs.perm) (λhi2=>nE H.D.bi d.SU d.mask A c [k] (λx hx=>by grind) w hi2 (λw' hk=>h w' (hi.Tn hs hk))) ?_;rintro v cout w' ⟨rfl,rfl⟩ h3;exact⟨_,⟨I,I⟩,h3.perm hs2.perm.symm⟩
end
end Go.Ink
namespace Go.Ink
open List renaming length→J, replicate→R9
open IntKind renaming wrap→V9
open Go.RowKit Go.Proofs.Tryz
variable{d:Un}{c:Int}
variable{k:Nat}
section
attribute [local irreducible] UL bM
variable{n:Nat}{s:St}{U:Uo}
theorem shl_one:∀k:Nat,k<8->V9 .u32 (1*2^(min ((k:Nat):Int).toNat IntKind.u32.bits))=((2^k:Nat):Int):=by decide
theorem EvR.S6(a:EvR):J a.cells=3:=rfl
theorem CH(b bm bd:Nat)(Z:fv)(d:Un)(h64:J d.inp<=64)(A:Oa)(c:Nat)(l:Li)(hl:J l<=1000)(w:World)(hi:Inv w (bK (eW b bm bd Z d)) (eW b bm bd Z d) w)(h:∀w',cX (bK (eW b bm bd Z d)) w w'->Rd w' .u8 A (J l) c l):
  Uz prog 61 [.p b,.slice A (J l) c] w (eW b bm bd Z d) (λv cs=>∃Z',v= .i (d.Tk l:Int)/\cs=eW b bm bd Z' (d.S3 l)):=by
 have hcap:=(h w (cX.refl _ _)).cap;obtain⟨N,hN⟩:=Uk (d.Tk l);have hT:d.S3 l={d with inp:=d.inp++l.take N,SU:=bif decide (0<N)then bits .or .u32 d.SU 2 else d.SU}:=by unfold Un.S3;rw[hN]
 rw[hT,hN];unfold Un.Tk at hN;have htl:=tT hN;obtain⟨pe,ma,ti,ou,inp,dk,se,pl,st⟩:=d;obtain⟨Ao,co,Ai,ci⟩:=Z;dsimp only at hN h64 htl|-;refine UH func61 ntmps61 hi ?_;refine fo ?_;refine Zy (eA (Zv I) (Zv I) (show V9 .i64 ((64:Int) - (J inp:Int))=((64 - J inp:Nat):Int)from by rw[aN _ ⟨by omega,by omega⟩];omega)) ?_;refine Us ?_;refine cq (λn:Nat=>[(0,.p b),(1,.slice A (J l) c),(5,.i (n:Int))]) (λ_=>[row b [.p bm,.w pe,.w ma,.w ti,.slice Ao (J ou) co,.slice Ai (J inp) ci,.slice (sA bd) 1024 1024,.w (se:Int),.w (pl:Int),.w st] 103,b8 Ao co ou,V6 Ai (J inp) ci (ints .u8 inp),FO bd dk]) (λn=>n=N) ?_ ?_
 .refine V1 ?_ ?_<;>intro hc2
  .simp only[ah]at hc2;refine Uu ?_;refine UN (J l) O
  simp only[aa]at hc2;refine Zc (UN ((64 - J inp)) O)
 rintro n rfl;refine Zs (ik (UK [6,10,13]) [(0,0),(2,0),(3,0),(4,0),(5,4),(7,0),(8,0),(9,0),(1,2),(6,2),(10,2),(11,0),(12,0),(13,2)] Zk Zk ?_);refine mK ?_;refine MY ?_;refine MU ?_;refine Nt ?_;refine mK ?_;refine mK ?_;refine dX I (eO n I ir (Zv I) (Zv I) qD Uq) I (dZ ?_);refine lv I I (i9 I I ir ir I I) ZJ I ?_;rintro _ _ ⟨b19,rfl,rfl⟩;refine dZ ?_;refine lv I I (cu (e:=5) (sz:=1) (bytes:=1) I I Za I I (λw hi=>uq (hi.get (Ur (V6 Ai (J inp) ci (ints .u8 inp))))) cP gI O) ZJ I ?_;rintro _ _ ⟨A2,c2,rfl,rfl⟩;simp only[bA,aJ];refine dZ ?_;refine lv I I (cu (e:=5) (sz:=1) (bytes:=1) I I Za I I (λw hi=>(EQ (h w hi.S1) hN)) cP gI O) ZJ I ?_;rintro _ _ ⟨A3,c3,rfl,rfl⟩;rw[show J inp+n=J (inp++l.take n) by rw[ar,htl],show ints .u8 inp++ints .u8 (l.take n)=ints .u8 (inp++l.take n)from bY inp (l.take n)];refine dX I (zr ne) I (MU ?_);refine zd ?_;refine Uw ?_;refine kr (V1 ?_ ?_)<;>intro hc5
 .simp only[ah]at hc5;rw[ak (show 0<n by omega),ae];refine UE ?_;refine nQ ?_;refine Wq487 ?_;refine bI (eW b bm bd ⟨Ao,co,A3,c3⟩ ⟨bits .or .u32 pe 2,ma,ti,ou,inp++l.take n,dk,se,pl,st⟩) Zj (Vd ([row _ _ _,slv _ _ _ _ _ _,V6 _ _ _ _,slv _ _ _ _ _ _]) ?_);exact⟨⟨Ao,co,A3,c3⟩,I,I⟩
 simp only[aa]at hc5;rw[ao (show¬0<n by omega),ac];refine UE ?_;refine Wq487 ?_;refine bI (eW b bm bd ⟨Ao,co,A3,c3⟩ ⟨pe,ma,ti,ou,inp++l.take n,dk,se,pl,st⟩) Zj (Vd ([row _ _ _,slv _ _ _ _ _ _,V6 _ _ _ _,slv _ _ _ _ _ _]) ?_);exact⟨⟨Ao,co,A3,c3⟩,I,I⟩
variable{o:Nat}
theorem WV.type(h:WV n o s U d){l:Li}(hl:UO l):WV n o s U (d.S3 l):=⟨(m7 h.g h.i hl).1,h.m,(m7 h.g h.i hl).2,h.o⟩
theorem WV.raise{n o:Nat}{s:St}{U:Uo}{d:Un}(h:WV n o s U d)(k:Nat):WV n o s U (d.raise k):=⟨(lU h.g h.i k).1,h.m,(lU h.g h.i k).2,h.o⟩
theorem Gg(n lo hi:Int)(w:World)(h0: -1000<=lo)(h1:lo<=hi)(h2:hi<=1000000000000):CW prog 12 [.i n,.i lo,.i hi] w (.i (gi n lo hi)):=by
 obtain⟨m,hm⟩:∃m,m=hi - lo+1:=⟨_,I⟩;obtain⟨t,ht⟩:∃t,t=n.tmod m:=⟨_,I⟩;have e1:t<m:=by rw[ht];exact Int.tmod_lt_of_pos _ O
 have e2: - m<t:=by
  have:=Int.tmod_lt_of_pos (-n) (b:=m) O;rw[Int.neg_tmod]at this;omega
 have e3:t%m=n%m:=by
  rw[ht,Int.tmod_eq_emod];split
  .simp
  rw[Int.natAbs_of_nonneg O];simp
 rw[hm]at ht e1 e2;refine Wq417 ?_;refine oI ?_ ?_<;>intro hc2
 .refine Us ?_;refine mT ?_;refine ZA ?_;refine rL ?_;refine mT ?_;refine Ux ?_;refine mT ?_;refine Ut ?_;refine VW ?_;simp only[ah]at hc2;refine⟨congrArg _ ?_,I⟩;unfold gi;rw[<-hm,<-e3];have e4:(t+m)%m=t%m:=by simp
  rw[<-e4,Int.emod_eq_of_lt O O];omega
 exact Wx38_
theorem B2.le{H:mY}{n o o2:Nat}{G:Vy}{U:Uo}(h:B2 H n o G U)(ho:o<=o2):B2 H n o2 G U:=⟨h.hn,h.ok,h.g.le ho,h.e,h.sd⟩
theorem B2.put{H:mY}{n o:Nat}{s:St}{X:eN}{Y:fv}{Mg Md:Uy}{Tg Td:List TE}{d:Un}{og:Option Vk}(h:B2 H n o ⟨s,X,Y,⟨Mg,Tg⟩,d,og⟩ ⟨Md,Td⟩){a:Nat}(ha:a<n*64){b:Int}(hb:0<=b/\b<=255):
  B2 H n o ⟨s,X,Y,⟨Mg.put a b,Tg⟩,d,og⟩ ⟨Md.put a b,Td⟩:=by
 obtain⟨h1,⟨g1,g2⟩,⟨k1,k2,k3,k4⟩,⟨e1,e2⟩,sd⟩:=h;dsimp only at g1 g2 k1 k2 k3 k4 e1 e2 sd;exact⟨h1,⟨⟨g1.wf,g1.right,⟨g1.u.m.put a hb,g1.u.t⟩,g1.dv,g1.lines⟩,g2⟩,⟨⟨k1.wf,k1.right,⟨k1.u.m.put a hb,k1.u.t⟩,k1.dv,k1.lines⟩,k2.put ha hb,k3,k4⟩,⟨by show Mg.data.set a b=Md.data.set a b;rw[e1],e2⟩,sd⟩
theorem D6.S6(a:D6):J a.cells=4:=rfl
def sq(n:Nat)(a:D6)(q:St×Uo×Un):St×Uo×Un:=
 bif gi a.kd 0 1000%7==1 then(q.1,q.2.1,q.2.2.S3 (a.bs.take 70))else bif gi a.kd 0 1000%7==2 then(q.1,q.2.1,q.2.2.raise (gi a.n 0 7).toNat)else bif gi a.kd 0 1000%7==3 then q else
 bif gi a.kd 0 1000%7==4 then(q.1,⟨q.2.1.m.put (a.at_.toNat%(n*64)) (V9 .u8 a.n),q.2.1.t⟩,q.2.2)else eH n (gi a.n (-1) 40) q.1 q.2.1 q.2.2
theorem PJ(H:mY)(R:vJ)(n:Nat)(hn1:1<=n)(hn:n<=64)(o:Nat)(ho:o<=100000000)(G:Vy)(U:Uo)(hP:B2 H n o G U)(X:eN)(Z:fv)(a:D6)(hbs:UO a.bs)(hat:u32 a.at_)(w:World)
  (hi:Inv w (bK (UY H G++WJ R n G.s X Z U G.d)) (UY H G++WJ R n G.s X Z U G.d) w) (hB:∀w',cX (bK (UY H G++WJ R n G.s X Z U G.d)) w w'->Rd w' .u8 a.B (J a.bs) a.cb a.bs) (ht:∀w',cX (bK (UY H G++WJ R n G.s X Z U G.d)) w w'->lG w'):
  Uz prog 46 [.p H.bg,.p R.bg,.agg a.cells.toArray] w (UY H G++WJ R n G.s X Z U G.d) (λv cs=>∃G' X' Z',(B2 H n (o+320) G' (sq n a (G.s,U,G.d)).2.1/\G'.s=(sq n a (G.s,U,G.d)).1/\G'.d=(sq n a (G.s,U,G.d)).2.2)/\v= .bool true/\cs=UY H G'++WJ R n G'.s X' Z' (sq n a (G.s,U,G.d)).2.1 G'.d):=by
 obtain⟨kd,en,at_,B,cb,bs⟩:=a;dsimp only at hbs hat hB|-;obtain⟨s,XG,Y,⟨Mg,Tg⟩,d,og⟩:=G;obtain⟨Md,Td⟩:=U;dsimp only at hi hB ht|-;obtain⟨km,hkm⟩:=Uk (gi kd 0 1000);have HW:=λw=>hkm▸lL kd 0 1000 w An An An
 have hkr:=kg kd 0 1000 An;obtain⟨nm,hnm⟩:=Uk (gi en 0 7);have HV:=λw=>hnm▸lL en 0 7 w An An An
 have hnr:=kg en 0 7 An;obtain⟨m,hm⟩:=Uk (gi en (-1) 40);have HM:=λw=>hm▸Gg en (-1) 40 w An An An
 have hmr:=kg en (-1) 40 An;rw[hkm]at hkr;rw[hnm]at hnr;rw[hm]at hmr;obtain⟨nm,rfl⟩:∃m:Nat,nm=m:=ai hnr.1;obtain⟨km,rfl⟩:∃m:Nat,km=m:=ai hkr.1;obtain⟨at_,rfl⟩:∃m:Nat,at_=m:=ai hat.1;have hE:sq n ⟨kd,en,(at_:Int),B,cb,bs⟩ (s,⟨Md,Td⟩,d)=bif km%7==1 then(s,⟨Md,Td⟩,d.S3 (bs.take 70))else bif km%7==2 then(s,⟨Md,Td⟩,d.raise nm)else bif km%7==3 then(s,⟨Md,Td⟩,d)else bif km%7==4 then(s,⟨Md.put (at_%(n*64)) (V9 .u8 en),Td⟩,d)else eH n m s ⟨Md,Td⟩ d:=by
  unfold sq;dsimp only;rw[hkm,hnm,hm,show((km:Int)%7)=((km%7:Nat):Int) by omega,show(((km%7:Nat):Int)==1)=(km%7==1)from lW _ 1,show(((km%7:Nat):Int)==2)=(km%7==2)from lW _ 2,show(((km%7:Nat):Int)==3)=(km%7==3)from lW _ 3,show(((km%7:Nat):Int)==4)=(km%7==4)from lW _ 4,aP,aP]
 have hr:=hB w (cX.refl _ _);have h64:=hP.g.i.i64;have hG:=hP.ok.g;dsimp only at h64 hG;have hml:J Md.data=n*64:=hP.g.m.m.dl;have h70:J (bs.take 70)<=1000:=by rw[aU];omega
 have H1:=wY H ⟨s,XG,Y,⟨Mg,Tg⟩,d,og⟩ h64 B cb (bs.take 70) O;have H2:=CH R.by_ R.K.bm R.bd Z d h64 B cb (bs.take 70) h70;have hP1:B2 H n (o+320) ⟨s,XG,Y,⟨Mg,Tg⟩,d.S3 (bs.take 70),og⟩ ⟨Md,Td⟩:=⟨hP.hn,⟨(m7 hG hP.g.i (Eo hbs 70)).1,hP.ok.e⟩,(hP.g.type (Eo hbs 70)).le O,hP.e,hP.sd⟩;obtain⟨T,hT⟩:=Uk (d.S3 (bs.take 70));obtain⟨N,hN⟩:=Uk (d.Tk (bs.take 70));dsimp only at H1;rw[hT]at H1 H2 hP1;rw[hN]at H1 H2;have hz:(decide ((nm:Int)<0)||decide (8<=(nm:Int)))=false:=by rw[aY];exact⟨ao O,ao O⟩
 have H3:=λA c w hi h=>Bi H ⟨s,XG,Y,⟨Mg,Tg⟩,d,og⟩ A c (nm:Int) w hi h
 rw[hz]at H3;dsimp only[ac,Bool.not_false]at H3;rw[aP]at H3;have hP2:B2 H n (o+320) ⟨s,XG,Y,⟨Mg,Tg⟩,d.raise nm,og⟩ ⟨Md,Td⟩:=⟨hP.hn,⟨(lU hG hP.g.i nm).1,hP.ok.e⟩,(hP.g.raise nm).le O,hP.e,hP.sd⟩;obtain⟨L,hL⟩:=Uk (kG [nm]);have hL2:V9 .u32 (1*2^(min (nm:Int).toNat IntKind.u32.bits))=L:=by rw[<-hL,Pk nm O];exact shl_one nm O
 unfold Un.raise at H3 hP2;rw[hL]at H3 hP2;have haz:at_%(n*64)<n*64:=Nat.mod_lt _ O;obtain⟨pl,hpl⟩:=Uk (at_%(n*64));rw[hpl]at haz;obtain⟨b,hb⟩:=Uk (V9 .u8 en);have hb2:0<=b/\b<=255:=by rw[<-hb,IntKind.wrap_u8];omega
 have hP3:=(hP.put haz hb2).le (show o<=o+320 by omega);have H4:=λw hi ht=>yJ H ⟨s,XG,Y,⟨Mg,Tg⟩,d,og⟩ (by rw[hP.hn];omega) (by rw[hP.hn];exact hP.ok) m O O (by have:=hP.g.o;dsimp only at this|-;omega) w hi ht
 have H5:=Aa R.K R.bx n R.by_ R.bd Z s X ⟨Md,Td⟩ d o hP.g m O O O;have hP4:=λG' a b=>hP.run (G':=G') m a b
 rw[hP.hn]at H4;dsimp only at H4 hP4;obtain⟨⟨s3,U3,d3⟩,hq3⟩:=Uk (eH n m s ⟨Mg,Tg⟩ d);obtain⟨⟨s2,U2,d2⟩,hq2⟩:=Uk (eH n m s ⟨Md,Td⟩ d);rw[hq3]at H4;rw[hq2]at H5;rw[hq3,hq2]at hP4;dsimp only at H4 H5 hP4;rw[hT]at hE;unfold Un.raise at hE;rw[hL,hpl,hb,hq2]at hE;obtain⟨⟨s9,U9,d9⟩,hq⟩:=Uk (sq n ⟨kd,en,(at_:Int),B,cb,bs⟩ (s,⟨Md,Td⟩,d));rw[hq]at hE|-;dsimp only;have hE:=hE.symm;refine UH func46 ntmps46 hi ?_;refine py ?_;refine ZO λb5=>?_;refine UG ?_;refine UD (λw hi=>HW w) ?_;refine Zy (fH (Zv I) (Zv I) O (show _=((km%7:Nat):Int)from by rw[aw O];omega)) ?_;refine Uu ?_;refine Zy (oK (Zv I) (Zv I) (lW _ 1)) ?_;refine Vs ?_ ?_<;>intro hc2
 .rw[hc2,ae,aD,aD]at hE;obtain⟨rfl,rfl,rfl⟩:=hE;refine Ut ?_;refine UD (λw hi=>FR B cb bs 70 w hr.cap) ?_;refine Ut ?_;refine bN (Wz [2,8] (pk R.bg (dgL R s X))) Zk (mW ?_);refine ZE 3 ?_;refine ZE 4 ?_;refine Ld 5 17 ?_;refine fD 6 I Zk Zk Zk (bL ir ne) (dD I) (bO (t:=41) Zh) I (ZE 7 ?_);refine cQ 2 Zk (jX I I (eE (UY H ⟨s,XG,Y,⟨Mg,Tg⟩,d,og⟩) I (λ_ _=>I) Zi (λw hi hin=>H1 w hin (λw' hk=>kz (hB w' (hi.Tn Zi hk)) 70))) (λ_=>by rintro _ _ ⟨_,⟨Y2,rfl,rfl⟩,rfl⟩;exact bO (t:=41) Zh) I ?_);rintro _ _ ⟨_,⟨Y2,rfl,rfl⟩,rfl⟩;refine fS ?_;refine jX I I (eE (eW R.by_ R.K.bm R.bd Z d) I (λ_ _=>I) Zi (λw hi hin=>H2 w hin (λw' hk=>kz (hB w' (hi.Tn Zi hk)) 70))) (λ_=>by rintro _ _ ⟨_,⟨Z2,rfl,rfl⟩,rfl⟩;exact bO (t:=41) Zh) I ?_;rintro _ _ ⟨_,⟨Z2,rfl,rfl⟩,rfl⟩;refine UF 9 I (oK (Zv I) (Zv I) (beq_self_eq_true _)) ?_;refine ZE 10 ?_;refine fe ?_;refine Ut ?_;refine bI (UY H ⟨s,XG,Y2,⟨Mg,Tg⟩,T,og⟩++WJ R n s X Z2 ⟨Md,Td⟩ T) Zj (Vd ((UY H ⟨s,XG,Y2,⟨Mg,Tg⟩,T,og⟩++WJ R n s X Z2 ⟨Md,Td⟩ T)) ?_);exact⟨⟨s,XG,Y2,⟨Mg,Tg⟩,T,og⟩,X,Z2,⟨⟨hP1.hn,⟨hP1.ok.g,hP1.ok.e⟩,hP1.g,hP1.e,hP1.sd⟩,I,I⟩,I,I⟩
 rw[hc2,ac]at hE;refine py ?_;refine Zy (oK (Zv I) (Zv I) (lW _ 2)) ?_;refine Vs ?_ ?_<;>intro hc5
 .rw[hc5,ae,aD,aD]at hE;obtain⟨rfl,rfl,rfl⟩:=hE;refine Ut ?_;refine UD (λw hi=>HV w) ?_;refine Ut ?_;refine bN (UK [17]) Zk (mW ?_);refine Ld 2 17 ?_;refine sP ?_;refine Ld 6 17 ?_;refine ZG 7 ?_;refine ZE 8 ?_;refine Ld 9 1 ?_;refine ZG 10 ?_;refine ZE 11 ?_;refine UF 12 I (cA I I (Zv I) (show _=(nm:Int)from by first|exact u64_wrap_id _ O O|exact uint_wrap_id _ O O)) ?_;refine UF 13 I (tI (Zv I) (Zv I) O hL2) ?_;refine ZE 14 ?_;refine QQ ?_;refine gX ?_;refine jP ?_;rintro _ _ ⟨b62,rfl,rfl⟩;refine U5 (UY H ⟨s,XG,Y,⟨Mg,Tg⟩,d,og⟩) (λw hi hin=>H3 (sA b62) 1 w hin (λw' hk=>hi.TC Zi (Ur (slv 3 1 (sA b62) 1 1 (ints .i64 [(nm:Int)]))) hk)) ?_;refine UA ?_;refine bI (UY H ⟨s,XG,Y,⟨Mg,Tg⟩,{d with SU:=bits .or .u32 d.SU L},og⟩++WJ R n s X Z ⟨Md,Td⟩ {d with SU:=bits .or .u32 d.SU L}) Zj (Vd ((UY H ⟨s,XG,Y,⟨Mg,Tg⟩,{d with SU:=bits .or .u32 d.SU L},og⟩++WJ R n s X Z ⟨Md,Td⟩ {d with SU:=bits .or .u32 d.SU L})) ?_);exact⟨⟨s,XG,Y,⟨Mg,Tg⟩,{d with SU:=bits .or .u32 d.SU L},og⟩,X,Z,⟨hP2,I,I⟩,I,I⟩
 rw[hc5,ac]at hE;refine py ?_;refine Zy (oK (Zv I) (Zv I) (lW _ 3)) ?_;refine Vs ?_ ?_<;>intro hc9
 .rw[hc9,ae,aD,aD]at hE;obtain⟨rfl,rfl,rfl⟩:=hE;refine Us ?_;refine dE (UY H ⟨s,XG,Y,⟨Mg,Tg⟩,d,og⟩) (λw hi hin=>Bn H ⟨s,XG,Y,⟨Mg,Tg⟩,d,og⟩ n hP.ok w hin) ?_;rintro _ _ ⟨⟨s6,X6,Y6,U6,d6,o6⟩,⟨h6,e6⟩,rfl⟩;simp only[aD]at e6;obtain⟨rfl,rfl,rfl⟩:=e6;refine eK ?_;refine bI (UY H ⟨s6,X6,Y6,⟨Mg,Tg⟩,d6,o6⟩++WJ R n s6 X Z ⟨Md,Td⟩ d6) Zj (Vd ((UY H ⟨s6,X6,Y6,⟨Mg,Tg⟩,d6,o6⟩++WJ R n s6 X Z ⟨Md,Td⟩ d6)) ?_);exact⟨⟨s6,X6,Y6,⟨Mg,Tg⟩,d6,o6⟩,X,Z,⟨⟨hP.hn,h6,hP.g.le O,hP.e,hP.sd⟩,I,I⟩,I,I⟩
 rw[hc9,ac]at hE;refine py ?_;refine Zy (oK (Zv I) (Zv I) (lW _ 4)) ?_;refine Vs ?_ ?_<;>intro hc12
 .rw[hc12,ae,aD,aD]at hE;obtain⟨rfl,rfl,rfl⟩:=hE;refine Zs (bN (UK []) Zk ?_);refine Ld 0 2 ?_;refine ZG 1 ?_;refine ZE 2 ?_;refine ZE 3 ?_;refine Ld 4 16 ?_;refine ZG 5 ?_;refine ZE 6 ?_;refine Ld 7 0 ?_;refine ZG 8 ?_;refine ZE 9 ?_;refine Ld 10 0 ?_;refine ZG 11 ?_;refine ZE 12 ?_;refine UF 13 I (cA I I (Zv I) (show _=((n*64:Nat):Int)from u32_wrap_id _ O O)) ?_;refine UF 14 I (fH (Zv I) (Zv I) O (show((at_:Nat):Int).tmod ((n*64:Nat):Int)=(pl:Int)from by rw[aw O,<-hpl];omega)) ?_;refine ZE 15 ?_;refine fe ?_;refine Uu ?_;refine Zy (cA I I ne hb) ?_;refine jG ?_;refine U5 (VT R.K n Md) (λw hi hin=>jw R.K n Md hP.g.m pl haz b w hin) ?_;refine eK ?_;refine U5 ([eY H.L Mg]) (λw hi hin=>uh H.L Mg pl (by rw[hP.hn];exact haz) b hb2 w hin) ?_;refine UA ?_;refine bI (UY H ⟨s,XG,Y,⟨Mg.put pl b,Tg⟩,d,og⟩++WJ R n s X Z ⟨Md.put pl b,Td⟩ d) Zj (Vd ((UY H ⟨s,XG,Y,⟨Mg.put pl b,Tg⟩,d,og⟩++WJ R n s X Z ⟨Md.put pl b,Td⟩ d)) ?_);exact⟨⟨s,XG,Y,⟨Mg.put pl b,Tg⟩,d,og⟩,X,Z,⟨hP3,I,I⟩,I,I⟩
 rw[hc12,ac,aD,aD]at hE;obtain⟨rfl,rfl,rfl⟩:=hE;refine Ux ?_;refine UD (λw hi=>HM w) ?_;refine jG ?_;refine bN (UK [14,17]) Zk (sU ?_);refine US 4 I (cj (vs:=s.cells (.slice X.Ad (J s.d) X.cd) (.slice X.Ar (J s.r) X.cr)) ir ir ne) (cI Zh I) ?_;refine qC ?_;refine Ld 7 16 ?_;refine ZG 8 ?_;refine ZE 9 ?_;refine ZE 10 ?_;refine Ld 11 17 ?_;refine ZG 12 ?_;refine ZE 13 ?_;refine cQ 14 Zk (rH (dsF R.K R.bx n R.by_ R.bd s X Z ⟨Md,Td⟩ d) (λw hi hin=>H5 w hin) ?_);rintro _ _ ⟨X2,Z2,rfl,rfl⟩;refine ZE 15 ?_;refine Ld 16 0 ?_;refine cQ 17 Zk (ft I I (fg (ys:=dgL R s2 X2) (n:=16) (vs:=s2.cells (.slice X2.Ad (J s2.d) X2.cd) (.slice X2.Ar (J s2.r) X2.cr)) I ir I I (ka I) Za I (Nat.le_of_ble_eq_true I)) ZJ ?_);refine Uw ?_;refine pI ?_;refine bN (Wz [2] (pk R.bg (dgL R s2 X2))) Zk (mW ?_);refine ZE 3 ?_;refine ZE 4 ?_;refine Ld 5 0 ?_;refine Ld 6 14 ?_;refine fD 7 I Zk Zk Zk (bL ir ne) (dD I) (bO (t:=41) Zh) I (ZE 8 ?_);refine UF 9 I (eA ne ne I) ?_;refine UF 10 I (cA I I ne Zl) ?_;refine cQ 2 Zk (jX I I (eE (UY H ⟨s,XG,Y,⟨Mg,Tg⟩,d,og⟩) I (λ_ _=>I) Zi (λw hi hin=>H4 w hin (λw' hk=>ht w' (hi.Tn Zi hk)))) (λ_=>by rintro _ _ ⟨_,⟨⟨s7,X7,Y7,U7,d7,o7⟩,⟨h7,e7, -⟩,rfl,rfl⟩,rfl⟩;exact bO (t:=41) Zh) I ?_);rintro _ _ ⟨_,⟨⟨s7,X7,Y7,U7,d7,o7⟩,⟨h7,e7, -⟩,rfl,rfl⟩,rfl⟩;obtain⟨hP7,e8,e9⟩:=hP4 ⟨s7,X7,Y7,U7,d7,o7⟩ h7 e7;dsimp only at e8 e9;simp only[aD]at e7;obtain⟨rfl,rfl,rfl⟩:=e7;subst e8 e9;refine UF 11 I (oK (Zv I) (Zv I) (beq_self_eq_true _)) ?_;refine ZE 12 ?_;refine pI ?_;refine bI (UY H ⟨s7,X7,Y7,U7,d7,o7⟩++WJ R n s7 X2 Z2 U2 d7) Zj (Vd ((UY H ⟨s7,X7,Y7,U7,d7,o7⟩++WJ R n s7 X2 Z2 U2 d7)) ?_);exact⟨⟨s7,X7,Y7,U7,d7,o7⟩,X2,Z2,⟨hP7.le O,I,I⟩,I,I⟩
end
end Go.Ink
