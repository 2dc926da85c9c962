/- Lemmas. -/
import Derived.Test.YtepfimeihngjoaaGreatDoorYap
import Derived.Test.YtepfimeihngjoaaGreatDoorYaq
import Derived.Test.YtepfimeihngjoaaGreatDoorYar
set_option linter.all false
set_option maxRecDepth 100000
set_option maxHeartbeats 4000000
namespace Go.Ink
open List renaming length→J
open IntKind renaming wrap→V9
open Go.RowKit Go.Proofs.Tryz
variable{rest:List bH}{w0 w:World}
section
attribute [local irreducible] UL bM
def gR(LK:List (Ky×LS))(k:Ky):LS:=fX LK k LS.zero
variable{LK:List (Ky×LS)}{k:Ky}
theorem nD(h:cK (·.1) k LK=none):gR LK k=LS.zero:=uj h _
theorem nC{j:Nat}(h:cK (·.1) k LK=some j):∃x,LK[j]? =some (k,x)/\gR LK k=x:=by
 obtain⟨hj,hk⟩:=fj h;have hx:LK[j]? =some (k,LK[j].2):=by rw[aj hj,<-hk]
 exact⟨_,hx,qU h hx _⟩
theorem B3.put{keys:List Ky}(h:B3 keys LK){f t:Ky}(hf:lA f)(ht:t∈keys)(hn:t∉(gR LK f).ks)(A:Oa)(c:Nat):B3 keys (dP LK f ⟨A,c,(gR LK f).ks++[t]⟩):=by
 have hl:(gR LK f).ks.Nodup/\∀q,q∈(gR LK f).ks->q∈keys:=by
  cases hp:cK (λx:Ky×LS=>x.1) f LK with
  |some j=>obtain⟨x,hx,hl⟩:=nC hp;rw[hl];exact(h _ (az hx)).2
  |none=>rw[nD hp];exact⟨List.nodup_nil,λq hq=>nomatch hq⟩
 have hnew:lA f/\((gR LK f).ks++[t]).Nodup/\∀q,q∈(gR LK f).ks++[t]->q∈keys:=by
  refine⟨hf,?_,λq hq=>?_⟩
  .grind
  grind
 intro x hx;unfold dP at hx;cases hp:cK (λx:Ky×LS=>x.1) f LK with
 |some j=>
  rw[hp]at hx;rcases List.mem_or_eq_of_mem_set hx with hx|rfl
  .exact h x hx
  omega
 |none=>
  rw[hp]at hx;rcases aK.1 hx with hx|hx
  .exact h x hx
  grind
theorem lkTake{S:List Nat}(k:Ky)(h:Inv w0 S (cR (VJ LK)::rest) w):Inv w0 S (XI (gR LK k)::cR (wQ LK k)::rest) w:=by
 unfold wQ;cases hp:cK (λx:Ky×LS=>x.1) k LK with
 |some j=>
  obtain⟨x,hx,hl⟩:=nC hp;rw[hl];exact h.TL (Pf hp hx)
 |none=>
  rw[nD hp];exact(h.more (yE w [] 173 2)).perm (List.perm_append_singleton _ _)
theorem lkPut(LK:List (Ky×LS))(k:Ky)(x:LS):(VJ (dP LK k x)).Perm (XI x::wQ LK k):=by
 grind [wQ,dP,cK,fj,VJ,tq,List.map_set,List.perm_append_singleton]
theorem link_rd(h:(cR (VJ LK)).ok w):UJ w 2 (gR LK k).A (gR LK k).ks.length (gR LK k).c ((gR LK k).ks.flatMap cy):=by
 cases hp:cK (λx:Ky×LS=>x.1) k LK with
 |some j=>
  obtain⟨x,hx,hl⟩:=nC hp;rw[hl];exact de (qi h (XI x) (List.mem_map.2 ⟨_,az hx,I⟩))
 |none=>
  rw[nD hp];exact⟨I,aL _,ay _,λ_=>⟨I,I⟩,λad e=>nomatch e⟩
end
end Go.Ink
namespace Go.Ink
open List renaming length→J, replicate→R9
open IntKind renaming wrap→V9
open Go.RowKit Go.Proofs.Tryz
set_option maxHeartbeats 1000000
variable{x:Int}
variable{b:Int}
variable{r:Int}
variable{s:St}{n:Int}
section
attribute [local irreducible] UL bM
variable{n:Nat}
theorem uw{M:Uy}(h:M.ok n)(p:Nat):UO (iC M p):=λx hx=>h.db x (bD (aX (bD hx)))
theorem it_cur{b r:Nat}{L:List (Bool×Ky×Value)}{cur:Option (Ky×Value)}{w:World}(h:zo b r L cur w):zo b r L none w:=by
 obtain⟨es,clock,since,seen,c0,hb,hs,hr,hold,hsc,hsk,hL,hok,hne,hcur⟩:=h;exact⟨es,clock,since,seen,c0,hb,hs,hr,hold,hsc,hsk,hL,hok,hne,λ_ _ e=>by cases e⟩
structure Vk where
 bc:Nat
 mr:Nat
 room:Int
 X:VY
 RZ:List (Ky×RS)
 last:Ky
 S9:Int
 S8:Int
 begun:Bool
abbrev enR(be:Nat)(E:Vk):bH:=row be [.p E.bc,.map (some E.mr),.w E.last.1,.w E.last.2,.i E.S9,.i E.S8,.bool E.begun] 175
theorem BO{U:Uo}{d:Un}(h:Vp n s U d):Vp n (cL n s U d).1 (cL n s U d).2.1 (cL n s U d).2.2:=by
 rcases mg h with h1|⟨-, -,h3, -⟩
 .exact h1.g
 exact h3
end
end Go.Ink
namespace Go.Ink
open List renaming length→J, replicate→R9
open IntKind renaming wrap→V9
open Go.RowKit Go.Proofs.Tryz
section
attribute [local irreducible] UL bM
variable{α:Type}{f:α->Bool}{l:List α}{k:Nat}{x:α}
theorem F7(hx:l[k]? =some x)(h:(l.take k).all f=true)(hf:f x=true):(l.take (k+1)).all f=true:=by
 grind [List.take_add_one]
theorem Sj(hx:l[k]? =some x)(hf:f x=false):l.all f=false:=by
 grind
end
end Go.Ink
namespace Go.Ink
open List renaming length→J, replicate→R9
open IntKind renaming wrap→V9
open Go.RowKit Go.Proofs.Tryz
section
attribute [local irreducible] UL bM
theorem Hi(pc:Int)(w:Lw)(i:Int×Int)(l:List (Int×Int)):nB pc w (i::l)=bif(!eG i.1 i.2|| !dy i.1)||(gg i.1&& !l.isEmpty)then none else nB (V9 .u32 (pc+V9 .u32 (cw i.1))) (w.one i.1 i.2 (V9 .u32 (pc+V9 .u32 (cw i.1)))) l:=rfl
abbrev Vk.Tj(E:Vk)(X:VY):Vk:=⟨E.bc,E.mr,E.room,X,E.RZ,E.last,E.S9,E.S8,E.begun⟩
abbrev Vk.To(E:Vk)(RZ:List (Ky×RS)):Vk:=⟨E.bc,E.mr,E.room,E.X,RZ,E.last,E.S9,E.S8,E.begun⟩
end
end Go.Ink
namespace Go.Ink
open List renaming length→J, replicate→R9
open IntKind renaming wrap→V9
open Go.RowKit Go.Proofs.Tryz
theorem RP:St.new.wf:=⟨u0,u0,u0,u0,u0,u0,u0,⟨Int.le_refl _,show(0:Int)<=18446744073709551615 by decide⟩,λx hx=>(by cases hx),λx hx=>by cases hx⟩
variable{n:Nat}
theorem LH{l k:Li}(hl:J l<=n*64)(hb:UO l)(hk:J k<=1024)(hkb:UO k):Vp n St.new ⟨Uy.init n l,dA⟩ (Un.init k):=
 ⟨RP,rfl,⟨TB hl hb,qO⟩,Un.TB hk hkb,⟨Int.le_refl _,show(0:Int)<=255 by decide⟩⟩
section
attribute [local irreducible] UL bM
structure Nk(s:St):Prop where
 wf:s.wf
 pg:s.SJ=false
 ha:s.halted=false
 d:s.d=[]
 r:s.r=[]
 fl:s.right=true
 pc:64<=s.pc/\s.pc<=1063
 ve:64<=s.vec/\s.vec<=1063
theorem Nk.next{s:St}(h:Nk s):Nk (s.next.SL 10 s.pc):=
 ⟨Er (Ks h.wf) _ h.wf.pc,h.pg,h.ha,h.d,h.r,h.fl,h.ve,h.ve⟩
theorem rnM_put(RZ:List (Ky×RS))(k:Ky)(x:RS):WW (dP RZ k x)=dP (WW RZ) k x.r:=(EO RS.r RZ k x).symm
variable{k:Ky}
variable{RZ:List (Ky×RS)}
theorem rnPut(RZ:List (Ky×RS))(k:Ky)(x:RS):(WF (dP RZ k x)).Perm (rsC x::rX RZ k):=by
 grind [rX,dP,cK,fj,WF,tq,List.map_set,List.perm_append_singleton]
variable{s:St}
variable{U:Uo}{d:Un}
theorem zR{n:Nat}{m f:Int}:∀(k:Nat) {q:St×Uo×Un},Vp n q.1 q.2.1 q.2.2->(ju n m f k q).2.2.out.length<=J q.2.2.out+8*k
 |0,q,h=>by show J q.2.2.out<=_;omega
 |k+1,q,h=>by
  cases hc:fc m f q.1 with
  |false=>rw[jc hc];omega
  |true=>
   rw[mw hc];have h1:=zR (m:=m) (f:=f) k (BO h);have h2:(cL n q.1 q.2.1 q.2.2).2.2.out.length<=J q.2.2.out+8:=by
    rcases mg h with h3|⟨-, -, -,h3⟩
    .exact h3.out
    rw[h3];omega
   omega
theorem JI(m:Int){s:St}{U:Uo}{d:Un}(h:Vp n s U d):(eH n m s U d).2.2.out.length<=J d.out+8*m.toNat:=zR m.toNat (q:=(s,U,d)) h
end
end Go.Ink
namespace Go.Ink
open List renaming length→J, replicate→R9
open IntKind renaming wrap→V9
open Go.RowKit Go.Proofs.Tryz
variable{o:Int}
variable{L:ez}{k:Cb}
theorem ls.all{k0:Cb}(h:ls L k0 k (J (B6 k0.fr L.n)))(h0:nS L k0):∀p:Nat,p<L.n->k.fr[p]? =some (-1):=λp hp=>by
 have e:=h.fr p
 grind [E9]
section
attribute [local irreducible] UL bM
theorem Uy.T8(n:Nat):(Uy.new n).ok n:=⟨aB,λx hx=>by rw[List.eq_of_mem_replicate hx];decide,aB⟩
theorem Pe{n:Nat}{l k:Li}(hb:UO l)(hk:J k<=1024)(hkb:UO k):Vp n St.new ⟨Uy.load n l,dA⟩ (Un.init k):=
 ⟨RP,rfl,⟨(Uy.T8 n).fill 0 hb _,qO⟩,Un.TB hk hkb,⟨Int.le_refl _,show(0:Int)<=255 by decide⟩⟩
structure Vy where
 s:St
 X:eN
 Y:fv
 U:Uo
 d:Un
 o:Option Vk
def engV(be:Nat):Option Vk->Value
 |none=> .pointer none
 |some _=> .p be
end
end Go.Ink
namespace Go.Ink
open List renaming length→J, replicate→R9
open IntKind renaming wrap→V9
open Go.RowKit Go.Proofs.Tryz
section
attribute [local irreducible] UL bM
def Un.S3(d:Un)(l:Li):Un:={d with inp:=d.inp++l.take (d.Tk l),SU:=bif decide (0<d.Tk l)then bits .or .u32 d.SU 2 else d.SU}
def Un.raise(d:Un)(k:Nat):Un:={d with SU:=bits .or .u32 d.SU (kG [k])}
section
variable{n:Nat}{s:St}{U:Uo}{d:Un}{R:Um}
theorem H8(h:Vm d)(k count:Int):Vm (cz d k count).2:=by
 have ht:Vm {d with inp:=d.inp.tail}:=⟨by show J d.inp.tail<=64;rw[List.length_tail];have:=h.i64;omega⟩;unfold cz
 repeat (first|exact h|exact ht|refine bJ (λq:(Int×Bool)×Un=>Vm q.2) ?_ ?_)
theorem lode_in(h:Vm d)(va:Nat):Vm (eI n R U d va).d:=by
 unfold eI;refine bJ (λm:ek=>Vm m.d) h ?_;exact bJ (λm:ek=>Vm m.d) (H8 h _ _) h
theorem F5(h:Vm d):Vm (cF n s U d).d:=by
 unfold cF;refine bJ (λb:we=>Vm b.d) h ?_;unfold lF;exact bJ (λb:we=>Vm b.d) (Jl h _) (Jl h _)
end
variable{n:Nat}{s:St}{U:Uo}{d:Un}
theorem m7(h:Vp n s U d)(hi:Vm d){l:Li}(hl:UO l):Vp n s U (d.S3 l)/\Vm (d.S3 l):=by
 have hw:=h.dv.wf;have hlen:J (d.inp++l.take (d.Tk l))<=64:=by
  have:=hi.i64;unfold Un.Tk;rw[ar,aU];omega
 have hb:UO (d.inp++l.take (d.Tk l)):=λx hx=>(aK.1 hx).elim (hw.T4 x) (λq=>hl x (aX q))
 exact⟨⟨h.wf,h.right,h.u,⟨⟨hb,hw.SV,hw.Tw,hw.SA,hw.place,aR hlen An⟩,bJ u32 (eu .or d.SU 2) h.dv.SU,h.dv.mask,h.dv.timer,h.dv.status⟩,⟨h.lines.mask⟩⟩,⟨hlen⟩⟩
theorem lU(h:Vp n s U d)(hi:Vm d)(k:Nat):Vp n s U (d.raise k)/\Vm (d.raise k):=
 ⟨⟨h.wf,h.right,h.u,⟨h.dv.wf.re rfl rfl rfl rfl,eu .or d.SU _,h.dv.mask,h.dv.timer,h.dv.status⟩,⟨h.lines.mask⟩⟩,⟨hi.i64⟩⟩
theorem FV:BK Yn=[1,65,2,16,128,0,0,49,69]:=by decide
def RU(q:St×Uo×Un):Bool:=q.1.halted&&(q.1.count==4)&&(q.2.2.out==[65])&&(q.2.2.inp==[])
theorem Hn:RU (eH 2 9 St.new ⟨Uy.load 2 [1,65,2,16,128,0,0,49,69],dA⟩ (Un.init []))=true:=by decide+kernel
def Vy.view(G:Vy):Vw:=⟨G.s,G.U.m.data,G.d.out,G.d.inp,G.d.SV,G.d.SU,G.d.mask,false⟩
section
variable{n:Nat}{s:St}{U:Uo}{d:Un}{R:Um}
theorem BD(h:d.said)(k count:Int):(cz d k count).2.said:=by
 unfold cz
 repeat (first|exact h|refine bJ (λq:(Int×Bool)×Un=>q.2.said) ?_ ?_)
theorem KT(h:d.said)(va:Nat):(eI n R U d va).d.said:=by
 unfold eI;refine bJ (λm:ek=>m.d.said) h ?_;exact bJ (λm:ek=>m.d.said) (BD h _ _) h
theorem xk(h:d.said):(cF n s U d).d.said:=by
 unfold cF;refine bJ (λb:we=>b.d.said) h ?_;unfold lF;exact bJ (λb:we=>b.d.said) (zF h _) (zF h _)
theorem Lf(k:Li):(Un.init k).said:=λx hx=>by cases hx
end
end
end Go.Ink
namespace Go.Ink
open List renaming length→J, replicate→R9
open IntKind renaming wrap→V9
open Go.RowKit Go.Proofs.Tryz
structure UI(n:Nat)(M:Uy):Prop where
 m:M.ok n
 n1:1<=n
 n64:n<=64
 hi:∀j,n<=j->M.SD.getD j false=false
variable{i:Nat}{b:Bool}
theorem UI.put{n:Nat}{M:Uy}(h:UI n M){a:Nat}(ha:a<n*64){b:Int}(hb:0<=b/\b<=255):UI n (M.put a b):=
 ⟨h.m.put a hb,h.n1,h.n64,λj hj=>by
  show(M.SD.set (a/64) true).getD j false=false;rw[PI O];exact h.hi j hj⟩
theorem UI.SY{n:Nat}{M:Uy}(h:UI n M){a:Nat}(v:Int):∀k,a+k<=n*64->UI n (M.SY a v k)
 |0,_=>h
 |k+1,hk=>(UI.SY h v k O).put O (ku v k)
theorem UI.calm{n:Nat}{M:Uy}(h:UI n M):UI n M.calm:=⟨h.m.calm,h.n1,h.n64,λj _=>by
 show(R9 64 false).getD j false=false;rw[aM,List.getElem?_replicate];split<;>rfl⟩
variable{n:Nat}
theorem Gu{t:List Bool}(hn:n<=64)(h:∀j,n<=j->t.getD j false=false):dY (t.take n) n=dY t 64:=by
 unfold dY;have e1:(List.range n).filter (λf=>(t.take n).getD f false)=(List.range n).filter (λf=>t.getD f false):=List.filter_congr λj hj=>by
  rw[List.mem_range]at hj;rw[aM,aM,List.getElem?_take,if_pos hj]
 rw[e1];have e2:∀m,(List.range (n+m)).filter (λf=>t.getD f false)=(List.range n).filter (λf=>t.getD f false):=λm=>by
  induction m with
  |zero=>rfl
  |succ m ih=>
   rw[<-Nat.add_assoc,List.range_succ,List.filter_append,ih];simp only[List.filter_cons,h (n+m) O,List.filter_nil];simp
 have:=e2 (64 - n);rw[show n+(64 - n)=64 by omega]at this;rw[this]
theorem Hd{l:Int}(h:u32 l)(kind:Int):i3 l kind/256=l/256:=by
 unfold i3;cases(kind==3)
 .exact Int.Tq h 32 An
 refine gV ?_;rw[show(64:Int)=((64:Nat):Int)from I,Int.Tq (eu _ _ _) 64 An];exact Int.Tq h 32 An
section
attribute [local irreducible] UL bM
abbrev VT(K:gb)(n:Nat)(M:Uy):List bH:=oM K n M.data (M.SD.take n)
theorem jw(K:gb)(n:Nat)(M:Uy)(hM:UI n M)(a:Nat)(ha:a<n*64)(b:Int):CI prog 63 [.p K.bm,.w a,.int .u8 b] (VT K n M) (λv cs=>v= .tuple #[]/\cs=VT K n (M.put a b)):=λw hi=>by
 have hn:=hM.n64;unfold Uy.put VT;dsimp only;rw[Jq];refine UH func63 ntmps63 hi ?_;refine UG ?_;refine Zy (bW (j:=a) (sz:=1) (r:=a) I ir (Zv I) (Zv I) Uq Uq O) ?_;refine zc ?_;refine Uw ?_;rw[eh];refine UG ?_;refine Y8 ?_;refine Zy (bW (j:=(a/64)) (sz:=1) (r:=(a/64)) I ir (Zv I) (Zv I) Uq Uq O) ?_;refine zc ?_;refine Uw ?_;rw[qw];exact Wx78_
theorem lT(K:gb)(n:Nat)(hn:n<=64)(a k:Nat)(ha:a<=4294967295000)(hk:k<=1000)(w:World)(h:(zY K n).ok w):
  CW prog 162 [.p K.bm,.int .u64 a,.i k] w (.bool (decide (a+k<=n*64))):=by
 refine UB func162 ntmps162 ?_;refine UE ?_;refine Ig ?_;refine Zy (dr (Zv I) (Zv I) (show _=((a+k:Nat):Int)from(u64_wrap_id _ O O).trans O)) ?_;refine Us ?_;refine BT ?_;refine ZA ?_;refine Ig ?_;refine Zy (y_leq (Zv I) (Zv I) (show _=decide (a+k<=n*64)from decide_eq_decide.2 O)) ?_;exact oR
theorem po(K:gb)(n:Nat)(M:Uy)(hM:UI n M)(a:Nat)(ha:a+4<=n*64)(w:World)(h:(zY K n).ok w)(h2:(rmB K n M).ok w):
  CW prog 329 [.p K.bm,.int .u64 a] w (.w (kY M.data a)):=by
 have hn:=hM.n64;have hdl:=hM.m.dl;have hdb:=hM.m.db;have hr:Rd w .u8 (sA K.bB) (n*64) (n*64) M.data:=de h2;have e:kY M.data a=_:=(ω (fF hdb a) (fF hdb (a+1)) (fF hdb (a+2)) (fF hdb (a+3))).symm;rw[e];have b0:=fF hdb a;have b1:=fF hdb (a+1);have b2:=fF hdb (a+2);have b3:=fF hdb (a+3);refine UB func329 ntmps329 ?_;refine UA ?_;refine B7 ?_;refine Ld 2 0 ?_;refine Q5 ?_;refine UF 5 I (cW (j:=a) I ir (Zv I) (Zv I) Uq Uq) ?_;refine US 6 I (bL ir (Zv I)) (dG hr (bX (sK (show a<J M.data by omega)))) ?_;refine UF 7 I (cA I I (Zv I) (u32_wrap_id _ O O)) ?_;refine ZE 8 ?_;refine ZE 9 ?_;refine Ld 10 0 ?_;refine US 11 I (bL ir (Zv I)) (cS gx I) ?_;refine ZE 12 ?_;refine UF 13 I (dr (Zv I) (Zv I) (show _=((a+1:Nat):Int)from(u64_wrap_id _ O O).trans O)) ?_;refine UF 14 I (cW (j:=a+1) I ir (Zv I) (Zv I) Uq Uq) ?_;refine US 15 I (bL ir (Zv I)) (dG hr (bX (sK (show a+1<J M.data by omega)))) ?_;refine UF 16 I (cA I I (Zv I) (u32_wrap_id _ O O)) ?_;refine UF 17 I (tI (Zv I) (Zv I) O I) ?_;refine ZE 18 ?_;refine ZE 19 ?_;refine ZE 20 ?_;refine Ld 21 0 ?_;refine US 22 I (bL ir (Zv I)) (cS gx I) ?_;refine ZE 23 ?_;refine UF 24 I (dr (Zv I) (Zv I) (show _=((a+2:Nat):Int)from(u64_wrap_id _ O O).trans O)) ?_;refine UF 25 I (cW (j:=a+2) I ir (Zv I) (Zv I) Uq Uq) ?_;refine US 26 I (bL ir (Zv I)) (dG hr (bX (sK (show a+2<J M.data by omega)))) ?_;refine UF 27 I (cA I I (Zv I) (u32_wrap_id _ O O)) ?_;refine UF 28 I (tI (Zv I) (Zv I) O I) ?_;refine ZE 29 ?_;refine ZE 30 ?_;refine ZE 31 ?_;refine Ld 32 0 ?_;refine US 33 I (bL ir (Zv I)) (cS gx I) ?_;refine ZE 34 ?_;refine UF 35 I (dr (Zv I) (Zv I) (show _=((a+3:Nat):Int)from(u64_wrap_id _ O O).trans O)) ?_;refine UF 36 I (cW (j:=a+3) I ir (Zv I) (Zv I) Uq Uq) ?_;refine US 37 I (bL ir (Zv I)) (dG hr (bX (sK (show a+3<J M.data by omega)))) ?_;refine UF 38 I (cA I I (Zv I) (u32_wrap_id _ O O)) ?_;refine UF 39 I (tI (Zv I) (Zv I) O I) ?_;refine ZE 40 ?_;refine ZE 41 ?_;refine pI ?_;exact vB
theorem CF(K:gb)(n:Nat)(M:Uy)(hM:UI n M)(w:World)(h:(zY K n).ok w)(h2:(slv 4 1 (sA K.bT) n n (lE (M.SD.take n))).ok w):
  Uz prog 168 [.p K.bm] w [] (λv cs=>∃A c,v= .slice A (J (dY M.SD 64)) c/\cs=[sl .i64 3 A (J (dY M.SD 64)) c (dY M.SD 64)]):=by
 have hn:=hM.n64;have htl:=hM.m.tl;have hr:UJ w 1 (sA K.bT) n n (lE (M.SD.take n)):=de h2;have hat:∀k,k<n->(M.SD.take n)[k]? =some ((M.SD.take n).getD k false):=λk hk=>by
  rw[aM,aj MX]
  rfl
 rw[<-Gu hn hM.hi];obtain⟨tu,htu⟩:=Uk (M.SD.take n);rw[htu]at hr hat|-;refine UB func168 ntmps168 ?_;refine iR ?_;refine dg 3 1 (Ut ?_);refine UX (λs:Nat×Option Addr×Nat=>[(0,.p K.bm),(3,.slice s.2.1 (J (dY tu s.1)) s.2.2),(4,.i (s.1:Int))]) (λs=>[sl .i64 3 s.2.1 (J (dY tu s.1)) s.2.2 (dY tu s.1)]) (λs=>s.1<=n) (λs=>n - s.1) ((0,none,0)) (ay _) ?_;rintro⟨k,A1,c1⟩ hk;simp only at hk;dsimp only;refine Ux ?_;refine BT ?_;refine Wj ?_ ?_<;>intro hc3
 .simp only[ah]at hc3;have hle:=Ep tu k;have hkn:k<n:=O;have hb:=hat k hkn;obtain⟨bk,hbk⟩:=Uk (tu.getD k false);rw[hbk]at hb;refine UE ?_;refine BT ?_;refine ZA ?_;refine BR ?_;refine dW (bL ir ne) (dG hr (FZ hb)) I (py ?_);refine ZW ?_ ?_<;>intro hc5
  .have he:dY tu (k+1)=dY tu k++[(k:Int)]:=by rw[nX,hbk,hc5];rfl
   refine Us ?_;refine jP ?_;rintro _ _ ⟨b23,rfl,rfl⟩;refine gJ (cu (e:=3) (sz:=1) (bytes:=8) I I Za I I (λw hi=>hi.rd Zh) (ka I) gI O) I ?_;rintro _ _ ⟨A2,c2,rfl,rfl⟩;rw[show(dY tu k).length+1=J (dY tu (k+1)) by(rw[he];simp),show ints .i64 (dY tu k)++[Value.i (k:Int)]=ints .i64 (dY tu (k+1)) by(rw[he];exact bY _ [_])];refine UA ?_;refine WR ?_;refine Vo ((k+1,A2,c2)) ⟨by show k+1<=n;omega,by show n - (k+1)<n - k;omega⟩
  have he:dY tu (k+1)=dY tu k:=by(rw[nX,hbk,hc5];simp)
  rw[<-he];refine kb ?_;refine Vo ((k+1,A1,c1)) ⟨by show k+1<=n;omega,by show n - (k+1)<n - k;omega⟩
 simp only[aa]at hc3;obtain rfl:k=n:=by omega
 refine fo ?_;exact IN
theorem GR(K:gb)(n:Nat)(M:Uy)(hM:UI n M):CI prog 165 [.p K.bm] (VT K n M) (λv cs=>v= .tuple #[]/\cs=VT K n M.calm):=λw hi=>by
 have hn:=hM.n64;have htl:=hM.m.tl;have e:M.calm.SD.take n=R9 n false:=by show(R9 64 false).take n=_;rw[List.take_replicate,Nat.min_eq_left hn]
 have hcl:∀k,k<n->(R9 k false++(M.SD.take n).drop k).set k false=R9 (k+1) false++(M.SD.take n).drop (k+1):=λk hk=>by
  rw[List.set_append_right _ _ cE,aB,Nat.sub_self,List.drop_eq_getElem_cons (show k<J (M.SD.take n) by rw[aU];omega),List.set_cons_zero,List.replicate_succ',aq]
  rfl
 have hend:R9 n false++(M.SD.take n).drop n=R9 n false:=by rw[List.drop_eq_nil_of_le MX,ax]
 have hbeg:M.SD.take n=R9 0 false++(M.SD.take n).drop 0:=by simp
 unfold VT;rw[e];obtain⟨tu,htu⟩:=Uk (M.SD.take n);rw[htu]at hcl hend hbeg;have hi':Inv w (bK (oM K n M.data tu)) (oM K n M.data tu) w:=htu▸hi;rw[htu];rw[hbeg]at hi';refine wZ func165 I ntmps165 I hi' (UA ?_);refine UX (λk:Nat=>[(0,.p K.bm),(2,.i (k:Int))]) (λk=>oM K n M.data (R9 k false++tu.drop k)) (λk=>k<=n) (λk=>n - k) (0) (ay _) ?_;rintro k hk;refine fo ?_;refine ZW ?_ ?_<;>intro hc1
 .simp only[ah]at hc1;have hkn:k<n:=O;refine eK ?_;refine XM ?_;refine Uw ?_;rw[qw,hcl k hkn];refine kb ?_;refine Vo (k+1) ⟨by show k+1<=n;omega,by show n - (k+1)<n - k;omega⟩
 simp only[aa]at hc1;obtain rfl:k=n:=O;rw[hend];refine Ut ?_;refine Nb ?_;exact ff
def Yf(r:Option (Nat×Int)):Value:=match r with|some (a,l)=> .tuple #[.int .u64 a,.w l,.bool true]|none=> .tuple #[.int .u64 0,.w 0,.bool false]
variable{d:Li}{root va:Nat}
theorem Pd(h:(decide ((16384:Int)<=(va:Int))|| !decide (W8 root va+4<=n*64))=true):ia n d root va=none:=by
 unfold ia iw;by_cases h1:16384<=va
 .rw[ak h1];rfl
 rw[ao h1];have h2:decide (W8 root va+4<=n*64)=false:=by simpa[show¬(16384:Int)<=va by omega]using h
 rw[h2]
 rfl
theorem KS(h:(decide ((16384:Int)<=(va:Int))|| !decide (W8 root va+4<=n*64))=false):va<16384/\W8 root va+4<=n*64/\ia n d root va=rh n d va (kY d (W8 root va)):=by
 simp only[aY,aa,Bool.not_eq_false',ah]at h;obtain⟨h1,h2⟩:=h;refine⟨by omega,h2,?_⟩;unfold ia iw;rw[ao O,ak h2]
 rfl
theorem Pc{e:Int}(h:((e%2==0)|| !decide (WZ e va+4<=n*64))=true):rh n d va e=none:=by
 unfold rh iw;cases h1:(e%2==0)with
 |true=>rfl
 |false=>
  rw[h1]at h;have h2:decide (WZ e va+4<=n*64)=false:=by simpa using h
  rw[h2]
  rfl
theorem KR{e:Int}(h:((e%2==0)|| !decide (WZ e va+4<=n*64))=false):WZ e va+4<=n*64/\rh n d va e=some (WZ e va,kY d (WZ e va)):=by
 simp only[aY,Bool.not_eq_false',ah]at h;obtain⟨h1,h2⟩:=h;refine⟨h2,?_⟩;unfold rh iw;rw[h1,ak h2]
 rfl
theorem ki(v:Int){k:Nat}(hk:k<4):V9 .u8 (v.fdiv (2^(min ((8*k:Nat):Int).toNat IntKind.u32.bits)))=mj v k:=by
 rw[<-tN v hk];obtain rfl|rfl|rfl|rfl:k=0\/k=1\/k=2\/k=3:=by omega
 all_goals rfl
theorem CN(kind:Int)(w:World):CW prog 270 [.i kind] w (.i (UV kind)):=by
 refine UB func270 ntmps270 ?_;refine mU ?_;refine ZW ?_ ?_<;>intro hc1
 .simp only[aC,ah]at hc1;refine Us ?_;refine Zy (dr (Zv I) (Zv I) (show _=7+kind from aN _ ⟨by omega,by omega⟩)) ?_;refine Zy (eA (Zv I) (Zv I) (show _=UV kind from(aN _ ⟨by omega,by omega⟩).trans ((FE hc1).trans O).symm)) ?_;exact vG
 simp only[Bool.and_eq_false_iff,aa]at hc1;refine fC ?_;rw[Bw O];exact ff
theorem wJ(kind:Int)(Sy:Bool)(w:World):CW prog 269 [.i kind,.bool Sy] w (.w (oL kind Sy)):=by
 refine UB func269 ntmps269 ?_;refine jF ?_;refine Vs ?_ ?_<;>intro hc3
 .refine tH ?_ ?_<;>intro hc9
  .have hs:Sy=false:=by simpa using hc9
   exact We
  have hs:Sy=true:=by simpa using hc9
  exact Wd
 refine Ul ?_ ?_<;>intro hc5
 .refine tH ?_ ?_<;>intro hc9
  .have hs:Sy=false:=by simpa using hc9
   exact We
  have hs:Sy=true:=by simpa using hc9
  exact Wd
 refine Ul ?_ ?_<;>intro hc7
 .refine tH ?_ ?_<;>intro hc9
  .have hs:Sy=false:=by simpa using hc9
   exact We
  have hs:Sy=true:=by simpa using hc9
  exact Wd
 refine oI ?_ ?_<;>intro hc9
 .have hs:Sy=false:=by simpa using hc9
  exact We
 have hs:Sy=true:=by simpa using hc9
 exact Wd
theorem GM(K:gb)(n:Nat)(M:Uy)(hM:UI n M)(root va:Nat)(hroot:root<=4294967295)(hva:va<=4294967295)(w:World)(h:(zY K n).ok w)(h2:(rmB K n M).ok w):
  CW prog 271 [.p K.bm,.w root,.w va] w (Yf (ia n M.data root va)):=by
 have hn:=hM.n64;have hdb:=hM.m.db;have hat1:W8 root va=root/64*64+4*(va/1024%16):=rfl;obtain⟨a1,ha1⟩:=Uk (W8 root va);have hno1:=Pd (n:=n) (d:=M.data) (root:=root) (va:=va);have hye1:=KS (n:=n) (d:=M.data) (root:=root) (va:=va);rw[ha1]at hat1 hno1 hye1;obtain⟨lk,hlk⟩:=Uk (ia n M.data root va);rw[hlk]at hno1 hye1|-;refine UB func271 ntmps271 ?_;refine eK ?_;refine Zy (jW (Zv I) (Zv I) O (show _=((root/64:Nat):Int)from by rw[bj O,u32_wrap_id _ O O];omega)) ?_;refine Zy (fL (Zv I) (Zv I) (show _=((root/64*64:Nat):Int)from(u32_wrap_id _ O O).trans O)) ?_;refine Ig ?_;refine Wq75 ?_;refine Ig ?_;refine Zy (dr (Zv I) (Zv I) (show _=((a1:Nat):Int)from(u64_wrap_id _ O O).trans O)) ?_;refine gX ?_;refine dx (bU I I) (.cons (cU I) (.cons (cU I) (.cons (Zv I) .nil))) (λ_ _=>I) (λhg w hi=>lT K n hn a1 4 O An w (bH.old h hi)) I (Wj ?_ ?_)<;>intro hc2
 .rw[hno1 hc2];exact In
 obtain⟨hv1,hl1,hlk2⟩:=hye1 hc2;rw[hlk2];have heu:=qM hdb a1;have HW:=po K n M hM a1 hl1;obtain⟨e,he⟩:=Uk (kY M.data a1);rw[he]at heu HW|-;obtain⟨eu0,eu1⟩:=heu;have hat2:WZ e va=(e/256).toNat*64+4*(va/64%16):=rfl;have hno2:=Pc (n:=n) (d:=M.data) (va:=va) (e:=e);have hye2:=KR (n:=n) (d:=M.data) (va:=va) (e:=e);obtain⟨a2,ha2⟩:=Uk (WZ e va);rw[ha2]at hat2 hno2 hye2;obtain⟨l2,hl2⟩:=Uk (rh n M.data va e);rw[hl2]at hno2 hye2|-;refine UA ?_;refine UD (λw hi=>HW w (bH.old h hi) (bH.old h2 hi)) ?_;refine UA ?_;refine Zy (jH (Zv I) (Zv I) O (show _=e/256 from Xe _ 8)) ?_;refine Ig ?_;refine Wq152 ?_;refine Ig ?_;refine Zy (dr (Zv I) (Zv I) (show _=((a2:Nat):Int)from(u64_wrap_id _ O O).trans O)) ?_;refine Ux ?_;refine Zy (m4 ne ne (and1 ⟨eu0,eu1⟩)) ?_;refine Ut ?_;refine dx (bU I I) (.cons (cU I) (.cons (cU I) (.cons (Zv I) .nil))) (λ_ _=>I) (λhg w hi=>lT K n hn a2 4 O An w (bH.old h hi)) I (Wj ?_ ?_)<;>intro hc6
 .rw[hno2 hc6];exact In
 obtain⟨hv2,hlk3⟩:=hye2 hc6;rw[hlk3];refine Ux ?_;refine UD (λw hi=>po K n M hM a2 hv2 w (bH.old h hi) (bH.old h2 hi)) ?_;refine UA ?_;refine o9 ?_;exact ff
theorem _root_.Go.Ink.UI.walk{M:Uy}(hM:UI n M)(root va:Nat)(kind:Int)(Sy:Bool):UI n (dw n M root va kind Sy).2:=by
 unfold dw;refine bJ (λq:(TE×Tr)×Uy=>UI n q.2) hM ?_;cases hl:ia n M.data root va with
 |none=>exact hM
 |some q=>
  obtain⟨a,l⟩:=q;have hin:=(uG hM.m.db hl).2;refine bJ (λq:(TE×Tr)×Uy=>UI n q.2) hM ?_;exact bJ (λq:Uy=>UI n q) (hM.SY _ 4 hin) hM
theorem JQ(K:gb)(n:Nat)(M:Uy)(hM:UI n M)(root va:Nat)(hroot:root<=4294967295)(hva:va<=4294967295)(kind:Int)(Sy:Bool):CI prog 208 [.p K.bm,.w root,.w va,.i kind,.bool Sy] (VT K n M) (λv cs=>v= .tuple #[(dw n M root va kind Sy).1.1.v,(dw n M root va kind Sy).1.2.v]/\cs=VT K n (dw n M root va kind Sy).2):=λw hi=>by
 have hn:=hM.n64;have hdb:=hM.m.db;obtain⟨fk,hfk⟩:=Uk (UV kind);obtain⟨wb,hwb⟩:=Uk (oL kind Sy);obtain⟨lk,hlk⟩:=Uk (ia n M.data root va);have HF:=CN kind;have HB:=wJ kind Sy;have HL:=GM K n M hM root va hroot hva;unfold dw;rw[hfk]at HF|-;rw[hwb]at HB|-;rw[hlk]at HL|-;refine UH func208 ntmps208 hi ?_;refine py ?_;refine ZN λb10=>?_;refine ZN λb11=>?_
 refine UA ?_;refine UD (λw hi=>HF w) ?_;refine Vs ?_ ?_<;>intro hc1
 .have hc:(fk==0)=true:=hc1;rw[hc];refine gV ?_;refine Uu ?_;refine ZM ?_;refine iz ?_;exact Wq65
 have hc:(fk==0)=false:=hc1;rw[hc];refine fy ?_;refine Us ?_;revert HL hlk;refine Option.rec (λhlk HL=>?_) (λal hlk HL=>?_) lk
 .refine Ut ?_;refine UD (λw hi=>HL w (hi.get Zh) (hi.get Zh)) ?_;simp only[Yf];refine iR ?_;refine UD (λw hi=>HB w) ?_;refine vY ?_;refine mV ?_;exact Wx75_
 obtain⟨a,l⟩:=al;have hin:=uG hdb hlk;obtain⟨lu,ain⟩:=hin;have hmd:=Hd lu kind;obtain⟨lu0,lu1⟩:=lu;have mu:=rf l kind;simp only;refine Ut ?_;refine UD (λw hi=>HL w (hi.get Zh) (hi.get Zh)) ?_;simp only[Yf];refine iR ?_;refine UD (λw hi=>HB w) ?_;refine vY ?_;refine ZW ?_ ?_<;>intro hc5
 .have hc6':(bits .and .u32 l wb !=wb)=true:=hc5;rw[hc6'];refine gV ?_;exact Wx75_
 have hc6':(bits .and .u32 l wb !=wb)=false:=hc5;rw[hc6'];refine fy ?_;refine mU ?_;refine ZW ?_ ?_<;>intro hc8
 .have hm:i3 l kind=bits .or .u32 (bits .or .u32 l 32) 64:=by(unfold i3;rw[hc8];rfl)
  rw[hm]at mu hmd|-;obtain⟨m,hmm⟩:=Uk (bits .or .u32 (bits .or .u32 l 32) 64);refine UE ?_;rw[hmm]at mu hmd|-;refine VQ ?_ ?_<;>intro hc10
  .refine Wq124 ?_;rintro k hk;refine Vl ?_ ?_<;>intro hc12
   .exact Wx37_
   exact Wq478
  rw[hc10];refine QB ?_;exact ζ
 have hm:i3 l kind=bits .or .u32 l 32:=by(unfold i3;rw[hc8];rfl)
 rw[hm]at mu hmd|-;obtain⟨m,hmm⟩:=Uk (bits .or .u32 l 32);refine Uu ?_;rw[hmm]at mu hmd|-;refine VQ ?_ ?_<;>intro hc10
 .refine Wq124 ?_;rintro k hk;refine Vl ?_ ?_<;>intro hc12
  .exact Wx37_
  exact Wq478
 rw[hc10];refine QB ?_;exact ζ
theorem and255r{v:Int}(h:u32 v):bits .and .u32 v 255=v%256:=bits_mask .u32 32 An wraps_u32 8 An v h.1 (by have:=h.2;omega)
theorem lines2:kG [2]=4:=by decide
theorem UI.fill{n:Nat}{M:Uy}(h:UI n M){a:Nat}{l:Li}(hl:UO l):∀k,a+k<=n*64->UI n (M.fill a l k)
 |0,_=>h
 |k+1,hk=>(UI.fill h hl k O).put O (fF hl k)
theorem CS(b bm bd:Nat)(Z:fv)(d:Un)(hd:d.wf)(a:Nat)(count:Int):CI prog 330 [.p b,.w a,.int .u64 count] (eW b bm bd Z d) (λv cs=>∃Z',v= .tuple #[.w (cz d (iV a) count).1.1,.bool (cz d (iV a) count).1.2]/\cs=eW b bm bd Z' (cz d (iV a) count).2):=λw hi=>by
 have hinp:=hd.inp;have hinb:=hd.T4;obtain⟨k,hk⟩:=Uk (iV a);rw[hk];unfold iV at hk;obtain⟨pe,ma,ti,ou,inp,dk,se,pl,st⟩:=d;obtain⟨Ao,co,Ai,ci⟩:=Z;dsimp only at hinp hinb;refine UH func330 ntmps330 hi ?_;refine eK ?_;refine Zy (eA ne ne hk) ?_;refine VM ?_ ?_<;>intro hc2
 .refine iR ?_;refine Ii ?_;refine⟨⟨Ao,co,Ai,ci⟩,?_,?_⟩
  .exact UZ
  exact UZ
 refine Ul ?_ ?_<;>intro hc4
 .refine iR ?_;refine Ii ?_;refine⟨⟨Ao,co,Ai,ci⟩,?_,?_⟩
  .exact UZ
  exact UZ
 refine Ul ?_ ?_<;>intro hc6
 .refine iR ?_;refine Ii ?_;refine⟨⟨Ao,co,Ai,ci⟩,?_,?_⟩
  .exact UZ
  exact UZ
 refine Ul ?_ ?_<;>intro hc8
 .refine Us ?_;refine mL ?_;refine Ux ?_;refine Ii ?_;refine⟨⟨Ao,co,Ai,ci⟩,?_,?_⟩
  .exact UZ
  exact UZ
 refine Vl ?_ ?_<;>intro hc10
 .refine DU ?_;refine UE ?_;refine Ii ?_;refine⟨⟨Ao,co,Ai,ci⟩,?_,?_⟩
  .exact UZ
  exact UZ
 refine VQ ?_ ?_<;>intro hc11
 .refine UE ?_;refine Ii ?_;refine⟨⟨Ao,co,Ai,ci⟩,?_,?_⟩
  .exact UZ
  exact UZ
 refine Ul ?_ ?_<;>intro hc13
 .refine yZ ?_ ?_<;>intro hc14
  .obtain rfl:inp=[]:=List.eq_nil_of_length_eq_zero (by simpa using hc14);refine eK ?_;refine Ii ?_;refine⟨⟨Ao,co,Ai,ci⟩,?_,?_⟩
   .exact UZ
   exact UZ
  obtain⟨x,xs,rfl⟩:∃x xs,inp=x::xs:=List.exists_cons_of_ne_nil (by intro e;subst e;simp at hc14);have hx:=hinb x cE;have hl0:0<J (x::xs):=cE;have hl1:0<(Un.mk pe ma ti ou (x::xs) dk se pl st).inp.length:=hl0;refine eo (λw hi=>Oo (hi.get (Ur (V6 Ai (J (x::xs)) ci (ints .u8 (x::xs))))) cE) (λhA=>?_);obtain⟨ad,rfl⟩:=hA;refine eo (λw hi=>(uq (hi.get (Ur (V6 (some ad) (J (x::xs)) ci (ints .u8 (x::xs)))))).cap) (λhcap=>?_);obtain⟨q0,hq1⟩:∃q0:Addr,(some q0:Oa)=(if ci=1 then some ad else(some ad).map (·.add (1*1))):=(by split;exact⟨_,I⟩;exact⟨_,I⟩);simp only[aE]at hcap;refine UG ?_;refine Zy (cW (j:=0) I ir (Zv I) (Zv I) Uq Uq) ?_;refine dW (bL ir ne) (Oq (xs:=ints .u8 (x::xs)) Zh I) I (eK ?_);refine Zy (D9 (lo:=1) (hi:=J xs+1) (r:=q0) I ir (Zv I) (.inr ⟨_,_,I,(Zv I)⟩) (.inl ⟨I,I⟩) O O hq1) ?_;refine jD ?_;refine Uu ?_;refine Zy (cA I I (Zv I) (show _=gB (x::xs) 0 from u32_wrap_id x hx.1 O)) ?_;refine Ux ?_;refine AB (c:=V6 (some ad) (J xs+1) ci (.int .u8 x::ints .u8 xs)) (c':=V6 (some q0) (J xs) (ci - 1) (ints .u8 xs)) Za (Ay (x:= .int .u8 x) (xs:=ints .u8 xs) hq1) (λw=>On (x:= .int .u8 x) (xs:=ints .u8 xs) hq1 w) (bI (eW b bm bd ⟨Ao,co,some q0,ci - 1⟩ ⟨pe,ma,ti,ou,xs,dk,se,pl,st⟩) Zj (Ii ?_));refine⟨⟨Ao,co,some q0,ci - 1⟩,?_,?_⟩
  .exact sQ
  simp only[cz, *,ae,ac,List.tail_cons]
 refine Ul ?_ ?_<;>intro hc19
 .refine Ux ?_;refine Zy (cA I I (Zv I) (u32_wrap_id (J inp:Int) O O)) ?_;refine Ux ?_;refine Ii ?_;refine⟨⟨Ao,co,Ai,ci⟩,?_,?_⟩
  .exact UZ
  exact UZ
 refine Ul ?_ ?_<;>intro hc21
 .refine iR ?_;refine Ii ?_;refine⟨⟨Ao,co,Ai,ci⟩,?_,?_⟩
  .exact UZ
  exact UZ
 refine Ul ?_ ?_<;>intro hc23
 .refine iR ?_;refine Ii ?_;refine⟨⟨Ao,co,Ai,ci⟩,?_,?_⟩
  .exact UZ
  exact UZ
 refine Ul ?_ ?_<;>intro hc25
 .refine iR ?_;refine Ii ?_;refine⟨⟨Ao,co,Ai,ci⟩,?_,?_⟩
  .exact UZ
  exact UZ
 refine eK ?_;refine Ii ?_;refine⟨⟨Ao,co,Ai,ci⟩,?_,?_⟩
 .exact UZ
 exact UZ
theorem CP(b bd:Nat)(K:gb)(n:Nat)(M:Uy)(hM:UI n M)(Z:fv)(pe ma ti:Int)(ou inp dk:Li)(hk:J dk=1024)(hkb:UO dk)(se pl:Nat)(st:Int)(SA a cmd:Nat)(hs:SA<=4294967295)(ha:a<=4294967295):CI prog 353 [.p b,.w SA,.w a,.w cmd] (eW b K.bm bd Z ⟨pe,ma,ti,ou,inp,dk,se,pl,st⟩++VT K n M) (λv cs=>v= .bool (dL n M dk SA a cmd).1/\cs=eW b K.bm bd Z ⟨pe,ma,ti,ou,inp,(dL n M dk SA a cmd).2.2,se,pl,st⟩++VT K n (dL n M dk SA a cmd).2.1):=λw hi=>by
 have hn:=hM.n64;have hdl:=hM.m.dl;have hdc:=BC n SA a cmd;have hdb:=hM.m.db;refine UH func353 ntmps353 hi ?_;refine fo ?_;refine Wm I I (fH (cU I) (Zv I) O (show _=((a%64:Nat):Int)from by rw[aw O];omega)) ?_;refine UG ?_;refine Wm I I (cA I I (cU I) (u64_wrap_id _ O O)) ?_;refine dx (bU I I) (.cons (cU I) (.cons (cU I) (.cons (Zv I) .nil))) (λ_ _=>I) (λhg w hi=>lT K n hn a 1 O An w (hi.get (Ur (zY K n)))) I (fo ?_);refine ZW ?_ ?_<;>intro hc1
 .have hno:=hdc.symm.trans hc1;have V0:dL n M dk SA a cmd=(false,M,dk):=(by unfold dL;cases h1:ix n SA a with|false=>rfl|true=>(rw[h1]at hno;simp only[Bool.not_true,bh,aC,Bool.not_eq_true']at hno;rw[hno.1,hno.2];rfl));rw[V0];refine Ux ?_;refine Ca ?_;exact ff
 have hyes:=hdc.symm.trans hc1;simp only[aY,Bool.not_eq_false',Bool.and_eq_false_iff]at hyes;obtain⟨hok,hcm⟩:=hyes;have hf:SA<16/\a%64=0/\a<n*64:=(by have h2:=hok;unfold ix at h2;simp only[Bool.not_eq_true',aY,aa,bne_eq_false_iff_eq]at h2;omega);obtain⟨s16,am,an⟩:=hf;have a64:a/64*64=a:=O;refine Ut ?_;rcases hcm with hcm|hcm
 .have hcm:cmd=1:=(by simpa using hcm);subst hcm;have V0:dL n M dk SA a 1=(true,M.fill a ((dk.drop (SA*64)).take 64) 64,dk):=(by unfold dL;rw[hok,a64];rfl);rw[V0];have hlb:UO ((dk.drop (SA*64)).take 64):=(λx hx=>hkb x (bD (aX hx)));refine Uu ?_;refine UX (λk:Nat=>[(0,.p b),(1,.w (SA:Int)),(2,.w (a:Int)),(3,.w ((1:Nat):Int)),(9,.w (k:Int))]) (λk=>eW b K.bm bd Z ⟨pe,ma,ti,ou,inp,dk,se,pl,st⟩++VT K n (M.fill a ((dk.drop (SA*64)).take 64) k)) (λk=>k<=64) (λk=>64 - k) (0) (ay _) ?_;rintro k hk64;refine Vl ?_ ?_<;>intro hc4
  .simp only[ah]at hc4;have hk4:k<64:=O;refine eK ?_;refine mV ?_;refine bN (UK [17]) Zk (rK ?_);refine sP ?_;refine UF 6 I (dr (Zv I) (Zv I) (show _=((a+k:Nat):Int)from(u32_wrap_id _ O O).trans O)) ?_;refine ZE 7 ?_;refine ZE 8 ?_;refine Ld 9 6 ?_;refine ZE 11 ?_;refine UF 12 I (fL (Zv I) (Zv I) (show _=((SA*64:Nat):Int)from(u32_wrap_id _ O O).trans O)) ?_;refine ZE 13 ?_;refine UF 14 I (dr (Zv I) (Zv I) (show _=((SA*64+k:Nat):Int)from(u32_wrap_id _ O O).trans O)) ?_;refine mh ?_;refine pE ?_;refine UF 15 I (bW (j:=(SA*64+k)) (sz:=1) (r:=(SA*64+k)) I ir (Zv I) (Zv I) Uq Uq O) ?_;refine US 16 I (bL ir (Zv I)) (cN Zh (bX (sK (show SA*64+k<J dk by omega)))) ?_;refine cQ 17 Zk (jX I I (eE (VT K n (M.fill a ((dk.drop (SA*64)).take 64) k)) I (λ_ _=>I) Zi (λw hi hin=>jw K n (M.fill a ((dk.drop (SA*64)).take 64) k) (hM.fill hlb k O) (a+k) O (gB dk (SA*64+k)) w hin)) ZJ I ?_);refine Vb ?_;refine Zm ?_;refine r8 (k+1) ?_ ?_ ?_
   .exact⟨by show k+1<=64;omega,by show 64 - (k+1)<64 - k;omega⟩
   .exact XK
   exact(show zh _ _ from by rw[Uy.fill,gB_drop hk4];exact Zj)
  exact YB
 have hcm:cmd=2:=(by simpa using hcm);subst hcm;have V0:dL n M dk SA a 2=(true,M,rW dk M.data (SA*64) a 64):=(by unfold dL rW;rw[hok,a64];rfl);rw[V0];refine Uu ?_;refine xF (λk:Nat=>[(0,.p b),(1,.w (SA:Int)),(2,.w (a:Int)),(3,.w ((2:Nat):Int)),(9,.w (k:Int))]) (λk=>eW b K.bm bd Z ⟨pe,ma,ti,ou,inp,rW dk M.data (SA*64) a k,se,pl,st⟩++VT K n M) (λk=>k<=64) (λk=>64 - k) (0) ?_ ?_ ?_ ?_
 .exact ay _
 .exact XK
 ·(rw[Cu];((repeat (first|exact List.Sublist.slnil|refine List.Sublist.cons_cons _ ?_|refine List.Sublist.cons _ ?_))))
 rintro k hk64;refine Vl ?_ ?_<;>intro hc4
 .simp only[ah]at hc4;have hk4:k<64:=O;refine eK ?_;refine jn ?_;refine bN (UK [21]) Zk (mW ?_);refine Ld 2 6 ?_;refine ZG 3 ?_;refine ZE 4 ?_;refine UF 5 I (fL (Zv I) (Zv I) (show _=((SA*64:Nat):Int)from(u32_wrap_id _ O O).trans O)) ?_;refine ZE 6 ?_;refine UF 7 I (dr (Zv I) (Zv I) (show _=((SA*64+k:Nat):Int)from(u32_wrap_id _ O O).trans O)) ?_;refine ZE 8 ?_;refine ZE 9 ?_;refine Ld 10 0 ?_;refine ZG 11 ?_;refine ZE 12 ?_;refine Ld 13 0 ?_;refine ZG 14 ?_;refine ZE 15 ?_;refine ZE 16 ?_;refine UF 17 I (dr (Zv I) (Zv I) (show _=((a+k:Nat):Int)from(u32_wrap_id _ O O).trans O)) ?_;refine UF 18 I (bW (j:=(a+k)) (sz:=1) (r:=(a+k)) I ir (Zv I) (Zv I) Uq Uq O) ?_;refine US 19 I (bL ir (Zv I)) (cN Zh (bX (sK (show a+k<J M.data by omega)))) ?_;refine UF 20 I (bW (j:=(SA*64+k)) (sz:=1) (r:=(SA*64+k)) I ir (Zv I) (Zv I) Uq Uq O) ?_;refine cQ 21 Zk (DY ?_);refine Uw ?_;rw[eh,Cv O O];refine Zm ?_;refine UN (k+1) ⟨by show k+1<=64;omega,by show 64 - (k+1)<64 - k;omega⟩
 exact YB
theorem Aw(b bd:Nat)(K:gb)(n:Nat)(M:Uy)(hM:UI n M)(Z:fv)(d:Un)(hd:d.wf)(ho:J d.out<=1000000000)(a v:Nat)(hv:v<=4294967295):CI prog 331 [.p b,.w a,.w v] (eW b K.bm bd Z d++VT K n M) (λx cs=>∃Z',x= .bool (bQ n M d (iV a) v).1/\cs=eW b K.bm bd Z' (bQ n M d (iV a) v).2.2++VT K n (bQ n M d (iV a) v).2.1):=λw hi=>by
 obtain⟨k,hk⟩:=Uk (iV a);rw[hk];unfold iV at hk;have hdk:=hd.SV;have hdkb:=hd.Tw;have hds:=hd.SA;have hdp:=hd.place;have hvu:u32 (v:Int):=i7 hv;have hmask:bits .and .u32 (v:Int) 255=(v:Int)%256:=and255r hvu;have hl2:=lines2;obtain⟨pe,ma,ti,ou,inp,dk,se,pl,st⟩:=d;obtain⟨Ao,co,Ai,ci⟩:=Z;dsimp only at hdk hdkb hds hdp;have ho2:J ou<=1000000000:=ho;have HD:=CP b bd K n M hM ⟨Ao,co,Ai,ci⟩ pe ma ti ou inp dk hdk hdkb se pl 1 se pl v hds hdp;obtain⟨⟨dok,dM,ddk⟩,hdd⟩:=Uk (dL n M dk se pl v);rw[hdd]at HD;refine UH func331 ntmps331 hi ?_;refine UE ?_;refine Zy (eA ne ne hk) ?_;refine VM ?_ ?_<;>intro hc3
 .refine Ux ?_;refine Zy (sZ ne ne I) ?_;refine jD ?_;refine UE ?_;refine Ca ?_;refine⟨⟨Ao,co,Ai,ci⟩,?_,?_⟩
  .exact UR
  exact UR
 refine Ul ?_ ?_<;>intro hc5
 .refine Us ?_;refine Zy (fH (Zv I) (Zv I) O (show _=bits .and .u32 (v:Int) 255 from by rw[hmask,aw O])) ?_;refine jD ?_;refine UE ?_;refine Ca ?_;refine⟨⟨Ao,co,Ai,ci⟩,?_,?_⟩
  .exact UR
  exact UR
 refine Ul ?_ ?_<;>intro hc7
 .refine Uu ?_;refine nQ ?_;refine Ca ?_;refine⟨⟨Ao,co,Ai,ci⟩,?_,?_⟩
  .exact UR
  exact UR
 refine Ul ?_ ?_<;>intro hc9
 .refine py ?_;refine jP ?_;rintro _ _ ⟨b36,rfl,rfl⟩;refine Ut ?_;refine gJ (cu (e:=5) (sz:=1) (bytes:=1) I I Za I I (λw hi=>hi.rd (Ur (b8 Ao co ou))) cP gI O) I ?_;rintro _ _ ⟨A2,c2,rfl,rfl⟩;simp only[bA,aJ];refine ZA ?_;refine IA ?_;refine jP ?_;rintro _ _ ⟨b44,rfl,rfl⟩;refine gJ (cu (e:=5) (sz:=1) (bytes:=1) I I Za I I (λw hi=>hi.rd (Ur (slv 5 1 (sA b44) 1 1 [.int .u8 (V9 .u8 v)]))) (ka I) gI O) I ?_;rintro _ _ ⟨A3,c3,rfl,rfl⟩;rw[show J ou+1=J (ou++[V9 .u8 v]) by simp,show ints .u8 ou++[Value.int .u8 (V9 .u8 v)]=ints .u8 (ou++[V9 .u8 v])from bY ou [V9 .u8 v]];refine jD ?_;refine UE ?_;refine bI (eW b K.bm bd ⟨A3,c3,Ai,ci⟩ ⟨pe,ma,ti,ou++[V9 .u8 v],inp,dk,se,pl,st⟩++VT K n M) Zj (Ca ?_);refine⟨⟨A3,c3,Ai,ci⟩,?_,?_⟩
  .exact Xu
  exact Xu
 refine Ul ?_ ?_<;>intro hc11
 .refine Uu ?_;refine nQ ?_;refine Ca ?_;refine⟨⟨Ao,co,Ai,ci⟩,?_,?_⟩
  .exact UR
  exact UR
 refine Ul ?_ ?_<;>intro hc13
 .refine Uu ?_;refine nQ ?_;refine Ca ?_;refine⟨⟨Ao,co,Ai,ci⟩,?_,?_⟩
  .exact UR
  exact UR
 refine Ul ?_ ?_<;>intro hc15
 .refine Uu ?_;refine ZL ?_;refine Ut ?_;refine bN (UK [10]) Zk (y5 ?_);refine Ld 3 7 ?_;refine BX ?_;refine Ld 7 8 ?_;refine ZG 8 ?_;refine ZE 9 ?_;refine mh ?_;refine rH (eW b K.bm bd ⟨Ao,co,Ai,ci⟩ ⟨pe,ma,ti,ou,inp,dk,se,pl,1⟩++VT K n M) (λw hi hin=>HD w hin) ?_;refine Uw ?_;refine sR ?_;refine ZW ?_ ?_<;>intro hc17
  .have hdt:dok=true:=hc17;subst hdt;refine Ut ?_;refine ZL ?_;refine gX ?_;refine nQ ?_;refine Ca ?_;refine⟨⟨Ao,co,Ai,ci⟩,?_,?_⟩
   .exact UR
   exact UR
  have hdt:dok=false:=hc17;subst hdt;refine gX ?_;refine nQ ?_;refine Ca ?_;refine⟨⟨Ao,co,Ai,ci⟩,?_,?_⟩
  .exact UR
  exact UR
 refine Vl ?_ ?_<;>intro hc20
 .refine py ?_;refine bV I (hc20) (UE ?_);refine Ca ?_;refine⟨⟨Ao,co,Ai,ci⟩,?_,?_⟩
  .exact UR
  exact UR
 refine Ul ?_ ?_<;>intro hc21
 .refine py ?_;refine bV I (hc21) (UE ?_);refine Ca ?_;refine⟨⟨Ao,co,Ai,ci⟩,?_,?_⟩
  .exact UR
  exact UR
 refine Ul ?_ ?_<;>intro hc22
 .refine py ?_;refine bV I (hc22) (UE ?_);refine Ca ?_;refine⟨⟨Ao,co,Ai,ci⟩,?_,?_⟩
  .exact UR
  exact UR
 refine VQ ?_ ?_<;>intro hc23
 .refine UE ?_;refine Ca ?_;refine⟨⟨Ao,co,Ai,ci⟩,?_,?_⟩
  .exact UR
  exact UR
 refine UG ?_;refine Ca ?_;refine⟨⟨Ao,co,Ai,ci⟩,?_,?_⟩
 .exact UR
 exact UR
end
end Go.Ink
