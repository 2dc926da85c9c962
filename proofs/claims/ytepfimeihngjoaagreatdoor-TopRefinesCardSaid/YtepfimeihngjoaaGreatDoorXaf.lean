/- Lemmas. -/
import Derived.Test.YtepfimeihngjoaaGreatDoorXab
import Derived.Test.YtepfimeihngjoaaGreatDoorXac
import Derived.Test.YtepfimeihngjoaaGreatDoorXad
set_option linter.all false
set_option maxRecDepth 100000
set_option maxHeartbeats 4000000
namespace Go.Ink
open List renaming length→J, replicate→R9
open Go.RowKit
theorem pt{C:Cx}{Q:lK}{fr:Fr}{cs:List bJ}{c c':bJ}{mk:bJ->List bJ}{ops:Array Oper}{l:List Oper}(hu:At cs c mk)(hb:c'.bs=c.bs)(hok:∀w,c.ok w->c'.ok w)(h:WL C ops Q l fr (mk c')):WL C ops Q l fr cs:=
 λa w hf hi=>h a w hf (hi.conv hu hb (hok w))
section
variable{C:Cx}{Q:lK}{fr:Fr}{cs:List bJ}{ops:Array Oper}{rest:List Oper}{d:Nat}{ty:TypeId}{pos:String}{af:Array Edge}{gd:Option (Nat×Bool)}{g:Bool}{x:Operand}{T:TypeId}
variable{t:Nat}
variable{xs:Li}
variable{w:World}
variable{xs:List Value}
variable{bb:Nat}
theorem jl(hg:bN ops fr ⟨some d,.load T x,ty,pos,af,gd⟩ g)(hc:Vk cs (row bb xs t))(hT:∀w,(isAgg T).run C.P w= .ok true w)(hs:∀w,(sizeOf T).run C.P w= .ok (J xs) w)(hx:Ev fr g x (.p bb))(hd:Nat.blt d C.N=true)
  (h:WL C ops Q rest ((d,bif g then .agg xs.toArray else undef)::fr) cs):WL C ops Q (⟨some d,.load T x,ty,pos,af,gd⟩::rest) fr cs:=iX hg (bX hT hs hx) (vx hc) hd h
end
section
variable{C:Cx}{fr:Fr}{cs:List bJ}{d:Option Nat}{ty T T':TypeId}{pos:String}{af:Array Edge}{gd:Option (Nat×Bool)}{v:Value}{g p:Bool}{x y:Operand}
def Tn(A:Oa)(xs:List Value):List (Addr×Value):=match A with|none=>[]|some ad=>fa ad 0 xs
theorem U5.Tn{w:World}{n c:Nat}{A:Oa}{xs:List Value}(h:U5 w 1 A n c xs):cells (Ink.Tn A xs) w:=by
 cases A with
 |none=>intro x hx;cases hx
 |some ad=>
  intro x hx
  obtain⟨j,h1,h2⟩:=gW hx
  rw[h2,bC]
  exact h.at_ ad I j _ h1
variable{n c e:Nat}{xs:Li}
theorem iM{A:Oa}(hS:C.P.underlying T=some (.slice e))(he:C.P.underlying e=some (.int .u8))(hD:C.P.underlying T'=some .string)(hx:Ev fr g x (.slice A n c))(hrd:∃w,Rd w .u8 A n c xs):
  Ve C ⟨d,.convert T T' x,ty,pos,af,gd⟩ fr g (cells (Tn A (ints .u8 xs))) (.string (strOfNums xs)):=λa w hf hV hg=>by
 obtain⟨w1,hrd⟩:=hrd
 have hn:J xs=n:=by have:=hrd.len;rw[dF]at this;omega
 have h0:A=none->n=0:=λe=>(hrd.nil e).1
 have hr:(convert T T' (.slice A n c)).run C.P w= .ok (.string (strOfNums xs)) w:=by
  cases A with
  |none=>
   have e1:xs=[]:=by have:=h0 I;subst this;exact List.eq_nil_of_length_eq_zero hn
   subst e1
   exact run_convert_bytes_nil w T e hS he n c T' hD
  |some ad=>
   have hl:(loadCells ad n).run C.P w= .ok (xs.map (Value.int .u8)).toArray w:=by
    have:=run_loadCells_list (P:=C.P) w ad (xs.map (Value.int .u8)) (λj v hj=>by
     have h1:=hV (ad.add (0+j),v) (mR (vs:=ints .u8 xs) hj)
     grind)
    simpa[hn]using this
   rw[run_convert_bytes_string w T T' e _ n c hS he hD,run_bytesToString w _ n c xs hl,foldl_push_bytes]
   simp[strOfNums]
 simp[execOp,hx.eval hf hg,hr]
theorem uj{a b:ByteArray}(hT:C.P.underlying T=some .string)(hx:Ev fr g x (.string a))(hy:Ev fr g y (.string b))(hr:(a.data.toList==b.data.toList)=p):Ve C ⟨d,.binOp .eql T x y T',ty,pos,af,gd⟩ fr g Vr (.bool p):=λA w hf _ hg=>by
 subst hr
 rw[<-ByteArray.toList_eq a,<-ByteArray.toList_eq b]
 have:(binOp .eql T (.string a) (.string b)).run C.P w= .ok (.bool (a.toList==b.toList)) w:=rfl
 simp[execOp,hx.eval hf hg,hy.eval hf hg,this,eqGuard]
theorem Kb:∀{xs ys:Li},(∀n,n∈xs->0<=n/\n<=255)->(∀n,n∈ys->0<=n/\n<=255)->(strOfNums xs).data.toList=(strOfNums ys).data.toList->xs=ys
 |[],[],_,_,_=>rfl
 |[],_::_,_,_,h=>by simp[strOfNums_data]at h
 |_::_,[],_,_,h=>by simp[strOfNums_data]at h
 |x::xs,y::ys,hx,hy,h=>by
  simp only[strOfNums_data,List.map_cons,List.cons.injEq]at h
  have h1:=hx x cJ
  have h2:=hy y cJ
  have e:=congrArg UInt8.toNat h.1
  simp only[UInt8.toNat_ofNat']at e
  have:=Kb (xs:=xs) (ys:=ys) (λn hn=>hx n (by simp[hn])) (λn hn=>hy n (by simp[hn])) h.2
  grind
theorem qf{ys:Li}(hx:∀n,n∈xs->0<=n/\n<=255)(hy:∀n,n∈ys->0<=n/\n<=255):((strOfNums xs).data.toList==(strOfNums ys).data.toList)=(xs==ys):=by
 grind [strOfNums,Kb]
variable{w0:World}{S:List Nat}
variable{w:World}
theorem gO{l l':List (Addr×Value)}(h:∀w,Inv w0 S cs w->cells l w)(h':∀w,Inv w0 S cs w->cells l' w):∀w,Inv w0 S cs w->cells (l++l') w:=λw hi x hx=>
 (aJ.1 hx).elim (h w hi x) (h' w hi x)
end
variable{w0 w:World}{S:List Nat}{cs:List bJ}
variable{α:Type}{F:α->List bJ}{p:α->Prop}
section
variable{C:Cx}{Q:lK}{fr:Fr}{cs:List bJ}{ops:Array Oper}{α:Type}{bs:List Nat}{F:α->List bJ}{hb:∀a,bM (F a)=bs}{p:α->Prop}{r:List bJ}
theorem yt{l:List Oper}(a:α)(hp:p a)(hs:ik (F a) cs r)(h:WL C ops Q l fr (Wg bs F hb p::r)):WL C ops Q l fr cs:=λA w hf hi=>h A w hf ((hi.perm hs.perm).TK a hp)
end
variable{t:Nat}{v:Value}
variable{vs:List Value}
variable{e n c:Nat}
section
variable{C:Cx}{fr:Fr}{d:Option Tmp}{ty:TypeId}{pos:String}{af:Array Edge}{gd:Option (Nat×Bool)}{v:Value}{x y:Operand}{T:TypeId}{g:Bool}
theorem EH{j:Nat}{i:Int}{k:IntKind}(hT:C.P.underlying T=some (.array n e))(he:∀w,(isAgg e).run C.P w= .ok false w)(hs:∀w,(sizeOf e).run C.P w= .ok 1 w)(hx:Ev fr g x (.agg vs.toArray))(hy:Ev fr g y (.int k i))(hi:g=true->i=(j:Int))(hj:g=true->j<n)(hv:g=true->vs[j]? =some v):
  Ve C ⟨d,.index T x y,ty,pos,af,gd⟩ fr g Vr v:=λA w hf _ hg=>by
 have h1:=hx.eval hf hg
 have h2:=hy.eval hf hg
 rw[hi hg]at h2
 have h3:=hj hg
 have h4:=hv hg
 have hr:(Instr.index T (.agg vs.toArray) (.int k (j:Int))).run C.P w= .ok v w:=by
  simp[Instr.index,asIntOf,run_underlying hT,h3,hs,part,he,h4]
 simp_all [execOp]
end
section
variable{C:Cx}{fr:Fr}{cs cs':List bJ}{fn:Func}{K:Value->List bJ->Prop}
variable{e:Exit}{u:Nat}
theorem ret4{s r:Nat}{v' v2 v3:Value}(he:e= .ret\/e= .normal)(hs:cs'.Sublist cs)(h0:fn.results= #[.tmp t,.tmp u,.tmp s,.tmp r])(h1:look fr t=some v)(h2:look fr u=some v')(h3:look fr s=some v2)(h4:look fr r=some v3)(hk:K (.tuple #[v,v',v2,v3]) cs'):VC C (bodyPost C.P fn (Ah C.w0 C.S K)) e fr cs:=
 nC he hs (λa w hf _=>by
  have e1:=hf.at_ t _ h1
  have e2:=hf.at_ u _ h2
  have e3:=hf.at_ s _ h3
  have e4:=hf.at_ r _ h4
  simp_all [results]) hk
end
section
variable{cs:List bJ}
variable{a:List bJ}
variable{c:List Value}
theorem Zd{c:bJ}(h:WB cs c a:=by repeat (first|exact WB.head _ _|apply WB.tail)):WB cs c a:=h
end
end Go.Ink
namespace Go.Ink
open List renaming length→J
open IntKind renaming wrap→V9
open Go.RowKit Go.Proofs.Tryz
variable{w:World}{n:Nat}{xs:List Value}
theorem iO{sz c:Nat}{A:Oa}(h:U5 w sz A n c xs):∃w,U5 w sz A n c xs:=⟨w,h⟩
section
variable{P:Program}{k:Nat}{T:TypeId}
theorem Yr.struct{xs ys:Array Value}(h:P.underlying T=some (.struct (P.fieldsOf T)))(hp:P.stoodInHeld T=false)(hf:XC P k xs ys (P.fieldsOf T).toList):Yr P (k+1) T (.agg xs) (.agg ys):=λw=>by
 rw[run_equalIn_struct w k T xs ys h hp]
 exact hf w
end
section
variable{C:Cx}{fr:Fr}{d:Option Nat}{T T':TypeId}{x y:Operand}{ty:TypeId}{pos:String}{af:Array Edge}{gd:Option (Nat×Bool)}{g:Bool}
variable{xs ys:Array Value}
theorem y_eqlT(hm:C.P.eqGuardType C.P.depth T=false)(he:Yr C.P 10000 T (.agg xs) (.agg ys))(hx:Ev fr g x (.agg xs))(hy:Ev fr g y (.agg ys)):Ve C ⟨d,.binOp .eql T x y T',ty,pos,af,gd⟩ fr g Vr (.bool true):=λA w hf _ hg=>by
 exact Wx61_
end
variable{i:Nat}
variable{ops:Array Oper}{p:Nat×Nat}
section
variable{C:Cx}{Q:lK}{fr:Fr}{cs:List bJ}{ops:Array Oper}{d:Nat}{ty:TypeId}{pos:String}{af:Array Edge}{St:Dr}{i:Nat}{s:List (Nat×Nat)}
theorem qX{T:TypeId}{x:Operand}{bb t:Nat}(hi:ops[i]? =some ⟨some d,.load T x,ty,pos,af,none⟩)(hc:Vk cs (row bb xs t))(hT:∀w,(isAgg T).run C.P w= .ok true w)(hs:∀w,(sizeOf T).run C.P w= .ok (J xs) w)(hx:Ev fr true x (.p bb))(hd:Nat.blt d C.N=true)
  (h:WS C St ops Q s ((d,.agg xs.toArray)::fr) cs):WS C St ops Q ((i,1)::s) fr cs:=yq hi (bX hT hs hx) (vx hc) hd h
theorem CX{T:TypeId}{x:Operand}{bb t:Nat}(hi:ops[i]? =some ⟨some d,.load T x,ty,pos,af,none⟩)(hc:Vk cs (row bb xs t))(hT:∀w,(isAgg T).run C.P w= .ok true w)(hs:∀w,(sizeOf T).run C.P w= .ok (J xs) w)(hx:Ev fr true x (.p bb))(hd:Nat.blt d C.N=true)
  (h:WS C St ops Q s ((d,.agg xs.toArray)::fr) cs):WS C St ops Q ((i,4)::s) fr cs:=Az hi (bX hT hs hx) (vx hc) hd h
end
abbrev CV(P:Program)(f:FuncId)(a:List Value)(X:List bJ)(y:Value):Prop:=∀w,Inv w (bM X) X w->UW P f a w X (λv cs=>v=y/\cs=X)
section
variable{c:Code}
theorem Zic(a:List bJ){c e:List bJ}(h:ik a c e:=by exact Zi):ik a c e:=h
end
def St.new:St:={St.zero with SQ:=true}
def St.back(s:St):St:={s with pc:=s.epc,SQ:=s.S6,ie:=s.eie}
def St.same(a b:St):Bool:=
 (((a.d==b.d)&&(a.r==b.r))&&((((((((a.pc==b.pc)&&(a.flags==b.flags))&&(a.SQ==b.SQ))&&(a.S1==b.S1))&&(a.ie==b.ie))&&(a.root==b.root))&&(a.vec==b.vec)))&&(((((a.epc==b.epc)&&(a.SU==b.SU))&&(a.addr==b.addr))&&(a.S6==b.S6))&&(a.eie==b.eie)))&&(a.count==b.count)&&(a.halted==b.halted)
section
attribute [local irreducible] Ve bN
def St.Uh(a b:St):Bool:=
 (((((((((((((((a.pc==b.pc)&&(a.d==b.d))&&(a.r==b.r))&&(a.flags==b.flags))&&(a.SQ==b.SQ))&&(a.S1==b.S1))&&(a.ie==b.ie))&&(a.root==b.root))&&(a.vec==b.vec))&&(a.epc==b.epc))&&(a.SU==b.SU))&&(a.addr==b.addr))&&(a.S6==b.S6))&&(a.eie==b.eie))&&(a.count==b.count))&&(a.halted==b.halted)
theorem St.T7(a b:St):a.Uh b=true<->a=b:=by
 unfold St.Uh;constructor
 .intro h;simp only[ay,beq_iff_eq]at h;obtain⟨⟨⟨⟨⟨⟨⟨⟨⟨⟨⟨⟨⟨⟨⟨h1,h2⟩,h3⟩,h4⟩,h5⟩,h6⟩,h7⟩,h8⟩,h9⟩,h10⟩,h11⟩,h12⟩,h13⟩,h14⟩,h15⟩,h16⟩:=h;cases a;simp_all
 grind
theorem and15(v:Int)(h:u32 v):bits .and .u32 v 15=v%16:=by
 obtain⟨h0,h1⟩:=h;obtain⟨n,rfl⟩:=aj h0;have e1:(BitVec.ofInt 32 (n:Int)).toNat=n:=by rw[BitVec.ofInt_natCast,BitVec.toNat_ofNat];exact CC
 have e2:n&&&15=n%16:=Nat.and_two_pow_sub_one_eq_mod n 4;show V9 .u32 (((BitVec.ofInt 32 (n:Int))&&&(BitVec.ofInt 32 15)).toNat:Int)=_
 grind [IntKind.wrap_u32]
theorem QO(v:Int)(h:u32 v):bits .andNot .u32 v 63=V9 .u32 (v - v%64):=by
 obtain⟨h0,h1⟩:=h;obtain⟨n,rfl⟩:=aj h0;have e1:(BitVec.ofInt 32 (n:Int)).toNat=n:=by rw[BitVec.ofInt_natCast,BitVec.toNat_ofNat];exact CC
 show V9 .u32 (((BitVec.ofInt 32 (n:Int))&&& ~~~ (BitVec.ofInt 32 63)).toNat:Int)=_
 grind [and63]
theorem St.T8{x:Int}(h:0<=x/\x<=10):x=0\/x=1\/x=2\/x=3\/x=4\/x=5\/x=6\/x=7\/x=8\/x=9\/x=10:=by omega
theorem St.right_lt(s:St):((decide ((J s.d:Int)<=16)&&decide ((J s.r:Int)<=16))&&decide (s.flags<16))=s.right:=by
 grind [St.right]
theorem mul64(v:Int)(h:u32 v):V9 .u32 (V9 .u32 (v.tdiv 64)*64)=bits .andNot .u32 v 63:=by
 obtain⟨h0,h1⟩:=h;rw[QO v ⟨h0,h1⟩]
 grind [IntKind.wrap_u32]
theorem rem16(v:Int)(h:u32 v):v.tmod 16=bits .and .u32 v 15:=by
 rw[and15 v h,aq h.1]
end
end Go.Ink
namespace Go.Ink
open List renaming length→J, replicate→R9
open IntKind renaming wrap→V9
open Go.RowKit Go.Proofs.Tryz
section
attribute [local irreducible] Ve bN
variable{n k:Nat}
theorem px(k:IntKind)(n:Nat)(a:Int):R9 n (Value.int k a)=ints k (R9 n a):=by simp[ints]
abbrev lU(bt bp:Nat)(o:Nat)(bf bg n:Nat):bJ:=row bt [.p bp,.i o,.slice (sA bf) n n,.slice (sA bg) n n] 277
abbrev YD(bf n:Nat)(fr:Li):bJ:=sl .i64 3 (sA bf) n n fr
def UO.calm(M:UO):UO:=⟨M.data,R9 64 false⟩
theorem nE:∀(n:Nat) (l:List Nat),l.Nodup->(∀x,x∈l->x<n)->J l<=n
 |0,l,_,h=>by
  cases l with
  |nil=>simp
  |cons x l=>have:=h x cJ;omega
 |n+1,l,hn,h=>by
  by_cases hm:n∈l
  .have h1:=nE n (l.erase n) (hn.erase n) (λx hx=>by
    grind)
   grind
  have h1:=nE n l hn (λx hx=>by
   grind)
  omega
section
variable{L:fF}{M:UO}{k:SN}
theorem eT.few(h:eT L M k){fs:List Nat}(hnd:fs.Nodup)(hmem:∀f,f∈fs->((f:Nat):Int)∈k.fr):J fs<=L.n/\∀p:Nat,k.fr[p]? =some (-1)->J fs<L.n:=by
 have h1:=LZ hnd hmem;have h3:∀x,x∈fs.map (λf:Nat=>k.fr.idxOf (f:Int))->x<L.n:=λx hx=>by
  grind [h.fr]
 refine⟨by have:=nE L.n _ h1 h3;grind,λp hp=>?_⟩;have hpl:p<L.n:=by have:=(aC.1 hp).1;rw[h.fr]at this;exact this
 have h2:=nE L.n (p::fs.map λf:Nat=>k.fr.idxOf (f:Int)) (List.nodup_cons.2 ⟨λhm=>by
  grind,h1⟩) (λx hx=>by
  grind)
 grind
theorem eT.heldAll(h:eT L M k):J (fP k.ow L.o 256)<=L.n/\∀p:Nat,k.fr[p]? =some (-1)->J (fP k.ow L.o 256)<L.n:=by
 unfold fP;rw[List.length_map];refine h.few (List.filter_sublist.nodup List.nodup_range) (λf hf=>?_);rw[List.mem_filter,List.mem_range]at hf;have e:=eq_of_beq hf.2;rcases h.held f hf.1 with⟨-,h1⟩|⟨-, -,q,hq⟩|⟨h1,h2, -⟩
 .grind
 .grind
 grind [fF.oth]
theorem eT.heldLt(h:eT L M k){p:Nat}(hp:k.fr[p]? =some (-1)):J (fP k.ow L.o 256)<L.n:=h.heldAll.2 p hp
theorem eT.free(h:eT L M k){p:Nat}(hp:k.fr[p]? =some (-1)):∃f,16<=f/\f<256/\k.ow[f]? =some (-1):=by
 apply Classical.byContradiction;intro hno;have h1:=(h.few (fs:=(List.range' 16 240).filter (λf=> !L.oth f)) (List.filter_sublist.nodup List.nodup_range') (λf hf=>by
  rw[List.mem_filter,List.mem_range'_1]at hf;rcases h.held f (by omega)with⟨-,h1⟩|⟨-, -,q,hq⟩|⟨h1, -⟩
  ·grind
  ·grind
  grind)).2 p hp
 grind [h.cap]
theorem eT.calm(h:eT L M k):eT L M.calm k:=⟨h.pl,h.o4,h.n1,h.n64,h.fr,h.gd,h.dl,az,h.db,h.Tc,h.inj,h.held,h.prom,h.prs,h.cap⟩
end
def UO.new(n:Nat):UO:=⟨R9 (n*64) 0,R9 64 false⟩
variable{L:fF}
theorem FX(h:n<=J ((List.range' 16 240).filter (λf=>L.gw[f]? ==some (-1)))):n<=J ((List.range' 16 240).filter (λf=> !L.oth f)):=
 aN h (List.Sublist.length_le (by
  rw[show(List.range' 16 240).filter (λf=>L.gw[f]? ==some (-1))=((List.range' 16 240).filter (λf=> !L.oth f)).filter (λf=>L.gw[f]? ==some (-1)) by
   rw[List.filter_filter]
   grind [fF.oth]]
  exact List.filter_sublist))
def vL(f:Int):Value:=bif f== -1 then .tuple #[.i 0,.bool false]else .tuple #[.i f,.bool true]
variable{a:Nat}
theorem vK(f:Nat):vL (f:Int)= .tuple #[.i f,.bool true]:=by
 grind [vL]
def CY(L:fF)(M:UO)(a:Nat):Value:=bif decide (a+4<=L.n*64)then .tuple #[.w (lc M.data a),.bool true]else .tuple #[.w 0,.bool false]
def cX:List TE:=R9 16 TE.zero
def YA(r:Option (Nat×Int)):Value:=match r with|some (a,l)=> .tuple #[.w a,.w l,.bool true]|none=> .tuple #[.w 0,.w 0,.bool false]
def Qg(o:Option Int):Value:=match o with|some e=> .tuple #[.w e,.bool true]|none=> .tuple #[.w 0,.bool false]
abbrev JH(bu bm bb:Nat):bJ:=row bu [.p bm,.p bb] 199
end
end Go.Ink
namespace Go.Ink
open List renaming length→J, replicate→R9
open IntKind renaming wrap→V9
open Go.RowKit Go.Proofs.Tryz
section
attribute [local irreducible] Ve bN
abbrev rE(b:Nat)(p m:Int):bJ:=row b [.w p,.w m] 193
abbrev On(b:Nat)(t:Int):bJ:=row b [.w t] 297
abbrev b8(A:Oa)(c:Nat)(l:Li):bJ:=sl .u8 5 A (J l) c l
abbrev zP(b:Nat)(Ao:Oa)(no co:Nat)(Ai:Oa)(ni ci:Nat):bJ:=row b [.slice Ao no co,.slice Ai ni ci] 196
abbrev N1(b bd:Nat):bJ:=row b [.slice (sA bd) 1024 1024] 238
abbrev Cj(bd:Nat)(l:Li):bJ:=sl .u8 5 (sA bd) 1024 1024 l
theorem disk_rd{w:World}{bk SS:Nat}{S8:Li}(h:U5 w 1 (sA bk) 1024 1024 (ints .u8 S8))(hs:SS<16):Rd w .u8 (some ⟨bk,SS*64,none⟩) 64 (1024 - SS*64) ((S8.drop (SS*64)).take 64):=by
 have h1:=h.cut (lo:=SS*64) (hi:=SS*64+64) O O;rw[if_neg O,Option.map_some,Addr.add_lit,Nat.mul_one,bC,i7,nO,show SS*64+64 - SS*64=64 by omega,List.drop_take,show SS*64+64 - SS*64=64 by omega]at h1;exact h1
structure qV where
 bs:Nat
 bi:Nat
 bti:Nat
 bcn:Nat
 bdr:Nat
 bdk:Nat
abbrev SC(D:qV)(bm:Nat)(d:UF):bJ:=row D.bs [.p D.bi,.p D.bti,.p D.bcn,.p D.bdr,.p bm,.w (d.SS:Int),.w (d.place:Int),.w d.status] 101
abbrev my(D:qV)(bm:Nat)(X:dJ)(d:UF):List bJ:=[SC D bm d,rE D.bi d.S7 d.mask,On D.bti d.timer,zP D.bcn X.Ao (J d.out) X.co X.Ai (J d.inp) X.ci,b8 X.Ao X.co d.out,b8 X.Ai X.ci d.inp,N1 D.bdr D.bdk,Cj D.bdk d.S8]
def df(op f:Int):Bool×Bool:=bif op==33 then(bits .and .u32 f 1 !=0,true)else bif op==34 then(bits .and .u32 f 1==0,true)else bif op==35 then(bits .and .u32 f 4 !=0,true)else bif op==36 then(bits .and .u32 f 2 !=0,true)else bif op==37 then(bits .and .u32 f 8 !=0,true)else(false,false)
abbrev xt(K:Jp)(X:dz)(R:UG):bJ:=row K.br [.w R.s.pc,.slice X.Ad (J R.s.d) X.cd,.slice X.Ar (J R.s.r) X.cr,.w R.s.flags,.bool R.s.SQ,.bool R.s.S1,.bool R.s.ie,.w R.s.root,.w R.s.vec,.w R.s.epc,.w R.s.SU,.w R.s.addr,.bool R.s.S6,.bool R.s.eie,.int .u64 R.s.count,.bool R.s.halted,.int .u64 R.count,.pointer K.u,.pointer K.b,.i R.S3.SU,.w R.S3.addr,.bool R.device] 328
def UG.Ul(R:UG)(x:Int):UG:=R.wr (R.s.r++[x])
variable{R:UG}
theorem UG.snoc(h:1<=J R.s.d):∃(R':UG) (l:Li) (x:Int),R=R'.wd (l++[x]):=by
 obtain⟨l,x,h⟩:=rh h;exact⟨R,l,x,by rw[UG.wd,<-h]⟩
theorem UG.Ue(h:1<=J R.s.r):∃(R':UG) (l:Li) (x:Int),R=R'.wr (l++[x]):=by
 obtain⟨l,x,h⟩:=rh h;exact⟨R,l,x,by rw[UG.wr,<-h]⟩
theorem UG.TF(h:2<=J R.s.d):∃(R':UG) (l:Li) (x y:Int),R=R'.wd ((l++[x])++[y]):=by
 obtain⟨R1,l,y,rfl⟩:=UG.snoc (R:=R) O;have h:2<=J (l++[y]):=h;obtain⟨m,x,rfl⟩:=rh (l:=l) (by simp at h;omega);exact⟨R1,m,x,y,I⟩
def cV(op n:Int)(R:UG):Option UG:=
 bif op==0 then some R else bif op==1 then some (R.push [n])else bif op==2 then some (R.push [n])else bif op==3 then some (R.pop.push [R.top,R.top])else bif op==4 then some R.pop else
 bif op==5 then some (R.pop.pop.push [R.top,R.pop.top])else bif op==6 then some (R.pop.pop.push [R.pop.top,R.top,R.pop.top])else bif op==7 then some (R.pop.Ul R.top)else bif op==8 then some (R.Ty.push [R.topR])else none
theorem mF(n:Int)(R:UG)(l:Li)(x:Int):cV 3 n (R.wd (l++[x]))=some (R.wd (l++[x,x])):=by
 show some _=_;rw[UG.top_wd,UG.pop_wd];rfl
theorem lm(n:Int)(R:UG)(l:Li)(x:Int):cV 4 n (R.wd (l++[x]))=some (R.wd l):=by
 show some _=_;rw[UG.pop_wd]
theorem lh(n:Int)(R:UG)(l:Li)(x y:Int):cV 5 n (R.wd ((l++[x])++[y]))=some (R.wd (l++[y,x])):=by
 show some _=_;rw[UG.top_wd,UG.pop_wd,UG.top_wd,UG.pop_wd];rfl
theorem lj(n:Int)(R:UG)(l:Li)(x y:Int):cV 6 n (R.wd ((l++[x])++[y]))=some (R.wd (l++[x,y,x])):=by
 show some _=_;rw[UG.top_wd,UG.pop_wd,UG.top_wd,UG.pop_wd];rfl
theorem mE(n:Int)(R:UG)(l:Li)(x:Int):cV 7 n (R.wd (l++[x]))=some ((R.wd l).wr (R.s.r++[x])):=by
 show some _=_;rw[UG.top_wd,UG.pop_wd];rfl
theorem ki(n:Int)(R:UG)(l:Li)(x:Int):cV 8 n (R.wr (l++[x]))=some ((R.wr l).wd (R.s.d++[x])):=by
 show some _=_;rw[UG.topR_wr,UG.popR_wr];rfl
theorem nw{op:Int}(n:Int)(R:UG)(h0:(op==0)=false)(h1:(op==1)=false)(h2:(op==2)=false)(h3:(op==3)=false)(h4:(op==4)=false)(h5:(op==5)=false)(h6:(op==6)=false)(h7:(op==7)=false)(h8:(op==8)=false):cV op n R=none:=by
 simp only[cV, *,ac]
def gq(R:UG)(n:Int):Int:=V9 .u32 (R.s.pc+jN n)
def bW(op n:Int)(R:UG):Bool×UG:=
 bif decide (16<=op)&&decide (op<=25)then
  (true,bif op !=25 then((bif(hI op R.pop.top R.top).2.2 then R.pop.pop else R.pop.pop.wt ⟨5,0⟩).wfl (hI op R.pop.top R.top).2.1).push [(hI op R.pop.top R.top).1]else(bif(hI op R.pop.top R.top).2.2 then R.pop.pop else R.pop.pop.wt ⟨5,0⟩).wfl (hI op R.pop.top R.top).2.1)
 else bif op==38 then(true,(R.Ul R.s.pc).wpc (gq R n))else bif op==32 then(true,R.wpc (gq R n))else bif op==39 then(true,R.Ty.wpc R.topR)else bif op==40 then(true,R.pop.wpc R.top)else
 ((df op R.s.flags).2,bif(df op R.s.flags).1 then R.wpc (gq R n)else R)
theorem zl{op:Int}(h:(decide (16<=op)&&decide (op<=25))=true):(bV op).1.1=2:=by
 simp only[ay,ai]at h;obtain rfl|rfl|rfl|rfl|rfl|rfl|rfl|rfl|rfl|rfl:op=16\/op=17\/op=18\/op=19\/op=20\/op=21\/op=22\/op=23\/op=24\/op=25:=by omega
 all_goals rfl
theorem Fx(op:Int):NV (bV op):=by
 unfold bV
 repeat (refine bL NV ⟨by decide,by decide,by decide,by decide⟩ ?_)
 exact⟨by decide,by decide,by decide,by decide⟩
def qo(s:St)(q:(Nat×Nat)×(Nat×Nat)):Int:=
 bif decide ((J s.d:Int)<(q.1.1:Int))||decide ((J s.r:Int)<(q.2.1:Int))then 3 else
 bif decide (16<(J s.d:Int) - (q.1.1:Int)+(q.1.2:Int))||decide (16<(J s.r:Int) - (q.2.1:Int)+(q.2.2:Int))then 4 else 0
structure NR where
 p:Int
 ok:Bool
 r:UG
 u:UI
abbrev mH(K:Jp)(X:dz)(R:UG):List Value:=[.w R.s.pc,.slice X.Ad (J R.s.d) X.cd,.slice X.Ar (J R.s.r) X.cr,.w R.s.flags,.bool R.s.SQ,.bool R.s.S1,.bool R.s.ie,.w R.s.root,.w R.s.vec,.w R.s.epc,.w R.s.SU,.w R.s.addr,.bool R.s.S6,.bool R.s.eie,.int .u64 R.s.count,.bool R.s.halted,.int .u64 R.count,.pointer K.u,.pointer K.b,.i R.S3.SU,.w R.S3.addr,.bool R.device]
abbrev VF(br bu:Nat)(D:qV):Jp:=⟨br,some ⟨bu,0,none⟩,some ⟨D.bs,0,none⟩⟩
theorem N7(L:fF)(M:UO)(a:Nat):CY L M a= .tuple #[.w (iW L.n M a).1,.bool (iW L.n M a).2]:=by
 unfold CY iW;cases decide (a+4<=L.n*64)<;>rfl
end
end Go.Ink
namespace Go.Ink
open List renaming length→J
open Go.RowKit
def rdB(A:Oa):List Value->List Nat
 |[]=>[]
 |_::_=>ab A
def Wo(A:Oa)(n c:Nat)(xs:List Value):bJ:= .gen (rdB A xs) (λw=>U5 w 1 A n c xs)
 (λw w' hb h=>⟨h.len,h.cap,h.max,h.nil,λad e j u hu=>by
  have h1:=h.at_ ad e j u hu;rw[IG]
  ·exact h1
  rw[lw];refine hb _ ?_;cases xs with
  |nil=>simp at hu
  |cons x xs=>subst e;simp[rdB,ab]⟩)
 (λw h b hb=>by
  cases xs with
  |nil=>cases hb
  |cons x xs=>
   cases hA:A with
   |none=>rw[hA]at hb;simp[rdB,ab]at hb
   |some ad=>
    rw[hA]at hb;simp only[rdB,ab,aX]at hb;subst hb;have:=cell_lt (h.at_ ad hA 0 x I);rwa[lw]at this)
theorem oZ{w:World}{A:Oa}{n c:Nat}{xs:List Value}(h:(Wo A n c xs).ok w):U5 w 1 A n c xs:=h
theorem Yl.subs{cs cs':List bJ}{c c':bJ}(hu:Yl cs c c' cs'):c'.bs.Sublist c.bs->(bM cs').Sublist (bM cs)/\∀x,x∈cs'->x∈cs\/x=c':=by
 induction hu with
 |head d d' cs=>exact λhs=>⟨by rw[dN,dN];exact hs.append (aL _),λx hx=>by
   rcases aI.1 hx with h|h
   ·exact .inr h
   exact .inl (aW _ h)⟩
 |tail d _ ih=>
  intro hs;obtain⟨i1,i2⟩:=ih hs;exact⟨by rw[dN,dN];exact(aL _).append i1,λx hx=>by
   rcases aI.1 hx with h|h
   ·exact .inl (h▸bn ..)
   rcases i2 x h with h|h
   ·exact .inl (aW _ h)
   exact .inr h⟩
theorem Inv.convS{w0 w:World}{S:List Nat}{cs cs':List bJ}{c c':bJ}(h:Inv w0 S cs w)(hu:Yl cs c c' cs')(hs:c'.bs.Sublist c.bs)(hok:c.ok w->c'.ok w):Inv w0 S cs' w:=by
 obtain⟨k1,k2⟩:=hu.subs hs;exact⟨h.To,k1.nodup h.nodup,λx hx=>by
  rcases k2 x hx with hx|rfl
  ·exact h.ok x hx
  exact hok (h.ok c hu.has.mem),λb hb=>h.own b (k1.subset hb)⟩
section
variable{C:Cx}{Q:lK}{fr:Fr}{cs:List bJ}{c c':bJ}
theorem Bs{e:Exit}{mk:bJ->List bJ}(hu:At cs c mk)(hs:c'.bs.Sublist c.bs)(hok:∀w,c.ok w->c'.ok w)(h:VC C Q e fr (mk c')):VC C Q e fr cs:=λa w hf hi=>h a w hf (hi.convS (hu c') hs (hok w))
end
theorem PU(w:World)(S:List Nat):Inv w S [Wo none 0 0 []] w:=
 ⟨dc.refl _ _,by simp[bM,Wo,bJ.bs,rdB],λc hc=>by
  rw[aX]at hc;subst hc;exact(⟨I,aK _,ax _,λ_=>⟨I,I⟩,λad e=>by cases e⟩:U5 w 1 none 0 0 []),λb hb=>by simp[bM,Wo,bJ.bs,rdB]at hb⟩
theorem wl_nilr{C:Cx}{Q:lK}{fr:Fr}{cs:List bJ}{ops:Array Oper}{rest:List Oper}(h:WL C ops Q rest fr (cs++[Wo none 0 0 []])):WL C ops Q rest fr cs:=λa w hf hi=>h a w hf (hi.more (PU w []))
theorem slv_rdC{e n c:Nat}{A:Oa}{xs:List Value}(w:World)(h:(slv e 1 A n c xs).ok w):(Wo A n c xs).ok w:=cY h
theorem rdC_sub{A:Oa}{xs:List Value}:(rdB A xs).Sublist (ab A):=by
 cases xs with
 |nil=>exact List.nil_sublist _
 |cons x xs=>exact aL _
theorem OX{n c:Nat}{ad r:Addr}{x:Value}{xs:List Value}(hr:(some r:Oa)=(if c=1 then some ad else(some ad).map (·.add (1*1))))(w:World)(h:(Wo (some ad) (n+1) c (x::xs)).ok w):(Wo (some r) n (c - 1) xs).ok w:=by
 have h1:=(oZ h).cut (lo:=1) (hi:=n+1) O (aK _);have hl:=(oZ h).len;rw[<-hr,List.take_of_length_le (by rw[hl];omega),Nat.add_sub_cancel]at h1;exact h1
theorem Bo{ad r:Addr}{c:Nat}{x:Value}{xs:List Value}(hr:(some r:Oa)=(if c=1 then some ad else(some ad).map (·.add (1*1)))):(rdB (some r) xs).Sublist (rdB (some ad) (x::xs)):=by
 have e:r.block=ad.block:=by
  split at hr
  .rw[aF hr]
  rw[Option.map_some]at hr;rw[aF hr,lw]
 cases xs with
 |nil=>exact List.nil_sublist _
 |cons y ys=>simp[rdB,ab,e]
theorem OY{w:World}{A:Oa}{n c:Nat}{xs:List Value}(h:(Wo A n c xs).ok w)(hn:0<n):∃ad,A=some ad:=by
 cases A with
 |none=>have:=((oZ h).nil I).1;omega
 |some ad=>exact⟨ad,I⟩
section
variable{C:Cx}{fr:Fr}{d:Option Tmp}{ty:TypeId}{pos:String}{af:Array Edge}{gd:Option (Nat×Bool)}{g:Bool}{x:Operand}{T:TypeId}
theorem EI{ad r:Addr}(n:Nat){f:Nat}(ho:iB C.P T f=some n)(hx:Ev fr g x (.pointer (some ad)))(hr:ad.add n=r):Ve C ⟨d,.fieldAddr T x f,ty,pos,af,gd⟩ fr g Vr (.pointer (some r)):=λA w hf _ hg=>by
 subst hr;unfold iB at ho;split at ho
 .rename_i fs hfs
  split at ho
  .rename_i fd hfd
   split at ho
   .rename_i i hi
    by_cases hz:i.size=0
    .simp[hz]at ho
    have hz':Nat.beq i.size 0=false:=by cases h':Nat.beq i.size 0 with|false=>rfl|true=>exact absurd (Nat.eq_of_beq_eq_true h') hz
    rw[hz']at ho;simp only[ac,bh]at ho;subst ho;simp[execOp,hx.eval hf hg,Instr.fieldAt,run_underlying hfs,hfd,Instr.sureAddr,fieldPlace,sizeOf,typeInfo,hi,hz]
   cases ho
  cases ho
 cases ho
end
def EqI(P:Program)(k e c:Nat)(xs ys:Array Value)(is:List Nat):Prop:=∀w:World,(Op.eqItems k e c xs ys is).run P w= .ok true w
theorem EqI.nil{P:Program}{k e c:Nat}{xs ys:Array Value}:EqI P k e c xs ys []:=λw=>I
theorem EqI.cons{P:Program}{k e c i:Nat}{xs ys:Array Value}{is:List Nat}{a b:Value}(ha:∀w,(part e xs (i*c)).run P w= .ok a w)(hb:∀w,(part e ys (i*c)).run P w= .ok b w)(he:Yr P k e a b)(h:EqI P k e c xs ys is):EqI P k e c xs ys (i::is):=λw=>by
 simp only[Op.eqItems,Sem.run_bind,ha w,hb w,Result.andThen_ok,he w,Bool.not_true,Bool.false_eq_true,if_false];exact h w
section
variable{C:Cx}{fr:Fr}{cs:List bJ}
theorem y_neg{g:Bool}{x:Operand}{k:IntKind}{a r:Int}{d:Option Tmp}{T ty:TypeId}{pos:String}{af:Array Edge}{gd:Option (Nat×Bool)}(hx:Ev fr g x (.int k a))(hr:k.wrap (0 - a)=r):Ve C ⟨d,.unOp .neg T x,ty,pos,af,gd⟩ fr g Vr (.int k r):=λA w hf _ hg=>by
 subst hr;unfold execOp;simp only[hx.eval hf hg]
 rfl
theorem OQ{fn:Func}{K:Value->List bJ->Prop}{cs':List bJ}{e:Exit}{t T bb tt u s:Nat}{v v':Value}{xs:List Value}(he:e= .ret\/e= .normal)(hs:cs'.Sublist cs)(h0:fn.results= #[.cell t T,.tmp u,.tmp s])(h1:look fr t=some (.p bb))(h2:look fr u=some v)(h3:look fr s=some v')(hc:Vk cs (row bb xs tt))
  (hT:∀w,(isAgg T).run C.P w= .ok true w) (hz:∀w,(sizeOf T).run C.P w= .ok (J xs) w) (hk:K (.tuple #[.agg xs.toArray,v,v']) cs'):VC C (bodyPost C.P fn (Ah C.w0 C.S K)) e fr cs:=
 nC he hs (λa w hf hi=>by
  have e1:=hf.at_ t _ h1;have e2:=hf.at_ u _ h2;have e3:=hf.at_ s _ h3;simp only[Array.getD_eq_getD_getElem?]at e1 e2 e3;simp[results,h0,e1,e2,e3,asAddr,gN hT hz hi hc]) hk
end
theorem Inv.Ub{S:List Nat}{cs cin:List bJ}{w0 w w':World}(h:Inv w0 S cs w)(hT:∀c,c∈cin->c∈cs)(hk:dc (bM cin) w w'):dc S w0 w':=
 ⟨hk.os.trans h.To.os,hk.tape.trans h.To.tape,hk.output.trans h.To.output,aN h.To.size hk.size,λb hb hS=>by
  refine(hk.block b (Nat.lt_of_lt_of_le hb h.To.size) λhb2=>?_).trans (h.To.block b hb hS);obtain⟨c,hc,hbc⟩:=dq.1 hb2;rcases h.own b (dq.2 ⟨c,hT c hc,hbc⟩)with h1|h1
  ·exact hS h1
  omega⟩
section
variable{C:Cx}{fr:Fr}{d:Option Tmp}{ty:TypeId}{pos:String}{af:Array Edge}{gd:Option (Nat×Bool)}{g:Bool}{x y:Operand}{T T':TypeId}
theorem Ys{k:IntKind}{a b:Int}(hx:Ev fr g x (.int k a))(hy:Ev fr g y (.int k b)){r:Int}(hr:(if b<a then b else a)=r):Ve C ⟨d,.call {callee:= .builtin .min,args:= #[x,y],argTypes:= #[T,T']},ty,pos,af,gd⟩ fr g Vr (.int k r):=λA w hf _ hg=>by
 subst hr;simp[execOp,resolve,invoke,builtin,hx.eval hf hg,hy.eval hf hg,Builtin.min_,Builtin.min2]
end
abbrev dm(cin:List bJ):bJ:=Wg (α:=Unit) (bM cin) (λ_=>cin) ir (λ_=>True)
theorem oJ{cin:List bJ}{w:World}(h:(dm cin).ok w):∀c,c∈cin->c.ok w:=by
 obtain⟨_,_,_,h3⟩:=h;exact h3
theorem Inv.TM{w0 w w':World}{S:List Nat}{cs cin rest:List bJ}{c:bJ}(h:Inv w0 S cs w)(hp:ik cin cs rest)(h2:Vk rest c)(hk:dc (bM cin) w w'):c.ok w':=by
 have hc:=h.ok _ (hp.perm.symm.subset (List.mem_append_right _ h2.mem));refine c.loc w w' (λb hb=>hk.block b (c.lt w hc b hb) λhin=>?_) hc;have hn:=((hp.perm.flatMap_right bJ.bs).nodup_iff).1 h.nodup;rw[List.flatMap_append]at hn;exact(List.nodup_append.1 hn).2.2 b hin b (dq.2 ⟨_,h2.mem,hb⟩) I
section
variable{C:Cx}{Q:lK}{fr:Fr}{cs r:List bJ}{ops:Array Oper}{l:List Oper}
theorem mA(cin:List bJ)(hs:ik cin cs r)(h:WL C ops Q l fr (dm cin::r)):WL C ops Q l fr cs:=yt () trivial hs h
end
section
variable{C:Cx}{fr:Fr}{d:Option Tmp}{ty:TypeId}{pos:String}{af:Array Edge}{gd:Option (Nat×Bool)}{x:Operand}
variable{l:List Operand}{vs fs caps:List Value}{ats:Array TypeId}
theorem AT{f:FuncId}{a:Act}{w:World}(hf:qU C.N fr a)(hx:ev fr x=some (.func (.func f) fs.toArray caps.toArray))(hl:evs fr l=some vs)(hc:∀args w,(callFunc f args).run C.P w= .ok (.enter f args) w):
  (execOp a.eval ⟨d,.call {callee:= .value x,args:=l.toArray,argTypes:=ats},ty,pos,af,gd⟩).run C.P w= .ok (.enter f (fs++vs++caps).toArray) w:=by
 have h1:=hf.ev hx;simp[execOp,resolve,invoke,Deferred.ofValue,h1,<-F7 hf hl,hc]
end
theorem iu{w:World}{e sz n c:Nat}{A:Oa}{xs:List Value}(h:(slv e sz A n c xs).ok w)(hn:0<n):∃b,A=some ⟨b,0,none⟩:=by
 rcases h.2 with⟨_,h'⟩|⟨g',cap',cur,h',_⟩
 .omega
 simp only[Value.slice.injEq]at h';exact⟨g',h'.1⟩
section
variable{C:Cx}{fr:Fr}{cs:List bJ}{d:Option Nat}{x:Operand}{ty:TypeId}{pos:String}{af:Array Edge}{gd:Option (Nat×Bool)}{g:Bool}{v:Value}
variable{l:List Operand}{vs:List Value}
theorem mz{f:FuncId}(hl:evs fr l=some vs):Ve C ⟨d,.makeFunc (.func f) #[] l.toArray,ty,pos,af,gd⟩ fr g Vr (.func (.func f) #[] vs.toArray):=λA w hf _ hg=>by
 have h:=F7 hf hl;simp[execOp,Instr.makeFunc,<-h]
theorem iZ{f:FuncId}{fs caps:List Value}{ats:Array TypeId}{K:Value->List bJ->Prop}(cin:List bJ){rest:List bJ}(hx:ev fr x=some (.func (.func f) fs.toArray caps.toArray))(hl:evs fr l=some vs)(hc:∀args w,(callFunc f args).run C.P w= .ok (.enter f args) w)
  (hp:ik cin cs rest) (h:∀w,Inv C.w0 C.S cs w->Inv w (bM cin) cin w->UW C.P f (fs++vs++caps) w cin K):
  VU C ⟨d,.call {callee:= .value x,args:=l.toArray,argTypes:=ats},ty,pos,af,gd⟩ fr cs true (λv cs'=>∃cout,K v cout/\cs'=cout++rest):=λa w hf hinv next Q hn=>by
 have hin:Inv w (bM cin) cin w:=⟨dc.refl _ _,by
  have:=((hp.perm.flatMap_right bJ.bs).nodup_iff).1 hinv.nodup;rw[show List.flatMap bJ.bs (cin++rest)=bM cin++bM rest from fg _ _]at this;exact(List.nodup_append.1 this).1,λc hc=>hinv.ok c (hp.perm.mem_iff.2 (aJ.2 (.inl hc))),λb hb=> .inl hb⟩
 unfold Oper.wp;rw[AT hf hx hl hc];refine Calls.mono (h w hinv hin) λe w' hq=>?_
 obtain⟨v,cout,rfl,hk,hi⟩:=hq;exact hn _ _ _ ⟨cout,hk,I⟩ (hinv.step hp.perm (.refl _) hi.To hi) (λe=>by cases e)
end
section
open Go.MapKept
open Go.ChangeMaps (setBlock)
open Go.Maps (Keyed)
def VI(q:Ky):Value:= .agg #[.w q.1,.w q.2]
theorem kyV_inj{p q:Ky}(h:VI p=VI q):p=q:=by
 grind [VI,Value.agg.injEq,Value.int.injEq]
def gr{β:Type}(L:List (Ky×β))(k:Ky)(z:β):β:=((L.find? λx=>x.1==k).map (·.2)).getD z
theorem Bx{α:Type}{key:α->Ky}{k:Ky}{l:List α}(h:∀x,x∈l->key x≠k):cN key k l=none:=by
 grind [cN]
theorem kB{α β:Type}{key:α->Ky}{key':β->Ky}(f:α->β)(hf:∀x,key' (f x)=key x)(k:Ky)(l:List α):cN key' k (l.map f)=cN key k l:=by
 unfold cN;rw[List.findIdx?_map];congr 1
 grind
theorem rq{β:Type}{L:List (Ky×β)}{k:Ky}{j:Nat}(h:cN (·.1) k L=some j){v:β}(hv:L[j]? =some (k,v))(z:β):gr L k z=v:=by
 grind [cN,gr,List.findIdx?_eq_some_iff_getElem,List.getElem?_eq_getElem,List.find?_eq_some_iff_getElem]
theorem uT{β:Type}{L:List (Ky×β)}{k:Ky}(h:cN (·.1) k L=none)(z:β):gr L k z=z:=by
 grind [gr,iF]
theorem yV{α β:Type}(f:α->β)(L:List (Ky×α))(k:Ky)(z:α):gr (L.map λx=>(x.1,f x.2)) k (f z)=f (gr L k z):=by
 unfold gr;rw[List.find?_map];have:((λx:Ky×β=>x.1==k)∘λx:Ky×α=>(x.1,f x.2))=λx=>x.1==k:=I
 rw[this];cases L.find? (λx=>x.1==k)<;>rfl
structure sj(P:Program)(k:TypeId):Prop where
 K:Keyed P k
 at_:∀q,lD q->∃l,keyOf P k (VI q)=some l
def oc(b:Nat)(L:List (Ky×Value))(w:World):Prop:=∃es clock,w.heap[b]? =some (.map es clock)/\Stamped es clock/\(es.toList.map λe=>(e.key,e.val))=(L.map λx=>(VI x.1,x.2))/\∀x,x∈L->lD x.1
abbrev V0(b:Nat)(L:List (Ky×Value)):bJ:= .gen [b] (oc b L)
 (λw w' h hk=>by obtain⟨es,cl,h1,h2⟩:=hk;exact⟨es,cl,(h b (by simp)).trans h1,h2⟩)
 (λw hk b' hb=>by obtain⟨es,cl,h1,_⟩:=hk;grind)
theorem nM{w w':World}{bs:List Nat}{c':bJ}(hk:dc bs w w')(hn:c'.bs.Nodup)(hok:c'.ok w')(hsub:∀b,b∈c'.bs->b∈bs\/w.heap.size<=b):Inv w bs [c'] w':=
 ⟨hk,by grind [bM],λc hc=>by grind,λb hb=>hsub b (by grind [bM])⟩
theorem gy{w:World}{b:Nat}{o o':Obj}(hb:w.heap[b]? =some o):dc [b] w (setBlock w b o'):=
 ⟨rfl,rfl,rfl,by simp[setBlock],λi _ hi=>(heap_set hb).2 i bZ⟩
theorem YF{es:Array MapEntry}{L:List (Ky×Value)}(h:(es.toList.map λe=>(e.key,e.val))=(L.map λx=>(VI x.1,x.2))){j:Nat}{e:MapEntry}(he:es.toList[j]? =some e):∃q,L[j]? =some (q,e.val)/\e.key=VI q:=by
 have h1:=congrArg (λl=>l[j]?) h
 grind
theorem Mz{es:Array MapEntry}{L:List (Ky×Value)}(h:(es.toList.map λe=>(e.key,e.val))=(L.map λx=>(VI x.1,x.2))){j:Nat}{x:Ky×Value}(he:L[j]? =some x):∃e,es.toList[j]? =some e/\e.key=VI x.1/\e.val=x.2:=by
 have h1:=congrArg (λl=>l[j]?) h
 grind
section
variable{P:Program}{k e:TypeId}{T:TypeId}{w:World}{b:Nat}{L:List (Ky×Value)}{q:Ky}{es:Array MapEntry}{clock:Nat}
theorem rM(hK:sj P k)(hs:Stamped es clock)(hL:(es.toList.map λe=>(e.key,e.val))=(L.map λx=>(VI x.1,x.2)))(hok:∀x,x∈L->lD x.1)(hq:lD q)(w:World):
  (cN (·.1) q L=none/\(Instr.findKey k (VI q) es.toList).run P w= .ok none w/\∀x∈es.toList,x.key≠VI q)\/
  ∃j e,cN (·.1) q L=some j/\(Instr.findKey k (VI q) es.toList).run P w= .ok (some (j,e.val)) w/\es.toList[j]? =some e/\e.key=VI q/\L[j]? =some (q,e.val):=by
 obtain⟨lq,hlq⟩:=hK.at_ q hq;have hkeys:∀e∈es.toList,∃l,keyOf P k e.key=some l:=λe he=>by
  obtain⟨j,hj⟩:=List.getElem?_of_mem he;obtain⟨p,hp,hpe⟩:=YF hL hj;rw[hpe];exact hK.at_ p (hok _ (aG hp))
 rcases hK.K.find w hlq es.toList hkeys with⟨h1,h2⟩|⟨j,e,h1,h2,h3⟩
 .grind [Bx,Mz,List.getElem?_of_mem,List.mem_of_getElem?]
 obtain⟨p,hp,hpe⟩:=YF hL h2;obtain rfl:p=q:=kyV_inj (hpe.symm.trans h3);refine Or.inr ⟨j,e,?_,h1,h2,h3,hp⟩;cases hpl:cN (·.1) p L with
 |none=>grind [iF]
 |some i=>
  obtain⟨hi,hik⟩:=fJ hpl;obtain⟨f,hf,hfk, -⟩:=Mz hL (ak hi)
  grind [oL]
theorem PF(hT:P.underlying T=some (.map k e))(hK:sj P k){z:Value}(hz:(zeroValue e).run P w= .ok z w)(hq:lD q)(h:oc b L w)(c:Bool):
  (Instr.lookup T (.map (some b)) (VI q) c).run P w= .ok (if c then .tuple #[gr L q z,.bool (cN (·.1) q L).isSome]else gr L q z) w:=by
 obtain⟨es,clock,hb,hs,hL,hok⟩:=h;obtain⟨lq,hlq⟩:=hK.at_ q hq;rcases rM hK hs hL hok hq w with⟨h1,h2,h3⟩|⟨j,e0,h1,h2,h3,h4,h5⟩
 .rw[uT h1,h1];cases c<;>simp[Instr.lookup,run_underlying hT,MapKept.run_getObj_map hb,hK.K.check w _ hlq,h2,hz,Result.andThen]
 rw[rq h1 h5,h1];cases c<;>simp[Instr.lookup,run_underlying hT,MapKept.run_getObj_map hb,hK.K.check w _ hlq,h2,Result.andThen]
theorem del_run(hT:P.underlying T=some (.map k e))(hK:sj P k)(hq:lD q)(h:oc b L w)(ty:TypeId):
  ∃w',(Builtin.delete_ #[T,k] ty #[.map (some b),VI q]).run P w= .ok (.tuple #[]) w'/\dc [b] w w'/\oc b (qk L q) w':=by
 obtain⟨es,clock,hb,hs,hL,hok⟩:=h;obtain⟨lq,hlq⟩:=hK.at_ q hq;rcases rM hK hs hL hok hq w with⟨h1,h2,h3⟩|⟨j,e0,h1,h2,h3,h4,h5⟩
 .refine⟨setBlock w b (.map es clock),?_,gy hb,_,_,(heap_set hb).1,hs,?_,?_⟩
  .exact Ry
  .grind [qk]
  grind [qk]
 have hjl:=(aC.1 h3).1;refine⟨setBlock w b (.map (es.eraseIdxIfInBounds j) clock),?_,gy hb,_,_,(heap_set hb).1,stamped_erase hs j,?_,?_⟩
 .exact Ry
 .grind [qk,sN,ChangeMaps.map_eraseIdx]
 grind [qk,List.eraseIdx_sublist]
end
def Aj(b r:Nat)(L:List (Bool×Ky×Value))(cur:Option (Ky×Value))(w:World):Prop:=
 ∃es clock since seen c0,w.heap[b]? =some (.map es clock)/\Stamped es clock/\w.heap[r]? =some (.mapIter (some b) since seen c0)/\(∀x∈es.toList,x.born<since)/\since<=c0/\since<=clock/\
  (es.toList.map λe=>(seen.contains e.born,e.key,e.val))=(L.map λx=>(x.1,VI x.2.1,x.2.2))/\(∀x,x∈L->lD x.2.1)/\b≠r/\
  ∀q v,cur=some (q,v)->c0=clock/\∃e∈es.toList,∃sn:Array Nat,seen=sn.push e.born/\e.key=VI q/\e.val=v
abbrev Xg(b r:Nat)(L:List (Bool×Ky×Value))(cur:Option (Ky×Value)):bJ:= .gen [b,r] (Aj b r L cur)
 (λw w' h hk=>by obtain⟨es,cl,si,se,c0,h1,h2,h3,h4⟩:=hk;exact⟨es,cl,si,se,c0,(h b (by simp)).trans h1,h2,(h r (by simp)).trans h3,h4⟩)
 (λw hk b' hb=>by
  obtain⟨es,cl,si,se,c0,h1,h2,h3,h4⟩:=hk
  grind)
abbrev Jj:=Option (Nat×Ky×Value)
def Ia(o:Jj):List Value:=match o with|none=>[.bool false]|some (_,q,v)=>[.bool true,VI q,v]
def K7(o:Jj):Option (Ky×Value):=o.map (·.2)
def Sf(L:List (Bool×Ky×Value))(o:Jj):Prop:=match o with|none=>∀x,x∈L->x.1=true|some (j,q,v)=>L[j]? =some (false,q,v)
variable{b r:Nat}{L:List (Bool×Ky×Value)}{cur:Option (Ky×Value)}{w:World}
theorem So(h:Aj b r L cur w):oc b (L.map (·.2)) w:=by
 obtain⟨es,clock,since,seen,c0,hb,hs,hr,hold,hsc,hsk,hL,hok,hne,hcur⟩:=h;refine⟨es,clock,hb,hs,?_,λx hx=>?_⟩
 .exact η
 grind
theorem MB{P:Program}{q:Ky}{v:Value}(h:Aj b r L (some (q,v)) w):(Instr.entry (.p r)).run P w= .ok (.tuple #[VI q,v]) w:=by
 obtain⟨es,clock,since,seen,c0,hb,hs,hr,hold,hsc,hsk,hL,hok,hne,hcur⟩:=h;obtain⟨rfl,e,he,sn,rfl,h1,rfl⟩:=hcur q v I;rw[<-h1];exact run_entry_at w r b since sn es c0 e hr hb he hs.2.1
def wL(L:List (Bool×Ky×Value))(q:Ky):List (Bool×Ky×Value):=match cN (·.2.1) q L with
 |some j=>L.eraseIdx j
 |none=>L
section
variable{P:Program}{k e:TypeId}{T:TypeId}{w:World}{b r:Nat}{L:List (Bool×Ky×Value)}{cur:Option (Ky×Value)}{q:Ky}
theorem LP(hT:P.underlying T=some (.map k e))(hK:sj P k)(hq:lD q)(h:Aj b r L cur w)(ty:TypeId):
  ∃w',(Builtin.delete_ #[T,k] ty #[.map (some b),VI q]).run P w= .ok (.tuple #[]) w'/\dc [b,r] w w'/\Aj b r (wL L q) none w':=by
 have hm:=So h;obtain⟨es,clock,since,seen,c0,hb,hs,hr,hold,hsc,hsk,hL,hok,hne,hcur⟩:=h;obtain⟨lq,hlq⟩:=hK.at_ q hq;have hL2:(es.toList.map λe=>(e.key,e.val))=((L.map (·.2)).map λx=>(VI x.1,x.2)):=by
  exact η
 have hok2:∀x,x∈L.map (·.2)->lD x.1:=λx hx=>by grind
 have hpl:cN (·.1) q (L.map (·.2))=cN (·.2.1) q L:=kB (key:=λx:Bool×Ky×Value=>x.2.1) (key':=λx:Ky×Value=>x.1) (·.2) ir q L;rcases rM hK hs hL2 hok2 hq w with⟨h1,h2,h3⟩|⟨j,e0,h1,h2,h3,h4,h5⟩
 .rw[hpl]at h1;have hk1:=gy (o':= .map es clock) hb;refine⟨setBlock w b (.map es clock),?_,⟨I,I,I,hk1.size,λi hi hn=>hk1.block i hi bZ⟩,es,clock,since,seen,c0,(heap_set hb).1,hs,((heap_set hb).2 r hne.symm).trans hr,hold,hsc,hsk,?_,?_,hne,λ_ _ e=>by cases e⟩
  .exact Ry
  .grind [wL]
  grind [wL]
 rw[hpl]at h1;have hjl:=(aC.1 h3).1;have hk1:=gy (o':= .map (es.eraseIdxIfInBounds j) clock) hb;refine⟨setBlock w b (.map (es.eraseIdxIfInBounds j) clock),?_,⟨I,I,I,hk1.size,λi hi hn=>hk1.block i hi bZ⟩,es.eraseIdxIfInBounds j,clock,since,seen,c0,(heap_set hb).1,stamped_erase hs j,((heap_set hb).2 r hne.symm).trans hr,?_,hsc,hsk,?_,?_,hne,λ_ _ e=>by cases e⟩
 .exact Ry
 .grind
 .grind [wL,sN,ChangeMaps.map_eraseIdx]
 grind [wL,List.eraseIdx_sublist]
end
section
variable{C:Cx}{fr:Fr}{cs:List bJ}{d:Option Nat}{T k e:TypeId}{x y:Operand}{ty:TypeId}{pos:String}{af:Array Edge}{gd:Option (Nat×Bool)}{g:Bool}{v:Value}{b r:Nat}{L:List (Ky×Value)}{IL:List (Bool×Ky×Value)}{cur:Option (Ky×Value)}{q:Ky}
theorem Js{zv:Value}(hx:Ev fr g x (.map (some b)))(hy:Ev fr g y (VI q))(hq:lD q)(hT:C.P.underlying T=some (.map k e))(hK:sj C.P k)(hz:∀w,(zeroValue e).run C.P w= .ok zv w):
  Ve C ⟨d,.lookup T x y false,ty,pos,af,gd⟩ fr g (oc b L) (gr L q zv):=λa w hf hv hg=>by
 have:=PF hT hK (hz w) hq hv false;simp[execOp,hx.eval hf hg,hy.eval hf hg,this]
theorem y_mlen(hx:Ev fr g x (.map (some b)))(hT:C.P.underlying T=some (.map k e)):Ve C ⟨d,.call {callee:= .builtin .len,args:= #[x],argTypes:= #[T]},ty,pos,af,gd⟩ fr g (oc b L) (.i (J L:Int)):=λa w hf hv hg=>by
 obtain⟨es,clock,hb,hs,hL,hok⟩:=hv;have e1:es.size=J L:=by
  have:=congrArg List.length hL;simpa using this
 simp[execOp,resolve,invoke,builtin,hx.eval hf hg,Builtin.len_,run_underlying hT,MapKept.run_getObj_map hb,goInt,Result.andThen,e1]
theorem Db(hT:C.P.underlying T=some (.map k e)):VU C ⟨d,.makeMap T none,ty,pos,af,gd⟩ fr cs false (λv cs'=>∃b,v= .map (some b)/\cs'=cs++[V0 b []]):=λa w hf hi next Q h=>by
 have hr:(execOp a.eval ⟨d,.makeMap T none,ty,pos,af,gd⟩).run C.P w= .ok (.value (.map (some w.heap.size))) (w.alloc (.map #[] 0)):=by
  have:=run_makeMap (P:=C.P) T w;simp[execOp,this]
 unfold Oper.wp;rw[hr];refine h _ _ _ ⟨_,I,I⟩ (hi.more (nM (dc.TQ ((Below.refl _ _).alloc (aK _) _) _) (by simp[bJ.bs]) ⟨#[],0,zz w _,stamped_empty 0,by simp,by simp⟩ λb hb=>?_)) (λ_=>yj.alloc w _)
 grind [bJ.bs]
theorem Jr{o:Jj}(hx:Ev fr g x (.tuple (Ia o).toArray)):Ve C ⟨d,.extract x 0,ty,pos,af,gd⟩ fr g Vr (.bool o.isSome):=λa w hf _ hg=>by
 rcases o with _|⟨j,q,v⟩
 .simp[execOp,hx.eval hf hg,Instr.extract,Ia]
 simp[execOp,hx.eval hf hg,Instr.extract,Ia]
theorem Jv(hx:Ev fr g x (.p r)):Ve C ⟨d,.entry x,ty,pos,af,gd⟩ fr g (Aj b r IL (some (q,v))) (.tuple #[VI q,v]):=λa w hf hv hg=>by
 simp[execOp,hx.eval hf hg,MB hv]
theorem Inv.itEnd{w0:World}{S:List Nat}{rest:List bJ}(h:Inv w0 S (Xg b r IL cur::rest) w):Inv w0 S (V0 b (IL.map (·.2))::rest) w:=by
 have hm:oc b (IL.map (·.2)) w:=So (show Aj b r IL cur w from h.ok (Xg b r IL cur) (bn ..));have hn:=h.nodup;rw[dN]at hn;refine⟨h.To,?_,λc hc=>?_,λx hx=>h.own x ?_⟩
 .rw[dN];exact(List.Sublist.append (show([b]:List Nat).Sublist [b,r]from(List.Sublist.slnil.cons r).cons_cons b) (aL _)).nodup hn
 .rcases aI.1 hc with rfl|hc
  .exact hm
  exact h.ok c (aW _ hc)
 grind [dN,bJ.bs]
end
end
end Go.Ink
namespace Go.Ink
open List renaming length→J, replicate→R9
open IntKind renaming wrap→V9
open Go.RowKit Go.Proofs.Tryz
section
attribute [local irreducible] Ve bN
abbrev eI(b bm bd:Nat)(Y:dJ)(d:UF):List bJ:=[row b [.p bm,.w d.S7,.w d.mask,.w d.timer,.slice Y.Ao (J d.out) Y.co,.slice Y.Ai (J d.inp) Y.ci,.slice (sA bd) 1024 1024,.w (d.SS:Int),.w (d.place:Int),.w d.status] 103,b8 Y.Ao Y.co d.out,Wo Y.Ai (J d.inp) Y.ci (ints .u8 d.inp),Cj bd d.S8]
end
end Go.Ink
namespace Go.Ink
open List renaming length→J
open IntKind renaming wrap→V9
open Go.RowKit
variable{n:Nat}
structure UO.ok(n:Nat)(M:UO):Prop where
 dl:J M.data=n*64
 db:Vh M.data
 tl:J M.SX=64
structure UF.ok(d:UF):Prop where
 wf:d.wf
 S7:u32 d.S7
 mask:u32 d.mask
 timer:u32 d.timer
 status:u32 d.status
end Go.Ink
namespace Go.Ink
open List renaming length→J
open IntKind renaming wrap→V9
open Go.RowKit Go.Proofs.Tryz
section
attribute [local irreducible] Ve bN
variable{n x:Int}
theorem yH{α:Type}{p:List α->Prop}(h0:p [])(hs:∀l x,p l->p (l++[x]))(l:List α):p l:=by
 have h:∀m:List α,p m.reverse:=λm=>by
  induction m with
  |nil=>exact h0
  |cons x m ih=>grind
 have:=h l.reverse
 grind
section
variable{D R:Li}
theorem tN(code:List II):J (Tv D R code)=J code:=by
 refine yH (p:=λcode=>J (Tv D R code)=J code) I (λl x ih=>?_) code
 grind [lT]
theorem ER(c e:List II):∃m,Tv D R (c++e)=Tv D R c++m:=by
 refine yH (p:=λe=>∃m,Tv D R (c++e)=Tv D R c++m) ⟨[],by simp⟩ (λl x ih=>?_) e
 grind [lT]
theorem iq{c e:List II}(h:II.in_ n c):eE D R (c++e) n=eE D R c n:=by
 obtain⟨m,hm⟩:=ER (D:=D) (R:=R) c e;have hl:=tN (D:=D) (R:=R) c;have h2:n.toNat<J (Tv D R c):=by have:=h.1;have:=h.2;omega
 grind [eE]
end
end
end Go.Ink
namespace Go.Ink
open List renaming length→J, replicate→R9
open IntKind renaming wrap→V9
open Go.RowKit Go.Proofs.Tryz
variable{i:Nat}
variable{n:Nat}
section
attribute [local irreducible] Ve bN
abbrev AZ(K:gi)(n:Nat):bJ:=row K.bm [.slice (sA K.bB) (n*64) (n*64),.slice (sA K.bT) n n] 89
abbrev rmB(K:gi)(n:Nat)(M:UO):bJ:=sl .u8 5 (sA K.bB) (n*64) (n*64) M.data
def Yz(r:Option (Nat×Int)):Value:=match r with|some (a,l)=> .tuple #[.int .u64 a,.w l,.bool true]|none=> .tuple #[.int .u64 0,.w 0,.bool false]
variable{d:Li}
variable{a:Int}
def sr(S8 d:Li)(s a i:Nat):List Int:=S8.take s++(d.drop a).take i++S8.drop (s+i)
theorem Di(S8 d:Li)(s a:Nat):sr S8 d s a 0=S8:=by simp[sr]
theorem gB_drop{l:Li}{s:Nat}(h:i<64):gB ((l.drop s).take 64) i=gB l (s+i):=by
 unfold gB;rw[aS,aS,List.getElem?_take,if_pos h,List.getElem?_drop]
end
end Go.Ink
namespace Go.Ink
open List renaming length→J
open IntKind renaming wrap→V9
open Go.RowKit Go.Proofs.Tryz
set_option maxHeartbeats 1000000
variable{x:Int}
variable{r:Int}
section
attribute [local irreducible] Ve bN
theorem lW(l:Li)(x y:Int):((l++[x])++[y])[J l+1]? =some y:=by
 have h:=i3 (l++[x]) y;rw[ar]at h;exact h
abbrev AY(br:Nat)(X:dz)(s:St)(tr dv:Bool):bJ:=row br [.w s.pc,.slice X.Ad (J s.d) X.cd,.slice X.Ar (J s.r) X.cr,.w s.flags,.bool s.SQ,.bool s.S1,.bool s.ie,.w s.root,.w s.vec,.w s.epc,.w s.SU,.w s.addr,.bool s.S6,.bool s.eie,.int .u64 s.count,.bool s.halted,.bool tr,.bool dv,.slice none 0 0] 231
end
end Go.Ink
namespace Go.Ink
open List renaming length→J
open IntKind renaming wrap→V9
open Go.RowKit Go.Proofs.Tryz
variable{x:Nat}
section
attribute [local irreducible] Ve bN
section
variable{op nn:Int}
theorem nU{b:Li}(hb:Vh b){op nn:Int}{z:Nat}(h:dI b=some ((op,nn),z)):u32 nn/\1<=z/\z<=5/\z<=J b:=by
 cases b with
 |nil=>cases h
 |cons o l=>
  have hc:cB o=0\/cB o=1\/cB o=2\/cB o=5:=iR o;unfold dI at h;cases h1:(cB o==0)with
  |true=>simp only[h1,ah]at h;cases h
  |false=>
   simp only[h1,ac]at h;cases h2:decide ((J l:Int)+1<cB o)with
   |true=>simp only[h2,ah]at h;cases h
   |false=>
    simp only[h2,ac,bh,aB]at h;obtain⟨⟨rfl,rfl⟩,rfl⟩:=h;have h1:=ne_of_beq_false h1;simp only[aa]at h2;obtain⟨r1,r2⟩:=tW (l:=l.take ((cB o).toNat - 1)) (λx hx=>hb x (aW _ (aM hx)));have hl:J (l.take ((cB o).toNat - 1))<=4:=by rw[aO];omega
    have hp:(256^J (l.take ((cB o).toNat - 1)):Nat)<=256^4:=Nat.pow_le_pow_right ne hl;have e4:(256^4:Nat)=4294967296:=by decide
    refine⟨⟨r1,by omega⟩,by omega,by omega,?_⟩;rw[aE];omega
end
end
end Go.Ink
namespace Go.Ink
open List renaming length→J
open IntKind renaming wrap→V9
open Go.RowKit
theorem j7.refl(w:Lw):j7 w w:=⟨Int.le_refl _,Int.le_refl _,Int.le_refl _,Int.le_refl _⟩
variable{a:Nat}
variable{b:Nat}
theorem Yw(ha:a<4294967296):(bits .and .u32 (a:Int) 2147483648 !=0)=decide (2147483648<=a):=by
  have h1:=Nh ha (show 2147483648<4294967296 by decide);rw[show((2147483648:Nat):Int)=2147483648 from I]at h1;rw[h1];have h2:a&&&2147483648=if 2147483648<=a then 2147483648 else 0:=by
    apply Nat.eq_of_testBit_eq;intro i;rw[show(2147483648:Nat)=2^31 from I,Nat.testBit_and,Nat.testBit_two_pow];by_cases e:31=i
    . grind
    rw[ao e,bH];split
    . rw[Nat.testBit_two_pow,ao e]
    grind
  grind
structure HI where
  op:Int
  rd:Int
  ra:Int
  rb:Int
  imm:Int
def HI.zero:HI:=⟨0,0,0,0,0⟩
def qs(R:Li)(i:HI):Int:=V9 .u64 (rg R i.ra+i.imm)
section
variable{R:Li}
theorem la.refl(e:List Nat)(R:Li):la e R R:=λ_ _=>I
end
def Si(r:Int):List HI:=[⟨1,12,0,0,4294967295⟩,⟨5,r,r,12,0⟩]
def wO(r up:Int):List HI:=[⟨1,12,0,0,up⟩,⟨8,r,r,12,0⟩,⟨6,10,10,r,0⟩]
def iD(rd r:Int):List HI:=[⟨1,12,0,0,31⟩,⟨9,rd,r,12,0⟩]
def ic:List HI:=⟨5,11,11,12,0⟩::(iD 11 11++wO 11 3)
def kX(a b:Int):List HI:=⟨12,11,9,a,0⟩::(wO 11 2++(⟨7,11,a,9,0⟩::⟨7,12,b,9,0⟩::ic))
def kW(a b:Int):List HI:=⟨12,11,a,b,0⟩::(wO 11 2++(⟨7,11,a,b,0⟩::⟨7,12,a,9,0⟩::ic))
section
theorem jy{r:Nat}(hr:r<4294967296):dw (r:Int)=Vx ((r:Int)==0)+2*Vx (decide (2147483648<=r)):=by
 unfold dw;rw[Yw hr];cases(r:Int)==0<;>cases decide (2147483648<=r)<;>rfl
end
def kr(pl:Pl)(n into:Int):List HI:=bif pl.inR n then[]else[⟨14,into,15,0,V9 .u32 (64+pl.s n)⟩]
def jv(pl:Pl)(n r:Int):List HI:=bif pl.inR n then[]else[⟨15,0,15,r,V9 .u32 (64+pl.s n)⟩]
def zi(pl:Pl)(base from_:Int):List Int->Nat->List HI
  |[],_=>[]
  |n::c,k=>kr pl n 7++(⟨15,0,base,eQ pl n 7,V9 .u32 (from_+V9 .u32 k)⟩::zi pl base from_ c (k+1))
def jg(pl:Pl)(base from_ word:Int)(out:Li):List HI:=zi pl base from_ out 0++[⟨1,11,0,0,V9 .u32 (J out)⟩,⟨3,11,11,base,0⟩,⟨15,0,15,11,word⟩]
def qj(e base word S2 Tq:Int):List HI:=[⟨14,base,15,0,word⟩,⟨1,11,0,0,V9 .u32 S2⟩,⟨12,12,base,11,0⟩,⟨17,0,12,0,e⟩,⟨1,12,0,0,V9 .u32 Tq⟩,⟨12,12,12,base,0⟩,⟨17,0,12,0,e⟩,⟨4,base,base,11,0⟩]
def Pl.has(pl:Pl)(n:Int):Prop:=(pl.inR n=true/\pl.r n<7)\/(pl.inR n=false/\0<=pl.s n/\pl.s n<128)
section
variable{l:List HI}{R W:Li}{pl:Pl}
variable{n:Int}{into:Nat}
theorem mO(h:pl.has n)(hi:into=7\/into=8\/into=9):∃r:Nat,eQ pl n into=r/\(r=into/\pl.inR n=false\/r<7/\pl.inR n=true/\(pl.r n).toNat=r):=by
  unfold eQ;rcases h with⟨h1,h2⟩|⟨h1,h2,h3⟩
  . grind [Pl.inR]
  grind
def We(l:Li):Prop:=∀x,x∈l->0<=x/\x<=4294967295
theorem iY{l:Li}(h:We l)(n:Nat):0<=l.getD n 0/\l.getD n 0<=4294967295:=by
  rw[aS];by_cases hn:n<J l
  . rw[ak hn];exact h _ (List.getElem_mem hn)
  grind
theorem nj{l:Li}(h:We l)(n:Nat):∃x:Nat,l.getD n 0=(x:Int)/\x<4294967296:=by
  obtain⟨h1,h2⟩:=iY h n;exact⟨(l.getD n 0).toNat,by omega,by omega⟩
theorem RO.mono{D Rr:Li}{SW SZ:Int}{R' W':Li}(h:RO D Rr SW SZ R W)(hs:∀j,13<=j->R'.getD j 0=R.getD j 0)(hw:∀j,j<64->W'.getD j 0=W.getD j 0):RO D Rr SW SZ R' W':=
  ⟨by rw[hs 15 ne,h.z],by rw[hs 14 ne,h.bd],by rw[hs 13 ne,h.br],λj hj=>by have:=h.d16;rw[hw _ O,h.d j hj],λj hj=>by have:=h.r16;rw[hw _ O,h.r j hj],h.d16,h.r16,h.nd,h.nr⟩
end
structure NU(pl:Pl)(T:Li)(N:Nat):Prop where
 has:∀n:Nat,n<N->pl.has n
 reg:∀i j:Nat,i<j->j<N->pl.inR i=true->pl.inR j=true->pl.r i=pl.r j->T.getD i 0<=j
 slot:∀i j:Nat,i<j->j<N->pl.inR i=false->pl.inR j=false->pl.s i=pl.s j->T.getD i 0<=j
end Go.Ink
namespace Go.Ink
open List renaming length→J, replicate→R9
open IntKind renaming wrap→V9
open Go.RowKit
theorem Up.refl(A:Li):Up A A:=⟨I,λ_=>Int.le_refl _⟩
end Go.Ink
namespace Go.Ink
open List renaming length→J, replicate→R9
open IntKind renaming wrap→V9
open Go.RowKit
def II.zero:II:=⟨0,0,0,0,0⟩
variable{n:Int}
def sS(n at_:Int):Bool:=decide (0<=n)&&decide (n<at_)
end Go.Ink
namespace Go.Ink
open List renaming length→J, replicate→R9
open IntKind renaming wrap→V9
open Go.RowKit Go.Proofs.Tryz
variable{l:List HI}
section
attribute [local irreducible] Ve bN
def r64(l:Li):Prop:=∀x,x∈l->0<=x/\x<=18446744073709551615
end
end Go.Ink
namespace Go.Ink
open List renaming length→J, replicate→R9
open IntKind renaming wrap→V9
open Go.RowKit Go.Proofs.Tryz
variable{l:List (Int×Int)}{i:Int×Int}
section
attribute [local irreducible] Ve bN
variable{b:Li}
inductive lJ (b:Li):Nat->List (Int×Int)->Nat->Prop
 |nil (o:Nat):lJ b o [] o
 |cons {o z e:Nat} {i:Int×Int} {l:List (Int×Int)} (h:dI (b.drop o)=some (i,z)) (t:lJ b (o+z) l e):lJ b o (i::l) e
variable{o e:Nat}
theorem lJ.le(h:lJ b o l e):o<=e:=by
 induction h with
 |nil=>omega
 |cons h t ih=>omega
end
end Go.Ink
namespace Go.Ink
open List renaming length→J
open IntKind renaming wrap→V9
open Go.RowKit Go.Proofs.Tryz
variable{rest:List bJ}{w0 w:World}
theorem Inv.TC{S:List Nat}{cs cin:List bJ}{w':World}(h:Inv w0 S cs w)(hp:ik cin cs rest)(hk:dc (bM cin) w w'):dc S w0 w':=
 h.Ub (λc hc=>hp.perm.symm.subset (List.mem_append_left _ hc)) hk
theorem kq(pl:Pl)(n into:Int):J (kr pl n into)<=1:=by grind [kr]
end Go.Ink
namespace Go.Ink
open List renaming length→J, replicate→R9
open IntKind renaming wrap→V9
open Go.RowKit Go.Proofs.Tryz
section
attribute [local irreducible] Ve bN
variable{α:Type}{l:List α}{k:Nat}
variable{n c:Nat}
abbrev lvC(A:Oa)(c:Nat)(T:Li):bJ:=slv 415 3 A (J T) c (fN 0 T)
abbrev lvF(b:Nat)(A:Oa)(c:Nat)(T:Li):List bJ:=[row b [.slice A (J T) c] 410,lvC A c T]
theorem OT(n:Nat):Hg n n=ints .i64 (R9 n (-1)):=by unfold Hg;simp[ints]
theorem P8{T l:Li}(h:kV T l n (J l - k) k=fX T l n)(hk:k<=J l)(ht:fu T l n k (J l)=false):fX T l n=k:=by
 rcases Nat.lt_or_ge k (J l) with h9|h9
 .rw[show J l - k=(J l - (k+1))+1 by omega]at h
  grind [fu,kV,fX]
 obtain rfl:k=J l:=by omega
 rw[Nat.sub_self]at h;exact h.symm
abbrev scR(b:Nat)(X:SAd)(N:Nat)(Tt:Int):bJ:=row b [.slice X.Ar N X.cr,.slice X.As N X.cs,.i Tt,.slice X.Av N X.cv] 413
structure SBk where
 br:Nat
 cr:Nat
 bs:Nat
 cs:Nat
 bv:Nat
 cv:Nat
end
end Go.Ink
namespace Go.Ink
open List renaming length→J, replicate→R9
open IntKind renaming wrap→V9
open Go.RowKit Go.Proofs.Tryz
section
attribute [local irreducible] Ve bN
abbrev plF(b:Nat)(A:Oa)(c N:Nat)(pl:Li):List bJ:=[row b [.slice A N c] 23,sl .i64 3 A N c pl]
end
end Go.Ink
