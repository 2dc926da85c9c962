/- Lemmas. -/
import Derived.Test.YtepfimeihngjoaaGreatDoorXab
import Derived.Test.YtepfimeihngjoaaGreatDoorXac
import Derived.Test.YtepfimeihngjoaaGreatDoorXad
set_option linter.all false
set_option maxRecDepth 100000
set_option maxHeartbeats 4000000
namespace Go.Ink
open List renaming length→J, replicate→R9
open Go.RowKit
theorem dc.below{w w':World}(h:dc [] w w'):Below w.heap.size w w':=⟨h.os,h.tape,h.output,h.size,λb hb=>h.block b hb cJ⟩
theorem U5.below{w w':World}{sz n c:Nat}{A:Oa}{xs:List Value}(h:U5 w sz A n c xs)(hb:Below w.heap.size w w'):U5 w' sz A n c xs:=
 ⟨h.len,h.cap,h.max,h.nil,λad e j u hu=>by
  have h1:=h.at_ ad e j u hu
  exact(World.cell?_of_block (hb.block _ (World.block_lt_of_cell? w _ h1))).trans h1⟩
section
open Go.ChangeShapes Go.WideShapes
def Args(P:Program)(w:World):List TypeId->List Value->Prop
 |[],vs=>vs=[]
 |t::ts,vs=>∃v r,vs=v::r/\tK P w t v/\Args P w ts r
theorem Nc{H:Type}{enc:TypeId×Value->H}{P:Program}{W:World}{base:Nat}:∀{ts:List TypeId} {vs:List Value} {ds:List (DataW H)} {p:List MemPlace},DataW.TrodAll enc P W 0 (λ_=>true) true ts vs ds p->
  (∀(j:Nat) t v,ts[j]? =some t->vs[j]? =some v->Value.okWide P W .any base t v)->(∀m∈DataW.weightsEach P ts ds,m<=reachBytes)->Args P W ts vs
 |[],[],[],_,_,_,_=>rfl
 |[],_::_,_,_,h,_,_=>by simp[DataW.TrodAll]at h
 |[],[],_::_,_,h,_,_=>by simp[DataW.TrodAll]at h
 |_::_,[],_,_,h,_,_=>by simp[DataW.TrodAll]at h
 |_::_,_::_,[],_,h,_,_=>by simp[DataW.TrodAll]at h
 |t::ts,v::vs,d::ds,_,h,ho,hw=>by
  obtain⟨p,q,⟨n,hn⟩,h2,_⟩:=h
  refine⟨v,vs,I,⟨⟨_,_,ho 0 t v I I⟩,H,enc,0,n,_,hn,λm hm=>hw m ?_⟩,Nc h2 (λj t' v' h1 h2=>ho (j+1) t' v' h1 h2) (λm hm=>hw m ?_)⟩
  .grind [DataW.weightsEach]
  grind [DataW.weightsEach]
end
end Go.Ink
namespace Go.Ink
open List renaming length→J
open IntKind renaming wrap→V9
open Go.RowKit Go.Proofs.Tryz
variable{w:World}{n:Nat}
variable{i:Nat}
variable{p:Nat×Nat}
section
attribute [local irreducible] Ve bN
theorem lR{n:Int}(h:(Lit.int .u32 n).wf=true):u32 n:=by
 simp only[Lit.wf,ay,ai]at h;have h1:IntKind.u32.min=0:=rfl;have h2:IntKind.u32.max=4294967295:=rfl;rw[h1,h2]at h;exact h
variable{W:World}{t:TypeId}{c:Value}
theorem x8{k:IntKind}(ht:prog.underlying t=some (.int k))(h:VE prog W t [c]):∃n,c= .int k n/\(Lit.int k n).wf=true:=by
 obtain⟨n,h1,h2⟩:=h.int ht
 grind
theorem oN{f:FuncId}{args:List Value}(h:UW prog f args w [] (λv cs=>v= .bool true/\cs=[])):Calls prog f args.toArray w λe w'=>e= .returned (.bool true)/\Below w.heap.size w w':=
 Calls.mono h λ_ _ ⟨_,_,he,⟨h1,h2⟩,hi⟩=>⟨by rw[he,h1],hi.To.below⟩
end
section
open Go.ChangeShapes Go.WideShapes
set_option maxRecDepth 100000 in
theorem lZ{C:Checked}{os:Os}{f:FuncId}{fn:Func}{s:ChangeSpec}{ts:List TypeId}{tb:TypeId}{H:Type}{enc:TypeId×Value->H}{laid:List (String×DataW Unit)}
  (own:ownKnob C.prog.godebug=none) (started:os.Started) (noInit:C.prog.inits.idxOf? f=none) (hfn:C.prog.funcs[f]? =some fn)
  (witness:∃(w:World) (tape:Tape) (i:Input),w.os=os/\(w.forCall tape i).Shaped C.prog/\i.vars=[]/\Input.okWide C.prog (w.forCall tape i) .any w.heap.size f i/\
   ((s.pre enc C.prog fn [] false (w.forCall tape i).memory i.args/\laidMetH C.prog laid (w.forCall tape i).memory)/\sizedMet enc C.prog fn (OpenSpec.ofChange s) false (w.forCall tape i).memory i.args)/\({}:Assume).holds C.prog (lone (Frame.enter C.prog f i.args .normal) [] (w.forCall tape i)))
  (hts:fn.params=ts.toArray) (hres:fn.resultTypes= #[tb]) (hb:C.prog.underlying tb=some .bool) (hvars:s.vars=[])
  (hs:∀ds:List (DataW H),J ds=J ts->s.fn H (ds++[])={results:=[.lit (.bool true)],args:=ds})
  (hl:laidOutB C.prog=true) (hread:ts.all (λt=>C.prog.readableRec t&&decide (t<C.prog.types.size))=true)
  (walk:∀(W:World) (vs:List Value),Args C.prog W ts vs->laidMetH C.prog laid W->Calls C.prog f vs.toArray W λe W'=>e= .returned (.bool true)/\Below W.heap.size W W'):
  ReturnsInHanded {} C os f .any (λw args=>(s.pre enc C.prog fn [] false w args/\laidMetH C.prog laid w)/\sizedMet enc C.prog fn (OpenSpec.ofChange s) false w args) (s.post enc C.prog fn false true false false):=by
 refine returnsInHanded_of_change_and (C:=C) (X:=λw _=>laidMetH C.prog laid w) (λ_ _ _ hh h=>h.of_heap hh) own started noInit hfn witness ?_;intro W base args ds gs before hval hW hcnd hsz hX _;have hW':=hW;obtain⟨p,q,hA,hV,rfl,hfz,hnd⟩:=hW;obtain⟨rfl,rfl⟩:gs=[]/\q=[]:=by
  rw[hvars]at hV;cases gs with
  |nil=>exact⟨I,hV⟩
  |cons g gs=>exact absurd hV (by simp[DataW.TrodVars])
 have hA':DataW.TrodAll enc C.prog W 0 (λ_=>true) true ts args.toList ds p:=by
  rw[hts]at hA;exact hA
 have hsz':∀m∈DataW.weightsEach C.prog ts ds,m<=reachBytes:=by
  have e:fn.params.toList++s.plain.varTypes C.prog=ts:=by simp[hts,DataSpec.varTypes,ChangeSpec.plain,hvars]
  rw[e,aD]at hsz;intro m hm;have:=List.all_eq_true.1 hsz m hm;simpa using this
 have hval':∀(j:Nat) t v,ts[j]? =some t->args.toList[j]? =some v->Value.okWide C.prog W .any base t v:=λj t v h1 h2=>hval j t v (by rw[hts];simpa using h1) (by simpa using h2)
 have hw:=walk W args.toList (Nc hA' hval' hsz') hX;rw[Array.toArray_toList]at hw;refine hw.mono λe W' hh=>?_
 obtain⟨rfl,bel⟩:=hh;have hspec:=hs ds (ux hA');refine⟨_,I,ds,[],p++[],[],p,[],hW',?_,?_,?_,?_,λh=>by cases h⟩
 .rw[hspec,hres];exact trodAll_mk1 (shut_bool hb _)
 .rw[hspec,hts];exact qc hl bel hread hA'
 .rw[hspec,hvars]
  rfl
 exact bel.frame _
end
end Go.Ink
namespace Go.Ink
open List renaming length→J
open Go.RowKit
section
open Go.ChangeShapes Go.WideShapes
variable{P:Program}{w:World}{t:TypeId}{cs:List Value}{v:Value}
theorem VE.rows{α:Type}{e:TypeId}{sz:Nat}{f:α->List Value}{Q:α->Prop}(ht:P.underlying t=some (.slice e))(hc:P.cellsOf e=sz)(hf:∀a,J (f a)=sz)(a0:α)
  (ho:∀es,VE P w e es->∃a,es=f a/\Q a) (h:VE P w t cs):
  ∃(A:Oa) (c:Nat) (xs:List α),cs=[.slice A (J xs) c]/\U5 w sz A (J xs) c (xs.flatMap f)/\(∀x,x∈xs->Q x)/\c*P.bytesOf e<=140737488351232:=by
 rcases h.slice ht with rfl|⟨a,len,cap,rfl,hl,hm,hb,hi⟩
 .exact⟨none,0,[],I,⟨by simp,aK _,by decide,λ_=>⟨I,I⟩,λ_ h=>by cases h⟩,(λx hx=>by cases hx),by simp⟩
 have each:∀i:Nat,∃x:α,i<cap->(∀j v,(f x)[j]? =some v->w.cell? (a.add (i*sz+j))=some v)/\Q x:=λi=>by
  by_cases hlt:i<cap
  .obtain⟨es,base,h1,h2⟩:=hi i hlt;obtain⟨x,rfl,hq⟩:=ho es h2;rw[hc]at h1;refine⟨x,λ_=>⟨λj v hj=>?_,hq⟩⟩;have hjl:=(aC.1 hj).1;rw[hf]at hjl;have:=(World.cells?_some h1).2.2 j hjl;rw[Go.Ink.rW]at this;rw[this];exact hj
  exact⟨a0,λh=>absurd h hlt⟩
 obtain⟨g,hg⟩:=Classical.axiomOfChoice each;refine⟨some a,cap,(List.range len).map g,by simp,⟨by rw[zH hf],by simpa using hl,hm,(λh=>by cases h),?_⟩,?_,hb⟩
 .intro ad e j u hu;obtain rfl:a=ad:=by simpa using e
  have hj:=(aC.1 hu).1;rw[zH hf,List.length_map,List.length_range]at hj;by_cases hsz:sz=0
  .subst hsz;simp at hj
  have hq:j/sz<len:=(Nat.div_lt_iff_lt_mul (Nat.pos_of_ne_zero hsz)).2 hj;have hjm:j/sz*sz+j%sz=j:=Nat.div_add_mod' j sz;have hx:((List.range len).map g)[j/sz]? =some (g (j/sz)):=by rw[List.getElem?_map,List.getElem?_range hq];rfl
  have hr:j%sz<J (f (g (j/sz))):=by rw[hf];exact Nat.mod_lt _ (Nat.pos_of_ne_zero hsz)
  have h1:=fw hf hx (ak hr);rw[hjm]at h1;rw[h1]at hu;have h2:=(hg (j/sz) O).1 (j%sz) _ (ak hr);rw[hjm]at h2;rw[h2,hu]
 intro x hx;simp only[List.mem_map,List.mem_range]at hx;obtain⟨i,hi',rfl⟩:=hx;exact(hg i O).2
end
end Go.Ink
namespace Go.Ink
open List renaming length→J, replicate→R9
open IntKind renaming wrap→V9
open Go.RowKit Go.Proofs.Tryz
abbrev UG.ws(R:UG)(s:St):UG:=⟨s,R.count,R.S3,R.device⟩
abbrev St.halt(s:St):St:=⟨s.pc,s.d,s.r,s.flags,s.SQ,s.S1,s.ie,s.root,s.vec,s.epc,s.SU,s.addr,s.S6,s.eie,s.count,true⟩
section
attribute [local irreducible] Ve bN
structure WP where
 s:St
 TY:Bool
 device:Bool
 SV:List Int
def fm(s:St)(op:Int):UG:=⟨s.next.wpc (V9 .u32 (s.pc+V9 .u32 (cB op))),s.count,Tr.none,false⟩
variable{s:St}
abbrev iz(r:WP)(X:dz)(Ap:Oa)(cp:Nat):List Value:=[.w r.s.pc,.slice X.Ad (J r.s.d) X.cd,.slice X.Ar (J r.s.r) X.cr,.w r.s.flags,.bool r.s.SQ,.bool r.s.S1,.bool r.s.ie,.w r.s.root,.w r.s.vec,.w r.s.epc,.w r.s.SU,.w r.s.addr,.bool r.s.S6,.bool r.s.eie,.int .u64 r.s.count,.bool r.s.halted,.bool r.TY,.bool r.device,.slice Ap (J r.SV) cp]
theorem St.fits(h:s.right=true):J s.d<=16/\J s.r<=16/\s.flags<=15:=by
 grind [St.right]
def RU(R:UG)(va:Nat):UG:=bif((va%4:Nat):Int) !=0 then R.wt ⟨6,va⟩else R.wt ⟨10,va⟩
def Sx(s:St)(R:UG):WP:=
 bif R.S3.SU !=0 then⟨s.next.S3 R.S3.SU R.S3.addr,true,R.device,[]⟩else⟨R.s,false,R.device,[]⟩
theorem ID{l:Li}(h:J l<=1024):J (ph l)=1024:=by simp[ph];omega
theorem MQ{l:Li}(h:Vh l):Vh (ph l):=λx hx=>by
 rcases aJ.1 hx with hx|hx
 .exact h x hx
 grind
theorem init_wf{l:Li}(h:J l<=1024)(hb:Vh l):(UF.init l).wf:=⟨λx hx=>(by cases hx),ID h,MQ hb,ax _,ax _,ax _⟩
theorem y6(w:World)(k:IntKind):Rd w k none 0 0 []:=⟨I,by simp,by simp,by simp,by simp⟩
end
end Go.Ink
namespace Go.Ink
open List renaming length→J
open IntKind renaming wrap→V9
open Go.RowKit
theorem u0:u32 0:=⟨by decide,by decide⟩
variable{l:Li}
def W9(t:Tr):Prop:=u32 t.addr/\0<=t.SU/\t.SU<=255
theorem Yv{a:Int}(h:u32 a):W9 ⟨10,a⟩:=⟨h,by grind,by grind⟩
theorem trN:W9 Tr.none:=⟨u0,by decide,by decide⟩
theorem tr11:W9 ⟨11,0⟩:=⟨u0,by decide,by decide⟩
theorem Mw(kind:Int):0<=Vo kind/\Vo kind<=255:=by
 grind [Vo]
theorem UF.wf.re{d d':UF}(h:d.wf)(h1:d'.inp=d.inp)(h2:d'.S8=d.S8)(h3:d'.SS=d.SS)(h4:d'.place=d.place):d'.wf:=
 ⟨h1▸h.Uo,h2▸h.S8,h2▸h.TP,h3▸h.SS,h4▸h.place,h1▸h.inp⟩
theorem gB_u32(h:Vh l)(a:Nat):u32 (gB l a):=by have:=fW h a;exact⟨this.1,by omega⟩
structure Wi(op:Int)(s s':St):Prop where
 wf:s'.wf
 fl:s'.flags<=15
 cnt:s'.count=s.count
 dl:J s'.d+(bV op).1.1=J s.d+(bV op).1.2
 dt:s'.d.take (J s.d - (bV op).1.1)=s.d.take (J s.d - (bV op).1.1)
 rl:J s'.r+(bV op).2.1=J s.r+(bV op).2.2
 rt:s'.r.take (J s.r - (bV op).2.1)=s.r.take (J s.r - (bV op).2.1)
variable{op:Int}{s s':St}
theorem xf(h:s.wf){l:Li}(hl:∀x,x∈l->u32 x):(⟨s.pc,l,s.r,s.flags,s.SQ,s.S1,s.ie,s.root,s.vec,s.epc,s.SU,s.addr,s.S6,s.eie,s.count,s.halted⟩:St).wf:=⟨h.pc,h.flags,h.root,h.vec,h.epc,h.SU,h.addr,h.count,hl,h.r⟩
theorem wf_r(h:s.wf){l:Li}(hl:∀x,x∈l->u32 x):(⟨s.pc,s.d,l,s.flags,s.SQ,s.S1,s.ie,s.root,s.vec,s.epc,s.SU,s.addr,s.S6,s.eie,s.count,s.halted⟩:St).wf:=⟨h.pc,h.flags,h.root,h.vec,h.epc,h.SU,h.addr,h.count,h.d,hl⟩
theorem GO(h:s.wf){x:Int}(hx:u32 x):(⟨x,s.d,s.r,s.flags,s.SQ,s.S1,s.ie,s.root,s.vec,s.epc,s.SU,s.addr,s.S6,s.eie,s.count,s.halted⟩:St).wf:=⟨hx,h.flags,h.root,h.vec,h.epc,h.SU,h.addr,h.count,h.d,h.r⟩
theorem N9(h:s.wf){x:Int}(hx:u32 x):(⟨s.pc,s.d,s.r,x,s.SQ,s.S1,s.ie,s.root,s.vec,s.epc,s.SU,s.addr,s.S6,s.eie,s.count,s.halted⟩:St).wf:=⟨h.pc,hx,h.root,h.vec,h.epc,h.SU,h.addr,h.count,h.d,h.r⟩
theorem qA(r:Int):dw r=0\/dw r=1\/dw r=2\/dw r=3:=by
 unfold dw;generalize (bits .and .u32 r 2147483648 !=0)=c1;generalize (r==0)=c2;revert c1 c2;decide
theorem rJ(a b r x:Int)(c:Bool)(o:Int):0<=mh a b r (dw x) c o/\mh a b r (dw x) c o<=15:=by
 unfold mh;generalize (o !=0)=c1;rcases qA x with h|h|h|h<;>rw[h]<;>revert c c1<;>decide
theorem F1{a:Int}(h:u32 a)(k:Nat):u32 (a.fdiv (2^k)):=by
 have hp:(0:Int)<2^k:=Int.pow_pos ne;rw[Int.fdiv_eq_ediv_of_nonneg _ (Int.le_of_lt hp)];have h1:=Int.ediv_nonneg h.1 (Int.le_of_lt hp);have h2:=Int.ediv_le_self (2^k) h.1;exact⟨h1,Int.le_trans h2 h.2⟩
def XO(q:Int×Int×Bool):Prop:=u32 q.1/\0<=q.2.1/\q.2.1<=15
theorem arOf_ok{r:Int}(h:u32 r):XO (Aa r):=by
 refine⟨h,?_⟩;show 0<=dw r/\dw r<=15
 grind [qA]
theorem arDo_ok(op:Int){a b:Int}(ha:u32 a):XO (hI op a b):=by
 have h0:XO (0,0,false):=⟨u0,by decide,by decide⟩;unfold hI;refine bL XO ⟨wrap_u32 _,rJ a b 0 _ _ _⟩ ?_;refine bL XO ⟨wrap_u32 _,rJ a b 0 _ _ _⟩ ?_;refine bL XO ⟨u0,rJ a b 0 _ _ _⟩ ?_
 grind [XO,arOf_ok,dY,di,u32,u0,wrap_u32,F1]
theorem La(h1:16<=op)(h2:op<=24):bV op=((2,1),(0,0)):=by
 obtain rfl|rfl|rfl|rfl|rfl|rfl|rfl|rfl|rfl:op=16\/op=17\/op=18\/op=19\/op=20\/op=21\/op=22\/op=23\/op=24:=by omega
 all_goals rfl
def z8(s:St)(q:St×Bool):Prop:=q.1.wf/\q.1.flags<=15/\q.1.count=s.count
section
variable{op:Int}{d:UF}
theorem DS(h:s.wf):s.next.wf:=by
 refine⟨h.pc,h.flags,h.root,h.vec,h.epc,h.SU,h.addr,?_,h.d,h.r⟩
 grind [IntKind.wrap_u64]
theorem JO(h:s.wf)(c:Int){a:Int}(ha:u32 a):(s.S3 c a).wf:=⟨h.vec,h.flags,h.root,h.vec,h.pc,wrap_u32 _,ha,h.count,h.d,h.r⟩
theorem MR(h:Wi op s s')(hs:J s.d<=16/\J s.r<=16)(hn:(bV op).1.1<=J s.d/\(bV op).2.1<=J s.r)(hr:(J s.d:Int) - (bV op).1.1+(bV op).1.2<=16/\(J s.r:Int) - (bV op).2.1+(bV op).2.2<=16):s'.right=true:=by
 grind [h.dl,h.rl,h.fl,St.right]
end
end Go.Ink
namespace Go.Ink
open List renaming length→J
open IntKind renaming wrap→V9
open Go.RowKit Go.Proofs.Tryz
section
attribute [local irreducible] Ve bN
variable{n x:Int}
theorem od{l:Li}(h:Vh l)(m:Nat):Vh (l.take m):=λx hx=>h x (aM hx)
theorem Jy(h:(Lit.int .u8 n).wf=true):0<=n/\n<=255:=by
 simp only[Lit.wf,ay,ai]at h;have h1:IntKind.u8.min=0:=rfl;have h2:IntKind.u8.max=255:=rfl;rw[h1,h2]at h;exact h
theorem jr{op:Int}(h:dD op=true):(0<=op/\op<=8)\/(16<=op/\op<=23)\/op=25\/(32<=op/\op<=40):=by
 grind [dD]
theorem qm{op:Int}(h:dD op=true):op=0\/op=1\/op=2\/op=3\/op=4\/op=5\/op=6\/op=7\/op=8\/(16<=op/\op<=23)\/op=25\/op=32\/(33<=op/\op<=37)\/op=38\/op=39\/op=40:=by
 exact XS
def dV(s:St)(op:Int):Int:=V9 .u32 (s.pc+V9 .u32 (cB op))
section
variable{op:Int}{w:Lw}
theorem KM(w:Lw):w.d.S2<=w.S0.2.d.S2:=by
 show w.d.S2<=(fO 1 w.code w.d).2.2.S2
 grind [fO]
theorem lp(h:16<=op/\op<=23):bV op=((2,1),(0,0)):=by
 have h:op=16\/op=17\/op=18\/op=19\/op=20\/op=21\/op=22\/op=23:=by omega
 rcases h with rfl|rfl|rfl|rfl|rfl|rfl|rfl|rfl<;>rfl
end
end
end Go.Ink
namespace Go.Ink
open List renaming length→J, replicate→R9
open IntKind renaming wrap→V9
open Go.RowKit Go.Proofs.Tryz
variable{i:Nat}{b:Bool}
section
attribute [local irreducible] Ve bN
variable{k:Int}
variable{d:Li}
theorem sD(d:Li):∀(l:Li) (a:Int),eh d (l++[a])=eh d l+gB d a.toNat*256^J l
 |[],a=>by simp[eh]
 |b::l,a=>by
  rw[aU,eh,sD d l a,eh,aE,Int.pow_succ,Int.mul_add,Int.mul_left_comm,Int.add_assoc,Int.mul_comm 256 (256^J l)]
theorem DM(h:Vh d){l:Li}(hl:J l<=4){i:Nat}(hi:i<J l){a:Nat}(ha:l[i]'hi=(a:Int)):
  bits .or .u32 (eh d (l.take i)) (V9 .u32 (gB d a*2^(8*i)))=eh d (l.take (i+1)):=by
 have h1:=ln h (l.take i);have hlen:J (l.take i)=i:=by rw[aO];omega
 rw[hlen]at h1;have e:(2:Int)^(8*i)=256^i:=by rw[Int.pow_mul];rfl
 rw[List.take_succ_eq_append_getElem hi,sD,ha,hlen,aV,K0 (8*i) O (by rw[e];exact h1) (fW h a),e]
theorem minU{k:Nat}(h:k<=31):min ((k:Nat):Int).toNat IntKind.u32.bits=k:=by
 rw[aV,show IntKind.u32.bits=32 from I];omega
abbrev refBRow(b bm bd:Nat)(Y:dJ)(d:UF):bJ:=row b [.p bm,.w d.S7,.w d.mask,.w d.timer,.slice Y.Ao (J d.out) Y.co,.slice Y.Ai (J d.inp) Y.ci,.slice (sA bd) 1024 1024,.w (d.SS:Int),.w (d.place:Int),.w d.status] 103
end
end Go.Ink
namespace Go.Ink
open List renaming length→J
open IntKind renaming wrap→V9
open Go.RowKit Go.Proofs.Tryz
set_option maxHeartbeats 1000000
variable{x:Int}
theorem FS(h:u32 x):(BitVec.ofInt 32 x).msb=VH x:=by
 obtain⟨a,rfl⟩:∃a:Nat,x=a:=aj h.1;have:=h.2;rw[BitVec.msb_eq_decide,BitVec.ofInt_natCast,BitVec.toNat_ofNat,Nat.mod_eq_of_lt O];exact decide_eq_decide.2 O
variable{a b:Int}
theorem Gy(h:u32 x):(bits .and .u32 x 2147483648 !=0)=VH x:=by
 obtain⟨a,rfl⟩:∃a:Nat,x=a:=aj h.1;have h2:=h.2;have e1:(BitVec.ofInt 32 (a:Int)).toNat=a:=by rw[BitVec.ofInt_natCast,BitVec.toNat_ofNat];exact CC
 have e:bits .and .u32 (a:Int) 2147483648=((a&&&2^31:Nat):Int):=by
  show V9 .u32 (((BitVec.ofInt 32 (a:Int))&&&(BitVec.ofInt 32 2147483648)).toNat:Int)=_;have e2:(BitVec.ofInt 32 2147483648).toNat=2^31:=by decide
  have e3:a&&&2^31<=2^31:=Nat.and_le_right;rw[BitVec.toNat_and,e1,e2,u32_wrap_id _ O O]
 have key:(((a&&&2^31:Nat):Int) !=0)=a.testBit 31:=by
  cases ht:a.testBit 31 with
  |true=>
   have h1:(a&&&2^31).testBit 31=true:=by rw[Nat.testBit_and,ht,Nat.testBit_two_pow];rfl
   have h3:a&&&2^31≠0:=λh0=>by rw[h0]at h1;simp at h1
   simp only[bne_iff_ne,ne_eq];omega
  |false=>
   have h1:a&&&2^31=0:=by
    apply Nat.eq_of_testBit_eq;intro i;rw[Nat.testBit_and,Nat.testBit_two_pow,Nat.zero_testBit];by_cases hi:31=i
    .subst hi;rw[ht];rfl
    simp[hi]
   rw[h1]
   rfl
 rw[e,key];unfold VH;cases ht:a.testBit 31 with
 |true=>
  have:2^31<=a:=Nat.ge_two_pow_of_testBit ht;rw[ap O]
 |false=>
  have h3:a<2^31:=by
   rcases Nat.lt_or_ge a (2^31)with h|h
   .exact h
   exfalso;have:a.testBit 31=true:=by
    rw[Nat.testBit_eq_decide_div_mod_eq];simp;omega
   rw[this]at ht;cases ht
  rw[ao O]
theorem Fb(h:u32 x):x.fdiv (2^31)=if VH x then 1 else 0:=by
 have h1:=h.1;have h2:=h.2;rw[XH x 31];unfold VH;by_cases hc:2147483648<=x
 .simp only[hc,decide_true,if_true];omega
 simp only[hc,decide_false,Bool.false_eq_true,if_false];omega
theorem Fc{y:Int}(hx:u32 x)(hy:u32 y):(x.fdiv (2^31)==y.fdiv (2^31))=(VH x==VH y):=by
 rw[Fb hx,Fb hy];cases VH x<;>cases VH y<;>decide
theorem tO{y:Int}(hx:u32 x)(hy:u32 y):(x.fdiv (2^31) !=y.fdiv (2^31))=(VH x !=VH y):=by
 rw[Fb hx,Fb hy];cases VH x<;>cases VH y<;>decide
def zI(c o:Bool)(r:Int):Int:=
 bif VH r then bits .or .u32 (bif r==0 then bits .or .u32 (bif o then bits .or .u32 (bif c then 4 else 0) 8 else bif c then 4 else 0) 1 else bif o then bits .or .u32 (bif c then 4 else 0) 8 else bif c then 4 else 0) 2
 else bif r==0 then bits .or .u32 (bif o then bits .or .u32 (bif c then 4 else 0) 8 else bif c then 4 else 0) 1 else bif o then bits .or .u32 (bif c then 4 else 0) 8 else bif c then 4 else 0
variable{r:Int}
theorem Iz(h:u32 r):dw r=zI false false r:=by
 unfold dw zI;rw[Gy h];cases VH r<;>cases(r==0)<;>decide
theorem xS(h:u32 x){c:Bool}{o:Int}{ob:Bool}(ho:(o !=0)=ob):mh a b r (dw x) c o=zI c ob x:=by
 unfold mh dw zI;rw[Gy h,ho];cases VH x<;>cases(x==0)<;>cases c<;>cases ob<;>decide
def gL(op a b:Int):Int×(Bool×Bool)×Bool:=
 bif op==16 then(V9 .u32 (a+b),(decide (4294967296<=a+b),(VH a==VH b)&&(VH (V9 .u32 (a+b)) !=VH a)),true)else
 bif op==17||op==25 then(V9 .u32 (a - b),(decide (a<b),(VH a !=VH b)&&(VH (V9 .u32 (a - b)) !=VH a)),true)else
 bif op==18 then(bits .and .u32 a b,(false,false),true)else bif op==19 then(bits .or .u32 a b,(false,false),true)else bif op==20 then(bits .xor .u32 a b,(false,false),true)else
 bif op==21 then(di a b true,(false,false),true)else bif op==22 then(di a b false,(false,false),true)else bif op==23 then(V9 .u32 (a*b),(false,false),true)else
 bif op==24&&b !=0 then(V9 .u32 (a.tdiv b),(false,false),true)else(0,(false,false),false)
def jY(c o:Bool):Int:=bif o then bits .or .u32 (bif c then 4 else 0) 8 else bif c then 4 else 0
theorem N6(n:Int):IntKind.i8.wrap n=(n+128)%256 - 128:=by
 simp[IntKind.wrap,IntKind.signed,IntKind.bits];split<;>omega
theorem OJ(h:u32 b):jN b=if 128<=b%256 then V9 .u32 (b%256 - 256)else b%256:=by
 have h1:=h.1;unfold jN;rw[au,IntKind.wrap_i32,N6];split
 .rw[au];omega
 omega
theorem OI:∀k:Fin 70,yL (k.val:Int)=cB (k.val:Int):=by decide+kernel
theorem yJ(op:Int):yL op=cB op:=by
 rcases Fw op with⟨k,rfl⟩|⟨e,h⟩
 .exact OI k
 have r:∀a b:Int,0<=a->b<=69->(decide (a<=op)&&decide (op<=b))=false:=λa b ha hb=>by
  rw[Bool.and_eq_false_iff,aa,aa];omega
 unfold yL cB u9 zj;rw[r 32 38 ne ne,r 0 8 ne ne,r 16 25 ne ne,r 48 53 ne ne,r 64 69 ne ne];simp[e]
theorem K9:∀k:Fin 70,fV (k.val:Int)=bV (k.val:Int):=by decide+kernel
theorem K8(op:Int):fV op=bV op:=by
 rcases Fw op with⟨k,rfl⟩|⟨e,h⟩
 .exact K9 k
 have r:(decide (16<=op)&&decide (op<=24))=false:=by rw[Bool.and_eq_false_iff,aa,aa];omega
 unfold fV bV;rw[r];simp[e]
end Go.Ink
namespace Go.Ink
open List renaming length→J, replicate→R9
open IntKind renaming wrap→V9
open Go.RowKit Go.Proofs.Tryz
section
attribute [local irreducible] Ve bN
variable{w0:World}{S:List Nat}{n b:Nat}
def kP(b:Nat):Nat->Nat->Option Nat
 |_,0=>none
 |k,m+1=>bif b/2^k%2==1 then some k else kP b (k+1) m
def jJ(b:Nat):Option Nat:=kP b 0 8
def tzAnd(x:Int):Int:=bits .and .u32 x (V9 .u32 (0 - x))
def tzMul(x:Int):Int:=V9 .u32 (tzAnd x*125613361)
def JK(x:Int):Int:=(tzMul x).fdiv (2^(min (Int.toNat 27) IntKind.u32.bits))
def tzSay(x:Nat):Bool:=x==0||match jJ x with
 |some k=>decide (0<=JK x)&&decide (JK x<32)&&(wG[(JK x).toNat]? ==some (k:Int))&&decide (k<8)
 |none=>false
theorem tz_all:(List.range 256).all tzSay=true:=by decide+kernel
theorem JJ{x:Nat}(h0:0<x)(h:x<256):∃k j:Nat,jJ x=some k/\k<8/\JK x=(j:Int)/\j<32/\wG[j]? =some (k:Int):=by
 have h1:=List.all_eq_true.1 tz_all x (List.mem_range.2 h);have e:(x==0)=false:=by simp;omega
 unfold tzSay at h1;rw[e,bj]at h1;cases hl:jJ x with
 |none=>rw[hl]at h1;cases h1
 |some k=>
  rw[hl]at h1;simp only[ay,ai,beq_iff_eq]at h1;obtain⟨⟨⟨h2,h3⟩,h4⟩,h5⟩:=h1;exact⟨k,(JK x).toNat,I,h5,by omega,by omega,h4⟩
theorem PB:jJ 0=none:=by decide
def PS(d:UF):Option Nat:=jJ (bits .and .u32 d.S7 d.mask).toNat
def UF.tick(d:UF)(count:Int):UF:=bif(d.timer==0)||decide (V9 .u32 count<d.timer)then d else{d with timer:=0,S7:=bits .or .u32 d.S7 1}
def told(s:St)(d:UF):St:=match PS d with
 |some k=>bif s.ie then s.S3 ((16+k:Nat):Int) 0 else s
 |none=>s
structure w8 where
 s:St
 place:Int
 runs:Bool
 u:UI
 d:UF
def St.space(s:St):Sp:=⟨s.S1,s.SQ,s.root.toNat⟩
def dL(n:Nat)(M:UO)(p:Nat):Option ((Int×Int)×Nat):=
 bif decide (p/64<n)then dI (((M.data.drop (p/64*64)).take 64).drop (p%64))else none
def jh(op:Int)(r:WP)(Tc was:Int):Bool:=bif gz op||r.TY||r.device||r.s.halted||r.SV.contains Tc then false else(r.s.pc/64==was/64)
theorem shl8_or{N b:Int}(h0:0<=N)(h1:N<16777216)(hb:0<=b/\b<=255):bits .or .u32 (V9 .u32 (N*2^(min (Int.toNat 8) IntKind.u32.bits))) b=b+256*N:=by
 have e:(N*2^(min (Int.toNat 8) IntKind.u32.bits):Int)=N*256:=rfl;rw[e,u32_wrap_id _ O O,Cy,show bits .or .u32 b (N*256)=b+N*256 from by apply u32_or8<;>omega];omega
def iU(w:World):Prop:=U5 w 1 (sA 0) 32 32 (ints .u8 wG)
variable{w:World}
theorem lines0:ju [0]=1:=by decide
variable{op:Int}
theorem qJ(l:Li)(h:cB op=0):dI (op::l)=none:=by
 have e:(cB op==0)=true:=by rw[h];rfl
 show(bif cB op==0 then none else _)=none;rw[e]
 rfl
theorem pi{l:Li}(h:(J l:Int)+1<cB op):dI (op::l)=none:=by
 unfold dI;simp only[ap h,ah,Bool.cond_self]
theorem LC{l:Li}{z k:Nat}{x:Int}(hk:k<z)(hx:l[k]? =some x):sX ((l.take z).drop k)=x+256*sX ((l.take z).drop (k+1)):=by
 have hx':(l.take z)[k]? =some x:=by rw[List.getElem?_take,if_pos hk];exact hx
 obtain⟨hlt,he⟩:=aC.1 hx';rw[List.drop_eq_getElem_cons hlt,he]
 rfl
variable{M:UO}{p:Nat}
theorem xU(h:n<=p/64):dL n M p=none:=by
 unfold dL;rw[ao O]
 rfl
theorem xV(h:p/64<n):dL n M p=dI (((M.data.drop (p/64*64)).take 64).drop (p%64)):=by
 unfold dL;rw[ap h]
 rfl
theorem cut64{j:Nat}{X:Li}(h:Rd w .u8 (sA b) 64 64 X)(hj:j<64)(hX:J X=64):Rd w .u8 (some ⟨b,j,none⟩) (64 - j) (64 - j) (X.drop j):=by
 have h5:=U5.cut h (lo:=j) (hi:=64) O (aK _);rw[if_neg O,Option.map_some,Addr.add_lit,bC,Nat.mul_one]at h5;have e:(ints .u8 X).take 64=ints .u8 X:=List.take_of_length_le (by simp[ints,hX]);rw[e]at h5;have e2:(ints .u8 X).drop j=ints .u8 (X.drop j):=by simp[ints]
 rwa[e2]at h5
theorem oI{w':World}(h:dc S w0 w)(h2:dc S w w'):dc S w0 w':=
 ⟨h2.os.trans h.os,h2.tape.trans h.tape,h2.output.trans h.output,aN h.size h2.size,λb hb hS=>(h2.block b (Nat.lt_of_lt_of_le hb h.size) hS).trans (h.block b hb hS)⟩
abbrev St.wd(s:St)(l:Li):St:=⟨s.pc,l,s.r,s.flags,s.SQ,s.S1,s.ie,s.root,s.vec,s.epc,s.SU,s.addr,s.S6,s.eie,s.count,s.halted⟩
variable{nn:Int}
theorem OO(h:eJ op nn=true):Sc op:=by
 by_cases h0:cB op=0
 .unfold eJ at h;rw[h0]at h;cases h
 rw[<-yJ]at h0;unfold Sc;revert h0;unfold yL;by_cases e:op=2
 .subst e;intro _;omega
 have e2:(op==2)=false:=by simpa using e
 rw[e2];cases h2:((((op==1)||(decide (32<=op)&&decide (op<=38)))||(op==66))||(op==67))with
 |true=>
  simp only[Bool.or_eq_true,beq_iff_eq,ay,ai]at h2;intro _;omega
 |false=>
  cases h3:(((((decide (0<=op)&&decide (op<=8))||(decide (16<=op)&&decide (op<=25)))||(op==39))||(op==40))||(decide (48<=op)&&decide (op<=53)))||(decide (64<=op)&&decide (op<=69))with
  |true=>
   simp only[Bool.or_eq_true,beq_iff_eq,ay,ai]at h3;intro _;omega
  |false=>intro h0;exact absurd I h0
variable{R:UG}{d:UF}
theorem LL{S':List Nat}{w':World}(h:dc S w w')(hs:∀b,b∈S->b∈S'):dc S' w w':=
 ⟨h.os,h.tape,h.output,h.size,λb hb hn=>h.block b hb λhm=>hn (hs b hm)⟩
abbrev UG.wc(R:UG)(c:Int):UG:=⟨R.s.Ts c,R.count,R.S3,R.device⟩
abbrev eu.wc(m:eu)(c:Int):eu:=⟨m.r.wc c,m.u,m.d⟩
abbrev runR(s:St)(op:Int):UG:=⟨s.wpc (V9 .u32 (s.pc+V9 .u32 (cB op))),s.count,Tr.none,false⟩
end
end Go.Ink
namespace Go.Ink
open List renaming length→J
open IntKind renaming wrap→V9
open Go.RowKit Go.Proofs.Tryz
theorem xH{b:Nat}:∀{m k x:Nat},kP b k m=some x->x<k+m
 |0,_,_,h=>by cases h
 |m+1,k,x,h=>by
  unfold kP at h;cases hc:(b/2^k%2==1)with
  |true=>rw[hc,ah]at h;obtain rfl:=aF h;omega
  |false=>rw[hc,ac]at h;have:=xH h;omega
variable{x:Nat}
theorem Sh{b:Nat}(h:jJ b=some x):x<8:=by have:=xH h;omega
structure UF.lines(d:UF):Prop where
 mask:0<=d.mask/\d.mask<=255
variable{m:Int}
theorem Nd{p:Int}(hm:0<=m/\m<=255):∃x:Nat,bits .and .u32 p m=(x:Int)/\x<256:=by
 unfold bits;simp only;rw[au];have hmt:(BitVec.ofInt IntKind.u32.bits m).toNat<=255:=by
  rw[BitVec.toNat_ofInt];have:(m%((2^IntKind.u32.bits:Nat):Int))=m:=Int.emod_eq_of_lt hm.1 (by have:((2^IntKind.u32.bits:Nat):Int)=4294967296:=rfl;omega);rw[this];omega
 have h1:=Nat.and_le_right (n:=(BitVec.ofInt IntKind.u32.bits p).toNat) (m:=(BitVec.ofInt IntKind.u32.bits m).toNat);refine⟨(BitVec.ofInt IntKind.u32.bits p&&&BitVec.ofInt IntKind.u32.bits m).toNat%4294967296,?_,?_⟩
 .simp
 rw[BitVec.toNat_and];omega
variable{s:St}{d:UF}
variable{k:Nat}
theorem EU(hx:bits .and .u32 d.S7 d.mask=(x:Int))(ho:jJ x=some k)(hie:s.ie=true):told s d=s.S3 ((16+k:Nat):Int) 0:=by
 unfold told PS;rw[hx,aV,ho];show(bif s.ie then _ else _)=_;rw[hie]
 rfl
theorem JU(hx:bits .and .u32 d.S7 d.mask=(x:Int))(h:((jJ x).isSome&&s.ie)=false):told s d=s:=by
 unfold told PS;rw[hx,aV];cases ho:jJ x with
 |none=>rfl
 |some k=>
  rw[ho]at h;show(bif s.ie then _ else _)=_;cases hie:s.ie with
  |true=>rw[hie]at h;cases h
  |false=>rfl
section
attribute [local irreducible] Ve bN
section
variable{d:UF}
theorem zO(h:d.lines)(k count:Int):(cE d k count).2.lines:=by
 unfold cE
 repeat (first|exact h|refine bL (λq:(Int×Bool)×UF=>q.2.lines) ?_ ?_|exact⟨h.mask⟩)
theorem oh(h:d.lines)(c:Int):(d.tick c).lines:=by
 unfold UF.tick;exact bL UF.lines h ⟨h.mask⟩
end
section
variable{s:St}{d:UF}
theorem Se(h:s.wf):s.next.wf:=⟨h.pc,h.flags,h.root,h.vec,h.epc,h.SU,h.addr,by show 0<=V9 .u64 _/\V9 .u64 _<=_;rw[aP];omega,h.d,h.r⟩
theorem JP(h:s.wf)(c:Int){a:Int}(ha:u32 a):(s.S3 c a).wf:=⟨h.vec,h.flags,h.root,h.vec,h.pc,wrap_u32 _,ha,h.count,h.d,h.r⟩
theorem JV(h:s.wf)(hr:s.right=true):(told s d).wf/\(told s d).right=true/\(told s d).count=s.count/\(told s d).halted=s.halted:=by
 unfold told;cases PS d with
 |none=>exact⟨h,hr,I,I⟩
 |some k=>
  show(bif s.ie then s.S3 _ _ else s).wf/\(bif s.ie then s.S3 _ _ else s).right=true/\(bif s.ie then s.S3 _ _ else s).count=s.count/\(bif s.ie then s.S3 _ _ else s).halted=s.halted;cases s.ie with
  |true=>exact⟨JP h _ u0,hr,I,I⟩
  |false=>exact⟨h,hr,I,I⟩
end
def fH(m from_:Int)(s:St):Bool:=decide (0<m)&& !s.halted&&decide (V9 .u64 (s.count - from_)<m)
end
end Go.Ink
namespace Go.Ink
open List renaming length→J
open IntKind renaming wrap→V9
open Go.RowKit
theorem oC(k:Int)(c:List II)(s:Sd):s.S2<=(fO k c s).2.2.S2/\(fO k c s).2.2.high=s.high:=by
 grind [fO]
theorem kA(w:Lw):j7 w w.S0.2:=⟨(oC 1 w.code w.d).1,Int.le_refl _,Int.le_of_eq (oC 1 w.code w.d).2.symm,Int.le_refl _⟩
theorem iP(w:Lw):j7 w w.Ty.2:=⟨Int.le_refl _,(oC 2 w.code w.r).1,Int.le_refl _,Int.le_of_eq (oC 2 w.code w.r).2.symm⟩
end Go.Ink
namespace Go.Ink
open List renaming length→J, replicate→R9
open IntKind renaming wrap→V9
open Go.RowKit
section
theorem Qb:∀f:Nat,f<16->(bits .and .u64 (f:Int) 1=bits .and .u32 (f:Int) 1/\bits .and .u64 (f:Int) 2=bits .and .u32 (f:Int) 2/\bits .and .u64 (f:Int) 4=bits .and .u32 (f:Int) 4/\bits .and .u64 (f:Int) 8=bits .and .u32 (f:Int) 8):=by decide+kernel
end
theorem BD{S2 high:Int}{out:Nat}:ji S2 high out<=16 - high/\ji S2 high out<=16+S2 - out:=by
 grind [ji]
theorem BE{S2 high:Int}{out:Nat}(h0:0<=S2/\S2<=16)(h1:0<=high/\high<=16):ji S2 high out<=16/\(out<=16->0<=ji S2 high out):=by
 grind [ji]
variable{T:Li}
variable{i:Nat}
theorem DZ{j:Nat}(h:nH T i j=false)(hij:i<j)(hT:(j:Int)<=T.getD j 0):T.getD i 0<=j:=by
 unfold nH at h;simp only[aZ,Bool.and_eq_false_iff,aa]at h;omega
theorem Pu{j:Nat}(h:nH T i j=false)(hij:j<i)(hT:(i:Int)<=T.getD i 0):T.getD j 0<=i:=by
 unfold nH at h;simp only[aZ,Bool.and_eq_false_iff,aa]at h;omega
end Go.Ink
namespace Go.Ink
open List renaming length→J, replicate→R9
open IntKind renaming wrap→V9
open Go.RowKit
variable{k:Nat}
variable{c:List II}{x:II}
theorem xj(x:Int):u32 (V9 .u32 x):=by grind [u32,IntKind.wrap_u32]
theorem M8{b:Bool}{x y:UG}(hx:x.device=false)(hy:y.device=false):(bif b then x else y).device=false:=by grind
theorem zc(k:Int)(c:List II)(s:Sd):(fO k c s).2.1.length<=J c+1:=by
 grind [fO]
end Go.Ink
namespace Go.Ink
open List renaming length→J, replicate→R9
open IntKind renaming wrap→V9
open Go.RowKit Go.Proofs.Tryz
theorem Yy{a b k:Nat}(ha:a<2^k)(hab:b*2^k+a<4294967296)(hk:k<=24):bits .or .u32 (a:Int) (V9 .u32 ((b:Int)*2^(min (k:Int).toNat IntKind.u32.bits)))=((b*2^k+a:Nat):Int):=by
 have e1:min (k:Int).toNat IntKind.u32.bits=k:=by rw[aV];show min k 32=k;omega
 rw[e1];have e2:V9 .u32 ((b:Int)*2^k)=((b*2^k:Nat):Int):=by
  rw[au];have:((b:Int)*2^k)=((b*2^k:Nat):Int):=by simp
  rw[this];omega
 rw[e2,or32 O O,Nat.or_comm,Nat.mul_comm b,<-Nat.two_pow_add_eq_or_of_lt ha]
theorem PX{m:Nat}(h:m<4294967296):bits .or .u32 (bits .or .u32 (bits .or .u32 ((m%256:Nat):Int) (V9 .u32 (((m/256%256:Nat):Int)*2^(min ((8:Nat):Int).toNat IntKind.u32.bits)))) (V9 .u32 (((m/65536%256:Nat):Int)*2^(min ((16:Nat):Int).toNat IntKind.u32.bits)))) (V9 .u32 (((m/16777216%256:Nat):Int)*2^(min ((24:Nat):Int).toNat IntKind.u32.bits)))=(m:Int):=by
 rw[Yy (k:=8) O O ne,Yy (k:=16) O O ne,Yy (k:=24) O O ne];omega
section
theorem JI(x:Int):0<=V9 .u32 x/\V9 .u32 x<=4294967295:=by rw[au];omega
end
section
attribute [local irreducible] Ve bN
abbrev Wb(bw:Nat)(W:Li):bJ:=sl .u32 32 (sA bw) 256 256 W
end
end Go.Ink
namespace Go.Ink
open List renaming length→J, replicate→R9
open IntKind renaming wrap→V9
open Go.RowKit Go.Proofs.Tryz
def encB(nn:Int)(j:Nat):Int:=V9 .u8 (nn.fdiv (2^(min (Int.toNat ((8*j:Nat):Int)) IntKind.u32.bits)))
variable{l:List (Int×Int)}{k:Nat}{i:Int×Int}
section
attribute [local irreducible] Ve bN
variable{n:Nat}
abbrev NZ(A:Oa)(c:Nat)(l:Li)(B:Oa)(e:Nat)(k:Li)(n:Nat):Value:= .agg #[.slice A (J l) c,.slice B (J k) e,.i (n:Int)]
theorem QJ{a b:Nat}(ha:a<4294967296)(hb:b<4294967296):bits .and .u32 (a:Int) (b:Int)=((a&&&b:Nat):Int):=by
 have h1:(BitVec.ofInt IntKind.u32.bits (a:Int)).toNat=a:=by rw[BitVec.toNat_ofInt];show((a:Int)%((4294967296:Nat):Int)).toNat=a;omega
 have h2:(BitVec.ofInt IntKind.u32.bits (b:Int)).toNat=b:=by rw[BitVec.toNat_ofInt];show((b:Int)%((4294967296:Nat):Int)).toNat=b;omega
 have h3:a&&&b<=a:=Nat.and_le_left;unfold bits;simp only;rw[au,BitVec.toNat_and,h1,h2];omega
theorem zr:∀k,k<8->ju [k]=((2^k:Nat):Int):=by decide
def pd(x:Nat):Int:=match jJ x with
 |none=> -1
 |some k=>(k:Int)
variable{b:Li}
theorem nk{a:Li}(h:Vh a)(h2:Vh b):Vh (a++b):=λx hx=>(aJ.1 hx).elim (h x) (h2 x)
def UF.Tz(d:UF)(l:Li):Nat:=min (J l) (64 - J d.inp)
def UF.Tp(d:UF)(l:Li):UF:={d with inp:=d.inp++l.take (d.Tz l),S7:=bif decide (0<d.Tz l)then bits .or .u32 d.S7 2 else d.S7}
def UF.raise(d:UF)(k:Nat):UF:={d with S7:=bits .or .u32 d.S7 (ju [k])}
structure VO(d:UF):Prop where
 i64:J d.inp<=64
section
variable{d:UF}
theorem IF(h:VO d)(k count:Int):VO (cE d k count).2:=by
 have ht:VO {d with inp:=d.inp.tail}:=⟨by show J d.inp.tail<=64;rw[List.length_tail];have:=h.i64;omega⟩;unfold cE
 repeat (first|exact h|exact ht|refine bL (λq:(Int×Bool)×UF=>VO q.2) ?_ ?_)
theorem JZ(h:VO d)(c:Int):VO (d.tick c):=by
 unfold UF.tick;exact bL VO h ⟨h.i64⟩
end
theorem lines1:ju [1]=2:=by decide
variable{s:St}
def cQ(b:Li):Nat->Nat->List (Int×Int)×Nat×Bool
 |0,sz=>([],sz,false)
 |k+1,sz=>match dI (b.drop sz)with
  |none=>([],sz,false)
  |some (i,z)=>bif dD i.1 then(bif gz i.1 then([i],sz+z,true)else(i::(cQ b k (sz+z)).1,(cQ b k (sz+z)).2.1,(cQ b k (sz+z)).2.2))else([],sz,false)
theorem Gu{b:Bool}{x y:UG}{h:Bool}(hx:x.s.halted=h)(hy:y.s.halted=h):(bif b then x else y).s.halted=h:=by grind
theorem SD{b:Bool}{x y:UG}{h:Int}(hx:x.s.pc=h)(hy:y.s.pc=h):(bif b then x else y).s.pc=h:=by grind
theorem O9(p:Int)(va:Nat):(o9 p va).toNat%64=va%64/\0<=o9 p va:=by
 grind [o9,IntKind.wrap_u32]
def iQ(M:UO)(p:Nat):List Int:=((M.data.drop (p/64*64)).take 64).drop (p%64)
end
end Go.Ink
namespace Go.Ink
open List renaming length→J, replicate→R9
open IntKind renaming wrap→V9
open Go.RowKit Go.Proofs.Tryz
variable{x k:Nat}
theorem low_hit(hk:k<8)(h:kP x k (8 - k)=jJ x)(hc:(x/2^k%2==1)=true):pd x=(k:Int):=by
 obtain⟨m,hm⟩:∃m,8 - k=m+1:=⟨7 - k,by omega⟩;rw[hm,kP,hc,ah]at h;unfold pd;rw[<-h]
theorem PD(hk:k<8)(h:kP x k (8 - k)=jJ x)(hc:(x/2^k%2==1)=false):kP x (k+1) (8 - (k+1))=jJ x:=by
 obtain⟨m,hm⟩:∃m,8 - k=m+1:=⟨7 - k,by omega⟩;rw[hm,kP,hc,ac]at h;rw[show 8 - (k+1)=m by omega];exact h
theorem PC(h:kP x 8 (8 - 8)=jJ x):pd x= -1:=by
 unfold pd;rw[<-h]
 rfl
theorem LB:∀{l:Li} {k:Nat} {x:Int},l[k]? =some x->sX (l.take (k+1))=sX (l.take k)+x*256^k
 |[],_,_,h=>by simp at h
 |b::l,0,x,h=>by
  simp only[List.getElem?_cons_zero,bh]at h;subst h;simp[sX]
 |b::l,k+1,x,h=>by
  have e:=LB (l:=l) (k:=k) (x:=x) (by simpa using h);rw[List.take_succ_cons,sX,e,List.take_succ_cons,sX,Int.pow_succ,Int.mul_add,Int.add_assoc,Int.mul_comm 256 (x*256^k),Int.mul_assoc]
theorem D3:decide (0<=pd x)=(jJ x).isSome:=by
 unfold pd;cases jJ x with
 |none=>rfl
 |some k=>exact ap (by show(0:Int)<=(k:Int);omega)
section
attribute [local irreducible] Ve bN
variable{n:Nat}
theorem PE(h:jJ x=some k):pd x=(k:Int):=by unfold pd;rw[h]
structure Xz where
 kd:Int
 n:Int
 B:Option Addr
 cb:Nat
 bs:List Int
end
end Go.Ink
namespace Go.Ink
open List renaming length→J, replicate→R9
open IntKind renaming wrap→V9
open Go.RowKit Go.Proofs.Tryz
section
open Go.MapKept
open Go.ChangeMaps (setBlock)
def vc(L:List (Ky×Value))(q:Ky)(z:Value):List (Ky×Value):=match cN (·.1) q L with|some _=>L|none=>L++[(q,z)]
def zm(L:List (Ky×Value))(q:Ky):Nat:=(cN (·.1) q L).getD (J L)
end
variable{α:Type}{l:List α}{x:α}
def L1(o:Option Nat):Int:=match o with|none=> -1|some j=>(j:Int)
variable{o:Option Nat}
theorem FM(h:(L1 o== -1)=true):o=none:=by
 cases o with
 |none=>rfl
 |some j=>grind [L1]
theorem FJ(h:(L1 o== -1)=false):∃j,o=some j:=by
 cases o with
 |none=>simp[L1]at h
 |some j=>grind
theorem Cc{D:α->Bool}:∀{l:List α},l.findIdx? D=none->l.filter (λx=> !D x)=l/\J (l.filter D)=0
 :=by simp_all
def idxN(n:Nat)(o:Option Nat):Nat:=match o with|none=>n|some i=>i+1
def cD(q:Ky):List Value:=[.w q.1,.w q.2]
theorem vq(x:Ky):∀u∈cD x,u.oneCell'=true:=λu h=>by
 simp only[cD,aI,aY,or_false]at h;rcases h with rfl|rfl<;>rfl
def DK(k:Ky)(f:Bool)(x:Ky×LS):Ky×LS:=(x.1,bif f then mi k x.2 else x.2)
def Xv(k:Ky)(F:List Bool)(L0:List (Ky×LS)):List (Ky×LS):=List.zipWith (DK k) F L0
theorem Bv(k:Ky):∀L0:List (Ky×LS),Xv k (R9 (J L0) false) L0=L0
 |[]=>rfl
 |x::L0=>by
  show DK k false x::Xv k (R9 (J L0) false) L0=_;rw[Bv k L0]
  rfl
variable{k:Ky}
section
attribute [local irreducible] Ve bN
abbrev Ye(x:LS):bJ:=slv 173 2 x.A (J x.ks) x.c (x.ks.flatMap cD)
abbrev XI(b:Nat)(k:Ky):bJ:=row b (cD k) 173
abbrev Xa(bc:Nat)(r0 r1 r2 r3:Value):bJ:=row bc [r0,r1,r2,r3] 249
def LkSm(LK:List (Ky×LS)):Prop:=∀x,x∈LK->lD x.1/\J x.2.ks<=1000000
end
end Go.Ink
namespace Go.Ink
open List renaming length→J
open IntKind renaming wrap→V9
open Go.RowKit Go.Proofs.Tryz
section
variable{C:Cx}{Q:lK}{fr:Fr}{cs cs':List bJ}{St:Dr}{ops:Array Oper}{fuel i:Nat}{listed:Array Bool}
theorem wa_inv(hc:∀w,Inv C.w0 C.S cs w->Inv C.w0 C.S cs' w)(h:WA C St ops Q fuel listed fr cs'):WA C St ops Q fuel listed fr cs:=λa w hf hi=>h a w hf (hc w hi)
theorem wi_inv(hc:∀w,Inv C.w0 C.S cs w->Inv C.w0 C.S cs' w)(h:WI C St ops Q fuel listed i fr cs'):WI C St ops Q fuel listed i fr cs:=λa w hf hi=>h a w hf (hc w hi)
end
variable{w0 w:World}
section
attribute [local irreducible] Ve bN
theorem wc_inv{C:Cx}{Q:lK}{fr:Fr}{cs cs':List bJ}{x:Code}(hc:∀w,Inv C.w0 C.S cs w->Inv C.w0 C.S cs' w)(h:WC C x Q fr cs'):WC C x Q fr cs:=λa w hf hi=>h a w hf (hc w hi)
end
end Go.Ink
namespace Go.Ink
open List renaming length→J
open IntKind renaming wrap→V9
open Go.RowKit Go.Proofs.Tryz
variable{w:World}
section
attribute [local irreducible] Ve bN
section
variable{C:Cx}{Q:lK}{fr:Fr}{cs cs':List bJ}{ops:Array Oper}{l:List Oper}
theorem RR(hc:∀w,Inv C.w0 C.S cs w->Inv C.w0 C.S cs' w)(h:WL C ops Q l fr cs'):WL C ops Q l fr cs:=λa w hf hi=>h a w hf (hc w hi)
end
variable{b:Li}{l:List (Int×Int)}{sz:Nat}{R:List (Int×Int)×Nat×Bool}
theorem Hx(h:(l++(cQ b 0 sz).1,(cQ b 0 sz).2)=R):(l,sz,false)=R:=by
 rw[<-h];show(l,sz,false)=(l++[],sz,false)
 grind
abbrev pgC(Ap:Oa)(cp:Nat)(SV:Li):bJ:=sl .i64 3 Ap (J SV) cp SV
end
end Go.Ink
