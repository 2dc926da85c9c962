/- Lemmas. -/
import Derived.Test.YtepfimeihngjoaaGreatDoorYat
import Derived.Test.YtepfimeihngjoaaGreatDoorYau
set_option linter.all false
set_option maxRecDepth 100000
set_option maxHeartbeats 4000000
namespace Go.Ink
open List renaming length→J
open IntKind renaming wrap→V9
open Go.RowKit Go.Proofs.Tryz
section
attribute [local irreducible] UL bM
theorem Lk(c:List II)(x:II):c.flatMap II.cells++[.i x.op,.i x.dst,.i x.a,.i x.b,.w x.imm]=(c++[x]).flatMap II.cells:=by simp
abbrev Vn(b:Nat)(N:Int)(L:Lw)(X:VZ):List bH:=[row b (Dp N L X) 351,slv 366 5 X.Ac (J L.code) X.cc (L.code.flatMap II.cells),sl .i64 3 X.Ad (J L.d.l) X.cd L.d.l,sl .i64 3 X.Ar (J L.r.l) X.cr L.r.l]
end
end Go.Ink
namespace Go.Ink
open List renaming length→J, replicate→R9
open IntKind renaming wrap→V9
open Go.RowKit Go.Proofs.Tryz
section
attribute [local irreducible] UL bM
theorem pU(E:Vi){SC:Li}(h:SC≠[]):m8 E SC=Ma E SC:=by
 grind [m8]
theorem Jb(E:Vi)(SC:Li):(m8 E SC).last=E.last:=by unfold m8;cases SC.isEmpty<;>rfl
variable{i:Int×Int}
abbrev caP(bc:Nat)(room:Int)(X:VY)(Ap:Oa)(cp:Nat)(SC:Li):List bH:=[Wy bc (.i room) (.slice X.Ac (J X.Z) X.cc) (.map (some X.ml)) (.i X.fl),blC X,cR (X.Z.map VE),VG X.ml (VP X.LK),cR (VJ X.LK),pgC Ap cp SC]
abbrev tdF(b1 be:Nat)(E:Vk):List bH:=row b1 [.p be] 60::enR be E::Vu E.bc E.room E.X
end
end Go.Ink
namespace Go.Ink
open List renaming length→J, replicate→R9
open IntKind renaming wrap→V9
open Go.RowKit Go.Proofs.Tryz
variable{n:Nat}
section
attribute [local irreducible] UL bM
variable{k:Ky}
variable{RZ:List (Ky×RS)}
theorem K4(k:Ky)(x:RS)(h:(RZ.map (·.1)).Nodup):((dP RZ k x).map (·.1)).Nodup:=by
 rw[xZ];exact qV h
variable{E:Vk}
variable{E:Vi}
abbrev Vk.toldE(E:Vk)(X:VY)(k:Ky)(c:Int):Vk:=⟨E.bc,E.mr,E.room,X,E.RZ,k,V9 .i64 (E.S9+c),E.S8,true⟩
variable{s:St}{p:Int}
variable{p:Nat}{U:Uo}{d:Un}
theorem GG{SR k:Nat}(h:dI n U.m p=none):jv n SR (k+1) s p U d E=((s.next.SL 1 0,U,d),{E with S8:=V9 .i64 (E.S8+1)}):=by
 unfold jv;rw[h]
theorem GF{SR k:Nat}{U1:Uo}{d1:Un}{op nn:Int}{z:Nat}{q:Wn}(h:dI n U.m p=some ((op,nn),z))(hq:lj n s op nn U d=(q,U1,d1)):
  jv n SR (k+1) s p U d E=bif iY op q SR s.pc then jv n SR k q.s ((p+z)%4294967296) U1 d1 (m8 {E with S8:=V9 .i64 (E.S8+1)} q.SC)else((q.s,U1,d1),m8 {E with S8:=V9 .i64 (E.S8+1)} q.SC):=by
 rw[jv,h];simp only[hq]
abbrev Vk.TN(E:Vk)(c:Int):Vk:=⟨E.bc,E.mr,E.room,E.X,E.RZ,E.last,E.S9,V9 .i64 (E.S8+c),E.begun⟩
end
end Go.Ink
namespace Go.Ink
open List renaming length→J, replicate→R9
open IntKind renaming wrap→V9
open Go.RowKit Go.Proofs.Tryz
section
variable{L:ez}{k:Cb}
theorem nS.unmap(h:nS L k){p f:Nat}(hf:k.fr[p]? =some (f:Int)):(16<=f/\f<256/\k.ow[f]? =some (L.o:Int))/\nS L {k with ow:=k.ow.set f (-1),fr:=k.fr.set p (-1),gd:=k.gd.set p false}:=by
 have hpl:p<L.n:=by have:=(ap.1 hf).1;rw[h.fr]at this;exact this
 have hr:16<=f/\f<256/\k.ow[f]? =some (L.o:Int):=by
  rcases h.SR p hpl with h1|⟨g,h1,h2⟩
  .grind
  grind
 obtain⟨h16,h256,how⟩:=hr;have hwl:=h.pl.ow;have hfl:=h.fr;refine⟨⟨h16,h256,how⟩,⟨h.pl.b,by grind,h.pl.pr⟩,by grind,by simp[h.gd],λq hq=>?_,λa b g ha hb=>?_,λg hg=>?_,h.prs⟩
 .show(k.fr.set p (-1))[q]? =some (-1)\/∃g:Nat,(k.fr.set p (-1))[q]? =some (g:Int)/\16<=g/\g<256/\(k.ow.set f (-1))[g]? =some (L.o:Int);by_cases hqp:q=p
  .grind
  rw[List.getElem?_set_ne O];rcases h.SR q hq with h1|⟨g,h1,h2,h3,h4⟩
  .grind
  have hgf:f≠g:=by rintro rfl;exact hqp (h.inj q p f h1 hf)
  grind
 .change (k.fr.set p (-1))[a]? =_ at ha
  change (k.fr.set p (-1))[b]? =_ at hb
  have no:∀c:Nat,(k.fr.set p (-1))[c]? =some (g:Int)->p≠c:=by
   rintro c hc rfl;rw[List.getElem?_set_self O]at hc;have:=aG hc;omega
  rw[List.getElem?_set_ne (no a ha)]at ha;rw[List.getElem?_set_ne (no b hb)]at hb;exact h.inj a b g ha hb
 show(_/\(k.ow.set f (-1))[g]? =some (-1))\/(_/\(k.ow.set f (-1))[g]? =some (L.o:Int)/\∃q:Nat,(k.fr.set p (-1))[q]? =some (g:Int))\/(_/\(k.ow.set f (-1))[g]? =_/\_);by_cases hgf:f=g
 .subst hgf;left;refine⟨?_,by grind⟩;rcases h.held f hg with h1|h1|⟨h1,h2, -⟩
  .exact h1.1
  .exact h1.1
  grind [ez.oth]
 rw[List.getElem?_set_ne hgf];rcases h.held g hg with h1|⟨h1,h2,q,hq⟩|h1
 .grind
 .refine .inr (.inl ⟨h1,h2,q,?_⟩)
  grind
 grind
end
variable{ow:Li}{o:Int}
variable{L:ez}{k:Cb}
theorem ls.at_{k0:Cb}{j p:Nat}(h:ls L k0 k j)(h0:nS L k0)(hp:(B6 k0.fr L.n)[j]? =some p):p<L.n/\∃f:Nat,k.fr[p]? =some (f:Int)/\16<=f/\f<256/\k.ow[f]? =some (L.o:Int)/\ls L k0 {k with ow:=k.ow.set f (-1),fr:=k.fr.set p (-1),gd:=k.gd.set p false} (j+1):=by
 have hm:=E9.1 (az hp);have hjl:=(ap.1 hp).1;have hnt:p∉(B6 k0.fr L.n).take j:=λhc=>by
  grind [Hh,List.mem_iff_getElem?,List.getElem?_eq_some_iff,List.getElem_inj]
 have e:=h.fr p;rw[if_neg hnt]at e;rcases h0.SR p hm.1 with h1|⟨f,h1, -⟩
 .grind
 rw[h1]at e;obtain⟨⟨a1,a2,a3⟩,hu⟩:=h.rep.unmap e;refine⟨hm.1,f,e,a1,a2,a3,hu,λq=>?_⟩;show(k.fr.set p (-1))[q]? =_;rw[List.take_add_one,hp];by_cases hqp:p=q
 .grind
 rw[List.getElem?_set_ne hqp,h.fr q]
 grind
end Go.Ink
namespace Go.Ink
open List renaming length→J
open IntKind renaming wrap→V9
open Go.RowKit Go.Proofs.Tryz
theorem want3(Sy:Bool):bits .or .u32 (V9 .u32 (oL 3 Sy - 1)) 64=(asked 3 Sy).1:=by cases Sy<;>decide
theorem want12{k:Int}(h:1<=k/\k<=3)(h3:(k==3)=false)(Sy:Bool):V9 .u32 (oL k Sy - 1)=(asked k Sy).1:=by
 have h3:k≠3:=by simpa using h3
 obtain rfl|rfl:k=1\/k=2:=by omega
 all_goals (cases Sy<;>decide)
theorem Qr{k:Int}(h:1<=k/\k<=3)(Sy:Bool):(asked k Sy).2=true:=by
 obtain rfl|rfl|rfl:k=1\/k=2\/k=3:=by omega
 all_goals rfl
theorem G7{e:TE}{va:Nat}{a:Int×Bool}(h:a.2=true):kC e va a=((((!e.valid||(e.vpn !=((va/64:Nat):Int)))||false)||false)||(bits .and .u32 e.bits a.1 !=a.1)):=by
 unfold kC;rw[h];simp
variable{x:Value}{i:Nat}
theorem tO(n:Nat)(M:Uy)(root va:Nat)(kind:Int)(Sy:Bool):(dw n M root va kind Sy).1.2.SB=0->(dw n M root va kind Sy).1.2=Tr.none/\(dw n M root va kind Sy).1.1.valid=true/\(dw n M root va kind Sy).1.1.vpn=((va/64:Nat):Int):=by
 unfold dw;cases hf:(UV kind==0)with
 |true=>intro h;cases h
 |false=>
  refine fy ?_;have hf':UV kind≠0:=by simpa using hf
  cases ia n M.data root va with
  |none=>exact λh=>absurd h hf'
  |some q=>
   obtain⟨a,l⟩:=q;cases hb:(bits .and .u32 l (oL kind Sy) !=oL kind Sy)with
   |true=>simp only[hb,ae];exact λh=>absurd h hf'
   |false=>simp only[hb,ac];exact λ_=>by refine⟨?_,?_,?_⟩<;>first|rfl|trivial
theorem xI(n:Nat)(U:Uo)(s:Sp)(va:Nat)(kind:Int):(SF n U s va kind).1.2.SB=0->(SF n U s va kind).1.2=Tr.none:=by
 have h:=tO n U.m s.root va kind s.Sy;unfold SF;refine bJ (λq:(Int×Tr)×Uo=>q.1.2.SB=0->q.1.2=Tr.none) ir ?_;refine bJ (λq:(Int×Tr)×Uo=>q.1.2.SB=0->q.1.2=Tr.none) ir ?_;exact bJ (λq:(Int×Tr)×Uo=>q.1.2.SB=0->q.1.2=Tr.none) (λe=>(h e).1) (λe=>(h e).1)
theorem gq(n:Nat)(U:Uo)(s:Sp)(va:Nat)(kind:Int):(Sz n U s va kind).1.2.SB=0->(Sz n U s va kind).1.2=Tr.none:=by
 have h:=xI n U s va kind;unfold Sz;refine bJ (λq:(Int×Tr)×Uo=>q.1.2.SB=0->q.1.2=Tr.none) (λe=>by cases e) ?_;refine bJ (λq:(Int×Tr)×Uo=>q.1.2.SB=0->q.1.2=Tr.none) h ?_;exact bJ (λq:(Int×Tr)×Uo=>q.1.2.SB=0->q.1.2=Tr.none) h (λe=>by cases e)
theorem UI.SF{n:Nat}{U:Uo}(h:UI n U.m)(s:Sp)(va:Nat)(kind:Int)(hw:UI n (dw n U.m s.root va kind s.Sy).2):UI n (SF n U s va kind).2.m:=by
 unfold Go.Ink.SF;refine bJ (λq:(Int×Tr)×Uo=>UI n q.2.m) h ?_;refine bJ (λq:(Int×Tr)×Uo=>UI n q.2.m) h ?_;exact bJ (λq:(Int×Tr)×Uo=>UI n q.2.m) hw hw
theorem UI.Sz{n:Nat}{U:Uo}(h:UI n U.m)(s:Sp)(va:Nat)(kind:Int)(hw:UI n (dw n U.m s.root va kind s.Sy).2):UI n (Sz n U s va kind).2.m:=by
 have ht:=h.SF s va kind hw;unfold Go.Ink.Sz;refine bJ (λq:(Int×Tr)×Uo=>UI n q.2.m) h ?_;refine bJ (λq:(Int×Tr)×Uo=>UI n q.2.m) ht ?_;exact bJ (λq:(Int×Tr)×Uo=>UI n q.2.m) ht ht
section
attribute [local irreducible] UL bM
abbrev Vc(K:gb)(bx n:Nat)(U:Uo):List bH:=fw bx K.bm U.t::VT K n U.m
variable{n p:Nat}
theorem C7{d:Li}(h:UO d){l:Li}(hl:J l<=4){i:Nat}(hi:i<J l){a:Nat}(ha:l[i]'hi=(a:Int)):
  bits .or .u32 (ef d (l.take i)) (V9 .u32 (gB d a*2^(8*i)))=ef d (l.take (i+1)):=by
 have h1:=lb h (l.take i);have hlen:J (l.take i)=i:=by rw[aU];omega
 rw[hlen]at h1;have e:(2:Int)^(8*i)=256^i:=by rw[Int.pow_mul];rfl
 rw[List.take_succ_eq_append_getElem hi,sa,ha,hlen,aP,Kn (8*i) O (by rw[e];exact h1) (fF h a),e]
theorem UI.SM{n:Nat}{U:Uo}(h:UI n U.m)(s:Sp)(va k:Nat)(kind:Int)(hw:∀{V:Uo},UI n V.m->∀va,UI n (dw n V.m s.root va kind s.Sy).2:=λ{V} h va=>h.walk s.root va kind s.Sy):UI n (SM n U s va k kind).2.m:=by
 have h1:=h.Sz s va kind (hw h va);have h2:=h1.Sz s (cT va) kind (hw h1 _);unfold Go.Ink.SM xO;refine bJ (λq:(List Int×Tr)×Uo=>UI n q.2.m) h1 ?_;refine bJ (λq:(List Int×Tr)×Uo=>UI n q.2.m) ?_ (by rw[tY];exact h1);unfold xN;exact bJ (λq:(List Int×Tr)×Uo=>UI n q.2.m) h2 (by rw[tY];exact h2)
theorem minU{k:Nat}(h:k<=31):min ((k:Nat):Int).toNat IntKind.u32.bits=k:=by
 rw[aP,show IntKind.u32.bits=32 from I];omega
variable{a:Int}
theorem xM(h:iv a=true)(b:Int)(va k:Nat)(t:Tr)(U:Uo):dh a b va k t U=(([],⟨10,va⟩),U):=by unfold dh;rw[h];rfl
theorem vR{b:Int}(h:iv a=false)(h2:iv b=true){va k:Nat}(hk:((64 - va%64:Nat):Int)<(k:Int))(t:Tr)(U:Uo):dh a b va k t U=(([],⟨10,cT va⟩),U):=by
 unfold dh;rw[h,h2,ak hk]
 rfl
theorem Cs{b:Int}(h:iv a=false){va k:Nat}(h2:((64 - va%64:Nat):Int)<(k:Int)->iv b=false)(t:Tr)(U:Uo):dh a b va k t U=((iU a b va k,t),U):=by
 have e:(decide (((64 - va%64:Nat):Int)<(k:Int))&&iv b)=false:=by
  by_cases hk:((64 - va%64:Nat):Int)<(k:Int)
  .rw[h2 hk,bF]
  rw[ao hk];rfl
 unfold dh;rw[h,e]
 rfl
theorem N1(l:Li)(x y:Int):((((l++[x])++[y]).set (J l+1) x).set (J l) y)=l++[y,x]:=by
 have e1:((l++[x])++[y]).set (J l+1) x=(l++[x])++[x]:=by
  have h:=xU (l++[x]) y x;rw[ar]at h;exact h
 rw[e1,aq,List.set_append_right _ _ (aL _),Nat.sub_self]
 rfl
abbrev zW(br:Nat)(X:eN)(s:St)(tr dv:Bool):bH:=row br [.w s.pc,.slice X.Ad (J s.d) X.cd,.slice X.Ar (J s.r) X.cr,.w s.flags,.bool s.Sy,.bool s.SJ,.bool s.ie,.w s.root,.w s.vec,.w s.epc,.w s.SB,.w s.addr,.bool s.SO,.bool s.eie,.int .u64 s.count,.bool s.halted,.bool tr,.bool dv,.slice none 0 0] 231
abbrev VC(br:Nat)(X:eN)(s:St)(dv:Bool):List bH:=[zW br X s false dv,UP s X.Ad X.cd,UU s X.Ar X.cr]
section
variable{n:Nat}{R:Um}{U U':Uo}{d:Un}{va:Nat}{p:Nat}{tr:Tr}
theorem Hl(h:(((va%4:Nat):Int) !=0)=true):eI n R U d va=⟨R.wt ⟨6,va⟩,U,d⟩:=by
 unfold eI bZ;rw[h]
 rfl
theorem Ds(h:(((va%4:Nat):Int) !=0)=false)(hp:Sz n U R.sp va 2=(((p:Int),tr),U'))(hc:(tr.SB !=0)=true):eI n R U d va=⟨R.wdv tr false,U',d⟩:=by
 have e:(tr.SB==0)=false:=by simpa using hc
 unfold eI bZ;rw[h,hp];simp only[ac,e,Bool.not_false,ae,bn]
theorem KU(h:(((va%4:Nat):Int) !=0)=false)(hp:Sz n U R.sp va 2=(((p:Int),Tr.none),U')):eI n R U d va=bif decide ((32768:Int)<=(p:Int))then gL ⟨(p:Int),true,R.wdv Tr.none true,U'⟩ (cz d (iV p) R.count).2 va (cz d (iV p) R.count).1.1 (cz d (iV p) R.count).1.2 else gL ⟨(p:Int),true,R.wdv Tr.none false,U'⟩ d va (gZ n U'.m p).1 (gZ n U'.m p).2:=by
 have e:(Tr.none.SB==0)=true:=rfl;unfold eI bZ;exact Wx85_
end
abbrev U8(br:Nat)(X:eN)(x:St)(dv:Bool)(K:gb)(bx n:Nat)(U:Uo)(b bd:Nat)(Z:fv)(d:Un):List bH:=VC br X x dv++(Vc K bx n U++eW b K.bm bd Z d)
end
end Go.Ink
namespace Go.Ink
open List renaming length→J
open IntKind renaming wrap→V9
open Go.RowKit Go.Proofs.Tryz
theorem Cr(n:Nat)(U:Uo)(s:Sp)(va k:Nat)(kind:Int):(SM n U s va k kind).1.2.SB=0->(SM n U s va k kind).1.2=Tr.none:=by
 have h1:=gq n U s va kind;have h2:=gq n (Sz n U s va kind).2 s (cT va) kind;have hE:∀a b t V,(t.SB=0->t=Tr.none)->(dh a b va k t V).1.2.SB=0->(dh a b va k t V).1.2=Tr.none:=λa b t V ht=>by
  unfold dh;refine bJ (λq:(List Int×Tr)×Uo=>q.1.2.SB=0->q.1.2=Tr.none) (λe=>by cases e) ?_;exact bJ (λq:(List Int×Tr)×Uo=>q.1.2.SB=0->q.1.2=Tr.none) (λe=>by cases e) ht
 unfold SM xO;refine bJ (λq:(List Int×Tr)×Uo=>q.1.2.SB=0->q.1.2=Tr.none) h1 ?_;refine bJ (λq:(List Int×Tr)×Uo=>q.1.2.SB=0->q.1.2=Tr.none) ?_ (hE _ _ _ _ h1);unfold xN;exact bJ (λq:(List Int×Tr)×Uo=>q.1.2.SB=0->q.1.2=Tr.none) h2 (hE _ _ _ _ h2)
section
attribute [local irreducible] UL bM
abbrev St.wd(s:St)(l:Li):St:=⟨s.pc,l,s.r,s.flags,s.Sy,s.SJ,s.ie,s.root,s.vec,s.epc,s.SB,s.addr,s.SO,s.eie,s.count,s.halted⟩
def oP(n:Nat)(op nn:Int)(R:Um)(U:Uo)(d:Un):ek:=
 match cV op nn R with
 |some R=>⟨R,U,d⟩
 |none=>bif(bS op nn R).1 then⟨(bS op nn R).2,U,d⟩else cB n op nn ⟨(bS op nn R).2,U,d⟩
theorem mid_act(n:Nat)(s:St)(op nn:Int)(U:Uo)(d:Un):nw n s op nn U d=oP n op nn (eV s op) U d:=rfl
def RN(op:Int):Prop:=(0<=op/\op<=8)\/(16<=op/\op<=25)\/(32<=op/\op<=40)\/(48<=op/\op<=53)\/(64<=op/\op<=69)
variable{op nn:Int}
theorem Od(h:eG op nn=true):RN op:=by
 by_cases h0:cw op=0
 .unfold eG at h;rw[h0]at h;cases h
 rw[<-xR]at h0;unfold RN;revert h0;unfold xT;by_cases e:op=2
 .subst e;intro _;omega
 have e2:(op==2)=false:=by simpa using e
 rw[e2];cases h2:((((op==1)||(decide (32<=op)&&decide (op<=38)))||(op==66))||(op==67))with
 |true=>
  simp only[Bool.or_eq_true,beq_iff_eq,aC,ah]at h2;intro _;omega
 |false=>
  cases h3:(((((decide (0<=op)&&decide (op<=8))||(decide (16<=op)&&decide (op<=25)))||(op==39))||(op==40))||(decide (48<=op)&&decide (op<=53)))||(decide (64<=op)&&decide (op<=69))with
  |true=>
   simp only[Bool.or_eq_true,beq_iff_eq,aC,ah]at h3;intro _;omega
  |false=>intro h0;exact absurd I h0
theorem Gz(h:0<=op/\op<=8)(nn:Int)(R:Um):∃R',cV op nn R=some R'/\R'.SL=R.SL/\R'.device=R.device:=by
 obtain rfl|rfl|rfl|rfl|rfl|rfl|rfl|rfl|rfl:op=0\/op=1\/op=2\/op=3\/op=4\/op=5\/op=6\/op=7\/op=8:=by omega
 all_goals exact⟨_,rfl,rfl,rfl⟩
theorem zM(h:9<=op)(nn:Int)(R:Um):cV op nn R=none:=by
 have e:∀k:Int,k<=8->(op==k)=false:=λk hk=>by simp only[bE,ne_eq];omega
 exact nh nn R (e 0 An) (e 1 An) (e 2 An) (e 3 An) (e 4 An) (e 5 An) (e 6 An) (e 7 An) (e 8 An)
theorem Ps(h:32<=op/\op<=40)(nn:Int)(R:Um):(bS op nn R).1=true/\(bS op nn R).2.SL=R.SL/\(bS op nn R).2.device=R.device:=by
 have key:∀c (g:Bool),(bif c then R.wpc (fW R nn)else R).SL=R.SL/\(bif c then R.wpc (fW R nn)else R).device=R.device:=λc g=>by cases c<;>exact⟨I,I⟩
 obtain rfl|rfl|rfl|rfl|rfl|rfl|rfl|rfl|rfl:op=32\/op=33\/op=34\/op=35\/op=36\/op=37\/op=38\/op=39\/op=40:=by omega
 .exact⟨I,I,I⟩
 .exact⟨I,key _ true⟩
 .exact⟨I,key _ true⟩
 .exact⟨I,key _ true⟩
 .exact⟨I,key _ true⟩
 .exact⟨I,key _ true⟩
 .exact⟨I,I,I⟩
 .exact⟨I,I,I⟩
 exact⟨I,I,I⟩
theorem GV(h:41<=op)(nn:Int)(R:Um):bS op nn R=(false,R):=by
 have e:∀k:Int,k<=40->(op==k)=false:=λk hk=>by simp only[bE,ne_eq];omega
 have r:(decide (16<=op)&&decide (op<=25))=false:=by rw[Bool.and_eq_false_iff,aa,aa];omega
 unfold bS cZ;simp only[r,e 38 An,e 32 An,e 39 An,e 40 An,e 33 An,e 34 An,e 35 An,e 36 An,e 37 An,ac]
variable{n:Nat}{R:Um}{U:Uo}{d:Un}
theorem MP{R':Um}(h:cV op nn R=some R'):oP n op nn R U d=⟨R',U,d⟩:=by unfold oP;rw[h]
theorem xq(h:9<=op)(h1:(bS op nn R).1=true):oP n op nn R U d=⟨(bS op nn R).2,U,d⟩:=by
 unfold oP;rw[zM h];simp only[h1,ae]
theorem MQ(h:41<=op):oP n op nn R U d=cB n op nn ⟨R,U,d⟩:=by
 unfold oP;rw[zM O,GV h]
 rfl
theorem Km(h:64<=op/\op<=69)(R:Um)(U:Uo)(d:Un):(cB n op nn ⟨R,U,d⟩).d=d:=by
 obtain rfl|rfl|rfl|rfl|rfl|rfl:op=64\/op=65\/op=66\/op=67\/op=68\/op=69:=by omega
 all_goals rfl
theorem JV(h:16<=op/\op<=25)(nn:Int)(R:Um)(l:Li)(x y:Int):bS op nn (R.wd ((l++[x])++[y]))=(true,bif op !=25 then((bif(gP op x y).2.2 then R.wd l else(R.wd l).wt ⟨5,0⟩).wfl (gP op x y).2.1).push [(gP op x y).1]else(bif(gP op x y).2.2 then R.wd l else(R.wd l).wt ⟨5,0⟩).wfl (gP op x y).2.1):=by
 have ha:(decide (16<=op)&&decide (op<=25))=true:=by rw[ak h.1,ak h.2];rfl
 simp only[bS,ha,ae,Um.top_wd,Um.pop_wd]
abbrev Um.wc(R:Um)(c:Int):Um:=⟨R.s.S5 c,R.count,R.SL,R.device⟩
abbrev ek.wc(m:ek)(c:Int):ek:=⟨m.r.wc c,m.u,m.d⟩
section
variable{n:Nat}{op nn:Int}{R:Um}{U:Uo}{c:Int}
theorem N2:cV op nn (R.wc c)=(cV op nn R).map (·.wc c):=by
 have key:∀b (x y x' y':Option Um),x=x'.map (·.wc c)->y=y'.map (·.wc c)->(bif b then x else y)=(bif b then x' else y').map (·.wc c):=λb x y x' y' h1 h2=>by cases b<;>assumption
 unfold cV;refine Sv ?_;refine Sv ?_;exact key _ _ _ _ _ I I
theorem JT:bS op nn (R.wc c)=((bS op nn R).1,(bS op nn R).2.wc c):=by
 have key:∀b (x y x' y':Bool×Um),x=(x'.1,x'.2.wc c)->y=(y'.1,y'.2.wc c)->(bif b then x else y)=((bif b then x' else y').1,(bif b then x' else y').2.wc c):=λb x y x' y' h1 h2=>by cases b<;>assumption
 unfold bS;refine key _ _ _ _ _ ?_ ?_
 .show(true,bif op !=25 then((bif(gP op R.pop.top R.top).2.2 then(R.pop.pop).wc c else((R.pop.pop).wt ⟨5,0⟩).wc c).wfl (gP op R.pop.top R.top).2.1).push [(gP op R.pop.top R.top).1]else(bif(gP op R.pop.top R.top).2.2 then(R.pop.pop).wc c else((R.pop.pop).wt ⟨5,0⟩).wc c).wfl (gP op R.pop.top R.top).2.1)=_;cases(gP op R.pop.top R.top).2.2<;>cases(op !=25)<;>rfl
 refine Sv ?_;show((cZ op R.s.flags).2,bif(cZ op R.s.flags).1 then(R.wc c).wpc (fW R nn)else R.wc c)=_;cases(cZ op R.s.flags).1<;>rfl
theorem El(va:Nat)(kind:Int):bZ n (R.wc c) U va kind=⟨(bZ n R U va kind).p,(bZ n R U va kind).ok,(bZ n R U va kind).r.wc c,(bZ n R U va kind).u⟩:=by
 unfold bZ;cases(((va%4:Nat):Int) !=0)<;>rfl
end
section
variable{n:Nat}{U:Uo}{d:Un}
theorem UI.whole(h:UI n U.m)(R:Um)(va:Nat)(kind:Int):UI n (bZ n R U va kind).u.m:=by
 unfold bZ;exact bJ (λW:Nj=>UI n W.u.m) h (h.Sz R.sp va kind (h.walk _ _ _ _))
theorem UI.lode(h:UI n U.m)(R:Um)(va:Nat):UI n (eI n R U d va).u.m:=by
 have hu:=h.whole R va 2;unfold eI;refine bJ (λm:ek=>UI n m.u.m) hu ?_;exact bJ (λm:ek=>UI n m.u.m) hu hu
end
def PT(s x:St)(m:ek):Wn×Uo×Un:=
 (⟨bif m.r.SL.SB !=0 then s.next.SL m.r.SL.SB m.r.SL.addr else x.next,m.r.SL.SB !=0,m.r.device,dY m.u.m.SD 64⟩,m.u,m.d)
theorem P5{s:St}(h:s.right=true)(hc:dN s op nn≠0):lj n s op nn U d=PT s s ⟨⟨s,s.count,⟨dN s op nn,0⟩,false⟩,⟨U.m.calm,U.t⟩,d⟩:=by
 have e:(dN s op nn !=0)=true:=by simpa using hc
 unfold lj PT;rw[h];simp only[e,Bool.not_true,ae,ac];rw[show dY U.m.calm.SD 64=[]from wv]
abbrev runR(s:St)(op:Int):Um:=⟨s.wpc (V9 .u32 (s.pc+V9 .u32 (cw op))),s.count,Tr.none,false⟩
theorem DN{s:St}(h:dN s op nn=0):eG op nn=true:=by
 unfold dN at h;cases e:eG op nn with
 |true=>rfl
 |false=>rw[e]at h;cases h
end
end Go.Ink
namespace Go.Ink
open List renaming length→J
open IntKind renaming wrap→V9
open Go.RowKit Go.Proofs.Tryz
structure MG where
 H:mY
 G:Vy
 fr:List Int
 gd:List Bool
 dead:Bool
abbrev Xa(H:mY)(G:Vy)(fr:Li)(gd:List Bool):List bH:=[jS H.L.bt H.L.bp H.L.o H.L.bf H.L.bg H.L.n,Xr H.L.bf H.L.n fr,gdC H.L.bg H.L.n gd,sc H.L G.U.m.SD]
variable{P:qG}{H:mY}{G:Vy}
variable{bp:Nat}{gs:List MG}{i:Nat}{g:MG}
structure Ag where
 n:Nat
 s:St
 U:Uo
 d:Un
 dead:Bool
def Ag.run(m:Int)(a:Ag):Ag:=⟨a.n,(eH a.n m a.s a.U a.d).1,(eH a.n m a.s a.U a.d).2.1,(eH a.n m a.s a.U a.d).2.2,a.dead⟩
def Ag.ran(m:Int)(a:Ag):Int:=V9 .i64 (V9 .u64 ((a.run m).s.count - a.s.count))
structure Ag.Ts(k:Nat)(a:Ag):Prop where
 g:Vp a.n a.s a.U a.d
 i:Vm a.d
 s:a.d.said
 o:J a.d.out<=k
 n64:a.n<=64
theorem u00:u32 0:=⟨Int.le_refl _,show(0:Int)<=4294967295 by decide⟩
section
variable{k:Nat}{a:Ag}{i:Nat}
theorem Ag.Ts.le(h:a.Ts k){m:Nat}(hm:k<=m):a.Ts m:=⟨h.g,h.i,h.s,aR h.o hm,h.n64⟩
end
structure Wx where
 bp:Nat
 A:Option Addr
 c:Nat
 P:qG
 gs:List MG
def MG.abs(g:MG):Ag:=⟨g.H.L.n,g.G.s,g.G.U,g.G.d,g.dead⟩
def Wx.l(m:Wx):List Ag:=m.gs.map MG.abs
theorem Wx.at_{m:Wx}(h:m.gs[i]? =some g):m.l[i]? =some g.abs:=by
 grind [Wx.l]
theorem Wx.get{m:Wx}{a:Ag}(h:m.l[i]? =some a):∃g,m.gs[i]? =some g/\g.abs=a:=by
 grind [Wx.l]
end Go.Ink
namespace Go.Ink
open List renaming length→J, replicate→R9
open IntKind renaming wrap→V9
open Go.RowKit Go.Proofs.Tryz
variable{d:Un}{c:Int}
theorem NS(h:((d.timer !=0)&&decide (d.timer<=V9 .u32 c))=true):d.tick c={d with timer:=0,SU:=bits .or .u32 d.SU 1}:=by
 unfold Un.tick;simp only[aC,bne_iff_ne,ah]at h;rw[bE.2 h.1,ao O]
 rfl
theorem Ο(h:((d.timer !=0)&&decide (d.timer<=V9 .u32 c))=false):d.tick c=d:=by
 unfold Un.tick;by_cases h1:d.timer=0
 .rw[show(d.timer==0)=true by simpa using h1,bl];rfl
 rw[show(d.timer !=0)=true by simpa using h1,bz,aa]at h;rw[ak (show V9 .u32 c<d.timer by omega),aZ];rfl
variable{x k:Nat}
theorem low_hit(hk:k<8)(h:kE x k (8 - k)=jy x)(hc:(x/2^k%2==1)=true):oV x=(k:Int):=by
 obtain⟨m,hm⟩:∃m,8 - k=m+1:=⟨7 - k,by omega⟩;rw[hm,kE,hc,ae]at h;unfold oV;rw[<-h]
theorem O9(hk:k<8)(h:kE x k (8 - k)=jy x)(hc:(x/2^k%2==1)=false):kE x (k+1) (8 - (k+1))=jy x:=by
 obtain⟨m,hm⟩:∃m,8 - k=m+1:=⟨7 - k,by omega⟩;rw[hm,kE,hc,ac]at h;rw[show 8 - (k+1)=m by omega];exact h
theorem O8(h:kE x 8 (8 - 8)=jy x):oV x= -1:=by
 unfold oV;rw[<-h]
 rfl
theorem Qo{a:Nat}(ha:a<4294967296):bits .and .u32 (a:Int) 1=((a%2:Nat):Int):=by
 rw[show(1:Int)=((1:Nat):Int)from I,F0 ha An,Nat.and_one_is_mod]
theorem KZ:∀{l:Li} {k:Nat} {x:Int},l[k]? =some x->sE (l.take (k+1))=sE (l.take k)+x*256^k
 |[],_,_,h=>by simp at h
 |b::l,0,x,h=>by
  simp only[List.getElem?_cons_zero,aW]at h;subst h;simp[sE]
 |b::l,k+1,x,h=>by
  have e:=KZ (l:=l) (k:=k) (x:=x) (by simpa using h);rw[List.take_succ_cons,sE,e,List.take_succ_cons,sE,Int.pow_succ,Int.mul_add,Int.add_assoc,Int.mul_comm 256 (x*256^k),Int.mul_assoc]
theorem K2{l:Li}(hl:UO l){k:Nat}(hk:k<=3){x:Int}(hx:l[k]? =some x):bits .or .u32 (sE (l.take k)) (V9 .u32 (x*2^(8*k)))=sE (l.take (k+1)):=by
 obtain⟨r1,r2⟩:=tA (l:=l.take k) (λy hy=>hl y (aX hy));obtain⟨hlt, -⟩:=ap.1 hx;have hxb:=hl x (az hx);have hlen:J (l.take k)=k:=by rw[aU];omega
 have e:(2:Int)^(8*k)=256^k:=by rw[Int.pow_mul];rfl
 rw[hlen]at r2;rw[KZ hx,Kn (8*k) O ⟨r1,by rw[e];simpa using r2⟩ hxb,e]
theorem Dq:decide (0<=oV x)=(jy x).isSome:=by
 unfold oV;cases jy x with
 |none=>rfl
 |some k=>exact ak (by show(0:Int)<=(k:Int);omega)
section
attribute [local irreducible] UL bM
variable{n:Nat}{s:St}{U:Uo}
theorem UI.begin(h:UI n U.m)(hw:∀root va kind Sy,UI n (dw n U.m root va kind Sy).2):UI n (cF n s U d).u.m:=by
 unfold cF;refine bJ (λb:we=>UI n b.u.m) h ?_;unfold lF;dsimp only;exact bJ (λb:we=>UI n b.u.m) (h.Sz _ _ _ (hw _ _ _ _)) (h.Sz _ _ _ (hw _ _ _ _))
theorem Pa(h:jy x=some k):oV x=(k:Int):=by unfold oV;rw[h]
abbrev VV(K:gb)(bx n b bd:Nat)(Z:fv)(U:Uo)(d:Un):List bH:=Vc K bx n U++eW b K.bm bd Z d
theorem UI.init18{b:Li}(h1:1<=n)(h64:n<=64)(h:J b<=n*64)(hb:UO b):UI n (Uy.init n b):=
 ⟨TB h hb,h1,h64,λj hj=>by
  show(R9 64 false).getD j false=false;rw[aM];cases hx:(R9 64 false)[j]? with
  |none=>rfl
  |some b=>exact(List.mem_replicate.1 (az hx)).2⟩
abbrev dsF(K:gb)(bx n b bd:Nat)(s:St)(X:eN)(Z:fv)(U:Uo)(d:Un):List bH:=UP s X.Ad X.cd::UU s X.Ar X.cr::VV K bx n b bd Z U d
structure D6 where
 kd:Int
 n:Int
 at_:Int
 B:Option Addr
 cb:Nat
 bs:List Int
abbrev Yk:eN:=⟨none,0,none,0⟩
abbrev g0D:fv:=⟨none,0,none,0⟩
end
end Go.Ink
