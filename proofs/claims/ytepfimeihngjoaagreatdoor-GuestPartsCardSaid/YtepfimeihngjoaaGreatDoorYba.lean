/- Lemmas. -/
import Derived.Test.YtepfimeihngjoaaGreatDoorYav
import Derived.Test.YtepfimeihngjoaaGreatDoorYaw
import Derived.Test.YtepfimeihngjoaaGreatDoorYax
set_option linter.all false
set_option maxRecDepth 100000
set_option maxHeartbeats 4000000
namespace Go.Ink
open List renaming length→J, replicate→R9
open IntKind renaming wrap→V9
open Go.RowKit Go.Proofs.Tryz
variable{n:Nat}
section
attribute [local irreducible] UL bM
theorem Dg(A:Oa)(c n:Nat)(l:Li)(hn:n<=64)(hl:J l<=n*64)(w:World)(h:Rd w .u8 A (J l) c l):
  Uz prog 68 [.i n,.slice A (J l) c] w [] (λv cs=>∃K,v= .p K.bm/\cs=oM K n (nq n l) (R9 n false)):=by
 refine UB func68 ntmps68 ?_;refine UG ?_;refine UW (λw hi=>GS n hn w) ?_;rintro _ _ ⟨K,rfl,rfl⟩;refine eK ?_;refine QY ?_;rintro _ _ ⟨rfl,rfl⟩;have hd2:(ints .u8 (R9 (n*64) 0)).take 0++(ints .u8 l).take (min (J l) (n*64))++(ints .u8 (R9 (n*64) 0)).drop (0+min (J l) (n*64))=ints .u8 (nq n l):=(by rw[Nat.min_eq_left hl];simp[ints,nq,List.take_of_length_le]);rw[hd2];refine UE ?_;refine Vd ((oM K n (nq n l) (R9 n false))) ?_;exact⟨K,I,I⟩
theorem un(A B:Oa)(c e n:Nat)(l k:Li)(hn:n<=64)(hl:J l<=n*64)(hk:J k<=1024)(w:World)(h:Rd w .u8 A (J l) c l)(hB:Rd w .u8 B (J k) e k):
  Uz prog 15 [Xh A c l B e k n] w [] (λv cs=>∃bg K bx by_ bd,v= .p bg/\cs=row bg (St.new.cells (.slice none 0 0) (.slice none 0 0)++[.p bx,.p by_]) 41::(oM K n (nq n l) (R9 n false)++[fw bx K.bm dA]++eW by_ K.bm bd ⟨none,0,none,0⟩ (Un.init k))):=by
 have H1:=Dg A c n l hn hl;have H3:=λbm w h=>CX bm B e k hk w h
 obtain⟨d,hd⟩:=Uk (Un.init k);obtain⟨data,hda⟩:=Uk (nq n l);obtain⟨tu,htu⟩:=Uk (R9 n false);rw[hd]at H3|-;rw[hda,htu]at H1|-;refine UB func15 ntmps15 ?_;refine py ?_;refine ZO λb1=>?_;refine UE ?_;refine UW (λw hi=>H1 w (h.SS hi)) ?_;rintro _ _ ⟨K,rfl,rfl⟩;refine UW (λw hi=>CY K.bm w) ?_;rintro _ _ ⟨bx,rfl,rfl⟩;refine Ut ?_;refine sS ?_;refine y5 ?_;refine ZE 3 ?_;refine Ld 4 0 ?_;refine ZG 5 ?_;refine Ld 6 1 ?_;refine ZG 7 ?_;refine fS ?_;refine VF (λw hi=>H3 K.bm w (hB.SS hi)) ?_;rintro _ _ ⟨by_,bd,rfl,rfl⟩;refine ZE 9 ?_;refine mh ?_;refine y7 ?_;rintro _ _ ⟨b20,rfl,rfl⟩;refine ZE 11 ?_;refine pI ?_;refine bI (row b20 (St.new.cells (.slice none 0 0) (.slice none 0 0)++[.p bx,.p by_]) 41::(oM K n data tu++[fw bx K.bm dA]++eW by_ K.bm bd ⟨none,0,none,0⟩ d)) Zj (Vd ((row b20 (St.new.cells (.slice none 0 0) (.slice none 0 0)++[.p bx,.p by_]) 41::(oM K n data tu++[fw bx K.bm dA]++eW by_ K.bm bd ⟨none,0,none,0⟩ d))) ?_);exact⟨b20,K,bx,by_,bd,I,I⟩
theorem N8{v k:Nat}(hk:k<8):Int.fdiv (v:Int) (2^(min (Int.toNat (k:Int)) IntKind.u32.bits))=((v/2^k:Nat):Int):=by
 have e:min (Int.toNat (k:Int)) IntKind.u32.bits=k:=by show min (Int.toNat (k:Int)) 32=k;omega
 rw[e,Int.fdiv_eq_ediv_of_nonneg _ (by exact Int.le_of_lt (Int.pow_pos An))];simp
theorem run_v(RZ:List (Ky×RS))(k:Ky):fX (WE RZ) k (.agg #[.slice none 0 0,.bool false])=(fX RZ k RS.zero).v:=yd RS.v RZ k RS.zero
theorem run_r(RZ:List (Ky×RS))(k:Ky):fX (WW RZ) k Rn.zero=(fX RZ k RS.zero).r:=yd RS.r RZ k RS.zero
theorem rnV_put(RZ:List (Ky×RS))(k:Ky)(x:RS):dP (WE RZ) k (.agg x.cells.toArray)=WE (dP RZ k x):=EO RS.v RZ k x
theorem JG(RZ:List (Ky×RS))(k:Ky):fX RZ k RS.zero=RS.zero\/∃y,y∈RZ/\y.2=fX RZ k RS.zero:=by
 unfold fX;cases hf:RZ.find? (λx=>x.1==k)with
 |none=>grind
 |some y=>grind
variable{k:Ky}
theorem xY{β:Type}{L:List (Ky×β)}{v:β}{y:Ky×β}(h:y∈dP L k v):y=(k,v)\/y∈L:=by
 grind [dP,cK]
variable{RZ:List (Ky×RS)}
variable{E:Vk}{b:Li}
theorem LR{y:BA}(h:(E.X.Z.find? λx=>x.key==k)=some y)(hp:(fX E.RZ k RS.zero).r.bytes.isPrefixOf b=true):lB E.eng k b=(some (y.b,(fX E.RZ k RS.zero).r),E.eng):=by
 unfold lB AX;rw[show E.eng.l=E.X.Z.map BA.b from I,FA,h,show E.eng.runs=WW E.RZ from I,run_r]
 grind
theorem PP{o:Option BA}(ho:(E.X.Z.find? λx=>x.key==k)=o)(hp:(o.isSome&&(fX E.RZ k RS.zero).r.bytes.isPrefixOf b)=false):AX E.eng k b=none:=by
 unfold AX;rw[show E.eng.l=E.X.Z.map BA.b from I,FA,ho,show E.eng.runs=WW E.RZ from I,run_r]
 grind
variable{E:Vi}
theorem w7(h:AX E k b=none)(hm:uB k b=none):lB E k b=(none,E):=by
 grind [lB]
variable{t:Wo}{r:Rn}
theorem LQ(h:AX E k b=none)(hm:uB k b=some (t,r)):lB E k b=(some (t,r),Yp E t r):=by
 grind [lB]
variable{l:List (Int×Int)}{sz:Nat}{en:Bool}
theorem KK(hR:cM b 8 0=(l,sz,en))(h:fm k.1 l=none):uB k b=none:=by
 grind [uB]
theorem O4{p:Pg}(hR:cM b 8 0=(l,sz,en))(h:fm k.1 l=some p)(hr:p.SX=false):uB k b=none:=by
 grind [uB]
theorem O3{p:Pg}(hR:cM b 8 0=(l,sz,en))(h:fm k.1 l=some p)(hr:p.SX=true):uB k b=some (⟨k,gh p (dR p),(J l:Int)⟩,⟨b.take sz,en⟩):=by
 grind [uB]
theorem MO(E:Vk)(X':VY)(t:Wo)(x:RS)(hX:X'.Z.map BA.b=ur Wo.key E.room (E.X.Z.map BA.b) t):
  (bif decide ((J X'.Z:Int)<(J (dP E.RZ t.key x):Int))then((E.Tj X').To (oN X'.Z (dP E.RZ t.key x))).eng else((E.Tj X').To (dP E.RZ t.key x)).eng)=Yp E.eng t x.r:=by
 unfold Yp;dsimp only;rw[show E.eng.room=E.room from I,show E.eng.l=E.X.Z.map BA.b from I,show E.eng.runs=WW E.RZ from I,<-hX,<-rnM_put,List.length_map];have e:J (WW (dP E.RZ t.key x))=J (dP E.RZ t.key x):=List.length_map _;rw[e];cases hd:decide ((J X'.Z:Int)<(J (dP E.RZ t.key x):Int))with
 |true=>
  simp only[ah]at hd;rw[ak (show J X'.Z<J (dP E.RZ t.key x) by omega),ae,ae,AW]
  rfl
 |false=>
  simp only[aa]at hd;rw[ao (show¬J X'.Z<J (dP E.RZ t.key x) by omega),ac,ac]
  rfl
theorem run_rd{w:World}(h:(cR (WF RZ)).ok w):Rd w .u8 (fX RZ k RS.zero).A (fX RZ k RS.zero).r.bytes.length (fX RZ k RS.zero).c (fX RZ k RS.zero).r.bytes:=by
 rcases JG RZ k with e|⟨y,hy,e⟩
 .rw[e];exact vS w .u8
 rw[<-e];exact de (qi h (rsC y.2) (List.mem_map.2 ⟨y,hy,I⟩))
def FindR(be:Nat)(o:Option (Wo×Rn))(E':Vk)(v:Value)(cs:List bH):Prop:=∃(y:BA) (x:RS),v= .tuple #[.agg y.cells.toArray,.agg x.cells.toArray,.bool o.isSome]/\cs=VE y::Vr be E'/\∀t r,o=some (t,r)->y.b=t/\x.r=r
variable{s:St}{p:Int}{G:Vi}
theorem NN(h:lB E (s.pc,p) b=(none,G)):jr E s p b=(none,G):=by
 grind [jr]
theorem Jf{s1:St}{how:Int}(h:lB E (s.pc,p) b=(some (t,r),G))(hr:iq t.code s=(s1,how))(hh:(how !=1)=true):jr E s p b=(none,G):=by
 grind [jr]
theorem Je{s1:St}{how:Int}(h:lB E (s.pc,p) b=(some (t,r),G))(hr:iq t.code s=(s1,how))(hh:(how !=1)=false):jr E s p b=(some (s1,r,t.count),{G with last:=(s.pc,p),begun:=true,S9:=V9 .i64 (G.S9+t.count)}):=by
 grind [jr]
theorem NO{E:Vk}{X:VY}(hZ:X.Z=E.X.Z)(k:Ky)(c:Int):(E.toldE X k c).eng={E.eng with last:=k,begun:=true,S9:=V9 .i64 (E.eng.S9+c)}:=by
 show Vi.mk E.room (X.Z.map BA.b) (WW E.RZ) k (V9 .i64 (E.S9+c)) E.S8 true=Vi.mk E.room (E.X.Z.map BA.b) (WW E.RZ) k (V9 .i64 (E.S9+c)) E.S8 true;rw[hZ]
abbrev tF(bu bb:Nat)(L:ez)(s:St)(X:eN)(U:Uo)(be:Nat)(E:Vk):List bH:=UP s X.Ad X.cd::UU s X.Ar X.cr::(uF bu bb L U++Vr be E)
def TransR(bu bb:Nat)(L:ez)(s:St)(U:Uo)(be:Nat)(o:Option (St×Rn×Int))(E':Vk)(v:Value)(cs:List bH):Prop:=match o with
 |none=>∃(X:eN) (x:RS),v= .tuple #[sv s X.Ad X.cd X.Ar X.cr,.agg x.cells.toArray,.i 0]/\cs=tF bu bb L s X U be E'
 |some (o,r,k)=>∃(X:eN) (x:RS),x.r=r/\v= .tuple #[sv o X.Ad X.cd X.Ar X.cr,.agg x.cells.toArray,.i k]/\cs=tF bu bb L o X ⟨U.m.calm,U.t⟩ be E'
variable{p:Nat}{U:Uo}{d:Un}
abbrev Wi(be bu bb:Nat)(L:ez)(D:qK)(s:St)(X:eN)(Y:fv)(U:Uo)(d:Un)(E:Vk):List bH:=Wh bu bb L D s X Y U d++Vr be E
section
variable{n:Nat}{s s1 o:St}{U U1:Uo}{d d1:Un}{E G:Vi}{r:Rn}{c:Int}
theorem doE_no{pl:Int}(h:cF n s U d=⟨s1,pl,false,U1,d1⟩):Wv n s U d E=((s1,U1,d1),{E with S8:=V9 .i64 (E.S8+V9 .i64 (V9 .u64 (s1.count - s.count)))}):=by
 unfold Wv;rw[h]
 rfl
variable{pl:Nat}
theorem P6(h:cF n s U d=⟨s1,(pl:Int),true,U1,d1⟩)(ht:jr E s1 (pl:Int) (iC U1.m pl)=(none,G)):Wv n s U d E=jv n (pl/64) 8 s1 pl U1 d1 G:=by
 unfold Wv;rw[h];simp only[ae,aP];rw[ht]
theorem doE_out(h:cF n s U d=⟨s1,(pl:Int),true,U1,d1⟩)(ht:jr E s1 (pl:Int) (iC U1.m pl)=(some (o,r,c),G))(hc:((r.ends&&decide (0<c))||o.pc/64 !=s1.pc/64)=true):Wv n s U d E=((o,⟨U1.m.calm,U1.t⟩,d1),G):=by
 unfold Wv;rw[h];simp only[ae,aP];rw[ht];dsimp only;rw[hc,ae]
theorem doE_on{m:Nat}(h:cF n s U d=⟨s1,(pl:Int),true,U1,d1⟩)(ht:jr E s1 (pl:Int) (iC U1.m pl)=(some (o,r,c),G))(hm:c=(m:Int))(hc:((r.ends&&decide (0<c))||o.pc/64 !=s1.pc/64)=false):Wv n s U d E=jv n ((pl+J r.bytes)%4294967296/64) (8 - m) o ((pl+J r.bytes)%4294967296) ⟨U1.m.calm,U1.t⟩ d1 G:=by
 unfold Wv;rw[h];simp only[ae,aP];rw[ht];dsimp only;rw[hc,ac,show(8 - c).toNat=8 - m by omega]
theorem Gv(h:Vp n s U d)(hE:gy E)(ht:jr E s (p:Int) (iC U.m p)=(some (o,r,c),G)):Vp n o ⟨U.m.calm,U.t⟩ d/\∃m:Nat,c=(m:Int)/\1<=m/\m<=8:=by
 have hbb:=uw h.u.m p;obtain⟨f1,f2,f3,f4,f5⟩:=qs hE (k:=(s.pc,(p:Int))) hbb;unfold jr at ht;obtain⟨⟨q,E1⟩,hf⟩:=Uk (lB E (s.pc,(p:Int)) (iC U.m p));rw[hf]at f5 ht;dsimp only at f5;cases q with
 |none=>cases ht
 |some tr=>
  obtain⟨t,r⟩:=tr;dsimp only at ht;cases hdone:(iq t.code s).2==1 with
  |false=>rw[hdone]at ht;cases ht
  |true=>
   rw[hdone,ae]at ht;simp only[aD,aW]at ht;obtain⟨⟨h1,h2,h3⟩, -⟩:=ht;obtain⟨p',il,g1,g2,g3,g4,g5,g6,g7⟩:=f5 t r I;obtain⟨M,hM,hout⟩:=EJ hdone;rw[g3]at hM;obtain⟨k1,k2,k3,k4,k5,k6, -, -, -⟩:=Es h.u h.dv h.wf h.right g6 g1 g2 hM;rw[hout]at h1;subst h1;exact⟨⟨k2,k3,⟨h.u.m.calm,h.u.t⟩,h.dv,h.lines⟩,J il,by rw[<-h3,g4],k5,k6⟩
end
abbrev WH(be bu bb:Nat)(L:ez)(D:qK)(Y:fv)(U:Uo)(d:Un)(E:Vk):List bH:=Vq bu bb L D Y U d++Vr be E
end
end Go.Ink
namespace Go.Ink
open List renaming length→J, replicate→R9
open IntKind renaming wrap→V9
open Go.RowKit Go.Proofs.Tryz
section
variable{C:Cx}{fr:Fr}{d:Option Nat}{T:TypeId}{x:Operand}{ty:TypeId}{pos:String}{af:Array Edge}{gd:Option (Nat×Bool)}{g:Bool}
theorem Nz{i:Nat}{fs:Array Field}{f:Field}{vs:List Value}{v:Value}(hT:C.P.underlying T=some (.struct fs))(hf:fs[i]? =some f)(he:∀w,(isAgg f.type).run C.P w= .ok false w)(hx:Ev fr g x (.agg vs.toArray))(hv:vs[f.offset]? =some v):
  UL C ⟨d,.field T x i,ty,pos,af,gd⟩ fr g U4 v:=λa w hfr _ hg=>by
 have h1:=hx.eval hfr hg;have hr:(Instr.field T (.agg vs.toArray) i).run C.P w= .ok v w:=by
  simp[Instr.field,run_underlying hT,hf,asAgg,part,he,hv]
 simp[execOp,h1,hr]
end
variable{o:Int}
variable{L:ez}{k:Cb}
section
attribute [local irreducible] UL bM
def enO(be:Nat):Option Vk->List bH
 |none=>[]
 |some E=>Vr be E
abbrev Bo(H:mY)(G:Vy)(k:Bool):List Value:=[.p H.D.bs,.p H.L.bm,.p H.L.bp,.i (H.L.o:Int),.p H.bu,engV H.be G.o]++(G.s.cells (.slice G.X.Ad (J G.s.d) G.X.cd) (.slice G.X.Ar (J G.s.r) G.X.cr)++[.bool k])
abbrev vV(H:mY)(G:Vy)(k:Bool):bH:=row H.bg (Bo H G k) 81
abbrev UY(H:mY)(G:Vy):List bH:=vV H G false::(Wh H.bu H.bb H.L H.D G.s G.X G.Y G.U G.d++[cR (enO H.be G.o)])
end
end Go.Ink
namespace Go.Ink
open List renaming length→J, replicate→R9
open IntKind renaming wrap→V9
open Go.RowKit Go.Proofs.Tryz
structure zf where
 kd:Int
 n:Int
 v:Int
 at_:Int
 B:Option Addr
 cb:Nat
 bs:List Int
def zf.cells(a:zf):List Value:=[.i a.kd,.i a.n,.w a.v,.w a.at_,.slice a.B (J a.bs) a.cb]
theorem zf.S6(a:zf):J a.cells=5:=rfl
section
attribute [local irreducible] UL bM
theorem pC(A:Oa)(c:Nat)(l:List (Int×Int))(hl:J l<=3)(w:World)(h:UJ w 2 A (J l) c (l.flatMap iP)):Uz prog 24 [.slice A (J l) c] w [] (λv cs=>∃A' c' E,(UO E/\J E<=15)/\v= .slice A' (J E) c'/\cs=[sl .u8 5 A' (J E) c' E]):=
 (Mq A c l O w h).mono (λv cs ⟨A',c',h1,h2⟩=>⟨A',c',BK l,⟨BJ _ _,aR (oH _ _) O⟩,h1,h2⟩)
section
variable{n:Nat}{op nn:Int}{s:St}{U:Uo}{d:Un}{M:Uy}{R:Um}
theorem DJ(h:Vm d)(k:Int)(v:Nat):Vm (bQ n M d k v).2.2:=by
 unfold bQ df
 repeat (first|exact h|exact⟨h.i64⟩|refine bJ (λq:Bool×Uy×Un=>Vm q.2.2) ?_ ?_)
theorem stow_in(h:Vm d)(va v:Nat):Vm (eM n R U d va v).d:=by
 unfold eM;refine bJ (λm:ek=>Vm m.d) h ?_;exact bJ (λm:ek=>Vm m.d) (DJ h _ _) h
theorem OI{m:ek}(h:Vm m.d):Vm (cB n op nn m).d:=by
 unfold cB;refine bJ (λm:ek=>Vm m.d) (lode_in h _) ?_;refine bJ (λm:ek=>Vm m.d) (stow_in h _ _) ?_
 repeat (first|exact h|refine bJ (λm:ek=>Vm m.d) ?_ ?_)
theorem mid_in(h:Vm d):Vm (nw n s op nn U d).d:=by
 unfold nw;cases cV op nn (eV s op)with
 |some R=>exact h
 |none=>exact bJ (λm:ek=>Vm m.d) h (OI h)
theorem do_in(h:Vm d):Vm (lj n s op nn U d).2.2:=by
 unfold lj;refine bJ (λq:Wn×Uo×Un=>Vm q.2.2) h ?_;exact bJ (λq:Wn×Uo×Un=>Vm q.2.2) h (mid_in h)
theorem JM{SR:Nat}:∀(k:Nat) {s:St} {p:Nat} {U:Uo} {d:Un},Vm d->Vm (dO n SR k s p U d).2.2
 |0,s,p,U,d,h=>h
 |k+1,s,p,U,d,h=>by
  unfold dO;cases dI n U.m p with
  |none=>exact h
  |some o=>
   obtain⟨⟨op,nn⟩,z⟩:=o;have hd:=do_in (n:=n) (s:=s) (op:=op) (nn:=nn) (U:=U) h;exact bJ (λq:St×Uo×Un=>Vm q.2.2) (JM k hd) hd
theorem qx(h:Vm d):Vm (cL n s U d).2.2:=by
 unfold cL;dsimp only;exact bJ (λq:St×Uo×Un=>Vm q.2.2) (JM 8 (F5 h)) (F5 h)
end
theorem EL{n:Nat}{m f:Int}:∀(k:Nat) {q:St×Uo×Un},Vm q.2.2->Vm (ju n m f k q).2.2
 |0,q,h=>h
 |k+1,q,h=>by
  unfold ju;exact bJ (λq:St×Uo×Un=>Vm q.2.2) (EL k (qx h)) h
variable{n:Nat}{s:St}{U:Uo}{d:Un}
theorem run_in(m:Int)(h:Vm d):Vm (eH n m s U d).2.2:=EL _ h
def DK:Vw:=⟨St.zero,[],[],[],[],0,0,true⟩
abbrev docF(R:vJ)(n:Nat)(l k:Li):List bH:=row R.bg (St.new.cells (.slice none 0 0) (.slice none 0 0)++[.p R.bx,.p R.by_]) 41::(oM R.K n (nq n l) (R9 n false)++[fw R.bx R.K.bm dA]++eW R.by_ R.K.bm R.bd ⟨none,0,none,0⟩ (Un.init k))
section
variable{n:Nat}{op nn:Int}{s:St}{U:Uo}{d:Un}{M:Uy}{R:Um}
theorem yT(h:d.said)(k:Int)(v:Nat):(bQ n M d k v).2.2.said:=by
 have ha:UO (d.out++[V9 .u8 (v:Int)]):=λx hx=>by
  rcases aK.1 hx with q|q
  .exact h x q
  rw[aQ.1 q];exact tK _
 unfold bQ df
 repeat (first|exact h|exact ha|refine bJ (λq:Bool×Uy×Un=>q.2.2.said) ?_ ?_)
theorem Jx(h:d.said)(va v:Nat):(eM n R U d va v).d.said:=by
 unfold eM;refine bJ (λm:ek=>m.d.said) h ?_;exact bJ (λm:ek=>m.d.said) (yT h _ _) h
theorem G3{m:ek}(h:m.d.said):(cB n op nn m).d.said:=by
 unfold cB;refine bJ (λm:ek=>m.d.said) (KT h _) ?_;refine bJ (λm:ek=>m.d.said) (Jx h _ _) ?_
 repeat (first|exact h|refine bJ (λm:ek=>m.d.said) h ?_)
theorem OV(h:d.said):(nw n s op nn U d).d.said:=by
 unfold nw;cases cV op nn (eV s op)with
 |some R=>exact h
 |none=>exact bJ (λm:ek=>m.d.said) h (G3 h)
theorem Mf(h:d.said):(lj n s op nn U d).2.2.said:=by
 unfold lj;refine bJ (λq:Wn×Uo×Un=>q.2.2.said) h ?_;exact bJ (λq:Wn×Uo×Un=>q.2.2.said) h (OV h)
theorem zZ(SR:Nat):∀(k:Nat) {s:St} (p:Nat) {U:Uo} {d:Un},d.said->(dO n SR k s p U d).2.2.said
 |0,s,p,U,d,h=>h
 |k+1,s,p,U,d,h=>by
  rw[dO];cases dI n U.m p with
  |none=>exact h
  |some q=>
   obtain⟨⟨op,nn⟩,sz⟩:=q;exact bJ (λq:St×Uo×Un=>q.2.2.said) (zZ SR k _ (Mf h)) (Mf h)
theorem Ic(h:d.said):(cL n s U d).2.2.said:=by
 unfold cL;exact bJ (λq:St×Uo×Un=>q.2.2.said) (zZ _ _ _ (xk h)) (xk h)
theorem wE{m f:Int}:∀(k:Nat) {q:St×Uo×Un},q.2.2.said->(ju n m f k q).2.2.said
 |0,q,h=>h
 |k+1,q,h=>by
  unfold ju;exact bJ (λq:St×Uo×Un=>q.2.2.said) (wE k (Ic h)) h
theorem EI(m:Int)(h:d.said):(eH n m s U d).2.2.said:=wE _ h
end
end
end Go.Ink
namespace Go.Ink
open List renaming length→J
open IntKind renaming wrap→V9
open Go.RowKit Go.Proofs.Tryz
variable{x:Value}{T:List TE}{i:Nat}
theorem FU(e:TE)(h:i<J T):(x::dC T).take (1+i*4)++e.cells++(x::dC T).drop (1+i*4+4)=x::dC (T.set i e):=by
 rw[Nat.add_comm 1,List.take_succ_cons,show i*4+1+4=(i*4+4)+1 by omega,List.drop_succ_cons,aF,aF,kZ e h]
theorem Qc{e:TE}(h:T[i]? =some e):(x::dC T)[1+i*4+1]? =some (.w e.vpn):=by
 have h1:=jt h;have h2:(((dC T).drop (i*4)).take 4)[1]? =some (.w e.vpn):=by rw[h1];rfl
 rw[List.getElem?_take,if_pos O,List.getElem?_drop]at h2;rw[show 1+i*4+1=(i*4+1)+1 by omega,List.getElem?_cons_succ];exact h2
theorem Qd{e:TE}(h:T[i]? =some e):((x::dC T).drop (1+i*4)).take 4=e.cells:=by
 rw[Nat.add_comm 1,List.drop_succ_cons];exact jt h
section
attribute [local irreducible] UL bM
theorem GP(bx bm:Nat)(T:List TE)(hT:J T=16)(va:Nat)(hva:va<=4294967295)(kind:Int)(hk:1<=kind/\kind<=3)(Sy:Bool)(w:World)(h:(fw bx bm T).ok w):
  CW prog 207 [.p bx,.w va,.i kind,.bool Sy] w (.tuple #[.w (pf T va kind Sy).1,.bool (pf T va kind Sy).2]):=by
 have hlt:va/64%16<J T:=by omega
 have he:T[va/64%16]? =some (wx T va):=by simp[wx,hlt]
 obtain⟨e,hee⟩:=Uk (wx T va);have h12:=want12 hk (Sy:=Sy);have h33:=want3 Sy;have hno:=G7 (e:=e) (va:=va) (Qr hk Sy);obtain⟨wb,hwb⟩:=Uk (oL kind Sy);have HB:=wJ kind Sy;unfold pf;rw[hee]at he|-;rw[hwb]at HB h12;have h3k:kind=3->oL 3 Sy=wb:=λe=>by subst e;exact hwb
 have h3a:kind=3->(asked 3 Sy)=asked kind Sy:=λe=>by subst e;rfl
 obtain⟨⟨a,ab⟩,ha⟩:=Uk (asked kind Sy);rw[ha]at h12 hno h3a|-;refine UB func207 ntmps207 ?_;refine eK ?_;refine Su ?_;refine Zy (fH (Zv I) (Zv I) O (show _=((va/64%16:Nat):Int)from by rw[aw O];omega)) ?_;refine py ?_;refine YT ?_;refine dW (cj (vs:=e.cells) ir ir ne) (oz (o:=1+(va/64%16)*4) h (Qd he)) I ?_;refine ZN λb10=>?_
 refine iS ?_;refine UD (λw hi=>HB w) ?_;refine sT ?_;refine Us ?_;refine cq (λ_:Unit=>[(0,.p bx),(1,.w (va:Int)),(2,.i kind),(10,.p b10),(11,.w a)]) (λ_=>[row b10 e.cells 92]) (λ_=>True) ?_ ?_
 .refine Ul ?_ ?_<;>intro hc3
  .have hk3:kind=3:=(by simpa using hc3);have hh:=h33;rw[h3k hk3,h3a hk3]at hh;refine py ?_;refine Zy (xA ne ne hh) ?_;refine py ?_;refine UN (()) iF
  have hh:=h12 hc3;dsimp only at hh;rw[hh];refine Zc (UN (()) iF)
 rintro - -;refine eK ?_;refine Wm I I (jW (cU I) (Zv I) O (show _=((va/64:Nat):Int)from by rw[bj O,u32_wrap_id _ O O];omega)) ?_;refine Ut ?_;refine Wm I I (y_lss (cU I) (Zv I) (ao O)) ?_;refine Us ?_;refine Wm I I (XZ (cU I) (Zv I) (ao O)) ?_;refine yZ ?_ ?_<;>intro hc5
 .have hc:kC e va (a,ab)=true:=hno.trans hc5;rw[hc];refine gV ?_;refine UG ?_;exact kV
 have hc:kC e va (a,ab)=false:=hno.trans hc5;rw[hc];refine fy ?_;refine UA ?_;refine Rq ?_;refine kR ?_;refine Uu ?_;exact kV
theorem GQ(bx bm:Nat)(T:List TE)(hT:J T=16)(va:Nat)(hva:va<=4294967295):CI prog 282 [.p bx,.w va] [fw bx bm T] (λx cs=>x= .tuple #[]/\cs=[fw bx bm (ph T va)]):=λw hi=>by
 have hlt:va/64%16<J T:=by omega
 have he:T[va/64%16]? =some (wx T va):=by simp[wx,hlt]
 have hcell:=Qc (x:= .p bm) he;unfold ph;obtain⟨e,hee⟩:=Uk (wx T va);rw[hee]at hcell|-;refine UH func282 ntmps282 hi ?_;refine Us ?_;refine Su ?_;refine Zy (fH (Zv I) (Zv I) O (show _=((va/64%16:Nat):Int)from by rw[aw O];omega)) ?_;refine UE ?_;refine YT ?_;refine Zy (Ec 1 I ne (I)) ?_;refine dW (bL ir ne) (cO Zh hcell) I (ZA ?_);refine Su ?_;refine Vs ?_ ?_<;>intro hc1
 .rw[hc1];refine gV ?_;refine UA ?_;refine YT ?_;refine et (fN (n:=4) (vs:=TE.zero.cells) ir I I (ka I) Za I (by rw[aE,eC];simp only[TE.cells,aE,bC];omega)) ?_;refine Uw ?_;rw[show J TE.zero.cells=4 from I,FU (T:=T) TE.zero hlt];exact Ws
 rw[hc1];refine fy ?_;refine Zc (gK (cs':=[row _ _ _]) (.inr I) Zu I ?_);exact ff
theorem CL(bx bm:Nat)(T:List TE)(hT:J T=16):CI prog 281 [.p bx] [fw bx bm T] (λx cs=>x= .tuple #[]/\cs=[fw bx bm dA]):=λw hi=>by
 refine UH func281 ntmps281 hi ?_;refine py ?_;refine Zy (gY (vs:=dC dA) Zk (.inr ⟨_,_,_,I,λ_=>I⟩)) ?_;refine py ?_;refine et (fN (n:=64) ir I I (ka Zk) Za Zk (by rw[aE,eC,eC,hT];decide)) ?_;refine Uw ?_;rw[show(dC dA).length=64 by kernel_rfl,show(Value.p bm::dC T).take 1=[Value.p bm]from I,List.drop_eq_nil_of_le (by rw[aE,eC,hT];decide),ax];exact Ws
theorem ky(K:gb)(bx n:Nat)(U:Uo)(hM:UI n U.m)(hT:J U.t=16)(pg su:Bool)(root va:Nat)(hr:root<=4294967295)(hva:va<=4294967295)(kind:Int):CI prog 161 [.p bx,.bool pg,.bool su,.w root,.w va,.i kind] (Vc K bx n U) (λv cs=>v= .tuple #[.w (Sz n U ⟨pg,su,root⟩ va kind).1.1,(Sz n U ⟨pg,su,root⟩ va kind).1.2.v]/\cs=Vc K bx n (Sz n U ⟨pg,su,root⟩ va kind).2):=λw hi=>by
 have hn:=hM.n64;obtain⟨fk,hfk⟩:=Uk (UV kind);obtain⟨td,htd⟩:=Uk (SF n U ⟨pg,su,root⟩ va kind);obtain⟨fd,hfd⟩:=Uk (pf U.t va kind su);obtain⟨wd,hwd⟩:=Uk (dw n U.m root va kind su);have hwf:=zy n U.m root va hva kind su;have hwt:=tO n U.m root va kind su;have hwm:=hM.walk root va kind su;have htu:=(pT n U ⟨pg,su,root⟩ va hva kind).1;have HFD:=λhk=>GP bx K.bm U.t hT va hva kind hk su
 have HWD:=JQ K n U.m hM root va hr hva kind su;have htd2:td=bif !pg then(((va:Int),Tr.none),U)else bif fd.2 then((fd.1,Tr.none),U)else bif wd.1.2.SB !=0 then((0,wd.1.2),⟨wd.2,U.t⟩)else((oU wd.1.1.pfn va,wd.1.2),⟨wd.2,zG U.t wd.1.1⟩):=by rw[<-htd,<-hfd,<-hwd];rfl
 rw[hfd]at HFD;rw[hwd]at HWD hwf hwt hwm;rw[htd]at htu;unfold Sz;rw[htd];obtain⟨⟨te,tr⟩,M'⟩:=wd;obtain⟨fp,fb⟩:=fd;simp only at HWD hwf hwt hwm htd2 HFD;refine UH func161 ntmps161 hi ?_;refine Us ?_;refine ZN λb13=>?_
 refine UA ?_;refine ZN λb14=>?_
 refine ZM ?_;refine iR ?_;refine ZW ?_ ?_<;>intro hc2
 .simp only[Bool.or_eq_true,ah]at hc2;rw[Bw O];simp only[beq_self_eq_true,ae];refine Zs (bN (UK [2]) Zk ?_);refine MS ?_;refine Us ?_;exact Ng
 simp only[aY,aa]at hc2;have hk:1<=kind/\kind<=3:=O;rw[show(UV kind==0)=false by(rw[FE hk];simp;omega)];refine fy ?_;refine UG ?_;refine cq (λq:Nat×Uo=>[(0,.p bx),(5,.i kind),(13,.p b13),(14,.p b14),(15,.w (q.1:Int))]) (λq=>Vc K bx n q.2++[row b13 Tr.none.cells 254,row b14 [.i 10,.w (va:Int)] 254]) (λq=>td=(((q.1:Int),Tr.none),q.2)/\q.1<=4294967295) ?_ ?_
 .refine VQ ?_ ?_<;>intro hc5
  .subst hc5;simp only[Bool.not_true,ac]at htd2;refine UA ?_;refine UD (λw hi=>HFD hk w (hi.get Zh)) ?_;refine tH ?_ ?_<;>intro hc7
   .have hb:fb=false:=(by simpa using hc7);subst hb;simp only[ac]at htd2;refine eK ?_;refine U5 (VT K n U.m) (λw hi hin=>HWD w hin) ?_;refine Us ?_;refine ZN λb18=>?_
    refine ZN λb19=>?_
    refine et (cH (vs:=te.cells) ir I I (ka I) Za mJ) ?_;refine Uw ?_;refine et (cH (vs:=tr.cells) ir I I (ka I) Za mJ) ?_;refine Uw ?_;refine oI ?_ ?_<;>intro hc9
    .rw[hc9]at htd2;simp only[ae]at htd2;rw[htd2];simp only[hc9,ae];refine Zs (bN (UK [2]) Zk ?_);refine MS ?_;refine Uu ?_;exact bI (Vc K bx n ⟨M',U.t⟩++[row b13 tr.cells 254]) Zj Ng
    rw[hc9]at htd2;simp only[ac]at htd2;obtain⟨e1,e2,e3⟩:=hwt (by simpa using hc9);rw[e1]at htd2;have hlt:va/64%16<J U.t:=O;have hfl:zG U.t te=U.t.set (va/64%16) te:=(by unfold zG;rw[e2,e3];rfl);rw[hfl]at htd2;rw[htd2]at htu;obtain⟨pp,hpp⟩:∃m:Nat,oU te.pfn va=m:=ai htu.1;rw[hpp]at htd2 htu;dsimp only at htu;refine Us ?_;refine bN (UK [8]) Zk (Il ?_);have e3':te.vpn=((va/64:Nat):Int):=e3;refine UF 3 I (fH (Zv I) (Zv I) O (show _=((va/64%16:Nat):Int)from by rw[e3',aw O];omega)) ?_;refine ZI 4 ?_;refine ZE 5 ?_;refine Ld 6 1 ?_;refine UF 7 I (dc (j:=(va/64%16)) (sz:=4) (r:=1+(va/64%16)*4) I ir (Zv I) (Zv I) Uq Uq O) ?_;refine fS ?_;refine ft I I (fN (n:=4) (vs:=te.cells) ir I I (ka I) Za I (by rw[aE,eC];simp only[TE.cells,aE,bC];omega)) ZJ ?_;refine Uw ?_;rw[show J te.cells=4 from I,FU (T:=U.t) te hlt];refine fe ?_;refine Ut ?_;refine Rq ?_;refine Zy (dr (Zv I) (Zv I) (show _=(pp:Int)from hpp)) ?_;refine Ux ?_;refine UN ((pp,⟨M',U.t.set (va/64%16) te⟩)) ⟨htd2,by have:=htu.2;omega⟩
   have hb:fb=true:=(by simpa using hc7);subst hb;simp only[ae]at htd2;rw[htd2]at htu;obtain⟨fp,rfl⟩:∃m:Nat,fp=m:=ai htu.1;refine UA ?_;refine UN ((fp,U)) ⟨htd2,by have:(fp:Int)<=_:=htu.2;omega⟩
  subst hc5;simp only[Bool.not_false,ae]at htd2;refine Zc (UN ((va,U)) ⟨htd2,hva⟩)
 rintro⟨p,U'⟩ ⟨hq,hp⟩;dsimp only at hq hp|-;rw[hq];have hcz:(Tr.none.SB !=0)=false:=rfl;simp only[hcz,ac];have hpc:=G1 n p kind;refine UG ?_;refine YL ?_;refine tH ?_ ?_<;>intro hc14
 .rw[hpc.symm.trans hc14];refine gV ?_;refine Uu ?_;refine iz ?_;exact Ng
 rw[hpc.symm.trans hc14];refine fy ?_;refine Us ?_;refine bN (UK [2]) Zk (MS ?_);refine py ?_;exact Ng
variable{n v p:Nat}
theorem FQ(h:nU n v (p:Int))(hn:n<=64):(decide ((32768:Int)<=(p:Int))&& !decide (p+1<=n*64))=iv (p:Int):=by
 cases hd:iv (p:Int)with
 |true=>
  unfold iv at hd;simp only[aC,ah]at hd;rw[ak hd.1,ao (show¬(p+1<=n*64) by omega)]
  rfl
 |false=>
  have:=pz hd h;rw[ao (show¬((32768:Int)<=(p:Int)) by omega)]
  rfl
theorem r7(K:gb)(bx n:Nat)(U:Uo)(hM:UI n U.m)(hT:J U.t=16)(pg su:Bool)(root va k:Nat)(hr:root<=4294967295)(hva:va<=4294967295)(hk1:1<=k)(hk4:k<=4)(kind:Int):CI prog 332 [.p bx,.bool pg,.bool su,.w root,.w va,.i k,.i kind] (Vc K bx n U) (λv cs=>∃A c,v= .tuple #[.slice A (SM n U ⟨pg,su,root⟩ va k kind).1.1.length c,(SM n U ⟨pg,su,root⟩ va k kind).1.2.v]/\cs=Vc K bx n (SM n U ⟨pg,su,root⟩ va k kind).2++[sl .u32 32 A (SM n U ⟨pg,su,root⟩ va k kind).1.1.length c (SM n U ⟨pg,su,root⟩ va k kind).1.1]):=λw hi=>by
 have hn:=hM.n64;have HP1:=ky K bx n U hM hT pg su root va hr hva kind;have hl1:=pt n U ⟨pg,su,root⟩ va kind;have hM1:=hM.Sz ⟨pg,su,root⟩ va kind (hM.walk _ _ _ _);have hf1:=eU n U ⟨pg,su,root⟩ va hva kind;have ht1:=gq n U ⟨pg,su,root⟩ va kind;obtain⟨p1,hp1⟩:=Uk (Sz n U ⟨pg,su,root⟩ va kind);unfold SM;rw[hp1]at HP1 hl1 hM1 hf1 ht1|-;rw[hT]at hl1;have HP2:=ky K bx n p1.2 hM1 hl1 pg su root (cT va) hr (jf va) kind;have hM2:=hM1.Sz ⟨pg,su,root⟩ (cT va) kind (hM1.walk _ _ _ _);have hf2:=eU n p1.2 ⟨pg,su,root⟩ (cT va) (jf va) kind;have ht2:=gq n p1.2 ⟨pg,su,root⟩ (cT va) kind;obtain⟨p2,hp2⟩:=Uk (Sz n p1.2 ⟨pg,su,root⟩ (cT va) kind);unfold xO xN;rw[hp2]at HP2 hM2 hf2 ht2|-;obtain⟨⟨a1,tr1⟩,U1⟩:=p1;obtain⟨⟨a2,tr2⟩,U2⟩:=p2;simp only at HP1 HP2 hM1 hM2 hf1 hf2 ht1 ht2|-;obtain⟨a1,rfl⟩:∃m:Nat,a1=m:=ai hf1.1.1;obtain⟨a2,rfl⟩:∃m:Nat,a2=m:=ai hf2.1.1;have hu1:(a1:Int)<=4294967295:=hf1.1.2;have hu2:(a2:Int)<=4294967295:=hf2.1.2;refine UH func332 ntmps332 hi ?_;refine Us ?_;refine ZN λb15=>?_
 refine iR ?_;refine cG I ((by rw[ao (show¬(k:Int)<1 by omega),ao (show¬(4:Int)<k by omega)];rfl)) (eK ?_);refine U5 (Vc K bx n U) (λw hi hin=>HP1 w hin) ?_;refine Us ?_;refine ZN λb17=>?_
 refine ZA ?_;refine et (cH (vs:=tr1.cells) ir I I (ka I) Za mJ) ?_;refine Uw ?_;refine oI ?_ ?_<;>intro hc4
 .rw[hc4];refine gV ?_;refine Zs (bN (UK [2]) Zk ?_);refine xG 32 1 (MS ?_);refine Us ?_;exact bI (Vc K bx n U1++[V8 b15 tr1,slv 32 1 none 0 0 []]) Zj Rs
 rw[hc4];refine fy ?_;have hz1:tr1.SB=0:=(by simpa using hc4);obtain rfl:=ht1 hz1;have hP1:=hf1.2 I;refine Uu ?_;refine Su ?_;refine Zy (dr (Zv I) (Zv I) (show _=((va/64+1:Nat):Int)from(u32_wrap_id _ O O).trans O)) ?_;refine Zy (fL (Zv I) (Zv I) (show _=((cT va:Nat):Int)from by rw[au];unfold cT;omega)) ?_;refine UA ?_;refine Zy (fH (Zv I) (Zv I) O (show _=((va%64:Nat):Int)from by rw[aw O];omega)) ?_;refine Zy (eA (Zv I) (Zv I) (show _=((64 - va%64:Nat):Int)from(u32_wrap_id _ O O).trans O)) ?_;refine sO ?_;refine UG ?_;refine cq (λq:Nat×Uo=>[(0,.p bx),(4,.w (va:Int)),(5,.i (k:Int)),(15,.p b15),(16,.w (a1:Int)),(18,.w (cT va:Nat)),(19,.i ((64 - va%64:Nat):Int)),(20,.w (q.1:Int))]) (λq=>Vc K bx n q.2++[V8 b15 Tr.none]) (λq=>(bif decide (((64 - va%64:Nat):Int)<(k:Int))then bif tr2.SB !=0 then((([]:Li),tr2),U2)else dh a1 a2 va k tr2 U2 else dh a1 0 va k Tr.none U1)=dh a1 q.1 va k Tr.none q.2/\q.1<=4294967295/\(((64 - va%64:Nat):Int)<(k:Int)->nU n (cT va) (q.1:Int))) ?_ ?_
 .refine Vl ?_ ?_<;>intro hc9
  .have hsm:(bif decide (((64 - va%64:Nat):Int)<(k:Int))then bif tr2.SB !=0 then((([]:Li),tr2),U2)else dh a1 a2 va k tr2 U2 else dh a1 0 va k Tr.none U1)=bif tr2.SB !=0 then((([]:Li),tr2),U2)else dh a1 a2 va k tr2 U2:=by rw[hc9];rfl
   refine UG ?_;refine U5 (Vc K bx n U1) (λw hi hin=>HP2 w hin) ?_;refine Ut ?_;refine et (cH (vs:=tr2.cells) ir I I (ka I) Za mJ) ?_;refine Uw ?_;refine VM ?_ ?_<;>intro hc11
   .rw[hsm,hc11];refine gV ?_;refine Zs (bN (UK [2]) Zk ?_);refine xG 32 1 (MS ?_);refine Us ?_;exact bI (Vc K bx n U2++[V8 b15 tr2,slv 32 1 none 0 0 []]) Zj Rs
   have hz2:tr2.SB=0:=(by simpa using hc11);obtain rfl:=ht2 hz2;have hP2:=hf2.2 I;refine Zc (UN ((a2,U2)) ⟨hsm.trans (by rw[hc11];rfl),by omega,λ_=>hP2⟩)
  have hsm:(bif decide (((64 - va%64:Nat):Int)<(k:Int))then bif tr2.SB !=0 then((([]:Li),tr2),U2)else dh a1 a2 va k tr2 U2 else dh a1 0 va k Tr.none U1)=dh a1 0 va k Tr.none U1:=by rw[hc9];rfl
  refine Zc (UN ((0,U1)) ⟨hsm,ay _,λh=>by rw[ak h]at hc9;cases hc9⟩)
 rintro⟨b2,U'⟩ ⟨hq,hb2,hP2⟩;dsimp only at hq hb2 hP2;rw[hq];dsimp only;refine py ?_;refine dg 32 1 (eK ?_);refine UX (λq:Nat×Option Addr×Nat=>[(0,.p bx),(4,.w (va:Int)),(5,.i (k:Int)),(15,.p b15),(16,.w (a1:Int)),(18,.w (cT va:Nat)),(19,.i ((64 - va%64:Nat):Int)),(20,.w (b2:Int)),(21,.slice q.2.1 (J (iU a1 b2 va q.1)) q.2.2),(22,.i (q.1:Int))]) (λq=>Vc K bx n U'++[V8 b15 Tr.none,sl .u32 32 q.2.1 (J (iU a1 b2 va q.1)) q.2.2 (iU a1 b2 va q.1)]) (λq=>q.1<=k/\(0<q.1->iv (a1:Int)=false)/\(((64 - va%64:Nat):Int)<(q.1:Int)->iv (b2:Int)=false)) (λq=>k - q.1) ((0,none,0)) ⟨ay _,λh=>absurd h An,λh=>absurd h (show¬(((64 - va%64:Nat):Int)<0) by omega)⟩ ?_;rintro⟨j,A1,c1⟩ ⟨hj,hd1,hd2⟩;dsimp only at hj hd1 hd2|-;refine V1 ?_ ?_<;>intro hc15
 .simp only[ah]at hc15;have hle:=tX a1 b2 va j;have hjk:j<k:=O;refine UG ?_;refine BU ?_;refine kR ?_;refine Ux ?_;refine cq (λr:Nat×Nat=>[(0,.p bx),(4,.w (va:Int)),(5,.i (k:Int)),(15,.p b15),(16,.w (a1:Int)),(18,.w (cT va:Nat)),(19,.i ((64 - va%64:Nat):Int)),(20,.w (b2:Int)),(21,.slice A1 (J (iU a1 b2 va j)) c1),(22,.i (j:Int)),(23,.w (iA a1 b2 va j)),(24,.w (r.1:Int)),(25,.w (r.2:Int))]) (λr=>Vc K bx n U'++[V8 b15 Tr.none,sl .u32 32 A1 (J (iU a1 b2 va j)) c1 (iU a1 b2 va j)]) (λr=>r.2<=4294967295/\((j<64 - va%64/\r.1=va/\r.2=a1/\nU n va (r.2:Int))\/(64 - va%64<=j/\r.1=cT va/\r.2=b2/\nU n (cT va) (r.2:Int)))) ?_ ?_
  .refine Vl ?_ ?_<;>intro hc18
   .simp only[ah]at hc18;have hge:64 - va%64<=j:=O;have he:iA a1 b2 va j=V9 .u32 ((b2:Int)+((j - (64 - va%64):Nat):Int)):=by(unfold iA;rw[ao O];rfl)
    refine Ut ?_;refine Zy (eA (Zv I) (Zv I) (show _=((j - (64 - va%64):Nat):Int)from(aN _ ⟨by omega,by omega⟩).trans O)) ?_;refine BU ?_;refine Zy (dr (Zv I) (Zv I) (show _=iA a1 b2 va j from he.symm)) ?_;refine UA ?_;refine UN ((cT va,b2)) ⟨hb2,.inr ⟨hge,I,I,hP2 O⟩⟩
   simp only[aa]at hc18;have hlt:j<64 - va%64:=O;have he:iA a1 b2 va j=V9 .u32 ((a1:Int)+(j:Int)):=by(unfold iA;rw[ak O];rfl)
   rw[<-he];refine Zc (UN ((va,a1)) ⟨by omega,.inl ⟨hlt,rfl,rfl,hP1⟩⟩)
  rintro⟨wa,at_⟩ ⟨hat,hor⟩;dsimp only at hat hor|-;have hdc:(decide ((32768:Int)<=(at_:Int))&& !decide (at_+1<=n*64))=iv (at_:Int):=(by rcases hor with⟨_,_,_,h⟩|⟨_,_,_,h⟩;exact FQ h hn;exact FQ h hn);refine gX ?_;refine Wl I I (cA I I (cU I) (u64_wrap_id _ O O)) ?_;refine dx (bP I I) (.cons (cU I) (.cons (cU I) (.cons (Zv I) .nil))) (λ_ _=>I) (λhg w hi=>lT K n hn at_ 1 O An w (hi.get Zh)) I (Wj ?_ ?_)<;>intro hc20
  .have hdv:=hdc.symm.trans hc20;have hse:dh a1 b2 va k Tr.none U'=(([],⟨10,wa⟩),U'):=(by rcases hor with⟨h1,rfl,rfl,_⟩|⟨h1,rfl,rfl,_⟩;exact xM hdv _ _ _ _ _;exact vR (hd1 O) hdv O _ _);rw[hse];refine py ?_;refine dg 32 1 (Us ?_);refine ZM ?_;refine UE ?_;exact bI (Vc K bx n U'++[V8 b15 ⟨10,wa⟩,slv 32 1 none 0 0 []]) Zj Rs
  have hdv:=hdc.symm.trans hc20;refine Uu ?_;refine jP ?_;rintro _ _ ⟨b111,rfl,rfl⟩;refine gJ (cu (e:=32) (sz:=1) (bytes:=4) I I Za I I (λw hi=>hi.rd (Ur (slv 32 1 (sA b111) 1 1 [.w (iA a1 b2 va j)]))) (ka I) gI O) I ?_;rintro _ _ ⟨A2,c2,rfl,rfl⟩;rw[show(iU a1 b2 va j).length+1=J (iU a1 b2 va (j+1)) by(rw[oc];simp),show ints .u32 (iU a1 b2 va j)++[Value.w (iA a1 b2 va j)]=ints .u32 (iU a1 b2 va (j+1)) by(rw[oc];exact bY _ [_])];refine UA ?_;refine WR ?_;refine UN ((j+1,A2,c2)) ⟨⟨by show j+1<=k;omega,λ_=>(by rcases hor with⟨h1,rfl,rfl,_⟩|⟨h1,rfl,rfl,_⟩;exact hdv;exact hd1 O),λh=>(by rcases hor with⟨h1,rfl,rfl,_⟩|⟨h1,rfl,rfl,_⟩;(exfalso;dsimp only at h;omega);exact hdv)⟩,by show k - (j+1)<k - j;omega⟩
 simp only[aa]at hc15;obtain rfl:j=k:=O;rw[Cs (hd1 O) hd2];refine eK ?_;refine kQ ?_;exact bI (Vc K bx n U'++[V8 b15 Tr.none,sl .u32 32 A1 (J (iU a1 b2 va j)) c1 (iU a1 b2 va j)]) Zj Rs
theorem GN(K:gb)(bx n:Nat)(U:Uo)(hM:UI n U.m)(hT:J U.t=16)(pg su:Bool)(root va k:Nat)(hr:root<=4294967295)(hva:va<=4294967295)(hk1:1<=k)(hk4:k<=4):CI prog 276 [.p bx,.bool pg,.bool su,.w root,.w va,.i k] (Vc K bx n U) (λv cs=>v= .tuple #[.w (iN n U ⟨pg,su,root⟩ va k).1.1,(iN n U ⟨pg,su,root⟩ va k).1.2.v]/\cs=Vc K bx n (iN n U ⟨pg,su,root⟩ va k).2):=λw hi=>by
 have hn:=hM.n64;have HS:=r7 K bx n U hM hT pg su root va k hr hva hk1 hk4 2;have hM2:=hM.SM ⟨pg,su,root⟩ va k 2;have hin0:=nj (n:=n) (U:=U) (s:=⟨pg,su,root⟩) (va:=va) (k:=k) hn hva (kind:=2) hk4;have hlen0:=lP (n:=n) (U:=U) (s:=⟨pg,su,root⟩) (va:=va) (k:=k) (kind:=2);unfold iN;obtain⟨sp,hsp⟩:=Uk (SM n U ⟨pg,su,root⟩ va k 2);rw[hsp]at HS hin0 hlen0 hM2|-;obtain⟨⟨l,tr⟩,U'⟩:=sp;simp only at HS hin0 hlen0 hM2|-;have hdl:=hM2.m.dl;have hdb:=hM2.m.db;refine UH func276 ntmps276 hi ?_;refine Us ?_;refine ZN λb13=>?_
 refine eK ?_;refine dE (Vc K bx n U) (λw hi hin=>HS w hin) ?_;rintro _ _ ⟨A1,c1,rfl,rfl⟩;refine Us ?_;refine ZN λb15=>?_
 refine BY ?_;refine Uw ?_;refine jG ?_;refine UX (λj:Nat=>[(0,.p bx),(13,.p b13),(14,.slice A1 (J l) c1),(15,.p b15),(16,.w (ef U'.m.data (l.take j))),(17,.i (j:Int))]) (λ_=>Vc K bx n U'++[sl .u32 32 A1 (J l) c1 l,V8 b13 Tr.none,V8 b15 tr]) (λj=>j<=J l) (λj=>J l - j) (0) (ay _) ?_;rintro j hj;refine VM ?_ ?_<;>intro hc4
 .simp only[ah]at hc4;have hil:j<J l:=O;have hrange:=hin0 _ (List.getElem_mem hil);refine Q4 ?_;rintro⟨ba,rfl⟩;obtain⟨an,han⟩:=ai hrange.1;have hup:=C7 hdb (show J l<=4 by omega) hil han;have hg:=fF hdb an;refine Ut ?_;refine sS ?_;refine sU ?_;refine ZG 4 ?_;refine ZE 5 ?_;refine Ld 6 0 ?_;refine ZG 7 ?_;refine ZE 8 ?_;refine ZE 9 ?_;refine UF 10 I (bW (j:=j) (sz:=1) (r:=j) I ir (Zv I) (Zv I) Uq Uq O) ?_;refine US 11 I (bL ir (Zv I)) (cN Zh (show(ints .u32 l)[j]? =some (.w (an:Int))from by rw[<-han];exact lh hil)) ?_;refine UF 12 I (bW (j:=an) (sz:=1) (r:=an) I ir (Zv I) (Zv I) Uq Uq O) ?_;refine US 13 I (bL ir (Zv I)) (cN Zh (bX (sK (show an<J U'.m.data by omega)))) ?_;refine UF 14 I (cA I I (Zv I) (u32_wrap_id _ O O)) ?_;refine ZE 15 ?_;refine UF 16 I (cA I I (Zv I) (show _=(j:Int)from by first|exact u64_wrap_id _ O O|exact uint_wrap_id _ O O)) ?_;refine UF 17 I (fL (Zv I) (Zv I) (show _=((8*j:Nat):Int)from(u64_wrap_id _ O O).trans O)) ?_;refine UF 18 I (tI (Zv I) (Zv I) O (show _=V9 .u32 (gB U'.m.data an*2^(8*j))from by rw[minU (show 8*j<=31 by omega)])) ?_;refine UF 19 I (xA ne ne hup) ?_;refine ZE 20 ?_;refine fe ?_;refine fZ ?_;refine UN (j+1) ⟨by omega,by omega⟩
 simp only[aa]at hc4;obtain rfl:j=J l:=O;rw[List.take_length];refine UA ?_;refine QH ?_;exact bI (Vc K bx n U'++[V8 b13 tr]) Zj Ng
theorem CC(K:gb)(bx n:Nat)(U:Uo)(hM:UI n U.m)(hT:J U.t=16)(pg su:Bool)(root va k:Nat)(v:Int)(hr:root<=4294967295)(hva:va<=4294967295)(hk1:1<=k)(hk4:k<=4):CI prog 277 [.p bx,.bool pg,.bool su,.w root,.w va,.w v,.i k] (Vc K bx n U) (λx cs=>x=(ja n U ⟨pg,su,root⟩ va k v).1.v/\cs=Vc K bx n (ja n U ⟨pg,su,root⟩ va k v).2):=λw hi=>by
 have hn:=hM.n64;have HS:=r7 K bx n U hM hT pg su root va k hr hva hk1 hk4 3;have hM2:=hM.SM ⟨pg,su,root⟩ va k 3;have hin0:=nj (n:=n) (U:=U) (s:=⟨pg,su,root⟩) (va:=va) (k:=k) hn hva (kind:=3) hk4;have hlen0:=lP (n:=n) (U:=U) (s:=⟨pg,su,root⟩) (va:=va) (k:=k) (kind:=3);unfold ja;obtain⟨sp,hsp⟩:=Uk (SM n U ⟨pg,su,root⟩ va k 3);rw[hsp]at HS hin0 hlen0 hM2|-;obtain⟨⟨l,tr⟩,U'⟩:=sp;simp only at HS hin0 hlen0 hM2|-;refine UH func277 ntmps277 hi ?_;refine py ?_;refine ZN λb14=>?_;refine eK ?_;refine dE (Vc K bx n U) (λw hi hin=>HS w hin) ?_;rintro _ _ ⟨A1,c1,rfl,rfl⟩;refine Us ?_;refine ZN λb16=>?_
 refine BY ?_;refine Uw ?_;refine UE ?_;refine UX (λj:Nat=>[(0,.p bx),(5,.w v),(14,.p b14),(15,.slice A1 (J l) c1),(16,.p b16),(17,.i (j:Int))]) (λj=>Vc K bx n ⟨SZ U'.m l v j,U'.t⟩++[sl .u32 32 A1 (J l) c1 l,V8 b14 Tr.none,V8 b16 tr]) (λj=>j<=J l/\UI n (SZ U'.m l v j)) (λj=>J l - j) (0) ⟨ay _,hM2⟩ ?_;rintro j ⟨hj,hMj⟩;refine VM ?_ ?_<;>intro hc3
 .simp only[ah]at hc3;have hil:j<J l:=O;have hrange:=hin0 _ (List.getElem_mem hil);refine Q4 ?_;rintro⟨ba,rfl⟩;obtain⟨an,han⟩:=ai hrange.1;have hgd:(l.getD j 0).toNat=an:=by(rw[aM,aj hil];simp only[Option.getD_some,han];omega)
  have hpt:SZ U'.m l v (j+1)=(SZ U'.m l v j).put an (mj v j):=by rw[SZ,hgd]
  refine Ut ?_;refine bN (UK [14]) Zk (rK ?_);refine sP ?_;refine UF 6 I (bW (j:=j) (sz:=1) (r:=j) I ir (Zv I) (Zv I) Uq Uq O) ?_;refine US 7 I (bL ir (Zv I)) (cN Zh (show(ints .u32 l)[j]? =some (.w (an:Int))from by rw[<-han];exact lh hil)) ?_;refine ZE 8 ?_;refine ZE 9 ?_;refine UF 10 I (cA I I (Zv I) (show _=(j:Int)from by first|exact u64_wrap_id _ O O|exact uint_wrap_id _ O O)) ?_;refine UF 11 I (fL (Zv I) (Zv I) (show _=((8*j:Nat):Int)from(u64_wrap_id _ O O).trans O)) ?_;refine UF 12 I (jH (Zv I) (Zv I) O I) ?_;refine UF 13 I (cA I I (Zv I) (ki v (show j<4 by omega))) ?_;refine cQ 14 Zk (rH (VT K n (SZ U'.m l v j)) (λw hi hin=>jw K n (SZ U'.m l v j) hMj an O (mj v j) w hin) ?_);refine Uw ?_;refine fe ?_;refine fZ ?_;refine r8 (j+1) ?_ ?_ ?_
  .exact⟨⟨by omega,by rw[hpt];exact hMj.put O (ku v j)⟩,by omega⟩
  .exact XK
  exact(show zh _ _ from by rw[hpt];exact Zj)
 simp only[aa]at hc3;obtain rfl:j=J l:=O;refine UG ?_;refine kQ ?_;exact bI (Vc K bx n ⟨SZ U'.m l v (J l),U'.t⟩++[V8 b14 tr]) Zj (mz (cs':=[row _ _ _,row _ _ _,slv _ _ _ _ _ _,slv _ _ _ _ _ _]) (.inl I) Zu I I Zh ir ir ff)
end
end Go.Ink
