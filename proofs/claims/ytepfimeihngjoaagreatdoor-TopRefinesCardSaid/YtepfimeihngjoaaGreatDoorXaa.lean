/- Lemmas. -/
import Derived.WalkKit
import Derived.WalkSpells
import Derived.WalkLawsBesides
import Derived.OrdersHeld
import Derived.Deep.RegionHeld3
import Derived.Maps.AppendAt
import Derived.Lib.SliceRun
import Derived.ProofKit
import Derived.SizedLaws
import Derived.Carry
import Derived.Below
import Derived.Laws.BytesArg
import Derived.Laws.OwnMore
import Derived.Laws.Strings
import Derived.Laws.IdiomCopy
set_option linter.all false
set_option maxRecDepth 100000
set_option maxHeartbeats 4000000
namespace Go.Ink
theorem I.{u}{α:Sort u}{a:α}:a=a:=rfl
open List renaming length→J, replicate→R9
open IntKind renaming wrap→V9
abbrev aa:=@decide_eq_false_iff_not
abbrev ac:=@cond_false
abbrev ah:=@cond_true
abbrev ai:=@decide_eq_true_eq
abbrev aj:=@Int.eq_ofNat_of_zero_le
abbrev ak:=@List.getElem?_eq_getElem
abbrev ao:=@decide_eq_false
abbrev ap:=@decide_eq_true
abbrev aq:=@Int.tmod_eq_emod_of_nonneg
abbrev ar:=@List.length_append
abbrev au:=@IntKind.wrap_u32
abbrev aw:=@List.append_assoc
abbrev ax:=@Nat.zero_le
abbrev ay:=@Bool.and_eq_true
abbrev az:=@List.length_replicate
abbrev aB:=@Prod.mk.injEq
abbrev aC:=@List.getElem?_eq_some_iff
abbrev aD:=@List.append_nil
abbrev aE:=@List.length_cons
abbrev aF:=@Option.some.inj
abbrev aG:=@List.mem_of_getElem?
abbrev aI:=@List.mem_cons
abbrev aJ:=@List.mem_append
abbrev aK:=@Nat.le_refl
abbrev aL:=@List.Sublist.refl
abbrev aM:=@List.mem_of_mem_take
abbrev aN:=@Nat.le_trans
abbrev aO:=@List.length_take
abbrev aP:=@IntKind.wrap_u64
abbrev aQ:=@IntWalk.i64_in
abbrev aR:=@List.nil_append
abbrev aS:=@List.getD_eq_getElem?_getD
abbrev aU:=@List.cons_append
abbrev aV:=@Int.toNat_natCast
abbrev aW:=@List.mem_cons_of_mem
abbrev aX:=@List.mem_singleton
abbrev aY:=@List.mem_nil_iff
abbrev aZ:=@Bool.or_eq_false_iff
abbrev bh:=@Option.some.injEq
abbrev bj:=@Bool.false_or
abbrev bl:=@Int.tdiv_eq_ediv_of_nonneg
abbrev bn:=@List.mem_cons_self
abbrev bo:=@Bool.false_and
abbrev bz:=@Bool.true_and
abbrev bA:=@Bool.or_true
abbrev bC:=@Nat.zero_add
abbrev bD:=@List.length_nil
abbrev bE:=@List.mem_of_mem_drop
abbrev bF:=@beq_eq_false_iff_ne
abbrev bG:=@Bool.true_or
abbrev bH:=@Bool.and_false
abbrev bI:=@IntKind.wrap_i64
open Go.RowKit
@[match_pattern]abbrev _root_.Go.Value.p(b:Nat):Value:=.pointer (some ⟨b,0,none⟩)
@[match_pattern]abbrev _root_.Go.Value.i(n:Int):Value:=.int .i64 n
@[match_pattern]abbrev _root_.Go.Value.w(n:Int):Value:=.int .u32 n
@[match_pattern]abbrev _root_.Go.Lit.i(n:Int):Lit:=.int .i64 n
@[match_pattern]abbrev _root_.Go.Lit.w(n:Int):Lit:=.int .u32 n
@[match_pattern]abbrev sA(b:Nat):Option Addr:=some ⟨b,0,none⟩
abbrev Li:=List Int
abbrev Oa:=Option Addr
structure Ld(Q:Prop):Prop where
 h:Q
section
variable{P:Prop}
theorem Wx0_(h:P:=by refine⟨?_,I⟩;simp only[gL,jY,di, *,ah,ac,bG,bj,bA,bz,bo,Bool.and_true,bH]<;>first|rfl|(simp[*])):P:=h
theorem Vm(h:P:=by simp only[bU,dp, *,ah,ac]<;>exact I):P:=h
theorem Wx2_(h:P:=by refine Vd ((⟨i+1,A3,c3,o++E⟩:Nat×Option Addr×Nat×List Int)) ⟨⟨show i+1<=60 by omega,nk ho1 hE1,show(o++E).length<=15*(i+1) by rw[ar];omega⟩,show 60 - (i+1)<60 - i by omega⟩):P:=h
theorem YO(h:P:=by refine Wq9 ?_;refine⟨A1,c1,A2,c2,?_,I⟩;clear h;exact wE):P:=h
theorem VR(h:P:=by refine fS ?_;refine⟨⟨_,I,?_⟩,I⟩;exact wq):P:=h
theorem Xb(h:P:=by refine⟨?_,I⟩;simp only[fV,kk, *,ah,ac]<;>rfl):P:=h
theorem Wx6_(h:P:=by simp only[ai]at hc16;have hkl:k<J f9:=O;obtain⟨i,hx⟩:∃i,f9[k]? =some i:=⟨_,ak hkl⟩;obtain⟨n,rfl,hn⟩:=hfx i (aG hx);rw[jL hx]at hP;have hP:qn (V9 .u32 (J l9:Int)) (f9.drop (k+1)) (m.set n ((m.getD n HI.zero).imm' (V9 .u32 (J l9:Int))))=B9:=hP;refine UU ?_;refine eU (λw hi=>iu (hi.get (UJ (W7 Al cl m))) O) (λh1=>?_);refine eU (λw hi=>dA (hi.get (UJ (sl .i64 3 Af (J f9) cf f9))) O) (λh2=>?_);obtain⟨ba,rfl⟩:=h1;obtain⟨bf,rfl⟩:=h2;refine GA ?_;refine dZ (bO ir py) (yI Zh (cw hx)) I (UN ?_);refine bQ (Vg [13]) Zk (lO ?_);refine UE 2 17 ?_;refine wP ?_;refine ZE 6 ?_;refine UE 7 17 ?_;refine wT ?_;refine Wq192 ?_;refine UR ?_;refine Wq456 ?_;refine Vd ((⟨k+1,m.set n ((m.getD n HI.zero).imm' (V9 .u32 (J l9:Int)))⟩:Nat×List HI)) bZ):P:=h
theorem Wd(h:P:=by refine fS ?_;refine⟨⟨_,I,?_⟩,I⟩;exact Ae):P:=h
theorem Wx8_(h:P:=by refine cP 11 Zk (zZ ?_);refine Vz ?_;refine ZE 12 ?_;refine UE 13 19 ?_;refine ku ?_;refine fq I I (eo (ys:=mH (VF br bu D) X ((R.wd l).wt ⟨ca,ad⟩)) (n:=2) (vs:=[.i ca,.w ad]) I ir I I (jR I) Za I I9) ZJ ?_;refine UR ?_;refine fh ?_;refine Zo (bK (gU (VF br bu D) X ((R.wd l).wt ⟨ca,ad⟩)++uF bu bb L U') Zj ?_);exact Wq258):P:=h
theorem Yi(h:P:=by refine Wq39 ?_;rintro _ _ ⟨_,⟨V2,Z2,rfl,rfl⟩,rfl⟩;refine Wq28 ?_;refine UR ?_;refine fh ?_;refine Vd ((⟨V2,Z2⟩:dz×dJ)) gh):P:=h
theorem Xy(h:P:=by refine CH ?_;refine UR ?_;refine et ?_;refine CF ?_;refine UR ?_;refine IT ?_;refine Vd ((E2,y,x,b14,b15)) ⟨hE2,hEe,hyx⟩):P:=h
theorem Wx11_(h:P:=by refine Wq256 ?_;rintro _ _ ⟨_,⟨As,rfl,rfl⟩,rfl⟩;refine ZE 8 ?_;refine cP 10 Zk (V1 (λw hi=>hlo w (h.Tb hi)) ?_);rintro _ _ ⟨Av,cv,rfl,rfl⟩;refine Et ?_;refine wZ ?_;rintro _ _ ⟨b34,rfl,rfl⟩;refine ZE 13 ?_;refine fh ?_;refine Vd (((b34,⟨Ar,N,As,N,Av,cv⟩):Nat×SAd)) gh):P:=h
theorem Vu(h:P:=by simp only[cE, *,ah,ac]<;>exact I):P:=h
theorem VG(h:P:=by refine⟨?_,I⟩;exact pN):P:=h
theorem YR(h:P:=by refine⟨?_,I⟩;unfold dD;cases h1:decide (0<=op)<;>cases h2:decide (op<=8)<;>cases h3:decide (16<=op)<;>cases h4:decide (op<=25)<;>cases h5:(op !=24)<;>cases h6:decide (32<=op)<;>cases h7:decide (op<=40)<;>simp_all<;>omega):P:=h
theorem Xx(h:P:=by refine Je ?_;refine UR ?_;refine Jd ?_;refine UR ?_;refine fh ?_;refine Vd ((b12,b13)) gh):P:=h
theorem Wx16_(h:P:=by refine UE 5 1 ?_;refine cP 6 Zk (m4 ?_);refine iK ?_;refine wW ?_;rintro _ _ ⟨b28,rfl,rfl⟩;refine Wq390 ?_;rintro _ _ ⟨A',c',rfl,rfl⟩;refine ZE 9 ?_;refine UE 10 1 ?_;refine cP 11 Zk (iT ?_);refine Zo (io (cs':=[row _ _ _,slv _ _ _ _ _ _,slv _ _ _ _ _ _]) (.inr I) Zu I ?_);rw[hst];refine⟨⟨A',c',Ar,cr⟩,I,?_⟩;show _=VY br ⟨A',c',Ar,cr⟩ (R.wd (R.s.d++[n])).s dv;exact Jg):P:=h
theorem Yc(h:P:=by rintro _ _ ⟨A2,c2,E,⟨hE1,hE2⟩,rfl,rfl⟩;refine Rs ?_;rintro _ _ ⟨A3,c3,rfl,rfl⟩;refine NC ?_;exact Wx2_):P:=h
theorem WZ(h:P:=by refine Zn (io (cs':=[row _ _ _]) (.inr I) Zu I ?_);exact fx):P:=h
theorem YQ(h:P:=by rintro _ _ ⟨_,⟨A2,c2,E,⟨hE1,hE2⟩,rfl,rfl⟩,rfl⟩;refine Wq206 ?_;rintro _ _ ⟨A3,c3,rfl,rfl⟩;rw[cy,<-ar];refine IT ?_;refine j5 ?_;exact Wx2_):P:=h
theorem Wm(h:P:=by refine wS ?_;refine⟨?_,I⟩;exact tG):P:=h
theorem WY(h:P:=by refine UU ?_;refine Wl ?_;refine⟨?_,I⟩;exact sh):P:=h
theorem Wx22_(h:P:=by refine gg ?_;refine wW ?_;rintro _ _ ⟨b68,rfl,rfl⟩;refine Wq383 ?_;rintro _ _ ⟨A',c',rfl,rfl⟩;refine ZE 10 ?_;refine UE 11 0 ?_;refine UE 12 2 ?_;refine cP 13 Zk (iT ?_);refine Va ?_;refine tI ?_;rw[hst];refine⟨⟨X.Ad,X.cd,A',c'⟩,I,?_⟩;exact Wq388):P:=h
theorem Wx23_(h:P:=by refine⟨?_,I⟩;exact CQ):P:=h
theorem V5(h:P:=by refine pm ?_;exact Wx0_):P:=h
theorem Wu(h:P:=by refine fS ?_;refine⟨?_,I⟩;exact sf):P:=h
theorem Wx26_(h:P:=by refine gg ?_;refine wW ?_;rintro _ _ ⟨b119,rfl,rfl⟩;refine kt ?_;have hbd:J L.r.l<=600:=aN hs.rl O;refine Wq349 ?_;rintro _ _ ⟨A9,c9,rfl,rfl⟩;refine Wq285 ?_;subst hC2 hs2;unfold Lw.go;rw[hc3,hc5,hc8,hc10,hc14,hc18];rfl):P:=h
theorem Xn(h:P:=by refine gP ?_;refine po ?_;refine⟨?_,I⟩;exact tE):P:=h
theorem VW(h:P:=by refine⟨?_,I⟩;exact sc):P:=h
theorem Wx29_(h:P:=by refine Wq505 ?_;rintro _ _ ⟨b40,rfl,rfl⟩;refine cP 10 Zk ?_;have hbd:J L.d.l<=600:=aN hs.dl O;refine Wq263 ?_;rintro _ _ ⟨A9,c9,rfl,rfl⟩;refine Wq307 ?_;refine UR ?_;refine fh ?_;exact Zo Wq366):P:=h
theorem Wx30_(h:P:=by rintro _ _ ⟨_,⟨A1,c1,A2,c2,rfl,rfl⟩,rfl⟩;refine ZM ?_;refine US ?_;refine mU ?_;refine UU ?_;refine ZL ?_;refine lx ?_;refine lx ?_;refine lx ?_;refine lx ?_;refine US ?_;refine ZL ?_;exact RE):P:=h
theorem VV(h:P:=by refine pT ?_;exact VG):P:=h
theorem Wx32_(h:P:=by refine⟨?_,I⟩;exact tH):P:=h
theorem WX(h:P:=by refine po ?_;refine⟨?_,I⟩;exact Ey):P:=h
theorem V4(h:P:=by refine wY ?_;exact Xb):P:=h
theorem Wx35_(h:P:=by rw[hc4,if_neg cJ]at hf;refine ii ?_;refine Vd ((⟨j+1,r2⟩:Nat×ρ)) ⟨⟨⟨by omega,hr3,hrk2⟩,by dsimp only;rw[hf,Option.map_map];congr 1;grind⟩,by omega⟩):P:=h
theorem Wx36_(h:P:=by simp only[ai]at hc12;have hk4:k<4:=O;refine Va ?_;refine Wq304 ?_;refine An ?_;refine Vd (k+1) ⟨by show k+1<=4;omega,by show 4 - (k+1)<4 - k;omega⟩):P:=h
theorem Wx37_(h:P:=by refine UU ?_;refine mT ?_;refine UK ?_;refine Wl ?_;simp only[aa]at hc2;refine⟨congrArg _ ?_,I⟩;unfold eN;rw[<-hm,<-e3,Int.emod_eq_of_lt O O]):P:=h
theorem YP(h:P:=by refine ix ?_;refine Zs (bQ (Vg [2]) Zk ?_);refine Nr ?_;refine UN ?_;exact QS):P:=h
theorem Wx39_(h:P:=by refine UN ?_;refine jb ?_;refine sW (cs':=[slv _ _ _ _ _ _,slv _ _ _ _ _ _]) (.inl I) Zu I I I Zh ir ir ⟨A1,c1,A2,c2,?_,I⟩;clear h;exact wE):P:=h
theorem Wx40_(h:P:=by refine Wq315 ?_;refine UR ?_;refine ZE 18 ?_;refine fh ?_;refine Vd ((⟨⟨A1,c1,A2,c2⟩,b13⟩:(Option Addr×Nat×Option Addr×Nat)×Nat)) gh):P:=h
theorem Wx41_(h:P:=by rw[hc16,ah]at hS;obtain⟨rfl,rfl⟩:=Prod.mk.inj hS;refine bQ (Vg [14]) Zk (IZ ?_);refine ZE 3 ?_;refine ZE 4 ?_;refine UE 5 16 ?_;exact Wq338):P:=h
theorem Xm(h:P:=by refine⟨?_,I⟩;exact z7):P:=h
theorem Wt(h:P:=by refine UK ?_;exact YO):P:=h
theorem Wx44_(h:P:=by simp only[ai]at hc8;refine oO ?_;refine Yj ?_;refine UR ?_;rw[eK,yX _ _ O];refine ii ?_;refine VM (k+1) ⟨by omega,by omega⟩):P:=h
theorem Xl(h:P:=by refine ii ?_;refine VM (k+1) O):P:=h
theorem Wx46_(h:P:=by rw[hc16,ac]at hS;obtain⟨rfl,rfl⟩:=Prod.mk.inj hS;refine UK ?_;refine Wq352 ?_;refine UR ?_;rw[eK];refine U8 ?_;exact Wq15):P:=h
theorem Wx47_(h:P:=by rintro _ _ ⟨A2,c2,rfl,rfl⟩;refine Wq286 ?_;refine VM ((j+1,A2,c2)) ⟨by show j+1<=k;omega,by show k - (j+1)<k - j;omega⟩):P:=h
theorem YN(h:P:=by refine An ?_;refine ZN λb2=>?_;refine UU ?_;refine oV ?_;exact EC):P:=h
theorem WG(h:P:=by refine qO ?_;exact Wx23_):P:=h
theorem WF(h:P:=by refine jP ?_;exact Wx23_):P:=h
theorem WE(h:P:=by refine UN ?_;exact YO):P:=h
theorem Wx52_(h:P:=by have hk1:k=1:=(by rcases hop with⟨rfl,rfl⟩|⟨rfl,rfl⟩;cases hc7;rfl);subst hk1;refine UN ?_;refine Vd (()) gh):P:=h
theorem YM(h:P:=by refine Vd ((⟨pl2.getD na 0,pl2.getD nb 0⟩:Int×Int)) hsw):P:=h
theorem Wx54_(h:P:=by rw[show min y IntKind.u64.bits=y by show min y 64=y;omega,show min y IntKind.u32.bits=y by show min y 32=y;omega]):P:=h
theorem Wx55_(h:P:=by refine UQ ?_;refine Vd ((⟨(l,sz,false),A1,c1⟩:(List (Int×Int)×Nat×Bool)×Option Addr×Nat)) ⟨hq,hsz⟩):P:=h
theorem YL(h:P:=by obtain⟨rfl,rfl⟩:=Prod.mk.inj hS;refine U8 ?_;exact Wq15):P:=h
theorem Wx57_(h:P:=by have hc:kN e va a=false:=hc4;refine UU ?_;refine RA ?_;refine kZ ?_;refine UQ ?_;refine po ?_;rw[hc];exact fx):P:=h
theorem Yb(h:P:=by refine⟨?_,I⟩;simp only[Vo, *,ah,ac]):P:=h
theorem Ya(h:P:=by exact⟨(hs).nd,(hs).nr,(hs).hd,(hs).hr⟩):P:=h
theorem Wx60_(h:P:=by have hk4:k=4:=(by rcases hop with⟨rfl,rfl⟩|⟨rfl,rfl⟩;rfl;cases hc7);subst hk4;refine Zc (Vd (()) gh)):P:=h
theorem Wx61_(h:P:=by simp[execOp,hx.eval hf hg,hy.eval hf hg,run_eqGuard_agg w _ _ _ _ _ _ hm,run_eql_struct,he w,Result.andThen]):P:=h
theorem Wx62_(h:P:=by refine et ?_;refine Wq76 ?_;rintro _ _ ⟨_,⟨E2,hE2,hEe,y,x,rfl,rfl,hyx⟩,rfl⟩;refine NK ?_;exact Xy):P:=h
theorem YK(h:P:=by simp[execOp,resolve,invoke,builtin,hf.ev hx,hf.ev hy,ka]):P:=h
theorem Xk(h:P:=by refine EB ?_;exact Wx32_):P:=h
theorem XZ(h:P:=by refine⟨?_,I⟩;simp only[yL, *,ah,ac]):P:=h
theorem XY(h:P:=by refine⟨?_,I⟩;simp only[eJ, *,ah,ac]):P:=h
theorem XX(h:P:=by refine⟨?_,I⟩;simp only[dw, *,ah,ac]):P:=h
theorem XW(h:P:=by refine Rb ?_;refine⟨?_,I⟩;exact tE):P:=h
theorem Wx69_(h:P:=by intro j hj;simp only[aI,aY,or_false,not_or]at hj;rw[d3 j ig,cM O,cM O,b3 j ig,cM O,g6 j ig]):P:=h
theorem Wx70_(h:P:=by rintro _ _ ⟨_,⟨A1,c1,A2,c2,rfl,rfl⟩,rfl⟩;refine ZM ?_;refine gP ?_;refine ZL ?_;exact RE):P:=h
theorem Wx71_(h:P:=by refine gg ?_;refine zZ ?_;refine Vz ?_;refine qS ?_;refine ZE 13 ?_;refine Wq116 ?_;exact Wq396):P:=h
theorem XV(h:P:=by refine fR ?_;refine pm ?_;exact Xm):P:=h
theorem Wx73_(h:P:=by refine Zs (bQ (WM [2,3] (m5 b15 (RS.cells ⟨xr,A2,c2⟩))) Zk ?_);refine Wq297 ?_;exact Wq367):P:=h
theorem Wx74_(h:P:=by rintro _ _ ⟨A3,c3,A4,c4,rfl,rfl⟩;refine ZM ?_;refine Zn (Vd ((⟨A3,c3,A4,c4⟩:dz)) gh)):P:=h
theorem Xj(h:P:=by refine⟨?_,I⟩;exact sh):P:=h
theorem Wx76_(h:P:=by refine iS ?_;refine Zs (bQ (WM [2,3] (m5 b13 (RS.cells x2))) Zk ?_);refine RJ ?_;exact Wq287):P:=h
theorem Wx77_(h:P:=by refine UK ?_;refine UZ (λw hi=>HF w) ?_;refine An ?_;refine ZM ?_;refine ij ?_;exact Wq72):P:=h
theorem XU(h:P:=by rw[show R.device=false from hdv];rfl):P:=h
theorem Wx79_(h:P:=by refine Zn (io (cs':=[row _ _ _,slv _ _ _ _ _ _,slv _ _ _ _ _ _]) (.inr I) Zu I ?_);exact fx):P:=h
theorem Wx80_(h:P:=by rintro _ _ ⟨⟨z,rfl,hz⟩,rfl⟩;refine UQ ?_;refine Wl ?_;exact⟨by rw[<-hz],rfl⟩):P:=h
theorem Wx81_(h:P:=by refine lL (cs':=[]) (.inl I) Zu I I Zh ir ir ⟨?_,I⟩;simp only[fV,kk, *,ah,ac]<;>rfl):P:=h
theorem Wx82_(h:P:=by refine ix ?_;refine Zs (bQ (Vg [2]) Zk ?_);refine yu 32 1 (Nr ?_);refine UN ?_;exact NO):P:=h
theorem Wx83_(h:P:=by rw[hc14,ah]at hS;obtain⟨rfl,rfl⟩:=Prod.mk.inj hS;refine U8 ?_;refine tI ?_;exact fx):P:=h
theorem Xi(h:P:=by refine wn ?_;exact V5):P:=h
theorem Wx85_(h:P:=by simp[execOp,hf.ev hx,hf.ev hy,Instr.storeAt,Instr.sureAddr,storeVar,hT,Value.cells,hst]):P:=h
theorem Wx86_(h:P:=by rw[h,hp];simp only[ac,e,Bool.not_true,bz,aV];cases decide ((32768:Int)<=(p:Int))<;>rfl):P:=h
theorem WW(h:P:=by refine wD ?_;exact wQ):P:=h
theorem Wx88_(h:P:=by refine Jb ?_;refine UR ?_;refine jU (Vd ((⟨X1,Y1,E1,b6⟩:dz×dJ×Vy×Nat)) hEe)):P:=h
theorem Xh(h:P:=by refine wR ?_;exact Wx0_):P:=h
theorem Wx90_(h:P:=by refine UK ?_;refine bK [XI bk k] Zj (VA ([row _ _ _]) ?_);exact⟨I,I,trivial⟩):P:=h
theorem Wx91_(h:P:=by unfold St.set;refine SM ?_;refine SM ?_;exact key _ _ _ _ _ I (key _ _ _ _ _ I I)):P:=h
theorem XT(h:P:=by simp only[bU, *,ah,ac]<;>exact I):P:=h
theorem Wx93_(h:P:=by refine gg ?_;refine wW ?_;rintro _ _ ⟨b191,rfl,rfl⟩;refine kt ?_;exact Wq320):P:=h
theorem XS(h:P:=by rcases jr h with h|h|h|h<;>omega):P:=h
theorem Wx95_(h:P:=by exact(h.add 0 0 0 n hn (Or.inl I)).1.TH _ (sing (h.add 0 0 0 n hn (Or.inl I)).2)):P:=h
theorem Wx96_(h:P:=by refine cP 10 Zk (Nw ?_);refine Vz ?_;refine ZE 11 ?_;refine r8 ?_;exact Xx):P:=h
theorem Wx97_(h:P:=by refine cP 3 Zk (Wq316 ?_);rintro _ _ ⟨_,⟨Ar,rfl,rfl⟩,rfl⟩;exact Wx11_):P:=h
theorem Wx98_(h:P:=by refine UN ?_;refine UZ (λw hi=>Fz a b _ hb w) ?_;refine Va ?_;exact Xk):P:=h
theorem Wx99_(h:P:=by refine ZE 5 ?_;refine cP 6 Zk (wZ ?_);rintro _ _ ⟨b9,rfl,rfl⟩;exact Wq329):P:=h
theorem YY(h:P:=by have hr:V9 .u32 ((x:Int) - y)=(r:Int):=hr;unfold kb;rw[hr,jy hr2];exact hT ..):P:=h
theorem YX(h:P:=by exact(la.set R 12 _ (e:=[rd,12]) cJ).trans (la.set _ rd _ (e:=[rd,12]) cJ) bZ):P:=h
theorem YW(h:P:=by simp only[aa]at hc12;obtain rfl:k=4:=O;refine Va ?_;refine Jn ?_;exact RC):P:=h
theorem YV(h:P:=by have:=congrArg List.length hs;rw[List.length_drop]at this;simp at this;omega):P:=h
theorem YU(h:P:=by simp only[aa]at hc4;obtain rfl:k=64:=O;refine gP ?_;refine CR ?_;exact fx):P:=h
theorem XL(h:P:=by subst e;show Aa _=_;rw[hP (dY _ _ _)];rfl):P:=h
theorem Wy(h:P:=by refine N2 ?_;exact fx):P:=h
theorem W6(h:P:=by refine pm ?_;exact Wx32_):P:=h
theorem YT(h:P:=by refine ix ?_;refine An ?_;refine dB 32 1 (UN ?_);refine rY ?_;exact NO):P:=h
theorem YS(h:P:=by exact⟨⟨n0,n1,n2,A3,d3,x3⟩,I,⟨r3,λx hx=>Jy (z3 x hx),lR m2⟩⟩):P:=h
end
theorem UR{P Q:Prop}(h:Q)(f:Ld Q->P:=by intro y9;rintro _ _ ⟨rfl,rfl⟩;exact y9.1):P:=f ⟨h⟩
theorem Vz{P Q:Prop}(h:Q)(f:Ld Q->P:=by intro y9;rintro _ _ ⟨_,⟨rfl,rfl⟩,rfl⟩;exact y9.1):P:=f ⟨h⟩
section
variable{P Q:Prop}
theorem O(h:P:=by omega):P:=h
theorem UL(h:P:=by exact λ_=>by omega):P:=h
theorem Xp(h:Q)(f:Ld Q->P:=by intro y9;exact io (cs':=[row _ _ _,slv _ _ _ _ _ _,slv _ _ _ _ _ _,row _ _ _,Wg _ _ _ _,row _ _ _,row _ _ _,row _ _ _,row _ _ _,row _ _ _,slv _ _ _ _ _ _,slv _ _ _ _ _ _,row _ _ _,slv _ _ _ _ _ _]) (.inr I) Zu I y9.1):P:=f ⟨h⟩
theorem ne(h:P:=by decide):P:=h
theorem Xo(h:Q)(f:Ld Q->P:=by intro y9;exact wB (cs':=[row _ _ _,slv _ _ _ _ _ _,slv _ _ _ _ _ _,row _ _ _,row _ _ _,slv _ _ _ _ _ _,slv _ _ _ _ _ _,row _ _ _,slv _ _ _ _ _ _,Wo _ _ _ _,slv _ _ _ _ _ _]) (.inl I) Zu I I I y9.1):P:=f ⟨h⟩
theorem Vi(h:P:=by as_aux_lemma=>kernel_rfl):P:=h
theorem Wq7(h:P:=by refine ZM ?_;refine UN ?_;refine bK [row b2 _ _,slv 366 5 A (J c) cc (c.flatMap II.cells),sl .i64 3 A3 (J (dW pl p.S9)) c3 (dW pl p.S9),sl .i64 3 A4 (J (dW pl p.Ta)) c4 (dW pl p.Ta)] Zj ?_;refine lL (cs':=[slv _ _ _ _ _ _,slv _ _ _ _ _ _,slv _ _ _ _ _ _]) (.inl I) Zu I I Zh ir ir ?_;rw[hsT _ _ hm1 hm2];exact⟨⟨A,cc,A3,c3,A4,c4⟩,I,I⟩):P:=h
theorem W8(h:Q)(f:Ld Q->P:=by intro y9;refine Zy (dy py py Zl) ?_;exact An y9.1):P:=f ⟨h⟩
theorem Wq9(h:Q)(f:Ld Q->P:=by intro y9;refine ZL ?_;refine UU ?_;refine ZM ?_;refine UK ?_;exact sW (cs':=[slv _ _ _ _ _ _,slv _ _ _ _ _ _]) (.inl I) Zu I I I Zh ir ir y9.1):P:=f ⟨h⟩
theorem RK(h:P:=by first|exact dx rfl|exact List.mem_append_left _ (dx rfl)|exact List.mem_append_right _ (dx rfl)|exact List.mem_append_right _ (List.mem_append_right _ (List.mem_append_left _ (dx rfl)))|exact List.mem_append_right _ (List.mem_append_right _ (List.mem_append_right _ (dx rfl)))):P:=h
theorem bZ(h:P:=by grind):P:=h
theorem jQ(h:Q)(f:Ld Q->P:=by intro y9;exact gS (ky I I ir ir I I) I y9.1):P:=f ⟨h⟩
theorem po(h:Q)(f:Ld Q->P:=by intro y9;exact wB (cs':=[]) (.inl I) Zu I I I y9.1):P:=f ⟨h⟩
theorem Wq15(h:P:=by refine eA (jB ir I I I Za (by simp[ints,hR])) ?_;refine UR ?_;rw[L7 (by simp[hR])];refine Va ?_;refine VA ([row _ _ _,slv _ _ _ _ _ _,slv _ _ _ _ _ _]) ?_;exact⟨I,I⟩):P:=h
theorem gD(h:P:=by simp only[maxLen];omega):P:=h
theorem m4(h:Q)(f:Ld Q->P:=by intro y9;exact un I (bO ir py) (cT Zh I) I y9.1):P:=f ⟨h⟩
theorem pm(h:Q)(f:Ld Q->P:=by intro y9;exact ret3 (cs':=[]) (.inl I) Zu I I I I y9.1):P:=f ⟨h⟩
theorem SM(h:Q)(f:Ld Q->P:=by intro y9;refine key _ _ _ _ _ I ?_;refine key _ _ _ _ _ I ?_;refine key _ _ _ _ _ I ?_;exact key _ _ _ _ _ I y9.1):P:=f ⟨h⟩
theorem Υ(h:Q)(f:Ld Q->P:=by intro y9;refine jV (bS I I) I I ?_;refine jV (bS I I) I I ?_;refine jV (bS I I) I I ?_;exact jV (bS I I) I I y9.1):P:=f ⟨h⟩
theorem pT(h:Q)(f:Ld Q->P:=by intro y9;refine gP ?_;exact ret4 (cs':=[]) (.inl I) Zu I I I I I y9.1):P:=f ⟨h⟩
theorem lO(h:Q)(f:Ld Q->P:=by intro y9;refine ZE 0 ?_;exact ZE 1 y9.1):P:=f ⟨h⟩
theorem fx(h:P:=by exact⟨I,I⟩):P:=h
theorem wY(h:Q)(f:Ld Q->P:=by intro y9;refine UN ?_;refine ZM ?_;refine UQ ?_;exact lL (cs':=[]) (.inl I) Zu I I Zh ir ir y9.1):P:=f ⟨h⟩
theorem Ez(h:Q)(f:Ld Q->P:=by intro y9;exact CN I (bR I I) (bO ir (cO I)) (cT Zh I) I y9.1):P:=f ⟨h⟩
theorem I8(h:Q)(f:Ld Q->P:=by intro y9;exact wB (cs':=[row _ _ _,row _ _ _,row _ _ _,row _ _ _,slv _ _ _ _ _ _,slv _ _ _ _ _ _,row _ _ _,slv _ _ _ _ _ _]) (.inl I) Zu I I I y9.1):P:=f ⟨h⟩
theorem NI(h:P:=by refine VA ([row _ _ _,slv _ _ _ _ _ _,slv _ _ _ _ _ _]) ?_;rw[hst];exact⟨⟨_,_,_,_⟩,I,I⟩):P:=h
theorem Wq28(h:Q)(f:Ld Q->P:=by intro y9;refine ZE 26 ?_;refine UE 27 0 ?_;refine cP 28 Zk ?_;exact fq I I (eo (ys:=g18L F s2 V2) (n:=16) (vs:=s2.cells (.slice V2.Ad (J s2.d) V2.cd) (.slice V2.Ar (J s2.r) V2.cr)) I ir I I (jR I) Za I (Nat.le_of_ble_eq_true I)) (λ_=>by refine UR ?_;exact bP (t:=70) Zh) y9.1):P:=f ⟨h⟩
theorem Jo(h:Q)(f:Ld Q->P:=by intro y9;refine ng I (bR I I) (ui py) I ?_;exact ng I (bR I I) (qW (cO I)) I y9.1):P:=f ⟨h⟩
theorem Jn(h:Q)(f:Ld Q->P:=by intro y9;exact Zy (kf (Zv I) (Zv I) O (show _=((va/64:Nat):Int)from by rw[bl O,u32_wrap_id _ O O];omega)) y9.1):P:=f ⟨h⟩
theorem Ex(h:Q)(f:Ld Q->P:=by intro y9;exact fq I I (mD ir I I I Za Zp) (λ_=>by refine UR ?_;exact bP (t:=370) Zh) y9.1):P:=f ⟨h⟩
theorem ψ(h:P:=by first|exact IntWalk.u64_in _ ⟨by omega,by omega⟩|exact rfl):P:=h
theorem lN(h:Q)(f:Ld Q->P:=by intro y9;exact cK I (I) y9.1):P:=f ⟨h⟩
theorem CR(h:Q)(f:Ld Q->P:=by intro y9;exact VA ([row _ _ _,slv _ _ _ _ _ _,Wo _ _ _ _,slv _ _ _ _ _ _,row _ _ _,slv _ _ _ _ _ _,slv _ _ _ _ _ _]) y9.1):P:=f ⟨h⟩
theorem fh(h:Q)(f:Ld Q->P:=by intro y9;exact JB Zk y9.1):P:=f ⟨h⟩
theorem tD(h:Q)(f:Ld Q->P:=by intro y9;exact ek I (ui py) I y9.1):P:=f ⟨h⟩
theorem I3(h:Q)(f:Ld Q->P:=by intro y9;exact VA ([row _ _ _,row _ _ _,row _ _ _,row _ _ _,slv _ _ _ _ _ _,slv _ _ _ _ _ _,row _ _ _,slv _ _ _ _ _ _,Wg _ _ _ _]) y9.1):P:=f ⟨h⟩
theorem cJ(h:P:=by simp):P:=h
theorem Wq39(h:Q)(f:Ld Q->P:=by intro y9;refine cP 25 Zk ?_;exact jm I I (dh (V7 F.K F.bx n F.by_ F.bd Z U d) I (λ_ _=>I) Zi (λw hi hin=>HRB w hin (λw' hk=>(h2 w' (hi.TM Zi (UJ (dm cin)) hk)).2))) (λ_=>by rintro _ _ ⟨_,⟨V2,Z2,rfl,rfl⟩,rfl⟩;exact bP (t:=70) Zh) I y9.1):P:=f ⟨h⟩
theorem pN(h:P:=by simp only[bV, *,ah,ac];exact I):P:=h
theorem I1(h:Q)(f:Ld Q->P:=by intro y9;exact dZ (bO ir (Zv I)) (cW (by assumption) rfl) rfl y9.1):P:=f ⟨h⟩
theorem wW(h:Q)(f:Ld Q->P:=by intro y9;exact jm I I (ky I I ir ir I I) ZJ I y9.1):P:=f ⟨h⟩
theorem fS(h:Q)(f:Ld Q->P:=by intro y9;refine Va ?_;exact Wl y9.1):P:=f ⟨h⟩
theorem XN(h:Q)(f:Ld Q->P:=by intro y9;refine tD ?_;refine ek I (kv py (.zero _ _)) I ?_;exact ek I (kv py (.succ _ (.zero _ _))) I y9.1):P:=f ⟨h⟩
theorem SL(h:Q)(f:Ld Q->P:=by intro y9;refine ZE 9 ?_;exact eX 10 I Zk Zk Zk (ez (Zv I) (Zv I) (show _=(J l:Int)from by rw[hdl];exact aQ _ ⟨by omega,by omega⟩|>.trans O)) rfl y9.1):P:=f ⟨h⟩
theorem Wq46(h:P:=by refine Ws (gU (VF br bu D) X ((R.wd l).wt ⟨ca,ad⟩)) (λw hi hin=>jq (VF br bu D) X ((R.wd l).wt ⟨ca,ad⟩) _ 1 1 [v] (show J l+1<=1000000 by omega) w hin (λw' hk=>hi.TU Zi Zh hk)) ?_;rintro _ _ ⟨_,⟨A',c',rfl,rfl⟩,rfl⟩;refine An ?_;refine bK (gU (VF br bu D) ⟨A',c',X.Ar,X.cr⟩ (((R.wd l).wt ⟨ca,ad⟩).wd (l++[v]))++uF bu bb L U') Zj ?_;refine io (cs':=[row _ _ _,slv _ _ _ _ _ _,slv _ _ _ _ _ _,row _ _ _,Wg _ _ _ _,row _ _ _]) (.inr I) Zu I ?_;exact⟨⟨A',c',X.Ar,X.cr⟩,I,I⟩):P:=h
theorem IV(h:Q)(f:Ld Q->P:=by intro y9;exact wB (cs':=[row _ _ _,slv _ _ _ _ _ _,Wo _ _ _ _,slv _ _ _ _ _ _]) (.inl I) Zu I I I y9.1):P:=f ⟨h⟩
theorem Wq48(h:Q)(f:Ld Q->P:=by intro y9;refine An ?_;refine V3 I I (jT (cO I) (Zv I) O I) ?_;refine ZB ?_;refine V3 I I (jT (cO I) (Zv I) O I) ?_;exact V3 I I (Aw (cO I) (cO I) (tO (wrap_u32 _) ha)) y9.1):P:=f ⟨h⟩
theorem wF(h:Q)(f:Ld Q->P:=by intro y9;exact gS (nu I I ir ir I I I) I y9.1):P:=f ⟨h⟩
theorem wq(h:P:=by simp only[zj, *,ah,ac];exact I):P:=h
theorem mS(h:P:=by exact I):P:=h
theorem Y5(h:P:=by refine UU ?_;refine ZM ?_;refine UN ?_;refine lL (cs':=[]) (.inl I) Zu I I Zh ir ir ?_;exact⟨⟨_,_,I,(by first|exact u0|exact hxu|exact jn O),hop⟩,rfl⟩):P:=h
theorem SK(h:Q)(f:Ld Q->P:=by intro y9;exact Zy (ez (Zv I) (Zv I) (show _=(J l:Int)from by rw[hdl];exact aQ _ ⟨by omega,by omega⟩|>.trans O)) y9.1):P:=f ⟨h⟩
theorem Wq56(h:Q)(f:Ld Q->P:=by intro y9;refine XF I ?_;exact lP I I (bS I I) I (dT I (λ_ _=>I) (λw hi=>nL vA vA X2.Ad X2.Ar none none X2.cd X2.cr 0 0 w ⟨hi.rd (UJ (Vf vA X2.Ad X2.cd)),hi.rd (UJ (Vj vA X2.Ar X2.cr)),by decide,by decide⟩ (iL.nil_ w rfl rfl))) ZJ rfl y9.1):P:=f ⟨h⟩
theorem wQ(h:P:=by refine Wl ?_;exact fx):P:=h
theorem Wq58(h:Q)(f:Ld Q->P:=by intro y9;refine bL (λm:eu=>m.d.lines) h ?_;refine bL (λm:eu=>m.d.lines) h ?_;refine bL (λm:eu=>m.d.lines) h ?_;refine bL (λm:eu=>m.d.lines) h ?_;exact bL (λm:eu=>m.d.lines) h y9.1):P:=f ⟨h⟩
theorem QT(h:P:=by exact λ_=>by refine UR ?_;exact bP (t:=180) Zh):P:=h
theorem Wq60(h:Q)(f:Ld Q->P:=by intro y9;refine tD ?_;refine Jo ?_;refine ng I (bR I I) (dg 1 I (cO I) Zf) I ?_;refine Ez ?_;exact ng I (bR I I) (qW (cO I)) I y9.1):P:=f ⟨h⟩
theorem tB(h:P:=by simp only[cE, *,ah,ac]):P:=h
theorem lx(h:Q)(f:Ld Q->P:=by intro y9;refine Wv ?_;exact ZL y9.1):P:=f ⟨h⟩
theorem QS(h:P:=by refine Kr (cs':=[row _ _ _,Wg _ _ _ _,row _ _ _]) (.inl I) Zu I I I Zh ir ir ?_;exact fx):P:=h
theorem XM(h:Q)(f:Ld Q->P:=by intro y9;exact wB (cs':=[row _ _ _,slv _ _ _ _ _ _,slv _ _ _ _ _ _,row _ _ _,row _ _ _,slv _ _ _ _ _ _,slv _ _ _ _ _ _]) (.inl I) Zu I I I y9.1):P:=f ⟨h⟩
theorem IT(h:Q)(f:Ld Q->P:=by intro y9;refine ek I (EL py) I ?_;exact jU y9.1):P:=f ⟨h⟩
theorem Ae(h:P:=by simp only[u9, *,ah,ac];exact I):P:=h
theorem Y0(h:Q)(f:Ld Q->P:=by intro y9;refine m4 ?_;refine ZE 8 ?_;refine UE 9 0 ?_;exact qZ 10 I Zk Zk Zk Zk (bX (vs:=s.cells (.slice V.Ad (J s.d) V.cd) (.slice V.Ar (J s.r) V.cr)) ir ir py) (cq Zh I) I y9.1):P:=f ⟨h⟩
theorem Wq69(h:P:=by refine lP I I (bS I I) I (dT I (λ_ _=>I) (λw hi=>xJ w (ht.old hi))) ZJ I ?_;refine Vz ?_;refine ek I (Ay py (Fu I ir)) I ?_;refine IT ?_;refine An ?_;exact wQ):P:=h
theorem Wq70(h:P:=by refine UK ?_;refine Zy (cn (bb:=b66) (o:=0) (n:=i) (c:=i) (j:=nt) (sz:=1) (r:=nt) I ir (Zv I) (Zv I) (λ_=>hnt) UL O) ?_;refine dZ (bO ir (Zv I)) (da Zh (jK O)) I ?_;refine lx ?_;refine UQ ?_;exact Wq7):P:=h
theorem SJ(h:Q)(f:Ld Q->P:=by intro y9;refine Zy (fc (J l) I ir (Zv I) (Zv I) (λ_=>by first|rfl|omega) UL) ?_;refine An ?_;exact ZL y9.1):P:=f ⟨h⟩
theorem Wq72(h:P:=by refine retCC (cs':=[row _ _ _,slv _ _ _ _ _ _,slv _ _ _ _ _ _]) (.inl I) Zu I I I Zh Zh ir ir ir ir ?_;exact fx):P:=h
theorem Yj(h:Q)(f:Ld Q->P:=by intro y9;refine Zy (cn (j:=k) (sz:=1) (r:=k) I ir (Zv I) (Zv I) UL UL O) ?_;exact eA (yC ir I I I Za O) y9.1):P:=f ⟨h⟩
theorem wP(h:Q)(f:Ld Q->P:=by intro y9;refine ZG 3 ?_;refine ZE 4 ?_;exact ZE 5 y9.1):P:=f ⟨h⟩
theorem YZ(h:Q)(f:Ld Q->P:=by intro y9;exact Zy (fG (Zv I) (Zv I) O (by first|exact IntWalk.rem_in _ _ O|exact rfl)) y9.1):P:=f ⟨h⟩
theorem Wq76(h:Q)(f:Ld Q->P:=by intro y9;exact ZcS (Vt be E) (λw hi hin=>HFi (some ⟨bq,p%64,none⟩) (64 - p%64) w hin (λw' hk=>cut64 (cY (hi.TM Zi (UJ (sl .u8 5 (sA bq) 64 64 D)) hk)) O hXl)) y9.1):P:=f ⟨h⟩
theorem wE(h:P:=by simp only[St.set, *,ah,ac]):P:=h
theorem Wq78(h:Q)(f:Ld Q->P:=by intro y9;exact lP I I (bS I I) I (dh (WT be F4.bu F4.bb F4.L F4.D WN ⟨UO.init 2 L3,T0⟩ d0 E1) I (λ_ _=>I) Zi (λw hi hin=>HE w hin (λw' _=>iL.nil_ w' I I) (λw' hk=>U5.Th ht hi Zi hk))) ZJ I y9.1):P:=f ⟨h⟩
theorem IS(h:Q)(f:Ld Q->P:=by intro y9;exact Zy (cz I I (Zv I) (u64_wrap_id _ O O)) y9.1):P:=f ⟨h⟩
theorem N2(h:Q)(f:Ld Q->P:=by intro y9;exact sW (cs':=[]) (.inl I) Zu I I I Zh ir ir y9.1):P:=f ⟨h⟩
theorem Wq81(h:Q)(f:Ld Q->P:=by intro y9;refine bL (λx:Int=>x=0->(J s.d:Int) - (bV op).1.1+(bV op).1.2<=16/\(J s.r:Int) - (bV op).2.1+(bV op).2.2<=16) (λh=>by cases h) ?_;exact bL (λx:Int=>x=0->(J s.d:Int) - (bV op).1.1+(bV op).1.2<=16/\(J s.r:Int) - (bV op).2.1+(bV op).2.2<=16) (λh=>by cases h) y9.1):P:=f ⟨h⟩
theorem Ns(h:P:=by first|exact IntWalk.u32_in _ ⟨by omega,by omega⟩|exact rfl):P:=h
theorem CA(h:Q)(f:Ld Q->P:=by intro y9;refine lO ?_;exact ZE 2 y9.1):P:=f ⟨h⟩
theorem yi(h:Q)(f:Ld Q->P:=by intro y9;exact mX I I (uI ir I) ZJ I y9.1):P:=f ⟨h⟩
theorem Wq85(h:Q)(f:Ld Q->P:=by intro y9;exact lL (cs':=[slv _ _ _ _ _ _,slv _ _ _ _ _ _,slv _ _ _ _ _ _,row _ _ _,Wg _ _ _ _,row _ _ _,row _ _ _,row _ _ _,row _ _ _,row _ _ _,slv _ _ _ _ _ _,slv _ _ _ _ _ _,row _ _ _,slv _ _ _ _ _ _]) (.inl I) Zu I I Zh ir ir y9.1):P:=f ⟨h⟩
theorem Wq86(h:Q)(f:Ld Q->P:=by intro y9;refine ZA ?_;refine Zy (jT (Zv I) (Zv I) O (show _=((va/1024:Nat):Int)from(XH _ 10).trans O)) ?_;refine Zy (oX (Zv I) (Zv I) (show _=((va/1024%16:Nat):Int)from(Ni ⟨by omega,by omega⟩).trans O)) ?_;exact Zy (fT (Zv I) (Zv I) (show _=((4*(va/1024%16):Nat):Int)from(u32_wrap_id _ O O).trans O)) y9.1):P:=f ⟨h⟩
theorem GA(h:Q)(f:Ld Q->P:=by intro y9;exact Zy (cZ (j:=k) I ir (Zv I) (Zv I) UL UL) y9.1):P:=f ⟨h⟩
theorem Nr(h:Q)(f:Ld Q->P:=by intro y9;refine ZI 0 ?_;refine ZE 1 ?_;refine cP 2 Zk ?_;refine ZR ?_;exact fh y9.1):P:=f ⟨h⟩
theorem Nq(h:P:=by refine VA ([slv _ _ _ _ _ _]) ?_;exact⟨_,_,I,I⟩):P:=h
theorem Wq90(h:Q)(f:Ld Q->P:=by intro y9;refine bL (λq:Bool×UO×UF=>Vc n q.2.1) h ?_;refine bL (λq:Bool×UO×UF=>Vc n q.2.1) h ?_;exact bL (λq:Bool×UO×UF=>Vc n q.2.1) h y9.1):P:=f ⟨h⟩
theorem Wq91(h:P:=by refine eA (eo (ys:=mH (VF br bu D) X ((R.wd l).wt ⟨ca,ad⟩)) (n:=2) (vs:=[.i ca,.w ad]) I ir I I (jR I) Za I (by simp only[aE,bD];omega)) ?_;refine UR ?_;refine UQ ?_;refine jQ ?_;rintro _ _ ⟨b29,rfl,rfl⟩;exact Wq46):P:=h
theorem qM(h:Q)(f:Ld Q->P:=by intro y9;refine ZE 5 ?_;exact ZE 6 y9.1):P:=f ⟨h⟩
theorem pk(h:Q)(f:Ld Q->P:=by intro y9;refine fh ?_;exact An y9.1):P:=f ⟨h⟩
theorem wo(h:Q)(f:Ld Q->P:=by intro y9;exact Zy (cz I I py Zl) y9.1):P:=f ⟨h⟩
theorem CQ(h:P:=by simp only[oP,xE, *,ah,ac]):P:=h
theorem Wq96(h:P:=by have ht1:p.target≠ -1:=(by simpa using hc28);obtain⟨nt,hnt,hnt2⟩:=htg ht1;have hm2:iv pl p.target=pl.getD nt 0:=(by unfold iv;rw[hc28,ah,hnt,aV]);exact Wq70):P:=h
theorem oV(h:Q)(f:Ld Q->P:=by intro y9;refine ZM ?_;exact UN y9.1):P:=f ⟨h⟩
theorem Wq98(h:Q)(f:Ld Q->P:=by intro y9;refine V3 I I (ez (cO I) (cO I) I) ?_;refine ZB ?_;exact V3 I I (cz I I (cO I) (show _=(bif decide (0<m)then m else V9 .u64 m)from by cases hd:decide (0<m)with|false=>rfl|true=>(rw[ah,aP];simp only[ai]at hd;omega))) y9.1):P:=f ⟨h⟩
theorem Wq99(h:P:=by refine ZE 5 ?_;refine pk ?_;refine bK (gU (VF br bu D) X (R.wdv ⟨ca,ad⟩ (ca==0&&decide (32768<=p)))++uF bu bb L U') Zj ?_;refine wB (cs':=[row _ _ _,slv _ _ _ _ _ _,slv _ _ _ _ _ _,row _ _ _,Wg _ _ _ _,row _ _ _]) (.inl I) Zu I I I ?_;rw[hc1];exact fx):P:=h
theorem Wq100(h:Q)(f:Ld Q->P:=by intro y9;refine fR ?_;exact Vs (λq:Nat×List HI=>[(6,.p b21),(70,.slice Af (J f9) cf),(71,.i (J f9)),(72,.i (q.1:Int))]) (λq=>[row b21 (rR (⟨b21,p,Q,pl,Ar,cr,As,c2⟩:Wj) (J q.2) (J f9) (⟨Al,cl,Af,cf⟩:VX)) 362,W7 (⟨Al,cl,Af,cf⟩:VX).Al (⟨Al,cl,Af,cf⟩:VX).cl q.2,sl .i64 3 (⟨Al,cl,Af,cf⟩:VX).Af (J f9) (⟨Al,cl,Af,cf⟩:VX).cf f9]) (λq=>q.1<=J f9/\J q.2=J l9/\qn (V9 .u32 (J l9:Int)) (f9.drop q.1) q.2=B9) (λq=>J f9 - q.1) (⟨0,l9⟩) bZ y9.1):P:=f ⟨h⟩
theorem qT(h:Q)(f:Ld Q->P:=by intro y9;exact Zy (jT (Zv I) (Zv I) O I) y9.1):P:=f ⟨h⟩
theorem z7(h:P:=by simp only[zI,jY, *,ah,ac,Bool.not_true,Bool.not_false]):P:=h
theorem tI(h:Q)(f:Ld Q->P:=by intro y9;exact VA ([row _ _ _,slv _ _ _ _ _ _,slv _ _ _ _ _ _]) y9.1):P:=f ⟨h⟩
theorem Wq104(h:Q)(f:Ld Q->P:=by intro y9;refine UK ?_;rw[px,yZ,<-yY n (-1:Int) 0];refine gE [ft bp B ow (pr.set o n),lU b43 bp o b39 b41 n,YD b39 n (R9 0 (-1)++R9 (n - 0) 0),gdC b41 n (R9 n false)] Zj ?_;refine U8 ?_;exact Vs (λk:Nat=>[(9,.p b43),(48,.i n),(49,.i (k:Int))]) (λk=>[ft bp B ow (pr.set o n),lU b43 bp o b39 b41 n,YD b39 n (R9 k (-1)++R9 (n - k) 0),gdC b41 n (R9 n false)]) (λk=>k<=n) (λk=>n - k) (0) (ax _) y9.1):P:=f ⟨h⟩
theorem RJ(h:Q)(f:Ld Q->P:=by intro y9;refine ZI 0 ?_;refine xg 1 I Zk Zk Zk (bX ir ir py) (λx hx=>gl x hx) (bP (t:=180) Zh) I ?_;exact cP 2 Zk y9.1):P:=f ⟨h⟩
theorem RI(h:P:=by refine retCC (cs':=[Wg _ _ _ _]) (.inl I) Zu I I I Zh Zh ir ir ir ir ?_;exact fx):P:=h
theorem Jh(h:Q)(f:Ld Q->P:=by intro y9;exact fq I I (mD ir I I I Za Zp) (λ_=>by refine UR ?_;exact bP (t:=351) Zh) y9.1):P:=f ⟨h⟩
theorem NQ(h:Q)(f:Ld Q->P:=by intro y9;exact eX 11 I Zk Zk Zk (cn (j:=J l) (sz:=1) (r:=J l) I ir (Zv I) (Zv I) UL UL O) I y9.1):P:=f ⟨h⟩
theorem iT(h:Q)(f:Ld Q->P:=by intro y9;refine ZQ ?_;exact fh y9.1):P:=f ⟨h⟩
theorem NP(h:Q)(f:Ld Q->P:=by intro y9;refine jV (bR I I) I I ?_;exact jV (bR I I) I I y9.1):P:=f ⟨h⟩
theorem RH(h:P:=by refine UR ?_;refine IT ?_;refine U8 ?_;refine bK (tdF b1 be E) Zj ?_;refine Fl (cs':=tdF b1 be E) (.inl I) (aL _) I I ?_;exact fx):P:=h
theorem CH(h:Q)(f:Ld Q->P:=by intro y9;refine XF I ?_;exact sk I I (cL ir I I (mW y) Za mS) ZJ y9.1):P:=f ⟨h⟩
theorem NO(h:P:=by refine Kr (cs':=[row _ _ _,Wg _ _ _ _,row _ _ _,slv _ _ _ _ _ _]) (.inl I) Zu I I I Zh ir ir ?_;exact⟨_,_,I,I⟩):P:=h
theorem z6(h:Q)(f:Ld Q->P:=by intro y9;refine XF I ?_;exact sk I I (mD ir I I I Za Zp) ZJ y9.1):P:=f ⟨h⟩
theorem Wq116(h:Q)(f:Ld Q->P:=by intro y9;refine cP 14 Zk ?_;refine ZR ?_;refine fh ?_;refine US ?_;exact eA (eo (ys:=mH (VF br bu D) X (R.wt ⟨ca,ad⟩)) (n:=2) (vs:=[.i ca,.w ad]) I ir I I (jR I) Za I (by simp only[aE,bD];omega)) y9.1):P:=f ⟨h⟩
theorem RG(h:Q)(f:Ld Q->P:=by intro y9;refine Zy (cz I I (Zv I) (u32_wrap_id _ (by show 0<=(z:Int);omega) (by show(z:Int)<4294967296;omega))) ?_;exact Zy (dy (Zv I) (Zv I) (show _=(((p+z)%4294967296:Nat):Int)from by show V9 .u32 ((p:Int)+(z:Int))=_;rw[au];omega)) y9.1):P:=f ⟨h⟩
theorem RF(h:Q)(f:Ld Q->P:=by intro y9;refine ek I (qW py) I ?_;refine ek I (dg 0 I py Zf) I ?_;exact yq I (bO ir py) (cT Zh I) I y9.1):P:=f ⟨h⟩
theorem Jg(h:P:=by simp only[VY,AY,Vf,Vj,ar,cy,aE,bD,bC]):P:=h
theorem z5(h:Q)(f:Ld Q->P:=by intro y9;exact Az I (bO ir py) (cT Zh I) I y9.1):P:=f ⟨h⟩
theorem RE(h:P:=by refine lx ?_;refine lx ?_;refine UQ ?_;refine oV ?_;refine lL (cs':=[slv _ _ _ _ _ _,slv _ _ _ _ _ _]) (.inl I) Zu I I Zh ir ir ?_;exact⟨_,_,_,_,I,I⟩):P:=h
theorem CG(h:Q)(f:Ld Q->P:=by intro y9;refine ZA ?_;exact eA (cL (vs:=tr.cells) ir I I (jR I) Za mS) y9.1):P:=f ⟨h⟩
theorem Wq124(h:P:=by refine fq I I (jB ir I I I Za (by simp[ints,hR];omega)) ZJ ?_;refine UR ?_;rw[hm_setr hR O];refine fh ?_;refine Va ?_;exact Wq15):P:=h
theorem ij(h:Q)(f:Ld Q->P:=by intro y9;refine ZM ?_;exact UK y9.1):P:=f ⟨h⟩
theorem gQ(h:P:=by assumption):P:=h
theorem Wq127(h:Q)(f:Ld Q->P:=by intro y9;refine US ?_;exact Ws (VL b N ⟨C2,s2,L.r,L.flags,L.target,L.branch⟩ ⟨A2,c2,X.Ad,X.cd,X.Ar,X.cr⟩) (λw hi hin=>tU b N ⟨C2,s2,L.r,L.flags,L.target,L.branch⟩ ⟨A2,c2,X.Ad,X.cd,X.Ar,X.cr⟩ ((jp hs hC2 hs2 _ _ _).mono O) w hin) y9.1):P:=f ⟨h⟩
theorem NN(h:P:=by refine Kr (cs':=[row _ _ _,row _ _ _,slv _ _ _ _ _ _,slv _ _ _ _ _ _]) (.inl I) Zu I I I Zh ir ir ?_;exact fx):P:=h
theorem RD(h:Q)(f:Ld Q->P:=by intro y9;refine Zy (cZ (j:=J l) I ir (Zv I) (Zv I) UL UL) ?_;exact dZ (bO ir py) (jC (λw' hk=>(h w' hk).d) (cw (i3 l (va:Int)))) I y9.1):P:=f ⟨h⟩
theorem iS(h:Q)(f:Ld Q->P:=by intro y9;exact bY I (I) y9.1):P:=f ⟨h⟩
theorem w5(h:Q)(f:Ld Q->P:=by intro y9;exact OQ (cs':=[]) (.inl I) Zu I I I I Zh ir ir y9.1):P:=f ⟨h⟩
theorem Wq132(h:Q)(f:Ld Q->P:=by intro y9;rw[hc10];simp only[ah];unfold UO.TB;refine UU ?_;exact Vs (λk:Nat=>[(0,.p K.bm),(2,.w (va:Int)),(10,.p b10),(11,.p b11),(12,.int .u64 (a:Int)),(13,.w l),(16,.w m),(17,.int .u64 (k:Int))]) (λk=>V6 K n (M.Tj a m k)++[row b10 [.bool false,.w 0,.w 0,.w 0] 92,row b11 [.i 0,.w 0] 254]) (λk=>k<=4) (λk=>4 - k) (0) (ax _) y9.1):P:=f ⟨h⟩
theorem Wq133(h:Q)(f:Ld Q->P:=by intro y9;refine jS ?_;refine UQ ?_;refine Zy (ez (Zv I) (Zv I) (show _=((J l+1:Nat):Int)from by rw[hdl];exact aQ _ ⟨by omega,by omega⟩|>.trans O)) ?_;exact Zy (cZ (j:=(J l+1)) I ir (Zv I) (Zv I) UL UL) y9.1):P:=f ⟨h⟩
theorem jf(h:Q)(f:Ld Q->P:=by intro y9;exact bQ (Vg []) Zk y9.1):P:=f ⟨h⟩
theorem RC(h:P:=by refine ZA ?_;refine Zy (jT (Zv I) (Zv I) O (show _=m/256 from(XH _ 8).trans hmd.symm)) ?_;refine UK ?_;refine ZM ?_;refine oV ?_;exact Wq72):P:=h
theorem Jf(h:Q)(f:Ld Q->P:=by intro y9;exact Zy (cz I I (Zv I) (by first|exact IntWalk.u8_in _ ⟨by omega,by omega⟩|exact rfl)) y9.1):P:=f ⟨h⟩
theorem RB(h:P:=by refine Kr (cs':=[row _ _ _,row _ _ _,slv _ _ _ _ _ _,slv _ _ _ _ _ _,slv _ _ _ _ _ _]) (.inl I) Zu I I I Zh ir ir ?_;exact⟨_,_,I,I⟩):P:=h
theorem kZ(h:Q)(f:Ld Q->P:=by intro y9;exact Zy (dy py py I) y9.1):P:=f ⟨h⟩
theorem Je(h:Q)(f:Ld Q->P:=by intro y9;refine cP 16 Zk ?_;exact fq I I (cL (vs:=te.cells) ir I I (jR I) Za mS) ZJ y9.1):P:=f ⟨h⟩
theorem Jd(h:Q)(f:Ld Q->P:=by intro y9;refine cP 17 Zk ?_;exact fq I I (cL (vs:=tr.cells) ir I I (jR I) Za mS) ZJ y9.1):P:=f ⟨h⟩
theorem Wq141(h:Q)(f:Ld Q->P:=by intro y9;refine bL (λx:Int=>x=0->(bV op).1.1<=J s.d/\(bV op).2.1<=J s.r) (λh=>by cases h) ?_;exact bL (λx:Int=>x=0->(bV op).1.1<=J s.d/\(bV op).2.1<=J s.r) (λh=>by cases h) y9.1):P:=f ⟨h⟩
theorem RA(h:Q)(f:Ld Q->P:=by intro y9;refine Zy (fT py py I) ?_;refine ZA ?_;exact Zy (fG (Zv I) (Zv I) O (show _=((va%64:Nat):Int)from by rw[aq O];omega)) y9.1):P:=f ⟨h⟩
theorem Wq143(h:P:=by refine Wq56 ?_;refine Vz ?_;refine ek I (Ay py (Fu I ir)) I ?_;refine tD ?_;refine XF I ?_;exact Wq69):P:=h
theorem ii(h:Q)(f:Ld Q->P:=by intro y9;refine UK ?_;exact W8 y9.1):P:=f ⟨h⟩
theorem ED(h:P:=by rintro _ _ ⟨_,⟨A',c',rfl,rfl⟩,rfl⟩;refine U8 ?_;exact NI):P:=h
theorem mU(h:Q)(f:Ld Q->P:=by intro y9;exact Zy (cz I I py I) y9.1):P:=f ⟨h⟩
theorem Wq147(h:P:=by refine fh ?_;refine UN ?_;refine bK (row b8 (s.cells (.slice X.Ad (J s.d) X.cd) (.slice X.Ar (J s.r) X.cr)) 36::row b9 (RS.cells ⟨xr,A2,c2⟩) 180::tF bu bb L s X U be E2) Zj ?_;refine xw (cs':=tF bu bb L s X U be E2) (.inl I) (List.Sublist.cons _ (List.Sublist.cons _ (aL _))) I I I I Zh Zh ir ir ir ir ?_;rw[hTn];exact⟨E2,hE2,hEe,X,⟨xr,A2,c2⟩,I,I⟩):P:=h
theorem sh(h:P:=by simp only[kT, *,ah,ac]):P:=h
theorem Rz(h:Q)(f:Ld Q->P:=by intro y9;exact dZ (bX (vs:=[.slice A1 (J (E.take (N*64))) c1,.slice B (J (k.take 1024)) e,.i (N:Int)]) ir ir py) (cq Zh I) I y9.1):P:=f ⟨h⟩
theorem ig(h:P:=by simp;omega):P:=h
theorem Ry(h:P:=by simp[Builtin.delete_,run_underlying hT,MapKept.run_getObj_map hb,hK.K.check w _ hlq,h2,MapKept.run_setObj_map _ hb,Result.andThen,setBlock]):P:=h
theorem Rx(h:Q)(f:Ld Q->P:=by intro y9;refine mv ?_;exact Zy (ez (Zv I) (Zv I) (show _=(J l:Int)from by rw[hlen];exact aQ _ ⟨by omega,by omega⟩|>.trans O)) y9.1):P:=f ⟨h⟩
theorem Wq153(h:P:=by refine ZA ?_;refine Zy (jT (Zv I) (Zv I) O (show _=m/256 from XH _ 8)) ?_;refine UK ?_;refine ZM ?_;refine oV ?_;exact RI):P:=h
theorem Rw(h:Q)(f:Ld Q->P:=by intro y9;refine YZ ?_;refine lx ?_;refine UQ ?_;refine oV ?_;exact lL (cs':=[Vf s.trim A1 c1',Vj s.trim A2 c2']) (.inl I) Zu I I Zh ir ir y9.1):P:=f ⟨h⟩
theorem tH(h:P:=by simp only[hI,Aa, *,ah,ac]):P:=h
theorem Wq156(h:P:=by refine ZcA (VL b N ⟨code,d,⟨[],S2+1,high⟩,fl,tg,br⟩ X) (λw hi hin=>vo b N ⟨code,d,⟨[],S2+1,high⟩,fl,tg,br⟩ X hs2 2 0 0 0 (V9 .u32 S2) w hin) ?_;rintro _ _ ⟨_,⟨rfl,C2,A2,c2,hC2,rfl⟩,rfl⟩;refine ZE 13 ?_;refine pk ?_;refine VA (VL b N ⟨C2,d,⟨[],S2+1,high⟩,fl,tg,br⟩ ⟨A2,c2,X.Ad,X.cd,X.Ar,X.cr⟩) ?_;exact⟨I,C2,A2,c2,hC2,I⟩):P:=h
theorem Wq157(h:P:=by refine ZcA (VL b N ⟨code,⟨[],S2+1,high⟩,r,fl,tg,br⟩ X) (λw hi hin=>vo b N ⟨code,⟨[],S2+1,high⟩,r,fl,tg,br⟩ X hs2 1 0 0 0 (V9 .u32 S2) w hin) ?_;rintro _ _ ⟨_,⟨rfl,C2,A2,c2,hC2,rfl⟩,rfl⟩;refine ZE 13 ?_;refine pk ?_;refine VA (VL b N ⟨C2,⟨[],S2+1,high⟩,r,fl,tg,br⟩ ⟨A2,c2,X.Ad,X.cd,X.Ar,X.cr⟩) ?_;exact⟨I,C2,A2,c2,hC2,I⟩):P:=h
theorem sf(h:P:=by simp only[qo, *,ah,ac]):P:=h
theorem sc(h:P:=by simp only[cB, *,ah,ac]):P:=h
theorem Wq160(h:P:=by refine An ?_;refine Zy (fG (Zv I) (Zv I) O (show _=((v%40:Nat):Int)from by rw[aq O];omega)) ?_;refine Zy (dy (Zv I) (Zv I) (show _=((v%40+240:Nat):Int)from by rw[u32_wrap_id _ O O];omega)) ?_;refine Zy (fG (Zv I) (Zv I) O (show _=(((v%40+240)%256:Nat):Int)from by rw[aq O];omega)) ?_;refine lx ?_;exact Y5):P:=h
theorem Rv(h:Q)(f:Ld Q->P:=by intro y9;refine ng I (bR I I) (y_neqS I (cO I) (cO I) (bne_self_eq_false _)) I ?_;exact ek I (N4 py (KX I ir)) I y9.1):P:=f ⟨h⟩
theorem j6(h:Q)(f:Ld Q->P:=by intro y9;refine lN ?_;exact UQ y9.1):P:=f ⟨h⟩
theorem jb(h:Q)(f:Ld Q->P:=by intro y9;refine ZM ?_;exact UU y9.1):P:=f ⟨h⟩
theorem Wq164(h:Q)(f:Ld Q->P:=by intro y9;refine Zy (fT (Zv I) (Zv I) (show _=e/256*64 from u64_wrap_id _ O O)) ?_;refine ZA ?_;refine Zy (jT (Zv I) (Zv I) O (show _=((va/64:Nat):Int)from(XH _ 6).trans O)) ?_;refine Zy (oX (Zv I) (Zv I) (show _=((va/64%16:Nat):Int)from(Ni ⟨by omega,by omega⟩).trans O)) ?_;exact Zy (fT (Zv I) (Zv I) (show _=((4*(va/64%16):Nat):Int)from(u32_wrap_id _ O O).trans O)) y9.1):P:=f ⟨h⟩
theorem Wq165(h:Q)(f:Ld Q->P:=by intro y9;refine CN I (bS I I) (bX (vs:=vA.cells (.slice none 0 0) (.slice none 0 0)) ir ir py) (cq Zh I) I ?_;refine ng I (bS I I) (ui py) I ?_;refine ng I (bS I I) (qW (cO I)) I ?_;refine ng I (bS I I) (dg 0 I (cO I) Zf) I ?_;exact CN I (bS I I) (bO ir (cO I)) (cT Zh I) I y9.1):P:=f ⟨h⟩
theorem NM(h:P:=by show _=Value.tuple #[.i R.S3.SU,.w R.S3.addr];rw[show R.S3=Tr.none from ht];rfl):P:=h
theorem qS(h:Q)(f:Ld Q->P:=by intro y9;refine ZE 9 ?_;refine ZE 10 ?_;exact ZE 11 y9.1):P:=f ⟨h⟩
theorem Ru(h:Q)(f:Ld Q->P:=by intro y9;exact iA (c:=Vf (R.wd (l++[x])).s (sA bd) cd) (c':=Vf (R.wd l).s (sA bd) cd) Za I (λw h=>mV h) y9.1):P:=f ⟨h⟩
theorem Jc(h:Q)(f:Ld Q->P:=by intro y9;exact eY 3 I Zk Zk Zk (bO ir py) (dx I) (bP (t:=370) Zh) I y9.1):P:=f ⟨h⟩
theorem qR(h:P:=by exact λ_=>by first|rfl|omega):P:=h
theorem Rt(h:Q)(f:Ld Q->P:=by intro y9;refine UK ?_;refine pt (c:=Vj s A2 c2') (c':=Vj s.trim A2 c2') Za I (λw h=>AR h) ?_;refine An ?_;refine YZ ?_;exact lx y9.1):P:=f ⟨h⟩
theorem Rs(h:Q)(f:Ld Q->P:=by intro y9;exact gS (cC (e:=5) (sz:=1) (bytes:=1) I I Za I I (λw hi=>hi.rd (UJ (sl .u8 5 A2 (J E) c2 E))) cR gD O) I y9.1):P:=f ⟨h⟩
theorem j5(h:Q)(f:Ld Q->P:=by intro y9;refine UQ ?_;exact W8 y9.1):P:=f ⟨h⟩
theorem CF(h:Q)(f:Ld Q->P:=by intro y9;exact sk I I (cL ir I I (nB x) Za mS) ZJ y9.1):P:=f ⟨h⟩
theorem Wq176(h:P:=by refine ZE 4 ?_;refine fh ?_;refine UN ?_;refine bK (row b6 (BA.cells y) 262::row b7 (RS.cells x2) 180::VZ y::Vt be E) Zj ?_;refine xw (cs':=VZ y::Vt be E) (.inl I) (List.Sublist.cons _ (List.Sublist.cons _ (aL _))) I I I I Zh Zh ir ir ir ir ?_;exact⟨E,hE,by rw[hfn],by rw[hfn];exact⟨y,x2,I,I,λ_ _ e=>nomatch e⟩⟩):P:=h
theorem Wq177(h:Q)(f:Ld Q->P:=by intro y9;refine ZE 4 ?_;refine UE 5 3 ?_;refine eY 6 I Zk Zk Zk (bO ir py) (dx I) (bP (t:=366) Zh) I ?_;refine cP 3 Zk ?_;exact jm I I (dh (UX S l1 fix X1) I (λ_ _=>I) Zi (λw hi hin=>zR S l1 fix X1 bZ na 7 h1 h2 w hin (λw' hk=>hK w' (hi.TC Zi hk)))) (λ_=>by rintro _ _ ⟨_,⟨rfl,l2,X2,hl2,rfl⟩,rfl⟩;exact bP (t:=366) Zh) I y9.1):P:=f ⟨h⟩
theorem tG(h:P:=by simp only[df, *,ah,ac]):P:=h
theorem pQ(h:Q)(f:Ld Q->P:=by intro y9;exact Zy (cz I I (Zv I) ψ) y9.1):P:=f ⟨h⟩
theorem Ω(h:Q)(f:Ld Q->P:=by intro y9;refine UQ ?_;exact Ws (UX S l5 fix X5) (λw hi hin=>Ep S l5 fix X5 (by first|omega|(simp only[hs,hb,hl1,hl2,hl3,hl4,hl5,ar,aE,bD];omega)) 11 2 w hin) y9.1):P:=f ⟨h⟩
theorem EC(h:P:=by refine lL (cs':=[]) (.inl I) Zu I I Zh ir ir ?_;exact fx):P:=h
theorem Wq182(h:Q)(f:Ld Q->P:=by intro y9;refine bL (λq:Bool×UO×UF=>q.2.2.lines) ⟨h.mask⟩ ?_;refine bL (λq:Bool×UO×UF=>q.2.2.lines) ⟨h.mask⟩ ?_;exact bL (λq:Bool×UO×UF=>q.2.2.lines) ⟨h.mask⟩ y9.1):P:=f ⟨h⟩
theorem tE(h:P:=by simp only[St.get, *,ah,ac]):P:=h
theorem Jb(h:Q)(f:Ld Q->P:=by intro y9;refine XF I ?_;exact sk I I (cL ir I I (jR I) Za mS) ZJ y9.1):P:=f ⟨h⟩
theorem Ψ(h:Q)(f:Ld Q->P:=by intro y9;refine UN ?_;refine Vq (gU K X (R.wd ((l++[x])++[y]))) (λw hi hin=>o3 K X R (l++[x]) y w hin) ?_;refine ZA ?_;exact Vq (gU K X (R.wd (l++[x]))) (λw hi hin=>o3 K X R l x w hin) y9.1):P:=f ⟨h⟩
theorem Rq(h:Q)(f:Ld Q->P:=by intro y9;exact Zy (ez (Zv I) (Zv I) (show _=(J l:Int)from by rw[hdl1];exact aQ _ ⟨by omega,by omega⟩|>.trans O)) y9.1):P:=f ⟨h⟩
theorem Wq187(h:Q)(f:Ld Q->P:=by intro y9;refine jV (bS I I) hg0 I ?_;refine jV (bS I I) hg0 I ?_;exact jV (bS I I) hg0 I y9.1):P:=f ⟨h⟩
theorem gh(h:P:=by trivial):P:=h
theorem mT(h:Q)(f:Ld Q->P:=by intro y9;exact Zy (dy py py Zl) y9.1):P:=f ⟨h⟩
theorem Χ(h:Q)(f:Ld Q->P:=by intro y9;refine ZE 10 ?_;refine UE 11 0 ?_;refine cP 12 Zk ?_;refine iT ?_;exact Zo y9.1):P:=f ⟨h⟩
theorem Wq191(h:Q)(f:Ld Q->P:=by intro y9;refine V3 I I (uj I (cO I) (Zv I) (show _=true from by rw[k3];rfl)) ?_;refine UN ?_;exact gm (bS I I) I (dT I (λ_ _=>I) (λw hi=>qt H ⟨s2,X2,Y2,U2,d2,o2⟩ w (hi.get Zh) (hi.TX (UJ (Vf s2 X2.Ad X2.cd)) (UJ (Vj s2 X2.Ar X2.cr)) (by show J s2.d*4<=_;omega) (by show J s2.r*4<=_;omega)))) rfl y9.1):P:=f ⟨h⟩
theorem Wq192(h:Q)(f:Ld Q->P:=by intro y9;refine eX 10 I Zk Zk Zk (cz I I (Zv I) (show _=V9 .u32 (J l9:Int)from by rw[hml])) rfl ?_;refine eX 11 I Zk Zk Zk (cn (bb:=ba) (o:=0) (n:=J m) (c:=cl) (j:=n) (sz:=5) (r:=n*5) I ir (Zv I) (Zv I) ir UL O) I ?_;refine UE 12 4 ?_;refine cP 13 Zk ?_;exact fq I I (EW ir I I I Za O) ZJ y9.1):P:=f ⟨h⟩
theorem Rp(h:Q)(f:Ld Q->P:=by intro y9;refine m4 ?_;refine eX 9 I Zk Zk Zk (ez py py hwr) I ?_;exact eX 10 I Zk Zk Zk (cz I I py I) I y9.1):P:=f ⟨h⟩
theorem Wq194(h:P:=by refine UR ?_;refine jU ?_;refine An ?_;refine bK (row b8 (s9.cells (.slice X3.Ad (J s9.d) X3.cd) (.slice X3.Ar (J s9.r) X3.cr)) 36::WJ be bu bb L D s9 X3 Y3 U9 d9 E3) Zj ?_;refine lL (cs':=(WJ be bu bb L D s9 X3 Y3 U9 d9 E3)) (.inl I) Zu I I Zh ir ir ?_;exact⟨X3,Y3,E3,hE3,hEe3,I,I⟩):P:=h
theorem jP(h:Q)(f:Ld Q->P:=by intro y9;refine U8 ?_;exact Wl y9.1):P:=f ⟨h⟩
theorem Wq196(h:Q)(f:Ld Q->P:=by intro y9;refine UZ (λw hi=>Fk L M a 1 O O w (his _ _ w hi)) ?_;rw[ap (show a+1<=L.n*64 by omega)];refine UN ?_;refine j6 ?_;exact UZ (λw hi=>yD a O w) y9.1):P:=f ⟨h⟩
theorem Φ(h:Q)(f:Ld Q->P:=by intro y9;exact dZ (bX (vs:=[.i op,.i dst,.i xa,.i xb,.w imm]) ir ir py) (fB hrc2 (λj v hj=>fw (f:=II.cells) ir (i:=j) hx hj)) I y9.1):P:=f ⟨h⟩
theorem fE(h:Q)(f:Ld Q->P:=by intro y9;simp only[ac];exact y9.1):P:=f ⟨h⟩
theorem CE(h:Q)(f:Ld Q->P:=by intro y9;exact Zy (cz I I (Zv I) (u32_wrap_id _ O O)) y9.1):P:=f ⟨h⟩
theorem jO(h:Q)(f:Ld Q->P:=by intro y9;refine An ?_;exact ZL y9.1):P:=f ⟨h⟩
theorem Ro(h:Q)(f:Ld Q->P:=by intro y9;refine UN ?_;exact Vq (gU (VF br bu D) X (R.wd (l++[(va:Int)]))) (λw hi hin=>o3 (VF br bu D) X R l va w hin) y9.1):P:=f ⟨h⟩
theorem Ja(h:Q)(f:Ld Q->P:=by intro y9;exact Ws (VL b N L X) (λw hi hin=>tU b N L X (hs.mono O) w hin) y9.1):P:=f ⟨h⟩
theorem Wq203(h:Q)(f:Ld Q->P:=by intro y9;exact Ws (UX (⟨b21,p,Q,pl,Ar,cr,As,c2⟩:Wj) m f9 ⟨Al,cl,Af,cf⟩) (λw hi hin=>lG (⟨b21,p,Q,pl,Ar,cr,As,c2⟩:Wj) m f9 ⟨Al,cl,Af,cf⟩ O [⟨19,0,0,0,2⟩] (sA b92) 1 cJ w hin (λw' hk=>cY (hi.TM Zi (UJ (slv 370 5 (sA b92) 1 1 ([⟨19,0,0,0,2⟩].flatMap HI.cells))) hk))) y9.1):P:=f ⟨h⟩
theorem EB(h:Q)(f:Ld Q->P:=by intro y9;refine UZ (λw hi=>zf _ w) ?_;refine UU ?_;exact pm y9.1):P:=f ⟨h⟩
theorem z4(h:Q)(f:Ld Q->P:=by intro y9;exact eA (yC ir I I I Za O) y9.1):P:=f ⟨h⟩
theorem Wq206(h:Q)(f:Ld Q->P:=by intro y9;refine XF I ?_;exact mX I I (cC (e:=5) (sz:=1) (bytes:=1) I I Za I I (λw hi=>hi.rd (UJ (sl .u8 5 A2 (J E) c2 E))) cR gD O) ZJ I y9.1):P:=f ⟨h⟩
theorem NL(h:P:=by exact⟨(j7.refl w).nd,(j7.refl w).nr,(j7.refl w).hd,(j7.refl w).hr⟩):P:=h
theorem zZ(h:Q)(f:Ld Q->P:=by intro y9;exact ZcA (uF bu bb L U) (λw hi hin=>HP w hin) y9.1):P:=f ⟨h⟩
theorem Τ(h:Q)(f:Ld Q->P:=by intro y9;refine Zy (dj (j:=(a/64)) (sz:=1) (r:=2+a/64) I ir (Zv I) (Zv I) UL UL O) ?_;exact eA (jB ir I I I Za (by rw[sF htl];omega)) y9.1):P:=f ⟨h⟩
theorem Wq210(h:Q)(f:Ld Q->P:=by intro y9;refine qZ 6 I Zk Zk Zk Zk (bO ir py) (cT Zh (N0 hR)) I ?_;refine ZE 7 ?_;refine eX 8 I Zk Zk Zk (cZ (j:=pl) I ir (Zv I) (Zv I) UL UL) I ?_;refine qZ 9 I Zk Zk Zk Zk (bO ir py) (yI Zh (cw hxw)) I ?_;exact eX 10 I Zk Zk Zk (cz I I (Zv I) ψ) I y9.1):P:=f ⟨h⟩
theorem Rm(h:Q)(f:Ld Q->P:=by intro y9;exact Zy (fG (Zv I) (Zv I) O (show _=((v%256:Nat):Int)from by rw[aq O];omega)) y9.1):P:=f ⟨h⟩
theorem nZ(h:Q)(f:Ld Q->P:=by intro y9;refine lO ?_;exact UE 2 0 y9.1):P:=f ⟨h⟩
theorem Wq214(h:P:=by refine Va ?_;refine ZS (λw hi=>hJ X10.Al X10.cl w (cY (hi.get (UJ (W7 X10.Al X10.cl l10))))) ?_;rintro _ _ ⟨_,⟨A7,c7,rfl,rfl⟩,rfl⟩;refine US ?_;refine wB (cs':=[sl .u8 5 A7 (J (cH l10)) c7 (cH l10)]) (.inl I) Zu I I I ?_;exact⟨A7,c7,I,I⟩):P:=h
theorem et(h:Q)(f:Ld Q->P:=by intro y9;exact XF I y9.1):P:=f ⟨h⟩
theorem Wq216(h:Q)(f:Ld Q->P:=by intro y9;refine qT ?_;refine Zy (cz I I py (kw m hk4)) ?_;refine Vq (V6 K n (M.Tj a m k)) (λw hi hin=>i4 K n (M.Tj a m k) (hM.Tj m k O) (a+k) O (mC m k) w hin) ?_;refine UQ ?_;exact Zy (dy (Zv I) (Zv I) (show _=((k+1:Nat):Int)from(u64_wrap_id _ O O).trans O)) y9.1):P:=f ⟨h⟩
theorem Rl(h:P:=by have hm2:iv pl p.target=p.target:=(by unfold iv;rw[hc28,ac]);refine UQ ?_;exact Wq7):P:=h
theorem mZ(h:P:=by refine UK ?_;exact wQ):P:=h
theorem NK(h:Q)(f:Ld Q->P:=by intro y9;refine XN ?_;exact ek I (kv py (.succ _ (.succ _ (.zero _ _)))) I y9.1):P:=f ⟨h⟩
theorem Ρ(h:Q)(f:Ld Q->P:=by intro y9;refine Zy (iy (j:=n) hag I ir py py ir (λ_=>hn)) ?_;exact dZ (bO ir py) (oA (v:= .i (S.pl.r n)) hreg (jK hn)) I y9.1):P:=f ⟨h⟩
theorem Ο(h:Q)(f:Ld Q->P:=by intro y9;refine ng I (bR I I) (Aw (cO I) (cO I) (bne_self_eq_false _)) I ?_;refine ek I (N4 py (KX I ir)) I ?_;exact Wq60 y9.1):P:=f ⟨h⟩
theorem Rk(h:Q)(f:Ld Q->P:=by intro y9;exact bL (z8 s) ⟨⟨h.pc,h.flags,h.root,h.vec,h.epc,h.SU,h.addr,h.count,h.d,h.r⟩,hf,I⟩ y9.1):P:=f ⟨h⟩
theorem Rj(h:Q)(f:Ld Q->P:=by intro y9;exact gS (iZ ([Y r]) I I HF Zi (λw hi hin=>HC r x w hrk (aG hx) hin)) I y9.1):P:=f ⟨h⟩
theorem Wq227(h:Q)(f:Ld Q->P:=by intro y9;refine eL ?_;refine j6 ?_;refine dZ (bX (vs:=[.slice A (J l) c,.slice B (J k) e,.i (n:Int)]) ir ir py) (cq Zh I) I ?_;refine ZA ?_;exact Ws ([ft bp B0 W0 P0]) (λw hi hin=>HN bp w hin (λw' hk=>U5.Th hA hi Zi hk) (λw' hk=>U5.Th hB hi Zi hk)) y9.1):P:=f ⟨h⟩
theorem Ξ(h:Q)(f:Ld Q->P:=by intro y9;refine fR ?_;exact dZ (bX (vs:=q.s.cells (.slice X1.Ad (J q.s.d) X1.cd) (.slice X1.Ar (J q.s.r) X1.cr)) ir ir py) (cq Zh I) I y9.1):P:=f ⟨h⟩
theorem I9(h:P:=by simp only[aE,bD];omega):P:=h
theorem wZ(h:Q)(f:Ld Q->P:=by intro y9;exact jm I I (t_box I I) ZJ I y9.1):P:=f ⟨h⟩
theorem Ν(h:Q)(f:Ld Q->P:=by intro y9;refine tD ?_;refine ek I (qW py) I ?_;refine ek I (dg 1 I py Zf) I ?_;exact yq I (bO ir py) (cT Zh I) I y9.1):P:=f ⟨h⟩
theorem EA(h:P:=by refine fS ?_;exact⟨by unfold sI;grind,rfl⟩):P:=h
theorem Wq233(h:Q)(f:Ld Q->P:=by intro y9;refine gP ?_;rw[ao (show¬(p:Int)<0 by omega)];refine UQ ?_;refine iX (bR I I) (bO ir (cO I)) (cW gQ I) I ?_;exact gm (bR I I) I (dT I (λ_ _=>I) (λw hi=>zh L.bt L.bp L.o L.bf L.bg L.n w (bJ.old h2 hi))) I y9.1):P:=f ⟨h⟩
theorem kY(h:P:=by simp_all):P:=h
theorem zY(h:P:=by simp only[xL, *,ah,ac]):P:=h
theorem NJ(h:Q)(f:Ld Q->P:=by intro y9;exact io (cs':=[row _ _ _,slv _ _ _ _ _ _,slv _ _ _ _ _ _]) (.inr I) Zu I y9.1):P:=f ⟨h⟩
theorem Ri(h:Q)(f:Ld Q->P:=by intro y9;refine UN ?_;exact Vq (gU (VF br bu D) X r) (λw hi hin=>zJ (VF br bu D) X r 10 va w hin) y9.1):P:=f ⟨h⟩
theorem Μ(h:Q)(f:Ld Q->P:=by intro y9;refine NQ ?_;refine cP 12 Zk ?_;refine un I (bO ir py) (da Zh (cw (i3 l x))) I ?_;refine cP 13 Zk ?_;exact wW y9.1):P:=f ⟨h⟩
theorem Wq239(h:Q)(f:Ld Q->P:=by intro y9;refine Wq165 ?_;refine ng I (bS I I) (ui py) I ?_;refine ng I (bS I I) (qW (cO I)) I ?_;refine ng I (bS I I) (dg 1 I (cO I) Zf) I ?_;exact CN I (bS I I) (bO ir (cO I)) (cT Zh I) I y9.1):P:=f ⟨h⟩
theorem Rh(h:Q)(f:Ld Q->P:=by intro y9;refine qT ?_;refine ZA ?_;refine qT ?_;refine Zy (Aw py py (tO ha hb)) ?_;exact Wq48 y9.1):P:=f ⟨h⟩
theorem zX(h:Q)(f:Ld Q->P:=by intro y9;refine CA ?_;refine UE 3 1 ?_;exact ZG 4 y9.1):P:=f ⟨h⟩
theorem Λ(h:P:=by first|omega|(simp only[hs,hb,hl1,hl2,hl3,hl4,hl5,hl6,hl7,ar,aE,bD];omega)):P:=h
theorem Κ(h:P:=by have:J ((l++[x])++[y])<=100000:=hd;simp only[ar,aE,bD]at this;omega):P:=h
theorem Wq248(h:Q)(f:Ld Q->P:=by intro y9;refine ZE 10 ?_;refine UE 11 0 ?_;refine cP 12 Zk ?_;exact fq I I (eo (ys:=g18L F (zS t pc) ⟨A2,c2,A3,c3⟩) (n:=16) (vs:=(zS t pc).cells (.slice A2 (J t.d) c2) (.slice A3 (J t.r) c3)) I ir I I (jR I) Za I (Nat.le_of_ble_eq_true I)) ZJ y9.1):P:=f ⟨h⟩
theorem oW(h:P:=by refine po ?_;exact fx):P:=h
theorem Wq250(h:Q)(f:Ld Q->P:=by intro y9;refine et ?_;exact lP I I (bS I I) I (dT I (λ_ _=>I) (λw hi=>nL NY NY X1.Ad X1.Ar none none X1.cd X1.cr 0 0 w ⟨hi.rd (UJ (Vf NY X1.Ad X1.cd)),hi.rd (UJ (Vj NY X1.Ar X1.cr)),by decide,by decide⟩ (iL.nil_ w rfl rfl))) ZJ rfl y9.1):P:=f ⟨h⟩
theorem Ι(h:Q)(f:Ld Q->P:=by intro y9;refine Ez ?_;refine ng I (bR I I) (qW (cO I)) I ?_;exact ng I (bR I I) (dg 0 I (cO I) Zf) I y9.1):P:=f ⟨h⟩
theorem Θ(h:Q)(f:Ld Q->P:=by intro y9;refine eL ?_;exact ZS (λw hi=>HI w (h.Tb hi) (λa ha=>⟨(hl a ha).v,(hl a ha).at_,(hl a ha).rd.Tb hi,(hl a ha).bs⟩) (hB.Tb hi)) y9.1):P:=f ⟨h⟩
theorem Wq253(h:Q)(f:Ld Q->P:=by intro y9;refine et ?_;exact mX I I (iZ (plF b7 (sA b66) i i pl) I I (λ_ _=>I) Zi (λw hi hin=>xm b7 (sA b66) i i pl hpl Q.Ar Q.cr p.Ta O (by rw[hpl];exact hoR2) w hin (λw' hk=>U5.Th h.Ta hi Zi hk))) ZJ I y9.1):P:=f ⟨h⟩
theorem Wq254(h:Q)(f:Ld Q->P:=by intro y9;refine cP 7 Zk ?_;exact jm I I (dh (UX S l2 fix X2) I (λ_ _=>I) Zi (λw hi hin=>zR S l2 fix X2 bZ nb 8 h3 h4 w hin (λw' hk=>hK w' (hi.TC Zi hk)))) (λ_=>by rintro _ _ ⟨_,⟨rfl,l3,X3,hl3,rfl⟩,rfl⟩;exact bP (t:=366) Zh) I y9.1):P:=f ⟨h⟩
theorem Η(h:Q)(f:Ld Q->P:=by intro y9;exact iA (c:=Vj (R.wr (l++[x])).s (sA bd) cr) (c':=Vj (R.wr l).s (sA bd) cr) Za I (λw h=>mV h) y9.1):P:=f ⟨h⟩
theorem Wq256(h:Q)(f:Ld Q->P:=by intro y9;refine cP 7 Zk ?_;exact ZT (λw hi=>hrp (sA b26) 1 w (hi.rd (UJ (slv 3 1 (sA b26) 1 1 (ints .i64 [-1]))))) y9.1):P:=f ⟨h⟩
theorem Ζ(h:P:=by first|omega|(simp only[hs,hb,hl1,hl2,hl3,hl4,hl5,hl6,ar,aE,bD];omega)):P:=h
theorem Wq258(h:P:=by refine io (cs':=[row _ _ _,slv _ _ _ _ _ _,slv _ _ _ _ _ _,row _ _ _,Wg _ _ _ _,row _ _ _]) (.inr I) Zu I ?_;exact fx):P:=h
theorem Ε(h:Q)(f:Ld Q->P:=by intro y9;refine fh ?_;refine UK ?_;refine Zy (dy (Zv I) (Zv I) (show _=((k+1:Nat):Int)from(u32_wrap_id _ O O).trans O)) ?_;exact An y9.1):P:=f ⟨h⟩
theorem Wq260(h:Q)(f:Ld Q->P:=by intro y9;refine gP ?_;refine Zy (cn (j:=J l) (sz:=1) (r:=J l) I ir (Zv I) (Zv I) UL UL O) ?_;refine dZ (bO ir py) (da Zh (cw (i3 l x))) I ?_;refine fR ?_;exact Zy (fc (J l) I ir (Zv I) (Zv I) qR UL) y9.1):P:=f ⟨h⟩
theorem Wq261(h:Q)(f:Ld Q->P:=by intro y9;refine ek I (dg 2 I py Zf) I ?_;refine z5 ?_;refine ek I (fG (Zv I) (Zv I) O (show _=((v%3:Nat):Int)from by rw[aq O];omega)) rfl ?_;refine et ?_;exact mX I I (ky I I ir ir I I) ZJ I y9.1):P:=f ⟨h⟩
theorem Wq263(h:Q)(f:Ld Q->P:=by intro y9;exact jm I I (cC (n:=J L.d.l) (e:=3) (sz:=1) (bytes:=8) I I Za I I (λw hi=>hi.rd (UJ (slv 3 1 (sA b40) 1 1 (ints .i64 [L.here])))) cR gD O) (λ_=>by rintro _ _ ⟨A9,c9,rfl,rfl⟩;exact bP (t:=51) Zh) I y9.1):P:=f ⟨h⟩
theorem Wq264(h:Q)(f:Ld Q->P:=by intro y9;exact ZcA (VL b N ⟨C4,s3,L.r,(J C3:Int),L.target,L.branch⟩ ⟨A4,c4,X.Ad,X.cd,X.Ar,X.cr⟩) (λw hi hin=>vo b N ⟨C4,s3,L.r,(J C3:Int),L.target,L.branch⟩ ⟨A4,c4,X.Ad,X.cd,X.Ar,X.cr⟩ hs4 3 0 (fO 1 C2 s2).1 (fO 1 L.code L.d).1 op w hin) y9.1):P:=f ⟨h⟩
theorem Wq265(h:Q)(f:Ld Q->P:=by intro y9;refine eX 12 I Zk Zk Zk (cz I I (Zv I) (show _=(nm:Int)from by first|exact u64_wrap_id _ O O|exact uint_wrap_id _ O O)) rfl ?_;refine eX 13 I Zk Zk Zk (pq (Zv I) (Zv I) O hL2) I ?_;refine ZE 14 ?_;refine ZE 15 ?_;exact UE 16 1 y9.1):P:=f ⟨h⟩
theorem Wq266(h:Q)(f:Ld Q->P:=by intro y9;refine ZE 0 ?_;refine ZI 1 ?_;refine ZE 2 ?_;refine cP 3 Zk ?_;exact ZR y9.1):P:=f ⟨h⟩
theorem Ey(h:P:=by simp only[asked,xE, *,ah,ac]):P:=h
theorem Δ(h:Q)(f:Ld Q->P:=by intro y9;exact dZ (bX (vs:=s1.cells (.slice X1.Ad (J s1.d) X1.cd) (.slice X1.Ar (J s1.r) X1.cr)) ir ir py) (cq Zh I) I y9.1):P:=f ⟨h⟩
theorem Wq272(h:P:=by refine wsi_y I (bS I I) (bX (vs:=vA.cells (.slice none 0 0) (.slice none 0 0)) ir ir py) (cq Zh I) I ?_;refine et ?_;refine Wq78 ?_;rintro _ _ ⟨_,⟨X2,Y2,E2,hE5,hE6,rfl,rfl⟩,rfl⟩;exact Wq143):P:=h
theorem Wq273(h:Q)(f:Ld Q->P:=by intro y9;refine UN ?_;exact Zy (dy (Zv I) (Zv I) (show _=((16+k:Nat):Int)from by rw[aQ _ ⟨by show -9223372036854775808<=(16:Int)+((k:Nat):Int);omega,by show(16:Int)+((k:Nat):Int)<=9223372036854775807;omega⟩];show(16:Int)+((k:Nat):Int)=_;omega)) y9.1):P:=f ⟨h⟩
theorem NH(h:Q)(f:Ld Q->P:=by intro y9;refine UQ ?_;exact ZS (λw hi=>pL s Ad Ar cd cr w (h w hi.To)) y9.1):P:=f ⟨h⟩
theorem Γ(h:Q)(f:Ld Q->P:=by intro y9;refine eX 7 I Zk Zk Zk (dy py py I) I ?_;refine eX 8 I Zk Zk Zk (ez py py I) I ?_;refine eX 12 I Zk Zk Zk (ez py py I) I ?_;refine eX 13 I Zk Zk Zk (cz I I (Zv I) (EN _ _ _)) I ?_;exact cP 14 Zk y9.1):P:=f ⟨h⟩
theorem Wq276(h:Q)(f:Ld Q->P:=by intro y9;refine ZE 15 ?_;refine UE 16 0 ?_;refine cP 17 Zk ?_;exact fq I I (eo (ys:=dgL R s2 X3) (n:=16) (vs:=s2.cells (.slice X3.Ad (J s2.d) X3.cd) (.slice X3.Ar (J s2.r) X3.cr)) I ir I I (jR I) Za I (Nat.le_of_ble_eq_true I)) ZJ y9.1):P:=f ⟨h⟩
theorem Β(h:Q)(f:Ld Q->P:=by intro y9;exact Zy (kf (Zv I) (Zv I) O (show _=((a/64:Nat):Int)from by rw[bl O,u32_wrap_id _ O O];omega)) y9.1):P:=f ⟨h⟩
theorem Wq278(h:Q)(f:Ld Q->P:=by intro y9;exact mX I I (iZ (plF b7 (sA b66) i i pl) I I (λ_ _=>I) Zi (λw hi hin=>xm b7 (sA b66) i i pl hpl Q.Ad Q.cd p.S9 O (by rw[hpl];exact hoD2) w hin (λw' hk=>U5.Th h.S9 hi Zi hk))) ZJ I y9.1):P:=f ⟨h⟩
theorem Rg(h:P:=by exact⟨(kA w).nd,(kA w).nr,(kA w).hd,(kA w).hr⟩):P:=h
theorem qQ(h:Q)(f:Ld Q->P:=by intro y9;refine CA ?_;exact UE 3 0 y9.1):P:=f ⟨h⟩
theorem Α(h:P:=by first|omega|(simp only[hs,hb,hl1,hl2,hl3,hl4,ar,aE,bD];omega)):P:=h
theorem Wq284(h:Q)(f:Ld Q->P:=by intro y9;rw[cy,show J L.d.l+1=J (L.d.l++[(fO 2 L.code L.r).1]) by simp];refine Χ ?_;refine Vd (((⟨C2,⟨L.d.l++[(fO 2 L.code L.r).1],L.d.S2,L.d.high⟩,s2,L.flags,L.target,L.branch⟩,⟨A2,c2,A9,c9,X.Ar,X.cr⟩):Lw×Wq)) ?_;dsimp only;exact y9.1):P:=f ⟨h⟩
theorem Wq285(h:Q)(f:Ld Q->P:=by intro y9;rw[cy,show J L.r.l+1=J (L.r.l++[(fO 1 L.code L.d).1]) by simp];refine Χ ?_;refine Vd (((⟨C2,s2,⟨L.r.l++[(fO 1 L.code L.d).1],L.r.S2,L.r.high⟩,L.flags,L.target,L.branch⟩,⟨A2,c2,X.Ad,X.cd,A9,c9⟩):Lw×Wq)) ?_;dsimp only;exact y9.1):P:=f ⟨h⟩
theorem Wq286(h:Q)(f:Ld Q->P:=by intro y9;rw[show(jd a1 a2' va j).length+1=J (jd a1 a2' va (j+1)) by(rw[oo];simp),show ints .u32 (jd a1 a2' va j)++[Value.w (iN a1 a2' va j)]=ints .u32 (jd a1 a2' va (j+1)) by(rw[oo];exact cy _ [_])];exact j5 y9.1):P:=f ⟨h⟩
theorem Wq287(h:P:=by refine fq I I (cL ir I I (mW y) Za mS) QT ?_;refine UR ?_;refine cP 3 Zk ?_;refine fq I I (cL ir I I (nB x2) Za mS) QT ?_;refine UR ?_;exact Wq176):P:=h
theorem Wq288(h:P:=by refine ZA ?_;refine gS (cC (e:=5) (sz:=1) (bytes:=1) I I Za I I (λw hi=>h.Tb hi) cR gD O) I ?_;rintro _ _ ⟨A',c',rfl,rfl⟩;simp only[bC,aR];refine UK ?_;exact Nq):P:=h
theorem ω(h:P:=by refine ret3 (cs':=[row _ _ _,slv _ _ _ _ _ _,slv _ _ _ _ _ _]) (.inl I) Zu I I I I ?_;exact⟨_,I,I⟩):P:=h
theorem nY(h:Q)(f:Ld Q->P:=by intro y9;refine gP ?_;exact Wl y9.1):P:=f ⟨h⟩
theorem NG(h:P:=by refine UK ?_;refine VA ([row _ _ _]) ?_;exact⟨_,I,I⟩):P:=h
theorem Wq292(h:Q)(f:Ld Q->P:=by intro y9;refine UQ ?_;refine dB 370 5 ?_;refine dB 3 1 ?_;refine ZA ?_;exact Ws (UX (⟨b21,p,Q,pl,Ar,cr,As,c2⟩:Wj) [] [] ⟨none,0,none,0⟩) (λw hi hin=>mn (⟨b21,p,Q,pl,Ar,cr,As,c2⟩:Wj) [] [] ⟨none,0,none,0⟩ cJ 15 0 w hin) y9.1):P:=f ⟨h⟩
theorem Wq293(h:P:=by have h7:=((h.add 0 0 0 nn).TH [w.here] (λn hn=>by rw[aX.1 hn];exact pf _ _)).S5;rw[List.map_cons,List.map_nil,show eE D R (w.add 0 0 0 nn).code w.here=nn from kH _ _]at h7;exact h7):P:=h
theorem qP(h:P:=by refine UQ ?_;exact wQ):P:=h
theorem I7(h:P:=by rw[UG.pop_wd,UG.top_wd,UG.pop_wd,UG.top_wd];rfl):P:=h
theorem Wq296(h:P:=by refine Wq78 ?_;rintro _ _ ⟨_,⟨X2,Y2,E2,hE5,hE6,rfl,rfl⟩,rfl⟩;refine CN I (bS I I) (bX (vs:=vA.cells (.slice none 0 0) (.slice none 0 0)) ir ir py) (cq Zh I) I ?_;exact Wq143):P:=h
theorem Wq297(h:Q)(f:Ld Q->P:=by intro y9;refine ZI 0 ?_;refine xg 1 I Zk Zk Zk (bX (vs:=RS.cells ⟨xr,A2,c2⟩) ir ir py) (λx hx=>gl x hx) (bP (t:=180) Zh) I ?_;refine cP 2 Zk ?_;exact fq I I (cL ir I I (jR I) Za mS) QT y9.1):P:=f ⟨h⟩
theorem Wq298(h:P:=by refine Vd (((⟨C2,L.d,⟨L.r.l++[L.here],L.r.S2,L.r.high⟩,L.flags,L.target,L.branch⟩,⟨A2,c2,X.Ad,X.cd,A9,c9⟩):Lw×Wq)) ?_;dsimp only;subst hC2;unfold Lw.go;rw[hc3,hc5,hc8,hc10,hc14,hc18,hc20,hc22,hc28];rfl):P:=h
theorem NF(h:P:=by refine po ?_;exact⟨by unfold ib j4;grind,rfl⟩):P:=h
theorem Wq300(h:Q)(f:Ld Q->P:=by intro y9;refine UK ?_;refine kZ ?_;refine lx ?_;refine UQ ?_;exact ZS (λw hi=>uy s.next X.Ad X.Ar X.cd X.cr 1 0 w (hi.TX (UJ (Vf s X.Ad X.cd)) (UJ (Vj s X.Ar X.cr)) (show J s.d*4<=_ by omega) (show J s.r*4<=_ by omega))) y9.1):P:=f ⟨h⟩
theorem I6(h:Q)(f:Ld Q->P:=by intro y9;exact ZcS (VQ E.bc E.room E.X) (λw hi hin=>HF w hin) y9.1):P:=f ⟨h⟩
theorem Wq302(h:Q)(f:Ld Q->P:=by intro y9;refine eX 5 I Zk Zk Zk (dj (j:=(va/64%16)) (sz:=4) (r:=(va/64%16)*4) I ir (Zv I) (Zv I) UL UL O) I ?_;exact qZ 6 I Zk Zk Zk Zk (bX (vs:=e.cells) ir ir py) (oE (o:=(va/64%16)*4) h (gK he)) I y9.1):P:=f ⟨h⟩
theorem Wq303(h:P:=by have:=Mo (gI p0) p0.code 0 (R9 (J p0.code) 0) [];have e:(cG p0).code=(nQ (gI p0) p0.code 0 (R9 (J p0.code) 0) []).2:=rfl;rw[e];rw[f1]at this|-;simp at this;omega):P:=h
theorem Wq304(h:Q)(f:Ld Q->P:=by intro y9;refine Zy (dy (Zv I) (Zv I) (show _=((a+k:Nat):Int)from(u64_wrap_id _ O O).trans O)) ?_;refine CE ?_;refine An ?_;refine Zy (fT (Zv I) (Zv I) (show _=((8*k:Nat):Int)from(u64_wrap_id _ O O).trans O)) ?_;exact Wq216 y9.1):P:=f ⟨h⟩
theorem sb(h:Q)(f:Ld Q->P:=by intro y9;exact Zy (ez py py Zl) y9.1):P:=f ⟨h⟩
theorem Wq307(h:Q)(f:Ld Q->P:=by intro y9;rw[cy,show J L.d.l+1=J (L.d.l++[L.here]) by simp];refine ZE 11 ?_;refine UE 12 0 ?_;refine cP 13 Zk ?_;exact fq I I (mD ir I I I Za Zp) (λ_=>by refine UR ?_;exact bP (t:=51) Zh) y9.1):P:=f ⟨h⟩
theorem I5(h:Q)(f:Ld Q->P:=by intro y9;refine fh ?_;refine UQ ?_;refine ij ?_;exact N2 y9.1):P:=f ⟨h⟩
theorem Wq309(h:Q)(f:Ld Q->P:=by intro y9;refine fR ?_;refine cK I ((bF.2 (by rw[hlen];omega))) ?_;refine UQ ?_;refine Zy (cZ (j:=0) I ir (Zv I) (Zv I) UL UL) ?_;exact dZ (bO ir py) (dK h (cw (l:=op::l) (j:=0) I)) I y9.1):P:=f ⟨h⟩
theorem sa(h:Q)(f:Ld Q->P:=by intro y9;exact Zy (ez py py I) y9.1):P:=f ⟨h⟩
theorem gg(h:Q)(f:Ld Q->P:=by intro y9;exact cP 8 Zk y9.1):P:=f ⟨h⟩
theorem Wq313(h:Q)(f:Ld Q->P:=by intro y9;refine bQ (Vg [14,17]) Zk ?_;refine qQ ?_;refine qZ 4 I Zk Zk Zk Zk (bX (vs:=s.cells (.slice X2.Ad (J s.d) X2.cd) (.slice X2.Ar (J s.r) X2.cr)) ir ir py) (cq Zh I) I ?_;refine qM ?_;exact UE 7 16 y9.1):P:=f ⟨h⟩
theorem Wq314(h:Q)(f:Ld Q->P:=by intro y9;refine UK ?_;refine Zy (cn (bb:=b66) (o:=0) (n:=i) (c:=i) (j:=nf) (sz:=1) (r:=nf) I ir (Zv I) (Zv I) (λ_=>hnf) UL O) ?_;refine dZ (bO ir (Zv I)) (da Zh (jK O)) I ?_;refine lx ?_;exact eL y9.1):P:=f ⟨h⟩
theorem Wq315(h:Q)(f:Ld Q->P:=by intro y9;refine cP 17 Zk ?_;exact fq I I (cL (vs:=St.cells ⟨tpc,l++[x],R.s.r,tfl,tsu,tpg,tie,trt,tve,tep,tca,tad,tes,tei,tco,tha⟩ (.slice A1 (J (l++[x])) c1) (.slice A2 (J R.s.r) c2)) ir I I (jR I) Za mS) ZJ y9.1):P:=f ⟨h⟩
theorem Wq316(h:Q)(f:Ld Q->P:=by intro y9;exact ZT (λw hi=>hrp (sA b22) 1 w (hi.rd (UJ (slv 3 1 (sA b22) 1 1 (ints .i64 [-1]))))) y9.1):P:=f ⟨h⟩
theorem ix(h:Q)(f:Ld Q->P:=by intro y9;simp only[ah];exact y9.1):P:=f ⟨h⟩
theorem wX(h:P:=by grind [bJ.bs,ab]):P:=h
theorem Wq320(h:P:=by have hbd:J L.r.l<=600:=aN hs.rl O;refine jm I I (cC (n:=J L.r.l) (e:=3) (sz:=1) (bytes:=8) I I Za I I (λw hi=>hi.rd (UJ (slv 3 1 (sA b191) 1 1 (ints .i64 [L.here])))) cR gD O) ZJ I ?_;rintro _ _ ⟨A9,c9,rfl,rfl⟩;rw[cy,show J L.r.l+1=J (L.r.l++[L.here]) by simp];refine Χ ?_;exact Wq298):P:=h
theorem Rf(h:Q)(f:Ld Q->P:=by intro y9;exact eC (λw hi=>dA (hi.get (UJ (sl .u32 32 A1 (J l) c1 l))) O) y9.1):P:=f ⟨h⟩
theorem χ(h:Q)(f:Ld Q->P:=by intro y9;exact bQ (WM [7,9,11] (m5 b1 [.i i.op,.i i.rd,.i i.ra,.i i.rb,.w i.imm])) Zk y9.1):P:=f ⟨h⟩
theorem φ(h:Q)(f:Ld Q->P:=by intro y9;refine ek I (Ay py (Fu I ir)) I ?_;refine tD ?_;exact ng I (bS I I) (ui py) I y9.1):P:=f ⟨h⟩
theorem Re(h:Q)(f:Ld Q->P:=by intro y9;refine et ?_;exact mX I I (nu I I ir ir I I I) ZJ I y9.1):P:=f ⟨h⟩
theorem Wq325(h:Q)(f:Ld Q->P:=by intro y9;refine Zy (iy (j:=n) has I ir py py ir (λ_=>hn2)) ?_;refine dZ (bO ir py) (oA (v:= .i (S.pl.s n)) hslot (jK hn2)) I ?_;refine kZ ?_;exact Zy (cz I I (Zv I) (Jw _)) y9.1):P:=f ⟨h⟩
theorem Rc(h:Q)(f:Ld Q->P:=by intro y9;refine ng I (bR I I) (dg 2 I (cO I) Zf) I ?_;exact Ez y9.1):P:=f ⟨h⟩
theorem υ(h:Q)(f:Ld Q->P:=by intro y9;refine UZ (λw hi=>fis_ok o w) ?_;rw[ap (show(0:Int)<=o by omega),ap (show(o:Int)<4 by omega)];exact y9.1):P:=f ⟨h⟩
theorem τ(h:Q)(f:Ld Q->P:=by intro y9;refine U8 ?_;refine UZ (λw hi=>HX X1 Ap cp w (hi.rd (UJ (sl .i64 3 Ap (J q.SV) cp q.SV)))) ?_;exact UN y9.1):P:=f ⟨h⟩
theorem Wq329(h:P:=by refine ZE 7 ?_;refine pk ?_;rw[px,yZ];refine bK (nD ⟨b9,bB,bT⟩ n (R9 (n*64) 0) (R9 n false)) Zj ?_;refine tI ?_;exact⟨⟨b9,bB,bT⟩,I,I⟩):P:=h
theorem Wq330(h:P:=by rw[List.drop_length]at hf;have hf:l.findIdx? D=none:=hf;rw[hf];refine gP ?_;refine VA ([_,_]) ?_;exact⟨r,I,by rw[List.take_length]at hr;show r=(l.take (J l)).foldl step r0;grind,hrk,rfl⟩):P:=h
theorem r8(h:Q)(f:Ld Q->P:=by intro y9;refine ZE 12 ?_;exact ZE 13 y9.1):P:=f ⟨h⟩
theorem Wq332(h:Q)(f:Ld Q->P:=by intro y9;refine Zy (tM py py (Nf root hroot)) ?_;refine pQ ?_;refine Wq86 ?_;refine pQ ?_;exact Zy (dy (Zv I) (Zv I) (show _=((Xw root va:Nat):Int)from(u64_wrap_id _ O O).trans (by unfold Xw;omega))) y9.1):P:=f ⟨h⟩
theorem ς(h:Q)(f:Ld Q->P:=by intro y9;exact bQ (WM [5,7] (m5 b1 [.i i.op,.i i.rd,.i i.ra,.i i.rb,.w i.imm])) Zk y9.1):P:=f ⟨h⟩
theorem Wq334(h:Q)(f:Ld Q->P:=by intro y9;exact fq I I (eo (ys:=Yu F (zS t pc) ⟨A2,c2,A3,c3⟩) (n:=16) (vs:=(zS t pc).cells (.slice A2 (J t.d) c2) (.slice A3 (J t.r) c3)) I ir I I (jR I) Za I (Nat.le_of_ble_eq_true I)) ZJ y9.1):P:=f ⟨h⟩
theorem Wq335(h:P:=by refine US ?_;refine bK (VQ bc room ⟨ml,Ac,cc,fl,LK,Z⟩) Zj ?_;refine Fl (cs':=VQ bc room ⟨ml,Ac,cc,fl,LK,Z⟩) (.inl I) (aL _) I I ?_;exact⟨_,I,hX,I⟩):P:=h
theorem NE(h:Q)(f:Ld Q->P:=by intro y9;refine m4 ?_;refine ZE 15 ?_;refine UE 16 16 ?_;exact ZG 17 y9.1):P:=f ⟨h⟩
theorem ND(h:Q)(f:Ld Q->P:=by intro y9;refine m4 ?_;refine ZE 22 ?_;refine UE 23 17 ?_;exact ZG 24 y9.1):P:=f ⟨h⟩
theorem Wq338(h:P:=by refine Wq210 ?_;refine ZE 11 ?_;refine UE 12 0 ?_;refine eX 13 I Zk Zk Zk (dj (j:=rd) (sz:=1) (r:=rd) I ir (Zv I) (Zv I) UL UL O) I ?_;refine cP 14 Zk ?_;exact Wq124):P:=h
theorem Wq339(h:P:=by refine Va ?_;refine VA (UX S l fix X) ?_;exact⟨by unfold eQ;rw[hr];rfl,l,X,(by simp only[ah,ac,aw,aU,aR,aD]),rfl⟩):P:=h
theorem pP(h:P:=by exact⟨_,_,I,I⟩):P:=h
theorem Wq341(h:Q)(f:Ld Q->P:=by intro y9;refine jO ?_;refine U8 ?_;refine iS ?_;refine UQ ?_;exact ZS (λw hi=>Du K n m.u.m hmM w (hi.get (UJ (AZ K n))) (hi.get (UJ (slv 4 1 (sA K.bT) n n (lH (m.u.m.SX.take n)))))) y9.1):P:=f ⟨h⟩
theorem nX(h:Q)(f:Ld Q->P:=by intro y9;refine ZL ?_;exact U8 y9.1):P:=f ⟨h⟩
theorem NC(h:Q)(f:Ld Q->P:=by intro y9;rw[cy,<-ar];refine US ?_;exact W8 y9.1):P:=f ⟨h⟩
theorem Wq346(h:P:=by subst e;obtain rfl:R.push [nn]=R':=aF h;exact⟨Wi.of (l:=R.s.d) (m:=R.s.r) [] [nn] [] [] I (xf hw (QR hw.d hnn)) hf I cJ I cJ (by simp[UG.push]),rfl,rfl,rfl⟩):P:=h
theorem Rb(h:Q)(f:Ld Q->P:=by intro y9;refine UK ?_;refine UZ (λw hi=>K4 _ w) ?_;refine US ?_;exact po y9.1):P:=f ⟨h⟩
theorem Wq348(h:Q)(f:Ld Q->P:=by intro y9;exact jm I I (cC (n:=J L.d.l) (e:=3) (sz:=1) (bytes:=8) I I Za I I (λw hi=>hi.rd (UJ (slv 3 1 (sA b134) 1 1 (ints .i64 [(fO 2 L.code L.r).1])))) cR gD O) ZJ I y9.1):P:=f ⟨h⟩
theorem Wq349(h:Q)(f:Ld Q->P:=by intro y9;exact jm I I (cC (n:=J L.r.l) (e:=3) (sz:=1) (bytes:=8) I I Za I I (λw hi=>hi.rd (UJ (slv 3 1 (sA b119) 1 1 (ints .i64 [(fO 1 L.code L.d).1])))) cR gD O) ZJ I y9.1):P:=f ⟨h⟩
theorem π(h:Q)(f:Ld Q->P:=by intro y9;refine Zy (Ay (q:=false) (Zv I) ⟨_,I,λ_ e=>by simp at e⟩) ?_;refine An ?_;refine lN ?_;exact Zc y9.1):P:=f ⟨h⟩
theorem ο(h:Q)(f:Ld Q->P:=by intro y9;exact Zy (fG (Zv I) (Zv I) O (show _=((va%4:Nat):Int)from by rw[aq O];omega)) y9.1):P:=f ⟨h⟩
theorem Wq352(h:Q)(f:Ld Q->P:=by intro y9;refine dZ (bO ir py) (cT Zh (N0 hR)) I ?_;refine An ?_;refine Zy (cz I I (Zv I) Ns) ?_;refine Zy (cn (j:=pl) (sz:=1) (r:=pl) I ir (Zv I) (Zv I) UL UL O) ?_;exact z4 y9.1):P:=f ⟨h⟩
theorem I4(h:Q)(f:Ld Q->P:=by intro y9;exact V3 I I (cz I I (cO I) ψ) y9.1):P:=f ⟨h⟩
theorem Wq354(h:Q)(f:Ld Q->P:=by intro y9;exact jm I I (dh (VL b N L X) I (λ_ _=>I) Zi (λw hi hin=>vn b N L X (hs.mono O) n w hin)) (λ_=>by rintro _ _ ⟨_,⟨rfl,C2,A2,c2,hC2,rfl⟩,rfl⟩;exact bP (t:=51) Zh) I y9.1):P:=f ⟨h⟩
theorem ξ(h:Q)(f:Ld Q->P:=by intro y9;refine iT ?_;exact io (cs':=[row _ _ _,slv _ _ _ _ _ _,slv _ _ _ _ _ _,slv _ _ _ _ _ _]) (.inr I) Zu I y9.1):P:=f ⟨h⟩
theorem Wq356(h:Q)(f:Ld Q->P:=by intro y9;refine UE 15 0 ?_;refine cP 16 Zk ?_;refine iT ?_;refine Zo ?_;exact Vd (((⟨C5,⟨s3.l++[(J C4:Int)],s3.S2,s3.high⟩,L.r,(J C3:Int),L.target,L.branch⟩,⟨A5,c5,A9,c9,X.Ar,X.cr⟩):Lw×Wq)) y9.1):P:=f ⟨h⟩
theorem Ra(h:Q)(f:Ld Q->P:=by intro y9;exact gS (J7 I I Za I I (λw hi=>h.Tb hi) cR O) I y9.1):P:=f ⟨h⟩
theorem pO(h:P:=by kernel_rfl):P:=h
theorem Ew(h:P:=by refine VA ([row _ _ _]) ?_;exact fx):P:=h
theorem Q8(h:P:=by subst hji;exact hy.wpOp hi hS ⟨⟨λ_ _ _ h=>h,λh=>h⟩,H⟩):P:=h
theorem NB(h:Q)(f:Ld Q->P:=by intro y9;exact Zy (cZ (j:=j) I ir (Zv I) (Zv I) UL UL) y9.1):P:=f ⟨h⟩
theorem Wq363(h:Q)(f:Ld Q->P:=by intro y9;exact io (cs':=[row _ _ _,slv _ _ _ _ _ _,slv _ _ _ _ _ _,row _ _ _,Wg _ _ _ _,row _ _ _,row _ _ _,row _ _ _,row _ _ _,row _ _ _,slv _ _ _ _ _ _,slv _ _ _ _ _ _,row _ _ _,slv _ _ _ _ _ _]) (.inl I) Zu I y9.1):P:=f ⟨h⟩
theorem Wq364(h:Q)(f:Ld Q->P:=by intro y9;exact jm I I (cC (n:=J s3.l) (e:=3) (sz:=1) (bytes:=8) I I Za I I (λw hi=>hi.rd (UJ (slv 3 1 (sA b176) 1 1 (ints .i64 [(J C4:Int)])))) cR gD O) ZJ I y9.1):P:=f ⟨h⟩
theorem Q7(h:P:=by refine VA ([row _ _ _,slv _ _ _ _ _ _,Wg _ _ _ _]) ?_;exact fx):P:=h
theorem Wq366(h:P:=by refine Vd (((⟨C2,⟨L.d.l++[L.here],L.d.S2,L.d.high⟩,L.r,L.flags,L.target,L.branch⟩,⟨A2,c2,A9,c9,X.Ar,X.cr⟩):Lw×Wq)) ?_;dsimp only;subst hC2;unfold Lw.go;rw[hc3];rfl):P:=h
theorem Wq367(h:P:=by refine UR ?_;refine cP 3 Zk ?_;refine fq I I (cL ir I I (nB ⟨xr,A2,c2⟩) Za mS) QT ?_;refine UR ?_;refine ZE 4 ?_;exact Wq147):P:=h
theorem Wq368(h:Q)(f:Ld Q->P:=by intro y9;refine RQ I (Js (zv:= .agg #[.slice none 0 0,.bool false]) (Zv I) (Zv I) hk I D6 ir) (λw hi=>(show oc E.mr (Xe E.RZ) w from hi.get (UJ (V0 E.mr (Xe E.RZ))))) I ?_;exact et y9.1):P:=f ⟨h⟩
theorem Wq369(h:P:=by unfold Lw.go;rw[hc3,hc5,hc8,hc10,hc14,hc18,hc20,hc22];unfold Lw.reckon;dsimp only;rw[hc26];rfl):P:=h
theorem Wq370(h:Q)(f:Ld Q->P:=by intro y9;exact lL (cs':=[slv _ _ _ _ _ _,slv _ _ _ _ _ _,slv _ _ _ _ _ _,row _ _ _,row _ _ _,slv _ _ _ _ _ _,slv _ _ _ _ _ _,row _ _ _,slv _ _ _ _ _ _,Wo _ _ _ _,slv _ _ _ _ _ _]) (.inl I) Zu I I Zh ir ir y9.1):P:=f ⟨h⟩
theorem Q6(h:P:=by exact (by rcases hop with⟨rfl,rfl⟩|⟨rfl,rfl⟩;rfl;rfl)):P:=h
theorem NA(h:Q)(f:Ld Q->P:=by intro y9;refine CA ?_;refine UE 3 2 ?_;refine ZG 4 ?_;exact qM y9.1):P:=f ⟨h⟩
theorem qO(h:Q)(f:Ld Q->P:=by intro y9;refine mv ?_;exact Wl y9.1):P:=f ⟨h⟩
theorem Wq374(h:P:=by refine UK ?_;refine jQ ?_;rintro _ _ ⟨b20,rfl,rfl⟩;refine Ws (gU K X R) (λw hi hin=>jq K X R _ 1 1 [n] O w hin (λw' hk=>hi.TU Zi Zh hk)) ?_;exact ED):P:=h
theorem Wq375(h:Q)(f:Ld Q->P:=by intro y9;refine UE 9 4 ?_;refine eY 10 I Zk Zk Zk (bO ir py) (dx I) (bP (t:=366) Zh) I ?_;refine eX 11 I Zk Zk Zk (cz I I py I) I ?_;refine cP 6 Zk ?_;exact m4 y9.1):P:=f ⟨h⟩
theorem Wq376(h:Q)(f:Ld Q->P:=by intro y9;refine UK ?_;refine iC (Vg [5,10]) [(0,4),(1,0),(2,0),(3,1),(4,1),(5,3),(6,3),(7,3),(8,3),(9,3),(10,3),(11,3)] Zk Zk ?_;refine z5 ?_;refine RF ?_;exact qX I Zh ir ir (Zv I) I y9.1):P:=f ⟨h⟩
theorem Wq377(h:Q)(f:Ld Q->P:=by intro y9;refine eX 9 I Zk Zk Zk (ez py py I) I ?_;refine eX 10 I Zk Zk Zk (cz I I py I) I ?_;refine eX 11 I Zk Zk Zk (dy py py I) I ?_;refine ZE 12 ?_;exact UE 13 5 y9.1):P:=f ⟨h⟩
theorem r7(h:Q)(f:Ld Q->P:=by intro y9;refine kF ?_;exact lN y9.1):P:=f ⟨h⟩
theorem ν(h:P:=by obtain⟨rfl,rfl⟩:=Prod.mk.inj hS;refine UN ?_;refine wo ?_;refine eL ?_;exact Wq15):P:=h
theorem wx(h:Q)(f:Ld Q->P:=by intro y9;refine lO ?_;exact UE 2 1 y9.1):P:=f ⟨h⟩
theorem Wq383(h:Q)(f:Ld Q->P:=by intro y9;refine cP 9 Zk ?_;exact jm I I (cC (e:=32) (sz:=1) (bytes:=4) I I Za I I (λw hi=>hi.rd (UJ (slv 32 1 (sA b68) 1 1 (ints .u32 [x])))) cR gD O) ZJ I y9.1):P:=f ⟨h⟩
theorem Wq384(h:P:=by refine ZA ?_;refine gm (bS I I) I (dT I (λ_ _=>I) (λw hi=>xJ w (ht.old hi))) I ?_;refine Vz ?_;exact qP):P:=h
theorem ku(h:Q)(f:Ld Q->P:=by intro y9;exact cP 14 Zk y9.1):P:=f ⟨h⟩
theorem Wq387(h:Q)(f:Ld Q->P:=by intro y9;refine eX 14 I Zk Zk Zk (ez py py hwt) I ?_;refine eX 15 I Zk Zk Zk (CT py py (JS high ((J l:Int) - S2))) I ?_;refine ZE 16 ?_;refine UE 17 2 ?_;exact cP 18 Zk y9.1):P:=f ⟨h⟩
theorem Wq388(h:P:=by show _=gU K ⟨X.Ad,X.cd,A',c'⟩ ((R.wd l).wr (R.s.r++[x]));simp only[gU,xt,Vf,Vj,ar,cy,aE,bD,bC]):P:=h
theorem Nz(h:Q)(f:Ld Q->P:=by intro y9;exact fq I I (yC ir I I I Za O) ZJ y9.1):P:=f ⟨h⟩
theorem Wq390(h:Q)(f:Ld Q->P:=by intro y9;refine gg ?_;exact jm I I (cC (e:=32) (sz:=1) (bytes:=4) I I Za I I (λw hi=>hi.rd (UJ (slv 32 1 (sA b28) 1 1 (ints .u32 [n])))) cR gD O) ZJ I y9.1):P:=f ⟨h⟩
theorem Wq391(h:P:=by refine ZE 0 ?_;refine UE 1 0 ?_;refine ZG 2 ?_;refine ZE 3 ?_;refine ZE 4 ?_;exact Wq99):P:=h
theorem Eu(h:Q)(f:Ld Q->P:=by intro y9;refine An ?_;exact bY I (hc10) y9.1):P:=f ⟨h⟩
theorem Wq393(h:Q)(f:Ld Q->P:=by intro y9;refine Zy (fT py py Zl) ?_;refine ZA ?_;refine mT ?_;exact Zy (cz I I (Zv I) (show V9 .u32 ((p:Int)*64+(k:Int))=((p*64+k:Nat):Int) by rw[u32_wrap_id _ O O];omega)) y9.1):P:=f ⟨h⟩
theorem Ny(h:Q)(f:Ld Q->P:=by intro y9;refine jb ?_;exact UZ (λw hi=>HR2 A1 A2 c1 c2 w) y9.1):P:=f ⟨h⟩
theorem Wq396(h:P:=by refine UR ?_;refine kF ?_;refine ZL ?_;refine UN ?_;refine jf ?_;exact Wq391):P:=h
theorem κ(h:Q)(f:Ld Q->P:=by intro y9;exact Zy (dj (j:=(va/64%16)) (sz:=4) (r:=1+(va/64%16)*4) I ir (Zv I) (Zv I) UL UL O) y9.1):P:=f ⟨h⟩
theorem Wq398(h:P:=by rintro _ _ ⟨_,⟨X',rfl,rfl⟩,rfl⟩;refine An ?_;refine bK (pj br bu bb L D X' Y ⟨m'.1,m'.2,d⟩) Zj ?_;refine Xp ?_;rw[hst];exact⟨X',Y,I,I⟩):P:=h
theorem qN(h:Q)(f:Ld Q->P:=by intro y9;refine ZM ?_;exact eL y9.1):P:=f ⟨h⟩
theorem Nx(h:Q)(f:Ld Q->P:=by intro y9;exact UZ (λw hi=>uw bu L.bm bb w (hi.get Zh)) y9.1):P:=f ⟨h⟩
theorem rZ(h:Q)(f:Ld Q->P:=by intro y9;refine UN ?_;exact lN y9.1):P:=f ⟨h⟩
theorem Wq402(h:Q)(f:Ld Q->P:=by intro y9;refine UN ?_;refine bQ (WM [2,3] (m5 b13 (RS.cells x2))) Zk ?_;refine RJ ?_;exact fq I I (cL ir I I (mW ⟨⟨k,C,(J l:Int)⟩,A3,c3⟩) Za mS) QT y9.1):P:=f ⟨h⟩
theorem ι(h:Q)(f:Ld Q->P:=by intro y9;exact ZcA (gU (VF br bu D) X (R.wd (l++[v]))) (λw hi hin=>o3 (VF br bu D) X R l v w hin) y9.1):P:=f ⟨h⟩
theorem iK(h:Q)(f:Ld Q->P:=by intro y9;exact cP 7 Zk y9.1):P:=f ⟨h⟩
theorem Wq405(h:Q)(f:Ld Q->P:=by intro y9;refine UN ?_;refine Vq ([Xa bc (.i room) (.slice Ac (J Z) cc) (.map (some ml)) (.i fl),slv 262 4 Ac (J Z) cc (Z.flatMap BA.cells)]) (λw hi hin=>HP f w hin) ?_;rw[ho1];exact y9.1):P:=f ⟨h⟩
theorem Wq406(h:P:=by rw[cy,show J s3.l+1=J (s3.l++[(J C4:Int)]) by simp];refine ZE 14 ?_;refine Wq356 ?_;dsimp only;subst hC5 hC4 hC3 hs3 hC2 hs2;exact Wq369):P:=h
theorem θ(h:P:=by refine ZE 13 ?_;refine ku ?_;refine ZR ?_;refine fh ?_;refine US ?_;exact Wq91):P:=h
theorem I2(h:P:=by refine U8 ?_;refine pm ?_;exact fx):P:=h
theorem Wq409(h:Q)(f:Ld Q->P:=by intro y9;exact gm (bS I I) I (dT I (λ_ _=>I) (λw hi=>vY H.D.bcn Y2.Ao Y2.co d2.out Y2.Ai (J d2.inp) Y2.ci (by rw[k3];decide) w (hi.get Zh) (hi.get Zh))) rfl y9.1):P:=f ⟨h⟩
theorem Wq410(h:P:=by refine Vz ?_;refine An ?_;refine bK (pj br bu bb L D X Y ⟨m'.1,m'.2,d⟩) Zj ?_;refine Xp ?_;rw[hst];exact⟨X,Y,I,I⟩):P:=h
theorem Wq411(h:P:=by refine VA ([row _ _ _,row _ _ _,row _ _ _,row _ _ _,slv _ _ _ _ _ _,slv _ _ _ _ _ _,row _ _ _,slv _ _ _ _ _ _]) ?_;exact⟨⟨X.Ao,X.co,Ai',ci'⟩,I,I⟩):P:=h
theorem I0(h:P:=by rw[aO];omega):P:=h
theorem Wq413(h:P:=by simp only[e 0 O O,e 1 O O,e 2 O O,e 3 O O,e 4 O O,e 5 O O,e 6 O O,e 7 O O,e 8 O O,e 9 O O,e 10 O O,ac]):P:=h
theorem Wq414(h:P:=by rw[Dn];refine mv ?_;refine wB (cs':=[row _ _ _,row _ _ _,slv _ _ _ _ _ _,slv _ _ _ _ _ _]) (.inl I) Zu I I I ?_;exact⟨_,_,_,I,I⟩):P:=h
theorem Wq415(h:P:=by have hie:s.ie=true:=hc;rw[<-hs1,hY k rfl hie];exact⟨⟨hwf.vec,hwf.flags,hwf.root,hwf.vec,hwf.pc,wrap_u32 _,u0,hwf.count,hwf.d,hwf.r⟩,hd16,hr16⟩):P:=h
theorem η(h:P:=by have:=congrArg (List.map (·.2)) hL;simp only[List.map_map]at this|-;exact this):P:=h
theorem IZ(h:Q)(f:Ld Q->P:=by intro y9;refine ZE 0 ?_;refine UE 1 1 ?_;exact ZG 2 y9.1):P:=f ⟨h⟩
theorem Wq418(h:Q)(f:Ld Q->P:=by intro y9;refine eL ?_;exact iA (c:=sl .u32 32 (sA bd2) (J (l++[x])) c1 (l++[x])) (c':=sl .u32 32 (sA bd2) (J l) c1 l) Za I (λw h=>mV h) y9.1):P:=f ⟨h⟩
theorem rY(h:Q)(f:Ld Q->P:=by intro y9;refine ZM ?_;exact UQ y9.1):P:=f ⟨h⟩
theorem Wq420(h:P:=by refine io (cs':=[row _ _ _,row _ _ _,row _ _ _,row _ _ _,slv _ _ _ _ _ _,slv _ _ _ _ _ _,row _ _ _,slv _ _ _ _ _ _]) (.inr I) Zu I ?_;exact fx):P:=h
theorem Q5(h:Q)(f:Ld Q->P:=by intro y9;refine An ?_;exact io (cs':=UX S l1 fix X1) (.inr I) Zu I y9.1):P:=f ⟨h⟩
theorem Wq422(h:P:=by refine US ?_;refine dC gj (.cons py (.cons py .nil)) (λ_ _=>I) (λhg w hi=>HS w (h.Tb hi) (h2.Tb hi)) I ?_;exact mZ):P:=h
theorem Wq423(h:P:=by refine ix ?_;refine UK ?_;refine Vq ([fM L M]) (λw hi hin=>uR L M a m ain mu w hin) ?_;refine UQ ?_;refine Jn ?_;exact Wq153):P:=h
theorem IY(h:Q)(f:Ld Q->P:=by intro y9;exact Zy (pq (Zv I) (Zv I) O I) y9.1):P:=f ⟨h⟩
theorem Wq425(h:Q)(f:Ld Q->P:=by intro y9;refine bL (λm:eu=>Vc n m.u.m) (h.S4 _ _ _ _) ?_;exact bL (λm:eu=>Vc n m.u.m) ((h.S4 _ _ _ _).puts (ny hn htop ne) _ _ (aK _)) y9.1):P:=f ⟨h⟩
theorem Nw(h:Q)(f:Ld Q->P:=by intro y9;exact ZcA ([fM L U.m]) (λw hi hin=>HWD w hin) y9.1):P:=f ⟨h⟩
theorem ζ(h:P:=by show _=Value.tuple #[.i R.S3.SU,.w R.S3.addr];rw[ht];rfl):P:=h
theorem Wq428(h:Q)(f:Ld Q->P:=by intro y9;refine Zy (dj (j:=f) (sz:=64) (r:=f*64) I ir (Zv I) (Zv I) UL UL O) ?_;exact Zy (dj (j:=a) (sz:=1) (r:=f*64+a) I ir (Zv I) (Zv I) UL UL O) y9.1):P:=f ⟨h⟩
theorem Wq429(h:Q)(f:Ld Q->P:=by intro y9;refine ZE 10 ?_;exact eX 11 I Zk Zk Zk (ez (Zv I) (Zv I) (show _=(J l:Int)from by rw[hdl];exact aQ _ ⟨by omega,by omega⟩|>.trans O)) rfl y9.1):P:=f ⟨h⟩
theorem Q4(h:Q)(f:Ld Q->P:=by intro y9;exact Zy (iy (j:=k) had I ir py py ir (λ_=>hkl)) y9.1):P:=f ⟨h⟩
theorem ε(h:Q)(f:Ld Q->P:=by intro y9;refine qZ 3 I Zk Zk Zk Zk (bO ir (Zv I)) (cW gQ I) I ?_;exact ZE 4 y9.1):P:=f ⟨h⟩
theorem Wq432(h:P:=by rintro _ _ ⟨b176,rfl,rfl⟩;refine cP 13 Zk ?_;have hbd:J s3.l<=600:=aN (jp (jp hs hC2 hs2 L.flags L.target L.branch) hC3 hs3 0 0 0).dl O;refine Wq364 ?_;rintro _ _ ⟨A9,c9,rfl,rfl⟩;exact Wq406):P:=h
theorem Wq433(h:P:=by rw[hm']at HC;rw[hm']at hst;refine An ?_;refine gS (dh (gU (VF br bu D) X (R.wd ((l++[(v:Int)])++[(va:Int)]))++uF bu bb L U) I (λ_ _=>I) Zi (λw hi hin=>HC w hin)) I ?_;exact Wq410):P:=h
theorem Wq434(h:P:=by rw[hm']at HC;rw[hm']at hst;refine An ?_;refine Ws (gU (VF br bu D) X (R.wd (l++[(va:Int)]))++uF bu bb L U) (λw hi hin=>HC w hin) ?_;exact Wq398):P:=h
theorem Wq435(h:P:=by exact .inl (ht a w hf hi' _ _ λv cs' w' hk hi2 hp=>⟨MN hst hp (λe=>hJ e v cs' hk w' hi2),h v cs' hk _ w' (hf.put kY v) hi2⟩)):P:=h
theorem CD(h:P:=by dsimp only;omega):P:=h
theorem zW(h:Q)(f:Ld Q->P:=by intro y9;refine tD ?_;exact tD y9.1):P:=f ⟨h⟩
theorem Wq438(h:P:=by refine wF ?_;rintro _ _ ⟨b92,rfl,rfl⟩;refine Wq203 ?_;rintro _ _ ⟨_,⟨l10,X10,hl10,rfl⟩,rfl⟩;obtain rfl:l10=C9:=bZ;exact Wq214):P:=h
theorem Wq439(h:Q)(f:Ld Q->P:=by intro y9;refine eL ?_;refine Wq196 ?_;refine kF ?_;refine UZ (λw hi=>np L.bt L.bp L.o L.bf L.bg L.n (a/64) k.fr (-1) hp f1 w (hi.get Zh) (hi.get Zh)) ?_;exact wn y9.1):P:=f ⟨h⟩
theorem ww(h:Q)(f:Ld Q->P:=by intro y9;refine eL ?_;exact I1 y9.1):P:=f ⟨h⟩
theorem Nv(h:Q)(f:Ld Q->P:=by intro y9;refine dB 32 1 ?_;exact dB 32 1 y9.1):P:=f ⟨h⟩
theorem IX(h:Q)(f:Ld Q->P:=by intro y9;exact jV (bS I I) I I y9.1):P:=f ⟨h⟩
theorem δ(h:Q)(f:Ld Q->P:=by intro y9;exact eY 5 I Zk Zk Zk (bO ir py) (dx I) (bP (t:=370) Zh) I y9.1):P:=f ⟨h⟩
theorem Wq444(h:P:=by refine rY ?_;refine sW (cs':=[Vf s A1 c1,Vj s A2 c2]) (.inl I) Zu I I I Zh ir ir ?_;exact⟨⟨A1,c1,A2,c2⟩,I,I⟩):P:=h
theorem Q3(h:Q)(f:Ld Q->P:=by intro y9;refine UE 0 0 ?_;refine ZG 1 ?_;refine UE 2 1 ?_;exact wP y9.1):P:=f ⟨h⟩
theorem Z9(h:Q)(f:Ld Q->P:=by intro y9;refine UN ?_;refine Zy (fc 16 I ir (Zv I) (Zv I) qR UL) ?_;exact lx y9.1):P:=f ⟨h⟩
theorem Wq447(h:Q)(f:Ld Q->P:=by intro y9;refine xQ func12 I ntmps12 I (Inv.start w) ?_;refine eL ?_;refine sb ?_;refine mT ?_;exact Zy (fG (Zv I) (Zv I) O (show _=t from by rw[ht])) y9.1):P:=f ⟨h⟩
theorem IW(h:Q)(f:Ld Q->P:=by intro y9;exact bL (λm:eu=>m.d.lines) h y9.1):P:=f ⟨h⟩
theorem Wq449(h:P:=by simp[execOp,hf.ev hx,hf.ev hy,Instr.storeAt,Instr.sureAddr,storeVar,hT,hcs,storeCells,Addr.add_lit,run_store _ _ _ v _ h1,hc,hfz,stored]):P:=h
theorem tC(h:Q)(f:Ld Q->P:=by intro y9;refine fh ?_;exact Zt y9.1):P:=f ⟨h⟩
theorem Wq451(h:Q)(f:Ld Q->P:=by intro y9;exact jm I I (dh (VD K bx n U) I (λ_ _=>I) Zi (λw hi hin=>HL w hin)) (λ_=>by refine Vz ?_;exact bP Zh) I y9.1):P:=f ⟨h⟩
theorem Wq452(h:Q)(f:Ld Q->P:=by intro y9;refine NQ ?_;refine qZ 12 I Zk Zk Zk Zk (bO ir py) (da Zh (cw (i3 l x))) I ?_;refine ZE 13 ?_;refine UE 14 0 ?_;exact cP 15 Zk y9.1):P:=f ⟨h⟩
theorem wV(h:Q)(f:Ld Q->P:=by intro y9;exact UZ (λw hi=>HW w) y9.1):P:=f ⟨h⟩
theorem Z8(h:Q)(f:Ld Q->P:=by intro y9;refine UQ ?_;refine Zy (kf (Zv I) (Zv I) O hpq) ?_;refine wo ?_;exact UU y9.1):P:=f ⟨h⟩
theorem Wq455(h:P:=by rw[hr];exact h _ _ _ ⟨I,I⟩ (hi.upd (hu _) h2 (nM h2 (by grind [bJ.bs]) h3 (λb hb=>Or.inl hb))) (λe=>by cases e)):P:=h
theorem Wq456(h:Q)(f:Ld Q->P:=by intro y9;rw[Sr m n _ O,show J m=J (m.set n ((m.getD n HI.zero).imm' (V9 .u32 (J l9:Int)))) by grind];refine fh ?_;refine UN ?_;exact W8 y9.1):P:=f ⟨h⟩
theorem Wq457(h:P:=by simp[execOp,hf.ev hx,hf.ev hy,Instr.storeAt,Instr.sureAddr,storeVar,hT,hcs,storeCells,Addr.add_lit,run_store _ _ _ v _ h1,hc,hfz,ho]):P:=h
theorem Wq458(h:P:=by have h9:=hc15;rw[show(Xe (dS E.RZ k x2)).length=J (dS E.RZ k x2) from List.length_map _]at h9;exact h9):P:=h
theorem Q2(h:Q)(f:Ld Q->P:=by intro y9;exact ZS (λw hi=>xy s Ad Ar cd cr w (h.Tb hi)) y9.1):P:=f ⟨h⟩
theorem Wq460(h:Q)(f:Ld Q->P:=by intro y9;refine UN ?_;refine iC (Vg [13,14]) [(0,0),(1,1),(2,0),(3,4),(4,4),(5,0),(9,0),(10,0),(11,0),(12,0),(6,2),(7,0),(8,0),(13,2),(14,2)] Zk Zk ?_;exact tD y9.1):P:=f ⟨h⟩
theorem Wq461(h:Q)(f:Ld Q->P:=by intro y9;refine UU ?_;refine Zy (dy (Zv I) (Zv I) (show _=((i0+1:Nat):Int)from by rw[show L1 (some i0)=(i0:Int)from I,bI];omega)) ?_;exact UK y9.1):P:=f ⟨h⟩
theorem Q1(h:Q)(f:Ld Q->P:=by intro y9;exact Zy (dy (Zv I) (Zv I) (show _=(0:Int)from I)) y9.1):P:=f ⟨h⟩
theorem kt(h:Q)(f:Ld Q->P:=by intro y9;exact cP 9 Zk y9.1):P:=f ⟨h⟩
theorem Wq464(h:P:=by rw[hr];exact h _ _ _ ⟨I,I⟩ (hi.upd (hu _) h2 (nM h2 (by simp[bJ.bs]) h3 (λb hb=>Or.inl hb))) (λe=>by cases e)):P:=h
theorem Wq465(h:Q)(f:Ld Q->P:=by intro y9;exact ZcS (WT be F.bu F.bb F.L F.D ⟨none,0,none,0⟩ U0 d0 E) (λw hi hin=>HR w hin (λw' hk=>iL.nil_ w' I I) (λw' hk=>U5.Th ht hi Zi hk)) y9.1):P:=f ⟨h⟩
theorem Wq466(h:Q)(f:Ld Q->P:=by intro y9;exact ZT (λw hi=>HS X.Ad X.Ar X.cd X.cr w (hi.TX Zh Zh (show(R.wd (l++[x])).s.d.length*4<=_ by omega) (show(R.wd (l++[x])).s.r.length*4<=_ by omega))) y9.1):P:=f ⟨h⟩
theorem Q0(h:P:=by rw[show(R.wd l).s.root=R.s.root from I,hrt];rfl):P:=h
theorem CC(h:P:=by exact Nat.mod_eq_of_lt O):P:=h
theorem Wq469(h:Q)(f:Ld Q->P:=by intro y9;refine ZE 4 ?_;refine UE 5 17 ?_;refine eY 6 I Zk Zk Zk (bO ir py) (dx I) (bP (t:=41) Zh) I ?_;refine ZE 7 ?_;exact cP 2 Zk y9.1):P:=f ⟨h⟩
theorem Z7(h:P:=by exact⟨⟨λ_ _ _ h=>h,λh=>h⟩,hn _ w (hf.put kY _) hi'⟩):P:=h
theorem Wq471(h:Q)(f:Ld Q->P:=by intro y9;refine Va ?_;exact Ws (VK bu bb L D Y U d) (λw hi hin=>HD w hin (λw' hk=>hi.TS Zi (UJ (Vf s X.Ad X.cd)) (UJ (Vj s X.Ar X.cr)) O O hk)) y9.1):P:=f ⟨h⟩
theorem Wq472(h:P:=by refine VA ([_,_]) ?_;rw[hf1];have hr1:r1=(l.take (J l)).foldl step r0:=hr1;rw[List.take_length]at hr1;rw[<-hr1];exact fx):P:=h
theorem Wq473(h:Q)(f:Ld Q->P:=by intro y9;refine ek I (dg 16 I py Zf) I ?_;refine z5 ?_;refine Az I (bX (vs:=x.cells) ir ir py) (cq Zh I) I ?_;exact zW y9.1):P:=f ⟨h⟩
theorem Wq474(h:Q)(f:Ld Q->P:=by intro y9;refine cP 17 Zk ?_;exact fq I I (cL (vs:=tr.cells) ir I I (jR I) Za mS) (λ_=>by refine UR ?_;exact bP Zh) y9.1):P:=f ⟨h⟩
theorem Wq475(h:Q)(f:Ld Q->P:=by intro y9;refine bQ (WM [14] (m5 b5 [.i op,.i dst,.i xa,.i xb,.w imm])) Zk ?_;refine CA ?_;refine ZE 3 ?_;exact UE 4 0 y9.1):P:=f ⟨h⟩
theorem QZ(h:P:=by simp only[kb,mh, *,ah,ac]):P:=h
theorem QY(h:P:=by simp only[nR,mh, *,ah,ac]):P:=h
theorem wU(h:Q)(f:Ld Q->P:=by intro y9;refine ZE 6 ?_;exact ZE 7 y9.1):P:=f ⟨h⟩
theorem wT(h:Q)(f:Ld Q->P:=by intro y9;refine ZG 8 ?_;exact ZE 9 y9.1):P:=f ⟨h⟩
theorem wS(h:Q)(f:Ld Q->P:=by intro y9;refine fR ?_;exact po y9.1):P:=f ⟨h⟩
theorem wR(h:Q)(f:Ld Q->P:=by intro y9;refine kF ?_;exact pm y9.1):P:=f ⟨h⟩
theorem QX(h:Q)(f:Ld Q->P:=by intro y9;refine bQ (Vg [3]) Zk ?_;refine Wq266 ?_;exact pk y9.1):P:=f ⟨h⟩
theorem Nu(h:Q)(f:Ld Q->P:=by intro y9;exact CX I Zh ir ir (Zv I) I y9.1):P:=f ⟨h⟩
theorem Z6(h:P:=by rintro _ _ ⟨_,⟨A',c',rfl,rfl⟩,rfl⟩;refine UK ?_;exact Nq):P:=h
theorem Wq485(h:Q)(f:Ld Q->P:=by intro y9;refine dZ (bX (vs:=s9.cells (.slice X1.Ad (J s9.d) X1.cd) (.slice X1.Ar (J s9.r) X1.cr)) ir ir py) (cq Zh I) I ?_;exact ij y9.1):P:=f ⟨h⟩
theorem Wq486(h:Q)(f:Ld Q->P:=by intro y9;exact lP I I (bS I I) I (dh (Vt be E) I (λ_ _=>I) Zi (λw hi hin=>HD w hin (λw' _=>iL.nil_ w' I I))) ZJ I y9.1):P:=f ⟨h⟩
theorem Wq489(h:Q)(f:Ld Q->P:=by intro y9;refine j6 ?_;refine UZ (λw hi=>uw bu L.bm bb w (bJ.old hu hi)) ?_;refine ZA ?_;refine Zy (kf (Zv I) (Zv I) O hq) ?_;exact wo y9.1):P:=f ⟨h⟩
theorem QW(h:Q)(f:Ld Q->P:=by intro y9;exact ZS (λw hi=>pL s Ad Ar cd cr w (h.Tb hi)) y9.1):P:=f ⟨h⟩
theorem CB(h:P:=by exact aL _):P:=h
theorem Z4(h:Q)(f:Ld Q->P:=by intro y9;refine IS ?_;exact UZ (λw hi=>mb K n hn p 1 O ne w (hi.get Zh)) y9.1):P:=f ⟨h⟩
theorem ZZ(h:Q)(f:Ld Q->P:=by intro y9;refine ZE 10 ?_;refine UE 11 17 ?_;refine ZG 12 ?_;refine ZE 13 ?_;exact ku y9.1):P:=f ⟨h⟩
theorem IU(h:Q)(f:Ld Q->P:=by intro y9;exact ZT (λw hi=>HS w (hi.get Zh)) y9.1):P:=f ⟨h⟩
theorem wv(h:Q)(f:Ld Q->P:=by intro y9;refine US ?_;exact Wl y9.1):P:=f ⟨h⟩
theorem wu(h:P:=by grind [World.setRow]):P:=h
theorem Et(h:Q)(f:Ld Q->P:=by intro y9;refine ZE 11 ?_;exact cP 12 Zk y9.1):P:=f ⟨h⟩
theorem ZY(h:Q)(f:Ld Q->P:=by intro y9;refine ek I (qW py) I ?_;exact ek I (dg 3 I py Zf) I y9.1):P:=f ⟨h⟩
theorem Wq500(h:P:=by exact λ_=>by refine UR ?_;exact gO (bP (t:=262) Zh) (bP (t:=180) Zh)):P:=h
theorem Wq501(h:P:=by refine lL (cs':=(WJ be bu bb L D s X Y U d E)) (.inl I) Zu I I Zh ir ir ?_;exact⟨X,Y,E,hE,hG9,I,I⟩):P:=h
theorem Wq502(h:Q)(f:Ld Q->P:=by intro y9;refine qZ 7 I Zk Zk Zk Zk (bO ir (Zv I)) (cW gQ I) I ?_;refine eX 8 I Zk Zk Zk (oX py py hx) I ?_;exact ZE 9 y9.1):P:=f ⟨h⟩
theorem QV(h:P:=by simp only[aw,aU]):P:=h
theorem Wq504(h:P:=by simp only[Vv,VY,AY,Vf,Vj,ar,aE,bD,aU,aR]):P:=h
theorem Wq505(h:Q)(f:Ld Q->P:=by intro y9;refine kt ?_;exact jm I I (ky I I ir ir I I) (λ_=>by rintro _ _ ⟨b40,rfl,rfl⟩;exact bP (t:=51) Zh) I y9.1):P:=f ⟨h⟩
theorem QU(h:Q)(f:Ld Q->P:=by intro y9;refine xQ func215 I ntmps215 I hi ?_;exact An y9.1):P:=f ⟨h⟩
theorem ZX(h:P:=by exact(show z9 _ _ from by(try dsimp only);rw[hstk];exact Zj)):P:=h
theorem ZV(h:Q)(f:Ld Q->P:=by intro y9;refine mv ?_;exact wB (cs':=[slv _ _ _ _ _ _]) (.inl I) Zu I I I y9.1):P:=f ⟨h⟩
theorem Wq509(h:Q)(f:Ld Q->P:=by intro y9;refine UU ?_;refine Zy (cZ (j:=k2) I ir (Zv I) (Zv I) UL UL) ?_;refine dZ (bO ir py) (yI Zh hx1) I ?_;exact gP y9.1):P:=f ⟨h⟩
theorem ZU(h:Q)(f:Ld Q->P:=by intro y9;refine An ?_;refine Zy (ly (Zv I) (Zv I) (jI _ 2)) ?_;exact UN y9.1):P:=f ⟨h⟩
theorem ZH(h:Q)(f:Ld Q->P:=by intro y9;refine UQ ?_;refine Zy (ly (Zv I) (Zv I) (jI _ 1)) ?_;exact UN y9.1):P:=f ⟨h⟩
theorem Zz(h:Q)(f:Ld Q->P:=by intro y9;refine US ?_;exact ZS (λw hi=>xy s Ad Ar cd cr w (h w hi.To)) y9.1):P:=f ⟨h⟩
theorem Zm(h:Q)(f:Ld Q->P:=by intro y9;exact Vq (gU K X (R.wd (l++[x]))) (λw hi hin=>o3 K X R l x w hin) y9.1):P:=f ⟨h⟩
theorem Zg(h:Q)(f:Ld Q->P:=by intro y9;exact VA ([row _ _ _,row _ _ _,slv _ _ _ _ _ _,slv _ _ _ _ _ _,row _ _ _]) y9.1):P:=f ⟨h⟩
theorem Wq515(h:Q)(f:Ld Q->P:=by intro y9;exact Bs (c:=b8 A3 c3 (inp++l.take n)) (c':=Wo A3 (J (inp++l.take n)) c3 (ints .u8 (inp++l.take n))) Za rdC_sub (λw=>slv_rdC w) y9.1):P:=f ⟨h⟩
theorem Wq516(h:Q)(f:Ld Q->P:=by intro y9;refine qZ 9 I Zk Zk Zk Zk (bO ir (Zv I)) (da Zh (jK O)) I ?_;refine UE 12 3 ?_;refine cP 13 Zk ?_;exact iT y9.1):P:=f ⟨h⟩
theorem Nt(h:Q)(f:Ld Q->P:=by intro y9;exact ek I (dg 5 I py Zf) I y9.1):P:=f ⟨h⟩
theorem Wq518(h:P:=by rintro _ _ ⟨A9,c9,rfl,rfl⟩;refine Wq284 ?_;subst hC2 hs2;unfold Lw.go;rw[hc3,hc5,hc8,hc10,hc14,hc18,hc20];rfl):P:=h
theorem Y9(h:Q)(f:Ld Q->P:=by intro y9;rw[qx (Or.inl hr)];unfold Lw.reckon;rw[show(op !=25)=true by simp;omega];exact y9.1):P:=f ⟨h⟩
theorem Es(h:Q)(f:Ld Q->P:=by intro y9;simp only[Bool.not_true,ac];exact y9.1):P:=f ⟨h⟩
theorem Wq521(h:P:=by refine wW ?_;rintro _ _ ⟨b134,rfl,rfl⟩;refine kt ?_;have hbd:J L.d.l<=600:=aN hs.dl O;refine Wq348 ?_;exact Wq518):P:=h
end
end Go.Ink
