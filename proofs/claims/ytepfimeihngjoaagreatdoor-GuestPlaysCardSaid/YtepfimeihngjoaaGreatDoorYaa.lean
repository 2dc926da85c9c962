/- Lemmas. -/
import Derived.WalkKit
import Derived.WalkSpells
import Derived.WalkLawsBesides
import Derived.OrdersHeld
import Derived.Deep.RegionHeld3
import Derived.Maps.AppendAt
import Derived.Lib.SliceRun
import Derived.ProofKit
import Derived.SizedLaws
import Derived.Carry
import Derived.Below
import Derived.Laws.BytesArg
import Derived.Laws.OwnMore
import Derived.Laws.Strings
import Derived.Laws.IdiomCopy
set_option linter.all false
set_option maxRecDepth 100000
set_option maxHeartbeats 4000000
namespace Go.Ink
theorem I.{u}{α:Sort u}{a:α}:a=a:=rfl
open List renaming length→J, replicate→R9
open IntKind renaming wrap→V9
abbrev aa:=@decide_eq_false_iff_not
abbrev ac:=@cond_false
abbrev ae:=@cond_true
abbrev ah:=@decide_eq_true_eq
abbrev ai:=@Int.eq_ofNat_of_zero_le
abbrev aj:=@List.getElem?_eq_getElem
abbrev ak:=@decide_eq_true
abbrev ao:=@decide_eq_false
abbrev ap:=@List.getElem?_eq_some_iff
abbrev aq:=@List.append_assoc
abbrev ar:=@List.length_append
abbrev au:=@IntKind.wrap_u32
abbrev aw:=@Int.tmod_eq_emod_of_nonneg
abbrev ax:=@List.append_nil
abbrev ay:=@Nat.zero_le
abbrev az:=@List.mem_of_getElem?
abbrev aB:=@List.length_replicate
abbrev aC:=@Bool.and_eq_true
abbrev aD:=@Prod.mk.injEq
abbrev aE:=@List.length_cons
abbrev aF:=@List.cons_append
abbrev aG:=@Option.some.inj
abbrev aI:=@List.mem_cons
abbrev aJ:=@List.nil_append
abbrev aK:=@List.mem_append
abbrev aL:=@Nat.le_refl
abbrev aM:=@List.getD_eq_getElem?_getD
abbrev aN:=@IntWalk.i64_in
abbrev aO:=@List.Sublist.refl
abbrev aP:=@Int.toNat_natCast
abbrev aQ:=@List.mem_singleton
abbrev aR:=@Nat.le_trans
abbrev aS:=@IntKind.wrap_u64
abbrev aU:=@List.length_take
abbrev aV:=@List.mem_nil_iff
abbrev aW:=@Option.some.injEq
abbrev aX:=@List.mem_of_mem_take
abbrev aY:=@Bool.or_eq_false_iff
abbrev aZ:=@Bool.or_true
abbrev bh:=@Bool.false_or
abbrev bj:=@Int.tdiv_eq_ediv_of_nonneg
abbrev bl:=@Bool.true_or
abbrev bn:=@Bool.false_and
abbrev bo:=@List.mem_cons_of_mem
abbrev bz:=@Bool.true_and
abbrev bA:=@Nat.zero_add
abbrev bC:=@List.length_nil
abbrev bD:=@List.mem_of_mem_drop
abbrev bE:=@beq_eq_false_iff_ne
abbrev bF:=@Bool.and_false
abbrev bG:=@IntKind.wrap_i64
open Go.RowKit
@[match_pattern]abbrev _root_.Go.Value.p(b:Nat):Value:=.pointer (some ⟨b,0,none⟩)
@[match_pattern]abbrev _root_.Go.Value.i(n:Int):Value:=.int .i64 n
@[match_pattern]abbrev _root_.Go.Value.w(n:Int):Value:=.int .u32 n
@[match_pattern]abbrev _root_.Go.Lit.i(n:Int):Lit:=.int .i64 n
@[match_pattern]abbrev _root_.Go.Lit.w(n:Int):Lit:=.int .u32 n
@[match_pattern]abbrev sA(b:Nat):Option Addr:=some ⟨b,0,none⟩
abbrev Li:=List Int
abbrev Oa:=Option Addr
structure Uj(Q:Prop):Prop where
 h:Q
section
variable{P:Prop}
theorem Wx0_(h:P:=by refine⟨?_,I⟩;simp only[gm,jK,da, *,ae,ac,bl,bh,aZ,bz,bn,Bool.and_true,bF]<;>first|rfl|(simp[*])):P:=h
theorem UR(h:P:=by simp only[bQ,df, *,ae,ac]<;>exact I):P:=h
theorem Wx2_(h:P:=by refine UN ((⟨i+1,A3,c3,o++E⟩:Nat×Option Addr×Nat×List Int)) ⟨⟨show i+1<=60 by omega,m6 ho1 hE1,show(o++E).length<=15*(i+1) by rw[ar];omega⟩,show 60 - (i+1)<60 - i by omega⟩):P:=h
theorem Yw(h:P:=by refine Wq9 ?_;refine⟨A1,c1,A2,c2,?_,I⟩;clear h;exact vN):P:=h
theorem Vt(h:P:=by refine fC ?_;refine⟨⟨_,I,?_⟩,I⟩;exact vC):P:=h
theorem WD(h:P:=by refine⟨?_,I⟩;simp only[fE,j5, *,ae,ac]<;>rfl):P:=h
theorem Wx6_(h:P:=by simp only[ah]at hc16;have hkl:k<J f9:=O;obtain⟨i,hx⟩:∃i,f9[k]? =some i:=⟨_,aj hkl⟩;obtain⟨n,rfl,hn⟩:=hfx i (az hx);rw[jB hx]at hP;have hP:qd (V9 .u32 (J l9:Int)) (f9.drop (k+1)) (m.set n ((m.getD n HI.zero).imm' (V9 .u32 (J l9:Int))))=B9:=hP;refine UA ?_;refine eZ (λw hi=>hH (hi.get (Ur (Wu Al cl m))) O) (λh1=>?_);refine eZ (λw hi=>dp (hi.get (Ur (sl .i64 3 Af (J f9) cf f9))) O) (λh2=>?_);obtain⟨ba,rfl⟩:=h1;obtain⟨bf,rfl⟩:=h2;refine BR ?_;refine dW (bL ir ne) (xQ Zh (bX hx)) I (Us ?_);refine bN (UK [13]) Zk (mW ?_);refine Ld 2 17 ?_;refine sP ?_;refine ZE 6 ?_;refine Ld 7 17 ?_;refine ZG 8 ?_;refine ZE 9 ?_;refine Wq176 ?_;refine Uw ?_;refine Wq429 ?_;refine UN ((⟨k+1,m.set n ((m.getD n HI.zero).imm' (V9 .u32 (J l9:Int)))⟩:Nat×List HI)) Do):P:=h
theorem VN(h:P:=by refine fC ?_;refine⟨⟨_,I,?_⟩,I⟩;exact zm):P:=h
theorem Wx8_(h:P:=by refine cQ 11 Zk (zb ?_);refine Vb ?_;refine ZE 12 ?_;refine Ld 13 19 ?_;refine cQ 14 Zk (ft I I (fg (ys:=my (Ve br bu D) X ((R.wd l).wt ⟨ca,ad⟩)) (n:=2) (vs:=[.i ca,.w ad]) I ir I I (ka I) Za I Iv) ZJ ?_);refine Uw ?_;refine fe ?_;refine Zo (bI (gz (Ve br bu D) X ((R.wd l).wt ⟨ca,ad⟩)++uF bu bb L U') Zj ?_);exact Wq240):P:=h
theorem Yr(h:P:=by refine BZ ?_;refine Uw ?_;refine dZ ?_;refine BW ?_;refine Uw ?_;refine If ?_;refine UN ((E2,y,x,b14,b15)) ⟨hE2,hEe,hyx⟩):P:=h
theorem Wx10_(h:P:=by refine Wq237 ?_;rintro _ _ ⟨_,⟨As,rfl,rfl⟩,rfl⟩;refine ZE 8 ?_;refine mh ?_;refine VF (λw hi=>hlo w (h.SS hi)) ?_;rintro _ _ ⟨Av,cv,rfl,rfl⟩;refine DS ?_;refine y7 ?_;rintro _ _ ⟨b34,rfl,rfl⟩;refine ZE 13 ?_;refine fe ?_;refine UN (((b34,⟨Ar,N,As,N,Av,cv⟩):Nat×SAd)) iF):P:=h
theorem UZ(h:P:=by simp only[cz, *,ae,ac]<;>exact I):P:=h
theorem Vf(h:P:=by refine⟨?_,I⟩;exact pD):P:=h
theorem Yz(h:P:=by refine⟨?_,I⟩;unfold dy;cases h1:decide (0<=op)<;>cases h2:decide (op<=8)<;>cases h3:decide (16<=op)<;>cases h4:decide (op<=25)<;>cases h5:(op !=24)<;>cases h6:decide (32<=op)<;>cases h7:decide (op<=40)<;>simp_all<;>omega):P:=h
theorem W9(h:P:=by refine Iz ?_;refine Uw ?_;refine Iy ?_;refine Uw ?_;refine fe ?_;refine UN ((b12,b13)) iF):P:=h
theorem Wx15_(h:P:=by refine Ld 3 1 ?_;refine ZG 4 ?_;refine Ld 5 1 ?_;refine cQ 6 Zk (pE ?_);refine iW ?_;refine vO ?_;rintro _ _ ⟨b28,rfl,rfl⟩;refine Wq363 ?_;rintro _ _ ⟨A',c',rfl,rfl⟩;refine ZE 9 ?_;refine Ld 10 1 ?_;refine cQ 11 Zk (ke ?_);refine Zo (gK (cs':=[row _ _ _,slv _ _ _ _ _ _,slv _ _ _ _ _ _]) (.inr I) Zu I ?_);rw[hst];refine⟨⟨A',c',Ar,cr⟩,I,?_⟩;show _=VC br ⟨A',c',Ar,cr⟩ (R.wd (R.s.d++[n])).s dv;exact IB):P:=h
theorem XF(h:P:=by rintro _ _ ⟨A2,c2,E,⟨hE1,hE2⟩,rfl,rfl⟩;refine Rl ?_;rintro _ _ ⟨A3,c3,rfl,rfl⟩;refine M6 ?_;exact Wx2_):P:=h
theorem Ws(h:P:=by refine Zn (gK (cs':=[row _ _ _]) (.inr I) Zu I ?_);exact ff):P:=h
theorem Yy(h:P:=by rintro _ _ ⟨_,⟨A2,c2,E,⟨hE1,hE2⟩,rfl,rfl⟩,rfl⟩;refine Wq201 ?_;rintro _ _ ⟨A3,c3,rfl,rfl⟩;rw[bY,<-ar];refine If ?_;refine kb ?_;exact Wx2_):P:=h
theorem VX(h:P:=by refine v5 ?_;refine⟨?_,I⟩;exact sW):P:=h
theorem Wr(h:P:=by refine UA ?_;refine VW ?_;refine⟨?_,I⟩;exact rO):P:=h
theorem Wx21_(h:P:=by refine fS ?_;refine vO ?_;rintro _ _ ⟨b68,rfl,rfl⟩;refine Wq357 ?_;rintro _ _ ⟨A',c',rfl,rfl⟩;refine ZE 10 ?_;refine Ld 11 0 ?_;refine Ld 12 2 ?_;refine cQ 13 Zk (ke ?_);refine UG ?_;refine IM ?_;rw[hst];refine⟨⟨X.Ad,X.cd,A',c'⟩,I,?_⟩;exact Wq360):P:=h
theorem Wx22_(h:P:=by refine⟨?_,I⟩;exact B8):P:=h
theorem VI(h:P:=by refine o9 ?_;exact Wx0_):P:=h
theorem V4(h:P:=by refine fC ?_;refine⟨?_,I⟩;exact rN):P:=h
theorem Wx25_(h:P:=by refine fS ?_;refine vO ?_;rintro _ _ ⟨b119,rfl,rfl⟩;refine kO ?_;have hbd:J L.r.l<=600:=aR hs.rl O;refine Wq329 ?_;rintro _ _ ⟨A9,c9,rfl,rfl⟩;refine Wq264 ?_;subst hC2 hs2;unfold Lw.go;rw[hc3,hc5,hc8,hc10,hc14,hc18];rfl):P:=h
theorem WQ(h:P:=by refine gX ?_;refine pd ?_;refine⟨?_,I⟩;exact sV):P:=h
theorem VA(h:P:=by refine⟨?_,I⟩;exact rM):P:=h
theorem Vz(h:P:=by refine pJ ?_;exact Vf):P:=h
theorem Wx30_(h:P:=by refine Wq480 ?_;rintro _ _ ⟨b40,rfl,rfl⟩;refine mh ?_;have hbd:J L.d.l<=600:=aR hs.dl O;refine Wq245 ?_;rintro _ _ ⟨A9,c9,rfl,rfl⟩;refine Wq287 ?_;refine Uw ?_;refine fe ?_;exact Zo Wq342):P:=h
theorem Wx31_(h:P:=by refine⟨?_,I⟩;exact sX):P:=h
theorem Wq(h:P:=by refine pd ?_;refine⟨?_,I⟩;exact DX):P:=h
theorem Wf(h:P:=by refine fZ ?_;refine Vo (k+1) O):P:=h
theorem Wx34_(h:P:=by rintro _ _ ⟨A1,c1,A2,c2,rfl,rfl⟩;refine ZM ?_;refine Ux ?_;refine mL ?_;refine UA ?_;refine ZL ?_;refine mR ?_;refine mR ?_;refine mR ?_;refine mR ?_;refine Ux ?_;exact QX):P:=h
theorem VH(h:P:=by refine v7 ?_;exact WD):P:=h
theorem Wx36_(h:P:=by rw[hc4,if_neg cE]at hf;refine fZ ?_;refine UN ((⟨j+1,r2⟩:Nat×ρ)) ⟨⟨⟨by omega,hr3,hrk2⟩,by dsimp only;rw[hf,Option.map_map];congr 1;grind⟩,by omega⟩):P:=h
theorem Wx37_(h:P:=by simp only[ah]at hc12;have hk4:k<4:=O;refine UG ?_;refine Wq284 ?_;refine py ?_;refine UN (k+1) ⟨by show k+1<=4;omega,by show 4 - (k+1)<4 - k;omega⟩):P:=h
theorem Wx38_(h:P:=by refine UA ?_;refine mT ?_;refine Ut ?_;refine VW ?_;simp only[aa]at hc2;refine⟨congrArg _ ?_,I⟩;unfold gi;rw[<-hm,<-e3,Int.emod_eq_of_lt O O]):P:=h
theorem Yx(h:P:=by refine gV ?_;refine Zs (bN (UK [2]) Zk ?_);refine MS ?_;refine Us ?_;exact Qz):P:=h
theorem Wx40_(h:P:=by refine Us ?_;refine iS ?_;refine sD (cs':=[slv _ _ _ _ _ _,slv _ _ _ _ _ _]) (.inl I) Zu I I I Zh ir ir ⟨A1,c1,A2,c2,?_,I⟩;clear h;exact vN):P:=h
theorem Wx41_(h:P:=by refine Wq294 ?_;refine Uw ?_;refine ZE 18 ?_;refine fe ?_;refine UN ((⟨⟨A1,c1,A2,c2⟩,b13⟩:(Option Addr×Nat×Option Addr×Nat)×Nat)) iF):P:=h
theorem Wx42_(h:P:=by rw[hc16,ae]at hS;obtain⟨rfl,rfl⟩:=Prod.mk.inj hS;refine bN (UK [14]) Zk (Il ?_);refine ZE 3 ?_;refine ZE 4 ?_;refine Ld 5 16 ?_;exact Wq312):P:=h
theorem WP(h:P:=by refine⟨?_,I⟩;exact Qy):P:=h
theorem V3(h:P:=by refine Ut ?_;exact Yw):P:=h
theorem Wx45_(h:P:=by simp only[ah]at hc8;refine mU ?_;refine XM ?_;refine Uw ?_;rw[eh,yf _ _ O];refine fZ ?_;refine Vo (k+1) ⟨by omega,by omega⟩):P:=h
theorem Wx46_(h:P:=by rw[hc16,ac]at hS;obtain⟨rfl,rfl⟩:=Prod.mk.inj hS;refine Ut ?_;refine Wq331 ?_;refine Uw ?_;rw[eh];refine UE ?_;exact Wq13):P:=h
theorem Wx47_(h:P:=by rintro _ _ ⟨A2,c2,rfl,rfl⟩;refine Wq266 ?_;refine Vo ((j+1,A2,c2)) ⟨by show j+1<=k;omega,by show k - (j+1)<k - j;omega⟩):P:=h
theorem We(h:P:=by refine qA ?_;exact Wx22_):P:=h
theorem Wd(h:P:=by refine jE ?_;exact Wx22_):P:=h
theorem Wc(h:P:=by refine Us ?_;exact Yw):P:=h
theorem Wx51_(h:P:=by have hk1:k=1:=(by rcases hop with⟨rfl,rfl⟩|⟨rfl,rfl⟩;cases hc7;rfl);subst hk1;refine Us ?_;refine UN (()) iF):P:=h
theorem Yv(h:P:=by refine UN ((⟨pl2.getD na 0,pl2.getD nb 0⟩:Int×Int)) hsw):P:=h
theorem Wx53_(h:P:=by rw[show min y IntKind.u64.bits=y by show min y 64=y;omega,show min y IntKind.u32.bits=y by show min y 32=y;omega]):P:=h
theorem Wx54_(h:P:=by refine Uu ?_;refine UN ((⟨(l,sz,false),A1,c1⟩:(List (Int×Int)×Nat×Bool)×Option Addr×Nat)) ⟨hq,hsz⟩):P:=h
theorem Yu(h:P:=by obtain⟨rfl,rfl⟩:=Prod.mk.inj hS;refine UE ?_;exact Wq13):P:=h
theorem Wx56_(h:P:=by have hc:kC e va a=false:=hc4;refine UA ?_;refine Rq ?_;refine kR ?_;refine Uu ?_;refine pd ?_;rw[hc];exact ff):P:=h
theorem XE(h:P:=by refine⟨?_,I⟩;simp only[UV, *,ae,ac]):P:=h
theorem XD(h:P:=by exact⟨(hs).nd,(hs).nr,(hs).hd,(hs).hr⟩):P:=h
theorem Wx59_(h:P:=by have hk4:k=4:=(by rcases hop with⟨rfl,rfl⟩|⟨rfl,rfl⟩;rfl;cases hc7);subst hk4;refine Zc (UN (()) iF)):P:=h
theorem Wx60_(h:P:=by simp[execOp,hx.eval hf hg,hy.eval hf hg,run_eqGuard_agg w _ _ _ _ _ _ hm,run_eql_struct,he w,Result.andThen]):P:=h
theorem Wx61_(h:P:=by refine dZ ?_;refine Wq67 ?_;rintro _ _ ⟨_,⟨E2,hE2,hEe,y,x,rfl,rfl,hyx⟩,rfl⟩;refine Nc ?_;exact Yr):P:=h
theorem Yt(h:P:=by simp[execOp,resolve,invoke,builtin,hf.ev hx,hf.ev hy,jU]):P:=h
theorem WO(h:P:=by refine D1 ?_;exact Wx31_):P:=h
theorem XC(h:P:=by refine⟨?_,I⟩;simp only[xT, *,ae,ac]):P:=h
theorem Xz(h:P:=by refine⟨?_,I⟩;simp only[eG, *,ae,ac]):P:=h
theorem Xy(h:P:=by refine⟨?_,I⟩;simp only[dj, *,ae,ac]):P:=h
theorem Xx(h:P:=by refine QZ ?_;refine⟨?_,I⟩;exact sV):P:=h
theorem Wx68_(h:P:=by intro j hj;simp only[aI,aV,or_false,not_or]at hj;rw[d3 j gW,cJ O,cJ O,b3 j gW,cJ O,g6 j gW]):P:=h
theorem Wx69_(h:P:=by refine fS ?_;refine zb ?_;refine Vb ?_;refine qE ?_;refine ZE 13 ?_;refine Wq113 ?_;exact Wq376):P:=h
theorem Wx70_(h:P:=by refine mV ?_;refine Zs (bN (Wz [2,3] (pk b13 (RS.cells x2))) Zk ?_);refine Wq99 ?_;exact Wq268):P:=h
theorem Xw(h:P:=by refine fo ?_;refine o9 ?_;exact WP):P:=h
theorem Wx72_(h:P:=by refine Zs (bN (Wz [2,3] (pk b15 (RS.cells ⟨xr,A2,c2⟩))) Zk ?_);refine Wq276 ?_;exact Wq343):P:=h
theorem Wx73_(h:P:=by rintro _ _ ⟨A3,c3,A4,c4,rfl,rfl⟩;refine ZM ?_;refine Zn (UN ((⟨A3,c3,A4,c4⟩:eN)) iF)):P:=h
theorem WN(h:P:=by refine⟨?_,I⟩;exact rO):P:=h
theorem Wx75_(h:P:=by refine Ut ?_;refine UD (λw hi=>HF w) ?_;refine py ?_;refine ZM ?_;refine iz ?_;exact Wq65):P:=h
theorem Xv(h:P:=by rw[show R.device=false from hdv];rfl):P:=h
theorem Ys(h:P:=by rw[<-he];refine fZ ?_;refine Vo ((k+1,A1,c1)) O):P:=h
theorem Wx78_(h:P:=by refine Zn (gK (cs':=[row _ _ _,slv _ _ _ _ _ _,slv _ _ _ _ _ _]) (.inr I) Zu I ?_);exact ff):P:=h
theorem Wx79_(h:P:=by rintro _ _ ⟨⟨z,rfl,hz⟩,rfl⟩;refine Uu ?_;refine VW ?_;exact⟨by rw[<-hz],rfl⟩):P:=h
theorem Wx80_(h:P:=by refine mz (cs':=[]) (.inl I) Zu I I Zh ir ir ⟨?_,I⟩;simp only[fE,j5, *,ae,ac]<;>rfl):P:=h
theorem Wx81_(h:P:=by refine gV ?_;refine Zs (bN (UK [2]) Zk ?_);refine xG 32 1 (MS ?_);refine Us ?_;exact Nh):P:=h
theorem Wx82_(h:P:=by rw[hc14,ae]at hS;obtain⟨rfl,rfl⟩:=Prod.mk.inj hS;refine UE ?_;refine IM ?_;exact ff):P:=h
theorem WM(h:P:=by refine xt ?_;exact VI):P:=h
theorem Wx84_(h:P:=by simp[execOp,hf.ev hx,hf.ev hy,Instr.storeAt,Instr.sureAddr,storeVar,hT,Value.cells,hst]):P:=h
theorem Wx85_(h:P:=by rw[h,hp];simp only[ac,e,Bool.not_true,bz,aP];cases decide ((32768:Int)<=(p:Int))<;>rfl):P:=h
theorem Wp(h:P:=by refine vY ?_;exact vB):P:=h
theorem WK(h:P:=by refine vZ ?_;exact Wx0_):P:=h
theorem Wx88_(h:P:=by refine Ut ?_;refine bI [Xg bk k] Zj (Vd ([row _ _ _]) ?_);exact⟨I,I,trivial⟩):P:=h
theorem Wx89_(h:P:=by unfold St.set;refine Sv ?_;refine Sv ?_;exact key _ _ _ _ _ I (key _ _ _ _ _ I I)):P:=h
theorem Xu(h:P:=by simp only[bQ, *,ae,ac]<;>exact I):P:=h
theorem Wx91_(h:P:=by refine mh ?_;refine M4 ?_;refine Vb ?_;refine ZE 11 ?_;refine rJ ?_;exact W9):P:=h
theorem Wx92_(h:P:=by refine fS ?_;refine vO ?_;rintro _ _ ⟨b191,rfl,rfl⟩;refine kO ?_;exact Wq304):P:=h
theorem Xt(h:P:=by rcases je h with h|h|h|h<;>omega):P:=h
theorem Wx94_(h:P:=by exact(h.add 0 0 0 n hn (Or.inl I)).1.Tt _ (sing (h.add 0 0 0 n hn (Or.inl I)).2)):P:=h
theorem Wx95_(h:P:=by exact(kT.set R 12 _ (e:=[rd,12]) cE).trans (kT.set _ rd _ (e:=[rd,12]) cE) Do):P:=h
theorem Wx96_(h:P:=by refine cQ 3 Zk (Wq295 ?_);rintro _ _ ⟨_,⟨Ar,rfl,rfl⟩,rfl⟩;exact Wx10_):P:=h
theorem Wx97_(h:P:=by refine Us ?_;refine UD (λw hi=>E6 a b _ hb w) ?_;refine UG ?_;exact WO):P:=h
theorem Wx98_(h:P:=by refine ZE 5 ?_;refine cQ 6 Zk (y7 ?_);rintro _ _ ⟨b9,rfl,rfl⟩;exact Wq307):P:=h
theorem Wx99_(h:P:=by have hr:V9 .u32 ((x:Int) - y)=(r:Int):=hr;unfold jV;rw[hr,jk hr2];exact hT ..):P:=h
theorem YC(h:P:=by have:=congrArg List.length hs;rw[List.length_drop]at this;simp at this;omega):P:=h
theorem YB(h:P:=by simp only[aa]at hc4;obtain rfl:k=64:=O;refine gX ?_;refine Ca ?_;exact ff):P:=h
theorem Xl(h:P:=by subst e;show zk _=_;rw[hP (eu _ _ _)];rfl):P:=h
theorem Xk(h:P:=by refine kb ?_;refine Vo ((k+1,A2,c2)) O):P:=h
theorem Wa(h:P:=by refine Nu ?_;exact ff):P:=h
theorem Wt(h:P:=by refine o9 ?_;exact Wx31_):P:=h
theorem YA(h:P:=by refine gV ?_;refine py ?_;refine dg 32 1 (Us ?_);refine mS ?_;exact Nh):P:=h
end
theorem Uw{P Q:Prop}(h:Q)(f:Uj Q->P:=by intro y9;rintro _ _ ⟨rfl,rfl⟩;exact y9.1):P:=f ⟨h⟩
theorem Vb{P Q:Prop}(h:Q)(f:Uj Q->P:=by intro y9;rintro _ _ ⟨_,⟨rfl,rfl⟩,rfl⟩;exact y9.1):P:=f ⟨h⟩
section
variable{P Q:Prop}
theorem O(h:P:=by omega):P:=h
theorem Uq(h:P:=by exact λ_=>by omega):P:=h
theorem WU(h:Q)(f:Uj Q->P:=by intro y9;exact gK (cs':=[row _ _ _,slv _ _ _ _ _ _,slv _ _ _ _ _ _,row _ _ _,VD _ _ _ _,row _ _ _,row _ _ _,row _ _ _,row _ _ _,row _ _ _,slv _ _ _ _ _ _,slv _ _ _ _ _ _,row _ _ _,slv _ _ _ _ _ _]) (.inr I) Zu I y9.1):P:=f ⟨h⟩
theorem WT(h:Q)(f:Uj Q->P:=by intro y9;exact vL (cs':=[row _ _ _,slv _ _ _ _ _ _,slv _ _ _ _ _ _,row _ _ _,row _ _ _,slv _ _ _ _ _ _,slv _ _ _ _ _ _,row _ _ _,slv _ _ _ _ _ _,V6 _ _ _ _,slv _ _ _ _ _ _]) (.inl I) Zu I I I y9.1):P:=f ⟨h⟩
theorem An(h:P:=by decide):P:=h
theorem Wq6(h:P:=by refine ZM ?_;refine Us ?_;refine bI [row b2 _ _,slv 366 5 A (J c) cc (c.flatMap II.cells),sl .i64 3 A3 (J (dT pl p.SP)) c3 (dT pl p.SP),sl .i64 3 A4 (J (dT pl p.SQ)) c4 (dT pl p.SQ)] Zj ?_;refine mz (cs':=[slv _ _ _ _ _ _,slv _ _ _ _ _ _,slv _ _ _ _ _ _]) (.inl I) Zu I I Zh ir ir ?_;rw[hsT _ _ hm1 hm2];exact⟨⟨A,cc,A3,c3,A4,c4⟩,I,I⟩):P:=h
theorem WR(h:Q)(f:Uj Q->P:=by intro y9;refine Zy (dr ne ne Zl) ?_;exact py y9.1):P:=f ⟨h⟩
theorem Do(h:P:=by grind):P:=h
theorem Wq9(h:Q)(f:Uj Q->P:=by intro y9;refine ZL ?_;refine UA ?_;refine ZM ?_;refine Ut ?_;exact sD (cs':=[slv _ _ _ _ _ _,slv _ _ _ _ _ _]) (.inl I) Zu I I I Zh ir ir y9.1):P:=f ⟨h⟩
theorem pd(h:Q)(f:Uj Q->P:=by intro y9;exact vL (cs':=[]) (.inl I) Zu I I I y9.1):P:=f ⟨h⟩
theorem jP(h:Q)(f:Uj Q->P:=by intro y9;exact gJ (i9 I I ir ir I I) I y9.1):P:=f ⟨h⟩
theorem Wq13(h:P:=by refine et (iJ ir I I I Za (by simp[ints,hR])) ?_;refine Uw ?_;rw[Lr (by simp[hR])];refine UG ?_;refine Vd ([row _ _ _,slv _ _ _ _ _ _,slv _ _ _ _ _ _]) ?_;exact⟨I,I⟩):P:=h
theorem o9(h:Q)(f:Uj Q->P:=by intro y9;exact ret3 (cs':=[]) (.inl I) Zu I I I I y9.1):P:=f ⟨h⟩
theorem gI(h:P:=by simp only[maxLen];omega):P:=h
theorem Sv(h:Q)(f:Uj Q->P:=by intro y9;refine key _ _ _ _ _ I ?_;refine key _ _ _ _ _ I ?_;refine key _ _ _ _ _ I ?_;exact key _ _ _ _ _ I y9.1):P:=f ⟨h⟩
theorem pJ(h:Q)(f:Uj Q->P:=by intro y9;refine gX ?_;exact ret4 (cs':=[]) (.inl I) Zu I I I I I y9.1):P:=f ⟨h⟩
theorem v7(h:Q)(f:Uj Q->P:=by intro y9;refine Us ?_;refine ZM ?_;refine Uu ?_;exact mz (cs':=[]) (.inl I) Zu I I Zh ir ir y9.1):P:=f ⟨h⟩
theorem Wq19(h:Q)(f:Uj Q->P:=by intro y9;refine io (bP I I) I I ?_;refine io (bP I I) I I ?_;refine io (bP I I) I I ?_;exact io (bP I I) I I y9.1):P:=f ⟨h⟩
theorem ff(h:P:=by exact⟨I,I⟩):P:=h
theorem mW(h:Q)(f:Uj Q->P:=by intro y9;refine ZE 0 ?_;exact ZE 1 y9.1):P:=f ⟨h⟩
theorem Iu(h:Q)(f:Uj Q->P:=by intro y9;exact vL (cs':=[row _ _ _,row _ _ _,row _ _ _,row _ _ _,slv _ _ _ _ _ _,slv _ _ _ _ _ _,row _ _ _,slv _ _ _ _ _ _]) (.inl I) Zu I I I y9.1):P:=f ⟨h⟩
theorem Na(h:P:=by refine Vd ([row _ _ _,slv _ _ _ _ _ _,slv _ _ _ _ _ _]) ?_;rw[hst];exact⟨⟨_,_,_,_⟩,I,I⟩):P:=h
theorem XO(h:P:=by first|exact dD rfl|exact List.mem_append_left _ (dD rfl)|exact List.mem_append_right _ (dD rfl)|exact List.mem_append_right _ (List.mem_append_right _ (List.mem_append_left _ (dD rfl)))|exact List.mem_append_right _ (List.mem_append_right _ (List.mem_append_right _ (dD rfl)))):P:=h
theorem Su(h:Q)(f:Uj Q->P:=by intro y9;exact Zy (jW (Zv I) (Zv I) O (show _=((va/64:Nat):Int)from by rw[bj O,u32_wrap_id _ O O];omega)) y9.1):P:=f ⟨h⟩
theorem DV(h:Q)(f:Uj Q->P:=by intro y9;exact ft I I (mm ir I I I Za Zp) (λ_=>by refine Uw ?_;exact bO (t:=370) Zh) y9.1):P:=f ⟨h⟩
theorem Ca(h:Q)(f:Uj Q->P:=by intro y9;exact Vd ([row _ _ _,slv _ _ _ _ _ _,V6 _ _ _ _,slv _ _ _ _ _ _,row _ _ _,slv _ _ _ _ _ _,slv _ _ _ _ _ _]) y9.1):P:=f ⟨h⟩
theorem BT(h:Q)(f:Uj Q->P:=by intro y9;exact dW (bL ir (Zv I)) (cS (by assumption) rfl) rfl y9.1):P:=f ⟨h⟩
theorem jn(h:Q)(f:Uj Q->P:=by intro y9;exact cG I (I) y9.1):P:=f ⟨h⟩
theorem Ss(h:Q)(f:Uj Q->P:=by intro y9;refine qJ I (bU I I) (zr (cU I)) I ?_;refine qJ I (bU I I) (dq 0 I (cU I) Zf) I ?_;exact NB I (bU I I) (bL ir (cU I)) (cO Zh I) I y9.1):P:=f ⟨h⟩
theorem fe(h:Q)(f:Uj Q->P:=by intro y9;exact I1 Zk y9.1):P:=f ⟨h⟩
theorem Xn(h:Q)(f:Uj Q->P:=by intro y9;refine dX I (zt ne) I ?_;refine dX I (kf ne (.zero _ _)) I ?_;exact dX I (kf ne (.succ _ (.zero _ _))) I y9.1):P:=f ⟨h⟩
theorem XN(h:P:=by first|exact IntWalk.u64_in _ ⟨by omega,by omega⟩|exact rfl):P:=h
theorem cE(h:P:=by simp):P:=h
theorem Io(h:Q)(f:Uj Q->P:=by intro y9;exact Vd ([row _ _ _,row _ _ _,row _ _ _,row _ _ _,slv _ _ _ _ _ _,slv _ _ _ _ _ _,row _ _ _,slv _ _ _ _ _ _,VD _ _ _ _]) y9.1):P:=f ⟨h⟩
theorem pE(h:Q)(f:Uj Q->P:=by intro y9;exact vQ I (bL ir ne) (cO Zh I) I y9.1):P:=f ⟨h⟩
theorem pD(h:P:=by simp only[bR, *,ae,ac];exact I):P:=h
theorem vO(h:Q)(f:Uj Q->P:=by intro y9;exact jX I I (i9 I I ir ir I I) ZJ I y9.1):P:=f ⟨h⟩
theorem fC(h:Q)(f:Uj Q->P:=by intro y9;refine UG ?_;exact VW y9.1):P:=f ⟨h⟩
theorem QO(h:Q)(f:Uj Q->P:=by intro y9;refine ZE 9 ?_;exact gC 10 I Zk Zk Zk (eA (Zv I) (Zv I) (show _=(J l:Int)from by rw[hdl];exact aN _ ⟨by omega,by omega⟩|>.trans O)) rfl y9.1):P:=f ⟨h⟩
theorem lK(h:P:=by as_aux_lemma=>kernel_rfl):P:=h
theorem Wq42(h:P:=by refine V7 (gz (Ve br bu D) X ((R.wd l).wt ⟨ca,ad⟩)) (λw hi hin=>jd (Ve br bu D) X ((R.wd l).wt ⟨ca,ad⟩) _ 1 1 [v] (show J l+1<=1000000 by omega) w hin (λw' hk=>hi.TC Zi Zh hk)) ?_;rintro _ _ ⟨_,⟨A',c',rfl,rfl⟩,rfl⟩;refine py ?_;refine bI (gz (Ve br bu D) ⟨A',c',X.Ar,X.cr⟩ (((R.wd l).wt ⟨ca,ad⟩).wd (l++[v]))++uF bu bb L U') Zj ?_;refine gK (cs':=[row _ _ _,slv _ _ _ _ _ _,slv _ _ _ _ _ _,row _ _ _,VD _ _ _ _,row _ _ _]) (.inr I) Zu I ?_;exact⟨⟨A',c',X.Ar,X.cr⟩,I,I⟩):P:=h
theorem Ii(h:Q)(f:Uj Q->P:=by intro y9;exact vL (cs':=[row _ _ _,slv _ _ _ _ _ _,V6 _ _ _ _,slv _ _ _ _ _ _]) (.inl I) Zu I I I y9.1):P:=f ⟨h⟩
theorem Wq44(h:Q)(f:Uj Q->P:=by intro y9;refine py ?_;refine Wl I I (jH (cU I) (Zv I) O I) ?_;refine ZB ?_;refine Wl I I (jH (cU I) (Zv I) O I) ?_;exact Wl I I (xB (cU I) (cU I) (tf (wrap_u32 _) ha)) y9.1):P:=f ⟨h⟩
theorem mK(h:Q)(f:Uj Q->P:=by intro y9;exact dX I (zt ne) I y9.1):P:=f ⟨h⟩
theorem vC(h:P:=by simp only[yt, *,ae,ac];exact I):P:=h
theorem mJ(h:P:=by exact I):P:=h
theorem YE(h:P:=by refine UA ?_;refine ZM ?_;refine Us ?_;refine mz (cs':=[]) (.inl I) Zu I I Zh ir ir ?_;exact⟨⟨_,_,I,(by first|exact u0|exact hxu|exact i7 O),hop⟩,rfl⟩):P:=h
theorem Sr(h:Q)(f:Uj Q->P:=by intro y9;exact Zy (eA (Zv I) (Zv I) (show _=(J l:Int)from by rw[hdl];exact aN _ ⟨by omega,by omega⟩|>.trans O)) y9.1):P:=f ⟨h⟩
theorem y6(h:Q)(f:Uj Q->P:=by intro y9;exact gJ (ng I I ir ir I I I) I y9.1):P:=f ⟨h⟩
theorem Wq53(h:Q)(f:Uj Q->P:=by intro y9;refine bJ (λm:ek=>m.d.lines) h ?_;refine bJ (λm:ek=>m.d.lines) h ?_;refine bJ (λm:ek=>m.d.lines) h ?_;refine bJ (λm:ek=>m.d.lines) h ?_;exact bJ (λm:ek=>m.d.lines) h y9.1):P:=f ⟨h⟩
theorem QA(h:P:=by exact λ_=>by refine Uw ?_;exact bO (t:=180) Zh):P:=h
theorem YD(h:Q)(f:Uj Q->P:=by intro y9;refine qJ I (bP I I) (zr (cU I)) I ?_;refine qJ I (bP I I) (dq 0 I (cU I) Zf) I ?_;exact NB I (bP I I) (bL ir (cU I)) (cO Zh I) I y9.1):P:=f ⟨h⟩
theorem sQ(h:P:=by simp only[cz, *,ae,ac]):P:=h
theorem BR(h:Q)(f:Uj Q->P:=by intro y9;exact Zy (cW (j:=k) I ir (Zv I) (Zv I) Uq Uq) y9.1):P:=f ⟨h⟩
theorem Qz(h:P:=by refine JL (cs':=[row _ _ _,VD _ _ _ _,row _ _ _]) (.inl I) Zu I I I Zh ir ir ?_;exact ff):P:=h
theorem Xm(h:Q)(f:Uj Q->P:=by intro y9;exact vL (cs':=[row _ _ _,slv _ _ _ _ _ _,slv _ _ _ _ _ _,row _ _ _,row _ _ _,slv _ _ _ _ _ _,slv _ _ _ _ _ _]) (.inl I) Zu I I I y9.1):P:=f ⟨h⟩
theorem zm(h:P:=by simp only[ux, *,ae,ac];exact I):P:=h
theorem sP(h:Q)(f:Uj Q->P:=by intro y9;refine ZG 3 ?_;refine ZE 4 ?_;exact ZE 5 y9.1):P:=f ⟨h⟩
theorem Wq62(h:P:=by refine Zy (bW (bb:=b66) (o:=0) (n:=i) (c:=i) (j:=nt) (sz:=1) (r:=nt) I ir (Zv I) (Zv I) (λ_=>hnt) Uq O) ?_;refine dW (bL ir (Zv I)) (cN Zh (jz O)) I ?_;refine V2 ?_;refine ZL ?_;refine Uu ?_;exact Wq6):P:=h
theorem Sq(h:Q)(f:Uj Q->P:=by intro y9;refine Zy (eO (J l) I ir (Zv I) (Zv I) (λ_=>by first|rfl|omega) Uq) ?_;refine py ?_;exact ZL y9.1):P:=f ⟨h⟩
theorem vB(h:P:=by refine VW ?_;exact ff):P:=h
theorem Wq65(h:P:=by refine retCC (cs':=[row _ _ _,slv _ _ _ _ _ _,slv _ _ _ _ _ _]) (.inl I) Zu I I I Zh Zh ir ir ir ir ?_;exact ff):P:=h
theorem XM(h:Q)(f:Uj Q->P:=by intro y9;refine Zy (bW (j:=k) (sz:=1) (r:=k) I ir (Zv I) (Zv I) Uq Uq O) ?_;exact et (xK ir I I I Za O) y9.1):P:=f ⟨h⟩
theorem Wq67(h:Q)(f:Uj Q->P:=by intro y9;exact ZcS (Vr be E) (λw hi hin=>HFi (some ⟨bq,p%64,none⟩) (64 - p%64) w hin (λw' hk=>cut64 (de (hi.TD Zi (Ur (sl .u8 5 (sA bq) 64 64 D)) hk)) O hXl)) y9.1):P:=f ⟨h⟩
theorem vN(h:P:=by simp only[St.set, *,ae,ac]):P:=h
theorem IN(h:P:=by refine Vd ([slv _ _ _ _ _ _]) ?_;exact⟨_,_,I,I⟩):P:=h
theorem Ig(h:Q)(f:Uj Q->P:=by intro y9;exact Zy (cA I I (Zv I) (u64_wrap_id _ O O)) y9.1):P:=f ⟨h⟩
theorem Nu(h:Q)(f:Uj Q->P:=by intro y9;exact sD (cs':=[]) (.inl I) Zu I I I Zh ir ir y9.1):P:=f ⟨h⟩
theorem Wq72(h:Q)(f:Uj Q->P:=by intro y9;refine bJ (λx:Int=>x=0->(J s.d:Int) - (bR op).1.1+(bR op).1.2<=16/\(J s.r:Int) - (bR op).2.1+(bR op).2.2<=16) (λh=>by cases h) ?_;exact bJ (λx:Int=>x=0->(J s.d:Int) - (bR op).1.1+(bR op).1.2<=16/\(J s.r:Int) - (bR op).2.1+(bR op).2.2<=16) (λh=>by cases h) y9.1):P:=f ⟨h⟩
theorem MT(h:P:=by first|exact IntWalk.u32_in _ ⟨by omega,by omega⟩|exact rfl):P:=h
theorem Wq74(h:Q)(f:Uj Q->P:=by intro y9;exact mz (cs':=[slv _ _ _ _ _ _,slv _ _ _ _ _ _,slv _ _ _ _ _ _,row _ _ _,VD _ _ _ _,row _ _ _,row _ _ _,row _ _ _,row _ _ _,row _ _ _,slv _ _ _ _ _ _,slv _ _ _ _ _ _,row _ _ _,slv _ _ _ _ _ _]) (.inl I) Zu I I Zh ir ir y9.1):P:=f ⟨h⟩
theorem Wq75(h:Q)(f:Uj Q->P:=by intro y9;refine ZA ?_;refine Zy (jH (Zv I) (Zv I) O (show _=((va/1024:Nat):Int)from(Xe _ 10).trans O)) ?_;refine Zy (m4 (Zv I) (Zv I) (show _=((va/1024%16:Nat):Int)from(ML ⟨by omega,by omega⟩).trans O)) ?_;exact Zy (fL (Zv I) (Zv I) (show _=((4*(va/1024%16):Nat):Int)from(u32_wrap_id _ O O).trans O)) y9.1):P:=f ⟨h⟩
theorem If(h:Q)(f:Uj Q->P:=by intro y9;refine dX I (Ef ne) I ?_;exact kr y9.1):P:=f ⟨h⟩
theorem MS(h:Q)(f:Uj Q->P:=by intro y9;refine ZI 0 ?_;refine ZE 1 ?_;refine cQ 2 Zk ?_;refine ZR ?_;exact fe y9.1):P:=f ⟨h⟩
theorem Wq78(h:Q)(f:Uj Q->P:=by intro y9;refine bJ (λq:Bool×Uy×Un=>UI n q.2.1) h ?_;refine bJ (λq:Bool×Uy×Un=>UI n q.2.1) h ?_;exact bJ (λq:Bool×Uy×Un=>UI n q.2.1) h y9.1):P:=f ⟨h⟩
theorem Wq79(h:P:=by refine et (fg (ys:=my (Ve br bu D) X ((R.wd l).wt ⟨ca,ad⟩)) (n:=2) (vs:=[.i ca,.w ad]) I ir I I (ka I) Za I (by simp only[aE,bC];omega)) ?_;refine Uw ?_;refine Uu ?_;refine jP ?_;rintro _ _ ⟨b29,rfl,rfl⟩;exact Wq42):P:=h
theorem y5(h:Q)(f:Uj Q->P:=by intro y9;refine mW ?_;exact ZE 2 y9.1):P:=f ⟨h⟩
theorem Wq81(h:P:=by have ht1:p.target≠ -1:=(by simpa using hc28);obtain⟨nt,hnt,hnt2⟩:=htg ht1;have hm2:hI pl p.target=pl.getD nt 0:=(by unfold hI;rw[hc28,ae,hnt,aP]);refine Ut ?_;exact Wq62):P:=h
theorem sO(h:Q)(f:Uj Q->P:=by intro y9;exact Zy (cA I I ne Zl) y9.1):P:=f ⟨h⟩
theorem B8(h:P:=by simp only[oL,wM, *,ae,ac]):P:=h
theorem zl(h:Q)(f:Uj Q->P:=by intro y9;exact lv I I (tV ir I) ZJ I y9.1):P:=f ⟨h⟩
theorem mR(h:Q)(f:Uj Q->P:=by intro y9;refine V2 ?_;exact ZL y9.1):P:=f ⟨h⟩
theorem mV(h:Q)(f:Uj Q->P:=by intro y9;exact bV I (I) y9.1):P:=f ⟨h⟩
theorem Wq87(h:Q)(f:Uj Q->P:=by intro y9;refine Wl I I (eA (cU I) (cU I) I) ?_;refine ZB ?_;exact Wl I I (cA I I (cU I) (show _=(bif decide (0<m)then m else V9 .u64 m)from by cases hd:decide (0<m)with|false=>rfl|true=>(rw[ae,aS];simp only[ah]at hd;omega))) y9.1):P:=f ⟨h⟩
theorem pI(h:Q)(f:Uj Q->P:=by intro y9;refine fe ?_;exact py y9.1):P:=f ⟨h⟩
theorem Wq89(h:Q)(f:Uj Q->P:=by intro y9;refine fo ?_;exact UX (λq:Nat×List HI=>[(6,.p b21),(70,.slice Af (J f9) cf),(71,.i (J f9)),(72,.i (q.1:Int))]) (λq=>[row b21 (rC (⟨b21,p,Q,pl,Ar,cr,As,c2⟩:VU) (J q.2) (J f9) (⟨Al,cl,Af,cf⟩:VB)) 362,Wu (⟨Al,cl,Af,cf⟩:VB).Al (⟨Al,cl,Af,cf⟩:VB).cl q.2,sl .i64 3 (⟨Al,cl,Af,cf⟩:VB).Af (J f9) (⟨Al,cl,Af,cf⟩:VB).cf f9]) (λq=>q.1<=J f9/\J q.2=J l9/\qd (V9 .u32 (J l9:Int)) (f9.drop q.1) q.2=B9) (λq=>J f9 - q.1) (⟨0,l9⟩) Do y9.1):P:=f ⟨h⟩
theorem F8(h:Q)(f:Uj Q->P:=by intro y9;exact Zy (jH (Zv I) (Zv I) O I) y9.1):P:=f ⟨h⟩
theorem Wq91(h:P:=by refine ZM ?_;refine Us ?_;refine mz (cs':=[slv _ _ _ _ _ _,slv _ _ _ _ _ _]) (.inl I) Zu I I Zh ir ir ?_;exact⟨_,_,_,_,I,I⟩):P:=h
theorem B7(h:Q)(f:Uj Q->P:=by intro y9;refine bN (UK []) Zk ?_;exact mW y9.1):P:=f ⟨h⟩
theorem Qy(h:P:=by simp only[yP,jK, *,ae,ac,Bool.not_true,Bool.not_false]):P:=h
theorem IM(h:Q)(f:Uj Q->P:=by intro y9;exact Vd ([row _ _ _,slv _ _ _ _ _ _,slv _ _ _ _ _ _]) y9.1):P:=f ⟨h⟩
theorem Nt(h:Q)(f:Uj Q->P:=by intro y9;exact wh I (bL ir ne) (cO Zh I) I y9.1):P:=f ⟨h⟩
theorem So(h:Q)(f:Uj Q->P:=by intro y9;refine dX I (zr ne) I ?_;exact dX I (dq 0 I ne Zf) I y9.1):P:=f ⟨h⟩
theorem Wq97(h:Q)(f:Uj Q->P:=by intro y9;refine Ut ?_;rw[pm,yh,<-yg n (-1:Int) 0];refine iH [dF bp B ow (pr.set o n),jS b43 bp o b39 b41 n,Xr b39 n (R9 0 (-1)++R9 (n - 0) 0),gdC b41 n (R9 n false)] Zj ?_;refine UE ?_;exact UX (λk:Nat=>[(9,.p b43),(48,.i n),(49,.i (k:Int))]) (λk=>[dF bp B ow (pr.set o n),jS b43 bp o b39 b41 n,Xr b39 n (R9 k (-1)++R9 (n - k) 0),gdC b41 n (R9 n false)]) (λk=>k<=n) (λk=>n - k) (0) (ay _) y9.1):P:=f ⟨h⟩
theorem XL(h:Q)(f:Uj Q->P:=by intro y9;refine UD (λw hi=>fis_ok o w) ?_;rw[ak (show(0:Int)<=o by omega),ak (show(o:Int)<4 by omega)];exact y9.1):P:=f ⟨h⟩
theorem Wq99(h:Q)(f:Uj Q->P:=by intro y9;refine ZI 0 ?_;refine wn 1 I Zk Zk Zk (cj ir ir ne) (λx hx=>fU x hx) (bO (t:=180) Zh) I ?_;exact cQ 2 Zk y9.1):P:=f ⟨h⟩
theorem Rw(h:P:=by refine retCC (cs':=[VD _ _ _ _]) (.inl I) Zu I I I Zh Zh ir ir ir ir ?_;exact ff):P:=h
theorem ID(h:Q)(f:Uj Q->P:=by intro y9;exact ft I I (mm ir I I I Za Zp) (λ_=>by refine Uw ?_;exact bO (t:=351) Zh) y9.1):P:=f ⟨h⟩
theorem IC(h:Q)(f:Uj Q->P:=by intro y9;exact gC 11 I Zk Zk Zk (bW (j:=J l) (sz:=1) (r:=J l) I ir (Zv I) (Zv I) Uq Uq O) I y9.1):P:=f ⟨h⟩
theorem ke(h:Q)(f:Uj Q->P:=by intro y9;refine ZQ ?_;exact fe y9.1):P:=f ⟨h⟩
theorem Ni(h:Q)(f:Uj Q->P:=by intro y9;refine io (bU I I) I I ?_;exact io (bU I I) I I y9.1):P:=f ⟨h⟩
theorem Wq106(h:P:=by refine ZE 5 ?_;refine pI ?_;refine bI (gz (Ve br bu D) X (R.wdv ⟨ca,ad⟩ (ca==0&&decide (32768<=p)))++uF bu bb L U') Zj ?_;refine vL (cs':=[row _ _ _,slv _ _ _ _ _ _,slv _ _ _ _ _ _,row _ _ _,VD _ _ _ _,row _ _ _]) (.inl I) Zu I I I ?_;rw[hc1];exact ff):P:=h
theorem gx(h:P:=by assumption):P:=h
theorem Rv(h:P:=by refine Uw ?_;refine If ?_;refine UE ?_;refine bI (tdF b1 be E) Zj ?_;refine IH (cs':=tdF b1 be E) (.inl I) (aO _) I I ?_;exact ff):P:=h
theorem BZ(h:Q)(f:Uj Q->P:=by intro y9;refine ws_1 I ?_;exact rS I I (cH ir I I (mO y) Za mJ) ZJ y9.1):P:=f ⟨h⟩
theorem Nh(h:P:=by refine JL (cs':=[row _ _ _,VD _ _ _ _,row _ _ _,slv _ _ _ _ _ _]) (.inl I) Zu I I I Zh ir ir ?_;exact⟨_,_,I,I⟩):P:=h
theorem zd(h:Q)(f:Uj Q->P:=by intro y9;refine ws_1 I ?_;exact rS I I (mm ir I I I Za Zp) ZJ y9.1):P:=f ⟨h⟩
theorem Wq113(h:Q)(f:Uj Q->P:=by intro y9;refine cQ 14 Zk ?_;refine ZR ?_;refine fe ?_;refine Ux ?_;exact et (fg (ys:=my (Ve br bu D) X (R.wt ⟨ca,ad⟩)) (n:=2) (vs:=[.i ca,.w ad]) I ir I I (ka I) Za I (by simp only[aE,bC];omega)) y9.1):P:=f ⟨h⟩
theorem Ru(h:Q)(f:Uj Q->P:=by intro y9;refine Zy (cA I I (Zv I) (u32_wrap_id _ (by show 0<=(z:Int);omega) (by show(z:Int)<4294967296;omega))) ?_;exact Zy (dr (Zv I) (Zv I) (show _=(((p+z)%4294967296:Nat):Int)from by show V9 .u32 ((p:Int)+(z:Int))=_;rw[au];omega)) y9.1):P:=f ⟨h⟩
theorem IB(h:P:=by simp only[VC,zW,UP,UU,ar,bY,aE,bC,bA]):P:=h
theorem BY(h:Q)(f:Uj Q->P:=by intro y9;refine ZA ?_;exact et (cH (vs:=tr.cells) ir I I (ka I) Za mJ) y9.1):P:=f ⟨h⟩
theorem fZ(h:Q)(f:Uj Q->P:=by intro y9;refine Ut ?_;exact WR y9.1):P:=f ⟨h⟩
theorem BX(h:Q)(f:Uj Q->P:=by intro y9;refine ZG 4 ?_;refine ZE 5 ?_;exact ZE 6 y9.1):P:=f ⟨h⟩
theorem ι(h:P:=by refine ft I I (iJ ir I I I Za (by simp[ints,hR];omega)) ZJ ?_;refine Uw ?_;rw[hm_setr hR O];refine fe ?_;refine UG ?_;exact Wq13):P:=h
theorem θ(h:Q)(f:Uj Q->P:=by intro y9;refine Ux ?_;exact V7 (Vn b N ⟨C2,s2,L.r,L.flags,L.target,L.branch⟩ ⟨A2,c2,X.Ad,X.cd,X.Ar,X.cr⟩) (λw hi hin=>tx b N ⟨C2,s2,L.r,L.flags,L.target,L.branch⟩ ⟨A2,c2,X.Ad,X.cd,X.Ar,X.cr⟩ ((jb hs hC2 hs2 _ _ _).mono O) w hin) y9.1):P:=f ⟨h⟩
theorem Ng(h:P:=by refine JL (cs':=[row _ _ _,row _ _ _,slv _ _ _ _ _ _,slv _ _ _ _ _ _]) (.inl I) Zu I I I Zh ir ir ?_;exact ff):P:=h
theorem Rt(h:Q)(f:Uj Q->P:=by intro y9;refine Zy (cW (j:=J l) I ir (Zv I) (Zv I) Uq Uq) ?_;exact dW (bL ir ne) (jo (λw' hk=>(h w' hk).d) (bX (gD l (va:Int)))) I y9.1):P:=f ⟨h⟩
theorem v8(h:Q)(f:Uj Q->P:=by intro y9;exact Og (cs':=[]) (.inl I) Zu I I I I Zh ir ir y9.1):P:=f ⟨h⟩
theorem Wq124(h:Q)(f:Uj Q->P:=by intro y9;rw[hc10];simp only[ae];unfold Uy.Tm;refine UA ?_;exact UX (λk:Nat=>[(0,.p K.bm),(2,.w (va:Int)),(10,.p b10),(11,.p b11),(12,.int .u64 (a:Int)),(13,.w l),(16,.w m),(17,.int .u64 (k:Int))]) (λk=>VT K n (M.SY a m k)++[row b10 [.bool false,.w 0,.w 0,.w 0] 92,row b11 [.i 0,.w 0] 254]) (λk=>k<=4) (λk=>4 - k) (0) (ay _) y9.1):P:=f ⟨h⟩
theorem η(h:Q)(f:Uj Q->P:=by intro y9;refine jF ?_;refine Uu ?_;refine Zy (eA (Zv I) (Zv I) (show _=((J l+1:Nat):Int)from by rw[hdl];exact aN _ ⟨by omega,by omega⟩|>.trans O)) ?_;exact Zy (cW (j:=(J l+1)) I ir (Zv I) (Zv I) Uq Uq) y9.1):P:=f ⟨h⟩
theorem iz(h:Q)(f:Uj Q->P:=by intro y9;refine ZM ?_;exact Ut y9.1):P:=f ⟨h⟩
theorem IA(h:Q)(f:Uj Q->P:=by intro y9;exact Zy (cA I I (Zv I) (by first|exact IntWalk.u8_in _ ⟨by omega,by omega⟩|exact rfl)) y9.1):P:=f ⟨h⟩
theorem ζ(h:P:=by refine Zy (jH (Zv I) (Zv I) O (show _=m/256 from(Xe _ 8).trans hmd.symm)) ?_;refine Ut ?_;refine ZM ?_;refine ZM ?_;refine Us ?_;exact Wq65):P:=h
theorem Rs(h:P:=by refine JL (cs':=[row _ _ _,row _ _ _,slv _ _ _ _ _ _,slv _ _ _ _ _ _,slv _ _ _ _ _ _]) (.inl I) Zu I I I Zh ir ir ?_;exact⟨_,_,I,I⟩):P:=h
theorem kR(h:Q)(f:Uj Q->P:=by intro y9;exact Zy (dr ne ne I) y9.1):P:=f ⟨h⟩
theorem Iz(h:Q)(f:Uj Q->P:=by intro y9;refine cQ 16 Zk ?_;exact ft I I (cH (vs:=te.cells) ir I I (ka I) Za mJ) ZJ y9.1):P:=f ⟨h⟩
theorem Iy(h:Q)(f:Uj Q->P:=by intro y9;refine cQ 17 Zk ?_;exact ft I I (cH (vs:=tr.cells) ir I I (ka I) Za mJ) ZJ y9.1):P:=f ⟨h⟩
theorem Wq133(h:Q)(f:Uj Q->P:=by intro y9;refine τ 9 1 ?_;refine Η 10 I Zk Zk Zk Zk (bU I I) (bL ir (cU I)) (cO Zh I) I ?_;refine ZF 11 ?_;refine ZF 12 ?_;exact ZE 13 y9.1):P:=f ⟨h⟩
theorem Wq134(h:Q)(f:Uj Q->P:=by intro y9;refine bJ (λx:Int=>x=0->(bR op).1.1<=J s.d/\(bR op).2.1<=J s.r) (λh=>by cases h) ?_;exact bJ (λx:Int=>x=0->(bR op).1.1<=J s.d/\(bR op).2.1<=J s.r) (λh=>by cases h) y9.1):P:=f ⟨h⟩
theorem qF(h:Q)(f:Uj Q->P:=by intro y9;exact qJ I (bU I I) (zt ne) I y9.1):P:=f ⟨h⟩
theorem Rq(h:Q)(f:Uj Q->P:=by intro y9;refine Zy (fL ne ne I) ?_;refine ZA ?_;exact Zy (fH (Zv I) (Zv I) O (show _=((va%64:Nat):Int)from by rw[aw O];omega)) y9.1):P:=f ⟨h⟩
theorem D3(h:P:=by rintro _ _ ⟨_,⟨A',c',rfl,rfl⟩,rfl⟩;refine UE ?_;exact Na):P:=h
theorem mL(h:Q)(f:Uj Q->P:=by intro y9;exact Zy (cA I I ne I) y9.1):P:=f ⟨h⟩
theorem Wq139(h:P:=by refine fe ?_;refine Us ?_;refine bI (row b8 (s.cells (.slice X.Ad (J s.d) X.cd) (.slice X.Ar (J s.r) X.cr)) 36::row b9 (RS.cells ⟨xr,A2,c2⟩) 180::tF bu bb L s X U be E2) Zj ?_;refine wH (cs':=tF bu bb L s X U be E2) (.inl I) (List.Sublist.cons _ (List.Sublist.cons _ (aO _))) I I I I Zh Zh ir ir ir ir ?_;rw[hTn];exact⟨E2,hE2,hEe,X,⟨xr,A2,c2⟩,I,I⟩):P:=h
theorem rO(h:P:=by simp only[kJ, *,ae,ac]):P:=h
theorem gW(h:P:=by simp;omega):P:=h
theorem Rp(h:P:=by simp[Builtin.delete_,run_underlying hT,MapKept.run_getObj_map hb,hK.K.check w _ hlq,h2,MapKept.run_setObj_map _ hb,Result.andThen,setBlock]):P:=h
theorem Ro(h:Q)(f:Uj Q->P:=by intro y9;refine iR ?_;exact Zy (eA (Zv I) (Zv I) (show _=(J l:Int)from by rw[hlen];exact aN _ ⟨by omega,by omega⟩|>.trans O)) y9.1):P:=f ⟨h⟩
theorem sX(h:P:=by simp only[gP,zk, *,ae,ac]):P:=h
theorem Wq146(h:P:=by refine ZcA (Vn b N ⟨code,d,⟨[],SK+1,high⟩,fl,tg,br⟩ X) (λw hi hin=>uL b N ⟨code,d,⟨[],SK+1,high⟩,fl,tg,br⟩ X hs2 2 0 0 0 (V9 .u32 SK) w hin) ?_;rintro _ _ ⟨_,⟨rfl,C2,A2,c2,hC2,rfl⟩,rfl⟩;refine ZE 13 ?_;refine pI ?_;refine Vd (Vn b N ⟨C2,d,⟨[],SK+1,high⟩,fl,tg,br⟩ ⟨A2,c2,X.Ad,X.cd,X.Ar,X.cr⟩) ?_;exact⟨I,C2,A2,c2,hC2,I⟩):P:=h
theorem Wq147(h:P:=by refine ZcA (Vn b N ⟨code,⟨[],SK+1,high⟩,r,fl,tg,br⟩ X) (λw hi hin=>uL b N ⟨code,⟨[],SK+1,high⟩,r,fl,tg,br⟩ X hs2 1 0 0 0 (V9 .u32 SK) w hin) ?_;rintro _ _ ⟨_,⟨rfl,C2,A2,c2,hC2,rfl⟩,rfl⟩;refine ZE 13 ?_;refine pI ?_;refine Vd (Vn b N ⟨C2,⟨[],SK+1,high⟩,r,fl,tg,br⟩ ⟨A2,c2,X.Ad,X.cd,X.Ar,X.cr⟩) ?_;exact⟨I,C2,A2,c2,hC2,I⟩):P:=h
theorem δ(h:P:=by refine Zy (jH (Zv I) (Zv I) O (show _=m/256 from Xe _ 8)) ?_;refine Ut ?_;refine ZM ?_;refine ZM ?_;refine Us ?_;exact Rw):P:=h
theorem rN(h:P:=by simp only[qe, *,ae,ac]):P:=h
theorem rM(h:P:=by simp only[cw, *,ae,ac]):P:=h
theorem Wq151(h:P:=by refine py ?_;refine Zy (fH (Zv I) (Zv I) O (show _=((v%40:Nat):Int)from by rw[aw O];omega)) ?_;refine Zy (dr (Zv I) (Zv I) (show _=((v%40+240:Nat):Int)from by rw[u32_wrap_id _ O O];omega)) ?_;refine Zy (fH (Zv I) (Zv I) O (show _=(((v%40+240)%256:Nat):Int)from by rw[aw O];omega)) ?_;refine mR ?_;exact YE):P:=h
theorem Wq152(h:Q)(f:Uj Q->P:=by intro y9;refine Zy (fL (Zv I) (Zv I) (show _=e/256*64 from u64_wrap_id _ O O)) ?_;refine ZA ?_;refine Zy (jH (Zv I) (Zv I) O (show _=((va/64:Nat):Int)from(Xe _ 6).trans O)) ?_;refine Zy (m4 (Zv I) (Zv I) (show _=((va/64%16:Nat):Int)from(ML ⟨by omega,by omega⟩).trans O)) ?_;exact Zy (fL (Zv I) (Zv I) (show _=((4*(va/64%16):Nat):Int)from(u32_wrap_id _ O O).trans O)) y9.1):P:=f ⟨h⟩
theorem Nf(h:P:=by show _=Value.tuple #[.i R.SL.SB,.w R.SL.addr];rw[show R.SL=Tr.none from ht];rfl):P:=h
theorem qE(h:Q)(f:Uj Q->P:=by intro y9;refine ZE 9 ?_;refine ZE 10 ?_;exact ZE 11 y9.1):P:=f ⟨h⟩
theorem Rm(h:Q)(f:Uj Q->P:=by intro y9;exact ig (c:=UP (R.wd (l++[x])).s (sA bd) cd) (c':=UP (R.wd l).s (sA bd) cd) Za I (λw h=>mM h) y9.1):P:=f ⟨h⟩
theorem Ix(h:Q)(f:Uj Q->P:=by intro y9;exact fD 3 I Zk Zk Zk (bL ir ne) (dD I) (bO (t:=370) Zh) I y9.1):P:=f ⟨h⟩
theorem Rl(h:Q)(f:Uj Q->P:=by intro y9;exact gJ (cu (e:=5) (sz:=1) (bytes:=1) I I Za I I (λw hi=>hi.rd (Ur (sl .u8 5 A2 (J E) c2 E))) cP gI O) I y9.1):P:=f ⟨h⟩
theorem Rk(h:Q)(f:Uj Q->P:=by intro y9;refine qJ I (bU I I) (xB (cU I) (cU I) (bne_self_eq_false _)) I ?_;exact dX I (Nx ne (Kj I ir)) I y9.1):P:=f ⟨h⟩
theorem BW(h:Q)(f:Uj Q->P:=by intro y9;exact rS I I (cH ir I I (nl x) Za mJ) ZJ y9.1):P:=f ⟨h⟩
theorem Wq160(h:P:=by refine ZE 4 ?_;refine fe ?_;refine Us ?_;refine bI (row b6 (BA.cells y) 262::row b7 (RS.cells x2) 180::VE y::Vr be E) Zj ?_;refine wH (cs':=VE y::Vr be E) (.inl I) (List.Sublist.cons _ (List.Sublist.cons _ (aO _))) I I I I Zh Zh ir ir ir ir ?_;exact⟨E,hE,by rw[hfn],by rw[hfn];exact⟨y,x2,I,I,λ_ _ e=>nomatch e⟩⟩):P:=h
theorem sW(h:P:=by simp only[cZ, *,ae,ac]):P:=h
theorem Wq162(h:Q)(f:Uj Q->P:=by intro y9;refine ZE 4 ?_;refine Ld 5 3 ?_;refine fD 6 I Zk Zk Zk (bL ir ne) (dD I) (bO (t:=366) Zh) I ?_;refine cQ 3 Zk ?_;exact jX I I (eE (UC S l1 fix X1) I (λ_ _=>I) Zi (λw hi hin=>yX S l1 fix X1 Do na 7 h1 h2 w hin (λw' hk=>hK w' (hi.Tn Zi hk)))) (λ_=>by rintro _ _ ⟨_,⟨rfl,l2,X2,hl2,rfl⟩,rfl⟩;exact bO (t:=366) Zh) I y9.1):P:=f ⟨h⟩
theorem iS(h:Q)(f:Uj Q->P:=by intro y9;refine ZM ?_;exact UA y9.1):P:=f ⟨h⟩
theorem pG(h:Q)(f:Uj Q->P:=by intro y9;exact Zy (cA I I (Zv I) XN) y9.1):P:=f ⟨h⟩
theorem Z9(h:Q)(f:Uj Q->P:=by intro y9;refine Uu ?_;exact V7 (UC S l5 fix X5) (λw hi hin=>DO S l5 fix X5 (by first|omega|(simp only[hs,hb,hl1,hl2,hl3,hl4,hl5,ar,aE,bC];omega)) 11 2 w hin) y9.1):P:=f ⟨h⟩
theorem D2(h:P:=by refine mz (cs':=[]) (.inl I) Zu I I Zh ir ir ?_;exact ff):P:=h
theorem Wq167(h:Q)(f:Uj Q->P:=by intro y9;refine bJ (λq:Bool×Uy×Un=>q.2.2.lines) ⟨h.mask⟩ ?_;refine bJ (λq:Bool×Uy×Un=>q.2.2.lines) ⟨h.mask⟩ ?_;exact bJ (λq:Bool×Uy×Un=>q.2.2.lines) ⟨h.mask⟩ y9.1):P:=f ⟨h⟩
theorem sV(h:P:=by simp only[St.get, *,ae,ac]):P:=h
theorem Z8(h:Q)(f:Uj Q->P:=by intro y9;refine Us ?_;refine U5 (gz K X (R.wd ((l++[x])++[y]))) (λw hi hin=>oT K X R (l++[x]) y w hin) ?_;refine ZA ?_;exact U5 (gz K X (R.wd (l++[x]))) (λw hi hin=>oT K X R l x w hin) y9.1):P:=f ⟨h⟩
theorem Rj(h:Q)(f:Uj Q->P:=by intro y9;exact Zy (eA (Zv I) (Zv I) (show _=(J l:Int)from by rw[hdl1];exact aN _ ⟨by omega,by omega⟩|>.trans O)) y9.1):P:=f ⟨h⟩
theorem Wq171(h:Q)(f:Uj Q->P:=by intro y9;refine io (bP I I) hg0 I ?_;refine io (bP I I) hg0 I ?_;exact io (bP I I) hg0 I y9.1):P:=f ⟨h⟩
theorem kV(h:P:=by refine pd ?_;exact ff):P:=h
theorem BV(h:Q)(f:Uj Q->P:=by intro y9;exact Cf I (bL ir ne) (cO Zh I) I y9.1):P:=f ⟨h⟩
theorem Z7(h:Q)(f:Uj Q->P:=by intro y9;refine ZE 10 ?_;refine Ld 11 0 ?_;refine cQ 12 Zk ?_;refine ke ?_;exact Zo y9.1):P:=f ⟨h⟩
theorem dZ(h:Q)(f:Uj Q->P:=by intro y9;exact ws_1 I y9.1):P:=f ⟨h⟩
theorem Wq176(h:Q)(f:Uj Q->P:=by intro y9;refine gC 10 I Zk Zk Zk (cA I I (Zv I) (show _=V9 .u32 (J l9:Int)from by rw[hml])) rfl ?_;refine gC 11 I Zk Zk Zk (bW (bb:=ba) (o:=0) (n:=J m) (c:=cl) (j:=n) (sz:=5) (r:=n*5) I ir (Zv I) (Zv I) ir Uq O) I ?_;refine Ld 12 4 ?_;refine cQ 13 Zk ?_;exact ft I I (Eu ir I I I Za O) ZJ y9.1):P:=f ⟨h⟩
theorem Ri(h:Q)(f:Uj Q->P:=by intro y9;refine pE ?_;refine gC 9 I Zk Zk Zk (eA ne ne hwr) I ?_;exact gC 10 I Zk Zk Zk (cA I I ne I) I y9.1):P:=f ⟨h⟩
theorem Wq178(h:P:=by refine Uw ?_;refine kr ?_;refine py ?_;refine bI (row b8 (s9.cells (.slice X3.Ad (J s9.d) X3.cd) (.slice X3.Ar (J s9.r) X3.cr)) 36::Wi be bu bb L D s9 X3 Y3 U9 d9 E3) Zj ?_;refine mz (cs':=(Wi be bu bb L D s9 X3 Y3 U9 d9 E3)) (.inl I) Zu I I Zh ir ir ?_;exact⟨X3,Y3,E3,hE3,hEe3,I,I⟩):P:=h
theorem jE(h:Q)(f:Uj Q->P:=by intro y9;refine UE ?_;exact VW y9.1):P:=f ⟨h⟩
theorem qD(h:P:=by exact λ_=>by first|rfl|omega):P:=h
theorem Z6(h:Q)(f:Uj Q->P:=by intro y9;exact dW (cj (vs:=[.i op,.i dst,.i xa,.i xb,.w imm]) ir ir ne) (fP hrc2 (λj v hj=>fK (f:=II.cells) ir (i:=j) hx hj)) I y9.1):P:=f ⟨h⟩
theorem fy(h:Q)(f:Uj Q->P:=by intro y9;simp only[ac];exact y9.1):P:=f ⟨h⟩
theorem BU(h:Q)(f:Uj Q->P:=by intro y9;exact Zy (cA I I (Zv I) (u32_wrap_id _ O O)) y9.1):P:=f ⟨h⟩
theorem mT(h:Q)(f:Uj Q->P:=by intro y9;exact Zy (dr ne ne Zl) y9.1):P:=f ⟨h⟩
theorem jD(h:Q)(f:Uj Q->P:=by intro y9;refine py ?_;exact ZL y9.1):P:=f ⟨h⟩
theorem Rh(h:Q)(f:Uj Q->P:=by intro y9;refine Us ?_;exact U5 (gz (Ve br bu D) X (R.wd (l++[(va:Int)]))) (λw hi hin=>oT (Ve br bu D) X R l va w hin) y9.1):P:=f ⟨h⟩
theorem kb(h:Q)(f:Uj Q->P:=by intro y9;refine Uu ?_;exact WR y9.1):P:=f ⟨h⟩
theorem Iw(h:Q)(f:Uj Q->P:=by intro y9;exact V7 (Vn b N L X) (λw hi hin=>tx b N L X (hs.mono O) w hin) y9.1):P:=f ⟨h⟩
theorem kU(h:Q)(f:Uj Q->P:=by intro y9;refine Us ?_;exact jn y9.1):P:=f ⟨h⟩
theorem Rg(h:Q)(f:Uj Q->P:=by intro y9;refine ZE 2 ?_;refine Ld 4 2 ?_;refine ZG 5 ?_;refine gC 6 I Zk Zk Zk (vP ne ne I) I ?_;exact cQ 3 Zk y9.1):P:=f ⟨h⟩
theorem Wq191(h:Q)(f:Uj Q->P:=by intro y9;exact V7 (UC (⟨b21,p,Q,pl,Ar,cr,As,c2⟩:VU) m f9 ⟨Al,cl,Af,cf⟩) (λw hi hin=>lD (⟨b21,p,Q,pl,Ar,cr,As,c2⟩:VU) m f9 ⟨Al,cl,Af,cf⟩ O [⟨19,0,0,0,2⟩] (sA b92) 1 cE w hin (λw' hk=>de (hi.TD Zi (Ur (slv 370 5 (sA b92) 1 1 ([⟨19,0,0,0,2⟩].flatMap HI.cells))) hk))) y9.1):P:=f ⟨h⟩
theorem D1(h:Q)(f:Uj Q->P:=by intro y9;refine UD (λw hi=>yo _ w) ?_;refine UA ?_;exact o9 y9.1):P:=f ⟨h⟩
theorem zc(h:Q)(f:Uj Q->P:=by intro y9;exact et (xK ir I I I Za O) y9.1):P:=f ⟨h⟩
theorem Nd(h:P:=by exact⟨(jQ.refl w).nd,(jQ.refl w).nr,(jQ.refl w).hd,(jQ.refl w).hr⟩):P:=h
theorem zb(h:Q)(f:Uj Q->P:=by intro y9;exact ZcA (uF bu bb L U) (λw hi hin=>HP w hin) y9.1):P:=f ⟨h⟩
theorem Z5(h:Q)(f:Uj Q->P:=by intro y9;refine Zy (dc (j:=(a/64)) (sz:=1) (r:=2+a/64) I ir (Zv I) (Zv I) Uq Uq O) ?_;exact et (iJ ir I I I Za (by rw[nz htl];omega)) y9.1):P:=f ⟨h⟩
theorem Wq197(h:Q)(f:Uj Q->P:=by intro y9;refine sx 6 I Zk Zk Zk Zk (bL ir ne) (cO Zh (Nr hR)) I ?_;refine ZE 7 ?_;refine gC 8 I Zk Zk Zk (cW (j:=pl) I ir (Zv I) (Zv I) Uq Uq) I ?_;refine sx 9 I Zk Zk Zk Zk (bL ir ne) (xQ Zh (bX hxw)) I ?_;exact gC 10 I Zk Zk Zk (cA I I (Zv I) XN) I y9.1):P:=f ⟨h⟩
theorem Rf(h:Q)(f:Uj Q->P:=by intro y9;exact Zy (fH (Zv I) (Zv I) O (show _=((v%256:Nat):Int)from by rw[aw O];omega)) y9.1):P:=f ⟨h⟩
theorem Wq200(h:Q)(f:Uj Q->P:=by intro y9;refine UD (λw hi=>wG L M a 1 O O w (his _ _ w hi)) ?_;rw[ak (show a+1<=L.n*64 by omega)];refine kU ?_;refine Uu ?_;exact UD (λw hi=>xL a O w) y9.1):P:=f ⟨h⟩
theorem Wq201(h:Q)(f:Uj Q->P:=by intro y9;refine dZ ?_;exact lv I I (cu (e:=5) (sz:=1) (bytes:=1) I I Za I I (λw hi=>hi.rd (Ur (sl .u8 5 A2 (J E) c2 E))) cP gI O) ZJ I y9.1):P:=f ⟨h⟩
theorem Wq202(h:P:=by refine UG ?_;refine ZS (λw hi=>hJ X10.Al X10.cl w (de (hi.get (Ur (Wu X10.Al X10.cl l10))))) ?_;rintro _ _ ⟨_,⟨A7,c7,rfl,rfl⟩,rfl⟩;refine Ux ?_;refine vL (cs':=[sl .u8 5 A7 (J (cD l10)) c7 (cD l10)]) (.inl I) Zu I I I ?_;exact⟨A7,c7,I,I⟩):P:=h
theorem Wq203(h:Q)(f:Uj Q->P:=by intro y9;refine F8 ?_;refine Zy (cA I I ne (ki m hk4)) ?_;refine U5 (VT K n (M.SY a m k)) (λw hi hin=>jw K n (M.SY a m k) (hM.SY m k O) (a+k) O (mj m k) w hin) ?_;refine Uu ?_;exact Zy (dr (Zv I) (Zv I) (show _=((k+1:Nat):Int)from(u64_wrap_id _ O O).trans O)) y9.1):P:=f ⟨h⟩
theorem Re(h:P:=by have hm2:hI pl p.target=p.target:=(by unfold hI;rw[hc28,ac]);refine Uu ?_;exact Wq6):P:=h
theorem Nc(h:Q)(f:Uj Q->P:=by intro y9;refine Xn ?_;exact dX I (kf ne (.succ _ (.succ _ (.zero _ _)))) I y9.1):P:=f ⟨h⟩
theorem iF(h:P:=by trivial):P:=h
theorem Z4(h:Q)(f:Uj Q->P:=by intro y9;refine Zy (ib (j:=n) hag I ir ne ne ir (λ_=>hn)) ?_;exact dW (bL ir ne) (oq (v:= .i (S.pl.r n)) hreg (jz hn)) I y9.1):P:=f ⟨h⟩
theorem Rc(h:Q)(f:Uj Q->P:=by intro y9;exact bJ (ze s) ⟨⟨h.pc,h.flags,h.root,h.vec,h.epc,h.SB,h.addr,h.count,h.d,h.r⟩,hf,I⟩ y9.1):P:=f ⟨h⟩
theorem Rb(h:Q)(f:Uj Q->P:=by intro y9;exact gJ (iK ([Y r]) I I HF Zi (λw hi hin=>HC r x w hrk (az hx) hin)) I y9.1):P:=f ⟨h⟩
theorem ZZ(h:Q)(f:Uj Q->P:=by intro y9;refine dZ ?_;exact rR I I (bU I I) I (dQ I (λ_ _=>I) (λw hi=>q9 H.D.bi d7.SU d7.mask w (hi.get Zh))) ZJ I y9.1):P:=f ⟨h⟩
theorem ZY(h:Q)(f:Uj Q->P:=by intro y9;refine fo ?_;exact dW (cj (vs:=q.s.cells (.slice X1.Ad (J q.s.d) X1.cd) (.slice X1.Ar (J q.s.r) X1.cr)) ir ir ne) (cI Zh I) I y9.1):P:=f ⟨h⟩
theorem Iv(h:P:=by simp only[aE,bC];omega):P:=h
theorem Ra(h:Q)(f:Uj Q->P:=by intro y9;refine WB 16640 ?_;exact Zy (dc (j:=o) (sz:=1) (r:=16640+o) I ir (Zv I) (Zv I) Uq Uq O) y9.1):P:=f ⟨h⟩
theorem DZ(h:P:=by refine fC ?_;exact⟨by unfold sj;grind,rfl⟩):P:=h
theorem kQ(h:Q)(f:Uj Q->P:=by intro y9;refine ZM ?_;exact Us y9.1):P:=f ⟨h⟩
theorem Wq221(h:Q)(f:Uj Q->P:=by intro y9;refine gX ?_;rw[ao (show¬(p:Int)<0 by omega)];refine Uu ?_;refine i5 (bU I I) (bL ir (cU I)) (cS gx I) I ?_;exact kt (bU I I) I (dQ I (λ_ _=>I) (λw hi=>yq L.bt L.bp L.o L.bf L.bg L.n w (bH.old h2 hi))) I y9.1):P:=f ⟨h⟩
theorem kP(h:P:=by simp_all):P:=h
theorem za(h:P:=by simp only[wV, *,ae,ac]):P:=h
theorem DY(h:Q)(f:Uj Q->P:=by intro y9;exact ft I I (xK ir I I I Za O) ZJ y9.1):P:=f ⟨h⟩
theorem Nb(h:Q)(f:Uj Q->P:=by intro y9;exact gK (cs':=[row _ _ _,slv _ _ _ _ _ _,slv _ _ _ _ _ _]) (.inr I) Zu I y9.1):P:=f ⟨h⟩
theorem Q8(h:Q)(f:Uj Q->P:=by intro y9;refine Us ?_;exact U5 (gz (Ve br bu D) X r) (λw hi hin=>yQ (Ve br bu D) X r 10 va w hin) y9.1):P:=f ⟨h⟩
theorem ZV(h:Q)(f:Uj Q->P:=by intro y9;refine IC ?_;refine cQ 12 Zk ?_;refine vQ I (bL ir ne) (cN Zh (bX (gD l x))) I ?_;refine cQ 13 Zk ?_;exact vO y9.1):P:=f ⟨h⟩
theorem ZU(h:P:=by first|omega|(simp only[hs,hb,hl1,hl2,hl3,hl4,hl5,hl6,hl7,ar,aE,bC];omega)):P:=h
theorem ZK(h:P:=by have:J ((l++[x])++[y])<=100000:=hd;simp only[ar,aE,bC]at this;omega):P:=h
theorem Q7(h:Q)(f:Uj Q->P:=by intro y9;refine F8 ?_;refine ZA ?_;refine F8 ?_;refine Zy (xB ne ne (tf ha hb)) ?_;exact Wq44 y9.1):P:=f ⟨h⟩
theorem Wq235(h:Q)(f:Uj Q->P:=by intro y9;refine dZ ?_;exact lv I I (iK (plF b7 (sA b66) i i pl) I I (λ_ _=>I) Zi (λw hi hin=>wy b7 (sA b66) i i pl hpl Q.Ar Q.cr p.SQ O (by rw[hpl];exact hoR2) w hin (λw' hk=>UJ.S4 h.SQ hi Zi hk))) ZJ I y9.1):P:=f ⟨h⟩
theorem ZH(h:Q)(f:Uj Q->P:=by intro y9;exact ig (c:=UU (R.wr (l++[x])).s (sA bd) cr) (c':=UU (R.wr l).s (sA bd) cr) Za I (λw h=>mM h) y9.1):P:=f ⟨h⟩
theorem Wq237(h:Q)(f:Uj Q->P:=by intro y9;refine cQ 7 Zk ?_;exact ZT (λw hi=>hrp (sA b26) 1 w (hi.rd (Ur (slv 3 1 (sA b26) 1 1 (ints .i64 [-1]))))) y9.1):P:=f ⟨h⟩
theorem Wq238(h:Q)(f:Uj Q->P:=by intro y9;refine cQ 7 Zk ?_;exact jX I I (eE (UC S l2 fix X2) I (λ_ _=>I) Zi (λw hi hin=>yX S l2 fix X2 Do nb 8 h3 h4 w hin (λw' hk=>hK w' (hi.Tn Zi hk)))) (λ_=>by rintro _ _ ⟨_,⟨rfl,l3,X3,hl3,rfl⟩,rfl⟩;exact bO (t:=366) Zh) I y9.1):P:=f ⟨h⟩
theorem Zz(h:P:=by first|omega|(simp only[hs,hb,hl1,hl2,hl3,hl4,hl5,hl6,ar,aE,bC];omega)):P:=h
theorem Wq240(h:P:=by refine gK (cs':=[row _ _ _,slv _ _ _ _ _ _,slv _ _ _ _ _ _,row _ _ _,VD _ _ _ _,row _ _ _]) (.inr I) Zu I ?_;exact ff):P:=h
theorem Zm(h:Q)(f:Uj Q->P:=by intro y9;refine fe ?_;refine Ut ?_;refine Zy (dr (Zv I) (Zv I) (show _=((k+1:Nat):Int)from(u32_wrap_id _ O O).trans O)) ?_;exact py y9.1):P:=f ⟨h⟩
theorem Wq242(h:Q)(f:Uj Q->P:=by intro y9;refine gX ?_;refine Zy (bW (j:=J l) (sz:=1) (r:=J l) I ir (Zv I) (Zv I) Uq Uq O) ?_;refine dW (bL ir ne) (cN Zh (bX (gD l x))) I ?_;refine fo ?_;exact Zy (eO (J l) I ir (Zv I) (Zv I) qD Uq) y9.1):P:=f ⟨h⟩
theorem y8(h:P:=by refine Vd ([row _ _ _]) ?_;exact ff):P:=h
theorem Wq245(h:Q)(f:Uj Q->P:=by intro y9;exact jX I I (cu (n:=J L.d.l) (e:=3) (sz:=1) (bytes:=8) I I Za I I (λw hi=>hi.rd (Ur (slv 3 1 (sA b40) 1 1 (ints .i64 [L.here])))) cP gI O) (λ_=>by rintro _ _ ⟨A9,c9,rfl,rfl⟩;exact bO (t:=51) Zh) I y9.1):P:=f ⟨h⟩
theorem Wq246(h:Q)(f:Uj Q->P:=by intro y9;refine dX I (dq 2 I ne Zf) I ?_;refine Nt ?_;refine dX I (fH (Zv I) (Zv I) O (show _=((v%3:Nat):Int)from by rw[aw O];omega)) rfl ?_;refine dZ ?_;exact lv I I (i9 I I ir ir I I) ZJ I y9.1):P:=f ⟨h⟩
theorem Wq247(h:Q)(f:Uj Q->P:=by intro y9;exact ZcA (Vn b N ⟨C4,s3,L.r,(J C3:Int),L.target,L.branch⟩ ⟨A4,c4,X.Ad,X.cd,X.Ar,X.cr⟩) (λw hi hin=>uL b N ⟨C4,s3,L.r,(J C3:Int),L.target,L.branch⟩ ⟨A4,c4,X.Ad,X.cd,X.Ar,X.cr⟩ hs4 3 0 (fu 1 C2 s2).1 (fu 1 L.code L.d).1 op w hin) y9.1):P:=f ⟨h⟩
theorem Wq248(h:Q)(f:Uj Q->P:=by intro y9;refine ZE 0 ?_;refine ZI 1 ?_;refine ZE 2 ?_;refine cQ 3 Zk ?_;exact ZR y9.1):P:=f ⟨h⟩
theorem y7(h:Q)(f:Uj Q->P:=by intro y9;exact jX I I (t_box I I) ZJ I y9.1):P:=f ⟨h⟩
theorem DX(h:P:=by simp only[asked,wM, *,ae,ac]):P:=h
theorem Zg(h:Q)(f:Uj Q->P:=by intro y9;exact dW (cj (vs:=s1.cells (.slice X1.Ad (J s1.d) X1.cd) (.slice X1.Ar (J s1.r) X1.cr)) ir ir ne) (cI Zh I) I y9.1):P:=f ⟨h⟩
theorem oR(h:P:=by refine Ut ?_;exact vB):P:=h
theorem Wq253(h:Q)(f:Uj Q->P:=by intro y9;refine Us ?_;exact Zy (dr (Zv I) (Zv I) (show _=((16+k:Nat):Int)from by rw[aN _ ⟨by show -9223372036854775808<=(16:Int)+((k:Nat):Int);omega,by show(16:Int)+((k:Nat):Int)<=9223372036854775807;omega⟩];show(16:Int)+((k:Nat):Int)=_;omega)) y9.1):P:=f ⟨h⟩
theorem M9(h:Q)(f:Uj Q->P:=by intro y9;refine Uu ?_;exact ZS (λw hi=>mH s Ad Ar cd cr w (h w hi.S1)) y9.1):P:=f ⟨h⟩
theorem Y9(h:Q)(f:Uj Q->P:=by intro y9;refine gC 7 I Zk Zk Zk (dr ne ne I) I ?_;refine gC 8 I Zk Zk Zk (eA ne ne I) I ?_;refine gC 12 I Zk Zk Zk (eA ne ne I) I ?_;refine gC 13 I Zk Zk Zk (cA I I (Zv I) (Eh _ _ _)) I ?_;exact cQ 14 Zk y9.1):P:=f ⟨h⟩
theorem DW(h:Q)(f:Uj Q->P:=by intro y9;exact qJ I (bP I I) (zt ne) I y9.1):P:=f ⟨h⟩
theorem Y8(h:Q)(f:Uj Q->P:=by intro y9;exact Zy (jW (Zv I) (Zv I) O (show _=((a/64:Nat):Int)from by rw[bj O,u32_wrap_id _ O O];omega)) y9.1):P:=f ⟨h⟩
theorem Wq258(h:Q)(f:Uj Q->P:=by intro y9;exact lv I I (iK (plF b7 (sA b66) i i pl) I I (λ_ _=>I) Zi (λw hi hin=>wy b7 (sA b66) i i pl hpl Q.Ad Q.cd p.SP O (by rw[hpl];exact hoD2) w hin (λw' hk=>UJ.S4 h.SP hi Zi hk))) ZJ I y9.1):P:=f ⟨h⟩
theorem Q6(h:P:=by exact⟨(kj w).nd,(kj w).nr,(kj w).hd,(kj w).hr⟩):P:=h
theorem Y5(h:P:=by first|omega|(simp only[hs,hb,hl1,hl2,hl3,hl4,ar,aE,bC];omega)):P:=h
theorem Wq263(h:Q)(f:Uj Q->P:=by intro y9;rw[bY,show J L.d.l+1=J (L.d.l++[(fu 2 L.code L.r).1]) by simp];refine Z7 ?_;refine UN (((⟨C2,⟨L.d.l++[(fu 2 L.code L.r).1],L.d.SK,L.d.high⟩,s2,L.flags,L.target,L.branch⟩,⟨A2,c2,A9,c9,X.Ar,X.cr⟩):Lw×VZ)) ?_;dsimp only;exact y9.1):P:=f ⟨h⟩
theorem Wq264(h:Q)(f:Uj Q->P:=by intro y9;rw[bY,show J L.r.l+1=J (L.r.l++[(fu 1 L.code L.d).1]) by simp];refine Z7 ?_;refine UN (((⟨C2,s2,⟨L.r.l++[(fu 1 L.code L.d).1],L.r.SK,L.r.high⟩,L.flags,L.target,L.branch⟩,⟨A2,c2,X.Ad,X.cd,A9,c9⟩):Lw×VZ)) ?_;dsimp only;exact y9.1):P:=f ⟨h⟩
theorem Wq266(h:Q)(f:Uj Q->P:=by intro y9;rw[show(iU a1 a2' va j).length+1=J (iU a1 a2' va (j+1)) by(rw[oc];simp),show ints .u32 (iU a1 a2' va j)++[Value.w (iA a1 a2' va j)]=ints .u32 (iU a1 a2' va (j+1)) by(rw[oc];exact bY _ [_])];exact kb y9.1):P:=f ⟨h⟩
theorem Q5(h:Q)(f:Uj Q->P:=by intro y9;refine sx 3 I Zk Zk Zk Zk (bL ir (Zv I)) (cS gx I) I ?_;exact ZE 4 y9.1):P:=f ⟨h⟩
theorem Wq268(h:P:=by refine ft I I (cH ir I I (mO y) Za mJ) QA ?_;refine Uw ?_;refine cQ 3 Zk ?_;refine ft I I (cH ir I I (nl x2) Za mJ) QA ?_;refine Uw ?_;exact Wq160):P:=h
theorem Wq269(h:P:=by refine ZA ?_;refine gJ (cu (e:=5) (sz:=1) (bytes:=1) I I Za I I (λw hi=>h.SS hi) cP gI O) I ?_;rintro _ _ ⟨A',c',rfl,rfl⟩;simp only[bA,aJ];refine Ut ?_;exact IN):P:=h
theorem Y4(h:P:=by refine ret3 (cs':=[row _ _ _,slv _ _ _ _ _ _,slv _ _ _ _ _ _]) (.inl I) Zu I I I I ?_;exact⟨_,I,I⟩):P:=h
theorem nR(h:Q)(f:Uj Q->P:=by intro y9;refine gX ?_;exact VW y9.1):P:=f ⟨h⟩
theorem M8(h:P:=by refine Ut ?_;refine Vd ([row _ _ _]) ?_;exact⟨_,I,I⟩):P:=h
theorem Wq273(h:Q)(f:Uj Q->P:=by intro y9;refine Uu ?_;refine dg 370 5 ?_;refine dg 3 1 ?_;refine ZA ?_;exact V7 (UC (⟨b21,p,Q,pl,Ar,cr,As,c2⟩:VU) [] [] ⟨none,0,none,0⟩) (λw hi hin=>mf (⟨b21,p,Q,pl,Ar,cr,As,c2⟩:VU) [] [] ⟨none,0,none,0⟩ cE 15 0 w hin) y9.1):P:=f ⟨h⟩
theorem Wq274(h:P:=by have h7:=((h.add 0 0 0 nn).Tt [w.here] (λn hn=>by rw[aQ.1 hn];exact oW _ _)).SN;rw[List.map_cons,List.map_nil,show eB D R (w.add 0 0 0 nn).code w.here=nn from kv _ _]at h7;exact h7):P:=h
theorem Ir(h:P:=by rw[Um.pop_wd,Um.top_wd,Um.pop_wd,Um.top_wd];rfl):P:=h
theorem Wq276(h:Q)(f:Uj Q->P:=by intro y9;refine ZI 0 ?_;refine wn 1 I Zk Zk Zk (cj (vs:=RS.cells ⟨xr,A2,c2⟩) ir ir ne) (λx hx=>fU x hx) (bO (t:=180) Zh) I ?_;refine cQ 2 Zk ?_;exact ft I I (cH ir I I (ka I) Za mJ) QA y9.1):P:=f ⟨h⟩
theorem Wq277(h:P:=by refine UN (((⟨C2,L.d,⟨L.r.l++[L.here],L.r.SK,L.r.high⟩,L.flags,L.target,L.branch⟩,⟨A2,c2,X.Ad,X.cd,A9,c9⟩):Lw×VZ)) ?_;dsimp only;subst hC2;unfold Lw.go;rw[hc3,hc5,hc8,hc10,hc14,hc18,hc20,hc22,hc28];rfl):P:=h
theorem M7(h:P:=by refine pd ?_;exact⟨by unfold gS jO;grind,rfl⟩):P:=h
theorem Wq279(h:Q)(f:Uj Q->P:=by intro y9;refine Ut ?_;refine kR ?_;refine mR ?_;refine Uu ?_;exact ZS (λw hi=>tR s.next X.Ad X.Ar X.cd X.cr 1 0 w (hi.TM (Ur (UP s X.Ad X.cd)) (Ur (UU s X.Ar X.cr)) (show J s.d*4<=_ by omega) (show J s.r*4<=_ by omega))) y9.1):P:=f ⟨h⟩
theorem Iq(h:Q)(f:Uj Q->P:=by intro y9;exact ZcS (Vu E.bc E.room E.X) (λw hi hin=>HF w hin) y9.1):P:=f ⟨h⟩
theorem Wq281(h:Q)(f:Uj Q->P:=by intro y9;refine gC 5 I Zk Zk Zk (dc (j:=(va/64%16)) (sz:=4) (r:=(va/64%16)*4) I ir (Zv I) (Zv I) Uq Uq O) I ?_;exact sx 6 I Zk Zk Zk Zk (cj (vs:=e.cells) ir ir ne) (oz (o:=(va/64%16)*4) h (jt he)) I y9.1):P:=f ⟨h⟩
theorem Wq282(h:P:=by have:=LG (gj p0) p0.code 0 (R9 (J p0.code) 0) [];have e:(cC p0).code=(nJ (gj p0) p0.code 0 (R9 (J p0.code) 0) []).2:=rfl;rw[e];rw[f1]at this|-;simp at this;omega):P:=h
theorem mS(h:Q)(f:Uj Q->P:=by intro y9;refine ZM ?_;exact Uu y9.1):P:=f ⟨h⟩
theorem Wq284(h:Q)(f:Uj Q->P:=by intro y9;refine Zy (dr (Zv I) (Zv I) (show _=((a+k:Nat):Int)from(u64_wrap_id _ O O).trans O)) ?_;refine BU ?_;refine py ?_;refine Zy (fL (Zv I) (Zv I) (show _=((8*k:Nat):Int)from(u64_wrap_id _ O O).trans O)) ?_;exact Wq203 y9.1):P:=f ⟨h⟩
theorem rL(h:Q)(f:Uj Q->P:=by intro y9;exact Zy (eA ne ne Zl) y9.1):P:=f ⟨h⟩
theorem Wq287(h:Q)(f:Uj Q->P:=by intro y9;rw[bY,show J L.d.l+1=J (L.d.l++[L.here]) by simp];refine ZE 11 ?_;refine Ld 12 0 ?_;refine cQ 13 Zk ?_;exact ft I I (mm ir I I I Za Zp) (λ_=>by refine Uw ?_;exact bO (t:=51) Zh) y9.1):P:=f ⟨h⟩
theorem Ip(h:Q)(f:Uj Q->P:=by intro y9;refine fe ?_;refine Uu ?_;refine iz ?_;exact Nu y9.1):P:=f ⟨h⟩
theorem Wq289(h:Q)(f:Uj Q->P:=by intro y9;refine fo ?_;refine cG I ((bE.2 (by rw[hlen];omega))) ?_;refine Uu ?_;refine Zy (cW (j:=0) I ir (Zv I) (Zv I) Uq Uq) ?_;exact dW (bL ir ne) (dG h (bX (l:=op::l) (j:=0) I)) I y9.1):P:=f ⟨h⟩
theorem rK(h:Q)(f:Uj Q->P:=by intro y9;refine mW ?_;exact Ld 2 0 y9.1):P:=f ⟨h⟩
theorem fS(h:Q)(f:Uj Q->P:=by intro y9;exact cQ 8 Zk y9.1):P:=f ⟨h⟩
theorem Wq293(h:Q)(f:Uj Q->P:=by intro y9;refine Ut ?_;refine Zy (bW (bb:=b66) (o:=0) (n:=i) (c:=i) (j:=nf) (sz:=1) (r:=nf) I ir (Zv I) (Zv I) (λ_=>hnf) Uq O) ?_;refine dW (bL ir (Zv I)) (cN Zh (jz O)) I ?_;refine mR ?_;exact eK y9.1):P:=f ⟨h⟩
theorem Wq294(h:Q)(f:Uj Q->P:=by intro y9;refine cQ 17 Zk ?_;exact ft I I (cH (vs:=St.cells ⟨tpc,l++[x],R.s.r,tfl,tsu,tpg,tie,trt,tve,tep,tca,tad,tes,tei,tco,tha⟩ (.slice A1 (J (l++[x])) c1) (.slice A2 (J R.s.r) c2)) ir I I (ka I) Za mJ) ZJ y9.1):P:=f ⟨h⟩
theorem Wq295(h:Q)(f:Uj Q->P:=by intro y9;exact ZT (λw hi=>hrp (sA b22) 1 w (hi.rd (Ur (slv 3 1 (sA b22) 1 1 (ints .i64 [-1]))))) y9.1):P:=f ⟨h⟩
theorem gV(h:Q)(f:Uj Q->P:=by intro y9;simp only[ae];exact y9.1):P:=f ⟨h⟩
theorem v6(h:P:=by grind [bH.bs,ab]):P:=h
theorem Q4(h:Q)(f:Uj Q->P:=by intro y9;exact eo (λw hi=>dp (hi.get (Ur (sl .u32 32 A1 (J l) c1 l))) O) y9.1):P:=f ⟨h⟩
theorem Y0(h:Q)(f:Uj Q->P:=by intro y9;exact bN (Wz [7,9,11] (pk b1 [.i i.op,.i i.rd,.i i.ra,.i i.rb,.w i.imm])) Zk y9.1):P:=f ⟨h⟩
theorem Q3(h:Q)(f:Uj Q->P:=by intro y9;refine dZ ?_;exact lv I I (ng I I ir ir I I I) ZJ I y9.1):P:=f ⟨h⟩
theorem Wq301(h:Q)(f:Uj Q->P:=by intro y9;refine Zy (ib (j:=n) has I ir ne ne ir (λ_=>hn2)) ?_;refine dW (bL ir ne) (oq (v:= .i (S.pl.s n)) hslot (jz hn2)) I ?_;refine kR ?_;exact Zy (cA I I (Zv I) (IX _)) y9.1):P:=f ⟨h⟩
theorem YZ(h:Q)(f:Uj Q->P:=by intro y9;refine UE ?_;refine UD (λw hi=>HX X1 Ap cp w (hi.rd (Ur (sl .i64 3 Ap (J q.SC) cp q.SC)))) ?_;exact Us y9.1):P:=f ⟨h⟩
theorem Wq303(h:P:=by rw[List.drop_length]at hf;have hf:l.findIdx? D=none:=hf;rw[hf];refine gX ?_;refine Vd ([_,_]) ?_;exact⟨r,I,by rw[List.take_length]at hr;show r=(l.take (J l)).foldl step r0;grind,hrk,rfl⟩):P:=h
theorem Wq304(h:P:=by have hbd:J L.r.l<=600:=aR hs.rl O;refine jX I I (cu (n:=J L.r.l) (e:=3) (sz:=1) (bytes:=8) I I Za I I (λw hi=>hi.rd (Ur (slv 3 1 (sA b191) 1 1 (ints .i64 [L.here])))) cP gI O) ZJ I ?_;rintro _ _ ⟨A9,c9,rfl,rfl⟩;rw[bY,show J L.r.l+1=J (L.r.l++[L.here]) by simp];refine Z7 ?_;exact Wq277):P:=h
theorem Q2(h:Q)(f:Uj Q->P:=by intro y9;refine dZ ?_;exact rS I I (cH ir I I (ka I) Za mJ) ZJ y9.1):P:=f ⟨h⟩
theorem rJ(h:Q)(f:Uj Q->P:=by intro y9;refine ZE 12 ?_;exact ZE 13 y9.1):P:=f ⟨h⟩
theorem Wq307(h:P:=by refine ZE 7 ?_;refine pI ?_;rw[pm,yh];refine bI (oM ⟨b9,bB,bT⟩ n (R9 (n*64) 0) (R9 n false)) Zj ?_;refine IM ?_;exact⟨⟨b9,bB,bT⟩,I,I⟩):P:=h
theorem Wq308(h:Q)(f:Uj Q->P:=by intro y9;refine Zy (sZ ne ne (MI root hroot)) ?_;refine pG ?_;refine Wq75 ?_;refine pG ?_;exact Zy (dr (Zv I) (Zv I) (show _=((W8 root va:Nat):Int)from(u64_wrap_id _ O O).trans (by unfold W8;omega))) y9.1):P:=f ⟨h⟩
theorem YY(h:Q)(f:Uj Q->P:=by intro y9;exact bN (Wz [5,7] (pk b1 [.i i.op,.i i.rd,.i i.ra,.i i.rb,.w i.imm])) Zk y9.1):P:=f ⟨h⟩
theorem Wq310(h:P:=by refine Ux ?_;refine bI (Vu bc room ⟨ml,Ac,cc,fl,LK,Z⟩) Zj ?_;refine IH (cs':=Vu bc room ⟨ml,Ac,cc,fl,LK,Z⟩) (.inl I) (aO _) I I ?_;exact⟨_,I,hX,I⟩):P:=h
theorem Q1(h:Q)(f:Uj Q->P:=by intro y9;exact NB I (bP I I) (bL ir (cU I)) (cO Zh I) I y9.1):P:=f ⟨h⟩
theorem Wq312(h:P:=by refine Wq197 ?_;refine ZE 11 ?_;refine Ld 12 0 ?_;refine gC 13 I Zk Zk Zk (dc (j:=rd) (sz:=1) (r:=rd) I ir (Zv I) (Zv I) Uq Uq O) I ?_;refine cQ 14 Zk ?_;exact ι):P:=h
theorem Wq313(h:P:=by refine UG ?_;refine Vd (UC S l fix X) ?_;exact⟨by unfold eJ;rw[hr];rfl,l,X,(by simp only[ae,ac,aq,aF,aJ,ax]),rfl⟩):P:=h
theorem pF(h:P:=by exact⟨_,_,I,I⟩):P:=h
theorem Q0(h:Q)(f:Uj Q->P:=by intro y9;exact NB I (bU I I) (bL ir (cU I)) (cO Zh I) I y9.1):P:=f ⟨h⟩
theorem Wq317(h:Q)(f:Uj Q->P:=by intro y9;refine jD ?_;refine UE ?_;refine mV ?_;refine Uu ?_;exact ZS (λw hi=>CF K n m.u.m hmM w (hi.get (Ur (zY K n))) (hi.get (Ur (slv 4 1 (sA K.bT) n n (lE (m.u.m.SD.take n)))))) y9.1):P:=f ⟨h⟩
theorem sU(h:Q)(f:Uj Q->P:=by intro y9;refine y5 ?_;exact Ld 3 0 y9.1):P:=f ⟨h⟩
theorem sT(h:Q)(f:Uj Q->P:=by intro y9;exact Zy (eA ne ne I) y9.1):P:=f ⟨h⟩
theorem qC(h:Q)(f:Uj Q->P:=by intro y9;refine ZE 5 ?_;exact ZE 6 y9.1):P:=f ⟨h⟩
theorem nQ(h:Q)(f:Uj Q->P:=by intro y9;refine ZL ?_;exact UE y9.1):P:=f ⟨h⟩
theorem qB(h:Q)(f:Uj Q->P:=by intro y9;refine jG ?_;exact jn y9.1):P:=f ⟨h⟩
theorem sS(h:Q)(f:Uj Q->P:=by intro y9;exact bN (UK []) Zk y9.1):P:=f ⟨h⟩
theorem M6(h:Q)(f:Uj Q->P:=by intro y9;rw[bY,<-ar];refine Ux ?_;exact WR y9.1):P:=f ⟨h⟩
theorem Wq326(h:P:=by subst e;obtain rfl:R.push [nn]=R':=aG h;exact⟨VR.of (l:=R.s.d) (m:=R.s.r) [] [nn] [] [] I (wm hw (Qx hw.d hnn)) hf I cE I cE (by simp[Um.push]),rfl,rfl,rfl⟩):P:=h
theorem QZ(h:Q)(f:Uj Q->P:=by intro y9;refine Ut ?_;refine UD (λw hi=>Kp _ w) ?_;refine Ux ?_;exact pd y9.1):P:=f ⟨h⟩
theorem Wq328(h:Q)(f:Uj Q->P:=by intro y9;exact jX I I (cu (n:=J L.d.l) (e:=3) (sz:=1) (bytes:=8) I I Za I I (λw hi=>hi.rd (Ur (slv 3 1 (sA b134) 1 1 (ints .i64 [(fu 2 L.code L.r).1])))) cP gI O) ZJ I y9.1):P:=f ⟨h⟩
theorem Wq329(h:Q)(f:Uj Q->P:=by intro y9;exact jX I I (cu (n:=J L.r.l) (e:=3) (sz:=1) (bytes:=8) I I Za I I (λw hi=>hi.rd (Ur (slv 3 1 (sA b119) 1 1 (ints .i64 [(fu 1 L.code L.d).1])))) cP gI O) ZJ I y9.1):P:=f ⟨h⟩
theorem YX(h:Q)(f:Uj Q->P:=by intro y9;exact Zy (fH (Zv I) (Zv I) O (show _=((va%4:Nat):Int)from by rw[aw O];omega)) y9.1):P:=f ⟨h⟩
theorem Wq331(h:Q)(f:Uj Q->P:=by intro y9;refine dW (bL ir ne) (cO Zh (Nr hR)) I ?_;refine py ?_;refine Zy (cA I I (Zv I) MT) ?_;refine Zy (bW (j:=pl) (sz:=1) (r:=pl) I ir (Zv I) (Zv I) Uq Uq O) ?_;exact zc y9.1):P:=f ⟨h⟩
theorem Wq332(h:Q)(f:Uj Q->P:=by intro y9;exact jX I I (eE (Vn b N L X) I (λ_ _=>I) Zi (λw hi hin=>uK b N L X (hs.mono O) n w hin)) (λ_=>by rintro _ _ ⟨_,⟨rfl,C2,A2,c2,hC2,rfl⟩,rfl⟩;exact bO (t:=51) Zh) I y9.1):P:=f ⟨h⟩
theorem YW(h:Q)(f:Uj Q->P:=by intro y9;refine ke ?_;exact gK (cs':=[row _ _ _,slv _ _ _ _ _ _,slv _ _ _ _ _ _,slv _ _ _ _ _ _]) (.inr I) Zu I y9.1):P:=f ⟨h⟩
theorem Wq334(h:Q)(f:Uj Q->P:=by intro y9;refine Ld 15 0 ?_;refine cQ 16 Zk ?_;refine ke ?_;refine Zo ?_;exact UN (((⟨C5,⟨s3.l++[(J C4:Int)],s3.SK,s3.high⟩,L.r,(J C3:Int),L.target,L.branch⟩,⟨A5,c5,A9,c9,X.Ar,X.cr⟩):Lw×VZ)) y9.1):P:=f ⟨h⟩
theorem QY(h:Q)(f:Uj Q->P:=by intro y9;exact gJ (Jt I I Za I I (λw hi=>h.SS hi) cP O) I y9.1):P:=f ⟨h⟩
theorem QX(h:P:=by refine ZL ?_;refine mR ?_;refine mR ?_;refine Uu ?_;exact Wq91):P:=h
theorem QW(h:P:=by subst hji;exact hy.wpOp hi hS ⟨⟨λ_ _ _ h=>h,λh=>h⟩,H⟩):P:=h
theorem Wq339(h:Q)(f:Uj Q->P:=by intro y9;exact gK (cs':=[row _ _ _,slv _ _ _ _ _ _,slv _ _ _ _ _ _,row _ _ _,VD _ _ _ _,row _ _ _,row _ _ _,row _ _ _,row _ _ _,row _ _ _,slv _ _ _ _ _ _,slv _ _ _ _ _ _,row _ _ _,slv _ _ _ _ _ _]) (.inl I) Zu I y9.1):P:=f ⟨h⟩
theorem Wq340(h:Q)(f:Uj Q->P:=by intro y9;exact jX I I (cu (n:=J s3.l) (e:=3) (sz:=1) (bytes:=8) I I Za I I (λw hi=>hi.rd (Ur (slv 3 1 (sA b176) 1 1 (ints .i64 [(J C4:Int)])))) cP gI O) ZJ I y9.1):P:=f ⟨h⟩
theorem QV(h:P:=by refine Vd ([row _ _ _,slv _ _ _ _ _ _,VD _ _ _ _]) ?_;exact ff):P:=h
theorem Wq342(h:P:=by refine UN (((⟨C2,⟨L.d.l++[L.here],L.d.SK,L.d.high⟩,L.r,L.flags,L.target,L.branch⟩,⟨A2,c2,A9,c9,X.Ar,X.cr⟩):Lw×VZ)) ?_;dsimp only;subst hC2;unfold Lw.go;rw[hc3];rfl):P:=h
theorem Wq343(h:P:=by refine Uw ?_;refine cQ 3 Zk ?_;refine ft I I (cH ir I I (nl ⟨xr,A2,c2⟩) Za mJ) QA ?_;refine Uw ?_;refine ZE 4 ?_;exact Wq139):P:=h
theorem QU(h:Q)(f:Uj Q->P:=by intro y9;exact sx 7 I Zk Zk Zk Zk (bL ir (Zv I)) (cS gx I) I y9.1):P:=f ⟨h⟩
theorem Wq345(h:Q)(f:Uj Q->P:=by intro y9;refine Rz I (IT (zv:= .agg #[.slice none 0 0,.bool false]) (Zv I) (Zv I) hk I Dt ir) (λw hi=>(show nV E.mr (WE E.RZ) w from hi.get (Ur (VG E.mr (WE E.RZ))))) I ?_;exact dZ y9.1):P:=f ⟨h⟩
theorem Wq346(h:P:=by unfold Lw.go;rw[hc3,hc5,hc8,hc10,hc14,hc18,hc20,hc22];unfold Lw.reckon;dsimp only;rw[hc26];rfl):P:=h
theorem Wq347(h:Q)(f:Uj Q->P:=by intro y9;exact mz (cs':=[slv _ _ _ _ _ _,slv _ _ _ _ _ _,slv _ _ _ _ _ _,row _ _ _,row _ _ _,slv _ _ _ _ _ _,slv _ _ _ _ _ _,row _ _ _,slv _ _ _ _ _ _,V6 _ _ _ _,slv _ _ _ _ _ _]) (.inl I) Zu I I Zh ir ir y9.1):P:=f ⟨h⟩
theorem QT(h:P:=by exact (by rcases hop with⟨rfl,rfl⟩|⟨rfl,rfl⟩;rfl;rfl)):P:=h
theorem qA(h:Q)(f:Uj Q->P:=by intro y9;refine iR ?_;exact VW y9.1):P:=f ⟨h⟩
theorem Wq350(h:P:=by refine Ut ?_;refine jP ?_;rintro _ _ ⟨b20,rfl,rfl⟩;refine V7 (gz K X R) (λw hi hin=>jd K X R _ 1 1 [n] O w hin (λw' hk=>hi.TC Zi Zh hk)) ?_;exact D3):P:=h
theorem Wq351(h:Q)(f:Uj Q->P:=by intro y9;refine Ld 9 4 ?_;refine fD 10 I Zk Zk Zk (bL ir ne) (dD I) (bO (t:=366) Zh) I ?_;refine gC 11 I Zk Zk Zk (cA I I ne I) I ?_;refine cQ 6 Zk ?_;exact pE y9.1):P:=f ⟨h⟩
theorem Wq352(h:Q)(f:Uj Q->P:=by intro y9;refine ik (UK [5,10]) [(0,4),(1,0),(2,0),(3,1),(4,1),(5,3),(6,3),(7,3),(8,3),(9,3),(10,3),(11,3)] Zk Zk ?_;refine Nt ?_;refine So ?_;refine BV ?_;exact qL I Zh ir ir (Zv I) I y9.1):P:=f ⟨h⟩
theorem QS(h:Q)(f:Uj Q->P:=by intro y9;exact et (iJ ir I I I Za (by rw[iL hl];omega)) y9.1):P:=f ⟨h⟩
theorem YV(h:P:=by obtain⟨rfl,rfl⟩:=Prod.mk.inj hS;refine Us ?_;refine sO ?_;refine eK ?_;exact Wq13):P:=h
theorem vH(h:Q)(f:Uj Q->P:=by intro y9;refine Ld 0 0 ?_;exact ZG 1 y9.1):P:=f ⟨h⟩
theorem Wq357(h:Q)(f:Uj Q->P:=by intro y9;refine cQ 9 Zk ?_;exact jX I I (cu (e:=32) (sz:=1) (bytes:=4) I I Za I I (λw hi=>hi.rd (Ur (slv 32 1 (sA b68) 1 1 (ints .u32 [x])))) cP gI O) ZJ I y9.1):P:=f ⟨h⟩
theorem QR(h:Q)(f:Uj Q->P:=by intro y9;refine ZE 7 ?_;refine ZE 8 ?_;refine Wq133 ?_;refine ZE 14 ?_;exact fe y9.1):P:=f ⟨h⟩
theorem Wq359(h:Q)(f:Uj Q->P:=by intro y9;refine gC 14 I Zk Zk Zk (eA ne ne hwt) I ?_;refine gC 15 I Zk Zk Zk (vP ne ne (xJ high ((J l:Int) - SK))) I ?_;refine ZE 16 ?_;refine Ld 17 2 ?_;exact cQ 18 Zk y9.1):P:=f ⟨h⟩
theorem Wq360(h:P:=by show _=gz K ⟨X.Ad,X.cd,A',c'⟩ ((R.wd l).wr (R.s.r++[x]));simp only[gz,wD,UP,UU,ar,bY,aE,bC,bA]):P:=h
theorem Wq361(h:P:=by refine ZE 0 ?_;refine Ld 1 0 ?_;refine ZG 2 ?_;refine ZE 3 ?_;refine ZE 4 ?_;exact Wq106):P:=h
theorem YU(h:P:=by refine ZE 13 ?_;refine cQ 14 Zk ?_;refine ZR ?_;refine fe ?_;refine Ux ?_;exact Wq79):P:=h
theorem Wq363(h:Q)(f:Uj Q->P:=by intro y9;refine fS ?_;exact jX I I (cu (e:=32) (sz:=1) (bytes:=4) I I Za I I (λw hi=>hi.rd (Ur (slv 32 1 (sA b28) 1 1 (ints .u32 [n])))) cP gI O) ZJ I y9.1):P:=f ⟨h⟩
theorem DU(h:Q)(f:Uj Q->P:=by intro y9;refine py ?_;exact bV I (hc10) y9.1):P:=f ⟨h⟩
theorem Wq365(h:Q)(f:Uj Q->P:=by intro y9;refine Zy (fL ne ne Zl) ?_;refine ZA ?_;refine mT ?_;exact Zy (cA I I (Zv I) (show V9 .u32 ((p:Int)*64+(k:Int))=((p*64+k:Nat):Int) by rw[u32_wrap_id _ O O];omega)) y9.1):P:=f ⟨h⟩
theorem YT(h:Q)(f:Uj Q->P:=by intro y9;exact Zy (dc (j:=(va/64%16)) (sz:=4) (r:=1+(va/64%16)*4) I ir (Zv I) (Zv I) Uq Uq O) y9.1):P:=f ⟨h⟩
theorem Wq370(h:Q)(f:Uj Q->P:=by intro y9;refine qF ?_;refine qF ?_;refine qJ I (bU I I) (Ea I (cU I) (cU I) (bne_self_eq_false _)) I ?_;refine dX I (Nx ne (Kj I ir)) I ?_;exact mK y9.1):P:=f ⟨h⟩
theorem Wq373(h:P:=by rintro _ _ ⟨_,⟨X',rfl,rfl⟩,rfl⟩;refine py ?_;refine bI (o3 br bu bb L D X' Y ⟨m'.1,m'.2,d⟩) Zj ?_;refine WU ?_;rw[hst];exact⟨X',Y,I,I⟩):P:=h
theorem Wq374(h:Q)(f:Uj Q->P:=by intro y9;exact zu I I (bU I I) I (dQ I (λ_ _=>I) (λw hi=>DD H ⟨s1,X1,Y1,U1,d1,o1⟩ 2 ho2 ow fs hfs w (hi.get Zh) (hi.get (Ur (O0 H.L U1.m ow))))) ZJ I y9.1):P:=f ⟨h⟩
theorem M5(h:Q)(f:Uj Q->P:=by intro y9;exact UD (λw hi=>qN bu L.bm bb w (hi.get Zh)) y9.1):P:=f ⟨h⟩
theorem Wq376(h:P:=by refine Uw ?_;refine jG ?_;refine ZL ?_;refine Us ?_;refine sS ?_;exact Wq361):P:=h
theorem YS(h:Q)(f:Uj Q->P:=by intro y9;exact ZcA (gz (Ve br bu D) X (R.wd (l++[v]))) (λw hi hin=>oT (Ve br bu D) X R l v w hin) y9.1):P:=f ⟨h⟩
theorem Wq378(h:Q)(f:Uj Q->P:=by intro y9;refine Us ?_;refine U5 ([Wy bc (.i room) (.slice Ac (J Z) cc) (.map (some ml)) (.i fl),slv 262 4 Ac (J Z) cc (Z.flatMap BA.cells)]) (λw hi hin=>HP f w hin) ?_;rw[ho1];exact y9.1):P:=f ⟨h⟩
theorem Wq379(h:Q)(f:Uj Q->P:=by intro y9;refine Us ?_;refine bN (Wz [2,3] (pk b13 (RS.cells x2))) Zk ?_;refine Wq99 ?_;exact ft I I (cH ir I I (mO ⟨⟨k,C,(J l:Int)⟩,A3,c3⟩) Za mJ) QA y9.1):P:=f ⟨h⟩
theorem Wq380(h:P:=by rw[bY,show J s3.l+1=J (s3.l++[(J C4:Int)]) by simp];refine ZE 14 ?_;refine Wq334 ?_;dsimp only;subst hC5 hC4 hC3 hs3 hC2 hs2;exact Wq346):P:=h
theorem vG(h:P:=by refine Uu ?_;exact vB):P:=h
theorem In(h:P:=by refine UE ?_;refine o9 ?_;exact ff):P:=h
theorem Wq383(h:P:=by refine Vb ?_;refine py ?_;refine bI (o3 br bu bb L D X Y ⟨m'.1,m'.2,d⟩) Zj ?_;refine WU ?_;rw[hst];exact⟨X,Y,I,I⟩):P:=h
theorem Wq384(h:P:=by refine Vd ([row _ _ _,row _ _ _,row _ _ _,row _ _ _,slv _ _ _ _ _ _,slv _ _ _ _ _ _,row _ _ _,slv _ _ _ _ _ _]) ?_;exact⟨⟨X.Ao,X.co,Ai',ci'⟩,I,I⟩):P:=h
theorem Im(h:Q)(f:Uj Q->P:=by intro y9;refine y5 ?_;refine Ld 3 1 ?_;exact BX y9.1):P:=f ⟨h⟩
theorem QQ(h:Q)(f:Uj Q->P:=by intro y9;refine ZE 15 ?_;refine Ld 16 1 ?_;refine cQ 17 Zk ?_;exact ke y9.1):P:=f ⟨h⟩
theorem Wq387(h:P:=by simp only[e 0 O O,e 1 O O,e 2 O O,e 3 O O,e 4 O O,e 5 O O,e 6 O O,e 7 O O,e 8 O O,e 9 O O,e 10 O O,ac]):P:=h
theorem Wq388(h:P:=by rw[CA];refine iR ?_;refine vL (cs':=[row _ _ _,row _ _ _,slv _ _ _ _ _ _,slv _ _ _ _ _ _]) (.inl I) Zu I I I ?_;exact⟨_,_,_,I,I⟩):P:=h
theorem Wq389(h:P:=by have hie:s.ie=true:=hc;rw[<-hs1,hY k rfl hie];exact⟨⟨hwf.vec,hwf.flags,hwf.root,hwf.vec,hwf.pc,wrap_u32 _,u0,hwf.count,hwf.d,hwf.r⟩,hd16,hr16⟩):P:=h
theorem YR(h:P:=by have:=congrArg (List.map (·.2)) hL;simp only[List.map_map]at this|-;exact this):P:=h
theorem Il(h:Q)(f:Uj Q->P:=by intro y9;refine ZE 0 ?_;refine Ld 1 1 ?_;exact ZG 2 y9.1):P:=f ⟨h⟩
theorem Wq392(h:Q)(f:Uj Q->P:=by intro y9;refine eK ?_;exact ig (c:=sl .u32 32 (sA bd2) (J (l++[x])) c1 (l++[x])) (c':=sl .u32 32 (sA bd2) (J l) c1 l) Za I (λw h=>mM h) y9.1):P:=f ⟨h⟩
theorem Wq393(h:P:=by rw[hm']at HC;rw[hm']at hst;refine py ?_;refine V7 (gz (Ve br bu D) X (R.wd (l++[(va:Int)]))++uF bu bb L U) (λw hi hin=>HC w hin) ?_;exact Wq373):P:=h
theorem Wq394(h:P:=by refine gK (cs':=[row _ _ _,row _ _ _,row _ _ _,row _ _ _,slv _ _ _ _ _ _,slv _ _ _ _ _ _,row _ _ _,slv _ _ _ _ _ _]) (.inr I) Zu I ?_;exact ff):P:=h
theorem rI(h:Q)(f:Uj Q->P:=by intro y9;refine ZM ?_;exact eK y9.1):P:=f ⟨h⟩
theorem QP(h:Q)(f:Uj Q->P:=by intro y9;refine py ?_;exact gK (cs':=UC S l1 fix X1) (.inr I) Zu I y9.1):P:=f ⟨h⟩
theorem Ik(h:Q)(f:Uj Q->P:=by intro y9;exact Zy (tI (Zv I) (Zv I) O I) y9.1):P:=f ⟨h⟩
theorem Wq398(h:Q)(f:Uj Q->P:=by intro y9;refine bJ (λm:ek=>UI n m.u.m) (h.SM _ _ _ _) ?_;exact bJ (λm:ek=>UI n m.u.m) ((h.SM _ _ _ _).puts (nj hn htop An) _ _ (aL _)) y9.1):P:=f ⟨h⟩
theorem M4(h:Q)(f:Uj Q->P:=by intro y9;exact ZcA ([eY L U.m]) (λw hi hin=>HWD w hin) y9.1):P:=f ⟨h⟩
theorem YQ(h:P:=by show _=Value.tuple #[.i R.SL.SB,.w R.SL.addr];rw[ht];rfl):P:=h
theorem Wq401(h:Q)(f:Uj Q->P:=by intro y9;refine Zy (dc (j:=f) (sz:=64) (r:=f*64) I ir (Zv I) (Zv I) Uq Uq O) ?_;exact Zy (dc (j:=a) (sz:=1) (r:=f*64+a) I ir (Zv I) (Zv I) Uq Uq O) y9.1):P:=f ⟨h⟩
theorem Wq402(h:Q)(f:Uj Q->P:=by intro y9;refine ZE 10 ?_;exact gC 11 I Zk Zk Zk (eA (Zv I) (Zv I) (show _=(J l:Int)from by rw[hdl];exact aN _ ⟨by omega,by omega⟩|>.trans O)) rfl y9.1):P:=f ⟨h⟩
theorem Wq403(h:P:=by refine Ut ?_;refine U5 ([eY L M]) (λw hi hin=>ug L M a m ain mu w hin) ?_;refine Uu ?_;refine Su ?_;refine ZA ?_;exact δ):P:=h
theorem QN(h:Q)(f:Uj Q->P:=by intro y9;exact Zy (ib (j:=k) had I ir ne ne ir (λ_=>hkl)) y9.1):P:=f ⟨h⟩
theorem iW(h:Q)(f:Uj Q->P:=by intro y9;exact cQ 7 Zk y9.1):P:=f ⟨h⟩
theorem QM(h:Q)(f:Uj Q->P:=by intro y9;refine dX I (Cd ne (Ki I ir)) I ?_;exact mK y9.1):P:=f ⟨h⟩
theorem Wq407(h:P:=by exact .inl (ht a w hf hi' _ _ λv cs' w' hk hi2 hp=>⟨Me hst hp (λe=>hJ e v cs' hk w' hi2),h v cs' hk _ w' (hf.put kP v) hi2⟩)):P:=h
theorem Wq409(h:Q)(f:Uj Q->P:=by intro y9;refine eK ?_;refine Wq200 ?_;refine jG ?_;refine UD (λw hi=>lO L.bt L.bp L.o L.bf L.bg L.n (a/64) k.fr (-1) hp f1 w (hi.get Zh) (hi.get Zh)) ?_;exact xt y9.1):P:=f ⟨h⟩
theorem vF(h:Q)(f:Uj Q->P:=by intro y9;refine eK ?_;exact BT y9.1):P:=f ⟨h⟩
theorem Wq411(h:P:=by rintro _ _ ⟨b176,rfl,rfl⟩;refine cQ 13 Zk ?_;have hbd:J s3.l<=600:=aR (jb (jb hs hC2 hs2 L.flags L.target L.branch) hC3 hs3 0 0 0).dl O;refine Wq340 ?_;rintro _ _ ⟨A9,c9,rfl,rfl⟩;exact Wq380):P:=h
theorem Wq412(h:P:=by rw[hm']at HC;rw[hm']at hst;refine py ?_;refine gJ (eE (gz (Ve br bu D) X (R.wd ((l++[(v:Int)])++[(va:Int)]))++uF bu bb L U) I (λ_ _=>I) Zi (λw hi hin=>HC w hin)) I ?_;exact Wq383):P:=h
theorem Wq413(h:P:=by refine y6 ?_;rintro _ _ ⟨b92,rfl,rfl⟩;refine Wq191 ?_;rintro _ _ ⟨_,⟨l10,X10,hl10,rfl⟩,rfl⟩;obtain rfl:l10=C9:=Do;exact Wq202):P:=h
theorem Wq414(h:Q)(f:Uj Q->P:=by intro y9;refine dX I (dq 16 I ne Zf) I ?_;refine Nt ?_;refine wh I (cj (vs:=x.cells) ir ir ne) (cI Zh I) I ?_;refine mK ?_;exact mK y9.1):P:=f ⟨h⟩
theorem YP(h:Q)(f:Uj Q->P:=by intro y9;exact fD 5 I Zk Zk Zk (bL ir ne) (dD I) (bO (t:=370) Zh) I y9.1):P:=f ⟨h⟩
theorem Wq416(h:P:=by refine mS ?_;refine sD (cs':=[UP s A1 c1,UU s A2 c2]) (.inl I) Zu I I I Zh ir ir ?_;exact⟨⟨A1,c1,A2,c2⟩,I,I⟩):P:=h
theorem Wq417(h:Q)(f:Uj Q->P:=by intro y9;refine wZ func12 I ntmps12 I (Inv.start w) ?_;refine eK ?_;refine rL ?_;refine mT ?_;exact Zy (fH (Zv I) (Zv I) O (show _=t from by rw[ht])) y9.1):P:=f ⟨h⟩
theorem Ij(h:Q)(f:Uj Q->P:=by intro y9;exact bJ (λm:ek=>m.d.lines) h y9.1):P:=f ⟨h⟩
theorem Wq419(h:P:=by simp[execOp,hf.ev hx,hf.ev hy,Instr.storeAt,Instr.sureAddr,storeVar,hT,hcs,storeCells,Addr.add_lit,run_store _ _ _ v _ h1,hc,hfz,stored]):P:=h
theorem M3(h:P:=by show J s1.d*4<=_;omega):P:=h
theorem MZ(h:P:=by show J s1.r*4<=_;omega):P:=h
theorem sR(h:Q)(f:Uj Q->P:=by intro y9;refine fe ?_;exact Zt y9.1):P:=f ⟨h⟩
theorem Wq423(h:Q)(f:Uj Q->P:=by intro y9;exact jX I I (eE (Vc K bx n U) I (λ_ _=>I) Zi (λw hi hin=>HL w hin)) (λ_=>by refine Vb ?_;exact bO Zh) I y9.1):P:=f ⟨h⟩
theorem Wq424(h:Q)(f:Uj Q->P:=by intro y9;refine IC ?_;refine sx 12 I Zk Zk Zk Zk (bL ir ne) (cN Zh (bX (gD l x))) I ?_;refine ZE 13 ?_;refine Ld 14 0 ?_;exact cQ 15 Zk y9.1):P:=f ⟨h⟩
theorem Wq425(h:Q)(f:Uj Q->P:=by intro y9;refine dZ ?_;exact rR I I (bP I I) I (dQ I (λ_ _=>I) (λw hi=>Ft H ⟨s7,X7,Y7,U7,d7,o7⟩ false w (hi.get Zh))) ZJ I y9.1):P:=f ⟨h⟩
theorem Wq426(h:P:=by exact (by show Rd w .u8 _ (N*64) _ U2.m.data;exact hi.rd (Ur (sl .u8 5 (sA R.K.bB) (N*64) (N*64) U2.m.data)))):P:=h
theorem YO(h:Q)(f:Uj Q->P:=by intro y9;refine Uu ?_;refine Zy (jW (Zv I) (Zv I) O hpq) ?_;refine sO ?_;exact UA y9.1):P:=f ⟨h⟩
theorem Wq428(h:P:=by rw[hr];exact h _ _ _ ⟨I,I⟩ (hi.upd (hu _) h2 (nF h2 (by grind [bH.bs]) h3 (λb hb=>Or.inl hb))) (λe=>by cases e)):P:=h
theorem Wq429(h:Q)(f:Uj Q->P:=by intro y9;rw[RY m n _ O,show J m=J (m.set n ((m.getD n HI.zero).imm' (V9 .u32 (J l9:Int)))) by grind];refine fe ?_;refine Us ?_;exact WR y9.1):P:=f ⟨h⟩
theorem Wq430(h:P:=by simp[execOp,hf.ev hx,hf.ev hy,Instr.storeAt,Instr.sureAddr,storeVar,hT,hcs,storeCells,Addr.add_lit,run_store _ _ _ v _ h1,hc,hfz,ho]):P:=h
theorem Wq431(h:P:=by have h9:=hc15;rw[show(WE (dP E.RZ k x2)).length=J (dP E.RZ k x2) from List.length_map _]at h9;exact h9):P:=h
theorem Wq432(h:Q)(f:Uj Q->P:=by intro y9;refine Us ?_;refine ik (UK [13,14]) [(0,0),(1,1),(2,0),(3,4),(4,4),(5,0),(9,0),(10,0),(11,0),(12,0),(6,2),(7,0),(8,0),(13,2),(14,2)] Zk Zk ?_;exact mK y9.1):P:=f ⟨h⟩
theorem Wq433(h:Q)(f:Uj Q->P:=by intro y9;refine UA ?_;refine Zy (dr (Zv I) (Zv I) (show _=((i0+1:Nat):Int)from by rw[show Lm (some i0)=(i0:Int)from I,bG];omega)) ?_;exact Ut y9.1):P:=f ⟨h⟩
theorem QL(h:Q)(f:Uj Q->P:=by intro y9;exact Zy (dr (Zv I) (Zv I) (show _=(0:Int)from I)) y9.1):P:=f ⟨h⟩
theorem Wq436(h:P:=by rw[hr];exact h _ _ _ ⟨I,I⟩ (hi.upd (hu _) h2 (nF h2 (by simp[bH.bs]) h3 (λb hb=>Or.inl hb))) (λe=>by cases e)):P:=h
theorem MY(h:Q)(f:Uj Q->P:=by intro y9;refine mK ?_;exact dX I (zr ne) I y9.1):P:=f ⟨h⟩
theorem Wq438(h:Q)(f:Uj Q->P:=by intro y9;exact ZT (λw hi=>HS X.Ad X.Ar X.cd X.cr w (hi.TM Zh Zh (show(R.wd (l++[x])).s.d.length*4<=_ by omega) (show(R.wd (l++[x])).s.r.length*4<=_ by omega))) y9.1):P:=f ⟨h⟩
theorem QK(h:P:=by rw[show(R.wd l).s.root=R.s.root from I,hrt];rfl):P:=h
theorem BS(h:P:=by exact Nat.mod_eq_of_lt O):P:=h
theorem MX(h:P:=by rw[aU];omega):P:=h
theorem YN(h:P:=by exact⟨⟨λ_ _ _ h=>h,λh=>h⟩,hn _ w (hf.put kP _) hi'⟩):P:=h
theorem Wq444(h:Q)(f:Uj Q->P:=by intro y9;refine UG ?_;exact V7 (Vq bu bb L D Y U d) (λw hi hin=>HD w hin (λw' hk=>hi.Tz Zi (Ur (UP s X.Ad X.cd)) (Ur (UU s X.Ar X.cr)) O O hk)) y9.1):P:=f ⟨h⟩
theorem Wq445(h:P:=by refine Vd ([_,_]) ?_;rw[hf1];have hr1:r1=(l.take (J l)).foldl step r0:=hr1;rw[List.take_length]at hr1;rw[<-hr1];exact ff):P:=h
theorem Wq446(h:Q)(f:Uj Q->P:=by intro y9;refine cQ 17 Zk ?_;exact ft I I (cH (vs:=tr.cells) ir I I (ka I) Za mJ) (λ_=>by refine Uw ?_;exact bO Zh) y9.1):P:=f ⟨h⟩
theorem Wq447(h:Q)(f:Uj Q->P:=by intro y9;refine bN (Wz [14] (pk b5 [.i op,.i dst,.i xa,.i xb,.w imm])) Zk ?_;refine y5 ?_;refine ZE 3 ?_;exact Ld 4 0 y9.1):P:=f ⟨h⟩
theorem QJ(h:P:=by simp only[jV,mb, *,ae,ac]):P:=h
theorem QI(h:P:=by simp only[nK,mb, *,ae,ac]):P:=h
theorem v5(h:Q)(f:Uj Q->P:=by intro y9;refine fo ?_;exact pd y9.1):P:=f ⟨h⟩
theorem vZ(h:Q)(f:Uj Q->P:=by intro y9;refine jG ?_;exact o9 y9.1):P:=f ⟨h⟩
theorem kO(h:Q)(f:Uj Q->P:=by intro y9;exact cQ 9 Zk y9.1):P:=f ⟨h⟩
theorem QH(h:Q)(f:Uj Q->P:=by intro y9;refine bN (UK [3]) Zk ?_;refine Wq248 ?_;exact pI y9.1):P:=f ⟨h⟩
theorem MW(h:Q)(f:Uj Q->P:=by intro y9;exact Ce I Zh ir ir (Zv I) I y9.1):P:=f ⟨h⟩
theorem QG(h:Q)(f:Uj Q->P:=by intro y9;exact qJ I (bP I I) (zr (cU I)) I y9.1):P:=f ⟨h⟩
theorem YM(h:P:=by rintro _ _ ⟨_,⟨A',c',rfl,rfl⟩,rfl⟩;refine Ut ?_;exact IN):P:=h
theorem Wq457(h:Q)(f:Uj Q->P:=by intro y9;refine dW (cj (vs:=s9.cells (.slice X1.Ad (J s9.d) X1.cd) (.slice X1.Ar (J s9.r) X1.cr)) ir ir ne) (cI Zh I) I ?_;exact iz y9.1):P:=f ⟨h⟩
theorem QF(h:Q)(f:Uj Q->P:=by intro y9;exact qJ I (bU I I) (zr (cU I)) I y9.1):P:=f ⟨h⟩
theorem YL(h:Q)(f:Uj Q->P:=by intro y9;refine Ig ?_;exact UD (λw hi=>lT K n hn p 1 O An w (hi.get Zh)) y9.1):P:=f ⟨h⟩
theorem MV(h:Q)(f:Uj Q->P:=by intro y9;refine y5 ?_;refine Ld 3 2 ?_;exact BX y9.1):P:=f ⟨h⟩
theorem Ih(h:Q)(f:Uj Q->P:=by intro y9;exact ZT (λw hi=>HS w (hi.get Zh)) y9.1):P:=f ⟨h⟩
theorem vE(h:Q)(f:Uj Q->P:=by intro y9;refine Ux ?_;exact VW y9.1):P:=f ⟨h⟩
theorem Wq463(h:Q)(f:Uj Q->P:=by intro y9;refine jn ?_;refine Uu ?_;refine UD (λw hi=>qN bu L.bm bb w (bH.old hu hi)) ?_;refine ZA ?_;exact Zy (jW (Zv I) (Zv I) O hq) y9.1):P:=f ⟨h⟩
theorem Wq465(h:Q)(f:Uj Q->P:=by intro y9;refine UA ?_;refine Wl I I (cA I I (cU I) XN) ?_;refine py ?_;refine Wl I I (cA I I (cU I) XN) ?_;exact fC y9.1):P:=f ⟨h⟩
theorem vD(h:P:=by grind [World.setRow]):P:=h
theorem QE(h:Q)(f:Uj Q->P:=by intro y9;refine iS ?_;exact UD (λw hi=>HR2 A1 A2 c1 c2 w) y9.1):P:=f ⟨h⟩
theorem DS(h:Q)(f:Uj Q->P:=by intro y9;refine ZE 11 ?_;exact cQ 12 Zk y9.1):P:=f ⟨h⟩
theorem Wq469(h:Q)(f:Uj Q->P:=by intro y9;refine UA ?_;refine Zy (Eb (j:=k) I ir ir (Zv I) (Zv I) Uq Uq (λ_=>lh hkl)) ?_;refine UA ?_;exact Zy (vP ne ne I) y9.1):P:=f ⟨h⟩
theorem Wq470(h:Q)(f:Uj Q->P:=by intro y9;refine dZ ?_;exact rR I I (bP I I) I (dQ I (λ_ _=>I) (λw hi=>qN H.bu H.L.bm H.bb w (hi.get Zh))) ZJ I y9.1):P:=f ⟨h⟩
theorem Wq471(h:P:=by exact λ_=>by refine Uw ?_;exact gu (bO (t:=262) Zh) (bO (t:=180) Zh)):P:=h
theorem Wq472(h:P:=by refine mz (cs':=(Wi be bu bb L D s X Y U d E)) (.inl I) Zu I I Zh ir ir ?_;exact⟨X,Y,E,hE,hG9,I,I⟩):P:=h
theorem QD(h:P:=by simp only[aq,aF]):P:=h
theorem Wq474(h:P:=by simp only[U8,VC,zW,UP,UU,ar,aE,bC,aF,aJ]):P:=h
theorem QC(h:Q)(f:Uj Q->P:=by intro y9;refine wZ func215 I ntmps215 I hi ?_;exact py y9.1):P:=f ⟨h⟩
theorem YK(h:P:=by exact(show zh _ _ from by(try dsimp only);rw[hstk];exact Zj)):P:=h
theorem YJ(h:Q)(f:Uj Q->P:=by intro y9;refine iR ?_;exact vL (cs':=[slv _ _ _ _ _ _]) (.inl I) Zu I I I y9.1):P:=f ⟨h⟩
theorem Wq478(h:P:=by simp only[aa]at hc12;obtain rfl:k=4:=O;refine UG ?_;refine Su ?_;refine ZA ?_;exact ζ):P:=h
theorem Wq479(h:Q)(f:Uj Q->P:=by intro y9;refine UA ?_;refine Zy (cW (j:=k2) I ir (Zv I) (Zv I) Uq Uq) ?_;refine dW (bL ir ne) (xQ Zh hx1) I ?_;exact gX y9.1):P:=f ⟨h⟩
theorem Wq480(h:Q)(f:Uj Q->P:=by intro y9;refine kO ?_;exact jX I I (i9 I I ir ir I I) (λ_=>by rintro _ _ ⟨b40,rfl,rfl⟩;exact bO (t:=51) Zh) I y9.1):P:=f ⟨h⟩
theorem mh(h:Q)(f:Uj Q->P:=by intro y9;exact cQ 10 Zk y9.1):P:=f ⟨h⟩
theorem QB(h:Q)(f:Uj Q->P:=by intro y9;refine fy ?_;refine Uu ?_;refine Su ?_;exact ZA y9.1):P:=f ⟨h⟩
theorem YI(h:Q)(f:Uj Q->P:=by intro y9;refine Ux ?_;exact ZS (λw hi=>oo s Ad Ar cd cr w (h w hi.S1)) y9.1):P:=f ⟨h⟩
theorem YH(h:Q)(f:Uj Q->P:=by intro y9;exact U5 (gz K X (R.wd (l++[x]))) (λw hi hin=>oT K X R l x w hin) y9.1):P:=f ⟨h⟩
theorem YG(h:Q)(f:Uj Q->P:=by intro y9;exact Vd ([row _ _ _,row _ _ _,slv _ _ _ _ _ _,slv _ _ _ _ _ _,row _ _ _]) y9.1):P:=f ⟨h⟩
theorem Wq487(h:Q)(f:Uj Q->P:=by intro y9;exact AB (c:=b8 A3 c3 (inp++l.take n)) (c':=V6 A3 (J (inp++l.take n)) c3 (ints .u8 (inp++l.take n))) Za rdC_sub (λw=>slv_rdC w) y9.1):P:=f ⟨h⟩
theorem Wq488(h:Q)(f:Uj Q->P:=by intro y9;refine sx 9 I Zk Zk Zk Zk (bL ir (Zv I)) (cN Zh (jz O)) I ?_;refine Ld 12 3 ?_;refine cQ 13 Zk ?_;exact ke y9.1):P:=f ⟨h⟩
theorem MU(h:Q)(f:Uj Q->P:=by intro y9;exact dX I (dq 5 I ne Zf) I y9.1):P:=f ⟨h⟩
theorem Wq490(h:P:=by rintro _ _ ⟨A9,c9,rfl,rfl⟩;refine Wq263 ?_;subst hC2 hs2;unfold Lw.go;rw[hc3,hc5,hc8,hc10,hc14,hc18,hc20];rfl):P:=h
theorem YF(h:Q)(f:Uj Q->P:=by intro y9;rw[qp (Or.inl hr)];unfold Lw.reckon;rw[show(op !=25)=true by simp;omega];exact y9.1):P:=f ⟨h⟩
theorem DR(h:Q)(f:Uj Q->P:=by intro y9;simp only[Bool.not_true,ac];exact y9.1):P:=f ⟨h⟩
theorem Wq493(h:P:=by refine vO ?_;rintro _ _ ⟨b134,rfl,rfl⟩;refine kO ?_;have hbd:J L.d.l<=600:=aR hs.dl O;refine Wq328 ?_;exact Wq490):P:=h
end
end Go.Ink
