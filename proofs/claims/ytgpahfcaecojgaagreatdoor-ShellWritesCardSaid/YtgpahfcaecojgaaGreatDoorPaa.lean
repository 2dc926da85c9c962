/- Lemmas. -/
import Derived.WalkKit
import Derived.WalkSpells
import Derived.WalkLawsBesides
import Derived.OrdersHeld
import Derived.Deep.RegionHeld3
import Derived.Maps.AppendAt
import Derived.Lib.SliceRun
import Derived.ProofKit
import Derived.SizedLaws
import Derived.Carry
import Derived.Below
import Derived.Laws.BytesArg
import Derived.Laws.OwnMore
import Derived.Laws.Strings
import Derived.Laws.IdiomCopy
set_option linter.all false
set_option maxRecDepth 100000
set_option maxHeartbeats 4000000
namespace Go.Ink
abbrev aa:=@decide_eq_false_iff_not
abbrev ac:=@decide_eq_true_eq
abbrev ae:=@List.getElem?_eq_getElem
abbrev ah:=@cond_false
abbrev ai:=@cond_true
abbrev aj:=@List.length_append
abbrev ak:=@List.mem_of_getElem?
abbrev ao:=@Int.eq_ofNat_of_zero_le
abbrev ap:=@Nat.zero_le
abbrev aq:=@List.append_assoc
abbrev ar:=@List.getElem?_eq_some_iff
abbrev au:=@Bool.and_eq_true
abbrev aw:=@List.append_nil
abbrev ax:=@List.length_map
abbrev ay:=@Option.some.inj
abbrev az:=@List.mem_append
abbrev aB:=@List.mem_of_mem_take
abbrev aC:=@List.mem_singleton
abbrev aD:=@List.length_take
abbrev aE:=@decide_eq_true
abbrev aF:=@decide_eq_false
abbrev aG:=@IntKind.wrap_u32
abbrev aI:=@List.length_replicate
abbrev aJ:=@List.mem_cons
abbrev aK:=@Nat.le_trans
abbrev aL:=@Nat.le_refl
abbrev aM:=@List.take_of_length_le
abbrev aN:=@Int.toNat_natCast
abbrev aO:=@List.length_cons
abbrev aP:=@List.cons_append
abbrev aQ:=@List.all_eq_true
abbrev aR:=@List.nil_append
abbrev aS:=@Bool.or_eq_false_iff
abbrev aU:=@IntKind.wrap_u64
abbrev aV:=@beq_eq_false_iff_ne
abbrev aW:=@Int.tmod_eq_emod_of_nonneg
abbrev aX:=@List.getElem?_map
abbrev aY:=@List.mem_nil_iff
abbrev aZ:=@List.mem_map
abbrev bh:=@List.Sublist.refl
abbrev bj:=@bne_self_eq_false
abbrev bn:=@Bool.or_eq_true
abbrev bo:=@Option.some.injEq
abbrev bA:=@Prod.mk.injEq
abbrev bC:=@List.take_length
abbrev bD:=@IntWalk.i64_in
abbrev bE:=@List.take_add_one
abbrev bF:=@List.flatMap_cons
abbrev bG:=@List.mem_of_mem_drop
abbrev bH:=@List.length_drop
abbrev bI:=@IntKind.wrap_i64
open Go.RowKit
@[match_pattern]abbrev _root_.Go.Value.p(b:Nat):Value:=.pointer (some ⟨b,0,none⟩)
@[match_pattern]abbrev _root_.Go.Value.i(n:Int):Value:=.int .i64 n
@[match_pattern]abbrev _root_.Go.Value.w(n:Int):Value:=.int .u32 n
@[match_pattern]abbrev _root_.Go.Lit.i(n:Int):Lit:=.int .i64 n
@[match_pattern]abbrev _root_.Go.Lit.w(n:Int):Lit:=.int .u32 n
@[match_pattern]abbrev sA(b:Nat):Option Addr:=some ⟨b,0,none⟩
abbrev Li:=List Int
abbrev Oa:=Option Addr
structure Zwr(Q:Prop):Prop where
 h:Q
section
variable{P Q:Prop}
theorem Wq1(h:P:=by omega):P:=h
theorem Wq2(h:P:=by exact λ_=>by omega):P:=h
theorem Wq3(h:Q)(f:Zwr Q->P:=by intro y9;exact fy rfl rfl (cZ Zrf rfl rfl (mQ rfl) Za (by exact rfl)) (λ_=>by rintro _ _ ⟨rfl,rfl⟩;exact bL (t:=27) Zh) y9.1):P:=f ⟨h⟩
theorem Wq4(h:P:=by as_aux_lemma=>kernel_rfl):P:=h
theorem Wq5(h:Q)(f:Zwr Q->P:=by intro y9;exact jE (cs':=[row _ _ _,slv _ _ _ _ _ _,slv _ _ _ _ _ _,row _ _ _,exC _ _ _ _,row _ _ _,row _ _ _,row _ _ _,row _ _ _,row _ _ _,slv _ _ _ _ _ _,slv _ _ _ _ _ _,row _ _ _,slv _ _ _ _ _ _]) (.inr rfl) Zu rfl y9.1):P:=f ⟨h⟩
theorem Wq6(h:Q)(f:Zwr Q->P:=by intro y9;refine Zy (eK Zv0 Zv0 Zl) ?_;exact Z_2 y9.1):P:=f ⟨h⟩
theorem Wq7(h:Q)(f:Zwr Q->P:=by intro y9;exact gX rfl rfl (dh rfl (λ_ _=>rfl) (λw hi=>sS false A3 c3 L B3 e3 T hg3 (λx hx=>⟨(hTm x hx).b,(hTm x hx).l,(hTm x hx).n⟩) w (hi.rd (Zhc (imC A3 c3 L))) (hI.rd w (λa ha=>(hl a ha).dk.Wh hi) (hi.get (Zhc (bP J)))) (hi.rd (Zhc (iU B3 e3 T))) (λx hx=>(hTm x hx).rd.Wh hi) (ht.old hi))) (λ_=>by rintro _ _ ⟨_,⟨R4,hR4,rfl,rfl⟩,rfl⟩;exact bL (t:=27) Zh) rfl y9.1):P:=f ⟨h⟩
theorem Wq8(h:Q)(f:Zwr Q->P:=by intro y9;exact gX rfl rfl (dh rfl (λ_ _=>rfl) (λw hi=>sS false A3 c3 L B3 e3 T2 him3 hm2 w (hi.rd (Zhc (imC A3 c3 L))) (hI.rd w (λa ha=>(hl a ha).dk.Wh hi) (hi.get (Zhc (bP J)))) (hi.rd (Zhc (iU B3 e3 T2))) (λx hx=>(hr2 x hx).Wh hi) (ht.old hi))) (λ_=>by rintro _ _ ⟨_,⟨R2,hR2,rfl,rfl⟩,rfl⟩;exact bL (t:=27) Zh) rfl y9.1):P:=f ⟨h⟩
theorem Wq9(h:P:=by simp only[maxLen];omega):P:=h
theorem bX(h:P:=by decide):P:=h
theorem Wq11(h:P:=by refine ZM ?_;refine Z_3 ?_;refine bO [row b2 _ _,slv 343 5 A c.length cc (c.flatMap II.cells),sl .i64 3 A3 (dY pl p.Wo).length c3 (dY pl p.Wo),sl .i64 3 A4 (dY pl p.Wp).length c4 (dY pl p.Wp)] Zj ?_;refine m8 (cs':=[slv _ _ _ _ _ _,slv _ _ _ _ _ _,slv _ _ _ _ _ _]) (.inl rfl) Zu rfl rfl Zh Zrf Zrf ?_;rw[hsT _ _ hm1 hm2];exact⟨⟨A,cc,A3,c3,A4,c4⟩,rfl,rfl⟩):P:=h
theorem bY(h:P:=by grind):P:=h
theorem mf(h:Q)(f:Zwr Q->P:=by intro y9;exact AH (cs':=[]) (.inl rfl) Zu rfl rfl rfl y9.1):P:=f ⟨h⟩
theorem jD(h:Q)(f:Zwr Q->P:=by intro y9;exact fo (ff rfl rfl Zrf Zrf rfl rfl) rfl y9.1):P:=f ⟨h⟩
theorem Wq15(h:Q)(f:Zwr Q->P:=by intro y9;refine Z_5 ?_;refine ZM ?_;refine Z_3 ?_;refine bO [row b2 _ _,slv 343 5 A c.length cc (c.flatMap II.cells),sl .i64 3 A3 (dY pl p.Wo).length c3 (dY pl p.Wo),sl .i64 3 A4 (dY pl p.Wp).length c4 (dY pl p.Wp)] Zj ?_;exact m8 (cs':=[slv _ _ _ _ _ _,slv _ _ _ _ _ _,slv _ _ _ _ _ _]) (.inl rfl) Zu rfl rfl Zh Zrf Zrf y9.1):P:=f ⟨h⟩
theorem Wq16(h:P:=by refine eT (ij Zrf rfl rfl rfl Za (by simp[ints,hR])) ?_;rintro _ _ ⟨rfl,rfl⟩;rw[OQ (by simp[hR])];refine Z_8 ?_;refine Zrb ([row _ _ _,slv _ _ _ _ _ _,slv _ _ _ _ _ _]) ?_;exact⟨rfl,rfl⟩):P:=h
theorem Wq17(h:Q)(f:Zwr Q->P:=by intro y9;refine cW 15 Zk ?_;exact p6 rfl rfl (bS rfl rfl) rfl (dh rfl (λ_ _=>rfl) (λw hi=>ku (sA b117) 1 [⟨A10,c10,x::r++[x]⟩] w (hi.rd (Zhc (slv 72 1 (sA b117) 1 1 [.slice A10 (x::r++[x]).length c10]))) (λy hy=>by rw[aC.1 hy];exact hi.rd (Zhc (sl .i64 3 A10 (x::r++[x]).length c10 (x::r++[x])))))) ZJ rfl y9.1):P:=f ⟨h⟩
theorem ru(h:P:=by refine Zra ?_;exact⟨rfl,rfl⟩):P:=h
theorem kv(h:Q)(f:Zwr Q->P:=by intro y9;exact cy rfl (rfl) y9.1):P:=f ⟨h⟩
theorem pZ(h:Q)(f:Zwr Q->P:=by intro y9;exact fo (gZ rfl rfl Zrf Zrf rfl rfl rfl) rfl y9.1):P:=f ⟨h⟩
theorem pY(h:Q)(f:Zwr Q->P:=by intro y9;refine gq ?_;exact ret4 (cs':=[]) (.inl rfl) Zu rfl rfl rfl rfl rfl y9.1):P:=f ⟨h⟩
theorem Wq22(h:Q)(f:Zwr Q->P:=by intro y9;refine io (bS rfl rfl) rfl rfl ?_;refine io (bS rfl rfl) rfl rfl ?_;refine io (bS rfl rfl) rfl rfl ?_;exact io (bS rfl rfl) rfl rfl y9.1):P:=f ⟨h⟩
theorem Lu(h:Q)(f:Zwr Q->P:=by intro y9;exact AH (cs':=[row _ _ _,row _ _ _,row _ _ _,row _ _ _,slv _ _ _ _ _ _,slv _ _ _ _ _ _,row _ _ _,slv _ _ _ _ _ _]) (.inl rfl) Zu rfl rfl rfl y9.1):P:=f ⟨h⟩
theorem Wq24(h:Q)(f:Zwr Q->P:=by intro y9;exact gX rfl rfl (dh rfl (λ_ _=>rfl) (λw hi=>sS true A3 c3 L B3 e3 T hg3 (λx hx=>⟨(hTm x hx).b,(hTm x hx).l,(hTm x hx).n⟩) w (hi.rd (Zhc (imC A3 c3 L))) (hI.rd w (λa ha=>(hl a ha).dk.Wh hi) (hi.get (Zhc (bP J)))) (hi.rd (Zhc (iU B3 e3 T))) (λx hx=>(hTm x hx).rd.Wh hi) (ht.old hi))) (λ_=>by rintro _ _ ⟨_,⟨R3,hR3,rfl,rfl⟩,rfl⟩;exact bL (t:=27) Zh) rfl y9.1):P:=f ⟨h⟩
theorem Qw(h:P:=by refine Zrb ([row _ _ _,slv _ _ _ _ _ _,slv _ _ _ _ _ _]) ?_;rw[hst];exact⟨⟨_,_,_,_⟩,rfl,rfl⟩):P:=h
theorem m5(h:Q)(f:Zwr Q->P:=by intro y9;exact dH rfl (Vj Zv0) rfl y9.1):P:=f ⟨h⟩
theorem dR(h:Q)(f:Zwr Q->P:=by intro y9;exact Me Zk y9.1):P:=f ⟨h⟩
theorem GF(h:Q)(f:Zwr Q->P:=by intro y9;exact fy rfl rfl (mm Zrf rfl rfl rfl Za Zp) (λ_=>by rintro _ _ ⟨rfl,rfl⟩;exact bL (t:=347) Zh) y9.1):P:=f ⟨h⟩
theorem pP(h:Q)(f:Zwr Q->P:=by intro y9;refine ZE 0 ?_;exact ZE 1 y9.1):P:=f ⟨h⟩
theorem UL(h:P:=by first|exact IntWalk.u64_in _ ⟨by omega,by omega⟩|exact rfl):P:=h
theorem Wq31(h:Q)(f:Zwr Q->P:=by intro y9;exact gX rfl rfl (dh rfl (λ_ _=>rfl) (λw hi=>sS true A3 c3 L B3 e3 T2 him3 hm2 w (hi.rd (Zhc (imC A3 c3 L))) (hI.rd w (λa ha=>(hl a ha).dk.Wh hi) (hi.get (Zhc (bP J)))) (hi.rd (Zhc (iU B3 e3 T2))) (λx hx=>(hr2 x hx).Wh hi) (ht.old hi))) (λ_=>by rintro _ _ ⟨_,⟨R1,hR1,rfl,rfl⟩,rfl⟩;exact bL (t:=27) Zh) rfl y9.1):P:=f ⟨h⟩
theorem Wq32(h:Q)(f:Zwr Q->P:=by intro y9;refine cW 10 Zk ?_;exact gX rfl rfl (dN ((eE ba a2++eE bb b2)) rfl (λ_ _=>rfl) Zi (λw hi hin=>Ug ba bb a2 b2 (80000*i+80000) ha2 hb2 Wq1 (hla2.trans hlb2.symm) (sA bz) (sA by2) cz cy2 [⟨o,Y⟩] [⟨o,Y2⟩] rfl (λz hz=>by rw[aC.1 hz];exact hwf) w hin (λw' hk=>⟨hi.WZ Zi (Zhc (ouC bz cz o Y)) hk,λz hz=>by rw[aC.1 hz];exact hR2 w' (hi.Xc Zi (Zhc (bP J2)) hk)⟩) (λw' hk=>⟨hi.WZ Zi (Zhc (ouC by2 cy2 o Y2)) hk,λz hz=>by rw[aC.1 hz];exact hR3 w' (hi.Xc Zi (Zhc (bP J3)) hk)⟩))) (λ_=>by rintro _ _ ⟨_,⟨rfl,rfl⟩,rfl⟩;exact bL (t:=41) Zh) rfl y9.1):P:=f ⟨h⟩
theorem Lq(h:Q)(f:Zwr Q->P:=by intro y9;exact Zrb ([row _ _ _,row _ _ _,row _ _ _,row _ _ _,slv _ _ _ _ _ _,slv _ _ _ _ _ _,row _ _ _,slv _ _ _ _ _ _,exC _ _ _ _]) y9.1):P:=f ⟨h⟩
theorem cP(h:P:=by simp):P:=h
theorem pM(h:P:=by simp only[ce, *,ai,ah];exact rfl):P:=h
theorem gr(h:P:=by exact⟨rfl,rfl⟩):P:=h
theorem Wq37(h:P:=by first|exact dg rfl|exact List.mem_append_left _ (dg rfl)|exact List.mem_append_right _ (dg rfl)|exact List.mem_append_right _ (List.mem_append_right _ (List.mem_append_left _ (dg rfl)))|exact List.mem_append_right _ (List.mem_append_right _ (List.mem_append_right _ (dg rfl)))):P:=h
theorem QP(h:Q)(f:Zwr Q->P:=by intro y9;refine ZL ?_;refine Z_6 ?_;refine ZM ?_;refine Z_4 ?_;exact px (cs':=[slv _ _ _ _ _ _,slv _ _ _ _ _ _]) (.inl rfl) Zu rfl rfl rfl Zh Zrf Zrf y9.1):P:=f ⟨h⟩
theorem Ql(h:Q)(f:Zwr Q->P:=by intro y9;exact dQ (bM Zrf (Zv rfl)) (dr (by assumption) rfl) rfl y9.1):P:=f ⟨h⟩
theorem V0(h:Q)(f:Zwr Q->P:=by intro y9;refine dH rfl (oz Zv0 (.zero _ _)) rfl ?_;exact dH rfl (oz Zv0 (.succ _ (.zero _ _))) rfl y9.1):P:=f ⟨h⟩
theorem gm(h:Q)(f:Zwr Q->P:=by intro y9;refine Z_8 ?_;exact Zra y9.1):P:=f ⟨h⟩
theorem Wq42(h:P:=by refine ZcL (gL (kOf br bu D) X ((R.wd l).wt ⟨ca,ad⟩)) (λw hi hin=>jb (kOf br bu D) X ((R.wd l).wt ⟨ca,ad⟩) _ 1 1 [v] (show l.length+1<=1000000 by omega) w hin (λw' hk=>hi.WZ Zi Zh hk)) ?_;rintro _ _ ⟨_,⟨A',c',rfl,rfl⟩,rfl⟩;refine Z_2 ?_;refine bO (gL (kOf br bu D) ⟨A',c',X.Ar,X.cr⟩ (((R.wd l).wt ⟨ca,ad⟩).wd (l++[v]))++uF bu bb L U') Zj ?_;refine jE (cs':=[row _ _ _,slv _ _ _ _ _ _,slv _ _ _ _ _ _,row _ _ _,exC _ _ _ _,row _ _ _]) (.inr rfl) Zu rfl ?_;exact⟨⟨A',c',X.Ar,X.cr⟩,rfl,rfl⟩):P:=h
theorem VZ(h:Q)(f:Zwr Q->P:=by intro y9;exact p6 rfl rfl (bS rfl rfl) rfl (ff rfl rfl Zrf Zrf rfl rfl) ZJ rfl y9.1):P:=f ⟨h⟩
theorem Wq44(h:Q)(f:Zwr Q->P:=by intro y9;refine cW 13 Zk ?_;exact p6 rfl rfl (bS rfl rfl) rfl (bV (e:=3) (sz:=1) (bytes:=8) rfl rfl Za rfl rfl (λw hi=>hi.rd (Zhc (slv 3 1 (sA b115) 1 1 (ints .i64 [x])))) cN Wq9 Wq1) ZJ rfl y9.1):P:=f ⟨h⟩
theorem Uv(h:Q)(f:Zwr Q->P:=by intro y9;refine m5 ?_;refine m5 ?_;exact dH rfl (cC (j:=i) rfl Zrf (Zv rfl) (Zv rfl) Wq2 Wq2) rfl y9.1):P:=f ⟨h⟩
theorem Wq46(h:P:=by refine ZM ?_;refine Z_3 ?_;refine bO (row b2 [.slice A2 L.length c2,.slice A4 T1.length c4] 27::Scr.cs ⟨A2,c2,L,J,A4,c4,T1,K⟩) Zj ?_;refine m8 (cs':=(Scr.cs ⟨A2,c2,L,J,A4,c4,T1,K⟩)) (.inl rfl) Zu rfl rfl Zh Zrf Zrf ?_;rw[<-g1,<-hTT];exact⟨⟨A2,c2,L,J,A4,c4,T1,K⟩,⟨rfl,rfl,hq.j,hp.k,hq.lb,hp.tb⟩,rfl,rfl⟩):P:=h
theorem zL(h:Q)(f:Zwr Q->P:=by intro y9;exact JB rfl (bM Zrf Zv0) (cB Zh rfl) rfl y9.1):P:=f ⟨h⟩
theorem xq(h:P:=by simp only[AZ, *,ai,ah];exact rfl):P:=h
theorem EA(h:Q)(f:Zwr Q->P:=by intro y9;exact gX rfl rfl (ff rfl rfl Zrf Zrf rfl rfl) ZJ rfl y9.1):P:=f ⟨h⟩
theorem Wq50(h:P:=by refine m8 (cs':=(bP []::FM bm bp ad c gn ps P' ((gs.set i g').flatMap MG.cs))) (.inl rfl) Zu rfl rfl Zh Zrf Zrf ?_;exact⟨P',g',xZ,[],⟨h1,h2,h3,λw _=>uq w⟩,rfl,rfl⟩):P:=h
theorem iJ(h:Q)(f:Zwr Q->P:=by intro y9;refine Z_1 ?_;exact ZL y9.1):P:=f ⟨h⟩
theorem Wq52(h:Q)(f:Zwr Q->P:=by intro y9;refine cW 9 Zk ?_;exact gX rfl rfl (dN (eE bb b) rfl (λ_ _=>rfl) Zi (λw hi hin=>HE (sA b46) 1 w hin (λw' hk=>hi.WZ Zi (Zhc (slv 41 4 (sA b46) 1 1 [.i kd,.i g,.i n,.slice xA xb.length xc])) hk) (λw' hk=>RdV.Wm hxr hi Zi hk) (λw' hk=>RdV.Wm ht hi Zi hk))) (λ_=>by rintro _ _ ⟨_,⟨b2,Y2,by2,cy2,J3,⟨hb2,hlb2,hR3⟩,rfl,rfl⟩,rfl⟩;exact bL (t:=41) Zh) rfl y9.1):P:=f ⟨h⟩
theorem Wq53(h:Q)(f:Zwr Q->P:=by intro y9;refine dH rfl (cC (j:=i) rfl Zrf (Zv rfl) (Zv rfl) Wq2 Wq2) rfl ?_;refine dH rfl (cR 2 rfl (Zv rfl) ((cu ad (i*3) 2))) rfl ?_;refine kw rfl (bM Zrf Zv0) (di h (bZ BoR.V8 (i:=2) hla rfl)) rfl ?_;refine QK rfl ?_;exact jG rfl rfl (dh rfl (λ_ _=>rfl) (λw hi=>Bq a.A a.B a.c a.e a.l a.Wa a.k hao.bs w (hao.rd.Wh hi) (λy hy=>(hao.raw y hy).Wh hi) (hao.dk.Wh hi))) ZJ rfl y9.1):P:=f ⟨h⟩
theorem Wq54(h:P:=by refine Z_6 ?_;refine ZM ?_;refine Z_3 ?_;refine m8 (cs':=[]) (.inl rfl) Zu rfl rfl Zh Zrf Zrf ?_;exact⟨⟨_,_,rfl,(by first|exact u0|exact hxu|exact jH Wq1),hop⟩,rfl⟩):P:=h
theorem Wq55(h:P:=by cases q2 with|false=>rfl|true=>exact absurd (hq2.1 rfl) (by rw[show([⟨A10,c10,x::r++[x]⟩]:List ISl).flatMap ISl.l=(x::r)++[x]from by simp];exact DZ)):P:=h
theorem o6(h:P:=by exact rfl):P:=h
theorem Wq57(h:Q)(f:Zwr Q->P:=by intro y9;exact gX rfl rfl (dN (eE ba a) rfl (λ_ _=>rfl) Zi (λw hi hin=>HD (sA b42) 1 w hin (λw' hk=>hi.WZ Zi (Zhc (slv 41 4 (sA b42) 1 1 [.i kd,.i g,.i n,.slice xA xb.length xc])) hk) (λw' hk=>RdV.Wm hxr hi Zi hk) (λw' hk=>RdV.Wm ht hi Zi hk))) (λ_=>by rintro _ _ ⟨_,⟨a2,Y,bz,cz,J2,⟨ha2,hla2,hR2⟩,rfl,rfl⟩,rfl⟩;exact bL (t:=41) Zh) rfl y9.1):P:=f ⟨h⟩
theorem Wq58(h:Q)(f:Zwr Q->P:=by intro y9;refine bR (λm:gi=>m.d.lines) h ?_;refine bR (λm:gi=>m.d.lines) h ?_;refine bR (λm:gi=>m.d.lines) h ?_;refine bR (λm:gi=>m.d.lines) h ?_;exact bR (λm:gi=>m.d.lines) h y9.1):P:=f ⟨h⟩
theorem Uo(h:P:=by exact λ_=>by rintro _ _ ⟨rfl,rfl⟩;exact bL (t:=248) Zh):P:=h
theorem Wq60(h:Q)(f:Zwr Q->P:=by intro y9;refine ZF 16 ?_;refine ZE 17 ?_;refine ZE 18 ?_;refine cW 19 Zk ?_;exact p6 rfl rfl (bS rfl rfl) rfl (dh rfl (λ_ _=>rfl) (λw hi=>oO w)) ZJ rfl y9.1):P:=f ⟨h⟩
theorem Ex(h:Q)(f:Zwr Q->P:=by intro y9;exact Zy (cC (j:=k) rfl Zrf (Zv rfl) (Zv rfl) Wq2 Wq2) y9.1):P:=f ⟨h⟩
theorem Un(h:Q)(f:Zwr Q->P:=by intro y9;exact gX rfl rfl (ls Zrf rfl) (λ_=>by rintro _ _ ⟨b10,rfl,rfl⟩;exact bL (t:=27) Zh) rfl y9.1):P:=f ⟨h⟩
theorem Um(h:Q)(f:Zwr Q->P:=by intro y9;exact gX rfl rfl (ls Zrf rfl) (λ_=>by rintro _ _ ⟨b11,rfl,rfl⟩;exact bL (t:=27) Zh) rfl y9.1):P:=f ⟨h⟩
theorem Ul(h:Q)(f:Zwr Q->P:=by intro y9;exact gX rfl rfl (ls Zrf rfl) (λ_=>by rintro _ _ ⟨b12,rfl,rfl⟩;exact bL (t:=27) Zh) rfl y9.1):P:=f ⟨h⟩
theorem Uk(h:Q)(f:Zwr Q->P:=by intro y9;exact gX rfl rfl (ls Zrf rfl) (λ_=>by rintro _ _ ⟨b9,rfl,rfl⟩;exact bL (t:=27) Zh) rfl y9.1):P:=f ⟨h⟩
theorem Uj(h:P:=by refine retTC (cs':=[row _ _ _,exC _ _ _ _,row _ _ _]) (.inl rfl) Zu rfl rfl rfl Zh Zrf Zrf ?_;exact gr):P:=h
theorem uV(h:P:=by simp only[gb, *,ai,ah]):P:=h
theorem uf(h:Q)(f:Zwr Q->P:=by intro y9;refine bU (Zdn []) Zk ?_;exact pP y9.1):P:=f ⟨h⟩
theorem Jm(h:Q)(f:Zwr Q->P:=by intro y9;refine dH rfl (GS Zv0) rfl ?_;exact i6 y9.1):P:=f ⟨h⟩
theorem Jl(h:Q)(f:Zwr Q->P:=by intro y9;exact jG rfl rfl (ls Zrf rfl) ZJ rfl y9.1):P:=f ⟨h⟩
theorem Cd(h:P:=by simp only[vX, *,ai,ah];exact rfl):P:=h
theorem Wq72(h:Q)(f:Zwr Q->P:=by intro y9;refine Uv ?_;refine dH rfl (cR 2 rfl (Zv rfl) ((cu ad (i*3) 2))) rfl ?_;refine kw rfl (bM Zrf Zv0) (di h (bZ BoR.V8 (i:=2) hla rfl)) rfl ?_;refine QK rfl ?_;exact jG rfl rfl (dh rfl (λ_ _=>rfl) (λw hi=>Bq a.A a.B a.c a.e a.l a.Wa a.k hao.bs w (hao.rd.Wh hi) (λy hy=>(hao.raw y hy).Wh hi) (hao.dk.Wh hi))) ZJ rfl y9.1):P:=f ⟨h⟩
theorem Wq73(h:P:=by refine Z_4 ?_;refine Zy (cw (bb:=b66) (o:=0) (n:=i) (c:=i) (j:=nt) (sz:=1) (r:=nt) rfl Zrf (Zv rfl) (Zv rfl) (λ_=>hnt) Wq2 Wq1) ?_;refine dQ (bM Zrf (Zv rfl)) (dG Zh (jy Wq1)) rfl ?_;refine iJ ?_;refine Z_5 ?_;exact Wq11):P:=h
theorem Wq74(h:Q)(f:Zwr Q->P:=by intro y9;refine Zy (cw (j:=k) (sz:=1) (r:=k) rfl Zrf (Zv rfl) (Zv rfl) Wq2 Wq2 Wq1) ?_;exact eT (uw Zrf rfl rfl rfl Za Wq1) y9.1):P:=f ⟨h⟩
theorem Wq75(h:Q)(f:Zwr Q->P:=by intro y9;refine Z_5 ?_;refine Zy (mh (Zv rfl) (Zv rfl) Wq1 (show _=((va/64:Nat):Int)from by rw[Int.tdiv_eq_ediv_of_nonneg Wq1,u32_wrap_id _ Wq1 Wq1];omega)) ?_;refine ZA ?_;refine Zy (lJ (Zv rfl) (Zv rfl) Wq1 (show _=m/256 from shrE _ 8)) ?_;exact Z_4 y9.1):P:=f ⟨h⟩
theorem Wq76(h:Q)(f:Zwr Q->P:=by intro y9;refine Zy (mh (Zv rfl) (Zv rfl) Wq1 (show _=((va/64:Nat):Int)from by rw[Int.tdiv_eq_ediv_of_nonneg Wq1,u32_wrap_id _ Wq1 Wq1];omega)) ?_;refine ZA ?_;refine Zy (lJ (Zv rfl) (Zv rfl) Wq1 (show _=m/256 from shrE _ 8)) ?_;refine Z_4 ?_;exact ZM y9.1):P:=f ⟨h⟩
theorem Wq77(h:Q)(f:Zwr Q->P:=by intro y9;refine gP (Zdn [18]) [(0,0),(1,0),(2,0),(3,0),(4,0),(5,4),(6,0),(7,0),(8,0),(9,0),(10,4),(11,0),(12,0),(13,0),(14,0),(15,4),(16,2),(17,2),(18,2),(19,0)] Zk Zk ?_;refine m5 ?_;refine Uv ?_;refine dH rfl (cR 0 rfl (Zv rfl) ((cu ad (i*3) 0))) rfl ?_;exact kw rfl (bM Zrf Zv0) (di h (bZ BoR.V8 (i:=0) hla rfl)) rfl y9.1):P:=f ⟨h⟩
theorem jS(h:Q)(f:Zwr Q->P:=by intro y9;refine Z_4 ?_;exact Wq6 y9.1):P:=f ⟨h⟩
theorem Wq79(h:Q)(f:Zwr Q->P:=by intro y9;exact ZcS (enF be E) (λw hi hin=>HFi (some ⟨bq,p%64,none⟩) (64 - p%64) w hin (λw' hk=>cut64 (dx (hi.Xc Zi (Zhc (sl .u8 5 (sA bq) 64 64 D)) hk)) Wq1 hXl)) y9.1):P:=f ⟨h⟩
theorem Wq80(h:Q)(f:Zwr Q->P:=by intro y9;exact p6 rfl rfl (bS rfl rfl) rfl (bV (e:=3) (sz:=1) (bytes:=8) rfl rfl Za rfl rfl (λw hi=>hf.Wh hi) cN Wq9 Wq1) ZJ rfl y9.1):P:=f ⟨h⟩
theorem Wq81(h:Q)(f:Zwr Q->P:=by intro y9;refine dH rfl (cR 0 rfl (Zv rfl) ((cu ad (i*3) 0))) rfl ?_;refine kw rfl (bM Zrf Zv0) (di h (bZ BoR.V8 (i:=0) hla rfl)) rfl ?_;refine Uv ?_;refine dH rfl (cR 1 rfl (Zv rfl) ((cu ad (i*3) 1))) rfl ?_;exact kw rfl (bM Zrf Zv0) (di h (bZ BoR.V8 (i:=1) hla rfl)) rfl y9.1):P:=f ⟨h⟩
theorem Wq82(h:Q)(f:Zwr Q->P:=by intro y9;refine dH rfl (cR 1 rfl (Zv rfl) ((cu ad (i*3) 1))) rfl ?_;refine kw rfl (bM Zrf Zv0) (di h (bZ BoR.V8 (i:=1) hla rfl)) rfl ?_;refine Uv ?_;refine dH rfl (cR 2 rfl (Zv rfl) ((cu ad (i*3) 2))) rfl ?_;exact kw rfl (bM Zrf Zv0) (di h (bZ BoR.V8 (i:=2) hla rfl)) rfl y9.1):P:=f ⟨h⟩
theorem Wq83(h:Q)(f:Zwr Q->P:=by intro y9;refine bR (λx:Int=>x=0->(s.d.length:Int) - (ce op).1.1+(ce op).1.2<=16/\(s.r.length:Int) - (ce op).2.1+(ce op).2.2<=16) (λh=>by cases h) ?_;exact bR (λx:Int=>x=0->(s.d.length:Int) - (ce op).1.1+(ce op).1.2<=16/\(s.r.length:Int) - (ce op).2.1+(ce op).2.2<=16) (λh=>by cases h) y9.1):P:=f ⟨h⟩
theorem QO(h:P:=by first|exact IntWalk.u32_in _ ⟨by omega,by omega⟩|exact rfl):P:=h
theorem pX(h:Q)(f:Zwr Q->P:=by intro y9;exact cn rfl (rfl) y9.1):P:=f ⟨h⟩
theorem Wq86(h:Q)(f:Zwr Q->P:=by intro y9;exact m8 (cs':=[slv _ _ _ _ _ _,slv _ _ _ _ _ _,slv _ _ _ _ _ _,row _ _ _,exC _ _ _ _,row _ _ _,row _ _ _,row _ _ _,row _ _ _,row _ _ _,slv _ _ _ _ _ _,slv _ _ _ _ _ _,row _ _ _,slv _ _ _ _ _ _]) (.inl rfl) Zu rfl rfl Zh Zrf Zrf y9.1):P:=f ⟨h⟩
theorem Qh(h:Q)(f:Zwr Q->P:=by intro y9;exact ret3 (cs':=[]) (.inl rfl) Zu rfl rfl rfl rfl y9.1):P:=f ⟨h⟩
theorem LL(h:Q)(f:Zwr Q->P:=by intro y9;exact kw rfl (bM Zrf Zv0) (cB Zh rfl) rfl y9.1):P:=f ⟨h⟩
theorem Qg(h:P:=by refine Zrb ([slv _ _ _ _ _ _]) ?_;exact⟨_,_,rfl,rfl⟩):P:=h
theorem Wq90(h:P:=by refine eT (gx (ys:=my (kOf br bu D) X ((R.wd l).wt ⟨ca,ad⟩)) (n:=2) (vs:=[.i ca,.w ad]) rfl Zrf rfl rfl (mQ rfl) Za rfl (by simp only[aO,List.length_nil];omega)) ?_;rintro _ _ ⟨rfl,rfl⟩;refine Z_5 ?_;refine jD ?_;rintro _ _ ⟨b29,rfl,rfl⟩;exact Wq42):P:=h
theorem Ui(h:Q)(f:Zwr Q->P:=by intro y9;refine ZM ?_;refine Z_4 ?_;exact px (cs':=[]) (.inl rfl) Zu rfl rfl rfl Zh Zrf Zrf y9.1):P:=f ⟨h⟩
theorem Wq92(h:Q)(f:Zwr Q->P:=by intro y9;refine ZE 8 ?_;refine ZFf 9 1 ?_;refine wa_l 10 rfl Zk Zk Zk Zk (bQ rfl rfl) (bM Zrf (cA rfl)) (cB Zh rfl) rfl ?_;refine ZF 11 ?_;exact ZF 12 y9.1):P:=f ⟨h⟩
theorem Uh(h:Q)(f:Zwr Q->P:=by intro y9;refine QK rfl ?_;exact uX rfl rfl (cZ Zrf rfl rfl (mQ rfl) Za o6) ZJ y9.1):P:=f ⟨h⟩
theorem Wq94(h:Q)(f:Zwr Q->P:=by intro y9;refine Z_7 ?_;refine dQ (bM Zrf (Zv rfl)) (dr h1 (by rw[hA];rfl)) rfl ?_;refine ZA ?_;refine Zy (cC (j:=i) rfl Zrf (Zv rfl) (Zv rfl) Wq2 Wq2) ?_;exact dQ (bM Zrf Zv0) (dJ hr hp) rfl y9.1):P:=f ⟨h⟩
theorem Wq95(h:Q)(f:Zwr Q->P:=by intro y9;refine ZE 7 ?_;refine ZE 8 ?_;refine ZFf 9 1 ?_;refine wa_l 10 rfl Zk Zk Zk Zk (bQ rfl rfl) (bM Zrf (cA rfl)) (cB Zh rfl) rfl ?_;exact ZF 11 y9.1):P:=f ⟨h⟩
theorem lI(h:Q)(f:Zwr Q->P:=by intro y9;refine Z_5 ?_;exact Wq6 y9.1):P:=f ⟨h⟩
theorem Wq97(h:Q)(f:Zwr Q->P:=by intro y9;exact fy rfl rfl (cZ Zrf rfl rfl (mQ rfl) Za o6) (λ_=>by rintro _ _ ⟨rfl,rfl⟩;exact eh (bL (t:=27) Zh) (cE k' (λi v hi=>bZ ItR.V8 (i:=i) hy hi))) y9.1):P:=f ⟨h⟩
theorem Wq98(h:P:=by refine dR ?_;refine Z_2 ?_;refine bO (gL (kOf br bu D) X (R.wdv ⟨ca,ad⟩ (ca==0&&decide (32768<=p)))++uF bu bb L U') Zj ?_;refine AH (cs':=[row _ _ _,slv _ _ _ _ _ _,slv _ _ _ _ _ _,row _ _ _,exC _ _ _ _,row _ _ _]) (.inl rfl) Zu rfl rfl rfl ?_;rw[hc1];exact gr):P:=h
theorem Wq99(h:P:=by have ht1:p.target≠ -1:=(by simpa using hc28);obtain⟨nt,hnt,hnt2⟩:=htg ht1;have hm2:ib pl p.target=pl.getD nt 0:=(by unfold ib;rw[hc28,ai,hnt,aN]);exact Wq73):P:=h
theorem Wq100(h:Q)(f:Zwr Q->P:=by intro y9;refine fb ?_;exact wLo (λq:Nat×List HI=>[(6,.p b21),(70,.slice Af f9.length cf),(71,.i f9.length),(72,.i (q.1:Int))]) (λq=>[row b21 (ss (⟨b21,p,Q,pl,Ar,cr,As,c2⟩:CdS) q.2.length f9.length (⟨Al,cl,Af,cf⟩:CAd)) 339,hiC (⟨Al,cl,Af,cf⟩:CAd).Al (⟨Al,cl,Af,cf⟩:CAd).cl q.2,sl .i64 3 (⟨Al,cl,Af,cf⟩:CAd).Af f9.length (⟨Al,cl,Af,cf⟩:CAd).cf f9]) (λq=>q.1<=f9.length/\q.2.length=l9.length/\qy (IntKind.u32.wrap (l9.length:Int)) (f9.drop q.1) q.2=B9) (λq=>f9.length - q.1) (⟨0,l9⟩) bY y9.1):P:=f ⟨h⟩
theorem Wq101(h:Q)(f:Zwr Q->P:=by intro y9;rw[show(x::r).length+1=(x::r++[x]).length from by rw[aj];rfl,cj];refine cW 14 Zk ?_;exact VZ y9.1):P:=f ⟨h⟩
theorem yr(h:P:=by refine m8 (cs':=[]) (.inl rfl) Zu rfl rfl Zh Zrf Zrf ?_;exact gr):P:=h
theorem lD(h:Q)(f:Zwr Q->P:=by intro y9;exact Zy (cU rfl rfl Zv0 Zl) y9.1):P:=f ⟨h⟩
theorem EK(h:Q)(f:Zwr Q->P:=by intro y9;exact Zy (cC (j:=j) rfl Zrf (Zv rfl) (Zv rfl) Wq2 Wq2) y9.1):P:=f ⟨h⟩
theorem Wq105(h:Q)(f:Zwr Q->P:=by intro y9;refine Z_4 ?_;rw[rS,Hq,<-AL n (-1:Int) 0];refine eY [dD bp B ow (pr.set o n),jX b43 bp o b39 b41 n,frC b39 n (List.replicate 0 (-1)++List.replicate (n - 0) 0),gdC b41 n (List.replicate n false)] Zj ?_;refine Z_9 ?_;exact wLo (λk:Nat=>[(9,.p b43),(48,.i n),(49,.i (k:Int))]) (λk=>[dD bp B ow (pr.set o n),jX b43 bp o b39 b41 n,frC b39 n (List.replicate k (-1)++List.replicate (n - k) 0),gdC b41 n (List.replicate n false)]) (λk=>k<=n) (λk=>n - k) (0) (ap _) y9.1):P:=f ⟨h⟩
theorem EJ(h:Q)(f:Zwr Q->P:=by intro y9;refine Zy (jn (Zv rfl) (Zv rfl) (show _=false from hk2)) ?_;refine Z_2 ?_;exact kv y9.1):P:=f ⟨h⟩
theorem LB(h:Q)(f:Zwr Q->P:=by intro y9;refine ZSe (λw hi=>fis_ok o w) ?_;rw[aE (show(0:Int)<=o by omega),aE (show(o:Int)<4 by omega)];exact y9.1):P:=f ⟨h⟩
theorem Ve(h:Q)(f:Zwr Q->P:=by intro y9;refine ZI 0 ?_;refine nl 1 rfl Zk Zk Zk (bW Zrf Zrf Zv0) (λx hx=>dT x hx) (bL (t:=248) Zh) rfl ?_;exact cW 2 Zk y9.1):P:=f ⟨h⟩
theorem Vd(h:P:=by refine retCC (cs':=[exC _ _ _ _]) (.inl rfl) Zu rfl rfl rfl Zh Zh Zrf Zrf Zrf Zrf ?_;exact gr):P:=h
theorem LA(h:Q)(f:Zwr Q->P:=by intro y9;exact fy rfl rfl (mm Zrf rfl rfl rfl Za Zp) (λ_=>by rintro _ _ ⟨rfl,rfl⟩;exact bL (t:=328) Zh) y9.1):P:=f ⟨h⟩
theorem QD(h:Q)(f:Zwr Q->P:=by intro y9;refine io (bQ rfl rfl) rfl rfl ?_;exact io (bQ rfl rfl) rfl rfl y9.1):P:=f ⟨h⟩
theorem Wq112(h:Q)(f:Zwr Q->P:=by intro y9;refine Z_9 ?_;refine Zy (cw (j:=j) (sz:=4) (r:=j*4) rfl Zrf (Zv rfl) (Zv rfl) Wq2 Wq2 Wq1) ?_;refine Z_1 ?_;refine dQ (bM Zrf (Zv rfl)) (vu (Zhc (itM (sA bz) e3 T.length (mix F T j))) (bZ ItR.V8 (i:=2) hmx rfl)) rfl ?_;exact Z_3 y9.1):P:=f ⟨h⟩
theorem Vc(h:P:=by rintro _ _ ⟨rfl,rfl⟩;refine Jm ?_;refine Z_9 ?_;refine bO (tdF b1 be E) Zj ?_;refine LH (cs':=tdF b1 be E) (.inl rfl) (bh _) rfl rfl ?_;exact gr):P:=h
theorem EI(h:Q)(f:Zwr Q->P:=by intro y9;refine QK rfl ?_;exact uX rfl rfl (cZ Zrf rfl rfl (mY y) Za o6) ZJ y9.1):P:=f ⟨h⟩
theorem Wq115(h:P:=by rintro _ _ ⟨_,⟨rfl,rfl⟩,rfl⟩;refine ZE 20 ?_;refine ZE 21 ?_;refine dR ?_;refine Z_2 ?_;exact ru):P:=h
theorem QC(h:P:=by refine retTC (cs':=[row _ _ _,exC _ _ _ _,row _ _ _,slv _ _ _ _ _ _]) (.inl rfl) Zu rfl rfl rfl Zh Zrf Zrf ?_;exact⟨_,_,rfl,rfl⟩):P:=h
theorem Wq117(h:Q)(f:Zwr Q->P:=by intro y9;refine cW 14 Zk ?_;refine ZR ?_;refine dR ?_;refine Z_7 ?_;exact eT (gx (ys:=my (kOf br bu D) X (R.wt ⟨ca,ad⟩)) (n:=2) (vs:=[.i ca,.w ad]) rfl Zrf rfl rfl (mQ rfl) Za rfl (by simp only[aO,List.length_nil];omega)) y9.1):P:=f ⟨h⟩
theorem Wq118(h:P:=by refine fF (bS rfl rfl) rfl (dh rfl (λ_ _=>rfl) (λw hi=>lU w (ht.old hi))) rfl ?_;rintro _ _ ⟨_,⟨rfl,rfl⟩,rfl⟩;refine Z_6 ?_;exact ru):P:=h
theorem kU(h:Q)(f:Zwr Q->P:=by intro y9;refine ZE 5 ?_;exact ZE 6 y9.1):P:=f ⟨h⟩
theorem Ca(h:Q)(f:Zwr Q->P:=by intro y9;refine ZG 3 ?_;refine ZE 4 ?_;exact ZE 5 y9.1):P:=f ⟨h⟩
theorem Wq121(h:P:=by refine fy rfl rfl (ij Zrf rfl rfl rfl Za (by simp[ints,hR];omega)) ZJ ?_;rintro _ _ ⟨rfl,rfl⟩;rw[hm_setr hR Wq1];refine dR ?_;refine Z_8 ?_;exact Wq16):P:=h
theorem iX(h:Q)(f:Zwr Q->P:=by intro y9;refine Z_3 ?_;exact kv y9.1):P:=f ⟨h⟩
theorem pe(h:P:=by exact λ_=>by first|rfl|omega):P:=h
theorem Wq124(h:Q)(f:Zwr Q->P:=by intro y9;refine Z_7 ?_;exact ZcL (lwF b N ⟨C2,s2,L.r,L.flags,L.target,L.branch⟩ ⟨A2,c2,X.Ad,X.cd,X.Ar,X.cr⟩) (λw hi hin=>uI b N ⟨C2,s2,L.r,L.flags,L.target,L.branch⟩ ⟨A2,c2,X.Ad,X.cd,X.Ar,X.cr⟩ ((i9 hs hC2 hs2 _ _ _).mono Wq1) w hin) y9.1):P:=f ⟨h⟩
theorem Wq125(h:Q)(f:Zwr Q->P:=by intro y9;refine Zy (lJ (Zv rfl) (Zv rfl) Wq1 (show _=((va/1024:Nat):Int)from(shrE _ 10).trans Wq1)) ?_;refine Zy (sN (Zv rfl) (Zv rfl) (show _=((va/1024%16:Nat):Int)from(Qc ⟨by omega,by omega⟩).trans Wq1)) ?_;refine Zy (jF (Zv rfl) (Zv rfl) (show _=((4*(va/1024%16):Nat):Int)from(u32_wrap_id _ Wq1 Wq1).trans Wq1)) ?_;refine Zy (cU rfl rfl (Zv rfl) UL) ?_;exact Zy (eK (Zv rfl) (Zv rfl) (show _=((at1 root va:Nat):Int)from(u64_wrap_id _ Wq1 Wq1).trans (by unfold at1;omega))) y9.1):P:=f ⟨h⟩
theorem iC(h:Q)(f:Zwr Q->P:=by intro y9;refine ZM ?_;exact Z_3 y9.1):P:=f ⟨h⟩
theorem Wq127(h:P:=by rintro _ _ ⟨b117,rfl,rfl⟩;refine Wq17 ?_;rintro _ _ ⟨_,⟨⟨q2,rfl,hq2⟩,rfl⟩,rfl⟩;obtain rfl:q2=false:=Wq55;refine Wq60 ?_;exact Wq115):P:=h
theorem un(h:Q)(f:Zwr Q->P:=by intro y9;refine ZE 9 ?_;refine ZE 10 ?_;exact ZE 11 y9.1):P:=f ⟨h⟩
theorem xE(h:Q)(f:Zwr Q->P:=by intro y9;exact Zrb ([row _ _ _,slv _ _ _ _ _ _,slv _ _ _ _ _ _]) y9.1):P:=f ⟨h⟩
theorem kj(h:Q)(f:Zwr Q->P:=by intro y9;refine cW 6 Zk ?_;exact Wq3 y9.1):P:=f ⟨h⟩
theorem ki(h:Q)(f:Zwr Q->P:=by intro y9;refine cW 7 Zk ?_;exact Wq3 y9.1):P:=f ⟨h⟩
theorem GL(h:Q)(f:Zwr Q->P:=by intro y9;refine QK rfl ?_;exact jG rfl rfl (gZ rfl rfl Zrf Zrf rfl rfl rfl) ZJ rfl y9.1):P:=f ⟨h⟩
theorem Lz(h:Q)(f:Zwr Q->P:=by intro y9;refine cW 16 Zk ?_;exact fy rfl rfl (cZ (vs:=te.cells) Zrf rfl rfl (mQ rfl) Za o6) ZJ y9.1):P:=f ⟨h⟩
theorem Ly(h:Q)(f:Zwr Q->P:=by intro y9;refine cW 17 Zk ?_;exact fy rfl rfl (cZ (vs:=tr.cells) Zrf rfl rfl (mQ rfl) Za o6) ZJ y9.1):P:=f ⟨h⟩
theorem EH(h:Q)(f:Zwr Q->P:=by intro y9;refine QK rfl ?_;exact uX rfl rfl (mm Zrf rfl rfl rfl Za Zp) ZJ y9.1):P:=f ⟨h⟩
theorem Wq136(h:Q)(f:Zwr Q->P:=by intro y9;refine Zy (cU rfl rfl (Zv rfl) (by first|exact IntWalk.u8_in _ ⟨by omega,by omega⟩|exact rfl)) ?_;refine Z_2 ?_;refine Zy (cU rfl rfl (Zv rfl) (by first|exact IntWalk.u8_in _ ⟨by omega,by omega⟩|exact rfl)) ?_;exact Z_2 y9.1):P:=f ⟨h⟩
theorem Wq137(h:Q)(f:Zwr Q->P:=by intro y9;refine bR (λx:Int=>x=0->(ce op).1.1<=s.d.length/\(ce op).2.1<=s.r.length) (λh=>by cases h) ?_;exact bR (λx:Int=>x=0->(ce op).1.1<=s.d.length/\(ce op).2.1<=s.r.length) (λh=>by cases h) y9.1):P:=f ⟨h⟩
theorem GK(h:P:=by rintro _ _ ⟨_,⟨A',c',rfl,rfl⟩,rfl⟩;refine Z_9 ?_;exact Qw):P:=h
theorem yq(h:P:=by rw[ax,aD];omega):P:=h
theorem Wq140(h:P:=by refine dR ?_;refine Z_3 ?_;refine bO (row b8 (s.cells (.slice X.Ad s.d.length X.cd) (.slice X.Ar s.r.length X.cr)) 53::row b9 (RS.cells ⟨xr,A2,c2⟩) 248::tF bu bb L s X U be E2) Zj ?_;refine yN (cs':=tF bu bb L s X U be E2) (.inl rfl) (List.Sublist.cons _ (List.Sublist.cons _ (bh _))) rfl rfl rfl rfl Zh Zh Zrf Zrf Zrf Zrf ?_;rw[hTn];exact⟨E2,hE2,hEe,X,⟨xr,A2,c2⟩,rfl,rfl⟩):P:=h
theorem Wq141(h:Q)(f:Zwr Q->P:=by intro y9;refine dQ (bW (vs:=q.s.cells (.slice X1.Ad q.s.d.length X1.cd) (.slice X1.Ar q.s.r.length X1.cr)) Zrf Zrf Zv0) (cX Zh rfl) rfl ?_;refine ZM ?_;refine Z_6 ?_;refine Zy (cU rfl rfl (Zv rfl) (u32_wrap_id _ (by show 0<=(z:Int);omega) (by show(z:Int)<4294967296;omega))) ?_;exact Zy (eK (Zv rfl) (Zv rfl) (show _=(((p+z)%4294967296:Nat):Int)from by show IntKind.u32.wrap ((p:Int)+(z:Int))=_;rw[aG];omega)) y9.1):P:=f ⟨h⟩
theorem sI(h:P:=by simp only[kH, *,ai,ah]):P:=h
theorem gW(h:P:=by simp;omega):P:=h
theorem Vb(h:P:=by simp[Builtin.delete_,run_underlying hT,MapKept.run_getObj_map hb,hK.K.check w _ hlq,h2,MapKept.run_setObj_map _ hb,Result.andThen,setBlock]):P:=h
theorem Va(h:Q)(f:Zwr Q->P:=by intro y9;refine ng ?_;exact Zy (i5 (Zv rfl) (Zv rfl) (show _=(l.length:Int)from by rw[hlen];exact bD _ ⟨by omega,by omega⟩|>.trans Wq1)) y9.1):P:=f ⟨h⟩
theorem ul(h:P:=by simp only[jR,Ub, *,ai,ah]):P:=h
theorem sH(h:P:=by simp only[cF, *,ai,ah]):P:=h
theorem Wq148(h:P:=by refine Z_2 ?_;refine Zy (jm (Zv rfl) (Zv rfl) Wq1 (show _=((v%40:Nat):Int)from by rw[aW Wq1];omega)) ?_;refine Zy (eK (Zv rfl) (Zv rfl) (show _=((v%40+240:Nat):Int)from by rw[u32_wrap_id _ Wq1 Wq1];omega)) ?_;refine Zy (jm (Zv rfl) (Zv rfl) Wq1 (show _=(((v%40+240)%256:Nat):Int)from by rw[aW Wq1];omega)) ?_;refine iJ ?_;exact Wq54):P:=h
theorem Wq149(h:Q)(f:Zwr Q->P:=by intro y9;refine Wq77 ?_;refine Uv ?_;refine dH rfl (cR 1 rfl (Zv rfl) ((cu ad (i*3) 1))) rfl ?_;refine kw rfl (bM Zrf Zv0) (di h (bZ BoR.V8 (i:=1) hla rfl)) rfl ?_;exact Wq72 y9.1):P:=f ⟨h⟩
theorem Wq150(h:Q)(f:Zwr Q->P:=by intro y9;refine Z_4 ?_;refine Wq77 ?_;refine Uv ?_;refine dH rfl (cR 1 rfl (Zv rfl) ((cu ad (i*3) 1))) rfl ?_;exact kw rfl (bM Zrf Zv0) (di h (bZ BoR.V8 (i:=1) hla rfl)) rfl y9.1):P:=f ⟨h⟩
theorem ri(h:P:=by rw[aD];omega):P:=h
theorem Wq152(h:P:=by refine Z_6 ?_;refine iC ?_;refine kD ?_;refine bO (row b4 (Ou.cells ⟨0,gj,0⟩ xZ) 107::bP []::FM bm bp ad c gn ps P' ((gs.set i g').flatMap MG.cs)) Zj ?_;exact Wq50):P:=h
theorem Lx(h:Q)(f:Zwr Q->P:=by intro y9;exact eu 3 rfl Zk Zk Zk (bM Zrf Zv0) (dg rfl) (bL (t:=347) Zh) rfl y9.1):P:=f ⟨h⟩
theorem EG(h:Q)(f:Zwr Q->P:=by intro y9;exact uX rfl rfl (cZ Zrf rfl rfl (nE x) Za o6) ZJ y9.1):P:=f ⟨h⟩
theorem Wq155(h:P:=by refine ZE 4 ?_;refine dR ?_;refine Z_3 ?_;refine bO (row b6 (BA.cells y) 242::row b7 (RS.cells x2) 248::baC y::enF be E) Zj ?_;refine yN (cs':=baC y::enF be E) (.inl rfl) (List.Sublist.cons _ (List.Sublist.cons _ (bh _))) rfl rfl rfl rfl Zh Zh Zrf Zrf Zrf Zrf ?_;exact⟨E,hE,by rw[hfn],by rw[hfn];exact⟨y,x2,rfl,rfl,λ_ _ e=>nomatch e⟩⟩):P:=h
theorem Wq156(h:Q)(f:Zwr Q->P:=by intro y9;refine ZE 4 ?_;refine ZFe 5 3 ?_;refine eu 6 rfl Zk Zk Zk (bM Zrf Zv0) (dg rfl) (bL (t:=343) Zh) rfl ?_;refine cW 3 Zk ?_;exact gX rfl rfl (dN (cdF S l1 fix X1) rfl (λ_ _=>rfl) Zi (λw hi hin=>BO S l1 fix X1 bY na 7 h1 h2 w hin (λw' hk=>hK w' (hi.WU Zi hk)))) (λ_=>by rintro _ _ ⟨_,⟨rfl,l2,X2,hl2,rfl⟩,rfl⟩;exact bL (t:=343) Zh) rfl y9.1):P:=f ⟨h⟩
theorem jU(h:Q)(f:Zwr Q->P:=by intro y9;refine dR ?_;exact Z_2 y9.1):P:=f ⟨h⟩
theorem U8(h:Q)(f:Zwr Q->P:=by intro y9;exact fo (bV (e:=5) (sz:=1) (bytes:=1) rfl rfl Za rfl rfl (λw hi=>hi.rd (Zhc (sl .u8 5 A2 E.length c2 E))) cN Wq9 Wq1) rfl y9.1):P:=f ⟨h⟩
theorem Wq159(h:Q)(f:Zwr Q->P:=by intro y9;refine Z_5 ?_;exact ZcL (cdF S l5 fix X5) (λw hi hin=>Gp S l5 fix X5 (by first|omega|(simp only[hs,hb,hl1,hl2,hl3,hl4,hl5,aj,aO,List.length_nil];omega)) 11 2 w hin) y9.1):P:=f ⟨h⟩
theorem Wq160(h:P:=by refine ZcA (lwF b N ⟨code,d,⟨[],Wi+1,high⟩,fl,tg,br⟩ X) (λw hi hin=>wn b N ⟨code,d,⟨[],Wi+1,high⟩,fl,tg,br⟩ X hs2 2 0 0 0 (IntKind.u32.wrap Wi) w hin) ?_;rintro _ _ ⟨_,⟨rfl,C2,A2,c2,hC2,rfl⟩,rfl⟩;refine ZE 13 ?_;refine jU ?_;refine Zrb (lwF b N ⟨C2,d,⟨[],Wi+1,high⟩,fl,tg,br⟩ ⟨A2,c2,X.Ad,X.cd,X.Ar,X.cr⟩) ?_;exact⟨rfl,C2,A2,c2,hC2,rfl⟩):P:=h
theorem Wq161(h:P:=by refine ZcA (lwF b N ⟨code,⟨[],Wi+1,high⟩,r,fl,tg,br⟩ X) (λw hi hin=>wn b N ⟨code,⟨[],Wi+1,high⟩,r,fl,tg,br⟩ X hs2 1 0 0 0 (IntKind.u32.wrap Wi) w hin) ?_;rintro _ _ ⟨_,⟨rfl,C2,A2,c2,hC2,rfl⟩,rfl⟩;refine ZE 13 ?_;refine jU ?_;refine Zrb (lwF b N ⟨C2,⟨[],Wi+1,high⟩,r,fl,tg,br⟩ ⟨A2,c2,X.Ad,X.cd,X.Ar,X.cr⟩) ?_;exact⟨rfl,C2,A2,c2,hC2,rfl⟩):P:=h
theorem pS(h:Q)(f:Zwr Q->P:=by intro y9;refine pP ?_;exact ZE 2 y9.1):P:=f ⟨h⟩
theorem oq(h:Q)(f:Zwr Q->P:=by intro y9;exact Zy (cU rfl rfl Zv0 rfl) y9.1):P:=f ⟨h⟩
theorem Wq164(h:P:=by rw[Nat.zero_add,aR];have hxl9:(x::r).length+1=(x::r++[x]).length:=(by rw[aj];rfl);refine Wq44 ?_;rintro _ _ ⟨A10,c10,rfl,rfl⟩;refine Wq101 ?_;exact Wq127):P:=h
theorem Wq165(h:Q)(f:Zwr Q->P:=by intro y9;refine bR (λq:Bool×Mem×Dev=>q.2.2.lines) ⟨h.mask⟩ ?_;refine bR (λq:Bool×Mem×Dev=>q.2.2.lines) ⟨h.mask⟩ ?_;exact bR (λq:Bool×Mem×Dev=>q.2.2.lines) ⟨h.mask⟩ y9.1):P:=f ⟨h⟩
theorem uk(h:P:=by simp only[St.get, *,ai,ah]):P:=h
theorem jj(h:Q)(f:Zwr Q->P:=by intro y9;refine ZM ?_;exact Z_6 y9.1):P:=f ⟨h⟩
theorem Wq168(h:Q)(f:Zwr Q->P:=by intro y9;refine Z_3 ?_;refine ZcM (gL K X (R.wd ((l++[x])++[y]))) (λw hi hin=>ph K X R (l++[x]) y w hin) ?_;refine ZA ?_;exact ZcM (gL K X (R.wd (l++[x]))) (λw hi hin=>ph K X R l x w hin) y9.1):P:=f ⟨h⟩
theorem Wq169(h:Q)(f:Zwr Q->P:=by intro y9;refine io (bS rfl rfl) hg0 rfl ?_;refine io (bS rfl rfl) hg0 rfl ?_;exact io (bS rfl rfl) hg0 rfl y9.1):P:=f ⟨h⟩
theorem lc(h:P:=by refine mf ?_;exact gr):P:=h
theorem Wq171(h:Q)(f:Zwr Q->P:=by intro y9;exact jG rfl rfl (dh rfl (λ_ _=>rfl) (λw hi=>sS true A3 c3 L B3 e3 (T2.take k) him3 (λx hx=>hm2 x (aB hx)) w (hi.rd (Zhc (imC A3 c3 L))) (hI.rd w (λa ha=>(hl a ha).dk.Wh hi) (hi.get (Zhc (bP J)))) (AM ItR.V8 (hi.rd (Zhc (iU B3 e3 T2))) k) (λx hx=>(hr2 x (aB hx)).Wh hi) (ht.old hi))) ZJ rfl y9.1):P:=f ⟨h⟩
theorem EF(h:Q)(f:Zwr Q->P:=by intro y9;exact uY rfl (bM Zrf Zv0) (cB Zh rfl) rfl y9.1):P:=f ⟨h⟩
theorem QB(h:Q)(f:Zwr Q->P:=by intro y9;refine m5 ?_;refine V0 ?_;exact dH rfl (oz Zv0 (.succ _ (.succ _ (.zero _ _)))) rfl y9.1):P:=f ⟨h⟩
theorem QA(h:P:=by simp only[kX,bn,beq_iff_eq]at hcc;rw[aV];omega):P:=h
theorem Wq175(h:Q)(f:Zwr Q->P:=by intro y9;refine gR 10 rfl Zk Zk Zk (cU rfl rfl (Zv rfl) (show _=IntKind.u32.wrap (l9.length:Int)from by rw[hml])) rfl ?_;refine gR 11 rfl Zk Zk Zk (cw (bb:=ba) (o:=0) (n:=m.length) (c:=cl) (j:=n) (sz:=5) (r:=n*5) rfl Zrf (Zv rfl) (Zv rfl) Zrf Wq2 Wq1) rfl ?_;refine ZFe 12 4 ?_;refine cW 13 Zk ?_;exact fy rfl rfl (uv Zrf rfl rfl rfl Za Wq1) ZJ y9.1):P:=f ⟨h⟩
theorem U7(h:Q)(f:Zwr Q->P:=by intro y9;refine zL ?_;refine gR 9 rfl Zk Zk Zk (i5 Zv0 Zv0 hwr) rfl ?_;exact gR 10 rfl Zk Zk Zk (cU rfl rfl Zv0 rfl) rfl y9.1):P:=f ⟨h⟩
theorem Wq177(h:P:=by rintro _ _ ⟨rfl,rfl⟩;refine i6 ?_;refine Z_2 ?_;refine bO (row b8 (s9.cells (.slice X3.Ad s9.d.length X3.cd) (.slice X3.Ar s9.r.length X3.cr)) 53::egF be bu bb L D s9 X3 Y3 U9 d9 E3) Zj ?_;refine m8 (cs':=(egF be bu bb L D s9 X3 Y3 U9 d9 E3)) (.inl rfl) Zu rfl rfl Zh Zrf Zrf ?_;exact⟨X3,Y3,E3,hE3,hEe3,rfl,rfl⟩):P:=h
theorem U6(h:Q)(f:Zwr Q->P:=by intro y9;refine ZE 10 ?_;refine ZFe 11 0 ?_;refine cW 12 Zk ?_;refine ZQ ?_;exact dR y9.1):P:=f ⟨h⟩
theorem EE(h:Q)(f:Zwr Q->P:=by intro y9;exact Zy (cC (j:=i) rfl Zrf (Zv rfl) (Zv rfl) Wq2 Wq2) y9.1):P:=f ⟨h⟩
theorem xD(h:P:=by simp only[St.set, *,ai,ah]):P:=h
theorem Wq181(h:Q)(f:Zwr Q->P:=by intro y9;refine ZSe (λw hi=>Ho L M a 1 Wq1 Wq1 w (his _ _ w hi)) ?_;rw[aE (show a+1<=L.n*64 by omega)];refine iX ?_;refine Z_5 ?_;exact ZSe (λw hi=>z8 a Wq1 w) y9.1):P:=f ⟨h⟩
theorem Qz(h:Q)(f:Zwr Q->P:=by intro y9;refine dH rfl (Jr Zv0) rfl ?_;exact dH rfl (eH 0 rfl Zv0 Zf) rfl y9.1):P:=f ⟨h⟩
theorem Wq183(h:Q)(f:Zwr Q->P:=by intro y9;exact dQ (bW (vs:=[.i op,.i dst,.i xa,.i xb,.w imm]) Zrf Zrf Zv0) (cE hrc2 (λj v hj=>bZ (f:=II.cells) Zrf (i:=j) hx hj)) rfl y9.1):P:=f ⟨h⟩
theorem jC(h:Q)(f:Zwr Q->P:=by intro y9;refine ZM ?_;exact Z_4 y9.1):P:=f ⟨h⟩
theorem U5(h:Q)(f:Zwr Q->P:=by intro y9;refine Z_3 ?_;exact ZcM (gL (kOf br bu D) X (R.wd (l++[(va:Int)]))) (λw hi hin=>ph (kOf br bu D) X R l va w hin) y9.1):P:=f ⟨h⟩
theorem Wq186(h:Q)(f:Zwr Q->P:=by intro y9;refine ZFe 11 0 ?_;refine cW 12 Zk ?_;refine ZQ ?_;refine dR ?_;exact Zo y9.1):P:=f ⟨h⟩
theorem Lv(h:Q)(f:Zwr Q->P:=by intro y9;exact ZcL (lwF b N L X) (λw hi hin=>uI b N L X (hs.mono Wq1) w hin) y9.1):P:=f ⟨h⟩
theorem Wq188(h:Q)(f:Zwr Q->P:=by intro y9;refine gR 6 rfl Zk Zk Zk (cw (j:=j) (sz:=4) (r:=j*4) rfl Zrf (Zv rfl) (Zv rfl) Wq2 Wq2 Wq1) rfl ?_;refine ZFe 7 2 ?_;refine po 8 rfl Zk Zk Zk Zk (bM Zrf (Zv rfl)) (vu (Zhc (itM (sA bz) e3 T.length (mix F T j))) (bZ ItR.V8 (i:=2) hmx rfl)) rfl ?_;refine cW 9 Zk ?_;exact ZT (λw hi=>HW w) y9.1):P:=f ⟨h⟩
theorem xC(h:Q)(f:Zwr Q->P:=by intro y9;exact Zy (cU rfl rfl (Zv rfl) UL) y9.1):P:=f ⟨h⟩
theorem U4(h:Q)(f:Zwr Q->P:=by intro y9;refine ZE 2 ?_;refine ZFe 4 2 ?_;refine ZG 5 ?_;refine gR 6 rfl Zk Zk Zk (Jt Zv0 Zv0 rfl) rfl ?_;exact cW 3 Zk y9.1):P:=f ⟨h⟩
theorem Wq191(h:Q)(f:Zwr Q->P:=by intro y9;exact ZcL (cdF (⟨b21,p,Q,pl,Ar,cr,As,c2⟩:CdS) m f9 ⟨Al,cl,Af,cf⟩) (λw hi hin=>lB (⟨b21,p,Q,pl,Ar,cr,As,c2⟩:CdS) m f9 ⟨Al,cl,Af,cf⟩ Wq1 [⟨19,0,0,0,2⟩] (sA b92) 1 cP w hin (λw' hk=>dx (hi.Xc Zi (Zhc (slv 347 5 (sA b92) 1 1 ([⟨19,0,0,0,2⟩].flatMap HI.cells))) hk))) y9.1):P:=f ⟨h⟩
theorem GJ(h:Q)(f:Zwr Q->P:=by intro y9;refine ZSe (λw hi=>AV _ w) ?_;refine Z_6 ?_;exact Qh y9.1):P:=f ⟨h⟩
theorem pR(h:Q)(f:Zwr Q->P:=by intro y9;exact Zy (eK Zv0 Zv0 rfl) y9.1):P:=f ⟨h⟩
theorem Wq194(h:Q)(f:Zwr Q->P:=by intro y9;refine QK rfl ?_;exact jG rfl rfl (bV (e:=5) (sz:=1) (bytes:=1) rfl rfl Za rfl rfl (λw hi=>hi.rd (Zhc (sl .u8 5 A2 E.length c2 E))) cN Wq9 Wq1) ZJ rfl y9.1):P:=f ⟨h⟩
theorem Qy(h:P:=by exact⟨(jV.refl w).nd,(jV.refl w).nr,(jV.refl w).hd,(jV.refl w).hr⟩):P:=h
theorem BZ(h:Q)(f:Zwr Q->P:=by intro y9;exact ZcA (uF bu bb L U) (λw hi hin=>HP w hin) y9.1):P:=f ⟨h⟩
theorem Wq197(h:Q)(f:Zwr Q->P:=by intro y9;refine po 3 rfl Zk Zk Zk Zk (bM Zrf (Zv rfl)) (dJ h (mE (show k<xs.length by omega))) rfl ?_;refine ZE 4 ?_;refine ZE 5 ?_;refine gR 6 rfl Zk Zk Zk (cC rfl Zrf (Zv rfl) (Zv rfl) Zrf Wq2) rfl ?_;exact po 7 rfl Zk Zk Zk Zk (bM Zrf (Zv rfl)) (dJ h2 (mE (show k<ys.length by omega))) rfl y9.1):P:=f ⟨h⟩
theorem UZ(h:Q)(f:Zwr Q->P:=by intro y9;exact p6 rfl rfl (bS rfl rfl) rfl (dh rfl (λ_ _=>rfl) (λw hi=>lU w (ht.old hi))) ZJ rfl y9.1):P:=f ⟨h⟩
theorem Wq199(h:Q)(f:Zwr Q->P:=by intro y9;refine gR 4 rfl Zk Zk Zk (cU rfl rfl Zv0 (sx _)) rfl ?_;refine ZFe 7 3 ?_;refine eu 8 rfl Zk Zk Zk (bM Zrf Zv0) (dg rfl) (bL (t:=41) Zh) rfl ?_;refine cW 5 Zk ?_;exact gX rfl rfl (ff rfl rfl Zrf Zrf rfl rfl) (λ_=>by rintro _ _ ⟨b90,rfl,rfl⟩;exact bL (t:=41) Zh) rfl y9.1):P:=f ⟨h⟩
theorem Wq200(h:Q)(f:Zwr Q->P:=by intro y9;refine Zy (dz (j:=(a/64)) (sz:=1) (r:=2+a/64) rfl Zrf (Zv rfl) (Zv rfl) Wq2 Wq2 Wq1) ?_;exact eT (ij Zrf rfl rfl rfl Za (by rw[nN htl];omega)) y9.1):P:=f ⟨h⟩
theorem Wq201(h:Q)(f:Zwr Q->P:=by intro y9;refine po 6 rfl Zk Zk Zk Zk (bM Zrf Zv0) (cB Zh (Tc hR)) rfl ?_;refine ZE 7 ?_;refine gR 8 rfl Zk Zk Zk (cC (j:=pl) rfl Zrf (Zv rfl) (Zv rfl) Wq2 Wq2) rfl ?_;refine po 9 rfl Zk Zk Zk Zk (bM Zrf Zv0) (vx Zh (cK hxw)) rfl ?_;exact gR 10 rfl Zk Zk Zk (cU rfl rfl (Zv rfl) UL) rfl y9.1):P:=f ⟨h⟩
theorem Wq202(h:Q)(f:Zwr Q->P:=by intro y9;refine jl ?_;refine Zyy rfl rfl (i5 (cA rfl) (cA rfl) rfl) ?_;refine ZB ?_;refine Zyy rfl rfl (cU rfl rfl (cA rfl) (show _=(bif decide (0<m)then m else IntKind.u64.wrap m)from by cases hd:decide (0<m)with|false=>rfl|true=>(rw[ai,aU];simp only[ac]at hd;omega))) ?_;exact Z_4 y9.1):P:=f ⟨h⟩
theorem UY(h:Q)(f:Zwr Q->P:=by intro y9;exact Zy (jm (Zv rfl) (Zv rfl) Wq1 (show _=((v%256:Nat):Int)from by rw[aW Wq1];omega)) y9.1):P:=f ⟨h⟩
theorem UX(h:P:=by have hm2:ib pl p.target=p.target:=(by unfold ib;rw[hc28,ah]);refine Z_5 ?_;exact Wq11):P:=h
theorem Wq205(h:P:=by refine Z_8 ?_;refine ZS (λw hi=>hJ X10.Al X10.cl w (dx (hi.get (Zhc (hiC X10.Al X10.cl l10))))) ?_;rintro _ _ ⟨_,⟨A7,c7,rfl,rfl⟩,rfl⟩;refine Z_7 ?_;refine AH (cs':=[sl .u8 5 A7 (cI l10).length c7 (cI l10)]) (.inl rfl) Zu rfl rfl rfl ?_;exact⟨A7,c7,rfl,rfl⟩):P:=h
theorem la(h:P:=by assumption):P:=h
theorem kT(h:P:=by kernel_rfl):P:=h
theorem Wq208(h:Q)(f:Zwr Q->P:=by intro y9;refine Zy (ii (j:=n) hag rfl Zrf Zv0 Zv0 Zrf (λ_=>hn)) ?_;exact dQ (bM Zrf Zv0) (oH (v:= .i (S.pl.r n)) hreg (jy hn)) rfl y9.1):P:=f ⟨h⟩
theorem ED(h:P:=by simp only[JE,yV, *,ai,ah]):P:=h
theorem UW(h:Q)(f:Zwr Q->P:=by intro y9;exact bR (Cb s) ⟨⟨h.pc,h.flags,h.root,h.vec,h.epc,h.Wg,h.addr,h.count,h.d,h.r⟩,hf,rfl⟩ y9.1):P:=f ⟨h⟩
theorem UV(h:Q)(f:Zwr Q->P:=by intro y9;exact fo (iO ([Y r]) rfl rfl HF Zi (λw hi hin=>HC r x w hrk (ak hx) hin)) rfl y9.1):P:=f ⟨h⟩
theorem Wq212(h:Q)(f:Zwr Q->P:=by intro y9;refine EK ?_;exact dQ (bW (vs:=ItR.cells ⟨kd,g,n,xA,xc,xb⟩) Zrf Zrf Zv0) (cE k (λi v hi=>bZ ItR.V8 (i:=i) hx hi)) rfl y9.1):P:=f ⟨h⟩
theorem UU(h:Q)(f:Zwr Q->P:=by intro y9;refine ZFa 16640 ?_;exact Zy (dz (j:=o) (sz:=1) (r:=16640+o) rfl Zrf (Zv rfl) (Zv rfl) Wq2 Wq2 Wq1) y9.1):P:=f ⟨h⟩
theorem US(h:P:=by rintro _ _ ⟨_,⟨rfl,rfl⟩,rfl⟩;refine Z_5 ?_;exact ru):P:=h
theorem GI(h:P:=by refine gm ?_;exact⟨by unfold tp;grind,rfl⟩):P:=h
theorem Wq216(h:P:=by rintro v cs ⟨P',g',⟨⟨h1,h2⟩,h3,h4,h5⟩,h6⟩;exact⟨P',g',⟨⟨h1,(VY h3 (h4.trans hd.symm) h2).trans rfl⟩,h3,h5⟩,h6⟩):P:=h
theorem Wq217(h:Q)(f:Zwr Q->P:=by intro y9;refine gR 2 rfl Zk Zk Zk (cC rfl Zrf (Zv rfl) (Zv rfl) Zrf Wq2) rfl ?_;refine po 3 rfl Zk Zk Zk Zk (bM Zrf (Zv rfl)) (dJ h (mE (show k<xs.length by omega))) rfl ?_;refine ZE 4 ?_;refine ZE 5 ?_;exact gR 6 rfl Zk Zk Zk (cC rfl Zrf (Zv rfl) (Zv rfl) Zrf Wq2) rfl y9.1):P:=f ⟨h⟩
theorem kS(h:P:=by simp_all):P:=h
theorem BY(h:P:=by simp only[zj, *,ai,ah]):P:=h
theorem GH(h:Q)(f:Zwr Q->P:=by intro y9;exact Zy (lK (Zv rfl) (Zv rfl) (bj _)) y9.1):P:=f ⟨h⟩
theorem lC(h:Q)(f:Zwr Q->P:=by intro y9;refine Z_9 ?_;exact Zra y9.1):P:=f ⟨h⟩
theorem UR(h:Q)(f:Zwr Q->P:=by intro y9;refine Z_3 ?_;exact ZcM (gL (kOf br bu D) X r) (λw hi hin=>BC (kOf br bu D) X r 10 va w hin) y9.1):P:=f ⟨h⟩
theorem Wq223(h:Q)(f:Zwr Q->P:=by intro y9;refine po 9 rfl Zk Zk Zk Zk (bM Zrf Zv0) (vx Zh (cK hxw)) rfl ?_;refine gR 10 rfl Zk Zk Zk (cU rfl rfl (Zv rfl) UL) rfl ?_;refine ZE 11 ?_;refine ZFe 12 0 ?_;exact gR 13 rfl Zk Zk Zk (dz (j:=rd) (sz:=1) (r:=rd) rfl Zrf (Zv rfl) (Zv rfl) Wq2 Wq2 Wq1) rfl y9.1):P:=f ⟨h⟩
theorem jT(h:P:=by cases hx):P:=h
theorem Wq225(h:Q)(f:Zwr Q->P:=by intro y9;refine gq ?_;rw[aF (show¬(p:Int)<0 by omega)];refine Z_5 ?_;refine gQ (bQ rfl rfl) (bM Zrf (cA rfl)) (dr la rfl) rfl ?_;exact fF (bQ rfl rfl) rfl (dh rfl (λ_ _=>rfl) (λw hi=>AX L.bt L.bp L.o L.bf L.bg L.n w (bJ.old h2 hi))) rfl y9.1):P:=f ⟨h⟩
theorem kZ(h:Q)(f:Zwr Q->P:=by intro y9;refine Z_2 ?_;exact ZL y9.1):P:=f ⟨h⟩
theorem UQ(h:Q)(f:Zwr Q->P:=by intro y9;refine Z_3 ?_;refine Zy (jn (Zv rfl) (Zv rfl) (show _=true from hk2)) ?_;refine Z_2 ?_;exact pX y9.1):P:=f ⟨h⟩
theorem Wq228(h:P:=by refine iC ?_;refine m8 (cs':=[slv _ _ _ _ _ _,slv _ _ _ _ _ _]) (.inl rfl) Zu rfl rfl Zh Zrf Zrf ?_;exact⟨_,_,_,_,rfl,rfl⟩):P:=h
theorem Wq229(h:P:=by first|omega|(simp only[hs,hb,hl1,hl2,hl3,hl4,hl5,hl6,hl7,aj,aO,List.length_nil];omega)):P:=h
theorem Wq230(h:P:=by have:((l++[x])++[y]).length<=100000:=hd;simp only[aj,aO,List.length_nil]at this;omega):P:=h
theorem rh(h:Q)(f:Zwr Q->P:=by intro y9;exact Zy (eK Zv0 Zv0 Zl) y9.1):P:=f ⟨h⟩
theorem pd(h:Q)(f:Zwr Q->P:=by intro y9;exact Zy (i5 Zv0 Zv0 Zl) y9.1):P:=f ⟨h⟩
theorem Qx(h:Q)(f:Zwr Q->P:=by intro y9;exact fF (bS rfl rfl) rfl (ff rfl rfl Zrf Zrf rfl rfl) rfl y9.1):P:=f ⟨h⟩
theorem Wq234(h:Q)(f:Zwr Q->P:=by intro y9;refine QK rfl ?_;exact jG rfl rfl (iO (plF b7 (sA b66) i i pl) rfl rfl (λ_ _=>rfl) Zi (λw hi hin=>yE b7 (sA b66) i i pl hpl Q.Ar Q.cr p.Wp Wq1 (by rw[hpl];exact hoR2) w hin (λw' hk=>RdV.Wm h.Wp hi Zi hk))) ZJ rfl y9.1):P:=f ⟨h⟩
theorem o9(h:Q)(f:Zwr Q->P:=by intro y9;refine ZQ ?_;exact dR y9.1):P:=f ⟨h⟩
theorem Wq236(h:Q)(f:Zwr Q->P:=by intro y9;refine ZE 2 ?_;refine ZF 3 ?_;refine i7 5 rfl Zk Zk Zk Zk (bQ rfl rfl) Zh Zrf Zrf (Zv rfl) rfl ?_;refine cW 4 Zk ?_;exact p6 rfl rfl (bQ rfl rfl) rfl (dh rfl (λ_ _=>rfl) (λw hi=>kp A4 c4 E hE w (hi.rd (Zhc (u8C A4 c4 E))))) ZJ rfl y9.1):P:=f ⟨h⟩
theorem Lt(h:Q)(f:Zwr Q->P:=by intro y9;exact retC2 (cs':=[]) (.inl rfl) Zu rfl rfl rfl rfl Zh Zrf Zrf y9.1):P:=f ⟨h⟩
theorem Wq238(h:Q)(f:Zwr Q->P:=by intro y9;refine cW 6 Zk ?_;exact gX rfl rfl (bV (e:=5) (sz:=1) (bytes:=1) rfl rfl Za rfl rfl (λw hi=>hi.rd (Zhc (slv 5 1 (sA b90) 1 1 (ints .u8 [lo xb.length])))) cN Wq9 Wq1) (λ_=>by rintro _ _ ⟨A5,c5,rfl,rfl⟩;exact bL (t:=41) Zh) rfl y9.1):P:=f ⟨h⟩
theorem Wq239(h:Q)(f:Zwr Q->P:=by intro y9;refine cW 7 Zk ?_;exact gX rfl rfl (dN (cdF S l2 fix X2) rfl (λ_ _=>rfl) Zi (λw hi hin=>BO S l2 fix X2 bY nb 8 h3 h4 w hin (λw' hk=>hK w' (hi.WU Zi hk)))) (λ_=>by rintro _ _ ⟨_,⟨rfl,l3,X3,hl3,rfl⟩,rfl⟩;exact bL (t:=343) Zh) rfl y9.1):P:=f ⟨h⟩
theorem Wq240(h:Q)(f:Zwr Q->P:=by intro y9;refine cW 7 Zk ?_;exact ZT (λw hi=>hrp (sA b26) 1 w (hi.rd (Zhc (slv 3 1 (sA b26) 1 1 (ints .i64 [-1]))))) y9.1):P:=f ⟨h⟩
theorem Wq241(h:P:=by first|omega|(simp only[hs,hb,hl1,hl2,hl3,hl4,hl5,hl6,aj,aO,List.length_nil];omega)):P:=h
theorem Wq242(h:P:=by refine jE (cs':=[row _ _ _,slv _ _ _ _ _ _,slv _ _ _ _ _ _,row _ _ _,exC _ _ _ _,row _ _ _]) (.inr rfl) Zu rfl ?_;exact gr):P:=h
theorem Wq243(h:Q)(f:Zwr Q->P:=by intro y9;refine dH rfl (eH 2 rfl Zv0 Zf) rfl ?_;refine LL ?_;refine dH rfl (jm (Zv rfl) (Zv rfl) Wq1 (show _=((v%3:Nat):Int)from by rw[aW Wq1];omega)) rfl ?_;refine QK rfl ?_;exact jG rfl rfl (ff rfl rfl Zrf Zrf rfl rfl) ZJ rfl y9.1):P:=f ⟨h⟩
theorem mR(h:Q)(f:Zwr Q->P:=by intro y9;refine ZM ?_;exact Z_5 y9.1):P:=f ⟨h⟩
theorem Wq245(h:Q)(f:Zwr Q->P:=by intro y9;refine gq ?_;refine Zy (cw (j:=l.length) (sz:=1) (r:=l.length) rfl Zrf (Zv rfl) (Zv rfl) Wq2 Wq2 Wq1) ?_;refine dQ (bM Zrf Zv0) (dG Zh (cK (ux l x))) rfl ?_;refine fb ?_;exact Zy (eC (l.length) rfl Zrf (Zv rfl) (Zv rfl) pe Wq2) y9.1):P:=f ⟨h⟩
theorem BX(h:P:=by refine Zrb ([row _ _ _]) ?_;exact gr):P:=h
theorem Wq247(h:Q)(f:Zwr Q->P:=by intro y9;refine Zy (cw (j:=l.length) (sz:=1) (r:=l.length) rfl Zrf (Zv rfl) (Zv rfl) Wq2 Wq2 Wq1) ?_;refine dQ (bM Zrf Zv0) (dG Zh (cK (ux l x))) rfl ?_;refine fb ?_;refine Zy (eC (l.length) rfl Zrf (Zv rfl) (Zv rfl) pe Wq2) ?_;exact Z_3 y9.1):P:=f ⟨h⟩
theorem Wq248(h:Q)(f:Zwr Q->P:=by intro y9;exact gX rfl rfl (bV (n:=L.d.l.length) (e:=3) (sz:=1) (bytes:=8) rfl rfl Za rfl rfl (λw hi=>hi.rd (Zhc (slv 3 1 (sA b40) 1 1 (ints .i64 [L.here])))) cN Wq9 Wq1) (λ_=>by rintro _ _ ⟨A9,c9,rfl,rfl⟩;exact bL (t:=128) Zh) rfl y9.1):P:=f ⟨h⟩
theorem Wq249(h:Q)(f:Zwr Q->P:=by intro y9;rw[cj,show L.d.l.length+1=(L.d.l++[(fD 2 L.code L.r).1]).length by simp];refine U6 ?_;refine Zo ?_;refine qMP (((⟨C2,⟨L.d.l++[(fD 2 L.code L.r).1],L.d.Wi,L.d.high⟩,s2,L.flags,L.target,L.branch⟩,⟨A2,c2,A9,c9,X.Ar,X.cr⟩):Lw×LAd)) ?_;dsimp only;exact y9.1):P:=f ⟨h⟩
theorem Wq250(h:Q)(f:Zwr Q->P:=by intro y9;rw[cj,show L.r.l.length+1=(L.r.l++[(fD 1 L.code L.d).1]).length by simp];refine U6 ?_;refine Zo ?_;refine qMP (((⟨C2,s2,⟨L.r.l++[(fD 1 L.code L.d).1],L.r.Wi,L.r.high⟩,L.flags,L.target,L.branch⟩,⟨A2,c2,X.Ad,X.cd,A9,c9⟩):Lw×LAd)) ?_;dsimp only;exact y9.1):P:=f ⟨h⟩
theorem Wq251(h:Q)(f:Zwr Q->P:=by intro y9;exact ZcA (lwF b N ⟨C4,s3,L.r,(C3.length:Int),L.target,L.branch⟩ ⟨A4,c4,X.Ad,X.cd,X.Ar,X.cr⟩) (λw hi hin=>wn b N ⟨C4,s3,L.r,(C3.length:Int),L.target,L.branch⟩ ⟨A4,c4,X.Ad,X.cd,X.Ar,X.cr⟩ hs4 3 0 (fD 1 C2 s2).1 (fD 1 L.code L.d).1 op w hin) y9.1):P:=f ⟨h⟩
theorem Qv(h:Q)(f:Zwr Q->P:=by intro y9;refine ZI 0 ?_;refine ZE 1 ?_;refine cW 2 Zk ?_;refine ZR ?_;exact dR y9.1):P:=f ⟨h⟩
theorem GG(h:P:=by simp only[asked,yV, *,ai,ah]):P:=h
theorem Wq254(h:Q)(f:Zwr Q->P:=by intro y9;refine ZE 11 ?_;refine ZF 12 ?_;refine ZF 13 ?_;refine JG 14 rfl Zk Zk Zk (bQ rfl rfl) (cC (j:=i) rfl Zrf (cA rfl) (cA rfl) Wq2 Wq2) rfl ?_;exact JG 15 rfl Zk Zk Zk (bQ rfl rfl) (cR 24 rfl (cA rfl) ((cu ad (i*25) 24))) rfl y9.1):P:=f ⟨h⟩
theorem Wq255(h:Q)(f:Zwr Q->P:=by intro y9;exact dQ (bW (vs:=s1.cells (.slice X1.Ad s1.d.length X1.cd) (.slice X1.Ar s1.r.length X1.cr)) Zrf Zrf Zv0) (cX Zh rfl) rfl y9.1):P:=f ⟨h⟩
theorem o7(h:P:=by refine Z_4 ?_;exact ru):P:=h
theorem Wq257(h:Q)(f:Zwr Q->P:=by intro y9;refine ZE 1 ?_;refine cW 2 Zk ?_;refine ZR ?_;refine dR ?_;exact Z_3 y9.1):P:=f ⟨h⟩
theorem Wq258(h:Q)(f:Zwr Q->P:=by intro y9;refine ZE 24 ?_;refine ZF 25 ?_;refine ZF 26 ?_;refine JG 27 rfl Zk Zk Zk (bQ rfl rfl) (cC (j:=i) rfl Zrf (cA rfl) (cA rfl) Wq2 Wq2) rfl ?_;exact JG 28 rfl Zk Zk Zk (bQ rfl rfl) (cR 1 rfl (cA rfl) ((cu ad (i*25) 1))) rfl y9.1):P:=f ⟨h⟩
theorem Qu(h:Q)(f:Zwr Q->P:=by intro y9;refine Z_5 ?_;exact ZS (λw hi=>mM s Ad Ar cd cr w (h w hi.WB)) y9.1):P:=f ⟨h⟩
theorem Wq260(h:Q)(f:Zwr Q->P:=by intro y9;refine gR 7 rfl Zk Zk Zk (eK Zv0 Zv0 rfl) rfl ?_;refine gR 8 rfl Zk Zk Zk (i5 Zv0 Zv0 rfl) rfl ?_;refine gR 12 rfl Zk Zk Zk (i5 Zv0 Zv0 rfl) rfl ?_;refine gR 13 rfl Zk Zk Zk (cU rfl rfl (Zv rfl) (QT _ _ _)) rfl ?_;exact cW 14 Zk y9.1):P:=f ⟨h⟩
theorem Wq261(h:P:=by refine VZ ?_;rintro _ _ ⟨b115,rfl,rfl⟩;refine Wq44 ?_;rintro _ _ ⟨A10,c10,rfl,rfl⟩;refine Wq101 ?_;exact Wq127):P:=h
theorem Wq262(h:Q)(f:Zwr Q->P:=by intro y9;exact jG rfl rfl (iO (plF b7 (sA b66) i i pl) rfl rfl (λ_ _=>rfl) Zi (λw hi hin=>yE b7 (sA b66) i i pl hpl Q.Ad Q.cd p.Wo Wq1 (by rw[hpl];exact hoD2) w hin (λw' hk=>RdV.Wm h.Wo hi Zi hk))) ZJ rfl y9.1):P:=f ⟨h⟩
theorem UP(h:P:=by exact⟨(kq w).nd,(kq w).nr,(kq w).hd,(kq w).hr⟩):P:=h
theorem Wq264(h:P:=by first|omega|(simp only[hs,hb,hl1,hl2,hl3,hl4,aj,aO,List.length_nil];omega)):P:=h
theorem Wq265(h:Q)(f:Zwr Q->P:=by intro y9;refine ZE 13 ?_;refine ZFf 14 0 ?_;refine wa_l 15 rfl Zk Zk Zk Zk (bQ rfl rfl) (bM Zrf (cA rfl)) (cB Zh rfl) rfl ?_;refine ZF 16 ?_;exact JG 17 rfl Zk Zk Zk (bQ rfl rfl) (cC (j:=i) rfl Zrf (cA rfl) (cA rfl) Wq2 Wq2) rfl y9.1):P:=f ⟨h⟩
theorem Wq266(h:Q)(f:Zwr Q->P:=by intro y9;exact gX rfl rfl (gZ rfl rfl Zrf Zrf rfl rfl rfl) (λ_=>by rintro _ _ ⟨b46,rfl,rfl⟩;exact bL (t:=41) Zh) rfl y9.1):P:=f ⟨h⟩
theorem Wq267(h:Q)(f:Zwr Q->P:=by intro y9;rw[show(pw a1 a2' va j).length+1=(pw a1 a2' va (j+1)).length by(rw[yG];simp),show ints .u32 (pw a1 a2' va j)++[Value.w (mT a1 a2' va j)]=ints .u32 (pw a1 a2' va (j+1)) by(rw[yG];exact cj _ [_])];exact lI y9.1):P:=f ⟨h⟩
theorem Wq268(h:P:=by refine fy rfl rfl (cZ Zrf rfl rfl (mY y) Za o6) Uo ?_;rintro _ _ ⟨rfl,rfl⟩;refine cW 3 Zk ?_;refine fy rfl rfl (cZ Zrf rfl rfl (nE x2) Za o6) Uo ?_;rintro _ _ ⟨rfl,rfl⟩;exact Wq155):P:=h
theorem Wq269(h:P:=by refine ret3 (cs':=[row _ _ _,slv _ _ _ _ _ _,slv _ _ _ _ _ _]) (.inl rfl) Zu rfl rfl rfl rfl ?_;exact⟨_,rfl,rfl⟩):P:=h
theorem Wq270(h:P:=by refine ZA ?_;refine fo (bV (e:=5) (sz:=1) (bytes:=1) rfl rfl Za rfl rfl (λw hi=>h.Wh hi) cN Wq9 Wq1) rfl ?_;rintro _ _ ⟨A',c',rfl,rfl⟩;simp only[Nat.zero_add,aR];refine Z_4 ?_;exact Qg):P:=h
theorem pQ(h:Q)(f:Zwr Q->P:=by intro y9;refine ZG 3 ?_;exact ZE 4 y9.1):P:=f ⟨h⟩
theorem oo(h:Q)(f:Zwr Q->P:=by intro y9;refine gq ?_;exact Zra y9.1):P:=f ⟨h⟩
theorem Wq273(h:Q)(f:Zwr Q->P:=by intro y9;refine Z_5 ?_;refine cY 347 5 ?_;refine cY 3 1 ?_;refine ZA ?_;exact ZcL (cdF (⟨b21,p,Q,pl,Ar,cr,As,c2⟩:CdS) [] [] ⟨none,0,none,0⟩) (λw hi hin=>lZ (⟨b21,p,Q,pl,Ar,cr,As,c2⟩:CdS) [] [] ⟨none,0,none,0⟩ cP 15 0 w hin) y9.1):P:=f ⟨h⟩
theorem Wq274(h:Q)(f:Zwr Q->P:=by intro y9;refine dQ (bM Zrf Zv0) (cB Zh (Tc hR)) rfl ?_;refine Z_2 ?_;refine Zy (cU rfl rfl (Zv rfl) QO) ?_;refine Zy (cw (j:=pl) (sz:=1) (r:=pl) rfl Zrf (Zv rfl) (Zv rfl) Wq2 Wq2 Wq1) ?_;exact eT (uw Zrf rfl rfl rfl Za Wq1) y9.1):P:=f ⟨h⟩
theorem iB(h:Q)(f:Zwr Q->P:=by intro y9;simp only[ah];exact y9.1):P:=f ⟨h⟩
theorem Wq276(h:Q)(f:Zwr Q->P:=by intro y9;refine ZF 17 ?_;refine ZF 18 ?_;refine JG 19 rfl Zk Zk Zk (bQ rfl rfl) (cC (j:=i) rfl Zrf (cA rfl) (cA rfl) Wq2 Wq2) rfl ?_;exact JG 20 rfl Zk Zk Zk (bQ rfl rfl) (cR 24 rfl (cA rfl) ((cu ad2 (i*25) 24))) rfl y9.1):P:=f ⟨h⟩
theorem Qt(h:P:=by simp only[aO,List.length_nil];omega):P:=h
theorem Wq278(h:P:=by have h7:=((h.add 0 0 0 nn).W7 [w.here] (λn hn=>by rw[aC.1 hn];exact pj _ _)).Wl;rw[List.map_cons,List.map_nil,show ez D R (w.add 0 0 0 nn).code w.here=nn from ky _ _]at h7;exact h7):P:=h
theorem Wq279(h:Q)(f:Zwr Q->P:=by intro y9;refine ZF 30 ?_;refine ZF 31 ?_;refine JG 32 rfl Zk Zk Zk (bQ rfl rfl) (cC (j:=i) rfl Zrf (cA rfl) (cA rfl) Wq2 Wq2) rfl ?_;exact JG 33 rfl Zk Zk Zk (bQ rfl rfl) (cR 1 rfl (cA rfl) ((cu ad2 (i*25) 1))) rfl y9.1):P:=f ⟨h⟩
theorem Wq280(h:Q)(f:Zwr Q->P:=by intro y9;refine ZI 0 ?_;refine nl 1 rfl Zk Zk Zk (bW (vs:=RS.cells ⟨xr,A2,c2⟩) Zrf Zrf Zv0) (λx hx=>dT x hx) (bL (t:=248) Zh) rfl ?_;refine cW 2 Zk ?_;exact fy rfl rfl (cZ Zrf rfl rfl (mQ rfl) Za o6) Uo y9.1):P:=f ⟨h⟩
theorem Wq281(h:P:=by refine qMP (((⟨C2,L.d,⟨L.r.l++[L.here],L.r.Wi,L.r.high⟩,L.flags,L.target,L.branch⟩,⟨A2,c2,X.Ad,X.cd,A9,c9⟩):Lw×LAd)) ?_;dsimp only;subst hC2;unfold Lw.go;rw[hc3,hc5,hc8,hc10,hc14,hc18,hc20,hc22,hc28];rfl):P:=h
theorem Qs(h:P:=by refine mf ?_;exact⟨by unfold gU jN;grind,rfl⟩):P:=h
theorem Wq283(h:Q)(f:Zwr Q->P:=by intro y9;exact ZSe (λw hi=>yM A3 B3 c3 e3 L (iT its) w (hi.rd (Zhc (imC A3 c3 L))) (hi.rd (Zhc (iU B3 e3 (iT its))))) y9.1):P:=f ⟨h⟩
theorem Wq284(h:Q)(f:Zwr Q->P:=by intro y9;refine Z_9 ?_;exact ZS (λw hi=>HS w (h.Wh hi) (λy hy=>(hl y hy).Wh hi) (h2.Wh hi) (λx hx=>(hit x hx).o.Wh hi)) y9.1):P:=f ⟨h⟩
theorem Wq285(h:Q)(f:Zwr Q->P:=by intro y9;refine Z_4 ?_;refine pR ?_;refine iJ ?_;refine Z_5 ?_;exact ZS (λw hi=>vf s.next X.Ad X.Ar X.cd X.cr 1 0 w (hi.XJ (Zhc (slD s X.Ad X.cd)) (Zhc (slR s X.Ar X.cr)) (show s.d.length*4<=_ by omega) (show s.r.length*4<=_ by omega))) y9.1):P:=f ⟨h⟩
theorem Ls(h:Q)(f:Zwr Q->P:=by intro y9;exact ZcS (caF E.bc E.room E.X) (λw hi hin=>HF w hin) y9.1):P:=f ⟨h⟩
theorem Wq287(h:Q)(f:Zwr Q->P:=by intro y9;refine gR 5 rfl Zk Zk Zk (dz (j:=(va/64%16)) (sz:=4) (r:=(va/64%16)*4) rfl Zrf (Zv rfl) (Zv rfl) Wq2 Wq2 Wq1) rfl ?_;exact po 6 rfl Zk Zk Zk Zk (bW (vs:=e.cells) Zrf Zrf Zv0) (uC (o:=(va/64%16)*4) h (nu he)) rfl y9.1):P:=f ⟨h⟩
theorem fT(h:Q)(f:Zwr Q->P:=by intro y9;exact QK rfl y9.1):P:=f ⟨h⟩
theorem Wq289(h:P:=by have:=O5 (gt p0) p0.code 0 (List.replicate p0.code.length 0) [];have e:(cG p0).code=(nZ (gt p0) p0.code 0 (List.replicate p0.code.length 0) []).2:=rfl;rw[e];rw[f1]at this|-;simp at this;omega):P:=h
theorem Wq290(h:Q)(f:Zwr Q->P:=by intro y9;rw[cj,show L.d.l.length+1=(L.d.l++[L.here]).length by simp];refine ZE 11 ?_;refine ZFe 12 0 ?_;refine cW 13 Zk ?_;exact fy rfl rfl (mm Zrf rfl rfl rfl Za Zp) (λ_=>by rintro _ _ ⟨rfl,rfl⟩;exact bL (t:=128) Zh) y9.1):P:=f ⟨h⟩
theorem Wq291(h:Q)(f:Zwr Q->P:=by intro y9;rw[cj,show L.r.l.length+1=(L.r.l++[L.here]).length by simp];refine U6 ?_;refine Zo ?_;refine qMP (((⟨C2,L.d,⟨L.r.l++[L.here],L.r.Wi,L.r.high⟩,L.flags,L.target,L.branch⟩,⟨A2,c2,X.Ad,X.cd,A9,c9⟩):Lw×LAd)) ?_;dsimp only;exact y9.1):P:=f ⟨h⟩
theorem uj(h:Q)(f:Zwr Q->P:=by intro y9;refine pP ?_;exact ZFe 2 0 y9.1):P:=f ⟨h⟩
theorem UO(h:Q)(f:Zwr Q->P:=by intro y9;refine gq ?_;exact Zy (lK (Zv rfl) (Zv rfl) (show _=true from bne_iff_ne.2 hb0)) y9.1):P:=f ⟨h⟩
theorem Wq294(h:Q)(f:Zwr Q->P:=by intro y9;refine Z_4 ?_;refine Zy (cw (bb:=b66) (o:=0) (n:=i) (c:=i) (j:=nf) (sz:=1) (r:=nf) rfl Zrf (Zv rfl) (Zv rfl) (λ_=>hnf) Wq2 Wq1) ?_;refine dQ (bM Zrf (Zv rfl)) (dG Zh (jy Wq1)) rfl ?_;refine iJ ?_;exact fH y9.1):P:=f ⟨h⟩
theorem Wq295(h:P:=by refine gX rfl rfl (bV (n:=L.r.l.length) (e:=3) (sz:=1) (bytes:=8) rfl rfl Za rfl rfl (λw hi=>hi.rd (Zhc (slv 3 1 (sA b191) 1 1 (ints .i64 [L.here])))) cN Wq9 Wq1) ZJ rfl ?_;rintro _ _ ⟨A9,c9,rfl,rfl⟩;rw[cj,show L.r.l.length+1=(L.r.l++[L.here]).length by simp];refine U6 ?_;refine Zo ?_;exact Wq281):P:=h
theorem Wq296(h:Q)(f:Zwr Q->P:=by intro y9;exact ZT (λw hi=>hrp (sA b22) 1 w (hi.rd (Zhc (slv 3 1 (sA b22) 1 1 (ints .i64 [-1]))))) y9.1):P:=f ⟨h⟩
theorem yp(h:P:=by grind [bJ.bs,ab]):P:=h
theorem kY(h:P:=by trivial):P:=h
theorem UN(h:Q)(f:Zwr Q->P:=by intro y9;refine fg ?_;refine fx [bP [],bP K] Zi ?_;refine iJ ?_;exact Z_2 y9.1):P:=f ⟨h⟩
theorem Wq300(h:Q)(f:Zwr Q->P:=by intro y9;exact bU (Zdr [7,9,11] (mU b1 [.i i.op,.i i.rd,.i i.ra,.i i.rb,.w i.imm])) Zk y9.1):P:=f ⟨h⟩
theorem GD(h:P:=by simp only[sY, *,ai,ah]):P:=h
theorem Wq302(h:Q)(f:Zwr Q->P:=by intro y9;refine Zy (ii (j:=n) has rfl Zrf Zv0 Zv0 Zrf (λ_=>hn2)) ?_;refine dQ (bM Zrf Zv0) (oH (v:= .i (S.pl.s n)) hslot (jy hn2)) rfl ?_;refine pR ?_;exact Zy (cU rfl rfl (Zv rfl) (LZ _)) y9.1):P:=f ⟨h⟩
theorem Qr(h:P:=by rw[bE,hx,List.map_append];rfl):P:=h
theorem Wq304(h:P:=by rw[aj,List.flatMap_append,bF,List.flatMap_nil,aw];exact gr):P:=h
theorem Lr(h:P:=by rw[ax,ax]at q;exact q):P:=h
theorem Wq306(h:P:=by rw[List.drop_length]at hf;have hf:l.findIdx? D=none:=hf;rw[hf];refine gq ?_;refine Zrb ([_,_]) ?_;exact⟨r,rfl,by rw[bC]at hr;show r=(l.take l.length).foldl step r0;grind,hrk,rfl⟩):P:=h
theorem yo(h:Q)(f:Zwr Q->P:=by intro y9;rw[cj,<-aj];exact y9.1):P:=f ⟨h⟩
theorem Wq308(h:Q)(f:Zwr Q->P:=by intro y9;refine bU (Zdn [7]) Zk ?_;refine uj ?_;refine pQ ?_;refine po 5 rfl Zk Zk Zk Zk (bW (vs:=[.slice xA xl.length xc,.slice xB xk.length xe,.i (n:Int)]) Zrf Zrf Zv0) (cX Zh rfl) rfl ?_;exact ZE 6 y9.1):P:=f ⟨h⟩
theorem Wq309(h:Q)(f:Zwr Q->P:=by intro y9;exact bU (Zdr [5,7] (mU b1 [.i i.op,.i i.rd,.i i.ra,.i i.rb,.w i.imm])) Zk y9.1):P:=f ⟨h⟩
theorem Wq310(h:P:=by rw[aC.1 q];exact⟨iv (dM (e _ (.head _))) (n*64),iv (hr a ha) 1024⟩):P:=h
theorem Wq311(h:P:=by refine Z_7 ?_;refine bO (caF bc room ⟨ml,Ac,cc,fl,LK,Z⟩) Zj ?_;refine LH (cs':=caF bc room ⟨ml,Ac,cc,fl,LK,Z⟩) (.inl rfl) (bh _) rfl rfl ?_;exact⟨_,rfl,hX,rfl⟩):P:=h
theorem Wq312(h:P:=by refine Wq201 ?_;refine ZE 11 ?_;refine ZFe 12 0 ?_;refine gR 13 rfl Zk Zk Zk (dz (j:=rd) (sz:=1) (r:=rd) rfl Zrf (Zv rfl) (Zv rfl) Wq2 Wq2 Wq1) rfl ?_;refine cW 14 Zk ?_;exact Wq121):P:=h
theorem Wq313(h:P:=by refine Z_8 ?_;refine Zrb (cdF S l fix X) ?_;exact⟨by unfold eG;rw[hr];rfl,l,X,(by simp only[ai,ah,aq,aP,aR,aw]),rfl⟩):P:=h
theorem UK(h:P:=by rw[h]at this;exact⟨λ_=>rfl,λq=>(by rw[q]at this;cases this)⟩):P:=h
theorem pO(h:P:=by exact⟨_,_,rfl,rfl⟩):P:=h
theorem pN(h:Q)(f:Zwr Q->P:=by intro y9;refine Z_2 ?_;exact kv y9.1):P:=f ⟨h⟩
theorem ui(h:Q)(f:Zwr Q->P:=by intro y9;refine ZFe 0 1 ?_;exact ZG 1 y9.1):P:=f ⟨h⟩
theorem Wq318(h:P:=by refine Wq80 ?_;rintro _ _ ⟨A9,c9,rfl,rfl⟩;rw[Nat.zero_add,aR];have hxl9:(x::r).length+1=(x::r++[x]).length:=(by rw[aj];rfl);refine cW 12 Zk ?_;exact Wq261):P:=h
theorem Qq(h:Q)(f:Zwr Q->P:=by intro y9;exact mj (bS rfl rfl) Zh Zrf Zrf (Zv rfl) rfl y9.1):P:=f ⟨h⟩
theorem Wq320(h:P:=by subst e;obtain rfl:R.push [nn]=R':=ay h;exact⟨Did.of (l:=R.s.d) (m:=R.s.r) [] [nn] [] [] rfl (yy hw (Uf hw.d hnn)) hf rfl cP rfl cP (by simp[Run.push]),rfl,rfl,rfl⟩):P:=h
theorem Wq321(h:Q)(f:Zwr Q->P:=by intro y9;refine mR ?_;rw[show iU B3 e3 T=itM B3 e3 T.length (mix F T 0)from rfl];refine eY [row b7 [.slice A3 L.length c3,.slice B3 T.length e3] 27,imC A3 c3 L,bP J,itM B3 e3 T.length (mix F T 0)] Zj ?_;exact Z_4 y9.1):P:=f ⟨h⟩
theorem UJ(h:Q)(f:Zwr Q->P:=by intro y9;refine Z_4 ?_;refine ZSe (λw hi=>NF _ w) ?_;refine Z_7 ?_;exact mf y9.1):P:=f ⟨h⟩
theorem Wq323(h:Q)(f:Zwr Q->P:=by intro y9;exact gX rfl rfl (bV (n:=L.d.l.length) (e:=3) (sz:=1) (bytes:=8) rfl rfl Za rfl rfl (λw hi=>hi.rd (Zhc (slv 3 1 (sA b134) 1 1 (ints .i64 [(fD 2 L.code L.r).1])))) cN Wq9 Wq1) ZJ rfl y9.1):P:=f ⟨h⟩
theorem Wq324(h:Q)(f:Zwr Q->P:=by intro y9;exact gX rfl rfl (bV (n:=L.r.l.length) (e:=3) (sz:=1) (bytes:=8) rfl rfl Za rfl rfl (λw hi=>hi.rd (Zhc (slv 3 1 (sA b119) 1 1 (ints .i64 [(fD 1 L.code L.d).1])))) cN Wq9 Wq1) ZJ rfl y9.1):P:=f ⟨h⟩
theorem Wq325(h:Q)(f:Zwr Q->P:=by intro y9;exact gX rfl rfl (dN (lwF b N L X) rfl (λ_ _=>rfl) Zi (λw hi hin=>wk b N L X (hs.mono Wq1) n w hin)) (λ_=>by rintro _ _ ⟨_,⟨rfl,C2,A2,c2,hC2,rfl⟩,rfl⟩;exact bL (t:=128) Zh) rfl y9.1):P:=f ⟨h⟩
theorem Wq326(h:Q)(f:Zwr Q->P:=by intro y9;refine o9 ?_;exact jE (cs':=[row _ _ _,slv _ _ _ _ _ _,slv _ _ _ _ _ _,slv _ _ _ _ _ _]) (.inr rfl) Zu rfl y9.1):P:=f ⟨h⟩
theorem Wq327(h:Q)(f:Zwr Q->P:=by intro y9;refine uj ?_;refine pQ ?_;refine po 5 rfl Zk Zk Zk Zk (bW (vs:=[.slice xA xl.length xc,.slice xB xk.length xe,.i (n:Int)]) Zrf Zrf Zv0) (cX Zh rfl) rfl ?_;refine ZE 6 ?_;exact cW 7 Zk y9.1):P:=f ⟨h⟩
theorem GC(h:Q)(f:Zwr Q->P:=by intro y9;refine ZE 11 ?_;refine ZE 12 ?_;exact ZE 13 y9.1):P:=f ⟨h⟩
theorem Wq329(h:Q)(f:Zwr Q->P:=by intro y9;refine ZFe 15 0 ?_;refine cW 16 Zk ?_;refine o9 ?_;refine Zo ?_;exact qMP (((⟨C5,⟨s3.l++[(C4.length:Int)],s3.Wi,s3.high⟩,L.r,(C3.length:Int),L.target,L.branch⟩,⟨A5,c5,A9,c9,X.Ar,X.cr⟩):Lw×LAd)) y9.1):P:=f ⟨h⟩
theorem Wq330(h:Q)(f:Zwr Q->P:=by intro y9;refine ZG 1 ?_;refine ZE 2 ?_;exact gR 3 rfl Zk Zk Zk (cC (j:=i) rfl Zrf (Zv rfl) (Zv rfl) Wq2 Wq2) rfl y9.1):P:=f ⟨h⟩
theorem ig(h:Q)(f:Zwr Q->P:=by intro y9;exact cW 8 Zk y9.1):P:=f ⟨h⟩
theorem Qp(h:Q)(f:Zwr Q->P:=by intro y9;refine cY 59 3 ?_;refine fg ?_;exact cY 41 4 y9.1):P:=f ⟨h⟩
theorem UI(h:P:=by subst hji;exact hy.wpOp hi hS ⟨⟨λ_ _ _ h=>h,λh=>h⟩,H⟩):P:=h
theorem Wq334(h:Q)(f:Zwr Q->P:=by intro y9;refine cW 9 Zk ?_;exact gX rfl rfl (bV (e:=5) (sz:=1) (bytes:=1) rfl rfl Za rfl rfl (λw hi=>hxr.Wh hi) cN Wq9 Wq1) (λ_=>by rintro _ _ ⟨A6,c6,rfl,rfl⟩;exact bL (t:=41) Zh) rfl y9.1):P:=f ⟨h⟩
theorem xz(h:Q)(f:Zwr Q->P:=by intro y9;exact Zrb ([slv _ _ _ _ _ _]) y9.1):P:=f ⟨h⟩
theorem Wq336(h:Q)(f:Zwr Q->P:=by intro y9;exact jE (cs':=[row _ _ _,slv _ _ _ _ _ _,slv _ _ _ _ _ _,row _ _ _,exC _ _ _ _,row _ _ _,row _ _ _,row _ _ _,row _ _ _,row _ _ _,slv _ _ _ _ _ _,slv _ _ _ _ _ _,row _ _ _,slv _ _ _ _ _ _]) (.inl rfl) Zu rfl y9.1):P:=f ⟨h⟩
theorem UH(h:P:=by refine Zrb ([row _ _ _,slv _ _ _ _ _ _,exC _ _ _ _]) ?_;exact gr):P:=h
theorem Wq338(h:P:=by refine Zy (jm (Zv rfl) (Zv rfl) Wq1 (show _=((va%64:Nat):Int)from by rw[aW Wq1];omega)) ?_;refine pR ?_;refine Z_5 ?_;refine mf ?_;rw[hc];exact gr):P:=h
theorem Wq339(h:P:=by refine qMP (((⟨C2,⟨L.d.l++[L.here],L.d.Wi,L.d.high⟩,L.r,L.flags,L.target,L.branch⟩,⟨A2,c2,A9,c9,X.Ar,X.cr⟩):Lw×LAd)) ?_;dsimp only;subst hC2;unfold Lw.go;rw[hc3];rfl):P:=h
theorem Wq340(h:Q)(f:Zwr Q->P:=by intro y9;exact gX rfl rfl (bV (n:=s3.l.length) (e:=3) (sz:=1) (bytes:=8) rfl rfl Za rfl rfl (λw hi=>hi.rd (Zhc (slv 3 1 (sA b176) 1 1 (ints .i64 [(C4.length:Int)])))) cN Wq9 Wq1) ZJ rfl y9.1):P:=f ⟨h⟩
theorem Wq341(h:P:=by rintro _ _ ⟨rfl,rfl⟩;refine cW 3 Zk ?_;refine fy rfl rfl (cZ Zrf rfl rfl (nE ⟨xr,A2,c2⟩) Za o6) Uo ?_;rintro _ _ ⟨rfl,rfl⟩;refine ZE 4 ?_;exact Wq140):P:=h
theorem Wq342(h:Q)(f:Zwr Q->P:=by intro y9;refine Jm ?_;refine Z_3 ?_;refine fx [sl .u8 5 A2 E.length c2 E,bP J] Zi ?_;refine ZA ?_;exact Wq6 y9.1):P:=f ⟨h⟩
theorem UG(h:Q)(f:Zwr Q->P:=by intro y9;refine ZSe (λw hi=>HI w (bJ.old h1 hi)) ?_;refine iX ?_;exact Wq94 y9.1):P:=f ⟨h⟩
theorem GB(h:Q)(f:Zwr Q->P:=by intro y9;exact dH rfl (eH 1 rfl Zv0 Zf) rfl y9.1):P:=f ⟨h⟩
theorem Wq345(h:Q)(f:Zwr Q->P:=by intro y9;refine Vk rfl (LQ (zv:= .agg #[.slice none 0 0,.bool false]) (Zv rfl) (Zv rfl) hk rfl FX Zrf) (λw hi=>(show ou E.mr (rnV E.RZ) w from hi.get (Zhc (mpc E.mr (rnV E.RZ))))) rfl ?_;exact fT y9.1):P:=f ⟨h⟩
theorem Wq346(h:P:=by unfold Lw.go;rw[hc3,hc5,hc8,hc10,hc14,hc18,hc20,hc22];unfold Lw.reckon;dsimp only;rw[hc26];rfl):P:=h
theorem GA(h:P:=by rw[ax];omega):P:=h
theorem Wq348(h:Q)(f:Zwr Q->P:=by intro y9;refine gR 10 rfl Zk Zk Zk (cw (j:=j) (sz:=4) (r:=j*4) rfl Zrf (Zv rfl) (Zv rfl) Wq2 Wq2 Wq1) rfl ?_;refine ZFe 11 2 ?_;refine cW 12 Zk ?_;exact fy rfl rfl (uv Zrf rfl rfl rfl Za Wq1) ZJ y9.1):P:=f ⟨h⟩
theorem Wq349(h:P:=by subst hc22;have hTT:T1.map ItR.it=T:=hp.no rfl hTl hgood (hcs.1 rfl);refine Z_9 ?_;exact Wq46):P:=h
theorem Wq350(h:P:=by refine Z_4 ?_;refine jD ?_;rintro _ _ ⟨b20,rfl,rfl⟩;refine ZcL (gL K X R) (λw hi hin=>jb K X R _ 1 1 [n] Wq1 w hin (λw' hk=>hi.WZ Zi Zh hk)) ?_;exact GK):P:=h
theorem Wq351(h:Q)(f:Zwr Q->P:=by intro y9;refine gP (Zdn [5,10]) [(0,4),(1,0),(2,0),(3,1),(4,1),(5,3),(6,3),(7,3),(8,3),(9,3),(10,3),(11,3)] Zk Zk ?_;refine LL ?_;refine Qz ?_;refine EF ?_;exact rA rfl Zh Zrf Zrf (Zv rfl) rfl y9.1):P:=f ⟨h⟩
theorem Wq352(h:Q)(f:Zwr Q->P:=by intro y9;refine ZFe 9 4 ?_;refine eu 10 rfl Zk Zk Zk (bM Zrf Zv0) (dg rfl) (bL (t:=343) Zh) rfl ?_;refine gR 11 rfl Zk Zk Zk (cU rfl rfl Zv0 rfl) rfl ?_;refine cW 6 Zk ?_;exact zL y9.1):P:=f ⟨h⟩
theorem Lp(h:P:=by simp only[dw, *,ai,ah]):P:=h
theorem Wq354(h:P:=by obtain⟨rfl,rfl⟩:=Prod.mk.inj hS;refine Z_3 ?_;refine lD ?_;refine fH ?_;exact Wq16):P:=h
theorem UF(h:Q)(f:Zwr Q->P:=by intro y9;refine ZE 0 ?_;refine ZI 1 ?_;refine ZE 2 ?_;refine cW 3 Zk ?_;exact ZR y9.1):P:=f ⟨h⟩
theorem Wq356(h:Q)(f:Zwr Q->P:=by intro y9;refine ZFa 16384 ?_;exact Zy (dz (j:=k) (sz:=1) (r:=16384+k) rfl Zrf (Zv rfl) (Zv rfl) Wq2 Wq2 Wq1) y9.1):P:=f ⟨h⟩
theorem sG(h:Q)(f:Zwr Q->P:=by intro y9;refine jl ?_;exact kv y9.1):P:=f ⟨h⟩
theorem Gz(h:Q)(f:Zwr Q->P:=by intro y9;exact Zy (cU rfl rfl Zv0 (sx _)) y9.1):P:=f ⟨h⟩
theorem Wq359(h:Q)(f:Zwr Q->P:=by intro y9;refine Zy (lJ (Zv rfl) (Zv rfl) Wq1 (sh8 _)) ?_;refine Zy (cU rfl rfl Zv0 (b8_hi _)) ?_;exact jD y9.1):P:=f ⟨h⟩
theorem Qo(h:Q)(f:Zwr Q->P:=by intro y9;exact Zy (eC _ rfl Zrf (Zv rfl) (Zv rfl) pe Wq2) y9.1):P:=f ⟨h⟩
theorem Wq361(h:Q)(f:Zwr Q->P:=by intro y9;refine eu 10 rfl Zk Zk Zk (bM Zrf Zv0) (dg rfl) (bL (t:=343) Zh) rfl ?_;refine gR 11 rfl Zk Zk Zk (cU rfl rfl Zv0 rfl) rfl ?_;refine cW 6 Zk ?_;refine zL ?_;exact Wq260 y9.1):P:=f ⟨h⟩
theorem UE(h:Q)(f:Zwr Q->P:=by intro y9;exact eT (ij Zrf rfl rfl rfl Za (by rw[iQ hl];omega)) y9.1):P:=f ⟨h⟩
theorem Wq363(h:Q)(f:Zwr Q->P:=by intro y9;exact jG rfl rfl (dh rfl (λ_ _=>rfl) (λw hi=>Bq a.x.A a.x.B a.x.c a.x.e a.x.l a.x.Wa a.x.k hao.bs w (hao.rd.Wh hi) (λy hy=>(hao.raw y hy).Wh hi) (hao.dk.Wh hi))) ZJ rfl y9.1):P:=f ⟨h⟩
theorem UD(h:Q)(f:Zwr Q->P:=by intro y9;refine ZE 7 ?_;refine Wq92 ?_;refine ZE 13 ?_;refine ZE 14 ?_;exact dR y9.1):P:=f ⟨h⟩
theorem Wq365(h:Q)(f:Zwr Q->P:=by intro y9;refine cW 9 Zk ?_;exact gX rfl rfl (bV (e:=49) (sz:=1) (bytes:=4) rfl rfl Za rfl rfl (λw hi=>hi.rd (Zhc (slv 49 1 (sA b68) 1 1 (ints .u32 [x])))) cN Wq9 Wq1) ZJ rfl y9.1):P:=f ⟨h⟩
theorem Wq366(h:Q)(f:Zwr Q->P:=by intro y9;refine gR 14 rfl Zk Zk Zk (i5 Zv0 Zv0 hwt) rfl ?_;refine gR 15 rfl Zk Zk Zk (Jt Zv0 Zv0 (top_max high ((l.length:Int) - Wi))) rfl ?_;refine ZE 16 ?_;refine ZFe 17 2 ?_;exact cW 18 Zk y9.1):P:=f ⟨h⟩
theorem Wq367(h:P:=by show _=gL K ⟨X.Ad,X.cd,A',c'⟩ ((R.wd l).wr (R.s.r++[x]));simp only[gL,yI,slD,slR,aj,cj,aO,List.length_nil,Nat.zero_add]):P:=h
theorem Wq368(h:P:=by refine ZE 13 ?_;refine cW 14 Zk ?_;refine ZR ?_;refine dR ?_;refine Z_7 ?_;exact Wq90):P:=h
theorem Qn(h:Q)(f:Zwr Q->P:=by intro y9;exact dH rfl (EW rfl rfl Zrf rfl rfl rfl Zb) rfl y9.1):P:=f ⟨h⟩
theorem UC(h:P:=by refine Z_4 ?_;refine Zrb ([row _ _ _]) ?_;exact⟨_,rfl,rfl⟩):P:=h
theorem UB(h:Q)(f:Zwr Q->P:=by intro y9;refine ZE 8 ?_;refine un ?_;refine ZE 12 ?_;refine dR ?_;exact Z_8 y9.1):P:=f ⟨h⟩
theorem Wq372(h:P:=by refine ZFe 1 0 ?_;refine ZG 2 ?_;refine ZE 3 ?_;refine ZE 4 ?_;refine ZE 5 ?_;exact Wq98):P:=h
theorem ic(h:Q)(f:Zwr Q->P:=by intro y9;exact cW 7 Zk y9.1):P:=f ⟨h⟩
theorem Wq374(h:P:=by refine jl ?_;refine ZL ?_;refine Z_3 ?_;refine bU (Zdn []) Zk ?_;refine ZE 0 ?_;exact Wq372):P:=h
theorem Wq375(h:Q)(f:Zwr Q->P:=by intro y9;refine Zy (jF Zv0 Zv0 Zl) ?_;refine ZA ?_;refine rh ?_;exact Zy (cU rfl rfl (Zv rfl) (show IntKind.u32.wrap ((p:Int)*64+(k:Int))=((p*64+k:Nat):Int) by rw[u32_wrap_id _ Wq1 Wq1];omega)) y9.1):P:=f ⟨h⟩
theorem Wq376(h:P:=by rintro _ _ ⟨_,⟨X',rfl,rfl⟩,rfl⟩;refine Z_2 ?_;refine bO (pm br bu bb L D X' Y ⟨m'.1,m'.2,d⟩) Zj ?_;refine Wq5 ?_;rw[hst];exact⟨X',Y,rfl,rfl⟩):P:=h
theorem yn(h:Q)(f:Zwr Q->P:=by intro y9;refine pS ?_;exact ZFe 3 0 y9.1):P:=f ⟨h⟩
theorem Qm(h:Q)(f:Zwr Q->P:=by intro y9;exact ZSe (λw hi=>zU bu L.bm bb w (hi.get Zh)) y9.1):P:=f ⟨h⟩
theorem Wq379(h:Q)(f:Zwr Q->P:=by intro y9;refine Z_3 ?_;refine bU (Zdr [2,3] (mU b13 (RS.cells x2))) Zk ?_;refine Ve ?_;exact fy rfl rfl (cZ Zrf rfl rfl (mY ⟨⟨k,C,(l.length:Int)⟩,A3,c3⟩) Za o6) Uo y9.1):P:=f ⟨h⟩
theorem Wq380(h:Q)(f:Zwr Q->P:=by intro y9;exact ZcA (gL (kOf br bu D) X (R.wd (l++[v]))) (λw hi hin=>ph (kOf br bu D) X R l v w hin) y9.1):P:=f ⟨h⟩
theorem Gy(h:Q)(f:Zwr Q->P:=by intro y9;exact Zrb ([row _ _ _,slv _ _ _ _ _ _]) y9.1):P:=f ⟨h⟩
theorem UA(h:Q)(f:Zwr Q->P:=by intro y9;exact Zyn rfl rfl (lK (cA rfl) (cA rfl) (bj _)) y9.1):P:=f ⟨h⟩
theorem Wq383(h:P:=by have hvl0:V5.length=0:=hvl;refine Z_8 ?_;refine rh ?_;refine Zy (jn (Zv rfl) (Zv rfl) (show _=true from by rw[hzl0,hvl0];rfl)) ?_;refine ZA ?_;exact Wq118):P:=h
theorem Wq384(h:Q)(f:Zwr Q->P:=by intro y9;refine Z_3 ?_;refine ZcM ([caR bc (.i room) (.slice Ac Z.length cc) (.map (some ml)) (.i fl),slv 242 4 Ac Z.length cc (Z.flatMap BA.cells)]) (λw hi hin=>HP f w hin) ?_;rw[ho1];exact y9.1):P:=f ⟨h⟩
theorem Wq385(h:P:=by rw[cj,show s3.l.length+1=(s3.l++[(C4.length:Int)]).length by simp];refine ZE 14 ?_;refine Wq329 ?_;dsimp only;subst hC5 hC4 hC3 hs3 hC2 hs2;exact Wq346):P:=h
theorem xy(h:P:=by refine Z_5 ?_;exact ru):P:=h
theorem Wq387(h:Q)(f:Zwr Q->P:=by intro y9;exact gX rfl rfl (ls Zrf rfl) (λ_=>by rintro _ _ ⟨b7,rfl,rfl⟩;exact eh (bL (t:=27) Zh) (cE k' (λi v hi=>bZ ItR.V8 (i:=i) hy hi))) rfl y9.1):P:=f ⟨h⟩
theorem Wq388(h:Q)(f:Zwr Q->P:=by intro y9;exact gX rfl rfl (ls Zrf rfl) (λ_=>by rintro _ _ ⟨b8,rfl,rfl⟩;exact eh (bL (t:=27) Zh) (cE k' (λi v hi=>bZ ItR.V8 (i:=i) hy hi))) rfl y9.1):P:=f ⟨h⟩
theorem Wq389(h:P:=by rintro _ _ ⟨_,⟨rfl,rfl⟩,rfl⟩;refine Z_2 ?_;refine bO (pm br bu bb L D X Y ⟨m'.1,m'.2,d⟩) Zj ?_;refine Wq5 ?_;rw[hst];exact⟨X,Y,rfl,rfl⟩):P:=h
theorem Wq390(h:Q)(f:Zwr Q->P:=by intro y9;refine kU ?_;refine gR 7 rfl Zk Zk Zk (cC (j:=i) rfl Zrf (Zv rfl) (Zv rfl) Wq2 Wq2) rfl ?_;exact gR 8 rfl Zk Zk Zk (cR 0 rfl (Zv rfl) ((cu ad2 (i*25) 0))) rfl y9.1):P:=f ⟨h⟩
theorem Wq391(h:P:=by refine Zrb ([row _ _ _,row _ _ _,row _ _ _,row _ _ _,slv _ _ _ _ _ _,slv _ _ _ _ _ _,row _ _ _,slv _ _ _ _ _ _]) ?_;exact⟨⟨X.Ao,X.co,Ai',ci'⟩,rfl,rfl⟩):P:=h
theorem uh(h:Q)(f:Zwr Q->P:=by intro y9;refine fH ?_;exact Ql y9.1):P:=f ⟨h⟩
theorem Wq393(h:Q)(f:Zwr Q->P:=by intro y9;refine uf ?_;refine gR 2 rfl Zk Zk Zk (cC (j:=i) rfl Zrf (Zv rfl) (Zv rfl) Wq2 Wq2) rfl ?_;exact gR 3 rfl Zk Zk Zk (cR 0 rfl (Zv rfl) ((cu ad (i*25) 0))) rfl y9.1):P:=f ⟨h⟩
theorem Uz(h:P:=by simp[execOp,resolve,invoke,builtin,hf.ev hx,hf.ev hy,j0]):P:=h
theorem Wq395(h:Q)(f:Zwr Q->P:=by intro y9;exact wi_y rfl (bS rfl rfl) (bM Zrf (cA rfl)) (dJ hf (cK (j:=0) rfl)) rfl y9.1):P:=f ⟨h⟩
theorem Wq396(h:P:=by rw[Fp];refine ng ?_;refine AH (cs':=[row _ _ _,row _ _ _,slv _ _ _ _ _ _,slv _ _ _ _ _ _]) (.inl rfl) Zu rfl rfl rfl ?_;exact⟨_,_,_,rfl,rfl⟩):P:=h
theorem Wq397(h:P:=by have:=congrArg (List.map (·.2)) hL;simp only[List.map_map]at this|-;exact this):P:=h
theorem Ln(h:Q)(f:Zwr Q->P:=by intro y9;refine ZE 0 ?_;refine ZFe 1 1 ?_;exact ZG 2 y9.1):P:=f ⟨h⟩
theorem rf(h:Q)(f:Zwr Q->P:=by intro y9;refine ZM ?_;exact Z_7 y9.1):P:=f ⟨h⟩
theorem Wq400(h:P:=by refine jE (cs':=[row _ _ _,row _ _ _,row _ _ _,row _ _ _,slv _ _ _ _ _ _,slv _ _ _ _ _ _,row _ _ _,slv _ _ _ _ _ _]) (.inr rfl) Zu rfl ?_;exact gr):P:=h
theorem sF(h:Q)(f:Zwr Q->P:=by intro y9;refine ZM ?_;exact fH y9.1):P:=f ⟨h⟩
theorem Uy(h:Q)(f:Zwr Q->P:=by intro y9;refine Z_2 ?_;exact jE (cs':=cdF S l1 fix X1) (.inr rfl) Zu rfl y9.1):P:=f ⟨h⟩
theorem sE(h:Q)(f:Zwr Q->P:=by intro y9;refine Z_7 ?_;exact Zra y9.1):P:=f ⟨h⟩
theorem Wq404(h:P:=by refine Wq75 ?_;refine ZM ?_;refine iC ?_;exact Vd):P:=h
theorem Lm(h:Q)(f:Zwr Q->P:=by intro y9;exact Zy (Jq (Zv rfl) (Zv rfl) Wq1 rfl) y9.1):P:=f ⟨h⟩
theorem Wq406(h:P:=by rintro _ _ ⟨b176,rfl,rfl⟩;refine cW 13 Zk ?_;have hbd:s3.l.length<=600:=aK (i9 (i9 hs hC2 hs2 L.flags L.target L.branch) hC3 hs3 0 0 0).dl Wq1;refine Wq340 ?_;rintro _ _ ⟨A9,c9,rfl,rfl⟩;exact Wq385):P:=h
theorem Wq407(h:P:=by rw[hm']at HC;rw[hm']at hst;refine Z_2 ?_;refine fo (dN (gL (kOf br bu D) X (R.wd ((l++[(v:Int)])++[(va:Int)]))++uF bu bb L U) rfl (λ_ _=>rfl) Zi (λw hi hin=>HC w hin)) rfl ?_;exact Wq389):P:=h
theorem Wq408(h:P:=by rw[hm']at HC;rw[hm']at hst;refine Z_2 ?_;refine ZcL (gL (kOf br bu D) X (R.wd (l++[(va:Int)]))++uF bu bb L U) (λw hi hin=>HC w hin) ?_;exact Wq376):P:=h
theorem Qk(h:Q)(f:Zwr Q->P:=by intro y9;exact ZcA ([fw L U.m]) (λw hi hin=>HWD w hin) y9.1):P:=f ⟨h⟩
theorem Wq410(h:P:=by refine ig ?_;refine EA ?_;rintro _ _ ⟨b191,rfl,rfl⟩;refine cW 9 Zk ?_;have hbd:L.r.l.length<=600:=aK hs.rl Wq1;exact Wq295):P:=h
theorem Wq411(h:Q)(f:Zwr Q->P:=by intro y9;refine Zy (dz (j:=f) (sz:=64) (r:=f*64) rfl Zrf (Zv rfl) (Zv rfl) Wq2 Wq2 Wq1) ?_;exact Zy (dz (j:=a) (sz:=1) (r:=f*64+a) rfl Zrf (Zv rfl) (Zv rfl) Wq2 Wq2 Wq1) y9.1):P:=f ⟨h⟩
theorem Ux(h:Q)(f:Zwr Q->P:=by intro y9;exact Zy (ii (j:=k) had rfl Zrf Zv0 Zv0 Zrf (λ_=>hkl)) y9.1):P:=f ⟨h⟩
theorem Wq413(h:P:=by exact .inl (ht a w hf hi' _ _ λv cs' w' hk hi2 hp=>⟨PE hst hp (λe=>hJ e v cs' hk w' hi2),h v cs' hk _ w' (hf.put kS v) hi2⟩)):P:=h
theorem Gx(h:P:=by unfold Ag.one;grind):P:=h
theorem Wq415(h:P:=by refine pZ ?_;rintro _ _ ⟨b92,rfl,rfl⟩;refine Wq191 ?_;rintro _ _ ⟨_,⟨l10,X10,hl10,rfl⟩,rfl⟩;obtain rfl:l10=C9:=bY;exact Wq205):P:=h
theorem Wq416(h:Q)(f:Zwr Q->P:=by intro y9;refine fH ?_;refine Wq181 ?_;refine jl ?_;refine ZSe (λw hi=>lN L.bt L.bp L.o L.bf L.bg L.n (a/64) k.fr (-1) hp f1 w (hi.get Zh) (hi.get Zh)) ?_;exact EU y9.1):P:=f ⟨h⟩
theorem EC(h:Q)(f:Zwr Q->P:=by intro y9;refine om ?_;exact om y9.1):P:=f ⟨h⟩
theorem Wq418(h:Q)(f:Zwr Q->P:=by intro y9;refine Z_3 ?_;refine Zy (cU rfl rfl (Zv rfl) (u32_wrap_id _ Wq1 Wq1)) ?_;refine ZSe (λw hi=>Hg L M a Wq1 w (bJ.old h hi)) ?_;unfold entV lA Jx;rw[h0];exact y9.1):P:=f ⟨h⟩
theorem Ll(h:Q)(f:Zwr Q->P:=by intro y9;exact gX rfl rfl (t_box rfl rfl) ZJ rfl y9.1):P:=f ⟨h⟩
theorem Wq420(h:Q)(f:Zwr Q->P:=by intro y9;refine Z_8 ?_;refine EK ?_;exact dQ (bW (vs:=ItR.cells ⟨kd,g,n,xA,xc,xb⟩) Zrf Zrf Zv0) (cE h2 (λk v hk=>bZ ItR.V8 (i:=k) hx hk)) rfl y9.1):P:=f ⟨h⟩
theorem Wq421(h:Q)(f:Zwr Q->P:=by intro y9;refine dH rfl (eH 16 rfl Zv0 Zf) rfl ?_;refine LL ?_;refine kw rfl (bW (vs:=x.cells) Zrf Zrf Zv0) (cX Zh rfl) rfl ?_;refine m5 ?_;exact m5 y9.1):P:=f ⟨h⟩
theorem Wq422(h:Q)(f:Zwr Q->P:=by intro y9;exact eu 5 rfl Zk Zk Zk (bM Zrf Zv0) (dg rfl) (bL (t:=347) Zh) rfl y9.1):P:=f ⟨h⟩
theorem Wq423(h:P:=by refine mR ?_;refine px (cs':=[slD s A1 c1,slR s A2 c2]) (.inl rfl) Zu rfl rfl rfl Zh Zrf Zrf ?_;exact⟨⟨A1,c1,A2,c2⟩,rfl,rfl⟩):P:=h
theorem Wq424(h:Q)(f:Zwr Q->P:=by intro y9;refine bU (Zdn [7]) Zk ?_;refine uj ?_;refine pQ ?_;refine po 5 rfl Zk Zk Zk Zk (bW (vs:=x.cells) Zrf Zrf Zv0) (cX Zh rfl) rfl ?_;exact ZE 6 y9.1):P:=f ⟨h⟩
theorem Wq425(h:P:=by refine ig ?_;refine Wq80 ?_;rintro _ _ ⟨A9,c9,rfl,rfl⟩;exact Wq164):P:=h
theorem Wq426(h:P:=by refine px (cs':=[]) (.inl rfl) Zu rfl rfl rfl Zh Zrf Zrf ?_;exact gr):P:=h
theorem Wq427(h:Q)(f:Zwr Q->P:=by intro y9;exact ur rfl (bQ rfl rfl) (.cons (cA rfl) (.cons (cA rfl) .nil)) (λ_ _=>rfl) (λhg w hi=>uK o.v Y1 Y2 hwo w (r1.Wh hi) (r2.Wh hi)) rfl y9.1):P:=f ⟨h⟩
theorem Lk(h:Q)(f:Zwr Q->P:=by intro y9;exact bR (λm:gi=>m.d.lines) h y9.1):P:=f ⟨h⟩
theorem Wq429(h:P:=by simp[execOp,hf.ev hx,hf.ev hy,Instr.storeAt,Instr.sureAddr,storeVar,hT,hcs,storeCells,Addr.add_lit,run_store _ _ _ v _ h1,hc,hfz,stored]):P:=h
theorem ug(h:Q)(f:Zwr Q->P:=by intro y9;refine dR ?_;exact Zt y9.1):P:=f ⟨h⟩
theorem ym(h:Q)(f:Zwr Q->P:=by intro y9;refine fT ?_;exact Jl y9.1):P:=f ⟨h⟩
theorem Wq432(h:P:=by refine Z_2 ?_;refine fF (bS rfl rfl) rfl (dh rfl (λ_ _=>rfl) (λw hi=>lU w (ht.old hi))) rfl ?_;exact US):P:=h
theorem Wq433(h:P:=by simp only[au,ac]at hc3;omega):P:=h
theorem Wq434(h:P:=by rw[hr];exact h _ _ _ ⟨rfl,rfl⟩ (hi.upd (hu _) h2 (nV h2 (by grind [bJ.bs]) h3 (λb hb=>Or.inl hb))) (λe=>by cases e)):P:=h
theorem Wq435(h:P:=by refine Z_2 ?_;refine fF (bS rfl rfl) rfl (dh rfl (λ_ _=>rfl) (λw hi=>T4 w (ht.old hi))) rfl ?_;exact US):P:=h
theorem Wq436(h:Q)(f:Zwr Q->P:=by intro y9;refine Z_5 ?_;refine Zy (eK (Zv rfl) (Zv rfl) (show _=((min x0.toNat 4 - m:Nat):Int)from by rw[bD _ ⟨by omega,by omega⟩];omega)) ?_;exact Z_2 y9.1):P:=f ⟨h⟩
theorem Wq437(h:Q)(f:Zwr Q->P:=by intro y9;rw[VL m n _ Wq1,show m.length=(m.set n ((m.getD n HI.zero).imm' (IntKind.u32.wrap (l9.length:Int)))).length by grind];refine dR ?_;refine Z_3 ?_;exact Wq6 y9.1):P:=f ⟨h⟩
theorem Wq438(h:P:=by simp[execOp,hf.ev hx,hf.ev hy,Instr.storeAt,Instr.sureAddr,storeVar,hT,hcs,storeCells,Addr.add_lit,run_store _ _ _ v _ h1,hc,hfz,ho]):P:=h
theorem Wq439(h:P:=by have h9:=hc15;rw[show(rnV (dS E.RZ k x2)).length=(dS E.RZ k x2).length from ax _]at h9;exact h9):P:=h
theorem xx(h:Q)(f:Zwr Q->P:=by intro y9;refine dR ?_;exact Z_5 y9.1):P:=f ⟨h⟩
theorem xw(h:Q)(f:Zwr Q->P:=by intro y9;refine Z_2 ?_;exact pX y9.1):P:=f ⟨h⟩
theorem Wq442(h:Q)(f:Zwr Q->P:=by intro y9;refine Z_3 ?_;refine gP (Zdn [13,14]) [(0,0),(1,1),(2,0),(3,4),(4,4),(5,0),(9,0),(10,0),(11,0),(12,0),(6,2),(7,0),(8,0),(13,2),(14,2)] Zk Zk ?_;exact m5 y9.1):P:=f ⟨h⟩
theorem xv(h:Q)(f:Zwr Q->P:=by intro y9;refine Z_6 ?_;exact pZ y9.1):P:=f ⟨h⟩
theorem Wq444(h:Q)(f:Zwr Q->P:=by intro y9;refine Z_6 ?_;refine Zy (eK (Zv rfl) (Zv rfl) (show _=((i0+1:Nat):Int)from by rw[show OM (some i0)=(i0:Int)from rfl,bI];omega)) ?_;exact Z_4 y9.1):P:=f ⟨h⟩
theorem Uw(h:Q)(f:Zwr Q->P:=by intro y9;exact Zy (eK (Zv rfl) (Zv rfl) (show _=(0:Int)from rfl)) y9.1):P:=f ⟨h⟩
theorem Wq446(h:P:=by rw[hc12];simp only[ai];refine Z_4 ?_;refine ZcM ([fw L M]) (λw hi hin=>vM L M a m ain mu w hin) ?_;exact Wq404):P:=h
theorem Wq447(h:P:=by rw[hr];exact h _ _ _ ⟨rfl,rfl⟩ (hi.upd (hu _) h2 (nV h2 (by simp[bJ.bs]) h3 (λb hb=>Or.inl hb))) (λe=>by cases e)):P:=h
theorem Wq448(h:Q)(f:Zwr Q->P:=by intro y9;exact ZSe (λw hi=>BR rfl hb0 hL (h.Wh hi) (λx hx=>(hr x hx).Wh hi)) y9.1):P:=f ⟨h⟩
theorem Wq449(h:Q)(f:Zwr Q->P:=by intro y9;refine Z_5 ?_;refine Zy (eK (Zv rfl) (Zv rfl) (show _=((x.length+(j+1):Nat):Int)from by rw[bD _ ⟨by omega,by omega⟩];omega)) ?_;exact Z_2 y9.1):P:=f ⟨h⟩
theorem Wq450(h:P:=by exact⟨⟨λ_ _ _ h=>h,λh=>h⟩,hn _ w (hf.put kS _) hi'⟩):P:=h
theorem Wq451(h:P:=by refine ZE 13 ?_;refine Wq117 ?_;rintro _ _ ⟨rfl,rfl⟩;exact Wq374):P:=h
theorem Wq452(h:Q)(f:Zwr Q->P:=by intro y9;refine Z_8 ?_;exact ZcL (ubF bu bb L D Y U d) (λw hi hin=>HD w hin (λw' hk=>hi.Xp Zi (Zhc (slD s X.Ad X.cd)) (Zhc (slR s X.Ar X.cr)) Wq1 Wq1 hk)) y9.1):P:=f ⟨h⟩
theorem Wq453(h:P:=by refine Zrb ([_,_]) ?_;rw[hf1];have hr1:r1=(l.take l.length).foldl step r0:=hr1;rw[bC]at hr1;rw[<-hr1];exact gr):P:=h
theorem Wq454(h:Q)(f:Zwr Q->P:=by intro y9;refine bU (Zdr [14] (mU b5 [.i op,.i dst,.i xa,.i xb,.w imm])) Zk ?_;refine pS ?_;refine ZE 3 ?_;exact ZFe 4 0 y9.1):P:=f ⟨h⟩
theorem Uu(h:P:=by simp only[mX,oa, *,ai,ah]):P:=h
theorem Ut(h:P:=by simp only[tv,oa, *,ai,ah]):P:=h
theorem Wq457(h:Q)(f:Zwr Q->P:=by intro y9;refine ZA ?_;exact eT (cZ (vs:=tr.cells) Zrf rfl rfl (mQ rfl) Za o6) y9.1):P:=f ⟨h⟩
theorem kR(h:Q)(f:Zwr Q->P:=by intro y9;exact cW 9 Zk y9.1):P:=f ⟨h⟩
theorem Qj(h:Q)(f:Zwr Q->P:=by intro y9;exact eT (uw Zrf rfl rfl rfl Za Wq1) y9.1):P:=f ⟨h⟩
theorem Qi(h:Q)(f:Zwr Q->P:=by intro y9;exact EX rfl Zh Zrf Zrf (Zv rfl) rfl y9.1):P:=f ⟨h⟩
theorem Wq461(h:P:=by rintro _ _ ⟨_,⟨A',c',rfl,rfl⟩,rfl⟩;refine Z_4 ?_;exact Qg):P:=h
theorem Wq462(h:Q)(f:Zwr Q->P:=by intro y9;refine dQ (bW (vs:=s9.cells (.slice X1.Ad s9.d.length X1.cd) (.slice X1.Ar s9.r.length X1.cr)) Zrf Zrf Zv0) (cX Zh rfl) rfl ?_;exact jC y9.1):P:=f ⟨h⟩
theorem Wq463(h:Q)(f:Zwr Q->P:=by intro y9;refine ZE 0 ?_;refine ZFe 1 3 ?_;refine eu 2 rfl Zk Zk Zk (bM Zrf Zv0) (dg rfl) (bL (t:=41) Zh) rfl ?_;refine ZE 3 ?_;exact Wq199 y9.1):P:=f ⟨h⟩
theorem Wq464(h:Q)(f:Zwr Q->P:=by intro y9;refine Z_9 ?_;exact ZS (λw hi=>mw A c l B e its w (h.Wh hi) (λy hy=>(hl y hy).Wh hi) (h2.Wh hi) (λx hx=>(hit x hx).o.Wh hi)) y9.1):P:=f ⟨h⟩
theorem Wq465(h:Q)(f:Zwr Q->P:=by intro y9;refine Zy (mh (Zv rfl) (Zv rfl) Wq1 (show _=((a/64:Nat):Int)from by rw[Int.tdiv_eq_ediv_of_nonneg Wq1,u32_wrap_id _ Wq1 Wq1];omega)) ?_;exact lD y9.1):P:=f ⟨h⟩
theorem Us(h:Q)(f:Zwr Q->P:=by intro y9;exact fy rfl rfl (uw Zrf rfl rfl rfl Za Wq1) ZJ y9.1):P:=f ⟨h⟩
theorem Lh(h:Q)(f:Zwr Q->P:=by intro y9;exact ZT (λw hi=>HS w (hi.get Zh)) y9.1):P:=f ⟨h⟩
theorem EB(h:P:=by refine gq ?_;exact ru):P:=h
theorem Wq469(h:Q)(f:Zwr Q->P:=by intro y9;refine fb ?_;refine Wq141 ?_;refine Z_9 ?_;refine ZSe (λw hi=>HX X1 Ap cp w (hi.rd (Zhc (sl .i64 3 Ap q.Wa.length cp q.Wa)))) ?_;exact Z_3 y9.1):P:=f ⟨h⟩
theorem Wq470(h:Q)(f:Zwr Q->P:=by intro y9;refine Z_5 ?_;refine ZSe (λw hi=>zU bu L.bm bb w (bJ.old hu hi)) ?_;refine ZA ?_;refine Zy (mh (Zv rfl) (Zv rfl) Wq1 hq) ?_;exact lD y9.1):P:=f ⟨h⟩
theorem xu(h:Q)(f:Zwr Q->P:=by intro y9;refine Z_6 ?_;exact Wq6 y9.1):P:=f ⟨h⟩
theorem Wq472(h:Q)(f:Zwr Q->P:=by intro y9;exact Zy (cw (j:=k) (sz:=1) (r:=k) rfl Zrf (Zv rfl) (Zv rfl) Wq2 Wq2 Wq1) y9.1):P:=f ⟨h⟩
theorem Wq473(h:Q)(f:Zwr Q->P:=by intro y9;refine Z_6 ?_;refine Zyy rfl rfl (cU rfl rfl (cA rfl) UL) ?_;refine Z_2 ?_;refine Zyy rfl rfl (cU rfl rfl (cA rfl) UL) ?_;exact gm y9.1):P:=f ⟨h⟩
theorem xt(h:P:=by grind [World.setRow]):P:=h
theorem Ur(h:Q)(f:Zwr Q->P:=by intro y9;refine jj ?_;exact ZSe (λw hi=>HR2 A1 A2 c1 c2 w) y9.1):P:=f ⟨h⟩
theorem Gw(h:Q)(f:Zwr Q->P:=by intro y9;refine ZE 11 ?_;exact cW 12 Zk y9.1):P:=f ⟨h⟩
theorem Wq477(h:Q)(f:Zwr Q->P:=by intro y9;exact ZS (λw hi=>uP hb0 hL (h.Wh hi) (λx hx=>(hr x hx).Wh hi)) y9.1):P:=f ⟨h⟩
theorem Wq478(h:Q)(f:Zwr Q->P:=by intro y9;refine Z_6 ?_;refine Zy (GP (j:=k) rfl Zrf Zrf (Zv rfl) (Zv rfl) Wq2 Wq2 (λ_=>mE hkl)) ?_;refine Z_6 ?_;exact Zy (Jt Zv0 Zv0 rfl) y9.1):P:=f ⟨h⟩
theorem Wq479(h:P:=by simp only[aS,aa,au]at h1 h2;exact⟨by omega,by omega,h2.1,h2.2⟩):P:=h
theorem Wq480(h:P:=by exact λ_=>by rintro _ _ ⟨rfl,rfl⟩;exact eh (bL (t:=242) Zh) (bL (t:=248) Zh)):P:=h
theorem Wq481(h:Q)(f:Zwr Q->P:=by intro y9;refine kR ?_;exact gX rfl rfl (ff rfl rfl Zrf Zrf rfl rfl) (λ_=>by rintro _ _ ⟨b40,rfl,rfl⟩;exact bL (t:=128) Zh) rfl y9.1):P:=f ⟨h⟩
theorem BW(h:Q)(f:Zwr Q->P:=by intro y9;refine ZG 4 ?_;exact kU y9.1):P:=f ⟨h⟩
theorem BV(h:Q)(f:Zwr Q->P:=by intro y9;exact ZSe (λw hi=>HC w) y9.1):P:=f ⟨h⟩
theorem Wq484(h:P:=by refine m8 (cs':=(egF be bu bb L D s X Y U d E)) (.inl rfl) Zu rfl rfl Zh Zrf Zrf ?_;exact⟨X,Y,E,hE,hG9,rfl,rfl⟩):P:=h
theorem Wq485(h:Q)(f:Zwr Q->P:=by intro y9;exact fo (MP rfl rfl Za rfl rfl (λw hi=>h.Wh hi) cN Wq1) rfl y9.1):P:=f ⟨h⟩
theorem Uq(h:P:=by simp only[aq,aP]):P:=h
theorem yl(h:Q)(f:Zwr Q->P:=by intro y9;refine ng ?_;exact Zra y9.1):P:=f ⟨h⟩
theorem Wq488(h:Q)(f:Zwr Q->P:=by intro y9;refine Z_8 ?_;refine EK ?_;exact dQ (bW (vs:=x.cells) Zrf Zrf Zv0) (cE h2 (λk v hk=>bZ ItR.V8 (i:=k) hx hk)) rfl y9.1):P:=f ⟨h⟩
theorem Wq489(h:Q)(f:Zwr Q->P:=by intro y9;refine Zy (zR Zv0 Zv0 (P9 root hroot)) ?_;refine xC ?_;refine ZA ?_;refine Wq125 ?_;exact ZSe (λw hi=>HE1 w (bJ.old h hi)) y9.1):P:=f ⟨h⟩
theorem Wq490(h:P:=by exact(show EL _ _ from by(try dsimp only);rw[hstk];exact Zj)):P:=h
theorem Wq491(h:Q)(f:Zwr Q->P:=by intro y9;refine ng ?_;exact AH (cs':=[slv _ _ _ _ _ _]) (.inl rfl) Zu rfl rfl rfl y9.1):P:=f ⟨h⟩
theorem Wq492(h:Q)(f:Zwr Q->P:=by intro y9;refine Z_6 ?_;refine Zy (cC (j:=k2) rfl Zrf (Zv rfl) (Zv rfl) Wq2 Wq2) ?_;refine dQ (bM Zrf Zv0) (vx Zh hx1) rfl ?_;exact gq y9.1):P:=f ⟨h⟩
theorem Ez(h:P:=by refine Z_7 ?_;exact ru):P:=h
theorem Ey(h:Q)(f:Zwr Q->P:=by intro y9;exact Zy (i5 Zv0 Zv0 rfl) y9.1):P:=f ⟨h⟩
theorem mb(h:Q)(f:Zwr Q->P:=by intro y9;exact cW 10 Zk y9.1):P:=f ⟨h⟩
theorem Wq496(h:Q)(f:Zwr Q->P:=by intro y9;rw[<-ht,List.map_append,aq,show 512 - (T1++[x]).length=511 - T1.length by rw[aj];show 512 - (T1.length+1)=_;omega];exact y9.1):P:=f ⟨h⟩
theorem Wq497(h:P:=by obtain⟨n1,n2⟩:=Hp (T:=T2.map ItR.it) hno;rw[n1]at hzl;rw[n2]at hvl;have hzl0:Z5.length=0:=hzl;exact Wq383):P:=h
theorem Wq498(h:Q)(f:Zwr Q->P:=by intro y9;refine kv ?_;refine Z_6 ?_;refine kv ?_;exact Z_6 y9.1):P:=f ⟨h⟩
theorem Wq499(h:Q)(f:Zwr Q->P:=by intro y9;exact ZcM (gL K X (R.wd (l++[x]))) (λw hi hin=>ph K X R l x w hin) y9.1):P:=f ⟨h⟩
theorem Wq500(h:Q)(f:Zwr Q->P:=by intro y9;exact Zrb ([row _ _ _,row _ _ _,slv _ _ _ _ _ _,slv _ _ _ _ _ _,row _ _ _]) y9.1):P:=f ⟨h⟩
theorem kQ(h:Q)(f:Zwr Q->P:=by intro y9;exact cW 5 Zk y9.1):P:=f ⟨h⟩
theorem Wq502(h:Q)(f:Zwr Q->P:=by intro y9;refine po 9 rfl Zk Zk Zk Zk (bM Zrf (Zv rfl)) (dG Zh (jy Wq1)) rfl ?_;refine ZFe 12 3 ?_;refine cW 13 Zk ?_;exact o9 y9.1):P:=f ⟨h⟩
theorem Wq503(h:P:=by rintro _ _ ⟨A9,c9,rfl,rfl⟩;refine Wq249 ?_;subst hC2 hs2;unfold Lw.go;rw[hc3,hc5,hc8,hc10,hc14,hc18,hc20];rfl):P:=h
theorem Wq504(h:Q)(f:Zwr Q->P:=by intro y9;rw[qP (Or.inl hr)];unfold Lw.reckon;rw[show(op !=25)=true by simp;omega];exact y9.1):P:=f ⟨h⟩
theorem Wq505(h:P:=by refine EA ?_;rintro _ _ ⟨b134,rfl,rfl⟩;refine kR ?_;have hbd:L.d.l.length<=600:=aK hs.dl Wq1;refine Wq323 ?_;exact Wq503):P:=h
end
end Go.Ink
