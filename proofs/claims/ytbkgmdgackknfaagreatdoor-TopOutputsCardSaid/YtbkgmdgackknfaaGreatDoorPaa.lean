/- Lemmas. -/
import Derived.WalkKit
import Derived.WalkSpells
import Derived.WalkLawsBesides
import Derived.OrdersHeld
import Derived.Deep.RegionHeld3
import Derived.Maps.AppendAt
import Derived.Lib.SliceRun
import Derived.ProofKit
import Derived.SizedLaws
import Derived.Carry
import Derived.Below
import Derived.Laws.BytesArg
import Derived.Laws.OwnMore
import Derived.Laws.Strings
import Derived.Laws.IdiomCopy
set_option linter.unusedSimpArgs false
set_option linter.unusedVariables false
set_option maxRecDepth 100000
set_option maxHeartbeats 4000000
namespace Go.Ink
abbrev aa:=@List.getElem?_eq_getElem
abbrev ac:=@decide_eq_false_iff_not
abbrev ae:=@decide_eq_true_eq
abbrev ah:=@cond_false
abbrev ai:=@cond_true
abbrev aj:=@List.getElem?_eq_some_iff
abbrev ak:=@List.mem_of_getElem?
abbrev ap:=@Int.eq_ofNat_of_zero_le
abbrev aq:=@List.length_append
abbrev ar:=@decide_eq_false
abbrev au:=@Nat.zero_le
abbrev aw:=@List.append_assoc
abbrev ax:=@Option.some.inj
abbrev ay:=@decide_eq_true
abbrev az:=@List.append_nil
abbrev aB:=@List.mem_singleton
abbrev aC:=@IntKind.wrap_u32
abbrev aD:=@Bool.and_eq_true
abbrev aE:=@List.length_replicate
abbrev aF:=@List.mem_append
abbrev aG:=@List.mem_cons
abbrev aI:=@List.length_take
abbrev aJ:=@List.cons_append
abbrev aK:=@IntKind.wrap_u64
abbrev aL:=@Nat.le_refl
abbrev aM:=@Int.toNat_natCast
abbrev aN:=@Nat.le_trans
abbrev aO:=@Int.tmod_eq_emod_of_nonneg
abbrev aP:=@List.nil_append
abbrev aQ:=@List.length_cons
abbrev aR:=@List.Sublist.refl
abbrev aS:=@List.mem_nil_iff
abbrev aU:=@Option.some.injEq
abbrev aV:=@List.length_map
abbrev aW:=@List.getElem?_map
abbrev aX:=@Prod.mk.injEq
abbrev aY:=@List.all_eq_true
abbrev aZ:=@List.getElem?_append_left
abbrev bh:=@List.mem_of_mem_take
abbrev bj:=@bne_self_eq_false
abbrev bl:=@List.take_length
abbrev bn:=@List.mem_map
abbrev bo:=@Int.tdiv_eq_ediv_of_nonneg
abbrev bA:=@IntKind.wrap_i64
open Go.RowKit
@[match_pattern]abbrev _root_.Go.Value.p(b:Nat):Value:=.pointer (some ⟨b,0,none⟩)
@[match_pattern]abbrev _root_.Go.Value.i(n:Int):Value:=.int .i64 n
@[match_pattern]abbrev _root_.Go.Value.w(n:Int):Value:=.int .u32 n
@[match_pattern]abbrev _root_.Go.Lit.i(n:Int):Lit:=.int .i64 n
@[match_pattern]abbrev _root_.Go.Lit.w(n:Int):Lit:=.int .u32 n
@[match_pattern]abbrev sA(b:Nat):Option Addr:=some ⟨b,0,none⟩
structure Zwr(Q:Prop):Prop where
 h:Q
section
variable{P Q:Prop}
theorem Wq1(h:P:=by omega):P:=h
theorem Wq2(h:P:=by exact λ_=>by omega):P:=h
theorem Wq3(h:P:=by first|exact oc rfl|exact List.mem_append_left _ (oc rfl)|exact List.mem_append_right _ (oc rfl)|exact List.mem_append_right _ (List.mem_append_right _ (List.mem_append_left _ (oc rfl)))|exact List.mem_append_right _ (List.mem_append_right _ (List.mem_append_right _ (oc rfl)))):P:=h
theorem Wq4(h:P:=by as_aux_lemma=>kernel_rfl):P:=h
theorem Wq5(h:Q)(f:Zwr Q->P:=by intro y9;refine iY (cs':=[row _ _ _,slv _ _ _ _ _ _,slv _ _ _ _ _ _,row _ _ _,exC _ _ _ _,row _ _ _,row _ _ _,row _ _ _,row _ _ _,row _ _ _,slv _ _ _ _ _ _,slv _ _ _ _ _ _,row _ _ _,slv _ _ _ _ _ _]) (.inr rfl) Zu rfl ?_;exact y9.1):P:=f ⟨h⟩
theorem Wq6(h:Q)(f:Zwr Q->P:=by intro y9;refine Zy (ef Zv0 Zv0 Zl) ?_;refine Z_2 ?_;exact y9.1):P:=f ⟨h⟩
theorem Wq7(h:P:=by decide):P:=h
theorem Wq8(h:Q)(f:Zwr Q->P:=by intro y9;refine Dl Zk ?_;refine Z_5 ?_;refine ZM ?_;refine Z_4 ?_;refine ph (cs':=[]) (.inl rfl) Zu rfl rfl rfl Zh Zrf Zrf ?_;exact y9.1):P:=f ⟨h⟩
theorem Wq9(h:P:=by refine ZM ?_;refine Z_3 ?_;refine bG [row b2 _ _,slv 305 5 A c.length cc (c.flatMap II.cells),sl .i64 3 A3 (dR pl p.RV).length c3 (dR pl p.RV),sl .i64 3 A4 (dR pl p.RX).length c4 (dR pl p.RX)] Zj ?_;refine pR (cs':=[slv _ _ _ _ _ _,slv _ _ _ _ _ _,slv _ _ _ _ _ _]) (.inl rfl) Zu rfl rfl Zh Zrf Zrf ?_;rw[hsT _ _ hm1 hm2];exact⟨⟨A,cc,A3,c3,A4,c4⟩,rfl,rfl⟩):P:=h
theorem jj(h:Q)(f:Zwr Q->P:=by intro y9;refine fW (gD rfl rfl Zrf Zrf rfl rfl rfl) rfl ?_;exact y9.1):P:=f ⟨h⟩
theorem bR(h:P:=by grind):P:=h
theorem Wq12(h:Q)(f:Zwr Q->P:=by intro y9;refine Z_5 ?_;refine ZM ?_;refine Z_3 ?_;refine bG [row b2 _ _,slv 305 5 A c.length cc (c.flatMap II.cells),sl .i64 3 A3 (dR pl p.RV).length c3 (dR pl p.RV),sl .i64 3 A4 (dR pl p.RX).length c4 (dR pl p.RX)] Zj ?_;refine pR (cs':=[slv _ _ _ _ _ _,slv _ _ _ _ _ _,slv _ _ _ _ _ _]) (.inl rfl) Zu rfl rfl Zh Zrf Zrf ?_;exact y9.1):P:=f ⟨h⟩
theorem mQ(h:Q)(f:Zwr Q->P:=by intro y9;refine xH (cs':=[]) (.inl rfl) Zu rfl rfl rfl ?_;exact y9.1):P:=f ⟨h⟩
theorem Wq14(h:P:=by refine eE (iL Zrf rfl rfl rfl Za (by simp[ints,hR])) ?_;rintro _ _ ⟨rfl,rfl⟩;rw[LA (by simp[hR])];refine Z_8 ?_;refine Zrb ([row _ _ _,slv _ _ _ _ _ _,slv _ _ _ _ _ _]) ?_;exact⟨rfl,rfl⟩):P:=h
theorem Wq15(h:Q)(f:Zwr Q->P:=by intro y9;refine fa (bM rfl rfl) rfl rfl ?_;refine fa (bM rfl rfl) rfl rfl ?_;refine fa (bM rfl rfl) rfl rfl ?_;refine fa (bM rfl rfl) rfl rfl ?_;exact y9.1):P:=f ⟨h⟩
theorem gq(h:P:=by simp only[maxLen];omega):P:=h
theorem lR(h:Q)(f:Zwr Q->P:=by intro y9;refine GC rfl (bF Zrf Zv0) (cN Zh rfl) rfl ?_;exact y9.1):P:=f ⟨h⟩
theorem kY(h:Q)(f:Zwr Q->P:=by intro y9;refine fW (i6 rfl rfl Zrf Zrf rfl rfl) rfl ?_;exact y9.1):P:=f ⟨h⟩
theorem iU(h:Q)(f:Zwr Q->P:=by intro y9;refine cJ rfl (rfl) ?_;exact y9.1):P:=f ⟨h⟩
theorem pX(h:Q)(f:Zwr Q->P:=by intro y9;refine gK ?_;refine ret4 (cs':=[]) (.inl rfl) Zu rfl rfl rfl rfl rfl ?_;exact y9.1):P:=f ⟨h⟩
theorem fy(h:P:=by exact⟨rfl,rfl⟩):P:=h
theorem IK(h:Q)(f:Zwr Q->P:=by intro y9;refine xH (cs':=[row _ _ _,row _ _ _,row _ _ _,row _ _ _,slv _ _ _ _ _ _,slv _ _ _ _ _ _,row _ _ _,slv _ _ _ _ _ _]) (.inl rfl) Zu rfl rfl rfl ?_;exact y9.1):P:=f ⟨h⟩
theorem M4(h:P:=by refine Zrb ([row _ _ _,slv _ _ _ _ _ _,slv _ _ _ _ _ _]) ?_;rw[hst];exact⟨⟨_,_,_,_⟩,rfl,rfl⟩):P:=h
theorem Wq24(h:Q)(f:Zwr Q->P:=by intro y9;refine dx rfl (AX Zv0) rfl ?_;refine dx rfl (j5 Zv0 (.zero _ _)) rfl ?_;refine dx rfl (j5 Zv0 (.succ _ (.zero _ _))) rfl ?_;exact y9.1):P:=f ⟨h⟩
theorem QB(h:P:=by first|exact IntWalk.u64_in _ ⟨by omega,by omega⟩|exact rfl):P:=h
theorem IG(h:Q)(f:Zwr Q->P:=by intro y9;refine Zrb ([row _ _ _,row _ _ _,row _ _ _,row _ _ _,slv _ _ _ _ _ _,slv _ _ _ _ _ _,row _ _ _,slv _ _ _ _ _ _,exC _ _ _ _]) ?_;exact y9.1):P:=f ⟨h⟩
theorem cH(h:P:=by simp):P:=h
theorem lU(h:Q)(f:Zwr Q->P:=by intro y9;refine ZE 0 ?_;refine ZE 1 ?_;exact y9.1):P:=f ⟨h⟩
theorem pO(h:P:=by simp only[bO, *,ai,ah];exact rfl):P:=h
theorem Wq30(h:Q)(f:Zwr Q->P:=by intro y9;refine bL ⟨λj=>List.elem j [],[]⟩ Zk ?_;refine ZE 0 ?_;exact y9.1):P:=f ⟨h⟩
theorem Nn(h:Q)(f:Zwr Q->P:=by intro y9;refine ZL ?_;refine Z_6 ?_;refine ZM ?_;refine Z_4 ?_;refine ph (cs':=[slv _ _ _ _ _ _,slv _ _ _ _ _ _]) (.inl rfl) Zu rfl rfl rfl Zh Zrf Zrf ?_;exact y9.1):P:=f ⟨h⟩
theorem MV(h:Q)(f:Zwr Q->P:=by intro y9;refine dK (bF Zrf (Zv rfl)) (dc (by assumption) rfl) rfl ?_;exact y9.1):P:=f ⟨h⟩
theorem eQ(h:Q)(f:Zwr Q->P:=by intro y9;refine Dl Zk ?_;exact y9.1):P:=f ⟨h⟩
theorem Wq34(h:Q)(f:Zwr Q->P:=by intro y9;refine Z_8 ?_;refine Zy (bS (j:=i) rfl Zrf (Zv rfl) (Zv rfl) Wq2 Wq2) ?_;refine dK (bP (vs:=x.cells) Zrf Zrf Zv0) (dY h2 (λj v hj=>da ItR.RO (i:=j) hx hj)) rfl ?_;refine Z_2 ?_;refine ZSe (λw hi=>HT w) ?_;exact y9.1):P:=f ⟨h⟩
theorem gf(h:Q)(f:Zwr Q->P:=by intro y9;refine Z_8 ?_;refine Zra ?_;exact y9.1):P:=f ⟨h⟩
theorem Wq36(h:P:=by refine ZcL (fb (kOf br bu D) X ((R.wd l).wt ⟨ca,ad⟩)) (λw hi hin=>i9 (kOf br bu D) X ((R.wd l).wt ⟨ca,ad⟩) _ 1 1 [v] (show l.length+1<=1000000 by omega) w hin (λw' hk=>hi.Sr Zi Zh hk)) ?_;rintro _ _ ⟨_,⟨A',c',rfl,rfl⟩,rfl⟩;refine Z_2 ?_;refine bG (fb (kOf br bu D) ⟨A',c',X.Ar,X.cr⟩ (((R.wd l).wt ⟨ca,ad⟩).wd (l++[v]))++uF bu bb L U') Zj ?_;refine iY (cs':=[row _ _ _,slv _ _ _ _ _ _,slv _ _ _ _ _ _,row _ _ _,exC _ _ _ _,row _ _ _]) (.inr rfl) Zu rfl ?_;exact⟨⟨A',c',X.Ar,X.cr⟩,rfl,rfl⟩):P:=h
theorem Wq37(h:P:=by refine Z_3 ?_;refine bG (row b6 (BA.cells y) 202::row b7 (RS.cells x2) 208::baC y::enF be E) Zj ?_;refine xG (cs':=baC y::enF be E) (.inl rfl) (List.Sublist.cons _ (List.Sublist.cons _ (aR _))) rfl rfl rfl rfl Zh Zh Zrf Zrf Zrf Zrf ?_;exact⟨E,hE,by rw[hfn],by rw[hfn];exact⟨y,x2,rfl,rfl,λ_ _ e=>nomatch e⟩⟩):P:=h
theorem Wq38(h:Q)(f:Zwr Q->P:=by intro y9;refine Z_9 ?_;refine Zrb ([row _ _ _,slv _ _ _ _ _ _,slv _ _ _ _ _ _]) ?_;exact y9.1):P:=f ⟨h⟩
theorem RD(h:P:=by exact⟨⟨show i+1<=60 by omega,u8s_app ho1 hE1,show(o++E).length<=15*(i+1) by rw[aq];omega⟩,show 60 - (i+1)<60 - i by omega⟩):P:=h
theorem wG(h:P:=by simp only[zG, *,ai,ah];exact rfl):P:=h
theorem nN(h:Q)(f:Zwr Q->P:=by intro y9;refine dx rfl (AX Zv0) rfl ?_;exact y9.1):P:=f ⟨h⟩
theorem pW(h:P:=by simp only[yd, *,ai,ah]):P:=h
theorem Dd(h:Q)(f:Zwr Q->P:=by intro y9;refine bL ⟨λj=>List.elem j [],[]⟩ Zk ?_;refine lU ?_;exact y9.1):P:=f ⟨h⟩
theorem Wq44(h:P:=by refine pR (cs':=(bQ []::DY bm bp ad c gn ps P' ((gs.set i g').flatMap MG.cs))) (.inl rfl) Zu rfl rfl Zh Zrf Zrf ?_;exact⟨P',g',uc,[],⟨h1,h2,h3,λw _=>tN w⟩,rfl,rfl⟩):P:=h
theorem Wq45(h:Q)(f:Zwr Q->P:=by intro y9;refine cn 7 Zk ?_;refine jT rfl rfl (eo (dq bw u) rfl (λ_ _=>rfl) Zi (λw hi hin=>HE (sA b115) 1 w hin (λw' hk=>hi.Sr Zi (show Has _ (slv 35 4 (sA b115) 1 1 [.i kd,.i gu,.i n,.slice yA yb.length yc])from Zh) hk) (λw' hk=>RdV.RT hy4 hi Zi hk) (λw' hk=>RdV.RT ht hi Zi hk))) (λ_=>by rintro _ _ ⟨_,⟨u3,Y2,by2,cy2,J3,⟨hu3,hb2,hR3⟩,rfl,rfl⟩,rfl⟩;exact bK (t:=35) Zh) rfl ?_;exact y9.1):P:=f ⟨h⟩
theorem Wq46(h:Q)(f:Zwr Q->P:=by intro y9;refine ZM ?_;refine Z_3 ?_;refine pR (cs':=[]) (.inl rfl) Zu rfl rfl Zh Zrf Zrf ?_;exact y9.1):P:=f ⟨h⟩
theorem Wq47(h:Q)(f:Zwr Q->P:=by intro y9;refine cn 7 Zk ?_;refine jT rfl rfl (eo (dq bw u) rfl (λ_ _=>rfl) Zi (λw hi hin=>HE (sA b96) 1 w hin (λw' hk=>hi.Sr Zi (show Has _ (slv 35 4 (sA b96) 1 1 [.i kd,.i gu,.i n,.slice yA yb.length yc])from Zh) hk) (λw' hk=>RdV.RT hy4 hi Zi hk) (λw' hk=>RdV.RT ht hi Zi hk))) (λ_=>by rintro _ _ ⟨_,⟨u2,Y2,by2,cy2,J3,⟨hu2,hb2,hR3⟩,rfl,rfl⟩,rfl⟩;exact bK (t:=35) Zh) rfl ?_;exact y9.1):P:=f ⟨h⟩
theorem AR(h:Q)(f:Zwr Q->P:=by intro y9;refine jT rfl rfl (i6 rfl rfl Zrf Zrf rfl rfl) ZJ rfl ?_;exact y9.1):P:=f ⟨h⟩
theorem Wq49(h:Q)(f:Zwr Q->P:=by intro y9;refine jT rfl rfl (eo (dq bm m) rfl (λ_ _=>rfl) Zi (λw hi hin=>HD (sA b111) 1 w hin (λw' hk=>hi.Sr Zi (show Has _ (slv 35 4 (sA b111) 1 1 [.i kd,.i gu,.i n,.slice yA yb.length yc])from Zh) hk) (λw' hk=>RdV.RT hy4 hi Zi hk) (λw' hk=>RdV.RT ht hi Zi hk))) (λ_=>by rintro _ _ ⟨_,⟨m2,Y,bz,cz,J2,⟨hm2,hl2,hR2⟩,rfl,rfl⟩,rfl⟩;exact bK (t:=35) Zh) rfl ?_;exact y9.1):P:=f ⟨h⟩
theorem Wq50(h:Q)(f:Zwr Q->P:=by intro y9;refine jT rfl rfl (eo (dq bm m) rfl (λ_ _=>rfl) Zi (λw hi hin=>HD (sA b92) 1 w hin (λw' hk=>hi.Sr Zi (show Has _ (slv 35 4 (sA b92) 1 1 [.i kd,.i gu,.i n,.slice yA yb.length yc])from Zh) hk) (λw' hk=>RdV.RT hy4 hi Zi hk) (λw' hk=>RdV.RT ht hi Zi hk))) (λ_=>by rintro _ _ ⟨_,⟨m2,Y,bz,cz,J2,⟨hm2,hl2,hR2⟩,rfl,rfl⟩,rfl⟩;exact bK (t:=35) Zh) rfl ?_;exact y9.1):P:=f ⟨h⟩
theorem Wq51(h:P:=by refine mf (cin:=rnC E.RZ) (cin':=sL E.RZ k) Zd (xF E.RZ k) ?_;refine kr (cin:=sL E.RZ k) (c:=rsC x2) (cin':=rnC (dG E.RZ k x2)) Zd Zd (rnPut E.RZ k x2) ?_;refine bG (row b6 (BA.cells ⟨⟨k,C,(l.length:Int)⟩,A3,c3⟩) 202::row b7 (RS.cells x2) 208::baC ⟨⟨k,C,(l.length:Int)⟩,A3,c3⟩::enF be ((E.Sv X').SB (dG E.RZ k x2))) Zj ?_;refine xG (cs':=baC ⟨⟨k,C,(l.length:Int)⟩,A3,c3⟩::enF be ((E.Sv X').SB (dG E.RZ k x2))) (.inl rfl) (List.Sublist.cons _ (List.Sublist.cons _ (aR _))) rfl rfl rfl rfl Zh Zh Zrf Zrf Zrf Zrf ?_;rw[hfm]at HG|-;exact⟨(E.Sv X').SB (dG E.RZ k x2),⟨hX',by grind,λy hy=>(zm hy).elim (λe=>by grind) (λhy=>hE.rs y hy),hE.last⟩,had,⟨⟨⟨k,C,(l.length:Int)⟩,A3,c3⟩,x2,rfl,rfl,λt r e=>by grind⟩⟩):P:=h
theorem oV(h:P:=by exact rfl):P:=h
theorem Wq53(h:Q)(f:Zwr Q->P:=by intro y9;refine bI (λm:fM=>m.d.lines) h ?_;refine bI (λm:fM=>m.d.lines) h ?_;refine bI (λm:fM=>m.d.lines) h ?_;refine bI (λm:fM=>m.d.lines) h ?_;refine bI (λm:fM=>m.d.lines) h ?_;exact y9.1):P:=f ⟨h⟩
theorem Nm(h:Q)(f:Zwr Q->P:=by intro y9;refine fN (bM rfl rfl) (bF Zrf (bU rfl)) (dh Zh rfl) rfl ?_;refine Z_4 ?_;exact y9.1):P:=f ⟨h⟩
theorem pM(h:P:=by refine Zra ?_;exact fy):P:=h
theorem CS(h:Q)(f:Zwr Q->P:=by intro y9;refine Zy (bS (j:=k) rfl Zrf (Zv rfl) (Zv rfl) Wq2 Wq2) ?_;exact y9.1):P:=f ⟨h⟩
theorem Wq57(h:Q)(f:Zwr Q->P:=by intro y9;refine Z_7 ?_;refine dK (bF Zrf (Zv rfl)) (dc h1 (by rw[hA];rfl)) rfl ?_;refine ZA ?_;refine Zy (bS (j:=i) rfl Zrf (Zv rfl) (Zv rfl) Wq2 Wq2) ?_;refine dK (bF Zrf Zv0) (dL hr hp) rfl ?_;exact y9.1):P:=f ⟨h⟩
theorem Qo(h:P:=by refine retTC (cs':=[row _ _ _,exC _ _ _ _,row _ _ _]) (.inl rfl) Zu rfl rfl rfl Zh Zrf Zrf ?_;exact fy):P:=h
theorem ux(h:P:=by simp only[ge, *,ai,ah]):P:=h
theorem Wq60(h:P:=by refine eQ ?_;refine Z_2 ?_;refine bG (row b6 (BA.cells ⟨⟨k,C,(l.length:Int)⟩,A3,c3⟩) 202::row b7 (RS.cells x2) 208::baC ⟨⟨k,C,(l.length:Int)⟩,A3,c3⟩::enF be ((E.Sv X').SB (oL X'.Z (dG E.RZ k x2)))) Zj ?_;refine xG (cs':=baC ⟨⟨k,C,(l.length:Int)⟩,A3,c3⟩::enF be ((E.Sv X').SB (oL X'.Z (dG E.RZ k x2)))) (.inl rfl) (List.Sublist.cons _ (List.Sublist.cons _ (aR _))) rfl rfl rfl rfl Zh Zh Zrf Zrf Zrf Zrf ?_;rw[hfm]at HG|-;exact⟨(E.Sv X').SB (oL X'.Z (dG E.RZ k x2)),⟨hX',by grind,λy hy=>(zm (List.mem_filter.1 hy).1).elim (λe=>by grind) (λhy=>hE.rs y hy),hE.last⟩,had,⟨⟨⟨k,C,(l.length:Int)⟩,A3,c3⟩,x2,rfl,rfl,λt r e=>by grind⟩⟩):P:=h
theorem AQ(h:P:=by simp only[vn, *,ai,ah];exact rfl):P:=h
theorem Wq62(h:Q)(f:Zwr Q->P:=by intro y9;refine ZcS (enF be E) (λw hi hin=>HFi (some ⟨bq,p%64,none⟩) (64 - p%64) w hin (λw' hk=>cut64 (dp (hi.SO Zi (show Has _ (sl .u8 5 (sA bq) 64 64 D)from Zh) hk)) Wq1 hXl)) ?_;exact y9.1):P:=f ⟨h⟩
theorem Wq63(h:P:=by refine Z_3 ?_;refine pR (cs':=[]) (.inl rfl) Zu rfl rfl Zh Zrf Zrf ?_;exact⟨⟨_,_,rfl,(by first|exact u0|exact hxu|exact i5 Wq1),hop⟩,rfl⟩):P:=h
theorem Wq64(h:P:=by refine Zy (bV (bb:=b66) (o:=0) (n:=i) (c:=i) (j:=nt) (sz:=1) (r:=nt) rfl Zrf (Zv rfl) (Zv rfl) (λ_=>hnt) Wq2 Wq1) ?_;refine dK (bF Zrf (Zv rfl)) (cM Zh (iP Wq1)) rfl ?_;refine Z_1 ?_;refine ZL ?_;refine Z_5 ?_;exact Wq9):P:=h
theorem Wq65(h:Q)(f:Zwr Q->P:=by intro y9;refine Z_5 ?_;refine Zy (k8 (Zv rfl) (Zv rfl) Wq1 (show _=((va/64:Nat):Int)from by rw[bo Wq1,u32_wrap_id _ Wq1 Wq1];omega)) ?_;refine ZA ?_;refine Zy (lW (Zv rfl) (Zv rfl) Wq1 (show _=m/256 from shrE _ 8)) ?_;refine Z_4 ?_;exact y9.1):P:=f ⟨h⟩
theorem Wq66(h:Q)(f:Zwr Q->P:=by intro y9;refine Zy (k8 (Zv rfl) (Zv rfl) Wq1 (show _=((va/64:Nat):Int)from by rw[bo Wq1,u32_wrap_id _ Wq1 Wq1];omega)) ?_;refine ZA ?_;refine Zy (lW (Zv rfl) (Zv rfl) Wq1 (show _=m/256 from shrE _ 8)) ?_;refine Z_4 ?_;refine ZM ?_;exact y9.1):P:=f ⟨h⟩
theorem Wq67(h:Q)(f:Zwr Q->P:=by intro y9;refine ZFe 10 4 ?_;refine cn 11 Zk ?_;refine ZQ ?_;refine Wq8 ?_;exact y9.1):P:=f ⟨h⟩
theorem ID(h:Q)(f:Zwr Q->P:=by intro y9;refine dx rfl (ER Zv0) rfl ?_;refine lb ?_;exact y9.1):P:=f ⟨h⟩
theorem Wq69(h:Q)(f:Zwr Q->P:=by intro y9;refine ZF 15 ?_;refine iJ 16 rfl Zk Zk Zk (bE rfl rfl) (bV (j:=j) (sz:=1) (r:=j) rfl Zrf (bU rfl) (bU rfl) Wq2 Wq2 Wq1) rfl ?_;refine s7 17 rfl Zk Zk Zk Zk (bE rfl rfl) (bF Zrf (bU rfl)) (cM (show Has _ (sl .i64 3 (sA bf) F.length c5 F)from Zh) (cq hx)) rfl ?_;refine iJ 18 rfl Zk Zk Zk (bE rfl rfl) (bV (j:=f) (sz:=1) (r:=f) rfl Zrf (bU rfl) (bU rfl) Wq2 Wq2 Wq1) rfl ?_;refine s7 19 rfl Zk Zk Zk Zk (bE rfl rfl) (bF Zrf (bU rfl)) (cM (show Has _ (zf b55 (G0++F.take j))from Zh) (show(jA (marks (G0++F.take j)))[f]? =some (.bool false)from by rw[kK hf256,ar hnw])) rfl ?_;exact y9.1):P:=f ⟨h⟩
theorem Wq70(h:Q)(f:Zwr Q->P:=by intro y9;refine iJ 16 rfl Zk Zk Zk (bE rfl rfl) (bV (j:=j) (sz:=1) (r:=j) rfl Zrf (bU rfl) (bU rfl) Wq2 Wq2 Wq1) rfl ?_;refine s7 17 rfl Zk Zk Zk Zk (bE rfl rfl) (bF Zrf (bU rfl)) (cM (show Has _ (sl .i64 3 (sA bf) F.length c5 F)from Zh) (cq hx)) rfl ?_;refine iJ 18 rfl Zk Zk Zk (bE rfl rfl) (bV (j:=f) (sz:=1) (r:=f) rfl Zrf (bU rfl) (bU rfl) Wq2 Wq2 Wq1) rfl ?_;refine s7 19 rfl Zk Zk Zk Zk (bE rfl rfl) (bF Zrf (bU rfl)) (cM (show Has _ (zf b55 (G0++F.take j))from Zh) (show(jA (marks (G0++F.take j)))[f]? =some (.bool false)from by rw[kK hf256,ar hnw])) rfl ?_;refine ZE 20 ?_;exact y9.1):P:=f ⟨h⟩
theorem Wq71(h:Q)(f:Zwr Q->P:=by intro y9;refine bI (λx:Int=>x=0->(s.d.length:Int) - (bO op).1.1+(bO op).1.2<=16/\(s.r.length:Int) - (bO op).2.1+(bO op).2.2<=16) (λh=>by cases h) ?_;refine bI (λx:Int=>x=0->(s.d.length:Int) - (bO op).1.1+(bO op).1.2<=16/\(s.r.length:Int) - (bO op).2.1+(bO op).2.2<=16) (λh=>by cases h) ?_;exact y9.1):P:=f ⟨h⟩
theorem Nl(h:P:=by first|exact IntWalk.u32_in _ ⟨by omega,by omega⟩|exact rfl):P:=h
theorem Wq73(h:Q)(f:Zwr Q->P:=by intro y9;refine pR (cs':=[slv _ _ _ _ _ _,slv _ _ _ _ _ _,slv _ _ _ _ _ _,row _ _ _,exC _ _ _ _,row _ _ _,row _ _ _,row _ _ _,row _ _ _,row _ _ _,slv _ _ _ _ _ _,slv _ _ _ _ _ _,row _ _ _,slv _ _ _ _ _ _]) (.inl rfl) Zu rfl rfl Zh Zrf Zrf ?_;exact y9.1):P:=f ⟨h⟩
theorem MT(h:Q)(f:Zwr Q->P:=by intro y9;refine ret3 (cs':=[]) (.inl rfl) Zu rfl rfl rfl rfl ?_;exact y9.1):P:=f ⟨h⟩
theorem Wq75(h:Q)(f:Zwr Q->P:=by intro y9;refine cn 9 Zk ?_;refine ZQ ?_;refine ZFe 10 4 ?_;refine cn 11 Zk ?_;refine ZQ ?_;exact y9.1):P:=f ⟨h⟩
theorem IC(h:P:=by refine Zrb ([slv _ _ _ _ _ _]) ?_;exact⟨_,_,rfl,rfl⟩):P:=h
theorem Wq77(h:P:=by refine eE (gC (ys:=mc (kOf br bu D) X ((R.wd l).wt ⟨ca,ad⟩)) (n:=2) (vs:=[.i ca,.w ad]) rfl Zrf rfl rfl (mO rfl) Za rfl (by simp only[aQ,List.length_nil];omega)) ?_;rintro _ _ ⟨rfl,rfl⟩;refine Z_5 ?_;refine kY ?_;rintro _ _ ⟨b29,rfl,rfl⟩;exact Wq36):P:=h
theorem Wq78(h:P:=by have ht1:p.target≠ -1:=(by simpa using hc28);obtain⟨nt,hnt,hnt2⟩:=htg ht1;have hm2:ib pl p.target=pl.getD nt 0:=(by unfold ib;rw[hc28,ai,hnt,aM]);refine Z_4 ?_;exact Wq64):P:=h
theorem Wq79(h:Q)(f:Zwr Q->P:=by intro y9;refine Zy (bV (j:=k) (sz:=1) (r:=k) rfl Zrf (Zv rfl) (Zv rfl) Wq2 Wq2 Wq1) ?_;refine eE (iK Zrf rfl rfl rfl Za Wq1) ?_;exact y9.1):P:=f ⟨h⟩
theorem AP(h:Q)(f:Zwr Q->P:=by intro y9;refine la rfl rfl (Dv Zrf rfl) ZJ rfl ?_;exact y9.1):P:=f ⟨h⟩
theorem Wq81(h:Q)(f:Zwr Q->P:=by intro y9;refine ZM ?_;refine fD ?_;refine fJ (bE rfl rfl) Zh Zrf Zrf (Zv rfl) rfl ?_;refine fJ (bE rfl rfl) Zh Zrf Zrf (Zv rfl) rfl ?_;exact y9.1):P:=f ⟨h⟩
theorem Wq82(h:Q)(f:Zwr Q->P:=by intro y9;refine s7 17 rfl Zk Zk Zk Zk (bE rfl rfl) (bF Zrf (bU rfl)) (cM (show Has _ (sl .i64 3 (sA bf) F.length c5 F)from Zh) (cq hx)) rfl ?_;refine iJ 18 rfl Zk Zk Zk (bE rfl rfl) (bV (j:=f) (sz:=1) (r:=f) rfl Zrf (bU rfl) (bU rfl) Wq2 Wq2 Wq1) rfl ?_;refine s7 19 rfl Zk Zk Zk Zk (bE rfl rfl) (bF Zrf (bU rfl)) (cM (show Has _ (zf b55 (G0++F.take j))from Zh) (show(jA (marks (G0++F.take j)))[f]? =some (.bool false)from by rw[kK hf256,ar hnw])) rfl ?_;refine ZE 20 ?_;refine ZE 21 ?_;exact y9.1):P:=f ⟨h⟩
theorem Wq83(h:P:=by refine eQ ?_;refine Z_2 ?_;refine bG (fb (kOf br bu D) X (R.wdv ⟨ca,ad⟩ (ca==0&&decide (32768<=p)))++uF bu bb L U') Zj ?_;refine xH (cs':=[row _ _ _,slv _ _ _ _ _ _,slv _ _ _ _ _ _,row _ _ _,exC _ _ _ _,row _ _ _]) (.inl rfl) Zu rfl rfl rfl ?_;rw[hc1];exact fy):P:=h
theorem Wq84(h:Q)(f:Zwr Q->P:=by intro y9;refine ZS (λw hi=>iR hboot hg3 (hi.rd (show Has _ (slv 33 3 A3 L.length c3 (L.flatMap Im.cells))from Zh)) (hI.rd w (λa ha=>(hl a ha).dk.RU hi) (hi.get (show Has _ (bQ J)from Zh)))) ?_;exact y9.1):P:=f ⟨h⟩
theorem Wq85(h:Q)(f:Zwr Q->P:=by intro y9;refine ZSe (λw hi=>fis_ok o w) ?_;rw[ay (show(0:Int)<=o by omega),ay (show(o:Int)<4 by omega)];exact y9.1):P:=f ⟨h⟩
theorem Wq86(h:P:=by refine retCC (cs':=[exC _ _ _ _]) (.inl rfl) Zu rfl rfl rfl Zh Zh Zrf Zrf Zrf Zrf ?_;exact fy):P:=h
theorem Wq87(h:Q)(f:Zwr Q->P:=by intro y9;refine fO rfl rfl (mZ Zrf rfl rfl rfl Za Zp) (λ_=>by rintro _ _ ⟨rfl,rfl⟩;exact bK (t:=290) Zh) ?_;exact y9.1):P:=f ⟨h⟩
theorem Wq88(h:Q)(f:Zwr Q->P:=by intro y9;refine cn 3 Zk ?_;refine fO rfl rfl (cS Zrf rfl rfl (oQ x2) Za oV) ZJ ?_;exact y9.1):P:=f ⟨h⟩
theorem Wq89(h:Q)(f:Zwr Q->P:=by intro y9;refine fa (bE rfl rfl) rfl rfl ?_;refine fa (bE rfl rfl) rfl rfl ?_;exact y9.1):P:=f ⟨h⟩
theorem wO(h:Q)(f:Zwr Q->P:=by intro y9;refine Zy (cQ rfl rfl Zv0 Zl) ?_;exact y9.1):P:=f ⟨h⟩
theorem Wq91(h:P:=by refine Z_6 ?_;refine Wq46 ?_;exact⟨⟨_,_,rfl,(by first|exact u0|exact hxu|exact i5 Wq1),hop⟩,rfl⟩):P:=h
theorem Wq92(h:P:=by rintro _ _ ⟨rfl,rfl⟩;refine ID ?_;refine Z_9 ?_;refine bG (tdF b1 be E) Zj ?_;refine IY (cs':=tdF b1 be E) (.inl rfl) (aR _) rfl rfl ?_;exact fy):P:=h
theorem RC(h:Q)(f:Zwr Q->P:=by intro y9;refine QZ rfl ?_;refine uz rfl rfl (cS Zrf rfl rfl (nM y) Za oV) ZJ ?_;exact y9.1):P:=f ⟨h⟩
theorem Wq94(h:P:=by refine retTC (cs':=[row _ _ _,exC _ _ _ _,row _ _ _,slv _ _ _ _ _ _]) (.inl rfl) Zu rfl rfl rfl Zh Zrf Zrf ?_;exact⟨_,_,rfl,rfl⟩):P:=h
theorem Wq95(h:Q)(f:Zwr Q->P:=by intro y9;refine cn 14 Zk ?_;refine ZR ?_;refine eQ ?_;refine Z_7 ?_;refine eE (gC (ys:=mc (kOf br bu D) X (R.wt ⟨ca,ad⟩)) (n:=2) (vs:=[.i ca,.w ad]) rfl Zrf rfl rfl (mO rfl) Za rfl (by simp only[aQ,List.length_nil];omega)) ?_;exact y9.1):P:=f ⟨h⟩
theorem oU(h:Q)(f:Zwr Q->P:=by intro y9;refine bW rfl (rfl) ?_;exact y9.1):P:=f ⟨h⟩
theorem Wq97(h:Q)(f:Zwr Q->P:=by intro y9;refine s7 23 rfl Zk Zk Zk Zk (bE rfl rfl) (bF Zrf (bU rfl)) (dh (show Has _ (ouC bz cz ⟨on,ov,ow⟩ Y)from Zh) rfl) rfl ?_;refine ZF 24 ?_;refine iJ 25 rfl Zk Zk Zk (bE rfl rfl) (bS (j:=0) rfl Zrf (bU rfl) (Zv rfl) Wq2 Wq2) rfl ?_;refine iJ 26 rfl Zk Zk Zk (bE rfl rfl) (ce 24 rfl (bU rfl) ((dI (j:=24) rfl))) rfl ?_;refine s7 27 rfl Zk Zk Zk Zk (bE rfl rfl) (bF Zrf (bU rfl)) (dh (show Has _ (ouC by2 cy2 ⟨on,ov,ow⟩ Y2)from Zh) rfl) rfl ?_;exact y9.1):P:=f ⟨h⟩
theorem Wq98(h:Q)(f:Zwr Q->P:=by intro y9;refine s7 12 rfl Zk Zk Zk Zk (bE rfl rfl) (bF Zrf (bU rfl)) (dh (show Has _ (ouC bz cz ⟨on,ov,ow⟩ Y)from Zh) rfl) rfl ?_;refine ZF 13 ?_;refine iJ 14 rfl Zk Zk Zk (bE rfl rfl) (bS (j:=0) rfl Zrf (bU rfl) (Zv rfl) Wq2 Wq2) rfl ?_;refine iJ 15 rfl Zk Zk Zk (bE rfl rfl) (ce 0 rfl (bU rfl) ((dI (j:=0) rfl))) rfl ?_;refine s7 16 rfl Zk Zk Zk Zk (bE rfl rfl) (bF Zrf (bU rfl)) (dh (show Has _ (ouC by2 cy2 ⟨on,ov,ow⟩ Y2)from Zh) rfl) rfl ?_;exact y9.1):P:=f ⟨h⟩
theorem MS(h:Q)(f:Zwr Q->P:=by intro y9;refine kb rfl (bF Zrf Zv0) (cN Zh rfl) rfl ?_;exact y9.1):P:=f ⟨h⟩
theorem gh(h:Q)(f:Zwr Q->P:=by intro y9;refine Z_4 ?_;refine Wq6 ?_;exact y9.1):P:=f ⟨h⟩
theorem gv(h:Q)(f:Zwr Q->P:=by intro y9;refine Z_5 ?_;refine Wq6 ?_;exact y9.1):P:=f ⟨h⟩
theorem wJ(h:Q)(f:Zwr Q->P:=by intro y9;refine Zy (bS (j:=i) rfl Zrf (Zv rfl) (Zv rfl) Wq2 Wq2) ?_;exact y9.1):P:=f ⟨h⟩
theorem Wq103(h:P:=by refine fO rfl rfl (iL Zrf rfl rfl rfl Za (by simp[ints,hR];omega)) ZJ ?_;rintro _ _ ⟨rfl,rfl⟩;rw[hm_setr hR Wq1];refine eQ ?_;refine Z_8 ?_;exact Wq14):P:=h
theorem gP(h:Q)(f:Zwr Q->P:=by intro y9;refine Z_1 ?_;refine ZL ?_;exact y9.1):P:=f ⟨h⟩
theorem Wq105(h:Q)(f:Zwr Q->P:=by intro y9;refine Z_7 ?_;refine ZcL (lwF b N ⟨C2,s2,L.r,L.flags,L.target,L.branch⟩ ⟨A2,c2,X.Ad,X.cd,X.Ar,X.cr⟩) (λw hi hin=>ui b N ⟨C2,s2,L.r,L.flags,L.target,L.branch⟩ ⟨A2,c2,X.Ad,X.cd,X.Ar,X.cr⟩ ((ij hs hC2 hs2 _ _ _).mono Wq1) w hin) ?_;exact y9.1):P:=f ⟨h⟩
theorem Wq106(h:Q)(f:Zwr Q->P:=by intro y9;refine Zy (lW (Zv rfl) (Zv rfl) Wq1 (show _=((va/1024:Nat):Int)from(shrE _ 10).trans Wq1)) ?_;refine Zy (sH (Zv rfl) (Zv rfl) (show _=((va/1024%16:Nat):Int)from(MO ⟨by omega,by omega⟩).trans Wq1)) ?_;refine Zy (jR (Zv rfl) (Zv rfl) (show _=((4*(va/1024%16):Nat):Int)from(u32_wrap_id _ Wq1 Wq1).trans Wq1)) ?_;refine Zy (cQ rfl rfl (Zv rfl) QB) ?_;refine Zy (ef (Zv rfl) (Zv rfl) (show _=((at1 root va:Nat):Int)from(u64_wrap_id _ Wq1 Wq1).trans (by unfold at1;omega))) ?_;exact y9.1):P:=f ⟨h⟩
theorem Wq107(h:Q)(f:Zwr Q->P:=by intro y9;refine ZF 24 ?_;refine iJ 25 rfl Zk Zk Zk (bE rfl rfl) (bS (j:=0) rfl Zrf (bU rfl) (Zv rfl) Wq2 Wq2) rfl ?_;refine iJ 26 rfl Zk Zk Zk (bE rfl rfl) (ce 24 rfl (bU rfl) ((dI (j:=24) rfl))) rfl ?_;refine s7 27 rfl Zk Zk Zk Zk (bE rfl rfl) (bF Zrf (bU rfl)) (dh (show Has _ (ouC by2 cy2 ⟨on,ov,ow⟩ Y2)from Zh) rfl) rfl ?_;refine iJ 28 rfl Zk Zk Zk (bE rfl rfl) (j8 (bU rfl) (bU rfl) (bj ow)) rfl ?_;exact y9.1):P:=f ⟨h⟩
theorem Wq108(h:Q)(f:Zwr Q->P:=by intro y9;refine iJ 25 rfl Zk Zk Zk (bE rfl rfl) (bS (j:=0) rfl Zrf (bU rfl) (Zv rfl) Wq2 Wq2) rfl ?_;refine iJ 26 rfl Zk Zk Zk (bE rfl rfl) (ce 24 rfl (bU rfl) ((dI (j:=24) rfl))) rfl ?_;refine s7 27 rfl Zk Zk Zk Zk (bE rfl rfl) (bF Zrf (bU rfl)) (dh (show Has _ (ouC by2 cy2 ⟨on,ov,ow⟩ Y2)from Zh) rfl) rfl ?_;refine iJ 28 rfl Zk Zk Zk (bE rfl rfl) (j8 (bU rfl) (bU rfl) (bj ow)) rfl ?_;refine ZE 29 ?_;exact y9.1):P:=f ⟨h⟩
theorem Wq109(h:Q)(f:Zwr Q->P:=by intro y9;refine ZF 13 ?_;refine iJ 14 rfl Zk Zk Zk (bE rfl rfl) (bS (j:=0) rfl Zrf (bU rfl) (Zv rfl) Wq2 Wq2) rfl ?_;refine iJ 15 rfl Zk Zk Zk (bE rfl rfl) (ce 0 rfl (bU rfl) ((dI (j:=0) rfl))) rfl ?_;refine s7 16 rfl Zk Zk Zk Zk (bE rfl rfl) (bF Zrf (bU rfl)) (dh (show Has _ (ouC by2 cy2 ⟨on,ov,ow⟩ Y2)from Zh) rfl) rfl ?_;refine iJ 17 rfl Zk Zk Zk (bE rfl rfl) (j8 (bU rfl) (bU rfl) (bj on)) rfl ?_;exact y9.1):P:=f ⟨h⟩
theorem Wq110(h:Q)(f:Zwr Q->P:=by intro y9;refine iJ 14 rfl Zk Zk Zk (bE rfl rfl) (bS (j:=0) rfl Zrf (bU rfl) (Zv rfl) Wq2 Wq2) rfl ?_;refine iJ 15 rfl Zk Zk Zk (bE rfl rfl) (ce 0 rfl (bU rfl) ((dI (j:=0) rfl))) rfl ?_;refine s7 16 rfl Zk Zk Zk Zk (bE rfl rfl) (bF Zrf (bU rfl)) (dh (show Has _ (ouC by2 cy2 ⟨on,ov,ow⟩ Y2)from Zh) rfl) rfl ?_;refine iJ 17 rfl Zk Zk Zk (bE rfl rfl) (j8 (bU rfl) (bU rfl) (bj on)) rfl ?_;refine ZE 18 ?_;exact y9.1):P:=f ⟨h⟩
theorem Wq111(h:Q)(f:Zwr Q->P:=by intro y9;refine iJ 21 rfl Zk Zk Zk (bE rfl rfl) (bS (j:=0) rfl Zrf (bU rfl) (Zv rfl) Wq2 Wq2) rfl ?_;refine iJ 22 rfl Zk Zk Zk (bE rfl rfl) (ce 24 rfl (bU rfl) ((dI (j:=24) rfl))) rfl ?_;refine s7 23 rfl Zk Zk Zk Zk (bE rfl rfl) (bF Zrf (bU rfl)) (dh (show Has _ (ouC bz cz ⟨on,ov,ow⟩ Y)from Zh) rfl) rfl ?_;refine ZF 24 ?_;refine iJ 25 rfl Zk Zk Zk (bE rfl rfl) (bS (j:=0) rfl Zrf (bU rfl) (Zv rfl) Wq2 Wq2) rfl ?_;exact y9.1):P:=f ⟨h⟩
theorem Wq112(h:Q)(f:Zwr Q->P:=by intro y9;refine iJ 22 rfl Zk Zk Zk (bE rfl rfl) (ce 24 rfl (bU rfl) ((dI (j:=24) rfl))) rfl ?_;refine s7 23 rfl Zk Zk Zk Zk (bE rfl rfl) (bF Zrf (bU rfl)) (dh (show Has _ (ouC bz cz ⟨on,ov,ow⟩ Y)from Zh) rfl) rfl ?_;refine ZF 24 ?_;refine iJ 25 rfl Zk Zk Zk (bE rfl rfl) (bS (j:=0) rfl Zrf (bU rfl) (Zv rfl) Wq2 Wq2) rfl ?_;refine iJ 26 rfl Zk Zk Zk (bE rfl rfl) (ce 24 rfl (bU rfl) ((dI (j:=24) rfl))) rfl ?_;exact y9.1):P:=f ⟨h⟩
theorem Wq113(h:Q)(f:Zwr Q->P:=by intro y9;refine iJ 10 rfl Zk Zk Zk (bE rfl rfl) (bS (j:=0) rfl Zrf (bU rfl) (Zv rfl) Wq2 Wq2) rfl ?_;refine iJ 11 rfl Zk Zk Zk (bE rfl rfl) (ce 0 rfl (bU rfl) ((dI (j:=0) rfl))) rfl ?_;refine s7 12 rfl Zk Zk Zk Zk (bE rfl rfl) (bF Zrf (bU rfl)) (dh (show Has _ (ouC bz cz ⟨on,ov,ow⟩ Y)from Zh) rfl) rfl ?_;refine ZF 13 ?_;refine iJ 14 rfl Zk Zk Zk (bE rfl rfl) (bS (j:=0) rfl Zrf (bU rfl) (Zv rfl) Wq2 Wq2) rfl ?_;exact y9.1):P:=f ⟨h⟩
theorem oO(h:Q)(f:Zwr Q->P:=by intro y9;refine ZG 3 ?_;refine ZE 4 ?_;refine ZE 5 ?_;exact y9.1):P:=f ⟨h⟩
theorem Wq115(h:Q)(f:Zwr Q->P:=by intro y9;refine iJ 11 rfl Zk Zk Zk (bE rfl rfl) (ce 0 rfl (bU rfl) ((dI (j:=0) rfl))) rfl ?_;refine s7 12 rfl Zk Zk Zk Zk (bE rfl rfl) (bF Zrf (bU rfl)) (dh (show Has _ (ouC bz cz ⟨on,ov,ow⟩ Y)from Zh) rfl) rfl ?_;refine ZF 13 ?_;refine iJ 14 rfl Zk Zk Zk (bE rfl rfl) (bS (j:=0) rfl Zrf (bU rfl) (Zv rfl) Wq2 Wq2) rfl ?_;refine iJ 15 rfl Zk Zk Zk (bE rfl rfl) (ce 0 rfl (bU rfl) ((dI (j:=0) rfl))) rfl ?_;exact y9.1):P:=f ⟨h⟩
theorem sD(h:Q)(f:Zwr Q->P:=by intro y9;refine ZE 9 ?_;refine ZE 10 ?_;refine ZE 11 ?_;exact y9.1):P:=f ⟨h⟩
theorem EL(h:Q)(f:Zwr Q->P:=by intro y9;refine QZ rfl ?_;refine la rfl rfl (gD rfl rfl Zrf Zrf rfl rfl rfl) ZJ rfl ?_;exact y9.1):P:=f ⟨h⟩
theorem M8(h:Q)(f:Zwr Q->P:=by intro y9;refine nN ?_;refine nN ?_;refine dx rfl (bS (j:=i) rfl Zrf (Zv rfl) (Zv rfl) Wq2 Wq2) rfl ?_;exact y9.1):P:=f ⟨h⟩
theorem IS(h:Q)(f:Zwr Q->P:=by intro y9;refine cn 16 Zk ?_;refine fO rfl rfl (cS (vs:=te.cells) Zrf rfl rfl (mO rfl) Za oV) ZJ ?_;exact y9.1):P:=f ⟨h⟩
theorem IQ(h:Q)(f:Zwr Q->P:=by intro y9;refine cn 17 Zk ?_;refine fO rfl rfl (cS (vs:=tr.cells) Zrf rfl rfl (mO rfl) Za oV) ZJ ?_;exact y9.1):P:=f ⟨h⟩
theorem CY(h:Q)(f:Zwr Q->P:=by intro y9;refine QZ rfl ?_;refine uz rfl rfl (mZ Zrf rfl rfl rfl Za Zp) ZJ ?_;exact y9.1):P:=f ⟨h⟩
theorem Wq122(h:Q)(f:Zwr Q->P:=by intro y9;refine ZFf 9 1 ?_;refine s7 10 rfl Zk Zk Zk Zk (bE rfl rfl) (bF Zrf (bU rfl)) (cN Zh rfl) rfl ?_;refine ZF 11 ?_;refine ZF 12 ?_;refine ZE 13 ?_;exact y9.1):P:=f ⟨h⟩
theorem Wq123(h:Q)(f:Zwr Q->P:=by intro y9;refine Zy (cQ rfl rfl (Zv rfl) (by first|exact IntWalk.u8_in _ ⟨by omega,by omega⟩|exact rfl)) ?_;refine Z_2 ?_;refine Zy (cQ rfl rfl (Zv rfl) (by first|exact IntWalk.u8_in _ ⟨by omega,by omega⟩|exact rfl)) ?_;refine Z_2 ?_;exact y9.1):P:=f ⟨h⟩
theorem Wq124(h:Q)(f:Zwr Q->P:=by intro y9;refine bI (λx:Int=>x=0->(bO op).1.1<=s.d.length/\(bO op).2.1<=s.r.length) (λh=>by cases h) ?_;refine bI (λx:Int=>x=0->(bO op).1.1<=s.d.length/\(bO op).2.1<=s.r.length) (λh=>by cases h) ?_;exact y9.1):P:=f ⟨h⟩
theorem ji(h:Q)(f:Zwr Q->P:=by intro y9;refine Z_3 ?_;refine iU ?_;exact y9.1):P:=f ⟨h⟩
theorem Wq126(h:Q)(f:Zwr Q->P:=by intro y9;refine iJ 8 rfl Zk Zk Zk (bE rfl rfl) (bV (j:=j) (sz:=1) (r:=j) rfl Zrf (bU rfl) (bU rfl) Wq2 Wq2 Wq1) rfl ?_;refine s7 9 rfl Zk Zk Zk Zk (bE rfl rfl) (bF Zrf (bU rfl)) (cM (show Has _ (sl .i64 3 (sA bf) F.length c5 F)from Zh) (cq hx)) rfl ?_;refine iJ 10 rfl Zk Zk Zk (bE rfl rfl) (I5 (bU rfl) (Zv rfl) (show _=false from ar Wq1)) rfl ?_;refine ZE 11 ?_;refine ZE 12 ?_;exact y9.1):P:=f ⟨h⟩
theorem Wq127(h:Q)(f:Zwr Q->P:=by intro y9;refine ZF 7 ?_;refine iJ 8 rfl Zk Zk Zk (bE rfl rfl) (bV (j:=j) (sz:=1) (r:=j) rfl Zrf (bU rfl) (bU rfl) Wq2 Wq2 Wq1) rfl ?_;refine s7 9 rfl Zk Zk Zk Zk (bE rfl rfl) (bF Zrf (bU rfl)) (cM (show Has _ (sl .i64 3 (sA bf) F.length c5 F)from Zh) (cq hx)) rfl ?_;refine iJ 10 rfl Zk Zk Zk (bE rfl rfl) (I5 (bU rfl) (Zv rfl) (show _=false from ar Wq1)) rfl ?_;refine ZE 11 ?_;exact y9.1):P:=f ⟨h⟩
theorem Wq128(h:Q)(f:Zwr Q->P:=by intro y9;refine ZF 6 ?_;refine ZF 7 ?_;refine iJ 8 rfl Zk Zk Zk (bE rfl rfl) (bV (j:=j) (sz:=1) (r:=j) rfl Zrf (bU rfl) (bU rfl) Wq2 Wq2 Wq1) rfl ?_;refine s7 9 rfl Zk Zk Zk Zk (bE rfl rfl) (bF Zrf (bU rfl)) (cM (show Has _ (sl .i64 3 (sA bf) F.length c5 F)from Zh) (cq hx)) rfl ?_;refine iJ 10 rfl Zk Zk Zk (bE rfl rfl) (I5 (bU rfl) (Zv rfl) (show _=false from ar Wq1)) rfl ?_;exact y9.1):P:=f ⟨h⟩
theorem QO(h:Q)(f:Zwr Q->P:=by intro y9;refine fW (cj (e:=5) (sz:=1) (bytes:=1) rfl rfl Za rfl rfl (λw hi=>hi.rd (show Has _ (sl .u8 5 A2 E.length c2 E)from Zh)) di gq Wq1) rfl ?_;exact y9.1):P:=f ⟨h⟩
theorem EK(h:P:=by rintro _ _ ⟨_,⟨A',c',rfl,rfl⟩,rfl⟩;refine Z_9 ?_;exact M4):P:=h
theorem Wq131(h:P:=by refine eQ ?_;refine Z_3 ?_;refine bG (row b8 (s.cells (.slice X.Ad s.d.length X.cd) (.slice X.Ar s.r.length X.cr)) 43::row b9 (RS.cells ⟨xr,A2,c2⟩) 208::tF bu bb L s X U be E2) Zj ?_;refine xG (cs':=tF bu bb L s X U be E2) (.inl rfl) (List.Sublist.cons _ (List.Sublist.cons _ (aR _))) rfl rfl rfl rfl Zh Zh Zrf Zrf Zrf Zrf ?_;rw[hTn];exact⟨E2,hE2,hEe,X,⟨xr,A2,c2⟩,rfl,rfl⟩):P:=h
theorem Wq132(h:Q)(f:Zwr Q->P:=by intro y9;refine dK (bP (vs:=q.s.cells (.slice X1.Ad q.s.d.length X1.cd) (.slice X1.Ar q.s.r.length X1.cr)) Zrf Zrf Zv0) (cO Zh rfl) rfl ?_;refine ZM ?_;refine Z_6 ?_;refine Zy (cQ rfl rfl (Zv rfl) (u32_wrap_id _ (by show 0<=(z:Int);omega) (by show(z:Int)<4294967296;omega))) ?_;refine Zy (ef (Zv rfl) (Zv rfl) (show _=(((p+z)%4294967296:Nat):Int)from by show IntKind.u32.wrap ((p:Int)+(z:Int))=_;rw[aC];omega)) ?_;exact y9.1):P:=f ⟨h⟩
theorem sC(h:P:=by simp only[kC, *,ai,ah]):P:=h
theorem gZ(h:P:=by simp;omega):P:=h
theorem QN(h:P:=by simp[Builtin.delete_,run_underlying hT,MapKept.run_getObj_map hb,hK.K.check w _ hlq,h2,MapKept.run_setObj_map _ hb,Result.andThen,setBlock]):P:=h
theorem QM(h:Q)(f:Zwr Q->P:=by intro y9;refine kM ?_;refine Zy (gr (Zv rfl) (Zv rfl) (show _=(l.length:Int)from by rw[hlen];exact IntWalk.i64_in _ ⟨by omega,by omega⟩|>.trans Wq1)) ?_;exact y9.1):P:=f ⟨h⟩
theorem Wq137(h:P:=by refine Z_6 ?_;refine ZM ?_;refine Z_3 ?_;refine kt ?_;refine bG (row b4 (Ou.cells ⟨0,dT,0⟩ uc) 47::bQ []::DY bm bp ad c gn ps P' ((gs.set i g').flatMap MG.cs)) Zj ?_;exact Wq44):P:=h
theorem tL(h:P:=by simp only[jH,Qj, *,ai,ah]):P:=h
theorem Wq139(h:Q)(f:Zwr Q->P:=by intro y9;refine wi_tg rfl rfl (bE rfl rfl) rfl (dW rfl (λ_ _=>rfl) (λw hi=>mj ov ov Y Y2 hwf hwf w (hR2 w (hi.get (show Has _ (bQ J2)from Zh))) (hR3 w (hi.get (show Has _ (bQ J3)from Zh))))) ZJ rfl ?_;exact y9.1):P:=f ⟨h⟩
theorem sB(h:P:=by simp only[cy, *,ai,ah]):P:=h
theorem Wq141(h:P:=by refine Z_2 ?_;refine Zy (i4 (Zv rfl) (Zv rfl) Wq1 (show _=((v%40:Nat):Int)from by rw[aO Wq1];omega)) ?_;refine Zy (ef (Zv rfl) (Zv rfl) (show _=((v%40+240:Nat):Int)from by rw[u32_wrap_id _ Wq1 Wq1];omega)) ?_;refine Zy (i4 (Zv rfl) (Zv rfl) Wq1 (show _=(((v%40+240)%256:Nat):Int)from by rw[aO Wq1];omega)) ?_;refine gP ?_;exact Wq91):P:=h
theorem Wq142(h:Q)(f:Zwr Q->P:=by intro y9;refine fa (cu rfl rfl) rfl rfl ?_;refine fa (cu rfl rfl) rfl rfl ?_;exact y9.1):P:=f ⟨h⟩
theorem Wq143(h:Q)(f:Zwr Q->P:=by intro y9;refine Z_6 ?_;refine Zy (cQ rfl rfl (Zv rfl) (u32_wrap_id _ (by show 0<=(z:Int);omega) (by show(z:Int)<4294967296;omega))) ?_;refine Zy (ef (Zv rfl) (Zv rfl) (show _=(((p+z)%4294967296:Nat):Int)from by show IntKind.u32.wrap ((p:Int)+(z:Int))=_;rw[aC];omega)) ?_;refine Z_9 ?_;refine ZSe (λw hi=>HX X1 Ap cp w (hi.rd (show Has _ (sl .i64 3 Ap q.RG.length cp q.RG)from Zh))) ?_;exact y9.1):P:=f ⟨h⟩
theorem Wq144(h:Q)(f:Zwr Q->P:=by intro y9;refine Zy (cQ rfl rfl (Zv rfl) (u32_wrap_id _ (by show 0<=(z:Int);omega) (by show(z:Int)<4294967296;omega))) ?_;refine Zy (ef (Zv rfl) (Zv rfl) (show _=(((p+z)%4294967296:Nat):Int)from by show IntKind.u32.wrap ((p:Int)+(z:Int))=_;rw[aC];omega)) ?_;refine Z_9 ?_;refine ZSe (λw hi=>HX X1 Ap cp w (hi.rd (show Has _ (sl .i64 3 Ap q.RG.length cp q.RG)from Zh))) ?_;refine Z_3 ?_;exact y9.1):P:=f ⟨h⟩
theorem CX(h:Q)(f:Zwr Q->P:=by intro y9;refine uz rfl rfl (cS Zrf rfl rfl (oQ x) Za oV) ZJ ?_;exact y9.1):P:=f ⟨h⟩
theorem Wq146(h:P:=by refine ZE 4 ?_;refine eQ ?_;refine Z_3 ?_;refine bG (row b6 (BA.cells y) 202::row b7 (RS.cells x) 208::baC y::enF be E) Zj ?_;refine xG (cs':=baC y::enF be E) (.inl rfl) (List.Sublist.cons _ (List.Sublist.cons _ (aR _))) rfl rfl rfl rfl Zh Zh Zrf Zrf Zrf Zrf ?_;exact⟨E,hE,by rw[hfk],by rw[hfk];exact⟨y,x,rfl,rfl,λt r e=>by grind⟩⟩):P:=h
theorem Wq147(h:Q)(f:Zwr Q->P:=by intro y9;refine Z_5 ?_;refine ZcL (cdF S l5 fix X5) (λw hi hin=>Ey S l5 fix X5 (by first|omega|(simp only[hs,hb,hl1,hl2,hl3,hl4,hl5,aq,aQ,List.length_nil];omega)) 11 2 w hin) ?_;exact y9.1):P:=f ⟨h⟩
theorem Wq148(h:Q)(f:Zwr Q->P:=by intro y9;refine ZE 4 ?_;refine ZFe 5 3 ?_;refine iW 6 rfl Zk Zk Zk (bF Zrf (Zv rfl)) Wq3 (bK (t:=305) Zh) rfl ?_;refine cn 3 Zk ?_;refine jT rfl rfl (eo (cdF S l1 fix X1) rfl (λ_ _=>rfl) Zi (λw hi hin=>AC S l1 fix X1 bR na 7 h1 h2 w hin (λw' hk=>hK w' (hi.SC Zi hk)))) (λ_=>by rintro _ _ ⟨_,⟨rfl,l2,X2,hl2,rfl⟩,rfl⟩;exact bK (t:=305) Zh) rfl ?_;exact y9.1):P:=f ⟨h⟩
theorem Wq149(h:Q)(f:Zwr Q->P:=by intro y9;rw[show L.length+1=(L++[(⟨A2,c2,E.take (N*64),a.B,a.e,a.k.take 1024,(N:Int)⟩:Im)]).length from(by grind),show L.flatMap Im.cells++Im.cells ⟨A2,c2,E.take (N*64),a.B,a.e,a.k.take 1024,(N:Int)⟩=(L++[(⟨A2,c2,E.take (N*64),a.B,a.e,a.k.take 1024,(N:Int)⟩:Im)]).flatMap Im.cells from(by grind)];refine ID ?_;refine Z_3 ?_;refine lY [sl .u8 5 A2 E.length c2 E,bQ J] Zi ?_;refine ZA ?_;exact y9.1):P:=f ⟨h⟩
theorem nP(h:Q)(f:Zwr Q->P:=by intro y9;refine Zy (cQ rfl rfl Zv0 rfl) ?_;exact y9.1):P:=f ⟨h⟩
theorem Wq151(h:Q)(f:Zwr Q->P:=by intro y9;refine M8 ?_;refine dx rfl (ce 2 rfl (Zv rfl) ((eX ad (i*3) 2))) rfl ?_;refine kb rfl (bF Zrf Zv0) (og h (da BoR.RO (i:=2) hla rfl)) rfl ?_;refine QZ rfl ?_;refine la rfl rfl (dW rfl (λ_ _=>rfl) (λw hi=>Po a.A a.B a.c a.e a.l a.RG a.k hao.bs w (hao.rd.RU hi) (λy hy=>(hao.raw y hy).RU hi) (hao.dk.RU hi))) ZJ rfl ?_;exact y9.1):P:=f ⟨h⟩
theorem Wq152(h:Q)(f:Zwr Q->P:=by intro y9;refine bI (λq:Bool×Mem×Dev=>q.2.2.lines) ⟨h.mask⟩ ?_;refine bI (λq:Bool×Mem×Dev=>q.2.2.lines) ⟨h.mask⟩ ?_;refine bI (λq:Bool×Mem×Dev=>q.2.2.lines) ⟨h.mask⟩ ?_;exact y9.1):P:=f ⟨h⟩
theorem tK(h:P:=by simp only[St.get, *,ai,ah]):P:=h
theorem iD(h:Q)(f:Zwr Q->P:=by intro y9;refine ZM ?_;refine Z_4 ?_;exact y9.1):P:=f ⟨h⟩
theorem Wq155(h:Q)(f:Zwr Q->P:=by intro y9;refine Dd ?_;refine iI 2 rfl Zk Zk Zk (bV (j:=j) (sz:=1) (r:=j) rfl Zrf (Zv rfl) (Zv rfl) Wq2 Wq2 Wq1) rfl ?_;refine Bc 3 rfl Zk Zk Zk Zk (bF Zrf (Zv rfl)) (cM (show Has _ (sl .i64 3 (sA bf) F.length c5 F)from Zh) (cq hx)) rfl ?_;refine iI 4 rfl Zk Zk Zk (y_lss (Zv rfl) (Zv rfl) (show _=false from ar Wq1)) rfl ?_;refine ZE 5 ?_;exact y9.1):P:=f ⟨h⟩
theorem Wq156(h:Q)(f:Zwr Q->P:=by intro y9;refine ig ⟨λj=>List.elem j [18],[]⟩ [(0,0),(1,0),(2,0),(3,0),(4,0),(5,4),(6,0),(7,0),(8,0),(9,0),(10,4),(11,0),(12,0),(13,0),(14,0),(15,4),(16,2),(17,2),(18,2),(19,0)] Zk Zk ?_;refine nN ?_;refine M8 ?_;refine dx rfl (ce 0 rfl (Zv rfl) ((eX ad (i*3) 0))) rfl ?_;refine kb rfl (bF Zrf Zv0) (og h (da BoR.RO (i:=0) hla rfl)) rfl ?_;exact y9.1):P:=f ⟨h⟩
theorem IP(h:Q)(f:Zwr Q->P:=by intro y9;refine Jg ?_;refine pi ?_;refine pi ?_;refine sM rfl ?_;exact y9.1):P:=f ⟨h⟩
theorem Wq158(h:Q)(f:Zwr Q->P:=by intro y9;refine Z_3 ?_;refine ZcM (fb K X (R.wd ((l++[x])++[y]))) (λw hi hin=>mH K X R (l++[x]) y w hin) ?_;refine ZA ?_;refine ZcM (fb K X (R.wd (l++[x]))) (λw hi hin=>mH K X R l x w hin) ?_;exact y9.1):P:=f ⟨h⟩
theorem Wq159(h:Q)(f:Zwr Q->P:=by intro y9;refine fa (bM rfl rfl) hg0 rfl ?_;refine fa (bM rfl rfl) hg0 rfl ?_;refine fa (bM rfl rfl) hg0 rfl ?_;exact y9.1):P:=f ⟨h⟩
theorem kQ(h:Q)(f:Zwr Q->P:=by intro y9;refine lU ?_;refine ZE 2 ?_;exact y9.1):P:=f ⟨h⟩
theorem Wq161(h:Q)(f:Zwr Q->P:=by intro y9;refine dx rfl (Gw Zv0) rfl ?_;refine dx rfl (dF 0 rfl Zv0 Zf) rfl ?_;refine AZ rfl (bF Zrf Zv0) (cN Zh rfl) rfl ?_;refine xh rfl Zh Zrf Zrf (Zv rfl) rfl ?_;exact y9.1):P:=f ⟨h⟩
theorem Wq162(h:Q)(f:Zwr Q->P:=by intro y9;refine iI 10 rfl Zk Zk Zk (cQ rfl rfl (Zv rfl) (show _=IntKind.u32.wrap (l9.length:Int)from by rw[hml])) rfl ?_;refine iI 11 rfl Zk Zk Zk (bV (bb:=ba) (o:=0) (n:=m.length) (c:=cl) (j:=n) (sz:=5) (r:=n*5) rfl Zrf (Zv rfl) (Zv rfl) Zrf Wq2 Wq1) rfl ?_;refine ZFe 12 4 ?_;refine cn 13 Zk ?_;refine fO rfl rfl (E4 Zrf rfl rfl rfl Za Wq1) ZJ ?_;exact y9.1):P:=f ⟨h⟩
theorem Wq163(h:Q)(f:Zwr Q->P:=by intro y9;refine Z_7 ?_;refine Zy (bV (j:=j) (sz:=1) (r:=j) rfl Zrf (Zv rfl) (Zv rfl) Wq2 Wq2 Wq1) ?_;refine dK (bF Zrf (Zv rfl)) (cM (show Has _ (sl .i64 3 (sA bf) F.length c5 F)from Zh) (cq hx)) rfl ?_;refine Zy (bV (j:=f) (sz:=1) (r:=f) rfl Zrf (Zv rfl) (Zv rfl) Wq2 Wq2 Wq1) ?_;refine eE (iK Zrf rfl rfl rfl Za Wq1) ?_;exact y9.1):P:=f ⟨h⟩
theorem Wq164(h:Q)(f:Zwr Q->P:=by intro y9;refine QZ rfl ?_;refine la rfl rfl (cj (e:=5) (sz:=1) (bytes:=1) rfl rfl Za rfl rfl (λw hi=>hi.rd (show Has _ (sl .u8 5 A2 E.length c2 E)from Zh)) di gq Wq1) ZJ rfl ?_;exact y9.1):P:=f ⟨h⟩
theorem QL(h:Q)(f:Zwr Q->P:=by intro y9;refine lR ?_;refine iI 9 rfl Zk Zk Zk (gr Zv0 Zv0 hwr) rfl ?_;refine iI 10 rfl Zk Zk Zk (cQ rfl rfl Zv0 rfl) rfl ?_;exact y9.1):P:=f ⟨h⟩
theorem Wq166(h:P:=by rintro _ _ ⟨rfl,rfl⟩;refine lb ?_;refine Z_2 ?_;refine bG (row b8 (s9.cells (.slice X3.Ad s9.d.length X3.cd) (.slice X3.Ar s9.r.length X3.cr)) 43::egF be bu bb L D s9 X3 Y3 U9 d9 E3) Zj ?_;refine pR (cs':=(egF be bu bb L D s9 X3 Y3 U9 d9 E3)) (.inl rfl) Zu rfl rfl Zh Zrf Zrf ?_;exact⟨X3,Y3,E3,hE3,hEe3,rfl,rfl⟩):P:=h
theorem IN(h:Q)(f:Zwr Q->P:=by intro y9;refine ZE 10 ?_;refine ZFe 11 0 ?_;refine cn 12 Zk ?_;refine ZQ ?_;refine eQ ?_;exact y9.1):P:=f ⟨h⟩
theorem Wq168(h:Q)(f:Zwr Q->P:=by intro y9;refine Z_6 ?_;refine ZS (λw hi=>iR hboot hg3 (hi.rd (show Has _ (slv 33 3 A3 L.length c3 (L.flatMap Im.cells))from Zh)) (hI.rd w (λa ha=>(hl a ha).dk.RU hi) (hi.get Zh))) ?_;exact y9.1):P:=f ⟨h⟩
theorem M7(h:Q)(f:Zwr Q->P:=by intro y9;refine Z_8 ?_;refine ZS (λw hi=>Ef A c l w (h.RU hi) (λa ha=>(hl a ha).RU hi)) ?_;exact y9.1):P:=f ⟨h⟩
theorem wI(h:P:=by simp only[St.set, *,ai,ah]):P:=h
theorem Wq171(h:Q)(f:Zwr Q->P:=by intro y9;refine ZSe (λw hi=>Fq L M a 1 Wq1 Wq1 w (his _ _ w hi)) ?_;rw[ay (show a+1<=L.n*64 by omega)];refine ji ?_;refine Z_5 ?_;refine ZSe (λw hi=>y8 a Wq1 w) ?_;exact y9.1):P:=f ⟨h⟩
theorem Wq172(h:Q)(f:Zwr Q->P:=by intro y9;refine dK (bP (vs:=[.i op,.i dst,.i xa,.i xb,.w imm]) Zrf Zrf Zv0) (dY hrc2 (λj v hj=>da (f:=II.cells) Zrf (i:=j) hx hj)) rfl ?_;exact y9.1):P:=f ⟨h⟩
theorem mF(h:P:=by refine Z_4 ?_;exact pM):P:=h
theorem CW(h:Q)(f:Zwr Q->P:=by intro y9;refine ph (cs':=[]) (.inl rfl) Zu rfl rfl rfl Zh Zrf Zrf ?_;exact y9.1):P:=f ⟨h⟩
theorem Wq175(h:Q)(f:Zwr Q->P:=by intro y9;refine dx rfl (ce 0 rfl (Zv rfl) ((eX ad (i*3) 0))) rfl ?_;refine kb rfl (bF Zrf Zv0) (og h (da BoR.RO (i:=0) hla rfl)) rfl ?_;refine M8 ?_;refine dx rfl (ce 1 rfl (Zv rfl) ((eX ad (i*3) 1))) rfl ?_;refine kb rfl (bF Zrf Zv0) (og h (da BoR.RO (i:=1) hla rfl)) rfl ?_;exact y9.1):P:=f ⟨h⟩
theorem Wq176(h:Q)(f:Zwr Q->P:=by intro y9;refine ZcL (cdF (⟨b21,p,Q,pl,Ar,cr,As,c2⟩:CdS) m f9 ⟨Al,cl,Af,cf⟩) (λw hi hin=>lr (⟨b21,p,Q,pl,Ar,cr,As,c2⟩:CdS) m f9 ⟨Al,cl,Af,cf⟩ Wq1 [⟨19,0,0,0,2⟩] (sA b92) 1 cH w hin (λw' hk=>dp (hi.SO Zi (show Has _ (slv 309 5 (sA b92) 1 1 ([⟨19,0,0,0,2⟩].flatMap HI.cells))from Zh) hk))) ?_;exact y9.1):P:=f ⟨h⟩
theorem jh(h:Q)(f:Zwr Q->P:=by intro y9;refine ZM ?_;refine Z_6 ?_;exact y9.1):P:=f ⟨h⟩
theorem Wq178(h:Q)(f:Zwr Q->P:=by intro y9;refine ZF 20 ?_;refine iJ 21 rfl Zk Zk Zk (bE rfl rfl) (bS (j:=0) rfl Zrf (bU rfl) (Zv rfl) Wq2 Wq2) rfl ?_;refine iJ 22 rfl Zk Zk Zk (bE rfl rfl) (ce 24 rfl (bU rfl) ((dI (j:=24) rfl))) rfl ?_;refine Wq97 ?_;refine iJ 28 rfl Zk Zk Zk (bE rfl rfl) (j8 (bU rfl) (bU rfl) (bj ow)) rfl ?_;exact y9.1):P:=f ⟨h⟩
theorem Wq179(h:Q)(f:Zwr Q->P:=by intro y9;refine iJ 21 rfl Zk Zk Zk (bE rfl rfl) (bS (j:=0) rfl Zrf (bU rfl) (Zv rfl) Wq2 Wq2) rfl ?_;refine iJ 22 rfl Zk Zk Zk (bE rfl rfl) (ce 24 rfl (bU rfl) ((dI (j:=24) rfl))) rfl ?_;refine Wq97 ?_;refine iJ 28 rfl Zk Zk Zk (bE rfl rfl) (j8 (bU rfl) (bU rfl) (bj ow)) rfl ?_;refine ZE 29 ?_;exact y9.1):P:=f ⟨h⟩
theorem QK(h:Q)(f:Zwr Q->P:=by intro y9;refine Z_3 ?_;refine ZcM (fb (kOf br bu D) X (R.wd (l++[(va:Int)]))) (λw hi hin=>mH (kOf br bu D) X R l va w hin) ?_;exact y9.1):P:=f ⟨h⟩
theorem Wq181(h:Q)(f:Zwr Q->P:=by intro y9;refine ZFe 11 0 ?_;refine cn 12 Zk ?_;refine ZQ ?_;refine eQ ?_;refine Zo ?_;exact y9.1):P:=f ⟨h⟩
theorem IM(h:Q)(f:Zwr Q->P:=by intro y9;refine ZcL (lwF b N L X) (λw hi hin=>ui b N L X (hs.mono Wq1) w hin) ?_;exact y9.1):P:=f ⟨h⟩
theorem Wq183(h:Q)(f:Zwr Q->P:=by intro y9;refine iJ 10 rfl Zk Zk Zk (bE rfl rfl) (bS (j:=0) rfl Zrf (bU rfl) (Zv rfl) Wq2 Wq2) rfl ?_;refine iJ 11 rfl Zk Zk Zk (bE rfl rfl) (ce 0 rfl (bU rfl) ((dI (j:=0) rfl))) rfl ?_;refine Wq98 ?_;refine iJ 17 rfl Zk Zk Zk (bE rfl rfl) (j8 (bU rfl) (bU rfl) (bj on)) rfl ?_;refine ZE 18 ?_;exact y9.1):P:=f ⟨h⟩
theorem Wq184(h:Q)(f:Zwr Q->P:=by intro y9;refine ZF 9 ?_;refine iJ 10 rfl Zk Zk Zk (bE rfl rfl) (bS (j:=0) rfl Zrf (bU rfl) (Zv rfl) Wq2 Wq2) rfl ?_;refine iJ 11 rfl Zk Zk Zk (bE rfl rfl) (ce 0 rfl (bU rfl) ((dI (j:=0) rfl))) rfl ?_;refine Wq98 ?_;refine iJ 17 rfl Zk Zk Zk (bE rfl rfl) (j8 (bU rfl) (bU rfl) (bj on)) rfl ?_;exact y9.1):P:=f ⟨h⟩
theorem lQ(h:P:=by refine mQ ?_;exact fy):P:=h
theorem lv(h:Q)(f:Zwr Q->P:=by intro y9;refine eQ ?_;refine Z_2 ?_;exact y9.1):P:=f ⟨h⟩
theorem tJ(h:Q)(f:Zwr Q->P:=by intro y9;refine Zy (cQ rfl rfl (Zv rfl) QB) ?_;exact y9.1):P:=f ⟨h⟩
theorem QJ(h:Q)(f:Zwr Q->P:=by intro y9;refine ZE 2 ?_;refine ZFe 4 2 ?_;refine ZG 5 ?_;refine iI 6 rfl Zk Zk Zk (wQ Zv0 Zv0 rfl) rfl ?_;refine cn 3 Zk ?_;exact y9.1):P:=f ⟨h⟩
theorem EJ(h:Q)(f:Zwr Q->P:=by intro y9;refine ZSe (λw hi=>zC _ w) ?_;refine Z_6 ?_;refine MT ?_;exact y9.1):P:=f ⟨h⟩
theorem Wq190(h:P:=by refine ZcA (lwF b N ⟨code,d,⟨[],RL+1,high⟩,fl,tg,br⟩ X) (λw hi hin=>vK b N ⟨code,d,⟨[],RL+1,high⟩,fl,tg,br⟩ X hs2 2 0 0 0 (IntKind.u32.wrap RL) w hin) ?_;rintro _ _ ⟨_,⟨rfl,C2,A2,c2,hC2,rfl⟩,rfl⟩;refine ZE 13 ?_;refine lv ?_;refine Zrb (lwF b N ⟨C2,d,⟨[],RL+1,high⟩,fl,tg,br⟩ ⟨A2,c2,X.Ad,X.cd,X.Ar,X.cr⟩) ?_;exact⟨rfl,C2,A2,c2,hC2,rfl⟩):P:=h
theorem Wq191(h:P:=by refine ZcA (lwF b N ⟨code,⟨[],RL+1,high⟩,r,fl,tg,br⟩ X) (λw hi hin=>vK b N ⟨code,⟨[],RL+1,high⟩,r,fl,tg,br⟩ X hs2 1 0 0 0 (IntKind.u32.wrap RL) w hin) ?_;rintro _ _ ⟨_,⟨rfl,C2,A2,c2,hC2,rfl⟩,rfl⟩;refine ZE 13 ?_;refine lv ?_;refine Zrb (lwF b N ⟨C2,⟨[],RL+1,high⟩,r,fl,tg,br⟩ ⟨A2,c2,X.Ad,X.cd,X.Ar,X.cr⟩) ?_;exact⟨rfl,C2,A2,c2,hC2,rfl⟩):P:=h
theorem pP(h:Q)(f:Zwr Q->P:=by intro y9;refine Zy (ef Zv0 Zv0 rfl) ?_;exact y9.1):P:=f ⟨h⟩
theorem CV(h:Q)(f:Zwr Q->P:=by intro y9;refine Zrb ([row _ _ _,slv _ _ _ _ _ _,slv _ _ _ _ _ _]) ?_;exact y9.1):P:=f ⟨h⟩
theorem M6(h:P:=by exact⟨(jI.refl w).nd,(jI.refl w).nr,(jI.refl w).hd,(jI.refl w).hr⟩):P:=h
theorem mE(h:Q)(f:Zwr Q->P:=by intro y9;refine ZE 5 ?_;refine ZE 6 ?_;exact y9.1):P:=f ⟨h⟩
theorem AJ(h:Q)(f:Zwr Q->P:=by intro y9;refine ZcA (uF bu bb L U) (λw hi hin=>HP w hin) ?_;exact y9.1):P:=f ⟨h⟩
theorem EI(h:Q)(f:Zwr Q->P:=by intro y9;refine ZFe 10 3 ?_;refine cn 11 Zk ?_;refine ZQ ?_;refine Wq8 ?_;exact y9.1):P:=f ⟨h⟩
theorem Wq198(h:P:=by refine Z_8 ?_;refine ZS (λw hi=>hJ X10.Al X10.cl w (dp (hi.get (show Has _ (hiC X10.Al X10.cl l10)from Zh)))) ?_;rintro _ _ ⟨_,⟨A7,c7,rfl,rfl⟩,rfl⟩;refine Z_7 ?_;refine xH (cs':=[sl .u8 5 A7 (cE l10).length c7 (cE l10)]) (.inl rfl) Zu rfl rfl rfl ?_;exact⟨A7,c7,rfl,rfl⟩):P:=h
theorem Wq199(h:Q)(f:Zwr Q->P:=by intro y9;refine Zy (dE (j:=(a/64)) (sz:=1) (r:=2+a/64) rfl Zrf (Zv rfl) (Zv rfl) Wq2 Wq2 Wq1) ?_;refine eE (iL Zrf rfl rfl rfl Za (by rw[nm htl];omega)) ?_;exact y9.1):P:=f ⟨h⟩
theorem Wq200(h:Q)(f:Zwr Q->P:=by intro y9;refine Bc 6 rfl Zk Zk Zk Zk (bF Zrf Zv0) (cN Zh (Pv hR)) rfl ?_;refine ZE 7 ?_;refine iI 8 rfl Zk Zk Zk (bS (j:=pl) rfl Zrf (Zv rfl) (Zv rfl) Wq2 Wq2) rfl ?_;refine Bc 9 rfl Zk Zk Zk Zk (bF Zrf Zv0) (u5 Zh (cq hxw)) rfl ?_;refine iI 10 rfl Zk Zk Zk (cQ rfl rfl (Zv rfl) QB) rfl ?_;exact y9.1):P:=f ⟨h⟩
theorem Wq201(h:Q)(f:Zwr Q->P:=by intro y9;refine iT ?_;refine Zyy rfl rfl (gr (bU rfl) (bU rfl) rfl) ?_;refine ZB ?_;refine Zyy rfl rfl (cQ rfl rfl (bU rfl) (show _=(bif decide (0<m)then m else IntKind.u64.wrap m)from by cases hd:decide (0<m)with|false=>rfl|true=>(rw[ai,aK];simp only[ae]at hd;omega))) ?_;refine Z_4 ?_;exact y9.1):P:=f ⟨h⟩
theorem QI(h:Q)(f:Zwr Q->P:=by intro y9;refine Zy (i4 (Zv rfl) (Zv rfl) Wq1 (show _=((v%256:Nat):Int)from by rw[aO Wq1];omega)) ?_;exact y9.1):P:=f ⟨h⟩
theorem oN(h:Q)(f:Zwr Q->P:=by intro y9;refine Zy (gr Zv0 Zv0 Zl) ?_;exact y9.1):P:=f ⟨h⟩
theorem xd(h:Q)(f:Zwr Q->P:=by intro y9;refine cn 9 Zk ?_;refine ZQ ?_;refine Wq67 ?_;exact y9.1):P:=f ⟨h⟩
theorem Wq205(h:Q)(f:Zwr Q->P:=by intro y9;refine bL ⟨λj=>List.elem j [7],[]⟩ Zk ?_;refine lU ?_;refine ZFe 2 0 ?_;refine ZG 3 ?_;refine ZE 4 ?_;exact y9.1):P:=f ⟨h⟩
theorem QH(h:P:=by have hm2:ib pl p.target=p.target:=(by unfold ib;rw[hc28,ah]);refine Z_5 ?_;exact Wq9):P:=h
theorem Wq207(h:Q)(f:Zwr Q->P:=by intro y9;refine Zyy rfl rfl (bS (j:=0) rfl Zrf (bU rfl) (Zv rfl) Wq2 Wq2) ?_;refine Zyy rfl rfl (ce 24 rfl (bU rfl) ((dI (j:=24) rfl))) ?_;refine Nm ?_;refine Zyy rfl rfl (bS (j:=1) rfl Zrf (bU rfl) (Zv rfl) Wq2 Wq2) ?_;refine Zyy rfl rfl (ce 24 rfl (bU rfl) ((dI (j:=49) rfl))) ?_;exact y9.1):P:=f ⟨h⟩
theorem kP(h:P:=by assumption):P:=h
theorem kL(h:P:=by kernel_rfl):P:=h
theorem Wq210(h:Q)(f:Zwr Q->P:=by intro y9;refine ZI 0 ?_;refine uG 1 rfl Zk Zk Zk (bP (vs:=RS.cells ⟨xr,A2,c2⟩) Zrf Zrf Zv0) (λx hx=>fh x hx) (bK (t:=208) Zh) rfl ?_;refine cn 2 Zk ?_;refine fO rfl rfl (cS Zrf rfl rfl (mO rfl) Za oV) (λ_=>by rintro _ _ ⟨rfl,rfl⟩;exact bK (t:=208) Zh) ?_;exact y9.1):P:=f ⟨h⟩
theorem M5(h:Q)(f:Zwr Q->P:=by intro y9;refine Wq24 ?_;refine dx rfl (j5 Zv0 (.succ _ (.succ _ (.zero _ _)))) rfl ?_;exact y9.1):P:=f ⟨h⟩
theorem jg(h:P:=by simp_all):P:=h
theorem Wq213(h:P:=by refine ZM ?_;refine Z_3 ?_;refine pR (cs':=[slv _ _ _ _ _ _,slv _ _ _ _ _ _]) (.inl rfl) Zu rfl rfl Zh Zrf Zrf ?_;exact⟨_,_,_,_,rfl,rfl⟩):P:=h
theorem Wq214(h:Q)(f:Zwr Q->P:=by intro y9;refine Zy (fI (j:=n) hag rfl Zrf Zv0 Zv0 Zrf (λ_=>hn)) ?_;refine dK (bF Zrf Zv0) (oh (v:= .i (S.pl.r n)) hreg (iP hn)) rfl ?_;exact y9.1):P:=f ⟨h⟩
theorem CU(h:P:=by simp only[GG,xO, *,ai,ah]):P:=h
theorem Wq216(h:Q)(f:Zwr Q->P:=by intro y9;refine cn 7 Zk ?_;refine ZT (λw hi=>hrp (sA b26) 1 w (hi.rd (show Has _ (slv 3 1 (sA b26) 1 1 (ints .i64 [-1]))from Zh))) ?_;exact y9.1):P:=f ⟨h⟩
theorem QG(h:Q)(f:Zwr Q->P:=by intro y9;refine bI (AK s) ⟨⟨h.pc,h.flags,h.root,h.vec,h.epc,h.RN,h.addr,h.count,h.d,h.r⟩,hf,rfl⟩ ?_;exact y9.1):P:=f ⟨h⟩
theorem QF(h:Q)(f:Zwr Q->P:=by intro y9;refine fW (iM ([Y r]) rfl rfl HF Zi (λw hi hin=>HC r x w hrk (ak hx) hin)) rfl ?_;exact y9.1):P:=f ⟨h⟩
theorem QE(h:Q)(f:Zwr Q->P:=by intro y9;refine ZFa 16640 ?_;refine Zy (dE (j:=o) (sz:=1) (r:=16640+o) rfl Zrf (Zv rfl) (Zv rfl) Wq2 Wq2 Wq1) ?_;exact y9.1):P:=f ⟨h⟩
theorem Wq220(h:Q)(f:Zwr Q->P:=by intro y9;refine cn 9 Zk ?_;refine ZQ ?_;refine ZFe 10 3 ?_;refine cn 11 Zk ?_;refine ZQ ?_;exact y9.1):P:=f ⟨h⟩
theorem EH(h:P:=by refine gf ?_;exact⟨by unfold sU;grind,rfl⟩):P:=h
theorem Wq222(h:P:=by rintro v cs ⟨P',g',⟨⟨h1,h2⟩,h3,h4,h5⟩,h6⟩;exact⟨P',g',⟨⟨h1,(RB h3 (h4.trans hd.symm) h2).trans rfl⟩,h3,h5⟩,h6⟩):P:=h
theorem Wq223(h:Q)(f:Zwr Q->P:=by intro y9;refine gK ?_;rw[ar (show¬(p:Int)<0 by omega)];refine Z_5 ?_;refine fN (bE rfl rfl) (bF Zrf (bU rfl)) (dc kP rfl) rfl ?_;refine gU (bE rfl rfl) rfl (dW rfl (λ_ _=>rfl) (λw hi=>zE L.bt L.bp L.o L.bf L.bg L.n w (bC.old h2 hi))) rfl ?_;exact y9.1):P:=f ⟨h⟩
theorem Wq224(h:Q)(f:Zwr Q->P:=by intro y9;refine gK ?_;refine Zy (bV (j:=l.length) (sz:=1) (r:=l.length) rfl Zrf (Zv rfl) (Zv rfl) Wq2 Wq2 Wq1) ?_;refine dK (bF Zrf Zv0) (cM Zh (cq (tS l x))) rfl ?_;refine fD ?_;refine Zy (fH (l.length) rfl Zrf (Zv rfl) (Zv rfl) (λ_=>by first|rfl|omega) Wq2) ?_;exact y9.1):P:=f ⟨h⟩
theorem Wq225(h:Q)(f:Zwr Q->P:=by intro y9;refine Zy (bV (j:=l.length) (sz:=1) (r:=l.length) rfl Zrf (Zv rfl) (Zv rfl) Wq2 Wq2 Wq1) ?_;refine dK (bF Zrf Zv0) (cM Zh (cq (tS l x))) rfl ?_;refine fD ?_;refine Zy (fH (l.length) rfl Zrf (Zv rfl) (Zv rfl) (λ_=>by first|rfl|omega) Wq2) ?_;refine Z_3 ?_;exact y9.1):P:=f ⟨h⟩
theorem ls(h:Q)(f:Zwr Q->P:=by intro y9;refine Z_9 ?_;refine Zra ?_;exact y9.1):P:=f ⟨h⟩
theorem QD(h:Q)(f:Zwr Q->P:=by intro y9;refine Z_3 ?_;refine ZcM (fb (kOf br bu D) X r) (λw hi hin=>Ah (kOf br bu D) X r 10 va w hin) ?_;exact y9.1):P:=f ⟨h⟩
theorem Wq228(h:P:=by exact⟨⟨⟨hr3,hrk2⟩,by grind,by grind,by grind,by dsimp only;rw[List.drop_set_of_lt Wq1,hVd.2],by dsimp only;rw[List.take_succ_eq_append_getElem bR,List.take_set_of_le (aL _),List.getElem_set_self,aw];exact hT⟩,by grind⟩):P:=h
theorem IJ(h:Q)(f:Zwr Q->P:=by intro y9;refine fO rfl rfl (cS Zrf rfl rfl (nM y) Za oV) ZJ ?_;exact y9.1):P:=f ⟨h⟩
theorem Wq230(h:Q)(f:Zwr Q->P:=by intro y9;refine jT rfl rfl (cj (n:=L.d.l.length) (e:=3) (sz:=1) (bytes:=8) rfl rfl Za rfl rfl (λw hi=>hi.rd (show Has _ (slv 3 1 (sA b40) 1 1 (ints .i64 [L.here]))from Zh)) di gq Wq1) (λ_=>by rintro _ _ ⟨A9,c9,rfl,rfl⟩;exact bK (t:=71) Zh) rfl ?_;exact y9.1):P:=f ⟨h⟩
theorem Wq231(h:P:=by first|omega|(simp only[hs,hb,hl1,hl2,hl3,hl4,hl5,hl6,hl7,aq,aQ,List.length_nil];omega)):P:=h
theorem Wq232(h:P:=by have:((l++[x])++[y]).length<=100000:=hd;simp only[aq,aQ,List.length_nil]at this;omega):P:=h
theorem Wq233(h:Q)(f:Zwr Q->P:=by intro y9;refine F3 func25 rfl ntmps25 rfl (Inv.start w) ?_;refine fB ?_;refine ZSe (λw hi=>HI w (bC.old h1 hi)) ?_;refine ji ?_;refine Wq57 ?_;exact y9.1):P:=f ⟨h⟩
theorem QC(h:Q)(f:Zwr Q->P:=by intro y9;refine fO rfl rfl (cS Zrf rfl rfl (nM ⟨⟨k,C,(l.length:Int)⟩,A3,c3⟩) Za oV) ZJ ?_;exact y9.1):P:=f ⟨h⟩
theorem Wq235(h:Q)(f:Zwr Q->P:=by intro y9;refine QZ rfl ?_;refine la rfl rfl (iM (plF b7 (sA b66) i i pl) rfl rfl (λ_ _=>rfl) Zi (λw hi hin=>xx b7 (sA b66) i i pl hpl Q.Ar Q.cr p.RX Wq1 (by rw[hpl];exact hoR2) w hin (λw' hk=>RdV.RT h.RX hi Zi hk))) ZJ rfl ?_;exact y9.1):P:=f ⟨h⟩
theorem IH(h:Q)(f:Zwr Q->P:=by intro y9;refine retC2 (cs':=[]) (.inl rfl) Zu rfl rfl rfl rfl Zh Zrf Zrf ?_;exact y9.1):P:=f ⟨h⟩
theorem Wq237(h:Q)(f:Zwr Q->P:=by intro y9;refine cn 7 Zk ?_;refine jT rfl rfl (eo (cdF S l2 fix X2) rfl (λ_ _=>rfl) Zi (λw hi hin=>AC S l2 fix X2 bR nb 8 h3 h4 w hin (λw' hk=>hK w' (hi.SC Zi hk)))) (λ_=>by rintro _ _ ⟨_,⟨rfl,l3,X3,hl3,rfl⟩,rfl⟩;exact bK (t:=305) Zh) rfl ?_;exact y9.1):P:=f ⟨h⟩
theorem Wq238(h:Q)(f:Zwr Q->P:=by intro y9;refine Z_4 ?_;refine pP ?_;refine gP ?_;refine Z_5 ?_;refine ZS (λw hi=>uK s.next X.Ad X.Ar X.cd X.cr 1 0 w (hi.Tq (show Has _ (slD s X.Ad X.cd)from Zh) (show Has _ (slR s X.Ar X.cr)from Zh) (show s.d.length*4<=_ by omega) (show s.r.length*4<=_ by omega))) ?_;exact y9.1):P:=f ⟨h⟩
theorem M3(h:P:=by refine pR (cs':=[]) (.inl rfl) Zu rfl rfl Zh Zrf Zrf ?_;exact fy):P:=h
theorem Wq240(h:P:=by first|omega|(simp only[hs,hb,hl1,hl2,hl3,hl4,hl5,hl6,aq,aQ,List.length_nil];omega)):P:=h
theorem Wq241(h:P:=by refine iY (cs':=[row _ _ _,slv _ _ _ _ _ _,slv _ _ _ _ _ _,row _ _ _,exC _ _ _ _,row _ _ _]) (.inr rfl) Zu rfl ?_;exact fy):P:=h
theorem Wq242(h:Q)(f:Zwr Q->P:=by intro y9;refine dx rfl (dF 2 rfl Zv0 Zf) rfl ?_;refine MS ?_;refine dx rfl (i4 (Zv rfl) (Zv rfl) Wq1 (show _=((v%3:Nat):Int)from by rw[aO Wq1];omega)) rfl ?_;refine QZ rfl ?_;refine la rfl rfl (i6 rfl rfl Zrf Zrf rfl rfl) ZJ rfl ?_;exact y9.1):P:=f ⟨h⟩
theorem AI(h:P:=by refine Zrb ([row _ _ _]) ?_;exact fy):P:=h
theorem Wq244(h:P:=by rintro _ _ ⟨rfl,rfl⟩;refine cn 3 Zk ?_;refine fO rfl rfl (cS Zrf rfl rfl (oQ ⟨xr,A2,c2⟩) Za oV) (λ_=>by rintro _ _ ⟨rfl,rfl⟩;exact bK (t:=208) Zh) ?_;rintro _ _ ⟨rfl,rfl⟩;refine ZE 4 ?_;exact Wq131):P:=h
theorem Wq245(h:Q)(f:Zwr Q->P:=by intro y9;refine ZcA (lwF b N ⟨C4,s3,L.r,(C3.length:Int),L.target,L.branch⟩ ⟨A4,c4,X.Ad,X.cd,X.Ar,X.cr⟩) (λw hi hin=>vK b N ⟨C4,s3,L.r,(C3.length:Int),L.target,L.branch⟩ ⟨A4,c4,X.Ad,X.cd,X.Ar,X.cr⟩ hs4 3 0 (fe 1 C2 s2).1 (fe 1 L.code L.d).1 op w hin) ?_;exact y9.1):P:=f ⟨h⟩
theorem M1(h:Q)(f:Zwr Q->P:=by intro y9;refine ZI 0 ?_;refine ZE 1 ?_;refine cn 2 Zk ?_;refine ZR ?_;refine eQ ?_;exact y9.1):P:=f ⟨h⟩
theorem EG(h:P:=by simp only[asked,xO, *,ai,ah]):P:=h
theorem Wq248(h:Q)(f:Zwr Q->P:=by intro y9;refine dK (bP (vs:=s1.cells (.slice X1.Ad s1.d.length X1.cd) (.slice X1.Ar s1.r.length X1.cr)) Zrf Zrf Zv0) (cO Zh rfl) rfl ?_;exact y9.1):P:=f ⟨h⟩
theorem Wq249(h:Q)(f:Zwr Q->P:=by intro y9;refine ZE 1 ?_;refine cn 2 Zk ?_;refine ZR ?_;refine eQ ?_;refine Z_3 ?_;exact y9.1):P:=f ⟨h⟩
theorem nO(h:Q)(f:Zwr Q->P:=by intro y9;refine ZQ ?_;refine eQ ?_;exact y9.1):P:=f ⟨h⟩
theorem Wq251(h:Q)(f:Zwr Q->P:=by intro y9;refine ZT (λw hi=>hrp (sA b22) 1 w (hi.rd (show Has _ (slv 3 1 (sA b22) 1 1 (ints .i64 [-1]))from Zh))) ?_;exact y9.1):P:=f ⟨h⟩
theorem M0(h:Q)(f:Zwr Q->P:=by intro y9;refine Z_5 ?_;refine ZS (λw hi=>mz s Ad Ar cd cr w (h w hi.Sf)) ?_;exact y9.1):P:=f ⟨h⟩
theorem ri(h:Q)(f:Zwr Q->P:=by intro y9;refine Zy (ef Zv0 Zv0 Zl) ?_;exact y9.1):P:=f ⟨h⟩
theorem Wq254(h:Q)(f:Zwr Q->P:=by intro y9;refine iI 7 rfl Zk Zk Zk (ef Zv0 Zv0 rfl) rfl ?_;refine iI 8 rfl Zk Zk Zk (gr Zv0 Zv0 rfl) rfl ?_;refine iI 12 rfl Zk Zk Zk (gr Zv0 Zv0 rfl) rfl ?_;refine iI 13 rfl Zk Zk Zk (cQ rfl rfl (Zv rfl) (Nv _ _ _)) rfl ?_;refine cn 14 Zk ?_;exact y9.1):P:=f ⟨h⟩
theorem Wq255(h:Q)(f:Zwr Q->P:=by intro y9;refine la rfl rfl (iM (plF b7 (sA b66) i i pl) rfl rfl (λ_ _=>rfl) Zi (λw hi hin=>xx b7 (sA b66) i i pl hpl Q.Ad Q.cd p.RV Wq1 (by rw[hpl];exact hoD2) w hin (λw' hk=>RdV.RT h.RV hi Zi hk))) ZJ rfl ?_;exact y9.1):P:=f ⟨h⟩
theorem QA(h:P:=by exact⟨(j6 w).nd,(j6 w).nr,(j6 w).hd,(j6 w).hr⟩):P:=h
theorem Wq257(h:Q)(f:Zwr Q->P:=by intro y9;refine ZE 8 ?_;refine eQ ?_;refine Z_4 ?_;rw[rG,tV,<-tU n (-1:Int) 0];refine dN [cV bp B ow (pr.set o n),iy b43 bp o b39 b41 n,frC b39 n (List.replicate 0 (-1)++List.replicate (n - 0) 0),gdC b41 n (List.replicate n false)] Zj ?_;exact y9.1):P:=f ⟨h⟩
theorem Wq258(h:P:=by first|omega|(simp only[hs,hb,hl1,hl2,hl3,hl4,aq,aQ,List.length_nil];omega)):P:=h
theorem Wq259(h:Q)(f:Zwr Q->P:=by intro y9;refine eQ ?_;refine Z_4 ?_;rw[rG,tV,<-tU n (-1:Int) 0];refine dN [cV bp B ow (pr.set o n),iy b43 bp o b39 b41 n,frC b39 n (List.replicate 0 (-1)++List.replicate (n - 0) 0),gdC b41 n (List.replicate n false)] Zj ?_;refine Z_9 ?_;exact y9.1):P:=f ⟨h⟩
theorem Wq260(h:Q)(f:Zwr Q->P:=by intro y9;refine jT rfl rfl (gD rfl rfl Zrf Zrf rfl rfl rfl) (λ_=>by rintro _ _ ⟨b115,rfl,rfl⟩;exact bK (t:=35) Zh) rfl ?_;exact y9.1):P:=f ⟨h⟩
theorem Wq261(h:Q)(f:Zwr Q->P:=by intro y9;refine ZE 29 ?_;refine ZE 30 ?_;refine ZF 31 ?_;refine iJ 32 rfl Zk Zk Zk (bE rfl rfl) (bS (j:=0) rfl Zrf (bU rfl) (Zv rfl) Wq2 Wq2) rfl ?_;refine iJ 33 rfl Zk Zk Zk (bE rfl rfl) (ce 1 rfl (bU rfl) ((dI (j:=1) rfl))) rfl ?_;exact y9.1):P:=f ⟨h⟩
theorem Wq262(h:Q)(f:Zwr Q->P:=by intro y9;rw[show(pd a1 a2' va j).length+1=(pd a1 a2' va (j+1)).length by(rw[xz];simp),show ints .u32 (pd a1 a2' va j)++[Value.w (mG a1 a2' va j)]=ints .u32 (pd a1 a2' va (j+1)) by(rw[xz];exact bX _ [_])];refine gv ?_;exact y9.1):P:=f ⟨h⟩
theorem Wq263(h:Q)(f:Zwr Q->P:=by intro y9;refine ZE 0 ?_;refine uG 1 rfl Zk Zk Zk (bP Zrf Zrf Zv0) (λx hx=>fh x hx) (bK (t:=35) Zh) rfl ?_;refine ZE 4 ?_;refine uG 5 rfl Zk Zk Zk (bP Zrf Zrf Zv0) (λx hx=>fh x hx) (bK (t:=35) Zh) rfl ?_;exact y9.1):P:=f ⟨h⟩
theorem Wq264(h:Q)(f:Zwr Q->P:=by intro y9;refine jT rfl rfl (gD rfl rfl Zrf Zrf rfl rfl rfl) (λ_=>by rintro _ _ ⟨b96,rfl,rfl⟩;exact bK (t:=35) Zh) rfl ?_;exact y9.1):P:=f ⟨h⟩
theorem Wq265(h:P:=by refine ZA ?_;refine fW (cj (e:=5) (sz:=1) (bytes:=1) rfl rfl Za rfl rfl (λw hi=>h.RU hi) di gq Wq1) rfl ?_;rintro _ _ ⟨A',c',rfl,rfl⟩;simp only[Nat.zero_add,aP];refine Z_4 ?_;exact IC):P:=h
theorem Wq266(h:P:=by refine ret3 (cs':=[row _ _ _,slv _ _ _ _ _ _,slv _ _ _ _ _ _]) (.inl rfl) Zu rfl rfl rfl rfl ?_;exact⟨_,rfl,rfl⟩):P:=h
theorem Qz(h:P:=by refine Wq88 ?_;rintro _ _ ⟨rfl,rfl⟩;refine ZE 4 ?_;refine eQ ?_;exact Wq37):P:=h
theorem Wq268(h:Q)(f:Zwr Q->P:=by intro y9;refine Z_5 ?_;refine cT 309 5 ?_;refine cT 3 1 ?_;refine ZA ?_;refine ZcL (cdF (⟨b21,p,Q,pl,Ar,cr,As,c2⟩:CdS) [] [] ⟨none,0,none,0⟩) (λw hi hin=>lN (⟨b21,p,Q,pl,Ar,cr,As,c2⟩:CdS) [] [] ⟨none,0,none,0⟩ cH 15 0 w hin) ?_;exact y9.1):P:=f ⟨h⟩
theorem Wq269(h:Q)(f:Zwr Q->P:=by intro y9;refine dK (bF Zrf Zv0) (cN Zh (Pv hR)) rfl ?_;refine Z_2 ?_;refine Zy (cQ rfl rfl (Zv rfl) Nl) ?_;refine Zy (bV (j:=pl) (sz:=1) (r:=pl) rfl Zrf (Zv rfl) (Zv rfl) Wq2 Wq2 Wq1) ?_;refine eE (iK Zrf rfl rfl rfl Za Wq1) ?_;exact y9.1):P:=f ⟨h⟩
theorem eW(h:Q)(f:Zwr Q->P:=by intro y9;refine QZ rfl ?_;exact y9.1):P:=f ⟨h⟩
theorem iw(h:Q)(f:Zwr Q->P:=by intro y9;simp only[ah];exact y9.1):P:=f ⟨h⟩
theorem MZ(h:P:=by simp only[aQ,List.length_nil];omega):P:=h
theorem Wq273(h:P:=by have h7:=((h.add 0 0 0 nn).SF [w.here] (λn hn=>by rw[aB.1 hn];exact oS _ _)).RR;rw[List.map_cons,List.map_nil,show ek D R (w.add 0 0 0 nn).code w.here=nn from kf _ _]at h7;exact h7):P:=h
theorem MY(h:P:=by refine mQ ?_;exact⟨by unfold gX jF;grind,rfl⟩):P:=h
theorem IF(h:Q)(f:Zwr Q->P:=by intro y9;refine ZcS (caF E.bc E.room E.X) (λw hi hin=>HF w hin) ?_;exact y9.1):P:=f ⟨h⟩
theorem Wq276(h:Q)(f:Zwr Q->P:=by intro y9;refine iI 5 rfl Zk Zk Zk (dE (j:=(va/64%16)) (sz:=4) (r:=(va/64%16)*4) rfl Zrf (Zv rfl) (Zv rfl) Wq2 Wq2 Wq1) rfl ?_;refine Bc 6 rfl Zk Zk Zk Zk (bP (vs:=e.cells) Zrf Zrf Zv0) (tZ (o:=(va/64%16)*4) h (mX he)) rfl ?_;exact y9.1):P:=f ⟨h⟩
theorem Wq277(h:P:=by have:=LX (gy p0) p0.code 0 (List.replicate p0.code.length 0) [];have e:(cA p0).code=(nD (gy p0) p0.code 0 (List.replicate p0.code.length 0) []).2:=rfl;rw[e];rw[f1]at this|-;simp at this;omega):P:=h
theorem mD(h:Q)(f:Zwr Q->P:=by intro y9;refine ZM ?_;refine Z_3 ?_;exact y9.1):P:=f ⟨h⟩
theorem mC(h:Q)(f:Zwr Q->P:=by intro y9;refine ZM ?_;refine Z_5 ?_;exact y9.1):P:=f ⟨h⟩
theorem Wq280(h:Q)(f:Zwr Q->P:=by intro y9;refine ZcL (dq bw _) (λw hi hin=>HE (sA b141) 1 w hin (λw' hk=>hi.Sr Zi (show Has _ (slv 35 4 (sA b141) 1 1 x.cells)from Zh) hk) (λw' hk=>RdV.RT hxg.rd hi Zi hk) (λw' hk=>RdV.RT ht hi Zi hk)) ?_;exact y9.1):P:=f ⟨h⟩
theorem Wq281(h:Q)(f:Zwr Q->P:=by intro y9;refine Dd ?_;refine iI 2 rfl Zk Zk Zk (j8 (Zv rfl) (Zv rfl) (show _=false from rfl)) rfl ?_;refine ZE 3 ?_;refine ZF 4 ?_;exact y9.1):P:=f ⟨h⟩
theorem Wq282(h:Q)(f:Zwr Q->P:=by intro y9;rw[bX,show L.d.l.length+1=(L.d.l++[L.here]).length by simp];refine ZE 11 ?_;refine ZFe 12 0 ?_;refine cn 13 Zk ?_;refine fO rfl rfl (mZ Zrf rfl rfl rfl Za Zp) (λ_=>by rintro _ _ ⟨rfl,rfl⟩;exact bK (t:=71) Zh) ?_;exact y9.1):P:=f ⟨h⟩
theorem Qy(h:P:=by refine Z_7 ?_;refine ZSe (λw hi=>oB w (ht.old hi)) ?_;exact mF):P:=h
theorem Wq284(h:Q)(f:Zwr Q->P:=by intro y9;refine Z_4 ?_;refine Zy (bV (bb:=b66) (o:=0) (n:=i) (c:=i) (j:=nf) (sz:=1) (r:=nf) rfl Zrf (Zv rfl) (Zv rfl) (λ_=>hnf) Wq2 Wq1) ?_;refine dK (bF Zrf (Zv rfl)) (cM Zh (iP Wq1)) rfl ?_;refine gP ?_;refine fB ?_;exact y9.1):P:=f ⟨h⟩
theorem sy(h:Q)(f:Zwr Q->P:=by intro y9;refine cn 7 Zk ?_;refine ZQ ?_;exact y9.1):P:=f ⟨h⟩
theorem AH(h:P:=by exact λ_=>by first|rfl|omega):P:=h
theorem MX(h:Q)(f:Zwr Q->P:=by intro y9;refine Di rfl Zh Zrf Zrf (Zv rfl) rfl ?_;refine cn 2 Zk ?_;exact y9.1):P:=f ⟨h⟩
theorem w9(h:P:=by grind [bC.bs,ab]):P:=h
theorem mP(h:Q)(f:Zwr Q->P:=by intro y9;refine Z_2 ?_;refine ZL ?_;exact y9.1):P:=f ⟨h⟩
theorem Wq290(h:Q)(f:Zwr Q->P:=by intro y9;refine jT rfl rfl (cj (n:=L.d.l.length) (e:=3) (sz:=1) (bytes:=8) rfl rfl Za rfl rfl (λw hi=>hi.rd (show Has _ (slv 3 1 (sA b134) 1 1 (ints .i64 [(fe 2 L.code L.r).1]))from Zh)) di gq Wq1) ZJ rfl ?_;exact y9.1):P:=f ⟨h⟩
theorem Wq291(h:Q)(f:Zwr Q->P:=by intro y9;refine jT rfl rfl (cj (n:=L.r.l.length) (e:=3) (sz:=1) (bytes:=8) rfl rfl Za rfl rfl (λw hi=>hi.rd (show Has _ (slv 3 1 (sA b119) 1 1 (ints .i64 [(fe 1 L.code L.d).1]))from Zh)) di gq Wq1) ZJ rfl ?_;exact y9.1):P:=f ⟨h⟩
theorem EF(h:P:=by simp only[kU, *,ai,ah]):P:=h
theorem Wq293(h:Q)(f:Zwr Q->P:=by intro y9;refine Wq81 ?_;refine gU (bE rfl rfl) rfl (dW rfl (λ_ _=>rfl) (λw hi=>mj a.view a.view Y5 Y4 hgw hgw w (hR5 w (hi.get (show Has _ (bQ J5)from Zh))) (hR4 w (hi.get (show Has _ (bQ J4)from Zh))))) rfl ?_;exact y9.1):P:=f ⟨h⟩
theorem Wq294(h:Q)(f:Zwr Q->P:=by intro y9;refine Zy (fI (j:=n) has rfl Zrf Zv0 Zv0 Zrf (λ_=>hn2)) ?_;refine dK (bF Zrf Zv0) (oh (v:= .i (S.pl.s n)) hslot (iP hn2)) rfl ?_;refine pP ?_;refine Zy (cQ rfl rfl (Zv rfl) (Ja _)) ?_;exact y9.1):P:=f ⟨h⟩
theorem wH(h:P:=by exact⟨by omega,by omega⟩):P:=h
theorem CT(h:Q)(f:Zwr Q->P:=by intro y9;refine ZE 8 ?_;refine ZE 9 ?_;refine eQ ?_;exact y9.1):P:=f ⟨h⟩
theorem Wq297(h:P:=by rw[List.drop_length]at hf;have hf:l.findIdx? D=none:=hf;rw[hf];refine gK ?_;refine Zrb ([_,_]) ?_;exact⟨r,rfl,by rw[bl]at hr;show r=(l.take l.length).foldl step r0;grind,hrk,rfl⟩):P:=h
theorem Qx(h:Q)(f:Zwr Q->P:=by intro y9;refine eW ?_;refine uz rfl rfl (cS Zrf rfl rfl (mO rfl) Za oV) ZJ ?_;exact y9.1):P:=f ⟨h⟩
theorem Wq299(h:P:=by exact⟨⟨show i+1<=20 by omega,hm2.le Wq1,hu2.le Wq1,hK2,hld3⟩,show 20 - (i+1)<20 - i by omega⟩):P:=h
theorem Wq300(h:P:=by refine oN ?_;refine ZSe (λw hi=>HG w) ?_;refine gP ?_;refine Z_5 ?_;refine Wq46 ?_;exact fy):P:=h
theorem Wq301(h:Q)(f:Zwr Q->P:=by intro y9;refine jT rfl rfl (cj (n:=s3.l.length) (e:=3) (sz:=1) (bytes:=8) rfl rfl Za rfl rfl (λw hi=>hi.rd (show Has _ (slv 3 1 (sA b176) 1 1 (ints .i64 [(C4.length:Int)]))from Zh)) di gq Wq1) ZJ rfl ?_;exact y9.1):P:=f ⟨h⟩
theorem Wq302(h:Q)(f:Zwr Q->P:=by intro y9;refine ZF 35 ?_;refine iJ 36 rfl Zk Zk Zk (bE rfl rfl) (bS (j:=0) rfl Zrf (bU rfl) (Zv rfl) Wq2 Wq2) rfl ?_;refine iJ 37 rfl Zk Zk Zk (bE rfl rfl) (ce 1 rfl (bU rfl) ((dI (j:=1) rfl))) rfl ?_;exact y9.1):P:=f ⟨h⟩
theorem Wq303(h:P:=by refine Z_7 ?_;refine bG (caF bc room ⟨ml,Ac,cc,fl,LK,Z⟩) Zj ?_;refine IY (cs':=caF bc room ⟨ml,Ac,cc,fl,LK,Z⟩) (.inl rfl) (aR _) rfl rfl ?_;exact⟨_,rfl,hX,rfl⟩):P:=h
theorem Wq304(h:P:=by refine oU ?_;refine Z_9 ?_;refine gU (bM rfl rfl) rfl (dW rfl (λ_ _=>rfl) (λw hi=>hk26 w (ht.old hi))) rfl ?_;rintro _ _ ⟨_,⟨rfl,rfl⟩,rfl⟩;refine Z_6 ?_;exact pM):P:=h
theorem Wq305(h:Q)(f:Zwr Q->P:=by intro y9;refine QW rfl (I4 (zv:= .agg #[.slice none 0 0,.bool false]) (Zv rfl) (Zv rfl) hk rfl D8 Zrf) (λw hi=>(show nR E.mr (rnV E.RZ) w from hi.get (show Has _ (mpc E.mr (rnV E.RZ))from Zh))) rfl ?_;refine eW ?_;exact y9.1):P:=f ⟨h⟩
theorem Wq306(h:P:=by refine Wq200 ?_;refine ZE 11 ?_;refine ZFe 12 0 ?_;refine iI 13 rfl Zk Zk Zk (dE (j:=rd) (sz:=1) (r:=rd) rfl Zrf (Zv rfl) (Zv rfl) Wq2 Wq2 Wq1) rfl ?_;refine cn 14 Zk ?_;exact Wq103):P:=h
theorem Wq307(h:P:=by refine Z_8 ?_;refine Zrb (cdF S l fix X) ?_;exact⟨by unfold eC;rw[hr];rfl,l,X,(by simp only[ai,ah,aw,aJ,aP,az]),rfl⟩):P:=h
theorem pN(h:P:=by exact⟨_,_,rfl,rfl⟩):P:=h
theorem Wq309(h:Q)(f:Zwr Q->P:=by intro y9;refine bL ⟨λj=>List.elem j [3],[]⟩ Zk ?_;refine ZE 0 ?_;refine ZI 1 ?_;refine ZE 2 ?_;refine cn 3 Zk ?_;exact y9.1):P:=f ⟨h⟩
theorem MW(h:Q)(f:Zwr Q->P:=by intro y9;rw[bX,<-aq];refine Z_7 ?_;refine Wq6 ?_;exact y9.1):P:=f ⟨h⟩
theorem Wq311(h:P:=by subst e;obtain rfl:R.push [nn]=R':=ax h;exact⟨Did.of (l:=R.s.d) (m:=R.s.r) [] [nn] [] [] rfl (xp hw (Qn hw.d hnn)) hf rfl cH rfl cH (by simp[Run.push]),rfl,rfl,rfl⟩):P:=h
theorem Qw(h:Q)(f:Zwr Q->P:=by intro y9;refine Z_4 ?_;refine ZSe (λw hi=>KE _ w) ?_;refine Z_7 ?_;refine mQ ?_;exact y9.1):P:=f ⟨h⟩
theorem Wq313(h:Q)(f:Zwr Q->P:=by intro y9;refine jT rfl rfl (cj (n:=L.r.l.length) (e:=3) (sz:=1) (bytes:=8) rfl rfl Za rfl rfl (λw hi=>hi.rd (show Has _ (slv 3 1 (sA b191) 1 1 (ints .i64 [L.here]))from Zh)) di gq Wq1) ZJ rfl ?_;exact y9.1):P:=f ⟨h⟩
theorem Wq314(h:Q)(f:Zwr Q->P:=by intro y9;refine jT rfl rfl (eo (lwF b N L X) rfl (λ_ _=>rfl) Zi (λw hi hin=>vI b N L X (hs.mono Wq1) n w hin)) (λ_=>by rintro _ _ ⟨_,⟨rfl,C2,A2,c2,hC2,rfl⟩,rfl⟩;exact bK (t:=71) Zh) rfl ?_;exact y9.1):P:=f ⟨h⟩
theorem Wq315(h:Q)(f:Zwr Q->P:=by intro y9;refine Wq156 ?_;refine M8 ?_;refine dx rfl (ce 1 rfl (Zv rfl) ((eX ad (i*3) 1))) rfl ?_;refine kb rfl (bF Zrf Zv0) (og h (da BoR.RO (i:=1) hla rfl)) rfl ?_;refine Wq151 ?_;exact y9.1):P:=f ⟨h⟩
theorem Wq316(h:Q)(f:Zwr Q->P:=by intro y9;refine nO ?_;refine iY (cs':=[row _ _ _,slv _ _ _ _ _ _,slv _ _ _ _ _ _,slv _ _ _ _ _ _]) (.inr rfl) Zu rfl ?_;exact y9.1):P:=f ⟨h⟩
theorem EE(h:Q)(f:Zwr Q->P:=by intro y9;refine ZE 11 ?_;refine ZE 12 ?_;refine ZE 13 ?_;exact y9.1):P:=f ⟨h⟩
theorem Wq318(h:Q)(f:Zwr Q->P:=by intro y9;refine cn 9 Zk ?_;refine jT rfl rfl (cj (e:=39) (sz:=1) (bytes:=4) rfl rfl Za rfl rfl (λw hi=>hi.rd (show Has _ (slv 39 1 (sA b68) 1 1 (ints .u32 [x]))from Zh)) di gq Wq1) ZJ rfl ?_;exact y9.1):P:=f ⟨h⟩
theorem Wq319(h:Q)(f:Zwr Q->P:=by intro y9;refine Z_4 ?_;refine Wq156 ?_;refine M8 ?_;refine dx rfl (ce 1 rfl (Zv rfl) ((eX ad (i*3) 1))) rfl ?_;refine kb rfl (bF Zrf Zv0) (og h (da BoR.RO (i:=1) hla rfl)) rfl ?_;exact y9.1):P:=f ⟨h⟩
theorem Qv(h:P:=by subst hji;exact hy.wpOp hi hS ⟨⟨λ_ _ _ h=>h,λh=>h⟩,H⟩):P:=h
theorem Wq321(h:Q)(f:Zwr Q->P:=by intro y9;refine iY (cs':=[row _ _ _,slv _ _ _ _ _ _,slv _ _ _ _ _ _,row _ _ _,exC _ _ _ _,row _ _ _,row _ _ _,row _ _ _,row _ _ _,row _ _ _,slv _ _ _ _ _ _,slv _ _ _ _ _ _,row _ _ _,slv _ _ _ _ _ _]) (.inl rfl) Zu rfl ?_;exact y9.1):P:=f ⟨h⟩
theorem Qu(h:P:=by refine Zrb ([row _ _ _,slv _ _ _ _ _ _,exC _ _ _ _]) ?_;exact fy):P:=h
theorem Wq323(h:P:=by refine Zy (i4 (Zv rfl) (Zv rfl) Wq1 (show _=((va%64:Nat):Int)from by rw[aO Wq1];omega)) ?_;refine pP ?_;refine Z_5 ?_;refine mQ ?_;rw[hc];exact fy):P:=h
theorem rh(h:Q)(f:Zwr Q->P:=by intro y9;refine iU ?_;refine Z_5 ?_;exact y9.1):P:=f ⟨h⟩
theorem rf(h:Q)(f:Zwr Q->P:=by intro y9;refine gK ?_;refine Zra ?_;exact y9.1):P:=f ⟨h⟩
theorem Wq326(h:P:=by refine Z_4 ?_;refine kY ?_;rintro _ _ ⟨b20,rfl,rfl⟩;refine ZcL (fb K X R) (λw hi hin=>i9 K X R _ 1 1 [n] Wq1 w hin (λw' hk=>hi.Sr Zi Zh hk)) ?_;exact EK):P:=h
theorem Wq327(h:Q)(f:Zwr Q->P:=by intro y9;refine Gz rfl (bE rfl rfl) (AX Zv0) rfl ?_;refine Gz rfl (bE rfl rfl) (AX Zv0) rfl ?_;refine Gz rfl (bE rfl rfl) (bS (j:=k) rfl Zrf (bU rfl) (bU rfl) Wq2 Wq2) rfl ?_;exact y9.1):P:=f ⟨h⟩
theorem IE(h:P:=by simp only[dm, *,ai,ah]):P:=h
theorem Wq329(h:Q)(f:Zwr Q->P:=by intro y9;refine ZFa 16384 ?_;refine Zy (dE (j:=k) (sz:=1) (r:=16384+k) rfl Zrf (Zv rfl) (Zv rfl) Wq2 Wq2 Wq1) ?_;exact y9.1):P:=f ⟨h⟩
theorem Qt(h:Q)(f:Zwr Q->P:=by intro y9;refine eE (iL Zrf rfl rfl rfl Za (by rw[iN hl];omega)) ?_;exact y9.1):P:=f ⟨h⟩
theorem Wq331(h:Q)(f:Zwr Q->P:=by intro y9;rw[wB hf256,htk];refine Z_4 ?_;refine Zy (ef (Zv rfl) (Zv rfl) (show _=((G0.length+(j+1):Nat):Int)from by rw[IntWalk.i64_in _ ⟨by omega,by omega⟩];omega)) ?_;refine Z_6 ?_;refine Wq6 ?_;exact y9.1):P:=f ⟨h⟩
theorem Wq332(h:P:=by obtain⟨rfl,rfl⟩:=Prod.mk.inj hS;refine Z_3 ?_;refine wO ?_;refine fB ?_;exact Wq14):P:=h
theorem Qs(h:Q)(f:Zwr Q->P:=by intro y9;refine ZE 7 ?_;refine ZE 8 ?_;refine Wq122 ?_;refine ZE 14 ?_;refine eQ ?_;exact y9.1):P:=f ⟨h⟩
theorem Wq334(h:Q)(f:Zwr Q->P:=by intro y9;refine iI 14 rfl Zk Zk Zk (gr Zv0 Zv0 hwt) rfl ?_;refine iI 15 rfl Zk Zk Zk (wQ Zv0 Zv0 (yP high ((l.length:Int) - RL))) rfl ?_;refine ZE 16 ?_;refine ZFe 17 2 ?_;refine cn 18 Zk ?_;exact y9.1):P:=f ⟨h⟩
theorem Wq335(h:P:=by refine gU (bM rfl rfl) rfl (dW rfl (λ_ _=>rfl) (λw hi=>oB w (ht.old hi))) rfl ?_;rintro _ _ ⟨_,⟨rfl,rfl⟩,rfl⟩;refine Z_5 ?_;exact pM):P:=h
theorem Wq336(h:P:=by show _=fb K ⟨X.Ad,X.cd,A',c'⟩ ((R.wd l).wr (R.s.r++[x]));simp only[fb,xD,slD,slR,aq,bX,aQ,List.length_nil,Nat.zero_add]):P:=h
theorem Wq337(h:Q)(f:Zwr Q->P:=by intro y9;refine Wq205 ?_;refine Bc 5 rfl Zk Zk Zk Zk (bP (vs:=[.slice xA xl.length xc,.slice xB xk.length xe,.i (n:Int)]) Zrf Zrf Zv0) (cO Zh rfl) rfl ?_;refine ZE 6 ?_;refine cn 7 Zk ?_;exact y9.1):P:=f ⟨h⟩
theorem Wq338(h:P:=by refine ZE 13 ?_;refine cn 14 Zk ?_;refine ZR ?_;refine eQ ?_;refine Z_7 ?_;exact Wq77):P:=h
theorem Wq339(h:Q)(f:Zwr Q->P:=by intro y9;refine ZFe 9 4 ?_;refine iW 10 rfl Zk Zk Zk (bF Zrf (Zv rfl)) Wq3 (bK (t:=305) Zh) rfl ?_;refine iI 11 rfl Zk Zk Zk (cQ rfl rfl Zv0 rfl) rfl ?_;refine cn 6 Zk ?_;refine lR ?_;exact y9.1):P:=f ⟨h⟩
theorem Wq340(h:Q)(f:Zwr Q->P:=by intro y9;refine bL ⟨λj=>List.elem j [7,9,12],[]⟩ Zk ?_;refine kQ ?_;refine ZFe 3 0 ?_;refine mE ?_;exact y9.1):P:=f ⟨h⟩
theorem Qr(h:P:=by refine Z_4 ?_;refine Zrb ([row _ _ _]) ?_;exact⟨_,rfl,rfl⟩):P:=h
theorem Qq(h:Q)(f:Zwr Q->P:=by intro y9;refine ZE 8 ?_;refine sD ?_;refine ZE 12 ?_;refine eQ ?_;refine Z_8 ?_;exact y9.1):P:=f ⟨h⟩
theorem Wq343(h:P:=by refine ZFe 1 0 ?_;refine ZG 2 ?_;refine ZE 3 ?_;refine ZE 4 ?_;refine ZE 5 ?_;exact Wq83):P:=h
theorem Wq344(h:Q)(f:Zwr Q->P:=by intro y9;refine iW 10 rfl Zk Zk Zk (bF Zrf (Zv rfl)) Wq3 (bK (t:=305) Zh) rfl ?_;refine iI 11 rfl Zk Zk Zk (cQ rfl rfl Zv0 rfl) rfl ?_;refine cn 6 Zk ?_;refine lR ?_;refine Wq254 ?_;exact y9.1):P:=f ⟨h⟩
theorem Wq345(h:Q)(f:Zwr Q->P:=by intro y9;refine Zy (jR Zv0 Zv0 Zl) ?_;refine ZA ?_;refine ri ?_;refine Zy (cQ rfl rfl (Zv rfl) (show IntKind.u32.wrap ((p:Int)*64+(k:Int))=((p*64+k:Nat):Int) by rw[u32_wrap_id _ Wq1 Wq1];omega)) ?_;exact y9.1):P:=f ⟨h⟩
theorem Wq346(h:Q)(f:Zwr Q->P:=by intro y9;refine sD ?_;refine ZFe 12 1 ?_;refine ZG 13 ?_;refine iI 14 rfl Zk Zk Zk (gr Zv0 Zv0 hwt) rfl ?_;refine iI 15 rfl Zk Zk Zk (wQ Zv0 Zv0 (yP high ((l.length:Int) - RL))) rfl ?_;exact y9.1):P:=f ⟨h⟩
theorem Wq347(h:Q)(f:Zwr Q->P:=by intro y9;refine ZFe 12 1 ?_;refine ZG 13 ?_;refine iI 14 rfl Zk Zk Zk (gr Zv0 Zv0 hwt) rfl ?_;refine iI 15 rfl Zk Zk Zk (wQ Zv0 Zv0 (yP high ((l.length:Int) - RL))) rfl ?_;refine ZE 16 ?_;exact y9.1):P:=f ⟨h⟩
theorem Wq348(h:Q)(f:Zwr Q->P:=by intro y9;refine ZG 13 ?_;refine iI 14 rfl Zk Zk Zk (gr Zv0 Zv0 hwt) rfl ?_;refine iI 15 rfl Zk Zk Zk (wQ Zv0 Zv0 (yP high ((l.length:Int) - RL))) rfl ?_;refine ZE 16 ?_;refine ZFe 17 2 ?_;exact y9.1):P:=f ⟨h⟩
theorem Wq349(h:P:=by rintro _ _ ⟨_,⟨X',rfl,rfl⟩,rfl⟩;refine Z_2 ?_;refine bG (mK br bu bb L D X' Y ⟨m'.1,m'.2,d⟩) Zj ?_;refine Wq5 ?_;rw[hst];exact⟨X',Y,rfl,rfl⟩):P:=h
theorem Wq350(h:Q)(f:Zwr Q->P:=by intro y9;refine ZS (λw hi=>iR hboot hg3 (hi.rd (show Has _ (slv 33 3 (sA bi) L.length c3 (L.flatMap Im.cells))from Zh)) (hI.rd w (λa ha=>(hl a ha).dk.RU hi) (hi.get Zh))) ?_;exact y9.1):P:=f ⟨h⟩
theorem MU(h:Q)(f:Zwr Q->P:=by intro y9;refine ZSe (λw hi=>uH bu L.bm bb w (hi.get Zh)) ?_;exact y9.1):P:=f ⟨h⟩
theorem tI(h:Q)(f:Zwr Q->P:=by intro y9;refine Z_2 ?_;refine iU ?_;exact y9.1):P:=f ⟨h⟩
theorem Wq353(h:Q)(f:Zwr Q->P:=by intro y9;refine ZcA (fb (kOf br bu D) X (R.wd (l++[v]))) (λw hi hin=>mH (kOf br bu D) X R l v w hin) ?_;exact y9.1):P:=f ⟨h⟩
theorem Wq354(h:Q)(f:Zwr Q->P:=by intro y9;refine Z_3 ?_;refine ZcM ([caR bc (.i room) (.slice Ac Z.length cc) (.map (some ml)) (.i fl),slv 202 4 Ac Z.length cc (Z.flatMap BA.cells)]) (λw hi hin=>HP f w hin) ?_;rw[ho1];exact y9.1):P:=f ⟨h⟩
theorem Wq355(h:P:=by exact⟨λy hy=>hx.bs y (bh hy),by show(x.b.take 70).length<=1000;omega,by show -9223372036854775808<=Bo x.n;omega,kp hx.rd 70⟩):P:=h
theorem Wq356(h:P:=by rintro _ _ ⟨_,⟨rfl,rfl⟩,rfl⟩;refine Z_2 ?_;refine bG (mK br bu bb L D X Y ⟨m'.1,m'.2,d⟩) Zj ?_;refine Wq5 ?_;rw[hst];exact⟨X,Y,rfl,rfl⟩):P:=h
theorem Wq357(h:P:=by refine Zrb ([row _ _ _,row _ _ _,row _ _ _,row _ _ _,slv _ _ _ _ _ _,slv _ _ _ _ _ _,row _ _ _,slv _ _ _ _ _ _]) ?_;exact⟨⟨X.Ao,X.co,Ai',ci'⟩,rfl,rfl⟩):P:=h
theorem tH(h:Q)(f:Zwr Q->P:=by intro y9;refine fB ?_;refine MV ?_;exact y9.1):P:=f ⟨h⟩
theorem Wq359(h:P:=by rw[hm']at HC;rw[hm']at hst;refine Z_2 ?_;refine fW (eo (fb (kOf br bu D) X (R.wd ((l++[(v:Int)])++[(va:Int)]))++uF bu bb L U) rfl (λ_ _=>rfl) Zi (λw hi hin=>HC w hin)) rfl ?_;exact Wq356):P:=h
theorem Wq360(h:P:=by rintro _ _ ⟨rfl,rfl⟩;refine iT ?_;refine ZL ?_;refine Z_3 ?_;refine Wq30 ?_;exact Wq343):P:=h
theorem Wq361(h:Q)(f:Zwr Q->P:=by intro y9;refine Z_3 ?_;refine ZSe (λw hi=>uo hbo Wq7 hb3 (hi.rd (show Has _ (slv 33 3 A1 L.length c1 (L.flatMap Im.cells))from Zh)) (λx hx=>(hof x hx).rd (hB.RU hi))) ?_;refine fD ?_;exact y9.1):P:=f ⟨h⟩
theorem Qp(h:P:=by refine Zrb ([slv _ _ _ _ _ _]) ?_;exact⟨A1,c1,rfl,rfl⟩):P:=h
theorem Wq363(h:Q)(f:Zwr Q->P:=by intro y9;refine Z_8 ?_;refine ZcL (ubF bu bb L D Y U d) (λw hi hin=>HD w hin (λw' hk=>hi.S3 Zi (show Has _ (slD s X.Ad X.cd)from Zh) (show Has _ (slR s X.Ar X.cr)from Zh) Wq1 Wq1 hk)) ?_;exact y9.1):P:=f ⟨h⟩
theorem Wq364(h:Q)(f:Zwr Q->P:=by intro y9;refine Z_3 ?_;refine ig ⟨λj=>List.elem j [13,14],[]⟩ [(0,0),(1,1),(2,0),(3,4),(4,4),(5,0),(9,0),(10,0),(11,0),(12,0),(6,2),(7,0),(8,0),(13,2),(14,2)] Zk Zk ?_;refine nN ?_;exact y9.1):P:=f ⟨h⟩
theorem Wq365(h:P:=by rw[DH];refine kM ?_;refine xH (cs':=[row _ _ _,row _ _ _,slv _ _ _ _ _ _,slv _ _ _ _ _ _]) (.inl rfl) Zu rfl rfl rfl ?_;exact⟨_,_,_,rfl,rfl⟩):P:=h
end
end Go.Ink
