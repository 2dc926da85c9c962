/- Lemmas. -/
import Derived.Test.YtepfimeihngjoaaGreatDoorYav
import Derived.Test.YtepfimeihngjoaaGreatDoorYaw
set_option linter.all false
set_option maxRecDepth 100000
set_option maxHeartbeats 4000000
namespace Go.Ink
open List renaming length→J, replicate→R9
open IntKind renaming wrap→V9
open Go.RowKit Go.Proofs.Tryz
variable{α:Type}{x:α}
variable{o:Option Nat}
variable{j:Nat}
variable{k:Ky}
section
attribute [local irreducible] UL bM
theorem vo(bc:Nat)(r0 r2 r3:Value)(Ac:Oa)(cc:Nat)(Z:List BA)(hZ:J Z<=1000000)(k:Ky):CV prog 194 [.p bc,.agg (cy k).toArray] [Wy bc r0 (.slice Ac (J Z) cc) r2 r3,slv 262 4 Ac (J Z) cc (Z.flatMap BA.cells)] (.i (Lm (cK BA.key k Z))):=λw hi=>by
 refine UH func194 ntmps194 hi ?_;refine py ?_;refine ZO λb3=>?_;refine UE ?_;refine Zy (mi I) ?_;refine dE ([slv 262 4 Ac (J Z) cc (Z.flatMap BA.cells),Xg b3 k]) (λw hi hin=>Ln (λ_:Unit=>Xg b3 k) (λ_=>True) (λ_ _=>()) (λx=>x.key==k) 246 [.p b3] (λ_ _=>I) Z hZ (λ_ x w _ _ hin=>Kh x k b3 w hin) Ac cc () trivial w hin) ?_;rintro _ _ ⟨_,rfl, -, -,rfl⟩;refine Ut ?_;refine bI [Wy bc r0 (.slice Ac (J Z) cc) r2 r3,slv 262 4 Ac (J Z) cc (Z.flatMap BA.cells)] Zj (Vd ([_,_]) ?_);exact ff
theorem FY(bc:Nat)(room:Int)(X:VY)(hS:ο X.Z)(k:Ky):CI prog 177 [.p bc,.agg (cy k).toArray] (Vu bc room X) (λv cs=>FindK (X.Z.find? λx=>x.key==k) (Vu bc room X) v cs):=λw hi=>by
 have hZ:=hS.1;have HP:=vo bc (.i room) (.map (some X.ml)) (.i X.fl) X.Ac X.cc X.Z hZ k;obtain⟨o,ho⟩:=Uk (cK BA.key k X.Z);rw[ho]at HP;refine UH func177 ntmps177 hi ?_;refine py ?_;refine ZO λb3=>?_;refine ZN λb4=>?_
 refine Ux ?_;refine U5 ([Wy bc (.i room) (.slice X.Ac (J X.Z) X.cc) (.map (some X.ml)) (.i X.fl),blC X]) (λw hi hin=>HP w hin) ?_;refine oI ?_ ?_<;>intro hc2
 .obtain rfl:o=none:=(by cases o with|none=>rfl|some j=>(have h9:((j:Nat):Int)<0:=of_decide_eq_true hc2;omega));rw[vi ho];refine py ?_;refine Zy (gY (vs:=[Value.w 0,.w 0,.slice none 0 0,.i 0]) Zk (.inl ⟨_,I,I⟩)) ?_;refine mS ?_;exact bI (row b4 _ _::Vu bc room X) Zj (sD (cs':=Vu bc room X) (.inl I) (List.Sublist.cons _ (aO _)) I I I Zh ir ir ff)
 obtain⟨j,rfl⟩:∃j,o=some j:=(by cases o with|none=>simp[Lm]at hc2|some j=>grind);obtain⟨x,hx,hxk,hxf⟩:=rA ho;rw[hxf];have hjl:=(ap.1 hx).1;obtain⟨bs,hbs⟩:=hH (hi.get (.tail _ (.head (blC X) _))) (show 0<J X.Z by omega);have hxr:∀w0 S cs w,Ink.Inv w0 S cs w->UQ cs (cR (X.Z.map VE))->Rd w .u8 x.A (J (cD x.b.code)) x.c (cD x.b.code):=(λw0 S cs w h hh=>de (h.joinGet hh (List.mem_map.2 ⟨x,az hx,I⟩)));have hxl:J (cD x.b.code)<=140737488355328:=(by rw[jj];have:=(hS.2 x (az hx)).1;omega);refine UE ?_;refine Zy (bW (bb:=bs) (o:=0) (n:=J X.Z) (c:=X.cc) (j:=j) (sz:=4) (r:=j*4) I ir (hbs▸oX I) (Zv I) ir Uq O) ?_;refine dW (cj (vs:=BA.cells x) ir ir (Zv I)) (nk (n:=J X.Z) (c:=X.cc) (sz:=4) (e:=262) (xs:=X.Z.flatMap BA.cells) (by have h9:X.Ac=sA bs:=hbs;rw[<-h9];exact(Ur (blC X))) (λi v Xb=>fK (f:=BA.cells) ir hx Xb)) I ?_;refine ZN λb7=>?_
 refine et (cH ir I I (mO x) Za mJ) ?_;refine Uw ?_;refine UA ?_;refine UW (λw hi=>nO x.A (J (cD x.b.code)) x.c (cD x.b.code) w (hxr _ _ _ _ hi Zh) hxl) ?_;rintro _ _ ⟨A9,c9,rfl,rfl⟩;refine mR ?_;refine Uu ?_;refine iz ?_;exact bI (row b4 _ _::VE ⟨x.b,A9,c9⟩::Vu bc room X) Zj (sD (cs':=VE ⟨x.b,A9,c9⟩::Vu bc room X) (.inl I) (List.Sublist.cons _ (aO _)) I I I Zh ir ir ⟨A9,c9,I,I⟩)
theorem zB(bc ml:Nat)(r0 r1 r3:Value)(LK:List (Ky×LS))(hsm:LkSm LK)(k:Ky)(hk:lA k):CI prog 174 [.p bc,.agg (cy k).toArray] [Wy bc r0 r1 (.map (some ml)) r3,VG ml (VP LK),cR (VJ LK)] (λ_ cs=>cs=[Wy bc r0 r1 (.map (some ml)) r3,VG ml (VP (gl LK k)),cR (VJ (gl LK k))]):=λw hi=>by
 obtain⟨L0,hL0⟩:=Uk (p8 LK k);have hU:gl LK k=L0.map λx=>(x.1,mc k x.2):=by unfold gl;rw[hL0]
 have hd:p8 (VP LK) k=VP L0:=by rw[<-hL0];exact Ol LS.v LK k
 have hsub:(VJ L0).Sublist (VJ LK):=by rw[<-hL0];exact(tn LK k).map _
 have hs0:LkSm L0:=λx hx=>hsm x (by rw[<-hL0]at hx;exact(tn LK k).subset hx)
 refine UH func174 ntmps174 hi ?_;refine py ?_;refine ZO λb3=>?_;refine Us ?_;refine bN (UK [5]) Zk (mW ?_);refine Ld 2 2 ?_;refine ZG 3 ?_;refine ZI 4 ?_;refine cQ 5 Zk (ft I I (t_mdel I I hk I Dt Za) ZJ ?_);refine Uw ?_;rw[hd];refine fe ?_;refine Us ?_;refine wj (cin':=VJ (W7 k (R9 (J L0) false) L0)) Zd (by rw[AE];exact hsub) (Ut ?_);refine gJ (Ew I I Za) I ?_;rintro _ _ ⟨b15,rfl,rfl⟩;rw[<-AY k L0];refine Us ?_;refine UX (λF:List Bool=>[(0,.p bc),(3,.p b3),(15,.p b15)]) (λF=>[cR (VJ (W7 k F L0)),Wy bc r0 r1 (.map (some ml)) r3,WG ml b15 (WX k F L0) none,Xg b3 k]) (λF=>J F=J L0) (λF=>Bx F) (R9 (J L0) false) Do ?_;rintro F hF;refine py ?_;refine gJ (Jr I Za) I ?_;rintro _ _ ⟨o16,ho16,rfl,rfl⟩;refine Zy (IS ne) ?_;refine Vs ?_ ?_<;>intro hc3
 .obtain⟨⟨j,q,v⟩,rfl⟩:=Option.isSome_iff_exists.1 hc3;have hj0:(WX k F L0)[j]? =some (false,q,v):=ho16;have hjl:=(ap.1 hj0).1;obtain⟨x,hx,hFj,rfl,rfl⟩:=itL_at hj0;have hjx:(VJ (W7 k F L0))[j]? =some (XI x.2):=(by unfold VJ W7;rw[List.getElem?_map,List.getElem?_zipWith,hFj,hx];rfl);have hjp:=(ap.1 hjx).1;have hji:(Df (WX k F L0) (some (j,x.1,x.2.v)))[j]? =some (true,x.1,x.2.v):=(List.getElem?_set_self hjl);have hIT:((WX k F L0).set j (true,x.1,x.2.v)).set j (true,x.1,(mc k x.2).v)=WX k (F.set j true) L0:=(by rw[List.set_set];exact(Cc _ F L0 j true x hx).symm);have hPR:(VJ (W7 k (F.set j true) L0)).Perm (XI (mc k x.2)::(VJ (W7 k F L0)).eraseIdx j):=(by have e:VJ (W7 k (F.set j true) L0)=(VJ (W7 k F L0)).set j (XI (mc k x.2)):=(by unfold VJ W7;rw[Cc _ F L0 j true x hx,List.map_set];rfl);rw[e];exact tq hjp);refine Uu ?_;refine Ch (c:=XI x.2) (cin':=(VJ (W7 k F L0)).eraseIdx j) Zd (ov hjx) (dW (IW (Zv I)) (λw hi=>(show zo ml b15 (Df (WX k F L0) (some (j,x.1,x.2.v))) (some (x.1,x.2.v)) w from hi.get (Ur (WG ml b15 (Df (WX k F L0) (some (j,x.1,x.2.v))) (Kt (some (j,x.1,x.2.v))))))) I (py ?_));refine ZN λb4=>?_
  refine et (cH (vs:=cy x.1) ir I I (uM x.1) Za mJ) ?_;refine Uw ?_;refine Us ?_;refine bN (Wz [7,8] (pk bc [r0,r1,.map (some ml),r3]++pk b4 (cy x.1))) Zk (mW ?_);refine Ld 2 2 ?_;refine fD 3 I Zk Zk Zk (bL ir (Zv I)) XO (gu (bO (t:=249) Zh) (bO (t:=173) Zh)) I (wn 4 I Zk Zk Zk (cj ir ir ne) (λx hx=>List.mem_append_right _ (fU x hx)) (gu (bO (t:=249) Zh) (bO (t:=173) Zh)) I (ZE 5 ?_));refine UF 6 I (mi I) ?_;refine iW ?_;refine jX I I (eE ([XI x.2,Xg b3 k]) I (λ_ _=>I) Zi (λw hi hin=>delK_ok (λ_:Unit=>Xg b3 k) (λ_=>True) (λ_ _=>()) (λq=>q==k) 220 [.p b3] (λ_ _=>I) x.2.ks (hs0 x (az hx)).2 (λ_ y w _ _ hin=>Gq y k b3 w hin) x.2.A x.2.c () trivial w hin)) (λ_=>by refine Vb ?_;exact gu (bO (t:=249) Zh) (bO (t:=173) Zh)) I ?_;refine Vb ?_;refine fS ?_;refine ft I I (Τ hji I I I I Dt Za) (λ_=>by refine Uw ?_;exact gu (bO (t:=249) Zh) (bO (t:=173) Zh)) ?_;refine Uw ?_;refine fe ?_;refine Zo (kB (cin':=VJ (W7 k (F.set j true) L0)) (c:=XI (mc k x.2)) Zd Zd hPR ?_);refine ig (c:=WG ml b15 (((WX k F L0).set j (true,x.1,x.2.v)).set j (true,x.1,(mc k x.2).v)) none) (c':=WG ml b15 (WX k (F.set j true) L0) none) Za I (λw h=>by grind) ?_
  refine UN ((F.set j true)) ⟨by grind,xc hFj⟩
 obtain rfl:o16=none:=kP;have ho0:∀x,x∈WX k F L0->x.1=true:=ho16;refine Ut ?_;refine AA (IL:=WX k F L0) (cur:=none) (b:=ml) (r:=b15) Zd ?_;rw[itL_snd k F L0,Lb hF ho0];refine bI [Wy bc r0 r1 (.map (some ml)) r3,VG ml (VP (L0.map λx=>(x.1,mc k x.2))),cR (VJ (L0.map λx=>(x.1,mc k x.2)))] Zj (gK (cs':=[Wy bc r0 r1 (.map (some ml)) r3,VG ml (VP (L0.map λx=>(x.1,mc k x.2))),cR (VJ (L0.map λx=>(x.1,mc k x.2)))]) (.inr I) Zu I ?_);rw[hU]
variable{LK:List (Ky×LS)}
variable{room:Int}{X:VY}
theorem cput_ok(bc:Nat)(room:Int)(X:VY)(hX:qI room X)(t:BA)(ht:J t.b.code<=100000/\lA t.b.key)(hc1:1<=t.b.count)(hne:t.b.code≠[])(w:World)(hi:Inv w (bK (Vu bc room X)) (Vu bc room X) w)(hR:∀w',cX (bK (Vu bc room X)) w w'->Rd w' .u8 t.A (J (cD t.b.code)) t.c (cD t.b.code)):
  Uz prog 188 [.p bc,.agg t.cells.toArray] w (Vu bc room X) (λ_ cs=>∃X':VY,cs=Vu bc room X'/\qI room X'/\X'.Z.map BA.b=ur Wo.key room (X.Z.map BA.b) t.b):=by
 have hS:=hX.sm;have hZ:=hS.1;have hlen:=hX.len;obtain⟨hr1,hr2⟩:=hX.rm;have hb8:J (cD t.b.code)<=140737488355328:=by rw[jj];omega
 have hb0:J (cD t.b.code)≠0:=by rw[jj];intro e;exact hne (List.eq_nil_of_length_eq_zero O)
 have HP:=vo bc (.i room) (.map (some X.ml)) (.i X.fl) X.Ac X.cc X.Z hZ t.b.key;have HU:=zB bc X.ml (.i room) (.slice X.Ac (J X.Z) X.cc) (.i X.fl) X.LK (hX.lk.sm Do) t.b.key ht.2;have HF:=BN bc room X;obtain⟨o,ho⟩:=Uk (cK BA.key t.b.key X.Z);rw[ho]at HP;have hob:cK Wo.key t.b.key (X.Z.map BA.b)=o:=by rw[place_b,ho]
 obtain⟨ml,Ac,cc,fl,LK,Z⟩:=X;dsimp only at hS hZ hlen HP HU HF ho hob;refine UH func188 ntmps188 hi ?_;refine py ?_;refine ZO λb3=>?_;refine vY ?_;refine cG I (Do) (UA ?_);refine UW (λw hi=>nO t.A (J (cD t.b.code)) t.c (cD t.b.code) w (hR w hi.S1) hb8) ?_;rintro _ _ ⟨A9,c9,rfl,rfl⟩;refine mR ?_;refine Ux ?_;refine dW (cj (vs:=cy t.b.key) ir ir ne) (cI Zh I) I (U5 ([Wy bc (.i room) (.slice Ac (J Z) cc) (.map (some ml)) (.i fl),slv 262 4 Ac (J Z) cc (Z.flatMap BA.cells)]) (λw hi hin=>HP w hin) ?_);refine VM ?_ ?_<;>intro hc5
 .obtain⟨j,rfl⟩:∃j,o=some j:=(by cases o with|none=>cases hc5|some j=>grind);obtain⟨x,hx,hxk, -⟩:=rA ho;have hjl:=(ap.1 hx).1;obtain⟨bs,rfl⟩:=hH (hi.get (.tail _ (.head (slv 262 4 Ac (J Z) cc (Z.flatMap BA.cells)) _))) (show 0<J Z by omega);refine Ut ?_;refine dW (cj (vs:=cy t.b.key) ir ir ne) (cI Zh I) I (V7 ([Wy bc (.i room) (.slice (sA bs) (J Z) cc) (.map (some ml)) (.i fl),VG ml (VP LK),cR (VJ LK)]) (λw hi hin=>HU w hin) ?_);rintro _ _ ⟨_,rfl,rfl⟩;refine Us ?_;refine bN (UK [7]) Zk (mW ?_);refine Ld 2 1 ?_;refine ZG 3 ?_;refine ZE 4 ?_;refine ZI 5 ?_;refine UF 6 I (bW (bb:=bs) (o:=0) (n:=J Z) (c:=cc) (j:=j) (sz:=4) (r:=j*4) I ir (Zv I) (Zv I) ir Uq O) ?_;refine iW ?_;refine ft I I (tU (sz:=4) (n:=J Z) (c:=cc) (vs:=BA.cells ⟨t.b,A9,c9⟩) ir I I (mO _) Za I O) ZJ ?_;refine Uw ?_;rw[yN (f:=BA.cells) (sz:=4) ir hjl];refine fe ?_;refine UG ?_;exact Az (cin:=Z.map VE) (c:=VE x) (cin':=(Z.map VE).eraseIdx j) Zd (ov Do) (kB (cin:=(Z.map VE).eraseIdx j) (c:=VE ⟨t.b,A9,c9⟩) (cin':=(Z.set j ⟨t.b,A9,c9⟩).map VE) Zd Zd (by rw[List.map_set];exact tq Do) (bI (caL bc room ml (sA bs) cc fl (J Z) ((Z.set j ⟨t.b,A9,c9⟩).flatMap BA.cells) ((Z.set j ⟨t.b,A9,c9⟩).map VE) (gl LK t.b.key)) Zj (IH (cs':=caL bc room ml (sA bs) cc fl (J Z) ((Z.set j ⟨t.b,A9,c9⟩).flatMap BA.cells) ((Z.set j ⟨t.b,A9,c9⟩).map VE) (gl LK t.b.key)) (.inl I) (aO _) I I ⟨⟨ml,some ⟨bs,0,none⟩,cc,fl,gl LK t.b.key,Z.set j ⟨t.b,A9,c9⟩⟩,by grind,hX.set (t:=⟨t.b,A9,c9⟩) hx hxk ht _ _ _ _,by rw[put_at hob,List.map_set]⟩)))
 obtain rfl:o=none:=(by cases o with|none=>rfl|some j=>have h9:¬(0:Int)<=((j:Nat):Int):=of_decide_eq_false hc5;omega);refine py ?_;refine cq (λY:VY=>[(0,.p bc),(3,.p b3)]) (λY=>Vu bc room Y++[row b3 (BA.cells ⟨t.b,A9,c9⟩) 262,VE ⟨t.b,A9,c9⟩]) (λY=>qI room Y/\(J Y.Z:Int)<room/\Y.Z.map BA.b++[t.b]=ur Wo.key room (Z.map BA.b) t.b) ?_ ?_
 .refine Zs (bN (UK []) Zk ?_);refine mW ?_;refine Ld 2 1 ?_;refine sP ?_;refine ZE 6 ?_;refine Ld 7 0 ?_;refine ZG 8 ?_;refine ZE 9 ?_;refine sR ?_;refine ZW ?_ ?_<;>intro hc9
  .have hfull:room<=(J (Z.map BA.b):Int):=Do;refine py ?_;refine dE (Vu bc room ⟨ml,Ac,cc,fl,LK,Z⟩) (λw hi hin=>HF w hin) ?_;rintro _ _ ⟨ml2,fl2,rfl,rfl⟩;refine Zn (UN ((⟨ml2,none,0,fl2,[],[]⟩:VY)) ⟨qI.none ⟨hr1,hr2⟩ _ _ _ _,by grind,by rw[Ow hob hfull];rfl⟩)
  have hfull:¬room<=(J (Z.map BA.b):Int):=Do;refine Zc (UN ((⟨ml,Ac,cc,fl,LK,Z⟩:VY)) ⟨hX,by grind,by rw[Ov hob hfull]⟩)
 rintro⟨ml2,Ac2,cc2,fl2,LK2,Z2⟩ ⟨hY,hlt,hput⟩;dsimp only at hlt hput|-;refine Zs (bN (Wz [7,10] (pk b3 (BA.cells ⟨t.b,A9,c9⟩))) Zk ?_);refine y5 ?_;refine Ld 3 1 ?_;refine ZG 4 ?_;refine wn 5 I Zk Zk Zk (cj ir ir ne) (λx hx=>fU x hx) (bO (t:=262) Zh) I (cQ 6 Zk (jX I I (ng I I ir ir I I I) (λ_=>by rintro _ _ ⟨b54,rfl,rfl⟩;exact bO (t:=262) Zh) I ?_));rintro _ _ ⟨b54,rfl,rfl⟩;refine iW ?_;refine jX I I (cu (n:=J Z2) (e:=262) (sz:=4) (bytes:=40) I I Za I I (λw hi=>hi.rd (Ur (slv 262 4 (sA b54) 1 1 (BA.cells ⟨t.b,A9,c9⟩)))) (mO ⟨t.b,A9,c9⟩) gI O) (λ_=>by rintro _ _ ⟨A2,c2,rfl,rfl⟩;exact bO (t:=262) Zh) I ?_;rintro _ _ ⟨A2,c2,rfl,rfl⟩;rw[show Z2.flatMap BA.cells++BA.cells ⟨t.b,A9,c9⟩=(Z2++[(⟨t.b,A9,c9⟩:BA)]).flatMap BA.cells by simp,show J Z2+1=J (Z2++[(⟨t.b,A9,c9⟩:BA)]) by simp];refine ZE 8 ?_;refine Ld 9 1 ?_;refine mh ?_;refine ft I I (mm ir I I I Za Zp) (λ_=>by refine Uw ?_;exact bO (t:=262) Zh) ?_;refine Uw ?_;refine fe ?_;refine Ux ?_;exact kB (cin:=Z2.map VE) (c:=VE ⟨t.b,A9,c9⟩) (cin':=(Z2++[(⟨t.b,A9,c9⟩:BA)]).map VE) Zd Zd kP (bI (Vu bc room ⟨ml2,A2,c2,fl2,LK2,Z2++[(⟨t.b,A9,c9⟩:BA)]⟩) Zj (IH (cs':=Vu bc room ⟨ml2,A2,c2,fl2,LK2,Z2++[(⟨t.b,A9,c9⟩:BA)]⟩) (.inl I) (aO _) I I ⟨⟨ml2,A2,c2,fl2,LK2,Z2++[(⟨t.b,A9,c9⟩:BA)]⟩,I,hY.push (t:=⟨t.b,A9,c9⟩) hlt ht _ _,by grind⟩))
end
end Go.Ink
namespace Go.Ink
open List renaming length→J
open IntKind renaming wrap→V9
open Go.RowKit Go.Proofs.Tryz
section
attribute [local irreducible] UL bM
theorem P3(bc ml b2 b3 b5:Nat)(r0 r1 r3:Value)(Ap:Oa)(cp:Nat)(SC:Li)(r:Int×List (Ky×LS))(x:BA)(hx:lA x.b.key)(hsm:LkSm r.2):CI prog 172 ([]++[.agg x.cells.toArray]++[.p b3,.p b2,.p b5]) (FP bc ml b2 b3 b5 r0 r1 r3 Ap cp SC r) (λv cs=>v= .bool (eQ SC x)/\cs=FP bc ml b2 b3 b5 r0 r1 r3 Ap cp SC (nM (eQ SC) r x)):=λw hi=>by
 obtain⟨k0,k1⟩:=hx.2;have hd:=Λ hx.2;obtain⟨D,hD⟩:=Uk (eQ SC x);have hD2:SC.contains (x.b.key.2/64)=D:=hD;have HC:=pB Ap cp SC (x.b.key.2/64);rw[hD2]at HC;have ht:D=true->nM (eQ SC) r x=(V9 .i64 (r.1+1),gl r.2 x.key):=λe=>by unfold nM;grind
 have hf:D=false->nM (eQ SC) r x=r:=λe=>by unfold nM;grind
 rw[hD];refine UH func172 ntmps172 hi ?_;refine py ?_;refine ZO λb4=>?_;refine UE ?_;refine Zy (jW (Zv I) (Zv I) O (show _=x.b.key.2/64 from by rw[bj k0,au];omega)) ?_;refine sO ?_;refine UD (λw hi=>HC w (hi.rd (Ur (sl .i64 3 Ap (J SC) cp SC)))) ?_;refine VM ?_ ?_<;>intro hc2
 .refine Ut ?_;refine dW (cj (vs:=cy x.b.key) ir ir ne) (cI Zh I) I (V7 ([Wy bc r0 r1 (.map (some ml)) r3,VG ml (VP r.2),cR (VJ r.2)]) (λw hi hin=>zB bc ml r0 r1 r3 r.2 hsm x.b.key hx w hin) ?_);rintro _ _ ⟨_,rfl,rfl⟩;refine Ut ?_;refine kR ?_;refine nQ ?_;refine bI (FP bc ml b2 b3 b5 r0 r1 r3 Ap cp SC (V9 .i64 (r.1+1),gl r.2 x.key)) Zj (IH (cs':=FP bc ml b2 b3 b5 r0 r1 r3 Ap cp SC (V9 .i64 (r.1+1),gl r.2 x.key)) (.inl I) (aO _) I I ?_);rw[ht hc2];exact ff
 refine UE ?_;refine bI (FP bc ml b2 b3 b5 r0 r1 r3 Ap cp SC r) Zj (IH (cs':=FP bc ml b2 b3 b5 r0 r1 r3 Ap cp SC r) (.inl I) (aO _) I I ?_);rw[hf hc2];exact ff
theorem Qm(bc:Nat)(room:Int)(X:VY)(hX:qI room X)(Ap:Oa)(cp:Nat)(SC:Li):CI prog 123 [.p bc,.slice Ap (J SC) cp] (Vu bc room X++[sl .i64 3 Ap (J SC) cp SC]) (λv cs=>v= .i (J (X.Z.filter (eQ SC)):Int)/\∃X':VY,cs=Vu bc room X'++[sl .i64 3 Ap (J SC) cp SC]/\qI room X'/\X'.Z=X.Z.filter λx=> !eQ SC x):=λw hi=>by
 have hS:=hX.sm;have hlen:=hX.len;obtain⟨hr1,hr2⟩:=hX.rm;have hba:=hX.ba;have hlk:=hX.lk;obtain⟨ml,Ac,cc,fl,LK,Z⟩:=X;dsimp only at hS hlen hba hlk;have hZ:=hS.1;have HD:=λb2 b3 b5 w hi=>delB_ok (λr:Int×List (Ky×LS)=>cR (FP bc ml b2 b3 b5 (.i room) (.slice Ac (J Z) cc) (.i fl) Ap cp SC r)) (λr=>B3 (Z.map BA.key) r.2) (nM (eQ SC)) (eQ SC) 172 [.p b3,.p b2,.p b5] (λ_ _=>I) Z hZ
  (λr x w hok hx hin=>Uz.mono (Uz.join hin λhin2=>P3 bc ml b2 b3 b5 (.i room) (.slice Ac (J Z) cc) (.i fl) Ap cp SC r x (hba x hx).2 (hok.sm Do) w hin2)
   (λv cs ⟨cs0,⟨h1,h2⟩,h3⟩=>⟨h1,by rw[h3,h2],by
    show B3 (Z.map BA.key) (nM (eQ SC) r x).2;unfold nM;cases eQ SC x with
    |true=>exact(hok.unlink x.key).1
    |false=>exact hok⟩)) Ac cc (0,LK) hlk w hi
 obtain⟨hf1,hf2, -,hf4⟩:=vk (eQ SC) (Z.map BA.key) Z (0,LK) (Int.le_refl _) O hlk;obtain⟨⟨n9,LK9⟩,h9⟩:=Uk (Z.foldl (nM (eQ SC)) (0,LK));rw[h9]at HD hf1 hf2 hf4;dsimp only at hf1 hf2 hf4;have hsub:(Z.filter λx=> !eQ SC x).Sublist Z:=List.filter_sublist;have hOk:∀A c,qI room ⟨ml,A,c,fl,LK9,Z.filter λx=> !eQ SC x⟩:=λA c=>⟨⟨hr1,hr2⟩,Do,(λy hy=>hba y (hsub.subset hy)),λy hy=>⟨(hf2 y hy).1,(hf2 y hy).2.1,λq hq=>by
  obtain⟨z,hz,hzq⟩:=List.mem_map.1 ((hf2 y hy).2.2 q hq)
  grind⟩⟩
 refine UH func123 ntmps123 hi ?_;refine py ?_;refine ZO λb2=>?_;refine ZO λb3=>?_
 refine Uu ?_;refine ZN λb5=>?_;refine ZL ?_;refine Us ?_;refine bN (Wz [6,9] (pk b2 [.p bc])) Zk (fD 0 I Zk Zk Zk (bL ir (oX I)) (dD I) ((by first|(refine bO (t:=168) ?_;(repeat (first|exact .head _ _|apply UQ.tail));done)|(refine od (t:=168) (cin:=FP bc ml b2 b3 b5 (.i room) (.slice Ac (J Z) cc) (.i fl) Ap cp SC (n9,LK9)) ?_ (List.mem_cons_self ..);(repeat (first|exact .head _ _|apply UQ.tail));done))) rfl ?_);refine fD 1 I Zk Zk Zk (bL ir (oX I)) (dD I) ((by first|(refine bO (t:=168) ?_;(repeat (first|exact .head _ _|apply UQ.tail));done)|(refine od (t:=168) (cin:=FP bc ml b2 b3 b5 (.i room) (.slice Ac (J Z) cc) (.i fl) Ap cp SC (n9,LK9)) ?_ (List.mem_cons_self ..);(repeat (first|exact .head _ _|apply UQ.tail));done))) rfl ?_;refine ZE 2 ?_;refine Ld 3 1 ?_;refine ZG 4 ?_;refine UF 5 I (mi I) ?_;refine cQ 6 Zk (wi_inv (cs':=cR (FP bc ml b2 b3 b5 (.i room) (.slice Ac (J Z) cc) (.i fl) Ap cp SC (0,LK))::[slv 262 4 Ac (J Z) cc (Z.flatMap BA.cells),cR (Z.map VE)]) (λw hi=>hi.Ue Zi) (jX I I (eE ([slv 262 4 Ac (J Z) cc (Z.flatMap BA.cells),cR (FP bc ml b2 b3 b5 (.i room) (.slice Ac (J Z) cc) (.i fl) Ap cp SC (0,LK))]) I (λ_ _=>I) Zi (λw hi hin=>HD b2 b3 b5 w hin)) (λ_=>by rintro _ _ ⟨_,⟨rfl,rfl⟩,rfl⟩;exact(by first|(refine bO (t:=168) ?_;(repeat (first|exact .head _ _|apply UQ.tail));done)|(refine od (t:=168) (cin:=FP bc ml b2 b3 b5 (.i room) (.slice Ac (J Z) cc) (.i fl) Ap cp SC (n9,LK9)) ?_ (List.mem_cons_self ..);(repeat (first|exact .head _ _|apply UQ.tail));done))) rfl ?_));refine Vb ?_;refine wa_inv (cs':=FP bc ml b2 b3 b5 (.i room) (.slice Ac (J Z) cc) (.i fl) Ap cp SC (n9,LK9)++[slv 262 4 Ac (J (Z.filter λx=> !eQ SC x)) cc ((Z.filter λx=> !eQ SC x).flatMap BA.cells),cR (Z.map VE)]) (λw hi=>(hi.perm (List.Perm.swap ..)).Tl) (ZE 7 ?_);refine Ld 8 1 ?_;refine kO ?_;refine ft I I (mm ir I I I Za Zp) (λ_=>by rintro _ _ ⟨rfl,rfl⟩;exact(by first|(refine bO (t:=168) ?_;(repeat (first|exact .head _ _|apply UQ.tail));done)|(refine od (t:=168) (cin:=FP bc ml b2 b3 b5 (.i room) (.slice Ac (J Z) cc) (.i fl) Ap cp SC (n9,LK9)) ?_ (List.mem_cons_self ..);(repeat (first|exact .head _ _|apply UQ.tail));done))) ?_;refine Uw ?_;refine fe ?_;refine UG ?_;refine mB (cin:=Z.map VE) (cin':=(Z.filter λx=> !eQ SC x).map VE) Zd (hsub.map _) (bI (Vu bc room ⟨ml,Ac,cc,fl,LK9,Z.filter λx=> !eQ SC x⟩++[sl .i64 3 Ap (J SC) cp SC]) Zj (IH (cs':=Vu bc room ⟨ml,Ac,cc,fl,LK9,Z.filter λx=> !eQ SC x⟩++[sl .i64 3 Ap (J SC) cp SC]) (.inl I) (aO _) I I ⟨by grind,⟨ml,Ac,cc,fl,LK9,Z.filter λx=> !eQ SC x⟩,I,hOk _ _,I⟩))
end
variable{w:World}
section
variable{C:Cx}{fr:Fr}{x y:Operand}{d:Option Nat}{T:TypeId}{ty:TypeId}{pos:String}{af:Array Edge}{gd:Option (Nat×Bool)}{g:Bool}{k:IntKind}
theorem ib{A:Oa}{ad:Addr}(hA:A=some ad){n c j:Nat}{i:Int}{e sz:Nat}(hT:C.P.underlying T=some (.slice e))(hs:∀w,(sizeOf e).run C.P w= .ok sz w)(hx:Ev fr g x (.slice A n c))(hy:Ev fr g y (.int k i))(hj:g=true->i=(j:Int))(h1:g=true->j<n):
  UL C ⟨d,.indexAddr T x y,ty,pos,af,gd⟩ fr g U4 (.pointer (some (ad.add (j*sz)))):=by grind [cW]
end
section
attribute [local irreducible] UL bM
section
variable(S:VU)(l:List HI)(fix:Li)(X:VB)
theorem cto_ok(hl:J l<=20000)(n:Nat)(hn:n<J S.pl.reg)(w:World)(hi:Inv w (bK (UC S l fix X)) (UC S l fix X) w)(hK:∀w',cX (bK (UC S l fix X)) w w'->Nq S w'):
  Uz prog 305 [.p S.b,.i n] w (UC S l fix X) (λr9 cs=>r9= .i (eJ S.pl n 9)/\∃l' X',l'=l++[]/\cs=UC S l' (fix) X'):=by
 have hreg0:=(hK w (cX.refl _ _)).reg;obtain⟨ag,hag⟩:∃ag,S.Ag=some ag:=Option.ne_none_iff_exists'.1 (λe=>by have:=(hreg0.nil e).1;omega);have hreg:∀w',cX (bK (UC S l fix X)) w w'->UJ w' 1 (some ag) (J S.pl.reg) S.cg (ints .i64 S.pl.reg):=λw' hk=>hag▸(hK w' hk).reg
 refine UH func305 ntmps305 hi ?_;refine jG ?_;refine Z4 ?_;refine VM ?_ ?_<;>intro hc2
 .have hr:S.pl.inR n=true:=hc2;exact Wq313
 have hr:S.pl.inR n=false:=hc2;exact Wq313
theorem yX(hl:J l<=20000)(n:Nat)(into:Int)(hn:n<J S.pl.reg)(hn2:n<J S.pl.slot)(w:World)(hi:Inv w (bK (UC S l fix X)) (UC S l fix X) w)(hK:∀w',cX (bK (UC S l fix X)) w w'->Nq S w'):
  Uz prog 306 [.p S.b,.i n,.i into] w (UC S l fix X) (λr9 cs=>r9= .i (eJ S.pl n into)/\∃l' X',l'=l++j9 S.pl n into/\cs=UC S l' (fix) X'):=by
 have hreg0:=(hK w (cX.refl _ _)).reg;obtain⟨ag,hag⟩:∃ag,S.Ag=some ag:=Option.ne_none_iff_exists'.1 (λe=>by have:=(hreg0.nil e).1;omega);have hreg:∀w',cX (bK (UC S l fix X)) w w'->UJ w' 1 (some ag) (J S.pl.reg) S.cg (ints .i64 S.pl.reg):=λw' hk=>hag▸(hK w' hk).reg
 have hslot0:=(hK w (cX.refl _ _)).slot;obtain⟨asl,has⟩:∃ag,S.As=some ag:=Option.ne_none_iff_exists'.1 (λe=>by have:=(hslot0.nil e).1;omega);have hslot:∀w',cX (bK (UC S l fix X)) w w'->UJ w' 1 (some asl) (J S.pl.slot) S.cs (ints .i64 S.pl.slot):=λw' hk=>has▸(hK w' hk).slot
 refine UH func306 ntmps306 hi ?_;refine jG ?_;refine Z4 ?_;refine VM ?_ ?_<;>intro hc2
 .have hr:S.pl.inR n=true:=hc2;have e1:j9 S.pl n into=[]:=by unfold j9;rw[hr];rfl
  refine UG ?_;refine Vd (UC S l fix X) ?_;exact⟨by unfold eJ;rw[hr];rfl,l,X,Do,rfl⟩
 have hr:S.pl.inR n=false:=hc2;have e1:j9 S.pl n into=[⟨14,into,15,0,V9 .u32 (64+S.pl.s n)⟩]:=by unfold j9;rw[hr];rfl
 refine fo ?_;refine Wq301 ?_;refine dE (UC S l fix X) (λw hi hin=>BL S l fix X O into 15 (V9 .u32 (64+S.pl.s n)) w hin) ?_;rintro _ _ ⟨l1,X1,hl1,rfl⟩;refine UE ?_;refine Vd (UC S l1 fix X1) ?_;exact⟨by unfold eJ;rw[hr];rfl,l1,X1,Do,rfl⟩
theorem Qh(hl:J l<=20000)(n:Nat)(r:Int)(hn:n<J S.pl.reg)(hn2:n<J S.pl.slot)(w:World)(hi:Inv w (bK (UC S l fix X)) (UC S l fix X) w)(hK:∀w',cX (bK (UC S l fix X)) w w'->Nq S w'):
  Uz prog 309 [.p S.b,.i n,.i r] w (UC S l fix X) (λr9 cs=>∃l' X',l'=l++jh S.pl n r/\cs=UC S l' (fix) X'):=by
 have hreg0:=(hK w (cX.refl _ _)).reg;obtain⟨ag,hag⟩:∃ag,S.Ag=some ag:=Option.ne_none_iff_exists'.1 (λe=>by have:=(hreg0.nil e).1;omega);have hreg:∀w',cX (bK (UC S l fix X)) w w'->UJ w' 1 (some ag) (J S.pl.reg) S.cg (ints .i64 S.pl.reg):=λw' hk=>hag▸(hK w' hk).reg
 have hslot0:=(hK w (cX.refl _ _)).slot;obtain⟨asl,has⟩:∃ag,S.As=some ag:=Option.ne_none_iff_exists'.1 (λe=>by have:=(hslot0.nil e).1;omega);have hslot:∀w',cX (bK (UC S l fix X)) w w'->UJ w' 1 (some asl) (J S.pl.slot) S.cs (ints .i64 S.pl.slot):=λw' hk=>has▸(hK w' hk).slot
 refine UH func309 ntmps309 hi ?_;refine UG ?_;refine Z4 ?_;refine Vs ?_ ?_<;>intro hc0
 .have hr:S.pl.inR n=false:=by unfold Pl.inR;rw[ah]at hc0;rw[aa];omega
  have e1:jh S.pl n r=[⟨15,0,15,r,V9 .u32 (64+S.pl.s n)⟩]:=by unfold jh;rw[hr];rfl
  refine UG ?_;refine Wq301 ?_;refine ZA ?_;refine dE (UC S l fix X) (λw hi hin=>xg S l fix X O 15 (V9 .u32 (64+S.pl.s n)) r w hin) ?_;rintro _ _ ⟨l1,X1,hl1,rfl⟩;refine Zn (gK (cs':=UC S l1 fix X1) (.inr I) Zu I ?_);exact⟨l1,X1,Do,I⟩
 have hr:S.pl.inR n=true:=by unfold Pl.inR;rw[aa]at hc0;rw[ah];omega
 have e1:jh S.pl n r=[]:=by unfold jh;rw[hr];rfl
 refine Zc (gK (cs':=UC S l fix X) (.inr I) Zu I ?_);exact⟨l,X,Do,I⟩
end
variable{LK:List (Ky×LS)}{k:Ky}
theorem Lg(A:Oa)(c:Nat)(l:List Ky)(x:Ky)(w:World)(h:UJ w 2 A (J l) c (l.flatMap cy)):Uz prog 247 [.slice A (J l) c,.agg (cy x).toArray] w [] (λv cs=>(∃z,v= .i z/\decide (0<=z)=l.contains x)/\cs=[]):=by
 have hlm:=aR h.cap h.max;simp only[maxLen]at hlm;refine UB func247 ntmps247 ?_;refine py ?_;refine ZO λb3=>?_;refine fo ?_;refine UX (λk:Nat=>[(0,.slice A (J l) c),(3,.p b3),(7,.i (J l:Int)),(8,.i (k:Int))]) (λ_=>[Xg b3 x]) (λk=>k<=J l/\(l.drop k).contains x=l.contains x) (λk=>J l - k) (0) Do ?_;rintro k ⟨hk,hc⟩;refine Ul ?_ ?_<;>intro hc2
 .simp only[ah]at hc2;have hkl:k<J l:=O;obtain⟨ad,had⟩:=h.some_ O;have h2:=h;rw[had]at h2;obtain⟨y,hy⟩:∃y,l[k]? =some y:=⟨_,aj hkl⟩;rw[qu hy]at hc;refine gX ?_;refine sS ?_;refine ZI 0 ?_;refine ZE 1 ?_;refine ZE 2 ?_;refine UF 3 I (ib (j:=k) had I ir ne ne ir (λ_=>hkl)) ?_;refine US 4 I (cj (vs:=cy y) ir ir ne) (fP h2 (λi v hi=>fK (f:=cy) ir (i:=i) hy hi)) ?_;refine UF 5 I (IV uN (Du x y) (Zv I) (Zv I)) ?_;refine sR ?_;refine ZW ?_ ?_<;>intro hc4
  .have hcx:l.contains x=true:=Do;refine fo ?_;refine VW ?_;exact⟨⟨_,I,by grind⟩,rfl⟩
  rw[List.contains_cons,hc4,bh]at hc;refine fZ ?_;refine Vo (k+1) Do
 simp only[aa]at hc2;obtain rfl:k=J l:=O;rw[List.drop_length]at hc;refine nR ?_;exact⟨⟨_,I,by grind⟩,rfl⟩
theorem BH(A:Oa)(c:Nat)(l:List Ky)(x:Ky)(w:World)(h:UJ w 2 A (J l) c (l.flatMap cy)):CW prog 195 [.slice A (J l) c,.agg (cy x).toArray] w (.bool (l.contains x)):=by
 refine UB func195 ntmps195 ?_;refine py ?_;refine ZO λb3=>?_;refine Ux ?_;refine UW (λw hi=>Lg A c l x w (h.SS hi)) ?_;exact Wx79_
theorem Qg(bc:Nat)(room:Int)(X:VY)(hX:qI room X)(f t:Ky)(hkf:lA f):CI prog 147 [.p bc,.agg (cy f).toArray,.agg (cy t).toArray] (Vu bc room X) (λ_ cs=>∃X':VY,cs=Vu bc room X'/\qI room X'/\X'.Z=X.Z):=λw hi=>by
 have hS:=hX.sm;have hlk:=hX.lk;have hX2:∀LK,B3 (X.Z.map BA.key) LK->qI room ⟨X.ml,X.Ac,X.cc,X.fl,LK,X.Z⟩:=λLK h=>⟨hX.rm,hX.len,hX.ba,h⟩
 obtain⟨ml,Ac,cc,fl,LK,Z⟩:=X;dsimp only at hS hlk hX2;have hZ:=hS.1;have HP:=vo bc (.i room) (.map (some ml)) (.i fl) Ac cc Z hZ;have hgv:=KX LK f;have hget:∀L,fX (VP LK) f (.slice none 0 0)=L->L=(gR LK f).v:=λL e=>e▸hgv
 refine UH func147 ntmps147 hi ?_;refine py ?_;refine ZO λb4=>?_;refine ZO λb5=>?_
 refine Uu ?_;rcases ho1:cK BA.key f Z with _|j1
 .refine Wq378 ?_;refine py ?_;refine Ni ?_;refine Ni ?_;refine Zy (Nx (q:=false) (Zv I) ⟨_,I,λ_ e=>absurd e An⟩) ?_;refine py ?_;refine mV ?_;exact Wq310
 refine Wq378 ?_;refine Us ?_;refine i6 (bU I I) Zh ir ir (Zv I) I (kt (bU I I) (by rw[show decide (Lm (some j1)<0)=false from ao (by show¬((j1:Nat):Int)<0;omega)];rfl) (eE ([Wy bc (.i room) (.slice Ac (J Z) cc) (.map (some ml)) (.i fl),slv 262 4 Ac (J Z) cc (Z.flatMap BA.cells)]) rfl (λ_ _=>I) Zi (λw hi hin=>HP t w hin)) I ?_);refine Vb ?_;refine Wj ?_ ?_<;>intro hc1
 .exact Wq310
 have htk:t∈Z.map BA.key:=(by cases ho2:cK BA.key t Z with|none=>rw[ho2]at hc1;simp[Lm]at hc1|some j2=>obtain⟨x2,hx2,hxk2, -⟩:=rA ho2;grind);refine py ?_;refine cq (λY:VY=>[(6,.bool false)]) (λY=>Vu bc room Y) (λY=>qI room Y/\Y.Z=Z) ?_ ?_
 .refine Zs (bN (UK []) Zk ?_);refine mW ?_;refine Ld 2 2 ?_;refine ZG 3 ?_;refine ZI 4 ?_;refine ZI 6 ?_;refine cQ 5 Zk (vQ I (IT (Zv I) (Zv I) hkf I Dt ir) (λw hi=>(show nV ml (VP LK) w from hi.get (Ur (VG ml (VP LK))))) I (iW ?_));rw[KX LK f];refine VF (λw hi=>BH (gR LK f).A (gR LK f).c (gR LK f).ks t w (link_rd (hi.get (Ur (cR (VJ LK)))))) ?_;refine Uw ?_;refine ZE 8 ?_;refine sR ?_;refine ZW ?_ ?_<;>intro hc3
  .have hnt:t∉(gR LK f).ks:=Do;have hxl:(gR LK f).ks.length<=1000000:=(by cases hp:cK (λx:Ky×LS=>x.1) f LK with|some j=>obtain⟨x,hx,hl⟩:=nC hp;rw[hl];exact((hlk.sm Do) _ (az hx)).2|none=>rw[nD hp];exact ay _);obtain⟨⟨Ax,cx,kx⟩,hlx⟩:=Uk (gR LK f);refine wc_inv (cs':=XI (gR LK f)::cR (wQ LK f)::[Wy bc (.i room) (.slice Ac (J Z) cc) (.map (some ml)) (.i fl),slv 262 4 Ac (J Z) cc (Z.flatMap BA.cells),cR (Z.map VE),VG ml (VP LK),Xg b4 f,Xg b5 t]) (λw hi=>lkTake f (hi.pick (cs':=cR (VJ LK)::[Wy bc (.i room) (.slice Ac (J Z) cc) (.map (some ml)) (.i fl),slv 262 4 Ac (J Z) cc (Z.flatMap BA.cells),cR (Z.map VE),VG ml (VP LK),Xg b4 f,Xg b5 t]) Zj)) (ik (UK [7,9,11]) [(0,0),(1,0),(2,0),(3,4),(4,4),(5,4),(6,2),(7,2),(8,0),(10,0),(9,2),(11,2)] Zk Zk (MY ?_));refine dX I (dq 2 I ne Zf) I (Nt ?_);refine MW ?_;refine MW ?_;refine Q3 ?_;rintro _ _ ⟨b33,rfl,rfl⟩;refine dZ ?_;refine lv I I (NY I I hkf I Dt ir Za) ZJ I ?_;rintro _ _ ⟨st34,rfl,rfl⟩;refine dX I (kf ne (.zero _ _)) I (dX I (kf ne (.succ _ (.zero _ _))) I (dZ ?_));rw[KX LK f];refine lv I I (cu (n:=(gR LK f).ks.length) (e:=173) (sz:=2) (bytes:=8) I I Za I I (λw hi=>hi.rd (Ur (slv 173 2 (sA b33) 1 1 (cy t)))) (uM t) gI O) ZJ I ?_;rintro _ _ ⟨A9,c9,rfl,rfl⟩;rw[show(gR LK f).ks.flatMap cy++cy t=((gR LK f).ks++[t]).flatMap cy by simp,show(gR LK f).ks.length+1=J ((gR LK f).ks++[t]) by simp];refine dZ ?_;refine rS I I (Js (ment_at LK f) I I I Za) ZJ ?_;refine Uw ?_;refine kr (ig (c:=VG ml ((uz (VP LK) f (.slice none 0 0)).set (yx (VP LK) f) (f,(LS.mk A9 c9 ((gR LK f).ks++[t])).v))) (c':=VG ml (VP (dP LK f ⟨A9,c9,(gR LK f).ks++[t]⟩))) Za I (λw h=>by rw[<-OX];exact h) ?_)
   refine kB (cin:=wQ LK f) (c:=XI ⟨A9,c9,(gR LK f).ks++[t]⟩) (cin':=VJ (dP LK f ⟨A9,c9,(gR LK f).ks++[t]⟩)) Zd Zd (lkPut LK f _) (UN ((⟨ml,Ac,cc,fl,dP LK f ⟨A9,c9,(gR LK f).ks++[t]⟩,Z⟩:VY)) ⟨hX2 _ (hlk.put hkf htk hnt _ _),I⟩)
  refine Zc (UN ((⟨ml,Ac,cc,fl,LK,Z⟩:VY)) Do)
 rintro Y ⟨hY,hYZ⟩;refine UA ?_
 skip
 refine IH (cs':=Vu bc room Y) (.inl I) (aO _) I I ?_
 grind
end
end Go.Ink
namespace Go.Ink
open List renaming length→J, replicate→R9
open IntKind renaming wrap→V9
open Go.RowKit Go.Proofs.Tryz
set_option maxHeartbeats 1000000
variable{x:Int}
variable{b:Int}
variable{r:Int}
variable{s:St}{n:Int}
section
attribute [local irreducible] UL bM
variable{k:Nat}
theorem lH.shift{B:Li}{o:Nat}:∀{l:List (Int×Int)} {j e:Nat},lH (B.drop o) j l e->lH B (o+j) l (o+e)
 |[],j,e,h=>by cases h;exact .nil _
 |i::l,j,e,h=>by
  cases h with
  | @cons _ z _ _ _ h t=>
   rw[List.drop_drop]at h;exact .cons h (by have:=lH.shift t;grind)
variable{n:Nat}
theorem Se{U:Uo}{d:Un}{E:Vi}(hn:n<=1000000)(h:Vp n s U d)(hE:gy E):(Wv n s U d E).1=cL n s U d/\gy (Wv n s U d E).2/\
  ∃c:Nat,c<=8/\F9 E (Wv n s U d E).2 c/\(cL n s U d).1.count=V9 .u64 (s.count+(c:Int)):=by
 have hb:=kp h;have hbp:=vy h;unfold Wv cL;obtain⟨b,hbe⟩:=Uk (cF n s U d);rw[hbe]at hb hbp|-;dsimp only;have hsc:=h.wf.count;cases hr:b.runs with
 |false=>
  refine fy ?_;refine⟨trivial,hE.same I I I,?_⟩;cases hh:s.halted with
  |true=>
   have e:=hb.held hh;have es:b.s=s:=by rw[e]
   refine⟨0,by omega,⟨λh1 h2 h3=>?_,I⟩,?_⟩
   .grind [IntKind.wrap_i64,IntKind.wrap_u64]
   grind [IntKind.wrap_u64]
  |false=>
   obtain⟨c1,c2⟩:=hb.stays hr hh;refine⟨1,by omega,⟨λh1 h2 h3=>?_,I⟩,c1⟩
   grind [IntKind.wrap_i64,IntKind.wrap_u64]
 |true=>
  simp only[ae];obtain⟨c1,c2,c3⟩:=hb.runs hr;obtain⟨q1,q2⟩:=hbp hr;have hg:=hb.g;have hp0:=hb.place;have hpc:=hg.wf.pc;have qk:((b.place.toNat:Nat):Int)=b.place:=Int.toNat_of_nonneg hp0.1;have hbb:=uw hg.u.m b.place.toNat;obtain⟨f1,f2,f3,f4,f5⟩:=qs hE (k:=(b.s.pc,b.place)) hbb;unfold jr;obtain⟨⟨o,E1⟩,hf⟩:=Uk (lB E (b.s.pc,b.place) (iC b.u.m b.place.toNat));rw[hf]at f1 f2 f3 f4 f5|-;dsimp only at f1 f2 f3 f4 f5;have slowly:(jv n (b.place.toNat/64) 8 b.s b.place.toNat b.u b.d E1).1=dO n (b.place.toNat/64) 8 b.s b.place.toNat b.u b.d/\gy (jv n (b.place.toNat/64) 8 b.s b.place.toNat b.u b.d E1).2/\
    ∃c:Nat,c<=8/\F9 E (jv n (b.place.toNat/64) 8 b.s b.place.toNat b.u b.d E1).2 c/\(dO n (b.place.toNat/64) 8 b.s b.place.toNat b.u b.d).1.count=V9 .u64 (s.count+(c:Int)):=by
   obtain⟨r1,r2,c,r3,r4,r5⟩:=ye (SR:=b.place.toNat/64) 8 b.place.toNat hg f1;refine⟨r1,r2,c,r3,⟨λh1 h2 h3=>?_,r4.room.trans f2⟩,by rw[r5,c1]⟩;obtain⟨a1,a2,a3,a4⟩:=r4.S9 O O O;exact⟨a1,a2,by omega,by omega⟩
  cases o with
  |none=>exact slowly
  |some tr=>
   obtain⟨t,r⟩:=tr;dsimp only;cases hdone:(iq t.code b.s).2==1 with
   |false=>exact slowly
   |true=>
    refine gV ?_;obtain⟨p,il,g1,g2,g3,g4,g5,g6,g7⟩:=f5 t r I;obtain⟨M,hM,hout⟩:=EJ hdone;rw[g3]at hM;obtain⟨k1,k2,k3,k4,k5,k6, -, -, -⟩:=Es hg.u hg.dv hg.wf hg.right g6 g1 g2 hM;rw[hout];obtain⟨s2,hs2⟩:=Uk (oO M.words b.s);rw[hs2]at k1 k2 k3 k4|-;obtain⟨SR,hpage⟩:=Uk (b.place.toNat/64);obtain⟨ofs,hofs⟩:=Uk (b.place.toNat%64);have hpo:b.place.toNat=SR*64+ofs:=by omega
    have hst:lH ((b.u.m.data.drop (SR*64)).take 64) ofs il (ofs+J r.bytes):=by
     have:=g5;unfold iC at this;rw[hpage,hofs]at this;simpa using this.shift
    have hil:il≠[]:=λe=>by grind
    have hse:=(hst.ends hil).1;rw[aU]at hse;obtain⟨c4,c5,c6⟩:=wI hn (SR:=SR) O il ofs 8 (e:=ofs+J r.bytes) (U:=b.u) b.d hil k1 k6 hst hpc.1 (by have:=hpc.2;omega) O (c2.trans c3);rw[hpage,hpo,c6,g7,g4];have hc0:decide ((0:Int)<(J il:Int))=true:=ak O
    rw[hc0,Bool.and_true];have hE2:gy {E1 with last:=(b.s.pc,b.place),begun:=true,S9:=V9 .i64 (E1.S9+(J il:Int))}:=f1.same I I I;obtain⟨E2,he2⟩:=Uk (({E1 with last:=(b.s.pc,b.place),begun:=true,S9:=V9 .i64 (E1.S9+(J il:Int))}:Vi));have hu2:F9 E E2 (J il):=⟨λh1 h2 h3=>by
     grind [IntKind.wrap_i64],by grind⟩
    have hcnt:s2.count=V9 .u64 (s.count+(J il:Int)):=by
     have:=congrArg St.count k4;dsimp only at this;rw[this,c1]
    rw[he2]at hE2|-;have hhg:Vp n s2 ⟨b.u.m.calm,b.u.t⟩ b.d:=⟨k2,k3,⟨hg.u.m.calm,hg.u.t⟩,hg.dv,hg.lines⟩;cases hend:gg (il.getLastD (0,0)).1||s2.pc/64 !=b.s.pc/64 with
    |true=>
     grind
    |false=>
     simp only[ac];obtain⟨e1,e2⟩:=aY.1 hend;have e3:=c5 e1;simp only[bne_eq_false_iff_eq]at e2;have hlt:ofs+J r.bytes<64:=by
      rw[e3,au]at e2;have h0:=hpc.1;have h1:=hpc.2;omega
     have ea:(SR*64+ofs+J r.bytes)%4294967296=SR*64+(ofs+J r.bytes):=by omega
     have eb:(SR*64+(ofs+J r.bytes))/64=SR:=by omega
     have ec:((8:Int) - (J il:Int)).toNat=8 - J il:=by omega
     rw[ea,eb,ec];obtain⟨r1,r2,c,r3,r4,r5⟩:=ye (SR:=SR) (8 - J il) (SR*64+(ofs+J r.bytes)) hhg hE2;refine⟨r1,r2,J il+c,by omega,⟨λh1 h2 h3=>?_,r4.room.trans hu2.room⟩,?_⟩
     .obtain⟨a1,a2,a3,a4⟩:=hu2.S9 h1 h2 O;obtain⟨b1,b2,b3,b4⟩:=r4.S9 a1 a2 O;omega
     simp_all [nW]
structure oJ(E:Vk):Prop where
 ca:qI E.room E.X
 eg:gy E.eng
 rs:∀y,y∈E.RZ->lA y.1/\J y.2.r.bytes<=1000/\UO y.2.r.bytes
 last:lA E.last
variable{G:List (Bool×Ky×RS)}{j:Nat}{q:Ky}
theorem Hf(Y:bH)(D:Ky->Bool)(f:FuncId)(caps:List Value)(HF:∀args w,(callFunc f args).run prog w= .ok (.enter f args) w)(RZ:List (Ky×RS))(hn:(RZ.map (·.1)).Nodup)(hk:∀y,y∈RZ->lA y.1)(mr:Nat)
  (HC:∀(q:Ky) (x:RS) (w:World),lA q->Inv w (bK [Y]) [Y] w->Uz prog f ([]++[.agg (cy q).toArray,.agg x.cells.toArray]++caps) w [Y] (λv cs=>v= .bool (D q)/\cs=[Y]))
  :CI prog 175 [.map (some mr),.func (.func f) #[] caps.toArray] [VG mr (WE RZ),Y] (λ_ cs=>cs=[VG mr (WE (RZ.filter λx=> !D x.1)),Y]):=λw hi=>by
 refine UH func175 ntmps175 hi ?_;refine Us ?_;refine gJ (Ew I I Za) I ?_;rintro _ _ ⟨b7,rfl,rfl⟩;rw[show(WE RZ).map (λx=>(false,x))=Wb (RZ.map λx=>(false,x)) by unfold WE Wb;simp_all];refine Us ?_;refine UX (λG:List (Bool×Ky×RS)=>[(0,.map (some mr)),(1,.func (.func f) #[] caps.toArray),(7,.p b7)]) (λG=>[WG mr b7 (Wb G) none,Y]) (λG=>(G.map (·.2)).filter (λx=> !D x.1)=RZ.filter (λx=> !D x.1)/\(∀g,g∈G->g.1=true->D g.2.1=false)/\(G.map λg=>g.2.1).Nodup/\(∀g,g∈G->lA g.2.1)) (λG=>pS G) (RZ.map λx=>(false,x)) ⟨(by rw[List.map_map];show(RZ.map id).filter _=_;simp_all),(λg hg h=>by grind),Do,(λg hg=>by grind)⟩ ?_;rintro G ⟨hG,hT,hN,hK⟩;refine py ?_;refine gJ (Jr I Za) I ?_;rintro _ _ ⟨o8,ho8,rfl,rfl⟩;refine Zy (IS ne) ?_;refine Vs ?_ ?_<;>intro hc1
 .obtain⟨⟨j,q,v⟩,rfl⟩:=Option.isSome_iff_exists.1 hc1;have hj0:(Wb G)[j]? =some (false,q,v):=ho8;obtain⟨x,hx,rfl⟩:=gIL_at hj0;have hq:=hK _ (az hx);have hIT:(Wb G).set j (true,q,x.v)=Wb (G.set j (true,q,x)):=(by unfold Wb;simp_all);have hx2:(G.set j (true,q,x))[j]? =some (true,q,x):=List.getElem?_set_self (ap.1 hx).1;have hN2:((G.set j (true,q,x)).map λg=>g.2.1).Nodup:=(by rw[sf (y:=(true,q,x)) hx rfl];exact hN);have hdel:vU ((Wb G).set j (true,q,x.v)) q=Wb (G.eraseIdx j):=(by rw[hIT,gIL_del hN2 hx2,JF]);refine Uu ?_;refine dW (IW (Zv I)) (λw hi=>(show zo mr b7 (Df (Wb G) (some (j,q,x.v))) (some (q,x.v)) w from hi.get (Ur (WG mr b7 (Df (Wb G) (some (j,q,x.v))) (Kt (some (j,q,x.v))))))) I (py ?_);refine ZN λb4=>?_
  refine ZN λb5=>?_
  refine et (cH (vs:=cy q) ir I I (uM q) Za mJ) ?_;refine Uw ?_;refine et (cH (vs:=x.cells) ir I I (nl x) Za mJ) ?_;refine Uw ?_;refine Ux ?_;refine gJ (iK ([Y]) I I HF Zi (λw hi hin=>HC q x w hq hin)) I ?_;refine Vb ?_;refine py ?_;refine ZW ?_ ?_<;>intro hc3
  .refine Us ?_;refine et (Υ I I hq I Dt Za) ?_;refine Uw ?_;refine py ?_;refine ig (c:=WG mr b7 (vU ((Wb G).set j (true,q,x.v)) q) none) (c':=WG mr b7 (Wb (G.eraseIdx j)) none) Za I (λw h=>by grind) (UN ((G.eraseIdx j)) ⟨⟨(by rw[ChangeMaps.map_eraseIdx,so (x:=(q,x)) Do Do];exact hG),(λg hg h=>hT g ((List.eraseIdx_sublist _ _).subset hg) h),hN.sublist ((List.eraseIdx_sublist _ _).map _),λg hg=>hK g ((List.eraseIdx_sublist _ _).subset hg)⟩,rV hx⟩)
  refine py ?_;refine ig (c:=WG mr b7 ((Wb G).set j (true,q,x.v)) (some (q,x.v))) (c':=WG mr b7 (Wb (G.set j (true,q,x))) none) Za I (λw h=>by rw[<-hIT];exact it_cur h) (UN ((G.set j (true,q,x))) ⟨⟨(by rw[sf (y:=(true,q,x)) hx rfl];exact hG),(λg hg h=>(List.mem_or_eq_of_mem_set hg).elim (λhg=>hT g hg h) (λe=>by grind)),hN2,(λg hg=>(List.mem_or_eq_of_mem_set hg).elim (λhg=>hK g hg) (λe=>by grind))⟩,wq hx⟩)
 obtain rfl:o8=none:=kP;have ho0:∀x,x∈Wb G->x.1=true:=ho8;have hall:∀g,g∈G->D g.2.1=false:=(λg hg=>hT g hg (ho0 (g.1,g.2.1,g.2.2.v) (List.mem_map.2 ⟨g,hg,I⟩)));refine Ut ?_;refine AA (IL:=Wb G) (cur:=none) (b:=mr) (r:=b7) Zd ?_;rw[show(Wb G).map (·.2)=WE (RZ.filter λx=> !D x.1) by rw[<-hG,List.filter_eq_self.2 (λy hy=>by grind)];unfold Wb WE;simp_all];refine gK (cs':=[VG mr (WE (RZ.filter λx=> !D x.1)),Y]) (.inr I) Zu I ?_
 rfl
end
end Go.Ink
