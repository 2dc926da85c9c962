/- Lemmas. -/
import Derived.Test.YtbkgmdgackknfaaGreatDoorPau
set_option linter.unusedSimpArgs false
set_option linter.unusedVariables false
set_option maxRecDepth 100000
set_option maxHeartbeats 4000000
namespace Go.Ink
open Go.RowKit Go.Proofs.Tryz
set_option maxHeartbeats 1000000
def DA(op:Int):Int:=
 bif op==2 then 5 else bif(((op==1)||(decide (32<=op)&&decide (op<=38)))||(op==66))||(op==67)then 2 else
 bif(((((decide (0<=op)&&decide (op<=8))||(decide (16<=op)&&decide (op<=25)))||(op==39))||(op==40))||(decide (48<=op)&&decide (op<=53)))||(decide (64<=op)&&decide (op<=69))then 1 else 0
theorem N4:∀k:Fin 70,DA (k.val:Int)=cy (k.val:Int):=by decide+kernel
theorem OJ(op:Int):(∃k:Fin 70,op=(k.val:Int))\/(∀k:Int,0<=k->k<=69->(op==k)=false)/\(op<0\/69<op):=by
 by_cases h:0<=op/\op<=69
 .exact .inl ⟨⟨op.toNat,by omega⟩,by show op=((op.toNat:Nat):Int);omega⟩
 exact .inr ⟨λk h1 h2=>by simp only[beq_eq_false_iff_ne,ne_eq];omega,by omega⟩
theorem N3(op:Int):DA op=cy op:=by
 rcases OJ op with⟨k,rfl⟩|⟨e,h⟩
 .exact N4 k
 have r:∀a b:Int,0<=a->b<=69->(decide (a<=op)&&decide (op<=b))=false:=λa b ha hb=>by
  rw[Bool.and_eq_false_iff,ac,ac];omega
 unfold DA cy vn zG;rw[r 32 38 Wq7 Wq7,r 0 8 Wq7 Wq7,r 16 25 Wq7 Wq7,r 48 53 Wq7 Wq7,r 64 69 Wq7 Wq7];simp[e]
section
attribute [local irreducible] OpY bH
theorem Ha(op:Int)(w:World):Ctr prog 98 [.i op] w [] (λv cs=>v= .i (cy op)/\cs=[]):=by
 rw[<-N3];refine Zfs func98 ntmps98 ?_;refine AN ?_ ?_<;>intro hc1
 .refine gf ?_;refine⟨?_,rfl⟩;simp only[DA, *,ai,ah]
 refine kX ?_;refine Zw3 ?_ ?_<;>intro hc3
 .refine gf ?_;refine⟨?_,rfl⟩;simp only[DA, *,ai,ah]
 refine kX ?_;refine kX ?_;refine Zw3 ?_ ?_<;>intro hc5
 .refine gf ?_;refine⟨?_,rfl⟩;simp only[DA, *,ai,ah]
 refine ls ?_;refine⟨?_,rfl⟩;simp only[DA, *,ai,ah]
def Gd(nn:Int)(j:Nat):Int:=IntKind.u8.wrap (nn.fdiv (2^(min (Int.toNat ((8*j:Nat):Int)) IntKind.u32.bits)))
def tG(op nn:Int)(k:Nat):List Int:=IntKind.u8.wrap op::(List.range (k - 1)).map (Gd nn)
def iq(op nn:Int):List Int:=tG op nn (max 1 (cy op).toNat)
theorem Cy(op nn:Int){k:Nat}(h:1<=k):(tG op nn k).length=k:=by simp[tG];omega
theorem Ij(op nn:Int){k:Nat}(h:1<=k):tG op nn (k+1)=tG op nn k++[Gd nn (k - 1)]:=by
 obtain⟨j,rfl⟩:∃j,k=j+1:=⟨k - 1,by omega⟩;simp[tG,List.range_succ]
theorem uA(x:Int):0<=IntKind.u8.wrap x/\IntKind.u8.wrap x<=255:=by
 have e:IntKind.u8.wrap x=x%256:=by simp[IntKind.wrap,IntKind.bits,IntKind.signed]
 rw[e];omega
theorem PO(op nn:Int):u8s (iq op nn):=by
 intro x hx;unfold iq tG at hx;rcases aG.1 hx with rfl|hx
 .exact uA _
 obtain⟨j, -,rfl⟩:=bn.1 hx;exact uA _
theorem Cz(op nn:Int):1<=(iq op nn).length/\(iq op nn).length<=5:=by
 unfold iq;rw[Cy _ _ Wq1];have:cy op=0\/cy op=1\/cy op=2\/cy op=5:=jv op;omega
def dA(i:Int×Int):List Value:=[.i i.1,.w i.2]
theorem Ca(i:Int×Int):(dA i).length=2:=rfl
def gJ(l:List (Int×Int))(k:Nat):List Int:=(l.take k).flatMap λi=>iq i.1 i.2
def et(l:List (Int×Int)):List Int:=gJ l l.length
theorem gI{l:List (Int×Int)}{k:Nat}{i:Int×Int}(h:l[k]? =some i):gJ l (k+1)=gJ l k++iq i.1 i.2:=by
 unfold gJ;rw[List.take_add_one,h];simp
theorem lM(l:List (Int×Int)):∀k,(gJ l k).length<=5*k
 |0=>by simp[gJ]
 |k+1=>by
  cases h:l[k]? with
  |none=>
   unfold gJ;rw[List.take_add_one,h];have:=lM l k;unfold gJ at this;simp only[Option.toList_none,az];omega
  |some i=>
   rw[gI h,aq];have:=lM l k;have:=(Cz i.1 i.2).2;omega
theorem qZ(l:List (Int×Int))(k:Nat):u8s (gJ l k):=by
 intro x hx;unfold gJ at hx;obtain⟨i, -,h⟩:=List.mem_flatMap.1 hx;exact PO _ _ x h
theorem enc_ok(op nn:Int)(w:World):Ctr prog 75 [.agg #[.i op,.w nn]] w [] (λv cs=>∃A c,v= .slice A (iq op nn).length c/\cs=[sl .u8 5 A (iq op nn).length c (iq op nn)]):=by
 have hz5:cy op=0\/cy op=1\/cy op=2\/cy op=5:=jv op;have HS:=Ha op;obtain⟨z,hz⟩:∃z:Nat,cy op=z:=ap Wq1;have he:iq op nn=tG op nn (max 1 z):=by unfold iq;rw[hz];rfl
 rw[he,Cy _ _ Wq1];rw[hz]at hz5 HS;refine Zfs func75 ntmps75 ?_;refine Z_2 ?_;refine ZO λb1=>?_;refine Z_7 ?_;refine Zy (cQ rfl rfl (Zv rfl) (by first|exact IntWalk.u8_in _ ⟨by omega,by omega⟩|exact rfl)) ?_;refine kY ?_;rintro _ _ ⟨b8,rfl,rfl⟩;refine fB ?_;refine bN (λq:Nat×Option Addr×Nat=>[(1,.p b1),(3,.slice q.2.1 q.1 q.2.2),(4,.i (q.1:Int))]) (λq=>[row b1 [.i op,.w nn] 71,sl .u8 5 q.2.1 q.1 q.2.2 (tG op nn q.1)]) (λq=>1<=q.1/\q.1<=max 1 z) (λq=>10 - q.1) ((⟨1,some ⟨b8,0,none⟩,1⟩:Nat×Option Addr×Nat)) ?_ ?_ ?_ ?_
 .exact⟨aL _,by omega⟩
 .exact Zwk
 .exact Zu
 rintro⟨k,A,c⟩ ⟨hk1,hkz⟩;dsimp only at hk1 hkz|-;refine Z_6 ?_;refine ZSe (λw hi=>HS w) ?_;refine Zw3 ?_ ?_<;>intro hc3
 .simp only[ae]at hc3;refine Z_9 ?_;refine Zy (gr (Zv rfl) (Zv rfl) (show _=((k - 1:Nat):Int)from by rw[IntWalk.i64_in _ ⟨by omega,by omega⟩];omega)) ?_;refine Zy (cQ rfl rfl (Zv rfl) (u64_wrap_id _ Wq1 Wq1)) ?_;refine Zy (jR (Zv rfl) (Zv rfl) (show _=((8*(k - 1):Nat):Int)from by rw[u64_wrap_id _ Wq1 Wq1];omega)) ?_;refine Zy (lW (Zv rfl) (Zv rfl) Wq1 rfl) ?_;refine Zy (cQ rfl rfl (Zv rfl) (show _=Gd nn (k - 1)from rfl)) ?_;refine kY ?_;rintro _ _ ⟨b25,rfl,rfl⟩;refine fW (cj (e:=5) (sz:=1) (bytes:=1) rfl rfl Za rfl rfl (λw hi=>hi.rd (show Has _ (slv 5 1 (sA b25) 1 1 (ints .u8 [Gd nn (k - 1)]))from Zh)) di gq Wq1) rfl ?_;rintro _ _ ⟨A2,c2,rfl,rfl⟩;rw[bX,<-Ij op nn hk1];refine Z_6 ?_;refine Wq6 ?_;refine bJ ((⟨k+1,A2,c2⟩:Nat×Option Addr×Nat)) ?_ ?_ ?_
  .exact⟨⟨show 1<=k+1 by omega,show k+1<=max 1 z by omega⟩,show 10 - (k+1)<10 - k by omega⟩
  .exact Zwk
  exact Zj
 simp only[ac]at hc3;obtain rfl:k=max 1 z:=Wq1;refine fD ?_;refine Zrb ([slv _ _ _ _ _ _]) ?_;exact⟨A,c,rfl,rfl⟩
theorem MA(A:Option Addr)(c:Nat)(l:List (Int×Int))(hl:l.length<=1000)(w:World)(h:RdV w 2 A l.length c (l.flatMap dA)):Ctr prog 47 [.slice A l.length c] w [] (λv cs=>∃A' c',v= .slice A' (et l).length c'/\cs=[sl .u8 5 A' (et l).length c' (et l)]):=by
 refine Zfs func47 ntmps47 ?_;refine kM ?_;refine cT 5 1 (Z_4 ?_);refine bN (λq:Nat×Option Addr×Nat=>[(0,.slice A l.length c),(3,.slice q.2.1 (gJ l q.1).length q.2.2),(4,.i (q.1:Int))]) (λq=>[sl .u8 5 q.2.1 (gJ l q.1).length q.2.2 (gJ l q.1)]) (λq=>q.1<=l.length) (λq=>l.length - q.1) ((⟨0,none,0⟩:Nat×Option Addr×Nat)) ?_ ?_ ?_ ?_
 .exact au _
 .exact Zwk
 .exact Zu
 rintro⟨k,A1,c1⟩ hk;dsimp only at hk|-;have hcl:=lM l k;refine Zw9 ?_ ?_<;>intro hc3
 .simp only[ae]at hc3;have hkl:k<l.length:=Wq1;obtain⟨ad,rfl⟩:=h.some_ Wq1;have hla:l[k]? =some (l[k]'hkl):=aa hkl;obtain⟨⟨op,nn⟩,ha⟩:=Zgn (l[k]'hkl);rw[ha]at hla;have hel:=Cz op nn;refine Z_8 ?_;refine CS ?_;refine dK (bP (vs:=[.i op,.w nn]) Zrf Zrf Zv0) (dY h (λj v hj=>da Ca (i:=j) hla hj)) rfl (ZSn (λw hi=>enc_ok op nn w) ?_);rintro _ _ ⟨A2,c2,rfl,rfl⟩;refine fW (cj (e:=5) (sz:=1) (bytes:=1) rfl rfl Za rfl rfl (λw hi=>hi.rd (show Has _ (sl .u8 5 A2 (iq op nn).length c2 (iq op nn))from Zh)) di gq Wq1) rfl ?_;rintro _ _ ⟨A3,c3,rfl,rfl⟩;rw[bX,<-aq,<-gI hla];refine Z_6 ?_;refine Wq6 ?_;refine bJ ((⟨k+1,A3,c3⟩:Nat×Option Addr×Nat)) ?_ ?_ ?_
  .exact⟨show k+1<=l.length by omega,show l.length - (k+1)<l.length - k by omega⟩
  .exact Zwk
  exact Zj
 simp only[ac]at hc3;obtain rfl:k=l.length:=Wq1;refine fD ?_;exact Qp
abbrev IZ(i:Int×Int):List Value:=[.i i.1,.w i.2]
abbrev pgZ:List Value:=[.slice none 0 0,.i 0,.i 0,.i 0,.i 0,.slice none 0 0,.slice none 0 0,.i 0,.w 0,.i 0,.i 0,.w 0,.i 0,.i 0]
theorem Q8{L:Lw}{n:Nat}(h:L.sm n)(op i next:Int):(L.one op i next).sm (n+10):=by
 have h2:=sm_go h op i next
 exact⟨h2.code,h2.dl,h2.rl,h2.dn,h2.rn⟩
theorem JU:Lw.init.sm 0:=⟨aL _,aL _,aL _,⟨Int.le_refl _,Int.le_refl _⟩,⟨Int.le_refl _,Int.le_refl _⟩⟩
theorem Hz(pc:Int)(w:Lw)(i:Int×Int)(l:List (Int×Int)):nu pc w (i::l)=bif(!gV i.1 i.2|| !dr i.1)||(fx i.1&& !l.isEmpty)then none else nu (IntKind.u32.wrap (pc+IntKind.u32.wrap (cy i.1))) (w.one i.1 i.2 (IntKind.u32.wrap (pc+IntKind.u32.wrap (cy i.1)))) l:=rfl
theorem CA{α:Type}(l:List α)(k:Nat)(hk:k<l.length):(!(l.drop (k+1)).isEmpty)=decide ((k:Int)<(l.length:Int) - 1):=by
 grind [decide_eq_true,List.drop_eq_nil_iff,decide_eq_false,List.drop_of_length_le]
theorem Pd{l:List (Int×Int)}{y:Int×Int}(h:l[l.length - 1]? =some y):l.getLastD (0,0)=y:=by
 grind
def LowK(o:Option Pg)(v:Value)(cs:List bC):Prop:=match o with
 |some p=>∃Q':PAd,v= .tuple #[pgv p Q',.i 0]/\cs=[slv 305 5 Q'.Ac p.code.length Q'.cc (p.code.flatMap II.cells),sl .i64 3 Q'.Ad p.RV.length Q'.cd p.RV,sl .i64 3 Q'.Ar p.RX.length Q'.cr p.RX]
 |none=>v= .tuple #[.agg pgZ.toArray,.i 12]/\cs=[]
theorem Lt(pc:Int)(A:Option Addr)(c:Nat)(l:List (Int×Int))(hu:∀i,i∈l->u32 i.2)(w:World)(h:RdV w 2 A l.length c (l.flatMap IZ)):
  Ctr prog 156 [.w pc,.slice A l.length c] w [] (λv cs=>LowK (fg pc l) v cs):=by
 have hlm:l.length<=maxLen:=aN h.cap h.max;simp only[maxLen]at hlm;obtain⟨R,hR⟩:=Zgn (nu pc Lw.init l);have hbad:(decide ((l.length:Int)<1)||decide (8<(l.length:Int)))=true->fg pc l=none:=λe=>by unfold fg;grind
 have hno:R=none->(decide ((l.length:Int)<1)||decide (8<(l.length:Int)))=false->fg pc l=none:=λe e2=>by unfold fg;grind
 have hyes:∀nx L,R=some (nx,L)->(decide ((l.length:Int)<1)||decide (8<(l.length:Int)))=false->fg pc l=some (cA (zw nx L (l.getLastD (0,0)) l.length)):=λnx L e e2=>by unfold fg;grind
 have hraw:∀nx L y,R=some (nx,L)->Raw (zw nx L y l.length):=λnx L y e=>by
  rw[e]at hR;obtain⟨lk, -, -⟩:=uj l pc Lw.init _ hu hR vC;exact⟨lk.wf,lk.ops,lk.d,lk.r,lk.flags,lk.target⟩
 obtain⟨LT,hLT⟩:=Zgn (fg pc l);rw[hLT]at hbad hno hyes|-;refine Zfs func156 ntmps156 ?_;refine Z_2 ?_;refine ZN λb4=>?_;refine sw ?_;refine ZW ?_ ?_<;>intro hc1
 .rw[hbad hc1];refine Z_2 ?_;refine Zy (iF (vs:=pgZ) Zk (.inl ⟨_,rfl,rfl⟩)) ?_;refine mC ?_;refine CW ?_;exact fy
 have hc1':=hc1;simp only[Bool.or_eq_false_iff,ac]at hc1';refine fB ?_;refine ZO λb26=>?_
 refine Z_6 ?_;refine cT 305 5 (cT 3 1 (cT 3 1 (Z_6 ?_)));refine bN (λq:(Nat×Int)×Lw×LAd=>[(0,.w q.1.2),(1,.slice A l.length c),(4,.p b4),(6,.p b26),(27,.slice A l.length c),(28,.i (l.length:Int)),(29,.i (q.1.1:Int))]) (λq=>[pg0 b4]++lwF b26 (l.length:Int) q.2.1 q.2.2) (λq=>q.1.1<=l.length/\nu q.1.2 q.2.1 (l.drop q.1.1)=R/\q.2.1.sm (10*q.1.1)) (λq=>l.length - q.1.1) (⟨(0,pc),Lw.init,⟨none,0,none,0,none,0⟩⟩) ?_ ?_ ?_ ?_
 .exact⟨au _,hR,JU⟩
 .exact Zwk
 .exact Zu
 rintro⟨⟨k,pc2⟩,L,X⟩ ⟨hk,hG,hsm⟩;dsimp only at hk hG hsm|-;refine Zw6 ?_ ?_<;>intro hc5
 .simp only[ae]at hc5;have hkl:k<l.length:=Wq1;obtain⟨ad,had⟩:=h.some_ Wq1;have h2:=h;rw[had]at h2;obtain⟨x,hx⟩:∃x,l[k]? =some x:=⟨_,aa hkl⟩;rw[jz hx,Hz,CA l k hkl]at hG;obtain⟨op,nn⟩:=x;dsimp only at hG;refine Z_7 ?_;refine Zy (fI (j:=k) had rfl Zrf Zv0 Zv0 Zrf (λ_=>hkl)) ?_;refine dK (bP (vs:=[.i op,.w nn]) Zrf Zrf Zv0) (dY h2 (λi v hi=>da (f:=IZ) Zrf (i:=i) hx hi)) rfl ?_;refine ZN λb8=>?_
  refine ZA ?_;refine jh ?_;refine ZSe (λw hi=>Cj op nn w) ?_;refine Z_4 ?_;refine dU (bE rfl rfl) (.cons (bU rfl) .nil) (λ_ _=>rfl) (λhg w hi=>Ck op w) rfl (Z_5 ?_);refine dU (bE rfl rfl) (.cons (bU rfl) .nil) (λ_ _=>rfl) (λhg w hi=>z9 op w) rfl (Z_4 ?_);refine fN (cu rfl rfl) (gr (bU rfl) Zv0 Zl) (λ_ _=>trivial) rfl (Zw5 ?_ ?_)<;>intro hc7
  .rw[hc7,ai]at hG;rw[hno hG.symm hc1];refine Z_2 ?_;refine Zy (iF (vs:=pgZ) Zk (.inl ⟨_,rfl,rfl⟩)) ?_;refine ZM ?_;refine fB ?_;refine CW ?_;exact fy
  rw[hc7,ah]at hG;refine Z_7 ?_;refine ZSe (λw hi=>zd op w) ?_;refine nP ?_;refine pP ?_;refine Z_7 ?_;refine dz (lwF b26 (l.length:Int) L X) (λw hi hin=>lone_ok b26 (l.length:Int) L X (hsm.mono Wq1) op nn _ w hin) ?_;rintro _ _ ⟨L2,X2,hL2,rfl⟩;refine gh ?_;refine bJ ((⟨(k+1,IntKind.u32.wrap (pc2+IntKind.u32.wrap (cy op))),L2,X2⟩:(Nat×Int)×Lw×LAd)) ?_ ?_ ?_
  .exact⟨⟨by grind,by grind,by dsimp only;rw[hL2];exact(Q8 hsm _ _ _).mono Wq1⟩,by grind⟩
  .exact Zwk
  exact Zj
 simp only[ac]at hc5;obtain rfl:k=l.length:=Wq1;rw[List.drop_length]at hG;have hG:R=some (pc2,L):=hG.symm;have hraw2:=hraw pc2 L (l.getLastD (0,0)) hG;rw[hyes pc2 L hG hc1];refine fB ?_;refine dK (bP (vs:=[.slice X.Ac L.code.length X.cc,.i 0,.i 0,.i 0,.i 0,.slice none 0 0,.slice none 0 0,.i L.flags,.w 0,.i L.target,.i L.branch,.w 0,.i (l.length:Int),.i 0]) Zrf Zrf Zv0) (cO Zh rfl) rfl ?_;refine ZN λb9=>?_
 refine jh ?_;refine ZL ?_;refine Z_2 ?_;refine cD (λq:Int×Int=>[(1,.slice A l.length c),(4,.p b4),(6,.p b26),(9,.p b9)]) (λq=>[pg0 b4]++lwF b26 (l.length:Int) L X++[row b9 [.slice X.Ac L.code.length X.cc,.i 0,.i 0,.i 0,.i 0,.slice none 0 0,.slice none 0 0,.i L.flags,.w q.1,.i L.target,.i L.branch,.w q.2,.i (l.length:Int),.i 0] 258]) (λq=>zw pc2 L (l.getLastD (0,0)) l.length=⟨L.code,L.d.RL,L.r.RL,L.d.high,L.r.high,L.d.l,L.r.l,L.flags,q.1,L.target,L.branch,q.2,l.length,L.code.length⟩) ?_ ?_
 .refine Z_5 ?_;refine oN ?_;obtain⟨ad,had⟩:=h.some_ (show 0<l.length by omega);have h2:=h;rw[had]at h2;obtain⟨x,hx⟩:∃x,l[l.length - 1]? =some x:=⟨_,aa Wq1⟩;have hlast:=Pd hx;rw[hlast];obtain⟨op,nn⟩:=x;refine Zy (fI (j:=l.length - 1) had rfl Zrf (Zv rfl) (Zv rfl) Wq2 Wq2) ?_;refine dK (bP (vs:=[.i op,.w nn]) Zrf Zrf Zv0) (dY h2 (λi v hi=>da (f:=IZ) Zrf (i:=i) hx hi)) rfl ?_;refine ZN λb10=>?_
  refine ZM ?_;refine sw ?_;refine ZW ?_ ?_<;>intro hc15
  .refine Z_4 ?_;refine ZSe (λw hi=>DB nn w) ?_;refine pP ?_;refine gP ?_;refine Z_2 ?_;refine bJ ((⟨IntKind.u32.wrap (pc2+lP nn),0⟩:Int×Int)) ?_ ?_ ?_
   .exact(by unfold zw;grind)
   .exact Zwk
   exact Zj
  refine Zw8 ?_ ?_<;>intro hc17
  .refine Z_4 ?_;refine ZSe (λw hi=>DB nn w) ?_;refine pP ?_;refine gP ?_;refine Z_2 ?_;refine bJ ((⟨pc2,IntKind.u32.wrap (pc2+lP nn)⟩:Int×Int)) ?_ ?_ ?_
   .exact(by unfold zw;grind)
   .exact Zwk
   exact Zj
  refine Z_2 ?_;refine bJ ((⟨pc2,0⟩:Int×Int)) ?_ ?_ ?_
  .exact(by unfold zw;grind)
  .exact Zwk
  exact Zj
 rintro⟨nx,tk⟩ hq;dsimp only at hq|-;rw[hq]at hraw2|-;have hl500:=hsm;refine Zs (bL ⟨λj=>List.elem j [21,23,25,27],tx b26 (D5 (l.length:Int) L X)⟩ Zk ?_);refine lU ?_;refine ZFe 2 14 ?_;refine ZFe 3 1 ?_;refine iW 4 rfl Zk Zk Zk (bF Zrf (Zv rfl)) Wq3 (bK (t:=290) Zh) rfl (mE ?_);refine ZFe 7 18 ?_;refine ZFe 8 1 ?_;refine iW 9 rfl Zk Zk Zk (bF Zrf (Zv rfl)) Wq3 (bK (t:=290) Zh) rfl (ZE 10 ?_);refine ZE 11 ?_;refine ZFe 12 14 ?_;refine ZFe 13 2 ?_;refine iW 14 rfl Zk Zk Zk (bF Zrf (Zv rfl)) Wq3 (bK (t:=290) Zh) rfl (ZE 15 ?_);refine ZE 16 ?_;refine ZFe 17 18 ?_;refine ZFe 18 2 ?_;refine iW 19 rfl Zk Zk Zk (bF Zrf (Zv rfl)) Wq3 (bK (t:=290) Zh) rfl (ZFe 20 1 ?_);refine cn 21 Zk (Wq87 ?_);rintro _ _ ⟨rfl,rfl⟩;refine ZFe 22 2 ?_;refine cn 23 Zk (Wq87 ?_);rintro _ _ ⟨rfl,rfl⟩;refine ZFe 24 3 ?_;refine cn 25 Zk (Wq87 ?_);rintro _ _ ⟨rfl,rfl⟩;refine ZFe 26 4 ?_;refine cn 27 Zk (Wq87 ?_);rintro _ _ ⟨rfl,rfl⟩;refine lv ?_;refine bL ⟨λj=>List.elem j [11,13],tx b26 (D5 (l.length:Int) L X)⟩ Zk (lU ?_);refine ZFe 2 14 ?_;refine ZFe 3 0 ?_;refine iW 4 rfl Zk Zk Zk (bF Zrf (Zv rfl)) Wq3 (bK (t:=290) Zh) rfl (mE ?_);refine ZFe 7 18 ?_;refine ZFe 8 0 ?_;refine iW 9 rfl Zk Zk Zk (bF Zrf (Zv rfl)) Wq3 (bK (t:=290) Zh) rfl (ZFe 10 5 ?_);refine cn 11 Zk (Wq87 ?_);rintro _ _ ⟨rfl,rfl⟩;refine ZFe 12 6 ?_;refine cn 13 Zk (Wq87 ?_);rintro _ _ ⟨rfl,rfl⟩;refine eQ ?_;refine Z_7 ?_;refine ZL ?_;refine Z_5 ?_;refine ZSn (λw hi=>NV ⟨L.code,L.d.RL,L.r.RL,L.d.high,L.r.high,L.d.l,L.r.l,L.flags,nx,L.target,L.branch,tk,l.length,L.code.length⟩ ⟨X.Ac,X.cc,X.Ad,X.cd,X.Ar,X.cr⟩ hraw2 rfl (aN hsm.code Wq1) (aN hsm.dl Wq1) (aN hsm.rl Wq1) w ⟨hi.rd Zh,hi.rd Zh,hi.rd Zh⟩) ?_;rintro _ _ ⟨Q9,rfl,rfl⟩;refine iD ?_;obtain⟨p9,hp9⟩:=Zgn (cA ⟨L.code,L.d.RL,L.r.RL,L.d.high,L.r.high,L.d.l,L.r.l,L.flags,nx,L.target,L.branch,tk,l.length,L.code.length⟩);rw[hp9];exact bG [row b4 _ _,slv 305 5 Q9.Ac p9.code.length Q9.cc (p9.code.flatMap II.cells),sl .i64 3 Q9.Ad p9.RV.length Q9.cd p9.RV,sl .i64 3 Q9.Ar p9.RX.length Q9.cr p9.RX] Zj (ph (cs':=[slv _ _ _ _ _ _,slv _ _ _ _ _ _,slv _ _ _ _ _ _]) (.inl rfl) Zu rfl rfl rfl Zh Zrf Zrf ⟨Q9,rfl,rfl⟩)
theorem FI:∀(l:List (Int×Int)) (pc:Int) (L:Lw) (q:Int×Lw) (n:Nat),nu pc L l=some q->L.sm n->q.2.sm (n+10*l.length)
 |[],pc,L,q,n,h,hs=>by obtain rfl:(pc,L)=q:=ax h;exact hs.mono cH
 |i::l,pc,L,q,n,h,hs=>by
  obtain⟨-, -, -,h4⟩:=lH h;exact(FI l _ _ q (n+10) h4 (Q8 hs _ _ _)).mono (by simp only[aQ];omega)
theorem B2{pc:Int}{l:List (Int×Int)}(hu:∀i,i∈l->u32 i.2){p:Pg}(hlow:fg pc l=some p):tM p/\p.count=l.length/\1<=l.length/\l.length<=8/\(p.R7=true->gb (gt p (dP p))/\(gt p (dP p)).length<=100000):=by
 unfold fg at hlow;cases hlen:decide ((l.length:Int)<1)||decide (8<(l.length:Int))with
 |true=>rw[hlen]at hlow;cases hlow
 |false=>
 rw[hlen,ah]at hlow;simp only[Bool.or_eq_false_iff,ac]at hlen;have hl0:l≠[]:=λe=>by rw[e]at hlen;simp at hlen
 cases hgo:nu pc Lw.init l with
 |none=>rw[hgo]at hlow;cases hlow
 |some q=>
 rw[hgo]at hlow;obtain⟨nx,w⟩:=q;obtain rfl:=ax hlow;obtain⟨lk, -,hnx⟩:=uj l pc Lw.init _ hu hgo vC;have hnx:=hnx hl0;have hsm:=FI l pc Lw.init _ 0 hgo JU;dsimp only at lk hnx hsm;obtain⟨i,hi⟩:=Zgn (l.getLastD (0,0));rw[hi];obtain⟨p0,hp0⟩:=Zgn (zw nx w i l.length);rw[hp0];have f1:p0.code=w.code:=by rw[<-hp0];rfl
 have f2:p0.RV=w.d.l:=by rw[<-hp0];rfl
 have f3:p0.RX=w.r.l:=by rw[<-hp0];rfl
 have g5:(cA p0).next=bif i.1==32||i.1==38 then IntKind.u32.wrap (nx+lP i.2)else nx:=by rw[<-hp0];rfl
 have g6:(cA p0).taken=bif i.1==32||i.1==38 then 0 else bif w.branch !=0 then IntKind.u32.wrap (nx+lP i.2)else 0:=by rw[<-hp0];rfl
 have g8:(cA p0).count=l.length:=by rw[<-hp0];rfl
 have hlen4:=vD l pc Lw.init _ hgo;have hlen5:w.code.length<=32:=by have:Lw.init.code.length=0:=rfl;dsimp only at hlen4;omega
 have hlen6:(cA p0).code.length<=64:=by
  exact Wq277
 have himc:ImC (cA p0).code:=Cq (gy p0) p0.code 0 _ [] (λ_ h=>by cases h) (by rw[f1];exact lk.imm);have hn32:u32 (cA p0).next:=by rw[g5];cases i.1==32||i.1==38 with|true=>exact xu _|false=>exact hnx
 have ht32:u32 (cA p0).taken:=by
  have z:u32 0:=⟨by decide,by decide⟩;rw[g6];cases i.1==32||i.1==38 with
  |true=>exact z
  |false=>cases w.branch !=0 with
   |true=>exact xu _
   |false=>exact z
 have hd:=hsm.dl;have hr:=hsm.rl;have fit:tM (cA p0):=⟨rfl,hlen6,by show(dR _ p0.RV).length<=100;unfold dR;rw[aV,f2];omega,by show(dR _ p0.RX).length<=100;unfold dR;rw[aV,f3];omega,himc⟩;refine⟨fit,g8,by omega,by omega,λhright=>?_⟩;obtain⟨pok, -, -, -⟩:=vd hright himc hlen6 hn32 ht32;have hplan:Nc (dP (cA p0)) (gl (cA p0)) (cA p0).code.length:=Kq (λi hi=>K9 (cA p0) hi) hlen6;refine⟨Ic pok rfl hplan.has,?_⟩;have:=AD (cA p0) (dP (cA p0)) (IntKind.u32.wrap ((fm (cA p0) (dP (cA p0)) 0).length:Nat)) hlen6 fit.RV fit.RX;unfold gt;rw[aq,aQ,List.length_nil];omega
theorem MQ(p:Pg)(Q:PAd)(hf:tM p)(hr:p.R7=false)(w:World)(h:Gt p Q w):
  Ctr prog 183 [pgv p Q,.i 7] w [] (λr cs=>r= .tuple #[.agg #[.slice none 0 0,.slice none 0 0,.i 0],.i 1]/\cs=[]):=by
 have hR:=vO p Q hf;rw[hr]at hR;refine Zfs func183 ntmps183 ?_;refine Z_2 ?_;refine ZO λb2=>?_;refine ZN λb4=>?_
 refine Z_7 ?_;refine ZSe (λw hi=>hR w (h.RU hi)) ?_;refine Z_2 ?_;refine Wq89 ?_;refine fa (bE rfl rfl) rfl rfl (Zy (QU (q:=false) (Zv rfl) ⟨_,rfl,λ_ e=>by simp at e⟩) ?_);refine Z_2 ?_;refine oU ?_;refine Z_2 ?_;refine Zy (iF (vs:=[Value.slice none 0 0,.slice none 0 0,.i 0]) Zk (.inl ⟨_,rfl,rfl⟩)) ?_;refine mC ?_;refine CW ?_;exact fy
theorem Mm(p:Pg)(Q:PAd)(hf:tM p)(hr:p.R7=false)(w:World)(h:Gt p Q w):
  Ctr prog 157 [pgv p Q] w [] (λr cs=>r= .tuple #[.slice none 0 0,.i 12]/\cs=[]):=by
 refine Zfs func157 ntmps157 ?_;refine Z_2 ?_;refine ZO λb1=>?_;refine Z_7 ?_;refine ZSe (λw hi=>MQ p Q hf hr w (h.RU hi)) ?_;refine Z_3 ?_;refine ZN λb4=>?_
 refine ZM ?_;refine fB ?_;refine oU ?_;refine Z_8 ?_;exact lQ
theorem lw.shift{B:List Int}{o:Nat}:∀{l:List (Int×Int)} {j e:Nat},lw (B.drop o) j l e->lw B (o+j) l (o+e)
 |[],j,e,h=>by cases h;exact .nil _
 |i::l,j,e,h=>by
  cases h with
  | @cons _ z _ _ _ h t=>
   rw[List.drop_drop]at h;exact .cons h (by have:=lw.shift t;grind)
theorem Fj{C:List HI}{s:St}(h:((io C s).2==1)=true):∃M,jP C 4096 ⟨List.replicate 16 0,Sz s,0⟩=((1,1),M)/\(io C s).1=oM M.words s:=by
 grind [io,Fm,jP,Sz,mY]
theorem vl{n:Nat}{M:Mem}(h:M.ok n)(p:Nat):u8s (iA M p):=λx hx=>h.db x (List.mem_of_mem_drop (bh (List.mem_of_mem_drop hx)))
theorem Ru{n:Nat}{s:St}{U:Mmu}{d:Dev}{E:Eng}(hn:n<=1000000)(h:GOk n s U d)(hE:gL E):(doE n s U d E).1=dw n s U d/\gL (doE n s U d E).2/\
  ∃c:Nat,c<=8/\Gs E (doE n s U d E).2 c/\(dw n s U d).1.count=IntKind.u64.wrap (s.count+(c:Int)):=by
 have hb:=oF h;have hbp:=wC h;unfold doE dw;obtain⟨b,hbe⟩:=Zgn (dy n s U d);rw[hbe]at hb hbp|-;dsimp only;have hsc:=h.wf.count;cases hr:b.runs with
 |false=>
  refine iw ?_;refine⟨trivial,hE.same rfl rfl rfl,?_⟩;cases hh:s.halted with
  |true=>
   have e:=hb.held hh;have es:b.s=s:=by rw[e]
   refine⟨0,by omega,⟨λh1 h2 h3=>?_,rfl⟩,?_⟩
   .grind [IntKind.wrap_i64,IntKind.wrap_u64]
   grind [IntKind.wrap_u64]
  |false=>
   obtain⟨c1,c2⟩:=hb.stays hr hh;refine⟨1,by omega,⟨λh1 h2 h3=>?_,rfl⟩,c1⟩
   grind [IntKind.wrap_i64,IntKind.wrap_u64]
 |true=>
  simp only[ai];obtain⟨c1,c2,c3⟩:=hb.runs hr;obtain⟨q1,q2⟩:=hbp hr;have hg:=hb.g;have hp0:=hb.place;have hpc:=hg.wf.pc;have qN:((b.place.toNat:Nat):Int)=b.place:=Int.toNat_of_nonneg hp0.1;have hbb:=vl hg.u.m b.place.toNat;obtain⟨f1,f2,f3,f4,f5⟩:=qV hE (k:=(b.s.pc,b.place)) hbb;unfold jo;obtain⟨⟨o,E1⟩,hf⟩:=Zgn (lp E (b.s.pc,b.place) (iA b.u.m b.place.toNat));rw[hf]at f1 f2 f3 f4 f5|-;dsimp only at f1 f2 f3 f4 f5;have slowly:(jp n (b.place.toNat/64) 8 b.s b.place.toNat b.u b.d E1).1=dX n (b.place.toNat/64) 8 b.s b.place.toNat b.u b.d/\gL (jp n (b.place.toNat/64) 8 b.s b.place.toNat b.u b.d E1).2/\
    ∃c:Nat,c<=8/\Gs E (jp n (b.place.toNat/64) 8 b.s b.place.toNat b.u b.d E1).2 c/\(dX n (b.place.toNat/64) 8 b.s b.place.toNat b.u b.d).1.count=IntKind.u64.wrap (s.count+(c:Int)):=by
   obtain⟨r1,r2,c,r3,r4,r5⟩:=zt (RY:=b.place.toNat/64) 8 b.place.toNat hg f1;refine⟨r1,r2,c,r3,⟨λh1 h2 h3=>?_,r4.room.trans f2⟩,by rw[r5,c1]⟩;obtain⟨a1,a2,a3,a4⟩:=r4.Sl Wq1 Wq1 Wq1;exact⟨a1,a2,by omega,by omega⟩
  cases o with
  |none=>exact slowly
  |some tr=>
   obtain⟨t,r⟩:=tr;dsimp only;cases hdone:(io t.code b.s).2==1 with
   |false=>exact slowly
   |true=>
    simp only[ai];obtain⟨p,il,g1,g2,g3,g4,g5,g6,g7⟩:=f5 t r rfl;obtain⟨M,hM,hout⟩:=Fj hdone;rw[g3]at hM;obtain⟨k1,k2,k3,k4,k5,k6, -, -, -⟩:=EY hg.u hg.dv hg.wf hg.right g6 g1 g2 hM;rw[hout];obtain⟨s2,hs2⟩:=Zgn (oM M.words b.s);rw[hs2]at k1 k2 k3 k4|-;obtain⟨RY,hpage⟩:=Zgn (b.place.toNat/64);obtain⟨ofs,hofs⟩:=Zgn (b.place.toNat%64);have hpo:b.place.toNat=RY*64+ofs:=by omega
    have hst:lw ((b.u.m.data.drop (RY*64)).take 64) ofs il (ofs+r.bytes.length):=by
     have:=g5;unfold iA at this;rw[hpage,hofs]at this;simpa using this.shift
    have hil:il≠[]:=λe=>by grind
    have hse:=(hst.ends hil).1;rw[aI]at hse;obtain⟨c4,c5,c6⟩:=xJ hn (RY:=RY) Wq1 il ofs 8 (e:=ofs+r.bytes.length) (U:=b.u) b.d hil k1 k6 hst hpc.1 (by have:=hpc.2;omega) Wq1 (c2.trans c3);rw[hpage,hpo,c6,g7,g4];have hc0:decide ((0:Int)<(il.length:Int))=true:=ay Wq1
    rw[hc0,Bool.and_true];have hE2:gL {E1 with last:=(b.s.pc,b.place),begun:=true,Sl:=IntKind.i64.wrap (E1.Sl+(il.length:Int))}:=f1.same rfl rfl rfl;obtain⟨E2,he2⟩:=Zgn (({E1 with last:=(b.s.pc,b.place),begun:=true,Sl:=IntKind.i64.wrap (E1.Sl+(il.length:Int))}:Eng));have hu2:Gs E E2 il.length:=⟨λh1 h2 h3=>by
     grind [IntKind.wrap_i64],by grind⟩
    have hcnt:s2.count=IntKind.u64.wrap (s.count+(il.length:Int)):=by
     have:=congrArg St.count k4;dsimp only at this;rw[this,c1]
    rw[he2]at hE2|-;have hhg:GOk n s2 ⟨b.u.m.calm,b.u.t⟩ b.d:=⟨k2,k3,⟨hg.u.m.calm,hg.u.t⟩,hg.dv,hg.lines⟩;cases hend:fx (il.getLastD (0,0)).1||s2.pc/64 !=b.s.pc/64 with
    |true=>
     grind
    |false=>
     simp only[ah];obtain⟨e1,e2⟩:=Bool.or_eq_false_iff.1 hend;have e3:=c5 e1;simp only[bne_eq_false_iff_eq]at e2;have hlt:ofs+r.bytes.length<64:=by
      rw[e3,aC]at e2;have h0:=hpc.1;have h1:=hpc.2;omega
     have ea:(RY*64+ofs+r.bytes.length)%4294967296=RY*64+(ofs+r.bytes.length):=by omega
     have eb:(RY*64+(ofs+r.bytes.length))/64=RY:=by omega
     have ec:((8:Int) - (il.length:Int)).toNat=8 - il.length:=by omega
     rw[ea,eb,ec];obtain⟨r1,r2,c,r3,r4,r5⟩:=zt (RY:=RY) (8 - il.length) (RY*64+(ofs+r.bytes.length)) hhg hE2;refine⟨r1,r2,il.length+c,by omega,⟨λh1 h2 h3=>?_,r4.room.trans hu2.room⟩,?_⟩
     .obtain⟨a1,a2,a3,a4⟩:=hu2.Sl h1 h2 Wq1;obtain⟨b1,b2,b3,b4⟩:=r4.Sl a1 a2 Wq1;omega
     simp_all [nT]
structure RS where
 r:Rn
 A:Option Addr
 c:Nat
def RS.cells(x:RS):List Value:=[.slice x.A x.r.bytes.length x.c,.bool x.r.ends]
def RS.v(x:RS):Value:= .agg x.cells.toArray
def RS.zero:RS:=⟨Rn.zero,none,0⟩
def rnV(RZ:List (Ky×RS)):List (Ky×Value):=RZ.map λx=>(x.1,x.2.v)
def rnM(RZ:List (Ky×RS)):List (Ky×Rn):=RZ.map λx=>(x.1,x.2.r)
theorem oQ(x:RS):∀u∈x.cells,u.oneCell'=true:=λu h=>by
 simp only[RS.cells,aG,aS,or_false]at h;rcases h with rfl|rfl<;>rfl
theorem it_cur{b r:Nat}{L:List (Bool×Ky×Value)}{cur:Option (Ky×Value)}{w:World}(h:AU b r L cur w):AU b r L none w:=by
 obtain⟨es,clock,since,seen,c0,hb,hs,hr,hold,hsc,hsk,hL,hok,hne,hcur⟩:=h;exact⟨es,clock,since,seen,c0,hb,hs,hr,hold,hsc,hsk,hL,hok,hne,λ_ _ e=>by cases e⟩
structure EnX where
 bc:Nat
 mr:Nat
 room:Int
 X:CaX
 RZ:List (Ky×RS)
 last:Ky
 Sl:Int
 Sh:Int
 begun:Bool
def EnX.eng(E:EnX):Eng:=⟨E.room,E.X.Z.map BA.b,rnM E.RZ,E.last,E.Sl,E.Sh,E.begun⟩
structure oG(E:EnX):Prop where
 ca:ro E.room E.X
 eg:gL E.eng
 rs:∀y,y∈E.RZ->lj y.1/\y.2.r.bytes.length<=1000/\u8s y.2.r.bytes
 last:lj E.last
def gIL(G:List (Bool×Ky×RS)):List (Bool×Ky×Value):=G.map λg=>(g.1,g.2.1,g.2.2.v)
theorem gIL_at{G:List (Bool×Ky×RS)}{j:Nat}{q:Ky}{v:Value}(h:(gIL G)[j]? =some (false,q,v)):∃x,G[j]? =some (false,q,x)/\v=x.v:=by
 grind [gIL]
theorem gIL_del{G:List (Bool×Ky×RS)}{j:Nat}{f:Bool}{q:Ky}{x:RS}(hn:(G.map λg=>g.2.1).Nodup)(h:G[j]? =some (f,q,x)):wZ (gIL G) q=gIL (G.eraseIdx j):=by
 have hp:cL (λz:Bool×Ky×Value=>z.2.1) q (gIL G)=some j:=by
  have e:cL (λz:Bool×Ky×Value=>z.2.1) q (gIL G)=cL (λg:Bool×Ky×RS=>g.2.1) q G:=j7 (key:=λg:Bool×Ky×RS=>g.2.1) (key':=λz:Bool×Ky×Value=>z.2.1) (λg:Bool×Ky×RS=>(g.1,g.2.1,g.2.2.v)) Zrf q G;rw[e];cases hp:cL (λg:Bool×Ky×RS=>g.2.1) q G with
  |none=>exact absurd rfl (ip hp _ (ak h))
  |some i=>
   obtain⟨hi,hk⟩:=ff hp;obtain⟨hj,hje⟩:=aj.1 h;have:i=j:=(List.getElem_inj (xs:=G.map λg=>g.2.1) (h₀:=by grind) (h₁:=by grind) hn).1 bR;rw[this]
 grind [wZ,gIL,ChangeMaps.map_eraseIdx]
theorem JW{α:Type}:∀(l:List α) (j:Nat) (x:α),(l.set j x).eraseIdx j=l.eraseIdx j
 :=by grind
theorem sW{α:Type}{f:α->Bool}:∀{l:List α} {j:Nat} {x:α},l[j]? =some x->f x=false->(l.eraseIdx j).filter f=l.filter f
 |[],j,x,h,_=>by simp at h
 |a::l,0,x,h,hf=>by
  grind
 |a::l,j+1,x,h,hf=>by
  show(a::l.eraseIdx j).filter f=_;rw[List.filter_cons,List.filter_cons,sW (l:=l) bR hf]
theorem sR{α β:Type}{g:α->β}{l:List α}{j:Nat}{x y:α}(h:l[j]? =some x)(hg:g y=g x):(l.set j y).map g=l.map g:=by
 rw[List.map_set,hg];apply List.ext_getElem?
 grind
def qd(G:List (Bool×Ky×RS)):Nat:=(G.filter λg=> !g.1).length
theorem xt:∀{G:List (Bool×Ky×RS)} {j:Nat} {x:Ky×RS},G[j]? =some (false,x)->qd (G.set j (true,x))<qd G
 |[],j,x,h=>by simp at h
 |g::G,0,x,h=>by
  grind [qd]
 |g::G,j+1,x,h=>by
  have:=xt (G:=G) (j:=j) (x:=x) bR
  grind [qd]
theorem sJ:∀{G:List (Bool×Ky×RS)} {j:Nat} {x:Ky×RS},G[j]? =some (false,x)->qd (G.eraseIdx j)<qd G
 |[],j,x,h=>by simp at h
 |g::G,0,x,h=>by
  grind [qd]
 |g::G,j+1,x,h=>by
  have:=sJ (G:=G) (j:=j) (x:=x) bR
  grind [qd]
theorem B6(Z:List BA)(RZ:List (Ky×RS)):wY (Z.map BA.b) (rnM RZ)=rnM (RZ.filter λx=>Z.any λt=>t.key==x.1):=by
 grind [wY,rnM,List.filter_congr,List.any_map]
theorem Qk(Z:List BA)(k:Ky):(Z.any λt=>t.key==k)=(Z.find? λt=>t.key==k).isSome:=by
 grind
theorem PS(Z:List BA)(RG:List Int):(Z.map BA.b).filter (λt=> !RG.contains (t.key.2/64))=(Z.filter λx=> !RG.contains (x.b.key.2/64)).map BA.b:=by
 rw[List.filter_map]
 rfl
theorem Ig{α:Type}(D:α->Bool):∀l:List α,(l.filter D).length+(l.filter λx=> !D x).length=l.length
 :=by intro y1;induction y1<;>grind
abbrev rsC(x:RS):bC:=sl .u8 5 x.A x.r.bytes.length x.c x.r.bytes
def rnC(RZ:List (Ky×RS)):List bC:=RZ.map λx=>rsC x.2
abbrev enR(be:Nat)(E:EnX):bC:=row be [.p E.bc,.map (some E.mr),.w E.last.1,.w E.last.2,.i E.Sl,.i E.Sh,.bool E.begun] 166
abbrev enF(be:Nat)(E:EnX):List bC:=[enR be E,caR E.bc (.i E.room) (.slice E.X.Ac E.X.Z.length E.X.cc) (.map (some E.X.ml)) (.i E.X.fl),blC E.X,bQ (E.X.Z.map baC),mpc E.X.ml (lkV E.X.LK),bQ (lkC E.X.LK),mpc E.mr (rnV E.RZ),bQ (rnC E.RZ)]
theorem Ga(x:RS)(n:Int)(w:World):Ctr prog 122 [.agg x.cells.toArray,.i n] w [] (λv cs=>v= .i (bif n==0 then 0 else(x.r.bytes.length:Int))/\cs=[]):=by
 refine Zfs func122 ntmps122 ?_;refine Z_2 ?_;refine ZO λb2=>?_;refine pV ?_ ?_<;>intro hc1
 .refine Z_7 ?_;refine Zra ?_;rw[hc1];exact fy
 refine rf ?_;rw[hc1];exact fy
theorem enew_ok(room:Int)(w:World):Ctr prog 56 [.i room] w [] (λv cs=>if 1<=room/\room<=1024 then∃be bc mr ml,v= .tuple #[.p be,.i 0]/\cs=enF be ⟨bc,mr,room,⟨ml,none,0,0,[],[]⟩,[],(0,0),0,0,false⟩else v= .tuple #[.pointer none,.i 1]/\cs=[]):=by
 have HN:=cnew_ok room;refine Zfs func56 ntmps56 ?_;by_cases hr:1<=room/\room<=1024
 .have HN2:∀w,Ctr prog 85 [.i room] w [] (λv cs=>∃bc ml,v= .tuple #[.p bc,.i 0]/\cs=caF bc room ⟨ml,none,0,0,[],[]⟩):=λw=>Ctr.mono (HN w) λv cs h=>by grind
  refine Z_9 ?_;refine ZSn (λw hi=>HN2 w) ?_;rintro _ _ ⟨bc,ml,rfl,rfl⟩;refine iT ?_;refine iU ?_;refine Z_4 ?_;refine jS (ZA ?_);refine fW (Dt rfl) rfl ?_;rintro _ _ ⟨b15,rfl,rfl⟩;refine ZA ?_;refine ZO λb17=>?_
  refine Z_5 ?_;refine bG (enF b17 ⟨bc,b15,room,⟨ml,none,0,0,[],[]⟩,[],(0,0),0,0,false⟩) Zj (xH (cs':=enF b17 ⟨bc,b15,room,⟨ml,none,0,0,[],[]⟩,[],(0,0),0,0,false⟩) (.inl rfl) (aR _) rfl rfl rfl ?_);rw[if_pos hr];exact⟨b17,bc,b15,ml,rfl,rfl⟩
 have HN2:∀w,Ctr prog 85 [.i room] w [] (λv cs=>v= .tuple #[.pointer none,.i 1]/\cs=[]):=λw=>Ctr.mono (HN w) λv cs h=>by grind
 refine Z_9 ?_;refine ZSe (λw hi=>HN2 w) ?_;refine iT ?_;refine oU ?_;refine Z_9 ?_;refine mQ ?_;rw[if_neg hr];exact fy
theorem Mk(be:Nat)(E:EnX)(w:World)(hi:Inv w (bD (enF be E)) (enF be E) w):Ctr prog 87 [.p be] w (enF be E) (λ_ cs=>∃ml fl,cs=enF be ⟨E.bc,E.mr,E.room,⟨ml,none,0,fl,[],[]⟩,[],E.last,E.Sl,E.Sh,E.begun⟩):=by
 refine Zfn func87 ntmps87 hi ?_;refine Z_6 ?_;refine dz (caF E.bc E.room E.X) (λw hi hin=>CJ E.bc E.room E.X w hin) ?_;rintro _ _ ⟨ml,fl,rfl,rfl⟩;refine Z_7 ?_;refine eE (NU rfl rfl Za) ?_;rintro _ _ ⟨rfl,rfl⟩;refine Zn (mf (cin:=rnC E.RZ) (cin':=[]) Zd (List.nil_sublist _) ?_);exact bG (enF be ⟨E.bc,E.mr,E.room,⟨ml,none,0,fl,[],[]⟩,[],E.last,E.Sl,E.Sh,E.begun⟩) Zj (iY (cs':=enF be ⟨E.bc,E.mr,E.room,⟨ml,none,0,fl,[],[]⟩,[],E.last,E.Sl,E.Sh,E.begun⟩) (.inr rfl) (aR _) rfl ⟨ml,fl,rfl⟩)
theorem Hw(Y:bC)(D:Ky->Bool)(f:FuncId)(caps:List Value)(HF:∀args w,(callFunc f args).run prog w= .ok (.enter f args) w)(RZ:List (Ky×RS))(hn:(RZ.map (·.1)).Nodup)(hk:∀y,y∈RZ->lj y.1)(mr:Nat)
  (HC:∀(q:Ky) (x:RS) (w:World),lj q->Inv w (bD [Y]) [Y] w->Ctr prog f ([]++[.agg (bZ q).toArray,.agg x.cells.toArray]++caps) w [Y] (λv cs=>v= .bool (D q)/\cs=[Y]))
  (w:World) (hi:Inv w (bD [mpc mr (rnV RZ),Y]) [mpc mr (rnV RZ),Y] w):
  Ctr prog 116 [.map (some mr),.func (.func f) #[] caps.toArray] w [mpc mr (rnV RZ),Y] (λ_ cs=>cs=[mpc mr (rnV (RZ.filter λx=> !D x.1)),Y]):=by
 refine Zfn func116 ntmps116 hi ?_;refine Z_3 ?_;refine fW (E5 rfl rfl Za) rfl ?_;rintro _ _ ⟨b7,rfl,rfl⟩;rw[show(rnV RZ).map (λx=>(false,x))=gIL (RZ.map λx=>(false,x)) by unfold rnV gIL;simp_all];refine Z_3 ?_;refine bN (λG:List (Bool×Ky×RS)=>[(0,.map (some mr)),(1,.func (.func f) #[] caps.toArray),(7,.p b7)]) (λG=>[itC mr b7 (gIL G) none,Y]) (λG=>(G.map (·.2)).filter (λx=> !D x.1)=RZ.filter (λx=> !D x.1)/\(∀g,g∈G->g.1=true->D g.2.1=false)/\(G.map λg=>g.2.1).Nodup/\(∀g,g∈G->lj g.2.1)) (λG=>qd G) (RZ.map λx=>(false,x)) ?_ ?_ ?_ ?_
 .exact⟨(by rw[List.map_map];show(RZ.map id).filter _=_;simp_all),(λg hg h=>by grind),bR,(λg hg=>by grind)⟩
 .exact Zwk
 .exact Zu
 rintro G ⟨hG,hT,hN,hK⟩;refine Z_2 ?_;refine fW (JK rfl Za) rfl ?_;rintro _ _ ⟨o8,ho8,rfl,rfl⟩;refine Zy (I3 Zv0) ?_;refine Zw3 ?_ ?_<;>intro hc1
 .obtain⟨⟨j,q,v⟩,rfl⟩:=Option.isSome_iff_exists.1 hc1;have hj0:(gIL G)[j]? =some (false,q,v):=ho8;obtain⟨x,hx,rfl⟩:=gIL_at hj0;have hq:=hK _ (ak hx);have hIT:(gIL G).set j (true,q,x.v)=gIL (G.set j (true,q,x)):=(by unfold gIL;simp_all);have hx2:(G.set j (true,q,x))[j]? =some (true,q,x):=List.getElem?_set_self (aj.1 hx).1;have hN2:((G.set j (true,q,x)).map λg=>g.2.1).Nodup:=(by rw[sR (y:=(true,q,x)) hx rfl];exact hN);have hdel:wZ ((gIL G).set j (true,q,x.v)) q=gIL (G.eraseIdx j):=(by rw[hIT,gIL_del hN2 hx2,JW]);refine Z_5 ?_;refine dK (I8 (Zv rfl)) (λw hi=>(show AU mr b7 (DS (gIL G) (some (j,q,x.v))) (some (q,x.v)) w from hi.get (show Has _ (itC mr b7 (DS (gIL G) (some (j,q,x.v))) (KJ (some (j,q,x.v))))from Zh))) rfl (Z_2 ?_);refine ZN λb4=>?_
  refine ZN λb5=>?_
  refine eE (cS (vs:=bZ q) Zrf rfl rfl (vL q) Za oV) ?_;rintro _ _ ⟨rfl,rfl⟩;refine eE (cS (vs:=x.cells) Zrf rfl rfl (oQ x) Za oV) ?_;rintro _ _ ⟨rfl,rfl⟩;refine Z_7 ?_;refine fW (iM ([Y]) rfl rfl HF Zi (λw hi hin=>HC q x w hq hin)) rfl ?_;rintro _ _ ⟨_,⟨rfl,rfl⟩,rfl⟩;refine Z_2 ?_;refine ZW ?_ ?_<;>intro hc3
  .refine Z_3 ?_;refine eE (t_itdel rfl rfl hq rfl D8 Za) ?_;rintro _ _ ⟨rfl,rfl⟩;refine Z_2 ?_;refine kR (c:=itC mr b7 (wZ ((gIL G).set j (true,q,x.v)) q) none) (c':=itC mr b7 (gIL (G.eraseIdx j)) none) Za rfl (λw h=>by grind) (bJ ((G.eraseIdx j)) ?_ ?_ ?_)
   .exact⟨⟨(by rw[ChangeMaps.map_eraseIdx,sW (x:=(q,x)) bR bR];exact hG),(λg hg h=>hT g ((List.eraseIdx_sublist _ _).subset hg) h),hN.sublist ((List.eraseIdx_sublist _ _).map _),λg hg=>hK g ((List.eraseIdx_sublist _ _).subset hg)⟩,sJ hx⟩
   .exact Zwk
   exact Zj
  refine Z_2 ?_;refine kR (c:=itC mr b7 ((gIL G).set j (true,q,x.v)) (some (q,x.v))) (c':=itC mr b7 (gIL (G.set j (true,q,x))) none) Za rfl (λw h=>by rw[<-hIT];exact it_cur h) (bJ ((G.set j (true,q,x))) ?_ ?_ ?_)
  .exact⟨⟨(by rw[sR (y:=(true,q,x)) hx rfl];exact hG),(λg hg h=>(List.mem_or_eq_of_mem_set hg).elim (λhg=>hT g hg h) (λe=>by grind)),hN2,(λg hg=>(List.mem_or_eq_of_mem_set hg).elim (λhg=>hK g hg) (λe=>by grind))⟩,xt hx⟩
  .exact Zwk
  exact Zj
 obtain rfl:o8=none:=jg;have ho0:∀x,x∈gIL G->x.1=true:=ho8;have hall:∀g,g∈G->D g.2.1=false:=(λg hg=>hT g hg (ho0 (g.1,g.2.1,g.2.2.v) (bn.2 ⟨g,hg,rfl⟩)));refine Z_4 ?_;refine BL (IL:=gIL G) (cur:=none) (b:=mr) (r:=b7) Zd ?_;rw[show(gIL G).map (·.2)=rnV (RZ.filter λx=> !D x.1) by rw[<-hG,List.filter_eq_self.2 (λy hy=>by grind)];unfold gIL rnV;simp_all];refine iY (cs':=[mpc mr (rnV (RZ.filter λx=> !D x.1)),Y]) (.inr rfl) Zu rfl ?_
 rfl
section
variable {C:Cx} {Q:lS} {fr:Fr} {cs cs':List bC} {ops:Array Oper} {l:List Oper} {e:Exit} {fn:Func} {K:Value->List bC->Prop}
theorem Q0(hc:∀w,Inv C.w0 C.S cs w->Inv C.w0 C.S cs' w)(h:WL C ops Q l fr cs'):WL C ops Q l fr cs:=λa w hf hi=>h a w hf (hc w hi)
theorem xG{t T bb tt t2 T2 b2 tt2 u:Nat}{v:Value}{xs ys:List Value}(he:e= .ret\/e= .normal)(hs:cs'.Sublist cs)(h0:fn.results= #[.cell t T,.cell t2 T2,.tmp u])(h1:look fr t=some (.p bb))(h2:look fr t2=some (.p b2))(h3:look fr u=some v)(hc:Has cs (row bb xs tt))(hc2:Has cs (row b2 ys tt2))
  (hT:∀w,(isAgg T).run C.P w= .ok true w) (hz:∀w,(sizeOf T).run C.P w= .ok xs.length w) (hT2:∀w,(isAgg T2).run C.P w= .ok true w) (hz2:∀w,(sizeOf T2).run C.P w= .ok ys.length w) (hk:K (.tuple #[.agg xs.toArray,.agg ys.toArray,v]) cs'):QOk C (bodyPost C.P fn (AS C.w0 C.S K)) e fr cs:=
 ng he hs (λa w hf hi=>by
  have e1:=hf.at_ t _ h1;have e2:=hf.at_ t2 _ h2;have e3:=hf.at_ u _ h3;simp only[Array.getD_eq_getD_getElem?]at e1 e2 e3;simp[results,h0,e1,e2,e3,asAddr,gE hT hz hi hc,gE hT2 hz2 hi hc2]) hk
end
theorem Ctr.up{P:Program}{f:FuncId}{args:List Value}{w:World}{cin:List bC}{K K':Value->List bC->Prop}(h:Ctr P f args w cin K)(hk:∀v cs w',K v cs->Inv w (bD cin) cs w'->∃cs',K' v cs'/\Inv w (bD cin) cs' w'):Ctr P f args w cin K':=
 Calls.mono h λe w' hq=>by
  obtain⟨v,cout,rfl,h1,h2⟩:=hq;obtain⟨cs',h3,h4⟩:=hk v cout w' h1 h2;exact⟨v,cs',rfl,h3,h4⟩
abbrev EnX.Sv(E:EnX)(X:CaX):EnX:=⟨E.bc,E.mr,E.room,X,E.RZ,E.last,E.Sl,E.Sh,E.begun⟩
abbrev EnX.SB(E:EnX)(RZ:List (Ky×RS)):EnX:=⟨E.bc,E.mr,E.room,E.X,RZ,E.last,E.Sl,E.Sh,E.begun⟩
def oL(Z:List BA)(RZ:List (Ky×RS)):List (Ky×RS):=RZ.filter λx=>Z.any λt=>t.key==x.1
theorem N7(RZ:List (Ky×RS)):(rnM RZ).map (·.1)=RZ.map (·.1):=by simp[rnM]
theorem oG.rk{E:EnX}(h:oG E):(E.RZ.map (·.1)).Nodup:=by have:=h.eg.S8;rwa[show E.eng.runs=rnM E.RZ from rfl,N7]at this
theorem qf(E:Eng){RG:List Int}(h:RG≠[]):mV E RG=Mo E RG:=by
 grind [mV]
theorem PT(E:EnX)(RG:List Int)(X':CaX)(hX:X'.Z=E.X.Z.filter λx=> !RG.contains (x.b.key.2/64)):
  (bif decide (0<((E.X.Z.filter λx=>RG.contains (x.b.key.2/64)).length:Int))then((E.Sv X').SB (oL X'.Z E.RZ)).eng else(E.Sv X').eng)=Mo E.eng RG:=by
 have h2:=Ig (λx:BA=>RG.contains (x.b.key.2/64)) E.X.Z;have hl:(E.eng.l.filter λt=> !RG.contains (t.key.2/64))=X'.Z.map BA.b:=by rw[hX];exact PS E.X.Z RG
 have hlen:E.eng.l.length=E.X.Z.length:=aV _;unfold Mo;rw[hl,hlen];dsimp only;rw[aV,hX];cases hd:decide (0<((E.X.Z.filter λx=>RG.contains (x.b.key.2/64)).length:Int))with
 |true=>
  simp only[ae]at hd;rw[ai,ay Wq1,ai];rw[<-hX];show Eng.mk E.room (X'.Z.map BA.b) (rnM (oL X'.Z E.RZ)) E.last E.Sl E.Sh E.begun=Eng.mk E.room _ (wY _ (rnM E.RZ)) E.last E.Sl E.Sh E.begun;rw[B6]
  rfl
 |false=>
  simp only[ac]at hd;rw[ah,ar Wq1,ah];rw[<-hX]
  rfl
theorem Jt(E:Eng)(RG:List Int):(mV E RG).last=E.last:=by unfold mV;cases RG.isEmpty<;>rfl
theorem oG.Tf{E E':EnX}(h:oG E)(RG:List Int)(he:E'.eng=mV E.eng RG)(hc:ro E'.room E'.X)(hr:∀y,y∈E'.RZ->y∈E.RZ):oG E':=⟨hc,by rw[he];exact h.eg.turn RG,λy hy=>h.rs y (hr y hy),by have e:=congrArg Eng.last he;rw[Jt]at e;rw[show E'.last=E.last from e];exact h.last⟩
theorem Hh{b:List Int}{l:List (Int×Int)}{sz:Nat}{R:List (Int×Int)×Nat×Bool}(h:(l++(cP b 0 sz).1,(cP b 0 sz).2)=R):(l,sz,false)=R:=by
 rw[<-h];show(l,sz,false)=(l++[],sz,false)
 grind
theorem Hg{b:List Int}{l:List (Int×Int)}{k sz:Nat}{R:List (Int×Int)×Nat×Bool}(h:(l++(cP b (k+1) sz).1,(cP b (k+1) sz).2)=R)(hd:dj (b.drop sz)=none):(l,sz,false)=R:=by
 grind [cP]
theorem Kr{b:List Int}{l:List (Int×Int)}{k sz z:Nat}{i:Int×Int}{R:List (Int×Int)×Nat×Bool}(h:(l++(cP b (k+1) sz).1,(cP b (k+1) sz).2)=R)(hd:dj (b.drop sz)=some (i,z))(hp:dr i.1=false):(l,sz,false)=R:=by
 grind [cP]
theorem Kt{b:List Int}{l:List (Int×Int)}{k sz z:Nat}{i:Int×Int}{R:List (Int×Int)×Nat×Bool}(h:(l++(cP b (k+1) sz).1,(cP b (k+1) sz).2)=R)(hd:dj (b.drop sz)=some (i,z))(hp:dr i.1=true)(he:fx i.1=true):(l++[i],sz+z,true)=R:=by
 grind [cP]
theorem Ow{b:List Int}{l:List (Int×Int)}{k sz z:Nat}{i:Int×Int}{R:List (Int×Int)×Nat×Bool}(h:(l++(cP b (k+1) sz).1,(cP b (k+1) sz).2)=R)(hd:dj (b.drop sz)=some (i,z))(hp:dr i.1=true)(he:fx i.1=false):(l++[i]++(cP b k (sz+z)).1,(cP b k (sz+z)).2)=R:=by
 grind [cP]
abbrev pgC(Ap:Option Addr)(cp:Nat)(RG:List Int):bC:=sl .i64 3 Ap RG.length cp RG
abbrev caP(bc:Nat)(room:Int)(X:CaX)(Ap:Option Addr)(cp:Nat)(RG:List Int):List bC:=[caR bc (.i room) (.slice X.Ac X.Z.length X.cc) (.map (some X.ml)) (.i X.fl),blC X,bQ (X.Z.map baC),mpc X.ml (lkV X.LK),bQ (lkC X.LK),pgC Ap cp RG]
theorem MD(bc:Nat)(room:Int)(X:CaX)(hX:ro room X)(Ap:Option Addr)(cp:Nat)(RG:List Int)(w:World)(hi:Inv w (bD (caP bc room X Ap cp RG)) (caP bc room X Ap cp RG) w):
  Ctr prog 92 [.p bc,.slice Ap RG.length cp] w (caP bc room X Ap cp RG) (λv cs=>v= .i ((X.Z.filter (eN RG)).length:Int)/\∃X':CaX,cs=caP bc room X' Ap cp RG/\ro room X'/\X'.Z=X.Z.filter λx=> !eN RG x):=Qd bc room X hX Ap cp RG w hi
abbrev enP(be:Nat)(E:EnX)(Ap:Option Addr)(cp:Nat)(RG:List Int):List bC:=[enR be E,caR E.bc (.i E.room) (.slice E.X.Ac E.X.Z.length E.X.cc) (.map (some E.X.ml)) (.i E.X.fl),blC E.X,bQ (E.X.Z.map baC),mpc E.X.ml (lkV E.X.LK),bQ (lkC E.X.LK),mpc E.mr (rnV E.RZ),bQ (rnC E.RZ),pgC Ap cp RG]
abbrev tdF(b1 be:Nat)(E:EnX):List bC:=row b1 [.p be] 100::enR be E::caF E.bc E.room E.X
theorem NN(b1 be:Nat)(E:EnX)(hS:BaSm E.X.Z)(q:Ky)(x:RS)(w:World)(hi:Inv w (bD (tdF b1 be E)) (tdF b1 be E) w):
  Ctr prog 117 ([]++[.agg (bZ q).toArray,.agg x.cells.toArray]++[.p b1]) w (tdF b1 be E) (λv cs=>v= .bool (!(E.X.Z.find? λt=>t.key==q).isSome)/\cs=tdF b1 be E):=by
 have HF:=Gk E.bc E.room E.X hS q;obtain⟨o,ho⟩:=Zgn ((E.X.Z.find? λt=>t.key==q));rw[ho]at HF|-;refine Zfn func117 ntmps117 hi ?_;cases o with
 |none=>
  refine Z_2 ?_;refine ZO λb3=>?_;refine ZO λb4=>?_
  refine Z_4 ?_;refine ig ⟨λj=>List.elem j [5,10],[]⟩ [(0,4),(1,0),(2,0),(3,1),(4,1),(5,3),(6,3),(7,3),(8,3),(9,3),(10,3),(11,3)] Zk Zk (MS ?_);refine Wq161 ?_;refine Nu [(5,[(6,0),(7,0),(8,0),(9,2),(10,2),(11,0)]),(9,[(5,2),(6,0),(7,0),(8,0),(10,2),(11,0)])] Zk (.cons ?_ (.cons ?_ .nil))
  .refine IF ?_;rintro _ _ ⟨_,⟨rfl,rfl⟩,rfl⟩;refine Wq24 ?_;refine eW ?_;refine AP ?_;rintro _ _ ⟨b6,rfl,rfl⟩;refine Qx ?_;exact Wq92
  refine AP ?_;rintro _ _ ⟨b6,rfl,rfl⟩;refine eW ?_;refine IF ?_;rintro _ _ ⟨_,⟨rfl,rfl⟩,rfl⟩;refine Wq24 ?_;refine Qx ?_;exact Wq92
 |some y=>
  refine Z_2 ?_;refine ZO λb3=>?_;refine ZO λb4=>?_
  refine Z_4 ?_;refine ig ⟨λj=>List.elem j [5,10],[]⟩ [(0,4),(1,0),(2,0),(3,1),(4,1),(5,3),(6,3),(7,3),(8,3),(9,3),(10,3),(11,3)] Zk Zk (MS ?_);refine Wq161 ?_;refine Nu [(5,[(6,0),(7,0),(8,0),(9,2),(10,2),(11,0)]),(9,[(5,2),(6,0),(7,0),(8,0),(10,2),(11,0)])] Zk (.cons ?_ (.cons ?_ .nil))
  .refine IF ?_;rintro _ _ ⟨_,⟨A9,c9,rfl,rfl⟩,rfl⟩;refine Wq24 ?_;refine eW ?_;refine AP ?_;rintro _ _ ⟨b6,rfl,rfl⟩;refine eW ?_;exact uz rfl rfl (cS Zrf rfl rfl (nM ⟨y.b,A9,c9⟩) Za oV) ZJ Wq92
  refine AP ?_;rintro _ _ ⟨b6,rfl,rfl⟩;refine eW ?_;refine IF ?_;rintro _ _ ⟨_,⟨A9,c9,rfl,rfl⟩,rfl⟩;refine Wq24 ?_;refine eW ?_;exact uz rfl rfl (cS Zrf rfl rfl (nM ⟨y.b,A9,c9⟩) Za oV) ZJ Wq92
theorem F9(be:Nat)(E:EnX)(hS:BaSm E.X.Z)(hn:(E.RZ.map (·.1)).Nodup)(hk:∀y,y∈E.RZ->lj y.1)(w:World)(hi:Inv w (bD (enF be E)) (enF be E) w):
  Ctr prog 93 [.p be] w (enF be E) (λ_ cs=>cs=enF be (E.SB (oL E.X.Z E.RZ))):=by
 have hkr:(E.RZ.filter λx=> !!(E.X.Z.find? λt=>t.key==x.1).isSome)=oL E.X.Z E.RZ:=by
  unfold oL;apply List.filter_congr;intro x _;rw[Bool.not_not,Qk]
 have hsub:(rnC (oL E.X.Z E.RZ)).Sublist (rnC E.RZ):=List.Sublist.map _ List.filter_sublist;have HM:=λb1 w hi=>Hw (bQ (tdF b1 be E)) (λq=> !(E.X.Z.find? λt=>t.key==q).isSome) 117 [.p b1] (λ_ _=>rfl) E.RZ hn hk E.mr
  (λq x w _ hin=>Ctr.mono (Ctr.join hin λhin2=>NN b1 be E hS q x w hin2) (λv cs ⟨cs0,⟨h1,h2⟩,h3⟩=>⟨h1,by rw[h3,h2]⟩)) w hi
 rw[hkr]at HM;refine Zfn func93 ntmps93 hi ?_;refine Z_2 ?_;refine ZO λb1=>?_;refine Z_7 ?_;refine Zy (lX rfl) ?_;refine Q0 (cs':=bQ (tdF b1 be E)::[mpc E.mr (rnV E.RZ),bQ (rnC E.RZ)]) (λw hi=>hi.Tl Zi) (ZcL ([mpc E.mr (rnV E.RZ),bQ (tdF b1 be E)]) (λw hi hin=>HM b1 w hin) ?_);rintro _ _ ⟨_,rfl,rfl⟩;refine Q0 (cs':=tdF b1 be E++[mpc E.mr (rnV (oL E.X.Z E.RZ)),bQ (rnC E.RZ)]) (λw hi=>(hi.perm (List.Perm.swap ..)).Sw) (Zn (mf (cin:=rnC E.RZ) (cin':=rnC (oL E.X.Z E.RZ)) Zd hsub ?_));refine bG (enF be (E.SB (oL E.X.Z E.RZ))) Zj (iY (cs':=enF be (E.SB (oL E.X.Z E.RZ))) (.inr rfl) (aR _) rfl ?_)
 rfl
theorem ym(be:Nat)(E:EnX)(hE:oG E)(Ap:Option Addr)(cp:Nat)(RG:List Int)(w:World)(hi:Inv w (bD (enP be E Ap cp RG)) (enP be E Ap cp RG) w):
  Ctr prog 69 [.p be,.slice Ap RG.length cp] w (enP be E Ap cp RG) (λ_ cs=>∃E',cs=enP be E' Ap cp RG/\oG E'/\E'.eng=mV E.eng RG):=by
 have HD:=MD E.bc E.room E.X hE.ca Ap cp RG;refine Zfn func69 ntmps69 hi ?_;by_cases hp:RG=[]
 .subst hp;refine Z_6 ?_;refine Wq15 ?_;refine fa (bM rfl rfl) rfl rfl (fa (bM rfl rfl) rfl rfl (fa (bM rfl rfl) rfl rfl (Zy (yK (q:=false) (Zv rfl) ⟨_,rfl,λ_ e=>absurd e Wq7⟩) ?_)));refine tI ?_;refine Zc (iY (cs':=enP be E Ap cp []) (.inr rfl) (aR _) rfl ?_);exact⟨E,rfl,hE,rfl⟩
 have hpl:0<RG.length:=List.length_pos_iff.2 hp;have HX:=PT E RG;obtain⟨n9,hn9⟩:∃n:Nat,(E.X.Z.filter λx=>RG.contains (x.b.key.2/64)).length=n:=⟨_,rfl⟩;rw[hn9]at HX;rw[show(E.X.Z.filter (eN RG)).length=n9 from hn9]at HD;refine Z_5 ?_;rw[show decide ((0:Int)<(RG.length:Int))=true from ay Wq1];refine Z_6 ?_;refine gU (bM rfl rfl) rfl (eo (caP E.bc E.room E.X Ap cp RG) rfl (λ_ _=>rfl) Zi (λw hi hin=>HD w hin)) rfl ?_;rintro _ _ ⟨_,⟨rfl,X',rfl,hX',hXZ⟩,rfl⟩;have hX2:=HX X' hXZ;refine Z_4 ?_;refine ZW ?_ ?_<;>intro hc0
 .have hd:decide (0<((n9:Nat):Int))=true:=hc0
  rw[hd,ai]at hX2;refine Z_2 ?_;refine ZcL (enF be (E.Sv X')) (λw hi hin=>F9 be (E.Sv X') hX'.sm hE.rk (λy hy=>(hE.rs y hy).1) w hin) ?_;rintro _ _ ⟨_,rfl,rfl⟩;refine Zn (bG (enP be ((E.Sv X').SB (oL X'.Z E.RZ)) Ap cp RG) Zj ?_);exact iY (cs':=enP be ((E.Sv X').SB (oL X'.Z E.RZ)) Ap cp RG) (.inr rfl) (aR _) rfl ⟨_,rfl,hE.Tf RG (by rw[hX2,qf _ hp]) hX' (λy hy=>(List.mem_filter.1 hy).1),by rw[hX2,qf _ hp]⟩
 have hd:decide (0<((n9:Nat):Int))=false:=hc0
 rw[hd,ah]at hX2;refine Zc (bG (enP be (E.Sv X') Ap cp RG) Zj ?_);exact iY (cs':=enP be (E.Sv X') Ap cp RG) (.inr rfl) (aR _) rfl ⟨_,rfl,hE.Tf RG (by rw[hX2,qf _ hp]) hX' (λy hy=>hy),by rw[hX2,qf _ hp]⟩
theorem rd_drop{w:World}{A:Option Addr}{c:Nat}{xs:List Int}(h:Rd w .u8 A xs.length c xs){k:Nat}(hk:k<=xs.length):Rd w .u8 (if c=k then A else A.map (·.add (k*1))) (xs.length - k) (c - k) (xs.drop k):=by
 have h5:=RdV.cut h (lo:=k) (hi:=xs.length) hk (aL _);have e:(ints .u8 xs).take xs.length=ints .u8 xs:=List.take_of_length_le (by simp[ints]);rw[Nat.mul_one]at h5;simp only[Nat.mul_one]at h5|-;rw[e]at h5;have e2:(ints .u8 xs).drop k=ints .u8 (xs.drop k):=by simp[ints]
 rw[e2]at h5;exact h5
theorem Pk(l:List (Int×Int))(op nn:Int):l.flatMap IZ++[.i op,.w nn]=(l++[(op,nn)]).flatMap IZ:=by simp
theorem two1(a b:Int):∀u∈([.i a,.w b]:List Value),u.oneCell'=true:=λu h=>by
 simp only[aG,aS,or_false]at h;rcases h with rfl|rfl<;>rfl
theorem Me(A:Option Addr)(c:Nat)(b:List Int)(hb:u8s b)(hbl:b.length<=1000)(w:World)(h:Rd w .u8 A b.length c b):
  Ctr prog 155 [.slice A b.length c] w [] (λv cs=>∃A1 c1,∃x:RS,x.r=⟨b.take (cP b 8 0).2.1,(cP b 8 0).2.2⟩/\v= .tuple #[.slice A1 (cP b 8 0).1.length c1,.agg x.cells.toArray]/\cs=[slv 71 2 A1 (cP b 8 0).1.length c1 ((cP b 8 0).1.flatMap IZ),rsC x]):=by
 obtain⟨R,hR⟩:=Zgn (cP b 8 0);rw[hR];have hR0:(([]:List (Int×Int))++(cP b 8 0).1,(cP b 8 0).2)=R:=hR;have hcap:=h.cap;refine Zfs func155 ntmps155 ?_;refine Z_3 ?_;refine ZN λb3=>?_
 refine Z_9 ?_;refine ZN λb5=>?_;refine Z_4 ?_;refine cT 71 2 (Z_3 ?_);refine cD (λq:(List (Int×Int)×Nat×Bool)×Option Addr×Nat=>[(0,.slice A b.length c),(3,.p b3),(4,.slice q.2.1 q.1.1.length q.2.2),(5,.p b5),(6,.i (q.1.2.1:Int))]) (λq=>[row b3 [.slice none 0 0,.bool false] 208,row b5 [.slice none 0 0,.bool q.1.2.2] 208,slv 71 2 q.2.1 q.1.1.length q.2.2 (q.1.1.flatMap IZ)]) (λq=>q.1=R/\q.1.2.1<=b.length) ?_ ?_
 .refine Zx (bN (λq:(List (Int×Int)×Nat×Bool)×Option Addr×Nat=>[(0,.slice A b.length c),(3,.p b3),(4,.slice q.2.1 q.1.1.length q.2.2),(5,.p b5),(6,.i (q.1.2.1:Int))]) (λq=>[row b3 [.slice none 0 0,.bool false] 208,row b5 [.slice none 0 0,.bool q.1.2.2] 208,slv 71 2 q.2.1 q.1.1.length q.2.2 (q.1.1.flatMap IZ)]) (λq=>q.1.1.length<=8/\q.1.2.1<=b.length/\(q.1.2.2=true->q.1=R)/\(q.1.2.2=false->(q.1.1++(cP b (8 - q.1.1.length) q.1.2.1).1,(cP b (8 - q.1.1.length) q.1.2.1).2)=R)) (λq=>8 - q.1.1.length) (⟨([],0,false),none,0⟩) ?_ ?_ ?_ ?_)
  .exact⟨au _,au _,λe=>(by cases e),λ_=>hR0⟩
  .exact Zwk
  .exact Zu
  rintro⟨⟨l,sz,en⟩,A1,c1⟩ ⟨hl,hsz,hT,hF⟩;dsimp only at hl hsz hT hF|-;have hb5:(b.drop sz).length=b.length - sz:=List.length_drop;refine uw ?_ ?_<;>intro hc4
  .have hc4':(decide ((l.length:Int)<8)&& !en)=true:=hc4;simp only[aD,ae,Bool.not_eq_true']at hc4';obtain⟨hl8,rfl⟩:=hc4';have hF:=hF rfl;obtain⟨k,hk⟩:∃k,8 - l.length=k+1:=⟨8 - l.length - 1,by omega⟩;rw[hk]at hF;have HD:=λA c w h=>CC A c (b.drop sz) (λx hx=>hb x (List.mem_of_mem_drop hx)) w h
   rw[hb5]at HD;have hS:=Hg hF;have hN:=λi z=>Kr (z:=z) (i:=i) hF
   have hE:=λi z=>Kt (z:=z) (i:=i) hF
   have hO:=λi z=>Ow (z:=z) (i:=i) hF
   have hRg:=λ(op nn:Int) (z:Nat)=>nJ (b:=b.drop sz) (λx hx=>hb x (List.mem_of_mem_drop hx)) (op:=op) (nn:=nn) (z:=z)
   obtain⟨o,ho⟩:=Zgn (dj (b.drop sz));rw[ho]at HD hS hN hE hO hRg;refine Z_7 ?_;refine Zy (yH rfl Zrf (Zv rfl) (.inr ⟨_,_,rfl,(Zv rfl)⟩) (.inl ⟨rfl,rfl⟩) Wq1 Wq1) ?_;refine ZSn (λw hi=>HD _ _ w (rd_drop (h.RU hi) hsz)) ?_;rintro _ _ ⟨⟨y,rfl,hy⟩,rfl⟩;refine Z_4 ?_;refine ZN λb7=>?_
   refine jh ?_;rcases o with _|⟨⟨op,nn⟩,z⟩
   .have hy0:(y==0)=false:=hy;have hq:=hS rfl;have hy1:(y !=0)=true:=(by rw[bne,hy0];rfl);refine Z_3 ?_;rw[hy1];refine ZA ?_;refine Wq89 ?_;refine Wq89 ?_;refine Zy (QU (q:=false) (Zv rfl) ⟨_,rfl,λ_ e=>absurd e Wq7⟩) ?_;refine Z_2 ?_;refine oU ?_;refine Z_5 ?_;refine bJ ((⟨(l,sz,false),A1,c1⟩:(List (Int×Int)×Nat×Bool)×Option Addr×Nat)) ?_ ?_ ?_
    .exact⟨hq,hsz⟩
    .exact Zwk
    exact Zj
   have hy0:(y==0)=true:=hy;obtain rfl:y=0:=(by simpa using hy0);have hN:=hN (op,nn) z rfl;have hE:=hE (op,nn) z rfl;have hO:=hO (op,nn) z rfl;obtain⟨hnn,hz1,hz5,hzl⟩:=hRg op nn z rfl;dsimp only at hN hE hO;refine Z_6 ?_;refine dU (bE rfl rfl) (.cons (bU rfl) .nil) (λ_ _=>rfl) (λhg w hi=>Ck op w) rfl (Z_4 ?_);refine ZW ?_ ?_<;>intro hc6
   .have hp:dr op=false:=(by have h9:(false|| !dr op)=true:=hc6;simpa using h9);have hq:=hN hp;refine Z_5 ?_;refine bJ ((⟨(l,sz,false),A1,c1⟩:(List (Int×Int)×Nat×Bool)×Option Addr×Nat)) ?_ ?_ ?_
    .exact⟨hq,hsz⟩
    .exact Zwk
    exact Zj
   have hp:dr op=true:=(by have h9:(false|| !dr op)=false:=hc6;simpa using h9);refine Z_6 ?_;refine jj ?_;rintro _ _ ⟨b36,rfl,rfl⟩;refine fW (cj (n:=l.length) (e:=71) (sz:=2) (bytes:=16) rfl rfl Za rfl rfl (λw hi=>hi.rd (show Has _ (slv 71 2 (sA b36) 1 1 [.i op,.w nn])from Zh)) (two1 op nn) gq Wq1) rfl ?_;rintro _ _ ⟨A2,c2,rfl,rfl⟩;rw[Pk,show l.length+1=(l++[(op,nn)]).length by simp];refine Z_7 ?_;refine Zy (ef (Zv rfl) (Zv rfl) (show _=((sz+z:Nat):Int)from by show IntKind.i64.wrap ((sz:Int)+(z:Int))=_;rw[bA];omega)) ?_;refine Z_6 ?_;refine ZSe (λw hi=>z9 op w) ?_;refine gP ?_;refine Z_2 ?_;refine bJ ((⟨(l++[(op,nn)],sz+z,fx op),A2,c2⟩:(List (Int×Int)×Nat×Bool)×Option Addr×Nat)) ?_ ?_ ?_
   .exact⟨⟨gZ,(by dsimp only;omega),(λe=>by dsimp only at e|-;rw[e];exact hE hp e),(λe=>by dsimp only;rw[aq,show 8 - (l.length+[(op,nn)].length)=k by simp;omega];exact hO hp e)⟩,gZ⟩
   .exact Zwk
   exact Zj
  have hq:(l,sz,en)=R:=(by cases en with|true=>exact hT rfl|false=>(have h8:¬((l.length:Int)<8):=(by have h9:(decide ((l.length:Int)<8)&& !false)=false:=hc4;rw[Bool.not_false,Bool.and_true]at h9;exact of_decide_eq_false h9);have hF:=hF rfl;rw[show 8 - l.length=0 by omega]at hF;exact Hh hF));refine Z_4 ?_;refine bJ ((⟨(l,sz,en),A1,c1⟩:(List (Int×Int)×Nat×Bool)×Option Addr×Nat)) ?_ ?_ ?_
  .exact⟨hq,hsz⟩
  .exact Zwk
  exact Zj
 rintro⟨⟨l,sz,en⟩,A1,c1⟩ ⟨rfl,hsz⟩;dsimp only at hsz|-;have htl:(b.take sz).length=sz:=(by rw[aI];omega);refine Z_4 ?_;refine Zy (fH sz rfl Zrf (Zv rfl) (Zv rfl) AH Wq2) ?_;refine ZSn (λw hi=>MK A sz c (b.take sz) w (by have h9:=kp (h.RU hi) sz;rw[htl]at h9;exact h9) Wq1) ?_;rintro _ _ ⟨A9,c9,rfl,rfl⟩;refine gP ?_;refine Z_3 ?_;refine Wq309 ?_;refine ZR ?_;refine lv ?_;exact bG (row b3 [.slice A9 sz c9,.bool en] 208::[slv 71 2 A1 l.length c1 (l.flatMap IZ),sl .u8 5 A9 sz c9 (b.take sz)]) Zj (retTC (cs':=[slv 71 2 A1 l.length c1 (l.flatMap IZ),sl .u8 5 A9 sz c9 (b.take sz)]) (.inl rfl) (List.Sublist.cons _ (aR _)) rfl rfl rfl Zh Zrf Zrf ⟨A1,c1,⟨⟨b.take sz,en⟩,A9,c9⟩,rfl,by show _=Value.tuple #[_,.agg (RS.cells ⟨⟨b.take sz,en⟩,A9,c9⟩).toArray];unfold RS.cells;dsimp only;rw[htl],by unfold rsC;dsimp only;rw[htl]⟩)
def lF(n:Nat)(m from_:Int):Nat->(St×Mmu×Dev)×Eng->(St×Mmu×Dev)×Eng
 |0,q=>q
 |k+1,q=>bif fc m from_ q.1.1 then lF n m from_ k (doE n q.1.1 q.1.2.1 q.1.2.2 q.2)else q
def N6(n:Nat)(m:Int)(s:St)(U:Mmu)(d:Dev)(E:Eng):(St×Mmu×Dev)×Eng:=lF n m s.count m.toNat ((s,U,d),E)
theorem vc{n k:Nat}{m from_:Int}{q:(St×Mmu×Dev)×Eng}(h:fc m from_ q.1.1=false):lF n m from_ k q=q:=by
 cases k with
 |zero=>rfl
 |succ k=>
  unfold lF;rw[h]
  rfl
theorem BF{n k:Nat}{m from_:Int}{q:(St×Mmu×Dev)×Eng}(h:fc m from_ q.1.1=true):lF n m from_ (k+1) q=lF n m from_ k (doE n q.1.1 q.1.2.1 q.1.2.2 q.2):=by
 rw[lF,h]
 rfl
theorem CN{n:Nat}{s:St}{U:Mmu}{d:Dev}(h:GOk n s U d):GOk n (dw n s U d).1 (dw n s U d).2.1 (dw n s U d).2.2:=by
 rcases sr h with h1|⟨-, -,h3, -⟩
 .exact h1.g
 exact h3
theorem Gs.trans{E E1 E2:Eng}{c1 c2:Nat}(h1:Gs E E1 c1)(h2:Gs E1 E2 c2):Gs E E2 (c1+c2):=⟨λa b c=>by
 obtain⟨x1,x2,x3,x4⟩:=h1.Sl a b Wq1;obtain⟨y1,y2,y3,y4⟩:=h2.Sl x1 x2 Wq1;exact⟨y1,y2,by omega,by omega⟩,h2.room.trans h1.room⟩
theorem Gs.zero(E:Eng):Gs E E 0:=⟨λa b _=>⟨a,b,by omega,Int.le_refl _⟩,rfl⟩
theorem BE{n:Nat}(hn:n<=1000000){m f:Int}:∀(k:Nat) {q:St×Mmu×Dev} {E:Eng},GOk n q.1 q.2.1 q.2.2->gL E->
  (lF n m f k (q,E)).1=mb n m f k q/\gL (lF n m f k (q,E)).2/\GOk n (mb n m f k q).1 (mb n m f k q).2.1 (mb n m f k q).2.2/\
  ∃c:Nat,c<=8*k/\Gs E (lF n m f k (q,E)).2 c/\(mb n m f k q).1.count=IntKind.u64.wrap (q.1.count+(c:Int))
 |0,q,E,h,hE=>⟨rfl,hE,h,0,aL _,.zero E,by have:=h.wf.count;show q.1.count=IntKind.u64.wrap (q.1.count+0);rw[aK];omega⟩
 |k+1,q,E,h,hE=>by
  cases hc:fc m f q.1 with
  |false=>
   rw[vc (q:=(q,E)) hc,lE hc];exact⟨rfl,hE,h,0,au _,.zero E,by have:=h.wf.count;show q.1.count=IntKind.u64.wrap (q.1.count+0);rw[aK];omega⟩
  |true=>
   rw[BF (q:=(q,E)) hc,tT hc];obtain⟨d1,d2,c,d3,d4,d5⟩:=Ru hn h hE;have hg:=CN h;dsimp only;obtain⟨⟨q1,E1⟩,hz⟩:=Zgn (doE n q.1 q.2.1 q.2.2 E);rw[hz]at d1 d2 d4|-;dsimp only at d1 d2 d4;rw[<-d1]at d5 hg|-;obtain⟨r1,r2,r3,c',r4,r5,r6⟩:=BE hn (m:=m) (f:=f) k hg d2;refine⟨r1,r2,r3,c+c',by omega,d4.trans r5,?_⟩;rw[r6,d5,nT,show(c:Int)+(c':Int)=((c+c':Nat):Int) by omega]
theorem DD{n:Nat}(hn:n<=1000000)(m:Int){s:St}{U:Mmu}{d:Dev}{E:Eng}(h:GOk n s U d)(hE:gL E):
  (N6 n m s U d E).1=fZ n m s U d/\gL (N6 n m s U d E).2/\GOk n (fZ n m s U d).1 (fZ n m s U d).2.1 (fZ n m s U d).2.2/\
  ∃c:Nat,c<=8*m.toNat/\Gs E (N6 n m s U d E).2 c/\(fZ n m s U d).1.count=IntKind.u64.wrap (s.count+(c:Int)):=BE hn m.toNat (q:=(s,U,d)) h hE
end
end Go.Ink
