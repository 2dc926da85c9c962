/- Lemmas. -/
import Derived.Test.YtepfimeihngjoaaGreatDoorXah
import Derived.Test.YtepfimeihngjoaaGreatDoorXai
import Derived.Test.YtepfimeihngjoaaGreatDoorXaj
set_option linter.all false
set_option maxRecDepth 100000
set_option maxHeartbeats 4000000
namespace Go.Ink
open List renaming length→J, replicate→R9
open IntKind renaming wrap→V9
open Go.RowKit Go.Proofs.Tryz
variable{j:Nat}{b:Bool}
section
attribute [local irreducible] Ve bN
variable{n k:Nat}
theorem K5(bp:Nat)(B ow pr:Li)(hl:eV B ow pr)(o n:Nat)(ho:o<4)(hn0:1<=n)(hn:n<=64)(h1:pr[o]? =some (-1))(hs:(n:Int)+nv pr 4<=240)(hb:∀x,x∈pr->x<=1000):CI prog 113 [.p bp,.i o,.i n] [ft bp B ow pr] (λv cs=>∃bt bf bg,v= .tuple #[.p bt,.i 0]/\cs=[ft bp B ow (pr.set o n),lU bt bp o bf bg n,YD bf n (R9 n (-1)),gdC bg n (R9 n false)]):=λw hi=>by
 refine Vb func113 ntmps113 hi ?_;refine jS ?_;refine U8 ?_;refine cK I (bZ) (Va ?_);refine Vq ([ft bp B ow pr]) (λw hi hin=>Hv bp B ow pr hl o n ho hn h1 hs hb w hin) ?_;refine U8 ?_;refine lN ?_;refine UN ?_;refine jf ?_;refine CA ?_;refine ZE 4 ?_;refine pS 3 5 Zk ?_ ?_
 .refine jm I I (j9 (bytes:=8) (n:=n) I I I I I I I O gD) ZJ I ?_;rintro _ _ ⟨b39,rfl,rfl⟩;refine cP 5 Zk (jm I I (j9 (bytes:=1) (n:=n) I I I I I I I O gD) ZJ I ?_);rintro _ _ ⟨b41,rfl,rfl⟩;refine ZE 6 ?_;refine iK ?_;refine wZ ?_;rintro _ _ ⟨b43,rfl,rfl⟩;refine ZE 8 ?_;refine fh ?_;refine Wq104 ?_;rintro k hk;refine UH ?_ ?_<;>intro hc8
  .exact Wx44_
  simp only[aa]at hc8;obtain rfl:k=n:=by omega
  exact Wq414
 refine jm I I (j9 (bytes:=1) (n:=n) I I I I I I I O gD) ZJ I ?_;rintro _ _ ⟨b41,rfl,rfl⟩;refine cP 3 Zk (jm I I (j9 (bytes:=8) (n:=n) I I I I I I I O gD) ZJ I ?_);rintro _ _ ⟨b39,rfl,rfl⟩;refine ZE 6 ?_;refine iK ?_;refine wZ ?_;rintro _ _ ⟨b43,rfl,rfl⟩;refine ZE 8 ?_;refine fh ?_;refine Wq104 ?_;rintro k hk;refine UH ?_ ?_<;>intro hc8
 .exact Wx44_
 simp only[aa]at hc8;obtain rfl:k=n:=by omega
 exact Wq414
variable{L:fF}
variable{tu:List Bool}
theorem BJ:((fC L tu).drop 2).take (J (lH tu))=lH tu:=by
 unfold fC;simp
theorem zo(h:J tu=64):(fC L tu).take 2++R9 64 (Value.bool false)++(fC L tu).drop (2+64)=fC L (R9 64 false):=by
 grind [fC,lH,mq,yZ]
def ee(tu:List Bool)(k:Nat):List Int:=((List.range k).filter (λf=>tu.getD f false)).map (λf:Nat=>(f:Int))
theorem oe(tu:List Bool)(k:Nat):ee tu (k+1)=ee tu k++(bif tu.getD k false then[(k:Int)]else[]):=by
 grind [ee,List.range_succ,Bool.false_eq_true]
theorem ES(tu:List Bool)(k:Nat):J (ee tu k)<=k:=by
 grind [ee]
theorem Cd(M:UO)(l:Li):∀k,k<=J l->J l<=J M.data->(M.fill 0 l k).data=l.take k++M.data.drop k
 |0,_,_=>by simp[UO.fill]
 |k+1,h,h2=>by
  have ih:=Cd M l k O h2;rw[UO.fill];show(M.fill 0 l k).data.set (0+k) (gB l k)=_
  grind [gB,tf,List.set_append_right,List.length_take,min,List.drop_eq_getElem_cons,List.take_add_one,List.append_assoc]
theorem UO.UA{b:Li}(h:J b<=n*64):((UO.new n).fill 0 b (J b)).calm=UO.init n b:=by
 grind [UO.calm,UO.init,Cd,UO.new]
theorem Fj(L:fF)(M:UO)(A:Oa)(c:Nat)(l:Li)(hl:J l<=L.n*64)(hb:Vh l)(w:World)(hi:Inv w (bM [fM L M]) [fM L M] w)(hrd:∀w',dc (bM [fM L M]) w w'->Rd w' .u8 A (J l) c l):
  UW prog 115 [.p L.bm,.slice A (J l) c] w [fM L M] (λv' cs=>v'= .i 0/\cs=[fM L (M.fill 0 l (J l))]):=by
 obtain⟨n1,n64,hdl,hdb,htl⟩:=mY (hi.ok _ (bn ..));have hrw:=hrd w (dc.refl _ _);refine Vb func115 ntmps115 hi ?_;refine gP ?_;refine UZ (λw hi=>mI L M w (hi.get Zh)) ?_;refine wo ?_;refine UN ?_;refine cK I ((ao O)) (gP ?_);refine Vs (λk:Nat=>[(0,.p L.bm),(13,.slice A (J l) c),(14,.i (J l)),(15,.i (k:Int))]) (λk=>[fM L (M.fill 0 l k)]) (λk=>k<=J l) (λk=>J l - k) (0) O ?_;rintro k hk;refine UH ?_ ?_<;>intro hc4
 .simp only[ai]at hc4;have hkl:k<J l:=by omega
  have hbk:=fW hb k;obtain⟨ad,rfl⟩:=hrw.some_ O;refine US ?_;refine GA ?_;refine dZ (bO ir py) (tQ hrd (cw (tf hkl))) I (US ?_);refine Zy (cz I I (Zv I) (show V9 .u32 (k:Int)=((0+k:Nat):Int) by rw[u32_wrap_id _ O O];omega)) ?_;refine ZA ?_;refine Vq ([fM L (M.fill 0 l k)]) (λw hi hin=>ro L (M.fill 0 l k) (0+k) O (gB l k) hbk w hin) ?_;exact Xl
 simp only[aa]at hc4;obtain rfl:k=J l:=by omega
 refine gP ?_;refine VA ([Wg _ _ _ _]) ?_;exact fx
theorem KD(L:fF)(M:UO)(w:World)(h:(fM L M).ok w):UW prog 44 [.p L.bm] w [] (λv cs=>∃b,v= .slice (sA b) (J M.data) (J M.data)/\cs=[sl .u8 5 (sA b) (J M.data) (J M.data) M.data]):=by
 obtain⟨n1,n64,hdl,hdb,htl⟩:=mY h;rw[hdl];refine UV func44 ntmps44 ?_;refine Va ?_;refine UZ (λw hi=>mI L M w (bJ.old h hi)) ?_;refine gS (j9 (bytes:=1) (n:=L.n*64) I I I I I I I O gD) I ?_;rintro _ _ ⟨b7,rfl,rfl⟩;rw[px,<-Gi M.data 0 (L.n*64)];refine fR ?_;refine Vs (λk:Nat=>[(0,.p L.bm),(3,.slice (sA b7) (L.n*64) (L.n*64)),(9,.i (L.n*64:Nat)),(10,.i (k:Int))]) (λk=>[sl .u8 5 (sA b7) (L.n*64) (L.n*64) (cpy M.data 0 (L.n*64) k)]) (λk=>k<=L.n*64) (λk=>L.n*64 - k) (0) O ?_;rintro k hk;refine UH ?_ ?_<;>intro hc3
 .simp only[ai]at hc3;have hpk:0+k<L.n*64:=by omega
  refine nW ?_;refine Zy (cz I I (Zv I) (show V9 .u32 (k:Int)=((0+k:Nat):Int) by rw[u32_wrap_id _ O O];omega)) ?_;refine UZ (λw hi=>yU L M (0+k) hpk w (bJ.old h hi)) ?_;refine Yj ?_;refine UR ?_;rw[eK,MU _ _ O];exact Xl
 simp only[aa]at hc3;obtain rfl:k=L.n*64:=by omega
 rw[MV O,List.drop_zero,List.take_of_length_le O];refine fR ?_;refine VA ([slv _ _ _ _ _ _]) ?_;exact⟨b7,I,I⟩
theorem rj(L:fF)(M:UO)(w:World)(h:(fM L M).ok w):UW prog 73 [.p L.bm] w [] (λv cs=>∃A c,v= .slice A (J (ee M.SX 64)) c/\cs=[sl .i64 3 A (J (ee M.SX 64)) c (ee M.SX 64)]):=by
 obtain⟨n1,n64,hdl,hdb,htl⟩:=mY h;obtain⟨k0,hr0,h1,h2,h3,h4⟩:=qp h;refine UV func73 ntmps73 ?_;refine oO ?_;refine dZ (bX (vs:=lH M.SX) ir (λw=>by rw[mq,htl];rfl) (Zv rfl)) (oE (o:=2) h4 BJ) rfl (dB 3 1 (UK ?_));refine Vs (λs:Nat×Option Addr×Nat=>[(0,.p L.bm),(3,.slice s.2.1 (J (ee M.SX s.1)) s.2.2),(9,.agg (lH M.SX).toArray),(10,.i (s.1:Int))]) (λs=>[sl .i64 3 s.2.1 (J (ee M.SX s.1)) s.2.2 (ee M.SX s.1)]) (λs=>s.1<=64) (λs=>64 - s.1) ((0,none,0)) O ?_;rintro⟨k,A1,c1⟩ hk;simp only at hk;dsimp only;refine UH ?_ ?_<;>intro hc3
 .simp only[ai]at hc3;have hle:=ES M.SX k;refine US ?_;refine Zy (EH (j:=k) I ir ir (Zv I) (Zv I) UL UL (λ_=>IJ (show k<J M.SX by omega))) ?_;refine Wc ?_ ?_<;>intro hc5
  .have he:ee M.SX (k+1)=ee M.SX k++[(k:Int)]:=by rw[oe,hc5];rfl
   refine UN ?_;refine jQ ?_;rintro _ _ ⟨b17,rfl,rfl⟩;refine gS (cC (e:=3) (sz:=1) (bytes:=8) I I Za I I (λw hi=>hi.rd Zh) (jR I) gD O) I ?_;rintro _ _ ⟨A2,c2,rfl,rfl⟩;rw[show(ee M.SX k).length+1=J (ee M.SX (k+1)) by grind,show ints .i64 (ee M.SX k)++[Value.i (k:Int)]=ints .i64 (ee M.SX (k+1)) by(rw[he];exact cy _ [_])];refine j5 ?_;refine VM ((k+1,A2,c2)) O
  have he:ee M.SX (k+1)=ee M.SX k:=by(rw[oe,hc5];simp)
  rw[<-he];refine ii ?_;refine VM ((k+1,A1,c1)) O
 simp only[aa]at hc3;obtain rfl:k=64:=by omega
 refine fR ?_;exact Nq
theorem y7(L:fF)(M:UO):CI prog 133 [.p L.bm] [fM L M] (λv cs=>v= .tuple #[]/\cs=[fM L M.calm]):=λw hi=>by
 refine ctr_E hi λk hr hi'=>?_
 have htl:=hr.tl;refine xQ func133 I ntmps133 I hi' ?_;unfold Ib;refine An ?_;refine Zy (ip (vs:=R9 64 (Value.bool false)) Zk (.inr ⟨_,_,_,I,λ_=>I⟩)) ?_;refine An ?_;refine eA (gb (n:=64) ir I I (λu hu=>by rw[List.eq_of_mem_replicate hu];rfl) Za (az) (by rw[sF htl,az];omega)) ?_;refine UR ?_;rw[az,zo htl];refine Zn (io (cs':=[row _ _ _,row _ _ _,slv _ _ _ _ _ _,slv _ _ _ _ _ _,row _ _ _]) (.inr I) Zu I ?_);exact⟨I,k,hr.calm,I⟩
theorem Kp(bp bt:Nat)(w:World):UW prog 114 [.p bp,.p bt] w [] (λv cs=>∃bm,v= .tuple #[.p bm,.i 0]/\cs=[BI ⟨bp,bt,0,0,bm,0,0,[],[],[]⟩ (R9 64 false)]):=by
 refine UV func114 ntmps114 ?_;refine wD ?_;refine lN ?_;refine US ?_;refine ZO λb15=>?_
 refine UQ ?_;exact wB (cs':=[row _ _ _]) (.inl I) Zu I I I ⟨_,I,I⟩
theorem JX(w:World):UW prog 134 [] w [] (λx cs=>∃bb,x= .p bb/\cs=[CO bb cX]):=by
 refine UV func134 ntmps134 ?_;refine US ?_;refine Zy (ip (vs:=dG cX) Zk (.inl ⟨_,I,I⟩)) ?_;refine ZO λb2=>?_
 exact NG
theorem J0(bb:Nat)(T:List TE)(hT:J T=16):CI prog 327 [.p bb] [CO bb T] (λx cs=>x= .tuple #[]/\cs=[CO bb cX]):=λw hi=>by
 refine Vb func327 ntmps327 hi ?_;refine An ?_;refine Zy (ip (vs:=dG cX) Zk (.inr ⟨_,_,_,I,λ_=>I⟩)) ?_;refine An ?_;refine eA (gb (n:=64) ir I I (jR Zk) Za Zk (by rw[eG,eG,hT];decide)) ?_;refine UR ?_;rw[show(dG cX).length=64 by kernel_rfl,List.take_zero,aR,List.drop_eq_nil_of_le (by rw[eG,hT];decide),aD];exact WZ
variable{va:Nat}
theorem J2(T:List TE)(va:Nat):J (pv T va)=J T:=by grind [pv,xl]
theorem BF(bm:Nat)(w:World):UW prog 88 [.p bm] w [] (λv cs=>∃bu bb,v= .tuple #[.p bu,.i 0]/\cs=[CO bb cX,JH bu bm bb]):=by
 refine UV func88 ntmps88 ?_;refine mv ?_;refine j6 ?_;refine Vl (λw hi=>JX w) ?_;rintro _ _ ⟨bb,rfl,rfl⟩;refine ZA ?_;refine ZO λb9=>?_
 refine UQ ?_;exact wB (cs':=[row _ _ _,row _ _ _]) (.inl I) Zu I I I pP
end
end Go.Ink
namespace Go.Ink
open List renaming length→J, replicate→R9
open IntKind renaming wrap→V9
open Go.RowKit Go.Proofs.Tryz
section
attribute [local irreducible] Ve bN
theorem LR(w:World):UW prog 136 [] w [] (λv cs=>∃b,v= .p b/\cs=[rE b 0 0]):=by
 refine UV func136 ntmps136 ?_;refine Va ?_;refine ZO λb2=>?_
 exact NG
theorem JY(w:World):UW prog 137 [] w [] (λv cs=>∃b,v= .p b/\cs=[On b 0]):=by
 refine UV func137 ntmps137 ?_;refine Va ?_;refine ZO λb2=>?_
 exact NG
theorem MW(w:World):UW prog 138 [] w [] (λv cs=>∃b,v= .p b/\cs=[zP b none 0 0 none 0 0]):=by
 refine UV func138 ntmps138 ?_;refine Va ?_;refine ZO λb2=>?_
 exact NG
theorem MM(A:Oa)(c:Nat)(l:Li)(hl:J l<=1024)(w:World)(h:Rd w .u8 A (J l) c l):UW prog 135 [.slice A (J l) c] w [] (λv cs=>∃b bd,v= .tuple #[.p b,.i 0]/\cs=[N1 b bd,Cj bd (ph l)]):=by
 refine UV func135 ntmps135 ?_;refine kF ?_;refine cK I ((ao O)) (UK ?_);refine gS (j9 (bytes:=1) (n:=1024) I I I I I I I O gD) I ?_;rintro _ _ ⟨b8_,rfl,rfl⟩;rw[px];refine ZA ?_;refine ZO λb10=>?_
 refine eL ?_;refine Ra ?_;rintro _ _ ⟨rfl,rfl⟩;have hd:(ints .u8 (R9 1024 0)).take 0++(ints .u8 l).take (min (J l) 1024)++(ints .u8 (R9 1024 0)).drop (0+min (J l) 1024)=ints .u8 (ph l):=by(rw[Nat.min_eq_left hl,i7,i7,nO,List.take_zero,List.take_length,bC,List.drop_replicate];simp[ints,ph])
 rw[hd];refine eL ?_;exact bK [N1 b10 b8_,Cj b8_ (ph l)] Zj (wB (cs':=[row _ _ _,slv _ _ _ _ _ _]) (.inl I) Zu I I I pP)
theorem nV(A:Oa)(n c:Nat)(xs:Li)(w:World)(h:Rd w .u8 A n c xs)(hn:n<=140737488355328):UW prog 102 [.slice A n c] w [] (λv cs=>∃A' c',v= .slice A' n c'/\cs=[sl .u8 5 A' n c' xs]):=by
 refine UV func102 ntmps102 ?_;refine fR ?_;refine ZW ?_ ?_<;>intro hc1
 .obtain rfl:A=none:=by simpa using hc1
  obtain⟨rfl,rfl⟩:=h.nil I;obtain rfl:xs=[]:=by have:=h.len;simpa[ints]using this
  refine An ?_;refine dB 5 1 (UQ ?_);exact Nq
 refine UK ?_;refine jQ ?_;rintro _ _ ⟨b5,rfl,rfl⟩;exact Wq288
theorem LA(a b:Int)(w:World):CW prog 318 [.w a,.w b] w (.w (kb a b)):=by
 refine UV func318 ntmps318 ?_;refine U8 ?_;refine sa ?_;refine UU ?_;refine UZ (λw hi=>zf _ w) ?_;refine yh ?_ ?_<;>intro hc3
 .refine jS ?_;refine ZW ?_ ?_<;>intro hc5
  .refine qO ?_;refine⟨?_,I⟩;exact QZ
  refine jP ?_;refine⟨?_,I⟩;exact QZ
 refine oO ?_;refine ZW ?_ ?_<;>intro hc5
 .refine qO ?_;refine⟨?_,I⟩;exact QZ
 refine jP ?_;refine⟨?_,I⟩;exact QZ
theorem more_ok(a b:Int)(w:World):CW prog 317 [.w a,.w b] w (.w (nR a b)):=by
 refine UV func317 ntmps317 ?_;refine U8 ?_;refine kZ ?_;refine UU ?_;refine UZ (λw hi=>zf _ w) ?_;refine yh ?_ ?_<;>intro hc3
 .refine jS ?_;refine ZW ?_ ?_<;>intro hc5
  .refine qO ?_;refine⟨?_,I⟩;exact QY
  refine jP ?_;refine⟨?_,I⟩;exact QY
 refine oO ?_;refine ZW ?_ ?_<;>intro hc5
 .refine qO ?_;refine⟨?_,I⟩;exact QY
 refine jP ?_;refine⟨?_,I⟩;exact QY
theorem ado_ok(op a b:Int)(hb:0<=b)(w:World):CW prog 256 [.i op,.w a,.w b] w (.tuple #[.w (hI op a b).1,.w (hI op a b).2.1,.bool (hI op a b).2.2]):=by
 refine UV func256 ntmps256 ?_;refine jS ?_;refine Wh ?_ ?_<;>intro hc4
 .refine UK ?_;refine kZ ?_;refine An ?_;refine UZ (λw hi=>more_ok a b w) ?_;refine Va ?_;exact W6
 refine UH ?_ ?_<;>intro hc6
 .refine UK ?_;refine sa ?_;refine An ?_;refine UZ (λw hi=>LA a b w) ?_;refine Va ?_;exact W6
 refine UH ?_ ?_<;>intro hc8
 .refine UK ?_;refine UZ (λw hi=>LA a b w) ?_;refine Va ?_;exact W6
 refine UH ?_ ?_<;>intro hc10
 .refine fR ?_;exact Xk
 refine UH ?_ ?_<;>intro hc12
 .refine fR ?_;exact Xk
 refine UH ?_ ?_<;>intro hc14
 .refine fR ?_;exact Xk
 refine UH ?_ ?_<;>intro hc16
 .exact Wx98_
 refine UH ?_ ?_<;>intro hc18
 .exact Wx98_
 refine UH ?_ ?_<;>intro hc20
 .refine UN ?_;refine Zy (fT py py I) ?_;refine Va ?_;exact Xk
 refine UH ?_ ?_<;>intro hc22
 .refine VJ ?_ ?_<;>intro hc23
  .refine gP ?_;exact W6
  have hb0:b≠0:=by simpa using hc23
  refine UQ ?_;refine Zy (kf (Zv I) (Zv I) O (by first|exact IntWalk.u32_quo _ _ ⟨by omega,by omega,by omega⟩|exact rfl)) ?_;refine Va ?_;exact Xk
 refine eL ?_;exact W6
end
end Go.Ink
namespace Go.Ink
open List renaming length→J
open IntKind renaming wrap→V9
open Go.RowKit Go.Proofs.Tryz
set_option maxHeartbeats 1000000
variable{r:Int}
variable{n:Int}
section
attribute [local irreducible] Ve bN
theorem Sz{n v p:Nat}(h:oa n v (p:Int))(hn:n<=64):(!decide (p+1<=n*64))=decide ((32768:Int)<=(p:Int)):=by
 rcases h.r with h1|h1
 .rw[ap (show p+1<=n*64 by omega),ao O];rfl
 unfold iG at h1;simp only[ay,ai]at h1;rw[ao (show¬(p+1<=n*64) by omega),ap h1.1];rfl
end
end Go.Ink
namespace Go.Ink
open List renaming length→J
open IntKind renaming wrap→V9
open Go.RowKit
variable{a:Nat}
variable{b:Nat}
section
variable{C l:List HI}{k:Nat}{R W:Li}{M:HM}{i:HI}
variable{j:Nat}
variable{v:Int}
theorem de(hj:j<J R):(R.set j v).getD j 0=v:=by
  grind
theorem cM{i:Nat}(h:i≠j):(R.set i v).getD j 0=R.getD j 0:=by
  grind
theorem la.set(R:Li)(j:Nat)(v:Int){e:List Nat}(hj:j∈e):la e R (R.set j v):=λi hi=>cM (λh=>hi (h▸hj))
variable{rd:Nat}
theorem UP.li(h:UP C k (⟨1,(rd:Int),0,0,v⟩::l) R W M):UP C (k+1) l (R.set rd v) W M:=
  h.on rfl (by simp[h.rl]) h.wl h.code.2.2
theorem UP.op{op:Int}{rd ra rb:Nat}{v:Int}(h:UP C k (⟨op,(rd:Int),(ra:Int),(rb:Int),0⟩::l) R W M)(h2:2<=op)(h13:op<=13)(hv:kT op (R.getD ra 0) (R.getD rb 0)=v):UP C (k+1) l (R.set rd v) W M:=by
  refine h.on ?_ (by simp[h.rl]) h.wl h.code.2.2;unfold Wr
  grind [kT,Int.toNat_natCast]
variable{ra:Nat}
theorem UP.mov(h:UP C k (⟨2,(rd:Int),(ra:Int),0,0⟩::l) R W M):UP C (k+1) l (R.set rd (R.getD ra 0)) W M:=
  UP.op (rb:=0) h ne ne rfl
theorem UP.ld{p:Nat}{im:Int}(h:UP C k (⟨14,(rd:Int),(ra:Int),0,im⟩::l) R W M)(hp:V9 .u64 (R.getD ra 0+im)=(p:Int))(hp2:p<256):UP C (k+1) l (R.set rd (W.getD p 0)) W M:=by
  refine h.on ?_ (by simp[h.rl]) h.wl h.code.2.2;have e:qs R ⟨14,(rd:Int),(ra:Int),0,im⟩=(p:Int):=hp;unfold Wr;dsimp only;rw[e,show decide ((J W:Int)<=(p:Int))=false from ao (by rw[h.wl];omega)]
  rfl
theorem UP.st{rb p:Nat}{im:Int}(h:UP C k (⟨15,0,(ra:Int),(rb:Int),im⟩::l) R W M)(hp:V9 .u64 (R.getD ra 0+im)=(p:Int))(hp2:p<256)(hv:V9 .u32 (R.getD rb 0)=v):UP C (k+1) l R (W.set p v) M:=by
  refine h.on ?_ h.rl (by simp[h.wl]) h.code.2.2;have e:qs R ⟨15,0,(ra:Int),(rb:Int),im⟩=(p:Int):=hp;unfold Wr;dsimp only;rw[e,show decide ((J W:Int)<=(p:Int))=false from ao (by rw[h.wl];omega)]
  grind
end
def sI(op:Int):Int:=bif op==16 then 3 else bif op==18 then 5 else bif op==19 then 6 else bif op==20 then 7 else bif op==21 then 8 else bif op==22 then 9 else bif op==23 then 10 else 4
def zk(op:Int):Bool:=op==18||op==19||op==20||op==22
def yc(op rd a b:Int):List HI:=⟨sI op,rd,a,b,0⟩::(bif zk op then[]else Si rd)
def gf(op a b:Int):List HI:=yc op 9 a b++(⟨13,10,9,15,0⟩::(iD 11 9++wO 11 1))
def mP(op a b:Int):List HI:=gf op a b++(bif op==16 then kX a b else bif op==17||op==25 then kW a b else[])
def wC(op x y:Int):Int:=bif op==25 then V9 .u32 (x - y)else(hI op x y).1
section
variable{C l:List HI}{k:Nat}{R W:Li}{M:HM}
variable{rd:Nat}
theorem UP.low{z:Int}(h:UP C k (Si rd++l) R W M)(hz:R.getD rd 0=V9 .u64 z)(hr:rd<12):∃k' R',UP C k' l R' W M/\R'.getD rd 0=V9 .u32 z/\la [rd,12] R R':=by
 have h1:=UP.li (rd:=12) h;have hl:=h1.rl;have e1:(R.set 12 4294967295).getD rd 0=V9 .u64 z:=by rw[cM O,hz]
 have e2:(R.set 12 4294967295).getD 12 0=4294967295:=de bZ;have h2:=UP.op (rd:=rd) (ra:=rd) (rb:=12) (v:=V9 .u32 z) h1 ne ne (by rw[e1,e2];exact low64 z);refine⟨_,_,h2,de O,?_⟩;exact YX
variable{x y:Nat}
theorem uc{op:Int}(hop:(16<=op/\op<=23)\/op=25)(hx:x<4294967296)(hy:y<4294967296):∃r:Nat,wC op x y=r/\r<4294967296:=by
 have hw:∀z:Int,∃r:Nat,V9 .u32 z=r/\r<4294967296:=λz=>by
  rw[au];exact⟨(z%4294967296).toNat,by omega,by omega⟩
 have h:op=16\/op=17\/op=18\/op=19\/op=20\/op=21\/op=22\/op=23\/op=25:=by omega
 rcases h with rfl|rfl|rfl|rfl|rfl|rfl|rfl|rfl|rfl
 .exact hw _
 .exact hw _
 .exact⟨x&&&y,Nh hx hy,tZ hx⟩
 .exact⟨x|||y,or32 hx hy,Nat.or_lt_two_pow (n:=32) hx hy⟩
 .exact⟨x^^^y,GH hx hy,iV hx hy⟩
 .show∃r:Nat,di (x:Int) (y:Int) true=r/\_;unfold di;cases decide (32<=(y:Int))with
  |true=>exact⟨0,I,by decide⟩
  |false=>exact hw _
 .show∃r:Nat,di (x:Int) (y:Int) false=r/\_;unfold di;cases decide (32<=(y:Int))with
  |true=>exact⟨0,I,by decide⟩
  |false=>
   refine⟨x/2^(min y IntKind.u32.bits),?_,Nat.lt_of_le_of_lt (Nat.div_le_self _ _) hx⟩
   grind
 .exact hw _
 exact hw _
variable{ra rb:Nat}
theorem UP.alu{op:Int}(hop:(16<=op/\op<=23)\/op=25)(h:UP C k (yc op rd ra rb++l) R W M)(hrd:rd<12)(hx:R.getD ra 0=x)(hy:R.getD rb 0=y)(hx2:x<4294967296)(hy2:y<4294967296):
  ∃k' R',UP C k' l R' W M/\R'.getD rd 0=wC op x y/\la [rd,12] R R':=by
 have hl:=h.rl;have hlow:∀(o:Int) (z:Int),2<=o->o<=13->UP C k (⟨o,(rd:Int),(ra:Int),(rb:Int),0⟩::(Si rd++l)) R W M->kT o x y=V9 .u64 z->
   ∃k' R',UP C k' l R' W M/\R'.getD rd 0=V9 .u32 z/\la [rd,12] R R':=λo z h1 h2 g hz=>by
  have g1:=UP.op g h1 h2 (v:=V9 .u64 z) bZ;obtain⟨k',R',g2,g3,g4⟩:=g1.low (de O) hrd;exact⟨k',R',g2,g3,(la.set R rd _ (e:=[rd,12]) cJ).trans g4 bZ⟩
 have hno:∀(o z:Int),2<=o->o<=13->UP C k (⟨o,(rd:Int),(ra:Int),(rb:Int),0⟩::l) R W M->kT o x y=z->∃k' R',UP C k' l R' W M/\R'.getD rd 0=z/\la [rd,12] R R':=λo z h1 h2 g hz=>
  ⟨_,_,UP.op g h1 h2 (v:=z) bZ,de O,la.set R rd _ cJ⟩
 have h8:op=16\/op=17\/op=18\/op=19\/op=20\/op=21\/op=22\/op=23\/op=25:=by omega
 rcases h8 with rfl|rfl|rfl|rfl|rfl|rfl|rfl|rfl|rfl
 .exact hlow 3 _ ne ne h I
 .exact hlow 4 _ ne ne h I
 .exact hno 5 _ ne ne h (show bits .and .u64 (x:Int) (y:Int)=bits .and .u32 (x:Int) (y:Int) by grind [Ng,Nh])
 .exact hno 6 _ ne ne h (show bits .or .u64 (x:Int) (y:Int)=bits .or .u32 (x:Int) (y:Int) by grind [or64,or32])
 .exact hno 7 _ ne ne h (show bits .xor .u64 (x:Int) (y:Int)=bits .xor .u32 (x:Int) (y:Int) by grind [GG,GH])
 .obtain⟨k',R',g1,g2,g3⟩:=hlow 8 _ ne ne h I;exact⟨k',R',g1,g2.trans shl64,g3⟩
 .exact hno 9 _ ne ne h (shr64 hx2)
 .exact hlow 10 _ ne ne h I
 exact hlow 4 _ ne ne h I
theorem UP.bit{up s c s':Int}(h:UP C k (wO 11 up++l) R W M)(hs:R.getD 10 0=s)(hc:R.getD 11 0=c)(h':bits .or .u64 s (V9 .u64 (c*2^(min up.toNat IntKind.u64.bits)))=s'):
  ∃k' R',UP C k' l R' W M/\R'.getD 10 0=s'/\la [10,11,12] R R':=by
 have hl:=h.rl;have h1:=UP.li (rd:=12) h;have h2:=UP.op (rd:=11) (ra:=11) (rb:=12) (v:=V9 .u64 (c*2^(min up.toNat IntKind.u64.bits))) h1 ne ne (by rw[cM ne,hc,de O];rfl);have h3:=UP.op (rd:=10) (ra:=10) (rb:=11) (v:=s') h2 ne ne (by rw[cM ne,cM ne,hs,de bZ];exact h');refine⟨_,_,h3,de bZ,?_⟩;exact((la.set R 12 _ (e:=[10,11,12]) cJ).trans (la.set _ 11 _ (e:=[10,11,12]) cJ) (e2:=[10,11,12]) bZ).trans (la.set _ 10 _ (e:=[10,11,12]) cJ) bZ
theorem UP.signed{r:Nat}(h:UP C k (iD rd r++l) R W M)(hrd:rd<12)(hr:r<12)(hx:R.getD r 0=x)(hx2:x<4294967296):∃k' R',UP C k' l R' W M/\R'.getD rd 0=Vx (decide (2147483648<=x))/\la [rd,12] R R':=by
 have hl:=h.rl;have h1:=UP.li (rd:=12) h;have h2:=UP.op (rd:=rd) (ra:=r) (rb:=12) (v:=Vx (decide (2147483648<=x))) h1 ne ne (by rw[cM O,hx,de O];exact shr31 hx2);refine⟨_,_,h2,de bZ,?_⟩;exact YX
theorem UP.flagB{op:Int}(hop:(16<=op/\op<=23)\/op=25)(h:UP C k (gf op ra rb++l) R W M)(h15:R.getD 15 0=0)(hx:R.getD ra 0=x)(hy:R.getD rb 0=y)(hx2:x<4294967296)(hy2:y<4294967296):
  ∃k' R' r,UP C k' l R' W M/\wC op x y=(r:Nat)/\r<4294967296/\R'.getD 9 0=(r:Int)/\R'.getD 10 0=Vx ((r:Int)==0)+2*Vx (decide (2147483648<=r))/\la [9,10,11,12] R R':=by
 obtain⟨r,hr,hr2⟩:=uc hop hx2 hy2;have h:UP C k (yc op 9 ra rb++(⟨13,10,9,15,0⟩::(iD 11 9++(wO 11 1++l)))) R W M:=by
  have:gf op ra rb++l=yc op 9 ra rb++(⟨13,10,9,15,0⟩::(iD 11 9++(wO 11 1++l))):=by unfold gf;exact QV
  rwa[this]at h
 obtain⟨k1,R1,g1,g2,g3⟩:=UP.alu (rd:=9) hop h ne hx hy hx2 hy2;rw[hr]at g2;have g4:=UP.op (rd:=10) (ra:=9) (rb:=15) (v:=Vx ((r:Int)==0)) g1 ne ne (by rw[g2,g3 15 ne,h15];rfl);obtain⟨k2,R2,p1,p2,p3⟩:=UP.signed (rd:=11) (r:=9) (x:=r) g4 ne ne bZ hr2;have e10:R2.getD 10 0=Vx ((r:Int)==0):=by rw[p3 10 ne,de (by rw[g1.rl];decide)]
 obtain⟨k3,R3,q1,q2,q3⟩:=UP.bit p1 e10 p2 (Gs ((r:Int)==0) (decide (2147483648<=r)) false false).1;have e9:R3.getD 9 0=(r:Int):=by rw[q3 9 ne,p3 9 ne,cM ne,g2]
 refine⟨k3,R3,r,q1,hr,hr2,e9,q2,?_⟩;intro j hj;simp only[aI,aY,or_false,not_or]at hj;rw[q3 j ig,p3 j ig,cM O,g3 j ig]
theorem UP.flagE{p q c:Bool}{u v:Nat}(h:UP C k (ic++l) R W M)(h10:R.getD 10 0=Vx p+2*Vx q+4*Vx c)(h11:R.getD 11 0=u)(h12:R.getD 12 0=v)(hu:u<4294967296)(hv:v<4294967296):
  ∃k' R',UP C k' l R' W M/\R'.getD 10 0=Vx p+2*Vx q+4*Vx c+8*Vx (decide (2147483648<=u&&&v))/\la [10,11,12] R R':=by
 have g1:=UP.op (rd:=11) (ra:=11) (rb:=12) (v:=((u&&&v:Nat):Int)) (l:=iD 11 11++(wO 11 3++l)) (by
  have:ic++l=⟨5,11,11,12,0⟩::(iD 11 11++(wO 11 3++l)):=by unfold ic;exact QV
  rw[this]at h;exact h) ne ne (by rw[h11,h12];exact Ng O O)
 obtain⟨k2,R2,p1,p2,p3⟩:=UP.signed (rd:=11) (r:=11) (x:=u&&&v) g1 ne ne (de (by rw[h.rl];decide)) (tZ hu);obtain⟨k3,R3,q1,q2,q3⟩:=UP.bit p1 (show R2.getD 10 0=_ by rw[p3 10 ne,cM ne,h10]) p2 (Gs p q c (decide (2147483648<=u&&&v))).2.2;refine⟨k3,R3,q1,q2,?_⟩;intro j hj;simp only[aI,aY,or_false,not_or]at hj;rw[q3 j ig,p3 j ig,cM O]
theorem UP.flag{op:Int}(hop:(16<=op/\op<=23)\/op=25)(h:UP C k (mP op ra rb++l) R W M)(ha:ra<9)(hb:rb<9)(h15:R.getD 15 0=0)(hx:R.getD ra 0=x)(hy:R.getD rb 0=y)(hx2:x<4294967296)(hy2:y<4294967296):
  ∃k' R',UP C k' l R' W M/\R'.getD 10 0=(hI op x y).2.1/\la [9,10,11,12] R R':=by
 have h:UP C k (gf op ra rb++((bif op==16 then kX ra rb else bif op==17||op==25 then kW ra rb else[])++l)) R W M:=by
  have:mP op ra rb++l=gf op ra rb++((bif op==16 then kX ra rb else bif op==17||op==25 then kW ra rb else[])++l):=by unfold mP;rw[aw]
  rwa[this]at h
 obtain⟨k1,R1,r,g1,g2,g3,g4,g5,g6⟩:=UP.flagB hop h h15 hx hy hx2 hy2;have ex:R1.getD ra 0=x:=by rw[g6 ra ig,hx]
 have ey:R1.getD rb 0=y:=by rw[g6 rb ig,hy]
 have hsub:∀op',wC op' x y=(r:Nat)->wC op' x y=V9 .u32 ((x:Int) - y)->UP C k1 (kW ra rb++l) R1 W M->∃k' R',UP C k' l R' W M/\R'.getD 10 0=kb x y/\la [9,10,11,12] R R':=λop' e1 e2 g=>by
  have g:UP C k1 (⟨12,11,(ra:Int),(rb:Int),0⟩::(wO 11 2++(⟨7,11,(ra:Int),(rb:Int),0⟩::⟨7,12,(ra:Int),9,0⟩::(ic++l)))) R1 W M:=by
   have:kW ra rb++l=⟨12,11,(ra:Int),(rb:Int),0⟩::(wO 11 2++(⟨7,11,(ra:Int),(rb:Int),0⟩::⟨7,12,(ra:Int),9,0⟩::(ic++l))):=by unfold kW;exact QV
   rwa[this]at g
  have a1:=UP.op (rd:=11) (ra:=ra) (rb:=rb) (v:=Vx (decide ((x:Int)<y))) g ne ne (by rw[ex,ey];rfl);obtain⟨k2,R2,b1,b2,b3⟩:=UP.bit a1 (show(R1.set 11 _).getD 10 0=_ by grind) (de (by rw[g1.rl];decide)) (Gs ((r:Int)==0) (decide (2147483648<=r)) (decide ((x:Int)<y)) false).2.1;have c1:=UP.op (rd:=11) (ra:=ra) (rb:=rb) (v:=((x^^^y:Nat):Int)) b1 ne ne (by rw[b3 ra ig,b3 rb ig,cM O,cM O,ex,ey];exact GG O O);have c2:=UP.op (rd:=12) (ra:=ra) (rb:=9) (v:=((x^^^r:Nat):Int)) c1 ne ne (by rw[cM O,cM ne,b3 ra ig,b3 9 ne,cM O,cM ne,ex,g4];exact GG O O);obtain⟨k3,R3,d1,d2,d3⟩:=UP.flagE (p:=(r:Int)==0) (q:=decide (2147483648<=r)) (c:=decide ((x:Int)<y)) c2 bZ (by simp[cM,de,b1.rl]) (de (by simp[b1.rl])) (iV hx2 hy2) (iV hx2 g3);refine⟨k3,R3,d1,?_,?_⟩
  .rw[d2];unfold kb;rw[<-e2,e1,jy g3,vM,GH hx2 hy2,GH hx2 g3,Nh (iV hx2 hy2) (iV hx2 g3),Yw (tZ (iV hx2 hy2))]
  exact Wx69_
 have hno:∀op',wC op' x y=(r:Nat)->UP C k1 l R1 W M->(hI op' x y).2.1=dw (wC op' x y)->∃k' R',UP C k' l R' W M/\R'.getD 10 0=(hI op' x y).2.1/\la [9,10,11,12] R R':=λop' e1 g e2=>
  ⟨k1,R1,g,by grind [jy],g6⟩
 have h8:op=16\/op=17\/op=18\/op=19\/op=20\/op=21\/op=22\/op=23\/op=25:=by omega
 rcases h8 with rfl|rfl|rfl|rfl|rfl|rfl|rfl|rfl|rfl
 .have g:UP C k1 (⟨12,11,9,(ra:Int),0⟩::(wO 11 2++(⟨7,11,(ra:Int),9,0⟩::⟨7,12,(rb:Int),9,0⟩::(ic++l)))) R1 W M:=by
   have:kX ra rb++l=⟨12,11,9,(ra:Int),0⟩::(wO 11 2++(⟨7,11,(ra:Int),9,0⟩::⟨7,12,(rb:Int),9,0⟩::(ic++l))):=by unfold kX;exact QV
   have g1:UP C k1 (kX ra rb++l) R1 W M:=g1;rwa[this]at g1
  have a1:=UP.op (rd:=11) (ra:=9) (rb:=ra) (v:=Vx (decide ((r:Int)<x))) g ne ne (by rw[ex,g4];rfl);obtain⟨k2,R2,b1,b2,b3⟩:=UP.bit a1 (show(R1.set 11 _).getD 10 0=_ by grind) (de (by rw[g1.rl];decide)) (Gs ((r:Int)==0) (decide (2147483648<=r)) (decide ((r:Int)<x)) false).2.1;have c1:=UP.op (rd:=11) (ra:=ra) (rb:=9) (v:=((x^^^r:Nat):Int)) b1 ne ne (by rw[b3 ra ig,b3 9 ne,cM O,cM ne,ex,g4];exact GG O O);have c2:=UP.op (rd:=12) (ra:=rb) (rb:=9) (v:=((y^^^r:Nat):Int)) c1 ne ne (by rw[cM O,cM ne,b3 rb ig,b3 9 ne,cM O,cM ne,ey,g4];exact GG O O);obtain⟨k3,R3,d1,d2,d3⟩:=UP.flagE (p:=(r:Int)==0) (q:=decide (2147483648<=r)) (c:=decide ((r:Int)<x)) c2 bZ (by simp[cM,de,b1.rl]) (de (by simp[b1.rl])) (iV hx2 g3) (iV hy2 g3);refine⟨k3,R3,d1,?_,?_⟩
  .rw[d2];show _=nR x y;unfold nR;have e2:V9 .u32 ((x:Int)+y)=(r:Int):=g2;rw[e2,jy g3,vM,GH hx2 g3,GH hy2 g3,Nh (iV hx2 g3) (iV hy2 g3),Yw (tZ (iV hx2 g3))]
  exact Wx69_
 .exact hsub 17 g2 I g1
 .exact hno 18 g2 g1 I
 .exact hno 19 g2 g1 I
 .exact hno 20 g2 g1 I
 .exact hno 21 g2 g1 I
 .exact hno 22 g2 g1 I
 .exact hno 23 g2 g1 I
 exact hsub 25 g2 I g1
end
def rA(SW SZ:Int)(pl:Pl)(n:Int)(x:II):List HI:=
  (bif x.op==0 then[⟨1,eQ pl n 9,0,0,x.imm⟩]else
   bif x.op==1 then[⟨14,eQ pl n 9,14,0,V9 .u32 (4+SW - 1 - x.imm)⟩]else
   bif x.op==2 then[⟨14,eQ pl n 9,13,0,V9 .u32 (20+SZ - 1 - x.imm)⟩]else
   bif x.op==3 then kr pl x.a 7++(kr pl x.b 8++yc x.imm (eQ pl n 9) (eQ pl x.a 7) (eQ pl x.b 8))else
   bif x.op==4 then kr pl x.a 7++(kr pl x.b 8++(mP x.imm (eQ pl x.a 7) (eQ pl x.b 8)++[⟨2,eQ pl n 9,10,0,0⟩]))else[])++jv pl n (eQ pl n 9)
def ko(SW SZ:Int)(pl:Pl):List II->Nat->List HI
  |[],_=>[]
  |x::c,n=>rA SW SZ pl n x++ko SW SZ pl c (n+1)
def ib(op:Int):Int:=bif op==33 then 1 else bif op==34 then 1 else bif op==35 then 4 else bif op==36 then 2 else 8
def j4(op:Int):Bool:=bif op==33 then true else bif op==34 then false else true
def iJ(p:Pg)(pos:Nat):List HI:=bif p.branch !=0 then[⟨14,11,15,0,1⟩,⟨1,12,0,0,ib p.branch⟩,⟨5,11,11,12,0⟩,⟨bif j4 p.branch then 16 else 17,0,11,0,V9 .u32 ((pos+3:Nat)+2)⟩,⟨1,9,0,0,p.taken⟩]else[]
def tY(p:Pg)(pl:Pl)(pos:Nat):List HI:=
  gY p pl++(⟨1,9,0,0,p.next⟩::(iJ p (pos+J (gY p pl)+1)++(jW p pl++[⟨15,0,15,9,0⟩,⟨1,11,0,0,V9 .u32 p.count⟩,⟨15,0,15,11,36⟩,⟨19,0,0,0,1⟩])))
def jc(p:Pg)(pl:Pl):List HI:=ko p.SW p.SZ pl p.code 0++(jg pl 14 4 2 p.S9++jg pl 13 20 3 p.Ta)
def fU(p:Pg)(pl:Pl)(e:Int):List HI:=
  bif p.TR then(bif p.TZ then vz p e++(jc p pl++tY p pl (17+J (jc p pl)))else⟨1,15,0,0,0⟩::qj e 14 2 p.SW p.T5)else[⟨1,15,0,0,0⟩]
def gC(p:Pg)(pl:Pl):List HI:=fU p pl (V9 .u32 (J (fU p pl 0):Nat))++[⟨19,0,0,0,2⟩]
def Lo(pl:Pl)(R W:Li)(n:Int)(v:Int):Prop:=(pl.inR n=true->R.getD (pl.r n).toNat 0=v)/\(pl.inR n=false->W.getD (64+(pl.s n).toNat) 0=v)
section
variable{C l:List HI}{k:Nat}{R W:Li}{M:HM}{pl:Pl}
variable{n:Int}{into:Nat}
theorem UP.get{v:Int}{r:Nat}(h:UP C k (kr pl n into++l) R W M)(hh:pl.has n)(hi:into=7\/into=8)(hr:eQ pl n into=r)(h15:R.getD 15 0=0)(hv:Lo pl R W n v):
    ∃k' R',UP C k' l R' W M/\R'.getD r 0=v/\la [into] R R':=by
  obtain⟨r2,h1,h2⟩:=mO hh (into:=into) O;obtain rfl:r2=r:=by omega
  rcases h2 with⟨rfl,h3⟩|⟨h3,h4,h5⟩
  . unfold kr at h
    rw[h3]at h;have hs:0<=pl.s n/\pl.s n<128:=by rcases hh with⟨h6, -⟩|⟨-,h6⟩;rw[h3]at h6;cases h6;exact h6
    have g:=UP.ld (rd:=r2) (ra:=15) (p:=64+(pl.s n).toNat) h (AQ hs h15) O;exact⟨_,_,g,(de (by rw[h.rl];omega)).trans (hv.2 h3),la.set R _ _ cJ⟩
  unfold kr at h;rw[h4]at h;exact⟨k,R,h,by rw[<-h5];exact hv.1 h4,la.refl _ _⟩
theorem UP.To{v:Int}{r:Nat}(h:UP C k (jv pl n (eQ pl n 9)++l) R W M)(hh:pl.has n)(hr:eQ pl n 9=r)(h15:R.getD 15 0=0)(hv:R.getD r 0=v)(hv2:0<=v/\v<=4294967295):
    ∃k' W',UP C k' l R W' M/\Lo pl R W' n v/\∀j,(pl.inR n=true\/j≠64+(pl.s n).toNat)->W'.getD j 0=W.getD j 0:=by
  obtain⟨r2,h1,h2⟩:=mO hh (into:=9) O;have h1:eQ pl n 9=r2:=h1;obtain rfl:r2=r:=by omega
  unfold jv at h;rcases h2 with⟨rfl,h3⟩|⟨h3,h4,h5⟩
  . rw[h3]at h
    have hs:0<=pl.s n/\pl.s n<128:=by rcases hh with⟨h6, -⟩|⟨-,h6⟩;rw[h3]at h6;cases h6;exact h6
    have hg:eQ pl n 9=9:=by unfold eQ;rw[h3];rfl
    rw[hg]at h;have g:=UP.st (ra:=15) (rb:=9) (p:=64+(pl.s n).toNat) (v:=v) h (AQ hs h15) O (by grind [IntKind.wrap_u32]);refine⟨_,_,g,⟨λh6=>bZ,λ_=>de (by rw[h.wl];omega)⟩,λj hj=>?_⟩
    grind
  rw[h4]at h;exact⟨k,W,h,⟨λ_=>bZ,λh6=>bZ⟩,λ_ _=>I⟩
theorem Ms{op:Int}{x y:Nat}(hx:x<4294967296)(hy:y<4294967296)(hop:(16<=op/\op<=23)\/op=25):0<=(hI op x y).2.1/\(hI op x y).2.1<=15:=by
  have hb:∀b:Bool,0<=Vx b/\Vx b<=1:=λb=>by cases b<;>decide
  have hT:∀(a b r o:Int) (p q c:Bool),0<=mh a b r (Vx p+2*Vx q) c o/\mh a b r (Vx p+2*Vx q) c o<=15:=λa b r o p q c=>by
    rw[vM];grind
  have hp:∀r:Nat,r<4294967296->0<=dw r/\dw r<=15:=λr hr=>by
    grind [jy]
  have hr:=uc hop hx hy;have h8:op=16\/op=17\/op=18\/op=19\/op=20\/op=21\/op=22\/op=23\/op=25:=by omega
  obtain⟨r,hr,hr2⟩:=hr;rcases h8 with rfl|rfl|rfl|rfl|rfl|rfl|rfl|rfl|rfl
  . show 0<=nR x y/\nR x y<=15
    have hr:V9 .u32 ((x:Int)+y)=(r:Int):=hr;unfold nR;rw[hr,jy hr2];exact hT ..
  . show 0<=kb x y/\kb x y<=15
    exact YY
  . show 0<=dw (wC 18 x y)/\dw (wC 18 x y)<=15;grind
  . show 0<=dw (wC 19 x y)/\dw (wC 19 x y)<=15;grind
  . show 0<=dw (wC 20 x y)/\dw (wC 20 x y)<=15;grind
  . show 0<=dw (wC 21 x y)/\dw (wC 21 x y)<=15;grind
  . show 0<=dw (wC 22 x y)/\dw (wC 22 x y)<=15;grind
  . show 0<=dw (wC 23 x y)/\dw (wC 23 x y)<=15;grind
  show 0<=kb x y/\kb x y<=15;exact YY
end
def GD(pl:Pl)(T V:Li)(n:Nat)(R W:Li):Prop:=∀a:Nat,a<n->(n:Int)<=T.getD a 0->Lo pl R W a (V.getD a 0)
section
variable{C l:List HI}{k:Nat}{R W:Li}{M:HM}
variable{n:Nat}
theorem UP.room{base word e:Nat}{S2 Tq:Int}(h:UP C k (qj e base word S2 Tq++l) R W M)(hbase:base=13\/base=14)(hw:word=2\/word=3)(h15:R.getD 15 0=0)(hn:W.getD word 0=(n:Int))(hn2:n<=16)(h0:0<=S2/\S2<=16)(hm:0<=Tq/\Tq<=4294967295)
  (he:C.drop e=[⟨19,0,0,0,2⟩]):S2<=n/\(n:Int)<=Tq/\∃k' R',UP C k' l R' W M/\R'.getD base 0=(n:Int) - S2/\la [base,11,12] R R':=by
 have hl:=h.rl;have no:∀(R1:Li),¬UP C e [⟨19,0,0,0,2⟩] R1 W M:=λR1 g=>by have:=(UP.exit g).1;cases this
 have a1:=UP.ld (rd:=base) (ra:=15) (p:=word) h (by grind [IntKind.wrap_u64]) O;rw[hn]at a1;have a2:=UP.li (rd:=11) a1;have e11:((R.set base (n:Int)).set 11 (V9 .u32 S2)).getD 11 0=S2:=by rw[de bZ,au];omega
 have eb:((R.set base (n:Int)).set 11 (V9 .u32 S2)).getD base 0=n:=by rw[cM O,de O]
 have a3:=UP.op (rd:=12) (ra:=base) (rb:=11) (v:=Vx (decide ((n:Int)<S2))) a2 ne ne (by rw[e11,eb];rfl);have b3:(((R.set base (n:Int)).set 11 (V9 .u32 S2)).set 12 (Vx (decide ((n:Int)<S2)))).getD 12 0=Vx (decide ((n:Int)<S2)):=de bZ;have a4:=UP.bnez (ra:=12) a3 he;rw[b3]at a4;rcases a4 with⟨c1,a4⟩|⟨-,a4⟩
 .have hlt:S2<=n:=by
   cases hd:decide ((n:Int)<S2)with
   |true=>rw[hd]at c1;cases c1
   |false=>grind
  have a5:=UP.li (rd:=12) a4;have a6:=UP.op (rd:=12) (ra:=12) (rb:=base) (v:=Vx (decide (Tq<(n:Int)))) a5 ne ne (by
   rw[de bZ,cM O,cM O,eb];show Vx (decide (V9 .u32 Tq<(n:Int)))=_;rw[show V9 .u32 Tq=Tq by rw[au];omega])
  have a7:=UP.bnez (ra:=12) a6 he;rw[de bZ]at a7;rcases a7 with⟨c2,a7⟩|⟨-,a7⟩
  .have hle:(n:Int)<=Tq:=by
    cases hd:decide (Tq<(n:Int))with
    |true=>rw[hd]at c2;cases c2
    |false=>grind
   have a8:=UP.op (rd:=base) (ra:=base) (rb:=11) (v:=(n:Int) - S2) a7 ne ne (by
    rw[cM O,cM O,cM O,eb,cM ne,cM ne,cM ne,e11];show V9 .u64 ((n:Int) - S2)=_;rw[aP];omega)
   refine⟨hlt,hle,_,_,a8,de bZ,?_⟩;intro j hj
   grind
  grind
 grind
end
end Go.Ink
namespace Go.Ink
open List renaming length→J, replicate→R9
open IntKind renaming wrap→V9
open Go.RowKit
section
variable{R W:Li}{pl:Pl}{T V:Li}{N:Nat}
theorem GD.mono{R' W':Li}(hp:NU pl T N)(h:GD pl T V N R W)(hs:∀j,j<7->R'.getD j 0=R.getD j 0)(hw:∀j,64<=j->W'.getD j 0=W.getD j 0):GD pl T V N R' W':=λa ha ht=>by
 have h1:=h a ha ht;have h2:=hp.has a ha;refine⟨λhi=>?_,λhi=>?_⟩
 .have q1:0<=pl.r a:=by unfold Pl.inR at hi;simpa using hi
  have q2:pl.r a<7:=by rcases h2 with⟨-,q⟩|⟨q, -⟩;exact q;rw[hi]at q;cases q
  rw[hs _ O];exact h1.1 hi
 rw[hw _ O];exact h1.2 hi
end
variable{T:Li}{pl:Pl}
def gn(T:Li)(n at_:Int):List Int:=bif decide (0<=n)then T.set n.toNat (if at_>T.getD n.toNat 0 then at_ else T.getD n.toNat 0)else T
def lM(x:II):Bool:=x.op==3||x.op==4
def fD:List II->Nat->List Int->List Int
 |[],_,T=>T
 |x::c,k,T=>fD c (k+1) (bif lM x then gn (gn T x.a k) x.b k else T)
def j8(T:Li)(l:Li)(at_:Int):List Int:=l.foldl (λT n=>gn T n at_) T
def Wa(n:Nat):List Int:=(List.range n).map λk:Nat=>(k:Int)
def gx(p:Pg):List Int:=j8 (j8 (j8 (fD p.code 0 (Wa (J p.code))) p.S9 (J p.code)) p.Ta (J p.code)) [p.flags,p.target] (J p.code)
theorem kg(T:Li)(n a:Int):Up T (gn T n a):=by
 unfold gn;cases decide (0<=n)with
 |false=>exact Up.refl T
 |true=>
  refine⟨by grind,λi=>?_⟩
  grind
theorem jE:∀(l:Li) (T:Li) (a:Int),Up T (j8 T l a)
 |[],T,a=>Up.refl T
 |n::l,T,a=>(kg T n a).trans (jE l (gn T n a) a)
theorem kQ:∀(c:List II) (k:Nat) (T:Li),Up T (fD c k T)
 |[],_,T=>Up.refl T
 |x::c,k,T=>by
  refine Up.trans ?_ (kQ c (k+1) _);cases lM x with
  |true=>exact(kg T x.a k).trans (kg _ x.b k)
  |false=>exact Up.refl T
variable{n i:Nat}
theorem qr(n:Nat):J (Wa n)=n:=by simp[Wa]
theorem zq(p:Pg):Up (fD p.code 0 (Wa (J p.code))) (gx p):=((jE _ _ _).trans (jE _ _ _)).trans (jE _ _ _)
theorem PK(p:Pg):J (gx p)=J p.code:=by rw[(zq p).1,(kQ _ _ _).1,qr]
def lB(T:Li)(pl:Pl)(n:Nat):Pl:=
 ⟨pl.reg.set n (-1),pl.slot.set n (fX T pl.slot n),if((fX T pl.slot n:Nat):Int)+1>pl.Tt then((fX T pl.slot n:Nat):Int)+1 else pl.Tt⟩
def qh(T:Li)(Tu:Int)(pl:Pl)(n:Nat):Pl:=
 bif decide (((fX T pl.reg n:Nat):Int)<Tu)then⟨pl.reg.set n (fX T pl.reg n),pl.slot,pl.Tt⟩else
 bif(gu T pl.reg n n !=n)then lB T ⟨pl.reg.set n (pl.reg.getD (gu T pl.reg n n) 0),pl.slot,pl.Tt⟩ (gu T pl.reg n n)else lB T pl n
def jH(T:Li)(Tu:Int)(N:Nat):Nat->Pl
 |0=>⟨R9 N (-1),R9 N (-1),0⟩
 |n+1=>qh T Tu (jH T Tu N n) n
theorem pigeon(place:Li)(h:∀k:Nat,k<=J place->∃i,i<J place/\place.getD i 0=(k:Int)):False:=by
 have hc:∃f:Nat->Nat,∀k,k<=J place->f k<J place/\place.getD (f k) 0=(k:Int):=by
  refine⟨λk=>if hk:k<=J place then Classical.choose (h k hk)else 0,λk hk=>?_⟩;simp only[dif_pos hk];exact Classical.choose_spec (h k hk)
 obtain⟨f,hf⟩:=hc;have h1:=nE (J place) ((List.range (J place+1)).map f) ?_ ?_
 .simp at h1;omega
 .rw[List.Nodup,List.pairwise_map];refine List.Pairwise.imp_of_mem ?_ (List.nodup_range (n:=J place+1));intro a b ha hb hab e;have h2:=(hf a (by have:=List.mem_range.1 ha;omega)).2;have h3:=(hf b (by have:=List.mem_range.1 hb;omega)).2;rw[e,h3]at h2;exact hab O
 intro x hx;obtain⟨k,hk,rfl⟩:=List.mem_map.1 hx;exact(hf k (by have:=List.mem_range.1 hk;omega)).1
theorem B8(T place:Li)(n:Nat):∀f k,k+f=J place->(∀j,j<k->fu T place n j (J place)=true)->fu T place n (kV T place n f k) (J place)=false/\kV T place n f k<=J place/\∀j,j<kV T place n f k->fu T place n j (J place)=true
 |0,k,hk,hb=>by
  refine⟨?_,by show k<=_;omega,hb⟩;show fu T place n k (J place)=false;cases h:fu T place n k (J place) with
  |false=>rfl
  |true=>
   refine(pigeon place λj hj=>?_).elim;have ht:fu T place n j (J place)=true:=by
    by_cases e:j=k
    .rw[e];exact h
    exact hb j O
   obtain⟨i,h1,h2, -⟩:=(AK T place n j (J place)).1 ht;exact⟨i,h1,h2⟩
 |f+1,k,hk,hb=>by
  cases h:fu T place n k (J place) with
  |false=>
   have e:kV T place n (f+1) k=k:=by show(bif fu T place n k (J place) then _ else k)=k;rw[h];rfl
   rw[e];exact⟨h,by omega,hb⟩
  |true=>
   have e:kV T place n (f+1) k=kV T place n f (k+1):=by show(bif fu T place n k (J place) then kV T place n f (k+1)else k)=_;rw[h];rfl
   rw[e];exact B8 T place n f (k+1) O (λj hj=>by
    by_cases e:j=k
    ·rw[e];exact h
    exact hb j O)
theorem rI(T place:Li)(n:Nat):fu T place n (fX T place n) (J place)=false/\fX T place n<=J place/\∀j,j<fX T place n->fu T place n j (J place)=true:=
 B8 T place n (J place) 0 O (λj hj=>absurd hj O)
end Go.Ink
namespace Go.Ink
open List renaming length→J, replicate→R9
open IntKind renaming wrap→V9
open Go.RowKit
def i5(U:List Bool)(l:Li):List Bool:=l.foldl (λU n=>bif n != -1 then U.set n.toNat true else U) U
def ke(code:List II):Nat->List Bool->List Bool
 |0,U=>U
 |k+1,U=>ke code k (bif U.getD k false&&lM (code.getD k II.zero)then i5 U [(code.getD k II.zero).a,(code.getD k II.zero).b]else U)
def Ie(p:Pg):List Bool:=i5 (i5 (i5 (R9 (J p.code) false) p.S9) p.Ta) [p.flags,p.target]
def gI(p:Pg):List Bool:=ke p.code (J p.code) (Ie p)
def pw(x:II)(pl:Li)(n:Nat):II:=bif lM x then⟨x.op,n,pl.getD x.a.toNat 0,pl.getD x.b.toNat 0,x.imm⟩else⟨x.op,n,x.a,x.b,x.imm⟩
def nQ(U:List Bool):List II->Nat->List Int->List II->List Int×List II
 |[],_,pl,c=>(pl,c)
 |x::suf,i,pl,c=>bif U.getD i false then nQ U suf (i+1) (pl.set i (J c:Int)) (c++[pw x (pl.set i (J c:Int)) (J c)])else nQ U suf (i+1) pl c
def dW(pl:Li)(l:Li):List Int:=l.map λn=>pl.getD n.toNat 0
def fe(p:Pg):List Int×List II:=nQ (gI p) p.code 0 (R9 (J p.code) 0) []
def cG(p:Pg):Pg:=⟨(fe p).2,p.SW,p.SZ,p.Tw,p.Tx,dW (fe p).1 p.S9,dW (fe p).1 p.Ta,iv (fe p).1 p.flags,p.next,iv (fe p).1 p.target,p.branch,p.taken,p.count,(fe p).2.length⟩
def WfC(code:List II):Prop:=∀(i:Nat) (x:II),code[i]? =some x->lM x=true->(0<=x.a/\x.a<i)/\(0<=x.b/\x.b<i)
variable{j:Nat}
theorem gc:∀(l:Li) (U:List Bool),J (i5 U l)=J U
 |[],_=>rfl
 |n::l,U=>by
  show(i5 (bif n != -1 then U.set n.toNat true else U) l).length=_;rw[gc l]
  grind
variable{code:List II}{k:Nat}
section
def WfO(code:List II):Prop:=∀(i:Nat) (x:II),code[i]? =some x->(x.op=0\/x.op=1\/x.op=2)\/lM x=true
structure Raw(p:Pg):Prop where
 wf:WfC p.code
 ops:WfO p.code
 S9:∀n,n∈p.S9->II.in_ n p.code
 Ta:∀n,n∈p.Ta->II.in_ n p.code
 flags:p.flags= -1\/II.in_ p.flags p.code
 target:p.target= -1\/II.in_ p.target p.code
end
structure m6(w:Lw):Prop where
 d:∀n,n∈w.d.l->II.in_ n w.code
 r:∀n,n∈w.r.l->II.in_ n w.code
 wf:WfC w.code
 ops:WfO w.code
 flags:w.flags= -1\/II.in_ w.flags w.code
 target:w.target= -1\/II.in_ w.target w.code
 imm:Ym w.code
variable{c:List II}{x:II}
theorem WfC.snoc(h:WfC c)(hx:lM x=true->(0<=x.a/\x.a<J c)/\(0<=x.b/\x.b<J c)):WfC (c++[x]):=λi y hy hab=>by
 by_cases hi:i<J c
 .rw[List.getElem?_append_left hi]at hy;exact h i y hy hab
 grind
theorem WfO.snoc(h:WfO c)(hx:(x.op=0\/x.op=1\/x.op=2)\/lM x=true):WfO (c++[x]):=λi y hy=>by
 by_cases hi:i<J c
 .rw[List.getElem?_append_left hi]at hy;exact h i y hy
 grind
theorem KI{k:Int}(hk:k=1\/k=2){c:List II}{s:Sd}(h:∀n,n∈s.l->II.in_ n c)(hw:WfC c)(ho:WfO c)(hm_:Ym c):
  II.in_ (fO k c s).1 (fO k c s).2.1/\(∀n,n∈(fO k c s).2.2.l->II.in_ n (fO k c s).2.1)/\WfC (fO k c s).2.1/\WfO (fO k c s).2.1/\Ym (fO k c s).2.1/\∃e,(fO k c s).2.1=c++e:=by
 unfold fO;cases hl:s.l.getLast? with
 |some n=>
  obtain⟨m,hm⟩:∃m,s.l=m++[n]:=List.getLast?_eq_some_iff.1 hl
  simp_all
 |none=>
  refine⟨pf _ _,λj hj=>(by cases hj),hw.snoc (λhab=>?_),ho.snoc (Or.inl ?_),hm_.snoc (by grind [IntKind.wrap_u32]),_,rfl⟩
  .rcases hk with rfl|rfl<;>cases hab
  grind
variable{n:Int}
theorem m6.S0{w:Lw}(h:m6 w):m6 w.S0.2/\II.in_ w.S0.1 w.S0.2.code/\∃e,w.S0.2.code=w.code++e:=by
 obtain⟨h1,h2,h3,h4,h6,h5⟩:=KI (k:=1) (Or.inl I) h.d h.wf h.ops h.imm;exact⟨⟨h2,λn hn=>Iq (h.r n hn) h5,h3,h4,HJ h.flags h5,HJ h.target h5,h6⟩,h1,h5⟩
theorem m6.Ty{w:Lw}(h:m6 w):m6 w.Ty.2/\II.in_ w.Ty.1 w.Ty.2.code/\∃e,w.Ty.2.code=w.code++e:=by
 obtain⟨h1,h2,h3,h4,h6,h5⟩:=KI (k:=2) (Or.inr I) h.r h.wf h.ops h.imm;exact⟨⟨λn hn=>Iq (h.d n hn) h5,h2,h3,h4,HJ h.flags h5,HJ h.target h5,h6⟩,h1,h5⟩
variable{op:Int}
def kO(SW SZ:Int)(i:Nat)(x:II):Bool:=
 bif x.dst !=i then false else
 bif x.op==0 then x.a==0&&x.b==0 else
 bif x.op==1 then(x.a==0&&x.b==0)&&decide (x.imm<SW)else
 bif x.op==2 then(x.a==0&&x.b==0)&&decide (x.imm<SZ)else
 bif x.op==3 then((sS x.a i&&sS x.b i)&&decide (16<=x.imm))&&decide (x.imm<=23)else
 bif x.op==4 then(sS x.a i&&sS x.b i)&&((decide (16<=x.imm)&&decide (x.imm<=23))||x.imm==25)else false
def jA(SW SZ:Int):List II->Nat->Bool
 |[],_=>true
 |x::c,i=>kO SW SZ i x&&jA SW SZ c (i+1)
def dU(p:Pg):Pl:=jH (gx p) 7 (J p.code) (J p.code)
theorem yf{SW SZ:Int}:∀(c:List II) (i:Nat),jA SW SZ c i=true->∀(j:Nat) (x:II),c[j]? =some x->kO SW SZ (i+j) x=true
 :=by intro y1;induction y1<;>grind [kO,jA]
end Go.Ink
namespace Go.Ink
open List renaming length→J, replicate→R9
open IntKind renaming wrap→V9
open Go.RowKit Go.Proofs.Tryz
def xL(i:HI):HI×Bool:=
 bif i.op==0 then(⟨i.op,0,0,0,0⟩,true)else bif i.op==1 then(⟨i.op,i.rd,0,0,i.imm⟩,true)else bif i.op==2 then(⟨i.op,i.rd,i.ra,0,0⟩,true)else
 bif decide (3<=i.op)&&decide (i.op<=13)then(⟨i.op,i.rd,i.ra,i.rb,0⟩,true)else bif i.op==14 then(⟨i.op,i.rd,i.ra,0,i.imm⟩,true)else bif i.op==15 then(⟨i.op,0,i.ra,i.rb,i.imm⟩,true)else
 bif i.op==16||i.op==17 then(⟨i.op,0,i.ra,0,i.imm⟩,true)else bif i.op==18||i.op==19 then(⟨i.op,0,0,0,i.imm⟩,true)else(⟨i.op,0,0,0,0⟩,false)
structure HI.TV(i:HI):Prop where
 asked:xL i=(i,true)
 rd:0<=i.rd/\i.rd<=15
 ra:0<=i.ra/\i.ra<=15
 rb:0<=i.rb/\i.rb<=15
 imm:0<=i.imm/\i.imm<=4294967295
theorem HI.TV.op{i:HI}(h:i.TV):0<=i.op/\i.op<=19:=by
 grind [h.asked,xL]
def sY(i:HI):List Int:=[i.op,i.rd,i.ra,i.rb,i.imm%256,i.imm/256%256,i.imm/65536%256,i.imm/16777216%256]
def cH(l:List HI):List Int:=l.flatMap sY
end Go.Ink
namespace Go.Ink
open List renaming length→J, replicate→R9
open IntKind renaming wrap→V9
open Go.RowKit Go.Proofs.Tryz
variable{l:List (Int×Int)}{k:Nat}{i:Int×Int}
section
attribute [local irreducible] Ve bN
variable{n:Nat}
structure w7 where
 kd:Int
 n:Int
 v:Int
 at_:Int
 B:Option Addr
 cb:Nat
 bs:List Int
variable{b:Li}
theorem pK{z:Nat}(h:dI b=some (i,z)):z=(cB i.1).toNat/\0<cB i.1/\z<=J b/\∀b':List Int,b'.take z=b.take z->dI b'=some (i,z):=by
 cases b with
 |nil=>cases h
 |cons op l=>
  have h:(bif cB op==0 then none else bif decide ((J l:Int)+1<cB op)then none else some ((op,sX (l.take ((cB op).toNat - 1))),(cB op).toNat))=some (i,z):=h;cases h0:cB op==0 with
  |true=>grind
  |false=>
  cases h1:decide ((J l:Int)+1<cB op)with
  |true=>grind
  |false=>
  rw[h0,h1]at h;simp only[ac,bh,aB]at h;obtain⟨rfl,rfl⟩:=h;simp only[bF,aa]at h0 h1;have hz:cB op=0\/cB op=1\/cB op=2\/cB op=5:=iR op;refine⟨I,by grind,by grind,λb' hb=>?_⟩;obtain⟨m,hm⟩:∃m:Nat,(cB op).toNat=m+1:=⟨(cB op).toNat - 1,by omega⟩;rw[hm]at hb|-;cases b' with
  |nil=>grind
  |cons op' l'=>
   grind [mQ,List.cons.injEq,List.length,List.length_take]
variable{o e:Nat}
theorem lJ.ends(h:lJ b o l e)(hl:l≠[]):e<=J b/\o<e:=by
 induction h with
 |nil=>grind
 | @cons o z e i l h t ih=>
  obtain⟨h1,h2,h3, -⟩:=pK h;rw[List.length_drop]at h3;have hle:=t.le;have hz:0<z:=by omega
  cases l with
  |nil=>cases t;omega
  |cons j l=>grind
theorem lJ.u32{b:Li}(hb:Vh b){o e:Nat}{l:List (Int×Int)}(h:lJ b o l e):∀i,i∈l->u32 i.2:=by
 induction h with
 |nil=>grind
 | @cons o z e i l h t ih=>
  intro j hj;rcases aI.1 hj with rfl|hj
  .obtain⟨op,nn⟩:=j;exact(nU (λx hx=>hb x (bE hx)) h).1
  grind
structure Rn where
 bytes:List Int
 ends:Bool
def Rn.zero:Rn:=⟨[],false⟩
def uZ{α:Type}(key:α->Ky)(room:Int)(l:List α)(t:α):List α:=match cN key (key t) l with
 |some j=>l.set j t
 |none=>bif decide (room<=(J l:Int))then[t]else l++[t]
variable{α:Type}{key:α->Ky}{room:Int}{l:List α}{t:α}
theorem Ps{x:α}(h:x∈uZ key room l t):x=t\/(x∈l/\(∀y,y∈l->(l.map key).Nodup->key x≠key t)):=by
 unfold uZ at h;cases hp:cN key (key t) l with
 |some j=>
  rw[hp]at h;dsimp only at h;obtain⟨hj,hk⟩:=fJ hp;obtain⟨i,hi,rfl⟩:=List.getElem_of_mem h;rw[List.getElem_set];by_cases e:j=i
  .grind
  rw[if_neg e];have hi':i<J l:=by simpa using hi
  refine Or.inr ⟨List.getElem_mem _,λy _ hn hke=>e ?_⟩;rw[<-hk]at hke;exact((List.getElem_inj (xs:=l.map key) (h₀:=by grind) (h₁:=by grind) hn).1 bZ).symm
 |none=>
  grind [iF]
theorem KF:t∈uZ key room l t:=by
 unfold uZ;cases hp:cN key (key t) l with
 |some j=>obtain⟨hj, -⟩:=fJ hp;grind [List.mem_iff_getElem]
 |none=>grind
theorem ru(h:(l.map key).Nodup):((uZ key room l t).map key).Nodup:=by
 grind [uZ,cN,fJ,iF,List.map_set,List.set_getElem_self,decide,List.nodup_append]
theorem O5(h1:1<=room)(h:(J l:Int)<=room):(J (uZ key room l t):Int)<=room:=by
 grind [uZ,cN]
variable{β:Type}
theorem yS(L:List (Ky×β))(k:Ky)(v:β):dS L k v=uZ (·.1) ((J L:Int)+1) L (k,v):=by
 grind [dS,uZ,cN]
theorem j0(f:α->Bool)(h:(l.map key).Nodup):((l.filter f).map key).Nodup:=by grind
end
end Go.Ink
namespace Go.Ink
open List renaming length→J, replicate→R9
open IntKind renaming wrap→V9
open Go.RowKit Go.Proofs.Tryz
variable{α:Type}{x:α}
def LS.v(x:LS):Value:= .slice x.A (J x.ks) x.c
def gJ(LK:List (Ky×LS))(k:Ky):List (Ky×LS):=(qk LK k).map λx=>(x.1,mi k x.2)
variable{k:Ky}
section
attribute [local irreducible] Ve bN
variable{keys:List Ky}{LK:List (Ky×LS)}
theorem CL.unlink(h:CL keys LK)(k:Ky):CL keys (gJ LK k)/\∀x,x∈gJ LK k->∀q,q∈x.2.ks->q≠k:=by
 refine⟨λx hx=>?_,λx hx q hq=>?_⟩
 .obtain⟨y,hy,rfl⟩:=List.mem_map.1 hx;obtain⟨h1,h2,h3⟩:=h y ((tP LK k).subset hy);exact⟨h1,h2.filter _,λq hq=>h3 q (List.mem_filter.1 hq).1⟩
 obtain⟨y,hy,rfl⟩:=List.mem_map.1 hx;have:=(List.mem_filter.1 hq).2
 grind
theorem CL.mono{keys':List Ky}(h:CL keys LK)(hs:∀q,q∈keys->q∈keys'):CL keys' LK:=λx hx=>⟨(h x hx).1,(h x hx).2.1,λq hq=>hs q ((h x hx).2.2 q hq)⟩
end
end Go.Ink
namespace Go.Ink
open List renaming length→J
open IntKind renaming wrap→V9
open Go.RowKit Go.Proofs.Tryz
theorem ud(op rd a b:Int):J (yc op rd a b)<=3:=by grind [yc,zk,Si]
theorem Cb(op a b:Int):J (mP op a b)<=24:=by
 have:=ud op 9 a b;unfold mP gf;cases op==16<;>cases op==17||op==25<;>simp[kX,kW,ic,iD,wO]<;>omega
theorem Jw(x:Int):V9 .u32 (V9 .i64 (64+x))=V9 .u32 (64+x):=by grind [IntKind.wrap_u32,IntKind.wrap_i64]
end Go.Ink
namespace Go.Ink
open List renaming length→J, replicate→R9
open IntKind renaming wrap→V9
open Go.RowKit Go.Proofs.Tryz
theorem EN(c d i:Int):V9 .u32 (V9 .i64 (V9 .i64 (V9 .i64 (c+d) - 1) - V9 .i64 i))=V9 .u32 (c+d - 1 - i):=by
 grind [IntKind.wrap_u32,IntKind.wrap_i64]
section
attribute [local irreducible] Ve bN
theorem wg(p:Pg)(pos:Nat):J (iJ p pos)<=5:=by
 grind [iJ]
theorem br_eq{p:Pg}{l11 l12 l13 l14 l15 l16:List HI}(h12:l12=l11++[⟨14,11,15,0,1⟩])(h13:l13=l12++[⟨1,12,0,0,ib p.branch⟩])(h14:l14=l13++[⟨5,11,11,12,0⟩])(h15:l15=l14++[⟨bif j4 p.branch then 16 else 17,0,11,0,V9 .u32 ((J l14:Int)+2)⟩])(h16:l16=l15++[⟨1,9,0,0,p.taken⟩])(hb:(p.branch !=0)=true):
  l16=l11++iJ p (J l11):=by
 grind [iJ]
theorem end_eq{p:Pg}{pl:Pl}{l m1 l11 m2 m3 l31 l32 l33 l34:List HI}(h1:m1=l++gY p pl)(h11:l11=m1++[⟨1,9,0,0,p.next⟩])(h2:m2=l11++iJ p (J l11))(h3:m3=m2++jW p pl)(h31:l31=m3++[⟨15,0,15,9,0⟩])(h32:l32=l31++[⟨1,11,0,0,V9 .u32 p.count⟩])(h33:l33=l32++[⟨15,0,15,11,36⟩])(h34:l34=l33++[⟨19,0,0,0,1⟩]):
  l34=l++tY p pl (J l):=by
 have hn:J l11=J l+J (gY p pl)+1:=by rw[h11,h1];simp;omega
 grind [tY]
variable{α:Type}{l:List α}{k:Nat}{x:α}
theorem sQ{a b:Int}:∀(c:List II) (i k:Nat) {x:II},c[k]? =some x->jA a b (c.take k) i=true->kO a b (i+k) x=true->jA a b (c.take (k+1)) i=true
 |[],_,_,_,h,_,_=>by simp at h
 |y::c,i,0,x,h,_,h2=>by
  grind [kO,jA]
 |y::c,i,k+1,x,h,h1,h2=>by
  have h1:(kO a b i y&&jA a b (c.take k) (i+1))=true:=h1;rw[ay]at h1;have:=sQ c (i+1) k (x:=x) bZ h1.2 bZ
  grind [kO,jA]
theorem ye{a b:Int}:∀(c:List II) (i k:Nat) {x:II},c[k]? =some x->kO a b (i+k) x=false->jA a b c i=false
 |[],_,_,_,h,_=>by simp at h
 |y::c,i,0,x,h,h2=>by
  grind [kO,jA]
 |y::c,i,k+1,x,h,h2=>by
  have:=ye c (i+1) k (x:=x) bZ (by rw[show i+1+k=i+(k+1) by omega];exact h2)
  grind [kO,jA]
theorem kI:∀(T:Li) (k i:Nat) {t:Int} {j:Nat} {v:Value},T[i]? =some t->(span (k+i) t)[j]? =some v->(fN k T)[i*3+j]? =some v
 |[],_,_,_,_,_,h,_=>by simp at h
 |x::T,k,0,t,j,v,h,hj=>by
  obtain rfl:x=t:=by grind
  rw[Nat.zero_mul,bC]
  match j,hj with
  |0,hj=>exact hj
  |1,hj=>exact hj
  |2,hj=>exact hj
  |j+3,hj=>simp at hj
 |x::T,k,i+1,t,j,v,h,hj=>by
  have:=kI T (k+1) i (t:=t) (j:=j) (v:=v) bZ bZ;rw[show(i+1)*3+j=(i*3+j)+3 by omega];exact this
theorem pZ(T:Li)(n a:Int):J (gn T n a)=J T:=(kg T n a).1
theorem LU(n:Nat):Wa (n+1)=Wa n++[(n:Int)]:=by grind [Wa,List.range_succ]
variable{n:Nat}
theorem Mp{T l:Li}(h:kV T l n (J l - k) k=fX T l n)(hk:k<=J l)(ht:fu T l n k (J l)=true):k<J l/\kV T l n (J l - (k+1)) (k+1)=fX T l n:=by
 rcases Nat.lt_or_ge k (J l) with h9|h9
 .refine⟨h9,?_⟩;rw[show J l - k=(J l - (k+1))+1 by omega]at h
  grind [fu,kV,fX]
 obtain rfl:k=J l:=by omega
 rw[Nat.sub_self]at h;have h:J l=fX T l n:=h
 grind [rI]
theorem ql(T:Li)(Tu:Int)(N:Nat):∀n,(jH T Tu N n).reg.length=N/\(jH T Tu N n).slot.length=N
 :=by intro y1;induction y1<;>grind [jH,qh,lB,fX,gu]
end
end Go.Ink
namespace Go.Ink
open List renaming length→J, replicate→R9
open IntKind renaming wrap→V9
open Go.RowKit Go.Proofs.Tryz
section
attribute [local irreducible] Ve bN
abbrev Yo(b:Nat)(A:Oa)(c N:Nat)(U:List Bool):List bJ:=[row b [.slice A N c] 59,slv 4 1 A N c (U.map Value.bool)]
theorem AF{U:List Bool}{j:Nat}(h:j<J U):(U.map Value.bool)[j]? =some (.bool (U.getD j false)):=by grind
end
end Go.Ink
