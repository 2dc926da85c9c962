/- Lemmas. -/
import Derived.Test.YtepfimeihngjoaaGreatDoorYad
import Derived.Test.YtepfimeihngjoaaGreatDoorYae
set_option linter.all false
set_option maxRecDepth 100000
set_option maxHeartbeats 4000000
namespace Go.Ink
open List renaming length→J, replicate→R9
open IntKind renaming wrap→V9
open Go.RowKit Go.Proofs.Tryz
variable{j:Nat}
section
attribute [local irreducible] UL bM
variable{n:Nat}
variable{L:ez}
variable{a:Nat}
theorem rnew_ok(bp bt:Nat)(w:World):Uz prog 114 [.p bp,.p bt] w [] (λv cs=>∃bm,v= .tuple #[.p bm,.i 0]/\cs=[sc ⟨bp,bt,0,0,bm,0,0,[],[],[]⟩ (R9 64 false)]):=by
 refine UB func114 ntmps114 ?_;refine vY ?_;refine jn ?_;refine Ux ?_;refine ZO λb15=>?_
 refine Uu ?_;exact vL (cs':=[row _ _ _]) (.inl I) Zu I I I ⟨_,I,I⟩
structure TE.wf(e:TE):Prop where
 vpn:u32 e.vpn
 pfn:u32 e.pfn
 bits:u32 e.bits
theorem tp(v:Nat)(w:World):CW prog 284 [.w v] w (.w (v%16:Nat)):=by
 refine UB func284 ntmps284 ?_;refine UG ?_;refine Zy (fH (Zv I) (Zv I) O (show _=((v%16:Nat):Int)from by grind)) ?_;exact oR
theorem Jp(kind:Int)(Sy:Bool)(w:World):CW prog 285 [.i kind,.bool Sy] w (.tuple #[.w (asked kind Sy).1,.bool (asked kind Sy).2]):=by
 refine UB func285 ntmps285 ?_;refine jF ?_;refine Wj ?_ ?_<;>intro hc4
 .refine fo ?_;refine ZW ?_ ?_<;>intro hc10
  .have hs:Sy=false:=by simpa using hc10
   refine jG ?_;exact Wq
  have hs:Sy=true:=by simpa using hc10
  refine eK ?_;exact Wq
 refine Ul ?_ ?_<;>intro hc6
 .refine fo ?_;refine ZW ?_ ?_<;>intro hc10
  .have hs:Sy=false:=by simpa using hc10
   refine jG ?_;exact Wq
  have hs:Sy=true:=by simpa using hc10
  refine eK ?_;exact Wq
 refine Ul ?_ ?_<;>intro hc8
 .refine fo ?_;refine ZW ?_ ?_<;>intro hc10
  .have hs:Sy=false:=by simpa using hc10
   refine jG ?_;exact Wq
  have hs:Sy=true:=by simpa using hc10
  refine eK ?_;exact Wq
 refine UE ?_;exact Wq
theorem Jj(w:World):Uz prog 134 [] w [] (λx cs=>∃bb,x= .p bb/\cs=[ww bb dA]):=by
 refine UB func134 ntmps134 ?_;refine Ux ?_;refine Zy (gY (vs:=dC dA) Zk (.inl ⟨_,I,I⟩)) ?_;refine ZO λb2=>?_
 exact M8
theorem NU(bb:Nat)(T:List TE)(hT:J T=16)(va:Nat)(hva:va<=4294967295)(kind:Int)(Sy:Bool)(w:World)(h:(ww bb T).ok w):CW prog 221 [.p bb,.w va,.i kind,.bool Sy] w (.tuple #[.w (pf T va kind Sy).1,.bool (pf T va kind Sy).2]):=by
 have hlt:va/64%16<J T:=by omega
 have he:T[va/64%16]? =some (wx T va):=by simp[wx,hlt]
 obtain⟨e,hee⟩:=Uk (wx T va);obtain⟨a,ha⟩:=Uk (asked kind Sy);have hA:=Jp kind Sy;unfold pf;rw[hee]at he|-;rw[ha]at hA|-;refine UB func221 ntmps221 ?_;refine UE ?_;refine Su ?_;refine Ut ?_;refine bN (UK [8]) Zk (mW ?_);refine ZE 3 ?_;refine Ld 4 0 ?_;refine rU 2 7 Zk ?_ ?_
 .refine VF (λw hi=>tp (va/64) w) ?_;refine Uw ?_;refine Wq281 ?_;refine iW ?_;refine ZP λb11=>?_
  refine fS ?_;refine ZR ?_;refine fe ?_;refine Uu ?_;refine UD (λw hi=>hA w) ?_;refine jF ?_;refine iR ?_;refine ZW ?_ ?_<;>intro hc4
  .have hc:kC e va a=true:=hc4;refine UG ?_;refine pd ?_;rw[hc];exact ff
  exact Wx56_
 refine ZP λb11=>?_
 refine cQ 2 Zk (VF (λw hi=>tp (va/64) w) ?_);refine Uw ?_;refine Wq281 ?_;refine fS ?_;refine ZR ?_;refine fe ?_;refine Uu ?_;refine UD (λw hi=>hA w) ?_;refine jF ?_;refine iR ?_;refine ZW ?_ ?_<;>intro hc4
 .have hc:kC e va a=true:=hc4;refine UG ?_;refine pd ?_;rw[hc];exact ff
 exact Wx56_
theorem NV(bb:Nat)(T:List TE)(hT:J T=16)(e:TE)(he:e.wf):CI prog 223 [.p bb,e.v] [ww bb T] (λx cs=>x= .bool e.valid/\cs=[ww bb (zG T e)]):=λw hi=>by
 obtain⟨v0,v1⟩:=he.vpn;obtain⟨vp,hvp⟩:=ai v0;obtain⟨ev,evpn,epfn,eb⟩:=e;simp only at hvp v0 v1;subst hvp;refine UH func223 ntmps223 hi ?_;refine py ?_;refine ZO λb3=>?_;refine oI ?_ ?_<;>intro hc1
 .have hv:ev=true:=hc1;subst hv;refine bN (UK [8]) Zk (Il ?_);refine ZI 4 ?_;refine ZE 5 ?_;refine Ld 6 0 ?_;refine cQ 3 Zk (VF (λw hi=>tp vp w) ?_);refine Uw ?_;refine UF 7 I (dc (j:=(vp%16)) (sz:=4) (r:=(vp%16)*4) I ir (Zv I) (Zv I) (λ_=>by omega) (λ_=>by omega) (by omega)) ?_;refine fS ?_;refine ft I I (fN (n:=4) (vs:=TE.cells ⟨true,(vp:Int),epfn,eb⟩) ir I I (ka I) Za I (by rw[eC];simp only[TE.cells,aE,bC];omega)) ZJ ?_;refine Uw ?_;rw[show(TE.cells ⟨true,(vp:Int),epfn,eb⟩).length=4 from I,kZ (T:=T) (i:=vp%16) ⟨true,(vp:Int),epfn,eb⟩ (by omega)];refine fe ?_;refine UE ?_;exact y8
 have hv:ev=false:=hc1;subst hv;refine eK ?_;exact y8
theorem NW(bb:Nat)(T:List TE)(hT:J T=16)(va:Nat)(hva:va<=4294967295):CI prog 328 [.p bb,.w va] [ww bb T] (λx cs=>x= .tuple #[]/\cs=[ww bb (ph T va)]):=λw hi=>by
 have hlt:va/64%16<J T:=by omega
 have he:T[va/64%16]? =some (wx T va):=by simp[wx,hlt]
 have hcell:(dC T)[(va/64%16)*4+1]? =some (.w (wx T va).vpn):=by
  have h1:=jt he;have h2:(((dC T).drop ((va/64%16)*4)).take 4)[1]? =some (.w (wx T va).vpn):=by rw[h1];rfl
  rw[List.getElem?_take,if_pos (by omega),List.getElem?_drop]at h2;exact h2
 unfold ph;obtain⟨e,hee⟩:=Uk (wx T va);rw[hee]at hcell|-;refine UH func328 ntmps328 hi ?_;refine Us ?_;refine Zy (jW (Zv I) (Zv I) (by omega) (show _=((va/64:Nat):Int)from by rw[bj (by omega),u32_wrap_id _ (by omega) (by omega)];omega)) ?_;refine Ut ?_;refine B7 ?_;refine ZE 3 ?_;refine Ld 4 0 ?_;refine cQ 2 Zk (VF (λw hi=>tp (va/64) w) ?_);refine Uw ?_;refine UF 5 I (dc (j:=(va/64%16)) (sz:=4) (r:=(va/64%16)*4) I ir (Zv I) (Zv I) (λ_=>by omega) (λ_=>by omega) (by omega)) ?_;refine ZE 6 ?_;refine fe ?_;refine UA ?_;refine dW (bL ir ne) (cO Zh hcell) I (Wj ?_ ?_)<;>intro hc2
 .rw[hc2];refine Ut ?_;refine et (fN (n:=4) (vs:=TE.zero.cells) ir I I (ka I) Za I (by rw[eC];simp only[TE.cells,aE,bC];omega)) ?_;refine Uw ?_;rw[show J TE.zero.cells=4 from I,kZ (T:=T) TE.zero hlt];exact Ws
 rw[hc2];refine Zc (gK (cs':=[row _ _ _]) (.inr I) Zu I ?_);exact ff
theorem Jm(bb:Nat)(T:List TE)(hT:J T=16):CI prog 327 [.p bb] [ww bb T] (λx cs=>x= .tuple #[]/\cs=[ww bb dA]):=λw hi=>by
 refine UH func327 ntmps327 hi ?_;refine py ?_;refine Zy (gY (vs:=dC dA) Zk (.inr ⟨_,_,_,I,λ_=>I⟩)) ?_;refine py ?_;refine et (fN (n:=64) ir I I (ka Zk) Za Zk (by rw[eC,eC,hT];decide)) ?_;refine Uw ?_;rw[show(dC dA).length=64 by kernel_rfl,List.take_zero,aJ,List.drop_eq_nil_of_le (by rw[eC,hT];decide),ax];exact Ws
theorem FD(kind:Int)(w:World):CW prog 181 [.i kind] w (.i (UV kind)):=by
 refine UB func181 ntmps181 ?_;refine xt ?_;refine ZW ?_ ?_<;>intro hc2
 .refine fC ?_;exact XE
 refine Ul ?_ ?_<;>intro hc4
 .refine fC ?_;exact XE
 refine Ul ?_ ?_<;>intro hc6
 .refine fC ?_;exact XE
 refine jE ?_;exact XE
theorem NG(kind:Int)(Sy:Bool)(w:World):CW prog 286 [.i kind,.bool Sy] w (.w (oL kind Sy)):=by
 refine UB func286 ntmps286 ?_;refine jF ?_;refine Vs ?_ ?_<;>intro hc3
 .refine tH ?_ ?_<;>intro hc9
  .have hs:Sy=false:=by simpa using hc9
   exact We
  have hs:Sy=true:=by simpa using hc9
  exact Wd
 refine Ul ?_ ?_<;>intro hc5
 .refine tH ?_ ?_<;>intro hc9
  .have hs:Sy=false:=by simpa using hc9
   exact We
  have hs:Sy=true:=by simpa using hc9
  exact Wd
 refine Ul ?_ ?_<;>intro hc7
 .refine tH ?_ ?_<;>intro hc9
  .have hs:Sy=false:=by simpa using hc9
   exact We
  have hs:Sy=true:=by simpa using hc9
  exact Wd
 refine oI ?_ ?_<;>intro hc9
 .have hs:Sy=false:=by simpa using hc9
  exact We
 have hs:Sy=true:=by simpa using hc9
 exact Wd
variable{va:Nat}
theorem Pm(h:va<=4294967295){l:Int}(hl:u32 l):(leafE va l).wf:=
 ⟨⟨by show(0:Int)<=((va/64:Nat):Int);omega,by show((va/64:Nat):Int)<=_;omega⟩,⟨by show 0<=l/256;have:=hl.1;omega,by show l/256<=_;have:=hl.1;have:=hl.2;omega⟩,eu .and _ _⟩
theorem TE.zero_wf:TE.zero.wf:=⟨⟨by decide,by decide⟩,⟨by decide,by decide⟩,⟨by decide,by decide⟩⟩
theorem vl(a:Int)(w:World):CW prog 183 [.w a] w (.bool (iv a)):=by
 refine UB func183 ntmps183 ?_;exact Wp
theorem KD(bm:Nat)(w:World):Uz prog 88 [.p bm] w [] (λv cs=>∃bu bb,v= .tuple #[.p bu,.i 0]/\cs=[ww bb dA,Cm bu bm bb]):=by
 refine UB func88 ntmps88 ?_;refine iR ?_;refine jn ?_;refine Uu ?_;refine UW (λw hi=>Jj w) ?_;rintro _ _ ⟨bb,rfl,rfl⟩;refine ZA ?_;refine ZO λb9=>?_
 refine Uu ?_;exact vL (cs':=[row _ _ _,row _ _ _]) (.inl I) Zu I I I pF
theorem qN(bu bm bb:Nat)(w:World)(h:(Cm bu bm bb).ok w):CW prog 43 [.p bu] w (.p bm):=by
 refine UB func43 ntmps43 ?_;refine vF ?_;exact oR
theorem NM(bu bb:Nat)(L:ez)(U:Uo)(hT:J U.t=16)(va:Nat)(hva:va<=4294967295):CI prog 264 [.p bu,.w va] (uF bu bb L U) (λv cs=>v= .tuple #[]/\cs=uF bu bb L ⟨U.m,ph U.t va⟩):=λw hi=>by
 refine UH func264 ntmps264 hi ?_;refine UA ?_;refine U5 ([ww bb U.t]) (λw hi hin=>NW bb U.t hT va hva w hin) ?_;refine Zn (bI (uF bu bb L ⟨U.m,ph U.t va⟩) Zj ?_);exact gK (cs':=uF _ _ _ _) (.inr I) Zu I ff
theorem I5(bu bb:Nat)(L:ez)(U:Uo)(hT:J U.t=16):CI prog 263 [.p bu] (uF bu bb L U) (λv cs=>v= .tuple #[]/\cs=uF bu bb L ⟨U.m,dA⟩):=λw hi=>by
 refine UH func263 ntmps263 hi ?_;refine Uu ?_;refine U5 ([ww bb U.t]) (λw hi hin=>Jm bb U.t hT w hin) ?_;refine Zn (bI (uF bu bb L ⟨U.m,dA⟩) Zj ?_);exact gK (cs':=uF _ _ _ _) (.inr I) Zu I ff
end
end Go.Ink
namespace Go.Ink
open List renaming length→J, replicate→R9
open IntKind renaming wrap→V9
open Go.RowKit Go.Proofs.Tryz
section
attribute [local irreducible] UL bM
theorem Lc(w:World):Uz prog 136 [] w [] (λv cs=>∃b,v= .p b/\cs=[ri b 0 0]):=by
 refine UB func136 ntmps136 ?_;refine UG ?_;refine ZO λb2=>?_
 exact M8
theorem Jk(w:World):Uz prog 137 [] w [] (λv cs=>∃b,v= .p b/\cs=[NQ b 0]):=by
 refine UB func137 ntmps137 ?_;refine UG ?_;refine ZO λb2=>?_
 exact M8
theorem Mp(w:World):Uz prog 138 [] w [] (λv cs=>∃b,v= .p b/\cs=[yV b none 0 0 none 0 0]):=by
 refine UB func138 ntmps138 ?_;refine UG ?_;refine ZO λb2=>?_
 exact M8
theorem Mb(A:Oa)(c:Nat)(l:Li)(hl:J l<=1024)(w:World)(h:Rd w .u8 A (J l) c l):Uz prog 135 [.slice A (J l) c] w [] (λv cs=>∃b bd,v= .tuple #[.p b,.i 0]/\cs=[Ns b bd,FO bd (oY l)]):=by
 refine UB func135 ntmps135 ?_;refine jG ?_;refine cG I ((ao O)) (Ut ?_);refine gJ (jT (bytes:=1) (n:=1024) I I I I I I I O gI) I ?_;rintro _ _ ⟨b8_,rfl,rfl⟩;rw[pm];refine ZA ?_;refine ZO λb10=>?_
 refine eK ?_;refine QY ?_;rintro _ _ ⟨rfl,rfl⟩;have hd:(ints .u8 (R9 1024 0)).take 0++(ints .u8 l).take (min (J l) 1024)++(ints .u8 (R9 1024 0)).drop (0+min (J l) 1024)=ints .u8 (oY l):=by(rw[Nat.min_eq_left hl,iO,iO,nH,List.take_zero,List.take_length,bA,List.drop_replicate];simp[ints,oY])
 rw[hd];refine eK ?_;exact bI [Ns b10 b8_,FO b8_ (oY l)] Zj (vL (cs':=[row _ _ _,slv _ _ _ _ _ _]) (.inl I) Zu I I I pF)
theorem q9(b:Nat)(p m:Int)(w:World)(h:(ri b p m).ok w):CW prog 39 [.p b] w (.w p):=by
 refine UB func39 ntmps39 ?_;refine vF ?_;exact oR
theorem yA(b:Nat)(p m:Int)(w:World)(h:(ri b p m).ok w):CW prog 41 [.p b] w (.w m):=by
 refine UB func41 ntmps41 ?_;refine vF ?_;exact oR
theorem Lp(b:Nat)(p m v:Int):CI prog 348 [.p b,.w v] [ri b p m] (λx cs=>x= .tuple #[]/\cs=[ri b (bits .andNot .u32 p v) m]):=λw hi=>by
 refine UH func348 ntmps348 hi ?_;refine UA ?_;refine Zy (sZ ne ne I) ?_;refine jD ?_;exact Ws
theorem uP(b:Nat)(p m v:Int):CI prog 40 [.p b,.w v] [ri b p m] (λx cs=>x= .tuple #[]/\cs=[ri b p (bits .and .u32 v 255)]):=λw hi=>by
 refine UH func40 ntmps40 hi ?_;refine UA ?_;refine ZL ?_;exact Ws
theorem Μ(b:Nat)(t v:Int):CI prog 349 [.p b,.w v] [NQ b t] (λx cs=>x= .tuple #[]/\cs=[NQ b v]):=λw hi=>by
 refine UH func349 ntmps349 hi ?_;refine Uu ?_;refine ZL ?_;exact Ws
theorem NP(b:Nat)(t:Int)(w:World)(h:(NQ b t).ok w):CW prog 131 [.p b] w (.w t):=by
 refine UB func131 ntmps131 ?_;refine vF ?_;exact oR
theorem nO(A:Oa)(n c:Nat)(xs:Li)(w:World)(h:Rd w .u8 A n c xs)(hn:n<=140737488355328):Uz prog 102 [.slice A n c] w [] (λv cs=>∃A' c',v= .slice A' n c'/\cs=[sl .u8 5 A' n c' xs]):=by
 refine UB func102 ntmps102 ?_;refine fo ?_;refine ZW ?_ ?_<;>intro hc1
 .obtain rfl:A=none:=by simpa using hc1
  obtain⟨rfl,rfl⟩:=h.nil I;obtain rfl:xs=[]:=by have:=h.len;simpa[ints]using this
  refine py ?_;refine dg 5 1 (Uu ?_);exact IN
 refine Ut ?_;refine jP ?_;rintro _ _ ⟨b5,rfl,rfl⟩;exact Wq269
theorem Mm(b:Nat)(Ao:Oa)(co:Nat)(o:Li)(Ai:Oa)(ni ci:Nat)(x:Int)(ho:J o<=1000000000):CI prog 350 [.p b,.int .u8 x] [yV b Ao (J o) co Ai ni ci,b8 Ao co o] (λv cs=>∃Ao' co',v= .tuple #[]/\cs=[yV b Ao' (J (o++[x])) co' Ai ni ci,b8 Ao' co' (o++[x])]):=λw hi=>by
 refine UH func350 ntmps350 hi ?_;refine Ux ?_;refine jP ?_;rintro _ _ ⟨b10,rfl,rfl⟩;refine gJ (cu (e:=5) (sz:=1) (bytes:=1) I I Za I I (λw hi=>hi.rd (Ur (slv 5 1 (sA b10) 1 1 [.int .u8 x]))) (ka I) (by simp only[maxLen];omega) O) rfl ?_;rintro _ _ ⟨A2,c2,rfl,rfl⟩;rw[show J o+1=J (o++[x]) by simp,show ints .u8 o++[Value.int .u8 x]=ints .u8 (o++[x])from bY o [x]];refine jD ?_;refine Zn (gK (cs':=[row _ _ _,slv _ _ _ _ _ _]) (.inr I) Zu I ?_);exact⟨A2,c2,I,I⟩
theorem BF(b:Nat)(Ao:Oa)(no co:Nat)(Ai:Oa)(ni ci:Nat)(w:World)(h:(yV b Ao no co Ai ni ci).ok w):CW prog 103 [.p b] w (.i ni):=by
 refine UB func103 ntmps103 ?_;refine vF ?_;exact vG
structure Un.wf(d:Un):Prop where
 T4:UO d.inp
 SV:J d.SV=1024
 Tw:UO d.SV
 SA:d.SA<=4294967295
 place:d.place<=4294967295
 inp:J d.inp<=1000000000
theorem OH(op:Int)(w:World):Uz prog 316 [.i op] w [] (λv cs=>(∃s,v= .string s/\(s.data.toList==[])= !yt op)/\cs=[]):=by
 refine UB func316 ntmps316 ?_;refine xt ?_;refine ZW ?_ ?_<;>intro hc2
 .exact Vt
 refine Ul ?_ ?_<;>intro hc4
 .exact Vt
 refine Ul ?_ ?_<;>intro hc6
 .exact Vt
 refine Ul ?_ ?_<;>intro hc8
 .exact Vt
 refine Ul ?_ ?_<;>intro hc10
 .exact Vt
 refine Ul ?_ ?_<;>intro hc12
 .exact Vt
 refine Ul ?_ ?_<;>intro hc14
 .exact Vt
 refine Ul ?_ ?_<;>intro hc16
 .exact Vt
 refine Ul ?_ ?_<;>intro hc18
 .exact Vt
 refine Ul ?_ ?_<;>intro hc20
 .exact Vt
 refine Ul ?_ ?_<;>intro hc22
 .exact Vt
 refine Ul ?_ ?_<;>intro hc24
 .exact Vt
 refine Ul ?_ ?_<;>intro hc26
 .exact Vt
 refine Ul ?_ ?_<;>intro hc28
 .exact Vt
 refine Ul ?_ ?_<;>intro hc30
 .exact Vt
 refine Ul ?_ ?_<;>intro hc32
 .exact Vt
 refine Ul ?_ ?_<;>intro hc34
 .exact Vt
 refine Ul ?_ ?_<;>intro hc36
 .exact Vt
 refine Ul ?_ ?_<;>intro hc38
 .exact Vt
 refine Ul ?_ ?_<;>intro hc40
 .exact Vt
 refine Ul ?_ ?_<;>intro hc42
 .exact Vt
 refine Ul ?_ ?_<;>intro hc44
 .exact Vt
 refine jE ?_;refine⟨⟨_,I,?_⟩,I⟩;exact vC
theorem name_ok(op:Int)(w:World):Uz prog 252 [.i op] w [] (λv cs=>(∃s,v= .string s/\(s.data.toList==[])= !ux op)/\cs=[]):=by
 refine UB func252 ntmps252 ?_;refine xt ?_;refine ZW ?_ ?_<;>intro hc2
 .exact VN
 refine Ul ?_ ?_<;>intro hc4
 .exact VN
 refine Ul ?_ ?_<;>intro hc6
 .exact VN
 refine Ul ?_ ?_<;>intro hc8
 .exact VN
 refine Ul ?_ ?_<;>intro hc10
 .exact VN
 refine Ul ?_ ?_<;>intro hc12
 .exact VN
 refine Ul ?_ ?_<;>intro hc14
 .exact VN
 refine Ul ?_ ?_<;>intro hc16
 .exact VN
 refine Ul ?_ ?_<;>intro hc18
 .exact VN
 refine Ul ?_ ?_<;>intro hc20
 .exact VN
 refine Ul ?_ ?_<;>intro hc22
 .exact VN
 refine Ul ?_ ?_<;>intro hc24
 .exact VN
 refine Ul ?_ ?_<;>intro hc26
 .exact VN
 refine Ul ?_ ?_<;>intro hc28
 .exact VN
 refine Ul ?_ ?_<;>intro hc30
 .exact VN
 refine Ul ?_ ?_<;>intro hc32
 .exact VN
 refine Ul ?_ ?_<;>intro hc34
 .exact VN
 refine Ul ?_ ?_<;>intro hc36
 .exact VN
 refine UA ?_;refine UW (λw hi=>OH op w) ?_;rintro _ _ ⟨⟨s,rfl,hs⟩,rfl⟩;refine Ut ?_;have hz:=hs;refine VW ?_;refine⟨⟨_,I,?_⟩,I⟩;rw[hs];simp only[ux, *,ae,ac]
theorem xS(op:Int)(w:World):CW prog 198 [.i op] w (.i (cw op)):=by
 refine UB func198 ntmps198 ?_;refine IK ?_;refine ZW ?_ ?_<;>intro hc2
 .refine py ?_;refine bV I (hc2) (fC ?_);exact VA
 refine Ul ?_ ?_<;>intro hc3
 .refine py ?_;refine bV I (hc3) (fC ?_);exact VA
 refine Ul ?_ ?_<;>intro hc4
 .refine py ?_;refine bV I (hc4) (fC ?_);exact VA
 refine Ul ?_ ?_<;>intro hc5
 .refine py ?_;refine bV I (hc5) (fC ?_);exact VA
 refine Ul ?_ ?_<;>intro hc6
 .refine py ?_;refine bV I (hc6) (fC ?_);exact VA
 refine Ul ?_ ?_<;>intro hc7
 .refine py ?_;refine bV I (hc7) (fC ?_);exact VA
 refine Ul ?_ ?_<;>intro hc8
 .refine py ?_;refine bV I (hc8) (fC ?_);exact VA
 refine Ul ?_ ?_<;>intro hc9
 .refine py ?_;refine bV I (hc9) (fC ?_);exact VA
 refine Ul ?_ ?_<;>intro hc10
 .refine DU ?_;refine fC ?_;exact VA
 refine VQ ?_ ?_<;>intro hc11
 .refine fC ?_;exact VA
 refine Ul ?_ ?_<;>intro hc13
 .refine fC ?_;exact VA
 refine Ux ?_;refine UW (λw hi=>name_ok op w) ?_;rintro _ _ ⟨⟨s,rfl,hs⟩,rfl⟩;refine Zy (pL I (Zv I) (Zv I) hs) ?_;refine py ?_;refine ZW ?_ ?_<;>intro hc15
 .refine vE ?_;exact VA
 refine fC ?_;exact VA
theorem Bh(op n:Int)(w:World):CW prog 227 [.agg #[.i op,.w n]] w (.bool (eG op n)):=by
 refine UB func227 ntmps227 ?_;refine py ?_;refine ZO λb1=>?_;refine UG ?_;refine UD (λw hi=>xS op w) ?_;refine VM ?_ ?_<;>intro hc2
 .refine fC ?_;exact Xz
 refine Ul ?_ ?_<;>intro hc4
 .refine nR ?_;exact Xz
 refine Ul ?_ ?_<;>intro hc6
 .refine nR ?_;exact Xz
 refine jE ?_;exact Xz
theorem Ly(op:Int)(w:World):CW prog 248 [.i op] w (.bool (lz op)):=by
 refine UB func248 ntmps248 ?_;exact Wp
theorem yo(r:Int)(w:World):CW prog 320 [.w r] w (.w (dj r)):=by
 refine UB func320 ntmps320 ?_;refine vY ?_;refine ZW ?_ ?_<;>intro hc2
 .refine tH ?_ ?_<;>intro hc4
  .refine qA ?_;exact Xy
  refine jE ?_;exact Xy
 refine oI ?_ ?_<;>intro hc4
 .refine qA ?_;exact Xy
 refine jE ?_;exact Xy
theorem E6(a b:Int)(up:Bool)(hb:0<=b)(w:World):CW prog 319 [.w a,.w b,.bool up] w (.w (da a b up)):=by
 refine UB func319 ntmps319 ?_;refine tH ?_ ?_<;>intro hc1
 .refine fC ?_;refine⟨?_,I⟩;simp only[da, *,ae,ac]
 refine Ul ?_ ?_<;>intro hc3
 .refine Ut ?_;refine Ik ?_;refine UA ?_;refine VW ?_;refine⟨?_,I⟩;simp only[da, *,ae,ac]
 refine Ux ?_;refine F8 ?_;refine Ut ?_;refine VW ?_;refine⟨?_,I⟩;simp only[da, *,ae,ac]
theorem KY(a b:Int)(w:World):CW prog 318 [.w a,.w b] w (.w (jV a b)):=by
 refine UB func318 ntmps318 ?_;refine UE ?_;refine sT ?_;refine UA ?_;refine UD (λw hi=>yo _ w) ?_;refine yZ ?_ ?_<;>intro hc3
 .refine jF ?_;refine ZW ?_ ?_<;>intro hc5
  .refine qA ?_;refine⟨?_,I⟩;exact QJ
  refine jE ?_;refine⟨?_,I⟩;exact QJ
 refine mU ?_;refine ZW ?_ ?_<;>intro hc5
 .refine qA ?_;refine⟨?_,I⟩;exact QJ
 refine jE ?_;refine⟨?_,I⟩;exact QJ
theorem more_ok(a b:Int)(w:World):CW prog 317 [.w a,.w b] w (.w (nK a b)):=by
 refine UB func317 ntmps317 ?_;refine UE ?_;refine kR ?_;refine UA ?_;refine UD (λw hi=>yo _ w) ?_;refine yZ ?_ ?_<;>intro hc3
 .refine jF ?_;refine ZW ?_ ?_<;>intro hc5
  .refine qA ?_;refine⟨?_,I⟩;exact QI
  refine jE ?_;refine⟨?_,I⟩;exact QI
 refine mU ?_;refine ZW ?_ ?_<;>intro hc5
 .refine qA ?_;refine⟨?_,I⟩;exact QI
 refine jE ?_;refine⟨?_,I⟩;exact QI
theorem ado_ok(op a b:Int)(hb:0<=b)(w:World):CW prog 256 [.i op,.w a,.w b] w (.tuple #[.w (gP op a b).1,.w (gP op a b).2.1,.bool (gP op a b).2.2]):=by
 refine UB func256 ntmps256 ?_;refine jF ?_;refine VQ ?_ ?_<;>intro hc4
 .refine Ut ?_;refine kR ?_;refine py ?_;refine UD (λw hi=>more_ok a b w) ?_;refine UG ?_;exact Wt
 refine Ul ?_ ?_<;>intro hc6
 .refine Ut ?_;refine sT ?_;refine py ?_;refine UD (λw hi=>KY a b w) ?_;refine UG ?_;exact Wt
 refine Ul ?_ ?_<;>intro hc8
 .refine Ut ?_;refine UD (λw hi=>KY a b w) ?_;refine UG ?_;exact Wt
 refine Ul ?_ ?_<;>intro hc10
 .refine fo ?_;exact WO
 refine Ul ?_ ?_<;>intro hc12
 .refine fo ?_;exact WO
 refine Ul ?_ ?_<;>intro hc14
 .refine fo ?_;exact WO
 refine Ul ?_ ?_<;>intro hc16
 .exact Wx97_
 refine Ul ?_ ?_<;>intro hc18
 .exact Wx97_
 refine Ul ?_ ?_<;>intro hc20
 .refine Us ?_;refine Zy (fL ne ne I) ?_;refine UG ?_;exact WO
 refine Ul ?_ ?_<;>intro hc22
 .refine Vl ?_ ?_<;>intro hc23
  .refine gX ?_;exact Wt
  have hb0:b≠0:=by simpa using hc23
  refine Uu ?_;refine Zy (jW (Zv I) (Zv I) O (by first|exact IntWalk.u32_quo _ _ ⟨by omega,by omega,by omega⟩|exact rfl)) ?_;refine UG ?_;exact WO
 refine eK ?_;exact Wt
theorem PC(op f:Int)(w:World):CW prog 258 [.i op,.w f] w (.tuple #[.bool (cZ op f).1,.bool (cZ op f).2]):=by
 refine UB func258 ntmps258 ?_;refine IK ?_;refine ZW ?_ ?_<;>intro hc2
 .exact VX
 refine Ul ?_ ?_<;>intro hc4
 .exact VX
 refine Ul ?_ ?_<;>intro hc6
 .exact VX
 refine Ul ?_ ?_<;>intro hc8
 .exact VX
 refine Ul ?_ ?_<;>intro hc10
 .exact VX
 refine eK ?_;refine pd ?_;refine⟨?_,I⟩;exact sW
theorem Ct(b:Int)(w:World):CW prog 229 [.w b] w (.w (jC b)):=by
 refine UB func229 ntmps229 ?_;refine UG ?_;refine mL ?_;refine mL ?_;refine mL ?_;exact oR
theorem ON(op:Int)(w:World):CW prog 251 [.i op] w (.tuple #[.i ((bR op).1.1:Nat),.i ((bR op).1.2:Nat),.i ((bR op).2.1:Nat),.i ((bR op).2.2:Nat)]):=by
 refine UB func251 ntmps251 ?_;refine jF ?_;refine py ?_;refine ZW ?_ ?_<;>intro hc2
 .refine py ?_;refine bV I (hc2) (pJ ?_);exact Vf
 refine Ul ?_ ?_<;>intro hc3
 .refine py ?_;refine bV I (hc3) (pJ ?_);exact Vf
 refine VQ ?_ ?_<;>intro hc4
 .exact Vz
 refine Ul ?_ ?_<;>intro hc6
 .exact Vz
 refine Vl ?_ ?_<;>intro hc8
 .refine py ?_;refine bV I (hc8) (pJ ?_);exact Vf
 refine Ul ?_ ?_<;>intro hc9
 .refine py ?_;refine bV I (hc9) (pJ ?_);exact Vf
 refine Ul ?_ ?_<;>intro hc10
 .refine DU ?_;exact Vz
 refine VQ ?_ ?_<;>intro hc11
 .exact Vz
 refine Ul ?_ ?_<;>intro hc13
 .exact Vz
 refine Ul ?_ ?_<;>intro hc15
 .exact Vz
 refine Ul ?_ ?_<;>intro hc17
 .exact Vz
 refine Ul ?_ ?_<;>intro hc19
 .exact Vz
 refine Vl ?_ ?_<;>intro hc21
 .refine py ?_;refine bV I (hc21) (pJ ?_);exact Vf
 refine Ul ?_ ?_<;>intro hc22
 .refine py ?_;refine bV I (hc22) (pJ ?_);exact Vf
 refine Ul ?_ ?_<;>intro hc23
 .refine py ?_;refine bV I (hc23) (pJ ?_);exact Vf
 refine Ul ?_ ?_<;>intro hc24
 .refine py ?_;refine bV I (hc24) (pJ ?_);exact Vf
 refine Ul ?_ ?_<;>intro hc25
 .refine py ?_;refine bV I (hc25) (pJ ?_);exact Vf
 refine Ul ?_ ?_<;>intro hc26
 .refine py ?_;refine bV I (hc26) (pJ ?_);exact Vf
 refine Ul ?_ ?_<;>intro hc27
 .refine py ?_;refine bV I (hc27) (pJ ?_);exact Vf
 refine Ul ?_ ?_<;>intro hc28
 .refine py ?_;refine bV I (hc28) (pJ ?_);exact Vf
 refine VQ ?_ ?_<;>intro hc29
 .exact Vz
 refine Vl ?_ ?_<;>intro hc31
 .refine py ?_;refine bV I (hc31) (pJ ?_);exact Vf
 refine Ul ?_ ?_<;>intro hc32
 .refine py ?_;refine bV I (hc32) (pJ ?_);exact Vf
 refine Ul ?_ ?_<;>intro hc33
 .refine py ?_;refine bV I (hc33) (pJ ?_);exact Vf
 refine VQ ?_ ?_<;>intro hc34
 .exact Vz
 refine Vl ?_ ?_<;>intro hc36
 .refine py ?_;refine bV I (hc36) (pJ ?_);exact Vf
 refine Ul ?_ ?_<;>intro hc37
 .refine py ?_;refine bV I (hc37) (pJ ?_);exact Vf
 refine VQ ?_ ?_<;>intro hc38
 .exact Vz
 refine Ul ?_ ?_<;>intro hc40
 .exact Vz
 refine Ul ?_ ?_<;>intro hc42
 .exact Vz
 refine fo ?_;refine ret4 (cs':=[]) (.inl I) Zu I I I I I ⟨?_,I⟩;exact pD
structure Um where
 s:St
 count:Int
 SL:Tr
 device:Bool
abbrev Um.wd(R:Um)(l:Li):Um:=⟨⟨R.s.pc,l,R.s.r,R.s.flags,R.s.Sy,R.s.SJ,R.s.ie,R.s.root,R.s.vec,R.s.epc,R.s.SB,R.s.addr,R.s.SO,R.s.eie,R.s.count,R.s.halted⟩,R.count,R.SL,R.device⟩
abbrev Um.wr(R:Um)(l:Li):Um:=⟨⟨R.s.pc,R.s.d,l,R.s.flags,R.s.Sy,R.s.SJ,R.s.ie,R.s.root,R.s.vec,R.s.epc,R.s.SB,R.s.addr,R.s.SO,R.s.eie,R.s.count,R.s.halted⟩,R.count,R.SL,R.device⟩
abbrev Um.wt(R:Um)(t:Tr):Um:=⟨R.s,R.count,t,R.device⟩
abbrev wD(K:IP)(X:eN)(R:Um):bH:=row K.br [.w R.s.pc,.slice X.Ad (J R.s.d) X.cd,.slice X.Ar (J R.s.r) X.cr,.w R.s.flags,.bool R.s.Sy,.bool R.s.SJ,.bool R.s.ie,.w R.s.root,.w R.s.vec,.w R.s.epc,.w R.s.SB,.w R.s.addr,.bool R.s.SO,.bool R.s.eie,.int .u64 R.s.count,.bool R.s.halted,.int .u64 R.count,.pointer K.u,.pointer K.b,.i R.SL.SB,.w R.SL.addr,.bool R.device] 328
abbrev gz(K:IP)(X:eN)(R:Um):List bH:=[wD K X R,UP R.s X.Ad X.cd,UU R.s X.Ar X.cr]
theorem oT(K:IP)(X:eN)(R:Um)(l:Li)(x:Int):CI prog 254 [.p K.br] (gz K X (R.wd (l++[x]))) (λv cs=>v= .w x/\cs=gz K X (R.wd l)):=λw hi=>by
 have hrd:=ee (hi.get (.tail _ (.head _ _)));have hcap:J (l++[x])<=X.cd:=hrd.cap;have hmax:=hrd.max;simp only[maxLen]at hmax;have hlen:J (l++[x])=J l+1:=by simp
 obtain⟨Ad,cd,Ar,cr⟩:=X;obtain⟨bd,rfl⟩:=dp (hi.get (.tail _ (.head _ _))) (show 0<J (l++[x]) by omega);have hcap:J (l++[x])<=cd:=hcap;have hdl:(R.wd (l++[x])).s.d.length=J l+1:=hlen;have hmax:cd<=_:=hmax;refine UH func254 ntmps254 hi ?_;refine Ro ?_;refine Wq242 ?_;refine Us ?_;refine nQ ?_;refine Rm ?_;refine IM ?_;exact ff
theorem J3(K:IP)(X:eN)(R:Um)(l:Li)(x:Int):CI prog 255 [.p K.br] (gz K X (R.wr (l++[x]))) (λv cs=>v= .w x/\cs=gz K X (R.wr l)):=λw hi=>by
 have hrd:=ee (hi.get (.tail _ (.tail _ (.head _ _))));have hcap:J (l++[x])<=X.cr:=hrd.cap;have hmax:=hrd.max;simp only[maxLen]at hmax;have hlen:J (l++[x])=J l+1:=by simp
 obtain⟨Ad,cd,Ar,cr⟩:=X;obtain⟨bd,rfl⟩:=dp (hi.get (.tail _ (.tail _ (.head _ _)))) (show 0<J (l++[x]) by omega);have hcap:J (l++[x])<=cr:=hcap;have hdl:(R.wr (l++[x])).s.r.length=J l+1:=hlen;have hmax:cr<=_:=hmax;refine UH func255 ntmps255 hi ?_;refine Ro ?_;refine Wq242 ?_;refine Us ?_;refine nQ ?_;refine ZH ?_;refine IM ?_;exact ff
theorem jd(K:IP)(X:eN)(R:Um)(A:Oa)(n c:Nat)(ys:Li)(hs:J R.s.d+n<=1000000)(w:World)(hi:Inv w (bK (gz K X R)) (gz K X R) w)(h:∀w',cX (bK (gz K X R)) w w'->Rd w' .u32 A n c ys):
  Uz prog 253 [.p K.br,.slice A n c] w (gz K X R) (λv cs=>∃A' c',v= .tuple #[]/\cs=gz K ⟨A',c',X.Ar,X.cr⟩ (R.wd (R.s.d++ys))):=by
 have hl:n=J ys:=by have:=(h w (cX.refl _ _)).len;rw[du]at this;omega
 subst hl;refine UH func253 ntmps253 hi ?_;refine UG ?_;refine gJ (cu (e:=32) (sz:=1) (bytes:=4) I I Za I I (λw hi=>h w hi.S1) cP (by simp only[maxLen];omega) O) rfl ?_;rintro _ _ ⟨A',c',rfl,rfl⟩;refine Us ?_;refine ZL ?_;refine Zn (gK (cs':=[row _ _ _,slv _ _ _ _ _ _,slv _ _ _ _ _ _]) (.inr I) Zu I ?_);exact⟨A',c',I,by simp only[gz,wD,UP,UU,ar,bY]⟩
theorem yQ(K:IP)(X:eN)(R:Um)(SB addr:Int):CI prog 257 [.p K.br,.i SB,.w addr] (gz K X R) (λv cs=>v= .tuple #[]/\cs=gz K X (R.wt ⟨SB,addr⟩)):=λw hi=>by
 refine UH func257 ntmps257 hi ?_;refine Ux ?_;refine et (fN (n:=2) (vs:=[.i SB,.w addr]) ir I I (ka I) Za I Iv) ?_;refine Uw ?_;exact Wx78_
theorem N4(K:IP)(X:eN)(R:Um)(w:World)(h:(wD K X R).ok w):
  CW prog 325 [.p K.br] w (.agg #[.bool R.s.SJ,.bool R.s.Sy,.w R.s.root]):=by
 refine UB func325 ntmps325 ?_;refine py ?_;refine ZN λb2=>?_;refine Us ?_;refine bN (UK [16]) Zk (rK ?_);refine Ld 3 5 ?_;refine US 4 I (bL ir (Zv I)) (cS gx I) ?_;refine qC ?_;refine Ld 7 0 ?_;refine Ld 8 4 ?_;refine US 9 I (bL ir (Zv I)) (cS gx I) ?_;refine ZE 10 ?_;refine ZE 11 ?_;refine Ld 12 0 ?_;refine Ld 13 7 ?_;refine US 14 I (bL ir (Zv I)) (cS gx I) ?_;refine ZE 15 ?_;refine cQ 16 Zk (ZR ?_);refine pI ?_;exact D2
def Um.top(R:Um):Int:=R.s.d.getLastD 0
def Um.topR(R:Um):Int:=R.s.r.getLastD 0
def Um.pop(R:Um):Um:=R.wd R.s.d.dropLast
def Um.Ti(R:Um):Um:=R.wr R.s.r.dropLast
def Um.push(R:Um)(l:Li):Um:=R.wd (R.s.d++l)
def Um.TY(R:Um)(x:Int):Um:=R.wr (R.s.r++[x])
abbrev Um.wpc(R:Um)(x:Int):Um:=⟨⟨x,R.s.d,R.s.r,R.s.flags,R.s.Sy,R.s.SJ,R.s.ie,R.s.root,R.s.vec,R.s.epc,R.s.SB,R.s.addr,R.s.SO,R.s.eie,R.s.count,R.s.halted⟩,R.count,R.SL,R.device⟩
abbrev Um.wfl(R:Um)(x:Int):Um:=⟨⟨R.s.pc,R.s.d,R.s.r,x,R.s.Sy,R.s.SJ,R.s.ie,R.s.root,R.s.vec,R.s.epc,R.s.SB,R.s.addr,R.s.SO,R.s.eie,R.s.count,R.s.halted⟩,R.count,R.SL,R.device⟩
variable{R:Um}
theorem Um.snoc(h:1<=J R.s.d):∃(R':Um) (l:Li) (x:Int),R=R'.wd (l++[x]):=by
 obtain⟨l,x,h⟩:=qQ h;exact⟨R,l,x,by rw[Um.wd,<-h]⟩
theorem Um.TU(h:1<=J R.s.r):∃(R':Um) (l:Li) (x:Int),R=R'.wr (l++[x]):=by
 obtain⟨l,x,h⟩:=qQ h;exact⟨R,l,x,by rw[Um.wr,<-h]⟩
theorem Um.Tp(h:2<=J R.s.d):∃(R':Um) (l:Li) (x y:Int),R=R'.wd ((l++[x])++[y]):=by
 obtain⟨R1,l,y,rfl⟩:=Um.snoc (R:=R) O;have h:2<=J (l++[y]):=h;obtain⟨m,x,rfl⟩:=qQ (l:=l) (by simp at h;omega);exact⟨R1,m,x,y,I⟩
@[simp] theorem Um.top_wd (R:Um) (l:Li) (x:Int):(R.wd (l++[x])).top=x:=by simp[Um.top,List.getLastD_concat]
@[simp] theorem Um.pop_wd (R:Um) (l:Li) (x:Int):(R.wd (l++[x])).pop=R.wd l:=by simp[Um.pop]
@[simp] theorem Um.topR_wr (R:Um) (l:Li) (x:Int):(R.wr (l++[x])).topR=x:=by simp[Um.topR,List.getLastD_concat]
@[simp] theorem Um.popR_wr (R:Um) (l:Li) (x:Int):(R.wr (l++[x])).Ti=R.wr l:=by simp[Um.Ti]
def cV(op n:Int)(R:Um):Option Um:=
 bif op==0 then some R else bif op==1 then some (R.push [n])else bif op==2 then some (R.push [n])else bif op==3 then some (R.pop.push [R.top,R.top])else bif op==4 then some R.pop else
 bif op==5 then some (R.pop.pop.push [R.top,R.pop.top])else bif op==6 then some (R.pop.pop.push [R.pop.top,R.top,R.pop.top])else bif op==7 then some (R.pop.TY R.top)else bif op==8 then some (R.Ti.push [R.topR])else none
theorem mq(n:Int)(R:Um)(l:Li)(x:Int):cV 3 n (R.wd (l++[x]))=some (R.wd (l++[x,x])):=by
 show some _=_;rw[Um.top_wd,Um.pop_wd];rfl
theorem la(n:Int)(R:Um)(l:Li)(x:Int):cV 4 n (R.wd (l++[x]))=some (R.wd l):=by
 show some _=_;rw[Um.pop_wd]
theorem k8(n:Int)(R:Um)(l:Li)(x y:Int):cV 5 n (R.wd ((l++[x])++[y]))=some (R.wd (l++[y,x])):=by
 show some _=_;rw[Um.top_wd,Um.pop_wd,Um.top_wd,Um.pop_wd];rfl
theorem k9(n:Int)(R:Um)(l:Li)(x y:Int):cV 6 n (R.wd ((l++[x])++[y]))=some (R.wd (l++[x,y,x])):=by
 show some _=_;rw[Um.top_wd,Um.pop_wd,Um.top_wd,Um.pop_wd];rfl
theorem mn(n:Int)(R:Um)(l:Li)(x:Int):cV 7 n (R.wd (l++[x]))=some ((R.wd l).wr (R.s.r++[x])):=by
 show some _=_;rw[Um.top_wd,Um.pop_wd];rfl
theorem jZ(n:Int)(R:Um)(l:Li)(x:Int):cV 8 n (R.wr (l++[x]))=some ((R.wr l).wd (R.s.d++[x])):=by
 show some _=_;rw[Um.topR_wr,Um.popR_wr];rfl
theorem nh{op:Int}(n:Int)(R:Um)(h0:(op==0)=false)(h1:(op==1)=false)(h2:(op==2)=false)(h3:(op==3)=false)(h4:(op==4)=false)(h5:(op==5)=false)(h6:(op==6)=false)(h7:(op==7)=false)(h8:(op==8)=false):cV op n R=none:=by
 simp only[cV, *,ac]
theorem N3(K:IP)(X:eN)(R:Um)(op n:Int)(hd:J R.s.d<=100000)(hr:J R.s.r<=100000)(hn:(bR op).1.1<=J R.s.d)(hnr:(bR op).2.1<=J R.s.r):CI prog 199 [.p K.br,.agg #[.i op,.w n]] (gz K X R) (λv cs=>∃X',v= .bool (cV op n R).isSome/\cs=gz K X' ((cV op n R).getD R)):=λw hi=>by
 refine UH func199 ntmps199 hi ?_;refine py ?_;refine ZO λb3=>?_;refine vY ?_;refine ZW ?_ ?_<;>intro hc3
 .obtain rfl:=gO hc3;have hst:cV 0 n R=some R:=rfl;refine UE ?_;exact Na
 refine Vl ?_ ?_<;>intro hc4
 .obtain rfl:=gO hc4;have hst:cV 1 n R=some (R.push [n]):=rfl;refine py ?_;exact bV I (hc4) Wq350
 refine VQ ?_ ?_<;>intro hc5
 .obtain rfl:=gO hc5;have hst:cV 2 n R=some (R.push [n]):=rfl;exact Wq350
 refine Ul ?_ ?_<;>intro hc7
 .obtain rfl:=gO hc7;obtain⟨R,l,x,rfl⟩:=Um.snoc (show 1<=J R.s.d from hn);have hst:=mq n R l x;have hll:J l+1<=100000:=(by have:J (l++[x])<=100000:=hd;simpa using this);refine Us ?_;refine YH ?_;refine Ux ?_;refine jP ?_;rintro _ _ ⟨b29,rfl,rfl⟩;refine V7 (gz K X (R.wd l)) (λw hi hin=>jd K X (R.wd l) _ 2 2 [x,x] (show J l+2<=1000000 by omega) w hin (λw' hk=>hi.TC Zi Zh hk)) ?_;exact D3
 refine Ul ?_ ?_<;>intro hc10
 .obtain rfl:=gO hc10;obtain⟨R,l,x,rfl⟩:=Um.snoc (show 1<=J R.s.d from hn);have hst:=la n R l x;refine py ?_;refine YH ?_;refine UE ?_;exact Na
 refine Ul ?_ ?_<;>intro hc12
 .obtain rfl:=gO hc12;obtain⟨R,l,x,y,rfl⟩:=Um.Tp (show 2<=J R.s.d from hn);have hst:=k8 n R l x y;have hll:J l+2<=100000:=ZK;refine Z8 ?_;refine UG ?_;refine jP ?_;rintro _ _ ⟨b44,rfl,rfl⟩;refine V7 (gz K X (R.wd l)) (λw hi hin=>jd K X (R.wd l) _ 2 2 [y,x] (show J l+2<=1000000 by omega) w hin (λw' hk=>hi.TC Zi Zh hk)) ?_;exact D3
 refine Ul ?_ ?_<;>intro hc15
 .obtain rfl:=gO hc15;obtain⟨R,l,x,y,rfl⟩:=Um.Tp (show 2<=J R.s.d from hn);have hst:=k9 n R l x y;have hll:J l+2<=100000:=ZK;refine Z8 ?_;refine UE ?_;refine jP ?_;rintro _ _ ⟨b56,rfl,rfl⟩;refine V7 (gz K X (R.wd l)) (λw hi hin=>jd K X (R.wd l) _ 3 3 [x,y,x] (show J l+3<=1000000 by omega) w hin (λw' hk=>hi.TC Zi Zh hk)) ?_;exact D3
 refine Ul ?_ ?_<;>intro hc18
 .obtain rfl:=gO hc18;obtain⟨R,l,x,rfl⟩:=Um.snoc (show 1<=J R.s.d from hn);have hst:=mn n R l x;have hrr:J R.s.r<=100000:=hr;have hrr2:(R.wd l).s.r.length<=100000:=hr;refine bN (UK [7,9,13]) Zk (sU ?_);refine Ld 4 2 ?_;refine ZE 6 ?_;refine rU 5 7 Zk ?_ ?_
  .refine pE ?_;refine iW ?_;refine rH (gz K X (R.wd (l++[x]))) (λw hi hin=>oT K X R l x w hin) ?_;refine Uw ?_;exact Wx21_
  refine rH (gz K X (R.wd (l++[x]))) (λw hi hin=>oT K X R l x w hin) ?_;refine Uw ?_;refine ZG 5 ?_;exact Wx21_
 refine Ul ?_ ?_<;>intro hc20
 .obtain rfl:=gO hc20;obtain⟨R,l,x,rfl⟩:=Um.TU (show 1<=J R.s.r from hnr);have hst:=jZ n R l x;have hdd:J R.s.d<=100000:=hd;refine Us ?_;refine U5 (gz K X (R.wr (l++[x]))) (λw hi hin=>J3 K X R l x w hin) ?_;refine jP ?_;rintro _ _ ⟨b78,rfl,rfl⟩;refine V7 (gz K X (R.wr l)) (λw hi hin=>jd K X (R.wr l) _ 1 1 [x] (show J R.s.d+1<=1000000 by omega) w hin (λw' hk=>hi.TC Zi Zh hk)) ?_;exact D3
 have hst:=nh n R hc3 hc4 hc5 hc7 hc10 hc12 hc15 hc18 hc20;refine UG ?_;exact Na
def fW(R:Um)(n:Int):Int:=V9 .u32 (R.s.pc+jC n)
def bS(op n:Int)(R:Um):Bool×Um:=
 bif decide (16<=op)&&decide (op<=25)then
  (true,bif op !=25 then((bif(gP op R.pop.top R.top).2.2 then R.pop.pop else R.pop.pop.wt ⟨5,0⟩).wfl (gP op R.pop.top R.top).2.1).push [(gP op R.pop.top R.top).1]else(bif(gP op R.pop.top R.top).2.2 then R.pop.pop else R.pop.pop.wt ⟨5,0⟩).wfl (gP op R.pop.top R.top).2.1)
 else bif op==38 then(true,(R.TY R.s.pc).wpc (fW R n))else bif op==32 then(true,R.wpc (fW R n))else bif op==39 then(true,R.Ti.wpc R.topR)else bif op==40 then(true,R.pop.wpc R.top)else
 ((cZ op R.s.flags).2,bif(cZ op R.s.flags).1 then R.wpc (fW R n)else R)
theorem JU(K:IP)(X:eN)(R:Um)(op n:Int)(hw:∀x,x∈R.s.d->u32 x)(hd:J R.s.d<=100000)(hr:J R.s.r<=100000)(hn:(bR op).1.1<=J R.s.d)(hnr:(bR op).2.1<=J R.s.r):CI prog 200 [.p K.br,.agg #[.i op,.w n]] (gz K X R) (λv cs=>∃X',v= .bool (bS op n R).1/\cs=gz K X' (bS op n R).2):=λw hi=>by
 have HS:=Ct n;have HA:=ado_ok op;have HH:=PC op R.s.flags;obtain⟨th,hth⟩:=Uk (fW R n);have hth':=hth;unfold fW at hth';obtain⟨sg,hsg⟩:=Uk (jC n);rw[hsg]at HS hth';refine UH func200 ntmps200 hi ?_;refine py ?_;refine ZO λb3=>?_;refine Ut ?_;refine B7 ?_;refine Ld 2 0 ?_;refine Ld 3 0 ?_;refine ZG 4 ?_;refine Ld 5 1 ?_;refine ZG 6 ?_;refine iW ?_;refine VF (λw hi=>HS w) ?_;refine Uw ?_;refine UF 8 I (dr ne ne hth') ?_;refine ZE 9 ?_;refine fe ?_;refine jF ?_;refine V2 ?_;refine ZW ?_ ?_<;>intro hc7
 .rw[yv hc7]at hn;obtain⟨R,l,x,y,rfl⟩:=Um.Tp hn;have hll:J l+2<=100000:=ZK;have HA:=HA x y (hw y cE).1;obtain⟨⟨v,fl,ok⟩,hq⟩:=Uk (gP op x y);rw[hq]at HA;have hst:bS op n (R.wd ((l++[x])++[y]))=(true,bif op !=25 then((bif ok then R.wd l else(R.wd l).wt ⟨5,0⟩).wfl fl).push [v]else(bif ok then R.wd l else(R.wd l).wt ⟨5,0⟩).wfl fl):=(by simp only[bS,hc7,ae,Um.top_wd,Um.pop_wd,hq]);refine Z8 ?_;refine UE ?_;refine UD (λw hi=>HA w) ?_;refine mU ?_;refine ZW ?_ ?_<;>intro hc10
  .obtain rfl:ok=false:=(by simpa using hc10);have hR:∃Q,Q=(R.wd l).wt ⟨5,0⟩:=⟨_,I⟩;refine py ?_;refine U5 (gz K X (R.wd l)) (λw hi hin=>yQ K X (R.wd l) 5 0 w hin) ?_;refine UE ?_;refine ZL ?_;refine V1 ?_ ?_<;>intro hc13
   .simp only[hc13,ae,ac]at hst;refine Us ?_;refine jP ?_;rintro _ _ ⟨b74,rfl,rfl⟩;refine V7 (gz K X (((R.wd l).wt ⟨5,0⟩).wfl fl)) (λw hi hin=>jd K X (((R.wd l).wt ⟨5,0⟩).wfl fl) _ 1 1 [v] (show J l+1<=1000000 by omega) w hin (λw' hk=>hi.TC Zi Zh hk)) ?_;exact D3
   simp only[hc13,ae,ac]at hst;refine UE ?_;exact Na
  obtain rfl:ok=true:=(by simpa using hc10);refine UE ?_;refine ZL ?_;refine V1 ?_ ?_<;>intro hc13
  .simp only[hc13,ae,ac]at hst;refine Us ?_;refine jP ?_;rintro _ _ ⟨b74,rfl,rfl⟩;refine V7 (gz K X ((R.wd l).wfl fl)) (λw hi hin=>jd K X ((R.wd l).wfl fl) _ 1 1 [v] (show J l+1<=1000000 by omega) w hin (λw' hk=>hi.TC Zi Zh hk)) ?_;exact D3
  simp only[hc13,ae,ac]at hst;refine UE ?_;exact Na
 refine Vl ?_ ?_<;>intro hc15
 .have hst:bS op n R=(true,(R.TY R.s.pc).wpc th):=(by simp only[bS, *,ae,ac]);refine Zs (bN (UK [12,16]) Zk ?_);refine sU ?_;refine Ld 4 2 ?_;refine ZG 5 ?_;refine ZE 6 ?_;refine ZE 7 ?_;refine Ld 8 0 ?_;refine Ld 9 0 ?_;refine mh ?_;refine pE ?_;refine cQ 11 Zk (vO ?_);rintro _ _ ⟨b90,rfl,rfl⟩;refine cQ 12 Zk (jX I I (cu (e:=32) (sz:=1) (bytes:=4) I I Za I I (λw hi=>hi.rd (Ur (slv 32 1 (sA b90) 1 1 (ints .u32 [R.s.pc])))) cP gI O) ZJ I ?_);rintro _ _ ⟨A',c',rfl,rfl⟩;refine ZE 13 ?_;refine Ld 14 0 ?_;refine Ld 15 2 ?_;refine cQ 16 Zk (ke ?_);refine Ux ?_;refine nQ ?_;refine IM ?_;rw[hst];refine⟨⟨X.Ad,X.cd,A',c'⟩,I,?_⟩;simp only[gz,wD,UP,UU,Um.TY,ar,bY,aE,bC,bA]
 refine Vl ?_ ?_<;>intro hc18
 .have hst:bS op n R=(true,R.wpc th):=(by simp only[bS, *,ae,ac]);refine UA ?_;refine nQ ?_;exact Na
 refine Vl ?_ ?_<;>intro hc20
 .obtain rfl:=gO hc20;obtain⟨R,l,x,rfl⟩:=Um.TU (show 1<=J R.s.r from hnr);have hst:bS 39 n (R.wr (l++[x]))=(true,(R.wr l).wpc x):=(by show(_,_)=_;rw[Um.popR_wr,Um.topR_wr]);refine Us ?_;refine U5 (gz K X (R.wr (l++[x]))) (λw hi hin=>J3 K X R l x w hin) ?_;refine Us ?_;refine nQ ?_;exact Na
 refine Vl ?_ ?_<;>intro hc22
 .obtain rfl:=gO hc22;obtain⟨R,l,x,rfl⟩:=Um.snoc (show 1<=J R.s.d from hn);have hst:bS 40 n (R.wd (l++[x]))=(true,(R.wd l).wpc x):=(by show(_,_)=_;rw[Um.pop_wd,Um.top_wd]);refine Us ?_;refine YH ?_;refine Us ?_;refine nQ ?_;exact Na
 have hst:bS op n R=((cZ op R.s.flags).2,bif(cZ op R.s.flags).1 then R.wpc th else R):=(by simp only[bS, *,ae,ac]);obtain⟨⟨g,o⟩,hq⟩:=Uk (cZ op R.s.flags);rw[hq]at hst HH;refine UG ?_;refine UD (λw hi=>HH w) ?_;refine iR ?_;refine ZW ?_ ?_<;>intro hc4
 .obtain rfl:g=true:=hc4;refine UA ?_;refine ZL ?_;refine gX ?_;exact Na
 obtain rfl:g=false:=hc4;refine gX ?_;exact Na
end
end Go.Ink
