/- Lemmas. -/
import Derived.Test.YtepfimeihngjoaaGreatDoorXaz
import Derived.Test.YtepfimeihngjoaaGreatDoorXba
set_option linter.all false
set_option maxRecDepth 100000
set_option maxHeartbeats 4000000
namespace Go.Ink
open List renaming length→J, replicate→R9
open IntKind renaming wrap→V9
open Go.RowKit Go.Proofs.Tryz
def zM(op nn:Int)(k:Nat):List Int:=V9 .u8 op::(List.range (k - 1)).map (encB nn)
def qH(op nn:Int):List Int:=zM op nn (max 1 (cB op).toNat)
theorem Cg(op nn:Int){k:Nat}(h:1<=k):J (zM op nn k)=k:=by simp[zM];omega
theorem IB(op nn:Int){k:Nat}(h:1<=k):zM op nn (k+1)=zM op nn k++[encB nn (k - 1)]:=by
 obtain⟨j,rfl⟩:∃j,k=j+1:=⟨k - 1,by omega⟩;simp[zM,List.range_succ]
theorem ul(x:Int):0<=V9 .u8 x/\V9 .u8 x<=255:=by
 have e:V9 .u8 x=x%256:=by simp[IntKind.wrap,IntKind.bits,IntKind.signed]
 rw[e];omega
theorem Qi(op nn:Int):Vh (qH op nn):=by
 intro x hx;unfold qH zM at hx;rcases aI.1 hx with rfl|hx
 .exact ul _
 obtain⟨j, -,rfl⟩:=List.mem_map.1 hx;exact ul _
theorem Ch(op nn:Int):1<=J (qH op nn)/\J (qH op nn)<=5:=by
 unfold qH;rw[Cg _ _ O];have:cB op=0\/cB op=1\/cB op=2\/cB op=5:=iR op;omega
def mm(l:List (Int×Int))(k:Nat):List Int:=(l.take k).flatMap λi=>qH i.1 i.2
def g9(l:List (Int×Int)):List Int:=mm l (J l)
variable{l:List (Int×Int)}{k:Nat}{i:Int×Int}
theorem v6(h:l[k]? =some i):mm l (k+1)=mm l k++qH i.1 i.2:=by
 unfold mm;rw[List.take_add_one,h];simp
theorem kD(l:List (Int×Int)):∀k,J (mm l k)<=5*k
 |0=>by simp[mm]
 |k+1=>by
  cases h:l[k]? with
  |none=>
   unfold mm;rw[List.take_add_one,h];have:=kD l k;unfold mm at this;simp only[Option.toList_none,aD];omega
  |some i=>
   rw[v6 h,ar];have:=kD l k;have:=(Ch i.1 i.2).2;omega
theorem mj(l:List (Int×Int))(k:Nat):Vh (mm l k):=by
 intro x hx;unfold mm at hx;obtain⟨i, -,h⟩:=List.mem_flatMap.1 hx;exact Qi _ _ x h
section
attribute [local irreducible] Ve bN
theorem enc_ok(op nn:Int)(w:World):UW prog 81 [.agg #[.i op,.w nn]] w [] (λv cs=>∃A c,v= .slice A (J (qH op nn)) c/\cs=[sl .u8 5 A (J (qH op nn)) c (qH op nn)]):=by
 have hz5:cB op=0\/cB op=1\/cB op=2\/cB op=5:=iR op;have HS:=oz op;obtain⟨z,hz⟩:∃z:Nat,cB op=z:=aj O;have he:qH op nn=zM op nn (max 1 z):=by unfold qH;rw[hz];rfl
 rw[he,Cg _ _ O];rw[hz]at hz5 HS;refine UV func81 ntmps81 ?_;refine An ?_;refine ZO λb1=>?_;refine US ?_;refine Jf ?_;refine jQ ?_;rintro _ _ ⟨b8,rfl,rfl⟩;refine eL ?_;refine Vs (λq:Nat×Option Addr×Nat=>[(1,.p b1),(3,.slice q.2.1 q.1 q.2.2),(4,.i (q.1:Int))]) (λq=>[row b1 [.i op,.w nn] 51,sl .u8 5 q.2.1 q.1 q.2.2 (zM op nn q.1)]) (λq=>1<=q.1/\q.1<=max 1 z) (λq=>10 - q.1) ((⟨1,some ⟨b8,0,none⟩,1⟩:Nat×Option Addr×Nat)) ⟨aK _,by omega⟩ ?_;rintro⟨k,A,c⟩ ⟨hk1,hkz⟩;dsimp only at hk1 hkz|-;refine UU ?_;refine UZ (λw hi=>HS w) ?_;refine VP ?_ ?_<;>intro hc3
 .simp only[ai]at hc3;refine U8 ?_;refine Zy (ez (Zv I) (Zv I) (show _=((k - 1:Nat):Int)from by rw[aQ _ ⟨by omega,by omega⟩];omega)) ?_;refine IS ?_;refine Zy (fT (Zv I) (Zv I) (show _=((8*(k - 1):Nat):Int)from by rw[u64_wrap_id _ O O];omega)) ?_;refine qT ?_;refine Zy (cz I I (Zv I) (show _=encB nn (k - 1)from I)) ?_;refine jQ ?_;rintro _ _ ⟨b25,rfl,rfl⟩;refine gS (cC (e:=5) (sz:=1) (bytes:=1) I I Za I I (λw hi=>hi.rd (UJ (slv 5 1 (sA b25) 1 1 (ints .u8 [encB nn (k - 1)])))) cR gD O) I ?_;rintro _ _ ⟨A2,c2,rfl,rfl⟩;rw[cy,<-IB op nn hk1];refine UU ?_;refine W8 ?_;refine Vd ((⟨k+1,A2,c2⟩:Nat×Option Addr×Nat)) ⟨⟨show 1<=k+1 by omega,show k+1<=max 1 z by omega⟩,show 10 - (k+1)<10 - k by omega⟩
 simp only[aa]at hc3;obtain rfl:k=max 1 z:=O;refine fR ?_;refine VA ([slv _ _ _ _ _ _]) ?_;exact⟨A,c,I,I⟩
theorem vZ(A:Oa)(c:Nat)(l:List (Int×Int))(hl:J l<=1000)(w:World)(h:U5 w 2 A (J l) c (l.flatMap fY)):UW prog 24 [.slice A (J l) c] w [] (λv cs=>∃A' c',v= .slice A' (J (g9 l)) c'/\cs=[sl .u8 5 A' (J (g9 l)) c' (g9 l)]):=by
 refine UV func24 ntmps24 ?_;refine mv ?_;refine dB 5 1 (UK ?_);refine Vs (λq:Nat×Option Addr×Nat=>[(0,.slice A (J l) c),(3,.slice q.2.1 (J (mm l q.1)) q.2.2),(4,.i (q.1:Int))]) (λq=>[sl .u8 5 q.2.1 (J (mm l q.1)) q.2.2 (mm l q.1)]) (λq=>q.1<=J l) (λq=>J l - q.1) ((⟨0,none,0⟩:Nat×Option Addr×Nat)) (ax _) ?_;rintro⟨k,A1,c1⟩ hk;dsimp only at hk|-;have hcl:=kD l k;refine Wc ?_ ?_<;>intro hc3
 .simp only[ai]at hc3;have hkl:k<J l:=O;obtain⟨ad,rfl⟩:=h.some_ O;have hla:l[k]? =some (l[k]'hkl):=ak hkl;obtain⟨⟨op,nn⟩,ha⟩:=Do (l[k]'hkl);rw[ha]at hla;have hel:=Ch op nn;refine Va ?_;refine GA ?_;refine dZ (bX (vs:=[.i op,.w nn]) ir ir py) (fB h (λj v hj=>fw BT (i:=j) hla hj)) I (Vl (λw hi=>enc_ok op nn w) ?_);rintro _ _ ⟨A2,c2,rfl,rfl⟩;refine gS (cC (e:=5) (sz:=1) (bytes:=1) I I Za I I (λw hi=>hi.rd (UJ (sl .u8 5 A2 (J (qH op nn)) c2 (qH op nn)))) cR gD O) I ?_;rintro _ _ ⟨A3,c3,rfl,rfl⟩;rw[cy,<-ar,<-v6 hla];refine UU ?_;refine W8 ?_;refine Vd ((⟨k+1,A3,c3⟩:Nat×Option Addr×Nat)) ⟨show k+1<=J l by omega,show J l - (k+1)<J l - k by omega⟩
 simp only[aa]at hc3;obtain rfl:k=J l:=O;refine fR ?_;refine VA ([slv _ _ _ _ _ _]) ?_;exact⟨A1,c1,I,I⟩
theorem Sg:St.new.wf:=⟨u0,u0,u0,u0,u0,u0,u0,⟨Int.le_refl _,show(0:Int)<=18446744073709551615 by decide⟩,λx hx=>(by cases hx),λx hx=>by cases hx⟩
variable{n:Nat}
theorem B7{l k:Li}(hl:J l<=n*64)(hb:Vh l)(hk:J k<=1024)(hkb:Vh k):VN n St.new ⟨UO.init n l,cX⟩ (UF.init k):=
 ⟨Sg,rfl,⟨TT hl hb,rc⟩,UF.TT hk hkb,⟨Int.le_refl _,show(0:Int)<=255 by decide⟩⟩
theorem DU(A:Oa)(c n:Nat)(l:Li)(hn:n<=64)(hl:J l<=n*64)(w:World)(h:Rd w .u8 A (J l) c l):
  UW prog 68 [.i n,.slice A (J l) c] w [] (λv cs=>∃K,v= .p K.bm/\cs=nD K n (kL n l) (R9 n false)):=by
 refine UV func68 ntmps68 ?_;refine Va ?_;refine Vl (λw hi=>Hq n hn w) ?_;rintro _ _ ⟨K,rfl,rfl⟩;refine eL ?_;refine Ra ?_;rintro _ _ ⟨rfl,rfl⟩;have hd2:(ints .u8 (R9 (n*64) 0)).take 0++(ints .u8 l).take (min (J l) (n*64))++(ints .u8 (R9 (n*64) 0)).drop (0+min (J l) (n*64))=ints .u8 (kL n l):=(by rw[Nat.min_eq_left hl];simp[ints,kL,List.take_of_length_le]);rw[hd2];refine U8 ?_;refine VA ((nD K n (kL n l) (R9 n false))) ?_;exact⟨K,I,I⟩
theorem pB(A B:Oa)(c e n:Nat)(l k:Li)(hn:n<=64)(hl:J l<=n*64)(hk:J k<=1024)(w:World)(h:Rd w .u8 A (J l) c l)(hB:Rd w .u8 B (J k) e k):
  UW prog 15 [NZ A c l B e k n] w [] (λv cs=>∃bg K bx by_ bd,v= .p bg/\cs=row bg (St.new.cells (.slice none 0 0) (.slice none 0 0)++[.p bx,.p by_]) 41::(nD K n (kL n l) (R9 n false)++[fv bx K.bm cX]++eI by_ K.bm bd ⟨none,0,none,0⟩ (UF.init k))):=by
 have H1:=DU A c n l hn hl;have H3:=λbm w h=>DH bm B e k hk w h
 obtain⟨d,hd⟩:=Do (UF.init k);obtain⟨data,hda⟩:=Do (kL n l);obtain⟨tu,htu⟩:=Do (R9 n false);rw[hd]at H3|-;rw[hda,htu]at H1|-;refine UV func15 ntmps15 ?_;refine An ?_;refine ZO λb1=>?_;refine U8 ?_;refine Vl (λw hi=>H1 w (h.Tb hi)) ?_;rintro _ _ ⟨K,rfl,rfl⟩;refine Vl (λw hi=>DI K.bm w) ?_;rintro _ _ ⟨bx,rfl,rfl⟩;refine UK ?_;refine jf ?_;refine CA ?_;refine ZE 3 ?_;refine UE 4 0 ?_;refine ZG 5 ?_;refine UE 6 1 ?_;refine ZG 7 ?_;refine gg ?_;refine V1 (λw hi=>H3 K.bm w (hB.Tb hi)) ?_;rintro _ _ ⟨by_,bd,rfl,rfl⟩;refine ZE 9 ?_;refine cP 10 Zk (wZ ?_);rintro _ _ ⟨b20,rfl,rfl⟩;refine ZE 11 ?_;refine pk ?_;refine bK (row b20 (St.new.cells (.slice none 0 0) (.slice none 0 0)++[.p bx,.p by_]) 41::(nD K n data tu++[fv bx K.bm cX]++eI by_ K.bm bd ⟨none,0,none,0⟩ d)) Zj (VA ((row b20 (St.new.cells (.slice none 0 0) (.slice none 0 0)++[.p bx,.p by_]) 41::(nD K n data tu++[fv bx K.bm cX]++eI by_ K.bm bd ⟨none,0,none,0⟩ d))) ?_);exact⟨b20,K,bx,by_,bd,I,I⟩
theorem OK{v:Nat}(hk:k<8):Int.fdiv (v:Int) (2^(min (Int.toNat (k:Int)) IntKind.u32.bits))=((v/2^k:Nat):Int):=by
 have e:min (Int.toNat (k:Int)) IntKind.u32.bits=k:=by show min (Int.toNat (k:Int)) 32=k;omega
 rw[e,Int.fdiv_eq_ediv_of_nonneg _ (by exact Int.le_of_lt (Int.pow_pos ne))];simp
theorem w7.Tm(a:w7):J a.cells=5:=rfl
variable{b:Li}
section
variable{n:Nat}{op nn:Int}{s:St}{U:UI}{d:UF}{M:UO}{R:UG}
theorem Em(h:VO d)(k:Int)(v:Nat):VO (bU n M d k v).2.2:=by
 unfold bU dp
 repeat (first|exact h|exact⟨h.i64⟩|refine bL (λq:Bool×UO×UF=>VO q.2.2) ?_ ?_)
theorem lode_in(h:VO d)(va:Nat):VO (eP n R U d va).d:=by
 unfold eP;refine bL (λm:eu=>VO m.d) h ?_;exact bL (λm:eu=>VO m.d) (IF h _ _) h
theorem stow_in(h:VO d)(va v:Nat):VO (eZ n R U d va v).d:=by
 unfold eZ;refine bL (λm:eu=>VO m.d) h ?_;exact bL (λm:eu=>VO m.d) (Em h _ _) h
theorem Pe{m:eu}(h:VO m.d):VO (cF n op nn m).d:=by
 unfold cF;refine bL (λm:eu=>VO m.d) (lode_in h _) ?_;refine bL (λm:eu=>VO m.d) (stow_in h _ _) ?_
 repeat (first|exact h|refine bL (λm:eu=>VO m.d) ?_ ?_)
theorem mid_in(h:VO d):VO (nF n s op nn U d).d:=by
 unfold nF;cases cV op nn (fm s op)with
 |some R=>exact h
 |none=>exact bL (λm:eu=>VO m.d) h (Pe h)
theorem do_in(h:VO d):VO (ls n s op nn U d).2.2:=by
 unfold ls;refine bL (λq:WP×UI×UF=>VO q.2.2) h ?_;exact bL (λq:WP×UI×UF=>VO q.2.2) h (mid_in h)
theorem Gw(h:VO d):VO (cI n s U d).d:=by
 unfold cI;refine bL (λb:w8=>VO b.d) h ?_;unfold lI;exact bL (λb:w8=>VO b.d) (JZ h _) (JZ h _)
theorem Ks{Tc:Nat}:∀(k:Nat) {s:St} {p:Nat} {U:UI} {d:UF},VO d->VO (dR n Tc k s p U d).2.2
 |0,s,p,U,d,h=>h
 |k+1,s,p,U,d,h=>by
  unfold dR;cases dL n U.m p with
  |none=>exact h
  |some o=>
   obtain⟨⟨op,nn⟩,z⟩:=o;have hd:=do_in (n:=n) (s:=s) (op:=op) (nn:=nn) (U:=U) h;exact bL (λq:St×UI×UF=>VO q.2.2) (Ks k hd) hd
theorem Gr(h:VO d):VO (cS n s U d).2.2:=by
 unfold cS;dsimp only;exact bL (λq:St×UI×UF=>VO q.2.2) (Ks 8 (Gw h)) (Gw h)
end
variable{s:St}{U:UI}{d:UF}
theorem Qu(b:Nat)(Ao:Oa)(no co:Nat)(Ai:Oa)(ci:Nat)(inp:Li)(h64:J inp<=64)(A:Oa)(c:Nat)(l:Li)(hl:J l<=9223372036854775807)(N:Nat)(hN:min (J l) (64 - J inp)=N)(w:World)
  (hi:Inv w (bM [zP b Ao no co Ai (J inp) ci,b8 Ai ci inp]) [zP b Ao no co Ai (J inp) ci,b8 Ai ci inp] w) (h:∀w',dc (bM [zP b Ao no co Ai (J inp) ci,b8 Ai ci inp]) w w'->Rd w' .u8 A (J l) c l):
  UW prog 154 [.p b,.slice A (J l) c] w [zP b Ao no co Ai (J inp) ci,b8 Ai ci inp] (λv cs=>∃Ai' ci',v= .i (N:Int)/\cs=[zP b Ao no co Ai' (J (inp++l.take N)) ci',b8 Ai' ci' (inp++l.take N)]):=by
 have hcap:=(h w (dc.refl _ _)).cap;have htl:=uG hN;refine Vb func154 ntmps154 hi ?_;refine kF ?_;refine Zy (ez (Zv I) (Zv I) (show _=((64 - J inp:Nat):Int)from by rw[aQ _ ⟨by omega,by omega⟩];omega)) ?_;refine Zy (Ys (Zv I) (Zv I) (show _=(N:Int)from by split<;>omega)) ?_;refine UK ?_;refine bQ (Vg [8,11]) Zk (zX ?_);refine qM ?_;refine UY 7 I (fc N I ir (Zv I) (Zv I) qR UL) ?_;refine gg ?_;refine jm I I (cC (e:=5) (sz:=1) (bytes:=1) I I Za I I (λw hi=>(Fo (h w hi.To) hN)) cR gD O) ZJ I ?_;rintro _ _ ⟨A2,c2,rfl,rfl⟩;rw[show J inp+N=J (inp++l.take N) by rw[ar,htl],show ints .u8 inp++ints .u8 (l.take N)=ints .u8 (inp++l.take N)from cy inp (l.take N)];refine ZE 9 ?_;refine UE 10 1 ?_;refine cP 11 Zk (iT ?_);refine Va ?_;refine VA ([row _ _ _,slv _ _ _ _ _ _]) ?_;exact⟨A2,c2,I,I⟩
theorem we(D:qV)(bm:Nat)(X:dJ)(d:UF)(h64:J d.inp<=64)(A:Oa)(c:Nat)(l:Li)(hl:J l<=9223372036854775807)(w:World)(hi:Inv w (bM (my D bm X d)) (my D bm X d) w)(h:∀w',dc (bM (my D bm X d)) w w'->Rd w' .u8 A (J l) c l):
  UW prog 107 [.p D.bs,.slice A (J l) c] w (my D bm X d) (λv cs=>∃X',v= .i (d.Tz l:Int)/\cs=my D bm X' (d.Tp l)):=by
 obtain⟨N,hN⟩:=Do (d.Tz l);have hT:d.Tp l={d with inp:=d.inp++l.take N,S7:=bif decide (0<N)then bits .or .u32 d.S7 2 else d.S7}:=by unfold UF.Tp;rw[hN]
 rw[hT,hN];unfold UF.Tz at hN;have HR:=λA c p w hi h=>mg D.bi p d.mask A c [1] (λx hx=>by simp at hx;omega) w hi h
 rw[lines1]at HR;refine Vb func107 ntmps107 hi ?_;refine fR ?_;refine dH ([zP D.bcn X.Ao (J d.out) X.co X.Ai (J d.inp) X.ci,b8 X.Ai X.ci d.inp]) (λw hi hin=>Qu D.bcn X.Ao (J d.out) X.co X.Ai X.ci d.inp h64 A c l hl N hN w hin (λw' hk=>h w' (hi.Ub (λc hc=>by simp only[my,aJ,aI,aY]at hc|-;grind) hk))) ?_;rintro _ _ ⟨Ai',ci',rfl,rfl⟩;refine oU ?_ ?_<;>intro hc2
 .simp only[ai]at hc2;rw[ap (show 0<N by omega),ah];refine UQ ?_;refine jQ ?_;rintro _ _ ⟨b18,rfl,rfl⟩;refine Vq ([rE D.bi d.S7 d.mask]) (λw hi hin=>HR (sA b18) 1 d.S7 w hin (λw' hk=>hi.TU Zi (UJ (slv 3 1 (sA b18) 1 1 (ints .i64 [1]))) hk)) ?_;refine U8 ?_;exact bK (my D bm ⟨X.Ao,X.co,Ai',ci'⟩ {d with inp:=d.inp++l.take N,S7:=bits .or .u32 d.S7 2}) Zj Wq411
 simp only[aa]at hc2;rw[ao (show¬0<N by omega),ac];refine U8 ?_;exact bK (my D bm ⟨X.Ao,X.co,Ai',ci'⟩ {d with inp:=d.inp++l.take N}) Zj Wq411
variable{o e:Nat}
theorem lJ.stay{b':Li}(h:lJ b o l e)(hb:b'.take e=b.take e):lJ b' o l e:=by
 induction h with
 |nil=>exact .nil _
 | @cons o z e i l h t ih=>
  obtain⟨-, -, -,h4⟩:=pK h;refine .cons (h4 _ ?_) (ih hb);have hle:=t.le;rw[List.take_drop,List.take_drop,show(b'.take (o+z))=(b'.take e).take (o+z) by grind,hb,List.take_take,Nat.min_eq_left hle]
theorem Bw{op nn:Int}(h:dD op=true):(XQ s op nn).s.halted=s.halted:=by
 have hm:(BG s op nn).s.halted=s.halted:=by
  have hc:op=0\/op=1\/op=2\/op=3\/op=4\/op=5\/op=6\/op=7\/op=8\/op=16\/op=17\/op=18\/op=19\/op=20\/op=21\/op=22\/op=23\/op=25\/op=32\/op=33\/op=34\/op=35\/op=36\/op=37\/op=38\/op=39\/op=40:=by
   exact XS
  rcases hc with rfl|rfl|rfl|rfl|rfl|rfl|rfl|rfl|rfl|rfl|rfl|rfl|rfl|rfl|rfl|rfl|rfl|rfl|rfl|rfl|rfl|rfl|rfl|rfl|rfl|rfl|rfl<;>
  first
  |exact rfl
  |exact Gu rfl rfl
  |exact Gu (b:=(hI _ (fm s _).pop.top (fm s _).top).2.2) (x:=(fm s _).pop.pop) (y:=(fm s _).pop.pop.wt ⟨5,0⟩) rfl rfl
 unfold XQ;cases s.right with
 |false=>rfl
 |true=>
  refine Es ?_;cases(dQ s op nn !=0)with
  |true=>rfl
  |false=>
   rw[ac];unfold Sx;cases((BG s op nn).S3.SU !=0)with
   |true=>rfl
   |false=>exact hm
theorem O7{op nn:Int}{s1:St}(h:dD op=true)(hr:s.right=true)(he:gz op=false)(hd:XQ s op nn=⟨s1,false,false,[]⟩):s1.pc=dV s op:=by
 have hlt:=ME h he;have hm:(BG s op nn).s.pc=dV s op:=by
  have hc:op=0\/op=1\/op=2\/op=3\/op=4\/op=5\/op=6\/op=7\/op=8\/op=16\/op=17\/op=18\/op=19\/op=20\/op=21\/op=22\/op=23\/op=25:=by
   exact XS
  rcases hc with rfl|rfl|rfl|rfl|rfl|rfl|rfl|rfl|rfl|rfl|rfl|rfl|rfl|rfl|rfl|rfl|rfl|rfl<;>
  first
  |exact rfl
  |exact SD rfl rfl
  |exact SD (b:=(hI _ (fm s _).pop.top (fm s _).top).2.2) (x:=(fm s _).pop.pop) (y:=(fm s _).pop.pop.wt ⟨5,0⟩) rfl rfl
 grind [XQ,dQ,Sx,BG]
theorem GY(n:Nat)(U:UI)(s:Sp)(va:Nat)(kind:Int)(h:(SY n U s va kind).1.2.SU=0):(SY n U s va kind).1.1.toNat%64=va%64:=by
 grind [SY,pu,kN,xl,asked,O9,dE]
theorem KU(n:Nat)(U:UI)(s:Sp)(va:Nat)(h:(SR n U s va 1).1.2.SU=0):(SR n U s va 1).1.1.toNat%64=va%64/\(SR n U s va 1).1.1<((n*64:Nat):Int):=by
 grind [Vo,SR,SY,GY]
theorem wj(h:VN n s U d)(hr:(cI n s U d).runs=true):(cI n s U d).place.toNat%64=(cI n s U d).s.pc.toNat%64/\(cI n s U d).place<((n*64:Nat):Int):=by
 grind [cI,lI,SR,told,KU]
theorem xx{n Tc:Nat}(hn:n<=1000000)(hpg:Tc<n):∀(l:List (Int×Int)) {s s2:St} (o k:Nat) {e:Nat} {U:UI} (d:UF),l≠[]->Jk l s s2->J l<=k->lJ ((U.m.data.drop (Tc*64)).take 64) o l e->0<=s.pc->s.pc<=4294967295->s.pc.toNat%64=o->s.halted=false->
  s2.halted=false/\(gz (l.getLastD (0,0)).1=false->s2.pc=V9 .u32 (s.pc+((e:Int) - (o:Int))))/\dR n Tc k s (Tc*64+o) U d=bif gz (l.getLastD (0,0)).1||s2.pc/64 !=s.pc/64 then(s2,⟨U.m.calm,U.t⟩,d)else dR n Tc (k - J l) s2 (Tc*64+e) ⟨U.m.calm,U.t⟩ d
 |[],_,_,_,_,_,_,_,hl,_,_,_,_,_,_,_=>absurd rfl hl
 |(op,nn)::l,s,s2,o,0,e,U,d,_,_,hk,_,_,_,_,_=>by simp at hk
 |(op,nn)::l,s,s2,o,k+1,e,U,d,_,hc,hk,hs,p0,p1,hpo,hh=>by
  have hse:=(hs.ends cJ);rw[aO]at hse;cases hc with
  | @cons _ _ _ _ s1 _ hp hr Wr hm hc=>
  cases hs with
  | @cons _ z _ _ _ hd hs=>
  obtain⟨hz1,hz2,hz3, -⟩:=pK hd;dsimp only at hz1 hz2;have hle:=hs.le;have hf:dL n U.m (Tc*64+o)=some ((op,nn),z):=by
   unfold dL;have e1:(Tc*64+o)/64=Tc:=by omega
   have e2:(Tc*64+o)%64=o:=by omega
   rw[e1,e2,ap hpg,ah];exact hd
  obtain⟨hpd, -, -⟩:=Fs (n:=n) (nn:=nn) (U:=U) (d:=d) hp hr;rw[Wr]at hpd;have hh1:s1.halted=false:=by
   have:=Bw (s:=s) (nn:=nn) hp;rw[Wr]at this;exact this.trans hh
  have e64:(Tc*64+o+z)%4294967296=Tc*64+(o+z):=by omega
  cases l with
  |nil=>
   cases hc
   cases hs
   refine⟨hh1,λhe=>?_,?_⟩
   .rw[O7 hp hr he Wr]
    grind [dV,IntKind.wrap_u32]
   grind [dR,gz,jh]
  |cons j l=>
   obtain⟨he,hpc⟩:=hm cJ;have hse2:=(hs.ends cJ).2;have hpc1:s1.pc=s.pc+z:=by
    rw[hpc];unfold dV;rw[au,au];omega
   have ih:=xx hn hpg (j::l) (s:=s1) (s2:=s2) (o+z) k (e:=e) (U:=⟨U.m.calm,U.t⟩) d cJ hc bZ hs O O O hh1;refine⟨ih.1,λhe=>?_,?_⟩
   .grind
   have hlast:(((op,nn)::j::l).getLastD (0,0))=((j::l).getLastD (0,0)):=rfl;have hq:s1.pc/64=s.pc/64:=by omega
   conv=>lhs;unfold dR
   rw[hf];dsimp only;rw[hpd];dsimp only;rw[e64];unfold jh;dsimp only;rw[hh1,he];have hcon:List.contains ([]:Li) ((Tc:Nat):Int)=false:=rfl;rw[hcon];simp only[Bool.or_false,ac];rw[show(s1.pc/64==s.pc/64)=true by grind,ah,ih.2.2,hlast,hq];rw[show(k+1) - J (((op,nn)::j::l))=k - J (j::l) by simp]
   rfl
def VB.fresh(room:Int):VB:=⟨room,[],[],(0,0),0,0,false⟩
def VB.flush(E:VB):VB:={E with l:=[],runs:=[]}
def BQ(E:VB)(k:Ky)(b:Li):Option (WR×Rn):=match E.l.find? (λt=>t.key==k)with
 |some t=>bif(gr E.runs k Rn.zero).bytes.isPrefixOf b then some (t,gr E.runs k Rn.zero)else none
 |none=>none
def vf(k:Ky)(b:Li):Option (WR×Rn):=match fK k.1 (cQ b 8 0).1 with
 |none=>none
 |some p=>bif p.Tf then some (⟨k,gC p (dU p),((cQ b 8 0).1.length:Int)⟩,⟨b.take (cQ b 8 0).2.1,(cQ b 8 0).2.2⟩)else none
def lE(E:VB)(k:Ky)(b:Li):Option (WR×Rn)×VB:=match BQ E k b with
 |some q=>(some q,E)
 |none=>match vf k b with
  |some q=>(some q,YI E q.1 q.2)
  |none=>(none,E)
def nl(E:VB)(SV:Li):VB:=bif SV.isEmpty then E else ML E SV
def jG(n:Nat)(Tc:Nat):Nat->St->Nat->UI->UF->VB->(St×UI×UF)×VB
 |0,s,_,U,d,E=>((s,U,d),E)
 |k+1,s,p,U,d,E=>match dL n U.m p with
  |none=>((s.next.S3 1 0,U,d),{E with Tk:=V9 .i64 (E.Tk+1)})
  |some ((op,nn),sz)=>
   let q:=ls n s op nn U d
   let E':=nl {E with Tk:=V9 .i64 (E.Tk+1)} q.1.SV
   bif jh op q.1 Tc s.pc then jG n Tc k q.1.s ((p+sz)%4294967296) q.2.1 q.2.2 E' else((q.1.s,q.2.1,q.2.2),E')
variable{α:Type}{key:α->Ky}{room:Int}{l:List α}{t:α}
variable{β:Type}
variable{L:List (Ky×β)}
theorem OP{k:Ky}{v:β}(z:β)(hn:(L.map (·.1)).Nodup)(h:(k,v)∈L):gr L k z=v:=by
 unfold gr;cases hf:L.find? (λx=>x.1==k)with
 |none=>grind
 |some x=>
  have h1:=List.mem_of_find?_eq_some hf;have h2:=List.find?_some hf;have h3:x.1=k:=by simpa using h2
  obtain⟨i,hi,rfl⟩:=List.getElem_of_mem h1;obtain⟨j,hj,hje⟩:=List.getElem_of_mem h;have:i=j:=(List.getElem_inj (xs:=L.map (·.1)) (h₀:=by grind) (h₁:=by grind) hn).1 bZ
  grind
theorem gR.fresh{room:Int}(h:1<=room/\room<=1024):gR (VB.fresh room):=⟨h,by show((0:Nat):Int)<=room;omega,by simp[VB.fresh],by simp[VB.fresh],λt ht=>by cases ht⟩
theorem gR.flush{E:VB}(h:gR E):gR E.flush:=⟨h.room,by show((0:Nat):Int)<=E.room;have:=h.room;omega,by simp[VB.flush],by simp[VB.flush],λt ht=>by cases ht⟩
variable{E:VB}
theorem gR.same{E':VB}(h:gR E)(h1:E'.room=E.room)(h2:E'.l=E.l)(h3:E'.runs=E.runs):gR E':=⟨by rw[h1];exact h.room,by simp_all [h.len],by rw[h2];exact h.keys,by rw[h3];exact h.Ui,by simp_all [h.TV]⟩
theorem gR.turn(h:gR E)(SV:Li):gR (nl E SV):=by
 unfold nl;cases SV.isEmpty with
 |true=>exact h
 |false=>exact h.drop SV
theorem qB(h:gR E){k:Ky}{b:Li}(hb:Vh b):gR (lE E k b).2/\(lE E k b).2.room=E.room/\(lE E k b).2.Ti=E.Ti/\(lE E k b).2.Tk=E.Tk/\∀t r,(lE E k b).1=some (t,r)->
  ∃p il,fK k.1 il=some p/\p.Tf=true/\t.code=gC p (dU p)/\t.count=(J il:Int)/\lJ b 0 il (J r.bytes)/\(∀i,i∈il->u32 i.2)/\r.ends=gz (il.getLastD (0,0)).1:=by
 unfold lE;cases hk:BQ E k b with
 |some q=>
  refine⟨h,I,I,I,λt r e=>?_⟩;obtain rfl:q=(t,r):=aF e;unfold BQ at hk;cases hf:E.l.find? (λt=>t.key==k)with
  |none=>grind
  |some t'=>
   rw[hf]at hk;dsimp only at hk;cases hpre:(gr E.runs k Rn.zero).bytes.isPrefixOf b with
   |false=>grind
   |true=>
    rw[hpre,ah,bh,aB]at hk;obtain⟨rfl,hr⟩:=hk;have hkey:t'.key=k:=by simpa using List.find?_some hf
    obtain⟨r',h1,p,il,g1,g2,g3,g4,g5,g6,g7⟩:=h.TV t' (List.mem_of_find?_eq_some hf);have e1:=OP Rn.zero h.Ui h1;rw[hkey]at e1 g1;rw[e1]at hr hpre;subst hr;have hpr:b.take (J r'.bytes)=r'.bytes:=by
     obtain⟨y,rfl⟩:=List.isPrefixOf_iff_prefix.1 hpre;exact List.take_left
    exact⟨p,il,g1,g2,g3,g4,g5.stay bZ,g6,g7⟩
 |none=>
  cases hm:vf k b with
  |none=>grind
  |some q=>
   obtain⟨t,r⟩:=q;unfold vf at hm;cases hl:fK k.1 (cQ b 8 0).1 with
   |none=>grind
   |some p=>
    rw[hl]at hm;dsimp only at hm;cases hr:p.Tf with
    |false=>grind
    |true=>
     rw[hr,ah,bh,aB]at hm;obtain⟨rfl,rfl⟩:=hm;obtain⟨s1,s2,s3,s4⟩:=mM b 8 0;have hne:(cQ b 8 0).1≠[]:=λe=>by
      grind [fK]
     have hse:=s1.ends hne;have hlen:J (b.take (cQ b 8 0).2.1)=(cQ b 8 0).2.1:=by rw[aO];omega
     have hu:=s1.u32 hb;refine⟨h.add ⟨p,_,hl,hr,I,I,?_,hu,s3 hne⟩,I,I,I,λt r e=>?_⟩
     .dsimp only;rw[hlen];exact s1.stay bZ
     grind
theorem JM(E:VB)(SV:Li):(nl E SV).Ti=E.Ti/\(nl E SV).Tk=E.Tk/\(nl E SV).room=E.room:=by
 unfold nl;cases SV.isEmpty<;>exact⟨I,I,I⟩
theorem yW{n Tc:Nat}:∀(k:Nat) {s:St} (p:Nat) {U:UI} {d:UF} {E:VB},VN n s U d->gR E->(jG n Tc k s p U d E).1=dR n Tc k s p U d/\gR (jG n Tc k s p U d E).2/\
  ∃c:Nat,c<=k/\GB E (jG n Tc k s p U d E).2 c/\(dR n Tc k s p U d).1.count=V9 .u64 (s.count+(c:Int))
 |0,s,p,U,d,E,h,hE=>⟨rfl,hE,0,aK _,⟨λh1 h2 _=>⟨h1,h2,by show E.Ti+E.Tk=_;omega,Int.le_refl _⟩,rfl⟩,by
   show s.count=V9 .u64 (s.count+0);have:=h.wf.count;rw[aP];omega⟩
 |k+1,s,p,U,d,E,h,hE=>by
  have hw:∀x:Int,0<=x->x<=1000000000->V9 .i64 (x+1)=x+1:=λx h1 h2=>by rw[bI];omega
  unfold jG dR;cases hf:dL n U.m p with
  |none=>exact⟨I,hE.same I I I,1,by omega,⟨λh1 h2 h3=>⟨h1,by grind,by grind,Int.le_refl _⟩,rfl⟩,rfl⟩
  |some o=>
   obtain⟨⟨op,nn⟩,z⟩:=o;obtain⟨f1, -⟩:=jz h.u.m hf;have hg:=pI (op:=op) (nn:=nn) h.wf h.right f1 h.u h.dv;have hl:=oM (n:=n) (op:=op) (nn:=nn) (s:=s) (U:=U) h.lines;obtain⟨⟨q,U1,d1⟩,hq⟩:=Do (ls n s op nn U d);rw[hq]at hg hl;obtain⟨g1,g2,g3,g4,g5,g6⟩:=hg;dsimp only at g1 g2 g3 g4 g5 g6 hl|-;rw[hq];dsimp only;have hE1:gR {E with Tk:=V9 .i64 (E.Tk+1)}:=hE.same I I I;have hE2:=hE1.turn q.SV;obtain⟨u1,u2,u3⟩:=JM {E with Tk:=V9 .i64 (E.Tk+1)} q.SV;obtain⟨E2,hE2e⟩:=Do (nl {E with Tk:=V9 .i64 (E.Tk+1)} q.SV);rw[hE2e]at hE2 u1 u2 u3|-;dsimp only at u1 u2 u3;have hu:GB E E2 1:=⟨λh1 h2 h3=>by
    grind,u3⟩
   cases jh op q Tc s.pc with
   |false=>grind
   |true=>
    rw[ah,ah];obtain⟨r1,r2,c,r3,r4,r5⟩:=yW k ((p+z)%4294967296) (s:=q.s) (U:=U1) (d:=d1) (E:=E2) ⟨g1,g2,g4,g5,hl⟩ hE2;refine⟨r1,r2,c+1,by omega,⟨λh1 h2 h3=>?_,r4.room.trans u3⟩,?_⟩
    .obtain⟨a1,a2,a3,a4⟩:=hu.Ti h1 h2 O;obtain⟨b1,b2,b3,b4⟩:=r4.Ti a1 a2 O;omega
    rw[r5,g3,lQ,show(1:Int)+(c:Int)=((c+1:Nat):Int) by omega]
theorem lJ.shift{B:Li}{o:Nat}:∀{l:List (Int×Int)} {j e:Nat},lJ (B.drop o) j l e->lJ B (o+j) l (o+e)
 |[],j,e,h=>by cases h;exact .nil _
 |i::l,j,e,h=>by
  cases h with
  | @cons _ z _ _ _ h t=>
   rw[List.drop_drop]at h;exact .cons h (by have:=lJ.shift t;grind)
theorem u6{M:UO}(h:M.ok n)(p:Nat):Vh (iQ M p):=λx hx=>h.db x (bE (aM (bE hx)))
end
end Go.Ink
namespace Go.Ink
open List renaming length→J, replicate→R9
open IntKind renaming wrap→V9
open Go.RowKit Go.Proofs.Tryz
variable{d:UF}{c:Int}
theorem Oq(h:((d.timer !=0)&&decide (d.timer<=V9 .u32 c))=true):d.tick c={d with timer:=0,S7:=bits .or .u32 d.S7 1}:=by
 unfold UF.tick;simp only[ay,bne_iff_ne,ai]at h;rw[bF.2 h.1,ao O]
 rfl
theorem tick_no(h:((d.timer !=0)&&decide (d.timer<=V9 .u32 c))=false):d.tick c=d:=by
 unfold UF.tick;by_cases h1:d.timer=0
 .rw[show(d.timer==0)=true by simpa using h1,bG];rfl
 rw[show(d.timer !=0)=true by simpa using h1,bz,aa]at h;rw[ap (show V9 .u32 c<d.timer by omega),bA];rfl
variable{x k:Nat}
theorem QI{a:Nat}(ha:a<4294967296):bits .and .u32 (a:Int) 1=((a%2:Nat):Int):=by
 rw[show(1:Int)=((1:Nat):Int)from I,QJ ha ne,Nat.and_one_is_mod]
theorem LD{l:Li}(hl:Vh l){k:Nat}(hk:k<=3){x:Int}(hx:l[k]? =some x):bits .or .u32 (sX (l.take k)) (V9 .u32 (x*2^(8*k)))=sX (l.take (k+1)):=by
 obtain⟨r1,r2⟩:=tW (l:=l.take k) (λy hy=>hl y (aM hy));obtain⟨hlt, -⟩:=aC.1 hx;have hxb:=hl x (aG hx);have hlen:J (l.take k)=k:=by rw[aO];omega
 have e:(2:Int)^(8*k)=256^k:=by rw[Int.pow_mul];rfl
 rw[hlen]at r2;rw[LB hx,K0 (8*k) O ⟨r1,by rw[e];simpa using r2⟩ hxb,e]
section
attribute [local irreducible] Ve bN
theorem Hh(b bm bd:Nat)(Z:dJ)(d:UF)(count:Int):CI prog 159 [.p b,.int .u64 count] (eI b bm bd Z d) (λv cs=>v= .tuple #[]/\cs=eI b bm bd Z (d.tick count)):=λw hi=>by
 have HY:=Oq (d:=d) (c:=count);have HN:=tick_no (d:=d) (c:=count);obtain⟨dt,hdt⟩:=Do (d.tick count);rw[hdt]at HY HN|-;obtain⟨pe,ma,ti,ou,inp,dk,se,pl,st⟩:=d;obtain⟨Ao,co,Ai,ci⟩:=Z;dsimp only at HY HN;refine Vb func159 ntmps159 hi ?_;refine U8 ?_;refine V3 I I (cz I I (cO I) I) ?_;refine Wp ?_ ?_<;>intro hc0
 .rw[HY hc0];refine UQ ?_;refine ZL ?_;refine gP ?_;refine ZL ?_;refine Zn (io (cs':=[row _ _ _,slv _ _ _ _ _ _,Wo _ _ _ _,slv _ _ _ _ _ _]) (.inr I) Zu I ?_);exact fx
 rw[HN hc0];refine Zc (io (cs':=[row _ _ _,slv _ _ _ _ _ _,Wo _ _ _ _,slv _ _ _ _ _ _]) (.inr I) Zu I ?_);exact fx
theorem Hj(b bm bd x:Nat)(Z:dJ)(d:UF)(hx:bits .and .u32 d.S7 d.mask=(x:Int))(h256:x<256)(w:World)(h:(refBRow b bm bd Z d).ok w):
  CW prog 160 [.p b] w (.i (pd x)):=by
 refine UV func160 ntmps160 ?_;refine fR ?_;refine Vs (λk:Nat=>[(0,.p b),(3,.i (k:Int))]) (λ_=>[]) (λk=>k<=8/\kP x k (8 - k)=jJ x) (λk=>8 - k) (0) ⟨ax _,I⟩ ?_;rintro k ⟨hk,hlf⟩;refine VJ ?_ ?_<;>intro hc2
 .simp only[ai]at hc2;have hk8:k<8:=O;have hle:x/2^k<=x:=Nat.div_le_self _ _;refine UQ ?_;refine jf ?_;refine wx ?_;refine ε ?_;refine ZE 5 ?_;refine UE 6 2 ?_;refine Wq502 ?_;refine UY 10 I (cz I I (Zv I) (show _=(k:Int)from by first|exact u64_wrap_id _ O O|exact uint_wrap_id _ O O)) ?_;refine UY 11 I (jT (Zv I) (Zv I) O (OK hk8)) ?_;refine UY 12 I (oX (Zv I) (Zv I) (QI O)) ?_;refine UY 13 I (ly (Zv I) (Zv I) (jI _ 1)) ?_;refine tC ?_;refine ZW ?_ ?_<;>intro hc4
  .refine fR ?_;refine Wl ?_;exact⟨by rw[low_hit hk8 hlf hc4],rfl⟩
  refine j5 ?_;refine VM (k+1) ⟨⟨by omega,PD hk8 hlf hc4⟩,by omega⟩
 simp only[aa]at hc2;obtain rfl:k=8:=O;refine nY ?_;exact⟨by rw[PC hlf],rfl⟩
theorem DB(op:Int)(w:World):CW prog 169 [.i op] w (.bool (gz op)):=by
 refine UV func169 ntmps169 ?_;refine jS ?_;exact qP
theorem Bm(A:Oa)(c:Nat)(b:Li)(hb:Vh b)(w:World)(h:Rd w .u8 A (J b) c b):
  UW prog 163 [.slice A (J b) c] w [] (λv cs=>(∃y:Bool,v= .tuple #[.agg (insV (dI b)).toArray,.i (insN (dI b):Int),.bool y])/\cs=[]):=by
 have hlm:J b<=maxLen:=aN h.cap h.max;simp only[maxLen]at hlm;cases b with
 |nil=>
  refine UV func163 ntmps163 ?_;refine An ?_;refine ZN λb2=>?_;refine fR ?_;refine iS ?_;refine UN ?_;refine jb ?_;refine w5 ?_;exact⟨⟨true,I⟩,I⟩
 |cons op l=>
  have hop:=hb op cJ;have hl:Vh l:=λx hx=>hb x (aW _ hx)
  have hlen:J (op::l)=J l+1:=rfl;obtain⟨ad,rfl⟩:=h.some_ (by rw[hlen];omega);have hz5:cB op=0\/cB op=1\/cB op=2\/cB op=5:=iR op;have HS:=oz op;have hn0:0<=cB op:=by omega
  obtain⟨z0,hz0⟩:∃z:Nat,cB op=z:=aj hn0;have E0:=qJ (op:=op) l;have E1:=pi (op:=op) (l:=l);have E2:=λz h1 h2=>mQ (op:=op) (l:=l) (z:=z) h1 h2
  rw[hz0]at hz5 HS E0 E1 E2;have hz6:z0<=5:=by omega
  refine UV func163 ntmps163 ?_;refine An ?_;refine ZN λb2=>?_;refine Wq309 ?_;refine wo ?_;refine ZA ?_;refine ZN λb5=>?_
  refine jb ?_;refine UZ (λw hi=>HS w) ?_;refine oU ?_ ?_<;>intro hc5
  .rw[E0 (hH hc5)];refine UN ?_;refine jb ?_;refine w5 ?_;exact⟨⟨false,I⟩,I⟩
  have hz1:1<=z0:=(by have:=ne_of_beq_false hc5;omega);refine yh ?_ ?_<;>intro hc7
  .simp only[ai]at hc7;rw[E1 (by rw[hlen]at hc7;omega)];refine UN ?_;refine jb ?_;refine w5 ?_;exact⟨⟨true,I⟩,I⟩
  simp only[aa]at hc7;obtain⟨z,rfl⟩:∃z,z0=z+1:=⟨z0 - 1,by omega⟩;have hzl:z<=J l:=(by rw[hlen]at hc7;omega);rw[E2 z rfl hzl];obtain⟨N,hN⟩:∃N:Nat->Int,(λk=>sX (l.take k))=N:=⟨_,I⟩;have hNz:N z=sX (l.take z):=(by rw[<-hN]);have hN0:N 0=0:=(by rw[<-hN];rfl);have hNs:∀k x,k<=3->l[k]? =some x->bits .or .u32 (N k) (V9 .u32 (x*2^(8*k)))=N (k+1):=(λk x h1 h2=>by rw[<-hN];exact LD hl h1 h2);rw[<-hNz];refine UQ ?_;refine gE ([row b2 [.i 0,.w 0] 51,row b5 [.i op,.w 0] 51]) Zj ?_;rw[show row b5 [Value.i op,Value.w 0] 51=row b5 [Value.i op,Value.w (N 0)] 51 from by rw[hN0]];refine UK ?_;refine Vs (λk:Nat=>[(0,.slice (some ad) (J (op::l)) c),(2,.p b2),(5,.p b5),(6,.i ((z+1:Nat):Int)),(7,.i ((k+1:Nat):Int))]) (λk=>[row b2 [.i 0,.w 0] 51,row b5 [.i op,.w (N k)] 51]) (λk=>k<=z) (λk=>z - k) (0) (ax _) ?_;rintro k hk;refine Wp ?_ ?_<;>intro hc10
  .simp only[ai]at hc10;have hkz:k<z:=O;have hx:l[k]? =some (l[k]'(by omega)):=ak O;have hxb:=hl _ (List.getElem_mem (show k<J l by omega));obtain⟨x,hxx⟩:=Do (l[k]'(by omega));rw[hxx]at hx hxb;have hst:=hNs k x O hx;refine UK ?_;refine bQ (Vg [14]) Zk (UE 0 1 ?_);refine ZG 1 ?_;refine ZE 2 ?_;refine ZE 3 ?_;refine UY 4 I (cZ (j:=k+1) I ir (Zv I) (Zv I) UL UL) ?_;refine Vn 5 I (bO ir py) (dK h (cw (l:=op::l) (j:=k+1) hx)) ?_;refine UY 6 I (cz I I (Zv I) (u32_wrap_id _ O O)) ?_;refine ZE 7 ?_;refine UY 8 I (ez (Zv I) (Zv I) (show _=(k:Int)from by rw[aQ _ ⟨by omega,by omega⟩];omega)) ?_;refine UY 9 I (cz I I (Zv I) (show _=(k:Int)from by first|exact u64_wrap_id _ O O|exact uint_wrap_id _ O O)) ?_;refine UY 10 I (fT (Zv I) (Zv I) (show _=((8*k:Nat):Int)from(u64_wrap_id _ O O).trans O)) ?_;refine UY 11 I (pq (Zv I) (Zv I) O (show _=V9 .u32 (x*2^(8*k))from by rw[minU (show 8*k<=31 by omega)])) ?_;refine UY 12 I (yp py py hst) ?_;refine UE 13 1 ?_;refine ku ?_;refine iT ?_;refine UK ?_;refine Zy (dy (Zv I) (Zv I) (show _=((k+1+1:Nat):Int)from by rw[aQ _ ⟨by omega,by omega⟩];omega)) ?_;refine An ?_;refine VM (k+1) ⟨show k+1<=z by omega,show z - (k+1)<z - k by omega⟩
  simp only[aa]at hc10;obtain rfl:k=z:=O;refine U8 ?_;refine rY ?_;refine w5 ?_;exact⟨⟨false,I⟩,I⟩
theorem Dz(K:gi)(bx n:Nat)(T:List TE)(M:UO)(hM:Vc n M)(p:Nat)(hp:p<=4294967295)(w:World)(h:(fv bx K.bm T).ok w)(h2:(AZ K n).ok w)(h3:(rmB K n M).ok w):
  CW prog 118 [.p bx,.w (p:Int)] w (.tuple #[.agg (insV (dL n M p)).toArray,.i (insN (dL n M p):Int)]):=by
 have hn:=hM.n64;have hdl:=hM.m.dl;have hdb:=hM.m.db;have hr:Rd w .u8 (sA K.bB) (n*64) (n*64) M.data:=cY h3;have HH:=mb K n hn p 1 O ne;by_cases hpn:p/64<n
 .rw[xV hpn];rw[ap (show p+1<=n*64 by omega)]at HH;have hXl:J ((M.data.drop (p/64*64)).take 64)=64:=by rw[aO,List.length_drop];omega
  have hXb:Vh ((M.data.drop (p/64*64)).take 64):=λx hx=>hdb x (bE (aM hx))
  have hcut:=U5.cut hr (lo:=p) (hi:=(p/64+1)*64) O O;rw[if_neg O,Option.map_some,Addr.add_lit,bC,Nat.mul_one]at hcut;have hX2:((ints .u8 M.data).take ((p/64+1)*64)).drop p=ints .u8 (((M.data.drop (p/64*64)).take 64).drop (p%64)):=by
   unfold ints;rw[<-List.map_take,<-List.map_drop];congr 1;rw[List.take_drop,List.drop_drop,show p/64*64+p%64=p by omega,show p/64*64+64=(p/64+1)*64 by omega]
  rw[hX2,show(p/64+1)*64 - p=64 - p%64 by omega]at hcut;obtain⟨X,hX⟩:=Do ((M.data.drop (p/64*64)).take 64);rw[hX]at hXl hXb hcut|-;have hbl:J (X.drop (p%64))=64 - p%64:=by rw[List.length_drop,hXl]
  have HD:=λA c w h=>Bm A c (X.drop (p%64)) (λx hx=>hXb x (bE hx)) w h
  rw[hbl]at HD;obtain⟨o,ho⟩:=Do (dI (X.drop (p%64)));rw[ho]at HD|-;obtain⟨e1,he1⟩:=Do (64 - p%64);rw[he1]at HD hcut;refine UV func118 ntmps118 ?_;refine An ?_;refine ZN λb4=>?_;refine U8 ?_;refine I1 ?_;refine ZA ?_;refine IS ?_;refine UZ (λw hi=>HH w (bJ.old h2 hi)) ?_;refine UN ?_;refine j6 ?_;refine Zy (kf (Zv I) (Zv I) O (show _=((p/64:Nat):Int)from by rw[bl O,u32_wrap_id _ O O];omega)) ?_;refine Zy (dy (Zv I) (Zv I) (show _=((p/64+1:Nat):Int)from by rw[u32_wrap_id _ O O];omega)) ?_;refine Zy (fT (Zv I) (Zv I) (show _=(((p/64+1)*64:Nat):Int)from by rw[u32_wrap_id _ O O];omega)) ?_;refine Va ?_;refine I1 ?_;refine An ?_;refine I1 ?_;refine An ?_;refine Zy (lb (sz:=1) (lo:=p) (hi:=(p/64+1)*64) (r:=p) I ir (Zv I) (.inr ⟨_,_,I,(Zv I)⟩) (.inr ⟨_,_,I,(Zv I)⟩) O O O O) ?_;rw[show(p/64+1)*64 - p=e1 by omega];refine Vl (λw hi=>HD (some ⟨K.bB,p,none⟩) (n*64 - p) w (U5.Tb hcut hi)) ?_;rintro _ _ ⟨⟨y,rfl⟩,rfl⟩;refine UK ?_;refine ZN λb7=>?_
  refine ZM ?_;refine Va ?_;refine ij ?_;exact Wy
 rw[xU O];rw[ao (show¬p+1<=n*64 by omega)]at HH;refine UV func118 ntmps118 ?_;refine An ?_;refine ZN λb4=>?_;refine U8 ?_;refine I1 ?_;refine ZA ?_;refine IS ?_;refine UZ (λw hi=>HH w (bJ.old h2 hi)) ?_;refine UN ?_;refine iS ?_;refine UN ?_;refine rY ?_;exact Wy
theorem Dx(A:Oa)(c:Nat)(l:Li)(x:Int)(w:World)(h:Rd w .i64 A (J l) c l):CW prog 170 [.slice A (J l) c,.i x] w (.bool (l.contains x)):=by
 have hlm:J l<=maxLen:=aN h.cap h.max;simp only[maxLen]at hlm;refine UV func170 ntmps170 ?_;refine fR ?_;refine Vs (λk:Nat=>[(0,.slice A (J l) c),(1,.i x),(5,.i (k:Int))]) (λ_=>[]) (λk=>k<=J l/\∀j,j<k->l[j]? ≠some x) (λk=>J l - k) (0) ⟨ax _,λj hj=>by omega⟩ ?_;rintro k ⟨hk,hno⟩;refine Wc ?_ ?_<;>intro hc2
 .simp only[ai]at hc2;have hkl:k<J l:=O;obtain⟨ad,rfl⟩:=h.some_ O;have hy:l[k]? =some (l[k]'hkl):=ak hkl;obtain⟨y,hyy⟩:=Do (l[k]'hkl);rw[hyy]at hy;refine Va ?_;refine GA ?_;refine dZ (bO ir py) (dK h (cw hy)) I (WK ?_ ?_)<;>intro hc4
  .have e:=hH hc4;refine nY ?_;exact⟨by rw[List.contains_eq_mem,ap (e▸aG hy)],rfl⟩
  refine j5 ?_;refine VM (k+1) ⟨⟨by omega,λj hj=>by rcases Nat.lt_or_ge j k with h1|h1;exact hno j h1;obtain rfl:j=k:=O;rw[hy];intro e;exact ne_of_beq_false hc4 (aF e)⟩,by omega⟩
 simp only[aa]at hc2;have hnm:l.contains x=false:=(by rw[List.contains_eq_mem,aa];intro hm;obtain⟨j,hj,e⟩:=List.getElem_of_mem hm;exact hno j O (by rw[ak hj,e]));refine nY ?_;exact⟨by rw[hnm],rfl⟩
theorem Bl(op nn:Int)(r:WP)(X:dz)(Ap:Oa)(cp:Nat)(Tc was:Int)(hpc:u32 r.s.pc)(hw:u32 was)(w:World)(h:Rd w .i64 Ap (J r.SV) cp r.SV):
  CW prog 121 [.agg #[.i op,.w nn],.agg (iz r X Ap cp).toArray,.i Tc,.w was] w (.bool (jh op r Tc was)):=by
 have HC:=Dx Ap cp r.SV Tc;have hq:∀x:Int,u32 x->V9 .u32 (x.tdiv 64)=x/64:=λx hx=>by obtain⟨h1,h2⟩:=hx;rw[bl h1,u32_wrap_id _ O O]
 refine UV func121 ntmps121 ?_;refine An ?_;refine ZO λb4=>?_;refine ZO λb5=>?_
 refine US ?_;refine UZ (λw hi=>DB op w) ?_;refine nW ?_;refine dC (bS I I) (.cons (cO I) (.cons (cO I) .nil)) (λ_ _=>I) (λhg w hi=>HC w (U5.Tb h hi)) I (fR ?_);refine V3 I I (kf (cO I) (Zv I) O (hq _ hpc)) ?_;refine ZB ?_;refine V3 I I (kf (cO I) (Zv I) O (hq _ hw)) ?_;refine UU ?_;refine Wl ?_;refine⟨congrArg Value.bool ?_,I⟩;unfold jh;cases gz op<;>cases r.TY<;>cases r.device<;>cases r.s.halted<;>cases r.SV.contains Tc<;>rfl
variable{n:Nat}{s:St}{U:UI}
theorem Vc.begin(h:Vc n U.m)(hw:∀root va kind SQ,Vc n (dE n U.m root va kind SQ).2):Vc n (cI n s U d).u.m:=by
 unfold cI;refine bL (λb:w8=>Vc n b.u.m) h ?_;unfold lI;dsimp only;exact bL (λb:w8=>Vc n b.u.m) (h.SR _ _ _ (hw _ _ _ _)) (h.SR _ _ _ (hw _ _ _ _))
abbrev V7(K:gi)(bx n b bd:Nat)(Z:dJ)(U:UI)(d:UF):List bJ:=VD K bx n U++eI b K.bm bd Z d
theorem DF(K:gi)(bx n b bd:Nat)(Z:dJ)(s:St)(hwf:s.wf)(hr:s.right=true)(Ad Ar:Oa)(cd cr:Nat)(U:UI)(hM:Vc n U.m)(hT:J U.t=16)(d:UF)(hm:(d.tick s.count).lines)(w:World)(hi:Inv w (bM (V7 K bx n b bd Z U d)) (V7 K bx n b bd Z U d) w)
  (h:∀w',dc (bM (V7 K bx n b bd Z U d)) w w'->iL w' s Ad Ar cd cr):
  UW prog 117 [sv s Ad cd Ar cr,.p bx,.p b] w (V7 K bx n b bd Z U d)
   (λv cs=>∃X:dz,v= .tuple #[sv (cI n s U d).s X.Ad X.cd X.Ar X.cr,.w (cI n s U d).place,.bool (cI n s U d).runs]/\cs=[Vf (cI n s U d).s X.Ad X.cd,Vj (cI n s U d).s X.Ar X.cr]++V7 K bx n b bd Z (cI n s U d).u (cI n s U d).d):=by
 cases hh:s.halted with
 |true=>
  rw[rT (by rw[hh,bA])];refine Vb func117 ntmps117 hi ?_;refine An ?_;refine ZO λb3=>?_;refine ZN λb6=>?_
  refine Zz ?_;rintro _ _ ⟨_,⟨A1,c1,A2,c2,rfl,rfl⟩,rfl⟩;refine ZM ?_;refine U8 ?_;refine bY I (hh) (UN ?_);refine jb ?_;exact bK ([row b6 (s.cells (.slice A1 (J s.d) c1) (.slice A2 (J s.r) c2)) 36,Vf s A1 c1,Vj s A2 c2]++V7 K bx n b bd Z U d) Zj (OQ (cs':=([Vf s A1 c1,Vj s A2 c2]++V7 K bx n b bd Z U d)) (.inl I) Zu I I I I Zh ir ir ⟨⟨A1,c1,A2,c2⟩,I,I⟩)
 |false=>
  obtain⟨hd16,hr16,hf15⟩:=St.fits hr;obtain⟨d1,hd1⟩:=Do (d.tick s.count);obtain⟨s1,hs1⟩:=Do (told s d1);rw[rU (by rw[hr,hh];rfl) hd1 hs1];rw[hd1]at hm;obtain⟨x,hx,hx256⟩:=Nd (p:=d1.S7) hm.mask;have HN:=Hj b K.bm bd x Z d1 hx hx256;have HK:=Hh b K.bm bd Z d s.count;rw[hd1]at HK;have hY:=λk h1 h2=>EU (s:=s) (d:=d1) (x:=x) (k:=k) hx h1 h2
  have hN:=JU (s:=s) (d:=d1) (x:=x) hx;have hlt:=λk (h:jJ x=some k)=>Sh h
  have hls:=λk (h:jJ x=some k)=>PE h
  have hle:=D3 (x:=x);obtain⟨lo,hlo⟩:=Do (pd x);rw[hlo]at HN hls hle;obtain⟨o,ho⟩:=Do (jJ x);rw[ho]at hY hN hlt hls hle;have hw1:s1.wf/\J s1.d<=16/\J s1.r<=16:=by
   cases hc:(o.isSome&&s.ie)with
   |true=>
    cases o with
    |none=>cases hc
    |some k=>
     exact Wq415
   |false=>rw[<-hs1,hN hc];exact⟨hwf,hd16,hr16⟩
  obtain⟨hwf1,hs16,hq16⟩:=hw1;refine Vb func117 ntmps117 hi ?_;refine An ?_;refine ZO λb3=>?_;refine ZN λb6=>?_
  refine Zz ?_;rintro _ _ ⟨_,⟨A1,c1,A2,c2,rfl,rfl⟩,rfl⟩;refine ZM ?_;refine U8 ?_;refine cK I (hh) (US ?_);refine Vq (eI b K.bm bd Z d) (λw hi hin=>HK w hin) ?_;refine An ?_;refine cj (λX:dz=>[(1,.p bx),(3,.p b3),(6,.p b6)]) (λX=>[row b3 (s1.cells (.slice X.Ad (J s1.d) X.cd) (.slice X.Ar (J s1.r) X.cr)) 36,row b6 (St.zero.cells (.slice none 0 0) (.slice none 0 0)) 36,Vf s1 X.Ad X.cd,Vj s1 X.Ar X.cr]++V7 K bx n b bd Z U d1) (λ_=>True) ?_ ?_
  .refine UN ?_;refine UZ (λw hi=>HN w (hi.get Zh)) ?_;refine Ab ?_ ?_<;>intro hc6
   .have hc6':(o.isSome&&s.ie)=true:=(by rw[<-hle,Bool.and_comm];exact hc6);obtain⟨k,rfl⟩:∃k,o=some k:=(by cases o with|none=>cases hc6'|some k=>exact⟨k,I⟩);have hk8:=hlt k I;obtain rfl:=hls k I;obtain rfl:s1=s.S3 ((16+k:Nat):Int) 0:=(by rw[<-hs1];exact hY k I hc6');refine Wq273 ?_;refine Vl (λw hi=>ov s A1 A2 c1 c2 ((16+k:Nat):Int) 0 w (hi.TX (UJ (Vf s A1 c1)) (UJ (Vj s A2 c2)) O O)) ?_;exact Wx74_
   obtain rfl:s1=s:=(by rw[<-hs1];exact hN (by rw[<-hle,Bool.and_comm];exact hc6));refine Zc (Vd ((⟨A1,c1,A2,c2⟩:dz)) gh)
  rintro⟨A5,c5,A6,c6⟩ -;clear hY hN hs1;obtain⟨pc,dd,rr,fl,su,pg,ie,rt,ve,ep,ca,ad,es,ei,co,ha⟩:=s1;obtain⟨pcN,rfl⟩:∃m:Nat,pc=m:=aj hwf1.pc.1;obtain⟨rtN,rfl⟩:∃m:Nat,rt=m:=aj hwf1.root.1;have hpc2:=hwf1.pc.2;have hrt2:=hwf1.root.2;dsimp only at hpc2 hrt2 hs16 hq16;have HP:=kK K bx n U hM hT pg su rtN pcN (show rtN<=4294967295 by omega) O 1;have hgo:lI n ⟨pcN,dd,rr,fl,su,pg,ie,rtN,ve,ep,ca,ad,es,ei,co,ha⟩ U d1=(bif(SR n U ⟨pg,su,rtN⟩ pcN 1).1.2.SU !=0 then⟨St.S3 (St.next ⟨pcN,dd,rr,fl,su,pg,ie,rtN,ve,ep,ca,ad,es,ei,co,ha⟩) (SR n U ⟨pg,su,rtN⟩ pcN 1).1.2.SU (SR n U ⟨pg,su,rtN⟩ pcN 1).1.2.addr,0,false,(SR n U ⟨pg,su,rtN⟩ pcN 1).2,d1⟩else⟨⟨pcN,dd,rr,fl,su,pg,ie,rtN,ve,ep,ca,ad,es,ei,co,ha⟩,(SR n U ⟨pg,su,rtN⟩ pcN 1).1.1,true,(SR n U ⟨pg,su,rtN⟩ pcN 1).2,d1⟩):=rfl;obtain⟨⟨⟨pl,⟨tc,ta⟩⟩,U1⟩,hq⟩:=Do (SR n U ⟨pg,su,rtN⟩ pcN 1);rw[hq]at HP hgo;dsimp only at hgo;rw[hgo];refine gP ?_;refine Vq (VD K bx n U) (λw hi hin=>HP w hin) ?_;refine UN ?_;refine ZN λb11=>?_
  refine ZA ?_;refine eA (cL (vs:=[.i tc,.w ta]) ir I I (jR I) Za mS) ?_;refine UR ?_;refine oU ?_ ?_<;>intro hc9
  .rw[hc9,ah];refine US ?_;refine Vl (λw hi=>ov ⟨pcN,dd,rr,fl,su,pg,ie,rtN,ve,ep,ca,ad,es,ei,co,ha⟩ A5 A6 c5 c6 tc ta w (hi.TX (UJ (sl .u32 32 A5 (J dd) c5 dd)) (UJ (sl .u32 32 A6 (J rr) c6 rr)) (show J dd*4<=_ by omega) (show J rr*4<=_ by omega))) ?_;rintro _ _ ⟨A7,c7,A8,c8,rfl,rfl⟩;refine jb ?_;refine kZ ?_;refine lx ?_;refine UQ ?_;refine jb ?_;exact bK ([row b6 (St.cells (St.S3 (St.next ⟨pcN,dd,rr,fl,su,pg,ie,rtN,ve,ep,ca,ad,es,ei,co,ha⟩) tc ta) (.slice A7 (J dd) c7) (.slice A8 (J rr) c8)) 36,sl .u32 32 A7 (J dd) c7 dd,sl .u32 32 A8 (J rr) c8 rr]++V7 K bx n b bd Z U1 d1) Zj (OQ (cs':=([sl .u32 32 A7 (J dd) c7 dd,sl .u32 32 A8 (J rr) c8 rr]++V7 K bx n b bd Z U1 d1)) (.inl I) Zu I I I I Zh ir ir ⟨⟨A7,c7,A8,c8⟩,I,I⟩)
  rw[hc9,ac];refine UU ?_;refine rY ?_;exact bK ([row b6 (St.cells ⟨pcN,dd,rr,fl,su,pg,ie,rtN,ve,ep,ca,ad,es,ei,co,ha⟩ (.slice A5 (J dd) c5) (.slice A6 (J rr) c6)) 36,sl .u32 32 A5 (J dd) c5 dd,sl .u32 32 A6 (J rr) c6 rr]++V7 K bx n b bd Z U1 d1) Zj (OQ (cs':=([sl .u32 32 A5 (J dd) c5 dd,sl .u32 32 A6 (J rr) c6 rr]++V7 K bx n b bd Z U1 d1)) (.inl I) Zu I I I I Zh ir ir ⟨⟨A5,c5,A6,c6⟩,I,I⟩)
theorem Dh:∀k:Nat,k<8->V9 .u32 (1*2^(min ((k:Nat):Int).toNat IntKind.u32.bits))=((2^k:Nat):Int):=by decide
def Xz.cells(a:Xz):List Value:=[.i a.kd,.i a.n,.slice a.B (J a.bs) a.cb]
theorem Xz.Tm(a:Xz):J a.cells=3:=rfl
structure Xz.ok(W:World)(a:Xz):Prop where
 rd:Rd W .u8 a.B (J a.bs) a.cb a.bs
 bs:Vh a.bs
theorem pA(b bm bd:Nat)(Z:dJ)(d:UF)(h64:J d.inp<=64)(A:Oa)(c:Nat)(l:Li)(hl:J l<=1000)(w:World)(hi:Inv w (bM (eI b bm bd Z d)) (eI b bm bd Z d) w)(h:∀w',dc (bM (eI b bm bd Z d)) w w'->Rd w' .u8 A (J l) c l):
  UW prog 61 [.p b,.slice A (J l) c] w (eI b bm bd Z d) (λv cs=>∃Z',v= .i (d.Tz l:Int)/\cs=eI b bm bd Z' (d.Tp l)):=by
 have hcap:=(h w (dc.refl _ _)).cap;obtain⟨N,hN⟩:=Do (d.Tz l);have hT:d.Tp l={d with inp:=d.inp++l.take N,S7:=bif decide (0<N)then bits .or .u32 d.S7 2 else d.S7}:=by unfold UF.Tp;rw[hN]
 rw[hT,hN];unfold UF.Tz at hN;have htl:=uG hN;obtain⟨pe,ma,ti,ou,inp,dk,se,pl,st⟩:=d;obtain⟨Ao,co,Ai,ci⟩:=Z;dsimp only at hN h64 htl|-;refine Vb func61 ntmps61 hi ?_;refine fR ?_;refine Zy (ez (Zv I) (Zv I) (show V9 .i64 ((64:Int) - (J inp:Int))=((64 - J inp:Nat):Int)from by rw[aQ _ ⟨by omega,by omega⟩];omega)) ?_;refine UN ?_;refine cj (λn:Nat=>[(0,.p b),(1,.slice A (J l) c),(5,.i (n:Int))]) (λ_=>[row b [.p bm,.w pe,.w ma,.w ti,.slice Ao (J ou) co,.slice Ai (J inp) ci,.slice (sA bd) 1024 1024,.w (se:Int),.w (pl:Int),.w st] 103,b8 Ao co ou,Wo Ai (J inp) ci (ints .u8 inp),Cj bd dk]) (λn=>n=N) ?_ ?_
 .refine Wp ?_ ?_<;>intro hc2
  .simp only[ai]at hc2;refine UQ ?_;refine Vd (J l) O
  simp only[aa]at hc2;refine Zc (Vd ((64 - J inp)) O)
 rintro n rfl;refine Zs (iC (Vg [6,10,13]) [(0,0),(2,0),(3,0),(4,0),(5,4),(7,0),(8,0),(9,0),(1,2),(6,2),(10,2),(11,0),(12,0),(13,2)] Zk Zk ?_);refine zW ?_;refine ek I (qW py) I (Nt ?_);refine z5 ?_;refine zW ?_;refine ek I (fc n I ir (Zv I) (Zv I) qR UL) I (et ?_);refine mX I I (ky I I ir ir I I) ZJ I ?_;rintro _ _ ⟨b19,rfl,rfl⟩;refine et ?_;refine mX I I (cC (e:=5) (sz:=1) (bytes:=1) I I Za I I (λw hi=>oZ (hi.get (UJ (Wo Ai (J inp) ci (ints .u8 inp))))) cR gD O) ZJ I ?_;rintro _ _ ⟨A2,c2,rfl,rfl⟩;simp only[bC,aR];refine et ?_;refine mX I I (cC (e:=5) (sz:=1) (bytes:=1) I I Za I I (λw hi=>(Fo (h w hi.To) hN)) cR gD O) ZJ I ?_;rintro _ _ ⟨A3,c3,rfl,rfl⟩;rw[show J inp+n=J (inp++l.take n) by rw[ar,htl],show ints .u8 inp++ints .u8 (l.take n)=ints .u8 (inp++l.take n)from cy inp (l.take n)];refine ek I (qW py) I (Nt ?_);refine z6 ?_;refine UR ?_;refine jU (Wp ?_ ?_)<;>intro hc5
 .simp only[ai]at hc5;rw[ap (show 0<n by omega),ah];refine U8 ?_;refine nX ?_;refine Wq515 ?_;refine bK (eI b bm bd ⟨Ao,co,A3,c3⟩ ⟨bits .or .u32 pe 2,ma,ti,ou,inp++l.take n,dk,se,pl,st⟩) Zj (VA ([row _ _ _,slv _ _ _ _ _ _,Wo _ _ _ _,slv _ _ _ _ _ _]) ?_);exact⟨⟨Ao,co,A3,c3⟩,I,I⟩
 simp only[aa]at hc5;rw[ao (show¬0<n by omega),ac];refine U8 ?_;refine Wq515 ?_;refine bK (eI b bm bd ⟨Ao,co,A3,c3⟩ ⟨pe,ma,ti,ou,inp++l.take n,dk,se,pl,st⟩) Zj (VA ([row _ _ _,slv _ _ _ _ _ _,Wo _ _ _ _,slv _ _ _ _ _ _]) ?_);exact⟨⟨Ao,co,A3,c3⟩,I,I⟩
end
end Go.Ink
