/- Lemmas. -/
import Derived.Test.YtomjgmbccamgiaaGreatDoorQaa
import Derived.Test.YtomjgmbccamgiaaGreatDoorQab
import Derived.Test.YtomjgmbccamgiaaGreatDoorQac
import Derived.Test.YtomjgmbccamgiaaGreatDoorQag
import Derived.Test.YtomjgmbccamgiaaGreatDoorQah
import Derived.Test.YtomjgmbccamgiaaGreatDoorQak
import Derived.Test.YtomjgmbccamgiaaGreatDoorQam
set_option linter.unusedSimpArgs false
set_option linter.unusedVariables false
set_option maxRecDepth 100000
set_option maxHeartbeats 4000000
set_option maxHeartbeats 1000000
namespace Go.Ink
open Go.RowKit
def xB(op:Int):Int:=
 bif op==2 then 5 else bif(((op==1)||(decide (32≤op)&&decide (op≤38)))||(op==66))||(op==67)then 2 else
 bif(((((decide (0≤op)&&decide (op≤8))||(decide (16≤op)&&decide (op≤25)))||(op==39))||(op==40))||(decide (48≤op)&&decide (op≤53)))||(decide (64≤op)&&decide (op≤69))then 1 else 0
theorem FD:∀k:Fin 70,xB (k.val:Int)=cG (k.val:Int):=by decide+kernel
theorem F3(op:Int):(∃k:Fin 70,op=(k.val:Int))∨(∀k:Int,0≤k→k≤69→(op==k)=false)∧(op<0∨69<op):=by
 by_cases h:0≤op∧op≤69
 ·exact .inl ⟨⟨op.toNat,by omega⟩,by show op=((op.toNat:Nat):Int);omega⟩
 exact .inr ⟨fun k h1 h2=>by simp only[beq_eq_false_iff_ne,ne_eq];omega,by omega⟩
theorem FC(op:Int):xB op=cG op:=by
 rcases F3 op with⟨k,rfl⟩|⟨e,h⟩
 ·exact FD k
 have r:∀a b:Int,0≤a→b≤69→(decide (a≤op)&&decide (op≤b))=false:=fun a b ha hb=>by
  rw[Bool.and_eq_false_iff,aj,aj];omega
 unfold xB cG fg ez;rw[r 32 38 (by decide) (by decide),r 0 8 (by decide) (by decide),r 16 25 (by decide) (by decide),r 48 53 (by decide) (by decide),r 64 69 (by decide) (by decide)];simp[e]
end Go.Ink
namespace Go.Proofs.YtomjgmbccamgiaaGreatDoor
open Go.RowKit Go.Ink Go.Proofs.Tryz
attribute [local irreducible] OpY bW
theorem AK(op:Int)(w:World):Ctr prog 98 [.int .i64 op] w [] (fun v cs=>v= .int .i64 (cG op)∧cs=[]):=by
 rw[←FC];refine bL func98 rfl ntmps98 rfl (Inv.start w) ?_;refine ic ?_;refine ZW ?_ ?_<;>intro hc1
 ·refine Z_8 ?_;refine Zra ?_;refine⟨?_,rfl⟩;simp only[xB, *,ac,aa]
 refine ln ?_;refine Z_3 ?_;refine ZW ?_ ?_<;>intro hc3
 ·refine Z_8 ?_;refine Zra ?_;refine⟨?_,rfl⟩;simp only[xB, *,ac,aa]
 refine ln ?_;refine ln ?_;refine Z_3 ?_;refine ZW ?_ ?_<;>intro hc5
 ·refine Z_8 ?_;refine Zra ?_;refine⟨?_,rfl⟩;simp only[xB, *,ac,aa]
 refine Z_9 ?_;refine Zra ?_;refine⟨?_,rfl⟩;simp only[xB, *,ac,aa]
end Go.Proofs.YtomjgmbccamgiaaGreatDoor
namespace Go.Ink
open Go.RowKit
def encB(nn:Int)(j:Nat):Int:=IntKind.u8.wrap (nn.fdiv (2^(min (Int.toNat ((8*j:Nat):Int)) IntKind.u32.bits)))
def vc(op nn:Int)(k:Nat):List Int:=IntKind.u8.wrap op::(List.range (k - 1)).map (encB nn)
def oE(op nn:Int):List Int:=vc op nn (max 1 (cG op).toNat)
theorem wS(op nn:Int){k:Nat}(h:1≤k):(vc op nn k).length=k:=by simp[vc];omega
theorem Bm(op nn:Int){k:Nat}(h:1≤k):vc op nn (k+1)=vc op nn k++[encB nn (k - 1)]:=by
 obtain⟨j,rfl⟩:∃j,k=j+1:=⟨k - 1,by omega⟩;simp[vc,List.range_succ]
theorem vu(x:Int):0≤IntKind.u8.wrap x∧IntKind.u8.wrap x≤255:=by
 have e:IntKind.u8.wrap x=x%256:=by simp[IntKind.wrap,IntKind.bits,IntKind.signed]
 rw[e];omega
theorem GM(op nn:Int):u8s (oE op nn):=by
 intro x hx;unfold oE vc at hx;rcases aM.1 hx with rfl|hx
 ·exact vu _
 obtain⟨j, -,rfl⟩:=bh.1 hx;exact vu _
theorem wT(op nn:Int):1≤(oE op nn).length∧(oE op nn).length≤5:=by
 unfold oE;rw[wS _ _ (by omega)];have:cG op=0∨cG op=1∨cG op=2∨cG op=5:=jf op;omega
def iH(i:Int×Int):List Value:=[.int .i64 i.1,.int .u32 i.2]
theorem wB(i:Int×Int):(iH i).length=2:=rfl
def kJ(l:List (Int×Int))(k:Nat):List Int:=(l.take k).flatMap fun i=>oE i.1 i.2
def kK(l:List (Int×Int)):List Int:=kJ l l.length
theorem sq{l:List (Int×Int)}{k:Nat}{i:Int×Int}(h:l[k]? =some i):kJ l (k+1)=kJ l k++oE i.1 i.2:=by
 unfold kJ;rw[List.take_add_one,h];simp
theorem kI(l:List (Int×Int)):∀k,(kJ l k).length≤5*k
 |0=>by simp[kJ]
 |k+1=>by
  cases h:l[k]? with
  |none=>
   unfold kJ;rw[List.take_add_one,h];have:=kI l k;unfold kJ at this;simp only[Option.toList_none,ay];omega
  |some i=>
   rw[sq h,ae];have:=kI l k;have:=(wT i.1 i.2).2;omega
theorem so(l:List (Int×Int))(k:Nat):u8s (kJ l k):=by
 intro x hx;unfold kJ at hx;obtain⟨i, -,h⟩:=List.mem_flatMap.1 hx;exact GM _ _ x h
end Go.Ink
namespace Go.Proofs.YtomjgmbccamgiaaGreatDoor
open Go.RowKit Go.Ink Go.Proofs.Tryz
attribute [local irreducible] OpY bW
theorem enc_ok(op nn:Int)(w:World):Ctr prog 74 [.agg #[.int .i64 op,.int .u32 nn]] w [] (fun v cs=>∃A c,v= .slice A (oE op nn).length c∧cs=[sl .u8 5 A (oE op nn).length c (oE op nn)]):=by
 have hz5:cG op=0∨cG op=1∨cG op=2∨cG op=5:=jf op;have HS:=AK op;obtain⟨z,hz⟩:∃z:Nat,cG op=z:=ar (by omega);have he:oE op nn=vc op nn (max 1 z):=by unfold oE;rw[hz];rfl
 rw[he,wS _ _ (by omega)];rw[hz]at hz5 HS;refine bL func74 rfl ntmps74 rfl (Inv.start w) ?_;refine Z_2 ?_;refine ZO fun b1=>?_;refine Z_7 ?_;refine Zy (cu rfl rfl (Zv rfl) (by first|exact IntWalk.u8_in _ ⟨by omega,by omega⟩|exact rfl)) ?_;refine dM (cm rfl rfl Zrf Zrf rfl rfl) rfl ?_;rintro _ _ ⟨b8,rfl,rfl⟩;refine eK ?_;refine cJ (fun q:Nat×Option Addr×Nat=>[(1,.pointer (some ⟨b1,0,none⟩)),(3,.slice q.2.1 q.1 q.2.2),(4,.int .i64 (q.1:Int))]) (fun q=>[row b1 [.int .i64 op,.int .u32 nn] 94,sl .u8 5 q.2.1 q.1 q.2.2 (vc op nn q.1)]) (fun q=>1≤q.1∧q.1≤max 1 z) (fun q=>10 - q.1) ((⟨1,some ⟨b8,0,none⟩,1⟩:Nat×Option Addr×Nat)) ?_ ?_ ?_ ?_
 ·exact⟨aQ _,by omega⟩
 ·exact Zwk
 ·exact Zu
 rintro⟨k,A,c⟩ ⟨hk1,hkz⟩;dsimp only at hk1 hkz⊢;refine Z_6 ?_;refine ZSe (fun w hi=>HS w) ?_;refine Z_3 ?_;refine ZW ?_ ?_<;>intro hc3
 ·simp only[ap]at hc3;refine Z_9 ?_;refine Zy (eP (Zv rfl) (Zv rfl) (show _=((k - 1:Nat):Int)from by rw[IntWalk.i64_in _ ⟨by omega,by omega⟩];omega)) ?_;refine Zy (cu rfl rfl (Zv rfl) (u64_wrap_id _ (by omega) (by omega))) ?_;refine Zy (i3 (Zv rfl) (Zv rfl) (show _=((8*(k - 1):Nat):Int)from by rw[u64_wrap_id _ (by omega) (by omega)];omega)) ?_;refine Zy (jY (Zv rfl) (Zv rfl) (by omega) rfl) ?_;refine Zy (cu rfl rfl (Zv rfl) (show _=encB nn (k - 1)from rfl)) ?_;refine dM (cm rfl rfl Zrf Zrf rfl rfl) rfl ?_;rintro _ _ ⟨b25,rfl,rfl⟩;refine dM (cM (e:=5) (sz:=1) (bytes:=1) rfl rfl Za rfl rfl (fun w hi=>hi.rd (show Has _ (slv 5 1 (some ⟨b25,0,none⟩) 1 1 (ints .u8 [encB nn (k - 1)]))from Zh)) cY (by simp only[maxLen];omega) (by omega)) rfl ?_;rintro _ _ ⟨A2,c2,rfl,rfl⟩;rw[cD,←Bm op nn hk1];refine Z_6 ?_;refine Zy (cF Zv0 Zv0 Zl) ?_;refine Z_2 ?_;refine cz ((⟨k+1,A2,c2⟩:Nat×Option Addr×Nat)) ?_ ?_ ?_
  ·exact⟨⟨show 1≤k+1 by omega,show k+1≤max 1 z by omega⟩,show 10 - (k+1)<10 - k by omega⟩
  ·exact Zwk
  exact Zj
 simp only[aj]at hc3;obtain rfl:k=max 1 z:=(by omega);refine gK ?_;refine Zrb ([slv _ _ _ _ _ _]) ?_;exact⟨A,c,rfl,rfl⟩
theorem Ex(A:Option Addr)(c:Nat)(l:List (Int×Int))(hl:l.length≤1000)(w:World)(h:RdV w 2 A l.length c (l.flatMap iH)):Ctr prog 42 [.slice A l.length c] w [] (fun v cs=>∃A' c',v= .slice A' (kK l).length c'∧cs=[sl .u8 5 A' (kK l).length c' (kK l)]):=by
 refine bL func42 rfl ntmps42 rfl (Inv.start w) ?_;refine jW ?_;refine dB 5 1 ?_;refine Z_4 ?_;refine cJ (fun q:Nat×Option Addr×Nat=>[(0,.slice A l.length c),(3,.slice q.2.1 (kJ l q.1).length q.2.2),(4,.int .i64 (q.1:Int))]) (fun q=>[sl .u8 5 q.2.1 (kJ l q.1).length q.2.2 (kJ l q.1)]) (fun q=>q.1≤l.length) (fun q=>l.length - q.1) ((⟨0,none,0⟩:Nat×Option Addr×Nat)) ?_ ?_ ?_ ?_
 ·exact aw _
 ·exact Zwk
 ·exact Zu
 rintro⟨k,A1,c1⟩ hk;dsimp only at hk⊢;have hcl:=kI l k;refine Z_9 ?_;refine ZW ?_ ?_<;>intro hc3
 ·simp only[ap]at hc3;have hkl:k<l.length:=(by omega);obtain⟨ad,rfl⟩:=h.some_ (by omega);have hla:l[k]? =some (l[k]'hkl):=ak hkl;obtain⟨⟨op,nn⟩,ha⟩:=Zgn (l[k]'hkl);rw[ha]at hla;have hel:=wT op nn;refine Z_8 ?_;refine Zy (dk (j:=k) rfl Zrf (Zv rfl) (Zv rfl) (fun _=>by omega) (fun _=>by omega)) ?_;refine dU (cC (vs:=[.int .i64 op,.int .u32 nn]) Zrf Zrf Zv0) (fC h (fun j v hj=>fF wB (i:=j) hla hj)) rfl ?_;refine ZS (fun w hi=>enc_ok op nn w) ?_;rintro _ _ ⟨_,⟨A2,c2,rfl,rfl⟩,rfl⟩;refine dM (cM (e:=5) (sz:=1) (bytes:=1) rfl rfl Za rfl rfl (fun w hi=>hi.rd (show Has _ (sl .u8 5 A2 (oE op nn).length c2 (oE op nn))from Zh)) cY (by simp only[maxLen];omega) (by omega)) rfl ?_;rintro _ _ ⟨A3,c3,rfl,rfl⟩;rw[cD,←ae,←sq hla];refine Z_6 ?_;refine Zy (cF Zv0 Zv0 Zl) ?_;refine Z_2 ?_;refine cz ((⟨k+1,A3,c3⟩:Nat×Option Addr×Nat)) ?_ ?_ ?_
  ·exact⟨show k+1≤l.length by omega,show l.length - (k+1)<l.length - k by omega⟩
  ·exact Zwk
  exact Zj
 simp only[aj]at hc3;obtain rfl:k=l.length:=(by omega);refine gK ?_;refine Zrb ([slv _ _ _ _ _ _]) ?_;exact⟨A1,c1,rfl,rfl⟩
end Go.Proofs.YtomjgmbccamgiaaGreatDoor
namespace Go.Ink
open Go.RowKit
structure GLoc where
 bw:Nat
 bu:Nat
 bb:Nat
 L:gQ
 D:p6
 bg:Nat
 K:RMLoc
 bx:Nat
 by_:Nat
 bd:Nat
theorem new_wf:St.new.wf:=⟨u0,u0,u0,u0,u0,u0,u0,⟨bF _,show(0:Int)≤18446744073709551615 by decide⟩,fun x hx=>(by cases hx),fun x hx=>by cases hx⟩
theorem oq{n:Nat}{l k:List Int}(hl:l.length≤n*64)(hb:u8s l)(hk:k.length≤1024)(hkb:u8s k):GOk n St.new ⟨Mem.init n l,eE⟩ (Dev.init k):=
 ⟨new_wf,rfl,⟨Jm hl hb,s8⟩,Dev.Jm hk hkb,⟨bF _,show(0:Int)≤255 by decide⟩⟩
end Go.Ink
namespace Go.Proofs.YtomjgmbccamgiaaGreatDoor
open Go.RowKit Go.Ink Go.Proofs.Tryz
attribute [local irreducible] OpY bW
theorem xV(A:Option Addr)(c n:Nat)(l:List Int)(hn:n≤64)(hl:l.length≤n*64)(w:World)(h:Rd w .u8 A l.length c l):
  Ctr prog 68 [.int .i64 n,.slice A l.length c] w [] (fun v cs=>∃K,v= .pointer (some ⟨K.bm,0,none⟩)∧cs=uC K n (jl n l) (List.replicate n false)):=by
 refine bL func68 rfl ntmps68 rfl (Inv.start w) ?_;refine Z_8 ?_;refine ZS (fun w hi=>AM n hn w) ?_;rintro _ _ ⟨_,⟨K,rfl,rfl⟩,rfl⟩;refine eK ?_;refine dM (tf rfl rfl Za rfl rfl (fun w hi=>h.IB hi) cY (by omega)) rfl ?_;rintro _ _ ⟨rfl,rfl⟩;have hd2:(ints .u8 (List.replicate (n*64) 0)).take 0++(ints .u8 l).take (min l.length (n*64))++(ints .u8 (List.replicate (n*64) 0)).drop (0+min l.length (n*64))=ints .u8 (jl n l):=(by rw[Nat.min_eq_left hl];simp[ints,jl,List.take_of_length_le]);rw[hd2];refine Z_9 ?_;refine Zrb ((uC K n (jl n l) (List.replicate n false))) ?_;exact⟨K,rfl,rfl⟩
abbrev imgV(A:Option Addr)(c:Nat)(l:List Int)(B:Option Addr)(e:Nat)(k:List Int)(n:Nat):Value:= .agg #[.slice A l.length c,.slice B k.length e,.int .i64 (n:Int)]
abbrev DV(F:GLoc)(s:St):bJ:=row F.bg (s.cells (.slice none 0 0) (.slice none 0 0)++[.pointer (some ⟨F.bx,0,none⟩),.pointer (some ⟨F.by_,0,none⟩)]) 150
abbrev BW(F:GLoc)(s:St):bJ:=row F.bw ([.pointer (some ⟨F.bu,0,none⟩),.pointer (some ⟨F.D.bs,0,none⟩),.pointer (some ⟨F.L.bm,0,none⟩)]++(s.cells (.slice none 0 0) (.slice none 0 0)++[.pointer (some ⟨F.bg,0,none⟩)])) 45
abbrev r18F(F:GLoc)(n:Nat)(Z:j0)(data:List Int)(tu:List Bool)(T:List TE)(d:Dev):List bJ:=uC F.K n data tu++[ro F.bx F.K.bm T]++AL F.by_ F.K.bm F.bd Z d
theorem xK(A B:Option Addr)(c e n:Nat)(l k:List Int)(hn:n≤64)(hl:l.length≤n*64)(hk:k.length≤1024)(w:World)(h:Rd w .u8 A l.length c l)(hB:Rd w .u8 B k.length e k):
  Ctr prog 33 [imgV A c l B e k n] w [] (fun v cs=>∃bg K bx by_ bd,v= .pointer (some ⟨bg,0,none⟩)∧cs=row bg (St.new.cells (.slice none 0 0) (.slice none 0 0)++[.pointer (some ⟨bx,0,none⟩),.pointer (some ⟨by_,0,none⟩)]) 150::(uC K n (jl n l) (List.replicate n false)++[ro bx K.bm eE]++AL by_ K.bm bd ⟨none,0,none,0⟩ (Dev.init k))):=by
 have H1:=xV A c n l hn hl;have H3:=fun bm w h=>xL bm B e k hk w h
 obtain⟨d,hd⟩:=Zgn (Dev.init k);obtain⟨data,hda⟩:=Zgn (jl n l);obtain⟨tu,htu⟩:=Zgn (List.replicate n false);rw[hd]at H3⊢;rw[hda,htu]at H1⊢;refine bL func33 rfl ntmps33 rfl (Inv.start w) ?_;refine Z_2 ?_;refine ZO fun b1=>?_;refine Z_9 ?_;refine ZS (fun w hi=>H1 w (h.IB hi)) ?_;rintro _ _ ⟨_,⟨K,rfl,rfl⟩,rfl⟩;refine ZS (fun w hi=>xM K.bm w) ?_;rintro _ _ ⟨_,⟨bx,rfl,rfl⟩,rfl⟩;refine Z_4 ?_;refine cj ⟨fun j=>List.elem j [],[]⟩ Zk ?_;refine ZE 0 ?_;refine ZE 1 ?_;refine ZE 2 ?_;refine ZE 3 ?_;refine ZFe 4 0 ?_;refine ZG 5 ?_;refine ZFe 6 1 ?_;refine ZG 7 ?_;refine cE 8 Zk ?_;refine ZT (fun w hi=>H3 K.bm w (hB.IB hi)) ?_;rintro _ _ ⟨_,⟨by_,bd,rfl,rfl⟩,rfl⟩;refine ZE 9 ?_;refine cE 10 Zk ?_;refine gu rfl rfl (qX rfl rfl) ZJ rfl ?_;rintro _ _ ⟨b20,rfl,rfl⟩;refine ZE 11 ?_;refine bO Zk ?_;refine Z_2 ?_;refine bQ (row b20 (St.new.cells (.slice none 0 0) (.slice none 0 0)++[.pointer (some ⟨bx,0,none⟩),.pointer (some ⟨by_,0,none⟩)]) 150::(uC K n data tu++[ro bx K.bm eE]++AL by_ K.bm bd ⟨none,0,none,0⟩ d)) Zj ?_;refine Zrb ((row b20 (St.new.cells (.slice none 0 0) (.slice none 0 0)++[.pointer (some ⟨bx,0,none⟩),.pointer (some ⟨by_,0,none⟩)]) 150::(uC K n data tu++[ro bx K.bm eE]++AL by_ K.bm bd ⟨none,0,none,0⟩ d))) ?_;exact⟨b20,K,bx,by_,bd,rfl,rfl⟩
abbrev fr18(F:GLoc)(n:Nat)(l k:List Int):List bJ:=BW F St.new::DV F St.new::(ubF F.bu F.bb F.L F.D ⟨none,0,none,0⟩ ⟨Mem.init n l,eE⟩ (Dev.init k)++r18F F n ⟨none,0,none,0⟩ (jl n l) (List.replicate n false) eE (Dev.init k))
theorem mL(A B:Option Addr)(c e n:Nat)(l k:List Int)(hn0:1≤n)(hn:n≤64)(hl:l.length≤n*64)(hb:u8s l)(hk:k.length≤1024)(w:World)(h:Rd w .u8 A l.length c l)(hB:Rd w .u8 B k.length e k):
  Ctr prog 7 [imgV A c l B e k n] w [] (fun v cs=>∃F,F.L.n=n∧v= .pointer (some ⟨F.bw,0,none⟩)∧cs=fr18 F n l k):=by
 have H1:=Da A c n l hn0 hn hl hb;have H2:=fun bm w h=>ED bm B e k hk w h
 have H3:=xK A B c e n l k hn hl hk;unfold fr18;obtain⟨M,hM⟩:=Zgn (Mem.init n l);obtain⟨d,hd⟩:=Zgn (Dev.init k);obtain⟨data,hda⟩:=Zgn (jl n l);obtain⟨tu,htu⟩:=Zgn (List.replicate n false);rw[hM]at H1⊢;rw[hd]at H2 H3⊢;rw[hda,htu]at H3⊢;refine bL func7 rfl ntmps7 rfl (Inv.start w) ?_;refine Z_2 ?_;refine ZO fun b1=>?_;refine Z_9 ?_;refine ZS (fun w hi=>H1 w (h.IB hi)) ?_;rintro _ _ ⟨_,⟨L,hL,rfl,rfl⟩,rfl⟩;refine eK ?_;refine bY rfl (rfl) ?_;refine Z_5 ?_;refine ZS (fun w hi=>C6 L.bm w) ?_;rintro _ _ ⟨_,⟨bu,bb,rfl,rfl⟩,rfl⟩;refine gK ?_;refine ZS (fun w hi=>H2 L.bm w (hB.IB hi)) ?_;rintro _ _ ⟨_,⟨D,rfl,rfl⟩,rfl⟩;refine ln ?_;refine Z_6 ?_;refine bY rfl (rfl) ?_;refine Z_3 ?_;refine cj ⟨fun j=>List.elem j [],[]⟩ Zk ?_;refine ZE 0 ?_;refine ZE 1 ?_;refine ZE 2 ?_;refine ZI 4 ?_;refine cE 3 Zk ?_;refine ZT (fun w hi=>new_ok w) ?_;rintro _ _ ⟨_,⟨rfl,rfl⟩,rfl⟩;refine cE 5 Zk ?_;refine ZT (fun w hi=>H3 w (h.IB hi) (hB.IB hi)) ?_;rintro _ _ ⟨_,⟨bg,K,bx,by_,bd,rfl,rfl⟩,rfl⟩;refine ZE 6 ?_;refine cE 7 Zk ?_;refine gu rfl rfl (qX rfl rfl) ZJ rfl ?_;rintro _ _ ⟨b48,rfl,rfl⟩;refine ZE 8 ?_;refine bO Zk ?_;refine Z_2 ?_;refine bQ (BW ⟨b48,bu,bb,L,D,bg,K,bx,by_,bd⟩ St.new::DV ⟨b48,bu,bb,L,D,bg,K,bx,by_,bd⟩ St.new::(ubF bu bb L D ⟨none,0,none,0⟩ ⟨M,eE⟩ d++r18F ⟨b48,bu,bb,L,D,bg,K,bx,by_,bd⟩ n ⟨none,0,none,0⟩ data tu eE d)) Zj ?_;refine Zrb ((BW ⟨b48,bu,bb,L,D,bg,K,bx,by_,bd⟩ St.new::DV ⟨b48,bu,bb,L,D,bg,K,bx,by_,bd⟩ St.new::(ubF bu bb L D ⟨none,0,none,0⟩ ⟨M,eE⟩ d++r18F ⟨b48,bu,bb,L,D,bg,K,bx,by_,bd⟩ n ⟨none,0,none,0⟩ data tu eE d))) ?_;exact⟨⟨b48,bu,bb,L,D,bg,K,bx,by_,bd⟩,hL,rfl,rfl⟩
end Go.Proofs.YtomjgmbccamgiaaGreatDoor
namespace Go.Ink
open Go.RowKit
end Go.Ink
namespace Go.Proofs.YtomjgmbccamgiaaGreatDoor
open Go.RowKit Go.Ink Go.Proofs.Tryz
attribute [local irreducible] OpY bW
end Go.Proofs.YtomjgmbccamgiaaGreatDoor
namespace Go.Ink
open Go.RowKit
structure EP(s:St):Prop where
 wf:s.wf
 pg:s.It=false
 ha:s.halted=false
 d:s.d=[]
 r:s.r=[]
 fl:s.right=true
 pc:64≤s.pc∧s.pc≤1063
 ve:64≤s.vec∧s.vec≤1063
theorem EP.next{s:St}(h:EP s):EP (s.next.Iv 10 s.pc):=
 ⟨yJ (CZ h.wf) _ h.wf.pc,h.pg,h.ha,h.d,h.r,h.fl,h.ve,h.ve⟩
end Go.Ink
namespace Go.Proofs.YtomjgmbccamgiaaGreatDoor
open Go.RowKit Go.Ink Go.Proofs.Tryz
attribute [local irreducible] OpY bW
end Go.Proofs.YtomjgmbccamgiaaGreatDoor
namespace Go.Ink
open Go.RowKit
end Go.Ink
namespace Go.Proofs.YtomjgmbccamgiaaGreatDoor
open Go.RowKit Go.Ink Go.Proofs.Tryz
attribute [local irreducible] OpY bW
theorem lY(s t:St)(Ad Ar Bd Br:Option Addr)(cd cr ed er:Nat)(w:World)(h:mR w s Ad Ar cd cr)(h2:mR w t Bd Br ed er):
  Ctr prog 12 [sv s Ad cd Ar cr,sv t Bd ed Br er] w [] (fun v cs=>v= .bool (s.Jv t)∧cs=[]):=by
 have HS:=FQ s t Ad Ar Bd Br cd cr ed er;refine bL func12 rfl ntmps12 rfl (Inv.start w) ?_;refine Z_2 ?_;refine ZO fun b2=>?_;refine ZO fun b3=>?_
 refine Z_7 ?_;refine dX ga (.cons Zv0 (.cons Zv0 .nil)) (fun _ _=>rfl) (fun hg w hi=>HS w (h.IB hi) (h2.IB hi)) rfl ?_;refine Z_4 ?_;refine Zra ?_;exact⟨rfl,rfl⟩
end Go.Proofs.YtomjgmbccamgiaaGreatDoor
namespace Go.Ink
open Go.RowKit
structure vl where
 kd:Int
 n:Int
 v:Int
 at_:Int
 B:Option Addr
 cb:Nat
 bs:List Int
def vl.cells(a:vl):List Value:=[.int .i64 a.kd,.int .i64 a.n,.int .u32 a.v,.int .u32 a.at_,.slice a.B a.bs.length a.cb]
theorem vl.I7(a:vl):a.cells.length=5:=rfl
structure vl.ok(W:World)(a:vl):Prop where
 v:u32 a.v
 at_:u32 a.at_
 rd:Rd W .u8 a.B a.bs.length a.cb a.bs
 bs:u8s a.bs
theorem lC{a b:List Int}(h:u8s a)(h2:u8s b):u8s (a++b):=fun x hx=>(aV.1 hx).elim (h x) (h2 x)
end Go.Ink
namespace Go.Proofs.YtomjgmbccamgiaaGreatDoor
open Go.RowKit Go.Ink Go.Proofs.Tryz
attribute [local irreducible] OpY bW
set_option maxRecDepth 100000 in
theorem F2{W:World}{es:List Value}(h:Arg prog W 128 es):∃a:vl,es=a.cells∧a.ok W:=by
 obtain⟨hl,hf⟩:=h.struct rfl;have hl:es.length=5:=hl
 match es,hl with
 |[c0,c1,c2,c3,c4],_=>
  have k0:Arg prog W _ [c0]:=hf 0 _ rfl;have k1:Arg prog W _ [c1]:=hf 1 _ rfl;have k2:Arg prog W _ [c2]:=hf 2 _ rfl;have k3:Arg prog W _ [c3]:=hf 3 _ rfl;have k4:Arg prog W _ [c4]:=hf 4 _ rfl;obtain⟨n0,rfl,m0⟩:=arg1 rfl k0;obtain⟨n1,rfl,m1⟩:=arg1 rfl k1;obtain⟨n2,rfl,m2⟩:=arg1 rfl k2;obtain⟨n3,rfl,m3⟩:=arg1 rfl k3;obtain⟨A2,d2,x2,e2,r2,b2,z2⟩:=k4.ints (e:=5) (k:= .u8) rfl rfl rfl;obtain rfl:c4=_:=by simpa using e2
  exact⟨⟨n0,n1,n2,n3,A2,d2,x2⟩,rfl,⟨yG m2,yG m3,r2,fun x hx=>wf_u8 (z2 x hx)⟩⟩
set_option maxRecDepth 100000 in
theorem wc{W:World}{v:Value}(h:yx prog W 22 v):∃(A:Option Addr) (c:Nat) (l:List vl),v= .slice A l.length c∧RdV W 5 A l.length c (l.flatMap vl.cells)∧∀a,a∈l→a.ok W:=by
 obtain⟨A,c,xs,h1,h2,h3,h4⟩:=yx.rows (e:=128) rfl rfl vl.I7 ⟨0,0,0,0,none,0,[]⟩ (fun es he=>F2 he) h;exact⟨A,c,xs,h1,h2,h3⟩
theorem np(A:Option Addr)(c:Nat)(l:List (Int×Int))(hl:l.length≤3)(w:World)(h:RdV w 2 A l.length c (l.flatMap iH)):Ctr prog 42 [.slice A l.length c] w [] (fun v cs=>∃A' c' E,(u8s E∧E.length≤15)∧v= .slice A' E.length c'∧cs=[sl .u8 5 A' E.length c' E]):=
 (Ex A c l (by omega) w h).mono (fun v cs ⟨A',c',h1,h2⟩=>⟨A',c',kK l,⟨so _ _,aY (kI _ _) (by omega)⟩,h1,h2⟩)
theorem CX(A:Option Addr)(c:Nat)(l:List vl)(w:World)(h:RdV w 5 A l.length c (l.flatMap vl.cells))(hl:∀a,a∈l→a.ok w):
  Ctr prog 28 [.slice A l.length c,.int .i64 60] w [] (fun v cs=>∃A' c' E,(u8s E∧E.length≤900)∧v= .slice A' E.length c'∧cs=[sl .u8 5 A' E.length c' E]):=by
 have hlm:l.length≤maxLen:=aY h.cap h.max;simp only[maxLen]at hlm;refine bL func28 rfl ntmps28 rfl (Inv.start w) ?_;refine jW ?_;refine dB 5 1 ?_;refine Z_4 ?_;refine cJ (fun q:Nat×Option Addr×Nat×List Int=>[(0,.slice A l.length c),(1,.int .i64 60),(5,.slice q.2.1 q.2.2.2.length q.2.2.1),(6,.int .i64 (q.1:Int))]) (fun q=>[sl .u8 5 q.2.1 q.2.2.2.length q.2.2.1 q.2.2.2]) (fun q=>q.1≤60∧u8s q.2.2.2∧q.2.2.2.length≤15*q.1) (fun q=>60 - q.1) (⟨0,none,0,[]⟩) ?_ ?_ ?_ ?_
 ·exact⟨aw _,fun x hx=>(by cases hx),aQ _⟩
 ·exact Zwk
 ·exact Zu
 rintro⟨i,A1,c1,o⟩ ⟨hi60,ho1,ho2⟩;dsimp only at hi60 ho1 ho2⊢;refine ic ?_;refine ZW ?_ ?_<;>intro hc3
 ·have hil:i<l.length∧i<60:=(by revert hc3;cases h1:decide ((i:Int)<(l.length:Int))<;>cases h2:decide ((i:Int)<60)<;>simp_all<;>omega);obtain⟨ad,rfl⟩:=h.some_ (by omega);have hla:l[i]? =some (l[i]'hil.1):=ak hil.1;have hok:=hl _ (List.getElem_mem hil.1);obtain⟨r,hr⟩:=Zgn (l[i]'hil.1);rw[hr]at hla hok;obtain⟨kd,n,v,at_,B,cb,bs⟩:=r;obtain⟨hv,hat,hrd,hbs⟩:=hok;dsimp only at hv hat hrd hbs;obtain⟨v,rfl⟩:∃m:Nat,v=m:=ar hv.1;obtain⟨a,rfl⟩:∃m:Nat,at_=m:=ar hat.1;have hv2:=hv.2;have ha2:=hat.2;obtain⟨km,hkm⟩:=Zgn (jD kd 0 1000);have HW:=fun w=>hkm▸i6 kd 0 1000 w (by decide) (by decide) (by decide)
  have hb9:=lN hrd 9;have hE2:(bs.take 9).length≤9:=(by rw[az];omega);have hE1:u8s (bs.take 9):=(fun x hx=>hbs x (List.mem_of_mem_take hx));have HCut:=fun w=>Es B cb bs 9 w hrd.cap
  obtain⟨E,hb9e⟩:=Zgn (bs.take 9);rw[hb9e]at hb9 hE2 hE1 HCut;have HI1:=zi n a hat;have HI2:=zi n v hv;obtain⟨sop,hs⟩:∃y,([49,51,53]:List Int)[v%3]? =some y:=⟨_,ak (show v%3<3 by omega)⟩;obtain⟨lop,hlo⟩:∃y,([48,50,52]:List Int)[v%3]? =some y:=⟨_,ak (show v%3<3 by omega)⟩;refine Z_8 ?_;refine Zy (dk (j:=i) rfl Zrf (Zv rfl) (Zv rfl) (fun _=>by omega) (fun _=>by omega)) ?_;refine dU (cC (vs:=[.int .i64 kd,.int .i64 n,.int .u32 (v:Int),.int .u32 (a:Int),.slice B bs.length cb]) Zrf Zrf Zv0) (fC h (fun j v hj=>fF vl.I7 (i:=j) hla hj)) rfl ?_;refine ZN fun b7=>?_
  refine ZM ?_;refine Z_7 ?_;refine ZN fun b8=>?_
  refine ZM ?_;refine Z_6 ?_;refine Zy (gt (Zv rfl) (Zv rfl) (by omega) (show _=((a%300:Nat):Int)from by rw[aD (by omega)];omega)) ?_;refine ZA ?_;refine ZN fun b9=>?_
  refine ZM ?_;refine Z_6 ?_;refine ZSe (fun w hi=>HW w) ?_;refine Zy (gt (Zv rfl) (Zv rfl) (by omega) (by first|exact IntWalk.rem_in _ _ (by omega)|exact rfl)) ?_;refine Z_9 ?_;refine ZW ?_ ?_<;>intro hc10
  ·refine eM ⟨fun j=>List.elem j [12],[]⟩ [(0,0),(1,4),(2,4),(4,0),(5,4),(6,0),(3,2),(7,0),(8,4),(9,0),(10,2),(11,2),(12,2),(13,0)] Zk Zk ?_;refine bU rfl (cy Zv0) rfl ?_;refine jB rfl Zh Zrf Zrf (Zv rfl) rfl ?_;refine jB rfl Zh Zrf Zrf (Zv rfl) rfl ?_;refine bU rfl (cA 2 rfl Zv0 Zf) rfl ?_;refine iL rfl (bM Zrf Zv0) (bR Zh rfl) rfl ?_;refine bU rfl (gt (Zv rfl) (Zv rfl) (by omega) (show _=((v%3:Nat):Int)from by rw[aD (by omega)];omega)) rfl ?_;refine et rfl ?_;refine fa rfl rfl (cm rfl rfl Zrf Zrf rfl rfl) ZJ rfl ?_;rintro _ _ ⟨b50,rfl,rfl⟩;refine bU rfl (cI (j:=(v%3)) (sz:=1) (r:=(v%3)) rfl Zrf (Zv rfl) (Zv rfl) (fun _=>by omega) (fun _=>by omega) (by omega)) rfl ?_;refine iL rfl (bM Zrf Zv0) (dE Zh (df (l:=[49,51,53]) hs)) rfl ?_;refine bU rfl (qL rfl rfl Zrf rfl rfl rfl Zb) rfl ?_;refine et rfl ?_;refine fa rfl rfl (di rfl rfl Zrf Zrf rfl rfl rfl) ZJ rfl ?_;rintro _ _ ⟨b57,rfl,rfl⟩;refine et rfl ?_;refine fa rfl rfl (eG rfl (fun _ _=>rfl) (fun w hi=>np (some ⟨b57,0,none⟩) 3 [(2,(v:Int)),(2,((a%300:Nat):Int)),(sop,0)] (by simp) w (hi.rd (show Has _ (slv 94 2 (some ⟨b57,0,none⟩) 3 3 ([(2,(v:Int)),(2,((a%300:Nat):Int)),(sop,0)].flatMap iH))from Zh)))) ZJ rfl ?_;rintro _ _ ⟨_,⟨A2,c2,E,⟨hE1,hE2⟩,rfl,rfl⟩,rfl⟩;refine et rfl ?_;refine fa rfl rfl (cM (e:=5) (sz:=1) (bytes:=1) rfl rfl Za rfl rfl (fun w hi=>hi.rd (show Has _ (sl .u8 5 A2 E.length c2 E)from Zh)) cY (by simp only[maxLen];omega) (by omega)) ZJ rfl ?_;rintro _ _ ⟨A3,c3,rfl,rfl⟩;rw[cD,←ae];refine bU rfl (fh Zv0) rfl ?_;refine dA ?_;refine Z_5 ?_;refine Zy (cF Zv0 Zv0 Zl) ?_;refine Z_2 ?_;refine cz ((⟨i+1,A3,c3,o++E⟩:Nat×Option Addr×Nat×List Int)) ?_ ?_ ?_
   ·exact⟨⟨show i+1≤60 by omega,lC ho1 hE1,show(o++E).length≤15*(i+1) by rw[ae];omega⟩,show 60 - (i+1)<60 - i by omega⟩
   ·exact Zwk
   exact Zj
  refine Z_6 ?_;refine ZW ?_ ?_<;>intro hc12
  ·refine eM ⟨fun j=>List.elem j [11],[]⟩ [(0,0),(1,4),(3,0),(4,4),(5,0),(2,2),(6,0),(7,4),(8,0),(9,2),(10,2),(11,2),(12,0)] Zk Zk ?_;refine bU rfl (cy Zv0) rfl ?_;refine jB rfl Zh Zrf Zrf (Zv rfl) rfl ?_;refine bU rfl (cA 2 rfl Zv0 Zf) rfl ?_;refine iL rfl (bM Zrf Zv0) (bR Zh rfl) rfl ?_;refine bU rfl (gt (Zv rfl) (Zv rfl) (by omega) (show _=((v%3:Nat):Int)from by rw[aD (by omega)];omega)) rfl ?_;refine et rfl ?_;refine fa rfl rfl (cm rfl rfl Zrf Zrf rfl rfl) ZJ rfl ?_;rintro _ _ ⟨b64,rfl,rfl⟩;refine bU rfl (cI (j:=(v%3)) (sz:=1) (r:=(v%3)) rfl Zrf (Zv rfl) (Zv rfl) (fun _=>by omega) (fun _=>by omega) (by omega)) rfl ?_;refine iL rfl (bM Zrf Zv0) (dE Zh (df (l:=[48,50,52]) hlo)) rfl ?_;refine bU rfl (qL rfl rfl Zrf rfl rfl rfl Zb) rfl ?_;refine et rfl ?_;refine fa rfl rfl (di rfl rfl Zrf Zrf rfl rfl rfl) ZJ rfl ?_;rintro _ _ ⟨b71,rfl,rfl⟩;refine et rfl ?_;refine fa rfl rfl (eG rfl (fun _ _=>rfl) (fun w hi=>np (some ⟨b71,0,none⟩) 2 [(2,((a%300:Nat):Int)),(lop,0)] (by simp) w (hi.rd (show Has _ (slv 94 2 (some ⟨b71,0,none⟩) 2 2 ([(2,((a%300:Nat):Int)),(lop,0)].flatMap iH))from Zh)))) ZJ rfl ?_;rintro _ _ ⟨_,⟨A2,c2,E,⟨hE1,hE2⟩,rfl,rfl⟩,rfl⟩;refine et rfl ?_;refine fa rfl rfl (cM (e:=5) (sz:=1) (bytes:=1) rfl rfl Za rfl rfl (fun w hi=>hi.rd (show Has _ (sl .u8 5 A2 E.length c2 E)from Zh)) cY (by simp only[maxLen];omega) (by omega)) ZJ rfl ?_;rintro _ _ ⟨A3,c3,rfl,rfl⟩;rw[cD,←ae];refine bU rfl (fh Zv0) rfl ?_;refine dA ?_;refine Z_5 ?_;refine Zy (cF Zv0 Zv0 Zl) ?_;refine Z_2 ?_;refine cz ((⟨i+1,A3,c3,o++E⟩:Nat×Option Addr×Nat×List Int)) ?_ ?_ ?_
   ·exact⟨⟨show i+1≤60 by omega,lC ho1 hE1,show(o++E).length≤15*(i+1) by rw[ae];omega⟩,show 60 - (i+1)<60 - i by omega⟩
   ·exact Zwk
   exact Zj
  refine Z_6 ?_;refine ZW ?_ ?_<;>intro hc14
  ·refine Z_4 ?_;refine Zy (gt (Zv rfl) (Zv rfl) (by omega) (show _=((a%13:Nat):Int)from by rw[aD (by omega)];omega)) ?_;refine Zy (i3 (Zv rfl) (Zv rfl) (show _=((a%13*4:Nat):Int)from by rw[u32_wrap_id _ (by omega) (by omega)];omega)) ?_;refine Zy (cF (Zv rfl) (Zv rfl) (show _=((32768+a%13*4:Nat):Int)from by rw[u32_wrap_id _ (by omega) (by omega)];omega)) ?_;refine Z_1 ?_;refine ZL ?_;refine Z_6 ?_;refine Zy (gt (Zv rfl) (Zv rfl) (by omega) (show _=((v%3:Nat):Int)from by rw[aD (by omega)];omega)) ?_;refine Z_3 ?_;refine ZW ?_ ?_<;>intro hc16
   ·refine Z_4 ?_;refine dM (di rfl rfl Zrf Zrf rfl rfl rfl) rfl ?_;rintro _ _ ⟨b89,rfl,rfl⟩;refine ZS (fun w hi=>np (some ⟨b89,0,none⟩) 2 [(2,((32768+a%13*4:Nat):Int)),(48,0)] (by simp) w (hi.rd (show Has _ (slv 94 2 (some ⟨b89,0,none⟩) 2 2 ([(2,((32768+a%13*4:Nat):Int)),(48,0)].flatMap iH))from Zh))) ?_;rintro _ _ ⟨_,⟨A2,c2,E,⟨hE1,hE2⟩,rfl,rfl⟩,rfl⟩;refine dM (cM (e:=5) (sz:=1) (bytes:=1) rfl rfl Za rfl rfl (fun w hi=>hi.rd (show Has _ (sl .u8 5 A2 E.length c2 E)from Zh)) cY (by simp only[maxLen];omega) (by omega)) rfl ?_;rintro _ _ ⟨A3,c3,rfl,rfl⟩;rw[cD,←ae];refine Z_7 ?_;refine Zy (cF Zv0 Zv0 Zl) ?_;refine Z_2 ?_;refine cz ((⟨i+1,A3,c3,o++E⟩:Nat×Option Addr×Nat×List Int)) ?_ ?_ ?_
    ·exact⟨⟨show i+1≤60 by omega,lC ho1 hE1,show(o++E).length≤15*(i+1) by rw[ae];omega⟩,show 60 - (i+1)<60 - i by omega⟩
    ·exact Zwk
    exact Zj
   refine Z_4 ?_;refine Zy (gt (Zv rfl) (Zv rfl) (by omega) (show _=((v%256:Nat):Int)from by rw[aD (by omega)];omega)) ?_;refine Z_3 ?_;refine dM (di rfl rfl Zrf Zrf rfl rfl rfl) rfl ?_;rintro _ _ ⟨b99,rfl,rfl⟩;refine ZS (fun w hi=>np (some ⟨b99,0,none⟩) 3 [(1,((v%256:Nat):Int)),(2,((32768+a%13*4:Nat):Int)),(49,0)] (by simp) w (hi.rd (show Has _ (slv 94 2 (some ⟨b99,0,none⟩) 3 3 ([(1,((v%256:Nat):Int)),(2,((32768+a%13*4:Nat):Int)),(49,0)].flatMap iH))from Zh))) ?_;rintro _ _ ⟨_,⟨A2,c2,E,⟨hE1,hE2⟩,rfl,rfl⟩,rfl⟩;refine dM (cM (e:=5) (sz:=1) (bytes:=1) rfl rfl Za rfl rfl (fun w hi=>hi.rd (show Has _ (sl .u8 5 A2 E.length c2 E)from Zh)) cY (by simp only[maxLen];omega) (by omega)) rfl ?_;rintro _ _ ⟨A3,c3,rfl,rfl⟩;rw[cD,←ae];refine Z_7 ?_;refine Zy (cF Zv0 Zv0 Zl) ?_;refine Z_2 ?_;refine cz ((⟨i+1,A3,c3,o++E⟩:Nat×Option Addr×Nat×List Int)) ?_ ?_ ?_
   ·exact⟨⟨show i+1≤60 by omega,lC ho1 hE1,show(o++E).length≤15*(i+1) by rw[ae];omega⟩,show 60 - (i+1)<60 - i by omega⟩
   ·exact Zwk
   exact Zj
  refine Z_6 ?_;refine ZW ?_ ?_<;>intro hc19
  ·refine Z_4 ?_;refine Zy (gt (Zv rfl) (Zv rfl) (by omega) (show _=((v%256:Nat):Int)from by rw[aD (by omega)];omega)) ?_;refine Z_3 ?_;refine Zy (gt (Zv rfl) (Zv rfl) (by omega) (show _=((a%12:Nat):Int)from by rw[aD (by omega)];omega)) ?_;refine ZA ?_;refine dM (di rfl rfl Zrf Zrf rfl rfl rfl) rfl ?_;rintro _ _ ⟨b113,rfl,rfl⟩;refine ZS (fun w hi=>np (some ⟨b113,0,none⟩) 2 [(1,((v%256:Nat):Int)),(67,((a%12:Nat):Int))] (by simp) w (hi.rd (show Has _ (slv 94 2 (some ⟨b113,0,none⟩) 2 2 ([(1,((v%256:Nat):Int)),(67,((a%12:Nat):Int))].flatMap iH))from Zh))) ?_;rintro _ _ ⟨_,⟨A2,c2,E,⟨hE1,hE2⟩,rfl,rfl⟩,rfl⟩;refine dM (cM (e:=5) (sz:=1) (bytes:=1) rfl rfl Za rfl rfl (fun w hi=>hi.rd (show Has _ (sl .u8 5 A2 E.length c2 E)from Zh)) cY (by simp only[maxLen];omega) (by omega)) rfl ?_;rintro _ _ ⟨A3,c3,rfl,rfl⟩;rw[cD,←ae];refine Z_7 ?_;refine Zy (cF Zv0 Zv0 Zl) ?_;refine Z_2 ?_;refine cz ((⟨i+1,A3,c3,o++E⟩:Nat×Option Addr×Nat×List Int)) ?_ ?_ ?_
   ·exact⟨⟨show i+1≤60 by omega,lC ho1 hE1,show(o++E).length≤15*(i+1) by rw[ae];omega⟩,show 60 - (i+1)<60 - i by omega⟩
   ·exact Zwk
   exact Zj
  refine Z_6 ?_;refine ZW ?_ ?_<;>intro hc21
  ·refine Z_4 ?_;refine ZSe (fun w hi=>HCut w) ?_;refine dM (cM (e:=5) (sz:=1) (bytes:=1) rfl rfl Za rfl rfl (fun w hi=>hb9.IB hi) cY (by simp only[maxLen];omega) (by omega)) rfl ?_;rintro _ _ ⟨A3,c3,rfl,rfl⟩;rw[cD,←ae];refine Z_7 ?_;refine Zy (cF Zv0 Zv0 Zl) ?_;refine Z_2 ?_;refine cz ((⟨i+1,A3,c3,o++E⟩:Nat×Option Addr×Nat×List Int)) ?_ ?_ ?_
   ·exact⟨⟨show i+1≤60 by omega,lC ho1 hE1,show(o++E).length≤15*(i+1) by rw[ae];omega⟩,show 60 - (i+1)<60 - i by omega⟩
   ·exact Zwk
   exact Zj
  refine Z_6 ?_;refine ZW ?_ ?_<;>intro hc23
  ·refine eM ⟨fun j=>List.elem j [12],[]⟩ [(0,0),(1,0),(2,4),(3,0),(4,0),(5,0),(6,4),(7,0),(8,4),(9,2),(10,2),(11,2),(12,2),(13,0)] Zk Zk ?_;refine bU rfl (cy Zv0) rfl ?_;refine bU rfl (cA 2 rfl Zv0 Zf) rfl ?_;refine iL rfl (bM Zrf Zv0) (bR Zh rfl) rfl ?_;refine bU rfl (gt (Zv rfl) (Zv rfl) (by omega) (show _=((v%256:Nat):Int)from by rw[aD (by omega)];omega)) rfl ?_;refine bU rfl (qL rfl rfl Zrf rfl rfl rfl Zb) rfl ?_;refine bU rfl (cA 1 rfl Zv0 Zf) rfl ?_;refine iL rfl (bM Zrf Zv0) (bR Zh rfl) rfl ?_;refine bU rfl (cA 3 rfl Zv0 Zf) rfl ?_;refine iL rfl (bM Zrf Zv0) (bR Zh rfl) rfl ?_;refine et rfl ?_;refine fa rfl rfl (eG rfl (fun _ _=>rfl) (fun w hi=>HI1 w)) ZJ rfl ?_;rintro _ _ ⟨_,⟨⟨op,nn,rfl,hnu, -⟩,rfl⟩,rfl⟩;refine et rfl ?_;refine fa rfl rfl (di rfl rfl Zrf Zrf rfl rfl rfl) ZJ rfl ?_;rintro _ _ ⟨b135,rfl,rfl⟩;refine et rfl ?_;refine fa rfl rfl (eG rfl (fun _ _=>rfl) (fun w hi=>np (some ⟨b135,0,none⟩) 2 [(1,((v%256:Nat):Int)),(op,nn)] (by simp) w (hi.rd (show Has _ (slv 94 2 (some ⟨b135,0,none⟩) 2 2 ([(1,((v%256:Nat):Int)),(op,nn)].flatMap iH))from Zh)))) ZJ rfl ?_;rintro _ _ ⟨_,⟨A2,c2,E,⟨hE1,hE2⟩,rfl,rfl⟩,rfl⟩;refine et rfl ?_;refine fa rfl rfl (cM (e:=5) (sz:=1) (bytes:=1) rfl rfl Za rfl rfl (fun w hi=>hi.rd (show Has _ (sl .u8 5 A2 E.length c2 E)from Zh)) cY (by simp only[maxLen];omega) (by omega)) ZJ rfl ?_;rintro _ _ ⟨A3,c3,rfl,rfl⟩;rw[cD,←ae];refine bU rfl (fh Zv0) rfl ?_;refine dA ?_;refine Z_5 ?_;refine Zy (cF Zv0 Zv0 Zl) ?_;refine Z_2 ?_;refine cz ((⟨i+1,A3,c3,o++E⟩:Nat×Option Addr×Nat×List Int)) ?_ ?_ ?_
   ·exact⟨⟨show i+1≤60 by omega,lC ho1 hE1,show(o++E).length≤15*(i+1) by rw[ae];omega⟩,show 60 - (i+1)<60 - i by omega⟩
   ·exact Zwk
   exact Zj
  refine Z_6 ?_;refine ZS (fun w hi=>HI2 w) ?_;rintro _ _ ⟨_,⟨⟨op,nn,rfl,hnu, -⟩,rfl⟩,rfl⟩;refine dM (di rfl rfl Zrf Zrf rfl rfl rfl) rfl ?_;rintro _ _ ⟨b42,rfl,rfl⟩;refine ZS (fun w hi=>np (some ⟨b42,0,none⟩) 1 [(op,nn)] (by simp) w (hi.rd (show Has _ (slv 94 2 (some ⟨b42,0,none⟩) 1 1 ([(op,nn)].flatMap iH))from Zh))) ?_;rintro _ _ ⟨_,⟨A2,c2,E,⟨hE1,hE2⟩,rfl,rfl⟩,rfl⟩;refine dM (cM (e:=5) (sz:=1) (bytes:=1) rfl rfl Za rfl rfl (fun w hi=>hi.rd (show Has _ (sl .u8 5 A2 E.length c2 E)from Zh)) cY (by simp only[maxLen];omega) (by omega)) rfl ?_;rintro _ _ ⟨A3,c3,rfl,rfl⟩;rw[cD,←ae];refine Z_7 ?_;refine Zy (cF Zv0 Zv0 Zl) ?_;refine Z_2 ?_;refine cz ((⟨i+1,A3,c3,o++E⟩:Nat×Option Addr×Nat×List Int)) ?_ ?_ ?_
  ·exact⟨⟨show i+1≤60 by omega,lC ho1 hE1,show(o++E).length≤15*(i+1) by rw[ae];omega⟩,show 60 - (i+1)<60 - i by omega⟩
  ·exact Zwk
  exact Zj
 refine gK ?_;refine Zrb ([slv _ _ _ _ _ _]) ?_;exact⟨A1,c1,o,⟨ho1,by omega⟩,rfl,rfl⟩
theorem zj(A B:Option Addr)(c e:Nat)(l:List vl)(Ig:Int)(k:List Int)(hk:u8s k)(w:World)(h:RdV w 5 A l.length c (l.flatMap vl.cells))(hl:∀a,a∈l→a.ok w)(hB:Rd w .u8 B k.length e k):
  Ctr prog 6 [.slice A l.length c,.int .i64 Ig,.slice B k.length e] w [] (fun v cs=>∃(A':Option Addr) (c':Nat) (E E2:List Int) (n:Nat),(u8s E∧(1≤n∧n≤16)∧(E.take (n*64)).length≤n*64)∧v=imgV A' c' (E.take (n*64)) B e (k.take 1024) n∧cs=[sl .u8 5 A' E.length c' E]):=by
 have HP:=CX A c l;obtain⟨m,hm⟩:=Zgn (jD Ig 0 15);have hmr:=iP Ig 0 15 (by decide);rw[hm]at hmr;have HW:=fun w=>hm▸i6 Ig 0 15 w (by decide) (by decide) (by decide)
 obtain⟨n0,rfl⟩:∃q:Nat,m=q:=ar hmr.1;have HK:=fun w=>Es B e k 1024 w hB.cap
 refine bL func6 rfl ntmps6 rfl (Inv.start w) ?_;refine Z_2 ?_;refine ZN fun b6=>?_;refine Z_5 ?_;refine ZSe (fun w hi=>HW w) ?_;refine Zy (cF (Zv rfl) (Zv rfl) (show _=((1+n0:Nat):Int)from by rw[IntWalk.i64_in _ ⟨by omega,by omega⟩];omega)) ?_;refine Z_6 ?_;refine ZS (fun w hi=>HP w (h.IB hi) (fun a ha=>⟨(hl a ha).v,(hl a ha).at_,(hl a ha).rd.IB hi,(hl a ha).bs⟩)) ?_;rintro _ _ ⟨_,⟨A1,c1,E,⟨hE1,hE2⟩,rfl,rfl⟩,rfl⟩;refine ZA ?_;refine Zy (i3 (Zv rfl) (Zv rfl) (show _=(((1+n0)*64:Nat):Int)from by rw[IntWalk.i64_in _ ⟨by omega,by omega⟩];omega)) ?_;refine ZSe (fun w hi=>Es A1 c1 E ((1+n0)*64) w (hi.rd (show Has _ (sl .u8 5 A1 E.length c1 E)from Zh)).cap) ?_;refine ZA ?_;refine ZSe (fun w hi=>HK w) ?_;refine Z_2 ?_;refine ZM ?_;refine Z_3 ?_;refine bQ [row b6 [.slice A1 (E.take ((1+n0)*64)).length c1,.slice B (k.take 1024).length e,.int .i64 ((1+n0:Nat):Int)] 25,sl .u8 5 A1 E.length c1 E] Zj ?_;refine kk (cs':=[sl .u8 5 A1 E.length c1 E]) (.inl rfl) Zu rfl rfl Zh Zrf Zrf ?_;exact⟨A1,c1,E,[],1+n0,⟨hE1,⟨by omega,by omega⟩,by rw[az];omega⟩,rfl,rfl⟩
end Go.Proofs.YtomjgmbccamgiaaGreatDoor
namespace Go.Ink
open Go.RowKit
def cP(b:List Int):Nat→Nat→List (Int×Int)×Nat×Bool
 |0,sz=>([],sz,false)
 |k+1,sz=>match dY (b.drop sz)with
  |none=>([],sz,false)
  |some (i,z)=>bif dD i.1 then(bif gq i.1 then([i],sz+z,true)else(i::(cP b k (sz+z)).1,(cP b k (sz+z)).2.1,(cP b k (sz+z)).2.2))else([],sz,false)
inductive kt (b:List Int):Nat→List (Int×Int)→Nat→Prop
 |nil (o:Nat):kt b o [] o
 |cons {o z e:Nat} {i:Int×Int} {l:List (Int×Int)} (h:dY (b.drop o)=some (i,z)) (t:kt b (o+z) l e):kt b o (i::l) e
theorem nm{b:List Int}{i:Int×Int}{z:Nat}(h:dY b=some (i,z)):z=(cG i.1).toNat∧0<cG i.1∧z≤b.length∧∀b':List Int,b'.take z=b.take z→dY b'=some (i,z):=by
 cases b with
 |nil=>cases h
 |cons op l=>
  have h:(bif cG op==0 then none else bif decide ((l.length:Int)+1<cG op)then none else some ((op,xi (l.take ((cG op).toNat - 1))),(cG op).toNat))=some (i,z):=h;cases h0:cG op==0 with
  |true=>rw[h0]at h;cases h
  |false=>
  cases h1:decide ((l.length:Int)+1<cG op)with
  |true=>rw[h0,h1]at h;cases h
  |false=>
  rw[h0,h1]at h;simp only[aa,aU,aX]at h;obtain⟨rfl,rfl⟩:=h;simp only[beq_eq_false_iff_ne,aj]at h0 h1;have hz:cG op=0∨cG op=1∨cG op=2∨cG op=5:=jf op;refine⟨rfl,by show 0<cG op;omega,by rw[ai];omega,fun b' hb=>?_⟩;obtain⟨m,hm⟩:∃m:Nat,(cG op).toNat=m+1:=⟨(cG op).toNat - 1,by omega⟩;rw[hm]at hb⊢;cases b' with
  |nil=>rw[List.take_succ_cons,List.take_nil]at hb;cases hb
  |cons op' l'=>
   rw[List.take_succ_cons,List.take_succ_cons,List.cons.injEq]at hb;obtain⟨rfl,hb⟩:=hb;have hl:m≤l'.length:=by
    have e:=congrArg List.length hb;rw[az,az]at e;omega
   rw[show m+1 - 1=m from rfl,←hb];exact oI (by omega) hl
theorem kt.le{b:List Int}{o e:Nat}{l:List (Int×Int)}(h:kt b o l e):o≤e:=by
 induction h with
 |nil=>exact aQ _
 |cons h t ih=>omega
theorem kt.ends{b:List Int}{o e:Nat}{l:List (Int×Int)}(h:kt b o l e)(hl:l≠[]):e≤b.length∧o<e:=by
 induction h with
 |nil=>exact absurd rfl hl
 | @cons o z e i l h t ih=>
  obtain⟨h1,h2,h3, -⟩:=nm h;rw[bz]at h3;have hle:=t.le;have hz:0<z:=by omega
  cases l with
  |nil=>cases t;omega
  |cons j l=>have:=ih (by simp);omega
theorem kt.stay{b b':List Int}{o e:Nat}{l:List (Int×Int)}(h:kt b o l e)(hb:b'.take e=b.take e):kt b' o l e:=by
 induction h with
 |nil=>exact .nil _
 | @cons o z e i l h t ih=>
  obtain⟨-, -, -,h4⟩:=nm h;refine .cons (h4 _ ?_) (ih hb);have hle:=t.le;rw[List.take_drop,List.take_drop,show(b'.take (o+z))=(b'.take e).take (o+z) by rw[List.take_take,Nat.min_eq_left hle],hb,List.take_take,Nat.min_eq_left hle]
theorem kX(b:List Int):∀(k sz:Nat),kt b sz (cP b k sz).1 (cP b k sz).2.1∧(cP b k sz).1.length≤k∧((cP b k sz).1≠[]→(cP b k sz).2.2=gq ((cP b k sz).1.getLastD (0,0)).1)∧((cP b k sz).1=[]→(cP b k sz).2.2=false)
 |0,sz=>⟨.nil sz,aQ _,fun h=>absurd rfl h,fun _=>rfl⟩
 |k+1,sz=>by
  unfold cP;cases hd:dY (b.drop sz)with
  |none=>exact⟨.nil sz,aw _,fun h=>absurd rfl h,fun _=>rfl⟩
  |some q=>
   obtain⟨i,z⟩:=q;dsimp only;cases hp:dD i.1 with
   |false=>exact⟨.nil sz,aw _,fun h=>absurd rfl h,fun _=>rfl⟩
   |true=>
    rw[ac];cases he:gq i.1 with
    |true=>exact⟨.cons hd (.nil _),by simp,fun _=>he.symm,fun h=>by cases h⟩
    |false=>
     rw[aa];obtain⟨h1,h2,h3,h4⟩:=kX b k (sz+z);refine⟨.cons hd h1,Nat.succ_le_succ h2,fun _=>?_,fun h=>by cases h⟩;dsimp only;cases hl:(cP b k (sz+z)).1 with
     |nil=>rw[h4 hl];exact he.symm
     |cons j l=>rw[h3 (by rw[hl];simp),hl];rfl
theorem kt.u32{b:List Int}(hb:u8s b){o e:Nat}{l:List (Int×Int)}(h:kt b o l e):∀i,i∈l→u32 i.2:=by
 induction h with
 |nil=>intro i hi;cases hi
 | @cons o z e i l h t ih=>
  intro j hj;rcases aM.1 hj with rfl|hj
  ·obtain⟨op,nn⟩:=j;exact(mj (fun x hx=>hb x (List.mem_of_mem_drop hx)) h).1
  exact ih j hj
theorem zO{b:Bool}{x y:Run}{h:Bool}(hx:x.s.halted=h)(hy:y.s.halted=h):(bif b then x else y).s.halted=h:=by cases b<;>assumption
theorem vY{op nn:Int}{s:St}(h:dD op=true):(doN s op nn).s.halted=s.halted:=by
 have hm:(wk s op nn).s.halted=s.halted:=by
  have hc:op=0∨op=1∨op=2∨op=3∨op=4∨op=5∨op=6∨op=7∨op=8∨op=16∨op=17∨op=18∨op=19∨op=20∨op=21∨op=22∨op=23∨op=25∨op=32∨op=33∨op=34∨op=35∨op=36∨op=37∨op=38∨op=39∨op=40:=by
   rcases iS h with h|h|h|h<;>omega
  rcases hc with rfl|rfl|rfl|rfl|rfl|rfl|rfl|rfl|rfl|rfl|rfl|rfl|rfl|rfl|rfl|rfl|rfl|rfl|rfl|rfl|rfl|rfl|rfl|rfl|rfl|rfl|rfl<;>
  first
  |exact rfl
  |exact zO rfl rfl
  |exact zO (b:=(iq _ (eY s _).pop.top (eY s _).top).2.2) (x:=(eY s _).pop.pop) (y:=(eY s _).pop.pop.wt ⟨5,0⟩) rfl rfl
 unfold doN;cases s.right with
 |false=>rfl
 |true=>
  simp only[Bool.not_true,aa];cases(gg s op nn !=0)with
  |true=>rfl
  |false=>
   rw[aa];unfold H6;cases((wk s op nn).Iv.Im !=0)with
   |true=>rfl
   |false=>exact hm
theorem Ia{b:Bool}{x y:Run}{h:Int}(hx:x.s.pc=h)(hy:y.s.pc=h):(bif b then x else y).s.pc=h:=by cases b<;>assumption
theorem FX{op nn:Int}{s s1:St}(h:dD op=true)(hr:s.right=true)(he:gq op=false)(hd:doN s op nn=⟨s1,false,false,[]⟩):s1.pc=dS s op:=by
 have hlt:=Ed h he;have hm:(wk s op nn).s.pc=dS s op:=by
  have hc:op=0∨op=1∨op=2∨op=3∨op=4∨op=5∨op=6∨op=7∨op=8∨op=16∨op=17∨op=18∨op=19∨op=20∨op=21∨op=22∨op=23∨op=25:=by
   rcases iS h with h|h|h|h<;>omega
  rcases hc with rfl|rfl|rfl|rfl|rfl|rfl|rfl|rfl|rfl|rfl|rfl|rfl|rfl|rfl|rfl|rfl|rfl|rfl<;>
  first
  |exact rfl
  |exact Ia rfl rfl
  |exact Ia (b:=(iq _ (eY s _).pop.top (eY s _).top).2.2) (x:=(eY s _).pop.pop) (y:=(eY s _).pop.pop.wt ⟨5,0⟩) rfl rfl
 unfold doN at hd;rw[hr]at hd;simp only[Bool.not_true,aa]at hd;cases hk:(gg s op nn !=0)with
 |true=>rw[hk]at hd;cases hd
 |false=>
  rw[hk,aa]at hd;unfold H6 at hd;cases ht:((wk s op nn).Iv.Im !=0)with
  |true=>rw[ht]at hd;cases hd
  |false=>
   rw[ht,aa]at hd;obtain rfl:=congrArg Res.s hd;exact hm
theorem y9(p:Int)(va:Nat):(pQ p va).toNat%64=va%64∧0≤pQ p va:=by
 unfold pQ;simp only[aE];omega
theorem Ak(n:Nat)(U:Mmu)(s:Sp)(va:Nat)(kind:Int)(h:(dh n U s va kind).1.2.Im=0):(dh n U s va kind).1.1.toNat%64=va%64:=by
 unfold dh at h⊢;revert h;cases s.It with
 |false=>intro _;show((va:Int)).toNat%64=_;rw[aS]
 |true=>
  simp only[Bool.not_true,aa];intro h;cases hf:(qb U.t va kind s.Il).2 with
  |true=>
   rw[ac];show(qb U.t va kind s.Il).1.toNat%64=_;unfold qb at hf⊢;cases hn:nh (xx U.t va) va (asked kind s.Il)with
   |true=>rw[hn]at hf;cases hf
   |false=>rw[aa];exact(y9 _ va).1
  |false=>
   rw[hf,aa]at h;rw[aa];cases hw:(gR n U.m s.root va kind s.Il).1.2.Im !=0 with
   |true=>
    rw[hw,ac]at h;simp only[bne_iff_ne]at hw;exact absurd h hw
   |false=>rw[aa];exact(y9 _ va).1
theorem CU(n:Nat)(U:Mmu)(s:Sp)(va:Nat)(h:(cW n U s va 1).1.2.Im=0):(cW n U s va 1).1.1.toNat%64=va%64∧(cW n U s va 1).1.1<((n*64:Nat):Int):=by
 have hf:(fault 1==0)=false:=rfl;unfold cW at h⊢;rw[hf,aa]at h⊢;cases hc:(dh n U s va 1).1.2.Im !=0 with
 |true=>
  rw[hc,ac]at h;simp only[bne_iff_ne]at hc;exact absurd h hc
 |false=>
  rw[hc,aa]at h;rw[aa];simp only[bne_eq_false_iff_eq]at hc;have e:((1:Int) !=1)=false:=rfl;rw[e,Bool.false_and,Bool.or_false]at h⊢;cases hd:decide ((dh n U s va 1).1.1<((n*64:Nat):Int))with
  |false=>rw[hd,aa]at h;cases h
  |true=>
   rw[ac];exact⟨Ak n U s va 1 hc,by simpa using hd⟩
theorem sB{n:Nat}{s:St}{U:Mmu}{d:Dev}(h:GOk n s U d)(hr:(JE n s U d).runs=true):(JE n s U d).place.toNat%64=(JE n s U d).s.pc.toNat%64∧(JE n s U d).place<((n*64:Nat):Int):=by
 unfold JE at hr⊢;cases hc: !s.right||s.halted with
 |true=>rw[hc]at hr;cases hr
 |false=>
  rw[hc,aa]at hr;rw[aa];unfold sC at hr⊢;dsimp only at hr⊢;cases ht:(cW n U (told s (d.tick s.count)).space (told s (d.tick s.count)).pc.toNat 1).1.2.Im !=0 with
  |true=>rw[ht]at hr;cases hr
  |false=>
   rw[aa];simp only[bne_eq_false_iff_eq]at ht;exact CU n U _ _ ht
theorem tA{n Iy:Nat}(hn:n≤1000000)(hpg:Iy<n):∀(l:List (Int×Int)) {s s2:St} (o k:Nat) {e:Nat} {U:Mmu} (d:Dev),l≠[]→BB l s s2→l.length≤k→kt ((U.m.data.drop (Iy*64)).take 64) o l e→0≤s.pc→s.pc≤4294967295→s.pc.toNat%64=o→s.halted=false→
  s2.halted=false∧(gq (l.getLastD (0,0)).1=false→s2.pc=IntKind.u32.wrap (s.pc+((e:Int) - (o:Int))))∧eZ n Iy k s (Iy*64+o) U d=bif gq (l.getLastD (0,0)).1||s2.pc/64 !=s.pc/64 then(s2,⟨U.m.calm,U.t⟩,d)else eZ n Iy (k - l.length) s2 (Iy*64+e) ⟨U.m.calm,U.t⟩ d
 |[],_,_,_,_,_,_,_,hl,_,_,_,_,_,_,_=>absurd rfl hl
 |(op,nn)::l,s,s2,o,0,e,U,d,_,_,hk,_,_,_,_,_=>by simp at hk
 |(op,nn)::l,s,s2,o,k+1,e,U,d,_,hc,hk,hs,p0,p1,hpo,hh=>by
  have hse:=(hs.ends (by simp));rw[az]at hse;cases hc with
  | @cons _ _ _ _ s1 _ hp hr hdo hm hc=>
  cases hs with
  | @cons _ z _ _ _ hd hs=>
  obtain⟨hz1,hz2,hz3, -⟩:=nm hd;dsimp only at hz1 hz2;have hle:=hs.le;have hf:ft n U.m (Iy*64+o)=some ((op,nn),z):=by
   unfold ft;have e1:(Iy*64+o)/64=Iy:=by omega
   have e2:(Iy*64+o)%64=o:=by omega
   rw[e1,e2,aG hpg,ac];exact hd
  obtain⟨hpd, -, -⟩:=y8 (n:=n) (nn:=nn) (U:=U) (d:=d) hp hr;rw[hdo]at hpd;have hh1:s1.halted=false:=by
   have:=vY (s:=s) (nn:=nn) hp;rw[hdo]at this;exact this.trans hh
  have e64:(Iy*64+o+z)%4294967296=Iy*64+(o+z):=by omega
  cases l with
  |nil=>
   cases hc
   cases hs
   refine⟨hh1,fun he=>?_,?_⟩
   ·rw[FX hp hr he hdo];unfold dS;rw[aE,aE,aE];omega
   show eZ n Iy (k+1) s (Iy*64+o) U d=bif gq op||s2.pc/64 !=s.pc/64 then(s2,⟨U.m.calm,U.t⟩,d)else eZ n Iy k s2 (Iy*64+(o+z)) ⟨U.m.calm,U.t⟩ d
   conv=>lhs;unfold eZ
   rw[hf];dsimp only;rw[hpd];dsimp only;rw[e64];unfold kC;dsimp only;rw[hh1];have hcon:List.contains ([]:List Int) ((Iy:Nat):Int)=false:=rfl;rw[hcon];cases gq op with
   |true=>rfl
   |false=>
    simp only[Bool.or_false,aa,Bool.false_or];cases hq:s2.pc/64==s.pc/64 with
    |true=>simp only[bne,hq,Bool.not_true,ac,aa]
    |false=>simp only[bne,hq,Bool.not_false,ac,aa]
  |cons j l=>
   obtain⟨he,hpc⟩:=hm (by simp);have hse2:=(hs.ends (by simp)).2;have hpc1:s1.pc=s.pc+z:=by
    rw[hpc];unfold dS;rw[aE,aE];omega
   have ih:=tA hn hpg (j::l) (s:=s1) (s2:=s2) (o+z) k (e:=e) (U:=⟨U.m.calm,U.t⟩) d (by simp) hc (by simpa using hk) hs (by omega) (by omega) (by omega) hh1;refine⟨ih.1,fun he=>?_,?_⟩
   ·rw[ih.2.1 he,hpc1,show(s.pc+(z:Int)+((e:Int) - ((o+z:Nat):Int)))=s.pc+((e:Int) - (o:Int)) by omega]
   have hlast:(((op,nn)::j::l).getLastD (0,0))=((j::l).getLastD (0,0)):=rfl;have hq:s1.pc/64=s.pc/64:=by omega
   conv=>lhs;unfold eZ
   rw[hf];dsimp only;rw[hpd];dsimp only;rw[e64];unfold kC;dsimp only;rw[hh1,he];have hcon:List.contains ([]:List Int) ((Iy:Nat):Int)=false:=rfl;rw[hcon];simp only[Bool.or_false,aa];rw[show(s1.pc/64==s.pc/64)=true by rw[hq];simp,ac,ih.2.2,hlast,hq];rw[show(k+1) - (((op,nn)::j::l)).length=k - (j::l).length by simp]
   rfl
structure Blk where
 key:Ky
 code:List HI
 count:Int
structure Rn where
 bytes:List Int
 ends:Bool
def Rn.zero:Rn:=⟨[],false⟩
def rq{α:Type}(key:α→Ky)(room:Int)(l:List α)(t:α):List α:=match cX key (key t) l with
 |some j=>l.set j t
 |none=>bif decide (room≤(l.length:Int))then[t]else l++[t]
def sL{β:Type}(l:List Blk)(L:List (Ky×β)):List (Ky×β):=L.filter fun x=>l.any fun t=>t.key==x.1
structure Eng where
 room:Int
 l:List Blk
 runs:List (Ky×Rn)
 last:Ky
 IC:Int
 IA:Int
 begun:Bool
def Eng.fresh(room:Int):Eng:=⟨room,[],[],(0,0),0,0,false⟩
def Eng.flush(E:Eng):Eng:={E with l:=[],runs:=[]}
def wz(E:Eng)(k:Ky)(b:List Int):Option (Blk×Rn):=match E.l.find? (fun t=>t.key==k)with
 |some t=>bif(fX E.runs k Rn.zero).bytes.isPrefixOf b then some (t,fX E.runs k Rn.zero)else none
 |none=>none
def rE(k:Ky)(b:List Int):Option (Blk×Rn):=match fq k.1 (cP b 8 0).1 with
 |none=>none
 |some p=>bif p.Iw then some (⟨k,gr p (dP p),((cP b 8 0).1.length:Int)⟩,⟨b.take (cP b 8 0).2.1,(cP b 8 0).2.2⟩)else none
def addE(E:Eng)(t:Blk)(r:Rn):Eng:=
 let l':=rq Blk.key E.room E.l t
 let L:=dF E.runs t.key r
 {E with l:=l',runs:=bif decide (l'.length<L.length)then sL l' L else L}
def kr(E:Eng)(k:Ky)(b:List Int):Option (Blk×Rn)×Eng:=match wz E k b with
 |some q=>(some q,E)
 |none=>match rE k b with
  |some q=>(some q,addE E q.1 q.2)
  |none=>(none,E)
def ja(E:Eng)(s:St)(place:Int)(b:List Int):Option (St×Rn×Int)×Eng:=match kr E (s.pc,place) b with
 |(none,E')=>(none,E')
 |(some (t,r),E')=>bif(ij t.code s).2==1 then(some ((ij t.code s).1,r,t.count),{E' with last:=(s.pc,place),begun:=true,IC:=IntKind.i64.wrap (E'.IC+t.count)})else(none,E')
def Ej(E:Eng)(Ig:List Int):Eng:=
 let l':=E.l.filter fun t=> !Ig.contains (t.key.2/64)
 {E with l:=l',runs:=bif decide (l'.length<E.l.length)then sL l' E.runs else E.runs}
def lD(E:Eng)(Ig:List Int):Eng:=bif Ig.isEmpty then E else Ej E Ig
def jd(n:Nat)(Iy:Nat):Nat→St→Nat→Mmu→Dev→Eng→(St×Mmu×Dev)×Eng
 |0,s,_,U,d,E=>((s,U,d),E)
 |k+1,s,p,U,d,E=>match ft n U.m p with
  |none=>((s.next.Iv 1 0,U,d),{E with IA:=IntKind.i64.wrap (E.IA+1)})
  |some ((op,nn),sz)=>
   let q:=vd n s op nn U d
   let E':=lD {E with IA:=IntKind.i64.wrap (E.IA+1)} q.1.Ig
   bif kC op q.1 Iy s.pc then jd n Iy k q.1.s ((p+sz)%4294967296) q.2.1 q.2.2 E' else((q.1.s,q.2.1,q.2.2),E')
def ip(M:Mem)(p:Nat):List Int:=((M.data.drop (p/64*64)).take 64).drop (p%64)
def doE(n:Nat)(s:St)(U:Mmu)(d:Dev)(E:Eng):(St×Mmu×Dev)×Eng:=
 let b:=JE n s U d
 bif b.runs then
  match ja E b.s b.place (ip b.u.m b.place.toNat)with
  |(none,E')=>jd n (b.place.toNat/64) 8 b.s b.place.toNat b.u b.d E'
  |(some (o,r,c),E')=>bif(r.ends&&decide (0<c))||o.pc/64 !=b.s.pc/64 then((o,⟨b.u.m.calm,b.u.t⟩,b.d),E')
    else jd n ((b.place.toNat+r.bytes.length)%4294967296/64) (8 - c).toNat o ((b.place.toNat+r.bytes.length)%4294967296) ⟨b.u.m.calm,b.u.t⟩ b.d E'
 else((b.s,b.u,b.d),{E with IA:=IntKind.i64.wrap (E.IA+IntKind.i64.wrap (IntKind.u64.wrap (b.s.count - s.count)))})
theorem Gb{α:Type}{key:α→Ky}{room:Int}{l:List α}{t x:α}(h:x∈rq key room l t):x=t∨(x∈l∧(∀y,y∈l→(l.map key).Nodup→key x≠key t)):=by
 unfold rq at h;cases hp:cX key (key t) l with
 |some j=>
  rw[hp]at h;dsimp only at h;obtain⟨hj,hk⟩:=fp hp;obtain⟨i,hi,rfl⟩:=List.getElem_of_mem h;rw[List.getElem_set];by_cases e:j=i
  ·rw[if_pos e];exact Or.inl rfl
  rw[if_neg e];have hi':i<l.length:=by simpa using hi
  refine Or.inr ⟨List.getElem_mem _,fun y _ hn hke=>e ?_⟩;rw[←hk]at hke;exact((List.getElem_inj (xs:=l.map key) (h₀:=by simpa using hi') (h₁:=by simpa using hj) hn).1 (by simpa using hke)).symm
 |none=>
  rw[hp]at h;dsimp only at h;cases hd:decide (room≤(l.length:Int))with
  |true=>rw[hd,ac]at h;exact Or.inl (by simpa using h)
  |false=>
   rw[hd,aa,aV]at h;rcases h with h|h
   ·exact Or.inr ⟨h,fun _ _ _=>ik hp x h⟩
   exact Or.inl (by simpa using h)
theorem CF{α:Type}{key:α→Ky}{room:Int}{l:List α}{t:α}:t∈rq key room l t:=by
 unfold rq;cases hp:cX key (key t) l with
 |some j=>obtain⟨hj, -⟩:=fp hp;exact List.mem_iff_getElem.2 ⟨j,by simpa using hj,by simp⟩
 |none=>cases hd:decide (room≤(l.length:Int))<;>simp
theorem o3{α:Type}{key:α→Ky}{room:Int}{l:List α}{t:α}(h:(l.map key).Nodup):((rq key room l t).map key).Nodup:=by
 unfold rq;cases hp:cX key (key t) l with
 |some j=>
  obtain⟨hj,hk⟩:=fp hp;dsimp only;rw[List.map_set,←hk];have:(l.map key).set j (key l[j])=l.map key:=by
   rw[show key l[j]=(l.map key)[j]'(by simpa using hj) by simp];exact List.set_getElem_self _
  rw[this];exact h
 |none=>
  dsimp only;cases hd:decide (room≤(l.length:Int))with
  |true=>simp
  |false=>
   rw[aa,List.map_append,List.nodup_append];refine⟨h,by simp,fun a ha b hb=>?_⟩;obtain⟨x,hx,rfl⟩:=bh.1 ha;have:b=key t:=by simpa using hb
   rw[this];exact ik hp x hx
theorem FV{α:Type}{key:α→Ky}{room:Int}{l:List α}{t:α}(h1:1≤room)(h:(l.length:Int)≤room):((rq key room l t).length:Int)≤room:=by
 unfold rq;cases hp:cX key (key t) l with
 |some j=>simpa using h
 |none=>
  dsimp only;cases hd:decide (room≤(l.length:Int))with
  |true=>simpa using h1
  |false=>simp only[aj]at hd;simp;omega
theorem uv{β:Type}(L:List (Ky×β))(k:Ky)(v:β):dF L k v=rq (·.1) ((L.length:Int)+1) L (k,v):=by
 unfold dF rq;cases cX (·.1) k L with
 |some j=>rfl
 |none=>
  dsimp only;rw[aF (by omega),aa]
theorem FG{β:Type}{L:List (Ky×β)}{k:Ky}{v:β}(z:β)(hn:(L.map (·.1)).Nodup)(h:(k,v)∈L):fX L k z=v:=by
 unfold fX;cases hf:L.find? (fun x=>x.1==k)with
 |none=>rw[List.find?_eq_none]at hf;exact absurd (hf _ h) (by simp)
 |some x=>
  have h1:=List.mem_of_find?_eq_some hf;have h2:=List.find?_some hf;have h3:x.1=k:=by simpa using h2
  obtain⟨i,hi,rfl⟩:=List.getElem_of_mem h1;obtain⟨j,hj,hje⟩:=List.getElem_of_mem h;have:i=j:=(List.getElem_inj (xs:=L.map (·.1)) (h₀:=by simpa using hi) (h₁:=by simpa using hj) hn).1 (by simp[h3,hje]);subst this;rw[hje];rfl
theorem jn{α:Type}{key:α→Ky}{l:List α}(f:α→Bool)(h:(l.map key).Nodup):((l.filter f).map key).Nodup:=h.sublist (List.Sublist.map key List.filter_sublist)
def Good(t:Blk)(r:Rn):Prop:=∃p il,fq t.key.1 il=some p∧p.Iw=true∧t.code=gr p (dP p)∧t.count=(il.length:Int)∧kt r.bytes 0 il r.bytes.length∧(∀i,i∈il→u32 i.2)∧r.ends=gq (il.getLastD (0,0)).1
structure gJ(E:Eng):Prop where
 room:1≤E.room∧E.room≤1024
 len:(E.l.length:Int)≤E.room
 keys:(E.l.map Blk.key).Nodup
 Jp:(E.runs.map (·.1)).Nodup
 I9:∀t,t∈E.l→∃r,(t.key,r)∈E.runs∧Good t r
theorem gJ.fresh{room:Int}(h:1≤room∧room≤1024):gJ (Eng.fresh room):=⟨h,by show((0:Nat):Int)≤room;omega,by simp[Eng.fresh],by simp[Eng.fresh],fun t ht=>by cases ht⟩
theorem gJ.flush{E:Eng}(h:gJ E):gJ E.flush:=⟨h.room,by show((0:Nat):Int)≤E.room;have:=h.room;omega,by simp[Eng.flush],by simp[Eng.flush],fun t ht=>by cases ht⟩
theorem gJ.same{E E':Eng}(h:gJ E)(h1:E'.room=E.room)(h2:E'.l=E.l)(h3:E'.runs=E.runs):gJ E':=⟨by rw[h1];exact h.room,by rw[h1,h2];exact h.len,by rw[h2];exact h.keys,by rw[h3];exact h.Jp,by rw[h2,h3];exact h.I9⟩
theorem wm{β:Type}{l:List Blk}{L:List (Ky×β)}{t:Blk}{r:β}(ht:t∈l)(h:(t.key,r)∈L):(t.key,r)∈sL l L:=List.mem_filter.2 ⟨h,List.any_eq_true.2 ⟨t,ht,by simp⟩⟩
theorem gJ.drop{E:Eng}(h:gJ E)(Ig:List Int):gJ (Ej E Ig):=by
 refine⟨h.room,?_,jn _ h.keys,?_,fun t ht=>?_⟩
 ·have:((E.l.filter fun t=> !Ig.contains (t.key.2/64)).length)≤E.l.length:=List.length_filter_le _ _;have:=h.len;show(((E.l.filter fun t=> !Ig.contains (t.key.2/64)).length:Nat):Int)≤E.room;omega
 ·show((bif _ then sL _ E.runs else E.runs).map (·.1)).Nodup;cases decide ((E.l.filter fun t=> !Ig.contains (t.key.2/64)).length<E.l.length)with
  |true=>exact jn _ h.Jp
  |false=>exact h.Jp
 have ht:t∈E.l.filter fun t=> !Ig.contains (t.key.2/64):=ht
 obtain⟨r,h1,h2⟩:=h.I9 t (List.mem_filter.1 ht).1;refine⟨r,?_,h2⟩;show(t.key,r)∈(bif _ then sL _ E.runs else E.runs);cases decide ((E.l.filter fun t=> !Ig.contains (t.key.2/64)).length<E.l.length)with
 |true=>exact wm ht h1
 |false=>exact h1
theorem gJ.turn{E:Eng}(h:gJ E)(Ig:List Int):gJ (lD E Ig):=by
 unfold lD;cases Ig.isEmpty with
 |true=>exact h
 |false=>exact h.drop Ig
theorem gJ.add{E:Eng}(h:gJ E){t:Blk}{r:Rn}(hg:Good t r):gJ (addE E t r):=by
 have hl:(t.key,r)∈dF E.runs t.key r:=by rw[uv];exact CF
 have hn:((dF E.runs t.key r).map (·.1)).Nodup:=by rw[uv];exact o3 h.Jp
 have hgo:∀x,x∈rq Blk.key E.room E.l t→∃r',(x.key,r')∈dF E.runs t.key r∧Good x r':=fun x hx=>by
  rcases Gb hx with rfl|⟨h1,h2⟩
  ·exact⟨r,hl,hg⟩
  obtain⟨r',h3,h4⟩:=h.I9 x h1;refine⟨r',?_,h4⟩;have hne:=h2 x h1 h.keys;unfold dF;cases hp:cX (·.1) t.key E.runs with
  |none=>exact aC _ h3
  |some j=>
   obtain⟨hj,hk⟩:=fp hp;obtain⟨i,hi,hie⟩:=List.getElem_of_mem h3;refine List.mem_iff_getElem.2 ⟨i,by simpa using hi,?_⟩;rw[List.getElem_set,if_neg (fun e=>hne ?_),hie];subst e;rw[hie]at hk;exact hk
 refine⟨h.room,FV h.room.1 h.len,o3 h.keys,?_,fun x hx=>?_⟩
 ·show((bif _ then sL _ _ else _).map (·.1)).Nodup;cases decide ((rq Blk.key E.room E.l t).length<(dF E.runs t.key r).length)with
  |true=>exact jn _ hn
  |false=>exact hn
 obtain⟨r',h1,h2⟩:=hgo x hx;refine⟨r',?_,h2⟩;show(x.key,r')∈(bif _ then sL _ _ else _);cases decide ((rq Blk.key E.room E.l t).length<(dF E.runs t.key r).length)with
 |true=>exact wm hx h1
 |false=>exact h1
theorem ov{E:Eng}(h:gJ E){k:Ky}{b:List Int}(hb:u8s b):gJ (kr E k b).2∧(kr E k b).2.room=E.room∧(kr E k b).2.IC=E.IC∧(kr E k b).2.IA=E.IA∧∀t r,(kr E k b).1=some (t,r)→
  ∃p il,fq k.1 il=some p∧p.Iw=true∧t.code=gr p (dP p)∧t.count=(il.length:Int)∧kt b 0 il r.bytes.length∧(∀i,i∈il→u32 i.2)∧r.ends=gq (il.getLastD (0,0)).1:=by
 unfold kr;cases hk:wz E k b with
 |some q=>
  refine⟨h,rfl,rfl,rfl,fun t r e=>?_⟩;obtain rfl:q=(t,r):=aJ e;unfold wz at hk;cases hf:E.l.find? (fun t=>t.key==k)with
  |none=>rw[hf]at hk;cases hk
  |some t'=>
   rw[hf]at hk;dsimp only at hk;cases hpre:(fX E.runs k Rn.zero).bytes.isPrefixOf b with
   |false=>rw[hpre]at hk;cases hk
   |true=>
    rw[hpre,ac,aU,aX]at hk;obtain⟨rfl,hr⟩:=hk;have hkey:t'.key=k:=by simpa using List.find?_some hf
    obtain⟨r',h1,p,il,g1,g2,g3,g4,g5,g6,g7⟩:=h.I9 t' (List.mem_of_find?_eq_some hf);have e1:=FG Rn.zero h.Jp h1;rw[hkey]at e1 g1;rw[e1]at hr hpre;subst hr;have hpr:b.take r'.bytes.length=r'.bytes:=by
     obtain⟨y,rfl⟩:=List.isPrefixOf_iff_prefix.1 hpre;exact List.take_left
    exact⟨p,il,g1,g2,g3,g4,g5.stay (by rw[hpr,bA]),g6,g7⟩
 |none=>
  cases hm:rE k b with
  |none=>exact⟨h,rfl,rfl,rfl,fun t r e=>by cases e⟩
  |some q=>
   obtain⟨t,r⟩:=q;unfold rE at hm;cases hl:fq k.1 (cP b 8 0).1 with
   |none=>rw[hl]at hm;cases hm
   |some p=>
    rw[hl]at hm;dsimp only at hm;cases hr:p.Iw with
    |false=>rw[hr]at hm;cases hm
    |true=>
     rw[hr,ac,aU,aX]at hm;obtain⟨rfl,rfl⟩:=hm;obtain⟨s1,s2,s3,s4⟩:=kX b 8 0;have hne:(cP b 8 0).1≠[]:=fun e=>by
      rw[e]at hl;unfold fq at hl;cases hl
     have hse:=s1.ends hne;have hlen:(b.take (cP b 8 0).2.1).length=(cP b 8 0).2.1:=by rw[az];omega
     have hu:=s1.u32 hb;refine⟨h.add ⟨p,_,hl,hr,rfl,rfl,?_,hu,s3 hne⟩,rfl,rfl,rfl,fun t r e=>?_⟩
     ·dsimp only;rw[hlen];exact s1.stay (by rw[List.take_take,Nat.min_self])
     obtain⟨rfl,rfl⟩:=Prod.mk.inj (aJ e);refine⟨p,_,hl,hr,rfl,rfl,?_,hu,s3 hne⟩;dsimp only;rw[hlen];exact s1
structure zS(E E':Eng)(c:Nat):Prop where
 IC:0≤E.IC→0≤E.IA→E.IC+E.IA+c≤1000000000→0≤E'.IC∧0≤E'.IA∧E'.IC+E'.IA=E.IC+E.IA+c∧E.IC≤E'.IC
 room:E'.room=E.room
theorem B7(E:Eng)(Ig:List Int):(lD E Ig).IC=E.IC∧(lD E Ig).IA=E.IA∧(lD E Ig).room=E.room:=by
 unfold lD;cases Ig.isEmpty<;>exact⟨rfl,rfl,rfl⟩
theorem uz{n Iy:Nat}:∀(k:Nat) {s:St} (p:Nat) {U:Mmu} {d:Dev} {E:Eng},GOk n s U d→gJ E→(jd n Iy k s p U d E).1=eZ n Iy k s p U d∧gJ (jd n Iy k s p U d E).2∧
  ∃c:Nat,c≤k∧zS E (jd n Iy k s p U d E).2 c∧(eZ n Iy k s p U d).1.count=IntKind.u64.wrap (s.count+(c:Int))
 |0,s,p,U,d,E,h,hE=>⟨rfl,hE,0,aQ _,⟨fun h1 h2 _=>⟨h1,h2,by show E.IC+E.IA=_;omega,bF _⟩,rfl⟩,by
   show s.count=IntKind.u64.wrap (s.count+0);have:=h.wf.count;rw[aW];omega⟩
 |k+1,s,p,U,d,E,h,hE=>by
  have hw:∀x:Int,0≤x→x≤1000000000→IntKind.i64.wrap (x+1)=x+1:=fun x h1 h2=>by rw[bI];omega
  unfold jd eZ;cases hf:ft n U.m p with
  |none=>exact⟨rfl,hE.same rfl rfl rfl,1,by omega,⟨fun h1 h2 h3=>⟨h1,by show 0≤IntKind.i64.wrap (E.IA+1);rw[hw _ h2 (by omega)];omega,by show E.IC+IntKind.i64.wrap (E.IA+1)=_;rw[hw _ h2 (by omega)];omega,bF _⟩,rfl⟩,rfl⟩
  |some o=>
   obtain⟨⟨op,nn⟩,z⟩:=o;obtain⟨f1, -⟩:=lb h.u.m hf;have hg:=sc (op:=op) (nn:=nn) h.wf h.right f1 h.u h.dv;have hl:=qG (n:=n) (op:=op) (nn:=nn) (s:=s) (U:=U) h.lines;obtain⟨⟨q,U1,d1⟩,hq⟩:=Zgn (vd n s op nn U d);rw[hq]at hg hl;obtain⟨g1,g2,g3,g4,g5,g6⟩:=hg;dsimp only at g1 g2 g3 g4 g5 g6 hl⊢;rw[hq];dsimp only;have hE1:gJ {E with IA:=IntKind.i64.wrap (E.IA+1)}:=hE.same rfl rfl rfl;have hE2:=hE1.turn q.Ig;obtain⟨u1,u2,u3⟩:=B7 {E with IA:=IntKind.i64.wrap (E.IA+1)} q.Ig;obtain⟨E2,hE2e⟩:=Zgn (lD {E with IA:=IntKind.i64.wrap (E.IA+1)} q.Ig);rw[hE2e]at hE2 u1 u2 u3⊢;dsimp only at u1 u2 u3;have hu:zS E E2 1:=⟨fun h1 h2 h3=>by
    rw[u1,u2,hw _ h2 (by omega)];exact⟨h1,by omega,by omega,bF _⟩,u3⟩
   cases kC op q Iy s.pc with
   |false=>exact⟨rfl,hE2,1,by omega,hu,g3⟩
   |true=>
    rw[ac,ac];obtain⟨r1,r2,c,r3,r4,r5⟩:=uz k ((p+z)%4294967296) (s:=q.s) (U:=U1) (d:=d1) (E:=E2) ⟨g1,g2,g4,g5,hl⟩ hE2;refine⟨r1,r2,c+1,by omega,⟨fun h1 h2 h3=>?_,r4.room.trans u3⟩,?_⟩
    ·obtain⟨a1,a2,a3,a4⟩:=hu.IC h1 h2 (by omega);obtain⟨b1,b2,b3,b4⟩:=r4.IC a1 a2 (by omega);exact⟨b1,b2,by omega,by omega⟩
    rw[r5,g3,mv,show(1:Int)+(c:Int)=((c+1:Nat):Int) by omega]
theorem kt.shift{B:List Int}{o:Nat}:∀{l:List (Int×Int)} {j e:Nat},kt (B.drop o) j l e→kt B (o+j) l (o+e)
 |[],j,e,h=>by cases h;exact .nil _
 |i::l,j,e,h=>by
  cases h with
  | @cons _ z _ _ _ h t=>
   rw[List.drop_drop]at h;exact .cons h (by have:=kt.shift t;rwa[show o+j+z=o+(j+z) by omega])
theorem yX{C:List HI}{s:St}(h:((ij C s).2==1)=true):∃M,jo C 4096 ⟨List.replicate 16 0,IU s,0⟩=((1,1),M)∧(ij C s).1=mU M.words s:=by
 unfold ij yZ at h⊢;obtain⟨⟨⟨a,b⟩,M⟩,hq⟩:=Zgn (jo C 4096 ⟨List.replicate 16 0,IU s,0⟩);rw[hq]at h⊢;dsimp only at h⊢;cases h1:a !=1 with
 |true=>rw[h1]at h;cases h
 |false=>
  rw[h1,aa]at h;rw[aa];cases h2:lF M.words with
  |false=>rw[h2]at h;cases h
  |true=>
   rw[h2,ac]at h;rw[ac];simp only[bne_eq_false_iff_eq,beq_iff_eq]at h1 h;subst h1 h;exact⟨M,rfl,rfl⟩
theorem ry{n:Nat}{M:Mem}(h:M.ok n)(p:Nat):u8s (ip M p):=fun x hx=>h.db x (List.mem_of_mem_drop (List.mem_of_mem_take (List.mem_of_mem_drop hx)))
theorem El{n:Nat}{s:St}{U:Mmu}{d:Dev}{E:Eng}(hn:n≤1000000)(h:GOk n s U d)(hE:gJ E):(doE n s U d E).1=dT n s U d∧gJ (doE n s U d E).2∧
  ∃c:Nat,c≤8∧zS E (doE n s U d E).2 c∧(dT n s U d).1.count=IntKind.u64.wrap (s.count+(c:Int)):=by
 have hb:=mQ h;have hbp:=sB h;unfold doE dT;obtain⟨b,hbe⟩:=Zgn (JE n s U d);rw[hbe]at hb hbp⊢;dsimp only;have hsc:=h.wf.count;cases hr:b.runs with
 |false=>
  simp only[aa];refine⟨trivial,hE.same rfl rfl rfl,?_⟩;cases hh:s.halted with
  |true=>
   have e:=hb.held hh;have es:b.s=s:=by rw[e]
   refine⟨0,by omega,⟨fun h1 h2 h3=>?_,rfl⟩,?_⟩
   ·dsimp only;rw[es,show IntKind.i64.wrap (E.IA+IntKind.i64.wrap (IntKind.u64.wrap (s.count - s.count)))=E.IA by rw[show s.count - s.count=0 by omega];simp only[bI,aW];omega];exact⟨h1,h2,by omega,bF _⟩
   rw[es,aW];omega
  |false=>
   obtain⟨c1,c2⟩:=hb.stays hr hh;refine⟨1,by omega,⟨fun h1 h2 h3=>?_,rfl⟩,c1⟩;dsimp only;rw[c1,show IntKind.i64.wrap (E.IA+IntKind.i64.wrap (IntKind.u64.wrap (IntKind.u64.wrap (s.count+1) - s.count)))=E.IA+1 by simp only[bI,aW];omega];exact⟨h1,by omega,by omega,bF _⟩
 |true=>
  simp only[ac];obtain⟨c1,c2,c3⟩:=hb.runs hr;obtain⟨q1,q2⟩:=hbp hr;have hg:=hb.g;have hp0:=hb.place;have hpc:=hg.wf.pc;have oe:((b.place.toNat:Nat):Int)=b.place:=Int.toNat_of_nonneg hp0.1;have hbb:=ry hg.u.m b.place.toNat;obtain⟨f1,f2,f3,f4,f5⟩:=ov hE (k:=(b.s.pc,b.place)) hbb;unfold ja;obtain⟨⟨o,E1⟩,hf⟩:=Zgn (kr E (b.s.pc,b.place) (ip b.u.m b.place.toNat));rw[hf]at f1 f2 f3 f4 f5⊢;dsimp only at f1 f2 f3 f4 f5;have slowly:(jd n (b.place.toNat/64) 8 b.s b.place.toNat b.u b.d E1).1=eZ n (b.place.toNat/64) 8 b.s b.place.toNat b.u b.d∧gJ (jd n (b.place.toNat/64) 8 b.s b.place.toNat b.u b.d E1).2∧
    ∃c:Nat,c≤8∧zS E (jd n (b.place.toNat/64) 8 b.s b.place.toNat b.u b.d E1).2 c∧(eZ n (b.place.toNat/64) 8 b.s b.place.toNat b.u b.d).1.count=IntKind.u64.wrap (s.count+(c:Int)):=by
   obtain⟨r1,r2,c,r3,r4,r5⟩:=uz (Iy:=b.place.toNat/64) 8 b.place.toNat hg f1;refine⟨r1,r2,c,r3,⟨fun h1 h2 h3=>?_,r4.room.trans f2⟩,by rw[r5,c1]⟩;obtain⟨a1,a2,a3,a4⟩:=r4.IC (by omega) (by omega) (by omega);exact⟨a1,a2,by omega,by omega⟩
  cases o with
  |none=>exact slowly
  |some tr=>
   obtain⟨t,r⟩:=tr;dsimp only;cases hdone:(ij t.code b.s).2==1 with
   |false=>exact slowly
   |true=>
    simp only[ac];obtain⟨p,il,g1,g2,g3,g4,g5,g6,g7⟩:=f5 t r rfl;obtain⟨M,hM,hout⟩:=yX hdone;rw[g3]at hM;obtain⟨k1,k2,k3,k4,k5,k6, -, -, -⟩:=yK hg.u hg.dv hg.wf hg.right g6 g1 g2 hM;rw[hout];obtain⟨s2,hs2⟩:=Zgn (mU M.words b.s);rw[hs2]at k1 k2 k3 k4⊢;obtain⟨Iy,hpage⟩:=Zgn (b.place.toNat/64);obtain⟨ofs,hofs⟩:=Zgn (b.place.toNat%64);have hpo:b.place.toNat=Iy*64+ofs:=by omega
    have hst:kt ((b.u.m.data.drop (Iy*64)).take 64) ofs il (ofs+r.bytes.length):=by
     have:=g5;unfold ip at this;rw[hpage,hofs]at this;simpa using this.shift
    have hil:il≠[]:=fun e=>by rw[e]at k5;simp at k5
    have hse:=(hst.ends hil).1;rw[az]at hse;obtain⟨c4,c5,c6⟩:=tA hn (Iy:=Iy) (by omega) il ofs 8 (e:=ofs+r.bytes.length) (U:=b.u) b.d hil k1 k6 hst hpc.1 (by have:=hpc.2;omega) (by omega) (c2.trans c3);rw[hpage,hpo,c6,g7,g4];have hc0:decide ((0:Int)<(il.length:Int))=true:=aG (by omega)
    rw[hc0,Bool.and_true];have hE2:gJ {E1 with last:=(b.s.pc,b.place),begun:=true,IC:=IntKind.i64.wrap (E1.IC+(il.length:Int))}:=f1.same rfl rfl rfl;obtain⟨E2,he2⟩:=Zgn (({E1 with last:=(b.s.pc,b.place),begun:=true,IC:=IntKind.i64.wrap (E1.IC+(il.length:Int))}:Eng));have hu2:zS E E2 il.length:=⟨fun h1 h2 h3=>by
     rw[←he2];dsimp only;rw[f3,f4,show IntKind.i64.wrap (E.IC+(il.length:Int))=E.IC+il.length by rw[bI];omega];exact⟨by omega,h2,by omega,by omega⟩,by rw[←he2];exact f2⟩
    have hcnt:s2.count=IntKind.u64.wrap (s.count+(il.length:Int)):=by
     have:=congrArg St.count k4;dsimp only at this;rw[this,c1]
    rw[he2]at hE2⊢;have hhg:GOk n s2 ⟨b.u.m.calm,b.u.t⟩ b.d:=⟨k2,k3,⟨hg.u.m.calm,hg.u.t⟩,hg.dv,hg.lines⟩;cases hend:gq (il.getLastD (0,0)).1||s2.pc/64 !=b.s.pc/64 with
    |true=>
     simp only[ac];exact⟨trivial,hE2,il.length,k6,hu2,hcnt⟩
    |false=>
     simp only[aa];obtain⟨e1,e2⟩:=bl.1 hend;have e3:=c5 e1;simp only[bne_eq_false_iff_eq]at e2;have hlt:ofs+r.bytes.length<64:=by
      rw[e3,aE]at e2;have h0:=hpc.1;have h1:=hpc.2;omega
     have ea:(Iy*64+ofs+r.bytes.length)%4294967296=Iy*64+(ofs+r.bytes.length):=by omega
     have eb:(Iy*64+(ofs+r.bytes.length))/64=Iy:=by omega
     have ec:((8:Int) - (il.length:Int)).toNat=8 - il.length:=by omega
     rw[ea,eb,ec];obtain⟨r1,r2,c,r3,r4,r5⟩:=uz (Iy:=Iy) (8 - il.length) (Iy*64+(ofs+r.bytes.length)) hhg hE2;refine⟨r1,r2,il.length+c,by omega,⟨fun h1 h2 h3=>?_,r4.room.trans hu2.room⟩,?_⟩
     ·obtain⟨a1,a2,a3,a4⟩:=hu2.IC h1 h2 (by omega);obtain⟨b1,b2,b3,b4⟩:=r4.IC a1 a2 (by omega);exact⟨b1,b2,by omega,by omega⟩
     rw[r5,hcnt,mv,show(il.length:Int)+(c:Int)=((il.length+c:Nat):Int) by omega]
def kA(n:Nat)(m from_:Int):Nat→(St×Mmu×Dev)×Eng→(St×Mmu×Dev)×Eng
 |0,q=>q
 |k+1,q=>bif gy m from_ q.1.1 then kA n m from_ k (doE n q.1.1 q.1.2.1 q.1.2.2 q.2)else q
def xh(n:Nat)(m:Int)(s:St)(U:Mmu)(d:Dev)(E:Eng):(St×Mmu×Dev)×Eng:=kA n m s.count m.toNat ((s,U,d),E)
theorem rc{n k:Nat}{m from_:Int}{q:(St×Mmu×Dev)×Eng}(h:gy m from_ q.1.1=false):kA n m from_ k q=q:=by
 cases k with
 |zero=>rfl
 |succ k=>
  unfold kA;rw[h]
  rfl
theorem vP{n k:Nat}{m from_:Int}{q:(St×Mmu×Dev)×Eng}(h:gy m from_ q.1.1=true):kA n m from_ (k+1) q=kA n m from_ k (doE n q.1.1 q.1.2.1 q.1.2.2 q.2):=by
 rw[kA,h]
 rfl
theorem sA{n:Nat}{s:St}{U:Mmu}{d:Dev}(h:GOk n s U d):GOk n (dT n s U d).1 (dT n s U d).2.1 (dT n s U d).2.2:=by
 rcases mP h with h1|⟨-, -,h3, -⟩
 ·exact h1.g
 exact h3
theorem zS.trans{E E1 E2:Eng}{c1 c2:Nat}(h1:zS E E1 c1)(h2:zS E1 E2 c2):zS E E2 (c1+c2):=⟨fun a b c=>by
 obtain⟨x1,x2,x3,x4⟩:=h1.IC a b (by omega);obtain⟨y1,y2,y3,y4⟩:=h2.IC x1 x2 (by omega);exact⟨y1,y2,by omega,by omega⟩,h2.room.trans h1.room⟩
theorem zS.zero(E:Eng):zS E E 0:=⟨fun a b _=>⟨a,b,by omega,bF _⟩,rfl⟩
theorem vO{n:Nat}(hn:n≤1000000){m f:Int}:∀(k:Nat) {q:St×Mmu×Dev} {E:Eng},GOk n q.1 q.2.1 q.2.2→gJ E→
  (kA n m f k (q,E)).1=nQ n m f k q∧gJ (kA n m f k (q,E)).2∧GOk n (nQ n m f k q).1 (nQ n m f k q).2.1 (nQ n m f k q).2.2∧
  ∃c:Nat,c≤8*k∧zS E (kA n m f k (q,E)).2 c∧(nQ n m f k q).1.count=IntKind.u64.wrap (q.1.count+(c:Int))
 |0,q,E,h,hE=>⟨rfl,hE,h,0,aQ _,.zero E,by have:=h.wf.count;show q.1.count=IntKind.u64.wrap (q.1.count+0);rw[aW];omega⟩
 |k+1,q,E,h,hE=>by
  cases hc:gy m f q.1 with
  |false=>
   rw[rc (q:=(q,E)) hc,oV hc];exact⟨rfl,hE,h,0,aw _,.zero E,by have:=h.wf.count;show q.1.count=IntKind.u64.wrap (q.1.count+0);rw[aW];omega⟩
  |true=>
   rw[vP (q:=(q,E)) hc,uu hc];obtain⟨d1,d2,c,d3,d4,d5⟩:=El hn h hE;have hg:=sA h;dsimp only;obtain⟨⟨q1,E1⟩,hz⟩:=Zgn (doE n q.1 q.2.1 q.2.2 E);rw[hz]at d1 d2 d4⊢;dsimp only at d1 d2 d4;rw[←d1]at d5 hg⊢;obtain⟨r1,r2,r3,c',r4,r5,r6⟩:=vO hn (m:=m) (f:=f) k hg d2;refine⟨r1,r2,r3,c+c',by omega,d4.trans r5,?_⟩;rw[r6,d5,mv,show(c:Int)+(c':Int)=((c+c':Nat):Int) by omega]
theorem xE{n:Nat}(hn:n≤1000000)(m:Int){s:St}{U:Mmu}{d:Dev}{E:Eng}(h:GOk n s U d)(hE:gJ E):
  (xh n m s U d E).1=qd n m s U d∧gJ (xh n m s U d E).2∧GOk n (qd n m s U d).1 (qd n m s U d).2.1 (qd n m s U d).2.2∧
  ∃c:Nat,c≤8*m.toNat∧zS E (xh n m s U d E).2 c∧(qd n m s U d).1.count=IntKind.u64.wrap (s.count+(c:Int)):=vO hn m.toNat (q:=(s,U,d)) h hE
abbrev qe(a:Int):List (Int×Int):=[(1,a),(1,1),(17,0),(34,251),(4,0),(32,246)]
theorem wu:kK (qe 3)=[1,3,1,1,17,34,251,4,32,246]:=by decide
def Hy(q:(St×Mmu×Dev)×Eng):Bool:=decide (40≤q.1.1.count)&&decide (0<q.2.IC)&&decide (1≤q.2.l.length)
theorem A0:Hy (xh 2 40 St.new ⟨Mem.init 2 [1,3,1,1,17,34,251,4,32,246],eE⟩ (Dev.init []) (Eng.fresh 8))=true:=by decide+kernel
end Go.Ink
