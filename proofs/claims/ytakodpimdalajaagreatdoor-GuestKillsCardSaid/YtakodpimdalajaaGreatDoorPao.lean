/- Lemmas. -/
import Derived.Test.YtakodpimdalajaaGreatDoorPaa
import Derived.Test.YtakodpimdalajaaGreatDoorPab
import Derived.Test.YtakodpimdalajaaGreatDoorPag
import Derived.Test.YtakodpimdalajaaGreatDoorPah
import Derived.Test.YtakodpimdalajaaGreatDoorPak
import Derived.Test.YtakodpimdalajaaGreatDoorPam
import Derived.Test.YtakodpimdalajaaGreatDoorPan
set_option linter.unusedSimpArgs false
set_option linter.unusedVariables false
set_option maxRecDepth 100000
set_option maxHeartbeats 4000000
set_option maxHeartbeats 1000000
namespace Go.Ink
open Go.RowKit
def xY(op:Int):Int:=
 bif op==2 then 5 else bif(((op==1)||(decide (32≤op)&&decide (op≤38)))||(op==66))||(op==67)then 2 else
 bif(((((decide (0≤op)&&decide (op≤8))||(decide (16≤op)&&decide (op≤25)))||(op==39))||(op==40))||(decide (48≤op)&&decide (op≤53)))||(decide (64≤op)&&decide (op≤69))then 1 else 0
theorem Gr:∀k:Fin 70,xY (k.val:Int)=cy (k.val:Int):=by decide+kernel
theorem GR(op:Int):(∃k:Fin 70,op=(k.val:Int))∨(∀k:Int,0≤k→k≤69→(op==k)=false)∧(op<0∨69<op):=by
 by_cases h:0≤op∧op≤69
 ·exact .inl ⟨⟨op.toNat,by omega⟩,by show op=((op.toNat:Nat):Int);omega⟩
 exact .inr ⟨fun k h1 h2=>by simp only[beq_eq_false_iff_ne,ne_eq];omega,by omega⟩
theorem Gq(op:Int):xY op=cy op:=by
 rcases GR op with⟨k,rfl⟩|⟨e,h⟩
 ·exact Gr k
 have r:∀a b:Int,0≤a→b≤69→(decide (a≤op)&&decide (op≤b))=false:=fun a b ha hb=>by
  rw[Bool.and_eq_false_iff,ah,ah];omega
 unfold xY cy eU uX;rw[r 32 38 Wq5 Wq5,r 0 8 Wq5 Wq5,r 16 25 Wq5 Wq5,r 48 53 Wq5 Wq5,r 64 69 Wq5 Wq5];simp[e]
end Go.Ink
namespace Go.Proofs.YtakodpimdalajaaGreatDoor
open Go.RowKit Go.Ink Go.Proofs.Tryz
attribute [local irreducible] OpY bP
theorem Bz(op:Int)(w:World):Ctr prog 79 [.int .i64 op] w [] (fun v cs=>v= .int .i64 (cy op)∧cs=[]):=by
 rw[←Gq];refine bL func79 rfl ntmps79 rfl (Inv.start w) ?_;refine gL ?_;refine ZW ?_ ?_<;>intro hc1
 ·refine fG ?_;refine⟨?_,rfl⟩;simp only[xY, *,ac,aa]
 refine lw ?_;refine Z_3 ?_;refine ZW ?_ ?_<;>intro hc3
 ·refine fG ?_;refine⟨?_,rfl⟩;simp only[xY, *,ac,aa]
 refine lw ?_;refine lw ?_;refine Z_3 ?_;refine ZW ?_ ?_<;>intro hc5
 ·refine fG ?_;refine⟨?_,rfl⟩;simp only[xY, *,ac,aa]
 refine Z_9 ?_;refine Zra ?_;refine⟨?_,rfl⟩;simp only[xY, *,ac,aa]
end Go.Proofs.YtakodpimdalajaaGreatDoor
namespace Go.Ink
open Go.RowKit
def encB(nn:Int)(j:Nat):Int:=IntKind.u8.wrap (nn.fdiv (2^(min (Int.toNat ((8*j:Nat):Int)) IntKind.u32.bits)))
def vo(op nn:Int)(k:Nat):List Int:=IntKind.u8.wrap op::(List.range (k - 1)).map (encB nn)
def oL(op nn:Int):List Int:=vo op nn (max 1 (cy op).toNat)
theorem xf(op nn:Int){k:Nat}(h:1≤k):(vo op nn k).length=k:=by simp[vo];omega
theorem Ca(op nn:Int){k:Nat}(h:1≤k):vo op nn (k+1)=vo op nn k++[encB nn (k - 1)]:=by
 obtain⟨j,rfl⟩:∃j,k=j+1:=⟨k - 1,by omega⟩;simp[vo,List.range_succ]
theorem vJ(x:Int):0≤IntKind.u8.wrap x∧IntKind.u8.wrap x≤255:=by
 have e:IntKind.u8.wrap x=x%256:=by simp[IntKind.wrap,IntKind.bits,IntKind.signed]
 rw[e];omega
theorem Ia(op nn:Int):u8s (oL op nn):=by
 intro x hx;unfold oL vo at hx;rcases aK.1 hx with rfl|hx
 ·exact vJ _
 obtain⟨j, -,rfl⟩:=bh.1 hx;exact vJ _
theorem xg(op nn:Int):1≤(oL op nn).length∧(oL op nn).length≤5:=by
 unfold oL;rw[xf _ _ Wq1];have:cy op=0∨cy op=1∨cy op=2∨cy op=5:=jc op;omega
def iL(i:Int×Int):List Value:=[.int .i64 i.1,.int .u32 i.2]
theorem wO(i:Int×Int):(iL i).length=2:=rfl
def kK(l:List (Int×Int))(k:Nat):List Int:=(l.take k).flatMap fun i=>oL i.1 i.2
def xq(l:List (Int×Int)):List Int:=kK l l.length
theorem sk{l:List (Int×Int)}{k:Nat}{i:Int×Int}(h:l[k]? =some i):kK l (k+1)=kK l k++oL i.1 i.2:=by
 unfold kK;rw[List.take_add_one,h];simp
theorem mU(l:List (Int×Int)):∀k,(kK l k).length≤5*k
 |0=>by simp[kK]
 |k+1=>by
  cases h:l[k]? with
  |none=>
   unfold kK;rw[List.take_add_one,h];have:=mU l k;unfold kK at this;simp only[Option.toList_none,ax];omega
  |some i=>
   rw[sk h,ae];have:=mU l k;have:=(xg i.1 i.2).2;omega
theorem xp(l:List (Int×Int))(k:Nat):u8s (kK l k):=by
 intro x hx;unfold kK at hx;obtain⟨i, -,h⟩:=List.mem_flatMap.1 hx;exact Ia _ _ x h
end Go.Ink
namespace Go.Proofs.YtakodpimdalajaaGreatDoor
open Go.RowKit Go.Ink Go.Proofs.Tryz
attribute [local irreducible] OpY bP
theorem enc_ok(op nn:Int)(w:World):Ctr prog 36 [.agg #[.int .i64 op,.int .u32 nn]] w [] (fun v cs=>∃A c,v= .slice A (oL op nn).length c∧cs=[sl .u8 5 A (oL op nn).length c (oL op nn)]):=by
 have hz5:cy op=0∨cy op=1∨cy op=2∨cy op=5:=jc op;have HS:=Bz op;obtain⟨z,hz⟩:∃z:Nat,cy op=z:=aq Wq1;have he:oL op nn=vo op nn (max 1 z):=by unfold oL;rw[hz];rfl
 rw[he,xf _ _ Wq1];rw[hz]at hz5 HS;refine bL func36 rfl ntmps36 rfl (Inv.start w) ?_;refine Z_2 ?_;refine ZO fun b1=>?_;refine Z_7 ?_;refine Zy (bW rfl rfl (Zv rfl) (by first|exact IntWalk.u8_in _ ⟨by omega,by omega⟩|exact rfl)) ?_;refine ku ?_;rintro _ _ ⟨b8,rfl,rfl⟩;refine dS ?_;refine cw (fun q:Nat×Option Addr×Nat=>[(1,.pointer (some ⟨b1,0,none⟩)),(3,.slice q.2.1 q.1 q.2.2),(4,.int .i64 (q.1:Int))]) (fun q=>[row b1 [.int .i64 op,.int .u32 nn] 24,sl .u8 5 q.2.1 q.1 q.2.2 (vo op nn q.1)]) (fun q=>1≤q.1∧q.1≤max 1 z) (fun q=>10 - q.1) ((⟨1,some ⟨b8,0,none⟩,1⟩:Nat×Option Addr×Nat)) ?_ ?_ ?_ ?_
 ·exact⟨aN _,by omega⟩
 ·exact Zwk
 ·exact Zu
 rintro⟨k,A,c⟩ ⟨hk1,hkz⟩;dsimp only at hk1 hkz⊢;refine Z_6 ?_;refine ZSe (fun w hi=>HS w) ?_;refine Z_3 ?_;refine ZW ?_ ?_<;>intro hc3
 ·simp only[ak]at hc3;refine Z_9 ?_;refine Zy (dY (Zv rfl) (Zv rfl) (show _=((k - 1:Nat):Int)from by rw[IntWalk.i64_in _ ⟨by omega,by omega⟩];omega)) ?_;refine Zy (bW rfl rfl (Zv rfl) (u64_wrap_id _ Wq1 Wq1)) ?_;refine Zy (i4 (Zv rfl) (Zv rfl) (show _=((8*(k - 1):Nat):Int)from by rw[u64_wrap_id _ Wq1 Wq1];omega)) ?_;refine Zy (j0 (Zv rfl) (Zv rfl) Wq1 rfl) ?_;refine Zy (bW rfl rfl (Zv rfl) (show _=encB nn (k - 1)from rfl)) ?_;refine ku ?_;rintro _ _ ⟨b25,rfl,rfl⟩;refine fb (cC (e:=5) (sz:=1) (bytes:=1) rfl rfl Za rfl rfl (fun w hi=>hi.rd (show Has _ (slv 5 1 (some ⟨b25,0,none⟩) 1 1 (ints .u8 [encB nn (k - 1)]))from Zh)) cO g9 Wq1) rfl ?_;rintro _ _ ⟨A2,c2,rfl,rfl⟩;rw[cj,←Ca op nn hk1];refine Z_6 ?_;refine Wq8 ?_;refine bY ((⟨k+1,A2,c2⟩:Nat×Option Addr×Nat)) ?_ ?_ ?_
  ·exact⟨⟨show 1≤k+1 by omega,show k+1≤max 1 z by omega⟩,show 10 - (k+1)<10 - k by omega⟩
  ·exact Zwk
  exact Zj
 simp only[ah]at hc3;obtain rfl:k=max 1 z:=Wq1;refine gE ?_;refine Zrb ([slv _ _ _ _ _ _]) ?_;exact⟨A,c,rfl,rfl⟩
theorem Fo(A:Option Addr)(c:Nat)(l:List (Int×Int))(hl:l.length≤1000)(w:World)(h:RdV w 2 A l.length c (l.flatMap iL)):Ctr prog 9 [.slice A l.length c] w [] (fun v cs=>∃A' c',v= .slice A' (xq l).length c'∧cs=[sl .u8 5 A' (xq l).length c' (xq l)]):=by
 refine bL func9 rfl ntmps9 rfl (Inv.start w) ?_;refine jA ?_;refine dy 5 1 ?_;refine Z_4 ?_;refine cw (fun q:Nat×Option Addr×Nat=>[(0,.slice A l.length c),(3,.slice q.2.1 (kK l q.1).length q.2.2),(4,.int .i64 (q.1:Int))]) (fun q=>[sl .u8 5 q.2.1 (kK l q.1).length q.2.2 (kK l q.1)]) (fun q=>q.1≤l.length) (fun q=>l.length - q.1) ((⟨0,none,0⟩:Nat×Option Addr×Nat)) ?_ ?_ ?_ ?_
 ·exact au _
 ·exact Zwk
 ·exact Zu
 rintro⟨k,A1,c1⟩ hk;dsimp only at hk⊢;have hcl:=mU l k;refine Z_9 ?_;refine ZW ?_ ?_<;>intro hc3
 ·simp only[ak]at hc3;have hkl:k<l.length:=Wq1;obtain⟨ad,rfl⟩:=h.some_ Wq1;have hla:l[k]? =some (l[k]'hkl):=ai hkl;obtain⟨⟨op,nn⟩,ha⟩:=Zgn (l[k]'hkl);rw[ha]at hla;have hel:=xg op nn;refine Z_8 ?_;refine Zy (cU (j:=k) rfl Zrf (Zv rfl) (Zv rfl) Wq4 Wq4) ?_;refine dL (cn (vs:=[.int .i64 op,.int .u32 nn]) Zrf Zrf Zv0) (fv h (fun j v hj=>fB wO (i:=j) hla hj)) rfl ?_;refine ZS (fun w hi=>enc_ok op nn w) ?_;rintro _ _ ⟨_,⟨A2,c2,rfl,rfl⟩,rfl⟩;refine fb (cC (e:=5) (sz:=1) (bytes:=1) rfl rfl Za rfl rfl (fun w hi=>hi.rd (show Has _ (sl .u8 5 A2 (oL op nn).length c2 (oL op nn))from Zh)) cO g9 Wq1) rfl ?_;rintro _ _ ⟨A3,c3,rfl,rfl⟩;rw[cj,←ae,←sk hla];refine Z_6 ?_;refine Wq8 ?_;refine bY ((⟨k+1,A3,c3⟩:Nat×Option Addr×Nat)) ?_ ?_ ?_
  ·exact⟨show k+1≤l.length by omega,show l.length - (k+1)<l.length - k by omega⟩
  ·exact Zwk
  exact Zj
 simp only[ah]at hc3;obtain rfl:k=l.length:=Wq1;refine gE ?_;refine Zrb ([slv _ _ _ _ _ _]) ?_;exact⟨A1,c1,rfl,rfl⟩
end Go.Proofs.YtakodpimdalajaaGreatDoor
namespace Go.Ink
open Go.RowKit
theorem kv.shift{B:List Int}{o:Nat}:∀{l:List (Int×Int)} {j e:Nat},kv (B.drop o) j l e→kv B (o+j) l (o+e)
 |[],j,e,h=>by cases h;exact .nil _
 |i::l,j,e,h=>by
  cases h with
  | @cons _ z _ _ _ h t=>
   rw[List.drop_drop]at h;exact .cons h (by have:=kv.shift t;rwa[show o+j+z=o+(j+z) by omega])
theorem zo{C:List HI}{s:St}(h:((ic C s).2==1)=true):∃M,jo C 4096 ⟨List.replicate 16 0,JV s,0⟩=((1,1),M)∧(ic C s).1=mY M.words s:=by
 unfold ic zq at h⊢;obtain⟨⟨⟨a,b⟩,M⟩,hq⟩:=Zgn (jo C 4096 ⟨List.replicate 16 0,JV s,0⟩);rw[hq]at h⊢;dsimp only at h⊢;cases h1:a !=1 with
 |true=>rw[h1]at h;cases h
 |false=>
  rw[h1,aa]at h;rw[aa];cases h2:lH M.words with
  |false=>rw[h2]at h;cases h
  |true=>
   rw[h2,ac]at h;rw[ac];simp only[bne_eq_false_iff_eq,beq_iff_eq]at h1 h;subst h1 h;exact⟨M,rfl,rfl⟩
theorem rp{n:Nat}{M:Mem}(h:M.ok n)(p:Nat):u8s (iq M p):=fun x hx=>h.db x (List.mem_of_mem_drop (List.mem_of_mem_take (List.mem_of_mem_drop hx)))
theorem Jb{n:Nat}{s:St}{U:Mmu}{d:Dev}{E:Eng}(hn:n≤1000000)(h:GOk n s U d)(hE:ij E):(doE n s U d E).1=dQ n s U d∧ij (doE n s U d E).2∧
  ∃c:Nat,c≤8∧AJ E (doE n s U d E).2 c∧(dQ n s U d).1.count=IntKind.u64.wrap (s.count+(c:Int)):=by
 have hb:=mW h;have hbp:=sw h;unfold doE dQ;obtain⟨b,hbe⟩:=Zgn (dW n s U d);rw[hbe]at hb hbp⊢;dsimp only;have hsc:=h.wf.count;cases hr:b.runs with
 |false=>
  simp only[aa];refine⟨trivial,hE.same rfl rfl rfl,?_⟩;cases hh:s.halted with
  |true=>
   have e:=hb.held hh;have es:b.s=s:=by rw[e]
   refine⟨0,by omega,⟨fun h1 h2 h3=>?_,rfl⟩,?_⟩
   ·dsimp only;rw[es,show IntKind.i64.wrap (E.JL+IntKind.i64.wrap (IntKind.u64.wrap (s.count - s.count)))=E.JL by rw[show s.count - s.count=0 by omega];simp only[bI,aU];omega];exact⟨h1,h2,by omega,Int.le_refl _⟩
   rw[es,aU];omega
  |false=>
   obtain⟨c1,c2⟩:=hb.stays hr hh;refine⟨1,by omega,⟨fun h1 h2 h3=>?_,rfl⟩,c1⟩;dsimp only;rw[c1,show IntKind.i64.wrap (E.JL+IntKind.i64.wrap (IntKind.u64.wrap (IntKind.u64.wrap (s.count+1) - s.count)))=E.JL+1 by simp only[bI,aU];omega];exact⟨h1,by omega,by omega,Int.le_refl _⟩
 |true=>
  simp only[ac];obtain⟨c1,c2,c3⟩:=hb.runs hr;obtain⟨q1,q2⟩:=hbp hr;have hg:=hb.g;have hp0:=hb.place;have hpc:=hg.wf.pc;have oC:((b.place.toNat:Nat):Int)=b.place:=Int.toNat_of_nonneg hp0.1;have hbb:=rp hg.u.m b.place.toNat;obtain⟨f1,f2,f3,f4,f5⟩:=oK hE (k:=(b.s.pc,b.place)) hbb;unfold i9;obtain⟨⟨o,E1⟩,hf⟩:=Zgn (kt E (b.s.pc,b.place) (iq b.u.m b.place.toNat));rw[hf]at f1 f2 f3 f4 f5⊢;dsimp only at f1 f2 f3 f4 f5;have slowly:(ja n (b.place.toNat/64) 8 b.s b.place.toNat b.u b.d E1).1=eO n (b.place.toNat/64) 8 b.s b.place.toNat b.u b.d∧ij (ja n (b.place.toNat/64) 8 b.s b.place.toNat b.u b.d E1).2∧
    ∃c:Nat,c≤8∧AJ E (ja n (b.place.toNat/64) 8 b.s b.place.toNat b.u b.d E1).2 c∧(eO n (b.place.toNat/64) 8 b.s b.place.toNat b.u b.d).1.count=IntKind.u64.wrap (s.count+(c:Int)):=by
   obtain⟨r1,r2,c,r3,r4,r5⟩:=uN (JD:=b.place.toNat/64) 8 b.place.toNat hg f1;refine⟨r1,r2,c,r3,⟨fun h1 h2 h3=>?_,r4.room.trans f2⟩,by rw[r5,c1]⟩;obtain⟨a1,a2,a3,a4⟩:=r4.JP Wq1 Wq1 Wq1;exact⟨a1,a2,by omega,by omega⟩
  cases o with
  |none=>exact slowly
  |some tr=>
   obtain⟨t,r⟩:=tr;dsimp only;cases hdone:(ic t.code b.s).2==1 with
   |false=>exact slowly
   |true=>
    simp only[ac];obtain⟨p,il,g1,g2,g3,g4,g5,g6,g7⟩:=f5 t r rfl;obtain⟨M,hM,hout⟩:=zo hdone;rw[g3]at hM;obtain⟨k1,k2,k3,k4,k5,k6, -, -, -⟩:=zc hg.u hg.dv hg.wf hg.right g6 g1 g2 hM;rw[hout];obtain⟨s2,hs2⟩:=Zgn (mY M.words b.s);rw[hs2]at k1 k2 k3 k4⊢;obtain⟨JD,hpage⟩:=Zgn (b.place.toNat/64);obtain⟨ofs,hofs⟩:=Zgn (b.place.toNat%64);have hpo:b.place.toNat=JD*64+ofs:=by omega
    have hst:kv ((b.u.m.data.drop (JD*64)).take 64) ofs il (ofs+r.bytes.length):=by
     have:=g5;unfold iq at this;rw[hpage,hofs]at this;simpa using this.shift
    have hil:il≠[]:=fun e=>by rw[e]at k5;simp at k5
    have hse:=(hst.ends hil).1;rw[aC]at hse;obtain⟨c4,c5,c6⟩:=tC hn (JD:=JD) Wq1 il ofs 8 (e:=ofs+r.bytes.length) (U:=b.u) b.d hil k1 k6 hst hpc.1 (by have:=hpc.2;omega) Wq1 (c2.trans c3);rw[hpage,hpo,c6,g7,g4];have hc0:decide ((0:Int)<(il.length:Int))=true:=ay Wq1
    rw[hc0,Bool.and_true];have hE2:ij {E1 with last:=(b.s.pc,b.place),begun:=true,JP:=IntKind.i64.wrap (E1.JP+(il.length:Int))}:=f1.same rfl rfl rfl;obtain⟨E2,he2⟩:=Zgn (({E1 with last:=(b.s.pc,b.place),begun:=true,JP:=IntKind.i64.wrap (E1.JP+(il.length:Int))}:Eng));have hu2:AJ E E2 il.length:=⟨fun h1 h2 h3=>by
     rw[←he2];dsimp only;rw[f3,f4,show IntKind.i64.wrap (E.JP+(il.length:Int))=E.JP+il.length by rw[bI];omega];exact⟨by omega,h2,by omega,by omega⟩,by rw[←he2];exact f2⟩
    have hcnt:s2.count=IntKind.u64.wrap (s.count+(il.length:Int)):=by
     have:=congrArg St.count k4;dsimp only at this;rw[this,c1]
    rw[he2]at hE2⊢;have hhg:GOk n s2 ⟨b.u.m.calm,b.u.t⟩ b.d:=⟨k2,k3,⟨hg.u.m.calm,hg.u.t⟩,hg.dv,hg.lines⟩;cases hend:gl (il.getLastD (0,0)).1||s2.pc/64 !=b.s.pc/64 with
    |true=>
     simp only[ac];exact⟨trivial,hE2,il.length,k6,hu2,hcnt⟩
    |false=>
     simp only[aa];obtain⟨e1,e2⟩:=bj.1 hend;have e3:=c5 e1;simp only[bne_eq_false_iff_eq]at e2;have hlt:ofs+r.bytes.length<64:=by
      rw[e3,aE]at e2;have h0:=hpc.1;have h1:=hpc.2;omega
     have ea:(JD*64+ofs+r.bytes.length)%4294967296=JD*64+(ofs+r.bytes.length):=by omega
     have eb:(JD*64+(ofs+r.bytes.length))/64=JD:=by omega
     have ec:((8:Int) - (il.length:Int)).toNat=8 - il.length:=by omega
     rw[ea,eb,ec];obtain⟨r1,r2,c,r3,r4,r5⟩:=uN (JD:=JD) (8 - il.length) (JD*64+(ofs+r.bytes.length)) hhg hE2;refine⟨r1,r2,il.length+c,by omega,⟨fun h1 h2 h3=>?_,r4.room.trans hu2.room⟩,?_⟩
     ·obtain⟨a1,a2,a3,a4⟩:=hu2.JP h1 h2 Wq1;obtain⟨b1,b2,b3,b4⟩:=r4.JP a1 a2 Wq1;exact⟨b1,b2,by omega,by omega⟩
     rw[r5,hcnt,mC,show(il.length:Int)+(c:Int)=((il.length+c:Nat):Int) by omega]
section
variable {C:Cx} {Q:kM} {fr:Fr} {cs cs' cin rest:List bJ} {St:Dr} {ops:Array Oper} {fuel i:Nat} {listed:Array Bool}
theorem wa_inv(hc:∀w,Inv C.w0 C.S cs w→Inv C.w0 C.S cs' w)(h:WA C St ops Q fuel listed fr cs'):WA C St ops Q fuel listed fr cs:=fun a w hf hi=>h a w hf (hc w hi)
theorem wi_inv(hc:∀w,Inv C.w0 C.S cs w→Inv C.w0 C.S cs' w)(h:WI C St ops Q fuel listed i fr cs'):WI C St ops Q fuel listed i fr cs:=fun a w hf hi=>h a w hf (hc w hi)
theorem Inv.Kq{w0 w:World}{S:List Nat}(h:Inv w0 S (dg cin::rest) w):Inv w0 S (cin++rest) w:=by
 obtain⟨_,_,h1⟩:=h.Kj;exact h1
theorem Inv.KF{w0 w:World}{S:List Nat}(h:Inv w0 S cs w)(hs:ji cin cs rest):Inv w0 S (dg cin::rest) w:=
 Inv.J2 (F:=fun _:Unit=>cin) (hb:=fun _=>rfl) (p:=fun _=>True) () trivial (h.perm hs.perm)
theorem mI{w0:World}{S:List Nat}{bb t:Nat}{xs:List Value}(hc:Has cs (dg cin))(hr:row bb xs t∈cin):∀w,Inv w0 S cs w→cells (qY bb xs) w:=fun w hi=>by
 have h:=qx (hi.get hc) _ hr;have h1:Inv w [bb] [row bb xs t] w:=⟨dC.refl _ _,by simp[bK,row,bJ.bs],fun c hc=>by rw[aL]at hc;subst hc;exact h,fun b hb=>by left;simpa[bK,row,bJ.bs]using hb⟩;exact bQ (.head _ _) w h1
end
theorem u32_div{a:Int}(h:0≤a∧a≤4294967295):0≤a/64∧a/64≤67108863:=by omega
theorem vf(xs ys:List Int)(h:ys.length≤xs.length):(xs.take ys.length==ys)=ys.isPrefixOf xs:=by
 rw[Bool.eq_iff_iff,List.isPrefixOf_iff_prefix,beq_iff_eq];constructor
 ·intro e;exact⟨xs.drop ys.length,by conv=>rhs;rw[←List.take_append_drop ys.length xs,e]⟩
 rintro⟨z,rfl⟩;exact List.take_left
end Go.Ink
namespace Go.Proofs.YtakodpimdalajaaGreatDoor
open Go.RowKit Go.Ink Go.Proofs.Tryz
attribute [local irreducible] OpY bP
theorem wV(A B:Option Addr)(c d:Nat)(xs ys:List Int)(hx:u8s xs)(hy:u8s ys)(w:World)(h:Rd w .u8 A xs.length c xs)(h2:Rd w .u8 B ys.length d ys):
  Ctr prog 126 [.slice A xs.length c,.slice B ys.length d] w [] (fun v cs=>v= .bool (ys.isPrefixOf xs)∧cs=[]):=by
 have hcap:=h.cap;refine bL func126 rfl ntmps126 rfl (Inv.start w) ?_;by_cases hle:ys.length≤xs.length
 ·have hg:decide ((xs.length:Int)≥(ys.length:Int))=true:=ay Wq1
  have htl:(xs.take ys.length).length=ys.length:=by rw[aC];omega
  have HE:=Fy A B c d (xs.take ys.length) ys (fun x hx'=>hx x (List.mem_of_mem_take hx')) hy;rw[htl,vf xs ys hle]at HE;have hrt:=lR h ys.length;rw[htl]at hrt;refine p5 ?_;refine Zyy rfl rfl (gf ys.length rfl Zrf (dH rfl) (dH rfl) (fun _=>by first|rfl|omega) Wq4) ?_;refine ZB ?_;refine dE (bZ rfl rfl) (.cons (dH rfl) (.cons (dH rfl) .nil)) (fun _ _=>rfl) (fun hg w hi=>HE w (hrt.Jz hi) (h2.Jz hi)) rfl ?_;refine Z_5 ?_;refine Zra ?_;refine⟨?_,rfl⟩;rw[show decide ((ys.length:Int)≤(xs.length:Int))=true from ay Wq1,Bool.true_and]
 have hp:ys.isPrefixOf xs=false:=by
  cases hb:ys.isPrefixOf xs with
  |false=>rfl
  |true=>
   obtain⟨z,rfl⟩:=List.isPrefixOf_iff_prefix.1 hb;simp at hle
 have hg0:decide ((ys.length:Int)≤(xs.length:Int))=false:=az Wq1
 refine jA ?_;refine dZ (bZ rfl rfl) hg0 rfl ?_;refine dZ (bZ rfl rfl) hg0 rfl ?_;refine dZ (bZ rfl rfl) hg0 rfl ?_;refine dZ (bZ rfl rfl) hg0 rfl ?_;refine dZ (bZ rfl rfl) hg0 rfl ?_;refine dZ (bZ rfl rfl) hg0 rfl ?_;refine Zy (CC (q:=false) (Zv rfl) ⟨_,rfl,fun _ e=>by rw[hg0]at e;cases e⟩) ?_;refine Z_4 ?_;refine Zra ?_;refine⟨?_,rfl⟩;rw[hp,hg0,Bool.false_and]
theorem Fz(A:Option Addr)(n c:Nat)(xs:List Int)(w:World)(h:Rd w .u8 A n c xs)(hn:n≤140737488355328):Ctr prog 163 [.slice A n c] w [] (fun v cs=>∃A' c',v= .slice A' n c'∧cs=[sl .u8 5 A' n c' xs]):=by
 refine bL func163 rfl ntmps163 rfl (Inv.start w) ?_;refine gE ?_;refine ZW ?_ ?_<;>intro hc1
 ·obtain rfl:A=none:=by simpa using hc1
  obtain⟨rfl,rfl⟩:=h.nil rfl;obtain rfl:xs=[]:=by have:=h.len;simpa[ints]using this
  refine Z_2 ?_;refine dy 5 1 ?_;refine Z_5 ?_;refine Zrb ([slv _ _ _ _ _ _]) ?_;exact⟨_,_,rfl,rfl⟩
 refine Z_4 ?_;refine ku ?_;rintro _ _ ⟨b5,rfl,rfl⟩;refine ZA ?_;refine fb (cC (e:=5) (sz:=1) (bytes:=1) rfl rfl Za rfl rfl (fun w hi=>h.Jz hi) cO g9 Wq1) rfl ?_;rintro _ _ ⟨A',c',rfl,rfl⟩;simp only[bl,aP];refine Z_4 ?_;refine Zrb ([slv _ _ _ _ _ _]) ?_;exact⟨_,_,rfl,rfl⟩
abbrev xJ(bc ml b2 b3 b5:Nat)(r0 r1 r3:Value)(Ap:Option Addr)(cp:Nat)(Jl:List Int)(r:Int×List (Ky×LS)):List bJ:=
 [row b2 [.pointer (some ⟨bc,0,none⟩)] 93,row b3 [.slice Ap Jl.length cp] 66,sl .i64 3 Ap Jl.length cp Jl,row b5 [.int .i64 r.1] 3,caR bc r0 r1 (.map (some ml)) r3,mpc ml (lkV r.2),dg (lkC r.2)]
abbrev et(Jl:List Int)(x:BA):Bool:=Jl.contains (x.b.key.2/64)
theorem Ii(bc ml b2 b3 b5:Nat)(r0 r1 r3:Value)(Ap:Option Addr)(cp:Nat)(Jl:List Int)(r:Int×List (Ky×LS))(x:BA)(hx:kp x.b.key)(hsm:LkSm r.2)(w:World)(hi:Inv w (bK (xJ bc ml b2 b3 b5 r0 r1 r3 Ap cp Jl r)) (xJ bc ml b2 b3 b5 r0 r1 r3 Ap cp Jl r) w):
  Ctr prog 150 ([]++[.agg x.cells.toArray]++[.pointer (some ⟨b3,0,none⟩),.pointer (some ⟨b2,0,none⟩),.pointer (some ⟨b5,0,none⟩)]) w (xJ bc ml b2 b3 b5 r0 r1 r3 Ap cp Jl r) (fun v cs=>v= .bool (et Jl x)∧cs=xJ bc ml b2 b3 b5 r0 r1 r3 Ap cp Jl (mn (et Jl) r x)):=by
 obtain⟨k0,k1⟩:=hx.2;have hd:=u32_div hx.2;obtain⟨D,hD⟩:=Zgn (et Jl x);have hD2:Jl.contains (x.b.key.2/64)=D:=hD;have HC:=nv Ap cp Jl (x.b.key.2/64);rw[hD2]at HC;have ht:D=true→mn (et Jl) r x=(IntKind.i64.wrap (r.1+1),gq r.2 x.key):=fun e=>by unfold mn;rw[hD,e,ac]
 have hf:D=false→mn (et Jl) r x=r:=fun e=>by unfold mn;rw[hD,e,aa]
 rw[hD];refine bL func150 rfl ntmps150 rfl hi ?_;refine Z_2 ?_;refine ZO fun b4=>?_;refine Z_9 ?_;refine Zy (jD (Zv rfl) (Zv rfl) Wq1 (show _=x.b.key.2/64 from by rw[bz k0,aE];omega)) ?_;refine Zy (bW rfl rfl Zv0 Zl) ?_;refine ZSe (fun w hi=>HC w (hi.rd (show Has _ (sl .i64 3 Ap Jl.length cp Jl)from Zh))) ?_;refine Z_9 ?_;refine ZW ?_ ?_<;>intro hc2
 ·refine Z_4 ?_;refine dL (cn (vs:=cz x.b.key) Zrf Zrf Zv0) (cI Zh rfl) rfl ?_;refine ZcL ([caR bc r0 r1 (.map (some ml)) r3,mpc ml (lkV r.2),dg (lkC r.2)]) (fun w hi hin=>vO bc ml r0 r1 r3 r.2 hsm x.b.key hx w hin) ?_;rintro _ _ ⟨_,rfl,rfl⟩;refine Z_4 ?_;refine Zy (cX Zv0 Zv0 rfl) ?_;refine ZL ?_;refine Z_9 ?_;refine bN (xJ bc ml b2 b3 b5 r0 r1 r3 Ap cp Jl (IntKind.i64.wrap (r.1+1),gq r.2 x.key)) Zj ?_;refine xH (cs':=xJ bc ml b2 b3 b5 r0 r1 r3 Ap cp Jl (IntKind.i64.wrap (r.1+1),gq r.2 x.key)) (.inl rfl) (aQ _) rfl rfl ?_;rw[ht hc2];exact df
 refine Z_9 ?_;refine bN (xJ bc ml b2 b3 b5 r0 r1 r3 Ap cp Jl r) Zj ?_;refine xH (cs':=xJ bc ml b2 b3 b5 r0 r1 r3 Ap cp Jl r) (.inl rfl) (aQ _) rfl rfl ?_;rw[hf hc2];exact df
theorem Ix(bc:Nat)(room:Int)(X:CaX)(hX:oS room X)(Ap:Option Addr)(cp:Nat)(Jl:List Int)(w:World)(hi:Inv w (bK (caF bc room X++[sl .i64 3 Ap Jl.length cp Jl])) (caF bc room X++[sl .i64 3 Ap Jl.length cp Jl]) w):
  Ctr prog 107 [.pointer (some ⟨bc,0,none⟩),.slice Ap Jl.length cp] w (caF bc room X++[sl .i64 3 Ap Jl.length cp Jl]) (fun v cs=>v= .int .i64 ((X.Z.filter (et Jl)).length:Int)∧∃X':CaX,cs=caF bc room X'++[sl .i64 3 Ap Jl.length cp Jl]∧oS room X'∧X'.Z=X.Z.filter fun x=> !et Jl x):=by
 have hS:=hX.sm;have hlen:=hX.len;obtain⟨hr1,hr2⟩:=hX.rm;have hba:=hX.ba;have hlk:=hX.lk;obtain⟨ml,Ac,cc,fl,LK,Z⟩:=X;dsimp only at hS hlen hba hlk;have hZ:=hS.1;have HD:=fun b2 b3 b5 w hi=>delB_ok (fun r:Int×List (Ky×LS)=>dg (xJ bc ml b2 b3 b5 (.int .i64 room) (.slice Ac Z.length cc) (.int .i64 fl) Ap cp Jl r)) (fun r=>xE (Z.map BA.key) r.2) (mn (et Jl)) (et Jl) 150 [.pointer (some ⟨b3,0,none⟩),.pointer (some ⟨b2,0,none⟩),.pointer (some ⟨b5,0,none⟩)] (fun _ _=>rfl) Z hZ
  (fun r x w hok hx hin=>Ctr.mono (Ctr.join hin fun hin2=>Ii bc ml b2 b3 b5 (.int .i64 room) (.slice Ac Z.length cc) (.int .i64 fl) Ap cp Jl r x (hba x hx).2 (hok.sm (by simpa using hZ)) w hin2)
   (fun v cs ⟨cs0,⟨h1,h2⟩,h3⟩=>⟨h1,by rw[h3,h2],by
    show xE (Z.map BA.key) (mn (et Jl) r x).2;unfold mn;cases et Jl x with
    |true=>exact(hok.unlink x.key).1
    |false=>exact hok⟩)) Ac cc (0,LK) hlk w hi
 obtain⟨hf1,hf2, -,hf4⟩:=sb (et Jl) (Z.map BA.key) Z (0,LK) (Int.le_refl _) (by dsimp only;omega) hlk;obtain⟨⟨n9,LK9⟩,h9⟩:=Zgn (Z.foldl (mn (et Jl)) (0,LK));rw[h9]at HD hf1 hf2 hf4;dsimp only at hf1 hf2 hf4;have hsub:(Z.filter fun x=> !et Jl x).Sublist Z:=List.filter_sublist;have hOk:∀A c,oS room ⟨ml,A,c,fl,LK9,Z.filter fun x=> !et Jl x⟩:=fun A c=>⟨⟨hr1,hr2⟩,(by have:=hsub.length_le;dsimp only;omega),(fun y hy=>hba y (hsub.subset hy)),fun y hy=>⟨(hf2 y hy).1,(hf2 y hy).2.1,fun q hq=>by
  obtain⟨z,hz,hzq⟩:=bh.1 ((hf2 y hy).2.2 q hq);refine bh.2 ⟨z,List.mem_filter.2 ⟨hz,?_⟩,hzq⟩;cases hD:et Jl z with
  |false=>rfl
  |true=>exact absurd hzq.symm (hf4 y hy q hq z hz hD)⟩⟩
 refine bL func107 rfl ntmps107 rfl hi ?_;refine Z_2 ?_;refine ZO fun b2=>?_;refine ZO fun b3=>?_
 refine Z_5 ?_;refine ZN fun b5=>?_;refine ZL ?_;refine Z_3 ?_;refine bR ⟨fun j=>List.elem j [6,9],qY b2 [.pointer (some ⟨bc,0,none⟩)]⟩ Zk ?_;refine iC 0 rfl Zk Zk Zk (bO Zrf (pY rfl)) Wq2 ((by first|(refine bQ (t:=93) ?_;(repeat (first|exact .head _ _|apply Has.tail));done)|(refine mI (t:=93) (cin:=xJ bc ml b2 b3 b5 (.int .i64 room) (.slice Ac Z.length cc) (.int .i64 fl) Ap cp Jl (n9,LK9)) ?_ (List.mem_cons_self ..);(repeat (first|exact .head _ _|apply Has.tail));done))) rfl ?_;refine iC 1 rfl Zk Zk Zk (bO Zrf (pY rfl)) Wq2 ((by first|(refine bQ (t:=93) ?_;(repeat (first|exact .head _ _|apply Has.tail));done)|(refine mI (t:=93) (cin:=xJ bc ml b2 b3 b5 (.int .i64 room) (.slice Ac Z.length cc) (.int .i64 fl) Ap cp Jl (n9,LK9)) ?_ (List.mem_cons_self ..);(repeat (first|exact .head _ _|apply Has.tail));done))) rfl ?_;refine ZE 2 ?_;refine ZFe 3 1 ?_;refine ZG 4 ?_;refine cD 5 rfl Zk Zk Zk (kP rfl) rfl ?_;refine ce 6 Zk ?_;refine wi_inv (cs':=dg (xJ bc ml b2 b3 b5 (.int .i64 room) (.slice Ac Z.length cc) (.int .i64 fl) Ap cp Jl (0,LK))::[slv 186 4 Ac Z.length cc (Z.flatMap BA.cells),dg (Z.map baC)]) (fun w hi=>hi.KF Zi) ?_;refine iZ rfl rfl (eB ([slv 186 4 Ac Z.length cc (Z.flatMap BA.cells),dg (xJ bc ml b2 b3 b5 (.int .i64 room) (.slice Ac Z.length cc) (.int .i64 fl) Ap cp Jl (0,LK))]) rfl (fun _ _=>rfl) Zi (fun w hi hin=>HD b2 b3 b5 w hin)) (fun _=>by rintro _ _ ⟨_,⟨rfl,rfl⟩,rfl⟩;exact(by first|(refine bQ (t:=93) ?_;(repeat (first|exact .head _ _|apply Has.tail));done)|(refine mI (t:=93) (cin:=xJ bc ml b2 b3 b5 (.int .i64 room) (.slice Ac Z.length cc) (.int .i64 fl) Ap cp Jl (n9,LK9)) ?_ (List.mem_cons_self ..);(repeat (first|exact .head _ _|apply Has.tail));done))) rfl ?_;rintro _ _ ⟨_,⟨rfl,rfl⟩,rfl⟩;refine wa_inv (cs':=xJ bc ml b2 b3 b5 (.int .i64 room) (.slice Ac Z.length cc) (.int .i64 fl) Ap cp Jl (n9,LK9)++[slv 186 4 Ac (Z.filter fun x=> !et Jl x).length cc ((Z.filter fun x=> !et Jl x).flatMap BA.cells),dg (Z.map baC)]) (fun w hi=>(hi.perm (List.Perm.swap ..)).Kq) ?_;refine ZE 7 ?_;refine ZFe 8 1 ?_;refine ce 9 Zk ?_;refine dp rfl rfl (fc Zrf rfl rfl rfl Za Zp) (fun _=>by rintro _ _ ⟨rfl,rfl⟩;exact(by first|(refine bQ (t:=93) ?_;(repeat (first|exact .head _ _|apply Has.tail));done)|(refine mI (t:=93) (cin:=xJ bc ml b2 b3 b5 (.int .i64 room) (.slice Ac Z.length cc) (.int .i64 fl) Ap cp Jl (n9,LK9)) ?_ (List.mem_cons_self ..);(repeat (first|exact .head _ _|apply Has.tail));done))) ?_;rintro _ _ ⟨rfl,rfl⟩;refine dr ?_;refine Z_8 ?_;refine nk (cin:=Z.map baC) (cin':=(Z.filter fun x=> !et Jl x).map baC) Zd (hsub.map _) ?_;refine bN (caF bc room ⟨ml,Ac,cc,fl,LK9,Z.filter fun x=> !et Jl x⟩++[sl .i64 3 Ap Jl.length cp Jl]) Zj ?_;refine xH (cs':=caF bc room ⟨ml,Ac,cc,fl,LK9,Z.filter fun x=> !et Jl x⟩++[sl .i64 3 Ap Jl.length cp Jl]) (.inl rfl) (aQ _) rfl rfl ?_;refine⟨by rw[hf1];show Value.int .i64 (0+_)=_;rw[Int.zero_add],⟨ml,Ac,cc,fl,LK9,Z.filter fun x=> !et Jl x⟩,rfl,hOk _ _,rfl⟩
end Go.Proofs.YtakodpimdalajaaGreatDoor
namespace Go.Ink
open Go.RowKit
theorem wc_inv{C:Cx}{Q:kM}{fr:Fr}{cs cs':List bJ}{x:Code}(hc:∀w,Inv C.w0 C.S cs w→Inv C.w0 C.S cs' w)(h:WC C x Q fr cs'):WC C x Q fr cs:=fun a w hf hi=>h a w hf (hc w hi)
def gD(LK:List (Ky×LS))(k:Ky):LS:=fT LK k LS.zero
theorem mb{LK:List (Ky×LS)}{k:Ky}(h:cN (·.1) k LK=none):gD LK k=LS.zero:=q9 h _
theorem ma{LK:List (Ky×LS)}{k:Ky}{j:Nat}(h:cN (·.1) k LK=some j):∃x,LK[j]? =some (k,x)∧gD LK k=x:=by
 obtain⟨hj,hk⟩:=fe h;have hx:LK[j]? =some (k,LK[j].2):=by rw[ai hj,←hk]
 exact⟨_,hx,o6 h hx _⟩
theorem D9(LK:List (Ky×LS))(k:Ky):fT (lkV LK) k (.slice none 0 0)=(gD LK k).v:=uM LS.v LK k LS.zero
theorem wH(LK:List (Ky×LS))(k:Ky):cN (·.1) k (lkV LK)=cN (·.1) k LK:=jB (key:=fun x:Ky×LS=>x.1) (key':=fun x:Ky×Value=>x.1) (fun x:Ky×LS=>(x.1,x.2.v)) Zrf k LK
theorem ment_at(LK:List (Ky×LS))(k:Ky):(rx (lkV LK) k (.slice none 0 0))[uZ (lkV LK) k]? =some (k,(gD LK k).v):=by
 unfold rx uZ;rw[wH];cases h:cN (fun x:Ky×LS=>x.1) k LK with
 |some j=>
  obtain⟨x,hx,hl⟩:=ma h;dsimp only[Option.getD_some];unfold lkV;rw[aZ,hx,hl]
  rfl
 |none=>
  dsimp only[Option.getD_none];rw[mb h];simp[LS.v,LS.zero]
theorem GZ(LK:List (Ky×LS))(k:Ky)(x:LS):(rx (lkV LK) k (.slice none 0 0)).set (uZ (lkV LK) k) (k,x.v)=lkV (dB LK k x):=by
 unfold rx uZ dB;rw[wH];cases h:cN (fun x:Ky×LS=>x.1) k LK with
 |some j=>
  dsimp only[Option.getD_some];unfold lkV;rw[List.map_set]
 |none=>
  dsimp only[Option.getD_none];unfold lkV;simp
theorem xE.put{keys:List Ky}{LK:List (Ky×LS)}(h:xE keys LK){f t:Ky}(hf:kp f)(ht:t∈keys)(hn:t∉(gD LK f).ks)(A:Option Addr)(c:Nat):xE keys (dB LK f ⟨A,c,(gD LK f).ks++[t]⟩):=by
 have hl:(gD LK f).ks.Nodup∧∀q,q∈(gD LK f).ks→q∈keys:=by
  cases hp:cN (fun x:Ky×LS=>x.1) f LK with
  |some j=>obtain⟨x,hx,hl⟩:=ma hp;rw[hl];exact(h _ (aI hx)).2
  |none=>rw[mb hp];exact⟨List.nodup_nil,fun q hq=>nomatch hq⟩
 have hnew:kp f∧((gD LK f).ks++[t]).Nodup∧∀q,q∈(gD LK f).ks++[t]→q∈keys:=by
  refine⟨hf,?_,fun q hq=>?_⟩
  ·rw[List.nodup_append];exact⟨hl.1,by simp,fun a ha b hb=>by rw[aL]at hb;subst hb;exact fun e=>hn (e▸ha)⟩
  rcases aS.1 hq with hq|hq
  ·exact hl.2 q hq
  rw[aL]at hq;rw[hq];exact ht
 intro x hx;unfold dB at hx;cases hp:cN (fun x:Ky×LS=>x.1) f LK with
 |some j=>
  rw[hp]at hx;rcases List.mem_or_eq_of_mem_set hx with hx|rfl
  ·exact h x hx
  exact hnew
 |none=>
  rw[hp]at hx;rcases aS.1 hx with hx|hx
  ·exact h x hx
  rw[aL]at hx;rw[hx];exact hnew
end Go.Ink
namespace Go.Proofs.YtakodpimdalajaaGreatDoor
open Go.RowKit Go.Ink Go.Proofs.Tryz
attribute [local irreducible] OpY bP
def tM(LK:List (Ky×LS))(k:Ky):List bJ:=match cN (·.1) k LK with|some j=>(lkC LK).eraseIdx j|none=>lkC LK
theorem Hd{LK:List (Ky×LS)}{k:Ky}{j:Nat}{x:LS}(h:cN (·.1) k LK=some j)(hx:LK[j]? =some (k,x)):(lkC LK).Perm (lsC x::(lkC LK).eraseIdx j):=mM (by unfold lkC;rw[aZ,hx];rfl)
theorem lkTake{w0 w:World}{S:List Nat}{LK:List (Ky×LS)}{rest:List bJ}(k:Ky)(h:Inv w0 S (dg (lkC LK)::rest) w):Inv w0 S (lsC (gD LK k)::dg (tM LK k)::rest) w:=by
 unfold tM;cases hp:cN (fun x:Ky×LS=>x.1) k LK with
 |some j=>
  obtain⟨x,hx,hl⟩:=ma hp;rw[hl];exact h.Kg (Hd hp hx)
 |none=>
  rw[mb hp];exact(h.more (vg w [] 98 2)).perm (List.perm_append_singleton _ _)
theorem lkPut(LK:List (Ky×LS))(k:Ky)(x:LS):(lkC (dB LK k x)).Perm (lsC x::tM LK k):=by
 unfold tM dB;cases hp:cN (fun x:Ky×LS=>x.1) k LK with
 |some j=>
  obtain⟨hj, -⟩:=fe hp;dsimp only;unfold lkC;rw[List.map_set];exact qu (by simpa using hj)
 |none=>
  dsimp only;unfold lkC;rw[List.map_append];exact List.perm_append_singleton _ _
theorem Eo(A:Option Addr)(c:Nat)(l:List Ky)(x:Ky)(w:World)(h:RdV w 2 A l.length c (l.flatMap cz)):Ctr prog 185 [.slice A l.length c,.agg (cz x).toArray] w [] (fun v cs=>(∃z,v= .int .i64 z∧decide (0≤z)=l.contains x)∧cs=[]):=by
 have hlm:=aV h.cap h.max;simp only[maxLen]at hlm;refine bL func185 rfl ntmps185 rfl (Inv.start w) ?_;refine Z_2 ?_;refine ZO fun b3=>?_;refine gE ?_;refine cw (fun k:Nat=>[(0,.slice A l.length c),(3,.pointer (some ⟨b3,0,none⟩)),(7,.int .i64 (l.length:Int)),(8,.int .i64 (k:Int))]) (fun _=>[kyR b3 x]) (fun k=>k≤l.length∧(l.drop k).contains x=l.contains x) (fun k=>l.length - k) (0) ?_ ?_ ?_ ?_
 ·exact⟨au _,rfl⟩
 ·exact Zwk
 ·exact Zu
 rintro k ⟨hk,hc⟩;refine Z_6 ?_;refine ZW ?_ ?_<;>intro hc2
 ·simp only[ak]at hc2;have hkl:k<l.length:=Wq1;obtain⟨ad,had⟩:=h.some_ Wq1;have h2:=h;rw[had]at h2;obtain⟨y,hy⟩:∃y,l[k]? =some y:=⟨_,ai hkl⟩;rw[oM hy]at hc;refine fF ?_;refine bR ⟨fun j=>List.elem j [],[]⟩ Zk ?_;refine ZI 0 ?_;refine ZE 1 ?_;refine ZE 2 ?_;refine cD 3 rfl Zk Zk Zk (eK (j:=k) had rfl Zrf Zv0 Zv0 Zrf (fun _=>hkl)) rfl ?_;refine dm 4 rfl Zk Zk Zk Zk (cn (vs:=cz y) Zrf Zrf Zv0) (fv h2 (fun i v hi=>fB (f:=cz) Zrf (i:=i) hy hi)) rfl ?_;refine cD 5 rfl Zk Zk Zk (Cz rJ (yx x y) (Zv rfl) (Zv rfl)) rfl ?_;refine dr ?_;refine Zt ?_;refine ZW ?_ ?_<;>intro hc4
  ·have hcx:l.contains x=true:=(by rw[←hc,List.contains_cons,hc4,Bool.true_or]);refine gE ?_;refine Zra ?_;exact⟨⟨_,rfl,by rw[hcx];exact ay Wq1⟩,rfl⟩
  rw[List.contains_cons,hc4,Bool.false_or]at hc;refine Z_4 ?_;refine Wq8 ?_;refine dM (k+1) ?_ ?_ ?_
  ·exact⟨⟨by omega,hc⟩,by omega⟩
  ·exact Zwk
  exact Zu
 simp only[ah]at hc2;obtain rfl:k=l.length:=Wq1;rw[List.drop_length]at hc;refine fF ?_;refine Zra ?_;exact⟨⟨_,rfl,by rw[←hc];rfl⟩,rfl⟩
theorem xl(A:Option Addr)(c:Nat)(l:List Ky)(x:Ky)(w:World)(h:RdV w 2 A l.length c (l.flatMap cz)):Ctr prog 137 [.slice A l.length c,.agg (cz x).toArray] w [] (fun v cs=>v= .bool (l.contains x)∧cs=[]):=by
 refine bL func137 rfl ntmps137 rfl (Inv.start w) ?_;refine Z_2 ?_;refine ZO fun b3=>?_;refine Z_7 ?_;refine ZS (fun w hi=>Eo A c l x w (h.Jz hi)) ?_;rintro _ _ ⟨_,⟨⟨z,rfl,hz⟩,rfl⟩,rfl⟩;refine Z_5 ?_;refine Zra ?_;exact⟨by rw[←hz],rfl⟩
theorem link_rd{w:World}{LK:List (Ky×LS)}{k:Ky}(h:(dg (lkC LK)).ok w):RdV w 2 (gD LK k).A (gD LK k).ks.length (gD LK k).c ((gD LK k).ks.flatMap cz):=by
 cases hp:cN (fun x:Ky×LS=>x.1) k LK with
 |some j=>
  obtain⟨x,hx,hl⟩:=ma hp;rw[hl];exact de (qx h (lsC x) (bh.2 ⟨_,aI hx,rfl⟩))
 |none=>
  rw[mb hp];exact⟨rfl,aN _,au _,fun _=>⟨rfl,rfl⟩,fun ad e=>nomatch e⟩
theorem Iq(bc:Nat)(room:Int)(X:CaX)(hX:oS room X)(f t:Ky)(hkf:kp f)(w:World)(hi:Inv w (bK (caF bc room X)) (caF bc room X) w):
  Ctr prog 97 [.pointer (some ⟨bc,0,none⟩),.agg (cz f).toArray,.agg (cz t).toArray] w (caF bc room X) (fun _ cs=>∃X':CaX,cs=caF bc room X'∧oS room X'∧X'.Z=X.Z):=by
 have hS:=hX.sm;have hlk:=hX.lk;have hX2:∀LK,xE (X.Z.map BA.key) LK→oS room ⟨X.ml,X.Ac,X.cc,X.fl,LK,X.Z⟩:=fun LK h=>⟨hX.rm,hX.len,hX.ba,h⟩
 obtain⟨ml,Ac,cc,fl,LK,Z⟩:=X;dsimp only at hS hlk hX2;have hZ:=hS.1;have HP:=sh bc (.int .i64 room) (.map (some ml)) (.int .i64 fl) Ac cc Z hZ;have hgv:=D9 LK f;have hget:∀L,fT (lkV LK) f (.slice none 0 0)=L→L=(gD LK f).v:=fun L e=>e▸hgv
 refine bL func97 rfl ntmps97 rfl hi ?_;refine Z_2 ?_;refine ZO fun b4=>?_;refine ZO fun b5=>?_
 refine Z_5 ?_;rcases ho1:cN BA.key f Z with _|j1
 ·refine Z_3 ?_;refine ZcM ([caR bc (.int .i64 room) (.slice Ac Z.length cc) (.map (some ml)) (.int .i64 fl),slv 186 4 Ac Z.length cc (Z.flatMap BA.cells)]) (fun w hi hin=>HP f w hin) ?_;rw[ho1];refine Z_2 ?_;refine dZ (cq rfl rfl) rfl rfl ?_;refine dZ (cq rfl rfl) rfl rfl ?_;refine dZ (cq rfl rfl) rfl rfl ?_;refine dZ (cq rfl rfl) rfl rfl ?_;refine Zy (y_or (q:=false) (Zv rfl) ⟨_,rfl,fun _ e=>absurd e Wq5⟩) ?_;refine Z_2 ?_;refine bU rfl (rfl) ?_;refine Z_7 ?_;refine bN (caF bc room ⟨ml,Ac,cc,fl,LK,Z⟩) Zj ?_;refine xH (cs':=caF bc room ⟨ml,Ac,cc,fl,LK,Z⟩) (.inl rfl) (aQ _) rfl rfl ?_;exact⟨_,rfl,hX,rfl⟩
 refine Z_3 ?_;refine ZcM ([caR bc (.int .i64 room) (.slice Ac Z.length cc) (.map (some ml)) (.int .i64 fl),slv 186 4 Ac Z.length cc (Z.flatMap BA.cells)]) (fun w hi hin=>HP f w hin) ?_;rw[ho1];refine Z_3 ?_;refine iQ (cq rfl rfl) Zh Zrf Zrf (Zv rfl) rfl ?_;refine iA (cq rfl rfl) (by rw[show decide (Cr (some j1)<0)=false from az (by show¬((j1:Nat):Int)<0;omega)];rfl) (eB ([caR bc (.int .i64 room) (.slice Ac Z.length cc) (.map (some ml)) (.int .i64 fl),slv 186 4 Ac Z.length cc (Z.flatMap BA.cells)]) rfl (fun _ _=>rfl) Zi (fun w hi hin=>HP t w hin)) rfl ?_;rintro _ _ ⟨_,⟨rfl,rfl⟩,rfl⟩;refine Z_4 ?_;refine ZW ?_ ?_<;>intro hc1
 ·refine Z_7 ?_;refine bN (caF bc room ⟨ml,Ac,cc,fl,LK,Z⟩) Zj ?_;refine xH (cs':=caF bc room ⟨ml,Ac,cc,fl,LK,Z⟩) (.inl rfl) (aQ _) rfl rfl ?_;exact⟨_,rfl,hX,rfl⟩
 have htk:t∈Z.map BA.key:=(by cases ho2:cN BA.key t Z with|none=>rw[ho2]at hc1;simp[Cr]at hc1|some j2=>obtain⟨x2,hx2,hxk2, -⟩:=pC ho2;exact bh.2 ⟨x2,aI hx2,hxk2⟩);refine Z_2 ?_;refine cW (fun Y:CaX=>[(6,.bool false)]) (fun Y=>caF bc room Y) (fun Y=>oS room Y∧Y.Z=Z) ?_ ?_
 ·refine Zs (bR ⟨fun j=>List.elem j [],[]⟩ Zk ?_);refine gn ?_;refine ZFe 2 2 ?_;refine ZG 3 ?_;refine ZI 4 ?_;refine ZI 6 ?_;refine ce 5 Zk ?_;refine AU rfl (xM (Zv rfl) (Zv rfl) hkf rfl wI Zrf) (fun w hi=>(show ly ml (lkV LK) w from hi.get (show Has _ (mpc ml (lkV LK))from Zh))) rfl ?_;refine ce 7 Zk ?_;rw[D9 LK f];refine ZT (fun w hi=>xl (gD LK f).A (gD LK f).c (gD LK f).ks t w (link_rd (hi.get (show Has _ (dg (lkC LK))from Zh)))) ?_;rintro _ _ ⟨_,⟨rfl,rfl⟩,rfl⟩;refine ZE 8 ?_;refine dr ?_;refine Zt ?_;refine ZW ?_ ?_<;>intro hc3
  ·have hnt:t∉(gD LK f).ks:=(by intro hm;have h9:(!(gD LK f).ks.contains t)=true:=hc3;rw[List.contains_iff_mem.2 hm]at h9;cases h9);have hxl:(gD LK f).ks.length≤1000000:=(by cases hp:cN (fun x:Ky×LS=>x.1) f LK with|some j=>obtain⟨x,hx,hl⟩:=ma hp;rw[hl];exact((hlk.sm (by simpa using hZ)) _ (aI hx)).2|none=>rw[mb hp];exact au _);obtain⟨⟨Ax,cx,kx⟩,hlx⟩:=Zgn (gD LK f);refine wc_inv (cs':=lsC (gD LK f)::dg (tM LK f)::[caR bc (.int .i64 room) (.slice Ac Z.length cc) (.map (some ml)) (.int .i64 fl),slv 186 4 Ac Z.length cc (Z.flatMap BA.cells),dg (Z.map baC),mpc ml (lkV LK),kyR b4 f,kyR b5 t]) (fun w hi=>lkTake f (hi.pick (cs':=dg (lkC LK)::[caR bc (.int .i64 room) (.slice Ac Z.length cc) (.map (some ml)) (.int .i64 fl),slv 186 4 Ac Z.length cc (Z.flatMap BA.cells),dg (Z.map baC),mpc ml (lkV LK),kyR b4 f,kyR b5 t]) Zj)) ?_;refine jk ⟨fun j=>List.elem j [7,9,11],[]⟩ [(0,0),(1,0),(2,0),(3,4),(4,4),(5,4),(6,2),(7,2),(8,0),(10,0),(9,2),(11,2)] Zk Zk ?_;refine cT rfl (fP Zv0) rfl ?_;refine cT rfl (AO Zv0) rfl ?_;refine cT rfl (dN 2 rfl Zv0 Zf) rfl ?_;refine jr rfl (bO Zrf Zv0) (cB Zh rfl) rfl ?_;refine jE rfl Zh Zrf Zrf (Zv rfl) rfl ?_;refine jE rfl Zh Zrf Zrf (Zv rfl) rfl ?_;refine gM rfl ?_;refine fD rfl rfl (da rfl rfl Zrf Zrf rfl rfl rfl) ZJ rfl ?_;rintro _ _ ⟨b33,rfl,rfl⟩;refine gM rfl ?_;refine fD rfl rfl (Gk rfl rfl hkf rfl wI Zrf Za) ZJ rfl ?_;rintro _ _ ⟨st34,rfl,rfl⟩;refine cT rfl (fX Zv0 (.zero _ _)) rfl ?_;refine cT rfl (fX Zv0 (.succ _ (.zero _ _))) rfl ?_;refine gM rfl ?_;rw[D9 LK f];refine fD rfl rfl (cC (n:=(gD LK f).ks.length) (e:=98) (sz:=2) (bytes:=8) rfl rfl Za rfl rfl (fun w hi=>hi.rd (show Has _ (slv 98 2 (some ⟨b33,0,none⟩) 1 1 (cz t))from Zh)) (rI t) g9 Wq1) ZJ rfl ?_;rintro _ _ ⟨A9,c9,rfl,rfl⟩;rw[show(gD LK f).ks.flatMap cz++cz t=((gD LK f).ks++[t]).flatMap cz by simp,show(gD LK f).ks.length+1=((gD LK f).ks++[t]).length by simp];refine gM rfl ?_;refine eC rfl rfl (Dd (ment_at LK f) rfl rfl rfl Za) ZJ ?_;rintro _ _ ⟨rfl,rfl⟩;refine eP ?_;refine j6 (c:=mpc ml ((rx (lkV LK) f (.slice none 0 0)).set (uZ (lkV LK) f) (f,(LS.mk A9 c9 ((gD LK f).ks++[t])).v))) (c':=mpc ml (lkV (dB LK f ⟨A9,c9,(gD LK f).ks++[t]⟩))) Za rfl (fun w h=>by rw[←GZ];exact h) ?_
   refine jL (cin:=tM LK f) (c:=lsC ⟨A9,c9,(gD LK f).ks++[t]⟩) (cin':=lkC (dB LK f ⟨A9,c9,(gD LK f).ks++[t]⟩)) Zd Zd (lkPut LK f _) ?_;refine bY ((⟨ml,Ac,cc,fl,dB LK f ⟨A9,c9,(gD LK f).ks++[t]⟩,Z⟩:CaX)) ?_ ?_ ?_
   ·exact⟨hX2 _ (hlk.put hkf htk hnt _ _),rfl⟩
   ·exact Zwk
   exact Zj
  refine Zc ?_;refine bY ((⟨ml,Ac,cc,fl,LK,Z⟩:CaX)) ?_ ?_ ?_
  ·exact⟨hX,rfl⟩
  ·exact Zwk
  exact Zj
 rintro Y ⟨hY,hYZ⟩;refine Z_6 ?_
 skip
 refine xH (cs':=caF bc room Y) (.inl rfl) (aQ _) rfl rfl ?_;exact⟨Y,rfl,hY,hYZ⟩
end Go.Proofs.YtakodpimdalajaaGreatDoor
namespace Go.Ink
open Go.RowKit
structure RS where
 r:Rn
 A:Option Addr
 c:Nat
def RS.cells(x:RS):List Value:=[.slice x.A x.r.bytes.length x.c,.bool x.r.ends]
def RS.v(x:RS):Value:= .agg x.cells.toArray
def RS.zero:RS:=⟨Rn.zero,none,0⟩
def rnV(RZ:List (Ky×RS)):List (Ky×Value):=RZ.map fun x=>(x.1,x.2.v)
def rnM(RZ:List (Ky×RS)):List (Ky×Rn):=RZ.map fun x=>(x.1,x.2.r)
theorem fS(x:RS):∀u∈x.cells,u.oneCell'=true:=fun u h=>by
 simp only[RS.cells,aK,aY,or_false]at h;rcases h with rfl|rfl<;>rfl
theorem it_cur{b r:Nat}{L:List (Bool×Ky×Value)}{cur:Option (Ky×Value)}{w:World}(h:vF b r L cur w):vF b r L none w:=by
 obtain⟨es,clock,since,seen,c0,hb,hs,hr,hold,hsc,hsk,hL,hok,hne,hcur⟩:=h;exact⟨es,clock,since,seen,c0,hb,hs,hr,hold,hsc,hsk,hL,hok,hne,fun _ _ e=>by cases e⟩
structure EnX where
 bc:Nat
 mr:Nat
 room:Int
 X:CaX
 RZ:List (Ky×RS)
 last:Ky
 JP:Int
 JL:Int
 begun:Bool
def EnX.eng(E:EnX):Eng:=⟨E.room,E.X.Z.map BA.b,rnM E.RZ,E.last,E.JP,E.JL,E.begun⟩
structure nC(E:EnX):Prop where
 ca:oS E.room E.X
 eg:ij E.eng
 rs:∀y,y∈E.RZ→kp y.1∧y.2.r.bytes.length≤1000∧u8s y.2.r.bytes
 last:kp E.last
def gIL(G:List (Bool×Ky×RS)):List (Bool×Ky×Value):=G.map fun g=>(g.1,g.2.1,g.2.2.v)
theorem gIL_at{G:List (Bool×Ky×RS)}{j:Nat}{q:Ky}{v:Value}(h:(gIL G)[j]? =some (false,q,v)):∃x,G[j]? =some (false,q,x)∧v=x.v:=by
 unfold gIL at h;rw[aZ]at h;cases hg:G[j]? with
 |none=>rw[hg]at h;cases h
 |some g=>
  obtain⟨f,p,x⟩:=g;rw[hg]at h;simp only[Option.map_some,aR,aW]at h;obtain⟨rfl,rfl,rfl⟩:=h;exact⟨x,rfl,rfl⟩
theorem gIL_del{G:List (Bool×Ky×RS)}{j:Nat}{f:Bool}{q:Ky}{x:RS}(hn:(G.map fun g=>g.2.1).Nodup)(h:G[j]? =some (f,q,x)):sN (gIL G) q=gIL (G.eraseIdx j):=by
 have hp:cN (fun z:Bool×Ky×Value=>z.2.1) q (gIL G)=some j:=by
  have e:cN (fun z:Bool×Ky×Value=>z.2.1) q (gIL G)=cN (fun g:Bool×Ky×RS=>g.2.1) q G:=jB (key:=fun g:Bool×Ky×RS=>g.2.1) (key':=fun z:Bool×Ky×Value=>z.2.1) (fun g:Bool×Ky×RS=>(g.1,g.2.1,g.2.2.v)) Zrf q G;rw[e];cases hp:cN (fun g:Bool×Ky×RS=>g.2.1) q G with
  |none=>exact absurd rfl (ii hp _ (aI h))
  |some i=>
   obtain⟨hi,hk⟩:=fe hp;obtain⟨hj,hje⟩:=ar.1 h;have:i=j:=(List.getElem_inj (xs:=G.map fun g=>g.2.1) (h₀:=by simpa using hi) (h₁:=by simpa using hj) hn).1 (by simp[hk,hje]);rw[this]
 unfold sN;rw[hp];dsimp only;unfold gIL;rw[ChangeMaps.map_eraseIdx]
theorem v4{α:Type}:∀(l:List α) (j:Nat) (x:α),(l.set j x).eraseIdx j=l.eraseIdx j
 |[],_,_=>rfl
 |_::_,0,_=>rfl
 |a::l,j+1,x=>by
  show a::(l.set j x).eraseIdx j=a::l.eraseIdx j;rw[v4 l j x]
theorem pX{α:Type}{f:α→Bool}:∀{l:List α} {j:Nat} {x:α},l[j]? =some x→f x=false→(l.eraseIdx j).filter f=l.filter f
 |[],j,x,h,_=>by simp at h
 |a::l,0,x,h,hf=>by
  obtain rfl:a=x:=by simpa using h
  show l.filter f=_;rw[List.filter_cons,hf];simp
 |a::l,j+1,x,h,hf=>by
  show(a::l.eraseIdx j).filter f=_;rw[List.filter_cons,List.filter_cons,pX (l:=l) (by simpa using h) hf]
theorem pT{α β:Type}{g:α→β}{l:List α}{j:Nat}{x y:α}(h:l[j]? =some x)(hg:g y=g x):(l.set j y).map g=l.map g:=by
 rw[List.map_set,hg];apply List.ext_getElem?;intro i;rw[List.getElem?_set];by_cases hij:j=i
 ·subst hij;have hj:=(ar.1 h).1;rw[if_pos rfl,if_pos (by simpa using hj),aZ,h]
  rfl
 rw[if_neg hij]
def nR(G:List (Bool×Ky×RS)):Nat:=(G.filter fun g=> !g.1).length
theorem s8:∀{G:List (Bool×Ky×RS)} {j:Nat} {x:Ky×RS},G[j]? =some (false,x)→nR (G.set j (true,x))<nR G
 |[],j,x,h=>by simp at h
 |g::G,0,x,h=>by
  obtain rfl:g=(false,x):=by simpa using h
  simp[nR]
 |g::G,j+1,x,h=>by
  have:=s8 (G:=G) (j:=j) (x:=x) (by simpa using h);unfold nR at this⊢;rw[List.set_cons_succ,List.filter_cons,List.filter_cons];cases g.1<;>simp<;>exact this
theorem pN:∀{G:List (Bool×Ky×RS)} {j:Nat} {x:Ky×RS},G[j]? =some (false,x)→nR (G.eraseIdx j)<nR G
 |[],j,x,h=>by simp at h
 |g::G,0,x,h=>by
  obtain rfl:g=(false,x):=by simpa using h
  simp[nR]
 |g::G,j+1,x,h=>by
  have:=pN (G:=G) (j:=j) (x:=x) (by simpa using h);unfold nR at this⊢;show((g::G.eraseIdx j).filter _).length<_;rw[List.filter_cons,List.filter_cons];cases g.1<;>simp<;>exact this
theorem wJ(Z:List BA)(RZ:List (Ky×RS)):sM (Z.map BA.b) (rnM RZ)=rnM (RZ.filter fun x=>Z.any fun t=>t.key==x.1):=by
 unfold sM rnM;rw[List.filter_map];congr 1;apply List.filter_congr;intro x _;simp only[Function.comp,List.any_map]
 rfl
theorem IA(Z:List BA)(k:Ky):(Z.any fun t=>t.key==k)=(Z.find? fun t=>t.key==k).isSome:=by
 rw[Bool.eq_iff_iff,List.any_eq_true,List.find?_isSome]
theorem Ig(Z:List BA)(Jl:List Int):(Z.map BA.b).filter (fun t=> !Jl.contains (t.key.2/64))=(Z.filter fun x=> !Jl.contains (x.b.key.2/64)).map BA.b:=by
 rw[List.filter_map]
 rfl
theorem tX{α:Type}(D:α→Bool):∀l:List α,(l.filter D).length+(l.filter fun x=> !D x).length=l.length
 |[]=>rfl
 |x::l=>by
  have:=tX D l;rw[List.filter_cons,List.filter_cons];cases D x<;>simp<;>omega
end Go.Ink
namespace Go.Proofs.YtakodpimdalajaaGreatDoor
open Go.RowKit Go.Ink Go.Proofs.Tryz
attribute [local irreducible] OpY bP
abbrev rsC(x:RS):bJ:=sl .u8 5 x.A x.r.bytes.length x.c x.r.bytes
def rnC(RZ:List (Ky×RS)):List bJ:=RZ.map fun x=>rsC x.2
abbrev enR(be:Nat)(E:EnX):bJ:=row be [.pointer (some ⟨E.bc,0,none⟩),.map (some E.mr),.int .u32 E.last.1,.int .u32 E.last.2,.int .i64 E.JP,.int .i64 E.JL,.bool E.begun] 100
abbrev enF(be:Nat)(E:EnX):List bJ:=[enR be E,caR E.bc (.int .i64 E.room) (.slice E.X.Ac E.X.Z.length E.X.cc) (.map (some E.X.ml)) (.int .i64 E.X.fl),blC E.X,dg (E.X.Z.map baC),mpc E.X.ml (lkV E.X.LK),dg (lkC E.X.LK),mpc E.mr (rnV E.RZ),dg (rnC E.RZ)]
theorem Aa(x:RS)(n:Int)(w:World):Ctr prog 46 [.agg x.cells.toArray,.int .i64 n] w [] (fun v cs=>v= .int .i64 (bif n==0 then 0 else(x.r.bytes.length:Int))∧cs=[]):=by
 refine bL func46 rfl ntmps46 rfl (Inv.start w) ?_;refine Z_2 ?_;refine ZO fun b2=>?_;refine dS ?_;refine ZW ?_ ?_<;>intro hc1
 ·refine Z_7 ?_;refine Zra ?_;rw[hc1];exact df
 refine fF ?_;refine Zra ?_;rw[hc1];exact df
theorem enew_ok(room:Int)(w:World):Ctr prog 11 [.int .i64 room] w [] (fun v cs=>if 1≤room∧room≤1024 then∃be bc mr ml,v= .tuple #[.pointer (some ⟨be,0,none⟩),.int .i64 0]∧cs=enF be ⟨bc,mr,room,⟨ml,none,0,0,[],[]⟩,[],(0,0),0,0,false⟩else v= .tuple #[.pointer none,.int .i64 1]∧cs=[]):=by
 have HN:=cnew_ok room;refine bL func11 rfl ntmps11 rfl (Inv.start w) ?_;by_cases hr:1≤room∧room≤1024
 ·have HN2:∀w,Ctr prog 42 [.int .i64 room] w [] (fun v cs=>∃bc ml,v= .tuple #[.pointer (some ⟨bc,0,none⟩),.int .i64 0]∧cs=caF bc room ⟨ml,none,0,0,[],[]⟩):=fun w=>Ctr.mono (HN w) fun v cs h=>by rw[if_pos hr]at h;exact h
  refine Z_9 ?_;refine ZS (fun w hi=>HN2 w) ?_;rintro _ _ ⟨_,⟨bc,ml,rfl,rfl⟩,rfl⟩;refine gL ?_;refine gx ?_;refine Z_4 ?_;refine nH ?_;refine ZA ?_;refine fb (xV rfl) rfl ?_;rintro _ _ ⟨b15,rfl,rfl⟩;refine ZA ?_;refine ZO fun b17=>?_
  refine Z_5 ?_;refine bN (enF b17 ⟨bc,b15,room,⟨ml,none,0,0,[],[]⟩,[],(0,0),0,0,false⟩) Zj ?_;refine rc (cs':=enF b17 ⟨bc,b15,room,⟨ml,none,0,0,[],[]⟩,[],(0,0),0,0,false⟩) (.inl rfl) (aQ _) rfl rfl rfl ?_;rw[if_pos hr];exact⟨b17,bc,b15,ml,rfl,rfl⟩
 have HN2:∀w,Ctr prog 42 [.int .i64 room] w [] (fun v cs=>v= .tuple #[.pointer none,.int .i64 1]∧cs=[]):=fun w=>Ctr.mono (HN w) fun v cs h=>by rw[if_neg hr]at h;exact h
 refine Z_9 ?_;refine ZSe (fun w hi=>HN2 w) ?_;refine gL ?_;refine bU rfl (rfl) ?_;refine Z_9 ?_;refine jh ?_;rw[if_neg hr];exact df
theorem BL(Y:bJ)(D:Ky→Bool)(f:FuncId)(caps:List Value)(HF:∀args w,(callFunc f args).run prog w= .ok (.enter f args) w)(RZ:List (Ky×RS))(hn:(RZ.map (·.1)).Nodup)(hk:∀y,y∈RZ→kp y.1)(mr:Nat)
  (HC:∀(q:Ky) (x:RS) (w:World),kp q→Inv w (bK [Y]) [Y] w→Ctr prog f ([]++[.agg (cz q).toArray,.agg x.cells.toArray]++caps) w [Y] (fun v cs=>v= .bool (D q)∧cs=[Y]))
  (w:World) (hi:Inv w (bK [mpc mr (rnV RZ),Y]) [mpc mr (rnV RZ),Y] w):
  Ctr prog 152 [.map (some mr),.func (.func f) #[] caps.toArray] w [mpc mr (rnV RZ),Y] (fun _ cs=>cs=[mpc mr (rnV (RZ.filter fun x=> !D x.1)),Y]):=by
 refine bL func152 rfl ntmps152 rfl hi ?_;refine Z_3 ?_;refine fb (zd rfl rfl Za) rfl ?_;rintro _ _ ⟨b7,rfl,rfl⟩;rw[show(rnV RZ).map (fun x=>(false,x))=gIL (RZ.map fun x=>(false,x)) by unfold rnV gIL;rw[List.map_map,List.map_map];rfl];refine Z_3 ?_;refine cw (fun G:List (Bool×Ky×RS)=>[(0,.map (some mr)),(1,.func (.func f) #[] caps.toArray),(7,.pointer (some ⟨b7,0,none⟩))]) (fun G=>[itC mr b7 (gIL G) none,Y]) (fun G=>(G.map (·.2)).filter (fun x=> !D x.1)=RZ.filter (fun x=> !D x.1)∧(∀g,g∈G→g.1=true→D g.2.1=false)∧(G.map fun g=>g.2.1).Nodup∧(∀g,g∈G→kp g.2.1)) (fun G=>nR G) (RZ.map fun x=>(false,x)) ?_ ?_ ?_ ?_
 ·exact⟨(by rw[List.map_map];show(RZ.map id).filter _=_;rw[List.map_id]),(fun g hg h=>by obtain⟨y, -,rfl⟩:=bh.1 hg;cases h),(by rw[List.map_map];exact hn),(fun g hg=>by obtain⟨y,hy,rfl⟩:=bh.1 hg;exact hk y hy)⟩
 ·exact Zwk
 ·exact Zu
 rintro G ⟨hG,hT,hN,hK⟩;refine Z_2 ?_;refine fb (Dc rfl Za) rfl ?_;rintro _ _ ⟨o8,ho8,rfl,rfl⟩;refine Zy (Cw Zv0) ?_;refine Z_3 ?_;refine ZW ?_ ?_<;>intro hc1
 ·obtain⟨⟨j,q,v⟩,rfl⟩:=Option.isSome_iff_exists.1 hc1;have hj0:(gIL G)[j]? =some (false,q,v):=ho8;obtain⟨x,hx,rfl⟩:=gIL_at hj0;have hq:=hK _ (aI hx);have hIT:(gIL G).set j (true,q,x.v)=gIL (G.set j (true,q,x)):=(by unfold gIL;rw[List.map_set]);have hx2:(G.set j (true,q,x))[j]? =some (true,q,x):=List.getElem?_set_self (ar.1 hx).1;have hN2:((G.set j (true,q,x)).map fun g=>g.2.1).Nodup:=(by rw[pT (y:=(true,q,x)) hx rfl];exact hN);have hdel:sN ((gIL G).set j (true,q,x.v)) q=gIL (G.eraseIdx j):=(by rw[hIT,gIL_del hN2 hx2,v4]);refine Z_5 ?_;refine dL (CB (Zv rfl)) (fun w hi=>(show vF mr b7 (ym (gIL G) (some (j,q,x.v))) (some (q,x.v)) w from hi.get (show Has _ (itC mr b7 (ym (gIL G) (some (j,q,x.v))) (DR (some (j,q,x.v))))from Zh))) rfl ?_;refine Z_2 ?_;refine ZN fun b4=>?_
  refine ZN fun b5=>?_
  refine dD (bV (vs:=cz q) Zrf rfl rfl (rI q) Za (by exact rfl)) ?_;rintro _ _ ⟨rfl,rfl⟩;refine dD (bV (vs:=x.cells) Zrf rfl rfl (fS x) Za (by exact rfl)) ?_;rintro _ _ ⟨rfl,rfl⟩;refine Z_7 ?_;refine fb (fp ([Y]) rfl rfl HF Zi (fun w hi hin=>HC q x w hq hin)) rfl ?_;rintro _ _ ⟨_,⟨rfl,rfl⟩,rfl⟩;refine Z_2 ?_;refine ZW ?_ ?_<;>intro hc3
  ·refine Z_3 ?_;refine dD (t_itdel rfl rfl hq rfl wI Za) ?_;rintro _ _ ⟨rfl,rfl⟩;refine Z_2 ?_;refine j6 (c:=itC mr b7 (sN ((gIL G).set j (true,q,x.v)) q) none) (c':=itC mr b7 (gIL (G.eraseIdx j)) none) Za rfl (fun w h=>by rw[←hdel];exact h) ?_;refine bY ((G.eraseIdx j)) ?_ ?_ ?_
   ·exact⟨⟨(by rw[ChangeMaps.map_eraseIdx,pX (x:=(q,x)) (by rw[aZ,hx];rfl) (by rw[hc3];rfl)];exact hG),(fun g hg h=>hT g ((List.eraseIdx_sublist _ _).subset hg) h),hN.sublist ((List.eraseIdx_sublist _ _).map _),fun g hg=>hK g ((List.eraseIdx_sublist _ _).subset hg)⟩,pN hx⟩
   ·exact Zwk
   exact Zj
  refine Z_2 ?_;refine j6 (c:=itC mr b7 ((gIL G).set j (true,q,x.v)) (some (q,x.v))) (c':=itC mr b7 (gIL (G.set j (true,q,x))) none) Za rfl (fun w h=>by rw[←hIT];exact it_cur h) ?_;refine bY ((G.set j (true,q,x))) ?_ ?_ ?_
  ·exact⟨⟨(by rw[pT (y:=(true,q,x)) hx rfl];exact hG),(fun g hg h=>(List.mem_or_eq_of_mem_set hg).elim (fun hg=>hT g hg h) (fun e=>by rw[e];exact hc3)),hN2,(fun g hg=>(List.mem_or_eq_of_mem_set hg).elim (fun hg=>hK g hg) (fun e=>by rw[e];exact hq))⟩,s8 hx⟩
  ·exact Zwk
  exact Zj
 obtain rfl:o8=none:=(by cases o8 with|none=>rfl|some z=>simp at hc1);have ho0:∀x,x∈gIL G→x.1=true:=ho8;have hall:∀g,g∈G→D g.2.1=false:=(fun g hg=>hT g hg (ho0 (g.1,g.2.1,g.2.2.v) (bh.2 ⟨g,hg,rfl⟩)));refine Z_4 ?_;refine wk (IL:=gIL G) (cur:=none) (b:=mr) (r:=b7) Zd ?_;rw[show(gIL G).map (·.2)=rnV (RZ.filter fun x=> !D x.1) by rw[←hG,List.filter_eq_self.2 (fun y hy=>by obtain⟨g,hg,rfl⟩:=bh.1 hy;rw[hall g hg];rfl)];unfold gIL rnV;rw[List.map_map,List.map_map];rfl];refine iF (cs':=[mpc mr (rnV (RZ.filter fun x=> !D x.1)),Y]) (.inr rfl) Zu rfl ?_
 rfl
end Go.Proofs.YtakodpimdalajaaGreatDoor
namespace Go.Ink
open Go.RowKit
def kC(n:Nat)(m from_:Int):Nat→(St×Mmu×Dev)×Eng→(St×Mmu×Dev)×Eng
 |0,q=>q
 |k+1,q=>bif eT m from_ q.1.1 then kC n m from_ k (doE n q.1.1 q.1.2.1 q.1.2.2 q.2)else q
def Gs(n:Nat)(m:Int)(s:St)(U:Mmu)(d:Dev)(E:Eng):(St×Mmu×Dev)×Eng:=kC n m s.count m.toNat ((s,U,d),E)
theorem qX{n k:Nat}{m from_:Int}{q:(St×Mmu×Dev)×Eng}(h:eT m from_ q.1.1=false):kC n m from_ k q=q:=by
 cases k with
 |zero=>rfl
 |succ k=>
  unfold kC;rw[h]
  rfl
theorem wa{n k:Nat}{m from_:Int}{q:(St×Mmu×Dev)×Eng}(h:eT m from_ q.1.1=true):kC n m from_ (k+1) q=kC n m from_ k (doE n q.1.1 q.1.2.1 q.1.2.2 q.2):=by
 rw[kC,h]
 rfl
theorem xx{n:Nat}{s:St}{U:Mmu}{d:Dev}(h:GOk n s U d):GOk n (dQ n s U d).1 (dQ n s U d).2.1 (dQ n s U d).2.2:=by
 rcases pF h with h1|⟨-, -,h3, -⟩
 ·exact h1.g
 exact h3
theorem AJ.trans{E E1 E2:Eng}{c1 c2:Nat}(h1:AJ E E1 c1)(h2:AJ E1 E2 c2):AJ E E2 (c1+c2):=⟨fun a b c=>by
 obtain⟨x1,x2,x3,x4⟩:=h1.JP a b Wq1;obtain⟨y1,y2,y3,y4⟩:=h2.JP x1 x2 Wq1;exact⟨y1,y2,by omega,by omega⟩,h2.room.trans h1.room⟩
theorem AJ.zero(E:Eng):AJ E E 0:=⟨fun a b _=>⟨a,b,by omega,Int.le_refl _⟩,rfl⟩
theorem v8{n:Nat}(hn:n≤1000000){m f:Int}:∀(k:Nat) {q:St×Mmu×Dev} {E:Eng},GOk n q.1 q.2.1 q.2.2→ij E→
  (kC n m f k (q,E)).1=lr n m f k q∧ij (kC n m f k (q,E)).2∧GOk n (lr n m f k q).1 (lr n m f k q).2.1 (lr n m f k q).2.2∧
  ∃c:Nat,c≤8*k∧AJ E (kC n m f k (q,E)).2 c∧(lr n m f k q).1.count=IntKind.u64.wrap (q.1.count+(c:Int))
 |0,q,E,h,hE=>⟨rfl,hE,h,0,aN _,.zero E,by have:=h.wf.count;show q.1.count=IntKind.u64.wrap (q.1.count+0);rw[aU];omega⟩
 |k+1,q,E,h,hE=>by
  cases hc:eT m f q.1 with
  |false=>
   rw[qX (q:=(q,E)) hc,kB hc];exact⟨rfl,hE,h,0,au _,.zero E,by have:=h.wf.count;show q.1.count=IntKind.u64.wrap (q.1.count+0);rw[aU];omega⟩
  |true=>
   rw[wa (q:=(q,E)) hc,qo hc];obtain⟨d1,d2,c,d3,d4,d5⟩:=Jb hn h hE;have hg:=xx h;dsimp only;obtain⟨⟨q1,E1⟩,hz⟩:=Zgn (doE n q.1 q.2.1 q.2.2 E);rw[hz]at d1 d2 d4⊢;dsimp only at d1 d2 d4;rw[←d1]at d5 hg⊢;obtain⟨r1,r2,r3,c',r4,r5,r6⟩:=v8 hn (m:=m) (f:=f) k hg d2;refine⟨r1,r2,r3,c+c',by omega,d4.trans r5,?_⟩;rw[r6,d5,mC,show(c:Int)+(c':Int)=((c+c':Nat):Int) by omega]
theorem Dq{n:Nat}(hn:n≤1000000)(m:Int){s:St}{U:Mmu}{d:Dev}{E:Eng}(h:GOk n s U d)(hE:ij E):
  (Gs n m s U d E).1=ib n m s U d∧ij (Gs n m s U d E).2∧GOk n (ib n m s U d).1 (ib n m s U d).2.1 (ib n m s U d).2.2∧
  ∃c:Nat,c≤8*m.toNat∧AJ E (Gs n m s U d E).2 c∧(ib n m s U d).1.count=IntKind.u64.wrap (s.count+(c:Int)):=v8 hn m.toNat (q:=(s,U,d)) h hE
end Go.Ink
