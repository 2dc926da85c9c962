/- Lemmas. -/
import Derived.Test.YtbkgmdgackknfaaGreatDoorPan
set_option linter.unusedSimpArgs false
set_option linter.unusedVariables false
set_option maxRecDepth 100000
set_option maxHeartbeats 4000000
namespace Go.Ink
open Go.RowKit Go.Proofs.Tryz
def r64(l:List Int):Prop:=∀x,x∈l->0<=x/\x<=18446744073709551615
theorem zx{l:List Int}(h:r64 l)(n:Nat):0<=l.getD n 0/\l.getD n 0<=18446744073709551615:=by
 rw[List.getD_eq_getElem?_getD];by_cases hn:n<l.length
 .rw[aa hn];exact h _ (List.getElem_mem hn)
 grind
structure HM.ok(m:HM):Prop where
 rl:m.So.length=16
 wl:m.words.length=256
 r:r64 m.So
 w:wds m.words
 pc:0<=m.pc
theorem D1{l:List Int}{n:Nat}{v x:Int}(h:x∈l.set n v):x∈l\/x=v:=by grind
theorem Hb{op a b:Int}(ha:0<=a/\a<=18446744073709551615)(hb:0<=b/\b<=18446744073709551615):0<=kC op a b/\kC op a b<=18446744073709551615:=by
 have hw:∀z:Int,0<=IntKind.u64.wrap z/\IntKind.u64.wrap z<=18446744073709551615:=λz=>by rw[aK];omega
 have ht:∀c:Bool,0<=b2i c/\b2i c<=18446744073709551615:=λc=>by cases c<;>decide
 obtain⟨x,rfl⟩:∃x:Nat,a=x:=ap ha.1;obtain⟨y,rfl⟩:∃y:Nat,b=y:=ap hb.1;have hx:x<18446744073709551616:=by omega
 have hy:y<18446744073709551616:=by omega
 have h1:x&&&y<=x:=Nat.and_le_left;have h2:x|||y<2^64:=Nat.or_lt_two_pow hx hy
 have h3:x^^^y<2^64:=Nat.xor_lt_two_pow hx hy;have bp:∀{c:Bool} {u v:Int},(0<=u/\u<=18446744073709551615)->(0<=v/\v<=18446744073709551615)->0<=(bif c then u else v)/\(bif c then u else v)<=18446744073709551615:=λ{c u v} h k=>by grind
 have hsh:0<=(x:Int).fdiv (2^(min ((y:Int)).toNat IntKind.u64.bits))/\(x:Int).fdiv (2^(min ((y:Int)).toNat IntKind.u64.bits))<=18446744073709551615:=by
  rw[aM,Int.fdiv_eq_ediv_of_nonneg _ bR];have e:((x:Int)/2^(min y IntKind.u64.bits))=((x/2^(min y IntKind.u64.bits):Nat):Int):=by simp
  have h4:x/2^(min y IntKind.u64.bits)<=x:=Nat.div_le_self _ _;rw[e];obtain⟨q,hq⟩:=Zgn (x/2^(min y IntKind.u64.bits));rw[hq]at h4|-;omega
 unfold kC;exact bp ha (bp (hw _) (bp (hw _) (bp (by grind [MM]) (bp (by grind [or64]) (bp (by grind [Gx]) (bp (hw _) (bp hsh (bp (hw _) (bp (bp ⟨by omega,by omega⟩ (hw _)) (bp (ht _) (ht _)))))))))))
theorem hdo_ok{i:HI}{m:HM}(hi:i.Sj)(h:m.ok):(hdo i m).2.ok:=by
 have hset:∀(n:Nat) (v:Int),(0<=v/\v<=18446744073709551615)->HM.ok ⟨m.So.set n v,m.words,m.pc+1⟩:=λn v hv=>
  ⟨by grind [h.rl],h.wl,λx hx=>by rcases D1 hx with q|q;exact h.r x q;omega,h.w,by grind [h.pc]⟩
 have hnx:HM.ok ⟨m.So,m.words,m.pc+1⟩:=⟨h.rl,h.wl,h.r,h.w,by grind [h.pc]⟩;obtain⟨i1,i2⟩:=hi.imm;unfold hdo;cases i.op==0 with
 |true=>exact hnx
 |false=>cases i.op==1 with
  |true=>grind
  |false=>cases i.op==14||i.op==15 with
   |true=>
    cases decide ((m.words.length:Int)<=qN m.So i)with
    |true=>exact h
    |false=>cases i.op==14 with
     |true=>grind [iH,h.w,qN]
     |false=>exact⟨h.rl,by grind [h.wl],h.r,λx hx=>by rcases D1 hx with q|q;exact h.w x q;rw[q];exact Jo _,by grind [h.pc]⟩
   |false=>cases i.op==16||i.op==17 with
    |true=>
     refine⟨h.rl,h.wl,h.r,h.w,?_⟩
     grind [h.pc]
    |false=>cases i.op==18 with
     |true=>exact⟨h.rl,h.wl,h.r,h.w,i1⟩
     |false=>grind [Hb,zx,h.r]
theorem FV{C:List HI}{m:HM}(hC:gb C)(h:m.ok):(R6 C m).2.ok:=by
 unfold R6;cases hd:decide (m.pc<0)||decide ((C.length:Int)<=m.pc)with
 |true=>exact h
 |false=>
  simp only[Bool.or_eq_false_iff,ac]at hd;have hlt:m.pc.toNat<C.length:=by omega
  refine hdo_ok (hC _ ?_) h
  grind
abbrev jc(R:List Int)(bw:Nat)(Ac:Option Addr)(n cc:Nat)(pc:Int):List Value:=ints .u64 R++[.slice (sA bw) 256 256,.slice Ac n cc,.i pc]
section
variable {R:List Int} {bw n cc:Nat} {Ac:Option Addr} {pc:Int}
theorem Rl(h:R.length=16):(jc R bw Ac n cc pc).length=19:=by simp[ints,h]
theorem hm_at(h:R.length=16)(k:Nat):(jc R bw Ac n cc pc)[16+k]? =[Value.slice (sA bw) 256 256,.slice Ac n cc,.i pc][k]? :=by
 grind [ints,de]
theorem Pv(h:R.length=16):(jc R bw Ac n cc pc)[16]? =some (.slice (sA bw) 256 256):=hm_at h 0
theorem hm_c(h:R.length=16):(jc R bw Ac n cc pc)[17]? =some (.slice Ac n cc):=hm_at h 1
theorem hm_p(h:R.length=16):(jc R bw Ac n cc pc)[18]? =some (.i pc):=hm_at h 2
theorem hm_r(h:R.length=16){k:Nat}(hk:k<16):(jc R bw Ac n cc pc)[k]? =some (.int .u64 (R.getD k 0)):=by
 grind [ints,mm]
theorem hm_setr(h:R.length=16){k:Nat}(hk:k<16)(v:Int):(jc R bw Ac n cc pc).set k (.int .u64 v)=jc (R.set k v) bw Ac n cc pc:=by
 simp_all [ints]
theorem LA(h:R.length=16)(p:Int):(jc R bw Ac n cc pc).set 18 (.i p)=jc R bw Ac n cc p:=by
 simp_all [ints,de]
theorem hm_setc(h:R.length=16)(A:Option Addr)(m c:Nat):(jc R bw Ac n cc pc).set 17 (.slice A m c)=jc R bw A m c pc:=by
 simp_all [ints,de]
end
section
attribute [local irreducible] OpY bH
theorem H9(A:Option Addr)(c:Nat)(i:HI)(hg:i.Sj)(w:World)(h:Rd w .u8 A 8 c (tD i)):
  Ctr prog 245 [.slice A 8 c] w [] (λv cs=>v= .tuple #[hiv i,.i 0]/\cs=[]):=by
 obtain⟨ad,rfl⟩:=h.some_ Wq7;have HR:=Ce i hg;obtain⟨o1,o2⟩:=hg.op;obtain⟨a1,a2⟩:=hg.rd;obtain⟨p1,p2⟩:=hg.ra;obtain⟨q1,q2⟩:=hg.rb;obtain⟨m1,m2⟩:=hg.imm;obtain⟨op,rd,ra,rb,im⟩:=i;dsimp only at o1 o2 a1 a2 p1 p2 q1 q2 m1 m2;obtain⟨m,rfl⟩:∃m:Nat,im=m:=ap m1;have hib:=Pn (show m<4294967296 by omega);have hbe:tD ⟨op,rd,ra,rb,(m:Int)⟩=[op,rd,ra,rb,((m%256:Nat):Int),((m/256%256:Nat):Int),((m/65536%256:Nat):Int),((m/16777216%256:Nat):Int)]:=rfl;rw[hbe]at h;refine Zfs func245 ntmps245 ?_;refine Z_2 ?_;refine ZN λb2=>?_;refine gK ?_;refine iU ?_;refine Z_3 ?_;refine bL ⟨λj=>List.elem j [40],[]⟩ Zk (ZE 0 ?_);refine Zy4 1 rfl (bS (j:=0) rfl Zrf (Zv rfl) (Zv rfl) Wq2 Wq2) ?_;refine Zy5 2 rfl (bF Zrf Zv0) (dL h (cq (j:=0) rfl)) ?_;refine Zy4 3 rfl (cQ rfl rfl Zv0 Zl) ?_;refine ZE 4 ?_;refine Zy4 5 rfl (bS (j:=1) rfl Zrf (Zv rfl) (Zv rfl) Wq2 Wq2) ?_;refine Zy5 6 rfl (bF Zrf Zv0) (dL h (cq (j:=1) rfl)) ?_;refine Zy4 7 rfl (cQ rfl rfl Zv0 Zl) ?_;refine ZE 8 ?_;refine Zy4 9 rfl (bS (j:=2) rfl Zrf (Zv rfl) (Zv rfl) Wq2 Wq2) ?_;refine Zy5 10 rfl (bF Zrf Zv0) (dL h (cq (j:=2) rfl)) ?_;refine Zy4 11 rfl (cQ rfl rfl Zv0 Zl) ?_;refine ZE 12 ?_;refine Zy4 13 rfl (bS (j:=3) rfl Zrf (Zv rfl) (Zv rfl) Wq2 Wq2) ?_;refine Zy5 14 rfl (bF Zrf Zv0) (dL h (cq (j:=3) rfl)) ?_;refine Zy4 15 rfl (cQ rfl rfl Zv0 Zl) ?_;refine ZE 16 ?_;refine Zy4 17 rfl (bS (j:=4) rfl Zrf (Zv rfl) (Zv rfl) Wq2 Wq2) ?_;refine Zy5 18 rfl (bF Zrf Zv0) (dL h (cq (j:=4) rfl)) ?_;refine Zy4 19 rfl (cQ rfl rfl (Zv rfl) Nl) ?_;refine ZE 20 ?_;refine Zy4 21 rfl (bS (j:=5) rfl Zrf (Zv rfl) (Zv rfl) Wq2 Wq2) ?_;refine Zy5 22 rfl (bF Zrf Zv0) (dL h (cq (j:=5) rfl)) ?_;refine Zy4 23 rfl (cQ rfl rfl (Zv rfl) Nl) ?_;refine Zy4 24 rfl (yI (Zv rfl) (Zv rfl) Wq1 rfl) ?_;refine ZE 25 ?_;refine ZE 26 ?_;refine Zy4 27 rfl (bS (j:=6) rfl Zrf (Zv rfl) (Zv rfl) Wq2 Wq2) ?_;refine Zy5 28 rfl (bF Zrf Zv0) (dL h (cq (j:=6) rfl)) ?_;refine Zy4 29 rfl (cQ rfl rfl (Zv rfl) Nl) ?_;refine Zy4 30 rfl (yI (Zv rfl) (Zv rfl) Wq1 rfl) ?_;refine ZE 31 ?_;refine ZE 32 ?_;refine Zy4 33 rfl (bS (j:=7) rfl Zrf (Zv rfl) (Zv rfl) Wq2 Wq2) ?_;refine Zy5 34 rfl (bF Zrf Zv0) (dL h (cq (j:=7) rfl)) ?_;refine Zy4 35 rfl (cQ rfl rfl (Zv rfl) Nl) ?_;refine Zy4 36 rfl (yI (Zv rfl) (Zv rfl) Wq1 rfl) ?_;refine Zy4 37 rfl (Gv Zv0 Zv0 hib) ?_;refine ZE 38 ?_;refine cn 39 Zk ?_;refine ZP λb4=>?_
 refine cn 40 Zk (ZR ?_);refine eQ ?_;refine Z_5 ?_;refine ZSe (λw hi=>HR w) ?_;refine ji ?_;refine Z_5 ?_;refine iD ?_;refine CW ?_;exact fy
theorem hb_take(i:HI)(l:List HI):(cE (i::l)).take 8=tD i:=by
 simp[tD,cE]
theorem hb_drop(i:HI)(l:List HI):(cE (i::l)).drop 8=cE l:=by
 simp[tD,cE]
theorem hall_ok(A:Option Addr)(c:Nat)(l:List HI)(hg:gb l)(hl:l.length<=100000)(w:World)(h:Rd w .u8 A (cE l).length c (cE l)):
  Ctr prog 194 [.slice A (cE l).length c] w [] (λv cs=>∃A' c',v= .tuple #[.slice A' l.length c',.i 0]/\cs=[hiC A' c' l]):=by
 refine Zfs func194 ntmps194 ?_;refine Z_8 ?_;refine cT 309 5 (Z_5 ?_);refine bN (λq:Nat×(Option Addr×Nat)×(Option Addr×Nat)=>[(0,.slice q.2.1.1 (cE (l.drop q.1)).length q.2.1.2),(4,.slice q.2.2.1 (l.take q.1).length q.2.2.2)]) (λq=>[hiC q.2.2.1 q.2.2.2 (l.take q.1)]) (λq=>q.1<=l.length/\Rd w .u8 q.2.1.1 (cE (l.drop q.1)).length q.2.1.2 (cE (l.drop q.1))) (λq=>l.length - q.1) (⟨0,⟨A,c⟩,⟨none,0⟩⟩) ?_ ?_ ?_ ?_
 .grind
 .exact Zwk
 .exact Zu
 rintro⟨k,⟨A1,c1⟩,⟨A2,c2⟩⟩ ⟨hk,h1⟩;dsimp only at hk h1|-;have hcap:=h1.cap;have hmx:=h1.max;simp only[maxLen]at hmx;have hlk:(l.take k).length=k:=bR;refine Zw8 ?_ ?_<;>intro hc2
 .simp only[ae]at hc2;have hkl:k<l.length:=(by rw[jd,List.length_drop]at hc2;omega);obtain⟨i,hx⟩:∃i,l[k]? =some i:=⟨_,aa hkl⟩;have hgi:=hg i (ak hx);have htk:l.take (k+1)=l.take k++[i]:=(by rw[List.take_add_one,hx];rfl);have hdr:l.drop k=i::l.drop (k+1):=(by obtain⟨q1,q2⟩:=aj.1 hx;rw[<-q2];exact List.drop_eq_getElem_cons q1);have hn8:(cE (l.drop k)).length=8+(cE (l.drop (k+1))).length:=(by rw[hdr];show(tD i++_).length=_;rw[aq];rfl);have h2:=kp h1 8;rw[hdr,hb_take]at h2;have HD:=H9 A1 c1 i hgi;have h3:=h1.cut (lo:=8) (hi:=(cE (l.drop k)).length) Wq1 (aL _);have e3:((ints .u8 (cE (l.drop k))).take (cE (l.drop k)).length).drop 8=ints .u8 (cE (l.drop (k+1))):=(by rw[List.take_of_length_le (by simp[ints]),hdr];show((cE (i::l.drop (k+1))).map _).drop 8=_;rw[<-List.map_drop,hb_drop];rfl);rw[e3,show(cE (l.drop k)).length - 8=(cE (l.drop (k+1))).length by omega]at h3;have htl:(l.take (k+1)).length=k+1:=bR;obtain⟨N,hN⟩:=Zgn ((cE (l.drop k)).length);rw[hN]at hn8 h1 hcap|-;refine Z_8 ?_;refine Zy (Ns (Zv rfl) (Zv rfl) (show _=((8:Nat):Int)from by omega)) ?_;refine Zy (fH 8 rfl Zrf (Zv rfl) (Zv rfl) AH Wq2) ?_;refine ZSe (λw hi=>HD w (h2.RU hi)) ?_;refine Z_3 ?_;refine ZN λb5=>?_
  refine ZM ?_;refine fB ?_;refine iU ?_;refine Z_6 ?_;refine jj ?_;rintro _ _ ⟨b24,rfl,rfl⟩;refine fW (cj (e:=309) (sz:=5) (bytes:=40) rfl rfl Za rfl rfl (λw hi=>hi.rd (show Has _ (slv 309 5 (sA b24) 1 1 i.cells)from Zh)) (mO rfl) gq Wq1) rfl ?_;rintro _ _ ⟨A3,c3,rfl,rfl⟩;rw[hi_snoc,<-htk,show(l.take k).length+1=(l.take (k+1)).length by omega];refine Z_5 ?_;refine Zy (yH (lo:=8) (hi:=N) rfl Zrf (Zv rfl) (.inr ⟨_,_,rfl,(Zv rfl)⟩) (.inl ⟨rfl,rfl⟩) Wq1 Wq1) ?_;rw[show N - 8=(cE (l.drop (k+1))).length from by omega];refine Z_3 ?_;refine dM ((⟨k+1,⟨if c1=8 then A1 else A1.map (·.add (8*1)),c1 - 8⟩,⟨A3,c3⟩⟩:Nat×(Option Addr×Nat)×(Option Addr×Nat))) ?_ ?_ ?_
  .grind
  .exact Zwk
  exact Zu
 simp only[ac]at hc2;obtain rfl:k=l.length:=(by rw[jd,List.length_drop]at hc2;omega);rw[bl];refine kM ?_;exact xH (cs':=[slv _ _ _ _ _ _]) (.inl rfl) Zu rfl rfl rfl pN
theorem Cc(b:Bool)(w:World):Ctr prog 274 [.bool b] w [] (λv cs=>v= .int .u64 (b2i b)/\cs=[]):=by
 refine Zfs func274 ntmps274 ?_;refine gK ?_;refine ZW ?_ ?_<;>intro hc1
 .subst hc1;refine Z_7 ?_;exact pM
 subst hc1;refine gf ?_;exact fy
theorem H8(op a b:Int)(ha:0<=a/\a<=18446744073709551615)(hb:0<=b/\b<=18446744073709551615)(w:World):Ctr prog 246 [.i op,.int .u64 a,.int .u64 b] w [] (λv cs=>v= .int .u64 (kC op a b)/\cs=[]):=by
 refine Zfs func246 ntmps246 ?_;refine AO ?_;refine ZW ?_ ?_<;>intro hc2
 .refine ls ?_;refine⟨?_,rfl⟩;exact sC
 refine Zw6 ?_ ?_<;>intro hc4
 .refine Z_4 ?_;refine pP ?_;refine Z_6 ?_;refine Zra ?_;refine⟨?_,rfl⟩;exact sC
 refine Zw6 ?_ ?_<;>intro hc6
 .refine Z_4 ?_;refine Zy (gr Zv0 Zv0 rfl) ?_;refine Z_6 ?_;refine Zra ?_;refine⟨?_,rfl⟩;exact sC
 refine Zw6 ?_ ?_<;>intro hc8
 .refine rf ?_;refine⟨?_,rfl⟩;exact sC
 refine Zw6 ?_ ?_<;>intro hc10
 .refine rf ?_;refine⟨?_,rfl⟩;exact sC
 refine Zw6 ?_ ?_<;>intro hc12
 .refine rf ?_;refine⟨?_,rfl⟩;exact sC
 refine Zw6 ?_ ?_<;>intro hc14
 .refine Z_4 ?_;refine Zy (yI (Zv rfl) (Zv rfl) Wq1 rfl) ?_;refine Z_6 ?_;refine Zra ?_;refine⟨?_,rfl⟩;exact sC
 refine Zw6 ?_ ?_<;>intro hc16
 .refine Z_4 ?_;refine Zy (lW (Zv rfl) (Zv rfl) Wq1 rfl) ?_;refine Z_6 ?_;refine Zra ?_;refine⟨?_,rfl⟩;exact sC
 refine Zw6 ?_ ?_<;>intro hc18
 .refine Z_4 ?_;refine Zy (jR Zv0 Zv0 rfl) ?_;refine Z_6 ?_;refine Zra ?_;refine⟨?_,rfl⟩;exact sC
 refine Zw6 ?_ ?_<;>intro hc20
 .refine Zw7 ?_ ?_<;>intro hc21
  .refine ls ?_;refine⟨?_,rfl⟩;exact sC
  have hb0:b≠0:=ne_of_beq_false hc21;refine Z_6 ?_;refine Zy (k8 (Zv rfl) (Zv rfl) Wq1 rfl) ?_;refine Z_6 ?_;refine Zra ?_;refine⟨?_,rfl⟩;exact sC
 refine Zw6 ?_ ?_<;>intro hc24
 .refine Z_5 ?_;refine ZSe (λw hi=>Cc _ w) ?_;refine Z_6 ?_;refine Zra ?_;refine⟨?_,rfl⟩;exact sC
 refine Z_8 ?_;refine ZSe (λw hi=>Cc _ w) ?_;refine Z_4 ?_;refine Zra ?_;refine⟨?_,rfl⟩;exact sC
abbrev fC(bm bw:Nat)(Ac:Option Addr)(n cc:Nat)(R:List Int)(pc:Int):bC:=row bm (jc R bw Ac n cc pc) 314
abbrev hwC(bw:Nat)(W:List Int):bC:=sl .u32 39 (sA bw) 256 256 W
abbrev hmF(bm bw:Nat)(Ac:Option Addr)(cc:Nat)(C:List HI)(m:HM):List bC:=[fC bm bw Ac C.length cc m.So m.pc,hwC bw m.words,hiC Ac cc C]
theorem hnew_ok(w:World):Ctr prog 160 [.i 256] w [] (λv cs=>∃bm bw,v= .tuple #[.p bm,.i 0]/\cs=[fC bm bw none 0 0 (List.replicate 16 0) 0,hwC bw (List.replicate 256 0)]):=by
 refine Zfs func160 ntmps160 ?_;refine AG ?_;refine rh ?_;refine fW (lC (bytes:=4) (n:=256) rfl rfl rfl rfl rfl rfl rfl Wq1 gq) rfl ?_;rintro _ _ ⟨b11,rfl,rfl⟩;refine ZA ?_;refine ZO λb13=>?_
 rw[rG];refine dN [fC b13 b11 none 0 0 (List.replicate 16 0) 0,hwC b11 (List.replicate 256 0)] Zj (Z_5 ?_);exact xH (cs':=[row _ _ _,slv _ _ _ _ _ _]) (.inl rfl) Zu rfl rfl rfl pN
section
variable (bm bw:Nat) (Ac:Option Addr) (n cc:Nat) (R W:List Int) (pc:Int)
theorem Cb(hR:R.length=16)(w:World)(h:(fC bm bw Ac n cc R pc).ok w):Ctr prog 191 [.p bm] w [] (λv cs=>v= .i 256/\cs=[]):=by
 refine Zfs func191 ntmps191 ?_;refine fB ?_;refine dK (bF Zrf Zv0) (dc h (Pv hR)) rfl (Z_5 ?_);exact pM
theorem FU(hR:R.length=16)(hW:W.length=256)(k:Nat)(hk:k<256)(w:World)(h:(fC bm bw Ac n cc R pc).ok w)(h2:(hwC bw W).ok w):Ctr prog 196 [.p bm,.i k] w [] (λv cs=>v= .w (W.getD k 0)/\cs=[]):=by
 have hx:W[k]? =some (W.getD k 0):=by rw[List.getD_eq_getElem?_getD,aa Wq1];rfl
 refine Zfs func196 ntmps196 ?_;refine sx ?_;refine fN (bE rfl rfl) (bF Zrf (bU rfl)) (dc h (Pv hR)) rfl (Z_5 ?_);refine cJ rfl (bR) (Z_7 ?_);refine dK (bF Zrf Zv0) (dc h (Pv hR)) rfl (ZA ?_);refine CS ?_;exact dK (bF Zrf Zv0) (dL (dp h2) (cq hx)) rfl mF
theorem sc(hR:R.length=16)(hW:W.length=256)(k:Nat)(hk:k<256)(v:Int)(w:World)(hi:Inv w (bD [fC bm bw Ac n cc R pc,hwC bw W]) [fC bm bw Ac n cc R pc,hwC bw W] w):
  Ctr prog 192 [.p bm,.i k,.w v] w [fC bm bw Ac n cc R pc,hwC bw W] (λx cs=>x= .bool true/\cs=[fC bm bw Ac n cc R pc,hwC bw (W.set k v)]):=by
 refine Zfn func192 ntmps192 hi ?_;refine sx ?_;refine fN (bE rfl rfl) (bF Zrf (bU rfl)) (cN Zh (Pv hR)) rfl (Z_5 ?_);refine cJ rfl (bR) (Z_7 ?_);refine dK (bF Zrf Zv0) (cN Zh (Pv hR)) rfl (Z_2 ?_);refine Wq79 ?_;rintro _ _ ⟨rfl,rfl⟩;rw[fR];refine Z_8 ?_;refine Zrb ([row _ _ _,slv _ _ _ _ _ _]) ?_;exact fy
theorem LB(hR:R.length=16)(hW:W.length=256)(f:Nat)(hf:f<=100)(A:Option Addr)(c:Nat)(l:List Int)(hl:l.length<=16)(w:World)(hi:Inv w (bD [fC bm bw Ac n cc R pc,hwC bw W]) [fC bm bw Ac n cc R pc,hwC bw W] w)
  (h:∀w',cY (bD [fC bm bw Ac n cc R pc,hwC bw W]) w w'->Rd w' .u32 A l.length c l):
  Ctr prog 193 [.p bm,.i f,.slice A l.length c] w [fC bm bw Ac n cc R pc,hwC bw W] (λx cs=>cs=[fC bm bw Ac n cc R pc,hwC bw (jW W f l 16)]):=by
 have h0:=h w (cY.refl _ _);refine Zfn func193 ntmps193 hi ?_;refine Z_6 ?_;refine bN (λk:Nat=>[(0,.p bm),(1,.i f),(2,.slice A l.length c),(8,.i (k:Int))]) (λk=>[fC bm bw Ac n cc R pc,hwC bw (jW W f l k)]) (λk=>k<=16) (λk=>16 - k) (0) ?_ ?_ ?_ ?_
 .omega
 .exact Zwk
 .exact Zu
 rintro k hk;have hlk:(jW W f l k).length=256:=(by rw[lI,hW]);refine Zw6 ?_ ?_<;>intro hc1
 .simp only[ae]at hc1;refine sx ?_;refine cD (λ_:Unit=>[(0,.p bm),(1,.i f),(2,.slice A l.length c),(6,.i (k:Int)),(7,.w (l.getD k 0)),(8,.i (k:Int))]) (λ_=>[fC bm bw Ac n cc R pc,hwC bw (jW W f l k)]) (λ_=>True) ?_ ?_
  .refine Zw8 ?_ ?_<;>intro hc4
   .simp only[ae]at hc4;obtain⟨ad,rfl⟩:=h0.some_ Wq1;have hx:l[k]? =some (l.getD k 0):=bR;refine Z_3 ?_;refine CS ?_;refine dK (bF Zrf Zv0) (oh h (cq hx)) rfl (Z_2 ?_);refine dM (()) ?_ ?_ ?_
    .trivial
    .exact Zwk
    exact Zu
   simp only[ac]at hc4;have e0:l.getD k 0=0:=bR;rw[e0];refine Zc (dM (()) ?_ ?_ ?_)
   .trivial
   .exact Zwk
   exact Zu
  rintro - -;refine Z_4 ?_;refine Zy (ef (Zv rfl) (Zv rfl) (show _=((f+k:Nat):Int)from by rw[IntWalk.i64_in _ ⟨by omega,by omega⟩];omega)) ?_;refine ZA ?_;refine ZcM ([fC bm bw Ac n cc R pc,hwC bw (jW W f l k)]) (λw hi hin=>sc bm bw Ac n cc R (jW W f l k) pc hR hlk (f+k) Wq1 (l.getD k 0) w hin) ?_;refine gh ?_;refine dM (k+1) ?_ ?_ ?_
  .omega
  .exact Zwk
  exact Zu
 simp only[ac]at hc1;obtain rfl:k=16:=by omega
 refine Z_4 ?_;exact iY (cs':=[row _ _ _,slv _ _ _ _ _ _]) (.inr rfl) Zu rfl rfl
end
theorem hput_ok(bm bw:Nat)(s:St)(hs:s.right=true)(hw:s.wf)(Ad Ar:Option Addr)(cd cr:Nat)(w:World)(hi:Inv w (bD [fC bm bw none 0 0 (List.replicate 16 0) 0,hwC bw (List.replicate 256 0)]) [fC bm bw none 0 0 (List.replicate 16 0) 0,hwC bw (List.replicate 256 0)] w)
  (h:∀w',cY (bD [fC bm bw none 0 0 (List.replicate 16 0) 0,hwC bw (List.replicate 256 0)]) w w'->pY w' s Ad Ar cd cr):
  Ctr prog 161 [.p bm,sv s Ad cd Ar cr] w [fC bm bw none 0 0 (List.replicate 16 0) 0,hwC bw (List.replicate 256 0)] (λx cs=>x= .bool true/\cs=[fC bm bw none 0 0 (List.replicate 16 0) 0,hwC bw (Sz s)]):=by
 have hR:(List.replicate 16 (0:Int)).length=16:=aE;obtain⟨R,hRe⟩:=Zgn (List.replicate 16 (0:Int));have hpw:Sz s=(jW (jW (((((List.replicate 256 (0:Int)).set 0 s.pc).set 1 s.flags).set 2 (s.d.length:Int)).set 3 (s.r.length:Int)) 4 s.d 16) 20 s.r 16).set 36 0:=rfl;have hW0:(List.replicate 256 (0:Int)).length=256:=aE;obtain⟨W0,hWe⟩:=Zgn (List.replicate 256 (0:Int));rw[hWe]at hW0 hpw hi h|-;rw[hRe]at hR hi h|-;rw[hpw];obtain⟨hd16,hr16, -⟩:=St.fits hs;have HR:=oe s;rw[hs]at HR;have hW1:(W0.set 0 s.pc).length=256:=by rw[List.length_set,hW0]
 have hW2:((W0.set 0 s.pc).set 1 s.flags).length=256:=by rw[List.length_set,hW1]
 have hW3:(((W0.set 0 s.pc).set 1 s.flags).set 2 (s.d.length:Int)).length=256:=by rw[List.length_set,hW2]
 have hW4:((((W0.set 0 s.pc).set 1 s.flags).set 2 (s.d.length:Int)).set 3 (s.r.length:Int)).length=256:=by rw[List.length_set,hW3]
 have HL1:=LB bm bw none 0 0 R _ 0 hR hW4 4 Wq7 Ad cd s.d hd16;obtain⟨W4,hW4e⟩:=Zgn ((((W0.set 0 s.pc).set 1 s.flags).set 2 (s.d.length:Int)).set 3 (s.r.length:Int));rw[hW4e]at hW4 HL1|-;have hW5:(jW W4 4 s.d 16).length=256:=by rw[lI,hW4]
 have HL2:=LB bm bw none 0 0 R _ 0 hR hW5 20 Wq7 Ar cr s.r hr16;have hW6:(jW (jW W4 4 s.d 16) 20 s.r 16).length=256:=by rw[lI,hW5]
 refine Zfn func161 ntmps161 hi ?_;refine Z_2 ?_;refine ZO λb3=>?_;refine fB ?_;refine gU (bE rfl rfl) rfl (dW rfl (λ_ _=>rfl) (λw hi=>Cb bm bw none 0 0 R 0 hR w (hi.get Zh))) rfl ?_;rintro _ _ ⟨_,⟨rfl,rfl⟩,rfl⟩;refine Z_3 ?_;refine fJ (bE rfl rfl) Zh Zrf Zrf (Zv rfl) rfl (gU (bE rfl rfl) rfl (dW rfl (λ_ _=>rfl) (λw hi=>HR Ad Ar cd cr w)) rfl ?_);rintro _ _ ⟨_,⟨rfl,rfl⟩,rfl⟩;refine Z_4 ?_;refine iU ?_;refine Z_7 ?_;refine ZcM ([fC bm bw none 0 0 R 0,hwC bw W0]) (λw hi hin=>sc bm bw none 0 0 R W0 0 hR hW0 0 Wq7 s.pc w hin) ?_;refine Z_7 ?_;refine ZcM ([fC bm bw none 0 0 R 0,hwC bw (W0.set 0 s.pc)]) (λw hi hin=>sc bm bw none 0 0 R _ 0 hR hW1 1 Wq7 s.flags w hin) ?_;refine Z_8 ?_;refine Zy (cQ rfl rfl (Zv rfl) Nl) ?_;refine ZcM ([fC bm bw none 0 0 R 0,hwC bw ((W0.set 0 s.pc).set 1 s.flags)]) (λw hi hin=>sc bm bw none 0 0 R _ 0 hR hW2 2 Wq7 (s.d.length:Int) w hin) ?_;refine Z_8 ?_;refine Zy (cQ rfl rfl (Zv rfl) Nl) ?_;refine ZcM ([fC bm bw none 0 0 R 0,hwC bw (((W0.set 0 s.pc).set 1 s.flags).set 2 (s.d.length:Int))]) (λw hi hin=>sc bm bw none 0 0 R _ 0 hR hW3 3 Wq7 (s.r.length:Int) w hin) ?_;rw[hW4e];refine Z_7 ?_;refine ZcL ([fC bm bw none 0 0 R 0,hwC bw W4]) (λw hi hin=>HL1 w hin (λw' hk=>(h w' (hi.Ta (λc hc=>by simp only[aG,aS,or_false]at hc;rcases hc with rfl|rfl;exact Has.mem (show Has _ _ from Zh);exact Has.mem (show Has _ _ from Zh)) hk)).d)) ?_;rintro _ _ ⟨_,rfl,rfl⟩;refine Z_7 ?_;refine ZcL ([fC bm bw none 0 0 R 0,hwC bw (jW W4 4 s.d 16)]) (λw hi hin=>HL2 w hin (λw' hk=>(h w' (hi.Ta (λc hc=>by simp only[aG,aS,or_false]at hc;rcases hc with rfl|rfl;exact Has.mem (show Has _ _ from Zh);exact Has.mem (show Has _ _ from Zh)) hk)).r)) ?_;rintro _ _ ⟨_,rfl,rfl⟩;refine Z_5 ?_;refine ZcM ([fC bm bw none 0 0 R 0,hwC bw (jW (jW W4 4 s.d 16) 20 s.r 16)]) (λw hi hin=>sc bm bw none 0 0 R _ 0 hR hW6 36 Wq7 0 w hin) ?_;refine Z_8 ?_;refine Zrb ([row _ _ _,slv _ _ _ _ _ _]) ?_;exact fy
theorem Pw(bm bw:Nat)(R W:List Int)(hR:R.length=16)(A:Option Addr)(c:Nat)(C:List HI)(hg:gb C)(hl:C.length<=100000)(w:World)(hi:Inv w (bD [fC bm bw none 0 0 R 0,hwC bw W]) [fC bm bw none 0 0 R 0,hwC bw W] w)
  (h:∀w',cY (bD [fC bm bw none 0 0 R 0,hwC bw W]) w w'->Rd w' .u8 A (cE C).length c (cE C)):
  Ctr prog 162 [.p bm,.slice A (cE C).length c] w [fC bm bw none 0 0 R 0,hwC bw W] (λx cs=>∃Ac cc,x= .i 0/\cs=hmF bm bw Ac cc C ⟨R,W,0⟩):=by
 refine Zfn func162 ntmps162 hi ?_;refine Z_8 ?_;refine ZSn (λw hi=>hall_ok A c C hg hl w (h w hi.Sf)) ?_;rintro _ _ ⟨Ac,cc,rfl,rfl⟩;refine iT ?_;refine iU ?_;refine Z_9 ?_;refine eE (iL Zrf rfl rfl rfl Za (by rw[Rl hR];omega)) ?_;rintro _ _ ⟨rfl,rfl⟩;rw[hm_setc hR];refine Z_2 ?_;refine eE (iL Zrf rfl rfl rfl Za (by rw[Rl hR];omega)) ?_;rintro _ _ ⟨rfl,rfl⟩;rw[LA hR];refine Z_8 ?_;refine CV ?_;exact⟨Ac,cc,rfl,rfl⟩
theorem Lz(bm bw:Nat)(Ac:Option Addr)(cc:Nat)(C:List HI)(hC:gb C)(m:HM)(hm:m.ok)(w:World)(hi:Inv w (bD (hmF bm bw Ac cc C m)) (hmF bm bw Ac cc C m) w):
  Ctr prog 195 [.p bm] w (hmF bm bw Ac cc C m) (λx cs=>x= .i (R6 C m).1/\cs=hmF bm bw Ac cc C (R6 C m).2):=by
 have hR:=hm.rl;have hW:=hm.wl;have hr:=hm.r;have hwd:=hm.w;have hp0:=hm.pc;obtain⟨R,W,pc⟩:=m;dsimp only at hR hW hr hwd hp0;obtain⟨p,rfl⟩:∃p:Nat,pc=p:=ap hp0;have hi:Inv w (bD [fC bm bw Ac C.length cc R (p:Int),hwC bw W,hiC Ac cc C]) [fC bm bw Ac C.length cc R (p:Int),hwC bw W,hiC Ac cc C] w:=hi
 change Ctr _ _ _ w [fC bm bw Ac C.length cc R (p:Int),hwC bw W,hiC Ac cc C] _
 have hcap:=(dp (hi.get (show Has _ (hiC Ac cc C)from by repeat (first|exact .head _ _|apply Has.tail)))).cap;have hmx:=(dp (hi.get (show Has _ (hiC Ac cc C)from by repeat (first|exact .head _ _|apply Has.tail)))).max;have hsome:=λh=>(dp (hi.get (show Has _ (hiC Ac cc C)from by repeat (first|exact .head _ _|apply Has.tail)))).some_ h
 simp only[maxLen]at hmx;have hS:(R6 C ⟨R,W,(p:Int)⟩)=bif decide ((p:Int)<0)||decide ((C.length:Int)<=(p:Int))then(2,⟨R,W,(p:Int)⟩)else hdo (C.getD p HI.zero) ⟨R,W,(p:Int)⟩:=rfl
 obtain⟨⟨why,m9⟩,hq⟩:=Zgn (R6 C ⟨R,W,(p:Int)⟩);rw[hq]at hS|-;refine Zfn func195 ntmps195 hi ?_;refine Z_7 ?_;refine Dd ?_;refine ZFe 2 18 ?_;refine Zy5 3 rfl (bF Zrf Zv0) (cN Zh (hm_p hR)) ?_;refine ZE 4 ?_;refine ZE 5 ?_;refine ZF 6 ?_;refine ZF 7 ?_;refine ZFf 8 18 ?_;refine Zy7 9 rfl (bE rfl rfl) (bF Zrf (bU rfl)) (cN Zh (hm_p hR)) ?_;refine ZF 10 ?_;refine ZF 11 ?_;refine ZFf 12 17 ?_;refine Zy7 13 rfl (bE rfl rfl) (bF Zrf (bU rfl)) (cN Zh (hm_c hR)) ?_;refine ZF 14 ?_;refine ZF 15 ?_;refine ZE 16 ?_;refine eQ ?_;refine Zt (ZW ?_ ?_)<;>intro hc1
 .rw[hc1,ai]at hS;obtain⟨rfl,rfl⟩:=Prod.mk.inj hS;refine Z_7 ?_;refine CV ?_;exact fy
 rw[hc1,ah]at hS;have hpl:p<C.length:=bR;obtain⟨i,hx⟩:∃i,C[p]? =some i:=⟨_,aa hpl⟩;rw[show C.getD p HI.zero=i by grind]at hS;have hg:=hC i (ak hx);obtain⟨ad,rfl⟩:=hsome Wq1;obtain⟨rd1,rd2⟩:=hg.rd;obtain⟨ra1,ra2⟩:=hg.ra;obtain⟨rb1,rb2⟩:=hg.rb;obtain⟨im1,im2⟩:=hg.imm;obtain⟨op1,op2⟩:=hg.op;obtain⟨op,rd,ra,rb,im⟩:=i;dsimp only at rd1 rd2 ra1 ra2 rb1 rb2 im1 im2 op1 op2;obtain⟨rd,rfl⟩:∃k:Nat,rd=k:=ap rd1;obtain⟨ra,rfl⟩:∃k:Nat,ra=k:=ap ra1;obtain⟨rb,rfl⟩:∃k:Nat,rb=k:=ap rb1;have hd0:hdo ⟨op,(rd:Int),(ra:Int),(rb:Int),im⟩ ⟨R,W,(p:Int)⟩=(bif op==0 then(0,⟨R,W,(p:Int)+1⟩)else bif op==1 then(0,⟨R.set rd im,W,(p:Int)+1⟩)else bif op==14||op==15 then(bif decide ((W.length:Int)<=IntKind.u64.wrap (R.getD ra 0+im))then(4,⟨R,W,(p:Int)⟩)else bif op==14 then(0,⟨R.set rd (W.getD (IntKind.u64.wrap (R.getD ra 0+im)).toNat 0),W,(p:Int)+1⟩)else(0,⟨R,W.set (IntKind.u64.wrap (R.getD ra 0+im)).toNat (IntKind.u32.wrap (R.getD rb 0)),(p:Int)+1⟩))else bif op==16||op==17 then(0,⟨R,W,bif(R.getD ra 0==0)==(op==16)then im else(p:Int)+1⟩)else bif op==18 then(0,⟨R,W,im⟩)else bif op==19 then(1,⟨R,W,(p:Int)⟩)else(0,⟨R.set rd (kC op (R.getD ra 0) (R.getD rb 0)),W,(p:Int)+1⟩)):=rfl;rw[hd0,hW]at hS;have ea:=zx hr ra;have eb:=zx hr rb;obtain⟨a,hae⟩:=Zgn (R.getD ra 0);obtain⟨b,hbe⟩:=Zgn (R.getD rb 0);have hra:=hm_r (bw:=bw) (Ac:=some ad) (n:=C.length) (cc:=cc) (pc:=(p:Int)) hR (show ra<16 by omega);have hrb:=hm_r (bw:=bw) (Ac:=some ad) (n:=C.length) (cc:=cc) (pc:=(p:Int)) hR (show rb<16 by omega);rw[hae]at hS ea hra;rw[hbe]at hS eb hrb;have hpl2:IntKind.u64.wrap (a+im)=((IntKind.u64.wrap (a+im)).toNat:Nat):=(by rw[aK];omega);obtain⟨pl,hple⟩:∃k:Nat,(IntKind.u64.wrap (a+im)).toNat=k:=⟨_,rfl⟩;rw[hple]at hpl2;rw[hpl2,aM]at hS;refine Z_3 ?_;refine bL ⟨λj=>List.elem j [11],[]⟩ Zk (lU ?_);refine ZFe 2 17 ?_;refine Zy5 3 rfl (bF Zrf Zv0) (cN Zh (hm_c hR)) ?_;refine ZE 4 ?_;refine ZE 5 ?_;refine ZFe 6 18 ?_;refine Zy5 7 rfl (bF Zrf Zv0) (cN Zh (hm_p hR)) ?_;refine Zy4 8 rfl (bS (j:=p) rfl Zrf (Zv rfl) (Zv rfl) Wq2 Wq2) ?_;refine Zy5 9 rfl (bP (vs:=[.i op,.i rd,.i ra,.i rb,.w im]) Zrf Zrf Zv0) (lD Zh (λj v hj=>da (f:=HI.cells) Zrf (i:=j) hx hj)) ?_;refine cn 10 Zk ?_;refine ZP λb3=>?_
 refine cn 11 Zk (ZR ?_);refine lv ?_;refine Wq30 ?_;refine ZFe 1 2 ?_;refine ZG 2 ?_;refine ZE 3 ?_;refine ZFe 4 0 ?_;refine Zy4 5 rfl (dE (j:=ra) (sz:=1) (r:=ra) rfl Zrf (Zv rfl) (Zv rfl) Wq2 Wq2 Wq1) ?_;refine Zy5 6 rfl (bF Zrf Zv0) (cN Zh hra) ?_;refine ZE 7 ?_;refine ZFe 8 3 ?_;refine ZG 9 ?_;refine ZE 10 ?_;refine ZFe 11 0 ?_;refine Zy4 12 rfl (dE (j:=rb) (sz:=1) (r:=rb) rfl Zrf (Zv rfl) (Zv rfl) Wq2 Wq2 Wq1) ?_;refine Zy5 13 rfl (bF Zrf Zv0) (cN Zh hrb) ?_;refine ZE 14 ?_;refine ZE 15 ?_;refine eQ ?_;refine Z_6 ?_;refine tJ ?_;refine Zy (ef Zv0 Zv0 hpl2) ?_;refine Z_8 ?_;refine dK (bF Zrf Zv0) (cN Zh (hm_p hR)) rfl (ri ?_);refine AG ?_;refine ZW ?_ ?_<;>intro hc9
 .rw[hc9,ai]at hS;obtain⟨rfl,rfl⟩:=Prod.mk.inj hS;refine Z_9 ?_;exact Wq14
 rw[hc9,ah]at hS;refine Zw6 ?_ ?_<;>intro hc10
 .rw[hc10,ai]at hS;obtain⟨rfl,rfl⟩:=Prod.mk.inj hS;refine bL ⟨λj=>List.elem j [9],[]⟩ Zk (ZE 0 ?_);refine ZFe 1 1 ?_;refine ZG 2 ?_;refine ZFe 3 4 ?_;refine ZG 4 ?_;refine Zy4 5 rfl (cQ rfl rfl (Zv rfl) QB) ?_;refine ZE 6 ?_;refine ZFe 7 0 ?_;refine Zy4 8 rfl (dE (j:=rd) (sz:=1) (r:=rd) rfl Zrf (Zv rfl) (Zv rfl) Wq2 Wq2 Wq1) ?_;exact cn 9 Zk Wq103
 rw[hc10,ah]at hS;refine Zw7 ?_ ?_<;>intro hc12
 .rw[show(op==14||op==15)=true from by grind,ai]at hS;refine Z_2 ?_;refine bW rfl (hc12) (Z_7 ?_);refine dK (bF Zrf Zv0) (cN Zh (Pv hR)) rfl (ZA ?_);refine tJ ?_;refine Zw3 ?_ ?_<;>intro hc14
  .rw[hc14,ai]at hS;obtain⟨rfl,rfl⟩:=Prod.mk.inj hS;refine Wq38 ?_;exact fy
  rw[hc14,ah]at hS;have hp256:pl<256:=(by simp at hc14;omega);have hxw:W[pl]? =some (W.getD pl 0):=(by rw[List.getD_eq_getElem?_getD,aa Wq1];rfl);have hwb:=iH hwd pl;obtain⟨x,hxe⟩:=Zgn (W.getD pl 0);rw[hxe]at hxw hwb hS;refine Zw9 ?_ ?_<;>intro hc16
  .rw[hc16,ai]at hS;obtain⟨rfl,rfl⟩:=Prod.mk.inj hS;refine bL ⟨λj=>List.elem j [14],[]⟩ Zk (ZE 0 ?_);refine ZFe 1 1 ?_;refine ZG 2 ?_;refine ZE 3 ?_;refine ZE 4 ?_;refine ZFe 5 16 ?_;exact Wq306
  rw[hc16,ah]at hS;obtain⟨rfl,rfl⟩:=Prod.mk.inj hS;refine Z_4 ?_;refine Wq269 ?_;rintro _ _ ⟨rfl,rfl⟩;rw[fR];refine Z_9 ?_;exact Wq14
 refine Zw5 ?_ ?_<;>intro hc13
 .rw[show(op==14||op==15)=true from by grind,ai]at hS;refine Z_7 ?_;refine dK (bF Zrf Zv0) (cN Zh (Pv hR)) rfl (ZA ?_);refine tJ ?_;refine Zw3 ?_ ?_<;>intro hc14
  .rw[hc14,ai]at hS;obtain⟨rfl,rfl⟩:=Prod.mk.inj hS;refine Wq38 ?_;exact fy
  rw[hc14,ah]at hS;have hp256:pl<256:=(by simp at hc14;omega);have hxw:W[pl]? =some (W.getD pl 0):=(by rw[List.getD_eq_getElem?_getD,aa Wq1];rfl);have hwb:=iH hwd pl;obtain⟨x,hxe⟩:=Zgn (W.getD pl 0);rw[hxe]at hxw hwb hS;refine Zw9 ?_ ?_<;>intro hc16
  .rw[hc16,ai]at hS;obtain⟨rfl,rfl⟩:=Prod.mk.inj hS;refine bL ⟨λj=>List.elem j [14],[]⟩ Zk (ZE 0 ?_);refine ZFe 1 1 ?_;refine ZG 2 ?_;refine ZE 3 ?_;refine ZE 4 ?_;refine ZFe 5 16 ?_;exact Wq306
  rw[hc16,ah]at hS;obtain⟨rfl,rfl⟩:=Prod.mk.inj hS;refine Z_4 ?_;refine Wq269 ?_;rintro _ _ ⟨rfl,rfl⟩;rw[fR];refine Z_9 ?_;exact Wq14
 rw[show(op==14||op==15)=false from by grind,ah]at hS;refine Zw7 ?_ ?_<;>intro hc19
 .rw[show(op==16||op==17)=true from by grind,ai]at hS;refine Z_2 ?_;refine bW rfl (hc19) (pV ?_ ?_)<;>intro hc21
  .rw[hc21,ai]at hS;exact Wq332
  rw[hc21,ah]at hS;obtain⟨rfl,rfl⟩:=Prod.mk.inj hS;refine Z_9 ?_;exact Wq14
 refine Zw5 ?_ ?_<;>intro hc20
 .rw[show(op==16||op==17)=true from by grind,ai]at hS;refine pV ?_ ?_<;>intro hc21
  .rw[hc21,ai]at hS;exact Wq332
  rw[hc21,ah]at hS;obtain⟨rfl,rfl⟩:=Prod.mk.inj hS;refine Z_9 ?_;exact Wq14
 rw[show(op==16||op==17)=false from by grind,ah]at hS;refine Zw6 ?_ ?_<;>intro hc23
 .rw[hc23,ai]at hS;exact Wq332
 rw[hc23,ah]at hS;refine Zw6 ?_ ?_<;>intro hc25
 .rw[hc25,ai]at hS;obtain⟨rfl,rfl⟩:=Prod.mk.inj hS;refine Z_8 ?_;refine CV ?_;exact fy
 rw[hc25,ah]at hS;obtain⟨rfl,rfl⟩:=Prod.mk.inj hS;refine bL ⟨λj=>List.elem j [11],[]⟩ Zk (ZE 0 ?_);refine ZFe 1 1 ?_;refine ZG 2 ?_;refine ZFe 3 0 ?_;refine ZG 4 ?_;refine mE ?_;refine ZE 8 ?_;refine ZFe 9 0 ?_;refine cn 7 Zk (ZTn (λw hi=>H8 op a b ea eb w) ?_);rintro _ _ ⟨rfl,rfl⟩;refine Zy4 10 rfl (dE (j:=rd) (sz:=1) (r:=rd) rfl Zrf (Zv rfl) (Zv rfl) Wq2 Wq2 Wq1) ?_;exact cn 11 Zk Wq103
theorem hdo_one{i:HI}{m:HM}(h:(hdo i m).1=1):(hdo i m).2=m:=by
 grind [hdo,qN]
theorem H7{C:List HI}{m:HM}(h:(R6 C m).1=1):(R6 C m).2=m/\0<=m.pc/\m.pc<C.length:=by
 grind [R6,hdo_one]
def mY(W:List Int):Bool:= !((decide (16<W.getD 2 0)||decide (16<W.getD 3 0))||decide (15<W.getD 1 0))
def Fm(s:St)(r:(Int×Int)×HM):St×Int:=bif r.1.1 !=1 then(s,0)else bif mY r.2.words then(oM r.2.words s,r.1.2)else(s,0)
def io(C:List HI)(s:St):St×Int:=Fm s (jP C 4096 ⟨List.replicate 16 0,Sz s,0⟩)
theorem FW{C:List HI}(hC:gb C):∀(f:Nat) (m:HM),0<=(jP C f m).1.2/\(jP C f m).1.2<=4294967295
 |0,m=>z32
 |f+1,m=>by
  show 0<=(bif(R6 C m).1==0 then jP C f (R6 C m).2 else bif(R6 C m).1==1 then((1,(C.getD (R6 C m).2.pc.toNat HI.zero).imm),(R6 C m).2)else(((R6 C m).1,0),(R6 C m).2)).1.2/\(bif(R6 C m).1==0 then jP C f (R6 C m).2 else bif(R6 C m).1==1 then((1,(C.getD (R6 C m).2.pc.toNat HI.zero).imm),(R6 C m).2)else(((R6 C m).1,0),(R6 C m).2)).1.2<=_;cases(R6 C m).1==0 with
  |true=>exact FW hC f _
  |false=>cases(R6 C m).1==1 with
   |true=>
    show 0<=(C.getD (R6 C m).2.pc.toNat HI.zero).imm/\(C.getD (R6 C m).2.pc.toNat HI.zero).imm<=_;rw[List.getD_eq_getElem?_getD];by_cases hl:(R6 C m).2.pc.toNat<C.length
    .rw[aa hl];exact(hC _ (List.getElem_mem hl)).imm
    rw[List.getElem?_eq_none Wq1];exact⟨by decide,by decide⟩
   |false=>exact z32
theorem Om{s:St}(h:s.wf)(hr:s.right=true):wds (Sz s):=by
 obtain⟨h1,h2, -⟩:=St.fits hr;have hset:∀(W:List Int) (k:Nat) (v:Int),wds W->(0<=v/\v<=4294967295)->wds (W.set k v):=λW k v hW hv x hx=>by
  rcases D1 hx with q|q
  .exact hW x q
  omega
 have hlay:∀(W:List Int) (f:Nat) (l:List Int),wds W->wds l->∀k,wds (jW W f l k):=λW f l hW hl k=>by
  induction k with
  |zero=>exact hW
  |succ k ih=>exact hset _ _ _ ih (iH hl k)
 have h0:wds (List.replicate 256 (0:Int)):=λx hx=>by grind
 have hd:wds s.d:=λx hx=>h.d x hx
 have hrr:wds s.r:=λx hx=>h.r x hx
 have a1:=hset _ 0 s.pc h0 h.pc;have a2:=hset _ 1 s.flags a1 h.flags
 grind [Sz]
theorem hm0_of{R W:List Int}(h0:R.length=16)(h1:W.length=256)(h2:r64 R)(h3:wds W):HM.ok ⟨R,W,0⟩:=⟨h0,h1,h2,h3,Int.le_refl _⟩
theorem hm0_ok{s:St}(h:s.wf)(hr:s.right=true):HM.ok ⟨List.replicate 16 0,Sz s,0⟩:=
 hm0_of aE (Ft s) (λx hx=>by grind) (Om h hr)
theorem hrun_ok{C:List HI}(hC:gb C):∀(f:Nat) (m:HM),m.ok->(jP C f m).2.ok
 :=by intro y1;induction y1<;>grind [FV,R6,jP]
theorem Pu(bm bw:Nat)(Ac:Option Addr)(cc:Nat)(C:List HI)(hC:gb C)(steps:Nat)(hst:steps<=100000)(m:HM)(hm:m.ok)(w:World)(hi:Inv w (bD (hmF bm bw Ac cc C m)) (hmF bm bw Ac cc C m) w):
  Ctr prog 163 [.p bm,.i steps] w (hmF bm bw Ac cc C m) (λx cs=>∃n:Nat,x= .tuple #[.i (jP C steps m).1.1,.w (jP C steps m).1.2,.i n]/\cs=hmF bm bw Ac cc C (jP C steps m).2):=by
 have hcap:=(dp (hi.get (show Has _ (hiC Ac cc C)from by repeat (first|exact .head _ _|apply Has.tail)))).cap;have hmx:=(dp (hi.get (show Has _ (hiC Ac cc C)from by repeat (first|exact .head _ _|apply Has.tail)))).max;have hsome:=λh=>(dp (hi.get (show Has _ (hiC Ac cc C)from by repeat (first|exact .head _ _|apply Has.tail)))).some_ h
 simp only[maxLen]at hmx;obtain⟨⟨⟨how,im⟩,m9⟩,hq⟩:=Zgn (jP C steps m);rw[hq];have hq0:jP C (steps - 0) m=((how,im),m9):=hq;refine Zfn func163 ntmps163 hi ?_;refine iT ?_;refine bN (λq:Nat×HM=>[(0,.p bm),(1,.i steps),(7,.i (q.1:Int))]) (λq=>hmF bm bw Ac cc C q.2) (λq=>q.1<=steps/\q.2.ok/\jP C (steps - q.1) q.2=((how,im),m9)) (λq=>steps - q.1) (⟨0,m⟩) ?_ ?_ ?_ ?_
 .grind
 .exact Zwk
 .exact Zu
 rintro⟨k,m⟩ ⟨hk,hm,hE⟩;dsimp only at hk hm hE|-;have HS:=Lz bm bw Ac cc C hC m hm;have hm2:=FV hC hm;have hex:=H7 (C:=C) (m:=m);refine Zw8 ?_ ?_<;>intro hc2
 .simp only[ae]at hc2;obtain⟨f,hf⟩:∃f,steps - k=f+1:=⟨steps - k - 1,by omega⟩;rw[hf]at hE;have hE:(bif(R6 C m).1==0 then jP C f (R6 C m).2 else bif(R6 C m).1==1 then((1,(C.getD (R6 C m).2.pc.toNat HI.zero).imm),(R6 C m).2)else(((R6 C m).1,0),(R6 C m).2))=((how,im),m9):=hE;obtain⟨⟨why,m2⟩,hsq⟩:=Zgn (R6 C m);rw[hsq]at hE HS hm2 hex;dsimp only at hE hm2 hex;refine Z_7 ?_;refine ZcM (hmF bm bw Ac cc C m) (λw hi hin=>HS w hin) ?_;refine sx ?_;refine ZW ?_ ?_<;>intro hc7
  .rw[hc7,ai]at hE;refine Z_6 ?_;refine Wq6 ?_;refine dM ((⟨k+1,m2⟩:Nat×HM)) ?_ ?_ ?_
   .grind
   .exact Zwk
   exact Zu
  rw[hc7,ah]at hE;refine Zw6 ?_ ?_<;>intro hc8
  .rw[hc8,ai]at hE;obtain⟨he1,rfl⟩:=Prod.mk.inj hE;obtain⟨rfl,rfl⟩:=Prod.mk.inj he1;have hw1:why=1:=bR;subst hw1;obtain⟨rfl,hp0,hpl⟩:=hex rfl;have hR:=hm.rl;obtain⟨p,hpe⟩:∃p:Nat,m2.pc=p:=ap hp0;rw[hpe]at hpl;have hx:C[p]? =some (C.getD p HI.zero):=bR;rw[show m2.pc.toNat=p by omega];obtain⟨ad,rfl⟩:=hsome Wq1;obtain⟨i,hie⟩:=Zgn (C.getD p HI.zero);rw[hie]at hx|-;refine Zs (bL ⟨λj=>List.elem j [],[]⟩ Zk ?_);refine kQ ?_;refine ZFe 3 17 ?_;refine Zy5 4 rfl (bF Zrf Zv0) (cN Zh (hm_c hR)) ?_;refine mE ?_;refine ZFe 7 18 ?_;refine Zy5 8 rfl (bF Zrf Zv0) (cN Zh (hm_p hR)) ?_;refine Zy4 9 rfl (bS (j:=p) rfl Zrf (Zv rfl) (Zv rfl) (λ_=>hpe) Wq2) ?_;refine Zy4 10 rfl (ce 4 rfl (Zv rfl) ((eX ad (p*5) 4))) ?_;refine Zy5 11 rfl (bF Zrf (Zv rfl)) (λw hi z hz=>by rw[aB]at hz;subst hz;exact(hi.rd (show Has _ (hiC (some ad) cc C)from Zh)).at_ ad rfl (p*5+4) (.w i.imm) (da (f:=HI.cells) Zrf (i:=4) hx rfl)) ?_;refine ZE 12 ?_;refine ZE 13 ?_;refine ZE 14 ?_;refine ZE 15 ?_;refine eQ ?_;refine Z_8 ?_;exact Wq266
  rw[hc8,ah]at hE;obtain⟨he1,rfl⟩:=Prod.mk.inj hE;obtain⟨rfl,rfl⟩:=Prod.mk.inj he1;refine sw ?_;exact Wq266
 simp only[ac]at hc2;obtain rfl:k=steps:=Wq1;rw[Nat.sub_self]at hE;obtain⟨he1,rfl⟩:=Prod.mk.inj hE;obtain⟨rfl,rfl⟩:=Prod.mk.inj he1;refine Z_8 ?_;refine Zy (wQ (Zv rfl) (Zv rfl) (show _=((k:Nat):Int)from by omega)) ?_;refine Z_6 ?_;exact Wq266
theorem Cd(bm bw:Nat)(Ac:Option Addr)(n cc:Nat)(R W:List Int)(pc:Int)(hR:R.length=16)(hW:W.length=256)(f k:Nat)(hf:f<=100)(hk:k<=16)(w:World)(h:(fC bm bw Ac n cc R pc).ok w)(h2:(hwC bw W).ok w):
  Ctr prog 197 [.p bm,.i f,.w k] w [] (λx cs=>∃A c,x= .slice A (fP W f k).length c/\cs=[sl .u32 39 A (fP W f k).length c (fP W f k)]):=by
 have hl:∀j,(fP W f j).length=j:=λj=>by simp[fP]
 have hsn:∀j,fP W f (j+1)=fP W f j++[W.getD (f+j) 0]:=λj=>by unfold fP;rw[List.range_succ,List.map_append];rfl
 refine Zfs func197 ntmps197 ?_;refine kM ?_;refine cT 39 1 (ZA ?_);refine wO ?_;refine Z_4 ?_;refine bN (λq:Nat×Option Addr×Nat=>[(0,.p bm),(1,.i f),(7,.slice q.2.1 (fP W f q.1).length q.2.2),(10,.i k),(11,.i (q.1:Int))]) (λq=>[sl .u32 39 q.2.1 (fP W f q.1).length q.2.2 (fP W f q.1)]) (λq=>q.1<=k) (λq=>k - q.1) (⟨0,none,0⟩) ?_ ?_ ?_ ?_
 .omega
 .exact Zwk
 .exact Zu
 rintro⟨j,A,c⟩ hj;dsimp only at hj|-;refine Zw6 ?_ ?_<;>intro hc3
 .simp only[ae]at hc3;have hlj:=hl j;refine sx ?_;refine Zy (ef (Zv rfl) (Zv rfl) (show _=((f+j:Nat):Int)from by rw[IntWalk.i64_in _ ⟨by omega,by omega⟩];omega)) ?_;refine ZSe (λw hi=>FU bm bw Ac n cc R W pc hR hW (f+j) Wq1 w (bC.old h hi) (bC.old h2 hi)) ?_;refine kY ?_;rintro _ _ ⟨b20,rfl,rfl⟩;refine fW (cj (e:=39) (sz:=1) (bytes:=4) rfl rfl Za rfl rfl (λw hi=>hi.rd (show Has _ (slv 39 1 (sA b20) 1 1 (ints .u32 [W.getD (f+j) 0]))from Zh)) di gq Wq1) rfl ?_;rintro _ _ ⟨A2,c2,rfl,rfl⟩;rw[bX,<-hsn,show(fP W f j).length+1=(fP W f (j+1)).length by rw[hl,hl]];refine gv ?_;refine dM ((⟨j+1,A2,c2⟩:Nat×Option Addr×Nat)) ?_ ?_ ?_
  .omega
  .exact Zwk
  exact Zu
 simp only[ac]at hc3;obtain rfl:j=k:=by omega
 refine fD ?_;exact IC
theorem hget_ok(bm bw:Nat)(Ac:Option Addr)(n cc:Nat)(R W:List Int)(pc:Int)(hR:R.length=16)(hW:W.length=256)(hwd:wds W)(s:St)(Ad Ar:Option Addr)(cd cr:Nat)(w:World)(h:(fC bm bw Ac n cc R pc).ok w)(h2:(hwC bw W).ok w)(h3:pY w s Ad Ar cd cr):
  Ctr prog 164 [.p bm,sv s Ad cd Ar cr] w [] (λx cs=>∃X:j0,x= .tuple #[sv (bif mY W then oM W s else s) X.Ad X.cd X.Ar X.cr,.bool (mY W)]/\cs=[slD (bif mY W then oM W s else s) X.Ad X.cd,slR (bif mY W then oM W s else s) X.Ar X.cr]):=by
 have HW:=FU bm bw Ac n cc R W pc hR hW;obtain⟨x2,e2,y2⟩:=mT hwd 2;obtain⟨x3,e3,y3⟩:=mT hwd 3;have y36:=iH hwd 36;obtain⟨x36,e36⟩:=Zgn (W.getD 36 0);have hgs:oM W s=⟨W.getD 0 0,fP W 4 x2,fP W 20 x3,W.getD 1 0,s.RM,s.RW,s.ie,s.root,s.vec,s.epc,s.RN,s.addr,s.Sa,s.eie,IntKind.u64.wrap (s.count+x36),s.halted⟩:=by unfold oM;rw[e2,e3,e36,aM,aM]
 have htk:mY W= !((decide (16<(x2:Int))||decide (16<(x3:Int)))||decide (15<W.getD 1 0)):=by unfold mY;rw[e2,e3]
 rw[e36]at y36;have W2:=HW 2 Wq7;have W3:=HW 3 Wq7;have W36:=HW 36 Wq7;rw[e2]at W2;rw[e3]at W3;rw[e36]at W36;obtain⟨b,hb⟩:=Zgn (mY W);rw[hb]at htk|-;refine Zfs func164 ntmps164 ?_;refine Z_2 ?_;refine ZO λb3=>?_;refine ZN λb4=>?_
 refine Z_6 ?_;refine ZSn (λw hi=>mz s Ad Ar cd cr w (h3.RU hi)) ?_;rintro _ _ ⟨A1,c1,A2,c2,rfl,rfl⟩;refine ZM ?_;refine Z_9 ?_;refine dU (bE rfl rfl) (.cons (bU rfl) .nil) (λ_ _=>rfl) (λhg w hi=>Cb bm bw Ac n cc R pc hR w (bC.old h hi)) rfl (Z_4 ?_);refine dU (bE rfl rfl) (.cons (bU rfl) (.cons Zv0 .nil)) (λ_ _=>rfl) (λhg w hi=>W2 w (bC.old h hi) (bC.old h2 hi)) rfl (Z_4 ?_);refine dU (bE rfl rfl) (.cons (bU rfl) (.cons Zv0 .nil)) (λ_ _=>rfl) (λhg w hi=>W3 w (bC.old h hi) (bC.old h2 hi)) rfl (Z_4 ?_);refine dU (bE rfl rfl) (.cons (bU rfl) (.cons (Zv rfl) .nil)) (λ_ _=>rfl) (λhg w hi=>HW 1 Wq7 w (bC.old h hi) (bC.old h2 hi)) rfl (Z_4 ?_);refine ZW ?_ ?_<;>intro hc2
 .have hc:((decide (16<(x2:Int))||decide (16<(x3:Int)))||decide (15<W.getD 1 0))=true:=hc2;rw[hc]at htk;obtain rfl:b=false:=htk;refine Z_3 ?_;refine mC ?_;exact ph (cs':=[slD s A1 c1,slR s A2 c2]) (.inl rfl) Zu rfl rfl rfl Zh Zrf Zrf ⟨⟨A1,c1,A2,c2⟩,rfl,rfl⟩
 have hc:((decide (16<(x2:Int))||decide (16<(x3:Int)))||decide (15<W.getD 1 0))=false:=hc2;rw[hc]at htk;obtain rfl:b=true:=htk;simp only[Bool.or_eq_false_iff,ac]at hc;have HT2:=Cd bm bw Ac n cc R W pc hR hW 4 x2 Wq7 Wq1;have HT3:=Cd bm bw Ac n cc R W pc hR hW 20 x3 Wq7 Wq1;rw[ai,hgs];refine Z_5 ?_;refine ZSe (λw hi=>HW 0 Wq7 w (bC.old h hi) (bC.old h2 hi)) ?_;refine ZA ?_;refine ZSe (λw hi=>HW 1 Wq7 w (bC.old h hi) (bC.old h2 hi)) ?_;refine gP ?_;refine gP ?_;refine Z_6 ?_;refine ZSe (λw hi=>W2 w (bC.old h hi) (bC.old h2 hi)) ?_;refine ZSn (λw hi=>HT2 w (bC.old h hi) (bC.old h2 hi)) ?_;rintro _ _ ⟨A3,c3,rfl,rfl⟩;refine Z_2 ?_;refine ZSe (λw hi=>W3 w (bC.old h hi) (bC.old h2 hi)) ?_;refine ZSn (λw hi=>HT3 w (bC.old h hi) (bC.old h2 hi)) ?_;rintro _ _ ⟨A4,c4,rfl,rfl⟩;refine gP ?_;refine gP ?_;refine Z_3 ?_;refine bL ⟨λj=>List.elem j [7],[]⟩ Zk (ZFe 0 14 ?_);refine ZG 1 ?_;refine ZE 2 ?_;refine cn 3 Zk (ZTn (λw hi=>W36 w (bC.old h hi) (bC.old h2 hi)) ?_);rintro _ _ ⟨rfl,rfl⟩;refine Zy4 4 rfl (cQ rfl rfl (Zv rfl) QB) ?_;refine Zy4 5 rfl (ef Zv0 Zv0 rfl) ?_;refine ZFe 6 14 ?_;refine cn 7 Zk (nO ?_);refine Z_4 ?_;refine iD ?_;exact ph (cs':=[sl .u32 39 A3 (fP W 4 x2).length c3 (fP W 4 x2),sl .u32 39 A4 (fP W 20 x3).length c4 (fP W 20 x3)]) (.inl rfl) Zu rfl rfl rfl Zh Zrf Zrf ⟨⟨A3,c3,A4,c4⟩,rfl,rfl⟩
theorem erun_ok(A:Option Addr)(c:Nat)(C:List HI)(hC:gb C)(hl:C.length<=100000)(s:St)(hw:s.wf)(hs:s.right=true)(Ad Ar:Option Addr)(cd cr:Nat)(w:World)(h:Rd w .u8 A (cE C).length c (cE C))(h3:pY w s Ad Ar cd cr):
  Ctr prog 140 [.slice A (cE C).length c,sv s Ad cd Ar cr] w [] (λx cs=>∃X:j0,x= .tuple #[sv (io C s).1 X.Ad X.cd X.Ar X.cr,.i (io C s).2]/\cs=[slD (io C s).1 X.Ad X.cd,slR (io C s).1 X.Ar X.cr]):=by
 have h0:=hm0_ok hw hs;have hm9:=hrun_ok hC 4096 _ h0;have him:=FW hC 4096 ⟨List.replicate 16 0,Sz s,0⟩;have hrc:io C s=Fm s (jP C 4096 ⟨List.replicate 16 0,Sz s,0⟩):=rfl;obtain⟨W0,hW0⟩:=Zgn (Sz s);have HP:=λbm bw w hi h=>hput_ok bm bw s hs hw Ad Ar cd cr w hi h
 obtain⟨R0,hR0⟩:=Zgn (List.replicate 16 (0:Int));obtain⟨Z0,hZ0⟩:=Zgn (List.replicate 256 (0:Int));have HN:=hnew_ok;rw[hW0,hR0]at h0 hm9 hrc him;rw[hR0,hZ0]at HN HP;rw[hW0]at HP;have HR:=λbm bw Ac cc w hi=>Pu bm bw Ac cc C hC 4096 Wq7 ⟨R0,W0,0⟩ h0 w hi
 obtain⟨⟨⟨how,im⟩,m9⟩,hq⟩:=Zgn (jP C 4096 ⟨R0,W0,0⟩);rw[hq]at HR hrc hm9 him;dsimp only at HR hrc hm9 him;have hre:Fm s ((how,im),m9)=bif how !=1 then(s,0)else bif mY m9.words then(oM m9.words s,im)else(s,0):=rfl
 rw[hrc,hre];clear hrc hq hre;have hR16:R0.length=16:=h0.rl;have HG:=λbm bw Ac cc w h1 h2 h3=>hget_ok bm bw Ac C.length cc m9.So m9.words m9.pc hm9.rl hm9.wl hm9.w s Ad Ar cd cr w h1 h2 h3
 obtain⟨tk,htk⟩:=Zgn (mY m9.words);obtain⟨s9,hs9⟩:=Zgn (oM m9.words s);rw[htk,hs9]at HG|-;refine Zfs func140 ntmps140 ?_;refine Z_2 ?_;refine ZO λb3=>?_;refine ZN λb4=>?_
 refine Z_5 ?_;refine ZSn (λw hi=>HN w) ?_;rintro _ _ ⟨bm,bw,rfl,rfl⟩;refine iT ?_;refine fJ (bE rfl rfl) Zh Zrf Zrf (Zv rfl) rfl (gU (bE rfl rfl) rfl (eo ([fC bm bw none 0 0 R0 0,hwC bw Z0]) rfl (λ_ _=>rfl) Zi (λw hi hin=>HP bm bw w hin (λw' hk=>⟨RdV.RT h3.d hi Zi hk,RdV.RT h3.r hi Zi hk,h3.hd,h3.hr⟩))) rfl ?_);rintro _ _ ⟨_,⟨rfl,rfl⟩,rfl⟩;refine Z_5 ?_;refine gU (bE rfl rfl) rfl (eo ([fC bm bw none 0 0 R0 0,hwC bw W0]) rfl (λ_ _=>rfl) Zi (λw hi hin=>Pw bm bw R0 W0 hR16 A c C hC hl w hin (λw' hk=>RdV.RT h hi Zi hk))) rfl ?_;rintro _ _ ⟨_,⟨Ac,cc,rfl,rfl⟩,rfl⟩;refine Z_4 ?_;refine rh ?_;refine dz (hmF bm bw Ac cc C ⟨R0,W0,0⟩) (λw hi hin=>HR bm bw Ac cc w hin) ?_;rintro _ _ ⟨n,rfl,rfl⟩;refine sw ?_;refine ZW ?_ ?_<;>intro hc5
 .rw[hc5,ai];refine Z_3 ?_;refine ZSn (λw hi=>mz s Ad Ar cd cr w (h3.RU hi)) ?_;rintro _ _ ⟨A1,c1,A2,c2,rfl,rfl⟩;refine mC ?_;exact ph (cs':=[slD s A1 c1,slR s A2 c2]) (.inl rfl) Zu rfl rfl rfl Zh Zrf Zrf ⟨⟨A1,c1,A2,c2⟩,rfl,rfl⟩
 rw[hc5,ah];refine Z_6 ?_;refine ZSn (λw hi=>HG bm bw Ac cc w (hi.get Zh) (hi.get Zh) (h3.RU hi)) ?_;rintro _ _ ⟨X,rfl,rfl⟩;refine Z_3 ?_;refine ZN λb11=>?_
 refine ZM ?_;refine pV ?_ ?_<;>intro hc8
 .obtain rfl:tk=false:=bR;refine Z_3 ?_;refine mC ?_;exact ph (cs':=[slD s X.Ad X.cd,slR s X.Ar X.cr]) (.inl rfl) Zu rfl rfl rfl Zh Zrf Zrf ⟨X,rfl,rfl⟩
 obtain rfl:tk=true:=bR;refine Z_6 ?_;refine wO ?_;refine iD ?_;exact ph (cs':=[slD s9 X.Ad X.cd,slR s9 X.Ar X.cr]) (.inl rfl) Zu rfl rfl rfl Zh Zrf Zrf ⟨X,rfl,rfl⟩
def cP(b:List Int):Nat->Nat->List (Int×Int)×Nat×Bool
 |0,sz=>([],sz,false)
 |k+1,sz=>match dj (b.drop sz)with
  |none=>([],sz,false)
  |some (i,z)=>bif dr i.1 then(bif fx i.1 then([i],sz+z,true)else(i::(cP b k (sz+z)).1,(cP b k (sz+z)).2.1,(cP b k (sz+z)).2.2))else([],sz,false)
inductive lw (b:List Int):Nat->List (Int×Int)->Nat->Prop
 |nil (o:Nat):lw b o [] o
 |cons {o z e:Nat} {i:Int×Int} {l:List (Int×Int)} (h:dj (b.drop o)=some (i,z)) (t:lw b (o+z) l e):lw b o (i::l) e
theorem pH{b:List Int}{i:Int×Int}{z:Nat}(h:dj b=some (i,z)):z=(cy i.1).toNat/\0<cy i.1/\z<=b.length/\∀b':List Int,b'.take z=b.take z->dj b'=some (i,z):=by
 cases b with
 |nil=>cases h
 |cons op l=>
  have h:(bif cy op==0 then none else bif decide ((l.length:Int)+1<cy op)then none else some ((op,Db (l.take ((cy op).toNat - 1))),(cy op).toNat))=some (i,z):=h;cases h0:cy op==0 with
  |true=>grind
  |false=>
  cases h1:decide ((l.length:Int)+1<cy op)with
  |true=>grind
  |false=>
  rw[h0,h1]at h;simp only[ah,aU,aX]at h;obtain⟨rfl,rfl⟩:=h;simp only[beq_eq_false_iff_ne,ac]at h0 h1;have hz:cy op=0\/cy op=1\/cy op=2\/cy op=5:=jv op;refine⟨rfl,by grind,by grind,λb' hb=>?_⟩;obtain⟨m,hm⟩:∃m:Nat,(cy op).toNat=m+1:=⟨(cy op).toNat - 1,by omega⟩;rw[hm]at hb|-;cases b' with
  |nil=>grind
  |cons op' l'=>
   grind [qY,List.cons.injEq,List.length,List.length_take]
theorem lw.le{b:List Int}{o e:Nat}{l:List (Int×Int)}(h:lw b o l e):o<=e:=by
 induction h with
 |nil=>omega
 |cons h t ih=>omega
theorem lw.ends{b:List Int}{o e:Nat}{l:List (Int×Int)}(h:lw b o l e)(hl:l≠[]):e<=b.length/\o<e:=by
 induction h with
 |nil=>grind
 | @cons o z e i l h t ih=>
  obtain⟨h1,h2,h3, -⟩:=pH h;rw[List.length_drop]at h3;have hle:=t.le;have hz:0<z:=by omega
  cases l with
  |nil=>cases t;omega
  |cons j l=>grind
theorem lw.stay{b b':List Int}{o e:Nat}{l:List (Int×Int)}(h:lw b o l e)(hb:b'.take e=b.take e):lw b' o l e:=by
 induction h with
 |nil=>exact .nil _
 | @cons o z e i l h t ih=>
  obtain⟨-, -, -,h4⟩:=pH h;refine .cons (h4 _ ?_) (ih hb);have hle:=t.le;rw[List.take_drop,List.take_drop,show(b'.take (o+z))=(b'.take e).take (o+z) by grind,hb,List.take_take,Nat.min_eq_left hle]
theorem mg(b:List Int):∀(k sz:Nat),lw b sz (cP b k sz).1 (cP b k sz).2.1/\(cP b k sz).1.length<=k/\((cP b k sz).1≠[]->(cP b k sz).2.2=fx ((cP b k sz).1.getLastD (0,0)).1)/\((cP b k sz).1=[]->(cP b k sz).2.2=false)
 |0,sz=>⟨.nil sz,aL _,λh=>absurd rfl h,λ_=>rfl⟩
 |k+1,sz=>by
  unfold cP;cases hd:dj (b.drop sz)with
  |none=>exact⟨.nil sz,au _,λh=>absurd rfl h,λ_=>rfl⟩
  |some q=>
   obtain⟨i,z⟩:=q;dsimp only;cases hp:dr i.1 with
   |false=>exact⟨.nil sz,au _,λh=>absurd rfl h,λ_=>rfl⟩
   |true=>
    rw[ai];cases he:fx i.1 with
    |true=>exact⟨.cons hd (.nil _),by simp,λ_=>he.symm,λh=>by cases h⟩
    |false=>
     rw[ah];obtain⟨h1,h2,h3,h4⟩:=mg b k (sz+z);refine⟨.cons hd h1,Nat.succ_le_succ h2,λ_=>?_,λh=>by cases h⟩
     grind
theorem lw.u32{b:List Int}(hb:u8s b){o e:Nat}{l:List (Int×Int)}(h:lw b o l e):∀i,i∈l->u32 i.2:=by
 induction h with
 |nil=>grind
 | @cons o z e i l h t ih=>
  intro j hj;rcases aG.1 hj with rfl|hj
  .obtain⟨op,nn⟩:=j;exact(nJ (λx hx=>hb x (List.mem_of_mem_drop hx)) h).1
  grind
theorem Gn{b:Bool}{x y:Run}{h:Bool}(hx:x.s.halted=h)(hy:y.s.halted=h):(bif b then x else y).s.halted=h:=by grind
theorem BN{op nn:Int}{s:St}(h:dr op=true):(doN s op nn).s.halted=s.halted:=by
 have hm:(BW s op nn).s.halted=s.halted:=by
  have hc:op=0\/op=1\/op=2\/op=3\/op=4\/op=5\/op=6\/op=7\/op=8\/op=16\/op=17\/op=18\/op=19\/op=20\/op=21\/op=22\/op=23\/op=25\/op=32\/op=33\/op=34\/op=35\/op=36\/op=37\/op=38\/op=39\/op=40:=by
   rcases ja h with h|h|h|h<;>omega
  rcases hc with rfl|rfl|rfl|rfl|rfl|rfl|rfl|rfl|rfl|rfl|rfl|rfl|rfl|rfl|rfl|rfl|rfl|rfl|rfl|rfl|rfl|rfl|rfl|rfl|rfl|rfl|rfl<;>
  first
  |exact rfl
  |exact Gn rfl rfl
  |exact Gn (b:=(jH _ (eP s _).pop.top (eP s _).top).2.2) (x:=(eP s _).pop.pop) (y:=(eP s _).pop.pop.wt ⟨5,0⟩) rfl rfl
 unfold doN;cases s.right with
 |false=>rfl
 |true=>
  simp only[Bool.not_true,ah];cases(eu s op nn !=0)with
  |true=>rfl
  |false=>
   rw[ah];unfold Rs;cases((BW s op nn).R8.RN !=0)with
   |true=>rfl
   |false=>exact hm
theorem Rw{b:Bool}{x y:Run}{h:Int}(hx:x.s.pc=h)(hy:y.s.pc=h):(bif b then x else y).s.pc=h:=by grind
theorem Ov{op nn:Int}{s s1:St}(h:dr op=true)(hr:s.right=true)(he:fx op=false)(hd:doN s op nn=⟨s1,false,false,[]⟩):s1.pc=dQ s op:=by
 have hlt:=Mh h he;have hm:(BW s op nn).s.pc=dQ s op:=by
  have hc:op=0\/op=1\/op=2\/op=3\/op=4\/op=5\/op=6\/op=7\/op=8\/op=16\/op=17\/op=18\/op=19\/op=20\/op=21\/op=22\/op=23\/op=25:=by
   rcases ja h with h|h|h|h<;>omega
  rcases hc with rfl|rfl|rfl|rfl|rfl|rfl|rfl|rfl|rfl|rfl|rfl|rfl|rfl|rfl|rfl|rfl|rfl|rfl<;>
  first
  |exact rfl
  |exact Rw rfl rfl
  |exact Rw (b:=(jH _ (eP s _).pop.top (eP s _).top).2.2) (x:=(eP s _).pop.pop) (y:=(eP s _).pop.pop.wt ⟨5,0⟩) rfl rfl
 grind [doN,eu,Rs,BW]
theorem Oy(p:Int)(va:Nat):(sN p va).toNat%64=va%64/\0<=sN p va:=by
 grind [sN,IntKind.wrap_u32]
theorem GO(n:Nat)(U:Mmu)(s:Sp)(va:Nat)(kind:Int)(h:(cU n U s va kind).1.2.RN=0):(cU n U s va kind).1.1.toNat%64=va%64:=by
 grind [cU,wU,po,EZ,asked,Oy,gQ]
theorem Ku(n:Nat)(U:Mmu)(s:Sp)(va:Nat)(h:(cG n U s va 1).1.2.RN=0):(cG n U s va 1).1.1.toNat%64=va%64/\(cG n U s va 1).1.1<((n*64:Nat):Int):=by
 grind [fault,cG,cU,GO]
theorem wC{n:Nat}{s:St}{U:Mmu}{d:Dev}(h:GOk n s U d)(hr:(dy n s U d).runs=true):(dy n s U d).place.toNat%64=(dy n s U d).s.pc.toNat%64/\(dy n s U d).place<((n*64:Nat):Int):=by
 grind [dy,mB,cG,told,Ku]
theorem xJ{n RY:Nat}(hn:n<=1000000)(hpg:RY<n):∀(l:List (Int×Int)) {s s2:St} (o k:Nat) {e:Nat} {U:Mmu} (d:Dev),l≠[]->IW l s s2->l.length<=k->lw ((U.m.data.drop (RY*64)).take 64) o l e->0<=s.pc->s.pc<=4294967295->s.pc.toNat%64=o->s.halted=false->
  s2.halted=false/\(fx (l.getLastD (0,0)).1=false->s2.pc=IntKind.u32.wrap (s.pc+((e:Int) - (o:Int))))/\dX n RY k s (RY*64+o) U d=bif fx (l.getLastD (0,0)).1||s2.pc/64 !=s.pc/64 then(s2,⟨U.m.calm,U.t⟩,d)else dX n RY (k - l.length) s2 (RY*64+e) ⟨U.m.calm,U.t⟩ d
 |[],_,_,_,_,_,_,_,hl,_,_,_,_,_,_,_=>absurd rfl hl
 |(op,nn)::l,s,s2,o,0,e,U,d,_,_,hk,_,_,_,_,_=>by simp at hk
 |(op,nn)::l,s,s2,o,k+1,e,U,d,_,hc,hk,hs,p0,p1,hpo,hh=>by
  have hse:=(hs.ends cH);rw[aI]at hse;cases hc with
  | @cons _ _ _ _ s1 _ hp hr hdo hm hc=>
  cases hs with
  | @cons _ z _ _ _ hd hs=>
  obtain⟨hz1,hz2,hz3, -⟩:=pH hd;dsimp only at hz1 hz2;have hle:=hs.le;have hf:df n U.m (RY*64+o)=some ((op,nn),z):=by
   unfold df;have e1:(RY*64+o)/64=RY:=by omega
   have e2:(RY*64+o)%64=o:=by omega
   rw[e1,e2,ay hpg,ai];exact hd
  obtain⟨hpd, -, -⟩:=Fv (n:=n) (nn:=nn) (U:=U) (d:=d) hp hr;rw[hdo]at hpd;have hh1:s1.halted=false:=by
   have:=BN (s:=s) (nn:=nn) hp;rw[hdo]at this;exact this.trans hh
  have e64:(RY*64+o+z)%4294967296=RY*64+(o+z):=by omega
  cases l with
  |nil=>
   cases hc
   cases hs
   refine⟨hh1,λhe=>?_,?_⟩
   .rw[Ov hp hr he hdo]
    grind [dQ,IntKind.wrap_u32]
   grind [dX,fx,jN]
  |cons j l=>
   obtain⟨he,hpc⟩:=hm cH;have hse2:=(hs.ends cH).2;have hpc1:s1.pc=s.pc+z:=by
    rw[hpc];unfold dQ;rw[aC,aC];omega
   have ih:=xJ hn hpg (j::l) (s:=s1) (s2:=s2) (o+z) k (e:=e) (U:=⟨U.m.calm,U.t⟩) d cH hc bR hs Wq1 Wq1 Wq1 hh1;refine⟨ih.1,λhe=>?_,?_⟩
   .grind
   have hlast:(((op,nn)::j::l).getLastD (0,0))=((j::l).getLastD (0,0)):=rfl;have hq:s1.pc/64=s.pc/64:=by omega
   conv=>lhs;unfold dX
   rw[hf];dsimp only;rw[hpd];dsimp only;rw[e64];unfold jN;dsimp only;rw[hh1,he];have hcon:List.contains ([]:List Int) ((RY:Nat):Int)=false:=rfl;rw[hcon];simp only[Bool.or_false,ah];rw[show(s1.pc/64==s.pc/64)=true by grind,ai,ih.2.2,hlast,hq];rw[show(k+1) - (((op,nn)::j::l)).length=k - (j::l).length by simp]
   rfl
structure Blk where
 key:Ky
 code:List HI
 count:Int
structure Rn where
 bytes:List Int
 ends:Bool
def Rn.zero:Rn:=⟨[],false⟩
def vh{α:Type}(key:α->Ky)(room:Int)(l:List α)(t:α):List α:=match cL key (key t) l with
 |some j=>l.set j t
 |none=>bif decide (room<=(l.length:Int))then[t]else l++[t]
def wY{β:Type}(l:List Blk)(L:List (Ky×β)):List (Ky×β):=L.filter λx=>l.any λt=>t.key==x.1
structure Eng where
 room:Int
 l:List Blk
 runs:List (Ky×Rn)
 last:Ky
 Sl:Int
 Sh:Int
 begun:Bool
def Eng.fresh(room:Int):Eng:=⟨room,[],[],(0,0),0,0,false⟩
def Eng.flush(E:Eng):Eng:={E with l:=[],runs:=[]}
def B7(E:Eng)(k:Ky)(b:List Int):Option (Blk×Rn):=match E.l.find? (λt=>t.key==k)with
 |some t=>bif(ga E.runs k Rn.zero).bytes.isPrefixOf b then some (t,ga E.runs k Rn.zero)else none
 |none=>none
def vB(k:Ky)(b:List Int):Option (Blk×Rn):=match fg k.1 (cP b 8 0).1 with
 |none=>none
 |some p=>bif p.R7 then some (⟨k,gt p (dP p),((cP b 8 0).1.length:Int)⟩,⟨b.take (cP b 8 0).2.1,(cP b 8 0).2.2⟩)else none
def addE(E:Eng)(t:Blk)(r:Rn):Eng:=
 let l':=vh Blk.key E.room E.l t
 let L:=dG E.runs t.key r
 {E with l:=l',runs:=bif decide (l'.length<L.length)then wY l' L else L}
def lp(E:Eng)(k:Ky)(b:List Int):Option (Blk×Rn)×Eng:=match B7 E k b with
 |some q=>(some q,E)
 |none=>match vB k b with
  |some q=>(some q,addE E q.1 q.2)
  |none=>(none,E)
def jo(E:Eng)(s:St)(place:Int)(b:List Int):Option (St×Rn×Int)×Eng:=match lp E (s.pc,place) b with
 |(none,E')=>(none,E')
 |(some (t,r),E')=>bif(io t.code s).2==1 then(some ((io t.code s).1,r,t.count),{E' with last:=(s.pc,place),begun:=true,Sl:=IntKind.i64.wrap (E'.Sl+t.count)})else(none,E')
def Mo(E:Eng)(RG:List Int):Eng:=
 let l':=E.l.filter λt=> !RG.contains (t.key.2/64)
 {E with l:=l',runs:=bif decide (l'.length<E.l.length)then wY l' E.runs else E.runs}
def mV(E:Eng)(RG:List Int):Eng:=bif RG.isEmpty then E else Mo E RG
def jp(n:Nat)(RY:Nat):Nat->St->Nat->Mmu->Dev->Eng->(St×Mmu×Dev)×Eng
 |0,s,_,U,d,E=>((s,U,d),E)
 |k+1,s,p,U,d,E=>match df n U.m p with
  |none=>((s.next.R8 1 0,U,d),{E with Sh:=IntKind.i64.wrap (E.Sh+1)})
  |some ((op,nn),sz)=>
   let q:=pG n s op nn U d
   let E':=mV {E with Sh:=IntKind.i64.wrap (E.Sh+1)} q.1.RG
   bif jN op q.1 RY s.pc then jp n RY k q.1.s ((p+sz)%4294967296) q.2.1 q.2.2 E' else((q.1.s,q.2.1,q.2.2),E')
def iA(M:Mem)(p:Nat):List Int:=((M.data.drop (p/64*64)).take 64).drop (p%64)
def doE(n:Nat)(s:St)(U:Mmu)(d:Dev)(E:Eng):(St×Mmu×Dev)×Eng:=
 let b:=dy n s U d
 bif b.runs then
  match jo E b.s b.place (iA b.u.m b.place.toNat)with
  |(none,E')=>jp n (b.place.toNat/64) 8 b.s b.place.toNat b.u b.d E'
  |(some (o,r,c),E')=>bif(r.ends&&decide (0<c))||o.pc/64 !=b.s.pc/64 then((o,⟨b.u.m.calm,b.u.t⟩,b.d),E')
    else jp n ((b.place.toNat+r.bytes.length)%4294967296/64) (8 - c).toNat o ((b.place.toNat+r.bytes.length)%4294967296) ⟨b.u.m.calm,b.u.t⟩ b.d E'
 else((b.s,b.u,b.d),{E with Sh:=IntKind.i64.wrap (E.Sh+IntKind.i64.wrap (IntKind.u64.wrap (b.s.count - s.count)))})
theorem OY{α:Type}{key:α->Ky}{room:Int}{l:List α}{t x:α}(h:x∈vh key room l t):x=t\/(x∈l/\(∀y,y∈l->(l.map key).Nodup->key x≠key t)):=by
 unfold vh at h;cases hp:cL key (key t) l with
 |some j=>
  rw[hp]at h;dsimp only at h;obtain⟨hj,hk⟩:=ff hp;obtain⟨i,hi,rfl⟩:=List.getElem_of_mem h;rw[List.getElem_set];by_cases e:j=i
  .grind
  rw[if_neg e];have hi':i<l.length:=by simpa using hi
  refine Or.inr ⟨List.getElem_mem _,λy _ hn hke=>e ?_⟩;rw[<-hk]at hke;exact((List.getElem_inj (xs:=l.map key) (h₀:=by grind) (h₁:=by grind) hn).1 bR).symm
 |none=>
  grind [ip]
theorem Kf{α:Type}{key:α->Ky}{room:Int}{l:List α}{t:α}:t∈vh key room l t:=by
 unfold vh;cases hp:cL key (key t) l with
 |some j=>obtain⟨hj, -⟩:=ff hp;grind [List.mem_iff_getElem]
 |none=>grind
theorem rH{α:Type}{key:α->Ky}{room:Int}{l:List α}{t:α}(h:(l.map key).Nodup):((vh key room l t).map key).Nodup:=by
 grind [vh,cL,ff,ip,List.map_set,List.set_getElem_self,decide,List.nodup_append]
theorem Oo{α:Type}{key:α->Ky}{room:Int}{l:List α}{t:α}(h1:1<=room)(h:(l.length:Int)<=room):((vh key room l t).length:Int)<=room:=by
 grind [vh,cL]
theorem zo{β:Type}(L:List (Ky×β))(k:Ky)(v:β):dG L k v=vh (·.1) ((L.length:Int)+1) L (k,v):=by
 grind [dG,vh,cL]
theorem N9{β:Type}{L:List (Ky×β)}{k:Ky}{v:β}(z:β)(hn:(L.map (·.1)).Nodup)(h:(k,v)∈L):ga L k z=v:=by
 unfold ga;cases hf:L.find? (λx=>x.1==k)with
 |none=>grind
 |some x=>
  have h1:=List.mem_of_find?_eq_some hf;have h2:=List.find?_some hf;have h3:x.1=k:=by simpa using h2
  obtain⟨i,hi,rfl⟩:=List.getElem_of_mem h1;obtain⟨j,hj,hje⟩:=List.getElem_of_mem h;have:i=j:=(List.getElem_inj (xs:=L.map (·.1)) (h₀:=by grind) (h₁:=by grind) hn).1 bR
  grind
theorem jE{α:Type}{key:α->Ky}{l:List α}(f:α->Bool)(h:(l.map key).Nodup):((l.filter f).map key).Nodup:=by grind
def Good(t:Blk)(r:Rn):Prop:=∃p il,fg t.key.1 il=some p/\p.R7=true/\t.code=gt p (dP p)/\t.count=(il.length:Int)/\lw r.bytes 0 il r.bytes.length/\(∀i,i∈il->u32 i.2)/\r.ends=fx (il.getLastD (0,0)).1
structure gL(E:Eng):Prop where
 room:1<=E.room/\E.room<=1024
 len:(E.l.length:Int)<=E.room
 keys:(E.l.map Blk.key).Nodup
 S8:(E.runs.map (·.1)).Nodup
 Sj:∀t,t∈E.l->∃r,(t.key,r)∈E.runs/\Good t r
theorem gL.fresh{room:Int}(h:1<=room/\room<=1024):gL (Eng.fresh room):=⟨h,by show((0:Nat):Int)<=room;omega,by simp[Eng.fresh],by simp[Eng.fresh],λt ht=>by cases ht⟩
theorem gL.flush{E:Eng}(h:gL E):gL E.flush:=⟨h.room,by show((0:Nat):Int)<=E.room;have:=h.room;omega,by simp[Eng.flush],by simp[Eng.flush],λt ht=>by cases ht⟩
theorem gL.same{E E':Eng}(h:gL E)(h1:E'.room=E.room)(h2:E'.l=E.l)(h3:E'.runs=E.runs):gL E':=⟨by rw[h1];exact h.room,by simp_all [h.len],by rw[h2];exact h.keys,by rw[h3];exact h.S8,by simp_all [h.Sj]⟩
theorem BY{β:Type}{l:List Blk}{L:List (Ky×β)}{t:Blk}{r:β}(ht:t∈l)(h:(t.key,r)∈L):(t.key,r)∈wY l L:=List.mem_filter.2 ⟨h,List.any_eq_true.2 ⟨t,ht,by simp⟩⟩
theorem gL.drop{E:Eng}(h:gL E)(RG:List Int):gL (Mo E RG):=by
 refine⟨h.room,?_,jE _ h.keys,?_,λt ht=>?_⟩
 .have:((E.l.filter λt=> !RG.contains (t.key.2/64)).length)<=E.l.length:=List.length_filter_le _ _;have:=h.len;show(((E.l.filter λt=> !RG.contains (t.key.2/64)).length:Nat):Int)<=E.room;omega
 .show((bif _ then wY _ E.runs else E.runs).map (·.1)).Nodup;cases decide ((E.l.filter λt=> !RG.contains (t.key.2/64)).length<E.l.length)with
  |true=>exact jE _ h.S8
  |false=>exact h.S8
 have ht:t∈E.l.filter λt=> !RG.contains (t.key.2/64):=ht
 obtain⟨r,h1,h2⟩:=h.Sj t (List.mem_filter.1 ht).1;refine⟨r,?_,h2⟩;show(t.key,r)∈(bif _ then wY _ E.runs else E.runs)
 grind [BY]
theorem gL.turn{E:Eng}(h:gL E)(RG:List Int):gL (mV E RG):=by
 unfold mV;cases RG.isEmpty with
 |true=>exact h
 |false=>exact h.drop RG
theorem gL.add{E:Eng}(h:gL E){t:Blk}{r:Rn}(hg:Good t r):gL (addE E t r):=by
 have hl:(t.key,r)∈dG E.runs t.key r:=by rw[zo];exact Kf
 have hn:((dG E.runs t.key r).map (·.1)).Nodup:=by rw[zo];exact rH h.S8
 have hgo:∀x,x∈vh Blk.key E.room E.l t->∃r',(x.key,r')∈dG E.runs t.key r/\Good x r':=λx hx=>by
  rcases OY hx with rfl|⟨h1,h2⟩
  .grind
  obtain⟨r',h3,h4⟩:=h.Sj x h1;refine⟨r',?_,h4⟩;have hne:=h2 x h1 h.keys
  grind [dG,cL,ff,List.mem_append_left,List.getElem_of_mem,List.mem_iff_getElem]
 refine⟨h.room,Oo h.room.1 h.len,rH h.keys,?_,λx hx=>?_⟩
 .show((bif _ then wY _ _ else _).map (·.1)).Nodup;cases decide ((vh Blk.key E.room E.l t).length<(dG E.runs t.key r).length)with
  |true=>exact jE _ hn
  |false=>exact hn
 obtain⟨r',h1,h2⟩:=hgo x hx;refine⟨r',?_,h2⟩;show(x.key,r')∈(bif _ then wY _ _ else _);cases decide ((vh Blk.key E.room E.l t).length<(dG E.runs t.key r).length)with
 |true=>exact BY hx h1
 |false=>exact h1
theorem qV{E:Eng}(h:gL E){k:Ky}{b:List Int}(hb:u8s b):gL (lp E k b).2/\(lp E k b).2.room=E.room/\(lp E k b).2.Sl=E.Sl/\(lp E k b).2.Sh=E.Sh/\∀t r,(lp E k b).1=some (t,r)->
  ∃p il,fg k.1 il=some p/\p.R7=true/\t.code=gt p (dP p)/\t.count=(il.length:Int)/\lw b 0 il r.bytes.length/\(∀i,i∈il->u32 i.2)/\r.ends=fx (il.getLastD (0,0)).1:=by
 unfold lp;cases hk:B7 E k b with
 |some q=>
  refine⟨h,rfl,rfl,rfl,λt r e=>?_⟩;obtain rfl:q=(t,r):=ax e;unfold B7 at hk;cases hf:E.l.find? (λt=>t.key==k)with
  |none=>grind
  |some t'=>
   rw[hf]at hk;dsimp only at hk;cases hpre:(ga E.runs k Rn.zero).bytes.isPrefixOf b with
   |false=>grind
   |true=>
    rw[hpre,ai,aU,aX]at hk;obtain⟨rfl,hr⟩:=hk;have hkey:t'.key=k:=by simpa using List.find?_some hf
    obtain⟨r',h1,p,il,g1,g2,g3,g4,g5,g6,g7⟩:=h.Sj t' (List.mem_of_find?_eq_some hf);have e1:=N9 Rn.zero h.S8 h1;rw[hkey]at e1 g1;rw[e1]at hr hpre;subst hr;have hpr:b.take r'.bytes.length=r'.bytes:=by
     obtain⟨y,rfl⟩:=List.isPrefixOf_iff_prefix.1 hpre;exact List.take_left
    exact⟨p,il,g1,g2,g3,g4,g5.stay bR,g6,g7⟩
 |none=>
  cases hm:vB k b with
  |none=>grind
  |some q=>
   obtain⟨t,r⟩:=q;unfold vB at hm;cases hl:fg k.1 (cP b 8 0).1 with
   |none=>grind
   |some p=>
    rw[hl]at hm;dsimp only at hm;cases hr:p.R7 with
    |false=>grind
    |true=>
     rw[hr,ai,aU,aX]at hm;obtain⟨rfl,rfl⟩:=hm;obtain⟨s1,s2,s3,s4⟩:=mg b 8 0;have hne:(cP b 8 0).1≠[]:=λe=>by
      grind [fg]
     have hse:=s1.ends hne;have hlen:(b.take (cP b 8 0).2.1).length=(cP b 8 0).2.1:=by rw[aI];omega
     have hu:=s1.u32 hb;refine⟨h.add ⟨p,_,hl,hr,rfl,rfl,?_,hu,s3 hne⟩,rfl,rfl,rfl,λt r e=>?_⟩
     .dsimp only;rw[hlen];exact s1.stay bR
     grind
structure Gs(E E':Eng)(c:Nat):Prop where
 Sl:0<=E.Sl->0<=E.Sh->E.Sl+E.Sh+c<=1000000000->0<=E'.Sl/\0<=E'.Sh/\E'.Sl+E'.Sh=E.Sl+E.Sh+c/\E.Sl<=E'.Sl
 room:E'.room=E.room
theorem Js(E:Eng)(RG:List Int):(mV E RG).Sl=E.Sl/\(mV E RG).Sh=E.Sh/\(mV E RG).room=E.room:=by
 unfold mV;cases RG.isEmpty<;>exact⟨rfl,rfl,rfl⟩
theorem zt{n RY:Nat}:∀(k:Nat) {s:St} (p:Nat) {U:Mmu} {d:Dev} {E:Eng},GOk n s U d->gL E->(jp n RY k s p U d E).1=dX n RY k s p U d/\gL (jp n RY k s p U d E).2/\
  ∃c:Nat,c<=k/\Gs E (jp n RY k s p U d E).2 c/\(dX n RY k s p U d).1.count=IntKind.u64.wrap (s.count+(c:Int))
 |0,s,p,U,d,E,h,hE=>⟨rfl,hE,0,aL _,⟨λh1 h2 _=>⟨h1,h2,by show E.Sl+E.Sh=_;omega,Int.le_refl _⟩,rfl⟩,by
   show s.count=IntKind.u64.wrap (s.count+0);have:=h.wf.count;rw[aK];omega⟩
 |k+1,s,p,U,d,E,h,hE=>by
  have hw:∀x:Int,0<=x->x<=1000000000->IntKind.i64.wrap (x+1)=x+1:=λx h1 h2=>by rw[bA];omega
  unfold jp dX;cases hf:df n U.m p with
  |none=>exact⟨rfl,hE.same rfl rfl rfl,1,by omega,⟨λh1 h2 h3=>⟨h1,by grind,by grind,Int.le_refl _⟩,rfl⟩,rfl⟩
  |some o=>
   obtain⟨⟨op,nn⟩,z⟩:=o;obtain⟨f1, -⟩:=mw h.u.m hf;have hg:=wj (op:=op) (nn:=nn) h.wf h.right f1 h.u h.dv;have hl:=un (n:=n) (op:=op) (nn:=nn) (s:=s) (U:=U) h.lines;obtain⟨⟨q,U1,d1⟩,hq⟩:=Zgn (pG n s op nn U d);rw[hq]at hg hl;obtain⟨g1,g2,g3,g4,g5,g6⟩:=hg;dsimp only at g1 g2 g3 g4 g5 g6 hl|-;rw[hq];dsimp only;have hE1:gL {E with Sh:=IntKind.i64.wrap (E.Sh+1)}:=hE.same rfl rfl rfl;have hE2:=hE1.turn q.RG;obtain⟨u1,u2,u3⟩:=Js {E with Sh:=IntKind.i64.wrap (E.Sh+1)} q.RG;obtain⟨E2,hE2e⟩:=Zgn (mV {E with Sh:=IntKind.i64.wrap (E.Sh+1)} q.RG);rw[hE2e]at hE2 u1 u2 u3|-;dsimp only at u1 u2 u3;have hu:Gs E E2 1:=⟨λh1 h2 h3=>by
    grind,u3⟩
   cases jN op q RY s.pc with
   |false=>grind
   |true=>
    rw[ai,ai];obtain⟨r1,r2,c,r3,r4,r5⟩:=zt k ((p+z)%4294967296) (s:=q.s) (U:=U1) (d:=d1) (E:=E2) ⟨g1,g2,g4,g5,hl⟩ hE2;refine⟨r1,r2,c+1,by omega,⟨λh1 h2 h3=>?_,r4.room.trans u3⟩,?_⟩
    .obtain⟨a1,a2,a3,a4⟩:=hu.Sl h1 h2 Wq1;obtain⟨b1,b2,b3,b4⟩:=r4.Sl a1 a2 Wq1;omega
    rw[r5,g3,nT,show(1:Int)+(c:Int)=((c+1:Nat):Int) by omega]
end
end Go.Ink
