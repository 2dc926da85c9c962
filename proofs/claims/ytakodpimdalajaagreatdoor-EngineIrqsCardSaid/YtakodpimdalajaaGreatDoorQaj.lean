/- Lemmas. -/
import Derived.Test.YtakodpimdalajaaGreatDoorQaa
import Derived.Test.YtakodpimdalajaaGreatDoorQab
import Derived.Test.YtakodpimdalajaaGreatDoorQah
set_option linter.unusedSimpArgs false
set_option linter.unusedVariables false
set_option maxRecDepth 100000
set_option maxHeartbeats 4000000
namespace Go.Ink
open Go.RowKit
structure fD(w w':Lw):Prop where
 nd:w.d.Ic≤w'.d.Ic
 nr:w.r.Ic≤w'.r.Ic
 hd:w.d.high≤w'.d.high
 hr:w.r.high≤w'.r.high
theorem fD.trans{a b c:Lw}(h:fD a b)(k:fD b c):fD a c:=⟨Int.le_trans h.nd k.nd,Int.le_trans h.nr k.nr,Int.le_trans h.hd k.hd,Int.le_trans h.hr k.hr⟩
theorem fD.refl(w:Lw):fD w w:=⟨bE _,bE _,bE _,bE _⟩
theorem mm(k:Int)(c:List II)(s:Sd):s.Ic≤(eU k c s).2.2.Ic∧(eU k c s).2.2.high=s.high:=by
 unfold eU;cases s.l.getLast? with
 |some n=>exact⟨bE _,rfl⟩
 |none=>exact⟨by show s.Ic≤s.Ic+1;omega,rfl⟩
theorem dG(w:Lw):fD w w.Ig.2:=⟨(mm 1 w.code w.d).1,bE _,Int.le_of_eq (mm 1 w.code w.d).2.symm,bE _⟩
theorem ig(w:Lw):fD w w.IJ.2:=⟨bE _,(mm 2 w.code w.r).1,bE _,Int.le_of_eq (mm 2 w.code w.r).2.symm⟩
theorem BM(w:Lw):fD w w.Ih:=⟨bE _,bE _,Int.le_max_left _ _,Int.le_max_left _ _⟩
theorem vT{op:Int}(hp:dA op=true)(w:Lw)(n nx:Int):fD w (w.one op n nx):=by
 refine fD.trans ?_ (BM _);have hs:fD w w.Ig.2.Ig.2:=(dG w).trans (dG w.Ig.2);rcases nO hp with rfl|rfl|rfl|rfl|rfl|rfl|rfl|rfl|rfl|hr|hr|rfl|hr|rfl|rfl|rfl
 ·exact⟨(fD.refl w).nd,(fD.refl w).nr,(fD.refl w).hd,(fD.refl w).hr⟩
 ·exact⟨(fD.refl w).nd,(fD.refl w).nr,(fD.refl w).hd,(fD.refl w).hr⟩
 ·exact⟨(fD.refl w).nd,(fD.refl w).nr,(fD.refl w).hd,(fD.refl w).hr⟩
 ·exact⟨(dG w).nd,(dG w).nr,(dG w).hd,(dG w).hr⟩
 ·exact⟨(dG w).nd,(dG w).nr,(dG w).hd,(dG w).hr⟩
 ·exact⟨(hs).nd,(hs).nr,(hs).hd,(hs).hr⟩
 ·exact⟨(hs).nd,(hs).nr,(hs).hd,(hs).hr⟩
 ·exact⟨(dG w).nd,(dG w).nr,(dG w).hd,(dG w).hr⟩
 ·exact⟨(ig w).nd,(ig w).nr,(ig w).hd,(ig w).hr⟩
 ·rw[kC (Or.inl hr)];unfold Lw.reckon;rw[show(op !=25)=true by simp;omega];exact⟨(hs).nd,(hs).nr,(hs).hd,(hs).hr⟩
 ·rw[kC (Or.inr hr)];subst hr;exact⟨(hs).nd,(hs).nr,(hs).hd,(hs).hr⟩
 ·exact⟨(fD.refl w).nd,(fD.refl w).nr,(fD.refl w).hd,(fD.refl w).hr⟩
 ·have h5:op=33∨op=34∨op=35∨op=36∨op=37:=by omega
  rcases h5 with rfl|rfl|rfl|rfl|rfl<;>exact⟨(fD.refl w).nd,(fD.refl w).nr,(fD.refl w).hd,(fD.refl w).hr⟩
 ·exact⟨(fD.refl w).nd,(fD.refl w).nr,(fD.refl w).hd,(fD.refl w).hr⟩
 ·exact⟨(ig w).nd,(ig w).nr,(ig w).hd,(ig w).hr⟩
 exact⟨(dG w).nd,(dG w).nr,(dG w).hd,(dG w).hr⟩
theorem oS{a:Nat}(ha:a<18446744073709551616):(BitVec.ofInt IntKind.u64.bits (a:Int)).toNat=a:=by rw[BitVec.toNat_ofInt];show((a:Int)%((18446744073709551616:Nat):Int)).toNat=a;omega
theorem oT{a:Nat}(ha:a<4294967296):(BitVec.ofInt IntKind.u32.bits (a:Int)).toNat=a:=by rw[BitVec.toNat_ofInt];show((a:Int)%((4294967296:Nat):Int)).toNat=a;omega
theorem Ek{a b:Nat}(ha:a<18446744073709551616)(hb:b<18446744073709551616):bits .and .u64 (a:Int) (b:Int)=((a&&&b:Nat):Int):=by
  have h3:a&&&b≤a:=Nat.and_le_left;unfold bits;simp only;rw[aU,BitVec.toNat_and,oS ha,oS hb];omega
theorem or64{a b:Nat}(ha:a<18446744073709551616)(hb:b<18446744073709551616):bits .or .u64 (a:Int) (b:Int)=((a|||b:Nat):Int):=by
  have h3:a|||b<2^64:=Nat.or_lt_two_pow ha hb
  unfold bits;simp only;rw[aU,BitVec.toNat_or,oS ha,oS hb];omega
theorem zA{a b:Nat}(ha:a<18446744073709551616)(hb:b<18446744073709551616):bits .xor .u64 (a:Int) (b:Int)=((a^^^b:Nat):Int):=by
  have h3:a^^^b<2^64:=Nat.xor_lt_two_pow ha hb;unfold bits;simp only;rw[aU,BitVec.toNat_xor,oS ha,oS hb];omega
theorem El{a b:Nat}(ha:a<4294967296)(hb:b<4294967296):bits .and .u32 (a:Int) (b:Int)=((a&&&b:Nat):Int):=by
  have h3:a&&&b≤a:=Nat.and_le_left;unfold bits;simp only;rw[aE,BitVec.toNat_and,oT ha,oT hb];omega
theorem or32{a b:Nat}(ha:a<4294967296)(hb:b<4294967296):bits .or .u32 (a:Int) (b:Int)=((a|||b:Nat):Int):=by
  have h3:a|||b<2^32:=Nat.or_lt_two_pow ha hb
  unfold bits;simp only;rw[aE,BitVec.toNat_or,oT ha,oT hb];omega
theorem zB{a b:Nat}(ha:a<4294967296)(hb:b<4294967296):bits .xor .u32 (a:Int) (b:Int)=((a^^^b:Nat):Int):=by
  have h3:a^^^b<2^32:=Nat.xor_lt_two_pow ha hb;unfold bits;simp only;rw[aE,BitVec.toNat_xor,oT ha,oT hb];omega
theorem low64(z:Int):bits .and .u64 (IntKind.u64.wrap z) 4294967295=IntKind.u32.wrap z:=by
  obtain⟨n,hn⟩:∃n:Nat,IntKind.u64.wrap z=n:=ar (by rw[aU];omega);have h1:n<18446744073709551616:=by rw[aU]at hn;omega
  rw[hn,show(4294967295:Int)=((4294967295:Nat):Int)from rfl,Ek h1 (by decide),show(4294967295:Nat)=2^32 - 1 from rfl,Nat.and_two_pow_sub_one_eq_mod];rw[aU]at hn;rw[aE];omega
theorem ip{a b:Nat}(ha:a<4294967296)(hb:b<4294967296):a^^^b<4294967296:=Nat.xor_lt_two_pow (n:=32) ha hb
theorem qj{a b:Nat}(ha:a<4294967296):a&&&b<4294967296:=Nat.lt_of_le_of_lt Nat.and_le_left ha
theorem top32{a:Nat}(ha:a<4294967296):(bits .and .u32 (a:Int) 2147483648 !=0)=decide (2147483648≤a):=by
  have h1:=El ha (show 2147483648<4294967296 by decide);rw[show((2147483648:Nat):Int)=2147483648 from rfl]at h1;rw[h1];have h2:a&&&2147483648=if 2147483648≤a then 2147483648 else 0:=by
    apply Nat.eq_of_testBit_eq;intro i;rw[show(2147483648:Nat)=2^31 from rfl,Nat.testBit_and,Nat.testBit_two_pow];by_cases e:31=i
    · subst e
      rw[Nat.testBit_eq_decide_div_mod_eq];by_cases h:2^31≤a
      · rw[if_pos h,Nat.testBit_two_pow,aB (show a/2^31%2=1 by omega)];rfl
      rw[if_neg h,aD (show¬a/2^31%2=1 by omega)];rfl
    rw[aD e,Bool.and_false];split
    · rw[Nat.testBit_two_pow,aD e]
    rw[Nat.zero_testBit]
  rw[h2];by_cases h:2147483648≤a
  · rw[if_pos h,aB h];rfl
  rw[if_neg h,aD h];rfl
theorem shr31{a:Nat}(ha:a<4294967296):(a:Int).fdiv (2^(min (Int.toNat 31) IntKind.u64.bits))=b2i (decide (2147483648≤a)):=by
  show(a:Int).fdiv 2147483648=_;by_cases h:2147483648≤a
  · rw[aB h];show(a:Int).fdiv 2147483648=1;rw[Int.fdiv_eq_ediv_of_nonneg _ (by decide)];omega
  rw[aD h];show(a:Int).fdiv 2147483648=0;rw[Int.fdiv_eq_ediv_of_nonneg _ (by decide)];omega
structure HI where
  op:Int
  rd:Int
  ra:Int
  rb:Int
  imm:Int
def HI.zero:HI:=⟨0,0,0,0,0⟩
structure HM where
  Ix:List Int
  words:List Int
  pc:Int
def eN(op a b:Int):Int:=
  bif op==2 then a else bif op==3 then IntKind.u64.wrap (a+b)else bif op==4 then IntKind.u64.wrap (a - b)else bif op==5 then bits .and .u64 a b else bif op==6 then bits .or .u64 a b else bif op==7 then bits .xor .u64 a b else
  bif op==8 then IntKind.u64.wrap (a*2^(min b.toNat IntKind.u64.bits))else bif op==9 then a.fdiv (2^(min b.toNat IntKind.u64.bits))else bif op==10 then IntKind.u64.wrap (a*b)else
  bif op==11 then(bif b==0 then 0 else IntKind.u64.wrap (a.tdiv b))else bif op==12 then b2i (decide (a<b))else b2i (a==b)
abbrev rg(R:List Int)(k:Int):Int:=R.getD k.toNat 0
def nX(R:List Int)(i:HI):Int:=IntKind.u64.wrap (rg R i.ra+i.imm)
def hdo(i:HI)(m:HM):Int×HM:=
  bif i.op==0 then(0,⟨m.Ix,m.words,m.pc+1⟩)else
  bif i.op==1 then(0,⟨m.Ix.set i.rd.toNat i.imm,m.words,m.pc+1⟩)else
  bif i.op==14||i.op==15 then
    (bif decide ((m.words.length:Int)≤nX m.Ix i)then(4,m)else
     bif i.op==14 then(0,⟨m.Ix.set i.rd.toNat (m.words.getD (nX m.Ix i).toNat 0),m.words,m.pc+1⟩)
     else(0,⟨m.Ix,m.words.set (nX m.Ix i).toNat (IntKind.u32.wrap (rg m.Ix i.rb)),m.pc+1⟩))else
  bif i.op==16||i.op==17 then(0,⟨m.Ix,m.words,bif(rg m.Ix i.ra==0)==(i.op==16)then i.imm else m.pc+1⟩)else
  bif i.op==18 then(0,⟨m.Ix,m.words,i.imm⟩)else
  bif i.op==19 then(1,m)else(0,⟨m.Ix.set i.rd.toNat (eN i.op (rg m.Ix i.ra) (rg m.Ix i.rb)),m.words,m.pc+1⟩)
def Im(C:List HI)(m:HM):Int×HM:=
  bif decide (m.pc<0)||decide ((C.length:Int)≤m.pc)then(2,m)else hdo (C.getD m.pc.toNat HI.zero) m
def iR(C:List HI):Nat→HM→(Int×Int)×HM
  |0,m=>((5,0),m)
  |f+1,m=>bif(Im C m).1==0 then iR C f (Im C m).2 else bif(Im C m).1==1 then((1,(C.getD (Im C m).2.pc.toNat HI.zero).imm),(Im C m).2)else(((Im C m).1,0),(Im C m).2)
structure HGo(C:List HI)(k:Nat)(l:List HI)(R W:List Int)(M:HM):Prop where
  at_:C.drop k=l
  rl:R.length=16
  wl:W.length=256
  ends:∃f,iR C f ⟨R,W,(k:Int)⟩=((1,1),M)
section
variable {C l:List HI} {k:Nat} {R W:List Int} {M:HM} {i:HI}
theorem HGo.code(h:HGo C k (i::l) R W M):k<C.length∧C.getD k HI.zero=i∧C.drop (k+1)=l:=by
  have h1:=h.at_;have h2:k<C.length:=by
    by_cases hk:k<C.length
    · exact hk
    rw[List.drop_eq_nil_of_le (by omega)]at h1;cases h1
  rw[List.drop_eq_getElem_cons h2]at h1;injection h1 with h3 h4
  exact⟨h2,by rw[aw,ao h2,h3];rfl,h4⟩
theorem HGo.Im(h:HGo C k (i::l) R W M):Im C ⟨R,W,(k:Int)⟩=hdo i ⟨R,W,(k:Int)⟩:=by
  obtain⟨h1,h2,h3⟩:=h.code;unfold Ink.Im;rw[show decide ((k:Int)<0)=false from aD (by omega),show decide ((C.length:Int)≤(k:Int))=false from aD (by omega)];show hdo (C.getD ((k:Int)).toNat HI.zero) _=_;rw[aQ,h2]
theorem HGo.on{R' W':List Int}{j:Nat}{l':List HI}(h:HGo C k (i::l) R W M)(hd:hdo i ⟨R,W,(k:Int)⟩=(0,⟨R',W',(j:Int)⟩))(hr:R'.length=16)(hw:W'.length=256)(hl:C.drop j=l'):HGo C j l' R' W' M:=by
  refine⟨hl,hr,hw,?_⟩;obtain⟨f,hf⟩:=h.ends;cases f with
  |zero=>cases hf
  |succ f=>
    refine⟨f,?_⟩;unfold iR at hf;rw[h.Im,hd]at hf;exact hf
theorem HGo.exit{imm:Int}(h:HGo C k (⟨19,0,0,0,imm⟩::l) R W M):imm=1∧M=⟨R,W,(k:Int)⟩:=by
  obtain⟨f,hf⟩:=h.ends;cases f with
  |zero=>cases hf
  |succ f=>
    unfold iR at hf;rw[h.Im]at hf;have e:hdo ⟨19,0,0,0,imm⟩ ⟨R,W,(k:Int)⟩=(1,⟨R,W,(k:Int)⟩):=rfl;rw[e]at hf;dsimp only at hf;rw[show((1:Int)==0)=false from rfl,show((1:Int)==1)=true from rfl,aa,ac]at hf;have h2:(((1:Int),(C.getD ((k:Int)).toNat HI.zero).imm),(⟨R,W,(k:Int)⟩:HM))=(((1:Int),(1:Int)),M):=hf;rw[aQ,h.code.2.1]at h2;injection h2 with h3 h4
    injection h3 with h5 h6
    exact⟨h6,h4.symm⟩
theorem cV{R:List Int}{j:Nat}{v:Int}(hj:j<R.length):(R.set j v).getD j 0=v:=by
  rw[aw,List.getElem?_set_self hj];rfl
theorem cF{R:List Int}{i j:Nat}{v:Int}(h:i≠j):(R.set i v).getD j 0=R.getD j 0:=by
  rw[aw,List.getElem?_set_ne h,←aw]
def jW(except:List Nat)(R R':List Int):Prop:=∀j,j∉except→R'.getD j 0=R.getD j 0
theorem jW.refl(e:List Nat)(R:List Int):jW e R R:=fun _ _=>rfl
theorem jW.trans{e e':List Nat}{A B D:List Int}(h:jW e A B)(h':jW e' B D){e2:List Nat}(hs:∀x,x∈e∨x∈e'→x∈e2):jW e2 A D:=fun j hj=>(h' j fun hx=>hj (hs j (Or.inr hx))).trans (h j fun hx=>hj (hs j (Or.inl hx)))
theorem jW.set(R:List Int)(j:Nat)(v:Int){e:List Nat}(hj:j∈e):jW e R (R.set j v):=fun i hi=>cF (fun h=>hi (h▸hj))
theorem HGo.li{rd:Nat}{v:Int}(h:HGo C k (⟨1,(rd:Int),0,0,v⟩::l) R W M):HGo C (k+1) l (R.set rd v) W M:=
  h.on rfl (by rw[aI,h.rl]) h.wl h.code.2.2
theorem HGo.op{op:Int}{rd ra rb:Nat}{v:Int}(h:HGo C k (⟨op,(rd:Int),(ra:Int),(rb:Int),0⟩::l) R W M)(h2:2≤op)(h13:op≤13)(hv:eN op (R.getD ra 0) (R.getD rb 0)=v):HGo C (k+1) l (R.set rd v) W M:=by
  refine h.on ?_ (by rw[aI,h.rl]) h.wl h.code.2.2;unfold hdo;show(bif op==0 then _ else bif op==1 then _ else bif op==14||op==15 then _ else bif op==16||op==17 then _ else bif op==18 then _ else bif op==19 then _ else _)=_;rw[show(op==0)=false by simp;omega,show(op==1)=false by simp;omega,show(op==14)=false by simp;omega,show(op==15)=false by simp;omega,show(op==16)=false by simp;omega,show(op==17)=false by simp;omega,show(op==18)=false by simp;omega,show(op==19)=false by simp;omega];show(0,(⟨R.set ((rd:Int)).toNat (eN op (R.getD ((ra:Int)).toNat 0) (R.getD ((rb:Int)).toNat 0)),W,(k:Int)+1⟩:HM))=_;rw[aQ,aQ,aQ,hv]
  rfl
theorem HGo.mov{rd ra:Nat}(h:HGo C k (⟨2,(rd:Int),(ra:Int),0,0⟩::l) R W M):HGo C (k+1) l (R.set rd (R.getD ra 0)) W M:=
  HGo.op (rb:=0) h (by decide) (by decide) rfl
theorem HGo.ld{rd ra p:Nat}{im:Int}(h:HGo C k (⟨14,(rd:Int),(ra:Int),0,im⟩::l) R W M)(hp:IntKind.u64.wrap (R.getD ra 0+im)=(p:Int))(hp2:p<256):HGo C (k+1) l (R.set rd (W.getD p 0)) W M:=by
  refine h.on ?_ (by rw[aI,h.rl]) h.wl h.code.2.2;have e:nX R ⟨14,(rd:Int),(ra:Int),0,im⟩=(p:Int):=hp;unfold hdo;dsimp only;rw[e,show decide ((W.length:Int)≤(p:Int))=false from aD (by rw[h.wl];omega)]
  rfl
theorem HGo.st{ra rb p:Nat}{im v:Int}(h:HGo C k (⟨15,0,(ra:Int),(rb:Int),im⟩::l) R W M)(hp:IntKind.u64.wrap (R.getD ra 0+im)=(p:Int))(hp2:p<256)(hv:IntKind.u32.wrap (R.getD rb 0)=v):HGo C (k+1) l R (W.set p v) M:=by
  refine h.on ?_ h.rl (by rw[aI,h.wl]) h.code.2.2;have e:nX R ⟨15,0,(ra:Int),(rb:Int),im⟩=(p:Int):=hp;unfold hdo;dsimp only;rw[e,show decide ((W.length:Int)≤(p:Int))=false from aD (by rw[h.wl];omega)];subst hv
  rfl
theorem HGo.bnez{ra j:Nat}{l':List HI}(h:HGo C k (⟨17,0,(ra:Int),0,(j:Int)⟩::l) R W M)(hl:C.drop j=l'):R.getD ra 0=0∧HGo C (k+1) l R W M∨R.getD ra 0≠0∧HGo C j l' R W M:=by
  by_cases h0:R.getD ra 0=0
  · refine Or.inl ⟨h0,h.on ?_ h.rl h.wl h.code.2.2⟩
    show(0,(⟨R,W,bif(R.getD ((ra:Int)).toNat 0==0)==false then(j:Int)else(k:Int)+1⟩:HM))=_;rw[aQ,h0];rfl
  refine Or.inr ⟨h0,h.on ?_ h.rl h.wl hl⟩;show(0,(⟨R,W,bif(R.getD ((ra:Int)).toNat 0==0)==false then(j:Int)else(k:Int)+1⟩:HM))=_;rw[aQ,show(R.getD ra 0==0)=false by simp;simpa using h0];rfl
theorem HGo.beqz{ra j:Nat}{l':List HI}(h:HGo C k (⟨16,0,(ra:Int),0,(j:Int)⟩::l) R W M)(hl:C.drop j=l'):R.getD ra 0≠0∧HGo C (k+1) l R W M∨R.getD ra 0=0∧HGo C j l' R W M:=by
  by_cases h0:R.getD ra 0=0
  · refine Or.inr ⟨h0,h.on ?_ h.rl h.wl hl⟩
    show(0,(⟨R,W,bif(R.getD ((ra:Int)).toNat 0==0)==true then(j:Int)else(k:Int)+1⟩:HM))=_;rw[aQ,h0];rfl
  refine Or.inl ⟨h0,h.on ?_ h.rl h.wl h.code.2.2⟩;show(0,(⟨R,W,bif(R.getD ((ra:Int)).toNat 0==0)==true then(j:Int)else(k:Int)+1⟩:HM))=_;rw[aQ,show(R.getD ra 0==0)=false by simp;simpa using h0];rfl
end
def j7(op:Int):Int:=bif op==16 then 3 else bif op==18 then 5 else bif op==19 then 6 else bif op==20 then 7 else bif op==21 then 8 else bif op==22 then 9 else bif op==23 then 10 else 4
def Ho(r:Int):List HI:=[⟨1,12,0,0,4294967295⟩,⟨5,r,r,12,0⟩]
def uE(op:Int):Bool:=op==18||op==19||op==20||op==22
def tJ(op rd a b:Int):List HI:=⟨j7 op,rd,a,b,0⟩::(bif uE op then[]else Ho rd)
def r8(r up:Int):List HI:=[⟨1,12,0,0,up⟩,⟨8,r,r,12,0⟩,⟨6,10,10,r,0⟩]
def gL(rd r:Int):List HI:=[⟨1,12,0,0,31⟩,⟨9,rd,r,12,0⟩]
def gv:List HI:=⟨5,11,11,12,0⟩::(gL 11 11++r8 11 3)
def fY(op a b:Int):List HI:=tJ op 9 a b++(⟨13,10,9,15,0⟩::(gL 11 9++r8 11 1))
def jM(a b:Int):List HI:=⟨12,11,9,a,0⟩::(r8 11 2++(⟨7,11,a,9,0⟩::⟨7,12,b,9,0⟩::gv))
def jL(a b:Int):List HI:=⟨12,11,a,b,0⟩::(r8 11 2++(⟨7,11,a,b,0⟩::⟨7,12,a,9,0⟩::gv))
def kW(op a b:Int):List HI:=fY op a b++(bif op==16 then jM a b else bif op==17||op==25 then jL a b else[])
def sa(op x y:Int):Int:=bif op==25 then IntKind.u32.wrap (x - y)else(ij op x y).1
section
variable {C l:List HI} {k:Nat} {R W:List Int} {M:HM}
theorem HGo.low{rd:Nat}{z:Int}(h:HGo C k (Ho rd++l) R W M)(hz:R.getD rd 0=IntKind.u64.wrap z)(hr:rd<12):∃k' R',HGo C k' l R' W M∧R'.getD rd 0=IntKind.u32.wrap z∧jW [rd,12] R R':=by
 have h1:=HGo.li (rd:=12) h;have hl:=h1.rl;have e1:(R.set 12 4294967295).getD rd 0=IntKind.u64.wrap z:=by rw[cF (by omega),hz]
 have e2:(R.set 12 4294967295).getD 12 0=4294967295:=cV (by rw[h.rl];decide);have h2:=HGo.op (rd:=rd) (ra:=rd) (rb:=12) (v:=IntKind.u32.wrap z) h1 (by decide) (by decide) (by rw[e1,e2];exact low64 z);refine⟨_,_,h2,cV (by rw[hl];omega),?_⟩;exact(jW.set R 12 _ (e:=[rd,12]) (by simp)).trans (jW.set _ rd _ (e:=[rd,12]) (by simp)) (by intro x hx;simpa using hx)
theorem qk{op:Int}{x y:Nat}(hop:(16≤op∧op≤23)∨op=25)(hx:x<4294967296)(hy:y<4294967296):∃r:Nat,sa op x y=r∧r<4294967296:=by
 have hw:∀z:Int,∃r:Nat,IntKind.u32.wrap z=r∧r<4294967296:=fun z=>by
  rw[aE];exact⟨(z%4294967296).toNat,by omega,by omega⟩
 have h:op=16∨op=17∨op=18∨op=19∨op=20∨op=21∨op=22∨op=23∨op=25:=by omega
 rcases h with rfl|rfl|rfl|rfl|rfl|rfl|rfl|rfl|rfl
 ·exact hw _
 ·exact hw _
 ·exact⟨x&&&y,El hx hy,qj hx⟩
 ·exact⟨x|||y,or32 hx hy,Nat.or_lt_two_pow (n:=32) hx hy⟩
 ·exact⟨x^^^y,zB hx hy,ip hx hy⟩
 ·show∃r:Nat,gP (x:Int) (y:Int) true=r∧_;unfold gP;cases decide (32≤(y:Int))with
  |true=>exact⟨0,rfl,by decide⟩
  |false=>exact hw _
 ·show∃r:Nat,gP (x:Int) (y:Int) false=r∧_;unfold gP;cases decide (32≤(y:Int))with
  |true=>exact⟨0,rfl,by decide⟩
  |false=>
   refine⟨x/2^(min y IntKind.u32.bits),?_,Nat.lt_of_le_of_lt (Nat.div_le_self _ _) hx⟩;show(x:Int).fdiv (2^(min ((y:Int)).toNat IntKind.u32.bits))=_;rw[aQ,Int.fdiv_eq_ediv_of_nonneg _ (by exact Int.le_of_lt (Int.pow_pos (by decide)))];simp
 ·exact hw _
 exact hw _
theorem shl64{x y:Nat}:IntKind.u32.wrap ((x:Int)*2^(min ((y:Int)).toNat IntKind.u64.bits))=gP (x:Int) (y:Int) true:=by
 unfold gP;rw[aQ];by_cases h:32≤y
 ·rw[aB (show 32≤(y:Int) by omega)];show _=(0:Int);obtain⟨m,hm⟩:∃m,min y IntKind.u64.bits=32+m:=⟨min y IntKind.u64.bits - 32,by show min y 64=32+(min y 64 - 32);omega⟩;rw[hm,Int.pow_add,←Int.mul_assoc,Int.mul_comm (x:Int),Int.mul_assoc,aE];exact Int.mul_emod_right _ _
 rw[aD (show¬32≤(y:Int) by omega)];show _=IntKind.u32.wrap ((x:Int)*2^(min y IntKind.u32.bits));rw[show min y IntKind.u64.bits=y by show min y 64=y;omega,show min y IntKind.u32.bits=y by show min y 32=y;omega]
theorem shr64{x y:Nat}(hx:x<4294967296):(x:Int).fdiv (2^(min ((y:Int)).toNat IntKind.u64.bits))=gP (x:Int) (y:Int) false:=by
 unfold gP;rw[aQ];by_cases h:32≤y
 ·rw[aB (show 32≤(y:Int) by omega)];show _=(0:Int);obtain⟨m,hm⟩:∃m,min y IntKind.u64.bits=32+m:=⟨min y IntKind.u64.bits - 32,by show min y 64=32+(min y 64 - 32);omega⟩;rw[hm,Int.fdiv_eq_ediv_of_nonneg _ (by exact Int.le_of_lt (Int.pow_pos (by decide)))];refine Int.ediv_eq_zero_of_lt (by omega) ?_;have h1:(2:Nat)^32≤2^(32+m):=Nat.pow_le_pow_right (by decide) (by omega);have h2:((2:Nat)^(32+m):Nat)=((2:Int)^(32+m)):=by simp
  rw[←h2];have:(4294967296:Nat)≤2^(32+m):=h1;omega
 rw[aD (show¬32≤(y:Int) by omega)];show _=(x:Int).fdiv (2^(min y IntKind.u32.bits));rw[show min y IntKind.u64.bits=y by show min y 64=y;omega,show min y IntKind.u32.bits=y by show min y 32=y;omega]
theorem HGo.alu{op:Int}{rd ra rb x y:Nat}(hop:(16≤op∧op≤23)∨op=25)(h:HGo C k (tJ op rd ra rb++l) R W M)(hrd:rd<12)(hx:R.getD ra 0=x)(hy:R.getD rb 0=y)(hx2:x<4294967296)(hy2:y<4294967296):
  ∃k' R',HGo C k' l R' W M∧R'.getD rd 0=sa op x y∧jW [rd,12] R R':=by
 have hl:=h.rl;have hlow:∀(o:Int) (z:Int),2≤o→o≤13→HGo C k (⟨o,(rd:Int),(ra:Int),(rb:Int),0⟩::(Ho rd++l)) R W M→eN o x y=IntKind.u64.wrap z→
   ∃k' R',HGo C k' l R' W M∧R'.getD rd 0=IntKind.u32.wrap z∧jW [rd,12] R R':=fun o z h1 h2 g hz=>by
  have g1:=HGo.op g h1 h2 (v:=IntKind.u64.wrap z) (by rw[hx,hy,hz]);obtain⟨k',R',g2,g3,g4⟩:=g1.low (cV (by omega)) hrd;exact⟨k',R',g2,g3,(jW.set R rd _ (e:=[rd,12]) (by simp)).trans g4 (by intro x hx;simpa using hx)⟩
 have hno:∀(o z:Int),2≤o→o≤13→HGo C k (⟨o,(rd:Int),(ra:Int),(rb:Int),0⟩::l) R W M→eN o x y=z→∃k' R',HGo C k' l R' W M∧R'.getD rd 0=z∧jW [rd,12] R R':=fun o z h1 h2 g hz=>
  ⟨_,_,HGo.op g h1 h2 (v:=z) (by rw[hx,hy,hz]),cV (by omega),jW.set R rd _ (by simp)⟩
 have h8:op=16∨op=17∨op=18∨op=19∨op=20∨op=21∨op=22∨op=23∨op=25:=by omega
 rcases h8 with rfl|rfl|rfl|rfl|rfl|rfl|rfl|rfl|rfl
 ·exact hlow 3 _ (by decide) (by decide) h rfl
 ·exact hlow 4 _ (by decide) (by decide) h rfl
 ·exact hno 5 _ (by decide) (by decide) h (show bits .and .u64 (x:Int) (y:Int)=bits .and .u32 (x:Int) (y:Int) by rw[Ek (by omega) (by omega),El hx2 hy2])
 ·exact hno 6 _ (by decide) (by decide) h (show bits .or .u64 (x:Int) (y:Int)=bits .or .u32 (x:Int) (y:Int) by rw[or64 (by omega) (by omega),or32 hx2 hy2])
 ·exact hno 7 _ (by decide) (by decide) h (show bits .xor .u64 (x:Int) (y:Int)=bits .xor .u32 (x:Int) (y:Int) by rw[zA (by omega) (by omega),zB hx2 hy2])
 ·obtain⟨k',R',g1,g2,g3⟩:=hlow 8 _ (by decide) (by decide) h rfl;exact⟨k',R',g1,g2.trans shl64,g3⟩
 ·exact hno 9 _ (by decide) (by decide) h (shr64 hx2)
 ·exact hlow 10 _ (by decide) (by decide) h rfl
 exact hlow 4 _ (by decide) (by decide) h rfl
theorem zp:∀(a b c d:Bool),bits .or .u64 (b2i a) (IntKind.u64.wrap (b2i b*2^(min (Int.toNat 1) IntKind.u64.bits)))=b2i a+2*b2i b∧bits .or .u64 (b2i a+2*b2i b) (IntKind.u64.wrap (b2i c*2^(min (Int.toNat 2) IntKind.u64.bits)))=b2i a+2*b2i b+4*b2i c∧
  bits .or .u64 (b2i a+2*b2i b+4*b2i c) (IntKind.u64.wrap (b2i d*2^(min (Int.toNat 3) IntKind.u64.bits)))=b2i a+2*b2i b+4*b2i c+8*b2i d:=by decide+kernel
theorem HGo.bit{up s c s':Int}(h:HGo C k (r8 11 up++l) R W M)(hs:R.getD 10 0=s)(hc:R.getD 11 0=c)(h':bits .or .u64 s (IntKind.u64.wrap (c*2^(min up.toNat IntKind.u64.bits)))=s'):
  ∃k' R',HGo C k' l R' W M∧R'.getD 10 0=s'∧jW [10,11,12] R R':=by
 have hl:=h.rl;have h1:=HGo.li (rd:=12) h;have h2:=HGo.op (rd:=11) (ra:=11) (rb:=12) (v:=IntKind.u64.wrap (c*2^(min up.toNat IntKind.u64.bits))) h1 (by decide) (by decide) (by rw[cF (by decide),hc,cV (by omega)];rfl);have h3:=HGo.op (rd:=10) (ra:=10) (rb:=11) (v:=s') h2 (by decide) (by decide) (by rw[cF (by decide),cF (by decide),hs,cV (by rw[aI];omega)];exact h');refine⟨_,_,h3,cV (by simp only[aI];omega),?_⟩;exact((jW.set R 12 _ (e:=[10,11,12]) (by simp)).trans (jW.set _ 11 _ (e:=[10,11,12]) (by simp)) (e2:=[10,11,12]) (by intro x hx;simpa using hx)).trans (jW.set _ 10 _ (e:=[10,11,12]) (by simp)) (by intro x hx;simpa using hx)
theorem HGo.signed{rd r x:Nat}(h:HGo C k (gL rd r++l) R W M)(hrd:rd<12)(hr:r<12)(hx:R.getD r 0=x)(hx2:x<4294967296):∃k' R',HGo C k' l R' W M∧R'.getD rd 0=b2i (decide (2147483648≤x))∧jW [rd,12] R R':=by
 have hl:=h.rl;have h1:=HGo.li (rd:=12) h;have h2:=HGo.op (rd:=rd) (ra:=r) (rb:=12) (v:=b2i (decide (2147483648≤x))) h1 (by decide) (by decide) (by rw[cF (by omega),hx,cV (by omega)];exact shr31 hx2);refine⟨_,_,h2,cV (by rw[aI];omega),?_⟩;exact(jW.set R 12 _ (e:=[rd,12]) (by simp)).trans (jW.set _ rd _ (e:=[rd,12]) (by simp)) (by intro x hx;simpa using hx)
theorem iW{r:Nat}(hr:r<4294967296):dE (r:Int)=b2i ((r:Int)==0)+2*b2i (decide (2147483648≤r)):=by
 unfold dE;rw[top32 hr];cases(r:Int)==0<;>cases decide (2147483648≤r)<;>rfl
theorem rA(a b r o:Int)(p q c:Bool):jc a b r (b2i p+2*b2i q) c o=b2i p+2*b2i q+4*b2i c+8*b2i (o !=0):=by
 unfold jc;cases o !=0<;>cases p<;>cases q<;>cases c<;>rfl
theorem HGo.flagB{op:Int}{ra rb x y:Nat}(hop:(16≤op∧op≤23)∨op=25)(h:HGo C k (fY op ra rb++l) R W M)(h15:R.getD 15 0=0)(hx:R.getD ra 0=x)(hy:R.getD rb 0=y)(hx2:x<4294967296)(hy2:y<4294967296):
  ∃k' R' r,HGo C k' l R' W M∧sa op x y=(r:Nat)∧r<4294967296∧R'.getD 9 0=(r:Int)∧R'.getD 10 0=b2i ((r:Int)==0)+2*b2i (decide (2147483648≤r))∧jW [9,10,11,12] R R':=by
 obtain⟨r,hr,hr2⟩:=qk hop hx2 hy2;have h:HGo C k (tJ op 9 ra rb++(⟨13,10,9,15,0⟩::(gL 11 9++(r8 11 1++l)))) R W M:=by
  have:fY op ra rb++l=tJ op 9 ra rb++(⟨13,10,9,15,0⟩::(gL 11 9++(r8 11 1++l))):=by unfold fY;simp only[aq,aO]
  rwa[this]at h
 obtain⟨k1,R1,g1,g2,g3⟩:=HGo.alu (rd:=9) hop h (by decide) hx hy hx2 hy2;rw[hr]at g2;have g4:=HGo.op (rd:=10) (ra:=9) (rb:=15) (v:=b2i ((r:Int)==0)) g1 (by decide) (by decide) (by rw[g2,g3 15 (by decide),h15];rfl);obtain⟨k2,R2,p1,p2,p3⟩:=HGo.signed (rd:=11) (r:=9) (x:=r) g4 (by decide) (by decide) (by rw[cF (by decide),g2]) hr2;have e10:R2.getD 10 0=b2i ((r:Int)==0):=by rw[p3 10 (by decide),cV (by rw[g1.rl];decide)]
 obtain⟨k3,R3,q1,q2,q3⟩:=HGo.bit p1 e10 p2 (zp ((r:Int)==0) (decide (2147483648≤r)) false false).1;have e9:R3.getD 9 0=(r:Int):=by rw[q3 9 (by decide),p3 9 (by decide),cF (by decide),g2]
 refine⟨k3,R3,r,q1,hr,hr2,e9,q2,?_⟩;intro j hj;simp only[aL,bh,or_false,not_or]at hj;rw[q3 j (by simp;omega),p3 j (by simp;omega),cF (by omega),g3 j (by simp;omega)]
theorem HGo.flagE{p q c:Bool}{u v:Nat}(h:HGo C k (gv++l) R W M)(h10:R.getD 10 0=b2i p+2*b2i q+4*b2i c)(h11:R.getD 11 0=u)(h12:R.getD 12 0=v)(hu:u<4294967296)(hv:v<4294967296):
  ∃k' R',HGo C k' l R' W M∧R'.getD 10 0=b2i p+2*b2i q+4*b2i c+8*b2i (decide (2147483648≤u&&&v))∧jW [10,11,12] R R':=by
 have g1:=HGo.op (rd:=11) (ra:=11) (rb:=12) (v:=((u&&&v:Nat):Int)) (l:=gL 11 11++(r8 11 3++l)) (by
  have:gv++l=⟨5,11,11,12,0⟩::(gL 11 11++(r8 11 3++l)):=by unfold gv;simp only[aq,aO]
  rw[this]at h;exact h) (by decide) (by decide) (by rw[h11,h12];exact Ek (by omega) (by omega))
 obtain⟨k2,R2,p1,p2,p3⟩:=HGo.signed (rd:=11) (r:=11) (x:=u&&&v) g1 (by decide) (by decide) (cV (by rw[h.rl];decide)) (qj hu);obtain⟨k3,R3,q1,q2,q3⟩:=HGo.bit p1 (show R2.getD 10 0=_ by rw[p3 10 (by decide),cF (by decide),h10]) p2 (zp p q c (decide (2147483648≤u&&&v))).2.2;refine⟨k3,R3,q1,q2,?_⟩;intro j hj;simp only[aL,bh,or_false,not_or]at hj;rw[q3 j (by simp;omega),p3 j (by simp;omega),cF (by omega)]
theorem HGo.flag{op:Int}{ra rb x y:Nat}(hop:(16≤op∧op≤23)∨op=25)(h:HGo C k (kW op ra rb++l) R W M)(ha:ra<9)(hb:rb<9)(h15:R.getD 15 0=0)(hx:R.getD ra 0=x)(hy:R.getD rb 0=y)(hx2:x<4294967296)(hy2:y<4294967296):
  ∃k' R',HGo C k' l R' W M∧R'.getD 10 0=(ij op x y).2.1∧jW [9,10,11,12] R R':=by
 have h:HGo C k (fY op ra rb++((bif op==16 then jM ra rb else bif op==17||op==25 then jL ra rb else[])++l)) R W M:=by
  have:kW op ra rb++l=fY op ra rb++((bif op==16 then jM ra rb else bif op==17||op==25 then jL ra rb else[])++l):=by unfold kW;rw[aq]
  rwa[this]at h
 obtain⟨k1,R1,r,g1,g2,g3,g4,g5,g6⟩:=HGo.flagB hop h h15 hx hy hx2 hy2;have ex:R1.getD ra 0=x:=by rw[g6 ra (by simp;omega),hx]
 have ey:R1.getD rb 0=y:=by rw[g6 rb (by simp;omega),hy]
 have hsub:∀op',sa op' x y=(r:Nat)→sa op' x y=IntKind.u32.wrap ((x:Int) - y)→HGo C k1 (jL ra rb++l) R1 W M→∃k' R',HGo C k' l R' W M∧R'.getD 10 0=jN x y∧jW [9,10,11,12] R R':=fun op' e1 e2 g=>by
  have g:HGo C k1 (⟨12,11,(ra:Int),(rb:Int),0⟩::(r8 11 2++(⟨7,11,(ra:Int),(rb:Int),0⟩::⟨7,12,(ra:Int),9,0⟩::(gv++l)))) R1 W M:=by
   have:jL ra rb++l=⟨12,11,(ra:Int),(rb:Int),0⟩::(r8 11 2++(⟨7,11,(ra:Int),(rb:Int),0⟩::⟨7,12,(ra:Int),9,0⟩::(gv++l))):=by unfold jL;simp only[aq,aO]
   rwa[this]at g
  have a1:=HGo.op (rd:=11) (ra:=ra) (rb:=rb) (v:=b2i (decide ((x:Int)<y))) g (by decide) (by decide) (by rw[ex,ey];rfl);obtain⟨k2,R2,b1,b2,b3⟩:=HGo.bit a1 (show(R1.set 11 _).getD 10 0=_ by rw[cF (by decide),g5]) (cV (by rw[g1.rl];decide)) (zp ((r:Int)==0) (decide (2147483648≤r)) (decide ((x:Int)<y)) false).2.1;have c1:=HGo.op (rd:=11) (ra:=ra) (rb:=rb) (v:=((x^^^y:Nat):Int)) b1 (by decide) (by decide) (by rw[b3 ra (by simp;omega),b3 rb (by simp;omega),cF (by omega),cF (by omega),ex,ey];exact zA (by omega) (by omega));have c2:=HGo.op (rd:=12) (ra:=ra) (rb:=9) (v:=((x^^^r:Nat):Int)) c1 (by decide) (by decide) (by rw[cF (by omega),cF (by decide),b3 ra (by simp;omega),b3 9 (by decide),cF (by omega),cF (by decide),ex,g4];exact zA (by omega) (by omega));obtain⟨k3,R3,d1,d2,d3⟩:=HGo.flagE (p:=(r:Int)==0) (q:=decide (2147483648≤r)) (c:=decide ((x:Int)<y)) c2 (by rw[cF (by decide),cF (by decide),b2]) (by rw[cF (by decide)];exact cV (by rw[b1.rl];decide)) (cV (by rw[aI,b1.rl];decide)) (ip hx2 hy2) (ip hx2 g3);refine⟨k3,R3,d1,?_,?_⟩
  ·rw[d2];unfold jN;rw[←e2,e1,iW g3,rA,zB hx2 hy2,zB hx2 g3,El (ip hx2 hy2) (ip hx2 g3),top32 (qj (ip hx2 hy2))]
  intro j hj;simp only[aL,bh,or_false,not_or]at hj;rw[d3 j (by simp;omega),cF (by omega),cF (by omega),b3 j (by simp;omega),cF (by omega),g6 j (by simp;omega)]
 have hno:∀op',sa op' x y=(r:Nat)→HGo C k1 l R1 W M→(ij op' x y).2.1=dE (sa op' x y)→∃k' R',HGo C k' l R' W M∧R'.getD 10 0=(ij op' x y).2.1∧jW [9,10,11,12] R R':=fun op' e1 g e2=>
  ⟨k1,R1,g,by rw[e2,e1,iW g3,g5],g6⟩
 have h8:op=16∨op=17∨op=18∨op=19∨op=20∨op=21∨op=22∨op=23∨op=25:=by omega
 rcases h8 with rfl|rfl|rfl|rfl|rfl|rfl|rfl|rfl|rfl
 ·have g:HGo C k1 (⟨12,11,9,(ra:Int),0⟩::(r8 11 2++(⟨7,11,(ra:Int),9,0⟩::⟨7,12,(rb:Int),9,0⟩::(gv++l)))) R1 W M:=by
   have:jM ra rb++l=⟨12,11,9,(ra:Int),0⟩::(r8 11 2++(⟨7,11,(ra:Int),9,0⟩::⟨7,12,(rb:Int),9,0⟩::(gv++l))):=by unfold jM;simp only[aq,aO]
   have g1:HGo C k1 (jM ra rb++l) R1 W M:=g1;rwa[this]at g1
  have a1:=HGo.op (rd:=11) (ra:=9) (rb:=ra) (v:=b2i (decide ((r:Int)<x))) g (by decide) (by decide) (by rw[ex,g4];rfl);obtain⟨k2,R2,b1,b2,b3⟩:=HGo.bit a1 (show(R1.set 11 _).getD 10 0=_ by rw[cF (by decide),g5]) (cV (by rw[g1.rl];decide)) (zp ((r:Int)==0) (decide (2147483648≤r)) (decide ((r:Int)<x)) false).2.1;have c1:=HGo.op (rd:=11) (ra:=ra) (rb:=9) (v:=((x^^^r:Nat):Int)) b1 (by decide) (by decide) (by rw[b3 ra (by simp;omega),b3 9 (by decide),cF (by omega),cF (by decide),ex,g4];exact zA (by omega) (by omega));have c2:=HGo.op (rd:=12) (ra:=rb) (rb:=9) (v:=((y^^^r:Nat):Int)) c1 (by decide) (by decide) (by rw[cF (by omega),cF (by decide),b3 rb (by simp;omega),b3 9 (by decide),cF (by omega),cF (by decide),ey,g4];exact zA (by omega) (by omega));obtain⟨k3,R3,d1,d2,d3⟩:=HGo.flagE (p:=(r:Int)==0) (q:=decide (2147483648≤r)) (c:=decide ((r:Int)<x)) c2 (by rw[cF (by decide),cF (by decide),b2]) (by rw[cF (by decide)];exact cV (by rw[b1.rl];decide)) (cV (by rw[aI,b1.rl];decide)) (ip hx2 g3) (ip hy2 g3);refine⟨k3,R3,d1,?_,?_⟩
  ·rw[d2];show _=lU x y;unfold lU;have e2:IntKind.u32.wrap ((x:Int)+y)=(r:Int):=g2;rw[e2,iW g3,rA,zB hx2 g3,zB hy2 g3,El (ip hx2 g3) (ip hy2 g3),top32 (qj (ip hx2 g3))]
  intro j hj;simp only[aL,bh,or_false,not_or]at hj;rw[d3 j (by simp;omega),cF (by omega),cF (by omega),b3 j (by simp;omega),cF (by omega),g6 j (by simp;omega)]
 ·exact hsub 17 g2 rfl g1
 ·exact hno 18 g2 g1 rfl
 ·exact hno 19 g2 g1 rfl
 ·exact hno 20 g2 g1 rfl
 ·exact hno 21 g2 g1 rfl
 ·exact hno 22 g2 g1 rfl
 ·exact hno 23 g2 g1 rfl
 exact hsub 25 g2 rfl g1
end
structure Pg where
  code:List II
  Ia:Int
  Ib:Int
  IB:Int
  ID:Int
  Ij:List Int
  Ik:List Int
  flags:Int
  next:Int
  target:Int
  branch:Int
  taken:Int
  count:Int
  values:Int
structure Pl where
  reg:List Int
  slot:List Int
  IC:Int
abbrev Pl.r(pl:Pl)(n:Int):Int:=pl.reg.getD n.toNat 0
abbrev Pl.s(pl:Pl)(n:Int):Int:=pl.slot.getD n.toNat 0
def Pl.inR(pl:Pl)(n:Int):Bool:=decide (0≤pl.r n)
def je(pl:Pl)(n into:Int):List HI:=bif pl.inR n then[]else[⟨14,into,15,0,IntKind.u32.wrap (64+pl.s n)⟩]
def dT(pl:Pl)(n into:Int):Int:=bif pl.inR n then pl.r n else into
def iQ(pl:Pl)(n r:Int):List HI:=bif pl.inR n then[]else[⟨15,0,15,r,IntKind.u32.wrap (64+pl.s n)⟩]
def oR(Ia Ib:Int)(pl:Pl)(n:Int)(x:II):List HI:=
  (bif x.op==0 then[⟨1,dT pl n 9,0,0,x.imm⟩]else
   bif x.op==1 then[⟨14,dT pl n 9,14,0,IntKind.u32.wrap (4+Ia - 1 - x.imm)⟩]else
   bif x.op==2 then[⟨14,dT pl n 9,13,0,IntKind.u32.wrap (20+Ib - 1 - x.imm)⟩]else
   bif x.op==3 then je pl x.a 7++(je pl x.b 8++tJ x.imm (dT pl n 9) (dT pl x.a 7) (dT pl x.b 8))else
   bif x.op==4 then je pl x.a 7++(je pl x.b 8++(kW x.imm (dT pl x.a 7) (dT pl x.b 8)++[⟨2,dT pl n 9,10,0,0⟩]))else[])++iQ pl n (dT pl n 9)
def jq(Ia Ib:Int)(pl:Pl):List II→Nat→List HI
  |[],_=>[]
  |x::c,n=>oR Ia Ib pl n x++jq Ia Ib pl c (n+1)
def sY(pl:Pl)(base from_:Int):List Int→Nat→List HI
  |[],_=>[]
  |n::c,k=>je pl n 7++(⟨15,0,base,dT pl n 7,IntKind.u32.wrap (from_+IntKind.u32.wrap k)⟩::sY pl base from_ c (k+1))
def gV(pl:Pl)(base from_ word:Int)(out:List Int):List HI:=sY pl base from_ out 0++[⟨1,11,0,0,IntKind.u32.wrap out.length⟩,⟨3,11,11,base,0⟩,⟨15,0,15,11,word⟩]
def mQ(e base word Ic IG:Int):List HI:=[⟨14,base,15,0,word⟩,⟨1,11,0,0,IntKind.u32.wrap Ic⟩,⟨12,12,base,11,0⟩,⟨17,0,12,0,e⟩,⟨1,12,0,0,IntKind.u32.wrap IG⟩,⟨12,12,12,base,0⟩,⟨17,0,12,0,e⟩,⟨4,base,base,11,0⟩]
def fx(op:Int):Int:=bif op==33 then 1 else bif op==34 then 1 else bif op==35 then 4 else bif op==36 then 2 else 8
def gO(op:Int):Bool:=bif op==33 then true else bif op==34 then false else true
def gu(p:Pg)(pl:Pl):List HI:=bif decide (0≤p.flags)then⟨1,11,0,0,15⟩::(je pl p.flags 7++[⟨5,11,11,dT pl p.flags 7,0⟩,⟨15,0,15,11,1⟩])else[]
def gf(p:Pg)(pos:Nat):List HI:=bif p.branch !=0 then[⟨14,11,15,0,1⟩,⟨1,12,0,0,fx p.branch⟩,⟨5,11,11,12,0⟩,⟨bif gO p.branch then 16 else 17,0,11,0,IntKind.u32.wrap ((pos+3:Nat)+2)⟩,⟨1,9,0,0,p.taken⟩]else[]
def iN(p:Pg)(pl:Pl):List HI:=bif decide (0≤p.target)then je pl p.target 7++[⟨2,9,dT pl p.target 7,0,0⟩]else[]
def qi(p:Pg)(pl:Pl)(pos:Nat):List HI:=
  gu p pl++(⟨1,9,0,0,p.next⟩::(gf p (pos+(gu p pl).length+1)++(iN p pl++[⟨15,0,15,9,0⟩,⟨1,11,0,0,IntKind.u32.wrap p.count⟩,⟨15,0,15,11,36⟩,⟨19,0,0,0,1⟩])))
def iK(Ic high:Int)(out:Nat):Int:=if 16+Ic - out<16 - high then 16+Ic - out else 16 - high
def Pg.I6(p:Pg):Int:=iK p.Ia p.IB p.Ij.length
def Pg.Jj(p:Pg):Int:=iK p.Ib p.ID p.Ik.length
def Pg.IM(p:Pg):Bool:= !decide (p.I6<p.Ia)
def Pg.IX(p:Pg):Bool:= !decide (p.Jj<p.Ib)
def pR(p:Pg)(e:Int):List HI:=⟨1,15,0,0,0⟩::(mQ e 14 2 p.Ia p.I6++mQ e 13 3 p.Ib p.Jj)
def iq(p:Pg)(pl:Pl):List HI:=jq p.Ia p.Ib pl p.code 0++(gV pl 14 4 2 p.Ij++gV pl 13 20 3 p.Ik)
def fp(p:Pg)(pl:Pl)(e:Int):List HI:=
  bif p.IM then(bif p.IX then pR p e++(iq p pl++qi p pl (17+(iq p pl).length))else⟨1,15,0,0,0⟩::mQ e 14 2 p.Ia p.I6)else[⟨1,15,0,0,0⟩]
def gm(p:Pg)(pl:Pl):List HI:=fp p pl (IntKind.u32.wrap ((fp p pl 0).length:Nat))++[⟨19,0,0,0,2⟩]
def Lo(pl:Pl)(R W:List Int)(n:Int)(v:Int):Prop:=(pl.inR n=true→R.getD (pl.r n).toNat 0=v)∧(pl.inR n=false→W.getD (64+(pl.s n).toNat) 0=v)
def Pl.has(pl:Pl)(n:Int):Prop:=(pl.inR n=true∧pl.r n<7)∨(pl.inR n=false∧0≤pl.s n∧pl.s n<128)
section
variable {C l:List HI} {k:Nat} {R W:List Int} {M:HM} {pl:Pl}
theorem kV{n:Int}{into:Nat}(h:pl.has n)(hi:into=7∨into=8∨into=9):∃r:Nat,dT pl n into=r∧(r=into∧pl.inR n=false∨r<7∧pl.inR n=true∧(pl.r n).toNat=r):=by
  unfold dT;rcases h with⟨h1,h2⟩|⟨h1,h2,h3⟩
  · rw[h1]
    have h0:0≤pl.r n:=by unfold Pl.inR at h1;simpa using h1
    exact⟨(pl.r n).toNat,by show pl.r n=_;omega,Or.inr ⟨by omega,rfl,rfl⟩⟩
  rw[h1];exact⟨into,rfl,Or.inl ⟨rfl,rfl⟩⟩
theorem vB{n:Int}(h:0≤pl.s n∧pl.s n<128)(h15:R.getD 15 0=0):IntKind.u64.wrap (R.getD 15 0+IntKind.u32.wrap (64+pl.s n))=((64+(pl.s n).toNat:Nat):Int):=by
  rw[h15,aE,aU];omega
theorem HGo.get{n v:Int}{into r:Nat}(h:HGo C k (je pl n into++l) R W M)(hh:pl.has n)(hi:into=7∨into=8)(hr:dT pl n into=r)(h15:R.getD 15 0=0)(hv:Lo pl R W n v):
    ∃k' R',HGo C k' l R' W M∧R'.getD r 0=v∧jW [into] R R':=by
  obtain⟨r2,h1,h2⟩:=kV hh (into:=into) (by omega);obtain rfl:r2=r:=by have:=hr.symm.trans h1;omega
  rcases h2 with⟨rfl,h3⟩|⟨h3,h4,h5⟩
  · unfold je at h
    rw[h3]at h;have hs:0≤pl.s n∧pl.s n<128:=by rcases hh with⟨h6, -⟩|⟨-,h6⟩;rw[h3]at h6;cases h6;exact h6
    have g:=HGo.ld (rd:=r2) (ra:=15) (p:=64+(pl.s n).toNat) h (vB hs h15) (by omega);exact⟨_,_,g,(cV (by rw[h.rl];omega)).trans (hv.2 h3),jW.set R _ _ (by simp)⟩
  unfold je at h;rw[h4]at h;exact⟨k,R,h,by rw[←h5];exact hv.1 h4,jW.refl _ _⟩
theorem HGo.Iz{n v:Int}{r:Nat}(h:HGo C k (iQ pl n (dT pl n 9)++l) R W M)(hh:pl.has n)(hr:dT pl n 9=r)(h15:R.getD 15 0=0)(hv:R.getD r 0=v)(hv2:0≤v∧v≤4294967295):
    ∃k' W',HGo C k' l R W' M∧Lo pl R W' n v∧∀j,(pl.inR n=true∨j≠64+(pl.s n).toNat)→W'.getD j 0=W.getD j 0:=by
  obtain⟨r2,h1,h2⟩:=kV hh (into:=9) (by omega);have h1:dT pl n 9=r2:=h1;obtain rfl:r2=r:=by have:=hr.symm.trans h1;omega
  unfold iQ at h;rcases h2 with⟨rfl,h3⟩|⟨h3,h4,h5⟩
  · rw[h3]at h
    have hs:0≤pl.s n∧pl.s n<128:=by rcases hh with⟨h6, -⟩|⟨-,h6⟩;rw[h3]at h6;cases h6;exact h6
    have hg:dT pl n 9=9:=by unfold dT;rw[h3];rfl
    rw[hg]at h;have g:=HGo.st (ra:=15) (rb:=9) (p:=64+(pl.s n).toNat) (v:=v) h (vB hs h15) (by omega) (by rw[hv,aE];omega);refine⟨_,_,g,⟨fun h6=>(by rw[h3]at h6;cases h6),fun _=>cV (by rw[h.wl];omega)⟩,fun j hj=>?_⟩;rcases hj with hj|hj
    · rw[h3]at hj;cases hj
    exact cF (fun e=>hj e.symm)
  rw[h4]at h;exact⟨k,W,h,⟨fun _=>(by rw[h5];exact hv),fun h6=>(by rw[h4]at h6;cases h6)⟩,fun _ _=>rfl⟩
structure II.ok(x:II)(Ia Ib:Int)(n:Nat):Prop where
  imm:0≤x.imm∧x.imm≤4294967295
  op:(x.op=0)∨(x.op=1∧x.imm<Ia)∨(x.op=2∧x.imm<Ib)∨(x.op=3∧16≤x.imm∧x.imm≤23)∨(x.op=4∧((16≤x.imm∧x.imm≤23)∨x.imm=25))
  ab:x.op=3∨x.op=4→(0≤x.a∧x.a<n)∧(0≤x.b∧x.b<n)
def wds(l:List Int):Prop:=∀x,x∈l→0≤x∧x≤4294967295
theorem iu{l:List Int}(h:wds l)(n:Nat):0≤l.getD n 0∧l.getD n 0≤4294967295:=by
  rw[aw];by_cases hn:n<l.length
  · rw[ao hn];exact h _ (List.getElem_mem hn)
  rw[List.getElem?_eq_none (by omega)];exact⟨by decide,by decide⟩
theorem lr{l:List Int}(h:wds l)(n:Nat):∃x:Nat,l.getD n 0=(x:Int)∧x<4294967296:=by
  obtain⟨h1,h2⟩:=iu h n;exact⟨(l.getD n 0).toNat,by omega,by omega⟩
theorem DG{op:Int}{x y:Nat}(hx:x<4294967296)(hy:y<4294967296)(hop:(16≤op∧op≤23)∨op=25):0≤(ij op x y).2.1∧(ij op x y).2.1≤15:=by
  have hb:∀b:Bool,0≤b2i b∧b2i b≤1:=fun b=>by cases b<;>decide
  have hT:∀(a b r o:Int) (p q c:Bool),0≤jc a b r (b2i p+2*b2i q) c o∧jc a b r (b2i p+2*b2i q) c o≤15:=fun a b r o p q c=>by
    rw[rA];have h1:=hb p;have h2:=hb q;have h3:=hb c;have h4:=hb (o !=0);omega
  have hp:∀r:Nat,r<4294967296→0≤dE r∧dE r≤15:=fun r hr=>by
    rw[iW hr];have h1:=hb ((r:Int)==0);have h2:=hb (decide (2147483648≤r));omega
  have hr:=qk hop hx hy;have h8:op=16∨op=17∨op=18∨op=19∨op=20∨op=21∨op=22∨op=23∨op=25:=by omega
  obtain⟨r,hr,hr2⟩:=hr;rcases h8 with rfl|rfl|rfl|rfl|rfl|rfl|rfl|rfl|rfl
  · show 0≤lU x y∧lU x y≤15
    have hr:IntKind.u32.wrap ((x:Int)+y)=(r:Int):=hr;unfold lU;rw[hr,iW hr2];exact hT ..
  · show 0≤jN x y∧jN x y≤15
    have hr:IntKind.u32.wrap ((x:Int) - y)=(r:Int):=hr;unfold jN;rw[hr,iW hr2];exact hT ..
  · show 0≤dE (sa 18 x y)∧dE (sa 18 x y)≤15;rw[hr];exact hp r hr2
  · show 0≤dE (sa 19 x y)∧dE (sa 19 x y)≤15;rw[hr];exact hp r hr2
  · show 0≤dE (sa 20 x y)∧dE (sa 20 x y)≤15;rw[hr];exact hp r hr2
  · show 0≤dE (sa 21 x y)∧dE (sa 21 x y)≤15;rw[hr];exact hp r hr2
  · show 0≤dE (sa 22 x y)∧dE (sa 22 x y)≤15;rw[hr];exact hp r hr2
  · show 0≤dE (sa 23 x y)∧dE (sa 23 x y)≤15;rw[hr];exact hp r hr2
  show 0≤jN x y∧jN x y≤15;have hr:IntKind.u32.wrap ((x:Int) - y)=(r:Int):=hr;unfold jN;rw[hr,iW hr2];exact hT ..
structure GZ(D Rr:List Int)(Ia Ib:Int)(R W:List Int):Prop where
  z:R.getD 15 0=0
  bd:R.getD 14 0=(D.length:Int) - Ia
  br:R.getD 13 0=(Rr.length:Int) - Ib
  d:∀j,j<D.length→W.getD (4+j) 0=D.getD j 0
  r:∀j,j<Rr.length→W.getD (20+j) 0=Rr.getD j 0
  d16:D.length≤16
  r16:Rr.length≤16
  nd:0≤Ia∧Ia≤D.length
  nr:0≤Ib∧Ib≤Rr.length
theorem GZ.mono{D Rr:List Int}{Ia Ib:Int}{R W R' W':List Int}(h:GZ D Rr Ia Ib R W)(hs:∀j,13≤j→R'.getD j 0=R.getD j 0)(hw:∀j,j<64→W'.getD j 0=W.getD j 0):GZ D Rr Ia Ib R' W':=
  ⟨by rw[hs 15 (by decide),h.z],by rw[hs 14 (by decide),h.bd],by rw[hs 13 (by decide),h.br],fun j hj=>by have:=h.d16;rw[hw _ (by omega),h.d j hj],fun j hj=>by have:=h.r16;rw[hw _ (by omega),h.r j hj],h.d16,h.r16,h.nd,h.nr⟩
theorem HGo.one{D Rr V:List Int}{Ia Ib:Int}{n:Nat}{x:II}(h:HGo C k (oR Ia Ib pl n x++l) R W M)(hx:x.ok Ia Ib n)(hb:GZ D Rr Ia Ib R W)(hD:wds D)(hR:wds Rr)(hV:wds V)
    (hn:pl.has n) (hab:x.op=3∨x.op=4→(pl.has x.a∧Lo pl R W x.a (V.getD x.a.toNat 0))∧(pl.has x.b∧Lo pl R W x.b (V.getD x.b.toNat 0))):
    ∃k' R' W',HGo C k' l R' W' M∧Lo pl R' W' n (ke D Rr V x)∧GZ D Rr Ia Ib R' W'∧(∀j,j<7→(pl.inR n=true→j≠(pl.r n).toNat)→R'.getD j 0=R.getD j 0)∧(∀j,(pl.inR n=true∨j≠64+(pl.s n).toNat)→W'.getD j 0=W.getD j 0):=by
  obtain⟨rd,hrd,hrd2⟩:=kV hn (into:=9) (by omega);have hrd:dT pl n 9=(rd:Int):=hrd;have hrd10:rd<10:=by rcases hrd2 with⟨h1, -⟩|⟨h1, -⟩<;>omega
  have fin:∀(k1:Nat) (R1:List Int) (v:Int),HGo C k1 (iQ pl n (dT pl n 9)++l) R1 W M→R1.getD rd 0=v→(0≤v∧v≤4294967295)→(∀j,j≠rd→(j<7∨13≤j)→R1.getD j 0=R.getD j 0)→
      ∃k' R' W',HGo C k' l R' W' M∧Lo pl R' W' n v∧GZ D Rr Ia Ib R' W'∧(∀j,j<7→(pl.inR n=true→j≠(pl.r n).toNat)→R'.getD j 0=R.getD j 0)∧(∀j,(pl.inR n=true∨j≠64+(pl.s n).toNat)→W'.getD j 0=W.getD j 0):=fun k1 R1 v g hv hv2 hs=>by
    obtain⟨k2,W2,g1,g2,g3⟩:=HGo.Iz g hn hrd (by rw[hs 15 (by omega) (by omega),hb.z]) hv hv2;have hw:∀j,j<64→W2.getD j 0=W.getD j 0:=fun j hj=>g3 j (by
      cases hi:pl.inR n with
      |true=>exact Or.inl rfl
      |false=>exact Or.inr (by omega))
    refine⟨k2,R1,W2,g1,g2,hb.mono (fun j hj=>hs j (by omega) (by omega)) hw,fun j hj hne=>?_,g3⟩;rcases hrd2 with⟨h1,h2⟩|⟨h1,h2,h3⟩
    · exact hs j (by omega) (Or.inl hj)
    exact hs j (by have:=hne h2;omega) (Or.inl hj)
  have hap:∀m:List HI,HGo C k (m++(iQ pl n (dT pl n 9)++l)) R W M↔HGo C k ((m++iQ pl n (dT pl n 9))++l) R W M:=fun m=>by rw[aq]
  have two:∀m:List HI,(x.op=3∨x.op=4)→HGo C k (je pl x.a 7++(je pl x.b 8++m)) R W M→∃(k1:Nat) (R1:List Int) (ra rb a b:Nat),HGo C k1 m R1 W M∧dT pl x.a 7=ra∧dT pl x.b 8=rb∧ra<9∧rb<9∧R1.getD ra 0=(a:Int)∧R1.getD rb 0=(b:Int)∧
      V.getD x.a.toNat 0=(a:Int)∧V.getD x.b.toNat 0=(b:Int)∧a<4294967296∧b<4294967296∧jW [7,8] R R1:=fun m ho g=>by
    obtain⟨⟨h1,h2⟩,h3,h4⟩:=hab ho;obtain⟨ra,e1,e2⟩:=kV h1 (into:=7) (by omega);obtain⟨rb,e3,e4⟩:=kV h3 (into:=8) (by omega);have e1:dT pl x.a 7=(ra:Int):=e1;have e3:dT pl x.b 8=(rb:Int):=e3;obtain⟨a,a1,a2⟩:=lr hV x.a.toNat;obtain⟨b,b1,b2⟩:=lr hV x.b.toNat;rw[a1]at h2;rw[b1]at h4;obtain⟨k1,R1,g1,g2,g3⟩:=HGo.get (into:=7) g h1 (by omega) e1 hb.z h2;have h4':Lo pl R1 W x.b b:=by
      refine⟨fun hi=>?_,h4.2⟩;rcases h3 with⟨q1,q2⟩|⟨q1, -⟩
      · rw[g3 _ ?_]
        · exact h4.1 hi
        have:(pl.r x.b).toNat≠7:=by omega
        simpa using this
      rw[q1]at hi;cases hi
    obtain⟨k2,R2,p1,p2,p3⟩:=HGo.get (into:=8) g1 h3 (by omega) e3 (by rw[g3 15 (by decide),hb.z]) h4';refine⟨k2,R2,ra,rb,a,b,p1,e1,e3,?_,?_,?_,p2,a1,b1,a2,b2,g3.trans p3 (by intro z hz;simpa using hz)⟩
    · rcases e2 with⟨q, -⟩|⟨q, -⟩<;>omega
    · rcases e4 with⟨q, -⟩|⟨q, -⟩<;>omega
    rw[p3 ra (by rcases e2 with⟨q, -⟩|⟨q, -⟩<;>simp<;>omega),g2]
  obtain⟨op,dst,xa,xb,imm⟩:=x;obtain⟨hi1,hi2⟩:=hx.imm;have hop:=hx.op;dsimp only at hop hi1 hi2 two hab;rcases hop with rfl|⟨rfl,h1⟩|⟨rfl,h1⟩|⟨rfl,h1⟩|⟨rfl,h1⟩
  · have g:HGo C k (⟨1,(rd:Int),0,0,imm⟩::(iQ pl n (dT pl n 9)++l)) R W M:=by rw[←hrd];exact(hap [⟨1,dT pl n 9,0,0,imm⟩]).2 h
    exact fin _ _ imm g.li (cV (by rw[h.rl];omega)) ⟨hi1,hi2⟩ (fun j h1 _=>cF (fun e=>h1 e.symm))
  · have g:HGo C k (⟨14,(rd:Int),14,0,IntKind.u32.wrap (4+Ia - 1 - imm)⟩::(iQ pl n (dT pl n 9)++l)) R W M:=by rw[←hrd];exact(hap [_]).2 h
    obtain⟨n1,n2⟩:=hb.nd;have hd:=hb.d16;have g1:=HGo.ld (rd:=rd) (ra:=14) (p:=4+(D.length - 1 - imm.toNat)) g (by rw[hb.bd,aE,aU];omega) (by omega);have hv:W.getD (4+(D.length - 1 - imm.toNat)) 0=D.getD (D.length - 1 - imm.toNat) 0:=hb.d _ (by omega);rw[hv]at g1;exact fin _ _ _ g1 (cV (by rw[h.rl];omega)) (iu hD _) (fun j h1 _=>cF (fun e=>h1 e.symm))
  · have g:HGo C k (⟨14,(rd:Int),13,0,IntKind.u32.wrap (20+Ib - 1 - imm)⟩::(iQ pl n (dT pl n 9)++l)) R W M:=by rw[←hrd];exact(hap [_]).2 h
    obtain⟨n1,n2⟩:=hb.nr;have hd:=hb.r16;have g1:=HGo.ld (rd:=rd) (ra:=13) (p:=20+(Rr.length - 1 - imm.toNat)) g (by rw[hb.br,aE,aU];omega) (by omega);have hv:W.getD (20+(Rr.length - 1 - imm.toNat)) 0=Rr.getD (Rr.length - 1 - imm.toNat) 0:=hb.r _ (by omega);rw[hv]at g1;exact fin _ _ _ g1 (cV (by rw[h.rl];omega)) (iu hR _) (fun j h1 _=>cF (fun e=>h1 e.symm))
  · have g:HGo C k (je pl xa 7++(je pl xb 8++(tJ imm (dT pl n 9) (dT pl xa 7) (dT pl xb 8)++(iQ pl n (dT pl n 9)++l)))) R W M:=by
      have e:oR Ia Ib pl n ⟨3,dst,xa,xb,imm⟩++l=je pl xa 7++(je pl xb 8++(tJ imm (dT pl n 9) (dT pl xa 7) (dT pl xb 8)++(iQ pl n (dT pl n 9)++l))):=by
        show((je pl xa 7++(je pl xb 8++tJ imm (dT pl n 9) (dT pl xa 7) (dT pl xb 8)))++iQ pl n (dT pl n 9))++l=_;simp only[aq]
      rwa[e]at h
    obtain⟨k1,R1,ra,rb,a,b,g1,e1,e2,ha,hbb,ea,eb,va,vb,a2,b2,hs⟩:=two _ (Or.inl rfl) g;rw[e1,e2,hrd]at g1;obtain⟨k2,R2,p1,p2,p3⟩:=HGo.alu (rd:=rd) (Or.inl h1) g1 (by omega) ea eb a2 b2;obtain⟨q,q1,q2⟩:=qk (Or.inl h1) a2 b2;have hv:ke D Rr V ⟨3,dst,xa,xb,imm⟩=sa imm a b:=by
      show(ij imm (V.getD xa.toNat 0) (V.getD xb.toNat 0)).1=_;rw[va,vb];unfold sa;rw[show(imm==25)=false by simp;omega];rfl
    rw[hv];exact fin _ _ _ (by rw[hrd];exact p1) p2 (by rw[q1];omega) (fun j h1 h2=>by rw[p3 j (by simp;omega),hs j (by simp;omega)])
  have g:HGo C k (je pl xa 7++(je pl xb 8++(kW imm (dT pl xa 7) (dT pl xb 8)++(⟨2,dT pl n 9,10,0,0⟩::(iQ pl n (dT pl n 9)++l))))) R W M:=by
    have e:oR Ia Ib pl n ⟨4,dst,xa,xb,imm⟩++l=je pl xa 7++(je pl xb 8++(kW imm (dT pl xa 7) (dT pl xb 8)++(⟨2,dT pl n 9,10,0,0⟩::(iQ pl n (dT pl n 9)++l)))):=by
      show((je pl xa 7++(je pl xb 8++(kW imm (dT pl xa 7) (dT pl xb 8)++[⟨2,dT pl n 9,10,0,0⟩])))++iQ pl n (dT pl n 9))++l=_;simp only[aq,aO,aP]
    rwa[e]at h
  obtain⟨k1,R1,ra,rb,a,b,g1,e1,e2,ha,hbb,ea,eb,va,vb,a2,b2,hs⟩:=two _ (Or.inr rfl) g;rw[e1,e2]at g1;obtain⟨k2,R2,p1,p2,p3⟩:=HGo.flag h1 g1 ha hbb (by rw[hs 15 (by decide),hb.z]) ea eb a2 b2;have hfl:=DG a2 b2 h1;have hv:ke D Rr V ⟨4,dst,xa,xb,imm⟩=(ij imm a b).2.1:=by
    show(ij imm (V.getD xa.toNat 0) (V.getD xb.toNat 0)).2.1=_;rw[va,vb]
  rw[hv];rw[hrd]at p1;have p4:=HGo.mov (rd:=rd) (ra:=10) p1;rw[p2]at p4;exact fin _ _ _ (by rw[hrd];exact p4) (cV (by rw[p1.rl];omega)) (by omega) (fun j h1 h2=>by rw[cF (fun e=>h1 e.symm),p3 j (by simp;omega),hs j (by simp;omega)])
end
theorem nm1{a b:Nat}(h:a≠b):a∉[b]:=fun hm=>h (aN.1 hm)
structure Et(pl:Pl)(T:List Int)(N:Nat):Prop where
 has:∀n:Nat,n<N→pl.has n
 reg:∀i j:Nat,i<j→j<N→pl.inR i=true→pl.inR j=true→pl.r i=pl.r j→T.getD i 0≤j
 slot:∀i j:Nat,i<j→j<N→pl.inR i=false→pl.inR j=false→pl.s i=pl.s j→T.getD i 0≤j
def zx(pl:Pl)(T V:List Int)(n:Nat)(R W:List Int):Prop:=∀a:Nat,a<n→(n:Int)≤T.getD a 0→Lo pl R W a (V.getD a 0)
section
variable {C l:List HI} {k:Nat} {R W:List Int} {M:HM} {pl:Pl} {D Rr:List Int} {Ia Ib:Int} {T:List Int}
theorem Bx{V V':List Int}{x:II}{n:Nat}(hx:x.ok Ia Ib n)(h:∀a:Nat,a<n→V.getD a 0=V'.getD a 0):ke D Rr V x=ke D Rr V' x:=by
 have hop:=hx.op;have hab:=hx.ab;obtain⟨op,dst,a,b,imm⟩:=x;dsimp only at hop hab;rcases hop with rfl|⟨rfl, -⟩|⟨rfl, -⟩|⟨rfl, -⟩|⟨rfl, -⟩
 ·rfl
 ·rfl
 ·rfl
 ·obtain⟨h1,h2⟩:=hab (Or.inl rfl);show(ij imm (V.getD a.toNat 0) (V.getD b.toNat 0)).1=(ij imm (V'.getD a.toNat 0) (V'.getD b.toNat 0)).1;rw[h a.toNat (by omega),h b.toNat (by omega)]
 obtain⟨h1,h2⟩:=hab (Or.inr rfl);show(ij imm (V.getD a.toNat 0) (V.getD b.toNat 0)).2.1=(ij imm (V'.getD a.toNat 0) (V'.getD b.toNat 0)).2.1;rw[h a.toNat (by omega),h b.toNat (by omega)]
def OkC(Ia Ib:Int)(code:List II):Prop:=∀(n:Nat) (x:II),code[n]? =some x→x.ok Ia Ib n
theorem OkC.app{pre suf:List II}(h:OkC Ia Ib (pre++suf)):OkC Ia Ib pre:=fun n x hx=>h n x (by rw[bD (au.1 hx).1];exact hx)
theorem OkC.last{pre:List II}{x:II}(h:OkC Ia Ib (pre++[x])):x.ok Ia Ib pre.length:=h pre.length x (by simp)
theorem EH{V:List Int}{x:II}{n:Nat}(hx:x.ok Ia Ib n)(hD:wds D)(hR:wds Rr)(hV:wds V):0≤ke D Rr V x∧ke D Rr V x≤4294967295:=by
 have hop:=hx.op;have hi:=hx.imm;obtain⟨op,dst,a,b,imm⟩:=x;dsimp only at hop hi;obtain⟨x,hx1,hx2⟩:=lr hV a.toNat;obtain⟨y,hy1,hy2⟩:=lr hV b.toNat;rcases hop with rfl|⟨rfl, -⟩|⟨rfl, -⟩|⟨rfl,h1⟩|⟨rfl,h1⟩
 ·exact hi
 ·exact iu hD _
 ·exact iu hR _
 ·show 0≤(ij imm (V.getD a.toNat 0) (V.getD b.toNat 0)).1∧(ij imm (V.getD a.toNat 0) (V.getD b.toNat 0)).1≤4294967295;obtain⟨r,hr,hr2⟩:=qk (Or.inl h1) hx2 hy2;have:(ij imm x y).1=(r:Int):=by rw[←hr];unfold sa;rw[show(imm==25)=false by simp;omega];rfl
  rw[hx1,hy1,this];omega
 show 0≤(ij imm (V.getD a.toNat 0) (V.getD b.toNat 0)).2.1∧(ij imm (V.getD a.toNat 0) (V.getD b.toNat 0)).2.1≤4294967295;rw[hx1,hy1];have:=DG hx2 hy2 h1;omega
theorem EG(code:List II)(hD:wds D)(hR:wds Rr)(h:OkC Ia Ib code):wds (IF D Rr code):=by
 revert h;refine tX (p:=fun code=>OkC Ia Ib code→wds (IF D Rr code)) (fun _ x hx=>by cases hx) (fun l x ih h=>?_) code;rw[kt];intro y hy;rcases aV.1 hy with h1|h1
 ·exact ih h.app y h1
 rw[aN.1 h1];exact EH h.last hD hR (ih h.app)
theorem vals_at{pre:List II}{x:II}{suf:List II}(h:OkC Ia Ib (pre++x::suf)):(IF D Rr (pre++x::suf)).getD pre.length 0=ke D Rr (IF D Rr (pre++x::suf)) x:=by
 have h2:pre++x::suf=(pre++[x])++suf:=by simp
 rw[h2]at h⊢;obtain⟨m,hm⟩:=ym (D:=D) (R:=Rr) (pre++[x]) suf;have e1:(IF D Rr (pre++[x])).length=pre.length+1:=by rw[p6];simp
 have e0:(IF D Rr pre).length=pre.length:=p6 _;have e2:∀a:Nat,a<pre.length→(IF D Rr pre).getD a 0=(IF D Rr ((pre++[x])++suf)).getD a 0:=fun a ha=>by
  rw[hm,kt,aq];simp only[aw];rw[bD (by omega)]
 rw[←Bx (OkC.last (OkC.app h)) e2,hm,kt];simp only[aw];rw[aq,bF (by omega),e0,Nat.sub_self]
 rfl
theorem HGo.all{V:List Int}{N:Nat}(hp:Et pl T N)(hD:wds D)(hR:wds Rr)(hV:wds V):∀(suf:List II) (n:Nat) (k:Nat) (R W:List Int),HGo C k (jq Ia Ib pl suf n++l) R W M→n+suf.length=N→
  (∀i x,suf[i]? =some x→x.ok Ia Ib (n+i)∧V.getD (n+i) 0=ke D Rr V x∧(x.op=3∨x.op=4→((n+i:Nat):Int)≤T.getD x.a.toNat 0∧((n+i:Nat):Int)≤T.getD x.b.toNat 0))→
  GZ D Rr Ia Ib R W→zx pl T V n R W→∃k' R' W',HGo C k' l R' W' M∧GZ D Rr Ia Ib R' W'∧zx pl T V N R' W'∧∀j,j<64→W'.getD j 0=W.getD j 0
 |[],n,k,R,W,h,hN,hx,hb,hh=>⟨k,R,W,h,hb,(by have:n=N:=(by simpa using hN);subst this;exact hh),fun _ _=>rfl⟩
 |x::suf,n,k,R,W,h,hN,hx,hb,hh=>by
  have hN':n+1+suf.length=N:=by rw[←hN];simp;omega
  obtain⟨x1,x2,x3⟩:=hx 0 x rfl;rw[Nat.add_zero]at x1 x2 x3;have h:HGo C k (oR Ia Ib pl n x++(jq Ia Ib pl suf (n+1)++l)) R W M:=by
   have e:jq Ia Ib pl (x::suf) n++l=oR Ia Ib pl n x++(jq Ia Ib pl suf (n+1)++l):=by show(oR Ia Ib pl n x++jq Ia Ib pl suf (n+1))++l=_;rw[aq]
   rwa[e]at h
  have hn:=hp.has n (by omega);have hab:x.op=3∨x.op=4→(pl.has x.a∧Lo pl R W x.a (V.getD x.a.toNat 0))∧(pl.has x.b∧Lo pl R W x.b (V.getD x.b.toNat 0)):=fun ho=>by
   obtain⟨⟨a1,a2⟩,b1,b2⟩:=x1.ab ho;obtain⟨t1,t2⟩:=x3 ho;have ea:((x.a.toNat:Nat):Int)=x.a:=by omega
   have eb:((x.b.toNat:Nat):Int)=x.b:=by omega
   have ha:=hh x.a.toNat (by omega) t1;have hb:=hh x.b.toNat (by omega) t2;have pa:=hp.has x.a.toNat (by omega);have pb:=hp.has x.b.toNat (by omega);rw[ea]at ha pa;rw[eb]at hb pb;exact⟨⟨pa,ha⟩,pb,hb⟩
  obtain⟨k1,R1,W1,g1,g2,g3,g4,g5⟩:=HGo.one h x1 hb hD hR hV hn hab;have hold:zx pl T V (n+1) R1 W1:=fun a ha ht=>by
   by_cases e:a=n
   ·subst e;rw[x2];exact g2
   have h1:=hh a (by omega) (by omega);have hlt:a<n:=by omega
   refine⟨fun hi=>?_,fun hi=>?_⟩
   ·rw[g4 _ ?_ ?_];exact h1.1 hi
    ·rcases hp.has a (by omega)with⟨-,q⟩|⟨q, -⟩
     ·have:0≤pl.r a:=by unfold Pl.inR at hi;simpa using hi
      omega
     rw[hi]at q;cases q
    intro hin e2;have:=hp.reg a n hlt (by omega) hi hin (by
     have q1:0≤pl.r a:=by unfold Pl.inR at hi;simpa using hi
     have q2:0≤pl.r n:=by unfold Pl.inR at hin;simpa using hin
     omega)
    omega
   rw[g5 _ ?_];exact h1.2 hi;cases hin:pl.inR n with
   |true=>exact Or.inl rfl
   |false=>
    refine Or.inr fun e2=>?_
    have s1:0≤pl.s a:=by rcases hp.has a (by omega)with⟨q, -⟩|⟨-,q, -⟩;rw[hi]at q;cases q;exact q
    have s2:0≤pl.s n:=by rcases hn with⟨q, -⟩|⟨-,q, -⟩;rw[hin]at q;cases q;exact q
    have:=hp.slot a n hlt (by omega) hi hin (by omega);omega
  obtain⟨k2,R2,W2,q1,q2,q3,q4⟩:=HGo.all hp hD hR hV suf (n+1) k1 R1 W1 g1 hN' (fun i y hy=>by
   have:=hx (i+1) y (by simpa using hy);rw[show n+(i+1)=n+1+i by omega]at this;exact this) g3 hold
  refine⟨k2,R2,W2,q1,q2,q3,fun j hj=>?_⟩;rw[q4 j hj,g5 j ?_];cases hin:pl.inR n with
  |true=>exact Or.inl rfl
  |false=>exact Or.inr (by omega)
theorem HGo.outs{V:List Int}{N base B from_:Nat}(hp:Et pl T N)(hV:wds V)(hbase:base=13∨base=14)(hfr:from_=4∨from_=20):∀(out:List Int) (j:Nat) (k:Nat) (R W:List Int),HGo C k (sY pl base from_ out j++l) R W M→
  (∀n,n∈out→0≤n∧n<N∧(N:Int)≤T.getD n.toNat 0)→B+j+out.length≤16→R.getD base 0=(B:Int)→R.getD 15 0=0→zx pl T V N R W→
  ∃k' R' W',HGo C k' l R' W' M∧jW [7] R R'∧(∀i,(i<from_+B+j∨from_+B+j+out.length≤i)→W'.getD i 0=W.getD i 0)∧(∀i,i<out.length→W'.getD (from_+B+j+i) 0=V.getD (out.getD i 0).toNat 0)
 |[],j,k,R,W,h,ho,hB,hb,h15,hh=>⟨k,R,W,h,jW.refl _ _,fun _ _=>rfl,fun i hi=>absurd hi (by simp)⟩
 |n::out,j,k,R,W,h,ho,hB,hb,h15,hh=>by
  obtain⟨n0,n1,n2⟩:=ho n (by simp);have en:((n.toNat:Nat):Int)=n:=by omega
  have hn:=hp.has n.toNat (by omega);have hl:=hh n.toNat (by omega) n2;rw[en]at hn hl;have hB':B+j+(out.length+1)≤16:=hB;have h:HGo C k (je pl n 7++(⟨15,0,(base:Int),dT pl n 7,IntKind.u32.wrap ((from_:Int)+IntKind.u32.wrap (j:Int))⟩::(sY pl base from_ out (j+1)++l))) R W M:=by
   have e:sY pl base from_ (n::out) j++l=je pl n 7++(⟨15,0,(base:Int),dT pl n 7,IntKind.u32.wrap ((from_:Int)+IntKind.u32.wrap (j:Int))⟩::(sY pl base from_ out (j+1)++l)):=by
    show(je pl n 7++(_::sY pl base from_ out (j+1)))++l=_;rw[aq,aO]
   rwa[e]at h
  obtain⟨r,hr,hr2⟩:=kV hn (into:=7) (by omega);have hr:dT pl n 7=(r:Int):=hr;obtain⟨v,hv,hv2⟩:=lr hV n.toNat;rw[hv]at hl;obtain⟨k1,R1,g1,g2,g3⟩:=HGo.get (into:=7) h hn (by omega) hr h15 hl;rw[hr]at g1;have hb1:R1.getD base 0=(B:Int):=by rw[g3 base (by simp;omega),hb]
  have g4:=HGo.st (ra:=base) (rb:=r) (p:=from_+B+j) (v:=(v:Int)) g1 (by rw[hb1,aE,aE,aU];omega) (by omega) (by rw[g2,aE];omega);have hold:zx pl T V N R1 (W.set (from_+B+j) v):=fun a ha ht=>by
   have h1:=hh a ha ht;have h2:=hp.has a ha;refine⟨fun hi=>?_,fun hi=>?_⟩
   ·rw[g3 _ ?_];exact h1.1 hi;rcases h2 with⟨-,q⟩|⟨q, -⟩
    ·have:0≤pl.r a:=by unfold Pl.inR at hi;simpa using hi
     exact nm1 (by omega)
    rw[hi]at q;cases q
   rw[cF (by omega)];exact h1.2 hi
  obtain⟨k2,R2,W2,q1,q2,q3,q4⟩:=HGo.outs hp hV hbase hfr out (j+1) _ R1 _ g4 (fun m hm=>ho m (by simp[hm])) (by omega) hb1 (by rw[g3 15 (by decide),h15]) hold;have hw:=h.wl;refine⟨k2,R2,W2,q1,g3.trans q2 (by intro z hz;simpa using hz),fun i hi=>?_,fun i hi=>?_⟩
  ·have hi:i<from_+B+j∨from_+B+j+(out.length+1)≤i:=hi;rw[q3 i (by omega),cF (by omega)]
  cases i with
  |zero=>
   rw[Nat.add_zero,q3 _ (by omega),cV (by omega)];show(v:Int)=V.getD n.toNat 0;rw[hv]
  |succ i=>
   have:=q4 i (by simpa using hi);rw[show from_+B+(j+1)+i=from_+B+j+(i+1) by omega]at this;exact this
theorem HGo.stack{V:List Int}{N base B from_ word:Nat}{out:List Int}(hp:Et pl T N)(hV:wds V)(hbase:base=13∨base=14)(hfr:from_=4∨from_=20)(hw:word=2∨word=3)(h:HGo C k (gV pl base from_ word out++l) R W M)
  (ho:∀n,n∈out→0≤n∧n<N∧(N:Int)≤T.getD n.toNat 0) (hB:B+out.length≤16) (hb:R.getD base 0=(B:Int)) (h15:R.getD 15 0=0) (hh:zx pl T V N R W):
  ∃k' R' W',HGo C k' l R' W' M∧jW [7,11] R R'∧(∀i,i≠word→(i<from_+B∨from_+B+out.length≤i)→W'.getD i 0=W.getD i 0)∧(∀i,i<out.length→W'.getD (from_+B+i) 0=V.getD (out.getD i 0).toNat 0)∧W'.getD word 0=((B+out.length:Nat):Int)∧zx pl T V N R' W':=by
 have h:HGo C k (sY pl base from_ out 0++(⟨1,11,0,0,IntKind.u32.wrap (out.length:Int)⟩::⟨3,11,11,(base:Int),0⟩::⟨15,0,15,11,(word:Int)⟩::l)) R W M:=by
  have e:gV pl base from_ word out++l=sY pl base from_ out 0++(⟨1,11,0,0,IntKind.u32.wrap (out.length:Int)⟩::⟨3,11,11,(base:Int),0⟩::⟨15,0,15,11,(word:Int)⟩::l):=by
   unfold gV;simp only[aq,aO,aP]
  rwa[e]at h
 obtain⟨k1,R1,W1,g1,g2,g3,g4⟩:=HGo.outs hp hV hbase hfr out 0 k R W h ho (by omega) hb h15 hh;have hl:=g1.rl;have hl2:=g1.wl;have a1:=HGo.li (rd:=11) g1;have a2:=HGo.op (rd:=11) (ra:=11) (rb:=base) (v:=((B+out.length:Nat):Int)) a1 (by decide) (by decide) (by
  rw[cV (by omega),cF (by omega),g2 base (by simp;omega),hb];show IntKind.u64.wrap (IntKind.u32.wrap (out.length:Int)+(B:Int))=_;rw[aE,aU];omega)
 have a3:=HGo.st (ra:=15) (rb:=11) (p:=word) (v:=((B+out.length:Nat):Int)) a2 (by rw[cF (by decide),cF (by decide),g2 15 (by decide),h15,aU];omega) (by omega) (by rw[cV (by rw[aI];omega),aE];omega);refine⟨_,_,_,a3,?_,fun i h1 h2=>?_,fun i hi=>?_,cV (by omega),fun a ha ht=>?_⟩
 ·intro j hj;simp only[aL,bh,or_false,not_or]at hj;rw[cF (by omega),cF (by omega),g2 j (by simp;omega)]
 ·rw[cF (fun e=>h1 e.symm),g3 i (by omega)]
 ·rw[cF (by omega)];have:=g4 i hi;rwa[Nat.add_zero]at this
 have h1:=hh a ha ht;have h2:=hp.has a ha;refine⟨fun hi=>?_,fun hi=>?_⟩
 ·have q1:0≤pl.r a:=by unfold Pl.inR at hi;simpa using hi
  have q2:pl.r a<7:=by rcases h2 with⟨-,q⟩|⟨q, -⟩;exact q;rw[hi]at q;cases q
  rw[cF (by omega),cF (by omega),g2 _ (nm1 (by omega))];exact h1.1 hi
 rw[cF (by omega),g3 _ (by omega)];exact h1.2 hi
theorem HGo.room{base word n e:Nat}{Ic IG:Int}(h:HGo C k (mQ e base word Ic IG++l) R W M)(hbase:base=13∨base=14)(hw:word=2∨word=3)(h15:R.getD 15 0=0)(hn:W.getD word 0=(n:Int))(hn2:n≤16)(h0:0≤Ic∧Ic≤16)(hm:0≤IG∧IG≤4294967295)
  (he:C.drop e=[⟨19,0,0,0,2⟩]):Ic≤n∧(n:Int)≤IG∧∃k' R',HGo C k' l R' W M∧R'.getD base 0=(n:Int) - Ic∧jW [base,11,12] R R':=by
 have hl:=h.rl;have no:∀(R1:List Int),¬HGo C e [⟨19,0,0,0,2⟩] R1 W M:=fun R1 g=>by have:=(HGo.exit g).1;cases this
 have a1:=HGo.ld (rd:=base) (ra:=15) (p:=word) h (by rw[h15,aU];omega) (by omega);rw[hn]at a1;have a2:=HGo.li (rd:=11) a1;have e11:((R.set base (n:Int)).set 11 (IntKind.u32.wrap Ic)).getD 11 0=Ic:=by rw[cV (by rw[aI];omega),aE];omega
 have eb:((R.set base (n:Int)).set 11 (IntKind.u32.wrap Ic)).getD base 0=n:=by rw[cF (by omega),cV (by omega)]
 have a3:=HGo.op (rd:=12) (ra:=base) (rb:=11) (v:=b2i (decide ((n:Int)<Ic))) a2 (by decide) (by decide) (by rw[e11,eb];rfl);have b3:(((R.set base (n:Int)).set 11 (IntKind.u32.wrap Ic)).set 12 (b2i (decide ((n:Int)<Ic)))).getD 12 0=b2i (decide ((n:Int)<Ic)):=cV (by simp only[aI];omega);have a4:=HGo.bnez (ra:=12) a3 he;rw[b3]at a4;rcases a4 with⟨c1,a4⟩|⟨-,a4⟩
 ·have hlt:Ic≤n:=by
   cases hd:decide ((n:Int)<Ic)with
   |true=>rw[hd]at c1;cases c1
   |false=>have:=of_decide_eq_false hd;omega
  have a5:=HGo.li (rd:=12) a4;have a6:=HGo.op (rd:=12) (ra:=12) (rb:=base) (v:=b2i (decide (IG<(n:Int)))) a5 (by decide) (by decide) (by
   rw[cV (by simp only[aI];omega),cF (by omega),cF (by omega),eb];show b2i (decide (IntKind.u32.wrap IG<(n:Int)))=_;rw[show IntKind.u32.wrap IG=IG by rw[aE];omega])
  have a7:=HGo.bnez (ra:=12) a6 he;rw[cV (by simp only[aI];omega)]at a7;rcases a7 with⟨c2,a7⟩|⟨-,a7⟩
  ·have hle:(n:Int)≤IG:=by
    cases hd:decide (IG<(n:Int))with
    |true=>rw[hd]at c2;cases c2
    |false=>have:=of_decide_eq_false hd;omega
   have a8:=HGo.op (rd:=base) (ra:=base) (rb:=11) (v:=(n:Int) - Ic) a7 (by decide) (by decide) (by
    rw[cF (by omega),cF (by omega),cF (by omega),eb,cF (by decide),cF (by decide),cF (by decide),e11];show IntKind.u64.wrap ((n:Int) - Ic)=_;rw[aU];omega)
   refine⟨hlt,hle,_,_,a8,cV (by simp only[aI];omega),?_⟩;intro j hj;simp only[aL,bh,or_false,not_or]at hj;rw[cF (by omega),cF (by omega),cF (by omega),cF (by omega),cF (by omega),cF (by omega)]
  exact absurd a7 (no _)
 exact absurd a4 (no _)
end
end Go.Ink
