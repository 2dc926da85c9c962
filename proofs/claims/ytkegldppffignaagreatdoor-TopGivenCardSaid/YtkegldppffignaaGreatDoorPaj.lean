/- Lemmas. -/
import Derived.Test.YtkegldppffignaaGreatDoorPaa
import Derived.Test.YtkegldppffignaaGreatDoorPab
import Derived.Test.YtkegldppffignaaGreatDoorPah
set_option linter.unusedSimpArgs false
set_option linter.unusedVariables false
set_option maxRecDepth 100000
set_option maxHeartbeats 4000000
namespace Go.Ink
open Go.RowKit
structure fW(w w':Lw):Prop where
 nd:w.d.MN<=w'.d.MN
 nr:w.r.MN<=w'.r.MN
 hd:w.d.high<=w'.d.high
 hr:w.r.high<=w'.r.high
theorem fW.trans{a b c:Lw}(h:fW a b)(k:fW b c):fW a c:=⟨Int.le_trans h.nd k.nd,Int.le_trans h.nr k.nr,Int.le_trans h.hd k.hd,Int.le_trans h.hr k.hr⟩
theorem fW.refl(w:Lw):fW w w:=⟨Int.le_refl _,Int.le_refl _,Int.le_refl _,Int.le_refl _⟩
theorem nG(k:Int)(c:List II)(s:Sd):s.MN<=(fj k c s).2.2.MN/\(fj k c s).2.2.high=s.high:=by
 unfold fj;cases s.l.getLast? with
 |some n=>exact⟨Int.le_refl _,rfl⟩
 |none=>exact⟨by show s.MN<=s.MN+1;omega,rfl⟩
theorem dJ(w:Lw):fW w w.MP.2:=⟨(nG 1 w.code w.d).1,Int.le_refl _,Int.le_of_eq (nG 1 w.code w.d).2.symm,Int.le_refl _⟩
theorem iJ(w:Lw):fW w w.Nn.2:=⟨Int.le_refl _,(nG 2 w.code w.r).1,Int.le_refl _,Int.le_of_eq (nG 2 w.code w.r).2.symm⟩
theorem FA(w:Lw):fW w w.MT:=⟨Int.le_refl _,Int.le_refl _,Int.le_max_left _ _,Int.le_max_left _ _⟩
theorem yC{op:Int}(hp:dB op=true)(w:Lw)(n nx:Int):fW w (w.one op n nx):=by
 refine fW.trans ?_ (FA _);have hs:fW w w.MP.2.MP.2:=(dJ w).trans (dJ w.MP.2);rcases pw hp with rfl|rfl|rfl|rfl|rfl|rfl|rfl|rfl|rfl|hr|hr|rfl|hr|rfl|rfl|rfl
 .exact⟨(fW.refl w).nd,(fW.refl w).nr,(fW.refl w).hd,(fW.refl w).hr⟩
 .exact⟨(fW.refl w).nd,(fW.refl w).nr,(fW.refl w).hd,(fW.refl w).hr⟩
 .exact⟨(fW.refl w).nd,(fW.refl w).nr,(fW.refl w).hd,(fW.refl w).hr⟩
 .exact⟨(dJ w).nd,(dJ w).nr,(dJ w).hd,(dJ w).hr⟩
 .exact⟨(dJ w).nd,(dJ w).nr,(dJ w).hd,(dJ w).hr⟩
 .exact⟨(hs).nd,(hs).nr,(hs).hd,(hs).hr⟩
 .exact⟨(hs).nd,(hs).nr,(hs).hd,(hs).hr⟩
 .exact⟨(dJ w).nd,(dJ w).nr,(dJ w).hd,(dJ w).hr⟩
 .exact⟨(iJ w).nd,(iJ w).nr,(iJ w).hd,(iJ w).hr⟩
 .rw[lB (Or.inl hr)];unfold Lw.reckon;rw[show(op !=25)=true by simp;omega];exact⟨(hs).nd,(hs).nr,(hs).hd,(hs).hr⟩
 .rw[lB (Or.inr hr)];subst hr;exact⟨(hs).nd,(hs).nr,(hs).hd,(hs).hr⟩
 .exact⟨(fW.refl w).nd,(fW.refl w).nr,(fW.refl w).hd,(fW.refl w).hr⟩
 .have h5:op=33\/op=34\/op=35\/op=36\/op=37:=by omega
  rcases h5 with rfl|rfl|rfl|rfl|rfl<;>exact⟨(fW.refl w).nd,(fW.refl w).nr,(fW.refl w).hd,(fW.refl w).hr⟩
 .exact⟨(fW.refl w).nd,(fW.refl w).nr,(fW.refl w).hd,(fW.refl w).hr⟩
 .exact⟨(iJ w).nd,(iJ w).nr,(iJ w).hd,(iJ w).hr⟩
 exact⟨(dJ w).nd,(dJ w).nr,(dJ w).hd,(dJ w).hr⟩
theorem qv{a:Nat}(ha:a<18446744073709551616):(BitVec.ofInt IntKind.u64.bits (a:Int)).toNat=a:=by rw[BitVec.toNat_ofInt];show((a:Int)%((18446744073709551616:Nat):Int)).toNat=a;omega
theorem qw{a:Nat}(ha:a<4294967296):(BitVec.ofInt IntKind.u32.bits (a:Int)).toNat=a:=by rw[BitVec.toNat_ofInt];show((a:Int)%((4294967296:Nat):Int)).toNat=a;omega
theorem IZ{a b:Nat}(ha:a<18446744073709551616)(hb:b<18446744073709551616):bits .and .u64 (a:Int) (b:Int)=((a&&&b:Nat):Int):=by
  have h3:a&&&b<=a:=Nat.and_le_left;unfold bits;simp only;rw[aQ,BitVec.toNat_and,qv ha,qv hb];omega
theorem or64{a b:Nat}(ha:a<18446744073709551616)(hb:b<18446744073709551616):bits .or .u64 (a:Int) (b:Int)=((a|||b:Nat):Int):=by
  have h3:a|||b<2^64:=Nat.or_lt_two_pow ha hb
  unfold bits;simp only;rw[aQ,BitVec.toNat_or,qv ha,qv hb];omega
theorem C6{a b:Nat}(ha:a<18446744073709551616)(hb:b<18446744073709551616):bits .xor .u64 (a:Int) (b:Int)=((a^^^b:Nat):Int):=by
  have h3:a^^^b<2^64:=Nat.xor_lt_two_pow ha hb;unfold bits;simp only;rw[aQ,BitVec.toNat_xor,qv ha,qv hb];omega
theorem I0{a b:Nat}(ha:a<4294967296)(hb:b<4294967296):bits .and .u32 (a:Int) (b:Int)=((a&&&b:Nat):Int):=by
  have h3:a&&&b<=a:=Nat.and_le_left;unfold bits;simp only;rw[aE,BitVec.toNat_and,qw ha,qw hb];omega
theorem or32{a b:Nat}(ha:a<4294967296)(hb:b<4294967296):bits .or .u32 (a:Int) (b:Int)=((a|||b:Nat):Int):=by
  have h3:a|||b<2^32:=Nat.or_lt_two_pow ha hb
  unfold bits;simp only;rw[aE,BitVec.toNat_or,qw ha,qw hb];omega
theorem C7{a b:Nat}(ha:a<4294967296)(hb:b<4294967296):bits .xor .u32 (a:Int) (b:Int)=((a^^^b:Nat):Int):=by
  have h3:a^^^b<2^32:=Nat.xor_lt_two_pow ha hb;unfold bits;simp only;rw[aE,BitVec.toNat_xor,qw ha,qw hb];omega
theorem low64(z:Int):bits .and .u64 (IntKind.u64.wrap z) 4294967295=IntKind.u32.wrap z:=by
  obtain⟨n,hn⟩:∃n:Nat,IntKind.u64.wrap z=n:=ar (by rw[aQ];omega);have h1:n<18446744073709551616:=by rw[aQ]at hn;omega
  rw[hn,show(4294967295:Int)=((4294967295:Nat):Int)from rfl,IZ h1 Wq5,show(4294967295:Nat)=2^32 - 1 from rfl,Nat.and_two_pow_sub_one_eq_mod];rw[aQ]at hn;rw[aE];omega
theorem iQ{a b:Nat}(ha:a<4294967296)(hb:b<4294967296):a^^^b<4294967296:=Nat.xor_lt_two_pow (n:=32) ha hb
theorem r7{a b:Nat}(ha:a<4294967296):a&&&b<4294967296:=Nat.lt_of_le_of_lt Nat.and_le_left ha
theorem top32{a:Nat}(ha:a<4294967296):(bits .and .u32 (a:Int) 2147483648 !=0)=decide (2147483648<=a):=by
  have h1:=I0 ha (show 2147483648<4294967296 by decide);rw[show((2147483648:Nat):Int)=2147483648 from rfl]at h1;rw[h1];have h2:a&&&2147483648=if 2147483648<=a then 2147483648 else 0:=by
    apply Nat.eq_of_testBit_eq;intro i;rw[show(2147483648:Nat)=2^31 from rfl,Nat.testBit_and,Nat.testBit_two_pow];by_cases e:31=i
    . subst e
      rw[Nat.testBit_eq_decide_div_mod_eq];by_cases h:2^31<=a
      . rw[if_pos h,Nat.testBit_two_pow,ax (show a/2^31%2=1 by omega)];rfl
      rw[if_neg h,aw (show¬a/2^31%2=1 by omega)];rfl
    rw[aw e,Bool.and_false];split
    . rw[Nat.testBit_two_pow,aw e]
    rw[Nat.zero_testBit]
  rw[h2];by_cases h:2147483648<=a
  . rw[if_pos h,ax h];rfl
  rw[if_neg h,aw h];rfl
theorem shr31{a:Nat}(ha:a<4294967296):(a:Int).fdiv (2^(min (Int.toNat 31) IntKind.u64.bits))=b2i (decide (2147483648<=a)):=by
  show(a:Int).fdiv 2147483648=_;by_cases h:2147483648<=a
  . rw[ax h];show(a:Int).fdiv 2147483648=1;rw[bl _ Wq5];omega
  rw[aw h];show(a:Int).fdiv 2147483648=0;rw[bl _ Wq5];omega
structure HI where
  op:Int
  rd:Int
  ra:Int
  rb:Int
  imm:Int
def HI.zero:HI:=⟨0,0,0,0,0⟩
structure HM where
  Na:List Int
  words:List Int
  pc:Int
def fc(op a b:Int):Int:=
  bif op==2 then a else bif op==3 then IntKind.u64.wrap (a+b)else bif op==4 then IntKind.u64.wrap (a - b)else bif op==5 then bits .and .u64 a b else bif op==6 then bits .or .u64 a b else bif op==7 then bits .xor .u64 a b else
  bif op==8 then IntKind.u64.wrap (a*2^(min b.toNat IntKind.u64.bits))else bif op==9 then a.fdiv (2^(min b.toNat IntKind.u64.bits))else bif op==10 then IntKind.u64.wrap (a*b)else
  bif op==11 then(bif b==0 then 0 else IntKind.u64.wrap (a.tdiv b))else bif op==12 then b2i (decide (a<b))else b2i (a==b)
abbrev rg(R:List Int)(k:Int):Int:=R.getD k.toNat 0
def pI(R:List Int)(i:HI):Int:=IntKind.u64.wrap (rg R i.ra+i.imm)
def hdo(i:HI)(m:HM):Int×HM:=
  bif i.op==0 then(0,⟨m.Na,m.words,m.pc+1⟩)else
  bif i.op==1 then(0,⟨m.Na.set i.rd.toNat i.imm,m.words,m.pc+1⟩)else
  bif i.op==14||i.op==15 then
    (bif decide ((m.words.length:Int)<=pI m.Na i)then(4,m)else
     bif i.op==14 then(0,⟨m.Na.set i.rd.toNat (m.words.getD (pI m.Na i).toNat 0),m.words,m.pc+1⟩)
     else(0,⟨m.Na,m.words.set (pI m.Na i).toNat (IntKind.u32.wrap (rg m.Na i.rb)),m.pc+1⟩))else
  bif i.op==16||i.op==17 then(0,⟨m.Na,m.words,bif(rg m.Na i.ra==0)==(i.op==16)then i.imm else m.pc+1⟩)else
  bif i.op==18 then(0,⟨m.Na,m.words,i.imm⟩)else
  bif i.op==19 then(1,m)else(0,⟨m.Na.set i.rd.toNat (fc i.op (rg m.Na i.ra) (rg m.Na i.rb)),m.words,m.pc+1⟩)
def MX(C:List HI)(m:HM):Int×HM:=
  bif decide (m.pc<0)||decide ((C.length:Int)<=m.pc)then(2,m)else hdo (C.getD m.pc.toNat HI.zero) m
def jy(C:List HI):Nat->HM->(Int×Int)×HM
  |0,m=>((5,0),m)
  |f+1,m=>bif(MX C m).1==0 then jy C f (MX C m).2 else bif(MX C m).1==1 then((1,(C.getD (MX C m).2.pc.toNat HI.zero).imm),(MX C m).2)else(((MX C m).1,0),(MX C m).2)
structure HGo(C:List HI)(k:Nat)(l:List HI)(R W:List Int)(M:HM):Prop where
  at_:C.drop k=l
  rl:R.length=16
  wl:W.length=256
  ends:∃f,jy C f ⟨R,W,(k:Int)⟩=((1,1),M)
section
variable {C l:List HI} {k:Nat} {R W:List Int} {M:HM} {i:HI}
theorem HGo.code(h:HGo C k (i::l) R W M):k<C.length/\C.getD k HI.zero=i/\C.drop (k+1)=l:=by
  have h1:=h.at_;have h2:k<C.length:=by
    by_cases hk:k<C.length
    . exact hk
    rw[List.drop_eq_nil_of_le Wq1]at h1;cases h1
  rw[List.drop_eq_getElem_cons h2]at h1;injection h1 with h3 h4
  exact⟨h2,by rw[aF,ai h2,h3];rfl,h4⟩
theorem HGo.MX(h:HGo C k (i::l) R W M):MX C ⟨R,W,(k:Int)⟩=hdo i ⟨R,W,(k:Int)⟩:=by
  obtain⟨h1,h2,h3⟩:=h.code;unfold Ink.MX;rw[show decide ((k:Int)<0)=false from aw Wq1,show decide ((C.length:Int)<=(k:Int))=false from aw Wq1];show hdo (C.getD ((k:Int)).toNat HI.zero) _=_;rw[aP,h2]
theorem HGo.on{R' W':List Int}{j:Nat}{l':List HI}(h:HGo C k (i::l) R W M)(hd:hdo i ⟨R,W,(k:Int)⟩=(0,⟨R',W',(j:Int)⟩))(hr:R'.length=16)(hw:W'.length=256)(hl:C.drop j=l'):HGo C j l' R' W' M:=by
  refine⟨hl,hr,hw,?_⟩;obtain⟨f,hf⟩:=h.ends;cases f with
  |zero=>cases hf
  |succ f=>
    refine⟨f,?_⟩;unfold jy at hf;rw[h.MX,hd]at hf;exact hf
theorem HGo.exit{imm:Int}(h:HGo C k (⟨19,0,0,0,imm⟩::l) R W M):imm=1/\M=⟨R,W,(k:Int)⟩:=by
  obtain⟨f,hf⟩:=h.ends;cases f with
  |zero=>cases hf
  |succ f=>
    unfold jy at hf;rw[h.MX]at hf;have e:hdo ⟨19,0,0,0,imm⟩ ⟨R,W,(k:Int)⟩=(1,⟨R,W,(k:Int)⟩):=rfl;rw[e]at hf;dsimp only at hf;rw[show((1:Int)==0)=false from rfl,show((1:Int)==1)=true from rfl,aa,ac]at hf;have h2:(((1:Int),(C.getD ((k:Int)).toNat HI.zero).imm),(⟨R,W,(k:Int)⟩:HM))=(((1:Int),(1:Int)),M):=hf;rw[aP,h.code.2.1]at h2;injection h2 with h3 h4
    injection h3 with h5 h6
    exact⟨h6,h4.symm⟩
theorem cV{R:List Int}{j:Nat}{v:Int}(hj:j<R.length):(R.set j v).getD j 0=v:=by
  rw[aF,List.getElem?_set_self hj];rfl
theorem cF{R:List Int}{i j:Nat}{v:Int}(h:i≠j):(R.set i v).getD j 0=R.getD j 0:=by
  rw[aF,aX h,<-aF]
def kJ(except:List Nat)(R R':List Int):Prop:=∀j,j∉except->R'.getD j 0=R.getD j 0
theorem kJ.refl(e:List Nat)(R:List Int):kJ e R R:=λ_ _=>rfl
theorem kJ.trans{e e':List Nat}{A B D:List Int}(h:kJ e A B)(h':kJ e' B D){e2:List Nat}(hs:∀x,x∈e\/x∈e'->x∈e2):kJ e2 A D:=λj hj=>(h' j λhx=>hj (hs j (Or.inr hx))).trans (h j λhx=>hj (hs j (Or.inl hx)))
theorem kJ.set(R:List Int)(j:Nat)(v:Int){e:List Nat}(hj:j∈e):kJ e R (R.set j v):=λi hi=>cF (λh=>hi (h▸hj))
theorem HGo.li{rd:Nat}{v:Int}(h:HGo C k (⟨1,(rd:Int),0,0,v⟩::l) R W M):HGo C (k+1) l (R.set rd v) W M:=
  h.on rfl (by rw[aC,h.rl]) h.wl h.code.2.2
theorem HGo.op{op:Int}{rd ra rb:Nat}{v:Int}(h:HGo C k (⟨op,(rd:Int),(ra:Int),(rb:Int),0⟩::l) R W M)(h2:2<=op)(h13:op<=13)(hv:fc op (R.getD ra 0) (R.getD rb 0)=v):HGo C (k+1) l (R.set rd v) W M:=by
  refine h.on ?_ (by rw[aC,h.rl]) h.wl h.code.2.2;unfold hdo;show(bif op==0 then _ else bif op==1 then _ else bif op==14||op==15 then _ else bif op==16||op==17 then _ else bif op==18 then _ else bif op==19 then _ else _)=_;rw[show(op==0)=false by simp;omega,show(op==1)=false by simp;omega,show(op==14)=false by simp;omega,show(op==15)=false by simp;omega,show(op==16)=false by simp;omega,show(op==17)=false by simp;omega,show(op==18)=false by simp;omega,show(op==19)=false by simp;omega];show(0,(⟨R.set ((rd:Int)).toNat (fc op (R.getD ((ra:Int)).toNat 0) (R.getD ((rb:Int)).toNat 0)),W,(k:Int)+1⟩:HM))=_;rw[aP,aP,aP,hv]
  rfl
theorem HGo.mov{rd ra:Nat}(h:HGo C k (⟨2,(rd:Int),(ra:Int),0,0⟩::l) R W M):HGo C (k+1) l (R.set rd (R.getD ra 0)) W M:=
  HGo.op (rb:=0) h Wq5 Wq5 rfl
theorem HGo.ld{rd ra p:Nat}{im:Int}(h:HGo C k (⟨14,(rd:Int),(ra:Int),0,im⟩::l) R W M)(hp:IntKind.u64.wrap (R.getD ra 0+im)=(p:Int))(hp2:p<256):HGo C (k+1) l (R.set rd (W.getD p 0)) W M:=by
  refine h.on ?_ (by rw[aC,h.rl]) h.wl h.code.2.2;have e:pI R ⟨14,(rd:Int),(ra:Int),0,im⟩=(p:Int):=hp;unfold hdo;dsimp only;rw[e,show decide ((W.length:Int)<=(p:Int))=false from aw (by rw[h.wl];omega)]
  rfl
theorem HGo.st{ra rb p:Nat}{im v:Int}(h:HGo C k (⟨15,0,(ra:Int),(rb:Int),im⟩::l) R W M)(hp:IntKind.u64.wrap (R.getD ra 0+im)=(p:Int))(hp2:p<256)(hv:IntKind.u32.wrap (R.getD rb 0)=v):HGo C (k+1) l R (W.set p v) M:=by
  refine h.on ?_ h.rl (by rw[aC,h.wl]) h.code.2.2;have e:pI R ⟨15,0,(ra:Int),(rb:Int),im⟩=(p:Int):=hp;unfold hdo;dsimp only;rw[e,show decide ((W.length:Int)<=(p:Int))=false from aw (by rw[h.wl];omega)];subst hv
  rfl
theorem HGo.bnez{ra j:Nat}{l':List HI}(h:HGo C k (⟨17,0,(ra:Int),0,(j:Int)⟩::l) R W M)(hl:C.drop j=l'):R.getD ra 0=0/\HGo C (k+1) l R W M\/R.getD ra 0≠0/\HGo C j l' R W M:=by
  by_cases h0:R.getD ra 0=0
  . refine Or.inl ⟨h0,h.on ?_ h.rl h.wl h.code.2.2⟩
    show(0,(⟨R,W,bif(R.getD ((ra:Int)).toNat 0==0)==false then(j:Int)else(k:Int)+1⟩:HM))=_;rw[aP,h0];rfl
  refine Or.inr ⟨h0,h.on ?_ h.rl h.wl hl⟩;show(0,(⟨R,W,bif(R.getD ((ra:Int)).toNat 0==0)==false then(j:Int)else(k:Int)+1⟩:HM))=_;rw[aP,show(R.getD ra 0==0)=false by simp;simpa using h0];rfl
theorem HGo.beqz{ra j:Nat}{l':List HI}(h:HGo C k (⟨16,0,(ra:Int),0,(j:Int)⟩::l) R W M)(hl:C.drop j=l'):R.getD ra 0≠0/\HGo C (k+1) l R W M\/R.getD ra 0=0/\HGo C j l' R W M:=by
  by_cases h0:R.getD ra 0=0
  . refine Or.inr ⟨h0,h.on ?_ h.rl h.wl hl⟩
    show(0,(⟨R,W,bif(R.getD ((ra:Int)).toNat 0==0)==true then(j:Int)else(k:Int)+1⟩:HM))=_;rw[aP,h0];rfl
  refine Or.inl ⟨h0,h.on ?_ h.rl h.wl h.code.2.2⟩;show(0,(⟨R,W,bif(R.getD ((ra:Int)).toNat 0==0)==true then(j:Int)else(k:Int)+1⟩:HM))=_;rw[aP,show(R.getD ra 0==0)=false by simp;simpa using h0];rfl
end
def kV(op:Int):Int:=bif op==16 then 3 else bif op==18 then 5 else bif op==19 then 6 else bif op==20 then 7 else bif op==21 then 8 else bif op==22 then 9 else bif op==23 then 10 else 4
def Mn(r:Int):List HI:=[⟨1,12,0,0,4294967295⟩,⟨5,r,r,12,0⟩]
def xe(op:Int):Bool:=op==18||op==19||op==20||op==22
def vV(op rd a b:Int):List HI:=⟨kV op,rd,a,b,0⟩::(bif xe op then[]else Mn rd)
def ur(r up:Int):List HI:=[⟨1,12,0,0,up⟩,⟨8,r,r,12,0⟩,⟨6,10,10,r,0⟩]
def io(rd r:Int):List HI:=[⟨1,12,0,0,31⟩,⟨9,rd,r,12,0⟩]
def gY:List HI:=⟨5,11,11,12,0⟩::(io 11 11++ur 11 3)
def gt(op a b:Int):List HI:=vV op 9 a b++(⟨13,10,9,15,0⟩::(io 11 9++ur 11 1))
def kF(a b:Int):List HI:=⟨12,11,9,a,0⟩::(ur 11 2++(⟨7,11,a,9,0⟩::⟨7,12,b,9,0⟩::gY))
def kE(a b:Int):List HI:=⟨12,11,a,b,0⟩::(ur 11 2++(⟨7,11,a,b,0⟩::⟨7,12,a,9,0⟩::gY))
def ma(op a b:Int):List HI:=gt op a b++(bif op==16 then kF a b else bif op==17||op==25 then kE a b else[])
def uu(op x y:Int):Int:=bif op==25 then IntKind.u32.wrap (x - y)else(iN op x y).1
section
variable {C l:List HI} {k:Nat} {R W:List Int} {M:HM}
theorem HGo.low{rd:Nat}{z:Int}(h:HGo C k (Mn rd++l) R W M)(hz:R.getD rd 0=IntKind.u64.wrap z)(hr:rd<12):∃k' R',HGo C k' l R' W M/\R'.getD rd 0=IntKind.u32.wrap z/\kJ [rd,12] R R':=by
 have h1:=HGo.li (rd:=12) h;have hl:=h1.rl;have e1:(R.set 12 4294967295).getD rd 0=IntKind.u64.wrap z:=by rw[cF Wq1,hz]
 have e2:(R.set 12 4294967295).getD 12 0=4294967295:=cV (by rw[h.rl];decide);have h2:=HGo.op (rd:=rd) (ra:=rd) (rb:=12) (v:=IntKind.u32.wrap z) h1 Wq5 Wq5 (by rw[e1,e2];exact low64 z);refine⟨_,_,h2,cV (by rw[hl];omega),?_⟩;exact(kJ.set R 12 _ (e:=[rd,12]) cE).trans (kJ.set _ rd _ (e:=[rd,12]) cE) (by intro x hx;simpa using hx)
theorem r8{op:Int}{x y:Nat}(hop:(16<=op/\op<=23)\/op=25)(hx:x<4294967296)(hy:y<4294967296):∃r:Nat,uu op x y=r/\r<4294967296:=by
 have hw:∀z:Int,∃r:Nat,IntKind.u32.wrap z=r/\r<4294967296:=λz=>by
  rw[aE];exact⟨(z%4294967296).toNat,by omega,by omega⟩
 have h:op=16\/op=17\/op=18\/op=19\/op=20\/op=21\/op=22\/op=23\/op=25:=by omega
 rcases h with rfl|rfl|rfl|rfl|rfl|rfl|rfl|rfl|rfl
 .exact hw _
 .exact hw _
 .exact⟨x&&&y,I0 hx hy,r7 hx⟩
 .exact⟨x|||y,or32 hx hy,Nat.or_lt_two_pow (n:=32) hx hy⟩
 .exact⟨x^^^y,C7 hx hy,iQ hx hy⟩
 .show∃r:Nat,iq (x:Int) (y:Int) true=r/\_;unfold iq;cases decide (32<=(y:Int))with
  |true=>exact⟨0,rfl,by decide⟩
  |false=>exact hw _
 .show∃r:Nat,iq (x:Int) (y:Int) false=r/\_;unfold iq;cases decide (32<=(y:Int))with
  |true=>exact⟨0,rfl,by decide⟩
  |false=>
   refine⟨x/2^(min y IntKind.u32.bits),?_,Nat.lt_of_le_of_lt (Nat.div_le_self _ _) hx⟩;show(x:Int).fdiv (2^(min ((y:Int)).toNat IntKind.u32.bits))=_;rw[aP,bl _ (by exact Int.le_of_lt (Int.pow_pos Wq5))];simp
 .exact hw _
 exact hw _
theorem shl64{x y:Nat}:IntKind.u32.wrap ((x:Int)*2^(min ((y:Int)).toNat IntKind.u64.bits))=iq (x:Int) (y:Int) true:=by
 unfold iq;rw[aP];by_cases h:32<=y
 .rw[ax (show 32<=(y:Int) by omega)];show _=(0:Int);obtain⟨m,hm⟩:∃m,min y IntKind.u64.bits=32+m:=⟨min y IntKind.u64.bits - 32,by show min y 64=32+(min y 64 - 32);omega⟩;rw[hm,Int.pow_add,<-Int.mul_assoc,Int.mul_comm (x:Int),Int.mul_assoc,aE];exact Int.mul_emod_right _ _
 rw[aw (show¬32<=(y:Int) by omega)];show _=IntKind.u32.wrap ((x:Int)*2^(min y IntKind.u32.bits));rw[show min y IntKind.u64.bits=y by show min y 64=y;omega,show min y IntKind.u32.bits=y by show min y 32=y;omega]
theorem shr64{x y:Nat}(hx:x<4294967296):(x:Int).fdiv (2^(min ((y:Int)).toNat IntKind.u64.bits))=iq (x:Int) (y:Int) false:=by
 unfold iq;rw[aP];by_cases h:32<=y
 .rw[ax (show 32<=(y:Int) by omega)];show _=(0:Int);obtain⟨m,hm⟩:∃m,min y IntKind.u64.bits=32+m:=⟨min y IntKind.u64.bits - 32,by show min y 64=32+(min y 64 - 32);omega⟩;rw[hm,bl _ (by exact Int.le_of_lt (Int.pow_pos Wq5))];refine Int.ediv_eq_zero_of_lt Wq1 ?_;have h1:(2:Nat)^32<=2^(32+m):=Nat.pow_le_pow_right Wq5 Wq1;have h2:((2:Nat)^(32+m):Nat)=((2:Int)^(32+m)):=by simp
  rw[<-h2];have:(4294967296:Nat)<=2^(32+m):=h1;omega
 rw[aw (show¬32<=(y:Int) by omega)];show _=(x:Int).fdiv (2^(min y IntKind.u32.bits));rw[show min y IntKind.u64.bits=y by show min y 64=y;omega,show min y IntKind.u32.bits=y by show min y 32=y;omega]
theorem HGo.alu{op:Int}{rd ra rb x y:Nat}(hop:(16<=op/\op<=23)\/op=25)(h:HGo C k (vV op rd ra rb++l) R W M)(hrd:rd<12)(hx:R.getD ra 0=x)(hy:R.getD rb 0=y)(hx2:x<4294967296)(hy2:y<4294967296):
  ∃k' R',HGo C k' l R' W M/\R'.getD rd 0=uu op x y/\kJ [rd,12] R R':=by
 have hl:=h.rl;have hlow:∀(o:Int) (z:Int),2<=o->o<=13->HGo C k (⟨o,(rd:Int),(ra:Int),(rb:Int),0⟩::(Mn rd++l)) R W M->fc o x y=IntKind.u64.wrap z->
   ∃k' R',HGo C k' l R' W M/\R'.getD rd 0=IntKind.u32.wrap z/\kJ [rd,12] R R':=λo z h1 h2 g hz=>by
  have g1:=HGo.op g h1 h2 (v:=IntKind.u64.wrap z) (by rw[hx,hy,hz]);obtain⟨k',R',g2,g3,g4⟩:=g1.low (cV Wq1) hrd;exact⟨k',R',g2,g3,(kJ.set R rd _ (e:=[rd,12]) cE).trans g4 (by intro x hx;simpa using hx)⟩
 have hno:∀(o z:Int),2<=o->o<=13->HGo C k (⟨o,(rd:Int),(ra:Int),(rb:Int),0⟩::l) R W M->fc o x y=z->∃k' R',HGo C k' l R' W M/\R'.getD rd 0=z/\kJ [rd,12] R R':=λo z h1 h2 g hz=>
  ⟨_,_,HGo.op g h1 h2 (v:=z) (by rw[hx,hy,hz]),cV Wq1,kJ.set R rd _ cE⟩
 have h8:op=16\/op=17\/op=18\/op=19\/op=20\/op=21\/op=22\/op=23\/op=25:=by omega
 rcases h8 with rfl|rfl|rfl|rfl|rfl|rfl|rfl|rfl|rfl
 .exact hlow 3 _ Wq5 Wq5 h rfl
 .exact hlow 4 _ Wq5 Wq5 h rfl
 .exact hno 5 _ Wq5 Wq5 h (show bits .and .u64 (x:Int) (y:Int)=bits .and .u32 (x:Int) (y:Int) by rw[IZ Wq1 Wq1,I0 hx2 hy2])
 .exact hno 6 _ Wq5 Wq5 h (show bits .or .u64 (x:Int) (y:Int)=bits .or .u32 (x:Int) (y:Int) by rw[or64 Wq1 Wq1,or32 hx2 hy2])
 .exact hno 7 _ Wq5 Wq5 h (show bits .xor .u64 (x:Int) (y:Int)=bits .xor .u32 (x:Int) (y:Int) by rw[C6 Wq1 Wq1,C7 hx2 hy2])
 .obtain⟨k',R',g1,g2,g3⟩:=hlow 8 _ Wq5 Wq5 h rfl;exact⟨k',R',g1,g2.trans shl64,g3⟩
 .exact hno 9 _ Wq5 Wq5 h (shr64 hx2)
 .exact hlow 10 _ Wq5 Wq5 h rfl
 exact hlow 4 _ Wq5 Wq5 h rfl
theorem CN:∀(a b c d:Bool),bits .or .u64 (b2i a) (IntKind.u64.wrap (b2i b*2^(min (Int.toNat 1) IntKind.u64.bits)))=b2i a+2*b2i b/\bits .or .u64 (b2i a+2*b2i b) (IntKind.u64.wrap (b2i c*2^(min (Int.toNat 2) IntKind.u64.bits)))=b2i a+2*b2i b+4*b2i c/\
  bits .or .u64 (b2i a+2*b2i b+4*b2i c) (IntKind.u64.wrap (b2i d*2^(min (Int.toNat 3) IntKind.u64.bits)))=b2i a+2*b2i b+4*b2i c+8*b2i d:=by decide+kernel
theorem HGo.bit{up s c s':Int}(h:HGo C k (ur 11 up++l) R W M)(hs:R.getD 10 0=s)(hc:R.getD 11 0=c)(h':bits .or .u64 s (IntKind.u64.wrap (c*2^(min up.toNat IntKind.u64.bits)))=s'):
  ∃k' R',HGo C k' l R' W M/\R'.getD 10 0=s'/\kJ [10,11,12] R R':=by
 have hl:=h.rl;have h1:=HGo.li (rd:=12) h;have h2:=HGo.op (rd:=11) (ra:=11) (rb:=12) (v:=IntKind.u64.wrap (c*2^(min up.toNat IntKind.u64.bits))) h1 Wq5 Wq5 (by rw[cF Wq5,hc,cV Wq1];rfl);have h3:=HGo.op (rd:=10) (ra:=10) (rb:=11) (v:=s') h2 Wq5 Wq5 (by rw[cF Wq5,cF Wq5,hs,cV (by rw[aC];omega)];exact h');refine⟨_,_,h3,cV (by simp only[aC];omega),?_⟩;exact((kJ.set R 12 _ (e:=[10,11,12]) cE).trans (kJ.set _ 11 _ (e:=[10,11,12]) cE) (e2:=[10,11,12]) (by intro x hx;simpa using hx)).trans (kJ.set _ 10 _ (e:=[10,11,12]) cE) (by intro x hx;simpa using hx)
theorem HGo.signed{rd r x:Nat}(h:HGo C k (io rd r++l) R W M)(hrd:rd<12)(hr:r<12)(hx:R.getD r 0=x)(hx2:x<4294967296):∃k' R',HGo C k' l R' W M/\R'.getD rd 0=b2i (decide (2147483648<=x))/\kJ [rd,12] R R':=by
 have hl:=h.rl;have h1:=HGo.li (rd:=12) h;have h2:=HGo.op (rd:=rd) (ra:=r) (rb:=12) (v:=b2i (decide (2147483648<=x))) h1 Wq5 Wq5 (by rw[cF Wq1,hx,cV Wq1];exact shr31 hx2);refine⟨_,_,h2,cV (by rw[aC];omega),?_⟩;exact(kJ.set R 12 _ (e:=[rd,12]) cE).trans (kJ.set _ rd _ (e:=[rd,12]) cE) (by intro x hx;simpa using hx)
theorem ju{r:Nat}(hr:r<4294967296):dE (r:Int)=b2i ((r:Int)==0)+2*b2i (decide (2147483648<=r)):=by
 unfold dE;rw[top32 hr];cases(r:Int)==0<;>cases decide (2147483648<=r)<;>rfl
theorem tO(a b r o:Int)(p q c:Bool):jK a b r (b2i p+2*b2i q) c o=b2i p+2*b2i q+4*b2i c+8*b2i (o !=0):=by
 unfold jK;cases o !=0<;>cases p<;>cases q<;>cases c<;>rfl
theorem HGo.flagB{op:Int}{ra rb x y:Nat}(hop:(16<=op/\op<=23)\/op=25)(h:HGo C k (gt op ra rb++l) R W M)(h15:R.getD 15 0=0)(hx:R.getD ra 0=x)(hy:R.getD rb 0=y)(hx2:x<4294967296)(hy2:y<4294967296):
  ∃k' R' r,HGo C k' l R' W M/\uu op x y=(r:Nat)/\r<4294967296/\R'.getD 9 0=(r:Int)/\R'.getD 10 0=b2i ((r:Int)==0)+2*b2i (decide (2147483648<=r))/\kJ [9,10,11,12] R R':=by
 obtain⟨r,hr,hr2⟩:=r8 hop hx2 hy2;have h:HGo C k (vV op 9 ra rb++(⟨13,10,9,15,0⟩::(io 11 9++(ur 11 1++l)))) R W M:=by
  have:gt op ra rb++l=vV op 9 ra rb++(⟨13,10,9,15,0⟩::(io 11 9++(ur 11 1++l))):=by unfold gt;simp only[ap,aN]
  rwa[this]at h
 obtain⟨k1,R1,g1,g2,g3⟩:=HGo.alu (rd:=9) hop h Wq5 hx hy hx2 hy2;rw[hr]at g2;have g4:=HGo.op (rd:=10) (ra:=9) (rb:=15) (v:=b2i ((r:Int)==0)) g1 Wq5 Wq5 (by rw[g2,g3 15 Wq5,h15];rfl);obtain⟨k2,R2,p1,p2,p3⟩:=HGo.signed (rd:=11) (r:=9) (x:=r) g4 Wq5 Wq5 (by rw[cF Wq5,g2]) hr2;have e10:R2.getD 10 0=b2i ((r:Int)==0):=by rw[p3 10 Wq5,cV (by rw[g1.rl];decide)]
 obtain⟨k3,R3,q1,q2,q3⟩:=HGo.bit p1 e10 p2 (CN ((r:Int)==0) (decide (2147483648<=r)) false false).1;have e9:R3.getD 9 0=(r:Int):=by rw[q3 9 Wq5,p3 9 Wq5,cF Wq5,g2]
 refine⟨k3,R3,r,q1,hr,hr2,e9,q2,?_⟩;intro j hj;simp only[aJ,aY,or_false,not_or]at hj;rw[q3 j (by simp;omega),p3 j (by simp;omega),cF Wq1,g3 j (by simp;omega)]
theorem HGo.flagE{p q c:Bool}{u v:Nat}(h:HGo C k (gY++l) R W M)(h10:R.getD 10 0=b2i p+2*b2i q+4*b2i c)(h11:R.getD 11 0=u)(h12:R.getD 12 0=v)(hu:u<4294967296)(hv:v<4294967296):
  ∃k' R',HGo C k' l R' W M/\R'.getD 10 0=b2i p+2*b2i q+4*b2i c+8*b2i (decide (2147483648<=u&&&v))/\kJ [10,11,12] R R':=by
 have g1:=HGo.op (rd:=11) (ra:=11) (rb:=12) (v:=((u&&&v:Nat):Int)) (l:=io 11 11++(ur 11 3++l)) (by
  have:gY++l=⟨5,11,11,12,0⟩::(io 11 11++(ur 11 3++l)):=by unfold gY;simp only[ap,aN]
  rw[this]at h;exact h) Wq5 Wq5 (by rw[h11,h12];exact IZ Wq1 Wq1)
 obtain⟨k2,R2,p1,p2,p3⟩:=HGo.signed (rd:=11) (r:=11) (x:=u&&&v) g1 Wq5 Wq5 (cV (by rw[h.rl];decide)) (r7 hu);obtain⟨k3,R3,q1,q2,q3⟩:=HGo.bit p1 (show R2.getD 10 0=_ by rw[p3 10 Wq5,cF Wq5,h10]) p2 (CN p q c (decide (2147483648<=u&&&v))).2.2;refine⟨k3,R3,q1,q2,?_⟩;intro j hj;simp only[aJ,aY,or_false,not_or]at hj;rw[q3 j (by simp;omega),p3 j (by simp;omega),cF Wq1]
theorem HGo.flag{op:Int}{ra rb x y:Nat}(hop:(16<=op/\op<=23)\/op=25)(h:HGo C k (ma op ra rb++l) R W M)(ha:ra<9)(hb:rb<9)(h15:R.getD 15 0=0)(hx:R.getD ra 0=x)(hy:R.getD rb 0=y)(hx2:x<4294967296)(hy2:y<4294967296):
  ∃k' R',HGo C k' l R' W M/\R'.getD 10 0=(iN op x y).2.1/\kJ [9,10,11,12] R R':=by
 have h:HGo C k (gt op ra rb++((bif op==16 then kF ra rb else bif op==17||op==25 then kE ra rb else[])++l)) R W M:=by
  have:ma op ra rb++l=gt op ra rb++((bif op==16 then kF ra rb else bif op==17||op==25 then kE ra rb else[])++l):=by unfold ma;rw[ap]
  rwa[this]at h
 obtain⟨k1,R1,r,g1,g2,g3,g4,g5,g6⟩:=HGo.flagB hop h h15 hx hy hx2 hy2;have ex:R1.getD ra 0=x:=by rw[g6 ra (by simp;omega),hx]
 have ey:R1.getD rb 0=y:=by rw[g6 rb (by simp;omega),hy]
 have hsub:∀op',uu op' x y=(r:Nat)->uu op' x y=IntKind.u32.wrap ((x:Int) - y)->HGo C k1 (kE ra rb++l) R1 W M->∃k' R',HGo C k' l R' W M/\R'.getD 10 0=fe x y/\kJ [9,10,11,12] R R':=λop' e1 e2 g=>by
  have g:HGo C k1 (⟨12,11,(ra:Int),(rb:Int),0⟩::(ur 11 2++(⟨7,11,(ra:Int),(rb:Int),0⟩::⟨7,12,(ra:Int),9,0⟩::(gY++l)))) R1 W M:=by
   have:kE ra rb++l=⟨12,11,(ra:Int),(rb:Int),0⟩::(ur 11 2++(⟨7,11,(ra:Int),(rb:Int),0⟩::⟨7,12,(ra:Int),9,0⟩::(gY++l))):=by unfold kE;simp only[ap,aN]
   rwa[this]at g
  have a1:=HGo.op (rd:=11) (ra:=ra) (rb:=rb) (v:=b2i (decide ((x:Int)<y))) g Wq5 Wq5 (by rw[ex,ey];rfl);obtain⟨k2,R2,b1,b2,b3⟩:=HGo.bit a1 (show(R1.set 11 _).getD 10 0=_ by rw[cF Wq5,g5]) (cV (by rw[g1.rl];decide)) (CN ((r:Int)==0) (decide (2147483648<=r)) (decide ((x:Int)<y)) false).2.1;have c1:=HGo.op (rd:=11) (ra:=ra) (rb:=rb) (v:=((x^^^y:Nat):Int)) b1 Wq5 Wq5 (by rw[b3 ra (by simp;omega),b3 rb (by simp;omega),cF Wq1,cF Wq1,ex,ey];exact C6 Wq1 Wq1);have c2:=HGo.op (rd:=12) (ra:=ra) (rb:=9) (v:=((x^^^r:Nat):Int)) c1 Wq5 Wq5 (by rw[cF Wq1,cF Wq5,b3 ra (by simp;omega),b3 9 Wq5,cF Wq1,cF Wq5,ex,g4];exact C6 Wq1 Wq1);obtain⟨k3,R3,d1,d2,d3⟩:=HGo.flagE (p:=(r:Int)==0) (q:=decide (2147483648<=r)) (c:=decide ((x:Int)<y)) c2 (by rw[cF Wq5,cF Wq5,b2]) (by rw[cF Wq5];exact cV (by rw[b1.rl];decide)) (cV (by rw[aC,b1.rl];decide)) (iQ hx2 hy2) (iQ hx2 g3);refine⟨k3,R3,d1,?_,?_⟩
  .rw[d2];unfold fe;rw[<-e2,e1,ju g3,tO,C7 hx2 hy2,C7 hx2 g3,I0 (iQ hx2 hy2) (iQ hx2 g3),top32 (r7 (iQ hx2 hy2))]
  intro j hj;simp only[aJ,aY,or_false,not_or]at hj;rw[d3 j (by simp;omega),cF Wq1,cF Wq1,b3 j (by simp;omega),cF Wq1,g6 j (by simp;omega)]
 have hno:∀op',uu op' x y=(r:Nat)->HGo C k1 l R1 W M->(iN op' x y).2.1=dE (uu op' x y)->∃k' R',HGo C k' l R' W M/\R'.getD 10 0=(iN op' x y).2.1/\kJ [9,10,11,12] R R':=λop' e1 g e2=>
  ⟨k1,R1,g,by rw[e2,e1,ju g3,g5],g6⟩
 have h8:op=16\/op=17\/op=18\/op=19\/op=20\/op=21\/op=22\/op=23\/op=25:=by omega
 rcases h8 with rfl|rfl|rfl|rfl|rfl|rfl|rfl|rfl|rfl
 .have g:HGo C k1 (⟨12,11,9,(ra:Int),0⟩::(ur 11 2++(⟨7,11,(ra:Int),9,0⟩::⟨7,12,(rb:Int),9,0⟩::(gY++l)))) R1 W M:=by
   have:kF ra rb++l=⟨12,11,9,(ra:Int),0⟩::(ur 11 2++(⟨7,11,(ra:Int),9,0⟩::⟨7,12,(rb:Int),9,0⟩::(gY++l))):=by unfold kF;simp only[ap,aN]
   have g1:HGo C k1 (kF ra rb++l) R1 W M:=g1;rwa[this]at g1
  have a1:=HGo.op (rd:=11) (ra:=9) (rb:=ra) (v:=b2i (decide ((r:Int)<x))) g Wq5 Wq5 (by rw[ex,g4];rfl);obtain⟨k2,R2,b1,b2,b3⟩:=HGo.bit a1 (show(R1.set 11 _).getD 10 0=_ by rw[cF Wq5,g5]) (cV (by rw[g1.rl];decide)) (CN ((r:Int)==0) (decide (2147483648<=r)) (decide ((r:Int)<x)) false).2.1;have c1:=HGo.op (rd:=11) (ra:=ra) (rb:=9) (v:=((x^^^r:Nat):Int)) b1 Wq5 Wq5 (by rw[b3 ra (by simp;omega),b3 9 Wq5,cF Wq1,cF Wq5,ex,g4];exact C6 Wq1 Wq1);have c2:=HGo.op (rd:=12) (ra:=rb) (rb:=9) (v:=((y^^^r:Nat):Int)) c1 Wq5 Wq5 (by rw[cF Wq1,cF Wq5,b3 rb (by simp;omega),b3 9 Wq5,cF Wq1,cF Wq5,ey,g4];exact C6 Wq1 Wq1);obtain⟨k3,R3,d1,d2,d3⟩:=HGo.flagE (p:=(r:Int)==0) (q:=decide (2147483648<=r)) (c:=decide ((r:Int)<x)) c2 (by rw[cF Wq5,cF Wq5,b2]) (by rw[cF Wq5];exact cV (by rw[b1.rl];decide)) (cV (by rw[aC,b1.rl];decide)) (iQ hx2 g3) (iQ hy2 g3);refine⟨k3,R3,d1,?_,?_⟩
  .rw[d2];show _=lE x y;unfold lE;have e2:IntKind.u32.wrap ((x:Int)+y)=(r:Int):=g2;rw[e2,ju g3,tO,C7 hx2 g3,C7 hy2 g3,I0 (iQ hx2 g3) (iQ hy2 g3),top32 (r7 (iQ hx2 g3))]
  intro j hj;simp only[aJ,aY,or_false,not_or]at hj;rw[d3 j (by simp;omega),cF Wq1,cF Wq1,b3 j (by simp;omega),cF Wq1,g6 j (by simp;omega)]
 .exact hsub 17 g2 rfl g1
 .exact hno 18 g2 g1 rfl
 .exact hno 19 g2 g1 rfl
 .exact hno 20 g2 g1 rfl
 .exact hno 21 g2 g1 rfl
 .exact hno 22 g2 g1 rfl
 .exact hno 23 g2 g1 rfl
 exact hsub 25 g2 rfl g1
end
end Go.Ink
