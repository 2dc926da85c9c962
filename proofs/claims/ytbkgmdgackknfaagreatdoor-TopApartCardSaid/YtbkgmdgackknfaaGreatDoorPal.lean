/- Lemmas. -/
import Derived.Test.YtbkgmdgackknfaaGreatDoorPai
set_option linter.unusedSimpArgs false
set_option linter.unusedVariables false
set_option maxRecDepth 100000
set_option maxHeartbeats 4000000
namespace Go.Ink
open Go.RowKit
structure jI(w w':Lw):Prop where
 nd:w.d.RL<=w'.d.RL
 nr:w.r.RL<=w'.r.RL
 hd:w.d.high<=w'.d.high
 hr:w.r.high<=w'.r.high
theorem jI.trans{a b c:Lw}(h:jI a b)(k:jI b c):jI a c:=⟨Int.le_trans h.nd k.nd,Int.le_trans h.nr k.nr,Int.le_trans h.hd k.hd,Int.le_trans h.hr k.hr⟩
theorem jI.refl(w:Lw):jI w w:=⟨Int.le_refl _,Int.le_refl _,Int.le_refl _,Int.le_refl _⟩
theorem om(k:Int)(c:List II)(s:Sd):s.RL<=(fe k c s).2.2.RL/\(fe k c s).2.2.high=s.high:=by
 grind [fe]
theorem j6(w:Lw):jI w w.RK.2:=⟨(om 1 w.code w.d).1,Int.le_refl _,Int.le_of_eq (om 1 w.code w.d).2.symm,Int.le_refl _⟩
theorem iz(w:Lw):jI w w.Su.2:=⟨Int.le_refl _,(om 2 w.code w.r).1,Int.le_refl _,Int.le_of_eq (om 2 w.code w.r).2.symm⟩
theorem Jy(w:Lw):jI w w.RR:=⟨Int.le_refl _,Int.le_refl _,Int.le_max_left _ _,Int.le_max_left _ _⟩
theorem BQ{op:Int}(hp:dr op=true)(w:Lw)(n nx:Int):jI w (w.one op n nx):=by
 refine jI.trans ?_ (Jy _);have hs:jI w w.RK.2.RK.2:=(j6 w).trans (j6 w.RK.2);rcases qs hp with rfl|rfl|rfl|rfl|rfl|rfl|rfl|rfl|rfl|hr|hr|rfl|hr|rfl|rfl|rfl
 .exact M6
 .exact M6
 .exact M6
 .exact QA
 .exact QA
 .exact⟨(hs).nd,(hs).nr,(hs).hd,(hs).hr⟩
 .exact⟨(hs).nd,(hs).nr,(hs).hd,(hs).hr⟩
 .exact QA
 .exact⟨(iz w).nd,(iz w).nr,(iz w).hd,(iz w).hr⟩
 .rw[lJ (Or.inl hr)];unfold Lw.reckon;rw[show(op !=25)=true by simp;omega];exact⟨(hs).nd,(hs).nr,(hs).hd,(hs).hr⟩
 .rw[lJ (Or.inr hr)];subst hr;exact⟨(hs).nd,(hs).nr,(hs).hd,(hs).hr⟩
 .exact M6
 .have h5:op=33\/op=34\/op=35\/op=36\/op=37:=by omega
  rcases h5 with rfl|rfl|rfl|rfl|rfl<;>exact⟨(jI.refl w).nd,(jI.refl w).nr,(jI.refl w).hd,(jI.refl w).hr⟩
 .exact M6
 .exact⟨(iz w).nd,(iz w).nr,(iz w).hd,(iz w).hr⟩
 exact QA
theorem DP{a:Nat}(ha:a<18446744073709551616):(BitVec.ofInt IntKind.u64.bits (a:Int)).toNat=a:=by rw[BitVec.toNat_ofInt];show((a:Int)%((18446744073709551616:Nat):Int)).toNat=a;omega
theorem DQ{a:Nat}(ha:a<4294967296):(BitVec.ofInt IntKind.u32.bits (a:Int)).toNat=a:=by rw[BitVec.toNat_ofInt];show((a:Int)%((4294967296:Nat):Int)).toNat=a;omega
theorem MM{a b:Nat}(ha:a<18446744073709551616)(hb:b<18446744073709551616):bits .and .u64 (a:Int) (b:Int)=((a&&&b:Nat):Int):=by
  grind [bits,IntKind.wrap_u64,DP,Nat.and_le_left,BitVec.toNat_and]
theorem or64{a b:Nat}(ha:a<18446744073709551616)(hb:b<18446744073709551616):bits .or .u64 (a:Int) (b:Int)=((a|||b:Nat):Int):=by
  have h3:a|||b<2^64:=Nat.or_lt_two_pow ha hb
  grind [bits,IntKind.wrap_u64,DP]
theorem Gx{a b:Nat}(ha:a<18446744073709551616)(hb:b<18446744073709551616):bits .xor .u64 (a:Int) (b:Int)=((a^^^b:Nat):Int):=by
  have h3:a^^^b<2^64:=Nat.xor_lt_two_pow ha hb
  grind [bits,IntKind.wrap_u64,DP]
theorem MN{a b:Nat}(ha:a<4294967296)(hb:b<4294967296):bits .and .u32 (a:Int) (b:Int)=((a&&&b:Nat):Int):=by
  grind [bits,IntKind.wrap_u32,DQ,Nat.and_le_left,BitVec.toNat_and]
theorem or32{a b:Nat}(ha:a<4294967296)(hb:b<4294967296):bits .or .u32 (a:Int) (b:Int)=((a|||b:Nat):Int):=by
  have h3:a|||b<2^32:=Nat.or_lt_two_pow ha hb
  grind [bits,IntKind.wrap_u32,DQ]
theorem Gy{a b:Nat}(ha:a<4294967296)(hb:b<4294967296):bits .xor .u32 (a:Int) (b:Int)=((a^^^b:Nat):Int):=by
  have h3:a^^^b<2^32:=Nat.xor_lt_two_pow ha hb
  grind [bits,IntKind.wrap_u32,DQ]
theorem low64(z:Int):bits .and .u64 (IntKind.u64.wrap z) 4294967295=IntKind.u32.wrap z:=by
  obtain⟨n,hn⟩:∃n:Nat,IntKind.u64.wrap z=n:=ap (by rw[aK];omega);have h1:n<18446744073709551616:=by rw[aK]at hn;omega
  rw[hn,show(4294967295:Int)=((4294967295:Nat):Int)from rfl,MM h1 Wq7,show(4294967295:Nat)=2^32 - 1 from rfl,Nat.and_two_pow_sub_one_eq_mod]
  grind [IntKind.wrap_u64,IntKind.wrap_u32]
theorem iG{a b:Nat}(ha:a<4294967296)(hb:b<4294967296):a^^^b<4294967296:=Nat.xor_lt_two_pow (n:=32) ha hb
theorem uq{a b:Nat}(ha:a<4294967296):a&&&b<4294967296:=Nat.lt_of_le_of_lt Nat.and_le_left ha
theorem top32{a:Nat}(ha:a<4294967296):(bits .and .u32 (a:Int) 2147483648 !=0)=decide (2147483648<=a):=by
  have h1:=MN ha (show 2147483648<4294967296 by decide);rw[show((2147483648:Nat):Int)=2147483648 from rfl]at h1;rw[h1];have h2:a&&&2147483648=if 2147483648<=a then 2147483648 else 0:=by
    apply Nat.eq_of_testBit_eq;intro i;rw[show(2147483648:Nat)=2^31 from rfl,Nat.testBit_and,Nat.testBit_two_pow];by_cases e:31=i
    . grind
    rw[ar e,Bool.and_false];split
    . rw[Nat.testBit_two_pow,ar e]
    grind
  grind
theorem shr31{a:Nat}(ha:a<4294967296):(a:Int).fdiv (2^(min (Int.toNat 31) IntKind.u64.bits))=b2i (decide (2147483648<=a)):=by
  show(a:Int).fdiv 2147483648=_;by_cases h:2147483648<=a
  . rw[ay h];show(a:Int).fdiv 2147483648=1;grind
  rw[ar h];show(a:Int).fdiv 2147483648=0;grind
structure HI where
  op:Int
  rd:Int
  ra:Int
  rb:Int
  imm:Int
def HI.zero:HI:=⟨0,0,0,0,0⟩
structure HM where
  So:List Int
  words:List Int
  pc:Int
def kC(op a b:Int):Int:=
  bif op==2 then a else bif op==3 then IntKind.u64.wrap (a+b)else bif op==4 then IntKind.u64.wrap (a - b)else bif op==5 then bits .and .u64 a b else bif op==6 then bits .or .u64 a b else bif op==7 then bits .xor .u64 a b else
  bif op==8 then IntKind.u64.wrap (a*2^(min b.toNat IntKind.u64.bits))else bif op==9 then a.fdiv (2^(min b.toNat IntKind.u64.bits))else bif op==10 then IntKind.u64.wrap (a*b)else
  bif op==11 then(bif b==0 then 0 else IntKind.u64.wrap (a.tdiv b))else bif op==12 then b2i (decide (a<b))else b2i (a==b)
abbrev rg(R:List Int)(k:Int):Int:=R.getD k.toNat 0
def qN(R:List Int)(i:HI):Int:=IntKind.u64.wrap (rg R i.ra+i.imm)
def hdo(i:HI)(m:HM):Int×HM:=
  bif i.op==0 then(0,⟨m.So,m.words,m.pc+1⟩)else
  bif i.op==1 then(0,⟨m.So.set i.rd.toNat i.imm,m.words,m.pc+1⟩)else
  bif i.op==14||i.op==15 then
    (bif decide ((m.words.length:Int)<=qN m.So i)then(4,m)else
     bif i.op==14 then(0,⟨m.So.set i.rd.toNat (m.words.getD (qN m.So i).toNat 0),m.words,m.pc+1⟩)
     else(0,⟨m.So,m.words.set (qN m.So i).toNat (IntKind.u32.wrap (rg m.So i.rb)),m.pc+1⟩))else
  bif i.op==16||i.op==17 then(0,⟨m.So,m.words,bif(rg m.So i.ra==0)==(i.op==16)then i.imm else m.pc+1⟩)else
  bif i.op==18 then(0,⟨m.So,m.words,i.imm⟩)else
  bif i.op==19 then(1,m)else(0,⟨m.So.set i.rd.toNat (kC i.op (rg m.So i.ra) (rg m.So i.rb)),m.words,m.pc+1⟩)
def R6(C:List HI)(m:HM):Int×HM:=
  bif decide (m.pc<0)||decide ((C.length:Int)<=m.pc)then(2,m)else hdo (C.getD m.pc.toNat HI.zero) m
def jP(C:List HI):Nat->HM->(Int×Int)×HM
  |0,m=>((5,0),m)
  |f+1,m=>bif(R6 C m).1==0 then jP C f (R6 C m).2 else bif(R6 C m).1==1 then((1,(C.getD (R6 C m).2.pc.toNat HI.zero).imm),(R6 C m).2)else(((R6 C m).1,0),(R6 C m).2)
structure HGo(C:List HI)(k:Nat)(l:List HI)(R W:List Int)(M:HM):Prop where
  at_:C.drop k=l
  rl:R.length=16
  wl:W.length=256
  ends:∃f,jP C f ⟨R,W,(k:Int)⟩=((1,1),M)
section
variable {C l:List HI} {k:Nat} {R W:List Int} {M:HM} {i:HI}
theorem HGo.code(h:HGo C k (i::l) R W M):k<C.length/\C.getD k HI.zero=i/\C.drop (k+1)=l:=by
  grind [h.at_,List.drop_eq_nil_of_le,List.drop_eq_getElem_cons,List.getElem?_eq_getElem]
theorem HGo.R6(h:HGo C k (i::l) R W M):R6 C ⟨R,W,(k:Int)⟩=hdo i ⟨R,W,(k:Int)⟩:=by
  grind [h.code,Ink.R6,hdo,HI.zero]
theorem HGo.on{R' W':List Int}{j:Nat}{l':List HI}(h:HGo C k (i::l) R W M)(hd:hdo i ⟨R,W,(k:Int)⟩=(0,⟨R',W',(j:Int)⟩))(hr:R'.length=16)(hw:W'.length=256)(hl:C.drop j=l'):HGo C j l' R' W' M:=by
  refine⟨hl,hr,hw,?_⟩;obtain⟨f,hf⟩:=h.ends;cases f with
  |zero=>cases hf
  |succ f=>
    grind [jP,h.R6]
theorem HGo.exit{imm:Int}(h:HGo C k (⟨19,0,0,0,imm⟩::l) R W M):imm=1/\M=⟨R,W,(k:Int)⟩:=by
  obtain⟨f,hf⟩:=h.ends;cases f with
  |zero=>cases hf
  |succ f=>
    unfold jP at hf;rw[h.R6]at hf;have e:hdo ⟨19,0,0,0,imm⟩ ⟨R,W,(k:Int)⟩=(1,⟨R,W,(k:Int)⟩):=rfl;rw[e]at hf;dsimp only at hf;rw[show((1:Int)==0)=false from rfl,show((1:Int)==1)=true from rfl,ah,ai]at hf;have h2:(((1:Int),(C.getD ((k:Int)).toNat HI.zero).imm),(⟨R,W,(k:Int)⟩:HM))=(((1:Int),(1:Int)),M):=hf;rw[aM,h.code.2.1]at h2
    grind
theorem cR{R:List Int}{j:Nat}{v:Int}(hj:j<R.length):(R.set j v).getD j 0=v:=by
  grind
theorem cK{R:List Int}{i j:Nat}{v:Int}(h:i≠j):(R.set i v).getD j 0=R.getD j 0:=by
  grind
def kN(except:List Nat)(R R':List Int):Prop:=∀j,j∉except->R'.getD j 0=R.getD j 0
theorem kN.refl(e:List Nat)(R:List Int):kN e R R:=λ_ _=>rfl
theorem kN.trans{e e':List Nat}{A B D:List Int}(h:kN e A B)(h':kN e' B D){e2:List Nat}(hs:∀x,x∈e\/x∈e'->x∈e2):kN e2 A D:=λj hj=>(h' j λhx=>hj (hs j (Or.inr hx))).trans (h j λhx=>hj (hs j (Or.inl hx)))
theorem kN.set(R:List Int)(j:Nat)(v:Int){e:List Nat}(hj:j∈e):kN e R (R.set j v):=λi hi=>cK (λh=>hi (h▸hj))
theorem HGo.li{rd:Nat}{v:Int}(h:HGo C k (⟨1,(rd:Int),0,0,v⟩::l) R W M):HGo C (k+1) l (R.set rd v) W M:=
  h.on rfl (by simp[h.rl]) h.wl h.code.2.2
theorem HGo.op{op:Int}{rd ra rb:Nat}{v:Int}(h:HGo C k (⟨op,(rd:Int),(ra:Int),(rb:Int),0⟩::l) R W M)(h2:2<=op)(h13:op<=13)(hv:kC op (R.getD ra 0) (R.getD rb 0)=v):HGo C (k+1) l (R.set rd v) W M:=by
  refine h.on ?_ (by simp[h.rl]) h.wl h.code.2.2;unfold hdo
  grind [kC,Int.toNat_natCast]
theorem HGo.mov{rd ra:Nat}(h:HGo C k (⟨2,(rd:Int),(ra:Int),0,0⟩::l) R W M):HGo C (k+1) l (R.set rd (R.getD ra 0)) W M:=
  HGo.op (rb:=0) h Wq7 Wq7 rfl
theorem HGo.ld{rd ra p:Nat}{im:Int}(h:HGo C k (⟨14,(rd:Int),(ra:Int),0,im⟩::l) R W M)(hp:IntKind.u64.wrap (R.getD ra 0+im)=(p:Int))(hp2:p<256):HGo C (k+1) l (R.set rd (W.getD p 0)) W M:=by
  refine h.on ?_ (by simp[h.rl]) h.wl h.code.2.2;have e:qN R ⟨14,(rd:Int),(ra:Int),0,im⟩=(p:Int):=hp;unfold hdo;dsimp only;rw[e,show decide ((W.length:Int)<=(p:Int))=false from ar (by rw[h.wl];omega)]
  rfl
theorem HGo.st{ra rb p:Nat}{im v:Int}(h:HGo C k (⟨15,0,(ra:Int),(rb:Int),im⟩::l) R W M)(hp:IntKind.u64.wrap (R.getD ra 0+im)=(p:Int))(hp2:p<256)(hv:IntKind.u32.wrap (R.getD rb 0)=v):HGo C (k+1) l R (W.set p v) M:=by
  refine h.on ?_ h.rl (by simp[h.wl]) h.code.2.2;have e:qN R ⟨15,0,(ra:Int),(rb:Int),im⟩=(p:Int):=hp;unfold hdo;dsimp only;rw[e,show decide ((W.length:Int)<=(p:Int))=false from ar (by rw[h.wl];omega)]
  grind
theorem HGo.bnez{ra j:Nat}{l':List HI}(h:HGo C k (⟨17,0,(ra:Int),0,(j:Int)⟩::l) R W M)(hl:C.drop j=l'):R.getD ra 0=0/\HGo C (k+1) l R W M\/R.getD ra 0≠0/\HGo C j l' R W M:=by
  by_cases h0:R.getD ra 0=0
  . refine Or.inl ⟨h0,h.on ?_ h.rl h.wl h.code.2.2⟩
    show(0,(⟨R,W,bif(R.getD ((ra:Int)).toNat 0==0)==false then(j:Int)else(k:Int)+1⟩:HM))=_
    grind
  refine Or.inr ⟨h0,h.on ?_ h.rl h.wl hl⟩;show(0,(⟨R,W,bif(R.getD ((ra:Int)).toNat 0==0)==false then(j:Int)else(k:Int)+1⟩:HM))=_
  grind
theorem HGo.beqz{ra j:Nat}{l':List HI}(h:HGo C k (⟨16,0,(ra:Int),0,(j:Int)⟩::l) R W M)(hl:C.drop j=l'):R.getD ra 0≠0/\HGo C (k+1) l R W M\/R.getD ra 0=0/\HGo C j l' R W M:=by
  by_cases h0:R.getD ra 0=0
  . refine Or.inr ⟨h0,h.on ?_ h.rl h.wl hl⟩
    show(0,(⟨R,W,bif(R.getD ((ra:Int)).toNat 0==0)==true then(j:Int)else(k:Int)+1⟩:HM))=_
    grind
  refine Or.inl ⟨h0,h.on ?_ h.rl h.wl h.code.2.2⟩;show(0,(⟨R,W,bif(R.getD ((ra:Int)).toNat 0==0)==true then(j:Int)else(k:Int)+1⟩:HM))=_
  grind
end
def sU(op:Int):Int:=bif op==16 then 3 else bif op==18 then 5 else bif op==19 then 6 else bif op==20 then 7 else bif op==21 then 8 else bif op==22 then 9 else bif op==23 then 10 else 4
def Rh(r:Int):List HI:=[⟨1,12,0,0,4294967295⟩,⟨5,r,r,12,0⟩]
def zI(op:Int):Bool:=op==18||op==19||op==20||op==22
def yz(op rd a b:Int):List HI:=⟨sU op,rd,a,b,0⟩::(bif zI op then[]else Rh rd)
def w8(r up:Int):List HI:=[⟨1,12,0,0,up⟩,⟨8,r,r,12,0⟩,⟨6,10,10,r,0⟩]
def ik(rd r:Int):List HI:=[⟨1,12,0,0,31⟩,⟨9,rd,r,12,0⟩]
def gY:List HI:=⟨5,11,11,12,0⟩::(ik 11 11++w8 11 3)
def fS(op a b:Int):List HI:=yz op 9 a b++(⟨13,10,9,15,0⟩::(ik 11 9++w8 11 1))
def kH(a b:Int):List HI:=⟨12,11,9,a,0⟩::(w8 11 2++(⟨7,11,a,9,0⟩::⟨7,12,b,9,0⟩::gY))
def kG(a b:Int):List HI:=⟨12,11,a,b,0⟩::(w8 11 2++(⟨7,11,a,b,0⟩::⟨7,12,a,9,0⟩::gY))
def mv(op a b:Int):List HI:=fS op a b++(bif op==16 then kH a b else bif op==17||op==25 then kG a b else[])
def wN(op x y:Int):Int:=bif op==25 then IntKind.u32.wrap (x - y)else(jH op x y).1
section
variable {C l:List HI} {k:Nat} {R W:List Int} {M:HM}
theorem HGo.low{rd:Nat}{z:Int}(h:HGo C k (Rh rd++l) R W M)(hz:R.getD rd 0=IntKind.u64.wrap z)(hr:rd<12):∃k' R',HGo C k' l R' W M/\R'.getD rd 0=IntKind.u32.wrap z/\kN [rd,12] R R':=by
 have h1:=HGo.li (rd:=12) h;have hl:=h1.rl;have e1:(R.set 12 4294967295).getD rd 0=IntKind.u64.wrap z:=by rw[cK Wq1,hz]
 have e2:(R.set 12 4294967295).getD 12 0=4294967295:=cR bR;have h2:=HGo.op (rd:=rd) (ra:=rd) (rb:=12) (v:=IntKind.u32.wrap z) h1 Wq7 Wq7 (by rw[e1,e2];exact low64 z);refine⟨_,_,h2,cR Wq1,?_⟩;exact(kN.set R 12 _ (e:=[rd,12]) cH).trans (kN.set _ rd _ (e:=[rd,12]) cH) bR
theorem ur{op:Int}{x y:Nat}(hop:(16<=op/\op<=23)\/op=25)(hx:x<4294967296)(hy:y<4294967296):∃r:Nat,wN op x y=r/\r<4294967296:=by
 have hw:∀z:Int,∃r:Nat,IntKind.u32.wrap z=r/\r<4294967296:=λz=>by
  rw[aC];exact⟨(z%4294967296).toNat,by omega,by omega⟩
 have h:op=16\/op=17\/op=18\/op=19\/op=20\/op=21\/op=22\/op=23\/op=25:=by omega
 rcases h with rfl|rfl|rfl|rfl|rfl|rfl|rfl|rfl|rfl
 .exact hw _
 .exact hw _
 .exact⟨x&&&y,MN hx hy,uq hx⟩
 .exact⟨x|||y,or32 hx hy,Nat.or_lt_two_pow (n:=32) hx hy⟩
 .exact⟨x^^^y,Gy hx hy,iG hx hy⟩
 .show∃r:Nat,iv (x:Int) (y:Int) true=r/\_;unfold iv;cases decide (32<=(y:Int))with
  |true=>exact⟨0,rfl,by decide⟩
  |false=>exact hw _
 .show∃r:Nat,iv (x:Int) (y:Int) false=r/\_;unfold iv;cases decide (32<=(y:Int))with
  |true=>exact⟨0,rfl,by decide⟩
  |false=>
   refine⟨x/2^(min y IntKind.u32.bits),?_,Nat.lt_of_le_of_lt (Nat.div_le_self _ _) hx⟩
   grind
 .exact hw _
 exact hw _
theorem shl64{x y:Nat}:IntKind.u32.wrap ((x:Int)*2^(min ((y:Int)).toNat IntKind.u64.bits))=iv (x:Int) (y:Int) true:=by
 unfold iv;rw[aM];by_cases h:32<=y
 .rw[ay (show 32<=(y:Int) by omega)];show _=(0:Int);obtain⟨m,hm⟩:∃m,min y IntKind.u64.bits=32+m:=⟨min y IntKind.u64.bits - 32,by show min y 64=32+(min y 64 - 32);omega⟩
  grind [IntKind.wrap_u32,Int.pow_add,Int.mul_assoc,Int.mul_comm,Int.mul_emod_right]
 rw[ar (show¬32<=(y:Int) by omega)];show _=IntKind.u32.wrap ((x:Int)*2^(min y IntKind.u32.bits));rw[show min y IntKind.u64.bits=y by show min y 64=y;omega,show min y IntKind.u32.bits=y by show min y 32=y;omega]
theorem shr64{x y:Nat}(hx:x<4294967296):(x:Int).fdiv (2^(min ((y:Int)).toNat IntKind.u64.bits))=iv (x:Int) (y:Int) false:=by
 unfold iv;rw[aM];by_cases h:32<=y
 .rw[ay (show 32<=(y:Int) by omega)];show _=(0:Int);obtain⟨m,hm⟩:∃m,min y IntKind.u64.bits=32+m:=⟨min y IntKind.u64.bits - 32,by show min y 64=32+(min y 64 - 32);omega⟩;rw[hm,Int.fdiv_eq_ediv_of_nonneg _ bR];refine Int.ediv_eq_zero_of_lt Wq1 ?_;have h1:(2:Nat)^32<=2^(32+m):=Nat.pow_le_pow_right Wq7 Wq1
  grind
 rw[ar (show¬32<=(y:Int) by omega)];show _=(x:Int).fdiv (2^(min y IntKind.u32.bits));rw[show min y IntKind.u64.bits=y by show min y 64=y;omega,show min y IntKind.u32.bits=y by show min y 32=y;omega]
theorem HGo.alu{op:Int}{rd ra rb x y:Nat}(hop:(16<=op/\op<=23)\/op=25)(h:HGo C k (yz op rd ra rb++l) R W M)(hrd:rd<12)(hx:R.getD ra 0=x)(hy:R.getD rb 0=y)(hx2:x<4294967296)(hy2:y<4294967296):
  ∃k' R',HGo C k' l R' W M/\R'.getD rd 0=wN op x y/\kN [rd,12] R R':=by
 have hl:=h.rl;have hlow:∀(o:Int) (z:Int),2<=o->o<=13->HGo C k (⟨o,(rd:Int),(ra:Int),(rb:Int),0⟩::(Rh rd++l)) R W M->kC o x y=IntKind.u64.wrap z->
   ∃k' R',HGo C k' l R' W M/\R'.getD rd 0=IntKind.u32.wrap z/\kN [rd,12] R R':=λo z h1 h2 g hz=>by
  have g1:=HGo.op g h1 h2 (v:=IntKind.u64.wrap z) bR;obtain⟨k',R',g2,g3,g4⟩:=g1.low (cR Wq1) hrd;exact⟨k',R',g2,g3,(kN.set R rd _ (e:=[rd,12]) cH).trans g4 bR⟩
 have hno:∀(o z:Int),2<=o->o<=13->HGo C k (⟨o,(rd:Int),(ra:Int),(rb:Int),0⟩::l) R W M->kC o x y=z->∃k' R',HGo C k' l R' W M/\R'.getD rd 0=z/\kN [rd,12] R R':=λo z h1 h2 g hz=>
  ⟨_,_,HGo.op g h1 h2 (v:=z) bR,cR Wq1,kN.set R rd _ cH⟩
 have h8:op=16\/op=17\/op=18\/op=19\/op=20\/op=21\/op=22\/op=23\/op=25:=by omega
 rcases h8 with rfl|rfl|rfl|rfl|rfl|rfl|rfl|rfl|rfl
 .exact hlow 3 _ Wq7 Wq7 h rfl
 .exact hlow 4 _ Wq7 Wq7 h rfl
 .exact hno 5 _ Wq7 Wq7 h (show bits .and .u64 (x:Int) (y:Int)=bits .and .u32 (x:Int) (y:Int) by grind [MM,MN])
 .exact hno 6 _ Wq7 Wq7 h (show bits .or .u64 (x:Int) (y:Int)=bits .or .u32 (x:Int) (y:Int) by grind [or64,or32])
 .exact hno 7 _ Wq7 Wq7 h (show bits .xor .u64 (x:Int) (y:Int)=bits .xor .u32 (x:Int) (y:Int) by grind [Gx,Gy])
 .obtain⟨k',R',g1,g2,g3⟩:=hlow 8 _ Wq7 Wq7 h rfl;exact⟨k',R',g1,g2.trans shl64,g3⟩
 .exact hno 9 _ Wq7 Wq7 h (shr64 hx2)
 .exact hlow 10 _ Wq7 Wq7 h rfl
 exact hlow 4 _ Wq7 Wq7 h rfl
theorem Gm:∀(a b c d:Bool),bits .or .u64 (b2i a) (IntKind.u64.wrap (b2i b*2^(min (Int.toNat 1) IntKind.u64.bits)))=b2i a+2*b2i b/\bits .or .u64 (b2i a+2*b2i b) (IntKind.u64.wrap (b2i c*2^(min (Int.toNat 2) IntKind.u64.bits)))=b2i a+2*b2i b+4*b2i c/\
  bits .or .u64 (b2i a+2*b2i b+4*b2i c) (IntKind.u64.wrap (b2i d*2^(min (Int.toNat 3) IntKind.u64.bits)))=b2i a+2*b2i b+4*b2i c+8*b2i d:=by decide+kernel
theorem HGo.bit{up s c s':Int}(h:HGo C k (w8 11 up++l) R W M)(hs:R.getD 10 0=s)(hc:R.getD 11 0=c)(h':bits .or .u64 s (IntKind.u64.wrap (c*2^(min up.toNat IntKind.u64.bits)))=s'):
  ∃k' R',HGo C k' l R' W M/\R'.getD 10 0=s'/\kN [10,11,12] R R':=by
 have hl:=h.rl;have h1:=HGo.li (rd:=12) h;have h2:=HGo.op (rd:=11) (ra:=11) (rb:=12) (v:=IntKind.u64.wrap (c*2^(min up.toNat IntKind.u64.bits))) h1 Wq7 Wq7 (by rw[cK Wq7,hc,cR Wq1];rfl);have h3:=HGo.op (rd:=10) (ra:=10) (rb:=11) (v:=s') h2 Wq7 Wq7 (by rw[cK Wq7,cK Wq7,hs,cR bR];exact h');refine⟨_,_,h3,cR bR,?_⟩;exact((kN.set R 12 _ (e:=[10,11,12]) cH).trans (kN.set _ 11 _ (e:=[10,11,12]) cH) (e2:=[10,11,12]) bR).trans (kN.set _ 10 _ (e:=[10,11,12]) cH) bR
theorem HGo.signed{rd r x:Nat}(h:HGo C k (ik rd r++l) R W M)(hrd:rd<12)(hr:r<12)(hx:R.getD r 0=x)(hx2:x<4294967296):∃k' R',HGo C k' l R' W M/\R'.getD rd 0=b2i (decide (2147483648<=x))/\kN [rd,12] R R':=by
 have hl:=h.rl;have h1:=HGo.li (rd:=12) h;have h2:=HGo.op (rd:=rd) (ra:=r) (rb:=12) (v:=b2i (decide (2147483648<=x))) h1 Wq7 Wq7 (by rw[cK Wq1,hx,cR Wq1];exact shr31 hx2);refine⟨_,_,h2,cR bR,?_⟩;exact(kN.set R 12 _ (e:=[rd,12]) cH).trans (kN.set _ rd _ (e:=[rd,12]) cH) bR
theorem je{r:Nat}(hr:r<4294967296):du (r:Int)=b2i ((r:Int)==0)+2*b2i (decide (2147483648<=r)):=by
 unfold du;rw[top32 hr];cases(r:Int)==0<;>cases decide (2147483648<=r)<;>rfl
theorem wa(a b r o:Int)(p q c:Bool):jy a b r (b2i p+2*b2i q) c o=b2i p+2*b2i q+4*b2i c+8*b2i (o !=0):=by
 unfold jy;cases o !=0<;>cases p<;>cases q<;>cases c<;>rfl
theorem HGo.flagB{op:Int}{ra rb x y:Nat}(hop:(16<=op/\op<=23)\/op=25)(h:HGo C k (fS op ra rb++l) R W M)(h15:R.getD 15 0=0)(hx:R.getD ra 0=x)(hy:R.getD rb 0=y)(hx2:x<4294967296)(hy2:y<4294967296):
  ∃k' R' r,HGo C k' l R' W M/\wN op x y=(r:Nat)/\r<4294967296/\R'.getD 9 0=(r:Int)/\R'.getD 10 0=b2i ((r:Int)==0)+2*b2i (decide (2147483648<=r))/\kN [9,10,11,12] R R':=by
 obtain⟨r,hr,hr2⟩:=ur hop hx2 hy2;have h:HGo C k (yz op 9 ra rb++(⟨13,10,9,15,0⟩::(ik 11 9++(w8 11 1++l)))) R W M:=by
  have:fS op ra rb++l=yz op 9 ra rb++(⟨13,10,9,15,0⟩::(ik 11 9++(w8 11 1++l))):=by unfold fS;simp only[aw,aJ]
  rwa[this]at h
 obtain⟨k1,R1,g1,g2,g3⟩:=HGo.alu (rd:=9) hop h Wq7 hx hy hx2 hy2;rw[hr]at g2;have g4:=HGo.op (rd:=10) (ra:=9) (rb:=15) (v:=b2i ((r:Int)==0)) g1 Wq7 Wq7 (by rw[g2,g3 15 Wq7,h15];rfl);obtain⟨k2,R2,p1,p2,p3⟩:=HGo.signed (rd:=11) (r:=9) (x:=r) g4 Wq7 Wq7 bR hr2;have e10:R2.getD 10 0=b2i ((r:Int)==0):=by rw[p3 10 Wq7,cR (by rw[g1.rl];decide)]
 obtain⟨k3,R3,q1,q2,q3⟩:=HGo.bit p1 e10 p2 (Gm ((r:Int)==0) (decide (2147483648<=r)) false false).1;have e9:R3.getD 9 0=(r:Int):=by rw[q3 9 Wq7,p3 9 Wq7,cK Wq7,g2]
 refine⟨k3,R3,r,q1,hr,hr2,e9,q2,?_⟩;intro j hj;simp only[aG,aS,or_false,not_or]at hj;rw[q3 j gZ,p3 j gZ,cK Wq1,g3 j gZ]
theorem HGo.flagE{p q c:Bool}{u v:Nat}(h:HGo C k (gY++l) R W M)(h10:R.getD 10 0=b2i p+2*b2i q+4*b2i c)(h11:R.getD 11 0=u)(h12:R.getD 12 0=v)(hu:u<4294967296)(hv:v<4294967296):
  ∃k' R',HGo C k' l R' W M/\R'.getD 10 0=b2i p+2*b2i q+4*b2i c+8*b2i (decide (2147483648<=u&&&v))/\kN [10,11,12] R R':=by
 have g1:=HGo.op (rd:=11) (ra:=11) (rb:=12) (v:=((u&&&v:Nat):Int)) (l:=ik 11 11++(w8 11 3++l)) (by
  have:gY++l=⟨5,11,11,12,0⟩::(ik 11 11++(w8 11 3++l)):=by unfold gY;simp only[aw,aJ]
  rw[this]at h;exact h) Wq7 Wq7 (by rw[h11,h12];exact MM Wq1 Wq1)
 obtain⟨k2,R2,p1,p2,p3⟩:=HGo.signed (rd:=11) (r:=11) (x:=u&&&v) g1 Wq7 Wq7 (cR (by rw[h.rl];decide)) (uq hu);obtain⟨k3,R3,q1,q2,q3⟩:=HGo.bit p1 (show R2.getD 10 0=_ by rw[p3 10 Wq7,cK Wq7,h10]) p2 (Gm p q c (decide (2147483648<=u&&&v))).2.2;refine⟨k3,R3,q1,q2,?_⟩;intro j hj;simp only[aG,aS,or_false,not_or]at hj;rw[q3 j gZ,p3 j gZ,cK Wq1]
theorem HGo.flag{op:Int}{ra rb x y:Nat}(hop:(16<=op/\op<=23)\/op=25)(h:HGo C k (mv op ra rb++l) R W M)(ha:ra<9)(hb:rb<9)(h15:R.getD 15 0=0)(hx:R.getD ra 0=x)(hy:R.getD rb 0=y)(hx2:x<4294967296)(hy2:y<4294967296):
  ∃k' R',HGo C k' l R' W M/\R'.getD 10 0=(jH op x y).2.1/\kN [9,10,11,12] R R':=by
 have h:HGo C k (fS op ra rb++((bif op==16 then kH ra rb else bif op==17||op==25 then kG ra rb else[])++l)) R W M:=by
  have:mv op ra rb++l=fS op ra rb++((bif op==16 then kH ra rb else bif op==17||op==25 then kG ra rb else[])++l):=by unfold mv;rw[aw]
  rwa[this]at h
 obtain⟨k1,R1,r,g1,g2,g3,g4,g5,g6⟩:=HGo.flagB hop h h15 hx hy hx2 hy2;have ex:R1.getD ra 0=x:=by rw[g6 ra gZ,hx]
 have ey:R1.getD rb 0=y:=by rw[g6 rb gZ,hy]
 have hsub:∀op',wN op' x y=(r:Nat)->wN op' x y=IntKind.u32.wrap ((x:Int) - y)->HGo C k1 (kG ra rb++l) R1 W M->∃k' R',HGo C k' l R' W M/\R'.getD 10 0=kI x y/\kN [9,10,11,12] R R':=λop' e1 e2 g=>by
  have g:HGo C k1 (⟨12,11,(ra:Int),(rb:Int),0⟩::(w8 11 2++(⟨7,11,(ra:Int),(rb:Int),0⟩::⟨7,12,(ra:Int),9,0⟩::(gY++l)))) R1 W M:=by
   have:kG ra rb++l=⟨12,11,(ra:Int),(rb:Int),0⟩::(w8 11 2++(⟨7,11,(ra:Int),(rb:Int),0⟩::⟨7,12,(ra:Int),9,0⟩::(gY++l))):=by unfold kG;simp only[aw,aJ]
   rwa[this]at g
  have a1:=HGo.op (rd:=11) (ra:=ra) (rb:=rb) (v:=b2i (decide ((x:Int)<y))) g Wq7 Wq7 (by rw[ex,ey];rfl);obtain⟨k2,R2,b1,b2,b3⟩:=HGo.bit a1 (show(R1.set 11 _).getD 10 0=_ by grind) (cR (by rw[g1.rl];decide)) (Gm ((r:Int)==0) (decide (2147483648<=r)) (decide ((x:Int)<y)) false).2.1;have c1:=HGo.op (rd:=11) (ra:=ra) (rb:=rb) (v:=((x^^^y:Nat):Int)) b1 Wq7 Wq7 (by rw[b3 ra gZ,b3 rb gZ,cK Wq1,cK Wq1,ex,ey];exact Gx Wq1 Wq1);have c2:=HGo.op (rd:=12) (ra:=ra) (rb:=9) (v:=((x^^^r:Nat):Int)) c1 Wq7 Wq7 (by rw[cK Wq1,cK Wq7,b3 ra gZ,b3 9 Wq7,cK Wq1,cK Wq7,ex,g4];exact Gx Wq1 Wq1);obtain⟨k3,R3,d1,d2,d3⟩:=HGo.flagE (p:=(r:Int)==0) (q:=decide (2147483648<=r)) (c:=decide ((x:Int)<y)) c2 bR (by simp[cK,cR,b1.rl]) (cR (by simp[b1.rl])) (iG hx2 hy2) (iG hx2 g3);refine⟨k3,R3,d1,?_,?_⟩
  .rw[d2];unfold kI;rw[<-e2,e1,je g3,wa,Gy hx2 hy2,Gy hx2 g3,MN (iG hx2 hy2) (iG hx2 g3),top32 (uq (iG hx2 hy2))]
  intro j hj;simp only[aG,aS,or_false,not_or]at hj;rw[d3 j gZ,cK Wq1,cK Wq1,b3 j gZ,cK Wq1,g6 j gZ]
 have hno:∀op',wN op' x y=(r:Nat)->HGo C k1 l R1 W M->(jH op' x y).2.1=du (wN op' x y)->∃k' R',HGo C k' l R' W M/\R'.getD 10 0=(jH op' x y).2.1/\kN [9,10,11,12] R R':=λop' e1 g e2=>
  ⟨k1,R1,g,by grind [je],g6⟩
 have h8:op=16\/op=17\/op=18\/op=19\/op=20\/op=21\/op=22\/op=23\/op=25:=by omega
 rcases h8 with rfl|rfl|rfl|rfl|rfl|rfl|rfl|rfl|rfl
 .have g:HGo C k1 (⟨12,11,9,(ra:Int),0⟩::(w8 11 2++(⟨7,11,(ra:Int),9,0⟩::⟨7,12,(rb:Int),9,0⟩::(gY++l)))) R1 W M:=by
   have:kH ra rb++l=⟨12,11,9,(ra:Int),0⟩::(w8 11 2++(⟨7,11,(ra:Int),9,0⟩::⟨7,12,(rb:Int),9,0⟩::(gY++l))):=by unfold kH;simp only[aw,aJ]
   have g1:HGo C k1 (kH ra rb++l) R1 W M:=g1;rwa[this]at g1
  have a1:=HGo.op (rd:=11) (ra:=9) (rb:=ra) (v:=b2i (decide ((r:Int)<x))) g Wq7 Wq7 (by rw[ex,g4];rfl);obtain⟨k2,R2,b1,b2,b3⟩:=HGo.bit a1 (show(R1.set 11 _).getD 10 0=_ by grind) (cR (by rw[g1.rl];decide)) (Gm ((r:Int)==0) (decide (2147483648<=r)) (decide ((r:Int)<x)) false).2.1;have c1:=HGo.op (rd:=11) (ra:=ra) (rb:=9) (v:=((x^^^r:Nat):Int)) b1 Wq7 Wq7 (by rw[b3 ra gZ,b3 9 Wq7,cK Wq1,cK Wq7,ex,g4];exact Gx Wq1 Wq1);have c2:=HGo.op (rd:=12) (ra:=rb) (rb:=9) (v:=((y^^^r:Nat):Int)) c1 Wq7 Wq7 (by rw[cK Wq1,cK Wq7,b3 rb gZ,b3 9 Wq7,cK Wq1,cK Wq7,ey,g4];exact Gx Wq1 Wq1);obtain⟨k3,R3,d1,d2,d3⟩:=HGo.flagE (p:=(r:Int)==0) (q:=decide (2147483648<=r)) (c:=decide ((r:Int)<x)) c2 bR (by simp[cK,cR,b1.rl]) (cR (by simp[b1.rl])) (iG hx2 g3) (iG hy2 g3);refine⟨k3,R3,d1,?_,?_⟩
  .rw[d2];show _=nF x y;unfold nF;have e2:IntKind.u32.wrap ((x:Int)+y)=(r:Int):=g2;rw[e2,je g3,wa,Gy hx2 g3,Gy hy2 g3,MN (iG hx2 g3) (iG hy2 g3),top32 (uq (iG hx2 g3))]
  intro j hj;simp only[aG,aS,or_false,not_or]at hj;rw[d3 j gZ,cK Wq1,cK Wq1,b3 j gZ,cK Wq1,g6 j gZ]
 .exact hsub 17 g2 rfl g1
 .exact hno 18 g2 g1 rfl
 .exact hno 19 g2 g1 rfl
 .exact hno 20 g2 g1 rfl
 .exact hno 21 g2 g1 rfl
 .exact hno 22 g2 g1 rfl
 .exact hno 23 g2 g1 rfl
 exact hsub 25 g2 rfl g1
end
structure Pg where
  code:List II
  RI:Int
  RJ:Int
  Sn:Int
  Sq:Int
  RV:List Int
  RX:List Int
  flags:Int
  next:Int
  target:Int
  branch:Int
  taken:Int
  count:Int
  values:Int
structure Pl where
  reg:List Int
  slot:List Int
  Sm:Int
abbrev Pl.r(pl:Pl)(n:Int):Int:=pl.reg.getD n.toNat 0
abbrev Pl.s(pl:Pl)(n:Int):Int:=pl.slot.getD n.toNat 0
def Pl.inR(pl:Pl)(n:Int):Bool:=decide (0<=pl.r n)
def jY(pl:Pl)(n into:Int):List HI:=bif pl.inR n then[]else[⟨14,into,15,0,IntKind.u32.wrap (64+pl.s n)⟩]
def eC(pl:Pl)(n into:Int):Int:=bif pl.inR n then pl.r n else into
def jb(pl:Pl)(n r:Int):List HI:=bif pl.inR n then[]else[⟨15,0,15,r,IntKind.u32.wrap (64+pl.s n)⟩]
def rO(RI RJ:Int)(pl:Pl)(n:Int)(x:II):List HI:=
  (bif x.op==0 then[⟨1,eC pl n 9,0,0,x.imm⟩]else
   bif x.op==1 then[⟨14,eC pl n 9,14,0,IntKind.u32.wrap (4+RI - 1 - x.imm)⟩]else
   bif x.op==2 then[⟨14,eC pl n 9,13,0,IntKind.u32.wrap (20+RJ - 1 - x.imm)⟩]else
   bif x.op==3 then jY pl x.a 7++(jY pl x.b 8++yz x.imm (eC pl n 9) (eC pl x.a 7) (eC pl x.b 8))else
   bif x.op==4 then jY pl x.a 7++(jY pl x.b 8++(mv x.imm (eC pl x.a 7) (eC pl x.b 8)++[⟨2,eC pl n 9,10,0,0⟩]))else[])++jb pl n (eC pl n 9)
def jV(RI RJ:Int)(pl:Pl):List II->Nat->List HI
  |[],_=>[]
  |x::c,n=>rO RI RJ pl n x++jV RI RJ pl c (n+1)
def zF(pl:Pl)(base from_:Int):List Int->Nat->List HI
  |[],_=>[]
  |n::c,k=>jY pl n 7++(⟨15,0,base,eC pl n 7,IntKind.u32.wrap (from_+IntKind.u32.wrap k)⟩::zF pl base from_ c (k+1))
def iX(pl:Pl)(base from_ word:Int)(out:List Int):List HI:=zF pl base from_ out 0++[⟨1,11,0,0,IntKind.u32.wrap out.length⟩,⟨3,11,11,base,0⟩,⟨15,0,15,11,word⟩]
def pf(e base word RL Se:Int):List HI:=[⟨14,base,15,0,word⟩,⟨1,11,0,0,IntKind.u32.wrap RL⟩,⟨12,12,base,11,0⟩,⟨17,0,12,0,e⟩,⟨1,12,0,0,IntKind.u32.wrap Se⟩,⟨12,12,12,base,0⟩,⟨17,0,12,0,e⟩,⟨4,base,base,11,0⟩]
def gX(op:Int):Int:=bif op==33 then 1 else bif op==34 then 1 else bif op==35 then 4 else bif op==36 then 2 else 8
def jF(op:Int):Bool:=bif op==33 then true else bif op==34 then false else true
def gR(p:Pg)(pl:Pl):List HI:=bif decide (0<=p.flags)then⟨1,11,0,0,15⟩::(jY pl p.flags 7++[⟨5,11,11,eC pl p.flags 7,0⟩,⟨15,0,15,11,1⟩])else[]
def iu(p:Pg)(pos:Nat):List HI:=bif p.branch !=0 then[⟨14,11,15,0,1⟩,⟨1,12,0,0,gX p.branch⟩,⟨5,11,11,12,0⟩,⟨bif jF p.branch then 16 else 17,0,11,0,IntKind.u32.wrap ((pos+3:Nat)+2)⟩,⟨1,9,0,0,p.taken⟩]else[]
def jC(p:Pg)(pl:Pl):List HI:=bif decide (0<=p.target)then jY pl p.target 7++[⟨2,9,eC pl p.target 7,0,0⟩]else[]
def ul(p:Pg)(pl:Pl)(pos:Nat):List HI:=
  gR p pl++(⟨1,9,0,0,p.next⟩::(iu p (pos+(gR p pl).length+1)++(jC p pl++[⟨15,0,15,9,0⟩,⟨1,11,0,0,IntKind.u32.wrap p.count⟩,⟨15,0,15,11,36⟩,⟨19,0,0,0,1⟩])))
def iZ(RL high:Int)(out:Nat):Int:=if 16+RL - out<16 - high then 16+RL - out else 16 - high
def Pg.SZ(p:Pg):Int:=iZ p.RI p.Sn p.RV.length
def Pg.Tb(p:Pg):Int:=iZ p.RJ p.Sq p.RX.length
def Pg.SK(p:Pg):Bool:= !decide (p.SZ<p.RI)
def Pg.SP(p:Pg):Bool:= !decide (p.Tb<p.RJ)
def tC(p:Pg)(e:Int):List HI:=⟨1,15,0,0,0⟩::(pf e 14 2 p.RI p.SZ++pf e 13 3 p.RJ p.Tb)
def iV(p:Pg)(pl:Pl):List HI:=jV p.RI p.RJ pl p.code 0++(iX pl 14 4 2 p.RV++iX pl 13 20 3 p.RX)
def fm(p:Pg)(pl:Pl)(e:Int):List HI:=
  bif p.SK then(bif p.SP then tC p e++(iV p pl++ul p pl (17+(iV p pl).length))else⟨1,15,0,0,0⟩::pf e 14 2 p.RI p.SZ)else[⟨1,15,0,0,0⟩]
def gt(p:Pg)(pl:Pl):List HI:=fm p pl (IntKind.u32.wrap ((fm p pl 0).length:Nat))++[⟨19,0,0,0,2⟩]
def Lo(pl:Pl)(R W:List Int)(n:Int)(v:Int):Prop:=(pl.inR n=true->R.getD (pl.r n).toNat 0=v)/\(pl.inR n=false->W.getD (64+(pl.s n).toNat) 0=v)
def Pl.has(pl:Pl)(n:Int):Prop:=(pl.inR n=true/\pl.r n<7)\/(pl.inR n=false/\0<=pl.s n/\pl.s n<128)
section
variable {C l:List HI} {k:Nat} {R W:List Int} {M:HM} {pl:Pl}
theorem mq{n:Int}{into:Nat}(h:pl.has n)(hi:into=7\/into=8\/into=9):∃r:Nat,eC pl n into=r/\(r=into/\pl.inR n=false\/r<7/\pl.inR n=true/\(pl.r n).toNat=r):=by
  unfold eC;rcases h with⟨h1,h2⟩|⟨h1,h2,h3⟩
  . grind [Pl.inR]
  grind
theorem Bz{n:Int}(h:0<=pl.s n/\pl.s n<128)(h15:R.getD 15 0=0):IntKind.u64.wrap (R.getD 15 0+IntKind.u32.wrap (64+pl.s n))=((64+(pl.s n).toNat:Nat):Int):=by
  grind [IntKind.wrap_u32,IntKind.wrap_u64]
theorem HGo.get{n v:Int}{into r:Nat}(h:HGo C k (jY pl n into++l) R W M)(hh:pl.has n)(hi:into=7\/into=8)(hr:eC pl n into=r)(h15:R.getD 15 0=0)(hv:Lo pl R W n v):
    ∃k' R',HGo C k' l R' W M/\R'.getD r 0=v/\kN [into] R R':=by
  obtain⟨r2,h1,h2⟩:=mq hh (into:=into) Wq1;obtain rfl:r2=r:=by omega
  rcases h2 with⟨rfl,h3⟩|⟨h3,h4,h5⟩
  . unfold jY at h
    rw[h3]at h;have hs:0<=pl.s n/\pl.s n<128:=by rcases hh with⟨h6, -⟩|⟨-,h6⟩;rw[h3]at h6;cases h6;exact h6
    have g:=HGo.ld (rd:=r2) (ra:=15) (p:=64+(pl.s n).toNat) h (Bz hs h15) Wq1;exact⟨_,_,g,(cR (by rw[h.rl];omega)).trans (hv.2 h3),kN.set R _ _ cH⟩
  unfold jY at h;rw[h4]at h;exact⟨k,R,h,by rw[<-h5];exact hv.1 h4,kN.refl _ _⟩
theorem HGo.Sf{n v:Int}{r:Nat}(h:HGo C k (jb pl n (eC pl n 9)++l) R W M)(hh:pl.has n)(hr:eC pl n 9=r)(h15:R.getD 15 0=0)(hv:R.getD r 0=v)(hv2:0<=v/\v<=4294967295):
    ∃k' W',HGo C k' l R W' M/\Lo pl R W' n v/\∀j,(pl.inR n=true\/j≠64+(pl.s n).toNat)->W'.getD j 0=W.getD j 0:=by
  obtain⟨r2,h1,h2⟩:=mq hh (into:=9) Wq1;have h1:eC pl n 9=r2:=h1;obtain rfl:r2=r:=by omega
  unfold jb at h;rcases h2 with⟨rfl,h3⟩|⟨h3,h4,h5⟩
  . rw[h3]at h
    have hs:0<=pl.s n/\pl.s n<128:=by rcases hh with⟨h6, -⟩|⟨-,h6⟩;rw[h3]at h6;cases h6;exact h6
    have hg:eC pl n 9=9:=by unfold eC;rw[h3];rfl
    rw[hg]at h;have g:=HGo.st (ra:=15) (rb:=9) (p:=64+(pl.s n).toNat) (v:=v) h (Bz hs h15) Wq1 (by grind [IntKind.wrap_u32]);refine⟨_,_,g,⟨λh6=>bR,λ_=>cR (by rw[h.wl];omega)⟩,λj hj=>?_⟩
    grind
  rw[h4]at h;exact⟨k,W,h,⟨λ_=>bR,λh6=>bR⟩,λ_ _=>rfl⟩
structure II.ok(x:II)(RI RJ:Int)(n:Nat):Prop where
  imm:0<=x.imm/\x.imm<=4294967295
  op:(x.op=0)\/(x.op=1/\x.imm<RI)\/(x.op=2/\x.imm<RJ)\/(x.op=3/\16<=x.imm/\x.imm<=23)\/(x.op=4/\((16<=x.imm/\x.imm<=23)\/x.imm=25))
  ab:x.op=3\/x.op=4->(0<=x.a/\x.a<n)/\(0<=x.b/\x.b<n)
def wds(l:List Int):Prop:=∀x,x∈l->0<=x/\x<=4294967295
theorem iH{l:List Int}(h:wds l)(n:Nat):0<=l.getD n 0/\l.getD n 0<=4294967295:=by
  rw[List.getD_eq_getElem?_getD];by_cases hn:n<l.length
  . rw[aa hn];exact h _ (List.getElem_mem hn)
  grind
theorem mT{l:List Int}(h:wds l)(n:Nat):∃x:Nat,l.getD n 0=(x:Int)/\x<4294967296:=by
  obtain⟨h1,h2⟩:=iH h n;exact⟨(l.getD n 0).toNat,by omega,by omega⟩
theorem L4{op:Int}{x y:Nat}(hx:x<4294967296)(hy:y<4294967296)(hop:(16<=op/\op<=23)\/op=25):0<=(jH op x y).2.1/\(jH op x y).2.1<=15:=by
  have hb:∀b:Bool,0<=b2i b/\b2i b<=1:=λb=>by cases b<;>decide
  have hT:∀(a b r o:Int) (p q c:Bool),0<=jy a b r (b2i p+2*b2i q) c o/\jy a b r (b2i p+2*b2i q) c o<=15:=λa b r o p q c=>by
    rw[wa];grind
  have hp:∀r:Nat,r<4294967296->0<=du r/\du r<=15:=λr hr=>by
    grind [je]
  have hr:=ur hop hx hy;have h8:op=16\/op=17\/op=18\/op=19\/op=20\/op=21\/op=22\/op=23\/op=25:=by omega
  obtain⟨r,hr,hr2⟩:=hr;rcases h8 with rfl|rfl|rfl|rfl|rfl|rfl|rfl|rfl|rfl
  . show 0<=nF x y/\nF x y<=15
    have hr:IntKind.u32.wrap ((x:Int)+y)=(r:Int):=hr;unfold nF;rw[hr,je hr2];exact hT ..
  . show 0<=kI x y/\kI x y<=15
    have hr:IntKind.u32.wrap ((x:Int) - y)=(r:Int):=hr;unfold kI;rw[hr,je hr2];exact hT ..
  . show 0<=du (wN 18 x y)/\du (wN 18 x y)<=15;grind
  . show 0<=du (wN 19 x y)/\du (wN 19 x y)<=15;grind
  . show 0<=du (wN 20 x y)/\du (wN 20 x y)<=15;grind
  . show 0<=du (wN 21 x y)/\du (wN 21 x y)<=15;grind
  . show 0<=du (wN 22 x y)/\du (wN 22 x y)<=15;grind
  . show 0<=du (wN 23 x y)/\du (wN 23 x y)<=15;grind
  show 0<=kI x y/\kI x y<=15;have hr:IntKind.u32.wrap ((x:Int) - y)=(r:Int):=hr;unfold kI;rw[hr,je hr2];exact hT ..
structure QT(D Rr:List Int)(RI RJ:Int)(R W:List Int):Prop where
  z:R.getD 15 0=0
  bd:R.getD 14 0=(D.length:Int) - RI
  br:R.getD 13 0=(Rr.length:Int) - RJ
  d:∀j,j<D.length->W.getD (4+j) 0=D.getD j 0
  r:∀j,j<Rr.length->W.getD (20+j) 0=Rr.getD j 0
  d16:D.length<=16
  r16:Rr.length<=16
  nd:0<=RI/\RI<=D.length
  nr:0<=RJ/\RJ<=Rr.length
theorem QT.mono{D Rr:List Int}{RI RJ:Int}{R W R' W':List Int}(h:QT D Rr RI RJ R W)(hs:∀j,13<=j->R'.getD j 0=R.getD j 0)(hw:∀j,j<64->W'.getD j 0=W.getD j 0):QT D Rr RI RJ R' W':=
  ⟨by rw[hs 15 Wq7,h.z],by rw[hs 14 Wq7,h.bd],by rw[hs 13 Wq7,h.br],λj hj=>by have:=h.d16;rw[hw _ Wq1,h.d j hj],λj hj=>by have:=h.r16;rw[hw _ Wq1,h.r j hj],h.d16,h.r16,h.nd,h.nr⟩
theorem HGo.one{D Rr V:List Int}{RI RJ:Int}{n:Nat}{x:II}(h:HGo C k (rO RI RJ pl n x++l) R W M)(hx:x.ok RI RJ n)(hb:QT D Rr RI RJ R W)(hD:wds D)(hR:wds Rr)(hV:wds V)
    (hn:pl.has n) (hab:x.op=3\/x.op=4->(pl.has x.a/\Lo pl R W x.a (V.getD x.a.toNat 0))/\(pl.has x.b/\Lo pl R W x.b (V.getD x.b.toNat 0))):
    ∃k' R' W',HGo C k' l R' W' M/\Lo pl R' W' n (lc D Rr V x)/\QT D Rr RI RJ R' W'/\(∀j,j<7->(pl.inR n=true->j≠(pl.r n).toNat)->R'.getD j 0=R.getD j 0)/\(∀j,(pl.inR n=true\/j≠64+(pl.s n).toNat)->W'.getD j 0=W.getD j 0):=by
  obtain⟨rd,hrd,hrd2⟩:=mq hn (into:=9) Wq1;have hrd:eC pl n 9=(rd:Int):=hrd;have hrd10:rd<10:=by rcases hrd2 with⟨h1, -⟩|⟨h1, -⟩<;>omega
  have fin:∀(k1:Nat) (R1:List Int) (v:Int),HGo C k1 (jb pl n (eC pl n 9)++l) R1 W M->R1.getD rd 0=v->(0<=v/\v<=4294967295)->(∀j,j≠rd->(j<7\/13<=j)->R1.getD j 0=R.getD j 0)->
      ∃k' R' W',HGo C k' l R' W' M/\Lo pl R' W' n v/\QT D Rr RI RJ R' W'/\(∀j,j<7->(pl.inR n=true->j≠(pl.r n).toNat)->R'.getD j 0=R.getD j 0)/\(∀j,(pl.inR n=true\/j≠64+(pl.s n).toNat)->W'.getD j 0=W.getD j 0):=λk1 R1 v g hv hv2 hs=>by
    obtain⟨k2,W2,g1,g2,g3⟩:=HGo.Sf g hn hrd (by grind [hb.z]) hv hv2;have hw:∀j,j<64->W2.getD j 0=W.getD j 0:=λj hj=>g3 j (by
      omega)
    refine⟨k2,R1,W2,g1,g2,hb.mono (λj hj=>hs j Wq1 Wq1) hw,λj hj hne=>?_,g3⟩
    grind
  have hap:∀m:List HI,HGo C k (m++(jb pl n (eC pl n 9)++l)) R W M<->HGo C k ((m++jb pl n (eC pl n 9))++l) R W M:=λm=>by grind
  have two:∀m:List HI,(x.op=3\/x.op=4)->HGo C k (jY pl x.a 7++(jY pl x.b 8++m)) R W M->∃(k1:Nat) (R1:List Int) (ra rb a b:Nat),HGo C k1 m R1 W M/\eC pl x.a 7=ra/\eC pl x.b 8=rb/\ra<9/\rb<9/\R1.getD ra 0=(a:Int)/\R1.getD rb 0=(b:Int)/\
      V.getD x.a.toNat 0=(a:Int)/\V.getD x.b.toNat 0=(b:Int)/\a<4294967296/\b<4294967296/\kN [7,8] R R1:=λm ho g=>by
    obtain⟨⟨h1,h2⟩,h3,h4⟩:=hab ho;obtain⟨ra,e1,e2⟩:=mq h1 (into:=7) Wq1;obtain⟨rb,e3,e4⟩:=mq h3 (into:=8) Wq1;have e1:eC pl x.a 7=(ra:Int):=e1;have e3:eC pl x.b 8=(rb:Int):=e3;obtain⟨a,a1,a2⟩:=mT hV x.a.toNat;obtain⟨b,b1,b2⟩:=mT hV x.b.toNat;rw[a1]at h2;rw[b1]at h4;obtain⟨k1,R1,g1,g2,g3⟩:=HGo.get (into:=7) g h1 Wq1 e1 hb.z h2;have h4':Lo pl R1 W x.b b:=by
      refine⟨λhi=>?_,h4.2⟩;rcases h3 with⟨q1,q2⟩|⟨q1, -⟩
      . rw[g3 _ ?_]
        . exact h4.1 hi
        grind
      grind
    obtain⟨k2,R2,p1,p2,p3⟩:=HGo.get (into:=8) g1 h3 Wq1 e3 (by rw[g3 15 Wq7,hb.z]) h4';refine⟨k2,R2,ra,rb,a,b,p1,e1,e3,?_,?_,?_,p2,a1,b1,a2,b2,g3.trans p3 bR⟩
    . omega
    . omega
    rw[p3 ra bR,g2]
  obtain⟨op,dst,xa,xb,imm⟩:=x;obtain⟨hi1,hi2⟩:=hx.imm;have hop:=hx.op;dsimp only at hop hi1 hi2 two hab;rcases hop with rfl|⟨rfl,h1⟩|⟨rfl,h1⟩|⟨rfl,h1⟩|⟨rfl,h1⟩
  . have g:HGo C k (⟨1,(rd:Int),0,0,imm⟩::(jb pl n (eC pl n 9)++l)) R W M:=by rw[<-hrd];exact(hap [⟨1,eC pl n 9,0,0,imm⟩]).2 h
    exact fin _ _ imm g.li (cR (by rw[h.rl];omega)) ⟨hi1,hi2⟩ (λj h1 _=>cK (λe=>h1 e.symm))
  . have g:HGo C k (⟨14,(rd:Int),14,0,IntKind.u32.wrap (4+RI - 1 - imm)⟩::(jb pl n (eC pl n 9)++l)) R W M:=by rw[<-hrd];exact(hap [_]).2 h
    obtain⟨n1,n2⟩:=hb.nd;have hd:=hb.d16;have g1:=HGo.ld (rd:=rd) (ra:=14) (p:=4+(D.length - 1 - imm.toNat)) g (by rw[hb.bd,aC,aK];omega) Wq1;have hv:W.getD (4+(D.length - 1 - imm.toNat)) 0=D.getD (D.length - 1 - imm.toNat) 0:=hb.d _ Wq1;rw[hv]at g1;exact fin _ _ _ g1 (cR (by rw[h.rl];omega)) (iH hD _) (λj h1 _=>cK (λe=>h1 e.symm))
  . have g:HGo C k (⟨14,(rd:Int),13,0,IntKind.u32.wrap (20+RJ - 1 - imm)⟩::(jb pl n (eC pl n 9)++l)) R W M:=by rw[<-hrd];exact(hap [_]).2 h
    obtain⟨n1,n2⟩:=hb.nr;have hd:=hb.r16;have g1:=HGo.ld (rd:=rd) (ra:=13) (p:=20+(Rr.length - 1 - imm.toNat)) g (by rw[hb.br,aC,aK];omega) Wq1;have hv:W.getD (20+(Rr.length - 1 - imm.toNat)) 0=Rr.getD (Rr.length - 1 - imm.toNat) 0:=hb.r _ Wq1;rw[hv]at g1;exact fin _ _ _ g1 (cR (by rw[h.rl];omega)) (iH hR _) (λj h1 _=>cK (λe=>h1 e.symm))
  . have g:HGo C k (jY pl xa 7++(jY pl xb 8++(yz imm (eC pl n 9) (eC pl xa 7) (eC pl xb 8)++(jb pl n (eC pl n 9)++l)))) R W M:=by
      have e:rO RI RJ pl n ⟨3,dst,xa,xb,imm⟩++l=jY pl xa 7++(jY pl xb 8++(yz imm (eC pl n 9) (eC pl xa 7) (eC pl xb 8)++(jb pl n (eC pl n 9)++l))):=by
        show((jY pl xa 7++(jY pl xb 8++yz imm (eC pl n 9) (eC pl xa 7) (eC pl xb 8)))++jb pl n (eC pl n 9))++l=_;simp only[aw]
      rwa[e]at h
    obtain⟨k1,R1,ra,rb,a,b,g1,e1,e2,ha,hbb,ea,eb,va,vb,a2,b2,hs⟩:=two _ (Or.inl rfl) g;rw[e1,e2,hrd]at g1;obtain⟨k2,R2,p1,p2,p3⟩:=HGo.alu (rd:=rd) (Or.inl h1) g1 Wq1 ea eb a2 b2;obtain⟨q,q1,q2⟩:=ur (Or.inl h1) a2 b2;have hv:lc D Rr V ⟨3,dst,xa,xb,imm⟩=wN imm a b:=by
      show(jH imm (V.getD xa.toNat 0) (V.getD xb.toNat 0)).1=_;rw[va,vb];unfold wN;rw[show(imm==25)=false by simp;omega];rfl
    rw[hv];exact fin _ _ _ (by rw[hrd];exact p1) p2 Wq1 (λj h1 h2=>by rw[p3 j gZ,hs j gZ])
  have g:HGo C k (jY pl xa 7++(jY pl xb 8++(mv imm (eC pl xa 7) (eC pl xb 8)++(⟨2,eC pl n 9,10,0,0⟩::(jb pl n (eC pl n 9)++l))))) R W M:=by
    have e:rO RI RJ pl n ⟨4,dst,xa,xb,imm⟩++l=jY pl xa 7++(jY pl xb 8++(mv imm (eC pl xa 7) (eC pl xb 8)++(⟨2,eC pl n 9,10,0,0⟩::(jb pl n (eC pl n 9)++l)))):=by
      show((jY pl xa 7++(jY pl xb 8++(mv imm (eC pl xa 7) (eC pl xb 8)++[⟨2,eC pl n 9,10,0,0⟩])))++jb pl n (eC pl n 9))++l=_;simp only[aw,aJ,aP]
    rwa[e]at h
  obtain⟨k1,R1,ra,rb,a,b,g1,e1,e2,ha,hbb,ea,eb,va,vb,a2,b2,hs⟩:=two _ (Or.inr rfl) g;rw[e1,e2]at g1;obtain⟨k2,R2,p1,p2,p3⟩:=HGo.flag h1 g1 ha hbb (by rw[hs 15 Wq7,hb.z]) ea eb a2 b2;have hfl:=L4 a2 b2 h1;have hv:lc D Rr V ⟨4,dst,xa,xb,imm⟩=(jH imm a b).2.1:=by
    show(jH imm (V.getD xa.toNat 0) (V.getD xb.toNat 0)).2.1=_;rw[va,vb]
  rw[hv];rw[hrd]at p1;have p4:=HGo.mov (rd:=rd) (ra:=10) p1;rw[p2]at p4;exact fin _ _ _ (by rw[hrd];exact p4) (cR (by rw[p1.rl];omega)) Wq1 (λj h1 h2=>by rw[cK (λe=>h1 e.symm),p3 j gZ,hs j gZ])
end
theorem nm1{a b:Nat}(h:a≠b):a∉[b]:=by grind
structure Nc(pl:Pl)(T:List Int)(N:Nat):Prop where
 has:∀n:Nat,n<N->pl.has n
 reg:∀i j:Nat,i<j->j<N->pl.inR i=true->pl.inR j=true->pl.r i=pl.r j->T.getD i 0<=j
 slot:∀i j:Nat,i<j->j<N->pl.inR i=false->pl.inR j=false->pl.s i=pl.s j->T.getD i 0<=j
def Gu(pl:Pl)(T V:List Int)(n:Nat)(R W:List Int):Prop:=∀a:Nat,a<n->(n:Int)<=T.getD a 0->Lo pl R W a (V.getD a 0)
section
variable {C l:List HI} {k:Nat} {R W:List Int} {M:HM} {pl:Pl} {D Rr:List Int} {RI RJ:Int} {T:List Int}
theorem Jk{V V':List Int}{x:II}{n:Nat}(hx:x.ok RI RJ n)(h:∀a:Nat,a<n->V.getD a 0=V'.getD a 0):lc D Rr V x=lc D Rr V' x:=by
 have hop:=hx.op;have hab:=hx.ab;obtain⟨op,dst,a,b,imm⟩:=x;dsimp only at hop hab;rcases hop with rfl|⟨rfl, -⟩|⟨rfl, -⟩|⟨rfl, -⟩|⟨rfl, -⟩
 .rfl
 .rfl
 .rfl
 .obtain⟨h1,h2⟩:=hab (Or.inl rfl);show(jH imm (V.getD a.toNat 0) (V.getD b.toNat 0)).1=(jH imm (V'.getD a.toNat 0) (V'.getD b.toNat 0)).1
  grind
 obtain⟨h1,h2⟩:=hab (Or.inr rfl);show(jH imm (V.getD a.toNat 0) (V.getD b.toNat 0)).2.1=(jH imm (V'.getD a.toNat 0) (V'.getD b.toNat 0)).2.1
 grind
def OkC(RI RJ:Int)(code:List II):Prop:=∀(n:Nat) (x:II),code[n]? =some x->x.ok RI RJ n
theorem OkC.app{pre suf:List II}(h:OkC RI RJ (pre++suf)):OkC RI RJ pre:=λn x hx=>h n x bR
theorem OkC.last{pre:List II}{x:II}(h:OkC RI RJ (pre++[x])):x.ok RI RJ pre.length:=h pre.length x cH
theorem NC{V:List Int}{x:II}{n:Nat}(hx:x.ok RI RJ n)(hD:wds D)(hR:wds Rr)(hV:wds V):0<=lc D Rr V x/\lc D Rr V x<=4294967295:=by
 have hop:=hx.op;have hi:=hx.imm;obtain⟨op,dst,a,b,imm⟩:=x;dsimp only at hop hi;obtain⟨x,hx1,hx2⟩:=mT hV a.toNat;obtain⟨y,hy1,hy2⟩:=mT hV b.toNat;rcases hop with rfl|⟨rfl, -⟩|⟨rfl, -⟩|⟨rfl,h1⟩|⟨rfl,h1⟩
 .exact hi
 .exact iH hD _
 .exact iH hR _
 .show 0<=(jH imm (V.getD a.toNat 0) (V.getD b.toNat 0)).1/\(jH imm (V.getD a.toNat 0) (V.getD b.toNat 0)).1<=4294967295;obtain⟨r,hr,hr2⟩:=ur (Or.inl h1) hx2 hy2
  grind [jH,wN]
 show 0<=(jH imm (V.getD a.toNat 0) (V.getD b.toNat 0)).2.1/\(jH imm (V.getD a.toNat 0) (V.getD b.toNat 0)).2.1<=4294967295;rw[hx1,hy1];have:=L4 hx2 hy2 h1;omega
theorem NB(code:List II)(hD:wds D)(hR:wds Rr)(h:OkC RI RJ code):wds (Si D Rr code):=by
 revert h;refine za (p:=λcode=>OkC RI RJ code->wds (Si D Rr code)) (λ_ x hx=>by cases hx) (λl x ih h=>?_) code;rw[lA];intro y hy;rcases aF.1 hy with h1|h1
 .exact ih h.app y h1
 rw[aB.1 h1];exact NC h.last hD hR (ih h.app)
theorem vals_at{pre:List II}{x:II}{suf:List II}(h:OkC RI RJ (pre++x::suf)):(Si D Rr (pre++x::suf)).getD pre.length 0=lc D Rr (Si D Rr (pre++x::suf)) x:=by
 have h2:pre++x::suf=(pre++[x])++suf:=by simp
 rw[h2]at h|-;obtain⟨m,hm⟩:=EW (D:=D) (R:=Rr) (pre++[x]) suf;have e1:(Si D Rr (pre++[x])).length=pre.length+1:=by rw[tQ];simp
 have e0:(Si D Rr pre).length=pre.length:=tQ _;have e2:∀a:Nat,a<pre.length->(Si D Rr pre).getD a 0=(Si D Rr ((pre++[x])++suf)).getD a 0:=λa ha=>by
  grind [lA]
 rw[<-Jk (OkC.last (OkC.app h)) e2,hm,lA]
 grind
theorem HGo.all{V:List Int}{N:Nat}(hp:Nc pl T N)(hD:wds D)(hR:wds Rr)(hV:wds V):∀(suf:List II) (n:Nat) (k:Nat) (R W:List Int),HGo C k (jV RI RJ pl suf n++l) R W M->n+suf.length=N->
  (∀i x,suf[i]? =some x->x.ok RI RJ (n+i)/\V.getD (n+i) 0=lc D Rr V x/\(x.op=3\/x.op=4->((n+i:Nat):Int)<=T.getD x.a.toNat 0/\((n+i:Nat):Int)<=T.getD x.b.toNat 0))->
  QT D Rr RI RJ R W->Gu pl T V n R W->∃k' R' W',HGo C k' l R' W' M/\QT D Rr RI RJ R' W'/\Gu pl T V N R' W'/\∀j,j<64->W'.getD j 0=W.getD j 0
 |[],n,k,R,W,h,hN,hx,hb,hh=>⟨k,R,W,h,hb,bR,λ_ _=>rfl⟩
 |x::suf,n,k,R,W,h,hN,hx,hb,hh=>by
  have hN':n+1+suf.length=N:=by rw[<-hN];simp;omega
  obtain⟨x1,x2,x3⟩:=hx 0 x rfl;rw[Nat.add_zero]at x1 x2 x3;have h:HGo C k (rO RI RJ pl n x++(jV RI RJ pl suf (n+1)++l)) R W M:=by
   have e:jV RI RJ pl (x::suf) n++l=rO RI RJ pl n x++(jV RI RJ pl suf (n+1)++l):=by show(rO RI RJ pl n x++jV RI RJ pl suf (n+1))++l=_;rw[aw]
   rwa[e]at h
  have hn:=hp.has n Wq1;have hab:x.op=3\/x.op=4->(pl.has x.a/\Lo pl R W x.a (V.getD x.a.toNat 0))/\(pl.has x.b/\Lo pl R W x.b (V.getD x.b.toNat 0)):=λho=>by
   obtain⟨⟨a1,a2⟩,b1,b2⟩:=x1.ab ho;obtain⟨t1,t2⟩:=x3 ho;have ea:((x.a.toNat:Nat):Int)=x.a:=by omega
   have eb:((x.b.toNat:Nat):Int)=x.b:=by omega
   have ha:=hh x.a.toNat Wq1 t1;have hb:=hh x.b.toNat Wq1 t2;have pa:=hp.has x.a.toNat Wq1;have pb:=hp.has x.b.toNat Wq1
   grind
  obtain⟨k1,R1,W1,g1,g2,g3,g4,g5⟩:=HGo.one h x1 hb hD hR hV hn hab;have hold:Gu pl T V (n+1) R1 W1:=λa ha ht=>by
   by_cases e:a=n
   .grind
   have h1:=hh a Wq1 Wq1;have hlt:a<n:=by omega
   refine⟨λhi=>?_,λhi=>?_⟩
   .rw[g4 _ ?_ ?_];exact h1.1 hi
    .rcases hp.has a (by omega)with⟨-,q⟩|⟨q, -⟩
     .omega
     grind
    intro hin e2;have:=hp.reg a n hlt Wq1 hi hin (by
     grind [Pl.inR])
    omega
   rw[g5 _ ?_];exact h1.2 hi;cases hin:pl.inR n with
   |true=>grind
   |false=>
    refine Or.inr λe2=>?_
    have s1:0<=pl.s a:=by rcases hp.has a (by omega)with⟨q, -⟩|⟨-,q, -⟩;rw[hi]at q;cases q;exact q
    have s2:0<=pl.s n:=by rcases hn with⟨q, -⟩|⟨-,q, -⟩;rw[hin]at q;cases q;exact q
    have:=hp.slot a n hlt Wq1 hi hin Wq1;omega
  obtain⟨k2,R2,W2,q1,q2,q3,q4⟩:=HGo.all hp hD hR hV suf (n+1) k1 R1 W1 g1 hN' (λi y hy=>by
   have:=hx (i+1) y bR
   grind) g3 hold
  grind
theorem HGo.outs{V:List Int}{N base B from_:Nat}(hp:Nc pl T N)(hV:wds V)(hbase:base=13\/base=14)(hfr:from_=4\/from_=20):∀(out:List Int) (j:Nat) (k:Nat) (R W:List Int),HGo C k (zF pl base from_ out j++l) R W M->
  (∀n,n∈out->0<=n/\n<N/\(N:Int)<=T.getD n.toNat 0)->B+j+out.length<=16->R.getD base 0=(B:Int)->R.getD 15 0=0->Gu pl T V N R W->
  ∃k' R' W',HGo C k' l R' W' M/\kN [7] R R'/\(∀i,(i<from_+B+j\/from_+B+j+out.length<=i)->W'.getD i 0=W.getD i 0)/\(∀i,i<out.length->W'.getD (from_+B+j+i) 0=V.getD (out.getD i 0).toNat 0)
 |[],j,k,R,W,h,ho,hB,hb,h15,hh=>⟨k,R,W,h,kN.refl _ _,λ_ _=>rfl,λi hi=>absurd hi cH⟩
 |n::out,j,k,R,W,h,ho,hB,hb,h15,hh=>by
  obtain⟨n0,n1,n2⟩:=ho n cH;have en:((n.toNat:Nat):Int)=n:=by omega
  have hn:=hp.has n.toNat Wq1;have hl:=hh n.toNat Wq1 n2;rw[en]at hn hl;have hB':B+j+(out.length+1)<=16:=hB;have h:HGo C k (jY pl n 7++(⟨15,0,(base:Int),eC pl n 7,IntKind.u32.wrap ((from_:Int)+IntKind.u32.wrap (j:Int))⟩::(zF pl base from_ out (j+1)++l))) R W M:=by
   have e:zF pl base from_ (n::out) j++l=jY pl n 7++(⟨15,0,(base:Int),eC pl n 7,IntKind.u32.wrap ((from_:Int)+IntKind.u32.wrap (j:Int))⟩::(zF pl base from_ out (j+1)++l)):=by
    show(jY pl n 7++(_::zF pl base from_ out (j+1)))++l=_;rw[aw,aJ]
   rwa[e]at h
  obtain⟨r,hr,hr2⟩:=mq hn (into:=7) Wq1;have hr:eC pl n 7=(r:Int):=hr;obtain⟨v,hv,hv2⟩:=mT hV n.toNat;rw[hv]at hl;obtain⟨k1,R1,g1,g2,g3⟩:=HGo.get (into:=7) h hn Wq1 hr h15 hl;rw[hr]at g1;have hb1:R1.getD base 0=(B:Int):=by rw[g3 base gZ,hb]
  have g4:=HGo.st (ra:=base) (rb:=r) (p:=from_+B+j) (v:=(v:Int)) g1 (by grind [IntKind.wrap_u32,IntKind.wrap_u64]) Wq1 (by grind [IntKind.wrap_u32]);have hold:Gu pl T V N R1 (W.set (from_+B+j) v):=λa ha ht=>by
   have h1:=hh a ha ht;have h2:=hp.has a ha;refine⟨λhi=>?_,λhi=>?_⟩
   .rw[g3 _ ?_];exact h1.1 hi;rcases h2 with⟨-,q⟩|⟨q, -⟩
    .grind
    grind
   rw[cK Wq1];exact h1.2 hi
  obtain⟨k2,R2,W2,q1,q2,q3,q4⟩:=HGo.outs hp hV hbase hfr out (j+1) _ R1 _ g4 (λm hm=>ho m (by simp[hm])) Wq1 hb1 (by rw[g3 15 Wq7,h15]) hold;have hw:=h.wl;refine⟨k2,R2,W2,q1,g3.trans q2 bR,λi hi=>?_,λi hi=>?_⟩
  .grind [cK]
  cases i with
  |zero=>
   grind [cR]
  |succ i=>
   grind
theorem HGo.stack{V:List Int}{N base B from_ word:Nat}{out:List Int}(hp:Nc pl T N)(hV:wds V)(hbase:base=13\/base=14)(hfr:from_=4\/from_=20)(hw:word=2\/word=3)(h:HGo C k (iX pl base from_ word out++l) R W M)
  (ho:∀n,n∈out->0<=n/\n<N/\(N:Int)<=T.getD n.toNat 0) (hB:B+out.length<=16) (hb:R.getD base 0=(B:Int)) (h15:R.getD 15 0=0) (hh:Gu pl T V N R W):
  ∃k' R' W',HGo C k' l R' W' M/\kN [7,11] R R'/\(∀i,i≠word->(i<from_+B\/from_+B+out.length<=i)->W'.getD i 0=W.getD i 0)/\(∀i,i<out.length->W'.getD (from_+B+i) 0=V.getD (out.getD i 0).toNat 0)/\W'.getD word 0=((B+out.length:Nat):Int)/\Gu pl T V N R' W':=by
 have h:HGo C k (zF pl base from_ out 0++(⟨1,11,0,0,IntKind.u32.wrap (out.length:Int)⟩::⟨3,11,11,(base:Int),0⟩::⟨15,0,15,11,(word:Int)⟩::l)) R W M:=by
  have e:iX pl base from_ word out++l=zF pl base from_ out 0++(⟨1,11,0,0,IntKind.u32.wrap (out.length:Int)⟩::⟨3,11,11,(base:Int),0⟩::⟨15,0,15,11,(word:Int)⟩::l):=by
   unfold iX;simp only[aw,aJ,aP]
  rwa[e]at h
 obtain⟨k1,R1,W1,g1,g2,g3,g4⟩:=HGo.outs hp hV hbase hfr out 0 k R W h ho Wq1 hb h15 hh;have hl:=g1.rl;have hl2:=g1.wl;have a1:=HGo.li (rd:=11) g1;have a2:=HGo.op (rd:=11) (ra:=11) (rb:=base) (v:=((B+out.length:Nat):Int)) a1 Wq7 Wq7 (by
  rw[cR Wq1,cK Wq1,g2 base gZ,hb];show IntKind.u64.wrap (IntKind.u32.wrap (out.length:Int)+(B:Int))=_;rw[aC,aK];omega)
 have a3:=HGo.st (ra:=15) (rb:=11) (p:=word) (v:=((B+out.length:Nat):Int)) a2 (by rw[cK Wq7,cK Wq7,g2 15 Wq7,h15,aK];omega) Wq1 (by grind [cR,IntKind.wrap_u32]);refine⟨_,_,_,a3,?_,λi h1 h2=>?_,λi hi=>?_,cR Wq1,λa ha ht=>?_⟩
 .intro j hj;simp only[aG,aS,or_false,not_or]at hj;rw[cK Wq1,cK Wq1,g2 j gZ]
 .grind
 .grind [cK]
 have h1:=hh a ha ht;have h2:=hp.has a ha;refine⟨λhi=>?_,λhi=>?_⟩
 .have q1:0<=pl.r a:=by unfold Pl.inR at hi;simpa using hi
  have q2:pl.r a<7:=by rcases h2 with⟨-,q⟩|⟨q, -⟩;exact q;rw[hi]at q;cases q
  rw[cK Wq1,cK Wq1,g2 _ (nm1 Wq1)];exact h1.1 hi
 rw[cK Wq1,g3 _ Wq1];exact h1.2 hi
theorem HGo.room{base word n e:Nat}{RL Se:Int}(h:HGo C k (pf e base word RL Se++l) R W M)(hbase:base=13\/base=14)(hw:word=2\/word=3)(h15:R.getD 15 0=0)(hn:W.getD word 0=(n:Int))(hn2:n<=16)(h0:0<=RL/\RL<=16)(hm:0<=Se/\Se<=4294967295)
  (he:C.drop e=[⟨19,0,0,0,2⟩]):RL<=n/\(n:Int)<=Se/\∃k' R',HGo C k' l R' W M/\R'.getD base 0=(n:Int) - RL/\kN [base,11,12] R R':=by
 have hl:=h.rl;have no:∀(R1:List Int),¬HGo C e [⟨19,0,0,0,2⟩] R1 W M:=λR1 g=>by have:=(HGo.exit g).1;cases this
 have a1:=HGo.ld (rd:=base) (ra:=15) (p:=word) h (by grind [IntKind.wrap_u64]) Wq1;rw[hn]at a1;have a2:=HGo.li (rd:=11) a1;have e11:((R.set base (n:Int)).set 11 (IntKind.u32.wrap RL)).getD 11 0=RL:=by rw[cR bR,aC];omega
 have eb:((R.set base (n:Int)).set 11 (IntKind.u32.wrap RL)).getD base 0=n:=by rw[cK Wq1,cR Wq1]
 have a3:=HGo.op (rd:=12) (ra:=base) (rb:=11) (v:=b2i (decide ((n:Int)<RL))) a2 Wq7 Wq7 (by rw[e11,eb];rfl);have b3:(((R.set base (n:Int)).set 11 (IntKind.u32.wrap RL)).set 12 (b2i (decide ((n:Int)<RL)))).getD 12 0=b2i (decide ((n:Int)<RL)):=cR bR;have a4:=HGo.bnez (ra:=12) a3 he;rw[b3]at a4;rcases a4 with⟨c1,a4⟩|⟨-,a4⟩
 .have hlt:RL<=n:=by
   cases hd:decide ((n:Int)<RL)with
   |true=>rw[hd]at c1;cases c1
   |false=>grind
  have a5:=HGo.li (rd:=12) a4;have a6:=HGo.op (rd:=12) (ra:=12) (rb:=base) (v:=b2i (decide (Se<(n:Int)))) a5 Wq7 Wq7 (by
   rw[cR bR,cK Wq1,cK Wq1,eb];show b2i (decide (IntKind.u32.wrap Se<(n:Int)))=_;rw[show IntKind.u32.wrap Se=Se by rw[aC];omega])
  have a7:=HGo.bnez (ra:=12) a6 he;rw[cR bR]at a7;rcases a7 with⟨c2,a7⟩|⟨-,a7⟩
  .have hle:(n:Int)<=Se:=by
    cases hd:decide (Se<(n:Int))with
    |true=>rw[hd]at c2;cases c2
    |false=>grind
   have a8:=HGo.op (rd:=base) (ra:=base) (rb:=11) (v:=(n:Int) - RL) a7 Wq7 Wq7 (by
    rw[cK Wq1,cK Wq1,cK Wq1,eb,cK Wq7,cK Wq7,cK Wq7,e11];show IntKind.u64.wrap ((n:Int) - RL)=_;rw[aK];omega)
   refine⟨hlt,hle,_,_,a8,cR bR,?_⟩;intro j hj
   grind
  grind
 grind
end
end Go.Ink
