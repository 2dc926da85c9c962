/- Lemmas. -/
import Derived.Test.YtepfimeihngjoaaGreatDoorYab
import Derived.Test.YtepfimeihngjoaaGreatDoorYac
set_option linter.all false
set_option maxRecDepth 100000
set_option maxHeartbeats 4000000
namespace Go.Ink
open List renaming length→J, replicate→R9
open IntKind renaming wrap→V9
open Go.RowKit Go.Proofs.Tryz
section
attribute [local irreducible] UL bM
variable{l:Li}
theorem u1:u32 1:=⟨by decide,by decide⟩
theorem wrap_u32(a:Int):u32 (V9 .u32 a):=by
 grind [u32,IntKind.wrap_u32]
variable{n:Nat}
theorem i7(h:n<=4294967295):u32 (n:Int):=⟨by omega,by omega⟩
structure Uy.ok(n:Nat)(M:Uy):Prop where
 dl:J M.data=n*64
 db:UO M.data
 tl:J M.SD=64
theorem Κ(h:UO l){a:Nat}{b:Int}(hb:0<=b/\b<=255):UO (l.set a b):=λx hx=>by
 rcases List.mem_or_eq_of_mem_set hx with h1|h1
 .exact h x h1
 omega
def Ww(t:Tr):Prop:=u32 t.addr/\0<=t.SB/\t.SB<=255
theorem Yc{a:Int}(h:u32 a):Ww ⟨10,a⟩:=⟨h,by grind,by grind⟩
theorem FC{a:Int}(h:u32 a)(k:Nat):u32 (a.fdiv (2^k)):=by
 have hp:(0:Int)<2^k:=Int.pow_pos An;rw[Int.fdiv_eq_ediv_of_nonneg _ (Int.le_of_lt hp)];have h1:=Int.ediv_nonneg h.1 (Int.le_of_lt hp);have h2:=Int.ediv_le_self (2^k) h.1;exact⟨h1,Int.le_trans h2 h.2⟩
def Xp(q:Int×Int×Bool):Prop:=u32 q.1/\0<=q.2.1/\q.2.1<=15
end
end Go.Ink
namespace Go.Ink
open List renaming length→J, replicate→R9
open IntKind renaming wrap→V9
open Go.RowKit Go.Proofs.Tryz
variable{n:Nat}
variable{s:St}
section
variable{C:Cx}{fr:Fr}{d:Option Tmp}{ty:TypeId}{pos:String}{af:Array Edge}{gd:Option (Nat×Bool)}{g:Bool}{x:Operand}{T:TypeId}
variable{ad:Addr}
theorem Ec{r:Addr}(n:Nat){f:Nat}(ho:ii C.P T f=some n)(hx:Ev fr g x (.pointer (some ad)))(hr:ad.add n=r):UL C ⟨d,.fieldAddr T x f,ty,pos,af,gd⟩ fr g U4 (.pointer (some r)):=λA w hf _ hg=>by
 subst hr;unfold ii at ho;split at ho
 .rename_i fs hfs
  split at ho
  .rename_i fd hfd
   split at ho
   .rename_i i hi
    by_cases hz:i.size=0
    .simp[hz]at ho
    have hz':Nat.beq i.size 0=false:=by cases h':Nat.beq i.size 0 with|false=>rfl|true=>exact absurd (Nat.eq_of_beq_eq_true h') hz
    rw[hz']at ho;simp only[ac,aW]at ho;subst ho;simp[execOp,hx.eval hf hg,Instr.fieldAt,run_underlying hfs,hfd,Instr.sureAddr,fieldPlace,sizeOf,typeInfo,hi,hz]
   cases ho
  cases ho
 cases ho
end
section
attribute [local irreducible] UL bM
theorem xU(l:Li)(x y:Int):(l++[x]).set (J l) y=l++[y]:=by
 rw[List.set_append_right _ _ (aL _),Nat.sub_self]
 rfl
def tzAnd(x:Int):Int:=bits .and .u32 x (V9 .u32 (0 - x))
def tzMul(x:Int):Int:=V9 .u32 (tzAnd x*125613361)
def I8(x:Int):Int:=(tzMul x).fdiv (2^(min (Int.toNat 27) IntKind.u32.bits))
def Un.tick(d:Un)(count:Int):Un:=bif(d.timer==0)||decide (V9 .u32 count<d.timer)then d else{d with timer:=0,SU:=bits .or .u32 d.SU 1}
def St.space(s:St):Sp:=⟨s.SJ,s.Sy,s.root.toNat⟩
theorem tA:∀{l:Li},UO l->0<=sE l/\sE l<((256^J l:Nat):Int)
 |[],_=>by simp[sE]
 |b::l,h=>by
  obtain⟨h1,h2⟩:=tA (l:=l) (λx hx=>h x (bo _ hx));have hb:=h b cE;have e:((256^J (b::l):Nat):Int)=256*((256^J l:Nat):Int):=by
   rw[aE,Nat.pow_succ,Nat.mul_comm];exact Int.natCast_mul 256 _
  rw[e];unfold sE;omega
theorem shl8_or{N b:Int}(h0:0<=N)(h1:N<16777216)(hb:0<=b/\b<=255):bits .or .u32 (V9 .u32 (N*2^(min (Int.toNat 8) IntKind.u32.bits))) b=b+256*N:=by
 have e:(N*2^(min (Int.toNat 8) IntKind.u32.bits):Int)=N*256:=rfl;rw[e,u32_wrap_id _ O O,BP,show bits .or .u32 b (N*256)=b+N*256 from by apply u32_or8<;>omega];omega
def lG(w:World):Prop:=UJ w 1 (sA 0) 32 32 (ints .u8 Gr)
end
section
variable{C:Cx}{fr:Fr}{d:Option Tmp}{ty:TypeId}{pos:String}{af:Array Edge}{gd:Option (Nat×Bool)}{g:Bool}{x y:Operand}{T T':TypeId}
theorem Ny{k:IntKind}{a b:Int}(hx:Ev fr g x (.int k a))(hy:Ev fr g y (.int k b)){r:Int}(hr:(if b<a then b else a)=r):UL C ⟨d,.call {callee:= .builtin .min,args:= #[x,y],argTypes:= #[T,T']},ty,pos,af,gd⟩ fr g U4 (.int k r):=λA w hf _ hg=>by
 subst hr;simp[execOp,resolve,invoke,builtin,hx.eval hf hg,hy.eval hf hg,Builtin.min_,Builtin.min2]
end
abbrev cR(cin:List bH):bH:=VD (α:=Unit) (bK cin) (λ_=>cin) ir (λ_=>True)
variable{w:World}
variable{cs:List bH}
section
variable{C:Cx}{Q:kW}{fr:Fr}{cs r:List bH}{ops:Array Oper}{l:List Oper}
theorem xE(cin:List bH)(hs:ga cin cs r)(h:WL C ops Q l fr (cR cin::r)):WL C ops Q l fr cs:=Ej () trivial hs h
end
variable{vs:List Value}
section
variable{C:Cx}{fr:Fr}{d:Option Nat}{ty:TypeId}{pos:String}{af:Array Edge}{gd:Option (Nat×Bool)}{g:Bool}
variable{l:List Operand}
theorem mi{f:FuncId}(hl:evs fr l=some vs):UL C ⟨d,.makeFunc (.func f) #[] l.toArray,ty,pos,af,gd⟩ fr g U4 (.func (.func f) #[] vs.toArray):=λA w hf _ hg=>by
 have h:=FF hf hl;simp[execOp,Instr.makeFunc,<-h]
end
def dS(s:St)(op:Int):Int:=V9 .u32 (s.pc+V9 .u32 (cw op))
end Go.Ink
namespace Go.Ink
open List renaming length→J
open IntKind renaming wrap→V9
open Go.RowKit Go.Proofs.Tryz
variable{z:Nat}
variable{k:Nat}
theorem K0{l:Li}{x:Int}(hk:k<z)(hx:l[k]? =some x):sE ((l.take z).drop k)=x+256*sE ((l.take z).drop (k+1)):=by
 have hx':(l.take z)[k]? =some x:=by rw[List.getElem?_take,if_pos hk];exact hx
 obtain⟨hlt,he⟩:=ap.1 hx';rw[List.drop_eq_getElem_cons hlt,he]
 rfl
section
attribute [local irreducible] UL bM
variable{n:Nat}{p:Nat}
variable{x:Nat}
variable{m:Int}
theorem MH{p:Int}(hm:0<=m/\m<=255):∃x:Nat,bits .and .u32 p m=(x:Int)/\x<256:=by
 unfold bits;simp only;rw[au];have hmt:(BitVec.ofInt IntKind.u32.bits m).toNat<=255:=by
  rw[BitVec.toNat_ofInt];have:(m%((2^IntKind.u32.bits:Nat):Int))=m:=Int.emod_eq_of_lt hm.1 (by have:((2^IntKind.u32.bits:Nat):Int)=4294967296:=rfl;omega);rw[this];omega
 have h1:=Nat.and_le_right (n:=(BitVec.ofInt IntKind.u32.bits p).toNat) (m:=(BitVec.ofInt IntKind.u32.bits m).toNat);refine⟨(BitVec.ofInt IntKind.u32.bits p&&&BitVec.ofInt IntKind.u32.bits m).toNat%4294967296,?_,?_⟩
 .simp
 rw[BitVec.toNat_and];omega
variable{s:St}{d:Un}
section
variable{d:Un}
theorem nY(h:d.lines)(c:Int):(d.tick c).lines:=by
 unfold Un.tick;exact bJ Un.lines h ⟨h.mask⟩
end
def fc(m from_:Int)(s:St):Bool:=decide (0<m)&& !s.halted&&decide (V9 .u64 (s.count - from_)<m)
end
end Go.Ink
namespace Go.Ink
open List renaming length→J
open IntKind renaming wrap→V9
open Go.RowKit
theorem jQ.refl(w:Lw):jQ w w:=⟨Int.le_refl _,Int.le_refl _,Int.le_refl _,Int.le_refl _⟩
variable{a:Nat}
theorem Dd(ha:a<4294967296):(BitVec.ofInt IntKind.u32.bits (a:Int)).toNat=a:=by rw[BitVec.toNat_ofInt];show((a:Int)%((4294967296:Nat):Int)).toNat=a;omega
variable{b:Nat}
theorem MJ(ha:a<18446744073709551616)(hb:b<18446744073709551616):bits .and .u64 (a:Int) (b:Int)=((a&&&b:Nat):Int):=by
  grind [bits,IntKind.wrap_u64,Dc,Nat.and_le_left,BitVec.toNat_and]
theorem or64(ha:a<18446744073709551616)(hb:b<18446744073709551616):bits .or .u64 (a:Int) (b:Int)=((a|||b:Nat):Int):=by
  have h3:a|||b<2^64:=Nat.or_lt_two_pow ha hb
  grind [bits,IntKind.wrap_u64,Dc]
theorem Gc(ha:a<18446744073709551616)(hb:b<18446744073709551616):bits .xor .u64 (a:Int) (b:Int)=((a^^^b:Nat):Int):=by
  have h3:a^^^b<2^64:=Nat.xor_lt_two_pow ha hb
  grind [bits,IntKind.wrap_u64,Dc]
theorem MK(ha:a<4294967296)(hb:b<4294967296):bits .and .u32 (a:Int) (b:Int)=((a&&&b:Nat):Int):=by
  grind [bits,IntKind.wrap_u32,Dd,Nat.and_le_left,BitVec.toNat_and]
theorem or32(ha:a<4294967296)(hb:b<4294967296):bits .or .u32 (a:Int) (b:Int)=((a|||b:Nat):Int):=by
  have h3:a|||b<2^32:=Nat.or_lt_two_pow ha hb
  grind [bits,IntKind.wrap_u32,Dd]
theorem Gd(ha:a<4294967296)(hb:b<4294967296):bits .xor .u32 (a:Int) (b:Int)=((a^^^b:Nat):Int):=by
  have h3:a^^^b<2^32:=Nat.xor_lt_two_pow ha hb
  grind [bits,IntKind.wrap_u32,Dd]
theorem low64(z:Int):bits .and .u64 (V9 .u64 z) 4294967295=V9 .u32 z:=by
  obtain⟨n,hn⟩:∃n:Nat,V9 .u64 z=n:=ai (by rw[aS];omega);have h1:n<18446744073709551616:=by rw[aS]at hn;omega
  rw[hn,show(4294967295:Int)=((4294967295:Nat):Int)from I,MJ h1 An,show(4294967295:Nat)=2^32 - 1 from I,Nat.and_two_pow_sub_one_eq_mod]
  grind [IntKind.wrap_u64,IntKind.wrap_u32]
theorem Yd(ha:a<4294967296):(bits .and .u32 (a:Int) 2147483648 !=0)=decide (2147483648<=a):=by
  have h1:=MK ha (show 2147483648<4294967296 by decide);rw[show((2147483648:Nat):Int)=2147483648 from I]at h1;rw[h1];have h2:a&&&2147483648=if 2147483648<=a then 2147483648 else 0:=by
    apply Nat.eq_of_testBit_eq;intro i;rw[show(2147483648:Nat)=2^31 from I,Nat.testBit_and,Nat.testBit_two_pow];by_cases e:31=i
    . grind
    rw[ao e,bF];split
    . rw[Nat.testBit_two_pow,ao e]
    grind
  grind
theorem shr31(ha:a<4294967296):(a:Int).fdiv (2^(min (Int.toNat 31) IntKind.u64.bits))=Va (decide (2147483648<=a)):=by
  show(a:Int).fdiv 2147483648=_;by_cases h:2147483648<=a
  . rw[ak h];show(a:Int).fdiv 2147483648=1;grind
  rw[ao h];show(a:Int).fdiv 2147483648=0;grind
section
variable{C l:List HI}{k:Nat}{R W:Li}{M:HM}{i:HI}
variable{j:Nat}{l':List HI}
theorem Uv.on{R' W':Li}(h:Uv C k (i::l) R W M)(hd:V0 i ⟨R,W,(k:Int)⟩=(0,⟨R',W',(j:Int)⟩))(hr:J R'=16)(hw:J W'=256)(hl:C.drop j=l'):Uv C j l' R' W' M:=by
  refine⟨hl,hr,hw,?_⟩;obtain⟨f,hf⟩:=h.ends;cases f with
  |zero=>cases hf
  |succ f=>
    grind [jU,h.SW]
theorem Uv.exit{imm:Int}(h:Uv C k (⟨19,0,0,0,imm⟩::l) R W M):imm=1/\M=⟨R,W,(k:Int)⟩:=by
  obtain⟨f,hf⟩:=h.ends;cases f with
  |zero=>cases hf
  |succ f=>
    unfold jU at hf;rw[h.SW]at hf;have e:V0 ⟨19,0,0,0,imm⟩ ⟨R,W,(k:Int)⟩=(1,⟨R,W,(k:Int)⟩):=rfl;rw[e]at hf;dsimp only at hf;rw[show((1:Int)==0)=false from I,show((1:Int)==1)=true from I,ac,ae]at hf;have h2:(((1:Int),(C.getD ((k:Int)).toNat HI.zero).imm),(⟨R,W,(k:Int)⟩:HM))=(((1:Int),(1:Int)),M):=hf;rw[aP,h.code.2.1]at h2
    grind
theorem kT.refl(e:List Nat)(R:Li):kT e R R:=λ_ _=>I
variable{ra:Nat}
theorem Uv.bnez(h:Uv C k (⟨17,0,(ra:Int),0,(j:Int)⟩::l) R W M)(hl:C.drop j=l'):R.getD ra 0=0/\Uv C (k+1) l R W M\/R.getD ra 0≠0/\Uv C j l' R W M:=by
  by_cases h0:R.getD ra 0=0
  . refine Or.inl ⟨h0,h.on ?_ h.rl h.wl h.code.2.2⟩
    show(0,(⟨R,W,bif(R.getD ((ra:Int)).toNat 0==0)==false then(j:Int)else(k:Int)+1⟩:HM))=_
    grind
  refine Or.inr ⟨h0,h.on ?_ h.rl h.wl hl⟩;show(0,(⟨R,W,bif(R.getD ((ra:Int)).toNat 0==0)==false then(j:Int)else(k:Int)+1⟩:HM))=_
  grind
theorem Uv.beqz(h:Uv C k (⟨16,0,(ra:Int),0,(j:Int)⟩::l) R W M)(hl:C.drop j=l'):R.getD ra 0≠0/\Uv C (k+1) l R W M\/R.getD ra 0=0/\Uv C j l' R W M:=by
  by_cases h0:R.getD ra 0=0
  . refine Or.inr ⟨h0,h.on ?_ h.rl h.wl hl⟩
    show(0,(⟨R,W,bif(R.getD ((ra:Int)).toNat 0==0)==true then(j:Int)else(k:Int)+1⟩:HM))=_
    grind
  refine Or.inl ⟨h0,h.on ?_ h.rl h.wl h.code.2.2⟩;show(0,(⟨R,W,bif(R.getD ((ra:Int)).toNat 0==0)==true then(j:Int)else(k:Int)+1⟩:HM))=_
  grind
end
def RT(r:Int):List HI:=[⟨1,12,0,0,4294967295⟩,⟨5,r,r,12,0⟩]
def vX(r up:Int):List HI:=[⟨1,12,0,0,up⟩,⟨8,r,r,12,0⟩,⟨6,10,10,r,0⟩]
def ip(rd r:Int):List HI:=[⟨1,12,0,0,31⟩,⟨9,rd,r,12,0⟩]
def gU:List HI:=⟨5,11,11,12,0⟩::(ip 11 11++vX 11 3)
def kN(a b:Int):List HI:=⟨12,11,9,a,0⟩::(vX 11 2++(⟨7,11,a,9,0⟩::⟨7,12,b,9,0⟩::gU))
def kM(a b:Int):List HI:=⟨12,11,a,b,0⟩::(vX 11 2++(⟨7,11,a,b,0⟩::⟨7,12,a,9,0⟩::gU))
section
theorem F1:∀(a b c d:Bool),bits .or .u64 (Va a) (V9 .u64 (Va b*2^(min (Int.toNat 1) IntKind.u64.bits)))=Va a+2*Va b/\bits .or .u64 (Va a+2*Va b) (V9 .u64 (Va c*2^(min (Int.toNat 2) IntKind.u64.bits)))=Va a+2*Va b+4*Va c/\
  bits .or .u64 (Va a+2*Va b+4*Va c) (V9 .u64 (Va d*2^(min (Int.toNat 3) IntKind.u64.bits)))=Va a+2*Va b+4*Va c+8*Va d:=by decide+kernel
end
def j9(pl:Pl)(n into:Int):List HI:=bif pl.inR n then[]else[⟨14,into,15,0,V9 .u32 (64+pl.s n)⟩]
def jh(pl:Pl)(n r:Int):List HI:=bif pl.inR n then[]else[⟨15,0,15,r,V9 .u32 (64+pl.s n)⟩]
def yr(pl:Pl)(base from_:Int):List Int->Nat->List HI
  |[],_=>[]
  |n::c,k=>j9 pl n 7++(⟨15,0,base,eJ pl n 7,V9 .u32 (from_+V9 .u32 k)⟩::yr pl base from_ c (k+1))
def iX(pl:Pl)(base from_ word:Int)(out:Li):List HI:=yr pl base from_ out 0++[⟨1,11,0,0,V9 .u32 (J out)⟩,⟨3,11,11,base,0⟩,⟨15,0,15,11,word⟩]
def p7(e base word SK S0:Int):List HI:=[⟨14,base,15,0,word⟩,⟨1,11,0,0,V9 .u32 SK⟩,⟨12,12,base,11,0⟩,⟨17,0,12,0,e⟩,⟨1,12,0,0,V9 .u32 S0⟩,⟨12,12,12,base,0⟩,⟨17,0,12,0,e⟩,⟨4,base,base,11,0⟩]
def Pl.has(pl:Pl)(n:Int):Prop:=(pl.inR n=true/\pl.r n<7)\/(pl.inR n=false/\0<=pl.s n/\pl.s n<128)
section
variable{l:List HI}{R W:Li}{pl:Pl}
variable{n:Int}{into:Nat}
theorem mE(h:pl.has n)(hi:into=7\/into=8\/into=9):∃r:Nat,eJ pl n into=r/\(r=into/\pl.inR n=false\/r<7/\pl.inR n=true/\(pl.r n).toNat=r):=by
  unfold eJ;rcases h with⟨h1,h2⟩|⟨h1,h2,h3⟩
  . grind [Pl.inR]
  grind
theorem zO(h:0<=pl.s n/\pl.s n<128)(h15:R.getD 15 0=0):V9 .u64 (R.getD 15 0+V9 .u32 (64+pl.s n))=((64+(pl.s n).toNat:Nat):Int):=by
  grind [IntKind.wrap_u32,IntKind.wrap_u64]
def VO(l:Li):Prop:=∀x,x∈l->0<=x/\x<=4294967295
theorem iI{l:Li}(h:VO l)(n:Nat):0<=l.getD n 0/\l.getD n 0<=4294967295:=by
  rw[aM];by_cases hn:n<J l
  . rw[aj hn];exact h _ (List.getElem_mem hn)
  grind
theorem m5{l:Li}(h:VO l)(n:Nat):∃x:Nat,l.getD n 0=(x:Int)/\x<4294967296:=by
  obtain⟨h1,h2⟩:=iI h n;exact⟨(l.getD n 0).toNat,by omega,by omega⟩
theorem Ry.mono{D Rr:Li}{SE SG:Int}{R' W':Li}(h:Ry D Rr SE SG R W)(hs:∀j,13<=j->R'.getD j 0=R.getD j 0)(hw:∀j,j<64->W'.getD j 0=W.getD j 0):Ry D Rr SE SG R' W':=
  ⟨by rw[hs 15 An,h.z],by rw[hs 14 An,h.bd],by rw[hs 13 An,h.br],λj hj=>by have:=h.d16;rw[hw _ O,h.d j hj],λj hj=>by have:=h.r16;rw[hw _ O,h.r j hj],h.d16,h.r16,h.nd,h.nr⟩
end
structure Nm(pl:Pl)(T:Li)(N:Nat):Prop where
 has:∀n:Nat,n<N->pl.has n
 reg:∀i j:Nat,i<j->j<N->pl.inR i=true->pl.inR j=true->pl.r i=pl.r j->T.getD i 0<=j
 slot:∀i j:Nat,i<j->j<N->pl.inR i=false->pl.inR j=false->pl.s i=pl.s j->T.getD i 0<=j
end Go.Ink
namespace Go.Ink
open List renaming length→J, replicate→R9
open IntKind renaming wrap→V9
open Go.RowKit
section
variable{C l:List HI}{k:Nat}{R W:Li}{M:HM}
theorem Uv.pos{pre:List HI}(h:Uv C k l R W M)(hl:l≠[])(hC:C=pre++l):k=J pre:=by
 grind [h.at_,List.length,List.length_drop,List.length_append,List.length_pos_iff]
theorem PO:∀f:Nat,f<16->(bits .and .u64 (f:Int) 1=bits .and .u32 (f:Int) 1/\bits .and .u64 (f:Int) 2=bits .and .u32 (f:Int) 2/\bits .and .u64 (f:Int) 4=bits .and .u32 (f:Int) 4/\bits .and .u64 (f:Int) 8=bits .and .u32 (f:Int) 8):=by decide+kernel
end
section
variable{pl:Pl}
theorem yL(n into:Int):J (j9 pl n into)<=1:=by grind [j9]
theorem Pq(n r:Int):J (jh pl n r)<=1:=by grind [jh]
theorem outL_le(base f:Int):∀(c:Li) (n:Nat),J (yr pl base f c n)<=2*J c
 :=by intro y1;induction y1<;>grind [yL,j9,yr]
end
theorem Up.refl(A:Li):Up A A:=⟨I,λ_=>Int.le_refl _⟩
variable{j:Nat}
def II.zero:II:=⟨0,0,0,0,0⟩
variable{code:List II}
theorem BI{k:Nat}(hk:k<J code):code[k]? =some (code.getD k II.zero):=by grind
def XR(code:List II):Prop:=∀x,x∈code->0<=x.imm/\x.imm<=4294967295
variable{c:List II}{x:II}
theorem wu(x:Int):u32 (V9 .u32 x):=by grind [u32,IntKind.wrap_u32]
def Sw(s s':St)(k:Nat):Prop:=s'=⟨s'.pc,s'.d,s'.r,s'.flags,s.Sy,s.SJ,s.ie,s.root,s.vec,s.epc,s.SB,s.addr,s.SO,s.eie,V9 .u64 (s.count+k),s.halted⟩
theorem Sw.trans{a b c:St}(h:Sw a b 1)(k:Sw b c j):Sw a c (j+1):=by
 grind [Sw,IntKind.wrap_u64]
end Go.Ink
namespace Go.Ink
open List renaming length→J, replicate→R9
open IntKind renaming wrap→V9
open Go.RowKit Go.Proofs.Tryz
def sB(n at_:Int):Bool:=decide (0<=n)&&decide (n<at_)
variable{n:Int}
theorem Ye{a b k:Nat}(ha:a<2^k)(hab:b*2^k+a<4294967296)(hk:k<=24):bits .or .u32 (a:Int) (V9 .u32 ((b:Int)*2^(min (k:Int).toNat IntKind.u32.bits)))=((b*2^k+a:Nat):Int):=by
 have e1:min (k:Int).toNat IntKind.u32.bits=k:=by rw[aP];show min k 32=k;omega
 rw[e1];have e2:V9 .u32 ((b:Int)*2^k)=((b*2^k:Nat):Int):=by
  rw[au];have:((b:Int)*2^k)=((b*2^k:Nat):Int):=by simp
  rw[this];omega
 rw[e2,or32 O O,Nat.or_comm,Nat.mul_comm b,<-Nat.two_pow_add_eq_or_of_lt ha]
theorem Py{m:Nat}(h:m<4294967296):bits .or .u32 (bits .or .u32 (bits .or .u32 ((m%256:Nat):Int) (V9 .u32 (((m/256%256:Nat):Int)*2^(min ((8:Nat):Int).toNat IntKind.u32.bits)))) (V9 .u32 (((m/65536%256:Nat):Int)*2^(min ((16:Nat):Int).toNat IntKind.u32.bits)))) (V9 .u32 (((m/16777216%256:Nat):Int)*2^(min ((24:Nat):Int).toNat IntKind.u32.bits)))=(m:Int):=by
 rw[Ye (k:=8) O O An,Ye (k:=16) O O An,Ye (k:=24) O O An];omega
section
variable{pl:Pl}{N:Nat}
theorem I6(x:Int):0<=V9 .u32 x/\V9 .u32 x<=4294967295:=by rw[au];omega
theorem vc{into:Int}(h:pl.has n)(hi:0<=into/\into<=15):0<=eJ pl n into/\eJ pl n into<=15:=by
 unfold eJ;rcases h with⟨h1,h2⟩|⟨h1,h2,h3⟩
 .grind [Pl.inR]
 grind
theorem DB(hp:∀k:Nat,k<N->pl.has k)(h:0<=n/\n<N):pl.has n:=by
 have:=hp n.toNat O
 grind
end
section
attribute [local irreducible] UL bM
abbrev ji(R:Li)(bw:Nat)(Ac:Oa)(n cc:Nat)(pc:Int):List Value:=ints .u64 R++[.slice (sA bw) 256 256,.slice Ac n cc,.i pc]
section
variable{R:Li}{bw n cc:Nat}{Ac:Oa}{pc:Int}
theorem RX(h:J R=16):J (ji R bw Ac n cc pc)=19:=by simp[ints,h]
theorem Yj(h:J R=16)(k:Nat):(ji R bw Ac n cc pc)[16+k]? =[Value.slice (sA bw) 256 256,.slice Ac n cc,.i pc][k]? :=by
 grind [ints,du]
theorem Nr(h:J R=16):(ji R bw Ac n cc pc)[16]? =some (.slice (sA bw) 256 256):=Yj h 0
theorem hm_c(h:J R=16):(ji R bw Ac n cc pc)[17]? =some (.slice Ac n cc):=Yj h 1
theorem Yi(h:J R=16):(ji R bw Ac n cc pc)[18]? =some (.i pc):=Yj h 2
theorem hm_r(h:J R=16){k:Nat}(hk:k<16):(ji R bw Ac n cc pc)[k]? =some (.int .u64 (R.getD k 0)):=by
 grind [ints,lh]
end
abbrev fQ(bm bw:Nat)(Ac:Oa)(n cc:Nat)(R:Li)(pc:Int):bH:=row bm (ji R bw Ac n cc pc) 375
abbrev VL(bw:Nat)(W:Li):bH:=sl .u32 32 (sA bw) 256 256 W
end
end Go.Ink
namespace Go.Ink
open List renaming length→J, replicate→R9
open IntKind renaming wrap→V9
open Go.RowKit Go.Proofs.Tryz
section
attribute [local irreducible] UL bM
structure Vw where
 s:St
 m:List Int
 o:List Int
 i:List Int
 k:List Int
 SU:Int
 mask:Int
 killed:Bool
def ISl.rd(x:ISl)(w:World):Prop:=Rd w .i64 x.A (J x.l) x.c x.l
end
section
open Go.MapKept
open Go.ChangeMaps (setBlock)
open Go.Maps (Keyed)
theorem kyV_inj{p q:Ky}(h:Vj p=Vj q):p=q:=by
 grind [Vj,Value.agg.injEq,Value.int.injEq]
structure rQ(P:Program)(k:TypeId):Prop where
 K:Keyed P k
 at_:∀q,lA q->∃l,keyOf P k (Vj q)=some l
theorem gf{w:World}{b:Nat}{o o':Obj}(hb:w.heap[b]? =some o):cX [b] w (setBlock w b o'):=
 ⟨rfl,rfl,rfl,by simp[setBlock],λi _ hi=>(heap_set hb).2 i Do⟩
end
section
attribute [local irreducible] UL bM
theorem hdo_one{i:HI}{m:HM}(h:(V0 i m).1=1):(V0 i m).2=m:=by
 grind [V0,qk]
theorem Hr{C:List HI}{m:HM}(h:(SW C m).1=1):(SW C m).2=m/\0<=m.pc/\m.pc<J C:=by
 grind [SW,hdo_one]
variable{l:List (Int×Int)}
structure Wo where
 key:Ky
 code:List HI
 count:Int
def vT{β:Type}(l:List Wo)(L:List (Ky×β)):List (Ky×β):=L.filter λx=>l.any λt=>t.key==x.1
def iC(M:Uy)(p:Nat):List Int:=((M.data.drop (p/64*64)).take 64).drop (p%64)
variable{α:Type}{key:α->Ky}{l:List α}{t:α}
variable{β:Type}
variable{L:List (Ky×β)}
theorem AQ{l:List Wo}{t:Wo}{r:β}(ht:t∈l)(h:(t.key,r)∈L):(t.key,r)∈vT l L:=List.mem_filter.2 ⟨h,List.any_eq_true.2 ⟨t,ht,by simp⟩⟩
end
end Go.Ink
namespace Go.Ink
open List renaming length→J, replicate→R9
open IntKind renaming wrap→V9
open Go.RowKit Go.Proofs.Tryz
section
open Go.MapKept
open Go.ChangeMaps (setBlock)
section
variable{C:Cx}{Q:kW}{fr:Fr}{cs:List bH}{c:bH}{cin cin' rest:List bH}
variable{w0 w:World}{S:List Nat}
theorem Inv.TL(h:Inv w0 S (cR cin::rest) w)(hp:cin.Perm (c::cin')):Inv w0 S (c::cR cin'::rest) w:=by
 obtain⟨_,_,h1⟩:=h.TA;have h2:Inv w0 S (cin'++(c::rest)) w:=h1.perm ((hp.append_right rest).trans List.perm_middle.symm);exact(Inv.Tf (F:=λ_:Unit=>cin') (hb:=λ_=>I) (p:=λ_=>True) () trivial h2).perm (List.Perm.swap ..)
theorem Inv.Ud(h:Inv w0 S (c::cR cin::rest) w)(hp:cin'.Perm (c::cin)):Inv w0 S (cR cin'::rest) w:=by
 obtain⟨_,_,h1⟩:=(h.perm (List.Perm.swap ..)).TA;have h2:Inv w0 S (cin'++rest) w:=h1.perm (List.perm_middle.trans ((hp.append_right rest).symm));exact Inv.Tf (F:=λ_:Unit=>cin') (hb:=λ_=>I) (p:=λ_=>True) () trivial h2
variable{ops:Array Oper}{l:List Oper}
theorem Ch(hd:V5 cs (cR cin) rest)(hp:cin.Perm (c::cin'))(h:WL C ops Q l fr (c::cR cin'::rest)):WL C ops Q l fr cs:=λa w hf hi=>h a w hf ((hi.perm hd.perm).TL hp)
end
end
variable{α:Type}{l:List α}{x:α}
variable{j:Nat}
structure BA where
 b:Wo
 A:Option Addr
 c:Nat
abbrev BA.key(x:BA):Ky:=x.b.key
variable{a:Int}
structure VY where
 ml:Nat
 Ac:Option Addr
 cc:Nat
 fl:Int
 LK:List (Ky×LS)
 Z:List BA
def ο(Z:List BA):Prop:=J Z<=1000000/\∀x,x∈Z->J x.b.code<=100000/\lA x.b.key
variable{k:Ky}
theorem rA{key:α->Ky}(h:cK key k l=some j):∃x,l[j]? =some x/\key x=k/\l.find? (λx=>key x==k)=some x:=by
 grind [fj,cK,List.getElem?_eq_getElem,List.findIdx?_eq_some_iff_getElem,List.find?_eq_some_iff_getElem]
section
variable{C:Cx}{Q:kW}{fr:Fr}{cs:List bH}{c:bH}{cin cin' rest:List bH}{e:Exit}
theorem Az(hd:V5 cs (cR cin) rest)(hp:cin.Perm (c::cin'))(h:Vh C Q e fr (c::cR cin'::rest)):Vh C Q e fr cs:=λa w hf hi=>h a w hf ((hi.perm hd.perm).TL hp)
theorem AZ(w:World):Inv w [] [cR []] w:=⟨cX.refl _ _,by simp[bK,cR,VD,bH.bs],λc hc=>by
 rw[aQ]at hc;subst hc;exact⟨(),trivial,by simp[bK],λc hc=>by cases hc⟩,λb hb=>by grind [bK,VD,bH.bs]⟩
theorem lV(h:Vh C Q e fr (cs++[cR []])):Vh C Q e fr cs:=λa w hf hi=>h a w hf (hi.more (AZ w))
theorem pM{ops:Array Oper}{l:List Oper}(h:WL C ops Q l fr (cs++[cR []])):WL C ops Q l fr cs:=λa w hf hi=>h a w hf (hi.more (AZ w))
end
section
attribute [local irreducible] UL bM
abbrev XI(x:LS):bH:=slv 173 2 x.A (J x.ks) x.c (x.ks.flatMap cy)
abbrev Xg(b:Nat)(k:Ky):bH:=row b (cy k) 173
abbrev Wy(bc:Nat)(r0 r1 r2 r3:Value):bH:=row bc [r0,r1,r2,r3] 249
end
end Go.Ink
namespace Go.Ink
open List renaming length→J
open IntKind renaming wrap→V9
open Go.RowKit Go.Proofs.Tryz
section
variable{C:Cx}{Q:kW}{fr:Fr}{cs cs' cin rest:List bH}{St:Dr}{ops:Array Oper}{fuel i:Nat}{listed:Array Bool}
theorem wa_inv(hc:∀w,Inv C.w0 C.S cs w->Inv C.w0 C.S cs' w)(h:WA C St ops Q fuel listed fr cs'):WA C St ops Q fuel listed fr cs:=λa w hf hi=>h a w hf (hc w hi)
theorem wi_inv(hc:∀w,Inv C.w0 C.S cs w->Inv C.w0 C.S cs' w)(h:WI C St ops Q fuel listed i fr cs'):WI C St ops Q fuel listed i fr cs:=λa w hf hi=>h a w hf (hc w hi)
variable{w0 w:World}{S:List Nat}
theorem Inv.Tl(h:Inv w0 S (cR cin::rest) w):Inv w0 S (cin++rest) w:=by
 grind [h.TA]
theorem Inv.Ue(h:Inv w0 S cs w)(hs:ga cin cs rest):Inv w0 S (cR cin::rest) w:=
 Inv.Tf (F:=λ_:Unit=>cin) (hb:=λ_=>I) (p:=λ_=>True) () trivial (h.perm hs.perm)
end
section
attribute [local irreducible] UL bM
abbrev eQ(SC:Li)(x:BA):Bool:=SC.contains (x.b.key.2/64)
end
variable{w0 w:World}
theorem j8(pl:Pl)(n into:Int):J (j9 pl n into)<=1:=by grind [j9]
theorem K7(pl:Pl)(n r:Int):J (jh pl n r)<=1:=by grind [jh]
section
attribute [local irreducible] UL bM
theorem wc_inv{C:Cx}{Q:kW}{fr:Fr}{cs cs':List bH}{x:Code}(hc:∀w,Inv C.w0 C.S cs w->Inv C.w0 C.S cs' w)(h:WC C x Q fr cs'):WC C x Q fr cs:=λa w hf hi=>h a w hf (hc w hi)
end
end Go.Ink
namespace Go.Ink
open List renaming length→J, replicate→R9
open IntKind renaming wrap→V9
open Go.RowKit Go.Proofs.Tryz
set_option maxHeartbeats 1000000
section
attribute [local irreducible] UL bM
variable{k:Nat}
theorem Qt(Z:List BA)(k:Ky):(Z.any λt=>t.key==k)=(Z.find? λt=>t.key==k).isSome:=by
 grind
end
end Go.Ink
namespace Go.Ink
open List renaming length→J, replicate→R9
open IntKind renaming wrap→V9
open Go.RowKit Go.Proofs.Tryz
theorem EY(pl:Pl)(base f:Int):∀(c:Li) (k:Nat),J (yr pl base f c k)<=2*J c
 :=by intro y1;induction y1<;>grind [j8,j9,yr]
section
attribute [local irreducible] UL bM
theorem oa(pl:Pl)(b f w:Int)(o:Li):J (iX pl b f w o)<=2*J o+3:=by
 simp[EY,iX]
variable{n c:Nat}
abbrev lvC(A:Oa)(c:Nat)(T:Li):bH:=slv 415 3 A (J T) c (fO 0 T)
abbrev lvF(b:Nat)(A:Oa)(c:Nat)(T:Li):List bH:=[row b [.slice A (J T) c] 410,lvC A c T]
theorem Oj(n:Nat):GI n n=ints .i64 (R9 n (-1)):=by unfold GI;simp[ints]
abbrev scR(b:Nat)(X:SAd)(N:Nat)(Ta:Int):bH:=row b [.slice X.Ar N X.cr,.slice X.As N X.cs,.i Ta,.slice X.Av N X.cv] 413
structure SBk where
 br:Nat
 cr:Nat
 bs:Nat
 cs:Nat
 bv:Nat
 cv:Nat
end
end Go.Ink
namespace Go.Ink
open List renaming length→J, replicate→R9
open IntKind renaming wrap→V9
open Go.RowKit Go.Proofs.Tryz
section
attribute [local irreducible] UL bM
abbrev plF(b:Nat)(A:Oa)(c N:Nat)(pl:Li):List bH:=[row b [.slice A N c] 23,sl .i64 3 A N c pl]
variable{l:List (Int×Int)}
section
variable{C:Cx}{Q:kW}{fr:Fr}{cs cs':List bH}{ops:Array Oper}{l:List Oper}
theorem RA(hc:∀w,Inv C.w0 C.S cs w->Inv C.w0 C.S cs' w)(h:WL C ops Q l fr cs'):WL C ops Q l fr cs:=λa w hf hi=>h a w hf (hc w hi)
end
abbrev pgC(Ap:Oa)(cp:Nat)(SC:Li):bH:=sl .i64 3 Ap (J SC) cp SC
end
end Go.Ink
namespace Go.Ink
open List renaming length→J, replicate→R9
open IntKind renaming wrap→V9
open Go.RowKit Go.Proofs.Tryz
variable{n:Nat}
section
attribute [local irreducible] UL bM
abbrev Xh(A:Oa)(c:Nat)(l:Li)(B:Oa)(e:Nat)(k:Li)(n:Nat):Value:= .agg #[.slice A (J l) c,.slice B (J k) e,.i (n:Int)]
end
end Go.Ink
namespace Go.Ink
open List renaming length→J, replicate→R9
open IntKind renaming wrap→V9
open Go.RowKit Go.Proofs.Tryz
structure nS(L:ez)(k:Cb):Prop where
 pl:dz k.B k.ow k.pr
 fr:J k.fr=L.n
 gd:J k.gd=L.n
 SR:∀p,p<L.n->k.fr[p]? =some (-1)\/∃f:Nat,k.fr[p]? =some (f:Int)/\16<=f/\f<256/\k.ow[f]? =some (L.o:Int)
 inj:∀p q f:Nat,k.fr[p]? =some (f:Int)->k.fr[q]? =some (f:Int)->p=q
 held:∀f:Nat,f<256->(L.oth f=false/\k.ow[f]? =some (-1))\/(L.oth f=false/\k.ow[f]? =some (L.o:Int)/\∃p:Nat,k.fr[p]? =some (f:Int))\/(L.oth f=true/\k.ow[f]? =L.gw[f]? /\∀j,j<64->k.B[f*64+j]? =L.gB[f*64+j]?)
 prs:k.pr=L.gp
variable{ow:Li}
structure ls(L:ez)(k0 k:Cb)(j:Nat):Prop where
 rep:nS L k
 fr:∀p:Nat,k.fr[p]? =if p∈(B6 k0.fr L.n).take j then some (-1)else k0.fr[p]?
variable{k:Cb}
def PM(ow:Li)(k:Nat):Nat:=J ((List.range' 16 (k - 16)).filter (λf=>ow[f]? ==some (-1)))
end Go.Ink
namespace Go.Ink
open List renaming length→J, replicate→R9
open IntKind renaming wrap→V9
open Go.RowKit Go.Proofs.Tryz
theorem m6{a b:Li}(h:UO a)(h2:UO b):UO (a++b):=λx hx=>(aK.1 hx).elim (h x) (h2 x)
section
attribute [local irreducible] UL bM
section
variable{d:Un}
theorem Jl(h:Vm d)(c:Int):Vm (d.tick c):=by
 unfold Un.tick;exact bJ Vm h ⟨h.i64⟩
end
variable{d:Un}
theorem free0:PM (R9 256 (-1)) 256=240:=by decide+kernel
def Un.said(d:Un):Prop:=UO d.out
section
variable{d:Un}
theorem zF(h:d.said)(c:Int):(d.tick c).said:=by
 unfold Un.tick;exact bJ Un.said h h
end
end
end Go.Ink
namespace Go.Ink
open List renaming length→J, replicate→R9
open IntKind renaming wrap→V9
open Go.RowKit Go.Proofs.Tryz
variable{i:Nat}{b:Bool}
theorem PI{l:List Bool}{j:Nat}(h:j≠i):(l.set i b).getD j false=l.getD j false:=by
 rw[aM,aM,List.getElem?_set_ne (Ne.symm h)]
variable{n:Nat}
theorem Jq{l:List Bool}:(l.set i b).take n=(l.take n).set i b:=List.take_set ..
theorem Kn{x y:Int}(s:Nat)(hs:s<=24)(hx:0<=x/\x<2^s)(hy:0<=y/\y<=255):bits .or .u32 x (V9 .u32 (y*2^s))=x+y*2^s:=by
 have h1:(2:Int)^s<=2^24:=by exact_mod_cast Nat.pow_le_pow_right An hs
 have h2:(0:Int)<2^s:=Int.pow_pos An;have h3:0<=y*2^s:=Int.mul_nonneg hy.1 (Int.le_of_lt h2);have h4:y*2^s<=255*2^s:=Int.mul_le_mul_of_nonneg_right hy.2 (Int.le_of_lt h2);have h5:(2:Int)^24=16777216:=by decide
 rw[u32_wrap_id _ h3 O];obtain⟨a,rfl⟩:∃a:Nat,x=a:=ai hx.1;obtain⟨b,rfl⟩:∃b:Nat,y=b:=ai hy.1;have h6:((b:Int)*2^s)=((b*2^s:Nat):Int):=by push_cast;rfl
 have h7:((2:Int)^s)=((2^s:Nat):Int):=by push_cast;rfl
 have h8:a<2^s:=by have:=hx.2;rw[h7]at this;omega
 rw[h6]at h4 h3|-;rw[h7]at h1 h4;show V9 .u32 (((BitVec.ofInt 32 (a:Int))|||(BitVec.ofInt 32 ((b*2^s:Nat):Int))).toNat:Int)=_;have e1:(BitVec.ofInt 32 (a:Int)).toNat=a:=by rw[BitVec.ofInt_natCast,BitVec.toNat_ofNat];exact BS
 have e2:(BitVec.ofInt 32 ((b*2^s:Nat):Int)).toNat=b*2^s:=by rw[BitVec.ofInt_natCast,BitVec.toNat_ofNat];exact BS
 rw[BitVec.toNat_or,e1,e2,Nat.or_comm,Nat.mul_comm b,<-Nat.two_pow_add_eq_or_of_lt h8,u32_wrap_id _ O (by rw[Nat.mul_comm];omega)]
 push_cast
 rw[Int.mul_comm,Int.add_comm]
theorem ω{b0 b1 b2 b3:Int}(h0:0<=b0/\b0<=255)(h1:0<=b1/\b1<=255)(h2:0<=b2/\b2<=255)(h3:0<=b3/\b3<=255):
  bits .or .u32 (bits .or .u32 (bits .or .u32 b0 (V9 .u32 (b1*2^8))) (V9 .u32 (b2*2^16))) (V9 .u32 (b3*2^24))=b0+256*b1+65536*b2+16777216*b3:=by
 rw[Kn 8 An ⟨h0.1,by have:=h0.2;omega⟩ h1];rw[Kn 16 An ⟨by omega,by omega⟩ h2];rw[Kn 24 An ⟨by omega,by omega⟩ h3];omega
theorem Int.Tq{l:Int}(h:u32 l)(c:Nat)(hc:c<256):bits .or .u32 l (c:Int)/256=l/256:=by
 obtain⟨a,rfl⟩:∃a:Nat,l=a:=ai h.1;have hl:(a:Int)<=4294967295:=h.2;show V9 .u32 (((BitVec.ofInt 32 (a:Int))|||(BitVec.ofInt 32 (c:Int))).toNat:Int)/256=_;have e1:(BitVec.ofInt 32 (a:Int)).toNat=a:=by rw[BitVec.ofInt_natCast,BitVec.toNat_ofNat];exact BS
 have e2:(BitVec.ofInt 32 (c:Int)).toNat=c:=by rw[BitVec.ofInt_natCast,BitVec.toNat_ofNat];exact BS
 have e3:a|||c<2^32:=Nat.or_lt_two_pow O O
 rw[BitVec.toNat_or,e1,e2,u32_wrap_id _ O O];have e4:(a|||c)/2^8=a/2^8:=by
  rw[Nat.or_div_two_pow,Nat.div_eq_of_lt (show c<2^8 from hc),Nat.or_zero]
 omega
section
attribute [local irreducible] UL bM
abbrev zY(K:gb)(n:Nat):bH:=row K.bm [.slice (sA K.bB) (n*64) (n*64),.slice (sA K.bT) n n] 89
abbrev rmB(K:gb)(n:Nat)(M:Uy):bH:=sl .u8 5 (sA K.bB) (n*64) (n*64) M.data
variable{d:Li}
def rW(SV d:Li)(s a i:Nat):List Int:=SV.take s++(d.drop a).take i++SV.drop (s+i)
theorem Cu(SV d:Li)(s a:Nat):rW SV d s a 0=SV:=by simp[rW]
theorem Cv{SV:Li}{s a:Nat}(h1:s+i<J SV)(h2:a+i<J d):(rW SV d s a i).set (s+i) (gB d (a+i))=rW SV d s a (i+1):=by
 unfold rW;have hl:J (SV.take s++(d.drop a).take i)=s+i:=by simp;omega
 have e1:SV.drop (s+i)=SV[s+i]'h1::SV.drop (s+i+1):=List.drop_eq_getElem_cons h1;have e2:(d.drop a).take (i+1)=(d.drop a).take i++[gB d (a+i)]:=by
  rw[List.take_succ_eq_append_getElem (by rw[List.length_drop];omega),List.getElem_drop];unfold gB;rw[aM,aj h2]
  rfl
 rw[List.set_append_right _ _ O,hl,Nat.sub_self,e1,List.set_cons_zero,e2,<-aq,aq (SV.take s++(d.drop a).take i),Nat.add_assoc]
 rfl
theorem gB_drop{l:Li}{s:Nat}(h:i<64):gB ((l.drop s).take 64) i=gB l (s+i):=by
 unfold gB;rw[aM,aM,List.getElem?_take,if_pos h,List.getElem?_drop]
abbrev refBRow(b bm bd:Nat)(Y:fv)(d:Un):bH:=row b [.p bm,.w d.SU,.w d.mask,.w d.timer,.slice Y.Ao (J d.out) Y.co,.slice Y.Ai (J d.inp) Y.ci,.slice (sA bd) 1024 1024,.w (d.SA:Int),.w (d.place:Int),.w d.status] 103
end
end Go.Ink
namespace Go.Ink
open List renaming length→J
open IntKind renaming wrap→V9
open Go.RowKit Go.Proofs.Tryz
variable{x:Value}
section
attribute [local irreducible] UL bM
theorem lQ(l:Li)(x y:Int):((l++[x])++[y])[J l+1]? =some y:=by
 have h:=gD (l++[x]) y;rw[ar]at h;exact h
end
end Go.Ink
namespace Go.Ink
open List renaming length→J
open IntKind renaming wrap→V9
open Go.RowKit Go.Proofs.Tryz
section
attribute [local irreducible] UL bM
theorem K6{S S':List Nat}{w w':World}(h:cX S w w')(hs:∀b,b∈S->b∈S'):cX S' w w':=
 ⟨h.os,h.tape,h.output,h.size,λb hb hn=>h.block b hb λhm=>hn (hs b hm)⟩
end
end Go.Ink
namespace Go.Ink
open List renaming length→J
open IntKind renaming wrap→V9
open Go.RowKit Go.Proofs.Tryz
theorem nv:UO []:=λx hx=>(by cases hx)
end Go.Ink
namespace Go.Ink
open List renaming length→J, replicate→R9
open IntKind renaming wrap→V9
open Go.RowKit Go.Proofs.Tryz
section
attribute [local irreducible] UL bM
variable{n:Nat}
structure EvR where
 kd:Int
 n:Int
 B:Option Addr
 cb:Nat
 bs:List Int
end
end Go.Ink
