/- Lemmas. -/
import Derived.Test.YtgpahfcaecojgaaGreatDoorPan
set_option linter.all false
set_option maxRecDepth 100000
set_option maxHeartbeats 4000000
namespace Go.Ink
open Go.RowKit Go.Proofs.Tryz
theorem or_up{a b k:Nat}(ha:a<2^k)(hab:b*2^k+a<4294967296)(hk:k<=24):bits .or .u32 (a:Int) (IntKind.u32.wrap ((b:Int)*2^(min (k:Int).toNat IntKind.u32.bits)))=((b*2^k+a:Nat):Int):=by
 have e1:min (k:Int).toNat IntKind.u32.bits=k:=by rw[aN];show min k 32=k;omega
 rw[e1];have e2:IntKind.u32.wrap ((b:Int)*2^k)=((b*2^k:Nat):Int):=by
  rw[aG];have:((b:Int)*2^k)=((b*2^k:Nat):Int):=by simp
  rw[this];omega
 rw[e2,or32 Wq1 Wq1,Nat.or_comm,Nat.mul_comm b,<-Nat.two_pow_add_eq_or_of_lt ha]
theorem SZ{m:Nat}(h:m<4294967296):bits .or .u32 (bits .or .u32 (bits .or .u32 ((m%256:Nat):Int) (IntKind.u32.wrap (((m/256%256:Nat):Int)*2^(min ((8:Nat):Int).toNat IntKind.u32.bits)))) (IntKind.u32.wrap (((m/65536%256:Nat):Int)*2^(min ((16:Nat):Int).toNat IntKind.u32.bits)))) (IntKind.u32.wrap (((m/16777216%256:Nat):Int)*2^(min ((24:Nat):Int).toNat IntKind.u32.bits)))=(m:Int):=by
 rw[or_up (k:=8) Wq1 Wq1 bX,or_up (k:=16) Wq1 Wq1 bX,or_up (k:=24) Wq1 Wq1 bX];omega
theorem z15:(0:Int)<=0/\(0:Int)<=15:=by decide
theorem z32:(0:Int)<=0/\(0:Int)<=4294967295:=by decide
variable{rd v:Int}
theorem kI(h:0<=rd/\rd<=15)(hv:0<=v/\v<=4294967295):HI.WO ⟨1,rd,0,0,v⟩:=⟨rfl,h,z15,z15,hv⟩
variable{ra:Int}
theorem IB(h:0<=rd/\rd<=15)(h2:0<=ra/\ra<=15):HI.WO ⟨2,rd,ra,0,0⟩:=⟨rfl,h,h2,z15,z32⟩
theorem fM{op rb:Int}(ho:3<=op/\op<=13)(h:0<=rd/\rd<=15)(h2:0<=ra/\ra<=15)(h3:0<=rb/\rb<=15):HI.WO ⟨op,rd,ra,rb,0⟩:=by
 refine⟨?_,h,h2,h3,z32⟩
 grind [zj]
theorem Bv(h:0<=rd/\rd<=15)(h2:0<=ra/\ra<=15)(hv:0<=v/\v<=4294967295):HI.WO ⟨14,rd,ra,0,v⟩:=⟨rfl,h,h2,z15,hv⟩
theorem wF{rb:Int}(h:0<=ra/\ra<=15)(h2:0<=rb/\rb<=15)(hv:0<=v/\v<=4294967295):HI.WO ⟨15,0,ra,rb,v⟩:=⟨rfl,z15,h,h2,hv⟩
theorem Gb{op:Int}(ho:op=16\/op=17)(h:0<=ra/\ra<=15)(hv:0<=v/\v<=4294967295):HI.WO ⟨op,0,ra,0,v⟩:=by
 rcases ho with rfl|rfl<;>exact⟨rfl,z15,h,z15,hv⟩
theorem DQ(hv:0<=v/\v<=4294967295):HI.WO ⟨19,0,0,0,v⟩:=⟨rfl,z15,z15,z15,hv⟩
def fZ(l:List HI):Prop:=∀i,i∈l->i.WO
theorem dP:fZ []:=λ_ h=>by cases h
variable{i:HI}{l:List HI}
theorem cq(h:i.WO)(k:fZ l):fZ (i::l):=λj hj=>by
 rcases aJ.1 hj with rfl|hj
 .exact h
 exact k j hj
theorem dZ{a b:List HI}(h:fZ a)(k:fZ b):fZ (a++b):=λj hj=>by
 rcases az.1 hj with hj|hj
 .exact h j hj
 exact k j hj
theorem S8(op:Int):3<=tp op/\tp op<=13:=by
 grind [tp]
section
variable {pl:Pl} {N:Nat}
theorem Ml(x:Int):0<=IntKind.u32.wrap x/\IntKind.u32.wrap x<=4294967295:=by rw[aG];omega
variable{r:Int}
theorem O1(h:0<=r/\r<=15):fZ (VE r):=cq (kI bX bX) (cq (fM bX h h bX) dP)
theorem DP{op a b:Int}(h:0<=rd/\rd<=15)(ha:0<=a/\a<=15)(hb:0<=b/\b<=15):fZ (zI op rd a b):=by
 grind [zI,cq,fM,S8,Ba,dP,O1]
theorem qO{up:Int}(h:0<=r/\r<=15)(hu:0<=up/\up<=4294967295):fZ (yi r up):=cq (kI bX hu) (cq (fM bX h h bX) (cq (fM bX bX bX h) dP))
theorem tq(h:0<=rd/\rd<=15)(h2:0<=r/\r<=15):fZ (iq rd r):=cq (kI bX bX) (cq (fM bX h h2 bX) dP)
theorem qN:fZ gV:=cq (fM bX bX bX bX) (dZ (tq bX bX) (qO bX bX))
theorem KN{op a b:Int}(ha:0<=a/\a<=15)(hb:0<=b/\b<=15):fZ (mI op a b):=by
 unfold mI;refine dZ (dZ (DP bX ha hb) (cq (fM bX bX bX bX) (dZ (tq bX bX) (qO bX bX)))) ?_;cases op==16 with
 |true=>exact cq (fM bX bX bX ha) (dZ (qO bX bX) (cq (fM bX bX ha bX) (cq (fM bX bX hb bX) qN)))
 |false=>
  cases op==17||op==25 with
  |true=>exact cq (fM bX bX ha hb) (dZ (qO bX bX) (cq (fM bX bX ha hb) (cq (fM bX bX ha bX) qN)))
  |false=>exact dP
variable{n into:Int}
theorem wH(h:pl.has n)(hi:0<=into/\into<=15):0<=eG pl n into/\eG pl n into<=15:=by
 unfold eG;rcases h with⟨h1,h2⟩|⟨h1,h2,h3⟩
 .grind [Pl.inR]
 grind
theorem qM(hi:0<=into/\into<=15):fZ (kf pl n into):=by
 grind [kf,dP,cq,Bv,Ml]
theorem KM(hr:0<=r/\r<=15):fZ (jd pl n r):=by
 grind [jd,dP,cq,wF,Ml]
theorem O0{nd nr:Int}{n:Nat}{x:II}(hp:∀k:Nat,k<N->pl.has k)(hn:n<N)(hx:x.ok nd nr n):fZ (r8 nd nr pl n x):=by
 have hN:=hp n hn;have h9:=wH (into:=9) hN bX;have hab:x.op=3\/x.op=4->(0<=eG pl x.a 7/\eG pl x.a 7<=15)/\(0<=eG pl x.b 8/\eG pl x.b 8<=15):=λho=>by
  obtain⟨⟨a1,a2⟩,b1,b2⟩:=hx.ab ho;have ea:((x.a.toNat:Nat):Int)=x.a:=by omega
  have eb:((x.b.toNat:Nat):Int)=x.b:=by omega
  have ha:=hp x.a.toNat Wq1;have hb:=hp x.b.toNat Wq1
  simp_all [wH]
 grind [r8,dZ,KM,hx.op,hx.imm,cq,kI,dP,Bv,Ml,qM,DP,KN,IB]
theorem zm{nd nr:Int}(hp:∀k:Nat,k<N->pl.has k):∀(c:List II) (n:Nat),n+c.length<=N->(∀(i:Nat) (x:II),c[i]? =some x->x.ok nd nr (n+i))->fZ (ka nd nr pl c n)
 |[],_,_,_=>dP
 |x::c,n,hn,h=>by
  simp only[aO]at hn;refine dZ (O0 hp Wq1 (by have:=h 0 x rfl;omega)) (zm hp c (n+1) Wq1 (λi y hy=>?_));have:=h (i+1) y bY
  grind
theorem Ga(hp:∀k:Nat,k<N->pl.has k)(h:0<=n/\n<N):pl.has n:=by
 have:=hp n.toNat Wq1
 grind
theorem DO{base f:Int}(hp:∀k:Nat,k<N->pl.has k)(hb:0<=base/\base<=15):∀(c:Li) (k:Nat),(∀n,n∈c->0<=n/\n<N)->fZ (AY pl base f c k)
 |[],_,_=>dP
 |n::c,k,h=>dZ (qM bX) (cq (wF hb (wH (Ga hp (h n cP)) bX) (Ml _)) (DO hp hb c (k+1) (λm hm=>h m (List.mem_cons_of_mem _ hm))))
theorem wE{base f word:Int}{out:Li}(hp:∀k:Nat,k<N->pl.has k)(hb:0<=base/\base<=15)(hw:0<=word/\word<=15)(h:∀n,n∈out->0<=n/\n<N):fZ (iZ pl base f word out):=
 dZ (DO hp hb out 0 h) (cq (kI bX (Ml _)) (cq (fM bX bX bX hb) (cq (wF bX bX Wq1) dP)))
theorem sc{e base word Wi Wz:Int}(he:0<=e/\e<=4294967295)(hb:0<=base/\base<=15)(hw:0<=word/\word<=15):fZ (qq e base word Wi Wz):=
 cq (Bv hb bX Wq1) (cq (kI bX (Ml _)) (cq (fM bX bX hb bX) (cq (Gb (Or.inr rfl) bX he) (cq (kI bX (Ml _)) (cq (fM bX bX bX hb) (cq (Gb (Or.inr rfl) bX he) (cq (fM bX hb hb bX) dP)))))))
theorem F1(op:Int):0<=gU op/\gU op<=4294967295:=by
 grind [gU]
theorem KO{p:Pg}{T:Li}(ok:PgOk p T)(hN:N=p.code.length)(hp:∀k:Nat,k<N->pl.has k):fZ (gl p pl):=by
 subst hN;have hfl:=ok.flags;have htg:=ok.target;have h15:HI.WO ⟨1,15,0,0,0⟩:=kI bX bX;refine dZ ?_ (cq (DQ bX) dP);unfold fG;obtain⟨e,he⟩:=Zgn (IntKind.u32.wrap ((fG p pl 0).length:Nat));have hee:=Ml ((fG p pl 0).length:Nat);unfold fG at he hee;rw[he]at hee|-;cases p.Xf with
 |false=>exact cq h15 dP
 |true=>
  cases p.Xi with
  |false=>grind [cq,sc]
  |true=>
   have hflags:fZ (gM p pl):=by
    unfold gM;by_cases h0:0<=p.flags
    .grind [cq,kI,dZ,qM,fM,wH,Ga,wF,dP]
    grind [dP]
   have htarget:fZ (jJ p pl):=by
    unfold jJ;by_cases h0:0<=p.target
    .grind [dZ,qM,cq,IB,wH,Ga,dP]
    grind [dP]
   have hbranch:∀q,fZ (iz p q):=λq=>by
    grind [iz,dP,cq,Bv,kI,F1,fM,Gb,jN,Ml,ok.taken]
   show fZ (wD p e++(iY p pl++uN p pl (17+(iY p pl).length)));refine dZ (cq h15 (dZ (sc hee bX bX) (sc hee bX bX))) (dZ (dZ (zm hp p.code 0 Wq1 (λi x hx=>by rw[Nat.zero_add];exact ok.code i x hx)) (dZ (wE hp bX bX (λn hn=>⟨(ok.Wo n hn).1,(ok.Wo n hn).2.1⟩)) (wE hp bX bX (λn hn=>⟨(ok.Wp n hn).1,(ok.Wp n hn).2.1⟩)))) ?_)
   grind [uN,dZ,cq,kI,ok.next,wF,Ml,DQ,dP]
end
section
attribute [local irreducible] OpY bN
theorem hi_eq(i:HI):EqV prog 10000 347 (hiv i) (hiv i):=
 .struct rfl Zk (EqF.cons bX Zrf Zrf (.int rfl) (EqF.cons bX Zrf Zrf (.int rfl) (EqF.cons bX Zrf Zrf (.int rfl) (EqF.cons bX Zrf Zrf (.int rfl) (EqF.cons bX Zrf Zrf (.int rfl) EqF.nil)))))
theorem Te:prog.eqGuardType prog.depth 347=false:=by kernel_rfl
theorem T5(i:HI)(w:World):CW prog 301 [hiv i] w (.tuple #[hiv (zj i).1,.bool (zj i).2]):=by
 refine Zfs func301 ntmps301 ?_;refine Z_2 ?_;refine ZO λb1=>?_;refine ZN λb2=>?_
 refine Z_8 ?_;refine ZN λb4=>?_
 refine ZM ?_;refine fb ?_;refine ZW ?_ ?_<;>intro hc3
 .refine Z_6 ?_;refine Ui ?_;refine⟨?_,rfl⟩;exact BY
  try exact rfl
 refine Zw8 ?_ ?_<;>intro hc4
 .refine Wq309 ?_;refine ui ?_;refine ZFe 2 4 ?_;refine Lx ?_;refine ZFe 4 1 ?_;refine kQ ?_;refine GF ?_;rintro _ _ ⟨rfl,rfl⟩;refine ZFe 6 4 ?_;refine ic ?_;refine GF ?_;rintro _ _ ⟨rfl,rfl⟩;refine xx ?_;refine Ui ?_;refine⟨?_,rfl⟩;exact BY
  try exact rfl
 refine Zw8 ?_ ?_<;>intro hc6
 .refine Wq309 ?_;refine ui ?_;refine ZFe 2 2 ?_;refine Lx ?_;refine ZFe 4 1 ?_;refine kQ ?_;refine GF ?_;rintro _ _ ⟨rfl,rfl⟩;refine ZFe 6 2 ?_;refine ic ?_;refine GF ?_;rintro _ _ ⟨rfl,rfl⟩;refine xx ?_;refine Ui ?_;refine⟨?_,rfl⟩;exact BY
  try exact rfl
 refine yk ?_ ?_<;>intro hc8
 .refine Wq300 ?_;refine ui ?_;refine ZFe 2 2 ?_;refine Lx ?_;refine ZFe 4 3 ?_;refine Wq422 ?_;refine ZFe 6 1 ?_;refine ic ?_;refine GF ?_;rintro _ _ ⟨rfl,rfl⟩;refine ZFe 8 2 ?_;refine kR ?_;refine GF ?_;rintro _ _ ⟨rfl,rfl⟩;refine ZFe 10 3 ?_;refine cW 11 Zk (GF ?_);rintro _ _ ⟨rfl,rfl⟩;refine xx ?_;refine Ui ?_;refine⟨?_,rfl⟩;exact BY
  try exact rfl
 refine Zw8 ?_ ?_<;>intro hc10
 .refine Wq300 ?_;refine ui ?_;refine ZFe 2 2 ?_;refine Lx ?_;refine ZFe 4 4 ?_;refine Wq422 ?_;refine ZFe 6 1 ?_;refine ic ?_;refine GF ?_;rintro _ _ ⟨rfl,rfl⟩;refine ZFe 8 2 ?_;refine kR ?_;refine GF ?_;rintro _ _ ⟨rfl,rfl⟩;refine ZFe 10 4 ?_;refine cW 11 Zk (GF ?_);rintro _ _ ⟨rfl,rfl⟩;refine xx ?_;refine Ui ?_;refine⟨?_,rfl⟩;exact BY
  try exact rfl
 refine Zw8 ?_ ?_<;>intro hc12
 .refine Wq300 ?_;refine ZFe 0 2 ?_;refine ZG 1 ?_;refine ZFe 2 3 ?_;refine Lx ?_;refine ZFe 4 4 ?_;refine Wq422 ?_;refine ZFe 6 2 ?_;refine ic ?_;refine GF ?_;rintro _ _ ⟨rfl,rfl⟩;refine ZFe 8 3 ?_;refine kR ?_;refine GF ?_;rintro _ _ ⟨rfl,rfl⟩;refine ZFe 10 4 ?_;refine cW 11 Zk (GF ?_);rintro _ _ ⟨rfl,rfl⟩;refine xx ?_;refine Ui ?_;refine⟨?_,rfl⟩;exact BY
  try exact rfl
 refine yk ?_ ?_<;>intro hc14
 .refine Wq309 ?_;refine ZFe 0 2 ?_;refine ZG 1 ?_;refine ZFe 2 4 ?_;refine Lx ?_;refine ZFe 4 2 ?_;refine kQ ?_;refine GF ?_;rintro _ _ ⟨rfl,rfl⟩;refine ZFe 6 4 ?_;refine ic ?_;refine GF ?_;rintro _ _ ⟨rfl,rfl⟩;refine xx ?_;refine Ui ?_;refine⟨?_,rfl⟩;exact BY
  try exact rfl
 refine yk ?_ ?_<;>intro hc16
 .refine Z_4 ?_;refine ZL ?_;refine Z_6 ?_;refine Ui ?_;refine⟨?_,rfl⟩;exact BY
  try exact rfl
 refine Z_3 ?_;refine jj ?_;refine px (cs':=[]) (.inl rfl) Zu rfl rfl rfl Zh Zrf Zrf ⟨?_,rfl⟩;exact BY
 try exact rfl
theorem F7(n:Int)(w:World):CW prog 302 [.i n] w (.bool (decide (0<=n)&&decide (n<16))):=by
 refine Zfs func302 ntmps302 ?_;refine ue ?_;exact ru
theorem DG(i:HI)(h:i.WO)(w:World):CW prog 273 [hiv i] w (.bool true):=by
 have HA:=T5 i;rw[h.asked]at HA;have hreg:∀n:Int,0<=n/\n<=15->(decide (0<=n)&&decide (n<16))=true:=λn hn=>by grind
 have e1:=hreg _ h.rd;have e2:=hreg _ h.ra;have e3:=hreg _ h.rb;have R1:=F7 i.rd;have R2:=F7 i.ra;have R3:=F7 i.rb;rw[e1]at R1;rw[e2]at R2;rw[e3]at R3;refine Zfs func273 ntmps273 ?_;refine Z_2 ?_;refine ZO λb1=>?_;refine Z_6 ?_;refine ZSe (λw hi=>HA w) ?_;refine Z_3 ?_;refine ZN λb3=>?_
 refine rf ?_;refine Qq ?_;refine Qq ?_;refine Zyy rfl rfl (y_eqlT Te (hi_eq i) (cA rfl) (cA rfl)) ?_;refine Z_4 ?_;refine fF (bS rfl rfl) rfl (dh rfl (λ_ _=>rfl) (λw hi=>R1 w)) rfl ?_;rintro _ _ ⟨_,⟨rfl,rfl⟩,rfl⟩;refine Z_4 ?_;refine fF (bS rfl rfl) rfl (dh rfl (λ_ _=>rfl) (λw hi=>R2 w)) rfl ?_;rintro _ _ ⟨_,⟨rfl,rfl⟩,rfl⟩;refine Z_4 ?_;exact fF (bS rfl rfl) rfl (dh rfl (λ_ _=>rfl) (λw hi=>R3 w)) rfl US
theorem Iz(A:Oa)(c:Nat)(l:List HI)(hg:fZ l)(hl:l.length<=100000)(w:World)(h:RdV w 5 A l.length c (l.flatMap HI.cells)):
  Ctr prog 219 [.slice A l.length c] w [] (λv cs=>∃A' c',v= .tuple #[.slice A' (cI l).length c',.i 0]/\cs=[sl .u8 5 A' (cI l).length c' (cI l)]):=by
 refine Zfs func219 ntmps219 ?_;refine jl ?_;refine cY 5 1 (Z_6 ?_);refine wLo (λq:Nat×Option Addr×Nat=>[(4,.slice q.2.1 (cI (l.take q.1)).length q.2.2),(7,.slice A l.length c),(8,.i l.length),(9,.i (q.1:Int))]) (λq=>[sl .u8 5 q.2.1 (cI (l.take q.1)).length q.2.2 (cI (l.take q.1))]) (λq=>q.1<=l.length) (λq=>l.length - q.1) (⟨0,none,0⟩) Wq1 ?_;rintro⟨k,A1,c1⟩ hk;dsimp only at hk|-;refine Zw6 ?_ ?_<;>intro hc3
 .simp only[ac]at hc3;obtain⟨ad,rfl⟩:=h.some_ Wq1;obtain⟨i,hx⟩:∃i,l[k]? =some i:=⟨_,ae (show k<l.length by omega)⟩;have hgi:=hg i (ak hx);have htk:l.take (k+1)=l.take k++[i]:=(by rw[bE,hx];rfl);have hlk:(cI (l.take k)).length<=800000:=(by rw[jg,aD];omega);obtain⟨o1,o2⟩:=hgi.op;obtain⟨a1,a2⟩:=hgi.rd;obtain⟨p1,p2⟩:=hgi.ra;obtain⟨q1,q2⟩:=hgi.rb;obtain⟨m1,m2⟩:=hgi.imm;have HR:=DG i hgi;have hbe:tU i=[i.op,i.rd,i.ra,i.rb,i.imm%256,i.imm/256%256,i.imm/65536%256,i.imm/16777216%256]:=rfl;have hbs:cI (l.take (k+1))=cI (l.take k)++tU i:=(by rw[htk,F9]);have hcl:i.cells=[.i i.op,.i i.rd,.i i.ra,.i i.rb,.w i.imm]:=rfl;obtain⟨op,rd,ra,rb,im⟩:=i;dsimp only at o1 o2 a1 a2 p1 p2 q1 q2 m1 m2 hbe hcl;refine Z_6 ?_;refine Ex ?_;refine dQ (bW (vs:=[.i op,.i rd,.i ra,.i rb,.w im]) Zrf Zrf Zv0) (cE h (λj v hj=>bZ (f:=HI.cells) Zrf (i:=j) hx hj)) rfl ?_;refine ZN λb6=>?_
  refine jj ?_;refine ZSe (λw hi=>HR w) ?_;refine iX ?_;refine Z_6 ?_;refine Wq136 ?_;refine Wq136 ?_;refine Zy (cU rfl rfl (Zv rfl) (show IntKind.u8.wrap im=im%256 from by rw[IntKind.wrap_u8])) ?_;refine Z_2 ?_;refine Zy (lJ (Zv rfl) (Zv rfl) Wq1 (show _=im/256 from by show im.fdiv 256=_;grind)) ?_;refine Zy (cU rfl rfl (Zv rfl) (show IntKind.u8.wrap (im/256)=im/256%256 from by rw[IntKind.wrap_u8])) ?_;refine Z_2 ?_;refine Zy (lJ (Zv rfl) (Zv rfl) Wq1 (show _=im/65536 from by show im.fdiv 65536=_;grind)) ?_;refine Zy (cU rfl rfl (Zv rfl) (show IntKind.u8.wrap (im/65536)=im/65536%256 from by rw[IntKind.wrap_u8])) ?_;refine Z_2 ?_;refine Zy (lJ (Zv rfl) (Zv rfl) Wq1 (show _=im/16777216 from by show im.fdiv 16777216=_;grind)) ?_;refine Zy (cU rfl rfl (Zv rfl) (show IntKind.u8.wrap (im/16777216)=im/16777216%256 from by rw[IntKind.wrap_u8])) ?_;refine jD ?_;rintro _ _ ⟨b44,rfl,rfl⟩;refine fo (bV (e:=5) (sz:=1) (bytes:=1) rfl rfl Za rfl rfl (λw hi=>hi.rd (Zhc (slv 5 1 (sA b44) 8 8 (ints .u8 (tU ⟨op,rd,ra,rb,im⟩))))) cN Wq9 Wq1) rfl ?_;rintro _ _ ⟨A2,c2,rfl,rfl⟩;rw[cj,<-hbs,show(cI (l.take k)).length+8=(cI (l.take (k+1))).length from by simp_all];refine lI ?_;refine qMP ((⟨k+1,A2,c2⟩:Nat×Option Addr×Nat)) Wq1
 simp only[aa]at hc3;obtain rfl:k=l.length:=by omega
 rw[bC];refine Wq491 ?_;exact pO
theorem Kg{op a b:Int}(ha:0<=a/\a<=18446744073709551615)(hb:0<=b/\b<=18446744073709551615):0<=kH op a b/\kH op a b<=18446744073709551615:=by
 have hw:∀z:Int,0<=IntKind.u64.wrap z/\IntKind.u64.wrap z<=18446744073709551615:=λz=>by rw[aU];omega
 have ht:∀c:Bool,0<=b2i c/\b2i c<=18446744073709551615:=λc=>by cases c<;>decide
 obtain⟨x,rfl⟩:∃x:Nat,a=x:=ao ha.1;obtain⟨y,rfl⟩:∃y:Nat,b=y:=ao hb.1;have hx:x<18446744073709551616:=by omega
 have hy:y<18446744073709551616:=by omega
 have h1:x&&&y<=x:=Nat.and_le_left;have h2:x|||y<2^64:=Nat.or_lt_two_pow hx hy
 have h3:x^^^y<2^64:=Nat.xor_lt_two_pow hx hy;have bp:∀{c:Bool} {u v:Int},(0<=u/\u<=18446744073709551615)->(0<=v/\v<=18446744073709551615)->0<=(bif c then u else v)/\(bif c then u else v)<=18446744073709551615:=λ{c u v} h k=>by grind
 have hsh:0<=(x:Int).fdiv (2^(min ((y:Int)).toNat IntKind.u64.bits))/\(x:Int).fdiv (2^(min ((y:Int)).toNat IntKind.u64.bits))<=18446744073709551615:=by
  rw[aN,Int.fdiv_eq_ediv_of_nonneg _ bY];have e:((x:Int)/2^(min y IntKind.u64.bits))=((x/2^(min y IntKind.u64.bits):Nat):Int):=by simp
  have h4:x/2^(min y IntKind.u64.bits)<=x:=Nat.div_le_self _ _;rw[e];obtain⟨q,hq⟩:=Zgn (x/2^(min y IntKind.u64.bits));rw[hq]at h4|-;omega
 unfold kH;exact bp ha (bp (hw _) (bp (hw _) (bp (by grind [Qa]) (bp (by grind [or64]) (bp (by grind [Jv]) (bp (hw _) (bp hsh (bp (hw _) (bp (bp ⟨by omega,by omega⟩ (hw _)) (bp (ht _) (ht _)))))))))))
variable{m:HM}
theorem hdo_ok(hi:i.WO)(h:m.ok):(hdo i m).2.ok:=by
 have hset:∀(n:Nat) (v:Int),(0<=v/\v<=18446744073709551615)->HM.ok ⟨m.WJ.set n v,m.words,m.pc+1⟩:=λn v hv=>
  ⟨by grind [h.rl],h.wl,λx hx=>by rcases FQ hx with q|q;exact h.r x q;omega,h.w,by grind [h.pc]⟩
 have hnx:HM.ok ⟨m.WJ,m.words,m.pc+1⟩:=⟨h.rl,h.wl,h.r,h.w,by grind [h.pc]⟩;obtain⟨i1,i2⟩:=hi.imm;unfold hdo;cases i.op==0 with
 |true=>exact hnx
 |false=>cases i.op==1 with
  |true=>grind
  |false=>cases i.op==14||i.op==15 with
   |true=>
    cases decide ((m.words.length:Int)<=qK m.WJ i)with
    |true=>exact h
    |false=>cases i.op==14 with
     |true=>grind [iN,h.w,qK]
     |false=>exact⟨h.rl,by grind [h.wl],h.r,λx hx=>by rcases FQ hx with q|q;exact h.w x q;rw[q];exact Ml _,by grind [h.pc]⟩
   |false=>cases i.op==16||i.op==17 with
    |true=>
     refine⟨h.rl,h.wl,h.r,h.w,?_⟩
     grind [h.pc]
    |false=>cases i.op==18 with
     |true=>exact⟨h.rl,h.wl,h.r,h.w,i1⟩
     |false=>grind [Kg,AO,h.r]
variable{C:List HI}
theorem Ix(hC:fZ C)(h:m.ok):(Wr C m).2.ok:=by
 unfold Wr;cases hd:decide (m.pc<0)||decide ((C.length:Int)<=m.pc)with
 |true=>exact h
 |false=>
  simp only[aS,aa]at hd;have hlt:m.pc.toNat<C.length:=by omega
  refine hdo_ok (hC _ ?_) h
  grind
abbrev jf(R:Li)(bw:Nat)(Ac:Oa)(n cc:Nat)(pc:Int):List Value:=ints .u64 R++[.slice (sA bw) 256 256,.slice Ac n cc,.i pc]
section
variable {R:Li} {bw n cc:Nat} {Ac:Oa} {pc:Int}
theorem VK(h:R.length=16):(jf R bw Ac n cc pc).length=19:=by simp[ints,h]
theorem hm_at(h:R.length=16)(k:Nat):(jf R bw Ac n cc pc)[16+k]? =[Value.slice (sA bw) 256 256,.slice Ac n cc,.i pc][k]? :=by
 grind [ints,dA]
theorem Tc(h:R.length=16):(jf R bw Ac n cc pc)[16]? =some (.slice (sA bw) 256 256):=hm_at h 0
theorem hm_c(h:R.length=16):(jf R bw Ac n cc pc)[17]? =some (.slice Ac n cc):=hm_at h 1
theorem hm_p(h:R.length=16):(jf R bw Ac n cc pc)[18]? =some (.i pc):=hm_at h 2
theorem hm_r(h:R.length=16){k:Nat}(hk:k<16):(jf R bw Ac n cc pc)[k]? =some (.int .u64 (R.getD k 0)):=by
 grind [ints,mE]
theorem hm_setr(h:R.length=16){k:Nat}(hk:k<16)(v:Int):(jf R bw Ac n cc pc).set k (.int .u64 v)=jf (R.set k v) bw Ac n cc pc:=by
 simp_all [ints]
theorem OQ(h:R.length=16)(p:Int):(jf R bw Ac n cc pc).set 18 (.i p)=jf R bw Ac n cc p:=by
 simp_all [ints,dA]
theorem hm_setc(h:R.length=16)(A:Oa)(m c:Nat):(jf R bw Ac n cc pc).set 17 (.slice A m c)=jf R bw A m c pc:=by
 simp_all [ints,dA]
end
theorem KL(A:Oa)(c:Nat)(i:HI)(hg:i.WO)(w:World)(h:Rd w .u8 A 8 c (tU i)):
  CW prog 274 [.slice A 8 c] w (.tuple #[hiv i,.i 0]):=by
 obtain⟨ad,rfl⟩:=h.some_ bX;have HR:=DG i hg;obtain⟨o1,o2⟩:=hg.op;obtain⟨a1,a2⟩:=hg.rd;obtain⟨p1,p2⟩:=hg.ra;obtain⟨q1,q2⟩:=hg.rb;obtain⟨m1,m2⟩:=hg.imm;obtain⟨op,rd,ra,rb,im⟩:=i;dsimp only at o1 o2 a1 a2 p1 p2 q1 q2 m1 m2;obtain⟨m,rfl⟩:∃m:Nat,im=m:=ao m1;have hib:=SZ (show m<4294967296 by omega);have hbe:tU ⟨op,rd,ra,rb,(m:Int)⟩=[op,rd,ra,rb,((m%256:Nat):Int),((m/256%256:Nat):Int),((m/65536%256:Nat):Int),((m/16777216%256:Nat):Int)]:=rfl;rw[hbe]at h;refine Zfs func274 ntmps274 ?_;refine Z_2 ?_;refine ZN λb2=>?_;refine gq ?_;refine kv ?_;refine Z_3 ?_;refine bU (Zdn [40]) Zk (ZE 0 ?_);refine Zy4 1 rfl (cC (j:=0) rfl Zrf (Zv rfl) (Zv rfl) Wq2 Wq2) ?_;refine Zy5 2 rfl (bM Zrf Zv0) (dJ h (cK (j:=0) rfl)) ?_;refine Zy4 3 rfl (cU rfl rfl Zv0 Zl) ?_;refine ZE 4 ?_;refine Zy4 5 rfl (cC (j:=1) rfl Zrf (Zv rfl) (Zv rfl) Wq2 Wq2) ?_;refine Zy5 6 rfl (bM Zrf Zv0) (dJ h (cK (j:=1) rfl)) ?_;refine Zy4 7 rfl (cU rfl rfl Zv0 Zl) ?_;refine ZE 8 ?_;refine Zy4 9 rfl (cC (j:=2) rfl Zrf (Zv rfl) (Zv rfl) Wq2 Wq2) ?_;refine Zy5 10 rfl (bM Zrf Zv0) (dJ h (cK (j:=2) rfl)) ?_;refine Zy4 11 rfl (cU rfl rfl Zv0 Zl) ?_;refine ZE 12 ?_;refine Zy4 13 rfl (cC (j:=3) rfl Zrf (Zv rfl) (Zv rfl) Wq2 Wq2) ?_;refine Zy5 14 rfl (bM Zrf Zv0) (dJ h (cK (j:=3) rfl)) ?_;refine Zy4 15 rfl (cU rfl rfl Zv0 Zl) ?_;refine ZE 16 ?_;refine Zy4 17 rfl (cC (j:=4) rfl Zrf (Zv rfl) (Zv rfl) Wq2 Wq2) ?_;refine Zy5 18 rfl (bM Zrf Zv0) (dJ h (cK (j:=4) rfl)) ?_;refine Zy4 19 rfl (cU rfl rfl (Zv rfl) QO) ?_;refine ZE 20 ?_;refine Zy4 21 rfl (cC (j:=5) rfl Zrf (Zv rfl) (Zv rfl) Wq2 Wq2) ?_;refine Zy5 22 rfl (bM Zrf Zv0) (dJ h (cK (j:=5) rfl)) ?_;refine Zy4 23 rfl (cU rfl rfl (Zv rfl) QO) ?_;refine Zy4 24 rfl (Jq (Zv rfl) (Zv rfl) Wq1 rfl) ?_;refine ZE 25 ?_;refine ZE 26 ?_;refine Zy4 27 rfl (cC (j:=6) rfl Zrf (Zv rfl) (Zv rfl) Wq2 Wq2) ?_;refine Zy5 28 rfl (bM Zrf Zv0) (dJ h (cK (j:=6) rfl)) ?_;refine Zy4 29 rfl (cU rfl rfl (Zv rfl) QO) ?_;refine Zy4 30 rfl (Jq (Zv rfl) (Zv rfl) Wq1 rfl) ?_;refine ZE 31 ?_;refine ZE 32 ?_;refine Zy4 33 rfl (cC (j:=7) rfl Zrf (Zv rfl) (Zv rfl) Wq2 Wq2) ?_;refine Zy5 34 rfl (bM Zrf Zv0) (dJ h (cK (j:=7) rfl)) ?_;refine Zy4 35 rfl (cU rfl rfl (Zv rfl) QO) ?_;refine Zy4 36 rfl (Jq (Zv rfl) (Zv rfl) Wq1 rfl) ?_;refine Zy4 37 rfl (Ci Zv0 Zv0 hib) ?_;refine ZE 38 ?_;refine cW 39 Zk ?_;refine ZP λb4=>?_
 refine cW 40 Zk (ZR ?_);refine xx ?_;refine ZSe (λw hi=>HR w) ?_;refine iX ?_;refine Z_5 ?_;refine Ui ?_;exact gr
theorem hb_take(i:HI)(l:List HI):(cI (i::l)).take 8=tU i:=by
 simp[tU,cI]
theorem hb_drop(i:HI)(l:List HI):(cI (i::l)).drop 8=cI l:=by
 simp[tU,cI]
theorem hall_ok(A:Oa)(c:Nat)(l:List HI)(hg:fZ l)(hl:l.length<=100000)(w:World)(h:Rd w .u8 A (cI l).length c (cI l)):
  Ctr prog 223 [.slice A (cI l).length c] w [] (λv cs=>∃A' c',v= .tuple #[.slice A' l.length c',.i 0]/\cs=[hiC A' c' l]):=by
 refine Zfs func223 ntmps223 ?_;refine Z_8 ?_;refine cY 347 5 (Z_5 ?_);refine wLo (λq:Nat×(Option Addr×Nat)×(Option Addr×Nat)=>[(0,.slice q.2.1.1 (cI (l.drop q.1)).length q.2.1.2),(4,.slice q.2.2.1 (l.take q.1).length q.2.2.2)]) (λq=>[hiC q.2.2.1 q.2.2.2 (l.take q.1)]) (λq=>q.1<=l.length/\Rd w .u8 q.2.1.1 (cI (l.drop q.1)).length q.2.1.2 (cI (l.drop q.1))) (λq=>l.length - q.1) (⟨0,⟨A,c⟩,⟨none,0⟩⟩) bY ?_;rintro⟨k,⟨A1,c1⟩,⟨A2,c2⟩⟩ ⟨hk,h1⟩;dsimp only at hk h1|-;have hcap:=h1.cap;have hmx:=h1.max;simp only[maxLen]at hmx;have hlk:(l.take k).length=k:=bY;refine Zw8 ?_ ?_<;>intro hc2
 .simp only[ac]at hc2;have hkl:k<l.length:=(by rw[jg,bH]at hc2;omega);obtain⟨i,hx⟩:∃i,l[k]? =some i:=⟨_,ae hkl⟩;have hgi:=hg i (ak hx);have htk:l.take (k+1)=l.take k++[i]:=(by rw[bE,hx];rfl);have hdr:l.drop k=i::l.drop (k+1):=(by obtain⟨q1,q2⟩:=ar.1 hx;rw[<-q2];exact List.drop_eq_getElem_cons q1);have hn8:(cI (l.drop k)).length=8+(cI (l.drop (k+1))).length:=(by rw[hdr];show(tU i++_).length=_;rw[aj];rfl);have h2:=iv h1 8;rw[hdr,hb_take]at h2;have HD:=KL A1 c1 i hgi;have h3:=h1.cut (lo:=8) (hi:=(cI (l.drop k)).length) Wq1 (aL _);have e3:((ints .u8 (cI (l.drop k))).take (cI (l.drop k)).length).drop 8=ints .u8 (cI (l.drop (k+1))):=(by rw[aM (by simp[ints]),hdr];show((cI (i::l.drop (k+1))).map _).drop 8=_;rw[<-List.map_drop,hb_drop];rfl);rw[e3,show(cI (l.drop k)).length - 8=(cI (l.drop (k+1))).length by omega]at h3;have htl:(l.take (k+1)).length=k+1:=bY;obtain⟨N,hN⟩:=Zgn ((cI (l.drop k)).length);rw[hN]at hn8 h1 hcap|-;refine Z_8 ?_;refine Zy (Js (Zv rfl) (Zv rfl) (show _=((8:Nat):Int)from by omega)) ?_;refine Zy (eC 8 rfl Zrf (Zv rfl) (Zv rfl) pe Wq2) ?_;refine ZSe (λw hi=>HD w (h2.Wh hi)) ?_;refine Z_3 ?_;refine ZN λb5=>?_
  refine sF ?_;refine kv ?_;refine xv ?_;rintro _ _ ⟨b24,rfl,rfl⟩;refine fo (bV (e:=347) (sz:=5) (bytes:=40) rfl rfl Za rfl rfl (λw hi=>hi.rd (Zhc (slv 347 5 (sA b24) 1 1 i.cells))) (mQ rfl) Wq9 Wq1) rfl ?_;rintro _ _ ⟨A3,c3,rfl,rfl⟩;rw[hi_snoc,<-htk,show(l.take k).length+1=(l.take (k+1)).length by omega];refine Z_5 ?_;refine Zy (ry (lo:=8) (hi:=N) rfl Zrf (Zv rfl) (.inr ⟨_,_,rfl,(Zv rfl)⟩) (.inl ⟨rfl,rfl⟩) Wq1 Wq1) ?_;rw[show N - 8=(cI (l.drop (k+1))).length from by omega];refine Z_3 ?_;refine qMM ((⟨k+1,⟨if c1=8 then A1 else A1.map (·.add (8*1)),c1 - 8⟩,⟨A3,c3⟩⟩:Nat×(Option Addr×Nat)×(Option Addr×Nat))) bY
 simp only[aa]at hc2;obtain rfl:k=l.length:=(by rw[jg,bH]at hc2;omega);rw[bC];refine Wq491 ?_;exact pO
theorem DD(b:Bool)(w:World):CW prog 303 [.bool b] w (.int .u64 (b2i b)):=by
 refine Zfs func303 ntmps303 ?_;refine xL ?_ ?_<;>intro hc1
 .subst hc1;exact Ez
 subst hc1;refine Z_8 ?_;exact ru
theorem KK(op a b:Int)(ha:0<=a/\a<=18446744073709551615)(hb:0<=b/\b<=18446744073709551615)(w:World):CW prog 275 [.i op,.int .u64 a,.int .u64 b] w (.int .u64 (kH op a b)):=by
 refine Zfs func275 ntmps275 ?_;refine EU ?_;refine ZW ?_ ?_<;>intro hc2
 .refine lC ?_;refine⟨?_,rfl⟩;exact sI
 refine Zw6 ?_ ?_<;>intro hc4
 .refine Z_4 ?_;refine pR ?_;refine Z_6 ?_;refine Zra ?_;refine⟨?_,rfl⟩;exact sI
 refine Zw6 ?_ ?_<;>intro hc6
 .refine Z_4 ?_;refine Ey ?_;refine Z_6 ?_;refine Zra ?_;refine⟨?_,rfl⟩;exact sI
 refine Zw6 ?_ ?_<;>intro hc8
 .refine oo ?_;refine⟨?_,rfl⟩;exact sI
 refine Zw6 ?_ ?_<;>intro hc10
 .refine oo ?_;refine⟨?_,rfl⟩;exact sI
 refine Zw6 ?_ ?_<;>intro hc12
 .refine oo ?_;refine⟨?_,rfl⟩;exact sI
 refine Zw6 ?_ ?_<;>intro hc14
 .refine Z_4 ?_;refine Lm ?_;refine Z_6 ?_;refine Zra ?_;refine⟨?_,rfl⟩;exact sI
 refine Zw6 ?_ ?_<;>intro hc16
 .refine Z_4 ?_;refine Zy (lJ (Zv rfl) (Zv rfl) Wq1 rfl) ?_;refine Z_6 ?_;refine Zra ?_;refine⟨?_,rfl⟩;exact sI
 refine Zw6 ?_ ?_<;>intro hc18
 .refine Z_4 ?_;refine Zy (jF Zv0 Zv0 rfl) ?_;refine Z_6 ?_;refine Zra ?_;refine⟨?_,rfl⟩;exact sI
 refine Zw6 ?_ ?_<;>intro hc20
 .refine Zw7 ?_ ?_<;>intro hc21
  .refine lC ?_;refine⟨?_,rfl⟩;exact sI
  have hb0:b≠0:=ne_of_beq_false hc21;refine Z_6 ?_;refine Zy (mh (Zv rfl) (Zv rfl) Wq1 rfl) ?_;refine Z_6 ?_;refine Zra ?_;refine⟨?_,rfl⟩;exact sI
 refine Zw6 ?_ ?_<;>intro hc24
 .refine Z_5 ?_;refine ZSe (λw hi=>DD _ w) ?_;refine Z_6 ?_;refine Zra ?_;refine⟨?_,rfl⟩;exact sI
 refine Z_8 ?_;refine ZSe (λw hi=>DD _ w) ?_;refine Z_4 ?_;refine Zra ?_;refine⟨?_,rfl⟩;exact sI
abbrev fR(bm bw:Nat)(Ac:Oa)(n cc:Nat)(R:Li)(pc:Int):bJ:=row bm (jf R bw Ac n cc pc) 352
abbrev hwC(bw:Nat)(W:Li):bJ:=sl .u32 49 (sA bw) 256 256 W
abbrev hmF(bm bw:Nat)(Ac:Oa)(cc:Nat)(C:List HI)(m:HM):List bJ:=[fR bm bw Ac C.length cc m.WJ m.pc,hwC bw m.words,hiC Ac cc C]
theorem hnew_ok(w:World):Ctr prog 190 [.i 256] w [] (λv cs=>∃bm bw,v= .tuple #[.p bm,.i 0]/\cs=[fR bm bw none 0 0 (List.replicate 16 0) 0,hwC bw (List.replicate 256 0)]):=by
 refine Zfs func190 ntmps190 ?_;refine ue ?_;refine kv ?_;refine Z_5 ?_;refine fo (mS (bytes:=4) (n:=256) rfl rfl rfl rfl rfl rfl rfl Wq1 Wq9) rfl ?_;rintro _ _ ⟨b11,rfl,rfl⟩;refine ZA ?_;refine ZO λb13=>?_
 rw[rS];refine eY [fR b13 b11 none 0 0 (List.replicate 16 0) 0,hwC b11 (List.replicate 256 0)] Zj (Z_5 ?_);exact AH (cs':=[row _ _ _,slv _ _ _ _ _ _]) (.inl rfl) Zu rfl rfl rfl pO
section
variable (bm bw:Nat) (Ac:Oa) (n cc:Nat) (R W:Li) (pc:Int)
theorem DC(hR:R.length=16)(w:World)(h:(fR bm bw Ac n cc R pc).ok w):CW prog 220 [.p bm] w (.i 256):=by
 refine Zfs func220 ntmps220 ?_;refine fH ?_;exact dQ (bM Zrf Zv0) (dr h (Tc hR)) rfl xy
theorem Iw(hR:R.length=16)(hW:W.length=256)(k:Nat)(hk:k<256)(w:World)(h:(fR bm bw Ac n cc R pc).ok w)(h2:(hwC bw W).ok w):CW prog 225 [.p bm,.i k] w (.w (W.getD k 0)):=by
 have hx:W[k]? =some (W.getD k 0):=by rw[List.getD_eq_getElem?_getD,ae Wq1];rfl
 refine Zfs func225 ntmps225 ?_;refine oU ?_;refine gQ (bQ rfl rfl) (bM Zrf (cA rfl)) (dr h (Tc hR)) rfl (Z_5 ?_);refine cy rfl (bY) (Z_7 ?_);refine dQ (bM Zrf Zv0) (dr h (Tc hR)) rfl (ZA ?_);refine Ex ?_;exact dQ (bM Zrf Zv0) (dJ (dx h2) (cK hx)) rfl o7
theorem sb(hR:R.length=16)(hW:W.length=256)(k:Nat)(hk:k<256)(v:Int):CI prog 221 [.p bm,.i k,.w v] [fR bm bw Ac n cc R pc,hwC bw W] (λx cs=>x= .bool true/\cs=[fR bm bw Ac n cc R pc,hwC bw (W.set k v)]):=λw hi=>by
 refine Zfn func221 ntmps221 hi ?_;refine oU ?_;refine gQ (bQ rfl rfl) (bM Zrf (cA rfl)) (cB Zh (Tc hR)) rfl (Z_5 ?_);refine cy rfl (bY) (Z_7 ?_);refine dQ (bM Zrf Zv0) (cB Zh (Tc hR)) rfl (Z_2 ?_);refine Wq74 ?_;rintro _ _ ⟨rfl,rfl⟩;rw[fQ];refine Z_8 ?_;refine Gy ?_;exact gr
theorem OR(hR:R.length=16)(hW:W.length=256)(f:Nat)(hf:f<=100)(A:Oa)(c:Nat)(l:Li)(hl:l.length<=16)(w:World)(hi:Inv w (bK [fR bm bw Ac n cc R pc,hwC bw W]) [fR bm bw Ac n cc R pc,hwC bw W] w)
  (h:∀w',dc (bK [fR bm bw Ac n cc R pc,hwC bw W]) w w'->Rd w' .u32 A l.length c l):
  Ctr prog 222 [.p bm,.i f,.slice A l.length c] w [fR bm bw Ac n cc R pc,hwC bw W] (λx cs=>cs=[fR bm bw Ac n cc R pc,hwC bw (kb W f l 16)]):=by
 have h0:=h w (dc.refl _ _);refine Zfn func222 ntmps222 hi ?_;refine Z_6 ?_;refine wLo (λk:Nat=>[(0,.p bm),(1,.i f),(2,.slice A l.length c),(8,.i (k:Int))]) (λk=>[fR bm bw Ac n cc R pc,hwC bw (kb W f l k)]) (λk=>k<=16) (λk=>16 - k) (0) Wq1 ?_;rintro k hk;have hlk:(kb W f l k).length=256:=(by rw[lT,hW]);refine Zw6 ?_ ?_<;>intro hc1
 .simp only[ac]at hc1;refine oU ?_;refine cL (λ_:Unit=>[(0,.p bm),(1,.i f),(2,.slice A l.length c),(6,.i (k:Int)),(7,.w (l.getD k 0)),(8,.i (k:Int))]) (λ_=>[fR bm bw Ac n cc R pc,hwC bw (kb W f l k)]) (λ_=>True) ?_ ?_
  .refine Zw8 ?_ ?_<;>intro hc4
   .simp only[ac]at hc4;obtain⟨ad,rfl⟩:=h0.some_ Wq1;have hx:l[k]? =some (l.getD k 0):=bY;refine Z_3 ?_;refine Ex ?_;refine dQ (bM Zrf Zv0) (oH h (cK hx)) rfl (Z_2 ?_);refine qMM (()) kY
   simp only[aa]at hc4;have e0:l.getD k 0=0:=bY;rw[e0];refine Zc (qMM (()) kY)
  rintro - -;refine Z_4 ?_;refine Zy (eK (Zv rfl) (Zv rfl) (show _=((f+k:Nat):Int)from by rw[bD _ ⟨by omega,by omega⟩];omega)) ?_;refine ZA ?_;refine ZcM ([fR bm bw Ac n cc R pc,hwC bw (kb W f l k)]) (λw hi hin=>sb bm bw Ac n cc R (kb W f l k) pc hR hlk (f+k) Wq1 (l.getD k 0) w hin) ?_;refine jS ?_;refine qMM (k+1) Wq1
 simp only[aa]at hc1;obtain rfl:k=16:=by omega
 refine Z_4 ?_;exact jE (cs':=[row _ _ _,slv _ _ _ _ _ _]) (.inr rfl) Zu rfl rfl
end
theorem hput_ok(bm bw:Nat)(s:St)(hs:s.right=true)(hw:s.wf)(Ad Ar:Oa)(cd cr:Nat)(w:World)(hi:Inv w (bK [fR bm bw none 0 0 (List.replicate 16 0) 0,hwC bw (List.replicate 256 0)]) [fR bm bw none 0 0 (List.replicate 16 0) 0,hwC bw (List.replicate 256 0)] w)
  (h:∀w',dc (bK [fR bm bw none 0 0 (List.replicate 16 0) 0,hwC bw (List.replicate 256 0)]) w w'->rj w' s Ad Ar cd cr):
  Ctr prog 191 [.p bm,sv s Ad cd Ar cr] w [fR bm bw none 0 0 (List.replicate 16 0) 0,hwC bw (List.replicate 256 0)] (λx cs=>x= .bool true/\cs=[fR bm bw none 0 0 (List.replicate 16 0) 0,hwC bw (WW s)]):=by
 have hR:(List.replicate 16 (0:Int)).length=16:=aI;obtain⟨R,hRe⟩:=Zgn (List.replicate 16 (0:Int));have hpw:WW s=(kb (kb (((((List.replicate 256 (0:Int)).set 0 s.pc).set 1 s.flags).set 2 (s.d.length:Int)).set 3 (s.r.length:Int)) 4 s.d 16) 20 s.r 16).set 36 0:=rfl;have hW0:(List.replicate 256 (0:Int)).length=256:=aI;obtain⟨W0,hWe⟩:=Zgn (List.replicate 256 (0:Int));rw[hWe]at hW0 hpw hi h|-;rw[hRe]at hR hi h|-;rw[hpw];obtain⟨hd16,hr16, -⟩:=St.fits hs;have HR:=oF s;rw[hs]at HR;have hW1:(W0.set 0 s.pc).length=256:=by rw[List.length_set,hW0]
 have hW2:((W0.set 0 s.pc).set 1 s.flags).length=256:=by rw[List.length_set,hW1]
 have hW3:(((W0.set 0 s.pc).set 1 s.flags).set 2 (s.d.length:Int)).length=256:=by rw[List.length_set,hW2]
 have hW4:((((W0.set 0 s.pc).set 1 s.flags).set 2 (s.d.length:Int)).set 3 (s.r.length:Int)).length=256:=by rw[List.length_set,hW3]
 have HL1:=OR bm bw none 0 0 R _ 0 hR hW4 4 bX Ad cd s.d hd16;obtain⟨W4,hW4e⟩:=Zgn ((((W0.set 0 s.pc).set 1 s.flags).set 2 (s.d.length:Int)).set 3 (s.r.length:Int));rw[hW4e]at hW4 HL1|-;have hW5:(kb W4 4 s.d 16).length=256:=by rw[lT,hW4]
 have HL2:=OR bm bw none 0 0 R _ 0 hR hW5 20 bX Ar cr s.r hr16;have hW6:(kb (kb W4 4 s.d 16) 20 s.r 16).length=256:=by rw[lT,hW5]
 refine Zfn func191 ntmps191 hi ?_;refine Z_2 ?_;refine ZO λb3=>?_;refine fH ?_;refine fF (bQ rfl rfl) rfl (dh rfl (λ_ _=>rfl) (λw hi=>DC bm bw none 0 0 R 0 hR w (hi.get Zh))) rfl ?_;rintro _ _ ⟨_,⟨rfl,rfl⟩,rfl⟩;refine Z_3 ?_;refine mj (bQ rfl rfl) Zh Zrf Zrf (Zv rfl) rfl (fF (bQ rfl rfl) rfl (dh rfl (λ_ _=>rfl) (λw hi=>HR Ad Ar cd cr w)) rfl ?_);rintro _ _ ⟨_,⟨rfl,rfl⟩,rfl⟩;refine Z_4 ?_;refine kv ?_;refine Z_7 ?_;refine ZcM ([fR bm bw none 0 0 R 0,hwC bw W0]) (λw hi hin=>sb bm bw none 0 0 R W0 0 hR hW0 0 bX s.pc w hin) ?_;refine Z_7 ?_;refine ZcM ([fR bm bw none 0 0 R 0,hwC bw (W0.set 0 s.pc)]) (λw hi hin=>sb bm bw none 0 0 R _ 0 hR hW1 1 bX s.flags w hin) ?_;refine Z_8 ?_;refine Zy (cU rfl rfl (Zv rfl) QO) ?_;refine ZcM ([fR bm bw none 0 0 R 0,hwC bw ((W0.set 0 s.pc).set 1 s.flags)]) (λw hi hin=>sb bm bw none 0 0 R _ 0 hR hW2 2 bX (s.d.length:Int) w hin) ?_;refine Z_8 ?_;refine Zy (cU rfl rfl (Zv rfl) QO) ?_;refine ZcM ([fR bm bw none 0 0 R 0,hwC bw (((W0.set 0 s.pc).set 1 s.flags).set 2 (s.d.length:Int))]) (λw hi hin=>sb bm bw none 0 0 R _ 0 hR hW3 3 bX (s.r.length:Int) w hin) ?_;rw[hW4e];refine Z_7 ?_;refine ZcL ([fR bm bw none 0 0 R 0,hwC bw W4]) (λw hi hin=>HL1 w hin (λw' hk=>(h w' (hi.Xv (λc hc=>by simp only[aJ,aY,or_false]at hc;rcases hc with rfl|rfl;exact Has.mem (Zhc _);exact Has.mem (Zhc _)) hk)).d)) ?_;rintro _ _ ⟨_,rfl,rfl⟩;refine Z_7 ?_;refine ZcL ([fR bm bw none 0 0 R 0,hwC bw (kb W4 4 s.d 16)]) (λw hi hin=>HL2 w hin (λw' hk=>(h w' (hi.Xv (λc hc=>by simp only[aJ,aY,or_false]at hc;rcases hc with rfl|rfl;exact Has.mem (Zhc _);exact Has.mem (Zhc _)) hk)).r)) ?_;rintro _ _ ⟨_,rfl,rfl⟩;refine Z_5 ?_;refine ZcM ([fR bm bw none 0 0 R 0,hwC bw (kb (kb W4 4 s.d 16) 20 s.r 16)]) (λw hi hin=>sb bm bw none 0 0 R _ 0 hR hW6 36 bX 0 w hin) ?_;refine Z_8 ?_;refine Gy ?_;exact gr
theorem Td(bm bw:Nat)(R W:Li)(hR:R.length=16)(A:Oa)(c:Nat)(C:List HI)(hg:fZ C)(hl:C.length<=100000)(w:World)(hi:Inv w (bK [fR bm bw none 0 0 R 0,hwC bw W]) [fR bm bw none 0 0 R 0,hwC bw W] w)
  (h:∀w',dc (bK [fR bm bw none 0 0 R 0,hwC bw W]) w w'->Rd w' .u8 A (cI C).length c (cI C)):
  Ctr prog 192 [.p bm,.slice A (cI C).length c] w [fR bm bw none 0 0 R 0,hwC bw W] (λx cs=>∃Ac cc,x= .i 0/\cs=hmF bm bw Ac cc C ⟨R,W,0⟩):=by
 refine Zfn func192 ntmps192 hi ?_;refine Z_8 ?_;refine ZSn (λw hi=>hall_ok A c C hg hl w (h w hi.WB)) ?_;rintro _ _ ⟨Ac,cc,rfl,rfl⟩;refine sG ?_;refine Z_9 ?_;refine eT (ij Zrf rfl rfl rfl Za (by rw[VK hR];omega)) ?_;rintro _ _ ⟨rfl,rfl⟩;rw[hm_setc hR];refine Z_2 ?_;refine eT (ij Zrf rfl rfl rfl Za (by rw[VK hR];omega)) ?_;rintro _ _ ⟨rfl,rfl⟩;rw[OQ hR];refine Z_8 ?_;refine xE ?_;exact⟨Ac,cc,rfl,rfl⟩
theorem OP(bm bw:Nat)(Ac:Oa)(cc:Nat)(C:List HI)(hC:fZ C)(m:HM)(hm:m.ok):CI prog 224 [.p bm] (hmF bm bw Ac cc C m) (λx cs=>x= .i (Wr C m).1/\cs=hmF bm bw Ac cc C (Wr C m).2):=λw hi=>by
 have hR:=hm.rl;have hW:=hm.wl;have hr:=hm.r;have hwd:=hm.w;have hp0:=hm.pc;obtain⟨R,W,pc⟩:=m;dsimp only at hR hW hr hwd hp0;obtain⟨p,rfl⟩:∃p:Nat,pc=p:=ao hp0;have hi:Inv w (bK [fR bm bw Ac C.length cc R (p:Int),hwC bw W,hiC Ac cc C]) [fR bm bw Ac C.length cc R (p:Int),hwC bw W,hiC Ac cc C] w:=hi
 change Ctr _ _ _ w [fR bm bw Ac C.length cc R (p:Int),hwC bw W,hiC Ac cc C] _
 have hcap:=(dx (hi.get (show Has _ (hiC Ac cc C)from by repeat (first|exact .head _ _|apply Has.tail)))).cap;have hmx:=(dx (hi.get (show Has _ (hiC Ac cc C)from by repeat (first|exact .head _ _|apply Has.tail)))).max;have hsome:=λh=>(dx (hi.get (show Has _ (hiC Ac cc C)from by repeat (first|exact .head _ _|apply Has.tail)))).some_ h
 simp only[maxLen]at hmx;have hS:(Wr C ⟨R,W,(p:Int)⟩)=bif decide ((p:Int)<0)||decide ((C.length:Int)<=(p:Int))then(2,⟨R,W,(p:Int)⟩)else hdo (C.getD p HI.zero) ⟨R,W,(p:Int)⟩:=rfl
 obtain⟨⟨why,m9⟩,hq⟩:=Zgn (Wr C ⟨R,W,(p:Int)⟩);rw[hq]at hS|-;refine Zfn func224 ntmps224 hi ?_;refine Z_7 ?_;refine uf ?_;refine ZFe 2 18 ?_;refine Zy5 3 rfl (bM Zrf Zv0) (cB Zh (hm_p hR)) ?_;refine ZE 4 ?_;refine ZE 5 ?_;refine ZF 6 ?_;refine ZF 7 ?_;refine ZFf 8 18 ?_;refine Zy7 9 rfl (bQ rfl rfl) (bM Zrf (cA rfl)) (cB Zh (hm_p hR)) ?_;refine ZF 10 ?_;refine ZF 11 ?_;refine ZFf 12 17 ?_;refine Zy7 13 rfl (bQ rfl rfl) (bM Zrf (cA rfl)) (cB Zh (hm_c hR)) ?_;refine ZF 14 ?_;refine ZF 15 ?_;refine ZE 16 ?_;refine ug ?_;refine ZW ?_ ?_<;>intro hc1
 .rw[hc1,ai]at hS;obtain⟨rfl,rfl⟩:=Prod.mk.inj hS;refine Z_7 ?_;refine xE ?_;exact gr
 rw[hc1,ah]at hS;have hpl:p<C.length:=bY;obtain⟨i,hx⟩:∃i,C[p]? =some i:=⟨_,ae hpl⟩;rw[show C.getD p HI.zero=i by grind]at hS;have hg:=hC i (ak hx);obtain⟨ad,rfl⟩:=hsome Wq1;obtain⟨rd1,rd2⟩:=hg.rd;obtain⟨ra1,ra2⟩:=hg.ra;obtain⟨rb1,rb2⟩:=hg.rb;obtain⟨im1,im2⟩:=hg.imm;obtain⟨op1,op2⟩:=hg.op;obtain⟨op,rd,ra,rb,im⟩:=i;dsimp only at rd1 rd2 ra1 ra2 rb1 rb2 im1 im2 op1 op2;obtain⟨rd,rfl⟩:∃k:Nat,rd=k:=ao rd1;obtain⟨ra,rfl⟩:∃k:Nat,ra=k:=ao ra1;obtain⟨rb,rfl⟩:∃k:Nat,rb=k:=ao rb1;have hd0:hdo ⟨op,(rd:Int),(ra:Int),(rb:Int),im⟩ ⟨R,W,(p:Int)⟩=(bif op==0 then(0,⟨R,W,(p:Int)+1⟩)else bif op==1 then(0,⟨R.set rd im,W,(p:Int)+1⟩)else bif op==14||op==15 then(bif decide ((W.length:Int)<=IntKind.u64.wrap (R.getD ra 0+im))then(4,⟨R,W,(p:Int)⟩)else bif op==14 then(0,⟨R.set rd (W.getD (IntKind.u64.wrap (R.getD ra 0+im)).toNat 0),W,(p:Int)+1⟩)else(0,⟨R,W.set (IntKind.u64.wrap (R.getD ra 0+im)).toNat (IntKind.u32.wrap (R.getD rb 0)),(p:Int)+1⟩))else bif op==16||op==17 then(0,⟨R,W,bif(R.getD ra 0==0)==(op==16)then im else(p:Int)+1⟩)else bif op==18 then(0,⟨R,W,im⟩)else bif op==19 then(1,⟨R,W,(p:Int)⟩)else(0,⟨R.set rd (kH op (R.getD ra 0) (R.getD rb 0)),W,(p:Int)+1⟩)):=rfl;rw[hd0,hW]at hS;have ea:=AO hr ra;have eb:=AO hr rb;obtain⟨a,hae⟩:=Zgn (R.getD ra 0);obtain⟨b,hbe⟩:=Zgn (R.getD rb 0);have hra:=hm_r (bw:=bw) (Ac:=some ad) (n:=C.length) (cc:=cc) (pc:=(p:Int)) hR (show ra<16 by omega);have hrb:=hm_r (bw:=bw) (Ac:=some ad) (n:=C.length) (cc:=cc) (pc:=(p:Int)) hR (show rb<16 by omega);rw[hae]at hS ea hra;rw[hbe]at hS eb hrb;have hpl2:IntKind.u64.wrap (a+im)=((IntKind.u64.wrap (a+im)).toNat:Nat):=(by rw[aU];omega);obtain⟨pl,hple⟩:∃k:Nat,(IntKind.u64.wrap (a+im)).toNat=k:=⟨_,rfl⟩;rw[hple]at hpl2;rw[hpl2,aN]at hS;refine Z_3 ?_;refine bU (Zdn [11]) Zk (pP ?_);refine ZFe 2 17 ?_;refine Zy5 3 rfl (bM Zrf Zv0) (cB Zh (hm_c hR)) ?_;refine ZE 4 ?_;refine ZE 5 ?_;refine ZFe 6 18 ?_;refine Zy5 7 rfl (bM Zrf Zv0) (cB Zh (hm_p hR)) ?_;refine Zy4 8 rfl (cC (j:=p) rfl Zrf (Zv rfl) (Zv rfl) Wq2 Wq2) ?_;refine Zy5 9 rfl (bW (vs:=[.i op,.i rd,.i ra,.i rb,.w im]) Zrf Zrf Zv0) (vt Zh (λj v hj=>bZ (f:=HI.cells) Zrf (i:=j) hx hj)) ?_;refine mb ?_;refine ZP λb3=>?_
 refine cW 11 Zk (ZR ?_);refine jU ?_;refine bU (Zdn []) Zk (ZE 0 ?_);refine ZFe 1 2 ?_;refine ZG 2 ?_;refine ZE 3 ?_;refine ZFe 4 0 ?_;refine Zy4 5 rfl (dz (j:=ra) (sz:=1) (r:=ra) rfl Zrf (Zv rfl) (Zv rfl) Wq2 Wq2 Wq1) ?_;refine Zy5 6 rfl (bM Zrf Zv0) (cB Zh hra) ?_;refine ZE 7 ?_;refine ZFe 8 3 ?_;refine ZG 9 ?_;refine ZE 10 ?_;refine ZFe 11 0 ?_;refine Zy4 12 rfl (dz (j:=rb) (sz:=1) (r:=rb) rfl Zrf (Zv rfl) (Zv rfl) Wq2 Wq2 Wq1) ?_;refine Zy5 13 rfl (bM Zrf Zv0) (cB Zh hrb) ?_;refine ZE 14 ?_;refine ZE 15 ?_;refine dR ?_;refine Z_6 ?_;refine xC ?_;refine Zy (eK Zv0 Zv0 hpl2) ?_;refine Z_8 ?_;refine dQ (bM Zrf Zv0) (cB Zh (hm_p hR)) rfl (rh ?_);refine ue ?_;refine ZW ?_ ?_<;>intro hc9
 .rw[hc9,ai]at hS;obtain⟨rfl,rfl⟩:=Prod.mk.inj hS;refine Z_9 ?_;exact Wq16
 rw[hc9,ah]at hS;refine Zw6 ?_ ?_<;>intro hc10
 .rw[hc10,ai]at hS;obtain⟨rfl,rfl⟩:=Prod.mk.inj hS;refine bU (Zdn [9]) Zk (Ln ?_);refine ZFe 3 4 ?_;refine ZG 4 ?_;refine Zy4 5 rfl (cU rfl rfl (Zv rfl) UL) ?_;refine ZE 6 ?_;refine ZFe 7 0 ?_;refine Zy4 8 rfl (dz (j:=rd) (sz:=1) (r:=rd) rfl Zrf (Zv rfl) (Zv rfl) Wq2 Wq2 Wq1) ?_;refine kR ?_;exact Wq121
 rw[hc10,ah]at hS;refine Zw7 ?_ ?_<;>intro hc12
 .rw[show(op==14||op==15)=true from by grind,ai]at hS;refine Z_2 ?_;refine cn rfl (hc12) (Z_7 ?_);refine dQ (bM Zrf Zv0) (cB Zh (Tc hR)) rfl (ZA ?_);refine xC ?_;refine Zw3 ?_ ?_<;>intro hc14
  .rw[hc14,ai]at hS;obtain⟨rfl,rfl⟩:=Prod.mk.inj hS;refine Z_9 ?_;refine xE ?_;exact gr
  rw[hc14,ah]at hS;have hp256:pl<256:=(by simp at hc14;omega);have hxw:W[pl]? =some (W.getD pl 0):=(by rw[List.getD_eq_getElem?_getD,ae Wq1];rfl);have hwb:=iN hwd pl;obtain⟨x,hxe⟩:=Zgn (W.getD pl 0);rw[hxe]at hxw hwb hS;refine Zw9 ?_ ?_<;>intro hc16
  .rw[hc16,ai]at hS;obtain⟨rfl,rfl⟩:=Prod.mk.inj hS;refine bU (Zdn [14]) Zk (Ln ?_);refine ZE 3 ?_;refine ZE 4 ?_;refine ZFe 5 16 ?_;exact Wq312
  rw[hc16,ah]at hS;obtain⟨rfl,rfl⟩:=Prod.mk.inj hS;refine Z_4 ?_;refine Wq274 ?_;rintro _ _ ⟨rfl,rfl⟩;rw[fQ];refine Z_9 ?_;exact Wq16
 refine Zw5 ?_ ?_<;>intro hc13
 .rw[show(op==14||op==15)=true from by grind,ai]at hS;refine Z_7 ?_;refine dQ (bM Zrf Zv0) (cB Zh (Tc hR)) rfl (ZA ?_);refine xC ?_;refine Zw3 ?_ ?_<;>intro hc14
  .rw[hc14,ai]at hS;obtain⟨rfl,rfl⟩:=Prod.mk.inj hS;refine Z_9 ?_;refine xE ?_;exact gr
  rw[hc14,ah]at hS;have hp256:pl<256:=(by simp at hc14;omega);have hxw:W[pl]? =some (W.getD pl 0):=(by rw[List.getD_eq_getElem?_getD,ae Wq1];rfl);have hwb:=iN hwd pl;obtain⟨x,hxe⟩:=Zgn (W.getD pl 0);rw[hxe]at hxw hwb hS;refine Zw9 ?_ ?_<;>intro hc16
  .rw[hc16,ai]at hS;obtain⟨rfl,rfl⟩:=Prod.mk.inj hS;refine bU (Zdn [14]) Zk (Ln ?_);refine ZE 3 ?_;refine ZE 4 ?_;refine ZFe 5 16 ?_;exact Wq312
  rw[hc16,ah]at hS;obtain⟨rfl,rfl⟩:=Prod.mk.inj hS;refine Z_4 ?_;refine Wq274 ?_;rintro _ _ ⟨rfl,rfl⟩;rw[fQ];refine Z_9 ?_;exact Wq16
 rw[show(op==14||op==15)=false from by grind,ah]at hS;refine Zw7 ?_ ?_<;>intro hc19
 .rw[show(op==16||op==17)=true from by grind,ai]at hS;refine Z_2 ?_;refine cn rfl (hc19) (mZ ?_ ?_)<;>intro hc21
  .rw[hc21,ai]at hS;exact Wq354
  rw[hc21,ah]at hS;obtain⟨rfl,rfl⟩:=Prod.mk.inj hS;refine Z_9 ?_;exact Wq16
 refine Zw5 ?_ ?_<;>intro hc20
 .rw[show(op==16||op==17)=true from by grind,ai]at hS;refine mZ ?_ ?_<;>intro hc21
  .rw[hc21,ai]at hS;exact Wq354
  rw[hc21,ah]at hS;obtain⟨rfl,rfl⟩:=Prod.mk.inj hS;refine Z_9 ?_;exact Wq16
 rw[show(op==16||op==17)=false from by grind,ah]at hS;refine Zw6 ?_ ?_<;>intro hc23
 .rw[hc23,ai]at hS;exact Wq354
 rw[hc23,ah]at hS;refine Zw6 ?_ ?_<;>intro hc25
 .rw[hc25,ai]at hS;obtain⟨rfl,rfl⟩:=Prod.mk.inj hS;refine Z_8 ?_;refine xE ?_;exact gr
 rw[hc25,ah]at hS;obtain⟨rfl,rfl⟩:=Prod.mk.inj hS;refine bU (Zdn [11]) Zk (Ln ?_);refine ZFe 3 0 ?_;refine BW ?_;refine ZE 8 ?_;refine ZFe 9 0 ?_;refine ic ?_;refine ZTn (λw hi=>KK op a b ea eb w) ?_;rintro _ _ ⟨rfl,rfl⟩;refine Zy4 10 rfl (dz (j:=rd) (sz:=1) (r:=rd) rfl Zrf (Zv rfl) (Zv rfl) Wq2 Wq2 Wq1) ?_;exact cW 11 Zk Wq121
theorem hdo_one(h:(hdo i m).1=1):(hdo i m).2=m:=by
 grind [hdo,qK]
theorem KJ(h:(Wr C m).1=1):(Wr C m).2=m/\0<=m.pc/\m.pc<C.length:=by
 grind [Wr,hdo_one]
theorem Iy{C:List HI}(hC:fZ C):∀(f:Nat) (m:HM),0<=(j0 C f m).1.2/\(j0 C f m).1.2<=4294967295
 |0,m=>z32
 |f+1,m=>by
  show 0<=(bif(Wr C m).1==0 then j0 C f (Wr C m).2 else bif(Wr C m).1==1 then((1,(C.getD (Wr C m).2.pc.toNat HI.zero).imm),(Wr C m).2)else(((Wr C m).1,0),(Wr C m).2)).1.2/\(bif(Wr C m).1==0 then j0 C f (Wr C m).2 else bif(Wr C m).1==1 then((1,(C.getD (Wr C m).2.pc.toNat HI.zero).imm),(Wr C m).2)else(((Wr C m).1,0),(Wr C m).2)).1.2<=_;cases(Wr C m).1==0 with
  |true=>exact Iy hC f _
  |false=>cases(Wr C m).1==1 with
   |true=>
    show 0<=(C.getD (Wr C m).2.pc.toNat HI.zero).imm/\(C.getD (Wr C m).2.pc.toNat HI.zero).imm<=_;rw[List.getD_eq_getElem?_getD];by_cases hl:(Wr C m).2.pc.toNat<C.length
    .rw[ae hl];exact(hC _ (List.getElem_mem hl)).imm
    rw[List.getElem?_eq_none Wq1];exact⟨by decide,by decide⟩
   |false=>exact z32
theorem RQ{s:St}(h:s.wf)(hr:s.right=true):wds (WW s):=by
 obtain⟨h1,h2, -⟩:=St.fits hr;have hset:∀(W:Li) (k:Nat) (v:Int),wds W->(0<=v/\v<=4294967295)->wds (W.set k v):=λW k v hW hv x hx=>by
  rcases FQ hx with q|q
  .exact hW x q
  omega
 have hlay:∀(W:Li) (f:Nat) (l:Li),wds W->wds l->∀k,wds (kb W f l k):=λW f l hW hl k=>by
  induction k with
  |zero=>exact hW
  |succ k ih=>exact hset _ _ _ ih (iN hl k)
 have h0:wds (List.replicate 256 (0:Int)):=λx hx=>by grind
 have hd:wds s.d:=λx hx=>h.d x hx
 have hrr:wds s.r:=λx hx=>h.r x hx
 have a1:=hset _ 0 s.pc h0 h.pc;have a2:=hset _ 1 s.flags a1 h.flags
 grind [WW]
theorem hm0_of{R W:Li}(h0:R.length=16)(h1:W.length=256)(h2:r64 R)(h3:wds W):HM.ok ⟨R,W,0⟩:=⟨h0,h1,h2,h3,Int.le_refl _⟩
theorem hm0_ok{s:St}(h:s.wf)(hr:s.right=true):HM.ok ⟨List.replicate 16 0,WW s,0⟩:=
 hm0_of aI (Hs s) (λx hx=>by grind) (RQ h hr)
theorem hrun_ok(hC:fZ C):∀(f:Nat) (m:HM),m.ok->(j0 C f m).2.ok
 :=by intro y1;induction y1<;>grind [Ix,Wr,j0]
theorem Tb(bm bw:Nat)(Ac:Oa)(cc:Nat)(C:List HI)(hC:fZ C)(steps:Nat)(hst:steps<=100000)(m:HM)(hm:m.ok):CI prog 193 [.p bm,.i steps] (hmF bm bw Ac cc C m) (λx cs=>∃n:Nat,x= .tuple #[.i (j0 C steps m).1.1,.w (j0 C steps m).1.2,.i n]/\cs=hmF bm bw Ac cc C (j0 C steps m).2):=λw hi=>by
 have hcap:=(dx (hi.get (show Has _ (hiC Ac cc C)from by repeat (first|exact .head _ _|apply Has.tail)))).cap;have hmx:=(dx (hi.get (show Has _ (hiC Ac cc C)from by repeat (first|exact .head _ _|apply Has.tail)))).max;have hsome:=λh=>(dx (hi.get (show Has _ (hiC Ac cc C)from by repeat (first|exact .head _ _|apply Has.tail)))).some_ h
 simp only[maxLen]at hmx;obtain⟨⟨⟨how,im⟩,m9⟩,hq⟩:=Zgn (j0 C steps m);rw[hq];have hq0:j0 C (steps - 0) m=((how,im),m9):=hq;refine Zfn func193 ntmps193 hi ?_;refine jl ?_;refine wLo (λq:Nat×HM=>[(0,.p bm),(1,.i steps),(7,.i (q.1:Int))]) (λq=>hmF bm bw Ac cc C q.2) (λq=>q.1<=steps/\q.2.ok/\j0 C (steps - q.1) q.2=((how,im),m9)) (λq=>steps - q.1) (⟨0,m⟩) bY ?_;rintro⟨k,m⟩ ⟨hk,hm,hE⟩;dsimp only at hk hm hE|-;have HS:=OP bm bw Ac cc C hC m hm;have hm2:=Ix hC hm;have hex:=KJ (C:=C) (m:=m);refine Zw8 ?_ ?_<;>intro hc2
 .simp only[ac]at hc2;obtain⟨f,hf⟩:∃f,steps - k=f+1:=⟨steps - k - 1,by omega⟩;rw[hf]at hE;have hE:(bif(Wr C m).1==0 then j0 C f (Wr C m).2 else bif(Wr C m).1==1 then((1,(C.getD (Wr C m).2.pc.toNat HI.zero).imm),(Wr C m).2)else(((Wr C m).1,0),(Wr C m).2))=((how,im),m9):=hE;obtain⟨⟨why,m2⟩,hsq⟩:=Zgn (Wr C m);rw[hsq]at hE HS hm2 hex;dsimp only at hE hm2 hex;refine Z_7 ?_;refine ZcM (hmF bm bw Ac cc C m) (λw hi hin=>HS w hin) ?_;refine oU ?_;refine ZW ?_ ?_<;>intro hc7
  .rw[hc7,ai]at hE;refine xu ?_;refine qMM ((⟨k+1,m2⟩:Nat×HM)) bY
  rw[hc7,ah]at hE;refine Zw6 ?_ ?_<;>intro hc8
  .rw[hc8,ai]at hE;obtain⟨he1,rfl⟩:=Prod.mk.inj hE;obtain⟨rfl,rfl⟩:=Prod.mk.inj he1;have hw1:why=1:=bY;subst hw1;obtain⟨rfl,hp0,hpl⟩:=hex rfl;have hR:=hm.rl;obtain⟨p,hpe⟩:∃p:Nat,m2.pc=p:=ao hp0;rw[hpe]at hpl;have hx:C[p]? =some (C.getD p HI.zero):=bY;rw[show m2.pc.toNat=p by omega];obtain⟨ad,rfl⟩:=hsome Wq1;obtain⟨i,hie⟩:=Zgn (C.getD p HI.zero);rw[hie]at hx|-;refine Zs (bU (Zdn []) Zk ?_);refine pS ?_;refine ZFe 3 17 ?_;refine Zy5 4 rfl (bM Zrf Zv0) (cB Zh (hm_c hR)) ?_;refine kU ?_;refine ZFe 7 18 ?_;refine Zy5 8 rfl (bM Zrf Zv0) (cB Zh (hm_p hR)) ?_;refine Zy4 9 rfl (cC (j:=p) rfl Zrf (Zv rfl) (Zv rfl) (λ_=>hpe) Wq2) ?_;refine Zy4 10 rfl (cR 4 rfl (Zv rfl) ((cu ad (p*5) 4))) ?_;refine Zy5 11 rfl (bM Zrf (Zv rfl)) (λw hi z hz=>by rw[aC]at hz;subst hz;exact(hi.rd (Zhc (hiC (some ad) cc C))).at_ ad rfl (p*5+4) (.w i.imm) (bZ (f:=HI.cells) Zrf (i:=4) hx rfl)) ?_;refine ZE 12 ?_;refine ZE 13 ?_;refine ZE 14 ?_;refine ZE 15 ?_;refine dR ?_;refine Z_8 ?_;exact Wq269
  rw[hc8,ah]at hE;obtain⟨he1,rfl⟩:=Prod.mk.inj hE;obtain⟨rfl,rfl⟩:=Prod.mk.inj he1;refine rc ?_;exact Wq269
 simp only[aa]at hc2;obtain rfl:k=steps:=Wq1;rw[Nat.sub_self]at hE;obtain⟨he1,rfl⟩:=Prod.mk.inj hE;obtain⟨rfl,rfl⟩:=Prod.mk.inj he1;refine Z_8 ?_;refine Zy (Jt (Zv rfl) (Zv rfl) (show _=((k:Nat):Int)from by omega)) ?_;refine Z_6 ?_;exact Wq269
theorem DE(bm bw:Nat)(Ac:Oa)(n cc:Nat)(R W:Li)(pc:Int)(hR:R.length=16)(hW:W.length=256)(f k:Nat)(hf:f<=100)(hk:k<=16)(w:World)(h:(fR bm bw Ac n cc R pc).ok w)(h2:(hwC bw W).ok w):
  Ctr prog 226 [.p bm,.i f,.w k] w [] (λx cs=>∃A c,x= .slice A (fO W f k).length c/\cs=[sl .u32 49 A (fO W f k).length c (fO W f k)]):=by
 have hl:∀j,(fO W f j).length=j:=λj=>by simp[fO]
 have hsn:∀j,fO W f (j+1)=fO W f j++[W.getD (f+j) 0]:=λj=>by unfold fO;rw[List.range_succ,List.map_append];rfl
 refine Zfs func226 ntmps226 ?_;refine ng ?_;refine cY 49 1 (ZA ?_);refine lD ?_;refine Z_4 ?_;refine wLo (λq:Nat×Option Addr×Nat=>[(0,.p bm),(1,.i f),(7,.slice q.2.1 (fO W f q.1).length q.2.2),(10,.i k),(11,.i (q.1:Int))]) (λq=>[sl .u32 49 q.2.1 (fO W f q.1).length q.2.2 (fO W f q.1)]) (λq=>q.1<=k) (λq=>k - q.1) (⟨0,none,0⟩) Wq1 ?_;rintro⟨j,A,c⟩ hj;dsimp only at hj|-;refine Zw6 ?_ ?_<;>intro hc3
 .simp only[ac]at hc3;have hlj:=hl j;refine oU ?_;refine Zy (eK (Zv rfl) (Zv rfl) (show _=((f+j:Nat):Int)from by rw[bD _ ⟨by omega,by omega⟩];omega)) ?_;refine ZSe (λw hi=>Iw bm bw Ac n cc R W pc hR hW (f+j) Wq1 w (bJ.old h hi) (bJ.old h2 hi)) ?_;refine jD ?_;rintro _ _ ⟨b20,rfl,rfl⟩;refine fo (bV (e:=49) (sz:=1) (bytes:=4) rfl rfl Za rfl rfl (λw hi=>hi.rd (Zhc (slv 49 1 (sA b20) 1 1 (ints .u32 [W.getD (f+j) 0])))) cN Wq9 Wq1) rfl ?_;rintro _ _ ⟨A2,c2,rfl,rfl⟩;rw[cj,<-hsn,show(fO W f j).length+1=(fO W f (j+1)).length by rw[hl,hl]];refine lI ?_;refine qMM ((⟨j+1,A2,c2⟩:Nat×Option Addr×Nat)) Wq1
 simp only[aa]at hc3;obtain rfl:j=k:=by omega
 refine fb ?_;exact Qg
theorem hget_ok(bm bw:Nat)(Ac:Oa)(n cc:Nat)(R W:Li)(pc:Int)(hR:R.length=16)(hW:W.length=256)(hwd:wds W)(s:St)(Ad Ar:Oa)(cd cr:Nat)(w:World)(h:(fR bm bw Ac n cc R pc).ok w)(h2:(hwC bw W).ok w)(h3:rj w s Ad Ar cd cr):
  Ctr prog 194 [.p bm,sv s Ad cd Ar cr] w [] (λx cs=>∃X:ko,x= .tuple #[sv (bif nv W then oZ W s else s) X.Ad X.cd X.Ar X.cr,.bool (nv W)]/\cs=[slD (bif nv W then oZ W s else s) X.Ad X.cd,slR (bif nv W then oZ W s else s) X.Ar X.cr]):=by
 have HW:=Iw bm bw Ac n cc R W pc hR hW;obtain⟨x2,e2,y2⟩:=nk hwd 2;obtain⟨x3,e3,y3⟩:=nk hwd 3;have y36:=iN hwd 36;obtain⟨x36,e36⟩:=Zgn (W.getD 36 0);have hgs:oZ W s=⟨W.getD 0 0,fO W 4 x2,fO W 20 x3,W.getD 1 0,s.Wf,s.Wn,s.ie,s.root,s.vec,s.epc,s.Wg,s.addr,s.Wu,s.eie,IntKind.u64.wrap (s.count+x36),s.halted⟩:=by unfold oZ;rw[e2,e3,e36,aN,aN]
 have htk:nv W= !((decide (16<(x2:Int))||decide (16<(x3:Int)))||decide (15<W.getD 1 0)):=by unfold nv;rw[e2,e3]
 rw[e36]at y36;have W2:=HW 2 bX;have W3:=HW 3 bX;have W36:=HW 36 bX;rw[e2]at W2;rw[e3]at W3;rw[e36]at W36;obtain⟨b,hb⟩:=Zgn (nv W);rw[hb]at htk|-;refine Zfs func194 ntmps194 ?_;refine Z_2 ?_;refine ZO λb3=>?_;refine ZN λb4=>?_
 refine Z_6 ?_;refine ZSn (λw hi=>mM s Ad Ar cd cr w (h3.Wh hi)) ?_;rintro _ _ ⟨A1,c1,A2,c2,rfl,rfl⟩;refine ZM ?_;refine Z_9 ?_;refine dE (bQ rfl rfl) (.cons (cA rfl) .nil) (λ_ _=>rfl) (λhg w hi=>DC bm bw Ac n cc R pc hR w (bJ.old h hi)) rfl (Z_4 ?_);refine dE (bQ rfl rfl) (.cons (cA rfl) (.cons Zv0 .nil)) (λ_ _=>rfl) (λhg w hi=>W2 w (bJ.old h hi) (bJ.old h2 hi)) rfl (Z_4 ?_);refine dE (bQ rfl rfl) (.cons (cA rfl) (.cons Zv0 .nil)) (λ_ _=>rfl) (λhg w hi=>W3 w (bJ.old h hi) (bJ.old h2 hi)) rfl (Z_4 ?_);refine dE (bQ rfl rfl) (.cons (cA rfl) (.cons (Zv rfl) .nil)) (λ_ _=>rfl) (λhg w hi=>HW 1 bX w (bJ.old h hi) (bJ.old h2 hi)) rfl (Z_4 ?_);refine ZW ?_ ?_<;>intro hc2
 .have hc:((decide (16<(x2:Int))||decide (16<(x3:Int)))||decide (15<W.getD 1 0))=true:=hc2;rw[hc]at htk;obtain rfl:b=false:=htk;refine Z_3 ?_;exact Wq423
 have hc:((decide (16<(x2:Int))||decide (16<(x3:Int)))||decide (15<W.getD 1 0))=false:=hc2;rw[hc]at htk;obtain rfl:b=true:=htk;simp only[aS,aa]at hc;have HT2:=DE bm bw Ac n cc R W pc hR hW 4 x2 bX Wq1;have HT3:=DE bm bw Ac n cc R W pc hR hW 20 x3 bX Wq1;rw[ai,hgs];refine Z_5 ?_;refine ZSe (λw hi=>HW 0 bX w (bJ.old h hi) (bJ.old h2 hi)) ?_;refine ZA ?_;refine ZSe (λw hi=>HW 1 bX w (bJ.old h hi) (bJ.old h2 hi)) ?_;refine iJ ?_;refine iJ ?_;refine Z_6 ?_;refine ZSe (λw hi=>W2 w (bJ.old h hi) (bJ.old h2 hi)) ?_;refine ZSn (λw hi=>HT2 w (bJ.old h hi) (bJ.old h2 hi)) ?_;rintro _ _ ⟨A3,c3,rfl,rfl⟩;refine Z_2 ?_;refine ZSe (λw hi=>W3 w (bJ.old h hi) (bJ.old h2 hi)) ?_;refine ZSn (λw hi=>HT3 w (bJ.old h hi) (bJ.old h2 hi)) ?_;rintro _ _ ⟨A4,c4,rfl,rfl⟩;refine iJ ?_;refine iJ ?_;refine Z_3 ?_;refine bU (Zdn [7]) Zk (ZFe 0 14 ?_);refine ZG 1 ?_;refine ZE 2 ?_;refine cW 3 Zk (ZTn (λw hi=>W36 w (bJ.old h hi) (bJ.old h2 hi)) ?_);rintro _ _ ⟨rfl,rfl⟩;refine Zy4 4 rfl (cU rfl rfl (Zv rfl) UL) ?_;refine Zy4 5 rfl (eK Zv0 Zv0 rfl) ?_;refine ZFe 6 14 ?_;refine ic ?_;refine o9 ?_;refine Z_4 ?_;refine jC ?_;exact px (cs':=[sl .u32 49 A3 (fO W 4 x2).length c3 (fO W 4 x2),sl .u32 49 A4 (fO W 20 x3).length c4 (fO W 20 x3)]) (.inl rfl) Zu rfl rfl rfl Zh Zrf Zrf ⟨⟨A3,c3,A4,c4⟩,rfl,rfl⟩
theorem erun_ok(A:Oa)(c:Nat)(C:List HI)(hC:fZ C)(hl:C.length<=100000)(s:St)(hw:s.wf)(hs:s.right=true)(Ad Ar:Oa)(cd cr:Nat)(w:World)(h:Rd w .u8 A (cI C).length c (cI C))(h3:rj w s Ad Ar cd cr):
  Ctr prog 170 [.slice A (cI C).length c,sv s Ad cd Ar cr] w [] (λx cs=>∃X:ko,x= .tuple #[sv (iu C s).1 X.Ad X.cd X.Ar X.cr,.i (iu C s).2]/\cs=[slD (iu C s).1 X.Ad X.cd,slR (iu C s).1 X.Ar X.cr]):=by
 have h0:=hm0_ok hw hs;have hm9:=hrun_ok hC 4096 _ h0;have him:=Iy hC 4096 ⟨List.replicate 16 0,WW s,0⟩;have hrc:iu C s=Hl s (j0 C 4096 ⟨List.replicate 16 0,WW s,0⟩):=rfl;obtain⟨W0,hW0⟩:=Zgn (WW s);have HP:=λbm bw w hi h=>hput_ok bm bw s hs hw Ad Ar cd cr w hi h
 obtain⟨R0,hR0⟩:=Zgn (List.replicate 16 (0:Int));obtain⟨Z0,hZ0⟩:=Zgn (List.replicate 256 (0:Int));have HN:=hnew_ok;rw[hW0,hR0]at h0 hm9 hrc him;rw[hR0,hZ0]at HN HP;rw[hW0]at HP;have HR:=λbm bw Ac cc w hi=>Tb bm bw Ac cc C hC 4096 bX ⟨R0,W0,0⟩ h0 w hi
 obtain⟨⟨⟨how,im⟩,m9⟩,hq⟩:=Zgn (j0 C 4096 ⟨R0,W0,0⟩);rw[hq]at HR hrc hm9 him;dsimp only at HR hrc hm9 him;have hre:Hl s ((how,im),m9)=bif how !=1 then(s,0)else bif nv m9.words then(oZ m9.words s,im)else(s,0):=rfl
 rw[hrc,hre];clear hrc hq hre;have hR16:R0.length=16:=h0.rl;have HG:=λbm bw Ac cc w h1 h2 h3=>hget_ok bm bw Ac C.length cc m9.WJ m9.words m9.pc hm9.rl hm9.wl hm9.w s Ad Ar cd cr w h1 h2 h3
 obtain⟨tk,htk⟩:=Zgn (nv m9.words);obtain⟨s9,hs9⟩:=Zgn (oZ m9.words s);rw[htk,hs9]at HG|-;refine Zfs func170 ntmps170 ?_;refine Z_2 ?_;refine ZO λb3=>?_;refine ZN λb4=>?_
 refine Z_5 ?_;refine ZSn (λw hi=>HN w) ?_;rintro _ _ ⟨bm,bw,rfl,rfl⟩;refine jl ?_;refine mj (bQ rfl rfl) Zh Zrf Zrf (Zv rfl) rfl (fF (bQ rfl rfl) rfl (dN ([fR bm bw none 0 0 R0 0,hwC bw Z0]) rfl (λ_ _=>rfl) Zi (λw hi hin=>HP bm bw w hin (λw' hk=>⟨RdV.Wm h3.d hi Zi hk,RdV.Wm h3.r hi Zi hk,h3.hd,h3.hr⟩))) rfl ?_);rintro _ _ ⟨_,⟨rfl,rfl⟩,rfl⟩;refine Z_5 ?_;refine fF (bQ rfl rfl) rfl (dN ([fR bm bw none 0 0 R0 0,hwC bw W0]) rfl (λ_ _=>rfl) Zi (λw hi hin=>Td bm bw R0 W0 hR16 A c C hC hl w hin (λw' hk=>RdV.Wm h hi Zi hk))) rfl ?_;rintro _ _ ⟨_,⟨Ac,cc,rfl,rfl⟩,rfl⟩;refine Z_4 ?_;refine kv ?_;refine Z_5 ?_;refine dy (hmF bm bw Ac cc C ⟨R0,W0,0⟩) (λw hi hin=>HR bm bw Ac cc w hin) ?_;rintro _ _ ⟨n,rfl,rfl⟩;refine rc ?_;refine ZW ?_ ?_<;>intro hc5
 .rw[hc5,ai];refine Z_3 ?_;refine ZSn (λw hi=>mM s Ad Ar cd cr w (h3.Wh hi)) ?_;rintro _ _ ⟨A1,c1,A2,c2,rfl,rfl⟩;exact Wq423
 rw[hc5,ah];refine Z_6 ?_;refine ZSn (λw hi=>HG bm bw Ac cc w (hi.get Zh) (hi.get Zh) (h3.Wh hi)) ?_;rintro _ _ ⟨X,rfl,rfl⟩;refine Z_3 ?_;refine ZN λb11=>?_
 refine sF ?_;refine ZW ?_ ?_<;>intro hc8
 .obtain rfl:tk=false:=bY;refine Z_3 ?_;refine mR ?_;exact px (cs':=[slD s X.Ad X.cd,slR s X.Ar X.cr]) (.inl rfl) Zu rfl rfl rfl Zh Zrf Zrf ⟨X,rfl,rfl⟩
 obtain rfl:tk=true:=bY;refine Z_6 ?_;refine lD ?_;refine jC ?_;exact px (cs':=[slD s9 X.Ad X.cd,slR s9 X.Ar X.cr]) (.inl rfl) Zu rfl rfl rfl Zh Zrf Zrf ⟨X,rfl,rfl⟩
end
end Go.Ink
