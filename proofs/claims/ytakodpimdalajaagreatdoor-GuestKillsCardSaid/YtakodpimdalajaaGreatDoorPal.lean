/- Lemmas. -/
import Derived.Test.YtakodpimdalajaaGreatDoorPaa
import Derived.Test.YtakodpimdalajaaGreatDoorPab
import Derived.Test.YtakodpimdalajaaGreatDoorPah
import Derived.Test.YtakodpimdalajaaGreatDoorPak
set_option linter.unusedSimpArgs false
set_option linter.unusedVariables false
set_option maxRecDepth 100000
set_option maxHeartbeats 4000000
namespace Go.Ink
open Go.RowKit
abbrev HI.cells(i:HI):List Value:=[.int .i64 i.op,.int .i64 i.rd,.int .i64 i.ra,.int .i64 i.rb,.int .u32 i.imm]
abbrev hiv(i:HI):Value:= .agg i.cells.toArray
def tQ(i:HI):HI×Bool:=
 bif i.op==0 then(⟨i.op,0,0,0,0⟩,true)else bif i.op==1 then(⟨i.op,i.rd,0,0,i.imm⟩,true)else bif i.op==2 then(⟨i.op,i.rd,i.ra,0,0⟩,true)else
 bif decide (3≤i.op)&&decide (i.op≤13)then(⟨i.op,i.rd,i.ra,i.rb,0⟩,true)else bif i.op==14 then(⟨i.op,i.rd,i.ra,0,i.imm⟩,true)else bif i.op==15 then(⟨i.op,0,i.ra,i.rb,i.imm⟩,true)else
 bif i.op==16||i.op==17 then(⟨i.op,0,i.ra,0,i.imm⟩,true)else bif i.op==18||i.op==19 then(⟨i.op,0,0,0,i.imm⟩,true)else(⟨i.op,0,0,0,0⟩,false)
structure HI.Ka(i:HI):Prop where
 asked:tQ i=(i,true)
 rd:0≤i.rd∧i.rd≤15
 ra:0≤i.ra∧i.ra≤15
 rb:0≤i.rb∧i.rb≤15
 imm:0≤i.imm∧i.imm≤4294967295
theorem HI.Ka.op{i:HI}(h:i.Ka):0≤i.op∧i.op≤19:=by
 have ha:=h.asked;unfold tQ at ha;by_cases c0:i.op=0
 ·omega
 by_cases c1:i.op=1
 ·omega
 by_cases c2:i.op=2
 ·omega
 by_cases c3:3≤i.op∧i.op≤19
 ·omega
 rw[show(i.op==0)=false by simpa using c0,show(i.op==1)=false by simpa using c1,show(i.op==2)=false by simpa using c2,show(decide (3≤i.op)&&decide (i.op≤13))=false by(simp;omega),
  show(i.op==14)=false by(simp;omega),show(i.op==15)=false by(simp;omega),show(i.op==16)=false by(simp;omega),show(i.op==17)=false by(simp;omega),show(i.op==18)=false by(simp;omega),show(i.op==19)=false by(simp;omega)]at ha
 injection ha with _ h2
 cases h2
def qd(i:HI):List Int:=[i.op,i.rd,i.ra,i.rb,i.imm%256,i.imm/256%256,i.imm/65536%256,i.imm/16777216%256]
def cF(l:List HI):List Int:=l.flatMap qd
theorem iV:∀l:List HI,(cF l).length=8*l.length
 |[]=>rfl
 |i::l=>by
  have:=iV l;show(qd i++cF l).length=_;rw[ae,this];show 8+_=8*(l.length+1);omega
theorem yE(l:List HI)(i:HI):cF (l++[i])=cF l++qd i:=by simp[cF]
theorem or_up{a b k:Nat}(ha:a<2^k)(hab:b*2^k+a<4294967296)(hk:k≤24):bits .or .u32 (a:Int) (IntKind.u32.wrap ((b:Int)*2^(min (k:Int).toNat IntKind.u32.bits)))=((b*2^k+a:Nat):Int):=by
 have e1:min (k:Int).toNat IntKind.u32.bits=k:=by rw[aO];show min k 32=k;omega
 rw[e1];have e2:IntKind.u32.wrap ((b:Int)*2^k)=((b*2^k:Nat):Int):=by
  rw[aE];have:((b:Int)*2^k)=((b*2^k:Nat):Int):=by simp
  rw[this];omega
 rw[e2,or32 Wq1 Wq1,Nat.or_comm,Nat.mul_comm b,←Nat.two_pow_add_eq_or_of_lt ha]
theorem Hq{m:Nat}(h:m<4294967296):bits .or .u32 (bits .or .u32 (bits .or .u32 ((m%256:Nat):Int) (IntKind.u32.wrap (((m/256%256:Nat):Int)*2^(min ((8:Nat):Int).toNat IntKind.u32.bits)))) (IntKind.u32.wrap (((m/65536%256:Nat):Int)*2^(min ((16:Nat):Int).toNat IntKind.u32.bits)))) (IntKind.u32.wrap (((m/16777216%256:Nat):Int)*2^(min ((24:Nat):Int).toNat IntKind.u32.bits)))=(m:Int):=by
 rw[or_up (k:=8) Wq1 Wq1 Wq5,or_up (k:=16) Wq1 Wq1 Wq5,or_up (k:=24) Wq1 Wq1 Wq5];omega
theorem z15:(0:Int)≤0∧(0:Int)≤15:=by decide
theorem z32:(0:Int)≤0∧(0:Int)≤4294967295:=by decide
theorem iW{rd v:Int}(h:0≤rd∧rd≤15)(hv:0≤v∧v≤4294967295):HI.Ka ⟨1,rd,0,0,v⟩:=⟨rfl,h,z15,z15,hv⟩
theorem zU{rd ra:Int}(h:0≤rd∧rd≤15)(h2:0≤ra∧ra≤15):HI.Ka ⟨2,rd,ra,0,0⟩:=⟨rfl,h,h2,z15,z32⟩
theorem fN{op rd ra rb:Int}(ho:3≤op∧op≤13)(h:0≤rd∧rd≤15)(h2:0≤ra∧ra≤15)(h3:0≤rb∧rb≤15):HI.Ka ⟨op,rd,ra,rb,0⟩:=by
 refine⟨?_,h,h2,h3,z32⟩;unfold tQ;dsimp only;rw[show(op==0)=false by(simp;omega),show(op==1)=false by(simp;omega),show(op==2)=false by(simp;omega),show(decide (3≤op)&&decide (op≤13))=true by(simp;omega)]
 rfl
theorem rV{rd ra v:Int}(h:0≤rd∧rd≤15)(h2:0≤ra∧ra≤15)(hv:0≤v∧v≤4294967295):HI.Ka ⟨14,rd,ra,0,v⟩:=⟨rfl,h,h2,z15,hv⟩
theorem pv{ra rb v:Int}(h:0≤ra∧ra≤15)(h2:0≤rb∧rb≤15)(hv:0≤v∧v≤4294967295):HI.Ka ⟨15,0,ra,rb,v⟩:=⟨rfl,z15,h,h2,hv⟩
theorem yH{op ra v:Int}(ho:op=16∨op=17)(h:0≤ra∧ra≤15)(hv:0≤v∧v≤4294967295):HI.Ka ⟨op,0,ra,0,v⟩:=by
 rcases ho with rfl|rfl<;>exact⟨rfl,z15,h,z15,hv⟩
theorem w6{v:Int}(hv:0≤v∧v≤4294967295):HI.Ka ⟨19,0,0,0,v⟩:=⟨rfl,z15,z15,z15,hv⟩
def ga(l:List HI):Prop:=∀i,i∈l→i.Ka
theorem dh:ga []:=fun _ h=>by cases h
theorem bX{i:HI}{l:List HI}(h:i.Ka)(k:ga l):ga (i::l):=fun j hj=>by
 rcases aK.1 hj with rfl|hj
 ·exact h
 exact k j hj
theorem di{a b:List HI}(h:ga a)(k:ga b):ga (a++b):=fun j hj=>by
 rcases aS.1 hj with hj|hj
 ·exact h j hj
 exact k j hj
theorem Hs(op:Int):3≤ka op∧ka op≤13:=by
 unfold ka;cases op==16<;>cases op==18<;>cases op==19<;>cases op==20<;>cases op==21<;>cases op==22<;>cases op==23<;>decide
section
variable {pl:Pl} {N:Nat}
theorem Cp(x:Int):0≤IntKind.u32.wrap x∧IntKind.u32.wrap x≤4294967295:=by rw[aE];omega
theorem EI{r:Int}(h:0≤r∧r≤15):ga (I0 r):=bX (iW Wq5 Wq5) (bX (fN Wq5 h h Wq5) dh)
theorem w5{op rd a b:Int}(h:0≤rd∧rd≤15)(ha:0≤a∧a≤15)(hb:0≤b∧b≤15):ga (ul op rd a b):=by
 unfold ul;refine bX (fN (Hs op) h ha hb) ?_;cases uY op with
 |true=>exact dh
 |false=>exact EI h
theorem oF{r up:Int}(h:0≤r∧r≤15)(hu:0≤up∧up≤4294967295):ga (sD r up):=bX (iW Wq5 hu) (bX (fN Wq5 h h Wq5) (bX (fN Wq5 Wq5 Wq5 h) dh))
theorem pW{rd r:Int}(h:0≤rd∧rd≤15)(h2:0≤r∧r≤15):ga (gN rd r):=bX (iW Wq5 Wq5) (bX (fN Wq5 h h2 Wq5) dh)
theorem oE:ga gv:=bX (fN Wq5 Wq5 Wq5 Wq5) (di (pW Wq5 Wq5) (oF Wq5 Wq5))
theorem BZ{op a b:Int}(ha:0≤a∧a≤15)(hb:0≤b∧b≤15):ga (lb op a b):=by
 unfold lb;refine di (di (w5 Wq5 ha hb) (bX (fN Wq5 Wq5 Wq5 Wq5) (di (pW Wq5 Wq5) (oF Wq5 Wq5)))) ?_;cases op==16 with
 |true=>exact bX (fN Wq5 Wq5 Wq5 ha) (di (oF Wq5 Wq5) (bX (fN Wq5 Wq5 ha Wq5) (bX (fN Wq5 Wq5 hb Wq5) oE)))
 |false=>
  cases op==17||op==25 with
  |true=>exact bX (fN Wq5 Wq5 ha hb) (di (oF Wq5 Wq5) (bX (fN Wq5 Wq5 ha hb) (bX (fN Wq5 Wq5 ha Wq5) oE)))
  |false=>exact dh
theorem pw{n into:Int}(h:pl.has n)(hi:0≤into∧into≤15):0≤dP pl n into∧dP pl n into≤15:=by
 unfold dP;rcases h with⟨h1,h2⟩|⟨h1,h2,h3⟩
 ·rw[h1];have h0:0≤pl.r n:=by unfold Pl.inR at h1;simpa using h1
  exact⟨h0,by show pl.r n≤15;omega⟩
 rw[h1];exact hi
theorem jP{n into:Int}(hi:0≤into∧into≤15):ga (jj pl n into):=by
 unfold jj;cases pl.inR n with
 |true=>exact dh
 |false=>exact bX (rV hi Wq5 (Cp _)) dh
theorem BY{n r:Int}(hr:0≤r∧r≤15):ga (iT pl n r):=by
 unfold iT;cases pl.inR n with
 |true=>exact dh
 |false=>exact bX (pv Wq5 hr (Cp _)) dh
theorem EH{nd nr:Int}{n:Nat}{x:II}(hp:∀k:Nat,k<N→pl.has k)(hn:n<N)(hx:x.ok nd nr n):ga (pi nd nr pl n x):=by
 have hN:=hp n hn;have h9:=pw (into:=9) hN Wq5;have hab:x.op=3∨x.op=4→(0≤dP pl x.a 7∧dP pl x.a 7≤15)∧(0≤dP pl x.b 8∧dP pl x.b 8≤15):=fun ho=>by
  obtain⟨⟨a1,a2⟩,b1,b2⟩:=hx.ab ho;have ea:((x.a.toNat:Nat):Int)=x.a:=by omega
  have eb:((x.b.toNat:Nat):Int)=x.b:=by omega
  have ha:=hp x.a.toNat Wq1;have hb:=hp x.b.toNat Wq1;rw[ea]at ha;rw[eb]at hb;exact⟨pw ha Wq5,pw hb Wq5⟩
 unfold pi;refine di ?_ (BY h9);obtain⟨op,dst,a,b,imm⟩:=x;have hop:=hx.op;have him:=hx.imm;dsimp only at hop him hab;rcases hop with rfl|⟨rfl, -⟩|⟨rfl, -⟩|⟨rfl, -⟩|⟨rfl, -⟩
 ·exact bX (iW h9 him) dh
 ·exact bX (rV h9 Wq5 (Cp _)) dh
 ·exact bX (rV h9 Wq5 (Cp _)) dh
 ·exact di (jP Wq5) (di (jP Wq5) (w5 h9 (hab (Or.inl rfl)).1 (hab (Or.inl rfl)).2))
 exact di (jP Wq5) (di (jP Wq5) (di (BZ (hab (Or.inr rfl)).1 (hab (Or.inr rfl)).2) (bX (zU h9 Wq5) dh)))
theorem tS{nd nr:Int}(hp:∀k:Nat,k<N→pl.has k):∀(c:List II) (n:Nat),n+c.length≤N→(∀(i:Nat) (x:II),c[i]? =some x→x.ok nd nr (n+i))→ga (jy nd nr pl c n)
 |[],_,_,_=>dh
 |x::c,n,hn,h=>by
  simp only[aj]at hn;refine di (EH hp Wq1 (by have:=h 0 x rfl;rwa[Nat.add_zero]at this)) (tS hp c (n+1) Wq1 (fun i y hy=>?_));have:=h (i+1) y (by simpa using hy);rwa[show n+(i+1)=n+1+i by omega]at this
theorem yF{n:Int}(hp:∀k:Nat,k<N→pl.has k)(h:0≤n∧n<N):pl.has n:=by
 have:=hp n.toNat Wq1;rwa[show((n.toNat:Nat):Int)=n by omega]at this
theorem wZ{base f:Int}(hp:∀k:Nat,k<N→pl.has k)(hb:0≤base∧base≤15):∀(c:List Int) (k:Nat),(∀n,n∈c→0≤n∧n<N)→ga (tH pl base f c k)
 |[],_,_=>dh
 |n::c,k,h=>di (jP Wq5) (bX (pv hb (pw (yF hp (h n cJ)) Wq5) (Cp _)) (wZ hp hb c (k+1) (fun m hm=>h m (bC _ hm))))
theorem rU{base f word:Int}{out:List Int}(hp:∀k:Nat,k<N→pl.has k)(hb:0≤base∧base≤15)(hw:0≤word∧word≤15)(h:∀n,n∈out→0≤n∧n<N):ga (gS pl base f word out):=
 di (wZ hp hb out 0 h) (bX (iW Wq5 (Cp _)) (bX (fN Wq5 Wq5 Wq5 hb) (bX (pv Wq5 Wq5 Wq1) dh)))
theorem pu{e base word Jp JF:Int}(he:0≤e∧e≤4294967295)(hb:0≤base∧base≤15)(hw:0≤word∧word≤15):ga (nh e base word Jp JF):=
 bX (rV hb Wq5 Wq1) (bX (iW Wq5 (Cp _)) (bX (fN Wq5 Wq5 hb Wq5) (bX (yH (Or.inr rfl) Wq5 he) (bX (iW Wq5 (Cp _)) (bX (fN Wq5 Wq5 Wq5 hb) (bX (yH (Or.inr rfl) Wq5 he) (bX (fN Wq5 hb hb Wq5) dh)))))))
theorem yz(op:Int):0≤fw op∧fw op≤4294967295:=by
 unfold fw;cases op==33<;>cases op==34<;>cases op==35<;>cases op==36<;>decide
theorem B1{p:Pg}{T:List Int}(ok:PgOk p T)(hN:N=p.code.length)(hp:∀k:Nat,k<N→pl.has k):ga (gm p pl):=by
 subst hN;have hfl:=ok.flags;have htg:=ok.target;have h15:HI.Ka ⟨1,15,0,0,0⟩:=iW Wq5 Wq5;refine di ?_ (bX (w6 Wq5) dh);unfold fh;obtain⟨e,he⟩:=Zgn (IntKind.u32.wrap ((fh p pl 0).length:Nat));have hee:=Cp ((fh p pl 0).length:Nat);unfold fh at he hee;rw[he]at hee⊢;cases p.JW with
 |false=>exact bX h15 dh
 |true=>
  cases p.J4 with
  |false=>exact bX h15 (pu hee Wq5 Wq5)
  |true=>
   have hflags:ga (gu p pl):=by
    unfold gu;by_cases h0:0≤p.flags
    ·rw[ay h0];exact bX (iW Wq5 Wq5) (di (jP Wq5) (bX (fN Wq5 Wq5 Wq5 (pw (yF hp ⟨h0,(hfl h0).1⟩) Wq5)) (bX (pv Wq5 Wq5 Wq5) dh)))
    rw[az h0];exact dh
   have htarget:ga (iR p pl):=by
    unfold iR;by_cases h0:0≤p.target
    ·rw[ay h0];exact di (jP Wq5) (bX (zU Wq5 (pw (yF hp ⟨h0,(htg h0).1⟩) Wq5)) dh)
    rw[az h0];exact dh
   have hbranch:∀q,ga (ge p q):=fun q=>by
    unfold ge;cases p.branch !=0 with
    |false=>exact dh
    |true=>exact bX (rV Wq5 Wq5 Wq5) (bX (iW Wq5 (yz _)) (bX (fN Wq5 Wq5 Wq5 Wq5) (bX (yH (by cases gP p.branch;exact Or.inr rfl;exact Or.inl rfl) Wq5 (Cp _)) (bX (iW Wq5 ok.taken) dh))))
   show ga (qc p e++(iz p pl++qy p pl (17+(iz p pl).length)));refine di (bX h15 (di (pu hee Wq5 Wq5) (pu hee Wq5 Wq5))) (di (di (tS hp p.code 0 Wq1 (fun i x hx=>by rw[bl];exact ok.code i x hx)) (di (rU hp Wq5 Wq5 (fun n hn=>⟨(ok.Jw n hn).1,(ok.Jw n hn).2.1⟩)) (rU hp Wq5 Wq5 (fun n hn=>⟨(ok.Jx n hn).1,(ok.Jx n hn).2.1⟩)))) ?_);unfold qy;exact di hflags (bX (iW Wq5 ok.next) (di (hbranch _) (di htarget (bX (pv Wq5 Wq5 Wq5) (bX (iW Wq5 (Cp _)) (bX (pv Wq5 Wq5 Wq5) (bX (w6 Wq5) dh)))))))
end
end Go.Ink
namespace Go.Proofs.YtakodpimdalajaaGreatDoor
open Go.RowKit Go.Ink Go.Proofs.Tryz
attribute [local irreducible] OpY bP
theorem hi_eq(i:HI):EqV prog 10000 298 (hiv i) (hiv i):=
 .struct rfl Zk (EqF.cons Wq5 Zrf Zrf (.int rfl) (EqF.cons Wq5 Zrf Zrf (.int rfl) (EqF.cons Wq5 Zrf Zrf (.int rfl) (EqF.cons Wq5 Zrf Zrf (.int rfl) (EqF.cons Wq5 Zrf Zrf (.int rfl) EqF.nil)))))
theorem Hx:prog.eqGuardType prog.depth 298=false:=by kernel_rfl
theorem Iz(i:HI)(w:World):Ctr prog 265 [hiv i] w [] (fun v cs=>v= .tuple #[hiv (tQ i).1,.bool (tQ i).2]∧cs=[]):=by
 refine bL func265 rfl ntmps265 rfl (Inv.start w) ?_;refine Z_2 ?_;refine ZO fun b1=>?_;refine ZN fun b2=>?_
 refine Z_8 ?_;refine ZN fun b4=>?_
 refine ZM ?_;refine gE ?_;refine ZW ?_ ?_<;>intro hc3
 ·refine Z_6 ?_;refine ZM ?_;refine Z_4 ?_;refine kV (cs':=[]) (.inl rfl) Zu rfl rfl rfl Zh Zrf Zrf ?_;refine⟨?_,rfl⟩;exact nD
  try exact rfl
 refine Z_8 ?_;refine ZW ?_ ?_<;>intro hc4
 ·refine bR ⟨fun j=>List.elem j [5,7],[]⟩ Zk ?_;refine ZFe 0 1 ?_;refine ZG 1 ?_;refine ZFe 2 4 ?_;refine ZFe 4 1 ?_;refine j4 3 5 Zk ?_ ?_
  ·refine kg ?_;refine ce 5 Zk ?_;refine ZQ ?_;refine ZFe 6 4 ?_;refine ce 7 Zk ?_;refine ZQ ?_;refine Wq6 ?_;refine⟨?_,rfl⟩;exact nD
   try exact rfl
  refine ZQ ?_;refine ZG 3 ?_;refine ZFe 6 4 ?_;refine ce 7 Zk ?_;refine ZQ ?_;refine Wq6 ?_;refine⟨?_,rfl⟩;exact nD
  try exact rfl
 refine Z_8 ?_;refine ZW ?_ ?_<;>intro hc6
 ·refine bR ⟨fun j=>List.elem j [5,7],[]⟩ Zk ?_;refine ZFe 0 1 ?_;refine ZG 1 ?_;refine ZFe 2 2 ?_;refine ZFe 4 1 ?_;refine j4 3 5 Zk ?_ ?_
  ·refine kg ?_;refine ce 5 Zk ?_;refine ZQ ?_;refine ZFe 6 2 ?_;refine ce 7 Zk ?_;refine ZQ ?_;refine Wq6 ?_;refine⟨?_,rfl⟩;exact nD
   try exact rfl
  refine ZQ ?_;refine ZG 3 ?_;refine ZFe 6 2 ?_;refine ce 7 Zk ?_;refine ZQ ?_;refine Wq6 ?_;refine⟨?_,rfl⟩;exact nD
  try exact rfl
 refine jA ?_;refine ZW ?_ ?_<;>intro hc8
 ·refine bR ⟨fun j=>List.elem j [7,9,11],[]⟩ Zk ?_;refine ZFe 0 1 ?_;refine ZG 1 ?_;refine ZFe 2 2 ?_;refine ZFe 4 3 ?_;refine ZFe 6 1 ?_;refine wa_3 3 5 7 Zk ?_ ?_ ?_
  ·refine kg ?_;refine j4 5 7 Zk ?_ ?_
   ·refine kg ?_;refine ce 7 Zk ?_;refine ZQ ?_;refine ZFe 8 2 ?_;refine ce 9 Zk ?_;refine ZQ ?_;refine ZFe 10 3 ?_;refine ce 11 Zk ?_;refine ZQ ?_;refine Wq6 ?_;refine⟨?_,rfl⟩;exact nD
    try exact rfl
   refine ZQ ?_;refine ZFe 8 2 ?_;refine j4 5 9 Zk ?_ ?_
   ·refine kg ?_;refine ce 9 Zk ?_;refine ZQ ?_;refine ZFe 10 3 ?_;refine ce 11 Zk ?_;refine ZQ ?_;refine Wq6 ?_;refine⟨?_,rfl⟩;exact nD
    try exact rfl
   refine ZQ ?_;refine ZG 5 ?_;refine ZFe 10 3 ?_;refine ce 11 Zk ?_;refine ZQ ?_;refine Wq6 ?_;refine⟨?_,rfl⟩;exact nD
   try exact rfl
  ·refine kg ?_;refine j4 3 7 Zk ?_ ?_
   ·refine kg ?_;refine ce 7 Zk ?_;refine ZQ ?_;refine ZFe 8 2 ?_;refine ce 9 Zk ?_;refine ZQ ?_;refine ZFe 10 3 ?_;refine ce 11 Zk ?_;refine ZQ ?_;refine Wq6 ?_;refine⟨?_,rfl⟩;exact nD
    try exact rfl
   refine ZQ ?_;refine ZG 3 ?_;refine ZFe 8 2 ?_;refine ce 9 Zk ?_;refine ZQ ?_;refine ZFe 10 3 ?_;refine ce 11 Zk ?_;refine ZQ ?_;refine Wq6 ?_;refine⟨?_,rfl⟩;exact nD
   try exact rfl
  refine ZQ ?_;refine ZG 3 ?_;refine ZFe 8 2 ?_;refine j4 5 9 Zk ?_ ?_
  ·refine kg ?_;refine ce 9 Zk ?_;refine ZQ ?_;refine ZFe 10 3 ?_;refine ce 11 Zk ?_;refine ZQ ?_;refine Wq6 ?_;refine⟨?_,rfl⟩;exact nD
   try exact rfl
  refine ZQ ?_;refine ZG 5 ?_;refine ZFe 10 3 ?_;refine ce 11 Zk ?_;refine ZQ ?_;refine Wq6 ?_;refine⟨?_,rfl⟩;exact nD
  try exact rfl
 refine Z_8 ?_;refine ZW ?_ ?_<;>intro hc10
 ·refine bR ⟨fun j=>List.elem j [7,9,11],[]⟩ Zk ?_;refine ZFe 0 1 ?_;refine ZG 1 ?_;refine ZFe 2 2 ?_;refine ZFe 4 4 ?_;refine ZFe 6 1 ?_;refine wa_3 3 5 7 Zk ?_ ?_ ?_
  ·refine kg ?_;refine j4 5 7 Zk ?_ ?_
   ·refine kg ?_;refine ce 7 Zk ?_;refine ZQ ?_;refine ZFe 8 2 ?_;refine ce 9 Zk ?_;refine ZQ ?_;refine ZFe 10 4 ?_;refine ce 11 Zk ?_;refine ZQ ?_;refine Wq6 ?_;refine⟨?_,rfl⟩;exact nD
    try exact rfl
   refine ZQ ?_;refine ZFe 8 2 ?_;refine j4 5 9 Zk ?_ ?_
   ·refine kg ?_;refine ce 9 Zk ?_;refine ZQ ?_;refine ZFe 10 4 ?_;refine ce 11 Zk ?_;refine ZQ ?_;refine Wq6 ?_;refine⟨?_,rfl⟩;exact nD
    try exact rfl
   refine ZQ ?_;refine ZG 5 ?_;refine ZFe 10 4 ?_;refine ce 11 Zk ?_;refine ZQ ?_;refine Wq6 ?_;refine⟨?_,rfl⟩;exact nD
   try exact rfl
  ·refine kg ?_;refine j4 3 7 Zk ?_ ?_
   ·refine kg ?_;refine ce 7 Zk ?_;refine ZQ ?_;refine ZFe 8 2 ?_;refine ce 9 Zk ?_;refine ZQ ?_;refine ZFe 10 4 ?_;refine ce 11 Zk ?_;refine ZQ ?_;refine Wq6 ?_;refine⟨?_,rfl⟩;exact nD
    try exact rfl
   refine ZQ ?_;refine ZG 3 ?_;refine ZFe 8 2 ?_;refine ce 9 Zk ?_;refine ZQ ?_;refine ZFe 10 4 ?_;refine ce 11 Zk ?_;refine ZQ ?_;refine Wq6 ?_;refine⟨?_,rfl⟩;exact nD
   try exact rfl
  refine ZQ ?_;refine ZG 3 ?_;refine ZFe 8 2 ?_;refine j4 5 9 Zk ?_ ?_
  ·refine kg ?_;refine ce 9 Zk ?_;refine ZQ ?_;refine ZFe 10 4 ?_;refine ce 11 Zk ?_;refine ZQ ?_;refine Wq6 ?_;refine⟨?_,rfl⟩;exact nD
   try exact rfl
  refine ZQ ?_;refine ZG 5 ?_;refine ZFe 10 4 ?_;refine ce 11 Zk ?_;refine ZQ ?_;refine Wq6 ?_;refine⟨?_,rfl⟩;exact nD
  try exact rfl
 refine Z_8 ?_;refine ZW ?_ ?_<;>intro hc12
 ·refine bR ⟨fun j=>List.elem j [7,9,11],[]⟩ Zk ?_;refine ZFe 0 2 ?_;refine ZG 1 ?_;refine ZFe 2 3 ?_;refine ZFe 4 4 ?_;refine ZFe 6 2 ?_;refine wa_3 3 5 7 Zk ?_ ?_ ?_
  ·refine kg ?_;refine j4 5 7 Zk ?_ ?_
   ·refine kg ?_;refine ce 7 Zk ?_;refine ZQ ?_;refine ZFe 8 3 ?_;refine ce 9 Zk ?_;refine ZQ ?_;refine ZFe 10 4 ?_;refine ce 11 Zk ?_;refine ZQ ?_;refine Wq6 ?_;refine⟨?_,rfl⟩;exact nD
    try exact rfl
   refine ZQ ?_;refine ZFe 8 3 ?_;refine j4 5 9 Zk ?_ ?_
   ·refine kg ?_;refine ce 9 Zk ?_;refine ZQ ?_;refine ZFe 10 4 ?_;refine ce 11 Zk ?_;refine ZQ ?_;refine Wq6 ?_;refine⟨?_,rfl⟩;exact nD
    try exact rfl
   refine ZQ ?_;refine ZG 5 ?_;refine ZFe 10 4 ?_;refine ce 11 Zk ?_;refine ZQ ?_;refine Wq6 ?_;refine⟨?_,rfl⟩;exact nD
   try exact rfl
  ·refine kg ?_;refine j4 3 7 Zk ?_ ?_
   ·refine kg ?_;refine ce 7 Zk ?_;refine ZQ ?_;refine ZFe 8 3 ?_;refine ce 9 Zk ?_;refine ZQ ?_;refine ZFe 10 4 ?_;refine ce 11 Zk ?_;refine ZQ ?_;refine Wq6 ?_;refine⟨?_,rfl⟩;exact nD
    try exact rfl
   refine ZQ ?_;refine ZG 3 ?_;refine ZFe 8 3 ?_;refine ce 9 Zk ?_;refine ZQ ?_;refine ZFe 10 4 ?_;refine ce 11 Zk ?_;refine ZQ ?_;refine Wq6 ?_;refine⟨?_,rfl⟩;exact nD
   try exact rfl
  refine ZQ ?_;refine ZG 3 ?_;refine ZFe 8 3 ?_;refine j4 5 9 Zk ?_ ?_
  ·refine kg ?_;refine ce 9 Zk ?_;refine ZQ ?_;refine ZFe 10 4 ?_;refine ce 11 Zk ?_;refine ZQ ?_;refine Wq6 ?_;refine⟨?_,rfl⟩;exact nD
   try exact rfl
  refine ZQ ?_;refine ZG 5 ?_;refine ZFe 10 4 ?_;refine ce 11 Zk ?_;refine ZQ ?_;refine Wq6 ?_;refine⟨?_,rfl⟩;exact nD
  try exact rfl
 refine jA ?_;refine ZW ?_ ?_<;>intro hc14
 ·refine bR ⟨fun j=>List.elem j [5,7],[]⟩ Zk ?_;refine ZFe 0 2 ?_;refine ZG 1 ?_;refine ZFe 2 4 ?_;refine ZFe 4 2 ?_;refine j4 3 5 Zk ?_ ?_
  ·refine kg ?_;refine ce 5 Zk ?_;refine ZQ ?_;refine ZFe 6 4 ?_;refine ce 7 Zk ?_;refine ZQ ?_;refine Wq6 ?_;refine⟨?_,rfl⟩;exact nD
   try exact rfl
  refine ZQ ?_;refine ZG 3 ?_;refine ZFe 6 4 ?_;refine ce 7 Zk ?_;refine ZQ ?_;refine Wq6 ?_;refine⟨?_,rfl⟩;exact nD
  try exact rfl
 refine jA ?_;refine ZW ?_ ?_<;>intro hc16
 ·refine Z_4 ?_;refine ZL ?_;refine Z_6 ?_;refine ZM ?_;refine Z_4 ?_;refine kV (cs':=[]) (.inl rfl) Zu rfl rfl rfl Zh Zrf Zrf ?_;refine⟨?_,rfl⟩;exact nD
  try exact rfl
 refine Z_3 ?_;refine ZM ?_;refine Z_6 ?_;refine kV (cs':=[]) (.inl rfl) Zu rfl rfl rfl Zh Zrf Zrf ?_;refine⟨?_,rfl⟩;exact nD
 try exact rfl
theorem yB(n:Int)(w:World):Ctr prog 266 [.int .i64 n] w [] (fun v cs=>v= .bool (decide (0≤n)&&decide (n<16))∧cs=[]):=by
 refine bL func266 rfl ntmps266 rfl (Inv.start w) ?_;refine vz ?_;refine Zra ?_;exact df
theorem wU(i:HI)(h:i.Ka)(w:World):Ctr prog 236 [hiv i] w [] (fun v cs=>v= .bool true∧cs=[]):=by
 have HA:=Iz i;rw[h.asked]at HA;have hreg:∀n:Int,0≤n∧n≤15→(decide (0≤n)&&decide (n<16))=true:=fun n hn=>by rw[ay hn.1,ay (show n<16 by omega)];rfl
 have e1:=hreg _ h.rd;have e2:=hreg _ h.ra;have e3:=hreg _ h.rb;have R1:=yB i.rd;have R2:=yB i.ra;have R3:=yB i.rb;rw[e1]at R1;rw[e2]at R2;rw[e3]at R3;refine bL func236 rfl ntmps236 rfl (Inv.start w) ?_;refine Z_2 ?_;refine ZO fun b1=>?_;refine Z_6 ?_;refine ZSe (fun w hi=>HA w) ?_;refine Z_3 ?_;refine ZN fun b3=>?_
 refine ZM ?_;refine Z_7 ?_;refine iQ (bZ rfl rfl) Zh Zrf Zrf (Zv rfl) rfl ?_;refine iQ (bZ rfl rfl) Zh Zrf Zrf (Zv rfl) rfl ?_;refine Zyy rfl rfl (y_eqlT Hx (hi_eq i) (dH rfl) (dH rfl)) ?_;refine Z_4 ?_;refine iA (bZ rfl rfl) rfl (eW rfl (fun _ _=>rfl) (fun w hi=>R1 w)) rfl ?_;rintro _ _ ⟨_,⟨rfl,rfl⟩,rfl⟩;refine Z_4 ?_;refine iA (bZ rfl rfl) rfl (eW rfl (fun _ _=>rfl) (fun w hi=>R2 w)) rfl ?_;rintro _ _ ⟨_,⟨rfl,rfl⟩,rfl⟩;refine Z_4 ?_;refine iA (bZ rfl rfl) rfl (eW rfl (fun _ _=>rfl) (fun w hi=>R3 w)) rfl ?_;rintro _ _ ⟨_,⟨rfl,rfl⟩,rfl⟩;refine Z_5 ?_;refine Zra ?_;exact df
abbrev hiC(A:Option Addr)(c:Nat)(l:List HI):bJ:=slv 298 5 A l.length c (l.flatMap HI.cells)
theorem hi_snoc{A:Option Addr}{c:Nat}{l:List HI}{i:HI}:slv 298 5 A (l.length+1) c (l.flatMap HI.cells++i.cells)=hiC A c (l++[i]):=by
 show _=slv _ _ _ _ _ _;rw[ae,List.flatMap_append];simp
theorem zT(A:Option Addr)(c:Nat)(l:List HI)(hg:ga l)(hl:l.length≤100000)(w:World)(h:RdV w 5 A l.length c (l.flatMap HI.cells)):
  Ctr prog 175 [.slice A l.length c] w [] (fun v cs=>∃A' c',v= .tuple #[.slice A' (cF l).length c',.int .i64 0]∧cs=[sl .u8 5 A' (cF l).length c' (cF l)]):=by
 refine bL func175 rfl ntmps175 rfl (Inv.start w) ?_;refine gL ?_;refine dy 5 1 ?_;refine Z_6 ?_;refine cw (fun q:Nat×Option Addr×Nat=>[(4,.slice q.2.1 (cF (l.take q.1)).length q.2.2),(7,.slice A l.length c),(8,.int .i64 l.length),(9,.int .i64 (q.1:Int))]) (fun q=>[sl .u8 5 q.2.1 (cF (l.take q.1)).length q.2.2 (cF (l.take q.1))]) (fun q=>q.1≤l.length) (fun q=>l.length - q.1) (⟨0,none,0⟩) ?_ ?_ ?_ ?_
 ·exact au _
 ·exact Zwk
 ·exact Zu
 rintro⟨k,A1,c1⟩ hk;dsimp only at hk⊢;refine Z_6 ?_;refine ZW ?_ ?_<;>intro hc3
 ·simp only[ak]at hc3;obtain⟨ad,rfl⟩:=h.some_ Wq1;obtain⟨i,hx⟩:∃i,l[k]? =some i:=⟨_,ai (show k<l.length by omega)⟩;have hgi:=hg i (aI hx);have htk:l.take (k+1)=l.take k++[i]:=(by rw[List.take_add_one,hx];rfl);have hlk:(cF (l.take k)).length≤800000:=(by rw[iV,aC];omega);obtain⟨o1,o2⟩:=hgi.op;obtain⟨a1,a2⟩:=hgi.rd;obtain⟨p1,p2⟩:=hgi.ra;obtain⟨q1,q2⟩:=hgi.rb;obtain⟨m1,m2⟩:=hgi.imm;have HR:=wU i hgi;have hbe:qd i=[i.op,i.rd,i.ra,i.rb,i.imm%256,i.imm/256%256,i.imm/65536%256,i.imm/16777216%256]:=rfl;have hbs:cF (l.take (k+1))=cF (l.take k)++qd i:=(by rw[htk,yE]);have hcl:i.cells=[.int .i64 i.op,.int .i64 i.rd,.int .i64 i.ra,.int .i64 i.rb,.int .u32 i.imm]:=rfl;obtain⟨op,rd,ra,rb,im⟩:=i;dsimp only at o1 o2 a1 a2 p1 p2 q1 q2 m1 m2 hbe hcl;refine Z_6 ?_;refine Zy (cU (j:=k) rfl Zrf (Zv rfl) (Zv rfl) Wq4 Wq4) ?_;refine dL (cn (vs:=[.int .i64 op,.int .i64 rd,.int .i64 ra,.int .i64 rb,.int .u32 im]) Zrf Zrf Zv0) (fv h (fun j v hj=>fB (f:=HI.cells) Zrf (i:=j) hx hj)) rfl ?_;refine ZN fun b6=>?_
  refine ZM ?_;refine Z_6 ?_;refine ZSe (fun w hi=>HR w) ?_;refine Z_3 ?_;refine gx ?_;refine Z_6 ?_;refine Zy (bW rfl rfl (Zv rfl) (by first|exact IntWalk.u8_in _ ⟨by omega,by omega⟩|exact rfl)) ?_;refine Z_2 ?_;refine Zy (bW rfl rfl (Zv rfl) (by first|exact IntWalk.u8_in _ ⟨by omega,by omega⟩|exact rfl)) ?_;refine Z_2 ?_;refine Zy (bW rfl rfl (Zv rfl) (by first|exact IntWalk.u8_in _ ⟨by omega,by omega⟩|exact rfl)) ?_;refine Z_2 ?_;refine Zy (bW rfl rfl (Zv rfl) (by first|exact IntWalk.u8_in _ ⟨by omega,by omega⟩|exact rfl)) ?_;refine Z_2 ?_;refine Zy (bW rfl rfl (Zv rfl) (show IntKind.u8.wrap im=im%256 from by rw[IntKind.wrap_u8])) ?_;refine Z_2 ?_;refine Zy (j0 (Zv rfl) (Zv rfl) Wq1 (show _=im/256 from by show im.fdiv 256=_;rw[Int.fdiv_eq_ediv_of_nonneg _ Wq5])) ?_;refine Zy (bW rfl rfl (Zv rfl) (show IntKind.u8.wrap (im/256)=im/256%256 from by rw[IntKind.wrap_u8])) ?_;refine Z_2 ?_;refine Zy (j0 (Zv rfl) (Zv rfl) Wq1 (show _=im/65536 from by show im.fdiv 65536=_;rw[Int.fdiv_eq_ediv_of_nonneg _ Wq5])) ?_;refine Zy (bW rfl rfl (Zv rfl) (show IntKind.u8.wrap (im/65536)=im/65536%256 from by rw[IntKind.wrap_u8])) ?_;refine Z_2 ?_;refine Zy (j0 (Zv rfl) (Zv rfl) Wq1 (show _=im/16777216 from by show im.fdiv 16777216=_;rw[Int.fdiv_eq_ediv_of_nonneg _ Wq5])) ?_;refine Zy (bW rfl rfl (Zv rfl) (show IntKind.u8.wrap (im/16777216)=im/16777216%256 from by rw[IntKind.wrap_u8])) ?_;refine ku ?_;rintro _ _ ⟨b44,rfl,rfl⟩;refine fb (cC (e:=5) (sz:=1) (bytes:=1) rfl rfl Za rfl rfl (fun w hi=>hi.rd (show Has _ (slv 5 1 (some ⟨b44,0,none⟩) 8 8 (ints .u8 (qd ⟨op,rd,ra,rb,im⟩)))from Zh)) cO g9 Wq1) rfl ?_;rintro _ _ ⟨A2,c2,rfl,rfl⟩;rw[cj,←hbs,show(cF (l.take k)).length+8=(cF (l.take (k+1))).length from by rw[hbs,ae];rfl];refine Z_5 ?_;refine Wq8 ?_;refine bY ((⟨k+1,A2,c2⟩:Nat×Option Addr×Nat)) ?_ ?_ ?_
  ·exact⟨by omega,by omega⟩
  ·exact Zwk
  exact Zj
 simp only[ah]at hc3;obtain rfl:k=l.length:=by omega
 rw[bA];refine jA ?_;refine rc (cs':=[slv _ _ _ _ _ _]) (.inl rfl) Zu rfl rfl rfl ?_;exact⟨_,_,rfl,rfl⟩
end Go.Proofs.YtakodpimdalajaaGreatDoor
namespace Go.Ink
open Go.RowKit
def r64(l:List Int):Prop:=∀x,x∈l→0≤x∧x≤18446744073709551615
theorem qs{l:List Int}(h:r64 l)(n:Nat):0≤l.getD n 0∧l.getD n 0≤18446744073709551615:=by
 rw[aw];by_cases hn:n<l.length
 ·rw[ai hn];exact h _ (List.getElem_mem hn)
 rw[bH Wq1];exact⟨by decide,by decide⟩
structure HM.ok(m:HM):Prop where
 rl:m.JI.length=16
 wl:m.words.length=256
 r:r64 m.JI
 w:wds m.words
 pc:0≤m.pc
theorem yr{l:List Int}{n:Nat}{v x:Int}(h:x∈l.set n v):x∈l∨x=v:=List.mem_or_eq_of_mem_set h
theorem BC{op a b:Int}(ha:0≤a∧a≤18446744073709551615)(hb:0≤b∧b≤18446744073709551615):0≤eI op a b∧eI op a b≤18446744073709551615:=by
 have hw:∀z:Int,0≤IntKind.u64.wrap z∧IntKind.u64.wrap z≤18446744073709551615:=fun z=>by rw[aU];omega
 have ht:∀c:Bool,0≤b2i c∧b2i c≤18446744073709551615:=fun c=>by cases c<;>decide
 obtain⟨x,rfl⟩:∃x:Nat,a=x:=aq ha.1;obtain⟨y,rfl⟩:∃y:Nat,b=y:=aq hb.1;have hx:x<18446744073709551616:=by omega
 have hy:y<18446744073709551616:=by omega
 have h1:x&&&y≤x:=Nat.and_le_left;have h2:x|||y<2^64:=Nat.or_lt_two_pow hx hy
 have h3:x^^^y<2^64:=Nat.xor_lt_two_pow hx hy;have bp:∀{c:Bool} {u v:Int},(0≤u∧u≤18446744073709551615)→(0≤v∧v≤18446744073709551615)→0≤(bif c then u else v)∧(bif c then u else v)≤18446744073709551615:=fun{c u v} h k=>by cases c;exact k;exact h
 have hsh:0≤(x:Int).fdiv (2^(min ((y:Int)).toNat IntKind.u64.bits))∧(x:Int).fdiv (2^(min ((y:Int)).toNat IntKind.u64.bits))≤18446744073709551615:=by
  rw[aO,Int.fdiv_eq_ediv_of_nonneg _ (by exact Int.le_of_lt (Int.pow_pos Wq5))];have e:((x:Int)/2^(min y IntKind.u64.bits))=((x/2^(min y IntKind.u64.bits):Nat):Int):=by simp
  have h4:x/2^(min y IntKind.u64.bits)≤x:=Nat.div_le_self _ _;rw[e];obtain⟨q,hq⟩:=Zgn (x/2^(min y IntKind.u64.bits));rw[hq]at h4⊢;omega
 unfold eI;exact bp ha (bp (hw _) (bp (hw _) (bp (by rw[FB hx hy];omega) (bp (by rw[or64 hx hy];omega) (bp (by rw[AP hx hy];omega) (bp (hw _) (bp hsh (bp (hw _) (bp (bp ⟨by omega,by omega⟩ (hw _)) (bp (ht _) (ht _)))))))))))
theorem hdo_ok{i:HI}{m:HM}(hi:i.Ka)(h:m.ok):(hdo i m).2.ok:=by
 have hset:∀(n:Nat) (v:Int),(0≤v∧v≤18446744073709551615)→HM.ok ⟨m.JI.set n v,m.words,m.pc+1⟩:=fun n v hv=>
  ⟨by show(m.JI.set n v).length=16;rw[aG,h.rl],h.wl,fun x hx=>by rcases yr hx with q|q;exact h.r x q;rw[q];exact hv,h.w,by have:=h.pc;show 0≤m.pc+1;omega⟩
 have hnx:HM.ok ⟨m.JI,m.words,m.pc+1⟩:=⟨h.rl,h.wl,h.r,h.w,by have:=h.pc;show 0≤m.pc+1;omega⟩;obtain⟨i1,i2⟩:=hi.imm;unfold hdo;cases i.op==0 with
 |true=>exact hnx
 |false=>cases i.op==1 with
  |true=>exact hset _ _ ⟨i1,by omega⟩
  |false=>cases i.op==14||i.op==15 with
   |true=>
    cases decide ((m.words.length:Int)≤oC m.JI i)with
    |true=>exact h
    |false=>cases i.op==14 with
     |true=>exact hset _ _ (by have:=iB h.w (oC m.JI i).toNat;omega)
     |false=>exact⟨h.rl,by show(m.words.set _ _).length=256;rw[aG,h.wl],h.r,fun x hx=>by rcases yr hx with q|q;exact h.w x q;rw[q];exact Cp _,by have:=h.pc;show 0≤m.pc+1;omega⟩
   |false=>cases i.op==16||i.op==17 with
    |true=>
     refine⟨h.rl,h.wl,h.r,h.w,?_⟩;show 0≤(bif(rg m.JI i.ra==0)==(i.op==16)then i.imm else m.pc+1);have:=h.pc;cases(rg m.JI i.ra==0)==(i.op==16)with
     |true=>exact i1
     |false=>show 0≤m.pc+1;omega
    |false=>cases i.op==18 with
     |true=>exact⟨h.rl,h.wl,h.r,h.w,i1⟩
     |false=>cases i.op==19 with
      |true=>exact h
      |false=>exact hset _ _ (BC (qs h.r _) (qs h.r _))
theorem zR{C:List HI}{m:HM}(hC:ga C)(h:m.ok):(Jy C m).2.ok:=by
 unfold Jy;cases hd:decide (m.pc<0)||decide ((C.length:Int)≤m.pc)with
 |true=>exact h
 |false=>
  simp only[bj,ah]at hd;have hlt:m.pc.toNat<C.length:=by omega
  refine hdo_ok (hC _ ?_) h;rw[aw,ai hlt];exact List.getElem_mem hlt
abbrev iU(R:List Int)(bw:Nat)(Ac:Option Addr)(n cc:Nat)(pc:Int):List Value:=ints .u64 R++[.slice (some ⟨bw,0,none⟩) 256 256,.slice Ac n cc,.int .i64 pc]
section
variable {R:List Int} {bw n cc:Nat} {Ac:Option Addr} {pc:Int}
theorem I4(h:R.length=16):(iU R bw Ac n cc pc).length=19:=by simp[ints,h]
theorem hm_at(h:R.length=16)(k:Nat):(iU R bw Ac n cc pc)[16+k]? =[Value.slice (some ⟨bw,0,none⟩) 256 256,.slice Ac n cc,.int .i64 pc][k]? :=by
 rw[bF (by simp[ints,h]),cL,h];congr 1;omega
theorem Ey(h:R.length=16):(iU R bw Ac n cc pc)[16]? =some (.slice (some ⟨bw,0,none⟩) 256 256):=hm_at h 0
theorem hm_c(h:R.length=16):(iU R bw Ac n cc pc)[17]? =some (.slice Ac n cc):=hm_at h 1
theorem hm_p(h:R.length=16):(iU R bw Ac n cc pc)[18]? =some (.int .i64 pc):=hm_at h 2
theorem hm_r(h:R.length=16){k:Nat}(hk:k<16):(iU R bw Ac n cc pc)[k]? =some (.int .u64 (R.getD k 0)):=by
 rw[bD (by simp[ints,h];exact hk),mR Wq1,aw,ai Wq1];rfl
theorem vh(h:R.length=16){k:Nat}(hk:k<16)(v:Int):(iU R bw Ac n cc pc).set k (.int .u64 v)=iU (R.set k v) bw Ac n cc pc:=by
 show(ints .u64 R++_).set k _=ints .u64 (R.set k v)++_;rw[List.set_append_left _ _ (by simp[ints,h];exact hk)];simp[ints,List.map_set]
theorem Ez(h:R.length=16)(p:Int):(iU R bw Ac n cc pc).set 18 (.int .i64 p)=iU R bw Ac n cc p:=by
 show(ints .u64 R++_).set 18 _=_;rw[List.set_append_right _ _ (by simp[ints,h]),cL,h];rfl
theorem hm_setc(h:R.length=16)(A:Option Addr)(m c:Nat):(iU R bw Ac n cc pc).set 17 (.slice A m c)=iU R bw A m c pc:=by
 show(ints .u64 R++_).set 17 _=_;rw[List.set_append_right _ _ (by simp[ints,h]),cL,h];rfl
end
end Go.Ink
namespace Go.Proofs.YtakodpimdalajaaGreatDoor
open Go.RowKit Go.Ink Go.Proofs.Tryz
attribute [local irreducible] OpY bP
theorem BX(A:Option Addr)(c:Nat)(i:HI)(hg:i.Ka)(w:World)(h:Rd w .u8 A 8 c (qd i)):
  Ctr prog 237 [.slice A 8 c] w [] (fun v cs=>v= .tuple #[hiv i,.int .i64 0]∧cs=[]):=by
 obtain⟨ad,rfl⟩:=h.some_ Wq5;have HR:=wU i hg;obtain⟨o1,o2⟩:=hg.op;obtain⟨a1,a2⟩:=hg.rd;obtain⟨p1,p2⟩:=hg.ra;obtain⟨q1,q2⟩:=hg.rb;obtain⟨m1,m2⟩:=hg.imm;obtain⟨op,rd,ra,rb,im⟩:=i;dsimp only at o1 o2 a1 a2 p1 p2 q1 q2 m1 m2;obtain⟨m,rfl⟩:∃m:Nat,im=m:=aq m1;have hib:=Hq (show m<4294967296 by omega);have hbe:qd ⟨op,rd,ra,rb,(m:Int)⟩=[op,rd,ra,rb,((m%256:Nat):Int),((m/256%256:Nat):Int),((m/65536%256:Nat):Int),((m/16777216%256:Nat):Int)]:=rfl;rw[hbe]at h;refine bL func237 rfl ntmps237 rfl (Inv.start w) ?_;refine Z_2 ?_;refine ZN fun b2=>?_;refine fF ?_;refine gx ?_;refine Z_3 ?_;refine bR ⟨fun j=>List.elem j [40],[]⟩ Zk ?_;refine ZE 0 ?_;refine cD 1 rfl Zk Zk Zk (cU (j:=0) rfl Zrf (Zv rfl) (Zv rfl) Wq4 Wq4) rfl ?_;refine dm 2 rfl Zk Zk Zk Zk (bO Zrf Zv0) (eH h (cQ (j:=0) rfl)) rfl ?_;refine cD 3 rfl Zk Zk Zk (bW rfl rfl Zv0 Zl) rfl ?_;refine ZE 4 ?_;refine cD 5 rfl Zk Zk Zk (cU (j:=1) rfl Zrf (Zv rfl) (Zv rfl) Wq4 Wq4) rfl ?_;refine dm 6 rfl Zk Zk Zk Zk (bO Zrf Zv0) (eH h (cQ (j:=1) rfl)) rfl ?_;refine cD 7 rfl Zk Zk Zk (bW rfl rfl Zv0 Zl) rfl ?_;refine ZE 8 ?_;refine cD 9 rfl Zk Zk Zk (cU (j:=2) rfl Zrf (Zv rfl) (Zv rfl) Wq4 Wq4) rfl ?_;refine dm 10 rfl Zk Zk Zk Zk (bO Zrf Zv0) (eH h (cQ (j:=2) rfl)) rfl ?_;refine cD 11 rfl Zk Zk Zk (bW rfl rfl Zv0 Zl) rfl ?_;refine ZE 12 ?_;refine cD 13 rfl Zk Zk Zk (cU (j:=3) rfl Zrf (Zv rfl) (Zv rfl) Wq4 Wq4) rfl ?_;refine dm 14 rfl Zk Zk Zk Zk (bO Zrf Zv0) (eH h (cQ (j:=3) rfl)) rfl ?_;refine cD 15 rfl Zk Zk Zk (bW rfl rfl Zv0 Zl) rfl ?_;refine ZE 16 ?_;refine cD 17 rfl Zk Zk Zk (cU (j:=4) rfl Zrf (Zv rfl) (Zv rfl) Wq4 Wq4) rfl ?_;refine dm 18 rfl Zk Zk Zk Zk (bO Zrf Zv0) (eH h (cQ (j:=4) rfl)) rfl ?_;refine cD 19 rfl Zk Zk Zk (bW rfl rfl (Zv rfl) (by first|exact IntWalk.u32_in _ ⟨by omega,by omega⟩|exact rfl)) rfl ?_;refine ZE 20 ?_;refine cD 21 rfl Zk Zk Zk (cU (j:=5) rfl Zrf (Zv rfl) (Zv rfl) Wq4 Wq4) rfl ?_;refine dm 22 rfl Zk Zk Zk Zk (bO Zrf Zv0) (eH h (cQ (j:=5) rfl)) rfl ?_;refine cD 23 rfl Zk Zk Zk (bW rfl rfl (Zv rfl) (by first|exact IntWalk.u32_in _ ⟨by omega,by omega⟩|exact rfl)) rfl ?_;refine cD 24 rfl Zk Zk Zk (ux (Zv rfl) (Zv rfl) Wq1 rfl) rfl ?_;refine ZE 25 ?_;refine ZE 26 ?_;refine cD 27 rfl Zk Zk Zk (cU (j:=6) rfl Zrf (Zv rfl) (Zv rfl) Wq4 Wq4) rfl ?_;refine dm 28 rfl Zk Zk Zk Zk (bO Zrf Zv0) (eH h (cQ (j:=6) rfl)) rfl ?_;refine cD 29 rfl Zk Zk Zk (bW rfl rfl (Zv rfl) (by first|exact IntWalk.u32_in _ ⟨by omega,by omega⟩|exact rfl)) rfl ?_;refine cD 30 rfl Zk Zk Zk (ux (Zv rfl) (Zv rfl) Wq1 rfl) rfl ?_;refine ZE 31 ?_;refine ZE 32 ?_;refine cD 33 rfl Zk Zk Zk (cU (j:=7) rfl Zrf (Zv rfl) (Zv rfl) Wq4 Wq4) rfl ?_;refine dm 34 rfl Zk Zk Zk Zk (bO Zrf Zv0) (eH h (cQ (j:=7) rfl)) rfl ?_;refine cD 35 rfl Zk Zk Zk (bW rfl rfl (Zv rfl) (by first|exact IntWalk.u32_in _ ⟨by omega,by omega⟩|exact rfl)) rfl ?_;refine cD 36 rfl Zk Zk Zk (ux (Zv rfl) (Zv rfl) Wq1 rfl) rfl ?_;refine cD 37 rfl Zk Zk Zk (AN Zv0 Zv0 hib) rfl ?_;refine ZE 38 ?_;refine ce 39 Zk ?_;refine ZP fun b4=>?_
 refine ce 40 Zk ?_;refine ZR ?_;refine dr ?_;refine Z_5 ?_;refine ZSe (fun w hi=>HR w) ?_;refine Z_3 ?_;refine gx ?_;refine Z_5 ?_;refine ZM ?_;refine Z_4 ?_;refine kV (cs':=[]) (.inl rfl) Zu rfl rfl rfl Zh Zrf Zrf ?_;exact df
theorem hb_take(i:HI)(l:List HI):(cF (i::l)).take 8=qd i:=by
 show(qd i++cF l).take 8=_;exact List.take_left' rfl
theorem hb_drop(i:HI)(l:List HI):(cF (i::l)).drop 8=cF l:=by
 show(qd i++cF l).drop 8=_;exact List.drop_left' rfl
theorem hall_ok(A:Option Addr)(c:Nat)(l:List HI)(hg:ga l)(hl:l.length≤100000)(w:World)(h:Rd w .u8 A (cF l).length c (cF l)):
  Ctr prog 179 [.slice A (cF l).length c] w [] (fun v cs=>∃A' c',v= .tuple #[.slice A' l.length c',.int .i64 0]∧cs=[hiC A' c' l]):=by
 refine bL func179 rfl ntmps179 rfl (Inv.start w) ?_;refine Z_8 ?_;refine dy 298 5 ?_;refine Z_5 ?_;refine cw (fun q:Nat×(Option Addr×Nat)×(Option Addr×Nat)=>[(0,.slice q.2.1.1 (cF (l.drop q.1)).length q.2.1.2),(4,.slice q.2.2.1 (l.take q.1).length q.2.2.2)]) (fun q=>[hiC q.2.2.1 q.2.2.2 (l.take q.1)]) (fun q=>q.1≤l.length∧Rd w .u8 q.2.1.1 (cF (l.drop q.1)).length q.2.1.2 (cF (l.drop q.1))) (fun q=>l.length - q.1) (⟨0,⟨A,c⟩,⟨none,0⟩⟩) ?_ ?_ ?_ ?_
 ·exact⟨au _,h⟩
 ·exact Zwk
 ·exact Zu
 rintro⟨k,⟨A1,c1⟩,⟨A2,c2⟩⟩ ⟨hk,h1⟩;dsimp only at hk h1⊢;have hcap:=h1.cap;have hmx:=h1.max;simp only[maxLen]at hmx;have hlk:(l.take k).length=k:=(by rw[aC];omega);refine Z_8 ?_;refine ZW ?_ ?_<;>intro hc2
 ·simp only[ak]at hc2;have hkl:k<l.length:=(by rw[iV,bn]at hc2;omega);obtain⟨i,hx⟩:∃i,l[k]? =some i:=⟨_,ai hkl⟩;have hgi:=hg i (aI hx);have htk:l.take (k+1)=l.take k++[i]:=(by rw[List.take_add_one,hx];rfl);have hdr:l.drop k=i::l.drop (k+1):=(by obtain⟨q1,q2⟩:=ar.1 hx;rw[←q2];exact List.drop_eq_getElem_cons q1);have hn8:(cF (l.drop k)).length=8+(cF (l.drop (k+1))).length:=(by rw[hdr];show(qd i++_).length=_;rw[ae];rfl);have h2:=lR h1 8;rw[hdr,hb_take]at h2;have HD:=BX A1 c1 i hgi;have h3:=h1.cut (lo:=8) (hi:=(cF (l.drop k)).length) Wq1 (aN _);have e3:((ints .u8 (cF (l.drop k))).take (cF (l.drop k)).length).drop 8=ints .u8 (cF (l.drop (k+1))):=(by rw[List.take_of_length_le (by simp[ints]),hdr];show((cF (i::l.drop (k+1))).map _).drop 8=_;rw[←List.map_drop,hb_drop];rfl);rw[e3,show(cF (l.drop k)).length - 8=(cF (l.drop (k+1))).length by omega]at h3;have htl:(l.take (k+1)).length=k+1:=(by rw[aC];omega);obtain⟨N,hN⟩:=Zgn ((cF (l.drop k)).length);rw[hN]at hn8 h1 hcap⊢;refine Z_8 ?_;refine Zy (y_min (Zv rfl) (Zv rfl) (show _=((8:Nat):Int)from by split<;>omega)) ?_;refine Zy (gf 8 rfl Zrf (Zv rfl) (Zv rfl) (fun _=>by first|rfl|omega) Wq4) ?_;refine ZSe (fun w hi=>HD w (h2.Jz hi)) ?_;refine Z_3 ?_;refine ZN fun b5=>?_
  refine ZM ?_;refine dS ?_;refine gx ?_;refine Z_6 ?_;refine fb (da rfl rfl Zrf Zrf rfl rfl rfl) rfl ?_;rintro _ _ ⟨b24,rfl,rfl⟩;refine fb (cC (e:=298) (sz:=5) (bytes:=40) rfl rfl Za rfl rfl (fun w hi=>hi.rd (show Has _ (slv 298 5 (some ⟨b24,0,none⟩) 1 1 i.cells)from Zh)) (jp rfl) g9 Wq1) rfl ?_;rintro _ _ ⟨A3,c3,rfl,rfl⟩;rw[hi_snoc,←htk,show(l.take k).length+1=(l.take (k+1)).length by omega];refine Z_5 ?_;refine Zy (uw (lo:=8) (hi:=N) rfl Zrf (Zv rfl) (.inr ⟨_,_,rfl,(Zv rfl)⟩) (.inl ⟨rfl,rfl⟩) Wq1 Wq1) ?_;rw[show N - 8=(cF (l.drop (k+1))).length from by omega];refine Z_3 ?_;refine dM ((⟨k+1,⟨if c1=8 then A1 else A1.map (·.add (8*1)),c1 - 8⟩,⟨A3,c3⟩⟩:Nat×(Option Addr×Nat)×(Option Addr×Nat))) ?_ ?_ ?_
  ·exact⟨⟨by omega,h3⟩,by omega⟩
  ·exact Zwk
  exact Zu
 simp only[ah]at hc2;obtain rfl:k=l.length:=(by rw[iV,bn]at hc2;omega);rw[bA];refine jA ?_;refine rc (cs':=[slv _ _ _ _ _ _]) (.inl rfl) Zu rfl rfl rfl ?_;exact⟨_,_,rfl,rfl⟩
theorem wS(b:Bool)(w:World):Ctr prog 267 [.bool b] w [] (fun v cs=>v= .int .u64 (b2i b)∧cs=[]):=by
 refine bL func267 rfl ntmps267 rfl (Inv.start w) ?_;refine fF ?_;refine ZW ?_ ?_<;>intro hc1
 ·subst hc1;refine Z_7 ?_;refine Zra ?_;exact df
 subst hc1;refine fG ?_;exact df
theorem BW(op a b:Int)(ha:0≤a∧a≤18446744073709551615)(hb:0≤b∧b≤18446744073709551615)(w:World):Ctr prog 238 [.int .i64 op,.int .u64 a,.int .u64 b] w [] (fun v cs=>v= .int .u64 (eI op a b)∧cs=[]):=by
 refine bL func238 rfl ntmps238 rfl (Inv.start w) ?_;refine AI ?_;refine ZW ?_ ?_<;>intro hc2
 ·refine Z_9 ?_;refine Zra ?_;refine⟨?_,rfl⟩;simp only[eI, *,ac,aa]
 refine Z_6 ?_;refine ZW ?_ ?_<;>intro hc4
 ·refine Z_4 ?_;refine Zy (cX Zv0 Zv0 rfl) ?_;refine Z_6 ?_;refine Zra ?_;refine⟨?_,rfl⟩;simp only[eI, *,ac,aa]
 refine Z_6 ?_;refine ZW ?_ ?_<;>intro hc6
 ·refine Z_4 ?_;refine Zy (dY Zv0 Zv0 rfl) ?_;refine Z_6 ?_;refine Zra ?_;refine⟨?_,rfl⟩;simp only[eI, *,ac,aa]
 refine Z_6 ?_;refine ZW ?_ ?_<;>intro hc8
 ·refine fF ?_;refine Zra ?_;refine⟨?_,rfl⟩;simp only[eI, *,ac,aa]
 refine Z_6 ?_;refine ZW ?_ ?_<;>intro hc10
 ·refine fF ?_;refine Zra ?_;refine⟨?_,rfl⟩;simp only[eI, *,ac,aa]
 refine Z_6 ?_;refine ZW ?_ ?_<;>intro hc12
 ·refine fF ?_;refine Zra ?_;refine⟨?_,rfl⟩;simp only[eI, *,ac,aa]
 refine Z_6 ?_;refine ZW ?_ ?_<;>intro hc14
 ·refine Z_4 ?_;refine Zy (ux (Zv rfl) (Zv rfl) Wq1 rfl) ?_;refine Z_6 ?_;refine Zra ?_;refine⟨?_,rfl⟩;simp only[eI, *,ac,aa]
 refine Z_6 ?_;refine ZW ?_ ?_<;>intro hc16
 ·refine Z_4 ?_;refine Zy (j0 (Zv rfl) (Zv rfl) Wq1 rfl) ?_;refine Z_6 ?_;refine Zra ?_;refine⟨?_,rfl⟩;simp only[eI, *,ac,aa]
 refine Z_6 ?_;refine ZW ?_ ?_<;>intro hc18
 ·refine Z_4 ?_;refine Zy (i4 Zv0 Zv0 rfl) ?_;refine Z_6 ?_;refine Zra ?_;refine⟨?_,rfl⟩;simp only[eI, *,ac,aa]
 refine Z_6 ?_;refine ZW ?_ ?_<;>intro hc20
 ·refine Z_7 ?_;refine ZW ?_ ?_<;>intro hc21
  ·refine Z_9 ?_;refine Zra ?_;refine⟨?_,rfl⟩;simp only[eI, *,ac,aa]
  have hb0:b≠0:=ne_of_beq_false hc21;refine Z_6 ?_;refine Zy (jD (Zv rfl) (Zv rfl) Wq1 rfl) ?_;refine Z_6 ?_;refine Zra ?_;refine⟨?_,rfl⟩;simp only[eI, *,ac,aa]
 refine Z_6 ?_;refine ZW ?_ ?_<;>intro hc24
 ·refine Z_5 ?_;refine ZSe (fun w hi=>wS _ w) ?_;refine Z_6 ?_;refine Zra ?_;refine⟨?_,rfl⟩;simp only[eI, *,ac,aa]
 refine Z_8 ?_;refine ZSe (fun w hi=>wS _ w) ?_;refine Z_4 ?_;refine Zra ?_;refine⟨?_,rfl⟩;simp only[eI, *,ac,aa]
abbrev fE(bm bw:Nat)(Ac:Option Addr)(n cc:Nat)(R:List Int)(pc:Int):bJ:=row bm (iU R bw Ac n cc pc) 303
abbrev hwC(bw:Nat)(W:List Int):bJ:=sl .u32 22 (some ⟨bw,0,none⟩) 256 256 W
abbrev hmF(bm bw:Nat)(Ac:Option Addr)(cc:Nat)(C:List HI)(m:HM):List bJ:=[fE bm bw Ac C.length cc m.JI m.pc,hwC bw m.words,hiC Ac cc C]
theorem hnew_ok(w:World):Ctr prog 131 [.int .i64 256] w [] (fun v cs=>∃bm bw,v= .tuple #[.pointer (some ⟨bm,0,none⟩),.int .i64 0]∧cs=[fE bm bw none 0 0 (List.replicate 16 0) 0,hwC bw (List.replicate 256 0)]):=by
 refine bL func131 rfl ntmps131 rfl (Inv.start w) ?_;refine vz ?_;refine gx ?_;refine Z_5 ?_;refine fb (ju (bytes:=4) (n:=256) rfl rfl rfl rfl rfl rfl rfl Wq1 g9) rfl ?_;rintro _ _ ⟨b11,rfl,rfl⟩;refine ZA ?_;refine ZO fun b13=>?_
 rw[kX];refine jF [fE b13 b11 none 0 0 (List.replicate 16 0) 0,hwC b11 (List.replicate 256 0)] Zj ?_;refine Z_5 ?_;refine rc (cs':=[row _ _ _,slv _ _ _ _ _ _]) (.inl rfl) Zu rfl rfl rfl ?_;exact⟨_,_,rfl,rfl⟩
section
variable (bm bw:Nat) (Ac:Option Addr) (n cc:Nat) (R W:List Int) (pc:Int)
theorem wR(hR:R.length=16)(w:World)(h:(fE bm bw Ac n cc R pc).ok w):Ctr prog 176 [.pointer (some ⟨bm,0,none⟩)] w [] (fun v cs=>v= .int .i64 256∧cs=[]):=by
 refine bL func176 rfl ntmps176 rfl (Inv.start w) ?_;refine dS ?_;refine dL (bO Zrf Zv0) (cS h (Ey hR)) rfl ?_;refine Z_5 ?_;refine Zra ?_;exact df
theorem zQ(hR:R.length=16)(hW:W.length=256)(k:Nat)(hk:k<256)(w:World)(h:(fE bm bw Ac n cc R pc).ok w)(h2:(hwC bw W).ok w):Ctr prog 181 [.pointer (some ⟨bm,0,none⟩),.int .i64 k] w [] (fun v cs=>v= .int .u32 (W.getD k 0)∧cs=[]):=by
 have hx:W[k]? =some (W.getD k 0):=by rw[aw,ai Wq1];rfl
 refine bL func181 rfl ntmps181 rfl (Inv.start w) ?_;refine p6 ?_;refine hH (cq rfl rfl) (bO Zrf (dH rfl)) (cS h (Ey hR)) rfl ?_;refine Z_5 ?_;refine dw rfl ((by rw[az (show¬(k:Int)<0 by omega),az (show¬((256:Nat):Int)≤k by omega)];rfl)) ?_;refine Z_7 ?_;refine dL (bO Zrf Zv0) (cS h (Ey hR)) rfl ?_;refine ZA ?_;refine Zy (cU (j:=k) rfl Zrf (Zv rfl) (Zv rfl) Wq4 Wq4) ?_;refine dL (bO Zrf Zv0) (eH (de h2) (cQ hx)) rfl ?_;refine Z_4 ?_;refine Zra ?_;exact df
theorem pq(hR:R.length=16)(hW:W.length=256)(k:Nat)(hk:k<256)(v:Int)(w:World)(hi:Inv w (bK [fE bm bw Ac n cc R pc,hwC bw W]) [fE bm bw Ac n cc R pc,hwC bw W] w):
  Ctr prog 177 [.pointer (some ⟨bm,0,none⟩),.int .i64 k,.int .u32 v] w [fE bm bw Ac n cc R pc,hwC bw W] (fun x cs=>x= .bool true∧cs=[fE bm bw Ac n cc R pc,hwC bw (W.set k v)]):=by
 refine bL func177 rfl ntmps177 rfl hi ?_;refine p6 ?_;refine hH (cq rfl rfl) (bO Zrf (dH rfl)) (cB Zh (Ey hR)) rfl ?_;refine Z_5 ?_;refine dw rfl ((by rw[az (show¬(k:Int)<0 by omega),az (show¬((256:Nat):Int)≤k by omega)];rfl)) ?_;refine Z_7 ?_;refine dL (bO Zrf Zv0) (cB Zh (Ey hR)) rfl ?_;refine Z_2 ?_;refine Zy (cu (j:=k) (sz:=1) (r:=k) rfl Zrf (Zv rfl) (Zv rfl) Wq4 Wq4 Wq1) ?_;refine dD (fo Zrf rfl rfl rfl Za Wq1) ?_;rintro _ _ ⟨rfl,rfl⟩;rw[fV];refine Z_8 ?_;refine Zrb ([row _ _ _,slv _ _ _ _ _ _]) ?_;exact df
theorem EA(hR:R.length=16)(hW:W.length=256)(f:Nat)(hf:f≤100)(A:Option Addr)(c:Nat)(l:List Int)(hl:l.length≤16)(w:World)(hi:Inv w (bK [fE bm bw Ac n cc R pc,hwC bw W]) [fE bm bw Ac n cc R pc,hwC bw W] w)
  (h:∀w',dC (bK [fE bm bw Ac n cc R pc,hwC bw W]) w w'→Rd w' .u32 A l.length c l):
  Ctr prog 178 [.pointer (some ⟨bm,0,none⟩),.int .i64 f,.slice A l.length c] w [fE bm bw Ac n cc R pc,hwC bw W] (fun x cs=>cs=[fE bm bw Ac n cc R pc,hwC bw (jz W f l 16)]):=by
 have h0:=h w (dC.refl _ _);refine bL func178 rfl ntmps178 rfl hi ?_;refine Z_6 ?_;refine cw (fun k:Nat=>[(0,.pointer (some ⟨bm,0,none⟩)),(1,.int .i64 f),(2,.slice A l.length c),(8,.int .i64 (k:Int))]) (fun k=>[fE bm bw Ac n cc R pc,hwC bw (jz W f l k)]) (fun k=>k≤16) (fun k=>16 - k) (0) ?_ ?_ ?_ ?_
 ·exact au _
 ·exact Zwk
 ·exact Zu
 rintro k hk;have hlk:(jz W f l k).length=256:=(by rw[jN,hW]);refine Z_6 ?_;refine ZW ?_ ?_<;>intro hc1
 ·simp only[ak]at hc1;refine p6 ?_;refine cW (fun _:Unit=>[(0,.pointer (some ⟨bm,0,none⟩)),(1,.int .i64 f),(2,.slice A l.length c),(6,.int .i64 (k:Int)),(7,.int .u32 (l.getD k 0)),(8,.int .i64 (k:Int))]) (fun _=>[fE bm bw Ac n cc R pc,hwC bw (jz W f l k)]) (fun _=>True) ?_ ?_
  ·refine Z_8 ?_;refine ZW ?_ ?_<;>intro hc4
   ·simp only[ak]at hc4;obtain⟨ad,rfl⟩:=h0.some_ Wq1;have hx:l[k]? =some (l.getD k 0):=(by rw[aw,ai Wq1];rfl);refine Z_3 ?_;refine Zy (cU (j:=k) rfl Zrf (Zv rfl) (Zv rfl) Wq4 Wq4) ?_;refine dL (bO Zrf Zv0) (jw h (cQ hx)) rfl ?_;refine Z_2 ?_;refine dM (()) ?_ ?_ ?_
    ·trivial
    ·exact Zwk
    exact Zu
   simp only[ah]at hc4;have e0:l.getD k 0=0:=(by rw[aw,bH Wq1];rfl);rw[e0];refine Zc ?_;refine dM (()) ?_ ?_ ?_
   ·trivial
   ·exact Zwk
   exact Zu
  rintro - -;refine Z_4 ?_;refine Zy (cX (Zv rfl) (Zv rfl) (show _=((f+k:Nat):Int)from by rw[IntWalk.i64_in _ ⟨by omega,by omega⟩];omega)) ?_;refine ZA ?_;refine ZcM ([fE bm bw Ac n cc R pc,hwC bw (jz W f l k)]) (fun w hi hin=>pq bm bw Ac n cc R (jz W f l k) pc hR hlk (f+k) Wq1 (l.getD k 0) w hin) ?_;refine Z_4 ?_;refine Wq8 ?_;refine dM (k+1) ?_ ?_ ?_
  ·exact⟨by omega,by omega⟩
  ·exact Zwk
  exact Zu
 simp only[ah]at hc1;obtain rfl:k=16:=by omega
 refine Z_4 ?_;refine iF (cs':=[row _ _ _,slv _ _ _ _ _ _]) (.inr rfl) Zu rfl ?_;exact rfl
end
theorem hput_ok(bm bw:Nat)(s:St)(hs:s.right=true)(hw:s.wf)(Ad Ar:Option Addr)(cd cr:Nat)(w:World)(hi:Inv w (bK [fE bm bw none 0 0 (List.replicate 16 0) 0,hwC bw (List.replicate 256 0)]) [fE bm bw none 0 0 (List.replicate 16 0) 0,hwC bw (List.replicate 256 0)] w)
  (h:∀w',dC (bK [fE bm bw none 0 0 (List.replicate 16 0) 0,hwC bw (List.replicate 256 0)]) w w'→lA w' s Ad Ar cd cr):
  Ctr prog 132 [.pointer (some ⟨bm,0,none⟩),sv s Ad cd Ar cr] w [fE bm bw none 0 0 (List.replicate 16 0) 0,hwC bw (List.replicate 256 0)] (fun x cs=>x= .bool true∧cs=[fE bm bw none 0 0 (List.replicate 16 0) 0,hwC bw (JV s)]):=by
 have hR:(List.replicate 16 (0:Int)).length=16:=aJ;obtain⟨R,hRe⟩:=Zgn (List.replicate 16 (0:Int));have hpw:JV s=(jz (jz (((((List.replicate 256 (0:Int)).set 0 s.pc).set 1 s.flags).set 2 (s.d.length:Int)).set 3 (s.r.length:Int)) 4 s.d 16) 20 s.r 16).set 36 0:=rfl;have hW0:(List.replicate 256 (0:Int)).length=256:=aJ;obtain⟨W0,hWe⟩:=Zgn (List.replicate 256 (0:Int));rw[hWe]at hW0 hpw hi h⊢;rw[hRe]at hR hi h⊢;rw[hpw];obtain⟨hd16,hr16, -⟩:=St.fits hs;have HR:=mJ s;rw[hs]at HR;have hW1:(W0.set 0 s.pc).length=256:=by rw[aG,hW0]
 have hW2:((W0.set 0 s.pc).set 1 s.flags).length=256:=by rw[aG,hW1]
 have hW3:(((W0.set 0 s.pc).set 1 s.flags).set 2 (s.d.length:Int)).length=256:=by rw[aG,hW2]
 have hW4:((((W0.set 0 s.pc).set 1 s.flags).set 2 (s.d.length:Int)).set 3 (s.r.length:Int)).length=256:=by rw[aG,hW3]
 have HL1:=EA bm bw none 0 0 R _ 0 hR hW4 4 Wq5 Ad cd s.d hd16;obtain⟨W4,hW4e⟩:=Zgn ((((W0.set 0 s.pc).set 1 s.flags).set 2 (s.d.length:Int)).set 3 (s.r.length:Int));rw[hW4e]at hW4 HL1⊢;have hW5:(jz W4 4 s.d 16).length=256:=by rw[jN,hW4]
 have HL2:=EA bm bw none 0 0 R _ 0 hR hW5 20 Wq5 Ar cr s.r hr16;have hW6:(jz (jz W4 4 s.d 16) 20 s.r 16).length=256:=by rw[jN,hW5]
 refine bL func132 rfl ntmps132 rfl hi ?_;refine Z_2 ?_;refine ZO fun b3=>?_;refine dS ?_;refine iA (cq rfl rfl) rfl (eW rfl (fun _ _=>rfl) (fun w hi=>wR bm bw none 0 0 R 0 hR w (hi.get Zh))) rfl ?_;rintro _ _ ⟨_,⟨rfl,rfl⟩,rfl⟩;refine Z_3 ?_;refine iQ (cq rfl rfl) Zh Zrf Zrf (Zv rfl) rfl ?_;refine iA (cq rfl rfl) rfl (eW rfl (fun _ _=>rfl) (fun w hi=>HR Ad Ar cd cr w)) rfl ?_;rintro _ _ ⟨_,⟨rfl,rfl⟩,rfl⟩;refine Z_4 ?_;refine gx ?_;refine Z_7 ?_;refine ZcM ([fE bm bw none 0 0 R 0,hwC bw W0]) (fun w hi hin=>pq bm bw none 0 0 R W0 0 hR hW0 0 Wq5 s.pc w hin) ?_;refine Z_7 ?_;refine ZcM ([fE bm bw none 0 0 R 0,hwC bw (W0.set 0 s.pc)]) (fun w hi hin=>pq bm bw none 0 0 R _ 0 hR hW1 1 Wq5 s.flags w hin) ?_;refine Z_8 ?_;refine Zy (bW rfl rfl (Zv rfl) (by first|exact IntWalk.u32_in _ ⟨by omega,by omega⟩|exact rfl)) ?_;refine ZcM ([fE bm bw none 0 0 R 0,hwC bw ((W0.set 0 s.pc).set 1 s.flags)]) (fun w hi hin=>pq bm bw none 0 0 R _ 0 hR hW2 2 Wq5 (s.d.length:Int) w hin) ?_;refine Z_8 ?_;refine Zy (bW rfl rfl (Zv rfl) (by first|exact IntWalk.u32_in _ ⟨by omega,by omega⟩|exact rfl)) ?_;refine ZcM ([fE bm bw none 0 0 R 0,hwC bw (((W0.set 0 s.pc).set 1 s.flags).set 2 (s.d.length:Int))]) (fun w hi hin=>pq bm bw none 0 0 R _ 0 hR hW3 3 Wq5 (s.r.length:Int) w hin) ?_;rw[hW4e];refine Z_7 ?_;refine ZcL ([fE bm bw none 0 0 R 0,hwC bw W4]) (fun w hi hin=>HL1 w hin (fun w' hk=>(h w' (hi.past (fun c hc=>by simp only[aK,aY,or_false]at hc;rcases hc with rfl|rfl;exact Has.mem (show Has _ _ from Zh);exact Has.mem (show Has _ _ from Zh)) hk)).d)) ?_;rintro _ _ ⟨_,rfl,rfl⟩;refine Z_7 ?_;refine ZcL ([fE bm bw none 0 0 R 0,hwC bw (jz W4 4 s.d 16)]) (fun w hi hin=>HL2 w hin (fun w' hk=>(h w' (hi.past (fun c hc=>by simp only[aK,aY,or_false]at hc;rcases hc with rfl|rfl;exact Has.mem (show Has _ _ from Zh);exact Has.mem (show Has _ _ from Zh)) hk)).r)) ?_;rintro _ _ ⟨_,rfl,rfl⟩;refine Z_5 ?_;refine ZcM ([fE bm bw none 0 0 R 0,hwC bw (jz (jz W4 4 s.d 16) 20 s.r 16)]) (fun w hi hin=>pq bm bw none 0 0 R _ 0 hR hW6 36 Wq5 0 w hin) ?_;refine Z_8 ?_;refine Zrb ([row _ _ _,slv _ _ _ _ _ _]) ?_;exact df
theorem Hw(bm bw:Nat)(R W:List Int)(hR:R.length=16)(A:Option Addr)(c:Nat)(C:List HI)(hg:ga C)(hl:C.length≤100000)(w:World)(hi:Inv w (bK [fE bm bw none 0 0 R 0,hwC bw W]) [fE bm bw none 0 0 R 0,hwC bw W] w)
  (h:∀w',dC (bK [fE bm bw none 0 0 R 0,hwC bw W]) w w'→Rd w' .u8 A (cF C).length c (cF C)):
  Ctr prog 133 [.pointer (some ⟨bm,0,none⟩),.slice A (cF C).length c] w [fE bm bw none 0 0 R 0,hwC bw W] (fun x cs=>∃Ac cc,x= .int .i64 0∧cs=hmF bm bw Ac cc C ⟨R,W,0⟩):=by
 refine bL func133 rfl ntmps133 rfl hi ?_;refine Z_8 ?_;refine ZS (fun w hi=>hall_ok A c C hg hl w (h w hi.JJ)) ?_;rintro _ _ ⟨_,⟨Ac,cc,rfl,rfl⟩,rfl⟩;refine gL ?_;refine gx ?_;refine Z_9 ?_;refine dD (eA Zrf rfl rfl rfl Za (by rw[I4 hR];omega)) ?_;rintro _ _ ⟨rfl,rfl⟩;rw[hm_setc hR];refine Z_2 ?_;refine dD (eA Zrf rfl rfl rfl Za (by rw[I4 hR];omega)) ?_;rintro _ _ ⟨rfl,rfl⟩;rw[Ez hR];refine Z_8 ?_;refine Zrb ([row _ _ _,slv _ _ _ _ _ _,slv _ _ _ _ _ _]) ?_;exact⟨Ac,cc,rfl,rfl⟩
theorem Ex(bm bw:Nat)(Ac:Option Addr)(cc:Nat)(C:List HI)(hC:ga C)(m:HM)(hm:m.ok)(w:World)(hi:Inv w (bK (hmF bm bw Ac cc C m)) (hmF bm bw Ac cc C m) w):
  Ctr prog 180 [.pointer (some ⟨bm,0,none⟩)] w (hmF bm bw Ac cc C m) (fun x cs=>x= .int .i64 (Jy C m).1∧cs=hmF bm bw Ac cc C (Jy C m).2):=by
 have hR:=hm.rl;have hW:=hm.wl;have hr:=hm.r;have hwd:=hm.w;have hp0:=hm.pc;obtain⟨R,W,pc⟩:=m;dsimp only at hR hW hr hwd hp0;obtain⟨p,rfl⟩:∃p:Nat,pc=p:=aq hp0;have hi:Inv w (bK [fE bm bw Ac C.length cc R (p:Int),hwC bw W,hiC Ac cc C]) [fE bm bw Ac C.length cc R (p:Int),hwC bw W,hiC Ac cc C] w:=hi
 change Ctr _ _ _ w [fE bm bw Ac C.length cc R (p:Int),hwC bw W,hiC Ac cc C] _
 have hcap:=(de (hi.get (show Has _ (hiC Ac cc C)from by repeat (first|exact .head _ _|apply Has.tail)))).cap;have hmx:=(de (hi.get (show Has _ (hiC Ac cc C)from by repeat (first|exact .head _ _|apply Has.tail)))).max;have hsome:=fun h=>(de (hi.get (show Has _ (hiC Ac cc C)from by repeat (first|exact .head _ _|apply Has.tail)))).some_ h
 simp only[maxLen]at hmx;have hS:(Jy C ⟨R,W,(p:Int)⟩)=bif decide ((p:Int)<0)||decide ((C.length:Int)≤(p:Int))then(2,⟨R,W,(p:Int)⟩)else hdo (C.getD p HI.zero) ⟨R,W,(p:Int)⟩:=rfl
 obtain⟨⟨why,m9⟩,hq⟩:=Zgn (Jy C ⟨R,W,(p:Int)⟩);rw[hq]at hS⊢;refine bL func180 rfl ntmps180 rfl hi ?_;refine Z_7 ?_;refine bR ⟨fun j=>List.elem j [],[]⟩ Zk ?_;refine gn ?_;refine ZFe 2 18 ?_;refine dm 3 rfl Zk Zk Zk Zk (bO Zrf Zv0) (cB Zh (hm_p hR)) rfl ?_;refine ZE 4 ?_;refine ZE 5 ?_;refine ZF 6 ?_;refine ZF 7 ?_;refine ZFf 8 18 ?_;refine AZ 9 rfl Zk Zk Zk Zk (cq rfl rfl) (bO Zrf (dH rfl)) (cB Zh (hm_p hR)) rfl ?_;refine ZF 10 ?_;refine ZF 11 ?_;refine ZFf 12 17 ?_;refine AZ 13 rfl Zk Zk Zk Zk (cq rfl rfl) (bO Zrf (dH rfl)) (cB Zh (hm_c hR)) rfl ?_;refine ZF 14 ?_;refine ZF 15 ?_;refine ZE 16 ?_;refine dr ?_;refine Zt ?_;refine ZW ?_ ?_<;>intro hc1
 ·rw[hc1,ac]at hS;obtain⟨rfl,rfl⟩:=Prod.mk.inj hS;refine Z_7 ?_;refine Zrb ([row _ _ _,slv _ _ _ _ _ _,slv _ _ _ _ _ _]) ?_;exact df
 rw[hc1,aa]at hS;have hpl:p<C.length:=(by simp at hc1;omega);obtain⟨i,hx⟩:∃i,C[p]? =some i:=⟨_,ai hpl⟩;rw[show C.getD p HI.zero=i by rw[aw,hx];rfl]at hS;have hg:=hC i (aI hx);obtain⟨ad,rfl⟩:=hsome Wq1;obtain⟨rd1,rd2⟩:=hg.rd;obtain⟨ra1,ra2⟩:=hg.ra;obtain⟨rb1,rb2⟩:=hg.rb;obtain⟨im1,im2⟩:=hg.imm;obtain⟨op1,op2⟩:=hg.op;obtain⟨op,rd,ra,rb,im⟩:=i;dsimp only at rd1 rd2 ra1 ra2 rb1 rb2 im1 im2 op1 op2;obtain⟨rd,rfl⟩:∃k:Nat,rd=k:=aq rd1;obtain⟨ra,rfl⟩:∃k:Nat,ra=k:=aq ra1;obtain⟨rb,rfl⟩:∃k:Nat,rb=k:=aq rb1;have hd0:hdo ⟨op,(rd:Int),(ra:Int),(rb:Int),im⟩ ⟨R,W,(p:Int)⟩=(bif op==0 then(0,⟨R,W,(p:Int)+1⟩)else bif op==1 then(0,⟨R.set rd im,W,(p:Int)+1⟩)else bif op==14||op==15 then(bif decide ((W.length:Int)≤IntKind.u64.wrap (R.getD ra 0+im))then(4,⟨R,W,(p:Int)⟩)else bif op==14 then(0,⟨R.set rd (W.getD (IntKind.u64.wrap (R.getD ra 0+im)).toNat 0),W,(p:Int)+1⟩)else(0,⟨R,W.set (IntKind.u64.wrap (R.getD ra 0+im)).toNat (IntKind.u32.wrap (R.getD rb 0)),(p:Int)+1⟩))else bif op==16||op==17 then(0,⟨R,W,bif(R.getD ra 0==0)==(op==16)then im else(p:Int)+1⟩)else bif op==18 then(0,⟨R,W,im⟩)else bif op==19 then(1,⟨R,W,(p:Int)⟩)else(0,⟨R.set rd (eI op (R.getD ra 0) (R.getD rb 0)),W,(p:Int)+1⟩)):=rfl;rw[hd0,hW]at hS;have ea:=qs hr ra;have eb:=qs hr rb;obtain⟨a,hae⟩:=Zgn (R.getD ra 0);obtain⟨b,hbe⟩:=Zgn (R.getD rb 0);have hra:=hm_r (bw:=bw) (Ac:=some ad) (n:=C.length) (cc:=cc) (pc:=(p:Int)) hR (show ra<16 by omega);have hrb:=hm_r (bw:=bw) (Ac:=some ad) (n:=C.length) (cc:=cc) (pc:=(p:Int)) hR (show rb<16 by omega);rw[hae]at hS ea hra;rw[hbe]at hS eb hrb;have hpl2:IntKind.u64.wrap (a+im)=((IntKind.u64.wrap (a+im)).toNat:Nat):=(by rw[aU];omega);obtain⟨pl,hple⟩:∃k:Nat,(IntKind.u64.wrap (a+im)).toNat=k:=⟨_,rfl⟩;rw[hple]at hpl2;rw[hpl2,aO]at hS;refine Z_3 ?_;refine bR ⟨fun j=>List.elem j [11],[]⟩ Zk ?_;refine gn ?_;refine ZFe 2 17 ?_;refine dm 3 rfl Zk Zk Zk Zk (bO Zrf Zv0) (cB Zh (hm_c hR)) rfl ?_;refine ZE 4 ?_;refine ZE 5 ?_;refine ZFe 6 18 ?_;refine dm 7 rfl Zk Zk Zk Zk (bO Zrf Zv0) (cB Zh (hm_p hR)) rfl ?_;refine cD 8 rfl Zk Zk Zk (cU (j:=p) rfl Zrf (Zv rfl) (Zv rfl) Wq4 Wq4) rfl ?_;refine dm 9 rfl Zk Zk Zk Zk (cn (vs:=[.int .i64 op,.int .i64 rd,.int .i64 ra,.int .i64 rb,.int .u32 im]) Zrf Zrf Zv0) (Dl Zh (fun j v hj=>fB (f:=HI.cells) Zrf (i:=j) hx hj)) rfl ?_;refine ce 10 Zk ?_;refine ZP fun b3=>?_
 refine ce 11 Zk ?_;refine ZR ?_;refine dr ?_;refine Z_2 ?_;refine Wq40 ?_;refine ZFe 1 2 ?_;refine ZG 2 ?_;refine ZE 3 ?_;refine ZFe 4 0 ?_;refine cD 5 rfl Zk Zk Zk (cV (j:=ra) (sz:=1) (r:=ra) rfl Zrf (Zv rfl) (Zv rfl) Wq4 Wq4 Wq1) rfl ?_;refine dm 6 rfl Zk Zk Zk Zk (bO Zrf Zv0) (cB Zh hra) rfl ?_;refine ZE 7 ?_;refine ZFe 8 3 ?_;refine ZG 9 ?_;refine ZE 10 ?_;refine ZFe 11 0 ?_;refine cD 12 rfl Zk Zk Zk (cV (j:=rb) (sz:=1) (r:=rb) rfl Zrf (Zv rfl) (Zv rfl) Wq4 Wq4 Wq1) rfl ?_;refine dm 13 rfl Zk Zk Zk Zk (bO Zrf Zv0) (cB Zh hrb) rfl ?_;refine ZE 14 ?_;refine ZE 15 ?_;refine dr ?_;refine Z_6 ?_;refine Zy (bW rfl rfl (Zv rfl) sF) ?_;refine Zy (cX Zv0 Zv0 hpl2) ?_;refine Z_8 ?_;refine dL (bO Zrf Zv0) (cB Zh (hm_p hR)) rfl ?_;refine Zy (cX Zv0 Zv0 Zl) ?_;refine vz ?_;refine ZW ?_ ?_<;>intro hc9
 ·rw[hc9,ac]at hS;obtain⟨rfl,rfl⟩:=Prod.mk.inj hS;refine Z_9 ?_;exact Cu
 rw[hc9,aa]at hS;refine Z_6 ?_;refine ZW ?_ ?_<;>intro hc10
 ·rw[hc10,ac]at hS;obtain⟨rfl,rfl⟩:=Prod.mk.inj hS;refine bR ⟨fun j=>List.elem j [9],[]⟩ Zk ?_;refine ZE 0 ?_;refine ZFe 1 1 ?_;refine ZG 2 ?_;refine ZFe 3 4 ?_;refine ZG 4 ?_;refine cD 5 rfl Zk Zk Zk (bW rfl rfl (Zv rfl) sF) rfl ?_;refine ZE 6 ?_;refine ZFe 7 0 ?_;refine cD 8 rfl Zk Zk Zk (cV (j:=rd) (sz:=1) (r:=rd) rfl Zrf (Zv rfl) (Zv rfl) Wq4 Wq4 Wq1) rfl ?_;refine ce 9 Zk ?_;refine dp rfl rfl (eA Zrf rfl rfl rfl Za (by simp[ints,hR];omega)) ZJ ?_;rintro _ _ ⟨rfl,rfl⟩;rw[vh hR Wq1];refine dr ?_;refine Z_8 ?_;exact Cu
 rw[hc10,aa]at hS;refine Z_7 ?_;refine ZW ?_ ?_<;>intro hc12
 ·rw[show(op==14||op==15)=true from by rw[hc12];rfl,ac]at hS;refine Z_2 ?_;refine bU rfl (hc12) ?_;refine Z_7 ?_;refine dL (bO Zrf Zv0) (cB Zh (Ey hR)) rfl ?_;refine ZA ?_;refine Zy (bW rfl rfl (Zv rfl) sF) ?_;refine Z_3 ?_;refine ZW ?_ ?_<;>intro hc14
  ·rw[hc14,ac]at hS;obtain⟨rfl,rfl⟩:=Prod.mk.inj hS;refine Z_9 ?_;refine Zrb ([row _ _ _,slv _ _ _ _ _ _,slv _ _ _ _ _ _]) ?_;exact df
  rw[hc14,aa]at hS;have hp256:pl<256:=(by simp at hc14;omega);have hxw:W[pl]? =some (W.getD pl 0):=(by rw[aw,ai Wq1];rfl);have hwb:=iB hwd pl;obtain⟨x,hxe⟩:=Zgn (W.getD pl 0);rw[hxe]at hxw hwb hS;refine Z_9 ?_;refine ZW ?_ ?_<;>intro hc16
  ·rw[hc16,ac]at hS;obtain⟨rfl,rfl⟩:=Prod.mk.inj hS;refine bR ⟨fun j=>List.elem j [14],[]⟩ Zk ?_;refine ZE 0 ?_;refine ZFe 1 1 ?_;refine ZG 2 ?_;refine ZE 3 ?_;refine ZE 4 ?_;refine ZFe 5 16 ?_;refine dm 6 rfl Zk Zk Zk Zk (bO Zrf Zv0) (cB Zh (Ey hR)) rfl ?_;refine ZE 7 ?_;refine cD 8 rfl Zk Zk Zk (cU (j:=pl) rfl Zrf (Zv rfl) (Zv rfl) Wq4 Wq4) rfl ?_;refine dm 9 rfl Zk Zk Zk Zk (bO Zrf Zv0) (oY Zh (cQ hxw)) rfl ?_;refine cD 10 rfl Zk Zk Zk (bW rfl rfl (Zv rfl) sF) rfl ?_;refine ZE 11 ?_;refine ZFe 12 0 ?_;refine cD 13 rfl Zk Zk Zk (cV (j:=rd) (sz:=1) (r:=rd) rfl Zrf (Zv rfl) (Zv rfl) Wq4 Wq4 Wq1) rfl ?_;refine ce 14 Zk ?_;refine dp rfl rfl (eA Zrf rfl rfl rfl Za (by simp[ints,hR];omega)) ZJ ?_;rintro _ _ ⟨rfl,rfl⟩;rw[vh hR Wq1];refine dr ?_;refine Z_8 ?_;exact Cu
  rw[hc16,aa]at hS;obtain⟨rfl,rfl⟩:=Prod.mk.inj hS;refine Z_4 ?_;refine dL (bO Zrf Zv0) (cB Zh (Ey hR)) rfl ?_;refine Z_2 ?_;refine Zy (bW rfl rfl (Zv rfl) (by first|exact IntWalk.u32_in _ ⟨by omega,by omega⟩|exact rfl)) ?_;refine Zy (cu (j:=pl) (sz:=1) (r:=pl) rfl Zrf (Zv rfl) (Zv rfl) Wq4 Wq4 Wq1) ?_;refine dD (fo Zrf rfl rfl rfl Za Wq1) ?_;rintro _ _ ⟨rfl,rfl⟩;rw[fV];refine Z_9 ?_;exact Cu
 refine Z_5 ?_;refine ZW ?_ ?_<;>intro hc13
 ·rw[show(op==14||op==15)=true from by rw[hc12,hc13];rfl,ac]at hS;refine Z_7 ?_;refine dL (bO Zrf Zv0) (cB Zh (Ey hR)) rfl ?_;refine ZA ?_;refine Zy (bW rfl rfl (Zv rfl) sF) ?_;refine Z_3 ?_;refine ZW ?_ ?_<;>intro hc14
  ·rw[hc14,ac]at hS;obtain⟨rfl,rfl⟩:=Prod.mk.inj hS;refine Z_9 ?_;refine Zrb ([row _ _ _,slv _ _ _ _ _ _,slv _ _ _ _ _ _]) ?_;exact df
  rw[hc14,aa]at hS;have hp256:pl<256:=(by simp at hc14;omega);have hxw:W[pl]? =some (W.getD pl 0):=(by rw[aw,ai Wq1];rfl);have hwb:=iB hwd pl;obtain⟨x,hxe⟩:=Zgn (W.getD pl 0);rw[hxe]at hxw hwb hS;refine Z_9 ?_;refine ZW ?_ ?_<;>intro hc16
  ·rw[hc16,ac]at hS;obtain⟨rfl,rfl⟩:=Prod.mk.inj hS;refine bR ⟨fun j=>List.elem j [14],[]⟩ Zk ?_;refine ZE 0 ?_;refine ZFe 1 1 ?_;refine ZG 2 ?_;refine ZE 3 ?_;refine ZE 4 ?_;refine ZFe 5 16 ?_;refine dm 6 rfl Zk Zk Zk Zk (bO Zrf Zv0) (cB Zh (Ey hR)) rfl ?_;refine ZE 7 ?_;refine cD 8 rfl Zk Zk Zk (cU (j:=pl) rfl Zrf (Zv rfl) (Zv rfl) Wq4 Wq4) rfl ?_;refine dm 9 rfl Zk Zk Zk Zk (bO Zrf Zv0) (oY Zh (cQ hxw)) rfl ?_;refine cD 10 rfl Zk Zk Zk (bW rfl rfl (Zv rfl) sF) rfl ?_;refine ZE 11 ?_;refine ZFe 12 0 ?_;refine cD 13 rfl Zk Zk Zk (cV (j:=rd) (sz:=1) (r:=rd) rfl Zrf (Zv rfl) (Zv rfl) Wq4 Wq4 Wq1) rfl ?_;refine ce 14 Zk ?_;refine dp rfl rfl (eA Zrf rfl rfl rfl Za (by simp[ints,hR];omega)) ZJ ?_;rintro _ _ ⟨rfl,rfl⟩;rw[vh hR Wq1];refine dr ?_;refine Z_8 ?_;exact Cu
  rw[hc16,aa]at hS;obtain⟨rfl,rfl⟩:=Prod.mk.inj hS;refine Z_4 ?_;refine dL (bO Zrf Zv0) (cB Zh (Ey hR)) rfl ?_;refine Z_2 ?_;refine Zy (bW rfl rfl (Zv rfl) (by first|exact IntWalk.u32_in _ ⟨by omega,by omega⟩|exact rfl)) ?_;refine Zy (cu (j:=pl) (sz:=1) (r:=pl) rfl Zrf (Zv rfl) (Zv rfl) Wq4 Wq4 Wq1) ?_;refine dD (fo Zrf rfl rfl rfl Za Wq1) ?_;rintro _ _ ⟨rfl,rfl⟩;rw[fV];refine Z_9 ?_;exact Cu
 rw[show(op==14||op==15)=false from by rw[hc12,hc13];rfl,aa]at hS;refine Z_7 ?_;refine ZW ?_ ?_<;>intro hc19
 ·rw[show(op==16||op==17)=true from by rw[hc19];rfl,ac]at hS;refine Z_2 ?_;refine bU rfl (hc19) ?_;refine dS ?_;refine ZW ?_ ?_<;>intro hc21
  ·rw[hc21,ac]at hS;obtain⟨rfl,rfl⟩:=Prod.mk.inj hS;refine Z_3 ?_;refine Zy (bW rfl rfl Zv0 Zl) ?_;refine dS ?_;exact Cu
  rw[hc21,aa]at hS;obtain⟨rfl,rfl⟩:=Prod.mk.inj hS;refine Z_9 ?_;exact Cu
 refine Z_5 ?_;refine ZW ?_ ?_<;>intro hc20
 ·rw[show(op==16||op==17)=true from by rw[hc19,hc20];rfl,ac]at hS;refine dS ?_;refine ZW ?_ ?_<;>intro hc21
  ·rw[hc21,ac]at hS;obtain⟨rfl,rfl⟩:=Prod.mk.inj hS;refine Z_3 ?_;refine Zy (bW rfl rfl Zv0 Zl) ?_;refine dS ?_;exact Cu
  rw[hc21,aa]at hS;obtain⟨rfl,rfl⟩:=Prod.mk.inj hS;refine Z_9 ?_;exact Cu
 rw[show(op==16||op==17)=false from by rw[hc19,hc20];rfl,aa]at hS;refine Z_6 ?_;refine ZW ?_ ?_<;>intro hc23
 ·rw[hc23,ac]at hS;obtain⟨rfl,rfl⟩:=Prod.mk.inj hS;refine Z_3 ?_;refine Zy (bW rfl rfl Zv0 Zl) ?_;refine dS ?_;exact Cu
 rw[hc23,aa]at hS;refine Z_6 ?_;refine ZW ?_ ?_<;>intro hc25
 ·rw[hc25,ac]at hS;obtain⟨rfl,rfl⟩:=Prod.mk.inj hS;refine Z_8 ?_;refine Zrb ([row _ _ _,slv _ _ _ _ _ _,slv _ _ _ _ _ _]) ?_;exact df
 rw[hc25,aa]at hS;obtain⟨rfl,rfl⟩:=Prod.mk.inj hS;refine bR ⟨fun j=>List.elem j [11],[]⟩ Zk ?_;refine ZE 0 ?_;refine ZFe 1 1 ?_;refine ZG 2 ?_;refine ZFe 3 0 ?_;refine ZG 4 ?_;refine ZE 5 ?_;refine ZE 6 ?_;refine ZE 8 ?_;refine ZFe 9 0 ?_;refine ce 7 Zk ?_;refine ZT (fun w hi=>BW op a b ea eb w) ?_;rintro _ _ ⟨_,⟨rfl,rfl⟩,rfl⟩;refine cD 10 rfl Zk Zk Zk (cV (j:=rd) (sz:=1) (r:=rd) rfl Zrf (Zv rfl) (Zv rfl) Wq4 Wq4 Wq1) rfl ?_;refine ce 11 Zk ?_;refine dp rfl rfl (eA Zrf rfl rfl rfl Za (by simp[ints,hR];omega)) ZJ ?_;rintro _ _ ⟨rfl,rfl⟩;rw[vh hR Wq1];refine dr ?_;refine Z_8 ?_;exact Cu
end Go.Proofs.YtakodpimdalajaaGreatDoor
