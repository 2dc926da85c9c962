/- Lemmas. -/
import Derived.Test.YtgpahfcaecojgaaGreatDoorPao
set_option linter.all false
set_option maxRecDepth 100000
set_option maxHeartbeats 4000000
namespace Go.Ink
open Go.RowKit Go.Proofs.Tryz
section
variable {C:Cx} {Q:lF} {fr:Fr} {cs cs' cin rest:List bJ} {St:Dr} {ops:Array Oper} {fuel i:Nat} {listed:Array Bool}
theorem wa_inv(hc:∀w,Inv C.w0 C.S cs w->Inv C.w0 C.S cs' w)(h:WA C St ops Q fuel listed fr cs'):WA C St ops Q fuel listed fr cs:=λa w hf hi=>h a w hf (hc w hi)
theorem wi_inv(hc:∀w,Inv C.w0 C.S cs w->Inv C.w0 C.S cs' w)(h:WI C St ops Q fuel listed i fr cs'):WI C St ops Q fuel listed i fr cs:=λa w hf hi=>h a w hf (hc w hi)
variable{w0 w:World}{S:List Nat}
theorem Inv.WQ(h:Inv w0 S (bP cin::rest) w):Inv w0 S (cin++rest) w:=by
 grind [h.Xj]
theorem Inv.XG(h:Inv w0 S cs w)(hs:fe cin cs rest):Inv w0 S (bP cin::rest) w:=
 Inv.WT (F:=λ_:Unit=>cin) (hb:=λ_=>rfl) (p:=λ_=>True) () trivial (h.perm hs.perm)
theorem oE{bb t:Nat}{xs:List Value}(hc:Has cs (bP cin))(hr:row bb xs t∈cin):∀w,Inv w0 S cs w->cells (mU bb xs) w:=λw hi=>by
 have h:=ek (hi.get hc) _ hr;have h1:Inv w [bb] [row bb xs t] w:=⟨dc.refl _ _,by simp[bK,row,bJ.bs],λc hc=>by grind,λb hb=>by grind [bK,bJ.bs]⟩;exact bL (.head _ _) w h1
end
theorem u32_div{a:Int}(h:0<=a/\a<=4294967295):0<=a/64/\a/64<=67108863:=by omega
theorem Bp(xs ys:Li)(h:ys.length<=xs.length):(xs.take ys.length==ys)=ys.isPrefixOf xs:=by
 rw[Bool.eq_iff_iff,List.isPrefixOf_iff_prefix,beq_iff_eq];constructor
 .grind
 rintro⟨z,rfl⟩;grind
section
attribute [local irreducible] OpY bN
theorem DJ(A B:Oa)(c d:Nat)(xs ys:Li)(hx:u8s xs)(hy:u8s ys)(w:World)(h:Rd w .u8 A xs.length c xs)(h2:Rd w .u8 B ys.length d ys):
  CW prog 184 [.slice A xs.length c,.slice B ys.length d] w (.bool (ys.isPrefixOf xs)):=by
 have hcap:=h.cap;refine Zfs func184 ntmps184 ?_;by_cases hle:ys.length<=xs.length
 .have hg:decide ((xs.length:Int)>=(ys.length:Int))=true:=aE Wq1
  have htl:(xs.take ys.length).length=ys.length:=by rw[aD];omega
  have HE:=Eu A B c d (xs.take ys.length) ys (λx hx'=>hx x (aB hx')) hy;rw[htl,Bp xs ys hle]at HE;have hrt:=iv h ys.length;rw[htl]at hrt;refine rc ?_;refine Zyy rfl rfl (eC ys.length rfl Zrf (cA rfl) (cA rfl) pe Wq2) ?_;refine ZB ?_;refine dE (bS rfl rfl) (.cons (cA rfl) (.cons (cA rfl) .nil)) (λ_ _=>rfl) (λhg w hi=>HE w (hrt.Wh hi) (h2.Wh hi)) rfl (Z_5 ?_);refine Zra ?_;refine⟨?_,rfl⟩;rw[show decide ((ys.length:Int)<=(xs.length:Int))=true from aE Wq1,Bool.true_and]
 have hp:ys.isPrefixOf xs=false:=by
  cases hb:ys.isPrefixOf xs with
  |false=>rfl
  |true=>
   grind
 have hg0:decide ((ys.length:Int)<=(xs.length:Int))=false:=aF Wq1
 refine ng ?_;refine Wq169 ?_;refine Wq169 ?_;refine Zy (Ju (q:=false) (Zv rfl) ⟨_,rfl,λ_ e=>by grind⟩) ?_;refine Z_4 ?_;refine Zra ?_;refine⟨?_,rfl⟩;rw[hp,hg0,Bool.false_and]
theorem P7(A:Oa)(n c:Nat)(xs:Li)(w:World)(h:Rd w .u8 A n c xs)(hn:n<=140737488355328):Ctr prog 207 [.slice A n c] w [] (λv cs=>∃A' c',v= .slice A' n c'/\cs=[sl .u8 5 A' n c' xs]):=by
 refine Zfs func207 ntmps207 ?_;refine fb ?_;refine ZW ?_ ?_<;>intro hc1
 .obtain rfl:A=none:=by simpa using hc1
  obtain⟨rfl,rfl⟩:=h.nil rfl;obtain rfl:xs=[]:=by have:=h.len;simpa[ints]using this
  refine Z_2 ?_;refine cY 5 1 (Z_5 ?_);exact Qg
 refine Z_4 ?_;refine jD ?_;rintro _ _ ⟨b5,rfl,rfl⟩;exact Wq270
abbrev IZ(bc ml b2 b3 b5:Nat)(r0 r1 r3:Value)(Ap:Oa)(cp:Nat)(Wa:Li)(r:Int×List (Ky×LS)):List bJ:=
 [row b2 [.p bc] 201,row b3 [.slice Ap Wa.length cp] 72,sl .i64 3 Ap Wa.length cp Wa,row b5 [.i r.1] 3,caR bc r0 r1 (.map (some ml)) r3,mpc ml (lkV r.2),bP (lkC r.2)]
abbrev eO(Wa:Li)(x:BA):Bool:=Wa.contains (x.b.key.2/64)
theorem TD(bc ml b2 b3 b5:Nat)(r0 r1 r3:Value)(Ap:Oa)(cp:Nat)(Wa:Li)(r:Int×List (Ky×LS))(x:BA)(hx:ly x.b.key)(hsm:LkSm r.2):CI prog 143 ([]++[.agg x.cells.toArray]++[.p b3,.p b2,.p b5]) (IZ bc ml b2 b3 b5 r0 r1 r3 Ap cp Wa r) (λv cs=>v= .bool (eO Wa x)/\cs=IZ bc ml b2 b3 b5 r0 r1 r3 Ap cp Wa (od (eO Wa) r x)):=λw hi=>by
 obtain⟨k0,k1⟩:=hx.2;have hd:=u32_div hx.2;obtain⟨D,hD⟩:=Zgn (eO Wa x);have hD2:Wa.contains (x.b.key.2/64)=D:=hD;have HC:=pI Ap cp Wa (x.b.key.2/64);rw[hD2]at HC;have ht:D=true->od (eO Wa) r x=(IntKind.i64.wrap (r.1+1),gv r.2 x.key):=λe=>by unfold od;grind
 have hf:D=false->od (eO Wa) r x=r:=λe=>by unfold od;grind
 rw[hD];refine Zfn func143 ntmps143 hi ?_;refine Z_2 ?_;refine ZO λb4=>?_;refine Z_9 ?_;refine Zy (mh (Zv rfl) (Zv rfl) Wq1 (show _=x.b.key.2/64 from by rw[Int.tdiv_eq_ediv_of_nonneg k0,aG];omega)) ?_;refine lD ?_;refine ZSe (λw hi=>HC w (hi.rd (Zhc (sl .i64 3 Ap Wa.length cp Wa)))) ?_;refine Zw9 ?_ ?_<;>intro hc2
 .refine Z_4 ?_;refine dQ (bW (vs:=cD x.b.key) Zrf Zrf Zv0) (cX Zh rfl) rfl (ZcL ([caR bc r0 r1 (.map (some ml)) r3,mpc ml (lkV r.2),bP (lkC r.2)]) (λw hi hin=>Cr bc ml r0 r1 r3 r.2 hsm x.b.key hx w hin) ?_);rintro _ _ ⟨_,rfl,rfl⟩;refine Z_4 ?_;refine pR ?_;refine ZL ?_;refine Z_9 ?_;refine bO (IZ bc ml b2 b3 b5 r0 r1 r3 Ap cp Wa (IntKind.i64.wrap (r.1+1),gv r.2 x.key)) Zj (LH (cs':=IZ bc ml b2 b3 b5 r0 r1 r3 Ap cp Wa (IntKind.i64.wrap (r.1+1),gv r.2 x.key)) (.inl rfl) (bh _) rfl rfl ?_);rw[ht hc2];exact gr
 refine Z_9 ?_;refine bO (IZ bc ml b2 b3 b5 r0 r1 r3 Ap cp Wa r) Zj (LH (cs':=IZ bc ml b2 b3 b5 r0 r1 r3 Ap cp Wa r) (.inl rfl) (bh _) rfl rfl ?_);rw[hf hc2];exact gr
theorem TW(bc:Nat)(room:Int)(X:CaX)(hX:rp room X)(Ap:Oa)(cp:Nat)(Wa:Li):CI prog 122 [.p bc,.slice Ap Wa.length cp] (caF bc room X++[sl .i64 3 Ap Wa.length cp Wa]) (λv cs=>v= .i ((X.Z.filter (eO Wa)).length:Int)/\∃X':CaX,cs=caF bc room X'++[sl .i64 3 Ap Wa.length cp Wa]/\rp room X'/\X'.Z=X.Z.filter λx=> !eO Wa x):=λw hi=>by
 have hS:=hX.sm;have hlen:=hX.len;obtain⟨hr1,hr2⟩:=hX.rm;have hba:=hX.ba;have hlk:=hX.lk;obtain⟨ml,Ac,cc,fl,LK,Z⟩:=X;dsimp only at hS hlen hba hlk;have hZ:=hS.1;have HD:=λb2 b3 b5 w hi=>delB_ok (λr:Int×List (Ky×LS)=>bP (IZ bc ml b2 b3 b5 (.i room) (.slice Ac Z.length cc) (.i fl) Ap cp Wa r)) (λr=>EN (Z.map BA.key) r.2) (od (eO Wa)) (eO Wa) 143 [.p b3,.p b2,.p b5] (λ_ _=>rfl) Z hZ
  (λr x w hok hx hin=>Ctr.mono (Ctr.join hin λhin2=>TD bc ml b2 b3 b5 (.i room) (.slice Ac Z.length cc) (.i fl) Ap cp Wa r x (hba x hx).2 (hok.sm bY) w hin2)
   (λv cs ⟨cs0,⟨h1,h2⟩,h3⟩=>⟨h1,by rw[h3,h2],by
    show EN (Z.map BA.key) (od (eO Wa) r x).2;unfold od;cases eO Wa x with
    |true=>exact(hok.unlink x.key).1
    |false=>exact hok⟩)) Ac cc (0,LK) hlk w hi
 obtain⟨hf1,hf2, -,hf4⟩:=wM (eO Wa) (Z.map BA.key) Z (0,LK) (Int.le_refl _) Wq1 hlk;obtain⟨⟨n9,LK9⟩,h9⟩:=Zgn (Z.foldl (od (eO Wa)) (0,LK));rw[h9]at HD hf1 hf2 hf4;dsimp only at hf1 hf2 hf4;have hsub:(Z.filter λx=> !eO Wa x).Sublist Z:=List.filter_sublist;have hOk:∀A c,rp room ⟨ml,A,c,fl,LK9,Z.filter λx=> !eO Wa x⟩:=λA c=>⟨⟨hr1,hr2⟩,bY,(λy hy=>hba y (hsub.subset hy)),λy hy=>⟨(hf2 y hy).1,(hf2 y hy).2.1,λq hq=>by
  obtain⟨z,hz,hzq⟩:=aZ.1 ((hf2 y hy).2.2 q hq)
  grind⟩⟩
 refine Zfn func122 ntmps122 hi ?_;refine Z_2 ?_;refine ZO λb2=>?_;refine ZO λb3=>?_
 refine Z_5 ?_;refine ZN λb5=>?_;refine ZL ?_;refine Z_3 ?_;refine bU (Zdr [6,9] (mU b2 [.p bc])) Zk (eu 0 rfl Zk Zk Zk (bM Zrf (pk rfl)) (dg rfl) ((by first|(refine bL (t:=201) ?_;(repeat (first|exact .head _ _|apply Has.tail));done)|(refine oE (t:=201) (cin:=IZ bc ml b2 b3 b5 (.i room) (.slice Ac Z.length cc) (.i fl) Ap cp Wa (n9,LK9)) ?_ (List.mem_cons_self ..);(repeat (first|exact .head _ _|apply Has.tail));done))) rfl ?_);refine eu 1 rfl Zk Zk Zk (bM Zrf (pk rfl)) (dg rfl) ((by first|(refine bL (t:=201) ?_;(repeat (first|exact .head _ _|apply Has.tail));done)|(refine oE (t:=201) (cin:=IZ bc ml b2 b3 b5 (.i room) (.slice Ac Z.length cc) (.i fl) Ap cp Wa (n9,LK9)) ?_ (List.mem_cons_self ..);(repeat (first|exact .head _ _|apply Has.tail));done))) rfl ?_;refine ZE 2 ?_;refine ZFe 3 1 ?_;refine ZG 4 ?_;refine Zy4 5 rfl (mi rfl) ?_;refine cW 6 Zk (wi_inv (cs':=bP (IZ bc ml b2 b3 b5 (.i room) (.slice Ac Z.length cc) (.i fl) Ap cp Wa (0,LK))::[slv 242 4 Ac Z.length cc (Z.flatMap BA.cells),bP (Z.map baC)]) (λw hi=>hi.XG Zi) (gX rfl rfl (dN ([slv 242 4 Ac Z.length cc (Z.flatMap BA.cells),bP (IZ bc ml b2 b3 b5 (.i room) (.slice Ac Z.length cc) (.i fl) Ap cp Wa (0,LK))]) rfl (λ_ _=>rfl) Zi (λw hi hin=>HD b2 b3 b5 w hin)) (λ_=>by rintro _ _ ⟨_,⟨rfl,rfl⟩,rfl⟩;exact(by first|(refine bL (t:=201) ?_;(repeat (first|exact .head _ _|apply Has.tail));done)|(refine oE (t:=201) (cin:=IZ bc ml b2 b3 b5 (.i room) (.slice Ac Z.length cc) (.i fl) Ap cp Wa (n9,LK9)) ?_ (List.mem_cons_self ..);(repeat (first|exact .head _ _|apply Has.tail));done))) rfl ?_));rintro _ _ ⟨_,⟨rfl,rfl⟩,rfl⟩;refine wa_inv (cs':=IZ bc ml b2 b3 b5 (.i room) (.slice Ac Z.length cc) (.i fl) Ap cp Wa (n9,LK9)++[slv 242 4 Ac (Z.filter λx=> !eO Wa x).length cc ((Z.filter λx=> !eO Wa x).flatMap BA.cells),bP (Z.map baC)]) (λw hi=>(hi.perm (List.Perm.swap ..)).WQ) (ZE 7 ?_);refine ZFe 8 1 ?_;refine kR ?_;refine fy rfl rfl (mm Zrf rfl rfl rfl Za Zp) (λ_=>by rintro _ _ ⟨rfl,rfl⟩;exact(by first|(refine bL (t:=201) ?_;(repeat (first|exact .head _ _|apply Has.tail));done)|(refine oE (t:=201) (cin:=IZ bc ml b2 b3 b5 (.i room) (.slice Ac Z.length cc) (.i fl) Ap cp Wa (n9,LK9)) ?_ (List.mem_cons_self ..);(repeat (first|exact .head _ _|apply Has.tail));done))) ?_;rintro _ _ ⟨rfl,rfl⟩;refine dR ?_;refine Z_8 ?_;refine mA (cin:=Z.map baC) (cin':=(Z.filter λx=> !eO Wa x).map baC) Zd (hsub.map _) (bO (caF bc room ⟨ml,Ac,cc,fl,LK9,Z.filter λx=> !eO Wa x⟩++[sl .i64 3 Ap Wa.length cp Wa]) Zj (LH (cs':=caF bc room ⟨ml,Ac,cc,fl,LK9,Z.filter λx=> !eO Wa x⟩++[sl .i64 3 Ap Wa.length cp Wa]) (.inl rfl) (bh _) rfl rfl ⟨by grind,⟨ml,Ac,cc,fl,LK9,Z.filter λx=> !eO Wa x⟩,rfl,hOk _ _,rfl⟩))
abbrev II.cells(x:II):List Value:=[.i x.op,.i x.dst,.i x.a,.i x.b,.w x.imm]
structure PAd where
 Ac:Option Addr
 cc:Nat
 Ad:Option Addr
 cd:Nat
 Ar:Option Addr
 cr:Nat
abbrev jL(p:Pg)(Q:PAd):List Value:=[.slice Q.Ac p.code.length Q.cc,.i p.Wc,.i p.Wd,.i p.WH,.i p.WK,.slice Q.Ad p.Wo.length Q.cd,.slice Q.Ar p.Wp.length Q.cr,.i p.flags,.w p.next,.i p.target,.i p.branch,.w p.taken,.i p.count,.i p.values]
abbrev pgv(p:Pg)(Q:PAd):Value:= .agg (jL p Q).toArray
structure CdS where
 b:Nat
 p:Pg
 Q:PAd
 pl:Pl
 Ag:Option Addr
 cg:Nat
 As:Option Addr
 cs:Nat
structure CAd where
 Al:Option Addr
 cl:Nat
 Af:Option Addr
 cf:Nat
abbrev ss(S:CdS)(n m:Nat)(X:CAd):List Value:=[.slice S.Q.Ac S.p.code.length S.Q.cc,.i S.p.Wc,.i S.p.Wd,.i S.p.WH,.i S.p.WK,.slice S.Q.Ad S.p.Wo.length S.Q.cd,.slice S.Q.Ar S.p.Wp.length S.Q.cr,.i S.p.flags,.w S.p.next,.i S.p.target,.i S.p.branch,.w S.p.taken,.i S.p.count,.i S.p.values,
 .slice S.Ag S.pl.reg.length S.cg,.slice S.As S.pl.slot.length S.cs,.i S.pl.WG,.slice X.Al n X.cl,.slice X.Af m X.cf]
theorem hi_one(l:List HI):∀u∈l.flatMap HI.cells,u.oneCell'=true:=λu hu=>by
 obtain⟨i, -,h⟩:=List.mem_flatMap.1 hu;simp only[HI.cells,aJ,aY,or_false]at h;rcases h with rfl|rfl|rfl|rfl|rfl<;>rfl
theorem hi_flat(a b:List HI):a.flatMap HI.cells++b.flatMap HI.cells=(a++b).flatMap HI.cells:=by simp
abbrev cdF(S:CdS)(l:List HI)(fix:Li)(X:CAd):List bJ:=[row S.b (ss S l.length fix.length X) 339,hiC X.Al X.cl l,sl .i64 3 X.Af fix.length X.cf fix]
structure QJ(S:CdS)(w:World):Prop where
 reg:Rd w .i64 S.Ag S.pl.reg.length S.cg S.pl.reg
 slot:Rd w .i64 S.As S.pl.slot.length S.cs S.pl.slot
 Wo:Rd w .i64 S.Q.Ad S.p.Wo.length S.Q.cd S.p.Wo
 Wp:Rd w .i64 S.Q.Ar S.p.Wp.length S.Q.cr S.p.Wp
 code:RdV w 5 S.Q.Ac S.p.code.length S.Q.cc (S.p.code.flatMap II.cells)
section
variable (S:CdS) (l:List HI) (fix:Li) (X:CAd) (hl:l.length<=50000)
include hl in
theorem lB(xs:List HI)(A:Oa)(c:Nat)(hx:xs.length<=50000)(w:World)(hi:Inv w (bK (cdF S l fix X)) (cdF S l fix X) w)(h:∀w',dc (bK (cdF S l fix X)) w w'->RdV w' 5 A xs.length c (xs.flatMap HI.cells)):
  Ctr prog 218 [.p S.b,.slice A xs.length c] w (cdF S l fix X) (λr9 cs=>∃l' X',l'=l++xs/\cs=cdF S l' fix X'):=by
 refine Zfn func218 ntmps218 hi ?_;refine Z_7 ?_;refine fo (bV (e:=347) (sz:=5) (bytes:=40) rfl rfl Za rfl rfl (λw hi=>(h w hi.WB)) (hi_one xs) Wq9 Wq1) rfl ?_;rintro _ _ ⟨A2,c2,rfl,rfl⟩;rw[hi_flat,<-aj];refine kZ ?_;refine Zn (jE (cs':=cdF S (l++xs) fix ⟨A2,c2,X.Af,X.cf⟩) (.inr rfl) Zu rfl ?_);exact pO
include hl in
theorem lZ(rd v:Int):CI prog 213 [.p S.b,.i rd,.w v] (cdF S l fix X) (λr9 cs=>∃l' X',l'=l++[⟨1,rd,0,0,v⟩]/\cs=cdF S l' fix X'):=λw hi=>by
 refine Zfn func213 ntmps213 hi ?_;refine Z_5 ?_;refine pZ ?_;rintro _ _ ⟨b10,rfl,rfl⟩;refine dy (cdF S l fix X) (λw hi hin=>lB S l fix X hl [⟨1,rd,0,0,v⟩] (sA b10) 1 cP w hin (λw' hk=>dx (hi.Xc Zi (Zhc (slv 347 5 (sA b10) 1 1 ([⟨1,rd,0,0,v⟩].flatMap HI.cells))) hk))) ?_;rintro _ _ ⟨_,X2,rfl,rfl⟩;refine Zn (jE (cs':=cdF S (l++[⟨1,rd,0,0,v⟩]) fix X2) (.inr rfl) Zu rfl ?_);exact pO
include hl in
theorem gO(o rd ra rb:Int):CI prog 264 [.p S.b,.i o,.i rd,.i ra,.i rb] (cdF S l fix X) (λr9 cs=>∃l' X',l'=l++[⟨o,rd,ra,rb,0⟩]/\cs=cdF S l' fix X'):=λw hi=>by
 refine Zfn func264 ntmps264 hi ?_;refine Z_7 ?_;refine pZ ?_;rintro _ _ ⟨b16,rfl,rfl⟩;refine dy (cdF S l fix X) (λw hi hin=>lB S l fix X hl [⟨o,rd,ra,rb,0⟩] (sA b16) 1 cP w hin (λw' hk=>dx (hi.Xc Zi (Zhc (slv 347 5 (sA b16) 1 1 ([⟨o,rd,ra,rb,0⟩].flatMap HI.cells))) hk))) ?_;rintro _ _ ⟨_,X2,rfl,rfl⟩;refine Zn (jE (cs':=cdF S (l++[⟨o,rd,ra,rb,0⟩]) fix X2) (.inr rfl) Zu rfl ?_);exact pO
include hl in
theorem El(rd ra v:Int):CI prog 263 [.p S.b,.i rd,.i ra,.w v] (cdF S l fix X) (λr9 cs=>∃l' X',l'=l++[⟨14,rd,ra,0,v⟩]/\cs=cdF S l' fix X'):=λw hi=>by
 refine Zfn func263 ntmps263 hi ?_;refine xv ?_;rintro _ _ ⟨b13,rfl,rfl⟩;refine dy (cdF S l fix X) (λw hi hin=>lB S l fix X hl [⟨14,rd,ra,0,v⟩] (sA b13) 1 cP w hin (λw' hk=>dx (hi.Xc Zi (Zhc (slv 347 5 (sA b13) 1 1 ([⟨14,rd,ra,0,v⟩].flatMap HI.cells))) hk))) ?_;rintro _ _ ⟨_,X2,rfl,rfl⟩;refine Zn (jE (cs':=cdF S (l++[⟨14,rd,ra,0,v⟩]) fix X2) (.inr rfl) Zu rfl ?_);exact pO
include hl in
theorem zx(ra v rb:Int):CI prog 271 [.p S.b,.i ra,.w v,.i rb] (cdF S l fix X) (λr9 cs=>∃l' X',l'=l++[⟨15,0,ra,rb,v⟩]/\cs=cdF S l' fix X'):=λw hi=>by
 refine Zfn func271 ntmps271 hi ?_;refine xv ?_;rintro _ _ ⟨b13,rfl,rfl⟩;refine dy (cdF S l fix X) (λw hi hin=>lB S l fix X hl [⟨15,0,ra,rb,v⟩] (sA b13) 1 cP w hin (λw' hk=>dx (hi.Xc Zi (Zhc (slv 347 5 (sA b13) 1 1 ([⟨15,0,ra,rb,v⟩].flatMap HI.cells))) hk))) ?_;rintro _ _ ⟨_,X2,rfl,rfl⟩;refine Zn (jE (cs':=cdF S (l++[⟨15,0,ra,rb,v⟩]) fix X2) (.inr rfl) Zu rfl ?_);exact pO
include hl in
theorem zu(r:Int)(hf:fix.length<=1000):CI prog 265 [.p S.b,.i r] (cdF S l fix X) (λr9 cs=>∃l' X',l'=l++[⟨17,0,r,0,0⟩]/\cs=cdF S l' (fix++[(l.length:Int)]) X'):=λw hi=>by
 refine Zfn func265 ntmps265 hi ?_;refine Zs (bU (Zdn [11,14]) Zk ?_);refine pS ?_;refine ZFe 3 18 ?_;refine BW ?_;refine ZFe 7 17 ?_;refine ig ?_;refine zL ?_;refine ZE 9 ?_;refine mb ?_;refine EA ?_;rintro _ _ ⟨b14,rfl,rfl⟩;refine cW 11 Zk (gX rfl rfl (bV (e:=3) (sz:=1) (bytes:=8) rfl rfl Za rfl rfl (λw hi=>hi.rd (Zhc (slv 3 1 (sA b14) 1 1 (ints .i64 [(l.length:Int)])))) cN Wq9 Wq1) ZJ rfl ?_);rintro _ _ ⟨A2,c2,rfl,rfl⟩;rw[cj,show fix.length+1=(fix++[(l.length:Int)]).length by simp];refine ZE 12 ?_;refine ZFe 13 18 ?_;refine cW 14 Zk (o9 ?_);refine Z_5 ?_;refine pZ ?_;rintro _ _ ⟨b21,rfl,rfl⟩;refine dy (cdF S l (fix++[(l.length:Int)]) ⟨X.Al,X.cl,A2,c2⟩) (λw hi hin=>lB S l (fix++[(l.length:Int)]) ⟨X.Al,X.cl,A2,c2⟩ hl [⟨17,0,r,0,0⟩] (sA b21) 1 cP w hin (λw' hk=>dx (hi.Xc Zi (Zhc (slv 347 5 (sA b21) 1 1 ([⟨17,0,r,0,0⟩].flatMap HI.cells))) hk))) ?_;rintro _ _ ⟨_,X2,rfl,rfl⟩;refine Zn (jE (cs':=cdF S (l++[⟨17,0,r,0,0⟩]) (fix++[(l.length:Int)]) X2) (.inr rfl) Zu rfl ?_);exact pO
end
end
variable{rest:List bJ}{w0 w:World}
theorem Inv.WU{S:List Nat}{cs cin:List bJ}{w':World}(h:Inv w0 S cs w)(hp:fe cin cs rest)(hk:dc (bK cin) w w'):dc S w0 w':=
 h.Xv (λc hc=>hp.perm.symm.subset (List.mem_append_left _ hc)) hk
variable{n:Nat}
theorem jy{k:IntKind}{l:Li}(h:n<l.length):(ints k l)[n]? =some (.int k (l.getD n 0)):=by grind [cK]
section
variable {C:Cx} {Q:lF} {fr:Fr} {cs:List bJ} {x y:Operand} {d:Option Nat} {T:TypeId} {ty:TypeId} {pos:String} {af:Array Edge} {gd:Option (Nat×Bool)} {g:Bool} {k:IntKind}
theorem ii{A:Oa}{ad:Addr}(hA:A=some ad){n c j:Nat}{i:Int}{e sz:Nat}(hT:C.P.underlying T=some (.slice e))(hs:∀w,(sizeOf e).run C.P w= .ok sz w)(hx:Ev fr g x (.slice A n c))(hy:Ev fr g y (.int k i))(hj:g=true->i=(j:Int))(h1:g=true->j<n):
  OpY C ⟨d,.indexAddr T x y,ty,pos,af,gd⟩ fr g Any (.pointer (some (ad.add (j*sz)))):=by grind [cC]
end
theorem ke(pl:Pl)(n into:Int):(kf pl n into).length<=1:=by grind [kf]
theorem Ow(pl:Pl)(n r:Int):(jd pl n r).length<=1:=by grind [jd]
theorem uS(op rd a b:Int):(zI op rd a b).length<=3:=by grind [zI,Ba,VE]
theorem D2(op a b:Int):(mI op a b).length<=24:=by
 have:=uS op 9 a b;unfold mI fS;cases op==16<;>cases op==17||op==25<;>simp[kM,kL,gV,iq,yi]<;>omega
theorem LZ(x:Int):IntKind.u32.wrap (IntKind.i64.wrap (64+x))=IntKind.u32.wrap (64+x):=by grind [IntKind.wrap_u32,IntKind.wrap_i64]
section
theorem host_ok(op:Int)(w:World):CW prog 297 [.w op] w (.i (tp op)):=by
 refine Zfs func297 ntmps297 ?_;refine EU ?_;refine ZW ?_ ?_<;>intro hc2
 .exact GI
 refine Zw6 ?_ ?_<;>intro hc4
 .exact GI
 refine Zw6 ?_ ?_<;>intro hc6
 .exact GI
 refine Zw6 ?_ ?_<;>intro hc8
 .exact GI
 refine Zw6 ?_ ?_<;>intro hc10
 .exact GI
 refine Zw6 ?_ ?_<;>intro hc12
 .exact GI
 refine Zw6 ?_ ?_<;>intro hc14
 .exact GI
 refine lC ?_;exact⟨by unfold tp;grind,rfl⟩
theorem SR(op:Int)(w:World):CW prog 272 [.i op] w (.tuple #[.w (gU op),.bool (jN op)]):=by
 refine Zfs func272 ntmps272 ?_;refine Gv ?_;refine ZW ?_ ?_<;>intro hc2
 .refine Z_9 ?_;exact Qs
 refine Zw6 ?_ ?_<;>intro hc4
 .refine Z_9 ?_;exact Qs
 refine Zw6 ?_ ?_<;>intro hc6
 .refine Z_9 ?_;exact Qs
 refine Zw6 ?_ ?_<;>intro hc8
 .refine Z_9 ?_;exact Qs
 refine fH ?_;exact Qs
section
variable (S:CdS) (l:List HI) (fix:Li) (X:CAd)
theorem cto_ok(hl:l.length<=20000)(n:Nat)(hn:n<S.pl.reg.length)(w:World)(hi:Inv w (bK (cdF S l fix X)) (cdF S l fix X) w)(hK:∀w',dc (bK (cdF S l fix X)) w w'->QJ S w'):
  Ctr prog 266 [.p S.b,.i n] w (cdF S l fix X) (λr9 cs=>r9= .i (eG S.pl n 9)/\∃l' X',l'=l++[]/\cs=cdF S l' (fix) X'):=by
 have hreg0:=(hK w (dc.refl _ _)).reg;obtain⟨ag,hag⟩:∃ag,S.Ag=some ag:=Option.ne_none_iff_exists'.1 (λe=>by have:=(hreg0.nil e).1;omega);have hreg:∀w',dc (bK (cdF S l fix X)) w w'->RdV w' 1 (some ag) S.pl.reg.length S.cg (ints .i64 S.pl.reg):=λw' hk=>hag▸(hK w' hk).reg
 refine Zfn func266 ntmps266 hi ?_;refine jl ?_;refine Wq208 ?_;refine Zw9 ?_ ?_<;>intro hc2
 .have hr:S.pl.inR n=true:=hc2;exact Wq313
 have hr:S.pl.inR n=false:=hc2;exact Wq313
theorem BO(hl:l.length<=20000)(n:Nat)(into:Int)(hn:n<S.pl.reg.length)(hn2:n<S.pl.slot.length)(w:World)(hi:Inv w (bK (cdF S l fix X)) (cdF S l fix X) w)(hK:∀w',dc (bK (cdF S l fix X)) w w'->QJ S w'):
  Ctr prog 267 [.p S.b,.i n,.i into] w (cdF S l fix X) (λr9 cs=>r9= .i (eG S.pl n into)/\∃l' X',l'=l++kf S.pl n into/\cs=cdF S l' (fix) X'):=by
 have hreg0:=(hK w (dc.refl _ _)).reg;obtain⟨ag,hag⟩:∃ag,S.Ag=some ag:=Option.ne_none_iff_exists'.1 (λe=>by have:=(hreg0.nil e).1;omega);have hreg:∀w',dc (bK (cdF S l fix X)) w w'->RdV w' 1 (some ag) S.pl.reg.length S.cg (ints .i64 S.pl.reg):=λw' hk=>hag▸(hK w' hk).reg
 have hslot0:=(hK w (dc.refl _ _)).slot;obtain⟨asl,has⟩:∃ag,S.As=some ag:=Option.ne_none_iff_exists'.1 (λe=>by have:=(hslot0.nil e).1;omega);have hslot:∀w',dc (bK (cdF S l fix X)) w w'->RdV w' 1 (some asl) S.pl.slot.length S.cs (ints .i64 S.pl.slot):=λw' hk=>has▸(hK w' hk).slot
 refine Zfn func267 ntmps267 hi ?_;refine jl ?_;refine Wq208 ?_;refine Zw9 ?_ ?_<;>intro hc2
 .have hr:S.pl.inR n=true:=hc2;have e1:kf S.pl n into=[]:=by unfold kf;rw[hr];rfl
  refine Z_8 ?_;refine Zrb (cdF S l fix X) ?_;exact⟨by unfold eG;rw[hr];rfl,l,X,bY,rfl⟩
 have hr:S.pl.inR n=false:=hc2;have e1:kf S.pl n into=[⟨14,into,15,0,IntKind.u32.wrap (64+S.pl.s n)⟩]:=by unfold kf;rw[hr];rfl
 refine fb ?_;refine Wq302 ?_;refine dy (cdF S l fix X) (λw hi hin=>El S l fix X Wq1 into 15 (IntKind.u32.wrap (64+S.pl.s n)) w hin) ?_;rintro _ _ ⟨l1,X1,hl1,rfl⟩;refine Z_9 ?_;refine Zrb (cdF S l1 fix X1) ?_;exact⟨by unfold eG;rw[hr];rfl,l1,X1,bY,rfl⟩
theorem TR(hl:l.length<=20000)(n:Nat)(r:Int)(hn:n<S.pl.reg.length)(hn2:n<S.pl.slot.length)(w:World)(hi:Inv w (bK (cdF S l fix X)) (cdF S l fix X) w)(hK:∀w',dc (bK (cdF S l fix X)) w w'->QJ S w'):
  Ctr prog 270 [.p S.b,.i n,.i r] w (cdF S l fix X) (λr9 cs=>∃l' X',l'=l++jd S.pl n r/\cs=cdF S l' (fix) X'):=by
 have hreg0:=(hK w (dc.refl _ _)).reg;obtain⟨ag,hag⟩:∃ag,S.Ag=some ag:=Option.ne_none_iff_exists'.1 (λe=>by have:=(hreg0.nil e).1;omega);have hreg:∀w',dc (bK (cdF S l fix X)) w w'->RdV w' 1 (some ag) S.pl.reg.length S.cg (ints .i64 S.pl.reg):=λw' hk=>hag▸(hK w' hk).reg
 have hslot0:=(hK w (dc.refl _ _)).slot;obtain⟨asl,has⟩:∃ag,S.As=some ag:=Option.ne_none_iff_exists'.1 (λe=>by have:=(hslot0.nil e).1;omega);have hslot:∀w',dc (bK (cdF S l fix X)) w w'->RdV w' 1 (some asl) S.pl.slot.length S.cs (ints .i64 S.pl.slot):=λw' hk=>has▸(hK w' hk).slot
 refine Zfn func270 ntmps270 hi ?_;refine Z_8 ?_;refine Wq208 ?_;refine Zw3 ?_ ?_<;>intro hc0
 .have hr:S.pl.inR n=false:=by unfold Pl.inR;rw[ac]at hc0;rw[aa];omega
  have e1:jd S.pl n r=[⟨15,0,15,r,IntKind.u32.wrap (64+S.pl.s n)⟩]:=by unfold jd;rw[hr];rfl
  refine Z_8 ?_;refine Wq302 ?_;refine ZA ?_;refine dy (cdF S l fix X) (λw hi hin=>zx S l fix X Wq1 15 (IntKind.u32.wrap (64+S.pl.s n)) r w hin) ?_;rintro _ _ ⟨l1,X1,hl1,rfl⟩;refine Zn (jE (cs':=cdF S l1 fix X1) (.inr rfl) Zu rfl ?_);exact⟨l1,X1,bY,rfl⟩
 have hr:S.pl.inR n=true:=by unfold Pl.inR;rw[aa]at hc0;rw[ac];omega
 have e1:jd S.pl n r=[]:=by unfold jd;rw[hr];rfl
 refine Zc (jE (cs':=cdF S l fix X) (.inr rfl) Zu rfl ?_);exact⟨l,X,bY,rfl⟩
theorem clow_ok(hl:l.length<=40000)(r:Int):CI prog 298 [.p S.b,.i r] (cdF S l fix X) (λr9 cs=>∃l' X',l'=l++VE r/\cs=cdF S l' (fix) X'):=λw hi=>by
 refine Zfn func298 ntmps298 hi ?_;refine Z_3 ?_;refine dy (cdF S l fix X) (λw hi hin=>lZ S l fix X Wq1 12 4294967295 w hin) ?_;rintro _ _ ⟨l1,X1,hl1,rfl⟩;refine Z_6 ?_;refine dy (cdF S l1 fix X1) (λw hi hin=>gO S l1 fix X1 bY 5 r r 12 w hin) ?_;rintro _ _ ⟨l2,X2,hl2,rfl⟩;refine Zn (jE (cs':=cdF S l2 fix X2) (.inr rfl) Zu rfl ?_);exact⟨l2,X2,(by simp only[hl1,hl2,VE,ai,ah,aq,aP,aR,aw]),rfl⟩
theorem zy(hl:l.length<=40000)(rd r:Int):CI prog 299 [.p S.b,.i rd,.i r] (cdF S l fix X) (λr9 cs=>∃l' X',l'=l++iq rd r/\cs=cdF S l' (fix) X'):=λw hi=>by
 refine Zfn func299 ntmps299 hi ?_;refine Z_3 ?_;refine dy (cdF S l fix X) (λw hi hin=>lZ S l fix X Wq1 12 31 w hin) ?_;rintro _ _ ⟨l1,X1,hl1,rfl⟩;refine Z_6 ?_;refine dy (cdF S l1 fix X1) (λw hi hin=>gO S l1 fix X1 bY 9 rd r 12 w hin) ?_;rintro _ _ ⟨l2,X2,hl2,rfl⟩;refine Zn (jE (cs':=cdF S l2 fix X2) (.inr rfl) Zu rfl ?_);exact⟨l2,X2,(by simp only[hl1,hl2,iq,ai,ah,aq,aP,aR,aw]),rfl⟩
theorem Gp(hl:l.length<=40000)(r up:Int):CI prog 300 [.p S.b,.i r,.w up] (cdF S l fix X) (λr9 cs=>∃l' X',l'=l++yi r up/\cs=cdF S l' (fix) X'):=λw hi=>by
 refine Zfn func300 ntmps300 hi ?_;refine Z_4 ?_;refine dy (cdF S l fix X) (λw hi hin=>lZ S l fix X Wq1 12 up w hin) ?_;rintro _ _ ⟨l1,X1,hl1,rfl⟩;refine Z_7 ?_;refine dy (cdF S l1 fix X1) (λw hi hin=>gO S l1 fix X1 bY 8 r r 12 w hin) ?_;rintro _ _ ⟨l2,X2,hl2,rfl⟩;refine Z_5 ?_;refine dy (cdF S l2 fix X2) (λw hi hin=>gO S l2 fix X2 bY 6 10 10 r w hin) ?_;rintro _ _ ⟨l3,X3,hl3,rfl⟩;refine Zn (jE (cs':=cdF S l3 fix X3) (.inr rfl) Zu rfl ?_);exact⟨l3,X3,(by simp only[hl1,hl2,hl3,yi,ai,ah,aq,aP,aR,aw]),rfl⟩
theorem P2(hl:l.length<=30000)(op rd a b:Int):CI prog 268 [.p S.b,.w op,.i rd,.i a,.i b] (cdF S l fix X) (λr9 cs=>∃l' X',l'=l++zI op rd a b/\cs=cdF S l' (fix) X'):=λw hi=>by
 refine Zfn func268 ntmps268 hi ?_;refine Z_4 ?_;refine ZSe (λw hi=>host_ok op w) ?_;refine Z_3 ?_;refine dy (cdF S l fix X) (λw hi hin=>gO S l fix X Wq1 (tp op) rd a b w hin) ?_;rintro _ _ ⟨l1,X1,hl1,rfl⟩;refine oU ?_;refine ZW ?_ ?_<;>intro hc3
 .refine Z_2 ?_;refine cn rfl (hc3) (Uy ?_);exact⟨l1,X1,(by simp only[hl1,zI,Ba,Bool.or_true,Bool.true_or,Bool.or_false,Bool.false_or,hc3,ai,ah,aq,aP,aR,aw]),rfl⟩
 refine Zw6 ?_ ?_<;>intro hc4
 .refine Z_2 ?_;refine cn rfl (hc4) (Uy ?_);exact⟨l1,X1,(by simp only[hl1,zI,Ba,Bool.or_true,Bool.true_or,Bool.or_false,Bool.false_or,hc3,hc4,ai,ah,aq,aP,aR,aw]),rfl⟩
 refine Zw6 ?_ ?_<;>intro hc5
 .refine Z_2 ?_;refine cn rfl (hc5) (Uy ?_);exact⟨l1,X1,(by simp only[hl1,zI,Ba,Bool.or_true,Bool.true_or,Bool.or_false,Bool.false_or,hc3,hc4,hc5,ai,ah,aq,aP,aR,aw]),rfl⟩
 refine Zw5 ?_ ?_<;>intro hc6
 .refine Uy ?_;exact⟨l1,X1,(by simp only[hl1,zI,Ba,Bool.or_true,Bool.true_or,Bool.or_false,Bool.false_or,hc3,hc4,hc5,hc6,ai,ah,aq,aP,aR,aw]),rfl⟩
 refine Z_3 ?_;refine dy (cdF S l1 fix X1) (λw hi hin=>clow_ok S l1 fix X1 bY rd w hin) ?_;rintro _ _ ⟨l2,X2,hl2,rfl⟩;refine Z_2 ?_;exact jE (cs':=cdF S l2 fix X2) (.inr rfl) Zu rfl ⟨l2,X2,(by simp only[hl1,hl2,zI,Ba,Bool.or_true,Bool.true_or,Bool.or_false,Bool.false_or,hc3,hc4,hc5,hc6,ai,ah,aq,aP,aR,aw]),rfl⟩
theorem TV(hl:l.length<=20000)(op a b:Int):CI prog 269 [.p S.b,.w op,.i a,.i b] (cdF S l fix X) (λr9 cs=>∃l' X',l'=l++mI op a b/\cs=cdF S l' (fix) X'):=λw hi=>by
 have ha:=uS op 9 a b;have hs:∀x y,(iq x y).length=2:=λ_ _=>rfl
 have hb:∀x y,(yi x y).length=3:=λ_ _=>rfl
 refine Zfn func269 ntmps269 hi ?_;refine Z_6 ?_;refine dy (cdF S l fix X) (λw hi hin=>P2 S l fix X Wq1 op 9 a b w hin) ?_;rintro _ _ ⟨l1,X1,hl1,rfl⟩;refine Z_5 ?_;refine dy (cdF S l1 fix X1) (λw hi hin=>gO S l1 fix X1 bY 13 10 9 15 w hin) ?_;rintro _ _ ⟨l2,X2,hl2,rfl⟩;refine Z_5 ?_;refine dy (cdF S l2 fix X2) (λw hi hin=>zy S l2 fix X2 bY 11 9 w hin) ?_;rintro _ _ ⟨l3,X3,hl3,rfl⟩;refine Z_5 ?_;refine dy (cdF S l3 fix X3) (λw hi hin=>Gp S l3 fix X3 bY 11 1 w hin) ?_;rintro _ _ ⟨l4,X4,hl4,rfl⟩;refine Z_2 ?_;refine cL (λq:List HI×CAd=>[(0,.p S.b)]) (λq=>cdF S q.1 fix q.2) (λq=>q.1.length<=l.length+30/\q.1++(⟨5,11,11,12,0⟩::(iq 11 11++yi 11 3))=l++mI op a b) ?_ ?_
 .refine fb ?_;refine ZW ?_ ?_<;>intro hc5
  .refine Z_4 ?_;refine dy (cdF S l4 fix X4) (λw hi hin=>gO S l4 fix X4 Wq264 12 11 9 a w hin) ?_;rintro _ _ ⟨l5,X5,hl5,rfl⟩;refine Wq159 ?_;rintro _ _ ⟨_,⟨l6,X6,hl6,rfl⟩,rfl⟩;refine Z_6 ?_;refine dy (cdF S l6 fix X6) (λw hi hin=>gO S l6 fix X6 Wq241 7 11 a 9 w hin) ?_;rintro _ _ ⟨l7,X7,hl7,rfl⟩;refine Z_5 ?_;refine dy (cdF S l7 fix X7) (λw hi hin=>gO S l7 fix X7 Wq229 7 12 b 9 w hin) ?_;rintro _ _ ⟨l8,X8,hl8,rfl⟩;refine Z_2 ?_;refine qMM (((l8,X8):List HI×CAd)) ⟨by grind,by simp only[hl1,hl2,hl3,hl4,hl5,hl6,hl7,hl8,mI,fS,kM,kL,gV,ai,ah,Bool.true_or,Bool.or_true,aq,aP,aR,hc5]⟩
  refine Zw7 ?_ ?_<;>intro hc10
  .refine Z_2 ?_;refine cn rfl (hc10) (Z_5 ?_);refine dy (cdF S l4 fix X4) (λw hi hin=>gO S l4 fix X4 Wq264 12 11 a b w hin) ?_;rintro _ _ ⟨l5,X5,hl5,rfl⟩;refine Wq159 ?_;rintro _ _ ⟨_,⟨l6,X6,hl6,rfl⟩,rfl⟩;refine Z_7 ?_;refine dy (cdF S l6 fix X6) (λw hi hin=>gO S l6 fix X6 Wq241 7 11 a b w hin) ?_;rintro _ _ ⟨l7,X7,hl7,rfl⟩;refine Z_5 ?_;refine dy (cdF S l7 fix X7) (λw hi hin=>gO S l7 fix X7 Wq229 7 12 a 9 w hin) ?_;rintro _ _ ⟨l8,X8,hl8,rfl⟩;refine Z_2 ?_;refine qMM (((l8,X8):List HI×CAd)) ⟨by grind,by simp only[hl1,hl2,hl3,hl4,hl5,hl6,hl7,hl8,mI,fS,kM,kL,gV,ai,ah,Bool.true_or,Bool.or_true,aq,aP,aR,hc5,hc10]⟩
  refine Zw5 ?_ ?_<;>intro hc11
  .refine Z_5 ?_;refine dy (cdF S l4 fix X4) (λw hi hin=>gO S l4 fix X4 Wq264 12 11 a b w hin) ?_;rintro _ _ ⟨l5,X5,hl5,rfl⟩;refine Wq159 ?_;rintro _ _ ⟨_,⟨l6,X6,hl6,rfl⟩,rfl⟩;refine Z_7 ?_;refine dy (cdF S l6 fix X6) (λw hi hin=>gO S l6 fix X6 Wq241 7 11 a b w hin) ?_;rintro _ _ ⟨l7,X7,hl7,rfl⟩;refine Z_5 ?_;refine dy (cdF S l7 fix X7) (λw hi hin=>gO S l7 fix X7 Wq229 7 12 a 9 w hin) ?_;rintro _ _ ⟨l8,X8,hl8,rfl⟩;refine Z_2 ?_;refine qMM (((l8,X8):List HI×CAd)) ⟨by grind,by simp only[hl1,hl2,hl3,hl4,hl5,hl6,hl7,hl8,mI,fS,kM,kL,gV,ai,ah,Bool.true_or,Bool.or_true,aq,aP,aR,hc5,hc10,hc11]⟩
  refine Z_3 ?_;exact jE (cs':=cdF S l4 fix X4) (.inl rfl) Zu rfl ⟨l4,X4,(by simp only[hl1,hl2,hl3,hl4,mI,fS,hc5,hc10,hc11,Bool.or_false,ai,ah,aq,aP,aR,aw]),rfl⟩
 rintro⟨m9,s9⟩ ⟨hs8,hs9⟩;dsimp only at hs8 hs9|-;refine Z_3 ?_;refine dy (cdF S m9 fix s9) (λw hi hin=>gO S m9 fix s9 Wq1 5 11 11 12 w hin) ?_;rintro _ _ ⟨l21,X21,hl21,rfl⟩;refine Z_5 ?_;refine dy (cdF S l21 fix X21) (λw hi hin=>zy S l21 fix X21 bY 11 11 w hin) ?_;rintro _ _ ⟨l22,X22,hl22,rfl⟩;refine Z_4 ?_;refine dy (cdF S l22 fix X22) (λw hi hin=>Gp S l22 fix X22 bY 11 3 w hin) ?_;rintro _ _ ⟨l23,X23,hl23,rfl⟩;refine Zn (jE (cs':=cdF S l23 fix X23) (.inr rfl) Zu rfl ?_);exact⟨l23,X23,bY,rfl⟩
end
end
end Go.Ink
