/- Lemmas. -/
import Derived.Test.YtbkgmdgackknfaaGreatDoorPap
set_option linter.unusedSimpArgs false
set_option linter.unusedVariables false
set_option maxRecDepth 100000
set_option maxHeartbeats 4000000
namespace Go.Ink
open Go.RowKit Go.Proofs.Tryz
abbrev II.cells(x:II):List Value:=[.i x.op,.i x.dst,.i x.a,.i x.b,.w x.imm]
structure PAd where
 Ac:Option Addr
 cc:Nat
 Ad:Option Addr
 cd:Nat
 Ar:Option Addr
 cr:Nat
abbrev jD(p:Pg)(Q:PAd):List Value:=[.slice Q.Ac p.code.length Q.cc,.i p.RI,.i p.RJ,.i p.Sn,.i p.Sq,.slice Q.Ad p.RV.length Q.cd,.slice Q.Ar p.RX.length Q.cr,.i p.flags,.w p.next,.i p.target,.i p.branch,.w p.taken,.i p.count,.i p.values]
abbrev pgv(p:Pg)(Q:PAd):Value:= .agg (jD p Q).toArray
structure CdS where
 b:Nat
 p:Pg
 Q:PAd
 pl:Pl
 Ag:Option Addr
 cg:Nat
 As:Option Addr
 cs:Nat
structure CAd where
 Al:Option Addr
 cl:Nat
 Af:Option Addr
 cf:Nat
abbrev pK(S:CdS)(n m:Nat)(X:CAd):List Value:=[.slice S.Q.Ac S.p.code.length S.Q.cc,.i S.p.RI,.i S.p.RJ,.i S.p.Sn,.i S.p.Sq,.slice S.Q.Ad S.p.RV.length S.Q.cd,.slice S.Q.Ar S.p.RX.length S.Q.cr,.i S.p.flags,.w S.p.next,.i S.p.target,.i S.p.branch,.w S.p.taken,.i S.p.count,.i S.p.values,
 .slice S.Ag S.pl.reg.length S.cg,.slice S.As S.pl.slot.length S.cs,.i S.pl.Sm,.slice X.Al n X.cl,.slice X.Af m X.cf]
theorem hi_one(l:List HI):∀u∈l.flatMap HI.cells,u.oneCell'=true:=λu hu=>by
 obtain⟨i, -,h⟩:=List.mem_flatMap.1 hu;simp only[HI.cells,aG,aS,or_false]at h;rcases h with rfl|rfl|rfl|rfl|rfl<;>rfl
theorem hi_flat(a b:List HI):a.flatMap HI.cells++b.flatMap HI.cells=(a++b).flatMap HI.cells:=by simp
section
attribute [local irreducible] OpY bH
abbrev cdF(S:CdS)(l:List HI)(fix:List Int)(X:CAd):List bC:=[row S.b (pK S l.length fix.length X) 301,hiC X.Al X.cl l,sl .i64 3 X.Af fix.length X.cf fix]
structure Nh(S:CdS)(w:World):Prop where
 reg:Rd w .i64 S.Ag S.pl.reg.length S.cg S.pl.reg
 slot:Rd w .i64 S.As S.pl.slot.length S.cs S.pl.slot
 RV:Rd w .i64 S.Q.Ad S.p.RV.length S.Q.cd S.p.RV
 RX:Rd w .i64 S.Q.Ar S.p.RX.length S.Q.cr S.p.RX
 code:RdV w 5 S.Q.Ac S.p.code.length S.Q.cc (S.p.code.flatMap II.cells)
section
variable (S:CdS) (l:List HI) (fix:List Int) (X:CAd) (hl:l.length<=50000)
include hl in
theorem lr(xs:List HI)(A:Option Addr)(c:Nat)(hx:xs.length<=50000)(w:World)(hi:Inv w (bD (cdF S l fix X)) (cdF S l fix X) w)(h:∀w',cY (bD (cdF S l fix X)) w w'->RdV w' 5 A xs.length c (xs.flatMap HI.cells)):
  Ctr prog 189 [.p S.b,.slice A xs.length c] w (cdF S l fix X) (λr9 cs=>∃l' X',l'=l++xs/\cs=cdF S l' fix X'):=by
 refine Zfn func189 ntmps189 hi ?_;refine Z_7 ?_;refine fW (cj (e:=309) (sz:=5) (bytes:=40) rfl rfl Za rfl rfl (λw hi=>(h w hi.Sf)) (hi_one xs) gq Wq1) rfl ?_;rintro _ _ ⟨A2,c2,rfl,rfl⟩;rw[hi_flat,<-aq];refine mP ?_;refine Zn (iY (cs':=cdF S (l++xs) fix ⟨A2,c2,X.Af,X.cf⟩) (.inr rfl) Zu rfl ?_);exact pN
include hl in
theorem lN(rd v:Int)(w:World)(hi:Inv w (bD (cdF S l fix X)) (cdF S l fix X) w):
  Ctr prog 184 [.p S.b,.i rd,.w v] w (cdF S l fix X) (λr9 cs=>∃l' X',l'=l++[⟨1,rd,0,0,v⟩]/\cs=cdF S l' fix X'):=by
 refine Zfn func184 ntmps184 hi ?_;refine Z_5 ?_;refine jj ?_;rintro _ _ ⟨b10,rfl,rfl⟩;refine dz (cdF S l fix X) (λw hi hin=>lr S l fix X hl [⟨1,rd,0,0,v⟩] (sA b10) 1 cH w hin (λw' hk=>dp (hi.SO Zi (show Has _ (slv 309 5 (sA b10) 1 1 ([⟨1,rd,0,0,v⟩].flatMap HI.cells))from Zh) hk))) ?_;rintro _ _ ⟨_,X2,rfl,rfl⟩;refine Zn (iY (cs':=cdF S (l++[⟨1,rd,0,0,v⟩]) fix X2) (.inr rfl) Zu rfl ?_);exact pN
include hl in
theorem gS(o rd ra rb:Int)(w:World)(hi:Inv w (bD (cdF S l fix X)) (cdF S l fix X) w):
  Ctr prog 235 [.p S.b,.i o,.i rd,.i ra,.i rb] w (cdF S l fix X) (λr9 cs=>∃l' X',l'=l++[⟨o,rd,ra,rb,0⟩]/\cs=cdF S l' fix X'):=by
 refine Zfn func235 ntmps235 hi ?_;refine Z_7 ?_;refine jj ?_;rintro _ _ ⟨b16,rfl,rfl⟩;refine dz (cdF S l fix X) (λw hi hin=>lr S l fix X hl [⟨o,rd,ra,rb,0⟩] (sA b16) 1 cH w hin (λw' hk=>dp (hi.SO Zi (show Has _ (slv 309 5 (sA b16) 1 1 ([⟨o,rd,ra,rb,0⟩].flatMap HI.cells))from Zh) hk))) ?_;rintro _ _ ⟨_,X2,rfl,rfl⟩;refine Zn (iY (cs':=cdF S (l++[⟨o,rd,ra,rb,0⟩]) fix X2) (.inr rfl) Zu rfl ?_);exact pN
include hl in
theorem CH(rd ra v:Int)(w:World)(hi:Inv w (bD (cdF S l fix X)) (cdF S l fix X) w):
  Ctr prog 234 [.p S.b,.i rd,.i ra,.w v] w (cdF S l fix X) (λr9 cs=>∃l' X',l'=l++[⟨14,rd,ra,0,v⟩]/\cs=cdF S l' fix X'):=by
 refine Zfn func234 ntmps234 hi ?_;refine Z_6 ?_;refine jj ?_;rintro _ _ ⟨b13,rfl,rfl⟩;refine dz (cdF S l fix X) (λw hi hin=>lr S l fix X hl [⟨14,rd,ra,0,v⟩] (sA b13) 1 cH w hin (λw' hk=>dp (hi.SO Zi (show Has _ (slv 309 5 (sA b13) 1 1 ([⟨14,rd,ra,0,v⟩].flatMap HI.cells))from Zh) hk))) ?_;rintro _ _ ⟨_,X2,rfl,rfl⟩;refine Zn (iY (cs':=cdF S (l++[⟨14,rd,ra,0,v⟩]) fix X2) (.inr rfl) Zu rfl ?_);exact pN
include hl in
theorem yq(ra v rb:Int)(w:World)(hi:Inv w (bD (cdF S l fix X)) (cdF S l fix X) w):
  Ctr prog 242 [.p S.b,.i ra,.w v,.i rb] w (cdF S l fix X) (λr9 cs=>∃l' X',l'=l++[⟨15,0,ra,rb,v⟩]/\cs=cdF S l' fix X'):=by
 refine Zfn func242 ntmps242 hi ?_;refine Z_6 ?_;refine jj ?_;rintro _ _ ⟨b13,rfl,rfl⟩;refine dz (cdF S l fix X) (λw hi hin=>lr S l fix X hl [⟨15,0,ra,rb,v⟩] (sA b13) 1 cH w hin (λw' hk=>dp (hi.SO Zi (show Has _ (slv 309 5 (sA b13) 1 1 ([⟨15,0,ra,rb,v⟩].flatMap HI.cells))from Zh) hk))) ?_;rintro _ _ ⟨_,X2,rfl,rfl⟩;refine Zn (iY (cs':=cdF S (l++[⟨15,0,ra,rb,v⟩]) fix X2) (.inr rfl) Zu rfl ?_);exact pN
include hl in
theorem yp(r:Int)(hf:fix.length<=1000)(w:World)(hi:Inv w (bD (cdF S l fix X)) (cdF S l fix X) w):
  Ctr prog 236 [.p S.b,.i r] w (cdF S l fix X) (λr9 cs=>∃l' X',l'=l++[⟨17,0,r,0,0⟩]/\cs=cdF S l' (fix++[(l.length:Int)]) X'):=by
 refine Zfn func236 ntmps236 hi ?_;refine Zs (bL ⟨λj=>List.elem j [11,14],[]⟩ Zk ?_);refine kQ ?_;refine ZFe 3 18 ?_;refine ZG 4 ?_;refine mE ?_;refine ZFe 7 17 ?_;refine cn 8 Zk (lR ?_);refine ZE 9 ?_;refine cn 10 Zk (AR ?_);rintro _ _ ⟨b14,rfl,rfl⟩;refine cn 11 Zk (jT rfl rfl (cj (e:=3) (sz:=1) (bytes:=8) rfl rfl Za rfl rfl (λw hi=>hi.rd (show Has _ (slv 3 1 (sA b14) 1 1 (ints .i64 [(l.length:Int)]))from Zh)) di gq Wq1) ZJ rfl ?_);rintro _ _ ⟨A2,c2,rfl,rfl⟩;rw[bX,show fix.length+1=(fix++[(l.length:Int)]).length by simp];refine ZE 12 ?_;refine ZFe 13 18 ?_;refine cn 14 Zk (nO ?_);refine Z_5 ?_;refine jj ?_;rintro _ _ ⟨b21,rfl,rfl⟩;refine dz (cdF S l (fix++[(l.length:Int)]) ⟨X.Al,X.cl,A2,c2⟩) (λw hi hin=>lr S l (fix++[(l.length:Int)]) ⟨X.Al,X.cl,A2,c2⟩ hl [⟨17,0,r,0,0⟩] (sA b21) 1 cH w hin (λw' hk=>dp (hi.SO Zi (show Has _ (slv 309 5 (sA b21) 1 1 ([⟨17,0,r,0,0⟩].flatMap HI.cells))from Zh) hk))) ?_;rintro _ _ ⟨_,X2,rfl,rfl⟩;refine Zn (iY (cs':=cdF S (l++[⟨17,0,r,0,0⟩]) (fix++[(l.length:Int)]) X2) (.inr rfl) Zu rfl ?_);exact pN
end
end
theorem Inv.SC{S:List Nat}{cs cin rest:List bC}{w0 w w':World}(h:Inv w0 S cs w)(hp:eJ cin cs rest)(hk:cY (bD cin) w w'):cY S w0 w':=
 h.Ta (λc hc=>hp.perm.symm.subset (List.mem_append_left _ hc)) hk
theorem iP{k:IntKind}{l:List Int}{n:Nat}(h:n<l.length):(ints k l)[n]? =some (.int k (l.getD n 0)):=by grind [cq]
section
variable {C:Cx} {Q:lS} {fr:Fr} {cs:List bC} {x y:Operand} {d:Option Nat} {T:TypeId} {ty:TypeId} {pos:String} {af:Array Edge} {gd:Option (Nat×Bool)} {g:Bool} {k:IntKind}
theorem fI{A:Option Addr}{ad:Addr}(hA:A=some ad){n c j:Nat}{i:Int}{e sz:Nat}(hT:C.P.underlying T=some (.slice e))(hs:∀w,(sizeOf e).run C.P w= .ok sz w)(hx:Ev fr g x (.slice A n c))(hy:Ev fr g y (.int k i))(hj:g=true->i=(j:Int))(h1:g=true->j<n):
  OpY C ⟨d,.indexAddr T x y,ty,pos,af,gd⟩ fr g Any (.pointer (some (ad.add (j*sz)))):=by grind [bS]
end
theorem jX(pl:Pl)(n into:Int):(jY pl n into).length<=1:=by grind [jY]
theorem Lg(pl:Pl)(n r:Int):(jb pl n r).length<=1:=by grind [jb]
theorem uu(op rd a b:Int):(yz op rd a b).length<=3:=by grind [yz,zI,Rh]
theorem Ct(op a b:Int):(mv op a b).length<=24:=by
 have:=uu op 9 a b;unfold mv fS;cases op==16<;>cases op==17||op==25<;>simp[kH,kG,gY,ik,w8]<;>omega
theorem Ja(x:Int):IntKind.u32.wrap (IntKind.i64.wrap (64+x))=IntKind.u32.wrap (64+x):=by grind [IntKind.wrap_u32,IntKind.wrap_i64]
section
theorem host_ok(op:Int)(w:World):Ctr prog 268 [.w op] w [] (λr cs=>r= .i (sU op)/\cs=[]):=by
 refine Zfs func268 ntmps268 ?_;refine AO ?_;refine ZW ?_ ?_<;>intro hc2
 .exact EH
 refine Zw6 ?_ ?_<;>intro hc4
 .exact EH
 refine Zw6 ?_ ?_<;>intro hc6
 .exact EH
 refine Zw6 ?_ ?_<;>intro hc8
 .exact EH
 refine Zw6 ?_ ?_<;>intro hc10
 .exact EH
 refine Zw6 ?_ ?_<;>intro hc12
 .exact EH
 refine Zw6 ?_ ?_<;>intro hc14
 .exact EH
 refine ls ?_;exact⟨by unfold sU;grind,rfl⟩
theorem Ph(op:Int)(w:World):Ctr prog 243 [.i op] w [] (λr cs=>r= .tuple #[.w (gX op),.bool (jF op)]/\cs=[]):=by
 refine Zfs func243 ntmps243 ?_;refine IB ?_;refine ZW ?_ ?_<;>intro hc2
 .refine Z_9 ?_;exact MY
 refine Zw6 ?_ ?_<;>intro hc4
 .refine Z_9 ?_;exact MY
 refine Zw6 ?_ ?_<;>intro hc6
 .refine Z_9 ?_;exact MY
 refine Zw6 ?_ ?_<;>intro hc8
 .refine Z_9 ?_;exact MY
 refine fB ?_;exact MY
section
variable (S:CdS) (l:List HI) (fix:List Int) (X:CAd)
theorem cto_ok(hl:l.length<=20000)(n:Nat)(hn:n<S.pl.reg.length)(w:World)(hi:Inv w (bD (cdF S l fix X)) (cdF S l fix X) w)(hK:∀w',cY (bD (cdF S l fix X)) w w'->Nh S w'):
  Ctr prog 237 [.p S.b,.i n] w (cdF S l fix X) (λr9 cs=>r9= .i (eC S.pl n 9)/\∃l' X',l'=l++[]/\cs=cdF S l' (fix) X'):=by
 have hreg0:=(hK w (cY.refl _ _)).reg;obtain⟨ag,hag⟩:∃ag,S.Ag=some ag:=Option.ne_none_iff_exists'.1 (λe=>by have:=(hreg0.nil e).1;omega);have hreg:∀w',cY (bD (cdF S l fix X)) w w'->RdV w' 1 (some ag) S.pl.reg.length S.cg (ints .i64 S.pl.reg):=λw' hk=>hag▸(hK w' hk).reg
 refine Zfn func237 ntmps237 hi ?_;refine iT ?_;refine Wq214 ?_;refine Zw9 ?_ ?_<;>intro hc2
 .have hr:S.pl.inR n=true:=hc2;exact Wq307
 have hr:S.pl.inR n=false:=hc2;exact Wq307
theorem AC(hl:l.length<=20000)(n:Nat)(into:Int)(hn:n<S.pl.reg.length)(hn2:n<S.pl.slot.length)(w:World)(hi:Inv w (bD (cdF S l fix X)) (cdF S l fix X) w)(hK:∀w',cY (bD (cdF S l fix X)) w w'->Nh S w'):
  Ctr prog 238 [.p S.b,.i n,.i into] w (cdF S l fix X) (λr9 cs=>r9= .i (eC S.pl n into)/\∃l' X',l'=l++jY S.pl n into/\cs=cdF S l' (fix) X'):=by
 have hreg0:=(hK w (cY.refl _ _)).reg;obtain⟨ag,hag⟩:∃ag,S.Ag=some ag:=Option.ne_none_iff_exists'.1 (λe=>by have:=(hreg0.nil e).1;omega);have hreg:∀w',cY (bD (cdF S l fix X)) w w'->RdV w' 1 (some ag) S.pl.reg.length S.cg (ints .i64 S.pl.reg):=λw' hk=>hag▸(hK w' hk).reg
 have hslot0:=(hK w (cY.refl _ _)).slot;obtain⟨asl,has⟩:∃ag,S.As=some ag:=Option.ne_none_iff_exists'.1 (λe=>by have:=(hslot0.nil e).1;omega);have hslot:∀w',cY (bD (cdF S l fix X)) w w'->RdV w' 1 (some asl) S.pl.slot.length S.cs (ints .i64 S.pl.slot):=λw' hk=>has▸(hK w' hk).slot
 refine Zfn func238 ntmps238 hi ?_;refine iT ?_;refine Wq214 ?_;refine Zw9 ?_ ?_<;>intro hc2
 .have hr:S.pl.inR n=true:=hc2;have e1:jY S.pl n into=[]:=by unfold jY;rw[hr];rfl
  refine Z_8 ?_;refine Zrb (cdF S l fix X) ?_;exact⟨by unfold eC;rw[hr];rfl,l,X,bR,rfl⟩
 have hr:S.pl.inR n=false:=hc2;have e1:jY S.pl n into=[⟨14,into,15,0,IntKind.u32.wrap (64+S.pl.s n)⟩]:=by unfold jY;rw[hr];rfl
 refine fD ?_;refine Wq294 ?_;refine dz (cdF S l fix X) (λw hi hin=>CH S l fix X Wq1 into 15 (IntKind.u32.wrap (64+S.pl.s n)) w hin) ?_;rintro _ _ ⟨l1,X1,hl1,rfl⟩;refine Z_9 ?_;refine Zrb (cdF S l1 fix X1) ?_;exact⟨by unfold eC;rw[hr];rfl,l1,X1,bR,rfl⟩
theorem P8(hl:l.length<=20000)(n:Nat)(r:Int)(hn:n<S.pl.reg.length)(hn2:n<S.pl.slot.length)(w:World)(hi:Inv w (bD (cdF S l fix X)) (cdF S l fix X) w)(hK:∀w',cY (bD (cdF S l fix X)) w w'->Nh S w'):
  Ctr prog 241 [.p S.b,.i n,.i r] w (cdF S l fix X) (λr9 cs=>∃l' X',l'=l++jb S.pl n r/\cs=cdF S l' (fix) X'):=by
 have hreg0:=(hK w (cY.refl _ _)).reg;obtain⟨ag,hag⟩:∃ag,S.Ag=some ag:=Option.ne_none_iff_exists'.1 (λe=>by have:=(hreg0.nil e).1;omega);have hreg:∀w',cY (bD (cdF S l fix X)) w w'->RdV w' 1 (some ag) S.pl.reg.length S.cg (ints .i64 S.pl.reg):=λw' hk=>hag▸(hK w' hk).reg
 have hslot0:=(hK w (cY.refl _ _)).slot;obtain⟨asl,has⟩:∃ag,S.As=some ag:=Option.ne_none_iff_exists'.1 (λe=>by have:=(hslot0.nil e).1;omega);have hslot:∀w',cY (bD (cdF S l fix X)) w w'->RdV w' 1 (some asl) S.pl.slot.length S.cs (ints .i64 S.pl.slot):=λw' hk=>has▸(hK w' hk).slot
 refine Zfn func241 ntmps241 hi ?_;refine Z_8 ?_;refine Wq214 ?_;refine Zw3 ?_ ?_<;>intro hc0
 .have hr:S.pl.inR n=false:=by unfold Pl.inR;rw[ae]at hc0;rw[ac];omega
  have e1:jb S.pl n r=[⟨15,0,15,r,IntKind.u32.wrap (64+S.pl.s n)⟩]:=by unfold jb;rw[hr];rfl
  refine Z_8 ?_;refine Wq294 ?_;refine ZA ?_;refine dz (cdF S l fix X) (λw hi hin=>yq S l fix X Wq1 15 (IntKind.u32.wrap (64+S.pl.s n)) r w hin) ?_;rintro _ _ ⟨l1,X1,hl1,rfl⟩;refine Zn (iY (cs':=cdF S l1 fix X1) (.inr rfl) Zu rfl ?_);exact⟨l1,X1,bR,rfl⟩
 have hr:S.pl.inR n=true:=by unfold Pl.inR;rw[ac]at hc0;rw[ae];omega
 have e1:jb S.pl n r=[]:=by unfold jb;rw[hr];rfl
 refine Zc (iY (cs':=cdF S l fix X) (.inr rfl) Zu rfl ?_);exact⟨l,X,bR,rfl⟩
theorem clow_ok(hl:l.length<=40000)(r:Int)(w:World)(hi:Inv w (bD (cdF S l fix X)) (cdF S l fix X) w):
  Ctr prog 269 [.p S.b,.i r] w (cdF S l fix X) (λr9 cs=>∃l' X',l'=l++Rh r/\cs=cdF S l' (fix) X'):=by
 refine Zfn func269 ntmps269 hi ?_;refine Z_3 ?_;refine dz (cdF S l fix X) (λw hi hin=>lN S l fix X Wq1 12 4294967295 w hin) ?_;rintro _ _ ⟨l1,X1,hl1,rfl⟩;refine Z_6 ?_;refine dz (cdF S l1 fix X1) (λw hi hin=>gS S l1 fix X1 bR 5 r r 12 w hin) ?_;rintro _ _ ⟨l2,X2,hl2,rfl⟩;refine Zn (iY (cs':=cdF S l2 fix X2) (.inr rfl) Zu rfl ?_);exact⟨l2,X2,(by simp only[hl1,hl2,Rh,ai,ah,aw,aJ,aP,az]),rfl⟩
theorem yr(hl:l.length<=40000)(rd r:Int)(w:World)(hi:Inv w (bD (cdF S l fix X)) (cdF S l fix X) w):
  Ctr prog 270 [.p S.b,.i rd,.i r] w (cdF S l fix X) (λr9 cs=>∃l' X',l'=l++ik rd r/\cs=cdF S l' (fix) X'):=by
 refine Zfn func270 ntmps270 hi ?_;refine Z_3 ?_;refine dz (cdF S l fix X) (λw hi hin=>lN S l fix X Wq1 12 31 w hin) ?_;rintro _ _ ⟨l1,X1,hl1,rfl⟩;refine Z_6 ?_;refine dz (cdF S l1 fix X1) (λw hi hin=>gS S l1 fix X1 bR 9 rd r 12 w hin) ?_;rintro _ _ ⟨l2,X2,hl2,rfl⟩;refine Zn (iY (cs':=cdF S l2 fix X2) (.inr rfl) Zu rfl ?_);exact⟨l2,X2,(by simp only[hl1,hl2,ik,ai,ah,aw,aJ,aP,az]),rfl⟩
theorem Ey(hl:l.length<=40000)(r up:Int)(w:World)(hi:Inv w (bD (cdF S l fix X)) (cdF S l fix X) w):
  Ctr prog 271 [.p S.b,.i r,.w up] w (cdF S l fix X) (λr9 cs=>∃l' X',l'=l++w8 r up/\cs=cdF S l' (fix) X'):=by
 refine Zfn func271 ntmps271 hi ?_;refine Z_4 ?_;refine dz (cdF S l fix X) (λw hi hin=>lN S l fix X Wq1 12 up w hin) ?_;rintro _ _ ⟨l1,X1,hl1,rfl⟩;refine Z_7 ?_;refine dz (cdF S l1 fix X1) (λw hi hin=>gS S l1 fix X1 bR 8 r r 12 w hin) ?_;rintro _ _ ⟨l2,X2,hl2,rfl⟩;refine Z_5 ?_;refine dz (cdF S l2 fix X2) (λw hi hin=>gS S l2 fix X2 bR 6 10 10 r w hin) ?_;rintro _ _ ⟨l3,X3,hl3,rfl⟩;refine Zn (iY (cs':=cdF S l3 fix X3) (.inr rfl) Zu rfl ?_);exact⟨l3,X3,(by simp only[hl1,hl2,hl3,w8,ai,ah,aw,aJ,aP,az]),rfl⟩
theorem ME(hl:l.length<=30000)(op rd a b:Int)(w:World)(hi:Inv w (bD (cdF S l fix X)) (cdF S l fix X) w):
  Ctr prog 239 [.p S.b,.w op,.i rd,.i a,.i b] w (cdF S l fix X) (λr9 cs=>∃l' X',l'=l++yz op rd a b/\cs=cdF S l' (fix) X'):=by
 refine Zfn func239 ntmps239 hi ?_;refine Z_4 ?_;refine ZSe (λw hi=>host_ok op w) ?_;refine Z_3 ?_;refine dz (cdF S l fix X) (λw hi hin=>gS S l fix X Wq1 (sU op) rd a b w hin) ?_;rintro _ _ ⟨l1,X1,hl1,rfl⟩;refine sx ?_;refine ZW ?_ ?_<;>intro hc3
 .refine Z_2 ?_;refine bW rfl (hc3) (Z_2 ?_);exact iY (cs':=cdF S l1 fix X1) (.inr rfl) Zu rfl ⟨l1,X1,(by simp only[hl1,yz,zI,Bool.or_true,Bool.true_or,Bool.or_false,Bool.false_or,hc3,ai,ah,aw,aJ,aP,az]),rfl⟩
 refine Zw6 ?_ ?_<;>intro hc4
 .refine Z_2 ?_;refine bW rfl (hc4) (Z_2 ?_);exact iY (cs':=cdF S l1 fix X1) (.inr rfl) Zu rfl ⟨l1,X1,(by simp only[hl1,yz,zI,Bool.or_true,Bool.true_or,Bool.or_false,Bool.false_or,hc3,hc4,ai,ah,aw,aJ,aP,az]),rfl⟩
 refine Zw6 ?_ ?_<;>intro hc5
 .refine Z_2 ?_;refine bW rfl (hc5) (Z_2 ?_);exact iY (cs':=cdF S l1 fix X1) (.inr rfl) Zu rfl ⟨l1,X1,(by simp only[hl1,yz,zI,Bool.or_true,Bool.true_or,Bool.or_false,Bool.false_or,hc3,hc4,hc5,ai,ah,aw,aJ,aP,az]),rfl⟩
 refine Zw5 ?_ ?_<;>intro hc6
 .refine Z_2 ?_;exact iY (cs':=cdF S l1 fix X1) (.inr rfl) Zu rfl ⟨l1,X1,(by simp only[hl1,yz,zI,Bool.or_true,Bool.true_or,Bool.or_false,Bool.false_or,hc3,hc4,hc5,hc6,ai,ah,aw,aJ,aP,az]),rfl⟩
 refine Z_3 ?_;refine dz (cdF S l1 fix X1) (λw hi hin=>clow_ok S l1 fix X1 bR rd w hin) ?_;rintro _ _ ⟨l2,X2,hl2,rfl⟩;refine Z_2 ?_;exact iY (cs':=cdF S l2 fix X2) (.inr rfl) Zu rfl ⟨l2,X2,(by simp only[hl1,hl2,yz,zI,Bool.or_true,Bool.true_or,Bool.or_false,Bool.false_or,hc3,hc4,hc5,hc6,ai,ah,aw,aJ,aP,az]),rfl⟩
theorem Qc(hl:l.length<=20000)(op a b:Int)(w:World)(hi:Inv w (bD (cdF S l fix X)) (cdF S l fix X) w):
  Ctr prog 240 [.p S.b,.w op,.i a,.i b] w (cdF S l fix X) (λr9 cs=>∃l' X',l'=l++mv op a b/\cs=cdF S l' (fix) X'):=by
 have ha:=uu op 9 a b;have hs:∀x y,(ik x y).length=2:=λ_ _=>rfl
 have hb:∀x y,(w8 x y).length=3:=λ_ _=>rfl
 refine Zfn func240 ntmps240 hi ?_;refine Z_6 ?_;refine dz (cdF S l fix X) (λw hi hin=>ME S l fix X Wq1 op 9 a b w hin) ?_;rintro _ _ ⟨l1,X1,hl1,rfl⟩;refine Z_5 ?_;refine dz (cdF S l1 fix X1) (λw hi hin=>gS S l1 fix X1 bR 13 10 9 15 w hin) ?_;rintro _ _ ⟨l2,X2,hl2,rfl⟩;refine Z_5 ?_;refine dz (cdF S l2 fix X2) (λw hi hin=>yr S l2 fix X2 bR 11 9 w hin) ?_;rintro _ _ ⟨l3,X3,hl3,rfl⟩;refine Z_5 ?_;refine dz (cdF S l3 fix X3) (λw hi hin=>Ey S l3 fix X3 bR 11 1 w hin) ?_;rintro _ _ ⟨l4,X4,hl4,rfl⟩;refine Z_2 ?_;refine cD (λq:List HI×CAd=>[(0,.p S.b)]) (λq=>cdF S q.1 fix q.2) (λq=>q.1.length<=l.length+30/\q.1++(⟨5,11,11,12,0⟩::(ik 11 11++w8 11 3))=l++mv op a b) ?_ ?_
 .refine fD ?_;refine ZW ?_ ?_<;>intro hc5
  .refine Z_4 ?_;refine dz (cdF S l4 fix X4) (λw hi hin=>gS S l4 fix X4 Wq258 12 11 9 a w hin) ?_;rintro _ _ ⟨l5,X5,hl5,rfl⟩;refine Wq147 ?_;rintro _ _ ⟨_,⟨l6,X6,hl6,rfl⟩,rfl⟩;refine Z_6 ?_;refine dz (cdF S l6 fix X6) (λw hi hin=>gS S l6 fix X6 Wq240 7 11 a 9 w hin) ?_;rintro _ _ ⟨l7,X7,hl7,rfl⟩;refine Z_5 ?_;refine dz (cdF S l7 fix X7) (λw hi hin=>gS S l7 fix X7 Wq231 7 12 b 9 w hin) ?_;rintro _ _ ⟨l8,X8,hl8,rfl⟩;refine Z_2 ?_;refine dM (((l8,X8):List HI×CAd)) ?_ ?_ ?_
   .exact⟨by grind,by simp only[hl1,hl2,hl3,hl4,hl5,hl6,hl7,hl8,mv,fS,kH,kG,gY,ai,ah,Bool.true_or,Bool.or_true,aw,aJ,aP,hc5]⟩
   .exact Zwk
   exact Zu
  refine Zw7 ?_ ?_<;>intro hc10
  .refine Z_2 ?_;refine bW rfl (hc10) (Z_5 ?_);refine dz (cdF S l4 fix X4) (λw hi hin=>gS S l4 fix X4 Wq258 12 11 a b w hin) ?_;rintro _ _ ⟨l5,X5,hl5,rfl⟩;refine Wq147 ?_;rintro _ _ ⟨_,⟨l6,X6,hl6,rfl⟩,rfl⟩;refine Z_7 ?_;refine dz (cdF S l6 fix X6) (λw hi hin=>gS S l6 fix X6 Wq240 7 11 a b w hin) ?_;rintro _ _ ⟨l7,X7,hl7,rfl⟩;refine Z_5 ?_;refine dz (cdF S l7 fix X7) (λw hi hin=>gS S l7 fix X7 Wq231 7 12 a 9 w hin) ?_;rintro _ _ ⟨l8,X8,hl8,rfl⟩;refine Z_2 ?_;refine dM (((l8,X8):List HI×CAd)) ?_ ?_ ?_
   .exact⟨by grind,by simp only[hl1,hl2,hl3,hl4,hl5,hl6,hl7,hl8,mv,fS,kH,kG,gY,ai,ah,Bool.true_or,Bool.or_true,aw,aJ,aP,hc5,hc10]⟩
   .exact Zwk
   exact Zu
  refine Zw5 ?_ ?_<;>intro hc11
  .refine Z_5 ?_;refine dz (cdF S l4 fix X4) (λw hi hin=>gS S l4 fix X4 Wq258 12 11 a b w hin) ?_;rintro _ _ ⟨l5,X5,hl5,rfl⟩;refine Wq147 ?_;rintro _ _ ⟨_,⟨l6,X6,hl6,rfl⟩,rfl⟩;refine Z_7 ?_;refine dz (cdF S l6 fix X6) (λw hi hin=>gS S l6 fix X6 Wq240 7 11 a b w hin) ?_;rintro _ _ ⟨l7,X7,hl7,rfl⟩;refine Z_5 ?_;refine dz (cdF S l7 fix X7) (λw hi hin=>gS S l7 fix X7 Wq231 7 12 a 9 w hin) ?_;rintro _ _ ⟨l8,X8,hl8,rfl⟩;refine Z_2 ?_;refine dM (((l8,X8):List HI×CAd)) ?_ ?_ ?_
   .exact⟨by grind,by simp only[hl1,hl2,hl3,hl4,hl5,hl6,hl7,hl8,mv,fS,kH,kG,gY,ai,ah,Bool.true_or,Bool.or_true,aw,aJ,aP,hc5,hc10,hc11]⟩
   .exact Zwk
   exact Zu
  refine Z_3 ?_;exact iY (cs':=cdF S l4 fix X4) (.inl rfl) Zu rfl ⟨l4,X4,(by simp only[hl1,hl2,hl3,hl4,mv,fS,hc5,hc10,hc11,Bool.or_false,ai,ah,aw,aJ,aP,az]),rfl⟩
 rintro⟨m9,s9⟩ ⟨hs8,hs9⟩;dsimp only at hs8 hs9|-;refine Z_3 ?_;refine dz (cdF S m9 fix s9) (λw hi hin=>gS S m9 fix s9 Wq1 5 11 11 12 w hin) ?_;rintro _ _ ⟨l21,X21,hl21,rfl⟩;refine Z_5 ?_;refine dz (cdF S l21 fix X21) (λw hi hin=>yr S l21 fix X21 bR 11 11 w hin) ?_;rintro _ _ ⟨l22,X22,hl22,rfl⟩;refine Z_4 ?_;refine dz (cdF S l22 fix X22) (λw hi hin=>Ey S l22 fix X22 bR 11 3 w hin) ?_;rintro _ _ ⟨l23,X23,hl23,rfl⟩;refine Zn (iY (cs':=cdF S l23 fix X23) (.inr rfl) Zu rfl ?_);exact⟨l23,X23,bR,rfl⟩
end
section
variable {C:Cx} {Q:lS} {fr:Fr} {cs cs' cin rest:List bC} {St:Dr} {ops:Array Oper} {fuel i:Nat} {listed:Array Bool}
theorem wa_inv(hc:∀w,Inv C.w0 C.S cs w->Inv C.w0 C.S cs' w)(h:WA C St ops Q fuel listed fr cs'):WA C St ops Q fuel listed fr cs:=λa w hf hi=>h a w hf (hc w hi)
theorem wi_inv(hc:∀w,Inv C.w0 C.S cs w->Inv C.w0 C.S cs' w)(h:WI C St ops Q fuel listed i fr cs'):WI C St ops Q fuel listed i fr cs:=λa w hf hi=>h a w hf (hc w hi)
theorem Inv.Sw{w0 w:World}{S:List Nat}(h:Inv w0 S (bQ cin::rest) w):Inv w0 S (cin++rest) w:=by
 grind [h.SX]
theorem Inv.Tl{w0 w:World}{S:List Nat}(h:Inv w0 S cs w)(hs:eJ cin cs rest):Inv w0 S (bQ cin::rest) w:=
 Inv.Sy (F:=λ_:Unit=>cin) (hb:=λ_=>rfl) (p:=λ_=>True) () trivial (h.perm hs.perm)
theorem od{w0:World}{S:List Nat}{bb t:Nat}{xs:List Value}(hc:Has cs (bQ cin))(hr:row bb xs t∈cin):∀w,Inv w0 S cs w->cells (tx bb xs) w:=λw hi=>by
 have h:=jk (hi.get hc) _ hr;have h1:Inv w [bb] [row bb xs t] w:=⟨cY.refl _ _,by simp[bD,row,bC.bs],λc hc=>by grind,λb hb=>by grind [bD,bC.bs]⟩;exact bK (.head _ _) w h1
end
theorem u32_div{a:Int}(h:0<=a/\a<=4294967295):0<=a/64/\a/64<=67108863:=by omega
theorem zU(xs ys:List Int)(h:ys.length<=xs.length):(xs.take ys.length==ys)=ys.isPrefixOf xs:=by
 rw[Bool.eq_iff_iff,List.isPrefixOf_iff_prefix,beq_iff_eq];constructor
 .grind
 rintro⟨z,rfl⟩;grind
theorem Cg(A B:Option Addr)(c d:Nat)(xs ys:List Int)(hx:u8s xs)(hy:u8s ys)(w:World)(h:Rd w .u8 A xs.length c xs)(h2:Rd w .u8 B ys.length d ys):
  Ctr prog 154 [.slice A xs.length c,.slice B ys.length d] w [] (λv cs=>v= .bool (ys.isPrefixOf xs)/\cs=[]):=by
 have hcap:=h.cap;refine Zfs func154 ntmps154 ?_;by_cases hle:ys.length<=xs.length
 .have hg:decide ((xs.length:Int)>=(ys.length:Int))=true:=ay Wq1
  have htl:(xs.take ys.length).length=ys.length:=by rw[aI];omega
  have HE:=MJ A B c d (xs.take ys.length) ys (λx hx'=>hx x (bh hx')) hy;rw[htl,zU xs ys hle]at HE;have hrt:=kp h ys.length;rw[htl]at hrt;refine sw ?_;refine Zyy rfl rfl (fH ys.length rfl Zrf (bU rfl) (bU rfl) AH Wq2) ?_;refine ZB ?_;refine dU (bM rfl rfl) (.cons (bU rfl) (.cons (bU rfl) .nil)) (λ_ _=>rfl) (λhg w hi=>HE w (hrt.RU hi) (h2.RU hi)) rfl (Z_5 ?_);refine Zra ?_;refine⟨?_,rfl⟩;rw[show decide ((ys.length:Int)<=(xs.length:Int))=true from ay Wq1,Bool.true_and]
 have hp:ys.isPrefixOf xs=false:=by
  cases hb:ys.isPrefixOf xs with
  |false=>rfl
  |true=>
   grind
 have hg0:decide ((ys.length:Int)<=(xs.length:Int))=false:=ar Wq1
 refine kM ?_;refine Wq159 ?_;refine Wq159 ?_;refine Zy (yK (q:=false) (Zv rfl) ⟨_,rfl,λ_ e=>by grind⟩) ?_;refine Z_4 ?_;refine Zra ?_;refine⟨?_,rfl⟩;rw[hp,hg0,Bool.false_and]
theorem MK(A:Option Addr)(n c:Nat)(xs:List Int)(w:World)(h:Rd w .u8 A n c xs)(hn:n<=140737488355328):Ctr prog 178 [.slice A n c] w [] (λv cs=>∃A' c',v= .slice A' n c'/\cs=[sl .u8 5 A' n c' xs]):=by
 refine Zfs func178 ntmps178 ?_;refine fD ?_;refine ZW ?_ ?_<;>intro hc1
 .obtain rfl:A=none:=by simpa using hc1
  obtain⟨rfl,rfl⟩:=h.nil rfl;obtain rfl:xs=[]:=by have:=h.len;simpa[ints]using this
  refine Z_2 ?_;refine cT 5 1 (Z_5 ?_);exact IC
 refine Z_4 ?_;refine kY ?_;rintro _ _ ⟨b5,rfl,rfl⟩;exact Wq265
abbrev Dc(bc ml b2 b3 b5:Nat)(r0 r1 r3:Value)(Ap:Option Addr)(cp:Nat)(RG:List Int)(r:Int×List (Ky×LS)):List bC:=
 [row b2 [.p bc] 159,row b3 [.slice Ap RG.length cp] 55,sl .i64 3 Ap RG.length cp RG,row b5 [.i r.1] 3,caR bc r0 r1 (.map (some ml)) r3,mpc ml (lkV r.2),bQ (lkC r.2)]
abbrev eN(RG:List Int)(x:BA):Bool:=RG.contains (x.b.key.2/64)
theorem PU(bc ml b2 b3 b5:Nat)(r0 r1 r3:Value)(Ap:Option Addr)(cp:Nat)(RG:List Int)(r:Int×List (Ky×LS))(x:BA)(hx:lj x.b.key)(hsm:LkSm r.2)(w:World)(hi:Inv w (bD (Dc bc ml b2 b3 b5 r0 r1 r3 Ap cp RG r)) (Dc bc ml b2 b3 b5 r0 r1 r3 Ap cp RG r) w):
  Ctr prog 113 ([]++[.agg x.cells.toArray]++[.p b3,.p b2,.p b5]) w (Dc bc ml b2 b3 b5 r0 r1 r3 Ap cp RG r) (λv cs=>v= .bool (eN RG x)/\cs=Dc bc ml b2 b3 b5 r0 r1 r3 Ap cp RG (nI (eN RG) r x)):=by
 obtain⟨k0,k1⟩:=hx.2;have hd:=u32_div hx.2;obtain⟨D,hD⟩:=Zgn (eN RG x);have hD2:RG.contains (x.b.key.2/64)=D:=hD;have HC:=pI Ap cp RG (x.b.key.2/64);rw[hD2]at HC;have ht:D=true->nI (eN RG) r x=(IntKind.i64.wrap (r.1+1),gz r.2 x.key):=λe=>by unfold nI;grind
 have hf:D=false->nI (eN RG) r x=r:=λe=>by unfold nI;grind
 rw[hD];refine Zfn func113 ntmps113 hi ?_;refine Z_2 ?_;refine ZO λb4=>?_;refine Z_9 ?_;refine Zy (k8 (Zv rfl) (Zv rfl) Wq1 (show _=x.b.key.2/64 from by rw[bo k0,aC];omega)) ?_;refine wO ?_;refine ZSe (λw hi=>HC w (hi.rd (show Has _ (sl .i64 3 Ap RG.length cp RG)from Zh))) ?_;refine Zw9 ?_ ?_<;>intro hc2
 .refine Z_4 ?_;refine dK (bP (vs:=bZ x.b.key) Zrf Zrf Zv0) (cO Zh rfl) rfl (ZcL ([caR bc r0 r1 (.map (some ml)) r3,mpc ml (lkV r.2),bQ (lkC r.2)]) (λw hi hin=>Bg bc ml r0 r1 r3 r.2 hsm x.b.key hx w hin) ?_);rintro _ _ ⟨_,rfl,rfl⟩;refine Z_4 ?_;refine pP ?_;refine ZL ?_;refine Z_9 ?_;refine bG (Dc bc ml b2 b3 b5 r0 r1 r3 Ap cp RG (IntKind.i64.wrap (r.1+1),gz r.2 x.key)) Zj (IY (cs':=Dc bc ml b2 b3 b5 r0 r1 r3 Ap cp RG (IntKind.i64.wrap (r.1+1),gz r.2 x.key)) (.inl rfl) (aR _) rfl rfl ?_);rw[ht hc2];exact fy
 refine Z_9 ?_;refine bG (Dc bc ml b2 b3 b5 r0 r1 r3 Ap cp RG r) Zj (IY (cs':=Dc bc ml b2 b3 b5 r0 r1 r3 Ap cp RG r) (.inl rfl) (aR _) rfl rfl ?_);rw[hf hc2];exact fy
theorem Qd(bc:Nat)(room:Int)(X:CaX)(hX:ro room X)(Ap:Option Addr)(cp:Nat)(RG:List Int)(w:World)(hi:Inv w (bD (caF bc room X++[sl .i64 3 Ap RG.length cp RG])) (caF bc room X++[sl .i64 3 Ap RG.length cp RG]) w):
  Ctr prog 92 [.p bc,.slice Ap RG.length cp] w (caF bc room X++[sl .i64 3 Ap RG.length cp RG]) (λv cs=>v= .i ((X.Z.filter (eN RG)).length:Int)/\∃X':CaX,cs=caF bc room X'++[sl .i64 3 Ap RG.length cp RG]/\ro room X'/\X'.Z=X.Z.filter λx=> !eN RG x):=by
 have hS:=hX.sm;have hlen:=hX.len;obtain⟨hr1,hr2⟩:=hX.rm;have hba:=hX.ba;have hlk:=hX.lk;obtain⟨ml,Ac,cc,fl,LK,Z⟩:=X;dsimp only at hS hlen hba hlk;have hZ:=hS.1;have HD:=λb2 b3 b5 w hi=>delB_ok (λr:Int×List (Ky×LS)=>bQ (Dc bc ml b2 b3 b5 (.i room) (.slice Ac Z.length cc) (.i fl) Ap cp RG r)) (λr=>C6 (Z.map BA.key) r.2) (nI (eN RG)) (eN RG) 113 [.p b3,.p b2,.p b5] (λ_ _=>rfl) Z hZ
  (λr x w hok hx hin=>Ctr.mono (Ctr.join hin λhin2=>PU bc ml b2 b3 b5 (.i room) (.slice Ac Z.length cc) (.i fl) Ap cp RG r x (hba x hx).2 (hok.sm bR) w hin2)
   (λv cs ⟨cs0,⟨h1,h2⟩,h3⟩=>⟨h1,by rw[h3,h2],by
    show C6 (Z.map BA.key) (nI (eN RG) r x).2;unfold nI;cases eN RG x with
    |true=>exact(hok.unlink x.key).1
    |false=>exact hok⟩)) Ac cc (0,LK) hlk w hi
 obtain⟨hf1,hf2, -,hf4⟩:=wi (eN RG) (Z.map BA.key) Z (0,LK) (Int.le_refl _) Wq1 hlk;obtain⟨⟨n9,LK9⟩,h9⟩:=Zgn (Z.foldl (nI (eN RG)) (0,LK));rw[h9]at HD hf1 hf2 hf4;dsimp only at hf1 hf2 hf4;have hsub:(Z.filter λx=> !eN RG x).Sublist Z:=List.filter_sublist;have hOk:∀A c,ro room ⟨ml,A,c,fl,LK9,Z.filter λx=> !eN RG x⟩:=λA c=>⟨⟨hr1,hr2⟩,bR,(λy hy=>hba y (hsub.subset hy)),λy hy=>⟨(hf2 y hy).1,(hf2 y hy).2.1,λq hq=>by
  obtain⟨z,hz,hzq⟩:=bn.1 ((hf2 y hy).2.2 q hq)
  grind⟩⟩
 refine Zfn func92 ntmps92 hi ?_;refine Z_2 ?_;refine ZO λb2=>?_;refine ZO λb3=>?_
 refine Z_5 ?_;refine ZN λb5=>?_;refine ZL ?_;refine Z_3 ?_;refine bL ⟨λj=>List.elem j [6,9],tx b2 [.p bc]⟩ Zk (iW 0 rfl Zk Zk Zk (bF Zrf (nH rfl)) Wq3 ((by first|(refine bK (t:=159) ?_;(repeat (first|exact .head _ _|apply Has.tail));done)|(refine od (t:=159) (cin:=Dc bc ml b2 b3 b5 (.i room) (.slice Ac Z.length cc) (.i fl) Ap cp RG (n9,LK9)) ?_ (List.mem_cons_self ..);(repeat (first|exact .head _ _|apply Has.tail));done))) rfl ?_);refine iW 1 rfl Zk Zk Zk (bF Zrf (nH rfl)) Wq3 ((by first|(refine bK (t:=159) ?_;(repeat (first|exact .head _ _|apply Has.tail));done)|(refine od (t:=159) (cin:=Dc bc ml b2 b3 b5 (.i room) (.slice Ac Z.length cc) (.i fl) Ap cp RG (n9,LK9)) ?_ (List.mem_cons_self ..);(repeat (first|exact .head _ _|apply Has.tail));done))) rfl ?_;refine ZE 2 ?_;refine ZFe 3 1 ?_;refine ZG 4 ?_;refine Zy4 5 rfl (lX rfl) ?_;refine cn 6 Zk (wi_inv (cs':=bQ (Dc bc ml b2 b3 b5 (.i room) (.slice Ac Z.length cc) (.i fl) Ap cp RG (0,LK))::[slv 202 4 Ac Z.length cc (Z.flatMap BA.cells),bQ (Z.map baC)]) (λw hi=>hi.Tl Zi) (jT rfl rfl (eo ([slv 202 4 Ac Z.length cc (Z.flatMap BA.cells),bQ (Dc bc ml b2 b3 b5 (.i room) (.slice Ac Z.length cc) (.i fl) Ap cp RG (0,LK))]) rfl (λ_ _=>rfl) Zi (λw hi hin=>HD b2 b3 b5 w hin)) (λ_=>by rintro _ _ ⟨_,⟨rfl,rfl⟩,rfl⟩;exact(by first|(refine bK (t:=159) ?_;(repeat (first|exact .head _ _|apply Has.tail));done)|(refine od (t:=159) (cin:=Dc bc ml b2 b3 b5 (.i room) (.slice Ac Z.length cc) (.i fl) Ap cp RG (n9,LK9)) ?_ (List.mem_cons_self ..);(repeat (first|exact .head _ _|apply Has.tail));done))) rfl ?_));rintro _ _ ⟨_,⟨rfl,rfl⟩,rfl⟩;refine wa_inv (cs':=Dc bc ml b2 b3 b5 (.i room) (.slice Ac Z.length cc) (.i fl) Ap cp RG (n9,LK9)++[slv 202 4 Ac (Z.filter λx=> !eN RG x).length cc ((Z.filter λx=> !eN RG x).flatMap BA.cells),bQ (Z.map baC)]) (λw hi=>(hi.perm (List.Perm.swap ..)).Sw) (ZE 7 ?_);refine ZFe 8 1 ?_;refine cn 9 Zk (fO rfl rfl (mZ Zrf rfl rfl rfl Za Zp) (λ_=>by rintro _ _ ⟨rfl,rfl⟩;exact(by first|(refine bK (t:=159) ?_;(repeat (first|exact .head _ _|apply Has.tail));done)|(refine od (t:=159) (cin:=Dc bc ml b2 b3 b5 (.i room) (.slice Ac Z.length cc) (.i fl) Ap cp RG (n9,LK9)) ?_ (List.mem_cons_self ..);(repeat (first|exact .head _ _|apply Has.tail));done))) ?_);rintro _ _ ⟨rfl,rfl⟩;refine eQ ?_;refine Z_8 ?_;refine mf (cin:=Z.map baC) (cin':=(Z.filter λx=> !eN RG x).map baC) Zd (hsub.map _) (bG (caF bc room ⟨ml,Ac,cc,fl,LK9,Z.filter λx=> !eN RG x⟩++[sl .i64 3 Ap RG.length cp RG]) Zj (IY (cs':=caF bc room ⟨ml,Ac,cc,fl,LK9,Z.filter λx=> !eN RG x⟩++[sl .i64 3 Ap RG.length cp RG]) (.inl rfl) (aR _) rfl rfl ⟨by grind,⟨ml,Ac,cc,fl,LK9,Z.filter λx=> !eN RG x⟩,rfl,hOk _ _,rfl⟩))
theorem wc_inv{C:Cx}{Q:lS}{fr:Fr}{cs cs':List bC}{x:Code}(hc:∀w,Inv C.w0 C.S cs w->Inv C.w0 C.S cs' w)(h:WC C x Q fr cs'):WC C x Q fr cs:=λa w hf hi=>h a w hf (hc w hi)
def gW(LK:List (Ky×LS))(k:Ky):LS:=ga LK k LS.zero
theorem ny{LK:List (Ky×LS)}{k:Ky}(h:cL (·.1) k LK=none):gW LK k=LS.zero:=vf h _
theorem nw{LK:List (Ky×LS)}{k:Ky}{j:Nat}(h:cL (·.1) k LK=some j):∃x,LK[j]? =some (k,x)/\gW LK k=x:=by
 obtain⟨hj,hk⟩:=ff h;have hx:LK[j]? =some (k,LK[j].2):=by rw[aa hj,<-hk]
 exact⟨_,hx,rF h hx _⟩
theorem La(LK:List (Ky×LS))(k:Ky):ga (lkV LK) k (.slice none 0 0)=(gW LK k).v:=zr LS.v LK k LS.zero
theorem B3(LK:List (Ky×LS))(k:Ky):cL (·.1) k (lkV LK)=cL (·.1) k LK:=j7 (key:=λx:Ky×LS=>x.1) (key':=λx:Ky×Value=>x.1) (λx:Ky×LS=>(x.1,x.2.v)) Zrf k LK
theorem ment_at(LK:List (Ky×LS))(k:Ky):(vy (lkV LK) k (.slice none 0 0))[zK (lkV LK) k]? =some (k,(gW LK k).v):=by
 grind [vy,zK,B3,cL,nw,lkV,ny,LS.v,LS.zero]
theorem OX(LK:List (Ky×LS))(k:Ky)(x:LS):(vy (lkV LK) k (.slice none 0 0)).set (zK (lkV LK) k) (k,x.v)=lkV (dG LK k x):=by
 unfold vy zK dG;rw[B3];cases h:cL (λx:Ky×LS=>x.1) k LK with
 |some j=>
  simp[lkV]
 |none=>
  simp[lkV]
theorem C6.put{keys:List Ky}{LK:List (Ky×LS)}(h:C6 keys LK){f t:Ky}(hf:lj f)(ht:t∈keys)(hn:t∉(gW LK f).ks)(A:Option Addr)(c:Nat):C6 keys (dG LK f ⟨A,c,(gW LK f).ks++[t]⟩):=by
 have hl:(gW LK f).ks.Nodup/\∀q,q∈(gW LK f).ks->q∈keys:=by
  cases hp:cL (λx:Ky×LS=>x.1) f LK with
  |some j=>obtain⟨x,hx,hl⟩:=nw hp;rw[hl];exact(h _ (ak hx)).2
  |none=>rw[ny hp];exact⟨List.nodup_nil,λq hq=>nomatch hq⟩
 have hnew:lj f/\((gW LK f).ks++[t]).Nodup/\∀q,q∈(gW LK f).ks++[t]->q∈keys:=by
  refine⟨hf,?_,λq hq=>?_⟩
  .grind
  grind
 intro x hx;unfold dG at hx;cases hp:cL (λx:Ky×LS=>x.1) f LK with
 |some j=>
  rw[hp]at hx;rcases List.mem_or_eq_of_mem_set hx with hx|rfl
  .exact h x hx
  omega
 |none=>
  rw[hp]at hx;rcases aF.1 hx with hx|hx
  .exact h x hx
  grind
def xW(LK:List (Ky×LS))(k:Ky):List bC:=match cL (·.1) k LK with|some j=>(lkC LK).eraseIdx j|none=>lkC LK
theorem O9{LK:List (Ky×LS)}{k:Ky}{j:Nat}{x:LS}(h:cL (·.1) k LK=some j)(hx:LK[j]? =some (k,x)):(lkC LK).Perm (lsC x::(lkC LK).eraseIdx j):=by grind [oo,lkC]
theorem lkTake{w0 w:World}{S:List Nat}{LK:List (Ky×LS)}{rest:List bC}(k:Ky)(h:Inv w0 S (bQ (lkC LK)::rest) w):Inv w0 S (lsC (gW LK k)::bQ (xW LK k)::rest) w:=by
 unfold xW;cases hp:cL (λx:Ky×LS=>x.1) k LK with
 |some j=>
  obtain⟨x,hx,hl⟩:=nw hp;rw[hl];exact h.S0 (O9 hp hx)
 |none=>
  rw[ny hp];exact(h.more (zV w [] 164 2)).perm (List.perm_append_singleton _ _)
theorem lkPut(LK:List (Ky×LS))(k:Ky)(x:LS):(lkC (dG LK k x)).Perm (lsC x::xW LK k):=by
 grind [xW,dG,cL,ff,lkC,tY,List.map_set,List.perm_append_singleton]
theorem Ls(A:Option Addr)(c:Nat)(l:List Ky)(x:Ky)(w:World)(h:RdV w 2 A l.length c (l.flatMap bZ)):Ctr prog 198 [.slice A l.length c,.agg (bZ x).toArray] w [] (λv cs=>(∃z,v= .i z/\decide (0<=z)=l.contains x)/\cs=[]):=by
 have hlm:=aN h.cap h.max;simp only[maxLen]at hlm;refine Zfs func198 ntmps198 ?_;refine Z_2 ?_;refine ZO λb3=>?_;refine fD ?_;refine bN (λk:Nat=>[(0,.slice A l.length c),(3,.p b3),(7,.i (l.length:Int)),(8,.i (k:Int))]) (λ_=>[kyR b3 x]) (λk=>k<=l.length/\(l.drop k).contains x=l.contains x) (λk=>l.length - k) (0) ?_ ?_ ?_ ?_
 .grind
 .exact Zwk
 .exact Zu
 rintro k ⟨hk,hc⟩;refine Zw6 ?_ ?_<;>intro hc2
 .simp only[ae]at hc2;have hkl:k<l.length:=Wq1;obtain⟨ad,had⟩:=h.some_ Wq1;have h2:=h;rw[had]at h2;obtain⟨y,hy⟩:∃y,l[k]? =some y:=⟨_,aa hkl⟩;rw[qX hy]at hc;refine gK ?_;refine bL ⟨λj=>List.elem j [],[]⟩ Zk (ZI 0 ?_);refine ZE 1 ?_;refine ZE 2 ?_;refine Zy4 3 rfl (fI (j:=k) had rfl Zrf Zv0 Zv0 Zrf (λ_=>hkl)) ?_;refine Zy5 4 rfl (bP (vs:=bZ y) Zrf Zrf Zv0) (dY h2 (λi v hi=>da (f:=bZ) Zrf (i:=i) hy hi)) ?_;refine Zy4 5 rfl (I7 vM (D9 x y) (Zv rfl) (Zv rfl)) ?_;refine eQ ?_;refine Zt (ZW ?_ ?_)<;>intro hc4
  .have hcx:l.contains x=true:=bR;refine fD ?_;refine Zra ?_;exact⟨⟨_,rfl,by grind⟩,rfl⟩
  rw[List.contains_cons,hc4,Bool.false_or]at hc;refine gh ?_;refine dM (k+1) ?_ ?_ ?_
  .grind
  .exact Zwk
  exact Zu
 simp only[ac]at hc2;obtain rfl:k=l.length:=Wq1;rw[List.drop_length]at hc;refine rf ?_;exact⟨⟨_,rfl,by grind⟩,rfl⟩
theorem CE(A:Option Addr)(c:Nat)(l:List Ky)(x:Ky)(w:World)(h:RdV w 2 A l.length c (l.flatMap bZ)):Ctr prog 165 [.slice A l.length c,.agg (bZ x).toArray] w [] (λv cs=>v= .bool (l.contains x)/\cs=[]):=by
 refine Zfs func165 ntmps165 ?_;refine Z_2 ?_;refine ZO λb3=>?_;refine Z_7 ?_;refine ZSn (λw hi=>Ls A c l x w (h.RU hi)) ?_;rintro _ _ ⟨⟨z,rfl,hz⟩,rfl⟩;refine Z_5 ?_;refine Zra ?_;exact⟨by rw[<-hz],rfl⟩
theorem link_rd{w:World}{LK:List (Ky×LS)}{k:Ky}(h:(bQ (lkC LK)).ok w):RdV w 2 (gW LK k).A (gW LK k).ks.length (gW LK k).c ((gW LK k).ks.flatMap bZ):=by
 cases hp:cL (λx:Ky×LS=>x.1) k LK with
 |some j=>
  obtain⟨x,hx,hl⟩:=nw hp;rw[hl];exact dp (jk h (lsC x) (bn.2 ⟨_,ak hx,rfl⟩))
 |none=>
  rw[ny hp];exact⟨rfl,aL _,au _,λ_=>⟨rfl,rfl⟩,λad e=>nomatch e⟩
theorem P7(bc:Nat)(room:Int)(X:CaX)(hX:ro room X)(f t:Ky)(hkf:lj f)(w:World)(hi:Inv w (bD (caF bc room X)) (caF bc room X) w):
  Ctr prog 142 [.p bc,.agg (bZ f).toArray,.agg (bZ t).toArray] w (caF bc room X) (λ_ cs=>∃X':CaX,cs=caF bc room X'/\ro room X'/\X'.Z=X.Z):=by
 have hS:=hX.sm;have hlk:=hX.lk;have hX2:∀LK,C6 (X.Z.map BA.key) LK->ro room ⟨X.ml,X.Ac,X.cc,X.fl,LK,X.Z⟩:=λLK h=>⟨hX.rm,hX.len,hX.ba,h⟩
 obtain⟨ml,Ac,cc,fl,LK,Z⟩:=X;dsimp only at hS hlk hX2;have hZ:=hS.1;have HP:=wu bc (.i room) (.map (some ml)) (.i fl) Ac cc Z hZ;have hgv:=La LK f;have hget:∀L,ga (lkV LK) f (.slice none 0 0)=L->L=(gW LK f).v:=λL e=>e▸hgv
 refine Zfn func142 ntmps142 hi ?_;refine Z_2 ?_;refine ZO λb4=>?_;refine ZO λb5=>?_
 refine Z_5 ?_;rcases ho1:cL BA.key f Z with _|j1
 .refine Wq354 ?_;refine Z_2 ?_;refine Wq89 ?_;refine Wq89 ?_;refine Zy (QU (q:=false) (Zv rfl) ⟨_,rfl,λ_ e=>absurd e Wq7⟩) ?_;refine Z_2 ?_;refine oU ?_;exact Wq303
 refine Wq354 ?_;refine Z_3 ?_;refine fJ (bE rfl rfl) Zh Zrf Zrf (Zv rfl) rfl (gU (bE rfl rfl) (by rw[show decide (I0 (some j1)<0)=false from ar (by show¬((j1:Nat):Int)<0;omega)];rfl) (eo ([caR bc (.i room) (.slice Ac Z.length cc) (.map (some ml)) (.i fl),slv 202 4 Ac Z.length cc (Z.flatMap BA.cells)]) rfl (λ_ _=>rfl) Zi (λw hi hin=>HP t w hin)) rfl ?_);rintro _ _ ⟨_,⟨rfl,rfl⟩,rfl⟩;refine Z_4 ?_;refine ZW ?_ ?_<;>intro hc1
 .exact Wq303
 have htk:t∈Z.map BA.key:=(by cases ho2:cL BA.key t Z with|none=>rw[ho2]at hc1;simp[I0]at hc1|some j2=>obtain⟨x2,hx2,hxk2, -⟩:=so ho2;grind);refine Z_2 ?_;refine cD (λY:CaX=>[(6,.bool false)]) (λY=>caF bc room Y) (λY=>ro room Y/\Y.Z=Z) ?_ ?_
 .refine Zs (bL ⟨λj=>List.elem j [],[]⟩ Zk ?_);refine lU ?_;refine ZFe 2 2 ?_;refine ZG 3 ?_;refine ZI 4 ?_;refine ZI 6 ?_;refine cn 5 Zk (GC rfl (I4 (Zv rfl) (Zv rfl) hkf rfl D8 Zrf) (λw hi=>(show nR ml (lkV LK) w from hi.get (show Has _ (mpc ml (lkV LK))from Zh))) rfl (cn 7 Zk ?_));rw[La LK f];refine ZTn (λw hi=>CE (gW LK f).A (gW LK f).c (gW LK f).ks t w (link_rd (hi.get (show Has _ (bQ (lkC LK))from Zh)))) ?_;rintro _ _ ⟨rfl,rfl⟩;refine ZE 8 ?_;refine eQ ?_;refine Zt (ZW ?_ ?_)<;>intro hc3
  .have hnt:t∉(gW LK f).ks:=bR;have hxl:(gW LK f).ks.length<=1000000:=(by cases hp:cL (λx:Ky×LS=>x.1) f LK with|some j=>obtain⟨x,hx,hl⟩:=nw hp;rw[hl];exact((hlk.sm bR) _ (ak hx)).2|none=>rw[ny hp];exact au _);obtain⟨⟨Ax,cx,kx⟩,hlx⟩:=Zgn (gW LK f);refine wc_inv (cs':=lsC (gW LK f)::bQ (xW LK f)::[caR bc (.i room) (.slice Ac Z.length cc) (.map (some ml)) (.i fl),slv 202 4 Ac Z.length cc (Z.flatMap BA.cells),bQ (Z.map baC),mpc ml (lkV LK),kyR b4 f,kyR b5 t]) (λw hi=>lkTake f (hi.pick (cs':=bQ (lkC LK)::[caR bc (.i room) (.slice Ac Z.length cc) (.map (some ml)) (.i fl),slv 202 4 Ac Z.length cc (Z.flatMap BA.cells),bQ (Z.map baC),mpc ml (lkV LK),kyR b4 f,kyR b5 t]) Zj)) (ig ⟨λj=>List.elem j [7,9,11],[]⟩ [(0,0),(1,0),(2,0),(3,4),(4,4),(5,4),(6,2),(7,2),(8,0),(10,0),(9,2),(11,2)] Zk Zk (nN ?_));refine dx rfl (Gw Zv0) rfl (dx rfl (dF 2 rfl Zv0 Zf) rfl (MS ?_));refine ka rfl Zh Zrf Zrf (Zv rfl) rfl (ka rfl Zh Zrf Zrf (Zv rfl) rfl (EL ?_));rintro _ _ ⟨b33,rfl,rfl⟩;refine eW ?_;refine la rfl rfl (NT rfl rfl hkf rfl D8 Zrf Za) ZJ rfl ?_;rintro _ _ ⟨st34,rfl,rfl⟩;refine dx rfl (j5 Zv0 (.zero _ _)) rfl (dx rfl (j5 Zv0 (.succ _ (.zero _ _))) rfl (eW ?_));rw[La LK f];refine la rfl rfl (cj (n:=(gW LK f).ks.length) (e:=164) (sz:=2) (bytes:=8) rfl rfl Za rfl rfl (λw hi=>hi.rd (show Has _ (slv 164 2 (sA b33) 1 1 (bZ t))from Zh)) (vL t) gq Wq1) ZJ rfl ?_;rintro _ _ ⟨A9,c9,rfl,rfl⟩;rw[show(gW LK f).ks.flatMap bZ++bZ t=((gW LK f).ks++[t]).flatMap bZ by simp,show(gW LK f).ks.length+1=((gW LK f).ks++[t]).length by simp];refine eW ?_;refine uz rfl rfl (JL (ment_at LK f) rfl rfl rfl Za) ZJ ?_;rintro _ _ ⟨rfl,rfl⟩;refine lb (kR (c:=mpc ml ((vy (lkV LK) f (.slice none 0 0)).set (zK (lkV LK) f) (f,(LS.mk A9 c9 ((gW LK f).ks++[t])).v))) (c':=mpc ml (lkV (dG LK f ⟨A9,c9,(gW LK f).ks++[t]⟩))) Za rfl (λw h=>by rw[<-OX];exact h) ?_)
   refine kr (cin:=xW LK f) (c:=lsC ⟨A9,c9,(gW LK f).ks++[t]⟩) (cin':=lkC (dG LK f ⟨A9,c9,(gW LK f).ks++[t]⟩)) Zd Zd (lkPut LK f _) (bJ ((⟨ml,Ac,cc,fl,dG LK f ⟨A9,c9,(gW LK f).ks++[t]⟩,Z⟩:CaX)) ?_ ?_ ?_)
   .exact⟨hX2 _ (hlk.put hkf htk hnt _ _),rfl⟩
   .exact Zwk
   exact Zj
  refine Zc (bJ ((⟨ml,Ac,cc,fl,LK,Z⟩:CaX)) ?_ ?_ ?_)
  .grind
  .exact Zwk
  exact Zj
 rintro Y ⟨hY,hYZ⟩;refine Z_6 ?_
 skip
 refine IY (cs':=caF bc room Y) (.inl rfl) (aR _) rfl rfl ?_
 grind
end
end Go.Ink
