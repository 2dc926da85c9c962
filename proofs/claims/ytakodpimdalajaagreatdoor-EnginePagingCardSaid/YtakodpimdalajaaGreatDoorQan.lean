/- Lemmas. -/
import Derived.Test.YtakodpimdalajaaGreatDoorQaa
import Derived.Test.YtakodpimdalajaaGreatDoorQab
import Derived.Test.YtakodpimdalajaaGreatDoorQam
set_option linter.unusedSimpArgs false
set_option linter.unusedVariables false
set_option maxRecDepth 100000
set_option maxHeartbeats 4000000
namespace Go.Ink
open Go.RowKit
theorem Inv.I3{S:List Nat}{cs cin rest:List bJ}{w0 w w':World}(h:Inv w0 S cs w)(hp:jU cin cs rest)(hk:dR (bK cin) w w'):dR S w0 w':=
 h.past (fun c hc=>hp.perm.symm.subset (aC _ hc)) hk
theorem eG{k:IntKind}{l:List Int}{n:Nat}(h:n<l.length):(ints k l)[n]? =some (.int k (l.getD n 0)):=cZ (by simp[ao h])
section
variable {C:Cx} {Q:kI} {fr:Fr} {cs:List bJ} {x y:Operand} {d:Option Nat} {T:TypeId} {ty:TypeId} {pos:String} {af:Array Edge} {gd:Option (Nat×Bool)} {g:Bool} {k:IntKind}
theorem eQ{A:Option Addr}{ad:Addr}(hA:A=some ad){n c j:Nat}{i:Int}{e sz:Nat}(hT:C.P.underlying T=some (.slice e))(hs:∀w,(sizeOf e).run C.P w= .ok sz w)(hx:Ev fr g x (.slice A n c))(hy:Ev fr g y (.int k i))(hj:g=true→i=(j:Int))(h1:g=true→j<n):
  OpY C ⟨d,.indexAddr T x y,ty,pos,af,gd⟩ fr g Any (.pointer (some (ad.add (j*sz)))):=dx (n:=n) (c:=c) hT hs (hA▸hx) hy hj h1
end
theorem iY(pl:Pl)(n into:Int):(je pl n into).length≤1:=by unfold je;cases pl.inR n<;>simp
theorem CY(pl:Pl)(n r:Int):(iQ pl n r).length≤1:=by unfold iQ;cases pl.inR n<;>simp
theorem ql(op rd a b:Int):(tJ op rd a b).length≤3:=by unfold tJ;cases uE op<;>simp[Ho]
theorem wC(op a b:Int):(kW op a b).length≤24:=by
 have:=ql op 9 a b;unfold kW fY;cases op==16<;>cases op==17||op==25<;>simp[jM,jL,gv,gL,r8]<;>omega
theorem vj(x:Int):IntKind.u32.wrap (IntKind.i64.wrap (64+x))=IntKind.u32.wrap (64+x):=by rw[aE,aE,bI];omega
end Go.Ink
namespace Go.Proofs.YtakodpimdalajaaGreatDoor
open Go.RowKit Go.Ink Go.Proofs.Tryz
attribute [local irreducible] OpY bU
theorem host_ok(op:Int)(w:World):Ctr prog 261 [.int .u32 op] w [] (fun r cs=>r= .int .i64 (j7 op)∧cs=[]):=by
 refine bL func261 rfl ntmps261 rfl (Inv.start w) ?_;refine w8 ?_;refine ZW ?_ ?_<;>intro hc2
 ·refine Z_8 ?_;refine Zra ?_;exact⟨by unfold j7;rw[hc2];rfl,rfl⟩
 refine Z_6 ?_;refine ZW ?_ ?_<;>intro hc4
 ·refine Z_8 ?_;refine Zra ?_;exact⟨by unfold j7;rw[hc2,hc4];rfl,rfl⟩
 refine Z_6 ?_;refine ZW ?_ ?_<;>intro hc6
 ·refine Z_8 ?_;refine Zra ?_;exact⟨by unfold j7;rw[hc2,hc4,hc6];rfl,rfl⟩
 refine Z_6 ?_;refine ZW ?_ ?_<;>intro hc8
 ·refine Z_8 ?_;refine Zra ?_;exact⟨by unfold j7;rw[hc2,hc4,hc6,hc8];rfl,rfl⟩
 refine Z_6 ?_;refine ZW ?_ ?_<;>intro hc10
 ·refine Z_8 ?_;refine Zra ?_;exact⟨by unfold j7;rw[hc2,hc4,hc6,hc8,hc10];rfl,rfl⟩
 refine Z_6 ?_;refine ZW ?_ ?_<;>intro hc12
 ·refine Z_8 ?_;refine Zra ?_;exact⟨by unfold j7;rw[hc2,hc4,hc6,hc8,hc10,hc12];rfl,rfl⟩
 refine Z_6 ?_;refine ZW ?_ ?_<;>intro hc14
 ·refine Z_8 ?_;refine Zra ?_;exact⟨by unfold j7;rw[hc2,hc4,hc6,hc8,hc10,hc12,hc14];rfl,rfl⟩
 refine Z_9 ?_;refine Zra ?_;exact⟨by unfold j7;rw[hc2,hc4,hc6,hc8,hc10,hc12,hc14];rfl,rfl⟩
theorem F5(op:Int)(w:World):Ctr prog 235 [.int .i64 op] w [] (fun r cs=>r= .tuple #[.int .u32 (fx op),.bool (gO op)]∧cs=[]):=by
 refine bL func235 rfl ntmps235 rfl (Inv.start w) ?_;refine GV ?_;refine ZW ?_ ?_<;>intro hc2
 ·refine Z_9 ?_;refine ft (cs':=[]) (.inl rfl) Zu rfl rfl rfl ?_;exact⟨by unfold fx gO;rw[hc2];rfl,rfl⟩
 refine Z_6 ?_;refine ZW ?_ ?_<;>intro hc4
 ·refine Z_9 ?_;refine ft (cs':=[]) (.inl rfl) Zu rfl rfl rfl ?_;exact⟨by unfold fx gO;rw[hc2,hc4];rfl,rfl⟩
 refine Z_6 ?_;refine ZW ?_ ?_<;>intro hc6
 ·refine Z_9 ?_;refine ft (cs':=[]) (.inl rfl) Zu rfl rfl rfl ?_;exact⟨by unfold fx gO;rw[hc2,hc4,hc6];rfl,rfl⟩
 refine Z_6 ?_;refine ZW ?_ ?_<;>intro hc8
 ·refine Z_9 ?_;refine ft (cs':=[]) (.inl rfl) Zu rfl rfl rfl ?_;exact⟨by unfold fx gO;rw[hc2,hc4,hc6,hc8];rfl,rfl⟩
 refine eJ ?_;refine ft (cs':=[]) (.inl rfl) Zu rfl rfl rfl ?_;exact⟨by unfold fx gO;rw[hc2,hc4,hc6,hc8];rfl,rfl⟩
section
variable (S:CdS) (l:List HI) (fix:List Int) (X:CAd)
theorem cto_ok(hl:l.length≤20000)(n:Nat)(hn:n<S.pl.reg.length)(w:World)(hi:Inv w (bK (cdF S l fix X)) (cdF S l fix X) w)(hK:∀w',dR (bK (cdF S l fix X)) w w'→Ex S w'):
  Ctr prog 229 [.pointer (some ⟨S.b,0,none⟩),.int .i64 n] w (cdF S l fix X) (fun r9 cs=>r9= .int .i64 (dT S.pl n 9)∧∃l' X',l'=l++[]∧cs=cdF S l' (fix) X'):=by
 have hreg0:=(hK w (dR.refl _ _)).reg;obtain⟨ag,hag⟩:∃ag,S.Ag=some ag:=Option.ne_none_iff_exists'.1 (fun e=>by have:=(hreg0.nil e).1;omega);have hreg:∀w',dR (bK (cdF S l fix X)) w w'→RdV w' 1 (some ag) S.pl.reg.length S.cg (ints .i64 S.pl.reg):=fun w' hk=>hag▸(hK w' hk).reg
 refine bL func229 rfl ntmps229 rfl hi ?_;refine iG ?_;refine Zy (eQ (j:=n) hag rfl Zrf Zv0 Zv0 Zrf (fun _=>hn)) ?_;refine dX (bO Zrf Zv0) (jo (v:= .int .i64 (S.pl.r n)) hreg (eG hn)) rfl ?_;refine Z_9 ?_;refine ZW ?_ ?_<;>intro hc2
 ·have hr:S.pl.inR n=true:=hc2;refine Z_8 ?_;refine Zrb (cdF S l fix X) ?_;exact⟨by unfold dT;rw[hr];rfl,l,X,(by simp only[ac,aa,aq,aO,aP,ay]),rfl⟩
 have hr:S.pl.inR n=false:=hc2;refine Z_8 ?_;refine Zrb (cdF S l fix X) ?_;exact⟨by unfold dT;rw[hr];rfl,l,X,(by simp only[ac,aa,aq,aO,aP,ay]),rfl⟩
theorem pm(hl:l.length≤20000)(n:Nat)(into:Int)(hn:n<S.pl.reg.length)(hn2:n<S.pl.slot.length)(w:World)(hi:Inv w (bK (cdF S l fix X)) (cdF S l fix X) w)(hK:∀w',dR (bK (cdF S l fix X)) w w'→Ex S w'):
  Ctr prog 230 [.pointer (some ⟨S.b,0,none⟩),.int .i64 n,.int .i64 into] w (cdF S l fix X) (fun r9 cs=>r9= .int .i64 (dT S.pl n into)∧∃l' X',l'=l++je S.pl n into∧cs=cdF S l' (fix) X'):=by
 have hreg0:=(hK w (dR.refl _ _)).reg;obtain⟨ag,hag⟩:∃ag,S.Ag=some ag:=Option.ne_none_iff_exists'.1 (fun e=>by have:=(hreg0.nil e).1;omega);have hreg:∀w',dR (bK (cdF S l fix X)) w w'→RdV w' 1 (some ag) S.pl.reg.length S.cg (ints .i64 S.pl.reg):=fun w' hk=>hag▸(hK w' hk).reg
 have hslot0:=(hK w (dR.refl _ _)).slot;obtain⟨asl,has⟩:∃ag,S.As=some ag:=Option.ne_none_iff_exists'.1 (fun e=>by have:=(hslot0.nil e).1;omega);have hslot:∀w',dR (bK (cdF S l fix X)) w w'→RdV w' 1 (some asl) S.pl.slot.length S.cs (ints .i64 S.pl.slot):=fun w' hk=>has▸(hK w' hk).slot
 refine bL func230 rfl ntmps230 rfl hi ?_;refine iG ?_;refine Zy (eQ (j:=n) hag rfl Zrf Zv0 Zv0 Zrf (fun _=>hn)) ?_;refine dX (bO Zrf Zv0) (jo (v:= .int .i64 (S.pl.r n)) hreg (eG hn)) rfl ?_;refine Z_9 ?_;refine ZW ?_ ?_<;>intro hc2
 ·have hr:S.pl.inR n=true:=hc2;have e1:je S.pl n into=[]:=by unfold je;rw[hr];rfl
  refine Z_8 ?_;refine Zrb (cdF S l fix X) ?_;exact⟨by unfold dT;rw[hr];rfl,l,X,(by simp only[e1,ac,aa,aq,aO,aP,ay]),rfl⟩
 have hr:S.pl.inR n=false:=hc2;have e1:je S.pl n into=[⟨14,into,15,0,IntKind.u32.wrap (64+S.pl.s n)⟩]:=by unfold je;rw[hr];rfl
 refine gQ ?_;refine Zy (eQ (j:=n) has rfl Zrf Zv0 Zv0 Zrf (fun _=>hn2)) ?_;refine dX (bO Zrf Zv0) (jo (v:= .int .i64 (S.pl.s n)) hslot (eG hn2)) rfl ?_;refine Zy (cy Zv0 Zv0 rfl) ?_;refine Zy (ce rfl rfl (Zv rfl) (vj _)) ?_;refine ZcL (cdF S l fix X) (fun w hi hin=>wP S l fix X (by first|omega|(simp only[ae,ai,ak];omega)) into 15 (IntKind.u32.wrap (64+S.pl.s n)) w hin) ?_;rintro _ _ ⟨_,⟨l1,X1,hl1,rfl⟩,rfl⟩;refine Z_9 ?_;refine Zrb (cdF S l1 fix X1) ?_;exact⟨by unfold dT;rw[hr];rfl,l1,X1,(by simp only[hl1,e1,ac,aa,aq,aO,aP,ay]),rfl⟩
theorem GJ(hl:l.length≤20000)(n:Nat)(r:Int)(hn:n<S.pl.reg.length)(hn2:n<S.pl.slot.length)(w:World)(hi:Inv w (bK (cdF S l fix X)) (cdF S l fix X) w)(hK:∀w',dR (bK (cdF S l fix X)) w w'→Ex S w'):
  Ctr prog 233 [.pointer (some ⟨S.b,0,none⟩),.int .i64 n,.int .i64 r] w (cdF S l fix X) (fun r9 cs=>∃l' X',l'=l++iQ S.pl n r∧cs=cdF S l' (fix) X'):=by
 have hreg0:=(hK w (dR.refl _ _)).reg;obtain⟨ag,hag⟩:∃ag,S.Ag=some ag:=Option.ne_none_iff_exists'.1 (fun e=>by have:=(hreg0.nil e).1;omega);have hreg:∀w',dR (bK (cdF S l fix X)) w w'→RdV w' 1 (some ag) S.pl.reg.length S.cg (ints .i64 S.pl.reg):=fun w' hk=>hag▸(hK w' hk).reg
 have hslot0:=(hK w (dR.refl _ _)).slot;obtain⟨asl,has⟩:∃ag,S.As=some ag:=Option.ne_none_iff_exists'.1 (fun e=>by have:=(hslot0.nil e).1;omega);have hslot:∀w',dR (bK (cdF S l fix X)) w w'→RdV w' 1 (some asl) S.pl.slot.length S.cs (ints .i64 S.pl.slot):=fun w' hk=>has▸(hK w' hk).slot
 refine bL func233 rfl ntmps233 rfl hi ?_;refine Z_8 ?_;refine Zy (eQ (j:=n) hag rfl Zrf Zv0 Zv0 Zrf (fun _=>hn)) ?_;refine dX (bO Zrf Zv0) (jo (v:= .int .i64 (S.pl.r n)) hreg (eG hn)) rfl ?_;refine Z_3 ?_;refine ZW ?_ ?_<;>intro hc0
 ·have hr:S.pl.inR n=false:=by unfold Pl.inR;rw[ap]at hc0;rw[aj];omega
  have e1:iQ S.pl n r=[⟨15,0,15,r,IntKind.u32.wrap (64+S.pl.s n)⟩]:=by unfold iQ;rw[hr];rfl
  refine Z_8 ?_;refine Zy (eQ (j:=n) has rfl Zrf Zv0 Zv0 Zrf (fun _=>hn2)) ?_;refine dX (bO Zrf Zv0) (jo (v:= .int .i64 (S.pl.s n)) hslot (eG hn2)) rfl ?_;refine Zy (cy Zv0 Zv0 rfl) ?_;refine Zy (ce rfl rfl (Zv rfl) (vj _)) ?_;refine ZA ?_;refine ZcL (cdF S l fix X) (fun w hi hin=>tC S l fix X (by first|omega|(simp only[ae,ai,ak];omega)) 15 (IntKind.u32.wrap (64+S.pl.s n)) r w hin) ?_;rintro _ _ ⟨_,⟨l1,X1,hl1,rfl⟩,rfl⟩;refine Zn (fE (cs':=cdF S l1 fix X1) (.inr rfl) Zu rfl ?_);exact⟨l1,X1,(by simp only[hl1,e1,ac,aa,aq,aO,aP,ay]),rfl⟩
 have hr:S.pl.inR n=true:=by unfold Pl.inR;rw[aj]at hc0;rw[ap];omega
 have e1:iQ S.pl n r=[]:=by unfold iQ;rw[hr];rfl
 refine Zc (fE (cs':=cdF S l fix X) (.inr rfl) Zu rfl ?_);exact⟨l,X,(by simp only[e1,ac,aa,aq,aO,aP,ay]),rfl⟩
theorem clow_ok(hl:l.length≤40000)(r:Int)(w:World)(hi:Inv w (bK (cdF S l fix X)) (cdF S l fix X) w):
  Ctr prog 262 [.pointer (some ⟨S.b,0,none⟩),.int .i64 r] w (cdF S l fix X) (fun r9 cs=>∃l' X',l'=l++Ho r∧cs=cdF S l' (fix) X'):=by
 refine bL func262 rfl ntmps262 rfl hi ?_;refine Z_3 ?_;refine ZcL (cdF S l fix X) (fun w hi hin=>j8 S l fix X (by first|omega|(simp only[ae,ai,ak];omega)) 12 4294967295 w hin) ?_;rintro _ _ ⟨_,⟨l1,X1,hl1,rfl⟩,rfl⟩;refine Z_6 ?_;refine ZcL (cdF S l1 fix X1) (fun w hi hin=>gK S l1 fix X1 (by first|omega|(simp only[hl1,ae,ai,ak];omega)) 5 r r 12 w hin) ?_;rintro _ _ ⟨_,⟨l2,X2,hl2,rfl⟩,rfl⟩;refine Zn (fE (cs':=cdF S l2 fix X2) (.inr rfl) Zu rfl ?_);exact⟨l2,X2,(by simp only[hl1,hl2,Ho,ac,aa,aq,aO,aP,ay]),rfl⟩
theorem tD(hl:l.length≤40000)(rd r:Int)(w:World)(hi:Inv w (bK (cdF S l fix X)) (cdF S l fix X) w):
  Ctr prog 263 [.pointer (some ⟨S.b,0,none⟩),.int .i64 rd,.int .i64 r] w (cdF S l fix X) (fun r9 cs=>∃l' X',l'=l++gL rd r∧cs=cdF S l' (fix) X'):=by
 refine bL func263 rfl ntmps263 rfl hi ?_;refine Z_3 ?_;refine ZcL (cdF S l fix X) (fun w hi hin=>j8 S l fix X (by first|omega|(simp only[ae,ai,ak];omega)) 12 31 w hin) ?_;rintro _ _ ⟨_,⟨l1,X1,hl1,rfl⟩,rfl⟩;refine Z_6 ?_;refine ZcL (cdF S l1 fix X1) (fun w hi hin=>gK S l1 fix X1 (by first|omega|(simp only[hl1,ae,ai,ak];omega)) 9 rd r 12 w hin) ?_;rintro _ _ ⟨_,⟨l2,X2,hl2,rfl⟩,rfl⟩;refine Zn (fE (cs':=cdF S l2 fix X2) (.inr rfl) Zu rfl ?_);exact⟨l2,X2,(by simp only[hl1,hl2,gL,ac,aa,aq,aO,aP,ay]),rfl⟩
theorem rU(hl:l.length≤40000)(r up:Int)(w:World)(hi:Inv w (bK (cdF S l fix X)) (cdF S l fix X) w):
  Ctr prog 264 [.pointer (some ⟨S.b,0,none⟩),.int .i64 r,.int .u32 up] w (cdF S l fix X) (fun r9 cs=>∃l' X',l'=l++r8 r up∧cs=cdF S l' (fix) X'):=by
 refine bL func264 rfl ntmps264 rfl hi ?_;refine Z_4 ?_;refine ZcL (cdF S l fix X) (fun w hi hin=>j8 S l fix X (by first|omega|(simp only[ae,ai,ak];omega)) 12 up w hin) ?_;rintro _ _ ⟨_,⟨l1,X1,hl1,rfl⟩,rfl⟩;refine Z_7 ?_;refine ZcL (cdF S l1 fix X1) (fun w hi hin=>gK S l1 fix X1 (by first|omega|(simp only[hl1,ae,ai,ak];omega)) 8 r r 12 w hin) ?_;rintro _ _ ⟨_,⟨l2,X2,hl2,rfl⟩,rfl⟩;refine Z_5 ?_;refine ZcL (cdF S l2 fix X2) (fun w hi hin=>gK S l2 fix X2 (by first|omega|(simp only[hl1,hl2,ae,ai,ak];omega)) 6 10 10 r w hin) ?_;rintro _ _ ⟨_,⟨l3,X3,hl3,rfl⟩,rfl⟩;refine Zn (fE (cs':=cdF S l3 fix X3) (.inr rfl) Zu rfl ?_);exact⟨l3,X3,(by simp only[hl1,hl2,hl3,r8,ac,aa,aq,aO,aP,ay]),rfl⟩
theorem Ed(hl:l.length≤30000)(op rd a b:Int)(w:World)(hi:Inv w (bK (cdF S l fix X)) (cdF S l fix X) w):
  Ctr prog 231 [.pointer (some ⟨S.b,0,none⟩),.int .u32 op,.int .i64 rd,.int .i64 a,.int .i64 b] w (cdF S l fix X) (fun r9 cs=>∃l' X',l'=l++tJ op rd a b∧cs=cdF S l' (fix) X'):=by
 refine bL func231 rfl ntmps231 rfl hi ?_;refine Z_4 ?_;refine ZSe (fun w hi=>host_ok op w) ?_;refine Z_3 ?_;refine ZcL (cdF S l fix X) (fun w hi hin=>gK S l fix X (by first|omega|(simp only[ae,ai,ak];omega)) (j7 op) rd a b w hin) ?_;rintro _ _ ⟨_,⟨l1,X1,hl1,rfl⟩,rfl⟩;refine qo ?_;refine ZW ?_ ?_<;>intro hc3
 ·refine Z_2 ?_;refine cn rfl (hc3) ?_;refine Z_2 ?_;refine fE (cs':=cdF S l1 fix X1) (.inr rfl) Zu rfl ?_;exact⟨l1,X1,(by simp only[hl1,tJ,uE,Bool.or_true,Bool.true_or,Bool.or_false,Bool.false_or,hc3,ac,aa,aq,aO,aP,ay]),rfl⟩
 refine Z_6 ?_;refine ZW ?_ ?_<;>intro hc4
 ·refine Z_2 ?_;refine cn rfl (hc4) ?_;refine Z_2 ?_;refine fE (cs':=cdF S l1 fix X1) (.inr rfl) Zu rfl ?_;exact⟨l1,X1,(by simp only[hl1,tJ,uE,Bool.or_true,Bool.true_or,Bool.or_false,Bool.false_or,hc3,hc4,ac,aa,aq,aO,aP,ay]),rfl⟩
 refine Z_6 ?_;refine ZW ?_ ?_<;>intro hc5
 ·refine Z_2 ?_;refine cn rfl (hc5) ?_;refine Z_2 ?_;refine fE (cs':=cdF S l1 fix X1) (.inr rfl) Zu rfl ?_;exact⟨l1,X1,(by simp only[hl1,tJ,uE,Bool.or_true,Bool.true_or,Bool.or_false,Bool.false_or,hc3,hc4,hc5,ac,aa,aq,aO,aP,ay]),rfl⟩
 refine Z_5 ?_;refine ZW ?_ ?_<;>intro hc6
 ·refine Z_2 ?_;refine fE (cs':=cdF S l1 fix X1) (.inr rfl) Zu rfl ?_;exact⟨l1,X1,(by simp only[hl1,tJ,uE,Bool.or_true,Bool.true_or,Bool.or_false,Bool.false_or,hc3,hc4,hc5,hc6,ac,aa,aq,aO,aP,ay]),rfl⟩
 refine Z_3 ?_;refine ZcL (cdF S l1 fix X1) (fun w hi hin=>clow_ok S l1 fix X1 (by first|omega|(simp only[hl1,ae,ai,ak];omega)) rd w hin) ?_;rintro _ _ ⟨_,⟨l2,X2,hl2,rfl⟩,rfl⟩;refine Z_2 ?_;refine fE (cs':=cdF S l2 fix X2) (.inr rfl) Zu rfl ?_;exact⟨l2,X2,(by simp only[hl1,hl2,tJ,uE,Bool.or_true,Bool.true_or,Bool.or_false,Bool.false_or,hc3,hc4,hc5,hc6,ac,aa,aq,aO,aP,ay]),rfl⟩
theorem GN(hl:l.length≤20000)(op a b:Int)(w:World)(hi:Inv w (bK (cdF S l fix X)) (cdF S l fix X) w):
  Ctr prog 232 [.pointer (some ⟨S.b,0,none⟩),.int .u32 op,.int .i64 a,.int .i64 b] w (cdF S l fix X) (fun r9 cs=>∃l' X',l'=l++kW op a b∧cs=cdF S l' (fix) X'):=by
 have ha:=ql op 9 a b;have hs:∀x y,(gL x y).length=2:=fun _ _=>rfl
 have hb:∀x y,(r8 x y).length=3:=fun _ _=>rfl
 refine bL func232 rfl ntmps232 rfl hi ?_;refine Z_6 ?_;refine ZcL (cdF S l fix X) (fun w hi hin=>Ed S l fix X (by first|omega|(simp only[hs,hb,ae,ai,ak];omega)) op 9 a b w hin) ?_;rintro _ _ ⟨_,⟨l1,X1,hl1,rfl⟩,rfl⟩;refine Z_5 ?_;refine ZcL (cdF S l1 fix X1) (fun w hi hin=>gK S l1 fix X1 (by first|omega|(simp only[hs,hb,hl1,ae,ai,ak];omega)) 13 10 9 15 w hin) ?_;rintro _ _ ⟨_,⟨l2,X2,hl2,rfl⟩,rfl⟩;refine Z_5 ?_;refine ZcL (cdF S l2 fix X2) (fun w hi hin=>tD S l2 fix X2 (by first|omega|(simp only[hs,hb,hl1,hl2,ae,ai,ak];omega)) 11 9 w hin) ?_;rintro _ _ ⟨_,⟨l3,X3,hl3,rfl⟩,rfl⟩;refine Z_5 ?_;refine ZcL (cdF S l3 fix X3) (fun w hi hin=>rU S l3 fix X3 (by first|omega|(simp only[hs,hb,hl1,hl2,hl3,ae,ai,ak];omega)) 11 1 w hin) ?_;rintro _ _ ⟨_,⟨l4,X4,hl4,rfl⟩,rfl⟩;refine Z_2 ?_;refine cS (fun q:List HI×CAd=>[(0,.pointer (some ⟨S.b,0,none⟩))]) (fun q=>cdF S q.1 fix q.2) (fun q=>q.1.length≤l.length+30∧q.1++(⟨5,11,11,12,0⟩::(gL 11 11++r8 11 3))=l++kW op a b) ?_ ?_
 ·refine gQ ?_;refine ZW ?_ ?_<;>intro hc5
  ·refine Z_4 ?_;refine ZcL (cdF S l4 fix X4) (fun w hi hin=>gK S l4 fix X4 (by first|omega|(simp only[hs,hb,hl1,hl2,hl3,hl4,ae,ai,ak];omega)) 12 11 9 a w hin) ?_;rintro _ _ ⟨_,⟨l5,X5,hl5,rfl⟩,rfl⟩;refine Z_5 ?_;refine ZcL (cdF S l5 fix X5) (fun w hi hin=>rU S l5 fix X5 (by first|omega|(simp only[hs,hb,hl1,hl2,hl3,hl4,hl5,ae,ai,ak];omega)) 11 2 w hin) ?_;rintro _ _ ⟨_,⟨l6,X6,hl6,rfl⟩,rfl⟩;refine Z_6 ?_;refine ZcL (cdF S l6 fix X6) (fun w hi hin=>gK S l6 fix X6 (by first|omega|(simp only[hs,hb,hl1,hl2,hl3,hl4,hl5,hl6,ae,ai,ak];omega)) 7 11 a 9 w hin) ?_;rintro _ _ ⟨_,⟨l7,X7,hl7,rfl⟩,rfl⟩;refine Z_5 ?_;refine ZcL (cdF S l7 fix X7) (fun w hi hin=>gK S l7 fix X7 (by first|omega|(simp only[hs,hb,hl1,hl2,hl3,hl4,hl5,hl6,hl7,ae,ai,ak];omega)) 7 12 b 9 w hin) ?_;rintro _ _ ⟨_,⟨l8,X8,hl8,rfl⟩,rfl⟩;refine Z_2 ?_;refine ez (((l8,X8):List HI×CAd)) ?_ ?_ ?_
   ·exact⟨by simp only[hs,hb,hl1,hl2,hl3,hl4,hl5,hl6,hl7,hl8,ae,ai,ak];omega,by simp only[hl1,hl2,hl3,hl4,hl5,hl6,hl7,hl8,kW,fY,jM,jL,gv,ac,aa,Bool.true_or,Bool.or_true,aq,aO,aP,hc5]⟩
   ·exact Zwk
   exact Zu
  refine Z_7 ?_;refine ZW ?_ ?_<;>intro hc10
  ·refine Z_2 ?_;refine cn rfl (hc10) ?_;refine Z_5 ?_;refine ZcL (cdF S l4 fix X4) (fun w hi hin=>gK S l4 fix X4 (by first|omega|(simp only[hs,hb,hl1,hl2,hl3,hl4,ae,ai,ak];omega)) 12 11 a b w hin) ?_;rintro _ _ ⟨_,⟨l5,X5,hl5,rfl⟩,rfl⟩;refine Z_5 ?_;refine ZcL (cdF S l5 fix X5) (fun w hi hin=>rU S l5 fix X5 (by first|omega|(simp only[hs,hb,hl1,hl2,hl3,hl4,hl5,ae,ai,ak];omega)) 11 2 w hin) ?_;rintro _ _ ⟨_,⟨l6,X6,hl6,rfl⟩,rfl⟩;refine Z_7 ?_;refine ZcL (cdF S l6 fix X6) (fun w hi hin=>gK S l6 fix X6 (by first|omega|(simp only[hs,hb,hl1,hl2,hl3,hl4,hl5,hl6,ae,ai,ak];omega)) 7 11 a b w hin) ?_;rintro _ _ ⟨_,⟨l7,X7,hl7,rfl⟩,rfl⟩;refine Z_5 ?_;refine ZcL (cdF S l7 fix X7) (fun w hi hin=>gK S l7 fix X7 (by first|omega|(simp only[hs,hb,hl1,hl2,hl3,hl4,hl5,hl6,hl7,ae,ai,ak];omega)) 7 12 a 9 w hin) ?_;rintro _ _ ⟨_,⟨l8,X8,hl8,rfl⟩,rfl⟩;refine Z_2 ?_;refine ez (((l8,X8):List HI×CAd)) ?_ ?_ ?_
   ·exact⟨by simp only[hs,hb,hl1,hl2,hl3,hl4,hl5,hl6,hl7,hl8,ae,ai,ak];omega,by simp only[hl1,hl2,hl3,hl4,hl5,hl6,hl7,hl8,kW,fY,jM,jL,gv,ac,aa,Bool.true_or,Bool.or_true,aq,aO,aP,hc5,hc10]⟩
   ·exact Zwk
   exact Zu
  refine Z_5 ?_;refine ZW ?_ ?_<;>intro hc11
  ·refine Z_5 ?_;refine ZcL (cdF S l4 fix X4) (fun w hi hin=>gK S l4 fix X4 (by first|omega|(simp only[hs,hb,hl1,hl2,hl3,hl4,ae,ai,ak];omega)) 12 11 a b w hin) ?_;rintro _ _ ⟨_,⟨l5,X5,hl5,rfl⟩,rfl⟩;refine Z_5 ?_;refine ZcL (cdF S l5 fix X5) (fun w hi hin=>rU S l5 fix X5 (by first|omega|(simp only[hs,hb,hl1,hl2,hl3,hl4,hl5,ae,ai,ak];omega)) 11 2 w hin) ?_;rintro _ _ ⟨_,⟨l6,X6,hl6,rfl⟩,rfl⟩;refine Z_7 ?_;refine ZcL (cdF S l6 fix X6) (fun w hi hin=>gK S l6 fix X6 (by first|omega|(simp only[hs,hb,hl1,hl2,hl3,hl4,hl5,hl6,ae,ai,ak];omega)) 7 11 a b w hin) ?_;rintro _ _ ⟨_,⟨l7,X7,hl7,rfl⟩,rfl⟩;refine Z_5 ?_;refine ZcL (cdF S l7 fix X7) (fun w hi hin=>gK S l7 fix X7 (by first|omega|(simp only[hs,hb,hl1,hl2,hl3,hl4,hl5,hl6,hl7,ae,ai,ak];omega)) 7 12 a 9 w hin) ?_;rintro _ _ ⟨_,⟨l8,X8,hl8,rfl⟩,rfl⟩;refine Z_2 ?_;refine ez (((l8,X8):List HI×CAd)) ?_ ?_ ?_
   ·exact⟨by simp only[hs,hb,hl1,hl2,hl3,hl4,hl5,hl6,hl7,hl8,ae,ai,ak];omega,by simp only[hl1,hl2,hl3,hl4,hl5,hl6,hl7,hl8,kW,fY,jM,jL,gv,ac,aa,Bool.true_or,Bool.or_true,aq,aO,aP,hc5,hc10,hc11]⟩
   ·exact Zwk
   exact Zu
  refine Z_3 ?_;refine fE (cs':=cdF S l4 fix X4) (.inl rfl) Zu rfl ?_;exact⟨l4,X4,(by simp only[hl1,hl2,hl3,hl4,kW,fY,hc5,hc10,hc11,Bool.or_false,ac,aa,aq,aO,aP,ay]),rfl⟩
 rintro⟨m9,s9⟩ ⟨hs8,hs9⟩;dsimp only at hs8 hs9⊢;refine Z_3 ?_;refine ZcL (cdF S m9 fix s9) (fun w hi hin=>gK S m9 fix s9 (by first|omega|(simp only[hs,hb,ae,ai,ak];omega)) 5 11 11 12 w hin) ?_;rintro _ _ ⟨_,⟨l21,X21,hl21,rfl⟩,rfl⟩;refine Z_5 ?_;refine ZcL (cdF S l21 fix X21) (fun w hi hin=>tD S l21 fix X21 (by first|omega|(simp only[hs,hb,hl21,ae,ai,ak];omega)) 11 11 w hin) ?_;rintro _ _ ⟨_,⟨l22,X22,hl22,rfl⟩,rfl⟩;refine Z_4 ?_;refine ZcL (cdF S l22 fix X22) (fun w hi hin=>rU S l22 fix X22 (by first|omega|(simp only[hs,hb,hl21,hl22,ae,ai,ak];omega)) 11 3 w hin) ?_;rintro _ _ ⟨_,⟨l23,X23,hl23,rfl⟩,rfl⟩;refine Zn (fE (cs':=cdF S l23 fix X23) (.inr rfl) Zu rfl ?_);exact⟨l23,X23,(by rw[←hs9,hl23,hl22,hl21];simp only[aq,aO,aP]),rfl⟩
end
end Go.Proofs.YtakodpimdalajaaGreatDoor
namespace Go.Ink
open Go.RowKit
theorem vS(pl:Pl)(base f:Int)(n:Int):∀(c:List Int) (k:Nat),sY pl base f (c++[n]) k=sY pl base f c k++(je pl n 7++[⟨15,0,base,dT pl n 7,IntKind.u32.wrap (f+IntKind.u32.wrap ((k+c.length:Nat):Int))⟩])
 |[],k=>by simp[sY]
 |x::c,k=>by
  have ih:=vS pl base f n c (k+1);show je pl x 7++(_::sY pl base f (c++[n]) (k+1))=(je pl x 7++(_::sY pl base f c (k+1)))++_;rw[ih,show k+1+c.length=k+(x::c).length by simp;omega];simp only[aq,aO]
theorem uC(pl:Pl)(base f:Int):∀(c:List Int) (k:Nat),(sY pl base f c k).length≤2*c.length
 |[],_=>aS _
 |x::c,k=>by
  have ih:=uC pl base f c (k+1);have h1:=iY pl x 7;show(je pl x 7++(_::sY pl base f c (k+1))).length≤2*(c.length+1);rw[ae,ai];omega
theorem FF(a b:Int)(pl:Pl)(n:Int)(x:II):(oR a b pl n x).length≤30:=by
 have h1:=iY pl x.a 7;have h2:=iY pl x.b 8;have h3:=ql x.imm (dT pl n 9) (dT pl x.a 7) (dT pl x.b 8);have h4:=wC x.imm (dT pl x.a 7) (dT pl x.b 8);have h5:=CY pl n (dT pl n 9);unfold oR;rw[ae];cases x.op==0<;>cases x.op==1<;>cases x.op==2<;>cases x.op==3<;>cases x.op==4<;>simp only[ac,aa,ae,ai,ak]<;>omega
theorem yi(c d i:Int):IntKind.u32.wrap (IntKind.i64.wrap (IntKind.i64.wrap (IntKind.i64.wrap (c+d) - 1) - IntKind.i64.wrap i))=IntKind.u32.wrap (c+d - 1 - i):=by
 rw[aE,aE,bI,bI,bI,bI];omega
end Go.Ink
namespace Go.Proofs.YtakodpimdalajaaGreatDoor
open Go.RowKit Go.Ink Go.Proofs.Tryz
attribute [local irreducible] OpY bU
section
variable (S:CdS) (l:List HI) (fix:List Int) (X:CAd)
theorem cone_ok(hl:l.length≤12000)(n:Nat)(op dst xa xb imm:Int)(hn:n<S.pl.reg.length)(hn2:n<S.pl.slot.length)(hab:(op==3)=true∨(op==4)=true→∃na nb:Nat,xa=na∧xb=nb∧(na<S.pl.reg.length∧na<S.pl.slot.length)∧(nb<S.pl.reg.length∧nb<S.pl.slot.length))(w:World)(hi:Inv w (bK (cdF S l fix X)) (cdF S l fix X) w)(hK:∀w',dR (bK (cdF S l fix X)) w w'→Ex S w'):
  Ctr prog 171 [.pointer (some ⟨S.b,0,none⟩),.int .i64 n,.agg #[.int .i64 op,.int .i64 dst,.int .i64 xa,.int .i64 xb,.int .u32 imm]] w (cdF S l fix X) (fun r9 cs=>∃l' X',l'=l++oR S.p.Ia S.p.Ib S.pl n ⟨op,dst,xa,xb,imm⟩∧cs=cdF S l' (fix) X'):=by
 have gA:=iY S.pl xa 7;have gB:=iY S.pl xb 8;have aA:=ql imm (dT S.pl n 9) (dT S.pl xa 7) (dT S.pl xb 8);have fA:=wC imm (dT S.pl xa 7) (dT S.pl xb 8);refine bL func171 rfl ntmps171 rfl hi ?_;refine Z_2 ?_;refine ZO fun b5=>?_;refine Z_6 ?_;refine ZcL (cdF S l fix X) (fun w hi hin=>cto_ok S l fix X (by first|omega|(simp only[ae,ai,ak];omega)) n hn w hin (fun w' hk=>hK w' (hi.I3 Zi hk))) ?_;rintro _ _ ⟨_,⟨rfl,l1,X1,hl1,rfl⟩,rfl⟩;refine Z_3 ?_;refine cS (fun q:List HI×CAd=>[(0,.pointer (some ⟨S.b,0,none⟩)),(1,.int .i64 n),(6,.int .i64 (dT S.pl n 9))]) (fun q=>cdF S q.1 fix q.2) (fun q=>q.1.length≤l.length+30∧q.1++iQ S.pl n (dT S.pl n 9)=l++oR S.p.Ia S.p.Ib S.pl n ⟨op,dst,xa,xb,imm⟩) ?_ ?_
 ·refine jT ?_;refine ZW ?_ ?_<;>intro hc3
  ·refine Z_5 ?_;refine ZcL (cdF S l1 fix X1) (fun w hi hin=>j8 S l1 fix X1 (by first|omega|(simp only[hl1,ae,ai,ak];omega)) (dT S.pl n 9) imm w hin) ?_;rintro _ _ ⟨_,⟨l2,X2,hl2,rfl⟩,rfl⟩;refine Z_2 ?_;refine ez (((l2,X2):List HI×CAd)) ?_ ?_ ?_
   ·exact⟨by simp only[hl1,hl2,ae,ai,ak];omega,by simp only[hl1,hl2,oR,ac,aa,aq,aO,aP,ay,hc3]⟩
   ·exact Zwk
   exact Zu
  refine Z_6 ?_;refine ZW ?_ ?_<;>intro hc5
  ·refine bX ⟨fun j=>List.elem j [14],qM b5 [.int .i64 op,.int .i64 dst,.int .i64 xa,.int .i64 xb,.int .u32 imm]⟩ Zk ?_;refine ZE 0 ?_;refine ZE 1 ?_;refine ZE 2 ?_;refine ZE 3 ?_;refine ZFe 4 0 ?_;refine ZFe 5 1 ?_;refine ZFe 9 4 ?_;refine iv 10 rfl Zk Zk Zk (bO Zrf (Zv rfl)) (by first|exact bW rfl|exact aC _ (bW rfl)|exact ah _ (bW rfl)|exact ah _ (ah _ (aC _ (bW rfl)))|exact ah _ (ah _ (ah _ (bW rfl)))) (bR (t:=294) Zh) rfl ?_;refine cN 11 rfl Zk Zk Zk (ce rfl rfl Zv0 rfl) rfl ?_;refine cw 6 Zk ?_;refine eK rfl (bO Zrf Zv0) (bS Zh rfl) rfl ?_;refine cN 7 rfl Zk Zk Zk (cy Zv0 Zv0 rfl) rfl ?_;refine cN 8 rfl Zk Zk Zk (eT Zv0 Zv0 rfl) rfl ?_;refine cN 12 rfl Zk Zk Zk (eT Zv0 Zv0 rfl) rfl ?_;refine cN 13 rfl Zk Zk Zk (ce rfl rfl (Zv rfl) (yi _ _ _)) rfl ?_;refine cw 14 Zk ?_;refine gn rfl rfl (dW (cdF S l1 fix X1) rfl (fun _ _=>rfl) Zi (fun w hi hin=>wP S l1 fix X1 (by first|omega|(simp only[hl1,ae,ai,ak];omega)) (dT S.pl n 9) 14 (IntKind.u32.wrap (4+S.p.Ia - 1 - imm)) w hin)) (fun _=>by rintro _ _ ⟨_,⟨l2,X2,hl2,rfl⟩,rfl⟩;exact bR (t:=294) Zh) rfl ?_;rintro _ _ ⟨_,⟨l2,X2,hl2,rfl⟩,rfl⟩;refine bN Zk ?_;refine Zo ?_;refine ez (((l2,X2):List HI×CAd)) ?_ ?_ ?_
   ·exact⟨by simp only[hl1,hl2,ae,ai,ak];omega,by simp only[hl1,hl2,oR,ac,aa,aq,aO,aP,ay,hc3,hc5]⟩
   ·exact Zwk
   exact Zu
  refine Z_6 ?_;refine ZW ?_ ?_<;>intro hc7
  ·refine bX ⟨fun j=>List.elem j [14],qM b5 [.int .i64 op,.int .i64 dst,.int .i64 xa,.int .i64 xb,.int .u32 imm]⟩ Zk ?_;refine ZE 0 ?_;refine ZE 1 ?_;refine ZE 2 ?_;refine ZE 3 ?_;refine ZFe 4 0 ?_;refine ZFe 5 2 ?_;refine ZFe 9 4 ?_;refine iv 10 rfl Zk Zk Zk (bO Zrf (Zv rfl)) (by first|exact bW rfl|exact aC _ (bW rfl)|exact ah _ (bW rfl)|exact ah _ (ah _ (aC _ (bW rfl)))|exact ah _ (ah _ (ah _ (bW rfl)))) (bR (t:=294) Zh) rfl ?_;refine cN 11 rfl Zk Zk Zk (ce rfl rfl Zv0 rfl) rfl ?_;refine cw 6 Zk ?_;refine eK rfl (bO Zrf Zv0) (bS Zh rfl) rfl ?_;refine cN 7 rfl Zk Zk Zk (cy Zv0 Zv0 rfl) rfl ?_;refine cN 8 rfl Zk Zk Zk (eT Zv0 Zv0 rfl) rfl ?_;refine cN 12 rfl Zk Zk Zk (eT Zv0 Zv0 rfl) rfl ?_;refine cN 13 rfl Zk Zk Zk (ce rfl rfl (Zv rfl) (yi _ _ _)) rfl ?_;refine cw 14 Zk ?_;refine gn rfl rfl (dW (cdF S l1 fix X1) rfl (fun _ _=>rfl) Zi (fun w hi hin=>wP S l1 fix X1 (by first|omega|(simp only[hl1,ae,ai,ak];omega)) (dT S.pl n 9) 13 (IntKind.u32.wrap (20+S.p.Ib - 1 - imm)) w hin)) (fun _=>by rintro _ _ ⟨_,⟨l2,X2,hl2,rfl⟩,rfl⟩;exact bR (t:=294) Zh) rfl ?_;rintro _ _ ⟨_,⟨l2,X2,hl2,rfl⟩,rfl⟩;refine bN Zk ?_;refine Zo ?_;refine ez (((l2,X2):List HI×CAd)) ?_ ?_ ?_
   ·exact⟨by simp only[hl1,hl2,ae,ai,ak];omega,by simp only[hl1,hl2,oR,ac,aa,aq,aO,aP,ay,hc3,hc5,hc7]⟩
   ·exact Zwk
   exact Zu
  refine Z_6 ?_;refine ZW ?_ ?_<;>intro hc9
  ·obtain⟨na,nb,rfl,rfl,⟨h1,h2⟩,h3,h4⟩:=hab (Or.inl hc9);refine Zs (bX ⟨fun j=>List.elem j [3,7],qM b5 [.int .i64 op,.int .i64 dst,.int .i64 na,.int .i64 nb,.int .u32 imm]⟩ Zk ?_);refine ZE 0 ?_;refine ZFe 1 2 ?_;refine iv 2 rfl Zk Zk Zk (bO Zrf (Zv rfl)) (by first|exact bW rfl|exact aC _ (bW rfl)|exact ah _ (bW rfl)|exact ah _ (ah _ (aC _ (bW rfl)))|exact ah _ (ah _ (ah _ (bW rfl)))) (bR (t:=294) Zh) rfl ?_;refine ZE 4 ?_;refine ZFe 5 3 ?_;refine iv 6 rfl Zk Zk Zk (bO Zrf (Zv rfl)) (by first|exact bW rfl|exact aC _ (bW rfl)|exact ah _ (bW rfl)|exact ah _ (ah _ (aC _ (bW rfl)))|exact ah _ (ah _ (ah _ (bW rfl)))) (bR (t:=294) Zh) rfl ?_;refine cw 3 Zk ?_;refine gn rfl rfl (dW (cdF S l1 fix X1) rfl (fun _ _=>rfl) Zi (fun w hi hin=>pm S l1 fix X1 (by first|omega|(simp only[hl1,ae,ai,ak];omega)) na 7 h1 h2 w hin (fun w' hk=>hK w' (hi.I3 Zi hk)))) (fun _=>by rintro _ _ ⟨_,⟨rfl,l2,X2,hl2,rfl⟩,rfl⟩;exact bR (t:=294) Zh) rfl ?_;rintro _ _ ⟨_,⟨rfl,l2,X2,hl2,rfl⟩,rfl⟩;refine cw 7 Zk ?_;refine gn rfl rfl (dW (cdF S l2 fix X2) rfl (fun _ _=>rfl) Zi (fun w hi hin=>pm S l2 fix X2 (by first|omega|(simp only[hl1,hl2,ae,ai,ak];omega)) nb 8 h3 h4 w hin (fun w' hk=>hK w' (hi.I3 Zi hk)))) (fun _=>by rintro _ _ ⟨_,⟨rfl,l3,X3,hl3,rfl⟩,rfl⟩;exact bR (t:=294) Zh) rfl ?_;rintro _ _ ⟨_,⟨rfl,l3,X3,hl3,rfl⟩,rfl⟩;refine ZE 8 ?_;refine ZE 9 ?_;refine bN Zk ?_;refine Z_8 ?_;refine ZcL (cdF S l3 fix X3) (fun w hi hin=>Ed S l3 fix X3 (by first|omega|(simp only[hl1,hl2,hl3,ae,ai,ak];omega)) imm (dT S.pl n 9) (dT S.pl na 7) (dT S.pl nb 8) w hin) ?_;rintro _ _ ⟨_,⟨l4,X4,hl4,rfl⟩,rfl⟩;refine Z_2 ?_;refine ez (((l4,X4):List HI×CAd)) ?_ ?_ ?_
   ·exact⟨by simp only[hl1,hl2,hl3,hl4,ae,ai,ak];omega,by simp only[hl1,hl2,hl3,hl4,oR,ac,aa,aq,aO,aP,ay,hc3,hc5,hc7,hc9]⟩
   ·exact Zwk
   exact Zu
  refine Z_6 ?_;refine ZW ?_ ?_<;>intro hc12
  ·obtain⟨na,nb,rfl,rfl,⟨h1,h2⟩,h3,h4⟩:=hab (Or.inr hc12);refine Zs (bX ⟨fun j=>List.elem j [3,7],qM b5 [.int .i64 op,.int .i64 dst,.int .i64 na,.int .i64 nb,.int .u32 imm]⟩ Zk ?_);refine ZE 0 ?_;refine ZFe 1 2 ?_;refine iv 2 rfl Zk Zk Zk (bO Zrf (Zv rfl)) (by first|exact bW rfl|exact aC _ (bW rfl)|exact ah _ (bW rfl)|exact ah _ (ah _ (aC _ (bW rfl)))|exact ah _ (ah _ (ah _ (bW rfl)))) (bR (t:=294) Zh) rfl ?_;refine ZE 4 ?_;refine ZFe 5 3 ?_;refine iv 6 rfl Zk Zk Zk (bO Zrf (Zv rfl)) (by first|exact bW rfl|exact aC _ (bW rfl)|exact ah _ (bW rfl)|exact ah _ (ah _ (aC _ (bW rfl)))|exact ah _ (ah _ (ah _ (bW rfl)))) (bR (t:=294) Zh) rfl ?_;refine cw 3 Zk ?_;refine gn rfl rfl (dW (cdF S l1 fix X1) rfl (fun _ _=>rfl) Zi (fun w hi hin=>pm S l1 fix X1 (by first|omega|(simp only[hl1,ae,ai,ak];omega)) na 7 h1 h2 w hin (fun w' hk=>hK w' (hi.I3 Zi hk)))) (fun _=>by rintro _ _ ⟨_,⟨rfl,l2,X2,hl2,rfl⟩,rfl⟩;exact bR (t:=294) Zh) rfl ?_;rintro _ _ ⟨_,⟨rfl,l2,X2,hl2,rfl⟩,rfl⟩;refine cw 7 Zk ?_;refine gn rfl rfl (dW (cdF S l2 fix X2) rfl (fun _ _=>rfl) Zi (fun w hi hin=>pm S l2 fix X2 (by first|omega|(simp only[hl1,hl2,ae,ai,ak];omega)) nb 8 h3 h4 w hin (fun w' hk=>hK w' (hi.I3 Zi hk)))) (fun _=>by rintro _ _ ⟨_,⟨rfl,l3,X3,hl3,rfl⟩,rfl⟩;exact bR (t:=294) Zh) rfl ?_;rintro _ _ ⟨_,⟨rfl,l3,X3,hl3,rfl⟩,rfl⟩;refine ZE 8 ?_;refine ZE 9 ?_;refine bN Zk ?_;refine Z_8 ?_;refine ZcL (cdF S l3 fix X3) (fun w hi hin=>GN S l3 fix X3 (by first|omega|(simp only[hl1,hl2,hl3,ae,ai,ak];omega)) imm (dT S.pl na 7) (dT S.pl nb 8) w hin) ?_;rintro _ _ ⟨_,⟨l4,X4,hl4,rfl⟩,rfl⟩;refine Z_6 ?_;refine dJ (dh rfl rfl Zrf Zrf rfl rfl rfl) rfl ?_;rintro _ _ ⟨b93,rfl,rfl⟩;refine ZcL (cdF S l4 fix X4) (fun w hi hin=>jQ S l4 fix X4 (by first|omega|(simp only[hl1,hl2,hl3,hl4,ae,ai,ak];omega)) [⟨2,dT S.pl n 9,10,0,0⟩] (some ⟨b93,0,none⟩) 1 (by simp) w hin (fun w' hk=>dm (hi.IP Zi (show Has _ (slv 298 5 (some ⟨b93,0,none⟩) 1 1 ([⟨2,dT S.pl n 9,10,0,0⟩].flatMap HI.cells))from Zh) hk))) ?_;rintro _ _ ⟨_,⟨l5,X5,hl5,rfl⟩,rfl⟩;refine Z_2 ?_;refine ez (((l5,X5):List HI×CAd)) ?_ ?_ ?_
   ·exact⟨by simp only[hl1,hl2,hl3,hl4,hl5,ae,ai,ak];omega,by simp only[hl1,hl2,hl3,hl4,hl5,oR,ac,aa,aq,aO,aP,ay,hc3,hc5,hc7,hc9,hc12]⟩
   ·exact Zwk
   exact Zu
  refine Z_2 ?_;refine ez (((l1,X1):List HI×CAd)) ?_ ?_ ?_
  ·exact⟨by simp only[hl1,ae,ai,ak];omega,by simp only[hl1,oR,ac,aa,aq,aO,aP,ay,hc3,hc5,hc7,hc9,hc12]⟩
  ·exact Zwk
  exact Zu
 rintro⟨m9,s9⟩ ⟨hs8,hs9⟩;dsimp only at hs8 hs9⊢;refine Z_4 ?_;refine ZcL (cdF S m9 fix s9) (fun w hi hin=>GJ S m9 fix s9 (by first|omega|(simp only[ae,ai,ak];omega)) n (dT S.pl n 9) hn hn2 w hin (fun w' hk=>hK w' (hi.I3 Zi hk))) ?_;rintro _ _ ⟨_,⟨l21,X21,hl21,rfl⟩,rfl⟩;refine Zn (fE (cs':=cdF S l21 fix X21) (.inr rfl) Zu rfl ?_);exact⟨l21,X21,(by rw[hl21,hs9]),rfl⟩
theorem wK(hl:l.length≤10000)(base f word:Int)(A:Option Addr)(c:Nat)(o:List Int)(ho:o.length≤1000)(hoj:∀j,j∈o→∃n:Nat,j=n∧n<S.pl.reg.length∧n<S.pl.slot.length)(w:World)(hi:Inv w (bK (cdF S l fix X)) (cdF S l fix X) w)(hK:∀w',dR (bK (cdF S l fix X)) w w'→Ex S w')(hO:∀w',dR (bK (cdF S l fix X)) w w'→Rd w' .i64 A o.length c o):
  Ctr prog 172 [.pointer (some ⟨S.b,0,none⟩),.int .i64 base,.int .u32 f,.int .u32 word,.slice A o.length c] w (cdF S l fix X) (fun r9 cs=>∃l' X',l'=l++gV S.pl base f word o∧cs=cdF S l' (fix) X'):=by
 refine bL func172 rfl ntmps172 rfl hi ?_;refine Z_9 ?_;refine cG (fun q:Nat×List HI×CAd=>[(0,.pointer (some ⟨S.b,0,none⟩)),(1,.int .i64 base),(2,.int .u32 f),(3,.int .u32 word),(4,.slice A o.length c),(12,.slice A o.length c),(13,.int .i64 o.length),(14,.int .i64 (q.1:Int))]) (fun q=>cdF S q.2.1 fix q.2.2) (fun q=>q.1≤o.length∧q.2.1=l++sY S.pl base f (o.take q.1) 0) (fun q=>o.length - q.1) (⟨0,l,X⟩) ?_ ?_ ?_ ?_
 ·exact⟨ax _,(ay l).symm⟩
 ·exact Zwk
 ·exact Zu
 rintro⟨k,l0,X0⟩ ⟨hk,hl0⟩;dsimp only at hk hl0⊢;have ol:=uC S.pl base f (o.take k) 0;have ll:l0.length≤l.length+2*o.length:=(by rw[hl0,ae];rw[aF]at ol;omega);refine Z_6 ?_;refine ZW ?_ ?_<;>intro hc1
 ·simp only[ap]at hc1;obtain⟨ad,had⟩:∃ad,A=some ad:=Option.ne_none_iff_exists'.1 (fun e=>by have:=((hO w (dR.refl _ _)).nil e).1;omega);obtain⟨j,hj⟩:∃j,o[k]? =some j:=⟨_,ao (show k<o.length by omega)⟩;obtain⟨n,rfl,h1,h2⟩:=hoj j (aJ hj);have htk:o.take (k+1)=o.take k++[(n:Int)]:=(by rw[List.take_add_one,hj];rfl);have hO2:∀w',dR (bK (cdF S l fix X)) w w'→RdV w' 1 (some ad) o.length c (ints .i64 o):=fun w' hk=>had▸hO w' hk
  have hol:(o.take k).length=k:=(by rw[aF];omega);have gA:=iY S.pl n 7;refine Z_7 ?_;refine Zy (eQ (j:=k) had rfl Zrf (Zv rfl) (Zv rfl) Zrf (fun _=>by omega)) ?_;refine dX (bO Zrf Zv0) (jo (v:= .int .i64 n) hO2 (cZ hj)) rfl ?_;refine Z_9 ?_;refine Zy (ce rfl rfl Zv0 rfl) ?_;refine Zy (cy Zv0 Zv0 rfl) ?_;refine Z_2 ?_;refine ZcL (cdF S l0 fix X0) (fun w hi hin=>pm S l0 fix X0 (by first|omega|(simp only[ae,ai,ak];omega)) n 7 h1 h2 w hin (fun w' hk=>hK w' (hi.I3 Zi hk))) ?_;rintro _ _ ⟨_,⟨rfl,l1,X1,hl1,rfl⟩,rfl⟩;refine ZcL (cdF S l1 fix X1) (fun w hi hin=>tC S l1 fix X1 (by first|omega|(simp only[hl1,ae,ai,ak];omega)) base (IntKind.u32.wrap (f+IntKind.u32.wrap (k:Int))) (dT S.pl n 7) w hin) ?_;rintro _ _ ⟨_,⟨l2,X2,hl2,rfl⟩,rfl⟩;refine Z_4 ?_;refine Zy (cy Zv0 Zv0 Zl) ?_;refine Z_2 ?_;refine ez ((⟨k+1,l2,X2⟩:Nat×List HI×CAd)) ?_ ?_ ?_
  ·exact⟨⟨by omega,by dsimp only;rw[htk,vS,hol,bl,hl2,hl1,hl0];simp only[aq]⟩,by dsimp only;omega⟩
  ·exact Zwk
  exact Zu
 simp only[aj]at hc1;obtain rfl:k=o.length:=by omega
 rw[bG]at hl0;refine eJ ?_;refine Zy (ce rfl rfl Zv0 rfl) ?_;refine ZcL (cdF S l0 fix X0) (fun w hi hin=>j8 S l0 fix X0 (by first|omega|(simp only[ae,ai,ak];omega)) 11 (IntKind.u32.wrap (o.length:Int)) w hin) ?_;rintro _ _ ⟨_,⟨l11,X11,hl11,rfl⟩,rfl⟩;refine Z_6 ?_;refine ZcL (cdF S l11 fix X11) (fun w hi hin=>gK S l11 fix X11 (by first|omega|(simp only[hl11,ae,ai,ak];omega)) 3 11 11 base w hin) ?_;rintro _ _ ⟨_,⟨l12,X12,hl12,rfl⟩,rfl⟩;refine Z_5 ?_;refine ZcL (cdF S l12 fix X12) (fun w hi hin=>tC S l12 fix X12 (by first|omega|(simp only[hl11,hl12,ae,ai,ak];omega)) 15 word 11 w hin) ?_;rintro _ _ ⟨_,⟨l13,X13,hl13,rfl⟩,rfl⟩;refine Zn (fE (cs':=cdF S l13 fix X13) (.inr rfl) Zu rfl ?_);exact⟨l13,X13,(by simp only[hl11,hl12,hl13,hl0,gV,ac,aa,aq,aO,aP,ay]),rfl⟩
theorem GF(hl:l.length≤10000)(base word Ic high:Int)(o:Nat)(hb1:0≤Ic∧Ic≤100000)(hb2: -100000≤high∧high≤100000)(hb3:o≤100000)(hf:fix.length≤100)(w:World)(hi:Inv w (bK (cdF S l fix X)) (cdF S l fix X) w):
  Ctr prog 170 [.pointer (some ⟨S.b,0,none⟩),.int .i64 base,.int .u32 word,.int .i64 Ic,.int .i64 high,.int .i64 o] w (cdF S l fix X) (fun r9 cs=>r9= .bool (!decide (iK Ic high o<Ic))∧∃l' f' X',l'=l++(bif(!decide (iK Ic high o<Ic))then mQ 0 base word Ic (iK Ic high o)else[])∧f'=fix++(bif(!decide (iK Ic high o<Ic))then[((l.length+3:Nat):Int),((l.length+6:Nat):Int)]else[])∧cs=cdF S l' f' X'):=by
 have hm:(if(16:Int)+Ic - o<16 - high then(16:Int)+Ic - o else 16 - high)=iK Ic high o:=rfl;obtain⟨mo,hmo⟩:=Zgn (iK Ic high o);rw[hmo]at hm⊢;refine bL func170 rfl ntmps170 rfl hi ?_;refine Z_8 ?_;refine Zy (eT Zv0 Zv0 Zl) ?_;refine ZA ?_;refine Zy (cy Zv0 Zv0 Zl) ?_;refine ZA ?_;refine Zy (eT Zv0 Zv0 Zl) ?_;refine Zy (y_min Zv0 Zv0 hm) ?_;refine eu ?_;refine ZW ?_ ?_<;>intro hc2
 ·have hok:(!decide (mo<Ic))=false:=(by rw[hc2];rfl);rw[hok];refine Z_7 ?_;refine Zrb (cdF S l fix X) ?_;exact⟨rfl,l,fix,X,(ay l).symm,(ay fix).symm,rfl⟩
 have hok:(!decide (mo<Ic))=true:=(by rw[hc2];rfl);rw[hok];refine Z_7 ?_;refine ZcL (cdF S l fix X) (fun w hi hin=>wP S l fix X (by first|omega|(simp only[ae,ai,ak];omega)) base 15 word w hin) ?_;rintro _ _ ⟨_,⟨l1,X1,hl1,rfl⟩,rfl⟩;refine Z_6 ?_;refine Zy (ce rfl rfl Zv0 rfl) ?_;refine ZcL (cdF S l1 fix X1) (fun w hi hin=>j8 S l1 fix X1 (by first|omega|(simp only[hl1,ae,ai,ak];omega)) 11 (IntKind.u32.wrap Ic) w hin) ?_;rintro _ _ ⟨_,⟨l2,X2,hl2,rfl⟩,rfl⟩;refine Z_6 ?_;refine ZcL (cdF S l2 fix X2) (fun w hi hin=>gK S l2 fix X2 (by first|omega|(simp only[hl1,hl2,ae,ai,ak];omega)) 12 12 base 11 w hin) ?_;rintro _ _ ⟨_,⟨l3,X3,hl3,rfl⟩,rfl⟩;refine Z_5 ?_;refine ZcL (cdF S l3 fix X3) (fun w hi hin=>tB S l3 fix X3 (by first|omega|(simp only[hl1,hl2,hl3,ae,ai,ak];omega)) 12 (by first|omega|(simp only[ae,ai,ak];omega)) w hin) ?_;rintro _ _ ⟨_,⟨l4,X4,hl4,rfl⟩,rfl⟩;refine Z_6 ?_;refine Zy (ce rfl rfl Zv0 rfl) ?_;refine ZcL (cdF S l4 (fix++[(l3.length:Int)]) X4) (fun w hi hin=>j8 S l4 (fix++[(l3.length:Int)]) X4 (by first|omega|(simp only[hl1,hl2,hl3,hl4,ae,ai,ak];omega)) 12 (IntKind.u32.wrap mo) w hin) ?_;rintro _ _ ⟨_,⟨l5,X5,hl5,rfl⟩,rfl⟩;refine Z_6 ?_;refine ZcL (cdF S l5 (fix++[(l3.length:Int)]) X5) (fun w hi hin=>gK S l5 (fix++[(l3.length:Int)]) X5 (by first|omega|(simp only[hl1,hl2,hl3,hl4,hl5,ae,ai,ak];omega)) 12 12 12 base w hin) ?_;rintro _ _ ⟨_,⟨l6,X6,hl6,rfl⟩,rfl⟩;refine Z_5 ?_;refine ZcL (cdF S l6 (fix++[(l3.length:Int)]) X6) (fun w hi hin=>tB S l6 (fix++[(l3.length:Int)]) X6 (by first|omega|(simp only[hl1,hl2,hl3,hl4,hl5,hl6,ae,ai,ak];omega)) 12 (by first|omega|(simp only[ae,ai,ak];omega)) w hin) ?_;rintro _ _ ⟨_,⟨l7,X7,hl7,rfl⟩,rfl⟩;refine Z_7 ?_;refine ZcL (cdF S l7 ((fix++[(l3.length:Int)])++[(l6.length:Int)]) X7) (fun w hi hin=>gK S l7 ((fix++[(l3.length:Int)])++[(l6.length:Int)]) X7 (by first|omega|(simp only[hl1,hl2,hl3,hl4,hl5,hl6,hl7,ae,ai,ak];omega)) 4 base base 11 w hin) ?_;rintro _ _ ⟨_,⟨l8,X8,hl8,rfl⟩,rfl⟩;refine Z_8 ?_;refine Zrb (cdF S l8 ((fix++[(l3.length:Int)])++[(l6.length:Int)]) X8) ?_;exact⟨rfl,l8,_,X8,(by simp only[hl1,hl2,hl3,hl4,hl5,hl6,hl7,hl8,mQ,ac,aq,aO,aP]),(by simp only[hl1,hl2,hl3,hl4,hl5,hl6,hl7,hl8,ac,aq,aO,aP,ae,ai,ak]),rfl⟩
end
end Go.Proofs.YtakodpimdalajaaGreatDoor
