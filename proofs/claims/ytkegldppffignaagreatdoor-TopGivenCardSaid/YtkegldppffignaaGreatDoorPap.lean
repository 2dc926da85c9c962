/- Lemmas. -/
import Derived.Test.YtkegldppffignaaGreatDoorPaa
import Derived.Test.YtkegldppffignaaGreatDoorPab
import Derived.Test.YtkegldppffignaaGreatDoorPai
import Derived.Test.YtkegldppffignaaGreatDoorPao
set_option linter.unusedSimpArgs false
set_option linter.unusedVariables false
set_option maxRecDepth 100000
set_option maxHeartbeats 4000000
namespace Go.Ink
open Go.RowKit
theorem Inv.Ns{S:List Nat}{cs cin rest:List bL}{w0 w w':World}(h:Inv w0 S cs w)(hp:ja cin cs rest)(hk:dG (bM cin) w w'):dG S w0 w':=
 h.Oi (λc hc=>hp.perm.symm.subset (List.mem_append_left _ hc)) hk
theorem eQ{k:IntKind}{l:List Int}{n:Nat}(h:n<l.length):(ints k l)[n]? =some (.int k (l.getD n 0)):=cR (by simp[ai h])
section
variable {C:Cx} {Q:lK} {fr:Fr} {cs:List bL} {x y:Operand} {d:Option Nat} {T:TypeId} {ty:TypeId} {pos:String} {af:Array Edge} {gd:Option (Nat×Bool)} {g:Bool} {k:IntKind}
theorem fg{A:Option Addr}{ad:Addr}(hA:A=some ad){n c j:Nat}{i:Int}{e sz:Nat}(hT:C.P.underlying T=some (.slice e))(hs:∀w,(sizeOf e).run C.P w= .ok sz w)(hx:Ev fr g x (.slice A n c))(hy:Ev fr g y (.int k i))(hj:g=true->i=(j:Int))(h1:g=true->j<n):
  OpY C ⟨d,.indexAddr T x y,ty,pos,af,gd⟩ fr g Any (.pointer (some (ad.add (j*sz)))):=dX (n:=n) (c:=c) hT hs (hA▸hx) hy hj h1
end
theorem jz(pl:Pl)(n into:Int):(jN pl n into).length<=1:=by unfold jN;cases pl.inR n<;>simp
theorem Hc(pl:Pl)(n r:Int):(jq pl n r).length<=1:=by unfold jq;cases pl.inR n<;>simp
theorem sa(op rd a b:Int):(vV op rd a b).length<=3:=by unfold vV;cases xe op<;>simp[Mn]
theorem ze(op a b:Int):(ma op a b).length<=24:=by
 have:=sa op 9 a b;unfold ma gt;cases op==16<;>cases op==17||op==25<;>simp[kF,kE,gY,io,ur]<;>omega
theorem xM(x:Int):IntKind.u32.wrap (IntKind.i64.wrap (64+x))=IntKind.u32.wrap (64+x):=by rw[aE,aE,bK];omega
end Go.Ink
namespace Go.Proofs.YtkegldppffignaaGreatDoor
open Go.RowKit Go.Ink Go.Proofs.Tryz
attribute [local irreducible] OpY bS
theorem host_ok(op:Int)(w:World):Ctr prog 256 [.int .u32 op] w [] (λr cs=>r= .int .i64 (kV op)/\cs=[]):=by
 refine bN func256 rfl ntmps256 rfl (Inv.start w) ?_;refine Bn ?_;refine ZW ?_ ?_<;>intro hc2
 .refine fX ?_;exact⟨by unfold kV;rw[hc2];rfl,rfl⟩
 refine Z_6 ?_;refine ZW ?_ ?_<;>intro hc4
 .refine fX ?_;exact⟨by unfold kV;rw[hc2,hc4];rfl,rfl⟩
 refine Z_6 ?_;refine ZW ?_ ?_<;>intro hc6
 .refine fX ?_;exact⟨by unfold kV;rw[hc2,hc4,hc6];rfl,rfl⟩
 refine Z_6 ?_;refine ZW ?_ ?_<;>intro hc8
 .refine fX ?_;exact⟨by unfold kV;rw[hc2,hc4,hc6,hc8];rfl,rfl⟩
 refine Z_6 ?_;refine ZW ?_ ?_<;>intro hc10
 .refine fX ?_;exact⟨by unfold kV;rw[hc2,hc4,hc6,hc8,hc10];rfl,rfl⟩
 refine Z_6 ?_;refine ZW ?_ ?_<;>intro hc12
 .refine fX ?_;exact⟨by unfold kV;rw[hc2,hc4,hc6,hc8,hc10,hc12];rfl,rfl⟩
 refine Z_6 ?_;refine ZW ?_ ?_<;>intro hc14
 .refine fX ?_;exact⟨by unfold kV;rw[hc2,hc4,hc6,hc8,hc10,hc12,hc14];rfl,rfl⟩
 refine Z_9 ?_;refine Zra ?_;exact⟨by unfold kV;rw[hc2,hc4,hc6,hc8,hc10,hc12,hc14];rfl,rfl⟩
theorem KW(op:Int)(w:World):Ctr prog 233 [.int .i64 op] w [] (λr cs=>r= .tuple #[.int .u32 (fU op),.bool (ip op)]/\cs=[]):=by
 refine bN func233 rfl ntmps233 rfl (Inv.start w) ?_;refine Je ?_;refine ZW ?_ ?_<;>intro hc2
 .refine Z_9 ?_;refine i9 ?_;exact⟨by unfold fU ip;rw[hc2];rfl,rfl⟩
 refine Z_6 ?_;refine ZW ?_ ?_<;>intro hc4
 .refine Z_9 ?_;refine i9 ?_;exact⟨by unfold fU ip;rw[hc2,hc4];rfl,rfl⟩
 refine Z_6 ?_;refine ZW ?_ ?_<;>intro hc6
 .refine Z_9 ?_;refine i9 ?_;exact⟨by unfold fU ip;rw[hc2,hc4,hc6];rfl,rfl⟩
 refine Z_6 ?_;refine ZW ?_ ?_<;>intro hc8
 .refine Z_9 ?_;refine i9 ?_;exact⟨by unfold fU ip;rw[hc2,hc4,hc6,hc8];rfl,rfl⟩
 refine dS ?_;refine i9 ?_;exact⟨by unfold fU ip;rw[hc2,hc4,hc6,hc8];rfl,rfl⟩
section
variable (S:CdS) (l:List HI) (fix:List Int) (X:CAd)
theorem cto_ok(hl:l.length<=20000)(n:Nat)(hn:n<S.pl.reg.length)(w:World)(hi:Inv w (bM (cdF S l fix X)) (cdF S l fix X) w)(hK:∀w',dG (bM (cdF S l fix X)) w w'->Jc S w'):
  Ctr prog 227 [.pointer (some ⟨S.b,0,none⟩),.int .i64 n] w (cdF S l fix X) (λr9 cs=>r9= .int .i64 (et S.pl n 9)/\∃l' X',l'=l++[]/\cs=cdF S l' (fix) X'):=by
 have hreg0:=(hK w (dG.refl _ _)).reg;obtain⟨ag,hag⟩:∃ag,S.Ag=some ag:=Option.ne_none_iff_exists'.1 (λe=>by have:=(hreg0.nil e).1;omega);have hreg:∀w',dG (bM (cdF S l fix X)) w w'->RdV w' 1 (some ag) S.pl.reg.length S.cg (ints .i64 S.pl.reg):=λw' hk=>hag▸(hK w' hk).reg
 refine bN func227 rfl ntmps227 rfl hi ?_;refine gy ?_;refine Zy (fg (j:=n) hag rfl Zrf Zv0 Zv0 Zrf (λ_=>hn)) ?_;refine dN (bQ Zrf Zv0) (j7 (v:= .int .i64 (S.pl.r n)) hreg (eQ hn)) rfl ?_;refine Z_9 ?_;refine ZW ?_ ?_<;>intro hc2
 .have hr:S.pl.inR n=true:=hc2;refine Z_8 ?_;refine Zrb (cdF S l fix X) ?_;exact⟨by unfold et;rw[hr];rfl,l,X,(by simp only[ac,aa,ap,aN,aO,az]),rfl⟩
 have hr:S.pl.inR n=false:=hc2;refine Z_8 ?_;refine Zrb (cdF S l fix X) ?_;exact⟨by unfold et;rw[hr];rfl,l,X,(by simp only[ac,aa,ap,aN,aO,az]),rfl⟩
theorem qH(hl:l.length<=20000)(n:Nat)(into:Int)(hn:n<S.pl.reg.length)(hn2:n<S.pl.slot.length)(w:World)(hi:Inv w (bM (cdF S l fix X)) (cdF S l fix X) w)(hK:∀w',dG (bM (cdF S l fix X)) w w'->Jc S w'):
  Ctr prog 228 [.pointer (some ⟨S.b,0,none⟩),.int .i64 n,.int .i64 into] w (cdF S l fix X) (λr9 cs=>r9= .int .i64 (et S.pl n into)/\∃l' X',l'=l++jN S.pl n into/\cs=cdF S l' (fix) X'):=by
 have hreg0:=(hK w (dG.refl _ _)).reg;obtain⟨ag,hag⟩:∃ag,S.Ag=some ag:=Option.ne_none_iff_exists'.1 (λe=>by have:=(hreg0.nil e).1;omega);have hreg:∀w',dG (bM (cdF S l fix X)) w w'->RdV w' 1 (some ag) S.pl.reg.length S.cg (ints .i64 S.pl.reg):=λw' hk=>hag▸(hK w' hk).reg
 have hslot0:=(hK w (dG.refl _ _)).slot;obtain⟨asl,has⟩:∃ag,S.As=some ag:=Option.ne_none_iff_exists'.1 (λe=>by have:=(hslot0.nil e).1;omega);have hslot:∀w',dG (bM (cdF S l fix X)) w w'->RdV w' 1 (some asl) S.pl.slot.length S.cs (ints .i64 S.pl.slot):=λw' hk=>has▸(hK w' hk).slot
 refine bN func228 rfl ntmps228 rfl hi ?_;refine gy ?_;refine Zy (fg (j:=n) hag rfl Zrf Zv0 Zv0 Zrf (λ_=>hn)) ?_;refine dN (bQ Zrf Zv0) (j7 (v:= .int .i64 (S.pl.r n)) hreg (eQ hn)) rfl ?_;refine Z_9 ?_;refine ZW ?_ ?_<;>intro hc2
 .have hr:S.pl.inR n=true:=hc2;have e1:jN S.pl n into=[]:=by unfold jN;rw[hr];rfl
  refine Z_8 ?_;refine Zrb (cdF S l fix X) ?_;exact⟨by unfold et;rw[hr];rfl,l,X,(by simp only[e1,ac,aa,ap,aN,aO,az]),rfl⟩
 have hr:S.pl.inR n=false:=hc2;have e1:jN S.pl n into=[⟨14,into,15,0,IntKind.u32.wrap (64+S.pl.s n)⟩]:=by unfold jN;rw[hr];rfl
 refine gR ?_;refine Zy (fg (j:=n) has rfl Zrf Zv0 Zv0 Zrf (λ_=>hn2)) ?_;refine dN (bQ Zrf Zv0) (j7 (v:= .int .i64 (S.pl.s n)) hslot (eQ hn2)) rfl ?_;refine Zy (df Zv0 Zv0 rfl) ?_;refine Zy (ce rfl rfl (Zv rfl) (xM _)) ?_;refine ZcL (cdF S l fix X) (λw hi hin=>zr S l fix X zC into 15 (IntKind.u32.wrap (64+S.pl.s n)) w hin) ?_;rintro _ _ ⟨_,⟨l1,X1,hl1,rfl⟩,rfl⟩;refine Z_9 ?_;refine Zrb (cdF S l1 fix X1) ?_;exact⟨by unfold et;rw[hr];rfl,l1,X1,(by simp only[hl1,e1,ac,aa,ap,aN,aO,az]),rfl⟩
theorem LG(hl:l.length<=20000)(n:Nat)(r:Int)(hn:n<S.pl.reg.length)(hn2:n<S.pl.slot.length)(w:World)(hi:Inv w (bM (cdF S l fix X)) (cdF S l fix X) w)(hK:∀w',dG (bM (cdF S l fix X)) w w'->Jc S w'):
  Ctr prog 231 [.pointer (some ⟨S.b,0,none⟩),.int .i64 n,.int .i64 r] w (cdF S l fix X) (λr9 cs=>∃l' X',l'=l++jq S.pl n r/\cs=cdF S l' (fix) X'):=by
 have hreg0:=(hK w (dG.refl _ _)).reg;obtain⟨ag,hag⟩:∃ag,S.Ag=some ag:=Option.ne_none_iff_exists'.1 (λe=>by have:=(hreg0.nil e).1;omega);have hreg:∀w',dG (bM (cdF S l fix X)) w w'->RdV w' 1 (some ag) S.pl.reg.length S.cg (ints .i64 S.pl.reg):=λw' hk=>hag▸(hK w' hk).reg
 have hslot0:=(hK w (dG.refl _ _)).slot;obtain⟨asl,has⟩:∃ag,S.As=some ag:=Option.ne_none_iff_exists'.1 (λe=>by have:=(hslot0.nil e).1;omega);have hslot:∀w',dG (bM (cdF S l fix X)) w w'->RdV w' 1 (some asl) S.pl.slot.length S.cs (ints .i64 S.pl.slot):=λw' hk=>has▸(hK w' hk).slot
 refine bN func231 rfl ntmps231 rfl hi ?_;refine Z_8 ?_;refine Zy (fg (j:=n) hag rfl Zrf Zv0 Zv0 Zrf (λ_=>hn)) ?_;refine dN (bQ Zrf Zv0) (j7 (v:= .int .i64 (S.pl.r n)) hreg (eQ hn)) rfl ?_;refine Z_3 ?_;refine ZW ?_ ?_<;>intro hc0
 .have hr:S.pl.inR n=false:=by unfold Pl.inR;rw[aj]at hc0;rw[ah];omega
  have e1:jq S.pl n r=[⟨15,0,15,r,IntKind.u32.wrap (64+S.pl.s n)⟩]:=by unfold jq;rw[hr];rfl
  refine Z_8 ?_;refine Zy (fg (j:=n) has rfl Zrf Zv0 Zv0 Zrf (λ_=>hn2)) ?_;refine dN (bQ Zrf Zv0) (j7 (v:= .int .i64 (S.pl.s n)) hslot (eQ hn2)) rfl ?_;refine Zy (df Zv0 Zv0 rfl) ?_;refine Zy (ce rfl rfl (Zv rfl) (xM _)) ?_;refine ZA ?_;refine ZcL (cdF S l fix X) (λw hi hin=>vN S l fix X zC 15 (IntKind.u32.wrap (64+S.pl.s n)) r w hin) ?_;rintro _ _ ⟨_,⟨l1,X1,hl1,rfl⟩,rfl⟩;refine Zn (jb (cs':=cdF S l1 fix X1) (.inr rfl) Zu rfl ?_);exact⟨l1,X1,(by simp only[hl1,e1,ac,aa,ap,aN,aO,az]),rfl⟩
 have hr:S.pl.inR n=true:=by unfold Pl.inR;rw[ah]at hc0;rw[aj];omega
 have e1:jq S.pl n r=[]:=by unfold jq;rw[hr];rfl
 refine Zc (jb (cs':=cdF S l fix X) (.inr rfl) Zu rfl ?_);exact⟨l,X,(by simp only[e1,ac,aa,ap,aN,aO,az]),rfl⟩
theorem clow_ok(hl:l.length<=40000)(r:Int)(w:World)(hi:Inv w (bM (cdF S l fix X)) (cdF S l fix X) w):
  Ctr prog 257 [.pointer (some ⟨S.b,0,none⟩),.int .i64 r] w (cdF S l fix X) (λr9 cs=>∃l' X',l'=l++Mn r/\cs=cdF S l' (fix) X'):=by
 refine bN func257 rfl ntmps257 rfl hi ?_;refine Z_3 ?_;refine ZcL (cdF S l fix X) (λw hi hin=>kW S l fix X zC 12 4294967295 w hin) ?_;rintro _ _ ⟨_,⟨l1,X1,hl1,rfl⟩,rfl⟩;refine Z_6 ?_;refine ZcL (cdF S l1 fix X1) (λw hi hin=>ii S l1 fix X1 ER 5 r r 12 w hin) ?_;rintro _ _ ⟨_,⟨l2,X2,hl2,rfl⟩,rfl⟩;refine Zn (jb (cs':=cdF S l2 fix X2) (.inr rfl) Zu rfl ?_);exact⟨l2,X2,(by simp only[hl1,hl2,Mn,ac,aa,ap,aN,aO,az]),rfl⟩
theorem vO(hl:l.length<=40000)(rd r:Int)(w:World)(hi:Inv w (bM (cdF S l fix X)) (cdF S l fix X) w):
  Ctr prog 258 [.pointer (some ⟨S.b,0,none⟩),.int .i64 rd,.int .i64 r] w (cdF S l fix X) (λr9 cs=>∃l' X',l'=l++io rd r/\cs=cdF S l' (fix) X'):=by
 refine bN func258 rfl ntmps258 rfl hi ?_;refine Z_3 ?_;refine ZcL (cdF S l fix X) (λw hi hin=>kW S l fix X zC 12 31 w hin) ?_;rintro _ _ ⟨_,⟨l1,X1,hl1,rfl⟩,rfl⟩;refine Z_6 ?_;refine ZcL (cdF S l1 fix X1) (λw hi hin=>ii S l1 fix X1 ER 9 rd r 12 w hin) ?_;rintro _ _ ⟨_,⟨l2,X2,hl2,rfl⟩,rfl⟩;refine Zn (jb (cs':=cdF S l2 fix X2) (.inr rfl) Zu rfl ?_);exact⟨l2,X2,(by simp only[hl1,hl2,io,ac,aa,ap,aN,aO,az]),rfl⟩
theorem uf(hl:l.length<=40000)(r up:Int)(w:World)(hi:Inv w (bM (cdF S l fix X)) (cdF S l fix X) w):
  Ctr prog 259 [.pointer (some ⟨S.b,0,none⟩),.int .i64 r,.int .u32 up] w (cdF S l fix X) (λr9 cs=>∃l' X',l'=l++ur r up/\cs=cdF S l' (fix) X'):=by
 refine bN func259 rfl ntmps259 rfl hi ?_;refine Z_4 ?_;refine ZcL (cdF S l fix X) (λw hi hin=>kW S l fix X zC 12 up w hin) ?_;rintro _ _ ⟨_,⟨l1,X1,hl1,rfl⟩,rfl⟩;refine Z_7 ?_;refine ZcL (cdF S l1 fix X1) (λw hi hin=>ii S l1 fix X1 ER 8 r r 12 w hin) ?_;rintro _ _ ⟨_,⟨l2,X2,hl2,rfl⟩,rfl⟩;refine Z_5 ?_;refine ZcL (cdF S l2 fix X2) (λw hi hin=>ii S l2 fix X2 (by first|omega|(simp only[hl1,hl2,ae,ak,ao];omega)) 6 10 10 r w hin) ?_;rintro _ _ ⟨_,⟨l3,X3,hl3,rfl⟩,rfl⟩;refine Zn (jb (cs':=cdF S l3 fix X3) (.inr rfl) Zu rfl ?_);exact⟨l3,X3,(by simp only[hl1,hl2,hl3,ur,ac,aa,ap,aN,aO,az]),rfl⟩
theorem IT(hl:l.length<=30000)(op rd a b:Int)(w:World)(hi:Inv w (bM (cdF S l fix X)) (cdF S l fix X) w):
  Ctr prog 229 [.pointer (some ⟨S.b,0,none⟩),.int .u32 op,.int .i64 rd,.int .i64 a,.int .i64 b] w (cdF S l fix X) (λr9 cs=>∃l' X',l'=l++vV op rd a b/\cs=cdF S l' (fix) X'):=by
 refine bN func229 rfl ntmps229 rfl hi ?_;refine Z_4 ?_;refine ZSe (λw hi=>host_ok op w) ?_;refine Z_3 ?_;refine ZcL (cdF S l fix X) (λw hi hin=>ii S l fix X zC (kV op) rd a b w hin) ?_;rintro _ _ ⟨_,⟨l1,X1,hl1,rfl⟩,rfl⟩;refine rj ?_;refine ZW ?_ ?_<;>intro hc3
 .refine Z_2 ?_;refine bW rfl (hc3) ?_;refine Z_2 ?_;refine jb (cs':=cdF S l1 fix X1) (.inr rfl) Zu rfl ?_;exact⟨l1,X1,(by simp only[hl1,vV,xe,Bool.or_true,Bool.true_or,Bool.or_false,Bool.false_or,hc3,ac,aa,ap,aN,aO,az]),rfl⟩
 refine Z_6 ?_;refine ZW ?_ ?_<;>intro hc4
 .refine Z_2 ?_;refine bW rfl (hc4) ?_;refine Z_2 ?_;refine jb (cs':=cdF S l1 fix X1) (.inr rfl) Zu rfl ?_;exact⟨l1,X1,(by simp only[hl1,vV,xe,Bool.or_true,Bool.true_or,Bool.or_false,Bool.false_or,hc3,hc4,ac,aa,ap,aN,aO,az]),rfl⟩
 refine Z_6 ?_;refine ZW ?_ ?_<;>intro hc5
 .refine Z_2 ?_;refine bW rfl (hc5) ?_;refine Z_2 ?_;refine jb (cs':=cdF S l1 fix X1) (.inr rfl) Zu rfl ?_;exact⟨l1,X1,(by simp only[hl1,vV,xe,Bool.or_true,Bool.true_or,Bool.or_false,Bool.false_or,hc3,hc4,hc5,ac,aa,ap,aN,aO,az]),rfl⟩
 refine Z_5 ?_;refine ZW ?_ ?_<;>intro hc6
 .refine Z_2 ?_;refine jb (cs':=cdF S l1 fix X1) (.inr rfl) Zu rfl ?_;exact⟨l1,X1,(by simp only[hl1,vV,xe,Bool.or_true,Bool.true_or,Bool.or_false,Bool.false_or,hc3,hc4,hc5,hc6,ac,aa,ap,aN,aO,az]),rfl⟩
 refine Z_3 ?_;refine ZcL (cdF S l1 fix X1) (λw hi hin=>clow_ok S l1 fix X1 ER rd w hin) ?_;rintro _ _ ⟨_,⟨l2,X2,hl2,rfl⟩,rfl⟩;refine Z_2 ?_;refine jb (cs':=cdF S l2 fix X2) (.inr rfl) Zu rfl ?_;exact⟨l2,X2,(by simp only[hl1,hl2,vV,xe,Bool.or_true,Bool.true_or,Bool.or_false,Bool.false_or,hc3,hc4,hc5,hc6,ac,aa,ap,aN,aO,az]),rfl⟩
theorem LM(hl:l.length<=20000)(op a b:Int)(w:World)(hi:Inv w (bM (cdF S l fix X)) (cdF S l fix X) w):
  Ctr prog 230 [.pointer (some ⟨S.b,0,none⟩),.int .u32 op,.int .i64 a,.int .i64 b] w (cdF S l fix X) (λr9 cs=>∃l' X',l'=l++ma op a b/\cs=cdF S l' (fix) X'):=by
 have ha:=sa op 9 a b;have hs:∀x y,(io x y).length=2:=λ_ _=>rfl
 have hb:∀x y,(ur x y).length=3:=λ_ _=>rfl
 refine bN func230 rfl ntmps230 rfl hi ?_;refine Z_6 ?_;refine ZcL (cdF S l fix X) (λw hi hin=>IT S l fix X (by first|omega|(simp only[hs,hb,ae,ak,ao];omega)) op 9 a b w hin) ?_;rintro _ _ ⟨_,⟨l1,X1,hl1,rfl⟩,rfl⟩;refine Z_5 ?_;refine ZcL (cdF S l1 fix X1) (λw hi hin=>ii S l1 fix X1 (by first|omega|(simp only[hs,hb,hl1,ae,ak,ao];omega)) 13 10 9 15 w hin) ?_;rintro _ _ ⟨_,⟨l2,X2,hl2,rfl⟩,rfl⟩;refine Z_5 ?_;refine ZcL (cdF S l2 fix X2) (λw hi hin=>vO S l2 fix X2 (by first|omega|(simp only[hs,hb,hl1,hl2,ae,ak,ao];omega)) 11 9 w hin) ?_;rintro _ _ ⟨_,⟨l3,X3,hl3,rfl⟩,rfl⟩;refine Z_5 ?_;refine ZcL (cdF S l3 fix X3) (λw hi hin=>uf S l3 fix X3 (by first|omega|(simp only[hs,hb,hl1,hl2,hl3,ae,ak,ao];omega)) 11 1 w hin) ?_;rintro _ _ ⟨_,⟨l4,X4,hl4,rfl⟩,rfl⟩;refine Z_2 ?_;refine da (λq:List HI×CAd=>[(0,.pointer (some ⟨S.b,0,none⟩))]) (λq=>cdF S q.1 fix q.2) (λq=>q.1.length<=l.length+30/\q.1++(⟨5,11,11,12,0⟩::(io 11 11++ur 11 3))=l++ma op a b) ?_ ?_
 .refine gR ?_;refine ZW ?_ ?_<;>intro hc5
  .refine Z_4 ?_;refine ZcL (cdF S l4 fix X4) (λw hi hin=>ii S l4 fix X4 (by first|omega|(simp only[hs,hb,hl1,hl2,hl3,hl4,ae,ak,ao];omega)) 12 11 9 a w hin) ?_;rintro _ _ ⟨_,⟨l5,X5,hl5,rfl⟩,rfl⟩;refine Z_5 ?_;refine ZcL (cdF S l5 fix X5) (λw hi hin=>uf S l5 fix X5 (by first|omega|(simp only[hs,hb,hl1,hl2,hl3,hl4,hl5,ae,ak,ao];omega)) 11 2 w hin) ?_;rintro _ _ ⟨_,⟨l6,X6,hl6,rfl⟩,rfl⟩;refine Z_6 ?_;refine ZcL (cdF S l6 fix X6) (λw hi hin=>ii S l6 fix X6 (by first|omega|(simp only[hs,hb,hl1,hl2,hl3,hl4,hl5,hl6,ae,ak,ao];omega)) 7 11 a 9 w hin) ?_;rintro _ _ ⟨_,⟨l7,X7,hl7,rfl⟩,rfl⟩;refine Z_5 ?_;refine ZcL (cdF S l7 fix X7) (λw hi hin=>ii S l7 fix X7 (by first|omega|(simp only[hs,hb,hl1,hl2,hl3,hl4,hl5,hl6,hl7,ae,ak,ao];omega)) 7 12 b 9 w hin) ?_;rintro _ _ ⟨_,⟨l8,X8,hl8,rfl⟩,rfl⟩;refine Z_2 ?_;refine dW (((l8,X8):List HI×CAd)) ?_ ?_ ?_
   .exact⟨by simp only[hs,hb,hl1,hl2,hl3,hl4,hl5,hl6,hl7,hl8,ae,ak,ao];omega,by simp only[hl1,hl2,hl3,hl4,hl5,hl6,hl7,hl8,ma,gt,kF,kE,gY,ac,aa,Bool.true_or,Bool.or_true,ap,aN,aO,hc5]⟩
   .exact Zwk
   exact Zu
  refine Z_7 ?_;refine ZW ?_ ?_<;>intro hc10
  .refine Z_2 ?_;refine bW rfl (hc10) ?_;refine Z_5 ?_;refine ZcL (cdF S l4 fix X4) (λw hi hin=>ii S l4 fix X4 (by first|omega|(simp only[hs,hb,hl1,hl2,hl3,hl4,ae,ak,ao];omega)) 12 11 a b w hin) ?_;rintro _ _ ⟨_,⟨l5,X5,hl5,rfl⟩,rfl⟩;refine Z_5 ?_;refine ZcL (cdF S l5 fix X5) (λw hi hin=>uf S l5 fix X5 (by first|omega|(simp only[hs,hb,hl1,hl2,hl3,hl4,hl5,ae,ak,ao];omega)) 11 2 w hin) ?_;rintro _ _ ⟨_,⟨l6,X6,hl6,rfl⟩,rfl⟩;refine Z_7 ?_;refine ZcL (cdF S l6 fix X6) (λw hi hin=>ii S l6 fix X6 (by first|omega|(simp only[hs,hb,hl1,hl2,hl3,hl4,hl5,hl6,ae,ak,ao];omega)) 7 11 a b w hin) ?_;rintro _ _ ⟨_,⟨l7,X7,hl7,rfl⟩,rfl⟩;refine Z_5 ?_;refine ZcL (cdF S l7 fix X7) (λw hi hin=>ii S l7 fix X7 (by first|omega|(simp only[hs,hb,hl1,hl2,hl3,hl4,hl5,hl6,hl7,ae,ak,ao];omega)) 7 12 a 9 w hin) ?_;rintro _ _ ⟨_,⟨l8,X8,hl8,rfl⟩,rfl⟩;refine Z_2 ?_;refine dW (((l8,X8):List HI×CAd)) ?_ ?_ ?_
   .exact⟨by simp only[hs,hb,hl1,hl2,hl3,hl4,hl5,hl6,hl7,hl8,ae,ak,ao];omega,by simp only[hl1,hl2,hl3,hl4,hl5,hl6,hl7,hl8,ma,gt,kF,kE,gY,ac,aa,Bool.true_or,Bool.or_true,ap,aN,aO,hc5,hc10]⟩
   .exact Zwk
   exact Zu
  refine Z_5 ?_;refine ZW ?_ ?_<;>intro hc11
  .refine Z_5 ?_;refine ZcL (cdF S l4 fix X4) (λw hi hin=>ii S l4 fix X4 (by first|omega|(simp only[hs,hb,hl1,hl2,hl3,hl4,ae,ak,ao];omega)) 12 11 a b w hin) ?_;rintro _ _ ⟨_,⟨l5,X5,hl5,rfl⟩,rfl⟩;refine Z_5 ?_;refine ZcL (cdF S l5 fix X5) (λw hi hin=>uf S l5 fix X5 (by first|omega|(simp only[hs,hb,hl1,hl2,hl3,hl4,hl5,ae,ak,ao];omega)) 11 2 w hin) ?_;rintro _ _ ⟨_,⟨l6,X6,hl6,rfl⟩,rfl⟩;refine Z_7 ?_;refine ZcL (cdF S l6 fix X6) (λw hi hin=>ii S l6 fix X6 (by first|omega|(simp only[hs,hb,hl1,hl2,hl3,hl4,hl5,hl6,ae,ak,ao];omega)) 7 11 a b w hin) ?_;rintro _ _ ⟨_,⟨l7,X7,hl7,rfl⟩,rfl⟩;refine Z_5 ?_;refine ZcL (cdF S l7 fix X7) (λw hi hin=>ii S l7 fix X7 (by first|omega|(simp only[hs,hb,hl1,hl2,hl3,hl4,hl5,hl6,hl7,ae,ak,ao];omega)) 7 12 a 9 w hin) ?_;rintro _ _ ⟨_,⟨l8,X8,hl8,rfl⟩,rfl⟩;refine Z_2 ?_;refine dW (((l8,X8):List HI×CAd)) ?_ ?_ ?_
   .exact⟨by simp only[hs,hb,hl1,hl2,hl3,hl4,hl5,hl6,hl7,hl8,ae,ak,ao];omega,by simp only[hl1,hl2,hl3,hl4,hl5,hl6,hl7,hl8,ma,gt,kF,kE,gY,ac,aa,Bool.true_or,Bool.or_true,ap,aN,aO,hc5,hc10,hc11]⟩
   .exact Zwk
   exact Zu
  refine Z_3 ?_;refine jb (cs':=cdF S l4 fix X4) (.inl rfl) Zu rfl ?_;exact⟨l4,X4,(by simp only[hl1,hl2,hl3,hl4,ma,gt,hc5,hc10,hc11,Bool.or_false,ac,aa,ap,aN,aO,az]),rfl⟩
 rintro⟨m9,s9⟩ ⟨hs8,hs9⟩;dsimp only at hs8 hs9|-;refine Z_3 ?_;refine ZcL (cdF S m9 fix s9) (λw hi hin=>ii S m9 fix s9 (by first|omega|(simp only[hs,hb,ae,ak,ao];omega)) 5 11 11 12 w hin) ?_;rintro _ _ ⟨_,⟨l21,X21,hl21,rfl⟩,rfl⟩;refine Z_5 ?_;refine ZcL (cdF S l21 fix X21) (λw hi hin=>vO S l21 fix X21 (by first|omega|(simp only[hs,hb,hl21,ae,ak,ao];omega)) 11 11 w hin) ?_;rintro _ _ ⟨_,⟨l22,X22,hl22,rfl⟩,rfl⟩;refine Z_4 ?_;refine ZcL (cdF S l22 fix X22) (λw hi hin=>uf S l22 fix X22 (by first|omega|(simp only[hs,hb,hl21,hl22,ae,ak,ao];omega)) 11 3 w hin) ?_;rintro _ _ ⟨_,⟨l23,X23,hl23,rfl⟩,rfl⟩;refine Zn (jb (cs':=cdF S l23 fix X23) (.inr rfl) Zu rfl ?_);exact⟨l23,X23,(by rw[<-hs9,hl23,hl22,hl21];simp only[ap,aN,aO]),rfl⟩
end
end Go.Proofs.YtkegldppffignaaGreatDoor
namespace Go.Ink
open Go.RowKit
theorem yA(pl:Pl)(base f:Int)(n:Int):∀(c:List Int) (k:Nat),vq pl base f (c++[n]) k=vq pl base f c k++(jN pl n 7++[⟨15,0,base,et pl n 7,IntKind.u32.wrap (f+IntKind.u32.wrap ((k+c.length:Nat):Int))⟩])
 |[],k=>by simp[vq]
 |x::c,k=>by
  have ih:=yA pl base f n c (k+1);show jN pl x 7++(_::vq pl base f (c++[n]) (k+1))=(jN pl x 7++(_::vq pl base f c (k+1)))++_;rw[ih,show k+1+c.length=k+(x::c).length by simp;omega];simp only[ap,aN]
theorem w9(pl:Pl)(base f:Int):∀(c:List Int) (k:Nat),(vq pl base f c k).length<=2*c.length
 |[],_=>aM _
 |x::c,k=>by
  have ih:=w9 pl base f c (k+1);have h1:=jz pl x 7;show(jN pl x 7++(_::vq pl base f c (k+1))).length<=2*(c.length+1);rw[ae,ak];omega
theorem Kw(a b:Int)(pl:Pl)(n:Int)(x:II):(qu a b pl n x).length<=30:=by
 have h1:=jz pl x.a 7;have h2:=jz pl x.b 8;have h3:=sa x.imm (et pl n 9) (et pl x.a 7) (et pl x.b 8);have h4:=ze x.imm (et pl x.a 7) (et pl x.b 8);have h5:=Hc pl n (et pl n 9);unfold qu;rw[ae];cases x.op==0<;>cases x.op==1<;>cases x.op==2<;>cases x.op==3<;>cases x.op==4<;>simp only[ac,aa,ae,ak,ao]<;>omega
theorem Bv(c d i:Int):IntKind.u32.wrap (IntKind.i64.wrap (IntKind.i64.wrap (IntKind.i64.wrap (c+d) - 1) - IntKind.i64.wrap i))=IntKind.u32.wrap (c+d - 1 - i):=by
 rw[aE,aE,bK,bK,bK,bK];omega
end Go.Ink
namespace Go.Proofs.YtkegldppffignaaGreatDoor
open Go.RowKit Go.Ink Go.Proofs.Tryz
attribute [local irreducible] OpY bS
section
variable (S:CdS) (l:List HI) (fix:List Int) (X:CAd)
theorem cone_ok(hl:l.length<=12000)(n:Nat)(op dst xa xb imm:Int)(hn:n<S.pl.reg.length)(hn2:n<S.pl.slot.length)(hab:(op==3)=true\/(op==4)=true->∃na nb:Nat,xa=na/\xb=nb/\(na<S.pl.reg.length/\na<S.pl.slot.length)/\(nb<S.pl.reg.length/\nb<S.pl.slot.length))(w:World)(hi:Inv w (bM (cdF S l fix X)) (cdF S l fix X) w)(hK:∀w',dG (bM (cdF S l fix X)) w w'->Jc S w'):
  Ctr prog 176 [.pointer (some ⟨S.b,0,none⟩),.int .i64 n,.agg #[.int .i64 op,.int .i64 dst,.int .i64 xa,.int .i64 xb,.int .u32 imm]] w (cdF S l fix X) (λr9 cs=>∃l' X',l'=l++qu S.p.MM S.p.MO S.pl n ⟨op,dst,xa,xb,imm⟩/\cs=cdF S l' (fix) X'):=by
 have gA:=jz S.pl xa 7;have gB:=jz S.pl xb 8;have aA:=sa imm (et S.pl n 9) (et S.pl xa 7) (et S.pl xb 8);have fA:=ze imm (et S.pl xa 7) (et S.pl xb 8);refine bN func176 rfl ntmps176 rfl hi ?_;refine Z_2 ?_;refine ZO λb5=>?_;refine Z_6 ?_;refine ZcL (cdF S l fix X) (λw hi hin=>cto_ok S l fix X zC n hn w hin (λw' hk=>hK w' (hi.Ns Zi hk))) ?_;rintro _ _ ⟨_,⟨rfl,l1,X1,hl1,rfl⟩,rfl⟩;refine Z_3 ?_;refine da (λq:List HI×CAd=>[(0,.pointer (some ⟨S.b,0,none⟩)),(1,.int .i64 n),(6,.int .i64 (et S.pl n 9))]) (λq=>cdF S q.1 fix q.2) (λq=>q.1.length<=l.length+30/\q.1++jq S.pl n (et S.pl n 9)=l++qu S.p.MM S.p.MO S.pl n ⟨op,dst,xa,xb,imm⟩) ?_ ?_
 .refine jd ?_;refine ZW ?_ ?_<;>intro hc3
  .refine Z_5 ?_;refine ZcL (cdF S l1 fix X1) (λw hi hin=>kW S l1 fix X1 ER (et S.pl n 9) imm w hin) ?_;rintro _ _ ⟨_,⟨l2,X2,hl2,rfl⟩,rfl⟩;refine Z_2 ?_;refine dW (((l2,X2):List HI×CAd)) ?_ ?_ ?_
   .exact⟨by simp only[hl1,hl2,ae,ak,ao];omega,by simp only[hl1,hl2,qu,ac,aa,ap,aN,aO,az,hc3]⟩
   .exact Zwk
   exact Zu
  refine Z_6 ?_;refine ZW ?_ ?_<;>intro hc5
  .refine bU ⟨λj=>List.elem j [14],sQ b5 [.int .i64 op,.int .i64 dst,.int .i64 xa,.int .i64 xb,.int .u32 imm]⟩ Zk ?_;refine gO ?_;refine ZE 2 ?_;refine ZE 3 ?_;refine ZFe 4 0 ?_;refine ZFe 5 1 ?_;refine ZFe 9 4 ?_;refine iV 10 rfl Zk Zk Zk (bQ Zrf (Zv rfl)) Wq2 (bV (t:=286) Zh) rfl ?_;refine cG 11 rfl Zk Zk Zk (ce rfl rfl Zv0 rfl) rfl ?_;refine cn 6 Zk ?_;refine kY ?_;refine cG 7 rfl Zk Zk Zk (df Zv0 Zv0 rfl) rfl ?_;refine cG 8 rfl Zk Zk Zk (eE Zv0 Zv0 rfl) rfl ?_;refine cG 12 rfl Zk Zk Zk (eE Zv0 Zv0 rfl) rfl ?_;refine cG 13 rfl Zk Zk Zk (ce rfl rfl (Zv rfl) (Bv _ _ _)) rfl ?_;refine cn 14 Zk ?_;refine kf rfl rfl (dY (cdF S l1 fix X1) rfl (λ_ _=>rfl) Zi (λw hi hin=>zr S l1 fix X1 ER (et S.pl n 9) 14 (IntKind.u32.wrap (4+S.p.MM - 1 - imm)) w hin)) (λ_=>by rintro _ _ ⟨_,⟨l2,X2,hl2,rfl⟩,rfl⟩;exact bV (t:=286) Zh) rfl ?_;rintro _ _ ⟨_,⟨l2,X2,hl2,rfl⟩,rfl⟩;refine dx ?_;refine Zo ?_;refine dW (((l2,X2):List HI×CAd)) ?_ ?_ ?_
   .exact⟨by simp only[hl1,hl2,ae,ak,ao];omega,by simp only[hl1,hl2,qu,ac,aa,ap,aN,aO,az,hc3,hc5]⟩
   .exact Zwk
   exact Zu
  refine Z_6 ?_;refine ZW ?_ ?_<;>intro hc7
  .refine bU ⟨λj=>List.elem j [14],sQ b5 [.int .i64 op,.int .i64 dst,.int .i64 xa,.int .i64 xb,.int .u32 imm]⟩ Zk ?_;refine gO ?_;refine ZE 2 ?_;refine ZE 3 ?_;refine ZFe 4 0 ?_;refine ZFe 5 2 ?_;refine ZFe 9 4 ?_;refine iV 10 rfl Zk Zk Zk (bQ Zrf (Zv rfl)) Wq2 (bV (t:=286) Zh) rfl ?_;refine cG 11 rfl Zk Zk Zk (ce rfl rfl Zv0 rfl) rfl ?_;refine cn 6 Zk ?_;refine kY ?_;refine cG 7 rfl Zk Zk Zk (df Zv0 Zv0 rfl) rfl ?_;refine cG 8 rfl Zk Zk Zk (eE Zv0 Zv0 rfl) rfl ?_;refine cG 12 rfl Zk Zk Zk (eE Zv0 Zv0 rfl) rfl ?_;refine cG 13 rfl Zk Zk Zk (ce rfl rfl (Zv rfl) (Bv _ _ _)) rfl ?_;refine cn 14 Zk ?_;refine kf rfl rfl (dY (cdF S l1 fix X1) rfl (λ_ _=>rfl) Zi (λw hi hin=>zr S l1 fix X1 ER (et S.pl n 9) 13 (IntKind.u32.wrap (20+S.p.MO - 1 - imm)) w hin)) (λ_=>by rintro _ _ ⟨_,⟨l2,X2,hl2,rfl⟩,rfl⟩;exact bV (t:=286) Zh) rfl ?_;rintro _ _ ⟨_,⟨l2,X2,hl2,rfl⟩,rfl⟩;refine dx ?_;refine Zo ?_;refine dW (((l2,X2):List HI×CAd)) ?_ ?_ ?_
   .exact⟨by simp only[hl1,hl2,ae,ak,ao];omega,by simp only[hl1,hl2,qu,ac,aa,ap,aN,aO,az,hc3,hc5,hc7]⟩
   .exact Zwk
   exact Zu
  refine Z_6 ?_;refine ZW ?_ ?_<;>intro hc9
  .obtain⟨na,nb,rfl,rfl,⟨h1,h2⟩,h3,h4⟩:=hab (Or.inl hc9);refine Zs (bU ⟨λj=>List.elem j [3,7],sQ b5 [.int .i64 op,.int .i64 dst,.int .i64 na,.int .i64 nb,.int .u32 imm]⟩ Zk ?_);refine ZE 0 ?_;refine ZFe 1 2 ?_;refine iV 2 rfl Zk Zk Zk (bQ Zrf (Zv rfl)) Wq2 (bV (t:=286) Zh) rfl ?_;refine ZE 4 ?_;refine ZFe 5 3 ?_;refine iV 6 rfl Zk Zk Zk (bQ Zrf (Zv rfl)) Wq2 (bV (t:=286) Zh) rfl ?_;refine cn 3 Zk ?_;refine kf rfl rfl (dY (cdF S l1 fix X1) rfl (λ_ _=>rfl) Zi (λw hi hin=>qH S l1 fix X1 ER na 7 h1 h2 w hin (λw' hk=>hK w' (hi.Ns Zi hk)))) (λ_=>by rintro _ _ ⟨_,⟨rfl,l2,X2,hl2,rfl⟩,rfl⟩;exact bV (t:=286) Zh) rfl ?_;rintro _ _ ⟨_,⟨rfl,l2,X2,hl2,rfl⟩,rfl⟩;refine cn 7 Zk ?_;refine kf rfl rfl (dY (cdF S l2 fix X2) rfl (λ_ _=>rfl) Zi (λw hi hin=>qH S l2 fix X2 (by first|omega|(simp only[hl1,hl2,ae,ak,ao];omega)) nb 8 h3 h4 w hin (λw' hk=>hK w' (hi.Ns Zi hk)))) (λ_=>by rintro _ _ ⟨_,⟨rfl,l3,X3,hl3,rfl⟩,rfl⟩;exact bV (t:=286) Zh) rfl ?_;rintro _ _ ⟨_,⟨rfl,l3,X3,hl3,rfl⟩,rfl⟩;refine ZE 8 ?_;refine ZE 9 ?_;refine dx ?_;refine Z_8 ?_;refine ZcL (cdF S l3 fix X3) (λw hi hin=>IT S l3 fix X3 (by first|omega|(simp only[hl1,hl2,hl3,ae,ak,ao];omega)) imm (et S.pl n 9) (et S.pl na 7) (et S.pl nb 8) w hin) ?_;rintro _ _ ⟨_,⟨l4,X4,hl4,rfl⟩,rfl⟩;refine Z_2 ?_;refine dW (((l4,X4):List HI×CAd)) ?_ ?_ ?_
   .exact⟨by simp only[hl1,hl2,hl3,hl4,ae,ak,ao];omega,by simp only[hl1,hl2,hl3,hl4,qu,ac,aa,ap,aN,aO,az,hc3,hc5,hc7,hc9]⟩
   .exact Zwk
   exact Zu
  refine Z_6 ?_;refine ZW ?_ ?_<;>intro hc12
  .obtain⟨na,nb,rfl,rfl,⟨h1,h2⟩,h3,h4⟩:=hab (Or.inr hc12);refine Zs (bU ⟨λj=>List.elem j [3,7],sQ b5 [.int .i64 op,.int .i64 dst,.int .i64 na,.int .i64 nb,.int .u32 imm]⟩ Zk ?_);refine ZE 0 ?_;refine ZFe 1 2 ?_;refine iV 2 rfl Zk Zk Zk (bQ Zrf (Zv rfl)) Wq2 (bV (t:=286) Zh) rfl ?_;refine ZE 4 ?_;refine ZFe 5 3 ?_;refine iV 6 rfl Zk Zk Zk (bQ Zrf (Zv rfl)) Wq2 (bV (t:=286) Zh) rfl ?_;refine cn 3 Zk ?_;refine kf rfl rfl (dY (cdF S l1 fix X1) rfl (λ_ _=>rfl) Zi (λw hi hin=>qH S l1 fix X1 ER na 7 h1 h2 w hin (λw' hk=>hK w' (hi.Ns Zi hk)))) (λ_=>by rintro _ _ ⟨_,⟨rfl,l2,X2,hl2,rfl⟩,rfl⟩;exact bV (t:=286) Zh) rfl ?_;rintro _ _ ⟨_,⟨rfl,l2,X2,hl2,rfl⟩,rfl⟩;refine cn 7 Zk ?_;refine kf rfl rfl (dY (cdF S l2 fix X2) rfl (λ_ _=>rfl) Zi (λw hi hin=>qH S l2 fix X2 (by first|omega|(simp only[hl1,hl2,ae,ak,ao];omega)) nb 8 h3 h4 w hin (λw' hk=>hK w' (hi.Ns Zi hk)))) (λ_=>by rintro _ _ ⟨_,⟨rfl,l3,X3,hl3,rfl⟩,rfl⟩;exact bV (t:=286) Zh) rfl ?_;rintro _ _ ⟨_,⟨rfl,l3,X3,hl3,rfl⟩,rfl⟩;refine ZE 8 ?_;refine ZE 9 ?_;refine dx ?_;refine Z_8 ?_;refine ZcL (cdF S l3 fix X3) (λw hi hin=>LM S l3 fix X3 (by first|omega|(simp only[hl1,hl2,hl3,ae,ak,ao];omega)) imm (et S.pl na 7) (et S.pl nb 8) w hin) ?_;rintro _ _ ⟨_,⟨l4,X4,hl4,rfl⟩,rfl⟩;refine Z_6 ?_;refine ro ?_;rintro _ _ ⟨b93,rfl,rfl⟩;refine ZcL (cdF S l4 fix X4) (λw hi hin=>kI S l4 fix X4 (by first|omega|(simp only[hl1,hl2,hl3,hl4,ae,ak,ao];omega)) [⟨2,et S.pl n 9,10,0,0⟩] (some ⟨b93,0,none⟩) 1 cE w hin (λw' hk=>dk (hi.Nv Zi (show Has _ (slv 290 5 (some ⟨b93,0,none⟩) 1 1 ([⟨2,et S.pl n 9,10,0,0⟩].flatMap HI.cells))from Zh) hk))) ?_;rintro _ _ ⟨_,⟨l5,X5,hl5,rfl⟩,rfl⟩;refine Z_2 ?_;refine dW (((l5,X5):List HI×CAd)) ?_ ?_ ?_
   .exact⟨by simp only[hl1,hl2,hl3,hl4,hl5,ae,ak,ao];omega,by simp only[hl1,hl2,hl3,hl4,hl5,qu,ac,aa,ap,aN,aO,az,hc3,hc5,hc7,hc9,hc12]⟩
   .exact Zwk
   exact Zu
  refine Z_2 ?_;refine dW (((l1,X1):List HI×CAd)) ?_ ?_ ?_
  .exact⟨by simp only[hl1,ae,ak,ao];omega,by simp only[hl1,qu,ac,aa,ap,aN,aO,az,hc3,hc5,hc7,hc9,hc12]⟩
  .exact Zwk
  exact Zu
 rintro⟨m9,s9⟩ ⟨hs8,hs9⟩;dsimp only at hs8 hs9|-;refine Z_4 ?_;refine ZcL (cdF S m9 fix s9) (λw hi hin=>LG S m9 fix s9 zC n (et S.pl n 9) hn hn2 w hin (λw' hk=>hK w' (hi.Ns Zi hk))) ?_;rintro _ _ ⟨_,⟨l21,X21,hl21,rfl⟩,rfl⟩;refine Zn (jb (cs':=cdF S l21 fix X21) (.inr rfl) Zu rfl ?_);exact⟨l21,X21,(by rw[hl21,hs9]),rfl⟩
theorem zo(hl:l.length<=10000)(base f word:Int)(A:Option Addr)(c:Nat)(o:List Int)(ho:o.length<=1000)(hoj:∀j,j∈o->∃n:Nat,j=n/\n<S.pl.reg.length/\n<S.pl.slot.length)(w:World)(hi:Inv w (bM (cdF S l fix X)) (cdF S l fix X) w)(hK:∀w',dG (bM (cdF S l fix X)) w w'->Jc S w')(hO:∀w',dG (bM (cdF S l fix X)) w w'->Rd w' .i64 A o.length c o):
  Ctr prog 177 [.pointer (some ⟨S.b,0,none⟩),.int .i64 base,.int .u32 f,.int .u32 word,.slice A o.length c] w (cdF S l fix X) (λr9 cs=>∃l' X',l'=l++ix S.pl base f word o/\cs=cdF S l' (fix) X'):=by
 refine bN func177 rfl ntmps177 rfl hi ?_;refine Z_9 ?_;refine cq (λq:Nat×List HI×CAd=>[(0,.pointer (some ⟨S.b,0,none⟩)),(1,.int .i64 base),(2,.int .u32 f),(3,.int .u32 word),(4,.slice A o.length c),(12,.slice A o.length c),(13,.int .i64 o.length),(14,.int .i64 (q.1:Int))]) (λq=>cdF S q.2.1 fix q.2.2) (λq=>q.1<=o.length/\q.2.1=l++vq S.pl base f (o.take q.1) 0) (λq=>o.length - q.1) (⟨0,l,X⟩) ?_ ?_ ?_ ?_
 .exact⟨aq _,(az l).symm⟩
 .exact Zwk
 .exact Zu
 rintro⟨k,l0,X0⟩ ⟨hk,hl0⟩;dsimp only at hk hl0|-;have ol:=w9 S.pl base f (o.take k) 0;have ll:l0.length<=l.length+2*o.length:=(by rw[hl0,ae];rw[aB]at ol;omega);refine Z_6 ?_;refine ZW ?_ ?_<;>intro hc1
 .simp only[aj]at hc1;obtain⟨ad,had⟩:∃ad,A=some ad:=Option.ne_none_iff_exists'.1 (λe=>by have:=((hO w (dG.refl _ _)).nil e).1;omega);obtain⟨j,hj⟩:∃j,o[k]? =some j:=⟨_,ai (show k<o.length by omega)⟩;obtain⟨n,rfl,h1,h2⟩:=hoj j (aD hj);have htk:o.take (k+1)=o.take k++[(n:Int)]:=(by rw[List.take_add_one,hj];rfl);have hO2:∀w',dG (bM (cdF S l fix X)) w w'->RdV w' 1 (some ad) o.length c (ints .i64 o):=λw' hk=>had▸hO w' hk
  have hol:(o.take k).length=k:=(by rw[aB];omega);have gA:=jz S.pl n 7;refine Z_7 ?_;refine Zy (fg (j:=k) had rfl Zrf (Zv rfl) (Zv rfl) Zrf Wq4) ?_;refine dN (bQ Zrf Zv0) (j7 (v:= .int .i64 n) hO2 (cR hj)) rfl ?_;refine Z_9 ?_;refine Zy (ce rfl rfl Zv0 rfl) ?_;refine Zy (df Zv0 Zv0 rfl) ?_;refine Z_2 ?_;refine ZcL (cdF S l0 fix X0) (λw hi hin=>qH S l0 fix X0 zC n 7 h1 h2 w hin (λw' hk=>hK w' (hi.Ns Zi hk))) ?_;rintro _ _ ⟨_,⟨rfl,l1,X1,hl1,rfl⟩,rfl⟩;refine ZcL (cdF S l1 fix X1) (λw hi hin=>vN S l1 fix X1 ER base (IntKind.u32.wrap (f+IntKind.u32.wrap (k:Int))) (et S.pl n 7) w hin) ?_;rintro _ _ ⟨_,⟨l2,X2,hl2,rfl⟩,rfl⟩;refine Z_4 ?_;refine Wq8 ?_;refine dW ((⟨k+1,l2,X2⟩:Nat×List HI×CAd)) ?_ ?_ ?_
  .exact⟨⟨by omega,by dsimp only;rw[htk,yA,hol,bE,hl2,hl1,hl0];simp only[ap]⟩,by dsimp only;omega⟩
  .exact Zwk
  exact Zu
 simp only[ah]at hc1;obtain rfl:k=o.length:=by omega
 rw[bn]at hl0;refine dS ?_;refine Zy (ce rfl rfl Zv0 rfl) ?_;refine ZcL (cdF S l0 fix X0) (λw hi hin=>kW S l0 fix X0 zC 11 (IntKind.u32.wrap (o.length:Int)) w hin) ?_;rintro _ _ ⟨_,⟨l11,X11,hl11,rfl⟩,rfl⟩;refine Z_6 ?_;refine ZcL (cdF S l11 fix X11) (λw hi hin=>ii S l11 fix X11 (by first|omega|(simp only[hl11,ae,ak,ao];omega)) 3 11 11 base w hin) ?_;rintro _ _ ⟨_,⟨l12,X12,hl12,rfl⟩,rfl⟩;refine Z_5 ?_;refine ZcL (cdF S l12 fix X12) (λw hi hin=>vN S l12 fix X12 (by first|omega|(simp only[hl11,hl12,ae,ak,ao];omega)) 15 word 11 w hin) ?_;rintro _ _ ⟨_,⟨l13,X13,hl13,rfl⟩,rfl⟩;refine Zn (jb (cs':=cdF S l13 fix X13) (.inr rfl) Zu rfl ?_);exact⟨l13,X13,(by simp only[hl11,hl12,hl13,hl0,ix,ac,aa,ap,aN,aO,az]),rfl⟩
theorem LA(hl:l.length<=10000)(base word MN high:Int)(o:Nat)(hb1:0<=MN/\MN<=100000)(hb2: -100000<=high/\high<=100000)(hb3:o<=100000)(hf:fix.length<=100)(w:World)(hi:Inv w (bM (cdF S l fix X)) (cdF S l fix X) w):
  Ctr prog 175 [.pointer (some ⟨S.b,0,none⟩),.int .i64 base,.int .u32 word,.int .i64 MN,.int .i64 high,.int .i64 o] w (cdF S l fix X) (λr9 cs=>r9= .bool (!decide (jh MN high o<MN))/\∃l' f' X',l'=l++(bif(!decide (jh MN high o<MN))then oc 0 base word MN (jh MN high o)else[])/\f'=fix++(bif(!decide (jh MN high o<MN))then[((l.length+3:Nat):Int),((l.length+6:Nat):Int)]else[])/\cs=cdF S l' f' X'):=by
 have hm:(if(16:Int)+MN - o<16 - high then(16:Int)+MN - o else 16 - high)=jh MN high o:=rfl;obtain⟨mo,hmo⟩:=Zgn (jh MN high o);rw[hmo]at hm|-;refine bN func175 rfl ntmps175 rfl hi ?_;refine Z_8 ?_;refine Zy (eE Zv0 Zv0 Zl) ?_;refine ZA ?_;refine Zy (df Zv0 Zv0 Zl) ?_;refine ZA ?_;refine Zy (eE Zv0 Zv0 Zl) ?_;refine Zy (y_min Zv0 Zv0 hm) ?_;refine fE ?_;refine ZW ?_ ?_<;>intro hc2
 .have hok:(!decide (mo<MN))=false:=(by rw[hc2];rfl);rw[hok];refine Z_7 ?_;refine Zrb (cdF S l fix X) ?_;exact⟨rfl,l,fix,X,(az l).symm,(az fix).symm,rfl⟩
 have hok:(!decide (mo<MN))=true:=(by rw[hc2];rfl);rw[hok];refine Z_7 ?_;refine ZcL (cdF S l fix X) (λw hi hin=>zr S l fix X zC base 15 word w hin) ?_;rintro _ _ ⟨_,⟨l1,X1,hl1,rfl⟩,rfl⟩;refine Z_6 ?_;refine Zy (ce rfl rfl Zv0 rfl) ?_;refine ZcL (cdF S l1 fix X1) (λw hi hin=>kW S l1 fix X1 ER 11 (IntKind.u32.wrap MN) w hin) ?_;rintro _ _ ⟨_,⟨l2,X2,hl2,rfl⟩,rfl⟩;refine Z_6 ?_;refine ZcL (cdF S l2 fix X2) (λw hi hin=>ii S l2 fix X2 (by first|omega|(simp only[hl1,hl2,ae,ak,ao];omega)) 12 12 base 11 w hin) ?_;rintro _ _ ⟨_,⟨l3,X3,hl3,rfl⟩,rfl⟩;refine Z_5 ?_;refine ZcL (cdF S l3 fix X3) (λw hi hin=>vM S l3 fix X3 (by first|omega|(simp only[hl1,hl2,hl3,ae,ak,ao];omega)) 12 zC w hin) ?_;rintro _ _ ⟨_,⟨l4,X4,hl4,rfl⟩,rfl⟩;refine Z_6 ?_;refine Zy (ce rfl rfl Zv0 rfl) ?_;refine ZcL (cdF S l4 (fix++[(l3.length:Int)]) X4) (λw hi hin=>kW S l4 (fix++[(l3.length:Int)]) X4 (by first|omega|(simp only[hl1,hl2,hl3,hl4,ae,ak,ao];omega)) 12 (IntKind.u32.wrap mo) w hin) ?_;rintro _ _ ⟨_,⟨l5,X5,hl5,rfl⟩,rfl⟩;refine Z_6 ?_;refine ZcL (cdF S l5 (fix++[(l3.length:Int)]) X5) (λw hi hin=>ii S l5 (fix++[(l3.length:Int)]) X5 (by first|omega|(simp only[hl1,hl2,hl3,hl4,hl5,ae,ak,ao];omega)) 12 12 12 base w hin) ?_;rintro _ _ ⟨_,⟨l6,X6,hl6,rfl⟩,rfl⟩;refine Z_5 ?_;refine ZcL (cdF S l6 (fix++[(l3.length:Int)]) X6) (λw hi hin=>vM S l6 (fix++[(l3.length:Int)]) X6 (by first|omega|(simp only[hl1,hl2,hl3,hl4,hl5,hl6,ae,ak,ao];omega)) 12 zC w hin) ?_;rintro _ _ ⟨_,⟨l7,X7,hl7,rfl⟩,rfl⟩;refine Z_7 ?_;refine ZcL (cdF S l7 ((fix++[(l3.length:Int)])++[(l6.length:Int)]) X7) (λw hi hin=>ii S l7 ((fix++[(l3.length:Int)])++[(l6.length:Int)]) X7 (by first|omega|(simp only[hl1,hl2,hl3,hl4,hl5,hl6,hl7,ae,ak,ao];omega)) 4 base base 11 w hin) ?_;rintro _ _ ⟨_,⟨l8,X8,hl8,rfl⟩,rfl⟩;refine Z_8 ?_;refine Zrb (cdF S l8 ((fix++[(l3.length:Int)])++[(l6.length:Int)]) X8) ?_;exact⟨rfl,l8,_,X8,(by simp only[hl1,hl2,hl3,hl4,hl5,hl6,hl7,hl8,oc,ac,ap,aN,aO]),(by simp only[hl1,hl2,hl3,hl4,hl5,hl6,hl7,hl8,ac,ap,aN,aO,ae,ak,ao]),rfl⟩
end
end Go.Proofs.YtkegldppffignaaGreatDoor
