/- Lemmas. -/
import Derived.Test.YtkegldppffignaaGreatDoorPaa
import Derived.Test.YtkegldppffignaaGreatDoorPab
import Derived.Test.YtkegldppffignaaGreatDoorPac
import Derived.Test.YtkegldppffignaaGreatDoorPad
set_option linter.unusedSimpArgs false
set_option linter.unusedVariables false
set_option maxRecDepth 100000
set_option maxHeartbeats 4000000
namespace Go.Ink
open Go.RowKit
def tw(l:List Nat):Nat->Int
 |0=>0
 |k+1=>bits .or .u32 (tw l k) (IntKind.u32.wrap (1*2^(min (((l.getD k 0:Nat):Int)).toNat IntKind.u32.bits)))
def lW(l:List Nat):Int:=tw l l.length
def AJ(l:List Nat):List Int:=l.map λn:Nat=>(n:Int)
def mc(n ML a:Nat):Bool:= !((decide (16<=ML)||(a%64 !=0))||decide (n*64<=a))
def gE(n:Nat)(M:Mem)(M4:List Int)(ML a cmd:Nat):Bool×Mem×List Int:=
 bif !mc n ML a then(false,M,M4)else
 bif cmd==1 then(true,M.fill (a/64*64) ((M4.drop (ML*64)).take 64) 64,M4)else
 bif cmd==2 then(true,M,M4.take (ML*64)++(M.data.drop (a/64*64)).take 64++M4.drop (ML*64+64))else(false,M,M4)
end Go.Ink
namespace Go.Proofs.YtkegldppffignaaGreatDoor
open Go.RowKit Go.Ink Go.Proofs.Tryz
attribute [local irreducible] OpY bS
abbrev pF(b:Nat)(p m:Int):bL:=row b [.int .u32 p,.int .u32 m] 96
abbrev Dv(b:Nat)(t:Int):bL:=row b [.int .u32 t] 196
abbrev b8(A:Option Addr)(c:Nat)(l:List Int):bL:=sl .u8 5 A l.length c l
abbrev uc(b:Nat)(Ao:Option Addr)(no co:Nat)(Ai:Option Addr)(ni ci:Nat):bL:=row b [.slice Ao no co,.slice Ai ni ci] 93
abbrev EQ(b bd:Nat):bL:=row b [.slice (some ⟨bd,0,none⟩) 1024 1024] 159
abbrev Er(bd:Nat)(l:List Int):bL:=sl .u8 5 (some ⟨bd,0,none⟩) 1024 1024 l
theorem Hi(w:World):Ctr prog 84 [] w [] (λv cs=>∃b,v= .pointer (some ⟨b,0,none⟩)/\cs=[pF b 0 0]):=by
 refine bN func84 rfl ntmps84 rfl (Inv.start w) ?_;refine Z_8 ?_;refine ZO λb2=>?_
 refine Z_4 ?_;refine Zrb ([row _ _ _]) ?_;exact⟨_,rfl,rfl⟩
theorem FD(w:World):Ctr prog 85 [] w [] (λv cs=>∃b,v= .pointer (some ⟨b,0,none⟩)/\cs=[Dv b 0]):=by
 refine bN func85 rfl ntmps85 rfl (Inv.start w) ?_;refine Z_8 ?_;refine ZO λb2=>?_
 refine Z_4 ?_;refine Zrb ([row _ _ _]) ?_;exact⟨_,rfl,rfl⟩
theorem IM(w:World):Ctr prog 86 [] w [] (λv cs=>∃b,v= .pointer (some ⟨b,0,none⟩)/\cs=[uc b none 0 0 none 0 0]):=by
 refine bN func86 rfl ntmps86 rfl (Inv.start w) ?_;refine Z_8 ?_;refine ZO λb2=>?_
 refine Z_4 ?_;refine Zrb ([row _ _ _]) ?_;exact⟨_,rfl,rfl⟩
def _root_.Go.Ink.rf(l:List Int):List Int:=l++List.replicate (1024 - l.length) 0
theorem IB(A:Option Addr)(c:Nat)(l:List Int)(hl:l.length<=1024)(w:World)(h:Rd w .u8 A l.length c l):Ctr prog 83 [.slice A l.length c] w [] (λv cs=>∃b bd,v= .tuple #[.pointer (some ⟨b,0,none⟩),.int .i64 0]/\cs=[EQ b bd,Er bd (rf l)]):=by
 refine bN func83 rfl ntmps83 rfl (Inv.start w) ?_;refine gy ?_;refine dc rfl ((aw Wq1)) ?_;refine Z_4 ?_;refine gj (kO (bytes:=1) (n:=1024) rfl rfl rfl rfl rfl rfl rfl Wq1 gS) rfl ?_;rintro _ _ ⟨b8_,rfl,rfl⟩;rw[oe];refine ZA ?_;refine ZO λb10=>?_
 refine dS ?_;refine gj (u9 rfl rfl Za rfl rfl (λw hi=>h.MZ hi) cN Wq1) rfl ?_;rintro _ _ ⟨rfl,rfl⟩;have hd:(ints .u8 (List.replicate 1024 0)).take 0++(ints .u8 l).take (min l.length 1024)++(ints .u8 (List.replicate 1024 0)).drop (0+min l.length 1024)=ints .u8 (rf l):=by(rw[Nat.min_eq_left hl,kB,kB,pH,List.take_zero,bn,bE,List.drop_replicate];simp[ints,rf])
 rw[hd];refine dS ?_;refine bP [EQ b10 b8_,Er b8_ (rf l)] Zj ?_;refine rx (cs':=[row _ _ _,slv _ _ _ _ _ _]) (.inl rfl) Zu rfl rfl rfl ?_;exact⟨_,_,rfl,rfl⟩
theorem qr(b:Nat)(p m:Int)(w:World)(h:(pF b p m).ok w):Ctr prog 22 [.pointer (some ⟨b,0,none⟩)] w [] (λv cs=>v= .int .u32 p/\cs=[]):=by
 refine bN func22 rfl ntmps22 rfl (Inv.start w) ?_;refine dS ?_;refine uv ?_;refine Z_4 ?_;refine Zra ?_;exact de
theorem GN(b:Nat)(p m:Int)(w:World)(h:(pF b p m).ok w):Ctr prog 63 [.pointer (some ⟨b,0,none⟩)] w [] (λv cs=>v= .int .u32 m/\cs=[]):=by
 refine bN func63 rfl ntmps63 rfl (Inv.start w) ?_;refine dS ?_;refine uv ?_;refine Z_4 ?_;refine Zra ?_;exact de
theorem Hs(b:Nat)(p m v:Int)(w:World)(hi:Inv w (bM [pF b p m]) [pF b p m] w):Ctr prog 265 [.pointer (some ⟨b,0,none⟩),.int .u32 v] w [pF b p m] (λx cs=>x= .tuple #[]/\cs=[pF b (bits .andNot .u32 p v) m]):=by
 refine bN func265 rfl ntmps265 rfl hi ?_;refine Z_6 ?_;refine Zy (rF Zv0 Zv0 rfl) ?_;refine Z_2 ?_;refine ZL ?_;refine Zn (jb (cs':=[row _ _ _]) (.inr rfl) Zu rfl ?_);exact de
theorem AS(b:Nat)(p m v:Int)(w:World)(hi:Inv w (bM [pF b p m]) [pF b p m] w):Ctr prog 266 [.pointer (some ⟨b,0,none⟩),.int .u32 v] w [pF b p m] (λx cs=>x= .tuple #[]/\cs=[pF b p (bits .and .u32 v 255)]):=by
 refine bN func266 rfl ntmps266 rfl hi ?_;refine Z_6 ?_;refine ZL ?_;refine Zn (jb (cs':=[row _ _ _]) (.inr rfl) Zu rfl ?_);exact de
theorem mX(b:Nat)(p m:Int)(A:Option Addr)(c:Nat)(l:List Nat)(hl:∀x,x∈l->x<8)(w:World)(hi:Inv w (bM [pF b p m]) [pF b p m] w)(h:∀w',dG (bM [pF b p m]) w w'->Rd w' .i64 A l.length c (AJ l)):Ctr prog 36 [.pointer (some ⟨b,0,none⟩),.slice A l.length c] w [pF b p m] (λx cs=>x= .bool true/\cs=[pF b (bits .or .u32 p (lW l)) m]):=by
 have hrw:=h w (dG.refl _ _);have hm:=hrw.max;have hcp:=hrw.cap;simp only[maxLen]at hm;refine bN func36 rfl ntmps36 rfl hi ?_;refine Je ?_;refine cq (λk:Nat=>[(0,.pointer (some ⟨b,0,none⟩)),(5,.int .u32 (tw l k)),(8,.slice A l.length c),(9,.int .i64 l.length),(10,.int .i64 (k:Int))]) (λ_=>[pF b p m]) (λk=>k<=l.length) (λk=>l.length - k) (0) ?_ ?_ ?_ ?_
 .exact aq _
 .exact Zwk
 .exact Zu
 rintro k hk;refine Z_6 ?_;refine ZW ?_ ?_<;>intro hc3
 .simp only[aj]at hc3;have hkl:k<l.length:=by omega
  have hx:=hl _ (List.getElem_mem hkl);have hgd:l.getD k 0=l[k]'hkl:=by simp[hkl]
  obtain⟨ad,rfl⟩:=hrw.some_ Wq1;refine Z_6 ?_;refine uR ?_;refine dN (bQ Zrf (Zv rfl)) (pv h (cR (show(AJ l)[k]? =some ((l[k]'hkl:Nat):Int) by simp[AJ,hkl]))) rfl ?_;refine gy ?_;refine dc rfl ((by rw[aw (show¬((l[k]'hkl:Nat):Int)<0 by omega),aw (show¬(8:Int)<=((l[k]'hkl:Nat):Int) by omega)];rfl)) ?_;refine Z_5 ?_;refine Zy (v7 (Zv rfl) (Zv rfl) Wq1 rfl) ?_;refine Zy (CX (Zv rfl) (Zv rfl) (show _=tw l (k+1)from by rw[tw,hgd])) ?_;refine Z_5 ?_;refine Wq8 ?_;refine dW (k+1) ?_ ?_ ?_
  .exact⟨by omega,by omega⟩
  .exact Zwk
  exact Zu
 simp only[ah]at hc3;obtain rfl:k=l.length:=by omega
 refine rj ?_;refine ZL ?_;refine Z_8 ?_;refine Zrb ([row _ _ _]) ?_;exact de
theorem tset_ok(b:Nat)(t v:Int)(w:World)(hi:Inv w (bM [Dv b t]) [Dv b t] w):Ctr prog 267 [.pointer (some ⟨b,0,none⟩),.int .u32 v] w [Dv b t] (λx cs=>x= .tuple #[]/\cs=[Dv b v]):=by
 refine bN func267 rfl ntmps267 rfl hi ?_;refine Z_5 ?_;refine ZL ?_;refine Zn (jb (cs':=[row _ _ _]) (.inr rfl) Zu rfl ?_);exact de
theorem JD(b:Nat)(t:Int)(w:World)(h:(Dv b t).ok w):Ctr prog 263 [.pointer (some ⟨b,0,none⟩)] w [] (λv cs=>v= .int .u32 t/\cs=[]):=by
 refine bN func263 rfl ntmps263 rfl (Inv.start w) ?_;refine dS ?_;refine uv ?_;refine Z_4 ?_;refine Zra ?_;exact de
theorem nl(A:Option Addr)(n c:Nat)(xs:List Int)(w:World)(h:Rd w .u8 A n c xs)(hn:n<=140737488355328):Ctr prog 47 [.slice A n c] w [] (λv cs=>∃A' c',v= .slice A' n c'/\cs=[sl .u8 5 A' n c' xs]):=by
 refine bN func47 rfl ntmps47 rfl (Inv.start w) ?_;refine gR ?_;refine ZW ?_ ?_<;>intro hc1
 .obtain rfl:A=none:=by simpa using hc1
  obtain⟨rfl,rfl⟩:=h.nil rfl;obtain rfl:xs=[]:=by have:=h.len;simpa[ints]using this
  refine Z_2 ?_;refine dC 5 1 ?_;refine Z_5 ?_;refine Zrb ([slv _ _ _ _ _ _]) ?_;exact⟨_,_,rfl,rfl⟩
 refine Z_4 ?_;refine jO ?_;rintro _ _ ⟨b5,rfl,rfl⟩;refine ZA ?_;refine gj (cD (e:=5) (sz:=1) (bytes:=1) rfl rfl Za rfl rfl (λw hi=>h.MZ hi) cN gS Wq1) rfl ?_;rintro _ _ ⟨A',c',rfl,rfl⟩;simp only[bE,aO];refine Z_4 ?_;refine Zrb ([slv _ _ _ _ _ _]) ?_;exact⟨_,_,rfl,rfl⟩
theorem IH(b:Nat)(Ao:Option Addr)(co:Nat)(o:List Int)(Ai:Option Addr)(ni ci:Nat)(x:Int)(ho:o.length<=1000000000)(w:World)(hi:Inv w (bM [uc b Ao o.length co Ai ni ci,b8 Ao co o]) [uc b Ao o.length co Ai ni ci,b8 Ao co o] w):Ctr prog 268 [.pointer (some ⟨b,0,none⟩),.int .u8 x] w [uc b Ao o.length co Ai ni ci,b8 Ao co o] (λv cs=>∃Ao' co',v= .tuple #[]/\cs=[uc b Ao' (o++[x]).length co' Ai ni ci,b8 Ao' co' (o++[x])]):=by
 refine bN func268 rfl ntmps268 rfl hi ?_;refine Z_7 ?_;refine jO ?_;rintro _ _ ⟨b10,rfl,rfl⟩;refine gj (cD (e:=5) (sz:=1) (bytes:=1) rfl rfl Za rfl rfl (λw hi=>hi.rd (show Has _ (slv 5 1 (some ⟨b10,0,none⟩) 1 1 [.int .u8 x])from Zh)) (jA rfl) (by simp only[maxLen];omega) Wq1) rfl ?_;rintro _ _ ⟨A2,c2,rfl,rfl⟩;rw[show o.length+1=(o++[x]).length by simp,show ints .u8 o++[Value.int .u8 x]=ints .u8 (o++[x])from cj o [x]];refine Z_2 ?_;refine ZL ?_;refine Zn (jb (cs':=[row _ _ _,slv _ _ _ _ _ _]) (.inr rfl) Zu rfl ?_);exact⟨A2,c2,rfl,rfl⟩
theorem pX(b:Nat)(Ao:Option Addr)(no co:Nat)(Ai:Option Addr)(ni ci:Nat)(w:World)(h:(uc b Ao no co Ai ni ci).ok w):Ctr prog 19 [.pointer (some ⟨b,0,none⟩)] w [] (λv cs=>v= .int .i64 ni/\cs=[]):=by
 refine bN func19 rfl ntmps19 rfl (Inv.start w) ?_;refine dS ?_;refine uv ?_;refine Z_5 ?_;refine Zra ?_;exact de
theorem IG(A:Option Addr)(c:Nat)(x:Int)(xs:List Int)(hl:xs.length<=1000000000)(w:World)(hi:Inv w (bM [b8 A c (x::xs)]) [b8 A c (x::xs)] w):Ctr prog 274 [.slice A (x::xs).length c,.int .i64 0,.int .i64 1] w [b8 A c (x::xs)] (λv cs=>∃A' c',v= .slice A' xs.length c'/\cs=[b8 A' c' xs]):=by
 have hrd0:=hi.rd (show Has _ (b8 A c (x::xs))from Zh);have hcap:=hrd0.cap;obtain⟨bb,rfl⟩:=ez (hi.get (show Has _ (b8 A c (x::xs))from Zh)) (by simp);simp only[ak]at hcap;have hxl:(x::xs).length=xs.length+1:=rfl;obtain⟨q0,hq0⟩:=Zgn ((⟨bb,(if c=1 then 0 else 1),none⟩:Addr));have hq1:(some q0:Option Addr)=(if c=1 then some ⟨bb,0,none⟩else(some (⟨bb,0,none⟩:Addr)).map (·.add (1*1))):=by
  rw[<-hq0];split<;>rfl
 refine bN func274 rfl ntmps274 rfl hi ?_;refine gR ?_;refine Zy (Ji (lo:=0) (hi:=1) (mx:=(x::xs).length) rfl Zrf (Zv rfl) (Zv rfl) (Zv rfl) (Zv rfl) (by omega) (by omega) (by omega)) ?_;refine dS ?_;refine fS ?_;refine dS ?_;refine bU ⟨λj=>List.elem j [6],[]⟩ Zk ?_;refine ZE 0 ?_;refine ZE 1 ?_;refine cG 2 rfl Zk Zk Zk (ge 0 rfl Zrf (Zv rfl) (Zv rfl) (λ_=>by first|rfl|omega) (λ_=>by omega)) rfl ?_;refine ZE 3 ?_;refine ZE 4 ?_;refine cG 5 rfl Zk Zk Zk (Jh (lo:=1) (hi:=(x::xs).length) (r:=q0) rfl Zrf (Zv rfl) (.inr ⟨_,_,rfl,(Zv rfl)⟩) (.inl ⟨rfl,rfl⟩) (by simp) (by simpa using hcap) hq1) rfl ?_;refine cn 6 Zk ?_;refine kf rfl rfl (FP (e:=5) (bytes:=1) rfl (by omega) rfl Za rfl rfl (λw hi=>(by have h5:=(hi.rd (show Has _ (b8 (some ⟨bb,0,none⟩) c (x::xs))from Zh)).cut (lo:=1) (hi:=(x::xs).length) (by simp) (aM _);rw[<-hq1]at h5;exact h5)) (by rw[kB,pH];exact cN) (by omega)) ZJ rfl ?_;rintro _ _ ⟨rfl,rfl⟩;rw[show 0+((x::xs).length - 1)=xs.length by simp,show(ints .u8 (x::xs)).take 0++((ints .u8 (x::xs)).take (x::xs).length).drop 1=ints .u8 xs from by(simp[ints];exact List.take_of_length_le (by simp))];refine ZE 7 ?_;refine dx ?_;refine Z_7 ?_;refine Zy (kL (sz:=1) (lo:=xs.length) (hi:=(x::xs).length) (r:=xs.length) rfl Zrf (Zv rfl) (.inr ⟨_,_,rfl,(Zv rfl)⟩) (.inr ⟨_,_,rfl,(Zv rfl)⟩) (by omega) (by omega) (by omega) (by omega)) ?_;refine dH (t_clear rfl Za rfl Zrf rfl rfl (aM _) (by simp only[ak];omega)) ?_;rintro _ _ ⟨rfl,rfl⟩;refine Z_9 ?_;refine Zrb ([slv _ _ _ _ _ _]) ?_;exact⟨_,_,rfl,rfl⟩
theorem LB(b:Nat)(Ao:Option Addr)(no co:Nat)(Ai:Option Addr)(ci:Nat)(inp:List Int)(hl:inp.length<=1000000000)(w:World)(hi:Inv w (bM [uc b Ao no co Ai inp.length ci,b8 Ai ci inp]) [uc b Ao no co Ai inp.length ci,b8 Ai ci inp] w):Ctr prog 264 [.pointer (some ⟨b,0,none⟩)] w [uc b Ao no co Ai inp.length ci,b8 Ai ci inp] (λv cs=>∃Ai' ci',v= .int .u8 (gB inp 0)/\cs=[b8 Ai' ci' inp.tail,uc b Ao no co Ai' inp.tail.length ci']):=by
 cases inp with
 |nil=>
  refine bN func264 rfl ntmps264 rfl hi ?_;refine ri ?_;refine bW rfl (rfl) ?_;refine Z_7 ?_;refine bP [b8 Ai ci [],uc b Ao no co Ai 0 ci] Zj ?_;refine Zrb ([slv _ _ _ _ _ _,row _ _ _]) ?_;exact⟨_,_,rfl,rfl⟩
 |cons x xs=>
  have hxl:(x::xs).length=xs.length+1:=rfl;have hc1':(((x::xs).length:Int)==0)=false:=by rw[beq_eq_false_iff_ne];simp only[ak];omega
  obtain⟨bb,rfl⟩:=ez (hi.get (show Has _ (b8 Ai ci (x::xs))from Zh)) cE;refine bN func264 rfl ntmps264 rfl hi ?_;refine ri ?_;refine dc rfl (hc1') ?_;refine Z_8 ?_;refine Zy (cw (j:=0) (sz:=1) (r:=0) rfl Zrf (Zv rfl) (Zv rfl) Wq4 Wq4 Wq1) ?_;refine dN (bQ Zrf Zv0) (dm (xs:=ints .u8 (x::xs)) Zh rfl) rfl ?_;refine dS ?_;refine ZcL ([b8 (some ⟨bb,0,none⟩) ci (x::xs)]) (λw hi hin=>IG (some ⟨bb,0,none⟩) ci x xs (by simp only[ak]at hl;omega) w hin) ?_;rintro _ _ ⟨_,⟨A2,c2,rfl,rfl⟩,rfl⟩;refine Z_2 ?_;refine ZL ?_;refine Z_9 ?_;refine Zrb ([slv _ _ _ _ _ _,row _ _ _]) ?_;exact⟨_,_,rfl,rfl⟩
end Go.Proofs.YtkegldppffignaaGreatDoor
namespace Go.Ink
open Go.RowKit
theorem B7(n k:Nat):((n:Int)==((k:Nat):Int))=(n==k):=by rw[Bool.eq_iff_iff];simp;omega
theorem natBne(n k:Nat):((n:Int) !=((k:Nat):Int))=(n !=k):=by rw[Bool.eq_iff_iff];simp;omega
theorem vL(n ML a:Nat):(((false||decide ((16:Int)<=ML))||(((a%64:Nat):Int) !=((0:Nat):Int)))||decide (((n*64:Nat):Int)<=a))= !mc n ML a:=by
 unfold mc;rw[Bool.not_not,Bool.false_or,natBne,show decide ((16:Int)<=ML)=decide (16<=ML)from decide_eq_decide.2 Wq1,show decide (((n*64:Nat):Int)<=a)=decide (n*64<=a)from decide_eq_decide.2 Wq1]
theorem disk_rd{w:World}{bk ML:Nat}{M4:List Int}(h:RdV w 1 (some ⟨bk,0,none⟩) 1024 1024 (ints .u8 M4))(hs:ML<16):Rd w .u8 (some ⟨bk,ML*64,none⟩) 64 (1024 - ML*64) ((M4.drop (ML*64)).take 64):=by
 have h1:=h.cut (lo:=ML*64) (hi:=ML*64+64) Wq1 Wq1;rw[if_neg Wq1,Option.map_some,Addr.add_lit,Nat.mul_one,bE,kB,pH,show ML*64+64 - ML*64=64 by omega,List.drop_take,show ML*64+64 - ML*64=64 by omega]at h1;exact h1
end Go.Ink
namespace Go.Proofs.YtkegldppffignaaGreatDoor
open Go.RowKit Go.Ink Go.Proofs.Tryz
attribute [local irreducible] OpY bS
theorem Lv(bd bk:Nat)(L:fu)(M:Mem)(M4:List Int)(hk:M4.length=1024)(hkb:u8s M4)(ML a cmd:Nat)(hs:ML<=4294967295)(ha:a<=4294967295)(w:World)(hi:Inv w (bM [EQ bd bk,Er bk M4,eA L M]) [EQ bd bk,Er bk M4,eA L M] w):
  Ctr prog 269 [.pointer (some ⟨bd,0,none⟩),.pointer (some ⟨L.bm,0,none⟩),.int .u32 ML,.int .u32 a,.int .u32 cmd] w [EQ bd bk,Er bk M4,eA L M] (λv cs=>v= .bool (gE L.n M M4 ML a cmd).1/\cs=[EQ bd bk,Er bk (gE L.n M M4 ML a cmd).2.2,eA L (gE L.n M M4 ML a cmd).2.1]):=by
 obtain⟨n1,n64,hdl,hdb,htl⟩:=mj (hi.ok (eA L M) cE);refine bN func269 rfl ntmps269 rfl hi ?_;refine ri ?_;refine Zyn rfl rfl (ij (dh rfl) (Zv rfl) Wq1 (show _=((a%64:Nat):Int)from by rw[aG Wq1];omega)) ?_;refine Z_5 ?_;refine eu (cy rfl rfl) (.cons (dh rfl) .nil) (λ_ _=>rfl) (λhg w hi=>kR L M w (hi.get (show Has _ (eA L M)from Zh))) rfl ?_;refine Z_4 ?_;refine ZW ?_ ?_<;>intro hc1
 .have hno:mc L.n ML a=false:=by(have h2:=(vL L.n ML a).symm.trans hc1;simpa using h2)
  have hdo:gE L.n M M4 ML a cmd=(false,M,M4):=by(unfold gE;rw[hno];rfl)
  rw[hdo];refine Z_7 ?_;refine Zrb ([row _ _ _,slv _ _ _ _ _ _,exC _ _ _ _]) ?_;exact de
 have hyes:mc L.n ML a=true:=by(have h2:=(vL L.n ML a).symm.trans hc1;simpa using h2)
 have hf:ML<16/\a%64=0/\a<L.n*64:=by(unfold mc at hyes;simp only[Bool.not_eq_true',bz,ah,bne_eq_false_iff_eq]at hyes;omega)
 obtain⟨s16,am,an⟩:=hf;have hdo:gE L.n M M4 ML a cmd=bif cmd==1 then(true,M.fill (a/64*64) ((M4.drop (ML*64)).take 64) 64,M4)else bif cmd==2 then(true,M,M4.take (ML*64)++(M.data.drop (a/64*64)).take 64++M4.drop (ML*64+64))else(false,M,M4):=by(unfold gE;rw[hyes];rfl)
 rw[hdo];have hsl:((M4.drop (ML*64)).take 64).length=64:=by(rw[aB,bI];omega)
 refine Z_9 ?_;refine Zy (jk (Zv rfl) (Zv rfl) (show _=((ML*64:Nat):Int)from(u32_wrap_id _ Wq1 Wq1).trans Wq1)) ?_;refine ZA ?_;refine Zy (df (Zv rfl) (Zv rfl) (show _=((ML+1:Nat):Int)from(u32_wrap_id _ Wq1 Wq1).trans Wq1)) ?_;refine Zy (jk (Zv rfl) (Zv rfl) (show _=((ML*64+64:Nat):Int)from(u32_wrap_id _ Wq1 Wq1).trans Wq1)) ?_;refine Zy (kL (sz:=1) (lo:=ML*64) (hi:=ML*64+64) (r:=ML*64) rfl Zrf (Zv rfl) (.inr ⟨_,_,rfl,(Zv rfl)⟩) (.inr ⟨_,_,rfl,(Zv rfl)⟩) Wq1 Wq1 Wq1 Wq1) ?_;refine Z_6 ?_;refine Zy (kp (Zv rfl) (Zv rfl) Wq1 (show _=((a/64:Nat):Int)from by rw[bD Wq1,u32_wrap_id _ Wq1 Wq1];omega)) ?_;refine Zy (ce rfl rfl Zv0 Zl) ?_;refine Z_6 ?_;rw[show ML*64+64 - ML*64=64 by omega];refine dS ?_;refine ZW ?_ ?_<;>intro hc6
 .have hcm:(cmd==1)=true:=(B7 cmd 1).symm.trans hc6;rw[hcm];simp only[ac];refine Z_5 ?_;refine ZcM ([eA L M]) (λw hi hin=>Aj L M (a/64) Wq1 (some ⟨bk,ML*64,none⟩) (1024 - ML*64) ((M4.drop (ML*64)).take 64) hsl (λx hx=>hkb x (List.mem_of_mem_drop (bj hx))) w hin (λw' hk=>disk_rd (hi.rdK (show zF _ (eA L M) (Er bk M4)from(by repeat (first|(refine .l _ ?_;repeat (first|exact .head _ _|apply Has.tail))|(refine .r _ ?_;repeat (first|exact .head _ _|apply Has.tail))|apply zF.t))) hk) s16)) ?_;refine Z_6 ?_;refine bP [EQ bd bk,Er bk M4,eA L (M.fill (a/64*64) ((M4.drop (ML*64)).take 64) 64)] Zj ?_;refine Zrb ([row _ _ _,slv _ _ _ _ _ _,exC _ _ _ _]) ?_;exact de
 have hcm:(cmd==1)=false:=(B7 cmd 1).symm.trans hc6;rw[hcm];simp only[aa];refine Z_6 ?_;refine ZW ?_ ?_<;>intro hc8
 .have hcm2:(cmd==2)=true:=(B7 cmd 2).symm.trans hc8;rw[hcm2];simp only[ac];refine Z_4 ?_;refine ZS (λw hi=>wN L M (a/64) Wq1 w (hi.get (show Has _ (eA L M)from Zh))) ?_;rintro _ _ ⟨_,⟨bq,rfl,rfl⟩,rfl⟩;refine fE ?_;refine gj (u9 rfl rfl Za rfl rfl (λw hi=>hi.rd (show Has _ (sl .u8 5 (some ⟨bq,0,none⟩) 64 64 ((M.data.drop (a/64*64)).take 64))from Zh)) cN Wq1) rfl ?_;rintro _ _ ⟨rfl,rfl⟩;rw[show(ints .u8 M4).take (ML*64)++(ints .u8 ((M.data.drop (a/64*64)).take 64)).take (min 64 64)++(ints .u8 M4).drop (ML*64+min 64 64)=ints .u8 (M4.take (ML*64)++(M.data.drop (a/64*64)).take 64++M4.drop (ML*64+64))from by(rw[Nat.min_self,kB,kB,pH,cj,cj,List.take_take,Nat.min_self])];refine fE ?_;refine Zrb ([row _ _ _,slv _ _ _ _ _ _,exC _ _ _ _]) ?_;exact de
 have hcm2:(cmd==2)=false:=(B7 cmd 2).symm.trans hc8;rw[hcm2];simp only[aa];refine Z_9 ?_;refine Zrb ([row _ _ _,slv _ _ _ _ _ _,exC _ _ _ _]) ?_;exact de
end Go.Proofs.YtkegldppffignaaGreatDoor
namespace Go.Ink
open Go.RowKit
structure Dev where
 M5:Int
 mask:Int
 timer:Int
 out:List Int
 inp:List Int
 M4:List Int
 ML:Nat
 place:Nat
 status:Int
structure p8 where
 bs:Nat
 bi:Nat
 bti:Nat
 bcn:Nat
 bdr:Nat
 bdk:Nat
structure nw where
 Ao:Option Addr
 co:Nat
 Ai:Option Addr
 ci:Nat
structure Dev.wf(d:Dev):Prop where
 Oj:u8s d.inp
 M4:d.M4.length=1024
 NS:u8s d.M4
 ML:d.ML<=4294967295
 place:d.place<=4294967295
 inp:d.inp.length<=1000000000
def uP(a:Nat):Int:=IntKind.u32.wrap ((a:Int) - 32768)
def di(d:Dev)(k count:Int):(Int×Bool)×Dev:=
 bif k==0 then((d.M5,true),d)else bif k==4 then((d.mask,true),d)else bif k==8 then((d.timer,true),d)else bif k==12 then((IntKind.u32.wrap count,true),d)else
 bif k==16 then((0,true),d)else bif k==40 then((0,true),d)else bif k==20 then((gB d.inp 0,true),{d with inp:=d.inp.tail})else bif k==24 then(((d.inp.length:Int),true),d)else
 bif k==32 then(((d.ML:Int),true),d)else bif k==36 then(((d.place:Int),true),d)else bif k==44 then((d.status,true),d)else((0,false),d)
def fO(n:Nat)(M:Mem)(d:Dev)(v:Nat):Mem×Dev:=
 ((gE n M d.M4 d.ML d.place v).2.1,{d with M4:=(gE n M d.M4 d.ML d.place v).2.2,status:=bif(gE n M d.M4 d.ML d.place v).1 then 0 else 1,M5:=bits .or .u32 d.M5 (lW [2])})
def cO(n:Nat)(M:Mem)(d:Dev)(k:Int)(v:Nat):Bool×Mem×Dev:=
 bif k==0 then(true,M,{d with M5:=bits .andNot .u32 d.M5 v})else bif k==4 then(true,M,{d with mask:=bits .and .u32 v 255})else bif k==8 then(true,M,{d with timer:=v})else
 bif k==16 then(true,M,{d with out:=d.out++[IntKind.u8.wrap v]})else bif k==32 then(true,M,{d with ML:=v})else bif k==36 then(true,M,{d with place:=v})else
 bif k==40 then(true,fO n M d v)else bif k==12 then(true,M,d)else bif k==20 then(true,M,d)else bif k==24 then(true,M,d)else bif k==44 then(true,M,d)else(false,M,d)
end Go.Ink
namespace Go.Proofs.YtkegldppffignaaGreatDoor
open Go.RowKit Go.Ink Go.Proofs.Tryz
attribute [local irreducible] OpY bS
abbrev MD(D:p8)(bm:Nat)(d:Dev):bL:=row D.bs [.pointer (some ⟨D.bi,0,none⟩),.pointer (some ⟨D.bti,0,none⟩),.pointer (some ⟨D.bcn,0,none⟩),.pointer (some ⟨D.bdr,0,none⟩),.pointer (some ⟨bm,0,none⟩),.int .u32 (d.ML:Int),.int .u32 (d.place:Int),.int .u32 d.status] 55
abbrev lm(D:p8)(bm:Nat)(X:nw)(d:Dev):List bL:=[MD D bm d,pF D.bi d.M5 d.mask,Dv D.bti d.timer,uc D.bcn X.Ao d.out.length X.co X.Ai d.inp.length X.ci,b8 X.Ao X.co d.out,b8 X.Ai X.ci d.inp,EQ D.bdr D.bdk,Er D.bdk d.M4]
theorem EB(D:p8)(bm:Nat)(X:nw)(d:Dev)(hd:d.wf)(a:Nat)(count:Int)(w:World)(hi:Inv w (bM (lm D bm X d)) (lm D bm X d) w):
  Ctr prog 243 [.pointer (some ⟨D.bs,0,none⟩),.int .u32 a,.int .u64 count] w (lm D bm X d) (λv cs=>∃X',v= .tuple #[.int .u32 (di d (uP a) count).1.1,.bool (di d (uP a) count).1.2]/\cs=lm D bm X' (di d (uP a) count).2):=by
 have hinp:=hd.inp;have hgb:IntKind.u32.wrap (gB d.inp 0)=gB d.inp 0:=by have:=ji hd.Oj 0;exact u32_wrap_id _ Wq1 Wq1
 obtain⟨k,hk⟩:=Zgn (uP a);rw[hk];unfold uP at hk;refine bN func243 rfl ntmps243 rfl hi ?_;refine dS ?_;refine Zy (eE Zv0 Zv0 hk) ?_;refine Z_9 ?_;refine ZW ?_ ?_<;>intro hc2
 .refine Z_6 ?_;refine ZSe (λw hi=>qr D.bi d.M5 d.mask w (hi.get Zh)) ?_;refine Z_7 ?_;refine EJ ?_;refine⟨X,?_,?_⟩
  .simp only[di, *,ac,aa]
  simp only[di, *,ac,aa]
 refine Z_6 ?_;refine ZW ?_ ?_<;>intro hc4
 .refine Z_6 ?_;refine ZSe (λw hi=>GN D.bi d.M5 d.mask w (hi.get Zh)) ?_;refine Z_7 ?_;refine EJ ?_;refine⟨X,?_,?_⟩
  .simp only[di, *,ac,aa]
  simp only[di, *,ac,aa]
 refine Z_6 ?_;refine ZW ?_ ?_<;>intro hc6
 .refine Z_6 ?_;refine ZSe (λw hi=>JD D.bti d.timer w (hi.get Zh)) ?_;refine Z_7 ?_;refine EJ ?_;refine⟨X,?_,?_⟩
  .simp only[di, *,ac,aa]
  simp only[di, *,ac,aa]
 refine Z_6 ?_;refine ZW ?_ ?_<;>intro hc8
 .refine Z_3 ?_;refine Zy (ce rfl rfl Zv0 rfl) ?_;refine Z_7 ?_;refine EJ ?_;refine⟨X,?_,?_⟩
  .simp only[di, *,ac,aa]
  simp only[di, *,ac,aa]
 refine Z_7 ?_;refine ZW ?_ ?_<;>intro hc10
 .refine Z_2 ?_;refine bW rfl (hc10) ?_;refine Z_9 ?_;refine EJ ?_;refine⟨X,?_,?_⟩
  .simp only[di, *,ac,aa]
  simp only[di, *,ac,aa]
 refine Z_5 ?_;refine ZW ?_ ?_<;>intro hc11
 .refine Z_9 ?_;refine EJ ?_;refine⟨X,?_,?_⟩
  .simp only[di, *,ac,aa]
  simp only[di, *,ac,aa]
 refine Z_6 ?_;refine ZW ?_ ?_<;>intro hc13
 .refine Z_6 ?_;refine ZcL ([uc D.bcn X.Ao d.out.length X.co X.Ai d.inp.length X.ci,b8 X.Ai X.ci d.inp]) (λw hi hin=>LB D.bcn X.Ao d.out.length X.co X.Ai X.ci d.inp hinp w hin) ?_;rintro _ _ ⟨_,⟨Ai',ci',rfl,rfl⟩,rfl⟩;refine Zy (ce rfl rfl (Zv rfl) (show IntKind.u32.wrap (gB d.inp 0)=gB d.inp 0 from hgb)) ?_;refine Z_7 ?_;refine bP (lm D bm ⟨X.Ao,X.co,Ai',ci'⟩ {d with inp:=d.inp.tail}) Zj ?_;refine EJ ?_;refine⟨⟨X.Ao,X.co,Ai',ci'⟩,?_,?_⟩
  .simp only[di, *,ac,aa]
  simp only[di, *,ac,aa]
 refine Z_6 ?_;refine ZW ?_ ?_<;>intro hc15
 .refine Z_6 ?_;refine ZSe (λw hi=>pX D.bcn X.Ao d.out.length X.co X.Ai d.inp.length X.ci w (hi.get Zh)) ?_;refine Zy (ce rfl rfl (Zv rfl) (u32_wrap_id _ Wq1 Wq1)) ?_;refine Z_7 ?_;refine EJ ?_;refine⟨X,?_,?_⟩
  .simp only[di, *,ac,aa]
  simp only[di, *,ac,aa]
 refine Z_6 ?_;refine ZW ?_ ?_<;>intro hc17
 .refine jd ?_;refine EJ ?_;refine⟨X,?_,?_⟩
  .simp only[di, *,ac,aa]
  simp only[di, *,ac,aa]
 refine Z_6 ?_;refine ZW ?_ ?_<;>intro hc19
 .refine jd ?_;refine EJ ?_;refine⟨X,?_,?_⟩
  .simp only[di, *,ac,aa]
  simp only[di, *,ac,aa]
 refine Z_6 ?_;refine ZW ?_ ?_<;>intro hc21
 .refine jd ?_;refine EJ ?_;refine⟨X,?_,?_⟩
  .simp only[di, *,ac,aa]
  simp only[di, *,ac,aa]
 refine dS ?_;refine EJ ?_;refine⟨X,?_,?_⟩
 .simp only[di, *,ac,aa]
 simp only[di, *,ac,aa]
theorem Bj(D:p8)(L:fu)(M:Mem)(X:nw)(d:Dev)(hd:d.wf)(ho:d.out.length<=1000000000)(a v:Nat)(count:Int)(w:World)(hi:Inv w (bM (lm D L.bm X d++[eA L M])) (lm D L.bm X d++[eA L M]) w):
  Ctr prog 244 [.pointer (some ⟨D.bs,0,none⟩),.int .u32 a,.int .u32 v,.int .u64 count] w (lm D L.bm X d++[eA L M]) (λx cs=>∃X',x= .bool (cO L.n M d (uP a) v).1/\cs=lm D L.bm X' (cO L.n M d (uP a) v).2.2++[eA L (cO L.n M d (uP a) v).2.1]):=by
 obtain⟨k,hk⟩:=Zgn (uP a);rw[hk];unfold uP at hk;refine bN func244 rfl ntmps244 rfl hi ?_;refine Z_9 ?_;refine Zy (eE Zv0 Zv0 hk) ?_;refine Z_9 ?_;refine ZW ?_ ?_<;>intro hc3
 .refine Z_6 ?_;refine ZcM ([pF D.bi d.M5 d.mask]) (λw hi hin=>Hs D.bi d.M5 d.mask v w hin) ?_;refine Z_9 ?_;refine bP (lm D L.bm X {d with M5:=bits .andNot .u32 d.M5 v}++[eA L M]) Zj ?_;refine EI ?_;refine⟨X,?_,?_⟩
  .simp only[cO,fO, *,ac,aa]<;>exact rfl
  simp only[cO,fO, *,ac,aa]<;>exact rfl
 refine Z_6 ?_;refine ZW ?_ ?_<;>intro hc5
 .refine Z_6 ?_;refine ZcM ([pF D.bi d.M5 d.mask]) (λw hi hin=>AS D.bi d.M5 d.mask v w hin) ?_;refine Z_9 ?_;refine bP (lm D L.bm X {d with mask:=bits .and .u32 v 255}++[eA L M]) Zj ?_;refine EI ?_;refine⟨X,?_,?_⟩
  .simp only[cO,fO, *,ac,aa]<;>exact rfl
  simp only[cO,fO, *,ac,aa]<;>exact rfl
 refine Z_6 ?_;refine ZW ?_ ?_<;>intro hc7
 .refine Z_6 ?_;refine ZcM ([Dv D.bti d.timer]) (λw hi hin=>tset_ok D.bti d.timer v w hin) ?_;refine Z_9 ?_;refine bP (lm D L.bm X {d with timer:=v}++[eA L M]) Zj ?_;refine EI ?_;refine⟨X,?_,?_⟩
  .simp only[cO,fO, *,ac,aa]<;>exact rfl
  simp only[cO,fO, *,ac,aa]<;>exact rfl
 refine Z_6 ?_;refine ZW ?_ ?_<;>intro hc9
 .refine Z_6 ?_;refine Zy (ce rfl rfl Zv0 rfl) ?_;refine ZcL ([uc D.bcn X.Ao d.out.length X.co X.Ai d.inp.length X.ci,b8 X.Ao X.co d.out]) (λw hi hin=>IH D.bcn X.Ao X.co d.out X.Ai d.inp.length X.ci (IntKind.u8.wrap v) ho w hin) ?_;rintro _ _ ⟨_,⟨Ao',co',rfl,rfl⟩,rfl⟩;refine Z_9 ?_;refine bP (lm D L.bm ⟨Ao',co',X.Ai,X.ci⟩ {d with out:=d.out++[IntKind.u8.wrap v]}++[eA L M]) Zj ?_;refine EI ?_;refine⟨⟨Ao',co',X.Ai,X.ci⟩,?_,?_⟩
  .simp only[cO, *,ac,aa]<;>exact rfl
  simp only[cO, *,ac,aa]<;>exact rfl
 refine Z_6 ?_;refine ZW ?_ ?_<;>intro hc11
 .refine Z_5 ?_;refine ZL ?_;refine Z_9 ?_;refine EI ?_;refine⟨X,?_,?_⟩
  .simp only[cO,fO, *,ac,aa]<;>exact rfl
  simp only[cO,fO, *,ac,aa]<;>exact rfl
 refine Z_6 ?_;refine ZW ?_ ?_<;>intro hc13
 .refine Z_5 ?_;refine ZL ?_;refine Z_9 ?_;refine EI ?_;refine⟨X,?_,?_⟩
  .simp only[cO,fO, *,ac,aa]<;>exact rfl
  simp only[cO,fO, *,ac,aa]<;>exact rfl
 refine Z_6 ?_;refine ZW ?_ ?_<;>intro hc15
 .refine Z_5 ?_;refine ZL ?_;refine Z_4 ?_;refine bU ⟨λj=>List.elem j [17],[]⟩ Zk ?_;refine gO ?_;refine ZFe 2 3 ?_;refine ZG 3 ?_;refine ZE 4 ?_;refine ZE 5 ?_;refine ZFe 6 4 ?_;refine ZG 7 ?_;refine ZE 8 ?_;refine ZE 9 ?_;refine ZFe 10 5 ?_;refine ZG 11 ?_;refine ZE 12 ?_;refine ZE 13 ?_;refine ZFe 14 6 ?_;refine ZG 15 ?_;refine ZE 16 ?_;refine cn 17 Zk ?_;refine ZcA ([EQ D.bdr D.bdk,Er D.bdk d.M4,eA L M]) (λw hi hin=>Lv D.bdr D.bdk L M d.M4 hd.M4 hd.NS d.ML d.place v hd.ML hd.place w hin) ?_;rintro _ _ ⟨_,⟨rfl,rfl⟩,rfl⟩;refine dx ?_;refine Zt ?_;refine ZW ?_ ?_<;>intro hc17
  .refine Z_4 ?_;refine ZL ?_;refine Z_7 ?_;refine jO ?_;rintro _ _ ⟨b86,rfl,rfl⟩;refine ZcM ([pF D.bi d.M5 d.mask]) (λw hi hin=>mX D.bi d.M5 d.mask (some ⟨b86,0,none⟩) 1 [2] cE w hin (λw' hk=>hi.rdK (show zF _ (pF D.bi d.M5 d.mask) (slv 3 1 (some ⟨b86,0,none⟩) 1 1 [.int .i64 2])from(by repeat (first|(refine .l _ ?_;repeat (first|exact .head _ _|apply Has.tail))|(refine .r _ ?_;repeat (first|exact .head _ _|apply Has.tail))|apply zF.t))) hk)) ?_;refine Z_9 ?_;refine bP (lm D L.bm X {d with M4:=(gE L.n M d.M4 d.ML d.place v).2.2,status:=0,M5:=bits .or .u32 d.M5 (lW [2])}++[eA L (gE L.n M d.M4 d.ML d.place v).2.1]) Zj ?_;refine EI ?_;refine⟨X,?_,?_⟩
   .simp only[cO,fO, *,ac,aa]<;>exact rfl
   simp only[cO,fO, *,ac,aa]<;>exact rfl
  refine Z_7 ?_;refine jO ?_;rintro _ _ ⟨b86,rfl,rfl⟩;refine ZcM ([pF D.bi d.M5 d.mask]) (λw hi hin=>mX D.bi d.M5 d.mask (some ⟨b86,0,none⟩) 1 [2] cE w hin (λw' hk=>hi.rdK (show zF _ (pF D.bi d.M5 d.mask) (slv 3 1 (some ⟨b86,0,none⟩) 1 1 [.int .i64 2])from(by repeat (first|(refine .l _ ?_;repeat (first|exact .head _ _|apply Has.tail))|(refine .r _ ?_;repeat (first|exact .head _ _|apply Has.tail))|apply zF.t))) hk)) ?_;refine Z_9 ?_;refine bP (lm D L.bm X {d with M4:=(gE L.n M d.M4 d.ML d.place v).2.2,status:=1,M5:=bits .or .u32 d.M5 (lW [2])}++[eA L (gE L.n M d.M4 d.ML d.place v).2.1]) Zj ?_;refine EI ?_;refine⟨X,?_,?_⟩
  .simp only[cO,fO, *,ac,aa]<;>exact rfl
  simp only[cO,fO, *,ac,aa]<;>exact rfl
 refine Z_7 ?_;refine ZW ?_ ?_<;>intro hc20
 .refine Z_2 ?_;refine bW rfl (hc20) ?_;refine Z_9 ?_;refine EI ?_;refine⟨X,?_,?_⟩
  .simp only[cO,fO, *,ac,aa]<;>exact rfl
  simp only[cO,fO, *,ac,aa]<;>exact rfl
 refine Z_6 ?_;refine ZW ?_ ?_<;>intro hc21
 .refine Z_2 ?_;refine bW rfl (hc21) ?_;refine Z_9 ?_;refine EI ?_;refine⟨X,?_,?_⟩
  .simp only[cO,fO, *,ac,aa]<;>exact rfl
  simp only[cO,fO, *,ac,aa]<;>exact rfl
 refine Z_6 ?_;refine ZW ?_ ?_<;>intro hc22
 .refine Z_2 ?_;refine bW rfl (hc22) ?_;refine Z_9 ?_;refine EI ?_;refine⟨X,?_,?_⟩
  .simp only[cO,fO, *,ac,aa]<;>exact rfl
  simp only[cO,fO, *,ac,aa]<;>exact rfl
 refine Z_5 ?_;refine ZW ?_ ?_<;>intro hc23
 .refine Z_9 ?_;refine EI ?_;refine⟨X,?_,?_⟩
  .simp only[cO,fO, *,ac,aa]<;>exact rfl
  simp only[cO,fO, *,ac,aa]<;>exact rfl
 refine Z_8 ?_;refine EI ?_;refine⟨X,?_,?_⟩
 .simp only[cO,fO, *,ac,aa]<;>exact rfl
 simp only[cO,fO, *,ac,aa]<;>exact rfl
end Go.Proofs.YtkegldppffignaaGreatDoor
namespace Go.Ink
open Go.RowKit
def xc(op:Int):Bool:=bif op==16 then true else bif op==17 then true else bif op==18 then true else bif op==19 then true else bif op==20 then true else bif op==21 then true else bif op==22 then true else bif op==23 then true else bif op==24 then true else bif op==25 then true else bif op==48 then true else bif op==49 then true else bif op==50 then true else bif op==51 then true else bif op==52 then true else bif op==53 then true else bif op==64 then true else bif op==65 then true else bif op==66 then true else bif op==67 then true else bif op==68 then true else bif op==69 then true else false
def ft(op:Int):Bool:=bif op==0 then true else bif op==1 then true else bif op==2 then true else bif op==3 then true else bif op==4 then true else bif op==5 then true else bif op==6 then true else bif op==7 then true else bif op==8 then true else bif op==32 then true else bif op==33 then true else bif op==34 then true else bif op==35 then true else bif op==36 then true else bif op==37 then true else bif op==38 then true else bif op==39 then true else bif op==40 then true else xc op
def cA(op:Int):Int:=bif op==1 then 2 else bif op==32 then 2 else bif op==33 then 2 else bif op==34 then 2 else bif op==35 then 2 else bif op==36 then 2 else bif op==37 then 2 else bif op==38 then 2 else bif op==66 then 2 else bif op==67 then 2 else bif op==2 then 5 else bif !ft op then 0 else 1
def fI(op n:Int):Bool:=bif cA op==0 then false else bif cA op==1 then n==0 else bif cA op==2 then decide (n<=255)else true
def qt(op:Int):Bool:=decide (65<=op)&&decide (op<=69)
def dE(r:Int):Int:=bif bits .and .u32 r 2147483648 !=0 then bits .or .u32 (bif r==0 then bits .or .u32 0 1 else 0) 2 else bif r==0 then bits .or .u32 0 1 else 0
def iq(a b:Int)(up:Bool):Int:=bif decide (32<=b)then 0 else bif up then IntKind.u32.wrap (a*2^(min b.toNat IntKind.u32.bits))else a.fdiv (2^(min b.toNat IntKind.u32.bits))
def jK(a b r f:Int)(c:Bool)(o:Int):Int:=bif o !=0 then bits .or .u32 (bif c then bits .or .u32 f 4 else f) 8 else bif c then bits .or .u32 f 4 else f
def fe(a b:Int):Int:=jK a b 0 (dE (IntKind.u32.wrap (a - b))) (decide (a<b)) (bits .and .u32 (bits .and .u32 (bits .xor .u32 a b) (bits .xor .u32 a (IntKind.u32.wrap (a - b)))) 2147483648)
def lE(a b:Int):Int:=jK a b 0 (dE (IntKind.u32.wrap (a+b))) (decide (IntKind.u32.wrap (a+b)<a)) (bits .and .u32 (bits .and .u32 (bits .xor .u32 a (IntKind.u32.wrap (a+b))) (bits .xor .u32 b (IntKind.u32.wrap (a+b)))) 2147483648)
def vT(r:Int):Int×Int×Bool:=(r,dE r,true)
def iN(op a b:Int):Int×Int×Bool:=
 bif op==16 then(IntKind.u32.wrap (a+b),lE a b,true)else bif op==17 then(IntKind.u32.wrap (a - b),fe a b,true)else bif op==25 then(0,fe a b,true)else bif op==18 then vT (bits .and .u32 a b)else bif op==19 then vT (bits .or .u32 a b)else bif op==20 then vT (bits .xor .u32 a b)else bif op==21 then vT (iq a b true)else bif op==22 then vT (iq a b false)else bif op==23 then vT (IntKind.u32.wrap (a*b))else bif op==24 then(bif b==0 then(0,0,false)else vT (IntKind.u32.wrap (a.tdiv b)))else(0,0,false)
def cY(op f:Int):Bool×Bool:=bif op==33 then(bits .and .u32 f 1 !=0,true)else bif op==34 then(bits .and .u32 f 1==0,true)else bif op==35 then(bits .and .u32 f 4 !=0,true)else bif op==36 then(bits .and .u32 f 2 !=0,true)else bif op==37 then(bits .and .u32 f 8 !=0,true)else(false,false)
def lI(b:Int):Int:=IntKind.u32.wrap (IntKind.i32.wrap (IntKind.i8.wrap b))
def bY(op:Int):(Nat×Nat)×(Nat×Nat):=
 bif op==1 then((0,1),(0,0))else bif op==2 then((0,1),(0,0))else bif op==66 then((0,1),(0,0))else bif op==3 then((1,2),(0,0))else bif op==4 then((1,0),(0,0))else bif op==40 then((1,0),(0,0))else bif op==67 then((1,0),(0,0))else bif op==68 then((1,0),(0,0))else bif op==5 then((2,2),(0,0))else bif op==6 then((2,3),(0,0))else bif op==7 then((1,0),(0,1))else bif op==8 then((0,1),(1,0))else bif op==16 then((2,1),(0,0))else bif op==17 then((2,1),(0,0))else bif op==18 then((2,1),(0,0))else bif op==19 then((2,1),(0,0))else bif op==20 then((2,1),(0,0))else bif op==21 then((2,1),(0,0))else bif op==22 then((2,1),(0,0))else bif op==23 then((2,1),(0,0))else bif op==24 then((2,1),(0,0))else bif op==25 then((2,0),(0,0))else bif op==49 then((2,0),(0,0))else bif op==51 then((2,0),(0,0))else bif op==53 then((2,0),(0,0))else bif op==48 then((1,1),(0,0))else bif op==50 then((1,1),(0,0))else bif op==52 then((1,1),(0,0))else bif op==38 then((0,0),(0,1))else bif op==39 then((0,0),(1,0))else((0,0),(0,0))
end Go.Ink
namespace Go.Proofs.YtkegldppffignaaGreatDoor
open Go.RowKit Go.Ink Go.Proofs.Tryz
attribute [local irreducible] OpY bS
theorem Kr(op:Int)(w:World):Ctr prog 137 [.int .i64 op] w [] (λv cs=>(∃s,v= .string s/\(s.data.toList==[])= !xc op)/\cs=[]):=by
 refine bN func137 rfl ntmps137 rfl (Inv.start w) ?_;refine Bn ?_;refine ZW ?_ ?_<;>intro hc2
 .refine fX ?_;refine⟨⟨_,rfl,?_⟩,rfl⟩;exact un
 refine Z_6 ?_;refine ZW ?_ ?_<;>intro hc4
 .refine fX ?_;refine⟨⟨_,rfl,?_⟩,rfl⟩;exact un
 refine Z_6 ?_;refine ZW ?_ ?_<;>intro hc6
 .refine fX ?_;refine⟨⟨_,rfl,?_⟩,rfl⟩;exact un
 refine Z_6 ?_;refine ZW ?_ ?_<;>intro hc8
 .refine fX ?_;refine⟨⟨_,rfl,?_⟩,rfl⟩;exact un
 refine Z_6 ?_;refine ZW ?_ ?_<;>intro hc10
 .refine fX ?_;refine⟨⟨_,rfl,?_⟩,rfl⟩;exact un
 refine Z_6 ?_;refine ZW ?_ ?_<;>intro hc12
 .refine fX ?_;refine⟨⟨_,rfl,?_⟩,rfl⟩;exact un
 refine Z_6 ?_;refine ZW ?_ ?_<;>intro hc14
 .refine fX ?_;refine⟨⟨_,rfl,?_⟩,rfl⟩;exact un
 refine Z_6 ?_;refine ZW ?_ ?_<;>intro hc16
 .refine fX ?_;refine⟨⟨_,rfl,?_⟩,rfl⟩;exact un
 refine Z_6 ?_;refine ZW ?_ ?_<;>intro hc18
 .refine fX ?_;refine⟨⟨_,rfl,?_⟩,rfl⟩;exact un
 refine Z_6 ?_;refine ZW ?_ ?_<;>intro hc20
 .refine fX ?_;refine⟨⟨_,rfl,?_⟩,rfl⟩;exact un
 refine Z_6 ?_;refine ZW ?_ ?_<;>intro hc22
 .refine fX ?_;refine⟨⟨_,rfl,?_⟩,rfl⟩;exact un
 refine Z_6 ?_;refine ZW ?_ ?_<;>intro hc24
 .refine fX ?_;refine⟨⟨_,rfl,?_⟩,rfl⟩;exact un
 refine Z_6 ?_;refine ZW ?_ ?_<;>intro hc26
 .refine fX ?_;refine⟨⟨_,rfl,?_⟩,rfl⟩;exact un
 refine Z_6 ?_;refine ZW ?_ ?_<;>intro hc28
 .refine fX ?_;refine⟨⟨_,rfl,?_⟩,rfl⟩;exact un
 refine Z_6 ?_;refine ZW ?_ ?_<;>intro hc30
 .refine fX ?_;refine⟨⟨_,rfl,?_⟩,rfl⟩;exact un
 refine Z_6 ?_;refine ZW ?_ ?_<;>intro hc32
 .refine fX ?_;refine⟨⟨_,rfl,?_⟩,rfl⟩;exact un
 refine Z_6 ?_;refine ZW ?_ ?_<;>intro hc34
 .refine fX ?_;refine⟨⟨_,rfl,?_⟩,rfl⟩;exact un
 refine Z_6 ?_;refine ZW ?_ ?_<;>intro hc36
 .refine fX ?_;refine⟨⟨_,rfl,?_⟩,rfl⟩;exact un
 refine Z_6 ?_;refine ZW ?_ ?_<;>intro hc38
 .refine fX ?_;refine⟨⟨_,rfl,?_⟩,rfl⟩;exact un
 refine Z_6 ?_;refine ZW ?_ ?_<;>intro hc40
 .refine fX ?_;refine⟨⟨_,rfl,?_⟩,rfl⟩;exact un
 refine Z_6 ?_;refine ZW ?_ ?_<;>intro hc42
 .refine fX ?_;refine⟨⟨_,rfl,?_⟩,rfl⟩;exact un
 refine Z_6 ?_;refine ZW ?_ ?_<;>intro hc44
 .refine fX ?_;refine⟨⟨_,rfl,?_⟩,rfl⟩;exact un
 refine Z_9 ?_;refine Zra ?_;refine⟨⟨_,rfl,?_⟩,rfl⟩;exact un
theorem name_ok(op:Int)(w:World):Ctr prog 114 [.int .i64 op] w [] (λv cs=>(∃s,v= .string s/\(s.data.toList==[])= !ft op)/\cs=[]):=by
 refine bN func114 rfl ntmps114 rfl (Inv.start w) ?_;refine Bn ?_;refine ZW ?_ ?_<;>intro hc2
 .refine fX ?_;refine⟨⟨_,rfl,?_⟩,rfl⟩;simp only[ft, *,ac,aa];exact rfl
 refine Z_6 ?_;refine ZW ?_ ?_<;>intro hc4
 .refine fX ?_;refine⟨⟨_,rfl,?_⟩,rfl⟩;simp only[ft, *,ac,aa];exact rfl
 refine Z_6 ?_;refine ZW ?_ ?_<;>intro hc6
 .refine fX ?_;refine⟨⟨_,rfl,?_⟩,rfl⟩;simp only[ft, *,ac,aa];exact rfl
 refine Z_6 ?_;refine ZW ?_ ?_<;>intro hc8
 .refine fX ?_;refine⟨⟨_,rfl,?_⟩,rfl⟩;simp only[ft, *,ac,aa];exact rfl
 refine Z_6 ?_;refine ZW ?_ ?_<;>intro hc10
 .refine fX ?_;refine⟨⟨_,rfl,?_⟩,rfl⟩;simp only[ft, *,ac,aa];exact rfl
 refine Z_6 ?_;refine ZW ?_ ?_<;>intro hc12
 .refine fX ?_;refine⟨⟨_,rfl,?_⟩,rfl⟩;simp only[ft, *,ac,aa];exact rfl
 refine Z_6 ?_;refine ZW ?_ ?_<;>intro hc14
 .refine fX ?_;refine⟨⟨_,rfl,?_⟩,rfl⟩;simp only[ft, *,ac,aa];exact rfl
 refine Z_6 ?_;refine ZW ?_ ?_<;>intro hc16
 .refine fX ?_;refine⟨⟨_,rfl,?_⟩,rfl⟩;simp only[ft, *,ac,aa];exact rfl
 refine Z_6 ?_;refine ZW ?_ ?_<;>intro hc18
 .refine fX ?_;refine⟨⟨_,rfl,?_⟩,rfl⟩;simp only[ft, *,ac,aa];exact rfl
 refine Z_6 ?_;refine ZW ?_ ?_<;>intro hc20
 .refine fX ?_;refine⟨⟨_,rfl,?_⟩,rfl⟩;simp only[ft, *,ac,aa];exact rfl
 refine Z_6 ?_;refine ZW ?_ ?_<;>intro hc22
 .refine fX ?_;refine⟨⟨_,rfl,?_⟩,rfl⟩;simp only[ft, *,ac,aa];exact rfl
 refine Z_6 ?_;refine ZW ?_ ?_<;>intro hc24
 .refine fX ?_;refine⟨⟨_,rfl,?_⟩,rfl⟩;simp only[ft, *,ac,aa];exact rfl
 refine Z_6 ?_;refine ZW ?_ ?_<;>intro hc26
 .refine fX ?_;refine⟨⟨_,rfl,?_⟩,rfl⟩;simp only[ft, *,ac,aa];exact rfl
 refine Z_6 ?_;refine ZW ?_ ?_<;>intro hc28
 .refine fX ?_;refine⟨⟨_,rfl,?_⟩,rfl⟩;simp only[ft, *,ac,aa];exact rfl
 refine Z_6 ?_;refine ZW ?_ ?_<;>intro hc30
 .refine fX ?_;refine⟨⟨_,rfl,?_⟩,rfl⟩;simp only[ft, *,ac,aa];exact rfl
 refine Z_6 ?_;refine ZW ?_ ?_<;>intro hc32
 .refine fX ?_;refine⟨⟨_,rfl,?_⟩,rfl⟩;simp only[ft, *,ac,aa];exact rfl
 refine Z_6 ?_;refine ZW ?_ ?_<;>intro hc34
 .refine fX ?_;refine⟨⟨_,rfl,?_⟩,rfl⟩;simp only[ft, *,ac,aa];exact rfl
 refine Z_6 ?_;refine ZW ?_ ?_<;>intro hc36
 .refine fX ?_;refine⟨⟨_,rfl,?_⟩,rfl⟩;simp only[ft, *,ac,aa];exact rfl
 refine Z_6 ?_;refine ZS (λw hi=>Kr op w) ?_;rintro _ _ ⟨_,⟨⟨s,rfl,hs⟩,rfl⟩,rfl⟩;refine Z_4 ?_;have hz:=hs;refine Zra ?_;refine⟨⟨_,rfl,?_⟩,rfl⟩;rw[hs];simp only[ft, *,ac,aa]
theorem sJ(op:Int)(w:World):Ctr prog 92 [.int .i64 op] w [] (λv cs=>v= .int .i64 (cA op)/\cs=[]):=by
 refine bN func92 rfl ntmps92 rfl (Inv.start w) ?_;refine Je ?_;refine ZW ?_ ?_<;>intro hc2
 .refine Z_2 ?_;refine bW rfl (hc2) ?_;refine fX ?_;refine⟨?_,rfl⟩;simp only[cA, *,ac,aa]
 refine Z_6 ?_;refine ZW ?_ ?_<;>intro hc3
 .refine Z_2 ?_;refine bW rfl (hc3) ?_;refine fX ?_;refine⟨?_,rfl⟩;simp only[cA, *,ac,aa]
 refine Z_6 ?_;refine ZW ?_ ?_<;>intro hc4
 .refine Z_2 ?_;refine bW rfl (hc4) ?_;refine fX ?_;refine⟨?_,rfl⟩;simp only[cA, *,ac,aa]
 refine Z_6 ?_;refine ZW ?_ ?_<;>intro hc5
 .refine Z_2 ?_;refine bW rfl (hc5) ?_;refine fX ?_;refine⟨?_,rfl⟩;simp only[cA, *,ac,aa]
 refine Z_6 ?_;refine ZW ?_ ?_<;>intro hc6
 .refine Z_2 ?_;refine bW rfl (hc6) ?_;refine fX ?_;refine⟨?_,rfl⟩;simp only[cA, *,ac,aa]
 refine Z_6 ?_;refine ZW ?_ ?_<;>intro hc7
 .refine Z_2 ?_;refine bW rfl (hc7) ?_;refine fX ?_;refine⟨?_,rfl⟩;simp only[cA, *,ac,aa]
 refine Z_6 ?_;refine ZW ?_ ?_<;>intro hc8
 .refine Z_2 ?_;refine bW rfl (hc8) ?_;refine fX ?_;refine⟨?_,rfl⟩;simp only[cA, *,ac,aa]
 refine Z_6 ?_;refine ZW ?_ ?_<;>intro hc9
 .refine Z_2 ?_;refine bW rfl (hc9) ?_;refine fX ?_;refine⟨?_,rfl⟩;simp only[cA, *,ac,aa]
 refine Z_6 ?_;refine ZW ?_ ?_<;>intro hc10
 .refine Z_2 ?_;refine bW rfl (hc10) ?_;refine fX ?_;refine⟨?_,rfl⟩;simp only[cA, *,ac,aa]
 refine Z_5 ?_;refine ZW ?_ ?_<;>intro hc11
 .refine fX ?_;refine⟨?_,rfl⟩;simp only[cA, *,ac,aa]
 refine Z_6 ?_;refine ZW ?_ ?_<;>intro hc13
 .refine fX ?_;refine⟨?_,rfl⟩;simp only[cA, *,ac,aa]
 refine Z_7 ?_;refine ZS (λw hi=>name_ok op w) ?_;rintro _ _ ⟨_,⟨⟨s,rfl,hs⟩,rfl⟩,rfl⟩;refine Zy (my rfl (Zv rfl) (Zv rfl) hs) ?_;refine Z_2 ?_;refine ZW ?_ ?_<;>intro hc15
 .refine Z_7 ?_;refine Zra ?_;refine⟨?_,rfl⟩;simp only[cA, *,ac,aa]
 refine fX ?_;refine⟨?_,rfl⟩;simp only[cA, *,ac,aa]
theorem tG(op n:Int)(w:World):Ctr prog 65 [.agg #[.int .i64 op,.int .u32 n]] w [] (λv cs=>v= .bool (fI op n)/\cs=[]):=by
 refine bN func65 rfl ntmps65 rfl (Inv.start w) ?_;refine Z_2 ?_;refine ZO λb1=>?_;refine Z_8 ?_;refine ZSe (λw hi=>sJ op w) ?_;refine Z_9 ?_;refine ZW ?_ ?_<;>intro hc2
 .refine fX ?_;refine⟨?_,rfl⟩;simp only[fI, *,ac,aa]
 refine Z_6 ?_;refine ZW ?_ ?_<;>intro hc4
 .refine fE ?_;refine Zra ?_;refine⟨?_,rfl⟩;simp only[fI, *,ac,aa]
 refine Z_6 ?_;refine ZW ?_ ?_<;>intro hc6
 .refine fE ?_;refine Zra ?_;refine⟨?_,rfl⟩;simp only[fI, *,ac,aa]
 refine Z_9 ?_;refine Zra ?_;refine⟨?_,rfl⟩;simp only[fI, *,ac,aa]
theorem H6(op:Int)(w:World):Ctr prog 190 [.int .i64 op] w [] (λv cs=>v= .bool (qt op)/\cs=[]):=by
 refine bN func190 rfl ntmps190 rfl (Inv.start w) ?_;refine xF ?_;refine Zra ?_;exact de
theorem j8(r:Int)(w:World):Ctr prog 241 [.int .u32 r] w [] (λv cs=>v= .int .u32 (dE r)/\cs=[]):=by
 refine bN func241 rfl ntmps241 rfl (Inv.start w) ?_;refine xF ?_;refine ZW ?_ ?_<;>intro hc2
 .refine gy ?_;refine ZW ?_ ?_<;>intro hc4
  .refine jd ?_;refine Zra ?_;refine⟨?_,rfl⟩;simp only[dE, *,ac,aa]
  refine Z_9 ?_;refine Zra ?_;refine⟨?_,rfl⟩;simp only[dE, *,ac,aa]
 refine dS ?_;refine ZW ?_ ?_<;>intro hc4
 .refine jd ?_;refine Zra ?_;refine⟨?_,rfl⟩;simp only[dE, *,ac,aa]
 refine Z_9 ?_;refine Zra ?_;refine⟨?_,rfl⟩;simp only[dE, *,ac,aa]
theorem B8(a b:Int)(up:Bool)(hb:0<=b)(w:World):Ctr prog 240 [.int .u32 a,.int .u32 b,.bool up] w [] (λv cs=>v= .int .u32 (iq a b up)/\cs=[]):=by
 refine bN func240 rfl ntmps240 rfl (Inv.start w) ?_;refine gy ?_;refine ZW ?_ ?_<;>intro hc1
 .refine fX ?_;refine⟨?_,rfl⟩;simp only[iq, *,ac,aa]
 refine Z_6 ?_;refine ZW ?_ ?_<;>intro hc3
 .refine Z_4 ?_;refine Zy (v7 (Zv rfl) (Zv rfl) Wq1 rfl) ?_;refine Z_6 ?_;refine Zra ?_;refine⟨?_,rfl⟩;simp only[iq, *,ac,aa]
 refine Z_7 ?_;refine Zy (ko (Zv rfl) (Zv rfl) Wq1 rfl) ?_;refine Z_4 ?_;refine Zra ?_;refine⟨?_,rfl⟩;simp only[iq, *,ac,aa]
theorem G6(a b:Int)(w:World):Ctr prog 239 [.int .u32 a,.int .u32 b] w [] (λv cs=>v= .int .u32 (fe a b)/\cs=[]):=by
 refine bN func239 rfl ntmps239 rfl (Inv.start w) ?_;refine Z_9 ?_;refine Zy (eE Zv0 Zv0 rfl) ?_;refine Z_6 ?_;refine ZSe (λw hi=>j8 _ w) ?_;refine fE ?_;refine ZW ?_ ?_<;>intro hc3
 .refine mn ?_;refine ZW ?_ ?_<;>intro hc5
  .refine jd ?_;refine Zra ?_;refine⟨?_,rfl⟩;simp only[fe,jK, *,ac,aa]
  refine Z_9 ?_;refine Zra ?_;refine⟨?_,rfl⟩;simp only[fe,jK, *,ac,aa]
 refine ri ?_;refine ZW ?_ ?_<;>intro hc5
 .refine jd ?_;refine Zra ?_;refine⟨?_,rfl⟩;simp only[fe,jK, *,ac,aa]
 refine Z_9 ?_;refine Zra ?_;refine⟨?_,rfl⟩;simp only[fe,jK, *,ac,aa]
theorem more_ok(a b:Int)(w:World):Ctr prog 238 [.int .u32 a,.int .u32 b] w [] (λv cs=>v= .int .u32 (lE a b)/\cs=[]):=by
 refine bN func238 rfl ntmps238 rfl (Inv.start w) ?_;refine Z_9 ?_;refine Zy (df Zv0 Zv0 rfl) ?_;refine Z_6 ?_;refine ZSe (λw hi=>j8 _ w) ?_;refine fE ?_;refine ZW ?_ ?_<;>intro hc3
 .refine mn ?_;refine ZW ?_ ?_<;>intro hc5
  .refine jd ?_;refine Zra ?_;refine⟨?_,rfl⟩;simp only[lE,jK, *,ac,aa]
  refine Z_9 ?_;refine Zra ?_;refine⟨?_,rfl⟩;simp only[lE,jK, *,ac,aa]
 refine ri ?_;refine ZW ?_ ?_<;>intro hc5
 .refine jd ?_;refine Zra ?_;refine⟨?_,rfl⟩;simp only[lE,jK, *,ac,aa]
 refine Z_9 ?_;refine Zra ?_;refine⟨?_,rfl⟩;simp only[lE,jK, *,ac,aa]
theorem ado_ok(op a b:Int)(hb:0<=b)(w:World):Ctr prog 197 [.int .i64 op,.int .u32 a,.int .u32 b] w [] (λv cs=>v= .tuple #[.int .u32 (iN op a b).1,.int .u32 (iN op a b).2.1,.bool (iN op a b).2.2]/\cs=[]):=by
 refine bN func197 rfl ntmps197 rfl (Inv.start w) ?_;refine mn ?_;refine Z_5 ?_;refine ZW ?_ ?_<;>intro hc4
 .refine Z_4 ?_;refine Zy (df Zv0 Zv0 rfl) ?_;refine Z_2 ?_;refine ZSe (λw hi=>more_ok a b w) ?_;refine Z_8 ?_;refine vk (cs':=[]) (.inl rfl) Zu rfl rfl rfl rfl ?_;refine⟨?_,rfl⟩;simp only[iN,vT, *,ac,aa]
 refine Z_6 ?_;refine ZW ?_ ?_<;>intro hc6
 .refine Z_4 ?_;refine Zy (eE Zv0 Zv0 rfl) ?_;refine Z_2 ?_;refine ZSe (λw hi=>G6 a b w) ?_;refine Z_8 ?_;refine vk (cs':=[]) (.inl rfl) Zu rfl rfl rfl rfl ?_;refine⟨?_,rfl⟩;simp only[iN,vT, *,ac,aa]
 refine Z_6 ?_;refine ZW ?_ ?_<;>intro hc8
 .refine Z_4 ?_;refine ZSe (λw hi=>G6 a b w) ?_;refine Z_8 ?_;refine vk (cs':=[]) (.inl rfl) Zu rfl rfl rfl rfl ?_;refine⟨?_,rfl⟩;simp only[iN,vT, *,ac,aa]
 refine Z_6 ?_;refine ZW ?_ ?_<;>intro hc10
 .refine gR ?_;refine ZSe (λw hi=>j8 _ w) ?_;refine Z_6 ?_;refine vk (cs':=[]) (.inl rfl) Zu rfl rfl rfl rfl ?_;refine⟨?_,rfl⟩;simp only[iN,vT, *,ac,aa]
 refine Z_6 ?_;refine ZW ?_ ?_<;>intro hc12
 .refine gR ?_;refine ZSe (λw hi=>j8 _ w) ?_;refine Z_6 ?_;refine vk (cs':=[]) (.inl rfl) Zu rfl rfl rfl rfl ?_;refine⟨?_,rfl⟩;simp only[iN,vT, *,ac,aa]
 refine Z_6 ?_;refine ZW ?_ ?_<;>intro hc14
 .refine gR ?_;refine ZSe (λw hi=>j8 _ w) ?_;refine Z_6 ?_;refine vk (cs':=[]) (.inl rfl) Zu rfl rfl rfl rfl ?_;refine⟨?_,rfl⟩;simp only[iN,vT, *,ac,aa]
 refine Z_6 ?_;refine ZW ?_ ?_<;>intro hc16
 .refine Z_3 ?_;refine ZSe (λw hi=>B8 a b _ hb w) ?_;refine Z_8 ?_;refine ZSe (λw hi=>j8 _ w) ?_;refine Z_6 ?_;refine vk (cs':=[]) (.inl rfl) Zu rfl rfl rfl rfl ?_;refine⟨?_,rfl⟩;simp only[iN,vT, *,ac,aa]
 refine Z_6 ?_;refine ZW ?_ ?_<;>intro hc18
 .refine Z_3 ?_;refine ZSe (λw hi=>B8 a b _ hb w) ?_;refine Z_8 ?_;refine ZSe (λw hi=>j8 _ w) ?_;refine Z_6 ?_;refine vk (cs':=[]) (.inl rfl) Zu rfl rfl rfl rfl ?_;refine⟨?_,rfl⟩;simp only[iN,vT, *,ac,aa]
 refine Z_6 ?_;refine ZW ?_ ?_<;>intro hc20
 .refine Z_3 ?_;refine Zy (jk Zv0 Zv0 rfl) ?_;refine Z_8 ?_;refine ZSe (λw hi=>j8 _ w) ?_;refine Z_6 ?_;refine vk (cs':=[]) (.inl rfl) Zu rfl rfl rfl rfl ?_;refine⟨?_,rfl⟩;simp only[iN,vT, *,ac,aa]
 refine Z_6 ?_;refine ZW ?_ ?_<;>intro hc22
 .refine Z_7 ?_;refine ZW ?_ ?_<;>intro hc23
  .refine fE ?_;refine vk (cs':=[]) (.inl rfl) Zu rfl rfl rfl rfl ?_;refine⟨?_,rfl⟩;simp only[iN,vT, *,ac,aa]
  have hb0:b≠0:=by simpa using hc23
  refine Z_5 ?_;refine Zy (kp (Zv rfl) (Zv rfl) Wq1 (by first|exact IntWalk.u32_quo _ _ ⟨by omega,by omega,by omega⟩|exact rfl)) ?_;refine Z_8 ?_;refine ZSe (λw hi=>j8 _ w) ?_;refine Z_6 ?_;refine vk (cs':=[]) (.inl rfl) Zu rfl rfl rfl rfl ?_;refine⟨?_,rfl⟩;simp only[iN,vT, *,ac,aa]
 refine dS ?_;refine vk (cs':=[]) (.inl rfl) Zu rfl rfl rfl rfl ?_;refine⟨?_,rfl⟩;simp only[iN,vT, *,ac,aa]
theorem K3(op f:Int)(w:World):Ctr prog 199 [.int .i64 op,.int .u32 f] w [] (λv cs=>v= .tuple #[.bool (cY op f).1,.bool (cY op f).2]/\cs=[]):=by
 refine bN func199 rfl ntmps199 rfl (Inv.start w) ?_;refine Je ?_;refine ZW ?_ ?_<;>intro hc2
 .refine gR ?_;refine i9 ?_;refine⟨?_,rfl⟩;simp only[cY, *,ac,aa]
 refine Z_6 ?_;refine ZW ?_ ?_<;>intro hc4
 .refine gR ?_;refine i9 ?_;refine⟨?_,rfl⟩;simp only[cY, *,ac,aa]
 refine Z_6 ?_;refine ZW ?_ ?_<;>intro hc6
 .refine gR ?_;refine i9 ?_;refine⟨?_,rfl⟩;simp only[cY, *,ac,aa]
 refine Z_6 ?_;refine ZW ?_ ?_<;>intro hc8
 .refine gR ?_;refine i9 ?_;refine⟨?_,rfl⟩;simp only[cY, *,ac,aa]
 refine Z_6 ?_;refine ZW ?_ ?_<;>intro hc10
 .refine gR ?_;refine i9 ?_;refine⟨?_,rfl⟩;simp only[cY, *,ac,aa]
 refine dS ?_;refine i9 ?_;refine⟨?_,rfl⟩;simp only[cY, *,ac,aa]
theorem Ae(b:Int)(w:World):Ctr prog 171 [.int .u32 b] w [] (λv cs=>v= .int .u32 (lI b)/\cs=[]):=by
 refine bN func171 rfl ntmps171 rfl (Inv.start w) ?_;refine Z_8 ?_;refine Zy (ce rfl rfl Zv0 rfl) ?_;refine Zy (ce rfl rfl Zv0 rfl) ?_;refine Zy (ce rfl rfl Zv0 rfl) ?_;refine Z_4 ?_;refine Zra ?_;exact de
theorem Kz(op:Int)(w:World):Ctr prog 193 [.int .i64 op] w [] (λv cs=>v= .tuple #[.int .i64 ((bY op).1.1:Nat),.int .i64 ((bY op).1.2:Nat),.int .i64 ((bY op).2.1:Nat),.int .i64 ((bY op).2.2:Nat)]/\cs=[]):=by
 refine bN func193 rfl ntmps193 rfl (Inv.start w) ?_;refine mn ?_;refine Z_2 ?_;refine ZW ?_ ?_<;>intro hc2
 .refine Z_2 ?_;refine bW rfl (hc2) ?_;refine oI ?_;refine⟨?_,rfl⟩;exact oE
 refine Z_6 ?_;refine ZW ?_ ?_<;>intro hc3
 .refine Z_2 ?_;refine bW rfl (hc3) ?_;refine oI ?_;refine⟨?_,rfl⟩;exact oE
 refine Z_5 ?_;refine ZW ?_ ?_<;>intro hc4
 .refine oI ?_;refine⟨?_,rfl⟩;exact oE
 refine Z_6 ?_;refine ZW ?_ ?_<;>intro hc6
 .refine oI ?_;refine⟨?_,rfl⟩;exact oE
 refine Z_7 ?_;refine ZW ?_ ?_<;>intro hc8
 .refine Z_2 ?_;refine bW rfl (hc8) ?_;refine oI ?_;refine⟨?_,rfl⟩;exact oE
 refine Z_6 ?_;refine ZW ?_ ?_<;>intro hc9
 .refine Z_2 ?_;refine bW rfl (hc9) ?_;refine oI ?_;refine⟨?_,rfl⟩;exact oE
 refine Z_6 ?_;refine ZW ?_ ?_<;>intro hc10
 .refine Z_2 ?_;refine bW rfl (hc10) ?_;refine oI ?_;refine⟨?_,rfl⟩;exact oE
 refine Z_5 ?_;refine ZW ?_ ?_<;>intro hc11
 .refine oI ?_;refine⟨?_,rfl⟩;exact oE
 refine Z_6 ?_;refine ZW ?_ ?_<;>intro hc13
 .refine oI ?_;refine⟨?_,rfl⟩;exact oE
 refine Z_6 ?_;refine ZW ?_ ?_<;>intro hc15
 .refine oI ?_;refine⟨?_,rfl⟩;exact oE
 refine Z_6 ?_;refine ZW ?_ ?_<;>intro hc17
 .refine oI ?_;refine⟨?_,rfl⟩;exact oE
 refine Z_6 ?_;refine ZW ?_ ?_<;>intro hc19
 .refine oI ?_;refine⟨?_,rfl⟩;exact oE
 refine Z_7 ?_;refine ZW ?_ ?_<;>intro hc21
 .refine Z_2 ?_;refine bW rfl (hc21) ?_;refine oI ?_;refine⟨?_,rfl⟩;exact oE
 refine Z_6 ?_;refine ZW ?_ ?_<;>intro hc22
 .refine Z_2 ?_;refine bW rfl (hc22) ?_;refine oI ?_;refine⟨?_,rfl⟩;exact oE
 refine Z_6 ?_;refine ZW ?_ ?_<;>intro hc23
 .refine Z_2 ?_;refine bW rfl (hc23) ?_;refine oI ?_;refine⟨?_,rfl⟩;exact oE
 refine Z_6 ?_;refine ZW ?_ ?_<;>intro hc24
 .refine Z_2 ?_;refine bW rfl (hc24) ?_;refine oI ?_;refine⟨?_,rfl⟩;exact oE
 refine Z_6 ?_;refine ZW ?_ ?_<;>intro hc25
 .refine Z_2 ?_;refine bW rfl (hc25) ?_;refine oI ?_;refine⟨?_,rfl⟩;exact oE
 refine Z_6 ?_;refine ZW ?_ ?_<;>intro hc26
 .refine Z_2 ?_;refine bW rfl (hc26) ?_;refine oI ?_;refine⟨?_,rfl⟩;exact oE
 refine Z_6 ?_;refine ZW ?_ ?_<;>intro hc27
 .refine Z_2 ?_;refine bW rfl (hc27) ?_;refine oI ?_;refine⟨?_,rfl⟩;exact oE
 refine Z_6 ?_;refine ZW ?_ ?_<;>intro hc28
 .refine Z_2 ?_;refine bW rfl (hc28) ?_;refine oI ?_;refine⟨?_,rfl⟩;exact oE
 refine Z_5 ?_;refine ZW ?_ ?_<;>intro hc29
 .refine oI ?_;refine⟨?_,rfl⟩;exact oE
 refine Z_7 ?_;refine ZW ?_ ?_<;>intro hc31
 .refine Z_2 ?_;refine bW rfl (hc31) ?_;refine oI ?_;refine⟨?_,rfl⟩;exact oE
 refine Z_6 ?_;refine ZW ?_ ?_<;>intro hc32
 .refine Z_2 ?_;refine bW rfl (hc32) ?_;refine oI ?_;refine⟨?_,rfl⟩;exact oE
 refine Z_6 ?_;refine ZW ?_ ?_<;>intro hc33
 .refine Z_2 ?_;refine bW rfl (hc33) ?_;refine oI ?_;refine⟨?_,rfl⟩;exact oE
 refine Z_5 ?_;refine ZW ?_ ?_<;>intro hc34
 .refine oI ?_;refine⟨?_,rfl⟩;exact oE
 refine Z_7 ?_;refine ZW ?_ ?_<;>intro hc36
 .refine Z_2 ?_;refine bW rfl (hc36) ?_;refine oI ?_;refine⟨?_,rfl⟩;exact oE
 refine Z_6 ?_;refine ZW ?_ ?_<;>intro hc37
 .refine Z_2 ?_;refine bW rfl (hc37) ?_;refine oI ?_;refine⟨?_,rfl⟩;exact oE
 refine Z_5 ?_;refine ZW ?_ ?_<;>intro hc38
 .refine oI ?_;refine⟨?_,rfl⟩;exact oE
 refine Z_6 ?_;refine ZW ?_ ?_<;>intro hc40
 .refine oI ?_;refine⟨?_,rfl⟩;exact oE
 refine Z_6 ?_;refine ZW ?_ ?_<;>intro hc42
 .refine oI ?_;refine⟨?_,rfl⟩;exact oE
 refine gR ?_;refine ret4 (cs':=[]) (.inl rfl) Zu rfl rfl rfl rfl rfl ?_;refine⟨?_,rfl⟩;exact oE
end Go.Proofs.YtkegldppffignaaGreatDoor
namespace Go.Ink
open Go.RowKit
structure Run where
 s:St
 count:Int
 M3:Tr
 device:Bool
abbrev Run.wd(R:Run)(l:List Int):Run:=⟨⟨R.s.pc,l,R.s.r,R.s.flags,R.s.MQ,R.s.MU,R.s.ie,R.s.root,R.s.vec,R.s.epc,R.s.MR,R.s.addr,R.s.M1,R.s.eie,R.s.count,R.s.halted⟩,R.count,R.M3,R.device⟩
abbrev Run.wr(R:Run)(l:List Int):Run:=⟨⟨R.s.pc,R.s.d,l,R.s.flags,R.s.MQ,R.s.MU,R.s.ie,R.s.root,R.s.vec,R.s.epc,R.s.MR,R.s.addr,R.s.M1,R.s.eie,R.s.count,R.s.halted⟩,R.count,R.M3,R.device⟩
abbrev Run.wt(R:Run)(t:Tr):Run:=⟨R.s,R.count,t,R.device⟩
structure kb where
 Ad:Option Addr
 cd:Nat
 Ar:Option Addr
 cr:Nat
structure EL where
 br:Nat
 u:Option Addr
 b:Option Addr
end Go.Ink
namespace Go.Proofs.YtkegldppffignaaGreatDoor
open Go.RowKit Go.Ink Go.Proofs.Tryz
attribute [local irreducible] OpY bS
abbrev sN(K:EL)(X:kb)(R:Run):bL:=row K.br [.int .u32 R.s.pc,.slice X.Ad R.s.d.length X.cd,.slice X.Ar R.s.r.length X.cr,.int .u32 R.s.flags,.bool R.s.MQ,.bool R.s.MU,.bool R.s.ie,.int .u32 R.s.root,.int .u32 R.s.vec,.int .u32 R.s.epc,.int .u32 R.s.MR,.int .u32 R.s.addr,.bool R.s.M1,.bool R.s.eie,.int .u64 R.s.count,.bool R.s.halted,.int .u64 R.count,.pointer K.u,.pointer K.b,.int .i64 R.M3.MR,.int .u32 R.M3.addr,.bool R.device] 260
abbrev eJ(K:EL)(X:kb)(R:Run):List bL:=[sN K X R,slD R.s X.Ad X.cd,slR R.s X.Ar X.cr]
theorem iz(K:EL)(X:kb)(R:Run)(l:List Int)(x:Int)(w:World)(hi:Inv w (bM (eJ K X (R.wd (l++[x])))) (eJ K X (R.wd (l++[x]))) w):
  Ctr prog 195 [.pointer (some ⟨K.br,0,none⟩)] w (eJ K X (R.wd (l++[x]))) (λv cs=>v= .int .u32 x/\cs=eJ K X (R.wd l)):=by
 have hrd:=iB (hi.get (.tail _ (.head _ _)));have hcap:(l++[x]).length<=X.cd:=hrd.cap;have hmax:=hrd.max;simp only[maxLen]at hmax;have hlen:(l++[x]).length=l.length+1:=by simp
 obtain⟨Ad,cd,Ar,cr⟩:=X;obtain⟨bd,rfl⟩:=ez (hi.get (.tail _ (.head _ _))) (show 0<(l++[x]).length by omega);have hcap:(l++[x]).length<=cd:=hcap;have hdl:(R.wd (l++[x])).s.d.length=l.length+1:=hlen;have hmax:cd<=_:=hmax;refine bN func195 rfl ntmps195 rfl hi ?_;refine jd ?_;refine Zy (eE (Zv rfl) (Zv rfl) (show _=(l.length:Int)from by rw[hlen];exact bF _ ⟨by omega,by omega⟩|>.trans Wq1)) ?_;refine fE ?_;refine Zy (cw (j:=l.length) (sz:=1) (r:=l.length) rfl Zrf (Zv rfl) (Zv rfl) Wq4 Wq4 Wq1) ?_;refine dN (bQ Zrf Zv0) (dm Zh (cR (rK l x))) rfl ?_;refine gR ?_;refine Zy (ge (l.length) rfl Zrf (Zv rfl) (Zv rfl) (λ_=>by first|rfl|omega) Wq4) ?_;refine Z_3 ?_;refine ZL ?_;refine Z_9 ?_;refine kS (c:=slD (R.wd (l++[x])).s (some ⟨bd,0,none⟩) cd) (c':=slD (R.wd l).s (some ⟨bd,0,none⟩) cd) Za rfl (λw h=>BK h) ?_;refine Zrb ([row _ _ _,slv _ _ _ _ _ _,slv _ _ _ _ _ _]) ?_;exact de
theorem Gk(K:EL)(X:kb)(R:Run)(l:List Int)(x:Int)(w:World)(hi:Inv w (bM (eJ K X (R.wr (l++[x])))) (eJ K X (R.wr (l++[x]))) w):
  Ctr prog 196 [.pointer (some ⟨K.br,0,none⟩)] w (eJ K X (R.wr (l++[x]))) (λv cs=>v= .int .u32 x/\cs=eJ K X (R.wr l)):=by
 have hrd:=iB (hi.get (.tail _ (.tail _ (.head _ _))));have hcap:(l++[x]).length<=X.cr:=hrd.cap;have hmax:=hrd.max;simp only[maxLen]at hmax;have hlen:(l++[x]).length=l.length+1:=by simp
 obtain⟨Ad,cd,Ar,cr⟩:=X;obtain⟨bd,rfl⟩:=ez (hi.get (.tail _ (.tail _ (.head _ _)))) (show 0<(l++[x]).length by omega);have hcap:(l++[x]).length<=cr:=hcap;have hdl:(R.wr (l++[x])).s.r.length=l.length+1:=hlen;have hmax:cr<=_:=hmax;refine bN func196 rfl ntmps196 rfl hi ?_;refine jd ?_;refine Zy (eE (Zv rfl) (Zv rfl) (show _=(l.length:Int)from by rw[hlen];exact bF _ ⟨by omega,by omega⟩|>.trans Wq1)) ?_;refine fE ?_;refine Zy (cw (j:=l.length) (sz:=1) (r:=l.length) rfl Zrf (Zv rfl) (Zv rfl) Wq4 Wq4 Wq1) ?_;refine dN (bQ Zrf Zv0) (dm Zh (cR (rK l x))) rfl ?_;refine gR ?_;refine Zy (ge (l.length) rfl Zrf (Zv rfl) (Zv rfl) (λ_=>by first|rfl|omega) Wq4) ?_;refine Z_3 ?_;refine ZL ?_;refine Z_9 ?_;refine kS (c:=slR (R.wr (l++[x])).s (some ⟨bd,0,none⟩) cr) (c':=slR (R.wr l).s (some ⟨bd,0,none⟩) cr) Za rfl (λw h=>BK h) ?_;refine Zrb ([row _ _ _,slv _ _ _ _ _ _,slv _ _ _ _ _ _]) ?_;exact de
theorem iY(K:EL)(X:kb)(R:Run)(A:Option Addr)(n c:Nat)(ys:List Int)(hs:R.s.d.length+n<=1000000)(w:World)(hi:Inv w (bM (eJ K X R)) (eJ K X R) w)(h:∀w',dG (bM (eJ K X R)) w w'->Rd w' .u32 A n c ys):
  Ctr prog 194 [.pointer (some ⟨K.br,0,none⟩),.slice A n c] w (eJ K X R) (λv cs=>∃A' c',v= .tuple #[]/\cs=eJ K ⟨A',c',X.Ar,X.cr⟩ (R.wd (R.s.d++ys))):=by
 have hl:n=ys.length:=by have:=(h w (dG.refl _ _)).len;rw[cQ]at this;omega
 subst hl;refine bN func194 rfl ntmps194 rfl hi ?_;refine Z_8 ?_;refine gj (cD (e:=25) (sz:=1) (bytes:=4) rfl rfl Za rfl rfl (λw hi=>h w hi.Nb) cN (by simp only[maxLen];omega) Wq1) rfl ?_;rintro _ _ ⟨A',c',rfl,rfl⟩;refine Z_3 ?_;refine ZL ?_;refine Zn (jb (cs':=[row _ _ _,slv _ _ _ _ _ _,slv _ _ _ _ _ _]) (.inr rfl) Zu rfl ?_);exact⟨A',c',rfl,by simp only[eJ,sN,slD,slR,ae,cj]⟩
theorem ot(K:EL)(X:kb)(R:Run)(MR addr:Int)(w:World)(hi:Inv w (bM (eJ K X R)) (eJ K X R) w):
  Ctr prog 198 [.pointer (some ⟨K.br,0,none⟩),.int .i64 MR,.int .u32 addr] w (eJ K X R) (λv cs=>v= .tuple #[]/\cs=eJ K X (R.wt ⟨MR,addr⟩)):=by
 refine bN func198 rfl ntmps198 rfl hi ?_;refine Z_7 ?_;refine dH (kv (n:=2) (vs:=[.int .i64 MR,.int .u32 addr]) Zrf rfl rfl (jA rfl) Za rfl (by simp only[ak,ao];omega)) ?_;rintro _ _ ⟨rfl,rfl⟩;refine Zn (jb (cs':=[row _ _ _,slv _ _ _ _ _ _,slv _ _ _ _ _ _]) (.inr rfl) Zu rfl ?_);exact de
theorem JV(K:EL)(X:kb)(R:Run)(w:World)(h:(sN K X R).ok w):
  Ctr prog 246 [.pointer (some ⟨K.br,0,none⟩)] w [] (λv cs=>v= .agg #[.bool R.s.MU,.bool R.s.MQ,.int .u32 R.s.root]/\cs=[]):=by
 refine bN func246 rfl ntmps246 rfl (Inv.start w) ?_;refine Z_2 ?_;refine ZN λb2=>?_;refine Z_3 ?_;refine bU ⟨λj=>List.elem j [16],[]⟩ Zk ?_;refine gO ?_;refine ZFe 2 0 ?_;refine ZFe 3 5 ?_;refine dD 4 rfl Zk Zk Zk Zk (bQ Zrf (Zv rfl)) (dy (by assumption) rfl) rfl ?_;refine ZE 5 ?_;refine ZE 6 ?_;refine ZFe 7 0 ?_;refine ZFe 8 4 ?_;refine dD 9 rfl Zk Zk Zk Zk (bQ Zrf (Zv rfl)) (dy (by assumption) rfl) rfl ?_;refine ZE 10 ?_;refine ZE 11 ?_;refine ZFe 12 0 ?_;refine ZFe 13 7 ?_;refine dD 14 rfl Zk Zk Zk Zk (bQ Zrf (Zv rfl)) (dy (by assumption) rfl) rfl ?_;refine ZE 15 ?_;refine cn 16 Zk ?_;refine ZR ?_;refine dx ?_;refine Z_2 ?_;refine mi (cs':=[]) (.inl rfl) Zu rfl rfl Zh Zrf Zrf ?_;exact de
end Go.Proofs.YtkegldppffignaaGreatDoor
namespace Go.Ink
open Go.RowKit
def Run.top(R:Run):Int:=R.s.d.getLastD 0
def Run.topR(R:Run):Int:=R.s.r.getLastD 0
def Run.pop(R:Run):Run:=R.wd R.s.d.dropLast
def Run.Nn(R:Run):Run:=R.wr R.s.r.dropLast
def Run.push(R:Run)(l:List Int):Run:=R.wd (R.s.d++l)
def Run.N6(R:Run)(x:Int):Run:=R.wr (R.s.r++[x])
abbrev Run.wpc(R:Run)(x:Int):Run:=⟨⟨x,R.s.d,R.s.r,R.s.flags,R.s.MQ,R.s.MU,R.s.ie,R.s.root,R.s.vec,R.s.epc,R.s.MR,R.s.addr,R.s.M1,R.s.eie,R.s.count,R.s.halted⟩,R.count,R.M3,R.device⟩
abbrev Run.wfl(R:Run)(x:Int):Run:=⟨⟨R.s.pc,R.s.d,R.s.r,x,R.s.MQ,R.s.MU,R.s.ie,R.s.root,R.s.vec,R.s.epc,R.s.MR,R.s.addr,R.s.M1,R.s.eie,R.s.count,R.s.halted⟩,R.count,R.M3,R.device⟩
theorem Run.snoc{R:Run}(h:1<=R.s.d.length):∃(R':Run) (l:List Int) (x:Int),R=R'.wd (l++[x]):=by
 obtain⟨l,x,h⟩:=sG h;exact⟨R,l,x,by rw[Run.wd,<-h]⟩
theorem Run.snocR{R:Run}(h:1<=R.s.r.length):∃(R':Run) (l:List Int) (x:Int),R=R'.wr (l++[x]):=by
 obtain⟨l,x,h⟩:=sG h;exact⟨R,l,x,by rw[Run.wr,<-h]⟩
theorem Run.NC{R:Run}(h:2<=R.s.d.length):∃(R':Run) (l:List Int) (x y:Int),R=R'.wd ((l++[x])++[y]):=by
 obtain⟨R1,l,y,rfl⟩:=Run.snoc (R:=R) Wq1;have h:2<=(l++[y]).length:=h;obtain⟨m,x,rfl⟩:=sG (l:=l) (by simp at h;omega);exact⟨R1,m,x,y,rfl⟩
@[simp] theorem Run.top_wd (R:Run) (l:List Int) (x:Int):(R.wd (l++[x])).top=x:=by simp[Run.top,List.getLastD_concat]
@[simp] theorem Run.pop_wd (R:Run) (l:List Int) (x:Int):(R.wd (l++[x])).pop=R.wd l:=by simp[Run.pop]
@[simp] theorem Run.topR_wr (R:Run) (l:List Int) (x:Int):(R.wr (l++[x])).topR=x:=by simp[Run.topR,List.getLastD_concat]
@[simp] theorem Run.popR_wr (R:Run) (l:List Int) (x:Int):(R.wr (l++[x])).Nn=R.wr l:=by simp[Run.Nn]
def dK(op n:Int)(R:Run):Option Run:=
 bif op==0 then some R else bif op==1 then some (R.push [n])else bif op==2 then some (R.push [n])else bif op==3 then some (R.pop.push [R.top,R.top])else bif op==4 then some R.pop else
 bif op==5 then some (R.pop.pop.push [R.top,R.pop.top])else bif op==6 then some (R.pop.pop.push [R.pop.top,R.top,R.pop.top])else bif op==7 then some (R.pop.N6 R.top)else bif op==8 then some (R.Nn.push [R.topR])else none
theorem nZ(n:Int)(R:Run)(l:List Int)(x:Int):dK 3 n (R.wd (l++[x]))=some (R.wd (l++[x,x])):=by
 show some _=_;rw[Run.top_wd,Run.pop_wd];rfl
theorem mF(n:Int)(R:Run)(l:List Int)(x:Int):dK 4 n (R.wd (l++[x]))=some (R.wd l):=by
 show some _=_;rw[Run.pop_wd]
theorem mD(n:Int)(R:Run)(l:List Int)(x y:Int):dK 5 n (R.wd ((l++[x])++[y]))=some (R.wd (l++[y,x])):=by
 show some _=_;rw[Run.top_wd,Run.pop_wd,Run.top_wd,Run.pop_wd];rfl
theorem mE(n:Int)(R:Run)(l:List Int)(x y:Int):dK 6 n (R.wd ((l++[x])++[y]))=some (R.wd (l++[x,y,x])):=by
 show some _=_;rw[Run.top_wd,Run.pop_wd,Run.top_wd,Run.pop_wd];rfl
theorem nY(n:Int)(R:Run)(l:List Int)(x:Int):dK 7 n (R.wd (l++[x]))=some ((R.wd l).wr (R.s.r++[x])):=by
 show some _=_;rw[Run.top_wd,Run.pop_wd];rfl
theorem lP(n:Int)(R:Run)(l:List Int)(x:Int):dK 8 n (R.wr (l++[x]))=some ((R.wr l).wd (R.s.d++[x])):=by
 show some _=_;rw[Run.topR_wr,Run.popR_wr];rfl
theorem qQ{op:Int}(n:Int)(R:Run)(h0:(op==0)=false)(h1:(op==1)=false)(h2:(op==2)=false)(h3:(op==3)=false)(h4:(op==4)=false)(h5:(op==5)=false)(h6:(op==6)=false)(h7:(op==7)=false)(h8:(op==8)=false):dK op n R=none:=by
 simp only[dK, *,aa]
theorem kk{a b:Int}(h:(a==b)=true):a=b:=by simpa using h
end Go.Ink
namespace Go.Proofs.YtkegldppffignaaGreatDoor
open Go.RowKit Go.Ink Go.Proofs.Tryz
attribute [local irreducible] OpY bS
theorem JS(K:EL)(X:kb)(R:Run)(op n:Int)(hd:R.s.d.length<=100000)(hr:R.s.r.length<=100000)(hn:(bY op).1.1<=R.s.d.length)(hnr:(bY op).2.1<=R.s.r.length)(w:World)(hi:Inv w (bM (eJ K X R)) (eJ K X R) w):
  Ctr prog 160 [.pointer (some ⟨K.br,0,none⟩),.agg #[.int .i64 op,.int .u32 n]] w (eJ K X R) (λv cs=>∃X',v= .bool (dK op n R).isSome/\cs=eJ K X' ((dK op n R).getD R)):=by
 refine bN func160 rfl ntmps160 rfl hi ?_;refine Z_2 ?_;refine ZO λb3=>?_;refine xF ?_;refine ZW ?_ ?_<;>intro hc3
 .obtain rfl:=kk hc3;have hst:dK 0 n R=some R:=rfl;refine Z_9 ?_;exact xJ
 refine Z_7 ?_;refine ZW ?_ ?_<;>intro hc4
 .obtain rfl:=kk hc4;have hst:dK 1 n R=some (R.push [n]):=rfl;refine Z_2 ?_;refine bW rfl (hc4) ?_;refine Z_4 ?_;refine jO ?_;rintro _ _ ⟨b20,rfl,rfl⟩;refine ZcL (eJ K X R) (λw hi hin=>iY K X R _ 1 1 [n] Wq1 w hin (λw' hk=>hi.NE Zi Zh hk)) ?_;rintro _ _ ⟨_,⟨A',c',rfl,rfl⟩,rfl⟩;refine Z_9 ?_;exact xJ
 refine Z_5 ?_;refine ZW ?_ ?_<;>intro hc5
 .obtain rfl:=kk hc5;have hst:dK 2 n R=some (R.push [n]):=rfl;refine Z_4 ?_;refine jO ?_;rintro _ _ ⟨b20,rfl,rfl⟩;refine ZcL (eJ K X R) (λw hi hin=>iY K X R _ 1 1 [n] Wq1 w hin (λw' hk=>hi.NE Zi Zh hk)) ?_;rintro _ _ ⟨_,⟨A',c',rfl,rfl⟩,rfl⟩;refine Z_9 ?_;exact xJ
 refine Z_6 ?_;refine ZW ?_ ?_<;>intro hc7
 .obtain rfl:=kk hc7;obtain⟨R,l,x,rfl⟩:=Run.snoc (show 1<=R.s.d.length from hn);have hst:=nZ n R l x;have hll:l.length+1<=100000:=(by have:(l++[x]).length<=100000:=hd;simpa using this);refine Z_3 ?_;refine ZcM (eJ K X (R.wd (l++[x]))) (λw hi hin=>iz K X R l x w hin) ?_;refine Z_7 ?_;refine jO ?_;rintro _ _ ⟨b29,rfl,rfl⟩;refine ZcL (eJ K X (R.wd l)) (λw hi hin=>iY K X (R.wd l) _ 2 2 [x,x] (show l.length+2<=1000000 by omega) w hin (λw' hk=>hi.NE Zi Zh hk)) ?_;rintro _ _ ⟨_,⟨A',c',rfl,rfl⟩,rfl⟩;refine Z_9 ?_;exact xJ
 refine Z_6 ?_;refine ZW ?_ ?_<;>intro hc10
 .obtain rfl:=kk hc10;obtain⟨R,l,x,rfl⟩:=Run.snoc (show 1<=R.s.d.length from hn);have hst:=mF n R l x;refine Z_2 ?_;refine ZcM (eJ K X (R.wd (l++[x]))) (λw hi hin=>iz K X R l x w hin) ?_;refine Z_9 ?_;exact xJ
 refine Z_6 ?_;refine ZW ?_ ?_<;>intro hc12
 .obtain rfl:=kk hc12;obtain⟨R,l,x,y,rfl⟩:=Run.NC (show 2<=R.s.d.length from hn);have hst:=mD n R l x y;have hll:l.length+2<=100000:=(by have:((l++[x])++[y]).length<=100000:=hd;simp only[ae,ak,ao]at this;omega);refine Z_3 ?_;refine ZcM (eJ K X (R.wd ((l++[x])++[y]))) (λw hi hin=>iz K X R (l++[x]) y w hin) ?_;refine ZA ?_;refine ZcM (eJ K X (R.wd (l++[x]))) (λw hi hin=>iz K X R l x w hin) ?_;refine Z_8 ?_;refine jO ?_;rintro _ _ ⟨b44,rfl,rfl⟩;refine ZcL (eJ K X (R.wd l)) (λw hi hin=>iY K X (R.wd l) _ 2 2 [y,x] (show l.length+2<=1000000 by omega) w hin (λw' hk=>hi.NE Zi Zh hk)) ?_;rintro _ _ ⟨_,⟨A',c',rfl,rfl⟩,rfl⟩;refine Z_9 ?_;exact xJ
 refine Z_6 ?_;refine ZW ?_ ?_<;>intro hc15
 .obtain rfl:=kk hc15;obtain⟨R,l,x,y,rfl⟩:=Run.NC (show 2<=R.s.d.length from hn);have hst:=mE n R l x y;have hll:l.length+2<=100000:=(by have:((l++[x])++[y]).length<=100000:=hd;simp only[ae,ak,ao]at this;omega);refine Z_3 ?_;refine ZcM (eJ K X (R.wd ((l++[x])++[y]))) (λw hi hin=>iz K X R (l++[x]) y w hin) ?_;refine ZA ?_;refine ZcM (eJ K X (R.wd (l++[x]))) (λw hi hin=>iz K X R l x w hin) ?_;refine Z_9 ?_;refine jO ?_;rintro _ _ ⟨b56,rfl,rfl⟩;refine ZcL (eJ K X (R.wd l)) (λw hi hin=>iY K X (R.wd l) _ 3 3 [x,y,x] (show l.length+3<=1000000 by omega) w hin (λw' hk=>hi.NE Zi Zh hk)) ?_;rintro _ _ ⟨_,⟨A',c',rfl,rfl⟩,rfl⟩;refine Z_9 ?_;exact xJ
 refine Z_6 ?_;refine ZW ?_ ?_<;>intro hc18
 .obtain rfl:=kk hc18;obtain⟨R,l,x,rfl⟩:=Run.snoc (show 1<=R.s.d.length from hn);have hst:=nY n R l x;have hrr:R.s.r.length<=100000:=hr;have hrr2:(R.wd l).s.r.length<=100000:=hr;refine bU ⟨λj=>List.elem j [7,9,13],[]⟩ Zk ?_;refine gO ?_;refine ZE 2 ?_;refine ZFe 3 0 ?_;refine ZFe 4 2 ?_;refine ZE 6 ?_;refine k8 5 7 Zk ?_ ?_
  .refine kY ?_;refine cn 7 Zk ?_;refine ZcA (eJ K X (R.wd (l++[x]))) (λw hi hin=>iz K X R l x w hin) ?_;rintro _ _ ⟨_,⟨rfl,rfl⟩,rfl⟩;refine cn 8 Zk ?_;refine xI ?_;rintro _ _ ⟨b68,rfl,rfl⟩;refine cn 9 Zk ?_;refine kf rfl rfl (cD (e:=25) (sz:=1) (bytes:=4) rfl rfl Za rfl rfl (λw hi=>hi.rd (show Has _ (slv 25 1 (some ⟨b68,0,none⟩) 1 1 (ints .u32 [x]))from Zh)) cN gS Wq1) ZJ rfl ?_;rintro _ _ ⟨A',c',rfl,rfl⟩;refine ZE 10 ?_;refine ZFe 11 0 ?_;refine ZFe 12 2 ?_;refine cn 13 Zk ?_;refine ZQ ?_;refine dx ?_;refine Z_8 ?_;refine Zrb ([row _ _ _,slv _ _ _ _ _ _,slv _ _ _ _ _ _]) ?_;rw[hst];refine⟨⟨X.Ad,X.cd,A',c'⟩,rfl,?_⟩;show _=eJ K ⟨X.Ad,X.cd,A',c'⟩ ((R.wd l).wr (R.s.r++[x]));simp only[eJ,sN,slD,slR,ae,cj,ak,ao,bE]
  refine ZcA (eJ K X (R.wd (l++[x]))) (λw hi hin=>iz K X R l x w hin) ?_;rintro _ _ ⟨_,⟨rfl,rfl⟩,rfl⟩;refine ZG 5 ?_;refine cn 8 Zk ?_;refine xI ?_;rintro _ _ ⟨b68,rfl,rfl⟩;refine cn 9 Zk ?_;refine kf rfl rfl (cD (e:=25) (sz:=1) (bytes:=4) rfl rfl Za rfl rfl (λw hi=>hi.rd (show Has _ (slv 25 1 (some ⟨b68,0,none⟩) 1 1 (ints .u32 [x]))from Zh)) cN gS Wq1) ZJ rfl ?_;rintro _ _ ⟨A',c',rfl,rfl⟩;refine ZE 10 ?_;refine ZFe 11 0 ?_;refine ZFe 12 2 ?_;refine cn 13 Zk ?_;refine ZQ ?_;refine dx ?_;refine Z_8 ?_;refine Zrb ([row _ _ _,slv _ _ _ _ _ _,slv _ _ _ _ _ _]) ?_;rw[hst];refine⟨⟨X.Ad,X.cd,A',c'⟩,rfl,?_⟩;show _=eJ K ⟨X.Ad,X.cd,A',c'⟩ ((R.wd l).wr (R.s.r++[x]));simp only[eJ,sN,slD,slR,ae,cj,ak,ao,bE]
 refine Z_6 ?_;refine ZW ?_ ?_<;>intro hc20
 .obtain rfl:=kk hc20;obtain⟨R,l,x,rfl⟩:=Run.snocR (show 1<=R.s.r.length from hnr);have hst:=lP n R l x;have hdd:R.s.d.length<=100000:=hd;refine Z_3 ?_;refine ZcM (eJ K X (R.wr (l++[x]))) (λw hi hin=>Gk K X R l x w hin) ?_;refine jO ?_;rintro _ _ ⟨b78,rfl,rfl⟩;refine ZcL (eJ K X (R.wr l)) (λw hi hin=>iY K X (R.wr l) _ 1 1 [x] (show R.s.d.length+1<=1000000 by omega) w hin (λw' hk=>hi.NE Zi Zh hk)) ?_;rintro _ _ ⟨_,⟨A',c',rfl,rfl⟩,rfl⟩;refine Z_9 ?_;exact xJ
 have hst:=qQ n R hc3 hc4 hc5 hc7 hc10 hc12 hc15 hc18 hc20;refine Z_8 ?_;exact xJ
end Go.Proofs.YtkegldppffignaaGreatDoor
namespace Go.Ink
open Go.RowKit
def jQ(R:Run)(n:Int):Int:=IntKind.u32.wrap (R.s.pc+lI n)
def cJ(op n:Int)(R:Run):Bool×Run:=
 bif decide (16<=op)&&decide (op<=25)then
  (true,bif op !=25 then((bif(iN op R.pop.top R.top).2.2 then R.pop.pop else R.pop.pop.wt ⟨5,0⟩).wfl (iN op R.pop.top R.top).2.1).push [(iN op R.pop.top R.top).1]else(bif(iN op R.pop.top R.top).2.2 then R.pop.pop else R.pop.pop.wt ⟨5,0⟩).wfl (iN op R.pop.top R.top).2.1)
 else bif op==38 then(true,(R.N6 R.s.pc).wpc (jQ R n))else bif op==32 then(true,R.wpc (jQ R n))else bif op==39 then(true,R.Nn.wpc R.topR)else bif op==40 then(true,R.pop.wpc R.top)else
 ((cY op R.s.flags).2,bif(cY op R.s.flags).1 then R.wpc (jQ R n)else R)
theorem B6{op:Int}(h:(decide (16<=op)&&decide (op<=25))=true):(bY op).1.1=2:=by
 simp only[aL,aj]at h;obtain rfl|rfl|rfl|rfl|rfl|rfl|rfl|rfl|rfl|rfl:op=16\/op=17\/op=18\/op=19\/op=20\/op=21\/op=22\/op=23\/op=24\/op=25:=by omega
 all_goals rfl
end Go.Ink
namespace Go.Proofs.YtkegldppffignaaGreatDoor
open Go.RowKit Go.Ink Go.Proofs.Tryz
attribute [local irreducible] OpY bS
theorem Gf(K:EL)(X:kb)(R:Run)(op n:Int)(hw:∀x,x∈R.s.d->u32 x)(hd:R.s.d.length<=100000)(hr:R.s.r.length<=100000)(hn:(bY op).1.1<=R.s.d.length)(hnr:(bY op).2.1<=R.s.r.length)(w:World)(hi:Inv w (bM (eJ K X R)) (eJ K X R) w):
  Ctr prog 161 [.pointer (some ⟨K.br,0,none⟩),.agg #[.int .i64 op,.int .u32 n]] w (eJ K X R) (λv cs=>∃X',v= .bool (cJ op n R).1/\cs=eJ K X' (cJ op n R).2):=by
 have HS:=Ae n;have HA:=ado_ok op;have HH:=K3 op R.s.flags;obtain⟨th,hth⟩:=Zgn (jQ R n);have hth':=hth;unfold jQ at hth';obtain⟨sg,hsg⟩:=Zgn (lI n);rw[hsg]at HS hth';refine bN func161 rfl ntmps161 rfl hi ?_;refine Z_2 ?_;refine ZO λb3=>?_;refine Z_4 ?_;refine bU ⟨λj=>List.elem j [],[]⟩ Zk ?_;refine gO ?_;refine ZFe 2 0 ?_;refine ZFe 3 0 ?_;refine ZG 4 ?_;refine ZFe 5 1 ?_;refine ZG 6 ?_;refine cn 7 Zk ?_;refine ZT (λw hi=>HS w) ?_;rintro _ _ ⟨_,⟨rfl,rfl⟩,rfl⟩;refine cG 8 rfl Zk Zk Zk (df Zv0 Zv0 hth') rfl ?_;refine ZE 9 ?_;refine dx ?_;refine mn ?_;refine Z_1 ?_;refine ZW ?_ ?_<;>intro hc7
 .rw[B6 hc7]at hn;obtain⟨R,l,x,y,rfl⟩:=Run.NC hn;have hll:l.length+2<=100000:=(by have:((l++[x])++[y]).length<=100000:=hd;simp only[ae,ak,ao]at this;omega);have HA:=HA x y (hw y cE).1;obtain⟨⟨v,fl,ok⟩,hq⟩:=Zgn (iN op x y);rw[hq]at HA;have hst:cJ op n (R.wd ((l++[x])++[y]))=(true,bif op !=25 then((bif ok then R.wd l else(R.wd l).wt ⟨5,0⟩).wfl fl).push [v]else(bif ok then R.wd l else(R.wd l).wt ⟨5,0⟩).wfl fl):=(by simp only[cJ,hc7,ac,Run.top_wd,Run.pop_wd,hq]);refine Z_3 ?_;refine ZcM (eJ K X (R.wd ((l++[x])++[y]))) (λw hi hin=>iz K X R (l++[x]) y w hin) ?_;refine ZA ?_;refine ZcM (eJ K X (R.wd (l++[x]))) (λw hi hin=>iz K X R l x w hin) ?_;refine Z_9 ?_;refine ZSe (λw hi=>HA w) ?_;refine ri ?_;refine ZW ?_ ?_<;>intro hc10
  .obtain rfl:ok=false:=(by simpa using hc10);have hR:∃Q,Q=(R.wd l).wt ⟨5,0⟩:=⟨_,rfl⟩;refine Z_2 ?_;refine ZcM (eJ K X (R.wd l)) (λw hi hin=>ot K X (R.wd l) 5 0 w hin) ?_;refine Z_9 ?_;refine ZL ?_;refine Z_8 ?_;refine ZW ?_ ?_<;>intro hc13
   .simp only[hc13,ac,aa]at hst;refine Z_3 ?_;refine jO ?_;rintro _ _ ⟨b74,rfl,rfl⟩;refine ZcL (eJ K X (((R.wd l).wt ⟨5,0⟩).wfl fl)) (λw hi hin=>iY K X (((R.wd l).wt ⟨5,0⟩).wfl fl) _ 1 1 [v] (show l.length+1<=1000000 by omega) w hin (λw' hk=>hi.NE Zi Zh hk)) ?_;rintro _ _ ⟨_,⟨A',c',rfl,rfl⟩,rfl⟩;refine Z_9 ?_;exact xJ
   simp only[hc13,ac,aa]at hst;refine Z_9 ?_;exact xJ
  obtain rfl:ok=true:=(by simpa using hc10);refine Z_9 ?_;refine ZL ?_;refine Z_8 ?_;refine ZW ?_ ?_<;>intro hc13
  .simp only[hc13,ac,aa]at hst;refine Z_3 ?_;refine jO ?_;rintro _ _ ⟨b74,rfl,rfl⟩;refine ZcL (eJ K X ((R.wd l).wfl fl)) (λw hi hin=>iY K X ((R.wd l).wfl fl) _ 1 1 [v] (show l.length+1<=1000000 by omega) w hin (λw' hk=>hi.NE Zi Zh hk)) ?_;rintro _ _ ⟨_,⟨A',c',rfl,rfl⟩,rfl⟩;refine Z_9 ?_;exact xJ
  simp only[hc13,ac,aa]at hst;refine Z_9 ?_;exact xJ
 refine Z_7 ?_;refine ZW ?_ ?_<;>intro hc15
 .have hst:cJ op n R=(true,(R.N6 R.s.pc).wpc th):=(by simp only[cJ, *,ac,aa]);refine Zs (bU ⟨λj=>List.elem j [12,16],[]⟩ Zk ?_);refine gO ?_;refine ZE 2 ?_;refine ZFe 3 0 ?_;refine ZFe 4 2 ?_;refine ZG 5 ?_;refine ZE 6 ?_;refine ZE 7 ?_;refine ZFe 8 0 ?_;refine ZFe 9 0 ?_;refine cn 10 Zk ?_;refine kY ?_;refine cn 11 Zk ?_;refine xI ?_;rintro _ _ ⟨b90,rfl,rfl⟩;refine cn 12 Zk ?_;refine kf rfl rfl (cD (e:=25) (sz:=1) (bytes:=4) rfl rfl Za rfl rfl (λw hi=>hi.rd (show Has _ (slv 25 1 (some ⟨b90,0,none⟩) 1 1 (ints .u32 [R.s.pc]))from Zh)) cN gS Wq1) ZJ rfl ?_;rintro _ _ ⟨A',c',rfl,rfl⟩;refine ZE 13 ?_;refine ZFe 14 0 ?_;refine ZFe 15 2 ?_;refine cn 16 Zk ?_;refine ZQ ?_;refine dx ?_;refine Z_7 ?_;refine ZL ?_;refine Wq36 ?_;rw[hst];refine⟨⟨X.Ad,X.cd,A',c'⟩,rfl,?_⟩;simp only[eJ,sN,slD,slR,Run.N6,ae,cj,ak,ao,bE]
 refine Z_7 ?_;refine ZW ?_ ?_<;>intro hc18
 .have hst:cJ op n R=(true,R.wpc th):=(by simp only[cJ, *,ac,aa]);refine Z_6 ?_;refine ZL ?_;refine Z_9 ?_;exact xJ
 refine Z_7 ?_;refine ZW ?_ ?_<;>intro hc20
 .obtain rfl:=kk hc20;obtain⟨R,l,x,rfl⟩:=Run.snocR (show 1<=R.s.r.length from hnr);have hst:cJ 39 n (R.wr (l++[x]))=(true,(R.wr l).wpc x):=(by show(_,_)=_;rw[Run.popR_wr,Run.topR_wr]);refine Z_3 ?_;refine ZcM (eJ K X (R.wr (l++[x]))) (λw hi hin=>Gk K X R l x w hin) ?_;refine Z_3 ?_;refine ZL ?_;refine Z_9 ?_;exact xJ
 refine Z_7 ?_;refine ZW ?_ ?_<;>intro hc22
 .obtain rfl:=kk hc22;obtain⟨R,l,x,rfl⟩:=Run.snoc (show 1<=R.s.d.length from hn);have hst:cJ 40 n (R.wd (l++[x]))=(true,(R.wd l).wpc x):=(by show(_,_)=_;rw[Run.pop_wd,Run.top_wd]);refine Z_3 ?_;refine ZcM (eJ K X (R.wd (l++[x]))) (λw hi hin=>iz K X R l x w hin) ?_;refine Z_3 ?_;refine ZL ?_;refine Z_9 ?_;exact xJ
 have hst:cJ op n R=((cY op R.s.flags).2,bif(cY op R.s.flags).1 then R.wpc th else R):=(by simp only[cJ, *,ac,aa]);obtain⟨⟨g,o⟩,hq⟩:=Zgn (cY op R.s.flags);rw[hq]at hst HH;refine Z_8 ?_;refine ZSe (λw hi=>HH w) ?_;refine jd ?_;refine ZW ?_ ?_<;>intro hc4
 .obtain rfl:g=true:=hc4;refine Z_6 ?_;refine ZL ?_;refine fE ?_;exact xJ
 obtain rfl:g=false:=hc4;refine fE ?_;exact xJ
end Go.Proofs.YtkegldppffignaaGreatDoor
namespace Go.Ink
open Go.RowKit
theorem bO{α:Type}(p:α->Prop){c:Bool}{x y:α}(hx:p x)(hy:p y):p (bif c then x else y):=by cases c<;>assumption
def Ja(q:(Nat×Nat)×(Nat×Nat)):Prop:=q.1.1<=3/\q.1.2<=3/\q.2.1<=3/\q.2.2<=3
theorem KA(op:Int):Ja (bY op):=by
 unfold bY
 repeat (refine bO Ja ⟨by decide,by decide,by decide,by decide⟩ ?_)
 exact⟨by decide,by decide,by decide,by decide⟩
def iM(s:St)(q:(Nat×Nat)×(Nat×Nat)):Int:=
 bif decide ((s.d.length:Int)<(q.1.1:Int))||decide ((s.r.length:Int)<(q.2.1:Int))then 3 else
 bif decide (16<(s.d.length:Int) - (q.1.1:Int)+(q.1.2:Int))||decide (16<(s.r.length:Int) - (q.2.1:Int)+(q.2.2:Int))then 4 else 0
def eH(s:St)(op n:Int):Int:=
 bif !fI op n then 1 else bif qt op&& !s.MQ then 2 else bif op==66&& !(s.get n).2 then 1 else bif op==67&& !(s.set n 0).2 then 1 else iM s (bY op)
end Go.Ink
namespace Go.Proofs.YtkegldppffignaaGreatDoor
open Go.RowKit Go.Ink Go.Proofs.Tryz
attribute [local irreducible] OpY bS
theorem LL(s:St)(Ad Ar:Option Addr)(cd cr:Nat)(op n:Int)(hu:u32 n)(w:World)(h:oJ w s Ad Ar cd cr):
  Ctr prog 159 [sv s Ad cd Ar cr,.agg #[.int .i64 op,.int .u32 n]] w [] (λv cs=>v= .int .i64 (eH s op n)/\cs=[]):=by
 have hu1:=hu.1;have hu2:=hu.2;have hD:=h.hd;have hR:=h.hr;have HR:=tG op n;have HS:=H6 op;have HN:=Kz op;have HG:=Mv s (.slice Ad s.d.length cd) (.slice Ar s.r.length cr) n;have HE:=Mc s Ad Ar cd cr n 0;obtain⟨q1,hq1⟩:=Zgn (fI op n);obtain⟨q2,hq2⟩:=Zgn (qt op);obtain⟨⟨g0,g⟩,hq3⟩:=Zgn (s.get n);obtain⟨⟨e0,e⟩,hq4⟩:=Zgn (s.set n 0);have hle:=KA op;unfold eH;rw[hq1]at HR|-;rw[hq2]at HS|-;rw[hq3]at HG|-;rw[hq4]at HE|-;obtain⟨⟨⟨a,b⟩,⟨c,d⟩⟩,hq5⟩:=Zgn (bY op);rw[hq5]at HN hle|-;obtain⟨ha,hb,hc,hd⟩:=hle;have ha:a<=3:=ha;have hb:b<=3:=hb;have hc:c<=3:=hc;have hd:d<=3:=hd;refine bN func159 rfl ntmps159 rfl (Inv.start w) ?_;refine Z_2 ?_;refine ZO λb2=>?_;refine ZO λb3=>?_
 refine Z_8 ?_;refine ZSe (λw hi=>HR w) ?_;refine Z_4 ?_;refine ZW ?_ ?_<;>intro hc1
 .refine fX ?_;refine⟨?_,rfl⟩;simp only[iM, *,ac,aa]
 refine Z_4 ?_;refine ZSe (λw hi=>HS w) ?_;refine Z_8 ?_;refine ZW ?_ ?_<;>intro hc3
 .refine fX ?_;refine⟨?_,rfl⟩;simp only[iM, *,ac,aa]
 refine Z_9 ?_;refine Zy (ce rfl rfl Zv0 Zl) ?_;refine ZSe (λw hi=>HG w) ?_;refine Bn ?_;refine ZW ?_ ?_<;>intro hc6
 .refine Z_7 ?_;refine Zra ?_;refine⟨?_,rfl⟩;simp only[iM, *,ac,aa]
 refine Z_8 ?_;refine Zy (ce rfl rfl Zv0 Zl) ?_;refine ZS (λw hi=>HE w (h.MZ hi)) ?_;rintro _ _ ⟨_,⟨A1,c1,A2,c2,rfl,rfl⟩,rfl⟩;refine Z_3 ?_;refine ZN λb7=>?_
 refine ZM ?_;refine gy ?_;refine ZW ?_ ?_<;>intro hc9
 .refine Z_7 ?_;refine Zra ?_;refine⟨?_,rfl⟩;simp only[iM, *,ac,aa]
 refine Z_6 ?_;refine ZSe (λw hi=>HN w) ?_;refine mn ?_;refine dS ?_;refine ZW ?_ ?_<;>intro hc12
 .refine fX ?_;refine⟨?_,rfl⟩;simp only[iM, *,ac,aa]
 refine Z_6 ?_;refine Zy (eE Zv0 Zv0 Zl) ?_;refine ZA ?_;refine Zy (df Zv0 Zv0 Zl) ?_;refine Z_6 ?_;refine Zyn rfl rfl (eE (dh rfl) (dh rfl) Zl) ?_;refine ZB ?_;refine Zyn rfl rfl (df (dh rfl) (dh rfl) Zl) ?_;refine Z_5 ?_;refine ZW ?_ ?_<;>intro hc14
 .refine fX ?_;refine⟨?_,rfl⟩;simp only[iM, *,ac,aa]
 refine Z_9 ?_;refine Zra ?_;refine⟨?_,rfl⟩;simp only[iM, *,ac,aa]
end Go.Proofs.YtkegldppffignaaGreatDoor
namespace Go.Ink
open Go.RowKit
def Run.sp(R:Run):Sp:=⟨R.s.MU,R.s.MQ,R.s.root.toNat⟩
abbrev Run.wdv(R:Run)(t:Tr)(b:Bool):Run:=⟨R.s,R.count,t,b⟩
structure LW where
 p:Int
 ok:Bool
 r:Run
 u:Mmu
def cL(n:Nat)(R:Run)(U:Mmu)(va:Nat)(kind:Int):LW:=
 bif((va%4:Nat):Int) !=0 then⟨0,false,R.wt ⟨6,va⟩,U⟩else
 ⟨(cP n U R.sp va kind).1.1,(cP n U R.sp va kind).1.2.MR==0,R.wdv (cP n U R.sp va kind).1.2 ((cP n U R.sp va kind).1.2.MR==0&&decide (32768<=(cP n U R.sp va kind).1.1)),(cP n U R.sp va kind).2⟩
end Go.Ink
namespace Go.Proofs.YtkegldppffignaaGreatDoor
open Go.RowKit Go.Ink Go.Proofs.Tryz
attribute [local irreducible] OpY bS
theorem sF(K:EL)(X:kb)(R:Run)(hr:0<=R.s.root)(w:World)(h:(sN K X R).ok w):
  Ctr prog 246 [.pointer (some ⟨K.br,0,none⟩)] w [] (λv cs=>v=R.sp.v/\cs=[]):=
 (JV K X R w h).mono λv cs ⟨h1,h2⟩=>⟨by rw[h1,Run.sp,Sp.v,Int.toNat_of_nonneg hr],h2⟩
abbrev iX(K:EL)(X:kb)(R:Run):List Value:=[.int .u32 R.s.pc,.slice X.Ad R.s.d.length X.cd,.slice X.Ar R.s.r.length X.cr,.int .u32 R.s.flags,.bool R.s.MQ,.bool R.s.MU,.bool R.s.ie,.int .u32 R.s.root,.int .u32 R.s.vec,.int .u32 R.s.epc,.int .u32 R.s.MR,.int .u32 R.s.addr,.bool R.s.M1,.bool R.s.eie,.int .u64 R.s.count,.bool R.s.halted,.int .u64 R.count,.pointer K.u,.pointer K.b,.int .i64 R.M3.MR,.int .u32 R.M3.addr,.bool R.device]
abbrev kOf(br bu:Nat)(D:p8):EL:=⟨br,some ⟨bu,0,none⟩,some ⟨D.bs,0,none⟩⟩
theorem By(br bu bb:Nat)(L:fu)(D:p8)(X:kb)(R:Run)(U:Mmu)(hT:U.t.length=16)(hroot:u32 R.s.root)(va:Nat)(hva:va<=4294967295)(kind:Int)(w:World)(hi:Inv w (bM (eJ (kOf br bu D) X R++uF bu bb L U)) (eJ (kOf br bu D) X R++uF bu bb L U) w):
  Ctr prog 242 [.pointer (some ⟨br,0,none⟩),.int .u32 va,.int .i64 kind] w (eJ (kOf br bu D) X R++uF bu bb L U)
   (λv cs=>v= .tuple #[.int .u32 (cL L.n R U va kind).p,.bool (cL L.n R U va kind).ok]/\cs=eJ (kOf br bu D) X (cL L.n R U va kind).r++uF bu bb L (cL L.n R U va kind).u):=by
 have hr0:=hroot.1;have hr1:=hroot.2;have hsr:R.sp.root<=4294967295:=by show R.s.root.toNat<=_;omega
 have HP:=oV bu bb L U hT R.sp hsr va hva kind;have HS:=sF (kOf br bu D) X R hr0;unfold cL;obtain⟨⟨⟨p,ca,ad⟩,U'⟩,hq⟩:=Zgn (cP L.n U R.sp va kind);rw[hq]at HP|-;obtain⟨S,hS⟩:=Zgn (R.sp);rw[hS]at HP HS;refine bN func242 rfl ntmps242 rfl hi ?_;refine fE ?_;refine Zy (ij (Zv rfl) (Zv rfl) Wq1 (show _=((va%4:Nat):Int)from by rw[aG Wq1];omega)) ?_;refine Z_4 ?_;refine ZW ?_ ?_<;>intro hc1
 .refine Z_4 ?_;refine ZcM (eJ (kOf br bu D) X R) (λw hi hin=>ot (kOf br bu D) X R 6 va w hin) ?_;refine fE ?_;refine bP (eJ (kOf br bu D) X (R.wt ⟨6,va⟩)++uF bu bb L U) Zj ?_;refine rx (cs':=[row _ _ _,slv _ _ _ _ _ _,slv _ _ _ _ _ _,row _ _ _,exC _ _ _ _,row _ _ _]) (.inl rfl) Zu rfl rfl rfl ?_;rw[hc1];exact de
 refine xF ?_;refine ZW ?_ ?_<;>intro hc4
 .exact absurd hc4 cE
 refine Z_4 ?_;refine bU ⟨λj=>List.elem j [8,14],[]⟩ Zk ?_;refine gO ?_;refine ZFe 2 17 ?_;refine ZG 3 ?_;refine ZE 4 ?_;refine ZE 6 ?_;refine ZE 7 ?_;refine k8 5 12 Zk ?_ ?_
 .refine ZT (λw hi=>HS w (hi.get Zh)) ?_;rintro _ _ ⟨_,⟨rfl,rfl⟩,rfl⟩;refine k8 8 12 Zk ?_ ?_
  .refine ZcA (uF bu bb L U) (λw hi hin=>HP w hin) ?_;rintro _ _ ⟨_,⟨rfl,rfl⟩,rfl⟩;refine ZE 9 ?_;refine ZE 10 ?_;refine ZE 11 ?_;refine cn 12 Zk ?_;refine ZP λb9=>?_
   refine ZE 13 ?_;refine cn 14 Zk ?_;refine ZR ?_;refine dx ?_;refine Z_7 ?_;refine dH (fb (ys:=iX (kOf br bu D) X (R.wt ⟨ca,ad⟩)) (n:=2) (vs:=[.int .i64 ca,.int .u32 ad]) rfl Zrf rfl rfl (jA rfl) Za rfl (by simp only[ak,ao];omega)) ?_;rintro _ _ ⟨rfl,rfl⟩;refine gy ?_;refine ZL ?_;refine Z_3 ?_;refine bU ⟨λj=>List.elem j [],[]⟩ Zk ?_;refine ZE 0 ?_;refine ZFe 1 0 ?_;refine ZG 2 ?_;refine ZE 3 ?_;refine ZE 4 ?_;refine ZE 5 ?_;refine dx ?_;refine Z_2 ?_;refine bP (eJ (kOf br bu D) X (R.wdv ⟨ca,ad⟩ (ca==0&&decide (32768<=p)))++uF bu bb L U') Zj ?_;refine rx (cs':=[row _ _ _,slv _ _ _ _ _ _,slv _ _ _ _ _ _,row _ _ _,exC _ _ _ _,row _ _ _]) (.inl rfl) Zu rfl rfl rfl ?_;rw[hc1];exact de
  refine ZP λb9=>?_
  refine cn 8 Zk ?_;refine ZcA (uF bu bb L U) (λw hi hin=>HP w hin) ?_;rintro _ _ ⟨_,⟨rfl,rfl⟩,rfl⟩;refine ZE 9 ?_;refine ZE 10 ?_;refine ZE 11 ?_;refine ZE 13 ?_;refine cn 14 Zk ?_;refine ZR ?_;refine dx ?_;refine Z_7 ?_;refine dH (fb (ys:=iX (kOf br bu D) X (R.wt ⟨ca,ad⟩)) (n:=2) (vs:=[.int .i64 ca,.int .u32 ad]) rfl Zrf rfl rfl (jA rfl) Za rfl (by simp only[ak,ao];omega)) ?_;rintro _ _ ⟨rfl,rfl⟩;refine gy ?_;refine ZL ?_;refine Z_3 ?_;refine bU ⟨λj=>List.elem j [],[]⟩ Zk ?_;refine ZE 0 ?_;refine ZFe 1 0 ?_;refine ZG 2 ?_;refine ZE 3 ?_;refine ZE 4 ?_;refine ZE 5 ?_;refine dx ?_;refine Z_2 ?_;refine bP (eJ (kOf br bu D) X (R.wdv ⟨ca,ad⟩ (ca==0&&decide (32768<=p)))++uF bu bb L U') Zj ?_;refine rx (cs':=[row _ _ _,slv _ _ _ _ _ _,slv _ _ _ _ _ _,row _ _ _,exC _ _ _ _,row _ _ _]) (.inl rfl) Zu rfl rfl rfl ?_;rw[hc1];exact de
 refine ZP λb9=>?_
 refine cn 5 Zk ?_;refine ZT (λw hi=>HS w (hi.get Zh)) ?_;rintro _ _ ⟨_,⟨rfl,rfl⟩,rfl⟩;refine cn 8 Zk ?_;refine ZcA (uF bu bb L U) (λw hi hin=>HP w hin) ?_;rintro _ _ ⟨_,⟨rfl,rfl⟩,rfl⟩;refine ZE 9 ?_;refine ZE 10 ?_;refine ZE 11 ?_;refine ZE 13 ?_;refine cn 14 Zk ?_;refine ZR ?_;refine dx ?_;refine Z_7 ?_;refine dH (fb (ys:=iX (kOf br bu D) X (R.wt ⟨ca,ad⟩)) (n:=2) (vs:=[.int .i64 ca,.int .u32 ad]) rfl Zrf rfl rfl (jA rfl) Za rfl (by simp only[ak,ao];omega)) ?_;rintro _ _ ⟨rfl,rfl⟩;refine gy ?_;refine ZL ?_;refine Z_3 ?_;refine bU ⟨λj=>List.elem j [],[]⟩ Zk ?_;refine ZE 0 ?_;refine ZFe 1 0 ?_;refine ZG 2 ?_;refine ZE 3 ?_;refine ZE 4 ?_;refine ZE 5 ?_;refine dx ?_;refine Z_2 ?_;refine bP (eJ (kOf br bu D) X (R.wdv ⟨ca,ad⟩ (ca==0&&decide (32768<=p)))++uF bu bb L U') Zj ?_;refine rx (cs':=[row _ _ _,slv _ _ _ _ _ _,slv _ _ _ _ _ _,row _ _ _,exC _ _ _ _,row _ _ _]) (.inl rfl) Zu rfl rfl rfl ?_;rw[hc1];exact de
end Go.Proofs.YtkegldppffignaaGreatDoor
namespace Go.Ink
open Go.RowKit
theorem sk(n:Nat)(R:Run)(U:Mmu)(va:Nat)(kind:Int):(cL n R U va kind).r.s=R.s:=by unfold cL;exact bO (λW:LW=>W.r.s=R.s) rfl rfl
theorem xN(n:Nat)(R:Run)(U:Mmu)(va:Nat)(hva:va<=4294967295)(kind:Int):u32 (cL n R U va kind).p:=by unfold cL;exact bO (λW:LW=>u32 W.p) (show u32 0 from⟨by decide,by decide⟩) (jI n U R.sp va hva kind).1
theorem Dc(n:Nat)(hn:n<=64)(R:Run)(U:Mmu)(va:Nat)(hva:va<=4294967295)(kind:Int)(hk:(cL n R U va kind).ok=true)(hd:(cL n R U va kind).r.device=false):(cL n R U va kind).p.toNat+4<=n*64:=by
 obtain⟨hu,hp⟩:=jI n U R.sp va hva kind;unfold cL at hk hd|-;cases hm:(((va%4:Nat):Int) !=0)with
 |true=>rw[hm]at hk;cases hk
 |false=>
  rw[hm]at hk hd;simp only[aa]at hk hd|-;rw[hk]at hd;simp only[Bool.true_and,ah]at hd;have hc:=hp (by simpa using hk);have h4:va%4=0:=by
   have:((va%4:Nat):Int)=0:=by simpa using hm
   omega
  have h1:=hc.m;have h2:=hu.1;rcases hc.r with h3|h3
  .omega
  simp only[ry,aL,aj]at h3;omega
theorem tZ{α:Type}{c:Bool}{x y:α}(h:c=true):(bif c then x else y)=x:=by rw[h];rfl
theorem lH{α:Type}{c:Bool}{x y:α}(h:c=false):(bif c then x else y)=y:=by rw[h];rfl
def nT(n:Nat)(M:Mem)(a:Nat):Int×Bool:=bif decide (a+4<=n*64)then(nU M.data a,true)else(0,false)
structure gi where
 r:Run
 u:Mmu
 d:Dev
def qW(W:LW)(d:Dev)(va:Nat)(v:Int)(o:Bool):gi:=⟨(bif !o then W.r.wt ⟨10,va⟩else W.r).push [v],W.u,d⟩
def jZ(n:Nat)(R:Run)(U:Mmu)(d:Dev)(va:Nat):gi:=
 bif !(cL n R U va 2).ok then⟨(cL n R U va 2).r,(cL n R U va 2).u,d⟩else
 bif(cL n R U va 2).r.device then qW (cL n R U va 2) (di d (uP (cL n R U va 2).p.toNat) (cL n R U va 2).r.count).2 va (di d (uP (cL n R U va 2).p.toNat) (cL n R U va 2).r.count).1.1 (di d (uP (cL n R U va 2).p.toNat) (cL n R U va 2).r.count).1.2
 else qW (cL n R U va 2) d va (nT n (cL n R U va 2).u.m (cL n R U va 2).p.toNat).1 (nT n (cL n R U va 2).u.m (cL n R U va 2).p.toNat).2
def jX(n:Nat)(R:Run)(U:Mmu)(d:Dev)(va v:Nat):gi:=
 bif !(cL n R U va 3).ok then⟨(cL n R U va 3).r,(cL n R U va 3).u,d⟩else
 bif(cL n R U va 3).r.device then
  ⟨bif !(cO n (cL n R U va 3).u.m d (uP (cL n R U va 3).p.toNat) v).1 then(cL n R U va 3).r.wt ⟨10,va⟩else(cL n R U va 3).r,⟨(cO n (cL n R U va 3).u.m d (uP (cL n R U va 3).p.toNat) v).2.1,(cL n R U va 3).u.t⟩,(cO n (cL n R U va 3).u.m d (uP (cL n R U va 3).p.toNat) v).2.2⟩
 else⟨(cL n R U va 3).r,⟨(cL n R U va 3).u.m.Nl (cL n R U va 3).p.toNat v,(cL n R U va 3).u.t⟩,d⟩
end Go.Ink
namespace Go.Proofs.YtkegldppffignaaGreatDoor
open Go.RowKit Go.Ink Go.Proofs.Tryz
attribute [local irreducible] OpY bS
theorem Jm(L:fu)(M:Mem)(a:Nat):wc L M a= .tuple #[.int .u32 (nT L.n M a).1,.bool (nT L.n M a).2]:=by
 unfold wc nT;cases decide (a+4<=L.n*64)<;>rfl
abbrev lJ(br bu bb:Nat)(L:fu)(D:p8)(X:kb)(Y:nw)(m:gi):List bL:=eJ (kOf br bu D) X m.r++uF bu bb L m.u++lm D L.bm Y m.d
theorem lode_ok(br bu bb:Nat)(L:fu)(D:p8)(X:kb)(Y:nw)(R:Run)(U:Mmu)(d:Dev)(l:List Int)(va:Nat)(hva:va<=4294967295)(hl:l.length<=100000)(hT:U.t.length=16)(hroot:u32 R.s.root)(hd:d.wf)
  (w:World) (hi:Inv w (bM (lJ br bu bb L D X Y ⟨R.wd (l++[(va:Int)]),U,d⟩)) (lJ br bu bb L D X Y ⟨R.wd (l++[(va:Int)]),U,d⟩) w):
  Ctr prog 200 [.pointer (some ⟨br,0,none⟩)] w (lJ br bu bb L D X Y ⟨R.wd (l++[(va:Int)]),U,d⟩) (λv cs=>∃X' Y',v= .tuple #[]/\cs=lJ br bu bb L D X' Y' (jZ L.n (R.wd l) U d va)):=by
 have HW:=λX=>By br bu bb L D X (R.wd l) U hT hroot va hva 2
 have hs:=sk L.n (R.wd l) U va 2;have hu:=xN L.n (R.wd l) U va hva 2;unfold jZ;obtain⟨⟨p,ok,r,u⟩,hq⟩:=Zgn (cL L.n (R.wd l) U va 2);rw[hq]at HW hs hu|-;obtain⟨pn,rfl⟩:∃pn:Nat,p=pn:=ar hu.1;have hpn:pn<=4294967295:=by have:(pn:Int)<=_:=hu.2;omega
 have hs:r.s=(R.wd l).s:=hs;have hdl:r.s.d.length<=100000:=by rw[hs];exact hl
 simp only[aP];have HB:=λX=>EB D L.bm X d hd pn r.count
 obtain⟨⟨⟨v,o⟩,d'⟩,hq2⟩:=Zgn (di d (uP pn) r.count);rw[hq2]at HB|-;have HM:=rL L u.m pn hpn;rw[Jm]at HM;obtain⟨⟨v2,o2⟩,hq3⟩:=Zgn (nT L.n u.m pn);rw[hq3]at HM|-;refine bN func200 rfl ntmps200 rfl hi ?_;refine Z_3 ?_;refine ZcM (eJ (kOf br bu D) X (R.wd (l++[(va:Int)]))) (λw hi hin=>iz (kOf br bu D) X R l va w hin) ?_;refine Z_7 ?_;refine ZcM (eJ (kOf br bu D) X (R.wd l)++uF bu bb L U) (λw hi hin=>HW X w hin) ?_;refine gy ?_;refine ZW ?_ ?_<;>intro hc2
 .refine Z_2 ?_;refine bP (lJ br bu bb L D X Y ⟨r,u,d⟩) Zj ?_;refine jb (cs':=[row _ _ _,slv _ _ _ _ _ _,slv _ _ _ _ _ _,row _ _ _,exC _ _ _ _,row _ _ _,row _ _ _,row _ _ _,row _ _ _,row _ _ _,slv _ _ _ _ _ _,slv _ _ _ _ _ _,row _ _ _,slv _ _ _ _ _ _]) (.inl rfl) Zu rfl ?_;rw[hc2];exact⟨X,Y,rfl,rfl⟩
 refine ri ?_;refine ZW ?_ ?_<;>intro hc4
 .refine bU ⟨λj=>List.elem j [9],[]⟩ Zk ?_;refine gO ?_;refine ZFe 2 18 ?_;refine ZG 3 ?_;refine ZE 4 ?_;refine ZE 5 ?_;refine ZE 6 ?_;refine ZFe 7 16 ?_;refine ZG 8 ?_;refine cn 9 Zk ?_;refine ZcA (lm D L.bm Y d) (λw hi hin=>HB Y w hin) ?_;rintro _ _ ⟨_,⟨Y',rfl,rfl⟩,rfl⟩;refine ZE 10 ?_;refine ZE 11 ?_;refine ZE 12 ?_;refine ZE 13 ?_;refine ZE 14 ?_;refine dx ?_;refine Z_8 ?_;refine ZW ?_ ?_<;>intro hc7
  .refine Z_3 ?_;refine ZcM (eJ (kOf br bu D) X r) (λw hi hin=>ot (kOf br bu D) X r 10 va w hin) ?_;refine Z_5 ?_;refine jO ?_;rintro _ _ ⟨b50,rfl,rfl⟩;refine ZcL (eJ (kOf br bu D) X (r.wt ⟨10,va⟩)) (λw hi hin=>iY (kOf br bu D) X (r.wt ⟨10,va⟩) _ 1 1 [v] (show r.s.d.length+1<=1000000 by omega) w hin (λw' hk=>hi.NE Zi Zh hk)) ?_;rintro _ _ ⟨_,⟨A',c',rfl,rfl⟩,rfl⟩;refine Zn (bP (lJ br bu bb L D ⟨A',c',X.Ar,X.cr⟩ Y' ⟨(r.wt ⟨10,va⟩).wd (r.s.d++[v]),u,d'⟩) Zj ?_);refine Wq3 ?_;rw[lH hc2,tZ hc4,qW,tZ hc7];exact⟨⟨A',c',X.Ar,X.cr⟩,Y',rfl,rfl⟩
  refine Z_5 ?_;refine jO ?_;rintro _ _ ⟨b50,rfl,rfl⟩;refine ZcL (eJ (kOf br bu D) X r) (λw hi hin=>iY (kOf br bu D) X r _ 1 1 [v] (show r.s.d.length+1<=1000000 by omega) w hin (λw' hk=>hi.NE Zi Zh hk)) ?_;rintro _ _ ⟨_,⟨A',c',rfl,rfl⟩,rfl⟩;refine Zn (bP (lJ br bu bb L D ⟨A',c',X.Ar,X.cr⟩ Y' ⟨r.wd (r.s.d++[v]),u,d'⟩) Zj ?_);refine Wq3 ?_;rw[lH hc2,tZ hc4,qW,lH hc7];exact⟨⟨A',c',X.Ar,X.cr⟩,Y',rfl,rfl⟩
 refine Z_5 ?_;refine ZSe (λw hi=>lO bu L.bm bb w (hi.get Zh)) ?_;refine ZA ?_;refine ZSe (λw hi=>HM w (hi.get Zh)) ?_;refine gy ?_;refine ZW ?_ ?_<;>intro hc7
 .refine Z_3 ?_;refine ZcM (eJ (kOf br bu D) X r) (λw hi hin=>ot (kOf br bu D) X r 10 va w hin) ?_;refine Z_5 ?_;refine jO ?_;rintro _ _ ⟨b50,rfl,rfl⟩;refine ZcL (eJ (kOf br bu D) X (r.wt ⟨10,va⟩)) (λw hi hin=>iY (kOf br bu D) X (r.wt ⟨10,va⟩) _ 1 1 [v2] (show r.s.d.length+1<=1000000 by omega) w hin (λw' hk=>hi.NE Zi Zh hk)) ?_;rintro _ _ ⟨_,⟨A',c',rfl,rfl⟩,rfl⟩;refine Zn (bP (lJ br bu bb L D ⟨A',c',X.Ar,X.cr⟩ Y ⟨(r.wt ⟨10,va⟩).wd (r.s.d++[v2]),u,d⟩) Zj ?_);refine Wq3 ?_;rw[lH hc2,lH hc4,qW,tZ hc7];exact⟨⟨A',c',X.Ar,X.cr⟩,Y,rfl,rfl⟩
 refine Z_5 ?_;refine jO ?_;rintro _ _ ⟨b50,rfl,rfl⟩;refine ZcL (eJ (kOf br bu D) X r) (λw hi hin=>iY (kOf br bu D) X r _ 1 1 [v2] (show r.s.d.length+1<=1000000 by omega) w hin (λw' hk=>hi.NE Zi Zh hk)) ?_;rintro _ _ ⟨_,⟨A',c',rfl,rfl⟩,rfl⟩;refine Zn (bP (lJ br bu bb L D ⟨A',c',X.Ar,X.cr⟩ Y ⟨r.wd (r.s.d++[v2]),u,d⟩) Zj ?_);refine Wq3 ?_;rw[lH hc2,lH hc4,qW,lH hc7];exact⟨⟨A',c',X.Ar,X.cr⟩,Y,rfl,rfl⟩
theorem stow_ok(br bu bb:Nat)(L:fu)(D:p8)(X:kb)(Y:nw)(R:Run)(U:Mmu)(d:Dev)(l:List Int)(va v:Nat)(hva:va<=4294967295)(hv:v<=4294967295)(hT:U.t.length=16)(hroot:u32 R.s.root)(hd:d.wf)(ho:d.out.length<=1000000000)
  (w:World) (hi:Inv w (bM (lJ br bu bb L D X Y ⟨R.wd ((l++[(v:Int)])++[(va:Int)]),U,d⟩)) (lJ br bu bb L D X Y ⟨R.wd ((l++[(v:Int)])++[(va:Int)]),U,d⟩) w):
  Ctr prog 201 [.pointer (some ⟨br,0,none⟩)] w (lJ br bu bb L D X Y ⟨R.wd ((l++[(v:Int)])++[(va:Int)]),U,d⟩) (λx cs=>∃Y',x= .tuple #[]/\cs=lJ br bu bb L D X Y' (jX L.n (R.wd l) U d va v)):=by
 have HW:=By br bu bb L D X (R.wd l) U hT hroot va hva 3;have hu:=xN L.n (R.wd l) U va hva 3;obtain⟨n1,n64,_⟩:=mj (hi.ok (eA L U.m) cE);have hin4:=Dc L.n n64 (R.wd l) U va hva 3;unfold jX;obtain⟨⟨p,ok,r,u⟩,hq⟩:=Zgn (cL L.n (R.wd l) U va 3);rw[hq]at HW hu hin4|-;obtain⟨pn,rfl⟩:∃pn:Nat,p=pn:=ar hu.1;have hpn:pn<=4294967295:=by have:(pn:Int)<=_:=hu.2;omega
 obtain⟨um,ut⟩:=u;simp only[aP]at hin4|-;have HB:=Bj D L um Y d hd ho pn v r.count;obtain⟨⟨o,M',d'⟩,hq2⟩:=Zgn (cO L.n um d (uP pn) v);rw[hq2]at HB|-;have HM:=λh=>oa L um pn v h ⟨by omega,by omega⟩
 obtain⟨M2,hq3⟩:=Zgn (um.Nl pn v);rw[hq3]at HM|-;obtain⟨tt,htt⟩:∃t:Bool,t=true:=⟨_,rfl⟩;rw[<-htt]at HM;refine bN func201 rfl ntmps201 rfl hi ?_;refine Z_3 ?_;refine gj (dY (eJ (kOf br bu D) X (R.wd ((l++[(v:Int)])++[(va:Int)]))) rfl (λ_ _=>rfl) Zi (λw hi hin=>iz (kOf br bu D) X R (l++[(v:Int)]) va w hin)) rfl ?_;rintro _ _ ⟨_,⟨rfl,rfl⟩,rfl⟩;refine Z_6 ?_;refine ZcM (eJ (kOf br bu D) X (R.wd (l++[(v:Int)]))) (λw hi hin=>iz (kOf br bu D) X R l v w hin) ?_;refine Z_7 ?_;refine ZcM (eJ (kOf br bu D) X (R.wd l)++uF bu bb L U) (λw hi hin=>HW w hin) ?_;refine gy ?_;refine ZW ?_ ?_<;>intro hc3
 .refine Z_2 ?_;refine bP (lJ br bu bb L D X Y ⟨r,⟨um,ut⟩,d⟩) Zj ?_;refine jb (cs':=[row _ _ _,slv _ _ _ _ _ _,slv _ _ _ _ _ _,row _ _ _,exC _ _ _ _,row _ _ _,row _ _ _,row _ _ _,row _ _ _,row _ _ _,slv _ _ _ _ _ _,slv _ _ _ _ _ _,row _ _ _,slv _ _ _ _ _ _]) (.inl rfl) Zu rfl ?_;rw[hc3];exact⟨Y,rfl,rfl⟩
 have hok:ok=true:=(by simpa using hc3);refine fE ?_;refine ZW ?_ ?_<;>intro hc4
 .refine bU ⟨λj=>List.elem j [10],[]⟩ Zk ?_;refine gO ?_;refine ZFe 2 18 ?_;refine ZG 3 ?_;refine ZE 4 ?_;refine ZE 5 ?_;refine ZE 6 ?_;refine ZE 7 ?_;refine ZFe 8 16 ?_;refine ZG 9 ?_;refine cn 10 Zk ?_;refine ZcA (lm D L.bm Y d++[eA L um]) (λw hi hin=>HB w hin) ?_;rintro _ _ ⟨_,⟨Y',rfl,rfl⟩,rfl⟩;refine ZE 11 ?_;refine dx ?_;refine Z_7 ?_;refine ZW ?_ ?_<;>intro hc7
  .refine Z_3 ?_;refine ZcM (eJ (kOf br bu D) X r) (λw hi hin=>ot (kOf br bu D) X r 10 va w hin) ?_;refine Zn (bP (lJ br bu bb L D X Y' ⟨r.wt ⟨10,va⟩,⟨M',ut⟩,d'⟩) Zj ?_);refine Wq3 ?_;rw[lH hc3,tZ hc4,tZ hc7];exact⟨Y',rfl,rfl⟩
  refine Zc (bP (lJ br bu bb L D X Y' ⟨r,⟨M',ut⟩,d'⟩) Zj ?_);refine Wq3 ?_;rw[lH hc3,tZ hc4,lH hc7];exact⟨Y',rfl,rfl⟩
 have HM:=HM (hin4 hok hc4);refine Z_5 ?_;refine ZSe (λw hi=>lO bu L.bm bb w (hi.get Zh)) ?_;refine Z_2 ?_;refine ZcM ([eA L um]) (λw hi hin=>HM w hin) ?_;refine Z_9 ?_;refine ZW ?_ ?_<;>intro hc7
 .refine Z_3 ?_;refine ZcM (eJ (kOf br bu D) X r) (λw hi hin=>ot (kOf br bu D) X r 10 va w hin) ?_;refine Zn (bP (lJ br bu bb L D X Y ⟨r.wt ⟨10,va⟩,⟨M2,ut⟩,d⟩) Zj ?_);refine Wq3 ?_;rw[htt]at hc7;exact absurd hc7 cE
 refine Zc (bP (lJ br bu bb L D X Y ⟨r,⟨M2,ut⟩,d⟩) Zj ?_);refine Wq3 ?_;rw[lH hc3,lH hc4];exact⟨Y,rfl,rfl⟩
end Go.Proofs.YtkegldppffignaaGreatDoor
namespace Go.Ink
open Go.RowKit
def mI(n:Nat)(R:Run)(U:Mmu)(va k:Nat):Run×Mmu:=((R.wt (pC n U R.sp va k).1.2).push [(pC n U R.sp va k).1.1],(pC n U R.sp va k).2)
def mh(n:Nat)(R:Run)(U:Mmu)(va k:Nat)(v:Int):Run×Mmu:=(R.wt (nX n U R.sp va k v).1,(nX n U R.sp va k v).2)
end Go.Ink
namespace Go.Proofs.YtkegldppffignaaGreatDoor
open Go.RowKit Go.Ink Go.Proofs.Tryz
attribute [local irreducible] OpY bS
theorem BI(br bu bb:Nat)(L:fu)(D:p8)(X:kb)(R:Run)(U:Mmu)(l:List Int)(va k:Nat)(hva:va<=4294967295)(hk1:1<=k)(hk4:k<=4)(hl:l.length<=100000)(hT:U.t.length=16)(hroot:u32 R.s.root)
  (w:World) (hi:Inv w (bM (eJ (kOf br bu D) X (R.wd (l++[(va:Int)]))++uF bu bb L U)) (eJ (kOf br bu D) X (R.wd (l++[(va:Int)]))++uF bu bb L U) w):
  Ctr prog 202 [.pointer (some ⟨br,0,none⟩),.int .i64 k,.bool false] w (eJ (kOf br bu D) X (R.wd (l++[(va:Int)]))++uF bu bb L U)
   (λx cs=>∃X',x= .tuple #[]/\cs=eJ (kOf br bu D) X' (mI L.n (R.wd l) U va k).1++uF bu bb L (mI L.n (R.wd l) U va k).2):=by
 have hr0:=hroot.1;have hr1:=hroot.2;have hsr:(R.wd l).sp.root<=4294967295:=by show R.s.root.toNat<=_;omega
 have HP:=Jv bu bb L U hT (R.wd l).sp hsr va k hva hk1 hk4;have HS:=sF (kOf br bu D) X (R.wd l) hr0;unfold mI;obtain⟨⟨⟨v,ca,ad⟩,U'⟩,hq⟩:=Zgn (pC L.n U (R.wd l).sp va k);rw[hq]at HP|-;obtain⟨S,hS⟩:=Zgn ((R.wd l).sp);rw[hS]at HP HS;refine bN func202 rfl ntmps202 rfl hi ?_;refine Z_3 ?_;refine ZcM (eJ (kOf br bu D) X (R.wd (l++[(va:Int)]))) (λw hi hin=>iz (kOf br bu D) X R l va w hin) ?_;refine mn ?_;refine Z_1 ?_;refine ZW ?_ ?_<;>intro hc4
 .exact absurd hc4 cE
 refine Z_6 ?_;refine ZW ?_ ?_<;>intro hc6
 .exact absurd hc6 cE
 refine Zs (bU ⟨λj=>List.elem j [8,14],[]⟩ Zk ?_);refine gO ?_;refine ZFe 2 17 ?_;refine ZG 3 ?_;refine ZE 4 ?_;refine ZE 6 ?_;refine ZE 7 ?_;refine k8 5 12 Zk ?_ ?_
 .refine ZT (λw hi=>HS w (hi.get Zh)) ?_;rintro _ _ ⟨_,⟨rfl,rfl⟩,rfl⟩;refine k8 8 12 Zk ?_ ?_
  .refine ZcA (uF bu bb L U) (λw hi hin=>HP w hin) ?_;rintro _ _ ⟨_,⟨rfl,rfl⟩,rfl⟩;refine ZE 9 ?_;refine ZE 10 ?_;refine ZE 11 ?_;refine cn 12 Zk ?_;refine ZP λb8=>?_
   refine ZE 13 ?_;refine cn 14 Zk ?_;refine ZR ?_;refine dx ?_;refine Z_7 ?_;refine dH (fb (ys:=iX (kOf br bu D) X ((R.wd l).wt ⟨ca,ad⟩)) (n:=2) (vs:=[.int .i64 ca,.int .u32 ad]) rfl Zrf rfl rfl (jA rfl) Za rfl (by simp only[ak,ao];omega)) ?_;rintro _ _ ⟨rfl,rfl⟩;refine Z_5 ?_;refine jO ?_;rintro _ _ ⟨b29,rfl,rfl⟩;exact Wq35
  refine ZP λb8=>?_
  refine cn 8 Zk ?_;refine ZcA (uF bu bb L U) (λw hi hin=>HP w hin) ?_;rintro _ _ ⟨_,⟨rfl,rfl⟩,rfl⟩;refine ZE 9 ?_;refine ZE 10 ?_;refine ZE 11 ?_;refine ZE 13 ?_;refine cn 14 Zk ?_;refine ZR ?_;refine dx ?_;refine Z_7 ?_;refine dH (fb (ys:=iX (kOf br bu D) X ((R.wd l).wt ⟨ca,ad⟩)) (n:=2) (vs:=[.int .i64 ca,.int .u32 ad]) rfl Zrf rfl rfl (jA rfl) Za rfl (by simp only[ak,ao];omega)) ?_;rintro _ _ ⟨rfl,rfl⟩;refine Z_5 ?_;refine jO ?_;rintro _ _ ⟨b29,rfl,rfl⟩;exact Wq35
 refine ZP λb8=>?_
 refine cn 5 Zk ?_;refine ZT (λw hi=>HS w (hi.get Zh)) ?_;rintro _ _ ⟨_,⟨rfl,rfl⟩,rfl⟩;refine cn 8 Zk ?_;refine ZcA (uF bu bb L U) (λw hi hin=>HP w hin) ?_;rintro _ _ ⟨_,⟨rfl,rfl⟩,rfl⟩;refine ZE 9 ?_;refine ZE 10 ?_;refine ZE 11 ?_;refine ZE 13 ?_;refine cn 14 Zk ?_;refine ZR ?_;refine dx ?_;refine Z_7 ?_;refine dH (fb (ys:=iX (kOf br bu D) X ((R.wd l).wt ⟨ca,ad⟩)) (n:=2) (vs:=[.int .i64 ca,.int .u32 ad]) rfl Zrf rfl rfl (jA rfl) Za rfl (by simp only[ak,ao];omega)) ?_;rintro _ _ ⟨rfl,rfl⟩;refine Z_5 ?_;refine jO ?_;rintro _ _ ⟨b29,rfl,rfl⟩;exact Wq35
theorem BH(br bu bb:Nat)(L:fu)(D:p8)(X:kb)(R:Run)(U:Mmu)(l:List Int)(va k:Nat)(v:Int)(hva:va<=4294967295)(hk1:1<=k)(hk4:k<=4)(hl:l.length<=100000)(hT:U.t.length=16)(hroot:u32 R.s.root)
  (w:World) (hi:Inv w (bM (eJ (kOf br bu D) X (R.wd ((l++[v])++[(va:Int)]))++uF bu bb L U)) (eJ (kOf br bu D) X (R.wd ((l++[v])++[(va:Int)]))++uF bu bb L U) w):
  Ctr prog 202 [.pointer (some ⟨br,0,none⟩),.int .i64 k,.bool true] w (eJ (kOf br bu D) X (R.wd ((l++[v])++[(va:Int)]))++uF bu bb L U)
   (λx cs=>x= .tuple #[]/\cs=eJ (kOf br bu D) X (mh L.n (R.wd l) U va k v).1++uF bu bb L (mh L.n (R.wd l) U va k v).2):=by
 have hr0:=hroot.1;have hr1:=hroot.2;have hsr:(R.wd l).sp.root<=4294967295:=by show R.s.root.toNat<=_;omega
 have HP:=Fb bu bb L U hT (R.wd l).sp hsr va k v hva hk1 hk4;have HS:=sF (kOf br bu D) X (R.wd (l++[v])) hr0;unfold mh;obtain⟨⟨⟨ca,ad⟩,U'⟩,hq⟩:=Zgn (nX L.n U (R.wd l).sp va k v);rw[hq]at HP|-;obtain⟨S,hS⟩:=Zgn ((R.wd l).sp);rw[show(R.wd (l++[v])).sp=(R.wd l).sp from rfl,hS]at HS;rw[hS]at HP;refine bN func202 rfl ntmps202 rfl hi ?_;refine Z_3 ?_;refine ZcM (eJ (kOf br bu D) X (R.wd ((l++[v])++[(va:Int)]))) (λw hi hin=>iz (kOf br bu D) X R (l++[v]) va w hin) ?_;refine mn ?_;refine Z_1 ?_;refine ZW ?_ ?_<;>intro hc4
 .exact absurd hc4 cE
 refine Z_6 ?_;refine ZW ?_ ?_<;>intro hc6
 .refine bU ⟨λj=>List.elem j [9,11,14],[]⟩ Zk ?_;refine gO ?_;refine ZE 2 ?_;refine ZFe 3 17 ?_;refine ZE 5 ?_;refine ZE 7 ?_;refine ZE 8 ?_;refine ZE 10 ?_;refine k8 4 6 Zk ?_ ?_
  .refine kY ?_;refine cn 6 Zk ?_;refine ZT (λw hi=>HS w (hi.get Zh)) ?_;rintro _ _ ⟨_,⟨rfl,rfl⟩,rfl⟩;refine cn 9 Zk ?_;refine ZcA (eJ (kOf br bu D) X (R.wd (l++[v]))) (λw hi hin=>iz (kOf br bu D) X R l v w hin) ?_;rintro _ _ ⟨_,⟨rfl,rfl⟩,rfl⟩;refine cn 11 Zk ?_;refine ZcA (uF bu bb L U) (λw hi hin=>HP w hin) ?_;rintro _ _ ⟨_,⟨rfl,rfl⟩,rfl⟩;refine ZE 12 ?_;refine ZFe 13 19 ?_;refine cn 14 Zk ?_;refine du rfl rfl (fb (ys:=iX (kOf br bu D) X ((R.wd l).wt ⟨ca,ad⟩)) (n:=2) (vs:=[.int .i64 ca,.int .u32 ad]) rfl Zrf rfl rfl (jA rfl) Za rfl (by simp only[ak,ao];omega)) ZJ ?_;rintro _ _ ⟨rfl,rfl⟩;refine dx ?_;refine Zo (bP (eJ (kOf br bu D) X ((R.wd l).wt ⟨ca,ad⟩)++uF bu bb L U') Zj ?_);refine jb (cs':=[row _ _ _,slv _ _ _ _ _ _,slv _ _ _ _ _ _,row _ _ _,exC _ _ _ _,row _ _ _]) (.inr rfl) Zu rfl ?_;exact de
  refine ZT (λw hi=>HS w (hi.get Zh)) ?_;rintro _ _ ⟨_,⟨rfl,rfl⟩,rfl⟩;refine k8 4 9 Zk ?_ ?_
  .refine kY ?_;refine cn 9 Zk ?_;refine ZcA (eJ (kOf br bu D) X (R.wd (l++[v]))) (λw hi hin=>iz (kOf br bu D) X R l v w hin) ?_;rintro _ _ ⟨_,⟨rfl,rfl⟩,rfl⟩;refine cn 11 Zk ?_;refine ZcA (uF bu bb L U) (λw hi hin=>HP w hin) ?_;rintro _ _ ⟨_,⟨rfl,rfl⟩,rfl⟩;refine ZE 12 ?_;refine ZFe 13 19 ?_;refine cn 14 Zk ?_;refine du rfl rfl (fb (ys:=iX (kOf br bu D) X ((R.wd l).wt ⟨ca,ad⟩)) (n:=2) (vs:=[.int .i64 ca,.int .u32 ad]) rfl Zrf rfl rfl (jA rfl) Za rfl (by simp only[ak,ao];omega)) ZJ ?_;rintro _ _ ⟨rfl,rfl⟩;refine dx ?_;refine Zo (bP (eJ (kOf br bu D) X ((R.wd l).wt ⟨ca,ad⟩)++uF bu bb L U') Zj ?_);refine jb (cs':=[row _ _ _,slv _ _ _ _ _ _,slv _ _ _ _ _ _,row _ _ _,exC _ _ _ _,row _ _ _]) (.inr rfl) Zu rfl ?_;exact de
  refine ZcA (eJ (kOf br bu D) X (R.wd (l++[v]))) (λw hi hin=>iz (kOf br bu D) X R l v w hin) ?_;rintro _ _ ⟨_,⟨rfl,rfl⟩,rfl⟩;refine ZG 4 ?_;refine cn 11 Zk ?_;refine ZcA (uF bu bb L U) (λw hi hin=>HP w hin) ?_;rintro _ _ ⟨_,⟨rfl,rfl⟩,rfl⟩;refine ZE 12 ?_;refine ZFe 13 19 ?_;refine cn 14 Zk ?_;refine du rfl rfl (fb (ys:=iX (kOf br bu D) X ((R.wd l).wt ⟨ca,ad⟩)) (n:=2) (vs:=[.int .i64 ca,.int .u32 ad]) rfl Zrf rfl rfl (jA rfl) Za rfl (by simp only[ak,ao];omega)) ZJ ?_;rintro _ _ ⟨rfl,rfl⟩;refine dx ?_;refine Zo (bP (eJ (kOf br bu D) X ((R.wd l).wt ⟨ca,ad⟩)++uF bu bb L U') Zj ?_);refine jb (cs':=[row _ _ _,slv _ _ _ _ _ _,slv _ _ _ _ _ _,row _ _ _,exC _ _ _ _,row _ _ _]) (.inr rfl) Zu rfl ?_;exact de
 exact absurd hc6 cE
end Go.Proofs.YtkegldppffignaaGreatDoor
