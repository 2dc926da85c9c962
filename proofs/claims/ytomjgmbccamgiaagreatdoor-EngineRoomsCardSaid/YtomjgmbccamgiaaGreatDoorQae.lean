/- Lemmas. -/
import Derived.Test.YtomjgmbccamgiaaGreatDoorQaa
import Derived.Test.YtomjgmbccamgiaaGreatDoorQab
import Derived.Test.YtomjgmbccamgiaaGreatDoorQac
import Derived.Test.YtomjgmbccamgiaaGreatDoorQad
set_option linter.unusedSimpArgs false
set_option linter.unusedVariables false
set_option maxRecDepth 100000
set_option maxHeartbeats 4000000
namespace Go.Ink
open Go.RowKit
def rK(l:List Nat):Nat→Int
 |0=>0
 |k+1=>bits .or .u32 (rK l k) (IntKind.u32.wrap (1*2^(min (((l.getD k 0:Nat):Int)).toNat IntKind.u32.bits)))
def pf(l:List Nat):Int:=rK l l.length
def xZ(l:List Nat):List Int:=l.map fun n:Nat=>(n:Int)
def lc(n Ih a:Nat):Bool:= !((decide (16≤Ih)||(a%64 !=0))||decide (n*64≤a))
def gf(n:Nat)(M:Mem)(ID:List Int)(Ih a cmd:Nat):Bool×Mem×List Int:=
 bif !lc n Ih a then(false,M,ID)else
 bif cmd==1 then(true,M.fill (a/64*64) ((ID.drop (Ih*64)).take 64) 64,ID)else
 bif cmd==2 then(true,M,ID.take (Ih*64)++(M.data.drop (a/64*64)).take 64++ID.drop (Ih*64+64))else(false,M,ID)
end Go.Ink
namespace Go.Proofs.YtomjgmbccamgiaaGreatDoor
open Go.RowKit Go.Ink Go.Proofs.Tryz
attribute [local irreducible] OpY bW
abbrev pU(b:Nat)(p m:Int):bJ:=row b [.int .u32 p,.int .u32 m] 119
abbrev Aw(b:Nat)(t:Int):bJ:=row b [.int .u32 t] 209
abbrev b8(A:Option Addr)(c:Nat)(l:List Int):bJ:=sl .u8 5 A l.length c l
abbrev yq(b:Nat)(Ao:Option Addr)(no co:Nat)(Ai:Option Addr)(ni ci:Nat):bJ:=row b [.slice Ao no co,.slice Ai ni ci] 91
abbrev GU(b bd:Nat):bJ:=row b [.slice (some ⟨bd,0,none⟩) 1024 1024] 207
abbrev Ei(bd:Nat)(l:List Int):bJ:=sl .u8 5 (some ⟨bd,0,none⟩) 1024 1024 l
theorem DA(w:World):Ctr prog 64 [] w [] (fun v cs=>∃b,v= .pointer (some ⟨b,0,none⟩)∧cs=[pU b 0 0]):=by
 refine bL func64 rfl ntmps64 rfl (Inv.start w) ?_;refine Z_8 ?_;refine ZO fun b2=>?_
 refine Z_4 ?_;refine Zrb ([row _ _ _]) ?_;exact⟨_,rfl,rfl⟩
theorem Ch(w:World):Ctr prog 65 [] w [] (fun v cs=>∃b,v= .pointer (some ⟨b,0,none⟩)∧cs=[Aw b 0]):=by
 refine bL func65 rfl ntmps65 rfl (Inv.start w) ?_;refine Z_8 ?_;refine ZO fun b2=>?_
 refine Z_4 ?_;refine Zrb ([row _ _ _]) ?_;exact⟨_,rfl,rfl⟩
theorem Ew(w:World):Ctr prog 66 [] w [] (fun v cs=>∃b,v= .pointer (some ⟨b,0,none⟩)∧cs=[yq b none 0 0 none 0 0]):=by
 refine bL func66 rfl ntmps66 rfl (Inv.start w) ?_;refine Z_8 ?_;refine ZO fun b2=>?_
 refine Z_4 ?_;refine Zrb ([row _ _ _]) ?_;exact⟨_,rfl,rfl⟩
def _root_.Go.Ink.mZ(l:List Int):List Int:=l++List.replicate (1024 - l.length) 0
theorem Ek(A:Option Addr)(c:Nat)(l:List Int)(hl:l.length≤1024)(w:World)(h:Rd w .u8 A l.length c l):Ctr prog 63 [.slice A l.length c] w [] (fun v cs=>∃b bd,v= .tuple #[.pointer (some ⟨b,0,none⟩),.int .i64 0]∧cs=[GU b bd,Ei bd (mZ l)]):=by
 refine bL func63 rfl ntmps63 rfl (Inv.start w) ?_;refine ic ?_;refine bY rfl ((aF (by omega))) ?_;refine Z_4 ?_;refine dM (jr (bytes:=1) (n:=1024) rfl rfl rfl rfl rfl rfl rfl (by omega) (by simp only[maxLen];omega)) rfl ?_;rintro _ _ ⟨b8_,rfl,rfl⟩;rw[kW];refine ZA ?_;refine ZO fun b10=>?_
 refine eK ?_;refine dM (tf rfl rfl Za rfl rfl (fun w hi=>h.IB hi) cY (by omega)) rfl ?_;rintro _ _ ⟨rfl,rfl⟩;have hd:(ints .u8 (List.replicate 1024 0)).take 0++(ints .u8 l).take (min l.length 1024)++(ints .u8 (List.replicate 1024 0)).drop (0+min l.length 1024)=ints .u8 (mZ l):=by(rw[Nat.min_eq_left hl,iG,iG,ma,List.take_zero,bA,bo,List.drop_replicate];simp[ints,mZ])
 rw[hd];refine eK ?_;refine bQ [GU b10 b8_,Ei b8_ (mZ l)] Zj ?_;refine fw (cs':=[row _ _ _,slv _ _ _ _ _ _]) (.inl rfl) Zu rfl rfl rfl ?_;exact⟨_,_,rfl,rfl⟩
theorem o7(b:Nat)(p m:Int)(w:World)(h:(pU b p m).ok w):Ctr prog 24 [.pointer (some ⟨b,0,none⟩)] w [] (fun v cs=>v= .int .u32 p∧cs=[]):=by
 refine bL func24 rfl ntmps24 rfl (Inv.start w) ?_;refine eK ?_;refine dU (bM Zrf (Zv rfl)) (dL (by assumption) rfl) rfl ?_;refine Z_4 ?_;refine Zra ?_;exact⟨rfl,rfl⟩
theorem mask_ok(b:Nat)(p m:Int)(w:World)(h:(pU b p m).ok w):Ctr prog 239 [.pointer (some ⟨b,0,none⟩)] w [] (fun v cs=>v= .int .u32 m∧cs=[]):=by
 refine bL func239 rfl ntmps239 rfl (Inv.start w) ?_;refine eK ?_;refine dU (bM Zrf (Zv rfl)) (dL (by assumption) rfl) rfl ?_;refine Z_4 ?_;refine Zra ?_;exact⟨rfl,rfl⟩
theorem DI(b:Nat)(p m v:Int)(w:World)(hi:Inv w (bK [pU b p m]) [pU b p m] w):Ctr prog 243 [.pointer (some ⟨b,0,none⟩),.int .u32 v] w [pU b p m] (fun x cs=>x= .tuple #[]∧cs=[pU b (bits .andNot .u32 p v) m]):=by
 refine bL func243 rfl ntmps243 rfl hi ?_;refine Z_6 ?_;refine Zy (qs Zv0 Zv0 rfl) ?_;refine Z_2 ?_;refine ZL ?_;refine Zn (fL (cs':=[row _ _ _]) (.inr rfl) Zu rfl ?_);exact⟨rfl,rfl⟩
theorem yh(b:Nat)(p m v:Int)(w:World)(hi:Inv w (bK [pU b p m]) [pU b p m] w):Ctr prog 244 [.pointer (some ⟨b,0,none⟩),.int .u32 v] w [pU b p m] (fun x cs=>x= .tuple #[]∧cs=[pU b p (bits .and .u32 v 255)]):=by
 refine bL func244 rfl ntmps244 rfl hi ?_;refine Z_6 ?_;refine ZL ?_;refine Zn (fL (cs':=[row _ _ _]) (.inr rfl) Zu rfl ?_);exact⟨rfl,rfl⟩
theorem rP(b:Nat)(p m:Int)(A:Option Addr)(c:Nat)(l:List Nat)(hl:∀x,x∈l→x<8)(w:World)(hi:Inv w (bK [pU b p m]) [pU b p m] w)(h:∀w',dQ (bK [pU b p m]) w w'→Rd w' .i64 A l.length c (xZ l)):Ctr prog 110 [.pointer (some ⟨b,0,none⟩),.slice A l.length c] w [pU b p m] (fun x cs=>x= .bool true∧cs=[pU b (bits .or .u32 p (pf l)) m]):=by
 have hrw:=h w (dQ.refl _ _);have hm:=hrw.max;have hcp:=hrw.cap;simp only[maxLen]at hm;refine bL func110 rfl ntmps110 rfl hi ?_;refine He ?_;refine cJ (fun k:Nat=>[(0,.pointer (some ⟨b,0,none⟩)),(5,.int .u32 (rK l k)),(8,.slice A l.length c),(9,.int .i64 l.length),(10,.int .i64 (k:Int))]) (fun _=>[pU b p m]) (fun k=>k≤l.length) (fun k=>l.length - k) (0) ?_ ?_ ?_ ?_
 ·exact aw _
 ·exact Zwk
 ·exact Zu
 rintro k hk;refine Z_6 ?_;refine ZW ?_ ?_<;>intro hc3
 ·simp only[ap]at hc3;have hkl:k<l.length:=by omega
  have hx:=hl _ (List.getElem_mem hkl);have hgd:l.getD k 0=l[k]'hkl:=by simp[hkl]
  obtain⟨ad,rfl⟩:=hrw.some_ (by omega);refine Z_6 ?_;refine Zy (dk (j:=k) rfl Zrf (Zv rfl) (Zv rfl) (fun _=>by omega) (fun _=>by omega)) ?_;refine dU (bM Zrf (Zv rfl)) (uD h (df (show(xZ l)[k]? =some ((l[k]'hkl:Nat):Int) by simp[xZ,hkl]))) rfl ?_;refine ic ?_;refine bY rfl ((by rw[aF (show¬((l[k]'hkl:Nat):Int)<0 by omega),aF (show¬(8:Int)≤((l[k]'hkl:Nat):Int) by omega)];rfl)) ?_;refine Z_5 ?_;refine Zy (ug (Zv rfl) (Zv rfl) (by omega) rfl) ?_;refine Zy (zW (Zv rfl) (Zv rfl) (show _=rK l (k+1)from by rw[rK,hgd])) ?_;refine Z_5 ?_;refine Zy (cF Zv0 Zv0 Zl) ?_;refine Z_2 ?_;refine eh (k+1) ?_ ?_ ?_
  ·exact⟨by omega,by omega⟩
  ·exact Zwk
  exact Zu
 simp only[aj]at hc3;obtain rfl:k=l.length:=by omega
 refine qp ?_;refine ZL ?_;refine Z_8 ?_;refine Zrb ([row _ _ _]) ?_;exact⟨rfl,rfl⟩
theorem tset_ok(b:Nat)(t v:Int)(w:World)(hi:Inv w (bK [Aw b t]) [Aw b t] w):Ctr prog 245 [.pointer (some ⟨b,0,none⟩),.int .u32 v] w [Aw b t] (fun x cs=>x= .tuple #[]∧cs=[Aw b v]):=by
 refine bL func245 rfl ntmps245 rfl hi ?_;refine Z_5 ?_;refine ZL ?_;refine Zn (fL (cs':=[row _ _ _]) (.inr rfl) Zu rfl ?_);exact⟨rfl,rfl⟩
theorem ir(b:Nat)(t:Int)(w:World)(h:(Aw b t).ok w):Ctr prog 240 [.pointer (some ⟨b,0,none⟩)] w [] (fun v cs=>v= .int .u32 t∧cs=[]):=by
 refine bL func240 rfl ntmps240 rfl (Inv.start w) ?_;refine eK ?_;refine dU (bM Zrf (Zv rfl)) (dL (by assumption) rfl) rfl ?_;refine Z_4 ?_;refine Zra ?_;exact⟨rfl,rfl⟩
theorem sr(A:Option Addr)(n c:Nat)(xs:List Int)(w:World)(h:Rd w .u8 A n c xs)(hn:n≤140737488355328):Ctr prog 40 [.slice A n c] w [] (fun v cs=>∃A' c',v= .slice A' n c'∧cs=[sl .u8 5 A' n c' xs]):=by
 refine bL func40 rfl ntmps40 rfl (Inv.start w) ?_;refine gK ?_;refine ZW ?_ ?_<;>intro hc1
 ·obtain rfl:A=none:=by simpa using hc1
  obtain⟨rfl,rfl⟩:=h.nil rfl;obtain rfl:xs=[]:=by have:=h.len;simpa[ints]using this
  refine Z_2 ?_;refine dB 5 1 ?_;refine Z_5 ?_;refine Zrb ([slv _ _ _ _ _ _]) ?_;exact⟨_,_,rfl,rfl⟩
 refine Z_4 ?_;refine dM (cm rfl rfl Zrf Zrf rfl rfl) rfl ?_;rintro _ _ ⟨b5,rfl,rfl⟩;refine ZA ?_;refine dM (cM (e:=5) (sz:=1) (bytes:=1) rfl rfl Za rfl rfl (fun w hi=>h.IB hi) cY (by simp only[maxLen];omega) (by omega)) rfl ?_;rintro _ _ ⟨A',c',rfl,rfl⟩;simp only[bo,aR];refine Z_4 ?_;refine Zrb ([slv _ _ _ _ _ _]) ?_;exact⟨_,_,rfl,rfl⟩
theorem Ep(b:Nat)(Ao:Option Addr)(co:Nat)(o:List Int)(Ai:Option Addr)(ni ci:Nat)(x:Int)(ho:o.length≤1000000000)(w:World)(hi:Inv w (bK [yq b Ao o.length co Ai ni ci,b8 Ao co o]) [yq b Ao o.length co Ai ni ci,b8 Ao co o] w):Ctr prog 246 [.pointer (some ⟨b,0,none⟩),.int .u8 x] w [yq b Ao o.length co Ai ni ci,b8 Ao co o] (fun v cs=>∃Ao' co',v= .tuple #[]∧cs=[yq b Ao' (o++[x]).length co' Ai ni ci,b8 Ao' co' (o++[x])]):=by
 refine bL func246 rfl ntmps246 rfl hi ?_;refine Z_7 ?_;refine dM (cm rfl rfl Zrf Zrf rfl rfl) rfl ?_;rintro _ _ ⟨b10,rfl,rfl⟩;refine dM (cM (e:=5) (sz:=1) (bytes:=1) rfl rfl Za rfl rfl (fun w hi=>hi.rd (show Has _ (slv 5 1 (some ⟨b10,0,none⟩) 1 1 [.int .u8 x])from Zh)) (iK rfl) (by simp only[maxLen];omega) (by omega)) rfl ?_;rintro _ _ ⟨A2,c2,rfl,rfl⟩;rw[show o.length+1=(o++[x]).length by simp,show ints .u8 o++[Value.int .u8 x]=ints .u8 (o++[x])from cD o [x]];refine Z_2 ?_;refine ZL ?_;refine Zn (fL (cs':=[row _ _ _,slv _ _ _ _ _ _]) (.inr rfl) Zu rfl ?_);exact⟨A2,c2,rfl,rfl⟩
theorem Er(b:Nat)(Ao:Option Addr)(no co:Nat)(Ai:Option Addr)(ni ci:Nat)(w:World)(h:(yq b Ao no co Ai ni ci).ok w):Ctr prog 242 [.pointer (some ⟨b,0,none⟩)] w [] (fun v cs=>v= .int .i64 ni∧cs=[]):=by
 refine bL func242 rfl ntmps242 rfl (Inv.start w) ?_;refine eK ?_;refine dU (bM Zrf (Zv rfl)) (dL (by assumption) rfl) rfl ?_;refine Z_5 ?_;refine Zra ?_;exact⟨rfl,rfl⟩
theorem Eo(A:Option Addr)(c:Nat)(x:Int)(xs:List Int)(hl:xs.length≤1000000000)(w:World)(hi:Inv w (bK [b8 A c (x::xs)]) [b8 A c (x::xs)] w):Ctr prog 252 [.slice A (x::xs).length c,.int .i64 0,.int .i64 1] w [b8 A c (x::xs)] (fun v cs=>∃A' c',v= .slice A' xs.length c'∧cs=[b8 A' c' xs]):=by
 have hrd0:=hi.rd (show Has _ (b8 A c (x::xs))from Zh);have hcap:=hrd0.cap;obtain⟨bb,rfl⟩:=gj (hi.get (show Has _ (b8 A c (x::xs))from Zh)) (by simp);simp only[ai]at hcap;have hxl:(x::xs).length=xs.length+1:=rfl;obtain⟨q0,hq0⟩:=Zgn ((⟨bb,(if c=1 then 0 else 1),none⟩:Addr));have hq1:(some q0:Option Addr)=(if c=1 then some ⟨bb,0,none⟩else(some (⟨bb,0,none⟩:Addr)).map (·.add (1*1))):=by
  rw[←hq0];split<;>rfl
 refine bL func252 rfl ntmps252 rfl hi ?_;refine gK ?_;refine Zy (EY (lo:=0) (hi:=1) (mx:=(x::xs).length) rfl Zrf (Zv rfl) (Zv rfl) (Zv rfl) (Zv rfl) (by omega) (by omega) (by omega)) ?_;refine eK ?_;refine bY rfl (rfl) ?_;refine eK ?_;refine cj ⟨fun j=>List.elem j [6],[]⟩ Zk ?_;refine ZE 0 ?_;refine ZE 1 ?_;refine cR 2 rfl Zk Zk Zk (gL 0 rfl Zrf (Zv rfl) (Zv rfl) (fun _=>by first|rfl|omega) (fun _=>by omega)) rfl ?_;refine ZE 3 ?_;refine ZE 4 ?_;refine cR 5 rfl Zk Zk Zk (EX (lo:=1) (hi:=(x::xs).length) (r:=q0) rfl Zrf (Zv rfl) (.inr ⟨_,_,rfl,(Zv rfl)⟩) (.inl ⟨rfl,rfl⟩) (by simp) (by simpa using hcap) hq1) rfl ?_;refine cE 6 Zk ?_;refine gu rfl rfl (Cp (e:=5) (bytes:=1) rfl (by omega) rfl Za rfl rfl (fun w hi=>(by have h5:=(hi.rd (show Has _ (b8 (some ⟨bb,0,none⟩) c (x::xs))from Zh)).cut (lo:=1) (hi:=(x::xs).length) (by simp) (aQ _);rw[←hq1]at h5;exact h5)) (by rw[iG,ma];exact cY) (by omega)) ZJ rfl ?_;rintro _ _ ⟨rfl,rfl⟩;rw[show 0+((x::xs).length - 1)=xs.length by simp,show(ints .u8 (x::xs)).take 0++((ints .u8 (x::xs)).take (x::xs).length).drop 1=ints .u8 xs from by(simp[ints];exact List.take_of_length_le (by simp))];refine ZE 7 ?_;refine bO Zk ?_;refine Z_7 ?_;refine Zy (kO (sz:=1) (lo:=xs.length) (hi:=(x::xs).length) (r:=xs.length) rfl Zrf (Zv rfl) (.inr ⟨_,_,rfl,(Zv rfl)⟩) (.inr ⟨_,_,rfl,(Zv rfl)⟩) (by omega) (by omega) (by omega) (by omega)) ?_;refine dz (t_clear rfl Za rfl Zrf rfl rfl (aQ _) (by simp only[ai];omega)) ?_;rintro _ _ ⟨rfl,rfl⟩;refine Z_9 ?_;refine Zrb ([slv _ _ _ _ _ _]) ?_;exact⟨_,_,rfl,rfl⟩
theorem GY(b:Nat)(Ao:Option Addr)(no co:Nat)(Ai:Option Addr)(ci:Nat)(inp:List Int)(hl:inp.length≤1000000000)(w:World)(hi:Inv w (bK [yq b Ao no co Ai inp.length ci,b8 Ai ci inp]) [yq b Ao no co Ai inp.length ci,b8 Ai ci inp] w):Ctr prog 241 [.pointer (some ⟨b,0,none⟩)] w [yq b Ao no co Ai inp.length ci,b8 Ai ci inp] (fun v cs=>∃Ai' ci',v= .int .u8 (gB inp 0)∧cs=[b8 Ai' ci' inp.tail,yq b Ao no co Ai' inp.tail.length ci']):=by
 cases inp with
 |nil=>
  refine bL func241 rfl ntmps241 rfl hi ?_;refine p5 ?_;refine cB rfl (rfl) ?_;refine Z_7 ?_;refine bQ [b8 Ai ci [],yq b Ao no co Ai 0 ci] Zj ?_;refine Zrb ([slv _ _ _ _ _ _,row _ _ _]) ?_;exact⟨_,_,rfl,rfl⟩
 |cons x xs=>
  have hxl:(x::xs).length=xs.length+1:=rfl;have hc1':(((x::xs).length:Int)==0)=false:=by rw[beq_eq_false_iff_ne];simp only[ai];omega
  obtain⟨bb,rfl⟩:=gj (hi.get (show Has _ (b8 Ai ci (x::xs))from Zh)) (by simp);refine bL func241 rfl ntmps241 rfl hi ?_;refine p5 ?_;refine bY rfl (hc1') ?_;refine Z_8 ?_;refine Zy (cI (j:=0) (sz:=1) (r:=0) rfl Zrf (Zv rfl) (Zv rfl) (fun _=>by omega) (fun _=>by omega) (by omega)) ?_;refine dU (bM Zrf Zv0) (dE (xs:=ints .u8 (x::xs)) Zh rfl) rfl ?_;refine eK ?_;refine ZcL ([b8 (some ⟨bb,0,none⟩) ci (x::xs)]) (fun w hi hin=>Eo (some ⟨bb,0,none⟩) ci x xs (by simp only[ai]at hl;omega) w hin) ?_;rintro _ _ ⟨_,⟨A2,c2,rfl,rfl⟩,rfl⟩;refine Z_2 ?_;refine ZL ?_;refine Z_9 ?_;refine Zrb ([slv _ _ _ _ _ _,row _ _ _]) ?_;exact⟨_,_,rfl,rfl⟩
end Go.Proofs.YtomjgmbccamgiaaGreatDoor
namespace Go.Ink
open Go.RowKit
theorem zb(n k:Nat):((n:Int)==((k:Nat):Int))=(n==k):=by rw[Bool.eq_iff_iff];simp;omega
theorem natBne(n k:Nat):((n:Int) !=((k:Nat):Int))=(n !=k):=by rw[Bool.eq_iff_iff];simp;omega
theorem tU(n Ih a:Nat):(((false||decide ((16:Int)≤Ih))||(((a%64:Nat):Int) !=((0:Nat):Int)))||decide (((n*64:Nat):Int)≤a))= !lc n Ih a:=by
 unfold lc;rw[Bool.not_not,Bool.false_or,natBne,show decide ((16:Int)≤Ih)=decide (16≤Ih)from decide_eq_decide.2 (by omega),show decide (((n*64:Nat):Int)≤a)=decide (n*64≤a)from decide_eq_decide.2 (by omega)]
theorem disk_rd{w:World}{bk Ih:Nat}{ID:List Int}(h:RdV w 1 (some ⟨bk,0,none⟩) 1024 1024 (ints .u8 ID))(hs:Ih<16):Rd w .u8 (some ⟨bk,Ih*64,none⟩) 64 (1024 - Ih*64) ((ID.drop (Ih*64)).take 64):=by
 have h1:=h.cut (lo:=Ih*64) (hi:=Ih*64+64) (by omega) (by omega);rw[if_neg (by omega),Option.map_some,Addr.add_lit,Nat.mul_one,bo,iG,ma,show Ih*64+64 - Ih*64=64 by omega,List.drop_take,show Ih*64+64 - Ih*64=64 by omega]at h1;exact h1
end Go.Ink
namespace Go.Proofs.YtomjgmbccamgiaaGreatDoor
open Go.RowKit Go.Ink Go.Proofs.Tryz
attribute [local irreducible] OpY bW
theorem py(bd bk:Nat)(L:gQ)(M:Mem)(ID:List Int)(hk:ID.length=1024)(hkb:u8s ID)(Ih a cmd:Nat)(hs:Ih≤4294967295)(ha:a≤4294967295)(w:World)(hi:Inv w (bK [GU bd bk,Ei bk ID,eH L M]) [GU bd bk,Ei bk ID,eH L M] w):
  Ctr prog 247 [.pointer (some ⟨bd,0,none⟩),.pointer (some ⟨L.bm,0,none⟩),.int .u32 Ih,.int .u32 a,.int .u32 cmd] w [GU bd bk,Ei bk ID,eH L M] (fun v cs=>v= .bool (gf L.n M ID Ih a cmd).1∧cs=[GU bd bk,Ei bk (gf L.n M ID Ih a cmd).2.2,eH L (gf L.n M ID Ih a cmd).2.1]):=by
 obtain⟨n1,n64,hdl,hdb,htl⟩:=lr (hi.ok (eH L M) (by simp));refine bL func247 rfl ntmps247 rfl hi ?_;refine p5 ?_;refine Zyn rfl rfl (gt (dc rfl) (Zv rfl) (by omega) (show _=((a%64:Nat):Int)from by rw[aD (by omega)];omega)) ?_;refine Z_5 ?_;refine dX (bS rfl rfl) (.cons (dc rfl) .nil) (fun _ _=>rfl) (fun hg w hi=>mA L M w (hi.get (show Has _ (eH L M)from Zh))) rfl ?_;refine Z_4 ?_;refine ZW ?_ ?_<;>intro hc1
 ·have hno:lc L.n Ih a=false:=by(have h2:=(tU L.n Ih a).symm.trans hc1;simpa using h2)
  have hdo:gf L.n M ID Ih a cmd=(false,M,ID):=by(unfold gf;rw[hno];rfl)
  rw[hdo];refine Z_7 ?_;refine Zrb ([row _ _ _,slv _ _ _ _ _ _,exC _ _ _ _]) ?_;exact⟨rfl,rfl⟩
 have hyes:lc L.n Ih a=true:=by(have h2:=(tU L.n Ih a).symm.trans hc1;simpa using h2)
 have hf:Ih<16∧a%64=0∧a<L.n*64:=by(unfold lc at hyes;simp only[Bool.not_eq_true',bl,aj,bne_eq_false_iff_eq]at hyes;omega)
 obtain⟨s16,am,an⟩:=hf;have hdo:gf L.n M ID Ih a cmd=bif cmd==1 then(true,M.fill (a/64*64) ((ID.drop (Ih*64)).take 64) 64,ID)else bif cmd==2 then(true,M,ID.take (Ih*64)++(M.data.drop (a/64*64)).take 64++ID.drop (Ih*64+64))else(false,M,ID):=by(unfold gf;rw[hyes];rfl)
 rw[hdo];have hsl:((ID.drop (Ih*64)).take 64).length=64:=by(rw[az,bz];omega)
 refine Z_9 ?_;refine Zy (i3 (Zv rfl) (Zv rfl) (show _=((Ih*64:Nat):Int)from(u32_wrap_id _ (by omega) (by omega)).trans (by omega))) ?_;refine ZA ?_;refine Zy (cF (Zv rfl) (Zv rfl) (show _=((Ih+1:Nat):Int)from(u32_wrap_id _ (by omega) (by omega)).trans (by omega))) ?_;refine Zy (i3 (Zv rfl) (Zv rfl) (show _=((Ih*64+64:Nat):Int)from(u32_wrap_id _ (by omega) (by omega)).trans (by omega))) ?_;refine Zy (kO (sz:=1) (lo:=Ih*64) (hi:=Ih*64+64) (r:=Ih*64) rfl Zrf (Zv rfl) (.inr ⟨_,_,rfl,(Zv rfl)⟩) (.inr ⟨_,_,rfl,(Zv rfl)⟩) (by omega) (by omega) (by omega) (by omega)) ?_;refine Z_6 ?_;refine Zy (jA (Zv rfl) (Zv rfl) (by omega) (show _=((a/64:Nat):Int)from by rw[bn (by omega),u32_wrap_id _ (by omega) (by omega)];omega)) ?_;refine Zy (cu rfl rfl Zv0 Zl) ?_;refine Z_6 ?_;rw[show Ih*64+64 - Ih*64=64 by omega];refine eK ?_;refine ZW ?_ ?_<;>intro hc6
 ·have hcm:(cmd==1)=true:=(zb cmd 1).symm.trans hc6;rw[hcm];simp only[ac];refine Z_5 ?_;refine ZcM ([eH L M]) (fun w hi hin=>xF L M (a/64) (by omega) (some ⟨bk,Ih*64,none⟩) (1024 - Ih*64) ((ID.drop (Ih*64)).take 64) hsl (fun x hx=>hkb x (List.mem_of_mem_drop (List.mem_of_mem_take hx))) w hin (fun w' hk=>disk_rd (hi.rdK (show xg _ (eH L M) (Ei bk ID)from(by repeat (first|(refine .l _ ?_;repeat (first|exact .head _ _|apply Has.tail))|(refine .r _ ?_;repeat (first|exact .head _ _|apply Has.tail))|apply xg.t))) hk) s16)) ?_;refine Z_6 ?_;refine bQ [GU bd bk,Ei bk ID,eH L (M.fill (a/64*64) ((ID.drop (Ih*64)).take 64) 64)] Zj ?_;refine Zrb ([row _ _ _,slv _ _ _ _ _ _,exC _ _ _ _]) ?_;exact⟨rfl,rfl⟩
 have hcm:(cmd==1)=false:=(zb cmd 1).symm.trans hc6;rw[hcm];simp only[aa];refine Z_6 ?_;refine ZW ?_ ?_<;>intro hc8
 ·have hcm2:(cmd==2)=true:=(zb cmd 2).symm.trans hc8;rw[hcm2];simp only[ac];refine Z_4 ?_;refine ZS (fun w hi=>uw L M (a/64) (by omega) w (hi.get (show Has _ (eH L M)from Zh))) ?_;rintro _ _ ⟨_,⟨bq,rfl,rfl⟩,rfl⟩;refine eo ?_;refine dM (tf rfl rfl Za rfl rfl (fun w hi=>hi.rd (show Has _ (sl .u8 5 (some ⟨bq,0,none⟩) 64 64 ((M.data.drop (a/64*64)).take 64))from Zh)) cY (by omega)) rfl ?_;rintro _ _ ⟨rfl,rfl⟩;rw[show(ints .u8 ID).take (Ih*64)++(ints .u8 ((M.data.drop (a/64*64)).take 64)).take (min 64 64)++(ints .u8 ID).drop (Ih*64+min 64 64)=ints .u8 (ID.take (Ih*64)++(M.data.drop (a/64*64)).take 64++ID.drop (Ih*64+64))from by(rw[Nat.min_self,iG,iG,ma,cD,cD,List.take_take,Nat.min_self])];refine eo ?_;refine Zrb ([row _ _ _,slv _ _ _ _ _ _,exC _ _ _ _]) ?_;exact⟨rfl,rfl⟩
 have hcm2:(cmd==2)=false:=(zb cmd 2).symm.trans hc8;rw[hcm2];simp only[aa];refine Z_9 ?_;refine Zrb ([row _ _ _,slv _ _ _ _ _ _,exC _ _ _ _]) ?_;exact⟨rfl,rfl⟩
end Go.Proofs.YtomjgmbccamgiaaGreatDoor
namespace Go.Ink
open Go.RowKit
structure Dev where
 IH:Int
 mask:Int
 timer:Int
 out:List Int
 inp:List Int
 ID:List Int
 Ih:Nat
 place:Nat
 status:Int
structure p6 where
 bs:Nat
 bi:Nat
 bti:Nat
 bcn:Nat
 bdr:Nat
 bdk:Nat
structure j0 where
 Ao:Option Addr
 co:Nat
 Ai:Option Addr
 ci:Nat
structure Dev.wf(d:Dev):Prop where
 inpb:u8s d.inp
 ID:d.ID.length=1024
 Jn:u8s d.ID
 Ih:d.Ih≤4294967295
 place:d.place≤4294967295
 inp:d.inp.length≤1000000000
def sQ(a:Nat):Int:=IntKind.u32.wrap ((a:Int) - 32768)
def dx(d:Dev)(k count:Int):(Int×Bool)×Dev:=
 bif k==0 then((d.IH,true),d)else bif k==4 then((d.mask,true),d)else bif k==8 then((d.timer,true),d)else bif k==12 then((IntKind.u32.wrap count,true),d)else
 bif k==16 then((0,true),d)else bif k==40 then((0,true),d)else bif k==20 then((gB d.inp 0,true),{d with inp:=d.inp.tail})else bif k==24 then(((d.inp.length:Int),true),d)else
 bif k==32 then(((d.Ih:Int),true),d)else bif k==36 then(((d.place:Int),true),d)else bif k==44 then((d.status,true),d)else((0,false),d)
def fN(n:Nat)(M:Mem)(d:Dev)(v:Nat):Mem×Dev:=
 ((gf n M d.ID d.Ih d.place v).2.1,{d with ID:=(gf n M d.ID d.Ih d.place v).2.2,status:=bif(gf n M d.ID d.Ih d.place v).1 then 0 else 1,IH:=bits .or .u32 d.IH (pf [2])})
def cZ(n:Nat)(M:Mem)(d:Dev)(k:Int)(v:Nat):Bool×Mem×Dev:=
 bif k==0 then(true,M,{d with IH:=bits .andNot .u32 d.IH v})else bif k==4 then(true,M,{d with mask:=bits .and .u32 v 255})else bif k==8 then(true,M,{d with timer:=v})else
 bif k==16 then(true,M,{d with out:=d.out++[IntKind.u8.wrap v]})else bif k==32 then(true,M,{d with Ih:=v})else bif k==36 then(true,M,{d with place:=v})else
 bif k==40 then(true,fN n M d v)else bif k==12 then(true,M,d)else bif k==20 then(true,M,d)else bif k==24 then(true,M,d)else bif k==44 then(true,M,d)else(false,M,d)
end Go.Ink
namespace Go.Proofs.YtomjgmbccamgiaaGreatDoor
open Go.RowKit Go.Ink Go.Proofs.Tryz
attribute [local irreducible] OpY bW
abbrev busRow(D:p6)(bm:Nat)(d:Dev):bJ:=row D.bs [.pointer (some ⟨D.bi,0,none⟩),.pointer (some ⟨D.bti,0,none⟩),.pointer (some ⟨D.bcn,0,none⟩),.pointer (some ⟨D.bdr,0,none⟩),.pointer (some ⟨bm,0,none⟩),.int .u32 (d.Ih:Int),.int .u32 (d.place:Int),.int .u32 d.status] 55
abbrev mO(D:p6)(bm:Nat)(X:j0)(d:Dev):List bJ:=[busRow D bm d,pU D.bi d.IH d.mask,Aw D.bti d.timer,yq D.bcn X.Ao d.out.length X.co X.Ai d.inp.length X.ci,b8 X.Ao X.co d.out,b8 X.Ai X.ci d.inp,GU D.bdr D.bdk,Ei D.bdk d.ID]
theorem Bt(D:p6)(bm:Nat)(X:j0)(d:Dev)(hd:d.wf)(a:Nat)(count:Int)(w:World)(hi:Inv w (bK (mO D bm X d)) (mO D bm X d) w):
  Ctr prog 218 [.pointer (some ⟨D.bs,0,none⟩),.int .u32 a,.int .u64 count] w (mO D bm X d) (fun v cs=>∃X',v= .tuple #[.int .u32 (dx d (sQ a) count).1.1,.bool (dx d (sQ a) count).1.2]∧cs=mO D bm X' (dx d (sQ a) count).2):=by
 have hinp:=hd.inp;have hgb:IntKind.u32.wrap (gB d.inp 0)=gB d.inp 0:=by have:=jN hd.inpb 0;exact u32_wrap_id _ (by omega) (by omega)
 obtain⟨k,hk⟩:=Zgn (sQ a);rw[hk];unfold sQ at hk;refine bL func218 rfl ntmps218 rfl hi ?_;refine eK ?_;refine Zy (eP Zv0 Zv0 hk) ?_;refine Z_9 ?_;refine ZW ?_ ?_<;>intro hc2
 ·refine Z_6 ?_;refine ZSe (fun w hi=>o7 D.bi d.IH d.mask w (hi.get Zh)) ?_;refine Z_7 ?_;refine fw (cs':=[row _ _ _,row _ _ _,row _ _ _,row _ _ _,slv _ _ _ _ _ _,slv _ _ _ _ _ _,row _ _ _,slv _ _ _ _ _ _]) (.inl rfl) Zu rfl rfl rfl ?_;refine⟨X,?_,?_⟩
  ·simp only[dx, *,ac,aa]
  simp only[dx, *,ac,aa]
 refine Z_6 ?_;refine ZW ?_ ?_<;>intro hc4
 ·refine Z_6 ?_;refine ZSe (fun w hi=>mask_ok D.bi d.IH d.mask w (hi.get Zh)) ?_;refine Z_7 ?_;refine fw (cs':=[row _ _ _,row _ _ _,row _ _ _,row _ _ _,slv _ _ _ _ _ _,slv _ _ _ _ _ _,row _ _ _,slv _ _ _ _ _ _]) (.inl rfl) Zu rfl rfl rfl ?_;refine⟨X,?_,?_⟩
  ·simp only[dx, *,ac,aa]
  simp only[dx, *,ac,aa]
 refine Z_6 ?_;refine ZW ?_ ?_<;>intro hc6
 ·refine Z_6 ?_;refine ZSe (fun w hi=>ir D.bti d.timer w (hi.get Zh)) ?_;refine Z_7 ?_;refine fw (cs':=[row _ _ _,row _ _ _,row _ _ _,row _ _ _,slv _ _ _ _ _ _,slv _ _ _ _ _ _,row _ _ _,slv _ _ _ _ _ _]) (.inl rfl) Zu rfl rfl rfl ?_;refine⟨X,?_,?_⟩
  ·simp only[dx, *,ac,aa]
  simp only[dx, *,ac,aa]
 refine Z_6 ?_;refine ZW ?_ ?_<;>intro hc8
 ·refine Z_3 ?_;refine Zy (cu rfl rfl Zv0 rfl) ?_;refine Z_7 ?_;refine fw (cs':=[row _ _ _,row _ _ _,row _ _ _,row _ _ _,slv _ _ _ _ _ _,slv _ _ _ _ _ _,row _ _ _,slv _ _ _ _ _ _]) (.inl rfl) Zu rfl rfl rfl ?_;refine⟨X,?_,?_⟩
  ·simp only[dx, *,ac,aa]
  simp only[dx, *,ac,aa]
 refine Z_7 ?_;refine ZW ?_ ?_<;>intro hc10
 ·refine Z_2 ?_;refine cB rfl (hc10) ?_;refine Z_9 ?_;refine fw (cs':=[row _ _ _,row _ _ _,row _ _ _,row _ _ _,slv _ _ _ _ _ _,slv _ _ _ _ _ _,row _ _ _,slv _ _ _ _ _ _]) (.inl rfl) Zu rfl rfl rfl ?_;refine⟨X,?_,?_⟩
  ·simp only[dx, *,ac,aa]
  simp only[dx, *,ac,aa]
 refine Z_5 ?_;refine ZW ?_ ?_<;>intro hc11
 ·refine Z_9 ?_;refine fw (cs':=[row _ _ _,row _ _ _,row _ _ _,row _ _ _,slv _ _ _ _ _ _,slv _ _ _ _ _ _,row _ _ _,slv _ _ _ _ _ _]) (.inl rfl) Zu rfl rfl rfl ?_;refine⟨X,?_,?_⟩
  ·simp only[dx, *,ac,aa]
  simp only[dx, *,ac,aa]
 refine Z_6 ?_;refine ZW ?_ ?_<;>intro hc13
 ·refine Z_6 ?_;refine ZcL ([yq D.bcn X.Ao d.out.length X.co X.Ai d.inp.length X.ci,b8 X.Ai X.ci d.inp]) (fun w hi hin=>GY D.bcn X.Ao d.out.length X.co X.Ai X.ci d.inp hinp w hin) ?_;rintro _ _ ⟨_,⟨Ai',ci',rfl,rfl⟩,rfl⟩;refine Zy (cu rfl rfl (Zv rfl) (show IntKind.u32.wrap (gB d.inp 0)=gB d.inp 0 from hgb)) ?_;refine Z_7 ?_;refine bQ (mO D bm ⟨X.Ao,X.co,Ai',ci'⟩ {d with inp:=d.inp.tail}) Zj ?_;refine fw (cs':=[row _ _ _,row _ _ _,row _ _ _,row _ _ _,slv _ _ _ _ _ _,slv _ _ _ _ _ _,row _ _ _,slv _ _ _ _ _ _]) (.inl rfl) Zu rfl rfl rfl ?_;refine⟨⟨X.Ao,X.co,Ai',ci'⟩,?_,?_⟩
  ·simp only[dx, *,ac,aa]
  simp only[dx, *,ac,aa]
 refine Z_6 ?_;refine ZW ?_ ?_<;>intro hc15
 ·refine Z_6 ?_;refine ZSe (fun w hi=>Er D.bcn X.Ao d.out.length X.co X.Ai d.inp.length X.ci w (hi.get Zh)) ?_;refine Zy (cu rfl rfl (Zv rfl) (u32_wrap_id _ (by omega) (by omega))) ?_;refine Z_7 ?_;refine fw (cs':=[row _ _ _,row _ _ _,row _ _ _,row _ _ _,slv _ _ _ _ _ _,slv _ _ _ _ _ _,row _ _ _,slv _ _ _ _ _ _]) (.inl rfl) Zu rfl rfl rfl ?_;refine⟨X,?_,?_⟩
  ·simp only[dx, *,ac,aa]
  simp only[dx, *,ac,aa]
 refine Z_6 ?_;refine ZW ?_ ?_<;>intro hc17
 ·refine jW ?_;refine fw (cs':=[row _ _ _,row _ _ _,row _ _ _,row _ _ _,slv _ _ _ _ _ _,slv _ _ _ _ _ _,row _ _ _,slv _ _ _ _ _ _]) (.inl rfl) Zu rfl rfl rfl ?_;refine⟨X,?_,?_⟩
  ·simp only[dx, *,ac,aa]
  simp only[dx, *,ac,aa]
 refine Z_6 ?_;refine ZW ?_ ?_<;>intro hc19
 ·refine jW ?_;refine fw (cs':=[row _ _ _,row _ _ _,row _ _ _,row _ _ _,slv _ _ _ _ _ _,slv _ _ _ _ _ _,row _ _ _,slv _ _ _ _ _ _]) (.inl rfl) Zu rfl rfl rfl ?_;refine⟨X,?_,?_⟩
  ·simp only[dx, *,ac,aa]
  simp only[dx, *,ac,aa]
 refine Z_6 ?_;refine ZW ?_ ?_<;>intro hc21
 ·refine jW ?_;refine fw (cs':=[row _ _ _,row _ _ _,row _ _ _,row _ _ _,slv _ _ _ _ _ _,slv _ _ _ _ _ _,row _ _ _,slv _ _ _ _ _ _]) (.inl rfl) Zu rfl rfl rfl ?_;refine⟨X,?_,?_⟩
  ·simp only[dx, *,ac,aa]
  simp only[dx, *,ac,aa]
 refine eK ?_;refine fw (cs':=[row _ _ _,row _ _ _,row _ _ _,row _ _ _,slv _ _ _ _ _ _,slv _ _ _ _ _ _,row _ _ _,slv _ _ _ _ _ _]) (.inl rfl) Zu rfl rfl rfl ?_;refine⟨X,?_,?_⟩
 ·simp only[dx, *,ac,aa]
 simp only[dx, *,ac,aa]
theorem yt(D:p6)(L:gQ)(M:Mem)(X:j0)(d:Dev)(hd:d.wf)(ho:d.out.length≤1000000000)(a v:Nat)(count:Int)(w:World)(hi:Inv w (bK (mO D L.bm X d++[eH L M])) (mO D L.bm X d++[eH L M]) w):
  Ctr prog 220 [.pointer (some ⟨D.bs,0,none⟩),.int .u32 a,.int .u32 v,.int .u64 count] w (mO D L.bm X d++[eH L M]) (fun x cs=>∃X',x= .bool (cZ L.n M d (sQ a) v).1∧cs=mO D L.bm X' (cZ L.n M d (sQ a) v).2.2++[eH L (cZ L.n M d (sQ a) v).2.1]):=by
 obtain⟨k,hk⟩:=Zgn (sQ a);rw[hk];unfold sQ at hk;refine bL func220 rfl ntmps220 rfl hi ?_;refine Z_9 ?_;refine Zy (eP Zv0 Zv0 hk) ?_;refine Z_9 ?_;refine ZW ?_ ?_<;>intro hc3
 ·refine Z_6 ?_;refine ZcM ([pU D.bi d.IH d.mask]) (fun w hi hin=>DI D.bi d.IH d.mask v w hin) ?_;refine Z_9 ?_;refine bQ (mO D L.bm X {d with IH:=bits .andNot .u32 d.IH v}++[eH L M]) Zj ?_;refine Zrb ([row _ _ _,row _ _ _,row _ _ _,row _ _ _,slv _ _ _ _ _ _,slv _ _ _ _ _ _,row _ _ _,slv _ _ _ _ _ _,exC _ _ _ _]) ?_;refine⟨X,?_,?_⟩
  ·simp only[cZ,fN, *,ac,aa]<;>exact rfl
  simp only[cZ,fN, *,ac,aa]<;>exact rfl
 refine Z_6 ?_;refine ZW ?_ ?_<;>intro hc5
 ·refine Z_6 ?_;refine ZcM ([pU D.bi d.IH d.mask]) (fun w hi hin=>yh D.bi d.IH d.mask v w hin) ?_;refine Z_9 ?_;refine bQ (mO D L.bm X {d with mask:=bits .and .u32 v 255}++[eH L M]) Zj ?_;refine Zrb ([row _ _ _,row _ _ _,row _ _ _,row _ _ _,slv _ _ _ _ _ _,slv _ _ _ _ _ _,row _ _ _,slv _ _ _ _ _ _,exC _ _ _ _]) ?_;refine⟨X,?_,?_⟩
  ·simp only[cZ,fN, *,ac,aa]<;>exact rfl
  simp only[cZ,fN, *,ac,aa]<;>exact rfl
 refine Z_6 ?_;refine ZW ?_ ?_<;>intro hc7
 ·refine Z_6 ?_;refine ZcM ([Aw D.bti d.timer]) (fun w hi hin=>tset_ok D.bti d.timer v w hin) ?_;refine Z_9 ?_;refine bQ (mO D L.bm X {d with timer:=v}++[eH L M]) Zj ?_;refine Zrb ([row _ _ _,row _ _ _,row _ _ _,row _ _ _,slv _ _ _ _ _ _,slv _ _ _ _ _ _,row _ _ _,slv _ _ _ _ _ _,exC _ _ _ _]) ?_;refine⟨X,?_,?_⟩
  ·simp only[cZ,fN, *,ac,aa]<;>exact rfl
  simp only[cZ,fN, *,ac,aa]<;>exact rfl
 refine Z_6 ?_;refine ZW ?_ ?_<;>intro hc9
 ·refine Z_6 ?_;refine Zy (cu rfl rfl Zv0 rfl) ?_;refine ZcL ([yq D.bcn X.Ao d.out.length X.co X.Ai d.inp.length X.ci,b8 X.Ao X.co d.out]) (fun w hi hin=>Ep D.bcn X.Ao X.co d.out X.Ai d.inp.length X.ci (IntKind.u8.wrap v) ho w hin) ?_;rintro _ _ ⟨_,⟨Ao',co',rfl,rfl⟩,rfl⟩;refine Z_9 ?_;refine bQ (mO D L.bm ⟨Ao',co',X.Ai,X.ci⟩ {d with out:=d.out++[IntKind.u8.wrap v]}++[eH L M]) Zj ?_;refine Zrb ([row _ _ _,row _ _ _,row _ _ _,row _ _ _,slv _ _ _ _ _ _,slv _ _ _ _ _ _,row _ _ _,slv _ _ _ _ _ _,exC _ _ _ _]) ?_;refine⟨⟨Ao',co',X.Ai,X.ci⟩,?_,?_⟩
  ·simp only[cZ, *,ac,aa]<;>exact rfl
  simp only[cZ, *,ac,aa]<;>exact rfl
 refine Z_6 ?_;refine ZW ?_ ?_<;>intro hc11
 ·refine Z_5 ?_;refine ZL ?_;refine Z_9 ?_;refine Zrb ([row _ _ _,row _ _ _,row _ _ _,row _ _ _,slv _ _ _ _ _ _,slv _ _ _ _ _ _,row _ _ _,slv _ _ _ _ _ _,exC _ _ _ _]) ?_;refine⟨X,?_,?_⟩
  ·simp only[cZ,fN, *,ac,aa]<;>exact rfl
  simp only[cZ,fN, *,ac,aa]<;>exact rfl
 refine Z_6 ?_;refine ZW ?_ ?_<;>intro hc13
 ·refine Z_5 ?_;refine ZL ?_;refine Z_9 ?_;refine Zrb ([row _ _ _,row _ _ _,row _ _ _,row _ _ _,slv _ _ _ _ _ _,slv _ _ _ _ _ _,row _ _ _,slv _ _ _ _ _ _,exC _ _ _ _]) ?_;refine⟨X,?_,?_⟩
  ·simp only[cZ,fN, *,ac,aa]<;>exact rfl
  simp only[cZ,fN, *,ac,aa]<;>exact rfl
 refine Z_6 ?_;refine ZW ?_ ?_<;>intro hc15
 ·refine Z_5 ?_;refine ZL ?_;refine Z_4 ?_;refine cj ⟨fun j=>List.elem j [17],[]⟩ Zk ?_;refine ZE 0 ?_;refine ZE 1 ?_;refine ZFe 2 3 ?_;refine ZG 3 ?_;refine ZE 4 ?_;refine ZE 5 ?_;refine ZFe 6 4 ?_;refine ZG 7 ?_;refine ZE 8 ?_;refine ZE 9 ?_;refine ZFe 10 5 ?_;refine ZG 11 ?_;refine ZE 12 ?_;refine ZE 13 ?_;refine ZFe 14 6 ?_;refine ZG 15 ?_;refine ZE 16 ?_;refine cE 17 Zk ?_;refine ZcA ([GU D.bdr D.bdk,Ei D.bdk d.ID,eH L M]) (fun w hi hin=>py D.bdr D.bdk L M d.ID hd.ID hd.Jn d.Ih d.place v hd.Ih hd.place w hin) ?_;rintro _ _ ⟨_,⟨rfl,rfl⟩,rfl⟩;refine bO Zk ?_;refine Zt ?_;refine ZW ?_ ?_<;>intro hc17
  ·refine Z_4 ?_;refine ZL ?_;refine Z_7 ?_;refine dM (cm rfl rfl Zrf Zrf rfl rfl) rfl ?_;rintro _ _ ⟨b86,rfl,rfl⟩;refine ZcM ([pU D.bi d.IH d.mask]) (fun w hi hin=>rP D.bi d.IH d.mask (some ⟨b86,0,none⟩) 1 [2] (by simp) w hin (fun w' hk=>hi.rdK (show xg _ (pU D.bi d.IH d.mask) (slv 3 1 (some ⟨b86,0,none⟩) 1 1 [.int .i64 2])from(by repeat (first|(refine .l _ ?_;repeat (first|exact .head _ _|apply Has.tail))|(refine .r _ ?_;repeat (first|exact .head _ _|apply Has.tail))|apply xg.t))) hk)) ?_;refine Z_9 ?_;refine bQ (mO D L.bm X {d with ID:=(gf L.n M d.ID d.Ih d.place v).2.2,status:=0,IH:=bits .or .u32 d.IH (pf [2])}++[eH L (gf L.n M d.ID d.Ih d.place v).2.1]) Zj ?_;refine Zrb ([row _ _ _,row _ _ _,row _ _ _,row _ _ _,slv _ _ _ _ _ _,slv _ _ _ _ _ _,row _ _ _,slv _ _ _ _ _ _,exC _ _ _ _]) ?_;refine⟨X,?_,?_⟩
   ·simp only[cZ,fN, *,ac,aa]<;>exact rfl
   simp only[cZ,fN, *,ac,aa]<;>exact rfl
  refine Z_7 ?_;refine dM (cm rfl rfl Zrf Zrf rfl rfl) rfl ?_;rintro _ _ ⟨b86,rfl,rfl⟩;refine ZcM ([pU D.bi d.IH d.mask]) (fun w hi hin=>rP D.bi d.IH d.mask (some ⟨b86,0,none⟩) 1 [2] (by simp) w hin (fun w' hk=>hi.rdK (show xg _ (pU D.bi d.IH d.mask) (slv 3 1 (some ⟨b86,0,none⟩) 1 1 [.int .i64 2])from(by repeat (first|(refine .l _ ?_;repeat (first|exact .head _ _|apply Has.tail))|(refine .r _ ?_;repeat (first|exact .head _ _|apply Has.tail))|apply xg.t))) hk)) ?_;refine Z_9 ?_;refine bQ (mO D L.bm X {d with ID:=(gf L.n M d.ID d.Ih d.place v).2.2,status:=1,IH:=bits .or .u32 d.IH (pf [2])}++[eH L (gf L.n M d.ID d.Ih d.place v).2.1]) Zj ?_;refine Zrb ([row _ _ _,row _ _ _,row _ _ _,row _ _ _,slv _ _ _ _ _ _,slv _ _ _ _ _ _,row _ _ _,slv _ _ _ _ _ _,exC _ _ _ _]) ?_;refine⟨X,?_,?_⟩
  ·simp only[cZ,fN, *,ac,aa]<;>exact rfl
  simp only[cZ,fN, *,ac,aa]<;>exact rfl
 refine Z_7 ?_;refine ZW ?_ ?_<;>intro hc20
 ·refine Z_2 ?_;refine cB rfl (hc20) ?_;refine Z_9 ?_;refine Zrb ([row _ _ _,row _ _ _,row _ _ _,row _ _ _,slv _ _ _ _ _ _,slv _ _ _ _ _ _,row _ _ _,slv _ _ _ _ _ _,exC _ _ _ _]) ?_;refine⟨X,?_,?_⟩
  ·simp only[cZ,fN, *,ac,aa]<;>exact rfl
  simp only[cZ,fN, *,ac,aa]<;>exact rfl
 refine Z_6 ?_;refine ZW ?_ ?_<;>intro hc21
 ·refine Z_2 ?_;refine cB rfl (hc21) ?_;refine Z_9 ?_;refine Zrb ([row _ _ _,row _ _ _,row _ _ _,row _ _ _,slv _ _ _ _ _ _,slv _ _ _ _ _ _,row _ _ _,slv _ _ _ _ _ _,exC _ _ _ _]) ?_;refine⟨X,?_,?_⟩
  ·simp only[cZ,fN, *,ac,aa]<;>exact rfl
  simp only[cZ,fN, *,ac,aa]<;>exact rfl
 refine Z_6 ?_;refine ZW ?_ ?_<;>intro hc22
 ·refine Z_2 ?_;refine cB rfl (hc22) ?_;refine Z_9 ?_;refine Zrb ([row _ _ _,row _ _ _,row _ _ _,row _ _ _,slv _ _ _ _ _ _,slv _ _ _ _ _ _,row _ _ _,slv _ _ _ _ _ _,exC _ _ _ _]) ?_;refine⟨X,?_,?_⟩
  ·simp only[cZ,fN, *,ac,aa]<;>exact rfl
  simp only[cZ,fN, *,ac,aa]<;>exact rfl
 refine Z_5 ?_;refine ZW ?_ ?_<;>intro hc23
 ·refine Z_9 ?_;refine Zrb ([row _ _ _,row _ _ _,row _ _ _,row _ _ _,slv _ _ _ _ _ _,slv _ _ _ _ _ _,row _ _ _,slv _ _ _ _ _ _,exC _ _ _ _]) ?_;refine⟨X,?_,?_⟩
  ·simp only[cZ,fN, *,ac,aa]<;>exact rfl
  simp only[cZ,fN, *,ac,aa]<;>exact rfl
 refine Z_8 ?_;refine Zrb ([row _ _ _,row _ _ _,row _ _ _,row _ _ _,slv _ _ _ _ _ _,slv _ _ _ _ _ _,row _ _ _,slv _ _ _ _ _ _,exC _ _ _ _]) ?_;refine⟨X,?_,?_⟩
 ·simp only[cZ,fN, *,ac,aa]<;>exact rfl
 simp only[cZ,fN, *,ac,aa]<;>exact rfl
end Go.Proofs.YtomjgmbccamgiaaGreatDoor
namespace Go.Ink
open Go.RowKit
def ez(op:Int):Bool:=bif op==16 then true else bif op==17 then true else bif op==18 then true else bif op==19 then true else bif op==20 then true else bif op==21 then true else bif op==22 then true else bif op==23 then true else bif op==24 then true else bif op==25 then true else bif op==48 then true else bif op==49 then true else bif op==50 then true else bif op==51 then true else bif op==52 then true else bif op==53 then true else bif op==64 then true else bif op==65 then true else bif op==66 then true else bif op==67 then true else bif op==68 then true else bif op==69 then true else false
def fg(op:Int):Bool:=bif op==0 then true else bif op==1 then true else bif op==2 then true else bif op==3 then true else bif op==4 then true else bif op==5 then true else bif op==6 then true else bif op==7 then true else bif op==8 then true else bif op==32 then true else bif op==33 then true else bif op==34 then true else bif op==35 then true else bif op==36 then true else bif op==37 then true else bif op==38 then true else bif op==39 then true else bif op==40 then true else ez op
def cG(op:Int):Int:=bif op==1 then 2 else bif op==32 then 2 else bif op==33 then 2 else bif op==34 then 2 else bif op==35 then 2 else bif op==36 then 2 else bif op==37 then 2 else bif op==38 then 2 else bif op==66 then 2 else bif op==67 then 2 else bif op==2 then 5 else bif !fg op then 0 else 1
def gX(op n:Int):Bool:=bif cG op==0 then false else bif cG op==1 then n==0 else bif cG op==2 then decide (n≤255)else true
def rz(op:Int):Bool:=decide (65≤op)&&decide (op≤69)
def dG(r:Int):Int:=bif bits .and .u32 r 2147483648 !=0 then bits .or .u32 (bif r==0 then bits .or .u32 0 1 else 0) 2 else bif r==0 then bits .or .u32 0 1 else 0
def gZ(a b:Int)(up:Bool):Int:=bif decide (32≤b)then 0 else bif up then IntKind.u32.wrap (a*2^(min b.toNat IntKind.u32.bits))else a.fdiv (2^(min b.toNat IntKind.u32.bits))
def jh(a b r f:Int)(c:Bool)(o:Int):Int:=bif o !=0 then bits .or .u32 (bif c then bits .or .u32 f 4 else f) 8 else bif c then bits .or .u32 f 4 else f
def jR(a b:Int):Int:=jh a b 0 (dG (IntKind.u32.wrap (a - b))) (decide (a<b)) (bits .and .u32 (bits .and .u32 (bits .xor .u32 a b) (bits .xor .u32 a (IntKind.u32.wrap (a - b)))) 2147483648)
def me(a b:Int):Int:=jh a b 0 (dG (IntKind.u32.wrap (a+b))) (decide (IntKind.u32.wrap (a+b)<a)) (bits .and .u32 (bits .and .u32 (bits .xor .u32 a (IntKind.u32.wrap (a+b))) (bits .xor .u32 b (IntKind.u32.wrap (a+b)))) 2147483648)
def JH(r:Int):Int×Int×Bool:=(r,dG r,true)
def iq(op a b:Int):Int×Int×Bool:=
 bif op==16 then(IntKind.u32.wrap (a+b),me a b,true)else bif op==17 then(IntKind.u32.wrap (a - b),jR a b,true)else bif op==25 then(0,jR a b,true)else bif op==18 then JH (bits .and .u32 a b)else bif op==19 then JH (bits .or .u32 a b)else bif op==20 then JH (bits .xor .u32 a b)else bif op==21 then JH (gZ a b true)else bif op==22 then JH (gZ a b false)else bif op==23 then JH (IntKind.u32.wrap (a*b))else bif op==24 then(bif b==0 then(0,0,false)else JH (IntKind.u32.wrap (a.tdiv b)))else(0,0,false)
def dg(op f:Int):Bool×Bool:=bif op==33 then(bits .and .u32 f 1 !=0,true)else bif op==34 then(bits .and .u32 f 1==0,true)else bif op==35 then(bits .and .u32 f 4 !=0,true)else bif op==36 then(bits .and .u32 f 2 !=0,true)else bif op==37 then(bits .and .u32 f 8 !=0,true)else(false,false)
def kL(b:Int):Int:=IntKind.u32.wrap (IntKind.i32.wrap (IntKind.i8.wrap b))
def bV(op:Int):(Nat×Nat)×(Nat×Nat):=
 bif op==1 then((0,1),(0,0))else bif op==2 then((0,1),(0,0))else bif op==66 then((0,1),(0,0))else bif op==3 then((1,2),(0,0))else bif op==4 then((1,0),(0,0))else bif op==40 then((1,0),(0,0))else bif op==67 then((1,0),(0,0))else bif op==68 then((1,0),(0,0))else bif op==5 then((2,2),(0,0))else bif op==6 then((2,3),(0,0))else bif op==7 then((1,0),(0,1))else bif op==8 then((0,1),(1,0))else bif op==16 then((2,1),(0,0))else bif op==17 then((2,1),(0,0))else bif op==18 then((2,1),(0,0))else bif op==19 then((2,1),(0,0))else bif op==20 then((2,1),(0,0))else bif op==21 then((2,1),(0,0))else bif op==22 then((2,1),(0,0))else bif op==23 then((2,1),(0,0))else bif op==24 then((2,1),(0,0))else bif op==25 then((2,0),(0,0))else bif op==49 then((2,0),(0,0))else bif op==51 then((2,0),(0,0))else bif op==53 then((2,0),(0,0))else bif op==48 then((1,1),(0,0))else bif op==50 then((1,1),(0,0))else bif op==52 then((1,1),(0,0))else bif op==38 then((0,0),(0,1))else bif op==39 then((0,0),(1,0))else((0,0),(0,0))
end Go.Ink
namespace Go.Proofs.YtomjgmbccamgiaaGreatDoor
open Go.RowKit Go.Ink Go.Proofs.Tryz
attribute [local irreducible] OpY bW
theorem F1(op:Int)(w:World):Ctr prog 212 [.int .i64 op] w [] (fun v cs=>(∃s,v= .string s∧(s.data.toList==[])= !ez op)∧cs=[]):=by
 refine bL func212 rfl ntmps212 rfl (Inv.start w) ?_;refine xk ?_;refine ZW ?_ ?_<;>intro hc2
 ·refine Z_8 ?_;refine Zra ?_;refine⟨⟨_,rfl,?_⟩,rfl⟩;simp only[ez, *,ac,aa];exact rfl
 refine Z_6 ?_;refine ZW ?_ ?_<;>intro hc4
 ·refine Z_8 ?_;refine Zra ?_;refine⟨⟨_,rfl,?_⟩,rfl⟩;simp only[ez, *,ac,aa];exact rfl
 refine Z_6 ?_;refine ZW ?_ ?_<;>intro hc6
 ·refine Z_8 ?_;refine Zra ?_;refine⟨⟨_,rfl,?_⟩,rfl⟩;simp only[ez, *,ac,aa];exact rfl
 refine Z_6 ?_;refine ZW ?_ ?_<;>intro hc8
 ·refine Z_8 ?_;refine Zra ?_;refine⟨⟨_,rfl,?_⟩,rfl⟩;simp only[ez, *,ac,aa];exact rfl
 refine Z_6 ?_;refine ZW ?_ ?_<;>intro hc10
 ·refine Z_8 ?_;refine Zra ?_;refine⟨⟨_,rfl,?_⟩,rfl⟩;simp only[ez, *,ac,aa];exact rfl
 refine Z_6 ?_;refine ZW ?_ ?_<;>intro hc12
 ·refine Z_8 ?_;refine Zra ?_;refine⟨⟨_,rfl,?_⟩,rfl⟩;simp only[ez, *,ac,aa];exact rfl
 refine Z_6 ?_;refine ZW ?_ ?_<;>intro hc14
 ·refine Z_8 ?_;refine Zra ?_;refine⟨⟨_,rfl,?_⟩,rfl⟩;simp only[ez, *,ac,aa];exact rfl
 refine Z_6 ?_;refine ZW ?_ ?_<;>intro hc16
 ·refine Z_8 ?_;refine Zra ?_;refine⟨⟨_,rfl,?_⟩,rfl⟩;simp only[ez, *,ac,aa];exact rfl
 refine Z_6 ?_;refine ZW ?_ ?_<;>intro hc18
 ·refine Z_8 ?_;refine Zra ?_;refine⟨⟨_,rfl,?_⟩,rfl⟩;simp only[ez, *,ac,aa];exact rfl
 refine Z_6 ?_;refine ZW ?_ ?_<;>intro hc20
 ·refine Z_8 ?_;refine Zra ?_;refine⟨⟨_,rfl,?_⟩,rfl⟩;simp only[ez, *,ac,aa];exact rfl
 refine Z_6 ?_;refine ZW ?_ ?_<;>intro hc22
 ·refine Z_8 ?_;refine Zra ?_;refine⟨⟨_,rfl,?_⟩,rfl⟩;simp only[ez, *,ac,aa];exact rfl
 refine Z_6 ?_;refine ZW ?_ ?_<;>intro hc24
 ·refine Z_8 ?_;refine Zra ?_;refine⟨⟨_,rfl,?_⟩,rfl⟩;simp only[ez, *,ac,aa];exact rfl
 refine Z_6 ?_;refine ZW ?_ ?_<;>intro hc26
 ·refine Z_8 ?_;refine Zra ?_;refine⟨⟨_,rfl,?_⟩,rfl⟩;simp only[ez, *,ac,aa];exact rfl
 refine Z_6 ?_;refine ZW ?_ ?_<;>intro hc28
 ·refine Z_8 ?_;refine Zra ?_;refine⟨⟨_,rfl,?_⟩,rfl⟩;simp only[ez, *,ac,aa];exact rfl
 refine Z_6 ?_;refine ZW ?_ ?_<;>intro hc30
 ·refine Z_8 ?_;refine Zra ?_;refine⟨⟨_,rfl,?_⟩,rfl⟩;simp only[ez, *,ac,aa];exact rfl
 refine Z_6 ?_;refine ZW ?_ ?_<;>intro hc32
 ·refine Z_8 ?_;refine Zra ?_;refine⟨⟨_,rfl,?_⟩,rfl⟩;simp only[ez, *,ac,aa];exact rfl
 refine Z_6 ?_;refine ZW ?_ ?_<;>intro hc34
 ·refine Z_8 ?_;refine Zra ?_;refine⟨⟨_,rfl,?_⟩,rfl⟩;simp only[ez, *,ac,aa];exact rfl
 refine Z_6 ?_;refine ZW ?_ ?_<;>intro hc36
 ·refine Z_8 ?_;refine Zra ?_;refine⟨⟨_,rfl,?_⟩,rfl⟩;simp only[ez, *,ac,aa];exact rfl
 refine Z_6 ?_;refine ZW ?_ ?_<;>intro hc38
 ·refine Z_8 ?_;refine Zra ?_;refine⟨⟨_,rfl,?_⟩,rfl⟩;simp only[ez, *,ac,aa];exact rfl
 refine Z_6 ?_;refine ZW ?_ ?_<;>intro hc40
 ·refine Z_8 ?_;refine Zra ?_;refine⟨⟨_,rfl,?_⟩,rfl⟩;simp only[ez, *,ac,aa];exact rfl
 refine Z_6 ?_;refine ZW ?_ ?_<;>intro hc42
 ·refine Z_8 ?_;refine Zra ?_;refine⟨⟨_,rfl,?_⟩,rfl⟩;simp only[ez, *,ac,aa];exact rfl
 refine Z_6 ?_;refine ZW ?_ ?_<;>intro hc44
 ·refine Z_8 ?_;refine Zra ?_;refine⟨⟨_,rfl,?_⟩,rfl⟩;simp only[ez, *,ac,aa];exact rfl
 refine Z_9 ?_;refine Zra ?_;refine⟨⟨_,rfl,?_⟩,rfl⟩;simp only[ez, *,ac,aa];exact rfl
theorem name_ok(op:Int)(w:World):Ctr prog 167 [.int .i64 op] w [] (fun v cs=>(∃s,v= .string s∧(s.data.toList==[])= !fg op)∧cs=[]):=by
 refine bL func167 rfl ntmps167 rfl (Inv.start w) ?_;refine xk ?_;refine ZW ?_ ?_<;>intro hc2
 ·refine Z_8 ?_;refine Zra ?_;refine⟨⟨_,rfl,?_⟩,rfl⟩;simp only[fg, *,ac,aa];exact rfl
 refine Z_6 ?_;refine ZW ?_ ?_<;>intro hc4
 ·refine Z_8 ?_;refine Zra ?_;refine⟨⟨_,rfl,?_⟩,rfl⟩;simp only[fg, *,ac,aa];exact rfl
 refine Z_6 ?_;refine ZW ?_ ?_<;>intro hc6
 ·refine Z_8 ?_;refine Zra ?_;refine⟨⟨_,rfl,?_⟩,rfl⟩;simp only[fg, *,ac,aa];exact rfl
 refine Z_6 ?_;refine ZW ?_ ?_<;>intro hc8
 ·refine Z_8 ?_;refine Zra ?_;refine⟨⟨_,rfl,?_⟩,rfl⟩;simp only[fg, *,ac,aa];exact rfl
 refine Z_6 ?_;refine ZW ?_ ?_<;>intro hc10
 ·refine Z_8 ?_;refine Zra ?_;refine⟨⟨_,rfl,?_⟩,rfl⟩;simp only[fg, *,ac,aa];exact rfl
 refine Z_6 ?_;refine ZW ?_ ?_<;>intro hc12
 ·refine Z_8 ?_;refine Zra ?_;refine⟨⟨_,rfl,?_⟩,rfl⟩;simp only[fg, *,ac,aa];exact rfl
 refine Z_6 ?_;refine ZW ?_ ?_<;>intro hc14
 ·refine Z_8 ?_;refine Zra ?_;refine⟨⟨_,rfl,?_⟩,rfl⟩;simp only[fg, *,ac,aa];exact rfl
 refine Z_6 ?_;refine ZW ?_ ?_<;>intro hc16
 ·refine Z_8 ?_;refine Zra ?_;refine⟨⟨_,rfl,?_⟩,rfl⟩;simp only[fg, *,ac,aa];exact rfl
 refine Z_6 ?_;refine ZW ?_ ?_<;>intro hc18
 ·refine Z_8 ?_;refine Zra ?_;refine⟨⟨_,rfl,?_⟩,rfl⟩;simp only[fg, *,ac,aa];exact rfl
 refine Z_6 ?_;refine ZW ?_ ?_<;>intro hc20
 ·refine Z_8 ?_;refine Zra ?_;refine⟨⟨_,rfl,?_⟩,rfl⟩;simp only[fg, *,ac,aa];exact rfl
 refine Z_6 ?_;refine ZW ?_ ?_<;>intro hc22
 ·refine Z_8 ?_;refine Zra ?_;refine⟨⟨_,rfl,?_⟩,rfl⟩;simp only[fg, *,ac,aa];exact rfl
 refine Z_6 ?_;refine ZW ?_ ?_<;>intro hc24
 ·refine Z_8 ?_;refine Zra ?_;refine⟨⟨_,rfl,?_⟩,rfl⟩;simp only[fg, *,ac,aa];exact rfl
 refine Z_6 ?_;refine ZW ?_ ?_<;>intro hc26
 ·refine Z_8 ?_;refine Zra ?_;refine⟨⟨_,rfl,?_⟩,rfl⟩;simp only[fg, *,ac,aa];exact rfl
 refine Z_6 ?_;refine ZW ?_ ?_<;>intro hc28
 ·refine Z_8 ?_;refine Zra ?_;refine⟨⟨_,rfl,?_⟩,rfl⟩;simp only[fg, *,ac,aa];exact rfl
 refine Z_6 ?_;refine ZW ?_ ?_<;>intro hc30
 ·refine Z_8 ?_;refine Zra ?_;refine⟨⟨_,rfl,?_⟩,rfl⟩;simp only[fg, *,ac,aa];exact rfl
 refine Z_6 ?_;refine ZW ?_ ?_<;>intro hc32
 ·refine Z_8 ?_;refine Zra ?_;refine⟨⟨_,rfl,?_⟩,rfl⟩;simp only[fg, *,ac,aa];exact rfl
 refine Z_6 ?_;refine ZW ?_ ?_<;>intro hc34
 ·refine Z_8 ?_;refine Zra ?_;refine⟨⟨_,rfl,?_⟩,rfl⟩;simp only[fg, *,ac,aa];exact rfl
 refine Z_6 ?_;refine ZW ?_ ?_<;>intro hc36
 ·refine Z_8 ?_;refine Zra ?_;refine⟨⟨_,rfl,?_⟩,rfl⟩;simp only[fg, *,ac,aa];exact rfl
 refine Z_6 ?_;refine ZS (fun w hi=>F1 op w) ?_;rintro _ _ ⟨_,⟨⟨s,rfl,hs⟩,rfl⟩,rfl⟩;refine Z_4 ?_;have hz:=hs;refine Zra ?_;refine⟨⟨_,rfl,?_⟩,rfl⟩;rw[hs];simp only[fg, *,ac,aa]
theorem uo(op:Int)(w:World):Ctr prog 128 [.int .i64 op] w [] (fun v cs=>v= .int .i64 (cG op)∧cs=[]):=by
 refine bL func128 rfl ntmps128 rfl (Inv.start w) ?_;refine He ?_;refine ZW ?_ ?_<;>intro hc2
 ·refine Z_2 ?_;refine cB rfl (hc2) ?_;refine Z_8 ?_;refine Zra ?_;refine⟨?_,rfl⟩;simp only[cG, *,ac,aa]
 refine Z_6 ?_;refine ZW ?_ ?_<;>intro hc3
 ·refine Z_2 ?_;refine cB rfl (hc3) ?_;refine Z_8 ?_;refine Zra ?_;refine⟨?_,rfl⟩;simp only[cG, *,ac,aa]
 refine Z_6 ?_;refine ZW ?_ ?_<;>intro hc4
 ·refine Z_2 ?_;refine cB rfl (hc4) ?_;refine Z_8 ?_;refine Zra ?_;refine⟨?_,rfl⟩;simp only[cG, *,ac,aa]
 refine Z_6 ?_;refine ZW ?_ ?_<;>intro hc5
 ·refine Z_2 ?_;refine cB rfl (hc5) ?_;refine Z_8 ?_;refine Zra ?_;refine⟨?_,rfl⟩;simp only[cG, *,ac,aa]
 refine Z_6 ?_;refine ZW ?_ ?_<;>intro hc6
 ·refine Z_2 ?_;refine cB rfl (hc6) ?_;refine Z_8 ?_;refine Zra ?_;refine⟨?_,rfl⟩;simp only[cG, *,ac,aa]
 refine Z_6 ?_;refine ZW ?_ ?_<;>intro hc7
 ·refine Z_2 ?_;refine cB rfl (hc7) ?_;refine Z_8 ?_;refine Zra ?_;refine⟨?_,rfl⟩;simp only[cG, *,ac,aa]
 refine Z_6 ?_;refine ZW ?_ ?_<;>intro hc8
 ·refine Z_2 ?_;refine cB rfl (hc8) ?_;refine Z_8 ?_;refine Zra ?_;refine⟨?_,rfl⟩;simp only[cG, *,ac,aa]
 refine Z_6 ?_;refine ZW ?_ ?_<;>intro hc9
 ·refine Z_2 ?_;refine cB rfl (hc9) ?_;refine Z_8 ?_;refine Zra ?_;refine⟨?_,rfl⟩;simp only[cG, *,ac,aa]
 refine Z_6 ?_;refine ZW ?_ ?_<;>intro hc10
 ·refine Z_2 ?_;refine cB rfl (hc10) ?_;refine Z_8 ?_;refine Zra ?_;refine⟨?_,rfl⟩;simp only[cG, *,ac,aa]
 refine Z_5 ?_;refine ZW ?_ ?_<;>intro hc11
 ·refine Z_8 ?_;refine Zra ?_;refine⟨?_,rfl⟩;simp only[cG, *,ac,aa]
 refine Z_6 ?_;refine ZW ?_ ?_<;>intro hc13
 ·refine Z_8 ?_;refine Zra ?_;refine⟨?_,rfl⟩;simp only[cG, *,ac,aa]
 refine Z_7 ?_;refine ZS (fun w hi=>name_ok op w) ?_;rintro _ _ ⟨_,⟨⟨s,rfl,hs⟩,rfl⟩,rfl⟩;refine Zy (yz rfl (Zv rfl) (Zv rfl) hs) ?_;refine Z_2 ?_;refine ZW ?_ ?_<;>intro hc15
 ·refine Z_7 ?_;refine Zra ?_;refine⟨?_,rfl⟩;simp only[cG, *,ac,aa]
 refine Z_8 ?_;refine Zra ?_;refine⟨?_,rfl⟩;simp only[cG, *,ac,aa]
theorem wI(op n:Int)(w:World):Ctr prog 143 [.agg #[.int .i64 op,.int .u32 n]] w [] (fun v cs=>v= .bool (gX op n)∧cs=[]):=by
 refine bL func143 rfl ntmps143 rfl (Inv.start w) ?_;refine Z_2 ?_;refine ZO fun b1=>?_;refine Z_8 ?_;refine ZSe (fun w hi=>uo op w) ?_;refine Z_9 ?_;refine ZW ?_ ?_<;>intro hc2
 ·refine Z_8 ?_;refine Zra ?_;refine⟨?_,rfl⟩;simp only[gX, *,ac,aa]
 refine Z_6 ?_;refine ZW ?_ ?_<;>intro hc4
 ·refine eo ?_;refine Zra ?_;refine⟨?_,rfl⟩;simp only[gX, *,ac,aa]
 refine Z_6 ?_;refine ZW ?_ ?_<;>intro hc6
 ·refine eo ?_;refine Zra ?_;refine⟨?_,rfl⟩;simp only[gX, *,ac,aa]
 refine Z_9 ?_;refine Zra ?_;refine⟨?_,rfl⟩;simp only[gX, *,ac,aa]
theorem DQ(op:Int)(w:World):Ctr prog 163 [.int .i64 op] w [] (fun v cs=>v= .bool (rz op)∧cs=[]):=by
 refine bL func163 rfl ntmps163 rfl (Inv.start w) ?_;refine vo ?_;refine Zra ?_;exact⟨rfl,rfl⟩
theorem jv(r:Int)(w:World):Ctr prog 216 [.int .u32 r] w [] (fun v cs=>v= .int .u32 (dG r)∧cs=[]):=by
 refine bL func216 rfl ntmps216 rfl (Inv.start w) ?_;refine vo ?_;refine ZW ?_ ?_<;>intro hc2
 ·refine ic ?_;refine ZW ?_ ?_<;>intro hc4
  ·refine jW ?_;refine Zra ?_;refine⟨?_,rfl⟩;simp only[dG, *,ac,aa]
  refine Z_9 ?_;refine Zra ?_;refine⟨?_,rfl⟩;simp only[dG, *,ac,aa]
 refine eK ?_;refine ZW ?_ ?_<;>intro hc4
 ·refine jW ?_;refine Zra ?_;refine⟨?_,rfl⟩;simp only[dG, *,ac,aa]
 refine Z_9 ?_;refine Zra ?_;refine⟨?_,rfl⟩;simp only[dG, *,ac,aa]
theorem zc(a b:Int)(up:Bool)(hb:0≤b)(w:World):Ctr prog 215 [.int .u32 a,.int .u32 b,.bool up] w [] (fun v cs=>v= .int .u32 (gZ a b up)∧cs=[]):=by
 refine bL func215 rfl ntmps215 rfl (Inv.start w) ?_;refine ic ?_;refine ZW ?_ ?_<;>intro hc1
 ·refine Z_8 ?_;refine Zra ?_;refine⟨?_,rfl⟩;simp only[gZ, *,ac,aa]
 refine Z_6 ?_;refine ZW ?_ ?_<;>intro hc3
 ·refine Z_4 ?_;refine Zy (ug (Zv rfl) (Zv rfl) (by omega) rfl) ?_;refine Z_6 ?_;refine Zra ?_;refine⟨?_,rfl⟩;simp only[gZ, *,ac,aa]
 refine Z_7 ?_;refine Zy (jY (Zv rfl) (Zv rfl) (by omega) rfl) ?_;refine Z_4 ?_;refine Zra ?_;refine⟨?_,rfl⟩;simp only[gZ, *,ac,aa]
theorem Dn(a b:Int)(w:World):Ctr prog 214 [.int .u32 a,.int .u32 b] w [] (fun v cs=>v= .int .u32 (jR a b)∧cs=[]):=by
 refine bL func214 rfl ntmps214 rfl (Inv.start w) ?_;refine Z_9 ?_;refine Zy (eP Zv0 Zv0 rfl) ?_;refine Z_6 ?_;refine ZSe (fun w hi=>jv _ w) ?_;refine eo ?_;refine ZW ?_ ?_<;>intro hc3
 ·refine ln ?_;refine ZW ?_ ?_<;>intro hc5
  ·refine jW ?_;refine Zra ?_;refine⟨?_,rfl⟩;simp only[jR,jh, *,ac,aa]
  refine Z_9 ?_;refine Zra ?_;refine⟨?_,rfl⟩;simp only[jR,jh, *,ac,aa]
 refine p5 ?_;refine ZW ?_ ?_<;>intro hc5
 ·refine jW ?_;refine Zra ?_;refine⟨?_,rfl⟩;simp only[jR,jh, *,ac,aa]
 refine Z_9 ?_;refine Zra ?_;refine⟨?_,rfl⟩;simp only[jR,jh, *,ac,aa]
theorem more_ok(a b:Int)(w:World):Ctr prog 213 [.int .u32 a,.int .u32 b] w [] (fun v cs=>v= .int .u32 (me a b)∧cs=[]):=by
 refine bL func213 rfl ntmps213 rfl (Inv.start w) ?_;refine Z_9 ?_;refine Zy (cF Zv0 Zv0 rfl) ?_;refine Z_6 ?_;refine ZSe (fun w hi=>jv _ w) ?_;refine eo ?_;refine ZW ?_ ?_<;>intro hc3
 ·refine ln ?_;refine ZW ?_ ?_<;>intro hc5
  ·refine jW ?_;refine Zra ?_;refine⟨?_,rfl⟩;simp only[me,jh, *,ac,aa]
  refine Z_9 ?_;refine Zra ?_;refine⟨?_,rfl⟩;simp only[me,jh, *,ac,aa]
 refine p5 ?_;refine ZW ?_ ?_<;>intro hc5
 ·refine jW ?_;refine Zra ?_;refine⟨?_,rfl⟩;simp only[me,jh, *,ac,aa]
 refine Z_9 ?_;refine Zra ?_;refine⟨?_,rfl⟩;simp only[me,jh, *,ac,aa]
theorem ado_ok(op a b:Int)(hb:0≤b)(w:World):Ctr prog 171 [.int .i64 op,.int .u32 a,.int .u32 b] w [] (fun v cs=>v= .tuple #[.int .u32 (iq op a b).1,.int .u32 (iq op a b).2.1,.bool (iq op a b).2.2]∧cs=[]):=by
 refine bL func171 rfl ntmps171 rfl (Inv.start w) ?_;refine ln ?_;refine Z_5 ?_;refine ZW ?_ ?_<;>intro hc4
 ·refine Z_4 ?_;refine Zy (cF Zv0 Zv0 rfl) ?_;refine Z_2 ?_;refine ZSe (fun w hi=>more_ok a b w) ?_;refine Z_8 ?_;refine tz (cs':=[]) (.inl rfl) Zu rfl rfl rfl rfl ?_;refine⟨?_,rfl⟩;simp only[iq,JH, *,ac,aa]
 refine Z_6 ?_;refine ZW ?_ ?_<;>intro hc6
 ·refine Z_4 ?_;refine Zy (eP Zv0 Zv0 rfl) ?_;refine Z_2 ?_;refine ZSe (fun w hi=>Dn a b w) ?_;refine Z_8 ?_;refine tz (cs':=[]) (.inl rfl) Zu rfl rfl rfl rfl ?_;refine⟨?_,rfl⟩;simp only[iq,JH, *,ac,aa]
 refine Z_6 ?_;refine ZW ?_ ?_<;>intro hc8
 ·refine Z_4 ?_;refine ZSe (fun w hi=>Dn a b w) ?_;refine Z_8 ?_;refine tz (cs':=[]) (.inl rfl) Zu rfl rfl rfl rfl ?_;refine⟨?_,rfl⟩;simp only[iq,JH, *,ac,aa]
 refine Z_6 ?_;refine ZW ?_ ?_<;>intro hc10
 ·refine gK ?_;refine ZSe (fun w hi=>jv _ w) ?_;refine Z_6 ?_;refine tz (cs':=[]) (.inl rfl) Zu rfl rfl rfl rfl ?_;refine⟨?_,rfl⟩;simp only[iq,JH, *,ac,aa]
 refine Z_6 ?_;refine ZW ?_ ?_<;>intro hc12
 ·refine gK ?_;refine ZSe (fun w hi=>jv _ w) ?_;refine Z_6 ?_;refine tz (cs':=[]) (.inl rfl) Zu rfl rfl rfl rfl ?_;refine⟨?_,rfl⟩;simp only[iq,JH, *,ac,aa]
 refine Z_6 ?_;refine ZW ?_ ?_<;>intro hc14
 ·refine gK ?_;refine ZSe (fun w hi=>jv _ w) ?_;refine Z_6 ?_;refine tz (cs':=[]) (.inl rfl) Zu rfl rfl rfl rfl ?_;refine⟨?_,rfl⟩;simp only[iq,JH, *,ac,aa]
 refine Z_6 ?_;refine ZW ?_ ?_<;>intro hc16
 ·refine Z_3 ?_;refine ZSe (fun w hi=>zc a b _ hb w) ?_;refine Z_8 ?_;refine ZSe (fun w hi=>jv _ w) ?_;refine Z_6 ?_;refine tz (cs':=[]) (.inl rfl) Zu rfl rfl rfl rfl ?_;refine⟨?_,rfl⟩;simp only[iq,JH, *,ac,aa]
 refine Z_6 ?_;refine ZW ?_ ?_<;>intro hc18
 ·refine Z_3 ?_;refine ZSe (fun w hi=>zc a b _ hb w) ?_;refine Z_8 ?_;refine ZSe (fun w hi=>jv _ w) ?_;refine Z_6 ?_;refine tz (cs':=[]) (.inl rfl) Zu rfl rfl rfl rfl ?_;refine⟨?_,rfl⟩;simp only[iq,JH, *,ac,aa]
 refine Z_6 ?_;refine ZW ?_ ?_<;>intro hc20
 ·refine Z_3 ?_;refine Zy (i3 Zv0 Zv0 rfl) ?_;refine Z_8 ?_;refine ZSe (fun w hi=>jv _ w) ?_;refine Z_6 ?_;refine tz (cs':=[]) (.inl rfl) Zu rfl rfl rfl rfl ?_;refine⟨?_,rfl⟩;simp only[iq,JH, *,ac,aa]
 refine Z_6 ?_;refine ZW ?_ ?_<;>intro hc22
 ·refine Z_7 ?_;refine ZW ?_ ?_<;>intro hc23
  ·refine eo ?_;refine tz (cs':=[]) (.inl rfl) Zu rfl rfl rfl rfl ?_;refine⟨?_,rfl⟩;simp only[iq,JH, *,ac,aa]
  have hb0:b≠0:=by simpa using hc23
  refine Z_5 ?_;refine Zy (jA (Zv rfl) (Zv rfl) (by omega) (by first|exact IntWalk.u32_quo _ _ ⟨by omega,by omega,by omega⟩|exact rfl)) ?_;refine Z_8 ?_;refine ZSe (fun w hi=>jv _ w) ?_;refine Z_6 ?_;refine tz (cs':=[]) (.inl rfl) Zu rfl rfl rfl rfl ?_;refine⟨?_,rfl⟩;simp only[iq,JH, *,ac,aa]
 refine eK ?_;refine tz (cs':=[]) (.inl rfl) Zu rfl rfl rfl rfl ?_;refine⟨?_,rfl⟩;simp only[iq,JH, *,ac,aa]
theorem GC(op f:Int)(w:World):Ctr prog 173 [.int .i64 op,.int .u32 f] w [] (fun v cs=>v= .tuple #[.bool (dg op f).1,.bool (dg op f).2]∧cs=[]):=by
 refine bL func173 rfl ntmps173 rfl (Inv.start w) ?_;refine He ?_;refine ZW ?_ ?_<;>intro hc2
 ·refine gK ?_;refine fw (cs':=[]) (.inl rfl) Zu rfl rfl rfl ?_;refine⟨?_,rfl⟩;simp only[dg, *,ac,aa]
 refine Z_6 ?_;refine ZW ?_ ?_<;>intro hc4
 ·refine gK ?_;refine fw (cs':=[]) (.inl rfl) Zu rfl rfl rfl ?_;refine⟨?_,rfl⟩;simp only[dg, *,ac,aa]
 refine Z_6 ?_;refine ZW ?_ ?_<;>intro hc6
 ·refine gK ?_;refine fw (cs':=[]) (.inl rfl) Zu rfl rfl rfl ?_;refine⟨?_,rfl⟩;simp only[dg, *,ac,aa]
 refine Z_6 ?_;refine ZW ?_ ?_<;>intro hc8
 ·refine gK ?_;refine fw (cs':=[]) (.inl rfl) Zu rfl rfl rfl ?_;refine⟨?_,rfl⟩;simp only[dg, *,ac,aa]
 refine Z_6 ?_;refine ZW ?_ ?_<;>intro hc10
 ·refine gK ?_;refine fw (cs':=[]) (.inl rfl) Zu rfl rfl rfl ?_;refine⟨?_,rfl⟩;simp only[dg, *,ac,aa]
 refine eK ?_;refine fw (cs':=[]) (.inl rfl) Zu rfl rfl rfl ?_;refine⟨?_,rfl⟩;simp only[dg, *,ac,aa]
theorem xC(b:Int)(w:World):Ctr prog 145 [.int .u32 b] w [] (fun v cs=>v= .int .u32 (kL b)∧cs=[]):=by
 refine bL func145 rfl ntmps145 rfl (Inv.start w) ?_;refine Z_8 ?_;refine Zy (cu rfl rfl Zv0 rfl) ?_;refine Zy (cu rfl rfl Zv0 rfl) ?_;refine Zy (cu rfl rfl Zv0 rfl) ?_;refine Z_4 ?_;refine Zra ?_;exact⟨rfl,rfl⟩
theorem F7(op:Int)(w:World):Ctr prog 166 [.int .i64 op] w [] (fun v cs=>v= .tuple #[.int .i64 ((bV op).1.1:Nat),.int .i64 ((bV op).1.2:Nat),.int .i64 ((bV op).2.1:Nat),.int .i64 ((bV op).2.2:Nat)]∧cs=[]):=by
 refine bL func166 rfl ntmps166 rfl (Inv.start w) ?_;refine ln ?_;refine Z_2 ?_;refine ZW ?_ ?_<;>intro hc2
 ·refine Z_2 ?_;refine cB rfl (hc2) ?_;refine eo ?_;refine ng (cs':=[]) (.inl rfl) Zu rfl rfl rfl rfl rfl ?_;refine⟨?_,rfl⟩;simp only[bV, *,ac,aa];exact rfl
 refine Z_6 ?_;refine ZW ?_ ?_<;>intro hc3
 ·refine Z_2 ?_;refine cB rfl (hc3) ?_;refine eo ?_;refine ng (cs':=[]) (.inl rfl) Zu rfl rfl rfl rfl rfl ?_;refine⟨?_,rfl⟩;simp only[bV, *,ac,aa];exact rfl
 refine Z_5 ?_;refine ZW ?_ ?_<;>intro hc4
 ·refine eo ?_;refine ng (cs':=[]) (.inl rfl) Zu rfl rfl rfl rfl rfl ?_;refine⟨?_,rfl⟩;simp only[bV, *,ac,aa];exact rfl
 refine Z_6 ?_;refine ZW ?_ ?_<;>intro hc6
 ·refine eo ?_;refine ng (cs':=[]) (.inl rfl) Zu rfl rfl rfl rfl rfl ?_;refine⟨?_,rfl⟩;simp only[bV, *,ac,aa];exact rfl
 refine Z_7 ?_;refine ZW ?_ ?_<;>intro hc8
 ·refine Z_2 ?_;refine cB rfl (hc8) ?_;refine eo ?_;refine ng (cs':=[]) (.inl rfl) Zu rfl rfl rfl rfl rfl ?_;refine⟨?_,rfl⟩;simp only[bV, *,ac,aa];exact rfl
 refine Z_6 ?_;refine ZW ?_ ?_<;>intro hc9
 ·refine Z_2 ?_;refine cB rfl (hc9) ?_;refine eo ?_;refine ng (cs':=[]) (.inl rfl) Zu rfl rfl rfl rfl rfl ?_;refine⟨?_,rfl⟩;simp only[bV, *,ac,aa];exact rfl
 refine Z_6 ?_;refine ZW ?_ ?_<;>intro hc10
 ·refine Z_2 ?_;refine cB rfl (hc10) ?_;refine eo ?_;refine ng (cs':=[]) (.inl rfl) Zu rfl rfl rfl rfl rfl ?_;refine⟨?_,rfl⟩;simp only[bV, *,ac,aa];exact rfl
 refine Z_5 ?_;refine ZW ?_ ?_<;>intro hc11
 ·refine eo ?_;refine ng (cs':=[]) (.inl rfl) Zu rfl rfl rfl rfl rfl ?_;refine⟨?_,rfl⟩;simp only[bV, *,ac,aa];exact rfl
 refine Z_6 ?_;refine ZW ?_ ?_<;>intro hc13
 ·refine eo ?_;refine ng (cs':=[]) (.inl rfl) Zu rfl rfl rfl rfl rfl ?_;refine⟨?_,rfl⟩;simp only[bV, *,ac,aa];exact rfl
 refine Z_6 ?_;refine ZW ?_ ?_<;>intro hc15
 ·refine eo ?_;refine ng (cs':=[]) (.inl rfl) Zu rfl rfl rfl rfl rfl ?_;refine⟨?_,rfl⟩;simp only[bV, *,ac,aa];exact rfl
 refine Z_6 ?_;refine ZW ?_ ?_<;>intro hc17
 ·refine eo ?_;refine ng (cs':=[]) (.inl rfl) Zu rfl rfl rfl rfl rfl ?_;refine⟨?_,rfl⟩;simp only[bV, *,ac,aa];exact rfl
 refine Z_6 ?_;refine ZW ?_ ?_<;>intro hc19
 ·refine eo ?_;refine ng (cs':=[]) (.inl rfl) Zu rfl rfl rfl rfl rfl ?_;refine⟨?_,rfl⟩;simp only[bV, *,ac,aa];exact rfl
 refine Z_7 ?_;refine ZW ?_ ?_<;>intro hc21
 ·refine Z_2 ?_;refine cB rfl (hc21) ?_;refine eo ?_;refine ng (cs':=[]) (.inl rfl) Zu rfl rfl rfl rfl rfl ?_;refine⟨?_,rfl⟩;simp only[bV, *,ac,aa];exact rfl
 refine Z_6 ?_;refine ZW ?_ ?_<;>intro hc22
 ·refine Z_2 ?_;refine cB rfl (hc22) ?_;refine eo ?_;refine ng (cs':=[]) (.inl rfl) Zu rfl rfl rfl rfl rfl ?_;refine⟨?_,rfl⟩;simp only[bV, *,ac,aa];exact rfl
 refine Z_6 ?_;refine ZW ?_ ?_<;>intro hc23
 ·refine Z_2 ?_;refine cB rfl (hc23) ?_;refine eo ?_;refine ng (cs':=[]) (.inl rfl) Zu rfl rfl rfl rfl rfl ?_;refine⟨?_,rfl⟩;simp only[bV, *,ac,aa];exact rfl
 refine Z_6 ?_;refine ZW ?_ ?_<;>intro hc24
 ·refine Z_2 ?_;refine cB rfl (hc24) ?_;refine eo ?_;refine ng (cs':=[]) (.inl rfl) Zu rfl rfl rfl rfl rfl ?_;refine⟨?_,rfl⟩;simp only[bV, *,ac,aa];exact rfl
 refine Z_6 ?_;refine ZW ?_ ?_<;>intro hc25
 ·refine Z_2 ?_;refine cB rfl (hc25) ?_;refine eo ?_;refine ng (cs':=[]) (.inl rfl) Zu rfl rfl rfl rfl rfl ?_;refine⟨?_,rfl⟩;simp only[bV, *,ac,aa];exact rfl
 refine Z_6 ?_;refine ZW ?_ ?_<;>intro hc26
 ·refine Z_2 ?_;refine cB rfl (hc26) ?_;refine eo ?_;refine ng (cs':=[]) (.inl rfl) Zu rfl rfl rfl rfl rfl ?_;refine⟨?_,rfl⟩;simp only[bV, *,ac,aa];exact rfl
 refine Z_6 ?_;refine ZW ?_ ?_<;>intro hc27
 ·refine Z_2 ?_;refine cB rfl (hc27) ?_;refine eo ?_;refine ng (cs':=[]) (.inl rfl) Zu rfl rfl rfl rfl rfl ?_;refine⟨?_,rfl⟩;simp only[bV, *,ac,aa];exact rfl
 refine Z_6 ?_;refine ZW ?_ ?_<;>intro hc28
 ·refine Z_2 ?_;refine cB rfl (hc28) ?_;refine eo ?_;refine ng (cs':=[]) (.inl rfl) Zu rfl rfl rfl rfl rfl ?_;refine⟨?_,rfl⟩;simp only[bV, *,ac,aa];exact rfl
 refine Z_5 ?_;refine ZW ?_ ?_<;>intro hc29
 ·refine eo ?_;refine ng (cs':=[]) (.inl rfl) Zu rfl rfl rfl rfl rfl ?_;refine⟨?_,rfl⟩;simp only[bV, *,ac,aa];exact rfl
 refine Z_7 ?_;refine ZW ?_ ?_<;>intro hc31
 ·refine Z_2 ?_;refine cB rfl (hc31) ?_;refine eo ?_;refine ng (cs':=[]) (.inl rfl) Zu rfl rfl rfl rfl rfl ?_;refine⟨?_,rfl⟩;simp only[bV, *,ac,aa];exact rfl
 refine Z_6 ?_;refine ZW ?_ ?_<;>intro hc32
 ·refine Z_2 ?_;refine cB rfl (hc32) ?_;refine eo ?_;refine ng (cs':=[]) (.inl rfl) Zu rfl rfl rfl rfl rfl ?_;refine⟨?_,rfl⟩;simp only[bV, *,ac,aa];exact rfl
 refine Z_6 ?_;refine ZW ?_ ?_<;>intro hc33
 ·refine Z_2 ?_;refine cB rfl (hc33) ?_;refine eo ?_;refine ng (cs':=[]) (.inl rfl) Zu rfl rfl rfl rfl rfl ?_;refine⟨?_,rfl⟩;simp only[bV, *,ac,aa];exact rfl
 refine Z_5 ?_;refine ZW ?_ ?_<;>intro hc34
 ·refine eo ?_;refine ng (cs':=[]) (.inl rfl) Zu rfl rfl rfl rfl rfl ?_;refine⟨?_,rfl⟩;simp only[bV, *,ac,aa];exact rfl
 refine Z_7 ?_;refine ZW ?_ ?_<;>intro hc36
 ·refine Z_2 ?_;refine cB rfl (hc36) ?_;refine eo ?_;refine ng (cs':=[]) (.inl rfl) Zu rfl rfl rfl rfl rfl ?_;refine⟨?_,rfl⟩;simp only[bV, *,ac,aa];exact rfl
 refine Z_6 ?_;refine ZW ?_ ?_<;>intro hc37
 ·refine Z_2 ?_;refine cB rfl (hc37) ?_;refine eo ?_;refine ng (cs':=[]) (.inl rfl) Zu rfl rfl rfl rfl rfl ?_;refine⟨?_,rfl⟩;simp only[bV, *,ac,aa];exact rfl
 refine Z_5 ?_;refine ZW ?_ ?_<;>intro hc38
 ·refine eo ?_;refine ng (cs':=[]) (.inl rfl) Zu rfl rfl rfl rfl rfl ?_;refine⟨?_,rfl⟩;simp only[bV, *,ac,aa];exact rfl
 refine Z_6 ?_;refine ZW ?_ ?_<;>intro hc40
 ·refine eo ?_;refine ng (cs':=[]) (.inl rfl) Zu rfl rfl rfl rfl rfl ?_;refine⟨?_,rfl⟩;simp only[bV, *,ac,aa];exact rfl
 refine Z_6 ?_;refine ZW ?_ ?_<;>intro hc42
 ·refine eo ?_;refine ng (cs':=[]) (.inl rfl) Zu rfl rfl rfl rfl rfl ?_;refine⟨?_,rfl⟩;simp only[bV, *,ac,aa];exact rfl
 refine gK ?_;refine ng (cs':=[]) (.inl rfl) Zu rfl rfl rfl rfl rfl ?_;refine⟨?_,rfl⟩;simp only[bV, *,ac,aa];exact rfl
end Go.Proofs.YtomjgmbccamgiaaGreatDoor
namespace Go.Ink
open Go.RowKit
structure Run where
 s:St
 count:Int
 Iv:Tr
 device:Bool
abbrev Run.wd(R:Run)(l:List Int):Run:=⟨⟨R.s.pc,l,R.s.r,R.s.flags,R.s.Il,R.s.It,R.s.ie,R.s.root,R.s.vec,R.s.epc,R.s.Im,R.s.addr,R.s.Ix,R.s.eie,R.s.count,R.s.halted⟩,R.count,R.Iv,R.device⟩
abbrev Run.wr(R:Run)(l:List Int):Run:=⟨⟨R.s.pc,R.s.d,l,R.s.flags,R.s.Il,R.s.It,R.s.ie,R.s.root,R.s.vec,R.s.epc,R.s.Im,R.s.addr,R.s.Ix,R.s.eie,R.s.count,R.s.halted⟩,R.count,R.Iv,R.device⟩
abbrev Run.wt(R:Run)(t:Tr):Run:=⟨R.s,R.count,t,R.device⟩
structure iv where
 Ad:Option Addr
 cd:Nat
 Ar:Option Addr
 cr:Nat
structure BG where
 br:Nat
 u:Option Addr
 b:Option Addr
end Go.Ink
namespace Go.Proofs.YtomjgmbccamgiaaGreatDoor
open Go.RowKit Go.Ink Go.Proofs.Tryz
attribute [local irreducible] OpY bW
abbrev q9(K:BG)(X:iv)(R:Run):bJ:=row K.br [.int .u32 R.s.pc,.slice X.Ad R.s.d.length X.cd,.slice X.Ar R.s.r.length X.cr,.int .u32 R.s.flags,.bool R.s.Il,.bool R.s.It,.bool R.s.ie,.int .u32 R.s.root,.int .u32 R.s.vec,.int .u32 R.s.epc,.int .u32 R.s.Im,.int .u32 R.s.addr,.bool R.s.Ix,.bool R.s.eie,.int .u64 R.s.count,.bool R.s.halted,.int .u64 R.count,.pointer K.u,.pointer K.b,.int .i64 R.Iv.Im,.int .u32 R.Iv.addr,.bool R.device] 251
abbrev JF(K:BG)(X:iv)(R:Run):List bJ:=[q9 K X R,slD R.s X.Ad X.cd,slR R.s X.Ar X.cr]
theorem ia(K:BG)(X:iv)(R:Run)(l:List Int)(x:Int)(w:World)(hi:Inv w (bK (JF K X (R.wd (l++[x])))) (JF K X (R.wd (l++[x]))) w):
  Ctr prog 169 [.pointer (some ⟨K.br,0,none⟩)] w (JF K X (R.wd (l++[x]))) (fun v cs=>v= .int .u32 x∧cs=JF K X (R.wd l)):=by
 have hrd:=un (hi.get (.tail _ (.head _ _)));have hcap:(l++[x]).length≤X.cd:=hrd.cap;have hmax:=hrd.max;simp only[maxLen]at hmax;have hlen:(l++[x]).length=l.length+1:=by simp
 obtain⟨Ad,cd,Ar,cr⟩:=X;obtain⟨bd,rfl⟩:=gj (hi.get (.tail _ (.head _ _))) (show 0<(l++[x]).length by omega);have hcap:(l++[x]).length≤cd:=hcap;have hdl:(R.wd (l++[x])).s.d.length=l.length+1:=hlen;have hmax:cd≤_:=hmax;refine bL func169 rfl ntmps169 rfl hi ?_;refine jW ?_;refine Zy (eP (Zv rfl) (Zv rfl) (show _=(l.length:Int)from by rw[hlen];exact IntWalk.i64_in _ ⟨by omega,by omega⟩|>.trans (by omega))) ?_;refine eo ?_;refine Zy (cI (j:=l.length) (sz:=1) (r:=l.length) rfl Zrf (Zv rfl) (Zv rfl) (fun _=>by omega) (fun _=>by omega) (by omega)) ?_;refine dU (bM Zrf Zv0) (dE Zh (df (qu l x))) rfl ?_;refine gK ?_;refine Zy (gL (l.length) rfl Zrf (Zv rfl) (Zv rfl) (fun _=>by first|rfl|omega) (fun _=>by omega)) ?_;refine Z_3 ?_;refine ZL ?_;refine Z_9 ?_;refine j5 (c:=slD (R.wd (l++[x])).s (some ⟨bd,0,none⟩) cd) (c':=slD (R.wd l).s (some ⟨bd,0,none⟩) cd) Za rfl (fun w h=>yR h) ?_;refine Zrb ([row _ _ _,slv _ _ _ _ _ _,slv _ _ _ _ _ _]) ?_;exact⟨rfl,rfl⟩
theorem CH(K:BG)(X:iv)(R:Run)(l:List Int)(x:Int)(w:World)(hi:Inv w (bK (JF K X (R.wr (l++[x])))) (JF K X (R.wr (l++[x]))) w):
  Ctr prog 170 [.pointer (some ⟨K.br,0,none⟩)] w (JF K X (R.wr (l++[x]))) (fun v cs=>v= .int .u32 x∧cs=JF K X (R.wr l)):=by
 have hrd:=un (hi.get (.tail _ (.tail _ (.head _ _))));have hcap:(l++[x]).length≤X.cr:=hrd.cap;have hmax:=hrd.max;simp only[maxLen]at hmax;have hlen:(l++[x]).length=l.length+1:=by simp
 obtain⟨Ad,cd,Ar,cr⟩:=X;obtain⟨bd,rfl⟩:=gj (hi.get (.tail _ (.tail _ (.head _ _)))) (show 0<(l++[x]).length by omega);have hcap:(l++[x]).length≤cr:=hcap;have hdl:(R.wr (l++[x])).s.r.length=l.length+1:=hlen;have hmax:cr≤_:=hmax;refine bL func170 rfl ntmps170 rfl hi ?_;refine jW ?_;refine Zy (eP (Zv rfl) (Zv rfl) (show _=(l.length:Int)from by rw[hlen];exact IntWalk.i64_in _ ⟨by omega,by omega⟩|>.trans (by omega))) ?_;refine eo ?_;refine Zy (cI (j:=l.length) (sz:=1) (r:=l.length) rfl Zrf (Zv rfl) (Zv rfl) (fun _=>by omega) (fun _=>by omega) (by omega)) ?_;refine dU (bM Zrf Zv0) (dE Zh (df (qu l x))) rfl ?_;refine gK ?_;refine Zy (gL (l.length) rfl Zrf (Zv rfl) (Zv rfl) (fun _=>by first|rfl|omega) (fun _=>by omega)) ?_;refine Z_3 ?_;refine ZL ?_;refine Z_9 ?_;refine j5 (c:=slR (R.wr (l++[x])).s (some ⟨bd,0,none⟩) cr) (c':=slR (R.wr l).s (some ⟨bd,0,none⟩) cr) Za rfl (fun w h=>yR h) ?_;refine Zrb ([row _ _ _,slv _ _ _ _ _ _,slv _ _ _ _ _ _]) ?_;exact⟨rfl,rfl⟩
theorem gW(K:BG)(X:iv)(R:Run)(A:Option Addr)(n c:Nat)(ys:List Int)(hs:R.s.d.length+n≤1000000)(w:World)(hi:Inv w (bK (JF K X R)) (JF K X R) w)(h:∀w',dQ (bK (JF K X R)) w w'→Rd w' .u32 A n c ys):
  Ctr prog 168 [.pointer (some ⟨K.br,0,none⟩),.slice A n c] w (JF K X R) (fun v cs=>∃A' c',v= .tuple #[]∧cs=JF K ⟨A',c',X.Ar,X.cr⟩ (R.wd (R.s.d++ys))):=by
 have hl:n=ys.length:=by have:=(h w (dQ.refl _ _)).len;rw[cT]at this;omega
 subst hl;refine bL func168 rfl ntmps168 rfl hi ?_;refine Z_8 ?_;refine dM (cM (e:=34) (sz:=1) (bytes:=4) rfl rfl Za rfl rfl (fun w hi=>h w hi.IG) cY (by simp only[maxLen];omega) (by omega)) rfl ?_;rintro _ _ ⟨A',c',rfl,rfl⟩;refine Z_3 ?_;refine ZL ?_;refine Zn (fL (cs':=[row _ _ _,slv _ _ _ _ _ _,slv _ _ _ _ _ _]) (.inr rfl) Zu rfl ?_);exact⟨A',c',rfl,by simp only[JF,q9,slD,slR,ae,cD]⟩
theorem nj(K:BG)(X:iv)(R:Run)(Im addr:Int)(w:World)(hi:Inv w (bK (JF K X R)) (JF K X R) w):
  Ctr prog 172 [.pointer (some ⟨K.br,0,none⟩),.int .i64 Im,.int .u32 addr] w (JF K X R) (fun v cs=>v= .tuple #[]∧cs=JF K X (R.wt ⟨Im,addr⟩)):=by
 refine bL func172 rfl ntmps172 rfl hi ?_;refine Z_7 ?_;refine dz (jG (n:=2) (vs:=[.int .i64 Im,.int .u32 addr]) Zrf rfl rfl (iK rfl) Za rfl (by simp only[ai,ao];omega)) ?_;rintro _ _ ⟨rfl,rfl⟩;refine Zn (fL (cs':=[row _ _ _,slv _ _ _ _ _ _,slv _ _ _ _ _ _]) (.inr rfl) Zu rfl ?_);exact⟨rfl,rfl⟩
theorem FA(K:BG)(X:iv)(R:Run)(w:World)(h:(q9 K X R).ok w):
  Ctr prog 222 [.pointer (some ⟨K.br,0,none⟩)] w [] (fun v cs=>v= .agg #[.bool R.s.It,.bool R.s.Il,.int .u32 R.s.root]∧cs=[]):=by
 refine bL func222 rfl ntmps222 rfl (Inv.start w) ?_;refine Z_2 ?_;refine ZN fun b2=>?_;refine Z_3 ?_;refine cj ⟨fun j=>List.elem j [16],[]⟩ Zk ?_;refine ZE 0 ?_;refine ZE 1 ?_;refine ZFe 2 0 ?_;refine ZFe 3 5 ?_;refine eQ 4 rfl Zk Zk Zk Zk (bM Zrf (Zv rfl)) (dL (by assumption) rfl) rfl ?_;refine ZE 5 ?_;refine ZE 6 ?_;refine ZFe 7 0 ?_;refine ZFe 8 4 ?_;refine eQ 9 rfl Zk Zk Zk Zk (bM Zrf (Zv rfl)) (dL (by assumption) rfl) rfl ?_;refine ZE 10 ?_;refine ZE 11 ?_;refine ZFe 12 0 ?_;refine ZFe 13 7 ?_;refine eQ 14 rfl Zk Zk Zk Zk (bM Zrf (Zv rfl)) (dL (by assumption) rfl) rfl ?_;refine ZE 15 ?_;refine cE 16 Zk ?_;refine ZR ?_;refine bO Zk ?_;refine Z_2 ?_;refine kk (cs':=[]) (.inl rfl) Zu rfl rfl Zh Zrf Zrf ?_;exact⟨rfl,rfl⟩
end Go.Proofs.YtomjgmbccamgiaaGreatDoor
namespace Go.Ink
open Go.RowKit
def Run.top(R:Run):Int:=R.s.d.getLastD 0
def Run.topR(R:Run):Int:=R.s.r.getLastD 0
def Run.pop(R:Run):Run:=R.wd R.s.d.dropLast
def Run.IS(R:Run):Run:=R.wr R.s.r.dropLast
def Run.push(R:Run)(l:List Int):Run:=R.wd (R.s.d++l)
def Run.Jw(R:Run)(x:Int):Run:=R.wr (R.s.r++[x])
abbrev Run.wpc(R:Run)(x:Int):Run:=⟨⟨x,R.s.d,R.s.r,R.s.flags,R.s.Il,R.s.It,R.s.ie,R.s.root,R.s.vec,R.s.epc,R.s.Im,R.s.addr,R.s.Ix,R.s.eie,R.s.count,R.s.halted⟩,R.count,R.Iv,R.device⟩
abbrev Run.wfl(R:Run)(x:Int):Run:=⟨⟨R.s.pc,R.s.d,R.s.r,x,R.s.Il,R.s.It,R.s.ie,R.s.root,R.s.vec,R.s.epc,R.s.Im,R.s.addr,R.s.Ix,R.s.eie,R.s.count,R.s.halted⟩,R.count,R.Iv,R.device⟩
theorem Run.snoc{R:Run}(h:1≤R.s.d.length):∃(R':Run) (l:List Int) (x:Int),R=R'.wd (l++[x]):=by
 obtain⟨l,x,h⟩:=qZ h;exact⟨R,l,x,by rw[Run.wd,←h]⟩
theorem Run.snocR{R:Run}(h:1≤R.s.r.length):∃(R':Run) (l:List Int) (x:Int),R=R'.wr (l++[x]):=by
 obtain⟨l,x,h⟩:=qZ h;exact⟨R,l,x,by rw[Run.wr,←h]⟩
theorem Run.I4{R:Run}(h:2≤R.s.d.length):∃(R':Run) (l:List Int) (x y:Int),R=R'.wd ((l++[x])++[y]):=by
 obtain⟨R1,l,y,rfl⟩:=Run.snoc (R:=R) (by omega);have h:2≤(l++[y]).length:=h;obtain⟨m,x,rfl⟩:=qZ (l:=l) (by simp at h;omega);exact⟨R1,m,x,y,rfl⟩
@[simp] theorem Run.top_wd (R:Run) (l:List Int) (x:Int):(R.wd (l++[x])).top=x:=by simp[Run.top,List.getLastD_concat]
@[simp] theorem Run.pop_wd (R:Run) (l:List Int) (x:Int):(R.wd (l++[x])).pop=R.wd l:=by simp[Run.pop]
@[simp] theorem Run.topR_wr (R:Run) (l:List Int) (x:Int):(R.wr (l++[x])).topR=x:=by simp[Run.topR,List.getLastD_concat]
@[simp] theorem Run.popR_wr (R:Run) (l:List Int) (x:Int):(R.wr (l++[x])).IS=R.wr l:=by simp[Run.IS]
def dO(op n:Int)(R:Run):Option Run:=
 bif op==0 then some R else bif op==1 then some (R.push [n])else bif op==2 then some (R.push [n])else bif op==3 then some (R.pop.push [R.top,R.top])else bif op==4 then some R.pop else
 bif op==5 then some (R.pop.pop.push [R.top,R.pop.top])else bif op==6 then some (R.pop.pop.push [R.pop.top,R.top,R.pop.top])else bif op==7 then some (R.pop.Jw R.top)else bif op==8 then some (R.IS.push [R.topR])else none
theorem m6(n:Int)(R:Run)(l:List Int)(x:Int):dO 3 n (R.wd (l++[x]))=some (R.wd (l++[x,x])):=by
 show some _=_;rw[Run.top_wd,Run.pop_wd];rfl
theorem lI(n:Int)(R:Run)(l:List Int)(x:Int):dO 4 n (R.wd (l++[x]))=some (R.wd l):=by
 show some _=_;rw[Run.pop_wd]
theorem lG(n:Int)(R:Run)(l:List Int)(x y:Int):dO 5 n (R.wd ((l++[x])++[y]))=some (R.wd (l++[y,x])):=by
 show some _=_;rw[Run.top_wd,Run.pop_wd,Run.top_wd,Run.pop_wd];rfl
theorem lH(n:Int)(R:Run)(l:List Int)(x y:Int):dO 6 n (R.wd ((l++[x])++[y]))=some (R.wd (l++[x,y,x])):=by
 show some _=_;rw[Run.top_wd,Run.pop_wd,Run.top_wd,Run.pop_wd];rfl
theorem m5(n:Int)(R:Run)(l:List Int)(x:Int):dO 7 n (R.wd (l++[x]))=some ((R.wd l).wr (R.s.r++[x])):=by
 show some _=_;rw[Run.top_wd,Run.pop_wd];rfl
theorem kS(n:Int)(R:Run)(l:List Int)(x:Int):dO 8 n (R.wr (l++[x]))=some ((R.wr l).wd (R.s.d++[x])):=by
 show some _=_;rw[Run.topR_wr,Run.popR_wr];rfl
theorem pN{op:Int}(n:Int)(R:Run)(h0:(op==0)=false)(h1:(op==1)=false)(h2:(op==2)=false)(h3:(op==3)=false)(h4:(op==4)=false)(h5:(op==5)=false)(h6:(op==6)=false)(h7:(op==7)=false)(h8:(op==8)=false):dO op n R=none:=by
 simp only[dO, *,aa]
theorem jV{a b:Int}(h:(a==b)=true):a=b:=by simpa using h
end Go.Ink
namespace Go.Proofs.YtomjgmbccamgiaaGreatDoor
open Go.RowKit Go.Ink Go.Proofs.Tryz
attribute [local irreducible] OpY bW
theorem Fz(K:BG)(X:iv)(R:Run)(op n:Int)(hd:R.s.d.length≤100000)(hr:R.s.r.length≤100000)(hn:(bV op).1.1≤R.s.d.length)(hnr:(bV op).2.1≤R.s.r.length)(w:World)(hi:Inv w (bK (JF K X R)) (JF K X R) w):
  Ctr prog 129 [.pointer (some ⟨K.br,0,none⟩),.agg #[.int .i64 op,.int .u32 n]] w (JF K X R) (fun v cs=>∃X',v= .bool (dO op n R).isSome∧cs=JF K X' ((dO op n R).getD R)):=by
 refine bL func129 rfl ntmps129 rfl hi ?_;refine Z_2 ?_;refine ZO fun b3=>?_;refine vo ?_;refine ZW ?_ ?_<;>intro hc3
 ·obtain rfl:=jV hc3;have hst:dO 0 n R=some R:=rfl;refine Z_9 ?_;refine Zrb ([row _ _ _,slv _ _ _ _ _ _,slv _ _ _ _ _ _]) ?_;rw[hst];exact⟨⟨_,_,_,_⟩,rfl,rfl⟩
 refine Z_7 ?_;refine ZW ?_ ?_<;>intro hc4
 ·obtain rfl:=jV hc4;have hst:dO 1 n R=some (R.push [n]):=rfl;refine Z_2 ?_;refine cB rfl (hc4) ?_;refine Z_4 ?_;refine dM (cm rfl rfl Zrf Zrf rfl rfl) rfl ?_;rintro _ _ ⟨b20,rfl,rfl⟩;refine ZcL (JF K X R) (fun w hi hin=>gW K X R _ 1 1 [n] (by omega) w hin (fun w' hk=>hi.Jb Zi Zh hk)) ?_;rintro _ _ ⟨_,⟨A',c',rfl,rfl⟩,rfl⟩;refine Z_9 ?_;refine Zrb ([row _ _ _,slv _ _ _ _ _ _,slv _ _ _ _ _ _]) ?_;rw[hst];exact⟨⟨_,_,_,_⟩,rfl,rfl⟩
 refine Z_5 ?_;refine ZW ?_ ?_<;>intro hc5
 ·obtain rfl:=jV hc5;have hst:dO 2 n R=some (R.push [n]):=rfl;refine Z_4 ?_;refine dM (cm rfl rfl Zrf Zrf rfl rfl) rfl ?_;rintro _ _ ⟨b20,rfl,rfl⟩;refine ZcL (JF K X R) (fun w hi hin=>gW K X R _ 1 1 [n] (by omega) w hin (fun w' hk=>hi.Jb Zi Zh hk)) ?_;rintro _ _ ⟨_,⟨A',c',rfl,rfl⟩,rfl⟩;refine Z_9 ?_;refine Zrb ([row _ _ _,slv _ _ _ _ _ _,slv _ _ _ _ _ _]) ?_;rw[hst];exact⟨⟨_,_,_,_⟩,rfl,rfl⟩
 refine Z_6 ?_;refine ZW ?_ ?_<;>intro hc7
 ·obtain rfl:=jV hc7;obtain⟨R,l,x,rfl⟩:=Run.snoc (show 1≤R.s.d.length from hn);have hst:=m6 n R l x;have hll:l.length+1≤100000:=(by have:(l++[x]).length≤100000:=hd;simpa using this);refine Z_3 ?_;refine ZcM (JF K X (R.wd (l++[x]))) (fun w hi hin=>ia K X R l x w hin) ?_;refine Z_7 ?_;refine dM (cm rfl rfl Zrf Zrf rfl rfl) rfl ?_;rintro _ _ ⟨b29,rfl,rfl⟩;refine ZcL (JF K X (R.wd l)) (fun w hi hin=>gW K X (R.wd l) _ 2 2 [x,x] (show l.length+2≤1000000 by omega) w hin (fun w' hk=>hi.Jb Zi Zh hk)) ?_;rintro _ _ ⟨_,⟨A',c',rfl,rfl⟩,rfl⟩;refine Z_9 ?_;refine Zrb ([row _ _ _,slv _ _ _ _ _ _,slv _ _ _ _ _ _]) ?_;rw[hst];exact⟨⟨_,_,_,_⟩,rfl,rfl⟩
 refine Z_6 ?_;refine ZW ?_ ?_<;>intro hc10
 ·obtain rfl:=jV hc10;obtain⟨R,l,x,rfl⟩:=Run.snoc (show 1≤R.s.d.length from hn);have hst:=lI n R l x;refine Z_2 ?_;refine ZcM (JF K X (R.wd (l++[x]))) (fun w hi hin=>ia K X R l x w hin) ?_;refine Z_9 ?_;refine Zrb ([row _ _ _,slv _ _ _ _ _ _,slv _ _ _ _ _ _]) ?_;rw[hst];exact⟨⟨_,_,_,_⟩,rfl,rfl⟩
 refine Z_6 ?_;refine ZW ?_ ?_<;>intro hc12
 ·obtain rfl:=jV hc12;obtain⟨R,l,x,y,rfl⟩:=Run.I4 (show 2≤R.s.d.length from hn);have hst:=lG n R l x y;have hll:l.length+2≤100000:=(by have:((l++[x])++[y]).length≤100000:=hd;simp only[ae,ai,ao]at this;omega);refine Z_3 ?_;refine ZcM (JF K X (R.wd ((l++[x])++[y]))) (fun w hi hin=>ia K X R (l++[x]) y w hin) ?_;refine ZA ?_;refine ZcM (JF K X (R.wd (l++[x]))) (fun w hi hin=>ia K X R l x w hin) ?_;refine Z_8 ?_;refine dM (cm rfl rfl Zrf Zrf rfl rfl) rfl ?_;rintro _ _ ⟨b44,rfl,rfl⟩;refine ZcL (JF K X (R.wd l)) (fun w hi hin=>gW K X (R.wd l) _ 2 2 [y,x] (show l.length+2≤1000000 by omega) w hin (fun w' hk=>hi.Jb Zi Zh hk)) ?_;rintro _ _ ⟨_,⟨A',c',rfl,rfl⟩,rfl⟩;refine Z_9 ?_;refine Zrb ([row _ _ _,slv _ _ _ _ _ _,slv _ _ _ _ _ _]) ?_;rw[hst];exact⟨⟨_,_,_,_⟩,rfl,rfl⟩
 refine Z_6 ?_;refine ZW ?_ ?_<;>intro hc15
 ·obtain rfl:=jV hc15;obtain⟨R,l,x,y,rfl⟩:=Run.I4 (show 2≤R.s.d.length from hn);have hst:=lH n R l x y;have hll:l.length+2≤100000:=(by have:((l++[x])++[y]).length≤100000:=hd;simp only[ae,ai,ao]at this;omega);refine Z_3 ?_;refine ZcM (JF K X (R.wd ((l++[x])++[y]))) (fun w hi hin=>ia K X R (l++[x]) y w hin) ?_;refine ZA ?_;refine ZcM (JF K X (R.wd (l++[x]))) (fun w hi hin=>ia K X R l x w hin) ?_;refine Z_9 ?_;refine dM (cm rfl rfl Zrf Zrf rfl rfl) rfl ?_;rintro _ _ ⟨b56,rfl,rfl⟩;refine ZcL (JF K X (R.wd l)) (fun w hi hin=>gW K X (R.wd l) _ 3 3 [x,y,x] (show l.length+3≤1000000 by omega) w hin (fun w' hk=>hi.Jb Zi Zh hk)) ?_;rintro _ _ ⟨_,⟨A',c',rfl,rfl⟩,rfl⟩;refine Z_9 ?_;refine Zrb ([row _ _ _,slv _ _ _ _ _ _,slv _ _ _ _ _ _]) ?_;rw[hst];exact⟨⟨_,_,_,_⟩,rfl,rfl⟩
 refine Z_6 ?_;refine ZW ?_ ?_<;>intro hc18
 ·obtain rfl:=jV hc18;obtain⟨R,l,x,rfl⟩:=Run.snoc (show 1≤R.s.d.length from hn);have hst:=m5 n R l x;have hrr:R.s.r.length≤100000:=hr;have hrr2:(R.wd l).s.r.length≤100000:=hr;refine cj ⟨fun j=>List.elem j [7,9,13],[]⟩ Zk ?_;refine ZE 0 ?_;refine ZE 1 ?_;refine ZE 2 ?_;refine ZFe 3 0 ?_;refine ZFe 4 2 ?_;refine ZE 6 ?_;refine j4 5 7 Zk ?_ ?_
  ·refine eN rfl (bM Zrf Zv0) (bR Zh rfl) rfl ?_;refine cE 7 Zk ?_;refine ZcA (JF K X (R.wd (l++[x]))) (fun w hi hin=>ia K X R l x w hin) ?_;rintro _ _ ⟨_,⟨rfl,rfl⟩,rfl⟩;refine cE 8 Zk ?_;refine gu rfl rfl (cm rfl rfl Zrf Zrf rfl rfl) ZJ rfl ?_;rintro _ _ ⟨b68,rfl,rfl⟩;refine cE 9 Zk ?_;refine gu rfl rfl (cM (e:=34) (sz:=1) (bytes:=4) rfl rfl Za rfl rfl (fun w hi=>hi.rd (show Has _ (slv 34 1 (some ⟨b68,0,none⟩) 1 1 (ints .u32 [x]))from Zh)) cY (by simp only[maxLen];omega) (by omega)) ZJ rfl ?_;rintro _ _ ⟨A',c',rfl,rfl⟩;refine ZE 10 ?_;refine ZFe 11 0 ?_;refine ZFe 12 2 ?_;refine cE 13 Zk ?_;refine ZQ ?_;refine bO Zk ?_;refine Z_8 ?_;refine Zrb ([row _ _ _,slv _ _ _ _ _ _,slv _ _ _ _ _ _]) ?_;rw[hst];refine⟨⟨X.Ad,X.cd,A',c'⟩,rfl,?_⟩;show _=JF K ⟨X.Ad,X.cd,A',c'⟩ ((R.wd l).wr (R.s.r++[x]));simp only[JF,q9,slD,slR,ae,cD,ai,ao,bo]
  refine ZcA (JF K X (R.wd (l++[x]))) (fun w hi hin=>ia K X R l x w hin) ?_;rintro _ _ ⟨_,⟨rfl,rfl⟩,rfl⟩;refine ZG 5 ?_;refine cE 8 Zk ?_;refine gu rfl rfl (cm rfl rfl Zrf Zrf rfl rfl) ZJ rfl ?_;rintro _ _ ⟨b68,rfl,rfl⟩;refine cE 9 Zk ?_;refine gu rfl rfl (cM (e:=34) (sz:=1) (bytes:=4) rfl rfl Za rfl rfl (fun w hi=>hi.rd (show Has _ (slv 34 1 (some ⟨b68,0,none⟩) 1 1 (ints .u32 [x]))from Zh)) cY (by simp only[maxLen];omega) (by omega)) ZJ rfl ?_;rintro _ _ ⟨A',c',rfl,rfl⟩;refine ZE 10 ?_;refine ZFe 11 0 ?_;refine ZFe 12 2 ?_;refine cE 13 Zk ?_;refine ZQ ?_;refine bO Zk ?_;refine Z_8 ?_;refine Zrb ([row _ _ _,slv _ _ _ _ _ _,slv _ _ _ _ _ _]) ?_;rw[hst];refine⟨⟨X.Ad,X.cd,A',c'⟩,rfl,?_⟩;show _=JF K ⟨X.Ad,X.cd,A',c'⟩ ((R.wd l).wr (R.s.r++[x]));simp only[JF,q9,slD,slR,ae,cD,ai,ao,bo]
 refine Z_6 ?_;refine ZW ?_ ?_<;>intro hc20
 ·obtain rfl:=jV hc20;obtain⟨R,l,x,rfl⟩:=Run.snocR (show 1≤R.s.r.length from hnr);have hst:=kS n R l x;have hdd:R.s.d.length≤100000:=hd;refine Z_3 ?_;refine ZcM (JF K X (R.wr (l++[x]))) (fun w hi hin=>CH K X R l x w hin) ?_;refine dM (cm rfl rfl Zrf Zrf rfl rfl) rfl ?_;rintro _ _ ⟨b78,rfl,rfl⟩;refine ZcL (JF K X (R.wr l)) (fun w hi hin=>gW K X (R.wr l) _ 1 1 [x] (show R.s.d.length+1≤1000000 by omega) w hin (fun w' hk=>hi.Jb Zi Zh hk)) ?_;rintro _ _ ⟨_,⟨A',c',rfl,rfl⟩,rfl⟩;refine Z_9 ?_;refine Zrb ([row _ _ _,slv _ _ _ _ _ _,slv _ _ _ _ _ _]) ?_;rw[hst];exact⟨⟨_,_,_,_⟩,rfl,rfl⟩
 have hst:=pN n R hc3 hc4 hc5 hc7 hc10 hc12 hc15 hc18 hc20;refine Z_8 ?_;refine Zrb ([row _ _ _,slv _ _ _ _ _ _,slv _ _ _ _ _ _]) ?_;rw[hst];exact⟨⟨_,_,_,_⟩,rfl,rfl⟩
end Go.Proofs.YtomjgmbccamgiaaGreatDoor
namespace Go.Ink
open Go.RowKit
def jk(R:Run)(n:Int):Int:=IntKind.u32.wrap (R.s.pc+kL n)
def cQ(op n:Int)(R:Run):Bool×Run:=
 bif decide (16≤op)&&decide (op≤25)then
  (true,bif op !=25 then((bif(iq op R.pop.top R.top).2.2 then R.pop.pop else R.pop.pop.wt ⟨5,0⟩).wfl (iq op R.pop.top R.top).2.1).push [(iq op R.pop.top R.top).1]else(bif(iq op R.pop.top R.top).2.2 then R.pop.pop else R.pop.pop.wt ⟨5,0⟩).wfl (iq op R.pop.top R.top).2.1)
 else bif op==38 then(true,(R.Jw R.s.pc).wpc (jk R n))else bif op==32 then(true,R.wpc (jk R n))else bif op==39 then(true,R.IS.wpc R.topR)else bif op==40 then(true,R.pop.wpc R.top)else
 ((dg op R.s.flags).2,bif(dg op R.s.flags).1 then R.wpc (jk R n)else R)
theorem za{op:Int}(h:(decide (16≤op)&&decide (op≤25))=true):(bV op).1.1=2:=by
 simp only[aB,ap]at h;obtain rfl|rfl|rfl|rfl|rfl|rfl|rfl|rfl|rfl|rfl:op=16∨op=17∨op=18∨op=19∨op=20∨op=21∨op=22∨op=23∨op=24∨op=25:=by omega
 all_goals rfl
end Go.Ink
namespace Go.Proofs.YtomjgmbccamgiaaGreatDoor
open Go.RowKit Go.Ink Go.Proofs.Tryz
attribute [local irreducible] OpY bW
theorem CE(K:BG)(X:iv)(R:Run)(op n:Int)(hw:∀x,x∈R.s.d→u32 x)(hd:R.s.d.length≤100000)(hr:R.s.r.length≤100000)(hn:(bV op).1.1≤R.s.d.length)(hnr:(bV op).2.1≤R.s.r.length)(w:World)(hi:Inv w (bK (JF K X R)) (JF K X R) w):
  Ctr prog 130 [.pointer (some ⟨K.br,0,none⟩),.agg #[.int .i64 op,.int .u32 n]] w (JF K X R) (fun v cs=>∃X',v= .bool (cQ op n R).1∧cs=JF K X' (cQ op n R).2):=by
 have HS:=xC n;have HA:=ado_ok op;have HH:=GC op R.s.flags;obtain⟨th,hth⟩:=Zgn (jk R n);have hth':=hth;unfold jk at hth';obtain⟨sg,hsg⟩:=Zgn (kL n);rw[hsg]at HS hth';refine bL func130 rfl ntmps130 rfl hi ?_;refine Z_2 ?_;refine ZO fun b3=>?_;refine Z_4 ?_;refine cj ⟨fun j=>List.elem j [],[]⟩ Zk ?_;refine ZE 0 ?_;refine ZE 1 ?_;refine ZFe 2 0 ?_;refine ZFe 3 0 ?_;refine ZG 4 ?_;refine ZFe 5 1 ?_;refine ZG 6 ?_;refine cE 7 Zk ?_;refine ZT (fun w hi=>HS w) ?_;rintro _ _ ⟨_,⟨rfl,rfl⟩,rfl⟩;refine cR 8 rfl Zk Zk Zk (cF Zv0 Zv0 hth') rfl ?_;refine ZE 9 ?_;refine bO Zk ?_;refine ln ?_;refine Z_1 ?_;refine ZW ?_ ?_<;>intro hc7
 ·rw[za hc7]at hn;obtain⟨R,l,x,y,rfl⟩:=Run.I4 hn;have hll:l.length+2≤100000:=(by have:((l++[x])++[y]).length≤100000:=hd;simp only[ae,ai,ao]at this;omega);have HA:=HA x y (hw y (by simp)).1;obtain⟨⟨v,fl,ok⟩,hq⟩:=Zgn (iq op x y);rw[hq]at HA;have hst:cQ op n (R.wd ((l++[x])++[y]))=(true,bif op !=25 then((bif ok then R.wd l else(R.wd l).wt ⟨5,0⟩).wfl fl).push [v]else(bif ok then R.wd l else(R.wd l).wt ⟨5,0⟩).wfl fl):=(by simp only[cQ,hc7,ac,Run.top_wd,Run.pop_wd,hq]);refine Z_3 ?_;refine ZcM (JF K X (R.wd ((l++[x])++[y]))) (fun w hi hin=>ia K X R (l++[x]) y w hin) ?_;refine ZA ?_;refine ZcM (JF K X (R.wd (l++[x]))) (fun w hi hin=>ia K X R l x w hin) ?_;refine Z_9 ?_;refine ZSe (fun w hi=>HA w) ?_;refine p5 ?_;refine ZW ?_ ?_<;>intro hc10
  ·obtain rfl:ok=false:=(by simpa using hc10);have hR:∃Q,Q=(R.wd l).wt ⟨5,0⟩:=⟨_,rfl⟩;refine Z_2 ?_;refine ZcM (JF K X (R.wd l)) (fun w hi hin=>nj K X (R.wd l) 5 0 w hin) ?_;refine Z_9 ?_;refine ZL ?_;refine Z_8 ?_;refine ZW ?_ ?_<;>intro hc13
   ·simp only[hc13,ac,aa]at hst;refine Z_3 ?_;refine dM (cm rfl rfl Zrf Zrf rfl rfl) rfl ?_;rintro _ _ ⟨b74,rfl,rfl⟩;refine ZcL (JF K X (((R.wd l).wt ⟨5,0⟩).wfl fl)) (fun w hi hin=>gW K X (((R.wd l).wt ⟨5,0⟩).wfl fl) _ 1 1 [v] (show l.length+1≤1000000 by omega) w hin (fun w' hk=>hi.Jb Zi Zh hk)) ?_;rintro _ _ ⟨_,⟨A',c',rfl,rfl⟩,rfl⟩;refine Z_9 ?_;refine Zrb ([row _ _ _,slv _ _ _ _ _ _,slv _ _ _ _ _ _]) ?_;rw[hst];exact⟨⟨_,_,_,_⟩,rfl,rfl⟩
   simp only[hc13,ac,aa]at hst;refine Z_9 ?_;refine Zrb ([row _ _ _,slv _ _ _ _ _ _,slv _ _ _ _ _ _]) ?_;rw[hst];exact⟨⟨_,_,_,_⟩,rfl,rfl⟩
  obtain rfl:ok=true:=(by simpa using hc10);refine Z_9 ?_;refine ZL ?_;refine Z_8 ?_;refine ZW ?_ ?_<;>intro hc13
  ·simp only[hc13,ac,aa]at hst;refine Z_3 ?_;refine dM (cm rfl rfl Zrf Zrf rfl rfl) rfl ?_;rintro _ _ ⟨b74,rfl,rfl⟩;refine ZcL (JF K X ((R.wd l).wfl fl)) (fun w hi hin=>gW K X ((R.wd l).wfl fl) _ 1 1 [v] (show l.length+1≤1000000 by omega) w hin (fun w' hk=>hi.Jb Zi Zh hk)) ?_;rintro _ _ ⟨_,⟨A',c',rfl,rfl⟩,rfl⟩;refine Z_9 ?_;refine Zrb ([row _ _ _,slv _ _ _ _ _ _,slv _ _ _ _ _ _]) ?_;rw[hst];exact⟨⟨_,_,_,_⟩,rfl,rfl⟩
  simp only[hc13,ac,aa]at hst;refine Z_9 ?_;refine Zrb ([row _ _ _,slv _ _ _ _ _ _,slv _ _ _ _ _ _]) ?_;rw[hst];exact⟨⟨_,_,_,_⟩,rfl,rfl⟩
 refine Z_7 ?_;refine ZW ?_ ?_<;>intro hc15
 ·have hst:cQ op n R=(true,(R.Jw R.s.pc).wpc th):=(by simp only[cQ, *,ac,aa]);refine Zs (cj ⟨fun j=>List.elem j [12,16],[]⟩ Zk ?_);refine ZE 0 ?_;refine ZE 1 ?_;refine ZE 2 ?_;refine ZFe 3 0 ?_;refine ZFe 4 2 ?_;refine ZG 5 ?_;refine ZE 6 ?_;refine ZE 7 ?_;refine ZFe 8 0 ?_;refine ZFe 9 0 ?_;refine cE 10 Zk ?_;refine eN rfl (bM Zrf Zv0) (bR Zh rfl) rfl ?_;refine cE 11 Zk ?_;refine gu rfl rfl (cm rfl rfl Zrf Zrf rfl rfl) ZJ rfl ?_;rintro _ _ ⟨b90,rfl,rfl⟩;refine cE 12 Zk ?_;refine gu rfl rfl (cM (e:=34) (sz:=1) (bytes:=4) rfl rfl Za rfl rfl (fun w hi=>hi.rd (show Has _ (slv 34 1 (some ⟨b90,0,none⟩) 1 1 (ints .u32 [R.s.pc]))from Zh)) cY (by simp only[maxLen];omega) (by omega)) ZJ rfl ?_;rintro _ _ ⟨A',c',rfl,rfl⟩;refine ZE 13 ?_;refine ZFe 14 0 ?_;refine ZFe 15 2 ?_;refine cE 16 Zk ?_;refine ZQ ?_;refine bO Zk ?_;refine Z_7 ?_;refine ZL ?_;refine Z_9 ?_;refine Zrb ([row _ _ _,slv _ _ _ _ _ _,slv _ _ _ _ _ _]) ?_;rw[hst];refine⟨⟨X.Ad,X.cd,A',c'⟩,rfl,?_⟩;simp only[JF,q9,slD,slR,Run.Jw,ae,cD,ai,ao,bo]
 refine Z_7 ?_;refine ZW ?_ ?_<;>intro hc18
 ·have hst:cQ op n R=(true,R.wpc th):=(by simp only[cQ, *,ac,aa]);refine Z_6 ?_;refine ZL ?_;refine Z_9 ?_;refine Zrb ([row _ _ _,slv _ _ _ _ _ _,slv _ _ _ _ _ _]) ?_;rw[hst];exact⟨⟨_,_,_,_⟩,rfl,rfl⟩
 refine Z_7 ?_;refine ZW ?_ ?_<;>intro hc20
 ·obtain rfl:=jV hc20;obtain⟨R,l,x,rfl⟩:=Run.snocR (show 1≤R.s.r.length from hnr);have hst:cQ 39 n (R.wr (l++[x]))=(true,(R.wr l).wpc x):=(by show(_,_)=_;rw[Run.popR_wr,Run.topR_wr]);refine Z_3 ?_;refine ZcM (JF K X (R.wr (l++[x]))) (fun w hi hin=>CH K X R l x w hin) ?_;refine Z_3 ?_;refine ZL ?_;refine Z_9 ?_;refine Zrb ([row _ _ _,slv _ _ _ _ _ _,slv _ _ _ _ _ _]) ?_;rw[hst];exact⟨⟨_,_,_,_⟩,rfl,rfl⟩
 refine Z_7 ?_;refine ZW ?_ ?_<;>intro hc22
 ·obtain rfl:=jV hc22;obtain⟨R,l,x,rfl⟩:=Run.snoc (show 1≤R.s.d.length from hn);have hst:cQ 40 n (R.wd (l++[x]))=(true,(R.wd l).wpc x):=(by show(_,_)=_;rw[Run.pop_wd,Run.top_wd]);refine Z_3 ?_;refine ZcM (JF K X (R.wd (l++[x]))) (fun w hi hin=>ia K X R l x w hin) ?_;refine Z_3 ?_;refine ZL ?_;refine Z_9 ?_;refine Zrb ([row _ _ _,slv _ _ _ _ _ _,slv _ _ _ _ _ _]) ?_;rw[hst];exact⟨⟨_,_,_,_⟩,rfl,rfl⟩
 have hst:cQ op n R=((dg op R.s.flags).2,bif(dg op R.s.flags).1 then R.wpc th else R):=(by simp only[cQ, *,ac,aa]);obtain⟨⟨g,o⟩,hq⟩:=Zgn (dg op R.s.flags);rw[hq]at hst HH;refine Z_8 ?_;refine ZSe (fun w hi=>HH w) ?_;refine jW ?_;refine ZW ?_ ?_<;>intro hc4
 ·obtain rfl:g=true:=hc4;refine Z_6 ?_;refine ZL ?_;refine eo ?_;refine Zrb ([row _ _ _,slv _ _ _ _ _ _,slv _ _ _ _ _ _]) ?_;rw[hst];exact⟨⟨_,_,_,_⟩,rfl,rfl⟩
 obtain rfl:g=false:=hc4;refine eo ?_;refine Zrb ([row _ _ _,slv _ _ _ _ _ _,slv _ _ _ _ _ _]) ?_;rw[hst];exact⟨⟨_,_,_,_⟩,rfl,rfl⟩
end Go.Proofs.YtomjgmbccamgiaaGreatDoor
namespace Go.Ink
open Go.RowKit
theorem bN{α:Type}(p:α→Prop){c:Bool}{x y:α}(hx:p x)(hy:p y):p (bif c then x else y):=by cases c<;>assumption
def ET(q:(Nat×Nat)×(Nat×Nat)):Prop:=q.1.1≤3∧q.1.2≤3∧q.2.1≤3∧q.2.2≤3
theorem F8(op:Int):ET (bV op):=by
 unfold bV
 repeat (refine bN ET ⟨by decide,by decide,by decide,by decide⟩ ?_)
 exact⟨by decide,by decide,by decide,by decide⟩
def j7(s:St)(q:(Nat×Nat)×(Nat×Nat)):Int:=
 bif decide ((s.d.length:Int)<(q.1.1:Int))||decide ((s.r.length:Int)<(q.2.1:Int))then 3 else
 bif decide (16<(s.d.length:Int) - (q.1.1:Int)+(q.1.2:Int))||decide (16<(s.r.length:Int) - (q.2.1:Int)+(q.2.2:Int))then 4 else 0
def gg(s:St)(op n:Int):Int:=
 bif !gX op n then 1 else bif rz op&& !s.Il then 2 else bif op==66&& !(s.get n).2 then 1 else bif op==67&& !(s.set n 0).2 then 1 else j7 s (bV op)
end Go.Ink
namespace Go.Proofs.YtomjgmbccamgiaaGreatDoor
open Go.RowKit Go.Ink Go.Proofs.Tryz
attribute [local irreducible] OpY bW
theorem G6(s:St)(Ad Ar:Option Addr)(cd cr:Nat)(op n:Int)(hu:u32 n)(w:World)(h:mR w s Ad Ar cd cr):
  Ctr prog 127 [sv s Ad cd Ar cr,.agg #[.int .i64 op,.int .u32 n]] w [] (fun v cs=>v= .int .i64 (gg s op n)∧cs=[]):=by
 have hu1:=hu.1;have hu2:=hu.2;have hD:=h.hd;have hR:=h.hr;have HR:=wI op n;have HS:=DQ op;have HN:=F7 op;have HG:=HY s (.slice Ad s.d.length cd) (.slice Ar s.r.length cr) n;have HE:=Hr s Ad Ar cd cr n 0;obtain⟨q1,hq1⟩:=Zgn (gX op n);obtain⟨q2,hq2⟩:=Zgn (rz op);obtain⟨⟨g0,g⟩,hq3⟩:=Zgn (s.get n);obtain⟨⟨e0,e⟩,hq4⟩:=Zgn (s.set n 0);have hle:=F8 op;unfold gg;rw[hq1]at HR⊢;rw[hq2]at HS⊢;rw[hq3]at HG⊢;rw[hq4]at HE⊢;obtain⟨⟨⟨a,b⟩,⟨c,d⟩⟩,hq5⟩:=Zgn (bV op);rw[hq5]at HN hle⊢;obtain⟨ha,hb,hc,hd⟩:=hle;have ha:a≤3:=ha;have hb:b≤3:=hb;have hc:c≤3:=hc;have hd:d≤3:=hd;refine bL func127 rfl ntmps127 rfl (Inv.start w) ?_;refine Z_2 ?_;refine ZO fun b2=>?_;refine ZO fun b3=>?_
 refine Z_8 ?_;refine ZSe (fun w hi=>HR w) ?_;refine Z_4 ?_;refine ZW ?_ ?_<;>intro hc1
 ·refine Z_8 ?_;refine Zra ?_;refine⟨?_,rfl⟩;simp only[j7, *,ac,aa]
 refine Z_4 ?_;refine ZSe (fun w hi=>HS w) ?_;refine Z_8 ?_;refine ZW ?_ ?_<;>intro hc3
 ·refine Z_8 ?_;refine Zra ?_;refine⟨?_,rfl⟩;simp only[j7, *,ac,aa]
 refine Z_9 ?_;refine Zy (cu rfl rfl Zv0 Zl) ?_;refine ZSe (fun w hi=>HG w) ?_;refine xk ?_;refine ZW ?_ ?_<;>intro hc6
 ·refine Z_7 ?_;refine Zra ?_;refine⟨?_,rfl⟩;simp only[j7, *,ac,aa]
 refine Z_8 ?_;refine Zy (cu rfl rfl Zv0 Zl) ?_;refine ZS (fun w hi=>HE w (h.IB hi)) ?_;rintro _ _ ⟨_,⟨A1,c1,A2,c2,rfl,rfl⟩,rfl⟩;refine Z_3 ?_;refine ZN fun b7=>?_
 refine ZM ?_;refine ic ?_;refine ZW ?_ ?_<;>intro hc9
 ·refine Z_7 ?_;refine Zra ?_;refine⟨?_,rfl⟩;simp only[j7, *,ac,aa]
 refine Z_6 ?_;refine ZSe (fun w hi=>HN w) ?_;refine ln ?_;refine eK ?_;refine ZW ?_ ?_<;>intro hc12
 ·refine Z_8 ?_;refine Zra ?_;refine⟨?_,rfl⟩;simp only[j7, *,ac,aa]
 refine Z_6 ?_;refine Zy (eP Zv0 Zv0 Zl) ?_;refine ZA ?_;refine Zy (cF Zv0 Zv0 Zl) ?_;refine Z_6 ?_;refine Zyn rfl rfl (eP (dc rfl) (dc rfl) Zl) ?_;refine ZB ?_;refine Zyn rfl rfl (cF (dc rfl) (dc rfl) Zl) ?_;refine Z_5 ?_;refine ZW ?_ ?_<;>intro hc14
 ·refine Z_8 ?_;refine Zra ?_;refine⟨?_,rfl⟩;simp only[j7, *,ac,aa]
 refine Z_9 ?_;refine Zra ?_;refine⟨?_,rfl⟩;simp only[j7, *,ac,aa]
end Go.Proofs.YtomjgmbccamgiaaGreatDoor
namespace Go.Ink
open Go.RowKit
def Run.sp(R:Run):Sp:=⟨R.s.It,R.s.Il,R.s.root.toNat⟩
abbrev Run.wdv(R:Run)(t:Tr)(b:Bool):Run:=⟨R.s,R.count,t,b⟩
structure yv where
 p:Int
 ok:Bool
 r:Run
 u:Mmu
def cS(n:Nat)(R:Run)(U:Mmu)(va:Nat)(kind:Int):yv:=
 bif((va%4:Nat):Int) !=0 then⟨0,false,R.wt ⟨6,va⟩,U⟩else
 ⟨(cW n U R.sp va kind).1.1,(cW n U R.sp va kind).1.2.Im==0,R.wdv (cW n U R.sp va kind).1.2 ((cW n U R.sp va kind).1.2.Im==0&&decide (32768≤(cW n U R.sp va kind).1.1)),(cW n U R.sp va kind).2⟩
end Go.Ink
namespace Go.Proofs.YtomjgmbccamgiaaGreatDoor
open Go.RowKit Go.Ink Go.Proofs.Tryz
attribute [local irreducible] OpY bW
theorem qY(K:BG)(X:iv)(R:Run)(hr:0≤R.s.root)(w:World)(h:(q9 K X R).ok w):
  Ctr prog 222 [.pointer (some ⟨K.br,0,none⟩)] w [] (fun v cs=>v=R.sp.v∧cs=[]):=
 (FA K X R w h).mono fun v cs ⟨h1,h2⟩=>⟨by rw[h1,Run.sp,Sp.v,Int.toNat_of_nonneg hr],h2⟩
abbrev iC(K:BG)(X:iv)(R:Run):List Value:=[.int .u32 R.s.pc,.slice X.Ad R.s.d.length X.cd,.slice X.Ar R.s.r.length X.cr,.int .u32 R.s.flags,.bool R.s.Il,.bool R.s.It,.bool R.s.ie,.int .u32 R.s.root,.int .u32 R.s.vec,.int .u32 R.s.epc,.int .u32 R.s.Im,.int .u32 R.s.addr,.bool R.s.Ix,.bool R.s.eie,.int .u64 R.s.count,.bool R.s.halted,.int .u64 R.count,.pointer K.u,.pointer K.b,.int .i64 R.Iv.Im,.int .u32 R.Iv.addr,.bool R.device]
abbrev kOf(br bu:Nat)(D:p6):BG:=⟨br,some ⟨bu,0,none⟩,some ⟨D.bs,0,none⟩⟩
theorem yF(br bu bb:Nat)(L:gQ)(D:p6)(X:iv)(R:Run)(U:Mmu)(hT:U.t.length=16)(hroot:u32 R.s.root)(va:Nat)(hva:va≤4294967295)(kind:Int)(w:World)(hi:Inv w (bK (JF (kOf br bu D) X R++uF bu bb L U)) (JF (kOf br bu D) X R++uF bu bb L U) w):
  Ctr prog 217 [.pointer (some ⟨br,0,none⟩),.int .u32 va,.int .i64 kind] w (JF (kOf br bu D) X R++uF bu bb L U)
   (fun v cs=>v= .tuple #[.int .u32 (cS L.n R U va kind).p,.bool (cS L.n R U va kind).ok]∧cs=JF (kOf br bu D) X (cS L.n R U va kind).r++uF bu bb L (cS L.n R U va kind).u):=by
 have hr0:=hroot.1;have hr1:=hroot.2;have hsr:R.sp.root≤4294967295:=by show R.s.root.toNat≤_;omega
 have HP:=nG bu bb L U hT R.sp hsr va hva kind;have HS:=qY (kOf br bu D) X R hr0;unfold cS;obtain⟨⟨⟨p,ca,ad⟩,U'⟩,hq⟩:=Zgn (cW L.n U R.sp va kind);rw[hq]at HP⊢;obtain⟨S,hS⟩:=Zgn (R.sp);rw[hS]at HP HS;refine bL func217 rfl ntmps217 rfl hi ?_;refine eo ?_;refine Zy (gt (Zv rfl) (Zv rfl) (by omega) (show _=((va%4:Nat):Int)from by rw[aD (by omega)];omega)) ?_;refine Z_4 ?_;refine ZW ?_ ?_<;>intro hc1
 ·refine Z_4 ?_;refine ZcM (JF (kOf br bu D) X R) (fun w hi hin=>nj (kOf br bu D) X R 6 va w hin) ?_;refine eo ?_;refine bQ (JF (kOf br bu D) X (R.wt ⟨6,va⟩)++uF bu bb L U) Zj ?_;refine fw (cs':=[row _ _ _,slv _ _ _ _ _ _,slv _ _ _ _ _ _,row _ _ _,exC _ _ _ _,row _ _ _]) (.inl rfl) Zu rfl rfl rfl ?_;rw[hc1];exact⟨rfl,rfl⟩
 refine vo ?_;refine ZW ?_ ?_<;>intro hc4
 ·exact absurd hc4 (by simp)
 refine Z_4 ?_;refine cj ⟨fun j=>List.elem j [8,14],[]⟩ Zk ?_;refine ZE 0 ?_;refine ZE 1 ?_;refine ZFe 2 17 ?_;refine ZG 3 ?_;refine ZE 4 ?_;refine ZE 6 ?_;refine ZE 7 ?_;refine j4 5 12 Zk ?_ ?_
 ·refine ZT (fun w hi=>HS w (hi.get Zh)) ?_;rintro _ _ ⟨_,⟨rfl,rfl⟩,rfl⟩;refine j4 8 12 Zk ?_ ?_
  ·refine ZcA (uF bu bb L U) (fun w hi hin=>HP w hin) ?_;rintro _ _ ⟨_,⟨rfl,rfl⟩,rfl⟩;refine ZE 9 ?_;refine ZE 10 ?_;refine ZE 11 ?_;refine cE 12 Zk ?_;refine ZP fun b9=>?_
   refine ZE 13 ?_;refine cE 14 Zk ?_;refine ZR ?_;refine bO Zk ?_;refine Z_7 ?_;refine dz (dK (ys:=iC (kOf br bu D) X (R.wt ⟨ca,ad⟩)) (n:=2) (vs:=[.int .i64 ca,.int .u32 ad]) rfl Zrf rfl rfl (iK rfl) Za rfl (by simp only[ai,ao];omega)) ?_;rintro _ _ ⟨rfl,rfl⟩;refine ic ?_;refine ZL ?_;refine Z_3 ?_;refine cj ⟨fun j=>List.elem j [],[]⟩ Zk ?_;refine ZE 0 ?_;refine ZFe 1 0 ?_;refine ZG 2 ?_;refine ZE 3 ?_;refine ZE 4 ?_;refine ZE 5 ?_;refine bO Zk ?_;refine Z_2 ?_;refine bQ (JF (kOf br bu D) X (R.wdv ⟨ca,ad⟩ (ca==0&&decide (32768≤p)))++uF bu bb L U') Zj ?_;refine fw (cs':=[row _ _ _,slv _ _ _ _ _ _,slv _ _ _ _ _ _,row _ _ _,exC _ _ _ _,row _ _ _]) (.inl rfl) Zu rfl rfl rfl ?_;rw[hc1];exact⟨rfl,rfl⟩
  refine ZP fun b9=>?_
  refine cE 8 Zk ?_;refine ZcA (uF bu bb L U) (fun w hi hin=>HP w hin) ?_;rintro _ _ ⟨_,⟨rfl,rfl⟩,rfl⟩;refine ZE 9 ?_;refine ZE 10 ?_;refine ZE 11 ?_;refine ZE 13 ?_;refine cE 14 Zk ?_;refine ZR ?_;refine bO Zk ?_;refine Z_7 ?_;refine dz (dK (ys:=iC (kOf br bu D) X (R.wt ⟨ca,ad⟩)) (n:=2) (vs:=[.int .i64 ca,.int .u32 ad]) rfl Zrf rfl rfl (iK rfl) Za rfl (by simp only[ai,ao];omega)) ?_;rintro _ _ ⟨rfl,rfl⟩;refine ic ?_;refine ZL ?_;refine Z_3 ?_;refine cj ⟨fun j=>List.elem j [],[]⟩ Zk ?_;refine ZE 0 ?_;refine ZFe 1 0 ?_;refine ZG 2 ?_;refine ZE 3 ?_;refine ZE 4 ?_;refine ZE 5 ?_;refine bO Zk ?_;refine Z_2 ?_;refine bQ (JF (kOf br bu D) X (R.wdv ⟨ca,ad⟩ (ca==0&&decide (32768≤p)))++uF bu bb L U') Zj ?_;refine fw (cs':=[row _ _ _,slv _ _ _ _ _ _,slv _ _ _ _ _ _,row _ _ _,exC _ _ _ _,row _ _ _]) (.inl rfl) Zu rfl rfl rfl ?_;rw[hc1];exact⟨rfl,rfl⟩
 refine ZP fun b9=>?_
 refine cE 5 Zk ?_;refine ZT (fun w hi=>HS w (hi.get Zh)) ?_;rintro _ _ ⟨_,⟨rfl,rfl⟩,rfl⟩;refine cE 8 Zk ?_;refine ZcA (uF bu bb L U) (fun w hi hin=>HP w hin) ?_;rintro _ _ ⟨_,⟨rfl,rfl⟩,rfl⟩;refine ZE 9 ?_;refine ZE 10 ?_;refine ZE 11 ?_;refine ZE 13 ?_;refine cE 14 Zk ?_;refine ZR ?_;refine bO Zk ?_;refine Z_7 ?_;refine dz (dK (ys:=iC (kOf br bu D) X (R.wt ⟨ca,ad⟩)) (n:=2) (vs:=[.int .i64 ca,.int .u32 ad]) rfl Zrf rfl rfl (iK rfl) Za rfl (by simp only[ai,ao];omega)) ?_;rintro _ _ ⟨rfl,rfl⟩;refine ic ?_;refine ZL ?_;refine Z_3 ?_;refine cj ⟨fun j=>List.elem j [],[]⟩ Zk ?_;refine ZE 0 ?_;refine ZFe 1 0 ?_;refine ZG 2 ?_;refine ZE 3 ?_;refine ZE 4 ?_;refine ZE 5 ?_;refine bO Zk ?_;refine Z_2 ?_;refine bQ (JF (kOf br bu D) X (R.wdv ⟨ca,ad⟩ (ca==0&&decide (32768≤p)))++uF bu bb L U') Zj ?_;refine fw (cs':=[row _ _ _,slv _ _ _ _ _ _,slv _ _ _ _ _ _,row _ _ _,exC _ _ _ _,row _ _ _]) (.inl rfl) Zu rfl rfl rfl ?_;rw[hc1];exact⟨rfl,rfl⟩
end Go.Proofs.YtomjgmbccamgiaaGreatDoor
namespace Go.Ink
open Go.RowKit
theorem qP(n:Nat)(R:Run)(U:Mmu)(va:Nat)(kind:Int):(cS n R U va kind).r.s=R.s:=by unfold cS;exact bN (fun W:yv=>W.r.s=R.s) rfl rfl
theorem vv(n:Nat)(R:Run)(U:Mmu)(va:Nat)(hva:va≤4294967295)(kind:Int):u32 (cS n R U va kind).p:=by unfold cS;exact bN (fun W:yv=>u32 W.p) (show u32 0 from⟨by decide,by decide⟩) (je n U R.sp va hva kind).1
theorem z6(n:Nat)(hn:n≤64)(R:Run)(U:Mmu)(va:Nat)(hva:va≤4294967295)(kind:Int)(hk:(cS n R U va kind).ok=true)(hd:(cS n R U va kind).r.device=false):(cS n R U va kind).p.toNat+4≤n*64:=by
 obtain⟨hu,hp⟩:=je n U R.sp va hva kind;unfold cS at hk hd⊢;cases hm:(((va%4:Nat):Int) !=0)with
 |true=>rw[hm]at hk;cases hk
 |false=>
  rw[hm]at hk hd;simp only[aa]at hk hd⊢;rw[hk]at hd;simp only[Bool.true_and,aj]at hd;have hc:=hp (by simpa using hk);have h4:va%4=0:=by
   have:((va%4:Nat):Int)=0:=by simpa using hm
   omega
  have h1:=hc.m;have h2:=hu.1;rcases hc.r with h3|h3
  ·omega
  simp only[qf,aB,ap]at h3;omega
theorem sk{α:Type}{c:Bool}{x y:α}(h:c=true):(bif c then x else y)=x:=by rw[h];rfl
theorem kH{α:Type}{c:Bool}{x y:α}(h:c=false):(bif c then x else y)=y:=by rw[h];rfl
def qN(n:Nat)(M:Mem)(a:Nat):Int×Bool:=bif decide (a+4≤n*64)then(qO M.data a,true)else(0,false)
structure iu where
 r:Run
 u:Mmu
 d:Dev
def pT(W:yv)(d:Dev)(va:Nat)(v:Int)(o:Bool):iu:=⟨(bif !o then W.r.wt ⟨10,va⟩else W.r).push [v],W.u,d⟩
def lm(n:Nat)(R:Run)(U:Mmu)(d:Dev)(va:Nat):iu:=
 bif !(cS n R U va 2).ok then⟨(cS n R U va 2).r,(cS n R U va 2).u,d⟩else
 bif(cS n R U va 2).r.device then pT (cS n R U va 2) (dx d (sQ (cS n R U va 2).p.toNat) (cS n R U va 2).r.count).2 va (dx d (sQ (cS n R U va 2).p.toNat) (cS n R U va 2).r.count).1.1 (dx d (sQ (cS n R U va 2).p.toNat) (cS n R U va 2).r.count).1.2
 else pT (cS n R U va 2) d va (qN n (cS n R U va 2).u.m (cS n R U va 2).p.toNat).1 (qN n (cS n R U va 2).u.m (cS n R U va 2).p.toNat).2
def lj(n:Nat)(R:Run)(U:Mmu)(d:Dev)(va v:Nat):iu:=
 bif !(cS n R U va 3).ok then⟨(cS n R U va 3).r,(cS n R U va 3).u,d⟩else
 bif(cS n R U va 3).r.device then
  ⟨bif !(cZ n (cS n R U va 3).u.m d (sQ (cS n R U va 3).p.toNat) v).1 then(cS n R U va 3).r.wt ⟨10,va⟩else(cS n R U va 3).r,⟨(cZ n (cS n R U va 3).u.m d (sQ (cS n R U va 3).p.toNat) v).2.1,(cS n R U va 3).u.t⟩,(cZ n (cS n R U va 3).u.m d (sQ (cS n R U va 3).p.toNat) v).2.2⟩
 else⟨(cS n R U va 3).r,⟨(cS n R U va 3).u.m.IU (cS n R U va 3).p.toNat v,(cS n R U va 3).u.t⟩,d⟩
end Go.Ink
namespace Go.Proofs.YtomjgmbccamgiaaGreatDoor
open Go.RowKit Go.Ink Go.Proofs.Tryz
attribute [local irreducible] OpY bW
theorem E8(L:gQ)(M:Mem)(a:Nat):xo L M a= .tuple #[.int .u32 (qN L.n M a).1,.bool (qN L.n M a).2]:=by
 unfold xo qN;cases decide (a+4≤L.n*64)<;>rfl
abbrev kN(br bu bb:Nat)(L:gQ)(D:p6)(X:iv)(Y:j0)(m:iu):List bJ:=JF (kOf br bu D) X m.r++uF bu bb L m.u++mO D L.bm Y m.d
theorem lode_ok(br bu bb:Nat)(L:gQ)(D:p6)(X:iv)(Y:j0)(R:Run)(U:Mmu)(d:Dev)(l:List Int)(va:Nat)(hva:va≤4294967295)(hl:l.length≤100000)(hT:U.t.length=16)(hroot:u32 R.s.root)(hd:d.wf)
  (w:World) (hi:Inv w (bK (kN br bu bb L D X Y ⟨R.wd (l++[(va:Int)]),U,d⟩)) (kN br bu bb L D X Y ⟨R.wd (l++[(va:Int)]),U,d⟩) w):
  Ctr prog 174 [.pointer (some ⟨br,0,none⟩)] w (kN br bu bb L D X Y ⟨R.wd (l++[(va:Int)]),U,d⟩) (fun v cs=>∃X' Y',v= .tuple #[]∧cs=kN br bu bb L D X' Y' (lm L.n (R.wd l) U d va)):=by
 have HW:=fun X=>yF br bu bb L D X (R.wd l) U hT hroot va hva 2
 have hs:=qP L.n (R.wd l) U va 2;have hu:=vv L.n (R.wd l) U va hva 2;unfold lm;obtain⟨⟨p,ok,r,u⟩,hq⟩:=Zgn (cS L.n (R.wd l) U va 2);rw[hq]at HW hs hu⊢;obtain⟨pn,rfl⟩:∃pn:Nat,p=pn:=ar hu.1;have hpn:pn≤4294967295:=by have:(pn:Int)≤_:=hu.2;omega
 have hs:r.s=(R.wd l).s:=hs;have hdl:r.s.d.length≤100000:=by rw[hs];exact hl
 simp only[aS];have HB:=fun X=>Bt D L.bm X d hd pn r.count
 obtain⟨⟨⟨v,o⟩,d'⟩,hq2⟩:=Zgn (dx d (sQ pn) r.count);rw[hq2]at HB⊢;have HM:=uq L u.m pn hpn;rw[E8]at HM;obtain⟨⟨v2,o2⟩,hq3⟩:=Zgn (qN L.n u.m pn);rw[hq3]at HM⊢;refine bL func174 rfl ntmps174 rfl hi ?_;refine Z_3 ?_;refine ZcM (JF (kOf br bu D) X (R.wd (l++[(va:Int)]))) (fun w hi hin=>ia (kOf br bu D) X R l va w hin) ?_;refine Z_7 ?_;refine ZcM (JF (kOf br bu D) X (R.wd l)++uF bu bb L U) (fun w hi hin=>HW X w hin) ?_;refine ic ?_;refine ZW ?_ ?_<;>intro hc2
 ·refine Z_2 ?_;refine bQ (kN br bu bb L D X Y ⟨r,u,d⟩) Zj ?_;refine fL (cs':=[row _ _ _,slv _ _ _ _ _ _,slv _ _ _ _ _ _,row _ _ _,exC _ _ _ _,row _ _ _,row _ _ _,row _ _ _,row _ _ _,row _ _ _,slv _ _ _ _ _ _,slv _ _ _ _ _ _,row _ _ _,slv _ _ _ _ _ _]) (.inl rfl) Zu rfl ?_;rw[hc2];exact⟨X,Y,rfl,rfl⟩
 refine p5 ?_;refine ZW ?_ ?_<;>intro hc4
 ·refine cj ⟨fun j=>List.elem j [9],[]⟩ Zk ?_;refine ZE 0 ?_;refine ZE 1 ?_;refine ZFe 2 18 ?_;refine ZG 3 ?_;refine ZE 4 ?_;refine ZE 5 ?_;refine ZE 6 ?_;refine ZFe 7 16 ?_;refine ZG 8 ?_;refine cE 9 Zk ?_;refine ZcA (mO D L.bm Y d) (fun w hi hin=>HB Y w hin) ?_;rintro _ _ ⟨_,⟨Y',rfl,rfl⟩,rfl⟩;refine ZE 10 ?_;refine ZE 11 ?_;refine ZE 12 ?_;refine ZE 13 ?_;refine ZE 14 ?_;refine bO Zk ?_;refine Z_8 ?_;refine ZW ?_ ?_<;>intro hc7
  ·refine Z_3 ?_;refine ZcM (JF (kOf br bu D) X r) (fun w hi hin=>nj (kOf br bu D) X r 10 va w hin) ?_;refine Z_5 ?_;refine dM (cm rfl rfl Zrf Zrf rfl rfl) rfl ?_;rintro _ _ ⟨b50,rfl,rfl⟩;refine ZcL (JF (kOf br bu D) X (r.wt ⟨10,va⟩)) (fun w hi hin=>gW (kOf br bu D) X (r.wt ⟨10,va⟩) _ 1 1 [v] (show r.s.d.length+1≤1000000 by omega) w hin (fun w' hk=>hi.Jb Zi Zh hk)) ?_;rintro _ _ ⟨_,⟨A',c',rfl,rfl⟩,rfl⟩;refine Zn (bQ (kN br bu bb L D ⟨A',c',X.Ar,X.cr⟩ Y' ⟨(r.wt ⟨10,va⟩).wd (r.s.d++[v]),u,d'⟩) Zj ?_);refine fL (cs':=[row _ _ _,slv _ _ _ _ _ _,slv _ _ _ _ _ _,row _ _ _,exC _ _ _ _,row _ _ _,row _ _ _,row _ _ _,row _ _ _,row _ _ _,slv _ _ _ _ _ _,slv _ _ _ _ _ _,row _ _ _,slv _ _ _ _ _ _]) (.inr rfl) Zu rfl ?_;rw[kH hc2,sk hc4,pT,sk hc7];exact⟨⟨A',c',X.Ar,X.cr⟩,Y',rfl,rfl⟩
  refine Z_5 ?_;refine dM (cm rfl rfl Zrf Zrf rfl rfl) rfl ?_;rintro _ _ ⟨b50,rfl,rfl⟩;refine ZcL (JF (kOf br bu D) X r) (fun w hi hin=>gW (kOf br bu D) X r _ 1 1 [v] (show r.s.d.length+1≤1000000 by omega) w hin (fun w' hk=>hi.Jb Zi Zh hk)) ?_;rintro _ _ ⟨_,⟨A',c',rfl,rfl⟩,rfl⟩;refine Zn (bQ (kN br bu bb L D ⟨A',c',X.Ar,X.cr⟩ Y' ⟨r.wd (r.s.d++[v]),u,d'⟩) Zj ?_);refine fL (cs':=[row _ _ _,slv _ _ _ _ _ _,slv _ _ _ _ _ _,row _ _ _,exC _ _ _ _,row _ _ _,row _ _ _,row _ _ _,row _ _ _,row _ _ _,slv _ _ _ _ _ _,slv _ _ _ _ _ _,row _ _ _,slv _ _ _ _ _ _]) (.inr rfl) Zu rfl ?_;rw[kH hc2,sk hc4,pT,kH hc7];exact⟨⟨A',c',X.Ar,X.cr⟩,Y',rfl,rfl⟩
 refine Z_5 ?_;refine ZSe (fun w hi=>kR bu L.bm bb w (hi.get Zh)) ?_;refine ZA ?_;refine ZSe (fun w hi=>HM w (hi.get Zh)) ?_;refine ic ?_;refine ZW ?_ ?_<;>intro hc7
 ·refine Z_3 ?_;refine ZcM (JF (kOf br bu D) X r) (fun w hi hin=>nj (kOf br bu D) X r 10 va w hin) ?_;refine Z_5 ?_;refine dM (cm rfl rfl Zrf Zrf rfl rfl) rfl ?_;rintro _ _ ⟨b50,rfl,rfl⟩;refine ZcL (JF (kOf br bu D) X (r.wt ⟨10,va⟩)) (fun w hi hin=>gW (kOf br bu D) X (r.wt ⟨10,va⟩) _ 1 1 [v2] (show r.s.d.length+1≤1000000 by omega) w hin (fun w' hk=>hi.Jb Zi Zh hk)) ?_;rintro _ _ ⟨_,⟨A',c',rfl,rfl⟩,rfl⟩;refine Zn (bQ (kN br bu bb L D ⟨A',c',X.Ar,X.cr⟩ Y ⟨(r.wt ⟨10,va⟩).wd (r.s.d++[v2]),u,d⟩) Zj ?_);refine fL (cs':=[row _ _ _,slv _ _ _ _ _ _,slv _ _ _ _ _ _,row _ _ _,exC _ _ _ _,row _ _ _,row _ _ _,row _ _ _,row _ _ _,row _ _ _,slv _ _ _ _ _ _,slv _ _ _ _ _ _,row _ _ _,slv _ _ _ _ _ _]) (.inr rfl) Zu rfl ?_;rw[kH hc2,kH hc4,pT,sk hc7];exact⟨⟨A',c',X.Ar,X.cr⟩,Y,rfl,rfl⟩
 refine Z_5 ?_;refine dM (cm rfl rfl Zrf Zrf rfl rfl) rfl ?_;rintro _ _ ⟨b50,rfl,rfl⟩;refine ZcL (JF (kOf br bu D) X r) (fun w hi hin=>gW (kOf br bu D) X r _ 1 1 [v2] (show r.s.d.length+1≤1000000 by omega) w hin (fun w' hk=>hi.Jb Zi Zh hk)) ?_;rintro _ _ ⟨_,⟨A',c',rfl,rfl⟩,rfl⟩;refine Zn (bQ (kN br bu bb L D ⟨A',c',X.Ar,X.cr⟩ Y ⟨r.wd (r.s.d++[v2]),u,d⟩) Zj ?_);refine fL (cs':=[row _ _ _,slv _ _ _ _ _ _,slv _ _ _ _ _ _,row _ _ _,exC _ _ _ _,row _ _ _,row _ _ _,row _ _ _,row _ _ _,row _ _ _,slv _ _ _ _ _ _,slv _ _ _ _ _ _,row _ _ _,slv _ _ _ _ _ _]) (.inr rfl) Zu rfl ?_;rw[kH hc2,kH hc4,pT,kH hc7];exact⟨⟨A',c',X.Ar,X.cr⟩,Y,rfl,rfl⟩
theorem stow_ok(br bu bb:Nat)(L:gQ)(D:p6)(X:iv)(Y:j0)(R:Run)(U:Mmu)(d:Dev)(l:List Int)(va v:Nat)(hva:va≤4294967295)(hv:v≤4294967295)(hT:U.t.length=16)(hroot:u32 R.s.root)(hd:d.wf)(ho:d.out.length≤1000000000)
  (w:World) (hi:Inv w (bK (kN br bu bb L D X Y ⟨R.wd ((l++[(v:Int)])++[(va:Int)]),U,d⟩)) (kN br bu bb L D X Y ⟨R.wd ((l++[(v:Int)])++[(va:Int)]),U,d⟩) w):
  Ctr prog 175 [.pointer (some ⟨br,0,none⟩)] w (kN br bu bb L D X Y ⟨R.wd ((l++[(v:Int)])++[(va:Int)]),U,d⟩) (fun x cs=>∃Y',x= .tuple #[]∧cs=kN br bu bb L D X Y' (lj L.n (R.wd l) U d va v)):=by
 have HW:=yF br bu bb L D X (R.wd l) U hT hroot va hva 3;have hu:=vv L.n (R.wd l) U va hva 3;obtain⟨n1,n64,_⟩:=lr (hi.ok (eH L U.m) (by simp));have hin4:=z6 L.n n64 (R.wd l) U va hva 3;unfold lj;obtain⟨⟨p,ok,r,u⟩,hq⟩:=Zgn (cS L.n (R.wd l) U va 3);rw[hq]at HW hu hin4⊢;obtain⟨pn,rfl⟩:∃pn:Nat,p=pn:=ar hu.1;have hpn:pn≤4294967295:=by have:(pn:Int)≤_:=hu.2;omega
 obtain⟨um,ut⟩:=u;simp only[aS]at hin4⊢;have HB:=yt D L um Y d hd ho pn v r.count;obtain⟨⟨o,M',d'⟩,hq2⟩:=Zgn (cZ L.n um d (sQ pn) v);rw[hq2]at HB⊢;have HM:=fun h=>m7 L um pn v h ⟨by omega,by omega⟩
 obtain⟨M2,hq3⟩:=Zgn (um.IU pn v);rw[hq3]at HM⊢;obtain⟨tt,htt⟩:∃t:Bool,t=true:=⟨_,rfl⟩;rw[←htt]at HM;refine bL func175 rfl ntmps175 rfl hi ?_;refine Z_3 ?_;refine dM (dR (JF (kOf br bu D) X (R.wd ((l++[(v:Int)])++[(va:Int)]))) rfl (fun _ _=>rfl) Zi (fun w hi hin=>ia (kOf br bu D) X R (l++[(v:Int)]) va w hin)) rfl ?_;rintro _ _ ⟨_,⟨rfl,rfl⟩,rfl⟩;refine Z_6 ?_;refine ZcM (JF (kOf br bu D) X (R.wd (l++[(v:Int)]))) (fun w hi hin=>ia (kOf br bu D) X R l v w hin) ?_;refine Z_7 ?_;refine ZcM (JF (kOf br bu D) X (R.wd l)++uF bu bb L U) (fun w hi hin=>HW w hin) ?_;refine ic ?_;refine ZW ?_ ?_<;>intro hc3
 ·refine Z_2 ?_;refine bQ (kN br bu bb L D X Y ⟨r,⟨um,ut⟩,d⟩) Zj ?_;refine fL (cs':=[row _ _ _,slv _ _ _ _ _ _,slv _ _ _ _ _ _,row _ _ _,exC _ _ _ _,row _ _ _,row _ _ _,row _ _ _,row _ _ _,row _ _ _,slv _ _ _ _ _ _,slv _ _ _ _ _ _,row _ _ _,slv _ _ _ _ _ _]) (.inl rfl) Zu rfl ?_;rw[hc3];exact⟨Y,rfl,rfl⟩
 have hok:ok=true:=(by simpa using hc3);refine eo ?_;refine ZW ?_ ?_<;>intro hc4
 ·refine cj ⟨fun j=>List.elem j [10],[]⟩ Zk ?_;refine ZE 0 ?_;refine ZE 1 ?_;refine ZFe 2 18 ?_;refine ZG 3 ?_;refine ZE 4 ?_;refine ZE 5 ?_;refine ZE 6 ?_;refine ZE 7 ?_;refine ZFe 8 16 ?_;refine ZG 9 ?_;refine cE 10 Zk ?_;refine ZcA (mO D L.bm Y d++[eH L um]) (fun w hi hin=>HB w hin) ?_;rintro _ _ ⟨_,⟨Y',rfl,rfl⟩,rfl⟩;refine ZE 11 ?_;refine bO Zk ?_;refine Z_7 ?_;refine ZW ?_ ?_<;>intro hc7
  ·refine Z_3 ?_;refine ZcM (JF (kOf br bu D) X r) (fun w hi hin=>nj (kOf br bu D) X r 10 va w hin) ?_;refine Zn (bQ (kN br bu bb L D X Y' ⟨r.wt ⟨10,va⟩,⟨M',ut⟩,d'⟩) Zj ?_);refine fL (cs':=[row _ _ _,slv _ _ _ _ _ _,slv _ _ _ _ _ _,row _ _ _,exC _ _ _ _,row _ _ _,row _ _ _,row _ _ _,row _ _ _,row _ _ _,slv _ _ _ _ _ _,slv _ _ _ _ _ _,row _ _ _,slv _ _ _ _ _ _]) (.inr rfl) Zu rfl ?_;rw[kH hc3,sk hc4,sk hc7];exact⟨Y',rfl,rfl⟩
  refine Zc (bQ (kN br bu bb L D X Y' ⟨r,⟨M',ut⟩,d'⟩) Zj ?_);refine fL (cs':=[row _ _ _,slv _ _ _ _ _ _,slv _ _ _ _ _ _,row _ _ _,exC _ _ _ _,row _ _ _,row _ _ _,row _ _ _,row _ _ _,row _ _ _,slv _ _ _ _ _ _,slv _ _ _ _ _ _,row _ _ _,slv _ _ _ _ _ _]) (.inr rfl) Zu rfl ?_;rw[kH hc3,sk hc4,kH hc7];exact⟨Y',rfl,rfl⟩
 have HM:=HM (hin4 hok hc4);refine Z_5 ?_;refine ZSe (fun w hi=>kR bu L.bm bb w (hi.get Zh)) ?_;refine Z_2 ?_;refine ZcM ([eH L um]) (fun w hi hin=>HM w hin) ?_;refine Z_9 ?_;refine ZW ?_ ?_<;>intro hc7
 ·refine Z_3 ?_;refine ZcM (JF (kOf br bu D) X r) (fun w hi hin=>nj (kOf br bu D) X r 10 va w hin) ?_;refine Zn (bQ (kN br bu bb L D X Y ⟨r.wt ⟨10,va⟩,⟨M2,ut⟩,d⟩) Zj ?_);refine fL (cs':=[row _ _ _,slv _ _ _ _ _ _,slv _ _ _ _ _ _,row _ _ _,exC _ _ _ _,row _ _ _,row _ _ _,row _ _ _,row _ _ _,row _ _ _,slv _ _ _ _ _ _,slv _ _ _ _ _ _,row _ _ _,slv _ _ _ _ _ _]) (.inr rfl) Zu rfl ?_;rw[htt]at hc7;exact absurd hc7 (by simp)
 refine Zc (bQ (kN br bu bb L D X Y ⟨r,⟨M2,ut⟩,d⟩) Zj ?_);refine fL (cs':=[row _ _ _,slv _ _ _ _ _ _,slv _ _ _ _ _ _,row _ _ _,exC _ _ _ _,row _ _ _,row _ _ _,row _ _ _,row _ _ _,row _ _ _,slv _ _ _ _ _ _,slv _ _ _ _ _ _,row _ _ _,slv _ _ _ _ _ _]) (.inr rfl) Zu rfl ?_;rw[kH hc3,kH hc4];exact⟨Y,rfl,rfl⟩
end Go.Proofs.YtomjgmbccamgiaaGreatDoor
namespace Go.Ink
open Go.RowKit
def lL(n:Nat)(R:Run)(U:Mmu)(va k:Nat):Run×Mmu:=((R.wt (nZ n U R.sp va k).1.2).push [(nZ n U R.sp va k).1.1],(nZ n U R.sp va k).2)
def lp(n:Nat)(R:Run)(U:Mmu)(va k:Nat)(v:Int):Run×Mmu:=(R.wt (m4 n U R.sp va k v).1,(m4 n U R.sp va k v).2)
end Go.Ink
namespace Go.Proofs.YtomjgmbccamgiaaGreatDoor
open Go.RowKit Go.Ink Go.Proofs.Tryz
attribute [local irreducible] OpY bW
theorem yP(br bu bb:Nat)(L:gQ)(D:p6)(X:iv)(R:Run)(U:Mmu)(l:List Int)(va k:Nat)(hva:va≤4294967295)(hk1:1≤k)(hk4:k≤4)(hl:l.length≤100000)(hT:U.t.length=16)(hroot:u32 R.s.root)
  (w:World) (hi:Inv w (bK (JF (kOf br bu D) X (R.wd (l++[(va:Int)]))++uF bu bb L U)) (JF (kOf br bu D) X (R.wd (l++[(va:Int)]))++uF bu bb L U) w):
  Ctr prog 176 [.pointer (some ⟨br,0,none⟩),.int .i64 k,.bool false] w (JF (kOf br bu D) X (R.wd (l++[(va:Int)]))++uF bu bb L U)
   (fun x cs=>∃X',x= .tuple #[]∧cs=JF (kOf br bu D) X' (lL L.n (R.wd l) U va k).1++uF bu bb L (lL L.n (R.wd l) U va k).2):=by
 have hr0:=hroot.1;have hr1:=hroot.2;have hsr:(R.wd l).sp.root≤4294967295:=by show R.s.root.toNat≤_;omega
 have HP:=Fg bu bb L U hT (R.wd l).sp hsr va k hva hk1 hk4;have HS:=qY (kOf br bu D) X (R.wd l) hr0;unfold lL;obtain⟨⟨⟨v,ca,ad⟩,U'⟩,hq⟩:=Zgn (nZ L.n U (R.wd l).sp va k);rw[hq]at HP⊢;obtain⟨S,hS⟩:=Zgn ((R.wd l).sp);rw[hS]at HP HS;refine bL func176 rfl ntmps176 rfl hi ?_;refine Z_3 ?_;refine ZcM (JF (kOf br bu D) X (R.wd (l++[(va:Int)]))) (fun w hi hin=>ia (kOf br bu D) X R l va w hin) ?_;refine ln ?_;refine Z_1 ?_;refine ZW ?_ ?_<;>intro hc4
 ·exact absurd hc4 (by simp)
 refine Z_6 ?_;refine ZW ?_ ?_<;>intro hc6
 ·exact absurd hc6 (by simp)
 refine Zs (cj ⟨fun j=>List.elem j [8,14],[]⟩ Zk ?_);refine ZE 0 ?_;refine ZE 1 ?_;refine ZFe 2 17 ?_;refine ZG 3 ?_;refine ZE 4 ?_;refine ZE 6 ?_;refine ZE 7 ?_;refine j4 5 12 Zk ?_ ?_
 ·refine ZT (fun w hi=>HS w (hi.get Zh)) ?_;rintro _ _ ⟨_,⟨rfl,rfl⟩,rfl⟩;refine j4 8 12 Zk ?_ ?_
  ·refine ZcA (uF bu bb L U) (fun w hi hin=>HP w hin) ?_;rintro _ _ ⟨_,⟨rfl,rfl⟩,rfl⟩;refine ZE 9 ?_;refine ZE 10 ?_;refine ZE 11 ?_;refine cE 12 Zk ?_;refine ZP fun b8=>?_
   refine ZE 13 ?_;refine cE 14 Zk ?_;refine ZR ?_;refine bO Zk ?_;refine Z_7 ?_;refine dz (dK (ys:=iC (kOf br bu D) X ((R.wd l).wt ⟨ca,ad⟩)) (n:=2) (vs:=[.int .i64 ca,.int .u32 ad]) rfl Zrf rfl rfl (iK rfl) Za rfl (by simp only[ai,ao];omega)) ?_;rintro _ _ ⟨rfl,rfl⟩;refine Z_5 ?_;refine dM (cm rfl rfl Zrf Zrf rfl rfl) rfl ?_;rintro _ _ ⟨b29,rfl,rfl⟩;refine ZcL (JF (kOf br bu D) X ((R.wd l).wt ⟨ca,ad⟩)) (fun w hi hin=>gW (kOf br bu D) X ((R.wd l).wt ⟨ca,ad⟩) _ 1 1 [v] (show l.length+1≤1000000 by omega) w hin (fun w' hk=>hi.Jb Zi Zh hk)) ?_;rintro _ _ ⟨_,⟨A',c',rfl,rfl⟩,rfl⟩;refine Z_2 ?_;refine bQ (JF (kOf br bu D) ⟨A',c',X.Ar,X.cr⟩ (((R.wd l).wt ⟨ca,ad⟩).wd (l++[v]))++uF bu bb L U') Zj ?_;refine fL (cs':=[row _ _ _,slv _ _ _ _ _ _,slv _ _ _ _ _ _,row _ _ _,exC _ _ _ _,row _ _ _]) (.inr rfl) Zu rfl ?_;exact⟨⟨A',c',X.Ar,X.cr⟩,rfl,rfl⟩
  refine ZP fun b8=>?_
  refine cE 8 Zk ?_;refine ZcA (uF bu bb L U) (fun w hi hin=>HP w hin) ?_;rintro _ _ ⟨_,⟨rfl,rfl⟩,rfl⟩;refine ZE 9 ?_;refine ZE 10 ?_;refine ZE 11 ?_;refine ZE 13 ?_;refine cE 14 Zk ?_;refine ZR ?_;refine bO Zk ?_;refine Z_7 ?_;refine dz (dK (ys:=iC (kOf br bu D) X ((R.wd l).wt ⟨ca,ad⟩)) (n:=2) (vs:=[.int .i64 ca,.int .u32 ad]) rfl Zrf rfl rfl (iK rfl) Za rfl (by simp only[ai,ao];omega)) ?_;rintro _ _ ⟨rfl,rfl⟩;refine Z_5 ?_;refine dM (cm rfl rfl Zrf Zrf rfl rfl) rfl ?_;rintro _ _ ⟨b29,rfl,rfl⟩;refine ZcL (JF (kOf br bu D) X ((R.wd l).wt ⟨ca,ad⟩)) (fun w hi hin=>gW (kOf br bu D) X ((R.wd l).wt ⟨ca,ad⟩) _ 1 1 [v] (show l.length+1≤1000000 by omega) w hin (fun w' hk=>hi.Jb Zi Zh hk)) ?_;rintro _ _ ⟨_,⟨A',c',rfl,rfl⟩,rfl⟩;refine Z_2 ?_;refine bQ (JF (kOf br bu D) ⟨A',c',X.Ar,X.cr⟩ (((R.wd l).wt ⟨ca,ad⟩).wd (l++[v]))++uF bu bb L U') Zj ?_;refine fL (cs':=[row _ _ _,slv _ _ _ _ _ _,slv _ _ _ _ _ _,row _ _ _,exC _ _ _ _,row _ _ _]) (.inr rfl) Zu rfl ?_;exact⟨⟨A',c',X.Ar,X.cr⟩,rfl,rfl⟩
 refine ZP fun b8=>?_
 refine cE 5 Zk ?_;refine ZT (fun w hi=>HS w (hi.get Zh)) ?_;rintro _ _ ⟨_,⟨rfl,rfl⟩,rfl⟩;refine cE 8 Zk ?_;refine ZcA (uF bu bb L U) (fun w hi hin=>HP w hin) ?_;rintro _ _ ⟨_,⟨rfl,rfl⟩,rfl⟩;refine ZE 9 ?_;refine ZE 10 ?_;refine ZE 11 ?_;refine ZE 13 ?_;refine cE 14 Zk ?_;refine ZR ?_;refine bO Zk ?_;refine Z_7 ?_;refine dz (dK (ys:=iC (kOf br bu D) X ((R.wd l).wt ⟨ca,ad⟩)) (n:=2) (vs:=[.int .i64 ca,.int .u32 ad]) rfl Zrf rfl rfl (iK rfl) Za rfl (by simp only[ai,ao];omega)) ?_;rintro _ _ ⟨rfl,rfl⟩;refine Z_5 ?_;refine dM (cm rfl rfl Zrf Zrf rfl rfl) rfl ?_;rintro _ _ ⟨b29,rfl,rfl⟩;refine ZcL (JF (kOf br bu D) X ((R.wd l).wt ⟨ca,ad⟩)) (fun w hi hin=>gW (kOf br bu D) X ((R.wd l).wt ⟨ca,ad⟩) _ 1 1 [v] (show l.length+1≤1000000 by omega) w hin (fun w' hk=>hi.Jb Zi Zh hk)) ?_;rintro _ _ ⟨_,⟨A',c',rfl,rfl⟩,rfl⟩;refine Z_2 ?_;refine bQ (JF (kOf br bu D) ⟨A',c',X.Ar,X.cr⟩ (((R.wd l).wt ⟨ca,ad⟩).wd (l++[v]))++uF bu bb L U') Zj ?_;refine fL (cs':=[row _ _ _,slv _ _ _ _ _ _,slv _ _ _ _ _ _,row _ _ _,exC _ _ _ _,row _ _ _]) (.inr rfl) Zu rfl ?_;exact⟨⟨A',c',X.Ar,X.cr⟩,rfl,rfl⟩
theorem yO(br bu bb:Nat)(L:gQ)(D:p6)(X:iv)(R:Run)(U:Mmu)(l:List Int)(va k:Nat)(v:Int)(hva:va≤4294967295)(hk1:1≤k)(hk4:k≤4)(hl:l.length≤100000)(hT:U.t.length=16)(hroot:u32 R.s.root)
  (w:World) (hi:Inv w (bK (JF (kOf br bu D) X (R.wd ((l++[v])++[(va:Int)]))++uF bu bb L U)) (JF (kOf br bu D) X (R.wd ((l++[v])++[(va:Int)]))++uF bu bb L U) w):
  Ctr prog 176 [.pointer (some ⟨br,0,none⟩),.int .i64 k,.bool true] w (JF (kOf br bu D) X (R.wd ((l++[v])++[(va:Int)]))++uF bu bb L U)
   (fun x cs=>x= .tuple #[]∧cs=JF (kOf br bu D) X (lp L.n (R.wd l) U va k v).1++uF bu bb L (lp L.n (R.wd l) U va k v).2):=by
 have hr0:=hroot.1;have hr1:=hroot.2;have hsr:(R.wd l).sp.root≤4294967295:=by show R.s.root.toNat≤_;omega
 have HP:=BY bu bb L U hT (R.wd l).sp hsr va k v hva hk1 hk4;have HS:=qY (kOf br bu D) X (R.wd (l++[v])) hr0;unfold lp;obtain⟨⟨⟨ca,ad⟩,U'⟩,hq⟩:=Zgn (m4 L.n U (R.wd l).sp va k v);rw[hq]at HP⊢;obtain⟨S,hS⟩:=Zgn ((R.wd l).sp);rw[show(R.wd (l++[v])).sp=(R.wd l).sp from rfl,hS]at HS;rw[hS]at HP;refine bL func176 rfl ntmps176 rfl hi ?_;refine Z_3 ?_;refine ZcM (JF (kOf br bu D) X (R.wd ((l++[v])++[(va:Int)]))) (fun w hi hin=>ia (kOf br bu D) X R (l++[v]) va w hin) ?_;refine ln ?_;refine Z_1 ?_;refine ZW ?_ ?_<;>intro hc4
 ·exact absurd hc4 (by simp)
 refine Z_6 ?_;refine ZW ?_ ?_<;>intro hc6
 ·refine cj ⟨fun j=>List.elem j [9,11,14],[]⟩ Zk ?_;refine ZE 0 ?_;refine ZE 1 ?_;refine ZE 2 ?_;refine ZFe 3 17 ?_;refine ZE 5 ?_;refine ZE 7 ?_;refine ZE 8 ?_;refine ZE 10 ?_;refine j4 4 6 Zk ?_ ?_
  ·refine eN rfl (bM Zrf Zv0) (bR Zh rfl) rfl ?_;refine cE 6 Zk ?_;refine ZT (fun w hi=>HS w (hi.get Zh)) ?_;rintro _ _ ⟨_,⟨rfl,rfl⟩,rfl⟩;refine cE 9 Zk ?_;refine ZcA (JF (kOf br bu D) X (R.wd (l++[v]))) (fun w hi hin=>ia (kOf br bu D) X R l v w hin) ?_;rintro _ _ ⟨_,⟨rfl,rfl⟩,rfl⟩;refine cE 11 Zk ?_;refine ZcA (uF bu bb L U) (fun w hi hin=>HP w hin) ?_;rintro _ _ ⟨_,⟨rfl,rfl⟩,rfl⟩;refine ZE 12 ?_;refine ZFe 13 19 ?_;refine cE 14 Zk ?_;refine dC rfl rfl (dK (ys:=iC (kOf br bu D) X ((R.wd l).wt ⟨ca,ad⟩)) (n:=2) (vs:=[.int .i64 ca,.int .u32 ad]) rfl Zrf rfl rfl (iK rfl) Za rfl (by simp only[ai,ao];omega)) ZJ ?_;rintro _ _ ⟨rfl,rfl⟩;refine bO Zk ?_;refine Zo (bQ (JF (kOf br bu D) X ((R.wd l).wt ⟨ca,ad⟩)++uF bu bb L U') Zj ?_);refine fL (cs':=[row _ _ _,slv _ _ _ _ _ _,slv _ _ _ _ _ _,row _ _ _,exC _ _ _ _,row _ _ _]) (.inr rfl) Zu rfl ?_;exact⟨rfl,rfl⟩
  refine ZT (fun w hi=>HS w (hi.get Zh)) ?_;rintro _ _ ⟨_,⟨rfl,rfl⟩,rfl⟩;refine j4 4 9 Zk ?_ ?_
  ·refine eN rfl (bM Zrf Zv0) (bR Zh rfl) rfl ?_;refine cE 9 Zk ?_;refine ZcA (JF (kOf br bu D) X (R.wd (l++[v]))) (fun w hi hin=>ia (kOf br bu D) X R l v w hin) ?_;rintro _ _ ⟨_,⟨rfl,rfl⟩,rfl⟩;refine cE 11 Zk ?_;refine ZcA (uF bu bb L U) (fun w hi hin=>HP w hin) ?_;rintro _ _ ⟨_,⟨rfl,rfl⟩,rfl⟩;refine ZE 12 ?_;refine ZFe 13 19 ?_;refine cE 14 Zk ?_;refine dC rfl rfl (dK (ys:=iC (kOf br bu D) X ((R.wd l).wt ⟨ca,ad⟩)) (n:=2) (vs:=[.int .i64 ca,.int .u32 ad]) rfl Zrf rfl rfl (iK rfl) Za rfl (by simp only[ai,ao];omega)) ZJ ?_;rintro _ _ ⟨rfl,rfl⟩;refine bO Zk ?_;refine Zo (bQ (JF (kOf br bu D) X ((R.wd l).wt ⟨ca,ad⟩)++uF bu bb L U') Zj ?_);refine fL (cs':=[row _ _ _,slv _ _ _ _ _ _,slv _ _ _ _ _ _,row _ _ _,exC _ _ _ _,row _ _ _]) (.inr rfl) Zu rfl ?_;exact⟨rfl,rfl⟩
  refine ZcA (JF (kOf br bu D) X (R.wd (l++[v]))) (fun w hi hin=>ia (kOf br bu D) X R l v w hin) ?_;rintro _ _ ⟨_,⟨rfl,rfl⟩,rfl⟩;refine ZG 4 ?_;refine cE 11 Zk ?_;refine ZcA (uF bu bb L U) (fun w hi hin=>HP w hin) ?_;rintro _ _ ⟨_,⟨rfl,rfl⟩,rfl⟩;refine ZE 12 ?_;refine ZFe 13 19 ?_;refine cE 14 Zk ?_;refine dC rfl rfl (dK (ys:=iC (kOf br bu D) X ((R.wd l).wt ⟨ca,ad⟩)) (n:=2) (vs:=[.int .i64 ca,.int .u32 ad]) rfl Zrf rfl rfl (iK rfl) Za rfl (by simp only[ai,ao];omega)) ZJ ?_;rintro _ _ ⟨rfl,rfl⟩;refine bO Zk ?_;refine Zo (bQ (JF (kOf br bu D) X ((R.wd l).wt ⟨ca,ad⟩)++uF bu bb L U') Zj ?_);refine fL (cs':=[row _ _ _,slv _ _ _ _ _ _,slv _ _ _ _ _ _,row _ _ _,exC _ _ _ _,row _ _ _]) (.inr rfl) Zu rfl ?_;exact⟨rfl,rfl⟩
 exact absurd hc6 (by simp)
end Go.Proofs.YtomjgmbccamgiaaGreatDoor
