/- Lemmas. -/
import Derived.Test.YtakodpimdalajaaGreatDoorPaa
import Derived.Test.YtakodpimdalajaaGreatDoorPab
import Derived.Test.YtakodpimdalajaaGreatDoorPac
import Derived.Test.YtakodpimdalajaaGreatDoorPad
set_option linter.unusedSimpArgs false
set_option linter.unusedVariables false
set_option maxRecDepth 100000
set_option maxHeartbeats 4000000
namespace Go.Ink
open Go.RowKit
def rH(l:List Nat):Nat→Int
 |0=>0
 |k+1=>bits .or .u32 (rH l k) (IntKind.u32.wrap (1*2^(min (((l.getD k 0:Nat):Int)).toNat IntKind.u32.bits)))
def pm(l:List Nat):Int:=rH l l.length
def yq(l:List Nat):List Int:=l.map fun n:Nat=>(n:Int)
def lf(n Jm a:Nat):Bool:= !((decide (16≤Jm)||(a%64 !=0))||decide (n*64≤a))
def gb(n:Nat)(M:Mem)(JE:List Int)(Jm a cmd:Nat):Bool×Mem×List Int:=
 bif !lf n Jm a then(false,M,JE)else
 bif cmd==1 then(true,M.fill (a/64*64) ((JE.drop (Jm*64)).take 64) 64,JE)else
 bif cmd==2 then(true,M,JE.take (Jm*64)++(M.data.drop (a/64*64)).take 64++JE.drop (Jm*64+64))else(false,M,JE)
end Go.Ink
namespace Go.Proofs.YtakodpimdalajaaGreatDoor
open Go.RowKit Go.Ink Go.Proofs.Tryz
attribute [local irreducible] OpY bP
abbrev po(b:Nat)(p m:Int):bJ:=row b [.int .u32 p,.int .u32 m] 118
abbrev Bk(b:Nat)(t:Int):bJ:=row b [.int .u32 t] 224
abbrev b8(A:Option Addr)(c:Nat)(l:List Int):bJ:=sl .u8 5 A l.length c l
abbrev xn(b:Nat)(Ao:Option Addr)(no co:Nat)(Ai:Option Addr)(ni ci:Nat):bJ:=row b [.slice Ao no co,.slice Ai ni ci] 212
abbrev Cs(b bd:Nat):bJ:=row b [.slice (some ⟨bd,0,none⟩) 1024 1024] 216
abbrev yK(bd:Nat)(l:List Int):bJ:=sl .u8 5 (some ⟨bd,0,none⟩) 1024 1024 l
theorem Em(w:World):Ctr prog 83 [] w [] (fun v cs=>∃b,v= .pointer (some ⟨b,0,none⟩)∧cs=[po b 0 0]):=by
 refine bL func83 rfl ntmps83 rfl (Inv.start w) ?_;refine Z_8 ?_;refine ZO fun b2=>?_
 refine Z_4 ?_;refine Zrb ([row _ _ _]) ?_;exact⟨_,rfl,rfl⟩
theorem C1(w:World):Ctr prog 84 [] w [] (fun v cs=>∃b,v= .pointer (some ⟨b,0,none⟩)∧cs=[Bk b 0]):=by
 refine bL func84 rfl ntmps84 rfl (Inv.start w) ?_;refine Z_8 ?_;refine ZO fun b2=>?_
 refine Z_4 ?_;refine Zrb ([row _ _ _]) ?_;exact⟨_,rfl,rfl⟩
theorem Fm(w:World):Ctr prog 85 [] w [] (fun v cs=>∃b,v= .pointer (some ⟨b,0,none⟩)∧cs=[xn b none 0 0 none 0 0]):=by
 refine bL func85 rfl ntmps85 rfl (Inv.start w) ?_;refine Z_8 ?_;refine ZO fun b2=>?_
 refine Z_4 ?_;refine Zrb ([row _ _ _]) ?_;exact⟨_,rfl,rfl⟩
def _root_.Go.Ink.m5(l:List Int):List Int:=l++List.replicate (1024 - l.length) 0
theorem Fc(A:Option Addr)(c:Nat)(l:List Int)(hl:l.length≤1024)(w:World)(h:Rd w .u8 A l.length c l):Ctr prog 82 [.slice A l.length c] w [] (fun v cs=>∃b bd,v= .tuple #[.pointer (some ⟨b,0,none⟩),.int .i64 0]∧cs=[Cs b bd,yK bd (m5 l)]):=by
 refine bL func82 rfl ntmps82 rfl (Inv.start w) ?_;refine gL ?_;refine dw rfl ((az Wq1)) ?_;refine Z_4 ?_;refine fb (ju (bytes:=1) (n:=1024) rfl rfl rfl rfl rfl rfl rfl Wq1 g9) rfl ?_;rintro _ _ ⟨b8_,rfl,rfl⟩;rw[kX];refine ZA ?_;refine ZO fun b10=>?_
 refine dS ?_;refine fb (tp rfl rfl Za rfl rfl (fun w hi=>h.Jz hi) cO Wq1) rfl ?_;rintro _ _ ⟨rfl,rfl⟩;have hd:(ints .u8 (List.replicate 1024 0)).take 0++(ints .u8 l).take (min l.length 1024)++(ints .u8 (List.replicate 1024 0)).drop (0+min l.length 1024)=ints .u8 (m5 l):=by(rw[Nat.min_eq_left hl,iK,iK,mf,List.take_zero,bA,bl,List.drop_replicate];simp[ints,m5])
 rw[hd];refine dS ?_;refine bN [Cs b10 b8_,yK b8_ (m5 l)] Zj ?_;refine rc (cs':=[row _ _ _,slv _ _ _ _ _ _]) (.inl rfl) Zu rfl rfl rfl ?_;exact⟨_,_,rfl,rfl⟩
theorem tE(b:Nat)(p m:Int)(w:World)(h:(po b p m).ok w):Ctr prog 70 [.pointer (some ⟨b,0,none⟩)] w [] (fun v cs=>v= .int .u32 p∧cs=[]):=by
 refine bL func70 rfl ntmps70 rfl (Inv.start w) ?_;refine dS ?_;refine sB ?_;refine Z_4 ?_;refine Zra ?_;exact df
theorem DX(b:Nat)(p m:Int)(w:World)(h:(po b p m).ok w):Ctr prog 71 [.pointer (some ⟨b,0,none⟩)] w [] (fun v cs=>v= .int .u32 m∧cs=[]):=by
 refine bL func71 rfl ntmps71 rfl (Inv.start w) ?_;refine dS ?_;refine sB ?_;refine Z_4 ?_;refine Zra ?_;exact df
theorem Eu(b:Nat)(p m v:Int)(w:World)(hi:Inv w (bK [po b p m]) [po b p m] w):Ctr prog 270 [.pointer (some ⟨b,0,none⟩),.int .u32 v] w [po b p m] (fun x cs=>x= .tuple #[]∧cs=[po b (bits .andNot .u32 p v) m]):=by
 refine bL func270 rfl ntmps270 rfl hi ?_;refine Z_6 ?_;refine Zy (qk Zv0 Zv0 rfl) ?_;refine Z_2 ?_;refine ZL ?_;refine Zn (iF (cs':=[row _ _ _]) (.inr rfl) Zu rfl ?_);exact df
theorem yA(b:Nat)(p m v:Int)(w:World)(hi:Inv w (bK [po b p m]) [po b p m] w):Ctr prog 271 [.pointer (some ⟨b,0,none⟩),.int .u32 v] w [po b p m] (fun x cs=>x= .tuple #[]∧cs=[po b p (bits .and .u32 v 255)]):=by
 refine bL func271 rfl ntmps271 rfl hi ?_;refine Z_6 ?_;refine ZL ?_;refine Zn (iF (cs':=[row _ _ _]) (.inr rfl) Zu rfl ?_);exact df
theorem rM(b:Nat)(p m:Int)(A:Option Addr)(c:Nat)(l:List Nat)(hl:∀x,x∈l→x<8)(w:World)(hi:Inv w (bK [po b p m]) [po b p m] w)(h:∀w',dC (bK [po b p m]) w w'→Rd w' .i64 A l.length c (yq l)):Ctr prog 17 [.pointer (some ⟨b,0,none⟩),.slice A l.length c] w [po b p m] (fun x cs=>x= .bool true∧cs=[po b (bits .or .u32 p (pm l)) m]):=by
 have hrw:=h w (dC.refl _ _);have hm:=hrw.max;have hcp:=hrw.cap;simp only[maxLen]at hm;refine bL func17 rfl ntmps17 rfl hi ?_;refine FT ?_;refine cw (fun k:Nat=>[(0,.pointer (some ⟨b,0,none⟩)),(5,.int .u32 (rH l k)),(8,.slice A l.length c),(9,.int .i64 l.length),(10,.int .i64 (k:Int))]) (fun _=>[po b p m]) (fun k=>k≤l.length) (fun k=>l.length - k) (0) ?_ ?_ ?_ ?_
 ·exact au _
 ·exact Zwk
 ·exact Zu
 rintro k hk;refine Z_6 ?_;refine ZW ?_ ?_<;>intro hc3
 ·simp only[ak]at hc3;have hkl:k<l.length:=by omega
  have hx:=hl _ (List.getElem_mem hkl);have hgd:l.getD k 0=l[k]'hkl:=by simp[hkl]
  obtain⟨ad,rfl⟩:=hrw.some_ Wq1;refine Z_6 ?_;refine Zy (cU (j:=k) rfl Zrf (Zv rfl) (Zv rfl) Wq4 Wq4) ?_;refine dL (bO Zrf (Zv rfl)) (om h (cQ (show(yq l)[k]? =some ((l[k]'hkl:Nat):Int) by simp[yq,hkl]))) rfl ?_;refine gL ?_;refine dw rfl ((by rw[az (show¬((l[k]'hkl:Nat):Int)<0 by omega),az (show¬(8:Int)≤((l[k]'hkl:Nat):Int) by omega)];rfl)) ?_;refine Z_5 ?_;refine Zy (ux (Zv rfl) (Zv rfl) Wq1 rfl) ?_;refine Zy (AN (Zv rfl) (Zv rfl) (show _=rH l (k+1)from by rw[rH,hgd])) ?_;refine Z_5 ?_;refine Wq8 ?_;refine dM (k+1) ?_ ?_ ?_
  ·exact⟨by omega,by omega⟩
  ·exact Zwk
  exact Zu
 simp only[ah]at hc3;obtain rfl:k=l.length:=by omega
 refine p6 ?_;refine ZL ?_;refine Z_8 ?_;refine Zrb ([row _ _ _]) ?_;exact df
theorem tset_ok(b:Nat)(t v:Int)(w:World)(hi:Inv w (bK [Bk b t]) [Bk b t] w):Ctr prog 272 [.pointer (some ⟨b,0,none⟩),.int .u32 v] w [Bk b t] (fun x cs=>x= .tuple #[]∧cs=[Bk b v]):=by
 refine bL func272 rfl ntmps272 rfl hi ?_;refine Z_5 ?_;refine ZL ?_;refine Zn (iF (cs':=[row _ _ _]) (.inr rfl) Zu rfl ?_);exact df
theorem Gd(b:Nat)(t:Int)(w:World)(h:(Bk b t).ok w):Ctr prog 268 [.pointer (some ⟨b,0,none⟩)] w [] (fun v cs=>v= .int .u32 t∧cs=[]):=by
 refine bL func268 rfl ntmps268 rfl (Inv.start w) ?_;refine dS ?_;refine sB ?_;refine Z_4 ?_;refine Zra ?_;exact df
theorem mv(A:Option Addr)(n c:Nat)(xs:List Int)(w:World)(h:Rd w .u8 A n c xs)(hn:n≤140737488355328):Ctr prog 111 [.slice A n c] w [] (fun v cs=>∃A' c',v= .slice A' n c'∧cs=[sl .u8 5 A' n c' xs]):=by
 refine bL func111 rfl ntmps111 rfl (Inv.start w) ?_;refine gE ?_;refine ZW ?_ ?_<;>intro hc1
 ·obtain rfl:A=none:=by simpa using hc1
  obtain⟨rfl,rfl⟩:=h.nil rfl;obtain rfl:xs=[]:=by have:=h.len;simpa[ints]using this
  refine Z_2 ?_;refine dy 5 1 ?_;refine Z_5 ?_;refine Zrb ([slv _ _ _ _ _ _]) ?_;exact⟨_,_,rfl,rfl⟩
 refine Z_4 ?_;refine ku ?_;rintro _ _ ⟨b5,rfl,rfl⟩;refine ZA ?_;refine fb (cC (e:=5) (sz:=1) (bytes:=1) rfl rfl Za rfl rfl (fun w hi=>h.Jz hi) cO g9 Wq1) rfl ?_;rintro _ _ ⟨A',c',rfl,rfl⟩;simp only[bl,aP];refine Z_4 ?_;refine Zrb ([slv _ _ _ _ _ _]) ?_;exact⟨_,_,rfl,rfl⟩
theorem Fi(b:Nat)(Ao:Option Addr)(co:Nat)(o:List Int)(Ai:Option Addr)(ni ci:Nat)(x:Int)(ho:o.length≤1000000000)(w:World)(hi:Inv w (bK [xn b Ao o.length co Ai ni ci,b8 Ao co o]) [xn b Ao o.length co Ai ni ci,b8 Ao co o] w):Ctr prog 273 [.pointer (some ⟨b,0,none⟩),.int .u8 x] w [xn b Ao o.length co Ai ni ci,b8 Ao co o] (fun v cs=>∃Ao' co',v= .tuple #[]∧cs=[xn b Ao' (o++[x]).length co' Ai ni ci,b8 Ao' co' (o++[x])]):=by
 refine bL func273 rfl ntmps273 rfl hi ?_;refine Z_7 ?_;refine ku ?_;rintro _ _ ⟨b10,rfl,rfl⟩;refine fb (cC (e:=5) (sz:=1) (bytes:=1) rfl rfl Za rfl rfl (fun w hi=>hi.rd (show Has _ (slv 5 1 (some ⟨b10,0,none⟩) 1 1 [.int .u8 x])from Zh)) (jp rfl) (by simp only[maxLen];omega) Wq1) rfl ?_;rintro _ _ ⟨A2,c2,rfl,rfl⟩;rw[show o.length+1=(o++[x]).length by simp,show ints .u8 o++[Value.int .u8 x]=ints .u8 (o++[x])from cj o [x]];refine Z_2 ?_;refine ZL ?_;refine Zn (iF (cs':=[row _ _ _,slv _ _ _ _ _ _]) (.inr rfl) Zu rfl ?_);exact⟨A2,c2,rfl,rfl⟩
theorem xj(b:Nat)(Ao:Option Addr)(no co:Nat)(Ai:Option Addr)(ni ci:Nat)(w:World)(h:(xn b Ao no co Ai ni ci).ok w):Ctr prog 63 [.pointer (some ⟨b,0,none⟩)] w [] (fun v cs=>v= .int .i64 ni∧cs=[]):=by
 refine bL func63 rfl ntmps63 rfl (Inv.start w) ?_;refine dS ?_;refine sB ?_;refine Z_5 ?_;refine Zra ?_;exact df
theorem Fh(A:Option Addr)(c:Nat)(x:Int)(xs:List Int)(hl:xs.length≤1000000000)(w:World)(hi:Inv w (bK [b8 A c (x::xs)]) [b8 A c (x::xs)] w):Ctr prog 278 [.slice A (x::xs).length c,.int .i64 0,.int .i64 1] w [b8 A c (x::xs)] (fun v cs=>∃A' c',v= .slice A' xs.length c'∧cs=[b8 A' c' xs]):=by
 have hrd0:=hi.rd (show Has _ (b8 A c (x::xs))from Zh);have hcap:=hrd0.cap;obtain⟨bb,rfl⟩:=fM (hi.get (show Has _ (b8 A c (x::xs))from Zh)) (by simp);simp only[aj]at hcap;have hxl:(x::xs).length=xs.length+1:=rfl;obtain⟨q0,hq0⟩:=Zgn ((⟨bb,(if c=1 then 0 else 1),none⟩:Addr));have hq1:(some q0:Option Addr)=(if c=1 then some ⟨bb,0,none⟩else(some (⟨bb,0,none⟩:Addr)).map (·.add (1*1))):=by
  rw[←hq0];split<;>rfl
 refine bL func278 rfl ntmps278 rfl hi ?_;refine gE ?_;refine Zy (FW (lo:=0) (hi:=1) (mx:=(x::xs).length) rfl Zrf (Zv rfl) (Zv rfl) (Zv rfl) (Zv rfl) (by omega) (by omega) (by omega)) ?_;refine dS ?_;refine gx ?_;refine dS ?_;refine bR ⟨fun j=>List.elem j [6],[]⟩ Zk ?_;refine ZE 0 ?_;refine ZE 1 ?_;refine cD 2 rfl Zk Zk Zk (gf 0 rfl Zrf (Zv rfl) (Zv rfl) (fun _=>by first|rfl|omega) (fun _=>by omega)) rfl ?_;refine ZE 3 ?_;refine ZE 4 ?_;refine cD 5 rfl Zk Zk Zk (FV (lo:=1) (hi:=(x::xs).length) (r:=q0) rfl Zrf (Zv rfl) (.inr ⟨_,_,rfl,(Zv rfl)⟩) (.inl ⟨rfl,rfl⟩) (by simp) (by simpa using hcap) hq1) rfl ?_;refine ce 6 Zk ?_;refine iZ rfl rfl (De (e:=5) (bytes:=1) rfl (by omega) rfl Za rfl rfl (fun w hi=>(by have h5:=(hi.rd (show Has _ (b8 (some ⟨bb,0,none⟩) c (x::xs))from Zh)).cut (lo:=1) (hi:=(x::xs).length) (by simp) (aN _);rw[←hq1]at h5;exact h5)) (by rw[iK,mf];exact cO) (by omega)) ZJ rfl ?_;rintro _ _ ⟨rfl,rfl⟩;rw[show 0+((x::xs).length - 1)=xs.length by simp,show(ints .u8 (x::xs)).take 0++((ints .u8 (x::xs)).take (x::xs).length).drop 1=ints .u8 xs from by(simp[ints];exact List.take_of_length_le (by simp))];refine ZE 7 ?_;refine dr ?_;refine Z_7 ?_;refine Zy (kO (sz:=1) (lo:=xs.length) (hi:=(x::xs).length) (r:=xs.length) rfl Zrf (Zv rfl) (.inr ⟨_,_,rfl,(Zv rfl)⟩) (.inr ⟨_,_,rfl,(Zv rfl)⟩) (by omega) (by omega) (by omega) (by omega)) ?_;refine dD (t_clear rfl Za rfl Zrf rfl rfl (aN _) (by simp only[aj];omega)) ?_;rintro _ _ ⟨rfl,rfl⟩;refine Z_9 ?_;refine Zrb ([slv _ _ _ _ _ _]) ?_;exact⟨_,_,rfl,rfl⟩
theorem In(b:Nat)(Ao:Option Addr)(no co:Nat)(Ai:Option Addr)(ci:Nat)(inp:List Int)(hl:inp.length≤1000000000)(w:World)(hi:Inv w (bK [xn b Ao no co Ai inp.length ci,b8 Ai ci inp]) [xn b Ao no co Ai inp.length ci,b8 Ai ci inp] w):Ctr prog 269 [.pointer (some ⟨b,0,none⟩)] w [xn b Ao no co Ai inp.length ci,b8 Ai ci inp] (fun v cs=>∃Ai' ci',v= .int .u8 (gB inp 0)∧cs=[b8 Ai' ci' inp.tail,xn b Ao no co Ai' inp.tail.length ci']):=by
 cases inp with
 |nil=>
  refine bL func269 rfl ntmps269 rfl hi ?_;refine p5 ?_;refine bU rfl (rfl) ?_;refine Z_7 ?_;refine bN [b8 Ai ci [],xn b Ao no co Ai 0 ci] Zj ?_;refine Zrb ([slv _ _ _ _ _ _,row _ _ _]) ?_;exact⟨_,_,rfl,rfl⟩
 |cons x xs=>
  have hxl:(x::xs).length=xs.length+1:=rfl;have hc1':(((x::xs).length:Int)==0)=false:=by rw[beq_eq_false_iff_ne];simp only[aj];omega
  obtain⟨bb,rfl⟩:=fM (hi.get (show Has _ (b8 Ai ci (x::xs))from Zh)) cJ;refine bL func269 rfl ntmps269 rfl hi ?_;refine p5 ?_;refine dw rfl (hc1') ?_;refine Z_8 ?_;refine Zy (cu (j:=0) (sz:=1) (r:=0) rfl Zrf (Zv rfl) (Zv rfl) Wq4 Wq4 Wq1) ?_;refine dL (bO Zrf Zv0) (du (xs:=ints .u8 (x::xs)) Zh rfl) rfl ?_;refine dS ?_;refine ZcL ([b8 (some ⟨bb,0,none⟩) ci (x::xs)]) (fun w hi hin=>Fh (some ⟨bb,0,none⟩) ci x xs (by simp only[aj]at hl;omega) w hin) ?_;rintro _ _ ⟨_,⟨A2,c2,rfl,rfl⟩,rfl⟩;refine Z_2 ?_;refine ZL ?_;refine Z_9 ?_;refine Zrb ([slv _ _ _ _ _ _,row _ _ _]) ?_;exact⟨_,_,rfl,rfl⟩
end Go.Proofs.YtakodpimdalajaaGreatDoor
namespace Go.Ink
open Go.RowKit
theorem zC(n k:Nat):((n:Int)==((k:Nat):Int))=(n==k):=by rw[Bool.eq_iff_iff];simp;omega
theorem natBne(n k:Nat):((n:Int) !=((k:Nat):Int))=(n !=k):=by rw[Bool.eq_iff_iff];simp;omega
theorem uc(n Jm a:Nat):(((false||decide ((16:Int)≤Jm))||(((a%64:Nat):Int) !=((0:Nat):Int)))||decide (((n*64:Nat):Int)≤a))= !lf n Jm a:=by
 unfold lf;rw[Bool.not_not,Bool.false_or,natBne,show decide ((16:Int)≤Jm)=decide (16≤Jm)from decide_eq_decide.2 Wq1,show decide (((n*64:Nat):Int)≤a)=decide (n*64≤a)from decide_eq_decide.2 Wq1]
theorem disk_rd{w:World}{bk Jm:Nat}{JE:List Int}(h:RdV w 1 (some ⟨bk,0,none⟩) 1024 1024 (ints .u8 JE))(hs:Jm<16):Rd w .u8 (some ⟨bk,Jm*64,none⟩) 64 (1024 - Jm*64) ((JE.drop (Jm*64)).take 64):=by
 have h1:=h.cut (lo:=Jm*64) (hi:=Jm*64+64) Wq1 Wq1;rw[if_neg Wq1,Option.map_some,Addr.add_lit,Nat.mul_one,bl,iK,mf,show Jm*64+64 - Jm*64=64 by omega,List.drop_take,show Jm*64+64 - Jm*64=64 by omega]at h1;exact h1
end Go.Ink
namespace Go.Proofs.YtakodpimdalajaaGreatDoor
open Go.RowKit Go.Ink Go.Proofs.Tryz
attribute [local irreducible] OpY bP
theorem Ij(bd bk:Nat)(L:fa)(M:Mem)(JE:List Int)(hk:JE.length=1024)(hkb:u8s JE)(Jm a cmd:Nat)(hs:Jm≤4294967295)(ha:a≤4294967295)(w:World)(hi:Inv w (bK [Cs bd bk,yK bk JE,ek L M]) [Cs bd bk,yK bk JE,ek L M] w):
  Ctr prog 274 [.pointer (some ⟨bd,0,none⟩),.pointer (some ⟨L.bm,0,none⟩),.int .u32 Jm,.int .u32 a,.int .u32 cmd] w [Cs bd bk,yK bk JE,ek L M] (fun v cs=>v= .bool (gb L.n M JE Jm a cmd).1∧cs=[Cs bd bk,yK bk (gb L.n M JE Jm a cmd).2.2,ek L (gb L.n M JE Jm a cmd).2.1]):=by
 obtain⟨n1,n64,hdl,hdb,htl⟩:=ls (hi.ok (ek L M) cJ);refine bL func274 rfl ntmps274 rfl hi ?_;refine p5 ?_;refine Zyn rfl rfl (gy (dH rfl) (Zv rfl) Wq1 (show _=((a%64:Nat):Int)from by rw[aF Wq1];omega)) ?_;refine Z_5 ?_;refine dE (cq rfl rfl) (.cons (dH rfl) .nil) (fun _ _=>rfl) (fun hg w hi=>kU L M w (hi.get (show Has _ (ek L M)from Zh))) rfl ?_;refine Z_4 ?_;refine ZW ?_ ?_<;>intro hc1
 ·have hno:lf L.n Jm a=false:=by(have h2:=(uc L.n Jm a).symm.trans hc1;simpa using h2)
  have hdo:gb L.n M JE Jm a cmd=(false,M,JE):=by(unfold gb;rw[hno];rfl)
  rw[hdo];refine Z_7 ?_;refine Zrb ([row _ _ _,slv _ _ _ _ _ _,exC _ _ _ _]) ?_;exact df
 have hyes:lf L.n Jm a=true:=by(have h2:=(uc L.n Jm a).symm.trans hc1;simpa using h2)
 have hf:Jm<16∧a%64=0∧a<L.n*64:=by(unfold lf at hyes;simp only[Bool.not_eq_true',bj,ah,bne_eq_false_iff_eq]at hyes;omega)
 obtain⟨s16,am,an⟩:=hf;have hdo:gb L.n M JE Jm a cmd=bif cmd==1 then(true,M.fill (a/64*64) ((JE.drop (Jm*64)).take 64) 64,JE)else bif cmd==2 then(true,M,JE.take (Jm*64)++(M.data.drop (a/64*64)).take 64++JE.drop (Jm*64+64))else(false,M,JE):=by(unfold gb;rw[hyes];rfl)
 rw[hdo];have hsl:((JE.drop (Jm*64)).take 64).length=64:=by(rw[aC,bn];omega)
 refine Z_9 ?_;refine Zy (i4 (Zv rfl) (Zv rfl) (show _=((Jm*64:Nat):Int)from(u32_wrap_id _ Wq1 Wq1).trans Wq1)) ?_;refine ZA ?_;refine Zy (cX (Zv rfl) (Zv rfl) (show _=((Jm+1:Nat):Int)from(u32_wrap_id _ Wq1 Wq1).trans Wq1)) ?_;refine Zy (i4 (Zv rfl) (Zv rfl) (show _=((Jm*64+64:Nat):Int)from(u32_wrap_id _ Wq1 Wq1).trans Wq1)) ?_;refine Zy (kO (sz:=1) (lo:=Jm*64) (hi:=Jm*64+64) (r:=Jm*64) rfl Zrf (Zv rfl) (.inr ⟨_,_,rfl,(Zv rfl)⟩) (.inr ⟨_,_,rfl,(Zv rfl)⟩) Wq1 Wq1 Wq1 Wq1) ?_;refine Z_6 ?_;refine Zy (jD (Zv rfl) (Zv rfl) Wq1 (show _=((a/64:Nat):Int)from by rw[bz Wq1,u32_wrap_id _ Wq1 Wq1];omega)) ?_;refine Zy (bW rfl rfl Zv0 Zl) ?_;refine Z_6 ?_;rw[show Jm*64+64 - Jm*64=64 by omega];refine dS ?_;refine ZW ?_ ?_<;>intro hc6
 ·have hcm:(cmd==1)=true:=(zC cmd 1).symm.trans hc6;rw[hcm];simp only[ac];refine Z_5 ?_;refine ZcM ([ek L M]) (fun w hi hin=>x5 L M (a/64) Wq1 (some ⟨bk,Jm*64,none⟩) (1024 - Jm*64) ((JE.drop (Jm*64)).take 64) hsl (fun x hx=>hkb x (List.mem_of_mem_drop (List.mem_of_mem_take hx))) w hin (fun w' hk=>disk_rd (hi.rdK (show xF _ (ek L M) (yK bk JE)from(by repeat (first|(refine .l _ ?_;repeat (first|exact .head _ _|apply Has.tail))|(refine .r _ ?_;repeat (first|exact .head _ _|apply Has.tail))|apply xF.t))) hk) s16)) ?_;refine Z_6 ?_;refine bN [Cs bd bk,yK bk JE,ek L (M.fill (a/64*64) ((JE.drop (Jm*64)).take 64) 64)] Zj ?_;refine Zrb ([row _ _ _,slv _ _ _ _ _ _,exC _ _ _ _]) ?_;exact df
 have hcm:(cmd==1)=false:=(zC cmd 1).symm.trans hc6;rw[hcm];simp only[aa];refine Z_6 ?_;refine ZW ?_ ?_<;>intro hc8
 ·have hcm2:(cmd==2)=true:=(zC cmd 2).symm.trans hc8;rw[hcm2];simp only[ac];refine Z_4 ?_;refine ZS (fun w hi=>uK L M (a/64) Wq1 w (hi.get (show Has _ (ek L M)from Zh))) ?_;rintro _ _ ⟨_,⟨bq,rfl,rfl⟩,rfl⟩;refine fF ?_;refine fb (tp rfl rfl Za rfl rfl (fun w hi=>hi.rd (show Has _ (sl .u8 5 (some ⟨bq,0,none⟩) 64 64 ((M.data.drop (a/64*64)).take 64))from Zh)) cO Wq1) rfl ?_;rintro _ _ ⟨rfl,rfl⟩;rw[show(ints .u8 JE).take (Jm*64)++(ints .u8 ((M.data.drop (a/64*64)).take 64)).take (min 64 64)++(ints .u8 JE).drop (Jm*64+min 64 64)=ints .u8 (JE.take (Jm*64)++(M.data.drop (a/64*64)).take 64++JE.drop (Jm*64+64))from by(rw[Nat.min_self,iK,iK,mf,cj,cj,List.take_take,Nat.min_self])];refine fF ?_;refine Zrb ([row _ _ _,slv _ _ _ _ _ _,exC _ _ _ _]) ?_;exact df
 have hcm2:(cmd==2)=false:=(zC cmd 2).symm.trans hc8;rw[hcm2];simp only[aa];refine Z_9 ?_;refine Zrb ([row _ _ _,slv _ _ _ _ _ _,exC _ _ _ _]) ?_;exact df
end Go.Proofs.YtakodpimdalajaaGreatDoor
namespace Go.Ink
open Go.RowKit
structure Dev where
 JH:Int
 mask:Int
 timer:Int
 out:List Int
 inp:List Int
 JE:List Int
 Jm:Nat
 place:Nat
 status:Int
structure pL where
 bs:Nat
 bi:Nat
 bti:Nat
 bcn:Nat
 bdr:Nat
 bdk:Nat
structure lz where
 Ao:Option Addr
 co:Nat
 Ai:Option Addr
 ci:Nat
structure Dev.wf(d:Dev):Prop where
 inpb:u8s d.inp
 JE:d.JE.length=1024
 Kk:u8s d.JE
 Jm:d.Jm≤4294967295
 place:d.place≤4294967295
 inp:d.inp.length≤1000000000
def sS(a:Nat):Int:=IntKind.u32.wrap ((a:Int) - 32768)
def dq(d:Dev)(k count:Int):(Int×Bool)×Dev:=
 bif k==0 then((d.JH,true),d)else bif k==4 then((d.mask,true),d)else bif k==8 then((d.timer,true),d)else bif k==12 then((IntKind.u32.wrap count,true),d)else
 bif k==16 then((0,true),d)else bif k==40 then((0,true),d)else bif k==20 then((gB d.inp 0,true),{d with inp:=d.inp.tail})else bif k==24 then(((d.inp.length:Int),true),d)else
 bif k==32 then(((d.Jm:Int),true),d)else bif k==36 then(((d.place:Int),true),d)else bif k==44 then((d.status,true),d)else((0,false),d)
def fI(n:Nat)(M:Mem)(d:Dev)(v:Nat):Mem×Dev:=
 ((gb n M d.JE d.Jm d.place v).2.1,{d with JE:=(gb n M d.JE d.Jm d.place v).2.2,status:=bif(gb n M d.JE d.Jm d.place v).1 then 0 else 1,JH:=bits .or .u32 d.JH (pm [2])})
def cP(n:Nat)(M:Mem)(d:Dev)(k:Int)(v:Nat):Bool×Mem×Dev:=
 bif k==0 then(true,M,{d with JH:=bits .andNot .u32 d.JH v})else bif k==4 then(true,M,{d with mask:=bits .and .u32 v 255})else bif k==8 then(true,M,{d with timer:=v})else
 bif k==16 then(true,M,{d with out:=d.out++[IntKind.u8.wrap v]})else bif k==32 then(true,M,{d with Jm:=v})else bif k==36 then(true,M,{d with place:=v})else
 bif k==40 then(true,fI n M d v)else bif k==12 then(true,M,d)else bif k==20 then(true,M,d)else bif k==24 then(true,M,d)else bif k==44 then(true,M,d)else(false,M,d)
end Go.Ink
namespace Go.Proofs.YtakodpimdalajaaGreatDoor
open Go.RowKit Go.Ink Go.Proofs.Tryz
attribute [local irreducible] OpY bP
abbrev Jd(D:pL)(bm:Nat)(d:Dev):bJ:=row D.bs [.pointer (some ⟨D.bi,0,none⟩),.pointer (some ⟨D.bti,0,none⟩),.pointer (some ⟨D.bcn,0,none⟩),.pointer (some ⟨D.bdr,0,none⟩),.pointer (some ⟨bm,0,none⟩),.int .u32 (d.Jm:Int),.int .u32 (d.place:Int),.int .u32 d.status] 60
abbrev mV(D:pL)(bm:Nat)(X:lz)(d:Dev):List bJ:=[Jd D bm d,po D.bi d.JH d.mask,Bk D.bti d.timer,xn D.bcn X.Ao d.out.length X.co X.Ai d.inp.length X.ci,b8 X.Ao X.co d.out,b8 X.Ai X.ci d.inp,Cs D.bdr D.bdk,yK D.bdk d.JE]
theorem Ch(D:pL)(bm:Nat)(X:lz)(d:Dev)(hd:d.wf)(a:Nat)(count:Int)(w:World)(hi:Inv w (bK (mV D bm X d)) (mV D bm X d) w):
  Ctr prog 246 [.pointer (some ⟨D.bs,0,none⟩),.int .u32 a,.int .u64 count] w (mV D bm X d) (fun v cs=>∃X',v= .tuple #[.int .u32 (dq d (sS a) count).1.1,.bool (dq d (sS a) count).1.2]∧cs=mV D bm X' (dq d (sS a) count).2):=by
 have hinp:=hd.inp;have hgb:IntKind.u32.wrap (gB d.inp 0)=gB d.inp 0:=by have:=jQ hd.inpb 0;exact u32_wrap_id _ Wq1 Wq1
 obtain⟨k,hk⟩:=Zgn (sS a);rw[hk];unfold sS at hk;refine bL func246 rfl ntmps246 rfl hi ?_;refine dS ?_;refine Zy (dY Zv0 Zv0 hk) ?_;refine Z_9 ?_;refine ZW ?_ ?_<;>intro hc2
 ·refine Z_6 ?_;refine ZSe (fun w hi=>tE D.bi d.JH d.mask w (hi.get Zh)) ?_;refine Z_7 ?_;refine Cm ?_;refine⟨X,?_,?_⟩
  ·simp only[dq, *,ac,aa]
  simp only[dq, *,ac,aa]
 refine Z_6 ?_;refine ZW ?_ ?_<;>intro hc4
 ·refine Z_6 ?_;refine ZSe (fun w hi=>DX D.bi d.JH d.mask w (hi.get Zh)) ?_;refine Z_7 ?_;refine Cm ?_;refine⟨X,?_,?_⟩
  ·simp only[dq, *,ac,aa]
  simp only[dq, *,ac,aa]
 refine Z_6 ?_;refine ZW ?_ ?_<;>intro hc6
 ·refine Z_6 ?_;refine ZSe (fun w hi=>Gd D.bti d.timer w (hi.get Zh)) ?_;refine Z_7 ?_;refine Cm ?_;refine⟨X,?_,?_⟩
  ·simp only[dq, *,ac,aa]
  simp only[dq, *,ac,aa]
 refine Z_6 ?_;refine ZW ?_ ?_<;>intro hc8
 ·refine Z_3 ?_;refine Zy (bW rfl rfl Zv0 rfl) ?_;refine Z_7 ?_;refine Cm ?_;refine⟨X,?_,?_⟩
  ·simp only[dq, *,ac,aa]
  simp only[dq, *,ac,aa]
 refine Z_7 ?_;refine ZW ?_ ?_<;>intro hc10
 ·refine Z_2 ?_;refine bU rfl (hc10) ?_;refine Z_9 ?_;refine Cm ?_;refine⟨X,?_,?_⟩
  ·simp only[dq, *,ac,aa]
  simp only[dq, *,ac,aa]
 refine Z_5 ?_;refine ZW ?_ ?_<;>intro hc11
 ·refine Z_9 ?_;refine Cm ?_;refine⟨X,?_,?_⟩
  ·simp only[dq, *,ac,aa]
  simp only[dq, *,ac,aa]
 refine Z_6 ?_;refine ZW ?_ ?_<;>intro hc13
 ·refine Z_6 ?_;refine ZcL ([xn D.bcn X.Ao d.out.length X.co X.Ai d.inp.length X.ci,b8 X.Ai X.ci d.inp]) (fun w hi hin=>In D.bcn X.Ao d.out.length X.co X.Ai X.ci d.inp hinp w hin) ?_;rintro _ _ ⟨_,⟨Ai',ci',rfl,rfl⟩,rfl⟩;refine Zy (bW rfl rfl (Zv rfl) (show IntKind.u32.wrap (gB d.inp 0)=gB d.inp 0 from hgb)) ?_;refine Z_7 ?_;refine bN (mV D bm ⟨X.Ao,X.co,Ai',ci'⟩ {d with inp:=d.inp.tail}) Zj ?_;refine Cm ?_;refine⟨⟨X.Ao,X.co,Ai',ci'⟩,?_,?_⟩
  ·simp only[dq, *,ac,aa]
  simp only[dq, *,ac,aa]
 refine Z_6 ?_;refine ZW ?_ ?_<;>intro hc15
 ·refine Z_6 ?_;refine ZSe (fun w hi=>xj D.bcn X.Ao d.out.length X.co X.Ai d.inp.length X.ci w (hi.get Zh)) ?_;refine Zy (bW rfl rfl (Zv rfl) (u32_wrap_id _ Wq1 Wq1)) ?_;refine Z_7 ?_;refine Cm ?_;refine⟨X,?_,?_⟩
  ·simp only[dq, *,ac,aa]
  simp only[dq, *,ac,aa]
 refine Z_6 ?_;refine ZW ?_ ?_<;>intro hc17
 ·refine jA ?_;refine Cm ?_;refine⟨X,?_,?_⟩
  ·simp only[dq, *,ac,aa]
  simp only[dq, *,ac,aa]
 refine Z_6 ?_;refine ZW ?_ ?_<;>intro hc19
 ·refine jA ?_;refine Cm ?_;refine⟨X,?_,?_⟩
  ·simp only[dq, *,ac,aa]
  simp only[dq, *,ac,aa]
 refine Z_6 ?_;refine ZW ?_ ?_<;>intro hc21
 ·refine jA ?_;refine Cm ?_;refine⟨X,?_,?_⟩
  ·simp only[dq, *,ac,aa]
  simp only[dq, *,ac,aa]
 refine dS ?_;refine Cm ?_;refine⟨X,?_,?_⟩
 ·simp only[dq, *,ac,aa]
 simp only[dq, *,ac,aa]
theorem yP(D:pL)(L:fa)(M:Mem)(X:lz)(d:Dev)(hd:d.wf)(ho:d.out.length≤1000000000)(a v:Nat)(count:Int)(w:World)(hi:Inv w (bK (mV D L.bm X d++[ek L M])) (mV D L.bm X d++[ek L M]) w):
  Ctr prog 248 [.pointer (some ⟨D.bs,0,none⟩),.int .u32 a,.int .u32 v,.int .u64 count] w (mV D L.bm X d++[ek L M]) (fun x cs=>∃X',x= .bool (cP L.n M d (sS a) v).1∧cs=mV D L.bm X' (cP L.n M d (sS a) v).2.2++[ek L (cP L.n M d (sS a) v).2.1]):=by
 obtain⟨k,hk⟩:=Zgn (sS a);rw[hk];unfold sS at hk;refine bL func248 rfl ntmps248 rfl hi ?_;refine Z_9 ?_;refine Zy (dY Zv0 Zv0 hk) ?_;refine Z_9 ?_;refine ZW ?_ ?_<;>intro hc3
 ·refine Z_6 ?_;refine ZcM ([po D.bi d.JH d.mask]) (fun w hi hin=>Eu D.bi d.JH d.mask v w hin) ?_;refine Z_9 ?_;refine bN (mV D L.bm X {d with JH:=bits .andNot .u32 d.JH v}++[ek L M]) Zj ?_;refine Cl ?_;refine⟨X,?_,?_⟩
  ·simp only[cP,fI, *,ac,aa]<;>exact rfl
  simp only[cP,fI, *,ac,aa]<;>exact rfl
 refine Z_6 ?_;refine ZW ?_ ?_<;>intro hc5
 ·refine Z_6 ?_;refine ZcM ([po D.bi d.JH d.mask]) (fun w hi hin=>yA D.bi d.JH d.mask v w hin) ?_;refine Z_9 ?_;refine bN (mV D L.bm X {d with mask:=bits .and .u32 v 255}++[ek L M]) Zj ?_;refine Cl ?_;refine⟨X,?_,?_⟩
  ·simp only[cP,fI, *,ac,aa]<;>exact rfl
  simp only[cP,fI, *,ac,aa]<;>exact rfl
 refine Z_6 ?_;refine ZW ?_ ?_<;>intro hc7
 ·refine Z_6 ?_;refine ZcM ([Bk D.bti d.timer]) (fun w hi hin=>tset_ok D.bti d.timer v w hin) ?_;refine Z_9 ?_;refine bN (mV D L.bm X {d with timer:=v}++[ek L M]) Zj ?_;refine Cl ?_;refine⟨X,?_,?_⟩
  ·simp only[cP,fI, *,ac,aa]<;>exact rfl
  simp only[cP,fI, *,ac,aa]<;>exact rfl
 refine Z_6 ?_;refine ZW ?_ ?_<;>intro hc9
 ·refine Z_6 ?_;refine Zy (bW rfl rfl Zv0 rfl) ?_;refine ZcL ([xn D.bcn X.Ao d.out.length X.co X.Ai d.inp.length X.ci,b8 X.Ao X.co d.out]) (fun w hi hin=>Fi D.bcn X.Ao X.co d.out X.Ai d.inp.length X.ci (IntKind.u8.wrap v) ho w hin) ?_;rintro _ _ ⟨_,⟨Ao',co',rfl,rfl⟩,rfl⟩;refine Z_9 ?_;refine bN (mV D L.bm ⟨Ao',co',X.Ai,X.ci⟩ {d with out:=d.out++[IntKind.u8.wrap v]}++[ek L M]) Zj ?_;refine Cl ?_;refine⟨⟨Ao',co',X.Ai,X.ci⟩,?_,?_⟩
  ·simp only[cP, *,ac,aa]<;>exact rfl
  simp only[cP, *,ac,aa]<;>exact rfl
 refine Z_6 ?_;refine ZW ?_ ?_<;>intro hc11
 ·refine Z_5 ?_;refine ZL ?_;refine Z_9 ?_;refine Cl ?_;refine⟨X,?_,?_⟩
  ·simp only[cP,fI, *,ac,aa]<;>exact rfl
  simp only[cP,fI, *,ac,aa]<;>exact rfl
 refine Z_6 ?_;refine ZW ?_ ?_<;>intro hc13
 ·refine Z_5 ?_;refine ZL ?_;refine Z_9 ?_;refine Cl ?_;refine⟨X,?_,?_⟩
  ·simp only[cP,fI, *,ac,aa]<;>exact rfl
  simp only[cP,fI, *,ac,aa]<;>exact rfl
 refine Z_6 ?_;refine ZW ?_ ?_<;>intro hc15
 ·refine Z_5 ?_;refine ZL ?_;refine Z_4 ?_;refine bR ⟨fun j=>List.elem j [17],[]⟩ Zk ?_;refine gn ?_;refine ZFe 2 3 ?_;refine ZG 3 ?_;refine ZE 4 ?_;refine ZE 5 ?_;refine ZFe 6 4 ?_;refine ZG 7 ?_;refine ZE 8 ?_;refine ZE 9 ?_;refine ZFe 10 5 ?_;refine ZG 11 ?_;refine ZE 12 ?_;refine ZE 13 ?_;refine ZFe 14 6 ?_;refine ZG 15 ?_;refine ZE 16 ?_;refine ce 17 Zk ?_;refine ZcA ([Cs D.bdr D.bdk,yK D.bdk d.JE,ek L M]) (fun w hi hin=>Ij D.bdr D.bdk L M d.JE hd.JE hd.Kk d.Jm d.place v hd.Jm hd.place w hin) ?_;rintro _ _ ⟨_,⟨rfl,rfl⟩,rfl⟩;refine dr ?_;refine Zt ?_;refine ZW ?_ ?_<;>intro hc17
  ·refine Z_4 ?_;refine ZL ?_;refine Z_7 ?_;refine ku ?_;rintro _ _ ⟨b86,rfl,rfl⟩;refine ZcM ([po D.bi d.JH d.mask]) (fun w hi hin=>rM D.bi d.JH d.mask (some ⟨b86,0,none⟩) 1 [2] cJ w hin (fun w' hk=>hi.rdK (show xF _ (po D.bi d.JH d.mask) (slv 3 1 (some ⟨b86,0,none⟩) 1 1 [.int .i64 2])from(by repeat (first|(refine .l _ ?_;repeat (first|exact .head _ _|apply Has.tail))|(refine .r _ ?_;repeat (first|exact .head _ _|apply Has.tail))|apply xF.t))) hk)) ?_;refine Z_9 ?_;refine bN (mV D L.bm X {d with JE:=(gb L.n M d.JE d.Jm d.place v).2.2,status:=0,JH:=bits .or .u32 d.JH (pm [2])}++[ek L (gb L.n M d.JE d.Jm d.place v).2.1]) Zj ?_;refine Cl ?_;refine⟨X,?_,?_⟩
   ·simp only[cP,fI, *,ac,aa]<;>exact rfl
   simp only[cP,fI, *,ac,aa]<;>exact rfl
  refine Z_7 ?_;refine ku ?_;rintro _ _ ⟨b86,rfl,rfl⟩;refine ZcM ([po D.bi d.JH d.mask]) (fun w hi hin=>rM D.bi d.JH d.mask (some ⟨b86,0,none⟩) 1 [2] cJ w hin (fun w' hk=>hi.rdK (show xF _ (po D.bi d.JH d.mask) (slv 3 1 (some ⟨b86,0,none⟩) 1 1 [.int .i64 2])from(by repeat (first|(refine .l _ ?_;repeat (first|exact .head _ _|apply Has.tail))|(refine .r _ ?_;repeat (first|exact .head _ _|apply Has.tail))|apply xF.t))) hk)) ?_;refine Z_9 ?_;refine bN (mV D L.bm X {d with JE:=(gb L.n M d.JE d.Jm d.place v).2.2,status:=1,JH:=bits .or .u32 d.JH (pm [2])}++[ek L (gb L.n M d.JE d.Jm d.place v).2.1]) Zj ?_;refine Cl ?_;refine⟨X,?_,?_⟩
  ·simp only[cP,fI, *,ac,aa]<;>exact rfl
  simp only[cP,fI, *,ac,aa]<;>exact rfl
 refine Z_7 ?_;refine ZW ?_ ?_<;>intro hc20
 ·refine Z_2 ?_;refine bU rfl (hc20) ?_;refine Z_9 ?_;refine Cl ?_;refine⟨X,?_,?_⟩
  ·simp only[cP,fI, *,ac,aa]<;>exact rfl
  simp only[cP,fI, *,ac,aa]<;>exact rfl
 refine Z_6 ?_;refine ZW ?_ ?_<;>intro hc21
 ·refine Z_2 ?_;refine bU rfl (hc21) ?_;refine Z_9 ?_;refine Cl ?_;refine⟨X,?_,?_⟩
  ·simp only[cP,fI, *,ac,aa]<;>exact rfl
  simp only[cP,fI, *,ac,aa]<;>exact rfl
 refine Z_6 ?_;refine ZW ?_ ?_<;>intro hc22
 ·refine Z_2 ?_;refine bU rfl (hc22) ?_;refine Z_9 ?_;refine Cl ?_;refine⟨X,?_,?_⟩
  ·simp only[cP,fI, *,ac,aa]<;>exact rfl
  simp only[cP,fI, *,ac,aa]<;>exact rfl
 refine Z_5 ?_;refine ZW ?_ ?_<;>intro hc23
 ·refine Z_9 ?_;refine Cl ?_;refine⟨X,?_,?_⟩
  ·simp only[cP,fI, *,ac,aa]<;>exact rfl
  simp only[cP,fI, *,ac,aa]<;>exact rfl
 refine Z_8 ?_;refine Cl ?_;refine⟨X,?_,?_⟩
 ·simp only[cP,fI, *,ac,aa]<;>exact rfl
 simp only[cP,fI, *,ac,aa]<;>exact rfl
end Go.Proofs.YtakodpimdalajaaGreatDoor
namespace Go.Ink
open Go.RowKit
def uX(op:Int):Bool:=bif op==16 then true else bif op==17 then true else bif op==18 then true else bif op==19 then true else bif op==20 then true else bif op==21 then true else bif op==22 then true else bif op==23 then true else bif op==24 then true else bif op==25 then true else bif op==48 then true else bif op==49 then true else bif op==50 then true else bif op==51 then true else bif op==52 then true else bif op==53 then true else bif op==64 then true else bif op==65 then true else bif op==66 then true else bif op==67 then true else bif op==68 then true else bif op==69 then true else false
def eU(op:Int):Bool:=bif op==0 then true else bif op==1 then true else bif op==2 then true else bif op==3 then true else bif op==4 then true else bif op==5 then true else bif op==6 then true else bif op==7 then true else bif op==8 then true else bif op==32 then true else bif op==33 then true else bif op==34 then true else bif op==35 then true else bif op==36 then true else bif op==37 then true else bif op==38 then true else bif op==39 then true else bif op==40 then true else uX op
def cy(op:Int):Int:=bif op==1 then 2 else bif op==32 then 2 else bif op==33 then 2 else bif op==34 then 2 else bif op==35 then 2 else bif op==36 then 2 else bif op==37 then 2 else bif op==38 then 2 else bif op==66 then 2 else bif op==67 then 2 else bif op==2 then 5 else bif !eU op then 0 else 1
def gO(op n:Int):Bool:=bif cy op==0 then false else bif cy op==1 then n==0 else bif cy op==2 then decide (n≤255)else true
def rq(op:Int):Bool:=decide (65≤op)&&decide (op≤69)
def dz(r:Int):Int:=bif bits .and .u32 r 2147483648 !=0 then bits .or .u32 (bif r==0 then bits .or .u32 0 1 else 0) 2 else bif r==0 then bits .or .u32 0 1 else 0
def gQ(a b:Int)(up:Bool):Int:=bif decide (32≤b)then 0 else bif up then IntKind.u32.wrap (a*2^(min b.toNat IntKind.u32.bits))else a.fdiv (2^(min b.toNat IntKind.u32.bits))
def jf(a b r f:Int)(c:Bool)(o:Int):Int:=bif o !=0 then bits .or .u32 (bif c then bits .or .u32 f 4 else f) 8 else bif c then bits .or .u32 f 4 else f
def jU(a b:Int):Int:=jf a b 0 (dz (IntKind.u32.wrap (a - b))) (decide (a<b)) (bits .and .u32 (bits .and .u32 (bits .xor .u32 a b) (bits .xor .u32 a (IntKind.u32.wrap (a - b)))) 2147483648)
def mi(a b:Int):Int:=jf a b 0 (dz (IntKind.u32.wrap (a+b))) (decide (IntKind.u32.wrap (a+b)<a)) (bits .and .u32 (bits .and .u32 (bits .xor .u32 a (IntKind.u32.wrap (a+b))) (bits .xor .u32 b (IntKind.u32.wrap (a+b)))) 2147483648)
def uj(r:Int):Int×Int×Bool:=(r,dz r,true)
def iu(op a b:Int):Int×Int×Bool:=
 bif op==16 then(IntKind.u32.wrap (a+b),mi a b,true)else bif op==17 then(IntKind.u32.wrap (a - b),jU a b,true)else bif op==25 then(0,jU a b,true)else bif op==18 then uj (bits .and .u32 a b)else bif op==19 then uj (bits .or .u32 a b)else bif op==20 then uj (bits .xor .u32 a b)else bif op==21 then uj (gQ a b true)else bif op==22 then uj (gQ a b false)else bif op==23 then uj (IntKind.u32.wrap (a*b))else bif op==24 then(bif b==0 then(0,0,false)else uj (IntKind.u32.wrap (a.tdiv b)))else(0,0,false)
def cY(op f:Int):Bool×Bool:=bif op==33 then(bits .and .u32 f 1 !=0,true)else bif op==34 then(bits .and .u32 f 1==0,true)else bif op==35 then(bits .and .u32 f 4 !=0,true)else bif op==36 then(bits .and .u32 f 2 !=0,true)else bif op==37 then(bits .and .u32 f 8 !=0,true)else(false,false)
def kL(b:Int):Int:=IntKind.u32.wrap (IntKind.i32.wrap (IntKind.i8.wrap b))
def bS(op:Int):(Nat×Nat)×(Nat×Nat):=
 bif op==1 then((0,1),(0,0))else bif op==2 then((0,1),(0,0))else bif op==66 then((0,1),(0,0))else bif op==3 then((1,2),(0,0))else bif op==4 then((1,0),(0,0))else bif op==40 then((1,0),(0,0))else bif op==67 then((1,0),(0,0))else bif op==68 then((1,0),(0,0))else bif op==5 then((2,2),(0,0))else bif op==6 then((2,3),(0,0))else bif op==7 then((1,0),(0,1))else bif op==8 then((0,1),(1,0))else bif op==16 then((2,1),(0,0))else bif op==17 then((2,1),(0,0))else bif op==18 then((2,1),(0,0))else bif op==19 then((2,1),(0,0))else bif op==20 then((2,1),(0,0))else bif op==21 then((2,1),(0,0))else bif op==22 then((2,1),(0,0))else bif op==23 then((2,1),(0,0))else bif op==24 then((2,1),(0,0))else bif op==25 then((2,0),(0,0))else bif op==49 then((2,0),(0,0))else bif op==51 then((2,0),(0,0))else bif op==53 then((2,0),(0,0))else bif op==48 then((1,1),(0,0))else bif op==50 then((1,1),(0,0))else bif op==52 then((1,1),(0,0))else bif op==38 then((0,0),(0,1))else bif op==39 then((0,0),(1,0))else((0,0),(0,0))
end Go.Ink
namespace Go.Proofs.YtakodpimdalajaaGreatDoor
open Go.RowKit Go.Ink Go.Proofs.Tryz
attribute [local irreducible] OpY bP
theorem GP(op:Int)(w:World):Ctr prog 240 [.int .i64 op] w [] (fun v cs=>(∃s,v= .string s∧(s.data.toList==[])= !uX op)∧cs=[]):=by
 refine bL func240 rfl ntmps240 rfl (Inv.start w) ?_;refine AI ?_;refine ZW ?_ ?_<;>intro hc2
 ·refine fG ?_;refine⟨⟨_,rfl,?_⟩,rfl⟩;exact sA
 refine Z_6 ?_;refine ZW ?_ ?_<;>intro hc4
 ·refine fG ?_;refine⟨⟨_,rfl,?_⟩,rfl⟩;exact sA
 refine Z_6 ?_;refine ZW ?_ ?_<;>intro hc6
 ·refine fG ?_;refine⟨⟨_,rfl,?_⟩,rfl⟩;exact sA
 refine Z_6 ?_;refine ZW ?_ ?_<;>intro hc8
 ·refine fG ?_;refine⟨⟨_,rfl,?_⟩,rfl⟩;exact sA
 refine Z_6 ?_;refine ZW ?_ ?_<;>intro hc10
 ·refine fG ?_;refine⟨⟨_,rfl,?_⟩,rfl⟩;exact sA
 refine Z_6 ?_;refine ZW ?_ ?_<;>intro hc12
 ·refine fG ?_;refine⟨⟨_,rfl,?_⟩,rfl⟩;exact sA
 refine Z_6 ?_;refine ZW ?_ ?_<;>intro hc14
 ·refine fG ?_;refine⟨⟨_,rfl,?_⟩,rfl⟩;exact sA
 refine Z_6 ?_;refine ZW ?_ ?_<;>intro hc16
 ·refine fG ?_;refine⟨⟨_,rfl,?_⟩,rfl⟩;exact sA
 refine Z_6 ?_;refine ZW ?_ ?_<;>intro hc18
 ·refine fG ?_;refine⟨⟨_,rfl,?_⟩,rfl⟩;exact sA
 refine Z_6 ?_;refine ZW ?_ ?_<;>intro hc20
 ·refine fG ?_;refine⟨⟨_,rfl,?_⟩,rfl⟩;exact sA
 refine Z_6 ?_;refine ZW ?_ ?_<;>intro hc22
 ·refine fG ?_;refine⟨⟨_,rfl,?_⟩,rfl⟩;exact sA
 refine Z_6 ?_;refine ZW ?_ ?_<;>intro hc24
 ·refine fG ?_;refine⟨⟨_,rfl,?_⟩,rfl⟩;exact sA
 refine Z_6 ?_;refine ZW ?_ ?_<;>intro hc26
 ·refine fG ?_;refine⟨⟨_,rfl,?_⟩,rfl⟩;exact sA
 refine Z_6 ?_;refine ZW ?_ ?_<;>intro hc28
 ·refine fG ?_;refine⟨⟨_,rfl,?_⟩,rfl⟩;exact sA
 refine Z_6 ?_;refine ZW ?_ ?_<;>intro hc30
 ·refine fG ?_;refine⟨⟨_,rfl,?_⟩,rfl⟩;exact sA
 refine Z_6 ?_;refine ZW ?_ ?_<;>intro hc32
 ·refine fG ?_;refine⟨⟨_,rfl,?_⟩,rfl⟩;exact sA
 refine Z_6 ?_;refine ZW ?_ ?_<;>intro hc34
 ·refine fG ?_;refine⟨⟨_,rfl,?_⟩,rfl⟩;exact sA
 refine Z_6 ?_;refine ZW ?_ ?_<;>intro hc36
 ·refine fG ?_;refine⟨⟨_,rfl,?_⟩,rfl⟩;exact sA
 refine Z_6 ?_;refine ZW ?_ ?_<;>intro hc38
 ·refine fG ?_;refine⟨⟨_,rfl,?_⟩,rfl⟩;exact sA
 refine Z_6 ?_;refine ZW ?_ ?_<;>intro hc40
 ·refine fG ?_;refine⟨⟨_,rfl,?_⟩,rfl⟩;exact sA
 refine Z_6 ?_;refine ZW ?_ ?_<;>intro hc42
 ·refine fG ?_;refine⟨⟨_,rfl,?_⟩,rfl⟩;exact sA
 refine Z_6 ?_;refine ZW ?_ ?_<;>intro hc44
 ·refine fG ?_;refine⟨⟨_,rfl,?_⟩,rfl⟩;exact sA
 refine Z_9 ?_;refine Zra ?_;refine⟨⟨_,rfl,?_⟩,rfl⟩;exact sA
theorem name_ok(op:Int)(w:World):Ctr prog 190 [.int .i64 op] w [] (fun v cs=>(∃s,v= .string s∧(s.data.toList==[])= !eU op)∧cs=[]):=by
 refine bL func190 rfl ntmps190 rfl (Inv.start w) ?_;refine AI ?_;refine ZW ?_ ?_<;>intro hc2
 ·refine fG ?_;refine⟨⟨_,rfl,?_⟩,rfl⟩;simp only[eU, *,ac,aa];exact rfl
 refine Z_6 ?_;refine ZW ?_ ?_<;>intro hc4
 ·refine fG ?_;refine⟨⟨_,rfl,?_⟩,rfl⟩;simp only[eU, *,ac,aa];exact rfl
 refine Z_6 ?_;refine ZW ?_ ?_<;>intro hc6
 ·refine fG ?_;refine⟨⟨_,rfl,?_⟩,rfl⟩;simp only[eU, *,ac,aa];exact rfl
 refine Z_6 ?_;refine ZW ?_ ?_<;>intro hc8
 ·refine fG ?_;refine⟨⟨_,rfl,?_⟩,rfl⟩;simp only[eU, *,ac,aa];exact rfl
 refine Z_6 ?_;refine ZW ?_ ?_<;>intro hc10
 ·refine fG ?_;refine⟨⟨_,rfl,?_⟩,rfl⟩;simp only[eU, *,ac,aa];exact rfl
 refine Z_6 ?_;refine ZW ?_ ?_<;>intro hc12
 ·refine fG ?_;refine⟨⟨_,rfl,?_⟩,rfl⟩;simp only[eU, *,ac,aa];exact rfl
 refine Z_6 ?_;refine ZW ?_ ?_<;>intro hc14
 ·refine fG ?_;refine⟨⟨_,rfl,?_⟩,rfl⟩;simp only[eU, *,ac,aa];exact rfl
 refine Z_6 ?_;refine ZW ?_ ?_<;>intro hc16
 ·refine fG ?_;refine⟨⟨_,rfl,?_⟩,rfl⟩;simp only[eU, *,ac,aa];exact rfl
 refine Z_6 ?_;refine ZW ?_ ?_<;>intro hc18
 ·refine fG ?_;refine⟨⟨_,rfl,?_⟩,rfl⟩;simp only[eU, *,ac,aa];exact rfl
 refine Z_6 ?_;refine ZW ?_ ?_<;>intro hc20
 ·refine fG ?_;refine⟨⟨_,rfl,?_⟩,rfl⟩;simp only[eU, *,ac,aa];exact rfl
 refine Z_6 ?_;refine ZW ?_ ?_<;>intro hc22
 ·refine fG ?_;refine⟨⟨_,rfl,?_⟩,rfl⟩;simp only[eU, *,ac,aa];exact rfl
 refine Z_6 ?_;refine ZW ?_ ?_<;>intro hc24
 ·refine fG ?_;refine⟨⟨_,rfl,?_⟩,rfl⟩;simp only[eU, *,ac,aa];exact rfl
 refine Z_6 ?_;refine ZW ?_ ?_<;>intro hc26
 ·refine fG ?_;refine⟨⟨_,rfl,?_⟩,rfl⟩;simp only[eU, *,ac,aa];exact rfl
 refine Z_6 ?_;refine ZW ?_ ?_<;>intro hc28
 ·refine fG ?_;refine⟨⟨_,rfl,?_⟩,rfl⟩;simp only[eU, *,ac,aa];exact rfl
 refine Z_6 ?_;refine ZW ?_ ?_<;>intro hc30
 ·refine fG ?_;refine⟨⟨_,rfl,?_⟩,rfl⟩;simp only[eU, *,ac,aa];exact rfl
 refine Z_6 ?_;refine ZW ?_ ?_<;>intro hc32
 ·refine fG ?_;refine⟨⟨_,rfl,?_⟩,rfl⟩;simp only[eU, *,ac,aa];exact rfl
 refine Z_6 ?_;refine ZW ?_ ?_<;>intro hc34
 ·refine fG ?_;refine⟨⟨_,rfl,?_⟩,rfl⟩;simp only[eU, *,ac,aa];exact rfl
 refine Z_6 ?_;refine ZW ?_ ?_<;>intro hc36
 ·refine fG ?_;refine⟨⟨_,rfl,?_⟩,rfl⟩;simp only[eU, *,ac,aa];exact rfl
 refine Z_6 ?_;refine ZS (fun w hi=>GP op w) ?_;rintro _ _ ⟨_,⟨⟨s,rfl,hs⟩,rfl⟩,rfl⟩;refine Z_4 ?_;have hz:=hs;refine Zra ?_;refine⟨⟨_,rfl,?_⟩,rfl⟩;rw[hs];simp only[eU, *,ac,aa]
theorem uE(op:Int)(w:World):Ctr prog 140 [.int .i64 op] w [] (fun v cs=>v= .int .i64 (cy op)∧cs=[]):=by
 refine bL func140 rfl ntmps140 rfl (Inv.start w) ?_;refine FT ?_;refine ZW ?_ ?_<;>intro hc2
 ·refine Z_2 ?_;refine bU rfl (hc2) ?_;refine fG ?_;refine⟨?_,rfl⟩;simp only[cy, *,ac,aa]
 refine Z_6 ?_;refine ZW ?_ ?_<;>intro hc3
 ·refine Z_2 ?_;refine bU rfl (hc3) ?_;refine fG ?_;refine⟨?_,rfl⟩;simp only[cy, *,ac,aa]
 refine Z_6 ?_;refine ZW ?_ ?_<;>intro hc4
 ·refine Z_2 ?_;refine bU rfl (hc4) ?_;refine fG ?_;refine⟨?_,rfl⟩;simp only[cy, *,ac,aa]
 refine Z_6 ?_;refine ZW ?_ ?_<;>intro hc5
 ·refine Z_2 ?_;refine bU rfl (hc5) ?_;refine fG ?_;refine⟨?_,rfl⟩;simp only[cy, *,ac,aa]
 refine Z_6 ?_;refine ZW ?_ ?_<;>intro hc6
 ·refine Z_2 ?_;refine bU rfl (hc6) ?_;refine fG ?_;refine⟨?_,rfl⟩;simp only[cy, *,ac,aa]
 refine Z_6 ?_;refine ZW ?_ ?_<;>intro hc7
 ·refine Z_2 ?_;refine bU rfl (hc7) ?_;refine fG ?_;refine⟨?_,rfl⟩;simp only[cy, *,ac,aa]
 refine Z_6 ?_;refine ZW ?_ ?_<;>intro hc8
 ·refine Z_2 ?_;refine bU rfl (hc8) ?_;refine fG ?_;refine⟨?_,rfl⟩;simp only[cy, *,ac,aa]
 refine Z_6 ?_;refine ZW ?_ ?_<;>intro hc9
 ·refine Z_2 ?_;refine bU rfl (hc9) ?_;refine fG ?_;refine⟨?_,rfl⟩;simp only[cy, *,ac,aa]
 refine Z_6 ?_;refine ZW ?_ ?_<;>intro hc10
 ·refine Z_2 ?_;refine bU rfl (hc10) ?_;refine fG ?_;refine⟨?_,rfl⟩;simp only[cy, *,ac,aa]
 refine Z_5 ?_;refine ZW ?_ ?_<;>intro hc11
 ·refine fG ?_;refine⟨?_,rfl⟩;simp only[cy, *,ac,aa]
 refine Z_6 ?_;refine ZW ?_ ?_<;>intro hc13
 ·refine fG ?_;refine⟨?_,rfl⟩;simp only[cy, *,ac,aa]
 refine Z_7 ?_;refine ZS (fun w hi=>name_ok op w) ?_;rintro _ _ ⟨_,⟨⟨s,rfl,hs⟩,rfl⟩,rfl⟩;refine Zy (qE rfl (Zv rfl) (Zv rfl) hs) ?_;refine Z_2 ?_;refine ZW ?_ ?_<;>intro hc15
 ·refine Z_7 ?_;refine Zra ?_;refine⟨?_,rfl⟩;simp only[cy, *,ac,aa]
 refine fG ?_;refine⟨?_,rfl⟩;simp only[cy, *,ac,aa]
theorem wX(op n:Int)(w:World):Ctr prog 164 [.agg #[.int .i64 op,.int .u32 n]] w [] (fun v cs=>v= .bool (gO op n)∧cs=[]):=by
 refine bL func164 rfl ntmps164 rfl (Inv.start w) ?_;refine Z_2 ?_;refine ZO fun b1=>?_;refine Z_8 ?_;refine ZSe (fun w hi=>uE op w) ?_;refine Z_9 ?_;refine ZW ?_ ?_<;>intro hc2
 ·refine fG ?_;refine⟨?_,rfl⟩;simp only[gO, *,ac,aa]
 refine Z_6 ?_;refine ZW ?_ ?_<;>intro hc4
 ·refine fF ?_;refine Zra ?_;refine⟨?_,rfl⟩;simp only[gO, *,ac,aa]
 refine Z_6 ?_;refine ZW ?_ ?_<;>intro hc6
 ·refine fF ?_;refine Zra ?_;refine⟨?_,rfl⟩;simp only[gO, *,ac,aa]
 refine Z_9 ?_;refine Zra ?_;refine⟨?_,rfl⟩;simp only[gO, *,ac,aa]
theorem EF(op:Int)(w:World):Ctr prog 186 [.int .i64 op] w [] (fun v cs=>v= .bool (rq op)∧cs=[]):=by
 refine bL func186 rfl ntmps186 rfl (Inv.start w) ?_;refine vz ?_;refine Zra ?_;exact df
theorem jx(r:Int)(w:World):Ctr prog 244 [.int .u32 r] w [] (fun v cs=>v= .int .u32 (dz r)∧cs=[]):=by
 refine bL func244 rfl ntmps244 rfl (Inv.start w) ?_;refine vz ?_;refine ZW ?_ ?_<;>intro hc2
 ·refine gL ?_;refine ZW ?_ ?_<;>intro hc4
  ·refine jA ?_;refine Zra ?_;refine⟨?_,rfl⟩;simp only[dz, *,ac,aa]
  refine Z_9 ?_;refine Zra ?_;refine⟨?_,rfl⟩;simp only[dz, *,ac,aa]
 refine dS ?_;refine ZW ?_ ?_<;>intro hc4
 ·refine jA ?_;refine Zra ?_;refine⟨?_,rfl⟩;simp only[dz, *,ac,aa]
 refine Z_9 ?_;refine Zra ?_;refine⟨?_,rfl⟩;simp only[dz, *,ac,aa]
theorem zD(a b:Int)(up:Bool)(hb:0≤b)(w:World):Ctr prog 243 [.int .u32 a,.int .u32 b,.bool up] w [] (fun v cs=>v= .int .u32 (gQ a b up)∧cs=[]):=by
 refine bL func243 rfl ntmps243 rfl (Inv.start w) ?_;refine gL ?_;refine ZW ?_ ?_<;>intro hc1
 ·refine fG ?_;refine⟨?_,rfl⟩;simp only[gQ, *,ac,aa]
 refine Z_6 ?_;refine ZW ?_ ?_<;>intro hc3
 ·refine Z_4 ?_;refine Zy (ux (Zv rfl) (Zv rfl) Wq1 rfl) ?_;refine Z_6 ?_;refine Zra ?_;refine⟨?_,rfl⟩;simp only[gQ, *,ac,aa]
 refine Z_7 ?_;refine Zy (j0 (Zv rfl) (Zv rfl) Wq1 rfl) ?_;refine Z_4 ?_;refine Zra ?_;refine⟨?_,rfl⟩;simp only[gQ, *,ac,aa]
theorem Ea(a b:Int)(w:World):Ctr prog 242 [.int .u32 a,.int .u32 b] w [] (fun v cs=>v= .int .u32 (jU a b)∧cs=[]):=by
 refine bL func242 rfl ntmps242 rfl (Inv.start w) ?_;refine Z_9 ?_;refine Zy (dY Zv0 Zv0 rfl) ?_;refine Z_6 ?_;refine ZSe (fun w hi=>jx _ w) ?_;refine fF ?_;refine ZW ?_ ?_<;>intro hc3
 ·refine lw ?_;refine ZW ?_ ?_<;>intro hc5
  ·refine jA ?_;refine Zra ?_;refine⟨?_,rfl⟩;simp only[jU,jf, *,ac,aa]
  refine Z_9 ?_;refine Zra ?_;refine⟨?_,rfl⟩;simp only[jU,jf, *,ac,aa]
 refine p5 ?_;refine ZW ?_ ?_<;>intro hc5
 ·refine jA ?_;refine Zra ?_;refine⟨?_,rfl⟩;simp only[jU,jf, *,ac,aa]
 refine Z_9 ?_;refine Zra ?_;refine⟨?_,rfl⟩;simp only[jU,jf, *,ac,aa]
theorem more_ok(a b:Int)(w:World):Ctr prog 241 [.int .u32 a,.int .u32 b] w [] (fun v cs=>v= .int .u32 (mi a b)∧cs=[]):=by
 refine bL func241 rfl ntmps241 rfl (Inv.start w) ?_;refine Z_9 ?_;refine Zy (cX Zv0 Zv0 rfl) ?_;refine Z_6 ?_;refine ZSe (fun w hi=>jx _ w) ?_;refine fF ?_;refine ZW ?_ ?_<;>intro hc3
 ·refine lw ?_;refine ZW ?_ ?_<;>intro hc5
  ·refine jA ?_;refine Zra ?_;refine⟨?_,rfl⟩;simp only[mi,jf, *,ac,aa]
  refine Z_9 ?_;refine Zra ?_;refine⟨?_,rfl⟩;simp only[mi,jf, *,ac,aa]
 refine p5 ?_;refine ZW ?_ ?_<;>intro hc5
 ·refine jA ?_;refine Zra ?_;refine⟨?_,rfl⟩;simp only[mi,jf, *,ac,aa]
 refine Z_9 ?_;refine Zra ?_;refine⟨?_,rfl⟩;simp only[mi,jf, *,ac,aa]
theorem ado_ok(op a b:Int)(hb:0≤b)(w:World):Ctr prog 194 [.int .i64 op,.int .u32 a,.int .u32 b] w [] (fun v cs=>v= .tuple #[.int .u32 (iu op a b).1,.int .u32 (iu op a b).2.1,.bool (iu op a b).2.2]∧cs=[]):=by
 refine bL func194 rfl ntmps194 rfl (Inv.start w) ?_;refine lw ?_;refine Z_5 ?_;refine ZW ?_ ?_<;>intro hc4
 ·refine Z_4 ?_;refine Zy (cX Zv0 Zv0 rfl) ?_;refine Z_2 ?_;refine ZSe (fun w hi=>more_ok a b w) ?_;refine Z_8 ?_;refine sK (cs':=[]) (.inl rfl) Zu rfl rfl rfl rfl ?_;refine⟨?_,rfl⟩;simp only[iu,uj, *,ac,aa]
 refine Z_6 ?_;refine ZW ?_ ?_<;>intro hc6
 ·refine Z_4 ?_;refine Zy (dY Zv0 Zv0 rfl) ?_;refine Z_2 ?_;refine ZSe (fun w hi=>Ea a b w) ?_;refine Z_8 ?_;refine sK (cs':=[]) (.inl rfl) Zu rfl rfl rfl rfl ?_;refine⟨?_,rfl⟩;simp only[iu,uj, *,ac,aa]
 refine Z_6 ?_;refine ZW ?_ ?_<;>intro hc8
 ·refine Z_4 ?_;refine ZSe (fun w hi=>Ea a b w) ?_;refine Z_8 ?_;refine sK (cs':=[]) (.inl rfl) Zu rfl rfl rfl rfl ?_;refine⟨?_,rfl⟩;simp only[iu,uj, *,ac,aa]
 refine Z_6 ?_;refine ZW ?_ ?_<;>intro hc10
 ·refine gE ?_;refine ZSe (fun w hi=>jx _ w) ?_;refine Z_6 ?_;refine sK (cs':=[]) (.inl rfl) Zu rfl rfl rfl rfl ?_;refine⟨?_,rfl⟩;simp only[iu,uj, *,ac,aa]
 refine Z_6 ?_;refine ZW ?_ ?_<;>intro hc12
 ·refine gE ?_;refine ZSe (fun w hi=>jx _ w) ?_;refine Z_6 ?_;refine sK (cs':=[]) (.inl rfl) Zu rfl rfl rfl rfl ?_;refine⟨?_,rfl⟩;simp only[iu,uj, *,ac,aa]
 refine Z_6 ?_;refine ZW ?_ ?_<;>intro hc14
 ·refine gE ?_;refine ZSe (fun w hi=>jx _ w) ?_;refine Z_6 ?_;refine sK (cs':=[]) (.inl rfl) Zu rfl rfl rfl rfl ?_;refine⟨?_,rfl⟩;simp only[iu,uj, *,ac,aa]
 refine Z_6 ?_;refine ZW ?_ ?_<;>intro hc16
 ·refine Z_3 ?_;refine ZSe (fun w hi=>zD a b _ hb w) ?_;refine Z_8 ?_;refine ZSe (fun w hi=>jx _ w) ?_;refine Z_6 ?_;refine sK (cs':=[]) (.inl rfl) Zu rfl rfl rfl rfl ?_;refine⟨?_,rfl⟩;simp only[iu,uj, *,ac,aa]
 refine Z_6 ?_;refine ZW ?_ ?_<;>intro hc18
 ·refine Z_3 ?_;refine ZSe (fun w hi=>zD a b _ hb w) ?_;refine Z_8 ?_;refine ZSe (fun w hi=>jx _ w) ?_;refine Z_6 ?_;refine sK (cs':=[]) (.inl rfl) Zu rfl rfl rfl rfl ?_;refine⟨?_,rfl⟩;simp only[iu,uj, *,ac,aa]
 refine Z_6 ?_;refine ZW ?_ ?_<;>intro hc20
 ·refine Z_3 ?_;refine Zy (i4 Zv0 Zv0 rfl) ?_;refine Z_8 ?_;refine ZSe (fun w hi=>jx _ w) ?_;refine Z_6 ?_;refine sK (cs':=[]) (.inl rfl) Zu rfl rfl rfl rfl ?_;refine⟨?_,rfl⟩;simp only[iu,uj, *,ac,aa]
 refine Z_6 ?_;refine ZW ?_ ?_<;>intro hc22
 ·refine Z_7 ?_;refine ZW ?_ ?_<;>intro hc23
  ·refine fF ?_;refine sK (cs':=[]) (.inl rfl) Zu rfl rfl rfl rfl ?_;refine⟨?_,rfl⟩;simp only[iu,uj, *,ac,aa]
  have hb0:b≠0:=by simpa using hc23
  refine Z_5 ?_;refine Zy (jD (Zv rfl) (Zv rfl) Wq1 (by first|exact IntWalk.u32_quo _ _ ⟨by omega,by omega,by omega⟩|exact rfl)) ?_;refine Z_8 ?_;refine ZSe (fun w hi=>jx _ w) ?_;refine Z_6 ?_;refine sK (cs':=[]) (.inl rfl) Zu rfl rfl rfl rfl ?_;refine⟨?_,rfl⟩;simp only[iu,uj, *,ac,aa]
 refine dS ?_;refine sK (cs':=[]) (.inl rfl) Zu rfl rfl rfl rfl ?_;refine⟨?_,rfl⟩;simp only[iu,uj, *,ac,aa]
theorem Ht(op f:Int)(w:World):Ctr prog 196 [.int .i64 op,.int .u32 f] w [] (fun v cs=>v= .tuple #[.bool (cY op f).1,.bool (cY op f).2]∧cs=[]):=by
 refine bL func196 rfl ntmps196 rfl (Inv.start w) ?_;refine FT ?_;refine ZW ?_ ?_<;>intro hc2
 ·refine gE ?_;refine jh ?_;refine⟨?_,rfl⟩;simp only[cY, *,ac,aa]
 refine Z_6 ?_;refine ZW ?_ ?_<;>intro hc4
 ·refine gE ?_;refine jh ?_;refine⟨?_,rfl⟩;simp only[cY, *,ac,aa]
 refine Z_6 ?_;refine ZW ?_ ?_<;>intro hc6
 ·refine gE ?_;refine jh ?_;refine⟨?_,rfl⟩;simp only[cY, *,ac,aa]
 refine Z_6 ?_;refine ZW ?_ ?_<;>intro hc8
 ·refine gE ?_;refine jh ?_;refine⟨?_,rfl⟩;simp only[cY, *,ac,aa]
 refine Z_6 ?_;refine ZW ?_ ?_<;>intro hc10
 ·refine gE ?_;refine jh ?_;refine⟨?_,rfl⟩;simp only[cY, *,ac,aa]
 refine dS ?_;refine jh ?_;refine⟨?_,rfl⟩;simp only[cY, *,ac,aa]
theorem xZ(b:Int)(w:World):Ctr prog 166 [.int .u32 b] w [] (fun v cs=>v= .int .u32 (kL b)∧cs=[]):=by
 refine bL func166 rfl ntmps166 rfl (Inv.start w) ?_;refine Z_8 ?_;refine Zy (bW rfl rfl Zv0 rfl) ?_;refine Zy (bW rfl rfl Zv0 rfl) ?_;refine Zy (bW rfl rfl Zv0 rfl) ?_;refine Z_4 ?_;refine Zra ?_;exact df
theorem GW(op:Int)(w:World):Ctr prog 189 [.int .i64 op] w [] (fun v cs=>v= .tuple #[.int .i64 ((bS op).1.1:Nat),.int .i64 ((bS op).1.2:Nat),.int .i64 ((bS op).2.1:Nat),.int .i64 ((bS op).2.2:Nat)]∧cs=[]):=by
 refine bL func189 rfl ntmps189 rfl (Inv.start w) ?_;refine lw ?_;refine Z_2 ?_;refine ZW ?_ ?_<;>intro hc2
 ·refine Z_2 ?_;refine bU rfl (hc2) ?_;refine nE ?_;refine⟨?_,rfl⟩;exact nA
 refine Z_6 ?_;refine ZW ?_ ?_<;>intro hc3
 ·refine Z_2 ?_;refine bU rfl (hc3) ?_;refine nE ?_;refine⟨?_,rfl⟩;exact nA
 refine Z_5 ?_;refine ZW ?_ ?_<;>intro hc4
 ·refine nE ?_;refine⟨?_,rfl⟩;exact nA
 refine Z_6 ?_;refine ZW ?_ ?_<;>intro hc6
 ·refine nE ?_;refine⟨?_,rfl⟩;exact nA
 refine Z_7 ?_;refine ZW ?_ ?_<;>intro hc8
 ·refine Z_2 ?_;refine bU rfl (hc8) ?_;refine nE ?_;refine⟨?_,rfl⟩;exact nA
 refine Z_6 ?_;refine ZW ?_ ?_<;>intro hc9
 ·refine Z_2 ?_;refine bU rfl (hc9) ?_;refine nE ?_;refine⟨?_,rfl⟩;exact nA
 refine Z_6 ?_;refine ZW ?_ ?_<;>intro hc10
 ·refine Z_2 ?_;refine bU rfl (hc10) ?_;refine nE ?_;refine⟨?_,rfl⟩;exact nA
 refine Z_5 ?_;refine ZW ?_ ?_<;>intro hc11
 ·refine nE ?_;refine⟨?_,rfl⟩;exact nA
 refine Z_6 ?_;refine ZW ?_ ?_<;>intro hc13
 ·refine nE ?_;refine⟨?_,rfl⟩;exact nA
 refine Z_6 ?_;refine ZW ?_ ?_<;>intro hc15
 ·refine nE ?_;refine⟨?_,rfl⟩;exact nA
 refine Z_6 ?_;refine ZW ?_ ?_<;>intro hc17
 ·refine nE ?_;refine⟨?_,rfl⟩;exact nA
 refine Z_6 ?_;refine ZW ?_ ?_<;>intro hc19
 ·refine nE ?_;refine⟨?_,rfl⟩;exact nA
 refine Z_7 ?_;refine ZW ?_ ?_<;>intro hc21
 ·refine Z_2 ?_;refine bU rfl (hc21) ?_;refine nE ?_;refine⟨?_,rfl⟩;exact nA
 refine Z_6 ?_;refine ZW ?_ ?_<;>intro hc22
 ·refine Z_2 ?_;refine bU rfl (hc22) ?_;refine nE ?_;refine⟨?_,rfl⟩;exact nA
 refine Z_6 ?_;refine ZW ?_ ?_<;>intro hc23
 ·refine Z_2 ?_;refine bU rfl (hc23) ?_;refine nE ?_;refine⟨?_,rfl⟩;exact nA
 refine Z_6 ?_;refine ZW ?_ ?_<;>intro hc24
 ·refine Z_2 ?_;refine bU rfl (hc24) ?_;refine nE ?_;refine⟨?_,rfl⟩;exact nA
 refine Z_6 ?_;refine ZW ?_ ?_<;>intro hc25
 ·refine Z_2 ?_;refine bU rfl (hc25) ?_;refine nE ?_;refine⟨?_,rfl⟩;exact nA
 refine Z_6 ?_;refine ZW ?_ ?_<;>intro hc26
 ·refine Z_2 ?_;refine bU rfl (hc26) ?_;refine nE ?_;refine⟨?_,rfl⟩;exact nA
 refine Z_6 ?_;refine ZW ?_ ?_<;>intro hc27
 ·refine Z_2 ?_;refine bU rfl (hc27) ?_;refine nE ?_;refine⟨?_,rfl⟩;exact nA
 refine Z_6 ?_;refine ZW ?_ ?_<;>intro hc28
 ·refine Z_2 ?_;refine bU rfl (hc28) ?_;refine nE ?_;refine⟨?_,rfl⟩;exact nA
 refine Z_5 ?_;refine ZW ?_ ?_<;>intro hc29
 ·refine nE ?_;refine⟨?_,rfl⟩;exact nA
 refine Z_7 ?_;refine ZW ?_ ?_<;>intro hc31
 ·refine Z_2 ?_;refine bU rfl (hc31) ?_;refine nE ?_;refine⟨?_,rfl⟩;exact nA
 refine Z_6 ?_;refine ZW ?_ ?_<;>intro hc32
 ·refine Z_2 ?_;refine bU rfl (hc32) ?_;refine nE ?_;refine⟨?_,rfl⟩;exact nA
 refine Z_6 ?_;refine ZW ?_ ?_<;>intro hc33
 ·refine Z_2 ?_;refine bU rfl (hc33) ?_;refine nE ?_;refine⟨?_,rfl⟩;exact nA
 refine Z_5 ?_;refine ZW ?_ ?_<;>intro hc34
 ·refine nE ?_;refine⟨?_,rfl⟩;exact nA
 refine Z_7 ?_;refine ZW ?_ ?_<;>intro hc36
 ·refine Z_2 ?_;refine bU rfl (hc36) ?_;refine nE ?_;refine⟨?_,rfl⟩;exact nA
 refine Z_6 ?_;refine ZW ?_ ?_<;>intro hc37
 ·refine Z_2 ?_;refine bU rfl (hc37) ?_;refine nE ?_;refine⟨?_,rfl⟩;exact nA
 refine Z_5 ?_;refine ZW ?_ ?_<;>intro hc38
 ·refine nE ?_;refine⟨?_,rfl⟩;exact nA
 refine Z_6 ?_;refine ZW ?_ ?_<;>intro hc40
 ·refine nE ?_;refine⟨?_,rfl⟩;exact nA
 refine Z_6 ?_;refine ZW ?_ ?_<;>intro hc42
 ·refine nE ?_;refine⟨?_,rfl⟩;exact nA
 refine gE ?_;refine ret4 (cs':=[]) (.inl rfl) Zu rfl rfl rfl rfl rfl ?_;refine⟨?_,rfl⟩;exact nA
end Go.Proofs.YtakodpimdalajaaGreatDoor
namespace Go.Ink
open Go.RowKit
structure Run where
 s:St
 count:Int
 JA:Tr
 device:Bool
abbrev Run.wd(R:Run)(l:List Int):Run:=⟨⟨R.s.pc,l,R.s.r,R.s.flags,R.s.Jq,R.s.Jv,R.s.ie,R.s.root,R.s.vec,R.s.epc,R.s.Jr,R.s.addr,R.s.JC,R.s.eie,R.s.count,R.s.halted⟩,R.count,R.JA,R.device⟩
abbrev Run.wr(R:Run)(l:List Int):Run:=⟨⟨R.s.pc,R.s.d,l,R.s.flags,R.s.Jq,R.s.Jv,R.s.ie,R.s.root,R.s.vec,R.s.epc,R.s.Jr,R.s.addr,R.s.JC,R.s.eie,R.s.count,R.s.halted⟩,R.count,R.JA,R.device⟩
abbrev Run.wt(R:Run)(t:Tr):Run:=⟨R.s,R.count,t,R.device⟩
structure jq where
 Ad:Option Addr
 cd:Nat
 Ar:Option Addr
 cr:Nat
structure vB where
 br:Nat
 u:Option Addr
 b:Option Addr
end Go.Ink
namespace Go.Proofs.YtakodpimdalajaaGreatDoor
open Go.RowKit Go.Ink Go.Proofs.Tryz
attribute [local irreducible] OpY bP
abbrev qW(K:vB)(X:jq)(R:Run):bJ:=row K.br [.int .u32 R.s.pc,.slice X.Ad R.s.d.length X.cd,.slice X.Ar R.s.r.length X.cr,.int .u32 R.s.flags,.bool R.s.Jq,.bool R.s.Jv,.bool R.s.ie,.int .u32 R.s.root,.int .u32 R.s.vec,.int .u32 R.s.epc,.int .u32 R.s.Jr,.int .u32 R.s.addr,.bool R.s.JC,.bool R.s.eie,.int .u64 R.s.count,.bool R.s.halted,.int .u64 R.count,.pointer K.u,.pointer K.b,.int .i64 R.JA.Jr,.int .u32 R.JA.addr,.bool R.device] 258
abbrev eh(K:vB)(X:jq)(R:Run):List bJ:=[qW K X R,slD R.s X.Ad X.cd,slR R.s X.Ar X.cr]
theorem gV(K:vB)(X:jq)(R:Run)(l:List Int)(x:Int)(w:World)(hi:Inv w (bK (eh K X (R.wd (l++[x])))) (eh K X (R.wd (l++[x]))) w):
  Ctr prog 192 [.pointer (some ⟨K.br,0,none⟩)] w (eh K X (R.wd (l++[x]))) (fun v cs=>v= .int .u32 x∧cs=eh K X (R.wd l)):=by
 have hrd:=gX (hi.get (.tail _ (.head _ _)));have hcap:(l++[x]).length≤X.cd:=hrd.cap;have hmax:=hrd.max;simp only[maxLen]at hmax;have hlen:(l++[x]).length=l.length+1:=by simp
 obtain⟨Ad,cd,Ar,cr⟩:=X;obtain⟨bd,rfl⟩:=fM (hi.get (.tail _ (.head _ _))) (show 0<(l++[x]).length by omega);have hcap:(l++[x]).length≤cd:=hcap;have hdl:(R.wd (l++[x])).s.d.length=l.length+1:=hlen;have hmax:cd≤_:=hmax;refine bL func192 rfl ntmps192 rfl hi ?_;refine jA ?_;refine Zy (dY (Zv rfl) (Zv rfl) (show _=(l.length:Int)from by rw[hlen];exact IntWalk.i64_in _ ⟨by omega,by omega⟩|>.trans Wq1)) ?_;refine fF ?_;refine Zy (cu (j:=l.length) (sz:=1) (r:=l.length) rfl Zrf (Zv rfl) (Zv rfl) Wq4 Wq4 Wq1) ?_;refine dL (bO Zrf Zv0) (du Zh (cQ (qm l x))) rfl ?_;refine gE ?_;refine Zy (gf (l.length) rfl Zrf (Zv rfl) (Zv rfl) (fun _=>by first|rfl|omega) Wq4) ?_;refine Z_3 ?_;refine ZL ?_;refine Z_9 ?_;refine j6 (c:=slD (R.wd (l++[x])).s (some ⟨bd,0,none⟩) cd) (c':=slD (R.wd l).s (some ⟨bd,0,none⟩) cd) Za rfl (fun w h=>zj h) ?_;refine Zrb ([row _ _ _,slv _ _ _ _ _ _,slv _ _ _ _ _ _]) ?_;exact df
theorem DA(K:vB)(X:jq)(R:Run)(l:List Int)(x:Int)(w:World)(hi:Inv w (bK (eh K X (R.wr (l++[x])))) (eh K X (R.wr (l++[x]))) w):
  Ctr prog 193 [.pointer (some ⟨K.br,0,none⟩)] w (eh K X (R.wr (l++[x]))) (fun v cs=>v= .int .u32 x∧cs=eh K X (R.wr l)):=by
 have hrd:=gX (hi.get (.tail _ (.tail _ (.head _ _))));have hcap:(l++[x]).length≤X.cr:=hrd.cap;have hmax:=hrd.max;simp only[maxLen]at hmax;have hlen:(l++[x]).length=l.length+1:=by simp
 obtain⟨Ad,cd,Ar,cr⟩:=X;obtain⟨bd,rfl⟩:=fM (hi.get (.tail _ (.tail _ (.head _ _)))) (show 0<(l++[x]).length by omega);have hcap:(l++[x]).length≤cr:=hcap;have hdl:(R.wr (l++[x])).s.r.length=l.length+1:=hlen;have hmax:cr≤_:=hmax;refine bL func193 rfl ntmps193 rfl hi ?_;refine jA ?_;refine Zy (dY (Zv rfl) (Zv rfl) (show _=(l.length:Int)from by rw[hlen];exact IntWalk.i64_in _ ⟨by omega,by omega⟩|>.trans Wq1)) ?_;refine fF ?_;refine Zy (cu (j:=l.length) (sz:=1) (r:=l.length) rfl Zrf (Zv rfl) (Zv rfl) Wq4 Wq4 Wq1) ?_;refine dL (bO Zrf Zv0) (du Zh (cQ (qm l x))) rfl ?_;refine gE ?_;refine Zy (gf (l.length) rfl Zrf (Zv rfl) (Zv rfl) (fun _=>by first|rfl|omega) Wq4) ?_;refine Z_3 ?_;refine ZL ?_;refine Z_9 ?_;refine j6 (c:=slR (R.wr (l++[x])).s (some ⟨bd,0,none⟩) cr) (c':=slR (R.wr l).s (some ⟨bd,0,none⟩) cr) Za rfl (fun w h=>zj h) ?_;refine Zrb ([row _ _ _,slv _ _ _ _ _ _,slv _ _ _ _ _ _]) ?_;exact df
theorem iG(K:vB)(X:jq)(R:Run)(A:Option Addr)(n c:Nat)(ys:List Int)(hs:R.s.d.length+n≤1000000)(w:World)(hi:Inv w (bK (eh K X R)) (eh K X R) w)(h:∀w',dC (bK (eh K X R)) w w'→Rd w' .u32 A n c ys):
  Ctr prog 191 [.pointer (some ⟨K.br,0,none⟩),.slice A n c] w (eh K X R) (fun v cs=>∃A' c',v= .tuple #[]∧cs=eh K ⟨A',c',X.Ar,X.cr⟩ (R.wd (R.s.d++ys))):=by
 have hl:n=ys.length:=by have:=(h w (dC.refl _ _)).len;rw[cL]at this;omega
 subst hl;refine bL func191 rfl ntmps191 rfl hi ?_;refine Z_8 ?_;refine fb (cC (e:=22) (sz:=1) (bytes:=4) rfl rfl Za rfl rfl (fun w hi=>h w hi.JJ) cO (by simp only[maxLen];omega) Wq1) rfl ?_;rintro _ _ ⟨A',c',rfl,rfl⟩;refine Z_3 ?_;refine ZL ?_;refine Zn (iF (cs':=[row _ _ _,slv _ _ _ _ _ _,slv _ _ _ _ _ _]) (.inr rfl) Zu rfl ?_);exact⟨A',c',rfl,by simp only[eh,qW,slD,slR,ae,cj]⟩
theorem np(K:vB)(X:jq)(R:Run)(Jr addr:Int)(w:World)(hi:Inv w (bK (eh K X R)) (eh K X R) w):
  Ctr prog 195 [.pointer (some ⟨K.br,0,none⟩),.int .i64 Jr,.int .u32 addr] w (eh K X R) (fun v cs=>v= .tuple #[]∧cs=eh K X (R.wt ⟨Jr,addr⟩)):=by
 refine bL func195 rfl ntmps195 rfl hi ?_;refine Z_7 ?_;refine dD (jJ (n:=2) (vs:=[.int .i64 Jr,.int .u32 addr]) Zrf rfl rfl (jp rfl) Za rfl (by simp only[aj,ao];omega)) ?_;rintro _ _ ⟨rfl,rfl⟩;refine Zn (iF (cs':=[row _ _ _,slv _ _ _ _ _ _,slv _ _ _ _ _ _]) (.inr rfl) Zu rfl ?_);exact df
theorem Gn(K:vB)(X:jq)(R:Run)(w:World)(h:(qW K X R).ok w):
  Ctr prog 250 [.pointer (some ⟨K.br,0,none⟩)] w [] (fun v cs=>v= .agg #[.bool R.s.Jv,.bool R.s.Jq,.int .u32 R.s.root]∧cs=[]):=by
 refine bL func250 rfl ntmps250 rfl (Inv.start w) ?_;refine Z_2 ?_;refine ZN fun b2=>?_;refine Z_3 ?_;refine bR ⟨fun j=>List.elem j [16],[]⟩ Zk ?_;refine gn ?_;refine ZFe 2 0 ?_;refine ZFe 3 5 ?_;refine dm 4 rfl Zk Zk Zk Zk (bO Zrf (Zv rfl)) (cS (by assumption) rfl) rfl ?_;refine ZE 5 ?_;refine ZE 6 ?_;refine ZFe 7 0 ?_;refine ZFe 8 4 ?_;refine dm 9 rfl Zk Zk Zk Zk (bO Zrf (Zv rfl)) (cS (by assumption) rfl) rfl ?_;refine ZE 10 ?_;refine ZE 11 ?_;refine ZFe 12 0 ?_;refine ZFe 13 7 ?_;refine dm 14 rfl Zk Zk Zk Zk (bO Zrf (Zv rfl)) (cS (by assumption) rfl) rfl ?_;refine ZE 15 ?_;refine ce 16 Zk ?_;refine ZR ?_;refine dr ?_;refine Z_2 ?_;refine lP (cs':=[]) (.inl rfl) Zu rfl rfl Zh Zrf Zrf ?_;exact df
end Go.Proofs.YtakodpimdalajaaGreatDoor
namespace Go.Ink
open Go.RowKit
def Run.top(R:Run):Int:=R.s.d.getLastD 0
def Run.topR(R:Run):Int:=R.s.r.getLastD 0
def Run.pop(R:Run):Run:=R.wd R.s.d.dropLast
def Run.JT(R:Run):Run:=R.wr R.s.r.dropLast
def Run.push(R:Run)(l:List Int):Run:=R.wd (R.s.d++l)
def Run.Kw(R:Run)(x:Int):Run:=R.wr (R.s.r++[x])
abbrev Run.wpc(R:Run)(x:Int):Run:=⟨⟨x,R.s.d,R.s.r,R.s.flags,R.s.Jq,R.s.Jv,R.s.ie,R.s.root,R.s.vec,R.s.epc,R.s.Jr,R.s.addr,R.s.JC,R.s.eie,R.s.count,R.s.halted⟩,R.count,R.JA,R.device⟩
abbrev Run.wfl(R:Run)(x:Int):Run:=⟨⟨R.s.pc,R.s.d,R.s.r,x,R.s.Jq,R.s.Jv,R.s.ie,R.s.root,R.s.vec,R.s.epc,R.s.Jr,R.s.addr,R.s.JC,R.s.eie,R.s.count,R.s.halted⟩,R.count,R.JA,R.device⟩
theorem Run.snoc{R:Run}(h:1≤R.s.d.length):∃(R':Run) (l:List Int) (x:Int),R=R'.wd (l++[x]):=by
 obtain⟨l,x,h⟩:=qS h;exact⟨R,l,x,by rw[Run.wd,←h]⟩
theorem Run.snocR{R:Run}(h:1≤R.s.r.length):∃(R':Run) (l:List Int) (x:Int),R=R'.wr (l++[x]):=by
 obtain⟨l,x,h⟩:=qS h;exact⟨R,l,x,by rw[Run.wr,←h]⟩
theorem Run.J3{R:Run}(h:2≤R.s.d.length):∃(R':Run) (l:List Int) (x y:Int),R=R'.wd ((l++[x])++[y]):=by
 obtain⟨R1,l,y,rfl⟩:=Run.snoc (R:=R) Wq1;have h:2≤(l++[y]).length:=h;obtain⟨m,x,rfl⟩:=qS (l:=l) (by simp at h;omega);exact⟨R1,m,x,y,rfl⟩
@[simp] theorem Run.top_wd (R:Run) (l:List Int) (x:Int):(R.wd (l++[x])).top=x:=by simp[Run.top,List.getLastD_concat]
@[simp] theorem Run.pop_wd (R:Run) (l:List Int) (x:Int):(R.wd (l++[x])).pop=R.wd l:=by simp[Run.pop]
@[simp] theorem Run.topR_wr (R:Run) (l:List Int) (x:Int):(R.wr (l++[x])).topR=x:=by simp[Run.topR,List.getLastD_concat]
@[simp] theorem Run.popR_wr (R:Run) (l:List Int) (x:Int):(R.wr (l++[x])).JT=R.wr l:=by simp[Run.JT]
def dF(op n:Int)(R:Run):Option Run:=
 bif op==0 then some R else bif op==1 then some (R.push [n])else bif op==2 then some (R.push [n])else bif op==3 then some (R.pop.push [R.top,R.top])else bif op==4 then some R.pop else
 bif op==5 then some (R.pop.pop.push [R.top,R.pop.top])else bif op==6 then some (R.pop.pop.push [R.pop.top,R.top,R.pop.top])else bif op==7 then some (R.pop.Kw R.top)else bif op==8 then some (R.JT.push [R.topR])else none
theorem nc(n:Int)(R:Run)(l:List Int)(x:Int):dF 3 n (R.wd (l++[x]))=some (R.wd (l++[x,x])):=by
 show some _=_;rw[Run.top_wd,Run.pop_wd];rfl
theorem lK(n:Int)(R:Run)(l:List Int)(x:Int):dF 4 n (R.wd (l++[x]))=some (R.wd l):=by
 show some _=_;rw[Run.pop_wd]
theorem lI(n:Int)(R:Run)(l:List Int)(x y:Int):dF 5 n (R.wd ((l++[x])++[y]))=some (R.wd (l++[y,x])):=by
 show some _=_;rw[Run.top_wd,Run.pop_wd,Run.top_wd,Run.pop_wd];rfl
theorem lJ(n:Int)(R:Run)(l:List Int)(x y:Int):dF 6 n (R.wd ((l++[x])++[y]))=some (R.wd (l++[x,y,x])):=by
 show some _=_;rw[Run.top_wd,Run.pop_wd,Run.top_wd,Run.pop_wd];rfl
theorem m8(n:Int)(R:Run)(l:List Int)(x:Int):dF 7 n (R.wd (l++[x]))=some ((R.wd l).wr (R.s.r++[x])):=by
 show some _=_;rw[Run.top_wd,Run.pop_wd];rfl
theorem kR(n:Int)(R:Run)(l:List Int)(x:Int):dF 8 n (R.wr (l++[x]))=some ((R.wr l).wd (R.s.d++[x])):=by
 show some _=_;rw[Run.topR_wr,Run.popR_wr];rfl
theorem pO{op:Int}(n:Int)(R:Run)(h0:(op==0)=false)(h1:(op==1)=false)(h2:(op==2)=false)(h3:(op==3)=false)(h4:(op==4)=false)(h5:(op==5)=false)(h6:(op==6)=false)(h7:(op==7)=false)(h8:(op==8)=false):dF op n R=none:=by
 simp only[dF, *,aa]
theorem jY{a b:Int}(h:(a==b)=true):a=b:=by simpa using h
end Go.Ink
namespace Go.Proofs.YtakodpimdalajaaGreatDoor
open Go.RowKit Go.Ink Go.Proofs.Tryz
attribute [local irreducible] OpY bP
theorem Gm(K:vB)(X:jq)(R:Run)(op n:Int)(hd:R.s.d.length≤100000)(hr:R.s.r.length≤100000)(hn:(bS op).1.1≤R.s.d.length)(hnr:(bS op).2.1≤R.s.r.length)(w:World)(hi:Inv w (bK (eh K X R)) (eh K X R) w):
  Ctr prog 141 [.pointer (some ⟨K.br,0,none⟩),.agg #[.int .i64 op,.int .u32 n]] w (eh K X R) (fun v cs=>∃X',v= .bool (dF op n R).isSome∧cs=eh K X' ((dF op n R).getD R)):=by
 refine bL func141 rfl ntmps141 rfl hi ?_;refine Z_2 ?_;refine ZO fun b3=>?_;refine vz ?_;refine ZW ?_ ?_<;>intro hc3
 ·obtain rfl:=jY hc3;have hst:dF 0 n R=some R:=rfl;refine Z_9 ?_;exact vE
 refine Z_7 ?_;refine ZW ?_ ?_<;>intro hc4
 ·obtain rfl:=jY hc4;have hst:dF 1 n R=some (R.push [n]):=rfl;refine Z_2 ?_;refine bU rfl (hc4) ?_;refine Z_4 ?_;refine ku ?_;rintro _ _ ⟨b20,rfl,rfl⟩;refine ZcL (eh K X R) (fun w hi hin=>iG K X R _ 1 1 [n] Wq1 w hin (fun w' hk=>hi.J8 Zi Zh hk)) ?_;rintro _ _ ⟨_,⟨A',c',rfl,rfl⟩,rfl⟩;refine Z_9 ?_;exact vE
 refine Z_5 ?_;refine ZW ?_ ?_<;>intro hc5
 ·obtain rfl:=jY hc5;have hst:dF 2 n R=some (R.push [n]):=rfl;refine Z_4 ?_;refine ku ?_;rintro _ _ ⟨b20,rfl,rfl⟩;refine ZcL (eh K X R) (fun w hi hin=>iG K X R _ 1 1 [n] Wq1 w hin (fun w' hk=>hi.J8 Zi Zh hk)) ?_;rintro _ _ ⟨_,⟨A',c',rfl,rfl⟩,rfl⟩;refine Z_9 ?_;exact vE
 refine Z_6 ?_;refine ZW ?_ ?_<;>intro hc7
 ·obtain rfl:=jY hc7;obtain⟨R,l,x,rfl⟩:=Run.snoc (show 1≤R.s.d.length from hn);have hst:=nc n R l x;have hll:l.length+1≤100000:=(by have:(l++[x]).length≤100000:=hd;simpa using this);refine Z_3 ?_;refine ZcM (eh K X (R.wd (l++[x]))) (fun w hi hin=>gV K X R l x w hin) ?_;refine Z_7 ?_;refine ku ?_;rintro _ _ ⟨b29,rfl,rfl⟩;refine ZcL (eh K X (R.wd l)) (fun w hi hin=>iG K X (R.wd l) _ 2 2 [x,x] (show l.length+2≤1000000 by omega) w hin (fun w' hk=>hi.J8 Zi Zh hk)) ?_;rintro _ _ ⟨_,⟨A',c',rfl,rfl⟩,rfl⟩;refine Z_9 ?_;exact vE
 refine Z_6 ?_;refine ZW ?_ ?_<;>intro hc10
 ·obtain rfl:=jY hc10;obtain⟨R,l,x,rfl⟩:=Run.snoc (show 1≤R.s.d.length from hn);have hst:=lK n R l x;refine Z_2 ?_;refine ZcM (eh K X (R.wd (l++[x]))) (fun w hi hin=>gV K X R l x w hin) ?_;refine Z_9 ?_;exact vE
 refine Z_6 ?_;refine ZW ?_ ?_<;>intro hc12
 ·obtain rfl:=jY hc12;obtain⟨R,l,x,y,rfl⟩:=Run.J3 (show 2≤R.s.d.length from hn);have hst:=lI n R l x y;have hll:l.length+2≤100000:=(by have:((l++[x])++[y]).length≤100000:=hd;simp only[ae,aj,ao]at this;omega);refine Z_3 ?_;refine ZcM (eh K X (R.wd ((l++[x])++[y]))) (fun w hi hin=>gV K X R (l++[x]) y w hin) ?_;refine ZA ?_;refine ZcM (eh K X (R.wd (l++[x]))) (fun w hi hin=>gV K X R l x w hin) ?_;refine Z_8 ?_;refine ku ?_;rintro _ _ ⟨b44,rfl,rfl⟩;refine ZcL (eh K X (R.wd l)) (fun w hi hin=>iG K X (R.wd l) _ 2 2 [y,x] (show l.length+2≤1000000 by omega) w hin (fun w' hk=>hi.J8 Zi Zh hk)) ?_;rintro _ _ ⟨_,⟨A',c',rfl,rfl⟩,rfl⟩;refine Z_9 ?_;exact vE
 refine Z_6 ?_;refine ZW ?_ ?_<;>intro hc15
 ·obtain rfl:=jY hc15;obtain⟨R,l,x,y,rfl⟩:=Run.J3 (show 2≤R.s.d.length from hn);have hst:=lJ n R l x y;have hll:l.length+2≤100000:=(by have:((l++[x])++[y]).length≤100000:=hd;simp only[ae,aj,ao]at this;omega);refine Z_3 ?_;refine ZcM (eh K X (R.wd ((l++[x])++[y]))) (fun w hi hin=>gV K X R (l++[x]) y w hin) ?_;refine ZA ?_;refine ZcM (eh K X (R.wd (l++[x]))) (fun w hi hin=>gV K X R l x w hin) ?_;refine Z_9 ?_;refine ku ?_;rintro _ _ ⟨b56,rfl,rfl⟩;refine ZcL (eh K X (R.wd l)) (fun w hi hin=>iG K X (R.wd l) _ 3 3 [x,y,x] (show l.length+3≤1000000 by omega) w hin (fun w' hk=>hi.J8 Zi Zh hk)) ?_;rintro _ _ ⟨_,⟨A',c',rfl,rfl⟩,rfl⟩;refine Z_9 ?_;exact vE
 refine Z_6 ?_;refine ZW ?_ ?_<;>intro hc18
 ·obtain rfl:=jY hc18;obtain⟨R,l,x,rfl⟩:=Run.snoc (show 1≤R.s.d.length from hn);have hst:=m8 n R l x;have hrr:R.s.r.length≤100000:=hr;have hrr2:(R.wd l).s.r.length≤100000:=hr;refine bR ⟨fun j=>List.elem j [7,9,13],[]⟩ Zk ?_;refine gn ?_;refine ZE 2 ?_;refine ZFe 3 0 ?_;refine ZFe 4 2 ?_;refine ZE 6 ?_;refine j4 5 7 Zk ?_ ?_
  ·refine kg ?_;refine ce 7 Zk ?_;refine ZcA (eh K X (R.wd (l++[x]))) (fun w hi hin=>gV K X R l x w hin) ?_;rintro _ _ ⟨_,⟨rfl,rfl⟩,rfl⟩;refine ce 8 Zk ?_;refine vD ?_;rintro _ _ ⟨b68,rfl,rfl⟩;refine ce 9 Zk ?_;refine iZ rfl rfl (cC (e:=22) (sz:=1) (bytes:=4) rfl rfl Za rfl rfl (fun w hi=>hi.rd (show Has _ (slv 22 1 (some ⟨b68,0,none⟩) 1 1 (ints .u32 [x]))from Zh)) cO g9 Wq1) ZJ rfl ?_;rintro _ _ ⟨A',c',rfl,rfl⟩;refine ZE 10 ?_;refine ZFe 11 0 ?_;refine ZFe 12 2 ?_;refine ce 13 Zk ?_;refine ZQ ?_;refine dr ?_;refine Z_8 ?_;refine Zrb ([row _ _ _,slv _ _ _ _ _ _,slv _ _ _ _ _ _]) ?_;rw[hst];refine⟨⟨X.Ad,X.cd,A',c'⟩,rfl,?_⟩;show _=eh K ⟨X.Ad,X.cd,A',c'⟩ ((R.wd l).wr (R.s.r++[x]));simp only[eh,qW,slD,slR,ae,cj,aj,ao,bl]
  refine ZcA (eh K X (R.wd (l++[x]))) (fun w hi hin=>gV K X R l x w hin) ?_;rintro _ _ ⟨_,⟨rfl,rfl⟩,rfl⟩;refine ZG 5 ?_;refine ce 8 Zk ?_;refine vD ?_;rintro _ _ ⟨b68,rfl,rfl⟩;refine ce 9 Zk ?_;refine iZ rfl rfl (cC (e:=22) (sz:=1) (bytes:=4) rfl rfl Za rfl rfl (fun w hi=>hi.rd (show Has _ (slv 22 1 (some ⟨b68,0,none⟩) 1 1 (ints .u32 [x]))from Zh)) cO g9 Wq1) ZJ rfl ?_;rintro _ _ ⟨A',c',rfl,rfl⟩;refine ZE 10 ?_;refine ZFe 11 0 ?_;refine ZFe 12 2 ?_;refine ce 13 Zk ?_;refine ZQ ?_;refine dr ?_;refine Z_8 ?_;refine Zrb ([row _ _ _,slv _ _ _ _ _ _,slv _ _ _ _ _ _]) ?_;rw[hst];refine⟨⟨X.Ad,X.cd,A',c'⟩,rfl,?_⟩;show _=eh K ⟨X.Ad,X.cd,A',c'⟩ ((R.wd l).wr (R.s.r++[x]));simp only[eh,qW,slD,slR,ae,cj,aj,ao,bl]
 refine Z_6 ?_;refine ZW ?_ ?_<;>intro hc20
 ·obtain rfl:=jY hc20;obtain⟨R,l,x,rfl⟩:=Run.snocR (show 1≤R.s.r.length from hnr);have hst:=kR n R l x;have hdd:R.s.d.length≤100000:=hd;refine Z_3 ?_;refine ZcM (eh K X (R.wr (l++[x]))) (fun w hi hin=>DA K X R l x w hin) ?_;refine ku ?_;rintro _ _ ⟨b78,rfl,rfl⟩;refine ZcL (eh K X (R.wr l)) (fun w hi hin=>iG K X (R.wr l) _ 1 1 [x] (show R.s.d.length+1≤1000000 by omega) w hin (fun w' hk=>hi.J8 Zi Zh hk)) ?_;rintro _ _ ⟨_,⟨A',c',rfl,rfl⟩,rfl⟩;refine Z_9 ?_;exact vE
 have hst:=pO n R hc3 hc4 hc5 hc7 hc10 hc12 hc15 hc18 hc20;refine Z_8 ?_;exact vE
end Go.Proofs.YtakodpimdalajaaGreatDoor
namespace Go.Ink
open Go.RowKit
def jl(R:Run)(n:Int):Int:=IntKind.u32.wrap (R.s.pc+kL n)
def cH(op n:Int)(R:Run):Bool×Run:=
 bif decide (16≤op)&&decide (op≤25)then
  (true,bif op !=25 then((bif(iu op R.pop.top R.top).2.2 then R.pop.pop else R.pop.pop.wt ⟨5,0⟩).wfl (iu op R.pop.top R.top).2.1).push [(iu op R.pop.top R.top).1]else(bif(iu op R.pop.top R.top).2.2 then R.pop.pop else R.pop.pop.wt ⟨5,0⟩).wfl (iu op R.pop.top R.top).2.1)
 else bif op==38 then(true,(R.Kw R.s.pc).wpc (jl R n))else bif op==32 then(true,R.wpc (jl R n))else bif op==39 then(true,R.JT.wpc R.topR)else bif op==40 then(true,R.pop.wpc R.top)else
 ((cY op R.s.flags).2,bif(cY op R.s.flags).1 then R.wpc (jl R n)else R)
theorem zB{op:Int}(h:(decide (16≤op)&&decide (op≤25))=true):(bS op).1.1=2:=by
 simp only[aB,ak]at h;obtain rfl|rfl|rfl|rfl|rfl|rfl|rfl|rfl|rfl|rfl:op=16∨op=17∨op=18∨op=19∨op=20∨op=21∨op=22∨op=23∨op=24∨op=25:=by omega
 all_goals rfl
end Go.Ink
namespace Go.Proofs.YtakodpimdalajaaGreatDoor
open Go.RowKit Go.Ink Go.Proofs.Tryz
attribute [local irreducible] OpY bP
theorem Dv(K:vB)(X:jq)(R:Run)(op n:Int)(hw:∀x,x∈R.s.d→u32 x)(hd:R.s.d.length≤100000)(hr:R.s.r.length≤100000)(hn:(bS op).1.1≤R.s.d.length)(hnr:(bS op).2.1≤R.s.r.length)(w:World)(hi:Inv w (bK (eh K X R)) (eh K X R) w):
  Ctr prog 142 [.pointer (some ⟨K.br,0,none⟩),.agg #[.int .i64 op,.int .u32 n]] w (eh K X R) (fun v cs=>∃X',v= .bool (cH op n R).1∧cs=eh K X' (cH op n R).2):=by
 have HS:=xZ n;have HA:=ado_ok op;have HH:=Ht op R.s.flags;obtain⟨th,hth⟩:=Zgn (jl R n);have hth':=hth;unfold jl at hth';obtain⟨sg,hsg⟩:=Zgn (kL n);rw[hsg]at HS hth';refine bL func142 rfl ntmps142 rfl hi ?_;refine Z_2 ?_;refine ZO fun b3=>?_;refine Z_4 ?_;refine bR ⟨fun j=>List.elem j [],[]⟩ Zk ?_;refine gn ?_;refine ZFe 2 0 ?_;refine ZFe 3 0 ?_;refine ZG 4 ?_;refine ZFe 5 1 ?_;refine ZG 6 ?_;refine ce 7 Zk ?_;refine ZT (fun w hi=>HS w) ?_;rintro _ _ ⟨_,⟨rfl,rfl⟩,rfl⟩;refine cD 8 rfl Zk Zk Zk (cX Zv0 Zv0 hth') rfl ?_;refine ZE 9 ?_;refine dr ?_;refine lw ?_;refine Z_1 ?_;refine ZW ?_ ?_<;>intro hc7
 ·rw[zB hc7]at hn;obtain⟨R,l,x,y,rfl⟩:=Run.J3 hn;have hll:l.length+2≤100000:=(by have:((l++[x])++[y]).length≤100000:=hd;simp only[ae,aj,ao]at this;omega);have HA:=HA x y (hw y cJ).1;obtain⟨⟨v,fl,ok⟩,hq⟩:=Zgn (iu op x y);rw[hq]at HA;have hst:cH op n (R.wd ((l++[x])++[y]))=(true,bif op !=25 then((bif ok then R.wd l else(R.wd l).wt ⟨5,0⟩).wfl fl).push [v]else(bif ok then R.wd l else(R.wd l).wt ⟨5,0⟩).wfl fl):=(by simp only[cH,hc7,ac,Run.top_wd,Run.pop_wd,hq]);refine Z_3 ?_;refine ZcM (eh K X (R.wd ((l++[x])++[y]))) (fun w hi hin=>gV K X R (l++[x]) y w hin) ?_;refine ZA ?_;refine ZcM (eh K X (R.wd (l++[x]))) (fun w hi hin=>gV K X R l x w hin) ?_;refine Z_9 ?_;refine ZSe (fun w hi=>HA w) ?_;refine p5 ?_;refine ZW ?_ ?_<;>intro hc10
  ·obtain rfl:ok=false:=(by simpa using hc10);have hR:∃Q,Q=(R.wd l).wt ⟨5,0⟩:=⟨_,rfl⟩;refine Z_2 ?_;refine ZcM (eh K X (R.wd l)) (fun w hi hin=>np K X (R.wd l) 5 0 w hin) ?_;refine Z_9 ?_;refine ZL ?_;refine Z_8 ?_;refine ZW ?_ ?_<;>intro hc13
   ·simp only[hc13,ac,aa]at hst;refine Z_3 ?_;refine ku ?_;rintro _ _ ⟨b74,rfl,rfl⟩;refine ZcL (eh K X (((R.wd l).wt ⟨5,0⟩).wfl fl)) (fun w hi hin=>iG K X (((R.wd l).wt ⟨5,0⟩).wfl fl) _ 1 1 [v] (show l.length+1≤1000000 by omega) w hin (fun w' hk=>hi.J8 Zi Zh hk)) ?_;rintro _ _ ⟨_,⟨A',c',rfl,rfl⟩,rfl⟩;refine Z_9 ?_;exact vE
   simp only[hc13,ac,aa]at hst;refine Z_9 ?_;exact vE
  obtain rfl:ok=true:=(by simpa using hc10);refine Z_9 ?_;refine ZL ?_;refine Z_8 ?_;refine ZW ?_ ?_<;>intro hc13
  ·simp only[hc13,ac,aa]at hst;refine Z_3 ?_;refine ku ?_;rintro _ _ ⟨b74,rfl,rfl⟩;refine ZcL (eh K X ((R.wd l).wfl fl)) (fun w hi hin=>iG K X ((R.wd l).wfl fl) _ 1 1 [v] (show l.length+1≤1000000 by omega) w hin (fun w' hk=>hi.J8 Zi Zh hk)) ?_;rintro _ _ ⟨_,⟨A',c',rfl,rfl⟩,rfl⟩;refine Z_9 ?_;exact vE
  simp only[hc13,ac,aa]at hst;refine Z_9 ?_;exact vE
 refine Z_7 ?_;refine ZW ?_ ?_<;>intro hc15
 ·have hst:cH op n R=(true,(R.Kw R.s.pc).wpc th):=(by simp only[cH, *,ac,aa]);refine Zs (bR ⟨fun j=>List.elem j [12,16],[]⟩ Zk ?_);refine gn ?_;refine ZE 2 ?_;refine ZFe 3 0 ?_;refine ZFe 4 2 ?_;refine ZG 5 ?_;refine ZE 6 ?_;refine ZE 7 ?_;refine ZFe 8 0 ?_;refine ZFe 9 0 ?_;refine ce 10 Zk ?_;refine kg ?_;refine ce 11 Zk ?_;refine vD ?_;rintro _ _ ⟨b90,rfl,rfl⟩;refine ce 12 Zk ?_;refine iZ rfl rfl (cC (e:=22) (sz:=1) (bytes:=4) rfl rfl Za rfl rfl (fun w hi=>hi.rd (show Has _ (slv 22 1 (some ⟨b90,0,none⟩) 1 1 (ints .u32 [R.s.pc]))from Zh)) cO g9 Wq1) ZJ rfl ?_;rintro _ _ ⟨A',c',rfl,rfl⟩;refine ZE 13 ?_;refine ZFe 14 0 ?_;refine ZFe 15 2 ?_;refine ce 16 Zk ?_;refine ZQ ?_;refine dr ?_;refine Z_7 ?_;refine ZL ?_;refine Z_9 ?_;refine Zrb ([row _ _ _,slv _ _ _ _ _ _,slv _ _ _ _ _ _]) ?_;rw[hst];refine⟨⟨X.Ad,X.cd,A',c'⟩,rfl,?_⟩;simp only[eh,qW,slD,slR,Run.Kw,ae,cj,aj,ao,bl]
 refine Z_7 ?_;refine ZW ?_ ?_<;>intro hc18
 ·have hst:cH op n R=(true,R.wpc th):=(by simp only[cH, *,ac,aa]);refine Z_6 ?_;refine ZL ?_;refine Z_9 ?_;exact vE
 refine Z_7 ?_;refine ZW ?_ ?_<;>intro hc20
 ·obtain rfl:=jY hc20;obtain⟨R,l,x,rfl⟩:=Run.snocR (show 1≤R.s.r.length from hnr);have hst:cH 39 n (R.wr (l++[x]))=(true,(R.wr l).wpc x):=(by show(_,_)=_;rw[Run.popR_wr,Run.topR_wr]);refine Z_3 ?_;refine ZcM (eh K X (R.wr (l++[x]))) (fun w hi hin=>DA K X R l x w hin) ?_;refine Z_3 ?_;refine ZL ?_;refine Z_9 ?_;exact vE
 refine Z_7 ?_;refine ZW ?_ ?_<;>intro hc22
 ·obtain rfl:=jY hc22;obtain⟨R,l,x,rfl⟩:=Run.snoc (show 1≤R.s.d.length from hn);have hst:cH 40 n (R.wd (l++[x]))=(true,(R.wd l).wpc x):=(by show(_,_)=_;rw[Run.pop_wd,Run.top_wd]);refine Z_3 ?_;refine ZcM (eh K X (R.wd (l++[x]))) (fun w hi hin=>gV K X R l x w hin) ?_;refine Z_3 ?_;refine ZL ?_;refine Z_9 ?_;exact vE
 have hst:cH op n R=((cY op R.s.flags).2,bif(cY op R.s.flags).1 then R.wpc th else R):=(by simp only[cH, *,ac,aa]);obtain⟨⟨g,o⟩,hq⟩:=Zgn (cY op R.s.flags);rw[hq]at hst HH;refine Z_8 ?_;refine ZSe (fun w hi=>HH w) ?_;refine jA ?_;refine ZW ?_ ?_<;>intro hc4
 ·obtain rfl:g=true:=hc4;refine Z_6 ?_;refine ZL ?_;refine fF ?_;exact vE
 obtain rfl:g=false:=hc4;refine fF ?_;exact vE
end Go.Proofs.YtakodpimdalajaaGreatDoor
namespace Go.Ink
open Go.RowKit
theorem bM{α:Type}(p:α→Prop){c:Bool}{x y:α}(hx:p x)(hy:p y):p (bif c then x else y):=by cases c<;>assumption
def FP(q:(Nat×Nat)×(Nat×Nat)):Prop:=q.1.1≤3∧q.1.2≤3∧q.2.1≤3∧q.2.2≤3
theorem GX(op:Int):FP (bS op):=by
 unfold bS
 repeat (refine bM FP ⟨by decide,by decide,by decide,by decide⟩ ?_)
 exact⟨by decide,by decide,by decide,by decide⟩
def j8(s:St)(q:(Nat×Nat)×(Nat×Nat)):Int:=
 bif decide ((s.d.length:Int)<(q.1.1:Int))||decide ((s.r.length:Int)<(q.2.1:Int))then 3 else
 bif decide (16<(s.d.length:Int) - (q.1.1:Int)+(q.1.2:Int))||decide (16<(s.r.length:Int) - (q.2.1:Int)+(q.2.2:Int))then 4 else 0
def gc(s:St)(op n:Int):Int:=
 bif !gO op n then 1 else bif rq op&& !s.Jq then 2 else bif op==66&& !(s.get n).2 then 1 else bif op==67&& !(s.set n 0).2 then 1 else j8 s (bS op)
end Go.Ink
namespace Go.Proofs.YtakodpimdalajaaGreatDoor
open Go.RowKit Go.Ink Go.Proofs.Tryz
attribute [local irreducible] OpY bP
theorem Iv(s:St)(Ad Ar:Option Addr)(cd cr:Nat)(op n:Int)(hu:u32 n)(w:World)(h:lA w s Ad Ar cd cr):
  Ctr prog 139 [sv s Ad cd Ar cr,.agg #[.int .i64 op,.int .u32 n]] w [] (fun v cs=>v= .int .i64 (gc s op n)∧cs=[]):=by
 have hu1:=hu.1;have hu2:=hu.2;have hD:=h.hd;have hR:=h.hr;have HR:=wX op n;have HS:=EF op;have HN:=GW op;have HG:=I5 s (.slice Ad s.d.length cd) (.slice Ar s.r.length cr) n;have HE:=IU s Ad Ar cd cr n 0;obtain⟨q1,hq1⟩:=Zgn (gO op n);obtain⟨q2,hq2⟩:=Zgn (rq op);obtain⟨⟨g0,g⟩,hq3⟩:=Zgn (s.get n);obtain⟨⟨e0,e⟩,hq4⟩:=Zgn (s.set n 0);have hle:=GX op;unfold gc;rw[hq1]at HR⊢;rw[hq2]at HS⊢;rw[hq3]at HG⊢;rw[hq4]at HE⊢;obtain⟨⟨⟨a,b⟩,⟨c,d⟩⟩,hq5⟩:=Zgn (bS op);rw[hq5]at HN hle⊢;obtain⟨ha,hb,hc,hd⟩:=hle;have ha:a≤3:=ha;have hb:b≤3:=hb;have hc:c≤3:=hc;have hd:d≤3:=hd;refine bL func139 rfl ntmps139 rfl (Inv.start w) ?_;refine Z_2 ?_;refine ZO fun b2=>?_;refine ZO fun b3=>?_
 refine Z_8 ?_;refine ZSe (fun w hi=>HR w) ?_;refine Z_4 ?_;refine ZW ?_ ?_<;>intro hc1
 ·refine fG ?_;refine⟨?_,rfl⟩;simp only[j8, *,ac,aa]
 refine Z_4 ?_;refine ZSe (fun w hi=>HS w) ?_;refine Z_8 ?_;refine ZW ?_ ?_<;>intro hc3
 ·refine fG ?_;refine⟨?_,rfl⟩;simp only[j8, *,ac,aa]
 refine Z_9 ?_;refine Zy (bW rfl rfl Zv0 Zl) ?_;refine ZSe (fun w hi=>HG w) ?_;refine AI ?_;refine ZW ?_ ?_<;>intro hc6
 ·refine Z_7 ?_;refine Zra ?_;refine⟨?_,rfl⟩;simp only[j8, *,ac,aa]
 refine Z_8 ?_;refine Zy (bW rfl rfl Zv0 Zl) ?_;refine ZS (fun w hi=>HE w (h.Jz hi)) ?_;rintro _ _ ⟨_,⟨A1,c1,A2,c2,rfl,rfl⟩,rfl⟩;refine Z_3 ?_;refine ZN fun b7=>?_
 refine ZM ?_;refine gL ?_;refine ZW ?_ ?_<;>intro hc9
 ·refine Z_7 ?_;refine Zra ?_;refine⟨?_,rfl⟩;simp only[j8, *,ac,aa]
 refine Z_6 ?_;refine ZSe (fun w hi=>HN w) ?_;refine lw ?_;refine dS ?_;refine ZW ?_ ?_<;>intro hc12
 ·refine fG ?_;refine⟨?_,rfl⟩;simp only[j8, *,ac,aa]
 refine Z_6 ?_;refine Zy (dY Zv0 Zv0 Zl) ?_;refine ZA ?_;refine Zy (cX Zv0 Zv0 Zl) ?_;refine Z_6 ?_;refine Zyn rfl rfl (dY (dH rfl) (dH rfl) Zl) ?_;refine ZB ?_;refine Zyn rfl rfl (cX (dH rfl) (dH rfl) Zl) ?_;refine Z_5 ?_;refine ZW ?_ ?_<;>intro hc14
 ·refine fG ?_;refine⟨?_,rfl⟩;simp only[j8, *,ac,aa]
 refine Z_9 ?_;refine Zra ?_;refine⟨?_,rfl⟩;simp only[j8, *,ac,aa]
end Go.Proofs.YtakodpimdalajaaGreatDoor
namespace Go.Ink
open Go.RowKit
def Run.sp(R:Run):Sp:=⟨R.s.Jv,R.s.Jq,R.s.root.toNat⟩
abbrev Run.wdv(R:Run)(t:Tr)(b:Bool):Run:=⟨R.s,R.count,t,b⟩
structure yR where
 p:Int
 ok:Bool
 r:Run
 u:Mmu
def cK(n:Nat)(R:Run)(U:Mmu)(va:Nat)(kind:Int):yR:=
 bif((va%4:Nat):Int) !=0 then⟨0,false,R.wt ⟨6,va⟩,U⟩else
 ⟨(cM n U R.sp va kind).1.1,(cM n U R.sp va kind).1.2.Jr==0,R.wdv (cM n U R.sp va kind).1.2 ((cM n U R.sp va kind).1.2.Jr==0&&decide (32768≤(cM n U R.sp va kind).1.1)),(cM n U R.sp va kind).2⟩
end Go.Ink
namespace Go.Proofs.YtakodpimdalajaaGreatDoor
open Go.RowKit Go.Ink Go.Proofs.Tryz
attribute [local irreducible] OpY bP
theorem qR(K:vB)(X:jq)(R:Run)(hr:0≤R.s.root)(w:World)(h:(qW K X R).ok w):
  Ctr prog 250 [.pointer (some ⟨K.br,0,none⟩)] w [] (fun v cs=>v=R.sp.v∧cs=[]):=
 (Gn K X R w h).mono fun v cs ⟨h1,h2⟩=>⟨by rw[h1,Run.sp,Sp.v,Int.toNat_of_nonneg hr],h2⟩
abbrev iE(K:vB)(X:jq)(R:Run):List Value:=[.int .u32 R.s.pc,.slice X.Ad R.s.d.length X.cd,.slice X.Ar R.s.r.length X.cr,.int .u32 R.s.flags,.bool R.s.Jq,.bool R.s.Jv,.bool R.s.ie,.int .u32 R.s.root,.int .u32 R.s.vec,.int .u32 R.s.epc,.int .u32 R.s.Jr,.int .u32 R.s.addr,.bool R.s.JC,.bool R.s.eie,.int .u64 R.s.count,.bool R.s.halted,.int .u64 R.count,.pointer K.u,.pointer K.b,.int .i64 R.JA.Jr,.int .u32 R.JA.addr,.bool R.device]
abbrev kOf(br bu:Nat)(D:pL):vB:=⟨br,some ⟨bu,0,none⟩,some ⟨D.bs,0,none⟩⟩
theorem y7(br bu bb:Nat)(L:fa)(D:pL)(X:jq)(R:Run)(U:Mmu)(hT:U.t.length=16)(hroot:u32 R.s.root)(va:Nat)(hva:va≤4294967295)(kind:Int)(w:World)(hi:Inv w (bK (eh (kOf br bu D) X R++uF bu bb L U)) (eh (kOf br bu D) X R++uF bu bb L U) w):
  Ctr prog 245 [.pointer (some ⟨br,0,none⟩),.int .u32 va,.int .i64 kind] w (eh (kOf br bu D) X R++uF bu bb L U)
   (fun v cs=>v= .tuple #[.int .u32 (cK L.n R U va kind).p,.bool (cK L.n R U va kind).ok]∧cs=eh (kOf br bu D) X (cK L.n R U va kind).r++uF bu bb L (cK L.n R U va kind).u):=by
 have hr0:=hroot.1;have hr1:=hroot.2;have hsr:R.sp.root≤4294967295:=by show R.s.root.toNat≤_;omega
 have HP:=nQ bu bb L U hT R.sp hsr va hva kind;have HS:=qR (kOf br bu D) X R hr0;unfold cK;obtain⟨⟨⟨p,ca,ad⟩,U'⟩,hq⟩:=Zgn (cM L.n U R.sp va kind);rw[hq]at HP⊢;obtain⟨S,hS⟩:=Zgn (R.sp);rw[hS]at HP HS;refine bL func245 rfl ntmps245 rfl hi ?_;refine fF ?_;refine Zy (gy (Zv rfl) (Zv rfl) Wq1 (show _=((va%4:Nat):Int)from by rw[aF Wq1];omega)) ?_;refine Z_4 ?_;refine ZW ?_ ?_<;>intro hc1
 ·refine Z_4 ?_;refine ZcM (eh (kOf br bu D) X R) (fun w hi hin=>np (kOf br bu D) X R 6 va w hin) ?_;refine fF ?_;refine bN (eh (kOf br bu D) X (R.wt ⟨6,va⟩)++uF bu bb L U) Zj ?_;refine rc (cs':=[row _ _ _,slv _ _ _ _ _ _,slv _ _ _ _ _ _,row _ _ _,exC _ _ _ _,row _ _ _]) (.inl rfl) Zu rfl rfl rfl ?_;rw[hc1];exact df
 refine vz ?_;refine ZW ?_ ?_<;>intro hc4
 ·exact absurd hc4 cJ
 refine Z_4 ?_;refine bR ⟨fun j=>List.elem j [8,14],[]⟩ Zk ?_;refine gn ?_;refine ZFe 2 17 ?_;refine ZG 3 ?_;refine ZE 4 ?_;refine ZE 6 ?_;refine ZE 7 ?_;refine j4 5 12 Zk ?_ ?_
 ·refine ZT (fun w hi=>HS w (hi.get Zh)) ?_;rintro _ _ ⟨_,⟨rfl,rfl⟩,rfl⟩;refine j4 8 12 Zk ?_ ?_
  ·refine ZcA (uF bu bb L U) (fun w hi hin=>HP w hin) ?_;rintro _ _ ⟨_,⟨rfl,rfl⟩,rfl⟩;refine ZE 9 ?_;refine ZE 10 ?_;refine ZE 11 ?_;refine ce 12 Zk ?_;refine ZP fun b9=>?_
   refine ZE 13 ?_;refine ce 14 Zk ?_;refine ZR ?_;refine dr ?_;refine Z_7 ?_;refine dD (eG (ys:=iE (kOf br bu D) X (R.wt ⟨ca,ad⟩)) (n:=2) (vs:=[.int .i64 ca,.int .u32 ad]) rfl Zrf rfl rfl (jp rfl) Za rfl (by simp only[aj,ao];omega)) ?_;rintro _ _ ⟨rfl,rfl⟩;refine gL ?_;refine ZL ?_;refine Z_3 ?_;refine Wq40 ?_;refine ZFe 1 0 ?_;refine ZG 2 ?_;refine ZE 3 ?_;refine ZE 4 ?_;refine ZE 5 ?_;refine dr ?_;refine Z_2 ?_;refine bN (eh (kOf br bu D) X (R.wdv ⟨ca,ad⟩ (ca==0&&decide (32768≤p)))++uF bu bb L U') Zj ?_;refine rc (cs':=[row _ _ _,slv _ _ _ _ _ _,slv _ _ _ _ _ _,row _ _ _,exC _ _ _ _,row _ _ _]) (.inl rfl) Zu rfl rfl rfl ?_;rw[hc1];exact df
  refine ZP fun b9=>?_
  refine ce 8 Zk ?_;refine ZcA (uF bu bb L U) (fun w hi hin=>HP w hin) ?_;rintro _ _ ⟨_,⟨rfl,rfl⟩,rfl⟩;refine ZE 9 ?_;refine ZE 10 ?_;refine ZE 11 ?_;refine ZE 13 ?_;refine ce 14 Zk ?_;refine ZR ?_;refine dr ?_;refine Z_7 ?_;refine dD (eG (ys:=iE (kOf br bu D) X (R.wt ⟨ca,ad⟩)) (n:=2) (vs:=[.int .i64 ca,.int .u32 ad]) rfl Zrf rfl rfl (jp rfl) Za rfl (by simp only[aj,ao];omega)) ?_;rintro _ _ ⟨rfl,rfl⟩;refine gL ?_;refine ZL ?_;refine Z_3 ?_;refine Wq40 ?_;refine ZFe 1 0 ?_;refine ZG 2 ?_;refine ZE 3 ?_;refine ZE 4 ?_;refine ZE 5 ?_;refine dr ?_;refine Z_2 ?_;refine bN (eh (kOf br bu D) X (R.wdv ⟨ca,ad⟩ (ca==0&&decide (32768≤p)))++uF bu bb L U') Zj ?_;refine rc (cs':=[row _ _ _,slv _ _ _ _ _ _,slv _ _ _ _ _ _,row _ _ _,exC _ _ _ _,row _ _ _]) (.inl rfl) Zu rfl rfl rfl ?_;rw[hc1];exact df
 refine ZP fun b9=>?_
 refine ce 5 Zk ?_;refine ZT (fun w hi=>HS w (hi.get Zh)) ?_;rintro _ _ ⟨_,⟨rfl,rfl⟩,rfl⟩;refine ce 8 Zk ?_;refine ZcA (uF bu bb L U) (fun w hi hin=>HP w hin) ?_;rintro _ _ ⟨_,⟨rfl,rfl⟩,rfl⟩;refine ZE 9 ?_;refine ZE 10 ?_;refine ZE 11 ?_;refine ZE 13 ?_;refine ce 14 Zk ?_;refine ZR ?_;refine dr ?_;refine Z_7 ?_;refine dD (eG (ys:=iE (kOf br bu D) X (R.wt ⟨ca,ad⟩)) (n:=2) (vs:=[.int .i64 ca,.int .u32 ad]) rfl Zrf rfl rfl (jp rfl) Za rfl (by simp only[aj,ao];omega)) ?_;rintro _ _ ⟨rfl,rfl⟩;refine gL ?_;refine ZL ?_;refine Z_3 ?_;refine Wq40 ?_;refine ZFe 1 0 ?_;refine ZG 2 ?_;refine ZE 3 ?_;refine ZE 4 ?_;refine ZE 5 ?_;refine dr ?_;refine Z_2 ?_;refine bN (eh (kOf br bu D) X (R.wdv ⟨ca,ad⟩ (ca==0&&decide (32768≤p)))++uF bu bb L U') Zj ?_;refine rc (cs':=[row _ _ _,slv _ _ _ _ _ _,slv _ _ _ _ _ _,row _ _ _,exC _ _ _ _,row _ _ _]) (.inl rfl) Zu rfl rfl rfl ?_;rw[hc1];exact df
end Go.Proofs.YtakodpimdalajaaGreatDoor
namespace Go.Ink
open Go.RowKit
theorem qI(n:Nat)(R:Run)(U:Mmu)(va:Nat)(kind:Int):(cK n R U va kind).r.s=R.s:=by unfold cK;exact bM (fun W:yR=>W.r.s=R.s) rfl rfl
theorem vK(n:Nat)(R:Run)(U:Mmu)(va:Nat)(hva:va≤4294967295)(kind:Int):u32 (cK n R U va kind).p:=by unfold cK;exact bM (fun W:yR=>u32 W.p) (show u32 0 from⟨by decide,by decide⟩) (jb n U R.sp va hva kind).1
theorem AV(n:Nat)(hn:n≤64)(R:Run)(U:Mmu)(va:Nat)(hva:va≤4294967295)(kind:Int)(hk:(cK n R U va kind).ok=true)(hd:(cK n R U va kind).r.device=false):(cK n R U va kind).p.toNat+4≤n*64:=by
 obtain⟨hu,hp⟩:=jb n U R.sp va hva kind;unfold cK at hk hd⊢;cases hm:(((va%4:Nat):Int) !=0)with
 |true=>rw[hm]at hk;cases hk
 |false=>
  rw[hm]at hk hd;simp only[aa]at hk hd⊢;rw[hk]at hd;simp only[Bool.true_and,ah]at hd;have hc:=hp (by simpa using hk);have h4:va%4=0:=by
   have:((va%4:Nat):Int)=0:=by simpa using hm
   omega
  have h1:=hc.m;have h2:=hu.1;rcases hc.r with h3|h3
  ·omega
  simp only[qb,aB,ak]at h3;omega
theorem sj{α:Type}{c:Bool}{x y:α}(h:c=true):(bif c then x else y)=x:=by rw[h];rfl
theorem kJ{α:Type}{c:Bool}{x y:α}(h:c=false):(bif c then x else y)=y:=by rw[h];rfl
def qG(n:Nat)(M:Mem)(a:Nat):Int×Bool:=bif decide (a+4≤n*64)then(qH M.data a,true)else(0,false)
structure iw where
 r:Run
 u:Mmu
 d:Dev
def pU(W:yR)(d:Dev)(va:Nat)(v:Int)(o:Bool):iw:=⟨(bif !o then W.r.wt ⟨10,va⟩else W.r).push [v],W.u,d⟩
def ln(n:Nat)(R:Run)(U:Mmu)(d:Dev)(va:Nat):iw:=
 bif !(cK n R U va 2).ok then⟨(cK n R U va 2).r,(cK n R U va 2).u,d⟩else
 bif(cK n R U va 2).r.device then pU (cK n R U va 2) (dq d (sS (cK n R U va 2).p.toNat) (cK n R U va 2).r.count).2 va (dq d (sS (cK n R U va 2).p.toNat) (cK n R U va 2).r.count).1.1 (dq d (sS (cK n R U va 2).p.toNat) (cK n R U va 2).r.count).1.2
 else pU (cK n R U va 2) d va (qG n (cK n R U va 2).u.m (cK n R U va 2).p.toNat).1 (qG n (cK n R U va 2).u.m (cK n R U va 2).p.toNat).2
def lm(n:Nat)(R:Run)(U:Mmu)(d:Dev)(va v:Nat):iw:=
 bif !(cK n R U va 3).ok then⟨(cK n R U va 3).r,(cK n R U va 3).u,d⟩else
 bif(cK n R U va 3).r.device then
  ⟨bif !(cP n (cK n R U va 3).u.m d (sS (cK n R U va 3).p.toNat) v).1 then(cK n R U va 3).r.wt ⟨10,va⟩else(cK n R U va 3).r,⟨(cP n (cK n R U va 3).u.m d (sS (cK n R U va 3).p.toNat) v).2.1,(cK n R U va 3).u.t⟩,(cP n (cK n R U va 3).u.m d (sS (cK n R U va 3).p.toNat) v).2.2⟩
 else⟨(cK n R U va 3).r,⟨(cK n R U va 3).u.m.JV (cK n R U va 3).p.toNat v,(cK n R U va 3).u.t⟩,d⟩
end Go.Ink
namespace Go.Proofs.YtakodpimdalajaaGreatDoor
open Go.RowKit Go.Ink Go.Proofs.Tryz
attribute [local irreducible] OpY bP
theorem F0(L:fa)(M:Mem)(a:Nat):xN L M a= .tuple #[.int .u32 (qG L.n M a).1,.bool (qG L.n M a).2]:=by
 unfold xN qG;cases decide (a+4≤L.n*64)<;>rfl
abbrev kN(br bu bb:Nat)(L:fa)(D:pL)(X:jq)(Y:lz)(m:iw):List bJ:=eh (kOf br bu D) X m.r++uF bu bb L m.u++mV D L.bm Y m.d
theorem lode_ok(br bu bb:Nat)(L:fa)(D:pL)(X:jq)(Y:lz)(R:Run)(U:Mmu)(d:Dev)(l:List Int)(va:Nat)(hva:va≤4294967295)(hl:l.length≤100000)(hT:U.t.length=16)(hroot:u32 R.s.root)(hd:d.wf)
  (w:World) (hi:Inv w (bK (kN br bu bb L D X Y ⟨R.wd (l++[(va:Int)]),U,d⟩)) (kN br bu bb L D X Y ⟨R.wd (l++[(va:Int)]),U,d⟩) w):
  Ctr prog 197 [.pointer (some ⟨br,0,none⟩)] w (kN br bu bb L D X Y ⟨R.wd (l++[(va:Int)]),U,d⟩) (fun v cs=>∃X' Y',v= .tuple #[]∧cs=kN br bu bb L D X' Y' (ln L.n (R.wd l) U d va)):=by
 have HW:=fun X=>y7 br bu bb L D X (R.wd l) U hT hroot va hva 2
 have hs:=qI L.n (R.wd l) U va 2;have hu:=vK L.n (R.wd l) U va hva 2;unfold ln;obtain⟨⟨p,ok,r,u⟩,hq⟩:=Zgn (cK L.n (R.wd l) U va 2);rw[hq]at HW hs hu⊢;obtain⟨pn,rfl⟩:∃pn:Nat,p=pn:=aq hu.1;have hpn:pn≤4294967295:=by have:(pn:Int)≤_:=hu.2;omega
 have hs:r.s=(R.wd l).s:=hs;have hdl:r.s.d.length≤100000:=by rw[hs];exact hl
 simp only[aO];have HB:=fun X=>Ch D L.bm X d hd pn r.count
 obtain⟨⟨⟨v,o⟩,d'⟩,hq2⟩:=Zgn (dq d (sS pn) r.count);rw[hq2]at HB⊢;have HM:=uG L u.m pn hpn;rw[F0]at HM;obtain⟨⟨v2,o2⟩,hq3⟩:=Zgn (qG L.n u.m pn);rw[hq3]at HM⊢;refine bL func197 rfl ntmps197 rfl hi ?_;refine Z_3 ?_;refine ZcM (eh (kOf br bu D) X (R.wd (l++[(va:Int)]))) (fun w hi hin=>gV (kOf br bu D) X R l va w hin) ?_;refine Z_7 ?_;refine ZcM (eh (kOf br bu D) X (R.wd l)++uF bu bb L U) (fun w hi hin=>HW X w hin) ?_;refine gL ?_;refine ZW ?_ ?_<;>intro hc2
 ·refine Z_2 ?_;refine bN (kN br bu bb L D X Y ⟨r,u,d⟩) Zj ?_;refine iF (cs':=[row _ _ _,slv _ _ _ _ _ _,slv _ _ _ _ _ _,row _ _ _,exC _ _ _ _,row _ _ _,row _ _ _,row _ _ _,row _ _ _,row _ _ _,slv _ _ _ _ _ _,slv _ _ _ _ _ _,row _ _ _,slv _ _ _ _ _ _]) (.inl rfl) Zu rfl ?_;rw[hc2];exact⟨X,Y,rfl,rfl⟩
 refine p5 ?_;refine ZW ?_ ?_<;>intro hc4
 ·refine bR ⟨fun j=>List.elem j [9],[]⟩ Zk ?_;refine gn ?_;refine ZFe 2 18 ?_;refine ZG 3 ?_;refine ZE 4 ?_;refine ZE 5 ?_;refine ZE 6 ?_;refine ZFe 7 16 ?_;refine ZG 8 ?_;refine ce 9 Zk ?_;refine ZcA (mV D L.bm Y d) (fun w hi hin=>HB Y w hin) ?_;rintro _ _ ⟨_,⟨Y',rfl,rfl⟩,rfl⟩;refine ZE 10 ?_;refine ZE 11 ?_;refine ZE 12 ?_;refine ZE 13 ?_;refine ZE 14 ?_;refine dr ?_;refine Z_8 ?_;refine ZW ?_ ?_<;>intro hc7
  ·refine Z_3 ?_;refine ZcM (eh (kOf br bu D) X r) (fun w hi hin=>np (kOf br bu D) X r 10 va w hin) ?_;refine Z_5 ?_;refine ku ?_;rintro _ _ ⟨b50,rfl,rfl⟩;refine ZcL (eh (kOf br bu D) X (r.wt ⟨10,va⟩)) (fun w hi hin=>iG (kOf br bu D) X (r.wt ⟨10,va⟩) _ 1 1 [v] (show r.s.d.length+1≤1000000 by omega) w hin (fun w' hk=>hi.J8 Zi Zh hk)) ?_;rintro _ _ ⟨_,⟨A',c',rfl,rfl⟩,rfl⟩;refine Zn (bN (kN br bu bb L D ⟨A',c',X.Ar,X.cr⟩ Y' ⟨(r.wt ⟨10,va⟩).wd (r.s.d++[v]),u,d'⟩) Zj ?_);refine Wq3 ?_;rw[kJ hc2,sj hc4,pU,sj hc7];exact⟨⟨A',c',X.Ar,X.cr⟩,Y',rfl,rfl⟩
  refine Z_5 ?_;refine ku ?_;rintro _ _ ⟨b50,rfl,rfl⟩;refine ZcL (eh (kOf br bu D) X r) (fun w hi hin=>iG (kOf br bu D) X r _ 1 1 [v] (show r.s.d.length+1≤1000000 by omega) w hin (fun w' hk=>hi.J8 Zi Zh hk)) ?_;rintro _ _ ⟨_,⟨A',c',rfl,rfl⟩,rfl⟩;refine Zn (bN (kN br bu bb L D ⟨A',c',X.Ar,X.cr⟩ Y' ⟨r.wd (r.s.d++[v]),u,d'⟩) Zj ?_);refine Wq3 ?_;rw[kJ hc2,sj hc4,pU,kJ hc7];exact⟨⟨A',c',X.Ar,X.cr⟩,Y',rfl,rfl⟩
 refine Z_5 ?_;refine ZSe (fun w hi=>kQ bu L.bm bb w (hi.get Zh)) ?_;refine ZA ?_;refine ZSe (fun w hi=>HM w (hi.get Zh)) ?_;refine gL ?_;refine ZW ?_ ?_<;>intro hc7
 ·refine Z_3 ?_;refine ZcM (eh (kOf br bu D) X r) (fun w hi hin=>np (kOf br bu D) X r 10 va w hin) ?_;refine Z_5 ?_;refine ku ?_;rintro _ _ ⟨b50,rfl,rfl⟩;refine ZcL (eh (kOf br bu D) X (r.wt ⟨10,va⟩)) (fun w hi hin=>iG (kOf br bu D) X (r.wt ⟨10,va⟩) _ 1 1 [v2] (show r.s.d.length+1≤1000000 by omega) w hin (fun w' hk=>hi.J8 Zi Zh hk)) ?_;rintro _ _ ⟨_,⟨A',c',rfl,rfl⟩,rfl⟩;refine Zn (bN (kN br bu bb L D ⟨A',c',X.Ar,X.cr⟩ Y ⟨(r.wt ⟨10,va⟩).wd (r.s.d++[v2]),u,d⟩) Zj ?_);refine Wq3 ?_;rw[kJ hc2,kJ hc4,pU,sj hc7];exact⟨⟨A',c',X.Ar,X.cr⟩,Y,rfl,rfl⟩
 refine Z_5 ?_;refine ku ?_;rintro _ _ ⟨b50,rfl,rfl⟩;refine ZcL (eh (kOf br bu D) X r) (fun w hi hin=>iG (kOf br bu D) X r _ 1 1 [v2] (show r.s.d.length+1≤1000000 by omega) w hin (fun w' hk=>hi.J8 Zi Zh hk)) ?_;rintro _ _ ⟨_,⟨A',c',rfl,rfl⟩,rfl⟩;refine Zn (bN (kN br bu bb L D ⟨A',c',X.Ar,X.cr⟩ Y ⟨r.wd (r.s.d++[v2]),u,d⟩) Zj ?_);refine Wq3 ?_;rw[kJ hc2,kJ hc4,pU,kJ hc7];exact⟨⟨A',c',X.Ar,X.cr⟩,Y,rfl,rfl⟩
theorem stow_ok(br bu bb:Nat)(L:fa)(D:pL)(X:jq)(Y:lz)(R:Run)(U:Mmu)(d:Dev)(l:List Int)(va v:Nat)(hva:va≤4294967295)(hv:v≤4294967295)(hT:U.t.length=16)(hroot:u32 R.s.root)(hd:d.wf)(ho:d.out.length≤1000000000)
  (w:World) (hi:Inv w (bK (kN br bu bb L D X Y ⟨R.wd ((l++[(v:Int)])++[(va:Int)]),U,d⟩)) (kN br bu bb L D X Y ⟨R.wd ((l++[(v:Int)])++[(va:Int)]),U,d⟩) w):
  Ctr prog 198 [.pointer (some ⟨br,0,none⟩)] w (kN br bu bb L D X Y ⟨R.wd ((l++[(v:Int)])++[(va:Int)]),U,d⟩) (fun x cs=>∃Y',x= .tuple #[]∧cs=kN br bu bb L D X Y' (lm L.n (R.wd l) U d va v)):=by
 have HW:=y7 br bu bb L D X (R.wd l) U hT hroot va hva 3;have hu:=vK L.n (R.wd l) U va hva 3;obtain⟨n1,n64,_⟩:=ls (hi.ok (ek L U.m) cJ);have hin4:=AV L.n n64 (R.wd l) U va hva 3;unfold lm;obtain⟨⟨p,ok,r,u⟩,hq⟩:=Zgn (cK L.n (R.wd l) U va 3);rw[hq]at HW hu hin4⊢;obtain⟨pn,rfl⟩:∃pn:Nat,p=pn:=aq hu.1;have hpn:pn≤4294967295:=by have:(pn:Int)≤_:=hu.2;omega
 obtain⟨um,ut⟩:=u;simp only[aO]at hin4⊢;have HB:=yP D L um Y d hd ho pn v r.count;obtain⟨⟨o,M',d'⟩,hq2⟩:=Zgn (cP L.n um d (sS pn) v);rw[hq2]at HB⊢;have HM:=fun h=>ng L um pn v h ⟨by omega,by omega⟩
 obtain⟨M2,hq3⟩:=Zgn (um.JV pn v);rw[hq3]at HM⊢;obtain⟨tt,htt⟩:∃t:Bool,t=true:=⟨_,rfl⟩;rw[←htt]at HM;refine bL func198 rfl ntmps198 rfl hi ?_;refine Z_3 ?_;refine fb (eB (eh (kOf br bu D) X (R.wd ((l++[(v:Int)])++[(va:Int)]))) rfl (fun _ _=>rfl) Zi (fun w hi hin=>gV (kOf br bu D) X R (l++[(v:Int)]) va w hin)) rfl ?_;rintro _ _ ⟨_,⟨rfl,rfl⟩,rfl⟩;refine Z_6 ?_;refine ZcM (eh (kOf br bu D) X (R.wd (l++[(v:Int)]))) (fun w hi hin=>gV (kOf br bu D) X R l v w hin) ?_;refine Z_7 ?_;refine ZcM (eh (kOf br bu D) X (R.wd l)++uF bu bb L U) (fun w hi hin=>HW w hin) ?_;refine gL ?_;refine ZW ?_ ?_<;>intro hc3
 ·refine Z_2 ?_;refine bN (kN br bu bb L D X Y ⟨r,⟨um,ut⟩,d⟩) Zj ?_;refine iF (cs':=[row _ _ _,slv _ _ _ _ _ _,slv _ _ _ _ _ _,row _ _ _,exC _ _ _ _,row _ _ _,row _ _ _,row _ _ _,row _ _ _,row _ _ _,slv _ _ _ _ _ _,slv _ _ _ _ _ _,row _ _ _,slv _ _ _ _ _ _]) (.inl rfl) Zu rfl ?_;rw[hc3];exact⟨Y,rfl,rfl⟩
 have hok:ok=true:=(by simpa using hc3);refine fF ?_;refine ZW ?_ ?_<;>intro hc4
 ·refine bR ⟨fun j=>List.elem j [10],[]⟩ Zk ?_;refine gn ?_;refine ZFe 2 18 ?_;refine ZG 3 ?_;refine ZE 4 ?_;refine ZE 5 ?_;refine ZE 6 ?_;refine ZE 7 ?_;refine ZFe 8 16 ?_;refine ZG 9 ?_;refine ce 10 Zk ?_;refine ZcA (mV D L.bm Y d++[ek L um]) (fun w hi hin=>HB w hin) ?_;rintro _ _ ⟨_,⟨Y',rfl,rfl⟩,rfl⟩;refine ZE 11 ?_;refine dr ?_;refine Z_7 ?_;refine ZW ?_ ?_<;>intro hc7
  ·refine Z_3 ?_;refine ZcM (eh (kOf br bu D) X r) (fun w hi hin=>np (kOf br bu D) X r 10 va w hin) ?_;refine Zn (bN (kN br bu bb L D X Y' ⟨r.wt ⟨10,va⟩,⟨M',ut⟩,d'⟩) Zj ?_);refine Wq3 ?_;rw[kJ hc3,sj hc4,sj hc7];exact⟨Y',rfl,rfl⟩
  refine Zc (bN (kN br bu bb L D X Y' ⟨r,⟨M',ut⟩,d'⟩) Zj ?_);refine Wq3 ?_;rw[kJ hc3,sj hc4,kJ hc7];exact⟨Y',rfl,rfl⟩
 have HM:=HM (hin4 hok hc4);refine Z_5 ?_;refine ZSe (fun w hi=>kQ bu L.bm bb w (hi.get Zh)) ?_;refine Z_2 ?_;refine ZcM ([ek L um]) (fun w hi hin=>HM w hin) ?_;refine Z_9 ?_;refine ZW ?_ ?_<;>intro hc7
 ·refine Z_3 ?_;refine ZcM (eh (kOf br bu D) X r) (fun w hi hin=>np (kOf br bu D) X r 10 va w hin) ?_;refine Zn (bN (kN br bu bb L D X Y ⟨r.wt ⟨10,va⟩,⟨M2,ut⟩,d⟩) Zj ?_);refine Wq3 ?_;rw[htt]at hc7;exact absurd hc7 cJ
 refine Zc (bN (kN br bu bb L D X Y ⟨r,⟨M2,ut⟩,d⟩) Zj ?_);refine Wq3 ?_;rw[kJ hc3,kJ hc4];exact⟨Y,rfl,rfl⟩
end Go.Proofs.YtakodpimdalajaaGreatDoor
namespace Go.Ink
open Go.RowKit
def lN(n:Nat)(R:Run)(U:Mmu)(va k:Nat):Run×Mmu:=((R.wt (ov n U R.sp va k).1.2).push [(ov n U R.sp va k).1.1],(ov n U R.sp va k).2)
def lp(n:Nat)(R:Run)(U:Mmu)(va k:Nat)(v:Int):Run×Mmu:=(R.wt (m7 n U R.sp va k v).1,(m7 n U R.sp va k v).2)
end Go.Ink
namespace Go.Proofs.YtakodpimdalajaaGreatDoor
open Go.RowKit Go.Ink Go.Proofs.Tryz
attribute [local irreducible] OpY bP
theorem zh(br bu bb:Nat)(L:fa)(D:pL)(X:jq)(R:Run)(U:Mmu)(l:List Int)(va k:Nat)(hva:va≤4294967295)(hk1:1≤k)(hk4:k≤4)(hl:l.length≤100000)(hT:U.t.length=16)(hroot:u32 R.s.root)
  (w:World) (hi:Inv w (bK (eh (kOf br bu D) X (R.wd (l++[(va:Int)]))++uF bu bb L U)) (eh (kOf br bu D) X (R.wd (l++[(va:Int)]))++uF bu bb L U) w):
  Ctr prog 199 [.pointer (some ⟨br,0,none⟩),.int .i64 k,.bool false] w (eh (kOf br bu D) X (R.wd (l++[(va:Int)]))++uF bu bb L U)
   (fun x cs=>∃X',x= .tuple #[]∧cs=eh (kOf br bu D) X' (lN L.n (R.wd l) U va k).1++uF bu bb L (lN L.n (R.wd l) U va k).2):=by
 have hr0:=hroot.1;have hr1:=hroot.2;have hsr:(R.wd l).sp.root≤4294967295:=by show R.s.root.toNat≤_;omega
 have HP:=F7 bu bb L U hT (R.wd l).sp hsr va k hva hk1 hk4;have HS:=qR (kOf br bu D) X (R.wd l) hr0;unfold lN;obtain⟨⟨⟨v,ca,ad⟩,U'⟩,hq⟩:=Zgn (ov L.n U (R.wd l).sp va k);rw[hq]at HP⊢;obtain⟨S,hS⟩:=Zgn ((R.wd l).sp);rw[hS]at HP HS;refine bL func199 rfl ntmps199 rfl hi ?_;refine Z_3 ?_;refine ZcM (eh (kOf br bu D) X (R.wd (l++[(va:Int)]))) (fun w hi hin=>gV (kOf br bu D) X R l va w hin) ?_;refine lw ?_;refine Z_1 ?_;refine ZW ?_ ?_<;>intro hc4
 ·exact absurd hc4 cJ
 refine Z_6 ?_;refine ZW ?_ ?_<;>intro hc6
 ·exact absurd hc6 cJ
 refine Zs (bR ⟨fun j=>List.elem j [8,14],[]⟩ Zk ?_);refine gn ?_;refine ZFe 2 17 ?_;refine ZG 3 ?_;refine ZE 4 ?_;refine ZE 6 ?_;refine ZE 7 ?_;refine j4 5 12 Zk ?_ ?_
 ·refine ZT (fun w hi=>HS w (hi.get Zh)) ?_;rintro _ _ ⟨_,⟨rfl,rfl⟩,rfl⟩;refine j4 8 12 Zk ?_ ?_
  ·refine ZcA (uF bu bb L U) (fun w hi hin=>HP w hin) ?_;rintro _ _ ⟨_,⟨rfl,rfl⟩,rfl⟩;refine ZE 9 ?_;refine ZE 10 ?_;refine ZE 11 ?_;refine ce 12 Zk ?_;refine ZP fun b8=>?_
   refine ZE 13 ?_;refine ce 14 Zk ?_;refine ZR ?_;refine dr ?_;refine Z_7 ?_;refine dD (eG (ys:=iE (kOf br bu D) X ((R.wd l).wt ⟨ca,ad⟩)) (n:=2) (vs:=[.int .i64 ca,.int .u32 ad]) rfl Zrf rfl rfl (jp rfl) Za rfl (by simp only[aj,ao];omega)) ?_;rintro _ _ ⟨rfl,rfl⟩;refine Z_5 ?_;refine ku ?_;rintro _ _ ⟨b29,rfl,rfl⟩;exact Wq34
  refine ZP fun b8=>?_
  refine ce 8 Zk ?_;refine ZcA (uF bu bb L U) (fun w hi hin=>HP w hin) ?_;rintro _ _ ⟨_,⟨rfl,rfl⟩,rfl⟩;refine ZE 9 ?_;refine ZE 10 ?_;refine ZE 11 ?_;refine ZE 13 ?_;refine ce 14 Zk ?_;refine ZR ?_;refine dr ?_;refine Z_7 ?_;refine dD (eG (ys:=iE (kOf br bu D) X ((R.wd l).wt ⟨ca,ad⟩)) (n:=2) (vs:=[.int .i64 ca,.int .u32 ad]) rfl Zrf rfl rfl (jp rfl) Za rfl (by simp only[aj,ao];omega)) ?_;rintro _ _ ⟨rfl,rfl⟩;refine Z_5 ?_;refine ku ?_;rintro _ _ ⟨b29,rfl,rfl⟩;exact Wq34
 refine ZP fun b8=>?_
 refine ce 5 Zk ?_;refine ZT (fun w hi=>HS w (hi.get Zh)) ?_;rintro _ _ ⟨_,⟨rfl,rfl⟩,rfl⟩;refine ce 8 Zk ?_;refine ZcA (uF bu bb L U) (fun w hi hin=>HP w hin) ?_;rintro _ _ ⟨_,⟨rfl,rfl⟩,rfl⟩;refine ZE 9 ?_;refine ZE 10 ?_;refine ZE 11 ?_;refine ZE 13 ?_;refine ce 14 Zk ?_;refine ZR ?_;refine dr ?_;refine Z_7 ?_;refine dD (eG (ys:=iE (kOf br bu D) X ((R.wd l).wt ⟨ca,ad⟩)) (n:=2) (vs:=[.int .i64 ca,.int .u32 ad]) rfl Zrf rfl rfl (jp rfl) Za rfl (by simp only[aj,ao];omega)) ?_;rintro _ _ ⟨rfl,rfl⟩;refine Z_5 ?_;refine ku ?_;rintro _ _ ⟨b29,rfl,rfl⟩;exact Wq34
theorem zg(br bu bb:Nat)(L:fa)(D:pL)(X:jq)(R:Run)(U:Mmu)(l:List Int)(va k:Nat)(v:Int)(hva:va≤4294967295)(hk1:1≤k)(hk4:k≤4)(hl:l.length≤100000)(hT:U.t.length=16)(hroot:u32 R.s.root)
  (w:World) (hi:Inv w (bK (eh (kOf br bu D) X (R.wd ((l++[v])++[(va:Int)]))++uF bu bb L U)) (eh (kOf br bu D) X (R.wd ((l++[v])++[(va:Int)]))++uF bu bb L U) w):
  Ctr prog 199 [.pointer (some ⟨br,0,none⟩),.int .i64 k,.bool true] w (eh (kOf br bu D) X (R.wd ((l++[v])++[(va:Int)]))++uF bu bb L U)
   (fun x cs=>x= .tuple #[]∧cs=eh (kOf br bu D) X (lp L.n (R.wd l) U va k v).1++uF bu bb L (lp L.n (R.wd l) U va k v).2):=by
 have hr0:=hroot.1;have hr1:=hroot.2;have hsr:(R.wd l).sp.root≤4294967295:=by show R.s.root.toNat≤_;omega
 have HP:=CL bu bb L U hT (R.wd l).sp hsr va k v hva hk1 hk4;have HS:=qR (kOf br bu D) X (R.wd (l++[v])) hr0;unfold lp;obtain⟨⟨⟨ca,ad⟩,U'⟩,hq⟩:=Zgn (m7 L.n U (R.wd l).sp va k v);rw[hq]at HP⊢;obtain⟨S,hS⟩:=Zgn ((R.wd l).sp);rw[show(R.wd (l++[v])).sp=(R.wd l).sp from rfl,hS]at HS;rw[hS]at HP;refine bL func199 rfl ntmps199 rfl hi ?_;refine Z_3 ?_;refine ZcM (eh (kOf br bu D) X (R.wd ((l++[v])++[(va:Int)]))) (fun w hi hin=>gV (kOf br bu D) X R (l++[v]) va w hin) ?_;refine lw ?_;refine Z_1 ?_;refine ZW ?_ ?_<;>intro hc4
 ·exact absurd hc4 cJ
 refine Z_6 ?_;refine ZW ?_ ?_<;>intro hc6
 ·refine bR ⟨fun j=>List.elem j [9,11,14],[]⟩ Zk ?_;refine gn ?_;refine ZE 2 ?_;refine ZFe 3 17 ?_;refine ZE 5 ?_;refine ZE 7 ?_;refine ZE 8 ?_;refine ZE 10 ?_;refine j4 4 6 Zk ?_ ?_
  ·refine kg ?_;refine ce 6 Zk ?_;refine ZT (fun w hi=>HS w (hi.get Zh)) ?_;rintro _ _ ⟨_,⟨rfl,rfl⟩,rfl⟩;refine ce 9 Zk ?_;refine ZcA (eh (kOf br bu D) X (R.wd (l++[v]))) (fun w hi hin=>gV (kOf br bu D) X R l v w hin) ?_;rintro _ _ ⟨_,⟨rfl,rfl⟩,rfl⟩;refine ce 11 Zk ?_;refine ZcA (uF bu bb L U) (fun w hi hin=>HP w hin) ?_;rintro _ _ ⟨_,⟨rfl,rfl⟩,rfl⟩;refine ZE 12 ?_;refine ZFe 13 19 ?_;refine ce 14 Zk ?_;refine dp rfl rfl (eG (ys:=iE (kOf br bu D) X ((R.wd l).wt ⟨ca,ad⟩)) (n:=2) (vs:=[.int .i64 ca,.int .u32 ad]) rfl Zrf rfl rfl (jp rfl) Za rfl (by simp only[aj,ao];omega)) ZJ ?_;rintro _ _ ⟨rfl,rfl⟩;refine dr ?_;refine Zo (bN (eh (kOf br bu D) X ((R.wd l).wt ⟨ca,ad⟩)++uF bu bb L U') Zj ?_);refine iF (cs':=[row _ _ _,slv _ _ _ _ _ _,slv _ _ _ _ _ _,row _ _ _,exC _ _ _ _,row _ _ _]) (.inr rfl) Zu rfl ?_;exact df
  refine ZT (fun w hi=>HS w (hi.get Zh)) ?_;rintro _ _ ⟨_,⟨rfl,rfl⟩,rfl⟩;refine j4 4 9 Zk ?_ ?_
  ·refine kg ?_;refine ce 9 Zk ?_;refine ZcA (eh (kOf br bu D) X (R.wd (l++[v]))) (fun w hi hin=>gV (kOf br bu D) X R l v w hin) ?_;rintro _ _ ⟨_,⟨rfl,rfl⟩,rfl⟩;refine ce 11 Zk ?_;refine ZcA (uF bu bb L U) (fun w hi hin=>HP w hin) ?_;rintro _ _ ⟨_,⟨rfl,rfl⟩,rfl⟩;refine ZE 12 ?_;refine ZFe 13 19 ?_;refine ce 14 Zk ?_;refine dp rfl rfl (eG (ys:=iE (kOf br bu D) X ((R.wd l).wt ⟨ca,ad⟩)) (n:=2) (vs:=[.int .i64 ca,.int .u32 ad]) rfl Zrf rfl rfl (jp rfl) Za rfl (by simp only[aj,ao];omega)) ZJ ?_;rintro _ _ ⟨rfl,rfl⟩;refine dr ?_;refine Zo (bN (eh (kOf br bu D) X ((R.wd l).wt ⟨ca,ad⟩)++uF bu bb L U') Zj ?_);refine iF (cs':=[row _ _ _,slv _ _ _ _ _ _,slv _ _ _ _ _ _,row _ _ _,exC _ _ _ _,row _ _ _]) (.inr rfl) Zu rfl ?_;exact df
  refine ZcA (eh (kOf br bu D) X (R.wd (l++[v]))) (fun w hi hin=>gV (kOf br bu D) X R l v w hin) ?_;rintro _ _ ⟨_,⟨rfl,rfl⟩,rfl⟩;refine ZG 4 ?_;refine ce 11 Zk ?_;refine ZcA (uF bu bb L U) (fun w hi hin=>HP w hin) ?_;rintro _ _ ⟨_,⟨rfl,rfl⟩,rfl⟩;refine ZE 12 ?_;refine ZFe 13 19 ?_;refine ce 14 Zk ?_;refine dp rfl rfl (eG (ys:=iE (kOf br bu D) X ((R.wd l).wt ⟨ca,ad⟩)) (n:=2) (vs:=[.int .i64 ca,.int .u32 ad]) rfl Zrf rfl rfl (jp rfl) Za rfl (by simp only[aj,ao];omega)) ZJ ?_;rintro _ _ ⟨rfl,rfl⟩;refine dr ?_;refine Zo (bN (eh (kOf br bu D) X ((R.wd l).wt ⟨ca,ad⟩)++uF bu bb L U') Zj ?_);refine iF (cs':=[row _ _ _,slv _ _ _ _ _ _,slv _ _ _ _ _ _,row _ _ _,exC _ _ _ _,row _ _ _]) (.inr rfl) Zu rfl ?_;exact df
 exact absurd hc6 cJ
end Go.Proofs.YtakodpimdalajaaGreatDoor
