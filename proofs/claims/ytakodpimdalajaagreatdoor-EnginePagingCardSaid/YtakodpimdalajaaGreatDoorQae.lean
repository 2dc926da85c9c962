/- Lemmas. -/
import Derived.Test.YtakodpimdalajaaGreatDoorQaa
import Derived.Test.YtakodpimdalajaaGreatDoorQab
import Derived.Test.YtakodpimdalajaaGreatDoorQac
import Derived.Test.YtakodpimdalajaaGreatDoorQad
set_option linter.unusedSimpArgs false
set_option linter.unusedVariables false
set_option maxRecDepth 100000
set_option maxHeartbeats 4000000
namespace Go.Ink
open Go.RowKit
def q9(l:List Nat):Nat→Int
 |0=>0
 |k+1=>bits .or .u32 (q9 l k) (IntKind.u32.wrap (1*2^(min (((l.getD k 0:Nat):Int)).toNat IntKind.u32.bits)))
def mW(l:List Nat):Int:=q9 l l.length
def uG(l:List Nat):List Int:=l.map fun n:Nat=>(n:Int)
def kX(n H9 a:Nat):Bool:= !((decide (16≤H9)||(a%64 !=0))||decide (n*64≤a))
def ge(n:Nat)(M:Mem)(It:List Int)(H9 a cmd:Nat):Bool×Mem×List Int:=
 bif !kX n H9 a then(false,M,It)else
 bif cmd==1 then(true,M.fill (a/64*64) ((It.drop (H9*64)).take 64) 64,It)else
 bif cmd==2 then(true,M,It.take (H9*64)++(M.data.drop (a/64*64)).take 64++It.drop (H9*64+64))else(false,M,It)
end Go.Ink
namespace Go.Proofs.YtakodpimdalajaaGreatDoor
open Go.RowKit Go.Ink Go.Proofs.Tryz
attribute [local irreducible] OpY bU
abbrev oW(b:Nat)(p m:Int):bJ:=row b [.int .u32 p,.int .u32 m] 118
abbrev zQ(b:Nat)(t:Int):bJ:=row b [.int .u32 t] 224
abbrev b8(A:Option Addr)(c:Nat)(l:List Int):bJ:=sl .u8 5 A l.length c l
abbrev zk(b:Nat)(Ao:Option Addr)(no co:Nat)(Ai:Option Addr)(ni ci:Nat):bJ:=row b [.slice Ao no co,.slice Ai ni ci] 212
abbrev GB(b bd:Nat):bJ:=row b [.slice (some ⟨bd,0,none⟩) 1024 1024] 216
abbrev DX(bd:Nat)(l:List Int):bJ:=sl .u8 5 (some ⟨bd,0,none⟩) 1024 1024 l
theorem C8(w:World):Ctr prog 83 [] w [] (fun v cs=>∃b,v= .pointer (some ⟨b,0,none⟩)∧cs=[oW b 0 0]):=by
 refine bL func83 rfl ntmps83 rfl (Inv.start w) ?_;refine Z_8 ?_;refine ZO fun b2=>?_
 refine Z_4 ?_;refine Zrb ([row _ _ _]) ?_;exact⟨_,rfl,rfl⟩
theorem BP(w:World):Ctr prog 84 [] w [] (fun v cs=>∃b,v= .pointer (some ⟨b,0,none⟩)∧cs=[zQ b 0]):=by
 refine bL func84 rfl ntmps84 rfl (Inv.start w) ?_;refine Z_8 ?_;refine ZO fun b2=>?_
 refine Z_4 ?_;refine Zrb ([row _ _ _]) ?_;exact⟨_,rfl,rfl⟩
theorem D8(w:World):Ctr prog 85 [] w [] (fun v cs=>∃b,v= .pointer (some ⟨b,0,none⟩)∧cs=[zk b none 0 0 none 0 0]):=by
 refine bL func85 rfl ntmps85 rfl (Inv.start w) ?_;refine Z_8 ?_;refine ZO fun b2=>?_
 refine Z_4 ?_;refine Zrb ([row _ _ _]) ?_;exact⟨_,rfl,rfl⟩
def _root_.Go.Ink.mK(l:List Int):List Int:=l++List.replicate (1024 - l.length) 0
theorem DZ(A:Option Addr)(c:Nat)(l:List Int)(hl:l.length≤1024)(w:World)(h:Rd w .u8 A l.length c l):Ctr prog 82 [.slice A l.length c] w [] (fun v cs=>∃b bd,v= .tuple #[.pointer (some ⟨b,0,none⟩),.int .i64 0]∧cs=[GB b bd,DX bd (mK l)]):=by
 refine bL func82 rfl ntmps82 rfl (Inv.start w) ?_;refine iG ?_;refine bV rfl ((aD (by omega))) ?_;refine Z_4 ?_;refine dJ (iJ (bytes:=1) (n:=1024) rfl rfl rfl rfl rfl rfl rfl (by omega) (by simp only[maxLen];omega)) rfl ?_;rintro _ _ ⟨b8_,rfl,rfl⟩;rw[jC];refine ZA ?_;refine ZO fun b10=>?_
 refine eJ ?_;refine dJ (ly rfl rfl Za rfl rfl (fun w hi=>h.Iy hi) cY (by omega)) rfl ?_;rintro _ _ ⟨rfl,rfl⟩;have hd:(ints .u8 (List.replicate 1024 0)).take 0++(ints .u8 l).take (min l.length 1024)++(ints .u8 (List.replicate 1024 0)).drop (0+min l.length 1024)=ints .u8 (mK l):=by(rw[Nat.min_eq_left hl,iB,iB,lR,List.take_zero,bG,bl,List.drop_replicate];simp[ints,mK])
 rw[hd];refine eJ ?_;refine bP [GB b10 b8_,DX b8_ (mK l)] Zj ?_;refine ft (cs':=[row _ _ _,slv _ _ _ _ _ _]) (.inl rfl) Zu rfl rfl rfl ?_;exact⟨_,_,rfl,rfl⟩
theorem Aq(b:Nat)(p m:Int)(w:World)(h:(oW b p m).ok w):Ctr prog 70 [.pointer (some ⟨b,0,none⟩)] w [] (fun v cs=>v= .int .u32 p∧cs=[]):=by
 refine bL func70 rfl ntmps70 rfl (Inv.start w) ?_;refine eJ ?_;refine dX (bO Zrf (Zv rfl)) (dL (by assumption) rfl) rfl ?_;refine Z_4 ?_;refine Zra ?_;exact⟨rfl,rfl⟩
theorem mask_ok(b:Nat)(p m:Int)(w:World)(h:(oW b p m).ok w):Ctr prog 71 [.pointer (some ⟨b,0,none⟩)] w [] (fun v cs=>v= .int .u32 m∧cs=[]):=by
 refine bL func71 rfl ntmps71 rfl (Inv.start w) ?_;refine eJ ?_;refine dX (bO Zrf (Zv rfl)) (dL (by assumption) rfl) rfl ?_;refine Z_4 ?_;refine Zra ?_;exact⟨rfl,rfl⟩
theorem Dm(b:Nat)(p m v:Int)(w:World)(hi:Inv w (bK [oW b p m]) [oW b p m] w):Ctr prog 270 [.pointer (some ⟨b,0,none⟩),.int .u32 v] w [oW b p m] (fun x cs=>x= .tuple #[]∧cs=[oW b (bits .andNot .u32 p v) m]):=by
 refine bL func270 rfl ntmps270 rfl hi ?_;refine Z_6 ?_;refine Zy (p5 Zv0 Zv0 rfl) ?_;refine Z_2 ?_;refine ZL ?_;refine Zn (fE (cs':=[row _ _ _]) (.inr rfl) Zu rfl ?_);exact⟨rfl,rfl⟩
theorem xU(b:Nat)(p m v:Int)(w:World)(hi:Inv w (bK [oW b p m]) [oW b p m] w):Ctr prog 271 [.pointer (some ⟨b,0,none⟩),.int .u32 v] w [oW b p m] (fun x cs=>x= .tuple #[]∧cs=[oW b p (bits .and .u32 v 255)]):=by
 refine bL func271 rfl ntmps271 rfl hi ?_;refine Z_6 ?_;refine ZL ?_;refine Zn (fE (cs':=[row _ _ _]) (.inr rfl) Zu rfl ?_);exact⟨rfl,rfl⟩
theorem nV(b:Nat)(p m:Int)(A:Option Addr)(c:Nat)(l:List Nat)(hl:∀x,x∈l→x<8)(w:World)(hi:Inv w (bK [oW b p m]) [oW b p m] w)(h:∀w',dR (bK [oW b p m]) w w'→Rd w' .i64 A l.length c (uG l)):Ctr prog 17 [.pointer (some ⟨b,0,none⟩),.slice A l.length c] w [oW b p m] (fun x cs=>x= .bool true∧cs=[oW b (bits .or .u32 p (mW l)) m]):=by
 have hrw:=h w (dR.refl _ _);have hm:=hrw.max;have hcp:=hrw.cap;simp only[maxLen]at hm;refine bL func17 rfl ntmps17 rfl hi ?_;refine GV ?_;refine cG (fun k:Nat=>[(0,.pointer (some ⟨b,0,none⟩)),(5,.int .u32 (q9 l k)),(8,.slice A l.length c),(9,.int .i64 l.length),(10,.int .i64 (k:Int))]) (fun _=>[oW b p m]) (fun k=>k≤l.length) (fun k=>l.length - k) (0) ?_ ?_ ?_ ?_
 ·exact ax _
 ·exact Zwk
 ·exact Zu
 rintro k hk;refine Z_6 ?_;refine ZW ?_ ?_<;>intro hc3
 ·simp only[ap]at hc3;have hkl:k<l.length:=by omega
  have hx:=hl _ (List.getElem_mem hkl);have hgd:l.getD k 0=l[k]'hkl:=by simp[hkl]
  obtain⟨ad,rfl⟩:=hrw.some_ (by omega);refine Z_6 ?_;refine Zy (dx (j:=k) rfl Zrf (Zv rfl) (Zv rfl) (fun _=>by omega) (fun _=>by omega)) ?_;refine dX (bO Zrf (Zv rfl)) (uo h (cZ (show(uG l)[k]? =some ((l[k]'hkl:Nat):Int) by simp[uG,hkl]))) rfl ?_;refine iG ?_;refine bV rfl ((by rw[aD (show¬((l[k]'hkl:Nat):Int)<0 by omega),aD (show¬(8:Int)≤((l[k]'hkl:Nat):Int) by omega)];rfl)) ?_;refine Z_5 ?_;refine Zy (tS (Zv rfl) (Zv rfl) (by omega) rfl) ?_;refine Zy (sb (Zv rfl) (Zv rfl) (show _=q9 l (k+1)from by rw[q9,hgd])) ?_;refine Z_5 ?_;refine Zy (cy Zv0 Zv0 Zl) ?_;refine Z_2 ?_;refine ez (k+1) ?_ ?_ ?_
  ·exact⟨by omega,by omega⟩
  ·exact Zwk
  exact Zu
 simp only[aj]at hc3;obtain rfl:k=l.length:=by omega
 refine qo ?_;refine ZL ?_;refine Z_8 ?_;refine Zrb ([row _ _ _]) ?_;exact⟨rfl,rfl⟩
theorem tset_ok(b:Nat)(t v:Int)(w:World)(hi:Inv w (bK [zQ b t]) [zQ b t] w):Ctr prog 272 [.pointer (some ⟨b,0,none⟩),.int .u32 v] w [zQ b t] (fun x cs=>x= .tuple #[]∧cs=[zQ b v]):=by
 refine bL func272 rfl ntmps272 rfl hi ?_;refine Z_5 ?_;refine ZL ?_;refine Zn (fE (cs':=[row _ _ _]) (.inr rfl) Zu rfl ?_);exact⟨rfl,rfl⟩
theorem EP(b:Nat)(t:Int)(w:World)(h:(zQ b t).ok w):Ctr prog 268 [.pointer (some ⟨b,0,none⟩)] w [] (fun v cs=>v= .int .u32 t∧cs=[]):=by
 refine bL func268 rfl ntmps268 rfl (Inv.start w) ?_;refine eJ ?_;refine dX (bO Zrf (Zv rfl)) (dL (by assumption) rfl) rfl ?_;refine Z_4 ?_;refine Zra ?_;exact⟨rfl,rfl⟩
theorem wO(A:Option Addr)(n c:Nat)(xs:List Int)(w:World)(h:Rd w .u8 A n c xs)(hn:n≤140737488355328):Ctr prog 111 [.slice A n c] w [] (fun v cs=>∃A' c',v= .slice A' n c'∧cs=[sl .u8 5 A' n c' xs]):=by
 refine bL func111 rfl ntmps111 rfl (Inv.start w) ?_;refine gQ ?_;refine ZW ?_ ?_<;>intro hc1
 ·obtain rfl:A=none:=by simpa using hc1
  obtain⟨rfl,rfl⟩:=h.nil rfl;obtain rfl:xs=[]:=by have:=h.len;simpa[ints]using this
  refine Z_2 ?_;refine dC 5 1 ?_;refine Z_5 ?_;refine Zrb ([slv _ _ _ _ _ _]) ?_;exact⟨_,_,rfl,rfl⟩
 refine Z_4 ?_;refine dJ (bZ rfl rfl Zrf Zrf rfl rfl) rfl ?_;rintro _ _ ⟨b5,rfl,rfl⟩;refine ZA ?_;refine dJ (cW (e:=5) (sz:=1) (bytes:=1) rfl rfl Za rfl rfl (fun w hi=>h.Iy hi) cY (by simp only[maxLen];omega) (by omega)) rfl ?_;rintro _ _ ⟨A',c',rfl,rfl⟩;simp only[bl,aP];refine Z_4 ?_;refine Zrb ([slv _ _ _ _ _ _]) ?_;exact⟨_,_,rfl,rfl⟩
theorem D4(b:Nat)(Ao:Option Addr)(co:Nat)(o:List Int)(Ai:Option Addr)(ni ci:Nat)(x:Int)(ho:o.length≤1000000000)(w:World)(hi:Inv w (bK [zk b Ao o.length co Ai ni ci,b8 Ao co o]) [zk b Ao o.length co Ai ni ci,b8 Ao co o] w):Ctr prog 273 [.pointer (some ⟨b,0,none⟩),.int .u8 x] w [zk b Ao o.length co Ai ni ci,b8 Ao co o] (fun v cs=>∃Ao' co',v= .tuple #[]∧cs=[zk b Ao' (o++[x]).length co' Ai ni ci,b8 Ao' co' (o++[x])]):=by
 refine bL func273 rfl ntmps273 rfl hi ?_;refine Z_7 ?_;refine dJ (bZ rfl rfl Zrf Zrf rfl rfl) rfl ?_;rintro _ _ ⟨b10,rfl,rfl⟩;refine dJ (cW (e:=5) (sz:=1) (bytes:=1) rfl rfl Za rfl rfl (fun w hi=>hi.rd (show Has _ (slv 5 1 (some ⟨b10,0,none⟩) 1 1 [.int .u8 x])from Zh)) (iE rfl) (by simp only[maxLen];omega) (by omega)) rfl ?_;rintro _ _ ⟨A2,c2,rfl,rfl⟩;rw[show o.length+1=(o++[x]).length by simp,show ints .u8 o++[Value.int .u8 x]=ints .u8 (o++[x])from cH o [x]];refine Z_2 ?_;refine ZL ?_;refine Zn (fE (cs':=[row _ _ _,slv _ _ _ _ _ _]) (.inr rfl) Zu rfl ?_);exact⟨A2,c2,rfl,rfl⟩
theorem D5(b:Nat)(Ao:Option Addr)(no co:Nat)(Ai:Option Addr)(ni ci:Nat)(w:World)(h:(zk b Ao no co Ai ni ci).ok w):Ctr prog 63 [.pointer (some ⟨b,0,none⟩)] w [] (fun v cs=>v= .int .i64 ni∧cs=[]):=by
 refine bL func63 rfl ntmps63 rfl (Inv.start w) ?_;refine eJ ?_;refine dX (bO Zrf (Zv rfl)) (dL (by assumption) rfl) rfl ?_;refine Z_5 ?_;refine Zra ?_;exact⟨rfl,rfl⟩
theorem D3(A:Option Addr)(c:Nat)(x:Int)(xs:List Int)(hl:xs.length≤1000000000)(w:World)(hi:Inv w (bK [b8 A c (x::xs)]) [b8 A c (x::xs)] w):Ctr prog 278 [.slice A (x::xs).length c,.int .i64 0,.int .i64 1] w [b8 A c (x::xs)] (fun v cs=>∃A' c',v= .slice A' xs.length c'∧cs=[b8 A' c' xs]):=by
 have hrd0:=hi.rd (show Has _ (b8 A c (x::xs))from Zh);have hcap:=hrd0.cap;obtain⟨bb,rfl⟩:=fu (hi.get (show Has _ (b8 A c (x::xs))from Zh)) (by simp);simp only[ai]at hcap;have hxl:(x::xs).length=xs.length+1:=rfl;obtain⟨q0,hq0⟩:=Zgn ((⟨bb,(if c=1 then 0 else 1),none⟩:Addr));have hq1:(some q0:Option Addr)=(if c=1 then some ⟨bb,0,none⟩else(some (⟨bb,0,none⟩:Addr)).map (·.add (1*1))):=by
  rw[←hq0];split<;>rfl
 refine bL func278 rfl ntmps278 rfl hi ?_;refine gQ ?_;refine Zy (Ez (lo:=0) (hi:=1) (mx:=(x::xs).length) rfl Zrf (Zv rfl) (Zv rfl) (Zv rfl) (Zv rfl) (by omega) (by omega) (by omega)) ?_;refine eJ ?_;refine bV rfl (rfl) ?_;refine eJ ?_;refine bX ⟨fun j=>List.elem j [6],[]⟩ Zk ?_;refine ZE 0 ?_;refine ZE 1 ?_;refine cN 2 rfl Zk Zk Zk (gZ 0 rfl Zrf (Zv rfl) (Zv rfl) (fun _=>by first|rfl|omega) (fun _=>by omega)) rfl ?_;refine ZE 3 ?_;refine ZE 4 ?_;refine cN 5 rfl Zk Zk Zk (Ey (lo:=1) (hi:=(x::xs).length) (r:=q0) rfl Zrf (Zv rfl) (.inr ⟨_,_,rfl,(Zv rfl)⟩) (.inl ⟨rfl,rfl⟩) (by simp) (by simpa using hcap) hq1) rfl ?_;refine cw 6 Zk ?_;refine gn rfl rfl (BY (e:=5) (bytes:=1) rfl (by omega) rfl Za rfl rfl (fun w hi=>(by have h5:=(hi.rd (show Has _ (b8 (some ⟨bb,0,none⟩) c (x::xs))from Zh)).cut (lo:=1) (hi:=(x::xs).length) (by simp) (aS _);rw[←hq1]at h5;exact h5)) (by rw[iB,lR];exact cY) (by omega)) ZJ rfl ?_;rintro _ _ ⟨rfl,rfl⟩;rw[show 0+((x::xs).length - 1)=xs.length by simp,show(ints .u8 (x::xs)).take 0++((ints .u8 (x::xs)).take (x::xs).length).drop 1=ints .u8 xs from by(simp[ints];exact List.take_of_length_le (by simp))];refine ZE 7 ?_;refine bN Zk ?_;refine Z_7 ?_;refine Zy (iX (sz:=1) (lo:=xs.length) (hi:=(x::xs).length) (r:=xs.length) rfl Zrf (Zv rfl) (.inr ⟨_,_,rfl,(Zv rfl)⟩) (.inr ⟨_,_,rfl,(Zv rfl)⟩) (by omega) (by omega) (by omega) (by omega)) ?_;refine dy (t_clear rfl Za rfl Zrf rfl rfl (aS _) (by simp only[ai];omega)) ?_;rintro _ _ ⟨rfl,rfl⟩;refine Z_9 ?_;refine Zrb ([slv _ _ _ _ _ _]) ?_;exact⟨_,_,rfl,rfl⟩
theorem GG(b:Nat)(Ao:Option Addr)(no co:Nat)(Ai:Option Addr)(ci:Nat)(inp:List Int)(hl:inp.length≤1000000000)(w:World)(hi:Inv w (bK [zk b Ao no co Ai inp.length ci,b8 Ai ci inp]) [zk b Ao no co Ai inp.length ci,b8 Ai ci inp] w):Ctr prog 269 [.pointer (some ⟨b,0,none⟩)] w [zk b Ao no co Ai inp.length ci,b8 Ai ci inp] (fun v cs=>∃Ai' ci',v= .int .u8 (gB inp 0)∧cs=[b8 Ai' ci' inp.tail,zk b Ao no co Ai' inp.tail.length ci']):=by
 cases inp with
 |nil=>
  refine bL func269 rfl ntmps269 rfl hi ?_;refine qn ?_;refine cn rfl (rfl) ?_;refine Z_7 ?_;refine bP [b8 Ai ci [],zk b Ao no co Ai 0 ci] Zj ?_;refine Zrb ([slv _ _ _ _ _ _,row _ _ _]) ?_;exact⟨_,_,rfl,rfl⟩
 |cons x xs=>
  have hxl:(x::xs).length=xs.length+1:=rfl;have hc1':(((x::xs).length:Int)==0)=false:=by rw[beq_eq_false_iff_ne];simp only[ai];omega
  obtain⟨bb,rfl⟩:=fu (hi.get (show Has _ (b8 Ai ci (x::xs))from Zh)) (by simp);refine bL func269 rfl ntmps269 rfl hi ?_;refine qn ?_;refine bV rfl (hc1') ?_;refine Z_8 ?_;refine Zy (cC (j:=0) (sz:=1) (r:=0) rfl Zrf (Zv rfl) (Zv rfl) (fun _=>by omega) (fun _=>by omega) (by omega)) ?_;refine dX (bO Zrf Zv0) (dH (xs:=ints .u8 (x::xs)) Zh rfl) rfl ?_;refine eJ ?_;refine ZcL ([b8 (some ⟨bb,0,none⟩) ci (x::xs)]) (fun w hi hin=>D3 (some ⟨bb,0,none⟩) ci x xs (by simp only[ai]at hl;omega) w hin) ?_;rintro _ _ ⟨_,⟨A2,c2,rfl,rfl⟩,rfl⟩;refine Z_2 ?_;refine ZL ?_;refine Z_9 ?_;refine Zrb ([slv _ _ _ _ _ _,row _ _ _]) ?_;exact⟨_,_,rfl,rfl⟩
end Go.Proofs.YtakodpimdalajaaGreatDoor
namespace Go.Ink
open Go.RowKit
theorem yM(n k:Nat):((n:Int)==((k:Nat):Int))=(n==k):=by rw[Bool.eq_iff_iff];simp;omega
theorem natBne(n k:Nat):((n:Int) !=((k:Nat):Int))=(n !=k):=by rw[Bool.eq_iff_iff];simp;omega
theorem tz(n H9 a:Nat):(((false||decide ((16:Int)≤H9))||(((a%64:Nat):Int) !=((0:Nat):Int)))||decide (((n*64:Nat):Int)≤a))= !kX n H9 a:=by
 unfold kX;rw[Bool.not_not,Bool.false_or,natBne,show decide ((16:Int)≤H9)=decide (16≤H9)from decide_eq_decide.2 (by omega),show decide (((n*64:Nat):Int)≤a)=decide (n*64≤a)from decide_eq_decide.2 (by omega)]
theorem disk_rd{w:World}{bk H9:Nat}{It:List Int}(h:RdV w 1 (some ⟨bk,0,none⟩) 1024 1024 (ints .u8 It))(hs:H9<16):Rd w .u8 (some ⟨bk,H9*64,none⟩) 64 (1024 - H9*64) ((It.drop (H9*64)).take 64):=by
 have h1:=h.cut (lo:=H9*64) (hi:=H9*64+64) (by omega) (by omega);rw[if_neg (by omega),Option.map_some,Addr.add_lit,Nat.mul_one,bl,iB,lR,show H9*64+64 - H9*64=64 by omega,List.drop_take,show H9*64+64 - H9*64=64 by omega]at h1;exact h1
end Go.Ink
namespace Go.Proofs.YtakodpimdalajaaGreatDoor
open Go.RowKit Go.Ink Go.Proofs.Tryz
attribute [local irreducible] OpY bU
theorem GA(bd bk:Nat)(L:gR)(M:Mem)(It:List Int)(hk:It.length=1024)(hkb:u8s It)(H9 a cmd:Nat)(hs:H9≤4294967295)(ha:a≤4294967295)(w:World)(hi:Inv w (bK [GB bd bk,DX bk It,eL L M]) [GB bd bk,DX bk It,eL L M] w):
  Ctr prog 274 [.pointer (some ⟨bd,0,none⟩),.pointer (some ⟨L.bm,0,none⟩),.int .u32 H9,.int .u32 a,.int .u32 cmd] w [GB bd bk,DX bk It,eL L M] (fun v cs=>v= .bool (ge L.n M It H9 a cmd).1∧cs=[GB bd bk,DX bk (ge L.n M It H9 a cmd).2.2,eL L (ge L.n M It H9 a cmd).2.1]):=by
 obtain⟨n1,n64,hdl,hdb,htl⟩:=lc (hi.ok (eL L M) (by simp));refine bL func274 rfl ntmps274 rfl hi ?_;refine qn ?_;refine Zyn rfl rfl (kp (dQ rfl) (Zv rfl) (by omega) (show _=((a%64:Nat):Int)from by rw[aW (by omega)];omega)) ?_;refine Z_5 ?_;refine eH (cD rfl rfl) (.cons (dQ rfl) .nil) (fun _ _=>rfl) (fun hg w hi=>mi L M w (hi.get (show Has _ (eL L M)from Zh))) rfl ?_;refine Z_4 ?_;refine ZW ?_ ?_<;>intro hc1
 ·have hno:kX L.n H9 a=false:=by(have h2:=(tz L.n H9 a).symm.trans hc1;simpa using h2)
  have hdo:ge L.n M It H9 a cmd=(false,M,It):=by(unfold ge;rw[hno];rfl)
  rw[hdo];refine Z_7 ?_;refine Zrb ([row _ _ _,slv _ _ _ _ _ _,exC _ _ _ _]) ?_;exact⟨rfl,rfl⟩
 have hyes:kX L.n H9 a=true:=by(have h2:=(tz L.n H9 a).symm.trans hc1;simpa using h2)
 have hf:H9<16∧a%64=0∧a<L.n*64:=by(unfold kX at hyes;simp only[Bool.not_eq_true',bj,aj,bne_eq_false_iff_eq]at hyes;omega)
 obtain⟨s16,am,an⟩:=hf;have hdo:ge L.n M It H9 a cmd=bif cmd==1 then(true,M.fill (a/64*64) ((It.drop (H9*64)).take 64) 64,It)else bif cmd==2 then(true,M,It.take (H9*64)++(M.data.drop (a/64*64)).take 64++It.drop (H9*64+64))else(false,M,It):=by(unfold ge;rw[hyes];rfl)
 rw[hdo];have hsl:((It.drop (H9*64)).take 64).length=64:=by(rw[aF,bn];omega)
 refine Z_9 ?_;refine Zy (iH (Zv rfl) (Zv rfl) (show _=((H9*64:Nat):Int)from(u32_wrap_id _ (by omega) (by omega)).trans (by omega))) ?_;refine ZA ?_;refine Zy (cy (Zv rfl) (Zv rfl) (show _=((H9+1:Nat):Int)from(u32_wrap_id _ (by omega) (by omega)).trans (by omega))) ?_;refine Zy (iH (Zv rfl) (Zv rfl) (show _=((H9*64+64:Nat):Int)from(u32_wrap_id _ (by omega) (by omega)).trans (by omega))) ?_;refine Zy (iX (sz:=1) (lo:=H9*64) (hi:=H9*64+64) (r:=H9*64) rfl Zrf (Zv rfl) (.inr ⟨_,_,rfl,(Zv rfl)⟩) (.inr ⟨_,_,rfl,(Zv rfl)⟩) (by omega) (by omega) (by omega) (by omega)) ?_;refine Z_6 ?_;refine Zy (kb (Zv rfl) (Zv rfl) (by omega) (show _=((a/64:Nat):Int)from by rw[bC (by omega),u32_wrap_id _ (by omega) (by omega)];omega)) ?_;refine Zy (ce rfl rfl Zv0 Zl) ?_;refine Z_6 ?_;rw[show H9*64+64 - H9*64=64 by omega];refine eJ ?_;refine ZW ?_ ?_<;>intro hc6
 ·have hcm:(cmd==1)=true:=(yM cmd 1).symm.trans hc6;rw[hcm];simp only[ac];refine Z_5 ?_;refine ZcM ([eL L M]) (fun w hi hin=>xw L M (a/64) (by omega) (some ⟨bk,H9*64,none⟩) (1024 - H9*64) ((It.drop (H9*64)).take 64) hsl (fun x hx=>hkb x (List.mem_of_mem_drop (List.mem_of_mem_take hx))) w hin (fun w' hk=>disk_rd (hi.rdK (show w5 _ (eL L M) (DX bk It)from(by repeat (first|(refine .l _ ?_;repeat (first|exact .head _ _|apply Has.tail))|(refine .r _ ?_;repeat (first|exact .head _ _|apply Has.tail))|apply w5.t))) hk) s16)) ?_;refine Z_6 ?_;refine bP [GB bd bk,DX bk It,eL L (M.fill (a/64*64) ((It.drop (H9*64)).take 64) 64)] Zj ?_;refine Zrb ([row _ _ _,slv _ _ _ _ _ _,exC _ _ _ _]) ?_;exact⟨rfl,rfl⟩
 have hcm:(cmd==1)=false:=(yM cmd 1).symm.trans hc6;rw[hcm];simp only[aa];refine Z_6 ?_;refine ZW ?_ ?_<;>intro hc8
 ·have hcm2:(cmd==2)=true:=(yM cmd 2).symm.trans hc8;rw[hcm2];simp only[ac];refine Z_4 ?_;refine ZS (fun w hi=>ug L M (a/64) (by omega) w (hi.get (show Has _ (eL L M)from Zh))) ?_;rintro _ _ ⟨_,⟨bq,rfl,rfl⟩,rfl⟩;refine eu ?_;refine dJ (ly rfl rfl Za rfl rfl (fun w hi=>hi.rd (show Has _ (sl .u8 5 (some ⟨bq,0,none⟩) 64 64 ((M.data.drop (a/64*64)).take 64))from Zh)) cY (by omega)) rfl ?_;rintro _ _ ⟨rfl,rfl⟩;rw[show(ints .u8 It).take (H9*64)++(ints .u8 ((M.data.drop (a/64*64)).take 64)).take (min 64 64)++(ints .u8 It).drop (H9*64+min 64 64)=ints .u8 (It.take (H9*64)++(M.data.drop (a/64*64)).take 64++It.drop (H9*64+64))from by(rw[Nat.min_self,iB,iB,lR,cH,cH,List.take_take,Nat.min_self])];refine eu ?_;refine Zrb ([row _ _ _,slv _ _ _ _ _ _,exC _ _ _ _]) ?_;exact⟨rfl,rfl⟩
 have hcm2:(cmd==2)=false:=(yM cmd 2).symm.trans hc8;rw[hcm2];simp only[aa];refine Z_9 ?_;refine Zrb ([row _ _ _,slv _ _ _ _ _ _,exC _ _ _ _]) ?_;exact⟨rfl,rfl⟩
end Go.Proofs.YtakodpimdalajaaGreatDoor
namespace Go.Ink
open Go.RowKit
structure Dev where
 Iu:Int
 mask:Int
 timer:Int
 out:List Int
 inp:List Int
 It:List Int
 H9:Nat
 place:Nat
 status:Int
structure rZ where
 bs:Nat
 bi:Nat
 bti:Nat
 bcn:Nat
 bdr:Nat
 bdk:Nat
structure jV where
 Ao:Option Addr
 co:Nat
 Ai:Option Addr
 ci:Nat
structure Dev.wf(d:Dev):Prop where
 inpb:u8s d.inp
 It:d.It.length=1024
 Je:u8s d.It
 H9:d.H9≤4294967295
 place:d.place≤4294967295
 inp:d.inp.length≤1000000000
def ss(a:Nat):Int:=IntKind.u32.wrap ((a:Int) - 32768)
def du(d:Dev)(k count:Int):(Int×Bool)×Dev:=
 bif k==0 then((d.Iu,true),d)else bif k==4 then((d.mask,true),d)else bif k==8 then((d.timer,true),d)else bif k==12 then((IntKind.u32.wrap count,true),d)else
 bif k==16 then((0,true),d)else bif k==40 then((0,true),d)else bif k==20 then((gB d.inp 0,true),{d with inp:=d.inp.tail})else bif k==24 then(((d.inp.length:Int),true),d)else
 bif k==32 then(((d.H9:Int),true),d)else bif k==36 then(((d.place:Int),true),d)else bif k==44 then((d.status,true),d)else((0,false),d)
def fH(n:Nat)(M:Mem)(d:Dev)(v:Nat):Mem×Dev:=
 ((ge n M d.It d.H9 d.place v).2.1,{d with It:=(ge n M d.It d.H9 d.place v).2.2,status:=bif(ge n M d.It d.H9 d.place v).1 then 0 else 1,Iu:=bits .or .u32 d.Iu (mW [2])})
def cU(n:Nat)(M:Mem)(d:Dev)(k:Int)(v:Nat):Bool×Mem×Dev:=
 bif k==0 then(true,M,{d with Iu:=bits .andNot .u32 d.Iu v})else bif k==4 then(true,M,{d with mask:=bits .and .u32 v 255})else bif k==8 then(true,M,{d with timer:=v})else
 bif k==16 then(true,M,{d with out:=d.out++[IntKind.u8.wrap v]})else bif k==32 then(true,M,{d with H9:=v})else bif k==36 then(true,M,{d with place:=v})else
 bif k==40 then(true,fH n M d v)else bif k==12 then(true,M,d)else bif k==20 then(true,M,d)else bif k==24 then(true,M,d)else bif k==44 then(true,M,d)else(false,M,d)
end Go.Ink
namespace Go.Proofs.YtakodpimdalajaaGreatDoor
open Go.RowKit Go.Ink Go.Proofs.Tryz
attribute [local irreducible] OpY bU
abbrev busRow(D:rZ)(bm:Nat)(d:Dev):bJ:=row D.bs [.pointer (some ⟨D.bi,0,none⟩),.pointer (some ⟨D.bti,0,none⟩),.pointer (some ⟨D.bcn,0,none⟩),.pointer (some ⟨D.bdr,0,none⟩),.pointer (some ⟨bm,0,none⟩),.int .u32 (d.H9:Int),.int .u32 (d.place:Int),.int .u32 d.status] 60
abbrev m7(D:rZ)(bm:Nat)(X:jV)(d:Dev):List bJ:=[busRow D bm d,oW D.bi d.Iu d.mask,zQ D.bti d.timer,zk D.bcn X.Ao d.out.length X.co X.Ai d.inp.length X.ci,b8 X.Ao X.co d.out,b8 X.Ai X.ci d.inp,GB D.bdr D.bdk,DX D.bdk d.It]
theorem AZ(D:rZ)(bm:Nat)(X:jV)(d:Dev)(hd:d.wf)(a:Nat)(count:Int)(w:World)(hi:Inv w (bK (m7 D bm X d)) (m7 D bm X d) w):
  Ctr prog 246 [.pointer (some ⟨D.bs,0,none⟩),.int .u32 a,.int .u64 count] w (m7 D bm X d) (fun v cs=>∃X',v= .tuple #[.int .u32 (du d (ss a) count).1.1,.bool (du d (ss a) count).1.2]∧cs=m7 D bm X' (du d (ss a) count).2):=by
 have hinp:=hd.inp;have hgb:IntKind.u32.wrap (gB d.inp 0)=gB d.inp 0:=by have:=jJ hd.inpb 0;exact u32_wrap_id _ (by omega) (by omega)
 obtain⟨k,hk⟩:=Zgn (ss a);rw[hk];unfold ss at hk;refine bL func246 rfl ntmps246 rfl hi ?_;refine eJ ?_;refine Zy (eT Zv0 Zv0 hk) ?_;refine Z_9 ?_;refine ZW ?_ ?_<;>intro hc2
 ·refine Z_6 ?_;refine ZSe (fun w hi=>Aq D.bi d.Iu d.mask w (hi.get Zh)) ?_;refine Z_7 ?_;refine ft (cs':=[row _ _ _,row _ _ _,row _ _ _,row _ _ _,slv _ _ _ _ _ _,slv _ _ _ _ _ _,row _ _ _,slv _ _ _ _ _ _]) (.inl rfl) Zu rfl rfl rfl ?_;refine⟨X,?_,?_⟩
  ·simp only[du, *,ac,aa]
  simp only[du, *,ac,aa]
 refine Z_6 ?_;refine ZW ?_ ?_<;>intro hc4
 ·refine Z_6 ?_;refine ZSe (fun w hi=>mask_ok D.bi d.Iu d.mask w (hi.get Zh)) ?_;refine Z_7 ?_;refine ft (cs':=[row _ _ _,row _ _ _,row _ _ _,row _ _ _,slv _ _ _ _ _ _,slv _ _ _ _ _ _,row _ _ _,slv _ _ _ _ _ _]) (.inl rfl) Zu rfl rfl rfl ?_;refine⟨X,?_,?_⟩
  ·simp only[du, *,ac,aa]
  simp only[du, *,ac,aa]
 refine Z_6 ?_;refine ZW ?_ ?_<;>intro hc6
 ·refine Z_6 ?_;refine ZSe (fun w hi=>EP D.bti d.timer w (hi.get Zh)) ?_;refine Z_7 ?_;refine ft (cs':=[row _ _ _,row _ _ _,row _ _ _,row _ _ _,slv _ _ _ _ _ _,slv _ _ _ _ _ _,row _ _ _,slv _ _ _ _ _ _]) (.inl rfl) Zu rfl rfl rfl ?_;refine⟨X,?_,?_⟩
  ·simp only[du, *,ac,aa]
  simp only[du, *,ac,aa]
 refine Z_6 ?_;refine ZW ?_ ?_<;>intro hc8
 ·refine Z_3 ?_;refine Zy (ce rfl rfl Zv0 rfl) ?_;refine Z_7 ?_;refine ft (cs':=[row _ _ _,row _ _ _,row _ _ _,row _ _ _,slv _ _ _ _ _ _,slv _ _ _ _ _ _,row _ _ _,slv _ _ _ _ _ _]) (.inl rfl) Zu rfl rfl rfl ?_;refine⟨X,?_,?_⟩
  ·simp only[du, *,ac,aa]
  simp only[du, *,ac,aa]
 refine Z_7 ?_;refine ZW ?_ ?_<;>intro hc10
 ·refine Z_2 ?_;refine cn rfl (hc10) ?_;refine Z_9 ?_;refine ft (cs':=[row _ _ _,row _ _ _,row _ _ _,row _ _ _,slv _ _ _ _ _ _,slv _ _ _ _ _ _,row _ _ _,slv _ _ _ _ _ _]) (.inl rfl) Zu rfl rfl rfl ?_;refine⟨X,?_,?_⟩
  ·simp only[du, *,ac,aa]
  simp only[du, *,ac,aa]
 refine Z_5 ?_;refine ZW ?_ ?_<;>intro hc11
 ·refine Z_9 ?_;refine ft (cs':=[row _ _ _,row _ _ _,row _ _ _,row _ _ _,slv _ _ _ _ _ _,slv _ _ _ _ _ _,row _ _ _,slv _ _ _ _ _ _]) (.inl rfl) Zu rfl rfl rfl ?_;refine⟨X,?_,?_⟩
  ·simp only[du, *,ac,aa]
  simp only[du, *,ac,aa]
 refine Z_6 ?_;refine ZW ?_ ?_<;>intro hc13
 ·refine Z_6 ?_;refine ZcL ([zk D.bcn X.Ao d.out.length X.co X.Ai d.inp.length X.ci,b8 X.Ai X.ci d.inp]) (fun w hi hin=>GG D.bcn X.Ao d.out.length X.co X.Ai X.ci d.inp hinp w hin) ?_;rintro _ _ ⟨_,⟨Ai',ci',rfl,rfl⟩,rfl⟩;refine Zy (ce rfl rfl (Zv rfl) (show IntKind.u32.wrap (gB d.inp 0)=gB d.inp 0 from hgb)) ?_;refine Z_7 ?_;refine bP (m7 D bm ⟨X.Ao,X.co,Ai',ci'⟩ {d with inp:=d.inp.tail}) Zj ?_;refine ft (cs':=[row _ _ _,row _ _ _,row _ _ _,row _ _ _,slv _ _ _ _ _ _,slv _ _ _ _ _ _,row _ _ _,slv _ _ _ _ _ _]) (.inl rfl) Zu rfl rfl rfl ?_;refine⟨⟨X.Ao,X.co,Ai',ci'⟩,?_,?_⟩
  ·simp only[du, *,ac,aa]
  simp only[du, *,ac,aa]
 refine Z_6 ?_;refine ZW ?_ ?_<;>intro hc15
 ·refine Z_6 ?_;refine ZSe (fun w hi=>D5 D.bcn X.Ao d.out.length X.co X.Ai d.inp.length X.ci w (hi.get Zh)) ?_;refine Zy (ce rfl rfl (Zv rfl) (u32_wrap_id _ (by omega) (by omega))) ?_;refine Z_7 ?_;refine ft (cs':=[row _ _ _,row _ _ _,row _ _ _,row _ _ _,slv _ _ _ _ _ _,slv _ _ _ _ _ _,row _ _ _,slv _ _ _ _ _ _]) (.inl rfl) Zu rfl rfl rfl ?_;refine⟨X,?_,?_⟩
  ·simp only[du, *,ac,aa]
  simp only[du, *,ac,aa]
 refine Z_6 ?_;refine ZW ?_ ?_<;>intro hc17
 ·refine jT ?_;refine ft (cs':=[row _ _ _,row _ _ _,row _ _ _,row _ _ _,slv _ _ _ _ _ _,slv _ _ _ _ _ _,row _ _ _,slv _ _ _ _ _ _]) (.inl rfl) Zu rfl rfl rfl ?_;refine⟨X,?_,?_⟩
  ·simp only[du, *,ac,aa]
  simp only[du, *,ac,aa]
 refine Z_6 ?_;refine ZW ?_ ?_<;>intro hc19
 ·refine jT ?_;refine ft (cs':=[row _ _ _,row _ _ _,row _ _ _,row _ _ _,slv _ _ _ _ _ _,slv _ _ _ _ _ _,row _ _ _,slv _ _ _ _ _ _]) (.inl rfl) Zu rfl rfl rfl ?_;refine⟨X,?_,?_⟩
  ·simp only[du, *,ac,aa]
  simp only[du, *,ac,aa]
 refine Z_6 ?_;refine ZW ?_ ?_<;>intro hc21
 ·refine jT ?_;refine ft (cs':=[row _ _ _,row _ _ _,row _ _ _,row _ _ _,slv _ _ _ _ _ _,slv _ _ _ _ _ _,row _ _ _,slv _ _ _ _ _ _]) (.inl rfl) Zu rfl rfl rfl ?_;refine⟨X,?_,?_⟩
  ·simp only[du, *,ac,aa]
  simp only[du, *,ac,aa]
 refine eJ ?_;refine ft (cs':=[row _ _ _,row _ _ _,row _ _ _,row _ _ _,slv _ _ _ _ _ _,slv _ _ _ _ _ _,row _ _ _,slv _ _ _ _ _ _]) (.inl rfl) Zu rfl rfl rfl ?_;refine⟨X,?_,?_⟩
 ·simp only[du, *,ac,aa]
 simp only[du, *,ac,aa]
theorem x8(D:rZ)(L:gR)(M:Mem)(X:jV)(d:Dev)(hd:d.wf)(ho:d.out.length≤1000000000)(a v:Nat)(count:Int)(w:World)(hi:Inv w (bK (m7 D L.bm X d++[eL L M])) (m7 D L.bm X d++[eL L M]) w):
  Ctr prog 248 [.pointer (some ⟨D.bs,0,none⟩),.int .u32 a,.int .u32 v,.int .u64 count] w (m7 D L.bm X d++[eL L M]) (fun x cs=>∃X',x= .bool (cU L.n M d (ss a) v).1∧cs=m7 D L.bm X' (cU L.n M d (ss a) v).2.2++[eL L (cU L.n M d (ss a) v).2.1]):=by
 obtain⟨k,hk⟩:=Zgn (ss a);rw[hk];unfold ss at hk;refine bL func248 rfl ntmps248 rfl hi ?_;refine Z_9 ?_;refine Zy (eT Zv0 Zv0 hk) ?_;refine Z_9 ?_;refine ZW ?_ ?_<;>intro hc3
 ·refine Z_6 ?_;refine ZcM ([oW D.bi d.Iu d.mask]) (fun w hi hin=>Dm D.bi d.Iu d.mask v w hin) ?_;refine Z_9 ?_;refine bP (m7 D L.bm X {d with Iu:=bits .andNot .u32 d.Iu v}++[eL L M]) Zj ?_;refine Zrb ([row _ _ _,row _ _ _,row _ _ _,row _ _ _,slv _ _ _ _ _ _,slv _ _ _ _ _ _,row _ _ _,slv _ _ _ _ _ _,exC _ _ _ _]) ?_;refine⟨X,?_,?_⟩
  ·simp only[cU,fH, *,ac,aa]<;>exact rfl
  simp only[cU,fH, *,ac,aa]<;>exact rfl
 refine Z_6 ?_;refine ZW ?_ ?_<;>intro hc5
 ·refine Z_6 ?_;refine ZcM ([oW D.bi d.Iu d.mask]) (fun w hi hin=>xU D.bi d.Iu d.mask v w hin) ?_;refine Z_9 ?_;refine bP (m7 D L.bm X {d with mask:=bits .and .u32 v 255}++[eL L M]) Zj ?_;refine Zrb ([row _ _ _,row _ _ _,row _ _ _,row _ _ _,slv _ _ _ _ _ _,slv _ _ _ _ _ _,row _ _ _,slv _ _ _ _ _ _,exC _ _ _ _]) ?_;refine⟨X,?_,?_⟩
  ·simp only[cU,fH, *,ac,aa]<;>exact rfl
  simp only[cU,fH, *,ac,aa]<;>exact rfl
 refine Z_6 ?_;refine ZW ?_ ?_<;>intro hc7
 ·refine Z_6 ?_;refine ZcM ([zQ D.bti d.timer]) (fun w hi hin=>tset_ok D.bti d.timer v w hin) ?_;refine Z_9 ?_;refine bP (m7 D L.bm X {d with timer:=v}++[eL L M]) Zj ?_;refine Zrb ([row _ _ _,row _ _ _,row _ _ _,row _ _ _,slv _ _ _ _ _ _,slv _ _ _ _ _ _,row _ _ _,slv _ _ _ _ _ _,exC _ _ _ _]) ?_;refine⟨X,?_,?_⟩
  ·simp only[cU,fH, *,ac,aa]<;>exact rfl
  simp only[cU,fH, *,ac,aa]<;>exact rfl
 refine Z_6 ?_;refine ZW ?_ ?_<;>intro hc9
 ·refine Z_6 ?_;refine Zy (ce rfl rfl Zv0 rfl) ?_;refine ZcL ([zk D.bcn X.Ao d.out.length X.co X.Ai d.inp.length X.ci,b8 X.Ao X.co d.out]) (fun w hi hin=>D4 D.bcn X.Ao X.co d.out X.Ai d.inp.length X.ci (IntKind.u8.wrap v) ho w hin) ?_;rintro _ _ ⟨_,⟨Ao',co',rfl,rfl⟩,rfl⟩;refine Z_9 ?_;refine bP (m7 D L.bm ⟨Ao',co',X.Ai,X.ci⟩ {d with out:=d.out++[IntKind.u8.wrap v]}++[eL L M]) Zj ?_;refine Zrb ([row _ _ _,row _ _ _,row _ _ _,row _ _ _,slv _ _ _ _ _ _,slv _ _ _ _ _ _,row _ _ _,slv _ _ _ _ _ _,exC _ _ _ _]) ?_;refine⟨⟨Ao',co',X.Ai,X.ci⟩,?_,?_⟩
  ·simp only[cU, *,ac,aa]<;>exact rfl
  simp only[cU, *,ac,aa]<;>exact rfl
 refine Z_6 ?_;refine ZW ?_ ?_<;>intro hc11
 ·refine Z_5 ?_;refine ZL ?_;refine Z_9 ?_;refine Zrb ([row _ _ _,row _ _ _,row _ _ _,row _ _ _,slv _ _ _ _ _ _,slv _ _ _ _ _ _,row _ _ _,slv _ _ _ _ _ _,exC _ _ _ _]) ?_;refine⟨X,?_,?_⟩
  ·simp only[cU,fH, *,ac,aa]<;>exact rfl
  simp only[cU,fH, *,ac,aa]<;>exact rfl
 refine Z_6 ?_;refine ZW ?_ ?_<;>intro hc13
 ·refine Z_5 ?_;refine ZL ?_;refine Z_9 ?_;refine Zrb ([row _ _ _,row _ _ _,row _ _ _,row _ _ _,slv _ _ _ _ _ _,slv _ _ _ _ _ _,row _ _ _,slv _ _ _ _ _ _,exC _ _ _ _]) ?_;refine⟨X,?_,?_⟩
  ·simp only[cU,fH, *,ac,aa]<;>exact rfl
  simp only[cU,fH, *,ac,aa]<;>exact rfl
 refine Z_6 ?_;refine ZW ?_ ?_<;>intro hc15
 ·refine Z_5 ?_;refine ZL ?_;refine Z_4 ?_;refine bX ⟨fun j=>List.elem j [17],[]⟩ Zk ?_;refine ZE 0 ?_;refine ZE 1 ?_;refine ZFe 2 3 ?_;refine ZG 3 ?_;refine ZE 4 ?_;refine ZE 5 ?_;refine ZFe 6 4 ?_;refine ZG 7 ?_;refine ZE 8 ?_;refine ZE 9 ?_;refine ZFe 10 5 ?_;refine ZG 11 ?_;refine ZE 12 ?_;refine ZE 13 ?_;refine ZFe 14 6 ?_;refine ZG 15 ?_;refine ZE 16 ?_;refine cw 17 Zk ?_;refine ZcA ([GB D.bdr D.bdk,DX D.bdk d.It,eL L M]) (fun w hi hin=>GA D.bdr D.bdk L M d.It hd.It hd.Je d.H9 d.place v hd.H9 hd.place w hin) ?_;rintro _ _ ⟨_,⟨rfl,rfl⟩,rfl⟩;refine bN Zk ?_;refine Zt ?_;refine ZW ?_ ?_<;>intro hc17
  ·refine Z_4 ?_;refine ZL ?_;refine Z_7 ?_;refine dJ (bZ rfl rfl Zrf Zrf rfl rfl) rfl ?_;rintro _ _ ⟨b86,rfl,rfl⟩;refine ZcM ([oW D.bi d.Iu d.mask]) (fun w hi hin=>nV D.bi d.Iu d.mask (some ⟨b86,0,none⟩) 1 [2] (by simp) w hin (fun w' hk=>hi.rdK (show w5 _ (oW D.bi d.Iu d.mask) (slv 3 1 (some ⟨b86,0,none⟩) 1 1 [.int .i64 2])from(by repeat (first|(refine .l _ ?_;repeat (first|exact .head _ _|apply Has.tail))|(refine .r _ ?_;repeat (first|exact .head _ _|apply Has.tail))|apply w5.t))) hk)) ?_;refine Z_9 ?_;refine bP (m7 D L.bm X {d with It:=(ge L.n M d.It d.H9 d.place v).2.2,status:=0,Iu:=bits .or .u32 d.Iu (mW [2])}++[eL L (ge L.n M d.It d.H9 d.place v).2.1]) Zj ?_;refine Zrb ([row _ _ _,row _ _ _,row _ _ _,row _ _ _,slv _ _ _ _ _ _,slv _ _ _ _ _ _,row _ _ _,slv _ _ _ _ _ _,exC _ _ _ _]) ?_;refine⟨X,?_,?_⟩
   ·simp only[cU,fH, *,ac,aa]<;>exact rfl
   simp only[cU,fH, *,ac,aa]<;>exact rfl
  refine Z_7 ?_;refine dJ (bZ rfl rfl Zrf Zrf rfl rfl) rfl ?_;rintro _ _ ⟨b86,rfl,rfl⟩;refine ZcM ([oW D.bi d.Iu d.mask]) (fun w hi hin=>nV D.bi d.Iu d.mask (some ⟨b86,0,none⟩) 1 [2] (by simp) w hin (fun w' hk=>hi.rdK (show w5 _ (oW D.bi d.Iu d.mask) (slv 3 1 (some ⟨b86,0,none⟩) 1 1 [.int .i64 2])from(by repeat (first|(refine .l _ ?_;repeat (first|exact .head _ _|apply Has.tail))|(refine .r _ ?_;repeat (first|exact .head _ _|apply Has.tail))|apply w5.t))) hk)) ?_;refine Z_9 ?_;refine bP (m7 D L.bm X {d with It:=(ge L.n M d.It d.H9 d.place v).2.2,status:=1,Iu:=bits .or .u32 d.Iu (mW [2])}++[eL L (ge L.n M d.It d.H9 d.place v).2.1]) Zj ?_;refine Zrb ([row _ _ _,row _ _ _,row _ _ _,row _ _ _,slv _ _ _ _ _ _,slv _ _ _ _ _ _,row _ _ _,slv _ _ _ _ _ _,exC _ _ _ _]) ?_;refine⟨X,?_,?_⟩
  ·simp only[cU,fH, *,ac,aa]<;>exact rfl
  simp only[cU,fH, *,ac,aa]<;>exact rfl
 refine Z_7 ?_;refine ZW ?_ ?_<;>intro hc20
 ·refine Z_2 ?_;refine cn rfl (hc20) ?_;refine Z_9 ?_;refine Zrb ([row _ _ _,row _ _ _,row _ _ _,row _ _ _,slv _ _ _ _ _ _,slv _ _ _ _ _ _,row _ _ _,slv _ _ _ _ _ _,exC _ _ _ _]) ?_;refine⟨X,?_,?_⟩
  ·simp only[cU,fH, *,ac,aa]<;>exact rfl
  simp only[cU,fH, *,ac,aa]<;>exact rfl
 refine Z_6 ?_;refine ZW ?_ ?_<;>intro hc21
 ·refine Z_2 ?_;refine cn rfl (hc21) ?_;refine Z_9 ?_;refine Zrb ([row _ _ _,row _ _ _,row _ _ _,row _ _ _,slv _ _ _ _ _ _,slv _ _ _ _ _ _,row _ _ _,slv _ _ _ _ _ _,exC _ _ _ _]) ?_;refine⟨X,?_,?_⟩
  ·simp only[cU,fH, *,ac,aa]<;>exact rfl
  simp only[cU,fH, *,ac,aa]<;>exact rfl
 refine Z_6 ?_;refine ZW ?_ ?_<;>intro hc22
 ·refine Z_2 ?_;refine cn rfl (hc22) ?_;refine Z_9 ?_;refine Zrb ([row _ _ _,row _ _ _,row _ _ _,row _ _ _,slv _ _ _ _ _ _,slv _ _ _ _ _ _,row _ _ _,slv _ _ _ _ _ _,exC _ _ _ _]) ?_;refine⟨X,?_,?_⟩
  ·simp only[cU,fH, *,ac,aa]<;>exact rfl
  simp only[cU,fH, *,ac,aa]<;>exact rfl
 refine Z_5 ?_;refine ZW ?_ ?_<;>intro hc23
 ·refine Z_9 ?_;refine Zrb ([row _ _ _,row _ _ _,row _ _ _,row _ _ _,slv _ _ _ _ _ _,slv _ _ _ _ _ _,row _ _ _,slv _ _ _ _ _ _,exC _ _ _ _]) ?_;refine⟨X,?_,?_⟩
  ·simp only[cU,fH, *,ac,aa]<;>exact rfl
  simp only[cU,fH, *,ac,aa]<;>exact rfl
 refine Z_8 ?_;refine Zrb ([row _ _ _,row _ _ _,row _ _ _,row _ _ _,slv _ _ _ _ _ _,slv _ _ _ _ _ _,row _ _ _,slv _ _ _ _ _ _,exC _ _ _ _]) ?_;refine⟨X,?_,?_⟩
 ·simp only[cU,fH, *,ac,aa]<;>exact rfl
 simp only[cU,fH, *,ac,aa]<;>exact rfl
end Go.Proofs.YtakodpimdalajaaGreatDoor
namespace Go.Ink
open Go.RowKit
def eh(op:Int):Bool:=bif op==16 then true else bif op==17 then true else bif op==18 then true else bif op==19 then true else bif op==20 then true else bif op==21 then true else bif op==22 then true else bif op==23 then true else bif op==24 then true else bif op==25 then true else bif op==48 then true else bif op==49 then true else bif op==50 then true else bif op==51 then true else bif op==52 then true else bif op==53 then true else bif op==64 then true else bif op==65 then true else bif op==66 then true else bif op==67 then true else bif op==68 then true else bif op==69 then true else false
def fa(op:Int):Bool:=bif op==0 then true else bif op==1 then true else bif op==2 then true else bif op==3 then true else bif op==4 then true else bif op==5 then true else bif op==6 then true else bif op==7 then true else bif op==8 then true else bif op==32 then true else bif op==33 then true else bif op==34 then true else bif op==35 then true else bif op==36 then true else bif op==37 then true else bif op==38 then true else bif op==39 then true else bif op==40 then true else eh op
def cz(op:Int):Int:=bif op==1 then 2 else bif op==32 then 2 else bif op==33 then 2 else bif op==34 then 2 else bif op==35 then 2 else bif op==36 then 2 else bif op==37 then 2 else bif op==38 then 2 else bif op==66 then 2 else bif op==67 then 2 else bif op==2 then 5 else bif !fa op then 0 else 1
def gb(op n:Int):Bool:=bif cz op==0 then false else bif cz op==1 then n==0 else bif cz op==2 then decide (n≤255)else true
def mU(op:Int):Bool:=decide (65≤op)&&decide (op≤69)
def dE(r:Int):Int:=bif bits .and .u32 r 2147483648 !=0 then bits .or .u32 (bif r==0 then bits .or .u32 0 1 else 0) 2 else bif r==0 then bits .or .u32 0 1 else 0
def gP(a b:Int)(up:Bool):Int:=bif decide (32≤b)then 0 else bif up then IntKind.u32.wrap (a*2^(min b.toNat IntKind.u32.bits))else a.fdiv (2^(min b.toNat IntKind.u32.bits))
def jc(a b r f:Int)(c:Bool)(o:Int):Int:=bif o !=0 then bits .or .u32 (bif c then bits .or .u32 f 4 else f) 8 else bif c then bits .or .u32 f 4 else f
def jN(a b:Int):Int:=jc a b 0 (dE (IntKind.u32.wrap (a - b))) (decide (a<b)) (bits .and .u32 (bits .and .u32 (bits .xor .u32 a b) (bits .xor .u32 a (IntKind.u32.wrap (a - b)))) 2147483648)
def lU(a b:Int):Int:=jc a b 0 (dE (IntKind.u32.wrap (a+b))) (decide (IntKind.u32.wrap (a+b)<a)) (bits .and .u32 (bits .and .u32 (bits .xor .u32 a (IntKind.u32.wrap (a+b))) (bits .xor .u32 b (IntKind.u32.wrap (a+b)))) 2147483648)
def tH(r:Int):Int×Int×Bool:=(r,dE r,true)
def ij(op a b:Int):Int×Int×Bool:=
 bif op==16 then(IntKind.u32.wrap (a+b),lU a b,true)else bif op==17 then(IntKind.u32.wrap (a - b),jN a b,true)else bif op==25 then(0,jN a b,true)else bif op==18 then tH (bits .and .u32 a b)else bif op==19 then tH (bits .or .u32 a b)else bif op==20 then tH (bits .xor .u32 a b)else bif op==21 then tH (gP a b true)else bif op==22 then tH (gP a b false)else bif op==23 then tH (IntKind.u32.wrap (a*b))else bif op==24 then(bif b==0 then(0,0,false)else tH (IntKind.u32.wrap (a.tdiv b)))else(0,0,false)
def dc(op f:Int):Bool×Bool:=bif op==33 then(bits .and .u32 f 1 !=0,true)else bif op==34 then(bits .and .u32 f 1==0,true)else bif op==35 then(bits .and .u32 f 4 !=0,true)else bif op==36 then(bits .and .u32 f 2 !=0,true)else bif op==37 then(bits .and .u32 f 8 !=0,true)else(false,false)
def kH(b:Int):Int:=IntKind.u32.wrap (IntKind.i32.wrap (IntKind.i8.wrap b))
def bQ(op:Int):(Nat×Nat)×(Nat×Nat):=
 bif op==1 then((0,1),(0,0))else bif op==2 then((0,1),(0,0))else bif op==66 then((0,1),(0,0))else bif op==3 then((1,2),(0,0))else bif op==4 then((1,0),(0,0))else bif op==40 then((1,0),(0,0))else bif op==67 then((1,0),(0,0))else bif op==68 then((1,0),(0,0))else bif op==5 then((2,2),(0,0))else bif op==6 then((2,3),(0,0))else bif op==7 then((1,0),(0,1))else bif op==8 then((0,1),(1,0))else bif op==16 then((2,1),(0,0))else bif op==17 then((2,1),(0,0))else bif op==18 then((2,1),(0,0))else bif op==19 then((2,1),(0,0))else bif op==20 then((2,1),(0,0))else bif op==21 then((2,1),(0,0))else bif op==22 then((2,1),(0,0))else bif op==23 then((2,1),(0,0))else bif op==24 then((2,1),(0,0))else bif op==25 then((2,0),(0,0))else bif op==49 then((2,0),(0,0))else bif op==51 then((2,0),(0,0))else bif op==53 then((2,0),(0,0))else bif op==48 then((1,1),(0,0))else bif op==50 then((1,1),(0,0))else bif op==52 then((1,1),(0,0))else bif op==38 then((0,0),(0,1))else bif op==39 then((0,0),(1,0))else((0,0),(0,0))
end Go.Ink
namespace Go.Proofs.YtakodpimdalajaaGreatDoor
open Go.RowKit Go.Ink Go.Proofs.Tryz
attribute [local irreducible] OpY bU
theorem FC(op:Int)(w:World):Ctr prog 240 [.int .i64 op] w [] (fun v cs=>(∃s,v= .string s∧(s.data.toList==[])= !eh op)∧cs=[]):=by
 refine bL func240 rfl ntmps240 rfl (Inv.start w) ?_;refine w8 ?_;refine ZW ?_ ?_<;>intro hc2
 ·refine Z_8 ?_;refine Zra ?_;refine⟨⟨_,rfl,?_⟩,rfl⟩;simp only[eh, *,ac,aa];exact rfl
 refine Z_6 ?_;refine ZW ?_ ?_<;>intro hc4
 ·refine Z_8 ?_;refine Zra ?_;refine⟨⟨_,rfl,?_⟩,rfl⟩;simp only[eh, *,ac,aa];exact rfl
 refine Z_6 ?_;refine ZW ?_ ?_<;>intro hc6
 ·refine Z_8 ?_;refine Zra ?_;refine⟨⟨_,rfl,?_⟩,rfl⟩;simp only[eh, *,ac,aa];exact rfl
 refine Z_6 ?_;refine ZW ?_ ?_<;>intro hc8
 ·refine Z_8 ?_;refine Zra ?_;refine⟨⟨_,rfl,?_⟩,rfl⟩;simp only[eh, *,ac,aa];exact rfl
 refine Z_6 ?_;refine ZW ?_ ?_<;>intro hc10
 ·refine Z_8 ?_;refine Zra ?_;refine⟨⟨_,rfl,?_⟩,rfl⟩;simp only[eh, *,ac,aa];exact rfl
 refine Z_6 ?_;refine ZW ?_ ?_<;>intro hc12
 ·refine Z_8 ?_;refine Zra ?_;refine⟨⟨_,rfl,?_⟩,rfl⟩;simp only[eh, *,ac,aa];exact rfl
 refine Z_6 ?_;refine ZW ?_ ?_<;>intro hc14
 ·refine Z_8 ?_;refine Zra ?_;refine⟨⟨_,rfl,?_⟩,rfl⟩;simp only[eh, *,ac,aa];exact rfl
 refine Z_6 ?_;refine ZW ?_ ?_<;>intro hc16
 ·refine Z_8 ?_;refine Zra ?_;refine⟨⟨_,rfl,?_⟩,rfl⟩;simp only[eh, *,ac,aa];exact rfl
 refine Z_6 ?_;refine ZW ?_ ?_<;>intro hc18
 ·refine Z_8 ?_;refine Zra ?_;refine⟨⟨_,rfl,?_⟩,rfl⟩;simp only[eh, *,ac,aa];exact rfl
 refine Z_6 ?_;refine ZW ?_ ?_<;>intro hc20
 ·refine Z_8 ?_;refine Zra ?_;refine⟨⟨_,rfl,?_⟩,rfl⟩;simp only[eh, *,ac,aa];exact rfl
 refine Z_6 ?_;refine ZW ?_ ?_<;>intro hc22
 ·refine Z_8 ?_;refine Zra ?_;refine⟨⟨_,rfl,?_⟩,rfl⟩;simp only[eh, *,ac,aa];exact rfl
 refine Z_6 ?_;refine ZW ?_ ?_<;>intro hc24
 ·refine Z_8 ?_;refine Zra ?_;refine⟨⟨_,rfl,?_⟩,rfl⟩;simp only[eh, *,ac,aa];exact rfl
 refine Z_6 ?_;refine ZW ?_ ?_<;>intro hc26
 ·refine Z_8 ?_;refine Zra ?_;refine⟨⟨_,rfl,?_⟩,rfl⟩;simp only[eh, *,ac,aa];exact rfl
 refine Z_6 ?_;refine ZW ?_ ?_<;>intro hc28
 ·refine Z_8 ?_;refine Zra ?_;refine⟨⟨_,rfl,?_⟩,rfl⟩;simp only[eh, *,ac,aa];exact rfl
 refine Z_6 ?_;refine ZW ?_ ?_<;>intro hc30
 ·refine Z_8 ?_;refine Zra ?_;refine⟨⟨_,rfl,?_⟩,rfl⟩;simp only[eh, *,ac,aa];exact rfl
 refine Z_6 ?_;refine ZW ?_ ?_<;>intro hc32
 ·refine Z_8 ?_;refine Zra ?_;refine⟨⟨_,rfl,?_⟩,rfl⟩;simp only[eh, *,ac,aa];exact rfl
 refine Z_6 ?_;refine ZW ?_ ?_<;>intro hc34
 ·refine Z_8 ?_;refine Zra ?_;refine⟨⟨_,rfl,?_⟩,rfl⟩;simp only[eh, *,ac,aa];exact rfl
 refine Z_6 ?_;refine ZW ?_ ?_<;>intro hc36
 ·refine Z_8 ?_;refine Zra ?_;refine⟨⟨_,rfl,?_⟩,rfl⟩;simp only[eh, *,ac,aa];exact rfl
 refine Z_6 ?_;refine ZW ?_ ?_<;>intro hc38
 ·refine Z_8 ?_;refine Zra ?_;refine⟨⟨_,rfl,?_⟩,rfl⟩;simp only[eh, *,ac,aa];exact rfl
 refine Z_6 ?_;refine ZW ?_ ?_<;>intro hc40
 ·refine Z_8 ?_;refine Zra ?_;refine⟨⟨_,rfl,?_⟩,rfl⟩;simp only[eh, *,ac,aa];exact rfl
 refine Z_6 ?_;refine ZW ?_ ?_<;>intro hc42
 ·refine Z_8 ?_;refine Zra ?_;refine⟨⟨_,rfl,?_⟩,rfl⟩;simp only[eh, *,ac,aa];exact rfl
 refine Z_6 ?_;refine ZW ?_ ?_<;>intro hc44
 ·refine Z_8 ?_;refine Zra ?_;refine⟨⟨_,rfl,?_⟩,rfl⟩;simp only[eh, *,ac,aa];exact rfl
 refine Z_9 ?_;refine Zra ?_;refine⟨⟨_,rfl,?_⟩,rfl⟩;simp only[eh, *,ac,aa];exact rfl
theorem name_ok(op:Int)(w:World):Ctr prog 190 [.int .i64 op] w [] (fun v cs=>(∃s,v= .string s∧(s.data.toList==[])= !fa op)∧cs=[]):=by
 refine bL func190 rfl ntmps190 rfl (Inv.start w) ?_;refine w8 ?_;refine ZW ?_ ?_<;>intro hc2
 ·refine Z_8 ?_;refine Zra ?_;refine⟨⟨_,rfl,?_⟩,rfl⟩;simp only[fa, *,ac,aa];exact rfl
 refine Z_6 ?_;refine ZW ?_ ?_<;>intro hc4
 ·refine Z_8 ?_;refine Zra ?_;refine⟨⟨_,rfl,?_⟩,rfl⟩;simp only[fa, *,ac,aa];exact rfl
 refine Z_6 ?_;refine ZW ?_ ?_<;>intro hc6
 ·refine Z_8 ?_;refine Zra ?_;refine⟨⟨_,rfl,?_⟩,rfl⟩;simp only[fa, *,ac,aa];exact rfl
 refine Z_6 ?_;refine ZW ?_ ?_<;>intro hc8
 ·refine Z_8 ?_;refine Zra ?_;refine⟨⟨_,rfl,?_⟩,rfl⟩;simp only[fa, *,ac,aa];exact rfl
 refine Z_6 ?_;refine ZW ?_ ?_<;>intro hc10
 ·refine Z_8 ?_;refine Zra ?_;refine⟨⟨_,rfl,?_⟩,rfl⟩;simp only[fa, *,ac,aa];exact rfl
 refine Z_6 ?_;refine ZW ?_ ?_<;>intro hc12
 ·refine Z_8 ?_;refine Zra ?_;refine⟨⟨_,rfl,?_⟩,rfl⟩;simp only[fa, *,ac,aa];exact rfl
 refine Z_6 ?_;refine ZW ?_ ?_<;>intro hc14
 ·refine Z_8 ?_;refine Zra ?_;refine⟨⟨_,rfl,?_⟩,rfl⟩;simp only[fa, *,ac,aa];exact rfl
 refine Z_6 ?_;refine ZW ?_ ?_<;>intro hc16
 ·refine Z_8 ?_;refine Zra ?_;refine⟨⟨_,rfl,?_⟩,rfl⟩;simp only[fa, *,ac,aa];exact rfl
 refine Z_6 ?_;refine ZW ?_ ?_<;>intro hc18
 ·refine Z_8 ?_;refine Zra ?_;refine⟨⟨_,rfl,?_⟩,rfl⟩;simp only[fa, *,ac,aa];exact rfl
 refine Z_6 ?_;refine ZW ?_ ?_<;>intro hc20
 ·refine Z_8 ?_;refine Zra ?_;refine⟨⟨_,rfl,?_⟩,rfl⟩;simp only[fa, *,ac,aa];exact rfl
 refine Z_6 ?_;refine ZW ?_ ?_<;>intro hc22
 ·refine Z_8 ?_;refine Zra ?_;refine⟨⟨_,rfl,?_⟩,rfl⟩;simp only[fa, *,ac,aa];exact rfl
 refine Z_6 ?_;refine ZW ?_ ?_<;>intro hc24
 ·refine Z_8 ?_;refine Zra ?_;refine⟨⟨_,rfl,?_⟩,rfl⟩;simp only[fa, *,ac,aa];exact rfl
 refine Z_6 ?_;refine ZW ?_ ?_<;>intro hc26
 ·refine Z_8 ?_;refine Zra ?_;refine⟨⟨_,rfl,?_⟩,rfl⟩;simp only[fa, *,ac,aa];exact rfl
 refine Z_6 ?_;refine ZW ?_ ?_<;>intro hc28
 ·refine Z_8 ?_;refine Zra ?_;refine⟨⟨_,rfl,?_⟩,rfl⟩;simp only[fa, *,ac,aa];exact rfl
 refine Z_6 ?_;refine ZW ?_ ?_<;>intro hc30
 ·refine Z_8 ?_;refine Zra ?_;refine⟨⟨_,rfl,?_⟩,rfl⟩;simp only[fa, *,ac,aa];exact rfl
 refine Z_6 ?_;refine ZW ?_ ?_<;>intro hc32
 ·refine Z_8 ?_;refine Zra ?_;refine⟨⟨_,rfl,?_⟩,rfl⟩;simp only[fa, *,ac,aa];exact rfl
 refine Z_6 ?_;refine ZW ?_ ?_<;>intro hc34
 ·refine Z_8 ?_;refine Zra ?_;refine⟨⟨_,rfl,?_⟩,rfl⟩;simp only[fa, *,ac,aa];exact rfl
 refine Z_6 ?_;refine ZW ?_ ?_<;>intro hc36
 ·refine Z_8 ?_;refine Zra ?_;refine⟨⟨_,rfl,?_⟩,rfl⟩;simp only[fa, *,ac,aa];exact rfl
 refine Z_6 ?_;refine ZS (fun w hi=>FC op w) ?_;rintro _ _ ⟨_,⟨⟨s,rfl,hs⟩,rfl⟩,rfl⟩;refine Z_4 ?_;have hz:=hs;refine Zra ?_;refine⟨⟨_,rfl,?_⟩,rfl⟩;rw[hs];simp only[fa, *,ac,aa]
theorem tZ(op:Int)(w:World):Ctr prog 140 [.int .i64 op] w [] (fun v cs=>v= .int .i64 (cz op)∧cs=[]):=by
 refine bL func140 rfl ntmps140 rfl (Inv.start w) ?_;refine GV ?_;refine ZW ?_ ?_<;>intro hc2
 ·refine Z_2 ?_;refine cn rfl (hc2) ?_;refine Z_8 ?_;refine Zra ?_;refine⟨?_,rfl⟩;simp only[cz, *,ac,aa]
 refine Z_6 ?_;refine ZW ?_ ?_<;>intro hc3
 ·refine Z_2 ?_;refine cn rfl (hc3) ?_;refine Z_8 ?_;refine Zra ?_;refine⟨?_,rfl⟩;simp only[cz, *,ac,aa]
 refine Z_6 ?_;refine ZW ?_ ?_<;>intro hc4
 ·refine Z_2 ?_;refine cn rfl (hc4) ?_;refine Z_8 ?_;refine Zra ?_;refine⟨?_,rfl⟩;simp only[cz, *,ac,aa]
 refine Z_6 ?_;refine ZW ?_ ?_<;>intro hc5
 ·refine Z_2 ?_;refine cn rfl (hc5) ?_;refine Z_8 ?_;refine Zra ?_;refine⟨?_,rfl⟩;simp only[cz, *,ac,aa]
 refine Z_6 ?_;refine ZW ?_ ?_<;>intro hc6
 ·refine Z_2 ?_;refine cn rfl (hc6) ?_;refine Z_8 ?_;refine Zra ?_;refine⟨?_,rfl⟩;simp only[cz, *,ac,aa]
 refine Z_6 ?_;refine ZW ?_ ?_<;>intro hc7
 ·refine Z_2 ?_;refine cn rfl (hc7) ?_;refine Z_8 ?_;refine Zra ?_;refine⟨?_,rfl⟩;simp only[cz, *,ac,aa]
 refine Z_6 ?_;refine ZW ?_ ?_<;>intro hc8
 ·refine Z_2 ?_;refine cn rfl (hc8) ?_;refine Z_8 ?_;refine Zra ?_;refine⟨?_,rfl⟩;simp only[cz, *,ac,aa]
 refine Z_6 ?_;refine ZW ?_ ?_<;>intro hc9
 ·refine Z_2 ?_;refine cn rfl (hc9) ?_;refine Z_8 ?_;refine Zra ?_;refine⟨?_,rfl⟩;simp only[cz, *,ac,aa]
 refine Z_6 ?_;refine ZW ?_ ?_<;>intro hc10
 ·refine Z_2 ?_;refine cn rfl (hc10) ?_;refine Z_8 ?_;refine Zra ?_;refine⟨?_,rfl⟩;simp only[cz, *,ac,aa]
 refine Z_5 ?_;refine ZW ?_ ?_<;>intro hc11
 ·refine Z_8 ?_;refine Zra ?_;refine⟨?_,rfl⟩;simp only[cz, *,ac,aa]
 refine Z_6 ?_;refine ZW ?_ ?_<;>intro hc13
 ·refine Z_8 ?_;refine Zra ?_;refine⟨?_,rfl⟩;simp only[cz, *,ac,aa]
 refine Z_7 ?_;refine ZS (fun w hi=>name_ok op w) ?_;rintro _ _ ⟨_,⟨⟨s,rfl,hs⟩,rfl⟩,rfl⟩;refine Zy (G0 rfl (Zv rfl) (Zv rfl) hs) ?_;refine Z_2 ?_;refine ZW ?_ ?_<;>intro hc15
 ·refine Z_7 ?_;refine Zra ?_;refine⟨?_,rfl⟩;simp only[cz, *,ac,aa]
 refine Z_8 ?_;refine Zra ?_;refine⟨?_,rfl⟩;simp only[cz, *,ac,aa]
theorem wv(op n:Int)(w:World):Ctr prog 164 [.agg #[.int .i64 op,.int .u32 n]] w [] (fun v cs=>v= .bool (gb op n)∧cs=[]):=by
 refine bL func164 rfl ntmps164 rfl (Inv.start w) ?_;refine Z_2 ?_;refine ZO fun b1=>?_;refine Z_8 ?_;refine ZSe (fun w hi=>tZ op w) ?_;refine Z_9 ?_;refine ZW ?_ ?_<;>intro hc2
 ·refine Z_8 ?_;refine Zra ?_;refine⟨?_,rfl⟩;simp only[gb, *,ac,aa]
 refine Z_6 ?_;refine ZW ?_ ?_<;>intro hc4
 ·refine eu ?_;refine Zra ?_;refine⟨?_,rfl⟩;simp only[gb, *,ac,aa]
 refine Z_6 ?_;refine ZW ?_ ?_<;>intro hc6
 ·refine eu ?_;refine Zra ?_;refine⟨?_,rfl⟩;simp only[gb, *,ac,aa]
 refine Z_9 ?_;refine Zra ?_;refine⟨?_,rfl⟩;simp only[gb, *,ac,aa]
theorem Dw(op:Int)(w:World):Ctr prog 186 [.int .i64 op] w [] (fun v cs=>v= .bool (mU op)∧cs=[]):=by
 refine bL func186 rfl ntmps186 rfl (Inv.start w) ?_;refine vg ?_;refine Zra ?_;exact⟨rfl,rfl⟩
theorem jp(r:Int)(w:World):Ctr prog 244 [.int .u32 r] w [] (fun v cs=>v= .int .u32 (dE r)∧cs=[]):=by
 refine bL func244 rfl ntmps244 rfl (Inv.start w) ?_;refine vg ?_;refine ZW ?_ ?_<;>intro hc2
 ·refine iG ?_;refine ZW ?_ ?_<;>intro hc4
  ·refine jT ?_;refine Zra ?_;refine⟨?_,rfl⟩;simp only[dE, *,ac,aa]
  refine Z_9 ?_;refine Zra ?_;refine⟨?_,rfl⟩;simp only[dE, *,ac,aa]
 refine eJ ?_;refine ZW ?_ ?_<;>intro hc4
 ·refine jT ?_;refine Zra ?_;refine⟨?_,rfl⟩;simp only[dE, *,ac,aa]
 refine Z_9 ?_;refine Zra ?_;refine⟨?_,rfl⟩;simp only[dE, *,ac,aa]
theorem yN(a b:Int)(up:Bool)(hb:0≤b)(w:World):Ctr prog 243 [.int .u32 a,.int .u32 b,.bool up] w [] (fun v cs=>v= .int .u32 (gP a b up)∧cs=[]):=by
 refine bL func243 rfl ntmps243 rfl (Inv.start w) ?_;refine iG ?_;refine ZW ?_ ?_<;>intro hc1
 ·refine Z_8 ?_;refine Zra ?_;refine⟨?_,rfl⟩;simp only[gP, *,ac,aa]
 refine Z_6 ?_;refine ZW ?_ ?_<;>intro hc3
 ·refine Z_4 ?_;refine Zy (tS (Zv rfl) (Zv rfl) (by omega) rfl) ?_;refine Z_6 ?_;refine Zra ?_;refine⟨?_,rfl⟩;simp only[gP, *,ac,aa]
 refine Z_7 ?_;refine Zy (jw (Zv rfl) (Zv rfl) (by omega) rfl) ?_;refine Z_4 ?_;refine Zra ?_;refine⟨?_,rfl⟩;simp only[gP, *,ac,aa]
theorem CU(a b:Int)(w:World):Ctr prog 242 [.int .u32 a,.int .u32 b] w [] (fun v cs=>v= .int .u32 (jN a b)∧cs=[]):=by
 refine bL func242 rfl ntmps242 rfl (Inv.start w) ?_;refine Z_9 ?_;refine Zy (eT Zv0 Zv0 rfl) ?_;refine Z_6 ?_;refine ZSe (fun w hi=>jp _ w) ?_;refine eu ?_;refine ZW ?_ ?_<;>intro hc3
 ·refine mL ?_;refine ZW ?_ ?_<;>intro hc5
  ·refine jT ?_;refine Zra ?_;refine⟨?_,rfl⟩;simp only[jN,jc, *,ac,aa]
  refine Z_9 ?_;refine Zra ?_;refine⟨?_,rfl⟩;simp only[jN,jc, *,ac,aa]
 refine qn ?_;refine ZW ?_ ?_<;>intro hc5
 ·refine jT ?_;refine Zra ?_;refine⟨?_,rfl⟩;simp only[jN,jc, *,ac,aa]
 refine Z_9 ?_;refine Zra ?_;refine⟨?_,rfl⟩;simp only[jN,jc, *,ac,aa]
theorem more_ok(a b:Int)(w:World):Ctr prog 241 [.int .u32 a,.int .u32 b] w [] (fun v cs=>v= .int .u32 (lU a b)∧cs=[]):=by
 refine bL func241 rfl ntmps241 rfl (Inv.start w) ?_;refine Z_9 ?_;refine Zy (cy Zv0 Zv0 rfl) ?_;refine Z_6 ?_;refine ZSe (fun w hi=>jp _ w) ?_;refine eu ?_;refine ZW ?_ ?_<;>intro hc3
 ·refine mL ?_;refine ZW ?_ ?_<;>intro hc5
  ·refine jT ?_;refine Zra ?_;refine⟨?_,rfl⟩;simp only[lU,jc, *,ac,aa]
  refine Z_9 ?_;refine Zra ?_;refine⟨?_,rfl⟩;simp only[lU,jc, *,ac,aa]
 refine qn ?_;refine ZW ?_ ?_<;>intro hc5
 ·refine jT ?_;refine Zra ?_;refine⟨?_,rfl⟩;simp only[lU,jc, *,ac,aa]
 refine Z_9 ?_;refine Zra ?_;refine⟨?_,rfl⟩;simp only[lU,jc, *,ac,aa]
theorem ado_ok(op a b:Int)(hb:0≤b)(w:World):Ctr prog 194 [.int .i64 op,.int .u32 a,.int .u32 b] w [] (fun v cs=>v= .tuple #[.int .u32 (ij op a b).1,.int .u32 (ij op a b).2.1,.bool (ij op a b).2.2]∧cs=[]):=by
 refine bL func194 rfl ntmps194 rfl (Inv.start w) ?_;refine mL ?_;refine Z_5 ?_;refine ZW ?_ ?_<;>intro hc4
 ·refine Z_4 ?_;refine Zy (cy Zv0 Zv0 rfl) ?_;refine Z_2 ?_;refine ZSe (fun w hi=>more_ok a b w) ?_;refine Z_8 ?_;refine sS (cs':=[]) (.inl rfl) Zu rfl rfl rfl rfl ?_;refine⟨?_,rfl⟩;simp only[ij,tH, *,ac,aa]
 refine Z_6 ?_;refine ZW ?_ ?_<;>intro hc6
 ·refine Z_4 ?_;refine Zy (eT Zv0 Zv0 rfl) ?_;refine Z_2 ?_;refine ZSe (fun w hi=>CU a b w) ?_;refine Z_8 ?_;refine sS (cs':=[]) (.inl rfl) Zu rfl rfl rfl rfl ?_;refine⟨?_,rfl⟩;simp only[ij,tH, *,ac,aa]
 refine Z_6 ?_;refine ZW ?_ ?_<;>intro hc8
 ·refine Z_4 ?_;refine ZSe (fun w hi=>CU a b w) ?_;refine Z_8 ?_;refine sS (cs':=[]) (.inl rfl) Zu rfl rfl rfl rfl ?_;refine⟨?_,rfl⟩;simp only[ij,tH, *,ac,aa]
 refine Z_6 ?_;refine ZW ?_ ?_<;>intro hc10
 ·refine gQ ?_;refine ZSe (fun w hi=>jp _ w) ?_;refine Z_6 ?_;refine sS (cs':=[]) (.inl rfl) Zu rfl rfl rfl rfl ?_;refine⟨?_,rfl⟩;simp only[ij,tH, *,ac,aa]
 refine Z_6 ?_;refine ZW ?_ ?_<;>intro hc12
 ·refine gQ ?_;refine ZSe (fun w hi=>jp _ w) ?_;refine Z_6 ?_;refine sS (cs':=[]) (.inl rfl) Zu rfl rfl rfl rfl ?_;refine⟨?_,rfl⟩;simp only[ij,tH, *,ac,aa]
 refine Z_6 ?_;refine ZW ?_ ?_<;>intro hc14
 ·refine gQ ?_;refine ZSe (fun w hi=>jp _ w) ?_;refine Z_6 ?_;refine sS (cs':=[]) (.inl rfl) Zu rfl rfl rfl rfl ?_;refine⟨?_,rfl⟩;simp only[ij,tH, *,ac,aa]
 refine Z_6 ?_;refine ZW ?_ ?_<;>intro hc16
 ·refine Z_3 ?_;refine ZSe (fun w hi=>yN a b _ hb w) ?_;refine Z_8 ?_;refine ZSe (fun w hi=>jp _ w) ?_;refine Z_6 ?_;refine sS (cs':=[]) (.inl rfl) Zu rfl rfl rfl rfl ?_;refine⟨?_,rfl⟩;simp only[ij,tH, *,ac,aa]
 refine Z_6 ?_;refine ZW ?_ ?_<;>intro hc18
 ·refine Z_3 ?_;refine ZSe (fun w hi=>yN a b _ hb w) ?_;refine Z_8 ?_;refine ZSe (fun w hi=>jp _ w) ?_;refine Z_6 ?_;refine sS (cs':=[]) (.inl rfl) Zu rfl rfl rfl rfl ?_;refine⟨?_,rfl⟩;simp only[ij,tH, *,ac,aa]
 refine Z_6 ?_;refine ZW ?_ ?_<;>intro hc20
 ·refine Z_3 ?_;refine Zy (iH Zv0 Zv0 rfl) ?_;refine Z_8 ?_;refine ZSe (fun w hi=>jp _ w) ?_;refine Z_6 ?_;refine sS (cs':=[]) (.inl rfl) Zu rfl rfl rfl rfl ?_;refine⟨?_,rfl⟩;simp only[ij,tH, *,ac,aa]
 refine Z_6 ?_;refine ZW ?_ ?_<;>intro hc22
 ·refine Z_7 ?_;refine ZW ?_ ?_<;>intro hc23
  ·refine eu ?_;refine sS (cs':=[]) (.inl rfl) Zu rfl rfl rfl rfl ?_;refine⟨?_,rfl⟩;simp only[ij,tH, *,ac,aa]
  have hb0:b≠0:=by simpa using hc23
  refine Z_5 ?_;refine Zy (kb (Zv rfl) (Zv rfl) (by omega) (by first|exact IntWalk.u32_quo _ _ ⟨by omega,by omega,by omega⟩|exact rfl)) ?_;refine Z_8 ?_;refine ZSe (fun w hi=>jp _ w) ?_;refine Z_6 ?_;refine sS (cs':=[]) (.inl rfl) Zu rfl rfl rfl rfl ?_;refine⟨?_,rfl⟩;simp only[ij,tH, *,ac,aa]
 refine eJ ?_;refine sS (cs':=[]) (.inl rfl) Zu rfl rfl rfl rfl ?_;refine⟨?_,rfl⟩;simp only[ij,tH, *,ac,aa]
theorem Gh(op f:Int)(w:World):Ctr prog 196 [.int .i64 op,.int .u32 f] w [] (fun v cs=>v= .tuple #[.bool (dc op f).1,.bool (dc op f).2]∧cs=[]):=by
 refine bL func196 rfl ntmps196 rfl (Inv.start w) ?_;refine GV ?_;refine ZW ?_ ?_<;>intro hc2
 ·refine gQ ?_;refine ft (cs':=[]) (.inl rfl) Zu rfl rfl rfl ?_;refine⟨?_,rfl⟩;simp only[dc, *,ac,aa]
 refine Z_6 ?_;refine ZW ?_ ?_<;>intro hc4
 ·refine gQ ?_;refine ft (cs':=[]) (.inl rfl) Zu rfl rfl rfl ?_;refine⟨?_,rfl⟩;simp only[dc, *,ac,aa]
 refine Z_6 ?_;refine ZW ?_ ?_<;>intro hc6
 ·refine gQ ?_;refine ft (cs':=[]) (.inl rfl) Zu rfl rfl rfl ?_;refine⟨?_,rfl⟩;simp only[dc, *,ac,aa]
 refine Z_6 ?_;refine ZW ?_ ?_<;>intro hc8
 ·refine gQ ?_;refine ft (cs':=[]) (.inl rfl) Zu rfl rfl rfl ?_;refine⟨?_,rfl⟩;simp only[dc, *,ac,aa]
 refine Z_6 ?_;refine ZW ?_ ?_<;>intro hc10
 ·refine gQ ?_;refine ft (cs':=[]) (.inl rfl) Zu rfl rfl rfl ?_;refine⟨?_,rfl⟩;simp only[dc, *,ac,aa]
 refine eJ ?_;refine ft (cs':=[]) (.inl rfl) Zu rfl rfl rfl ?_;refine⟨?_,rfl⟩;simp only[dc, *,ac,aa]
theorem xt(b:Int)(w:World):Ctr prog 166 [.int .u32 b] w [] (fun v cs=>v= .int .u32 (kH b)∧cs=[]):=by
 refine bL func166 rfl ntmps166 rfl (Inv.start w) ?_;refine Z_8 ?_;refine Zy (ce rfl rfl Zv0 rfl) ?_;refine Zy (ce rfl rfl Zv0 rfl) ?_;refine Zy (ce rfl rfl Zv0 rfl) ?_;refine Z_4 ?_;refine Zra ?_;exact⟨rfl,rfl⟩
theorem FH(op:Int)(w:World):Ctr prog 189 [.int .i64 op] w [] (fun v cs=>v= .tuple #[.int .i64 ((bQ op).1.1:Nat),.int .i64 ((bQ op).1.2:Nat),.int .i64 ((bQ op).2.1:Nat),.int .i64 ((bQ op).2.2:Nat)]∧cs=[]):=by
 refine bL func189 rfl ntmps189 rfl (Inv.start w) ?_;refine mL ?_;refine Z_2 ?_;refine ZW ?_ ?_<;>intro hc2
 ·refine Z_2 ?_;refine cn rfl (hc2) ?_;refine eu ?_;refine mT (cs':=[]) (.inl rfl) Zu rfl rfl rfl rfl rfl ?_;refine⟨?_,rfl⟩;simp only[bQ, *,ac,aa];exact rfl
 refine Z_6 ?_;refine ZW ?_ ?_<;>intro hc3
 ·refine Z_2 ?_;refine cn rfl (hc3) ?_;refine eu ?_;refine mT (cs':=[]) (.inl rfl) Zu rfl rfl rfl rfl rfl ?_;refine⟨?_,rfl⟩;simp only[bQ, *,ac,aa];exact rfl
 refine Z_5 ?_;refine ZW ?_ ?_<;>intro hc4
 ·refine eu ?_;refine mT (cs':=[]) (.inl rfl) Zu rfl rfl rfl rfl rfl ?_;refine⟨?_,rfl⟩;simp only[bQ, *,ac,aa];exact rfl
 refine Z_6 ?_;refine ZW ?_ ?_<;>intro hc6
 ·refine eu ?_;refine mT (cs':=[]) (.inl rfl) Zu rfl rfl rfl rfl rfl ?_;refine⟨?_,rfl⟩;simp only[bQ, *,ac,aa];exact rfl
 refine Z_7 ?_;refine ZW ?_ ?_<;>intro hc8
 ·refine Z_2 ?_;refine cn rfl (hc8) ?_;refine eu ?_;refine mT (cs':=[]) (.inl rfl) Zu rfl rfl rfl rfl rfl ?_;refine⟨?_,rfl⟩;simp only[bQ, *,ac,aa];exact rfl
 refine Z_6 ?_;refine ZW ?_ ?_<;>intro hc9
 ·refine Z_2 ?_;refine cn rfl (hc9) ?_;refine eu ?_;refine mT (cs':=[]) (.inl rfl) Zu rfl rfl rfl rfl rfl ?_;refine⟨?_,rfl⟩;simp only[bQ, *,ac,aa];exact rfl
 refine Z_6 ?_;refine ZW ?_ ?_<;>intro hc10
 ·refine Z_2 ?_;refine cn rfl (hc10) ?_;refine eu ?_;refine mT (cs':=[]) (.inl rfl) Zu rfl rfl rfl rfl rfl ?_;refine⟨?_,rfl⟩;simp only[bQ, *,ac,aa];exact rfl
 refine Z_5 ?_;refine ZW ?_ ?_<;>intro hc11
 ·refine eu ?_;refine mT (cs':=[]) (.inl rfl) Zu rfl rfl rfl rfl rfl ?_;refine⟨?_,rfl⟩;simp only[bQ, *,ac,aa];exact rfl
 refine Z_6 ?_;refine ZW ?_ ?_<;>intro hc13
 ·refine eu ?_;refine mT (cs':=[]) (.inl rfl) Zu rfl rfl rfl rfl rfl ?_;refine⟨?_,rfl⟩;simp only[bQ, *,ac,aa];exact rfl
 refine Z_6 ?_;refine ZW ?_ ?_<;>intro hc15
 ·refine eu ?_;refine mT (cs':=[]) (.inl rfl) Zu rfl rfl rfl rfl rfl ?_;refine⟨?_,rfl⟩;simp only[bQ, *,ac,aa];exact rfl
 refine Z_6 ?_;refine ZW ?_ ?_<;>intro hc17
 ·refine eu ?_;refine mT (cs':=[]) (.inl rfl) Zu rfl rfl rfl rfl rfl ?_;refine⟨?_,rfl⟩;simp only[bQ, *,ac,aa];exact rfl
 refine Z_6 ?_;refine ZW ?_ ?_<;>intro hc19
 ·refine eu ?_;refine mT (cs':=[]) (.inl rfl) Zu rfl rfl rfl rfl rfl ?_;refine⟨?_,rfl⟩;simp only[bQ, *,ac,aa];exact rfl
 refine Z_7 ?_;refine ZW ?_ ?_<;>intro hc21
 ·refine Z_2 ?_;refine cn rfl (hc21) ?_;refine eu ?_;refine mT (cs':=[]) (.inl rfl) Zu rfl rfl rfl rfl rfl ?_;refine⟨?_,rfl⟩;simp only[bQ, *,ac,aa];exact rfl
 refine Z_6 ?_;refine ZW ?_ ?_<;>intro hc22
 ·refine Z_2 ?_;refine cn rfl (hc22) ?_;refine eu ?_;refine mT (cs':=[]) (.inl rfl) Zu rfl rfl rfl rfl rfl ?_;refine⟨?_,rfl⟩;simp only[bQ, *,ac,aa];exact rfl
 refine Z_6 ?_;refine ZW ?_ ?_<;>intro hc23
 ·refine Z_2 ?_;refine cn rfl (hc23) ?_;refine eu ?_;refine mT (cs':=[]) (.inl rfl) Zu rfl rfl rfl rfl rfl ?_;refine⟨?_,rfl⟩;simp only[bQ, *,ac,aa];exact rfl
 refine Z_6 ?_;refine ZW ?_ ?_<;>intro hc24
 ·refine Z_2 ?_;refine cn rfl (hc24) ?_;refine eu ?_;refine mT (cs':=[]) (.inl rfl) Zu rfl rfl rfl rfl rfl ?_;refine⟨?_,rfl⟩;simp only[bQ, *,ac,aa];exact rfl
 refine Z_6 ?_;refine ZW ?_ ?_<;>intro hc25
 ·refine Z_2 ?_;refine cn rfl (hc25) ?_;refine eu ?_;refine mT (cs':=[]) (.inl rfl) Zu rfl rfl rfl rfl rfl ?_;refine⟨?_,rfl⟩;simp only[bQ, *,ac,aa];exact rfl
 refine Z_6 ?_;refine ZW ?_ ?_<;>intro hc26
 ·refine Z_2 ?_;refine cn rfl (hc26) ?_;refine eu ?_;refine mT (cs':=[]) (.inl rfl) Zu rfl rfl rfl rfl rfl ?_;refine⟨?_,rfl⟩;simp only[bQ, *,ac,aa];exact rfl
 refine Z_6 ?_;refine ZW ?_ ?_<;>intro hc27
 ·refine Z_2 ?_;refine cn rfl (hc27) ?_;refine eu ?_;refine mT (cs':=[]) (.inl rfl) Zu rfl rfl rfl rfl rfl ?_;refine⟨?_,rfl⟩;simp only[bQ, *,ac,aa];exact rfl
 refine Z_6 ?_;refine ZW ?_ ?_<;>intro hc28
 ·refine Z_2 ?_;refine cn rfl (hc28) ?_;refine eu ?_;refine mT (cs':=[]) (.inl rfl) Zu rfl rfl rfl rfl rfl ?_;refine⟨?_,rfl⟩;simp only[bQ, *,ac,aa];exact rfl
 refine Z_5 ?_;refine ZW ?_ ?_<;>intro hc29
 ·refine eu ?_;refine mT (cs':=[]) (.inl rfl) Zu rfl rfl rfl rfl rfl ?_;refine⟨?_,rfl⟩;simp only[bQ, *,ac,aa];exact rfl
 refine Z_7 ?_;refine ZW ?_ ?_<;>intro hc31
 ·refine Z_2 ?_;refine cn rfl (hc31) ?_;refine eu ?_;refine mT (cs':=[]) (.inl rfl) Zu rfl rfl rfl rfl rfl ?_;refine⟨?_,rfl⟩;simp only[bQ, *,ac,aa];exact rfl
 refine Z_6 ?_;refine ZW ?_ ?_<;>intro hc32
 ·refine Z_2 ?_;refine cn rfl (hc32) ?_;refine eu ?_;refine mT (cs':=[]) (.inl rfl) Zu rfl rfl rfl rfl rfl ?_;refine⟨?_,rfl⟩;simp only[bQ, *,ac,aa];exact rfl
 refine Z_6 ?_;refine ZW ?_ ?_<;>intro hc33
 ·refine Z_2 ?_;refine cn rfl (hc33) ?_;refine eu ?_;refine mT (cs':=[]) (.inl rfl) Zu rfl rfl rfl rfl rfl ?_;refine⟨?_,rfl⟩;simp only[bQ, *,ac,aa];exact rfl
 refine Z_5 ?_;refine ZW ?_ ?_<;>intro hc34
 ·refine eu ?_;refine mT (cs':=[]) (.inl rfl) Zu rfl rfl rfl rfl rfl ?_;refine⟨?_,rfl⟩;simp only[bQ, *,ac,aa];exact rfl
 refine Z_7 ?_;refine ZW ?_ ?_<;>intro hc36
 ·refine Z_2 ?_;refine cn rfl (hc36) ?_;refine eu ?_;refine mT (cs':=[]) (.inl rfl) Zu rfl rfl rfl rfl rfl ?_;refine⟨?_,rfl⟩;simp only[bQ, *,ac,aa];exact rfl
 refine Z_6 ?_;refine ZW ?_ ?_<;>intro hc37
 ·refine Z_2 ?_;refine cn rfl (hc37) ?_;refine eu ?_;refine mT (cs':=[]) (.inl rfl) Zu rfl rfl rfl rfl rfl ?_;refine⟨?_,rfl⟩;simp only[bQ, *,ac,aa];exact rfl
 refine Z_5 ?_;refine ZW ?_ ?_<;>intro hc38
 ·refine eu ?_;refine mT (cs':=[]) (.inl rfl) Zu rfl rfl rfl rfl rfl ?_;refine⟨?_,rfl⟩;simp only[bQ, *,ac,aa];exact rfl
 refine Z_6 ?_;refine ZW ?_ ?_<;>intro hc40
 ·refine eu ?_;refine mT (cs':=[]) (.inl rfl) Zu rfl rfl rfl rfl rfl ?_;refine⟨?_,rfl⟩;simp only[bQ, *,ac,aa];exact rfl
 refine Z_6 ?_;refine ZW ?_ ?_<;>intro hc42
 ·refine eu ?_;refine mT (cs':=[]) (.inl rfl) Zu rfl rfl rfl rfl rfl ?_;refine⟨?_,rfl⟩;simp only[bQ, *,ac,aa];exact rfl
 refine gQ ?_;refine mT (cs':=[]) (.inl rfl) Zu rfl rfl rfl rfl rfl ?_;refine⟨?_,rfl⟩;simp only[bQ, *,ac,aa];exact rfl
end Go.Proofs.YtakodpimdalajaaGreatDoor
namespace Go.Ink
open Go.RowKit
structure Run where
 s:St
 count:Int
 Io:Tr
 device:Bool
abbrev Run.wd(R:Run)(l:List Int):Run:=⟨⟨R.s.pc,l,R.s.r,R.s.flags,R.s.If,R.s.Il,R.s.ie,R.s.root,R.s.vec,R.s.epc,R.s.Ie,R.s.addr,R.s.Ip,R.s.eie,R.s.count,R.s.halted⟩,R.count,R.Io,R.device⟩
abbrev Run.wr(R:Run)(l:List Int):Run:=⟨⟨R.s.pc,R.s.d,l,R.s.flags,R.s.If,R.s.Il,R.s.ie,R.s.root,R.s.vec,R.s.epc,R.s.Ie,R.s.addr,R.s.Ip,R.s.eie,R.s.count,R.s.halted⟩,R.count,R.Io,R.device⟩
abbrev Run.wt(R:Run)(t:Tr):Run:=⟨R.s,R.count,t,R.device⟩
structure hI where
 Ad:Option Addr
 cd:Nat
 Ar:Option Addr
 cr:Nat
structure Bj where
 br:Nat
 u:Option Addr
 b:Option Addr
end Go.Ink
namespace Go.Proofs.YtakodpimdalajaaGreatDoor
open Go.RowKit Go.Ink Go.Proofs.Tryz
attribute [local irreducible] OpY bU
abbrev qJ(K:Bj)(X:hI)(R:Run):bJ:=row K.br [.int .u32 R.s.pc,.slice X.Ad R.s.d.length X.cd,.slice X.Ar R.s.r.length X.cr,.int .u32 R.s.flags,.bool R.s.If,.bool R.s.Il,.bool R.s.ie,.int .u32 R.s.root,.int .u32 R.s.vec,.int .u32 R.s.epc,.int .u32 R.s.Ie,.int .u32 R.s.addr,.bool R.s.Ip,.bool R.s.eie,.int .u64 R.s.count,.bool R.s.halted,.int .u64 R.count,.pointer K.u,.pointer K.b,.int .i64 R.Io.Ie,.int .u32 R.Io.addr,.bool R.device] 258
abbrev dY(K:Bj)(X:hI)(R:Run):List bJ:=[qJ K X R,slD R.s X.Ad X.cd,slR R.s X.Ar X.cr]
theorem gX(K:Bj)(X:hI)(R:Run)(l:List Int)(x:Int)(w:World)(hi:Inv w (bK (dY K X (R.wd (l++[x])))) (dY K X (R.wd (l++[x]))) w):
  Ctr prog 192 [.pointer (some ⟨K.br,0,none⟩)] w (dY K X (R.wd (l++[x]))) (fun v cs=>v= .int .u32 x∧cs=dY K X (R.wd l)):=by
 have hrd:=tY (hi.get (.tail _ (.head _ _)));have hcap:(l++[x]).length≤X.cd:=hrd.cap;have hmax:=hrd.max;simp only[maxLen]at hmax;have hlen:(l++[x]).length=l.length+1:=by simp
 obtain⟨Ad,cd,Ar,cr⟩:=X;obtain⟨bd,rfl⟩:=fu (hi.get (.tail _ (.head _ _))) (show 0<(l++[x]).length by omega);have hcap:(l++[x]).length≤cd:=hcap;have hdl:(R.wd (l++[x])).s.d.length=l.length+1:=hlen;have hmax:cd≤_:=hmax;refine bL func192 rfl ntmps192 rfl hi ?_;refine jT ?_;refine Zy (eT (Zv rfl) (Zv rfl) (show _=(l.length:Int)from by rw[hlen];exact IntWalk.i64_in _ ⟨by omega,by omega⟩|>.trans (by omega))) ?_;refine eu ?_;refine Zy (cC (j:=l.length) (sz:=1) (r:=l.length) rfl Zrf (Zv rfl) (Zv rfl) (fun _=>by omega) (fun _=>by omega) (by omega)) ?_;refine dX (bO Zrf Zv0) (dH Zh (cZ (p7 l x))) rfl ?_;refine gQ ?_;refine Zy (gZ (l.length) rfl Zrf (Zv rfl) (Zv rfl) (fun _=>by first|rfl|omega) (fun _=>by omega)) ?_;refine Z_3 ?_;refine ZL ?_;refine Z_9 ?_;refine j0 (c:=slD (R.wd (l++[x])).s (some ⟨bd,0,none⟩) cd) (c':=slD (R.wd l).s (some ⟨bd,0,none⟩) cd) Za rfl (fun w h=>yw h) ?_;refine Zrb ([row _ _ _,slv _ _ _ _ _ _,slv _ _ _ _ _ _]) ?_;exact⟨rfl,rfl⟩
theorem Cj(K:Bj)(X:hI)(R:Run)(l:List Int)(x:Int)(w:World)(hi:Inv w (bK (dY K X (R.wr (l++[x])))) (dY K X (R.wr (l++[x]))) w):
  Ctr prog 193 [.pointer (some ⟨K.br,0,none⟩)] w (dY K X (R.wr (l++[x]))) (fun v cs=>v= .int .u32 x∧cs=dY K X (R.wr l)):=by
 have hrd:=tY (hi.get (.tail _ (.tail _ (.head _ _))));have hcap:(l++[x]).length≤X.cr:=hrd.cap;have hmax:=hrd.max;simp only[maxLen]at hmax;have hlen:(l++[x]).length=l.length+1:=by simp
 obtain⟨Ad,cd,Ar,cr⟩:=X;obtain⟨bd,rfl⟩:=fu (hi.get (.tail _ (.tail _ (.head _ _)))) (show 0<(l++[x]).length by omega);have hcap:(l++[x]).length≤cr:=hcap;have hdl:(R.wr (l++[x])).s.r.length=l.length+1:=hlen;have hmax:cr≤_:=hmax;refine bL func193 rfl ntmps193 rfl hi ?_;refine jT ?_;refine Zy (eT (Zv rfl) (Zv rfl) (show _=(l.length:Int)from by rw[hlen];exact IntWalk.i64_in _ ⟨by omega,by omega⟩|>.trans (by omega))) ?_;refine eu ?_;refine Zy (cC (j:=l.length) (sz:=1) (r:=l.length) rfl Zrf (Zv rfl) (Zv rfl) (fun _=>by omega) (fun _=>by omega) (by omega)) ?_;refine dX (bO Zrf Zv0) (dH Zh (cZ (p7 l x))) rfl ?_;refine gQ ?_;refine Zy (gZ (l.length) rfl Zrf (Zv rfl) (Zv rfl) (fun _=>by first|rfl|omega) (fun _=>by omega)) ?_;refine Z_3 ?_;refine ZL ?_;refine Z_9 ?_;refine j0 (c:=slR (R.wr (l++[x])).s (some ⟨bd,0,none⟩) cr) (c':=slR (R.wr l).s (some ⟨bd,0,none⟩) cr) Za rfl (fun w h=>yw h) ?_;refine Zrb ([row _ _ _,slv _ _ _ _ _ _,slv _ _ _ _ _ _]) ?_;exact⟨rfl,rfl⟩
theorem gN(K:Bj)(X:hI)(R:Run)(A:Option Addr)(n c:Nat)(ys:List Int)(hs:R.s.d.length+n≤1000000)(w:World)(hi:Inv w (bK (dY K X R)) (dY K X R) w)(h:∀w',dR (bK (dY K X R)) w w'→Rd w' .u32 A n c ys):
  Ctr prog 191 [.pointer (some ⟨K.br,0,none⟩),.slice A n c] w (dY K X R) (fun v cs=>∃A' c',v= .tuple #[]∧cs=dY K ⟨A',c',X.Ar,X.cr⟩ (R.wd (R.s.d++ys))):=by
 have hl:n=ys.length:=by have:=(h w (dR.refl _ _)).len;rw[cO]at this;omega
 subst hl;refine bL func191 rfl ntmps191 rfl hi ?_;refine Z_8 ?_;refine dJ (cW (e:=22) (sz:=1) (bytes:=4) rfl rfl Za rfl rfl (fun w hi=>h w hi.Iz) cY (by simp only[maxLen];omega) (by omega)) rfl ?_;rintro _ _ ⟨A',c',rfl,rfl⟩;refine Z_3 ?_;refine ZL ?_;refine Zn (fE (cs':=[row _ _ _,slv _ _ _ _ _ _,slv _ _ _ _ _ _]) (.inr rfl) Zu rfl ?_);exact⟨A',c',rfl,by simp only[dY,qJ,slD,slR,ae,cH]⟩
theorem mY(K:Bj)(X:hI)(R:Run)(Ie addr:Int)(w:World)(hi:Inv w (bK (dY K X R)) (dY K X R) w):
  Ctr prog 195 [.pointer (some ⟨K.br,0,none⟩),.int .i64 Ie,.int .u32 addr] w (dY K X R) (fun v cs=>v= .tuple #[]∧cs=dY K X (R.wt ⟨Ie,addr⟩)):=by
 refine bL func195 rfl ntmps195 rfl hi ?_;refine Z_7 ?_;refine dy (jA (n:=2) (vs:=[.int .i64 Ie,.int .u32 addr]) Zrf rfl rfl (iE rfl) Za rfl (by simp only[ai,ak];omega)) ?_;rintro _ _ ⟨rfl,rfl⟩;refine Zn (fE (cs':=[row _ _ _,slv _ _ _ _ _ _,slv _ _ _ _ _ _]) (.inr rfl) Zu rfl ?_);exact⟨rfl,rfl⟩
theorem E7(K:Bj)(X:hI)(R:Run)(w:World)(h:(qJ K X R).ok w):
  Ctr prog 250 [.pointer (some ⟨K.br,0,none⟩)] w [] (fun v cs=>v= .agg #[.bool R.s.Il,.bool R.s.If,.int .u32 R.s.root]∧cs=[]):=by
 refine bL func250 rfl ntmps250 rfl (Inv.start w) ?_;refine Z_2 ?_;refine ZN fun b2=>?_;refine Z_3 ?_;refine bX ⟨fun j=>List.elem j [16],[]⟩ Zk ?_;refine ZE 0 ?_;refine ZE 1 ?_;refine ZFe 2 0 ?_;refine ZFe 3 5 ?_;refine eX 4 rfl Zk Zk Zk Zk (bO Zrf (Zv rfl)) (dL (by assumption) rfl) rfl ?_;refine ZE 5 ?_;refine ZE 6 ?_;refine ZFe 7 0 ?_;refine ZFe 8 4 ?_;refine eX 9 rfl Zk Zk Zk Zk (bO Zrf (Zv rfl)) (dL (by assumption) rfl) rfl ?_;refine ZE 10 ?_;refine ZE 11 ?_;refine ZFe 12 0 ?_;refine ZFe 13 7 ?_;refine eX 14 rfl Zk Zk Zk Zk (bO Zrf (Zv rfl)) (dL (by assumption) rfl) rfl ?_;refine ZE 15 ?_;refine cw 16 Zk ?_;refine ZR ?_;refine bN Zk ?_;refine Z_2 ?_;refine mS (cs':=[]) (.inl rfl) Zu rfl rfl Zh Zrf Zrf ?_;exact⟨rfl,rfl⟩
end Go.Proofs.YtakodpimdalajaaGreatDoor
namespace Go.Ink
open Go.RowKit
def Run.top(R:Run):Int:=R.s.d.getLastD 0
def Run.topR(R:Run):Int:=R.s.r.getLastD 0
def Run.pop(R:Run):Run:=R.wd R.s.d.dropLast
def Run.IJ(R:Run):Run:=R.wr R.s.r.dropLast
def Run.push(R:Run)(l:List Int):Run:=R.wd (R.s.d++l)
def Run.Jl(R:Run)(x:Int):Run:=R.wr (R.s.r++[x])
abbrev Run.wpc(R:Run)(x:Int):Run:=⟨⟨x,R.s.d,R.s.r,R.s.flags,R.s.If,R.s.Il,R.s.ie,R.s.root,R.s.vec,R.s.epc,R.s.Ie,R.s.addr,R.s.Ip,R.s.eie,R.s.count,R.s.halted⟩,R.count,R.Io,R.device⟩
abbrev Run.wfl(R:Run)(x:Int):Run:=⟨⟨R.s.pc,R.s.d,R.s.r,x,R.s.If,R.s.Il,R.s.ie,R.s.root,R.s.vec,R.s.epc,R.s.Ie,R.s.addr,R.s.Ip,R.s.eie,R.s.count,R.s.halted⟩,R.count,R.Io,R.device⟩
theorem Run.snoc{R:Run}(h:1≤R.s.d.length):∃(R':Run) (l:List Int) (x:Int),R=R'.wd (l++[x]):=by
 obtain⟨l,x,h⟩:=qF h;exact⟨R,l,x,by rw[Run.wd,←h]⟩
theorem Run.snocR{R:Run}(h:1≤R.s.r.length):∃(R':Run) (l:List Int) (x:Int),R=R'.wr (l++[x]):=by
 obtain⟨l,x,h⟩:=qF h;exact⟨R,l,x,by rw[Run.wr,←h]⟩
theorem Run.IW{R:Run}(h:2≤R.s.d.length):∃(R':Run) (l:List Int) (x y:Int),R=R'.wd ((l++[x])++[y]):=by
 obtain⟨R1,l,y,rfl⟩:=Run.snoc (R:=R) (by omega);have h:2≤(l++[y]).length:=h;obtain⟨m,x,rfl⟩:=qF (l:=l) (by simp at h;omega);exact⟨R1,m,x,y,rfl⟩
@[simp] theorem Run.top_wd (R:Run) (l:List Int) (x:Int):(R.wd (l++[x])).top=x:=by simp[Run.top,List.getLastD_concat]
@[simp] theorem Run.pop_wd (R:Run) (l:List Int) (x:Int):(R.wd (l++[x])).pop=R.wd l:=by simp[Run.pop]
@[simp] theorem Run.topR_wr (R:Run) (l:List Int) (x:Int):(R.wr (l++[x])).topR=x:=by simp[Run.topR,List.getLastD_concat]
@[simp] theorem Run.popR_wr (R:Run) (l:List Int) (x:Int):(R.wr (l++[x])).IJ=R.wr l:=by simp[Run.IJ]
def dK(op n:Int)(R:Run):Option Run:=
 bif op==0 then some R else bif op==1 then some (R.push [n])else bif op==2 then some (R.push [n])else bif op==3 then some (R.pop.push [R.top,R.top])else bif op==4 then some R.pop else
 bif op==5 then some (R.pop.pop.push [R.top,R.pop.top])else bif op==6 then some (R.pop.pop.push [R.pop.top,R.top,R.pop.top])else bif op==7 then some (R.pop.Jl R.top)else bif op==8 then some (R.IJ.push [R.topR])else none
theorem mO(n:Int)(R:Run)(l:List Int)(x:Int):dK 3 n (R.wd (l++[x]))=some (R.wd (l++[x,x])):=by
 show some _=_;rw[Run.top_wd,Run.pop_wd];rfl
theorem lB(n:Int)(R:Run)(l:List Int)(x:Int):dK 4 n (R.wd (l++[x]))=some (R.wd l):=by
 show some _=_;rw[Run.pop_wd]
theorem lz(n:Int)(R:Run)(l:List Int)(x y:Int):dK 5 n (R.wd ((l++[x])++[y]))=some (R.wd (l++[y,x])):=by
 show some _=_;rw[Run.top_wd,Run.pop_wd,Run.top_wd,Run.pop_wd];rfl
theorem lA(n:Int)(R:Run)(l:List Int)(x y:Int):dK 6 n (R.wd ((l++[x])++[y]))=some (R.wd (l++[x,y,x])):=by
 show some _=_;rw[Run.top_wd,Run.pop_wd,Run.top_wd,Run.pop_wd];rfl
theorem mN(n:Int)(R:Run)(l:List Int)(x:Int):dK 7 n (R.wd (l++[x]))=some ((R.wd l).wr (R.s.r++[x])):=by
 show some _=_;rw[Run.top_wd,Run.pop_wd];rfl
theorem kM(n:Int)(R:Run)(l:List Int)(x:Int):dK 8 n (R.wr (l++[x]))=some ((R.wr l).wd (R.s.d++[x])):=by
 show some _=_;rw[Run.topR_wr,Run.popR_wr];rfl
theorem pC{op:Int}(n:Int)(R:Run)(h0:(op==0)=false)(h1:(op==1)=false)(h2:(op==2)=false)(h3:(op==3)=false)(h4:(op==4)=false)(h5:(op==5)=false)(h6:(op==6)=false)(h7:(op==7)=false)(h8:(op==8)=false):dK op n R=none:=by
 simp only[dK, *,aa]
theorem jS{a b:Int}(h:(a==b)=true):a=b:=by simpa using h
end Go.Ink
namespace Go.Proofs.YtakodpimdalajaaGreatDoor
open Go.RowKit Go.Ink Go.Proofs.Tryz
attribute [local irreducible] OpY bU
theorem E6(K:Bj)(X:hI)(R:Run)(op n:Int)(hd:R.s.d.length≤100000)(hr:R.s.r.length≤100000)(hn:(bQ op).1.1≤R.s.d.length)(hnr:(bQ op).2.1≤R.s.r.length)(w:World)(hi:Inv w (bK (dY K X R)) (dY K X R) w):
  Ctr prog 141 [.pointer (some ⟨K.br,0,none⟩),.agg #[.int .i64 op,.int .u32 n]] w (dY K X R) (fun v cs=>∃X',v= .bool (dK op n R).isSome∧cs=dY K X' ((dK op n R).getD R)):=by
 refine bL func141 rfl ntmps141 rfl hi ?_;refine Z_2 ?_;refine ZO fun b3=>?_;refine vg ?_;refine ZW ?_ ?_<;>intro hc3
 ·obtain rfl:=jS hc3;have hst:dK 0 n R=some R:=rfl;refine Z_9 ?_;refine Zrb ([row _ _ _,slv _ _ _ _ _ _,slv _ _ _ _ _ _]) ?_;rw[hst];exact⟨⟨_,_,_,_⟩,rfl,rfl⟩
 refine Z_7 ?_;refine ZW ?_ ?_<;>intro hc4
 ·obtain rfl:=jS hc4;have hst:dK 1 n R=some (R.push [n]):=rfl;refine Z_2 ?_;refine cn rfl (hc4) ?_;refine Z_4 ?_;refine dJ (bZ rfl rfl Zrf Zrf rfl rfl) rfl ?_;rintro _ _ ⟨b20,rfl,rfl⟩;refine ZcL (dY K X R) (fun w hi hin=>gN K X R _ 1 1 [n] (by omega) w hin (fun w' hk=>hi.I2 Zi Zh hk)) ?_;rintro _ _ ⟨_,⟨A',c',rfl,rfl⟩,rfl⟩;refine Z_9 ?_;refine Zrb ([row _ _ _,slv _ _ _ _ _ _,slv _ _ _ _ _ _]) ?_;rw[hst];exact⟨⟨_,_,_,_⟩,rfl,rfl⟩
 refine Z_5 ?_;refine ZW ?_ ?_<;>intro hc5
 ·obtain rfl:=jS hc5;have hst:dK 2 n R=some (R.push [n]):=rfl;refine Z_4 ?_;refine dJ (bZ rfl rfl Zrf Zrf rfl rfl) rfl ?_;rintro _ _ ⟨b20,rfl,rfl⟩;refine ZcL (dY K X R) (fun w hi hin=>gN K X R _ 1 1 [n] (by omega) w hin (fun w' hk=>hi.I2 Zi Zh hk)) ?_;rintro _ _ ⟨_,⟨A',c',rfl,rfl⟩,rfl⟩;refine Z_9 ?_;refine Zrb ([row _ _ _,slv _ _ _ _ _ _,slv _ _ _ _ _ _]) ?_;rw[hst];exact⟨⟨_,_,_,_⟩,rfl,rfl⟩
 refine Z_6 ?_;refine ZW ?_ ?_<;>intro hc7
 ·obtain rfl:=jS hc7;obtain⟨R,l,x,rfl⟩:=Run.snoc (show 1≤R.s.d.length from hn);have hst:=mO n R l x;have hll:l.length+1≤100000:=(by have:(l++[x]).length≤100000:=hd;simpa using this);refine Z_3 ?_;refine ZcM (dY K X (R.wd (l++[x]))) (fun w hi hin=>gX K X R l x w hin) ?_;refine Z_7 ?_;refine dJ (bZ rfl rfl Zrf Zrf rfl rfl) rfl ?_;rintro _ _ ⟨b29,rfl,rfl⟩;refine ZcL (dY K X (R.wd l)) (fun w hi hin=>gN K X (R.wd l) _ 2 2 [x,x] (show l.length+2≤1000000 by omega) w hin (fun w' hk=>hi.I2 Zi Zh hk)) ?_;rintro _ _ ⟨_,⟨A',c',rfl,rfl⟩,rfl⟩;refine Z_9 ?_;refine Zrb ([row _ _ _,slv _ _ _ _ _ _,slv _ _ _ _ _ _]) ?_;rw[hst];exact⟨⟨_,_,_,_⟩,rfl,rfl⟩
 refine Z_6 ?_;refine ZW ?_ ?_<;>intro hc10
 ·obtain rfl:=jS hc10;obtain⟨R,l,x,rfl⟩:=Run.snoc (show 1≤R.s.d.length from hn);have hst:=lB n R l x;refine Z_2 ?_;refine ZcM (dY K X (R.wd (l++[x]))) (fun w hi hin=>gX K X R l x w hin) ?_;refine Z_9 ?_;refine Zrb ([row _ _ _,slv _ _ _ _ _ _,slv _ _ _ _ _ _]) ?_;rw[hst];exact⟨⟨_,_,_,_⟩,rfl,rfl⟩
 refine Z_6 ?_;refine ZW ?_ ?_<;>intro hc12
 ·obtain rfl:=jS hc12;obtain⟨R,l,x,y,rfl⟩:=Run.IW (show 2≤R.s.d.length from hn);have hst:=lz n R l x y;have hll:l.length+2≤100000:=(by have:((l++[x])++[y]).length≤100000:=hd;simp only[ae,ai,ak]at this;omega);refine Z_3 ?_;refine ZcM (dY K X (R.wd ((l++[x])++[y]))) (fun w hi hin=>gX K X R (l++[x]) y w hin) ?_;refine ZA ?_;refine ZcM (dY K X (R.wd (l++[x]))) (fun w hi hin=>gX K X R l x w hin) ?_;refine Z_8 ?_;refine dJ (bZ rfl rfl Zrf Zrf rfl rfl) rfl ?_;rintro _ _ ⟨b44,rfl,rfl⟩;refine ZcL (dY K X (R.wd l)) (fun w hi hin=>gN K X (R.wd l) _ 2 2 [y,x] (show l.length+2≤1000000 by omega) w hin (fun w' hk=>hi.I2 Zi Zh hk)) ?_;rintro _ _ ⟨_,⟨A',c',rfl,rfl⟩,rfl⟩;refine Z_9 ?_;refine Zrb ([row _ _ _,slv _ _ _ _ _ _,slv _ _ _ _ _ _]) ?_;rw[hst];exact⟨⟨_,_,_,_⟩,rfl,rfl⟩
 refine Z_6 ?_;refine ZW ?_ ?_<;>intro hc15
 ·obtain rfl:=jS hc15;obtain⟨R,l,x,y,rfl⟩:=Run.IW (show 2≤R.s.d.length from hn);have hst:=lA n R l x y;have hll:l.length+2≤100000:=(by have:((l++[x])++[y]).length≤100000:=hd;simp only[ae,ai,ak]at this;omega);refine Z_3 ?_;refine ZcM (dY K X (R.wd ((l++[x])++[y]))) (fun w hi hin=>gX K X R (l++[x]) y w hin) ?_;refine ZA ?_;refine ZcM (dY K X (R.wd (l++[x]))) (fun w hi hin=>gX K X R l x w hin) ?_;refine Z_9 ?_;refine dJ (bZ rfl rfl Zrf Zrf rfl rfl) rfl ?_;rintro _ _ ⟨b56,rfl,rfl⟩;refine ZcL (dY K X (R.wd l)) (fun w hi hin=>gN K X (R.wd l) _ 3 3 [x,y,x] (show l.length+3≤1000000 by omega) w hin (fun w' hk=>hi.I2 Zi Zh hk)) ?_;rintro _ _ ⟨_,⟨A',c',rfl,rfl⟩,rfl⟩;refine Z_9 ?_;refine Zrb ([row _ _ _,slv _ _ _ _ _ _,slv _ _ _ _ _ _]) ?_;rw[hst];exact⟨⟨_,_,_,_⟩,rfl,rfl⟩
 refine Z_6 ?_;refine ZW ?_ ?_<;>intro hc18
 ·obtain rfl:=jS hc18;obtain⟨R,l,x,rfl⟩:=Run.snoc (show 1≤R.s.d.length from hn);have hst:=mN n R l x;have hrr:R.s.r.length≤100000:=hr;have hrr2:(R.wd l).s.r.length≤100000:=hr;refine bX ⟨fun j=>List.elem j [7,9,13],[]⟩ Zk ?_;refine ZE 0 ?_;refine ZE 1 ?_;refine ZE 2 ?_;refine ZFe 3 0 ?_;refine ZFe 4 2 ?_;refine ZE 6 ?_;refine jY 5 7 Zk ?_ ?_
  ·refine eK rfl (bO Zrf Zv0) (bS Zh rfl) rfl ?_;refine cw 7 Zk ?_;refine ZcA (dY K X (R.wd (l++[x]))) (fun w hi hin=>gX K X R l x w hin) ?_;rintro _ _ ⟨_,⟨rfl,rfl⟩,rfl⟩;refine cw 8 Zk ?_;refine gn rfl rfl (bZ rfl rfl Zrf Zrf rfl rfl) ZJ rfl ?_;rintro _ _ ⟨b68,rfl,rfl⟩;refine cw 9 Zk ?_;refine gn rfl rfl (cW (e:=22) (sz:=1) (bytes:=4) rfl rfl Za rfl rfl (fun w hi=>hi.rd (show Has _ (slv 22 1 (some ⟨b68,0,none⟩) 1 1 (ints .u32 [x]))from Zh)) cY (by simp only[maxLen];omega) (by omega)) ZJ rfl ?_;rintro _ _ ⟨A',c',rfl,rfl⟩;refine ZE 10 ?_;refine ZFe 11 0 ?_;refine ZFe 12 2 ?_;refine cw 13 Zk ?_;refine ZQ ?_;refine bN Zk ?_;refine Z_8 ?_;refine Zrb ([row _ _ _,slv _ _ _ _ _ _,slv _ _ _ _ _ _]) ?_;rw[hst];refine⟨⟨X.Ad,X.cd,A',c'⟩,rfl,?_⟩;show _=dY K ⟨X.Ad,X.cd,A',c'⟩ ((R.wd l).wr (R.s.r++[x]));simp only[dY,qJ,slD,slR,ae,cH,ai,ak,bl]
  refine ZcA (dY K X (R.wd (l++[x]))) (fun w hi hin=>gX K X R l x w hin) ?_;rintro _ _ ⟨_,⟨rfl,rfl⟩,rfl⟩;refine ZG 5 ?_;refine cw 8 Zk ?_;refine gn rfl rfl (bZ rfl rfl Zrf Zrf rfl rfl) ZJ rfl ?_;rintro _ _ ⟨b68,rfl,rfl⟩;refine cw 9 Zk ?_;refine gn rfl rfl (cW (e:=22) (sz:=1) (bytes:=4) rfl rfl Za rfl rfl (fun w hi=>hi.rd (show Has _ (slv 22 1 (some ⟨b68,0,none⟩) 1 1 (ints .u32 [x]))from Zh)) cY (by simp only[maxLen];omega) (by omega)) ZJ rfl ?_;rintro _ _ ⟨A',c',rfl,rfl⟩;refine ZE 10 ?_;refine ZFe 11 0 ?_;refine ZFe 12 2 ?_;refine cw 13 Zk ?_;refine ZQ ?_;refine bN Zk ?_;refine Z_8 ?_;refine Zrb ([row _ _ _,slv _ _ _ _ _ _,slv _ _ _ _ _ _]) ?_;rw[hst];refine⟨⟨X.Ad,X.cd,A',c'⟩,rfl,?_⟩;show _=dY K ⟨X.Ad,X.cd,A',c'⟩ ((R.wd l).wr (R.s.r++[x]));simp only[dY,qJ,slD,slR,ae,cH,ai,ak,bl]
 refine Z_6 ?_;refine ZW ?_ ?_<;>intro hc20
 ·obtain rfl:=jS hc20;obtain⟨R,l,x,rfl⟩:=Run.snocR (show 1≤R.s.r.length from hnr);have hst:=kM n R l x;have hdd:R.s.d.length≤100000:=hd;refine Z_3 ?_;refine ZcM (dY K X (R.wr (l++[x]))) (fun w hi hin=>Cj K X R l x w hin) ?_;refine dJ (bZ rfl rfl Zrf Zrf rfl rfl) rfl ?_;rintro _ _ ⟨b78,rfl,rfl⟩;refine ZcL (dY K X (R.wr l)) (fun w hi hin=>gN K X (R.wr l) _ 1 1 [x] (show R.s.d.length+1≤1000000 by omega) w hin (fun w' hk=>hi.I2 Zi Zh hk)) ?_;rintro _ _ ⟨_,⟨A',c',rfl,rfl⟩,rfl⟩;refine Z_9 ?_;refine Zrb ([row _ _ _,slv _ _ _ _ _ _,slv _ _ _ _ _ _]) ?_;rw[hst];exact⟨⟨_,_,_,_⟩,rfl,rfl⟩
 have hst:=pC n R hc3 hc4 hc5 hc7 hc10 hc12 hc15 hc18 hc20;refine Z_8 ?_;refine Zrb ([row _ _ _,slv _ _ _ _ _ _,slv _ _ _ _ _ _]) ?_;rw[hst];exact⟨⟨_,_,_,_⟩,rfl,rfl⟩
end Go.Proofs.YtakodpimdalajaaGreatDoor
namespace Go.Ink
open Go.RowKit
def jg(R:Run)(n:Int):Int:=IntKind.u32.wrap (R.s.pc+kH n)
def cL(op n:Int)(R:Run):Bool×Run:=
 bif decide (16≤op)&&decide (op≤25)then
  (true,bif op !=25 then((bif(ij op R.pop.top R.top).2.2 then R.pop.pop else R.pop.pop.wt ⟨5,0⟩).wfl (ij op R.pop.top R.top).2.1).push [(ij op R.pop.top R.top).1]else(bif(ij op R.pop.top R.top).2.2 then R.pop.pop else R.pop.pop.wt ⟨5,0⟩).wfl (ij op R.pop.top R.top).2.1)
 else bif op==38 then(true,(R.Jl R.s.pc).wpc (jg R n))else bif op==32 then(true,R.wpc (jg R n))else bif op==39 then(true,R.IJ.wpc R.topR)else bif op==40 then(true,R.pop.wpc R.top)else
 ((dc op R.s.flags).2,bif(dc op R.s.flags).1 then R.wpc (jg R n)else R)
theorem yL{op:Int}(h:(decide (16≤op)&&decide (op≤25))=true):(bQ op).1.1=2:=by
 simp only[az,ap]at h;obtain rfl|rfl|rfl|rfl|rfl|rfl|rfl|rfl|rfl|rfl:op=16∨op=17∨op=18∨op=19∨op=20∨op=21∨op=22∨op=23∨op=24∨op=25:=by omega
 all_goals rfl
end Go.Ink
namespace Go.Proofs.YtakodpimdalajaaGreatDoor
open Go.RowKit Go.Ink Go.Proofs.Tryz
attribute [local irreducible] OpY bU
theorem Cf(K:Bj)(X:hI)(R:Run)(op n:Int)(hw:∀x,x∈R.s.d→u32 x)(hd:R.s.d.length≤100000)(hr:R.s.r.length≤100000)(hn:(bQ op).1.1≤R.s.d.length)(hnr:(bQ op).2.1≤R.s.r.length)(w:World)(hi:Inv w (bK (dY K X R)) (dY K X R) w):
  Ctr prog 142 [.pointer (some ⟨K.br,0,none⟩),.agg #[.int .i64 op,.int .u32 n]] w (dY K X R) (fun v cs=>∃X',v= .bool (cL op n R).1∧cs=dY K X' (cL op n R).2):=by
 have HS:=xt n;have HA:=ado_ok op;have HH:=Gh op R.s.flags;obtain⟨th,hth⟩:=Zgn (jg R n);have hth':=hth;unfold jg at hth';obtain⟨sg,hsg⟩:=Zgn (kH n);rw[hsg]at HS hth';refine bL func142 rfl ntmps142 rfl hi ?_;refine Z_2 ?_;refine ZO fun b3=>?_;refine Z_4 ?_;refine bX ⟨fun j=>List.elem j [],[]⟩ Zk ?_;refine ZE 0 ?_;refine ZE 1 ?_;refine ZFe 2 0 ?_;refine ZFe 3 0 ?_;refine ZG 4 ?_;refine ZFe 5 1 ?_;refine ZG 6 ?_;refine cw 7 Zk ?_;refine ZT (fun w hi=>HS w) ?_;rintro _ _ ⟨_,⟨rfl,rfl⟩,rfl⟩;refine cN 8 rfl Zk Zk Zk (cy Zv0 Zv0 hth') rfl ?_;refine ZE 9 ?_;refine bN Zk ?_;refine mL ?_;refine Z_1 ?_;refine ZW ?_ ?_<;>intro hc7
 ·rw[yL hc7]at hn;obtain⟨R,l,x,y,rfl⟩:=Run.IW hn;have hll:l.length+2≤100000:=(by have:((l++[x])++[y]).length≤100000:=hd;simp only[ae,ai,ak]at this;omega);have HA:=HA x y (hw y (by simp)).1;obtain⟨⟨v,fl,ok⟩,hq⟩:=Zgn (ij op x y);rw[hq]at HA;have hst:cL op n (R.wd ((l++[x])++[y]))=(true,bif op !=25 then((bif ok then R.wd l else(R.wd l).wt ⟨5,0⟩).wfl fl).push [v]else(bif ok then R.wd l else(R.wd l).wt ⟨5,0⟩).wfl fl):=(by simp only[cL,hc7,ac,Run.top_wd,Run.pop_wd,hq]);refine Z_3 ?_;refine ZcM (dY K X (R.wd ((l++[x])++[y]))) (fun w hi hin=>gX K X R (l++[x]) y w hin) ?_;refine ZA ?_;refine ZcM (dY K X (R.wd (l++[x]))) (fun w hi hin=>gX K X R l x w hin) ?_;refine Z_9 ?_;refine ZSe (fun w hi=>HA w) ?_;refine qn ?_;refine ZW ?_ ?_<;>intro hc10
  ·obtain rfl:ok=false:=(by simpa using hc10);have hR:∃Q,Q=(R.wd l).wt ⟨5,0⟩:=⟨_,rfl⟩;refine Z_2 ?_;refine ZcM (dY K X (R.wd l)) (fun w hi hin=>mY K X (R.wd l) 5 0 w hin) ?_;refine Z_9 ?_;refine ZL ?_;refine Z_8 ?_;refine ZW ?_ ?_<;>intro hc13
   ·simp only[hc13,ac,aa]at hst;refine Z_3 ?_;refine dJ (bZ rfl rfl Zrf Zrf rfl rfl) rfl ?_;rintro _ _ ⟨b74,rfl,rfl⟩;refine ZcL (dY K X (((R.wd l).wt ⟨5,0⟩).wfl fl)) (fun w hi hin=>gN K X (((R.wd l).wt ⟨5,0⟩).wfl fl) _ 1 1 [v] (show l.length+1≤1000000 by omega) w hin (fun w' hk=>hi.I2 Zi Zh hk)) ?_;rintro _ _ ⟨_,⟨A',c',rfl,rfl⟩,rfl⟩;refine Z_9 ?_;refine Zrb ([row _ _ _,slv _ _ _ _ _ _,slv _ _ _ _ _ _]) ?_;rw[hst];exact⟨⟨_,_,_,_⟩,rfl,rfl⟩
   simp only[hc13,ac,aa]at hst;refine Z_9 ?_;refine Zrb ([row _ _ _,slv _ _ _ _ _ _,slv _ _ _ _ _ _]) ?_;rw[hst];exact⟨⟨_,_,_,_⟩,rfl,rfl⟩
  obtain rfl:ok=true:=(by simpa using hc10);refine Z_9 ?_;refine ZL ?_;refine Z_8 ?_;refine ZW ?_ ?_<;>intro hc13
  ·simp only[hc13,ac,aa]at hst;refine Z_3 ?_;refine dJ (bZ rfl rfl Zrf Zrf rfl rfl) rfl ?_;rintro _ _ ⟨b74,rfl,rfl⟩;refine ZcL (dY K X ((R.wd l).wfl fl)) (fun w hi hin=>gN K X ((R.wd l).wfl fl) _ 1 1 [v] (show l.length+1≤1000000 by omega) w hin (fun w' hk=>hi.I2 Zi Zh hk)) ?_;rintro _ _ ⟨_,⟨A',c',rfl,rfl⟩,rfl⟩;refine Z_9 ?_;refine Zrb ([row _ _ _,slv _ _ _ _ _ _,slv _ _ _ _ _ _]) ?_;rw[hst];exact⟨⟨_,_,_,_⟩,rfl,rfl⟩
  simp only[hc13,ac,aa]at hst;refine Z_9 ?_;refine Zrb ([row _ _ _,slv _ _ _ _ _ _,slv _ _ _ _ _ _]) ?_;rw[hst];exact⟨⟨_,_,_,_⟩,rfl,rfl⟩
 refine Z_7 ?_;refine ZW ?_ ?_<;>intro hc15
 ·have hst:cL op n R=(true,(R.Jl R.s.pc).wpc th):=(by simp only[cL, *,ac,aa]);refine Zs (bX ⟨fun j=>List.elem j [12,16],[]⟩ Zk ?_);refine ZE 0 ?_;refine ZE 1 ?_;refine ZE 2 ?_;refine ZFe 3 0 ?_;refine ZFe 4 2 ?_;refine ZG 5 ?_;refine ZE 6 ?_;refine ZE 7 ?_;refine ZFe 8 0 ?_;refine ZFe 9 0 ?_;refine cw 10 Zk ?_;refine eK rfl (bO Zrf Zv0) (bS Zh rfl) rfl ?_;refine cw 11 Zk ?_;refine gn rfl rfl (bZ rfl rfl Zrf Zrf rfl rfl) ZJ rfl ?_;rintro _ _ ⟨b90,rfl,rfl⟩;refine cw 12 Zk ?_;refine gn rfl rfl (cW (e:=22) (sz:=1) (bytes:=4) rfl rfl Za rfl rfl (fun w hi=>hi.rd (show Has _ (slv 22 1 (some ⟨b90,0,none⟩) 1 1 (ints .u32 [R.s.pc]))from Zh)) cY (by simp only[maxLen];omega) (by omega)) ZJ rfl ?_;rintro _ _ ⟨A',c',rfl,rfl⟩;refine ZE 13 ?_;refine ZFe 14 0 ?_;refine ZFe 15 2 ?_;refine cw 16 Zk ?_;refine ZQ ?_;refine bN Zk ?_;refine Z_7 ?_;refine ZL ?_;refine Z_9 ?_;refine Zrb ([row _ _ _,slv _ _ _ _ _ _,slv _ _ _ _ _ _]) ?_;rw[hst];refine⟨⟨X.Ad,X.cd,A',c'⟩,rfl,?_⟩;simp only[dY,qJ,slD,slR,Run.Jl,ae,cH,ai,ak,bl]
 refine Z_7 ?_;refine ZW ?_ ?_<;>intro hc18
 ·have hst:cL op n R=(true,R.wpc th):=(by simp only[cL, *,ac,aa]);refine Z_6 ?_;refine ZL ?_;refine Z_9 ?_;refine Zrb ([row _ _ _,slv _ _ _ _ _ _,slv _ _ _ _ _ _]) ?_;rw[hst];exact⟨⟨_,_,_,_⟩,rfl,rfl⟩
 refine Z_7 ?_;refine ZW ?_ ?_<;>intro hc20
 ·obtain rfl:=jS hc20;obtain⟨R,l,x,rfl⟩:=Run.snocR (show 1≤R.s.r.length from hnr);have hst:cL 39 n (R.wr (l++[x]))=(true,(R.wr l).wpc x):=(by show(_,_)=_;rw[Run.popR_wr,Run.topR_wr]);refine Z_3 ?_;refine ZcM (dY K X (R.wr (l++[x]))) (fun w hi hin=>Cj K X R l x w hin) ?_;refine Z_3 ?_;refine ZL ?_;refine Z_9 ?_;refine Zrb ([row _ _ _,slv _ _ _ _ _ _,slv _ _ _ _ _ _]) ?_;rw[hst];exact⟨⟨_,_,_,_⟩,rfl,rfl⟩
 refine Z_7 ?_;refine ZW ?_ ?_<;>intro hc22
 ·obtain rfl:=jS hc22;obtain⟨R,l,x,rfl⟩:=Run.snoc (show 1≤R.s.d.length from hn);have hst:cL 40 n (R.wd (l++[x]))=(true,(R.wd l).wpc x):=(by show(_,_)=_;rw[Run.pop_wd,Run.top_wd]);refine Z_3 ?_;refine ZcM (dY K X (R.wd (l++[x]))) (fun w hi hin=>gX K X R l x w hin) ?_;refine Z_3 ?_;refine ZL ?_;refine Z_9 ?_;refine Zrb ([row _ _ _,slv _ _ _ _ _ _,slv _ _ _ _ _ _]) ?_;rw[hst];exact⟨⟨_,_,_,_⟩,rfl,rfl⟩
 have hst:cL op n R=((dc op R.s.flags).2,bif(dc op R.s.flags).1 then R.wpc th else R):=(by simp only[cL, *,ac,aa]);obtain⟨⟨g,o⟩,hq⟩:=Zgn (dc op R.s.flags);rw[hq]at hst HH;refine Z_8 ?_;refine ZSe (fun w hi=>HH w) ?_;refine jT ?_;refine ZW ?_ ?_<;>intro hc4
 ·obtain rfl:g=true:=hc4;refine Z_6 ?_;refine ZL ?_;refine eu ?_;refine Zrb ([row _ _ _,slv _ _ _ _ _ _,slv _ _ _ _ _ _]) ?_;rw[hst];exact⟨⟨_,_,_,_⟩,rfl,rfl⟩
 obtain rfl:g=false:=hc4;refine eu ?_;refine Zrb ([row _ _ _,slv _ _ _ _ _ _,slv _ _ _ _ _ _]) ?_;rw[hst];exact⟨⟨_,_,_,_⟩,rfl,rfl⟩
end Go.Proofs.YtakodpimdalajaaGreatDoor
namespace Go.Ink
open Go.RowKit
theorem bM{α:Type}(p:α→Prop){c:Bool}{x y:α}(hx:p x)(hy:p y):p (bif c then x else y):=by cases c<;>assumption
def Eu(q:(Nat×Nat)×(Nat×Nat)):Prop:=q.1.1≤3∧q.1.2≤3∧q.2.1≤3∧q.2.2≤3
theorem FI(op:Int):Eu (bQ op):=by
 unfold bQ
 repeat (refine bM Eu ⟨by decide,by decide,by decide,by decide⟩ ?_)
 exact⟨by decide,by decide,by decide,by decide⟩
def jl(s:St)(q:(Nat×Nat)×(Nat×Nat)):Int:=
 bif decide ((s.d.length:Int)<(q.1.1:Int))||decide ((s.r.length:Int)<(q.2.1:Int))then 3 else
 bif decide (16<(s.d.length:Int) - (q.1.1:Int)+(q.1.2:Int))||decide (16<(s.r.length:Int) - (q.2.1:Int)+(q.2.2:Int))then 4 else 0
def eO(s:St)(op n:Int):Int:=
 bif !gb op n then 1 else bif mU op&& !s.If then 2 else bif op==66&& !(s.get n).2 then 1 else bif op==67&& !(s.set n 0).2 then 1 else jl s (bQ op)
end Go.Ink
namespace Go.Proofs.YtakodpimdalajaaGreatDoor
open Go.RowKit Go.Ink Go.Proofs.Tryz
attribute [local irreducible] OpY bU
theorem GM(s:St)(Ad Ar:Option Addr)(cd cr:Nat)(op n:Int)(hu:u32 n)(w:World)(h:px w s Ad Ar cd cr):
  Ctr prog 139 [sv s Ad cd Ar cr,.agg #[.int .i64 op,.int .u32 n]] w [] (fun v cs=>v= .int .i64 (eO s op n)∧cs=[]):=by
 have hu1:=hu.1;have hu2:=hu.2;have hD:=h.hd;have hR:=h.hr;have HR:=wv op n;have HS:=Dw op;have HN:=FH op;have HG:=Hw s (.slice Ad s.d.length cd) (.slice Ar s.r.length cr) n;have HE:=Hf s Ad Ar cd cr n 0;obtain⟨q1,hq1⟩:=Zgn (gb op n);obtain⟨q2,hq2⟩:=Zgn (mU op);obtain⟨⟨g0,g⟩,hq3⟩:=Zgn (s.get n);obtain⟨⟨e0,e⟩,hq4⟩:=Zgn (s.set n 0);have hle:=FI op;unfold eO;rw[hq1]at HR⊢;rw[hq2]at HS⊢;rw[hq3]at HG⊢;rw[hq4]at HE⊢;obtain⟨⟨⟨a,b⟩,⟨c,d⟩⟩,hq5⟩:=Zgn (bQ op);rw[hq5]at HN hle⊢;obtain⟨ha,hb,hc,hd⟩:=hle;have ha:a≤3:=ha;have hb:b≤3:=hb;have hc:c≤3:=hc;have hd:d≤3:=hd;refine bL func139 rfl ntmps139 rfl (Inv.start w) ?_;refine Z_2 ?_;refine ZO fun b2=>?_;refine ZO fun b3=>?_
 refine Z_8 ?_;refine ZSe (fun w hi=>HR w) ?_;refine Z_4 ?_;refine ZW ?_ ?_<;>intro hc1
 ·refine Z_8 ?_;refine Zra ?_;refine⟨?_,rfl⟩;simp only[jl, *,ac,aa]
 refine Z_4 ?_;refine ZSe (fun w hi=>HS w) ?_;refine Z_8 ?_;refine ZW ?_ ?_<;>intro hc3
 ·refine Z_8 ?_;refine Zra ?_;refine⟨?_,rfl⟩;simp only[jl, *,ac,aa]
 refine Z_9 ?_;refine Zy (ce rfl rfl Zv0 Zl) ?_;refine ZSe (fun w hi=>HG w) ?_;refine w8 ?_;refine ZW ?_ ?_<;>intro hc6
 ·refine Z_7 ?_;refine Zra ?_;refine⟨?_,rfl⟩;simp only[jl, *,ac,aa]
 refine Z_8 ?_;refine Zy (ce rfl rfl Zv0 Zl) ?_;refine ZS (fun w hi=>HE w (h.Iy hi)) ?_;rintro _ _ ⟨_,⟨A1,c1,A2,c2,rfl,rfl⟩,rfl⟩;refine Z_3 ?_;refine ZN fun b7=>?_
 refine ZM ?_;refine iG ?_;refine ZW ?_ ?_<;>intro hc9
 ·refine Z_7 ?_;refine Zra ?_;refine⟨?_,rfl⟩;simp only[jl, *,ac,aa]
 refine Z_6 ?_;refine ZSe (fun w hi=>HN w) ?_;refine mL ?_;refine eJ ?_;refine ZW ?_ ?_<;>intro hc12
 ·refine Z_8 ?_;refine Zra ?_;refine⟨?_,rfl⟩;simp only[jl, *,ac,aa]
 refine Z_6 ?_;refine Zy (eT Zv0 Zv0 Zl) ?_;refine ZA ?_;refine Zy (cy Zv0 Zv0 Zl) ?_;refine Z_6 ?_;refine Zyn rfl rfl (eT (dQ rfl) (dQ rfl) Zl) ?_;refine ZB ?_;refine Zyn rfl rfl (cy (dQ rfl) (dQ rfl) Zl) ?_;refine Z_5 ?_;refine ZW ?_ ?_<;>intro hc14
 ·refine Z_8 ?_;refine Zra ?_;refine⟨?_,rfl⟩;simp only[jl, *,ac,aa]
 refine Z_9 ?_;refine Zra ?_;refine⟨?_,rfl⟩;simp only[jl, *,ac,aa]
end Go.Proofs.YtakodpimdalajaaGreatDoor
namespace Go.Ink
open Go.RowKit
def Run.sp(R:Run):Sp:=⟨R.s.Il,R.s.If,R.s.root.toNat⟩
abbrev Run.wdv(R:Run)(t:Tr)(b:Bool):Run:=⟨R.s,R.count,t,b⟩
structure x9 where
 p:Int
 ok:Bool
 r:Run
 u:Mmu
def cM(n:Nat)(R:Run)(U:Mmu)(va:Nat)(kind:Int):x9:=
 bif((va%4:Nat):Int) !=0 then⟨0,false,R.wt ⟨6,va⟩,U⟩else
 ⟨(cR n U R.sp va kind).1.1,(cR n U R.sp va kind).1.2.Ie==0,R.wdv (cR n U R.sp va kind).1.2 ((cR n U R.sp va kind).1.2.Ie==0&&decide (32768≤(cR n U R.sp va kind).1.1)),(cR n U R.sp va kind).2⟩
end Go.Ink
namespace Go.Proofs.YtakodpimdalajaaGreatDoor
open Go.RowKit Go.Ink Go.Proofs.Tryz
attribute [local irreducible] OpY bU
theorem qE(K:Bj)(X:hI)(R:Run)(hr:0≤R.s.root)(w:World)(h:(qJ K X R).ok w):
  Ctr prog 250 [.pointer (some ⟨K.br,0,none⟩)] w [] (fun v cs=>v=R.sp.v∧cs=[]):=
 (E7 K X R w h).mono fun v cs ⟨h1,h2⟩=>⟨by rw[h1,Run.sp,Sp.v,Int.toNat_of_nonneg hr],h2⟩
abbrev ix(K:Bj)(X:hI)(R:Run):List Value:=[.int .u32 R.s.pc,.slice X.Ad R.s.d.length X.cd,.slice X.Ar R.s.r.length X.cr,.int .u32 R.s.flags,.bool R.s.If,.bool R.s.Il,.bool R.s.ie,.int .u32 R.s.root,.int .u32 R.s.vec,.int .u32 R.s.epc,.int .u32 R.s.Ie,.int .u32 R.s.addr,.bool R.s.Ip,.bool R.s.eie,.int .u64 R.s.count,.bool R.s.halted,.int .u64 R.count,.pointer K.u,.pointer K.b,.int .i64 R.Io.Ie,.int .u32 R.Io.addr,.bool R.device]
abbrev kOf(br bu:Nat)(D:rZ):Bj:=⟨br,some ⟨bu,0,none⟩,some ⟨D.bs,0,none⟩⟩
theorem yk(br bu bb:Nat)(L:gR)(D:rZ)(X:hI)(R:Run)(U:Mmu)(hT:U.t.length=16)(hroot:u32 R.s.root)(va:Nat)(hva:va≤4294967295)(kind:Int)(w:World)(hi:Inv w (bK (dY (kOf br bu D) X R++uF bu bb L U)) (dY (kOf br bu D) X R++uF bu bb L U) w):
  Ctr prog 245 [.pointer (some ⟨br,0,none⟩),.int .u32 va,.int .i64 kind] w (dY (kOf br bu D) X R++uF bu bb L U)
   (fun v cs=>v= .tuple #[.int .u32 (cM L.n R U va kind).p,.bool (cM L.n R U va kind).ok]∧cs=dY (kOf br bu D) X (cM L.n R U va kind).r++uF bu bb L (cM L.n R U va kind).u):=by
 have hr0:=hroot.1;have hr1:=hroot.2;have hsr:R.sp.root≤4294967295:=by show R.s.root.toNat≤_;omega
 have HP:=nw bu bb L U hT R.sp hsr va hva kind;have HS:=qE (kOf br bu D) X R hr0;unfold cM;obtain⟨⟨⟨p,ca,ad⟩,U'⟩,hq⟩:=Zgn (cR L.n U R.sp va kind);rw[hq]at HP⊢;obtain⟨S,hS⟩:=Zgn (R.sp);rw[hS]at HP HS;refine bL func245 rfl ntmps245 rfl hi ?_;refine eu ?_;refine Zy (kp (Zv rfl) (Zv rfl) (by omega) (show _=((va%4:Nat):Int)from by rw[aW (by omega)];omega)) ?_;refine Z_4 ?_;refine ZW ?_ ?_<;>intro hc1
 ·refine Z_4 ?_;refine ZcM (dY (kOf br bu D) X R) (fun w hi hin=>mY (kOf br bu D) X R 6 va w hin) ?_;refine eu ?_;refine bP (dY (kOf br bu D) X (R.wt ⟨6,va⟩)++uF bu bb L U) Zj ?_;refine ft (cs':=[row _ _ _,slv _ _ _ _ _ _,slv _ _ _ _ _ _,row _ _ _,exC _ _ _ _,row _ _ _]) (.inl rfl) Zu rfl rfl rfl ?_;rw[hc1];exact⟨rfl,rfl⟩
 refine vg ?_;refine ZW ?_ ?_<;>intro hc4
 ·exact absurd hc4 (by simp)
 refine Z_4 ?_;refine bX ⟨fun j=>List.elem j [8,14],[]⟩ Zk ?_;refine ZE 0 ?_;refine ZE 1 ?_;refine ZFe 2 17 ?_;refine ZG 3 ?_;refine ZE 4 ?_;refine ZE 6 ?_;refine ZE 7 ?_;refine jY 5 12 Zk ?_ ?_
 ·refine ZT (fun w hi=>HS w (hi.get Zh)) ?_;rintro _ _ ⟨_,⟨rfl,rfl⟩,rfl⟩;refine jY 8 12 Zk ?_ ?_
  ·refine ZcA (uF bu bb L U) (fun w hi hin=>HP w hin) ?_;rintro _ _ ⟨_,⟨rfl,rfl⟩,rfl⟩;refine ZE 9 ?_;refine ZE 10 ?_;refine ZE 11 ?_;refine cw 12 Zk ?_;refine ZP fun b9=>?_
   refine ZE 13 ?_;refine cw 14 Zk ?_;refine ZR ?_;refine bN Zk ?_;refine Z_7 ?_;refine dy (fv (ys:=ix (kOf br bu D) X (R.wt ⟨ca,ad⟩)) (n:=2) (vs:=[.int .i64 ca,.int .u32 ad]) rfl Zrf rfl rfl (iE rfl) Za rfl (by simp only[ai,ak];omega)) ?_;rintro _ _ ⟨rfl,rfl⟩;refine iG ?_;refine ZL ?_;refine Z_3 ?_;refine bX ⟨fun j=>List.elem j [],[]⟩ Zk ?_;refine ZE 0 ?_;refine ZFe 1 0 ?_;refine ZG 2 ?_;refine ZE 3 ?_;refine ZE 4 ?_;refine ZE 5 ?_;refine bN Zk ?_;refine Z_2 ?_;refine bP (dY (kOf br bu D) X (R.wdv ⟨ca,ad⟩ (ca==0&&decide (32768≤p)))++uF bu bb L U') Zj ?_;refine ft (cs':=[row _ _ _,slv _ _ _ _ _ _,slv _ _ _ _ _ _,row _ _ _,exC _ _ _ _,row _ _ _]) (.inl rfl) Zu rfl rfl rfl ?_;rw[hc1];exact⟨rfl,rfl⟩
  refine ZP fun b9=>?_
  refine cw 8 Zk ?_;refine ZcA (uF bu bb L U) (fun w hi hin=>HP w hin) ?_;rintro _ _ ⟨_,⟨rfl,rfl⟩,rfl⟩;refine ZE 9 ?_;refine ZE 10 ?_;refine ZE 11 ?_;refine ZE 13 ?_;refine cw 14 Zk ?_;refine ZR ?_;refine bN Zk ?_;refine Z_7 ?_;refine dy (fv (ys:=ix (kOf br bu D) X (R.wt ⟨ca,ad⟩)) (n:=2) (vs:=[.int .i64 ca,.int .u32 ad]) rfl Zrf rfl rfl (iE rfl) Za rfl (by simp only[ai,ak];omega)) ?_;rintro _ _ ⟨rfl,rfl⟩;refine iG ?_;refine ZL ?_;refine Z_3 ?_;refine bX ⟨fun j=>List.elem j [],[]⟩ Zk ?_;refine ZE 0 ?_;refine ZFe 1 0 ?_;refine ZG 2 ?_;refine ZE 3 ?_;refine ZE 4 ?_;refine ZE 5 ?_;refine bN Zk ?_;refine Z_2 ?_;refine bP (dY (kOf br bu D) X (R.wdv ⟨ca,ad⟩ (ca==0&&decide (32768≤p)))++uF bu bb L U') Zj ?_;refine ft (cs':=[row _ _ _,slv _ _ _ _ _ _,slv _ _ _ _ _ _,row _ _ _,exC _ _ _ _,row _ _ _]) (.inl rfl) Zu rfl rfl rfl ?_;rw[hc1];exact⟨rfl,rfl⟩
 refine ZP fun b9=>?_
 refine cw 5 Zk ?_;refine ZT (fun w hi=>HS w (hi.get Zh)) ?_;rintro _ _ ⟨_,⟨rfl,rfl⟩,rfl⟩;refine cw 8 Zk ?_;refine ZcA (uF bu bb L U) (fun w hi hin=>HP w hin) ?_;rintro _ _ ⟨_,⟨rfl,rfl⟩,rfl⟩;refine ZE 9 ?_;refine ZE 10 ?_;refine ZE 11 ?_;refine ZE 13 ?_;refine cw 14 Zk ?_;refine ZR ?_;refine bN Zk ?_;refine Z_7 ?_;refine dy (fv (ys:=ix (kOf br bu D) X (R.wt ⟨ca,ad⟩)) (n:=2) (vs:=[.int .i64 ca,.int .u32 ad]) rfl Zrf rfl rfl (iE rfl) Za rfl (by simp only[ai,ak];omega)) ?_;rintro _ _ ⟨rfl,rfl⟩;refine iG ?_;refine ZL ?_;refine Z_3 ?_;refine bX ⟨fun j=>List.elem j [],[]⟩ Zk ?_;refine ZE 0 ?_;refine ZFe 1 0 ?_;refine ZG 2 ?_;refine ZE 3 ?_;refine ZE 4 ?_;refine ZE 5 ?_;refine bN Zk ?_;refine Z_2 ?_;refine bP (dY (kOf br bu D) X (R.wdv ⟨ca,ad⟩ (ca==0&&decide (32768≤p)))++uF bu bb L U') Zj ?_;refine ft (cs':=[row _ _ _,slv _ _ _ _ _ _,slv _ _ _ _ _ _,row _ _ _,exC _ _ _ _,row _ _ _]) (.inl rfl) Zu rfl rfl rfl ?_;rw[hc1];exact⟨rfl,rfl⟩
end Go.Proofs.YtakodpimdalajaaGreatDoor
namespace Go.Ink
open Go.RowKit
theorem qu(n:Nat)(R:Run)(U:Mmu)(va:Nat)(kind:Int):(cM n R U va kind).r.s=R.s:=by unfold cM;exact bM (fun W:x9=>W.r.s=R.s) rfl rfl
theorem vl(n:Nat)(R:Run)(U:Mmu)(va:Nat)(hva:va≤4294967295)(kind:Int):u32 (cM n R U va kind).p:=by unfold cM;exact bM (fun W:x9=>u32 W.p) (show u32 0 from⟨by decide,by decide⟩) (i9 n U R.sp va hva kind).1
theorem zE(n:Nat)(hn:n≤64)(R:Run)(U:Mmu)(va:Nat)(hva:va≤4294967295)(kind:Int)(hk:(cM n R U va kind).ok=true)(hd:(cM n R U va kind).r.device=false):(cM n R U va kind).p.toNat+4≤n*64:=by
 obtain⟨hu,hp⟩:=i9 n U R.sp va hva kind;unfold cM at hk hd⊢;cases hm:(((va%4:Nat):Int) !=0)with
 |true=>rw[hm]at hk;cases hk
 |false=>
  rw[hm]at hk hd;simp only[aa]at hk hd⊢;rw[hk]at hd;simp only[Bool.true_and,aj]at hd;have hc:=hp (by simpa using hk);have h4:va%4=0:=by
   have:((va%4:Nat):Int)=0:=by simpa using hm
   omega
  have h1:=hc.m;have h2:=hu.1;rcases hc.r with h3|h3
  ·omega
  simp only[pQ,az,ap]at h3;omega
theorem rQ{α:Type}{c:Bool}{x y:α}(h:c=true):(bif c then x else y)=x:=by rw[h];rfl
theorem kF{α:Type}{c:Bool}{x y:α}(h:c=false):(bif c then x else y)=y:=by rw[h];rfl
def qr(n:Nat)(M:Mem)(a:Nat):Int×Bool:=bif decide (a+4≤n*64)then(qs M.data a,true)else(0,false)
structure ik where
 r:Run
 u:Mmu
 d:Dev
def pG(W:x9)(d:Dev)(va:Nat)(v:Int)(o:Bool):ik:=⟨(bif !o then W.r.wt ⟨10,va⟩else W.r).push [v],W.u,d⟩
def k9(n:Nat)(R:Run)(U:Mmu)(d:Dev)(va:Nat):ik:=
 bif !(cM n R U va 2).ok then⟨(cM n R U va 2).r,(cM n R U va 2).u,d⟩else
 bif(cM n R U va 2).r.device then pG (cM n R U va 2) (du d (ss (cM n R U va 2).p.toNat) (cM n R U va 2).r.count).2 va (du d (ss (cM n R U va 2).p.toNat) (cM n R U va 2).r.count).1.1 (du d (ss (cM n R U va 2).p.toNat) (cM n R U va 2).r.count).1.2
 else pG (cM n R U va 2) d va (qr n (cM n R U va 2).u.m (cM n R U va 2).p.toNat).1 (qr n (cM n R U va 2).u.m (cM n R U va 2).p.toNat).2
def k8(n:Nat)(R:Run)(U:Mmu)(d:Dev)(va v:Nat):ik:=
 bif !(cM n R U va 3).ok then⟨(cM n R U va 3).r,(cM n R U va 3).u,d⟩else
 bif(cM n R U va 3).r.device then
  ⟨bif !(cU n (cM n R U va 3).u.m d (ss (cM n R U va 3).p.toNat) v).1 then(cM n R U va 3).r.wt ⟨10,va⟩else(cM n R U va 3).r,⟨(cU n (cM n R U va 3).u.m d (ss (cM n R U va 3).p.toNat) v).2.1,(cM n R U va 3).u.t⟩,(cU n (cM n R U va 3).u.m d (ss (cM n R U va 3).p.toNat) v).2.2⟩
 else⟨(cM n R U va 3).r,⟨(cM n R U va 3).u.m.IK (cM n R U va 3).p.toNat v,(cM n R U va 3).u.t⟩,d⟩
end Go.Ink
namespace Go.Proofs.YtakodpimdalajaaGreatDoor
open Go.RowKit Go.Ink Go.Proofs.Tryz
attribute [local irreducible] OpY bU
theorem EB(L:gR)(M:Mem)(a:Nat):xe L M a= .tuple #[.int .u32 (qr L.n M a).1,.bool (qr L.n M a).2]:=by
 unfold xe qr;cases decide (a+4≤L.n*64)<;>rfl
abbrev kJ(br bu bb:Nat)(L:gR)(D:rZ)(X:hI)(Y:jV)(m:ik):List bJ:=dY (kOf br bu D) X m.r++uF bu bb L m.u++m7 D L.bm Y m.d
theorem lode_ok(br bu bb:Nat)(L:gR)(D:rZ)(X:hI)(Y:jV)(R:Run)(U:Mmu)(d:Dev)(l:List Int)(va:Nat)(hva:va≤4294967295)(hl:l.length≤100000)(hT:U.t.length=16)(hroot:u32 R.s.root)(hd:d.wf)
  (w:World) (hi:Inv w (bK (kJ br bu bb L D X Y ⟨R.wd (l++[(va:Int)]),U,d⟩)) (kJ br bu bb L D X Y ⟨R.wd (l++[(va:Int)]),U,d⟩) w):
  Ctr prog 197 [.pointer (some ⟨br,0,none⟩)] w (kJ br bu bb L D X Y ⟨R.wd (l++[(va:Int)]),U,d⟩) (fun v cs=>∃X' Y',v= .tuple #[]∧cs=kJ br bu bb L D X' Y' (k9 L.n (R.wd l) U d va)):=by
 have HW:=fun X=>yk br bu bb L D X (R.wd l) U hT hroot va hva 2
 have hs:=qu L.n (R.wd l) U va 2;have hu:=vl L.n (R.wd l) U va hva 2;unfold k9;obtain⟨⟨p,ok,r,u⟩,hq⟩:=Zgn (cM L.n (R.wd l) U va 2);rw[hq]at HW hs hu⊢;obtain⟨pn,rfl⟩:∃pn:Nat,p=pn:=ar hu.1;have hpn:pn≤4294967295:=by have:(pn:Int)≤_:=hu.2;omega
 have hs:r.s=(R.wd l).s:=hs;have hdl:r.s.d.length≤100000:=by rw[hs];exact hl
 simp only[aQ];have HB:=fun X=>AZ D L.bm X d hd pn r.count
 obtain⟨⟨⟨v,o⟩,d'⟩,hq2⟩:=Zgn (du d (ss pn) r.count);rw[hq2]at HB⊢;have HM:=uc L u.m pn hpn;rw[EB]at HM;obtain⟨⟨v2,o2⟩,hq3⟩:=Zgn (qr L.n u.m pn);rw[hq3]at HM⊢;refine bL func197 rfl ntmps197 rfl hi ?_;refine Z_3 ?_;refine ZcM (dY (kOf br bu D) X (R.wd (l++[(va:Int)]))) (fun w hi hin=>gX (kOf br bu D) X R l va w hin) ?_;refine Z_7 ?_;refine ZcM (dY (kOf br bu D) X (R.wd l)++uF bu bb L U) (fun w hi hin=>HW X w hin) ?_;refine iG ?_;refine ZW ?_ ?_<;>intro hc2
 ·refine Z_2 ?_;refine bP (kJ br bu bb L D X Y ⟨r,u,d⟩) Zj ?_;refine fE (cs':=[row _ _ _,slv _ _ _ _ _ _,slv _ _ _ _ _ _,row _ _ _,exC _ _ _ _,row _ _ _,row _ _ _,row _ _ _,row _ _ _,row _ _ _,slv _ _ _ _ _ _,slv _ _ _ _ _ _,row _ _ _,slv _ _ _ _ _ _]) (.inl rfl) Zu rfl ?_;rw[hc2];exact⟨X,Y,rfl,rfl⟩
 refine qn ?_;refine ZW ?_ ?_<;>intro hc4
 ·refine bX ⟨fun j=>List.elem j [9],[]⟩ Zk ?_;refine ZE 0 ?_;refine ZE 1 ?_;refine ZFe 2 18 ?_;refine ZG 3 ?_;refine ZE 4 ?_;refine ZE 5 ?_;refine ZE 6 ?_;refine ZFe 7 16 ?_;refine ZG 8 ?_;refine cw 9 Zk ?_;refine ZcA (m7 D L.bm Y d) (fun w hi hin=>HB Y w hin) ?_;rintro _ _ ⟨_,⟨Y',rfl,rfl⟩,rfl⟩;refine ZE 10 ?_;refine ZE 11 ?_;refine ZE 12 ?_;refine ZE 13 ?_;refine ZE 14 ?_;refine bN Zk ?_;refine Z_8 ?_;refine ZW ?_ ?_<;>intro hc7
  ·refine Z_3 ?_;refine ZcM (dY (kOf br bu D) X r) (fun w hi hin=>mY (kOf br bu D) X r 10 va w hin) ?_;refine Z_5 ?_;refine dJ (bZ rfl rfl Zrf Zrf rfl rfl) rfl ?_;rintro _ _ ⟨b50,rfl,rfl⟩;refine ZcL (dY (kOf br bu D) X (r.wt ⟨10,va⟩)) (fun w hi hin=>gN (kOf br bu D) X (r.wt ⟨10,va⟩) _ 1 1 [v] (show r.s.d.length+1≤1000000 by omega) w hin (fun w' hk=>hi.I2 Zi Zh hk)) ?_;rintro _ _ ⟨_,⟨A',c',rfl,rfl⟩,rfl⟩;refine Zn (bP (kJ br bu bb L D ⟨A',c',X.Ar,X.cr⟩ Y' ⟨(r.wt ⟨10,va⟩).wd (r.s.d++[v]),u,d'⟩) Zj ?_);refine fE (cs':=[row _ _ _,slv _ _ _ _ _ _,slv _ _ _ _ _ _,row _ _ _,exC _ _ _ _,row _ _ _,row _ _ _,row _ _ _,row _ _ _,row _ _ _,slv _ _ _ _ _ _,slv _ _ _ _ _ _,row _ _ _,slv _ _ _ _ _ _]) (.inr rfl) Zu rfl ?_;rw[kF hc2,rQ hc4,pG,rQ hc7];exact⟨⟨A',c',X.Ar,X.cr⟩,Y',rfl,rfl⟩
  refine Z_5 ?_;refine dJ (bZ rfl rfl Zrf Zrf rfl rfl) rfl ?_;rintro _ _ ⟨b50,rfl,rfl⟩;refine ZcL (dY (kOf br bu D) X r) (fun w hi hin=>gN (kOf br bu D) X r _ 1 1 [v] (show r.s.d.length+1≤1000000 by omega) w hin (fun w' hk=>hi.I2 Zi Zh hk)) ?_;rintro _ _ ⟨_,⟨A',c',rfl,rfl⟩,rfl⟩;refine Zn (bP (kJ br bu bb L D ⟨A',c',X.Ar,X.cr⟩ Y' ⟨r.wd (r.s.d++[v]),u,d'⟩) Zj ?_);refine fE (cs':=[row _ _ _,slv _ _ _ _ _ _,slv _ _ _ _ _ _,row _ _ _,exC _ _ _ _,row _ _ _,row _ _ _,row _ _ _,row _ _ _,row _ _ _,slv _ _ _ _ _ _,slv _ _ _ _ _ _,row _ _ _,slv _ _ _ _ _ _]) (.inr rfl) Zu rfl ?_;rw[kF hc2,rQ hc4,pG,kF hc7];exact⟨⟨A',c',X.Ar,X.cr⟩,Y',rfl,rfl⟩
 refine Z_5 ?_;refine ZSe (fun w hi=>kL bu L.bm bb w (hi.get Zh)) ?_;refine ZA ?_;refine ZSe (fun w hi=>HM w (hi.get Zh)) ?_;refine iG ?_;refine ZW ?_ ?_<;>intro hc7
 ·refine Z_3 ?_;refine ZcM (dY (kOf br bu D) X r) (fun w hi hin=>mY (kOf br bu D) X r 10 va w hin) ?_;refine Z_5 ?_;refine dJ (bZ rfl rfl Zrf Zrf rfl rfl) rfl ?_;rintro _ _ ⟨b50,rfl,rfl⟩;refine ZcL (dY (kOf br bu D) X (r.wt ⟨10,va⟩)) (fun w hi hin=>gN (kOf br bu D) X (r.wt ⟨10,va⟩) _ 1 1 [v2] (show r.s.d.length+1≤1000000 by omega) w hin (fun w' hk=>hi.I2 Zi Zh hk)) ?_;rintro _ _ ⟨_,⟨A',c',rfl,rfl⟩,rfl⟩;refine Zn (bP (kJ br bu bb L D ⟨A',c',X.Ar,X.cr⟩ Y ⟨(r.wt ⟨10,va⟩).wd (r.s.d++[v2]),u,d⟩) Zj ?_);refine fE (cs':=[row _ _ _,slv _ _ _ _ _ _,slv _ _ _ _ _ _,row _ _ _,exC _ _ _ _,row _ _ _,row _ _ _,row _ _ _,row _ _ _,row _ _ _,slv _ _ _ _ _ _,slv _ _ _ _ _ _,row _ _ _,slv _ _ _ _ _ _]) (.inr rfl) Zu rfl ?_;rw[kF hc2,kF hc4,pG,rQ hc7];exact⟨⟨A',c',X.Ar,X.cr⟩,Y,rfl,rfl⟩
 refine Z_5 ?_;refine dJ (bZ rfl rfl Zrf Zrf rfl rfl) rfl ?_;rintro _ _ ⟨b50,rfl,rfl⟩;refine ZcL (dY (kOf br bu D) X r) (fun w hi hin=>gN (kOf br bu D) X r _ 1 1 [v2] (show r.s.d.length+1≤1000000 by omega) w hin (fun w' hk=>hi.I2 Zi Zh hk)) ?_;rintro _ _ ⟨_,⟨A',c',rfl,rfl⟩,rfl⟩;refine Zn (bP (kJ br bu bb L D ⟨A',c',X.Ar,X.cr⟩ Y ⟨r.wd (r.s.d++[v2]),u,d⟩) Zj ?_);refine fE (cs':=[row _ _ _,slv _ _ _ _ _ _,slv _ _ _ _ _ _,row _ _ _,exC _ _ _ _,row _ _ _,row _ _ _,row _ _ _,row _ _ _,row _ _ _,slv _ _ _ _ _ _,slv _ _ _ _ _ _,row _ _ _,slv _ _ _ _ _ _]) (.inr rfl) Zu rfl ?_;rw[kF hc2,kF hc4,pG,kF hc7];exact⟨⟨A',c',X.Ar,X.cr⟩,Y,rfl,rfl⟩
theorem stow_ok(br bu bb:Nat)(L:gR)(D:rZ)(X:hI)(Y:jV)(R:Run)(U:Mmu)(d:Dev)(l:List Int)(va v:Nat)(hva:va≤4294967295)(hv:v≤4294967295)(hT:U.t.length=16)(hroot:u32 R.s.root)(hd:d.wf)(ho:d.out.length≤1000000000)
  (w:World) (hi:Inv w (bK (kJ br bu bb L D X Y ⟨R.wd ((l++[(v:Int)])++[(va:Int)]),U,d⟩)) (kJ br bu bb L D X Y ⟨R.wd ((l++[(v:Int)])++[(va:Int)]),U,d⟩) w):
  Ctr prog 198 [.pointer (some ⟨br,0,none⟩)] w (kJ br bu bb L D X Y ⟨R.wd ((l++[(v:Int)])++[(va:Int)]),U,d⟩) (fun x cs=>∃Y',x= .tuple #[]∧cs=kJ br bu bb L D X Y' (k8 L.n (R.wd l) U d va v)):=by
 have HW:=yk br bu bb L D X (R.wd l) U hT hroot va hva 3;have hu:=vl L.n (R.wd l) U va hva 3;obtain⟨n1,n64,_⟩:=lc (hi.ok (eL L U.m) (by simp));have hin4:=zE L.n n64 (R.wd l) U va hva 3;unfold k8;obtain⟨⟨p,ok,r,u⟩,hq⟩:=Zgn (cM L.n (R.wd l) U va 3);rw[hq]at HW hu hin4⊢;obtain⟨pn,rfl⟩:∃pn:Nat,p=pn:=ar hu.1;have hpn:pn≤4294967295:=by have:(pn:Int)≤_:=hu.2;omega
 obtain⟨um,ut⟩:=u;simp only[aQ]at hin4⊢;have HB:=x8 D L um Y d hd ho pn v r.count;obtain⟨⟨o,M',d'⟩,hq2⟩:=Zgn (cU L.n um d (ss pn) v);rw[hq2]at HB⊢;have HM:=fun h=>mP L um pn v h ⟨by omega,by omega⟩
 obtain⟨M2,hq3⟩:=Zgn (um.IK pn v);rw[hq3]at HM⊢;obtain⟨tt,htt⟩:∃t:Bool,t=true:=⟨_,rfl⟩;rw[←htt]at HM;refine bL func198 rfl ntmps198 rfl hi ?_;refine Z_3 ?_;refine dJ (dW (dY (kOf br bu D) X (R.wd ((l++[(v:Int)])++[(va:Int)]))) rfl (fun _ _=>rfl) Zi (fun w hi hin=>gX (kOf br bu D) X R (l++[(v:Int)]) va w hin)) rfl ?_;rintro _ _ ⟨_,⟨rfl,rfl⟩,rfl⟩;refine Z_6 ?_;refine ZcM (dY (kOf br bu D) X (R.wd (l++[(v:Int)]))) (fun w hi hin=>gX (kOf br bu D) X R l v w hin) ?_;refine Z_7 ?_;refine ZcM (dY (kOf br bu D) X (R.wd l)++uF bu bb L U) (fun w hi hin=>HW w hin) ?_;refine iG ?_;refine ZW ?_ ?_<;>intro hc3
 ·refine Z_2 ?_;refine bP (kJ br bu bb L D X Y ⟨r,⟨um,ut⟩,d⟩) Zj ?_;refine fE (cs':=[row _ _ _,slv _ _ _ _ _ _,slv _ _ _ _ _ _,row _ _ _,exC _ _ _ _,row _ _ _,row _ _ _,row _ _ _,row _ _ _,row _ _ _,slv _ _ _ _ _ _,slv _ _ _ _ _ _,row _ _ _,slv _ _ _ _ _ _]) (.inl rfl) Zu rfl ?_;rw[hc3];exact⟨Y,rfl,rfl⟩
 have hok:ok=true:=(by simpa using hc3);refine eu ?_;refine ZW ?_ ?_<;>intro hc4
 ·refine bX ⟨fun j=>List.elem j [10],[]⟩ Zk ?_;refine ZE 0 ?_;refine ZE 1 ?_;refine ZFe 2 18 ?_;refine ZG 3 ?_;refine ZE 4 ?_;refine ZE 5 ?_;refine ZE 6 ?_;refine ZE 7 ?_;refine ZFe 8 16 ?_;refine ZG 9 ?_;refine cw 10 Zk ?_;refine ZcA (m7 D L.bm Y d++[eL L um]) (fun w hi hin=>HB w hin) ?_;rintro _ _ ⟨_,⟨Y',rfl,rfl⟩,rfl⟩;refine ZE 11 ?_;refine bN Zk ?_;refine Z_7 ?_;refine ZW ?_ ?_<;>intro hc7
  ·refine Z_3 ?_;refine ZcM (dY (kOf br bu D) X r) (fun w hi hin=>mY (kOf br bu D) X r 10 va w hin) ?_;refine Zn (bP (kJ br bu bb L D X Y' ⟨r.wt ⟨10,va⟩,⟨M',ut⟩,d'⟩) Zj ?_);refine fE (cs':=[row _ _ _,slv _ _ _ _ _ _,slv _ _ _ _ _ _,row _ _ _,exC _ _ _ _,row _ _ _,row _ _ _,row _ _ _,row _ _ _,row _ _ _,slv _ _ _ _ _ _,slv _ _ _ _ _ _,row _ _ _,slv _ _ _ _ _ _]) (.inr rfl) Zu rfl ?_;rw[kF hc3,rQ hc4,rQ hc7];exact⟨Y',rfl,rfl⟩
  refine Zc (bP (kJ br bu bb L D X Y' ⟨r,⟨M',ut⟩,d'⟩) Zj ?_);refine fE (cs':=[row _ _ _,slv _ _ _ _ _ _,slv _ _ _ _ _ _,row _ _ _,exC _ _ _ _,row _ _ _,row _ _ _,row _ _ _,row _ _ _,row _ _ _,slv _ _ _ _ _ _,slv _ _ _ _ _ _,row _ _ _,slv _ _ _ _ _ _]) (.inr rfl) Zu rfl ?_;rw[kF hc3,rQ hc4,kF hc7];exact⟨Y',rfl,rfl⟩
 have HM:=HM (hin4 hok hc4);refine Z_5 ?_;refine ZSe (fun w hi=>kL bu L.bm bb w (hi.get Zh)) ?_;refine Z_2 ?_;refine ZcM ([eL L um]) (fun w hi hin=>HM w hin) ?_;refine Z_9 ?_;refine ZW ?_ ?_<;>intro hc7
 ·refine Z_3 ?_;refine ZcM (dY (kOf br bu D) X r) (fun w hi hin=>mY (kOf br bu D) X r 10 va w hin) ?_;refine Zn (bP (kJ br bu bb L D X Y ⟨r.wt ⟨10,va⟩,⟨M2,ut⟩,d⟩) Zj ?_);refine fE (cs':=[row _ _ _,slv _ _ _ _ _ _,slv _ _ _ _ _ _,row _ _ _,exC _ _ _ _,row _ _ _,row _ _ _,row _ _ _,row _ _ _,row _ _ _,slv _ _ _ _ _ _,slv _ _ _ _ _ _,row _ _ _,slv _ _ _ _ _ _]) (.inr rfl) Zu rfl ?_;rw[htt]at hc7;exact absurd hc7 (by simp)
 refine Zc (bP (kJ br bu bb L D X Y ⟨r,⟨M2,ut⟩,d⟩) Zj ?_);refine fE (cs':=[row _ _ _,slv _ _ _ _ _ _,slv _ _ _ _ _ _,row _ _ _,exC _ _ _ _,row _ _ _,row _ _ _,row _ _ _,row _ _ _,row _ _ _,slv _ _ _ _ _ _,slv _ _ _ _ _ _,row _ _ _,slv _ _ _ _ _ _]) (.inr rfl) Zu rfl ?_;rw[kF hc3,kF hc4];exact⟨Y,rfl,rfl⟩
end Go.Proofs.YtakodpimdalajaaGreatDoor
namespace Go.Ink
open Go.RowKit
def lE(n:Nat)(R:Run)(U:Mmu)(va k:Nat):Run×Mmu:=((R.wt (nS n U R.sp va k).1.2).push [(nS n U R.sp va k).1.1],(nS n U R.sp va k).2)
def lb(n:Nat)(R:Run)(U:Mmu)(va k:Nat)(v:Int):Run×Mmu:=(R.wt (mM n U R.sp va k v).1,(mM n U R.sp va k v).2)
end Go.Ink
namespace Go.Proofs.YtakodpimdalajaaGreatDoor
open Go.RowKit Go.Ink Go.Proofs.Tryz
attribute [local irreducible] OpY bU
theorem yu(br bu bb:Nat)(L:gR)(D:rZ)(X:hI)(R:Run)(U:Mmu)(l:List Int)(va k:Nat)(hva:va≤4294967295)(hk1:1≤k)(hk4:k≤4)(hl:l.length≤100000)(hT:U.t.length=16)(hroot:u32 R.s.root)
  (w:World) (hi:Inv w (bK (dY (kOf br bu D) X (R.wd (l++[(va:Int)]))++uF bu bb L U)) (dY (kOf br bu D) X (R.wd (l++[(va:Int)]))++uF bu bb L U) w):
  Ctr prog 199 [.pointer (some ⟨br,0,none⟩),.int .i64 k,.bool false] w (dY (kOf br bu D) X (R.wd (l++[(va:Int)]))++uF bu bb L U)
   (fun x cs=>∃X',x= .tuple #[]∧cs=dY (kOf br bu D) X' (lE L.n (R.wd l) U va k).1++uF bu bb L (lE L.n (R.wd l) U va k).2):=by
 have hr0:=hroot.1;have hr1:=hroot.2;have hsr:(R.wd l).sp.root≤4294967295:=by show R.s.root.toNat≤_;omega
 have HP:=EI bu bb L U hT (R.wd l).sp hsr va k hva hk1 hk4;have HS:=qE (kOf br bu D) X (R.wd l) hr0;unfold lE;obtain⟨⟨⟨v,ca,ad⟩,U'⟩,hq⟩:=Zgn (nS L.n U (R.wd l).sp va k);rw[hq]at HP⊢;obtain⟨S,hS⟩:=Zgn ((R.wd l).sp);rw[hS]at HP HS;refine bL func199 rfl ntmps199 rfl hi ?_;refine Z_3 ?_;refine ZcM (dY (kOf br bu D) X (R.wd (l++[(va:Int)]))) (fun w hi hin=>gX (kOf br bu D) X R l va w hin) ?_;refine mL ?_;refine Z_1 ?_;refine ZW ?_ ?_<;>intro hc4
 ·exact absurd hc4 (by simp)
 refine Z_6 ?_;refine ZW ?_ ?_<;>intro hc6
 ·exact absurd hc6 (by simp)
 refine Zs (bX ⟨fun j=>List.elem j [8,14],[]⟩ Zk ?_);refine ZE 0 ?_;refine ZE 1 ?_;refine ZFe 2 17 ?_;refine ZG 3 ?_;refine ZE 4 ?_;refine ZE 6 ?_;refine ZE 7 ?_;refine jY 5 12 Zk ?_ ?_
 ·refine ZT (fun w hi=>HS w (hi.get Zh)) ?_;rintro _ _ ⟨_,⟨rfl,rfl⟩,rfl⟩;refine jY 8 12 Zk ?_ ?_
  ·refine ZcA (uF bu bb L U) (fun w hi hin=>HP w hin) ?_;rintro _ _ ⟨_,⟨rfl,rfl⟩,rfl⟩;refine ZE 9 ?_;refine ZE 10 ?_;refine ZE 11 ?_;refine cw 12 Zk ?_;refine ZP fun b8=>?_
   refine ZE 13 ?_;refine cw 14 Zk ?_;refine ZR ?_;refine bN Zk ?_;refine Z_7 ?_;refine dy (fv (ys:=ix (kOf br bu D) X ((R.wd l).wt ⟨ca,ad⟩)) (n:=2) (vs:=[.int .i64 ca,.int .u32 ad]) rfl Zrf rfl rfl (iE rfl) Za rfl (by simp only[ai,ak];omega)) ?_;rintro _ _ ⟨rfl,rfl⟩;refine Z_5 ?_;refine dJ (bZ rfl rfl Zrf Zrf rfl rfl) rfl ?_;rintro _ _ ⟨b29,rfl,rfl⟩;refine ZcL (dY (kOf br bu D) X ((R.wd l).wt ⟨ca,ad⟩)) (fun w hi hin=>gN (kOf br bu D) X ((R.wd l).wt ⟨ca,ad⟩) _ 1 1 [v] (show l.length+1≤1000000 by omega) w hin (fun w' hk=>hi.I2 Zi Zh hk)) ?_;rintro _ _ ⟨_,⟨A',c',rfl,rfl⟩,rfl⟩;refine Z_2 ?_;refine bP (dY (kOf br bu D) ⟨A',c',X.Ar,X.cr⟩ (((R.wd l).wt ⟨ca,ad⟩).wd (l++[v]))++uF bu bb L U') Zj ?_;refine fE (cs':=[row _ _ _,slv _ _ _ _ _ _,slv _ _ _ _ _ _,row _ _ _,exC _ _ _ _,row _ _ _]) (.inr rfl) Zu rfl ?_;exact⟨⟨A',c',X.Ar,X.cr⟩,rfl,rfl⟩
  refine ZP fun b8=>?_
  refine cw 8 Zk ?_;refine ZcA (uF bu bb L U) (fun w hi hin=>HP w hin) ?_;rintro _ _ ⟨_,⟨rfl,rfl⟩,rfl⟩;refine ZE 9 ?_;refine ZE 10 ?_;refine ZE 11 ?_;refine ZE 13 ?_;refine cw 14 Zk ?_;refine ZR ?_;refine bN Zk ?_;refine Z_7 ?_;refine dy (fv (ys:=ix (kOf br bu D) X ((R.wd l).wt ⟨ca,ad⟩)) (n:=2) (vs:=[.int .i64 ca,.int .u32 ad]) rfl Zrf rfl rfl (iE rfl) Za rfl (by simp only[ai,ak];omega)) ?_;rintro _ _ ⟨rfl,rfl⟩;refine Z_5 ?_;refine dJ (bZ rfl rfl Zrf Zrf rfl rfl) rfl ?_;rintro _ _ ⟨b29,rfl,rfl⟩;refine ZcL (dY (kOf br bu D) X ((R.wd l).wt ⟨ca,ad⟩)) (fun w hi hin=>gN (kOf br bu D) X ((R.wd l).wt ⟨ca,ad⟩) _ 1 1 [v] (show l.length+1≤1000000 by omega) w hin (fun w' hk=>hi.I2 Zi Zh hk)) ?_;rintro _ _ ⟨_,⟨A',c',rfl,rfl⟩,rfl⟩;refine Z_2 ?_;refine bP (dY (kOf br bu D) ⟨A',c',X.Ar,X.cr⟩ (((R.wd l).wt ⟨ca,ad⟩).wd (l++[v]))++uF bu bb L U') Zj ?_;refine fE (cs':=[row _ _ _,slv _ _ _ _ _ _,slv _ _ _ _ _ _,row _ _ _,exC _ _ _ _,row _ _ _]) (.inr rfl) Zu rfl ?_;exact⟨⟨A',c',X.Ar,X.cr⟩,rfl,rfl⟩
 refine ZP fun b8=>?_
 refine cw 5 Zk ?_;refine ZT (fun w hi=>HS w (hi.get Zh)) ?_;rintro _ _ ⟨_,⟨rfl,rfl⟩,rfl⟩;refine cw 8 Zk ?_;refine ZcA (uF bu bb L U) (fun w hi hin=>HP w hin) ?_;rintro _ _ ⟨_,⟨rfl,rfl⟩,rfl⟩;refine ZE 9 ?_;refine ZE 10 ?_;refine ZE 11 ?_;refine ZE 13 ?_;refine cw 14 Zk ?_;refine ZR ?_;refine bN Zk ?_;refine Z_7 ?_;refine dy (fv (ys:=ix (kOf br bu D) X ((R.wd l).wt ⟨ca,ad⟩)) (n:=2) (vs:=[.int .i64 ca,.int .u32 ad]) rfl Zrf rfl rfl (iE rfl) Za rfl (by simp only[ai,ak];omega)) ?_;rintro _ _ ⟨rfl,rfl⟩;refine Z_5 ?_;refine dJ (bZ rfl rfl Zrf Zrf rfl rfl) rfl ?_;rintro _ _ ⟨b29,rfl,rfl⟩;refine ZcL (dY (kOf br bu D) X ((R.wd l).wt ⟨ca,ad⟩)) (fun w hi hin=>gN (kOf br bu D) X ((R.wd l).wt ⟨ca,ad⟩) _ 1 1 [v] (show l.length+1≤1000000 by omega) w hin (fun w' hk=>hi.I2 Zi Zh hk)) ?_;rintro _ _ ⟨_,⟨A',c',rfl,rfl⟩,rfl⟩;refine Z_2 ?_;refine bP (dY (kOf br bu D) ⟨A',c',X.Ar,X.cr⟩ (((R.wd l).wt ⟨ca,ad⟩).wd (l++[v]))++uF bu bb L U') Zj ?_;refine fE (cs':=[row _ _ _,slv _ _ _ _ _ _,slv _ _ _ _ _ _,row _ _ _,exC _ _ _ _,row _ _ _]) (.inr rfl) Zu rfl ?_;exact⟨⟨A',c',X.Ar,X.cr⟩,rfl,rfl⟩
theorem yt(br bu bb:Nat)(L:gR)(D:rZ)(X:hI)(R:Run)(U:Mmu)(l:List Int)(va k:Nat)(v:Int)(hva:va≤4294967295)(hk1:1≤k)(hk4:k≤4)(hl:l.length≤100000)(hT:U.t.length=16)(hroot:u32 R.s.root)
  (w:World) (hi:Inv w (bK (dY (kOf br bu D) X (R.wd ((l++[v])++[(va:Int)]))++uF bu bb L U)) (dY (kOf br bu D) X (R.wd ((l++[v])++[(va:Int)]))++uF bu bb L U) w):
  Ctr prog 199 [.pointer (some ⟨br,0,none⟩),.int .i64 k,.bool true] w (dY (kOf br bu D) X (R.wd ((l++[v])++[(va:Int)]))++uF bu bb L U)
   (fun x cs=>x= .tuple #[]∧cs=dY (kOf br bu D) X (lb L.n (R.wd l) U va k v).1++uF bu bb L (lb L.n (R.wd l) U va k v).2):=by
 have hr0:=hroot.1;have hr1:=hroot.2;have hsr:(R.wd l).sp.root≤4294967295:=by show R.s.root.toNat≤_;omega
 have HP:=By bu bb L U hT (R.wd l).sp hsr va k v hva hk1 hk4;have HS:=qE (kOf br bu D) X (R.wd (l++[v])) hr0;unfold lb;obtain⟨⟨⟨ca,ad⟩,U'⟩,hq⟩:=Zgn (mM L.n U (R.wd l).sp va k v);rw[hq]at HP⊢;obtain⟨S,hS⟩:=Zgn ((R.wd l).sp);rw[show(R.wd (l++[v])).sp=(R.wd l).sp from rfl,hS]at HS;rw[hS]at HP;refine bL func199 rfl ntmps199 rfl hi ?_;refine Z_3 ?_;refine ZcM (dY (kOf br bu D) X (R.wd ((l++[v])++[(va:Int)]))) (fun w hi hin=>gX (kOf br bu D) X R (l++[v]) va w hin) ?_;refine mL ?_;refine Z_1 ?_;refine ZW ?_ ?_<;>intro hc4
 ·exact absurd hc4 (by simp)
 refine Z_6 ?_;refine ZW ?_ ?_<;>intro hc6
 ·refine bX ⟨fun j=>List.elem j [9,11,14],[]⟩ Zk ?_;refine ZE 0 ?_;refine ZE 1 ?_;refine ZE 2 ?_;refine ZFe 3 17 ?_;refine ZE 5 ?_;refine ZE 7 ?_;refine ZE 8 ?_;refine ZE 10 ?_;refine jY 4 6 Zk ?_ ?_
  ·refine eK rfl (bO Zrf Zv0) (bS Zh rfl) rfl ?_;refine cw 6 Zk ?_;refine ZT (fun w hi=>HS w (hi.get Zh)) ?_;rintro _ _ ⟨_,⟨rfl,rfl⟩,rfl⟩;refine cw 9 Zk ?_;refine ZcA (dY (kOf br bu D) X (R.wd (l++[v]))) (fun w hi hin=>gX (kOf br bu D) X R l v w hin) ?_;rintro _ _ ⟨_,⟨rfl,rfl⟩,rfl⟩;refine cw 11 Zk ?_;refine ZcA (uF bu bb L U) (fun w hi hin=>HP w hin) ?_;rintro _ _ ⟨_,⟨rfl,rfl⟩,rfl⟩;refine ZE 12 ?_;refine ZFe 13 19 ?_;refine cw 14 Zk ?_;refine dz rfl rfl (fv (ys:=ix (kOf br bu D) X ((R.wd l).wt ⟨ca,ad⟩)) (n:=2) (vs:=[.int .i64 ca,.int .u32 ad]) rfl Zrf rfl rfl (iE rfl) Za rfl (by simp only[ai,ak];omega)) ZJ ?_;rintro _ _ ⟨rfl,rfl⟩;refine bN Zk ?_;refine Zo (bP (dY (kOf br bu D) X ((R.wd l).wt ⟨ca,ad⟩)++uF bu bb L U') Zj ?_);refine fE (cs':=[row _ _ _,slv _ _ _ _ _ _,slv _ _ _ _ _ _,row _ _ _,exC _ _ _ _,row _ _ _]) (.inr rfl) Zu rfl ?_;exact⟨rfl,rfl⟩
  refine ZT (fun w hi=>HS w (hi.get Zh)) ?_;rintro _ _ ⟨_,⟨rfl,rfl⟩,rfl⟩;refine jY 4 9 Zk ?_ ?_
  ·refine eK rfl (bO Zrf Zv0) (bS Zh rfl) rfl ?_;refine cw 9 Zk ?_;refine ZcA (dY (kOf br bu D) X (R.wd (l++[v]))) (fun w hi hin=>gX (kOf br bu D) X R l v w hin) ?_;rintro _ _ ⟨_,⟨rfl,rfl⟩,rfl⟩;refine cw 11 Zk ?_;refine ZcA (uF bu bb L U) (fun w hi hin=>HP w hin) ?_;rintro _ _ ⟨_,⟨rfl,rfl⟩,rfl⟩;refine ZE 12 ?_;refine ZFe 13 19 ?_;refine cw 14 Zk ?_;refine dz rfl rfl (fv (ys:=ix (kOf br bu D) X ((R.wd l).wt ⟨ca,ad⟩)) (n:=2) (vs:=[.int .i64 ca,.int .u32 ad]) rfl Zrf rfl rfl (iE rfl) Za rfl (by simp only[ai,ak];omega)) ZJ ?_;rintro _ _ ⟨rfl,rfl⟩;refine bN Zk ?_;refine Zo (bP (dY (kOf br bu D) X ((R.wd l).wt ⟨ca,ad⟩)++uF bu bb L U') Zj ?_);refine fE (cs':=[row _ _ _,slv _ _ _ _ _ _,slv _ _ _ _ _ _,row _ _ _,exC _ _ _ _,row _ _ _]) (.inr rfl) Zu rfl ?_;exact⟨rfl,rfl⟩
  refine ZcA (dY (kOf br bu D) X (R.wd (l++[v]))) (fun w hi hin=>gX (kOf br bu D) X R l v w hin) ?_;rintro _ _ ⟨_,⟨rfl,rfl⟩,rfl⟩;refine ZG 4 ?_;refine cw 11 Zk ?_;refine ZcA (uF bu bb L U) (fun w hi hin=>HP w hin) ?_;rintro _ _ ⟨_,⟨rfl,rfl⟩,rfl⟩;refine ZE 12 ?_;refine ZFe 13 19 ?_;refine cw 14 Zk ?_;refine dz rfl rfl (fv (ys:=ix (kOf br bu D) X ((R.wd l).wt ⟨ca,ad⟩)) (n:=2) (vs:=[.int .i64 ca,.int .u32 ad]) rfl Zrf rfl rfl (iE rfl) Za rfl (by simp only[ai,ak];omega)) ZJ ?_;rintro _ _ ⟨rfl,rfl⟩;refine bN Zk ?_;refine Zo (bP (dY (kOf br bu D) X ((R.wd l).wt ⟨ca,ad⟩)++uF bu bb L U') Zj ?_);refine fE (cs':=[row _ _ _,slv _ _ _ _ _ _,slv _ _ _ _ _ _,row _ _ _,exC _ _ _ _,row _ _ _]) (.inr rfl) Zu rfl ?_;exact⟨rfl,rfl⟩
 exact absurd hc6 (by simp)
end Go.Proofs.YtakodpimdalajaaGreatDoor
