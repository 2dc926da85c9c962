/- Lemmas. -/
import Derived.Test.YtbkgmdgackknfaaGreatDoorPaf
set_option linter.unusedSimpArgs false
set_option linter.unusedVariables false
set_option maxRecDepth 100000
set_option maxHeartbeats 4000000
namespace Go.Ink
open Go.RowKit Go.Proofs.Tryz
def vH(l:List Nat):Nat->Int
 |0=>0
 |k+1=>bits .or .u32 (vH l k) (IntKind.u32.wrap (1*2^(min (((l.getD k 0:Nat):Int)).toNat IntKind.u32.bits)))
def nz(l:List Nat):Int:=vH l l.length
def DV(l:List Nat):List Int:=l.map λn:Nat=>(n:Int)
def my(n RH a:Nat):Bool:= !((decide (16<=RH)||(a%64 !=0))||decide (n*64<=a))
def gc(n:Nat)(M:Mem)(Sb:List Int)(RH a cmd:Nat):Bool×Mem×List Int:=
 bif !my n RH a then(false,M,Sb)else
 bif cmd==1 then(true,M.fill (a/64*64) ((Sb.drop (RH*64)).take 64) 64,Sb)else
 bif cmd==2 then(true,M,Sb.take (RH*64)++(M.data.drop (a/64*64)).take 64++Sb.drop (RH*64+64))else(false,M,Sb)
section
attribute [local irreducible] OpY bH
abbrev pT(b:Nat)(p m:Int):bC:=row b [.w p,.w m] 168
abbrev GS(b:Nat)(t:Int):bC:=row b [.w t] 186
abbrev b8(A:Option Addr)(c:Nat)(l:List Int):bC:=sl .u8 5 A l.length c l
abbrev ww(b:Nat)(Ao:Option Addr)(no co:Nat)(Ai:Option Addr)(ni ci:Nat):bC:=row b [.slice Ao no co,.slice Ai ni ci] 138
abbrev I1(b bd:Nat):bC:=row b [.slice (sA bd) 1024 1024] 171
abbrev Ik(bd:Nat)(l:List Int):bC:=sl .u8 5 (sA bd) 1024 1024 l
theorem Lm(w:World):Ctr prog 81 [] w [] (λv cs=>∃b,v= .p b/\cs=[pT b 0 0]):=by
 refine Zfs func81 ntmps81 ?_;refine Z_8 ?_;refine ZO λb2=>?_
 exact Qr
theorem JC(w:World):Ctr prog 82 [] w [] (λv cs=>∃b,v= .p b/\cs=[GS b 0]):=by
 refine Zfs func82 ntmps82 ?_;refine Z_8 ?_;refine ZO λb2=>?_
 exact Qr
theorem Mz(w:World):Ctr prog 83 [] w [] (λv cs=>∃b,v= .p b/\cs=[ww b none 0 0 none 0 0]):=by
 refine Zfs func83 ntmps83 ?_;refine Z_8 ?_;refine ZO λb2=>?_
 exact Qr
def _root_.Go.Ink.sY(l:List Int):List Int:=l++List.replicate (1024 - l.length) 0
theorem Mp(A:Option Addr)(c:Nat)(l:List Int)(hl:l.length<=1024)(w:World)(h:Rd w .u8 A l.length c l):Ctr prog 80 [.slice A l.length c] w [] (λv cs=>∃b bd,v= .tuple #[.p b,.i 0]/\cs=[I1 b bd,Ik bd (sY l)]):=by
 refine Zfs func80 ntmps80 ?_;refine iT ?_;refine cJ rfl ((ar Wq1)) (Z_4 ?_);refine fW (lC (bytes:=1) (n:=1024) rfl rfl rfl rfl rfl rfl rfl Wq1 gq) rfl ?_;rintro _ _ ⟨b8_,rfl,rfl⟩;rw[rG];refine ZA ?_;refine ZO λb10=>?_
 refine fB ?_;refine fW (Bt rfl rfl Za rfl rfl (λw hi=>h.RU hi) di Wq1) rfl ?_;rintro _ _ ⟨rfl,rfl⟩;have hd:(ints .u8 (List.replicate 1024 0)).take 0++(ints .u8 l).take (min l.length 1024)++(ints .u8 (List.replicate 1024 0)).drop (0+min l.length 1024)=ints .u8 (sY l):=by(rw[Nat.min_eq_left hl,kB,kB,qM,List.take_zero,bl,Nat.zero_add,List.drop_replicate];simp[ints,sY])
 rw[hd];refine fB ?_;exact bG [I1 b10 b8_,Ik b8_ (sY l)] Zj (xH (cs':=[row _ _ _,slv _ _ _ _ _ _]) (.inl rfl) Zu rfl rfl rfl pN)
theorem xM(b:Nat)(p m:Int)(w:World)(h:(pT b p m).ok w):Ctr prog 65 [.p b] w [] (λv cs=>v= .w p/\cs=[]):=by
 refine Zfs func65 ntmps65 ?_;refine tH ?_;exact mF
theorem KU(b:Nat)(p m:Int)(w:World)(h:(pT b p m).ok w):Ctr prog 66 [.p b] w [] (λv cs=>v= .w m/\cs=[]):=by
 refine Zfs func66 ntmps66 ?_;refine tH ?_;exact mF
theorem Ly(b:Nat)(p m v:Int)(w:World)(hi:Inv w (bD [pT b p m]) [pT b p m] w):Ctr prog 278 [.p b,.w v] w [pT b p m] (λx cs=>x= .tuple #[]/\cs=[pT b (bits .andNot .u32 p v) m]):=by
 refine Zfn func278 ntmps278 hi ?_;refine Z_6 ?_;refine Zy (tO Zv0 Zv0 rfl) ?_;refine mP ?_;refine Zn (iY (cs':=[row _ _ _]) (.inr rfl) Zu rfl ?_);exact fy
theorem Ed(b:Nat)(p m v:Int)(w:World)(hi:Inv w (bD [pT b p m]) [pT b p m] w):Ctr prog 279 [.p b,.w v] w [pT b p m] (λx cs=>x= .tuple #[]/\cs=[pT b p (bits .and .u32 v 255)]):=by
 refine Zfn func279 ntmps279 hi ?_;refine Z_6 ?_;refine ZL ?_;refine Zn (iY (cs':=[row _ _ _]) (.inr rfl) Zu rfl ?_);exact fy
theorem nA(b:Nat)(p m:Int)(A:Option Addr)(c:Nat)(l:List Nat)(hl:∀x,x∈l->x<8)(w:World)(hi:Inv w (bD [pT b p m]) [pT b p m] w)(h:∀w',cY (bD [pT b p m]) w w'->Rd w' .i64 A l.length c (DV l)):Ctr prog 59 [.p b,.slice A l.length c] w [pT b p m] (λx cs=>x= .bool true/\cs=[pT b (bits .or .u32 p (nz l)) m]):=by
 have hrw:=h w (cY.refl _ _);have hm:=hrw.max;have hcp:=hrw.cap;simp only[maxLen]at hm;refine Zfn func59 ntmps59 hi ?_;refine IB ?_;refine bN (λk:Nat=>[(0,.p b),(5,.w (vH l k)),(8,.slice A l.length c),(9,.i l.length),(10,.i (k:Int))]) (λ_=>[pT b p m]) (λk=>k<=l.length) (λk=>l.length - k) (0) ?_ ?_ ?_ ?_
 .exact au _
 .exact Zwk
 .exact Zu
 rintro k hk;refine Zw6 ?_ ?_<;>intro hc3
 .simp only[ae]at hc3;have hkl:k<l.length:=by omega
  have hx:=hl _ (List.getElem_mem hkl);have hgd:l.getD k 0=l[k]'hkl:=by simp[hkl]
  obtain⟨ad,rfl⟩:=hrw.some_ Wq1;refine Z_6 ?_;refine CS ?_;refine dK (bF Zrf (Zv rfl)) (qq h (cq (show(DV l)[k]? =some ((l[k]'hkl:Nat):Int) by simp[DV,hkl]))) rfl (iT ?_);refine cJ rfl ((by rw[ar (show¬((l[k]'hkl:Nat):Int)<0 by omega),ar (show¬(8:Int)<=((l[k]'hkl:Nat):Int) by omega)];rfl)) (Z_5 ?_);refine Zy (yI (Zv rfl) (Zv rfl) Wq1 rfl) ?_;refine Zy (Gv (Zv rfl) (Zv rfl) (show _=vH l (k+1)from by rw[vH,hgd])) ?_;refine gv ?_;refine dM (k+1) ?_ ?_ ?_
  .exact wH
  .exact Zwk
  exact Zu
 simp only[ac]at hc3;obtain rfl:k=l.length:=by omega
 refine sx ?_;refine ZL ?_;refine Z_8 ?_;exact AI
theorem tset_ok(b:Nat)(t v:Int)(w:World)(hi:Inv w (bD [GS b t]) [GS b t] w):Ctr prog 280 [.p b,.w v] w [GS b t] (λx cs=>x= .tuple #[]/\cs=[GS b v]):=by
 refine Zfn func280 ntmps280 hi ?_;refine Z_5 ?_;refine ZL ?_;refine Zn (iY (cs':=[row _ _ _]) (.inr rfl) Zu rfl ?_);exact fy
theorem NM(b:Nat)(t:Int)(w:World)(h:(GS b t).ok w):Ctr prog 275 [.p b] w [] (λv cs=>v= .w t/\cs=[]):=by
 refine Zfs func275 ntmps275 ?_;refine tH ?_;exact mF
theorem nK(A:Option Addr)(n c:Nat)(xs:List Int)(w:World)(h:Rd w .u8 A n c xs)(hn:n<=140737488355328):Ctr prog 73 [.slice A n c] w [] (λv cs=>∃A' c',v= .slice A' n c'/\cs=[sl .u8 5 A' n c' xs]):=by
 refine Zfs func73 ntmps73 ?_;refine fD ?_;refine ZW ?_ ?_<;>intro hc1
 .obtain rfl:A=none:=by simpa using hc1
  obtain⟨rfl,rfl⟩:=h.nil rfl;obtain rfl:xs=[]:=by have:=h.len;simpa[ints]using this
  refine Z_2 ?_;refine cT 5 1 (Z_5 ?_);exact IC
 refine Z_4 ?_;refine kY ?_;rintro _ _ ⟨b5,rfl,rfl⟩;exact Wq265
theorem Mv(b:Nat)(Ao:Option Addr)(co:Nat)(o:List Int)(Ai:Option Addr)(ni ci:Nat)(x:Int)(ho:o.length<=1000000000)(w:World)(hi:Inv w (bD [ww b Ao o.length co Ai ni ci,b8 Ao co o]) [ww b Ao o.length co Ai ni ci,b8 Ao co o] w):Ctr prog 281 [.p b,.int .u8 x] w [ww b Ao o.length co Ai ni ci,b8 Ao co o] (λv cs=>∃Ao' co',v= .tuple #[]/\cs=[ww b Ao' (o++[x]).length co' Ai ni ci,b8 Ao' co' (o++[x])]):=by
 refine Zfn func281 ntmps281 hi ?_;refine Z_7 ?_;refine kY ?_;rintro _ _ ⟨b10,rfl,rfl⟩;refine fW (cj (e:=5) (sz:=1) (bytes:=1) rfl rfl Za rfl rfl (λw hi=>hi.rd (show Has _ (slv 5 1 (sA b10) 1 1 [.int .u8 x])from Zh)) (mO rfl) (by simp only[maxLen];omega) Wq1) rfl ?_;rintro _ _ ⟨A2,c2,rfl,rfl⟩;rw[show o.length+1=(o++[x]).length by simp,show ints .u8 o++[Value.int .u8 x]=ints .u8 (o++[x])from bX o [x]];refine mP ?_;refine Zn (iY (cs':=[row _ _ _,slv _ _ _ _ _ _]) (.inr rfl) Zu rfl ?_);exact⟨A2,c2,rfl,rfl⟩
theorem Mw(b:Nat)(Ao:Option Addr)(no co:Nat)(Ai:Option Addr)(ni ci:Nat)(w:World)(h:(ww b Ao no co Ai ni ci).ok w):Ctr prog 277 [.p b] w [] (λv cs=>v= .i ni/\cs=[]):=by
 refine Zfs func277 ntmps277 ?_;refine tH ?_;refine Z_5 ?_;exact pM
theorem Mu(A:Option Addr)(c:Nat)(x:Int)(xs:List Int)(hl:xs.length<=1000000000)(w:World)(hi:Inv w (bD [b8 A c (x::xs)]) [b8 A c (x::xs)] w):Ctr prog 287 [.slice A (x::xs).length c,.i 0,.i 1] w [b8 A c (x::xs)] (λv cs=>∃A' c',v= .slice A' xs.length c'/\cs=[b8 A' c' xs]):=by
 have hrd0:=hi.rd (show Has _ (b8 A c (x::xs))from Zh);have hcap:=hrd0.cap;obtain⟨bb,rfl⟩:=dV (hi.get (show Has _ (b8 A c (x::xs))from Zh)) (by simp);simp only[aQ]at hcap;have hxl:(x::xs).length=xs.length+1:=rfl;obtain⟨q0,hq0⟩:=Zgn ((⟨bb,(if c=1 then 0 else 1),none⟩:Addr));have hq1:(some q0:Option Addr)=(if c=1 then some ⟨bb,0,none⟩else(some (⟨bb,0,none⟩:Addr)).map (·.add (1*1))):=by
  rw[<-hq0];split<;>rfl
 refine Zfn func287 ntmps287 hi ?_;refine fD ?_;refine Zy (Nq (lo:=0) (hi:=1) (mx:=(x::xs).length) rfl Zrf (Zv rfl) (Zv rfl) (Zv rfl) (Zv rfl) (by omega) (by omega) (by omega)) ?_;refine fB ?_;refine iU ?_;refine fB ?_;refine bL ⟨λj=>List.elem j [6],[]⟩ Zk (ZE 0 ?_);refine ZE 1 ?_;refine Zy4 2 rfl (fH 0 rfl Zrf (Zv rfl) (Zv rfl) (λ_=>by first|rfl|omega) (λ_=>by omega)) ?_;refine ZE 3 ?_;refine ZE 4 ?_;refine Zy4 5 rfl (Np (lo:=1) (hi:=(x::xs).length) (r:=q0) rfl Zrf (Zv rfl) (.inr ⟨_,_,rfl,(Zv rfl)⟩) (.inl ⟨rfl,rfl⟩) (by simp) (by simpa using hcap) hq1) ?_;refine cn 6 Zk (jT rfl rfl (JM (e:=5) (bytes:=1) rfl (by omega) rfl Za rfl rfl (λw hi=>(by have h5:=(hi.rd (show Has _ (b8 (sA bb) c (x::xs))from Zh)).cut (lo:=1) (hi:=(x::xs).length) (by simp) (aL _);rw[<-hq1]at h5;exact h5)) (by rw[kB,qM];exact di) (by omega)) ZJ rfl ?_);rintro _ _ ⟨rfl,rfl⟩;rw[show 0+((x::xs).length - 1)=xs.length by simp,show(ints .u8 (x::xs)).take 0++((ints .u8 (x::xs)).take (x::xs).length).drop 1=ints .u8 xs from by(simp[ints];exact List.take_of_length_le (by simp))];refine ZE 7 ?_;refine eQ ?_;refine Z_7 ?_;refine Zy (lV (sz:=1) (lo:=xs.length) (hi:=(x::xs).length) (r:=xs.length) rfl Zrf (Zv rfl) (.inr ⟨_,_,rfl,(Zv rfl)⟩) (.inr ⟨_,_,rfl,(Zv rfl)⟩) (by omega) (by omega) (by omega) (by omega)) ?_;refine eE (t_clear rfl Za rfl Zrf rfl rfl (aL _) (by simp only[aQ];omega)) ?_;rintro _ _ ⟨rfl,rfl⟩;refine Z_9 ?_;exact IC
theorem P3(b:Nat)(Ao:Option Addr)(no co:Nat)(Ai:Option Addr)(ci:Nat)(inp:List Int)(hl:inp.length<=1000000000)(w:World)(hi:Inv w (bD [ww b Ao no co Ai inp.length ci,b8 Ai ci inp]) [ww b Ao no co Ai inp.length ci,b8 Ai ci inp] w):Ctr prog 276 [.p b] w [ww b Ao no co Ai inp.length ci,b8 Ai ci inp] (λv cs=>∃Ai' ci',v= .int .u8 (gB inp 0)/\cs=[b8 Ai' ci' inp.tail,ww b Ao no co Ai' inp.tail.length ci']):=by
 cases inp with
 |nil=>
  refine Zfn func276 ntmps276 hi ?_;refine sw ?_;refine oU ?_;refine Z_7 ?_;refine bG [b8 Ai ci [],ww b Ao no co Ai 0 ci] Zj (Zrb ([slv _ _ _ _ _ _,row _ _ _]) ?_);exact pN
 |cons x xs=>
  have hxl:(x::xs).length=xs.length+1:=rfl;have hc1':(((x::xs).length:Int)==0)=false:=by rw[beq_eq_false_iff_ne];simp only[aQ];omega
  obtain⟨bb,rfl⟩:=dV (hi.get (show Has _ (b8 Ai ci (x::xs))from Zh)) cH;refine Zfn func276 ntmps276 hi ?_;refine sw ?_;refine cJ rfl (hc1') (Z_8 ?_);refine Zy (bV (j:=0) (sz:=1) (r:=0) rfl Zrf (Zv rfl) (Zv rfl) Wq2 Wq2 Wq1) ?_;refine dK (bF Zrf Zv0) (cM (xs:=ints .u8 (x::xs)) Zh rfl) rfl (fB ?_);refine dz ([b8 (sA bb) ci (x::xs)]) (λw hi hin=>Mu (sA bb) ci x xs (by simp only[aQ]at hl;omega) w hin) ?_;rintro _ _ ⟨A2,c2,rfl,rfl⟩;refine mP ?_;refine Z_9 ?_;refine Zrb ([slv _ _ _ _ _ _,row _ _ _]) ?_;exact pN
theorem FA(n k:Nat):((n:Int)==((k:Nat):Int))=(n==k):=by rw[Bool.eq_iff_iff];simp;omega
theorem natBne(n k:Nat):((n:Int) !=((k:Nat):Int))=(n !=k):=by rw[Bool.eq_iff_iff];simp;omega
theorem yo(n RH a:Nat):(((false||decide ((16:Int)<=RH))||(((a%64:Nat):Int) !=((0:Nat):Int)))||decide (((n*64:Nat):Int)<=a))= !my n RH a:=by
 unfold my;rw[Bool.not_not,Bool.false_or,natBne,show decide ((16:Int)<=RH)=decide (16<=RH)from decide_eq_decide.2 Wq1,show decide (((n*64:Nat):Int)<=a)=decide (n*64<=a)from decide_eq_decide.2 Wq1]
theorem disk_rd{w:World}{bk RH:Nat}{Sb:List Int}(h:RdV w 1 (sA bk) 1024 1024 (ints .u8 Sb))(hs:RH<16):Rd w .u8 (some ⟨bk,RH*64,none⟩) 64 (1024 - RH*64) ((Sb.drop (RH*64)).take 64):=by
 have h1:=h.cut (lo:=RH*64) (hi:=RH*64+64) Wq1 Wq1;rw[if_neg Wq1,Option.map_some,Addr.add_lit,Nat.mul_one,Nat.zero_add,kB,qM,show RH*64+64 - RH*64=64 by omega,List.drop_take,show RH*64+64 - RH*64=64 by omega]at h1;exact h1
theorem PV(bd bk:Nat)(L:eA)(M:Mem)(Sb:List Int)(hk:Sb.length=1024)(hkb:u8s Sb)(RH a cmd:Nat)(hs:RH<=4294967295)(ha:a<=4294967295)(w:World)(hi:Inv w (bD [I1 bd bk,Ik bk Sb,eG L M]) [I1 bd bk,Ik bk Sb,eG L M] w):
  Ctr prog 282 [.p bd,.p L.bm,.w RH,.w a,.w cmd] w [I1 bd bk,Ik bk Sb,eG L M] (λv cs=>v= .bool (gc L.n M Sb RH a cmd).1/\cs=[I1 bd bk,Ik bk (gc L.n M Sb RH a cmd).2.2,eG L (gc L.n M Sb RH a cmd).2.1]):=by
 obtain⟨n1,n64,hdl,hdb,htl⟩:=mM (hi.ok (eG L M) cH);refine Zfn func282 ntmps282 hi ?_;refine sw ?_;refine Zyn rfl rfl (i4 (bU rfl) (Zv rfl) Wq1 (show _=((a%64:Nat):Int)from by rw[aO Wq1];omega)) ?_;refine Z_5 ?_;refine dU (bE rfl rfl) (.cons (bU rfl) .nil) (λ_ _=>rfl) (λhg w hi=>oa L M w (hi.get (show Has _ (eG L M)from Zh))) rfl (Z_4 ?_);refine ZW ?_ ?_<;>intro hc1
 .have hno:my L.n RH a=false:=by(have h2:=(yo L.n RH a).symm.trans hc1;simpa using h2)
  have hdo:gc L.n M Sb RH a cmd=(false,M,Sb):=by(unfold gc;rw[hno];rfl)
  rw[hdo];refine Z_7 ?_;exact Qu
 have hyes:my L.n RH a=true:=by(have h2:=(yo L.n RH a).symm.trans hc1;simpa using h2)
 have hf:RH<16/\a%64=0/\a<L.n*64:=by(unfold my at hyes;simp only[Bool.not_eq_true',Bool.or_eq_false_iff,ac,bne_eq_false_iff_eq]at hyes;omega)
 obtain⟨s16,am,an⟩:=hf;have hdo:gc L.n M Sb RH a cmd=bif cmd==1 then(true,M.fill (a/64*64) ((Sb.drop (RH*64)).take 64) 64,Sb)else bif cmd==2 then(true,M,Sb.take (RH*64)++(M.data.drop (a/64*64)).take 64++Sb.drop (RH*64+64))else(false,M,Sb):=by(unfold gc;rw[hyes];rfl)
 rw[hdo];have hsl:((Sb.drop (RH*64)).take 64).length=64:=by(rw[aI,List.length_drop];omega)
 refine Z_9 ?_;refine Zy (jR (Zv rfl) (Zv rfl) (show _=((RH*64:Nat):Int)from(u32_wrap_id _ Wq1 Wq1).trans Wq1)) ?_;refine ZA ?_;refine Zy (ef (Zv rfl) (Zv rfl) (show _=((RH+1:Nat):Int)from(u32_wrap_id _ Wq1 Wq1).trans Wq1)) ?_;refine Zy (jR (Zv rfl) (Zv rfl) (show _=((RH*64+64:Nat):Int)from(u32_wrap_id _ Wq1 Wq1).trans Wq1)) ?_;refine Zy (lV (sz:=1) (lo:=RH*64) (hi:=RH*64+64) (r:=RH*64) rfl Zrf (Zv rfl) (.inr ⟨_,_,rfl,(Zv rfl)⟩) (.inr ⟨_,_,rfl,(Zv rfl)⟩) Wq1 Wq1 Wq1 Wq1) ?_;refine Z_6 ?_;refine Zy (k8 (Zv rfl) (Zv rfl) Wq1 (show _=((a/64:Nat):Int)from by rw[bo Wq1,u32_wrap_id _ Wq1 Wq1];omega)) ?_;refine wO ?_;refine Z_6 ?_;rw[show RH*64+64 - RH*64=64 by omega];refine pV ?_ ?_<;>intro hc6
 .have hcm:(cmd==1)=true:=(FA cmd 1).symm.trans hc6;rw[hcm];simp only[ai];refine Z_5 ?_;refine ZcM ([eG L M]) (λw hi hin=>DE L M (a/64) Wq1 (some ⟨bk,RH*64,none⟩) (1024 - RH*64) ((Sb.drop (RH*64)).take 64) hsl (λx hx=>hkb x (List.mem_of_mem_drop (bh hx))) w hin (λw' hk=>disk_rd (hi.rdK (show C7 _ (eG L M) (Ik bk Sb)from(by repeat (first|(refine .l _ ?_;repeat (first|exact .head _ _|apply Has.tail))|(refine .r _ ?_;repeat (first|exact .head _ _|apply Has.tail))|apply C7.t))) hk) s16)) ?_;refine Z_6 ?_;exact bG [I1 bd bk,Ik bk Sb,eG L (M.fill (a/64*64) ((Sb.drop (RH*64)).take 64) 64)] Zj Qu
 have hcm:(cmd==1)=false:=(FA cmd 1).symm.trans hc6;rw[hcm];refine iw ?_;refine Zw6 ?_ ?_<;>intro hc8
 .have hcm2:(cmd==2)=true:=(FA cmd 2).symm.trans hc8;rw[hcm2];simp only[ai];refine Z_4 ?_;refine ZSn (λw hi=>zp L M (a/64) Wq1 w (hi.get (show Has _ (eG L M)from Zh))) ?_;rintro _ _ ⟨bq,rfl,rfl⟩;refine gK ?_;refine fW (Bt rfl rfl Za rfl rfl (λw hi=>hi.rd (show Has _ (sl .u8 5 (sA bq) 64 64 ((M.data.drop (a/64*64)).take 64))from Zh)) di Wq1) rfl ?_;rintro _ _ ⟨rfl,rfl⟩;rw[show(ints .u8 Sb).take (RH*64)++(ints .u8 ((M.data.drop (a/64*64)).take 64)).take (min 64 64)++(ints .u8 Sb).drop (RH*64+min 64 64)=ints .u8 (Sb.take (RH*64)++(M.data.drop (a/64*64)).take 64++Sb.drop (RH*64+64))from by(rw[Nat.min_self,kB,kB,qM,bX,bX,List.take_take,Nat.min_self])];refine gK ?_;exact Qu
 have hcm2:(cmd==2)=false:=(FA cmd 2).symm.trans hc8;rw[hcm2];refine iw ?_;refine Z_9 ?_;exact Qu
structure Dev where
 Sc:Int
 mask:Int
 timer:Int
 out:List Int
 inp:List Int
 Sb:List Int
 RH:Nat
 place:Nat
 status:Int
structure rp where
 bs:Nat
 bi:Nat
 bti:Nat
 bcn:Nat
 bdr:Nat
 bdk:Nat
structure nS where
 Ao:Option Addr
 co:Nat
 Ai:Option Addr
 ci:Nat
structure Dev.wf(d:Dev):Prop where
 Tm:u8s d.inp
 Sb:d.Sb.length=1024
 SU:u8s d.Sb
 RH:d.RH<=4294967295
 place:d.place<=4294967295
 inp:d.inp.length<=1000000000
def w6(a:Nat):Int:=IntKind.u32.wrap ((a:Int) - 32768)
def ge(d:Dev)(k count:Int):(Int×Bool)×Dev:=
 bif k==0 then((d.Sc,true),d)else bif k==4 then((d.mask,true),d)else bif k==8 then((d.timer,true),d)else bif k==12 then((IntKind.u32.wrap count,true),d)else
 bif k==16 then((0,true),d)else bif k==40 then((0,true),d)else bif k==20 then((gB d.inp 0,true),{d with inp:=d.inp.tail})else bif k==24 then(((d.inp.length:Int),true),d)else
 bif k==32 then(((d.RH:Int),true),d)else bif k==36 then(((d.place:Int),true),d)else bif k==44 then((d.status,true),d)else((0,false),d)
def fp(n:Nat)(M:Mem)(d:Dev)(v:Nat):Mem×Dev:=
 ((gc n M d.Sb d.RH d.place v).2.1,{d with Sb:=(gc n M d.Sb d.RH d.place v).2.2,status:=bif(gc n M d.Sb d.RH d.place v).1 then 0 else 1,Sc:=bits .or .u32 d.Sc (nz [2])})
def cF(n:Nat)(M:Mem)(d:Dev)(k:Int)(v:Nat):Bool×Mem×Dev:=
 bif k==0 then(true,M,{d with Sc:=bits .andNot .u32 d.Sc v})else bif k==4 then(true,M,{d with mask:=bits .and .u32 v 255})else bif k==8 then(true,M,{d with timer:=v})else
 bif k==16 then(true,M,{d with out:=d.out++[IntKind.u8.wrap v]})else bif k==32 then(true,M,{d with RH:=v})else bif k==36 then(true,M,{d with place:=v})else
 bif k==40 then(true,fp n M d v)else bif k==12 then(true,M,d)else bif k==20 then(true,M,d)else bif k==24 then(true,M,d)else bif k==44 then(true,M,d)else(false,M,d)
abbrev MH(D:rp)(bm:Nat)(d:Dev):bC:=row D.bs [.p D.bi,.p D.bti,.p D.bcn,.p D.bdr,.p bm,.w (d.RH:Int),.w (d.place:Int),.w d.status] 108
abbrev kO(D:rp)(bm:Nat)(X:nS)(d:Dev):List bC:=[MH D bm d,pT D.bi d.Sc d.mask,GS D.bti d.timer,ww D.bcn X.Ao d.out.length X.co X.Ai d.inp.length X.ci,b8 X.Ao X.co d.out,b8 X.Ai X.ci d.inp,I1 D.bdr D.bdk,Ik D.bdk d.Sb]
theorem Ir(D:rp)(bm:Nat)(X:nS)(d:Dev)(hd:d.wf)(a:Nat)(count:Int)(w:World)(hi:Inv w (bD (kO D bm X d)) (kO D bm X d) w):
  Ctr prog 254 [.p D.bs,.w a,.int .u64 count] w (kO D bm X d) (λv cs=>∃X',v= .tuple #[.w (ge d (w6 a) count).1.1,.bool (ge d (w6 a) count).1.2]/\cs=kO D bm X' (ge d (w6 a) count).2):=by
 have hinp:=hd.inp;have hgb:IntKind.u32.wrap (gB d.inp 0)=gB d.inp 0:=by have:=kE hd.Tm 0;exact u32_wrap_id _ Wq1 Wq1
 obtain⟨k,hk⟩:=Zgn (w6 a);rw[hk];unfold w6 at hk;refine Zfn func254 ntmps254 hi ?_;refine fB ?_;refine Zy (gr Zv0 Zv0 hk) ?_;refine Zw9 ?_ ?_<;>intro hc2
 .refine Z_6 ?_;refine ZSe (λw hi=>xM D.bi d.Sc d.mask w (hi.get Zh)) ?_;refine Z_7 ?_;refine IK ?_;refine⟨X,?_,?_⟩
  .exact ux
  exact ux
 refine Zw6 ?_ ?_<;>intro hc4
 .refine Z_6 ?_;refine ZSe (λw hi=>KU D.bi d.Sc d.mask w (hi.get Zh)) ?_;refine Z_7 ?_;refine IK ?_;refine⟨X,?_,?_⟩
  .exact ux
  exact ux
 refine Zw6 ?_ ?_<;>intro hc6
 .refine Z_6 ?_;refine ZSe (λw hi=>NM D.bti d.timer w (hi.get Zh)) ?_;refine Z_7 ?_;refine IK ?_;refine⟨X,?_,?_⟩
  .exact ux
  exact ux
 refine Zw6 ?_ ?_<;>intro hc8
 .refine Z_3 ?_;refine nP ?_;refine Z_7 ?_;refine IK ?_;refine⟨X,?_,?_⟩
  .exact ux
  exact ux
 refine Zw7 ?_ ?_<;>intro hc10
 .refine Z_2 ?_;refine bW rfl (hc10) (Z_9 ?_);refine IK ?_;refine⟨X,?_,?_⟩
  .exact ux
  exact ux
 refine Zw5 ?_ ?_<;>intro hc11
 .refine Z_9 ?_;refine IK ?_;refine⟨X,?_,?_⟩
  .exact ux
  exact ux
 refine Zw6 ?_ ?_<;>intro hc13
 .refine Z_6 ?_;refine dz ([ww D.bcn X.Ao d.out.length X.co X.Ai d.inp.length X.ci,b8 X.Ai X.ci d.inp]) (λw hi hin=>P3 D.bcn X.Ao d.out.length X.co X.Ai X.ci d.inp hinp w hin) ?_;rintro _ _ ⟨Ai',ci',rfl,rfl⟩;refine Zy (cQ rfl rfl (Zv rfl) (show IntKind.u32.wrap (gB d.inp 0)=gB d.inp 0 from hgb)) ?_;refine Z_7 ?_;refine bG (kO D bm ⟨X.Ao,X.co,Ai',ci'⟩ {d with inp:=d.inp.tail}) Zj (IK ?_);refine⟨⟨X.Ao,X.co,Ai',ci'⟩,?_,?_⟩
  .exact ux
  exact ux
 refine Zw6 ?_ ?_<;>intro hc15
 .refine Z_6 ?_;refine ZSe (λw hi=>Mw D.bcn X.Ao d.out.length X.co X.Ai d.inp.length X.ci w (hi.get Zh)) ?_;refine Zy (cQ rfl rfl (Zv rfl) (u32_wrap_id _ Wq1 Wq1)) ?_;refine Z_7 ?_;refine IK ?_;refine⟨X,?_,?_⟩
  .exact ux
  exact ux
 refine Zw6 ?_ ?_<;>intro hc17
 .refine kM ?_;refine IK ?_;refine⟨X,?_,?_⟩
  .exact ux
  exact ux
 refine Zw6 ?_ ?_<;>intro hc19
 .refine kM ?_;refine IK ?_;refine⟨X,?_,?_⟩
  .exact ux
  exact ux
 refine Zw6 ?_ ?_<;>intro hc21
 .refine kM ?_;refine IK ?_;refine⟨X,?_,?_⟩
  .exact ux
  exact ux
 refine fB ?_;refine IK ?_;refine⟨X,?_,?_⟩
 .exact ux
 exact ux
theorem Ez(D:rp)(L:eA)(M:Mem)(X:nS)(d:Dev)(hd:d.wf)(ho:d.out.length<=1000000000)(a v:Nat)(count:Int)(w:World)(hi:Inv w (bD (kO D L.bm X d++[eG L M])) (kO D L.bm X d++[eG L M]) w):
  Ctr prog 256 [.p D.bs,.w a,.w v,.int .u64 count] w (kO D L.bm X d++[eG L M]) (λx cs=>∃X',x= .bool (cF L.n M d (w6 a) v).1/\cs=kO D L.bm X' (cF L.n M d (w6 a) v).2.2++[eG L (cF L.n M d (w6 a) v).2.1]):=by
 obtain⟨k,hk⟩:=Zgn (w6 a);rw[hk];unfold w6 at hk;refine Zfn func256 ntmps256 hi ?_;refine Z_9 ?_;refine Zy (gr Zv0 Zv0 hk) ?_;refine Zw9 ?_ ?_<;>intro hc3
 .refine Z_6 ?_;refine ZcM ([pT D.bi d.Sc d.mask]) (λw hi hin=>Ly D.bi d.Sc d.mask v w hin) ?_;refine Z_9 ?_;refine bG (kO D L.bm X {d with Sc:=bits .andNot .u32 d.Sc v}++[eG L M]) Zj (IG ?_);refine⟨X,?_,?_⟩
  .simp only[cF,fp, *,ai,ah]<;>exact rfl
  simp only[cF,fp, *,ai,ah]<;>exact rfl
 refine Zw6 ?_ ?_<;>intro hc5
 .refine Z_6 ?_;refine ZcM ([pT D.bi d.Sc d.mask]) (λw hi hin=>Ed D.bi d.Sc d.mask v w hin) ?_;refine Z_9 ?_;refine bG (kO D L.bm X {d with mask:=bits .and .u32 v 255}++[eG L M]) Zj (IG ?_);refine⟨X,?_,?_⟩
  .simp only[cF,fp, *,ai,ah]<;>exact rfl
  simp only[cF,fp, *,ai,ah]<;>exact rfl
 refine Zw6 ?_ ?_<;>intro hc7
 .refine Z_6 ?_;refine ZcM ([GS D.bti d.timer]) (λw hi hin=>tset_ok D.bti d.timer v w hin) ?_;refine Z_9 ?_;refine bG (kO D L.bm X {d with timer:=v}++[eG L M]) Zj (IG ?_);refine⟨X,?_,?_⟩
  .simp only[cF,fp, *,ai,ah]<;>exact rfl
  simp only[cF,fp, *,ai,ah]<;>exact rfl
 refine Zw6 ?_ ?_<;>intro hc9
 .refine Z_6 ?_;refine nP ?_;refine dz ([ww D.bcn X.Ao d.out.length X.co X.Ai d.inp.length X.ci,b8 X.Ao X.co d.out]) (λw hi hin=>Mv D.bcn X.Ao X.co d.out X.Ai d.inp.length X.ci (IntKind.u8.wrap v) ho w hin) ?_;rintro _ _ ⟨Ao',co',rfl,rfl⟩;refine Z_9 ?_;refine bG (kO D L.bm ⟨Ao',co',X.Ai,X.ci⟩ {d with out:=d.out++[IntKind.u8.wrap v]}++[eG L M]) Zj (IG ?_);refine⟨⟨Ao',co',X.Ai,X.ci⟩,?_,?_⟩
  .simp only[cF, *,ai,ah]<;>exact rfl
  simp only[cF, *,ai,ah]<;>exact rfl
 refine Zw6 ?_ ?_<;>intro hc11
 .refine Z_5 ?_;refine ZL ?_;refine Z_9 ?_;refine IG ?_;refine⟨X,?_,?_⟩
  .simp only[cF,fp, *,ai,ah]<;>exact rfl
  simp only[cF,fp, *,ai,ah]<;>exact rfl
 refine Zw6 ?_ ?_<;>intro hc13
 .refine Z_5 ?_;refine ZL ?_;refine Z_9 ?_;refine IG ?_;refine⟨X,?_,?_⟩
  .simp only[cF,fp, *,ai,ah]<;>exact rfl
  simp only[cF,fp, *,ai,ah]<;>exact rfl
 refine Zw6 ?_ ?_<;>intro hc15
 .refine Z_5 ?_;refine ZL ?_;refine Z_4 ?_;refine bL ⟨λj=>List.elem j [17],[]⟩ Zk (lU ?_);refine ZFe 2 3 ?_;refine oO ?_;refine ZFe 6 4 ?_;refine ZG 7 ?_;refine ZE 8 ?_;refine ZE 9 ?_;refine ZFe 10 5 ?_;refine ZG 11 ?_;refine ZE 12 ?_;refine ZE 13 ?_;refine ZFe 14 6 ?_;refine ZG 15 ?_;refine ZE 16 ?_;refine cn 17 Zk (pL ([I1 D.bdr D.bdk,Ik D.bdk d.Sb,eG L M]) (λw hi hin=>PV D.bdr D.bdk L M d.Sb hd.Sb hd.SU d.RH d.place v hd.RH hd.place w hin) ?_);rintro _ _ ⟨rfl,rfl⟩;refine eQ ?_;refine Zt (ZW ?_ ?_)<;>intro hc17
  .refine Z_4 ?_;refine ZL ?_;refine Z_7 ?_;refine kY ?_;rintro _ _ ⟨b86,rfl,rfl⟩;refine ZcM ([pT D.bi d.Sc d.mask]) (λw hi hin=>nA D.bi d.Sc d.mask (sA b86) 1 [2] cH w hin (λw' hk=>hi.rdK (show C7 _ (pT D.bi d.Sc d.mask) (slv 3 1 (sA b86) 1 1 [.i 2])from(by repeat (first|(refine .l _ ?_;repeat (first|exact .head _ _|apply Has.tail))|(refine .r _ ?_;repeat (first|exact .head _ _|apply Has.tail))|apply C7.t))) hk)) ?_;refine Z_9 ?_;refine bG (kO D L.bm X {d with Sb:=(gc L.n M d.Sb d.RH d.place v).2.2,status:=0,Sc:=bits .or .u32 d.Sc (nz [2])}++[eG L (gc L.n M d.Sb d.RH d.place v).2.1]) Zj (IG ?_);refine⟨X,?_,?_⟩
   .simp only[cF,fp, *,ai,ah]<;>exact rfl
   simp only[cF,fp, *,ai,ah]<;>exact rfl
  refine Z_7 ?_;refine kY ?_;rintro _ _ ⟨b86,rfl,rfl⟩;refine ZcM ([pT D.bi d.Sc d.mask]) (λw hi hin=>nA D.bi d.Sc d.mask (sA b86) 1 [2] cH w hin (λw' hk=>hi.rdK (show C7 _ (pT D.bi d.Sc d.mask) (slv 3 1 (sA b86) 1 1 [.i 2])from(by repeat (first|(refine .l _ ?_;repeat (first|exact .head _ _|apply Has.tail))|(refine .r _ ?_;repeat (first|exact .head _ _|apply Has.tail))|apply C7.t))) hk)) ?_;refine Z_9 ?_;refine bG (kO D L.bm X {d with Sb:=(gc L.n M d.Sb d.RH d.place v).2.2,status:=1,Sc:=bits .or .u32 d.Sc (nz [2])}++[eG L (gc L.n M d.Sb d.RH d.place v).2.1]) Zj (IG ?_);refine⟨X,?_,?_⟩
  .simp only[cF,fp, *,ai,ah]<;>exact rfl
  simp only[cF,fp, *,ai,ah]<;>exact rfl
 refine Zw7 ?_ ?_<;>intro hc20
 .refine Z_2 ?_;refine bW rfl (hc20) (Z_9 ?_);refine IG ?_;refine⟨X,?_,?_⟩
  .simp only[cF,fp, *,ai,ah]<;>exact rfl
  simp only[cF,fp, *,ai,ah]<;>exact rfl
 refine Zw6 ?_ ?_<;>intro hc21
 .refine Z_2 ?_;refine bW rfl (hc21) (Z_9 ?_);refine IG ?_;refine⟨X,?_,?_⟩
  .simp only[cF,fp, *,ai,ah]<;>exact rfl
  simp only[cF,fp, *,ai,ah]<;>exact rfl
 refine Zw6 ?_ ?_<;>intro hc22
 .refine Z_2 ?_;refine bW rfl (hc22) (Z_9 ?_);refine IG ?_;refine⟨X,?_,?_⟩
  .simp only[cF,fp, *,ai,ah]<;>exact rfl
  simp only[cF,fp, *,ai,ah]<;>exact rfl
 refine Zw5 ?_ ?_<;>intro hc23
 .refine Z_9 ?_;refine IG ?_;refine⟨X,?_,?_⟩
  .simp only[cF,fp, *,ai,ah]<;>exact rfl
  simp only[cF,fp, *,ai,ah]<;>exact rfl
 refine Z_8 ?_;refine IG ?_;refine⟨X,?_,?_⟩
 .simp only[cF,fp, *,ai,ah]<;>exact rfl
 simp only[cF,fp, *,ai,ah]<;>exact rfl
def zG(op:Int):Bool:=bif op==16 then true else bif op==17 then true else bif op==18 then true else bif op==19 then true else bif op==20 then true else bif op==21 then true else bif op==22 then true else bif op==23 then true else bif op==24 then true else bif op==25 then true else bif op==48 then true else bif op==49 then true else bif op==50 then true else bif op==51 then true else bif op==52 then true else bif op==53 then true else bif op==64 then true else bif op==65 then true else bif op==66 then true else bif op==67 then true else bif op==68 then true else bif op==69 then true else false
def vn(op:Int):Bool:=bif op==0 then true else bif op==1 then true else bif op==2 then true else bif op==3 then true else bif op==4 then true else bif op==5 then true else bif op==6 then true else bif op==7 then true else bif op==8 then true else bif op==32 then true else bif op==33 then true else bif op==34 then true else bif op==35 then true else bif op==36 then true else bif op==37 then true else bif op==38 then true else bif op==39 then true else bif op==40 then true else zG op
def cy(op:Int):Int:=bif op==1 then 2 else bif op==32 then 2 else bif op==33 then 2 else bif op==34 then 2 else bif op==35 then 2 else bif op==36 then 2 else bif op==37 then 2 else bif op==38 then 2 else bif op==66 then 2 else bif op==67 then 2 else bif op==2 then 5 else bif !vn op then 0 else 1
def gV(op n:Int):Bool:=bif cy op==0 then false else bif cy op==1 then n==0 else bif cy op==2 then decide (n<=255)else true
def rN(op:Int):Bool:=decide (65<=op)&&decide (op<=69)
def du(r:Int):Int:=bif bits .and .u32 r 2147483648 !=0 then bits .or .u32 (bif r==0 then bits .or .u32 0 1 else 0) 2 else bif r==0 then bits .or .u32 0 1 else 0
def iv(a b:Int)(up:Bool):Int:=bif decide (32<=b)then 0 else bif up then IntKind.u32.wrap (a*2^(min b.toNat IntKind.u32.bits))else a.fdiv (2^(min b.toNat IntKind.u32.bits))
def jy(a b r f:Int)(c:Bool)(o:Int):Int:=bif o !=0 then bits .or .u32 (bif c then bits .or .u32 f 4 else f) 8 else bif c then bits .or .u32 f 4 else f
def kI(a b:Int):Int:=jy a b 0 (du (IntKind.u32.wrap (a - b))) (decide (a<b)) (bits .and .u32 (bits .and .u32 (bits .xor .u32 a b) (bits .xor .u32 a (IntKind.u32.wrap (a - b)))) 2147483648)
def nF(a b:Int):Int:=jy a b 0 (du (IntKind.u32.wrap (a+b))) (decide (IntKind.u32.wrap (a+b)<a)) (bits .and .u32 (bits .and .u32 (bits .xor .u32 a (IntKind.u32.wrap (a+b))) (bits .xor .u32 b (IntKind.u32.wrap (a+b)))) 2147483648)
def Qj(r:Int):Int×Int×Bool:=(r,du r,true)
def jH(op a b:Int):Int×Int×Bool:=
 bif op==16 then(IntKind.u32.wrap (a+b),nF a b,true)else bif op==17 then(IntKind.u32.wrap (a - b),kI a b,true)else bif op==25 then(0,kI a b,true)else bif op==18 then Qj (bits .and .u32 a b)else bif op==19 then Qj (bits .or .u32 a b)else bif op==20 then Qj (bits .xor .u32 a b)else bif op==21 then Qj (iv a b true)else bif op==22 then Qj (iv a b false)else bif op==23 then Qj (IntKind.u32.wrap (a*b))else bif op==24 then(bif b==0 then(0,0,false)else Qj (IntKind.u32.wrap (a.tdiv b)))else(0,0,false)
def dm(op f:Int):Bool×Bool:=bif op==33 then(bits .and .u32 f 1 !=0,true)else bif op==34 then(bits .and .u32 f 1==0,true)else bif op==35 then(bits .and .u32 f 4 !=0,true)else bif op==36 then(bits .and .u32 f 2 !=0,true)else bif op==37 then(bits .and .u32 f 8 !=0,true)else(false,false)
def lP(b:Int):Int:=IntKind.u32.wrap (IntKind.i32.wrap (IntKind.i8.wrap b))
def bO(op:Int):(Nat×Nat)×(Nat×Nat):=
 bif op==1 then((0,1),(0,0))else bif op==2 then((0,1),(0,0))else bif op==66 then((0,1),(0,0))else bif op==3 then((1,2),(0,0))else bif op==4 then((1,0),(0,0))else bif op==40 then((1,0),(0,0))else bif op==67 then((1,0),(0,0))else bif op==68 then((1,0),(0,0))else bif op==5 then((2,2),(0,0))else bif op==6 then((2,3),(0,0))else bif op==7 then((1,0),(0,1))else bif op==8 then((0,1),(1,0))else bif op==16 then((2,1),(0,0))else bif op==17 then((2,1),(0,0))else bif op==18 then((2,1),(0,0))else bif op==19 then((2,1),(0,0))else bif op==20 then((2,1),(0,0))else bif op==21 then((2,1),(0,0))else bif op==22 then((2,1),(0,0))else bif op==23 then((2,1),(0,0))else bif op==24 then((2,1),(0,0))else bif op==25 then((2,0),(0,0))else bif op==49 then((2,0),(0,0))else bif op==51 then((2,0),(0,0))else bif op==53 then((2,0),(0,0))else bif op==48 then((1,1),(0,0))else bif op==50 then((1,1),(0,0))else bif op==52 then((1,1),(0,0))else bif op==38 then((0,0),(0,1))else bif op==39 then((0,0),(1,0))else((0,0),(0,0))
theorem OF(op:Int)(w:World):Ctr prog 248 [.i op] w [] (λv cs=>(∃s,v= .string s/\(s.data.toList==[])= !zG op)/\cs=[]):=by
 refine Zfs func248 ntmps248 ?_;refine AO ?_;refine ZW ?_ ?_<;>intro hc2
 .refine gf ?_;refine⟨⟨_,rfl,?_⟩,rfl⟩;exact wG
 refine Zw6 ?_ ?_<;>intro hc4
 .refine gf ?_;refine⟨⟨_,rfl,?_⟩,rfl⟩;exact wG
 refine Zw6 ?_ ?_<;>intro hc6
 .refine gf ?_;refine⟨⟨_,rfl,?_⟩,rfl⟩;exact wG
 refine Zw6 ?_ ?_<;>intro hc8
 .refine gf ?_;refine⟨⟨_,rfl,?_⟩,rfl⟩;exact wG
 refine Zw6 ?_ ?_<;>intro hc10
 .refine gf ?_;refine⟨⟨_,rfl,?_⟩,rfl⟩;exact wG
 refine Zw6 ?_ ?_<;>intro hc12
 .refine gf ?_;refine⟨⟨_,rfl,?_⟩,rfl⟩;exact wG
 refine Zw6 ?_ ?_<;>intro hc14
 .refine gf ?_;refine⟨⟨_,rfl,?_⟩,rfl⟩;exact wG
 refine Zw6 ?_ ?_<;>intro hc16
 .refine gf ?_;refine⟨⟨_,rfl,?_⟩,rfl⟩;exact wG
 refine Zw6 ?_ ?_<;>intro hc18
 .refine gf ?_;refine⟨⟨_,rfl,?_⟩,rfl⟩;exact wG
 refine Zw6 ?_ ?_<;>intro hc20
 .refine gf ?_;refine⟨⟨_,rfl,?_⟩,rfl⟩;exact wG
 refine Zw6 ?_ ?_<;>intro hc22
 .refine gf ?_;refine⟨⟨_,rfl,?_⟩,rfl⟩;exact wG
 refine Zw6 ?_ ?_<;>intro hc24
 .refine gf ?_;refine⟨⟨_,rfl,?_⟩,rfl⟩;exact wG
 refine Zw6 ?_ ?_<;>intro hc26
 .refine gf ?_;refine⟨⟨_,rfl,?_⟩,rfl⟩;exact wG
 refine Zw6 ?_ ?_<;>intro hc28
 .refine gf ?_;refine⟨⟨_,rfl,?_⟩,rfl⟩;exact wG
 refine Zw6 ?_ ?_<;>intro hc30
 .refine gf ?_;refine⟨⟨_,rfl,?_⟩,rfl⟩;exact wG
 refine Zw6 ?_ ?_<;>intro hc32
 .refine gf ?_;refine⟨⟨_,rfl,?_⟩,rfl⟩;exact wG
 refine Zw6 ?_ ?_<;>intro hc34
 .refine gf ?_;refine⟨⟨_,rfl,?_⟩,rfl⟩;exact wG
 refine Zw6 ?_ ?_<;>intro hc36
 .refine gf ?_;refine⟨⟨_,rfl,?_⟩,rfl⟩;exact wG
 refine Zw6 ?_ ?_<;>intro hc38
 .refine gf ?_;refine⟨⟨_,rfl,?_⟩,rfl⟩;exact wG
 refine Zw6 ?_ ?_<;>intro hc40
 .refine gf ?_;refine⟨⟨_,rfl,?_⟩,rfl⟩;exact wG
 refine Zw6 ?_ ?_<;>intro hc42
 .refine gf ?_;refine⟨⟨_,rfl,?_⟩,rfl⟩;exact wG
 refine Zw6 ?_ ?_<;>intro hc44
 .refine gf ?_;refine⟨⟨_,rfl,?_⟩,rfl⟩;exact wG
 refine ls ?_;refine⟨⟨_,rfl,?_⟩,rfl⟩;exact wG
theorem name_ok(op:Int)(w:World):Ctr prog 203 [.i op] w [] (λv cs=>(∃s,v= .string s/\(s.data.toList==[])= !vn op)/\cs=[]):=by
 refine Zfs func203 ntmps203 ?_;refine AO ?_;refine ZW ?_ ?_<;>intro hc2
 .refine gf ?_;refine⟨⟨_,rfl,?_⟩,rfl⟩;exact AQ
 refine Zw6 ?_ ?_<;>intro hc4
 .refine gf ?_;refine⟨⟨_,rfl,?_⟩,rfl⟩;exact AQ
 refine Zw6 ?_ ?_<;>intro hc6
 .refine gf ?_;refine⟨⟨_,rfl,?_⟩,rfl⟩;exact AQ
 refine Zw6 ?_ ?_<;>intro hc8
 .refine gf ?_;refine⟨⟨_,rfl,?_⟩,rfl⟩;exact AQ
 refine Zw6 ?_ ?_<;>intro hc10
 .refine gf ?_;refine⟨⟨_,rfl,?_⟩,rfl⟩;exact AQ
 refine Zw6 ?_ ?_<;>intro hc12
 .refine gf ?_;refine⟨⟨_,rfl,?_⟩,rfl⟩;exact AQ
 refine Zw6 ?_ ?_<;>intro hc14
 .refine gf ?_;refine⟨⟨_,rfl,?_⟩,rfl⟩;exact AQ
 refine Zw6 ?_ ?_<;>intro hc16
 .refine gf ?_;refine⟨⟨_,rfl,?_⟩,rfl⟩;exact AQ
 refine Zw6 ?_ ?_<;>intro hc18
 .refine gf ?_;refine⟨⟨_,rfl,?_⟩,rfl⟩;exact AQ
 refine Zw6 ?_ ?_<;>intro hc20
 .refine gf ?_;refine⟨⟨_,rfl,?_⟩,rfl⟩;exact AQ
 refine Zw6 ?_ ?_<;>intro hc22
 .refine gf ?_;refine⟨⟨_,rfl,?_⟩,rfl⟩;exact AQ
 refine Zw6 ?_ ?_<;>intro hc24
 .refine gf ?_;refine⟨⟨_,rfl,?_⟩,rfl⟩;exact AQ
 refine Zw6 ?_ ?_<;>intro hc26
 .refine gf ?_;refine⟨⟨_,rfl,?_⟩,rfl⟩;exact AQ
 refine Zw6 ?_ ?_<;>intro hc28
 .refine gf ?_;refine⟨⟨_,rfl,?_⟩,rfl⟩;exact AQ
 refine Zw6 ?_ ?_<;>intro hc30
 .refine gf ?_;refine⟨⟨_,rfl,?_⟩,rfl⟩;exact AQ
 refine Zw6 ?_ ?_<;>intro hc32
 .refine gf ?_;refine⟨⟨_,rfl,?_⟩,rfl⟩;exact AQ
 refine Zw6 ?_ ?_<;>intro hc34
 .refine gf ?_;refine⟨⟨_,rfl,?_⟩,rfl⟩;exact AQ
 refine Zw6 ?_ ?_<;>intro hc36
 .refine gf ?_;refine⟨⟨_,rfl,?_⟩,rfl⟩;exact AQ
 refine Z_6 ?_;refine ZSn (λw hi=>OF op w) ?_;rintro _ _ ⟨⟨s,rfl,hs⟩,rfl⟩;refine Z_4 ?_;have hz:=hs;refine Zra ?_;refine⟨⟨_,rfl,?_⟩,rfl⟩;rw[hs];simp only[vn, *,ai,ah]
theorem zd(op:Int)(w:World):Ctr prog 168 [.i op] w [] (λv cs=>v= .i (cy op)/\cs=[]):=by
 refine Zfs func168 ntmps168 ?_;refine IB ?_;refine ZW ?_ ?_<;>intro hc2
 .refine Z_2 ?_;refine bW rfl (hc2) (gf ?_);refine⟨?_,rfl⟩;exact sB
 refine Zw6 ?_ ?_<;>intro hc3
 .refine Z_2 ?_;refine bW rfl (hc3) (gf ?_);refine⟨?_,rfl⟩;exact sB
 refine Zw6 ?_ ?_<;>intro hc4
 .refine Z_2 ?_;refine bW rfl (hc4) (gf ?_);refine⟨?_,rfl⟩;exact sB
 refine Zw6 ?_ ?_<;>intro hc5
 .refine Z_2 ?_;refine bW rfl (hc5) (gf ?_);refine⟨?_,rfl⟩;exact sB
 refine Zw6 ?_ ?_<;>intro hc6
 .refine Z_2 ?_;refine bW rfl (hc6) (gf ?_);refine⟨?_,rfl⟩;exact sB
 refine Zw6 ?_ ?_<;>intro hc7
 .refine Z_2 ?_;refine bW rfl (hc7) (gf ?_);refine⟨?_,rfl⟩;exact sB
 refine Zw6 ?_ ?_<;>intro hc8
 .refine Z_2 ?_;refine bW rfl (hc8) (gf ?_);refine⟨?_,rfl⟩;exact sB
 refine Zw6 ?_ ?_<;>intro hc9
 .refine Z_2 ?_;refine bW rfl (hc9) (gf ?_);refine⟨?_,rfl⟩;exact sB
 refine Zw6 ?_ ?_<;>intro hc10
 .refine Z_2 ?_;refine bW rfl (hc10) (gf ?_);refine⟨?_,rfl⟩;exact sB
 refine Zw5 ?_ ?_<;>intro hc11
 .refine gf ?_;refine⟨?_,rfl⟩;exact sB
 refine Zw6 ?_ ?_<;>intro hc13
 .refine gf ?_;refine⟨?_,rfl⟩;exact sB
 refine Z_7 ?_;refine ZSn (λw hi=>name_ok op w) ?_;rintro _ _ ⟨⟨s,rfl,hs⟩,rfl⟩;refine Zy (uy rfl (Zv rfl) (Zv rfl) hs) ?_;refine Z_2 ?_;refine ZW ?_ ?_<;>intro hc15
 .refine Z_7 ?_;refine Zra ?_;refine⟨?_,rfl⟩;exact sB
 refine gf ?_;refine⟨?_,rfl⟩;exact sB
theorem Cj(op n:Int)(w:World):Ctr prog 179 [.agg #[.i op,.w n]] w [] (λv cs=>v= .bool (gV op n)/\cs=[]):=by
 refine Zfs func179 ntmps179 ?_;refine Z_2 ?_;refine ZO λb1=>?_;refine Z_8 ?_;refine ZSe (λw hi=>zd op w) ?_;refine Zw9 ?_ ?_<;>intro hc2
 .refine gf ?_;refine⟨?_,rfl⟩;simp only[gV, *,ai,ah]
 refine Zw6 ?_ ?_<;>intro hc4
 .refine rf ?_;refine⟨?_,rfl⟩;simp only[gV, *,ai,ah]
 refine Zw6 ?_ ?_<;>intro hc6
 .refine rf ?_;refine⟨?_,rfl⟩;simp only[gV, *,ai,ah]
 refine ls ?_;refine⟨?_,rfl⟩;simp only[gV, *,ai,ah]
theorem LJ(op:Int)(w:World):Ctr prog 199 [.i op] w [] (λv cs=>v= .bool (rN op)/\cs=[]):=by
 refine Zfs func199 ntmps199 ?_;refine AG ?_;exact pM
theorem zC(r:Int)(w:World):Ctr prog 252 [.w r] w [] (λv cs=>v= .w (du r)/\cs=[]):=by
 refine Zfs func252 ntmps252 ?_;refine AG ?_;refine ZW ?_ ?_<;>intro hc2
 .refine AN ?_ ?_<;>intro hc4
  .refine kM ?_;refine Zra ?_;refine⟨?_,rfl⟩;simp only[du, *,ai,ah]
  refine ls ?_;refine⟨?_,rfl⟩;simp only[du, *,ai,ah]
 refine pV ?_ ?_<;>intro hc4
 .refine kM ?_;refine Zra ?_;refine⟨?_,rfl⟩;simp only[du, *,ai,ah]
 refine ls ?_;refine⟨?_,rfl⟩;simp only[du, *,ai,ah]
theorem FC(a b:Int)(up:Bool)(hb:0<=b)(w:World):Ctr prog 251 [.w a,.w b,.bool up] w [] (λv cs=>v= .w (iv a b up)/\cs=[]):=by
 refine Zfs func251 ntmps251 ?_;refine AN ?_ ?_<;>intro hc1
 .refine gf ?_;refine⟨?_,rfl⟩;simp only[iv, *,ai,ah]
 refine Zw6 ?_ ?_<;>intro hc3
 .refine Z_4 ?_;refine Zy (yI (Zv rfl) (Zv rfl) Wq1 rfl) ?_;refine Z_6 ?_;refine Zra ?_;refine⟨?_,rfl⟩;simp only[iv, *,ai,ah]
 refine Z_7 ?_;refine Zy (lW (Zv rfl) (Zv rfl) Wq1 rfl) ?_;refine Z_4 ?_;refine Zra ?_;refine⟨?_,rfl⟩;simp only[iv, *,ai,ah]
theorem Lb(a b:Int)(w:World):Ctr prog 250 [.w a,.w b] w [] (λv cs=>v= .w (kI a b)/\cs=[]):=by
 refine Zfs func250 ntmps250 ?_;refine Z_9 ?_;refine Zy (gr Zv0 Zv0 rfl) ?_;refine Z_6 ?_;refine ZSe (λw hi=>zC _ w) ?_;refine gK ?_;refine ZW ?_ ?_<;>intro hc3
 .refine kX ?_;refine ZW ?_ ?_<;>intro hc5
  .refine kM ?_;refine Zra ?_;refine⟨?_,rfl⟩;simp only[kI,jy, *,ai,ah]
  refine ls ?_;refine⟨?_,rfl⟩;simp only[kI,jy, *,ai,ah]
 refine sw ?_;refine ZW ?_ ?_<;>intro hc5
 .refine kM ?_;refine Zra ?_;refine⟨?_,rfl⟩;simp only[kI,jy, *,ai,ah]
 refine ls ?_;refine⟨?_,rfl⟩;simp only[kI,jy, *,ai,ah]
theorem more_ok(a b:Int)(w:World):Ctr prog 249 [.w a,.w b] w [] (λv cs=>v= .w (nF a b)/\cs=[]):=by
 refine Zfs func249 ntmps249 ?_;refine Z_9 ?_;refine pP ?_;refine Z_6 ?_;refine ZSe (λw hi=>zC _ w) ?_;refine gK ?_;refine ZW ?_ ?_<;>intro hc3
 .refine kX ?_;refine ZW ?_ ?_<;>intro hc5
  .refine kM ?_;refine Zra ?_;refine⟨?_,rfl⟩;simp only[nF,jy, *,ai,ah]
  refine ls ?_;refine⟨?_,rfl⟩;simp only[nF,jy, *,ai,ah]
 refine sw ?_;refine ZW ?_ ?_<;>intro hc5
 .refine kM ?_;refine Zra ?_;refine⟨?_,rfl⟩;simp only[nF,jy, *,ai,ah]
 refine ls ?_;refine⟨?_,rfl⟩;simp only[nF,jy, *,ai,ah]
theorem ado_ok(op a b:Int)(hb:0<=b)(w:World):Ctr prog 207 [.i op,.w a,.w b] w [] (λv cs=>v= .tuple #[.w (jH op a b).1,.w (jH op a b).2.1,.bool (jH op a b).2.2]/\cs=[]):=by
 refine Zfs func207 ntmps207 ?_;refine kX ?_;refine Zw5 ?_ ?_<;>intro hc4
 .refine Z_4 ?_;refine pP ?_;refine Z_2 ?_;refine ZSe (λw hi=>more_ok a b w) ?_;refine Z_8 ?_;refine MT ?_;refine⟨?_,rfl⟩;exact tL
 refine Zw6 ?_ ?_<;>intro hc6
 .refine Z_4 ?_;refine Zy (gr Zv0 Zv0 rfl) ?_;refine Z_2 ?_;refine ZSe (λw hi=>Lb a b w) ?_;refine Z_8 ?_;refine MT ?_;refine⟨?_,rfl⟩;exact tL
 refine Zw6 ?_ ?_<;>intro hc8
 .refine Z_4 ?_;refine ZSe (λw hi=>Lb a b w) ?_;refine Z_8 ?_;refine MT ?_;refine⟨?_,rfl⟩;exact tL
 refine Zw6 ?_ ?_<;>intro hc10
 .refine fD ?_;refine EJ ?_;refine⟨?_,rfl⟩;exact tL
 refine Zw6 ?_ ?_<;>intro hc12
 .refine fD ?_;refine EJ ?_;refine⟨?_,rfl⟩;exact tL
 refine Zw6 ?_ ?_<;>intro hc14
 .refine fD ?_;refine EJ ?_;refine⟨?_,rfl⟩;exact tL
 refine Zw6 ?_ ?_<;>intro hc16
 .refine Z_3 ?_;refine ZSe (λw hi=>FC a b _ hb w) ?_;refine Z_8 ?_;refine EJ ?_;refine⟨?_,rfl⟩;exact tL
 refine Zw6 ?_ ?_<;>intro hc18
 .refine Z_3 ?_;refine ZSe (λw hi=>FC a b _ hb w) ?_;refine Z_8 ?_;refine EJ ?_;refine⟨?_,rfl⟩;exact tL
 refine Zw6 ?_ ?_<;>intro hc20
 .refine Z_3 ?_;refine Zy (jR Zv0 Zv0 rfl) ?_;refine Z_8 ?_;refine EJ ?_;refine⟨?_,rfl⟩;exact tL
 refine Zw6 ?_ ?_<;>intro hc22
 .refine Zw7 ?_ ?_<;>intro hc23
  .refine gK ?_;refine MT ?_;refine⟨?_,rfl⟩;exact tL
  have hb0:b≠0:=by simpa using hc23
  refine Z_5 ?_;refine Zy (k8 (Zv rfl) (Zv rfl) Wq1 (by first|exact IntWalk.u32_quo _ _ ⟨by omega,by omega,by omega⟩|exact rfl)) ?_;refine Z_8 ?_;refine EJ ?_;refine⟨?_,rfl⟩;exact tL
 refine fB ?_;refine MT ?_;refine⟨?_,rfl⟩;exact tL
theorem Ps(op f:Int)(w:World):Ctr prog 209 [.i op,.w f] w [] (λv cs=>v= .tuple #[.bool (dm op f).1,.bool (dm op f).2]/\cs=[]):=by
 refine Zfs func209 ntmps209 ?_;refine IB ?_;refine ZW ?_ ?_<;>intro hc2
 .refine fD ?_;refine mQ ?_;refine⟨?_,rfl⟩;exact IE
 refine Zw6 ?_ ?_<;>intro hc4
 .refine fD ?_;refine mQ ?_;refine⟨?_,rfl⟩;exact IE
 refine Zw6 ?_ ?_<;>intro hc6
 .refine fD ?_;refine mQ ?_;refine⟨?_,rfl⟩;exact IE
 refine Zw6 ?_ ?_<;>intro hc8
 .refine fD ?_;refine mQ ?_;refine⟨?_,rfl⟩;exact IE
 refine Zw6 ?_ ?_<;>intro hc10
 .refine fD ?_;refine mQ ?_;refine⟨?_,rfl⟩;exact IE
 refine fB ?_;refine mQ ?_;refine⟨?_,rfl⟩;exact IE
theorem DB(b:Int)(w:World):Ctr prog 181 [.w b] w [] (λv cs=>v= .w (lP b)/\cs=[]):=by
 refine Zfs func181 ntmps181 ?_;refine Z_8 ?_;refine nP ?_;refine nP ?_;refine nP ?_;exact mF
theorem OQ(op:Int)(w:World):Ctr prog 202 [.i op] w [] (λv cs=>v= .tuple #[.i ((bO op).1.1:Nat),.i ((bO op).1.2:Nat),.i ((bO op).2.1:Nat),.i ((bO op).2.2:Nat)]/\cs=[]):=by
 refine Zfs func202 ntmps202 ?_;refine kX ?_;refine Z_2 ?_;refine ZW ?_ ?_<;>intro hc2
 .refine Z_2 ?_;refine bW rfl (hc2) (pX ?_);refine⟨?_,rfl⟩;exact pO
 refine Zw6 ?_ ?_<;>intro hc3
 .refine Z_2 ?_;refine bW rfl (hc3) (pX ?_);refine⟨?_,rfl⟩;exact pO
 refine Zw5 ?_ ?_<;>intro hc4
 .refine pX ?_;refine⟨?_,rfl⟩;exact pO
 refine Zw6 ?_ ?_<;>intro hc6
 .refine pX ?_;refine⟨?_,rfl⟩;exact pO
 refine Zw7 ?_ ?_<;>intro hc8
 .refine Z_2 ?_;refine bW rfl (hc8) (pX ?_);refine⟨?_,rfl⟩;exact pO
 refine Zw6 ?_ ?_<;>intro hc9
 .refine Z_2 ?_;refine bW rfl (hc9) (pX ?_);refine⟨?_,rfl⟩;exact pO
 refine Zw6 ?_ ?_<;>intro hc10
 .refine Z_2 ?_;refine bW rfl (hc10) (pX ?_);refine⟨?_,rfl⟩;exact pO
 refine Zw5 ?_ ?_<;>intro hc11
 .refine pX ?_;refine⟨?_,rfl⟩;exact pO
 refine Zw6 ?_ ?_<;>intro hc13
 .refine pX ?_;refine⟨?_,rfl⟩;exact pO
 refine Zw6 ?_ ?_<;>intro hc15
 .refine pX ?_;refine⟨?_,rfl⟩;exact pO
 refine Zw6 ?_ ?_<;>intro hc17
 .refine pX ?_;refine⟨?_,rfl⟩;exact pO
 refine Zw6 ?_ ?_<;>intro hc19
 .refine pX ?_;refine⟨?_,rfl⟩;exact pO
 refine Zw7 ?_ ?_<;>intro hc21
 .refine Z_2 ?_;refine bW rfl (hc21) (pX ?_);refine⟨?_,rfl⟩;exact pO
 refine Zw6 ?_ ?_<;>intro hc22
 .refine Z_2 ?_;refine bW rfl (hc22) (pX ?_);refine⟨?_,rfl⟩;exact pO
 refine Zw6 ?_ ?_<;>intro hc23
 .refine Z_2 ?_;refine bW rfl (hc23) (pX ?_);refine⟨?_,rfl⟩;exact pO
 refine Zw6 ?_ ?_<;>intro hc24
 .refine Z_2 ?_;refine bW rfl (hc24) (pX ?_);refine⟨?_,rfl⟩;exact pO
 refine Zw6 ?_ ?_<;>intro hc25
 .refine Z_2 ?_;refine bW rfl (hc25) (pX ?_);refine⟨?_,rfl⟩;exact pO
 refine Zw6 ?_ ?_<;>intro hc26
 .refine Z_2 ?_;refine bW rfl (hc26) (pX ?_);refine⟨?_,rfl⟩;exact pO
 refine Zw6 ?_ ?_<;>intro hc27
 .refine Z_2 ?_;refine bW rfl (hc27) (pX ?_);refine⟨?_,rfl⟩;exact pO
 refine Zw6 ?_ ?_<;>intro hc28
 .refine Z_2 ?_;refine bW rfl (hc28) (pX ?_);refine⟨?_,rfl⟩;exact pO
 refine Zw5 ?_ ?_<;>intro hc29
 .refine pX ?_;refine⟨?_,rfl⟩;exact pO
 refine Zw7 ?_ ?_<;>intro hc31
 .refine Z_2 ?_;refine bW rfl (hc31) (pX ?_);refine⟨?_,rfl⟩;exact pO
 refine Zw6 ?_ ?_<;>intro hc32
 .refine Z_2 ?_;refine bW rfl (hc32) (pX ?_);refine⟨?_,rfl⟩;exact pO
 refine Zw6 ?_ ?_<;>intro hc33
 .refine Z_2 ?_;refine bW rfl (hc33) (pX ?_);refine⟨?_,rfl⟩;exact pO
 refine Zw5 ?_ ?_<;>intro hc34
 .refine pX ?_;refine⟨?_,rfl⟩;exact pO
 refine Zw7 ?_ ?_<;>intro hc36
 .refine Z_2 ?_;refine bW rfl (hc36) (pX ?_);refine⟨?_,rfl⟩;exact pO
 refine Zw6 ?_ ?_<;>intro hc37
 .refine Z_2 ?_;refine bW rfl (hc37) (pX ?_);refine⟨?_,rfl⟩;exact pO
 refine Zw5 ?_ ?_<;>intro hc38
 .refine pX ?_;refine⟨?_,rfl⟩;exact pO
 refine Zw6 ?_ ?_<;>intro hc40
 .refine pX ?_;refine⟨?_,rfl⟩;exact pO
 refine Zw6 ?_ ?_<;>intro hc42
 .refine pX ?_;refine⟨?_,rfl⟩;exact pO
 refine fD ?_;refine ret4 (cs':=[]) (.inl rfl) Zu rfl rfl rfl rfl rfl ⟨?_,rfl⟩;exact pO
structure Run where
 s:St
 count:Int
 R8:Tr
 device:Bool
abbrev Run.wd(R:Run)(l:List Int):Run:=⟨⟨R.s.pc,l,R.s.r,R.s.flags,R.s.RM,R.s.RW,R.s.ie,R.s.root,R.s.vec,R.s.epc,R.s.RN,R.s.addr,R.s.Sa,R.s.eie,R.s.count,R.s.halted⟩,R.count,R.R8,R.device⟩
abbrev Run.wr(R:Run)(l:List Int):Run:=⟨⟨R.s.pc,R.s.d,l,R.s.flags,R.s.RM,R.s.RW,R.s.ie,R.s.root,R.s.vec,R.s.epc,R.s.RN,R.s.addr,R.s.Sa,R.s.eie,R.s.count,R.s.halted⟩,R.count,R.R8,R.device⟩
abbrev Run.wt(R:Run)(t:Tr):Run:=⟨R.s,R.count,t,R.device⟩
structure j0 where
 Ad:Option Addr
 cd:Nat
 Ar:Option Addr
 cr:Nat
structure IU where
 br:Nat
 u:Option Addr
 b:Option Addr
abbrev xD(K:IU)(X:j0)(R:Run):bC:=row K.br [.w R.s.pc,.slice X.Ad R.s.d.length X.cd,.slice X.Ar R.s.r.length X.cr,.w R.s.flags,.bool R.s.RM,.bool R.s.RW,.bool R.s.ie,.w R.s.root,.w R.s.vec,.w R.s.epc,.w R.s.RN,.w R.s.addr,.bool R.s.Sa,.bool R.s.eie,.int .u64 R.s.count,.bool R.s.halted,.int .u64 R.count,.pointer K.u,.pointer K.b,.i R.R8.RN,.w R.R8.addr,.bool R.device] 277
abbrev fb(K:IU)(X:j0)(R:Run):List bC:=[xD K X R,slD R.s X.Ad X.cd,slR R.s X.Ar X.cr]
theorem mH(K:IU)(X:j0)(R:Run)(l:List Int)(x:Int)(w:World)(hi:Inv w (bD (fb K X (R.wd (l++[x])))) (fb K X (R.wd (l++[x]))) w):
  Ctr prog 205 [.p K.br] w (fb K X (R.wd (l++[x]))) (λv cs=>v= .w x/\cs=fb K X (R.wd l)):=by
 have hrd:=eL (hi.get (.tail _ (.head _ _)));have hcap:(l++[x]).length<=X.cd:=hrd.cap;have hmax:=hrd.max;simp only[maxLen]at hmax;have hlen:(l++[x]).length=l.length+1:=by simp
 obtain⟨Ad,cd,Ar,cr⟩:=X;obtain⟨bd,rfl⟩:=dV (hi.get (.tail _ (.head _ _))) (show 0<(l++[x]).length by omega);have hcap:(l++[x]).length<=cd:=hcap;have hdl:(R.wd (l++[x])).s.d.length=l.length+1:=hlen;have hmax:cd<=_:=hmax;refine Zfn func205 ntmps205 hi ?_;refine QM ?_;refine Wq224 ?_;refine Z_3 ?_;refine ZL ?_;refine Z_9 ?_;refine kR (c:=slD (R.wd (l++[x])).s (sA bd) cd) (c':=slD (R.wd l).s (sA bd) cd) Za rfl (λw h=>Fc h) (CV ?_);exact fy
theorem Kh(K:IU)(X:j0)(R:Run)(l:List Int)(x:Int)(w:World)(hi:Inv w (bD (fb K X (R.wr (l++[x])))) (fb K X (R.wr (l++[x]))) w):
  Ctr prog 206 [.p K.br] w (fb K X (R.wr (l++[x]))) (λv cs=>v= .w x/\cs=fb K X (R.wr l)):=by
 have hrd:=eL (hi.get (.tail _ (.tail _ (.head _ _))));have hcap:(l++[x]).length<=X.cr:=hrd.cap;have hmax:=hrd.max;simp only[maxLen]at hmax;have hlen:(l++[x]).length=l.length+1:=by simp
 obtain⟨Ad,cd,Ar,cr⟩:=X;obtain⟨bd,rfl⟩:=dV (hi.get (.tail _ (.tail _ (.head _ _)))) (show 0<(l++[x]).length by omega);have hcap:(l++[x]).length<=cr:=hcap;have hdl:(R.wr (l++[x])).s.r.length=l.length+1:=hlen;have hmax:cr<=_:=hmax;refine Zfn func206 ntmps206 hi ?_;refine QM ?_;refine Wq224 ?_;refine Z_3 ?_;refine ZL ?_;refine Z_9 ?_;refine kR (c:=slR (R.wr (l++[x])).s (sA bd) cr) (c':=slR (R.wr l).s (sA bd) cr) Za rfl (λw h=>Fc h) (CV ?_);exact fy
theorem i9(K:IU)(X:j0)(R:Run)(A:Option Addr)(n c:Nat)(ys:List Int)(hs:R.s.d.length+n<=1000000)(w:World)(hi:Inv w (bD (fb K X R)) (fb K X R) w)(h:∀w',cY (bD (fb K X R)) w w'->Rd w' .u32 A n c ys):
  Ctr prog 204 [.p K.br,.slice A n c] w (fb K X R) (λv cs=>∃A' c',v= .tuple #[]/\cs=fb K ⟨A',c',X.Ar,X.cr⟩ (R.wd (R.s.d++ys))):=by
 have hl:n=ys.length:=by have:=(h w (cY.refl _ _)).len;rw[de]at this;omega
 subst hl;refine Zfn func204 ntmps204 hi ?_;refine Z_8 ?_;refine fW (cj (e:=39) (sz:=1) (bytes:=4) rfl rfl Za rfl rfl (λw hi=>h w hi.Sf) di (by simp only[maxLen];omega) Wq1) rfl ?_;rintro _ _ ⟨A',c',rfl,rfl⟩;refine Z_3 ?_;refine ZL ?_;refine Zn (iY (cs':=[row _ _ _,slv _ _ _ _ _ _,slv _ _ _ _ _ _]) (.inr rfl) Zu rfl ?_);exact⟨A',c',rfl,by simp only[fb,xD,slD,slR,aq,bX]⟩
theorem Ah(K:IU)(X:j0)(R:Run)(RN addr:Int)(w:World)(hi:Inv w (bD (fb K X R)) (fb K X R) w):
  Ctr prog 208 [.p K.br,.i RN,.w addr] w (fb K X R) (λv cs=>v= .tuple #[]/\cs=fb K X (R.wt ⟨RN,addr⟩)):=by
 refine Zfn func208 ntmps208 hi ?_;refine Z_7 ?_;refine eE (ki (n:=2) (vs:=[.i RN,.w addr]) Zrf rfl rfl (mO rfl) Za rfl MZ) ?_;rintro _ _ ⟨rfl,rfl⟩;refine Zn (iY (cs':=[row _ _ _,slv _ _ _ _ _ _,slv _ _ _ _ _ _]) (.inr rfl) Zu rfl ?_);exact fy
theorem NZ(K:IU)(X:j0)(R:Run)(w:World)(h:(xD K X R).ok w):
  Ctr prog 258 [.p K.br] w [] (λv cs=>v= .agg #[.bool R.s.RW,.bool R.s.RM,.w R.s.root]/\cs=[]):=by
 refine Zfs func258 ntmps258 ?_;refine Z_2 ?_;refine ZN λb2=>?_;refine Z_3 ?_;refine bL ⟨λj=>List.elem j [16],[]⟩ Zk (lU ?_);refine ZFe 2 0 ?_;refine ZFe 3 5 ?_;refine Zy5 4 rfl (bF Zrf (Zv rfl)) (dc kP rfl) ?_;refine mE ?_;refine ZFe 7 0 ?_;refine ZFe 8 4 ?_;refine Zy5 9 rfl (bF Zrf (Zv rfl)) (dc kP rfl) ?_;refine ZE 10 ?_;refine ZE 11 ?_;refine ZFe 12 0 ?_;refine ZFe 13 7 ?_;refine Zy5 14 rfl (bF Zrf (Zv rfl)) (dc kP rfl) ?_;refine ZE 15 ?_;refine cn 16 Zk (ZR ?_);refine lv ?_;exact M3
def Run.top(R:Run):Int:=R.s.d.getLastD 0
def Run.topR(R:Run):Int:=R.s.r.getLastD 0
def Run.pop(R:Run):Run:=R.wd R.s.d.dropLast
def Run.Su(R:Run):Run:=R.wr R.s.r.dropLast
def Run.push(R:Run)(l:List Int):Run:=R.wd (R.s.d++l)
def Run.Te(R:Run)(x:Int):Run:=R.wr (R.s.r++[x])
abbrev Run.wpc(R:Run)(x:Int):Run:=⟨⟨x,R.s.d,R.s.r,R.s.flags,R.s.RM,R.s.RW,R.s.ie,R.s.root,R.s.vec,R.s.epc,R.s.RN,R.s.addr,R.s.Sa,R.s.eie,R.s.count,R.s.halted⟩,R.count,R.R8,R.device⟩
abbrev Run.wfl(R:Run)(x:Int):Run:=⟨⟨R.s.pc,R.s.d,R.s.r,x,R.s.RM,R.s.RW,R.s.ie,R.s.root,R.s.vec,R.s.epc,R.s.RN,R.s.addr,R.s.Sa,R.s.eie,R.s.count,R.s.halted⟩,R.count,R.R8,R.device⟩
theorem Run.snoc{R:Run}(h:1<=R.s.d.length):∃(R':Run) (l:List Int) (x:Int),R=R'.wd (l++[x]):=by
 obtain⟨l,x,h⟩:=uX h;exact⟨R,l,x,by rw[Run.wd,<-h]⟩
theorem Run.snocR{R:Run}(h:1<=R.s.r.length):∃(R':Run) (l:List Int) (x:Int),R=R'.wr (l++[x]):=by
 obtain⟨l,x,h⟩:=uX h;exact⟨R,l,x,by rw[Run.wr,<-h]⟩
theorem Run.SJ{R:Run}(h:2<=R.s.d.length):∃(R':Run) (l:List Int) (x y:Int),R=R'.wd ((l++[x])++[y]):=by
 obtain⟨R1,l,y,rfl⟩:=Run.snoc (R:=R) Wq1;have h:2<=(l++[y]).length:=h;obtain⟨m,x,rfl⟩:=uX (l:=l) (by simp at h;omega);exact⟨R1,m,x,y,rfl⟩
@[simp] theorem Run.top_wd (R:Run) (l:List Int) (x:Int):(R.wd (l++[x])).top=x:=by simp[Run.top,List.getLastD_concat]
@[simp] theorem Run.pop_wd (R:Run) (l:List Int) (x:Int):(R.wd (l++[x])).pop=R.wd l:=by simp[Run.pop]
@[simp] theorem Run.topR_wr (R:Run) (l:List Int) (x:Int):(R.wr (l++[x])).topR=x:=by simp[Run.topR,List.getLastD_concat]
@[simp] theorem Run.popR_wr (R:Run) (l:List Int) (x:Int):(R.wr (l++[x])).Su=R.wr l:=by simp[Run.Su]
def dC(op n:Int)(R:Run):Option Run:=
 bif op==0 then some R else bif op==1 then some (R.push [n])else bif op==2 then some (R.push [n])else bif op==3 then some (R.pop.push [R.top,R.top])else bif op==4 then some R.pop else
 bif op==5 then some (R.pop.pop.push [R.top,R.pop.top])else bif op==6 then some (R.pop.pop.push [R.pop.top,R.top,R.pop.top])else bif op==7 then some (R.pop.Te R.top)else bif op==8 then some (R.Su.push [R.topR])else none
theorem o9(n:Int)(R:Run)(l:List Int)(x:Int):dC 3 n (R.wd (l++[x]))=some (R.wd (l++[x,x])):=by
 show some _=_;rw[Run.top_wd,Run.pop_wd];rfl
theorem m7(n:Int)(R:Run)(l:List Int)(x:Int):dC 4 n (R.wd (l++[x]))=some (R.wd l):=by
 show some _=_;rw[Run.pop_wd]
theorem m5(n:Int)(R:Run)(l:List Int)(x y:Int):dC 5 n (R.wd ((l++[x])++[y]))=some (R.wd (l++[y,x])):=by
 show some _=_;rw[Run.top_wd,Run.pop_wd,Run.top_wd,Run.pop_wd];rfl
theorem m6(n:Int)(R:Run)(l:List Int)(x y:Int):dC 6 n (R.wd ((l++[x])++[y]))=some (R.wd (l++[x,y,x])):=by
 show some _=_;rw[Run.top_wd,Run.pop_wd,Run.top_wd,Run.pop_wd];rfl
theorem o7(n:Int)(R:Run)(l:List Int)(x:Int):dC 7 n (R.wd (l++[x]))=some ((R.wd l).wr (R.s.r++[x])):=by
 show some _=_;rw[Run.top_wd,Run.pop_wd];rfl
theorem lZ(n:Int)(R:Run)(l:List Int)(x:Int):dC 8 n (R.wr (l++[x]))=some ((R.wr l).wd (R.s.d++[x])):=by
 show some _=_;rw[Run.topR_wr,Run.popR_wr];rfl
theorem sK{op:Int}(n:Int)(R:Run)(h0:(op==0)=false)(h1:(op==1)=false)(h2:(op==2)=false)(h3:(op==3)=false)(h4:(op==4)=false)(h5:(op==5)=false)(h6:(op==6)=false)(h7:(op==7)=false)(h8:(op==8)=false):dC op n R=none:=by
 simp only[dC, *,ah]
theorem jZ{a b:Int}(h:(a==b)=true):a=b:=by simpa using h
theorem NW(K:IU)(X:j0)(R:Run)(op n:Int)(hd:R.s.d.length<=100000)(hr:R.s.r.length<=100000)(hn:(bO op).1.1<=R.s.d.length)(hnr:(bO op).2.1<=R.s.r.length)(w:World)(hi:Inv w (bD (fb K X R)) (fb K X R) w):
  Ctr prog 169 [.p K.br,.agg #[.i op,.w n]] w (fb K X R) (λv cs=>∃X',v= .bool (dC op n R).isSome/\cs=fb K X' ((dC op n R).getD R)):=by
 refine Zfn func169 ntmps169 hi ?_;refine Z_2 ?_;refine ZO λb3=>?_;refine AG ?_;refine ZW ?_ ?_<;>intro hc3
 .obtain rfl:=jZ hc3;have hst:dC 0 n R=some R:=rfl;refine Z_9 ?_;exact M4
 refine Zw7 ?_ ?_<;>intro hc4
 .obtain rfl:=jZ hc4;have hst:dC 1 n R=some (R.push [n]):=rfl;refine Z_2 ?_;exact bW rfl (hc4) Wq326
 refine Zw5 ?_ ?_<;>intro hc5
 .obtain rfl:=jZ hc5;have hst:dC 2 n R=some (R.push [n]):=rfl;exact Wq326
 refine Zw6 ?_ ?_<;>intro hc7
 .obtain rfl:=jZ hc7;obtain⟨R,l,x,rfl⟩:=Run.snoc (show 1<=R.s.d.length from hn);have hst:=o9 n R l x;have hll:l.length+1<=100000:=(by have:(l++[x]).length<=100000:=hd;simpa using this);refine Z_3 ?_;refine ZcM (fb K X (R.wd (l++[x]))) (λw hi hin=>mH K X R l x w hin) ?_;refine Z_7 ?_;refine kY ?_;rintro _ _ ⟨b29,rfl,rfl⟩;refine ZcL (fb K X (R.wd l)) (λw hi hin=>i9 K X (R.wd l) _ 2 2 [x,x] (show l.length+2<=1000000 by omega) w hin (λw' hk=>hi.Sr Zi Zh hk)) ?_;exact EK
 refine Zw6 ?_ ?_<;>intro hc10
 .obtain rfl:=jZ hc10;obtain⟨R,l,x,rfl⟩:=Run.snoc (show 1<=R.s.d.length from hn);have hst:=m7 n R l x;refine Z_2 ?_;refine ZcM (fb K X (R.wd (l++[x]))) (λw hi hin=>mH K X R l x w hin) ?_;refine Z_9 ?_;exact M4
 refine Zw6 ?_ ?_<;>intro hc12
 .obtain rfl:=jZ hc12;obtain⟨R,l,x,y,rfl⟩:=Run.SJ (show 2<=R.s.d.length from hn);have hst:=m5 n R l x y;have hll:l.length+2<=100000:=Wq232;refine Wq158 ?_;refine Z_8 ?_;refine kY ?_;rintro _ _ ⟨b44,rfl,rfl⟩;refine ZcL (fb K X (R.wd l)) (λw hi hin=>i9 K X (R.wd l) _ 2 2 [y,x] (show l.length+2<=1000000 by omega) w hin (λw' hk=>hi.Sr Zi Zh hk)) ?_;exact EK
 refine Zw6 ?_ ?_<;>intro hc15
 .obtain rfl:=jZ hc15;obtain⟨R,l,x,y,rfl⟩:=Run.SJ (show 2<=R.s.d.length from hn);have hst:=m6 n R l x y;have hll:l.length+2<=100000:=Wq232;refine Wq158 ?_;refine Z_9 ?_;refine kY ?_;rintro _ _ ⟨b56,rfl,rfl⟩;refine ZcL (fb K X (R.wd l)) (λw hi hin=>i9 K X (R.wd l) _ 3 3 [x,y,x] (show l.length+3<=1000000 by omega) w hin (λw' hk=>hi.Sr Zi Zh hk)) ?_;exact EK
 refine Zw6 ?_ ?_<;>intro hc18
 .obtain rfl:=jZ hc18;obtain⟨R,l,x,rfl⟩:=Run.snoc (show 1<=R.s.d.length from hn);have hst:=o7 n R l x;have hrr:R.s.r.length<=100000:=hr;have hrr2:(R.wd l).s.r.length<=100000:=hr;refine bL ⟨λj=>List.elem j [7,9,13],[]⟩ Zk (kQ ?_);refine ZFe 3 0 ?_;refine ZFe 4 2 ?_;refine ZE 6 ?_;refine ke 5 7 Zk ?_ ?_
  .refine lR ?_;refine cn 7 Zk (pL (fb K X (R.wd (l++[x]))) (λw hi hin=>mH K X R l x w hin) ?_);rintro _ _ ⟨rfl,rfl⟩;refine cn 8 Zk (AR ?_);rintro _ _ ⟨b68,rfl,rfl⟩;refine Wq318 ?_;rintro _ _ ⟨A',c',rfl,rfl⟩;refine ZE 10 ?_;refine ZFe 11 0 ?_;refine ZFe 12 2 ?_;refine cn 13 Zk (nO ?_);refine Z_8 ?_;refine CV ?_;rw[hst];refine⟨⟨X.Ad,X.cd,A',c'⟩,rfl,?_⟩;exact Wq336
  refine pL (fb K X (R.wd (l++[x]))) (λw hi hin=>mH K X R l x w hin) ?_;rintro _ _ ⟨rfl,rfl⟩;refine ZG 5 ?_;refine cn 8 Zk (AR ?_);rintro _ _ ⟨b68,rfl,rfl⟩;refine Wq318 ?_;rintro _ _ ⟨A',c',rfl,rfl⟩;refine ZE 10 ?_;refine ZFe 11 0 ?_;refine ZFe 12 2 ?_;refine cn 13 Zk (nO ?_);refine Z_8 ?_;refine CV ?_;rw[hst];refine⟨⟨X.Ad,X.cd,A',c'⟩,rfl,?_⟩;exact Wq336
 refine Zw6 ?_ ?_<;>intro hc20
 .obtain rfl:=jZ hc20;obtain⟨R,l,x,rfl⟩:=Run.snocR (show 1<=R.s.r.length from hnr);have hst:=lZ n R l x;have hdd:R.s.d.length<=100000:=hd;refine Z_3 ?_;refine ZcM (fb K X (R.wr (l++[x]))) (λw hi hin=>Kh K X R l x w hin) ?_;refine kY ?_;rintro _ _ ⟨b78,rfl,rfl⟩;refine ZcL (fb K X (R.wr l)) (λw hi hin=>i9 K X (R.wr l) _ 1 1 [x] (show R.s.d.length+1<=1000000 by omega) w hin (λw' hk=>hi.Sr Zi Zh hk)) ?_;exact EK
 have hst:=sK n R hc3 hc4 hc5 hc7 hc10 hc12 hc15 hc18 hc20;refine Z_8 ?_;exact M4
def jB(R:Run)(n:Int):Int:=IntKind.u32.wrap (R.s.pc+lP n)
def cB(op n:Int)(R:Run):Bool×Run:=
 bif decide (16<=op)&&decide (op<=25)then
  (true,bif op !=25 then((bif(jH op R.pop.top R.top).2.2 then R.pop.pop else R.pop.pop.wt ⟨5,0⟩).wfl (jH op R.pop.top R.top).2.1).push [(jH op R.pop.top R.top).1]else(bif(jH op R.pop.top R.top).2.2 then R.pop.pop else R.pop.pop.wt ⟨5,0⟩).wfl (jH op R.pop.top R.top).2.1)
 else bif op==38 then(true,(R.Te R.s.pc).wpc (jB R n))else bif op==32 then(true,R.wpc (jB R n))else bif op==39 then(true,R.Su.wpc R.topR)else bif op==40 then(true,R.pop.wpc R.top)else
 ((dm op R.s.flags).2,bif(dm op R.s.flags).1 then R.wpc (jB R n)else R)
theorem Fz{op:Int}(h:(decide (16<=op)&&decide (op<=25))=true):(bO op).1.1=2:=by
 simp only[aD,ae]at h;obtain rfl|rfl|rfl|rfl|rfl|rfl|rfl|rfl|rfl|rfl:op=16\/op=17\/op=18\/op=19\/op=20\/op=21\/op=22\/op=23\/op=24\/op=25:=by omega
 all_goals rfl
theorem Kc(K:IU)(X:j0)(R:Run)(op n:Int)(hw:∀x,x∈R.s.d->u32 x)(hd:R.s.d.length<=100000)(hr:R.s.r.length<=100000)(hn:(bO op).1.1<=R.s.d.length)(hnr:(bO op).2.1<=R.s.r.length)(w:World)(hi:Inv w (bD (fb K X R)) (fb K X R) w):
  Ctr prog 170 [.p K.br,.agg #[.i op,.w n]] w (fb K X R) (λv cs=>∃X',v= .bool (cB op n R).1/\cs=fb K X' (cB op n R).2):=by
 have HS:=DB n;have HA:=ado_ok op;have HH:=Ps op R.s.flags;obtain⟨th,hth⟩:=Zgn (jB R n);have hth':=hth;unfold jB at hth';obtain⟨sg,hsg⟩:=Zgn (lP n);rw[hsg]at HS hth';refine Zfn func170 ntmps170 hi ?_;refine Z_2 ?_;refine ZO λb3=>?_;refine Z_4 ?_;refine bL ⟨λj=>List.elem j [],[]⟩ Zk (lU ?_);refine ZFe 2 0 ?_;refine ZFe 3 0 ?_;refine ZG 4 ?_;refine ZFe 5 1 ?_;refine ZG 6 ?_;refine cn 7 Zk (ZTn (λw hi=>HS w) ?_);rintro _ _ ⟨rfl,rfl⟩;refine Zy4 8 rfl (ef Zv0 Zv0 hth') ?_;refine ZE 9 ?_;refine eQ ?_;refine kX ?_;refine Z_1 ?_;refine ZW ?_ ?_<;>intro hc7
 .rw[Fz hc7]at hn;obtain⟨R,l,x,y,rfl⟩:=Run.SJ hn;have hll:l.length+2<=100000:=Wq232;have HA:=HA x y (hw y cH).1;obtain⟨⟨v,fl,ok⟩,hq⟩:=Zgn (jH op x y);rw[hq]at HA;have hst:cB op n (R.wd ((l++[x])++[y]))=(true,bif op !=25 then((bif ok then R.wd l else(R.wd l).wt ⟨5,0⟩).wfl fl).push [v]else(bif ok then R.wd l else(R.wd l).wt ⟨5,0⟩).wfl fl):=(by simp only[cB,hc7,ai,Run.top_wd,Run.pop_wd,hq]);refine Wq158 ?_;refine Z_9 ?_;refine ZSe (λw hi=>HA w) ?_;refine sw ?_;refine ZW ?_ ?_<;>intro hc10
  .obtain rfl:ok=false:=(by simpa using hc10);have hR:∃Q,Q=(R.wd l).wt ⟨5,0⟩:=⟨_,rfl⟩;refine Z_2 ?_;refine ZcM (fb K X (R.wd l)) (λw hi hin=>Ah K X (R.wd l) 5 0 w hin) ?_;refine Z_9 ?_;refine ZL ?_;refine Zw8 ?_ ?_<;>intro hc13
   .simp only[hc13,ai,ah]at hst;refine Z_3 ?_;refine kY ?_;rintro _ _ ⟨b74,rfl,rfl⟩;refine ZcL (fb K X (((R.wd l).wt ⟨5,0⟩).wfl fl)) (λw hi hin=>i9 K X (((R.wd l).wt ⟨5,0⟩).wfl fl) _ 1 1 [v] (show l.length+1<=1000000 by omega) w hin (λw' hk=>hi.Sr Zi Zh hk)) ?_;exact EK
   simp only[hc13,ai,ah]at hst;refine Z_9 ?_;exact M4
  obtain rfl:ok=true:=(by simpa using hc10);refine Z_9 ?_;refine ZL ?_;refine Zw8 ?_ ?_<;>intro hc13
  .simp only[hc13,ai,ah]at hst;refine Z_3 ?_;refine kY ?_;rintro _ _ ⟨b74,rfl,rfl⟩;refine ZcL (fb K X ((R.wd l).wfl fl)) (λw hi hin=>i9 K X ((R.wd l).wfl fl) _ 1 1 [v] (show l.length+1<=1000000 by omega) w hin (λw' hk=>hi.Sr Zi Zh hk)) ?_;exact EK
  simp only[hc13,ai,ah]at hst;refine Z_9 ?_;exact M4
 refine Zw7 ?_ ?_<;>intro hc15
 .have hst:cB op n R=(true,(R.Te R.s.pc).wpc th):=(by simp only[cB, *,ai,ah]);refine Zs (bL ⟨λj=>List.elem j [12,16],[]⟩ Zk ?_);refine kQ ?_;refine ZFe 3 0 ?_;refine ZFe 4 2 ?_;refine ZG 5 ?_;refine ZE 6 ?_;refine ZE 7 ?_;refine ZFe 8 0 ?_;refine ZFe 9 0 ?_;refine cn 10 Zk (lR ?_);refine cn 11 Zk (AR ?_);rintro _ _ ⟨b90,rfl,rfl⟩;refine cn 12 Zk (jT rfl rfl (cj (e:=39) (sz:=1) (bytes:=4) rfl rfl Za rfl rfl (λw hi=>hi.rd (show Has _ (slv 39 1 (sA b90) 1 1 (ints .u32 [R.s.pc]))from Zh)) di gq Wq1) ZJ rfl ?_);rintro _ _ ⟨A',c',rfl,rfl⟩;refine ZE 13 ?_;refine ZFe 14 0 ?_;refine ZFe 15 2 ?_;refine cn 16 Zk (nO ?_);refine Z_7 ?_;refine ZL ?_;refine Wq38 ?_;rw[hst];refine⟨⟨X.Ad,X.cd,A',c'⟩,rfl,?_⟩;simp only[fb,xD,slD,slR,Run.Te,aq,bX,aQ,List.length_nil,Nat.zero_add]
 refine Zw7 ?_ ?_<;>intro hc18
 .have hst:cB op n R=(true,R.wpc th):=(by simp only[cB, *,ai,ah]);refine Z_6 ?_;refine ZL ?_;refine Z_9 ?_;exact M4
 refine Zw7 ?_ ?_<;>intro hc20
 .obtain rfl:=jZ hc20;obtain⟨R,l,x,rfl⟩:=Run.snocR (show 1<=R.s.r.length from hnr);have hst:cB 39 n (R.wr (l++[x]))=(true,(R.wr l).wpc x):=(by show(_,_)=_;rw[Run.popR_wr,Run.topR_wr]);refine Z_3 ?_;refine ZcM (fb K X (R.wr (l++[x]))) (λw hi hin=>Kh K X R l x w hin) ?_;refine Z_3 ?_;refine ZL ?_;refine Z_9 ?_;exact M4
 refine Zw7 ?_ ?_<;>intro hc22
 .obtain rfl:=jZ hc22;obtain⟨R,l,x,rfl⟩:=Run.snoc (show 1<=R.s.d.length from hn);have hst:cB 40 n (R.wd (l++[x]))=(true,(R.wd l).wpc x):=(by show(_,_)=_;rw[Run.pop_wd,Run.top_wd]);refine Z_3 ?_;refine ZcM (fb K X (R.wd (l++[x]))) (λw hi hin=>mH K X R l x w hin) ?_;refine Z_3 ?_;refine ZL ?_;refine Z_9 ?_;exact M4
 have hst:cB op n R=((dm op R.s.flags).2,bif(dm op R.s.flags).1 then R.wpc th else R):=(by simp only[cB, *,ai,ah]);obtain⟨⟨g,o⟩,hq⟩:=Zgn (dm op R.s.flags);rw[hq]at hst HH;refine Z_8 ?_;refine ZSe (λw hi=>HH w) ?_;refine uw ?_ ?_<;>intro hc4
 .obtain rfl:g=true:=hc4;refine Z_6 ?_;refine ZL ?_;refine gK ?_;exact M4
 obtain rfl:g=false:=hc4;refine gK ?_;exact M4
theorem bI{α:Type}(p:α->Prop){c:Bool}{x y:α}(hx:p x)(hy:p y):p (bif c then x else y):=by cases c<;>assumption
def Nf(q:(Nat×Nat)×(Nat×Nat)):Prop:=q.1.1<=3/\q.1.2<=3/\q.2.1<=3/\q.2.2<=3
theorem OR(op:Int):Nf (bO op):=by
 unfold bO
 repeat (refine bI Nf ⟨by decide,by decide,by decide,by decide⟩ ?_)
 exact⟨by decide,by decide,by decide,by decide⟩
def kU(s:St)(q:(Nat×Nat)×(Nat×Nat)):Int:=
 bif decide ((s.d.length:Int)<(q.1.1:Int))||decide ((s.r.length:Int)<(q.2.1:Int))then 3 else
 bif decide (16<(s.d.length:Int) - (q.1.1:Int)+(q.1.2:Int))||decide (16<(s.r.length:Int) - (q.2.1:Int)+(q.2.2:Int))then 4 else 0
def eu(s:St)(op n:Int):Int:=
 bif !gV op n then 1 else bif rN op&& !s.RM then 2 else bif op==66&& !(s.get n).2 then 1 else bif op==67&& !(s.set n 0).2 then 1 else kU s (bO op)
theorem Qb(s:St)(Ad Ar:Option Addr)(cd cr:Nat)(op n:Int)(hu:u32 n)(w:World)(h:pY w s Ad Ar cd cr):
  Ctr prog 167 [sv s Ad cd Ar cr,.agg #[.i op,.w n]] w [] (λv cs=>v= .i (eu s op n)/\cs=[]):=by
 have hu1:=hu.1;have hu2:=hu.2;have hD:=h.hd;have hR:=h.hr;have HR:=Cj op n;have HS:=LJ op;have HN:=OQ op;have HG:=Rm s (.slice Ad s.d.length cd) (.slice Ar s.r.length cr) n;have HE:=Rb s Ad Ar cd cr n 0;obtain⟨q1,hq1⟩:=Zgn (gV op n);obtain⟨q2,hq2⟩:=Zgn (rN op);obtain⟨⟨g0,g⟩,hq3⟩:=Zgn (s.get n);obtain⟨⟨e0,e⟩,hq4⟩:=Zgn (s.set n 0);have hle:=OR op;unfold eu;rw[hq1]at HR|-;rw[hq2]at HS|-;rw[hq3]at HG|-;rw[hq4]at HE|-;obtain⟨⟨⟨a,b⟩,⟨c,d⟩⟩,hq5⟩:=Zgn (bO op);rw[hq5]at HN hle|-;obtain⟨ha,hb,hc,hd⟩:=hle;have ha:a<=3:=ha;have hb:b<=3:=hb;have hc:c<=3:=hc;have hd:d<=3:=hd;refine Zfs func167 ntmps167 ?_;refine Z_2 ?_;refine ZO λb2=>?_;refine ZO λb3=>?_
 refine Z_8 ?_;refine ZSe (λw hi=>HR w) ?_;refine Z_4 ?_;refine ZW ?_ ?_<;>intro hc1
 .refine gf ?_;refine⟨?_,rfl⟩;exact EF
 refine Z_4 ?_;refine ZSe (λw hi=>HS w) ?_;refine Zw8 ?_ ?_<;>intro hc3
 .refine gf ?_;refine⟨?_,rfl⟩;exact EF
 refine Z_9 ?_;refine wO ?_;refine ZSe (λw hi=>HG w) ?_;refine AO ?_;refine ZW ?_ ?_<;>intro hc6
 .refine Z_7 ?_;refine Zra ?_;refine⟨?_,rfl⟩;exact EF
 refine Z_8 ?_;refine wO ?_;refine ZSn (λw hi=>HE w (h.RU hi)) ?_;rintro _ _ ⟨A1,c1,A2,c2,rfl,rfl⟩;refine Z_3 ?_;refine ZN λb7=>?_
 refine ZM ?_;refine AN ?_ ?_<;>intro hc9
 .refine Z_7 ?_;refine Zra ?_;refine⟨?_,rfl⟩;exact EF
 refine Z_6 ?_;refine ZSe (λw hi=>HN w) ?_;refine kX ?_;refine pV ?_ ?_<;>intro hc12
 .refine gf ?_;refine⟨?_,rfl⟩;exact EF
 refine Z_6 ?_;refine oN ?_;refine ZA ?_;refine ri ?_;refine Z_6 ?_;refine Zyn rfl rfl (gr (bU rfl) (bU rfl) Zl) ?_;refine ZB ?_;refine Zyn rfl rfl (ef (bU rfl) (bU rfl) Zl) ?_;refine Zw5 ?_ ?_<;>intro hc14
 .refine gf ?_;refine⟨?_,rfl⟩;exact EF
 refine ls ?_;refine⟨?_,rfl⟩;exact EF
def Run.sp(R:Run):Sp:=⟨R.s.RW,R.s.RM,R.s.root.toNat⟩
abbrev Run.wdv(R:Run)(t:Tr)(b:Bool):Run:=⟨R.s,R.count,t,b⟩
structure QP where
 p:Int
 ok:Bool
 r:Run
 u:Mmu
def cC(n:Nat)(R:Run)(U:Mmu)(va:Nat)(kind:Int):QP:=
 bif((va%4:Nat):Int) !=0 then⟨0,false,R.wt ⟨6,va⟩,U⟩else
 ⟨(cG n U R.sp va kind).1.1,(cG n U R.sp va kind).1.2.RN==0,R.wdv (cG n U R.sp va kind).1.2 ((cG n U R.sp va kind).1.2.RN==0&&decide (32768<=(cG n U R.sp va kind).1.1)),(cG n U R.sp va kind).2⟩
theorem uW(K:IU)(X:j0)(R:Run)(hr:0<=R.s.root)(w:World)(h:(xD K X R).ok w):
  Ctr prog 258 [.p K.br] w [] (λv cs=>v=R.sp.v/\cs=[]):=
 (NZ K X R w h).mono λv cs ⟨h1,h2⟩=>⟨by rw[h1,Run.sp,Sp.v,Int.toNat_of_nonneg hr],h2⟩
abbrev mc(K:IU)(X:j0)(R:Run):List Value:=[.w R.s.pc,.slice X.Ad R.s.d.length X.cd,.slice X.Ar R.s.r.length X.cr,.w R.s.flags,.bool R.s.RM,.bool R.s.RW,.bool R.s.ie,.w R.s.root,.w R.s.vec,.w R.s.epc,.w R.s.RN,.w R.s.addr,.bool R.s.Sa,.bool R.s.eie,.int .u64 R.s.count,.bool R.s.halted,.int .u64 R.count,.pointer K.u,.pointer K.b,.i R.R8.RN,.w R.R8.addr,.bool R.device]
abbrev kOf(br bu:Nat)(D:rp):IU:=⟨br,some ⟨bu,0,none⟩,some ⟨D.bs,0,none⟩⟩
theorem EV(br bu bb:Nat)(L:eA)(D:rp)(X:j0)(R:Run)(U:Mmu)(hT:U.t.length=16)(hroot:u32 R.s.root)(va:Nat)(hva:va<=4294967295)(kind:Int)(w:World)(hi:Inv w (bD (fb (kOf br bu D) X R++uF bu bb L U)) (fb (kOf br bu D) X R++uF bu bb L U) w):
  Ctr prog 253 [.p br,.w va,.i kind] w (fb (kOf br bu D) X R++uF bu bb L U)
   (λv cs=>v= .tuple #[.w (cC L.n R U va kind).p,.bool (cC L.n R U va kind).ok]/\cs=fb (kOf br bu D) X (cC L.n R U va kind).r++uF bu bb L (cC L.n R U va kind).u):=by
 have hr0:=hroot.1;have hr1:=hroot.2;have hsr:R.sp.root<=4294967295:=by show R.s.root.toNat<=_;omega
 have HP:=qc bu bb L U hT R.sp hsr va hva kind;have HS:=uW (kOf br bu D) X R hr0;unfold cC;obtain⟨⟨⟨p,ca,ad⟩,U'⟩,hq⟩:=Zgn (cG L.n U R.sp va kind);rw[hq]at HP|-;obtain⟨S,hS⟩:=Zgn (R.sp);rw[hS]at HP HS;refine Zfn func253 ntmps253 hi ?_;refine gK ?_;refine Zy (i4 (Zv rfl) (Zv rfl) Wq1 (show _=((va%4:Nat):Int)from by rw[aO Wq1];omega)) ?_;refine Z_4 ?_;refine ZW ?_ ?_<;>intro hc1
 .refine Z_4 ?_;refine ZcM (fb (kOf br bu D) X R) (λw hi hin=>Ah (kOf br bu D) X R 6 va w hin) ?_;refine gK ?_;refine bG (fb (kOf br bu D) X (R.wt ⟨6,va⟩)++uF bu bb L U) Zj (xH (cs':=[row _ _ _,slv _ _ _ _ _ _,slv _ _ _ _ _ _,row _ _ _,exC _ _ _ _,row _ _ _]) (.inl rfl) Zu rfl rfl rfl ?_);rw[hc1];exact fy
 refine AG ?_;refine ZW ?_ ?_<;>intro hc4
 .exact absurd hc4 cH
 refine Z_4 ?_;refine bL ⟨λj=>List.elem j [8,14],[]⟩ Zk (lU ?_);refine ZFe 2 17 ?_;refine ZG 3 ?_;refine ZE 4 ?_;refine ZE 6 ?_;refine ZE 7 ?_;refine ke 5 12 Zk ?_ ?_
 .refine ZTn (λw hi=>HS w (hi.get Zh)) ?_;rintro _ _ ⟨rfl,rfl⟩;refine ke 8 12 Zk ?_ ?_
  .refine AJ ?_;rintro _ _ ⟨_,⟨rfl,rfl⟩,rfl⟩;refine sD ?_;refine cn 12 Zk ?_;refine ZP λb9=>?_
   refine ZE 13 ?_;refine Wq95 ?_;exact Wq360
  refine ZP λb9=>?_
  refine cn 8 Zk (AJ ?_);rintro _ _ ⟨_,⟨rfl,rfl⟩,rfl⟩;refine sD ?_;refine ZE 13 ?_;refine Wq95 ?_;exact Wq360
 refine ZP λb9=>?_
 refine cn 5 Zk (ZTn (λw hi=>HS w (hi.get Zh)) ?_);rintro _ _ ⟨rfl,rfl⟩;refine cn 8 Zk (AJ ?_);rintro _ _ ⟨_,⟨rfl,rfl⟩,rfl⟩;refine sD ?_;refine ZE 13 ?_;refine Wq95 ?_;exact Wq360
theorem uC(n:Nat)(R:Run)(U:Mmu)(va:Nat)(kind:Int):(cC n R U va kind).r.s=R.s:=by unfold cC;exact bI (λW:QP=>W.r.s=R.s) rfl rfl
theorem Ba(n:Nat)(R:Run)(U:Mmu)(va:Nat)(hva:va<=4294967295)(kind:Int):u32 (cC n R U va kind).p:=by unfold cC;exact bI (λW:QP=>u32 W.p) (show u32 0 from⟨by decide,by decide⟩) (jt n U R.sp va hva kind).1
theorem GD(n:Nat)(hn:n<=64)(R:Run)(U:Mmu)(va:Nat)(hva:va<=4294967295)(kind:Int)(hk:(cC n R U va kind).ok=true)(hd:(cC n R U va kind).r.device=false):(cC n R U va kind).p.toNat+4<=n*64:=by
 obtain⟨hu,hp⟩:=jt n U R.sp va hva kind;unfold cC at hk hd|-;cases hm:(((va%4:Nat):Int) !=0)with
 |true=>rw[hm]at hk;cases hk
 |false=>
  rw[hm]at hk hd;simp only[ah]at hk hd|-;rw[hk]at hd;simp only[Bool.true_and,ac]at hd;have hc:=hp (by simpa using hk);have h4:va%4=0:=by
   have:((va%4:Nat):Int)=0:=by simpa using hm
   omega
  have h1:=hc.m;have h2:=hu.1;rcases hc.r with h3|h3
  .omega
  simp only[tB,aD,ae]at h3;omega
theorem wv{α:Type}{c:Bool}{x y:α}(h:c=true):(bif c then x else y)=x:=by rw[h];rfl
theorem lL{α:Type}{c:Bool}{x y:α}(h:c=false):(bif c then x else y)=y:=by rw[h];rfl
def eh(n:Nat)(M:Mem)(a:Nat):Int×Bool:=bif decide (a+4<=n*64)then(uB M.data a,true)else(0,false)
structure fM where
 r:Run
 u:Mmu
 d:Dev
def sS(W:QP)(d:Dev)(va:Nat)(v:Int)(o:Bool):fM:=⟨(bif !o then W.r.wt ⟨10,va⟩else W.r).push [v],W.u,d⟩
def jO(n:Nat)(R:Run)(U:Mmu)(d:Dev)(va:Nat):fM:=
 bif !(cC n R U va 2).ok then⟨(cC n R U va 2).r,(cC n R U va 2).u,d⟩else
 bif(cC n R U va 2).r.device then sS (cC n R U va 2) (ge d (w6 (cC n R U va 2).p.toNat) (cC n R U va 2).r.count).2 va (ge d (w6 (cC n R U va 2).p.toNat) (cC n R U va 2).r.count).1.1 (ge d (w6 (cC n R U va 2).p.toNat) (cC n R U va 2).r.count).1.2
 else sS (cC n R U va 2) d va (eh n (cC n R U va 2).u.m (cC n R U va 2).p.toNat).1 (eh n (cC n R U va 2).u.m (cC n R U va 2).p.toNat).2
def jL(n:Nat)(R:Run)(U:Mmu)(d:Dev)(va v:Nat):fM:=
 bif !(cC n R U va 3).ok then⟨(cC n R U va 3).r,(cC n R U va 3).u,d⟩else
 bif(cC n R U va 3).r.device then
  ⟨bif !(cF n (cC n R U va 3).u.m d (w6 (cC n R U va 3).p.toNat) v).1 then(cC n R U va 3).r.wt ⟨10,va⟩else(cC n R U va 3).r,⟨(cF n (cC n R U va 3).u.m d (w6 (cC n R U va 3).p.toNat) v).2.1,(cC n R U va 3).u.t⟩,(cF n (cC n R U va 3).u.m d (w6 (cC n R U va 3).p.toNat) v).2.2⟩
 else⟨(cC n R U va 3).r,⟨(cC n R U va 3).u.m.Sz (cC n R U va 3).p.toNat v,(cC n R U va 3).u.t⟩,d⟩
theorem Nw(L:eA)(M:Mem)(a:Nat):Dg L M a= .tuple #[.w (eh L.n M a).1,.bool (eh L.n M a).2]:=by
 unfold Dg eh;cases decide (a+4<=L.n*64)<;>rfl
abbrev mK(br bu bb:Nat)(L:eA)(D:rp)(X:j0)(Y:nS)(m:fM):List bC:=fb (kOf br bu D) X m.r++uF bu bb L m.u++kO D L.bm Y m.d
theorem lode_ok(br bu bb:Nat)(L:eA)(D:rp)(X:j0)(Y:nS)(R:Run)(U:Mmu)(d:Dev)(l:List Int)(va:Nat)(hva:va<=4294967295)(hl:l.length<=100000)(hT:U.t.length=16)(hroot:u32 R.s.root)(hd:d.wf)
  (w:World) (hi:Inv w (bD (mK br bu bb L D X Y ⟨R.wd (l++[(va:Int)]),U,d⟩)) (mK br bu bb L D X Y ⟨R.wd (l++[(va:Int)]),U,d⟩) w):
  Ctr prog 210 [.p br] w (mK br bu bb L D X Y ⟨R.wd (l++[(va:Int)]),U,d⟩) (λv cs=>∃X' Y',v= .tuple #[]/\cs=mK br bu bb L D X' Y' (jO L.n (R.wd l) U d va)):=by
 have HW:=λX=>EV br bu bb L D X (R.wd l) U hT hroot va hva 2
 have hs:=uC L.n (R.wd l) U va 2;have hu:=Ba L.n (R.wd l) U va hva 2;unfold jO;obtain⟨⟨p,ok,r,u⟩,hq⟩:=Zgn (cC L.n (R.wd l) U va 2);rw[hq]at HW hs hu|-;obtain⟨pn,rfl⟩:∃pn:Nat,p=pn:=ap hu.1;have hpn:pn<=4294967295:=by have:(pn:Int)<=_:=hu.2;omega
 have hs:r.s=(R.wd l).s:=hs;have hdl:r.s.d.length<=100000:=by rw[hs];exact hl
 simp only[aM];have HB:=λX=>Ir D L.bm X d hd pn r.count
 obtain⟨⟨⟨v,o⟩,d'⟩,hq2⟩:=Zgn (ge d (w6 pn) r.count);rw[hq2]at HB|-;have HM:=zh L u.m pn hpn;rw[Nw]at HM;obtain⟨⟨v2,o2⟩,hq3⟩:=Zgn (eh L.n u.m pn);rw[hq3]at HM|-;refine Zfn func210 ntmps210 hi ?_;refine QK ?_;refine Z_7 ?_;refine ZcM (fb (kOf br bu D) X (R.wd l)++uF bu bb L U) (λw hi hin=>HW X w hin) ?_;refine AN ?_ ?_<;>intro hc2
 .refine Z_2 ?_;refine bG (mK br bu bb L D X Y ⟨r,u,d⟩) Zj (Wq321 ?_);rw[hc2];exact⟨X,Y,rfl,rfl⟩
 refine sw ?_;refine ZW ?_ ?_<;>intro hc4
 .refine bL ⟨λj=>List.elem j [9],[]⟩ Zk (lU ?_);refine ZFe 2 18 ?_;refine oO ?_;refine ZE 6 ?_;refine ZFe 7 16 ?_;refine ZG 8 ?_;refine cn 9 Zk (pL (kO D L.bm Y d) (λw hi hin=>HB Y w hin) ?_);rintro _ _ ⟨Y',rfl,rfl⟩;refine ZE 10 ?_;refine EE ?_;refine ZE 14 ?_;refine eQ ?_;refine Zw8 ?_ ?_<;>intro hc7
  .refine QD ?_;refine Z_5 ?_;refine kY ?_;rintro _ _ ⟨b50,rfl,rfl⟩;refine dz (fb (kOf br bu D) X (r.wt ⟨10,va⟩)) (λw hi hin=>i9 (kOf br bu D) X (r.wt ⟨10,va⟩) _ 1 1 [v] (show r.s.d.length+1<=1000000 by omega) w hin (λw' hk=>hi.Sr Zi Zh hk)) ?_;rintro _ _ ⟨A',c',rfl,rfl⟩;refine Zn (bG (mK br bu bb L D ⟨A',c',X.Ar,X.cr⟩ Y' ⟨(r.wt ⟨10,va⟩).wd (r.s.d++[v]),u,d'⟩) Zj ?_);refine Wq5 ?_;rw[lL hc2,wv hc4,sS,wv hc7];exact⟨⟨A',c',X.Ar,X.cr⟩,Y',rfl,rfl⟩
  refine Z_5 ?_;refine kY ?_;rintro _ _ ⟨b50,rfl,rfl⟩;refine dz (fb (kOf br bu D) X r) (λw hi hin=>i9 (kOf br bu D) X r _ 1 1 [v] (show r.s.d.length+1<=1000000 by omega) w hin (λw' hk=>hi.Sr Zi Zh hk)) ?_;rintro _ _ ⟨A',c',rfl,rfl⟩;refine Zn (bG (mK br bu bb L D ⟨A',c',X.Ar,X.cr⟩ Y' ⟨r.wd (r.s.d++[v]),u,d'⟩) Zj ?_);refine Wq5 ?_;rw[lL hc2,wv hc4,sS,lL hc7];exact⟨⟨A',c',X.Ar,X.cr⟩,Y',rfl,rfl⟩
 refine Z_5 ?_;refine MU ?_;refine ZA ?_;refine ZSe (λw hi=>HM w (hi.get Zh)) ?_;refine AN ?_ ?_<;>intro hc7
 .refine QD ?_;refine Z_5 ?_;refine kY ?_;rintro _ _ ⟨b50,rfl,rfl⟩;refine dz (fb (kOf br bu D) X (r.wt ⟨10,va⟩)) (λw hi hin=>i9 (kOf br bu D) X (r.wt ⟨10,va⟩) _ 1 1 [v2] (show r.s.d.length+1<=1000000 by omega) w hin (λw' hk=>hi.Sr Zi Zh hk)) ?_;rintro _ _ ⟨A',c',rfl,rfl⟩;refine Zn (bG (mK br bu bb L D ⟨A',c',X.Ar,X.cr⟩ Y ⟨(r.wt ⟨10,va⟩).wd (r.s.d++[v2]),u,d⟩) Zj ?_);refine Wq5 ?_;rw[lL hc2,lL hc4,sS,wv hc7];exact⟨⟨A',c',X.Ar,X.cr⟩,Y,rfl,rfl⟩
 refine Z_5 ?_;refine kY ?_;rintro _ _ ⟨b50,rfl,rfl⟩;refine dz (fb (kOf br bu D) X r) (λw hi hin=>i9 (kOf br bu D) X r _ 1 1 [v2] (show r.s.d.length+1<=1000000 by omega) w hin (λw' hk=>hi.Sr Zi Zh hk)) ?_;rintro _ _ ⟨A',c',rfl,rfl⟩;refine Zn (bG (mK br bu bb L D ⟨A',c',X.Ar,X.cr⟩ Y ⟨r.wd (r.s.d++[v2]),u,d⟩) Zj ?_);refine Wq5 ?_;rw[lL hc2,lL hc4,sS,lL hc7];exact⟨⟨A',c',X.Ar,X.cr⟩,Y,rfl,rfl⟩
theorem stow_ok(br bu bb:Nat)(L:eA)(D:rp)(X:j0)(Y:nS)(R:Run)(U:Mmu)(d:Dev)(l:List Int)(va v:Nat)(hva:va<=4294967295)(hv:v<=4294967295)(hT:U.t.length=16)(hroot:u32 R.s.root)(hd:d.wf)(ho:d.out.length<=1000000000)
  (w:World) (hi:Inv w (bD (mK br bu bb L D X Y ⟨R.wd ((l++[(v:Int)])++[(va:Int)]),U,d⟩)) (mK br bu bb L D X Y ⟨R.wd ((l++[(v:Int)])++[(va:Int)]),U,d⟩) w):
  Ctr prog 211 [.p br] w (mK br bu bb L D X Y ⟨R.wd ((l++[(v:Int)])++[(va:Int)]),U,d⟩) (λx cs=>∃Y',x= .tuple #[]/\cs=mK br bu bb L D X Y' (jL L.n (R.wd l) U d va v)):=by
 have HW:=EV br bu bb L D X (R.wd l) U hT hroot va hva 3;have hu:=Ba L.n (R.wd l) U va hva 3;obtain⟨n1,n64,_⟩:=mM (hi.ok (eG L U.m) cH);have hin4:=GD L.n n64 (R.wd l) U va hva 3;unfold jL;obtain⟨⟨p,ok,r,u⟩,hq⟩:=Zgn (cC L.n (R.wd l) U va 3);rw[hq]at HW hu hin4|-;obtain⟨pn,rfl⟩:∃pn:Nat,p=pn:=ap hu.1;have hpn:pn<=4294967295:=by have:(pn:Int)<=_:=hu.2;omega
 obtain⟨um,ut⟩:=u;simp only[aM]at hin4|-;have HB:=Ez D L um Y d hd ho pn v r.count;obtain⟨⟨o,M',d'⟩,hq2⟩:=Zgn (cF L.n um d (w6 pn) v);rw[hq2]at HB|-;have HM:=λh=>pe L um pn v h ⟨by omega,by omega⟩
 obtain⟨M2,hq3⟩:=Zgn (um.Sz pn v);rw[hq3]at HM|-;obtain⟨tt,htt⟩:∃t:Bool,t=true:=⟨_,rfl⟩;rw[<-htt]at HM;refine Zfn func211 ntmps211 hi ?_;refine Z_3 ?_;refine fW (eo (fb (kOf br bu D) X (R.wd ((l++[(v:Int)])++[(va:Int)]))) rfl (λ_ _=>rfl) Zi (λw hi hin=>mH (kOf br bu D) X R (l++[(v:Int)]) va w hin)) rfl ?_;rintro _ _ ⟨_,⟨rfl,rfl⟩,rfl⟩;refine Z_6 ?_;refine ZcM (fb (kOf br bu D) X (R.wd (l++[(v:Int)]))) (λw hi hin=>mH (kOf br bu D) X R l v w hin) ?_;refine Z_7 ?_;refine ZcM (fb (kOf br bu D) X (R.wd l)++uF bu bb L U) (λw hi hin=>HW w hin) ?_;refine AN ?_ ?_<;>intro hc3
 .refine Z_2 ?_;refine bG (mK br bu bb L D X Y ⟨r,⟨um,ut⟩,d⟩) Zj (Wq321 ?_);rw[hc3];exact⟨Y,rfl,rfl⟩
 have hok:ok=true:=(by simpa using hc3);refine gK ?_;refine ZW ?_ ?_<;>intro hc4
 .refine bL ⟨λj=>List.elem j [10],[]⟩ Zk (lU ?_);refine ZFe 2 18 ?_;refine oO ?_;refine ZE 6 ?_;refine ZE 7 ?_;refine ZFe 8 16 ?_;refine ZG 9 ?_;refine cn 10 Zk (pL (kO D L.bm Y d++[eG L um]) (λw hi hin=>HB w hin) ?_);rintro _ _ ⟨Y',rfl,rfl⟩;refine ZE 11 ?_;refine eQ ?_;refine Zw7 ?_ ?_<;>intro hc7
  .refine QD ?_;refine Zn (bG (mK br bu bb L D X Y' ⟨r.wt ⟨10,va⟩,⟨M',ut⟩,d'⟩) Zj ?_);refine Wq5 ?_;rw[lL hc3,wv hc4,wv hc7];exact⟨Y',rfl,rfl⟩
  refine Zc (bG (mK br bu bb L D X Y' ⟨r,⟨M',ut⟩,d'⟩) Zj ?_);refine Wq5 ?_;rw[lL hc3,wv hc4,lL hc7];exact⟨Y',rfl,rfl⟩
 have HM:=HM (hin4 hok hc4);refine Z_5 ?_;refine MU ?_;refine Z_2 ?_;refine ZcM ([eG L um]) (λw hi hin=>HM w hin) ?_;refine Zw9 ?_ ?_<;>intro hc7
 .refine QD ?_;refine Zn (bG (mK br bu bb L D X Y ⟨r.wt ⟨10,va⟩,⟨M2,ut⟩,d⟩) Zj ?_);refine Wq5 ?_;rw[htt]at hc7;exact absurd hc7 cH
 refine Zc (bG (mK br bu bb L D X Y ⟨r,⟨M2,ut⟩,d⟩) Zj ?_);refine Wq5 ?_;rw[lL hc3,lL hc4];exact⟨Y,rfl,rfl⟩
def nc(n:Nat)(R:Run)(U:Mmu)(va k:Nat):Run×Mmu:=((R.wt (qJ n U R.sp va k).1.2).push [(qJ n U R.sp va k).1.1],(qJ n U R.sp va k).2)
def mL(n:Nat)(R:Run)(U:Mmu)(va k:Nat)(v:Int):Run×Mmu:=(R.wt (o6 n U R.sp va k v).1,(o6 n U R.sp va k v).2)
theorem Fa(br bu bb:Nat)(L:eA)(D:rp)(X:j0)(R:Run)(U:Mmu)(l:List Int)(va k:Nat)(hva:va<=4294967295)(hk1:1<=k)(hk4:k<=4)(hl:l.length<=100000)(hT:U.t.length=16)(hroot:u32 R.s.root)
  (w:World) (hi:Inv w (bD (fb (kOf br bu D) X (R.wd (l++[(va:Int)]))++uF bu bb L U)) (fb (kOf br bu D) X (R.wd (l++[(va:Int)]))++uF bu bb L U) w):
  Ctr prog 212 [.p br,.i k,.bool false] w (fb (kOf br bu D) X (R.wd (l++[(va:Int)]))++uF bu bb L U)
   (λx cs=>∃X',x= .tuple #[]/\cs=fb (kOf br bu D) X' (nc L.n (R.wd l) U va k).1++uF bu bb L (nc L.n (R.wd l) U va k).2):=by
 have hr0:=hroot.1;have hr1:=hroot.2;have hsr:(R.wd l).sp.root<=4294967295:=by show R.s.root.toNat<=_;omega
 have HP:=NE bu bb L U hT (R.wd l).sp hsr va k hva hk1 hk4;have HS:=uW (kOf br bu D) X (R.wd l) hr0;unfold nc;obtain⟨⟨⟨v,ca,ad⟩,U'⟩,hq⟩:=Zgn (qJ L.n U (R.wd l).sp va k);rw[hq]at HP|-;obtain⟨S,hS⟩:=Zgn ((R.wd l).sp);rw[hS]at HP HS;refine Zfn func212 ntmps212 hi ?_;refine QK ?_;refine kX ?_;refine Z_1 ?_;refine ZW ?_ ?_<;>intro hc4
 .exact absurd hc4 cH
 refine Zw6 ?_ ?_<;>intro hc6
 .exact absurd hc6 cH
 refine Zs (bL ⟨λj=>List.elem j [8,14],[]⟩ Zk ?_);refine lU ?_;refine ZFe 2 17 ?_;refine ZG 3 ?_;refine ZE 4 ?_;refine ZE 6 ?_;refine ZE 7 ?_;refine ke 5 12 Zk ?_ ?_
 .refine ZTn (λw hi=>HS w (hi.get Zh)) ?_;rintro _ _ ⟨rfl,rfl⟩;refine ke 8 12 Zk ?_ ?_
  .refine AJ ?_;rintro _ _ ⟨_,⟨rfl,rfl⟩,rfl⟩;refine sD ?_;refine cn 12 Zk ?_;refine ZP λb8=>?_
   exact Wq338
  refine ZP λb8=>?_
  refine cn 8 Zk (AJ ?_);rintro _ _ ⟨_,⟨rfl,rfl⟩,rfl⟩;refine sD ?_;exact Wq338
 refine ZP λb8=>?_
 refine cn 5 Zk (ZTn (λw hi=>HS w (hi.get Zh)) ?_);rintro _ _ ⟨rfl,rfl⟩;refine cn 8 Zk (AJ ?_);rintro _ _ ⟨_,⟨rfl,rfl⟩,rfl⟩;refine sD ?_;exact Wq338
theorem E9(br bu bb:Nat)(L:eA)(D:rp)(X:j0)(R:Run)(U:Mmu)(l:List Int)(va k:Nat)(v:Int)(hva:va<=4294967295)(hk1:1<=k)(hk4:k<=4)(hl:l.length<=100000)(hT:U.t.length=16)(hroot:u32 R.s.root)
  (w:World) (hi:Inv w (bD (fb (kOf br bu D) X (R.wd ((l++[v])++[(va:Int)]))++uF bu bb L U)) (fb (kOf br bu D) X (R.wd ((l++[v])++[(va:Int)]))++uF bu bb L U) w):
  Ctr prog 212 [.p br,.i k,.bool true] w (fb (kOf br bu D) X (R.wd ((l++[v])++[(va:Int)]))++uF bu bb L U)
   (λx cs=>x= .tuple #[]/\cs=fb (kOf br bu D) X (mL L.n (R.wd l) U va k v).1++uF bu bb L (mL L.n (R.wd l) U va k v).2):=by
 have hr0:=hroot.1;have hr1:=hroot.2;have hsr:(R.wd l).sp.root<=4294967295:=by show R.s.root.toNat<=_;omega
 have HP:=Jl bu bb L U hT (R.wd l).sp hsr va k v hva hk1 hk4;have HS:=uW (kOf br bu D) X (R.wd (l++[v])) hr0;unfold mL;obtain⟨⟨⟨ca,ad⟩,U'⟩,hq⟩:=Zgn (o6 L.n U (R.wd l).sp va k v);rw[hq]at HP|-;obtain⟨S,hS⟩:=Zgn ((R.wd l).sp);rw[show(R.wd (l++[v])).sp=(R.wd l).sp from rfl,hS]at HS;rw[hS]at HP;refine Zfn func212 ntmps212 hi ?_;refine Z_3 ?_;refine ZcM (fb (kOf br bu D) X (R.wd ((l++[v])++[(va:Int)]))) (λw hi hin=>mH (kOf br bu D) X R (l++[v]) va w hin) ?_;refine kX ?_;refine Z_1 ?_;refine ZW ?_ ?_<;>intro hc4
 .exact absurd hc4 cH
 refine Zw6 ?_ ?_<;>intro hc6
 .refine bL ⟨λj=>List.elem j [9,11,14],[]⟩ Zk (kQ ?_);refine ZFe 3 17 ?_;refine ZE 5 ?_;refine ZE 7 ?_;refine ZE 8 ?_;refine ZE 10 ?_;refine ke 4 6 Zk ?_ ?_
  .refine lR ?_;refine cn 6 Zk (ZTn (λw hi=>HS w (hi.get Zh)) ?_);rintro _ _ ⟨rfl,rfl⟩;refine cn 9 Zk (Wq353 ?_);rintro _ _ ⟨_,⟨rfl,rfl⟩,rfl⟩;refine cn 11 Zk (AJ ?_);rintro _ _ ⟨_,⟨rfl,rfl⟩,rfl⟩;refine ZE 12 ?_;refine ZFe 13 19 ?_;refine cn 14 Zk (fO rfl rfl (gC (ys:=mc (kOf br bu D) X ((R.wd l).wt ⟨ca,ad⟩)) (n:=2) (vs:=[.i ca,.w ad]) rfl Zrf rfl rfl (mO rfl) Za rfl MZ) ZJ ?_);rintro _ _ ⟨rfl,rfl⟩;refine eQ ?_;refine Zo (bG (fb (kOf br bu D) X ((R.wd l).wt ⟨ca,ad⟩)++uF bu bb L U') Zj ?_);exact Wq241
  refine ZTn (λw hi=>HS w (hi.get Zh)) ?_;rintro _ _ ⟨rfl,rfl⟩;refine ke 4 9 Zk ?_ ?_
  .refine lR ?_;refine cn 9 Zk (Wq353 ?_);rintro _ _ ⟨_,⟨rfl,rfl⟩,rfl⟩;refine cn 11 Zk (AJ ?_);rintro _ _ ⟨_,⟨rfl,rfl⟩,rfl⟩;refine ZE 12 ?_;refine ZFe 13 19 ?_;refine cn 14 Zk (fO rfl rfl (gC (ys:=mc (kOf br bu D) X ((R.wd l).wt ⟨ca,ad⟩)) (n:=2) (vs:=[.i ca,.w ad]) rfl Zrf rfl rfl (mO rfl) Za rfl MZ) ZJ ?_);rintro _ _ ⟨rfl,rfl⟩;refine eQ ?_;refine Zo (bG (fb (kOf br bu D) X ((R.wd l).wt ⟨ca,ad⟩)++uF bu bb L U') Zj ?_);exact Wq241
  refine Wq353 ?_;rintro _ _ ⟨_,⟨rfl,rfl⟩,rfl⟩;refine ZG 4 ?_;refine cn 11 Zk (AJ ?_);rintro _ _ ⟨_,⟨rfl,rfl⟩,rfl⟩;refine ZE 12 ?_;refine ZFe 13 19 ?_;refine cn 14 Zk (fO rfl rfl (gC (ys:=mc (kOf br bu D) X ((R.wd l).wt ⟨ca,ad⟩)) (n:=2) (vs:=[.i ca,.w ad]) rfl Zrf rfl rfl (mO rfl) Za rfl MZ) ZJ ?_);rintro _ _ ⟨rfl,rfl⟩;refine eQ ?_;refine Zo (bG (fb (kOf br bu D) X ((R.wd l).wt ⟨ca,ad⟩)++uF bu bb L U') Zj ?_);exact Wq241
 exact absurd hc6 cH
end
end Go.Ink
