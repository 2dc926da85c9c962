/- Lemmas. -/
import Derived.Test.YtgpahfcaecojgaaGreatDoorPaf
set_option linter.all false
set_option maxRecDepth 100000
set_option maxHeartbeats 4000000
namespace Go.Ink
open Go.RowKit Go.Proofs.Tryz
def wj(l:List Nat):Nat->Int
 |0=>0
 |k+1=>bits .or .u32 (wj l k) (IntKind.u32.wrap (1*2^(min (((l.getD k 0:Nat):Int)).toNat IntKind.u32.bits)))
def nT(l:List Nat):Int:=wj l l.length
def FI(l:List Nat):List Int:=l.map λn:Nat=>(n:Int)
def mL(n Wb a:Nat):Bool:= !((decide (16<=Wb)||(a%64 !=0))||decide (n*64<=a))
def ga(n:Nat)(M:Mem)(Ww:Li)(Wb a cmd:Nat):Bool×Mem×List Int:=
 bif !mL n Wb a then(false,M,Ww)else
 bif cmd==1 then(true,M.fill (a/64*64) ((Ww.drop (Wb*64)).take 64) 64,Ww)else
 bif cmd==2 then(true,M,Ww.take (Wb*64)++(M.data.drop (a/64*64)).take 64++Ww.drop (Wb*64+64))else(false,M,Ww)
section
attribute [local irreducible] OpY bN
abbrev s8(b:Nat)(p m:Int):bJ:=row b [.w p,.w m] 210
abbrev Rc(b:Nat)(t:Int):bJ:=row b [.w t] 226
abbrev b8(A:Oa)(c:Nat)(l:Li):bJ:=sl .u8 5 A l.length c l
abbrev BM(b:Nat)(Ao:Oa)(no co:Nat)(Ai:Oa)(ni ci:Nat):bJ:=row b [.slice Ao no co,.slice Ai ni ci] 178
abbrev QM(b bd:Nat):bJ:=row b [.slice (sA bd) 1024 1024] 213
abbrev Pz(bd:Nat)(l:Li):bJ:=sl .u8 5 (sA bd) 1024 1024 l
theorem OC(w:World):Ctr prog 111 [] w [] (λv cs=>∃b,v= .p b/\cs=[s8 b 0 0]):=by
 refine Zfs func111 ntmps111 ?_;refine Z_8 ?_;refine ZO λb2=>?_
 exact UC
theorem MB(w:World):Ctr prog 112 [] w [] (λv cs=>∃b,v= .p b/\cs=[Rc b 0]):=by
 refine Zfs func112 ntmps112 ?_;refine Z_8 ?_;refine ZO λb2=>?_
 exact UC
theorem PV(w:World):Ctr prog 113 [] w [] (λv cs=>∃b,v= .p b/\cs=[BM b none 0 0 none 0 0]):=by
 refine Zfs func113 ntmps113 ?_;refine Z_8 ?_;refine ZO λb2=>?_
 exact UC
def _root_.Go.Ink.tz(l:Li):List Int:=l++List.replicate (1024 - l.length) 0
theorem PC(A:Oa)(c:Nat)(l:Li)(hl:l.length<=1024)(w:World)(h:Rd w .u8 A l.length c l):Ctr prog 110 [.slice A l.length c] w [] (λv cs=>∃b bd,v= .tuple #[.p b,.i 0]/\cs=[QM b bd,Pz bd (tz l)]):=by
 refine Zfs func110 ntmps110 ?_;refine jl ?_;refine cy rfl ((aF Wq1)) (Z_4 ?_);refine fo (mS (bytes:=1) (n:=1024) rfl rfl rfl rfl rfl rfl rfl Wq1 Wq9) rfl ?_;rintro _ _ ⟨b8_,rfl,rfl⟩;rw[rS];refine ZA ?_;refine ZO λb10=>?_
 refine fH ?_;refine Wq485 ?_;rintro _ _ ⟨rfl,rfl⟩;have hd:(ints .u8 (List.replicate 1024 0)).take 0++(ints .u8 l).take (min l.length 1024)++(ints .u8 (List.replicate 1024 0)).drop (0+min l.length 1024)=ints .u8 (tz l):=by(rw[Nat.min_eq_left hl,jx,jx,nX,List.take_zero,bC,Nat.zero_add,List.drop_replicate];simp[ints,tz])
 rw[hd];refine fH ?_;exact bO [QM b10 b8_,Pz b8_ (tz l)] Zj (AH (cs':=[row _ _ _,slv _ _ _ _ _ _]) (.inl rfl) Zu rfl rfl rfl pO)
theorem yT(b:Nat)(p m:Int)(w:World)(h:(s8 b p m).ok w):CW prog 93 [.p b] w (.w p):=by
 refine Zfs func93 ntmps93 ?_;refine uh ?_;exact o7
theorem NY(b:Nat)(p m:Int)(w:World)(h:(s8 b p m).ok w):CW prog 94 [.p b] w (.w m):=by
 refine Zfs func94 ntmps94 ?_;refine uh ?_;exact o7
theorem OO(b:Nat)(p m v:Int):CI prog 307 [.p b,.w v] [s8 b p m] (λx cs=>x= .tuple #[]/\cs=[s8 b (bits .andNot .u32 p v) m]):=λw hi=>by
 refine Zfn func307 ntmps307 hi ?_;refine Z_6 ?_;refine Zy (zR Zv0 Zv0 rfl) ?_;refine kZ ?_;refine Zn (jE (cs':=[row _ _ _]) (.inr rfl) Zu rfl ?_);exact gr
theorem F3(b:Nat)(p m v:Int):CI prog 308 [.p b,.w v] [s8 b p m] (λx cs=>x= .tuple #[]/\cs=[s8 b p (bits .and .u32 v 255)]):=λw hi=>by
 refine Zfn func308 ntmps308 hi ?_;refine Z_6 ?_;refine ZL ?_;refine Zn (jE (cs':=[row _ _ _]) (.inr rfl) Zu rfl ?_);exact gr
theorem nU(b:Nat)(p m:Int)(A:Oa)(c:Nat)(l:List Nat)(hl:∀x,x∈l->x<8)(w:World)(hi:Inv w (bK [s8 b p m]) [s8 b p m] w)(h:∀w',dc (bK [s8 b p m]) w w'->Rd w' .i64 A l.length c (FI l)):Ctr prog 87 [.p b,.slice A l.length c] w [s8 b p m] (λx cs=>x= .bool true/\cs=[s8 b (bits .or .u32 p (nT l)) m]):=by
 have hrw:=h w (dc.refl _ _);have hm:=hrw.max;have hcp:=hrw.cap;simp only[maxLen]at hm;refine Zfn func87 ntmps87 hi ?_;refine Gv ?_;refine wLo (λk:Nat=>[(0,.p b),(5,.w (wj l k)),(8,.slice A l.length c),(9,.i l.length),(10,.i (k:Int))]) (λ_=>[s8 b p m]) (λk=>k<=l.length) (λk=>l.length - k) (0) (ap _) ?_;rintro k hk;refine Zw6 ?_ ?_<;>intro hc3
 .simp only[ac]at hc3;have hkl:k<l.length:=by omega
  have hx:=hl _ (List.getElem_mem hkl);have hgd:l.getD k 0=l[k]'hkl:=by simp[hkl]
  obtain⟨ad,rfl⟩:=hrw.some_ Wq1;refine Z_6 ?_;refine Ex ?_;refine dQ (bM Zrf (Zv rfl)) (oG h (cK (show(FI l)[k]? =some ((l[k]'hkl:Nat):Int) by simp[FI,hkl]))) rfl (jl ?_);refine cy rfl ((by rw[aF (show¬((l[k]'hkl:Nat):Int)<0 by omega),aF (show¬(8:Int)<=((l[k]'hkl:Nat):Int) by omega)];rfl)) (Z_5 ?_);refine Lm ?_;refine Zy (Ci (Zv rfl) (Zv rfl) (show _=wj l (k+1)from by rw[wj,hgd])) ?_;refine lI ?_;refine qMM (k+1) ⟨by omega,by omega⟩
 simp only[aa]at hc3;obtain rfl:k=l.length:=by omega
 refine oU ?_;refine ZL ?_;refine Z_8 ?_;exact BX
theorem tset_ok(b:Nat)(t v:Int):CI prog 309 [.p b,.w v] [Rc b t] (λx cs=>x= .tuple #[]/\cs=[Rc b v]):=λw hi=>by
 refine Zfn func309 ntmps309 hi ?_;refine Z_5 ?_;refine ZL ?_;refine Zn (jE (cs':=[row _ _ _]) (.inr rfl) Zu rfl ?_);exact gr
theorem Rb(b:Nat)(t:Int)(w:World)(h:(Rc b t).ok w):CW prog 304 [.p b] w (.w t):=by
 refine Zfs func304 ntmps304 ?_;refine uh ?_;exact o7
theorem og(A:Oa)(n c:Nat)(xs:Li)(w:World)(h:Rd w .u8 A n c xs)(hn:n<=140737488355328):Ctr prog 99 [.slice A n c] w [] (λv cs=>∃A' c',v= .slice A' n c'/\cs=[sl .u8 5 A' n c' xs]):=by
 refine Zfs func99 ntmps99 ?_;refine fb ?_;refine ZW ?_ ?_<;>intro hc1
 .obtain rfl:A=none:=by simpa using hc1
  obtain⟨rfl,rfl⟩:=h.nil rfl;obtain rfl:xs=[]:=by have:=h.len;simpa[ints]using this
  refine Z_2 ?_;refine cY 5 1 (Z_5 ?_);exact Qg
 refine Z_4 ?_;refine jD ?_;rintro _ _ ⟨b5,rfl,rfl⟩;exact Wq270
theorem PQ(b:Nat)(Ao:Oa)(co:Nat)(o:Li)(Ai:Oa)(ni ci:Nat)(x:Int)(ho:o.length<=1000000000):CI prog 310 [.p b,.int .u8 x] [BM b Ao o.length co Ai ni ci,b8 Ao co o] (λv cs=>∃Ao' co',v= .tuple #[]/\cs=[BM b Ao' (o++[x]).length co' Ai ni ci,b8 Ao' co' (o++[x])]):=λw hi=>by
 refine Zfn func310 ntmps310 hi ?_;refine Z_7 ?_;refine jD ?_;rintro _ _ ⟨b10,rfl,rfl⟩;refine fo (bV (e:=5) (sz:=1) (bytes:=1) rfl rfl Za rfl rfl (λw hi=>hi.rd (Zhc (slv 5 1 (sA b10) 1 1 [.int .u8 x]))) (mQ rfl) (by simp only[maxLen];omega) Wq1) rfl ?_;rintro _ _ ⟨A2,c2,rfl,rfl⟩;rw[show o.length+1=(o++[x]).length by simp,show ints .u8 o++[Value.int .u8 x]=ints .u8 (o++[x])from cj o [x]];refine kZ ?_;refine Zn (jE (cs':=[row _ _ _,slv _ _ _ _ _ _]) (.inr rfl) Zu rfl ?_);exact⟨A2,c2,rfl,rfl⟩
theorem PR(b:Nat)(Ao:Oa)(no co:Nat)(Ai:Oa)(ni ci:Nat)(w:World)(h:(BM b Ao no co Ai ni ci).ok w):CW prog 306 [.p b] w (.i ni):=by
 refine Zfs func306 ntmps306 ?_;refine uh ?_;exact xy
theorem PJ(A:Oa)(c:Nat)(x:Int)(xs:Li)(hl:xs.length<=1000000000):CI prog 316 [.slice A (x::xs).length c,.i 0,.i 1] [b8 A c (x::xs)] (λv cs=>∃A' c',v= .slice A' xs.length c'/\cs=[b8 A' c' xs]):=λw hi=>by
 have hrd0:=hi.rd (Zhc (b8 A c (x::xs)));have hcap:=hrd0.cap;obtain⟨bb,rfl⟩:=eM (hi.get (Zhc (b8 A c (x::xs)))) (by simp);simp only[aO]at hcap;have hxl:(x::xs).length=xs.length+1:=rfl;obtain⟨q0,hq0⟩:=Zgn ((⟨bb,(if c=1 then 0 else 1),none⟩:Addr));have hq1:(some q0:Oa)=(if c=1 then some ⟨bb,0,none⟩else(some (⟨bb,0,none⟩:Addr)).map (·.add (1*1))):=by
  rw[<-hq0];split<;>rfl
 refine Zfn func316 ntmps316 hi ?_;refine fb ?_;refine Zy (QR (lo:=0) (hi:=1) (mx:=(x::xs).length) rfl Zrf (Zv rfl) (Zv rfl) (Zv rfl) (Zv rfl) (by omega) (by omega) (by omega)) ?_;refine fH ?_;refine kv ?_;refine fH ?_;refine bU (Zdn [6]) Zk (ZE 0 ?_);refine ZE 1 ?_;refine Zy4 2 rfl (eC 0 rfl Zrf (Zv rfl) (Zv rfl) (λ_=>by first|rfl|omega) (λ_=>by omega)) ?_;refine ZE 3 ?_;refine ZE 4 ?_;refine Zy4 5 rfl (QQ (lo:=1) (hi:=(x::xs).length) (r:=q0) rfl Zrf (Zv rfl) (.inr ⟨_,_,rfl,(Zv rfl)⟩) (.inl ⟨rfl,rfl⟩) (by simp) (by simpa using hcap) hq1) ?_;refine cW 6 Zk (gX rfl rfl (MQ (e:=5) (bytes:=1) rfl (by omega) rfl Za rfl rfl (λw hi=>(by have h5:=(hi.rd (Zhc (b8 (sA bb) c (x::xs)))).cut (lo:=1) (hi:=(x::xs).length) (by simp) (aL _);rw[<-hq1]at h5;exact h5)) (by rw[jx,nX];exact cN) (by omega)) ZJ rfl ?_);rintro _ _ ⟨rfl,rfl⟩;rw[show 0+((x::xs).length - 1)=xs.length by simp,show(ints .u8 (x::xs)).take 0++((ints .u8 (x::xs)).take (x::xs).length).drop 1=ints .u8 xs from by(simp[ints];exact aM (by simp))];refine ZE 7 ?_;refine dR ?_;refine Z_7 ?_;refine Zy (mg (sz:=1) (lo:=xs.length) (hi:=(x::xs).length) (r:=xs.length) rfl Zrf (Zv rfl) (.inr ⟨_,_,rfl,(Zv rfl)⟩) (.inr ⟨_,_,rfl,(Zv rfl)⟩) (by omega) (by omega) (by omega) (by omega)) ?_;refine eT (t_clear rfl Za rfl Zrf rfl rfl (aL _) (by simp only[aO];omega)) ?_;rintro _ _ ⟨rfl,rfl⟩;refine Z_9 ?_;exact Qg
theorem TM(b:Nat)(Ao:Oa)(no co:Nat)(Ai:Oa)(ci:Nat)(inp:Li)(hl:inp.length<=1000000000):CI prog 305 [.p b] [BM b Ao no co Ai inp.length ci,b8 Ai ci inp] (λv cs=>∃Ai' ci',v= .int .u8 (gB inp 0)/\cs=[b8 Ai' ci' inp.tail,BM b Ao no co Ai' inp.tail.length ci']):=λw hi=>by
 cases inp with
 |nil=>
  refine Zfn func305 ntmps305 hi ?_;refine rc ?_;refine pX ?_;refine Z_7 ?_;refine bO [b8 Ai ci [],BM b Ao no co Ai 0 ci] Zj (Zrb ([slv _ _ _ _ _ _,row _ _ _]) ?_);exact pO
 |cons x xs=>
  have hxl:(x::xs).length=xs.length+1:=rfl;have hc1':(((x::xs).length:Int)==0)=false:=by rw[aV];simp only[aO];omega
  obtain⟨bb,rfl⟩:=eM (hi.get (Zhc (b8 Ai ci (x::xs)))) cP;refine Zfn func305 ntmps305 hi ?_;refine rc ?_;refine cy rfl (hc1') (Z_8 ?_);refine Zy (cw (j:=0) (sz:=1) (r:=0) rfl Zrf (Zv rfl) (Zv rfl) Wq2 Wq2 Wq1) ?_;refine dQ (bM Zrf Zv0) (dG (xs:=ints .u8 (x::xs)) Zh rfl) rfl (fH ?_);refine dy ([b8 (sA bb) ci (x::xs)]) (λw hi hin=>PJ (sA bb) ci x xs (by simp only[aO]at hl;omega) w hin) ?_;rintro _ _ ⟨A2,c2,rfl,rfl⟩;refine kZ ?_;refine Z_9 ?_;refine Zrb ([slv _ _ _ _ _ _,row _ _ _]) ?_;exact pO
theorem H4(n k:Nat):((n:Int)==((k:Nat):Int))=(n==k):=by rw[Bool.eq_iff_iff];simp;omega
theorem natBne(n k:Nat):((n:Int) !=((k:Nat):Int))=(n !=k):=by rw[Bool.eq_iff_iff];simp;omega
theorem zt(n Wb a:Nat):(((false||decide ((16:Int)<=Wb))||(((a%64:Nat):Int) !=((0:Nat):Int)))||decide (((n*64:Nat):Int)<=a))= !mL n Wb a:=by
 unfold mL;rw[Bool.not_not,Bool.false_or,natBne,show decide ((16:Int)<=Wb)=decide (16<=Wb)from decide_eq_decide.2 Wq1,show decide (((n*64:Nat):Int)<=a)=decide (n*64<=a)from decide_eq_decide.2 Wq1]
theorem disk_rd{w:World}{bk Wb:Nat}{Ww:Li}(h:RdV w 1 (sA bk) 1024 1024 (ints .u8 Ww))(hs:Wb<16):Rd w .u8 (some ⟨bk,Wb*64,none⟩) 64 (1024 - Wb*64) ((Ww.drop (Wb*64)).take 64):=by
 have h1:=h.cut (lo:=Wb*64) (hi:=Wb*64+64) Wq1 Wq1;rw[if_neg Wq1,Option.map_some,Addr.add_lit,Nat.mul_one,Nat.zero_add,jx,nX,show Wb*64+64 - Wb*64=64 by omega,List.drop_take,show Wb*64+64 - Wb*64=64 by omega]at h1;exact h1
theorem TF(bd bk:Nat)(L:eB)(M:Mem)(Ww:Li)(hk:Ww.length=1024)(hkb:u8s Ww)(Wb a cmd:Nat)(hs:Wb<=4294967295)(ha:a<=4294967295):CI prog 311 [.p bd,.p L.bm,.w Wb,.w a,.w cmd] [QM bd bk,Pz bk Ww,fw L M] (λv cs=>v= .bool (ga L.n M Ww Wb a cmd).1/\cs=[QM bd bk,Pz bk (ga L.n M Ww Wb a cmd).2.2,fw L (ga L.n M Ww Wb a cmd).2.1]):=λw hi=>by
 obtain⟨n1,n64,hdl,hdb,htl⟩:=nc (hi.ok (fw L M) cP);refine Zfn func311 ntmps311 hi ?_;refine rc ?_;refine Zyn rfl rfl (jm (cA rfl) (Zv rfl) Wq1 (show _=((a%64:Nat):Int)from by rw[aW Wq1];omega)) ?_;refine Z_5 ?_;refine dE (bQ rfl rfl) (.cons (cA rfl) .nil) (λ_ _=>rfl) (λhg w hi=>oD L M w (hi.get (Zhc (fw L M)))) rfl (Z_4 ?_);refine ZW ?_ ?_<;>intro hc1
 .have hno:mL L.n Wb a=false:=by(have h2:=(zt L.n Wb a).symm.trans hc1;simpa using h2)
  have hdo:ga L.n M Ww Wb a cmd=(false,M,Ww):=by(unfold ga;rw[hno];rfl)
  rw[hdo];refine Z_7 ?_;exact UH
 have hyes:mL L.n Wb a=true:=by(have h2:=(zt L.n Wb a).symm.trans hc1;simpa using h2)
 have hf:Wb<16/\a%64=0/\a<L.n*64:=by(unfold mL at hyes;simp only[Bool.not_eq_true',aS,aa,bne_eq_false_iff_eq]at hyes;omega)
 obtain⟨s16,am,an⟩:=hf;have hdo:ga L.n M Ww Wb a cmd=bif cmd==1 then(true,M.fill (a/64*64) ((Ww.drop (Wb*64)).take 64) 64,Ww)else bif cmd==2 then(true,M,Ww.take (Wb*64)++(M.data.drop (a/64*64)).take 64++Ww.drop (Wb*64+64))else(false,M,Ww):=by(unfold ga;rw[hyes];rfl)
 rw[hdo];have hsl:((Ww.drop (Wb*64)).take 64).length=64:=by(rw[aD,bH];omega)
 refine Z_9 ?_;refine Zy (jF (Zv rfl) (Zv rfl) (show _=((Wb*64:Nat):Int)from(u32_wrap_id _ Wq1 Wq1).trans Wq1)) ?_;refine ZA ?_;refine Zy (eK (Zv rfl) (Zv rfl) (show _=((Wb+1:Nat):Int)from(u32_wrap_id _ Wq1 Wq1).trans Wq1)) ?_;refine Zy (jF (Zv rfl) (Zv rfl) (show _=((Wb*64+64:Nat):Int)from(u32_wrap_id _ Wq1 Wq1).trans Wq1)) ?_;refine Zy (mg (sz:=1) (lo:=Wb*64) (hi:=Wb*64+64) (r:=Wb*64) rfl Zrf (Zv rfl) (.inr ⟨_,_,rfl,(Zv rfl)⟩) (.inr ⟨_,_,rfl,(Zv rfl)⟩) Wq1 Wq1 Wq1 Wq1) ?_;refine Z_6 ?_;refine Wq465 ?_;refine Z_6 ?_;rw[show Wb*64+64 - Wb*64=64 by omega];refine mZ ?_ ?_<;>intro hc6
 .have hcm:(cmd==1)=true:=(H4 cmd 1).symm.trans hc6;rw[hcm];simp only[ai];refine Z_5 ?_;refine ZcM ([fw L M]) (λw hi hin=>Fk L M (a/64) Wq1 (some ⟨bk,Wb*64,none⟩) (1024 - Wb*64) ((Ww.drop (Wb*64)).take 64) hsl (λx hx=>hkb x (bG (aB hx))) w hin (λw' hk=>disk_rd (hi.rdK (show EO _ (fw L M) (Pz bk Ww)from(by repeat (first|(refine .l _ ?_;repeat (first|exact .head _ _|apply Has.tail))|(refine .r _ ?_;repeat (first|exact .head _ _|apply Has.tail))|apply EO.t))) hk) s16)) ?_;refine Z_6 ?_;exact bO [QM bd bk,Pz bk Ww,fw L (M.fill (a/64*64) ((Ww.drop (Wb*64)).take 64) 64)] Zj UH
 have hcm:(cmd==1)=false:=(H4 cmd 1).symm.trans hc6;rw[hcm];refine iB ?_;refine Zw6 ?_ ?_<;>intro hc8
 .have hcm2:(cmd==2)=true:=(H4 cmd 2).symm.trans hc8;rw[hcm2];simp only[ai];refine Z_4 ?_;refine ZSn (λw hi=>AE L M (a/64) Wq1 w (hi.get (Zhc (fw L M)))) ?_;rintro _ _ ⟨bq,rfl,rfl⟩;refine gq ?_;refine fo (MP rfl rfl Za rfl rfl (λw hi=>hi.rd (Zhc (sl .u8 5 (sA bq) 64 64 ((M.data.drop (a/64*64)).take 64)))) cN Wq1) rfl ?_;rintro _ _ ⟨rfl,rfl⟩;rw[show(ints .u8 Ww).take (Wb*64)++(ints .u8 ((M.data.drop (a/64*64)).take 64)).take (min 64 64)++(ints .u8 Ww).drop (Wb*64+min 64 64)=ints .u8 (Ww.take (Wb*64)++(M.data.drop (a/64*64)).take 64++Ww.drop (Wb*64+64))from by(rw[Nat.min_self,jx,jx,nX,cj,cj,List.take_take,Nat.min_self])];refine gq ?_;exact UH
 have hcm2:(cmd==2)=false:=(H4 cmd 2).symm.trans hc8;rw[hcm2];refine iB ?_;refine Z_9 ?_;exact UH
structure Dev where
 Wx:Int
 mask:Int
 timer:Int
 out:List Int
 inp:List Int
 Ww:List Int
 Wb:Nat
 place:Nat
 status:Int
structure rx where
 bs:Nat
 bi:Nat
 bti:Nat
 bcn:Nat
 bdr:Nat
 bdk:Nat
structure ov where
 Ao:Option Addr
 co:Nat
 Ai:Option Addr
 ci:Nat
structure Dev.wf(d:Dev):Prop where
 XK:u8s d.inp
 Ww:d.Ww.length=1024
 Xn:u8s d.Ww
 Wb:d.Wb<=4294967295
 place:d.place<=4294967295
 inp:d.inp.length<=1000000000
def yf(a:Nat):Int:=IntKind.u32.wrap ((a:Int) - 32768)
def gb(d:Dev)(k count:Int):(Int×Bool)×Dev:=
 bif k==0 then((d.Wx,true),d)else bif k==4 then((d.mask,true),d)else bif k==8 then((d.timer,true),d)else bif k==12 then((IntKind.u32.wrap count,true),d)else
 bif k==16 then((0,true),d)else bif k==40 then((0,true),d)else bif k==20 then((gB d.inp 0,true),{d with inp:=d.inp.tail})else bif k==24 then(((d.inp.length:Int),true),d)else
 bif k==32 then(((d.Wb:Int),true),d)else bif k==36 then(((d.place:Int),true),d)else bif k==44 then((d.status,true),d)else((0,false),d)
def fu(n:Nat)(M:Mem)(d:Dev)(v:Nat):Mem×Dev:=
 ((ga n M d.Ww d.Wb d.place v).2.1,{d with Ww:=(ga n M d.Ww d.Wb d.place v).2.2,status:=bif(ga n M d.Ww d.Wb d.place v).1 then 0 else 1,Wx:=bits .or .u32 d.Wx (nT [2])})
def cM(n:Nat)(M:Mem)(d:Dev)(k:Int)(v:Nat):Bool×Mem×Dev:=
 bif k==0 then(true,M,{d with Wx:=bits .andNot .u32 d.Wx v})else bif k==4 then(true,M,{d with mask:=bits .and .u32 v 255})else bif k==8 then(true,M,{d with timer:=v})else
 bif k==16 then(true,M,{d with out:=d.out++[IntKind.u8.wrap v]})else bif k==32 then(true,M,{d with Wb:=v})else bif k==36 then(true,M,{d with place:=v})else
 bif k==40 then(true,fu n M d v)else bif k==12 then(true,M,d)else bif k==20 then(true,M,d)else bif k==24 then(true,M,d)else bif k==44 then(true,M,d)else(false,M,d)
abbrev P4(D:rx)(bm:Nat)(d:Dev):bJ:=row D.bs [.p D.bi,.p D.bti,.p D.bcn,.p D.bdr,.p bm,.w (d.Wb:Int),.w (d.place:Int),.w d.status] 145
abbrev mO(D:rx)(bm:Nat)(X:ov)(d:Dev):List bJ:=[P4 D bm d,s8 D.bi d.Wx d.mask,Rc D.bti d.timer,BM D.bcn X.Ao d.out.length X.co X.Ai d.inp.length X.ci,b8 X.Ao X.co d.out,b8 X.Ai X.ci d.inp,QM D.bdr D.bdk,Pz D.bdk d.Ww]
theorem K4(D:rx)(bm:Nat)(X:ov)(d:Dev)(hd:d.wf)(a:Nat)(count:Int):CI prog 283 [.p D.bs,.w a,.int .u64 count] (mO D bm X d) (λv cs=>∃X',v= .tuple #[.w (gb d (yf a) count).1.1,.bool (gb d (yf a) count).1.2]/\cs=mO D bm X' (gb d (yf a) count).2):=λw hi=>by
 have hinp:=hd.inp;have hgb:IntKind.u32.wrap (gB d.inp 0)=gB d.inp 0:=by have:=kJ hd.XK 0;exact u32_wrap_id _ Wq1 Wq1
 obtain⟨k,hk⟩:=Zgn (yf a);rw[hk];unfold yf at hk;refine Zfn func283 ntmps283 hi ?_;refine fH ?_;refine Zy (i5 Zv0 Zv0 hk) ?_;refine Zw9 ?_ ?_<;>intro hc2
 .refine Z_6 ?_;refine ZSe (λw hi=>yT D.bi d.Wx d.mask w (hi.get Zh)) ?_;refine Z_7 ?_;refine Lu ?_;refine⟨X,?_,?_⟩
  .exact uV
  exact uV
 refine Zw6 ?_ ?_<;>intro hc4
 .refine Z_6 ?_;refine ZSe (λw hi=>NY D.bi d.Wx d.mask w (hi.get Zh)) ?_;refine Z_7 ?_;refine Lu ?_;refine⟨X,?_,?_⟩
  .exact uV
  exact uV
 refine Zw6 ?_ ?_<;>intro hc6
 .refine Z_6 ?_;refine ZSe (λw hi=>Rb D.bti d.timer w (hi.get Zh)) ?_;refine Z_7 ?_;refine Lu ?_;refine⟨X,?_,?_⟩
  .exact uV
  exact uV
 refine Zw6 ?_ ?_<;>intro hc8
 .refine Z_3 ?_;refine oq ?_;refine Z_7 ?_;refine Lu ?_;refine⟨X,?_,?_⟩
  .exact uV
  exact uV
 refine Zw7 ?_ ?_<;>intro hc10
 .refine Z_2 ?_;refine cn rfl (hc10) (Z_9 ?_);refine Lu ?_;refine⟨X,?_,?_⟩
  .exact uV
  exact uV
 refine Zw5 ?_ ?_<;>intro hc11
 .refine Z_9 ?_;refine Lu ?_;refine⟨X,?_,?_⟩
  .exact uV
  exact uV
 refine Zw6 ?_ ?_<;>intro hc13
 .refine Z_6 ?_;refine dy ([BM D.bcn X.Ao d.out.length X.co X.Ai d.inp.length X.ci,b8 X.Ai X.ci d.inp]) (λw hi hin=>TM D.bcn X.Ao d.out.length X.co X.Ai X.ci d.inp hinp w hin) ?_;rintro _ _ ⟨Ai',ci',rfl,rfl⟩;refine Zy (cU rfl rfl (Zv rfl) (show IntKind.u32.wrap (gB d.inp 0)=gB d.inp 0 from hgb)) ?_;refine Z_7 ?_;refine bO (mO D bm ⟨X.Ao,X.co,Ai',ci'⟩ {d with inp:=d.inp.tail}) Zj (Lu ?_);refine⟨⟨X.Ao,X.co,Ai',ci'⟩,?_,?_⟩
  .exact uV
  exact uV
 refine Zw6 ?_ ?_<;>intro hc15
 .refine Z_6 ?_;refine ZSe (λw hi=>PR D.bcn X.Ao d.out.length X.co X.Ai d.inp.length X.ci w (hi.get Zh)) ?_;refine Zy (cU rfl rfl (Zv rfl) (u32_wrap_id _ Wq1 Wq1)) ?_;refine Z_7 ?_;refine Lu ?_;refine⟨X,?_,?_⟩
  .exact uV
  exact uV
 refine Zw6 ?_ ?_<;>intro hc17
 .refine ng ?_;refine Lu ?_;refine⟨X,?_,?_⟩
  .exact uV
  exact uV
 refine Zw6 ?_ ?_<;>intro hc19
 .refine ng ?_;refine Lu ?_;refine⟨X,?_,?_⟩
  .exact uV
  exact uV
 refine Zw6 ?_ ?_<;>intro hc21
 .refine ng ?_;refine Lu ?_;refine⟨X,?_,?_⟩
  .exact uV
  exact uV
 refine fH ?_;refine Lu ?_;refine⟨X,?_,?_⟩
 .exact uV
 exact uV
theorem Gs(D:rx)(L:eB)(M:Mem)(X:ov)(d:Dev)(hd:d.wf)(ho:d.out.length<=1000000000)(a v:Nat)(count:Int):CI prog 285 [.p D.bs,.w a,.w v,.int .u64 count] (mO D L.bm X d++[fw L M]) (λx cs=>∃X',x= .bool (cM L.n M d (yf a) v).1/\cs=mO D L.bm X' (cM L.n M d (yf a) v).2.2++[fw L (cM L.n M d (yf a) v).2.1]):=λw hi=>by
 obtain⟨k,hk⟩:=Zgn (yf a);rw[hk];unfold yf at hk;refine Zfn func285 ntmps285 hi ?_;refine Z_9 ?_;refine Zy (i5 Zv0 Zv0 hk) ?_;refine Zw9 ?_ ?_<;>intro hc3
 .refine Z_6 ?_;refine ZcM ([s8 D.bi d.Wx d.mask]) (λw hi hin=>OO D.bi d.Wx d.mask v w hin) ?_;refine Z_9 ?_;refine bO (mO D L.bm X {d with Wx:=bits .andNot .u32 d.Wx v}++[fw L M]) Zj (Lq ?_);refine⟨X,?_,?_⟩
  .simp only[cM,fu, *,ai,ah]<;>exact rfl
  simp only[cM,fu, *,ai,ah]<;>exact rfl
 refine Zw6 ?_ ?_<;>intro hc5
 .refine Z_6 ?_;refine ZcM ([s8 D.bi d.Wx d.mask]) (λw hi hin=>F3 D.bi d.Wx d.mask v w hin) ?_;refine Z_9 ?_;refine bO (mO D L.bm X {d with mask:=bits .and .u32 v 255}++[fw L M]) Zj (Lq ?_);refine⟨X,?_,?_⟩
  .simp only[cM,fu, *,ai,ah]<;>exact rfl
  simp only[cM,fu, *,ai,ah]<;>exact rfl
 refine Zw6 ?_ ?_<;>intro hc7
 .refine Z_6 ?_;refine ZcM ([Rc D.bti d.timer]) (λw hi hin=>tset_ok D.bti d.timer v w hin) ?_;refine Z_9 ?_;refine bO (mO D L.bm X {d with timer:=v}++[fw L M]) Zj (Lq ?_);refine⟨X,?_,?_⟩
  .simp only[cM,fu, *,ai,ah]<;>exact rfl
  simp only[cM,fu, *,ai,ah]<;>exact rfl
 refine Zw6 ?_ ?_<;>intro hc9
 .refine Z_6 ?_;refine oq ?_;refine dy ([BM D.bcn X.Ao d.out.length X.co X.Ai d.inp.length X.ci,b8 X.Ao X.co d.out]) (λw hi hin=>PQ D.bcn X.Ao X.co d.out X.Ai d.inp.length X.ci (IntKind.u8.wrap v) ho w hin) ?_;rintro _ _ ⟨Ao',co',rfl,rfl⟩;refine Z_9 ?_;refine bO (mO D L.bm ⟨Ao',co',X.Ai,X.ci⟩ {d with out:=d.out++[IntKind.u8.wrap v]}++[fw L M]) Zj (Lq ?_);refine⟨⟨Ao',co',X.Ai,X.ci⟩,?_,?_⟩
  .simp only[cM, *,ai,ah]<;>exact rfl
  simp only[cM, *,ai,ah]<;>exact rfl
 refine Zw6 ?_ ?_<;>intro hc11
 .refine Z_5 ?_;refine ZL ?_;refine Z_9 ?_;refine Lq ?_;refine⟨X,?_,?_⟩
  .simp only[cM,fu, *,ai,ah]<;>exact rfl
  simp only[cM,fu, *,ai,ah]<;>exact rfl
 refine Zw6 ?_ ?_<;>intro hc13
 .refine Z_5 ?_;refine ZL ?_;refine Z_9 ?_;refine Lq ?_;refine⟨X,?_,?_⟩
  .simp only[cM,fu, *,ai,ah]<;>exact rfl
  simp only[cM,fu, *,ai,ah]<;>exact rfl
 refine Zw6 ?_ ?_<;>intro hc15
 .refine Z_5 ?_;refine ZL ?_;refine Z_4 ?_;refine bU (Zdn [17]) Zk (pP ?_);refine ZFe 2 3 ?_;refine Ca ?_;refine ZFe 6 4 ?_;refine ZG 7 ?_;refine ZE 8 ?_;refine ZE 9 ?_;refine ZFe 10 5 ?_;refine ZG 11 ?_;refine ZE 12 ?_;refine ZE 13 ?_;refine ZFe 14 6 ?_;refine ZG 15 ?_;refine ZE 16 ?_;refine cW 17 Zk (tD ([QM D.bdr D.bdk,Pz D.bdk d.Ww,fw L M]) (λw hi hin=>TF D.bdr D.bdk L M d.Ww hd.Ww hd.Xn d.Wb d.place v hd.Wb hd.place w hin) ?_);rintro _ _ ⟨rfl,rfl⟩;refine ug ?_;refine ZW ?_ ?_<;>intro hc17
  .refine Z_4 ?_;refine ZL ?_;refine Z_7 ?_;refine jD ?_;rintro _ _ ⟨b86,rfl,rfl⟩;refine ZcM ([s8 D.bi d.Wx d.mask]) (λw hi hin=>nU D.bi d.Wx d.mask (sA b86) 1 [2] cP w hin (λw' hk=>hi.rdK (show EO _ (s8 D.bi d.Wx d.mask) (slv 3 1 (sA b86) 1 1 [.i 2])from(by repeat (first|(refine .l _ ?_;repeat (first|exact .head _ _|apply Has.tail))|(refine .r _ ?_;repeat (first|exact .head _ _|apply Has.tail))|apply EO.t))) hk)) ?_;refine Z_9 ?_;refine bO (mO D L.bm X {d with Ww:=(ga L.n M d.Ww d.Wb d.place v).2.2,status:=0,Wx:=bits .or .u32 d.Wx (nT [2])}++[fw L (ga L.n M d.Ww d.Wb d.place v).2.1]) Zj (Lq ?_);refine⟨X,?_,?_⟩
   .simp only[cM,fu, *,ai,ah]<;>exact rfl
   simp only[cM,fu, *,ai,ah]<;>exact rfl
  refine Z_7 ?_;refine jD ?_;rintro _ _ ⟨b86,rfl,rfl⟩;refine ZcM ([s8 D.bi d.Wx d.mask]) (λw hi hin=>nU D.bi d.Wx d.mask (sA b86) 1 [2] cP w hin (λw' hk=>hi.rdK (show EO _ (s8 D.bi d.Wx d.mask) (slv 3 1 (sA b86) 1 1 [.i 2])from(by repeat (first|(refine .l _ ?_;repeat (first|exact .head _ _|apply Has.tail))|(refine .r _ ?_;repeat (first|exact .head _ _|apply Has.tail))|apply EO.t))) hk)) ?_;refine Z_9 ?_;refine bO (mO D L.bm X {d with Ww:=(ga L.n M d.Ww d.Wb d.place v).2.2,status:=1,Wx:=bits .or .u32 d.Wx (nT [2])}++[fw L (ga L.n M d.Ww d.Wb d.place v).2.1]) Zj (Lq ?_);refine⟨X,?_,?_⟩
  .simp only[cM,fu, *,ai,ah]<;>exact rfl
  simp only[cM,fu, *,ai,ah]<;>exact rfl
 refine Zw7 ?_ ?_<;>intro hc20
 .refine Z_2 ?_;refine cn rfl (hc20) (Z_9 ?_);refine Lq ?_;refine⟨X,?_,?_⟩
  .simp only[cM,fu, *,ai,ah]<;>exact rfl
  simp only[cM,fu, *,ai,ah]<;>exact rfl
 refine Zw6 ?_ ?_<;>intro hc21
 .refine Z_2 ?_;refine cn rfl (hc21) (Z_9 ?_);refine Lq ?_;refine⟨X,?_,?_⟩
  .simp only[cM,fu, *,ai,ah]<;>exact rfl
  simp only[cM,fu, *,ai,ah]<;>exact rfl
 refine Zw6 ?_ ?_<;>intro hc22
 .refine Z_2 ?_;refine cn rfl (hc22) (Z_9 ?_);refine Lq ?_;refine⟨X,?_,?_⟩
  .simp only[cM,fu, *,ai,ah]<;>exact rfl
  simp only[cM,fu, *,ai,ah]<;>exact rfl
 refine Zw5 ?_ ?_<;>intro hc23
 .refine Z_9 ?_;refine Lq ?_;refine⟨X,?_,?_⟩
  .simp only[cM,fu, *,ai,ah]<;>exact rfl
  simp only[cM,fu, *,ai,ah]<;>exact rfl
 refine Z_8 ?_;refine Lq ?_;refine⟨X,?_,?_⟩
 .simp only[cM,fu, *,ai,ah]<;>exact rfl
 simp only[cM,fu, *,ai,ah]<;>exact rfl
def AZ(op:Int):Bool:=bif op==16 then true else bif op==17 then true else bif op==18 then true else bif op==19 then true else bif op==20 then true else bif op==21 then true else bif op==22 then true else bif op==23 then true else bif op==24 then true else bif op==25 then true else bif op==48 then true else bif op==49 then true else bif op==50 then true else bif op==51 then true else bif op==52 then true else bif op==53 then true else bif op==64 then true else bif op==65 then true else bif op==66 then true else bif op==67 then true else bif op==68 then true else bif op==69 then true else false
def vX(op:Int):Bool:=bif op==0 then true else bif op==1 then true else bif op==2 then true else bif op==3 then true else bif op==4 then true else bif op==5 then true else bif op==6 then true else bif op==7 then true else bif op==8 then true else bif op==32 then true else bif op==33 then true else bif op==34 then true else bif op==35 then true else bif op==36 then true else bif op==37 then true else bif op==38 then true else bif op==39 then true else bif op==40 then true else AZ op
def cF(op:Int):Int:=bif op==1 then 2 else bif op==32 then 2 else bif op==33 then 2 else bif op==34 then 2 else bif op==35 then 2 else bif op==36 then 2 else bif op==37 then 2 else bif op==38 then 2 else bif op==66 then 2 else bif op==67 then 2 else bif op==2 then 5 else bif !vX op then 0 else 1
def iy(op n:Int):Bool:=bif cF op==0 then false else bif cF op==1 then n==0 else bif cF op==2 then decide (n<=255)else true
def vW(op:Int):Bool:=decide (65<=op)&&decide (op<=69)
def dC(r:Int):Int:=bif bits .and .u32 r 2147483648 !=0 then bits .or .u32 (bif r==0 then bits .or .u32 0 1 else 0) 2 else bif r==0 then bits .or .u32 0 1 else 0
def iA(a b:Int)(up:Bool):Int:=bif decide (32<=b)then 0 else bif up then IntKind.u32.wrap (a*2^(min b.toNat IntKind.u32.bits))else a.fdiv (2^(min b.toNat IntKind.u32.bits))
def oa(a b r f:Int)(c:Bool)(o:Int):Int:=bif o !=0 then bits .or .u32 (bif c then bits .or .u32 f 4 else f) 8 else bif c then bits .or .u32 f 4 else f
def mX(a b:Int):Int:=oa a b 0 (dC (IntKind.u32.wrap (a - b))) (decide (a<b)) (bits .and .u32 (bits .and .u32 (bits .xor .u32 a b) (bits .xor .u32 a (IntKind.u32.wrap (a - b)))) 2147483648)
def tv(a b:Int):Int:=oa a b 0 (dC (IntKind.u32.wrap (a+b))) (decide (IntKind.u32.wrap (a+b)<a)) (bits .and .u32 (bits .and .u32 (bits .xor .u32 a (IntKind.u32.wrap (a+b))) (bits .xor .u32 b (IntKind.u32.wrap (a+b)))) 2147483648)
def Ub(r:Int):Int×Int×Bool:=(r,dC r,true)
def jR(op a b:Int):Int×Int×Bool:=
 bif op==16 then(IntKind.u32.wrap (a+b),tv a b,true)else bif op==17 then(IntKind.u32.wrap (a - b),mX a b,true)else bif op==25 then(0,mX a b,true)else bif op==18 then Ub (bits .and .u32 a b)else bif op==19 then Ub (bits .or .u32 a b)else bif op==20 then Ub (bits .xor .u32 a b)else bif op==21 then Ub (iA a b true)else bif op==22 then Ub (iA a b false)else bif op==23 then Ub (IntKind.u32.wrap (a*b))else bif op==24 then(bif b==0 then(0,0,false)else Ub (IntKind.u32.wrap (a.tdiv b)))else(0,0,false)
def dw(op f:Int):Bool×Bool:=bif op==33 then(bits .and .u32 f 1 !=0,true)else bif op==34 then(bits .and .u32 f 1==0,true)else bif op==35 then(bits .and .u32 f 4 !=0,true)else bif op==36 then(bits .and .u32 f 2 !=0,true)else bif op==37 then(bits .and .u32 f 8 !=0,true)else(false,false)
def ma(b:Int):Int:=IntKind.u32.wrap (IntKind.i32.wrap (IntKind.i8.wrap b))
def ce(op:Int):(Nat×Nat)×(Nat×Nat):=
 bif op==1 then((0,1),(0,0))else bif op==2 then((0,1),(0,0))else bif op==66 then((0,1),(0,0))else bif op==3 then((1,2),(0,0))else bif op==4 then((1,0),(0,0))else bif op==40 then((1,0),(0,0))else bif op==67 then((1,0),(0,0))else bif op==68 then((1,0),(0,0))else bif op==5 then((2,2),(0,0))else bif op==6 then((2,3),(0,0))else bif op==7 then((1,0),(0,1))else bif op==8 then((0,1),(1,0))else bif op==16 then((2,1),(0,0))else bif op==17 then((2,1),(0,0))else bif op==18 then((2,1),(0,0))else bif op==19 then((2,1),(0,0))else bif op==20 then((2,1),(0,0))else bif op==21 then((2,1),(0,0))else bif op==22 then((2,1),(0,0))else bif op==23 then((2,1),(0,0))else bif op==24 then((2,1),(0,0))else bif op==25 then((2,0),(0,0))else bif op==49 then((2,0),(0,0))else bif op==51 then((2,0),(0,0))else bif op==53 then((2,0),(0,0))else bif op==48 then((1,1),(0,0))else bif op==50 then((1,1),(0,0))else bif op==52 then((1,1),(0,0))else bif op==38 then((0,0),(0,1))else bif op==39 then((0,0),(1,0))else((0,0),(0,0))
theorem Sc(op:Int)(w:World):Ctr prog 277 [.i op] w [] (λv cs=>(∃s,v= .string s/\(s.data.toList==[])= !AZ op)/\cs=[]):=by
 refine Zfs func277 ntmps277 ?_;refine EU ?_;refine ZW ?_ ?_<;>intro hc2
 .refine gm ?_;refine⟨⟨_,rfl,?_⟩,rfl⟩;exact xq
 refine Zw6 ?_ ?_<;>intro hc4
 .refine gm ?_;refine⟨⟨_,rfl,?_⟩,rfl⟩;exact xq
 refine Zw6 ?_ ?_<;>intro hc6
 .refine gm ?_;refine⟨⟨_,rfl,?_⟩,rfl⟩;exact xq
 refine Zw6 ?_ ?_<;>intro hc8
 .refine gm ?_;refine⟨⟨_,rfl,?_⟩,rfl⟩;exact xq
 refine Zw6 ?_ ?_<;>intro hc10
 .refine gm ?_;refine⟨⟨_,rfl,?_⟩,rfl⟩;exact xq
 refine Zw6 ?_ ?_<;>intro hc12
 .refine gm ?_;refine⟨⟨_,rfl,?_⟩,rfl⟩;exact xq
 refine Zw6 ?_ ?_<;>intro hc14
 .refine gm ?_;refine⟨⟨_,rfl,?_⟩,rfl⟩;exact xq
 refine Zw6 ?_ ?_<;>intro hc16
 .refine gm ?_;refine⟨⟨_,rfl,?_⟩,rfl⟩;exact xq
 refine Zw6 ?_ ?_<;>intro hc18
 .refine gm ?_;refine⟨⟨_,rfl,?_⟩,rfl⟩;exact xq
 refine Zw6 ?_ ?_<;>intro hc20
 .refine gm ?_;refine⟨⟨_,rfl,?_⟩,rfl⟩;exact xq
 refine Zw6 ?_ ?_<;>intro hc22
 .refine gm ?_;refine⟨⟨_,rfl,?_⟩,rfl⟩;exact xq
 refine Zw6 ?_ ?_<;>intro hc24
 .refine gm ?_;refine⟨⟨_,rfl,?_⟩,rfl⟩;exact xq
 refine Zw6 ?_ ?_<;>intro hc26
 .refine gm ?_;refine⟨⟨_,rfl,?_⟩,rfl⟩;exact xq
 refine Zw6 ?_ ?_<;>intro hc28
 .refine gm ?_;refine⟨⟨_,rfl,?_⟩,rfl⟩;exact xq
 refine Zw6 ?_ ?_<;>intro hc30
 .refine gm ?_;refine⟨⟨_,rfl,?_⟩,rfl⟩;exact xq
 refine Zw6 ?_ ?_<;>intro hc32
 .refine gm ?_;refine⟨⟨_,rfl,?_⟩,rfl⟩;exact xq
 refine Zw6 ?_ ?_<;>intro hc34
 .refine gm ?_;refine⟨⟨_,rfl,?_⟩,rfl⟩;exact xq
 refine Zw6 ?_ ?_<;>intro hc36
 .refine gm ?_;refine⟨⟨_,rfl,?_⟩,rfl⟩;exact xq
 refine Zw6 ?_ ?_<;>intro hc38
 .refine gm ?_;refine⟨⟨_,rfl,?_⟩,rfl⟩;exact xq
 refine Zw6 ?_ ?_<;>intro hc40
 .refine gm ?_;refine⟨⟨_,rfl,?_⟩,rfl⟩;exact xq
 refine Zw6 ?_ ?_<;>intro hc42
 .refine gm ?_;refine⟨⟨_,rfl,?_⟩,rfl⟩;exact xq
 refine Zw6 ?_ ?_<;>intro hc44
 .refine gm ?_;refine⟨⟨_,rfl,?_⟩,rfl⟩;exact xq
 refine lC ?_;refine⟨⟨_,rfl,?_⟩,rfl⟩;exact xq
theorem name_ok(op:Int)(w:World):Ctr prog 232 [.i op] w [] (λv cs=>(∃s,v= .string s/\(s.data.toList==[])= !vX op)/\cs=[]):=by
 refine Zfs func232 ntmps232 ?_;refine EU ?_;refine ZW ?_ ?_<;>intro hc2
 .refine gm ?_;refine⟨⟨_,rfl,?_⟩,rfl⟩;exact Cd
 refine Zw6 ?_ ?_<;>intro hc4
 .refine gm ?_;refine⟨⟨_,rfl,?_⟩,rfl⟩;exact Cd
 refine Zw6 ?_ ?_<;>intro hc6
 .refine gm ?_;refine⟨⟨_,rfl,?_⟩,rfl⟩;exact Cd
 refine Zw6 ?_ ?_<;>intro hc8
 .refine gm ?_;refine⟨⟨_,rfl,?_⟩,rfl⟩;exact Cd
 refine Zw6 ?_ ?_<;>intro hc10
 .refine gm ?_;refine⟨⟨_,rfl,?_⟩,rfl⟩;exact Cd
 refine Zw6 ?_ ?_<;>intro hc12
 .refine gm ?_;refine⟨⟨_,rfl,?_⟩,rfl⟩;exact Cd
 refine Zw6 ?_ ?_<;>intro hc14
 .refine gm ?_;refine⟨⟨_,rfl,?_⟩,rfl⟩;exact Cd
 refine Zw6 ?_ ?_<;>intro hc16
 .refine gm ?_;refine⟨⟨_,rfl,?_⟩,rfl⟩;exact Cd
 refine Zw6 ?_ ?_<;>intro hc18
 .refine gm ?_;refine⟨⟨_,rfl,?_⟩,rfl⟩;exact Cd
 refine Zw6 ?_ ?_<;>intro hc20
 .refine gm ?_;refine⟨⟨_,rfl,?_⟩,rfl⟩;exact Cd
 refine Zw6 ?_ ?_<;>intro hc22
 .refine gm ?_;refine⟨⟨_,rfl,?_⟩,rfl⟩;exact Cd
 refine Zw6 ?_ ?_<;>intro hc24
 .refine gm ?_;refine⟨⟨_,rfl,?_⟩,rfl⟩;exact Cd
 refine Zw6 ?_ ?_<;>intro hc26
 .refine gm ?_;refine⟨⟨_,rfl,?_⟩,rfl⟩;exact Cd
 refine Zw6 ?_ ?_<;>intro hc28
 .refine gm ?_;refine⟨⟨_,rfl,?_⟩,rfl⟩;exact Cd
 refine Zw6 ?_ ?_<;>intro hc30
 .refine gm ?_;refine⟨⟨_,rfl,?_⟩,rfl⟩;exact Cd
 refine Zw6 ?_ ?_<;>intro hc32
 .refine gm ?_;refine⟨⟨_,rfl,?_⟩,rfl⟩;exact Cd
 refine Zw6 ?_ ?_<;>intro hc34
 .refine gm ?_;refine⟨⟨_,rfl,?_⟩,rfl⟩;exact Cd
 refine Zw6 ?_ ?_<;>intro hc36
 .refine gm ?_;refine⟨⟨_,rfl,?_⟩,rfl⟩;exact Cd
 refine Z_6 ?_;refine ZSn (λw hi=>Sc op w) ?_;rintro _ _ ⟨⟨s,rfl,hs⟩,rfl⟩;refine Z_4 ?_;have hz:=hs;refine Zra ?_;refine⟨⟨_,rfl,?_⟩,rfl⟩;rw[hs];simp only[vX, *,ai,ah]
theorem Ae(op:Int)(w:World):CW prog 198 [.i op] w (.i (cF op)):=by
 refine Zfs func198 ntmps198 ?_;refine Gv ?_;refine ZW ?_ ?_<;>intro hc2
 .refine Z_2 ?_;refine cn rfl (hc2) (gm ?_);refine⟨?_,rfl⟩;exact sH
 refine Zw6 ?_ ?_<;>intro hc3
 .refine Z_2 ?_;refine cn rfl (hc3) (gm ?_);refine⟨?_,rfl⟩;exact sH
 refine Zw6 ?_ ?_<;>intro hc4
 .refine Z_2 ?_;refine cn rfl (hc4) (gm ?_);refine⟨?_,rfl⟩;exact sH
 refine Zw6 ?_ ?_<;>intro hc5
 .refine Z_2 ?_;refine cn rfl (hc5) (gm ?_);refine⟨?_,rfl⟩;exact sH
 refine Zw6 ?_ ?_<;>intro hc6
 .refine Z_2 ?_;refine cn rfl (hc6) (gm ?_);refine⟨?_,rfl⟩;exact sH
 refine Zw6 ?_ ?_<;>intro hc7
 .refine Z_2 ?_;refine cn rfl (hc7) (gm ?_);refine⟨?_,rfl⟩;exact sH
 refine Zw6 ?_ ?_<;>intro hc8
 .refine Z_2 ?_;refine cn rfl (hc8) (gm ?_);refine⟨?_,rfl⟩;exact sH
 refine Zw6 ?_ ?_<;>intro hc9
 .refine Z_2 ?_;refine cn rfl (hc9) (gm ?_);refine⟨?_,rfl⟩;exact sH
 refine Zw6 ?_ ?_<;>intro hc10
 .refine Z_2 ?_;refine cn rfl (hc10) (gm ?_);refine⟨?_,rfl⟩;exact sH
 refine Zw5 ?_ ?_<;>intro hc11
 .refine gm ?_;refine⟨?_,rfl⟩;exact sH
 refine Zw6 ?_ ?_<;>intro hc13
 .refine gm ?_;refine⟨?_,rfl⟩;exact sH
 refine Z_7 ?_;refine ZSn (λw hi=>name_ok op w) ?_;rintro _ _ ⟨⟨s,rfl,hs⟩,rfl⟩;refine Zy (sM rfl (Zv rfl) (Zv rfl) hs) ?_;refine Z_2 ?_;refine ZW ?_ ?_<;>intro hc15
 .refine sE ?_;refine⟨?_,rfl⟩;exact sH
 refine gm ?_;refine⟨?_,rfl⟩;exact sH
theorem DM(op n:Int)(w:World):CW prog 208 [.agg #[.i op,.w n]] w (.bool (iy op n)):=by
 refine Zfs func208 ntmps208 ?_;refine Z_2 ?_;refine ZO λb1=>?_;refine Z_8 ?_;refine ZSe (λw hi=>Ae op w) ?_;refine Zw9 ?_ ?_<;>intro hc2
 .refine gm ?_;refine⟨?_,rfl⟩;simp only[iy, *,ai,ah]
 refine Zw6 ?_ ?_<;>intro hc4
 .refine oo ?_;refine⟨?_,rfl⟩;simp only[iy, *,ai,ah]
 refine Zw6 ?_ ?_<;>intro hc6
 .refine oo ?_;refine⟨?_,rfl⟩;simp only[iy, *,ai,ah]
 refine lC ?_;refine⟨?_,rfl⟩;simp only[iy, *,ai,ah]
theorem OW(op:Int)(w:World):CW prog 228 [.i op] w (.bool (vW op)):=by
 refine Zfs func228 ntmps228 ?_;refine ue ?_;exact ru
theorem AV(r:Int)(w:World):CW prog 281 [.w r] w (.w (dC r)):=by
 refine Zfs func281 ntmps281 ?_;refine ue ?_;refine ZW ?_ ?_<;>intro hc2
 .refine Cc ?_ ?_<;>intro hc4
  .refine yl ?_;refine⟨?_,rfl⟩;simp only[dC, *,ai,ah]
  refine lC ?_;refine⟨?_,rfl⟩;simp only[dC, *,ai,ah]
 refine mZ ?_ ?_<;>intro hc4
 .refine yl ?_;refine⟨?_,rfl⟩;simp only[dC, *,ai,ah]
 refine lC ?_;refine⟨?_,rfl⟩;simp only[dC, *,ai,ah]
theorem H7(a b:Int)(up:Bool)(hb:0<=b)(w:World):CW prog 280 [.w a,.w b,.bool up] w (.w (iA a b up)):=by
 refine Zfs func280 ntmps280 ?_;refine Cc ?_ ?_<;>intro hc1
 .refine gm ?_;refine⟨?_,rfl⟩;simp only[iA, *,ai,ah]
 refine Zw6 ?_ ?_<;>intro hc3
 .refine Z_4 ?_;refine Lm ?_;refine Z_6 ?_;refine Zra ?_;refine⟨?_,rfl⟩;simp only[iA, *,ai,ah]
 refine Z_7 ?_;refine Zy (lJ (Zv rfl) (Zv rfl) Wq1 rfl) ?_;refine Z_4 ?_;refine Zra ?_;refine⟨?_,rfl⟩;simp only[iA, *,ai,ah]
theorem Om(a b:Int)(w:World):CW prog 279 [.w a,.w b] w (.w (mX a b)):=by
 refine Zfs func279 ntmps279 ?_;refine Z_9 ?_;refine Ey ?_;refine Z_6 ?_;refine ZSe (λw hi=>AV _ w) ?_;refine xL ?_ ?_<;>intro hc3
 .refine om ?_;refine ZW ?_ ?_<;>intro hc5
  .refine yl ?_;refine⟨?_,rfl⟩;exact Uu
  refine lC ?_;refine⟨?_,rfl⟩;exact Uu
 refine rc ?_;refine ZW ?_ ?_<;>intro hc5
 .refine yl ?_;refine⟨?_,rfl⟩;exact Uu
 refine lC ?_;refine⟨?_,rfl⟩;exact Uu
theorem more_ok(a b:Int)(w:World):CW prog 278 [.w a,.w b] w (.w (tv a b)):=by
 refine Zfs func278 ntmps278 ?_;refine Z_9 ?_;refine pR ?_;refine Z_6 ?_;refine ZSe (λw hi=>AV _ w) ?_;refine xL ?_ ?_<;>intro hc3
 .refine om ?_;refine ZW ?_ ?_<;>intro hc5
  .refine yl ?_;refine⟨?_,rfl⟩;exact Ut
  refine lC ?_;refine⟨?_,rfl⟩;exact Ut
 refine rc ?_;refine ZW ?_ ?_<;>intro hc5
 .refine yl ?_;refine⟨?_,rfl⟩;exact Ut
 refine lC ?_;refine⟨?_,rfl⟩;exact Ut
theorem ado_ok(op a b:Int)(hb:0<=b)(w:World):CW prog 236 [.i op,.w a,.w b] w (.tuple #[.w (jR op a b).1,.w (jR op a b).2.1,.bool (jR op a b).2.2]):=by
 refine Zfs func236 ntmps236 ?_;refine om ?_;refine Zw5 ?_ ?_<;>intro hc4
 .refine Z_4 ?_;refine pR ?_;refine Z_2 ?_;refine ZSe (λw hi=>more_ok a b w) ?_;refine Z_8 ?_;refine Qh ?_;refine⟨?_,rfl⟩;exact ul
 refine Zw6 ?_ ?_<;>intro hc6
 .refine Z_4 ?_;refine Ey ?_;refine Z_2 ?_;refine ZSe (λw hi=>Om a b w) ?_;refine Z_8 ?_;refine Qh ?_;refine⟨?_,rfl⟩;exact ul
 refine Zw6 ?_ ?_<;>intro hc8
 .refine Z_4 ?_;refine ZSe (λw hi=>Om a b w) ?_;refine Z_8 ?_;refine Qh ?_;refine⟨?_,rfl⟩;exact ul
 refine Zw6 ?_ ?_<;>intro hc10
 .refine fb ?_;refine GJ ?_;refine⟨?_,rfl⟩;exact ul
 refine Zw6 ?_ ?_<;>intro hc12
 .refine fb ?_;refine GJ ?_;refine⟨?_,rfl⟩;exact ul
 refine Zw6 ?_ ?_<;>intro hc14
 .refine fb ?_;refine GJ ?_;refine⟨?_,rfl⟩;exact ul
 refine Zw6 ?_ ?_<;>intro hc16
 .refine Z_3 ?_;refine ZSe (λw hi=>H7 a b _ hb w) ?_;refine Z_8 ?_;refine GJ ?_;refine⟨?_,rfl⟩;exact ul
 refine Zw6 ?_ ?_<;>intro hc18
 .refine Z_3 ?_;refine ZSe (λw hi=>H7 a b _ hb w) ?_;refine Z_8 ?_;refine GJ ?_;refine⟨?_,rfl⟩;exact ul
 refine Zw6 ?_ ?_<;>intro hc20
 .refine Z_3 ?_;refine Zy (jF Zv0 Zv0 rfl) ?_;refine Z_8 ?_;refine GJ ?_;refine⟨?_,rfl⟩;exact ul
 refine Zw6 ?_ ?_<;>intro hc22
 .refine Zw7 ?_ ?_<;>intro hc23
  .refine gq ?_;refine Qh ?_;refine⟨?_,rfl⟩;exact ul
  have hb0:b≠0:=by simpa using hc23
  refine Z_5 ?_;refine Zy (mh (Zv rfl) (Zv rfl) Wq1 (by first|exact IntWalk.u32_quo _ _ ⟨by omega,by omega,by omega⟩|exact rfl)) ?_;refine Z_8 ?_;refine GJ ?_;refine⟨?_,rfl⟩;exact ul
 refine fH ?_;refine Qh ?_;refine⟨?_,rfl⟩;exact ul
theorem S9(op f:Int)(w:World):CW prog 238 [.i op,.w f] w (.tuple #[.bool (dw op f).1,.bool (dw op f).2]):=by
 refine Zfs func238 ntmps238 ?_;refine Gv ?_;refine ZW ?_ ?_<;>intro hc2
 .refine fb ?_;refine mf ?_;refine⟨?_,rfl⟩;exact Lp
 refine Zw6 ?_ ?_<;>intro hc4
 .refine fb ?_;refine mf ?_;refine⟨?_,rfl⟩;exact Lp
 refine Zw6 ?_ ?_<;>intro hc6
 .refine fb ?_;refine mf ?_;refine⟨?_,rfl⟩;exact Lp
 refine Zw6 ?_ ?_<;>intro hc8
 .refine fb ?_;refine mf ?_;refine⟨?_,rfl⟩;exact Lp
 refine Zw6 ?_ ?_<;>intro hc10
 .refine fb ?_;refine mf ?_;refine⟨?_,rfl⟩;exact Lp
 refine fH ?_;refine mf ?_;refine⟨?_,rfl⟩;exact Lp
theorem Ff(b:Int)(w:World):CW prog 210 [.w b] w (.w (ma b)):=by
 refine Zfs func210 ntmps210 ?_;refine Z_8 ?_;refine oq ?_;refine oq ?_;refine oq ?_;exact o7
theorem So(op:Int)(w:World):CW prog 231 [.i op] w (.tuple #[.i ((ce op).1.1:Nat),.i ((ce op).1.2:Nat),.i ((ce op).2.1:Nat),.i ((ce op).2.2:Nat)]):=by
 refine Zfs func231 ntmps231 ?_;refine om ?_;refine Z_2 ?_;refine ZW ?_ ?_<;>intro hc2
 .refine Z_2 ?_;refine cn rfl (hc2) (pY ?_);refine⟨?_,rfl⟩;exact pM
 refine Zw6 ?_ ?_<;>intro hc3
 .refine Z_2 ?_;refine cn rfl (hc3) (pY ?_);refine⟨?_,rfl⟩;exact pM
 refine Zw5 ?_ ?_<;>intro hc4
 .refine pY ?_;refine⟨?_,rfl⟩;exact pM
 refine Zw6 ?_ ?_<;>intro hc6
 .refine pY ?_;refine⟨?_,rfl⟩;exact pM
 refine Zw7 ?_ ?_<;>intro hc8
 .refine Z_2 ?_;refine cn rfl (hc8) (pY ?_);refine⟨?_,rfl⟩;exact pM
 refine Zw6 ?_ ?_<;>intro hc9
 .refine Z_2 ?_;refine cn rfl (hc9) (pY ?_);refine⟨?_,rfl⟩;exact pM
 refine Zw6 ?_ ?_<;>intro hc10
 .refine Z_2 ?_;refine cn rfl (hc10) (pY ?_);refine⟨?_,rfl⟩;exact pM
 refine Zw5 ?_ ?_<;>intro hc11
 .refine pY ?_;refine⟨?_,rfl⟩;exact pM
 refine Zw6 ?_ ?_<;>intro hc13
 .refine pY ?_;refine⟨?_,rfl⟩;exact pM
 refine Zw6 ?_ ?_<;>intro hc15
 .refine pY ?_;refine⟨?_,rfl⟩;exact pM
 refine Zw6 ?_ ?_<;>intro hc17
 .refine pY ?_;refine⟨?_,rfl⟩;exact pM
 refine Zw6 ?_ ?_<;>intro hc19
 .refine pY ?_;refine⟨?_,rfl⟩;exact pM
 refine Zw7 ?_ ?_<;>intro hc21
 .refine Z_2 ?_;refine cn rfl (hc21) (pY ?_);refine⟨?_,rfl⟩;exact pM
 refine Zw6 ?_ ?_<;>intro hc22
 .refine Z_2 ?_;refine cn rfl (hc22) (pY ?_);refine⟨?_,rfl⟩;exact pM
 refine Zw6 ?_ ?_<;>intro hc23
 .refine Z_2 ?_;refine cn rfl (hc23) (pY ?_);refine⟨?_,rfl⟩;exact pM
 refine Zw6 ?_ ?_<;>intro hc24
 .refine Z_2 ?_;refine cn rfl (hc24) (pY ?_);refine⟨?_,rfl⟩;exact pM
 refine Zw6 ?_ ?_<;>intro hc25
 .refine Z_2 ?_;refine cn rfl (hc25) (pY ?_);refine⟨?_,rfl⟩;exact pM
 refine Zw6 ?_ ?_<;>intro hc26
 .refine Z_2 ?_;refine cn rfl (hc26) (pY ?_);refine⟨?_,rfl⟩;exact pM
 refine Zw6 ?_ ?_<;>intro hc27
 .refine Z_2 ?_;refine cn rfl (hc27) (pY ?_);refine⟨?_,rfl⟩;exact pM
 refine Zw6 ?_ ?_<;>intro hc28
 .refine Z_2 ?_;refine cn rfl (hc28) (pY ?_);refine⟨?_,rfl⟩;exact pM
 refine Zw5 ?_ ?_<;>intro hc29
 .refine pY ?_;refine⟨?_,rfl⟩;exact pM
 refine Zw7 ?_ ?_<;>intro hc31
 .refine Z_2 ?_;refine cn rfl (hc31) (pY ?_);refine⟨?_,rfl⟩;exact pM
 refine Zw6 ?_ ?_<;>intro hc32
 .refine Z_2 ?_;refine cn rfl (hc32) (pY ?_);refine⟨?_,rfl⟩;exact pM
 refine Zw6 ?_ ?_<;>intro hc33
 .refine Z_2 ?_;refine cn rfl (hc33) (pY ?_);refine⟨?_,rfl⟩;exact pM
 refine Zw5 ?_ ?_<;>intro hc34
 .refine pY ?_;refine⟨?_,rfl⟩;exact pM
 refine Zw7 ?_ ?_<;>intro hc36
 .refine Z_2 ?_;refine cn rfl (hc36) (pY ?_);refine⟨?_,rfl⟩;exact pM
 refine Zw6 ?_ ?_<;>intro hc37
 .refine Z_2 ?_;refine cn rfl (hc37) (pY ?_);refine⟨?_,rfl⟩;exact pM
 refine Zw5 ?_ ?_<;>intro hc38
 .refine pY ?_;refine⟨?_,rfl⟩;exact pM
 refine Zw6 ?_ ?_<;>intro hc40
 .refine pY ?_;refine⟨?_,rfl⟩;exact pM
 refine Zw6 ?_ ?_<;>intro hc42
 .refine pY ?_;refine⟨?_,rfl⟩;exact pM
 refine fb ?_;refine ret4 (cs':=[]) (.inl rfl) Zu rfl rfl rfl rfl rfl ⟨?_,rfl⟩;exact pM
structure Run where
 s:St
 count:Int
 Wv:Tr
 device:Bool
abbrev Run.wd(R:Run)(l:Li):Run:=⟨⟨R.s.pc,l,R.s.r,R.s.flags,R.s.Wf,R.s.Wn,R.s.ie,R.s.root,R.s.vec,R.s.epc,R.s.Wg,R.s.addr,R.s.Wu,R.s.eie,R.s.count,R.s.halted⟩,R.count,R.Wv,R.device⟩
abbrev Run.wr(R:Run)(l:Li):Run:=⟨⟨R.s.pc,R.s.d,l,R.s.flags,R.s.Wf,R.s.Wn,R.s.ie,R.s.root,R.s.vec,R.s.epc,R.s.Wg,R.s.addr,R.s.Wu,R.s.eie,R.s.count,R.s.halted⟩,R.count,R.Wv,R.device⟩
abbrev Run.wt(R:Run)(t:Tr):Run:=⟨R.s,R.count,t,R.device⟩
structure ko where
 Ad:Option Addr
 cd:Nat
 Ar:Option Addr
 cr:Nat
structure LM where
 br:Nat
 u:Option Addr
 b:Option Addr
abbrev yI(K:LM)(X:ko)(R:Run):bJ:=row K.br [.w R.s.pc,.slice X.Ad R.s.d.length X.cd,.slice X.Ar R.s.r.length X.cr,.w R.s.flags,.bool R.s.Wf,.bool R.s.Wn,.bool R.s.ie,.w R.s.root,.w R.s.vec,.w R.s.epc,.w R.s.Wg,.w R.s.addr,.bool R.s.Wu,.bool R.s.eie,.int .u64 R.s.count,.bool R.s.halted,.int .u64 R.count,.pointer K.u,.pointer K.b,.i R.Wv.Wg,.w R.Wv.addr,.bool R.device] 315
abbrev gL(K:LM)(X:ko)(R:Run):List bJ:=[yI K X R,slD R.s X.Ad X.cd,slR R.s X.Ar X.cr]
theorem ph(K:LM)(X:ko)(R:Run)(l:Li)(x:Int):CI prog 234 [.p K.br] (gL K X (R.wd (l++[x]))) (λv cs=>v= .w x/\cs=gL K X (R.wd l)):=λw hi=>by
 have hrd:=dM (hi.get (.tail _ (.head _ _)));have hcap:(l++[x]).length<=X.cd:=hrd.cap;have hmax:=hrd.max;simp only[maxLen]at hmax;have hlen:(l++[x]).length=l.length+1:=by simp
 obtain⟨Ad,cd,Ar,cr⟩:=X;obtain⟨bd,rfl⟩:=eM (hi.get (.tail _ (.head _ _))) (show 0<(l++[x]).length by omega);have hcap:(l++[x]).length<=cd:=hcap;have hdl:(R.wd (l++[x])).s.d.length=l.length+1:=hlen;have hmax:cd<=_:=hmax;refine Zfn func234 ntmps234 hi ?_;refine Va ?_;refine Wq245 ?_;refine Z_3 ?_;refine ZL ?_;refine Z_9 ?_;refine lf (c:=slD (R.wd (l++[x])).s (sA bd) cd) (c':=slD (R.wd l).s (sA bd) cd) Za rfl (λw h=>Hb h) (xE ?_);exact gr
theorem Nm(K:LM)(X:ko)(R:Run)(l:Li)(x:Int):CI prog 235 [.p K.br] (gL K X (R.wr (l++[x]))) (λv cs=>v= .w x/\cs=gL K X (R.wr l)):=λw hi=>by
 have hrd:=dM (hi.get (.tail _ (.tail _ (.head _ _))));have hcap:(l++[x]).length<=X.cr:=hrd.cap;have hmax:=hrd.max;simp only[maxLen]at hmax;have hlen:(l++[x]).length=l.length+1:=by simp
 obtain⟨Ad,cd,Ar,cr⟩:=X;obtain⟨bd,rfl⟩:=eM (hi.get (.tail _ (.tail _ (.head _ _)))) (show 0<(l++[x]).length by omega);have hcap:(l++[x]).length<=cr:=hcap;have hdl:(R.wr (l++[x])).s.r.length=l.length+1:=hlen;have hmax:cr<=_:=hmax;refine Zfn func235 ntmps235 hi ?_;refine Va ?_;refine Wq245 ?_;refine Z_3 ?_;refine ZL ?_;refine Z_9 ?_;refine lf (c:=slR (R.wr (l++[x])).s (sA bd) cr) (c':=slR (R.wr l).s (sA bd) cr) Za rfl (λw h=>Hb h) (xE ?_);exact gr
theorem jb(K:LM)(X:ko)(R:Run)(A:Oa)(n c:Nat)(ys:Li)(hs:R.s.d.length+n<=1000000)(w:World)(hi:Inv w (bK (gL K X R)) (gL K X R) w)(h:∀w',dc (bK (gL K X R)) w w'->Rd w' .u32 A n c ys):
  Ctr prog 233 [.p K.br,.slice A n c] w (gL K X R) (λv cs=>∃A' c',v= .tuple #[]/\cs=gL K ⟨A',c',X.Ar,X.cr⟩ (R.wd (R.s.d++ys))):=by
 have hl:n=ys.length:=by have:=(h w (dc.refl _ _)).len;rw[dA]at this;omega
 subst hl;refine Zfn func233 ntmps233 hi ?_;refine Z_8 ?_;refine fo (bV (e:=49) (sz:=1) (bytes:=4) rfl rfl Za rfl rfl (λw hi=>h w hi.WB) cN (by simp only[maxLen];omega) Wq1) rfl ?_;rintro _ _ ⟨A',c',rfl,rfl⟩;refine Z_3 ?_;refine ZL ?_;refine Zn (jE (cs':=[row _ _ _,slv _ _ _ _ _ _,slv _ _ _ _ _ _]) (.inr rfl) Zu rfl ?_);exact⟨A',c',rfl,by simp only[gL,yI,slD,slR,aj,cj]⟩
theorem BC(K:LM)(X:ko)(R:Run)(Wg addr:Int):CI prog 237 [.p K.br,.i Wg,.w addr] (gL K X R) (λv cs=>v= .tuple #[]/\cs=gL K X (R.wt ⟨Wg,addr⟩)):=λw hi=>by
 refine Zfn func237 ntmps237 hi ?_;refine Z_7 ?_;refine eT (kz (n:=2) (vs:=[.i Wg,.w addr]) Zrf rfl rfl (mQ rfl) Za rfl Qt) ?_;rintro _ _ ⟨rfl,rfl⟩;refine Zn (jE (cs':=[row _ _ _,slv _ _ _ _ _ _,slv _ _ _ _ _ _]) (.inr rfl) Zu rfl ?_);exact gr
theorem Rp(K:LM)(X:ko)(R:Run)(w:World)(h:(yI K X R).ok w):
  CW prog 287 [.p K.br] w (.agg #[.bool R.s.Wn,.bool R.s.Wf,.w R.s.root]):=by
 refine Zfs func287 ntmps287 ?_;refine Z_2 ?_;refine ZN λb2=>?_;refine Z_3 ?_;refine bU (Zdn [16]) Zk (uj ?_);refine ZFe 3 5 ?_;refine Zy5 4 rfl (bM Zrf (Zv rfl)) (dr la rfl) ?_;refine kU ?_;refine ZFe 7 0 ?_;refine ZFe 8 4 ?_;refine Zy5 9 rfl (bM Zrf (Zv rfl)) (dr la rfl) ?_;refine ZE 10 ?_;refine ZE 11 ?_;refine ZFe 12 0 ?_;refine ZFe 13 7 ?_;refine Zy5 14 rfl (bM Zrf (Zv rfl)) (dr la rfl) ?_;refine ZE 15 ?_;refine cW 16 Zk (ZR ?_);refine jU ?_;exact yr
def Run.top(R:Run):Int:=R.s.d.getLastD 0
def Run.topR(R:Run):Int:=R.s.r.getLastD 0
def Run.pop(R:Run):Run:=R.wd R.s.d.dropLast
def Run.WN(R:Run):Run:=R.wr R.s.r.dropLast
def Run.push(R:Run)(l:Li):Run:=R.wd (R.s.d++l)
def Run.Xz(R:Run)(x:Int):Run:=R.wr (R.s.r++[x])
abbrev Run.wpc(R:Run)(x:Int):Run:=⟨⟨x,R.s.d,R.s.r,R.s.flags,R.s.Wf,R.s.Wn,R.s.ie,R.s.root,R.s.vec,R.s.epc,R.s.Wg,R.s.addr,R.s.Wu,R.s.eie,R.s.count,R.s.halted⟩,R.count,R.Wv,R.device⟩
abbrev Run.wfl(R:Run)(x:Int):Run:=⟨⟨R.s.pc,R.s.d,R.s.r,x,R.s.Wf,R.s.Wn,R.s.ie,R.s.root,R.s.vec,R.s.epc,R.s.Wg,R.s.addr,R.s.Wu,R.s.eie,R.s.count,R.s.halted⟩,R.count,R.Wv,R.device⟩
variable{R:Run}
theorem Run.snoc(h:1<=R.s.d.length):∃(R':Run) (l:Li) (x:Int),R=R'.wd (l++[x]):=by
 obtain⟨l,x,h⟩:=vq h;exact⟨R,l,x,by rw[Run.wd,<-h]⟩
theorem Run.snocR(h:1<=R.s.r.length):∃(R':Run) (l:Li) (x:Int),R=R'.wr (l++[x]):=by
 obtain⟨l,x,h⟩:=vq h;exact⟨R,l,x,by rw[Run.wr,<-h]⟩
theorem Run.Xa(h:2<=R.s.d.length):∃(R':Run) (l:Li) (x y:Int),R=R'.wd ((l++[x])++[y]):=by
 obtain⟨R1,l,y,rfl⟩:=Run.snoc (R:=R) Wq1;have h:2<=(l++[y]).length:=h;obtain⟨m,x,rfl⟩:=vq (l:=l) (by simp at h;omega);exact⟨R1,m,x,y,rfl⟩
@[simp] theorem Run.top_wd (R:Run) (l:Li) (x:Int):(R.wd (l++[x])).top=x:=by simp[Run.top,List.getLastD_concat]
@[simp] theorem Run.pop_wd (R:Run) (l:Li) (x:Int):(R.wd (l++[x])).pop=R.wd l:=by simp[Run.pop]
@[simp] theorem Run.topR_wr (R:Run) (l:Li) (x:Int):(R.wr (l++[x])).topR=x:=by simp[Run.topR,List.getLastD_concat]
@[simp] theorem Run.popR_wr (R:Run) (l:Li) (x:Int):(R.wr (l++[x])).WN=R.wr l:=by simp[Run.WN]
def dI(op n:Int)(R:Run):Option Run:=
 bif op==0 then some R else bif op==1 then some (R.push [n])else bif op==2 then some (R.push [n])else bif op==3 then some (R.pop.push [R.top,R.top])else bif op==4 then some R.pop else
 bif op==5 then some (R.pop.pop.push [R.top,R.pop.top])else bif op==6 then some (R.pop.pop.push [R.pop.top,R.top,R.pop.top])else bif op==7 then some (R.pop.Xz R.top)else bif op==8 then some (R.WN.push [R.topR])else none
theorem pv(n:Int)(R:Run)(l:Li)(x:Int):dI 3 n (R.wd (l++[x]))=some (R.wd (l++[x,x])):=by
 show some _=_;rw[Run.top_wd,Run.pop_wd];rfl
theorem nz(n:Int)(R:Run)(l:Li)(x:Int):dI 4 n (R.wd (l++[x]))=some (R.wd l):=by
 show some _=_;rw[Run.pop_wd]
theorem nw(n:Int)(R:Run)(l:Li)(x y:Int):dI 5 n (R.wd ((l++[x])++[y]))=some (R.wd (l++[y,x])):=by
 show some _=_;rw[Run.top_wd,Run.pop_wd,Run.top_wd,Run.pop_wd];rfl
theorem ny(n:Int)(R:Run)(l:Li)(x y:Int):dI 6 n (R.wd ((l++[x])++[y]))=some (R.wd (l++[x,y,x])):=by
 show some _=_;rw[Run.top_wd,Run.pop_wd,Run.top_wd,Run.pop_wd];rfl
theorem pu(n:Int)(R:Run)(l:Li)(x:Int):dI 7 n (R.wd (l++[x]))=some ((R.wd l).wr (R.s.r++[x])):=by
 show some _=_;rw[Run.top_wd,Run.pop_wd];rfl
theorem mn(n:Int)(R:Run)(l:Li)(x:Int):dI 8 n (R.wr (l++[x]))=some ((R.wr l).wd (R.s.d++[x])):=by
 show some _=_;rw[Run.topR_wr,Run.popR_wr];rfl
theorem sR{op:Int}(n:Int)(R:Run)(h0:(op==0)=false)(h1:(op==1)=false)(h2:(op==2)=false)(h3:(op==3)=false)(h4:(op==4)=false)(h5:(op==5)=false)(h6:(op==6)=false)(h7:(op==7)=false)(h8:(op==8)=false):dI op n R=none:=by
 simp only[dI, *,ah]
theorem kP{a b:Int}(h:(a==b)=true):a=b:=by simpa using h
theorem Ro(K:LM)(X:ko)(R:Run)(op n:Int)(hd:R.s.d.length<=100000)(hr:R.s.r.length<=100000)(hn:(ce op).1.1<=R.s.d.length)(hnr:(ce op).2.1<=R.s.r.length):CI prog 199 [.p K.br,.agg #[.i op,.w n]] (gL K X R) (λv cs=>∃X',v= .bool (dI op n R).isSome/\cs=gL K X' ((dI op n R).getD R)):=λw hi=>by
 refine Zfn func199 ntmps199 hi ?_;refine Z_2 ?_;refine ZO λb3=>?_;refine ue ?_;refine ZW ?_ ?_<;>intro hc3
 .obtain rfl:=kP hc3;have hst:dI 0 n R=some R:=rfl;refine Z_9 ?_;exact Qw
 refine Zw7 ?_ ?_<;>intro hc4
 .obtain rfl:=kP hc4;have hst:dI 1 n R=some (R.push [n]):=rfl;refine Z_2 ?_;exact cn rfl (hc4) Wq350
 refine Zw5 ?_ ?_<;>intro hc5
 .obtain rfl:=kP hc5;have hst:dI 2 n R=some (R.push [n]):=rfl;exact Wq350
 refine Zw6 ?_ ?_<;>intro hc7
 .obtain rfl:=kP hc7;obtain⟨R,l,x,rfl⟩:=Run.snoc (show 1<=R.s.d.length from hn);have hst:=pv n R l x;have hll:l.length+1<=100000:=(by have:(l++[x]).length<=100000:=hd;simpa using this);refine Z_3 ?_;refine Wq499 ?_;refine Z_7 ?_;refine jD ?_;rintro _ _ ⟨b29,rfl,rfl⟩;refine ZcL (gL K X (R.wd l)) (λw hi hin=>jb K X (R.wd l) _ 2 2 [x,x] (show l.length+2<=1000000 by omega) w hin (λw' hk=>hi.WZ Zi Zh hk)) ?_;exact GK
 refine Zw6 ?_ ?_<;>intro hc10
 .obtain rfl:=kP hc10;obtain⟨R,l,x,rfl⟩:=Run.snoc (show 1<=R.s.d.length from hn);have hst:=nz n R l x;refine Z_2 ?_;refine Wq499 ?_;refine Z_9 ?_;exact Qw
 refine Zw6 ?_ ?_<;>intro hc12
 .obtain rfl:=kP hc12;obtain⟨R,l,x,y,rfl⟩:=Run.Xa (show 2<=R.s.d.length from hn);have hst:=nw n R l x y;have hll:l.length+2<=100000:=Wq230;refine Wq168 ?_;refine Z_8 ?_;refine jD ?_;rintro _ _ ⟨b44,rfl,rfl⟩;refine ZcL (gL K X (R.wd l)) (λw hi hin=>jb K X (R.wd l) _ 2 2 [y,x] (show l.length+2<=1000000 by omega) w hin (λw' hk=>hi.WZ Zi Zh hk)) ?_;exact GK
 refine Zw6 ?_ ?_<;>intro hc15
 .obtain rfl:=kP hc15;obtain⟨R,l,x,y,rfl⟩:=Run.Xa (show 2<=R.s.d.length from hn);have hst:=ny n R l x y;have hll:l.length+2<=100000:=Wq230;refine Wq168 ?_;refine Z_9 ?_;refine jD ?_;rintro _ _ ⟨b56,rfl,rfl⟩;refine ZcL (gL K X (R.wd l)) (λw hi hin=>jb K X (R.wd l) _ 3 3 [x,y,x] (show l.length+3<=1000000 by omega) w hin (λw' hk=>hi.WZ Zi Zh hk)) ?_;exact GK
 refine Zw6 ?_ ?_<;>intro hc18
 .obtain rfl:=kP hc18;obtain⟨R,l,x,rfl⟩:=Run.snoc (show 1<=R.s.d.length from hn);have hst:=pu n R l x;have hrr:R.s.r.length<=100000:=hr;have hrr2:(R.wd l).s.r.length<=100000:=hr;refine bU (Zdn [7,9,13]) Zk (yn ?_);refine ZFe 4 2 ?_;refine ZE 6 ?_;refine kW 5 7 Zk ?_ ?_
  .refine zL ?_;refine ic ?_;refine tD (gL K X (R.wd (l++[x]))) (λw hi hin=>ph K X R l x w hin) ?_;rintro _ _ ⟨rfl,rfl⟩;refine ig ?_;refine EA ?_;rintro _ _ ⟨b68,rfl,rfl⟩;refine Wq365 ?_;rintro _ _ ⟨A',c',rfl,rfl⟩;refine ZE 10 ?_;refine ZFe 11 0 ?_;refine ZFe 12 2 ?_;refine cW 13 Zk (o9 ?_);refine Z_8 ?_;refine xE ?_;rw[hst];refine⟨⟨X.Ad,X.cd,A',c'⟩,rfl,?_⟩;exact Wq367
  refine tD (gL K X (R.wd (l++[x]))) (λw hi hin=>ph K X R l x w hin) ?_;rintro _ _ ⟨rfl,rfl⟩;refine ZG 5 ?_;refine ig ?_;refine EA ?_;rintro _ _ ⟨b68,rfl,rfl⟩;refine Wq365 ?_;rintro _ _ ⟨A',c',rfl,rfl⟩;refine ZE 10 ?_;refine ZFe 11 0 ?_;refine ZFe 12 2 ?_;refine cW 13 Zk (o9 ?_);refine Z_8 ?_;refine xE ?_;rw[hst];refine⟨⟨X.Ad,X.cd,A',c'⟩,rfl,?_⟩;exact Wq367
 refine Zw6 ?_ ?_<;>intro hc20
 .obtain rfl:=kP hc20;obtain⟨R,l,x,rfl⟩:=Run.snocR (show 1<=R.s.r.length from hnr);have hst:=mn n R l x;have hdd:R.s.d.length<=100000:=hd;refine Z_3 ?_;refine ZcM (gL K X (R.wr (l++[x]))) (λw hi hin=>Nm K X R l x w hin) ?_;refine jD ?_;rintro _ _ ⟨b78,rfl,rfl⟩;refine ZcL (gL K X (R.wr l)) (λw hi hin=>jb K X (R.wr l) _ 1 1 [x] (show R.s.d.length+1<=1000000 by omega) w hin (λw' hk=>hi.WZ Zi Zh hk)) ?_;exact GK
 have hst:=sR n R hc3 hc4 hc5 hc7 hc10 hc12 hc15 hc18 hc20;refine Z_8 ?_;exact Qw
def jI(R:Run)(n:Int):Int:=IntKind.u32.wrap (R.s.pc+ma n)
def cH(op n:Int)(R:Run):Bool×Run:=
 bif decide (16<=op)&&decide (op<=25)then
  (true,bif op !=25 then((bif(jR op R.pop.top R.top).2.2 then R.pop.pop else R.pop.pop.wt ⟨5,0⟩).wfl (jR op R.pop.top R.top).2.1).push [(jR op R.pop.top R.top).1]else(bif(jR op R.pop.top R.top).2.2 then R.pop.pop else R.pop.pop.wt ⟨5,0⟩).wfl (jR op R.pop.top R.top).2.1)
 else bif op==38 then(true,(R.Xz R.s.pc).wpc (jI R n))else bif op==32 then(true,R.wpc (jI R n))else bif op==39 then(true,R.WN.wpc R.topR)else bif op==40 then(true,R.pop.wpc R.top)else
 ((dw op R.s.flags).2,bif(dw op R.s.flags).1 then R.wpc (jI R n)else R)
theorem H3{op:Int}(h:(decide (16<=op)&&decide (op<=25))=true):(ce op).1.1=2:=by
 simp only[au,ac]at h;obtain rfl|rfl|rfl|rfl|rfl|rfl|rfl|rfl|rfl|rfl:op=16\/op=17\/op=18\/op=19\/op=20\/op=21\/op=22\/op=23\/op=24\/op=25:=by omega
 all_goals rfl
theorem Nf(K:LM)(X:ko)(R:Run)(op n:Int)(hw:∀x,x∈R.s.d->u32 x)(hd:R.s.d.length<=100000)(hr:R.s.r.length<=100000)(hn:(ce op).1.1<=R.s.d.length)(hnr:(ce op).2.1<=R.s.r.length):CI prog 200 [.p K.br,.agg #[.i op,.w n]] (gL K X R) (λv cs=>∃X',v= .bool (cH op n R).1/\cs=gL K X' (cH op n R).2):=λw hi=>by
 have HS:=Ff n;have HA:=ado_ok op;have HH:=S9 op R.s.flags;obtain⟨th,hth⟩:=Zgn (jI R n);have hth':=hth;unfold jI at hth';obtain⟨sg,hsg⟩:=Zgn (ma n);rw[hsg]at HS hth';refine Zfn func200 ntmps200 hi ?_;refine Z_2 ?_;refine ZO λb3=>?_;refine Z_4 ?_;refine uf ?_;refine ZFe 2 0 ?_;refine ZFe 3 0 ?_;refine ZG 4 ?_;refine ZFe 5 1 ?_;refine ZG 6 ?_;refine ic ?_;refine ZTn (λw hi=>HS w) ?_;rintro _ _ ⟨rfl,rfl⟩;refine Zy4 8 rfl (eK Zv0 Zv0 hth') ?_;refine ZE 9 ?_;refine dR ?_;refine om ?_;refine Z_1 ?_;refine ZW ?_ ?_<;>intro hc7
 .rw[H3 hc7]at hn;obtain⟨R,l,x,y,rfl⟩:=Run.Xa hn;have hll:l.length+2<=100000:=Wq230;have HA:=HA x y (hw y cP).1;obtain⟨⟨v,fl,ok⟩,hq⟩:=Zgn (jR op x y);rw[hq]at HA;have hst:cH op n (R.wd ((l++[x])++[y]))=(true,bif op !=25 then((bif ok then R.wd l else(R.wd l).wt ⟨5,0⟩).wfl fl).push [v]else(bif ok then R.wd l else(R.wd l).wt ⟨5,0⟩).wfl fl):=(by simp only[cH,hc7,ai,Run.top_wd,Run.pop_wd,hq]);refine Wq168 ?_;refine Z_9 ?_;refine ZSe (λw hi=>HA w) ?_;refine rc ?_;refine ZW ?_ ?_<;>intro hc10
  .obtain rfl:ok=false:=(by simpa using hc10);have hR:∃Q,Q=(R.wd l).wt ⟨5,0⟩:=⟨_,rfl⟩;refine Z_2 ?_;refine ZcM (gL K X (R.wd l)) (λw hi hin=>BC K X (R.wd l) 5 0 w hin) ?_;refine Z_9 ?_;refine ZL ?_;refine Zw8 ?_ ?_<;>intro hc13
   .simp only[hc13,ai,ah]at hst;refine Z_3 ?_;refine jD ?_;rintro _ _ ⟨b74,rfl,rfl⟩;refine ZcL (gL K X (((R.wd l).wt ⟨5,0⟩).wfl fl)) (λw hi hin=>jb K X (((R.wd l).wt ⟨5,0⟩).wfl fl) _ 1 1 [v] (show l.length+1<=1000000 by omega) w hin (λw' hk=>hi.WZ Zi Zh hk)) ?_;exact GK
   simp only[hc13,ai,ah]at hst;refine Z_9 ?_;exact Qw
  obtain rfl:ok=true:=(by simpa using hc10);refine Z_9 ?_;refine ZL ?_;refine Zw8 ?_ ?_<;>intro hc13
  .simp only[hc13,ai,ah]at hst;refine Z_3 ?_;refine jD ?_;rintro _ _ ⟨b74,rfl,rfl⟩;refine ZcL (gL K X ((R.wd l).wfl fl)) (λw hi hin=>jb K X ((R.wd l).wfl fl) _ 1 1 [v] (show l.length+1<=1000000 by omega) w hin (λw' hk=>hi.WZ Zi Zh hk)) ?_;exact GK
  simp only[hc13,ai,ah]at hst;refine Z_9 ?_;exact Qw
 refine Zw7 ?_ ?_<;>intro hc15
 .have hst:cH op n R=(true,(R.Xz R.s.pc).wpc th):=(by simp only[cH, *,ai,ah]);refine Zs (bU (Zdn [12,16]) Zk ?_);refine yn ?_;refine ZFe 4 2 ?_;refine ZG 5 ?_;refine ZE 6 ?_;refine ZE 7 ?_;refine ZFe 8 0 ?_;refine ZFe 9 0 ?_;refine mb ?_;refine zL ?_;refine cW 11 Zk (EA ?_);rintro _ _ ⟨b90,rfl,rfl⟩;refine cW 12 Zk (gX rfl rfl (bV (e:=49) (sz:=1) (bytes:=4) rfl rfl Za rfl rfl (λw hi=>hi.rd (Zhc (slv 49 1 (sA b90) 1 1 (ints .u32 [R.s.pc])))) cN Wq9 Wq1) ZJ rfl ?_);rintro _ _ ⟨A',c',rfl,rfl⟩;refine ZE 13 ?_;refine ZFe 14 0 ?_;refine ZFe 15 2 ?_;refine cW 16 Zk (o9 ?_);refine Z_7 ?_;refine ZL ?_;refine Z_9 ?_;refine xE ?_;rw[hst];refine⟨⟨X.Ad,X.cd,A',c'⟩,rfl,?_⟩;simp only[gL,yI,slD,slR,Run.Xz,aj,cj,aO,List.length_nil,Nat.zero_add]
 refine Zw7 ?_ ?_<;>intro hc18
 .have hst:cH op n R=(true,R.wpc th):=(by simp only[cH, *,ai,ah]);refine Z_6 ?_;refine ZL ?_;refine Z_9 ?_;exact Qw
 refine Zw7 ?_ ?_<;>intro hc20
 .obtain rfl:=kP hc20;obtain⟨R,l,x,rfl⟩:=Run.snocR (show 1<=R.s.r.length from hnr);have hst:cH 39 n (R.wr (l++[x]))=(true,(R.wr l).wpc x):=(by show(_,_)=_;rw[Run.popR_wr,Run.topR_wr]);refine Z_3 ?_;refine ZcM (gL K X (R.wr (l++[x]))) (λw hi hin=>Nm K X R l x w hin) ?_;refine Z_3 ?_;refine ZL ?_;refine Z_9 ?_;exact Qw
 refine Zw7 ?_ ?_<;>intro hc22
 .obtain rfl:=kP hc22;obtain⟨R,l,x,rfl⟩:=Run.snoc (show 1<=R.s.d.length from hn);have hst:cH 40 n (R.wd (l++[x]))=(true,(R.wd l).wpc x):=(by show(_,_)=_;rw[Run.pop_wd,Run.top_wd]);refine Z_3 ?_;refine Wq499 ?_;refine Z_3 ?_;refine ZL ?_;refine Z_9 ?_;exact Qw
 have hst:cH op n R=((dw op R.s.flags).2,bif(dw op R.s.flags).1 then R.wpc th else R):=(by simp only[cH, *,ai,ah]);obtain⟨⟨g,o⟩,hq⟩:=Zgn (dw op R.s.flags);rw[hq]at hst HH;refine Z_8 ?_;refine ZSe (λw hi=>HH w) ?_;refine yk ?_ ?_<;>intro hc4
 .obtain rfl:g=true:=hc4;refine Z_6 ?_;refine ZL ?_;refine gq ?_;exact Qw
 obtain rfl:g=false:=hc4;refine gq ?_;exact Qw
variable{α:Type}
theorem bR(p:α->Prop){c:Bool}{x y:α}(hx:p x)(hy:p y):p (bif c then x else y):=by cases c<;>assumption
def QH(q:(Nat×Nat)×(Nat×Nat)):Prop:=q.1.1<=3/\q.1.2<=3/\q.2.1<=3/\q.2.2<=3
theorem Sq(op:Int):QH (ce op):=by
 unfold ce
 repeat (refine bR QH ⟨by decide,by decide,by decide,by decide⟩ ?_)
 exact⟨by decide,by decide,by decide,by decide⟩
def sY(s:St)(q:(Nat×Nat)×(Nat×Nat)):Int:=
 bif decide ((s.d.length:Int)<(q.1.1:Int))||decide ((s.r.length:Int)<(q.2.1:Int))then 3 else
 bif decide (16<(s.d.length:Int) - (q.1.1:Int)+(q.1.2:Int))||decide (16<(s.r.length:Int) - (q.2.1:Int)+(q.2.2:Int))then 4 else 0
def gc(s:St)(op n:Int):Int:=
 bif !iy op n then 1 else bif vW op&& !s.Wf then 2 else bif op==66&& !(s.get n).2 then 1 else bif op==67&& !(s.set n 0).2 then 1 else sY s (ce op)
theorem TU(s:St)(Ad Ar:Oa)(cd cr:Nat)(op n:Int)(hu:u32 n)(w:World)(h:rj w s Ad Ar cd cr):
  CW prog 197 [sv s Ad cd Ar cr,.agg #[.i op,.w n]] w (.i (gc s op n)):=by
 have hu1:=hu.1;have hu2:=hu.2;have hD:=h.hd;have hR:=h.hr;have HR:=DM op n;have HS:=OW op;have HN:=So op;have HG:=VN s (.slice Ad s.d.length cd) (.slice Ar s.r.length cr) n;have HE:=Vu s Ad Ar cd cr n 0;obtain⟨q1,hq1⟩:=Zgn (iy op n);obtain⟨q2,hq2⟩:=Zgn (vW op);obtain⟨⟨g0,g⟩,hq3⟩:=Zgn (s.get n);obtain⟨⟨e0,e⟩,hq4⟩:=Zgn (s.set n 0);have hle:=Sq op;unfold gc;rw[hq1]at HR|-;rw[hq2]at HS|-;rw[hq3]at HG|-;rw[hq4]at HE|-;obtain⟨⟨⟨a,b⟩,⟨c,d⟩⟩,hq5⟩:=Zgn (ce op);rw[hq5]at HN hle|-;obtain⟨ha,hb,hc,hd⟩:=hle;have ha:a<=3:=ha;have hb:b<=3:=hb;have hc:c<=3:=hc;have hd:d<=3:=hd;refine Zfs func197 ntmps197 ?_;refine Z_2 ?_;refine ZO λb2=>?_;refine ZO λb3=>?_
 refine Z_8 ?_;refine ZSe (λw hi=>HR w) ?_;refine Z_4 ?_;refine ZW ?_ ?_<;>intro hc1
 .refine gm ?_;refine⟨?_,rfl⟩;exact GD
 refine Z_4 ?_;refine ZSe (λw hi=>HS w) ?_;refine Zw8 ?_ ?_<;>intro hc3
 .refine gm ?_;refine⟨?_,rfl⟩;exact GD
 refine Z_9 ?_;refine lD ?_;refine ZSe (λw hi=>HG w) ?_;refine EU ?_;refine ZW ?_ ?_<;>intro hc6
 .refine sE ?_;refine⟨?_,rfl⟩;exact GD
 refine Z_8 ?_;refine lD ?_;refine ZSn (λw hi=>HE w (h.Wh hi)) ?_;rintro _ _ ⟨A1,c1,A2,c2,rfl,rfl⟩;refine Z_3 ?_;refine ZN λb7=>?_
 refine ZM ?_;refine Cc ?_ ?_<;>intro hc9
 .refine sE ?_;refine⟨?_,rfl⟩;exact GD
 refine Z_6 ?_;refine ZSe (λw hi=>HN w) ?_;refine om ?_;refine mZ ?_ ?_<;>intro hc12
 .refine gm ?_;refine⟨?_,rfl⟩;exact GD
 refine Z_6 ?_;refine pd ?_;refine ZA ?_;refine rh ?_;refine Z_6 ?_;refine Zyn rfl rfl (i5 (cA rfl) (cA rfl) Zl) ?_;refine ZB ?_;refine Zyn rfl rfl (eK (cA rfl) (cA rfl) Zl) ?_;refine Zw5 ?_ ?_<;>intro hc14
 .refine gm ?_;refine⟨?_,rfl⟩;exact GD
 refine lC ?_;refine⟨?_,rfl⟩;exact GD
def Run.sp(R:Run):Sp:=⟨R.s.Wn,R.s.Wf,R.s.root.toNat⟩
abbrev Run.wdv(R:Run)(t:Tr)(b:Bool):Run:=⟨R.s,R.count,t,b⟩
structure Vf where
 p:Int
 ok:Bool
 r:Run
 u:Mmu
def cJ(n:Nat)(R:Run)(U:Mmu)(va:Nat)(kind:Int):Vf:=
 bif((va%4:Nat):Int) !=0 then⟨0,false,R.wt ⟨6,va⟩,U⟩else
 ⟨(cO n U R.sp va kind).1.1,(cO n U R.sp va kind).1.2.Wg==0,R.wdv (cO n U R.sp va kind).1.2 ((cO n U R.sp va kind).1.2.Wg==0&&decide (32768<=(cO n U R.sp va kind).1.1)),(cO n U R.sp va kind).2⟩
theorem vo(K:LM)(X:ko)(R:Run)(hr:0<=R.s.root)(w:World)(h:(yI K X R).ok w):
  CW prog 287 [.p K.br] w R.sp.v:=
 (Rp K X R w h).mono λv cs ⟨h1,h2⟩=>⟨by rw[h1,Run.sp,Sp.v,Int.toNat_of_nonneg hr],h2⟩
abbrev my(K:LM)(X:ko)(R:Run):List Value:=[.w R.s.pc,.slice X.Ad R.s.d.length X.cd,.slice X.Ar R.s.r.length X.cr,.w R.s.flags,.bool R.s.Wf,.bool R.s.Wn,.bool R.s.ie,.w R.s.root,.w R.s.vec,.w R.s.epc,.w R.s.Wg,.w R.s.addr,.bool R.s.Wu,.bool R.s.eie,.int .u64 R.s.count,.bool R.s.halted,.int .u64 R.count,.pointer K.u,.pointer K.b,.i R.Wv.Wg,.w R.Wv.addr,.bool R.device]
abbrev kOf(br bu:Nat)(D:rx):LM:=⟨br,some ⟨bu,0,none⟩,some ⟨D.bs,0,none⟩⟩
theorem GW(br bu bb:Nat)(L:eB)(D:rx)(X:ko)(R:Run)(U:Mmu)(hT:U.t.length=16)(hroot:u32 R.s.root)(va:Nat)(hva:va<=4294967295)(kind:Int):CI prog 282 [.p br,.w va,.i kind] (gL (kOf br bu D) X R++uF bu bb L U) (λv cs=>v= .tuple #[.w (cJ L.n R U va kind).p,.bool (cJ L.n R U va kind).ok]/\cs=gL (kOf br bu D) X (cJ L.n R U va kind).r++uF bu bb L (cJ L.n R U va kind).u):=λw hi=>by
 have hr0:=hroot.1;have hr1:=hroot.2;have hsr:R.sp.root<=4294967295:=by show R.s.root.toNat<=_;omega
 have HP:=qd bu bb L U hT R.sp hsr va hva kind;have HS:=vo (kOf br bu D) X R hr0;unfold cJ;obtain⟨⟨⟨p,ca,ad⟩,U'⟩,hq⟩:=Zgn (cO L.n U R.sp va kind);rw[hq]at HP|-;obtain⟨S,hS⟩:=Zgn (R.sp);rw[hS]at HP HS;refine Zfn func282 ntmps282 hi ?_;refine gq ?_;refine Zy (jm (Zv rfl) (Zv rfl) Wq1 (show _=((va%4:Nat):Int)from by rw[aW Wq1];omega)) ?_;refine Z_4 ?_;refine ZW ?_ ?_<;>intro hc1
 .refine Z_4 ?_;refine ZcM (gL (kOf br bu D) X R) (λw hi hin=>BC (kOf br bu D) X R 6 va w hin) ?_;refine gq ?_;refine bO (gL (kOf br bu D) X (R.wt ⟨6,va⟩)++uF bu bb L U) Zj (AH (cs':=[row _ _ _,slv _ _ _ _ _ _,slv _ _ _ _ _ _,row _ _ _,exC _ _ _ _,row _ _ _]) (.inl rfl) Zu rfl rfl rfl ?_);rw[hc1];exact gr
 refine ue ?_;refine ZW ?_ ?_<;>intro hc4
 .exact absurd hc4 cP
 refine Z_4 ?_;refine bU (Zdn [8,14]) Zk (pP ?_);refine ZFe 2 17 ?_;refine pQ ?_;refine ZE 6 ?_;refine ZE 7 ?_;refine kW 5 12 Zk ?_ ?_
 .refine Lh ?_;rintro _ _ ⟨_,⟨rfl,rfl⟩,rfl⟩;refine kW 8 12 Zk ?_ ?_
  .refine BZ ?_;rintro _ _ ⟨_,⟨rfl,rfl⟩,rfl⟩;refine un ?_;refine cW 12 Zk ?_;refine ZP λb9=>?_
   exact Wq451
  refine ZP λb9=>?_
  refine ig ?_;refine BZ ?_;rintro _ _ ⟨_,⟨rfl,rfl⟩,rfl⟩;refine un ?_;exact Wq451
 refine ZP λb9=>?_
 refine kQ ?_;refine Lh ?_;rintro _ _ ⟨_,⟨rfl,rfl⟩,rfl⟩;refine ig ?_;refine BZ ?_;rintro _ _ ⟨_,⟨rfl,rfl⟩,rfl⟩;refine un ?_;exact Wq451
theorem u7(n:Nat)(R:Run)(U:Mmu)(va:Nat)(kind:Int):(cJ n R U va kind).r.s=R.s:=by unfold cJ;exact bR (λW:Vf=>W.r.s=R.s) rfl rfl
theorem Cl(n:Nat)(R:Run)(U:Mmu)(va:Nat)(hva:va<=4294967295)(kind:Int):u32 (cJ n R U va kind).p:=by unfold cJ;exact bR (λW:Vf=>u32 W.p) (show u32 0 from⟨by decide,by decide⟩) (ju n U R.sp va hva kind).1
theorem JC(n:Nat)(hn:n<=64)(R:Run)(U:Mmu)(va:Nat)(hva:va<=4294967295)(kind:Int)(hk:(cJ n R U va kind).ok=true)(hd:(cJ n R U va kind).r.device=false):(cJ n R U va kind).p.toNat+4<=n*64:=by
 obtain⟨hu,hp⟩:=ju n U R.sp va hva kind;unfold cJ at hk hd|-;cases hm:(((va%4:Nat):Int) !=0)with
 |true=>rw[hm]at hk;cases hk
 |false=>
  rw[hm]at hk hd;simp only[ah]at hk hd|-;rw[hk]at hd;simp only[Bool.true_and,aa]at hd;have hc:=hp (by simpa using hk);have h4:va%4=0:=by
   have:((va%4:Nat):Int)=0:=by simpa using hm
   omega
  have h1:=hc.m;have h2:=hu.1;rcases hc.r with h3|h3
  .omega
  simp only[tT,au,ac]at h3;omega
theorem wU{c:Bool}{x y:α}(h:c=true):(bif c then x else y)=x:=by rw[h];rfl
theorem lX{c:Bool}{x y:α}(h:c=false):(bif c then x else y)=y:=by rw[h];rfl
def u5(n:Nat)(M:Mem)(a:Nat):Int×Bool:=bif decide (a+4<=n*64)then(u6 M.data a,true)else(0,false)
structure gi where
 r:Run
 u:Mmu
 d:Dev
def s7(W:Vf)(d:Dev)(va:Nat)(v:Int)(o:Bool):gi:=⟨(bif !o then W.r.wt ⟨10,va⟩else W.r).push [v],W.u,d⟩
def jZ(n:Nat)(R:Run)(U:Mmu)(d:Dev)(va:Nat):gi:=
 bif !(cJ n R U va 2).ok then⟨(cJ n R U va 2).r,(cJ n R U va 2).u,d⟩else
 bif(cJ n R U va 2).r.device then s7 (cJ n R U va 2) (gb d (yf (cJ n R U va 2).p.toNat) (cJ n R U va 2).r.count).2 va (gb d (yf (cJ n R U va 2).p.toNat) (cJ n R U va 2).r.count).1.1 (gb d (yf (cJ n R U va 2).p.toNat) (cJ n R U va 2).r.count).1.2
 else s7 (cJ n R U va 2) d va (u5 n (cJ n R U va 2).u.m (cJ n R U va 2).p.toNat).1 (u5 n (cJ n R U va 2).u.m (cJ n R U va 2).p.toNat).2
def jY(n:Nat)(R:Run)(U:Mmu)(d:Dev)(va v:Nat):gi:=
 bif !(cJ n R U va 3).ok then⟨(cJ n R U va 3).r,(cJ n R U va 3).u,d⟩else
 bif(cJ n R U va 3).r.device then
  ⟨bif !(cM n (cJ n R U va 3).u.m d (yf (cJ n R U va 3).p.toNat) v).1 then(cJ n R U va 3).r.wt ⟨10,va⟩else(cJ n R U va 3).r,⟨(cM n (cJ n R U va 3).u.m d (yf (cJ n R U va 3).p.toNat) v).2.1,(cJ n R U va 3).u.t⟩,(cM n (cJ n R U va 3).u.m d (yf (cJ n R U va 3).p.toNat) v).2.2⟩
 else⟨(cJ n R U va 3).r,⟨(cJ n R U va 3).u.m.WW (cJ n R U va 3).p.toNat v,(cJ n R U va 3).u.t⟩,d⟩
theorem QU(L:eB)(M:Mem)(a:Nat):Jx L M a= .tuple #[.w (u5 L.n M a).1,.bool (u5 L.n M a).2]:=by
 unfold Jx u5;cases decide (a+4<=L.n*64)<;>rfl
abbrev pm(br bu bb:Nat)(L:eB)(D:rx)(X:ko)(Y:ov)(m:gi):List bJ:=gL (kOf br bu D) X m.r++uF bu bb L m.u++mO D L.bm Y m.d
theorem lode_ok(br bu bb:Nat)(L:eB)(D:rx)(X:ko)(Y:ov)(R:Run)(U:Mmu)(d:Dev)(l:Li)(va:Nat)(hva:va<=4294967295)(hl:l.length<=100000)(hT:U.t.length=16)(hroot:u32 R.s.root)(hd:d.wf)
  :CI prog 239 [.p br] (pm br bu bb L D X Y ⟨R.wd (l++[(va:Int)]),U,d⟩) (λv cs=>∃X' Y',v= .tuple #[]/\cs=pm br bu bb L D X' Y' (jZ L.n (R.wd l) U d va)):=λw hi=>by
 have HW:=λX=>GW br bu bb L D X (R.wd l) U hT hroot va hva 2
 have hs:=u7 L.n (R.wd l) U va 2;have hu:=Cl L.n (R.wd l) U va hva 2;unfold jZ;obtain⟨⟨p,ok,r,u⟩,hq⟩:=Zgn (cJ L.n (R.wd l) U va 2);rw[hq]at HW hs hu|-;obtain⟨pn,rfl⟩:∃pn:Nat,p=pn:=ao hu.1;have hpn:pn<=4294967295:=by have:(pn:Int)<=_:=hu.2;omega
 have hs:r.s=(R.wd l).s:=hs;have hdl:r.s.d.length<=100000:=by rw[hs];exact hl
 simp only[aN];have HB:=λX=>K4 D L.bm X d hd pn r.count
 obtain⟨⟨⟨v,o⟩,d'⟩,hq2⟩:=Zgn (gb d (yf pn) r.count);rw[hq2]at HB|-;have HM:=Hg L u.m pn hpn;rw[QU]at HM;obtain⟨⟨v2,o2⟩,hq3⟩:=Zgn (u5 L.n u.m pn);rw[hq3]at HM|-;refine Zfn func239 ntmps239 hi ?_;refine U5 ?_;refine Z_7 ?_;refine ZcM (gL (kOf br bu D) X (R.wd l)++uF bu bb L U) (λw hi hin=>HW X w hin) ?_;refine Cc ?_ ?_<;>intro hc2
 .refine Z_2 ?_;refine bO (pm br bu bb L D X Y ⟨r,u,d⟩) Zj (Wq336 ?_);rw[hc2];exact⟨X,Y,rfl,rfl⟩
 refine rc ?_;refine ZW ?_ ?_<;>intro hc4
 .refine bU (Zdn [9]) Zk (pP ?_);refine ZFe 2 18 ?_;refine pQ ?_;refine kU ?_;refine ZFe 7 16 ?_;refine ZG 8 ?_;refine kR ?_;refine tD (mO D L.bm Y d) (λw hi hin=>HB Y w hin) ?_;rintro _ _ ⟨Y',rfl,rfl⟩;refine ZE 10 ?_;refine GC ?_;refine ZE 14 ?_;refine dR ?_;refine Zw8 ?_ ?_<;>intro hc7
  .refine UR ?_;refine Z_5 ?_;refine jD ?_;rintro _ _ ⟨b50,rfl,rfl⟩;refine dy (gL (kOf br bu D) X (r.wt ⟨10,va⟩)) (λw hi hin=>jb (kOf br bu D) X (r.wt ⟨10,va⟩) _ 1 1 [v] (show r.s.d.length+1<=1000000 by omega) w hin (λw' hk=>hi.WZ Zi Zh hk)) ?_;rintro _ _ ⟨A',c',rfl,rfl⟩;refine Zn (bO (pm br bu bb L D ⟨A',c',X.Ar,X.cr⟩ Y' ⟨(r.wt ⟨10,va⟩).wd (r.s.d++[v]),u,d'⟩) Zj ?_);refine Wq5 ?_;rw[lX hc2,wU hc4,s7,wU hc7];exact⟨⟨A',c',X.Ar,X.cr⟩,Y',rfl,rfl⟩
  refine Z_5 ?_;refine jD ?_;rintro _ _ ⟨b50,rfl,rfl⟩;refine dy (gL (kOf br bu D) X r) (λw hi hin=>jb (kOf br bu D) X r _ 1 1 [v] (show r.s.d.length+1<=1000000 by omega) w hin (λw' hk=>hi.WZ Zi Zh hk)) ?_;rintro _ _ ⟨A',c',rfl,rfl⟩;refine Zn (bO (pm br bu bb L D ⟨A',c',X.Ar,X.cr⟩ Y' ⟨r.wd (r.s.d++[v]),u,d'⟩) Zj ?_);refine Wq5 ?_;rw[lX hc2,wU hc4,s7,lX hc7];exact⟨⟨A',c',X.Ar,X.cr⟩,Y',rfl,rfl⟩
 refine Z_5 ?_;refine Qm ?_;refine ZA ?_;refine ZSe (λw hi=>HM w (hi.get Zh)) ?_;refine Cc ?_ ?_<;>intro hc7
 .refine UR ?_;refine Z_5 ?_;refine jD ?_;rintro _ _ ⟨b50,rfl,rfl⟩;refine dy (gL (kOf br bu D) X (r.wt ⟨10,va⟩)) (λw hi hin=>jb (kOf br bu D) X (r.wt ⟨10,va⟩) _ 1 1 [v2] (show r.s.d.length+1<=1000000 by omega) w hin (λw' hk=>hi.WZ Zi Zh hk)) ?_;rintro _ _ ⟨A',c',rfl,rfl⟩;refine Zn (bO (pm br bu bb L D ⟨A',c',X.Ar,X.cr⟩ Y ⟨(r.wt ⟨10,va⟩).wd (r.s.d++[v2]),u,d⟩) Zj ?_);refine Wq5 ?_;rw[lX hc2,lX hc4,s7,wU hc7];exact⟨⟨A',c',X.Ar,X.cr⟩,Y,rfl,rfl⟩
 refine Z_5 ?_;refine jD ?_;rintro _ _ ⟨b50,rfl,rfl⟩;refine dy (gL (kOf br bu D) X r) (λw hi hin=>jb (kOf br bu D) X r _ 1 1 [v2] (show r.s.d.length+1<=1000000 by omega) w hin (λw' hk=>hi.WZ Zi Zh hk)) ?_;rintro _ _ ⟨A',c',rfl,rfl⟩;refine Zn (bO (pm br bu bb L D ⟨A',c',X.Ar,X.cr⟩ Y ⟨r.wd (r.s.d++[v2]),u,d⟩) Zj ?_);refine Wq5 ?_;rw[lX hc2,lX hc4,s7,lX hc7];exact⟨⟨A',c',X.Ar,X.cr⟩,Y,rfl,rfl⟩
theorem stow_ok(br bu bb:Nat)(L:eB)(D:rx)(X:ko)(Y:ov)(R:Run)(U:Mmu)(d:Dev)(l:Li)(va v:Nat)(hva:va<=4294967295)(hv:v<=4294967295)(hT:U.t.length=16)(hroot:u32 R.s.root)(hd:d.wf)(ho:d.out.length<=1000000000)
  :CI prog 240 [.p br] (pm br bu bb L D X Y ⟨R.wd ((l++[(v:Int)])++[(va:Int)]),U,d⟩) (λx cs=>∃Y',x= .tuple #[]/\cs=pm br bu bb L D X Y' (jY L.n (R.wd l) U d va v)):=λw hi=>by
 have HW:=GW br bu bb L D X (R.wd l) U hT hroot va hva 3;have hu:=Cl L.n (R.wd l) U va hva 3;obtain⟨n1,n64,_⟩:=nc (hi.ok (fw L U.m) cP);have hin4:=JC L.n n64 (R.wd l) U va hva 3;unfold jY;obtain⟨⟨p,ok,r,u⟩,hq⟩:=Zgn (cJ L.n (R.wd l) U va 3);rw[hq]at HW hu hin4|-;obtain⟨pn,rfl⟩:∃pn:Nat,p=pn:=ao hu.1;have hpn:pn<=4294967295:=by have:(pn:Int)<=_:=hu.2;omega
 obtain⟨um,ut⟩:=u;simp only[aN]at hin4|-;have HB:=Gs D L um Y d hd ho pn v r.count;obtain⟨⟨o,M',d'⟩,hq2⟩:=Zgn (cM L.n um d (yf pn) v);rw[hq2]at HB|-;have HM:=λh=>vM L um pn v h ⟨by omega,by omega⟩
 obtain⟨M2,hq3⟩:=Zgn (um.WW pn v);rw[hq3]at HM|-;obtain⟨tt,htt⟩:∃t:Bool,t=true:=⟨_,rfl⟩;rw[<-htt]at HM;refine Zfn func240 ntmps240 hi ?_;refine Z_3 ?_;refine fo (dN (gL (kOf br bu D) X (R.wd ((l++[(v:Int)])++[(va:Int)]))) rfl (λ_ _=>rfl) Zi (λw hi hin=>ph (kOf br bu D) X R (l++[(v:Int)]) va w hin)) rfl ?_;rintro _ _ ⟨_,⟨rfl,rfl⟩,rfl⟩;refine Z_6 ?_;refine ZcM (gL (kOf br bu D) X (R.wd (l++[(v:Int)]))) (λw hi hin=>ph (kOf br bu D) X R l v w hin) ?_;refine Z_7 ?_;refine ZcM (gL (kOf br bu D) X (R.wd l)++uF bu bb L U) (λw hi hin=>HW w hin) ?_;refine Cc ?_ ?_<;>intro hc3
 .refine Z_2 ?_;refine bO (pm br bu bb L D X Y ⟨r,⟨um,ut⟩,d⟩) Zj (Wq336 ?_);rw[hc3];exact⟨Y,rfl,rfl⟩
 have hok:ok=true:=(by simpa using hc3);refine xL ?_ ?_<;>intro hc4
 .refine bU (Zdn [10]) Zk (pP ?_);refine ZFe 2 18 ?_;refine pQ ?_;refine kU ?_;refine ZE 7 ?_;refine ZFe 8 16 ?_;refine ZG 9 ?_;refine mb ?_;refine tD (mO D L.bm Y d++[fw L um]) (λw hi hin=>HB w hin) ?_;rintro _ _ ⟨Y',rfl,rfl⟩;refine ZE 11 ?_;refine dR ?_;refine Zw7 ?_ ?_<;>intro hc7
  .refine UR ?_;refine Zn (bO (pm br bu bb L D X Y' ⟨r.wt ⟨10,va⟩,⟨M',ut⟩,d'⟩) Zj ?_);refine Wq5 ?_;rw[lX hc3,wU hc4,wU hc7];exact⟨Y',rfl,rfl⟩
  refine Zc (bO (pm br bu bb L D X Y' ⟨r,⟨M',ut⟩,d'⟩) Zj ?_);refine Wq5 ?_;rw[lX hc3,wU hc4,lX hc7];exact⟨Y',rfl,rfl⟩
 have HM:=HM (hin4 hok hc4);refine Z_5 ?_;refine Qm ?_;refine Z_2 ?_;refine ZcM ([fw L um]) (λw hi hin=>HM w hin) ?_;refine Zw9 ?_ ?_<;>intro hc7
 .refine UR ?_;refine Zn (bO (pm br bu bb L D X Y ⟨r.wt ⟨10,va⟩,⟨M2,ut⟩,d⟩) Zj ?_);refine Wq5 ?_;rw[htt]at hc7;exact absurd hc7 cP
 refine Zc (bO (pm br bu bb L D X Y ⟨r,⟨M2,ut⟩,d⟩) Zj ?_);refine Wq5 ?_;rw[lX hc3,lX hc4];exact⟨Y,rfl,rfl⟩
def nC(n:Nat)(R:Run)(U:Mmu)(va k:Nat):Run×Mmu:=((R.wt (qG n U R.sp va k).1.2).push [(qG n U R.sp va k).1.1],(qG n U R.sp va k).2)
def m6(n:Nat)(R:Run)(U:Mmu)(va k:Nat)(v:Int):Run×Mmu:=(R.wt (pt n U R.sp va k v).1,(pt n U R.sp va k v).2)
theorem G8(br bu bb:Nat)(L:eB)(D:rx)(X:ko)(R:Run)(U:Mmu)(l:Li)(va k:Nat)(hva:va<=4294967295)(hk1:1<=k)(hk4:k<=4)(hl:l.length<=100000)(hT:U.t.length=16)(hroot:u32 R.s.root)
  :CI prog 241 [.p br,.i k,.bool false] (gL (kOf br bu D) X (R.wd (l++[(va:Int)]))++uF bu bb L U) (λx cs=>∃X',x= .tuple #[]/\cs=gL (kOf br bu D) X' (nC L.n (R.wd l) U va k).1++uF bu bb L (nC L.n (R.wd l) U va k).2):=λw hi=>by
 have hr0:=hroot.1;have hr1:=hroot.2;have hsr:(R.wd l).sp.root<=4294967295:=by show R.s.root.toNat<=_;omega
 have HP:=Q2 bu bb L U hT (R.wd l).sp hsr va k hva hk1 hk4;have HS:=vo (kOf br bu D) X (R.wd l) hr0;unfold nC;obtain⟨⟨⟨v,ca,ad⟩,U'⟩,hq⟩:=Zgn (qG L.n U (R.wd l).sp va k);rw[hq]at HP|-;obtain⟨S,hS⟩:=Zgn ((R.wd l).sp);rw[hS]at HP HS;refine Zfn func241 ntmps241 hi ?_;refine U5 ?_;refine om ?_;refine Z_1 ?_;refine ZW ?_ ?_<;>intro hc4
 .exact absurd hc4 cP
 refine Zw6 ?_ ?_<;>intro hc6
 .exact absurd hc6 cP
 refine Zs (bU (Zdn [8,14]) Zk ?_);refine pP ?_;refine ZFe 2 17 ?_;refine pQ ?_;refine ZE 6 ?_;refine ZE 7 ?_;refine kW 5 12 Zk ?_ ?_
 .refine Lh ?_;rintro _ _ ⟨_,⟨rfl,rfl⟩,rfl⟩;refine kW 8 12 Zk ?_ ?_
  .refine BZ ?_;rintro _ _ ⟨_,⟨rfl,rfl⟩,rfl⟩;refine un ?_;refine cW 12 Zk ?_;refine ZP λb8=>?_
   exact Wq368
  refine ZP λb8=>?_
  refine ig ?_;refine BZ ?_;rintro _ _ ⟨_,⟨rfl,rfl⟩,rfl⟩;refine un ?_;exact Wq368
 refine ZP λb8=>?_
 refine kQ ?_;refine Lh ?_;rintro _ _ ⟨_,⟨rfl,rfl⟩,rfl⟩;refine ig ?_;refine BZ ?_;rintro _ _ ⟨_,⟨rfl,rfl⟩,rfl⟩;refine un ?_;exact Wq368
theorem G7(br bu bb:Nat)(L:eB)(D:rx)(X:ko)(R:Run)(U:Mmu)(l:Li)(va k:Nat)(v:Int)(hva:va<=4294967295)(hk1:1<=k)(hk4:k<=4)(hl:l.length<=100000)(hT:U.t.length=16)(hroot:u32 R.s.root)
  :CI prog 241 [.p br,.i k,.bool true] (gL (kOf br bu D) X (R.wd ((l++[v])++[(va:Int)]))++uF bu bb L U) (λx cs=>x= .tuple #[]/\cs=gL (kOf br bu D) X (m6 L.n (R.wd l) U va k v).1++uF bu bb L (m6 L.n (R.wd l) U va k v).2):=λw hi=>by
 have hr0:=hroot.1;have hr1:=hroot.2;have hsr:(R.wd l).sp.root<=4294967295:=by show R.s.root.toNat<=_;omega
 have HP:=Mh bu bb L U hT (R.wd l).sp hsr va k v hva hk1 hk4;have HS:=vo (kOf br bu D) X (R.wd (l++[v])) hr0;unfold m6;obtain⟨⟨⟨ca,ad⟩,U'⟩,hq⟩:=Zgn (pt L.n U (R.wd l).sp va k v);rw[hq]at HP|-;obtain⟨S,hS⟩:=Zgn ((R.wd l).sp);rw[show(R.wd (l++[v])).sp=(R.wd l).sp from rfl,hS]at HS;rw[hS]at HP;refine Zfn func241 ntmps241 hi ?_;refine Z_3 ?_;refine ZcM (gL (kOf br bu D) X (R.wd ((l++[v])++[(va:Int)]))) (λw hi hin=>ph (kOf br bu D) X R (l++[v]) va w hin) ?_;refine om ?_;refine Z_1 ?_;refine ZW ?_ ?_<;>intro hc4
 .exact absurd hc4 cP
 refine Zw6 ?_ ?_<;>intro hc6
 .refine bU (Zdn [9,11,14]) Zk (pS ?_);refine ZFe 3 17 ?_;refine ZE 5 ?_;refine ZE 7 ?_;refine ZE 8 ?_;refine ZE 10 ?_;refine kW 4 6 Zk ?_ ?_
  .refine zL ?_;refine cW 6 Zk (Lh ?_);rintro _ _ ⟨_,⟨rfl,rfl⟩,rfl⟩;refine kR ?_;refine Wq380 ?_;rintro _ _ ⟨_,⟨rfl,rfl⟩,rfl⟩;refine cW 11 Zk (BZ ?_);rintro _ _ ⟨_,⟨rfl,rfl⟩,rfl⟩;refine ZE 12 ?_;refine ZFe 13 19 ?_;refine cW 14 Zk (fy rfl rfl (gx (ys:=my (kOf br bu D) X ((R.wd l).wt ⟨ca,ad⟩)) (n:=2) (vs:=[.i ca,.w ad]) rfl Zrf rfl rfl (mQ rfl) Za rfl Qt) ZJ ?_);rintro _ _ ⟨rfl,rfl⟩;refine dR ?_;refine Zo (bO (gL (kOf br bu D) X ((R.wd l).wt ⟨ca,ad⟩)++uF bu bb L U') Zj ?_);exact Wq242
  refine Lh ?_;rintro _ _ ⟨_,⟨rfl,rfl⟩,rfl⟩;refine kW 4 9 Zk ?_ ?_
  .refine zL ?_;refine kR ?_;refine Wq380 ?_;rintro _ _ ⟨_,⟨rfl,rfl⟩,rfl⟩;refine cW 11 Zk (BZ ?_);rintro _ _ ⟨_,⟨rfl,rfl⟩,rfl⟩;refine ZE 12 ?_;refine ZFe 13 19 ?_;refine cW 14 Zk (fy rfl rfl (gx (ys:=my (kOf br bu D) X ((R.wd l).wt ⟨ca,ad⟩)) (n:=2) (vs:=[.i ca,.w ad]) rfl Zrf rfl rfl (mQ rfl) Za rfl Qt) ZJ ?_);rintro _ _ ⟨rfl,rfl⟩;refine dR ?_;refine Zo (bO (gL (kOf br bu D) X ((R.wd l).wt ⟨ca,ad⟩)++uF bu bb L U') Zj ?_);exact Wq242
  refine Wq380 ?_;rintro _ _ ⟨_,⟨rfl,rfl⟩,rfl⟩;refine ZG 4 ?_;refine cW 11 Zk (BZ ?_);rintro _ _ ⟨_,⟨rfl,rfl⟩,rfl⟩;refine ZE 12 ?_;refine ZFe 13 19 ?_;refine cW 14 Zk (fy rfl rfl (gx (ys:=my (kOf br bu D) X ((R.wd l).wt ⟨ca,ad⟩)) (n:=2) (vs:=[.i ca,.w ad]) rfl Zrf rfl rfl (mQ rfl) Za rfl Qt) ZJ ?_);rintro _ _ ⟨rfl,rfl⟩;refine dR ?_;refine Zo (bO (gL (kOf br bu D) X ((R.wd l).wt ⟨ca,ad⟩)++uF bu bb L U') Zj ?_);exact Wq242
 exact absurd hc6 cP
end
end Go.Ink
