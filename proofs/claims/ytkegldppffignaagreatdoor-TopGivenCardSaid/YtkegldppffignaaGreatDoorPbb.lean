/- Lemmas. -/
import Derived.Test.YtkegldppffignaaGreatDoorPaa
import Derived.Test.YtkegldppffignaaGreatDoorPab
import Derived.Test.YtkegldppffignaaGreatDoorPah
import Derived.Test.YtkegldppffignaaGreatDoorPai
import Derived.Test.YtkegldppffignaaGreatDoorPay
import Derived.Test.YtkegldppffignaaGreatDoorPaz
set_option linter.unusedSimpArgs false
set_option linter.unusedVariables false
set_option maxRecDepth 100000
set_option maxHeartbeats 4000000
namespace Go.Ink
open Go.RowKit
def Dev.Nd(d:Dev)(l:List Int):Nat:=min l.length (64 - d.inp.length)
def Dev.M7(d:Dev)(l:List Int):Dev:={d with inp:=d.inp++l.take (d.Nd l),M5:=bif decide (0<d.Nd l)then bits .or .u32 d.M5 2 else d.M5}
def Dev.raise(d:Dev)(k:Nat):Dev:={d with M5:=bits .or .u32 d.M5 (lW [k])}
structure GIn(d:Dev):Prop where
 i64:d.inp.length<=64
section
variable {n:Nat} {op nn:Int} {s:St} {U:Mmu} {d:Dev} {M:Mem} {R:Run}
theorem Bg(h:GIn d)(k:Int)(v:Nat):GIn (cO n M d k v).2.2:=by
 unfold cO fO
 repeat (first|exact h|exact⟨h.i64⟩|refine bO (λq:Bool×Mem×Dev=>GIn q.2.2) ?_ ?_)
theorem Ex(h:GIn d)(k count:Int):GIn (di d k count).2:=by
 have ht:GIn {d with inp:=d.inp.tail}:=⟨by show d.inp.tail.length<=64;rw[List.length_tail];have:=h.i64;omega⟩;unfold di
 repeat (first|exact h|exact ht|refine bO (λq:(Int×Bool)×Dev=>GIn q.2) ?_ ?_)
theorem lode_in(h:GIn d)(va:Nat):GIn (jZ n R U d va).d:=by
 unfold jZ;refine bO (λm:gi=>GIn m.d) h ?_;exact bO (λm:gi=>GIn m.d) (Ex h _ _) h
theorem stow_in(h:GIn d)(va v:Nat):GIn (jX n R U d va v).d:=by
 unfold jX;refine bO (λm:gi=>GIn m.d) h ?_;exact bO (λm:gi=>GIn m.d) (Bg h _ _) h
theorem Ks{m:gi}(h:GIn m.d):GIn (dM n op nn m).d:=by
 unfold dM;refine bO (λm:gi=>GIn m.d) (lode_in h _) ?_;refine bO (λm:gi=>GIn m.d) (stow_in h _ _) ?_
 repeat (first|exact h|refine bO (λm:gi=>GIn m.d) ?_ ?_)
theorem mid_in(h:GIn d):GIn (hH n s op nn U d).d:=by
 unfold hH;cases dK op nn (eY s op)with
 |some R=>exact h
 |none=>exact bO (λm:gi=>GIn m.d) h (Ks h)
theorem do_in(h:GIn d):GIn (mq n s op nn U d).2.2:=by
 unfold mq;refine bO (λq:Res×Mmu×Dev=>GIn q.2.2) h ?_;exact bO (λq:Res×Mmu×Dev=>GIn q.2.2) h (mid_in h)
theorem FE(h:GIn d)(c:Int):GIn (d.tick c):=by
 unfold Dev.tick;exact bO GIn h ⟨h.i64⟩
theorem CQ(h:GIn d):GIn (dI n s U d).d:=by
 unfold dI;refine bO (λb:zG=>GIn b.d) h ?_;unfold mf;exact bO (λb:zG=>GIn b.d) (FE h _) (FE h _)
theorem Gd{MY:Nat}:∀(k:Nat) {s:St} {p:Nat} {U:Mmu} {d:Dev},GIn d->GIn (dZ n MY k s p U d).2.2
 |0,s,p,U,d,h=>h
 |k+1,s,p,U,d,h=>by
  unfold dZ;cases cZ n U.m p with
  |none=>exact h
  |some o=>
   obtain⟨⟨op,nn⟩,z⟩:=o;have hd:=do_in (n:=n) (s:=s) (op:=op) (nn:=nn) (U:=U) h;exact bO (λq:St×Mmu×Dev=>GIn q.2.2) (Gd k hd) hd
theorem LP(h:GIn d):GIn (cT n s U d).2.2:=by
 unfold cT;dsimp only;exact bO (λq:St×Mmu×Dev=>GIn q.2.2) (Gd 8 (CQ h)) (CQ h)
end
theorem lines1:lW [1]=2:=by decide
theorem BS{n:Nat}{m f:Int}:∀(k:Nat) {q:St×Mmu×Dev},GIn q.2.2->GIn (kK n m f k q).2.2
 |0,q,h=>h
 |k+1,q,h=>by
  unfold kK;exact bO (λq:St×Mmu×Dev=>GIn q.2.2) (BS k (LP h)) h
theorem Me{n:Nat}{s:St}{U:Mmu}{d:Dev}(m:Int)(h:GIn d):GIn (eW n m s U d).2.2:=BS _ h
theorem Hm(k:List Int):GIn (Dev.init k):=⟨aq _⟩
theorem oX{n:Nat}{s:St}{U:Mmu}{d:Dev}(h:GOk n s U d)(hi:GIn d){l:List Int}(hl:u8s l):GOk n s U (d.M7 l)/\GIn (d.M7 l):=by
 have hw:=h.dv.wf;have hlen:(d.inp++l.take (d.Nd l)).length<=64:=by
  have:=hi.i64;unfold Dev.Nd;rw[ae,aB];omega
 have hb:u8s (d.inp++l.take (d.Nd l)):=λx hx=>(aS.1 hx).elim (hw.Oj x) (λq=>hl x (bj q))
 exact⟨⟨h.wf,h.right,h.u,⟨⟨hb,hw.M4,hw.NS,hw.ML,hw.place,aW hlen Wq5⟩,bO u32 (gN .or d.M5 2) h.dv.M5,h.dv.mask,h.dv.timer,h.dv.status⟩,⟨h.lines.mask⟩⟩,⟨hlen⟩⟩
theorem DN{n:Nat}{s:St}{U:Mmu}{d:Dev}(h:GOk n s U d)(hi:GIn d)(k:Nat):GOk n s U (d.raise k)/\GIn (d.raise k):=
 ⟨⟨h.wf,h.right,h.u,⟨h.dv.wf.re rfl rfl rfl rfl,gN .or d.M5 _,h.dv.mask,h.dv.timer,h.dv.status⟩,⟨h.lines.mask⟩⟩,⟨hi.i64⟩⟩
theorem yd{l:List Int}{N m:Nat}(h:min l.length m=N):(l.take N).length=N:=by rw[aB];omega
end Go.Ink
namespace Go.Proofs.YtkegldppffignaaGreatDoor
open Go.RowKit Go.Ink Go.Proofs.Tryz
attribute [local irreducible] OpY bS
theorem J9{W:World}{A:Option Addr}{c N m:Nat}{l:List Int}(h:Rd W .u8 A l.length c l)(hN:min l.length m=N):Rd W .u8 A N c (l.take N):=by
 have h2:=jo h N;rwa[yd hN]at h2
theorem Lz(b:Nat)(Ao:Option Addr)(no co:Nat)(Ai:Option Addr)(ci:Nat)(inp:List Int)(h64:inp.length<=64)(A:Option Addr)(c:Nat)(l:List Int)(hl:l.length<=1000)(N:Nat)(hN:min l.length (64 - inp.length)=N)(w:World)
  (hi:Inv w (bM [uc b Ao no co Ai inp.length ci,b8 Ai ci inp]) [uc b Ao no co Ai inp.length ci,b8 Ai ci inp] w) (h:∀w',dG (bM [uc b Ao no co Ai inp.length ci,b8 Ai ci inp]) w w'->Rd w' .u8 A l.length c l):
  Ctr prog 74 [.pointer (some ⟨b,0,none⟩),.slice A l.length c] w [uc b Ao no co Ai inp.length ci,b8 Ai ci inp] (λv cs=>∃Ai' ci',v= .int .i64 (N:Int)/\cs=[uc b Ao no co Ai' (inp++l.take N).length ci',b8 Ai' ci' (inp++l.take N)]):=by
 have hcap:=(h w (dG.refl _ _)).cap;have htl:=yd hN;refine bN func74 rfl ntmps74 rfl hi ?_;refine gy ?_;refine Zy (eE (Zv rfl) (Zv rfl) (show _=((64 - inp.length:Nat):Int)from by rw[bF _ ⟨by omega,by omega⟩];omega)) ?_;refine Zy (y_min (Zv rfl) (Zv rfl) (show _=(N:Int)from by split<;>omega)) ?_;refine Z_4 ?_;refine bU ⟨λj=>List.elem j [8,11],[]⟩ Zk ?_;refine gO ?_;refine ZE 2 ?_;refine ZFe 3 1 ?_;refine ZG 4 ?_;refine ZE 5 ?_;refine ZE 6 ?_;refine cG 7 rfl Zk Zk Zk (ge N rfl Zrf (Zv rfl) (Zv rfl) (λ_=>by first|rfl|omega) Wq4) rfl ?_;refine cn 8 Zk ?_;refine kf rfl rfl (cD (e:=5) (sz:=1) (bytes:=1) rfl rfl Za rfl rfl (λw hi=>(J9 (h w hi.Nb) hN)) cN gS Wq1) ZJ rfl ?_;rintro _ _ ⟨A2,c2,rfl,rfl⟩;rw[show inp.length+N=(inp++l.take N).length by rw[ae,htl],show ints .u8 inp++ints .u8 (l.take N)=ints .u8 (inp++l.take N)from cj inp (l.take N)];refine ZE 9 ?_;refine ZFe 10 1 ?_;refine cn 11 Zk ?_;refine ZQ ?_;refine dx ?_;refine Z_8 ?_;refine Zrb ([row _ _ _,slv _ _ _ _ _ _]) ?_;exact⟨A2,c2,rfl,rfl⟩
theorem Bk(D:p8)(bm:Nat)(X:nw)(d:Dev)(h64:d.inp.length<=64)(A:Option Addr)(c:Nat)(l:List Int)(hl:l.length<=1000)(w:World)(hi:Inv w (bM (lm D bm X d)) (lm D bm X d) w)(h:∀w',dG (bM (lm D bm X d)) w w'->Rd w' .u8 A l.length c l):
  Ctr prog 42 [.pointer (some ⟨D.bs,0,none⟩),.slice A l.length c] w (lm D bm X d) (λv cs=>∃X',v= .int .i64 (d.Nd l:Int)/\cs=lm D bm X' (d.M7 l)):=by
 obtain⟨N,hN⟩:=Zgn (d.Nd l);have hT:d.M7 l={d with inp:=d.inp++l.take N,M5:=bif decide (0<N)then bits .or .u32 d.M5 2 else d.M5}:=by unfold Dev.M7;rw[hN]
 rw[hT,hN];unfold Dev.Nd at hN;have HR:=λA c p w hi h=>mX D.bi p d.mask A c [1] (λx hx=>by simp at hx;omega) w hi h
 rw[lines1]at HR;refine bN func42 rfl ntmps42 rfl hi ?_;refine gR ?_;refine ZcL ([uc D.bcn X.Ao d.out.length X.co X.Ai d.inp.length X.ci,b8 X.Ai X.ci d.inp]) (λw hi hin=>Lz D.bcn X.Ao d.out.length X.co X.Ai X.ci d.inp h64 A c l hl N hN w hin (λw' hk=>h w' (hi.Oi (λc hc=>by simp only[lm,aS,aJ,aY]at hc|-;grind) hk))) ?_;rintro _ _ ⟨_,⟨Ai',ci',rfl,rfl⟩,rfl⟩;refine dS ?_;refine ZW ?_ ?_<;>intro hc2
 .simp only[aj]at hc2;rw[ax (show 0<N by omega),ac];refine Z_5 ?_;refine jO ?_;rintro _ _ ⟨b18,rfl,rfl⟩;refine ZcM ([pF D.bi d.M5 d.mask]) (λw hi hin=>HR (some ⟨b18,0,none⟩) 1 d.M5 w hin (λw' hk=>hi.NE Zi (show Has _ (slv 3 1 (some ⟨b18,0,none⟩) 1 1 (ints .i64 [1]))from Zh) hk)) ?_;refine Z_9 ?_;refine bP (lm D bm ⟨X.Ao,X.co,Ai',ci'⟩ {d with inp:=d.inp++l.take N,M5:=bits .or .u32 d.M5 2}) Zj ?_;refine Zrb ([row _ _ _,row _ _ _,row _ _ _,row _ _ _,slv _ _ _ _ _ _,slv _ _ _ _ _ _,row _ _ _,slv _ _ _ _ _ _]) ?_;exact⟨⟨X.Ao,X.co,Ai',ci'⟩,rfl,rfl⟩
 simp only[ah]at hc2;rw[aw (show¬0<N by omega),aa];refine Z_9 ?_;refine bP (lm D bm ⟨X.Ao,X.co,Ai',ci'⟩ {d with inp:=d.inp++l.take N}) Zj ?_;refine Zrb ([row _ _ _,row _ _ _,row _ _ _,row _ _ _,slv _ _ _ _ _ _,slv _ _ _ _ _ _,row _ _ _,slv _ _ _ _ _ _]) ?_;exact⟨⟨X.Ao,X.co,Ai',ci'⟩,rfl,rfl⟩
theorem pQ(H:rp)(G:Gst)(h64:G.d.inp.length<=64)(A:Option Addr)(c:Nat)(l:List Int)(hl:l.length<=1000)(w:World)(hi:Inv w (bM (gsF H G)) (gsF H G) w)(h:∀w',dG (bM (gsF H G)) w w'->Rd w' .u8 A l.length c l):
  Ctr prog 16 [.pointer (some ⟨H.bg,0,none⟩),.slice A l.length c] w (gsF H G)
   (λv cs=>∃Y',v= .int .i64 (G.d.Nd l:Int)/\cs=gsF H ⟨G.s,G.X,Y',G.U,G.d.M7 l,G.o⟩):=by
 obtain⟨s,X,Y,U,d,o⟩:=G;dsimp only at h64|-;have HB:=Bk H.D H.L.bm Y d h64 A c l hl;obtain⟨d2,hd⟩:=Zgn (d.M7 l);obtain⟨N,hN⟩:=Zgn (d.Nd l);rw[hd,hN]at HB|-;refine bN func16 rfl ntmps16 rfl hi ?_;refine dS ?_;refine ZFa 22 ?_;refine Z_3 ?_;refine fS ?_;refine Z_9 ?_;refine ZcL (lm H.D H.L.bm Y d) (λw hi hin=>HB w hin (λw' hk=>h w' (hi.Ns Zi hk))) ?_;rintro _ _ ⟨_,⟨Y2,rfl,rfl⟩,rfl⟩;refine Z_4 ?_;refine bP (gsF H ⟨s,X,Y2,U,d2,o⟩) Zj ?_;refine Zrb ((gsF H ⟨s,X,Y2,U,d2,o⟩)) ?_;exact⟨Y2,rfl,rfl⟩
end Go.Proofs.YtkegldppffignaaGreatDoor
namespace Go.Ink
open Go.RowKit
abbrev codeW:List (Int×Int):=[(2,72),(2,32784),(49,0),(69,0)]
theorem CH:eG codeW=[2,72,0,0,0,2,16,128,0,0,49,69]:=by decide
def Mp(q:St×Mmu×Dev):Bool:=q.1.halted&&(q.1.count==4)&&(q.2.2.out==[72])
theorem D5:Mp (eW 1 9 St.new ⟨Mem.load 1 [2,72,0,0,0,2,16,128,0,0,49,69],dz⟩ (Dev.init []))=true:=by decide+kernel
end Go.Ink
namespace Go.Proofs.YtkegldppffignaaGreatDoor
open Go.RowKit Go.Ink Go.Proofs.Tryz
attribute [local irreducible] OpY bS
theorem gC(n:Int)(w:World):Ctr prog 11 [.int .u32 n] w [] (λv cs=>v= .agg #[.int .i64 2,.int .u32 n]/\cs=[]):=by
 refine bN func11 rfl ntmps11 rfl (Inv.start w) ?_;refine Z_2 ?_;refine ZN λb2=>?_;refine Z_6 ?_;refine ZM ?_;refine Z_3 ?_;refine mi (cs':=[]) (.inl rfl) Zu rfl rfl Zh Zrf Zrf ?_;exact de
theorem jG(n:Int)(w:World):Ctr prog 12 [.int .i64 n] w [] (λv cs=>v= .agg #[.int .i64 n,.int .u32 0]/\cs=[]):=by
 refine bN func12 rfl ntmps12 rfl (Inv.start w) ?_;refine Z_2 ?_;refine ZN λb2=>?_;refine Z_6 ?_;refine ZM ?_;refine Z_3 ?_;refine mi (cs':=[]) (.inl rfl) Zu rfl rfl Zh Zrf Zrf ?_;exact de
theorem j6(o n:Int)(w:World):Ctr prog 13 [.int .i64 o,.int .u32 n] w [] (λv cs=>v= .agg #[.int .i64 o,.int .u32 n]/\cs=[]):=by
 refine bN func13 rfl ntmps13 rfl (Inv.start w) ?_;refine Z_2 ?_;refine ZN λb4=>?_;refine Z_7 ?_;refine ZM ?_;refine Z_3 ?_;refine mi (cs':=[]) (.inl rfl) Zu rfl rfl Zh Zrf Zrf ?_;exact de
theorem o3(A:Option Addr)(c:Nat)(l:List (Int×Int))(hl:l.length<=1000)(w:World)(h:RdV w 2 A l.length c (l.flatMap dR)):Ctr prog 10 [.slice A l.length c] w [] (λv cs=>∃A' c',v= .slice A' (eG l).length c'/\cs=[sl .u8 5 A' (eG l).length c' (eG l)]):=by
 refine bN func10 rfl ntmps10 rfl (Inv.start w) ?_;refine Z_8 ?_;refine ZS (λw hi=>Bh A c l hl w (h.MZ hi)) ?_;rintro _ _ ⟨_,⟨A1,c1,rfl,rfl⟩,rfl⟩;refine Z_4 ?_;refine Zrb ([slv _ _ _ _ _ _]) ?_;exact⟨A1,c1,rfl,rfl⟩
theorem lw(n:Nat)(hn0:1<=n)(hn:n<=64)(A B:Option Addr)(c e:Nat)(l k:List Int)(hll:l.length<=n*64)(hlb:u8s l)(hkl:k.length<=1024)(hkb:u8s k)(tr:Bool)(w:World)(hA:Rd w .u8 A l.length c l)(hB:Rd w .u8 B k.length e k):
  Ctr prog 14 [imgV A c l B e k n,.bool tr] w [] (λv cs=>∃H G,Jg H.L.bp 0 n (List.replicate 16384 0) (List.replicate 256 (-1)) (List.replicate 4 (-1)) l k tr H G/\v= .pointer (some ⟨H.bg,0,none⟩)/\cs=gsF H G):=by
 have HF:=Ba;have HN:=λbp w hi hA hB=>xt bp 0 n (List.replicate 16384 0) aI Wq5 hn0 hn A B c e l k hll hlb hkl hkb tr w hi hA hB
 obtain⟨W0,hW0⟩:=Zgn (List.replicate 256 (-1:Int));obtain⟨B0,hB0⟩:=Zgn (List.replicate 16384 (0:Int));obtain⟨P0,hP0⟩:=Zgn (List.replicate 4 (-1:Int));rw[hB0,hW0,hP0]at HF HN|-;refine bN func14 rfl ntmps14 rfl (Inv.start w) ?_;refine Z_2 ?_;refine ZO λb2=>?_;refine Z_5 ?_;refine ZS (λw hi=>HF w) ?_;rintro _ _ ⟨_,⟨bp,rfl,rfl⟩,rfl⟩;refine dS ?_;refine fS ?_;refine Z_5 ?_;refine dN (cz (vs:=[.slice A l.length c,.slice B k.length e,.int .i64 (n:Int)]) Zrf Zrf Zv0) (cK Zh rfl) rfl ?_;refine ZA ?_;refine ZcL ([dj bp B0 W0 P0]) (λw hi hin=>HN bp w hin (λw' hk=>RdV.M6 hA hi Zi hk) (λw' hk=>RdV.M6 hB hi Zi hk)) ?_;rintro _ _ ⟨_,⟨H,G,hBo,rfl,rfl⟩,rfl⟩;obtain rfl:H.L.bp=bp:=hBo.hbp;refine gy ?_;refine fS ?_;refine Z_9 ?_;refine bP (gsF H G) Zj ?_;refine Zrb ((gsF H G)) ?_;exact⟨H,G,hBo,rfl,rfl⟩
theorem p5(w:World)(ht:iG w):Ctr prog 21 [] w [] (λv cs=>v= .bool true/\cs=[]):=by
 have hb:u8s [2,72,0,0,0,2,16,128,0,0,49,69]:=by rw[<-CH];exact nk _ _
 have HC:=λA c w h=>o3 A c codeW (show(4:Nat)<=1000 by decide) w h
 rw[CH]at HC;have HN:=λA c w hA=>lw 1 Wq5 Wq5 A none c 0 [2,72,0,0,0,2,16,128,0,0,49,69] [] Wq5 hb Wq5 (λx hx=>by cases hx) true w hA (wV w .u8)
 have hK:=D5;obtain⟨l0,hl0⟩:∃l:List Int,[2,72,0,0,0,2,16,128,0,0,49,69]=l:=⟨_,rfl⟩;rw[hl0]at HC HN hK;obtain⟨U0,hU⟩:=Zgn ((⟨Mem.load 1 l0,dz⟩:Mmu));obtain⟨d0,hd⟩:=Zgn (Dev.init []);have ho:d0.out.length<=0:=by rw[<-hd];exact aM _
 rw[hU,hd]at hK;obtain⟨⟨s9,U9,d9⟩,hR⟩:=Zgn (eW 1 9 St.new U0 d0);rw[hR]at hK;simp only[Mp,aL,beq_iff_eq]at hK;obtain⟨⟨k1,k2⟩,k3⟩:=hK;have HG:∀(H:rp) (G:Gst) (B0 W0 P0:List Int),Jg H.L.bp 0 1 B0 W0 P0 l0 [] true H G->H.L.n=1/\G.ok H.L.n/\G.d.out.length<=0/\eW H.L.n 9 G.s G.U G.d=(s9,U9,d9)/\G.s.count=0:=λH G B0 W0 P0 h=>⟨h.hn,by rw[h.hn];exact h.ok,by rw[h.hd,hd];exact ho,by rw[h.hn,h.hs,h.hu,h.hd,hU,hd];exact hR,by rw[h.hs];rfl⟩
 refine bN func21 rfl ntmps21 rfl (Inv.start w) ?_;refine Z_7 ?_;refine ZSe (λw hi=>gC _ w) ?_;refine ZSe (λw hi=>gC _ w) ?_;refine ZSe (λw hi=>jG _ w) ?_;refine ZSe (λw hi=>jG _ w) ?_;refine ro ?_;rintro _ _ ⟨b6,rfl,rfl⟩;refine ZS (λw hi=>HC (some ⟨b6,0,none⟩) 4 w (hi.rd (show Has _ (slv 27 2 (some ⟨b6,0,none⟩) 4 4 (codeW.flatMap dR))from Zh))) ?_;rintro _ _ ⟨_,⟨A1,c1,rfl,rfl⟩,rfl⟩;refine ZA ?_;refine ZS (λw hi=>HN A1 c1 w (hi.rd (show Has _ (sl .u8 5 A1 l0.length c1 l0)from Zh))) ?_;rintro _ _ ⟨_,⟨H,G,hBo,rfl,rfl⟩,rfl⟩;obtain⟨hn2,hG,hoG,hrG,hcG⟩:=HG H G _ _ _ hBo;have HR:=λw hi ht=>lf H G Wq1 hG 9 Wq5 Wq5 (by rw[show(9:Int).toNat=9 from rfl];omega) w hi ht
 rw[hrG,hcG]at HR;dsimp only at HR;rw[k2]at HR;refine Z_9 ?_;refine fF (bR rfl rfl) rfl (dY (gsF H G) rfl (λ_ _=>rfl) Zi (λw hi hin=>HR w hin (λw' hk=>RdV.M6 ht hi Zi hk))) rfl ?_;rintro _ _ ⟨_,⟨⟨s2,X2,Y2,U2,d2,o2⟩,⟨hG2,hr2, -⟩,rfl,rfl⟩,rfl⟩;simp only[aV]at hr2;obtain⟨rfl,rfl,rfl⟩:=hr2;have hg2:=hG2.g;dsimp only at hg2;obtain⟨he16,hf16, -⟩:=St.fits hg2.right;refine Zyy rfl rfl (jc (dh rfl) (Zv rfl) (show _=true from rfl)) ?_;refine Z_9 ?_;refine fF (bR rfl rfl) rfl (cU rfl (λ_ _=>rfl) (λw hi=>nj H.D.bcn Y2.Ao Y2.co d2.out Y2.Ai d2.inp.length Y2.ci (by rw[k3];decide) w (hi.get Zh) (hi.get Zh))) rfl ?_;rintro _ _ ⟨_,⟨A5,c5,rfl,rfl⟩,rfl⟩;refine dU (λw hi=>jf (hi.rd (show Has _ (b8 A5 c5 d2.out)from Zh))) (λhrd26=>?_);refine iu (bR rfl rfl) (je rfl rfl rfl (dh rfl) hrd26) (λw hi=>RdV.M8 (hi.rd (show Has _ (b8 A5 c5 d2.out)from Zh))) rfl ?_;refine Zyy rfl rfl (my rfl (dh rfl) (Zv rfl) (show _=true from by rw[k3];rfl)) ?_;refine Z_3 ?_;refine fF (bR rfl rfl) rfl (cU rfl (λ_ _=>rfl) (λw hi=>i5 H ⟨s2,X2,Y2,U2,d2,o2⟩ w (hi.get Zh) (hi.NM (show Has _ (slD s2 X2.Ad X2.cd)from Zh) (show Has _ (slR s2 X2.Ar X2.cr)from Zh) (by show s2.d.length*4<=_;omega) (by show s2.r.length*4<=_;omega)))) rfl ?_;rintro _ _ ⟨_,⟨A3,c3,A4,c4,rfl,rfl⟩,rfl⟩;refine Zyy rfl rfl (lM rfl rfl Zrf (dh rfl) (congrArg (λb=>some (Value.bool b)) k1)) ?_;refine Z_5 ?_;refine Zra ?_;exact de
end Go.Proofs.YtkegldppffignaaGreatDoor
