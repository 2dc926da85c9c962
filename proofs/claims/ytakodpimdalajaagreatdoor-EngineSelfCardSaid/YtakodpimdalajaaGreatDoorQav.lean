/- For every input the law EngineSelf answers true and leaves every argument as it was; the table of math/bits is what the program's text lays (the card ties it); no other condition. -/
import Derived.Test.YtakodpimdalajaaGreatDoorQaa
import Derived.Test.YtakodpimdalajaaGreatDoorQab
import Derived.Test.YtakodpimdalajaaGreatDoorQac
import Derived.Test.YtakodpimdalajaaGreatDoorQar
import Derived.Test.YtakodpimdalajaaGreatDoorQau
import Derived.Test.YtakodpimdalajaaGreatDoorRows
import Derived.JoinedOf
import Derived.Test.YtakodpimdalajaaGreatDoorCards
import Derived.Test.YtakodpimdalajaaGreatDoorTie
import Derived.SevenTiedAt
set_option linter.unusedSimpArgs false
set_option linter.unusedVariables false
set_option maxRecDepth 100000
set_option maxHeartbeats 4000000
namespace Go.Ink
open Go.RowKit
def jH(n:Nat)(b:Int):Nat→St×Mmu×Dev→St×Mmu×Dev
 |0,q=>q
 |k+1,q=>bif decide (q.1.count<b)then jH n b k (dg n q.1 q.2.1 q.2.2)else q
theorem wj{n:Nat}{b:Int}{q:St×Mmu×Dev}(h:decide (q.1.count<b)=false):∀k,jH n b k q=q
 |0=>rfl
 |k+1=>by
  rw[jH,h]
  rfl
theorem AH{n:Nat}{b:Int}{q:St×Mmu×Dev}(h:decide (q.1.count<b)=true)(k:Nat):jH n b (k+1) q=jH n b k (dg n q.1 q.2.1 q.2.2):=by
 rw[jH,h]
 rfl
def ownI(x:Int):List (Int×Int):=[(1,0),(3,0),(2,1),(53,0),(1,x),(16,0),(2,1),(53,0),(32,236)]
def ownIs(x:Int)(k:Nat)(q:St×Mmu×Dev):Bool:=(q.2.1.m.data.getD 1 0==((k:Int)+1)*x%256)&&(q.1.d==[])&&(q.1.Ie==0)&&(q.1.count==9*((k:Int)+1))
def uB(x:Int):Nat→Nat→St×Mmu×Dev→Bool
 |0,_,_=>true
 |f+1,k,q=>ownIs x k (jH 1 (9*((k:Int)+1)) 20 q)&&uB x f (k+1) (jH 1 (9*((k:Int)+1)) 20 q)
def FB(x:Int):St×Mmu×Dev:=(St.new,⟨Mem.init 1 (iD (ownI x)),dM⟩,Dev.init [])
def Hk(x:Int):Nat→St×Mmu×Dev
 |0=>FB x
 |k+1=>jH 1 (9*((k:Int)+1)) 20 (Hk x k)
theorem Hj{x:Int}:∀(f k:Nat),uB x f k (Hk x k)=true→∀j,j<f→ownIs x (k+j) (Hk x (k+j+1))=true
 |0,_,_,_,h=>absurd h (Nat.not_lt_zero _)
 |f+1,k,h,j,hj=>by
  rw[uB,az]at h;cases j with
  |zero=>exact h.1
  |succ j=>
   have:=Hj f (k+1) h.2 j (by omega);rw[show k+(j+1)=k+1+j by omega];exact this
theorem own_1:uB 1 40 0 (FB 1)=true:=by decide+kernel
theorem own_2:uB 2 40 0 (FB 2)=true:=by decide+kernel
theorem own_3:uB 3 40 0 (FB 3)=true:=by decide+kernel
theorem own_4:uB 4 40 0 (FB 4)=true:=by decide+kernel
theorem own_5:uB 5 40 0 (FB 5)=true:=by decide+kernel
theorem own_at{x:Nat}(h1:1≤x)(h5:x≤5){k:Nat}(hk:k<40):(Hk x (k+1)).2.1.m.data.getD 1 0=((k:Int)+1)*x%256∧(Hk x (k+1)).1.d=[]∧(Hk x (k+1)).1.Ie=0∧(Hk x (k+1)).1.count=9*((k:Int)+1):=by
 have h:uB (x:Int) 40 0 (FB x)=true:=by
  have:x=1∨x=2∨x=3∨x=4∨x=5:=by omega
  rcases this with rfl|rfl|rfl|rfl|rfl
  ·exact own_1
  ·exact own_2
  ·exact own_3
  ·exact own_4
  exact own_5
 have h2:=Hj 40 0 h k hk;rw[bl]at h2;simp only[ownIs,az,beq_iff_eq]at h2;exact⟨h2.1.1.1,h2.1.1.2,h2.1.2,h2.2⟩
theorem own_len(x:Int):(iD (ownI x)).length≤45:=mD (ownI x) 9
end Go.Ink
namespace Go.Proofs.YtakodpimdalajaaGreatDoor
open Go.RowKit Go.Ink Go.Proofs.Tryz
attribute [local irreducible] OpY bU
theorem CS(n:Int)(w:World):Ctr prog 8 [.int .u32 n] w [] (fun v cs=>v= .agg #[.int .i64 2,.int .u32 n]∧cs=[]):=by
 refine bL func8 rfl ntmps8 rfl (Inv.start w) ?_;refine Z_2 ?_;refine ZN fun b2=>?_;refine Z_6 ?_;refine ZM ?_;refine Z_3 ?_;refine mS (cs':=[]) (.inl rfl) Zu rfl rfl Zh Zrf Zrf ?_;exact⟨rfl,rfl⟩
theorem uV(times by_:Int)(hby:u32 by_)(w:World)(ht:mG w):
  Ctr prog 3 [.int .i64 times,.int .u32 by_] w [] (fun v cs=>v= .bool true∧cs=[]):=by
 obtain⟨b,rfl⟩:∃b:Nat,by_=b:=ar hby.1;obtain⟨x,hx⟩:=Zgn (1+b%5);have hx1:1≤x:=by omega
 have hx5:x≤5:=by omega
 have hst:IntKind.u32.wrap (1+(b:Int).tmod 5)=(x:Int):=by rw[aW (by omega),u32_wrap_id _ (by omega) (by omega)];omega
 obtain⟨m,hm⟩:=Zgn (nj times 1 40);have hmr:=oG times 1 40 (by decide);rw[hm]at hmr;have HW:=fun w=>hm▸qt times 1 40 w (by decide) (by decide) (by decide)
 obtain⟨K,rfl⟩:∃K:Nat,m=K:=ar (by omega);have hK1:1≤K:=by omega
 have hK40:K≤40:=by omega
 have HA:=fun k hk=>own_at hx1 hx5 (k:=k) hk
 have hl:=own_len (x:Int);have hb:u8s (iD (ownI (x:Int))):=wN _ _;have HC:=fun A c w h=>m5 A c (ownI (x:Int)) (show(9:Nat)≤1000 by decide) w h
 obtain⟨Q,hQ⟩:=Zgn (Hk (x:Int));have hQ0:Q 0=FB (x:Int):=by rw[←hQ];rfl
 have hQs:∀k,Q (k+1)=jH 1 (9*((k:Int)+1)) 20 (Q k):=fun k=>by rw[←hQ];rfl
 rw[hQ]at HA;unfold FB at hQ0;obtain⟨l0,hl0⟩:=Zgn (iD (ownI (x:Int)));rw[hl0]at HC hl hb hQ0;have HN:=oq 8 ⟨by decide,by decide⟩;have hG0:=od (n:=1) (l:=l0) (k:=[]) (by omega) hb (by decide) (fun x hx=>by cases hx);have ho0:(Dev.init []).out.length≤0:=aS _;have HF:=fun A c w h=>mA A none c 0 1 l0 [] (by decide) (by decide) (by omega) hb (by decide) w h (Cg w .u8)
 unfold fr18 at HF;obtain⟨data,hda⟩:=Zgn (jh 1 l0);obtain⟨tu,htu⟩:=Zgn (List.replicate 1 false);obtain⟨U0,hU⟩:=Zgn ((⟨Mem.init 1 l0,dM⟩:Mmu));obtain⟨T0,hTT⟩:=Zgn (dM);obtain⟨d0,hd⟩:=Zgn (Dev.init []);rw[hda,htu,hU,hd,hTT]at HF;rw[hU,hd]at hG0 hQ0;rw[hd]at ho0;obtain⟨s0,hs0⟩:=Zgn (St.new);refine bL func3 rfl ntmps3 rfl (Inv.start w) ?_;refine jT ?_;refine Zy (kp (Zv rfl) (Zv rfl) (by omega) (by first|exact IntWalk.rem_in _ _ (by omega)|exact rfl)) ?_;refine Zy (cy Zv0 Zv0 hst) ?_;refine Z_8 ?_;refine dJ (BX rfl rfl (fun _ _=>rfl) (fun w hi=>CS 1 w)) rfl ?_;rintro _ _ ⟨_,⟨rfl,rfl⟩,rfl⟩;refine Z_5 ?_;refine dJ (BX rfl rfl (fun _ _=>rfl) (fun w hi=>CS 1 w)) rfl ?_;rintro _ _ ⟨_,⟨rfl,rfl⟩,rfl⟩;refine Z_2 ?_;refine dJ (dh rfl rfl Zrf Zrf rfl rfl rfl) rfl ?_;rintro _ _ ⟨b32,rfl,rfl⟩;refine ZS (fun w hi=>HC (some ⟨b32,0,none⟩) 9 w (hi.rd (show Has _ (slv 24 2 (some ⟨b32,0,none⟩) 9 9 ((ownI (x:Int)).flatMap jt))from Zh))) ?_;rintro _ _ ⟨_,⟨A1,c1,rfl,rfl⟩,rfl⟩;refine Z_7 ?_;refine ZS (fun w hi=>HF A1 c1 w (hi.rd (show Has _ (sl .u8 5 A1 l0.length c1 l0)from Zh))) ?_;rintro _ _ ⟨_,⟨F,hF,rfl,rfl⟩,rfl⟩;refine Z_5 ?_;refine ZS (fun w hi=>HN w) ?_;rintro _ _ ⟨_,⟨be,E,⟨hE,hE0⟩,rfl,rfl⟩,rfl⟩;refine mL ?_;refine Z_2 ?_;refine bV rfl (rfl) ?_;refine Z_5 ?_;refine ZSe (fun w hi=>HW w) ?_;refine Z_8 ?_;refine dX (cB (vs:=St.new.cells (.slice none 0 0) (.slice none 0 0)) Zrf Zrf Zv0) (cX Zh rfl) rfl ?_;refine ZN fun b12=>?_
 refine ZM ?_;refine Z_5 ?_;refine dC 22 1 ?_;refine dC 22 1 ?_;refine lp (row b12 (St.new.cells (.slice none 0 0) (.slice none 0 0)) 44::ls F St.new::egF be F.bu F.bb F.L F.D St.new ⟨none,0,none,0⟩ ⟨none,0,none,0⟩ U0 d0 E) Zj ?_;refine Z_4 ?_;refine cG (fun q:Nat×(St×Mmu×Dev)×(hI×jV×EnX)=>[(6,.int .u32 (x:Int)),(8,.pointer (some ⟨F.bw,0,none⟩)),(9,.pointer (some ⟨be,0,none⟩)),(11,.int .i64 (K:Int)),(12,.pointer (some ⟨b12,0,none⟩)),(13,.int .i64 (q.1:Int))]) (fun q=>row b12 (q.2.1.1.cells (.slice q.2.2.1.Ad q.2.1.1.d.length q.2.2.1.cd) (.slice q.2.2.1.Ar q.2.1.1.r.length q.2.2.1.cr)) 44::ls F St.new::egF be F.bu F.bb F.L F.D q.2.1.1 q.2.2.1 q.2.2.2.1 q.2.1.2.1 q.2.1.2.2 q.2.2.2.2) (fun q=>q.1≤K∧q.2.1=Q q.1∧GOk 1 q.2.1.1 q.2.1.2.1 q.2.1.2.2∧q.2.1.2.2.out.length≤160*q.1∧mH q.2.2.2.2) (fun q=>K - q.1) (⟨0,(St.new,U0,d0),(⟨none,0,none,0⟩,⟨none,0,none,0⟩,E)⟩) ?_ ?_ ?_ ?_
 ·exact⟨ax _,hQ0.symm,hG0,ho0,hE⟩
 ·exact Zwk
 ·exact Zu
 rintro⟨j,⟨s,U,d⟩,⟨X,Y,E⟩⟩ ⟨hj,hq,hG,ho,hE⟩;dsimp only at hj hq hG ho hE⊢;have hQj:=hQs j;rw[←hq]at hQj;refine Z_8 ?_;refine ZW ?_ ?_<;>intro hc11
 ·simp only[ap]at hc11;have hA:=HA j (by omega);obtain⟨P,hP⟩:=Zgn ((j+1)*x);have hP2:P≤200:=(by rw[←hP];exact Nat.mul_le_mul (show j+1≤40 by omega) hx5);have hjx:((j:Int)+1)*(x:Int)=(P:Int):=(by rw[←hP,Int.natCast_mul];rfl);rw[hjx]at hA;refine eu ?_;refine cG (fun q:Nat×(St×Mmu×Dev)×(hI×jV×EnX)=>[(6,.int .u32 (x:Int)),(8,.pointer (some ⟨F.bw,0,none⟩)),(9,.pointer (some ⟨be,0,none⟩)),(11,.int .i64 (K:Int)),(12,.pointer (some ⟨b12,0,none⟩)),(13,.int .i64 (j:Int)),(14,.int .i64 (q.1:Int))]) (fun q=>row b12 (q.2.1.1.cells (.slice q.2.2.1.Ad q.2.1.1.d.length q.2.2.1.cd) (.slice q.2.2.1.Ar q.2.1.1.r.length q.2.2.1.cr)) 44::ls F St.new::egF be F.bu F.bb F.L F.D q.2.1.1 q.2.2.1 q.2.2.2.1 q.2.1.2.1 q.2.1.2.2 q.2.2.2.2) (fun q=>q.1≤20∧jH 1 (9*((j:Int)+1)) (20 - q.1) q.2.1=Q (j+1)∧GOk 1 q.2.1.1 q.2.1.2.1 q.2.1.2.2∧q.2.1.2.2.out.length≤160*j+8*q.1∧mH q.2.2.2.2) (fun q=>20 - q.1) (⟨0,(s,U,d),(X,Y,E)⟩) ?_ ?_ ?_ ?_
  ·exact⟨ax _,hQj.symm,hG,ho,hE⟩
  ·exact Zwk
  ·exact Zu
  rintro⟨i,⟨s,U,d⟩,⟨X,Y,E⟩⟩ ⟨hi20,hq,hG,ho,hE⟩;dsimp only at hi20 hq hG ho hE⊢;obtain⟨hd16,hr16, -⟩:=St.fits hG.right;have hcw:=hG.wf.count;have HD:=wH be F.bu F.bb F.L F.D Y s X.Ad X.Ar X.cd X.cr U d (hF▸hG) (by omega) E hE;obtain⟨r1, -, -⟩:=tA (n:=1) (by decide) hG hE.eg;have r3:=oB hG;have hbo:=wT hG;have hstop:=wj (n:=1) (b:=9*((j:Int)+1)) (q:=(s,U,d));have hgo:=AH (n:=1) (b:=9*((j:Int)+1)) (q:=(s,U,d));rw[hF]at HD;obtain⟨⟨⟨s3,U3,d3⟩,G2⟩,hqE⟩:=Zgn (doE 1 s U d E.eng);rw[hqE]at HD r1;dsimp only at r1 hstop hgo;rw[←r1]at r3 hbo hgo;dsimp only at r3 hbo;obtain⟨he16,hf16, -⟩:=St.fits r3.right;refine Z_9 ?_;refine Zyy rfl rfl (cy (dQ rfl) Zv0 Zl) ?_;refine Zyy rfl rfl (iH (Zv rfl) (dQ rfl) (IntWalk.i64_in _ ⟨by omega,by omega⟩)) ?_;refine Zyy rfl rfl (ce rfl rfl (dQ rfl) (show _=9*((j:Int)+1)from u64_wrap_id _ (by omega) (by omega))) ?_;refine Z_4 ?_;refine ZW ?_ ?_<;>intro hc14
  ·obtain⟨h14a,h14b⟩:i<20∧s.count<9*((j:Int)+1):=(by have h:=hc14;simp only[az,ap]at h;omega);refine Z_4 ?_;refine fK ⟨fun j=>List.elem j [10,11],[]⟩ [(0,0),(1,1),(2,0),(3,0),(4,0),(5,1),(6,0),(7,0),(8,0),(9,1),(10,2),(11,2)] Zk Zk ?_;refine cm rfl (da Zv0) rfl ?_;refine iI rfl (cB (vs:=s.cells (.slice X.Ad s.d.length X.cd) (.slice X.Ar s.r.length X.cr)) Zrf Zrf Zv0) (cX Zh rfl) rfl ?_;refine cm rfl (da Zv0) rfl ?_;refine cm rfl (kq Zv0) rfl ?_;refine cm rfl (dr 0 rfl Zv0 Zf) rfl ?_;refine iI rfl (bO Zrf Zv0) (bS Zh rfl) rfl ?_;refine cm rfl (da Zv0) rfl ?_;refine cm rfl (kq Zv0) rfl ?_;refine cm rfl (dr 1 rfl Zv0 Zf) rfl ?_;refine iI rfl (bO Zrf Zv0) (bS Zh rfl) rfl ?_;refine fb rfl ?_;refine ZcS (eoF be F.bu F.bb F.L F.D Y U d E) (fun w hi hin=>HD w hin (fun w' hk=>hi.IS Zi (show Has _ (slD s X.Ad X.cd)from Zh) (show Has _ (slR s X.Ar X.cr)from Zh) (by omega) (by omega) hk) (fun w' hk=>RdV.Ir ht hi Zi hk)) ?_;rintro _ _ ⟨_,⟨X3,Y3,E3,hE3,hE3e,rfl,rfl⟩,rfl⟩;refine fb rfl ?_;refine dI rfl rfl (bY Zrf rfl rfl (iE rfl) Za (by exact rfl)) ZJ ?_;rintro _ _ ⟨rfl,rfl⟩;refine dB ?_;refine Z_4 ?_;refine Zy (cy Zv0 Zv0 Zl) ?_;refine Z_2 ?_;refine cq ((⟨i+1,(s3,U3,d3),(X3,Y3,E3)⟩:Nat×(St×Mmu×Dev)×(hI×jV×EnX))) ?_ ?_ ?_
   ·exact⟨⟨show i+1≤20 by omega,(by have h5:=hgo (aB h14b) (20 - (i+1));rw[show 20 - (i+1)+1=20 - i by omega,hq]at h5;exact h5.symm),r3,show d3.out.length≤160*j+8*(i+1) by omega,hE3⟩,show 20 - (i+1)<20 - i by omega⟩
   ·exact Zwk
   exact Zj
  have hcur:(s,U,d)=Q (j+1):=(Nat.lt_or_ge i 20).elim (fun h20=>(hstop (by have h:=hc14;rw[aB (show(i:Int)<20 by omega),Bool.true_and]at h;exact h) (20 - i)).symm.trans hq) (fun h20=>by obtain rfl:i=20:=(by omega);exact hq);rw[←hcur]at hA;dsimp only at hA;obtain⟨hA1,hA2,hA3,hA4⟩:=hA;refine eu ?_;refine ZSe (fun w hi=>yF F.L U.m 1 (by rw[hF];decide) w (hi.get (show Has _ (eL F.L U.m)from Zh))) ?_;rw[show gB U.m.data 1=(P:Int)%256 from hA1];refine jT ?_;refine Zyn rfl rfl (ce rfl rfl (dQ rfl) (u32_wrap_id _ (by omega) (by omega))) ?_;refine ZB ?_;refine Zyn rfl rfl (cy (dQ rfl) Zv0 Zl) ?_;refine Zyn rfl rfl (ce rfl rfl (dQ rfl) (show _=(j:Int)+1 from u32_wrap_id _ (by omega) (by omega))) ?_;refine ZB ?_;refine Zyn rfl rfl (iH (dQ rfl) (dQ rfl) (show _=(P:Int)from by rw[hjx];exact u32_wrap_id _ (by omega) (by omega))) ?_;refine Zyn rfl rfl (kp (dQ rfl) (Zv rfl) (by omega) (show _=(P:Int)%256 from aW (by omega))) ?_;refine qo ?_;refine bV rfl ((by simp[hA2,hA3])) ?_;refine Z_5 ?_;refine Zy (cy Zv0 Zv0 Zl) ?_;refine Z_2 ?_;refine cq ((⟨j+1,(s,U,d),(X,Y,E)⟩:Nat×(St×Mmu×Dev)×(hI×jV×EnX))) ?_ ?_ ?_
  ·exact⟨⟨show j+1≤K by omega,hcur,hG,show d.out.length≤160*(j+1) by omega,hE⟩,show K - (j+1)<K - j by omega⟩
  ·exact Zwk
  exact Zj
 simp only[aj]at hc11;obtain rfl:j=K:=(by omega);have hfin:s.count=9*(j:Int):=(by obtain⟨i,rfl⟩:∃i,j=i+1:=⟨j - 1,by omega⟩;have h5:=(HA i (by omega)).2.2.2;rw[←hq]at h5;dsimp only at h5;omega);refine eJ ?_;refine Zy (iH Zv0 Zv0 Zl) ?_;refine Zy (ce rfl rfl (Zv rfl) (by first|exact IntWalk.u64_in _ ⟨by omega,by omega⟩|exact rfl)) ?_;refine Zy (qp (Zv rfl) (Zv rfl) (show _=true from by rw[hfin];exact beq_self_eq_true _)) ?_;refine ZA ?_;refine jm (cu rfl rfl) rfl (gU rfl (fun _ _=>rfl) (fun w hi=>oV w (ht.old hi))) rfl ?_;rintro _ _ ⟨_,⟨rfl,rfl⟩,rfl⟩;refine Z_5 ?_;refine Zra ?_;exact⟨rfl,rfl⟩
open Go
set_option maxRecDepth 100000 in
set_option maxHeartbeats 0 in
theorem pV:joinedFacts checked.prog 3 f3 Rows.engineSelfSpec Rows.engineSelfRow=true:=by
 unfold joinedFacts
 repeat refine andI ?_ (by as_aux_lemma=>kernel_rfl)
 as_aux_lemma=>kernel_rfl
set_option maxHeartbeats 0 in
theorem rF:f3.isInstance checked.prog Rows.engineSelfRow.origin Rows.engineSelfRow.targs:=of_decide_eq_true (by kernel_rfl)
set_option maxHeartbeats 0 in
theorem rD:f3.isWrapper checked.prog Rows.engineSelfRow.wrapper Rows.engineSelfRow.mainSum:=of_decide_eq_true (by kernel_rfl)
set_option maxHeartbeats 0 in
theorem pU:checked.prog.funcNamed Rows.engineSelfRow.func=some 3:=by kernel_rfl
theorem jz{W:World}(h:laidMetH prog Rows.engineSelfRow.laid W):mG W:=
 oU (t:=270) (e:=5) (IF:=xk) h (MakeChecks.laidMetH_plain _ _ _ (by as_aux_lemma=>kernel_rfl)) rfl (g:=0) (by as_aux_lemma=>kernel_rfl) (by as_aux_lemma=>kernel_rfl) (by as_aux_lemma=>kernel_rfl) (by as_aux_lemma=>kernel_rfl) (by as_aux_lemma=>kernel_rfl) rfl (by simp only[maxLen];omega)
theorem ov(os:Os)(args:Array Value):laidMetH prog Rows.engineSelfRow.laid ((World.doorLaid prog 400 os).forCall (fun _ _=>0) ⟨#[],args,[]⟩).memory:=
 laidMetH_of_parts3 (fuel:=8) (laidMet_of_run' 8 (by as_aux_lemma=>kernel_rfl) (by as_aux_lemma=>kernel_rfl)) (by as_aux_lemma=>kernel_rfl) (by as_aux_lemma=>kernel_rfl)
set_option maxRecDepth 100000 in
theorem pf(os:Os)(started:os.Started)(H:Type)(enc:TypeId×Value→H):
  ReturnsInHanded {} checked os 3 .any (fun w args=>(Rows.engineSelfSpec.pre enc prog f3 [] false w args∧laidMetH prog Rows.engineSelfRow.laid w)∧sizedMet enc prog f3 (OpenSpec.ofChange Rows.engineSelfSpec) false w args) (Rows.engineSelfSpec.post enc prog f3 false true false false):=
 qL (C:=checked) (ts:=[3,22]) own0 started (by as_aux_lemma=>kernel_rfl) func3
  (ChangeSpec.witness_shaped (enc:=enc) (C:=checked) (os:=os) (X:=fun w _=>laidMetH prog Rows.engineSelfRow.laid w) false (World.doorLaid prog 400 os) #[.int .i64 0,.int .u32 0] 8 rfl (World.shaped_of_RefB (by as_aux_lemma=>kernel_rfl) (by as_aux_lemma=>kernel_rfl)) (by as_aux_lemma=>kernel_rfl) (by as_aux_lemma=>kernel_rfl) (by as_aux_lemma=>kernel_rfl) (ov os _))
  rfl rfl rfl rfl (fun ds h=>by match ds,h with|[_,_],_=>rfl) F2 (by as_aux_lemma=>kernel_rfl) (fun W vs h hx=>by
   have ht:=jz hx;obtain⟨v0,_,rfl,a0,v1,_,rfl,a1,rfl⟩:=h;obtain⟨n0,rfl,w0⟩:=a0.int (k:= .i64) rfl;obtain⟨n1,rfl,w1⟩:=a1.int (k:= .u32) rfl;exact u9 (uV n0 n1 (yl w1) W ht))
set_option maxHeartbeats 0 in
theorem rE:Rows.EngineSelfSaid:=
 OpenClaim.holds_of_wide 3 f3 rfl rfl rfl rfl rfl rfl rfl ⟨rfl,rfl,rfl,rfl,rfl⟩ rfl rfl rfl rfl rfl pU func3 pV rF rD
  (fun os started H enc _=>pf os started H enc)
set_option maxHeartbeats 0 in
theorem engineSelf_holds:Rows.EngineSelfCardSaid:=
 Claim7.holds_tied_plain_at .later [] [.data] true Rows.engineSelfCard.stood.harness false
  rE (fun _ h=>by cases h) (by as_aux_lemma=>kernel_rfl) (fun _ h=>by cases h) engineSelf_row_tie rfl ⟨rfl,rfl⟩ (by as_aux_lemma=>kernel_rfl) rfl
  (fun f fn hf hfn=>by
   obtain rfl:f=3:=aG ((show prog.funcNamed "innkeeper/innkeeperlaw24.EngineSelf" =some 3 by as_aux_lemma=>kernel_rfl).symm.trans hf)|>.symm
   obtain rfl:fn=f3:=(aG (func3.symm.trans hfn)).symm;exact⟨by as_aux_lemma=>kernel_rfl,fun j t ht=>by
    have hm:t∈f3.params.toList:=by simpa using Array.mem_of_getElem? ht
    have hall:(f3.params.toList.all fun u=> !prog.wantsStandIn u)=true:=by as_aux_lemma=>kernel_rfl
    exact(show prog.wantsStandIn t=false by simpa using bo.1 hall t hm)⟩)
  (by as_aux_lemma=>kernel_rfl)
#print axioms engineSelf_holds
end Go.Proofs.YtakodpimdalajaaGreatDoor
