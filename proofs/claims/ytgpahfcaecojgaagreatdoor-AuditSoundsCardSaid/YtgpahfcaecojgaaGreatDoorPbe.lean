/- For every input the law AuditSounds answers true and leaves every argument as it was; the table of math/bits is what the program's text lays (the card ties it); no other condition. -/
import Derived.Test.YtgpahfcaecojgaaGreatDoorPbd
import Derived.JoinedOf
import Derived.Test.YtgpahfcaecojgaaGreatDoorCards
import Derived.Test.YtgpahfcaecojgaaGreatDoorTie
import Derived.SevenTiedAt
import Derived.Test.YtgpahfcaecojgaaGreatDoorPbeF
set_option linter.all false
set_option maxRecDepth 100000
set_option maxHeartbeats 4000000
namespace Go.Ink
open Go.RowKit
variable{xs:List Value}
theorem MZ{w:World}{e sz n c m:Nat}{A:Oa}(h:(slv e sz A n c xs).ok w)(hm:m<=n):(slv e sz A m c (xs.take (m*sz))).ok w:=by
 obtain⟨h1,h2⟩:=h;have hb:=Nat.mul_le_mul_right sz hm;refine⟨by rw[aD,h1];omega,?_⟩;rcases h2 with⟨hv,h0⟩|⟨g,cap,cur,hv,hg,hh,hnc,hcm,hcs,htk⟩
 .cases hv
  exact .inl ⟨by rw[show m=0 by omega],by omega⟩
 simp only[Value.slice.injEq]at hv;obtain⟨rfl, -,rfl⟩:=hv;refine .inr ⟨g,_,cur,rfl,hg,hh,by omega,hcm,hcs,?_⟩;rw[<-htk,List.take_take,Nat.min_eq_left hb]
theorem wl_cutZ{C:Cx}{ops:Array Oper}{Q:lF}{fr:Fr}{cs:List bJ}{mk:bJ->List bJ}{e sz n c m:Nat}{A:Oa}{l:List Oper}(hu:At cs (slv e sz A n c xs) mk)(hm:m<=n)(h:WL C ops Q l fr (mk (slv e sz A m c (xs.take (m*sz))))):WL C ops Q l fr cs:=λa w hf hi=>h a w hf (hi.conv hu rfl (λq=>MZ q hm))
end Go.Ink
namespace Go.Proofs.YtgpahfcaecojgaaGreatDoor
open Go.RowKit Go.Ink Go.Proofs.Tryz
attribute [local irreducible] OpY bN
theorem JA{n:Nat}(h:n<=4):dF (n:Int) 0 3<=(n:Int):=by
 obtain rfl|rfl|rfl|rfl|rfl:n=0\/n=1\/n=2\/n=3\/n=4:=by omega
 all_goals decide
def capS(g:Nat)(x:ItR):ItR:=⟨x.kind,dF x.Wq 0 ((g:Int) - 1),dF x.n 0 40,x.A,x.c,x.b⟩
abbrev sQ(b:Nat):Im:=⟨some ⟨b,0,none⟩,2,[1,5],none,0,[],2⟩
theorem tail_u8:u8s [1,5]:=λx hx=>by
 simp only[aJ,List.not_mem_nil,or_false]at hx;omega
theorem MM(b:Nat):(sQ b).WO:=⟨tail_u8,fa,(show 2<=2048 by decide),by simp[Im.Xq],(show(1:Int)<=2 by decide),(show(2:Int)<=16 by decide)⟩
theorem DY{l:Li}(h:l≠[]):¬xJ (l++l):=by
 obtain⟨x,r,rfl⟩:∃x r,l=x::r:=by
  cases l with
  |nil=>exact absurd rfl h
  |cons x r=>exact⟨x,r,rfl⟩
 exact Ge (pre:=x::r) (post:=r) (.inr (.head _))
theorem DZ{x:Int}{r:Li}:¬xJ ((x::r)++[x]):=Ge (pre:=x::r) (post:=[]) (.inr (.head _))
theorem yj(A B C0:Oa)(c e d0:Nat)(l:List BoR)(its:List ItR)(f:Li)(w:World)(h:RdV w 3 A l.length c (l.flatMap BoR.cells))(hl:∀a,a∈l->a.ok w)(h2:RdV w 4 B its.length e (its.flatMap ItR.cells))(hit:∀x,x∈its->x.okN w)(hf:Rd w .i64 C0 f.length d0 f)(hfl:f.length<=17592186043904)(ht:fc w):
  CW prog 6 [.slice A l.length c,.slice B its.length e,.slice C0 f.length d0] w (.bool true):=by
 refine Zfs func6 ntmps6 ?_;refine ng ?_;refine cY 59 3 (fg (Z_4 ?_));refine wLo (λq:DS=>[(0,.slice A l.length c),(1,.slice B its.length e),(2,.slice C0 f.length d0),(7,.slice q.A q.L.length q.c),(8,.i (q.i:Int))]) (λq=>[imC q.A q.c q.L,bP q.J]) (λq=>q.i<=4/\q.i<=l.length/\q.L.length=q.i/\ImN l q.L q.J) (λq=>4 - q.i) ((⟨0,[],none,0,[]⟩:DS)) ⟨ap _,ap _,rfl,⟨(λx hx=>by cases hx),(λw _ _ x hx=>by cases hx)⟩⟩ ?_;rintro⟨i,L,A1,c1,J⟩ ⟨hi5,hil,hLi,hI⟩;dsimp only at hi5 hil hLi hI|-;refine yk ?_ ?_<;>intro hc3
 .have hc3':i<l.length/\i<4:=Wq433;obtain⟨hkl,hk5⟩:=hc3';obtain⟨ad,rfl⟩:=h.some_ Wq1;obtain⟨a,hla⟩:∃a,l[i]? =some a:=⟨_,ae hkl⟩;have ham:=ak hla;have hao:=hl a ham;refine Z_4 ?_;refine Wq149 ?_;rintro _ _ ⟨_,⟨A2,c2,E,E2,N,⟨hE1,hn,hE2⟩,rfl,rfl⟩,rfl⟩;refine GL ?_;rintro _ _ ⟨b40,rfl,rfl⟩;refine fT ?_;refine jG rfl rfl (bV (e:=59) (sz:=3) (bytes:=56) rfl rfl Za rfl rfl (λw hi=>hi.rd (Zhc (slv 59 3 (sA b40) 1 1 (Im.cells ⟨A2,c2,E.take (N*64),a.B,a.e,a.k.take 1024,(N:Int)⟩)))) (pC ⟨A2,c2,E.take (N*64),a.B,a.e,a.k.take 1024,(N:Int)⟩) Wq9 Wq1) ZJ rfl ?_;rintro _ _ ⟨A3,c3,rfl,rfl⟩;rw[(mv (L:=L) (x:=⟨A2,c2,E.take (N*64),a.B,a.e,a.k.take 1024,(N:Int)⟩)).1,(mv (L:=L) (x:=⟨A2,c2,E.take (N*64),a.B,a.e,a.k.take 1024,(N:Int)⟩)).2];refine Wq342 ?_;refine qMP ((⟨i+1,L++[(⟨A2,c2,E.take (N*64),a.B,a.e,a.k.take 1024,(N:Int)⟩:Im)],A3,c3,[sl .u8 5 A2 E.length c2 E,bP J]⟩:DS)) ⟨⟨show i+1<=4 by omega,show i+1<=l.length by omega,by rw[aj,hLi];rfl,hI.snoc ham hao.bs hE1 hn⟩,show 4 - (i+1)<4 - i by omega⟩
 refine Z_7 ?_;refine dU (λw hi=>(hi.rd (Zhc (imC A1 c1 L))).cap) (λhcapL=>?_);have HW:=λw=>eU (L.length:Int) 0 3 w bX bX bX
 have hrg:=fU (L.length:Int) 0 3 bX;have hle:=JA (n:=L.length) Wq1;obtain⟨k,hk⟩:∃k:Nat,dF (L.length:Int) 0 3=k:=ao hrg.1;rw[hk]at HW hrg hle;refine Z_3 ?_;refine ZSe (λw hi=>HW w) ?_;refine Qo ?_;refine jD ?_;rintro _ _ ⟨b47,rfl,rfl⟩;refine ZA ?_;refine pZ ?_;rintro _ _ ⟨b49,rfl,rfl⟩;refine wl_cutZ (m:=k) (show At _ (imC A1 c1 L) _ from Za) Wq1 ?_;rw[<-Gf Im.V8];have hkl2:(L.take k).length=k:=ri;refine fo (bV (e:=59) (sz:=3) (bytes:=56) rfl rfl Za rfl rfl (λw hi=>hi.rd (Zhc (slv 59 3 (sA b49) 1 1 (sQ b47).cells))) (pC (sQ b47)) Wq9 Wq1) rfl ?_;rintro _ _ ⟨A6,c6,rfl,rfl⟩;have hL1:k+1=(L.take k++[sQ b47]).length:=(by rw[aj,hkl2];rfl);have hL2:=(mv (L:=L.take k) (x:=sQ b47)).2;rw[hL1,hL2];have hgood:∀x,x∈L.take k++[sQ b47]->x.WO:=(λx hx=>by rcases az.1 hx with q|q;exact hI.WO x (aB q);rw[aC.1 q];exact MM b47);have hrdL:∀w:World,(∀a,a∈l->Rd w .u8 a.B a.k.length a.e a.k)->(bP J).ok w->Rd w .u8 (sA b47) 2 2 [1,5]->∀x,x∈L.take k++[sQ b47]->x.rd w:=(λw q1 q2 q3 x hx=>by rcases az.1 hx with q|q;exact hI.rd w q1 q2 x (aB q);rw[aC.1 q];exact⟨q3,nH w .u8⟩);obtain⟨M,hM⟩:=Zgn (L.take k++[sQ b47]);rw[hM]at hL1 hgood hrdL|-;have hM4:M.length<=4:=Wq1;have hM1:1<=M.length:=Wq1;have hboot:=pK hM1 hM4 hgood;have hg3:=oP hgood;refine Z_6 ?_;refine ZSn (λw hi=>uP hboot hg3 (hi.rd (Zhc (imC A6 c6 M))) (hrdL w (λa ha=>(hl a ha).dk.Wh hi) (hi.get (Zhc (bP J))) (hi.rd (Zhc (slv 5 1 (sA b47) 2 2 (ints .u8 [1,5])))))) ?_;rintro _ _ ⟨bm,m,⟨hm,hlm⟩,rfl,rfl⟩;refine EU ?_;refine fF (bQ rfl rfl) rfl (dN (eE bm m) rfl (λ_ _=>rfl) Zi (λw hi hin=>z9 bm m 0 hm w hin)) rfl ?_;rintro _ _ ⟨_,⟨rfl,rfl⟩,rfl⟩;refine Z_4 ?_;refine kv ?_;refine Z_5 ?_;refine eY (eE bm m) Zj (Z_4 ?_);refine wLo (λq:Nat×Mon=>[(1,.slice B its.length e),(2,.slice C0 f.length d0),(7,.slice A6 M.length c6),(9,.p bm),(11,.i (q.1:Int))]) (λq=>eE bm q.2) (λq=>q.1<=20/\q.2.ok (80000*q.1)) (λq=>20 - q.1) ((⟨0,m⟩:Nat×Mon)) ⟨ap _,hm⟩ ?_;rintro⟨j,m⟩ ⟨hj20,hm⟩;dsimp only at hj20 hm|-;refine yk ?_ ?_<;>intro hc11
 .have hc11':j<its.length/\j<20:=(by simp only[au,ac]at hc11;omega);obtain⟨hjt,hj2⟩:=hc11';obtain⟨ad2,rfl⟩:=h2.some_ Wq1;obtain⟨x,hx⟩:∃x,its[j]? =some x:=⟨_,ae hjt⟩;have hxo:=hit x (ak hx);have hbc:=hxo.o.rd.cap;have hbm:=hxo.o.rd.max;unfold maxLen at hbm;have HN:=λw=>eU x.n 0 40 w bX bX bX
  have HG:=λw=>eU x.Wq 0 ((M.length:Int) - 1) w bX Wq1 Wq1
  have hnr:=fU x.n 0 40 bX;have HD:=Ic bm m (80000*j) hm Wq1 (capS M.length x) hxo.o.bs (show x.b.length<=9223372036854775807 by omega) (show -9223372036854775808<=dF x.n 0 40 by omega);have hxr:=hxo.o.rd;obtain⟨kd,g,n,xA,xc,xb⟩:=x;dsimp only at HN HG hxr;refine Wq420 ?_;refine ZN λb12=>?_
  refine jj ?_;refine ZSe (λw hi=>HN w) ?_;refine iJ ?_;refine Z_8 ?_;refine pd ?_;refine ZSe (λw hi=>HG w) ?_;refine iJ ?_;refine xv ?_;rintro _ _ ⟨b94,rfl,rfl⟩;refine dy (eE bm m) (λw hi hin=>HD (sA b94) 1 w hin (λw' hk=>hi.WZ Zi (Zhc (slv 41 4 (sA b94) 1 1 (capS M.length ⟨kd,g,n,xA,xc,xb⟩).cells)) hk) (λw' hk=>RdV.Wm hxr hi Zi hk) (λw' hk=>RdV.Wm ht hi Zi hk)) ?_;rintro _ _ ⟨m2,Y,bz,cz,J2,⟨hm2, -, -⟩,rfl,rfl⟩;refine Z_5 ?_;refine ZcM (eE bm m2) (λw hi hin=>z9 bm m2 _ hm2 w hin) ?_;refine iX ?_;refine lI ?_;refine qMP ((⟨j+1,m2⟩:Nat×Mon)) ⟨⟨show j+1<=20 by omega,hm2.le Wq1⟩,show 20 - (j+1)<20 - j by omega⟩
 refine yk ?_ ?_<;>intro hc19
 .refine Z_2 ?_;refine ZSe (λw hi=>oO w) ?_;exact xy
 obtain⟨x,r,rfl⟩:∃x r,f=x::r:=(by cases f with|nil=>exact absurd hc19 bX|cons x r=>exact⟨x,r,rfl⟩);have hf1:=hf.cap;have hf2:=hf.max;unfold maxLen at hf2;obtain⟨fd,rfl⟩:=hf.some_ (show 0<(x::r).length by exact Nat.succ_pos _);refine Z_3 ?_;refine bU (Zdn [8,13]) Zk (pP ?_);refine cW 2 Zk (EA ?_);rintro _ _ ⟨b105,rfl,rfl⟩;refine cW 3 Zk (ZTn (λw hi=>ku (sA b105) 2 [⟨some fd,d0,x::r⟩,⟨some fd,d0,x::r⟩] w (hi.rd (Zhc (slv 72 1 (sA b105) 2 2 [.slice (some fd) (x::r).length d0,.slice (some fd) (x::r).length d0]))) (λy hy=>by simp only[aJ,aY,or_false]at hy;rcases hy with rfl|rfl;exact hf.Wh hi;exact hf.Wh hi)) ?_);rintro _ _ ⟨⟨q,rfl,hq⟩,rfl⟩;obtain rfl:q=false:=(by cases q with|false=>rfl|true=>exact absurd (hq.1 rfl) (by rw[show([⟨some fd,d0,x::r⟩,⟨some fd,d0,x::r⟩]:List ISl).flatMap ISl.l=(x::r)++(x::r)from by simp];exact DY cP));refine ZE 4 ?_;refine ZE 5 ?_;refine ZF 7 ?_;refine ZF 9 ?_;refine Zy6 10 rfl (bS rfl rfl) (cC (j:=0) rfl Zrf (cA rfl) (Zv rfl) Wq2 (λ_=>Nat.succ_pos _)) ?_;refine kW 6 11 Zk ?_ ?_
 .refine VZ ?_;rintro _ _ ⟨b109,rfl,rfl⟩;refine kW 8 11 Zk ?_ ?_
  .refine Wq80 ?_;rintro _ _ ⟨A9,c9,rfl,rfl⟩;rw[Nat.zero_add,aR];have hxl9:(x::r).length+1=(x::r++[x]).length:=(by rw[aj];rfl);refine cW 11 Zk (Wq395 ?_);exact cW 12 Zk Wq261
  refine Wq395 ?_;refine kW 8 12 Zk ?_ ?_
  .exact Wq318
  refine VZ ?_;rintro _ _ ⟨b115,rfl,rfl⟩;exact Wq425
 refine Wq395 ?_;refine kW 6 12 Zk ?_ ?_
 .refine VZ ?_;rintro _ _ ⟨b109,rfl,rfl⟩;refine kW 8 12 Zk ?_ ?_
  .exact Wq318
  refine VZ ?_;rintro _ _ ⟨b115,rfl,rfl⟩;exact Wq425
 refine VZ ?_;rintro _ _ ⟨b115,rfl,rfl⟩;refine cW 6 Zk (VZ ?_);rintro _ _ ⟨b109,rfl,rfl⟩;exact Wq425
open Go
theorem dm{W:World}(h:laidMetH prog Rows.auditSoundsRow.laid W):fc W:=
 fV (t:=318) (e:=5) (WE:=qf) h (MakeChecks.laidMetH_plain _ _ _ Wq4) rfl (g:=0) Wq4 Wq4 Wq4 Wq4 Wq4 rfl Wq9
theorem eP(os:Os)(args:Array Value):laidMetH prog Rows.auditSoundsRow.laid ((World.doorLaid prog 400 os).forCall (λ_ _=>0) ⟨#[],args,[]⟩).memory:=
 laidMetH_of_parts3 (fuel:=8) (laidMet_of_run' 8 Wq4 Wq4) Wq4 Wq4
set_option maxRecDepth 100000 in
theorem q9(os:Os)(started:os.Started)(H:Type)(enc:TypeId×Value->H):
  ReturnsInHanded {} checked os 6 .any (λw args=>(Rows.auditSoundsSpec.pre enc prog f6 [] false w args/\laidMetH prog Rows.auditSoundsRow.laid w)/\sizedMet enc prog f6 (OpenSpec.ofChange Rows.auditSoundsSpec) false w args) (Rows.auditSoundsSpec.post enc prog f6 false true false false):=
 hH (C:=checked) (ts:=[57,24,72]) QL started Wq4 func6
  (ChangeSpec.witness_shaped (enc:=enc) (C:=checked) (os:=os) (X:=λw _=>laidMetH prog Rows.auditSoundsRow.laid w) false (World.doorLaid prog 400 os) #[.slice none 0 0,.slice none 0 0,.slice none 0 0] 8 rfl (World.shaped_of_RefB Wq4 Wq4) Wq4 Wq4 Wq4 (eP os _))
  rfl rfl rfl rfl (λds h=>by match ds,h with|[_,_,_],_=>rfl) wm Wq4 (λW vs h hx=>by
   have ht:=dm hx;obtain⟨v0,_,rfl,a0,v1,_,rfl,a1,v2,_,rfl,a2,rfl⟩:=h;obtain⟨A,c,l,rfl,hl,hr⟩:=sW a0;obtain⟨B,cb,b,rfl,h2,hi2⟩:=ix a1;obtain⟨D,cd,d,rfl,h3,hsz, -⟩:=a2.ints (e:=3) (k:= .i64) rfl rfl rfl;exact jk (yj A B D c cb cd l b d W hl hr h2 hi2 h3 (by have h9:cd*8<=140737488351232:=hsz;have h8:=h3.cap;omega) ht))
set_option maxHeartbeats 0 in
theorem uc:Rows.AuditSoundsSaid:=
 OpenClaim.holds_of_wide 6 f6 rfl rfl rfl rfl rfl rfl rfl ⟨rfl,rfl,rfl,rfl,rfl⟩ rfl rfl rfl rfl rfl sB func6 sC ud tZ
  (λos started H enc _=>q9 os started H enc)
set_option maxHeartbeats 0 in
theorem auditSounds_holds:Rows.AuditSoundsCardSaid:=
 Claim7.holds_tied_plain_at .later [] [.data] true Rows.auditSoundsCard.stood.harness false
  uc (λ_ h=>by cases h) Wq4 (λ_ h=>by cases h) auditSounds_row_tie rfl ⟨rfl,rfl⟩ Wq4 rfl
  (λf fn hf hfn=>by
   obtain rfl:f=6:=ay ((show prog.funcNamed "innkeeper/innkeeperlaw27.AuditSounds" =some 6 by as_aux_lemma=>kernel_rfl).symm.trans hf)|>.symm
   obtain rfl:fn=f6:=(ay (func6.symm.trans hfn)).symm;exact⟨by as_aux_lemma=>kernel_rfl,λj t ht=>by
    have hm:t∈f6.params.toList:=by simpa using Array.mem_of_getElem? ht
    have hall:(f6.params.toList.all λu=> !prog.wantsStandIn u)=true:=by as_aux_lemma=>kernel_rfl
    exact(show prog.wantsStandIn t=false by simpa using aQ.1 hall t hm)⟩)
  Wq4
#print axioms auditSounds_holds
end Go.Proofs.YtgpahfcaecojgaaGreatDoor
