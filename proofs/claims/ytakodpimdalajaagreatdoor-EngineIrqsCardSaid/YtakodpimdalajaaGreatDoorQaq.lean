/- Lemmas. -/
import Derived.Test.YtakodpimdalajaaGreatDoorQaa
import Derived.Test.YtakodpimdalajaaGreatDoorQab
import Derived.Test.YtakodpimdalajaaGreatDoorQal
import Derived.Test.YtakodpimdalajaaGreatDoorQap
set_option linter.unusedSimpArgs false
set_option linter.unusedVariables false
set_option maxRecDepth 100000
set_option maxHeartbeats 4000000
namespace Go.Proofs.YtakodpimdalajaaGreatDoor
open Go.RowKit Go.Ink Go.Proofs.Tryz
attribute [local irreducible] OpY bU
theorem ww(op:Int)(w:World):Ctr prog 162 [.int .i64 op] w [] (fun v cs=>v= .bool (dA op)∧cs=[]):=by
 refine bL func162 rfl ntmps162 rfl (Inv.start w) ?_;refine GV ?_;refine ZW ?_ ?_<;>intro hc1
 ·refine Z_2 ?_;refine cn rfl (hc1) ?_;refine Z_8 ?_;refine Zra ?_;refine⟨?_,rfl⟩;unfold dA;cases h1:decide (0≤op)<;>cases h2:decide (op≤8)<;>cases h3:decide (16≤op)<;>cases h4:decide (op≤25)<;>cases h5:(op !=24)<;>cases h6:decide (32≤op)<;>cases h7:decide (op≤40)<;>simp_all<;>omega
 refine eJ ?_;refine ZW ?_ ?_<;>intro hc2
 ·refine Z_8 ?_;refine Zra ?_;refine⟨?_,rfl⟩;unfold dA;cases h1:decide (0≤op)<;>cases h2:decide (op≤8)<;>cases h3:decide (16≤op)<;>cases h4:decide (op≤25)<;>cases h5:(op !=24)<;>cases h6:decide (32≤op)<;>cases h7:decide (op≤40)<;>simp_all<;>omega
 refine GV ?_;refine Zra ?_;refine⟨?_,rfl⟩;unfold dA;cases h1:decide (0≤op)<;>cases h2:decide (op≤8)<;>cases h3:decide (16≤op)<;>cases h4:decide (op≤25)<;>cases h5:(op !=24)<;>cases h6:decide (32≤op)<;>cases h7:decide (op≤40)<;>simp_all<;>omega
abbrev usF(b:Nat)(A:Option Addr)(c N:Nat)(U:List Bool):List bJ:=[row b [.slice A N c] 145,slv 4 1 A N c (U.map Value.bool)]
theorem nC(b:Nat)(A:Option Addr)(c N:Nat)(U:List Bool)(hN:U.length=N)(B:Option Addr)(cb:Nat)(l:List Int)(hl:l.length≤1000)(hin:∀n,n∈l→n≠ -1→0≤n∧n.toNat<U.length)(w:World)(hi:Inv w (bK (usF b A c N U)) (usF b A c N U) w)(hR:∀w',dR (bK (usF b A c N U)) w w'→Rd w' .i64 B l.length cb l):
  Ctr prog 217 [.slice B l.length cb,.pointer (some ⟨b,0,none⟩)] w (usF b A c N U) (fun _ cs=>cs=usF b A c N (iz U l)):=by
 refine bL func217 rfl ntmps217 rfl hi ?_;refine Z_8 ?_;refine cG (fun q:Nat×List Bool=>[(1,.pointer (some ⟨b,0,none⟩)),(5,.slice B l.length cb),(6,.int .i64 l.length),(7,.int .i64 (q.1:Int))]) (fun q=>usF b A c N q.2) (fun q=>q.1≤l.length∧q.2.length=U.length∧iz q.2 (l.drop q.1)=iz U l) (fun q=>l.length - q.1) (⟨0,U⟩) ?_ ?_ ?_ ?_
 ·exact⟨ax _,rfl,rfl⟩
 ·exact Zwk
 ·exact Zu
 rintro⟨k,V⟩ ⟨hk,hV,hM⟩;dsimp only at hk hV hM⊢;refine Z_6 ?_;refine ZW ?_ ?_<;>intro hc1
 ·simp only[ap]at hc1;have hkl:k<l.length:=(by omega);obtain⟨ad,had⟩:=(hR w (dR.refl _ _)).some_ (by omega);have hR2:∀w',dR (bK (usF b A c N U)) w w'→RdV w' 1 (some ad) l.length cb (ints .i64 l):=(fun w' hk=>had▸hR w' hk);obtain⟨x,hx⟩:∃x,l[k]? =some x:=⟨_,ao hkl⟩;have hxi:=hin x (aJ hx);rw[jd hx]at hM;have hM:iz (bif x != -1 then V.set x.toNat true else V) (l.drop (k+1))=iz U l:=hM;refine Z_6 ?_;refine Zy (eQ (j:=k) had rfl Zrf Zv0 Zv0 Zrf (fun _=>hkl)) ?_;refine dX (bO Zrf Zv0) (jo (v:= .int .i64 x) hR2 (cZ hx)) rfl ?_;refine Z_9 ?_;refine ZW ?_ ?_<;>intro hc3
  ·rw[hc3,ac]at hM;obtain⟨hx0,hx1⟩:=hxi (by simpa using hc3);obtain⟨n,rfl⟩:∃n:Nat,x=n:=ar hx0;rw[aQ]at hx1 hM;obtain⟨bs,rfl⟩:=fu (hi.get (show Has _ (slv 4 1 A N c (U.map Value.bool))from Zh)) (by omega);refine Z_3 ?_;refine Zy (cC (bb:=bs) (o:=0) (n:=N) (c:=c) (j:=n) (sz:=1) (r:=n) rfl Zrf (Zv rfl) (Zv rfl) Zrf (fun _=>by omega) (by omega)) ?_;refine dy (fL Zrf rfl rfl rfl Za (by omega)) ?_;rintro _ _ ⟨rfl,rfl⟩;rw[←List.map_set];refine Z_4 ?_;refine Zy (cy Zv0 Zv0 Zl) ?_;refine Z_2 ?_;refine cq ((⟨k+1,V.set n true⟩:Nat×List Bool)) ?_ ?_ ?_
   ·exact⟨⟨by omega,by dsimp only;rw[aI,hV],hM⟩,by dsimp only;omega⟩
   ·exact Zwk
   exact Zj
  rw[hc3,aa]at hM;refine Z_4 ?_;refine Zy (cy Zv0 Zv0 Zl) ?_;refine Z_2 ?_;refine cq ((⟨k+1,V⟩:Nat×List Bool)) ?_ ?_ ?_
  ·exact⟨⟨by omega,hV,hM⟩,by dsimp only;omega⟩
  ·exact Zwk
  exact Zj
 simp only[aj]at hc1;obtain rfl:k=l.length:=by omega
 rw[List.drop_length]at hM;have hM:V=iz U l:=hM;subst hM;refine Z_4 ?_;refine fE (cs':=usF b A c N (iz U l)) (.inr rfl) Zu rfl ?_
 rfl
abbrev plF(b:Nat)(A:Option Addr)(c N:Nat)(pl:List Int):List bJ:=[row b [.slice A N c] 66,sl .i64 3 A N c pl]
theorem mf(b:Nat)(A:Option Addr)(c N:Nat)(pl:List Int)(hN:pl.length=N)(B:Option Addr)(cb:Nat)(l:List Int)(hl:l.length≤1000)(hin:∀n,n∈l→0≤n∧n.toNat<pl.length)(w:World)(hi:Inv w (bK (plF b A c N pl)) (plF b A c N pl) w)(hR:∀w',dR (bK (plF b A c N pl)) w w'→Rd w' .i64 B l.length cb l):
  Ctr prog 218 [.slice B l.length cb,.pointer (some ⟨b,0,none⟩)] w (plF b A c N pl) (fun v9 cs=>∃A' c',v9= .slice A' (cP pl l).length c'∧cs=plF b A c N pl++[sl .i64 3 A' (cP pl l).length c' (cP pl l)]):=by
 refine bL func218 rfl ntmps218 rfl hi ?_;refine jT ?_;refine dC 3 1 ?_;refine Z_6 ?_;refine cG (fun q:Nat×List Int×Option Addr×Nat=>[(1,.pointer (some ⟨b,0,none⟩)),(4,.slice q.2.2.1 q.2.1.length q.2.2.2),(7,.slice B l.length cb),(8,.int .i64 l.length),(9,.int .i64 (q.1:Int))]) (fun q=>[row b [.slice A N c] 66,sl .i64 3 A N c pl,sl .i64 3 q.2.2.1 q.2.1.length q.2.2.2 q.2.1]) (fun q=>q.1≤l.length∧q.2.1=cP pl (l.take q.1)) (fun q=>l.length - q.1) (⟨0,[],none,0⟩) ?_ ?_ ?_ ?_
 ·exact⟨ax _,rfl⟩
 ·exact Zwk
 ·exact Zu
 rintro⟨k,m,A1,c1⟩ ⟨hk,hm⟩;dsimp only at hk hm⊢;have hml:m.length=k:=(by rw[hm];unfold cP;rw[List.length_map,aF];omega);refine Z_6 ?_;refine ZW ?_ ?_<;>intro hc3
 ·simp only[ap]at hc3;have hkl:k<l.length:=(by omega);obtain⟨ad,had⟩:=(hR w (dR.refl _ _)).some_ (by omega);have hR2:∀w',dR (bK (plF b A c N pl)) w w'→RdV w' 1 (some ad) l.length cb (ints .i64 l):=(fun w' hk=>had▸hR w' hk);obtain⟨x,hx⟩:∃x,l[k]? =some x:=⟨_,ao hkl⟩;obtain⟨hx0,hx1⟩:=hin x (aJ hx);obtain⟨n,rfl⟩:∃n:Nat,x=n:=ar hx0;rw[aQ]at hx1;obtain⟨bs,rfl⟩:=fu (hi.get (show Has _ (sl .i64 3 A N c pl)from Zh)) (by omega);have hm2:cP pl (l.take (k+1))=m++[pl.getD n 0]:=(by rw[List.take_add_one,hx,hm];unfold cP;rw[List.map_append];rfl);refine Z_6 ?_;refine Zy (eQ (j:=k) had rfl Zrf Zv0 Zv0 Zrf (fun _=>hkl)) ?_;refine dX (bO Zrf Zv0) (jo (v:= .int .i64 n) hR2 (cZ hx)) rfl ?_;refine Z_7 ?_;refine Zy (cC (bb:=bs) (o:=0) (n:=N) (c:=c) (j:=n) (sz:=1) (r:=n) rfl Zrf (Zv rfl) (Zv rfl) Zrf (fun _=>by omega) (by omega)) ?_;refine dX (bO Zrf Zv0) (dH Zh (eG hx1)) rfl ?_;refine dJ (bZ rfl rfl Zrf Zrf rfl rfl) rfl ?_;rintro _ _ ⟨b18,rfl,rfl⟩;refine dJ (cW (n:=m.length) (e:=3) (sz:=1) (bytes:=8) rfl rfl Za rfl rfl (fun w hi=>hi.rd (show Has _ (slv 3 1 (some ⟨b18,0,none⟩) 1 1 (ints .i64 [pl.getD n 0]))from Zh)) cY (by simp only[maxLen];omega) (by omega)) rfl ?_;rintro _ _ ⟨A2,c2,rfl,rfl⟩;rw[cH,show m.length+1=(m++[pl.getD n 0]).length by simp];refine Z_5 ?_;refine Zy (cy Zv0 Zv0 Zl) ?_;refine Z_2 ?_;refine cq ((⟨k+1,m++[pl.getD n 0],A2,c2⟩:Nat×List Int×Option Addr×Nat)) ?_ ?_ ?_
  ·exact⟨⟨by omega,hm2.symm⟩,by dsimp only;omega⟩
  ·exact Zwk
  exact Zj
 simp only[aj]at hc3;obtain rfl:k=l.length:=by omega
 rw[bG]at hm;subst hm;refine gQ ?_;refine Zrb ([row _ _ _,slv _ _ _ _ _ _,slv _ _ _ _ _ _]) ?_;exact⟨_,_,rfl,rfl⟩
end Go.Proofs.YtakodpimdalajaaGreatDoor
namespace Go.Ink
open Go.RowKit
theorem vr{U:List Bool}{j:Nat}(h:j<U.length):(U.map Value.bool)[j]? =some (.bool (U.getD j false)):=by simp[ao h]
end Go.Ink
namespace Go.Proofs.YtakodpimdalajaaGreatDoor
open Go.RowKit Go.Ink Go.Proofs.Tryz
attribute [local irreducible] OpY bU
abbrev pg0(b:Nat):bJ:=row b [.slice none 0 0,.int .i64 0,.int .i64 0,.int .i64 0,.int .i64 0,.slice none 0 0,.slice none 0 0,.int .i64 0,.int .u32 0,.int .i64 0,.int .i64 0,.int .u32 0,.int .i64 0,.int .i64 0] 236
theorem EY(p:Pg)(Q:PAd)(hraw:Raw p)(hv:p.values=p.code.length)(hm:p.code.length≤500)(hoD:p.Ij.length≤500)(hoR:p.Ik.length≤500)(w:World)(h:zw p Q w):
  Ctr prog 167 [pgv p Q] w [] (fun v9 cs=>∃Q',v9=pgv (cI p) Q'∧cs=[slv 294 5 Q'.Ac (cI p).code.length Q'.cc ((cI p).code.flatMap II.cells),sl .i64 3 Q'.Ad (cI p).Ij.length Q'.cd (cI p).Ij,sl .i64 3 Q'.Ar (cI p).Ik.length Q'.cr (cI p).Ik]):=by
 have hrc:=h.code;obtain⟨N,hN⟩:=Zgn (p.code.length);have hU0:fR p=ka p.code N (iz (iz (iz (List.replicate N false) p.Ij) p.Ik) [p.flags,p.target]):=by unfold fR Ay;rw[hN]
 have hiD:∀n,n∈p.Ij→n≠ -1→0≤n∧n.toNat<N:=fun n hn _=>by have:=hraw.Ij n hn;unfold II.in_ at this;omega
 have hiR:∀n,n∈p.Ik→n≠ -1→0≤n∧n.toNat<N:=fun n hn _=>by have:=hraw.Ik n hn;unfold II.in_ at this;omega
 have hiF:∀n,n∈[p.flags,p.target]→n≠ -1→0≤n∧n.toNat<N:=fun n hn h1=>by
  simp only[aL,bh,or_false]at hn;rcases hn with rfl|rfl
  ·rcases hraw.flags with h2|h2
   ·exact absurd h2 h1
   unfold II.in_ at h2;omega
  rcases hraw.target with h2|h2
  ·exact absurd h2 h1
  unfold II.in_ at h2;omega
 have hvN:p.values=N:=by rw[hv,hN]
 have hoD2:∀n,n∈p.Ij→0≤n∧n.toNat<N:=fun n hn=>by have:=hraw.Ij n hn;unfold II.in_ at this;omega
 have hoR2:∀n,n∈p.Ik→0≤n∧n.toNat<N:=fun n hn=>by have:=hraw.Ik n hn;unfold II.in_ at this;omega
 have hfl:p.flags≠ -1→∃n:Nat,p.flags=n∧n<N:=fun h1=>by
  rcases hraw.flags with h2|h2
  ·exact absurd h2 h1
  unfold II.in_ at h2;exact⟨p.flags.toNat,by omega,by omega⟩
 have htg:p.target≠ -1→∃n:Nat,p.target=n∧n<N:=fun h1=>by
  rcases hraw.target with h2|h2
  ·exact absurd h2 h1
  unfold II.in_ at h2;exact⟨p.target.toNat,by omega,by omega⟩
 obtain⟨Z,hZ⟩:=Zgn (List.replicate N false);have hZl:Z.length=N:=by rw[←hZ];simp
 have hZv:(List.replicate N (.bool false:Value))=Z.map Value.bool:=by rw[←hZ];simp
 rw[hZ]at hU0;obtain⟨P0,hP0⟩:=Zgn (List.replicate N (0:Int));have hP0l:P0.length=N:=by rw[←hP0];simp
 have hPv:(List.replicate N (.int .i64 0:Value))=ints .i64 P0:=by rw[←hP0];simp[ints]
 refine bL func167 rfl ntmps167 rfl (Inv.start w) ?_;refine Z_2 ?_;refine ZO fun b1=>?_;refine ZN fun b2=>?_
 refine Z_6 ?_;refine dJ (iJ (bytes:=1) (n:=N) rfl rfl rfl rfl rfl hvN hvN (by omega) (by simp only[maxLen];omega)) rfl ?_;rintro _ _ ⟨b14,rfl,rfl⟩;rw[hZv];refine ZN fun b3=>?_
 refine ZL ?_;refine Z_4 ?_;refine Zy (jX rfl) ?_;refine Z_8 ?_;refine dJ (eA (usF b3 (some ⟨b14,0,none⟩) N N Z) rfl rfl (fun _ _=>rfl) Zi (fun w hi hin=>nC b3 (some ⟨b14,0,none⟩) N N Z hZl Q.Ad Q.cd p.Ij (by omega) (by rw[hZl];exact hiD) w hin (fun w' hk=>RdV.Ir h.Ij hi Zi hk))) rfl ?_;rintro _ _ ⟨_,rfl,rfl⟩;obtain⟨U1,hU1⟩:=Zgn (iz Z p.Ij);have hl1:U1.length=N:=(by rw[←hU1,fW,hZl]);rw[hU1]at hU0⊢;refine Z_7 ?_;refine dJ (eA (usF b3 (some ⟨b14,0,none⟩) N N U1) rfl rfl (fun _ _=>rfl) Zi (fun w hi hin=>nC b3 (some ⟨b14,0,none⟩) N N U1 hl1 Q.Ar Q.cr p.Ik (by omega) (by rw[hl1];exact hiR) w hin (fun w' hk=>RdV.Ir h.Ik hi Zi hk))) rfl ?_;rintro _ _ ⟨_,rfl,rfl⟩;obtain⟨U2,hU2⟩:=Zgn (iz U1 p.Ik);have hl2:U2.length=N:=(by rw[←hU2,fW,hl1]);rw[hU2]at hU0⊢;refine Z_9 ?_;refine dJ (bZ rfl rfl Zrf Zrf rfl rfl) rfl ?_;rintro _ _ ⟨b29,rfl,rfl⟩;refine dJ (eA (usF b3 (some ⟨b14,0,none⟩) N N U2) rfl rfl (fun _ _=>rfl) Zi (fun w hi hin=>nC b3 (some ⟨b14,0,none⟩) N N U2 hl2 (some ⟨b29,0,none⟩) 2 [p.flags,p.target] (by simp) (by rw[hl2];exact hiF) w hin (fun w' hk=>dm (hi.IP Zi (show Has _ (slv 3 1 (some ⟨b29,0,none⟩) 2 2 (ints .i64 [p.flags,p.target]))from Zh) hk)))) rfl ?_;rintro _ _ ⟨_,rfl,rfl⟩;obtain⟨U3,hU3⟩:=Zgn (iz U2 [p.flags,p.target]);have hl3:U3.length=N:=(by rw[←hU3,fW,hl2]);rw[hU3]at hU0⊢;refine Z_7 ?_;refine Zy (eT (Zv rfl) (Zv rfl) (show _=(N:Int) - 1 from by rw[hvN,bI];omega)) ?_;refine Z_4 ?_;refine cG (fun q:Nat×List Bool=>[(1,.pointer (some ⟨b1,0,none⟩)),(2,.pointer (some ⟨b2,0,none⟩)),(3,.pointer (some ⟨b3,0,none⟩)),(4,.func (.func 217) #[] #[.pointer (some ⟨b3,0,none⟩)]),(5,.int .i64 ((q.1:Int) - 1))]) (fun q=>[row b3 [.slice (some ⟨b14,0,none⟩) N N] 145,slv 4 1 (some ⟨b14,0,none⟩) N N (q.2.map Value.bool),row b1 (ji p Q) 236,pg0 b2]) (fun q=>q.1≤N∧q.2.length=N∧ka p.code q.1 q.2=fR p) (fun q=>q.1) (⟨N,U3⟩) ?_ ?_ ?_ ?_
 ·exact⟨aS _,hl3,hU0.symm⟩
 ·exact Zwk
 ·exact Zu
 rintro⟨k,V⟩ ⟨hk,hV,hB⟩;dsimp only at hk hV hB⊢;refine Z_7 ?_;refine ZW ?_ ?_<;>intro hc7
 ·simp only[ap]at hc7;obtain⟨j,rfl⟩:∃j,k=j+1:=⟨k - 1,by omega⟩;have hjN:j<p.code.length:=(by omega);have hj5:((j+1:Nat):Int) - 1=(j:Int):=(by omega);rw[hj5];obtain⟨ad,had⟩:=hrc.some_ (by omega);have hrc2:=hrc;rw[had]at hrc2;obtain⟨x,hx⟩:∃x,p.code[j]? =some x:=⟨_,ao hjN⟩;have hgx:p.code.getD j II.zero=x:=(by rw[aw,hx];rfl);have hB:ka p.code j (bif V.getD j false&&kj (p.code.getD j II.zero)then iz V [(p.code.getD j II.zero).a,(p.code.getD j II.zero).b]else V)=fR p:=hB;rw[hgx]at hB;obtain⟨op,dst,xa,xb,imm⟩:=x;dsimp only at hB;refine Z_9 ?_;refine Zy (eQ (j:=j) had rfl Zrf Zv0 Zv0 Zrf (fun _=>hjN)) ?_;refine dX (cB (vs:=[.int .i64 op,.int .i64 dst,.int .i64 xa,.int .i64 xb,.int .u32 imm]) Zrf Zrf Zv0) (fV hrc2 (fun i v hi=>fP (f:=II.cells) Zrf (i:=i) hx hi)) rfl ?_;refine ZN fun b6=>?_
  refine ZM ?_;refine Z_6 ?_;refine Zy (cC (bb:=b14) (o:=0) (n:=N) (c:=N) (j:=j) (sz:=1) (r:=j) rfl Zrf (Zv rfl) (Zv rfl) Zrf (fun _=>by omega) (by omega)) ?_;refine dX (bO Zrf (Zv rfl)) (dH Zh (vr (by omega))) rfl ?_;refine gQ ?_;refine ZW ?_ ?_<;>intro hc10
  ·have hc:(V.getD j false&&kj ⟨op,dst,xa,xb,imm⟩)=true:=hc10;rw[hc,ac]at hB;obtain⟨-,hab⟩:=Bool.and_eq_true_iff.1 hc;have hxi:=hraw.wf j _ hx hab;dsimp only at hxi;refine Z_6 ?_;refine dJ (bZ rfl rfl Zrf Zrf rfl rfl) rfl ?_;rintro _ _ ⟨b62,rfl,rfl⟩;refine dJ (eA (usF b3 (some ⟨b14,0,none⟩) N N V) rfl rfl (fun _ _=>rfl) Zi (fun w hi hin=>nC b3 (some ⟨b14,0,none⟩) N N V hV (some ⟨b62,0,none⟩) 2 [xa,xb] (by simp) (fun n hn _=>by simp only[aL,bh,or_false]at hn;rcases hn with rfl|rfl<;>omega) w hin (fun w' hk=>dm (hi.IP Zi (show Has _ (slv 3 1 (some ⟨b62,0,none⟩) 2 2 (ints .i64 [xa,xb]))from Zh) hk)))) rfl ?_;rintro _ _ ⟨_,rfl,rfl⟩;refine Z_5 ?_;refine Zy (eT Zv0 Zv0 Zl) ?_;refine Z_2 ?_;refine cq ((⟨j,iz V [xa,xb]⟩:Nat×List Bool)) ?_ ?_ ?_
   ·exact⟨⟨by omega,by dsimp only;rw[fW,hV],hB⟩,by dsimp only;omega⟩
   ·exact Zwk
   exact Zj
  have hc:(V.getD j false&&kj ⟨op,dst,xa,xb,imm⟩)=false:=hc10;rw[hc,aa]at hB;refine Z_5 ?_;refine Zy (eT Zv0 Zv0 Zl) ?_;refine Z_2 ?_;refine cq ((⟨j,V⟩:Nat×List Bool)) ?_ ?_ ?_
  ·exact⟨⟨by omega,hV,hB⟩,by dsimp only;omega⟩
  ·exact Zwk
  exact Zj
 simp only[aj]at hc7;obtain rfl:k=0:=by omega
 have hB:V=fR p:=hB;subst hB;refine Z_9 ?_;refine dJ (iJ (bytes:=8) (n:=N) rfl rfl rfl rfl rfl hvN hvN (by omega) (by simp only[maxLen];omega)) rfl ?_;rintro _ _ ⟨b66,rfl,rfl⟩;rw[hPv];refine ZN fun b7=>?_
 refine ZL ?_;refine eJ ?_;refine dC 294 5 ?_;refine Z_7 ?_;refine cG (fun q:Nat×List Int×List II×Option Addr×Nat=>[(1,.pointer (some ⟨b1,0,none⟩)),(2,.pointer (some ⟨b2,0,none⟩)),(3,.pointer (some ⟨b3,0,none⟩)),(7,.pointer (some ⟨b7,0,none⟩)),(8,.slice q.2.2.2.1 q.2.2.1.length q.2.2.2.2),(68,.slice Q.Ac p.code.length Q.cc),(69,.int .i64 p.code.length),(70,.int .i64 (q.1:Int))]) (fun q=>[row b3 [.slice (some ⟨b14,0,none⟩) N N] 145,slv 4 1 (some ⟨b14,0,none⟩) N N ((fR p).map Value.bool),row b1 (ji p Q) 236,pg0 b2,sl .i64 3 (some ⟨b66,0,none⟩) N N q.2.1,row b7 [.slice (some ⟨b66,0,none⟩) N N] 66,slv 294 5 q.2.2.2.1 q.2.2.1.length q.2.2.2.2 (q.2.2.1.flatMap II.cells)]) (fun q=>q.1≤N∧q.2.1.length=N∧q.2.2.1.length≤q.1∧kD (fR p) (p.code.drop q.1) q.1 q.2.1 q.2.2.1=ee p) (fun q=>N - q.1) (⟨0,P0,[],none,0⟩) ?_ ?_ ?_ ?_
 ·exact⟨ax _,hP0l,ax _,by unfold ee;rw[hN,hP0];rfl⟩
 ·exact Zwk
 ·exact Zu
 rintro⟨i,pl,c,A,cc⟩ ⟨hi9,hpl,hcl,hW⟩;dsimp only at hi9 hpl hcl hW⊢;refine Z_6 ?_;refine ZW ?_ ?_<;>intro hc15
 ·simp only[ap]at hc15;have hiN:i<p.code.length:=(by omega);obtain⟨ad,had⟩:=hrc.some_ (by omega);have hrc2:=hrc;rw[had]at hrc2;obtain⟨x,hx⟩:∃x,p.code[i]? =some x:=⟨_,ao hiN⟩;rw[jd hx]at hW;have hW:(bif(fR p).getD i false then kD (fR p) (p.code.drop (i+1)) (i+1) (pl.set i (c.length:Int)) (c++[mE x (pl.set i (c.length:Int)) c.length])else kD (fR p) (p.code.drop (i+1)) (i+1) pl c)=ee p:=hW;have hwf:=hraw.wf i x hx;obtain⟨op,dst,xa,xb,imm⟩:=x;dsimp only at hwf;refine Z_7 ?_;refine Zy (eQ (j:=i) had rfl Zrf Zv0 Zv0 Zrf (fun _=>hiN)) ?_;refine dX (cB (vs:=[.int .i64 op,.int .i64 dst,.int .i64 xa,.int .i64 xb,.int .u32 imm]) Zrf Zrf Zv0) (fV hrc2 (fun j v hj=>fP (f:=II.cells) Zrf (i:=j) hx hj)) rfl ?_;refine ZN fun b10=>?_
  refine ZA ?_;refine ZM ?_;refine Z_7 ?_;refine Zy (cC (bb:=b14) (o:=0) (n:=N) (c:=N) (j:=i) (sz:=1) (r:=i) rfl Zrf (Zv rfl) (Zv rfl) Zrf (fun _=>by omega) (by omega)) ?_;refine dX (bO Zrf (Zv rfl)) (dH Zh (vr (by omega))) rfl ?_;refine Z_3 ?_;refine ZW ?_ ?_<;>intro hc17
  ·have hu:(fR p).getD i false=false:=(by simpa using hc17);rw[hu,aa]at hW;refine Z_5 ?_;refine Zy (cy Zv0 Zv0 Zl) ?_;refine Z_2 ?_;refine cq ((⟨i+1,pl,c,A,cc⟩:Nat×List Int×List II×Option Addr×Nat)) ?_ ?_ ?_
   ·exact⟨⟨by omega,hpl,by dsimp only;omega,hW⟩,by dsimp only;omega⟩
   ·exact Zwk
   exact Zj
  have hu:(fR p).getD i false=true:=(by simpa using hc17);rw[hu,ac]at hW;obtain⟨pl2,hpl2⟩:=Zgn (pl.set i (c.length:Int));have hpl2l:pl2.length=N:=(by rw[←hpl2,aI,hpl]);rw[hpl2]at hW;refine Z_8 ?_;refine Zy (cC (bb:=b66) (o:=0) (n:=N) (c:=N) (j:=i) (sz:=1) (r:=i) rfl Zrf (Zv rfl) (Zv rfl) Zrf (fun _=>by omega) (by omega)) ?_;refine dy (fL Zrf rfl rfl rfl Za (by omega)) ?_;rintro _ _ ⟨rfl,rfl⟩;rw[lQ,hpl2];refine Z_2 ?_;refine cS (fun q:Int×Int=>[(1,.pointer (some ⟨b1,0,none⟩)),(2,.pointer (some ⟨b2,0,none⟩)),(3,.pointer (some ⟨b3,0,none⟩)),(7,.pointer (some ⟨b7,0,none⟩)),(8,.slice A c.length cc),(10,.pointer (some ⟨b10,0,none⟩)),(68,.slice Q.Ac p.code.length Q.cc),(69,.int .i64 p.code.length),(70,.int .i64 (i:Int))]) (fun q=>[row b3 [.slice (some ⟨b14,0,none⟩) N N] 145,slv 4 1 (some ⟨b14,0,none⟩) N N ((fR p).map Value.bool),row b1 (ji p Q) 236,pg0 b2,row b7 [.slice (some ⟨b66,0,none⟩) N N] 66,sl .i64 3 (some ⟨b66,0,none⟩) N N pl2,slv 294 5 A c.length cc (c.flatMap II.cells),row b10 [.int .i64 op,.int .i64 dst,.int .i64 q.1,.int .i64 q.2,.int .u32 imm] 294]) (fun q=>mE ⟨op,dst,xa,xb,imm⟩ pl2 c.length=⟨op,c.length,q.1,q.2,imm⟩) ?_ ?_
  ·refine gQ ?_;refine ZW ?_ ?_<;>intro hc19
   ·have hab:kj ⟨op,dst,xa,xb,imm⟩=true:=hc19;obtain⟨⟨a1,a2⟩,a3,a4⟩:=hwf hab;obtain⟨na,rfl⟩:∃n:Nat,xa=n:=ar a1;obtain⟨nb,rfl⟩:∃n:Nat,xb=n:=ar a3;have hsw:mE ⟨op,dst,na,nb,imm⟩ pl2 c.length=⟨op,c.length,pl2.getD na 0,pl2.getD nb 0,imm⟩:=(by unfold mE;rw[hab];rfl);refine bX ⟨fun j=>List.elem j [11,13],[]⟩ Zk ?_;refine ZG 0 ?_;refine ZFe 1 2 ?_;refine ZG 2 ?_;refine cN 3 rfl Zk Zk Zk (cC (bb:=b66) (o:=0) (n:=N) (c:=N) (j:=na) (sz:=1) (r:=na) rfl Zrf (Zv rfl) (Zv rfl) Zrf (fun _=>by omega) (by omega)) rfl ?_;refine eX 4 rfl Zk Zk Zk Zk (bO Zrf (Zv rfl)) (dH Zh (eG (by omega))) rfl ?_;refine ZFe 6 3 ?_;refine ZG 7 ?_;refine ZFe 10 2 ?_;refine jY 5 11 Zk ?_ ?_
    ·refine eK rfl (bO Zrf Zv0) (bS Zh rfl) rfl ?_;refine cN 8 rfl Zk Zk Zk (cC (bb:=b66) (o:=0) (n:=N) (c:=N) (j:=nb) (sz:=1) (r:=nb) rfl Zrf (Zv rfl) (Zv rfl) Zrf (fun _=>by omega) (by omega)) rfl ?_;refine jY 9 11 Zk ?_ ?_
     ·refine eK rfl (bO Zrf (Zv rfl)) (dH Zh (eG (by omega))) rfl ?_;refine cw 11 Zk ?_;refine ZQ ?_;refine ZFe 12 3 ?_;refine cw 13 Zk ?_;refine ZQ ?_;refine bN Zk ?_;refine cq ((⟨pl2.getD na 0,pl2.getD nb 0⟩:Int×Int)) ?_ ?_ ?_
      ·exact hsw
      ·exact Zwk
      exact Zj
     refine ZQ ?_;refine eX 9 rfl Zk Zk Zk Zk (bO Zrf (Zv rfl)) (dH Zh (eG (by omega))) rfl ?_;refine ZFe 12 3 ?_;refine cw 13 Zk ?_;refine ZQ ?_;refine bN Zk ?_;refine cq ((⟨pl2.getD na 0,pl2.getD nb 0⟩:Int×Int)) ?_ ?_ ?_
     ·exact hsw
     ·exact Zwk
     exact Zj
    refine ZQ ?_;refine ZG 5 ?_;refine cN 8 rfl Zk Zk Zk (cC (bb:=b66) (o:=0) (n:=N) (c:=N) (j:=nb) (sz:=1) (r:=nb) rfl Zrf (Zv rfl) (Zv rfl) Zrf (fun _=>by omega) (by omega)) rfl ?_;refine eX 9 rfl Zk Zk Zk Zk (bO Zrf (Zv rfl)) (dH Zh (eG (by omega))) rfl ?_;refine ZFe 12 3 ?_;refine cw 13 Zk ?_;refine ZQ ?_;refine bN Zk ?_;refine cq ((⟨pl2.getD na 0,pl2.getD nb 0⟩:Int×Int)) ?_ ?_ ?_
    ·exact hsw
    ·exact Zwk
    exact Zj
   have hab:kj ⟨op,dst,xa,xb,imm⟩=false:=hc19;have hsw:mE ⟨op,dst,xa,xb,imm⟩ pl2 c.length=⟨op,c.length,xa,xb,imm⟩:=(by unfold mE;rw[hab];rfl);refine Zc ?_;refine cq ((⟨xa,xb⟩:Int×Int)) ?_ ?_ ?_
   ·exact hsw
   ·exact Zwk
   exact Zj
  rintro⟨ya,yb⟩ hsw;dsimp only at hsw⊢;rw[hsw]at hW;refine Z_5 ?_;refine ZL ?_;refine Z_5 ?_;refine dJ (dh rfl rfl Zrf Zrf rfl rfl rfl) rfl ?_;rintro _ _ ⟨b110,rfl,rfl⟩;refine dJ (cW (n:=c.length) (e:=294) (sz:=5) (bytes:=40) rfl rfl Za rfl rfl (fun w hi=>hi.rd (show Has _ (slv 294 5 (some ⟨b110,0,none⟩) 1 1 [.int .i64 op,.int .i64 c.length,.int .i64 ya,.int .i64 yb,.int .u32 imm])from Zh)) (one5 _ _ _ _ _) (by simp only[maxLen];omega) (by omega)) rfl ?_;rintro _ _ ⟨A2,c2,rfl,rfl⟩;rw[Dj c ⟨op,c.length,ya,yb,imm⟩,show c.length+1=(c++[(⟨op,c.length,ya,yb,imm⟩:II)]).length by simp];refine Z_5 ?_;refine Zy (cy Zv0 Zv0 Zl) ?_;refine Z_2 ?_;refine cq ((⟨i+1,pl2,c++[⟨op,c.length,ya,yb,imm⟩],A2,c2⟩:Nat×List Int×List II×Option Addr×Nat)) ?_ ?_ ?_
  ·exact⟨⟨by omega,hpl2l,by simp;omega,hW⟩,by dsimp only;omega⟩
  ·exact Zwk
  exact Zj
 simp only[aj]at hc15;obtain rfl:i=N:=(by omega);rw[List.drop_of_length_le (by omega)]at hW;have hW:(pl,c)=ee p:=hW;have hsT:∀fl tg,ek pl p.flags=fl→ek pl p.target=tg→cI p=⟨c,p.Ia,p.Ib,p.IB,p.ID,cP pl p.Ij,cP pl p.Ik,fl,p.next,tg,p.branch,p.taken,p.count,c.length⟩:=(by intro fl tg h1 h2;unfold cI;rw[←hW];dsimp only;rw[h1,h2]);refine Z_7 ?_;refine Zy (jX rfl) ?_;refine Z_4 ?_;refine fK ⟨fun j=>List.elem j [6,10,12,14,16,18],[]⟩ [(0,0),(1,0),(2,0),(3,0),(4,0),(5,4),(7,0),(8,0),(6,3),(9,3),(10,3),(11,3),(12,3),(13,3),(14,3),(15,3),(16,3),(17,3),(18,3)] Zk Zk ?_;refine cm rfl (da Zv0) rfl ?_;refine cm rfl (da Zv0) rfl ?_;refine cm rfl (y_len ⟨_,rfl⟩ Zv0) rfl ?_;refine cm rfl (da Zv0) rfl ?_;refine cm rfl (dr 5 rfl Zv0 Zf) rfl ?_;refine ln rfl (bO Zrf Zv0) (bS Zh rfl) rfl ?_;refine cm rfl (da Zv0) rfl ?_;refine cm rfl (dr 6 rfl Zv0 Zf) rfl ?_;refine yg [(6,[(9,1),(11,0),(10,2),(12,2),(13,0),(14,2),(15,0),(16,2),(17,0),(18,2)]),(9,[(11,0),(6,2),(10,2),(12,2),(13,0),(14,2),(15,0),(16,2),(17,0),(18,2)])] Zk (.cons ?_ (.cons ?_ .nil))
 ·refine eB rfl rfl (eA (plF b7 (some ⟨b66,0,none⟩) i i pl) rfl rfl (fun _ _=>rfl) Zi (fun w hi hin=>mf b7 (some ⟨b66,0,none⟩) i i pl hpl Q.Ad Q.cd p.Ij (by omega) (by rw[hpl];exact hoD2) w hin (fun w' hk=>RdV.Ir h.Ij hi Zi hk))) ZJ rfl ?_;rintro _ _ ⟨_,⟨A3,c3,rfl,rfl⟩,rfl⟩;refine iI rfl (bO Zrf Zv0) (bS Zh rfl) rfl ?_;refine cm rfl (dr 0 rfl Zv0 Zf) rfl ?_;refine fb rfl ?_;refine eB rfl rfl (eA (plF b7 (some ⟨b66,0,none⟩) i i pl) rfl rfl (fun _ _=>rfl) Zi (fun w hi hin=>mf b7 (some ⟨b66,0,none⟩) i i pl hpl Q.Ar Q.cr p.Ik (by omega) (by rw[hpl];exact hoR2) w hin (fun w' hk=>RdV.Ir h.Ik hi Zi hk))) ZJ rfl ?_;rintro _ _ ⟨_,⟨A4,c4,rfl,rfl⟩,rfl⟩;refine fb rfl ?_;refine dI rfl rfl (fj Zrf rfl rfl rfl Za Zp) ZJ ?_;rintro _ _ ⟨rfl,rfl⟩;refine cm rfl (dr 13 rfl Zv0 Zf) rfl ?_;refine fb rfl ?_;refine dI rfl rfl (fj Zrf rfl rfl rfl Za Zp) ZJ ?_;rintro _ _ ⟨rfl,rfl⟩;refine cm rfl (dr 5 rfl Zv0 Zf) rfl ?_;refine fb rfl ?_;refine dI rfl rfl (fj Zrf rfl rfl rfl Za Zp) ZJ ?_;rintro _ _ ⟨rfl,rfl⟩;refine cm rfl (dr 6 rfl Zv0 Zf) rfl ?_;refine fb rfl ?_;refine dI rfl rfl (fj Zrf rfl rfl rfl Za Zp) ZJ ?_;rintro _ _ ⟨rfl,rfl⟩;refine dB ?_;refine Z_9 ?_;refine ZW ?_ ?_<;>intro hc26
  ·have hf1:p.flags≠ -1:=(by simpa using hc26);obtain⟨nf,hnf,hnf2⟩:=hfl hf1;have hm1:ek pl p.flags=pl.getD nf 0:=(by unfold ek;rw[hc26,ac,hnf,aQ]);refine Z_4 ?_;refine Zy (cC (bb:=b66) (o:=0) (n:=i) (c:=i) (j:=nf) (sz:=1) (r:=nf) rfl Zrf (Zv rfl) (Zv rfl) (fun _=>hnf) (fun _=>by omega) (by omega)) ?_;refine dX (bO Zrf (Zv rfl)) (dH Zh (eG (by omega))) rfl ?_;refine Z_1 ?_;refine ZL ?_;refine eJ ?_;refine ZW ?_ ?_<;>intro hc28
   ·have ht1:p.target≠ -1:=(by simpa using hc28);obtain⟨nt,hnt,hnt2⟩:=htg ht1;have hm2:ek pl p.target=pl.getD nt 0:=(by unfold ek;rw[hc28,ac,hnt,aQ]);refine Z_4 ?_;refine Zy (cC (bb:=b66) (o:=0) (n:=i) (c:=i) (j:=nt) (sz:=1) (r:=nt) rfl Zrf (Zv rfl) (Zv rfl) (fun _=>hnt) (fun _=>by omega) (by omega)) ?_;refine dX (bO Zrf (Zv rfl)) (dH Zh (eG (by omega))) rfl ?_;refine Z_1 ?_;refine ZL ?_;refine Z_5 ?_;refine ZM ?_;refine Z_3 ?_;refine bP [row b2 _ _,slv 294 5 A c.length cc (c.flatMap II.cells),sl .i64 3 A3 (cP pl p.Ij).length c3 (cP pl p.Ij),sl .i64 3 A4 (cP pl p.Ik).length c4 (cP pl p.Ik)] Zj ?_;refine mS (cs':=[slv _ _ _ _ _ _,slv _ _ _ _ _ _,slv _ _ _ _ _ _]) (.inl rfl) Zu rfl rfl Zh Zrf Zrf ?_;rw[hsT _ _ hm1 hm2];exact⟨⟨A,cc,A3,c3,A4,c4⟩,rfl,rfl⟩
   have hm2:ek pl p.target=p.target:=(by unfold ek;rw[hc28,aa]);refine Z_5 ?_;refine ZM ?_;refine Z_3 ?_;refine bP [row b2 _ _,slv 294 5 A c.length cc (c.flatMap II.cells),sl .i64 3 A3 (cP pl p.Ij).length c3 (cP pl p.Ij),sl .i64 3 A4 (cP pl p.Ik).length c4 (cP pl p.Ik)] Zj ?_;refine mS (cs':=[slv _ _ _ _ _ _,slv _ _ _ _ _ _,slv _ _ _ _ _ _]) (.inl rfl) Zu rfl rfl Zh Zrf Zrf ?_;rw[hsT _ _ hm1 hm2];exact⟨⟨A,cc,A3,c3,A4,c4⟩,rfl,rfl⟩
  have hm1:ek pl p.flags=p.flags:=(by unfold ek;rw[hc26,aa]);refine eJ ?_;refine ZW ?_ ?_<;>intro hc28
  ·have ht1:p.target≠ -1:=(by simpa using hc28);obtain⟨nt,hnt,hnt2⟩:=htg ht1;have hm2:ek pl p.target=pl.getD nt 0:=(by unfold ek;rw[hc28,ac,hnt,aQ]);refine Z_4 ?_;refine Zy (cC (bb:=b66) (o:=0) (n:=i) (c:=i) (j:=nt) (sz:=1) (r:=nt) rfl Zrf (Zv rfl) (Zv rfl) (fun _=>hnt) (fun _=>by omega) (by omega)) ?_;refine dX (bO Zrf (Zv rfl)) (dH Zh (eG (by omega))) rfl ?_;refine Z_1 ?_;refine ZL ?_;refine Z_5 ?_;refine ZM ?_;refine Z_3 ?_;refine bP [row b2 _ _,slv 294 5 A c.length cc (c.flatMap II.cells),sl .i64 3 A3 (cP pl p.Ij).length c3 (cP pl p.Ij),sl .i64 3 A4 (cP pl p.Ik).length c4 (cP pl p.Ik)] Zj ?_;refine mS (cs':=[slv _ _ _ _ _ _,slv _ _ _ _ _ _,slv _ _ _ _ _ _]) (.inl rfl) Zu rfl rfl Zh Zrf Zrf ?_;rw[hsT _ _ hm1 hm2];exact⟨⟨A,cc,A3,c3,A4,c4⟩,rfl,rfl⟩
  have hm2:ek pl p.target=p.target:=(by unfold ek;rw[hc28,aa]);refine Z_5 ?_;refine ZM ?_;refine Z_3 ?_;refine bP [row b2 _ _,slv 294 5 A c.length cc (c.flatMap II.cells),sl .i64 3 A3 (cP pl p.Ij).length c3 (cP pl p.Ij),sl .i64 3 A4 (cP pl p.Ik).length c4 (cP pl p.Ik)] Zj ?_;refine mS (cs':=[slv _ _ _ _ _ _,slv _ _ _ _ _ _,slv _ _ _ _ _ _]) (.inl rfl) Zu rfl rfl Zh Zrf Zrf ?_;rw[hsT _ _ hm1 hm2];exact⟨⟨A,cc,A3,c3,A4,c4⟩,rfl,rfl⟩
 refine Bq rfl (bO Zrf Zv0) (bS Zh rfl) rfl ?_;refine cm rfl (dr 0 rfl Zv0 Zf) rfl ?_;refine fb rfl ?_;refine eB rfl rfl (eA (plF b7 (some ⟨b66,0,none⟩) i i pl) rfl rfl (fun _ _=>rfl) Zi (fun w hi hin=>mf b7 (some ⟨b66,0,none⟩) i i pl hpl Q.Ad Q.cd p.Ij (by omega) (by rw[hpl];exact hoD2) w hin (fun w' hk=>RdV.Ir h.Ij hi Zi hk))) ZJ rfl ?_;rintro _ _ ⟨_,⟨A3,c3,rfl,rfl⟩,rfl⟩;refine fb rfl ?_;refine eB rfl rfl (eA (plF b7 (some ⟨b66,0,none⟩) i i pl) rfl rfl (fun _ _=>rfl) Zi (fun w hi hin=>mf b7 (some ⟨b66,0,none⟩) i i pl hpl Q.Ar Q.cr p.Ik (by omega) (by rw[hpl];exact hoR2) w hin (fun w' hk=>RdV.Ir h.Ik hi Zi hk))) ZJ rfl ?_;rintro _ _ ⟨_,⟨A4,c4,rfl,rfl⟩,rfl⟩;refine fb rfl ?_;refine dI rfl rfl (fj Zrf rfl rfl rfl Za Zp) ZJ ?_;rintro _ _ ⟨rfl,rfl⟩;refine cm rfl (dr 13 rfl Zv0 Zf) rfl ?_;refine fb rfl ?_;refine dI rfl rfl (fj Zrf rfl rfl rfl Za Zp) ZJ ?_;rintro _ _ ⟨rfl,rfl⟩;refine cm rfl (dr 5 rfl Zv0 Zf) rfl ?_;refine fb rfl ?_;refine dI rfl rfl (fj Zrf rfl rfl rfl Za Zp) ZJ ?_;rintro _ _ ⟨rfl,rfl⟩;refine cm rfl (dr 6 rfl Zv0 Zf) rfl ?_;refine fb rfl ?_;refine dI rfl rfl (fj Zrf rfl rfl rfl Za Zp) ZJ ?_;rintro _ _ ⟨rfl,rfl⟩;refine dB ?_;refine Z_9 ?_;refine ZW ?_ ?_<;>intro hc26
 ·have hf1:p.flags≠ -1:=(by simpa using hc26);obtain⟨nf,hnf,hnf2⟩:=hfl hf1;have hm1:ek pl p.flags=pl.getD nf 0:=(by unfold ek;rw[hc26,ac,hnf,aQ]);refine Z_4 ?_;refine Zy (cC (bb:=b66) (o:=0) (n:=i) (c:=i) (j:=nf) (sz:=1) (r:=nf) rfl Zrf (Zv rfl) (Zv rfl) (fun _=>hnf) (fun _=>by omega) (by omega)) ?_;refine dX (bO Zrf (Zv rfl)) (dH Zh (eG (by omega))) rfl ?_;refine Z_1 ?_;refine ZL ?_;refine eJ ?_;refine ZW ?_ ?_<;>intro hc28
  ·have ht1:p.target≠ -1:=(by simpa using hc28);obtain⟨nt,hnt,hnt2⟩:=htg ht1;have hm2:ek pl p.target=pl.getD nt 0:=(by unfold ek;rw[hc28,ac,hnt,aQ]);refine Z_4 ?_;refine Zy (cC (bb:=b66) (o:=0) (n:=i) (c:=i) (j:=nt) (sz:=1) (r:=nt) rfl Zrf (Zv rfl) (Zv rfl) (fun _=>hnt) (fun _=>by omega) (by omega)) ?_;refine dX (bO Zrf (Zv rfl)) (dH Zh (eG (by omega))) rfl ?_;refine Z_1 ?_;refine ZL ?_;refine Z_5 ?_;refine ZM ?_;refine Z_3 ?_;refine bP [row b2 _ _,slv 294 5 A c.length cc (c.flatMap II.cells),sl .i64 3 A3 (cP pl p.Ij).length c3 (cP pl p.Ij),sl .i64 3 A4 (cP pl p.Ik).length c4 (cP pl p.Ik)] Zj ?_;refine mS (cs':=[slv _ _ _ _ _ _,slv _ _ _ _ _ _,slv _ _ _ _ _ _]) (.inl rfl) Zu rfl rfl Zh Zrf Zrf ?_;rw[hsT _ _ hm1 hm2];exact⟨⟨A,cc,A3,c3,A4,c4⟩,rfl,rfl⟩
  have hm2:ek pl p.target=p.target:=(by unfold ek;rw[hc28,aa]);refine Z_5 ?_;refine ZM ?_;refine Z_3 ?_;refine bP [row b2 _ _,slv 294 5 A c.length cc (c.flatMap II.cells),sl .i64 3 A3 (cP pl p.Ij).length c3 (cP pl p.Ij),sl .i64 3 A4 (cP pl p.Ik).length c4 (cP pl p.Ik)] Zj ?_;refine mS (cs':=[slv _ _ _ _ _ _,slv _ _ _ _ _ _,slv _ _ _ _ _ _]) (.inl rfl) Zu rfl rfl Zh Zrf Zrf ?_;rw[hsT _ _ hm1 hm2];exact⟨⟨A,cc,A3,c3,A4,c4⟩,rfl,rfl⟩
 have hm1:ek pl p.flags=p.flags:=(by unfold ek;rw[hc26,aa]);refine eJ ?_;refine ZW ?_ ?_<;>intro hc28
 ·have ht1:p.target≠ -1:=(by simpa using hc28);obtain⟨nt,hnt,hnt2⟩:=htg ht1;have hm2:ek pl p.target=pl.getD nt 0:=(by unfold ek;rw[hc28,ac,hnt,aQ]);refine Z_4 ?_;refine Zy (cC (bb:=b66) (o:=0) (n:=i) (c:=i) (j:=nt) (sz:=1) (r:=nt) rfl Zrf (Zv rfl) (Zv rfl) (fun _=>hnt) (fun _=>by omega) (by omega)) ?_;refine dX (bO Zrf (Zv rfl)) (dH Zh (eG (by omega))) rfl ?_;refine Z_1 ?_;refine ZL ?_;refine Z_5 ?_;refine ZM ?_;refine Z_3 ?_;refine bP [row b2 _ _,slv 294 5 A c.length cc (c.flatMap II.cells),sl .i64 3 A3 (cP pl p.Ij).length c3 (cP pl p.Ij),sl .i64 3 A4 (cP pl p.Ik).length c4 (cP pl p.Ik)] Zj ?_;refine mS (cs':=[slv _ _ _ _ _ _,slv _ _ _ _ _ _,slv _ _ _ _ _ _]) (.inl rfl) Zu rfl rfl Zh Zrf Zrf ?_;rw[hsT _ _ hm1 hm2];exact⟨⟨A,cc,A3,c3,A4,c4⟩,rfl,rfl⟩
 have hm2:ek pl p.target=p.target:=(by unfold ek;rw[hc28,aa]);refine Z_5 ?_;refine ZM ?_;refine Z_3 ?_;refine bP [row b2 _ _,slv 294 5 A c.length cc (c.flatMap II.cells),sl .i64 3 A3 (cP pl p.Ij).length c3 (cP pl p.Ij),sl .i64 3 A4 (cP pl p.Ik).length c4 (cP pl p.Ik)] Zj ?_;refine mS (cs':=[slv _ _ _ _ _ _,slv _ _ _ _ _ _,slv _ _ _ _ _ _]) (.inl rfl) Zu rfl rfl Zh Zrf Zrf ?_;rw[hsT _ _ hm1 hm2];exact⟨⟨A,cc,A3,c3,A4,c4⟩,rfl,rfl⟩
end Go.Proofs.YtakodpimdalajaaGreatDoor
namespace Go.Ink
open Go.RowKit
abbrev Bh(i:Int×Int):List Value:=[.int .i64 i.1,.int .u32 i.2]
abbrev pgZ:List Value:=[.slice none 0 0,.int .i64 0,.int .i64 0,.int .i64 0,.int .i64 0,.slice none 0 0,.slice none 0 0,.int .i64 0,.int .u32 0,.int .i64 0,.int .i64 0,.int .u32 0,.int .i64 0,.int .i64 0]
theorem Hc{L:Lw}{n:Nat}(h:L.sm n)(op i next:Int):(L.one op i next).sm (n+10):=by
 have h2:=sm_go h op i next
 exact⟨h2.code,h2.dl,h2.rl,h2.dn,h2.rn⟩
theorem B5:Lw.init.sm 0:=⟨aS _,aS _,aS _,⟨bE _,bE _⟩,⟨bE _,bE _⟩⟩
theorem AA(pc:Int)(w:Lw)(i:Int×Int)(l:List (Int×Int)):lL pc w (i::l)=bif(!gb i.1 i.2|| !dA i.1)||(gl i.1&& !l.isEmpty)then none else lL (IntKind.u32.wrap (pc+IntKind.u32.wrap (cz i.1))) (w.one i.1 i.2 (IntKind.u32.wrap (pc+IntKind.u32.wrap (cz i.1)))) l:=rfl
theorem wI{α:Type}(l:List α)(k:Nat)(hk:k<l.length):(!(l.drop (k+1)).isEmpty)=decide ((k:Int)<(l.length:Int) - 1):=by
 by_cases h:(k:Int)<(l.length:Int) - 1
 ·rw[aB h];cases hd:l.drop (k+1)with
  |nil=>rw[List.drop_eq_nil_iff]at hd;omega
  |cons=>rfl
 rw[aD h,List.drop_of_length_le (by omega)]
 rfl
theorem F1{l:List (Int×Int)}{y:Int×Int}(h:l[l.length - 1]? =some y):l.getLastD (0,0)=y:=by
 rw[List.getLastD_eq_getLast?,List.getLast?_eq_getElem?,h]
 rfl
end Go.Ink
namespace Go.Proofs.YtakodpimdalajaaGreatDoor
open Go.RowKit Go.Ink Go.Proofs.Tryz
attribute [local irreducible] OpY bU
def LowK(o:Option Pg)(v:Value)(cs:List bJ):Prop:=match o with
 |some p=>∃Q':PAd,v= .tuple #[pgv p Q',.int .i64 0]∧cs=[slv 294 5 Q'.Ac p.code.length Q'.cc (p.code.flatMap II.cells),sl .i64 3 Q'.Ad p.Ij.length Q'.cd p.Ij,sl .i64 3 Q'.Ar p.Ik.length Q'.cr p.Ik]
 |none=>v= .tuple #[.agg pgZ.toArray,.int .i64 12]∧cs=[]
theorem Di(pc:Int)(A:Option Addr)(c:Nat)(l:List (Int×Int))(hu:∀i,i∈l→u32 i.2)(w:World)(h:RdV w 2 A l.length c (l.flatMap Bh)):
  Ctr prog 128 [.int .u32 pc,.slice A l.length c] w [] (fun v cs=>LowK (fo pc l) v cs):=by
 have hlm:l.length≤maxLen:=a9 h.cap h.max;simp only[maxLen]at hlm;obtain⟨R,hR⟩:=Zgn (lL pc Lw.init l);have hbad:(decide ((l.length:Int)<1)||decide (8<(l.length:Int)))=true→fo pc l=none:=fun e=>by unfold fo;rw[e,ac]
 have hno:R=none→(decide ((l.length:Int)<1)||decide (8<(l.length:Int)))=false→fo pc l=none:=fun e e2=>by unfold fo;rw[e2,aa,hR,e]
 have hyes:∀nx L,R=some (nx,L)→(decide ((l.length:Int)<1)||decide (8<(l.length:Int)))=false→fo pc l=some (cI (ur nx L (l.getLastD (0,0)) l.length)):=fun nx L e e2=>by unfold fo;rw[e2,aa,hR,e]
 have hraw:∀nx L y,R=some (nx,L)→Raw (ur nx L y l.length):=fun nx L y e=>by
  rw[e]at hR;obtain⟨lk, -, -⟩:=qf l pc Lw.init _ hu hR qZ;exact⟨lk.wf,lk.ops,lk.d,lk.r,lk.flags,lk.target⟩
 obtain⟨LT,hLT⟩:=Zgn (fo pc l);rw[hLT]at hbad hno hyes⊢;refine bL func128 rfl ntmps128 rfl (Inv.start w) ?_;refine Z_2 ?_;refine ZN fun b4=>?_;refine qn ?_;refine ZW ?_ ?_<;>intro hc1
 ·rw[hbad hc1];refine Z_2 ?_;refine Zy (io (vs:=pgZ) Zk (.inl ⟨_,rfl,rfl⟩)) ?_;refine ZM ?_;refine Z_5 ?_;refine dZ (cs':=[]) (.inl rfl) Zu rfl rfl rfl Zh Zrf Zrf ?_;exact⟨rfl,rfl⟩
 have hc1':=hc1;simp only[bj,aj]at hc1';refine eJ ?_;refine ZO fun b26=>?_
 refine Z_6 ?_;refine dC 294 5 ?_;refine dC 3 1 ?_;refine dC 3 1 ?_;refine Z_6 ?_;refine cG (fun q:(Nat×Int)×Lw×LAd=>[(0,.int .u32 q.1.2),(1,.slice A l.length c),(4,.pointer (some ⟨b4,0,none⟩)),(6,.pointer (some ⟨b26,0,none⟩)),(27,.slice A l.length c),(28,.int .i64 (l.length:Int)),(29,.int .i64 (q.1.1:Int))]) (fun q=>[pg0 b4]++lwF b26 (l.length:Int) q.2.1 q.2.2) (fun q=>q.1.1≤l.length∧lL q.1.2 q.2.1 (l.drop q.1.1)=R∧q.2.1.sm (10*q.1.1)) (fun q=>l.length - q.1.1) (⟨(0,pc),Lw.init,⟨none,0,none,0,none,0⟩⟩) ?_ ?_ ?_ ?_
 ·exact⟨ax _,hR,B5⟩
 ·exact Zwk
 ·exact Zu
 rintro⟨⟨k,pc2⟩,L,X⟩ ⟨hk,hG,hsm⟩;dsimp only at hk hG hsm⊢;refine Z_6 ?_;refine ZW ?_ ?_<;>intro hc5
 ·simp only[ap]at hc5;have hkl:k<l.length:=(by omega);obtain⟨ad,had⟩:=h.some_ (by omega);have h2:=h;rw[had]at h2;obtain⟨x,hx⟩:∃x,l[k]? =some x:=⟨_,ao hkl⟩;rw[jd hx,AA,wI l k hkl]at hG;obtain⟨op,nn⟩:=x;dsimp only at hG;refine Z_7 ?_;refine Zy (eQ (j:=k) had rfl Zrf Zv0 Zv0 Zrf (fun _=>hkl)) ?_;refine dX (cB (vs:=[.int .i64 op,.int .u32 nn]) Zrf Zrf Zv0) (fV h2 (fun i v hi=>fP (f:=Bh) Zrf (i:=i) hx hi)) rfl ?_;refine ZN fun b8=>?_
  refine ZA ?_;refine ZM ?_;refine Z_6 ?_;refine ZSe (fun w hi=>wv op nn w) ?_;refine Z_4 ?_;refine eH (cD rfl rfl) (.cons (dQ rfl) .nil) (fun _ _=>rfl) (fun hg w hi=>ww op w) rfl ?_;refine Z_5 ?_;refine eH (cD rfl rfl) (.cons (dQ rfl) .nil) (fun _ _=>rfl) (fun hg w hi=>uS op w) rfl ?_;refine Z_4 ?_;refine kK (fy rfl rfl) (eT (dQ rfl) Zv0 Zl) (fun _ _=>trivial) rfl ?_;refine Z_5 ?_;refine ZW ?_ ?_<;>intro hc7
  ·rw[hc7,ac]at hG;rw[hno hG.symm hc1];refine Z_2 ?_;refine Zy (io (vs:=pgZ) Zk (.inl ⟨_,rfl,rfl⟩)) ?_;refine ZM ?_;refine eJ ?_;refine dZ (cs':=[]) (.inl rfl) Zu rfl rfl rfl Zh Zrf Zrf ?_;exact⟨rfl,rfl⟩
  rw[hc7,aa]at hG;refine Z_7 ?_;refine ZSe (fun w hi=>tZ op w) ?_;refine Zy (ce rfl rfl Zv0 rfl) ?_;refine Zy (cy Zv0 Zv0 rfl) ?_;refine Z_7 ?_;refine ZcL (lwF b26 (l.length:Int) L X) (fun w hi hin=>lone_ok b26 (l.length:Int) L X (hsm.mono (by omega)) op nn _ w hin) ?_;rintro _ _ ⟨_,⟨L2,X2,hL2,rfl⟩,rfl⟩;refine Z_4 ?_;refine Zy (cy Zv0 Zv0 Zl) ?_;refine Z_2 ?_;refine cq ((⟨(k+1,IntKind.u32.wrap (pc2+IntKind.u32.wrap (cz op))),L2,X2⟩:(Nat×Int)×Lw×LAd)) ?_ ?_ ?_
  ·exact⟨⟨by dsimp only;omega,by dsimp only;rw[hL2];exact hG,by dsimp only;rw[hL2];exact(Hc hsm _ _ _).mono (by omega)⟩,by dsimp only;omega⟩
  ·exact Zwk
  exact Zj
 simp only[aj]at hc5;obtain rfl:k=l.length:=(by omega);rw[List.drop_length]at hG;have hG:R=some (pc2,L):=hG.symm;have hraw2:=hraw pc2 L (l.getLastD (0,0)) hG;rw[hyes pc2 L hG hc1];refine eJ ?_;refine dX (cB (vs:=[.slice X.Ac L.code.length X.cc,.int .i64 0,.int .i64 0,.int .i64 0,.int .i64 0,.slice none 0 0,.slice none 0 0,.int .i64 L.flags,.int .u32 0,.int .i64 L.target,.int .i64 L.branch,.int .u32 0,.int .i64 (l.length:Int),.int .i64 0]) Zrf Zrf Zv0) (cX Zh rfl) rfl ?_;refine ZN fun b9=>?_
 refine ZM ?_;refine Z_6 ?_;refine ZL ?_;refine Z_2 ?_;refine cS (fun q:Int×Int=>[(1,.slice A l.length c),(4,.pointer (some ⟨b4,0,none⟩)),(6,.pointer (some ⟨b26,0,none⟩)),(9,.pointer (some ⟨b9,0,none⟩))]) (fun q=>[pg0 b4]++lwF b26 (l.length:Int) L X++[row b9 [.slice X.Ac L.code.length X.cc,.int .i64 0,.int .i64 0,.int .i64 0,.int .i64 0,.slice none 0 0,.slice none 0 0,.int .i64 L.flags,.int .u32 q.1,.int .i64 L.target,.int .i64 L.branch,.int .u32 q.2,.int .i64 (l.length:Int),.int .i64 0] 236]) (fun q=>ur pc2 L (l.getLastD (0,0)) l.length=⟨L.code,L.d.Ic,L.r.Ic,L.d.high,L.r.high,L.d.l,L.r.l,L.flags,q.1,L.target,L.branch,q.2,l.length,L.code.length⟩) ?_ ?_
 ·refine Z_5 ?_;refine Zy (eT Zv0 Zv0 Zl) ?_;obtain⟨ad,had⟩:=h.some_ (show 0<l.length by omega);have h2:=h;rw[had]at h2;obtain⟨x,hx⟩:∃x,l[l.length - 1]? =some x:=⟨_,ao (by omega)⟩;have hlast:=F1 hx;rw[hlast];obtain⟨op,nn⟩:=x;refine Zy (eQ (j:=l.length - 1) had rfl Zrf (Zv rfl) (Zv rfl) (fun _=>by omega) (fun _=>by omega)) ?_;refine dX (cB (vs:=[.int .i64 op,.int .u32 nn]) Zrf Zrf Zv0) (fV h2 (fun i v hi=>fP (f:=Bh) Zrf (i:=i) hx hi)) rfl ?_;refine ZN fun b10=>?_
  refine ZM ?_;refine qn ?_;refine ZW ?_ ?_<;>intro hc15
  ·refine Z_4 ?_;refine ZSe (fun w hi=>xt nn w) ?_;refine Zy (cy Zv0 Zv0 rfl) ?_;refine Z_1 ?_;refine ZL ?_;refine Z_2 ?_;refine cq ((⟨IntKind.u32.wrap (pc2+kH nn),0⟩:Int×Int)) ?_ ?_ ?_
   ·exact(by unfold ur;dsimp only;rw[hc15,ac,ac])
   ·exact Zwk
   exact Zj
  refine Z_8 ?_;refine ZW ?_ ?_<;>intro hc17
  ·refine Z_4 ?_;refine ZSe (fun w hi=>xt nn w) ?_;refine Zy (cy Zv0 Zv0 rfl) ?_;refine Z_1 ?_;refine ZL ?_;refine Z_2 ?_;refine cq ((⟨pc2,IntKind.u32.wrap (pc2+kH nn)⟩:Int×Int)) ?_ ?_ ?_
   ·exact(by unfold ur;dsimp only;rw[hc15,aa,aa,hc17,ac])
   ·exact Zwk
   exact Zj
  refine Z_2 ?_;refine cq ((⟨pc2,0⟩:Int×Int)) ?_ ?_ ?_
  ·exact(by unfold ur;dsimp only;rw[hc15,aa,aa,hc17,aa])
  ·exact Zwk
  exact Zj
 rintro⟨nx,tk⟩ hq;dsimp only at hq⊢;rw[hq]at hraw2⊢;have hl500:=hsm;refine Zs (bX ⟨fun j=>List.elem j [21,23,25,27],qM b26 (xP (l.length:Int) L X)⟩ Zk ?_);refine ZE 0 ?_;refine ZE 1 ?_;refine ZFe 2 14 ?_;refine ZFe 3 1 ?_;refine iv 4 rfl Zk Zk Zk (bO Zrf (Zv rfl)) (by first|exact bW rfl|exact aC _ (bW rfl)|exact ah _ (bW rfl)|exact ah _ (ah _ (aC _ (bW rfl)))|exact ah _ (ah _ (ah _ (bW rfl)))) (bR (t:=280) Zh) rfl ?_;refine ZE 5 ?_;refine ZE 6 ?_;refine ZFe 7 18 ?_;refine ZFe 8 1 ?_;refine iv 9 rfl Zk Zk Zk (bO Zrf (Zv rfl)) (by first|exact bW rfl|exact aC _ (bW rfl)|exact ah _ (bW rfl)|exact ah _ (ah _ (aC _ (bW rfl)))|exact ah _ (ah _ (ah _ (bW rfl)))) (bR (t:=280) Zh) rfl ?_;refine ZE 10 ?_;refine ZE 11 ?_;refine ZFe 12 14 ?_;refine ZFe 13 2 ?_;refine iv 14 rfl Zk Zk Zk (bO Zrf (Zv rfl)) (by first|exact bW rfl|exact aC _ (bW rfl)|exact ah _ (bW rfl)|exact ah _ (ah _ (aC _ (bW rfl)))|exact ah _ (ah _ (ah _ (bW rfl)))) (bR (t:=280) Zh) rfl ?_;refine ZE 15 ?_;refine ZE 16 ?_;refine ZFe 17 18 ?_;refine ZFe 18 2 ?_;refine iv 19 rfl Zk Zk Zk (bO Zrf (Zv rfl)) (by first|exact bW rfl|exact aC _ (bW rfl)|exact ah _ (bW rfl)|exact ah _ (ah _ (aC _ (bW rfl)))|exact ah _ (ah _ (ah _ (bW rfl)))) (bR (t:=280) Zh) rfl ?_;refine ZFe 20 1 ?_;refine cw 21 Zk ?_;refine dz rfl rfl (fj Zrf rfl rfl rfl Za Zp) (fun _=>by rintro _ _ ⟨rfl,rfl⟩;exact bR (t:=280) Zh) ?_;rintro _ _ ⟨rfl,rfl⟩;refine ZFe 22 2 ?_;refine cw 23 Zk ?_;refine dz rfl rfl (fj Zrf rfl rfl rfl Za Zp) (fun _=>by rintro _ _ ⟨rfl,rfl⟩;exact bR (t:=280) Zh) ?_;rintro _ _ ⟨rfl,rfl⟩;refine ZFe 24 3 ?_;refine cw 25 Zk ?_;refine dz rfl rfl (fj Zrf rfl rfl rfl Za Zp) (fun _=>by rintro _ _ ⟨rfl,rfl⟩;exact bR (t:=280) Zh) ?_;rintro _ _ ⟨rfl,rfl⟩;refine ZFe 26 4 ?_;refine cw 27 Zk ?_;refine dz rfl rfl (fj Zrf rfl rfl rfl Za Zp) (fun _=>by rintro _ _ ⟨rfl,rfl⟩;exact bR (t:=280) Zh) ?_;rintro _ _ ⟨rfl,rfl⟩;refine bN Zk ?_;refine Z_2 ?_;refine bX ⟨fun j=>List.elem j [11,13],qM b26 (xP (l.length:Int) L X)⟩ Zk ?_;refine ZE 0 ?_;refine ZE 1 ?_;refine ZFe 2 14 ?_;refine ZFe 3 0 ?_;refine iv 4 rfl Zk Zk Zk (bO Zrf (Zv rfl)) (by first|exact bW rfl|exact aC _ (bW rfl)|exact ah _ (bW rfl)|exact ah _ (ah _ (aC _ (bW rfl)))|exact ah _ (ah _ (ah _ (bW rfl)))) (bR (t:=280) Zh) rfl ?_;refine ZE 5 ?_;refine ZE 6 ?_;refine ZFe 7 18 ?_;refine ZFe 8 0 ?_;refine iv 9 rfl Zk Zk Zk (bO Zrf (Zv rfl)) (by first|exact bW rfl|exact aC _ (bW rfl)|exact ah _ (bW rfl)|exact ah _ (ah _ (aC _ (bW rfl)))|exact ah _ (ah _ (ah _ (bW rfl)))) (bR (t:=280) Zh) rfl ?_;refine ZFe 10 5 ?_;refine cw 11 Zk ?_;refine dz rfl rfl (fj Zrf rfl rfl rfl Za Zp) (fun _=>by rintro _ _ ⟨rfl,rfl⟩;exact bR (t:=280) Zh) ?_;rintro _ _ ⟨rfl,rfl⟩;refine ZFe 12 6 ?_;refine cw 13 Zk ?_;refine dz rfl rfl (fj Zrf rfl rfl rfl Za Zp) (fun _=>by rintro _ _ ⟨rfl,rfl⟩;exact bR (t:=280) Zh) ?_;rintro _ _ ⟨rfl,rfl⟩;refine bN Zk ?_;refine Z_7 ?_;refine ZL ?_;refine Z_5 ?_;refine ZS (fun w hi=>EY ⟨L.code,L.d.Ic,L.r.Ic,L.d.high,L.r.high,L.d.l,L.r.l,L.flags,nx,L.target,L.branch,tk,l.length,L.code.length⟩ ⟨X.Ac,X.cc,X.Ad,X.cd,X.Ar,X.cr⟩ hraw2 rfl (a9 hsm.code (by omega)) (a9 hsm.dl (by omega)) (a9 hsm.rl (by omega)) w ⟨hi.rd Zh,hi.rd Zh,hi.rd Zh⟩) ?_;rintro _ _ ⟨_,⟨Q9,rfl,rfl⟩,rfl⟩;refine ZM ?_;refine Z_4 ?_;obtain⟨p9,hp9⟩:=Zgn (cI ⟨L.code,L.d.Ic,L.r.Ic,L.d.high,L.r.high,L.d.l,L.r.l,L.flags,nx,L.target,L.branch,tk,l.length,L.code.length⟩);rw[hp9];refine bP [row b4 _ _,slv 294 5 Q9.Ac p9.code.length Q9.cc (p9.code.flatMap II.cells),sl .i64 3 Q9.Ad p9.Ij.length Q9.cd p9.Ij,sl .i64 3 Q9.Ar p9.Ik.length Q9.cr p9.Ik] Zj ?_;refine dZ (cs':=[slv _ _ _ _ _ _,slv _ _ _ _ _ _,slv _ _ _ _ _ _]) (.inl rfl) Zu rfl rfl rfl Zh Zrf Zrf ?_;exact⟨Q9,rfl,rfl⟩
end Go.Proofs.YtakodpimdalajaaGreatDoor
namespace Go.Ink
open Go.RowKit
theorem yQ:∀(l:List (Int×Int)) (pc:Int) (L:Lw) (q:Int×Lw) (n:Nat),lL pc L l=some q→L.sm n→q.2.sm (n+10*l.length)
 |[],pc,L,q,n,h,hs=>by obtain rfl:(pc,L)=q:=aG h;exact hs.mono (by simp)
 |i::l,pc,L,q,n,h,hs=>by
  obtain⟨-, -, -,h4⟩:=kB h;exact(yQ l _ _ q (n+10) h4 (Hc hs _ _ _)).mono (by simp only[ai];omega)
theorem v6{pc:Int}{l:List (Int×Int)}(hu:∀i,i∈l→u32 i.2){p:Pg}(hlow:fo pc l=some p):pZ p∧p.count=l.length∧1≤l.length∧l.length≤8∧(p.In=true→gc (gm p (dN p))∧(gm p (dN p)).length≤100000):=by
 unfold fo at hlow;cases hlen:decide ((l.length:Int)<1)||decide (8<(l.length:Int))with
 |true=>rw[hlen]at hlow;cases hlow
 |false=>
 rw[hlen,aa]at hlow;simp only[bj,aj]at hlen;have hl0:l≠[]:=fun e=>by rw[e]at hlen;simp at hlen
 cases hgo:lL pc Lw.init l with
 |none=>rw[hgo]at hlow;cases hlow
 |some q=>
 rw[hgo]at hlow;obtain⟨nx,w⟩:=q;obtain rfl:=aG hlow;obtain⟨lk, -,hnx⟩:=qf l pc Lw.init _ hu hgo qZ;have hnx:=hnx hl0;have hsm:=yQ l pc Lw.init _ 0 hgo B5;dsimp only at lk hnx hsm;obtain⟨i,hi⟩:=Zgn (l.getLastD (0,0));rw[hi];obtain⟨p0,hp0⟩:=Zgn (ur nx w i l.length);rw[hp0];have f1:p0.code=w.code:=by rw[←hp0];rfl
 have f2:p0.Ij=w.d.l:=by rw[←hp0];rfl
 have f3:p0.Ik=w.r.l:=by rw[←hp0];rfl
 have g5:(cI p0).next=bif i.1==32||i.1==38 then IntKind.u32.wrap (nx+kH i.2)else nx:=by rw[←hp0];rfl
 have g6:(cI p0).taken=bif i.1==32||i.1==38 then 0 else bif w.branch !=0 then IntKind.u32.wrap (nx+kH i.2)else 0:=by rw[←hp0];rfl
 have g8:(cI p0).count=l.length:=by rw[←hp0];rfl
 have hlen4:=q5 l pc Lw.init _ hgo;have hlen5:w.code.length≤32:=by have:Lw.init.code.length=0:=rfl;dsimp only at hlen4;omega
 have hlen6:(cI p0).code.length≤64:=by
  have:=oa (fR p0) p0.code 0 (List.replicate p0.code.length 0) [];have e:(cI p0).code=(kD (fR p0) p0.code 0 (List.replicate p0.code.length 0) []).2:=rfl;rw[e];rw[f1]at this⊢;simp at this;omega
 have himc:ImC (cI p0).code:=oc (fR p0) p0.code 0 _ [] (fun _ h=>by cases h) (by rw[f1];exact lk.imm);have hn32:u32 (cI p0).next:=by rw[g5];cases i.1==32||i.1==38 with|true=>exact sG _|false=>exact hnx
 have ht32:u32 (cI p0).taken:=by
  have z:u32 0:=⟨by decide,by decide⟩;rw[g6];cases i.1==32||i.1==38 with
  |true=>exact z
  |false=>cases w.branch !=0 with
   |true=>exact sG _
   |false=>exact z
 have hd:=hsm.dl;have hr:=hsm.rl;have fit:pZ (cI p0):=⟨rfl,hlen6,by show(cP _ p0.Ij).length≤100;unfold cP;rw[List.length_map,f2];omega,by show(cP _ p0.Ik).length≤100;unfold cP;rw[List.length_map,f3];omega,himc⟩;refine⟨fit,g8,by omega,by omega,fun hright=>?_⟩;obtain⟨pok, -, -, -⟩:=qN hright himc hlen6 hn32 ht32;have hplan:Et (dN (cI p0)) (gi (cI p0)) (cI p0).code.length:=Cs (fun i hi=>CR (cI p0) hi) hlen6;refine⟨AO pok rfl hplan.has,?_⟩;have:=vd (cI p0) (dN (cI p0)) (IntKind.u32.wrap ((fp (cI p0) (dN (cI p0)) 0).length:Nat)) hlen6 fit.Ij fit.Ik;unfold gm;rw[ae,ai,ak];omega
end Go.Ink
namespace Go.Proofs.YtakodpimdalajaaGreatDoor
open Go.RowKit Go.Ink Go.Proofs.Tryz
attribute [local irreducible] OpY bU
theorem En(p:Pg)(Q:PAd)(hf:pZ p)(hr:p.In=false)(w:World)(h:zw p Q w):
  Ctr prog 168 [pgv p Q,.int .i64 7] w [] (fun r cs=>r= .tuple #[.agg #[.slice none 0 0,.slice none 0 0,.int .i64 0],.int .i64 1]∧cs=[]):=by
 have hR:=ri p Q hf;rw[hr]at hR;refine bL func168 rfl ntmps168 rfl (Inv.start w) ?_;refine Z_2 ?_;refine ZO fun b2=>?_;refine ZN fun b4=>?_
 refine Z_7 ?_;refine ZSe (fun w hi=>hR w (h.Iy hi)) ?_;refine Z_2 ?_;refine dk (cD rfl rfl) rfl rfl ?_;refine dk (cD rfl rfl) rfl rfl ?_;refine dk (cD rfl rfl) rfl rfl ?_;refine Zy (y_or (q:=false) (Zv rfl) ⟨_,rfl,fun _ e=>by simp at e⟩) ?_;refine Z_2 ?_;refine cn rfl (rfl) ?_;refine Z_2 ?_;refine Zy (io (vs:=[Value.slice none 0 0,.slice none 0 0,.int .i64 0]) Zk (.inl ⟨_,rfl,rfl⟩)) ?_;refine ZM ?_;refine Z_5 ?_;refine dZ (cs':=[]) (.inl rfl) Zu rfl rfl rfl Zh Zrf Zrf ?_;exact⟨rfl,rfl⟩
theorem DV(p:Pg)(Q:PAd)(hf:pZ p)(hr:p.In=false)(w:World)(h:zw p Q w):
  Ctr prog 129 [pgv p Q] w [] (fun r cs=>r= .tuple #[.slice none 0 0,.int .i64 12]∧cs=[]):=by
 refine bL func129 rfl ntmps129 rfl (Inv.start w) ?_;refine Z_2 ?_;refine ZO fun b1=>?_;refine Z_7 ?_;refine ZSe (fun w hi=>En p Q hf hr w (h.Iy hi)) ?_;refine Z_3 ?_;refine ZN fun b4=>?_
 refine ZM ?_;refine eJ ?_;refine cn rfl (rfl) ?_;refine Z_8 ?_;refine ft (cs':=[]) (.inl rfl) Zu rfl rfl rfl ?_;exact⟨rfl,rfl⟩
end Go.Proofs.YtakodpimdalajaaGreatDoor
