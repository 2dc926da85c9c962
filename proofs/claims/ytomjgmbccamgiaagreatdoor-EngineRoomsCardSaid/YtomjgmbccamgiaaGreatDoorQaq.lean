/- Lemmas. -/
import Derived.Test.YtomjgmbccamgiaaGreatDoorQaa
import Derived.Test.YtomjgmbccamgiaaGreatDoorQab
import Derived.Test.YtomjgmbccamgiaaGreatDoorQal
import Derived.Test.YtomjgmbccamgiaaGreatDoorQap
set_option linter.unusedSimpArgs false
set_option linter.unusedVariables false
set_option maxRecDepth 100000
set_option maxHeartbeats 4000000
namespace Go.Proofs.YtomjgmbccamgiaaGreatDoor
open Go.RowKit Go.Ink Go.Proofs.Tryz
attribute [local irreducible] OpY bW
theorem wJ(op:Int)(w:World):Ctr prog 141 [.int .i64 op] w [] (fun v cs=>v= .bool (dD op)∧cs=[]):=by
 refine bL func141 rfl ntmps141 rfl (Inv.start w) ?_;refine He ?_;refine ZW ?_ ?_<;>intro hc1
 ·refine Z_2 ?_;refine cB rfl (hc1) ?_;refine Z_8 ?_;refine Zra ?_;refine⟨?_,rfl⟩;unfold dD;cases h1:decide (0≤op)<;>cases h2:decide (op≤8)<;>cases h3:decide (16≤op)<;>cases h4:decide (op≤25)<;>cases h5:(op !=24)<;>cases h6:decide (32≤op)<;>cases h7:decide (op≤40)<;>simp_all<;>omega
 refine eK ?_;refine ZW ?_ ?_<;>intro hc2
 ·refine Z_8 ?_;refine Zra ?_;refine⟨?_,rfl⟩;unfold dD;cases h1:decide (0≤op)<;>cases h2:decide (op≤8)<;>cases h3:decide (16≤op)<;>cases h4:decide (op≤25)<;>cases h5:(op !=24)<;>cases h6:decide (32≤op)<;>cases h7:decide (op≤40)<;>simp_all<;>omega
 refine He ?_;refine Zra ?_;refine⟨?_,rfl⟩;unfold dD;cases h1:decide (0≤op)<;>cases h2:decide (op≤8)<;>cases h3:decide (16≤op)<;>cases h4:decide (op≤25)<;>cases h5:(op !=24)<;>cases h6:decide (32≤op)<;>cases h7:decide (op≤40)<;>simp_all<;>omega
abbrev usF(b:Nat)(A:Option Addr)(c N:Nat)(U:List Bool):List bJ:=[row b [.slice A N c] 161,slv 4 1 A N c (U.map Value.bool)]
theorem nL(b:Nat)(A:Option Addr)(c N:Nat)(U:List Bool)(hN:U.length=N)(B:Option Addr)(cb:Nat)(l:List Int)(hl:l.length≤1000)(hin:∀n,n∈l→n≠ -1→0≤n∧n.toNat<U.length)(w:World)(hi:Inv w (bK (usF b A c N U)) (usF b A c N U) w)(hR:∀w',dQ (bK (usF b A c N U)) w w'→Rd w' .i64 B l.length cb l):
  Ctr prog 189 [.slice B l.length cb,.pointer (some ⟨b,0,none⟩)] w (usF b A c N U) (fun _ cs=>cs=usF b A c N (iE U l)):=by
 refine bL func189 rfl ntmps189 rfl hi ?_;refine Z_8 ?_;refine cJ (fun q:Nat×List Bool=>[(1,.pointer (some ⟨b,0,none⟩)),(5,.slice B l.length cb),(6,.int .i64 l.length),(7,.int .i64 (q.1:Int))]) (fun q=>usF b A c N q.2) (fun q=>q.1≤l.length∧q.2.length=U.length∧iE q.2 (l.drop q.1)=iE U l) (fun q=>l.length - q.1) (⟨0,U⟩) ?_ ?_ ?_ ?_
 ·exact⟨aw _,rfl,rfl⟩
 ·exact Zwk
 ·exact Zu
 rintro⟨k,V⟩ ⟨hk,hV,hM⟩;dsimp only at hk hV hM⊢;refine Z_6 ?_;refine ZW ?_ ?_<;>intro hc1
 ·simp only[ap]at hc1;have hkl:k<l.length:=(by omega);obtain⟨ad,had⟩:=(hR w (dQ.refl _ _)).some_ (by omega);have hR2:∀w',dQ (bK (usF b A c N U)) w w'→RdV w' 1 (some ad) l.length cb (ints .i64 l):=(fun w' hk=>had▸hR w' hk);obtain⟨x,hx⟩:∃x,l[k]? =some x:=⟨_,ak hkl⟩;have hxi:=hin x (aK hx);rw[ji hx]at hM;have hM:iE (bif x != -1 then V.set x.toNat true else V) (l.drop (k+1))=iE U l:=hM;refine Z_6 ?_;refine Zy (eV (j:=k) had rfl Zrf Zv0 Zv0 Zrf (fun _=>hkl)) ?_;refine dU (bM Zrf Zv0) (ju (v:= .int .i64 x) hR2 (df hx)) rfl ?_;refine Z_9 ?_;refine ZW ?_ ?_<;>intro hc3
  ·rw[hc3,ac]at hM;obtain⟨hx0,hx1⟩:=hxi (by simpa using hc3);obtain⟨n,rfl⟩:∃n:Nat,x=n:=ar hx0;rw[aS]at hx1 hM;obtain⟨bs,rfl⟩:=gj (hi.get (show Has _ (slv 4 1 A N c (U.map Value.bool))from Zh)) (by omega);refine Z_3 ?_;refine Zy (cI (bb:=bs) (o:=0) (n:=N) (c:=c) (j:=n) (sz:=1) (r:=n) rfl Zrf (Zv rfl) (Zv rfl) Zrf (fun _=>by omega) (by omega)) ?_;refine dz (gi Zrf rfl rfl rfl Za (by omega)) ?_;rintro _ _ ⟨rfl,rfl⟩;rw[←List.map_set];refine Z_4 ?_;refine Zy (cF Zv0 Zv0 Zl) ?_;refine Z_2 ?_;refine cz ((⟨k+1,V.set n true⟩:Nat×List Bool)) ?_ ?_ ?_
   ·exact⟨⟨by omega,by dsimp only;rw[aL,hV],hM⟩,by dsimp only;omega⟩
   ·exact Zwk
   exact Zj
  rw[hc3,aa]at hM;refine Z_4 ?_;refine Zy (cF Zv0 Zv0 Zl) ?_;refine Z_2 ?_;refine cz ((⟨k+1,V⟩:Nat×List Bool)) ?_ ?_ ?_
  ·exact⟨⟨by omega,hV,hM⟩,by dsimp only;omega⟩
  ·exact Zwk
  exact Zj
 simp only[aj]at hc1;obtain rfl:k=l.length:=by omega
 rw[List.drop_length]at hM;have hM:V=iE U l:=hM;subst hM;refine Z_4 ?_;refine fL (cs':=usF b A c N (iE U l)) (.inr rfl) Zu rfl ?_
 rfl
abbrev plF(b:Nat)(A:Option Addr)(c N:Nat)(pl:List Int):List bJ:=[row b [.slice A N c] 64,sl .i64 3 A N c pl]
theorem mw(b:Nat)(A:Option Addr)(c N:Nat)(pl:List Int)(hN:pl.length=N)(B:Option Addr)(cb:Nat)(l:List Int)(hl:l.length≤1000)(hin:∀n,n∈l→0≤n∧n.toNat<pl.length)(w:World)(hi:Inv w (bK (plF b A c N pl)) (plF b A c N pl) w)(hR:∀w',dQ (bK (plF b A c N pl)) w w'→Rd w' .i64 B l.length cb l):
  Ctr prog 190 [.slice B l.length cb,.pointer (some ⟨b,0,none⟩)] w (plF b A c N pl) (fun v9 cs=>∃A' c',v9= .slice A' (cU pl l).length c'∧cs=plF b A c N pl++[sl .i64 3 A' (cU pl l).length c' (cU pl l)]):=by
 refine bL func190 rfl ntmps190 rfl hi ?_;refine jW ?_;refine dB 3 1 ?_;refine Z_6 ?_;refine cJ (fun q:Nat×List Int×Option Addr×Nat=>[(1,.pointer (some ⟨b,0,none⟩)),(4,.slice q.2.2.1 q.2.1.length q.2.2.2),(7,.slice B l.length cb),(8,.int .i64 l.length),(9,.int .i64 (q.1:Int))]) (fun q=>[row b [.slice A N c] 64,sl .i64 3 A N c pl,sl .i64 3 q.2.2.1 q.2.1.length q.2.2.2 q.2.1]) (fun q=>q.1≤l.length∧q.2.1=cU pl (l.take q.1)) (fun q=>l.length - q.1) (⟨0,[],none,0⟩) ?_ ?_ ?_ ?_
 ·exact⟨aw _,rfl⟩
 ·exact Zwk
 ·exact Zu
 rintro⟨k,m,A1,c1⟩ ⟨hk,hm⟩;dsimp only at hk hm⊢;have hml:m.length=k:=(by rw[hm];unfold cU;rw[List.length_map,az];omega);refine Z_6 ?_;refine ZW ?_ ?_<;>intro hc3
 ·simp only[ap]at hc3;have hkl:k<l.length:=(by omega);obtain⟨ad,had⟩:=(hR w (dQ.refl _ _)).some_ (by omega);have hR2:∀w',dQ (bK (plF b A c N pl)) w w'→RdV w' 1 (some ad) l.length cb (ints .i64 l):=(fun w' hk=>had▸hR w' hk);obtain⟨x,hx⟩:∃x,l[k]? =some x:=⟨_,ak hkl⟩;obtain⟨hx0,hx1⟩:=hin x (aK hx);obtain⟨n,rfl⟩:∃n:Nat,x=n:=ar hx0;rw[aS]at hx1;obtain⟨bs,rfl⟩:=gj (hi.get (show Has _ (sl .i64 3 A N c pl)from Zh)) (by omega);have hm2:cU pl (l.take (k+1))=m++[pl.getD n 0]:=(by rw[List.take_add_one,hx,hm];unfold cU;rw[List.map_append];rfl);refine Z_6 ?_;refine Zy (eV (j:=k) had rfl Zrf Zv0 Zv0 Zrf (fun _=>hkl)) ?_;refine dU (bM Zrf Zv0) (ju (v:= .int .i64 n) hR2 (df hx)) rfl ?_;refine Z_7 ?_;refine Zy (cI (bb:=bs) (o:=0) (n:=N) (c:=c) (j:=n) (sz:=1) (r:=n) rfl Zrf (Zv rfl) (Zv rfl) Zrf (fun _=>by omega) (by omega)) ?_;refine dU (bM Zrf Zv0) (dE Zh (eL hx1)) rfl ?_;refine dM (cm rfl rfl Zrf Zrf rfl rfl) rfl ?_;rintro _ _ ⟨b18,rfl,rfl⟩;refine dM (cM (n:=m.length) (e:=3) (sz:=1) (bytes:=8) rfl rfl Za rfl rfl (fun w hi=>hi.rd (show Has _ (slv 3 1 (some ⟨b18,0,none⟩) 1 1 (ints .i64 [pl.getD n 0]))from Zh)) cY (by simp only[maxLen];omega) (by omega)) rfl ?_;rintro _ _ ⟨A2,c2,rfl,rfl⟩;rw[cD,show m.length+1=(m++[pl.getD n 0]).length by simp];refine Z_5 ?_;refine Zy (cF Zv0 Zv0 Zl) ?_;refine Z_2 ?_;refine cz ((⟨k+1,m++[pl.getD n 0],A2,c2⟩:Nat×List Int×Option Addr×Nat)) ?_ ?_ ?_
  ·exact⟨⟨by omega,hm2.symm⟩,by dsimp only;omega⟩
  ·exact Zwk
  exact Zj
 simp only[aj]at hc3;obtain rfl:k=l.length:=by omega
 rw[bA]at hm;subst hm;refine gK ?_;refine Zrb ([row _ _ _,slv _ _ _ _ _ _,slv _ _ _ _ _ _]) ?_;exact⟨_,_,rfl,rfl⟩
end Go.Proofs.YtomjgmbccamgiaaGreatDoor
namespace Go.Ink
open Go.RowKit
theorem vA{U:List Bool}{j:Nat}(h:j<U.length):(U.map Value.bool)[j]? =some (.bool (U.getD j false)):=by simp[ak h]
end Go.Ink
namespace Go.Proofs.YtomjgmbccamgiaaGreatDoor
open Go.RowKit Go.Ink Go.Proofs.Tryz
attribute [local irreducible] OpY bW
abbrev pg0(b:Nat):bJ:=row b [.slice none 0 0,.int .i64 0,.int .i64 0,.int .i64 0,.int .i64 0,.slice none 0 0,.slice none 0 0,.int .i64 0,.int .u32 0,.int .i64 0,.int .i64 0,.int .u32 0,.int .i64 0,.int .i64 0] 232
theorem Fx(p:Pg)(Q:PAd)(hraw:Raw p)(hv:p.values=p.code.length)(hm:p.code.length≤500)(hoD:p.Iq.length≤500)(hoR:p.Ir.length≤500)(w:World)(h:zT p Q w):
  Ctr prog 146 [pgv p Q] w [] (fun v9 cs=>∃Q',v9=pgv (cN p) Q'∧cs=[slv 281 5 Q'.Ac (cN p).code.length Q'.cc ((cN p).code.flatMap II.cells),sl .i64 3 Q'.Ad (cN p).Iq.length Q'.cd (cN p).Iq,sl .i64 3 Q'.Ar (cN p).Ir.length Q'.cr (cN p).Ir]):=by
 have hrc:=h.code;obtain⟨N,hN⟩:=Zgn (p.code.length);have hU0:fU p=kf p.code N (iE (iE (iE (List.replicate N false) p.Iq) p.Ir) [p.flags,p.target]):=by unfold fU AU;rw[hN]
 have hiD:∀n,n∈p.Iq→n≠ -1→0≤n∧n.toNat<N:=fun n hn _=>by have:=hraw.Iq n hn;unfold II.in_ at this;omega
 have hiR:∀n,n∈p.Ir→n≠ -1→0≤n∧n.toNat<N:=fun n hn _=>by have:=hraw.Ir n hn;unfold II.in_ at this;omega
 have hiF:∀n,n∈[p.flags,p.target]→n≠ -1→0≤n∧n.toNat<N:=fun n hn h1=>by
  simp only[aM,a9,or_false]at hn;rcases hn with rfl|rfl
  ·rcases hraw.flags with h2|h2
   ·exact absurd h2 h1
   unfold II.in_ at h2;omega
  rcases hraw.target with h2|h2
  ·exact absurd h2 h1
  unfold II.in_ at h2;omega
 have hvN:p.values=N:=by rw[hv,hN]
 have hoD2:∀n,n∈p.Iq→0≤n∧n.toNat<N:=fun n hn=>by have:=hraw.Iq n hn;unfold II.in_ at this;omega
 have hoR2:∀n,n∈p.Ir→0≤n∧n.toNat<N:=fun n hn=>by have:=hraw.Ir n hn;unfold II.in_ at this;omega
 have hfl:p.flags≠ -1→∃n:Nat,p.flags=n∧n<N:=fun h1=>by
  rcases hraw.flags with h2|h2
  ·exact absurd h2 h1
  unfold II.in_ at h2;exact⟨p.flags.toNat,by omega,by omega⟩
 have htg:p.target≠ -1→∃n:Nat,p.target=n∧n<N:=fun h1=>by
  rcases hraw.target with h2|h2
  ·exact absurd h2 h1
  unfold II.in_ at h2;exact⟨p.target.toNat,by omega,by omega⟩
 obtain⟨Z,hZ⟩:=Zgn (List.replicate N false);have hZl:Z.length=N:=by rw[←hZ];simp
 have hZv:(List.replicate N (.bool false:Value))=Z.map Value.bool:=by rw[←hZ];simp
 rw[hZ]at hU0;obtain⟨P0,hP0⟩:=Zgn (List.replicate N (0:Int));have hP0l:P0.length=N:=by rw[←hP0];simp
 have hPv:(List.replicate N (.int .i64 0:Value))=ints .i64 P0:=by rw[←hP0];simp[ints]
 refine bL func146 rfl ntmps146 rfl (Inv.start w) ?_;refine Z_2 ?_;refine ZO fun b1=>?_;refine ZN fun b2=>?_
 refine Z_6 ?_;refine dM (jr (bytes:=1) (n:=N) rfl rfl rfl rfl rfl hvN hvN (by omega) (by simp only[maxLen];omega)) rfl ?_;rintro _ _ ⟨b14,rfl,rfl⟩;rw[hZv];refine ZN fun b3=>?_
 refine ZL ?_;refine Z_4 ?_;refine Zy (kP rfl) ?_;refine Z_8 ?_;refine dM (fx (usF b3 (some ⟨b14,0,none⟩) N N Z) rfl rfl (fun _ _=>rfl) Zi (fun w hi hin=>nL b3 (some ⟨b14,0,none⟩) N N Z hZl Q.Ad Q.cd p.Iq (by omega) (by rw[hZl];exact hiD) w hin (fun w' hk=>RdV.Iz h.Iq hi Zi hk))) rfl ?_;rintro _ _ ⟨_,rfl,rfl⟩;obtain⟨U1,hU1⟩:=Zgn (iE Z p.Iq);have hl1:U1.length=N:=(by rw[←hU1,fY,hZl]);rw[hU1]at hU0⊢;refine Z_7 ?_;refine dM (fx (usF b3 (some ⟨b14,0,none⟩) N N U1) rfl rfl (fun _ _=>rfl) Zi (fun w hi hin=>nL b3 (some ⟨b14,0,none⟩) N N U1 hl1 Q.Ar Q.cr p.Ir (by omega) (by rw[hl1];exact hiR) w hin (fun w' hk=>RdV.Iz h.Ir hi Zi hk))) rfl ?_;rintro _ _ ⟨_,rfl,rfl⟩;obtain⟨U2,hU2⟩:=Zgn (iE U1 p.Ir);have hl2:U2.length=N:=(by rw[←hU2,fY,hl1]);rw[hU2]at hU0⊢;refine Z_9 ?_;refine dM (cm rfl rfl Zrf Zrf rfl rfl) rfl ?_;rintro _ _ ⟨b29,rfl,rfl⟩;refine dM (fx (usF b3 (some ⟨b14,0,none⟩) N N U2) rfl rfl (fun _ _=>rfl) Zi (fun w hi hin=>nL b3 (some ⟨b14,0,none⟩) N N U2 hl2 (some ⟨b29,0,none⟩) 2 [p.flags,p.target] (by simp) (by rw[hl2];exact hiF) w hin (fun w' hk=>dq (hi.IY Zi (show Has _ (slv 3 1 (some ⟨b29,0,none⟩) 2 2 (ints .i64 [p.flags,p.target]))from Zh) hk)))) rfl ?_;rintro _ _ ⟨_,rfl,rfl⟩;obtain⟨U3,hU3⟩:=Zgn (iE U2 [p.flags,p.target]);have hl3:U3.length=N:=(by rw[←hU3,fY,hl2]);rw[hU3]at hU0⊢;refine Z_7 ?_;refine Zy (eP (Zv rfl) (Zv rfl) (show _=(N:Int) - 1 from by rw[hvN,bI];omega)) ?_;refine Z_4 ?_;refine cJ (fun q:Nat×List Bool=>[(1,.pointer (some ⟨b1,0,none⟩)),(2,.pointer (some ⟨b2,0,none⟩)),(3,.pointer (some ⟨b3,0,none⟩)),(4,.func (.func 189) #[] #[.pointer (some ⟨b3,0,none⟩)]),(5,.int .i64 ((q.1:Int) - 1))]) (fun q=>[row b3 [.slice (some ⟨b14,0,none⟩) N N] 161,slv 4 1 (some ⟨b14,0,none⟩) N N (q.2.map Value.bool),row b1 (jm p Q) 232,pg0 b2]) (fun q=>q.1≤N∧q.2.length=N∧kf p.code q.1 q.2=fU p) (fun q=>q.1) (⟨N,U3⟩) ?_ ?_ ?_ ?_
 ·exact⟨aQ _,hl3,hU0.symm⟩
 ·exact Zwk
 ·exact Zu
 rintro⟨k,V⟩ ⟨hk,hV,hB⟩;dsimp only at hk hV hB⊢;refine Z_7 ?_;refine ZW ?_ ?_<;>intro hc7
 ·simp only[ap]at hc7;obtain⟨j,rfl⟩:∃j,k=j+1:=⟨k - 1,by omega⟩;have hjN:j<p.code.length:=(by omega);have hj5:((j+1:Nat):Int) - 1=(j:Int):=(by omega);rw[hj5];obtain⟨ad,had⟩:=hrc.some_ (by omega);have hrc2:=hrc;rw[had]at hrc2;obtain⟨x,hx⟩:∃x,p.code[j]? =some x:=⟨_,ak hjN⟩;have hgx:p.code.getD j II.zero=x:=(by rw[ax,hx];rfl);have hB:kf p.code j (bif V.getD j false&&kp (p.code.getD j II.zero)then iE V [(p.code.getD j II.zero).a,(p.code.getD j II.zero).b]else V)=fU p:=hB;rw[hgx]at hB;obtain⟨op,dst,xa,xb,imm⟩:=x;dsimp only at hB;refine Z_9 ?_;refine Zy (eV (j:=j) had rfl Zrf Zv0 Zv0 Zrf (fun _=>hjN)) ?_;refine dU (cC (vs:=[.int .i64 op,.int .i64 dst,.int .i64 xa,.int .i64 xb,.int .u32 imm]) Zrf Zrf Zv0) (fC hrc2 (fun i v hi=>fF (f:=II.cells) Zrf (i:=i) hx hi)) rfl ?_;refine ZN fun b6=>?_
  refine ZM ?_;refine Z_6 ?_;refine Zy (cI (bb:=b14) (o:=0) (n:=N) (c:=N) (j:=j) (sz:=1) (r:=j) rfl Zrf (Zv rfl) (Zv rfl) Zrf (fun _=>by omega) (by omega)) ?_;refine dU (bM Zrf (Zv rfl)) (dE Zh (vA (by omega))) rfl ?_;refine gK ?_;refine ZW ?_ ?_<;>intro hc10
  ·have hc:(V.getD j false&&kp ⟨op,dst,xa,xb,imm⟩)=true:=hc10;rw[hc,ac]at hB;obtain⟨-,hab⟩:=Bool.and_eq_true_iff.1 hc;have hxi:=hraw.wf j _ hx hab;dsimp only at hxi;refine Z_6 ?_;refine dM (cm rfl rfl Zrf Zrf rfl rfl) rfl ?_;rintro _ _ ⟨b62,rfl,rfl⟩;refine dM (fx (usF b3 (some ⟨b14,0,none⟩) N N V) rfl rfl (fun _ _=>rfl) Zi (fun w hi hin=>nL b3 (some ⟨b14,0,none⟩) N N V hV (some ⟨b62,0,none⟩) 2 [xa,xb] (by simp) (fun n hn _=>by simp only[aM,a9,or_false]at hn;rcases hn with rfl|rfl<;>omega) w hin (fun w' hk=>dq (hi.IY Zi (show Has _ (slv 3 1 (some ⟨b62,0,none⟩) 2 2 (ints .i64 [xa,xb]))from Zh) hk)))) rfl ?_;rintro _ _ ⟨_,rfl,rfl⟩;refine Z_5 ?_;refine Zy (eP Zv0 Zv0 Zl) ?_;refine Z_2 ?_;refine cz ((⟨j,iE V [xa,xb]⟩:Nat×List Bool)) ?_ ?_ ?_
   ·exact⟨⟨by omega,by dsimp only;rw[fY,hV],hB⟩,by dsimp only;omega⟩
   ·exact Zwk
   exact Zj
  have hc:(V.getD j false&&kp ⟨op,dst,xa,xb,imm⟩)=false:=hc10;rw[hc,aa]at hB;refine Z_5 ?_;refine Zy (eP Zv0 Zv0 Zl) ?_;refine Z_2 ?_;refine cz ((⟨j,V⟩:Nat×List Bool)) ?_ ?_ ?_
  ·exact⟨⟨by omega,hV,hB⟩,by dsimp only;omega⟩
  ·exact Zwk
  exact Zj
 simp only[aj]at hc7;obtain rfl:k=0:=by omega
 have hB:V=fU p:=hB;subst hB;refine Z_9 ?_;refine dM (jr (bytes:=8) (n:=N) rfl rfl rfl rfl rfl hvN hvN (by omega) (by simp only[maxLen];omega)) rfl ?_;rintro _ _ ⟨b66,rfl,rfl⟩;rw[hPv];refine ZN fun b7=>?_
 refine ZL ?_;refine eK ?_;refine dB 281 5 ?_;refine Z_7 ?_;refine cJ (fun q:Nat×List Int×List II×Option Addr×Nat=>[(1,.pointer (some ⟨b1,0,none⟩)),(2,.pointer (some ⟨b2,0,none⟩)),(3,.pointer (some ⟨b3,0,none⟩)),(7,.pointer (some ⟨b7,0,none⟩)),(8,.slice q.2.2.2.1 q.2.2.1.length q.2.2.2.2),(68,.slice Q.Ac p.code.length Q.cc),(69,.int .i64 p.code.length),(70,.int .i64 (q.1:Int))]) (fun q=>[row b3 [.slice (some ⟨b14,0,none⟩) N N] 161,slv 4 1 (some ⟨b14,0,none⟩) N N ((fU p).map Value.bool),row b1 (jm p Q) 232,pg0 b2,sl .i64 3 (some ⟨b66,0,none⟩) N N q.2.1,row b7 [.slice (some ⟨b66,0,none⟩) N N] 64,slv 281 5 q.2.2.2.1 q.2.2.1.length q.2.2.2.2 (q.2.2.1.flatMap II.cells)]) (fun q=>q.1≤N∧q.2.1.length=N∧q.2.2.1.length≤q.1∧kF (fU p) (p.code.drop q.1) q.1 q.2.1 q.2.2.1=eu p) (fun q=>N - q.1) (⟨0,P0,[],none,0⟩) ?_ ?_ ?_ ?_
 ·exact⟨aw _,hP0l,aw _,by unfold eu;rw[hN,hP0];rfl⟩
 ·exact Zwk
 ·exact Zu
 rintro⟨i,pl,c,A,cc⟩ ⟨hi9,hpl,hcl,hW⟩;dsimp only at hi9 hpl hcl hW⊢;refine Z_6 ?_;refine ZW ?_ ?_<;>intro hc15
 ·simp only[ap]at hc15;have hiN:i<p.code.length:=(by omega);obtain⟨ad,had⟩:=hrc.some_ (by omega);have hrc2:=hrc;rw[had]at hrc2;obtain⟨x,hx⟩:∃x,p.code[i]? =some x:=⟨_,ak hiN⟩;rw[ji hx]at hW;have hW:(bif(fU p).getD i false then kF (fU p) (p.code.drop (i+1)) (i+1) (pl.set i (c.length:Int)) (c++[mT x (pl.set i (c.length:Int)) c.length])else kF (fU p) (p.code.drop (i+1)) (i+1) pl c)=eu p:=hW;have hwf:=hraw.wf i x hx;obtain⟨op,dst,xa,xb,imm⟩:=x;dsimp only at hwf;refine Z_7 ?_;refine Zy (eV (j:=i) had rfl Zrf Zv0 Zv0 Zrf (fun _=>hiN)) ?_;refine dU (cC (vs:=[.int .i64 op,.int .i64 dst,.int .i64 xa,.int .i64 xb,.int .u32 imm]) Zrf Zrf Zv0) (fC hrc2 (fun j v hj=>fF (f:=II.cells) Zrf (i:=j) hx hj)) rfl ?_;refine ZN fun b10=>?_
  refine ZA ?_;refine ZM ?_;refine Z_7 ?_;refine Zy (cI (bb:=b14) (o:=0) (n:=N) (c:=N) (j:=i) (sz:=1) (r:=i) rfl Zrf (Zv rfl) (Zv rfl) Zrf (fun _=>by omega) (by omega)) ?_;refine dU (bM Zrf (Zv rfl)) (dE Zh (vA (by omega))) rfl ?_;refine Z_3 ?_;refine ZW ?_ ?_<;>intro hc17
  ·have hu:(fU p).getD i false=false:=(by simpa using hc17);rw[hu,aa]at hW;refine Z_5 ?_;refine Zy (cF Zv0 Zv0 Zl) ?_;refine Z_2 ?_;refine cz ((⟨i+1,pl,c,A,cc⟩:Nat×List Int×List II×Option Addr×Nat)) ?_ ?_ ?_
   ·exact⟨⟨by omega,hpl,by dsimp only;omega,hW⟩,by dsimp only;omega⟩
   ·exact Zwk
   exact Zj
  have hu:(fU p).getD i false=true:=(by simpa using hc17);rw[hu,ac]at hW;obtain⟨pl2,hpl2⟩:=Zgn (pl.set i (c.length:Int));have hpl2l:pl2.length=N:=(by rw[←hpl2,aL,hpl]);rw[hpl2]at hW;refine Z_8 ?_;refine Zy (cI (bb:=b66) (o:=0) (n:=N) (c:=N) (j:=i) (sz:=1) (r:=i) rfl Zrf (Zv rfl) (Zv rfl) Zrf (fun _=>by omega) (by omega)) ?_;refine dz (gi Zrf rfl rfl rfl Za (by omega)) ?_;rintro _ _ ⟨rfl,rfl⟩;rw[lZ,hpl2];refine Z_2 ?_;refine de (fun q:Int×Int=>[(1,.pointer (some ⟨b1,0,none⟩)),(2,.pointer (some ⟨b2,0,none⟩)),(3,.pointer (some ⟨b3,0,none⟩)),(7,.pointer (some ⟨b7,0,none⟩)),(8,.slice A c.length cc),(10,.pointer (some ⟨b10,0,none⟩)),(68,.slice Q.Ac p.code.length Q.cc),(69,.int .i64 p.code.length),(70,.int .i64 (i:Int))]) (fun q=>[row b3 [.slice (some ⟨b14,0,none⟩) N N] 161,slv 4 1 (some ⟨b14,0,none⟩) N N ((fU p).map Value.bool),row b1 (jm p Q) 232,pg0 b2,row b7 [.slice (some ⟨b66,0,none⟩) N N] 64,sl .i64 3 (some ⟨b66,0,none⟩) N N pl2,slv 281 5 A c.length cc (c.flatMap II.cells),row b10 [.int .i64 op,.int .i64 dst,.int .i64 q.1,.int .i64 q.2,.int .u32 imm] 281]) (fun q=>mT ⟨op,dst,xa,xb,imm⟩ pl2 c.length=⟨op,c.length,q.1,q.2,imm⟩) ?_ ?_
  ·refine gK ?_;refine ZW ?_ ?_<;>intro hc19
   ·have hab:kp ⟨op,dst,xa,xb,imm⟩=true:=hc19;obtain⟨⟨a1,a2⟩,a3,a4⟩:=hwf hab;obtain⟨na,rfl⟩:∃n:Nat,xa=n:=ar a1;obtain⟨nb,rfl⟩:∃n:Nat,xb=n:=ar a3;have hsw:mT ⟨op,dst,na,nb,imm⟩ pl2 c.length=⟨op,c.length,pl2.getD na 0,pl2.getD nb 0,imm⟩:=(by unfold mT;rw[hab];rfl);refine cj ⟨fun j=>List.elem j [11,13],[]⟩ Zk ?_;refine ZG 0 ?_;refine ZFe 1 2 ?_;refine ZG 2 ?_;refine cR 3 rfl Zk Zk Zk (cI (bb:=b66) (o:=0) (n:=N) (c:=N) (j:=na) (sz:=1) (r:=na) rfl Zrf (Zv rfl) (Zv rfl) Zrf (fun _=>by omega) (by omega)) rfl ?_;refine eQ 4 rfl Zk Zk Zk Zk (bM Zrf (Zv rfl)) (dE Zh (eL (by omega))) rfl ?_;refine ZFe 6 3 ?_;refine ZG 7 ?_;refine ZFe 10 2 ?_;refine j4 5 11 Zk ?_ ?_
    ·refine eN rfl (bM Zrf Zv0) (bR Zh rfl) rfl ?_;refine cR 8 rfl Zk Zk Zk (cI (bb:=b66) (o:=0) (n:=N) (c:=N) (j:=nb) (sz:=1) (r:=nb) rfl Zrf (Zv rfl) (Zv rfl) Zrf (fun _=>by omega) (by omega)) rfl ?_;refine j4 9 11 Zk ?_ ?_
     ·refine eN rfl (bM Zrf (Zv rfl)) (dE Zh (eL (by omega))) rfl ?_;refine cE 11 Zk ?_;refine ZQ ?_;refine ZFe 12 3 ?_;refine cE 13 Zk ?_;refine ZQ ?_;refine bO Zk ?_;refine cz ((⟨pl2.getD na 0,pl2.getD nb 0⟩:Int×Int)) ?_ ?_ ?_
      ·exact hsw
      ·exact Zwk
      exact Zj
     refine ZQ ?_;refine eQ 9 rfl Zk Zk Zk Zk (bM Zrf (Zv rfl)) (dE Zh (eL (by omega))) rfl ?_;refine ZFe 12 3 ?_;refine cE 13 Zk ?_;refine ZQ ?_;refine bO Zk ?_;refine cz ((⟨pl2.getD na 0,pl2.getD nb 0⟩:Int×Int)) ?_ ?_ ?_
     ·exact hsw
     ·exact Zwk
     exact Zj
    refine ZQ ?_;refine ZG 5 ?_;refine cR 8 rfl Zk Zk Zk (cI (bb:=b66) (o:=0) (n:=N) (c:=N) (j:=nb) (sz:=1) (r:=nb) rfl Zrf (Zv rfl) (Zv rfl) Zrf (fun _=>by omega) (by omega)) rfl ?_;refine eQ 9 rfl Zk Zk Zk Zk (bM Zrf (Zv rfl)) (dE Zh (eL (by omega))) rfl ?_;refine ZFe 12 3 ?_;refine cE 13 Zk ?_;refine ZQ ?_;refine bO Zk ?_;refine cz ((⟨pl2.getD na 0,pl2.getD nb 0⟩:Int×Int)) ?_ ?_ ?_
    ·exact hsw
    ·exact Zwk
    exact Zj
   have hab:kp ⟨op,dst,xa,xb,imm⟩=false:=hc19;have hsw:mT ⟨op,dst,xa,xb,imm⟩ pl2 c.length=⟨op,c.length,xa,xb,imm⟩:=(by unfold mT;rw[hab];rfl);refine Zc ?_;refine cz ((⟨xa,xb⟩:Int×Int)) ?_ ?_ ?_
   ·exact hsw
   ·exact Zwk
   exact Zj
  rintro⟨ya,yb⟩ hsw;dsimp only at hsw⊢;rw[hsw]at hW;refine Z_5 ?_;refine ZL ?_;refine Z_5 ?_;refine dM (di rfl rfl Zrf Zrf rfl rfl rfl) rfl ?_;rintro _ _ ⟨b110,rfl,rfl⟩;refine dM (cM (n:=c.length) (e:=281) (sz:=5) (bytes:=40) rfl rfl Za rfl rfl (fun w hi=>hi.rd (show Has _ (slv 281 5 (some ⟨b110,0,none⟩) 1 1 [.int .i64 op,.int .i64 c.length,.int .i64 ya,.int .i64 yb,.int .u32 imm])from Zh)) (one5 _ _ _ _ _) (by simp only[maxLen];omega) (by omega)) rfl ?_;rintro _ _ ⟨A2,c2,rfl,rfl⟩;rw[DF c ⟨op,c.length,ya,yb,imm⟩,show c.length+1=(c++[(⟨op,c.length,ya,yb,imm⟩:II)]).length by simp];refine Z_5 ?_;refine Zy (cF Zv0 Zv0 Zl) ?_;refine Z_2 ?_;refine cz ((⟨i+1,pl2,c++[⟨op,c.length,ya,yb,imm⟩],A2,c2⟩:Nat×List Int×List II×Option Addr×Nat)) ?_ ?_ ?_
  ·exact⟨⟨by omega,hpl2l,by simp;omega,hW⟩,by dsimp only;omega⟩
  ·exact Zwk
  exact Zj
 simp only[aj]at hc15;obtain rfl:i=N:=(by omega);rw[List.drop_of_length_le (by omega)]at hW;have hW:(pl,c)=eu p:=hW;have hsT:∀fl tg,eA pl p.flags=fl→eA pl p.target=tg→cN p=⟨c,p.Ii,p.Ij,p.IK,p.IN,cU pl p.Iq,cU pl p.Ir,fl,p.next,tg,p.branch,p.taken,p.count,c.length⟩:=(by intro fl tg h1 h2;unfold cN;rw[←hW];dsimp only;rw[h1,h2]);refine Z_7 ?_;refine Zy (kP rfl) ?_;refine Z_4 ?_;refine eM ⟨fun j=>List.elem j [6,10,12,14,16,18],[]⟩ [(0,0),(1,0),(2,0),(3,0),(4,0),(5,4),(7,0),(8,0),(6,3),(9,3),(10,3),(11,3),(12,3),(13,3),(14,3),(15,3),(16,3),(17,3),(18,3)] Zk Zk ?_;refine bU rfl (cy Zv0) rfl ?_;refine bU rfl (cy Zv0) rfl ?_;refine bU rfl (y_len ⟨_,rfl⟩ Zv0) rfl ?_;refine bU rfl (cy Zv0) rfl ?_;refine bU rfl (cA 5 rfl Zv0 Zf) rfl ?_;refine iL rfl (bM Zrf Zv0) (bR Zh rfl) rfl ?_;refine bU rfl (cy Zv0) rfl ?_;refine bU rfl (cA 6 rfl Zv0 Zf) rfl ?_;refine EW [(6,[(9,1),(11,0),(10,2),(12,2),(13,0),(14,2),(15,0),(16,2),(17,0),(18,2)]),(9,[(11,0),(6,2),(10,2),(12,2),(13,0),(14,2),(15,0),(16,2),(17,0),(18,2)])] Zk (.cons ?_ (.cons ?_ .nil))
 ·refine fa rfl rfl (fx (plF b7 (some ⟨b66,0,none⟩) i i pl) rfl rfl (fun _ _=>rfl) Zi (fun w hi hin=>mw b7 (some ⟨b66,0,none⟩) i i pl hpl Q.Ad Q.cd p.Iq (by omega) (by rw[hpl];exact hoD2) w hin (fun w' hk=>RdV.Iz h.Iq hi Zi hk))) ZJ rfl ?_;rintro _ _ ⟨_,⟨A3,c3,rfl,rfl⟩,rfl⟩;refine fJ rfl (bM Zrf Zv0) (bR Zh rfl) rfl ?_;refine bU rfl (cA 0 rfl Zv0 Zf) rfl ?_;refine et rfl ?_;refine fa rfl rfl (fx (plF b7 (some ⟨b66,0,none⟩) i i pl) rfl rfl (fun _ _=>rfl) Zi (fun w hi hin=>mw b7 (some ⟨b66,0,none⟩) i i pl hpl Q.Ar Q.cr p.Ir (by omega) (by rw[hpl];exact hoR2) w hin (fun w' hk=>RdV.Iz h.Ir hi Zi hk))) ZJ rfl ?_;rintro _ _ ⟨_,⟨A4,c4,rfl,rfl⟩,rfl⟩;refine et rfl ?_;refine dN rfl rfl (fo Zrf rfl rfl rfl Za Zp) ZJ ?_;rintro _ _ ⟨rfl,rfl⟩;refine bU rfl (cA 13 rfl Zv0 Zf) rfl ?_;refine et rfl ?_;refine dN rfl rfl (fo Zrf rfl rfl rfl Za Zp) ZJ ?_;rintro _ _ ⟨rfl,rfl⟩;refine bU rfl (cA 5 rfl Zv0 Zf) rfl ?_;refine et rfl ?_;refine dN rfl rfl (fo Zrf rfl rfl rfl Za Zp) ZJ ?_;rintro _ _ ⟨rfl,rfl⟩;refine bU rfl (cA 6 rfl Zv0 Zf) rfl ?_;refine et rfl ?_;refine dN rfl rfl (fo Zrf rfl rfl rfl Za Zp) ZJ ?_;rintro _ _ ⟨rfl,rfl⟩;refine dA ?_;refine Z_9 ?_;refine ZW ?_ ?_<;>intro hc26
  ·have hf1:p.flags≠ -1:=(by simpa using hc26);obtain⟨nf,hnf,hnf2⟩:=hfl hf1;have hm1:eA pl p.flags=pl.getD nf 0:=(by unfold eA;rw[hc26,ac,hnf,aS]);refine Z_4 ?_;refine Zy (cI (bb:=b66) (o:=0) (n:=i) (c:=i) (j:=nf) (sz:=1) (r:=nf) rfl Zrf (Zv rfl) (Zv rfl) (fun _=>hnf) (fun _=>by omega) (by omega)) ?_;refine dU (bM Zrf (Zv rfl)) (dE Zh (eL (by omega))) rfl ?_;refine Z_1 ?_;refine ZL ?_;refine eK ?_;refine ZW ?_ ?_<;>intro hc28
   ·have ht1:p.target≠ -1:=(by simpa using hc28);obtain⟨nt,hnt,hnt2⟩:=htg ht1;have hm2:eA pl p.target=pl.getD nt 0:=(by unfold eA;rw[hc28,ac,hnt,aS]);refine Z_4 ?_;refine Zy (cI (bb:=b66) (o:=0) (n:=i) (c:=i) (j:=nt) (sz:=1) (r:=nt) rfl Zrf (Zv rfl) (Zv rfl) (fun _=>hnt) (fun _=>by omega) (by omega)) ?_;refine dU (bM Zrf (Zv rfl)) (dE Zh (eL (by omega))) rfl ?_;refine Z_1 ?_;refine ZL ?_;refine Z_5 ?_;refine ZM ?_;refine Z_3 ?_;refine bQ [row b2 _ _,slv 281 5 A c.length cc (c.flatMap II.cells),sl .i64 3 A3 (cU pl p.Iq).length c3 (cU pl p.Iq),sl .i64 3 A4 (cU pl p.Ir).length c4 (cU pl p.Ir)] Zj ?_;refine kk (cs':=[slv _ _ _ _ _ _,slv _ _ _ _ _ _,slv _ _ _ _ _ _]) (.inl rfl) Zu rfl rfl Zh Zrf Zrf ?_;rw[hsT _ _ hm1 hm2];exact⟨⟨A,cc,A3,c3,A4,c4⟩,rfl,rfl⟩
   have hm2:eA pl p.target=p.target:=(by unfold eA;rw[hc28,aa]);refine Z_5 ?_;refine ZM ?_;refine Z_3 ?_;refine bQ [row b2 _ _,slv 281 5 A c.length cc (c.flatMap II.cells),sl .i64 3 A3 (cU pl p.Iq).length c3 (cU pl p.Iq),sl .i64 3 A4 (cU pl p.Ir).length c4 (cU pl p.Ir)] Zj ?_;refine kk (cs':=[slv _ _ _ _ _ _,slv _ _ _ _ _ _,slv _ _ _ _ _ _]) (.inl rfl) Zu rfl rfl Zh Zrf Zrf ?_;rw[hsT _ _ hm1 hm2];exact⟨⟨A,cc,A3,c3,A4,c4⟩,rfl,rfl⟩
  have hm1:eA pl p.flags=p.flags:=(by unfold eA;rw[hc26,aa]);refine eK ?_;refine ZW ?_ ?_<;>intro hc28
  ·have ht1:p.target≠ -1:=(by simpa using hc28);obtain⟨nt,hnt,hnt2⟩:=htg ht1;have hm2:eA pl p.target=pl.getD nt 0:=(by unfold eA;rw[hc28,ac,hnt,aS]);refine Z_4 ?_;refine Zy (cI (bb:=b66) (o:=0) (n:=i) (c:=i) (j:=nt) (sz:=1) (r:=nt) rfl Zrf (Zv rfl) (Zv rfl) (fun _=>hnt) (fun _=>by omega) (by omega)) ?_;refine dU (bM Zrf (Zv rfl)) (dE Zh (eL (by omega))) rfl ?_;refine Z_1 ?_;refine ZL ?_;refine Z_5 ?_;refine ZM ?_;refine Z_3 ?_;refine bQ [row b2 _ _,slv 281 5 A c.length cc (c.flatMap II.cells),sl .i64 3 A3 (cU pl p.Iq).length c3 (cU pl p.Iq),sl .i64 3 A4 (cU pl p.Ir).length c4 (cU pl p.Ir)] Zj ?_;refine kk (cs':=[slv _ _ _ _ _ _,slv _ _ _ _ _ _,slv _ _ _ _ _ _]) (.inl rfl) Zu rfl rfl Zh Zrf Zrf ?_;rw[hsT _ _ hm1 hm2];exact⟨⟨A,cc,A3,c3,A4,c4⟩,rfl,rfl⟩
  have hm2:eA pl p.target=p.target:=(by unfold eA;rw[hc28,aa]);refine Z_5 ?_;refine ZM ?_;refine Z_3 ?_;refine bQ [row b2 _ _,slv 281 5 A c.length cc (c.flatMap II.cells),sl .i64 3 A3 (cU pl p.Iq).length c3 (cU pl p.Iq),sl .i64 3 A4 (cU pl p.Ir).length c4 (cU pl p.Ir)] Zj ?_;refine kk (cs':=[slv _ _ _ _ _ _,slv _ _ _ _ _ _,slv _ _ _ _ _ _]) (.inl rfl) Zu rfl rfl Zh Zrf Zrf ?_;rw[hsT _ _ hm1 hm2];exact⟨⟨A,cc,A3,c3,A4,c4⟩,rfl,rfl⟩
 refine BO rfl (bM Zrf Zv0) (bR Zh rfl) rfl ?_;refine bU rfl (cA 0 rfl Zv0 Zf) rfl ?_;refine et rfl ?_;refine fa rfl rfl (fx (plF b7 (some ⟨b66,0,none⟩) i i pl) rfl rfl (fun _ _=>rfl) Zi (fun w hi hin=>mw b7 (some ⟨b66,0,none⟩) i i pl hpl Q.Ad Q.cd p.Iq (by omega) (by rw[hpl];exact hoD2) w hin (fun w' hk=>RdV.Iz h.Iq hi Zi hk))) ZJ rfl ?_;rintro _ _ ⟨_,⟨A3,c3,rfl,rfl⟩,rfl⟩;refine et rfl ?_;refine fa rfl rfl (fx (plF b7 (some ⟨b66,0,none⟩) i i pl) rfl rfl (fun _ _=>rfl) Zi (fun w hi hin=>mw b7 (some ⟨b66,0,none⟩) i i pl hpl Q.Ar Q.cr p.Ir (by omega) (by rw[hpl];exact hoR2) w hin (fun w' hk=>RdV.Iz h.Ir hi Zi hk))) ZJ rfl ?_;rintro _ _ ⟨_,⟨A4,c4,rfl,rfl⟩,rfl⟩;refine et rfl ?_;refine dN rfl rfl (fo Zrf rfl rfl rfl Za Zp) ZJ ?_;rintro _ _ ⟨rfl,rfl⟩;refine bU rfl (cA 13 rfl Zv0 Zf) rfl ?_;refine et rfl ?_;refine dN rfl rfl (fo Zrf rfl rfl rfl Za Zp) ZJ ?_;rintro _ _ ⟨rfl,rfl⟩;refine bU rfl (cA 5 rfl Zv0 Zf) rfl ?_;refine et rfl ?_;refine dN rfl rfl (fo Zrf rfl rfl rfl Za Zp) ZJ ?_;rintro _ _ ⟨rfl,rfl⟩;refine bU rfl (cA 6 rfl Zv0 Zf) rfl ?_;refine et rfl ?_;refine dN rfl rfl (fo Zrf rfl rfl rfl Za Zp) ZJ ?_;rintro _ _ ⟨rfl,rfl⟩;refine dA ?_;refine Z_9 ?_;refine ZW ?_ ?_<;>intro hc26
 ·have hf1:p.flags≠ -1:=(by simpa using hc26);obtain⟨nf,hnf,hnf2⟩:=hfl hf1;have hm1:eA pl p.flags=pl.getD nf 0:=(by unfold eA;rw[hc26,ac,hnf,aS]);refine Z_4 ?_;refine Zy (cI (bb:=b66) (o:=0) (n:=i) (c:=i) (j:=nf) (sz:=1) (r:=nf) rfl Zrf (Zv rfl) (Zv rfl) (fun _=>hnf) (fun _=>by omega) (by omega)) ?_;refine dU (bM Zrf (Zv rfl)) (dE Zh (eL (by omega))) rfl ?_;refine Z_1 ?_;refine ZL ?_;refine eK ?_;refine ZW ?_ ?_<;>intro hc28
  ·have ht1:p.target≠ -1:=(by simpa using hc28);obtain⟨nt,hnt,hnt2⟩:=htg ht1;have hm2:eA pl p.target=pl.getD nt 0:=(by unfold eA;rw[hc28,ac,hnt,aS]);refine Z_4 ?_;refine Zy (cI (bb:=b66) (o:=0) (n:=i) (c:=i) (j:=nt) (sz:=1) (r:=nt) rfl Zrf (Zv rfl) (Zv rfl) (fun _=>hnt) (fun _=>by omega) (by omega)) ?_;refine dU (bM Zrf (Zv rfl)) (dE Zh (eL (by omega))) rfl ?_;refine Z_1 ?_;refine ZL ?_;refine Z_5 ?_;refine ZM ?_;refine Z_3 ?_;refine bQ [row b2 _ _,slv 281 5 A c.length cc (c.flatMap II.cells),sl .i64 3 A3 (cU pl p.Iq).length c3 (cU pl p.Iq),sl .i64 3 A4 (cU pl p.Ir).length c4 (cU pl p.Ir)] Zj ?_;refine kk (cs':=[slv _ _ _ _ _ _,slv _ _ _ _ _ _,slv _ _ _ _ _ _]) (.inl rfl) Zu rfl rfl Zh Zrf Zrf ?_;rw[hsT _ _ hm1 hm2];exact⟨⟨A,cc,A3,c3,A4,c4⟩,rfl,rfl⟩
  have hm2:eA pl p.target=p.target:=(by unfold eA;rw[hc28,aa]);refine Z_5 ?_;refine ZM ?_;refine Z_3 ?_;refine bQ [row b2 _ _,slv 281 5 A c.length cc (c.flatMap II.cells),sl .i64 3 A3 (cU pl p.Iq).length c3 (cU pl p.Iq),sl .i64 3 A4 (cU pl p.Ir).length c4 (cU pl p.Ir)] Zj ?_;refine kk (cs':=[slv _ _ _ _ _ _,slv _ _ _ _ _ _,slv _ _ _ _ _ _]) (.inl rfl) Zu rfl rfl Zh Zrf Zrf ?_;rw[hsT _ _ hm1 hm2];exact⟨⟨A,cc,A3,c3,A4,c4⟩,rfl,rfl⟩
 have hm1:eA pl p.flags=p.flags:=(by unfold eA;rw[hc26,aa]);refine eK ?_;refine ZW ?_ ?_<;>intro hc28
 ·have ht1:p.target≠ -1:=(by simpa using hc28);obtain⟨nt,hnt,hnt2⟩:=htg ht1;have hm2:eA pl p.target=pl.getD nt 0:=(by unfold eA;rw[hc28,ac,hnt,aS]);refine Z_4 ?_;refine Zy (cI (bb:=b66) (o:=0) (n:=i) (c:=i) (j:=nt) (sz:=1) (r:=nt) rfl Zrf (Zv rfl) (Zv rfl) (fun _=>hnt) (fun _=>by omega) (by omega)) ?_;refine dU (bM Zrf (Zv rfl)) (dE Zh (eL (by omega))) rfl ?_;refine Z_1 ?_;refine ZL ?_;refine Z_5 ?_;refine ZM ?_;refine Z_3 ?_;refine bQ [row b2 _ _,slv 281 5 A c.length cc (c.flatMap II.cells),sl .i64 3 A3 (cU pl p.Iq).length c3 (cU pl p.Iq),sl .i64 3 A4 (cU pl p.Ir).length c4 (cU pl p.Ir)] Zj ?_;refine kk (cs':=[slv _ _ _ _ _ _,slv _ _ _ _ _ _,slv _ _ _ _ _ _]) (.inl rfl) Zu rfl rfl Zh Zrf Zrf ?_;rw[hsT _ _ hm1 hm2];exact⟨⟨A,cc,A3,c3,A4,c4⟩,rfl,rfl⟩
 have hm2:eA pl p.target=p.target:=(by unfold eA;rw[hc28,aa]);refine Z_5 ?_;refine ZM ?_;refine Z_3 ?_;refine bQ [row b2 _ _,slv 281 5 A c.length cc (c.flatMap II.cells),sl .i64 3 A3 (cU pl p.Iq).length c3 (cU pl p.Iq),sl .i64 3 A4 (cU pl p.Ir).length c4 (cU pl p.Ir)] Zj ?_;refine kk (cs':=[slv _ _ _ _ _ _,slv _ _ _ _ _ _,slv _ _ _ _ _ _]) (.inl rfl) Zu rfl rfl Zh Zrf Zrf ?_;rw[hsT _ _ hm1 hm2];exact⟨⟨A,cc,A3,c3,A4,c4⟩,rfl,rfl⟩
end Go.Proofs.YtomjgmbccamgiaaGreatDoor
namespace Go.Ink
open Go.RowKit
abbrev BE(i:Int×Int):List Value:=[.int .i64 i.1,.int .u32 i.2]
abbrev pgZ:List Value:=[.slice none 0 0,.int .i64 0,.int .i64 0,.int .i64 0,.int .i64 0,.slice none 0 0,.slice none 0 0,.int .i64 0,.int .u32 0,.int .i64 0,.int .i64 0,.int .u32 0,.int .i64 0,.int .i64 0]
theorem Ho{L:Lw}{n:Nat}(h:L.sm n)(op i next:Int):(L.one op i next).sm (n+10):=by
 have h2:=sm_go h op i next
 exact⟨h2.code,h2.dl,h2.rl,h2.dn,h2.rn⟩
theorem Cv:Lw.init.sm 0:=⟨aQ _,aQ _,aQ _,⟨bF _,bF _⟩,⟨bF _,bF _⟩⟩
theorem AW(pc:Int)(w:Lw)(i:Int×Int)(l:List (Int×Int)):lT pc w (i::l)=bif(!gX i.1 i.2|| !dD i.1)||(gq i.1&& !l.isEmpty)then none else lT (IntKind.u32.wrap (pc+IntKind.u32.wrap (cG i.1))) (w.one i.1 i.2 (IntKind.u32.wrap (pc+IntKind.u32.wrap (cG i.1)))) l:=rfl
theorem wU{α:Type}(l:List α)(k:Nat)(hk:k<l.length):(!(l.drop (k+1)).isEmpty)=decide ((k:Int)<(l.length:Int) - 1):=by
 by_cases h:(k:Int)<(l.length:Int) - 1
 ·rw[aG h];cases hd:l.drop (k+1)with
  |nil=>rw[List.drop_eq_nil_iff]at hd;omega
  |cons=>rfl
 rw[aF h,List.drop_of_length_le (by omega)]
 rfl
theorem Gq{l:List (Int×Int)}{y:Int×Int}(h:l[l.length - 1]? =some y):l.getLastD (0,0)=y:=by
 rw[List.getLastD_eq_getLast?,List.getLast?_eq_getElem?,h]
 rfl
end Go.Ink
namespace Go.Proofs.YtomjgmbccamgiaaGreatDoor
open Go.RowKit Go.Ink Go.Proofs.Tryz
attribute [local irreducible] OpY bW
def LowK(o:Option Pg)(v:Value)(cs:List bJ):Prop:=match o with
 |some p=>∃Q':PAd,v= .tuple #[pgv p Q',.int .i64 0]∧cs=[slv 281 5 Q'.Ac p.code.length Q'.cc (p.code.flatMap II.cells),sl .i64 3 Q'.Ad p.Iq.length Q'.cd p.Iq,sl .i64 3 Q'.Ar p.Ir.length Q'.cr p.Ir]
 |none=>v= .tuple #[.agg pgZ.toArray,.int .i64 12]∧cs=[]
theorem DE(pc:Int)(A:Option Addr)(c:Nat)(l:List (Int×Int))(hu:∀i,i∈l→u32 i.2)(w:World)(h:RdV w 2 A l.length c (l.flatMap BE)):
  Ctr prog 117 [.int .u32 pc,.slice A l.length c] w [] (fun v cs=>LowK (fq pc l) v cs):=by
 have hlm:l.length≤maxLen:=aY h.cap h.max;simp only[maxLen]at hlm;obtain⟨R,hR⟩:=Zgn (lT pc Lw.init l);have hbad:(decide ((l.length:Int)<1)||decide (8<(l.length:Int)))=true→fq pc l=none:=fun e=>by unfold fq;rw[e,ac]
 have hno:R=none→(decide ((l.length:Int)<1)||decide (8<(l.length:Int)))=false→fq pc l=none:=fun e e2=>by unfold fq;rw[e2,aa,hR,e]
 have hyes:∀nx L,R=some (nx,L)→(decide ((l.length:Int)<1)||decide (8<(l.length:Int)))=false→fq pc l=some (cN (uG nx L (l.getLastD (0,0)) l.length)):=fun nx L e e2=>by unfold fq;rw[e2,aa,hR,e]
 have hraw:∀nx L y,R=some (nx,L)→Raw (uG nx L y l.length):=fun nx L y e=>by
  rw[e]at hR;obtain⟨lk, -, -⟩:=qC l pc Lw.init _ hu hR rF;exact⟨lk.wf,lk.ops,lk.d,lk.r,lk.flags,lk.target⟩
 obtain⟨LT,hLT⟩:=Zgn (fq pc l);rw[hLT]at hbad hno hyes⊢;refine bL func117 rfl ntmps117 rfl (Inv.start w) ?_;refine Z_2 ?_;refine ZN fun b4=>?_;refine p5 ?_;refine ZW ?_ ?_<;>intro hc1
 ·rw[hbad hc1];refine Z_2 ?_;refine Zy (iw (vs:=pgZ) Zk (.inl ⟨_,rfl,rfl⟩)) ?_;refine ZM ?_;refine Z_5 ?_;refine ee (cs':=[]) (.inl rfl) Zu rfl rfl rfl Zh Zrf Zrf ?_;exact⟨rfl,rfl⟩
 have hc1':=hc1;simp only[bl,aj]at hc1';refine eK ?_;refine ZO fun b26=>?_
 refine Z_6 ?_;refine dB 281 5 ?_;refine dB 3 1 ?_;refine dB 3 1 ?_;refine Z_6 ?_;refine cJ (fun q:(Nat×Int)×Lw×LAd=>[(0,.int .u32 q.1.2),(1,.slice A l.length c),(4,.pointer (some ⟨b4,0,none⟩)),(6,.pointer (some ⟨b26,0,none⟩)),(27,.slice A l.length c),(28,.int .i64 (l.length:Int)),(29,.int .i64 (q.1.1:Int))]) (fun q=>[pg0 b4]++lwF b26 (l.length:Int) q.2.1 q.2.2) (fun q=>q.1.1≤l.length∧lT q.1.2 q.2.1 (l.drop q.1.1)=R∧q.2.1.sm (10*q.1.1)) (fun q=>l.length - q.1.1) (⟨(0,pc),Lw.init,⟨none,0,none,0,none,0⟩⟩) ?_ ?_ ?_ ?_
 ·exact⟨aw _,hR,Cv⟩
 ·exact Zwk
 ·exact Zu
 rintro⟨⟨k,pc2⟩,L,X⟩ ⟨hk,hG,hsm⟩;dsimp only at hk hG hsm⊢;refine Z_6 ?_;refine ZW ?_ ?_<;>intro hc5
 ·simp only[ap]at hc5;have hkl:k<l.length:=(by omega);obtain⟨ad,had⟩:=h.some_ (by omega);have h2:=h;rw[had]at h2;obtain⟨x,hx⟩:∃x,l[k]? =some x:=⟨_,ak hkl⟩;rw[ji hx,AW,wU l k hkl]at hG;obtain⟨op,nn⟩:=x;dsimp only at hG;refine Z_7 ?_;refine Zy (eV (j:=k) had rfl Zrf Zv0 Zv0 Zrf (fun _=>hkl)) ?_;refine dU (cC (vs:=[.int .i64 op,.int .u32 nn]) Zrf Zrf Zv0) (fC h2 (fun i v hi=>fF (f:=BE) Zrf (i:=i) hx hi)) rfl ?_;refine ZN fun b8=>?_
  refine ZA ?_;refine ZM ?_;refine Z_6 ?_;refine ZSe (fun w hi=>wI op nn w) ?_;refine Z_4 ?_;refine dX (bS rfl rfl) (.cons (dc rfl) .nil) (fun _ _=>rfl) (fun hg w hi=>wJ op w) rfl ?_;refine Z_5 ?_;refine dX (bS rfl rfl) (.cons (dc rfl) .nil) (fun _ _=>rfl) (fun hg w hi=>u6 op w) rfl ?_;refine Z_4 ?_;refine lA (fE rfl rfl) (eP (dc rfl) Zv0 Zl) (fun _ _=>trivial) rfl ?_;refine Z_5 ?_;refine ZW ?_ ?_<;>intro hc7
  ·rw[hc7,ac]at hG;rw[hno hG.symm hc1];refine Z_2 ?_;refine Zy (iw (vs:=pgZ) Zk (.inl ⟨_,rfl,rfl⟩)) ?_;refine ZM ?_;refine eK ?_;refine ee (cs':=[]) (.inl rfl) Zu rfl rfl rfl Zh Zrf Zrf ?_;exact⟨rfl,rfl⟩
  rw[hc7,aa]at hG;refine Z_7 ?_;refine ZSe (fun w hi=>uo op w) ?_;refine Zy (cu rfl rfl Zv0 rfl) ?_;refine Zy (cF Zv0 Zv0 rfl) ?_;refine Z_7 ?_;refine ZcL (lwF b26 (l.length:Int) L X) (fun w hi hin=>lone_ok b26 (l.length:Int) L X (hsm.mono (by omega)) op nn _ w hin) ?_;rintro _ _ ⟨_,⟨L2,X2,hL2,rfl⟩,rfl⟩;refine Z_4 ?_;refine Zy (cF Zv0 Zv0 Zl) ?_;refine Z_2 ?_;refine cz ((⟨(k+1,IntKind.u32.wrap (pc2+IntKind.u32.wrap (cG op))),L2,X2⟩:(Nat×Int)×Lw×LAd)) ?_ ?_ ?_
  ·exact⟨⟨by dsimp only;omega,by dsimp only;rw[hL2];exact hG,by dsimp only;rw[hL2];exact(Ho hsm _ _ _).mono (by omega)⟩,by dsimp only;omega⟩
  ·exact Zwk
  exact Zj
 simp only[aj]at hc5;obtain rfl:k=l.length:=(by omega);rw[List.drop_length]at hG;have hG:R=some (pc2,L):=hG.symm;have hraw2:=hraw pc2 L (l.getLastD (0,0)) hG;rw[hyes pc2 L hG hc1];refine eK ?_;refine dU (cC (vs:=[.slice X.Ac L.code.length X.cc,.int .i64 0,.int .i64 0,.int .i64 0,.int .i64 0,.slice none 0 0,.slice none 0 0,.int .i64 L.flags,.int .u32 0,.int .i64 L.target,.int .i64 L.branch,.int .u32 0,.int .i64 (l.length:Int),.int .i64 0]) Zrf Zrf Zv0) (cL Zh rfl) rfl ?_;refine ZN fun b9=>?_
 refine ZM ?_;refine Z_6 ?_;refine ZL ?_;refine Z_2 ?_;refine de (fun q:Int×Int=>[(1,.slice A l.length c),(4,.pointer (some ⟨b4,0,none⟩)),(6,.pointer (some ⟨b26,0,none⟩)),(9,.pointer (some ⟨b9,0,none⟩))]) (fun q=>[pg0 b4]++lwF b26 (l.length:Int) L X++[row b9 [.slice X.Ac L.code.length X.cc,.int .i64 0,.int .i64 0,.int .i64 0,.int .i64 0,.slice none 0 0,.slice none 0 0,.int .i64 L.flags,.int .u32 q.1,.int .i64 L.target,.int .i64 L.branch,.int .u32 q.2,.int .i64 (l.length:Int),.int .i64 0] 232]) (fun q=>uG pc2 L (l.getLastD (0,0)) l.length=⟨L.code,L.d.Ik,L.r.Ik,L.d.high,L.r.high,L.d.l,L.r.l,L.flags,q.1,L.target,L.branch,q.2,l.length,L.code.length⟩) ?_ ?_
 ·refine Z_5 ?_;refine Zy (eP Zv0 Zv0 Zl) ?_;obtain⟨ad,had⟩:=h.some_ (show 0<l.length by omega);have h2:=h;rw[had]at h2;obtain⟨x,hx⟩:∃x,l[l.length - 1]? =some x:=⟨_,ak (by omega)⟩;have hlast:=Gq hx;rw[hlast];obtain⟨op,nn⟩:=x;refine Zy (eV (j:=l.length - 1) had rfl Zrf (Zv rfl) (Zv rfl) (fun _=>by omega) (fun _=>by omega)) ?_;refine dU (cC (vs:=[.int .i64 op,.int .u32 nn]) Zrf Zrf Zv0) (fC h2 (fun i v hi=>fF (f:=BE) Zrf (i:=i) hx hi)) rfl ?_;refine ZN fun b10=>?_
  refine ZM ?_;refine p5 ?_;refine ZW ?_ ?_<;>intro hc15
  ·refine Z_4 ?_;refine ZSe (fun w hi=>xC nn w) ?_;refine Zy (cF Zv0 Zv0 rfl) ?_;refine Z_1 ?_;refine ZL ?_;refine Z_2 ?_;refine cz ((⟨IntKind.u32.wrap (pc2+kL nn),0⟩:Int×Int)) ?_ ?_ ?_
   ·exact(by unfold uG;dsimp only;rw[hc15,ac,ac])
   ·exact Zwk
   exact Zj
  refine Z_8 ?_;refine ZW ?_ ?_<;>intro hc17
  ·refine Z_4 ?_;refine ZSe (fun w hi=>xC nn w) ?_;refine Zy (cF Zv0 Zv0 rfl) ?_;refine Z_1 ?_;refine ZL ?_;refine Z_2 ?_;refine cz ((⟨pc2,IntKind.u32.wrap (pc2+kL nn)⟩:Int×Int)) ?_ ?_ ?_
   ·exact(by unfold uG;dsimp only;rw[hc15,aa,aa,hc17,ac])
   ·exact Zwk
   exact Zj
  refine Z_2 ?_;refine cz ((⟨pc2,0⟩:Int×Int)) ?_ ?_ ?_
  ·exact(by unfold uG;dsimp only;rw[hc15,aa,aa,hc17,aa])
  ·exact Zwk
  exact Zj
 rintro⟨nx,tk⟩ hq;dsimp only at hq⊢;rw[hq]at hraw2⊢;have hl500:=hsm;refine Zs (cj ⟨fun j=>List.elem j [21,23,25,27],rh b26 (yc (l.length:Int) L X)⟩ Zk ?_);refine ZE 0 ?_;refine ZE 1 ?_;refine ZFe 2 14 ?_;refine ZFe 3 1 ?_;refine iA 4 rfl Zk Zk Zk (bM Zrf (Zv rfl)) (by first|exact bZ rfl|exact aC _ (bZ rfl)|exact ah _ (bZ rfl)|exact ah _ (ah _ (aC _ (bZ rfl)))|exact ah _ (ah _ (ah _ (bZ rfl)))) (bX (t:=266) Zh) rfl ?_;refine ZE 5 ?_;refine ZE 6 ?_;refine ZFe 7 18 ?_;refine ZFe 8 1 ?_;refine iA 9 rfl Zk Zk Zk (bM Zrf (Zv rfl)) (by first|exact bZ rfl|exact aC _ (bZ rfl)|exact ah _ (bZ rfl)|exact ah _ (ah _ (aC _ (bZ rfl)))|exact ah _ (ah _ (ah _ (bZ rfl)))) (bX (t:=266) Zh) rfl ?_;refine ZE 10 ?_;refine ZE 11 ?_;refine ZFe 12 14 ?_;refine ZFe 13 2 ?_;refine iA 14 rfl Zk Zk Zk (bM Zrf (Zv rfl)) (by first|exact bZ rfl|exact aC _ (bZ rfl)|exact ah _ (bZ rfl)|exact ah _ (ah _ (aC _ (bZ rfl)))|exact ah _ (ah _ (ah _ (bZ rfl)))) (bX (t:=266) Zh) rfl ?_;refine ZE 15 ?_;refine ZE 16 ?_;refine ZFe 17 18 ?_;refine ZFe 18 2 ?_;refine iA 19 rfl Zk Zk Zk (bM Zrf (Zv rfl)) (by first|exact bZ rfl|exact aC _ (bZ rfl)|exact ah _ (bZ rfl)|exact ah _ (ah _ (aC _ (bZ rfl)))|exact ah _ (ah _ (ah _ (bZ rfl)))) (bX (t:=266) Zh) rfl ?_;refine ZFe 20 1 ?_;refine cE 21 Zk ?_;refine dC rfl rfl (fo Zrf rfl rfl rfl Za Zp) (fun _=>by rintro _ _ ⟨rfl,rfl⟩;exact bX (t:=266) Zh) ?_;rintro _ _ ⟨rfl,rfl⟩;refine ZFe 22 2 ?_;refine cE 23 Zk ?_;refine dC rfl rfl (fo Zrf rfl rfl rfl Za Zp) (fun _=>by rintro _ _ ⟨rfl,rfl⟩;exact bX (t:=266) Zh) ?_;rintro _ _ ⟨rfl,rfl⟩;refine ZFe 24 3 ?_;refine cE 25 Zk ?_;refine dC rfl rfl (fo Zrf rfl rfl rfl Za Zp) (fun _=>by rintro _ _ ⟨rfl,rfl⟩;exact bX (t:=266) Zh) ?_;rintro _ _ ⟨rfl,rfl⟩;refine ZFe 26 4 ?_;refine cE 27 Zk ?_;refine dC rfl rfl (fo Zrf rfl rfl rfl Za Zp) (fun _=>by rintro _ _ ⟨rfl,rfl⟩;exact bX (t:=266) Zh) ?_;rintro _ _ ⟨rfl,rfl⟩;refine bO Zk ?_;refine Z_2 ?_;refine cj ⟨fun j=>List.elem j [11,13],rh b26 (yc (l.length:Int) L X)⟩ Zk ?_;refine ZE 0 ?_;refine ZE 1 ?_;refine ZFe 2 14 ?_;refine ZFe 3 0 ?_;refine iA 4 rfl Zk Zk Zk (bM Zrf (Zv rfl)) (by first|exact bZ rfl|exact aC _ (bZ rfl)|exact ah _ (bZ rfl)|exact ah _ (ah _ (aC _ (bZ rfl)))|exact ah _ (ah _ (ah _ (bZ rfl)))) (bX (t:=266) Zh) rfl ?_;refine ZE 5 ?_;refine ZE 6 ?_;refine ZFe 7 18 ?_;refine ZFe 8 0 ?_;refine iA 9 rfl Zk Zk Zk (bM Zrf (Zv rfl)) (by first|exact bZ rfl|exact aC _ (bZ rfl)|exact ah _ (bZ rfl)|exact ah _ (ah _ (aC _ (bZ rfl)))|exact ah _ (ah _ (ah _ (bZ rfl)))) (bX (t:=266) Zh) rfl ?_;refine ZFe 10 5 ?_;refine cE 11 Zk ?_;refine dC rfl rfl (fo Zrf rfl rfl rfl Za Zp) (fun _=>by rintro _ _ ⟨rfl,rfl⟩;exact bX (t:=266) Zh) ?_;rintro _ _ ⟨rfl,rfl⟩;refine ZFe 12 6 ?_;refine cE 13 Zk ?_;refine dC rfl rfl (fo Zrf rfl rfl rfl Za Zp) (fun _=>by rintro _ _ ⟨rfl,rfl⟩;exact bX (t:=266) Zh) ?_;rintro _ _ ⟨rfl,rfl⟩;refine bO Zk ?_;refine Z_7 ?_;refine ZL ?_;refine Z_5 ?_;refine ZS (fun w hi=>Fx ⟨L.code,L.d.Ik,L.r.Ik,L.d.high,L.r.high,L.d.l,L.r.l,L.flags,nx,L.target,L.branch,tk,l.length,L.code.length⟩ ⟨X.Ac,X.cc,X.Ad,X.cd,X.Ar,X.cr⟩ hraw2 rfl (aY hsm.code (by omega)) (aY hsm.dl (by omega)) (aY hsm.rl (by omega)) w ⟨hi.rd Zh,hi.rd Zh,hi.rd Zh⟩) ?_;rintro _ _ ⟨_,⟨Q9,rfl,rfl⟩,rfl⟩;refine ZM ?_;refine Z_4 ?_;obtain⟨p9,hp9⟩:=Zgn (cN ⟨L.code,L.d.Ik,L.r.Ik,L.d.high,L.r.high,L.d.l,L.r.l,L.flags,nx,L.target,L.branch,tk,l.length,L.code.length⟩);rw[hp9];refine bQ [row b4 _ _,slv 281 5 Q9.Ac p9.code.length Q9.cc (p9.code.flatMap II.cells),sl .i64 3 Q9.Ad p9.Iq.length Q9.cd p9.Iq,sl .i64 3 Q9.Ar p9.Ir.length Q9.cr p9.Ir] Zj ?_;refine ee (cs':=[slv _ _ _ _ _ _,slv _ _ _ _ _ _,slv _ _ _ _ _ _]) (.inl rfl) Zu rfl rfl rfl Zh Zrf Zrf ?_;exact⟨Q9,rfl,rfl⟩
end Go.Proofs.YtomjgmbccamgiaaGreatDoor
namespace Go.Ink
open Go.RowKit
theorem zf:∀(l:List (Int×Int)) (pc:Int) (L:Lw) (q:Int×Lw) (n:Nat),lT pc L l=some q→L.sm n→q.2.sm (n+10*l.length)
 |[],pc,L,q,n,h,hs=>by obtain rfl:(pc,L)=q:=aJ h;exact hs.mono (by simp)
 |i::l,pc,L,q,n,h,hs=>by
  obtain⟨-, -, -,h4⟩:=kD h;exact(zf l _ _ q (n+10) h4 (Ho hs _ _ _)).mono (by simp only[ai];omega)
theorem wq{pc:Int}{l:List (Int×Int)}(hu:∀i,i∈l→u32 i.2){p:Pg}(hlow:fq pc l=some p):qr p∧p.count=l.length∧1≤l.length∧l.length≤8∧(p.Iw=true→ge (gr p (dP p))∧(gr p (dP p)).length≤100000):=by
 unfold fq at hlow;cases hlen:decide ((l.length:Int)<1)||decide (8<(l.length:Int))with
 |true=>rw[hlen]at hlow;cases hlow
 |false=>
 rw[hlen,aa]at hlow;simp only[bl,aj]at hlen;have hl0:l≠[]:=fun e=>by rw[e]at hlen;simp at hlen
 cases hgo:lT pc Lw.init l with
 |none=>rw[hgo]at hlow;cases hlow
 |some q=>
 rw[hgo]at hlow;obtain⟨nx,w⟩:=q;obtain rfl:=aJ hlow;obtain⟨lk, -,hnx⟩:=qC l pc Lw.init _ hu hgo rF;have hnx:=hnx hl0;have hsm:=zf l pc Lw.init _ 0 hgo Cv;dsimp only at lk hnx hsm;obtain⟨i,hi⟩:=Zgn (l.getLastD (0,0));rw[hi];obtain⟨p0,hp0⟩:=Zgn (uG nx w i l.length);rw[hp0];have f1:p0.code=w.code:=by rw[←hp0];rfl
 have f2:p0.Iq=w.d.l:=by rw[←hp0];rfl
 have f3:p0.Ir=w.r.l:=by rw[←hp0];rfl
 have g5:(cN p0).next=bif i.1==32||i.1==38 then IntKind.u32.wrap (nx+kL i.2)else nx:=by rw[←hp0];rfl
 have g6:(cN p0).taken=bif i.1==32||i.1==38 then 0 else bif w.branch !=0 then IntKind.u32.wrap (nx+kL i.2)else 0:=by rw[←hp0];rfl
 have g8:(cN p0).count=l.length:=by rw[←hp0];rfl
 have hlen4:=rG l pc Lw.init _ hgo;have hlen5:w.code.length≤32:=by have:Lw.init.code.length=0:=rfl;dsimp only at hlen4;omega
 have hlen6:(cN p0).code.length≤64:=by
  have:=om (fU p0) p0.code 0 (List.replicate p0.code.length 0) [];have e:(cN p0).code=(kF (fU p0) p0.code 0 (List.replicate p0.code.length 0) []).2:=rfl;rw[e];rw[f1]at this⊢;simp at this;omega
 have himc:ImC (cN p0).code:=oo (fU p0) p0.code 0 _ [] (fun _ h=>by cases h) (by rw[f1];exact lk.imm);have hn32:u32 (cN p0).next:=by rw[g5];cases i.1==32||i.1==38 with|true=>exact s6 _|false=>exact hnx
 have ht32:u32 (cN p0).taken:=by
  have z:u32 0:=⟨by decide,by decide⟩;rw[g6];cases i.1==32||i.1==38 with
  |true=>exact z
  |false=>cases w.branch !=0 with
   |true=>exact s6 _
   |false=>exact z
 have hd:=hsm.dl;have hr:=hsm.rl;have fit:qr (cN p0):=⟨rfl,hlen6,by show(cU _ p0.Iq).length≤100;unfold cU;rw[List.length_map,f2];omega,by show(cU _ p0.Ir).length≤100;unfold cU;rw[List.length_map,f3];omega,himc⟩;refine⟨fit,g8,by omega,by omega,fun hright=>?_⟩;obtain⟨pok, -, -, -⟩:=ri hright himc hlen6 hn32 ht32;have hplan:ES (dP (cN p0)) (gn (cN p0)) (cN p0).code.length:=CQ (fun i hi=>Dl (cN p0) hi) hlen6;refine⟨Bi pok rfl hplan.has,?_⟩;have:=vj (cN p0) (dP (cN p0)) (IntKind.u32.wrap ((fu (cN p0) (dP (cN p0)) 0).length:Nat)) hlen6 fit.Iq fit.Ir;unfold gr;rw[ae,ai,ao];omega
end Go.Ink
namespace Go.Proofs.YtomjgmbccamgiaaGreatDoor
open Go.RowKit Go.Ink Go.Proofs.Tryz
attribute [local irreducible] OpY bW
theorem EM(p:Pg)(Q:PAd)(hf:qr p)(hr:p.Iw=false)(w:World)(h:zT p Q w):
  Ctr prog 147 [pgv p Q,.int .i64 7] w [] (fun r cs=>r= .tuple #[.agg #[.slice none 0 0,.slice none 0 0,.int .i64 0],.int .i64 1]∧cs=[]):=by
 have hR:=rO p Q hf;rw[hr]at hR;refine bL func147 rfl ntmps147 rfl (Inv.start w) ?_;refine Z_2 ?_;refine ZO fun b2=>?_;refine ZN fun b4=>?_
 refine Z_7 ?_;refine ZSe (fun w hi=>hR w (h.IB hi)) ?_;refine Z_2 ?_;refine dr (bS rfl rfl) rfl rfl ?_;refine dr (bS rfl rfl) rfl rfl ?_;refine dr (bS rfl rfl) rfl rfl ?_;refine Zy (EZ (q:=false) (Zv rfl) ⟨_,rfl,fun _ e=>by simp at e⟩) ?_;refine Z_2 ?_;refine cB rfl (rfl) ?_;refine Z_2 ?_;refine Zy (iw (vs:=[Value.slice none 0 0,.slice none 0 0,.int .i64 0]) Zk (.inl ⟨_,rfl,rfl⟩)) ?_;refine ZM ?_;refine Z_5 ?_;refine ee (cs':=[]) (.inl rfl) Zu rfl rfl rfl Zh Zrf Zrf ?_;exact⟨rfl,rfl⟩
theorem Eg(p:Pg)(Q:PAd)(hf:qr p)(hr:p.Iw=false)(w:World)(h:zT p Q w):
  Ctr prog 118 [pgv p Q] w [] (fun r cs=>r= .tuple #[.slice none 0 0,.int .i64 12]∧cs=[]):=by
 refine bL func118 rfl ntmps118 rfl (Inv.start w) ?_;refine Z_2 ?_;refine ZO fun b1=>?_;refine Z_7 ?_;refine ZSe (fun w hi=>EM p Q hf hr w (h.IB hi)) ?_;refine Z_3 ?_;refine ZN fun b4=>?_
 refine ZM ?_;refine eK ?_;refine cB rfl (rfl) ?_;refine Z_8 ?_;refine fw (cs':=[]) (.inl rfl) Zu rfl rfl rfl ?_;exact⟨rfl,rfl⟩
end Go.Proofs.YtomjgmbccamgiaaGreatDoor
