/- Lemmas. -/
import Derived.Test.YtgpahfcaecojgaaGreatDoorPap
set_option linter.all false
set_option maxRecDepth 100000
set_option maxHeartbeats 4000000
namespace Go.Ink
open Go.RowKit Go.Proofs.Tryz
variable{rest:List bJ}{w0 w:World}{n:Nat}
theorem wc_inv{C:Cx}{Q:lF}{fr:Fr}{cs cs':List bJ}{x:Code}(hc:∀w,Inv C.w0 C.S cs w->Inv C.w0 C.S cs' w)(h:WC C x Q fr cs'):WC C x Q fr cs:=λa w hf hi=>h a w hf (hc w hi)
def gS(LK:List (Ky×LS))(k:Ky):LS:=fY LK k LS.zero
variable{LK:List (Ky×LS)}{k:Ky}
theorem nS(h:cT (·.1) k LK=none):gS LK k=LS.zero:=vO h _
variable{j:Nat}
theorem nR(h:cT (·.1) k LK=some j):∃x,LK[j]? =some (k,x)/\gS LK k=x:=by
 obtain⟨hj,hk⟩:=fp h;have hx:LK[j]? =some (k,LK[j].2):=by rw[ae hj,<-hk]
 exact⟨_,hx,rR h hx _⟩
theorem Ol(LK:List (Ky×LS))(k:Ky):fY (lkV LK) k (.slice none 0 0)=(gS LK k).v:=AG LS.v LK k LS.zero
theorem Dw(LK:List (Ky×LS))(k:Ky):cT (·.1) k (lkV LK)=cT (·.1) k LK:=kt (key:=λx:Ky×LS=>x.1) (key':=λx:Ky×Value=>x.1) (λx:Ky×LS=>(x.1,x.2.v)) Zrf k LK
theorem ment_at(LK:List (Ky×LS))(k:Ky):(v6 (lkV LK) k (.slice none 0 0))[Bg (lkV LK) k]? =some (k,(gS LK k).v):=by
 grind [v6,Bg,Dw,cT,nR,lkV,nS,LS.v,LS.zero]
theorem Sx(LK:List (Ky×LS))(k:Ky)(x:LS):(v6 (lkV LK) k (.slice none 0 0)).set (Bg (lkV LK) k) (k,x.v)=lkV (dS LK k x):=by
 unfold v6 Bg dS;rw[Dw];cases h:cT (λx:Ky×LS=>x.1) k LK with
 |some j=>
  simp[lkV]
 |none=>
  simp[lkV]
theorem EN.put{keys:List Ky}(h:EN keys LK){f t:Ky}(hf:ly f)(ht:t∈keys)(hn:t∉(gS LK f).ks)(A:Oa)(c:Nat):EN keys (dS LK f ⟨A,c,(gS LK f).ks++[t]⟩):=by
 have hl:(gS LK f).ks.Nodup/\∀q,q∈(gS LK f).ks->q∈keys:=by
  cases hp:cT (λx:Ky×LS=>x.1) f LK with
  |some j=>obtain⟨x,hx,hl⟩:=nR hp;rw[hl];exact(h _ (ak hx)).2
  |none=>rw[nS hp];exact⟨List.nodup_nil,λq hq=>nomatch hq⟩
 have hnew:ly f/\((gS LK f).ks++[t]).Nodup/\∀q,q∈(gS LK f).ks++[t]->q∈keys:=by
  refine⟨hf,?_,λq hq=>?_⟩
  .grind
  grind
 intro x hx;unfold dS at hx;cases hp:cT (λx:Ky×LS=>x.1) f LK with
 |some j=>
  rw[hp]at hx;rcases List.mem_or_eq_of_mem_set hx with hx|rfl
  .exact h x hx
  omega
 |none=>
  rw[hp]at hx;rcases az.1 hx with hx|hx
  .exact h x hx
  grind
def zd(LK:List (Ky×LS))(k:Ky):List bJ:=match cT (·.1) k LK with|some j=>(lkC LK).eraseIdx j|none=>lkC LK
theorem SJ{x:LS}(h:cT (·.1) k LK=some j)(hx:LK[j]? =some (k,x)):(lkC LK).Perm (lsC x::(lkC LK).eraseIdx j):=by grind [oJ,lkC]
theorem lkTake{S:List Nat}(k:Ky)(h:Inv w0 S (bP (lkC LK)::rest) w):Inv w0 S (lsC (gS LK k)::bP (zd LK k)::rest) w:=by
 unfold zd;cases hp:cT (λx:Ky×LS=>x.1) k LK with
 |some j=>
  obtain⟨x,hx,hl⟩:=nR hp;rw[hl];exact h.Xm (SJ hp hx)
 |none=>
  rw[nS hp];exact(h.more (wz w [] 206 2)).perm (List.perm_append_singleton _ _)
theorem lkPut(LK:List (Ky×LS))(k:Ky)(x:LS):(lkC (dS LK k x)).Perm (lsC x::zd LK k):=by
 grind [zd,dS,cT,fp,lkC,uB,List.map_set,List.perm_append_singleton]
theorem OG(A:Oa)(c:Nat)(l:List Ky)(x:Ky)(w:World)(h:RdV w 2 A l.length c (l.flatMap cD)):Ctr prog 227 [.slice A l.length c,.agg (cD x).toArray] w [] (λv cs=>(∃z,v= .i z/\decide (0<=z)=l.contains x)/\cs=[]):=by
 have hlm:=aK h.cap h.max;simp only[maxLen]at hlm;refine Zfs func227 ntmps227 ?_;refine Z_2 ?_;refine ZO λb3=>?_;refine fb ?_;refine wLo (λk:Nat=>[(0,.slice A l.length c),(3,.p b3),(7,.i (l.length:Int)),(8,.i (k:Int))]) (λ_=>[kyR b3 x]) (λk=>k<=l.length/\(l.drop k).contains x=l.contains x) (λk=>l.length - k) (0) bY ?_;rintro k ⟨hk,hc⟩;refine Zw6 ?_ ?_<;>intro hc2
 .simp only[ac]at hc2;have hkl:k<l.length:=Wq1;obtain⟨ad,had⟩:=h.some_ Wq1;have h2:=h;rw[had]at h2;obtain⟨y,hy⟩:∃y,l[k]? =some y:=⟨_,ae hkl⟩;rw[qV hy]at hc;refine gq ?_;refine bU (Zdn []) Zk (ZI 0 ?_);refine ZE 1 ?_;refine ZE 2 ?_;refine Zy4 3 rfl (ii (j:=k) had rfl Zrf Zv0 Zv0 Zrf (λ_=>hkl)) ?_;refine Zy5 4 rfl (bW (vs:=cD y) Zrf Zrf Zv0) (cE h2 (λi v hi=>bZ (f:=cD) Zrf (i:=i) hy hi)) ?_;refine Zy4 5 rfl (LW wq (FZ x y) (Zv rfl) (Zv rfl)) ?_;refine ug ?_;refine ZW ?_ ?_<;>intro hc4
  .have hcx:l.contains x=true:=bY;refine fb ?_;refine Zra ?_;exact⟨⟨_,rfl,by grind⟩,rfl⟩
  rw[List.contains_cons,hc4,Bool.false_or]at hc;refine jS ?_;refine qMM (k+1) bY
 simp only[aa]at hc2;obtain rfl:k=l.length:=Wq1;rw[List.drop_length]at hc;refine oo ?_;exact⟨⟨_,rfl,by grind⟩,rfl⟩
theorem Ei(A:Oa)(c:Nat)(l:List Ky)(x:Ky)(w:World)(h:RdV w 2 A l.length c (l.flatMap cD)):CW prog 195 [.slice A l.length c,.agg (cD x).toArray] w (.bool (l.contains x)):=by
 refine Zfs func195 ntmps195 ?_;refine Z_2 ?_;refine ZO λb3=>?_;refine Z_7 ?_;refine ZSn (λw hi=>OG A c l x w (h.Wh hi)) ?_;rintro _ _ ⟨⟨z,rfl,hz⟩,rfl⟩;refine Z_5 ?_;refine Zra ?_;exact⟨by rw[<-hz],rfl⟩
theorem link_rd(h:(bP (lkC LK)).ok w):RdV w 2 (gS LK k).A (gS LK k).ks.length (gS LK k).c ((gS LK k).ks.flatMap cD):=by
 cases hp:cT (λx:Ky×LS=>x.1) k LK with
 |some j=>
  obtain⟨x,hx,hl⟩:=nR hp;rw[hl];exact dx (ek h (lsC x) (aZ.2 ⟨_,ak hx,rfl⟩))
 |none=>
  rw[nS hp];exact⟨rfl,aL _,ap _,λ_=>⟨rfl,rfl⟩,λad e=>nomatch e⟩
theorem TQ(bc:Nat)(room:Int)(X:CaX)(hX:rp room X)(f t:Ky)(hkf:ly f):CI prog 172 [.p bc,.agg (cD f).toArray,.agg (cD t).toArray] (caF bc room X) (λ_ cs=>∃X':CaX,cs=caF bc room X'/\rp room X'/\X'.Z=X.Z):=λw hi=>by
 have hS:=hX.sm;have hlk:=hX.lk;have hX2:∀LK,EN (X.Z.map BA.key) LK->rp room ⟨X.ml,X.Ac,X.cc,X.fl,LK,X.Z⟩:=λLK h=>⟨hX.rm,hX.len,hX.ba,h⟩
 obtain⟨ml,Ac,cc,fl,LK,Z⟩:=X;dsimp only at hS hlk hX2;have hZ:=hS.1;have HP:=wT bc (.i room) (.map (some ml)) (.i fl) Ac cc Z hZ;have hgv:=Ol LK f;have hget:∀L,fY (lkV LK) f (.slice none 0 0)=L->L=(gS LK f).v:=λL e=>e▸hgv
 refine Zfn func172 ntmps172 hi ?_;refine Z_2 ?_;refine ZO λb4=>?_;refine ZO λb5=>?_
 refine Z_5 ?_;rcases ho1:cT BA.key f Z with _|j1
 .refine Wq384 ?_;refine Z_2 ?_;refine QD ?_;refine QD ?_;refine Zy (y_or (q:=false) (Zv rfl) ⟨_,rfl,λ_ e=>absurd e bX⟩) ?_;refine xw ?_;exact Wq311
 refine Wq384 ?_;refine Z_3 ?_;refine mj (bQ rfl rfl) Zh Zrf Zrf (Zv rfl) rfl (fF (bQ rfl rfl) (by rw[show decide (OM (some j1)<0)=false from aF (by show¬((j1:Nat):Int)<0;omega)];rfl) (dN ([caR bc (.i room) (.slice Ac Z.length cc) (.map (some ml)) (.i fl),slv 242 4 Ac Z.length cc (Z.flatMap BA.cells)]) rfl (λ_ _=>rfl) Zi (λw hi hin=>HP t w hin)) rfl ?_);rintro _ _ ⟨_,⟨rfl,rfl⟩,rfl⟩;refine Z_4 ?_;refine ZW ?_ ?_<;>intro hc1
 .exact Wq311
 have htk:t∈Z.map BA.key:=(by cases ho2:cT BA.key t Z with|none=>rw[ho2]at hc1;simp[OM]at hc1|some j2=>obtain⟨x2,hx2,hxk2, -⟩:=so ho2;grind);refine Z_2 ?_;refine cL (λY:CaX=>[(6,.bool false)]) (λY=>caF bc room Y) (λY=>rp room Y/\Y.Z=Z) ?_ ?_
 .refine Zs (bU (Zdn []) Zk ?_);refine pP ?_;refine ZFe 2 2 ?_;refine ZG 3 ?_;refine ZI 4 ?_;refine ZI 6 ?_;refine kQ ?_;refine JB rfl (LQ (Zv rfl) (Zv rfl) hkf rfl FX Zrf) (λw hi=>(show ou ml (lkV LK) w from hi.get (Zhc (mpc ml (lkV LK))))) rfl (ic ?_);rw[Ol LK f];refine ZTn (λw hi=>Ei (gS LK f).A (gS LK f).c (gS LK f).ks t w (link_rd (hi.get (Zhc (bP (lkC LK)))))) ?_;rintro _ _ ⟨rfl,rfl⟩;refine ZE 8 ?_;refine ug ?_;refine ZW ?_ ?_<;>intro hc3
  .have hnt:t∉(gS LK f).ks:=bY;have hxl:(gS LK f).ks.length<=1000000:=(by cases hp:cT (λx:Ky×LS=>x.1) f LK with|some j=>obtain⟨x,hx,hl⟩:=nR hp;rw[hl];exact((hlk.sm bY) _ (ak hx)).2|none=>rw[nS hp];exact ap _);obtain⟨⟨Ax,cx,kx⟩,hlx⟩:=Zgn (gS LK f);refine wc_inv (cs':=lsC (gS LK f)::bP (zd LK f)::[caR bc (.i room) (.slice Ac Z.length cc) (.map (some ml)) (.i fl),slv 242 4 Ac Z.length cc (Z.flatMap BA.cells),bP (Z.map baC),mpc ml (lkV LK),kyR b4 f,kyR b5 t]) (λw hi=>lkTake f (hi.pick (cs':=bP (lkC LK)::[caR bc (.i room) (.slice Ac Z.length cc) (.map (some ml)) (.i fl),slv 242 4 Ac Z.length cc (Z.flatMap BA.cells),bP (Z.map baC),mpc ml (lkV LK),kyR b4 f,kyR b5 t]) Zj)) (gP (Zdn [7,9,11]) [(0,0),(1,0),(2,0),(3,4),(4,4),(5,4),(6,2),(7,2),(8,0),(10,0),(9,2),(11,2)] Zk Zk (m5 ?_));refine dH rfl (Jr Zv0) rfl (dH rfl (eH 2 rfl Zv0 Zf) rfl (LL ?_));refine Qi ?_;refine Qi ?_;refine GL ?_;rintro _ _ ⟨b33,rfl,rfl⟩;refine fT ?_;refine jG rfl rfl (Rk rfl rfl hkf rfl FX Zrf Za) ZJ rfl ?_;rintro _ _ ⟨st34,rfl,rfl⟩;refine V0 ?_;refine fT ?_;rw[Ol LK f];refine jG rfl rfl (bV (n:=(gS LK f).ks.length) (e:=206) (sz:=2) (bytes:=8) rfl rfl Za rfl rfl (λw hi=>hi.rd (Zhc (slv 206 2 (sA b33) 1 1 (cD t)))) (wo t) Wq9 Wq1) ZJ rfl ?_;rintro _ _ ⟨A9,c9,rfl,rfl⟩;rw[show(gS LK f).ks.flatMap cD++cD t=((gS LK f).ks++[t]).flatMap cD by simp,show(gS LK f).ks.length+1=((gS LK f).ks++[t]).length by simp];refine fT ?_;refine uX rfl rfl (MO (ment_at LK f) rfl rfl rfl Za) ZJ ?_;rintro _ _ ⟨rfl,rfl⟩;refine i6 (lf (c:=mpc ml ((v6 (lkV LK) f (.slice none 0 0)).set (Bg (lkV LK) f) (f,(LS.mk A9 c9 ((gS LK f).ks++[t])).v))) (c':=mpc ml (lkV (dS LK f ⟨A9,c9,(gS LK f).ks++[t]⟩))) Za rfl (λw h=>by rw[<-Sx];exact h) ?_)
   refine kC (cin:=zd LK f) (c:=lsC ⟨A9,c9,(gS LK f).ks++[t]⟩) (cin':=lkC (dS LK f ⟨A9,c9,(gS LK f).ks++[t]⟩)) Zd Zd (lkPut LK f _) (qMP ((⟨ml,Ac,cc,fl,dS LK f ⟨A9,c9,(gS LK f).ks++[t]⟩,Z⟩:CaX)) ⟨hX2 _ (hlk.put hkf htk hnt _ _),rfl⟩)
  refine Zc (qMP ((⟨ml,Ac,cc,fl,LK,Z⟩:CaX)) bY)
 rintro Y ⟨hY,hYZ⟩;refine Z_6 ?_
 skip
 refine LH (cs':=caF bc room Y) (.inl rfl) (bh _) rfl rfl ?_
 grind
end Go.Ink
