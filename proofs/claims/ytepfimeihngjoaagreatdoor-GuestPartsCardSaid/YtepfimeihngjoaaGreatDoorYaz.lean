/- Lemmas. -/
import Derived.Test.YtepfimeihngjoaaGreatDoorYav
import Derived.Test.YtepfimeihngjoaaGreatDoorYaw
import Derived.Test.YtepfimeihngjoaaGreatDoorYax
set_option linter.all false
set_option maxRecDepth 100000
set_option maxHeartbeats 4000000
namespace Go.Ink
open List renaming length→J, replicate→R9
open IntKind renaming wrap→V9
open Go.RowKit Go.Proofs.Tryz
set_option maxHeartbeats 1000000
variable{s:St}{n:Int}
section
attribute [local irreducible] UL bM
variable{k:Nat}
variable{n:Nat}
variable{q:Ky}
def lS(n:Nat)(m from_:Int):Nat->(St×Uo×Un)×Vi->(St×Uo×Un)×Vi
 |0,q=>q
 |k+1,q=>bif fc m from_ q.1.1 then lS n m from_ k (Wv n q.1.1 q.1.2.1 q.1.2.2 q.2)else q
def N9(n:Nat)(m:Int)(s:St)(U:Uo)(d:Un)(E:Vi):(St×Uo×Un)×Vi:=lS n m s.count m.toNat ((s,U,d),E)
variable{q:(St×Uo×Un)×Vi}
theorem uf{m from_:Int}(h:fc m from_ q.1.1=false):lS n m from_ k q=q:=by
 cases k with
 |zero=>rfl
 |succ k=>
  unfold lS;rw[h]
  rfl
theorem zV{m from_:Int}(h:fc m from_ q.1.1=true):lS n m from_ (k+1) q=lS n m from_ k (Wv n q.1.1 q.1.2.1 q.1.2.2 q.2):=by
 rw[lS,h]
 rfl
end
end Go.Ink
namespace Go.Ink
open List renaming length→J, replicate→R9
open IntKind renaming wrap→V9
open Go.RowKit Go.Proofs.Tryz
section
attribute [local irreducible] UL bM
variable{α:Type}{l:List α}{k:Nat}{x:α}
theorem jB(h:l[k]? =some x):l.drop k=x::l.drop (k+1):=by
 grind [Nat.lt_or_ge,List.drop_eq_getElem_cons,List.getElem?_eq_getElem,Option.some.inj,List.getElem?_eq_none]
variable{n c:Nat}{xs:List Value}
theorem Om{w0:World}{S:List Nat}{cs:List bH}{j:Nat}{ad:Addr}{v:Value}(h:∀w,Inv w0 S cs w->UJ w 1 (some ad) n c xs)(hv:xs[j]? =some v):∀w,Inv w0 S cs w->cells [(ad.add (j*1),v)] w:=λw hi z hz=>by
 rw[aQ]at hz;subst hz;rw[Nat.mul_one];exact(h w hi).at_ ad I j v hv
variable{m:Nat}
theorem rep0(n:Nat):(R9 n (.i 0:Value)).take 0++(ints .i64 [-1]).take (min 1 n)++(R9 n (.i 0)).drop (0+min 1 n)=GI (min 1 n) n:=by
 unfold GI;rw[List.take_zero,aJ,List.drop_replicate,bA];cases n with
 |zero=>rfl
 |succ n=>rw[show min 1 (n+1)=1 by omega];rfl
theorem Oh(h:m<=n):(GI m n).take m++(R9 m (.i (-1):Value)).take (min m (n - m))++(GI m n).drop (m+min m (n - m))=GI (m+min m (n - m)) n:=by
 grind [z5,GI,min,List.drop_append,List.length_replicate,List.drop_of_length_le,List.replicate_append_replicate]
theorem JN(n:Nat)(hn:n<=64)(A:Oa)(c:Nat)(w:World)(h:Rd w .i64 A 1 c [-1]):
  Uz prog 297 [.slice A 1 c,.i n] w [] (λr cs=>∃A',r= .slice A' n n/\cs=[sl .i64 3 A' n n (R9 n (-1))]):=by
 refine UB func297 ntmps297 ?_;refine fo ?_;refine cG I (ao O) (UA ?_);refine Zy (cA I I (Zv I) (show _=(1:Int)from I)) ?_;refine ZA ?_;refine pG ?_;refine UD (λw hi=>mul_ok n hn w) ?_;refine xt ?_;refine cG I (gW) (Uu ?_);refine sO ?_;refine gJ (jT (bytes:=8) (n:=n) I I I I I I I O gI) I ?_;rintro _ _ ⟨b30,rfl,rfl⟩;refine Ux ?_;refine QY ?_;refine Uw ?_;rw[rep0 n];refine Uu ?_;refine UX (λm:Nat=>[(7,.slice (sA b30) n n),(8,.i (m:Int))]) (λm=>[slv 3 1 (sA b30) n n (GI m n)]) (λm=>m<=n/\(0<n->0<m)) (λm=>n - m) ((min 1 n)) O ?_;rintro m ⟨hm,hm0⟩;refine VM ?_ ?_<;>intro hc8
 .simp only[ah]at hc8;refine Us ?_;refine bN (UK [7]) Zk (y5 ?_);refine UF 3 I (kX (sz:=1) (lo:=m) (hi:=n) (r:=m) I ir (Zv I) (.inr ⟨_,_,I,(Zv I)⟩) (.inl ⟨I,I⟩) O O O O) ?_;refine ZE 4 ?_;refine ZE 5 ?_;refine UF 6 I (eO m I ir (Zv I) (Zv I) qD Uq) ?_;refine iW ?_;refine jX I I (Jt I I Za I I (λw hi=>z5▸(hi.rd (Ur (slv 3 1 (sA b30) n n (GI m n)))).head hm) Oi O) ZJ I ?_;refine Uw ?_;rw[Oh hm];refine UF 8 I (dr ne ne Zl) ?_;refine ZE 9 ?_;refine fe ?_;refine Zo (Vo (m+min m (n - m)) O)
 simp only[aa]at hc8;obtain rfl:m=n:=by omega
 refine fo ?_;refine Vd ([slv 3 1 (sA b30) m m (GI m m)]) ?_;exact⟨_,I,by rw[Oj]⟩
theorem GH(v:Int)(n:Nat)(hv:v=n)(hn:n<=64)(A:Oa)(c:Nat)(w:World)(h:Rd w .i64 A 1 c [-1]):
  Uz prog 297 [.slice A 1 c,.i v] w [] (λr cs=>∃A',r= .slice A' n n/\cs=[sl .i64 3 A' n n (R9 n (-1))]):=by
 grind [JN]
end
end Go.Ink
namespace Go.Ink
open List renaming length→J
open IntKind renaming wrap→V9
open Go.RowKit Go.Proofs.Tryz
section
attribute [local irreducible] UL bM
theorem uL(b:Nat)(N:Int)(L:Lw)(X:VZ)(hs:L.sm 1000)(op dst a b2 imm:Int):CI prog 291 [.p b,.agg #[.i op,.i dst,.i a,.i b2,.w imm]] (Vn b N L X) (λv9 cs=>v9= .i L.here/\∃C A c,C=L.code++[⟨op,J L.code,a,b2,imm⟩]/\cs=Vn b N ⟨C,L.d,L.r,L.flags,L.target,L.branch⟩ ⟨A,c,X.Ad,X.cd,X.Ar,X.cr⟩):=λw hi=>by
 have hc:=hs.code;obtain⟨Ac,cc,Ad,cd,Ar,cr⟩:=X;have hsn:=Lk L.code ⟨op,J L.code,a,b2,imm⟩;dsimp only at hsn;refine UH func291 ntmps291 hi ?_;refine py ?_;refine ZO λb3=>?_;refine fo ?_;refine ZL ?_;refine Us ?_;refine bN (Wz [8,12] (pk b3 [.i op,.i (J L.code),.i a,.i b2,.w imm])) Zk (sU ?_);refine Ld 4 0 ?_;refine ZG 5 ?_;refine wn 6 I Zk Zk Zk (cj ir ir ne) (λx hx=>fU x hx) (bO (t:=366) Zh) I (iW ?_);refine jX I I (ng I I ir ir I I I) (λ_=>by rintro _ _ ⟨b19,rfl,rfl⟩;exact bO (t:=366) Zh) I ?_;rintro _ _ ⟨b19,rfl,rfl⟩;refine fS ?_;refine jX I I (cu (e:=366) (sz:=5) (bytes:=40) I I Za I I (λw hi=>hi.rd (Ur (slv 366 5 (sA b19) 1 1 [.i op,.i (J L.code),.i a,.i b2,.w imm]))) (one5 _ _ _ _ _) gI O) (λ_=>by rintro _ _ ⟨A2,c2,rfl,rfl⟩;exact bO (t:=366) Zh) I ?_;rintro _ _ ⟨A2,c2,rfl,rfl⟩;rw[hsn,show J L.code+1=J (L.code++[(⟨op,J L.code,a,b2,imm⟩:II)]) by simp];refine ZE 9 ?_;refine Ld 10 0 ?_;refine Ld 11 0 ?_;refine cQ 12 Zk (ft I I (mm ir I I I Za Zp) (λ_=>by refine Uw ?_;exact bO (t:=366) Zh) ?_);refine Uw ?_;refine fe ?_;refine UE ?_;refine Vd (Vn b N ⟨L.code++[⟨op,J L.code,a,b2,imm⟩],L.d,L.r,L.flags,L.target,L.branch⟩ ⟨A2,c2,Ad,cd,Ar,cr⟩) ?_;exact⟨I,_,_,_,I,I⟩
theorem uK(b:Nat)(N:Int)(L:Lw)(X:VZ)(hs:L.sm 1000)(n:Int):CI prog 289 [.p b,.w n] (Vn b N L X) (λv9 cs=>v9= .i L.here/\∃C A c,C=L.code++[⟨0,J L.code,0,0,n⟩]/\cs=Vn b N ⟨C,L.d,L.r,L.flags,L.target,L.branch⟩ ⟨A,c,X.Ad,X.cd,X.Ar,X.cr⟩):=λw hi=>by
 refine UH func289 ntmps289 hi ?_;refine eK ?_;refine dE (Vn b N L X) (λw hi hin=>uL b N L X hs 0 0 0 0 n w hin) ?_;rintro _ _ ⟨rfl,C2,A2,c2,hC2,rfl⟩;refine Ut ?_;refine Vd (Vn b N ⟨C2,L.d,L.r,L.flags,L.target,L.branch⟩ ⟨A2,c2,X.Ad,X.cd,X.Ar,X.cr⟩) ?_;exact⟨I,C2,A2,c2,hC2,I⟩
theorem KP(b:Nat)(N:Int)(code:List II)(r:Sd)(l:Li)(x SK high fl tg br:Int)(Ac:Oa)(cc:Nat)(Ad:Oa)(cd:Nat)(Ar:Oa)(cr:Nat)(hl:J l<=1000):CI prog 290 [.p b,.pointer (some ⟨b,14,none⟩)] (Vn b N ⟨code,⟨l++[x],SK,high⟩,r,fl,tg,br⟩ ⟨Ac,cc,Ad,cd,Ar,cr⟩) (λv9 cs=>v9= .i x/\cs=Vn b N ⟨code,⟨l,SK,high⟩,r,fl,tg,br⟩ ⟨Ac,cc,Ad,cd,Ar,cr⟩):=λw hi=>by
 have hrd:=de (hi.get (show UQ _ (sl .i64 3 Ad (J (l++[x])) cd (l++[x]))from(.tail _ (.tail _ (.head _ _)))));have hcap:J (l++[x])<=cd:=hrd.cap;have hlen:J (l++[x])=J l+1:=by simp
 obtain⟨bd,rfl⟩:=dp (hi.get (show UQ _ (sl .i64 3 Ad (J (l++[x])) cd (l++[x]))from(.tail _ (.tail _ (.head _ _))))) O;refine UH func290 ntmps290 hi ?_;refine Ro ?_;refine UE ?_;refine bV I ((ak O)) (Ux ?_);refine Zy (bW (bb:=bd) (o:=0) (n:=J (l++[x])) (c:=cd) (j:=J l) (sz:=1) (r:=J l) I ir (Zv I) (Zv I) ir Uq O) ?_;refine dW (bL ir ne) (cN Zh (bX (gD l x))) I (gX ?_);refine Zy (eO (A:=some ⟨bd,0,none⟩) (n:=J (l++[x])) (c:=cd) (J l) I ir (Zv I) (Zv I) ir Uq) ?_;refine jD ?_;refine eK ?_;refine ig (c:=sl .i64 3 (sA bd) (J (l++[x])) cd (l++[x])) (c':=sl .i64 3 (sA bd) (J l) cd l) Za I (λw h=>mM h) (Vd ([row _ _ _,slv _ _ _ _ _ _,slv _ _ _ _ _ _,slv _ _ _ _ _ _]) ?_);exact ff
theorem KQ(b:Nat)(N:Int)(code:List II)(r:Sd)(SK high fl tg br:Int)(X:VZ)(hs:Lw.sm ⟨code,⟨[],SK,high⟩,r,fl,tg,br⟩ 999):CI prog 290 [.p b,.pointer (some ⟨b,14,none⟩)] (Vn b N ⟨code,⟨[],SK,high⟩,r,fl,tg,br⟩ X) (λv9 cs=>v9= .i (J code)/\∃C A c,C=code++[⟨1,J code,0,0,V9 .u32 SK⟩]/\cs=Vn b N ⟨C,⟨[],SK+1,high⟩,r,fl,tg,br⟩ ⟨A,c,X.Ad,X.cd,X.Ar,X.cr⟩):=λw hi=>by
 obtain⟨h1,h2⟩:=hs.dn;dsimp only at h1 h2;have hs2:Lw.sm ⟨code,⟨[],SK+1,high⟩,r,fl,tg,br⟩ 1000:=⟨by have:=hs.code;grind,by grind,by have:=hs.rl;grind,by grind,by have:=hs.rn;grind⟩;have hwr:V9 .i64 (SK+1 - 1)=SK:=by rw[bG];omega
 have hw1:V9 .i64 (SK+1)=SK+1:=by rw[bG];omega
 refine UH func290 ntmps290 hi ?_;refine iR ?_;refine sT ?_;refine UE ?_;refine jn ?_;refine UG ?_;refine Zy (dr ne ne hw1) ?_;refine jD ?_;refine Us ?_;refine bN (UK [12]) Zk (y5 ?_);refine Ld 3 3 ?_;refine qC ?_;refine Ld 7 1 ?_;refine rU 4 8 Zk ?_ ?_
 .refine pE ?_;refine fS ?_;refine Ri ?_;refine DS ?_;exact Wq147
 refine Ri ?_;refine cQ 4 Zk (pE ?_);refine DS ?_;exact Wq147
theorem O6(b:Nat)(N:Int)(code:List II)(r:Sd)(l:Li)(SK high fl tg br:Int)(X:VZ)(hl:J l<=1000)(hn:0<=SK/\SK<=1000):CI prog 292 [.pointer (some ⟨b,14,none⟩)] (Vn b N ⟨code,⟨l,SK,high⟩,r,fl,tg,br⟩ X) (λ_ cs=>cs=Vn b N ⟨code,⟨l,SK,max high ((J l:Int) - SK)⟩,r,fl,tg,br⟩ X):=λw hi=>by
 have hwt:V9 .i64 ((J l:Int) - SK)=(J l:Int) - SK:=by rw[bG];omega
 refine UH func292 ntmps292 hi ?_;refine bN (UK [18]) Zk (MV ?_);refine Ld 7 0 ?_;refine ZG 8 ?_;refine qE ?_;refine Ld 12 1 ?_;refine ZG 13 ?_;refine Wq359 ?_;refine YW ?_
 rfl
theorem KN(b:Nat)(N:Int)(code:List II)(d:Sd)(l:Li)(x SK high fl tg br:Int)(Ac:Oa)(cc:Nat)(Ad:Oa)(cd:Nat)(Ar:Oa)(cr:Nat)(hl:J l<=1000):CI prog 290 [.p b,.pointer (some ⟨b,18,none⟩)] (Vn b N ⟨code,d,⟨l++[x],SK,high⟩,fl,tg,br⟩ ⟨Ac,cc,Ad,cd,Ar,cr⟩) (λv9 cs=>v9= .i x/\cs=Vn b N ⟨code,d,⟨l,SK,high⟩,fl,tg,br⟩ ⟨Ac,cc,Ad,cd,Ar,cr⟩):=λw hi=>by
 have hrd:=de (hi.get (show UQ _ (sl .i64 3 Ar (J (l++[x])) cr (l++[x]))from(.tail _ (.tail _ (.tail _ (.head _ _))))));have hcap:J (l++[x])<=cr:=hrd.cap;have hlen:J (l++[x])=J l+1:=by simp
 obtain⟨bd,rfl⟩:=dp (hi.get (show UQ _ (sl .i64 3 Ar (J (l++[x])) cr (l++[x]))from(.tail _ (.tail _ (.tail _ (.head _ _)))))) O;refine UH func290 ntmps290 hi ?_;refine Ro ?_;refine UE ?_;refine bV I ((ak O)) (Ux ?_);refine Zy (bW (bb:=bd) (o:=0) (n:=J (l++[x])) (c:=cr) (j:=J l) (sz:=1) (r:=J l) I ir (Zv I) (Zv I) ir Uq O) ?_;refine dW (bL ir ne) (cN Zh (bX (gD l x))) I (gX ?_);refine Zy (eO (A:=some ⟨bd,0,none⟩) (n:=J (l++[x])) (c:=cr) (J l) I ir (Zv I) (Zv I) ir Uq) ?_;refine jD ?_;refine eK ?_;refine ig (c:=sl .i64 3 (sA bd) (J (l++[x])) cr (l++[x])) (c':=sl .i64 3 (sA bd) (J l) cr l) Za I (λw h=>mM h) (Vd ([row _ _ _,slv _ _ _ _ _ _,slv _ _ _ _ _ _,slv _ _ _ _ _ _]) ?_);exact ff
theorem KO(b:Nat)(N:Int)(code:List II)(d:Sd)(SK high fl tg br:Int)(X:VZ)(hs:Lw.sm ⟨code,d,⟨[],SK,high⟩,fl,tg,br⟩ 999):CI prog 290 [.p b,.pointer (some ⟨b,18,none⟩)] (Vn b N ⟨code,d,⟨[],SK,high⟩,fl,tg,br⟩ X) (λv9 cs=>v9= .i (J code)/\∃C A c,C=code++[⟨2,J code,0,0,V9 .u32 SK⟩]/\cs=Vn b N ⟨C,d,⟨[],SK+1,high⟩,fl,tg,br⟩ ⟨A,c,X.Ad,X.cd,X.Ar,X.cr⟩):=λw hi=>by
 obtain⟨h1,h2⟩:=hs.rn;dsimp only at h1 h2;have hs2:Lw.sm ⟨code,d,⟨[],SK+1,high⟩,fl,tg,br⟩ 1000:=⟨by have:=hs.code;grind,by have:=hs.dl;grind,by grind,by have:=hs.dn;grind,by grind⟩;have hwr:V9 .i64 (SK+1 - 1)=SK:=by rw[bG];omega
 have hw1:V9 .i64 (SK+1)=SK+1:=by rw[bG];omega
 refine UH func290 ntmps290 hi ?_;refine iR ?_;refine sT ?_;refine UE ?_;refine jn ?_;refine UG ?_;refine Zy (dr ne ne hw1) ?_;refine jD ?_;refine Us ?_;refine bN (UK [12]) Zk (y5 ?_);refine Ld 3 3 ?_;refine qC ?_;refine Ld 7 1 ?_;refine rU 4 8 Zk ?_ ?_
 .refine pE ?_;refine fS ?_;refine Ri ?_;refine DS ?_;exact Wq146
 refine Ri ?_;refine cQ 4 Zk (pE ?_);refine DS ?_;exact Wq146
theorem O5(b:Nat)(N:Int)(code:List II)(d:Sd)(l:Li)(SK high fl tg br:Int)(X:VZ)(hl:J l<=1000)(hn:0<=SK/\SK<=1000):CI prog 292 [.pointer (some ⟨b,18,none⟩)] (Vn b N ⟨code,d,⟨l,SK,high⟩,fl,tg,br⟩ X) (λ_ cs=>cs=Vn b N ⟨code,d,⟨l,SK,max high ((J l:Int) - SK)⟩,fl,tg,br⟩ X):=λw hi=>by
 have hwt:V9 .i64 ((J l:Int) - SK)=(J l:Int) - SK:=by rw[bG];omega
 refine UH func292 ntmps292 hi ?_;refine bN (UK [18]) Zk (MV ?_);refine Ld 7 0 ?_;refine ZG 8 ?_;refine qE ?_;refine Ld 12 1 ?_;refine ZG 13 ?_;refine Wq359 ?_;refine YW ?_
 rfl
theorem tx(b:Nat)(N:Int)(L:Lw)(X:VZ)(hs:L.sm 999):CI prog 290 [.p b,.pointer (some ⟨b,14,none⟩)] (Vn b N L X) (λv9 cs=>v9= .i (fu 1 L.code L.d).1/\∃C s A c,C=(fu 1 L.code L.d).2.1/\s=(fu 1 L.code L.d).2.2/\cs=Vn b N ⟨C,s,L.r,L.flags,L.target,L.branch⟩ ⟨A,c,X.Ad,X.cd,X.Ar,X.cr⟩):=λw hi=>by
 have hl:=hs.dl;obtain⟨code,d,r,fl,tg,br⟩:=L;obtain⟨l,SK,high⟩:=d;obtain⟨Ac,cc,Ad,cd,Ar,cr⟩:=X;dsimp only at hl;rcases Nat.eq_zero_or_pos (J l) with h0|h0
 .obtain rfl:l=[]:=List.eq_nil_of_length_eq_zero h0;refine Uz.mono (KQ b N code r SK high fl tg br ⟨Ac,cc,Ad,cd,Ar,cr⟩ hs w hi) ?_;rintro v cs ⟨rfl,C,A,c,hC,rfl⟩;exact⟨I,C,_,A,c,hC,I,I⟩
 obtain⟨m,x,rfl⟩:=qQ h0
 grind [fu,Uz.mono,KP]
theorem yB(b:Nat)(N:Int)(L:Lw)(X:VZ)(hs:L.sm 999):CI prog 290 [.p b,.pointer (some ⟨b,18,none⟩)] (Vn b N L X) (λv9 cs=>v9= .i (fu 2 L.code L.r).1/\∃C s A c,C=(fu 2 L.code L.r).2.1/\s=(fu 2 L.code L.r).2.2/\cs=Vn b N ⟨C,L.d,s,L.flags,L.target,L.branch⟩ ⟨A,c,X.Ad,X.cd,X.Ar,X.cr⟩):=λw hi=>by
 have hl:=hs.rl;obtain⟨code,d,r,fl,tg,br⟩:=L;obtain⟨l,SK,high⟩:=r;obtain⟨Ac,cc,Ad,cd,Ar,cr⟩:=X;dsimp only at hl;rcases Nat.eq_zero_or_pos (J l) with h0|h0
 .obtain rfl:l=[]:=List.eq_nil_of_length_eq_zero h0;refine Uz.mono (KO b N code d SK high fl tg br ⟨Ac,cc,Ad,cd,Ar,cr⟩ hs w hi) ?_;rintro v cs ⟨rfl,C,A,c,hC,rfl⟩;exact⟨I,C,_,A,c,hC,I,I⟩
 obtain⟨m,x,rfl⟩:=qQ h0
 grind [fu,Uz.mono,KN]
variable{L:Lw}{n:Nat}
theorem wC(h:L.sm n)(op a b i:Int):(L.add op a b i).sm (n+1):=⟨by have:=h.code;show(L.code++[_]).length<=_;simp;omega,aR h.dl O,aR h.rl O,⟨h.dn.1,by have:=h.dn.2;show L.d.SK<=_;omega⟩,⟨h.rn.1,by have:=h.rn.2;show L.r.SK<=_;omega⟩⟩
theorem sm_go(h:L.sm n)(op i next:Int):(L.go op i next).sm (n+10):=by
 unfold Lw.go Lw.reckon;cases op==1||op==2<;>simp only[ae,ac]
 case true=>exact(qR (wC h _ _ _ _) _ cE).mono O
 cases op==3<;>simp only[ae,ac]
 case true=>exact(qR (sC h) _ cE).mono O
 cases op==4<;>simp only[ae,ac]
 case true=>exact(sC h).mono O
 cases op==5<;>simp only[ae,ac]
 case true=>exact(qR (sC (sC h)) _ cE).mono O
 cases op==6<;>simp only[ae,ac]
 case true=>exact(qR (sC (sC h)) _ cE).mono O
 cases op==7<;>simp only[ae,ac]
 case true=>exact(JA (sC h) _ cE).mono O
 cases op==8<;>simp only[ae,ac]
 case true=>exact(qR (sm_pR h) _ cE).mono O
 cases decide (16<=op)&&decide (op<=25)<;>simp only[ae,ac]
 case true=>
  cases op !=25<;>simp only[ae,ac]
  .exact(uc (wC (sC (sC h)) _ _ _ _) _ _ _).mono O
  exact(qR (wC (uc (wC (sC (sC h)) _ _ _ _) _ _ _) _ _ _ _) _ cE).mono O
 cases op==38<;>simp only[ae,ac]
 case true=>exact(JA (wC h _ _ _ _) _ cE).mono O
 cases op==39<;>simp only[ae,ac]
 case true=>exact(uc (sm_pR h) _ _ _).mono O
 cases op==40<;>simp only[ae,ac]
 case true=>exact(uc (sC h) _ _ _).mono O
 cases decide (33<=op)&&decide (op<=37)<;>simp only[ae,ac]
 .exact h.mono O
 exact(uc h _ _ _).mono O
theorem KM(b:Nat)(N:Int)(L:Lw)(X:VZ)(hs:L.sm 1000):CI prog 292 [.pointer (some ⟨b,14,none⟩)] (Vn b N L X) (λ_ cs=>cs=Vn b N ⟨L.code,L.d.top,L.r,L.flags,L.target,L.branch⟩ X):=λw hi=>O6 b N L.code L.r L.d.l L.d.SK L.d.high L.flags L.target L.branch X hs.dl hs.dn w hi
theorem KL(b:Nat)(N:Int)(L:Lw)(X:VZ)(hs:L.sm 1000):CI prog 292 [.pointer (some ⟨b,18,none⟩)] (Vn b N L X) (λ_ cs=>cs=Vn b N ⟨L.code,L.d,L.r.top,L.flags,L.target,L.branch⟩ X):=λw hi=>O5 b N L.code L.d L.r.l L.r.SK L.r.high L.flags L.target L.branch X hs.rl hs.rn w hi
theorem lone_ok(b:Nat)(N:Int)(L:Lw)(X:VZ)(hs:L.sm 500)(op n next:Int):CI prog 228 [.p b,.agg #[.i op,.w n],.w next] (Vn b N L X) (λ_ cs=>∃L' X',L'=L.one op n next/\cs=Vn b N L' X'):=λw hi=>by
 have hgo:=sm_go hs op n next
 refine UH func228 ntmps228 hi ?_;refine py ?_;refine ZO λb4=>?_;refine Us ?_;refine B7 ?_;refine Ld 2 14 ?_;refine ZE 3 ?_;refine ZE 4 ?_;refine Ld 5 18 ?_;refine ZE 6 ?_;refine ZE 7 ?_;refine sR ?_;refine cq (λq:Lw×VZ=>[(0,.p b),(6,.pointer (some ⟨b,14,none⟩)),(7,.pointer (some ⟨b,18,none⟩))]) (λq=>Vn b N q.1 q.2) (λq=>q.1=L.go op n next) ?_ ?_
 .refine IK ?_;refine ZW ?_ ?_<;>intro hc3
  .refine bN (Wz [8,10,13] (pk b4 [.i op,.w n])) Zk (sU ?_);refine ZE 5 ?_;refine Ld 6 1 ?_;refine fD 7 I Zk Zk Zk (bL ir ne) (dD I) (bO (t:=51) Zh) I (rU 4 8 Zk ?_ ?_)
   .refine pE ?_;refine fS ?_;refine Wq332 ?_;rintro _ _ ⟨_,⟨rfl,C2,A2,c2,hC2,rfl⟩,rfl⟩;exact Wx30_
   refine Wq332 ?_;rintro _ _ ⟨_,⟨rfl,C2,A2,c2,hC2,rfl⟩,rfl⟩;refine ZG 4 ?_;exact Wx30_
  refine Vl ?_ ?_<;>intro hc5
  .refine Ut ?_;refine Iw ?_;rintro _ _ ⟨_,⟨rfl,C2,s2,A2,c2,hC2,hs2,rfl⟩,rfl⟩;refine gX ?_;refine jP ?_;rintro _ _ ⟨b57,rfl,rfl⟩;have hbd:J s2.l<=600:=aR (jb hs hC2 hs2 0 0 0).dl O;refine gJ (cu (n:=J s2.l) (e:=3) (sz:=1) (bytes:=8) I I Za I I (λw hi=>hi.rd (Ur (slv 3 1 (sA b57) 2 2 (ints .i64 [(fu 1 L.code L.d).1,(fu 1 L.code L.d).1])))) cP gI O) I ?_;rintro _ _ ⟨A9,c9,rfl,rfl⟩;rw[bY,show J s2.l+2=J (s2.l++[(fu 1 L.code L.d).1,(fu 1 L.code L.d).1]) by simp];refine jD ?_;refine py ?_;refine UN (((⟨C2,⟨s2.l++[(fu 1 L.code L.d).1,(fu 1 L.code L.d).1],s2.SK,s2.high⟩,L.r,L.flags,L.target,L.branch⟩,⟨A2,c2,A9,c9,X.Ar,X.cr⟩):Lw×VZ)) ?_;dsimp only;subst hC2 hs2;unfold Lw.go;rw[hc3,hc5];rfl
  refine Vl ?_ ?_<;>intro hc8
  .refine Us ?_;refine Iw ?_;rintro _ _ ⟨_,⟨rfl,C2,s2,A2,c2,hC2,hs2,rfl⟩,rfl⟩;refine py ?_;refine UN (((⟨C2,s2,L.r,L.flags,L.target,L.branch⟩,⟨A2,c2,X.Ad,X.cd,X.Ar,X.cr⟩):Lw×VZ)) ?_;dsimp only;subst hC2 hs2;unfold Lw.go;rw[hc3,hc5,hc8];rfl
  refine Vl ?_ ?_<;>intro hc10
  .refine Ut ?_;refine Iw ?_;rintro _ _ ⟨_,⟨rfl,C2,s2,A2,c2,hC2,hs2,rfl⟩,rfl⟩;refine θ ?_;rintro _ _ ⟨_,⟨rfl,C3,s3,A3,c3,hC3,hs3,rfl⟩,rfl⟩;refine gX ?_;refine jP ?_;rintro _ _ ⟨b83,rfl,rfl⟩;have hbd:J s3.l<=600:=aR (jb (jb hs hC2 hs2 L.flags L.target L.branch) hC3 hs3 0 0 0).dl O;refine gJ (cu (n:=J s3.l) (e:=3) (sz:=1) (bytes:=8) I I Za I I (λw hi=>hi.rd (Ur (slv 3 1 (sA b83) 2 2 (ints .i64 [(fu 1 L.code L.d).1,(fu 1 C2 s2).1])))) cP gI O) I ?_;rintro _ _ ⟨A9,c9,rfl,rfl⟩;rw[bY,show J s3.l+2=J (s3.l++[(fu 1 L.code L.d).1,(fu 1 C2 s2).1]) by simp];refine jD ?_;refine py ?_;refine UN (((⟨C3,⟨s3.l++[(fu 1 L.code L.d).1,(fu 1 C2 s2).1],s3.SK,s3.high⟩,L.r,L.flags,L.target,L.branch⟩,⟨A3,c3,A9,c9,X.Ar,X.cr⟩):Lw×VZ)) ?_;dsimp only;subst hC3 hs3 hC2 hs2;unfold Lw.go;rw[hc3,hc5,hc8,hc10];rfl
  refine Vl ?_ ?_<;>intro hc14
  .refine Ut ?_;refine Iw ?_;rintro _ _ ⟨_,⟨rfl,C2,s2,A2,c2,hC2,hs2,rfl⟩,rfl⟩;refine θ ?_;rintro _ _ ⟨_,⟨rfl,C3,s3,A3,c3,hC3,hs3,rfl⟩,rfl⟩;refine fo ?_;refine jP ?_;rintro _ _ ⟨b104,rfl,rfl⟩;have hbd:J s3.l<=600:=aR (jb (jb hs hC2 hs2 L.flags L.target L.branch) hC3 hs3 0 0 0).dl O;refine gJ (cu (n:=J s3.l) (e:=3) (sz:=1) (bytes:=8) I I Za I I (λw hi=>hi.rd (Ur (slv 3 1 (sA b104) 3 3 (ints .i64 [(fu 1 C2 s2).1,(fu 1 L.code L.d).1,(fu 1 C2 s2).1])))) cP gI O) I ?_;rintro _ _ ⟨A9,c9,rfl,rfl⟩;rw[bY,show J s3.l+3=J (s3.l++[(fu 1 C2 s2).1,(fu 1 L.code L.d).1,(fu 1 C2 s2).1]) by simp];refine jD ?_;refine py ?_;refine UN (((⟨C3,⟨s3.l++[(fu 1 C2 s2).1,(fu 1 L.code L.d).1,(fu 1 C2 s2).1],s3.SK,s3.high⟩,L.r,L.flags,L.target,L.branch⟩,⟨A3,c3,A9,c9,X.Ar,X.cr⟩):Lw×VZ)) ?_;dsimp only;subst hC3 hs3 hC2 hs2;unfold Lw.go;rw[hc3,hc5,hc8,hc10,hc14];rfl
  refine Vl ?_ ?_<;>intro hc18
  .refine bN (UK [7,9,12]) Zk (sU ?_);refine qC ?_;refine rU 4 7 Zk ?_ ?_
   .refine pE ?_;refine iW ?_;refine rH (Vn b N L X) (λw hi hin=>tx b N L X (hs.mono O) w hin) ?_;rintro _ _ ⟨rfl,C2,s2,A2,c2,hC2,hs2,rfl⟩;exact Wx25_
   refine rH (Vn b N L X) (λw hi hin=>tx b N L X (hs.mono O) w hin) ?_;rintro _ _ ⟨rfl,C2,s2,A2,c2,hC2,hs2,rfl⟩;refine ZG 4 ?_;exact Wx25_
  refine Vl ?_ ?_<;>intro hc20
  .refine bN (UK [7,9,12]) Zk (sU ?_);refine qC ?_;refine rU 4 7 Zk ?_ ?_
   .refine pE ?_;refine iW ?_;refine rH (Vn b N L X) (λw hi hin=>yB b N L X (hs.mono O) w hin) ?_;rintro _ _ ⟨rfl,C2,s2,A2,c2,hC2,hs2,rfl⟩;refine fS ?_;exact Wq493
   refine rH (Vn b N L X) (λw hi hin=>yB b N L X (hs.mono O) w hin) ?_;rintro _ _ ⟨rfl,C2,s2,A2,c2,hC2,hs2,rfl⟩;refine ZG 4 ?_;refine fS ?_;exact Wq493
  refine yZ ?_ ?_<;>intro hc22
  .have hop:16<=op/\op<=25:=Do;have hwop:V9 .u32 op=op:=(by rw[au];omega);refine Ut ?_;refine Iw ?_;rintro _ _ ⟨_,⟨rfl,C2,s2,A2,c2,hC2,hs2,rfl⟩,rfl⟩;refine θ ?_;rintro _ _ ⟨_,⟨rfl,C3,s3,A3,c3,hC3,hs3,rfl⟩,rfl⟩;refine eK ?_;refine Zy (cA I I ne hwop) ?_;refine ZA ?_;refine dE (Vn b N ⟨C3,s3,L.r,L.flags,L.target,L.branch⟩ ⟨A3,c3,X.Ad,X.cd,X.Ar,X.cr⟩) (λw hi hin=>uL b N ⟨C3,s3,L.r,L.flags,L.target,L.branch⟩ ⟨A3,c3,X.Ad,X.cd,X.Ar,X.cr⟩ ((jb (jb hs hC2 hs2 L.flags L.target L.branch) hC3 hs3 _ _ _).mono O) 4 0 (fu 1 C2 s2).1 (fu 1 L.code L.d).1 op w hin) ?_;rintro _ _ ⟨rfl,C4,A4,c4,hC4,rfl⟩;have h3:=jb (jb hs hC2 hs2 L.flags L.target L.branch) hC3 hs3 L.flags L.target L.branch;have h4:=wC h3 4 (fu 1 C2 s2).1 (fu 1 L.code L.d).1 op;have hs4:Lw.sm ⟨C4,s3,L.r,(J C3:Int),L.target,L.branch⟩ 1000:=(by refine⟨?_,(h3.mono (by omega:_<=1000)).dl,(h3.mono (by omega:_<=1000)).rl,(h3.mono (by omega:_<=1000)).dn,(h3.mono (by omega:_<=1000)).rn⟩;rw[hC4];exact aR h4.code O);refine Us ?_;refine ZL ?_;refine V1 ?_ ?_<;>intro hc26
   .refine bN (UK [11,13,16]) Zk (sU ?_);refine qC ?_;refine ZE 7 ?_;refine ZE 8 ?_;refine UF 9 I (cA I I ne hwop) ?_;refine ZE 10 ?_;refine rU 4 11 Zk ?_ ?_
    .refine pE ?_;refine cQ 11 Zk (Wq247 ?_);rintro _ _ ⟨_,⟨rfl,C5,A5,c5,hC5,rfl⟩,rfl⟩;refine cQ 12 Zk (vO ?_);exact Wq411
    refine Wq247 ?_;rintro _ _ ⟨_,⟨rfl,C5,A5,c5,hC5,rfl⟩,rfl⟩;refine ZG 4 ?_;refine cQ 12 Zk (vO ?_);exact Wq411
   refine py ?_;refine UN (((⟨C4,s3,L.r,(J C3:Int),L.target,L.branch⟩,⟨A4,c4,X.Ad,X.cd,X.Ar,X.cr⟩):Lw×VZ)) ?_;dsimp only;subst hC4 hC3 hs3 hC2 hs2;exact Wq346
  refine Vl ?_ ?_<;>intro hc28
  .refine bN (UK [7,9,12]) Zk (sU ?_);refine qC ?_;refine rU 4 7 Zk ?_ ?_
   .refine pE ?_;refine iW ?_;refine rH (Vn b N L X) (λw hi hin=>uK b N L X (hs.mono O) next w hin) ?_;rintro _ _ ⟨rfl,C2,A2,c2,hC2,rfl⟩;exact Wx92_
   refine rH (Vn b N L X) (λw hi hin=>uK b N L X (hs.mono O) next w hin) ?_;rintro _ _ ⟨rfl,C2,A2,c2,hC2,rfl⟩;refine ZG 4 ?_;exact Wx92_
  refine Vl ?_ ?_<;>intro hc30
  .refine Ut ?_;refine dE (Vn b N L X) (λw hi hin=>yB b N L X (hs.mono O) w hin) ?_;rintro _ _ ⟨rfl,C2,s2,A2,c2,hC2,hs2,rfl⟩;refine Us ?_;refine ZL ?_;refine py ?_;refine UN (((⟨C2,L.d,s2,L.flags,(fu 2 L.code L.r).1,L.branch⟩,⟨A2,c2,X.Ad,X.cd,X.Ar,X.cr⟩):Lw×VZ)) ?_;dsimp only;subst hC2 hs2;unfold Lw.go;rw[hc3,hc5,hc8,hc10,hc14,hc18,hc20,hc22,hc28,hc30];rfl
  refine Vl ?_ ?_<;>intro hc32
  .refine Ut ?_;refine Iw ?_;rintro _ _ ⟨_,⟨rfl,C2,s2,A2,c2,hC2,hs2,rfl⟩,rfl⟩;refine Us ?_;refine ZL ?_;refine py ?_;refine UN (((⟨C2,s2,L.r,L.flags,(fu 1 L.code L.d).1,L.branch⟩,⟨A2,c2,X.Ad,X.cd,X.Ar,X.cr⟩):Lw×VZ)) ?_;dsimp only;subst hC2 hs2;unfold Lw.go;rw[hc3,hc5,hc8,hc10,hc14,hc18,hc20,hc22,hc28,hc30,hc32];rfl
  refine yZ ?_ ?_<;>intro hc34
  .refine UA ?_;refine ZL ?_;refine py ?_;refine UN (((⟨L.code,L.d,L.r,L.flags,L.target,op⟩,X):Lw×VZ)) ?_;dsimp only;unfold Lw.go;rw[hc3,hc5,hc8,hc10,hc14,hc18,hc20,hc22,hc28,hc30,hc32,hc34];rfl
  refine py ?_;refine UN (((L,X):Lw×VZ)) ?_;dsimp only;unfold Lw.go;grind
 rintro⟨L9,X9⟩ hL9;dsimp only at hL9|-;rw[<-hL9]at hgo;refine Us ?_;refine V7 (Vn b N L9 X9) (λw hi hin=>KM b N L9 X9 (hgo.mono O) w hin) ?_;rintro _ _ ⟨_,rfl,rfl⟩;refine Ut ?_;refine V7 (Vn b N ⟨L9.code,L9.d.top,L9.r,L9.flags,L9.target,L9.branch⟩ X9) (λw hi hin=>KL b N ⟨L9.code,L9.d.top,L9.r,L9.flags,L9.target,L9.branch⟩ X9 ⟨(hgo.mono O).code,(hgo.mono O).dl,(hgo.mono O).rl,(hgo.mono O).dn,(hgo.mono O).rn⟩ w hin) ?_;rintro _ _ ⟨_,rfl,rfl⟩;refine Zn (gK (cs':=Vn b N L9.SN X9) (.inr I) Zu I ?_);exact⟨L9.SN,X9,by unfold Lw.one;rw[hL9],rfl⟩
end
end Go.Ink
namespace Go.Ink
open List renaming length→J, replicate→R9
open IntKind renaming wrap→V9
open Go.RowKit Go.Proofs.Tryz
section
attribute [local irreducible] UL bM
theorem Bj(op:Int)(w:World):CW prog 225 [.i op] w (.bool (dy op)):=by
 refine UB func225 ntmps225 ?_;refine IK ?_;refine ZW ?_ ?_<;>intro hc1
 .refine py ?_;refine bV I (hc1) (fC ?_);exact Yz
 refine oI ?_ ?_<;>intro hc2
 .refine fC ?_;exact Yz
 refine IK ?_;refine VW ?_;exact Yz
theorem RG{L:Lw}{n:Nat}(h:L.sm n)(op i next:Int):(L.one op i next).sm (n+10):=by
 have h2:=sm_go h op i next
 exact⟨h2.code,h2.dl,h2.rl,h2.dn,h2.rn⟩
theorem BB{α:Type}(l:List α)(k:Nat)(hk:k<J l):(!(l.drop (k+1)).isEmpty)=decide ((k:Int)<(J l:Int) - 1):=by
 grind [decide_eq_true,List.drop_eq_nil_iff,decide_eq_false,List.drop_of_length_le]
variable{l:List (Int×Int)}
def LowK(o:Option Pg)(v:Value)(cs:List bH):Prop:=match o with
 |some p=>∃Q':W6,v= .tuple #[Xq p Q',.i 0]/\cs=[slv 366 5 Q'.Ac (J p.code) Q'.cc (p.code.flatMap II.cells),sl .i64 3 Q'.Ad (J p.SP) Q'.cd p.SP,sl .i64 3 Q'.Ar (J p.SQ) Q'.cr p.SQ]
 |none=>v= .tuple #[.agg pgZ.toArray,.i 12]/\cs=[]
section
variable{C:Cx}{fr:Fr}{cs cs':List bH}{e:Exit}{fn:Func}{K:Value->List bH->Prop}
theorem wH{t T bb tt t2 T2 b2 tt2 u:Nat}{v:Value}{xs ys:List Value}(he:e= .ret\/e= .normal)(hs:cs'.Sublist cs)(h0:fn.results= #[.cell t T,.cell t2 T2,.tmp u])(h1:look fr t=some (.p bb))(h2:look fr t2=some (.p b2))(h3:look fr u=some v)(hc:UQ cs (row bb xs tt))(hc2:UQ cs (row b2 ys tt2))
  (hT:∀w,(isAgg T).run C.P w= .ok true w) (hz:∀w,(sizeOf T).run C.P w= .ok (J xs) w) (hT2:∀w,(isAgg T2).run C.P w= .ok true w) (hz2:∀w,(sizeOf T2).run C.P w= .ok (J ys) w) (hk:K (.tuple #[.agg xs.toArray,.agg ys.toArray,v]) cs'):Vh C (bodyPost C.P fn (zn C.w0 C.S K)) e fr cs:=
 np he hs (λa w hf hi=>by
  have e1:=hf.at_ t _ h1;have e2:=hf.at_ t2 _ h2;have e3:=hf.at_ u _ h3;simp only[Array.getD_eq_getD_getElem?]at e1 e2 e3;simp[results,h0,e1,e2,e3,asAddr,gt hT hz hi hc,gt hT2 hz2 hi hc2]) hk
end
theorem Uz.up{P:Program}{f:FuncId}{args:List Value}{w:World}{cin:List bH}{K K':Value->List bH->Prop}(h:Uz P f args w cin K)(hk:∀v cs w',K v cs->Inv w (bK cin) cs w'->∃cs',K' v cs'/\Inv w (bK cin) cs' w'):Uz P f args w cin K':=
 Calls.mono h λe w' hq=>by
  obtain⟨v,cout,rfl,h1,h2⟩:=hq;obtain⟨cs',h3,h4⟩:=hk v cout w' h1 h2;exact⟨v,cs',I,h3,h4⟩
theorem P2(E:Vk)(SC:Li)(X':VY)(hX:X'.Z=E.X.Z.filter λx=> !SC.contains (x.b.key.2/64)):
  (bif decide (0<(J (E.X.Z.filter λx=>SC.contains (x.b.key.2/64)):Int))then((E.Tj X').To (oN X'.Z E.RZ)).eng else(E.Tj X').eng)=Ma E.eng SC:=by
 have h2:=Hz (λx:BA=>SC.contains (x.b.key.2/64)) E.X.Z;have hl:(E.eng.l.filter λt=> !SC.contains (t.key.2/64))=X'.Z.map BA.b:=by rw[hX];exact PZ E.X.Z SC
 have hlen:J E.eng.l=J E.X.Z:=List.length_map _;unfold Ma;rw[hl,hlen];dsimp only;rw[List.length_map,hX];cases hd:decide (0<(J (E.X.Z.filter λx=>SC.contains (x.b.key.2/64)):Int))with
 |true=>
  simp only[ah]at hd;rw[ae,ak O,ae];rw[<-hX];show Vi.mk E.room (X'.Z.map BA.b) (WW (oN X'.Z E.RZ)) E.last E.S9 E.S8 E.begun=Vi.mk E.room _ (vT _ (WW E.RZ)) E.last E.S9 E.S8 E.begun;rw[AW]
  rfl
 |false=>
  simp only[aa]at hd;rw[ac,ao O,ac];rw[<-hX]
  rfl
variable{b:Li}{sz:Nat}{R:List (Int×Int)×Nat×Bool}
variable{k:Nat}
theorem GZ(h:(l++(cM b (k+1) sz).1,(cM b (k+1) sz).2)=R)(hd:dH (b.drop sz)=none):(l,sz,false)=R:=by
 grind [cM]
variable{z:Nat}{i:Int×Int}
theorem Kc(h:(l++(cM b (k+1) sz).1,(cM b (k+1) sz).2)=R)(hd:dH (b.drop sz)=some (i,z))(hp:dy i.1=false):(l,sz,false)=R:=by
 grind [cM]
theorem Ke(h:(l++(cM b (k+1) sz).1,(cM b (k+1) sz).2)=R)(hd:dH (b.drop sz)=some (i,z))(hp:dy i.1=true)(he:gg i.1=true):(l++[i],sz+z,true)=R:=by
 grind [cM]
theorem OB(h:(l++(cM b (k+1) sz).1,(cM b (k+1) sz).2)=R)(hd:dH (b.drop sz)=some (i,z))(hp:dy i.1=true)(he:gg i.1=false):(l++[i]++(cM b k (sz+z)).1,(cM b k (sz+z)).2)=R:=by
 grind [cM]
abbrev enP(be:Nat)(E:Vk)(Ap:Oa)(cp:Nat)(SC:Li):List bH:=[enR be E,Wy E.bc (.i E.room) (.slice E.X.Ac (J E.X.Z) E.X.cc) (.map (some E.X.ml)) (.i E.X.fl),blC E.X,cR (E.X.Z.map VE),VG E.X.ml (VP E.X.LK),cR (VJ E.X.LK),VG E.mr (WE E.RZ),cR (WF E.RZ),pgC Ap cp SC]
theorem rd_drop{w:World}{A:Oa}{c:Nat}{xs:Li}(h:Rd w .u8 A (J xs) c xs){k:Nat}(hk:k<=J xs):Rd w .u8 (if c=k then A else A.map (·.add (k*1))) (J xs - k) (c - k) (xs.drop k):=by
 have h5:=UJ.cut h (lo:=k) (hi:=J xs) hk (aL _);have e:(ints .u8 xs).take (J xs)=ints .u8 xs:=List.take_of_length_le (by simp[ints]);rw[Nat.mul_one]at h5;simp only[Nat.mul_one]at h5|-;rw[e]at h5;have e2:(ints .u8 xs).drop k=ints .u8 (xs.drop k):=by simp[ints]
 rw[e2]at h5;exact h5
theorem LZ(A:Oa)(c:Nat)(b:Li)(hb:UO b)(hbl:J b<=1000)(w:World)(h:Rd w .u8 A (J b) c b):
  Uz prog 185 [.slice A (J b) c] w [] (λv cs=>∃A1 c1,∃x:RS,x.r=⟨b.take (cM b 8 0).2.1,(cM b 8 0).2.2⟩/\v= .tuple #[.slice A1 (cM b 8 0).1.length c1,.agg x.cells.toArray]/\cs=[slv 51 2 A1 (cM b 8 0).1.length c1 ((cM b 8 0).1.flatMap IJ),rsC x]):=by
 obtain⟨R,hR⟩:=Uk (cM b 8 0);rw[hR];have hR0:(([]:List (Int×Int))++(cM b 8 0).1,(cM b 8 0).2)=R:=hR;have hcap:=h.cap;refine UB func185 ntmps185 ?_;refine Us ?_;refine ZN λb3=>?_
 refine UE ?_;refine ZN λb5=>?_;refine Ut ?_;refine dg 51 2 (Us ?_);refine cq (λq:(List (Int×Int)×Nat×Bool)×Option Addr×Nat=>[(0,.slice A (J b) c),(3,.p b3),(4,.slice q.2.1 (J q.1.1) q.2.2),(5,.p b5),(6,.i (q.1.2.1:Int))]) (λq=>[row b3 [.slice none 0 0,.bool false] 180,row b5 [.slice none 0 0,.bool q.1.2.2] 180,slv 51 2 q.2.1 (J q.1.1) q.2.2 (q.1.1.flatMap IJ)]) (λq=>q.1=R/\q.1.2.1<=J b) ?_ ?_
 .refine Zx (UX (λq:(List (Int×Int)×Nat×Bool)×Option Addr×Nat=>[(0,.slice A (J b) c),(3,.p b3),(4,.slice q.2.1 (J q.1.1) q.2.2),(5,.p b5),(6,.i (q.1.2.1:Int))]) (λq=>[row b3 [.slice none 0 0,.bool false] 180,row b5 [.slice none 0 0,.bool q.1.2.2] 180,slv 51 2 q.2.1 (J q.1.1) q.2.2 (q.1.1.flatMap IJ)]) (λq=>J q.1.1<=8/\q.1.2.1<=J b/\(q.1.2.2=true->q.1=R)/\(q.1.2.2=false->(q.1.1++(cM b (8 - J q.1.1) q.1.2.1).1,(cM b (8 - J q.1.1) q.1.2.1).2)=R)) (λq=>8 - J q.1.1) (⟨([],0,false),none,0⟩) ⟨ay _,ay _,λe=>(by cases e),λ_=>hR0⟩ ?_);rintro⟨⟨l,sz,en⟩,A1,c1⟩ ⟨hl,hsz,hT,hF⟩;dsimp only at hl hsz hT hF|-;have hb5:J (b.drop sz)=J b - sz:=List.length_drop;refine iR ?_;refine ZW ?_ ?_<;>intro hc4
  .have hc4':(decide ((J l:Int)<8)&& !en)=true:=hc4;simp only[aC,ah,Bool.not_eq_true']at hc4';obtain⟨hl8,rfl⟩:=hc4';have hF:=hF I;obtain⟨k,hk⟩:∃k,8 - J l=k+1:=⟨8 - J l - 1,by omega⟩;rw[hk]at hF;have HD:=λA c w h=>BE A c (b.drop sz) (λx hx=>hb x (bD hx)) w h
   rw[hb5]at HD;have hS:=GZ hF;have hN:=λi z=>Kc (z:=z) (i:=i) hF
   have hE:=λi z=>Ke (z:=z) (i:=i) hF
   have hO:=λi z=>OB (z:=z) (i:=i) hF
   have hRg:=λ(op nn:Int) (z:Nat)=>nN (b:=b.drop sz) (λx hx=>hb x (bD hx)) (op:=op) (nn:=nn) (z:=z)
   obtain⟨o,ho⟩:=Uk (dH (b.drop sz));rw[ho]at HD hS hN hE hO hRg;refine Ux ?_;refine Zy (xz I ir (Zv I) (.inr ⟨_,_,I,(Zv I)⟩) (.inl ⟨I,I⟩) O O) ?_;refine UW (λw hi=>HD _ _ w (rd_drop (h.SS hi) hsz)) ?_;rintro _ _ ⟨⟨y,rfl,hy⟩,rfl⟩;refine Ut ?_;refine ZN λb7=>?_
   refine iS ?_;rcases o with _|⟨⟨op,nn⟩,z⟩
   .have hy0:(y==0)=false:=hy;have hq:=hS I;have hy1:(y !=0)=true:=(by rw[bne,hy0];rfl);refine Us ?_;rw[hy1];refine ZA ?_;refine Ni ?_;refine Ni ?_;refine Zy (Nx (q:=false) (Zv I) ⟨_,I,λ_ e=>absurd e An⟩) ?_;refine py ?_;refine mV ?_;exact Wx54_
   have hy0:(y==0)=true:=hy;obtain rfl:y=0:=(by simpa using hy0);have hN:=hN (op,nn) z I;have hE:=hE (op,nn) z I;have hO:=hO (op,nn) z I;obtain⟨hnn,hz1,hz5,hzl⟩:=hRg op nn z I;dsimp only at hN hE hO;refine UA ?_;refine dx (bU I I) (.cons (cU I) .nil) (λ_ _=>I) (λhg w hi=>Bj op w) I (Wj ?_ ?_)<;>intro hc6
   .have hp:dy op=false:=(by have h9:(false|| !dy op)=true:=hc6;simpa using h9);have hq:=hN hp;exact Wx54_
   have hp:dy op=true:=(by have h9:(false|| !dy op)=false:=hc6;simpa using h9);refine UA ?_;refine y6 ?_;rintro _ _ ⟨b36,rfl,rfl⟩;refine gJ (cu (n:=J l) (e:=51) (sz:=2) (bytes:=16) I I Za I I (λw hi=>hi.rd (Ur (slv 51 2 (sA b36) 1 1 [.i op,.w nn]))) (two1 op nn) gI O) I ?_;rintro _ _ ⟨A2,c2,rfl,rfl⟩;rw[Pw,show J l+1=J (l++[(op,nn)]) by simp];refine Ux ?_;refine Zy (dr (Zv I) (Zv I) (show _=((sz+z:Nat):Int)from by show V9 .i64 ((sz:Int)+(z:Int))=_;rw[bG];omega)) ?_;refine UA ?_;refine UD (λw hi=>yM op w) ?_;refine mR ?_;refine py ?_;refine UN ((⟨(l++[(op,nn)],sz+z,gg op),A2,c2⟩:(List (Int×Int)×Nat×Bool)×Option Addr×Nat)) ⟨⟨gW,(by dsimp only;omega),(λe=>by dsimp only at e|-;rw[e];exact hE hp e),(λe=>by dsimp only;rw[ar,show 8 - (J l+J [(op,nn)])=k by simp;omega];exact hO hp e)⟩,gW⟩
  have hq:(l,sz,en)=R:=(by cases en with|true=>exact hT rfl|false=>(have h8:¬((J l:Int)<8):=(by have h9:(decide ((J l:Int)<8)&& !false)=false:=hc4;rw[Bool.not_false,Bool.and_true]at h9;exact of_decide_eq_false h9);have hF:=hF I;rw[show 8 - J l=0 by omega]at hF;exact G0 hF));refine Ut ?_;refine UN ((⟨(l,sz,en),A1,c1⟩:(List (Int×Int)×Nat×Bool)×Option Addr×Nat)) ⟨hq,hsz⟩
 rintro⟨⟨l,sz,en⟩,A1,c1⟩ ⟨rfl,hsz⟩;dsimp only at hsz|-;have htl:J (b.take sz)=sz:=MX;refine Ut ?_;refine Zy (eO sz I ir (Zv I) (Zv I) qD Uq) ?_;refine UW (λw hi=>MD A sz c (b.take sz) w (by have h9:=kz (h.SS hi) sz;rw[htl]at h9;exact h9) O) ?_;rintro _ _ ⟨A9,c9,rfl,rfl⟩;refine mR ?_;refine Us ?_;refine QH ?_;exact bI (row b3 [.slice A9 sz c9,.bool en] 180::[slv 51 2 A1 (J l) c1 (l.flatMap IJ),sl .u8 5 A9 sz c9 (b.take sz)]) Zj (JL (cs':=[slv 51 2 A1 (J l) c1 (l.flatMap IJ),sl .u8 5 A9 sz c9 (b.take sz)]) (.inl I) (List.Sublist.cons _ (aO _)) I I I Zh ir ir ⟨A1,c1,⟨⟨b.take sz,en⟩,A9,c9⟩,I,by show _=Value.tuple #[_,.agg (RS.cells ⟨⟨b.take sz,en⟩,A9,c9⟩).toArray];unfold RS.cells;dsimp only;rw[htl],by unfold rsC;dsimp only;rw[htl]⟩)
theorem Fb:∀(l:List (Int×Int)) (pc:Int) (L:Lw) (q:Int×Lw) (n:Nat),nB pc L l=some q->L.sm n->q.2.sm (n+10*J l)
 |[],pc,L,q,n,h,hs=>by obtain rfl:(pc,L)=q:=aG h;exact hs.mono cE
 |i::l,pc,L,q,n,h,hs=>by
  obtain⟨-, -, -,h4⟩:=lX h;exact(Fb l _ _ q (n+10) h4 (RG hs _ _ _)).mono (by simp only[aE];omega)
theorem AT{pc:Int}(hu:∀i,i∈l->u32 i.2){p:Pg}(hlow:fm pc l=some p):sY p/\p.count=J l/\1<=J l/\J l<=8/\(p.SX=true->fY (gh p (dR p))/\J (gh p (dR p))<=100000):=by
 unfold fm at hlow;cases hlen:decide ((J l:Int)<1)||decide (8<(J l:Int))with
 |true=>rw[hlen]at hlow;cases hlow
 |false=>
 rw[hlen,ac]at hlow;simp only[aY,aa]at hlen;have hl0:l≠[]:=λe=>by rw[e]at hlen;simp at hlen
 cases hgo:nB pc Lw.init l with
 |none=>rw[hgo]at hlow;cases hlow
 |some q=>
 rw[hgo]at hlow;obtain⟨nx,w⟩:=q;obtain rfl:=aG hlow;obtain⟨lk, -,hnx⟩:=tz l pc Lw.init _ hu hgo uC;have hnx:=hnx hl0;have hsm:=Fb l pc Lw.init _ 0 hgo JB;dsimp only at lk hnx hsm;obtain⟨i,hi⟩:=Uk (l.getLastD (0,0));rw[hi];obtain⟨p0,hp0⟩:=Uk (yj nx w i (J l));rw[hp0];have f1:p0.code=w.code:=by rw[<-hp0];rfl
 have f2:p0.SP=w.d.l:=by rw[<-hp0];rfl
 have f3:p0.SQ=w.r.l:=by rw[<-hp0];rfl
 have g5:(cC p0).next=bif i.1==32||i.1==38 then V9 .u32 (nx+jC i.2)else nx:=by rw[<-hp0];rfl
 have g6:(cC p0).taken=bif i.1==32||i.1==38 then 0 else bif w.branch !=0 then V9 .u32 (nx+jC i.2)else 0:=by rw[<-hp0];rfl
 have g8:(cC p0).count=J l:=by rw[<-hp0];rfl
 have hlen4:=uD l pc Lw.init _ hgo;have hlen5:J w.code<=32:=by have:J Lw.init.code=0:=rfl;dsimp only at hlen4;omega
 have hlen6:(cC p0).code.length<=64:=by
  exact Wq282
 have himc:XR (cC p0).code:=Bp (gj p0) p0.code 0 _ [] (λ_ h=>by cases h) (by rw[f1];exact lk.imm);have hn32:u32 (cC p0).next:=by rw[g5];cases i.1==32||i.1==38 with|true=>exact wu _|false=>exact hnx
 have ht32:u32 (cC p0).taken:=by
  have z:u32 0:=⟨by decide,by decide⟩;rw[g6];cases i.1==32||i.1==38 with
  |true=>exact z
  |false=>cases w.branch !=0 with
   |true=>exact wu _
   |false=>exact z
 have hd:=hsm.dl;have hr:=hsm.rl;have fit:sY (cC p0):=⟨I,hlen6,by show(dT _ p0.SP).length<=100;unfold dT;rw[List.length_map,f2];omega,by show(dT _ p0.SQ).length<=100;unfold dT;rw[List.length_map,f3];omega,himc⟩;refine⟨fit,g8,by omega,by omega,λhright=>?_⟩;obtain⟨pok, -, -, -⟩:=ui hright himc hlen6 hn32 ht32;have hplan:Nm (dR (cC p0)) (ge (cC p0)) (cC p0).code.length:=Kb (λi hi=>KW (cC p0) hi) hlen6;refine⟨Hw pok I hplan.has,?_⟩;have:=yY (cC p0) (dR (cC p0)) (V9 .u32 (J (fB (cC p0) (dR (cC p0)) 0):Nat)) hlen6 fit.SP fit.SQ;unfold gh;rw[ar,aE,bC];omega
end
end Go.Ink
