/- Lemmas. -/
import Derived.Test.YtepfimeihngjoaaGreatDoorYap
import Derived.Test.YtepfimeihngjoaaGreatDoorYaq
import Derived.Test.YtepfimeihngjoaaGreatDoorYar
set_option linter.all false
set_option maxRecDepth 100000
set_option maxHeartbeats 4000000
namespace Go.Ink
open List renaming length→J, replicate→R9
open IntKind renaming wrap→V9
open Go.RowKit Go.Proofs.Tryz
section
attribute [local irreducible] UL bM
variable{s:St}
theorem hrun_ok{C:List HI}(hC:fY C):∀(f:Nat) (m:HM),m.ok->(jU C f m).2.ok
 :=by intro y1;induction y1<;>grind [Fm,SW,jU]
theorem Bc(bm bw:Nat)(Ac:Oa)(n cc:Nat)(R W:Li)(pc:Int)(hR:J R=16)(hW:J W=256)(f k:Nat)(hf:f<=100)(hk:k<=16)(w:World)(h:(fQ bm bw Ac n cc R pc).ok w)(h2:(VL bw W).ok w):
  Uz prog 245 [.p bm,.i f,.w k] w [] (λx cs=>∃A c,x= .slice A (J (fM W f k)) c/\cs=[sl .u32 32 A (J (fM W f k)) c (fM W f k)]):=by
 have hl:∀j,J (fM W f j)=j:=λj=>by simp[fM]
 have hsn:∀j,fM W f (j+1)=fM W f j++[W.getD (f+j) 0]:=λj=>by unfold fM;rw[List.range_succ,List.map_append];rfl
 refine UB func245 ntmps245 ?_;refine iR ?_;refine dg 32 1 (ZA ?_);refine sO ?_;refine Ut ?_;refine UX (λq:Nat×Option Addr×Nat=>[(0,.p bm),(1,.i f),(7,.slice q.2.1 (J (fM W f q.1)) q.2.2),(10,.i k),(11,.i (q.1:Int))]) (λq=>[sl .u32 32 q.2.1 (J (fM W f q.1)) q.2.2 (fM W f q.1)]) (λq=>q.1<=k) (λq=>k - q.1) (⟨0,none,0⟩) O ?_;rintro⟨j,A,c⟩ hj;dsimp only at hj|-;refine Ul ?_ ?_<;>intro hc3
 .simp only[ah]at hc3;have hlj:=hl j;refine oQ ?_;refine Zy (dr (Zv I) (Zv I) (show _=((f+j:Nat):Int)from by rw[aN _ ⟨by omega,by omega⟩];omega)) ?_;refine UD (λw hi=>Fl bm bw Ac n cc R W pc hR hW (f+j) O w (bH.old h hi) (bH.old h2 hi)) ?_;refine jP ?_;rintro _ _ ⟨b20,rfl,rfl⟩;refine gJ (cu (e:=32) (sz:=1) (bytes:=4) I I Za I I (λw hi=>hi.rd (Ur (slv 32 1 (sA b20) 1 1 (ints .u32 [W.getD (f+j) 0])))) cP gI O) I ?_;rintro _ _ ⟨A2,c2,rfl,rfl⟩;rw[bY,<-hsn,show(fM W f j).length+1=J (fM W f (j+1)) by rw[hl,hl]];refine kb ?_;refine Vo ((⟨j+1,A2,c2⟩:Nat×Option Addr×Nat)) O
 simp only[aa]at hc3;obtain rfl:j=k:=by omega
 refine fo ?_;exact IN
theorem hget_ok(bm bw:Nat)(Ac:Oa)(n cc:Nat)(R W:Li)(pc:Int)(hR:J R=16)(hW:J W=256)(hwd:VO W)(s:St)(Ad Ar:Oa)(cd cr:Nat)(w:World)(h:(fQ bm bw Ac n cc R pc).ok w)(h2:(VL bw W).ok w)(h3:kS w s Ad Ar cd cr):
  Uz prog 193 [.p bm,sv s Ad cd Ar cr] w [] (λx cs=>∃X:eN,x= .tuple #[sv (bif nc W then oO W s else s) X.Ad X.cd X.Ar X.cr,.bool (nc W)]/\cs=[UP (bif nc W then oO W s else s) X.Ad X.cd,UU (bif nc W then oO W s else s) X.Ar X.cr]):=by
 have HW:=Fl bm bw Ac n cc R W pc hR hW;obtain⟨x2,e2,y2⟩:=m5 hwd 2;obtain⟨x3,e3,y3⟩:=m5 hwd 3;have y36:=iI hwd 36;obtain⟨x36,e36⟩:=Uk (W.getD 36 0);have hgs:oO W s=⟨W.getD 0 0,fM W 4 x2,fM W 20 x3,W.getD 1 0,s.Sy,s.SJ,s.ie,s.root,s.vec,s.epc,s.SB,s.addr,s.SO,s.eie,V9 .u64 (s.count+x36),s.halted⟩:=by unfold oO;rw[e2,e3,e36,aP,aP]
 have htk:nc W= !((decide (16<(x2:Int))||decide (16<(x3:Int)))||decide (15<W.getD 1 0)):=by unfold nc;rw[e2,e3]
 rw[e36]at y36;have W2:=HW 2 An;have W3:=HW 3 An;have W36:=HW 36 An;rw[e2]at W2;rw[e3]at W3;rw[e36]at W36;obtain⟨b,hb⟩:=Uk (nc W);rw[hb]at htk|-;refine UB func193 ntmps193 ?_;refine py ?_;refine ZO λb3=>?_;refine ZN λb4=>?_
 refine UA ?_;refine UW (λw hi=>mH s Ad Ar cd cr w (h3.SS hi)) ?_;rintro _ _ ⟨A1,c1,A2,c2,rfl,rfl⟩;refine ZM ?_;refine UE ?_;refine dx (bU I I) (.cons (cU I) .nil) (λ_ _=>I) (λhg w hi=>Ba bm bw Ac n cc R pc hR w (bH.old h hi)) I (Ut ?_);refine dx (bU I I) (.cons (cU I) (.cons ne .nil)) (λ_ _=>I) (λhg w hi=>W2 w (bH.old h hi) (bH.old h2 hi)) I (Ut ?_);refine dx (bU I I) (.cons (cU I) (.cons ne .nil)) (λ_ _=>I) (λhg w hi=>W3 w (bH.old h hi) (bH.old h2 hi)) I (Ut ?_);refine dx (bU I I) (.cons (cU I) (.cons (Zv I) .nil)) (λ_ _=>I) (λhg w hi=>HW 1 An w (bH.old h hi) (bH.old h2 hi)) I (Wj ?_ ?_)<;>intro hc2
 .have hc:((decide (16<(x2:Int))||decide (16<(x3:Int)))||decide (15<W.getD 1 0))=true:=hc2;rw[hc]at htk;obtain rfl:b=false:=htk;refine Us ?_;exact Wq416
 have hc:((decide (16<(x2:Int))||decide (16<(x3:Int)))||decide (15<W.getD 1 0))=false:=hc2;rw[hc]at htk;obtain rfl:b=true:=htk;simp only[aY,aa]at hc;have HT2:=Bc bm bw Ac n cc R W pc hR hW 4 x2 An O;have HT3:=Bc bm bw Ac n cc R W pc hR hW 20 x3 An O;rw[ae,hgs];refine Uu ?_;refine UD (λw hi=>HW 0 An w (bH.old h hi) (bH.old h2 hi)) ?_;refine ZA ?_;refine UD (λw hi=>HW 1 An w (bH.old h hi) (bH.old h2 hi)) ?_;refine mR ?_;refine mR ?_;refine UA ?_;refine UD (λw hi=>W2 w (bH.old h hi) (bH.old h2 hi)) ?_;refine UW (λw hi=>HT2 w (bH.old h hi) (bH.old h2 hi)) ?_;rintro _ _ ⟨A3,c3,rfl,rfl⟩;refine py ?_;refine UD (λw hi=>W3 w (bH.old h hi) (bH.old h2 hi)) ?_;refine UW (λw hi=>HT3 w (bH.old h hi) (bH.old h2 hi)) ?_;rintro _ _ ⟨A4,c4,rfl,rfl⟩;refine mR ?_;refine mR ?_;refine Us ?_;refine bN (UK [7]) Zk (Ld 0 14 ?_);refine ZG 1 ?_;refine ZE 2 ?_;refine cQ 3 Zk (VF (λw hi=>W36 w (bH.old h hi) (bH.old h2 hi)) ?_);refine Uw ?_;refine UF 4 I (cA I I (Zv I) XN) ?_;refine UF 5 I (dr ne ne I) ?_;refine Ld 6 14 ?_;refine iW ?_;refine ke ?_;refine Ut ?_;refine iz ?_;exact sD (cs':=[sl .u32 32 A3 (J (fM W 4 x2)) c3 (fM W 4 x2),sl .u32 32 A4 (J (fM W 20 x3)) c4 (fM W 20 x3)]) (.inl I) Zu I I I Zh ir ir ⟨⟨A3,c3,A4,c4⟩,I,I⟩
variable{b:Li}
variable{o e:Nat}{l:List (Int×Int)}
theorem wI{n SR:Nat}(hn:n<=1000000)(hpg:SR<n):∀(l:List (Int×Int)) {s s2:St} (o k:Nat) {e:Nat} {U:Uo} (d:Un),l≠[]->IG l s s2->J l<=k->lH ((U.m.data.drop (SR*64)).take 64) o l e->0<=s.pc->s.pc<=4294967295->s.pc.toNat%64=o->s.halted=false->
  s2.halted=false/\(gg (l.getLastD (0,0)).1=false->s2.pc=V9 .u32 (s.pc+((e:Int) - (o:Int))))/\dO n SR k s (SR*64+o) U d=bif gg (l.getLastD (0,0)).1||s2.pc/64 !=s.pc/64 then(s2,⟨U.m.calm,U.t⟩,d)else dO n SR (k - J l) s2 (SR*64+e) ⟨U.m.calm,U.t⟩ d
 |[],_,_,_,_,_,_,_,hl,_,_,_,_,_,_,_=>absurd rfl hl
 |(op,nn)::l,s,s2,o,0,e,U,d,_,_,hk,_,_,_,_,_=>by simp at hk
 |(op,nn)::l,s,s2,o,k+1,e,U,d,_,hc,hk,hs,p0,p1,hpo,hh=>by
  have hse:=(hs.ends cE);rw[aU]at hse;cases hc with
  | @cons _ _ _ _ s1 _ hp hr V0 hm hc=>
  cases hs with
  | @cons _ z _ _ _ hd hs=>
  obtain⟨hz1,hz2,hz3, -⟩:=pA hd;dsimp only at hz1 hz2;have hle:=hs.le;have hf:dI n U.m (SR*64+o)=some ((op,nn),z):=by
   unfold dI;have e1:(SR*64+o)/64=SR:=by omega
   have e2:(SR*64+o)%64=o:=by omega
   rw[e1,e2,ak hpg,ae];exact hd
  obtain⟨hpd, -, -⟩:=EV (n:=n) (nn:=nn) (U:=U) (d:=d) hp hr;rw[V0]at hpd;have hh1:s1.halted=false:=by
   have:=AF (s:=s) (nn:=nn) hp;rw[V0]at this;exact this.trans hh
  have e64:(SR*64+o+z)%4294967296=SR*64+(o+z):=by omega
  cases l with
  |nil=>
   cases hc
   cases hs
   refine⟨hh1,λhe=>?_,?_⟩
   .rw[OA hp hr he V0]
    grind [dS,IntKind.wrap_u32]
   grind [dO,gg,iY]
  |cons j l=>
   obtain⟨he,hpc⟩:=hm cE;have hse2:=(hs.ends cE).2;have hpc1:s1.pc=s.pc+z:=by
    rw[hpc];unfold dS;rw[au,au];omega
   have ih:=wI hn hpg (j::l) (s:=s1) (s2:=s2) (o+z) k (e:=e) (U:=⟨U.m.calm,U.t⟩) d cE hc Do hs O O O hh1;refine⟨ih.1,λhe=>?_,?_⟩
   .grind
   have hlast:(((op,nn)::j::l).getLastD (0,0))=((j::l).getLastD (0,0)):=rfl;have hq:s1.pc/64=s.pc/64:=by omega
   conv=>lhs;unfold dO
   rw[hf];dsimp only;rw[hpd];dsimp only;rw[e64];unfold iY;dsimp only;rw[hh1,he];have hcon:List.contains ([]:Li) ((SR:Nat):Int)=false:=rfl;rw[hcon];simp only[Bool.or_false,ac];rw[show(s1.pc/64==s.pc/64)=true by grind,ae,ih.2.2,hlast,hq];rw[show(k+1) - J (((op,nn)::j::l))=k - J (j::l) by simp]
   rfl
structure Vi where
 room:Int
 l:List Wo
 runs:List (Ky×Rn)
 last:Ky
 S9:Int
 S8:Int
 begun:Bool
def Vi.fresh(room:Int):Vi:=⟨room,[],[],(0,0),0,0,false⟩
def AX(E:Vi)(k:Ky)(b:Li):Option (Wo×Rn):=match E.l.find? (λt=>t.key==k)with
 |some t=>bif(fX E.runs k Rn.zero).bytes.isPrefixOf b then some (t,fX E.runs k Rn.zero)else none
 |none=>none
def Yp(E:Vi)(t:Wo)(r:Rn):Vi:=
 let l':=ur Wo.key E.room E.l t
 let L:=dP E.runs t.key r
 {E with l:=l',runs:=bif decide (J l'<J L)then vT l' L else L}
def Ma(E:Vi)(SC:Li):Vi:=
 let l':=E.l.filter λt=> !SC.contains (t.key.2/64)
 {E with l:=l',runs:=bif decide (J l'<J E.l)then vT l' E.runs else E.runs}
def m8(E:Vi)(SC:Li):Vi:=bif SC.isEmpty then E else Ma E SC
def jv(n:Nat)(SR:Nat):Nat->St->Nat->Uo->Un->Vi->(St×Uo×Un)×Vi
 |0,s,_,U,d,E=>((s,U,d),E)
 |k+1,s,p,U,d,E=>match dI n U.m p with
  |none=>((s.next.SL 1 0,U,d),{E with S8:=V9 .i64 (E.S8+1)})
  |some ((op,nn),sz)=>
   let q:=lj n s op nn U d
   let E':=m8 {E with S8:=V9 .i64 (E.S8+1)} q.1.SC
   bif iY op q.1 SR s.pc then jv n SR k q.1.s ((p+sz)%4294967296) q.2.1 q.2.2 E' else((q.1.s,q.2.1,q.2.2),E')
variable{α:Type}{key:α->Ky}{room:Int}{l:List α}{t:α}
theorem OY{x:α}(h:x∈ur key room l t):x=t\/(x∈l/\(∀y,y∈l->(l.map key).Nodup->key x≠key t)):=by
 unfold ur at h;cases hp:cK key (key t) l with
 |some j=>
  rw[hp]at h;dsimp only at h;obtain⟨hj,hk⟩:=fj hp;obtain⟨i,hi,rfl⟩:=List.getElem_of_mem h;rw[List.getElem_set];by_cases e:j=i
  .grind
  rw[if_neg e];have hi':i<J l:=by simpa using hi
  refine Or.inr ⟨List.getElem_mem _,λy _ hn hke=>e ?_⟩;rw[<-hk]at hke;exact((List.getElem_inj (xs:=l.map key) (h₀:=by grind) (h₁:=by grind) hn).1 Do).symm
 |none=>
  grind [iu]
theorem qV(h:(l.map key).Nodup):((ur key room l t).map key).Nodup:=by
 grind [ur,cK,fj,iu,List.map_set,List.set_getElem_self,decide,List.nodup_append]
variable{β:Type}
theorem xZ(L:List (Ky×β))(k:Ky)(v:β):dP L k v=ur (·.1) ((J L:Int)+1) L (k,v):=by
 grind [dP,ur,cK]
variable{L:List (Ky×β)}
theorem Oe{k:Ky}{v:β}(z:β)(hn:(L.map (·.1)).Nodup)(h:(k,v)∈L):fX L k z=v:=by
 unfold fX;cases hf:L.find? (λx=>x.1==k)with
 |none=>grind
 |some x=>
  have h1:=List.mem_of_find?_eq_some hf;have h2:=List.find?_some hf;have h3:x.1=k:=by simpa using h2
  obtain⟨i,hi,rfl⟩:=List.getElem_of_mem h1;obtain⟨j,hj,hje⟩:=List.getElem_of_mem h;have:i=j:=(List.getElem_inj (xs:=L.map (·.1)) (h₀:=by grind) (h₁:=by grind) hn).1 Do
  grind
variable{E:Vi}
structure F9(E E':Vi)(c:Nat):Prop where
 S9:0<=E.S9->0<=E.S8->E.S9+E.S8+c<=1000000000->0<=E'.S9/\0<=E'.S8/\E'.S9+E'.S8=E.S9+E.S8+c/\E.S9<=E'.S9
 room:E'.room=E.room
theorem Ja(E:Vi)(SC:Li):(m8 E SC).S9=E.S9/\(m8 E SC).S8=E.S8/\(m8 E SC).room=E.room:=by
 unfold m8;cases SC.isEmpty<;>exact⟨I,I,I⟩
end
end Go.Ink
namespace Go.Ink
open List renaming length→J, replicate→R9
open IntKind renaming wrap→V9
open Go.RowKit Go.Proofs.Tryz
section
open Go.MapKept
open Go.ChangeMaps (setBlock)
theorem EB{e sz n c i:Nat}{A:Oa}{xs:List Value}(hi:i<=n)(w:World)(h:(slv e sz A n c xs).ok w):(slv e sz A i c (xs.take (i*sz))).ok w:=by
 obtain⟨h1,h2⟩:=h;have hle:i*sz<=n*sz:=Nat.mul_le_mul_right _ hi;refine⟨by grind,?_⟩
 grind
section
variable{cs:List bH}{c:bH}{cin:List bH}
variable{w0 w:World}{S:List Nat}
theorem Inv.joinGet(h:Inv w0 S cs w)(hh:UQ cs (cR cin))(hc:c∈cin):c.ok w:=qi (h.get hh) c hc
theorem Uz.join{P:Program}{f:FuncId}{args:List Value}{K:Value->List bH->Prop}(hi:Inv w (bK [cR cin]) [cR cin] w)(h:Inv w (bK cin) cin w->Uz P f args w cin K):Uz P f args w [cR cin] (λv cs=>∃cs0,K v cs0/\cs=[cR cs0]):=by
 have eb:∀c:List bH,bK [cR c]=bK c:=λc=>by simp[bK,cR,VD,bH.bs]
 have hi2:Inv w (bK cin) cin w:=by
  obtain⟨_,_,h1⟩:=hi.TA;rw[ax,eb]at h1;exact h1
 refine Calls.mono (h hi2) λe w' hq=>?_
 obtain⟨v,cout,rfl,hk,hi3⟩:=hq;refine⟨v,[cR cout],I,⟨cout,hk,I⟩,?_⟩;rw[eb];exact Inv.Tf (F:=λ_:Unit=>cout) (hb:=λ_=>I) (p:=λ_=>True) () trivial Do
end
section
variable{C:Cx}{fr:Fr}{cs:List bH}{d:Option Nat}{T k e:TypeId}{x y z:Operand}{ty:TypeId}{pos:String}{af:Array Edge}{gd:Option (Nat×Bool)}{v zv:Value}{b j st:Nat}{L:List (Ky×Value)}{q:Ky}{mk:bH->List bH}
theorem NY(hx:ev fr x=some (.map (some b)))(hy:ev fr y=some (Vj q))(hq:lA q)(hT:C.P.underlying T=some (.map k e))(hK:rQ C.P k)(hz:∀w,(zeroValue e).run C.P w= .ok zv w)(hu:At cs (VG b L) mk):
  Vx C ⟨d,.mapEntry T x y,ty,pos,af,gd⟩ fr cs true (λu cs'=>∃st:Nat,u= .tuple #[fX L q zv,.i (st:Int)]/\cs'=mk (meC b (uz L q zv) (yx L q) st)):=λa w hf hi next Q h=>by
 obtain⟨es,clock,hb,hs,hL,hok⟩:=(show nV b L w from hi.get hu.has);obtain⟨lq,hlq⟩:=hK.at_ q hq;have key:∃w' st,(Instr.mapEntry T (.map (some b)) (Vj q)).run C.P w= .ok (.tuple #[fX L q zv,.i ((st:Nat):Int)]) w'/\cX [b] w w'/\Np b (uz L q zv) (yx L q) st w':=by
  rcases rB hK hs hL hok hq w with⟨h1,h2,h3⟩|⟨j,e0,h1,h2,h3,h4,h5⟩
  .refine⟨setBlock w b (.map (es.push ⟨Vj q,zv,clock⟩) (clock+1)),clock,?_,gf hb,_,_,(heap_set hb).1,stamped_push hs h3,?_,?_,?_⟩
   .rw[uj h1];simp[Instr.mapEntry,run_underlying hT,MapKept.run_getObj_map hb,hK.K.check w false hlq,h2,hz,MapKept.run_setObj_map _ hb,Result.andThen,setBlock,goInt]
   .grind [uz]
   .grind [uz]
   have e1:J L=J es.toList:=by have:=congrArg List.length hL;simpa using this.symm
   simp_all [Vj,yx]
  have hj:es[j]? =some e0:=by simpa using h3
  have hkeyf:∀e',es[j]? =some e'->({e' with key:=Vj q}:MapEntry).key=e'.key:=λe' he'=>by grind
  have hset:(es.modify j λe'=>{e' with key:=Vj q}).toList=es.toList.set j {e0 with key:=Vj q}:=by rw[Array.toList_modify,ChangeMaps.modify_eq_set _ _ _ _ h3]
  refine⟨setBlock w b (.map (es.modify j λe'=>{e' with key:=Vj q}) clock),e0.born,?_,gf hb,_,_,(heap_set hb).1,stamped_modify hs _ _ (λ_ _=>I) (λe' _ he'=>hkeyf e' he'),?_,?_,?_⟩
  .rw[qU h1 h5];simp[Instr.mapEntry,run_underlying hT,MapKept.run_getObj_map hb,hK.K.check w false hlq,h2,hj,h4,hK.K.stays w hlq,MapKept.run_setObj_map _ hb,Result.andThen,setBlock,goInt]
  .unfold uz;rw[h1,hset,List.map_set,hL];dsimp only;have h6:(L.map λx=>(Vj x.1,x.2))[j]? =some (Vj q,e0.val):=by rw[List.getElem?_map,h5];rfl
   apply List.ext_getElem?
   grind
  .grind [uz]
  grind [Vj,yx]
 obtain⟨w',st,h1,h2,h3⟩:=key;unfold Oper.wp;have hr:(execOp a.eval ⟨d,.mapEntry T x y,ty,pos,af,gd⟩).run C.P w= .ok (.value (.tuple #[fX L q zv,.i (st:Int)])) w':=by simp[execOp,hf.ev hx,hf.ev hy,h1]
 rw[hr];exact h _ _ _ ⟨st,I,I⟩ (hi.upd (hu _) h2 (nF h2 (by simp[bH.bs]) h3 (λb hb=>Or.inl hb))) (λe=>by cases e)
theorem Js{v0:Value}(hj:L[j]? =some (q,v0))(hx:ev fr x=some (.map (some b)))(hy:ev fr y=some (.i (st:Int)))(hz:ev fr z=some v)(hu:At cs (meC b L j st) mk):
  Vx C ⟨d,.entryStore T x y z,ty,pos,af,gd⟩ fr cs true (λu cs'=>u=undef/\cs'=mk (VG b (L.set j (q,v)))):=λa w hf hi next Q h=>by
 obtain⟨es,clock,hb,hs,hL,hok,e0,he0,rfl⟩:=(show Np b L j st w from hi.get hu.has);have hji:es[j]? =some e0:=by simpa using he0
 have hf0:es.findIdx? (λe=>((e.born:Nat):Int)==(e0.born:Int))=some j:=by
  rw[Array.findIdx?_eq_some_iff_getElem];obtain⟨hjl,hje⟩:=Array.getElem?_eq_some_iff.1 hji;refine⟨hjl,by simp[hje],λi hi=>?_⟩;simp only[Bool.not_eq_true,bE,ne_eq];intro hbe;have hil:i<es.size:=by omega
  have e1:es[i]=e0:=born_inj hs.2.1 cE (az he0) O;have e2:es.toList[i]? =some e0:=by simp[hil,e1]
  have:=oF hs e2 he0 I;omega
 have jU:(Instr.entryStore T (.map (some b)) (.i (e0.born:Int)) v).run C.P w= .ok () (setBlock w b (.map (es.modify j λe=>{e with val:=v}) clock)):=by
  have h0:(asInt (Value.i (e0.born:Int))).run C.P w= .ok (e0.born:Int) w:=rfl;simp[Instr.entryStore,MapKept.run_getObj_map hb,h0,hf0,MapKept.run_setObj_map _ hb,Result.andThen,setBlock]
 have hset:(es.modify j λe=>{e with val:=v}).toList=es.toList.set j {e0 with val:=v}:=by rw[Array.toList_modify,ChangeMaps.modify_eq_set _ _ _ _ he0]
 have hm:nV b (L.set j (q,v)) (setBlock w b (.map (es.modify j λe=>{e with val:=v}) clock)):=by
  refine⟨_,clock,(heap_set hb).1,stamped_modify hs _ _ (λ_ _=>I) (λ_ _ _=>I),?_,?_⟩
  .grind [Ym,List.map_set]
  grind
 have hr:(execOp a.eval ⟨d,.entryStore T x y z,ty,pos,af,gd⟩).run C.P w= .ok .skip (setBlock w b (.map (es.modify j λe=>{e with val:=v}) clock)):=by simp[execOp,hf.ev hx,hf.ev hy,hf.ev hz,jU]
 unfold Oper.wp;rw[hr];exact h _ _ _ ⟨I,I⟩ (hi.upd (hu _) (gf hb) (nF (gf hb) (by simp[bH.bs]) hm (λb hb=>Or.inl hb))) (λe=>by cases e)
end
end
theorem nk{w0:World}{S:List Nat}{cs:List bH}{e sz n c o bb:Nat}{xs vs:List Value}(hc:UQ cs (slv e sz (sA bb) n c xs))(hv:∀i v,vs[i]? =some v->xs[o+i]? =some v):∀w,Inv w0 S cs w->cells (eX ⟨bb,o,none⟩ 0 vs) w:=λw hi z hz=>by
 obtain⟨j,h1,h2⟩:=gE hz;have:=(hi.rd hc).at_ _ I (o+j) z.2 (hv j z.2 h1)
 grind [Addr.add_lit]
variable{α:Type}{l:List α}{x:α}
variable{o:Option Nat}
variable{j:Nat}
def BA.cells(x:BA):List Value:=[.w x.b.key.1,.w x.b.key.2,.slice x.A (J (cD x.b.code)) x.c,.i x.b.count]
theorem mO(x:BA):∀u∈x.cells,u.oneCell'=true:=λu h=>by
 simp only[BA.cells,aI,aV,or_false]at h;rcases h with rfl|rfl|rfl|rfl<;>rfl
variable{a:Int}
theorem RD(h:0<=a/\a<=4294967295):(Lit.int .u32 a).wf=true:=by
 have h1:IntKind.u32.min=0:=by decide
 have h2:IntKind.u32.max=4294967295:=by decide
 simp[Lit.wf,h1,h2];omega
variable{P:Program}{d:Nat}
theorem uO{t:TypeId}(ht:P.underlying t=some (.int .u32))(ha:(Lit.int .u32 a).wf=true):P.keyLits (d+1) t [.w a]=some [.w a]:=by
 simp[Program.keyLits,ht,ha]
def Sx(P:Program)(k:Nat)(T:TypeId)(a b:Value)(r:Bool):Prop:=∀w:World,(Op.equalIn k T a b).run P w= .ok r w
def Rx(P:Program)(k:Nat)(xs ys:Array Value)(fs:List Field)(r:Bool):Prop:=∀w:World,(Op.eqFields k xs ys fs).run P w= .ok r w
section
variable{P:Program}{k:Nat}{T:TypeId}
theorem Rx.nil{xs ys:Array Value}:Rx P k xs ys [] true:=λw=>I
theorem Rx.cons{xs ys:Array Value}{f:Field}{fs:List Field}{a b:Value}{r1 r2:Bool}(hn:f.name≠ "_")(ha:∀w,(part f.type xs f.offset).run P w= .ok a w)(hb:∀w,(part f.type ys f.offset).run P w= .ok b w)(he:Sx P k f.type a b r1)(h:Rx P k xs ys fs r2):Rx P k xs ys (f::fs) (r1&&r2):=λw=>by
 cases r1 with
 |true=>
  simp only[Op.eqFields,if_pos hn,Sem.run_bind,ha w,hb w,Result.andThen_ok,he w,Bool.not_true,Bool.false_eq_true,if_false];exact h w
 |false=>simp[Op.eqFields,if_pos hn,Sem.run_bind,ha w,hb w,Result.andThen_ok,he w]
theorem Sx.int{kd kd':IntKind}{a b:Int}(h:P.underlying T=some (.int kd')):Sx P (k+1) T (.int kd a) (.int kd b) (a==b):=λw=>by
 rw[run_equalIn_int w k T kd kd' a b h]
theorem Sx.struct{xs ys:Array Value}{r:Bool}(h:P.underlying T=some (.struct (P.fieldsOf T)))(hp:P.stoodInHeld T=false)(hf:Rx P k xs ys (P.fieldsOf T).toList r):Sx P (k+1) T (.agg xs) (.agg ys) r:=λw=>by
 rw[run_equalIn_struct w k T xs ys h hp];exact hf w
end
section
variable{C:Cx}{fr:Fr}{d:Option Nat}{T T':TypeId}{x y:Operand}{ty:TypeId}{pos:String}{af:Array Edge}{gd:Option (Nat×Bool)}{g r:Bool}
theorem IV{xs ys:Array Value}(hm:C.P.eqGuardType C.P.depth T=false)(he:Sx C.P 10000 T (.agg xs) (.agg ys) r)(hx:Ev fr g x (.agg xs))(hy:Ev fr g y (.agg ys)):UL C ⟨d,.binOp .eql T x y T',ty,pos,af,gd⟩ fr g U4 (.bool r):=λA w hf _ hg=>by
 exact Wx60_
end
theorem Du(p q:Ky):Sx prog 10000 173 (.agg #[.w p.1,.w p.2]) (.agg #[.w q.1,.w q.2]) (p==q):=by
 have h:Sx prog 10000 173 (.agg #[.w p.1,.w p.2]) (.agg #[.w q.1,.w q.2]) ((p.1==q.1)&&((p.2==q.2)&&true)):=
  .struct rfl (by kernel_rfl) (Rx.cons An ir ir (.int rfl) (Rx.cons An ir ir (.int rfl) Rx.nil))
 rw[Bool.and_true]at h;exact h
theorem Pp:∃f1 f2:Field,prog.underlying 173=some (.struct #[f1,f2])/\(#[f1,f2]:Array Field).all (·.name != "_")=true/\prog.underlying f1.type=some (.int .u32)/\prog.underlying f2.type=some (.int .u32)/\f1.offset=0/\f2.offset=1/\prog.cellsOf f1.type=1/\prog.cellsOf f2.type=1:=
 ⟨_,_,rfl,by kernel_rfl,rfl,rfl,rfl,rfl,by kernel_rfl,by kernel_rfl⟩
theorem keyWide:(match prog.underlying 173 with|some (.array _ _)|some (.struct _)=>true|_=>false)=true:=by kernel_rfl
def LS.v(x:LS):Value:= .slice x.A (J x.ks) x.c
def VP(LK:List (Ky×LS)):List (Ky×Value):=LK.map λx=>(x.1,x.2.v)
def gl(LK:List (Ky×LS))(k:Ky):List (Ky×LS):=(p8 LK k).map λx=>(x.1,mc k x.2)
def WX(k:Ky)(F:List Bool)(L0:List (Ky×LS)):List (Bool×Ky×Value):=List.zipWith (λf x=>(f,x.1,(C0 k f x).2.v)) F L0
theorem Ol{β:Type}(f:α->β)(L:List (Ky×α))(k:Ky):p8 (L.map λx=>(x.1,f x.2)) k=(p8 L k).map λx=>(x.1,f x.2):=by
 unfold p8;rw[ko (key:=λx:Ky×α=>x.1) (λx:Ky×α=>(x.1,f x.2)) ir]
 grind [cK,ChangeMaps.map_eraseIdx]
theorem tn(L:List (Ky×α))(k:Ky):(p8 L k).Sublist L:=by
 grind [p8,cK]
theorem AY(k:Ky):∀L0:List (Ky×LS),WX k (R9 (J L0) false) L0=(VP L0).map λx=>(false,x)
 |[]=>rfl
 |x::L0=>by
  show(false,x.1,(C0 k false x).2.v)::WX k (R9 (J L0) false) L0=_;rw[AY k L0]
  rfl
variable{k:Ky}
theorem itL_at{F:List Bool}{L0:List (Ky×LS)}{q:Ky}{v:Value}(h:(WX k F L0)[j]? =some (false,q,v)):∃x,L0[j]? =some x/\F[j]? =some false/\q=x.1/\v=x.2.v:=by
 unfold WX at h;rw[List.getElem?_zipWith]at h;cases hf:F[j]? with
 |none=>grind
 |some f=>
  cases hx:L0[j]? with
  |none=>grind
  |some x=>
   rw[hf,hx]at h;simp only[aW,aD]at h;obtain⟨rfl,rfl,rfl⟩:=h;exact⟨x,I,I,I,I⟩
theorem Lb{k:Ky}:∀{F:List Bool} {L0:List (Ky×LS)},J F=J L0->(∀x,x∈WX k F L0->x.1=true)->W7 k F L0=L0.map λx=>(x.1,mc k x.2)
 |[],[],_,_=>rfl
 |[],_::_,h,_=>by simp at h
 |_::_,[],h,_=>by simp at h
 |f::F,x::L0,h,ha=>by
  have hf:f=true:=ha (f,x.1,(C0 k f x).2.v) (List.mem_cons_self ..);subst hf;show C0 k true x::W7 k F L0=_;rw[Lb Do (λy hy=>ha y (bo _ hy))]
  rfl
theorem itL_snd(k:Ky):∀(F:List Bool) (L0:List (Ky×LS)),(WX k F L0).map (·.2)=VP (W7 k F L0)
 :=by grind [WX,W7,VP,C0]
theorem vi{key:α->Ky}(h:cK key k l=none):l.find? (λx=>key x==k)=none:=by
 grind [iu]
section
variable{C:Cx}{Q:kW}{fr:Fr}{cs:List bH}{c:bH}{cin cin' rest r1:List bH}{e:Exit}
theorem kB(hd:V5 cs (cR cin) r1)(hd2:V5 r1 c rest)(hp:cin'.Perm (c::cin))(h:Vh C Q e fr (cR cin'::rest)):Vh C Q e fr cs:=λa w hf hi=>h a w hf (((hi.perm (hd.perm.trans (hd2.perm.cons _))).perm (List.Perm.swap ..)).Ud hp)
end
section
attribute [local irreducible] UL bM
abbrev blC(X:VY):bH:=slv 262 4 X.Ac (J X.Z) X.cc (X.Z.flatMap BA.cells)
abbrev Vu(bc:Nat)(room:Int)(X:VY):List bH:=[Wy bc (.i room) (.slice X.Ac (J X.Z) X.cc) (.map (some X.ml)) (.i X.fl),blC X,cR (X.Z.map VE),VG X.ml (VP X.LK),cR (VJ X.LK)]
theorem Kh(x:BA)(k:Ky)(bk:Nat):CI prog 246 ([]++[.agg x.cells.toArray]++[.p bk]) [Xg bk k] (λv cs=>v= .bool (x.key==k)/\cs=[Xg bk k]/\True):=λw hi=>by
 refine UH func246 ntmps246 hi ?_;refine py ?_;refine ZO λb2=>?_;refine UA ?_;refine dW (cj (vs:=cy x.b.key) ir ir ne) (cI Zh I) I (ZlR ?_);refine Zy (IV uN (Du x.b.key k) (Zv I) (Zv I)) ?_;exact Wx88_
def FindK(o:Option BA)(F:List bH)(v:Value)(cs:List bH):Prop:=match o with
 |none=>v= .tuple #[.agg #[.w 0,.w 0,.slice none 0 0,.i 0],.bool false]/\cs=F
 |some x=>∃A' c',v= .tuple #[.agg (BA.cells ⟨x.b,A',c'⟩).toArray,.bool true]/\cs=VE ⟨x.b,A',c'⟩::F
theorem Gq(x k:Ky)(bk:Nat):CI prog 220 ([]++[.agg (cy x).toArray]++[.p bk]) [Xg bk k] (λv cs=>v= .bool (x==k)/\cs=[Xg bk k]/\True):=λw hi=>by
 refine UH func220 ntmps220 hi ?_;refine py ?_;refine ZO λb2=>?_;refine Ux ?_;refine Zy (IV uN (Du x k) (Zv I) (Zv I)) ?_;exact Wx88_
variable{keys:List Ky}{LK:List (Ky×LS)}
theorem B3.unlink(h:B3 keys LK)(k:Ky):B3 keys (gl LK k)/\∀x,x∈gl LK k->∀q,q∈x.2.ks->q≠k:=by
 refine⟨λx hx=>?_,λx hx q hq=>?_⟩
 .obtain⟨y,hy,rfl⟩:=List.mem_map.1 hx;obtain⟨h1,h2,h3⟩:=h y ((tn LK k).subset hy);exact⟨h1,h2.filter _,λq hq=>h3 q (List.mem_filter.1 hq).1⟩
 obtain⟨y,hy,rfl⟩:=List.mem_map.1 hx;have:=(List.mem_filter.1 hq).2
 grind
theorem Gp{x:Ky×LS}(hx:x∈gl LK k):∃y,y∈LK/\∀q,q∈x.2.ks->q∈y.2.ks:=by
 obtain⟨y,hy,rfl⟩:=List.mem_map.1 hx;exact⟨y,(tn LK k).subset hy,λq hq=>(List.mem_filter.1 hq).1⟩
variable{room:Int}{X:VY}
theorem qI.set{room:Int}{X:VY}(h:qI room X){j:Nat}{x t:BA}(hx:X.Z[j]? =some x)(hk:x.key=t.key)(ht:J t.b.code<=100000/\lA t.b.key)(ml:Nat)(A:Oa)(c:Nat)(fl:Int):qI room ⟨ml,A,c,fl,gl X.LK t.key,X.Z.set j t⟩:=by
 have hjl:=(ap.1 hx).1;have e9:(X.Z.set j t).map BA.key=X.Z.map BA.key:=by
  rw[List.map_set];apply List.ext_getElem?;intro i;rw[List.getElem?_set];by_cases hij:j=i
  .grind
  grind
 refine⟨h.rm,by simp[h.len],λy hy=>?_,?_⟩
 .rcases List.mem_or_eq_of_mem_set hy with hy|rfl
  .exact h.ba y hy
  exact ht
 dsimp only;rw[e9];exact(h.lk.unlink t.key).1
def nM(D:BA->Bool)(r:Int×List (Ky×LS))(x:BA):Int×List (Ky×LS):=bif D x then(V9 .i64 (r.1+1),gl r.2 x.key)else r
theorem vk(D:BA->Bool)(keys:List Ky):∀(l:List BA) (r:Int×List (Ky×LS)),0<=r.1->r.1+(J l:Int)<=1000000000->B3 keys r.2->(l.foldl (nM D) r).1=r.1+J (l.filter D)/\B3 keys (l.foldl (nM D) r).2/\(∀y,y∈(l.foldl (nM D) r).2->∃z,z∈r.2/\∀q,q∈y.2.ks->q∈z.2.ks)/\
  ∀y,y∈(l.foldl (nM D) r).2->∀q,q∈y.2.ks->∀x,x∈l->D x=true->q≠x.key
 |[],r,_,_,h=>⟨by simp,h,λy hy=>⟨y,hy,λq hq=>hq⟩,λ_ _ _ _ x hx=>by cases hx⟩
 |x::l,r,h0,hb,h=>by
  have hb2:r.1+(J l:Int)+1<=1000000000:=by simp only[aE]at hb;omega
  rw[List.foldl_cons,List.filter_cons];cases hD:D x with
  |false=>
   have e:nM D r x=r:=by unfold nM;rw[hD,ac]
   rw[e];obtain⟨h1,h2,h3,h4⟩:=vk D keys l r h0 O h
   grind
  |true=>
   have e:nM D r x=(r.1+1,gl r.2 x.key):=by unfold nM;rw[hD,ae,show V9 .i64 (r.1+1)=r.1+1 by rw[bG];omega]
   rw[e];obtain⟨u1,u2⟩:=h.unlink x.key;obtain⟨h1,h2,h3,h4⟩:=vk D keys l (r.1+1,gl r.2 x.key) O O u1
   grind [Gp]
theorem put_at{key:α->Ky}{t:α}(h:cK key (key t) l=some j):ur key room l t=l.set j t:=by unfold ur;rw[h]
theorem place_b(k:Ky)(Z:List BA):cK Wo.key k (Z.map BA.b)=cK BA.key k Z:=by grind [ko]
theorem clen_ok(bc:Nat)(room:Int)(X:VY):CI prog 129 [.p bc] (Vu bc room X) (λv cs=>v= .i (J X.Z:Int)/\cs=Vu bc room X):=λw hi=>by
 refine UH func129 ntmps129 hi ?_;refine mU ?_;exact IH (cs':=Vu bc room X) (.inl I) (aO _) I I ff
abbrev caL(bc:Nat)(room:Int)(ml:Nat)(A:Oa)(cc:Nat)(fl:Int)(n:Nat)(xs:List Value)(cin:List bH)(LK:List (Ky×LS)):List bH:=[Wy bc (.i room) (.slice A n cc) (.map (some ml)) (.i fl),slv 262 4 A n cc xs,cR cin,VG ml (VP LK),cR (VJ LK)]
end
end Go.Ink
namespace Go.Ink
open List renaming length→J
open IntKind renaming wrap→V9
open Go.RowKit Go.Proofs.Tryz
section
variable{cs cin:List bH}
variable{w0 w:World}{S:List Nat}
theorem od{bb t:Nat}{xs:List Value}(hc:UQ cs (cR cin))(hr:row bb xs t∈cin):∀w,Inv w0 S cs w->cells (pk bb xs) w:=λw hi=>by
 have h:=qi (hi.get hc) _ hr;have h1:Inv w [bb] [row bb xs t] w:=⟨cX.refl _ _,by simp[bK,row,bH.bs],λc hc=>by grind,λb hb=>by grind [bK,bH.bs]⟩;exact bO (.head _ _) w h1
end
section
attribute [local irreducible] UL bM
theorem Bg(A B:Oa)(c d:Nat)(xs ys:Li)(hx:UO xs)(hy:UO ys)(w:World)(h:Rd w .u8 A (J xs) c xs)(h2:Rd w .u8 B (J ys) d ys):
  CW prog 184 [.slice A (J xs) c,.slice B (J ys) d] w (.bool (ys.isPrefixOf xs)):=by
 have hcap:=h.cap;refine UB func184 ntmps184 ?_;by_cases hle:J ys<=J xs
 .have hg:decide ((J xs:Int)>=(J ys:Int))=true:=ak O
  have htl:J (xs.take (J ys))=J ys:=by rw[aU];omega
  have HE:=MB A B c d (xs.take (J ys)) ys (λx hx'=>hx x (aX hx')) hy;rw[htl,yD xs ys hle]at HE;have hrt:=kz h (J ys);rw[htl]at hrt;refine mU ?_;refine Wl I I (eO (J ys) I ir (cU I) (cU I) qD Uq) ?_;refine ZB ?_;refine dx (bP I I) (.cons (cU I) (.cons (cU I) .nil)) (λ_ _=>I) (λhg w hi=>HE w (hrt.SS hi) (h2.SS hi)) I (Uu ?_);refine VW ?_;refine⟨?_,I⟩;rw[show decide ((J ys:Int)<=(J xs:Int))=true from ak O,bz]
 have hp:ys.isPrefixOf xs=false:=by
  cases hb:ys.isPrefixOf xs with
  |false=>rfl
  |true=>
   grind
 have hg0:decide ((J ys:Int)<=(J xs:Int))=false:=ao O
 refine iR ?_;refine Wq171 ?_;refine Wq171 ?_;refine Zy (Cd (q:=false) (Zv I) ⟨_,I,λ_ e=>by grind⟩) ?_;refine Ut ?_;refine VW ?_;refine⟨?_,I⟩;rw[hp,hg0,bn]
theorem MD(A:Oa)(n c:Nat)(xs:Li)(w:World)(h:Rd w .u8 A n c xs)(hn:n<=140737488355328):Uz prog 226 [.slice A n c] w [] (λv cs=>∃A' c',v= .slice A' n c'/\cs=[sl .u8 5 A' n c' xs]):=by
 refine UB func226 ntmps226 ?_;refine fo ?_;refine ZW ?_ ?_<;>intro hc1
 .obtain rfl:A=none:=by simpa using hc1
  obtain⟨rfl,rfl⟩:=h.nil I;obtain rfl:xs=[]:=by have:=h.len;simpa[ints]using this
  refine py ?_;refine dg 5 1 (Uu ?_);exact IN
 refine Ut ?_;refine jP ?_;rintro _ _ ⟨b5,rfl,rfl⟩;exact Wq269
abbrev FP(bc ml b2 b3 b5:Nat)(r0 r1 r3:Value)(Ap:Oa)(cp:Nat)(SC:Li)(r:Int×List (Ky×LS)):List bH:=
 [row b2 [.p bc] 168,row b3 [.slice Ap (J SC) cp] 23,sl .i64 3 Ap (J SC) cp SC,row b5 [.i r.1] 3,Wy bc r0 r1 (.map (some ml)) r3,VG ml (VP r.2),cR (VJ r.2)]
abbrev II.cells(x:II):List Value:=[.i x.op,.i x.dst,.i x.a,.i x.b,.w x.imm]
theorem hi_one(l:List HI):∀u∈l.flatMap HI.cells,u.oneCell'=true:=λu hu=>by
 obtain⟨i, -,h⟩:=List.mem_flatMap.1 hu;simp only[HI.cells,aI,aV,or_false]at h;rcases h with rfl|rfl|rfl|rfl|rfl<;>rfl
theorem hi_flat(a b:List HI):a.flatMap HI.cells++b.flatMap HI.cells=(a++b).flatMap HI.cells:=by simp
structure Nq(S:VU)(w:World):Prop where
 reg:Rd w .i64 S.Ag (J S.pl.reg) S.cg S.pl.reg
 slot:Rd w .i64 S.As (J S.pl.slot) S.cs S.pl.slot
 SP:Rd w .i64 S.Q.Ad (J S.p.SP) S.Q.cd S.p.SP
 SQ:Rd w .i64 S.Q.Ar (J S.p.SQ) S.Q.cr S.p.SQ
 code:UJ w 5 S.Q.Ac (J S.p.code) S.Q.cc (S.p.code.flatMap II.cells)
section
variable (S:VU) (l:List HI) (fix:Li) (X:VB) (hl:J l<=50000)
include hl in
theorem lD(xs:List HI)(A:Oa)(c:Nat)(hx:J xs<=50000)(w:World)(hi:Inv w (bK (UC S l fix X)) (UC S l fix X) w)(h:∀w',cX (bK (UC S l fix X)) w w'->UJ w' 5 A (J xs) c (xs.flatMap HI.cells)):
  Uz prog 237 [.p S.b,.slice A (J xs) c] w (UC S l fix X) (λr9 cs=>∃l' X',l'=l++xs/\cs=UC S l' fix X'):=by
 refine UH func237 ntmps237 hi ?_;refine Ux ?_;refine gJ (cu (e:=370) (sz:=5) (bytes:=40) I I Za I I (λw hi=>(h w hi.S1)) (hi_one xs) gI O) I ?_;rintro _ _ ⟨A2,c2,rfl,rfl⟩;rw[hi_flat,<-ar];refine jD ?_;refine Zn (gK (cs':=UC S (l++xs) fix ⟨A2,c2,X.Af,X.cf⟩) (.inr I) Zu I ?_);exact pF
include hl in
theorem mf(rd v:Int):CI prog 232 [.p S.b,.i rd,.w v] (UC S l fix X) (λr9 cs=>∃l' X',l'=l++[⟨1,rd,0,0,v⟩]/\cs=UC S l' fix X'):=λw hi=>by
 refine UH func232 ntmps232 hi ?_;refine Uu ?_;refine y6 ?_;rintro _ _ ⟨b10,rfl,rfl⟩;refine dE (UC S l fix X) (λw hi hin=>lD S l fix X hl [⟨1,rd,0,0,v⟩] (sA b10) 1 cE w hin (λw' hk=>de (hi.TD Zi (Ur (slv 370 5 (sA b10) 1 1 ([⟨1,rd,0,0,v⟩].flatMap HI.cells))) hk))) ?_;rintro _ _ ⟨_,X2,rfl,rfl⟩;refine Zn (gK (cs':=UC S (l++[⟨1,rd,0,0,v⟩]) fix X2) (.inr I) Zu I ?_);exact pF
include hl in
theorem gN(o rd ra rb:Int):CI prog 303 [.p S.b,.i o,.i rd,.i ra,.i rb] (UC S l fix X) (λr9 cs=>∃l' X',l'=l++[⟨o,rd,ra,rb,0⟩]/\cs=UC S l' fix X'):=λw hi=>by
 refine UH func303 ntmps303 hi ?_;refine Ux ?_;refine y6 ?_;rintro _ _ ⟨b16,rfl,rfl⟩;refine dE (UC S l fix X) (λw hi hin=>lD S l fix X hl [⟨o,rd,ra,rb,0⟩] (sA b16) 1 cE w hin (λw' hk=>de (hi.TD Zi (Ur (slv 370 5 (sA b16) 1 1 ([⟨o,rd,ra,rb,0⟩].flatMap HI.cells))) hk))) ?_;rintro _ _ ⟨_,X2,rfl,rfl⟩;refine Zn (gK (cs':=UC S (l++[⟨o,rd,ra,rb,0⟩]) fix X2) (.inr I) Zu I ?_);exact pF
include hl in
theorem BL(rd ra v:Int):CI prog 302 [.p S.b,.i rd,.i ra,.w v] (UC S l fix X) (λr9 cs=>∃l' X',l'=l++[⟨14,rd,ra,0,v⟩]/\cs=UC S l' fix X'):=λw hi=>by
 refine UH func302 ntmps302 hi ?_;refine UA ?_;refine y6 ?_;rintro _ _ ⟨b13,rfl,rfl⟩;refine dE (UC S l fix X) (λw hi hin=>lD S l fix X hl [⟨14,rd,ra,0,v⟩] (sA b13) 1 cE w hin (λw' hk=>de (hi.TD Zi (Ur (slv 370 5 (sA b13) 1 1 ([⟨14,rd,ra,0,v⟩].flatMap HI.cells))) hk))) ?_;rintro _ _ ⟨_,X2,rfl,rfl⟩;refine Zn (gK (cs':=UC S (l++[⟨14,rd,ra,0,v⟩]) fix X2) (.inr I) Zu I ?_);exact pF
include hl in
theorem xg(ra v rb:Int):CI prog 310 [.p S.b,.i ra,.w v,.i rb] (UC S l fix X) (λr9 cs=>∃l' X',l'=l++[⟨15,0,ra,rb,v⟩]/\cs=UC S l' fix X'):=λw hi=>by
 refine UH func310 ntmps310 hi ?_;refine UA ?_;refine y6 ?_;rintro _ _ ⟨b13,rfl,rfl⟩;refine dE (UC S l fix X) (λw hi hin=>lD S l fix X hl [⟨15,0,ra,rb,v⟩] (sA b13) 1 cE w hin (λw' hk=>de (hi.TD Zi (Ur (slv 370 5 (sA b13) 1 1 ([⟨15,0,ra,rb,v⟩].flatMap HI.cells))) hk))) ?_;rintro _ _ ⟨_,X2,rfl,rfl⟩;refine Zn (gK (cs':=UC S (l++[⟨15,0,ra,rb,v⟩]) fix X2) (.inr I) Zu I ?_);exact pF
include hl in
theorem xf(r:Int)(hf:J fix<=1000):CI prog 304 [.p S.b,.i r] (UC S l fix X) (λr9 cs=>∃l' X',l'=l++[⟨17,0,r,0,0⟩]/\cs=UC S l' (fix++[(J l:Int)]) X'):=λw hi=>by
 refine UH func304 ntmps304 hi ?_;refine Zs (bN (UK [11,14]) Zk ?_);refine y5 ?_;refine Ld 3 18 ?_;refine BX ?_;refine Ld 7 17 ?_;refine fS ?_;refine pE ?_;refine ZE 9 ?_;refine mh ?_;refine vO ?_;rintro _ _ ⟨b14,rfl,rfl⟩;refine cQ 11 Zk (jX I I (cu (e:=3) (sz:=1) (bytes:=8) I I Za I I (λw hi=>hi.rd (Ur (slv 3 1 (sA b14) 1 1 (ints .i64 [(J l:Int)])))) cP gI O) ZJ I ?_);rintro _ _ ⟨A2,c2,rfl,rfl⟩;rw[bY,show J fix+1=J (fix++[(J l:Int)]) by simp];refine ZE 12 ?_;refine Ld 13 18 ?_;refine cQ 14 Zk (ke ?_);refine Uu ?_;refine y6 ?_;rintro _ _ ⟨b21,rfl,rfl⟩;refine dE (UC S l (fix++[(J l:Int)]) ⟨X.Al,X.cl,A2,c2⟩) (λw hi hin=>lD S l (fix++[(J l:Int)]) ⟨X.Al,X.cl,A2,c2⟩ hl [⟨17,0,r,0,0⟩] (sA b21) 1 cE w hin (λw' hk=>de (hi.TD Zi (Ur (slv 370 5 (sA b21) 1 1 ([⟨17,0,r,0,0⟩].flatMap HI.cells))) hk))) ?_;rintro _ _ ⟨_,X2,rfl,rfl⟩;refine Zn (gK (cs':=UC S (l++[⟨17,0,r,0,0⟩]) (fix++[(J l:Int)]) X2) (.inr I) Zu I ?_);exact pF
end
end
variable{w:World}
theorem jz{k:IntKind}{l:Li}{n:Nat}(h:n<J l):(ints k l)[n]? =some (.int k (l.getD n 0)):=by grind [bX]
section
attribute [local irreducible] UL bM
theorem host_ok(op:Int)(w:World):CW prog 340 [.w op] w (.i (sj op)):=by
 refine UB func340 ntmps340 ?_;refine xt ?_;refine ZW ?_ ?_<;>intro hc2
 .exact DZ
 refine Ul ?_ ?_<;>intro hc4
 .exact DZ
 refine Ul ?_ ?_<;>intro hc6
 .exact DZ
 refine Ul ?_ ?_<;>intro hc8
 .exact DZ
 refine Ul ?_ ?_<;>intro hc10
 .exact DZ
 refine Ul ?_ ?_<;>intro hc12
 .exact DZ
 refine Ul ?_ ?_<;>intro hc14
 .exact DZ
 refine jE ?_;exact⟨by unfold sj;grind,rfl⟩
theorem Pr(op:Int)(w:World):CW prog 311 [.i op] w (.tuple #[.w (gS op),.bool (jO op)]):=by
 refine UB func311 ntmps311 ?_;refine IK ?_;refine ZW ?_ ?_<;>intro hc2
 .refine UE ?_;exact M7
 refine Ul ?_ ?_<;>intro hc4
 .refine UE ?_;exact M7
 refine Ul ?_ ?_<;>intro hc6
 .refine UE ?_;exact M7
 refine Ul ?_ ?_<;>intro hc8
 .refine UE ?_;exact M7
 refine eK ?_;exact M7
section
variable(S:VU)(l:List HI)(fix:Li)(X:VB)
theorem clow_ok(hl:J l<=40000)(r:Int):CI prog 341 [.p S.b,.i r] (UC S l fix X) (λr9 cs=>∃l' X',l'=l++RT r/\cs=UC S l' (fix) X'):=λw hi=>by
 refine UH func341 ntmps341 hi ?_;refine Us ?_;refine dE (UC S l fix X) (λw hi hin=>mf S l fix X O 12 4294967295 w hin) ?_;rintro _ _ ⟨l1,X1,hl1,rfl⟩;refine UA ?_;refine dE (UC S l1 fix X1) (λw hi hin=>gN S l1 fix X1 Do 5 r r 12 w hin) ?_;rintro _ _ ⟨l2,X2,hl2,rfl⟩;refine Zn (gK (cs':=UC S l2 fix X2) (.inr I) Zu I ?_);exact⟨l2,X2,(by simp only[hl1,hl2,RT,ae,ac,aq,aF,aJ,ax]),rfl⟩
theorem xh(hl:J l<=40000)(rd r:Int):CI prog 342 [.p S.b,.i rd,.i r] (UC S l fix X) (λr9 cs=>∃l' X',l'=l++ip rd r/\cs=UC S l' (fix) X'):=λw hi=>by
 refine UH func342 ntmps342 hi ?_;refine Us ?_;refine dE (UC S l fix X) (λw hi hin=>mf S l fix X O 12 31 w hin) ?_;rintro _ _ ⟨l1,X1,hl1,rfl⟩;refine UA ?_;refine dE (UC S l1 fix X1) (λw hi hin=>gN S l1 fix X1 Do 9 rd r 12 w hin) ?_;rintro _ _ ⟨l2,X2,hl2,rfl⟩;refine Zn (gK (cs':=UC S l2 fix X2) (.inr I) Zu I ?_);exact⟨l2,X2,(by simp only[hl1,hl2,ip,ae,ac,aq,aF,aJ,ax]),rfl⟩
theorem DO(hl:J l<=40000)(r up:Int):CI prog 343 [.p S.b,.i r,.w up] (UC S l fix X) (λr9 cs=>∃l' X',l'=l++vX r up/\cs=UC S l' (fix) X'):=λw hi=>by
 refine UH func343 ntmps343 hi ?_;refine Ut ?_;refine dE (UC S l fix X) (λw hi hin=>mf S l fix X O 12 up w hin) ?_;rintro _ _ ⟨l1,X1,hl1,rfl⟩;refine Ux ?_;refine dE (UC S l1 fix X1) (λw hi hin=>gN S l1 fix X1 Do 8 r r 12 w hin) ?_;rintro _ _ ⟨l2,X2,hl2,rfl⟩;refine Uu ?_;refine dE (UC S l2 fix X2) (λw hi hin=>gN S l2 fix X2 Do 6 10 10 r w hin) ?_;rintro _ _ ⟨l3,X3,hl3,rfl⟩;refine Zn (gK (cs':=UC S l3 fix X3) (.inr I) Zu I ?_);exact⟨l3,X3,(by simp only[hl1,hl2,hl3,vX,ae,ac,aq,aF,aJ,ax]),rfl⟩
theorem Mv(hl:J l<=30000)(op rd a b:Int):CI prog 307 [.p S.b,.w op,.i rd,.i a,.i b] (UC S l fix X) (λr9 cs=>∃l' X',l'=l++xm op rd a b/\cs=UC S l' (fix) X'):=λw hi=>by
 refine UH func307 ntmps307 hi ?_;refine Ut ?_;refine UD (λw hi=>host_ok op w) ?_;refine Us ?_;refine dE (UC S l fix X) (λw hi hin=>gN S l fix X O (sj op) rd a b w hin) ?_;rintro _ _ ⟨l1,X1,hl1,rfl⟩;refine oQ ?_;refine ZW ?_ ?_<;>intro hc3
 .refine py ?_;refine bV I (hc3) (QP ?_);exact⟨l1,X1,(by simp only[hl1,xm,yu,aZ,bl,Bool.or_false,bh,hc3,ae,ac,aq,aF,aJ,ax]),rfl⟩
 refine Ul ?_ ?_<;>intro hc4
 .refine py ?_;refine bV I (hc4) (QP ?_);exact⟨l1,X1,(by simp only[hl1,xm,yu,aZ,bl,Bool.or_false,bh,hc3,hc4,ae,ac,aq,aF,aJ,ax]),rfl⟩
 refine Ul ?_ ?_<;>intro hc5
 .refine py ?_;refine bV I (hc5) (QP ?_);exact⟨l1,X1,(by simp only[hl1,xm,yu,aZ,bl,Bool.or_false,bh,hc3,hc4,hc5,ae,ac,aq,aF,aJ,ax]),rfl⟩
 refine VQ ?_ ?_<;>intro hc6
 .refine QP ?_;exact⟨l1,X1,(by simp only[hl1,xm,yu,aZ,bl,Bool.or_false,bh,hc3,hc4,hc5,hc6,ae,ac,aq,aF,aJ,ax]),rfl⟩
 refine Us ?_;refine dE (UC S l1 fix X1) (λw hi hin=>clow_ok S l1 fix X1 Do rd w hin) ?_;rintro _ _ ⟨l2,X2,hl2,rfl⟩;refine py ?_;exact gK (cs':=UC S l2 fix X2) (.inr I) Zu I ⟨l2,X2,(by simp only[hl1,hl2,xm,yu,aZ,bl,Bool.or_false,bh,hc3,hc4,hc5,hc6,ae,ac,aq,aF,aJ,ax]),rfl⟩
end
end
end Go.Ink
