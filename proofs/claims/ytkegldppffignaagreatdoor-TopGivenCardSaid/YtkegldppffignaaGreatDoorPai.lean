/- Lemmas. -/
import Derived.Test.YtkegldppffignaaGreatDoorPaa
import Derived.Test.YtkegldppffignaaGreatDoorPab
import Derived.Test.YtkegldppffignaaGreatDoorPad
import Derived.Test.YtkegldppffignaaGreatDoorPah
import Derived.ChangeKeysEq
set_option linter.unusedSimpArgs false
set_option linter.unusedVariables false
set_option maxRecDepth 100000
set_option maxHeartbeats 4000000
namespace Go.Ink
open Go.RowKit
def EqI(P:Program)(k e c:Nat)(xs ys:Array Value)(is:List Nat):Prop:=∀w:World,(Op.eqItems k e c xs ys is).run P w= .ok true w
theorem EqI.nil{P:Program}{k e c:Nat}{xs ys:Array Value}:EqI P k e c xs ys []:=λw=>rfl
theorem EqI.cons{P:Program}{k e c i:Nat}{xs ys:Array Value}{is:List Nat}{a b:Value}(ha:∀w,(part e xs (i*c)).run P w= .ok a w)(hb:∀w,(part e ys (i*c)).run P w= .ok b w)(he:EqV P k e a b)(h:EqI P k e c xs ys is):EqI P k e c xs ys (i::is):=λw=>by
 simp only[Op.eqItems,Sem.run_bind,ha w,hb w,Result.andThen_ok,he w,Bool.not_true,Bool.false_eq_true,if_false];exact h w
section
variable {C:Cx} {fr:Fr} {cs:List bL}
theorem t_mark{d:Option Nat}{ty:TypeId}{pos:String}{af:Array Edge}{gd:Option (Nat×Bool)}{x:Operand}{T bb e n c:Nat}{xs:List Value}{mk:bL->List bL}(hx:ev fr x=some (.slice (some ⟨bb,0,none⟩) n c))(hu:At cs (slv e 1 (some ⟨bb,0,none⟩) n c xs) mk)(ht:C.P.underlying T=some (.slice e))(he:C.P.underlying e=some (.int .u8)):
  OpT C ⟨d,.convert T T x,ty,pos,af,gd⟩ fr cs true (λv cs'=>v= .slice (some ⟨bb,0,none⟩) n c/\cs'=mk (rdC (some ⟨bb,0,none⟩) n c xs)):=λa w hf hi next Q h=>by
 have hown:w.ownsRow 0 e 1 (.slice (some ⟨bb,0,none⟩) n c) n xs:=hi.get hu.has;have hrd:RdV w 1 (some ⟨bb,0,none⟩) n c xs:=hi.rd hu.has;obtain⟨hl0,h2⟩:=hown;rcases h2 with⟨hv,_⟩|⟨g',cap,cur,hv,hg0,hh,hnc,hcm,hcs,htk⟩
 .cases hv
 simp only[Value.slice.injEq,aU,Addr.mk.injEq,and_true,true_and]at hv;obtain⟨rfl,rfl⟩:=hv;have hsh:w.shape? bb=some (e,cur.size):=by
  unfold World.shape?;rw[hh]
 have hcell:∀ad,(w.freeze ⟨bb,cur.size,none⟩ 1).cell? ad=w.cell? ad:=λad=>by
  unfold World.cell? World.freeze;rw[if_neg Wq5];simp only[Array.getElem?_modify];by_cases hb:bb=ad.block
  .rw[if_pos hb];subst hb;rw[hh]
   rfl
  rw[if_neg hb]
 have hk:dG [bb] w (w.freeze ⟨bb,cur.size,none⟩ 1):=⟨rfl,rfl,rfl,by simp[World.freeze],λj _ hj=>by
  simp only[World.freeze,if_neg (show¬(1=0) by decide),Array.getElem?_modify];rw[if_neg (by simp at hj;omega)]⟩
 have hr':(execOp a.eval ⟨d,.convert T T x,ty,pos,af,gd⟩).run C.P w= .ok (.value (.slice (some ⟨bb,0,none⟩) n c)) (w.freeze ⟨bb,cur.size,none⟩ 1):=by
  simp[execOp,hf.ev hx,convert,run_underlying ht,run_underlying he,markStringish,hsh]
 unfold Oper.wp;rw[hr'];refine h _ _ _ ⟨rfl,rfl⟩ (hi.upd (hu _) (by simpa[bL.bs,ab]using hk) ⟨by simpa[bL.bs,ab]using hk,?_,?_,?_⟩) (λe=>by cases e)
 .cases xs<;>simp[bM,rdC,bL.bs,rdB,ab]
 .intro c hc;rw[aK]at hc;subst hc;exact(⟨hrd.len,hrd.cap,hrd.max,hrd.nil,λad e j u hu=>by rw[hcell];exact hrd.at_ ad e j u hu⟩:RdV _ 1 (some ⟨bb,0,none⟩) n c xs)
 intro b hb;left;cases xs with
 |nil=>simp[bM,rdC,bL.bs,rdB]at hb
 |cons x xs=>simpa[bM,rdC,bL.bs,rdB,ab]using hb
theorem y_neg{fr:Fr}{g:Bool}{x:Operand}{k:IntKind}{a r:Int}{d:Option Tmp}{T ty:TypeId}{pos:String}{af:Array Edge}{gd:Option (Nat×Bool)}(hx:Ev fr g x (.int k a))(hr:k.wrap (0 - a)=r):OpY C ⟨d,.unOp .neg T x,ty,pos,af,gd⟩ fr g Any (.int k r):=λA w hf _ hg=>by
 subst hr;unfold execOp;simp only[hx.eval hf hg]
 rfl
theorem DF{fn:Func}{K:Value->List bL->Prop}{fr:Fr}{cs cs':List bL}{e:Exit}{t T bb tt u s:Nat}{v v':Value}{xs:List Value}(he:e= .ret\/e= .normal)(hs:cs'.Sublist cs)(h0:fn.results= #[.cell t T,.tmp u,.tmp s])(h1:look fr t=some (.pointer (some ⟨bb,0,none⟩)))(h2:look fr u=some v)(h3:look fr s=some v')(hc:Has cs (row bb xs tt))
  (hT:∀w,(isAgg T).run C.P w= .ok true w) (hz:∀w,(sizeOf T).run C.P w= .ok xs.length w) (hk:K (.tuple #[.agg xs.toArray,v,v']) cs'):QOk C (bodyPost C.P fn (zK C.w0 C.S K)) e fr cs:=
 mK he hs (λa w hf hi=>by
  have e1:=hf.at_ t _ h1;have e2:=hf.at_ u _ h2;have e3:=hf.at_ s _ h3;simp only[bA]at e1 e2 e3;simp[results,h0,e1,e2,e3,asAddr,gW hT hz hi hc]) hk
end
theorem Inv.Oi{S:List Nat}{cs cin:List bL}{w0 w w':World}(h:Inv w0 S cs w)(hT:∀c,c∈cin->c∈cs)(hk:dG (bM cin) w w'):dG S w0 w':=
 ⟨hk.os.trans h.Nb.os,hk.tape.trans h.Nb.tape,hk.output.trans h.Nb.output,aW h.Nb.size hk.size,λb hb hS=>by
  refine(hk.block b (Nat.lt_of_lt_of_le hb h.Nb.size) λhb2=>?_).trans (h.Nb.block b hb hS);obtain⟨c,hc,hbc⟩:=dq.1 hb2;rcases h.own b (dq.2 ⟨c,hT c hc,hbc⟩)with h1|h1
  .exact hS h1
  omega⟩
theorem zy(k:IntKind)(x y:Int):bits .or k x y=bits .or k y x:=by
 unfold bits;simp only[BitVec.or_comm]
theorem xk:∀{l:List Int},u8s l->0<=zI l/\zI l<((256^l.length:Nat):Int)
 |[],_=>by simp[zI]
 |b::l,h=>by
  obtain⟨h1,h2⟩:=xk (l:=l) (λx hx=>h x (bH _ hx));have hb:=h b cE;have e:((256^(b::l).length:Nat):Int)=256*((256^l.length:Nat):Int):=by
   rw[ak,Nat.pow_succ,Nat.mul_comm];exact Int.natCast_mul 256 _
  rw[e];unfold zI;omega
def SzIn(x:Int):Prop:=x=0\/x=1\/x=2\/x=5
theorem iL(op:Int):SzIn (cA op):=by
 unfold cA
 repeat (refine bO SzIn (Or.inr (Or.inr (Or.inl rfl))) ?_)
 refine bO SzIn (Or.inr (Or.inr (Or.inr rfl))) ?_;exact bO SzIn (Or.inl rfl) (Or.inr (Or.inl rfl))
theorem shl8_or{N b:Int}(h0:0<=N)(h1:N<16777216)(hb:0<=b/\b<=255):bits .or .u32 (IntKind.u32.wrap (N*2^(min (Int.toNat 8) IntKind.u32.bits))) b=b+256*N:=by
 have e:(N*2^(min (Int.toNat 8) IntKind.u32.bits):Int)=N*256:=rfl;rw[e,u32_wrap_id _ Wq1 Wq1,zy,show bits .or .u32 b (N*256)=b+N*256 from by apply u32_or8<;>omega];omega
end Go.Ink
namespace Go.Proofs.YtkegldppffignaaGreatDoor
open Go.RowKit Go.Ink Go.Proofs.Tryz
attribute [local irreducible] OpY bS
def iG(w:World):Prop:=RdV w 1 (some ⟨0,0,none⟩) 32 32 (ints .u8 uy)
theorem iG.old{w0 w:World}{cs:List bL}(h:iG w0)(hi:Inv w0 [] cs w):iG w:=RdV.MZ h hi
theorem JL{w0:World}{cs:List bL}{j:Nat}{a:Int}(ht:iG w0)(h:uy[j]? =some a):∀w,Inv w0 [] cs w->cells [(⟨0,0+j*1,none⟩,.int .u8 a)] w:=by
 have h5:=eo (w0:=w0) (cs:=cs) ht (cR h);rw[Addr.add_lit]at h5;exact h5
theorem tz_ok(x k:Nat)(h0:0<x)(h:x<256)(hk:pB x=some k)(w:World)(ht:iG w):Ctr prog 142 [.int .u32 (x:Int)] w [] (λv cs=>v= .int .i64 (k:Int)/\cs=[]):=by
 obtain⟨k',j,e1,e5,e2,e3,e4⟩:=Fh h0 h;obtain rfl:k'=k:=ay (e1.symm.trans hk);refine bN func142 rfl ntmps142 rfl (Inv.start w) ?_;refine gR ?_;refine dc rfl ((beq_eq_false_iff_ne.2 Wq1)) ?_;refine Z_6 ?_;refine Zy (y_neg Zv0 rfl) ?_;refine ZA ?_;refine Zy (jk Zv0 Zv0 rfl) ?_;refine Zy (ko (Zv rfl) (Zv rfl) Wq1 (show _=(j:Int)from e2)) ?_;refine Zy (cX (j:=j) (sz:=1) (r:=0+j*1) rfl Zrf (Zv rfl) (Zv rfl) Wq4 Wq4 Wq1) ?_;refine dN (bQ Zrf Zv0) (JL ht e4) rfl ?_;refine Zy (ce rfl rfl Zv0 Zl) ?_;refine Z_4 ?_;refine Zra ?_;exact de
theorem D8(b x:Nat)(p m:Int)(hx:bits .and .u32 p m=(x:Int))(h256:x<256)(w:World)(h:(pF b p m).ok w)(ht:iG w):
  Ctr prog 124 [.pointer (some ⟨b,0,none⟩)] w [] (λv cs=>v= .tuple #[.int .i64 (((pB x).getD 0:Nat):Int),.bool (pB x).isSome]/\cs=[]):=by
 refine bN func124 rfl ntmps124 rfl (Inv.start w) ?_;refine Z_7 ?_;refine bU ⟨λj=>List.elem j [],[]⟩ Zk ?_;refine gO ?_;refine ZFe 2 0 ?_;refine dD 3 rfl Zk Zk Zk Zk (bQ Zrf (Zv rfl)) (dy (by assumption) rfl) rfl ?_;refine ZE 4 ?_;refine ZE 5 ?_;refine ZFe 6 1 ?_;refine dD 7 rfl Zk Zk Zk Zk (bQ Zrf (Zv rfl)) (dy (by assumption) rfl) rfl ?_;refine cG 8 rfl Zk Zk Zk (oL Zv0 Zv0 hx) rfl ?_;refine ZE 9 ?_;refine dx ?_;refine Z_8 ?_;refine ZW ?_ ?_<;>intro hc2
 .obtain rfl:x=0:=(by have:=kk hc2;omega);rw[KL];refine Z_8 ?_;refine i9 ?_;exact de
 have hx0:0<x:=(by have:=ne_of_beq_false hc2;omega);obtain⟨k,j,e1, -⟩:=Fh hx0 h256;have HT:=tz_ok x k hx0 h256 e1;rw[e1];refine Z_5 ?_;refine ZSe (λw hi=>HT w (ht.old hi)) ?_;refine Z_5 ?_;refine i9 ?_;exact de
theorem due_ok(b:Nat)(t count:Int)(w:World)(hi:Inv w (bM [Dv b t]) [Dv b t] w):
  Ctr prog 141 [.pointer (some ⟨b,0,none⟩),.int .u64 count] w [Dv b t] (λv cs=>v= .bool (!((t==0)||decide (IntKind.u32.wrap count<t)))/\cs=[Dv b (bif(t==0)||decide (IntKind.u32.wrap count<t)then t else 0)]):=by
 refine bN func141 rfl ntmps141 rfl hi ?_;refine rj ?_;refine Zyn rfl rfl (ce rfl rfl (dh rfl) rfl) ?_;refine Z_8 ?_;refine ZW ?_ ?_<;>intro hc1
 .rw[hc1];refine Z_7 ?_;refine Zrb ([row _ _ _]) ?_;exact de
 rw[hc1];refine Z_7 ?_;refine ZL ?_;refine Z_8 ?_;refine Zrb ([row _ _ _]) ?_;exact de
theorem lines0:lW [0]=1:=by decide
theorem tick_ok(D:p8)(bm:Nat)(X:nw)(d:Dev)(count:Int)(w:World)(hi:Inv w (bM (lm D bm X d)) (lm D bm X d) w):
  Ctr prog 123 [.pointer (some ⟨D.bs,0,none⟩),.int .u64 count] w (lm D bm X d) (λv cs=>v= .tuple #[]/\cs=lm D bm X (d.tick count)):=by
 obtain⟨c,hc⟩:=Zgn (((d.timer==0)||decide (IntKind.u32.wrap count<d.timer)));have HD:=due_ok D.bti d.timer count;have HR:=λA c w hi h=>mX D.bi d.M5 d.mask A c [0] (λx hx=>by simp at hx;omega) w hi h
 rw[hc]at HD;rw[lines0]at HR;refine bN func123 rfl ntmps123 rfl hi ?_;refine Z_7 ?_;refine ZcM ([Dv D.bti d.timer]) (λw hi hin=>HD w hin) ?_;refine Z_2 ?_;refine ZW ?_ ?_<;>intro hc0
 .obtain rfl:c=false:=(by cases c with|false=>rfl|true=>cases hc0);have ht:d.tick count={d with timer:=0,M5:=bits .or .u32 d.M5 1}:=(by unfold Dev.tick;rw[hc];rfl);rw[ht];refine Z_5 ?_;refine jO ?_;rintro _ _ ⟨b14,rfl,rfl⟩;refine ZcM ([pF D.bi d.M5 d.mask]) (λw hi hin=>HR (some ⟨b14,0,none⟩) 1 w hin (λw' hk=>hi.NE Zi (show Has _ (slv 3 1 (some ⟨b14,0,none⟩) 1 1 (ints .i64 [0]))from Zh) hk)) ?_;refine Zn (bP (lm D bm X {d with timer:=0,M5:=bits .or .u32 d.M5 1}) Zj ?_);refine jb (cs':=[row _ _ _,row _ _ _,row _ _ _,row _ _ _,slv _ _ _ _ _ _,slv _ _ _ _ _ _,row _ _ _,slv _ _ _ _ _ _]) (.inr rfl) Zu rfl ?_;exact de
 obtain rfl:c=true:=(by cases c with|true=>rfl|false=>cases hc0);have ht:d.tick count=d:=(by unfold Dev.tick;rw[hc];rfl);rw[ht];refine Zc (bP (lm D bm X d) Zj ?_);refine jb (cs':=[row _ _ _,row _ _ _,row _ _ _,row _ _ _,slv _ _ _ _ _ _,slv _ _ _ _ _ _,row _ _ _,slv _ _ _ _ _ _]) (.inr rfl) Zu rfl ?_;exact de
theorem xu(op:Int)(w:World):Ctr prog 163 [.int .i64 op] w [] (λv cs=>v= .bool (fN op)/\cs=[]):=by
 refine bN func163 rfl ntmps163 rfl (Inv.start w) ?_;refine mn ?_;refine Z_5 ?_;refine Zra ?_;exact de
theorem KZ(A:Option Addr)(c:Nat)(l:List Int)(x:Int)(w:World)(h:Rd w .i64 A l.length c l):Ctr prog 119 [.slice A l.length c,.int .i64 x] w [] (λv cs=>(∃z,v= .int .i64 z/\decide (0<=z)=l.contains x)/\cs=[]):=by
 have hlm:l.length<=maxLen:=aW h.cap h.max;simp only[maxLen]at hlm;refine bN func119 rfl ntmps119 rfl (Inv.start w) ?_;refine gy ?_;refine cq (λk:Nat=>[(0,.slice A l.length c),(1,.int .i64 x),(7,.int .i64 (l.length:Int)),(8,.int .i64 (k:Int))]) (λ_=>[]) (λk=>k<=l.length/\∀j,j<k->l[j]? ≠some x) (λk=>l.length - k) (0) ?_ ?_ ?_ ?_
 .exact⟨aq _,λj hj=>by omega⟩
 .exact Zwk
 .exact Zu
 rintro k ⟨hk,hno⟩;refine Z_6 ?_;refine ZW ?_ ?_<;>intro hc2
 .simp only[aj]at hc2;have hkl:k<l.length:=Wq1;obtain⟨ad,rfl⟩:=h.some_ Wq1;have hy:l[k]? =some (l[k]'hkl):=ai hkl;obtain⟨y,hyy⟩:=Zgn (l[k]'hkl);rw[hyy]at hy;refine rj ?_;refine uR ?_;refine dN (bQ Zrf Zv0) (eo h (cR hy)) rfl ?_;refine Z_3 ?_;refine ZW ?_ ?_<;>intro hc4
  .have e:=kk hc4;refine gR ?_;refine Zra ?_;exact⟨⟨_,rfl,by rw[ax (show(0:Int)<=(k:Int) by omega),List.contains_eq_mem,ax (e▸aD hy)]⟩,rfl⟩
  refine Z_4 ?_;refine Wq8 ?_;refine dW (k+1) ?_ ?_ ?_
  .exact⟨⟨by omega,λj hj=>by rcases Nat.lt_or_ge j k with h1|h1;exact hno j h1;obtain rfl:j=k:=Wq1;rw[hy];intro e;exact ne_of_beq_false hc4 (ay e).symm⟩,by omega⟩
  .exact Zwk
  exact Zu
 simp only[ah]at hc2;have hnm:l.contains x=false:=(by rw[List.contains_eq_mem,ah];intro hm;obtain⟨j,hj,e⟩:=List.getElem_of_mem hm;exact hno j Wq1 (by rw[ai hj,e]));refine fE ?_;refine Zra ?_;exact⟨⟨_,rfl,by rw[hnm];rfl⟩,rfl⟩
theorem oA(A:Option Addr)(c:Nat)(l:List Int)(x:Int)(w:World)(h:Rd w .i64 A l.length c l):Ctr prog 101 [.slice A l.length c,.int .i64 x] w [] (λv cs=>v= .bool (l.contains x)/\cs=[]):=by
 refine bN func101 rfl ntmps101 rfl (Inv.start w) ?_;refine Z_9 ?_;refine ZS (λw hi=>KZ A c l x w (RdV.MZ h hi)) ?_;rintro _ _ ⟨_,⟨⟨z,rfl,hz⟩,rfl⟩,rfl⟩;refine Z_5 ?_;refine Zra ?_;exact⟨by rw[<-hz],rfl⟩
end Go.Proofs.YtkegldppffignaaGreatDoor
namespace Go.Ink
open Go.RowKit
abbrev insV(o:Option ((Int×Int)×Nat)):List Value:=[.int .i64 ((o.map (·.1.1)).getD 0),.int .u32 ((o.map (·.1.2)).getD 0)]
abbrev insN(o:Option ((Int×Int)×Nat)):Nat:=(o.map (·.2)).getD 0
theorem xB{op:Int}(l:List Int)(h:cA op=0):dw (op::l)=none:=by
 have e:(cA op==0)=true:=by rw[h];rfl
 show(bif cA op==0 then none else _)=none;rw[e]
 rfl
theorem uQ{op:Int}{l:List Int}(h:(l.length:Int)+1<cA op):dw (op::l)=none:=by
 unfold dw;simp only[ax h,ac,Bool.cond_self]
theorem pW{op:Int}{l:List Int}{z:Nat}(h0:cA op=((z+1:Nat):Int))(h:z<=l.length):dw (op::l)=some ((op,zI (l.take z)),z+1):=by
 have e1:(cA op==0)=false:=by rw[h0,beq_eq_false_iff_ne];omega
 have e2:decide ((l.length:Int)+1<cA op)=false:=aw (by rw[h0];omega)
 show(bif cA op==0 then none else bif decide ((l.length:Int)+1<cA op)then none else some ((op,zI (l.take ((cA op).toNat - 1))),(cA op).toNat))=_;rw[e1,aa,e2,aa,h0]
 rfl
theorem G7{l:List Int}{z k:Nat}{x:Int}(hk:k<z)(hx:l[k]? =some x):zI ((l.take z).drop k)=x+256*zI ((l.take z).drop (k+1)):=by
 have hx':(l.take z)[k]? =some x:=by rw[List.getElem?_take,if_pos hk];exact hx
 obtain⟨hlt,he⟩:=au.1 hx';rw[List.drop_eq_getElem_cons hlt,he]
 rfl
end Go.Ink
namespace Go.Proofs.YtkegldppffignaaGreatDoor
open Go.RowKit Go.Ink Go.Proofs.Tryz
attribute [local irreducible] OpY bS
theorem zn(A:Option Addr)(c:Nat)(b:List Int)(hb:u8s b)(w:World)(h:Rd w .u8 A b.length c b):
  Ctr prog 158 [.slice A b.length c] w [] (λv cs=>(∃y,v= .tuple #[.agg (insV (dw b)).toArray,.int .i64 (insN (dw b):Int),.int .i64 y]/\(y==0)=(dw b).isSome)/\cs=[]):=by
 have hlm:b.length<=maxLen:=aW h.cap h.max;simp only[maxLen]at hlm;cases b with
 |nil=>
  refine bN func158 rfl ntmps158 rfl (Inv.start w) ?_;refine Z_2 ?_;refine ZN λb2=>?_;refine gR ?_;refine bW rfl (rfl) ?_;refine Z_3 ?_;refine ZM ?_;refine Z_6 ?_;refine DF (cs':=[]) (.inl rfl) Zu rfl rfl rfl rfl Zh Zrf Zrf ?_;exact⟨⟨10,rfl,rfl⟩,rfl⟩
 |cons op l=>
  have hop:=hb op cE;have hl:u8s l:=λx hx=>hb x (bH _ hx)
  have hlen:(op::l).length=l.length+1:=rfl;obtain⟨ad,rfl⟩:=h.some_ (by rw[hlen];omega);have hz5:cA op=0\/cA op=1\/cA op=2\/cA op=5:=iL op;have HS:=sJ op;have hn0:0<=cA op:=by omega
  obtain⟨z0,hz0⟩:∃z:Nat,cA op=z:=ar hn0;have E0:=xB (op:=op) l;have E1:=uQ (op:=op) (l:=l);have E2:=λz h1 h2=>pW (op:=op) (l:=l) (z:=z) h1 h2
  rw[hz0]at hz5 HS E0 E1 E2;have hz6:z0<=5:=by omega
  refine bN func158 rfl ntmps158 rfl (Inv.start w) ?_;refine Z_2 ?_;refine ZN λb2=>?_;refine gR ?_;refine dc rfl ((beq_eq_false_iff_ne.2 (by rw[hlen];omega))) ?_;refine Z_5 ?_;refine Zy (dX (j:=0) rfl Zrf (Zv rfl) (Zv rfl) Wq4 Wq4) ?_;refine dN (bQ Zrf Zv0) (eo h (cR (l:=op::l) (j:=0) rfl)) rfl ?_;refine Zy (ce rfl rfl Zv0 Zl) ?_;refine ZA ?_;refine ZN λb5=>?_
  refine ZM ?_;refine Z_6 ?_;refine ZSe (λw hi=>HS w) ?_;refine gR ?_;refine ZW ?_ ?_<;>intro hc5
  .rw[E0 (kk hc5)];refine Z_3 ?_;refine ZM ?_;refine Z_7 ?_;refine DF (cs':=[]) (.inl rfl) Zu rfl rfl rfl rfl Zh Zrf Zrf ?_;exact⟨⟨12,rfl,rfl⟩,rfl⟩
  have hz1:1<=z0:=(by have:=ne_of_beq_false hc5;omega);refine Z_9 ?_;refine ZW ?_ ?_<;>intro hc7
  .simp only[aj]at hc7;rw[E1 (by rw[hlen]at hc7;omega)];refine Z_3 ?_;refine ZM ?_;refine Z_7 ?_;refine DF (cs':=[]) (.inl rfl) Zu rfl rfl rfl rfl Zh Zrf Zrf ?_;exact⟨⟨10,rfl,rfl⟩,rfl⟩
  simp only[ah]at hc7;obtain⟨z,rfl⟩:∃z,z0=z+1:=⟨z0 - 1,by omega⟩;have hzl:z<=l.length:=(by rw[hlen]at hc7;omega);rw[E2 z rfl hzl];have htl:(l.take z).length=z:=(by rw[aB];omega);have hrng:∀k,0<=zI ((l.take z).drop k)/\zI ((l.take z).drop k)<((256^(z - k):Nat):Int):=λk=>(by have h1:=xk (l:=(l.take z).drop k) (λx hx=>hl x (bj (List.mem_of_mem_drop hx)));rwa[bI,htl]at h1)
  obtain⟨N,hN⟩:∃N:Nat->Int,(λk=>zI ((l.take z).drop k))=N:=⟨_,rfl⟩;have hN0:N 0=zI (l.take z):=(by rw[<-hN];rfl);have hNz:N z=0:=(by rw[<-hN];show zI ((l.take z).drop z)=0;rw[List.drop_of_length_le Wq1];rfl);have hNs:∀k x,k<z->l[k]? =some x->N k=x+256*N (k+1):=(λk x h1 h2=>by rw[<-hN];exact G7 h1 h2);have hNr:∀k,0<=N k/\N k<((256^(z - k):Nat):Int):=(λk=>by rw[<-hN];exact hrng k);rw[<-hN0];refine Z_6 ?_;refine iT ([row b2 [.int .i64 0,.int .u32 0] 27,row b5 [.int .i64 op,.int .u32 0] 27]) Zj ?_;rw[show row b5 [Value.int .i64 op,Value.int .u32 0] 27=row b5 [Value.int .i64 op,Value.int .u32 (N z)] 27 from by rw[hNz]];refine ZA ?_;refine Zy (eE (Zv rfl) (Zv rfl) (show _=(z:Int)from by rw[bF _ ⟨by omega,by omega⟩];omega)) ?_;refine Z_4 ?_;refine cq (λk:Nat=>[(0,.slice (some ad) (op::l).length c),(2,.pointer (some ⟨b2,0,none⟩)),(5,.pointer (some ⟨b5,0,none⟩)),(6,.int .i64 ((z+1:Nat):Int)),(7,.int .i64 (k:Int))]) (λk=>[row b2 [.int .i64 0,.int .u32 0] 27,row b5 [.int .i64 op,.int .u32 (N k)] 27]) (λk=>k<=z) (λk=>k) (z) ?_ ?_ ?_ ?_
  .exact aM _
  .exact Zwk
  .exact Zu
  rintro k hk;refine Z_7 ?_;refine ZW ?_ ?_<;>intro hc10
  .simp only[aj]at hc10;obtain⟨k,rfl⟩:∃m,k=m+1:=⟨k - 1,by omega⟩;have hx:l[k]? =some (l[k]'(by omega)):=ai Wq1;have hxb:=hl _ (List.getElem_mem (show k<l.length by omega));obtain⟨x,hxx⟩:=Zgn (l[k]'(by omega));rw[hxx]at hx hxb;have hst:=hNs k x Wq1 hx;have hr:=hNr (k+1);have hp:(256^(z - (k+1)):Nat)<=256^3:=Nat.pow_le_pow_right Wq5 Wq1;have hp2:((256^(z - (k+1)):Nat):Int)<=16777216:=(by have e:(256^3:Nat)=16777216:=Wq5;omega);have hor:=shl8_or hr.1 Wq1 hxb;refine Z_4 ?_;refine bU ⟨λj=>List.elem j [10],[]⟩ Zk ?_;refine ZFe 0 1 ?_;refine ZG 1 ?_;refine cG 2 rfl Zk Zk Zk (v7 (Zv rfl) (Zv rfl) Wq1 rfl) rfl ?_;refine ZE 3 ?_;refine ZE 4 ?_;refine cG 5 rfl Zk Zk Zk (dX (j:=k+1) rfl Zrf (Zv rfl) (Zv rfl) Wq4 Wq4) rfl ?_;refine dD 6 rfl Zk Zk Zk Zk (bQ Zrf Zv0) (eo h (cR (l:=op::l) (j:=k+1) hx)) rfl ?_;refine cG 7 rfl Zk Zk Zk (ce rfl rfl (Zv rfl) (by first|exact IntWalk.u32_in _ ⟨by omega,by omega⟩|exact rfl)) rfl ?_;refine cG 8 rfl Zk Zk Zk (CX (Zv rfl) (Zv rfl) (show _=N k from by rw[hst];exact hor)) rfl ?_;refine ZFe 9 1 ?_;refine cn 10 Zk ?_;refine ZQ ?_;refine dx ?_;refine Z_4 ?_;refine Zy (eE (Zv rfl) (Zv rfl) (show _=(k:Int)from by rw[bF _ ⟨by omega,by omega⟩];omega)) ?_;refine Z_2 ?_;refine dW (k) ?_ ?_ ?_
   .exact⟨show k<=z by omega,show k<k+1 by omega⟩
   .exact Zwk
   exact Zu
  simp only[ah]at hc10;obtain rfl:k=0:=Wq1;refine Z_9 ?_;refine ZM ?_;refine Z_5 ?_;refine DF (cs':=[]) (.inl rfl) Zu rfl rfl rfl rfl Zh Zrf Zrf ?_;exact⟨⟨0,rfl,rfl⟩,rfl⟩
end Go.Proofs.YtkegldppffignaaGreatDoor
namespace Go.Ink
open Go.RowKit
theorem Em{n:Nat}{M:Mem}{p:Nat}(h:n<=p/64):cZ n M p=none:=by
 unfold cZ;rw[aw Wq1]
 rfl
theorem En{n:Nat}{M:Mem}{p:Nat}(h:p/64<n):cZ n M p=dw (((M.data.drop (p/64*64)).take 64).drop (p%64)):=by
 unfold cZ;rw[ax h]
 rfl
theorem Ez{w:World}{b j:Nat}{X:List Int}(h:Rd w .u8 (some ⟨b,0,none⟩) 64 64 X)(hj:j<64)(hX:X.length=64):Rd w .u8 (some ⟨b,j,none⟩) (64 - j) (64 - j) (X.drop j):=by
 have h5:=RdV.cut h (lo:=j) (hi:=64) Wq1 (aM _);rw[if_neg Wq1,Option.map_some,Addr.add_lit,bE,Nat.mul_one]at h5;have e:(ints .u8 X).take 64=ints .u8 X:=List.take_of_length_le (by simp[ints,hX]);rw[e]at h5;have e2:(ints .u8 X).drop j=ints .u8 (X.drop j):=by simp[ints]
 rwa[e2]at h5
abbrev pY(b:zG)(X:kb):List Value:=b.s.cells (.slice X.Ad b.s.d.length X.cd) (.slice X.Ar b.s.r.length X.cr)++[.int .u32 b.place,.bool b.runs]
end Go.Ink
namespace Go.Proofs.YtkegldppffignaaGreatDoor
open Go.RowKit Go.Ink Go.Proofs.Tryz
attribute [local irreducible] OpY bS
theorem DE(L:fu)(M:Mem)(p:Nat)(hp:L.n<=p)(w:World)(h:(eA L M).ok w):Ctr prog 128 [.pointer (some ⟨L.bm,0,none⟩),.int .i64 p] w [] (λv cs=>v= .tuple #[.slice none 0 0,.bool false]/\cs=[]):=by
 obtain⟨n1,n64,hdl,hdb,htl⟩:=mj h;obtain⟨k0,hr0,h1,h2,h3,h4⟩:=mg h;refine bN func128 rfl ntmps128 rfl (Inv.start w) ?_;refine fE ?_;rw[aw (show¬(p:Int)<0 by omega)];refine Z_5 ?_;refine iu (cy rfl rfl) (bQ Zrf (dh rfl)) (dy (by assumption) rfl) rfl ?_;refine fF (cy rfl rfl) rfl (cU rfl (λ_ _=>rfl) (λw hi=>rS L.bt L.bp L.o L.bf L.bg L.n w (bL.old h2 hi))) rfl ?_;rintro _ _ ⟨_,⟨rfl,rfl⟩,rfl⟩;refine Z_4 ?_;refine bW rfl ((by rw[ax (show(L.n:Int)<=p by omega)];rfl)) ?_;refine Z_8 ?_;refine i9 ?_;exact de
theorem Cy(bu bb:Nat)(L:fu)(M:Mem)(p:Nat)(hp:p<=4294967295)(w:World)(hu:(Jd bu L.bm bb).ok w)(h:(eA L M).ok w):
  Ctr prog 133 [.pointer (some ⟨bu,0,none⟩),.int .u32 (p:Int)] w [] (λv cs=>v= .tuple #[.agg (insV (cZ L.n M p)).toArray,.int .i64 (insN (cZ L.n M p):Int),.bool (cZ L.n M p).isSome]/\cs=[]):=by
 obtain⟨n1,n64,hdl,hdb,htl⟩:=mj h;have hq:IntKind.u32.wrap ((p:Int).tdiv 64)=((p/64:Nat):Int):=by rw[bD Wq1,u32_wrap_id _ Wq1 Wq1];omega
 have hrm:(p:Int).tmod 64=((p%64:Nat):Int):=by rw[aG Wq1];omega
 by_cases hpn:p/64<L.n
 .have HP:=wN L M (p/64) hpn;rw[En hpn];have hXl:((M.data.drop (p/64*64)).take 64).length=64:=by rw[aB,bI];omega
  have hXb:u8s ((M.data.drop (p/64*64)).take 64):=λx hx=>hdb x (List.mem_of_mem_drop (bj hx))
  obtain⟨X,hX⟩:=Zgn ((M.data.drop (p/64*64)).take 64);rw[hX]at HP hXl hXb|-;have hbl:(X.drop (p%64)).length=64 - p%64:=by rw[bI,hXl]
  have HD:=λA c w h=>zn A c (X.drop (p%64)) (λx hx=>hXb x (List.mem_of_mem_drop hx)) w h
  rw[hbl]at HD;obtain⟨o,ho⟩:=Zgn (dw (X.drop (p%64)));rw[ho]at HD|-;refine bN func133 rfl ntmps133 rfl (Inv.start w) ?_;refine Z_2 ?_;refine ZN λb4=>?_;refine fE ?_;refine fS ?_;refine Z_5 ?_;refine ZSe (λw hi=>lO bu L.bm bb w (bL.old hu hi)) ?_;refine ZA ?_;refine Zy (kp (Zv rfl) (Zv rfl) Wq1 hq) ?_;refine Zy (ce rfl rfl Zv0 Zl) ?_;refine ZS (λw hi=>HP w (bL.old h hi)) ?_;rintro _ _ ⟨_,⟨bq,rfl,rfl⟩,rfl⟩;refine gy ?_;refine fS ?_;refine Z_6 ?_;refine Zy (ij (Zv rfl) (Zv rfl) Wq1 hrm) ?_;refine Zy (kL (sz:=1) (lo:=p%64) (hi:=64) (r:=p%64) rfl Zrf (Zv rfl) (.inr ⟨_,_,rfl,(Zv rfl)⟩) (.inl ⟨rfl,rfl⟩) Wq1 Wq1 Wq1 Wq1) ?_;refine ZS (λw hi=>HD (some ⟨bq,p%64,none⟩) (64 - p%64) w (Ez (hi.rd (show Has _ (sl .u8 5 (some ⟨bq,0,none⟩) 64 64 X)from Zh)) Wq1 hXl)) ?_;rintro _ _ ⟨_,⟨⟨y,rfl,hy⟩,rfl⟩,rfl⟩;refine Z_4 ?_;refine ZN λb9=>?_
  refine ZM ?_;refine Z_9 ?_;refine Zy (jc (Zv rfl) (Zv rfl) hy) ?_;refine ZM ?_;refine Z_5 ?_;refine DF (cs':=[]) (.inl rfl) Zu rfl rfl rfl rfl Zh Zrf Zrf ?_;exact de
 have HP:=DE L M (p/64) Wq1;rw[Em Wq1];refine bN func133 rfl ntmps133 rfl (Inv.start w) ?_;refine Z_2 ?_;refine ZN λb4=>?_;refine fE ?_;refine fS ?_;refine Z_5 ?_;refine ZSe (λw hi=>lO bu L.bm bb w (bL.old hu hi)) ?_;refine ZA ?_;refine Zy (kp (Zv rfl) (Zv rfl) Wq1 hq) ?_;refine Zy (ce rfl rfl Zv0 Zl) ?_;refine ZSe (λw hi=>HP w (bL.old h hi)) ?_;refine gy ?_;refine bW rfl (rfl) ?_;refine Z_3 ?_;refine ZM ?_;refine Z_6 ?_;refine DF (cs':=[]) (.inl rfl) Zu rfl rfl rfl rfl Zh Zrf Zrf ?_;exact de
theorem GD(op nn:Int)(r:Res)(X:kb)(Ap:Option Addr)(cp:Nat)(MY was:Int)(hpc:u32 r.s.pc)(hw:u32 was)(w:World)(h:Rd w .i64 Ap r.MK.length cp r.MK):
  Ctr prog 135 [.agg #[.int .i64 op,.int .u32 nn],.agg (lT r X Ap cp).toArray,.int .i64 MY,.int .u32 was] w [] (λv cs=>v= .bool (jg op r MY was)/\cs=[]):=by
 have HC:=oA Ap cp r.MK MY;have hq:∀x:Int,u32 x->IntKind.u32.wrap (x.tdiv 64)=x/64:=λx hx=>by obtain⟨h1,h2⟩:=hx;rw[bD h1,u32_wrap_id _ Wq1 Wq1]
 refine bN func135 rfl ntmps135 rfl (Inv.start w) ?_;refine Z_2 ?_;refine ZO λb4=>?_;refine ZO λb5=>?_
 refine Z_8 ?_;refine ZSe (λw hi=>xu op w) ?_;refine xF ?_;refine eu (cy rfl rfl) (.cons (dh rfl) (.cons (dh rfl) .nil)) (λ_ _=>rfl) (λhg w hi=>HC w (RdV.MZ h hi)) rfl ?_;refine Z_3 ?_;refine ZW ?_ ?_<;>intro hc1
 .refine Z_7 ?_;refine Zra ?_;exact⟨by unfold jg;rw[hc1];rfl,rfl⟩
 refine Z_7 ?_;refine Zy (kp (Zv rfl) (Zv rfl) Wq1 (hq _ hpc)) ?_;refine ZA ?_;refine Zy (kp (Zv rfl) (Zv rfl) Wq1 (hq _ hw)) ?_;refine Z_5 ?_;refine Zra ?_;exact⟨by unfold jg;rw[hc1];rfl,rfl⟩
end Go.Proofs.YtkegldppffignaaGreatDoor
namespace Go.Ink
open Go.RowKit
theorem vw{b:Nat}:∀{m k x:Nat},xi b k m=some x->x<k+m
 |0,_,_,h=>by cases h
 |m+1,k,x,h=>by
  unfold xi at h;cases hc:(b/2^k%2==1)with
  |true=>rw[hc,ac]at h;obtain rfl:=ay h;omega
  |false=>rw[hc,aa]at h;have:=vw h;omega
theorem low_lt{b x:Nat}(h:pB b=some x):x<8:=by have:=vw h;omega
structure Dev.lines(d:Dev):Prop where
 mask:0<=d.mask/\d.mask<=255
theorem MF{p m:Int}(hm:0<=m/\m<=255):∃x:Nat,bits .and .u32 p m=(x:Int)/\x<256:=by
 unfold bits;simp only;rw[aE];have hmt:(BitVec.ofInt IntKind.u32.bits m).toNat<=255:=by
  rw[BitVec.toNat_ofInt];have:(m%((2^IntKind.u32.bits:Nat):Int))=m:=Int.emod_eq_of_lt hm.1 (by have:((2^IntKind.u32.bits:Nat):Int)=4294967296:=rfl;omega);rw[this];omega
 have h1:=Nat.and_le_right (n:=(BitVec.ofInt IntKind.u32.bits p).toNat) (m:=(BitVec.ofInt IntKind.u32.bits m).toNat);refine⟨(BitVec.ofInt IntKind.u32.bits p&&&BitVec.ofInt IntKind.u32.bits m).toNat%4294967296,?_,?_⟩
 .simp
 rw[BitVec.toNat_and];omega
theorem vR{n:Nat}{s:St}{U:Mmu}{d:Dev}(h:(!s.right||s.halted)=true):dI n s U d=⟨s,0,false,U,d⟩:=by
 unfold dI;rw[h]
 rfl
theorem vS{n:Nat}{s s1:St}{U:Mmu}{d d1:Dev}(h:(!s.right||s.halted)=false)(hd:d.tick s.count=d1)(hs:told s d1=s1):dI n s U d=mf n s1 U d1:=by
 unfold dI;rw[h,hd,hs]
 rfl
theorem JB{s:St}{d:Dev}{x k:Nat}(hx:bits .and .u32 d.M5 d.mask=(x:Int))(ho:pB x=some k)(hie:s.ie=true):told s d=s.M3 ((16+k:Nat):Int) 0:=by
 unfold told Hj;rw[hx,aP,ho];show(bif s.ie then _ else _)=_;rw[hie]
 rfl
theorem told_no{s:St}{d:Dev}{x:Nat}(hx:bits .and .u32 d.M5 d.mask=(x:Int))(h:((pB x).isSome&&s.ie)=false):told s d=s:=by
 unfold told Hj;rw[hx,aP];cases ho:pB x with
 |none=>rfl
 |some k=>
  rw[ho]at h;show(bif s.ie then _ else _)=_;cases hie:s.ie with
  |true=>rw[hie]at h;cases h
  |false=>rfl
end Go.Ink
namespace Go.Proofs.YtkegldppffignaaGreatDoor
open Go.RowKit Go.Ink Go.Proofs.Tryz
attribute [local irreducible] OpY bS
theorem CP(bu bb:Nat)(L:fu)(D:p8)(Y:nw)(s:St)(hwf:s.wf)(Ad Ar:Option Addr)(cd cr:Nat)(U:Mmu)(hT:U.t.length=16)(d:Dev)(hm:(d.tick s.count).lines)(w:World)(hi:Inv w (bM (ubF bu bb L D Y U d)) (ubF bu bb L D Y U d) w)
  (h:∀w',dG (bM (ubF bu bb L D Y U d)) w w'->oJ w' s Ad Ar cd cr) (ht:∀w',dG (bM (ubF bu bb L D Y U d)) w w'->iG w'):
  Ctr prog 106 [sv s Ad cd Ar cr,.pointer (some ⟨bu,0,none⟩),.pointer (some ⟨D.bs,0,none⟩)] w (ubF bu bb L D Y U d)
   (λv cs=>∃X,v= .agg (pY (dI L.n s U d) X).toArray/\cs=[slD (dI L.n s U d).s X.Ad X.cd,slR (dI L.n s U d).s X.Ar X.cr]++ubF bu bb L D Y (dI L.n s U d).u (dI L.n s U d).d):=by
 have HR:=nF s Ad Ar cd cr;have HR2:=nF s;cases hrh:(!s.right||s.halted)with
 |true=>
  rw[vR hrh];obtain⟨rt,hrt⟩:=Zgn (s.right);rw[hrt]at HR2 hrh;refine bN func106 rfl ntmps106 rfl hi ?_;refine Z_2 ?_;refine ZO λb3=>?_;refine ZN λb6=>?_
  refine Z_5 ?_;refine ZS (λw hi=>jv s Ad Ar cd cr w (h w hi.Nb)) ?_;rintro _ _ ⟨_,⟨A1,c1,A2,c2,rfl,rfl⟩,rfl⟩;refine ZM ?_;refine Z_6 ?_;refine ZSe (λw hi=>HR2 A1 A2 c1 c2 w) ?_;refine rj ?_;refine bW rfl ((by rw[hrh];rfl)) ?_;refine Z_4 ?_;refine ZM ?_;refine Z_4 ?_;refine bP ([row b6 (pY ⟨s,0,false,U,d⟩ ⟨A1,c1,A2,c2⟩) 186,slD s A1 c1,slR s A2 c2]++ubF bu bb L D Y U d) Zj ?_;refine mi (cs':=([slD s A1 c1,slR s A2 c2]++ubF bu bb L D Y U d)) (.inl rfl) Zu rfl rfl Zh Zrf Zrf ?_;exact⟨⟨A1,c1,A2,c2⟩,rfl,rfl⟩
 |false=>
  simp only[bz,Bool.not_eq_false']at hrh;obtain⟨hr,hh⟩:=hrh;obtain⟨hd16,hr16,hf15⟩:=St.fits hr;obtain⟨d1,hd1⟩:=Zgn (d.tick s.count);obtain⟨s1,hs1⟩:=Zgn (told s d1);rw[vS (by rw[hr,hh];rfl) hd1 hs1];rw[hd1]at hm;obtain⟨x,hx,hx256⟩:=MF (p:=d1.M5) hm.mask;have HN:=D8 D.bi x d1.M5 d1.mask hx hx256;have HK:=tick_ok D L.bm Y d s.count;rw[hd1]at HK;have hY:=λk h1 h2=>JB (s:=s) (d:=d1) (x:=x) (k:=k) hx h1 h2
  have hN:=told_no (s:=s) (d:=d1) (x:=x) hx;have hlt:=λk (h:pB x=some k)=>low_lt h
  obtain⟨o,ho⟩:=Zgn (pB x);rw[ho]at HN hY hN hlt;have hw1:s1.wf/\s1.d.length<=16/\s1.r.length<=16:=by
   cases hc:(o.isSome&&s.ie)with
   |true=>
    cases o with
    |none=>cases hc
    |some k=>
     have hie:s.ie=true:=hc;rw[<-hs1,hY k rfl hie];exact⟨⟨hwf.vec,hwf.flags,hwf.root,hwf.vec,hwf.pc,gJ _,u0,hwf.count,hwf.d,hwf.r⟩,hd16,hr16⟩
   |false=>rw[<-hs1,hN hc];exact⟨hwf,hd16,hr16⟩
  obtain⟨hwf1,hs16,hq16⟩:=hw1;refine bN func106 rfl ntmps106 rfl hi ?_;refine Z_2 ?_;refine ZO λb3=>?_;refine ZN λb6=>?_
  refine Z_5 ?_;refine ZS (λw hi=>jv s Ad Ar cd cr w (h w hi.Nb)) ?_;rintro _ _ ⟨_,⟨A1,c1,A2,c2,rfl,rfl⟩,rfl⟩;refine ZM ?_;refine Z_6 ?_;refine ZSe (λw hi=>HR2 A1 A2 c1 c2 w) ?_;refine rj ?_;refine dc rfl ((by rw[hr,hh];rfl)) ?_;refine Z_7 ?_;refine ZcM (lm D L.bm Y d) (λw hi hin=>HK w hin) ?_;refine Z_2 ?_;refine da (λX:kb=>[(1,.pointer (some ⟨bu,0,none⟩)),(3,.pointer (some ⟨b3,0,none⟩)),(6,.pointer (some ⟨b6,0,none⟩))]) (λX=>[row b3 (s1.cells (.slice X.Ad s1.d.length X.cd) (.slice X.Ar s1.r.length X.cr)) 47,row b6 (pY ⟨St.zero,0,false,U,d⟩ ⟨none,0,none,0⟩) 186,slD s1 X.Ad X.cd,slR s1 X.Ar X.cr]++ubF bu bb L D Y U d1) (λ_=>True) ?_ ?_
  .refine Z_6 ?_;refine ZSe (λw hi=>HN w (hi.get Zh) (ht w hi.Nb)) ?_;refine ri ?_;refine ZW ?_ ?_<;>intro hc6
   .obtain⟨k,rfl⟩:∃k,o=some k:=(by cases o with|none=>cases hc6|some k=>exact⟨k,rfl⟩);have hk8:=hlt k rfl;obtain rfl:s1=s.M3 ((16+k:Nat):Int) 0:=(by rw[<-hs1];exact hY k rfl hc6);refine Z_3 ?_;refine Zy (df (Zv rfl) (Zv rfl) (show _=((16+k:Nat):Int)from by rw[bF _ ⟨by show -9223372036854775808<=(16:Int)+((k:Nat):Int);omega,by show(16:Int)+((k:Nat):Int)<=9223372036854775807;omega⟩];show(16:Int)+((k:Nat):Int)=_;omega)) ?_;refine ZS (λw hi=>qb s A1 A2 c1 c2 ((16+k:Nat):Int) 0 w (hi.NM (show Has _ (slD s A1 c1)from Zh) (show Has _ (slR s A2 c2)from Zh) Wq1 Wq1)) ?_;rintro _ _ ⟨_,⟨A3,c3,A4,c4,rfl,rfl⟩,rfl⟩;refine ZM ?_;refine Zn ?_;refine bX ((⟨A3,c3,A4,c4⟩:kb)) ?_ ?_ ?_
    .trivial
    .exact Zwk
    exact Zj
   obtain rfl:s1=s:=(by rw[<-hs1];exact hN hc6);refine Zc ?_;refine bX ((⟨A1,c1,A2,c2⟩:kb)) ?_ ?_ ?_
   .trivial
   .exact Zwk
   exact Zj
  rintro⟨A5,c5,A6,c6⟩ -;clear hY hN hs1;obtain⟨pc,dd,rr,fl,su,pg,ie,rt,ve,ep,ca,ad,es,ei,co,ha⟩:=s1;obtain⟨pcN,rfl⟩:∃m:Nat,pc=m:=ar hwf1.pc.1;obtain⟨rtN,rfl⟩:∃m:Nat,rt=m:=ar hwf1.root.1;have hpc2:=hwf1.pc.2;have hrt2:=hwf1.root.2;dsimp only at hpc2 hrt2 hs16 hq16;have HP:=oV bu bb L U hT ⟨pg,su,rtN⟩ (show rtN<=4294967295 by omega) pcN Wq1 1;have hgo:mf L.n ⟨pcN,dd,rr,fl,su,pg,ie,rtN,ve,ep,ca,ad,es,ei,co,ha⟩ U d1=(bif(cP L.n U ⟨pg,su,rtN⟩ pcN 1).1.2.MR !=0 then⟨St.M3 (St.next ⟨pcN,dd,rr,fl,su,pg,ie,rtN,ve,ep,ca,ad,es,ei,co,ha⟩) (cP L.n U ⟨pg,su,rtN⟩ pcN 1).1.2.MR (cP L.n U ⟨pg,su,rtN⟩ pcN 1).1.2.addr,0,false,(cP L.n U ⟨pg,su,rtN⟩ pcN 1).2,d1⟩else⟨⟨pcN,dd,rr,fl,su,pg,ie,rtN,ve,ep,ca,ad,es,ei,co,ha⟩,(cP L.n U ⟨pg,su,rtN⟩ pcN 1).1.1,true,(cP L.n U ⟨pg,su,rtN⟩ pcN 1).2,d1⟩):=rfl;obtain⟨⟨⟨pl,⟨tc,ta⟩⟩,U1⟩,hq⟩:=Zgn (cP L.n U ⟨pg,su,rtN⟩ pcN 1);rw[hq]at HP hgo;dsimp only at hgo;rw[hgo];refine gR ?_;refine ZcM (uF bu bb L U) (λw hi hin=>HP w hin) ?_;refine Z_3 ?_;refine ZN λb10=>?_
  refine ZA ?_;refine ZM ?_;refine dS ?_;refine ZW ?_ ?_<;>intro hc9
  .rw[hc9,ac];refine Z_4 ?_;refine Zy (df Zv0 Zv0 rfl) ?_;refine Z_1 ?_;refine ZL ?_;refine Z_9 ?_;refine ZS (λw hi=>qb (St.next ⟨pcN,dd,rr,fl,su,pg,ie,rtN,ve,ep,ca,ad,es,ei,co,ha⟩) A5 A6 c5 c6 tc ta w (hi.NM (show Has _ (sl .u32 25 A5 dd.length c5 dd)from Zh) (show Has _ (sl .u32 25 A6 rr.length c6 rr)from Zh) (show dd.length*4<=_ by omega) (show rr.length*4<=_ by omega))) ?_;rintro _ _ ⟨_,⟨A7,c7,A8,c8,rfl,rfl⟩,rfl⟩;refine ZA ?_;refine ZM ?_;refine Z_4 ?_;refine bP ([row b6 (pY ⟨St.M3 (St.next ⟨pcN,dd,rr,fl,su,pg,ie,rtN,ve,ep,ca,ad,es,ei,co,ha⟩) tc ta,0,false,U1,d1⟩ ⟨A7,c7,A8,c8⟩) 186,sl .u32 25 A7 dd.length c7 dd,sl .u32 25 A8 rr.length c8 rr]++ubF bu bb L D Y U1 d1) Zj ?_;refine mi (cs':=([sl .u32 25 A7 dd.length c7 dd,sl .u32 25 A8 rr.length c8 rr]++ubF bu bb L D Y U1 d1)) (.inl rfl) Zu rfl rfl Zh Zrf Zrf ?_;exact⟨⟨A7,c7,A8,c8⟩,rfl,rfl⟩
  rw[hc9,aa];refine Z_7 ?_;refine ZM ?_;refine Z_3 ?_;refine bP ([row b6 (pY ⟨⟨pcN,dd,rr,fl,su,pg,ie,rtN,ve,ep,ca,ad,es,ei,co,ha⟩,pl,true,U1,d1⟩ ⟨A5,c5,A6,c6⟩) 186,sl .u32 25 A5 dd.length c5 dd,sl .u32 25 A6 rr.length c6 rr]++ubF bu bb L D Y U1 d1) Zj ?_;refine mi (cs':=([sl .u32 25 A5 dd.length c5 dd,sl .u32 25 A6 rr.length c6 rr]++ubF bu bb L D Y U1 d1)) (.inl rfl) Zu rfl rfl Zh Zrf Zrf ?_;exact⟨⟨A5,c5,A6,c6⟩,rfl,rfl⟩
end Go.Proofs.YtkegldppffignaaGreatDoor
namespace Go.Ink
open Go.RowKit
section
variable {C:Cx} {fr:Fr} {d:Option Nat} {T:TypeId} {x:Operand} {ty:TypeId} {pos:String} {af:Array Edge} {gd:Option (Nat×Bool)} {g:Bool}
theorem lM{i:Nat}{fs:Array Field}{f:Field}{vs:List Value}{v:Value}(hT:C.P.underlying T=some (.struct fs))(hf:fs[i]? =some f)(he:∀w,(isAgg f.type).run C.P w= .ok false w)(hx:Ev fr g x (.agg vs.toArray))(hv:vs[f.offset]? =some v):
  OpY C ⟨d,.field T x i,ty,pos,af,gd⟩ fr g Any v:=λa w hfr _ hg=>by
 have h1:=hx.eval hfr hg;have hr:(Instr.field T (.agg vs.toArray) i).run C.P w= .ok v w:=by
  simp[Instr.field,run_underlying hT,hf,asAgg,part,he,hv]
 simp[execOp,h1,hr]
end
structure nu(L:fu)(k:zL):Prop where
 pl:dF k.B k.ow k.pr
 fr:k.fr.length=L.n
 gd:k.gd.length=L.n
 MY:∀p,p<L.n->k.fr[p]? =some (-1)\/∃f:Nat,k.fr[p]? =some (f:Int)/\16<=f/\f<256/\k.ow[f]? =some (L.o:Int)
 inj:∀p q f:Nat,k.fr[p]? =some (f:Int)->k.fr[q]? =some (f:Int)->p=q
 held:∀f:Nat,f<256->(L.oth f=false/\k.ow[f]? =some (-1))\/(L.oth f=false/\k.ow[f]? =some (L.o:Int)/\∃p:Nat,k.fr[p]? =some (f:Int))\/(L.oth f=true/\k.ow[f]? =L.gw[f]? /\∀j,j<64->k.B[f*64+j]? =L.gB[f*64+j]?)
 prs:k.pr=L.gp
section
variable {L:fu} {M:Mem} {k:zL}
theorem eI.tab(h:eI L M k):nu L k:=⟨h.pl,h.fr,h.gd,λp hp=>by
 rcases h.MY p hp with h1|⟨f,h1,h2,h3,h4, -⟩
 .exact .inl h1.1
 exact .inr ⟨f,h1,h2,h3,h4⟩,h.inj,h.held,h.prs⟩
theorem nu.unmap(h:nu L k){p f:Nat}(hf:k.fr[p]? =some (f:Int)):(16<=f/\f<256/\k.ow[f]? =some (L.o:Int))/\nu L {k with ow:=k.ow.set f (-1),fr:=k.fr.set p (-1),gd:=k.gd.set p false}:=by
 have hpl:p<L.n:=by have:=(au.1 hf).1;rw[h.fr]at this;exact this
 have hr:16<=f/\f<256/\k.ow[f]? =some (L.o:Int):=by
  rcases h.MY p hpl with h1|⟨g,h1,h2⟩
  .rw[hf]at h1;have:=ay h1;omega
  rw[hf]at h1;obtain rfl:g=f:=by have:=ay h1;omega
  exact h2
 obtain⟨h16,h256,how⟩:=hr;have hwl:=h.pl.ow;have hfl:=h.fr;refine⟨⟨h16,h256,how⟩,⟨h.pl.b,by rw[aC];exact h.pl.ow,h.pl.pr⟩,by show(k.fr.set _ _).length=_;rw[aC];exact h.fr,by show(k.gd.set _ _).length=_;rw[aC];exact h.gd,λq hq=>?_,λa b g ha hb=>?_,λg hg=>?_,h.prs⟩
 .show(k.fr.set p (-1))[q]? =some (-1)\/∃g:Nat,(k.fr.set p (-1))[q]? =some (g:Int)/\16<=g/\g<256/\(k.ow.set f (-1))[g]? =some (L.o:Int);by_cases hqp:q=p
  .subst hqp;left;rw[List.getElem?_set_self Wq1]
  rw[aX Wq1];rcases h.MY q hq with h1|⟨g,h1,h2,h3,h4⟩
  .exact .inl h1
  have hgf:f≠g:=by rintro rfl;exact hqp (h.inj q p f h1 hf)
  exact .inr ⟨g,h1,h2,h3,by rw[aX hgf];exact h4⟩
 .change (k.fr.set p (-1))[a]? =_ at ha
  change (k.fr.set p (-1))[b]? =_ at hb
  have no:∀c:Nat,(k.fr.set p (-1))[c]? =some (g:Int)->p≠c:=by
   rintro c hc rfl;rw[List.getElem?_set_self Wq1]at hc;have:=ay hc;omega
  rw[aX (no a ha)]at ha;rw[aX (no b hb)]at hb;exact h.inj a b g ha hb
 show(_/\(k.ow.set f (-1))[g]? =some (-1))\/(_/\(k.ow.set f (-1))[g]? =some (L.o:Int)/\∃q:Nat,(k.fr.set p (-1))[q]? =some (g:Int))\/(_/\(k.ow.set f (-1))[g]? =_/\_);by_cases hgf:f=g
 .subst hgf;left;refine⟨?_,by rw[List.getElem?_set_self Wq1]⟩;rcases h.held f hg with h1|h1|⟨h1,h2, -⟩
  .exact h1.1
  .exact h1.1
  rw[fu.oth,<-h2,how]at h1;simp at h1
 rw[aX hgf];rcases h.held g hg with h1|⟨h1,h2,q,hq⟩|h1
 .exact .inl h1
 .refine .inr (.inl ⟨h1,h2,q,?_⟩);have:p≠q:=by
   rintro rfl;rw[hf]at hq;have:=ay hq;omega
  rw[aX this];exact hq
 exact .inr (.inr h1)
theorem nu.none(h:nu L k)(hall:∀p:Nat,p<L.n->k.fr[p]? =some (-1))(hl:L.gw.length=256)(hno:∀x,x∈L.gw->x≠(L.o:Int)):k.ow=L.gw/\∀f,f<256->L.oth f=true->∀j,j<64->k.B[f*64+j]? =L.gB[f*64+j]? :=by
 have hfr:∀(p f:Nat),k.fr[p]? ≠some (f:Int):=λp f hp=>by
  have hpl:=(au.1 hp).1;rw[h.fr]at hpl;rw[hall p hpl]at hp;have:=ay hp;omega
 refine⟨List.ext_getElem? λf=>?_,λf hf ho=>?_⟩
 .by_cases hf:f<256
  .rcases h.held f hf with⟨h1,h2⟩|⟨-, -,q,hq⟩|⟨-,h2, -⟩
   .have hx:=ai (l:=L.gw) (i:=f) Wq1;have hn:=hno _ (List.getElem_mem (l:=L.gw) (n:=f) Wq1);rw[fu.oth,hx]at h1;rw[h2,hx];by_cases e:L.gw[f]= -1
    .rw[e]
    simp[e,hn]at h1
   .exact absurd hq (hfr q f)
   exact h2
  rw[List.getElem?_eq_none (by rw[h.pl.ow];omega),List.getElem?_eq_none Wq1]
 rcases h.held f hf with⟨h1, -⟩|⟨h1, -⟩|⟨-, -,h3⟩
 .rw[h1]at ho;cases ho
 .rw[h1]at ho;cases ho
 exact h3
end
def xH(fr:List Int)(k:Nat):List Nat:=(List.range k).filter (λp=> !(fr[p]? ==some (-1)))
def iO(fr:List Int)(k:Nat):List Int:=(xH fr k).map λp:Nat=>(p:Int)
theorem DX(fr:List Int)(k:Nat):iO fr (k+1)=iO fr k++(bif fr[k]? ==some (-1)then[]else[(k:Int)]):=by
 unfold iO xH;rw[List.range_succ,List.filter_append,List.map_append];congr 1;cases h:(fr[k]? ==some (-1))<;>simp[h]
theorem Ca(fr:List Int)(k:Nat):(iO fr k).length<=k:=by
 unfold iO xH;rw[List.length_map];exact aW (List.length_filter_le _ _) cE
theorem DY(fr:List Int)(k:Nat):(xH fr k).Nodup:=List.filter_sublist.nodup List.nodup_range
theorem Cb{fr:List Int}{k p:Nat}:p∈xH fr k<->p<k/\fr[p]? ≠some (-1):=by
 unfold xH;rw[List.mem_filter,List.mem_range];simp
theorem AV{ow:List Int}{o:Int}(h:∀x,x∈ow->x≠o)(k:Nat):fC ow o k=[]:=by
 unfold fC;rw[List.map_eq_nil_iff,List.filter_eq_nil_iff];intro f _ hf;exact h o (aD (eq_of_beq hf)) rfl
structure kZ(L:fu)(k0 k:zL)(j:Nat):Prop where
 rep:nu L k
 fr:∀p:Nat,k.fr[p]? =if p∈(xH k0.fr L.n).take j then some (-1)else k0.fr[p]?
theorem kZ.none{L:fu}{k:zL}(h:nu L k):kZ L k k 0:=⟨h,λp=>by simp⟩
theorem kZ.at_{L:fu}{k0 k:zL}{j p:Nat}(h:kZ L k0 k j)(h0:nu L k0)(hp:(xH k0.fr L.n)[j]? =some p):p<L.n/\∃f:Nat,k.fr[p]? =some (f:Int)/\16<=f/\f<256/\k.ow[f]? =some (L.o:Int)/\kZ L k0 {k with ow:=k.ow.set f (-1),fr:=k.fr.set p (-1),gd:=k.gd.set p false} (j+1):=by
 have hm:=Cb.1 (aD hp);have hjl:=(au.1 hp).1;have hnt:p∉(xH k0.fr L.n).take j:=λhc=>by
  obtain⟨i,hi⟩:=List.mem_iff_getElem?.1 hc;rw[List.getElem?_take]at hi;split at hi
  .rename_i hij
   have e1:=au.1 hi;have e2:=au.1 hp;have:=(List.getElem_inj (DY k0.fr L.n)).1 (e1.2.trans e2.2.symm);omega
  cases hi
 have e:=h.fr p;rw[if_neg hnt]at e;rcases h0.MY p hm.1 with h1|⟨f,h1, -⟩
 .exact absurd h1 hm.2
 rw[h1]at e;obtain⟨⟨a1,a2,a3⟩,hu⟩:=h.rep.unmap e;refine⟨hm.1,f,e,a1,a2,a3,hu,λq=>?_⟩;show(k.fr.set p (-1))[q]? =_;rw[List.take_add_one,hp];by_cases hqp:p=q
 .subst hqp;rw[List.getElem?_set_self (by have:=h.rep.fr;omega),if_pos cE]
 rw[aX hqp,h.fr q];have:(q∈List.take j (xH k0.fr L.n)++(some p).toList)=(q∈List.take j (xH k0.fr L.n)):=by simp[Ne.symm hqp]
 simp only[this]
theorem kZ.all{L:fu}{k0 k:zL}(h:kZ L k0 k (xH k0.fr L.n).length)(h0:nu L k0):∀p:Nat,p<L.n->k.fr[p]? =some (-1):=λp hp=>by
 have e:=h.fr p;rw[bn]at e;rw[e];split
 .rfl
 rename_i hn
 rw[Cb]at hn;exact Classical.byContradiction λhc=>hn ⟨hp,hc⟩
def qD(ow:List Int)(k:Nat):Nat:=((List.range' 16 (k - 16)).filter (λf=>ow[f]? ==some (-1))).length
theorem Ej(ow:List Int){k:Nat}(h:16<=k):qD ow (k+1)=qD ow k+(bif ow[k]? ==some (-1)then 1 else 0):=by
 unfold qD;rw[show k+1 - 16=(k - 16)+1 by omega,List.range'_concat,List.filter_append,ae,show 16+1*(k - 16)=k by omega];congr 1;cases hx:(ow[k]? ==some (-1))<;>simp[hx]
theorem Le(ow:List Int)(k:Nat):qD ow k<=k:=by
 unfold qD;exact aW (List.length_filter_le _ _) (by rw[List.length_range'];omega)
theorem ctr_O{P:Program}{f:FuncId}{args:List Value}{w:World}{α:Type}{bs:List Nat}{F:α->List bL}{hb:∀a,bM (F a)=bs}{p:α->Prop}{K:Value->List bL->Prop}
  (hi:Inv w (bM [exC bs F hb p]) [exC bs F hb p] w) (h:∀a,p a->Inv w (bM (F a)) (F a) w->Ctr P f args w (F a) K):Ctr P f args w [exC bs F hb p] K:=by
 obtain⟨a,h1,h2⟩:=hi.NV;have e:bM [exC bs F hb p]=bM (F a):=by rw[eN,vP,az,hb a];rfl
 rw[az,e]at h2;refine Calls.mono (h a h1 h2) ?_;rintro en w' ⟨v,cout,rfl,hk,hi'⟩;exact⟨v,cout,rfl,hk,by rw[e];exact hi'⟩
def lC(ow:List Int)(fs:List Int)(k:Nat):List Int:=(fs.take k).foldl (λa f=>a.set f.toNat (-1)) ow
theorem tK{ow fs:List Int}{k:Nat}{f:Int}(h:fs[k]? =some f):lC ow fs (k+1)=(lC ow fs k).set f.toNat (-1):=by
 unfold lC;rw[List.take_add_one,h,List.foldl_append]
 rfl
theorem vD(ow fs:List Int):∀k,(lC ow fs k).length=ow.length
 |0=>by simp[lC]
 |k+1=>by
  have ih:=vD ow fs k;cases h:fs[k]? with
  |none=>
   unfold lC at ih|-;rw[List.take_add_one,h,Option.toList_none,az];exact ih
  |some f=>rw[tK h,aC,ih]
end Go.Ink
namespace Go.Proofs.YtkegldppffignaaGreatDoor
open Go.RowKit Go.Ink Go.Proofs.Tryz
attribute [local irreducible] OpY bS
theorem B4(bp:Nat)(B ow pr:List Int)(hl:dF B ow pr)(o:Nat)(ho:o<4)(A:Option Addr)(c:Nat)(fs:List Int)(hf:∀(j:Nat) (f:Int),fs[j]? =some f->∃g:Nat,f=(g:Int)/\16<=g/\g<256/\ow[g]? =some (o:Int)/\(fs.take j).contains f=false)(w:World)
  (hi:Inv w (bM [dj bp B ow pr]) [dj bp B ow pr] w) (hrd:∀w',dG (bM [dj bp B ow pr]) w w'->Rd w' .i64 A fs.length c fs):
  Ctr prog 91 [.pointer (some ⟨bp,0,none⟩),.int .i64 o,.slice A fs.length c] w [dj bp B ow pr] (λv cs=>v= .int .i64 0/\cs=[dj bp B (lC ow fs fs.length) pr]):=by
 have hrw:=hrd w (dG.refl _ _);have hcap:=hrw.cap;have hmx:=hrw.max;simp only[maxLen]at hmx;have hl':∀k,dF B (lC ow fs k) pr:=λk=>⟨hl.b,by rw[vD];exact hl.ow,hl.pr⟩
 refine bN func91 rfl ntmps91 rfl hi ?_;refine Z_9 ?_;refine ZSe (λw hi=>tP o w) ?_;rw[ax (show(0:Int)<=o by omega),ax (show(o:Int)<4 by omega)];refine Z_3 ?_;refine fS ?_;refine fE ?_;refine cq (λk:Nat=>[(0,.pointer (some ⟨bp,0,none⟩)),(1,.int .i64 o),(2,.slice A fs.length c),(14,.slice A fs.length c),(15,.int .i64 (fs.length:Int)),(16,.int .i64 (k:Int))]) (λ_=>[dj bp B ow pr]) (λk=>k<=fs.length) (λk=>fs.length - k) (0) ?_ ?_ ?_ ?_
 .exact aq _
 .exact Zwk
 .exact Zu
 rintro k hk;refine Z_6 ?_;refine ZW ?_ ?_<;>intro hc4
 .simp only[aj]at hc4;have hkl:k<fs.length:=Wq1;obtain⟨ad,rfl⟩:=hrw.some_ Wq1;have hx:=ai hkl;obtain⟨x,hxx⟩:=Zgn (fs[k]'hkl);rw[hxx]at hx;obtain⟨g,rfl,h16,h256,how,hcn⟩:=hf k x hx;have hlk:(fs.take k).length=k:=List.length_take_of_le hk;have HC:=oA (some ad) c (fs.take k) g;have hrt:=λw' hk'=>jo (hrd w' hk') k
  rw[hlk]at HC hrt;refine Z_7 ?_;refine uR ?_;refine dN (bQ Zrf Zv0) (pv hrd (cR hx)) rfl ?_;refine Z_7 ?_;refine ZSe (λw hi=>Cu g w) ?_;rw[ax (show(16:Int)<=g by omega),ax (show(g:Int)<256 by omega)];refine Z_5 ?_;refine ZFb 16384 ?_;refine Zyn rfl rfl (cX (j:=g) (sz:=1) (r:=16384+g) rfl Zrf (dh rfl) (dh rfl) Wq4 Wq4 Wq1) ?_;refine iu (cy rfl rfl) (bQ Zrf (dh rfl)) (cu Zh (qp hl how)) rfl ?_;refine ZB ?_;refine Zyn rfl rfl (y_neq (dh rfl) (dh rfl) (show((o:Int) !=(o:Int))=false from by simp)) ?_;refine Z_4 ?_;refine Zyn rfl rfl (ge k rfl Zrf (dh rfl) (dh rfl) (λ_=>by first|rfl|omega) Wq4) ?_;refine ZB ?_;refine fF (cy rfl rfl) rfl (cU rfl (λ_ _=>rfl) (λw hi=>HC w (hrt w hi.Nb))) rfl ?_;rintro _ _ ⟨_,⟨rfl,rfl⟩,rfl⟩;rw[hcn];refine Z_3 ?_;refine fS ?_;refine Z_4 ?_;refine Wq8 ?_;refine dW (k+1) ?_ ?_ ?_
  .exact⟨by omega,by omega⟩
  .exact Zwk
  exact Zu
 simp only[ah]at hc4;obtain rfl:fs.length=k:=Wq1;refine Z_8 ?_;rw[show ow=lC ow fs 0 from rfl];refine Z_6 ?_;refine cq (λk:Nat=>[(0,.pointer (some ⟨bp,0,none⟩)),(42,.slice A fs.length c),(43,.int .i64 (fs.length:Int)),(44,.int .i64 (k:Int))]) (λk=>[dj bp B (lC ow fs k) pr]) (λk=>k<=fs.length) (λk=>fs.length - k) (0) ?_ ?_ ?_ ?_
 .exact aq _
 .exact Zwk
 .exact Zu
 rintro k hk;refine Z_6 ?_;refine ZW ?_ ?_<;>intro hc10
 .simp only[aj]at hc10;have hkl:k<fs.length:=Wq1;obtain⟨ad,rfl⟩:=hrw.some_ Wq1;have hx:=ai hkl;obtain⟨x,hxx⟩:=Zgn (fs[k]'hkl);rw[hxx]at hx;obtain⟨g,rfl,h16,h256,how,hcn⟩:=hf k x hx;have hsu:lC ow fs (k+1)=(lC ow fs k).set g (-1):=(by rw[tK hx,aP]);refine Z_6 ?_;refine uR ?_;refine dN (bQ Zrf Zv0) (pv hrd (cR hx)) rfl ?_;refine Z_7 ?_;refine ZFa 16384 ?_;refine Zy (cX (j:=g) (sz:=1) (r:=16384+g) rfl Zrf (Zv rfl) (Zv rfl) Wq4 Wq4 Wq1) ?_;refine dH (eK Zrf rfl rfl rfl Za (by rw[fx (hl' k)];omega)) ?_;rintro _ _ ⟨rfl,rfl⟩;rw[qo (hl' k) (show g<256 by omega),<-hsu];refine Z_4 ?_;refine Wq8 ?_;refine dW (k+1) ?_ ?_ ?_
  .exact⟨by omega,by omega⟩
  .exact Zwk
  exact Zu
 simp only[ah]at hc10;obtain rfl:fs.length=k:=Wq1;refine fE ?_;refine Zrb ([row _ _ _]) ?_;exact de
theorem Ko(bp:Nat)(B ow pr:List Int)(hl:dF B ow pr)(o:Nat)(ho:o<4)(hno:∀x,x∈ow->x≠(o:Int))(w:World)(hi:Inv w (bM [dj bp B ow pr]) [dj bp B ow pr] w):
  Ctr prog 59 [.pointer (some ⟨bp,0,none⟩),.int .i64 o] w [dj bp B ow pr] (λv cs=>v= .int .i64 0/\cs=[dj bp B ow (pr.set o (-1))]):=by
 have he:=AV hno 256;refine bN func59 rfl ntmps59 rfl hi ?_;refine Z_9 ?_;refine ZSe (λw hi=>tP o w) ?_;rw[ax (show(0:Int)<=o by omega),ax (show(o:Int)<4 by omega)];refine Z_3 ?_;refine fS ?_;refine Z_6 ?_;refine ZS (λw hi=>AU bp B ow pr hl o ho w (hi.get Zh)) ?_;rintro _ _ ⟨_,⟨A1,c1,rfl,rfl⟩,rfl⟩;rw[he];refine Z_8 ?_;refine ZcM ([dj bp B ow pr]) (λw hi hin=>B4 bp B ow pr hl o ho A1 c1 [] (λj f h=>by simp at h) w hin (λw' hk=>hi.NE Zi (show Has _ (sl .i64 3 A1 0 c1 [])from Zh) hk)) ?_;rw[show lC ow [] ([]:List Int).length=ow from rfl];refine Z_7 ?_;refine ZFa 16640 ?_;refine Zy (cX (j:=o) (sz:=1) (r:=16640+o) rfl Zrf (Zv rfl) (Zv rfl) Wq4 Wq4 Wq1) ?_;refine dH (eK Zrf rfl rfl rfl Za (by rw[fx hl];omega)) ?_;rintro _ _ ⟨rfl,rfl⟩;rw[qn hl];refine dS ?_;refine Zrb ([row _ _ _]) ?_;exact de
theorem mL(bp:Nat)(B ow pr:List Int)(hl:dF B ow pr)(o:Nat)(ho:o<4)(n:Int)(hn:pr[o]? =some n)(w:World)(hp:(dj bp B ow pr).ok w):
  Ctr prog 25 [.pointer (some ⟨bp,0,none⟩),.int .i64 o] w [] (λv cs=>v= .int .i64 (if 0>n then 0 else n)/\cs=[]):=by
 refine bN func25 rfl ntmps25 rfl (Inv.start w) ?_;refine Z_9 ?_;refine ZSe (λw hi=>tP o w) ?_;rw[ax (show(0:Int)<=o by omega),ax (show(o:Int)<4 by omega)];refine Z_3 ?_;refine fS ?_;refine Z_7 ?_;refine ZFa 16640 ?_;refine Zy (cX (j:=o) (sz:=1) (r:=16640+o) rfl Zrf (Zv rfl) (Zv rfl) Wq4 Wq4 Wq1) ?_;refine dN (bQ Zrf Zv0) (dy hp (w7 hl hn)) rfl ?_;refine Zy (sd Zv0 Zv0 rfl) ?_;refine Z_4 ?_;refine Zra ?_;exact de
theorem Kn(bp:Nat)(B ow pr:List Int)(hl:dF B ow pr)(w:World)(hp:(dj bp B ow pr).ok w):
  Ctr prog 29 [.pointer (some ⟨bp,0,none⟩)] w [] (λv cs=>v= .int .i64 (qD ow 256:Nat)/\cs=[]):=by
 refine bN func29 rfl ntmps29 rfl (Inv.start w) ?_;refine xF ?_;refine cq (λk:Nat=>[(0,.pointer (some ⟨bp,0,none⟩)),(3,.int .i64 (qD ow k:Nat)),(4,.int .i64 (k:Int))]) (λ_=>[]) (λk=>16<=k/\k<=256) (λk=>256 - k) (16) ?_ ?_ ?_ ?_
 .exact⟨aM _,by omega⟩
 .exact Zwk
 .exact Zu
 rintro k ⟨hk1,hk2⟩;have hle:=Le ow k;have hsu:=Ej ow hk1;refine Z_7 ?_;refine ZW ?_ ?_<;>intro hc3
 .simp only[aj]at hc3;have hkl:k<ow.length:=(by rw[hl.ow];omega);have hok:=ai hkl;obtain⟨x,hxx⟩:=Zgn (ow[k]'hkl);rw[hxx]at hok;rw[hok,show(some x==some (-1:Int))=(x== -1)from rfl]at hsu;refine Z_9 ?_;refine ZFa 16384 ?_;refine Zy (cX (j:=k) (sz:=1) (r:=16384+k) rfl Zrf (Zv rfl) (Zv rfl) Wq4 Wq4 Wq1) ?_;refine dN (bQ Zrf Zv0) (dy hp (qp hl hok)) rfl ?_;refine Z_3 ?_;refine ZW ?_ ?_<;>intro hc5
  .rw[show(x== -1)=true from hc5,ac]at hsu;refine Z_2 ?_;refine Zy (df (Zv rfl) (Zv rfl) (show _=((qD ow (k+1):Nat):Int)from by rw[bF _ ⟨by omega,by omega⟩];omega)) ?_;refine Z_6 ?_;refine Wq8 ?_;refine dW (k+1) ?_ ?_ ?_
   .exact⟨⟨by omega,by omega⟩,by omega⟩
   .exact Zwk
   exact Zu
  rw[show(x== -1)=false from hc5,aa]at hsu;refine Z_5 ?_;refine Wq8 ?_;rw[show qD ow k=qD ow (k+1) by omega];refine dW (k+1) ?_ ?_ ?_
  .exact⟨⟨by omega,by omega⟩,by omega⟩
  .exact Zwk
  exact Zu
 simp only[ah]at hc3;obtain rfl:k=256:=Wq1;refine gR ?_;refine Zra ?_;exact de
theorem Du(bt bp o bf bg n:Nat)(hn:n<=64)(fr:List Int)(hfr:fr.length=n)(w:World)(h:(iW bt bp o bf bg n).ok w)(h2:(frC bf n fr).ok w):
  Ctr prog 89 [.pointer (some ⟨bt,0,none⟩)] w [] (λv cs=>∃A c,v= .slice A (iO fr n).length c/\cs=[sl .i64 3 A (iO fr n).length c (iO fr n)]):=by
 have hrd:=iB h2;refine bN func89 rfl ntmps89 rfl (Inv.start w) ?_;refine jd ?_;refine dC 3 1 ?_;refine Z_3 ?_;refine uv ?_;refine Z_5 ?_;refine cq (λs:Nat×Option Addr×Nat=>[(3,.slice s.2.1 (iO fr s.1).length s.2.2),(9,.slice (some ⟨bf,0,none⟩) n n),(10,.int .i64 (n:Int)),(11,.int .i64 (s.1:Int))]) (λs=>[sl .i64 3 s.2.1 (iO fr s.1).length s.2.2 (iO fr s.1)]) (λs=>s.1<=n) (λs=>n - s.1) ((0,none,0)) ?_ ?_ ?_ ?_
 .exact aq _
 .exact Zwk
 .exact Zu
 rintro⟨k,A1,c1⟩ hk;simp only at hk;dsimp only;refine Z_6 ?_;refine ZW ?_ ?_<;>intro hc3
 .simp only[aj]at hc3;have hkl:k<fr.length:=Wq1;have hok:=ai hkl;obtain⟨x,hxx⟩:=Zgn (fr[k]'hkl);rw[hxx]at hok;have hle:=Ca fr k;have hsu:=DX fr k;rw[hok,show(some x==some (-1:Int))=(x== -1)from rfl]at hsu;refine Z_7 ?_;refine uR ?_;refine dN (bQ Zrf Zv0) (eo hrd (cR hok)) rfl ?_;refine dS ?_;refine ZW ?_ ?_<;>intro hc5
  .have he:iO fr (k+1)=iO fr k++[(k:Int)]:=(by have e:(x== -1)=false:=(by have h5:(!(x== -1))=true:=hc5;revert h5;cases(x== -1)<;>simp);rw[hsu,e,aa]);refine Z_3 ?_;refine jO ?_;rintro _ _ ⟨b20,rfl,rfl⟩;refine gj (cD (e:=3) (sz:=1) (bytes:=8) rfl rfl Za rfl rfl (λw hi=>hi.rd Zh) (jA rfl) gS Wq1) rfl ?_;rintro _ _ ⟨A2,c2,rfl,rfl⟩;rw[show(iO fr k).length+1=(iO fr (k+1)).length by(rw[he];simp),show ints .i64 (iO fr k)++[Value.int .i64 (k:Int)]=ints .i64 (iO fr (k+1)) by(rw[he];exact cj _ [_])];refine Z_5 ?_;refine Wq8 ?_;refine dW ((k+1,A2,c2)) ?_ ?_ ?_
   .exact⟨by show k+1<=n;omega,by show n - (k+1)<n - k;omega⟩
   .exact Zwk
   exact Zu
  have he:iO fr (k+1)=iO fr k:=(by have e:(x== -1)=true:=(by have h5:(!(x== -1))=false:=hc5;revert h5;cases(x== -1)<;>simp);rw[hsu,e,ac,az]);rw[<-he];refine Z_4 ?_;refine Wq8 ?_;refine dW ((k+1,A1,c1)) ?_ ?_ ?_
  .exact⟨by show k+1<=n;omega,by show n - (k+1)<n - k;omega⟩
  .exact Zwk
  exact Zu
 simp only[ah]at hc3;obtain rfl:k=n:=Wq1;refine gR ?_;refine Zrb ([slv _ _ _ _ _ _]) ?_;exact⟨_,_,rfl,rfl⟩
abbrev tpF(L:fu)(k:zL):List bL:=[iW L.bt L.bp L.o L.bf L.bg L.n,frC L.bf L.n k.fr,gdC L.bg L.n k.gd,dj L.bp k.B k.ow k.pr]
theorem Fv(L:fu)(k:zL)(hk:nu L k)(o4:L.o<4)(n64:L.n<=64)(p f:Nat)(hp:p<L.n)(hf:k.fr[p]? =some (f:Int))(w:World)(hi:Inv w (bM (tpF L k)) (tpF L k) w):
  Ctr prog 90 [.pointer (some ⟨L.bt,0,none⟩),.int .i64 p] w (tpF L k) (λv cs=>v= .int .i64 0/\cs=tpF L {k with ow:=k.ow.set f (-1),fr:=k.fr.set p (-1),gd:=k.gd.set p false}):=by
 obtain⟨⟨h16,h256,how⟩,hu⟩:=hk.unmap hf;refine bN func90 rfl ntmps90 rfl hi ?_;refine Z_9 ?_;refine ZSe (λw hi=>ku L.bt L.bp L.o L.bf L.bg L.n p k.fr f hp hf w (hi.get Zh) (hi.get Zh)) ?_;rw[oq];refine gy ?_;refine fS ?_;refine Z_3 ?_;refine bU ⟨λj=>List.elem j [11,13],[]⟩ Zk ?_;refine gO ?_;refine ZFe 2 2 ?_;refine ZG 3 ?_;refine ZE 4 ?_;refine ZE 5 ?_;refine ZE 6 ?_;refine ZFe 7 3 ?_;refine ZG 8 ?_;refine ZE 9 ?_;refine cG 10 rfl Zk Zk Zk (cw (j:=p) (sz:=1) (r:=p) rfl Zrf (Zv rfl) (Zv rfl) Wq4 Wq4 Wq1) rfl ?_;refine cn 11 Zk ?_;refine du rfl rfl (fh Zrf rfl rfl rfl Za Wq1) ZJ ?_;rintro _ _ ⟨rfl,rfl⟩;rw[eh];refine cG 12 rfl Zk Zk Zk (cw (j:=p) (sz:=1) (r:=p) rfl Zrf (Zv rfl) (Zv rfl) Wq4 Wq4 Wq1) rfl ?_;refine cn 13 Zk ?_;refine du rfl rfl (fh Zrf rfl rfl rfl Za Wq1) ZJ ?_;rintro _ _ ⟨rfl,rfl⟩;rw[zu];refine dx ?_;refine Z_2 ?_;refine bU ⟨λj=>List.elem j [10],[]⟩ Zk ?_;refine gO ?_;refine ZFe 2 0 ?_;refine ZG 3 ?_;refine ZE 4 ?_;refine ZE 5 ?_;refine ZFe 6 1 ?_;refine ZG 7 ?_;refine ZE 8 ?_;refine cn 9 Zk ?_;refine xI ?_;rintro _ _ ⟨b36,rfl,rfl⟩;refine cn 10 Zk ?_;refine ZcA ([dj L.bp k.B k.ow k.pr]) (λw hi hin=>B4 L.bp k.B k.ow k.pr hk.pl L.o o4 (some ⟨b36,0,none⟩) 1 [(f:Int)] (λj x hx=>by cases j with|zero=>exact⟨f,(ay hx).symm,h16,h256,how,rfl⟩|succ j=>cases hx) w hin (λw' hk=>hi.NE Zi (show Has _ (sl .i64 3 (some ⟨b36,0,none⟩) 1 1 [(f:Int)])from Zh) hk)) ?_;rintro _ _ ⟨_,⟨rfl,rfl⟩,rfl⟩;refine dx ?_;refine Z_7 ?_;refine bP (tpF L {k with ow:=k.ow.set f (-1),fr:=k.fr.set p (-1),gd:=k.gd.set p false}) Zj ?_;refine Zrb ([row _ _ _,slv _ _ _ _ _ _,slv _ _ _ _ _ _,row _ _ _]) ?_;exact de
theorem Gg(L:fu)(M:Mem)(hl:L.gw.length=256)(hno:∀x,x∈L.gw->x≠(L.o:Int))(w:World)(hi:Inv w (bM [eA L M]) [eA L M] w):
  Ctr prog 58 [.pointer (some ⟨L.bm,0,none⟩)] w [eA L M] (λ_ cs=>∃B,(dF B L.gw L.gp/\∀f,f<256->L.oth f=true->∀j,j<64->B[f*64+j]? =L.gB[f*64+j]?)/\cs=[dj L.bp B L.gw L.gp]):=by
 refine ctr_O hi λk hk hi=>?_
 have n64:=hk.n64;have o4:=hk.o4;have hfr:=hk.fr;have htl:=hk.tl;have hml:(iO k.fr L.n).length=(xH k.fr L.n).length:=List.length_map _;have hmt:=Ca k.fr L.n;refine bN func58 rfl ntmps58 rfl hi ?_;unfold DU;refine Z_7 ?_;refine ZS (λw hi=>Du L.bt L.bp L.o L.bf L.bg L.n n64 k.fr hfr w (hi.get Zh) (hi.get Zh)) ?_;rintro _ _ ⟨_,⟨A1,c1,rfl,rfl⟩,rfl⟩;refine ZA ?_;refine iT (sl .i64 3 A1 (iO k.fr L.n).length c1 (iO k.fr L.n)::sZ L M.MS::tpF L k) Zj ?_;refine Z_4 ?_;refine cq (λq:Nat×zL=>[(0,.pointer (some ⟨L.bm,0,none⟩)),(8,.slice A1 (iO k.fr L.n).length c1),(9,.int .i64 ((iO k.fr L.n).length:Int)),(10,.int .i64 (q.1:Int))]) (λq=>sl .i64 3 A1 (iO k.fr L.n).length c1 (iO k.fr L.n)::sZ L M.MS::tpF L q.2) (λq=>kZ L k q.2 q.1/\q.1<=(xH k.fr L.n).length) (λq=>(xH k.fr L.n).length - q.1) ((⟨0,k⟩:Nat×zL)) ?_ ?_ ?_ ?_
 .exact⟨.none hk.tab,aq _⟩
 .exact Zwk
 .exact Zu
 rintro⟨j,k'⟩ ⟨hU,hj⟩;dsimp only at hU hj|-;refine Z_6 ?_;refine ZW ?_ ?_<;>intro hc1
 .simp only[aj]at hc1;have hjl:j<(xH k.fr L.n).length:=Wq1;have hp:=ai hjl;obtain⟨p,hpp⟩:=Zgn ((xH k.fr L.n)[j]'hjl);rw[hpp]at hp;obtain⟨hpn,f,hf,h16,h256,how,hU2⟩:=hU.at_ hk.tab hp;have hpm:(iO k.fr L.n)[j]? =some (p:Int):=(by unfold iO;rw[bh,hp];rfl);refine zP (λw hi=>ez (hi.get (show Has _ (sl .i64 3 A1 (iO k.fr L.n).length c1 (iO k.fr L.n))from Zh)) Wq1) (λhA=>?_);obtain⟨ba,rfl⟩:=hA;refine Z_6 ?_;refine Zy (cw (j:=j) (sz:=1) (r:=j) rfl Zrf (Zv rfl) (Zv rfl) Wq4 Wq4 Wq1) ?_;refine dN (bQ Zrf Zv0) (dm Zh (cR hpm)) rfl ?_;refine Z_9 ?_;refine ZcM (tpF L k') (λw hi hin=>Fv L k' hU.rep o4 n64 p f hpn hf w hin) ?_;refine Z_4 ?_;refine Wq8 ?_;refine bX ((⟨j+1,{k' with ow:=k'.ow.set f (-1),fr:=k'.fr.set p (-1),gd:=k'.gd.set p false}⟩:Nat×zL)) ?_ ?_ ?_
  .exact⟨⟨hU2,show j+1<=_ by omega⟩,show _ - (j+1)<_ - j by omega⟩
  .exact Zwk
  exact Zj
 simp only[ah]at hc1;obtain rfl:j=(xH k.fr L.n).length:=Wq1;obtain⟨e1,e2⟩:=hU.rep.none (hU.all hk.tab) hl hno;have e3:=hU.rep.prs;have e4:=hU.rep.pl;refine Z_8 ?_;refine ZFa 66 ?_;refine dH (eK Zrf rfl rfl rfl Za (by rw[jJ htl];omega)) ?_;rintro _ _ ⟨rfl,rfl⟩;refine Zn (bP [dj L.bp k'.B k'.ow k'.pr] Zj ?_);refine jb (cs':=[dj L.bp k'.B k'.ow k'.pr]) (.inr rfl) Zu rfl ?_;rw[e1,e3]at e4|-;exact⟨k'.B,⟨e4,e2⟩,rfl⟩
end Go.Proofs.YtkegldppffignaaGreatDoor
