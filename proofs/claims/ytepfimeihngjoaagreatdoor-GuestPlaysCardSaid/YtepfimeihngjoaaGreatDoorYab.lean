/- Lemmas. -/
import Derived.Test.YtepfimeihngjoaaGreatDoorYaa
import Derived.Laws.StructEq
import Derived.Test.YtepfimeihngjoaaGreatDoorProg
import Derived.Test.YtepfimeihngjoaaGreatDoorRows
import Derived.ChangeKeysEq
import Derived.LaidMore
import Derived.OpenShut
import Derived.Handed
import Derived.Stop.Joined
import Derived.Lib.EndianBits
set_option linter.all false
set_option maxRecDepth 100000
set_option maxHeartbeats 4000000
namespace Go.Ink
open List renaming length→J, replicate→R9
open Go.RowKit
abbrev Fr:=List (Nat×Value)
def look:Fr->Nat->Option Value
 |[],_=>none
 |(k,v)::fr,t=>bif Nat.beq k t then some v else look fr t
structure qH(N:Nat)(fr:Fr)(a:Act):Prop where
 size:a.tmps.size=N
 defs:a.defers=[]
 at_:∀t v,look fr t=some v->a.tmps.getD t undef=v
theorem qH.put{N d:Nat}{fr:Fr}{a:Act}(h:qH N fr a)(hd:d<N)(v:Value):qH N ((d,v)::fr) (a.put (some d) v):=by
 refine⟨by simp[Act.put,h.size],h.defs,λt u hl=>?_⟩
 simp only[look]at hl
 by_cases e:d=t
 .simp_all [h.size,Act.put]
 have e':Nat.beq d t=false:=by cases h':Nat.beq d t with|false=>rfl|true=>simp_all
 rw[e']at hl
 simp only[ac]at hl
 have:=h.at_ t u hl
 simp_all [Act.put]
def ev(fr:Fr):Operand->Option Value
 | .tmp t=>look fr t
 | .const v=>some v
 | .global g=>some (.p g)
 | .func f=>some (.func (.func f) #[] #[])
theorem qH.ev{N:Nat}{fr:Fr}{a:Act}(h:qH N fr a){x:Operand}{v:Value}(he:ev fr x=some v):a.eval x=v:=by
 cases x with
 |tmp t=>exact h.at_ t v he
 |const u=>exact aG he
 |global g=>exact aG he
 |func f=>exact aG he
def Ev(fr:Fr)(g:Bool)(x:Operand)(v:Value):Prop:=∃u,ev fr x=some u/\(g=true->u=v)
theorem Ev.eval{N:Nat}{fr:Fr}{g:Bool}{a:Act}{x:Operand}{v:Value}(h:Ev fr g x v)(hf:qH N fr a)(hg:g=true):a.eval x=v:=by
 obtain⟨u,hu,e⟩:=h
 rw[<-e hg]
 exact hf.ev hu
def Wk(fr':Fr):Fr->Prop
 |[]=>True
 |(t,v)::fr=>look fr' t=some v/\Wk fr' fr
theorem Wk.look{fr':Fr}:∀{fr:Fr} {t:Nat} {v:Value},Wk fr' fr->look fr t=some v->Ink.look fr' t=some v
 |[],_,_,_,h=>by cases h
 |(k,u)::fr,t,v,hw,h=>by
  simp only[Ink.look]at h
  by_cases e:k=t
  .subst e
   simp only[Nat.beq_refl,ae,aW]at h
   subst h
   exact hw.1
  have e':Nat.beq k t=false:=by cases h':Nat.beq k t with|false=>rfl|true=>simp_all
  rw[e']at h
  exact Wk.look hw.2 h
theorem qH.weaken{N:Nat}{fr fr':Fr}{a:Act}(h:qH N fr' a)(hw:Wk fr' fr):qH N fr a:=
 ⟨h.size,h.defs,λt v hl=>h.at_ t v (hw.look hl)⟩
def ab:Option Addr->List Nat
 |some a=>[a.block]
 |none=>[]
inductive bH where
 |row (b:Nat) (xs:List Value) (t:TypeId)
 |slv (e sz:Nat) (A:Oa) (n c:Nat) (xs:List Value)
 |gen (bs:List Nat) (ok:World->Prop) (loc:∀w w':World,(∀b,b∈bs->w'.heap[b]? =w.heap[b]?)->ok w->ok w') (lt:∀w:World,ok w->∀b,b∈bs->b<w.heap.size)
abbrev row(b:Nat)(xs:List Value)(t:TypeId):bH:= .row b xs t
abbrev slv(e sz:Nat)(A:Oa)(n c:Nat)(xs:List Value):bH:= .slv e sz A n c xs
def bH.bs:bH->List Nat
 | .row b _ _=>[b]
 | .slv _ _ A _ _ _=>ab A
 | .gen bs _ _ _=>bs
def bH.ok:bH->World->Prop
 | .row b xs t,w=>w.heap[b]? =some (.cells xs.toArray t (0,0))
 | .slv e sz A n c xs,w=>w.ownsRow 0 e sz (.slice A n c) n xs
 | .gen _ ok _ _,w=>ok w
theorem bH.loc(c:bH)(w w':World)(h:∀b,b∈c.bs->w'.heap[b]? =w.heap[b]?)(hk:c.ok w):c.ok w':=by
 match c,h,hk with
 | .row b xs t,h,hk=>
  show w'.heap[b]? =_
  rw[h b (by simp[bH.bs])]
  exact hk
 | .slv e sz A n c xs,h,hk=>
  obtain⟨h1,h2⟩:=hk
  refine⟨h1,?_⟩
  grind [bH.bs,ab]
 | .gen bs ok loc lt,h,hk=>exact loc w w' h hk
theorem bH.lt(c:bH)(w:World)(hk:c.ok w):∀b,b∈c.bs->b<w.heap.size:=by
 match c,hk with
 | .row b xs t,hk=>
  intro x hx
  simp only[bH.bs,aQ]at hx
  subst hx
  have hk:w.heap[x]? =_:=hk
  grind
 | .slv e sz A n c xs,hk=>
  intro b hb
  obtain⟨h1,h2⟩:=hk
  grind [bH.bs,ab]
 | .gen bs ok loc lt,hk=>exact lt w hk
structure cX(S:List Nat)(w w':World):Prop where
 os:w'.os=w.os
 tape:w'.tape=w.tape
 output:w'.output=w.output
 size:w.heap.size<=w'.heap.size
 block:∀b,b<w.heap.size->b∉S->w'.heap[b]? =w.heap[b]?
theorem cX.refl(S:List Nat)(w:World):cX S w w:=⟨I,I,I,aL _,λ_ _ _=>I⟩
theorem cX.Tx{w w':World}(h:Below w.heap.size w w')(S:List Nat):cX S w w':=⟨h.os,h.tape,h.output,h.size,λb hb _=>h.block b hb⟩
theorem cX.below{w w':World}(h:cX [] w w'):Below w.heap.size w w':=⟨h.os,h.tape,h.output,h.size,λb hb=>h.block b hb cE⟩
def bK(cs:List bH):List Nat:=cs.flatMap bH.bs
structure Inv(w0:World)(S:List Nat)(cs:List bH)(w:World):Prop where
 S1:cX S w0 w
 nodup:(bK cs).Nodup
 ok:∀c,c∈cs->c.ok w
 own:∀b,b∈bK cs->b∈S\/w0.heap.size<=b
theorem dm{cs:List bH}{b:Nat}:b∈bK cs<->∃c,c∈cs/\b∈c.bs:=by grind [bK]
theorem Inv.lt{w0 w:World}{S:List Nat}{cs:List bH}(h:Inv w0 S cs w):∀b,b∈bK cs->b<w.heap.size:=by
 intro b hb
 obtain⟨c,hc,hbc⟩:=dm.1 hb
 exact c.lt w (h.ok c hc) b hbc
theorem eT(xs ys:List bH):bK (xs++ys)=bK xs++bK ys:=by simp[bK]
theorem dB(c:bH)(ys:List bH):bK (c::ys)=c.bs++bK ys:=by simp[bK]
theorem xi:bK []=[]:=rfl
theorem Inv.step{w0 w w':World}{S:List Nat}{cs cs' cin rest cout:List bH}(h:Inv w0 S cs w)(hp:cs.Perm (cin++rest))(hp':cs'.Perm (cout++rest))
  (hk:cX (bK cin) w w') (hout:Inv w (bK cin) cout w'):Inv w0 S cs' w':=by
 have hpb:∀b,b∈bK cs<->b∈bK cin\/b∈bK rest:=λb=>by
  grind [dm]
 have hnd:(bK cin++bK rest).Nodup:=by
  rw[<-eT]
  exact((hp.flatMap_right bH.bs).nodup_iff).1 h.nodup
 obtain⟨hn1,hn2,hn3⟩:=List.nodup_append.1 hnd
 have hlt:=h.lt
 have hrest:∀c,c∈rest->c.ok w':=λc hc=>by
  refine c.loc w w' (λb hb=>hk.block b ?_ ?_) (h.ok c (hp.mem_iff.2 (aK.2 (.inr hc))))
  .exact hlt b ((hpb b).2 (.inr (dm.2 ⟨c,hc,hb⟩)))
  grind [dm]
 have hmem':∀c,c∈cs'<->c∈cout\/c∈rest:=λc=>by grind
 refine⟨⟨hk.os.trans h.S1.os,hk.tape.trans h.S1.tape,hk.output.trans h.S1.output,aR h.S1.size hk.size,λb hb hS=>?_⟩,?_,?_,?_⟩
 .refine(hk.block b (Nat.lt_of_lt_of_le hb h.S1.size) (λhin=>?_)).trans (h.S1.block b hb hS)
  rcases h.own b ((hpb b).2 (.inl hin))with h1|h1
  .exact hS h1
  omega
 .have:(bK cout++bK rest).Nodup:=by
   refine List.nodup_append.2 ⟨hout.nodup,hn2,λx hx y hy=>?_⟩
   rintro rfl
   rcases hout.own x hx with h1|h1
   .grind
   grind
  rw[<-eT]at this
  exact((hp'.flatMap_right bH.bs).nodup_iff).2 this
 .intro c hc
  rcases(hmem' c).1 hc with hc|hc
  .exact hout.ok c hc
  grind
 intro b hb
 obtain⟨c,hc,hbc⟩:=dm.1 hb
 rcases(hmem' c).1 hc with hc|hc
 .rcases hout.own b (dm.2 ⟨c,hc,hbc⟩)with h1|h1
  .exact h.own b ((hpb b).2 (.inl h1))
  grind [h.S1.size]
 exact h.own b ((hpb b).2 (.inr (dm.2 ⟨c,hc,hbc⟩)))
theorem Inv.more{w0 w w':World}{S:List Nat}{cs news:List bH}(h:Inv w0 S cs w)(hout:Inv w [] news w'):Inv w0 S (cs++news) w':=
 h.step (cin:=[]) (rest:=cs) (cout:=news) (List.Perm.refl _) List.perm_append_comm hout.S1 hout
theorem lx{cs cs':List bH}(h:cs'.Sublist cs):(bK cs').Sublist (bK cs):=by
 induction h with
 |slnil=>grind
 |cons c _ ih=>grind [dB]
 |cons_cons c _ ih=>grind [dB]
theorem Inv.drop{w0 w:World}{S:List Nat}{cs cs':List bH}(h:Inv w0 S cs w)(hs:cs'.Sublist cs):Inv w0 S cs' w:=
 ⟨h.S1,(lx hs).nodup h.nodup,λc hc=>h.ok c (hs.subset hc),λb hb=>h.own b ((lx hs).subset hb)⟩
inductive XQ:List bH->bH->bH->List bH->Prop
 |head (c c':bH) (cs:List bH):XQ (c::cs) c c' (c'::cs)
 |tail (d:bH) {cs cs':List bH} {c c':bH} (h:XQ cs c c' cs'):XQ (d::cs) c c' (d::cs')
theorem XQ.perm{cs cs':List bH}{c c':bH}(h:XQ cs c c' cs'):∃rest,cs.Perm ([c]++rest)/\cs'.Perm ([c']++rest)/\c∈cs:=by
 induction h with
 |head c c' cs=>exact⟨cs,.refl _,.refl _,by simp⟩
 |tail d _ ih=>
  obtain⟨rest,h1,h2,h3⟩:=ih
  exact⟨d::rest,(h1.cons d).trans (List.perm_middle (l₁:=[_])).symm,(h2.cons d).trans (List.perm_middle (l₁:=[_])).symm,bo _ h3⟩
theorem Inv.upd{w0 w w':World}{S:List Nat}{cs cs':List bH}{c c':bH}(h:Inv w0 S cs w)(hu:XQ cs c c' cs')(hk:cX c.bs w w')(hout:Inv w c.bs [c'] w'):Inv w0 S cs' w':=by
 obtain⟨rest,h1,h2,h3⟩:=hu.perm
 have e:bK [c]=c.bs:=by simp[bK]
 exact h.step h1 h2 Do Do
inductive UQ:List bH->bH->Prop
 |head (c:bH) (cs:List bH):UQ (c::cs) c
 |tail (d:bH) {cs:List bH} {c:bH} (h:UQ cs c):UQ (d::cs) c
theorem UQ.mem{cs:List bH}{c:bH}(h:UQ cs c):c∈cs:=by
 induction h with
 |head=>simp
 |tail d _ ih=>grind
theorem Inv.get{w0 w:World}{S:List Nat}{cs:List bH}{c:bH}(h:Inv w0 S cs w)(hc:UQ cs c):c.ok w:=h.ok c hc.mem
theorem yG(w:World)(o:Obj):(w.alloc o).heap[w.heap.size]? =some o:=heap_alloc_new w o
theorem Inv.alloc{w0 w:World}{S:List Nat}{cs:List bH}(h:Inv w0 S cs w)(xs:List Value)(t:TypeId):Inv w0 S (cs++[row w.heap.size xs t]) (w.alloc (.cells xs.toArray t)):=by
 refine h.more ⟨cX.Tx ((Below.refl _ _).alloc (aL _) _) _,by simp[bK,row,bH.bs],?_,?_⟩
 .intro c hc
  simp only[aQ]at hc
  subst hc
  exact yG w _
 grind [bK,bH.bs]
theorem Inv.drew{w0 w:World}{S:List Nat}{cs:List bH}(h:Inv w0 S cs w):Inv w0 S cs w.drew:=
 ⟨⟨h.S1.os,h.S1.tape,h.S1.output,h.S1.size,h.S1.block⟩,h.nodup,λc hc=>c.loc w _ (λ_ _=>I) (h.ok c hc),h.own⟩
theorem Inv.cell{w0 w:World}{S:List Nat}{cs:List bH}{b:Nat}{xs:List Value}{t:TypeId}(h:Inv w0 S cs w)(hc:UQ cs (row b xs t))(j:Nat):w.cell? ⟨b,j,none⟩=xs[j]? :=by
 have:w.heap[b]? =some (.cells xs.toArray t (0,0)):=h.get hc
 simp[World.cell?,this]
theorem Inv.free{w0 w:World}{S:List Nat}{cs:List bH}{b:Nat}{xs:List Value}{t:TypeId}(h:Inv w0 S cs w)(hc:UQ cs (row b xs t))(j:Nat):w.frozen? ⟨b,j,none⟩=false:=by
 have:w.heap[b]? =some (.cells xs.toArray t (0,0)):=h.get hc
 simp[World.frozen?,this]
theorem XQ.has{cs cs':List bH}{c c':bH}(h:XQ cs c c' cs'):UQ cs c:=by
 induction h with
 |head=>exact .head _ _
 |tail d _ ih=>exact .tail d ih
theorem Inv.set{w0 w:World}{S:List Nat}{cs cs':List bH}{b:Nat}{xs:List Value}{t:TypeId}(h:Inv w0 S cs w)(j:Nat)(v:Value)(hu:XQ cs (row b xs t) (row b (xs.set j v) t) cs'):Inv w0 S cs' (w.setCell ⟨b,j,none⟩ v):=by
 have hg:w.heap[b]? =some (.cells xs.toArray t (0,0)):=h.get hu.has
 have hlt:b<w.heap.size:=(Array.getElem?_eq_some_iff.1 hg).1
 refine h.upd hu ⟨I,I,I,by simp_all,λk _ hk=>?_⟩ ⟨⟨I,I,I,by simp_all,λk _ hk=>?_⟩,by simp[bK,row,bH.bs],?_,?_⟩
 .grind [Below.heap_setCell,bH.bs]
 .grind [Below.heap_setCell,bH.bs]
 .intro c hc
  simp only[aQ]at hc
  subst hc
  show(w.setCell ⟨b,j,none⟩ v).heap[b]? =_
  grind [World.setCell]
 grind [bK,bH.bs]
structure Cx where
 P:Program
 N:Nat
 w0:World
 S:List Nat
abbrev kW:=Exit->Act->World->Prop
def Vh(C:Cx)(Q:kW)(e:Exit)(fr:Fr)(cs:List bH):Prop:=∀a w,qH C.N fr a->Inv C.w0 C.S cs w->Q e a w
def WC(C:Cx)(c:Code)(Q:kW)(fr:Fr)(cs:List bH):Prop:=∀a w,qH C.N fr a->Inv C.w0 C.S cs w->c.wp C.P Q a w
def WL(C:Cx)(ops:Array Oper)(Q:kW)(rest:List Oper)(fr:Fr)(cs:List bH):Prop:=∀a w,qH C.N fr a->Inv C.w0 C.S cs w->wpList C.P ops Q rest a w
section
variable{C:Cx}{Q:kW}{fr:Fr}{cs:List bH}{x y c:Code}{id id':Nat}{K:Act->World->Prop}
theorem wc_seq(h:WC C x (Exit.then (y.wp C.P Q) Q) fr cs):WC C (.seq x y) Q fr cs:=λa w hf hi=>wp_seq (h a w hf hi)
theorem Γ(h:Vh C Q .normal fr cs):WC C .skip Q fr cs:=λa w hf hi=>wp_skip (h a w hf hi)
theorem wc_ret(h:Vh C Q .ret fr cs):WC C .ret Q fr cs:=λa w hf hi=>wp_ret (h a w hf hi)
theorem Δ(h:Vh C Q (.exit id) fr cs):WC C (.exit id) Q fr cs:=λa w hf hi=>wp_exit (h a w hf hi)
theorem NF(h:WC C c (Exit.inBlock id Q) fr cs):WC C (.block id c) Q fr cs:=λa w hf hi=>wp_block (h a w hf hi)
variable{o:Operand}
theorem Cj(b:Bool)(hc:ev fr o=some (.bool b))(ht:b=true->WC C x Q fr cs)(hf:b=false->WC C y Q fr cs):WC C (.cond o x y) Q fr cs:=
 λa w hfr hi=>wp_cond_split (hfr.ev hc) (λh=>ht h a w hfr hi) (λh=>hf h a w hfr hi)
theorem bV{b:Bool}(hc:ev fr o=some (.bool b))(hb:b=true)(h:WC C x Q fr cs):WC C (.cond o x y) Q fr cs:=by grind [Cj]
theorem cG{b:Bool}(hc:ev fr o=some (.bool b))(hb:b=false)(h:WC C y Q fr cs):WC C (.cond o x y) Q fr cs:=by grind [Cj]
theorem IZ{l:List Oper}(h:WL C l.toArray Q l fr cs):WC C (.region id l.toArray false) Q fr cs:=λa w hf hi=>wp_region_lit (h a w hf hi)
theorem CZ(h:Vh C Q (.exit id) fr cs):Vh C (Exit.then K Q) (.exit id) fr cs:=h
theorem AC(he:Nat.beq id' id=true)(h:Vh C Q .normal fr cs):Vh C (Exit.inBlock id Q) (.exit id') fr cs:=λa w hf hi=>by
 simp only[Exit.inBlock,Nat.eq_of_beq_eq_true he,if_true]
 exact h a w hf hi
theorem yl(he:Nat.beq id' id=false)(h:Vh C Q (.exit id') fr cs):Vh C (Exit.inBlock id Q) (.exit id') fr cs:=λa w hf hi=>by
 have:id'≠id:=λe=>by simp_all
 simp only[Exit.inBlock,this,if_false]
 exact h a w hf hi
def Mid(C:Cx){σ:Type}(F:σ->Fr)(G:σ->List bH)(ok:σ->Prop)(a:Act)(w:World):Prop:=∃s,ok s/\qH C.N (F s) a/\Inv C.w0 C.S (G s) w
variable{σ:Type}
theorem cq(F:σ->Fr)(G:σ->List bH)(ok:σ->Prop)(h:WC C x (Exit.then (Mid C F G ok) Q) fr cs)(h':∀s,ok s->WC C y Q (F s) (G s)):WC C (.seq x y) Q fr cs:=
 λa w hf hi=>wp_seq (wp_mono (h a w hf hi) λe a' w' q=>by
  cases e with
  |normal=>obtain⟨s,ho,hf',hi'⟩:=q;exact h' s ho a' w' hf' hi'
  |_=>exact q)
theorem q_mid{F:σ->Fr}{G:σ->List bH}{ok:σ->Prop}(s:σ)(ho:ok s)(hf:Wk fr (F s))(hg:(G s).Sublist cs):Vh C (Exit.then (Mid C F G ok) Q) .normal fr cs:=
 λ_ _ hfr hi=>⟨s,ho,hfr.weaken hf,hi.drop hg⟩
theorem xF(F:σ->Fr)(G:σ->List bH)(ok:σ->Prop)(μ:σ->Nat)(s0:σ)(h0:ok s0)(hf:Wk fr (F s0))(hg:(G s0).Sublist cs)
  (round:∀s,ok s->WC C c (Exit.then (Mid C F G λs'=>ok s'/\μ s'<μ s) Q) (F s) (G s)):WC C (.loop c) Q fr cs:=by
 have key:∀n s,μ s=n->ok s->∀a w,qH C.N (F s) a->Inv C.w0 C.S (G s) w->∀(b:Frame) (k:List Item) (cs':List Frame),
   ∃e a' w',Q e a' w'/\Arrives C.P (lone (b.at a (.code c:: .inLoop c::k)) cs' w) b k cs' e a' w':=by
  intro n
  induction n using Nat.strongRecOn with
  |_ n ih=>
   intro s hn hok a w hfr hi b k cs'
   obtain⟨e,a₁,w₁,hq,harr⟩:=round s hok a w hfr hi b (.inLoop c::k) cs'
   cases e with
   |normal=>
    obtain⟨s',⟨hok',hlt⟩,hf',hi'⟩:=hq
    obtain⟨e₂,a₂,w₂,hq₂,harr₂⟩:=ih (μ s') (hn▸hlt) s' I hok' a₁ w₁ hf' hi' b k cs'
    exact⟨e₂,a₂,w₂,hq₂,.of_steps (Steps.trans harr (.one step_inLoop)) harr₂⟩
   |exit id=>exact⟨_,a₁,w₁,hq,.pass (x:= .inLoop c) I (λ_ _=> .inl cE) harr⟩
   |goto l=>exact⟨_,a₁,w₁,hq,.pass (x:= .inLoop c) I (λ_ _=> .inl cE) harr⟩
   |ret=>exact⟨_,a₁,w₁,hq,.pass (x:= .inLoop c) I (λ_ _=> .inl cE) harr⟩
   |panic ch=>exact⟨_,a₁,w₁,hq,.pass (x:= .inLoop c) I (λ_ _=> .inl cE) harr⟩
   |outgrown=>exact⟨_,a₁,w₁,hq,.pass (x:= .inLoop c) I (λ_ _=> .inl cE) harr⟩
 intro a w hfr hi b k cs'
 obtain⟨e,a',w',hq,harr⟩:=key _ s0 I h0 a w (hfr.weaken hf) (hi.drop hg) b k cs'
 exact⟨e,a',w',hq,.of_steps (.one step_loop) harr⟩
end
def bM(ops:Array Oper)(fr:Fr)(o:Oper)(g:Bool):Prop:=∀N a,qH N fr a->Region.wanted o (yielded ops a.tmps)=g
theorem fT{ops:Array Oper}{fr:Fr}{d:Option Tmp}{op:Op}{ty:TypeId}{pos:String}{af:Array Edge}:bM ops fr ⟨d,op,ty,pos,af,none⟩ true:=λ_ _ _=>I
theorem wg{N:Nat}{ops:Array Oper}{fr:Fr}{a:Act}{j d:Nat}{v:Value}(hf:qH N fr a)(hd:(ops[j]?).bind (·.dst)=some d)(hl:look fr d=some v):
  yielded ops a.tmps j=(match v with| .bool b=>some b|_=>none):=by
 have h:=hf.at_ d v hl
 unfold yielded
 rw[hd]
 simp only[Option.bind_some]
 rw[Array.getD_eq_getD_getElem?]at h
 cases hg:a.tmps[d]? with
 |none=>rw[hg]at h;simp only[Option.getD_none]at h;subst h;rfl
 |some u=>rw[hg]at h;simp only[Option.getD_some]at h;subst h;cases u<;>rfl
theorem wW{ops:Array Oper}{fr:Fr}{dd:Option Tmp}{op:Op}{ty:TypeId}{pos:String}{af:Array Edge}{j d:Nat}{want b:Bool}
  (hd:(ops[j]?).bind (·.dst)=some d) (hl:look fr d=some (.bool b)):bM ops fr ⟨dd,op,ty,pos,af,some (j,want)⟩ (b==want):=λN a hf=>by
 unfold Region.wanted
 simp only[wg hf hd hl]
 grind
theorem bP{ops:Array Oper}{fr:Fr}{dd:Option Tmp}{op:Op}{ty:TypeId}{pos:String}{af:Array Edge}{j d:Nat}{b:Bool}
  (hd:(ops[j]?).bind (·.dst)=some d) (hl:look fr d=some (.bool b)):bM ops fr ⟨dd,op,ty,pos,af,some (j,true)⟩ b:=λN a hf=>by
 rw[wW hd hl N a hf]
 cases b<;>rfl
theorem bU{ops:Array Oper}{fr:Fr}{dd:Option Tmp}{op:Op}{ty:TypeId}{pos:String}{af:Array Edge}{j d:Nat}{b:Bool}
  (hd:(ops[j]?).bind (·.dst)=some d) (hl:look fr d=some (.bool b)):bM ops fr ⟨dd,op,ty,pos,af,some (j,false)⟩ (!b):=λN a hf=>by
 rw[wW hd hl N a hf]
 grind
theorem fx{ops:Array Oper}{fr:Fr}{dd:Option Tmp}{op:Op}{ty:TypeId}{pos:String}{af:Array Edge}{j d:Nat}{want b g:Bool}
  (hd:(ops[j]?).bind (·.dst)=some d) (hl:look fr d=some (bif g then .bool b else undef)):bM ops fr ⟨dd,op,ty,pos,af,some (j,want)⟩ (g&&(b==want)):=λN a hf=>by
 unfold Region.wanted
 simp only[wg hf hd hl]
 cases g<;>cases b<;>cases want<;>rfl
def UL(C:Cx)(o:Oper)(fr:Fr)(g:Bool)(V:World->Prop)(v:Value):Prop:=
 ∀a w,qH C.N fr a->V w->g=true->(execOp a.eval o).run C.P w= .ok (.value v) w
def U4(_:World):Prop:=True
def cells(l:List (Addr×Value))(w:World):Prop:=∀x,x∈l->w.cell? x.1=some x.2
def zg(w w':World):Prop:=∀ad v,w.cell? ad=some v->w'.cell? ad=some v
def Vx(C:Cx)(o:Oper)(fr:Fr)(cs:List bH)(st:Bool)(K:Value->List bH->Prop):Prop:=
 ∀a w,qH C.N fr a->Inv C.w0 C.S cs w->∀(next:Act->World->Prop) (Q:kW),(∀v cs' w',K v cs'->Inv C.w0 C.S cs' w'->(st=false->zg w w')->next (a.put o.dst v) w')->o.wp C.P a w next Q
section
variable{C:Cx}{Q:kW}{fr:Fr}{cs:List bH}{ops:Array Oper}{rest:List Oper}{d:Nat}{op:Op}{ty:TypeId}{pos:String}{af:Array Edge}{gd:Option (Nat×Bool)}{V:World->Prop}{v:Value}{g:Bool}
theorem dW(hy:UL C ⟨some d,op,ty,pos,af,none⟩ fr true V v)(hV:∀w,Inv C.w0 C.S cs w->V w)(hd:Nat.blt d C.N=true)(h:WL C ops Q rest ((d,v)::fr) cs):
  WL C ops Q (⟨some d,op,ty,pos,af,none⟩::rest) fr cs:=λa w hf hi=>by
 refine wpList_plain I λK hK=>?_
 unfold Oper.wp
 rw[hy a w hf (hV w hi) rfl]
 exact hK _ _ (h _ w (hf.put kP v) hi)
theorem i5(hg:bM ops fr ⟨some d,op,ty,pos,af,gd⟩ g)(hy:UL C ⟨some d,op,ty,pos,af,gd⟩ fr g V v)(hV:∀w,Inv C.w0 C.S cs w->V w)(hd:Nat.blt d C.N=true)
  (h:WL C ops Q rest ((d,bif g then v else undef)::fr) cs):WL C ops Q (⟨some d,op,ty,pos,af,gd⟩::rest) fr cs:=λa w hf hi=>by
 refine wpList_step λK hK=>?_
 rw[hg _ a hf]
 cases g with
 |true=>
  rw[if_pos rfl]
  unfold Oper.wp
  rw[hy a w hf (hV w hi) rfl]
  exact hK _ _ (h _ w (hf.put kP _) hi)
 |false=>
  rw[if_neg cE]
  exact hK _ _ (h _ w (hf.put kP _) hi)
variable{st:Bool}{K:Value->List bH->Prop}
theorem gJ(ht:Vx C ⟨some d,op,ty,pos,af,none⟩ fr cs st K)(hd:Nat.blt d C.N=true)(h:∀v cs',K v cs'->WL C ops Q rest ((d,v)::fr) cs'):
  WL C ops Q (⟨some d,op,ty,pos,af,none⟩::rest) fr cs:=λa w hf hi=>by
 refine wpList_plain I λK' hK=>ht a w hf hi _ _ λv cs' w' hk hi' _=>hK _ _ (h v cs' hk _ w' (hf.put kP v) hi')
theorem et(ht:Vx C ⟨none,op,ty,pos,af,none⟩ fr cs st K)(h:∀v cs',K v cs'->WL C ops Q rest fr cs'):
  WL C ops Q (⟨none,op,ty,pos,af,none⟩::rest) fr cs:=λa w hf hi=>by
 refine wpList_plain I λK' hK=>ht a w hf hi _ _ λv cs' w' hk hi' _=>hK _ _ (h v cs' hk _ w' hf hi')
theorem io(hg:bM ops fr ⟨some d,op,ty,pos,af,gd⟩ g)(hf0:g=false)(hd:Nat.blt d C.N=true)(h:WL C ops Q rest ((d,undef)::fr) cs):WL C ops Q (⟨some d,op,ty,pos,af,gd⟩::rest) fr cs:=λa w hf hi=>by
 refine wpList_step λK hK=>?_
 rw[hg _ a hf,hf0,if_neg cE]
 exact hK _ _ (h _ w (hf.put kP _) hi)
theorem kt(hg:bM ops fr ⟨some d,op,ty,pos,af,gd⟩ g)(hg1:g=true)(ht:Vx C ⟨some d,op,ty,pos,af,gd⟩ fr cs st K)(hd:Nat.blt d C.N=true)(h:∀v cs',K v cs'->WL C ops Q rest ((d,v)::fr) cs'):
  WL C ops Q (⟨some d,op,ty,pos,af,gd⟩::rest) fr cs:=λa w hf hi=>by
 refine wpList_step λK' hK=>?_
 rw[hg _ a hf,hg1,if_pos rfl]
 exact ht a w hf hi _ _ λv cs' w' hk hi' _=>hK _ _ (h v cs' hk _ w' (hf.put kP v) hi')
end
structure Dr where
 st:Nat->Bool
 l0:List (Addr×Value)
section
variable{P:Program}{ops:Array Oper}{Q:kW}{md:Region.Mode}{St:Dr}
def rT(P:Program)(md:Region.Mode)(ops:Array Oper)(Q:kW)(St:Dr):Nat->Array Bool->Act->World->Prop
 |0,listed,a,w=>Region.ready md ops listed=[]/\Q .normal a w
 |fuel+1,listed,a,w=>
  (Region.ready md ops listed=[]->Q .normal a w)/\
  ∀i∈Region.ready md ops listed,wpOp P ops Q i (λa' w'=>((St.st i=false->zg w w')/\(cells St.l0 w->cells St.l0 w'))/\rT P md ops Q St fuel (listed.setIfInBounds i true) a' w') a w
theorem wi:∀(fuel:Nat) (listed:Array Bool) (a:Act) (w:World),rT P md ops Q St fuel listed a w->wpAny P md ops Q fuel listed a w
 |0,_,_,_,h=>h
 |fuel+1,_,_,_,h=>⟨h.1,λi hi=>wpOp_mono (λa' w' h'=>wi fuel _ a' w' h'.2) (h.2 i hi)⟩
theorem jp{i:Nat}{oi:Oper}{v:Value}{V:World->Prop}(hV:∀w w',zg w w'->V w->V w')(hi:ops[i]? =some oi)(hsel:∀(j:Nat) (o:Oper) cs b,ops[j]? =some o->o.op≠ .select cs b)
  (hQ:∀c a w,Q (.panic c) (a.put oi.dst v) w->Q (.panic c) a w):
  ∀(fuel:Nat) (listed:Array Bool) (a:Act) (w:World),
   (∀j oj,ops[j]? =some oj->j≠i->listed.getD j true=false->(∀e∈oj.after,Region.binds md e=true->e.on≠i)->oi.apart ops oj=true/\((∀w,V w)\/St.st j=false\/(∀w w',(cells St.l0 w->cells St.l0 w')->V w->V w')))->
   i∈Region.ready md ops listed->YieldsIf P ops V oi v a->V w->
   rT P md ops Q St fuel (listed.setIfInBounds i true) (a.put oi.dst v) w->rT P md ops Q St (fuel+1) listed a w:=by
 intro fuel
 induction fuel with
 |zero=>
  intro listed a w _ hr hy hS H
  refine⟨λh=>Do,λj hj=>?_⟩
  by_cases hji:j=i
  .exact QW
  have:=ready_mono hj hji
  rw[H.1]at this
  cases this
 |succ fuel ih=>
  intro listed a w hfree hr hy hS H
  refine⟨λh=>Do,λj hj=>?_⟩
  by_cases hji:j=i
  .exact QW
  have h1:=H.2 j (ready_mono hj hji)
  obtain⟨hjun,oj,hoj,hall⟩:=mem_ready.1 hj
  have hnot:∀e∈oj.after,Region.binds md e=true->e.on≠i:=λe he hb heq=>by
   grind [mem_ready]
  obtain⟨hap,hst⟩:=hfree j oj hoj hji hjun hnot
  have h2:=wpOp_putIf hoj hap (λcs b=>hsel i oi cs b hi) (λcs b=>hsel j oj cs b hoj) hQ hy h1
  have hfree':∀k ok,ops[k]? =some ok->k≠i->(listed.setIfInBounds j true).getD k true=false->
    (∀e∈ok.after,Region.binds md e=true->e.on≠i)->oi.apart ops ok=true/\((∀w,V w)\/St.st k=false\/(∀w w',(cells St.l0 w->cells St.l0 w')->V w->V w')):=λk ok hk hki hun hno=>by
   refine hfree k ok hk hki ?_ hno
   by_cases hjk:j=k
   .grind
   simp_all
  grind [wpOp_mono,ready_mono,Array.setIfInBounds_comm]
def oS(md:Region.Mode)(ops:Array Oper)(St:Nat->Bool)(listed:Array Bool)(i:Nat):Bool:=
 (List.range ops.size).all λj=>j==i||listed.getD j true|| !St j||match ops[j]? with
  |some oj=>oj.after.any (λe=>Region.binds md e&&e.on==i)
  |none=>true
theorem Cq{St:Nat->Bool}{i:Nat}{listed:Array Bool}(h:oS md ops St listed i=true)(j:Nat)(oj:Oper)
  (hj:ops[j]? =some oj) (hne:j≠i) (hun:listed.getD j true=false) (hno:∀e∈oj.after,Region.binds md e=true->e.on≠i):St j=false:=by
 grind [oS]
end
def WA(C:Cx)(St:Dr)(ops:Array Oper)(Q:kW)(fuel:Nat)(listed:Array Bool)(fr:Fr)(cs:List bH):Prop:=
 ∀a w,qH C.N fr a->Inv C.w0 C.S cs w->rT C.P .any ops (NoPanic Q) St fuel listed a w
section
variable{C:Cx}{Q:kW}{fr:Fr}{cs:List bH}{ops:Array Oper}{d:Nat}{op:Op}{ty:TypeId}{pos:String}{af:Array Edge}{gd:Option (Nat×Bool)}{V:World->Prop}{v:Value}{g:Bool}{St:Dr}{fuel:Nat}{listed:Array Bool}
theorem bN{id:Nat}{l:List Oper}(St:Dr)(hm:C.P.follows .mixedOrders=true)(h:WA C St l.toArray Q (J l) (Array.replicate (J l) false) fr cs):WC C (.region id l.toArray true) Q fr cs:=λa w hf hi=>by
 refine wp_region_noPanic (wp_region_any hm (wi (St:=St) _ _ _ _ ?_))
 have:=h a w.drew hf hi.drew
 simp_all
theorem i4(hg:bM ops fr ⟨some d,op,ty,pos,af,gd⟩ g)(hy:UL C ⟨some d,op,ty,pos,af,gd⟩ fr g V v){a:Act}(hf:qH C.N fr a):
  YieldsIf C.P ops V ⟨some d,op,ty,pos,af,gd⟩ (bif g then v else undef) a:=by
 unfold YieldsIf
 rw[hg _ a hf]
 cases g with
 |true=>exact .inl ⟨I,λw hV=>hy a w hf hV I⟩
 |false=>grind
theorem Ε(i:Nat)(hi:ops[i]? =some ⟨some d,op,ty,pos,af,gd⟩)(hs:Region.noSelect ops=true)(hfree:Region.free .any ops listed i=true)(hr:(Region.ready .any ops listed).contains i=true)
  (hg:bM ops fr ⟨some d,op,ty,pos,af,gd⟩ g) (hy:UL C ⟨some d,op,ty,pos,af,gd⟩ fr g U4 v) (hd:Nat.blt d C.N=true)
  (h:WA C St ops Q fuel (listed.setIfInBounds i true) ((d,bif g then v else undef)::fr) cs):WA C St ops Q (fuel+1) listed fr cs:=λa w hf hi'=>
 jp (V:=U4) (λ_ _ _ h=>h) hi (Region.noSelect_spec hs) (λ_ _ _ h=>h) fuel listed a w (λj oj hj hne hun hno=>⟨Region.free_spec hi hfree j oj hj hne hun hno,.inl λ_=>trivial⟩)
  Do (i4 hg hy hf) trivial (h _ w (hf.put kP _) hi')
theorem Η(i:Nat){l:List (Addr×Value)}(hi:ops[i]? =some ⟨some d,op,ty,pos,af,gd⟩)(hs:Region.noSelect ops=true)(hfree:Region.free .any ops listed i=true)(hst:oS .any ops St.st listed i=true)(hr:(Region.ready .any ops listed).contains i=true)
  (hg:bM ops fr ⟨some d,op,ty,pos,af,gd⟩ g) (hy:UL C ⟨some d,op,ty,pos,af,gd⟩ fr g (cells l) v) (hV:∀w,Inv C.w0 C.S cs w->cells l w) (hd:Nat.blt d C.N=true)
  (h:WA C St ops Q fuel (listed.setIfInBounds i true) ((d,bif g then v else undef)::fr) cs):WA C St ops Q (fuel+1) listed fr cs:=λa w hf hi'=>
 jp (V:=cells l) (λ_ _ hp h x hx=>hp _ _ (h x hx)) hi (Region.noSelect_spec hs) (λ_ _ _ h=>h) fuel listed a w (λj oj hj hne hun hno=>⟨Region.free_spec hi hfree j oj hj hne hun hno,.inr (.inl (Cq hst j oj hj hne hun hno))⟩)
  Do (i4 hg hy hf) (hV w hi') (h _ w (hf.put kP _) hi')
theorem wa_lk(i:Nat){ad:Addr}(hi:ops[i]? =some ⟨some d,op,ty,pos,af,gd⟩)(hs:Region.noSelect ops=true)(hfree:Region.free .any ops listed i=true)(hr:(Region.ready .any ops listed).contains i=true)
  (hg:bM ops fr ⟨some d,op,ty,pos,af,gd⟩ g) (hy:UL C ⟨some d,op,ty,pos,af,gd⟩ fr g (cells [(ad,v)]) v) (hm:(ad,v)∈St.l0) (hV:∀w,Inv C.w0 C.S cs w->cells St.l0 w) (hd:Nat.blt d C.N=true)
  (h:WA C St ops Q fuel (listed.setIfInBounds i true) ((d,bif g then v else undef)::fr) cs):WA C St ops Q (fuel+1) listed fr cs:=λa w hf hi'=>
 jp (V:=cells St.l0) (λ_ _ hp h x hx=>hp _ _ (h x hx)) hi (Region.noSelect_spec hs) (λ_ _ _ h=>h) fuel listed a w (λj oj hj hne hun hno=>⟨Region.free_spec hi hfree j oj hj hne hun hno,.inr (.inr λ_ _ h=>h)⟩)
  Do (i4 hg (λa w hf hV hg=>hy a w hf (λx hx=>by rw[aQ]at hx;subst hx;exact hV _ hm) hg) hf) (hV w hi') (h _ w (hf.put kP _) hi')
theorem fD(i:Nat){ad:Addr}(hi:ops[i]? =some ⟨some d,op,ty,pos,af,none⟩)(hs:Region.noSelect ops=true)(hfree:Region.free .any ops listed i=true)(hr:(Region.ready .any ops listed).contains i=true)
  (hy:UL C ⟨some d,op,ty,pos,af,none⟩ fr true (cells [(ad,v)]) v) (hm:(ad,v)∈St.l0) (hV:∀w,Inv C.w0 C.S cs w->cells St.l0 w) (hd:Nat.blt d C.N=true)
  (h:WA C St ops Q fuel (listed.setIfInBounds i true) ((d,v)::fr) cs):WA C St ops Q (fuel+1) listed fr cs:=wa_lk i hi hs hfree hr fT hy hm hV hd h
theorem I1(hr:Region.ready .any ops listed=[])(h:Vh C Q .normal fr cs):WA C St ops Q fuel listed fr cs:=λa w hf hi=>by
 cases fuel with
 |zero=>exact⟨hr,h a w hf hi⟩
 |succ n=>exact⟨λ_=>h a w hf hi,by grind⟩
end
section
variable{C:Cx}{fr:Fr}{cs:List bH}{d:Option Tmp}{ty:TypeId}{pos:String}{af:Array Edge}{gd:Option (Nat×Bool)}{v:Value}{g:Bool}{x y z:Operand}{T T':TypeId}{k k':IntKind}{a b r:Int}{p q:Bool}
variable{u:Value}
theorem oX(h:ev fr x=some u):Ev fr g x u:=⟨u,h,λ_=>I⟩
theorem cU(h:ev fr x=some (bif g then u else undef)):Ev fr g x u:=⟨_,h,λe=>by rw[e];rfl⟩
theorem zt(h:Ev fr g x v):UL C ⟨d,.move x,ty,pos,af,gd⟩ fr g U4 v:=λA w hf _ hg=>by
 simp[execOp,h.eval hf hg]
theorem Ef(h:Ev fr g x v):UL C ⟨d,.assign x,ty,pos,af,gd⟩ fr g U4 v:=λA w hf _ hg=>by
 simp[execOp,h.eval hf hg]
theorem Cd(hc:Ev fr g x (.bool p))(hb:∃u,ev fr y=some u/\(g=true->p=true->u= .bool q)):UL C ⟨d,.pick x y (.const (.bool false)),ty,pos,af,gd⟩ fr g U4 (.bool (p&&q)):=λA w hf _ hg=>by
 obtain⟨u,hu,e⟩:=hb
 have h1:=hc.eval hf hg
 have h2:=hf.ev hu
 cases p with
 |true=>simp_all [execOp,asBool]
 |false=>
  have hk:A.eval (.const (.bool false))= .bool false:=rfl
  simp[execOp,h1,asBool,hk]
theorem Nx(hc:Ev fr g x (.bool p))(hb:∃u,ev fr y=some u/\(g=true->p=false->u= .bool q)):UL C ⟨d,.pick x (.const (.bool true)) y,ty,pos,af,gd⟩ fr g U4 (.bool (p||q)):=λA w hf _ hg=>by
 obtain⟨u,hu,e⟩:=hb
 have h1:=hc.eval hf hg
 have h2:=hf.ev hu
 cases p with
 |false=>simp_all [execOp,asBool]
 |true=>
  have hk:A.eval (.const (.bool true))= .bool true:=rfl
  simp[execOp,h1,asBool,hk]
theorem Ki(h:ev fr y=some (bif p then u else undef))(hu:p=true->u= .bool q):∃u,ev fr y=some u/\(g=true->p=true->u= .bool q):=by grind
theorem Kj(h:ev fr y=some (bif !p then u else undef))(hu:p=false->u= .bool q):∃u,ev fr y=some u/\(g=true->p=false->u= .bool q):=by grind
theorem pk_gyes(h:ev fr y=some (bif(g&&(p==true))then u else undef))(hu:g=true->p=true->u= .bool q):∃u,ev fr y=some u/\(g=true->p=true->u= .bool q):=by grind
theorem pk_gno(h:ev fr y=some (bif(g&&(p==false))then u else undef))(hu:g=true->p=false->u= .bool q):∃u,ev fr y=some u/\(g=true->p=false->u= .bool q):=by grind
theorem mZ{op:BinOp}(hx:Ev fr g x (.int k a))(hy:Ev fr g y (.int k' b))(h:∀w,(binOp op T (.int k a) (.int k' b)).run C.P w= .ok v w):UL C ⟨d,.binOp op T x y T',ty,pos,af,gd⟩ fr g U4 v:=λA w hf _ hg=>by
 have he:∀op,(eqGuard op T x y (.int k a) (.int k' b)).run C.P w= .ok () w:=λop=>by cases op<;>rfl
 simp[execOp,hx.eval hf hg,hy.eval hf hg,he,h]
theorem dr(hx:Ev fr g x (.int k a))(hy:Ev fr g y (.int k b))(hr:k.wrap (a+b)=r):UL C ⟨d,.binOp .add T x y T',ty,pos,af,gd⟩ fr g U4 (.int k r):=mZ hx hy λw=>by simp[go_sem,Op.intArith,hr]
theorem eA(hx:Ev fr g x (.int k a))(hy:Ev fr g y (.int k b))(hr:k.wrap (a - b)=r):UL C ⟨d,.binOp .sub T x y T',ty,pos,af,gd⟩ fr g U4 (.int k r):=mZ hx hy λw=>by simp[go_sem,Op.intArith,hr]
theorem fL(hx:Ev fr g x (.int k a))(hy:Ev fr g y (.int k b))(hr:k.wrap (a*b)=r):UL C ⟨d,.binOp .mul T x y T',ty,pos,af,gd⟩ fr g U4 (.int k r):=mZ hx hy λw=>by simp[go_sem,Op.intArith,hr]
theorem jW(hx:Ev fr g x (.int k a))(hy:Ev fr g y (.int k b))(h0:b≠0)(hr:k.wrap (a.tdiv b)=r):UL C ⟨d,.binOp .quo T x y T',ty,pos,af,gd⟩ fr g U4 (.int k r):=mZ hx hy λw=>by simp[go_sem,Op.intDiv,hr,h0]
theorem fH(hx:Ev fr g x (.int k a))(hy:Ev fr g y (.int k b))(h0:b≠0)(hr:a.tmod b=r):UL C ⟨d,.binOp .rem T x y T',ty,pos,af,gd⟩ fr g U4 (.int k r):=mZ hx hy λw=>by simp[go_sem,Op.intDiv,hr,h0]
theorem m4(hx:Ev fr g x (.int k a))(hy:Ev fr g y (.int k b))(hr:bits .and k a b=r):UL C ⟨d,.binOp .and T x y T',ty,pos,af,gd⟩ fr g U4 (.int k r):=mZ hx hy λw=>by subst hr;simp[go_sem,Op.intBits,bits]
theorem xA(hx:Ev fr g x (.int k a))(hy:Ev fr g y (.int k b))(hr:bits .or k a b=r):UL C ⟨d,.binOp .or T x y T',ty,pos,af,gd⟩ fr g U4 (.int k r):=mZ hx hy λw=>by subst hr;simp[go_sem,Op.intBits,bits]
theorem y_xor_(hx:Ev fr g x (.int k a))(hy:Ev fr g y (.int k b))(hr:bits .xor k a b=r):UL C ⟨d,.binOp .xor T x y T',ty,pos,af,gd⟩ fr g U4 (.int k r):=mZ hx hy λw=>by subst hr;simp[go_sem,Op.intBits,bits]
theorem sZ(hx:Ev fr g x (.int k a))(hy:Ev fr g y (.int k b))(hr:bits .andNot k a b=r):UL C ⟨d,.binOp .andNot T x y T',ty,pos,af,gd⟩ fr g U4 (.int k r):=mZ hx hy λw=>by subst hr;simp[go_sem,Op.intBits,bits]
theorem tI(hx:Ev fr g x (.int k a))(hy:Ev fr g y (.int k' b))(h0:0<=b)(hr:k.wrap (a*2^(min b.toNat k.bits))=r):UL C ⟨d,.binOp .shl T x y T',ty,pos,af,gd⟩ fr g U4 (.int k r):=mZ hx hy λw=>by
 have:¬b<0:=by omega
 subst hr
 simp[binOp,Op.shift,this]
theorem jH(hx:Ev fr g x (.int k a))(hy:Ev fr g y (.int k' b))(h0:0<=b)(hr:a.fdiv (2^(min b.toNat k.bits))=r):UL C ⟨d,.binOp .shr T x y T',ty,pos,af,gd⟩ fr g U4 (.int k r):=mZ hx hy λw=>by
 have:¬b<0:=by omega
 subst hr
 simp[binOp,Op.shift,this]
theorem oK(hx:Ev fr g x (.int k a))(hy:Ev fr g y (.int k b))(hr:(a==b)=p):UL C ⟨d,.binOp .eql T x y T',ty,pos,af,gd⟩ fr g U4 (.bool p):=mZ hx hy λw=>by subst hr;simp[go_sem]
theorem xB(hx:Ev fr g x (.int k a))(hy:Ev fr g y (.int k b))(hr:(a !=b)=p):UL C ⟨d,.binOp .neq T x y T',ty,pos,af,gd⟩ fr g U4 (.bool p):=mZ hx hy λw=>by subst hr;simp[go_sem]
theorem y_lss(hx:Ev fr g x (.int k a))(hy:Ev fr g y (.int k b))(hr:decide (a<b)=p):UL C ⟨d,.binOp .lss T x y T',ty,pos,af,gd⟩ fr g U4 (.bool p):=mZ hx hy λw=>by subst hr;simp[go_sem]
theorem y_leq(hx:Ev fr g x (.int k a))(hy:Ev fr g y (.int k b))(hr:decide (a<=b)=p):UL C ⟨d,.binOp .leq T x y T',ty,pos,af,gd⟩ fr g U4 (.bool p):=mZ hx hy λw=>by subst hr;simp[go_sem]
theorem XZ(hx:Ev fr g x (.int k a))(hy:Ev fr g y (.int k b))(hr:decide (b<a)=p):UL C ⟨d,.binOp .gtr T x y T',ty,pos,af,gd⟩ fr g U4 (.bool p):=mZ hx hy λw=>by subst hr;simp[go_sem]
theorem Ya(hx:Ev fr g x (.int k a))(hy:Ev fr g y (.int k b))(hr:decide (b<=a)=p):UL C ⟨d,.binOp .geq T x y T',ty,pos,af,gd⟩ fr g U4 (.bool p):=mZ hx hy λw=>by subst hr;simp[go_sem]
theorem y_eqlb(hT:C.P.underlying T=some .bool){a b:Bool}(hx:Ev fr g x (.bool a))(hy:Ev fr g y (.bool b))(hr:(a==b)=p):UL C ⟨d,.binOp .eql T x y T',ty,pos,af,gd⟩ fr g U4 (.bool p):=λA w hf _ hg=>by
 subst hr
 simp[execOp,hx.eval hf hg,hy.eval hf hg,eqGuard,run_eql_bool w T a b hT]
theorem Ea(hT:C.P.underlying T=some .bool){a b:Bool}(hx:Ev fr g x (.bool a))(hy:Ev fr g y (.bool b))(hr:(a !=b)=p):UL C ⟨d,.binOp .neq T x y T',ty,pos,af,gd⟩ fr g U4 (.bool p):=λA w hf _ hg=>by
 subst hr
 simp[execOp,hx.eval hf hg,hy.eval hf hg,eqGuard,run_neq_bool w T a b hT,bne]
theorem y_not(hx:Ev fr g x (.bool p))(hr:(!p)=q):UL C ⟨d,.unOp .not T x,ty,pos,af,gd⟩ fr g U4 (.bool q):=λA w hf _ hg=>by
 subst hr
 simp[execOp,hx.eval hf hg,Op.unary]
theorem cA(hT:C.P.underlying T'=some (.int k'))(hS:(C.P.underlying T).isSome=true)(hx:Ev fr g x (.int k a))(hr:k'.wrap a=r):UL C ⟨d,.convert T T' x,ty,pos,af,gd⟩ fr g U4 (.int k' r):=λA w hf _ hg=>by
 obtain⟨s,hs⟩:=Option.isSome_iff_exists.mp hS
 subst hr
 simp[execOp,hx.eval hf hg,convert,run_underlying hT,run_underlying hs,Conv.intToInt]
variable{ad:Addr}
theorem zr(hx:Ev fr g x (.pointer (some ad))):UL C ⟨d,.nilCheck x,ty,pos,af,gd⟩ fr g U4 (.pointer (some ad)):=λA w hf _ hg=>by
 simp[execOp,hx.eval hf hg]
def ii(P:Program)(T f:Nat):Option Nat:=match P.underlying T with
 |some (.struct fs)=>match fs[f]? with
  |some fd=>match P.info? fd.type with
   |some i=>bif Nat.beq i.size 0 then none else some fd.offset
   |none=>none
  |none=>none
 |_=>none
variable{bb o:Nat}
theorem dq{r:Nat}(n:Nat){f:Nat}(ho:ii C.P T f=some n)(hx:Ev fr g x (.pointer (some ⟨bb,o,none⟩)))(hr:o+n=r):UL C ⟨d,.fieldAddr T x f,ty,pos,af,gd⟩ fr g U4 (.pointer (some ⟨bb,r,none⟩)):=λA w hf _ hg=>by
 subst hr
 unfold ii at ho
 split at ho
 .rename_i fs hfs
  split at ho
  .rename_i fd hfd
   split at ho
   .rename_i i hi
    by_cases hz:i.size=0
    .simp[hz]at ho
    have hz':Nat.beq i.size 0=false:=by cases h':Nat.beq i.size 0 with|false=>rfl|true=>grind
    rw[hz']at ho
    simp only[ac,aW]at ho
    subst ho
    simp[execOp,hx.eval hf hg,Instr.fieldAt,run_underlying hfs,hfd,Instr.sureAddr,fieldPlace,sizeOf,typeInfo,hi,hz,Addr.add_lit]
   cases ho
  cases ho
 cases ho
variable{n c:Nat}
theorem XY{A:Oa}(hT:∃e,C.P.underlying T=some (.slice e))(hx:Ev fr g x (.slice A n c)):UL C ⟨d,.call {callee:= .builtin .len,args:= #[x],argTypes:= #[T]},ty,pos,af,gd⟩ fr g U4 (.i n):=λa w hf _ hg=>by
 obtain⟨e,hT⟩:=hT
 simp[execOp,resolve,invoke,builtin,hx.eval hf hg,Builtin.len_,run_underlying hT,goInt]
theorem IU{i:Nat}{vs:Array Value}(hx:Ev fr g x (.tuple vs))(hi:vs[i]? =some v):UL C ⟨d,.extract x i,ty,pos,af,gd⟩ fr g U4 v:=λa w hf _ hg=>by
 simp[execOp,hx.eval hf hg,Instr.extract,hi]
inductive Nth:List Value->Nat->Value->Prop
 |zero (v:Value) (l:List Value):Nth (v::l) 0 v
 |succ (u:Value) {l:List Value} {n:Nat} {v:Value} (h:Nth l n v):Nth (u::l) (n+1) v
theorem Nth.at_{l:List Value}(h:Nth l n v):l[n]? =some v:=by
 induction h with
 |zero=>rfl
 |succ u _ ih=>grind
variable{vs:List Value}
theorem kf{i:Nat}(hx:Ev fr g x (.tuple vs.toArray))(hi:Nth vs i v):UL C ⟨d,.extract x i,ty,pos,af,gd⟩ fr g U4 v:=IU hx (by simpa using hi.at_)
variable{sz:Nat}
theorem xz{A:Oa}{lo hi:Nat}{e:TypeId}{lo? hi? :Option Operand}(hT:C.P.underlying T=some (.slice e))(hs:∀w,(sizeOf e).run C.P w= .ok sz w)(hx:Ev fr g x (.slice A n c))
  (hlo:(lo? =none/\lo=0)\/∃l k,lo? =some l/\Ev fr g l (.int k (lo:Int))) (hhi:(hi? =none/\hi=n)\/∃l k,hi? =some l/\Ev fr g l (.int k (hi:Int))) (h1:lo<=hi) (h2:hi<=c):
  UL C ⟨d,.slice T x lo? hi? none,ty,pos,af,gd⟩ fr g U4 (.slice (if c=lo then A else A.map (·.add (lo*sz))) (hi - lo) (c - lo)):=λa w hf _ hg=>by
 have hb:(Instr.sliceBounds true n c (lo?.map a.eval) (hi?.map a.eval) none).run C.P w= .ok (lo,hi,c) w:=by
  rcases hlo with⟨rfl,rfl⟩|⟨l,kl,rfl,hl⟩<;>rcases hhi with⟨rfl,rfl⟩|⟨h,kh,rfl,hh⟩
  .simp[Instr.sliceBounds]
  .have:=hh.eval hf hg
   simp[Instr.sliceBounds,Instr.sliceBound,asIntOf,this,h2]
  .have:=hl.eval hf hg
   simp[Instr.sliceBounds,Instr.sliceBound,asIntOf,this,h1]
  have:=hl.eval hf hg
  have:=hh.eval hf hg
  simp[Instr.sliceBounds,Instr.sliceBound,asIntOf, *]
 simp[execOp,hx.eval hf hg,Instr.sliceAt,run_underlying hT,Instr.slice,hb,hs]
theorem eO{A:Oa}(hi:Nat){i:Int}{e:TypeId}{sz:Nat}{l:Operand}(hT:C.P.underlying T=some (.slice e))(hs:∀w,(sizeOf e).run C.P w= .ok sz w)(hx:Ev fr g x (.slice A n c))
  (hy:Ev fr g l (.int k i)) (hj:g=true->i=(hi:Int)) (h2:g=true->hi<=c):UL C ⟨d,.slice T x none (some l) none,ty,pos,af,gd⟩ fr g U4 (.slice A hi c):=λa w hf _ hg=>by
 have h3:=hy.eval hf hg
 rw[hj hg]at h3
 have h4:=h2 hg
 have hb:(Instr.sliceBounds true n c none (some (.int k (hi:Int))) none).run C.P w= .ok (0,hi,c) w:=by
  simp[Instr.sliceBounds,Instr.sliceBound,asIntOf,h4]
 have hA:(if c=0 then A else A.map (·.add (0*sz)))=A:=by
  split
  .rfl
  simp[Addr.add]
 simp only[Nat.zero_mul]at hA
 simp[execOp,hx.eval hf hg,h3,Instr.sliceAt,run_underlying hT,Instr.slice,hb,hs,hA]
theorem cW{j:Nat}{i:Int}{e:Nat}(hT:C.P.underlying T=some (.slice e))(hs:∀w,(sizeOf e).run C.P w= .ok sz w)(hx:Ev fr g x (.slice (some ad) n c))(hy:Ev fr g y (.int k i))(hj:g=true->i=(j:Int))(h1:g=true->j<n):
  UL C ⟨d,.indexAddr T x y,ty,pos,af,gd⟩ fr g U4 (.pointer (some (ad.add (j*sz)))):=λa w hf _ hg=>by
 have h2:=h1 hg
 have h3:=hy.eval hf hg
 rw[hj hg]at h3
 simp[execOp,hx.eval hf hg,h3,Instr.indexAt,asIntOf,run_underlying hT,h2,hs]
theorem dc{j r:Nat}{i:Int}{e:Nat}(hT:C.P.underlying T=some (.array n e))(hs:∀w,(sizeOf e).run C.P w= .ok sz w)(hx:Ev fr g x (.pointer (some ⟨bb,o,none⟩)))(hy:Ev fr g y (.int k i))(hj:g=true->i=(j:Int))(h1:g=true->j<n)(hr:o+j*sz=r):
  UL C ⟨d,.indexAddr T x y,ty,pos,af,gd⟩ fr g U4 (.pointer (some ⟨bb,r,none⟩)):=λa w hf _ hg=>by
 subst hr
 have h2:=h1 hg
 have h3:=hy.eval hf hg
 rw[hj hg]at h3
 simp[execOp,hx.eval hf hg,h3,Instr.indexAt,Instr.sureAddr,asIntOf,run_underlying hT,h2,hs,Addr.add_lit]
theorem bL(hT:∀w,(isAgg T).run C.P w= .ok false w)(hx:Ev fr g x (.pointer (some ad))):UL C ⟨d,.load T x,ty,pos,af,gd⟩ fr g (cells [(ad,v)]) v:=λa w hf hV hg=>by
 have:=hV (ad,v) cE
 simp only at this
 simp[execOp,hx.eval hf hg,Instr.loadAt,Instr.sureAddr,loadVar,hT,this]
def eX(ad:Addr):Nat->List Value->List (Addr×Value)
 |_,[]=>[]
 |i,v::vs=>(ad.add i,v)::eX ad (i+1) vs
theorem mI{ad:Addr}:∀{vs:List Value} {i j:Nat} {v:Value},vs[j]? =some v->(ad.add (i+j),v)∈eX ad i vs
 |[],_,_,_,h=>by simp at h
 |u::vs,i,0,v,h=>by grind [eX]
 |u::vs,i,j+1,v,h=>by
  simp only[List.getElem?_cons_succ]at h
  have:=mI (ad:=ad) (i:=i+1) h
  rw[show i+(j+1)=i+1+j by omega]
  exact bo _ this
theorem gE{ad:Addr}:∀{vs:List Value} {i:Nat} {x:Addr×Value},x∈eX ad i vs->∃j,vs[j]? =some x.2/\x.1=ad.add (i+j)
 |[],_,_,h=>by cases h
 |u::vs,i,x,h=>by
  rcases aI.1 h with rfl|h
  .exact⟨0,by simp,by simp⟩
  obtain⟨j,h1,h2⟩:=gE h
  exact⟨j+1,by grind,by grind⟩
theorem cj(hT:∀w,(isAgg T).run C.P w= .ok true w)(hs:∀w,(sizeOf T).run C.P w= .ok (J vs) w)(hx:Ev fr g x (.pointer (some ad))):
  UL C ⟨d,.load T x,ty,pos,af,gd⟩ fr g (cells (eX ad 0 vs)) (.agg vs.toArray):=λa w hf hV hg=>by
 have h:=run_loadCells_list (P:=C.P) w ad vs (λj v hj=>by
  have:=hV _ (mI (ad:=ad) (i:=0) hj)
  grind)
 simp[execOp,hx.eval hf hg,Instr.loadAt,Instr.sureAddr,loadVar,hT,hs,h]
variable{xs:List Value}
theorem cO{w0:World}{S:List Nat}{t:Nat}(hc:UQ cs (row bb xs t))(hv:xs[o]? =some v):∀w,Inv w0 S cs w->cells [(⟨bb,o,none⟩,v)] w:=λw hi z hz=>by
 rw[aQ]at hz
 subst hz
 simpa[hv]using hi.cell hc o
theorem cI{w0:World}{S:List Nat}{t:Nat}(hc:UQ cs (row bb xs t))(hv:(xs.drop o).take (J vs)=vs):∀w,Inv w0 S cs w->cells (eX ⟨bb,o,none⟩ 0 vs) w:=λw hi z hz=>by
 obtain⟨j,h1,h2⟩:=gE hz
 rw[h2,Addr.add_lit,hi.cell hc]
 grind
end
structure UJ(w:World)(sz:Nat)(A:Oa)(n c:Nat)(xs:List Value):Prop where
 len:J xs=n*sz
 cap:n<=c
 max:c<=maxLen
 nil:A=none->n=0/\c=0
 at_:∀ad,A=some ad->∀j u,xs[j]? =some u->w.cell? (ad.add j)=some u
theorem lp(a:Addr)(n:Nat):(a.add n).block=a.block:=by grind [Addr.add]
theorem rG(a:Addr)(i j:Nat):(a.add i).add j=a.add (i+j):=by
 grind [Addr.add]
theorem UJ.old{w0 w:World}{S:List Nat}{cs:List bH}{sz n c:Nat}{A:Oa}{xs:List Value}(h:UJ w0 sz A n c xs)(hi:Inv w0 S cs w)(hS:∀ad,A=some ad->ad.block∉S):UJ w sz A n c xs:=
 ⟨h.len,h.cap,h.max,h.nil,λad e j u hu=>by
  have h1:=h.at_ ad e j u hu
  refine(World.cell?_of_block (hi.S1.block _ (World.block_lt_of_cell? w0 _ h1) ?_)).trans h1
  grind [lp]⟩
theorem UJ.SS{w0 w:World}{cs:List bH}{sz n c:Nat}{A:Oa}{xs:List Value}(h:UJ w0 sz A n c xs)(hi:Inv w0 [] cs w):UJ w sz A n c xs:=h.old hi (λ_ _=>by simp)
theorem UJ.below{w w':World}{sz n c:Nat}{A:Oa}{xs:List Value}(h:UJ w sz A n c xs)(hb:Below w.heap.size w w'):UJ w' sz A n c xs:=
 ⟨h.len,h.cap,h.max,h.nil,λad e j u hu=>by
  have h1:=h.at_ ad e j u hu
  exact(World.cell?_of_block (hb.block _ (World.block_lt_of_cell? w _ h1))).trans h1⟩
theorem UJ.cut{w:World}{n c:Nat}{A:Oa}{xs:List Value}(h:UJ w 1 A n c xs){lo hi:Nat}(h1:lo<=hi)(h2:hi<=n):
  UJ w 1 (if c=lo then A else A.map (·.add (lo*1))) (hi - lo) (c - lo) ((xs.take hi).drop lo):=by
 have hl:=h.len
 have hc:=h.cap
 have hm:=h.max
 refine⟨by simp;omega,by omega,by omega,λe=>?_,λad e j u hu=>?_⟩
 .by_cases hcl:c=lo
  .omega
  rw[if_neg hcl]at e
  cases A with
  |none=>have:=h.nil I;omega
  |some a=>cases e
 rw[List.getElem?_drop,List.getElem?_take]at hu
 split at hu
 .rename_i hlt
  by_cases hcl:c=lo
  .omega
  rw[if_neg hcl]at e
  cases A with
  |none=>cases e
  |some a=>
   simp only[Option.map_some,aW,Nat.mul_one]at e
   subst e
   rw[rG]
   exact h.at_ a I _ u hu
 cases hu
theorem de{w:World}{e sz n c:Nat}{A:Oa}{xs:List Value}(h:(slv e sz A n c xs).ok w):UJ w sz A n c xs:=by
 obtain⟨h1,h2⟩:=h
 have h0:w.ownsRow 0 e sz (.slice A n c) n xs:=⟨h1,h2⟩
 rcases h2 with⟨hv,hn⟩|⟨g,cap,cur,hv,hg,hh,hc,hm,r⟩
 .injection hv with hA hn' hc'
  subst hA hc'
  exact⟨h1,by omega,by simp,λ_=>⟨hn,I⟩,λad e=>by cases e⟩
 injection hv with hA hn' hc'
 subst hA hc'
 refine⟨h1,hc,hm,λe=>(by cases e),λad e j u hu=>?_⟩
 injection e with e
 subst e
 exact h0.cells (g:=g) I j u hu
theorem Inv.rd{w0 w:World}{S:List Nat}{cs:List bH}{e sz n c:Nat}{A:Oa}{xs:List Value}(h:Inv w0 S cs w)(hc:UQ cs (slv e sz A n c xs)):UJ w sz A n c xs:=de (h.get hc)
theorem N5{w:World}{e n c m:Nat}{A:Oa}{xs:List Value}(h:(slv e 1 A n c xs).ok w)(hm:m<=n):(slv e 1 A m c (xs.take m)).ok w:=by
 obtain⟨h1,h2⟩:=h
 refine⟨by simp;omega,?_⟩
 grind
def ints(k:IntKind)(xs:Li):List Value:=xs.map (Value.int k)
abbrev sl(k:IntKind)(e:Nat)(A:Oa)(n c:Nat)(xs:Li):bH:=slv e 1 A n c (ints k xs)
abbrev Rd(w:World)(k:IntKind)(A:Oa)(n c:Nat)(xs:Li):Prop:=UJ w 1 A n c (ints k xs)
def At(cs:List bH)(c:bH)(mk:bH->List bH):Prop:=∀c',XQ cs c c' (mk c')
theorem aH{c:bH}{cs:List bH}:At (c::cs) c (λx=>x::cs):=λ_=> .head _ _ _
theorem aT{d c:bH}{cs:List bH}{mk:bH->List bH}(h:At cs c mk):At (d::cs) c (λx=>d::mk x):=λx=> .tail _ (h x)
theorem At.has{cs:List bH}{c:bH}{mk:bH->List bH}(h:At cs c mk):UQ cs c:=(h c).has
theorem Inv.conv{w0 w:World}{S:List Nat}{cs:List bH}{c c':bH}{mk:bH->List bH}(h:Inv w0 S cs w)(hu:At cs c mk)(hb:c'.bs=c.bs)(hok:c.ok w->c'.ok w):Inv w0 S (mk c') w:=by
 have hc:=h.get hu.has
 refine h.upd (hu c') (cX.refl _ _) ⟨cX.refl _ _,?_,?_,?_⟩
 .obtain⟨rest,h1,_,_⟩:=(hu c').perm
  grind [bH.bs,h.nodup,bK]
 .grind
 grind [bK]
theorem Ci{C:Cx}{Q:kW}{fr:Fr}{cs:List bH}{c c':bH}{mk:bH->List bH}{ops:Array Oper}{l:List Oper}(hu:At cs c mk)(hb:c'.bs=c.bs)(hok:∀w,c.ok w->c'.ok w)(h:WL C ops Q l fr (mk c')):WL C ops Q l fr cs:=
 λa w hf hi=>h a w hf (hi.conv hu hb (hok w))
section
variable{C:Cx}{fr:Fr}{cs:List bH}{d:Option Tmp}{ty:TypeId}{pos:String}{af:Array Edge}{gd:Option (Nat×Bool)}{v:Value}{x y:Operand}{T:TypeId}{mk:bH->List bH}
theorem zg.alloc(w:World)(o:Obj):zg w (w.alloc o):=λad _ h=>(World.cell?_alloc_lt w _ ad (World.block_lt_of_cell? w ad h)).trans h
variable{w w':World}
theorem zg.TS(h:cX [] w w'):zg w w':=λad v hv=>(World.cell?_of_block (h.block _ (World.block_lt_of_cell? w ad hv) cE)).trans hv
variable{z:Value}
theorem tV{zs:List Value}(hz:∀w,(zeroValue T).run C.P w= .ok z w)(hzs:z.cells=zs.toArray):
  Vx C ⟨d,.alloc T,ty,pos,af,gd⟩ fr cs false (λv cs'=>∃b,v= .p b/\cs'=cs++[row b zs T]):=λa w hf hi next Q h=>by
 have hr:(execOp a.eval ⟨d,.alloc T,ty,pos,af,gd⟩).run C.P w= .ok (.value (.p w.heap.size)) (w.alloc (.cells zs.toArray T)):=by
  simp[execOp,Instr.alloc,hz,newVar,newRow,hzs]
 unfold Oper.wp
 rw[hr]
 exact h _ _ _ ⟨_,I,I⟩ (hi.alloc zs T) (λ_=>zg.alloc w _)
variable{xs:List Value}
theorem t_box(hx:ev fr x=some v)(hv:v.cells=xs.toArray):
  Vx C ⟨d,.box T x,ty,pos,af,gd⟩ fr cs false (λv cs'=>∃b,v= .p b/\cs'=cs++[row b xs T]):=λa w hf hi next Q h=>by
 have hr:(execOp a.eval ⟨d,.box T x,ty,pos,af,gd⟩).run C.P w= .ok (.value (.p w.heap.size)) (w.alloc (.cells xs.toArray T)):=by
  simp[execOp,Instr.box,hf.ev hx,newVar,newRow,hv]
 unfold Oper.wp
 rw[hr]
 exact h _ _ _ ⟨_,I,I⟩ (hi.alloc xs T) (λ_=>zg.alloc w _)
inductive pH:List Value->Nat->Value->List Value->Prop
 |zero (u v:Value) (l:List Value):pH (u::l) 0 v (v::l)
 |succ (u:Value) {l l':List Value} {n:Nat} {v:Value} (h:pH l n v l'):pH (u::l) (n+1) v (u::l')
theorem pH.set{l l':List Value}{n:Nat}{v:Value}(h:pH l n v l'):l.set n v=l'/\n<J l:=by
 induction h with
 |zero=>simp
 |succ u _ ih=>grind
theorem mm{bb o t:Nat}{xs':List Value}(hT:∀w,(sizeOf T).run C.P w= .ok 1 w)(hx:ev fr x=some (.pointer (some ⟨bb,o,none⟩)))(hy:ev fr y=some v)(h1:v.oneCell'=true)(hu:At cs (row bb xs t) mk)(hs:pH xs o v xs'):
  Vx C ⟨d,.store T x y,ty,pos,af,gd⟩ fr cs true (λu cs'=>u=undef/\cs'=mk (row bb xs' t)):=λa w hf hi next Q h=>by
 obtain⟨rfl,ho⟩:=hs.set
 have hc:=hi.cell hu.has o
 have hfz:=hi.free hu.has o
 have hcs:v.cells= #[v]:=by cases v<;>first|rfl|cases h1
 have hr:(execOp a.eval ⟨d,.store T x y,ty,pos,af,gd⟩).run C.P w= .ok .skip (w.setCell ⟨bb,o,none⟩ v):=by
  exact Wq430
 unfold Oper.wp
 rw[hr]
 exact h _ _ _ ⟨I,I⟩ (hi.set o v (hu _)) (λe=>by cases e)
variable{vs:List Value}
theorem cH{bb t:Nat}(hT:∀w,(sizeOf T).run C.P w= .ok (J vs) w)(hx:ev fr x=some (.p bb))(hy:ev fr y=some (.agg vs.toArray))(h1:∀u∈vs,u.oneCell'=true)(hu:At cs (row bb xs t) mk)(ho:J vs=J xs):
  Vx C ⟨d,.store T x y,ty,pos,af,gd⟩ fr cs true (λu cs'=>u=undef/\cs'=mk (row bb vs t)):=λa w hf hi next Q h=>by
 have hg:w.heap[bb]? =some (.cells xs.toArray t (0,0)):=hi.get hu.has
 have hst:=run_storeCells_at C.P bb 0 t vs 0 xs.toArray w hg (by simp[ho]) h1
 have e:((xs.toArray.toList.take (0+0)++vs++xs.toArray.toList.drop (0+0+J vs)).toArray)=vs.toArray:=by simp[ho]
 rw[e]at hst
 have hr:(execOp a.eval ⟨d,.store T x y,ty,pos,af,gd⟩).run C.P w= .ok .skip (w.setRow bb vs.toArray):=by
  exact Wx84_
 have hsame:∀k,k≠bb->(w.setRow bb vs.toArray).heap[k]? =w.heap[k]? :=λk hk=>by
  exact vD
 have hsz:(w.setRow bb vs.toArray).heap.size=w.heap.size:=by simp[World.setRow]
 unfold Oper.wp
 rw[hr]
 refine h _ _ _ ⟨I,I⟩ (hi.upd (hu _) ⟨I,I,I,by omega,λk _ hk=>hsame k (by grind [bH.bs])⟩ ⟨⟨rfl,rfl,rfl,by omega,λk _ hk=>hsame k (by grind [bH.bs])⟩,by simp[bK,row,bH.bs],?_,?_⟩) (λe=>by cases e)
 .intro c hc
  simp only[aQ]at hc
  subst hc
  show(w.setRow bb vs.toArray).heap[bb]? =_
  exact vD
 grind [bK,bH.bs]
variable{e sz n c:Nat}{A:Oa}
theorem kI{S:List Nat}(hk:cX S w w')(ho:w'.ownsRow 0 e sz (.slice A n c) n xs)(hb:∀a,A=some a->a.block∈S\/w.heap.size<=a.block):Inv w S [slv e sz A n c xs] w':=by
 refine⟨hk,?_,?_,?_⟩
 .cases A<;>simp[bK,slv,bH.bs,ab]
 .intro c hc
  simp only[aQ]at hc
  subst hc
  exact ho
 intro b hbb
 cases A with
 |none=>grind [bK,bH.bs,ab]
 |some a=>
  grind [bK,bH.bs,ab]
variable{P:Program}
theorem p6(w:World)(base:Nat)(t ty e:TypeId)(i:TypeInfo)(size:Nat)(ht:P.underlying t=some (.slice e))(hi:P.info? e=some i)
  (v:Value) (n:Nat) (xs:List Value) (hown:w.ownsRow base e size v n xs) (c:Nat):(Builtin.append_ #[t,t] ty #[v,.slice none 0 c]).run P w= .ok v w:=by
 rcases hown.2 with⟨rfl,rfl⟩|⟨g,cap,cur,rfl,_,_,hnc,_⟩
 .simp[Builtin.append_,run_underlying ht,sizeOf,typeInfo,hi,Builtin.lenOf,Builtin.firstCells]
 simp[Builtin.append_,run_underlying ht,sizeOf,typeInfo,hi,Builtin.lenOf,Builtin.firstCells,hnc,storeCells]
theorem xX(w:World)(t ty e:TypeId)(i:TypeInfo)(z:Value)(sz:Nat)(ht:P.underlying t=some (.slice e))(hi:P.info? e=some i)(hz:i.zero=some z)
  (hsize:i.size=sz) (hzs:z.cells.size=sz) (hsz:0<sz)
  (A:Oa) (n c:Nat) (xs:List Value) (hown:w.ownsRow 0 e sz (.slice A n c) n xs)
  (A2:Oa) (n2 c2:Nat) (ys:List Value) (hr:UJ w sz A2 n2 c2 ys) (h1:∀u∈ys,u.oneCell'=true)
  (h63:n+n2<=maxLen) (cD:(n+n2)*i.bytes<=140737488355328):
  ∃A' c' w',(Builtin.append_ #[t,t] ty #[.slice A n c,.slice A2 n2 c2]).run P w= .ok (.slice A' (n+n2) c') w'/\w'.ownsRow 0 e sz (.slice A' (n+n2) c') (n+n2) (xs++ys)/\w.grownBy w' ((Value.slice A n c).ownBlock)/\
   (A'.map Addr.block=A.map Addr.block\/A'.map Addr.block=some w.heap.size):=by
 obtain⟨hlen,hc,hm,hnil,hread⟩:=hr
 rcases A2 with _|ad
 .obtain⟨rfl,rfl⟩:=hnil I
  grind [p6,World.grownBy.refl]
 obtain⟨v',w',jU,h2,h3,_,h5⟩:=run_append_own_at (P:=P) w 0 t ty e i z sz i.bytes ht hi hz hsize I hzs hsz (.slice A n c) n xs hown ad n2 c2 ys hlen (hread ad I) h1 h63 cD (ay _)
 have hv:∃A' c',v'= .slice A' (n+n2) c':=by
  rcases h2.2 with⟨rfl,hn⟩|⟨g,cap,cur,rfl,_⟩
  .grind
  grind
 obtain⟨A',c',rfl⟩:=hv
 refine⟨A',c',w',jU,h2,h3,?_⟩
 rcases h5 with h5|h5
 .left;cases A'<;>cases A<;>simp_all [Value.ownBlock]
 right;cases A'<;>simp_all [Value.ownBlock]
theorem cX.TJ(h:w.grownBy w' ((Value.slice A n c).ownBlock)):cX (ab A) w w':=
 ⟨h.os,h.tape,h.output,h.size,λb hb hn=>h.block b hb (by cases A<;>simp[Value.ownBlock,ab]at hn|-;omega)⟩
def FM(P:Program)(e sz bytes:Nat):Bool:=match P.info? e with
 |some i=>match i.zero with
  |some z=>Nat.beq i.size sz&&Nat.beq z.cells.size sz&&Nat.beq i.bytes bytes&&Nat.blt 0 sz
  |none=>false
 |none=>false
theorem vj{bytes:Nat}(h:FM P e sz bytes=true):∃i z,P.info? e=some i/\i.zero=some z/\i.size=sz/\z.cells.size=sz/\i.bytes=bytes/\0<sz:=by
 grind [FM,Nat.blt_eq,Nat.eq_of_beq_eq_true]
theorem cu{bytes n2 c2:Nat}{A2:Oa}{ys:List Value}(hx:ev fr x=some (.slice A n c))(hy:ev fr y=some (.slice A2 n2 c2))(hu:At cs (slv e sz A n c xs) mk)
  (ht:C.P.underlying T=some (.slice e)) (hel:FM C.P e sz bytes=true)
  (hr:∀w,Inv C.w0 C.S cs w->UJ w sz A2 n2 c2 ys) (h1:∀u∈ys,u.oneCell'=true) (h63:n+n2<=maxLen) (cD:(n+n2)*bytes<=140737488355328):
  Vx C ⟨d,.call {callee:= .builtin .append,args:= #[x,y],argTypes:= #[T,T]},ty,pos,af,gd⟩ fr cs true (λv cs'=>∃A' c',v= .slice A' (n+n2) c'/\cs'=mk (slv e sz A' (n+n2) c' (xs++ys))):=λa w hf hinv next Q h=>by
 obtain⟨i,z,hi,hz,hsize,hzs,rfl,hsz⟩:=vj hel
 have hown:w.ownsRow 0 e sz (.slice A n c) n xs:=hinv.get hu.has
 obtain⟨A',c',w',jU,h2,h3,h4⟩:=xX (P:=C.P) w T ty e i z sz ht hi hz hsize hzs hsz A n c xs hown A2 n2 c2 ys (hr w hinv) h1 h63 cD
 have hr':(execOp a.eval ⟨d,.call {callee:= .builtin .append,args:= #[x,y],argTypes:= #[T,T]},ty,pos,af,gd⟩).run C.P w= .ok (.value (.slice A' (n+n2) c')) w':=by
  exact Yt
 unfold Oper.wp
 rw[hr']
 have hk:=cX.TJ h3
 refine h _ _ _ ⟨A',c',I,I⟩ (hinv.upd (hu _) hk (kI hk h2 λa ha=>?_)) (λe=>by cases e)
 subst ha
 rcases h4 with h4|h4
 .cases A with
  |none=>simp at h4
  |some a0=>grind [bH.bs,ab]
 grind
def evs(fr:Fr):List Operand->Option (List Value)
 |[]=>some []
 |x::l=>match ev fr x,evs fr l with
  |some v,some vs=>some (v::vs)
  |_,_=>none
theorem FF{N:Nat}{a:Act}(hf:qH N fr a):∀{l:List Operand} {vs:List Value},evs fr l=some vs->l.map a.eval=vs
 |[],vs,h=>by grind [evs]
 |x::l,vs,h=>by
  simp only[evs]at h
  split at h
  .rename_i u us hu hus
   simp only[aW]at h
   subst h
   simp[hf.ev hu,FF hf hus]
  cases h
def Yl(fr:Fr):List (Nat×Operand)->Option (List (Nat×Value))
 |[]=>some []
 |(i,x)::l=>match ev fr x,Yl fr l with
  |some v,some vs=>some ((i,v)::vs)
  |_,_=>none
theorem LW{N:Nat}{a:Act}(hf:qH N fr a):∀{l:List (Nat×Operand)} {vs:List (Nat×Value)},Yl fr l=some vs->l.map (λp=>(p.1,a.eval p.2))=vs
 |[],vs,h=>by grind [Yl]
 |(i,x)::l,vs,h=>by
  simp only[Yl]at h
  split at h
  .rename_i u us hu hus
   simp only[aW]at h
   subst h
   simp[hf.ev hu,LW hf hus]
  cases h
theorem LN(l:List Value):∀(j:Nat) (pre post:List Value),J post=J l->
  (l.zipIdx j).foldl (λ(cs:Array Value) (p:Value×Nat)=>cs.setIfInBounds (J pre - j+p.2) p.1) (pre++post).toArray=(pre++l).toArray\/J pre<j:=by
 induction l with
 |nil=>
  simp_all
 |cons v l ih=>
  intro j pre post h
  by_cases hj:J pre<j
  .omega
  left
  cases post with
  |nil=>simp at h
  |cons q post=>
   simp only[List.zipIdx_cons,List.foldl_cons]
   have e1:((pre++q::post).toArray).setIfInBounds (J pre - j+j) v=((pre++[v])++post).toArray:=by
    rw[show J pre - j+j=J pre by omega]
    simp
   grind
theorem LU(sz:Nat):∀(l:List (Nat×Value)) (k:Nat) (pre post:List Value),l.map Prod.fst=List.range' k (J l)->(∀p∈l,p.2.cells.size=sz)->J pre=k*sz->J post=J l*sz->
  Instr.fill (λi=>some (i*sz,sz)) (pre++post).toArray l=some (pre++l.flatMap (λp=>p.2.cells.toList)).toArray
 |[],_,pre,post,_,_,_,h=>by
  simp_all [Instr.fill]
 |(i,v)::l,k,pre,post,hk,hs,hp,h=>by
  simp only[List.map_cons,aE,List.range'_succ,List.cons.injEq]at hk
  obtain⟨rfl,hk⟩:=hk
  have hv:=hs (i,v) cE
  simp only at hv
  simp only[aE,Nat.add_mul,Nat.one_mul]at h
  have hlen:¬(v.cells.size≠sz||decide (i*sz+v.cells.size>(pre++post).toArray.size))=true:=by
   simp only[hv,ne_eq,not_true_eq_false,decide_false,bh,ah,List.size_toArray,ar,hp,h]
   omega
  simp only[Instr.fill]
  rw[if_neg O]
  have hf:=LN v.cells.toList 0 pre (post.take sz) (by simp[hv,h])
  have hf2:(v.cells.zipIdx.foldl (λcs (p:Value×Nat)=>cs.setIfInBounds (i*sz+p.2) p.1) (pre++post).toArray)=((pre++v.cells.toList)++post.drop sz).toArray:=by
   rw[<-Array.foldl_toList,Array.toList_zipIdx]
   have key:∀(m:List (Value×Nat)) (a:List Value),J a=J (pre++post.take sz)->(∀p∈m,J pre+p.2<J a)->
     m.foldl (λ(cs:Array Value) (p:Value×Nat)=>cs.setIfInBounds (i*sz+p.2) p.1) (a++post.drop sz).toArray=((m.foldl (λ(cs:Array Value) (p:Value×Nat)=>cs.setIfInBounds (J pre - 0+p.2) p.1) a.toArray).toList++post.drop sz).toArray:=by
    intro m
    induction m with
    |nil=>grind
    |cons p m ih=>
     intro a ha hm
     have hlt:=hm p cE
     simp only[List.foldl_cons]
     have e1:((a++post.drop sz).toArray).setIfInBounds (i*sz+p.2) p.1=((a.set (J pre+p.2) p.1)++post.drop sz).toArray:=by
      rw[<-hp]
      simp[List.set_append_left _ _ hlt]
     have e2:(a.toArray).setIfInBounds (J pre - 0+p.2) p.1=(a.set (J pre+p.2) p.1).toArray:=by simp
     rw[e1,e2]
     exact ih _ Do (λq hq=>by grind)
   have h3:=key (v.cells.toList.zipIdx) (pre++post.take sz) I (λp hp'=>by
    grind)
   rw[aq,List.take_append_drop]at h3
   rw[h3]
   rcases hf with hf|hf
   .rw[hf]
   omega
  rw[hf2,LU sz l (i+1) (pre++v.cells.toList) (post.drop sz) hk (λp hp'=>hs p (by simp[hp'])) Do (by simp[h])]
  simp
variable{prs:List (Nat×Value)}
theorem Cw{T:Nat}(ht:P.underlying T=some (.slice e))(hs:∀w,(sizeOf e).run P w= .ok sz w)(hz:∀w,(zeroValue e).run P w= .ok z w)
  (hn:J prs=n) (hk:prs.map Prod.fst=List.range' 0 (J prs)) (h1:∀p∈prs,p.2.cells.size=sz) (hb:n*sz<=16777216) (w:World):
  (Instr.buildSlice T n prs.toArray).run P w= .ok (.slice (sA w.heap.size) n n) (w.alloc (.cells (prs.flatMap (λp=>p.2.cells.toList)).toArray e)):=by
 have hlim:¬n*sz>2^24:=by
  have:(2:Nat)^24=16777216:=by decide
  omega
 have key:∀a:Array Value,a.size=n*sz->Instr.fill (λi=>some (i*sz,sz)) a prs=some (prs.flatMap (λp=>p.2.cells.toList)).toArray:=λa ha=>by
  have:=LU sz prs 0 [] a.toList hk h1 cE Do
  simp_all
 simp only[Instr.buildSlice,Sem.run_bind,run_underlying ht,Result.andThen_ok,hs]
 simp_all [newRow,Sem.run_bind,Result.andThen_ok,Sem.run_pure]
variable{ps:List (Nat×Operand)}
theorem ng(hp:Yl fr ps=some prs)(ht:C.P.underlying T=some (.slice e))(hs:∀w,(sizeOf e).run C.P w= .ok sz w)(hz:∀w,(zeroValue e).run C.P w= .ok z w)
  (hk:(prs.map Prod.fst==List.range' 0 n&&J prs==n&&prs.all (λp=>p.2.cells.size==sz))=true) (hb:(Nat.ble (n*sz) 16777216&&Nat.ble n 16777216)=true) (hvs:prs.flatMap (λp=>p.2.cells.toList)=vs):
  Vx C ⟨d,.buildSlice T n ps.toArray,ty,pos,af,gd⟩ fr cs false (λv cs'=>∃b,v= .slice (sA b) n n/\cs'=cs++[slv e sz (sA b) n n vs]):=λa w hf hinv next Q h=>by
 subst hvs
 simp only[aC,beq_iff_eq,List.all_eq_true]at hk
 obtain⟨⟨hk1,hk2⟩,hk3⟩:=hk
 obtain⟨hb',hbn⟩:n*sz<=16777216/\n<=16777216:=by simp_all
 have hr:=Cw (P:=C.P) ht hs hz hk2 Do hk3 hb' w
 have hl:J (prs.flatMap (λp=>p.2.cells.toList))=n*sz:=by
  rw[<-hk2]
  clear hr hk1 hk2 hb hb' hp h
  induction prs with
  |nil=>simp
  |cons p l ih=>
   grind
 have hr':(execOp a.eval ⟨d,.buildSlice T n ps.toArray,ty,pos,af,gd⟩).run C.P w= .ok (.value (.slice (sA w.heap.size) n n)) (w.alloc (.cells (prs.flatMap (λp=>p.2.cells.toList)).toArray e)):=by
  have e1:ps.toArray.map (λp=>(p.1,a.eval p.2))=prs.toArray:=by simp[LW hf hp]
  simp only[execOp]
  rw[show(ps.toArray.map λ(i,x)=>(i,a.eval x))=prs.toArray from e1]
  simp[hr]
 unfold Oper.wp
 rw[hr']
 refine h _ _ _ ⟨_,I,I⟩ (hinv.more (kI (cX.Tx ((Below.refl _ _).alloc (aL _) _) _) ⟨hl,.inr ⟨w.heap.size,n,_,I,ay _,heap_alloc_new w _,aL _,?_,by omega,List.take_of_length_le Do⟩⟩ λa ha=>?_)) (λ_=>zg.alloc w _)
 .grind [maxLen]
 grind
theorem evs_len:∀{l:List Operand} {vs:List Value},Ink.evs fr l=some vs->J vs=J l
 :=by intro y1;induction y1<;>grind [Ink.evs]
theorem Sa{fr:Fr}:∀{l:List (Nat×Operand)} {vs:List Value},Ink.evs fr (l.map Prod.snd)=some vs->Yl fr l=some (List.zip (l.map Prod.fst) vs)
 |[],_,_=>by simp[Yl]
 |(i,x)::l,vs,h=>by
  simp only[List.map_cons,Ink.evs]at h
  split at h
  .rename_i u us hu hus
   simp only[aW]at h
   subst h
   simp[Yl,hu,Sa hus]
  cases h
theorem i9(hp:Ink.evs fr (ps.map Prod.snd)=some vs)(ht:C.P.underlying T=some (.slice e))(hs:∀w,(sizeOf e).run C.P w= .ok 1 w)(hz:∀w,(zeroValue e).run C.P w= .ok z w)
  (hk:(ps.map Prod.fst==List.range' 0 n&&J ps==n&&Nat.ble n 16777216)=true) (h1:vs.all (·.oneCell')=true):
  Vx C ⟨d,.buildSlice T n ps.toArray,ty,pos,af,gd⟩ fr cs false (λv cs'=>∃b,v= .slice (sA b) n n/\cs'=cs++[slv e 1 (sA b) n n vs]):=by
 simp only[aC,beq_iff_eq]at hk
 obtain⟨⟨hk1,hk2⟩,hk3⟩:=hk
 have hl:J vs=n:=by rw[evs_len hp,List.length_map,hk2]
 have hcell:∀v∈vs,v.cells= #[v]:=λv hv=>by
  have:=List.all_eq_true.1 h1 v hv
  cases v<;>first|rfl|cases this
 have hzip:(List.zip (ps.map Prod.fst) vs).map Prod.snd=vs:=List.map_snd_zip Do
 have hflat:(List.zip (ps.map Prod.fst) vs).flatMap (λp=>p.2.cells.toList)=vs:=by
  have:(List.zip (ps.map Prod.fst) vs).flatMap (λp=>p.2.cells.toList)=((List.zip (ps.map Prod.fst) vs).map Prod.snd).flatMap (λv=>v.cells.toList):=by simp[List.flatMap_map]
  rw[this,hzip]
  clear hp hl hzip this h1 hk1
  induction vs with
  |nil=>rfl
  |cons v vs ih=>
   grind
 refine ng (prs:=List.zip (ps.map Prod.fst) vs) (Sa hp) ht hs hz ?_ ?_ hflat
 .simp only[aC,beq_iff_eq,List.all_eq_true]
  refine⟨⟨?_,?_⟩,λp hp'=>?_⟩
  .grind [List.map_fst_zip]
  .grind
  grind
 grind
def Uz(P:Program)(f:FuncId)(args:List Value)(w:World)(cin:List bH)(K:Value->List bH->Prop):Prop:=
 Calls P f args.toArray w (λe w'=>∃v cout,e= .returned v/\K v cout/\Inv w (bK cin) cout w')
theorem Uz.mono{P:Program}{f:FuncId}{args:List Value}{w:World}{cin:List bH}{K K':Value->List bH->Prop}(h:Uz P f args w cin K)(hk:∀v cout,K v cout->K' v cout):Uz P f args w cin K':=
 Calls.mono h λ_ _ ⟨v,cout,he,h1,h2⟩=>⟨v,cout,he,hk _ _ h1,h2⟩
variable{f:FuncId}{l:List Operand}{ats:Array TypeId}{a:Act}
theorem EK(hf:qH C.N fr a)(hl:evs fr l=some vs)(hc:∀args w,(callFunc f args).run C.P w= .ok (.enter f args) w):
  (execOp a.eval ⟨d,.call {callee:= .value (.func f),args:=l.toArray,argTypes:=ats},ty,pos,af,gd⟩).run C.P w= .ok (.enter f vs.toArray) w:=by
 simp[execOp,resolve,invoke,Deferred.ofValue,Act.eval,<-FF hf hl,hc]
variable{K:Value->List bH->Prop}
theorem dQ(hl:evs fr l=some vs)(hc:∀args w,(callFunc f args).run C.P w= .ok (.enter f args) w)
  (h:∀w,Inv C.w0 C.S cs w->Uz C.P f vs w [] K):
  Vx C ⟨d,.call {callee:= .value (.func f),args:=l.toArray,argTypes:=ats},ty,pos,af,gd⟩ fr cs false (λv cs'=>∃news,K v news/\cs'=cs++news):=λa w hf hinv next Q hn=>by
 unfold Oper.wp
 rw[EK hf hl hc]
 refine Calls.mono (h w hinv) λe w' hp=>?_
 obtain⟨v,cout,rfl,hk,hi⟩:=hp
 exact hn _ _ _ ⟨cout,hk,I⟩ (hinv.more hi) (λ_=>zg.TS hi.S1)
inductive EvL (fr:Fr) (g:Bool):List Operand->List Value->Prop
 |nil:EvL fr g [] []
 |cons {x:Operand} {v:Value} {l:List Operand} {vs:List Value} (h:Ev fr g x v) (t:EvL fr g l vs):EvL fr g (x::l) (v::vs)
variable{g:Bool}
theorem EvL.ok{N:Nat}(hf:qH N fr a)(hg:g=true){l:List Operand}{vs:List Value}(h:EvL fr g l vs):l.map a.eval=vs:=by
 induction h with
 |nil=>rfl
 |cons h _ ih=>simp[h.eval hf hg,ih]
theorem Sg{N:Nat}{v0:Value}{next:Act->World->Prop}{Q:kW}(hf:qH N fr a)(hg:g=true)(hl:EvL fr g l vs)(hc:∀args w,(callFunc f args).run C.P w= .ok (.enter f args) w)
  (h:Uz C.P f vs w [] (λv cs=>v=v0/\cs=[])) (hn:∀w',cX [] w w'->next (a.put d v0) w'):
  (Oper.mk d (.call {callee:= .value (.func f),args:=l.toArray,argTypes:=ats}) ty pos af gd).wp C.P a w next Q:=by
 unfold Oper.wp
 have hr:(execOp a.eval ⟨d,.call {callee:= .value (.func f),args:=l.toArray,argTypes:=ats},ty,pos,af,gd⟩).run C.P w= .ok (.enter f vs.toArray) w:=by
  simp[execOp,resolve,invoke,Deferred.ofValue,Act.eval,<-hl.ok hf hg,hc]
 rw[hr]
 refine Calls.mono h λe w' hp=>?_
 obtain⟨v,cout,rfl,⟨rfl,rfl⟩,hi⟩:=hp
 exact hn w' hi.S1
theorem Inv.kept{w0:World}{S:List Nat}(hi:Inv w0 S cs w)(hk:cX [] w w'):Inv w0 S cs w':=by
 have:=hi.more (news:=[]) ⟨hk,by simp[bK],by simp,by simp[bK]⟩
 grind
theorem dx{d:Nat}{Q:kW}{ops:Array Oper}{rest:List Oper}{v0:Value}(hg:bM ops fr ⟨some d,.call {callee:= .value (.func f),args:=l.toArray,argTypes:=ats},ty,pos,af,gd⟩ g)(hl:EvL fr g l vs)
  (hc:∀args w,(callFunc f args).run C.P w= .ok (.enter f args) w) (h:g=true->∀w,Inv C.w0 C.S cs w->Uz C.P f vs w [] (λv cs=>v=v0/\cs=[])) (hd:Nat.blt d C.N=true)
  (hn:WL C ops Q rest ((d,bif g then v0 else undef)::fr) cs):WL C ops Q (⟨some d,.call {callee:= .value (.func f),args:=l.toArray,argTypes:=ats},ty,pos,af,gd⟩::rest) fr cs:=λa w hf hi=>by
 refine wpList_step λK hK=>?_
 rw[hg _ a hf]
 cases g with
 |true=>
  rw[if_pos rfl]
  exact Sg hf I hl hc (h I w hi) λw' hk=>hK _ _ (hn _ w' (hf.put kP _) (hi.kept hk))
 |false=>
  rw[if_neg cE]
  exact hK _ _ (hn _ w (hf.put kP _) hi)
theorem Χ(cin rest:List bH)(hl:evs fr l=some vs)(hc:∀args w,(callFunc f args).run C.P w= .ok (.enter f args) w)
  (hp:cs.Perm (cin++rest)) (h:∀w,Inv C.w0 C.S cs w->Uz C.P f vs w cin K):
  Vx C ⟨d,.call {callee:= .value (.func f),args:=l.toArray,argTypes:=ats},ty,pos,af,gd⟩ fr cs true (λv cs'=>∃cout,K v cout/\cs'=cout++rest):=λa w hf hinv next Q hn=>by
 unfold Oper.wp
 rw[EK hf hl hc]
 refine Calls.mono (h w hinv) λe w' hq=>?_
 obtain⟨v,cout,rfl,hk,hi⟩:=hq
 exact hn _ _ _ ⟨cout,hk,I⟩ (hinv.step hp (.refl _) hi.S1 hi) (λe=>by cases e)
end
def zn(w:World)(S:List Nat)(K:Value->List bH->Prop)(e:Ending)(w':World):Prop:=∃v cout,e= .returned v/\K v cout/\Inv w S cout w'
def uR:Nat->List Value->Fr
 |_,[]=>[]
 |i,v::vs=>(i,v)::uR (i+1) vs
theorem uE:∀{vs:List Value} {i t:Nat} {v:Value},look (uR i vs) t=some v->∃j,t=i+j/\vs[j]? =some v
 |[],_,_,_,h=>by cases h
 |u::vs,i,t,v,h=>by
  simp only[uR,look]at h
  by_cases e:i=t
  .simp_all
  have e':Nat.beq i t=false:=by cases h':Nat.beq i t with|false=>rfl|true=>simp_all
  rw[e']at h
  obtain⟨j,h1,h2⟩:=uE h
  exact⟨j+1,by omega,by grind⟩
theorem LM{N:Nat}{vs:List Value}(h:J vs<=N):qH N (uR 0 vs) {tmps:=vs.toArray++Array.replicate (N - vs.toArray.size) undef,defers:=[]}:=by
 refine⟨by simp;omega,rfl,λt v hl=>?_⟩
 obtain⟨j,e,hj⟩:=uE hl
 obtain rfl:t=j:=by omega
 have hlt:t<J vs:=(ap.1 hj).1
 rw[aj hlt]at hj
 simp only[aW]at hj
 simp[Array.getElem?_append,hlt,hj]
theorem Inv.start(w:World):Inv w (bK []) [] w:=⟨cX.refl _ _,by simp[bK],by simp,by grind⟩
theorem wZ{P:Program}{f:FuncId}{fn:Func}{c:Code}{N:Nat}{args:List Value}{w:World}{cin:List bH}{K:Value->List bH->Prop}(hf:P.funcs[f]? =some fn)(hb:fn.body=some c)(hn:fn.ntmps=N)(hl:Nat.ble (J args) N=true)
  (hi:Inv w (bK cin) cin w) (h:WC ⟨P,N,w,bK cin⟩ c (bodyPost P fn (zn w (bK cin) K)) (uR 0 args) cin):Uz P f args w cin K:=by
 subst hn
 exact calls_of_wp hf hb (h _ w (LM kP) hi)
section
variable{C:Cx}{fr:Fr}{cs cs':List bH}{fn:Func}{K:Value->List bH->Prop}
variable{e:Exit}
theorem np(he:e= .ret\/e= .normal){v:Value}(hs:cs'.Sublist cs)(hr:∀a w,qH C.N fr a->Inv C.w0 C.S cs w->(results fn a.tmps).run C.P w= .ok v w)(hk:K v cs'):Vh C (bodyPost C.P fn (zn C.w0 C.S K)) e fr cs:=λa w hf hi=>by
 have:a.defers=[]/\∃v,(results fn a.tmps).run C.P w= .ok v w/\zn C.w0 C.S K (.returned v) w:=⟨hf.defs,v,hr a w hf hi,v,cs',I,hk,hi.drop hs⟩
 rcases he with rfl|rfl<;>exact this
variable{t:Nat}{v:Value}
theorem IH(he:e= .ret\/e= .normal)(hs:cs'.Sublist cs)(h0:fn.results= #[.tmp t])(h1:look fr t=some v)(hk:K v cs'):Vh C (bodyPost C.P fn (zn C.w0 C.S K)) e fr cs:=
 np he hs (λa w hf _=>by rw[results_tmp h0,hf.at_ t v h1]) hk
theorem vL{u:Nat}{v':Value}(he:e= .ret\/e= .normal)(hs:cs'.Sublist cs)(h0:fn.results= #[.tmp t,.tmp u])(h1:look fr t=some v)(h2:look fr u=some v')(hk:K (.tuple #[v,v']) cs'):Vh C (bodyPost C.P fn (zn C.w0 C.S K)) e fr cs:=
 np he hs (λa w hf _=>by rw[results_tmp2 h0,hf.at_ t v h1,hf.at_ u v' h2]) hk
theorem gK(he:e= .ret\/e= .normal)(hs:cs'.Sublist cs)(h0:fn.results= #[])(hk:K (.tuple #[]) cs'):Vh C (bodyPost C.P fn (zn C.w0 C.S K)) e fr cs:=
 np he hs (λa w hf _=>by rw[results_none h0]) hk
variable{T bb:Nat}{xs:List Value}
theorem gt{w:World}(hT:∀w,(isAgg T).run C.P w= .ok true w)(hz:∀w,(sizeOf T).run C.P w= .ok (J xs) w)(hi:Inv C.w0 C.S cs w)(hc:UQ cs (row bb xs t)):(loadVar T ⟨bb,0,none⟩).run C.P w= .ok (.agg xs.toArray) w:=by
 have h:=run_loadCells_list (P:=C.P) w ⟨bb,0,none⟩ xs (λj v hj=>by
  rw[Addr.add_lit,hi.cell hc]
  grind)
 simp[loadVar,hT,hz,h]
theorem mz{tt:Nat}(he:e= .ret\/e= .normal)(hs:cs'.Sublist cs)(h0:fn.results= #[.cell t T])(h1:look fr t=some (.p bb))(hc:UQ cs (row bb xs tt))
  (hT:∀w,(isAgg T).run C.P w= .ok true w) (hz:∀w,(sizeOf T).run C.P w= .ok (J xs) w) (hk:K (.agg xs.toArray) cs'):Vh C (bodyPost C.P fn (zn C.w0 C.S K)) e fr cs:=
 np he hs (λa w hf hi=>by
  have e1:=hf.at_ t _ h1
  simp only[Array.getD_eq_getD_getElem?]at e1
  simp[results,h0,e1,asAddr,gt hT hz hi hc]) hk
theorem sD{tt u:Nat}(he:e= .ret\/e= .normal)(hs:cs'.Sublist cs)(h0:fn.results= #[.cell t T,.tmp u])(h1:look fr t=some (.p bb))(h2:look fr u=some v)(hc:UQ cs (row bb xs tt))
  (hT:∀w,(isAgg T).run C.P w= .ok true w) (hz:∀w,(sizeOf T).run C.P w= .ok (J xs) w) (hk:K (.tuple #[.agg xs.toArray,v]) cs'):Vh C (bodyPost C.P fn (zn C.w0 C.S K)) e fr cs:=
 np he hs (λa w hf hi=>by
  have e1:=hf.at_ t _ h1
  have e2:=hf.at_ u _ h2
  simp only[Array.getD_eq_getD_getElem?]at e1 e2
  simp[results,h0,e1,e2,asAddr,gt hT hz hi hc]) hk
end
def WI(C:Cx)(St:Dr)(ops:Array Oper)(Q:kW)(fuel:Nat)(listed:Array Bool)(i:Nat)(fr:Fr)(cs:List bH):Prop:=
 ∀a w,qH C.N fr a->Inv C.w0 C.S cs w->wpOp C.P ops (NoPanic Q) i (λa' w'=>((St.st i=false->zg w w')/\(cells St.l0 w->cells St.l0 w'))/\rT C.P .any ops (NoPanic Q) St fuel (listed.setIfInBounds i true) a' w') a w
section
variable{C:Cx}{Q:kW}{fr:Fr}{cs:List bH}{ops:Array Oper}{d:Nat}{op:Op}{ty:TypeId}{pos:String}{af:Array Edge}{gd:Option (Nat×Bool)}{v:Value}{g:Bool}{St:Dr}{fuel:Nat}{listed:Array Bool}
theorem cQ(i:Nat)(hr:Region.ready .any ops listed=[i])(h:WI C St ops Q fuel listed i fr cs):WA C St ops Q (fuel+1) listed fr cs:=λa w hf hi=>
 ⟨λh0=>Do,λj hj=>by rw[hr,aQ]at hj;subst hj;exact h a w hf hi⟩
theorem rU(i j:Nat)(hr:Region.ready .any ops listed=[i,j])(h:WI C St ops Q fuel listed i fr cs)(h':WI C St ops Q fuel listed j fr cs):WA C St ops Q (fuel+1) listed fr cs:=λa w hf hi=>
 ⟨λh0=>Do,λk hk=>by
  rw[hr]at hk
  simp only[aI,List.not_mem_nil,or_false]at hk
  rcases hk with rfl|rfl
  ·exact h a w hf hi
  exact h' a w hf hi⟩
theorem wa_3(i j l:Nat)(hr:Region.ready .any ops listed=[i,j,l])(h:WI C St ops Q fuel listed i fr cs)(h':WI C St ops Q fuel listed j fr cs)(h'':WI C St ops Q fuel listed l fr cs):WA C St ops Q (fuel+1) listed fr cs:=λa w hf hi=>
 ⟨λh0=>Do,λk hk=>by
  rw[hr]at hk
  simp only[aI,List.not_mem_nil,or_false]at hk
  rcases hk with rfl|rfl|rfl
  ·exact h a w hf hi
  ·exact h' a w hf hi
  exact h'' a w hf hi⟩
variable{i:Nat}{st:Bool}
theorem Me{w w':World}(hst:St.st i=st)(hp:st=false->zg w w')(hJ:st=true->cells St.l0 w'):(St.st i=false->zg w w')/\(cells St.l0 w->cells St.l0 w'):=by
 subst hst
 refine⟨hp,λh=>?_⟩
 cases hb:St.st i with
 |true=>exact hJ hb
 |false=>exact λx hx=>hp hb _ _ (h x hx)
variable{K:Value->List bH->Prop}
theorem jX(hi:ops[i]? =some ⟨some d,op,ty,pos,af,none⟩)(hst:St.st i=st)
  (ht:Vx C ⟨some d,op,ty,pos,af,none⟩ fr cs st K) (hJ:st=true->∀v cs',K v cs'->∀w,Inv C.w0 C.S cs' w->cells St.l0 w) (hd:Nat.blt d C.N=true) (h:∀v cs',K v cs'->WA C St ops Q fuel (listed.setIfInBounds i true) ((d,v)::fr) cs'):WI C St ops Q fuel listed i fr cs:=λa w hf hi'=>by
 unfold wpOp
 rw[hi]
 simp only[Region.wanted,if_true]
 exact Wq407
theorem ft(hi:ops[i]? =some ⟨none,op,ty,pos,af,none⟩)(hst:St.st i=st)
  (ht:Vx C ⟨none,op,ty,pos,af,none⟩ fr cs st K) (hJ:st=true->∀v cs',K v cs'->∀w,Inv C.w0 C.S cs' w->cells St.l0 w) (h:∀v cs',K v cs'->WA C St ops Q fuel (listed.setIfInBounds i true) fr cs'):WI C St ops Q fuel listed i fr cs:=λa w hf hi'=>by
 unfold wpOp
 rw[hi]
 simp only[Region.wanted,if_true]
 exact .inl (ht a w hf hi' _ _ λv cs' w' hk hi2 hp=>⟨Me hst hp (λe=>hJ e v cs' hk w' hi2),h v cs' hk _ w' hf hi2⟩)
theorem zu(hi:ops[i]? =some ⟨some d,op,ty,pos,af,gd⟩)(hst:St.st i=st)
  (hg:bM ops fr ⟨some d,op,ty,pos,af,gd⟩ g) (hg1:g=true)
  (ht:Vx C ⟨some d,op,ty,pos,af,gd⟩ fr cs st K) (hJ:st=true->∀v cs',K v cs'->∀w,Inv C.w0 C.S cs' w->cells St.l0 w) (hd:Nat.blt d C.N=true) (h:∀v cs',K v cs'->WA C St ops Q fuel (listed.setIfInBounds i true) ((d,v)::fr) cs'):WI C St ops Q fuel listed i fr cs:=λa w hf hi'=>by
 unfold wpOp
 rw[hi]
 simp only[hg _ a hf,hg1,if_true]
 exact Wq407
theorem Ek{f:FuncId}{l:List Operand}{vs:List Value}{ats:Array TypeId}{v0:Value}(hi:ops[i]? =some ⟨some d,.call {callee:= .value (.func f),args:=l.toArray,argTypes:=ats},ty,pos,af,gd⟩)
  (hg:bM ops fr ⟨some d,.call {callee:= .value (.func f),args:=l.toArray,argTypes:=ats},ty,pos,af,gd⟩ g) (hl:EvL fr g l vs)
  (hc:∀args w,(callFunc f args).run C.P w= .ok (.enter f args) w) (h:g=true->∀w,Inv C.w0 C.S cs w->Uz C.P f vs w [] (λv cs=>v=v0/\cs=[])) (hd:Nat.blt d C.N=true)
  (hn:WA C St ops Q fuel (listed.setIfInBounds i true) ((d,bif g then v0 else undef)::fr) cs):WI C St ops Q fuel listed i fr cs:=λa w hf hi'=>by
 unfold wpOp
 rw[hi]
 simp only[hg _ a hf]
 cases g with
 |true=>
  rw[if_pos rfl]
  exact .inl (Sg hf I hl hc (h I w hi') λw' hk=>⟨⟨λ_=>zg.TS hk,λh x hx=>zg.TS hk _ _ (h x hx)⟩,hn _ w' (hf.put kP _) (hi'.kept hk)⟩)
 |false=>
  rw[if_neg cE]
  exact YN
end
section
variable{C:Cx}{Q:kW}{fr:Fr}{cs:List bH}{ops:Array Oper}{rest:List Oper}{d:Nat}{dd:Option Tmp}{ty:TypeId}{pos:String}{af:Array Edge}{gd:Option (Nat×Bool)}{v:Value}{g:Bool}{x:Operand}{T:TypeId}
variable{St:Dr}{fuel:Nat}{listed:Array Bool}
theorem gC{op:Op}(i:Nat)(hi:ops[i]? =some ⟨some d,op,ty,pos,af,none⟩)(hs:Region.noSelect ops=true)(hfree:Region.free .any ops listed i=true)(hr:(Region.ready .any ops listed).contains i=true)
  (hy:UL C ⟨some d,op,ty,pos,af,none⟩ fr true U4 v) (hd:Nat.blt d C.N=true) (h:WA C St ops Q fuel (listed.setIfInBounds i true) ((d,v)::fr) cs):WA C St ops Q (fuel+1) listed fr cs:=
 Ε i hi hs hfree hr fT hy hd h
theorem sx{op:Op}(i:Nat){l:List (Addr×Value)}(hi:ops[i]? =some ⟨some d,op,ty,pos,af,none⟩)(hs:Region.noSelect ops=true)(hfree:Region.free .any ops listed i=true)(hst:oS .any ops St.st listed i=true)(hr:(Region.ready .any ops listed).contains i=true)
  (hy:UL C ⟨some d,op,ty,pos,af,none⟩ fr true (cells l) v) (hV:∀w,Inv C.w0 C.S cs w->cells l w) (hd:Nat.blt d C.N=true) (h:WA C St ops Q fuel (listed.setIfInBounds i true) ((d,v)::fr) cs):WA C St ops Q (fuel+1) listed fr cs:=
 Η i hi hs hfree hst hr fT hy hV hd h
theorem yE(w:World)(S:List Nat)(e sz:Nat):Inv w S [slv e sz none 0 0 []] w:=kI (cX.refl _ _) ⟨by simp,.inl ⟨rfl,rfl⟩⟩ (λa h=>by cases h)
theorem dg(e sz:Nat){l:List Oper}(h:WL C ops Q l fr (cs++[slv e sz none 0 0 []])):WL C ops Q l fr cs:=λa w hf hi=>h a w hf (hi.more (yE w [] e sz))
theorem Wk.cons{fr' fr:Fr}{t:Nat}{v:Value}(h:Ink.look fr' t=some v)(r:Wk fr' fr):Wk fr' ((t,v)::fr):=⟨h,r⟩
theorem Wk.nil{fr':Fr}:Wk fr' []:=trivial
variable{t:Nat}{k:IntKind}
theorem RB{a b:Int}(h:look fr t=some (.int k a))(e:a=b):look fr t=some (.int k b):=by grind
variable{xs:Li}{j:Nat}
theorem lh(h:j<J xs):(ints k xs)[j]? =some (.int k (xs[j]'h)):=by simp[ints,h]
theorem cP:∀u∈ints k xs,u.oneCell'=true:=by
 intro u hu
 obtain⟨x,_,rfl⟩:=List.mem_map.1 hu
 rfl
theorem bY(xs ys:Li):ints k xs++ints k ys=ints k (xs++ys):=by simp[ints]
theorem du(xs:Li):J (ints k xs)=J xs:=by simp[ints]
theorem iO(xs:Li)(m:Nat):(ints k xs).take m=ints k (xs.take m):=by simp[ints]
theorem nH(xs:Li)(m:Nat):(ints k xs).drop m=ints k (xs.drop m):=by simp[ints]
theorem eZ{F:Prop}{l:List Oper}(hf:∀w,Inv C.w0 C.S cs w->F)(h:F->WL C ops Q l fr cs):WL C ops Q l fr cs:=λa w hfr hi=>h (hf w hi) a w hfr hi
theorem eo{F:Prop}{c:Code}(hf:∀w,Inv C.w0 C.S cs w->F)(h:F->WC C c Q fr cs):WC C c Q fr cs:=λa w hfr hi=>h (hf w hi) a w hfr hi
variable{w:World}{e c:Nat}{A:Oa}
theorem sl_cut{m:Nat}(h:(sl k e A (J xs) c xs).ok w):(sl k e A (J (xs.take m)) c (xs.take m)).ok w:=by
 have:=N5 (m:=J (xs.take m)) h Do
 grind [iO]
variable{xs:List Value}
theorem ka(h:xs.all (·.oneCell')=true):∀u∈xs,u.oneCell'=true:=by grind
variable{ps:List (Nat×Operand)}{prs:List (Nat×Value)}
theorem Ee(hp:Yl fr ps=some prs)(hr:∀w,(Instr.build T prs.toArray).run C.P w= .ok v w):UL C ⟨dd,.build T ps.toArray,ty,pos,af,gd⟩ fr g U4 v:=λa w hf _ _=>by
 have e1:ps.toArray.map (λp=>(p.1,a.eval p.2))=prs.toArray:=by simp[LW hf hp]
 simp_all [execOp]
def bw(place:Nat->Option (Nat×Nat)):List (Nat×Value)->Option (List (Nat×Value))
 |[]=>some []
 |(i,v)::rest=>match place i with
  |none=>none
  |some (off,size)=>bif Nat.beq v.cells.size size&&Nat.blt 0 size then
    match bw place rest with
    |some ws=>some ((v.cells.toList.zipIdx off).map (λp=>(p.2,p.1))++ws)
    |none=>none
   else none
inductive fq:List Value->List (Nat×Value)->List Value->Prop
 |nil (cs:List Value):fq cs [] cs
 |cons {cs cs' xs:List Value} {o:Nat} {v:Value} {ws:List (Nat×Value)} (h:pH cs o v cs') (t:fq cs' ws xs):fq cs ((o,v)::ws) xs
theorem fq.split:∀{us ws:List (Nat×Value)} {cs xs:List Value},fq cs (us++ws) xs->∃ms,fq cs us ms/\fq ms ws xs
 |[],_,cs,_,h=>⟨cs,.nil _,h⟩
 |(o,v)::us,ws,cs,xs,h=>by
  cases h with
  |cons h t=>
   obtain⟨ms,h1,h2⟩:=fq.split t
   exact⟨ms,.cons h h1,h2⟩
theorem fq.sets:∀{l:List Value} {j:Nat} {cs ms:List Value} (off:Nat),fq cs ((l.zipIdx j).map (λp=>(off+p.2,p.1))) ms->
  (l.zipIdx j).foldl (λ(cs:Array Value) (p:Value×Nat)=>cs.setIfInBounds (off+p.2) p.1) cs.toArray=ms.toArray/\J ms=J cs/\(l≠[]->off+j+J l<=J cs)
 |[],_,_,_,_,h=>by cases h;simp
 |v::l,j,cs,ms,off,h=>by
  simp only[List.zipIdx_cons,List.map_cons]at h
  cases h with
  |cons h t=>
   obtain⟨h1,h2⟩:=h.set
   obtain⟨e1,e2,e3⟩:=fq.sets off t
   refine⟨?_,by grind,λ_=>?_⟩
   .simp_all
   by_cases hn:l=[]
   .grind
   grind
theorem DF{place:Nat->Option (Nat×Nat)}:∀{prs:List (Nat×Value)} {ws:List (Nat×Value)} {cs xs:List Value},bw place prs=some ws->fq cs ws xs->Instr.fill place cs.toArray prs=some xs.toArray
 |[],ws,cs,xs,h,hb=>by
  simp only[bw,aW]at h
  subst h
  cases hb
  rfl
 |(i,v)::rest,ws,cs,xs,h,hb=>by
  simp only[bw]at h
  cases hpl:place i with
  |none=>grind
  |some q=>
   obtain⟨off,size⟩:=q
   simp only[hpl]at h
   cases hc:(Nat.beq v.cells.size size&&Nat.blt 0 size)with
   |false=>grind
   |true=>
    simp only[hc,ae]at h
    cases hr:bw place rest with
    |none=>grind
    |some ws'=>
     simp only[hr,aW]at h
     subst h
     simp only[aC,Nat.blt_eq]at hc
     have hsz:v.cells.size=size:=Nat.eq_of_beq_eq_true hc.1
     obtain⟨ms,h1,h2⟩:=fq.split hb
     have e0:(v.cells.toList.zipIdx off).map (λp=>(p.2,p.1))=(v.cells.toList.zipIdx 0).map (λp=>(off+p.2,p.1)):=by
      rw[List.zipIdx_eq_map_add]
      simp[List.map_map,Function.comp_def]
     rw[e0]at h1
     obtain⟨e1,e2,e3⟩:=fq.sets off h1
     have hne:v.cells.toList≠[]:=by
      intro hnil
      have:v.cells.size=0:=by rw[<-Array.length_toList,hnil];rfl
      omega
     have hle:=e3 hne
     simp only[Array.length_toList]at hle
     simp only[Instr.fill,hpl]
     rw[if_neg Do]
     rw[<-Array.foldl_toList,Array.toList_zipIdx,e1]
     exact DF hr h2
def EW(P:Program)(fs:Array Field)(i:Nat):Option (Nat×Nat):=match fs[i]? with
 |some f=>match P.info? f.type with
  |some fi=>some (f.offset,fi.size)
  |none=>none
 |none=>none
theorem xW{P:Program}{α β:Type}{f:α->Sem β}{k:α->β}:∀{l:List α},(∀x∈l,(f x).run P w= .ok (k x) w)->(l.mapM f).run P w= .ok (l.map k) w
 :=by intro y1;induction y1<;>simp_all
variable{fs:Array Field}{z:Value}{zs:List Value}{ws:List (Nat×Value)}
theorem GC{P:Program}(ht:P.underlying T=some (.struct fs))(hz:∀w,(zeroValue T).run P w= .ok z w)(hzs:z.cells=zs.toArray)
  (hf:fs.toList.all (λf=>(P.info? f.type).isSome)=true) (hw:bw (EW P fs) prs=some ws) (hb:fq zs ws xs) (w:World):(Instr.build T prs.toArray).run P w= .ok (.agg xs.toArray) w:=by
 have hm:(fs.mapM λf=>(do pure (f.offset,<-sizeOf f.type):Sem (Nat×Nat))).run P w= .ok (fs.map λf=>(f.offset,((P.info? f.type).map (·.size)).getD 0)) w:=by
  rw[Array.mapM_eq_mapM_toList]
  have:=xW (P:=P) (w:=w) (f:=λf:Field=>(do pure (f.offset,<-sizeOf f.type):Sem (Nat×Nat))) (k:=λf=>(f.offset,((P.info? f.type).map (·.size)).getD 0)) (l:=fs.toList) (λf hf'=>by
   have:=List.all_eq_true.1 hf f hf'
   obtain⟨i,hi⟩:=Option.isSome_iff_exists.1 this
   simp[sizeOf,typeInfo,hi])
  rw[Sem.run_map,this]
  simp only[Result.andThen_ok]
  congr 1
  apply Array.ext'
  simp
 have hpl:∀i,(fs.map λf=>(f.offset,((P.info? f.type).map (·.size)).getD 0))[i]? =EW P fs i:=λi=>by
  grind [EW]
 have hfill:=DF hw hb
 simp only[Instr.build,Sem.run_bind,hz,Result.andThen_ok,run_underlying ht,hm,hzs]
 simp_all
theorem tJ(hp:Yl fr ps=some prs)(ht:C.P.underlying T=some (.struct fs))(hz:∀w,(zeroValue T).run C.P w= .ok z w)(hzs:z.cells=zs.toArray)
  (hf:fs.toList.all (λf=>(C.P.info? f.type).isSome)=true) (hw:bw (EW C.P fs) prs=some ws) (hb:fq zs ws xs):UL C ⟨dd,.build T ps.toArray,ty,pos,af,gd⟩ fr g U4 (.agg xs.toArray):=by grind [Ee,GC]
variable{n sz:Nat}
theorem Ed(hp:Yl fr ps=some prs)(ht:C.P.underlying T=some (.array n e))(hz:∀w,(zeroValue T).run C.P w= .ok z w)(hzs:z.cells=zs.toArray)
  (hs:∀w,(sizeOf e).run C.P w= .ok sz w) (hw:bw (λi=>some (i*sz,sz)) prs=some ws) (hb:fq zs ws xs):UL C ⟨dd,.build T ps.toArray,ty,pos,af,gd⟩ fr g U4 (.agg xs.toArray):=
 Ee hp (λw=>by
  have hfill:=DF hw hb
  simp_all [Instr.build,Sem.run_bind,Result.andThen_ok,run_underlying])
theorem χ{e:TypeId}(hT:C.P.underlying T=some (.slice e))(hx:Ev fr g x (.slice A n c)):UL C ⟨dd,.binOp .eql T x (.const (.slice none 0 0)) T,ty,pos,af,gd⟩ fr g U4 (.bool A.isNone):=λa w hf _ hg=>by
 have hk:a.eval (.const (.slice none 0 0))= .slice none 0 0:=rfl
 have he:(eqGuard .eql T x (.const (.slice none 0 0)) (.slice A n c) (.slice none 0 0)).run C.P w= .ok () w:=rfl
 simp[execOp,hx.eval hf hg,hk,he,Lib.run_eql_slice_nil (P:=C.P) w T e A n c 0 0 hT]
theorem y_pnil{p:Oa}{e:TypeId}(hT:C.P.underlying T=some (.pointer e))(hx:Ev fr g x (.pointer p)):UL C ⟨dd,.binOp .eql T x (.const (.pointer none)) T,ty,pos,af,gd⟩ fr g U4 (.bool p.isNone):=λa w hf _ hg=>by
 have hk:a.eval (.const (.pointer none))= .pointer none:=rfl
 have he:(eqGuard .eql T x (.const (.pointer none)) (.pointer p) (.pointer none)).run C.P w= .ok () w:=rfl
 have hr:(binOp .eql T (.pointer p) (.pointer none)).run C.P w= .ok (.bool p.isNone) w:=by
  have h:∀d:Nat,(Op.equalIn (d+1) T (.pointer p) (.pointer none)).run C.P w= .ok p.isNone w:=λd=>by
   cases p<;>simp[Op.equalIn,run_underlying hT,samePointer]
  simp only[binOp]
  simp[Op.equal,Op.maxDepth,h 9999]
 simp[execOp,hx.eval hf hg,hk,he,hr]
theorem y_pnn{p:Oa}{e:TypeId}(hT:C.P.underlying T=some (.pointer e))(hx:Ev fr g x (.pointer p)):UL C ⟨dd,.binOp .neq T x (.const (.pointer none)) T,ty,pos,af,gd⟩ fr g U4 (.bool p.isSome):=λa w hf _ hg=>by
 have hk:a.eval (.const (.pointer none))= .pointer none:=rfl
 have he:(eqGuard .neq T x (.const (.pointer none)) (.pointer p) (.pointer none)).run C.P w= .ok () w:=rfl
 have hr:(binOp .neq T (.pointer p) (.pointer none)).run C.P w= .ok (.bool p.isSome) w:=by
  have h:∀d:Nat,(Op.equalIn (d+1) T (.pointer p) (.pointer none)).run C.P w= .ok p.isNone w:=λd=>by
   cases p<;>simp[Op.equalIn,run_underlying hT,samePointer]
  simp only[binOp]
  simp[Op.equal,Op.maxDepth,h 9999]
 simp[execOp,hx.eval hf hg,hk,he,hr]
variable{w0:World}{S:List Nat}{bb:Nat}
theorem wT(hc:UQ cs (row bb xs t)):∀w,Inv w0 S cs w->cells (eX ⟨bb,0,none⟩ 0 xs) w:=cI hc cE
theorem Ge(hc:UQ cs (row bb xs t))(hT:∀w,(isAgg T).run C.P w= .ok true w)(hs:∀w,(sizeOf T).run C.P w= .ok (J xs) w)(hx:Ev fr true x (.p bb))(hd:Nat.blt d C.N=true)
  (h:WL C ops Q rest ((d,.agg xs.toArray)::fr) cs):WL C ops Q (⟨some d,.load T x,ty,pos,af,none⟩::rest) fr cs:=dW (cj hT hs hx) (wT hc) hd h
theorem i6(hg:bM ops fr ⟨some d,.load T x,ty,pos,af,gd⟩ g)(hc:UQ cs (row bb xs t))(hT:∀w,(isAgg T).run C.P w= .ok true w)(hs:∀w,(sizeOf T).run C.P w= .ok (J xs) w)(hx:Ev fr g x (.p bb))(hd:Nat.blt d C.N=true)
  (h:WL C ops Q rest ((d,bif g then .agg xs.toArray else undef)::fr) cs):WL C ops Q (⟨some d,.load T x,ty,pos,af,gd⟩::rest) fr cs:=i5 hg (cj hT hs hx) (wT hc) hd h
theorem Gk(i:Nat)(hi:ops[i]? =some ⟨some d,.load T x,ty,pos,af,none⟩)(hsel:Region.noSelect ops=true)(hfree:Region.free .any ops listed i=true)(hst:oS .any ops St.st listed i=true)(hr:(Region.ready .any ops listed).contains i=true)
  (hc:UQ cs (row bb xs t)) (hT:∀w,(isAgg T).run C.P w= .ok true w) (hs:∀w,(sizeOf T).run C.P w= .ok (J xs) w) (hx:Ev fr true x (.p bb)) (hd:Nat.blt d C.N=true)
  (h:WA C St ops Q fuel (listed.setIfInBounds i true) ((d,.agg xs.toArray)::fr) cs):WA C St ops Q (fuel+1) listed fr cs:=sx i hi hsel hfree hst hr (cj hT hs hx) (wT hc) hd h
theorem xQ{ad:Addr}(hc:UQ cs (slv e 1 (some ad) n c xs))(hv:xs[j]? =some v):∀w,Inv w0 S cs w->cells [(ad.add (j*1),v)] w:=λw hi z hz=>by
 rw[aQ]at hz
 subst hz
 rw[Nat.mul_one]
 exact(hi.rd hc).at_ ad I j v hv
theorem dG{ad:Addr}(h:UJ w0 1 (some ad) n c xs)(hv:xs[j]? =some v):∀w,Inv w0 [] cs w->cells [(ad.add (j*1),v)] w:=λw hi z hz=>by
 rw[aQ]at hz
 subst hz
 rw[Nat.mul_one]
 exact(h.SS hi).at_ ad I j v hv
theorem UJ.some_(h:UJ w sz A n c xs)(hn:0<n):∃ad,A=some ad:=by
 cases A with
 |none=>have:=(h.nil I).1;omega
 |some ad=>grind
end
section
open Go.ChangeShapes Go.WideShapes
def VS(P:Program)(w:World)(t:TypeId)(cs:List Value):Prop:=
 ∃(H:Type) (enc:TypeId×Value->H) (base n:Nat) (x:DataW H×List MemPlace),DataW.trod enc P w base (λ_=>true) true n t cs=some x/\∀m∈x.1.weights P t,m<=reachBytes
def zp(P:Program)(w:World)(t:TypeId)(v:Value):Prop:=(∃r b,Value.okWide P w r b t v)/\VS P w t v.cells.toList
section
variable{P:Program}{w:World}{t:TypeId}{cs:List Value}{v:Value}
theorem VS.int{k:IntKind}(ht:P.underlying t=some (.int k))(h:VS P w t cs):∃n,cs=[.int k n]/\(Lit.int k n).wf=true:=by
 obtain⟨H,enc,base,n,x,h,_⟩:=h
 grind [DataW.trod_int]
theorem VS.bool(ht:P.underlying t=some .bool)(h:VS P w t cs):∃b,cs=[.bool b]:=by
 obtain⟨H,enc,base,n,x,h,_⟩:=h
 grind [DataW.trod_bool]
theorem VS.string(ht:P.underlying t=some .string)(h:VS P w t cs):∃s,cs=[.string s]/\s.size<=140737488351232:=by
 obtain⟨H,enc,base,n,x,h,hw⟩:=h
 obtain⟨s,h1,h2,_⟩:=DataW.trod_string ht h
 refine⟨s,h1,?_⟩
 rw[h2]at hw
 have:=hw (J s.data.toList) (List.mem_cons_self ..)
 have e:J s.data.toList=s.size:=Array.length_toList
 rw[e]at this
 exact this
theorem OZ{H:Type}{ts:List TypeId}{ds:List (DataW H)}{B:Nat}(h:∀m∈DataW.weightsEach P ts ds,m<=B){j:Nat}{u:TypeId}{d:DataW H}(ht:ts[j]? =some u)(hd:ds[j]? =some d):∀m∈d.weights P u,m<=B:=
 λm hm=>h m (DataW.weights_mem_each ht hd m hm)
theorem KI{H:Type}{e:TypeId}:∀{ds:List (DataW H)} {j:Nat} {d:DataW H},ds[j]? =some d->∀m∈d.weights P e,m∈DataW.weightsAll P e ds
 :=by intro y1;induction y1<;>grind [DataW.weightsAll]
theorem VS.struct{fs:Array Field}(ht:P.underlying t=some (.struct fs))(h:VS P w t cs):J cs=P.cellsOf t/\∀(i:Nat) (f:Field),fs[i]? =some f->VS P w f.type ((cs.drop f.offset).take (P.cellsOf f.type)):=by
 obtain⟨H,enc,base,n,x,h,hw⟩:=h
 obtain⟨xs,n',rfl,rfl,hl,hlen,hf⟩:=DataW.trod_struct ht h
 refine⟨hl,λi f hi=>?_⟩
 have h1:=hf i f hi
 have hlt:i<fs.size:=(Array.getElem?_eq_some_iff.1 hi).1
 have hx:xs[i]? =some (xs[i]'(by omega)):=aj O
 rw[hx]at h1
 refine⟨H,enc,base,n',_,h1,?_⟩
 have:(DataW.agg (xs.map (·.1)):DataW H).weights P t=DataW.weightsEach P (fs.toList.map (·.type)) (xs.map (·.1)):=by simp[DataW.weights,ht]
 rw[this]at hw
 exact OZ hw (j:=i) (by simp[hi]) (by simp[hx])
theorem VS.slice{e:TypeId}(ht:P.underlying t=some (.slice e))(h:VS P w t cs):
  cs=[.slice none 0 0]\/∃(a:Addr) (len cap:Nat),cs=[.slice (some a) len cap]/\len<=cap/\cap<=maxLen/\cap*P.bytesOf e<=140737488351232/\
   ∀i,i<cap->∃es base,w.cells? base (a.add (i*P.cellsOf e)) (P.cellsOf e)=some es/\VS P w e es:=by
 obtain⟨H,enc,base,n,x,h,hw⟩:=h
 rcases DataW.trod_slice ht h with⟨h0,_⟩|⟨a,len,cap,elems,rest,n',rfl,rfl,rfl,_,hl,hm,hlen,hel,hsp,_⟩
 .grind
 obtain⟨hrl,hr⟩:=hsp I
 have hw':∀m∈(J (elems.map (·.1))+J (rest.map (·.1)))*P.bytesOf e::(DataW.weightsAll P e (elems.map (·.1))++DataW.weightsAll P e (rest.map (·.1))),m<=reachBytes:=by
  have:(DataW.slice (elems.map (·.1)) (rest.map (·.1)):DataW H).weights P t=(J (elems.map (·.1))+J (rest.map (·.1)))*P.bytesOf e::(DataW.weightsAll P e (elems.map (·.1))++DataW.weightsAll P e (rest.map (·.1))):=by simp[DataW.weights,ht]
  rw[<-this]
  exact hw
 refine .inr ⟨a,len,cap,I,hl,hm,?_,λi hi=>?_⟩
 .have:=hw' _ (List.mem_cons_self ..)
  simp only[List.length_map,hlen,hrl]at this
  rw[show len+(cap - len)=cap by omega]at this
  exact this
 by_cases hlt:i<len
 .have h1:=hel i hlt
  have hx:elems[i]? =some (elems[i]'(by omega)):=aj O
  rw[hx,Option.bind_eq_some_iff]at h1
  obtain⟨es,h2,h3⟩:=h1
  exact⟨es,_,h2,H,enc,base,n',_,h3,λm hm'=>hw' m (by
   simp only[aI,aK]
   exact .inr (.inl (KI (ds:=elems.map (·.1)) (j:=i) (by simp[hx]) m hm')))⟩
 have h1:=hr (i - len) O
 rw[show len+(i - len)=i by omega]at h1
 have hx:rest[i - len]? =some (rest[i - len]'(by omega)):=aj O
 rw[hx,Option.bind_eq_some_iff]at h1
 obtain⟨es,h2,h3⟩:=h1
 exact⟨es,_,h2,H,enc,base,n',_,h3,λm hm'=>hw' m (by
  simp only[aI,aK]
  exact .inr (.inr (KI (ds:=rest.map (·.1)) (j:=i - len) (by simp[hx]) m hm')))⟩
theorem VS.ints{e:TypeId}{k:IntKind}(ht:P.underlying t=some (.slice e))(he:P.underlying e=some (.int k))(hc:P.cellsOf e=1)(h:VS P w t cs):
  ∃(A:Oa) (c:Nat) (xs:Li),cs=[.slice A (J xs) c]/\Rd w k A (J xs) c xs/\c*P.bytesOf e<=140737488351232/\∀x,x∈xs->(Lit.int k x).wf=true:=by
 rcases h.slice ht with rfl|⟨a,len,cap,rfl,hl,hm,hb,hi⟩
 .exact⟨none,0,[],I,⟨I,aL _,by decide,λ_=>⟨I,I⟩,λ_ h=>by cases h⟩,by simp,λx hx=>by cases hx⟩
 have each:∀i:Nat,∃x:Int,i<cap->w.cell? (a.add i)=some (.int k x)/\(Lit.int k x).wf=true:=λi=>by
  by_cases hlt:i<cap
  .obtain⟨es,base,h1,h2⟩:=hi i hlt
   obtain⟨x,rfl,hw⟩:=h2.int he
   rw[hc,Nat.mul_one]at h1
   have:=(World.cells?_some h1).2.2 0 O
   rw[Go.Ink.rG,Nat.add_zero]at this
   exact⟨x,λ_=>⟨by simpa using this,hw⟩⟩
  exact⟨0,λh=>absurd h hlt⟩
 obtain⟨f,hf⟩:=Classical.axiomOfChoice each
 refine⟨some a,cap,(List.range len).map f,by simp,⟨by simp[ints],by simpa using hl,hm,(λh=>by cases h),?_⟩,hb,?_⟩
 .intro ad e j u hu
  obtain rfl:a=ad:=by simpa using e
  simp only[ints,List.getElem?_map,List.map_map]at hu
  by_cases hj:j<len
  .rw[List.getElem?_range hj]at hu
   simp only[Option.map_some,aW]at hu
   rw[<-hu]
   exact(hf j O).1
  rw[List.getElem?_eq_none gW]at hu
  simp at hu
 intro x hx
 simp only[List.mem_map,List.mem_range]at hx
 obtain⟨i,hi',rfl⟩:=hx
 exact(hf i O).2
theorem zp.int{k:IntKind}(ht:P.underlying t=some (.int k))(h:zp P w t v):∃n,v= .int k n/\(Lit.int k n).wf=true:=by
 obtain⟨⟨r,b,ho⟩,h⟩:=h
 obtain⟨n,rfl⟩:=okWide_int ht ho
 obtain⟨m,h1,h2⟩:=h.int ht
 grind [Value.cells]
theorem zp.bool(ht:P.underlying t=some .bool)(h:zp P w t v):∃b,v= .bool b:=by
 obtain⟨⟨r,b,ho⟩,h⟩:=h
 exact okWide_bool ht ho
theorem zp.string(ht:P.underlying t=some .string)(h:zp P w t v):∃s,v= .string s/\s.size<=140737488351232:=by
 obtain⟨⟨r,b,ho⟩,h⟩:=h
 obtain⟨n,rfl⟩:=okWide_string ht ho
 obtain⟨m,h1,h2⟩:=h.string ht
 grind [Value.cells]
theorem zp.ints{e:TypeId}{k:IntKind}(ht:P.underlying t=some (.slice e))(he:P.underlying e=some (.int k))(hc:P.cellsOf e=1)(h:zp P w t v):
  ∃(A:Oa) (c:Nat) (xs:Li),v= .slice A (J xs) c/\Rd w k A (J xs) c xs/\c*P.bytesOf e<=140737488351232/\∀x,x∈xs->(Lit.int k x).wf=true:=by
 obtain⟨⟨r,b,ho⟩,h⟩:=h
 obtain⟨a,l,c,rfl⟩:=okWide_slice ht ho
 obtain⟨A,c',xs,h1,h2⟩:=h.ints ht he hc
 grind [Value.cells]
theorem zp.struct{fs:Array Field}(ht:P.underlying t=some (.struct fs))(h:zp P w t v):∃cs:List Value,v= .agg cs.toArray/\J cs=P.cellsOf t/\∀(i:Nat) (f:Field),fs[i]? =some f->VS P w f.type ((cs.drop f.offset).take (P.cellsOf f.type)):=by
 obtain⟨⟨r,b,ho⟩,h⟩:=h
 obtain⟨⟨cs⟩,rfl,_⟩:=okWide_struct ht ho
 obtain⟨h1,h2⟩:=h.struct ht
 exact⟨cs,I,h1,h2⟩
end
def Args(P:Program)(w:World):List TypeId->List Value->Prop
 |[],vs=>vs=[]
 |t::ts,vs=>∃v r,vs=v::r/\zp P w t v/\Args P w ts r
theorem MF{H:Type}{enc:TypeId×Value->H}{P:Program}{W:World}{base:Nat}:∀{ts:List TypeId} {vs:List Value} {ds:List (DataW H)} {p:List MemPlace},DataW.TrodAll enc P W 0 (λ_=>true) true ts vs ds p->
  (∀(j:Nat) t v,ts[j]? =some t->vs[j]? =some v->Value.okWide P W .any base t v)->(∀m∈DataW.weightsEach P ts ds,m<=reachBytes)->Args P W ts vs
 |[],[],[],_,_,_,_=>rfl
 |[],_::_,_,_,h,_,_=>by simp[DataW.TrodAll]at h
 |[],[],_::_,_,h,_,_=>by simp[DataW.TrodAll]at h
 |_::_,[],_,_,h,_,_=>by simp[DataW.TrodAll]at h
 |_::_,_::_,[],_,h,_,_=>by simp[DataW.TrodAll]at h
 |t::ts,v::vs,d::ds,_,h,ho,hw=>by
  obtain⟨p,q,⟨n,hn⟩,h2,_⟩:=h
  refine⟨v,vs,I,⟨⟨_,_,ho 0 t v I I⟩,H,enc,0,n,_,hn,λm hm=>hw m ?_⟩,MF h2 (λj t' v' h1 h2=>ho (j+1) t' v' h1 h2) (λm hm=>hw m ?_)⟩
  .grind [DataW.weightsEach]
  grind [DataW.weightsEach]
theorem pV{H:Type}{enc:TypeId×Value->H}{P:Program}(hl:laidOutB P=true){W W':World}(hb:Below W.heap.size W W'):∀{ts:List TypeId} {vs:List Value} {ds:List (DataW H)} {p:List MemPlace},
  ts.all (λt=>P.readableRec t&&decide (t<P.types.size))=true->DataW.TrodAll enc P W 0 (λ_=>true) true ts vs ds p->DataW.TrodAll enc P W' 0 (λb=>decide (b<W.heap.size)) true ts vs ds p
 |[],[],[],_,_,h=>h
 |[],_::_,_,_,_,h=>by simp[DataW.TrodAll]at h
 |[],[],_::_,_,_,h=>by simp[DataW.TrodAll]at h
 |_::_,[],_,_,_,h=>by simp[DataW.TrodAll]at h
 |_::_,_::_,[],_,_,h=>by simp[DataW.TrodAll]at h
 |t::ts,v::vs,d::ds,_,ha,h=>by
  obtain⟨p,q,h1,h2,rfl⟩:=h
  simp only[List.all_cons,aC,ah]at ha
  obtain⟨⟨r1,r2⟩,r3⟩:=ha
  refine⟨p,q,Below.trod hl r1 r2 h1 hb ?_,pV hl hb r3 h2,I⟩
  obtain⟨m,hm⟩:=h1
  exact DataW.trod_lt m _ _ _ hm
theorem tQ{H:Type}{enc:TypeId×Value->H}{P:Program}{W:World}{base:Nat}{sp:Nat->Bool}{hd:Bool}:∀{ts:List TypeId} {vs:List Value} {ds:List (DataW H)} {p:List MemPlace},DataW.TrodAll enc P W base sp hd ts vs ds p->J ds=J ts
 |[],[],[],_,_=>rfl
 |[],_::_,_,_,h=>by simp[DataW.TrodAll]at h
 |[],[],_::_,_,h=>by simp[DataW.TrodAll]at h
 |_::_,[],_,_,h=>by simp[DataW.TrodAll]at h
 |_::_,_::_,[],_,h=>by simp[DataW.TrodAll]at h
 |t::ts,v::vs,d::ds,_,h=>by
  obtain⟨p,q,h1,h2,rfl⟩:=h
  simp[tQ h2]
end
section
variable{C:Cx}{Q:kW}{fr:Fr}{cs:List bH}{ops:Array Oper}{d:Nat}{op:Op}{ty:TypeId}{pos:String}{af:Array Edge}{gd:Option (Nat×Bool)}{V:World->Prop}{v:Value}{g:Bool}{St:Dr}{fuel:Nat}{listed:Array Bool}
theorem wi_y{i:Nat}(hi:ops[i]? =some ⟨some d,op,ty,pos,af,gd⟩)(hg:bM ops fr ⟨some d,op,ty,pos,af,gd⟩ g)(hy:UL C ⟨some d,op,ty,pos,af,gd⟩ fr g V v)(hV:∀w,Inv C.w0 C.S cs w->V w)(hd:Nat.blt d C.N=true)
  (hn:WA C St ops Q fuel (listed.setIfInBounds i true) ((d,bif g then v else undef)::fr) cs):WI C St ops Q fuel listed i fr cs:=λa w hf hi'=>by
 unfold wpOp
 rw[hi]
 simp only[hg _ a hf]
 cases g with
 |true=>
  rw[if_pos rfl]
  refine .inl ?_
  unfold Oper.wp
  rw[hy a w hf (hV w hi') rfl]
  exact YN
 |false=>
  rw[if_neg cE]
  exact YN
theorem vQ{i:Nat}(hi:ops[i]? =some ⟨some d,op,ty,pos,af,none⟩)(hy:UL C ⟨some d,op,ty,pos,af,none⟩ fr true V v)(hV:∀w,Inv C.w0 C.S cs w->V w)(hd:Nat.blt d C.N=true)
  (hn:WA C St ops Q fuel (listed.setIfInBounds i true) ((d,v)::fr) cs):WI C St ops Q fuel listed i fr cs:=wi_y hi fT hy hV hd hn
end
section
variable{C:Cx}{Q:kW}{fr:Fr}{cs:List bH}{ops:Array Oper}{rest:List Oper}{d:Option Nat}{ty T T':TypeId}{pos:String}{af:Array Edge}{gd:Option (Nat×Bool)}{v:Value}{g p:Bool}{x y:Operand}
def S7(A:Oa)(xs:List Value):List (Addr×Value):=match A with|none=>[]|some ad=>eX ad 0 xs
theorem UJ.S7{w:World}{n c:Nat}{A:Oa}{xs:List Value}(h:UJ w 1 A n c xs):cells (Ink.S7 A xs) w:=by
 cases A with
 |none=>intro x hx;cases hx
 |some ad=>
  intro x hx
  obtain⟨j,h1,h2⟩:=gE hx
  rw[h2,bA]
  exact h.at_ ad I j _ h1
variable{n c e:Nat}{xs:Li}
theorem kq{A:Oa}(hS:C.P.underlying T=some (.slice e))(he:C.P.underlying e=some (.int .u8))(hD:C.P.underlying T'=some .string)(hx:Ev fr g x (.slice A n c))(hrd:∃w,Rd w .u8 A n c xs):
  UL C ⟨d,.convert T T' x,ty,pos,af,gd⟩ fr g (cells (S7 A (ints .u8 xs))) (.string (strOfNums xs)):=λa w hf hV hg=>by
 obtain⟨w1,hrd⟩:=hrd
 have hn:J xs=n:=by have:=hrd.len;rw[du]at this;omega
 have h0:A=none->n=0:=λe=>(hrd.nil e).1
 have hr:(convert T T' (.slice A n c)).run C.P w= .ok (.string (strOfNums xs)) w:=by
  cases A with
  |none=>
   have e1:xs=[]:=by have:=h0 I;subst this;exact List.eq_nil_of_length_eq_zero hn
   subst e1
   exact run_convert_bytes_nil w T e hS he n c T' hD
  |some ad=>
   have hl:(loadCells ad n).run C.P w= .ok (xs.map (Value.int .u8)).toArray w:=by
    have:=run_loadCells_list (P:=C.P) w ad (xs.map (Value.int .u8)) (λj v hj=>by
     have h1:=hV (ad.add (0+j),v) (mI (vs:=ints .u8 xs) hj)
     grind)
    simpa[hn]using this
   rw[run_convert_bytes_string w T T' e _ n c hS he hD,run_bytesToString w _ n c xs hl,foldl_push_bytes]
   simp[strOfNums]
 simp[execOp,hx.eval hf hg,hr]
theorem pL{a b:ByteArray}(hT:C.P.underlying T=some .string)(hx:Ev fr g x (.string a))(hy:Ev fr g y (.string b))(hr:(a.data.toList==b.data.toList)=p):UL C ⟨d,.binOp .eql T x y T',ty,pos,af,gd⟩ fr g U4 (.bool p):=λA w hf _ hg=>by
 subst hr
 rw[<-ByteArray.toList_eq a,<-ByteArray.toList_eq b]
 have:(binOp .eql T (.string a) (.string b)).run C.P w= .ok (.bool (a.toList==b.toList)) w:=rfl
 simp[execOp,hx.eval hf hg,hy.eval hf hg,this,eqGuard]
theorem Jw:∀{xs ys:Li},(∀n,n∈xs->0<=n/\n<=255)->(∀n,n∈ys->0<=n/\n<=255)->(strOfNums xs).data.toList=(strOfNums ys).data.toList->xs=ys
 |[],[],_,_,_=>rfl
 |[],_::_,_,_,h=>by simp[strOfNums_data]at h
 |_::_,[],_,_,h=>by simp[strOfNums_data]at h
 |x::xs,y::ys,hx,hy,h=>by
  simp only[strOfNums_data,List.map_cons,List.cons.injEq]at h
  have h1:=hx x cE
  have h2:=hy y cE
  have e:=congrArg UInt8.toNat h.1
  simp only[UInt8.toNat_ofNat']at e
  have:=Jw (xs:=xs) (ys:=ys) (λn hn=>hx n (by simp[hn])) (λn hn=>hy n (by simp[hn])) h.2
  grind
theorem pY{ys:Li}(hx:∀n,n∈xs->0<=n/\n<=255)(hy:∀n,n∈ys->0<=n/\n<=255):((strOfNums xs).data.toList==(strOfNums ys).data.toList)=(xs==ys):=by
 grind [strOfNums,Jw]
variable{bb t:Nat}{xs:List Value}
theorem tP{d:Nat}{St:Dr}{fuel:Nat}{listed:Array Bool}(i:Nat)(hi:ops[i]? =some ⟨some d,.load T x,ty,pos,af,gd⟩)(hsel:Region.noSelect ops=true)(hfree:Region.free .any ops listed i=true)(hst:oS .any ops St.st listed i=true)(hr:(Region.ready .any ops listed).contains i=true)
  (hg:bM ops fr ⟨some d,.load T x,ty,pos,af,gd⟩ g)
  (hc:UQ cs (row bb xs t)) (hT:∀w,(isAgg T).run C.P w= .ok true w) (hs:∀w,(sizeOf T).run C.P w= .ok (J xs) w) (hx:Ev fr g x (.p bb)) (hd:Nat.blt d C.N=true)
  (h:WA C St ops Q fuel (listed.setIfInBounds i true) ((d,bif g then .agg xs.toArray else undef)::fr) cs):WA C St ops Q (fuel+1) listed fr cs:=Η i hi hsel hfree hst hr hg (cj hT hs hx) (wT hc) hd h
variable{o:Nat}
theorem xK{mk:bH->List bH}(hT:∀w,(sizeOf T).run C.P w= .ok 1 w)(hx:ev fr x=some (.pointer (some ⟨bb,o,none⟩)))(hy:ev fr y=some v)(h1:v.oneCell'=true)(hu:At cs (slv e 1 (sA bb) n c xs) mk)(ho:o<n):
  Vx C ⟨d,.store T x y,ty,pos,af,gd⟩ fr cs true (λu cs'=>u=undef/\cs'=mk (slv e 1 (sA bb) n c (xs.set o v))):=λa w hf hi next Q h=>by
 have hown:w.ownsRow 0 e 1 (.slice (sA bb) n c) n xs:=hi.get hu.has
 have hlen:=hown.1
 have hc:w.cell? ⟨bb,o,none⟩=some (xs[o]'(by omega)):=by
  rw[hown.cellAt o O]
  exact aj O
 have hfz:w.frozen? ⟨bb,o,none⟩=false:=hown.frozenAt o
 have hcs:v.cells= #[v]:=by cases v<;>first|rfl|cases h1
 have hr:(execOp a.eval ⟨d,.store T x y,ty,pos,af,gd⟩).run C.P w= .ok .skip (w.setCell ⟨bb,o,none⟩ v):=by
  exact Wq419
 unfold Oper.wp
 rw[hr]
 obtain⟨h2,h3⟩:=hown.stored o v
 have hk:=cX.TJ (show w.grownBy (w.setCell ⟨bb,o,none⟩ v) (Value.slice (sA bb) n c).ownBlock from h3)
 refine h _ _ _ ⟨I,I⟩ (hi.upd (hu _) hk (kI hk h2 λa ha=>?_)) (λe=>by cases e)
 grind [bH.bs,ab]
variable{j:Nat}{k:IntKind}{sz:Nat}
theorem bW{r:Nat}{i:Int}(hT:C.P.underlying T=some (.slice e))(hs:∀w,(sizeOf e).run C.P w= .ok sz w)(hx:Ev fr g x (.slice (some ⟨bb,o,none⟩) n c))(hy:Ev fr g y (.int k i))(hi:g=true->i=(j:Int))(hn:g=true->j<n)(hr:o+j*sz=r):
  UL C ⟨d,.indexAddr T x y,ty,pos,af,gd⟩ fr g U4 (.pointer (some ⟨bb,r,none⟩)):=by
 subst hr
 have h:=cW (C:=C) (d:=d) (ty:=ty) (pos:=pos) (af:=af) (gd:=gd) (T:=T) (fr:=fr) (g:=g) hT hs hx hy hi hn
 grind [Addr.add_lit]
variable{w0:World}{S:List Nat}
theorem cN(hc:UQ cs (slv e 1 (sA bb) n c xs))(hv:xs[j]? =some v):∀w,Inv w0 S cs w->cells [(⟨bb,j,none⟩,v)] w:=λw hi z hz=>by
 rw[aQ]at hz
 subst hz
 have:=(hi.rd hc).at_ _ I j v hv
 grind [Addr.add_lit]
theorem qa{ad:Addr}(h:∀w',cX S w0 w'->UJ w' 1 (some ad) n c xs)(hv:xs[j]? =some v):∀w,Inv w0 S cs w->cells [(ad.add (j*1),v)] w:=λw hi=>
 dG (cs:=[]) (h w hi.S1) hv w ⟨cX.refl _ _,by simp[bK],(λ_ h=>by cases h),(λ_ h=>by simp[bK]at h)⟩
inductive V5:List bH->bH->List bH->Prop
 |head (c:bH) (cs:List bH):V5 (c::cs) c cs
 |tail (d:bH) {cs rest:List bH} {c:bH} (h:V5 cs c rest):V5 (d::cs) c (d::rest)
inductive zh:List bH->List bH->Prop
 |nil (cs:List bH):zh [] cs
 |cons {cs rest cs':List bH} {c:bH} (h:V5 cs c rest) (r:zh cs' rest):zh (c::cs') cs
variable{c:bH}
theorem V5.perm{rest:List bH}(h:V5 cs c rest):cs.Perm (c::rest):=by
 induction h with
 |head=>exact .refl _
 |tail d _ ih=>exact(ih.cons d).trans (.swap _ _ _)
theorem zh.perm{cs' cs:List bH}(h:zh cs' cs):∃r,cs.Perm (cs'++r):=by
 induction h with
 |nil cs=>exact⟨cs,.refl _⟩
 |cons h _ ih=>
  obtain⟨r,ih⟩:=ih
  exact⟨r,h.perm.trans (ih.cons _)⟩
variable{w:World}
theorem Inv.pick{cs':List bH}(h:Inv w0 S cs w)(hp:zh cs' cs):Inv w0 S cs' w:=by
 obtain⟨r,hr⟩:=hp.perm
 have h2:Inv w0 S (cs'++r) w:=⟨h.S1,((hr.flatMap_right bH.bs).nodup_iff).1 h.nodup,λc hc=>h.ok c (hr.mem_iff.2 hc),λb hb=>by
  obtain⟨c,hc,hbc⟩:=dm.1 hb
  exact h.own b (dm.2 ⟨c,hr.mem_iff.2 hc,hbc⟩)⟩
 exact h2.drop (List.sublist_append_left _ _)
theorem iH(cs':List bH){l:List Oper}(hp:zh cs' cs)(h:WL C ops Q l fr cs'):WL C ops Q l fr cs:=λa w hf hi=>h a w hf (hi.pick hp)
theorem bI(cs':List bH){e:Exit}(hp:zh cs' cs)(h:Vh C Q e fr cs'):Vh C Q e fr cs:=λa w hf hi=>h a w hf (hi.pick hp)
theorem r8{σ:Type}{F:σ->Fr}{G:σ->List bH}{ok:σ->Prop}(s:σ)(ho:ok s)(hf:Wk fr (F s))(hg:zh (G s) cs):Vh C (Exit.then (Mid C F G ok) Q) .normal fr cs:=
 λ_ _ hfr hi=>⟨s,ho,hfr.weaken hf,hi.pick hg⟩
theorem Inv.one(h:Inv w0 S cs w)(hc:UQ cs c):Inv w (bK [c]) [c] w:=by
 refine⟨cX.refl _ _,?_,λc' h'=>?_,λb hb=> .inl hb⟩
 .have:([c]:List bH).Sublist cs:=List.singleton_sublist.2 hc.mem
  exact(lx this).nodup h.nodup
 simp only[aQ]at h'
 subst h'
 exact h.get hc
inductive B4:List bH->bH->bH->Prop
 |l {cs:List bH} {c:bH} (d:bH) (h:UQ cs c):B4 (d::cs) d c
 |r {cs:List bH} {c:bH} (d:bH) (h:UQ cs c):B4 (d::cs) c d
 |t (d:bH) {cs:List bH} {c c':bH} (h:B4 cs c c'):B4 (d::cs) c c'
variable{c':bH}
theorem B4.snd(h:B4 cs c c'):UQ cs c':=by
 induction h with
 |l d h=>exact .tail _ h
 |r d h=>exact .head _ _
 |t d _ ih=>exact .tail _ ih
theorem B4.disj(h:B4 cs c c'):(bK cs).Nodup->∀b,b∈c.bs->b∉c'.bs:=by
 induction h with
 |l d h=>
  intro hn b hb hb'
  rw[dB]at hn
  exact(List.nodup_append.1 hn).2.2 b hb b (dm.2 ⟨_,h.mem,hb'⟩) I
 |r d h=>
  intro hn b hb hb'
  rw[dB]at hn
  exact(List.nodup_append.1 hn).2.2 b hb' b (dm.2 ⟨_,h.mem,hb⟩) I
 |t d _ ih=>
  grind [dB]
theorem Inv.rdK{w':World}{cc:Nat}{A:Oa}(h:Inv w0 S cs w)(h2:B4 cs c (slv e sz A n cc xs))(hk:cX (bK [c]) w w'):UJ w' sz A n cc xs:=by
 have hc:=h.get h2.snd
 refine de ((slv e sz A n cc xs).loc w w' (λb hb=>hk.block b ((slv e sz A n cc xs).lt w hc b hb) λhin=>?_) hc)
 have:b∈c.bs:=by simpa[bK]using hin
 exact h2.disj h.nodup b this hb
def pk(bb:Nat)(xs:List Value):List (Addr×Value):=(xs.zipIdx).map λp=>(⟨bb,p.2,none⟩,p.1)
theorem dD(h:xs[o]? =some v):((⟨bb,o,none⟩:Addr),v)∈pk bb xs:=by
 simp only[pk,List.mem_map]
 refine⟨(v,o),?_,I⟩
 grind
theorem bO(hc:UQ cs (row bb xs t)):∀w,Inv w0 S cs w->cells (pk bb xs) w:=λw hi x hx=>by
 simp only[pk,List.mem_map]at hx
 obtain⟨⟨u,o⟩,h1,rfl⟩:=hx
 rw[List.mk_mem_zipIdx_iff_getElem?]at h1
 rw[hi.cell hc]
 exact h1
theorem gu{l l':List (Addr×Value)}(h:∀w,Inv w0 S cs w->cells l w)(h':∀w,Inv w0 S cs w->cells l' w):∀w,Inv w0 S cs w->cells (l++l') w:=λw hi x hx=>
 (aK.1 hx).elim (h w hi x) (h' w hi x)
theorem bX{l:Li}{a:Int}(h:l[j]? =some a):(ints k l)[j]? =some (.int k a):=by simp[ints,h]
theorem jT{z:Value}{bytes:Nat}{kl kc:IntKind}{i1 i2:Int}(ht:C.P.underlying T=some (.slice e))(hinfo:(C.P.info? e).map (λi=>(i.zero,i.size,i.bytes))=some (some z,1,bytes))(hz1:z.cells= #[z])
  (hx:ev fr x=some (.int kl i1)) (hy:ev fr y=some (.int kc i2)) (h1:i1=(n:Int)) (h2:i2=(n:Int)) (cD:bytes*n<=281474976710656) (h63:n<=maxLen):
  Vx C ⟨d,.makeSlice T x y,ty,pos,af,gd⟩ fr cs false (λv cs'=>∃b,v= .slice (sA b) n n/\cs'=cs++[slv e 1 (sA b) n n (R9 n z)]):=λa w hf hi next Q h=>by
 subst h1 h2
 obtain⟨i,hi',hzz⟩:=Option.map_eq_some_iff.1 hinfo
 simp only[aD]at hzz
 obtain⟨hz,hs,hb⟩:=hzz
 obtain⟨w',jU,ho,hg⟩:=run_make_full (P:=C.P) w 0 T e i z 1 ht hi' hz hs kl kc n Do h63 O
 have hr:(execOp a.eval ⟨d,.makeSlice T x y,ty,pos,af,gd⟩).run C.P w= .ok (.value (.slice (sA w.heap.size) n n)) w':=by
  simp[execOp,hf.ev hx,hf.ev hy,jU]
 unfold Oper.wp
 rw[hr]
 rw[hz1,Nat.mul_one,toList_madeCells_one]at ho
 have hk:cX [] w w':=⟨hg.os,hg.tape,hg.output,hg.size,λb hb _=>hg.block b hb cE⟩
 refine h _ _ _ ⟨_,I,I⟩ (hi.more (kI hk ho λa ha=>?_)) (λ_=>?_)
 .grind
 intro ad v hv
 exact(World.cell?_of_block (hk.block _ (World.block_lt_of_cell? w _ hv) cE)).trans hv
end
theorem xG{C:Cx}{Q:kW}{fr:Fr}{cs:List bH}{ops:Array Oper}{St:Dr}{fuel:Nat}{listed:Array Bool}(e sz:Nat)(h:WA C St ops Q fuel listed fr (cs++[slv e sz none 0 0 []])):WA C St ops Q fuel listed fr cs:=λa w hf hi=>h a w hf (hi.more (yE w [] e sz))
theorem dp{w:World}{e n c:Nat}{A:Oa}{xs:List Value}(h:(slv e 1 A n c xs).ok w)(hn:0<n):∃b,A=some ⟨b,0,none⟩:=by
 rcases h.2 with⟨_,h'⟩|⟨g',cap',cur,h',_⟩
 .omega
 grind
def VD{α:Type}(bs:List Nat)(F:α->List bH)(hb:∀a,bK (F a)=bs)(p:α->Prop):bH:=
 .gen bs (λw=>∃a,p a/\(bK (F a)).Nodup/\∀c,c∈F a->c.ok w)
  (λw w' h ⟨a,h1,h2,h3⟩=>⟨a,h1,h2,λc hc=>c.loc w w' (λb hbc=>h b (by grind [dm])) (h3 c hc)⟩)
  (λw ⟨a,h1,h2,h3⟩ b hbb=>by
   rw[<-hb a]at hbb
   obtain⟨c,hc,hbc⟩:=dm.1 hbb
   exact c.lt w (h3 c hc) b hbc)
variable{w0 w:World}{S:List Nat}{cs:List bH}
theorem Inv.perm{cs':List bH}(h:Inv w0 S cs w)(hp:cs.Perm cs'):Inv w0 S cs' w:=
 ⟨h.S1,((hp.flatMap_right bH.bs).nodup_iff).1 h.nodup,λc hc=>h.ok c (hp.mem_iff.2 hc),λb hb=>by
  obtain⟨c,hc,hbc⟩:=dm.1 hb
  exact h.own b (dm.2 ⟨c,hp.mem_iff.2 hc,hbc⟩)⟩
variable{α:Type}{rest:List bH}{F:α->List bH}{p:α->Prop}
theorem Inv.TA{bs:List Nat}{hb:∀a,bK (F a)=bs}(h:Inv w0 S (VD bs F hb p::rest) w):∃a,p a/\Inv w0 S (F a++rest) w:=by
 obtain⟨a,h1,h2,h3⟩:=h.ok _ (List.mem_cons_self ..)
 have e:bK (F a++rest)=bK (VD bs F hb p::rest):=by rw[eT,dB,hb a];rfl
 refine⟨a,h1,h.S1,by rw[e];exact h.nodup,λc hc=>?_,by rw[e];exact h.own⟩
 rcases aK.1 hc with hc|hc
 .grind
 exact h.ok c (bo _ hc)
theorem Inv.Tf{bs:List Nat}{hb:∀a,bK (F a)=bs}(a:α)(hp:p a)(h:Inv w0 S (F a++rest) w):Inv w0 S (VD bs F hb p::rest) w:=by
 have e:bK (F a++rest)=bK (VD bs F hb p::rest):=by rw[eT,dB,hb a];rfl
 have hn:=h.nodup
 rw[eT]at hn
 refine⟨h.S1,by grind [h.nodup],λc hc=>?_,by rw[<-e];exact h.own⟩
 rcases aI.1 hc with rfl|hc
 .exact⟨a,hp,(List.nodup_append.1 hn).1,λc hc=>h.ok c (aK.2 (.inl hc))⟩
 exact h.ok c (aK.2 (.inr hc))
inductive ga:List bH->List bH->List bH->Prop
 |nil (cs:List bH):ga [] cs cs
 |cons {cs rest r:List bH} {c:bH} {cs':List bH} (h:V5 cs c rest) (s:ga cs' rest r):ga (c::cs') cs r
theorem ga.perm{cs' cs r:List bH}(h:ga cs' cs r):cs.Perm (cs'++r):=by
 induction h with
 |nil cs=>exact .refl _
 |cons h _ ih=>exact h.perm.trans (ih.cons _)
section
variable{C:Cx}{Q:kW}{fr:Fr}{cs:List bH}{ops:Array Oper}{α:Type}{bs:List Nat}{F:α->List bH}{hb:∀a,bK (F a)=bs}{p:α->Prop}{r:List bH}
theorem IY{l:List Oper}(hd:V5 cs (VD bs F hb p) r)(h:∀a,p a->WL C ops Q l fr (F a++r)):WL C ops Q l fr cs:=λa w hf hi=>by
 obtain⟨a',h1,h2⟩:=(hi.perm hd.perm).TA
 exact h a' h1 a w hf h2
theorem Ej{l:List Oper}(a:α)(hp:p a)(hs:ga (F a) cs r)(h:WL C ops Q l fr (VD bs F hb p::r)):WL C ops Q l fr cs:=λA w hf hi=>h A w hf ((hi.perm hs.perm).Tf a hp)
end
theorem R8{bs:List Nat}{hb:∀a,bK (F a)=bs}(h:(VD bs F hb p).ok w):∃a,p a/\∀c,UQ (F a) c->c.ok w:=by
 obtain⟨a,h1,_,h3⟩:=h
 exact⟨a,h1,λc hc=>h3 c hc.mem⟩
theorem ctr_E{P:Program}{f:FuncId}{args:List Value}{β:Type}{bs:List Nat}{hb:∀a,bK (F a)=bs}{F':β->List bH}{hb':∀a,bK (F' a)=bs}{p':β->Prop}{K:Value->Prop}
  (hi:Inv w (bK [VD bs F hb p]) [VD bs F hb p] w) (h:∀a,p a->Inv w (bK (F a)) (F a) w->Uz P f args w (F a) (λv cout=>K v/\∃a',p' a'/\cout=F' a')):Uz P f args w [VD bs F hb p] (λv cout=>K v/\cout=[VD bs F' hb' p']):=by
 obtain⟨a,h1,h2⟩:=hi.TA
 have e:bK [VD bs F hb p]=bK (F a):=by rw[dB,xi,ax,hb a];rfl
 rw[ax,e]at h2
 refine Calls.mono (h a h1 h2) ?_
 rintro en w' ⟨v,cout,rfl,⟨hk,a',hp',rfl⟩,hi'⟩
 refine⟨v,_,I,⟨hk,I⟩,?_⟩
 rw[e]
 exact Inv.Tf (rest:=[]) a' hp' Do
theorem bH.old{c:bH}(h:c.ok w0)(hi:Inv w0 [] cs w):c.ok w:=c.loc w0 w (λb hb=>hi.S1.block b (c.lt w0 h b hb) cE) h
variable{bb o t:Nat}{xs:List Value}{v:Value}
theorem cS(h:(row bb xs t).ok w0)(hv:xs[o]? =some v):∀w,Inv w0 [] cs w->cells [(⟨bb,o,none⟩,v)] w:=λw hi z hz=>by
 rw[aQ]at hz
 subst hz
 have h1:w.heap[bb]? =some (.cells xs.toArray t (0,0)):=bH.old h hi
 simp[World.cell?,h1,hv]
variable{vs:List Value}
theorem oz(h:(row bb xs t).ok w0)(hv:(xs.drop o).take (J vs)=vs):∀w,Inv w0 [] cs w->cells (eX ⟨bb,o,none⟩ 0 vs) w:=λw hi z hz=>by
 obtain⟨j,h1,h2⟩:=gE hz
 rw[h2,Addr.add_lit]
 have h3:w.heap[bb]? =some (.cells xs.toArray t (0,0)):=bH.old h hi
 grind [World.cell?]
variable{e sz n c:Nat}{A:Oa}
theorem ee(h:(slv e sz A n c xs).ok w):UJ w sz A n c xs:=de h
section
variable{C:Cx}{fr:Fr}{cs:List bH}{d:Option Tmp}{ty:TypeId}{pos:String}{af:Array Edge}{gd:Option (Nat×Bool)}{v:Value}{x y:Operand}{T T':TypeId}{mk:bH->List bH}{g:Bool}
theorem iJ(hT:∀w,(sizeOf T).run C.P w= .ok 1 w)(hx:ev fr x=some (.pointer (some ⟨bb,o,none⟩)))(hy:ev fr y=some v)(h1:v.oneCell'=true)(hu:At cs (row bb xs t) mk)(ho:o<J xs):
  Vx C ⟨d,.store T x y,ty,pos,af,gd⟩ fr cs true (λu cs'=>u=undef/\cs'=mk (row bb (xs.set o v) t)):=λa w hf hi next Q h=>by
 have hc:=hi.cell hu.has o
 have hfz:=hi.free hu.has o
 have hcs:v.cells= #[v]:=by cases v<;>first|rfl|cases h1
 have hr:(execOp a.eval ⟨d,.store T x y,ty,pos,af,gd⟩).run C.P w= .ok .skip (w.setCell ⟨bb,o,none⟩ v):=by
  exact Wq430
 unfold Oper.wp
 rw[hr]
 exact h _ _ _ ⟨I,I⟩ (hi.set o v (hu _)) (λe=>by cases e)
theorem fN(hT:∀w,(sizeOf T).run C.P w= .ok n w)(hx:ev fr x=some (.pointer (some ⟨bb,o,none⟩)))(hy:ev fr y=some (.agg vs.toArray))(h1:∀u∈vs,u.oneCell'=true)(hu:At cs (row bb xs t) mk)(hn:J vs=n)(ho:o+J vs<=J xs):
  Vx C ⟨d,.store T x y,ty,pos,af,gd⟩ fr cs true (λu cs'=>u=undef/\cs'=mk (row bb (xs.take o++vs++xs.drop (o+J vs)) t)):=λa w hf hi next Q h=>by
 subst hn
 have hg:w.heap[bb]? =some (.cells xs.toArray t (0,0)):=hi.get hu.has
 have hst:=run_storeCells_at C.P bb o t vs 0 xs.toArray w hg O h1
 simp only[Nat.add_zero]at hst
 have hr:(execOp a.eval ⟨d,.store T x y,ty,pos,af,gd⟩).run C.P w= .ok .skip (w.setRow bb (xs.take o++vs++xs.drop (o+J vs)).toArray):=by
  exact Wx84_
 have hsame:∀(k:Nat) (cur:Array Value),k≠bb->(w.setRow bb cur).heap[k]? =w.heap[k]? :=λk cur hk=>by
  exact vD
 have hsz:∀cur,(w.setRow bb cur).heap.size=w.heap.size:=λcur=>by simp_all
 unfold Oper.wp
 rw[hr]
 refine h _ _ _ ⟨I,I⟩ (hi.upd (hu _) ⟨I,I,I,by grind,λk _ hk=>hsame k _ (by grind [bH.bs])⟩ ⟨⟨rfl,rfl,rfl,by grind,λk _ hk=>hsame k _ (by grind [bH.bs])⟩,by simp[bK,row,bH.bs],?_,?_⟩) (λe=>by cases e)
 .intro c hc
  simp only[aQ]at hc
  subst hc
  show(w.setRow bb _).heap[bb]? =_
  exact vD
 grind [bK,bH.bs]
theorem Eb{j:Nat}{i:Int}{k:IntKind}(hT:C.P.underlying T=some (.array n e))(he:∀w,(isAgg e).run C.P w= .ok false w)(hs:∀w,(sizeOf e).run C.P w= .ok 1 w)(hx:Ev fr g x (.agg vs.toArray))(hy:Ev fr g y (.int k i))(hi:g=true->i=(j:Int))(hj:g=true->j<n)(hv:g=true->vs[j]? =some v):
  UL C ⟨d,.index T x y,ty,pos,af,gd⟩ fr g U4 v:=λA w hf _ hg=>by
 have h1:=hx.eval hf hg
 have h2:=hy.eval hf hg
 rw[hi hg]at h2
 have h3:=hj hg
 have h4:=hv hg
 have hr:(Instr.index T (.agg vs.toArray) (.int k (j:Int))).run C.P w= .ok v w:=by
  simp[Instr.index,asIntOf,run_underlying hT,h3,hs,part,he,h4]
 simp_all [execOp]
theorem vP{k:IntKind}{a b:Int}(hx:Ev fr g x (.int k a))(hy:Ev fr g y (.int k b)){r:Int}(hr:(if b>a then b else a)=r):UL C ⟨d,.call {callee:= .builtin .max,args:= #[x,y],argTypes:= #[T,T']},ty,pos,af,gd⟩ fr g U4 (.int k r):=λA w hf _ hg=>by
 subst hr
 simp[execOp,resolve,invoke,builtin,hx.eval hf hg,hy.eval hf hg,Builtin.max_,Builtin.max2]
theorem IQ{P:Program}{z:Value}(h:(P.info? T).bind (·.zero)=some z):∀w,(zeroValue T).run P w= .ok z w:=λw=>by
 obtain⟨i,hi,hz⟩:=Option.bind_eq_some_iff.1 h
 simp[zeroValue,typeInfo,hi,hz]
theorem gY(hz:(C.P.info? T).bind (·.zero)=some (.agg vs.toArray))(hT:(∃fs,C.P.underlying T=some (.struct fs)/\fs.toList.all (λf=>(C.P.info? f.type).isSome)=true)\/∃n e s,C.P.underlying T=some (.array n e)/\∀w,(sizeOf e).run C.P w= .ok s w):
  UL C ⟨d,.build T #[],ty,pos,af,gd⟩ fr g U4 (.agg vs.toArray):=by
 rcases hT with⟨fs,hT,hf⟩|⟨n,e,s,hT,hs⟩
 .exact tJ (ps:=[]) I hT (IQ hz) I hf I (.nil _)
 exact Ed (ps:=[]) I hT (IQ hz) I hs I (.nil _)
theorem Jt{dLen dCap sLen sCap:Nat}{ys:List Value}(hx:ev fr x=some (.slice (some ⟨bb,o,none⟩) dLen dCap))(hy:ev fr y=some (.slice A sLen sCap))(hu:At cs (slv e 1 (sA bb) n c xs) mk)
  (ht:C.P.underlying T=some (.slice e)) (hs:(C.P.info? e).map (·.size)=some 1) (hr:∀w,Inv C.w0 C.S cs w->UJ w 1 A sLen sCap ys) (h1:∀u∈ys,u.oneCell'=true) (hfit:o+min sLen dLen<=n):
  Vx C ⟨d,.call {callee:= .builtin .copy,args:= #[x,y],argTypes:= #[T,T']},ty,pos,af,gd⟩ fr cs true (λv cs'=>v= .i (min sLen dLen:Nat)/\cs'=mk (slv e 1 (sA bb) n c (xs.take o++ys.take (min sLen dLen)++xs.drop (o+min sLen dLen)))):=λa w hf hi next Q h=>by
 have hrd:=hr w hi
 have hyl:=hrd.len
 have hown:w.ownsRow 0 e 1 (.slice (sA bb) n c) n xs:=hi.get hu.has
 have hxl:=hown.1
 obtain⟨hl0,h2⟩:=hown
 rcases h2 with⟨hv,_⟩|⟨g',cap,cur,hv,hg0,hh,hnc,hcm,hcs,htk⟩
 .cases hv
 simp only[Value.slice.injEq,aW,Addr.mk.injEq,and_true,true_and]at hv
 obtain⟨rfl,rfl⟩:=hv
 simp only[Nat.mul_one]at hl0 htk hcs hyl
 obtain⟨m,hm⟩:∃m,m=min sLen dLen:=⟨_,I⟩
 have hm':Nat.min sLen dLen=m:=by rw[hm]
 rw[<-hm]at hfit h
 have htl:J (ys.take m)=m:=by rw[aU];omega
 have hfinal:(cur.toList.take o++ys.take m++cur.toList.drop (o+J (ys.take m))).take n=xs.take o++ys.take m++xs.drop (o+m):=by
  rw[htl,<-htk]
  have hcl:J cur.toList=c:=by simpa using hcs
  apply List.ext_getElem?
  intro j
  simp only[List.getElem?_take,List.getElem?_append,ar,aU,List.getElem?_drop,htl]
  have e1:min o (J cur.toList)=o:=by omega
  have e2:min o (min n (J cur.toList))=o:=by omega
  rw[e1,e2]
  by_cases hjn:j<n
  .grind
  grind
 have key:∃w',(Builtin.copy_ #[T,T'] ty #[.slice (some ⟨bb,o,none⟩) dLen dCap,.slice A sLen sCap]).run C.P w= .ok (goInt m) w'/\cX [bb] w w'/\w'.ownsRow 0 e 1 (.slice (sA bb) n c) n (xs.take o++ys.take m++xs.drop (o+m)):=by
  by_cases hm0:m=0
  .refine⟨w,?_,cX.refl _ _,?_⟩
   .grind [run_copy_none]
   rw[hm0]
   simp only[List.take_zero,ax,Nat.add_zero,List.take_append_drop]
   exact⟨by omega,.inr ⟨bb,c,cur,rfl,hg0,hh,hnc,hcm,by omega,by grind⟩⟩
  cases A with
  |none=>have:=(hrd.nil I).1;omega
  |some ad=>
   have hrow:=run_copy_row C.P w T T' ty e bb o dLen dCap ad sLen sCap cur e (ys.take m) ht hs hh O (λj v hj=>by
    rw[List.getElem?_take]at hj
    split at hj
    ·exact hrd.at_ ad rfl j v hj
    cases hj) O (λv hv=>h1 v (aX hv))
   rw[htl]at hrow
   rw[htl]at hfinal
   refine⟨_,hrow,⟨I,I,I,by simp[World.setRow],λk _ hk=>?_⟩,?_⟩
   .exact vD
   refine⟨?_,.inr ⟨bb,c,(cur.toList.take o++ys.take m++cur.toList.drop (o+m)).toArray,I,hg0,?_,hnc,hcm,?_,?_⟩⟩
   .grind
   .exact vD
   .grind
   grind
 obtain⟨w',jU,hk,ho⟩:=key
 have hr':(execOp a.eval ⟨d,.call {callee:= .builtin .copy,args:= #[x,y],argTypes:= #[T,T']},ty,pos,af,gd⟩).run C.P w= .ok (.value (goInt m)) w':=by
  exact Yt
 unfold Oper.wp
 rw[hr']
 refine h _ _ _ ⟨I,I⟩ (hi.upd (hu _) v6 (kI v6 ho λa ha=>?_)) (λe=>by cases e)
 grind [bH.bs,ab]
theorem eE{f:FuncId}{l:List Operand}{ats:Array TypeId}{K:Value->List bH->Prop}(cin:List bH){rest:List bH}(hl:evs fr l=some vs)(hc:∀args w,(callFunc f args).run C.P w= .ok (.enter f args) w)
  (hp:ga cin cs rest) (h:∀w,Inv C.w0 C.S cs w->Inv w (bK cin) cin w->Uz C.P f vs w cin K):
  Vx C ⟨d,.call {callee:= .value (.func f),args:=l.toArray,argTypes:=ats},ty,pos,af,gd⟩ fr cs true (λv cs'=>∃cout,K v cout/\cs'=cout++rest):=
 Χ cin rest hl hc hp.perm λw hi=>h w hi ⟨cX.refl _ _,by
  have:=((hp.perm.flatMap_right bH.bs).nodup_iff).1 hi.nodup
  grind [bH.bs,bK,eT],λc hc=>hi.ok c (hp.perm.mem_iff.2 (aK.2 (.inl hc))),λb hb=> .inl hb⟩
end
section
variable{C:Cx}{fr:Fr}{cs cs':List bH}{fn:Func}{K:Value->List bH->Prop}
variable{e:Exit}{T tt u:Nat}
theorem JL(he:e= .ret\/e= .normal)(hs:cs'.Sublist cs)(h0:fn.results= #[.tmp u,.cell t T])(h2:look fr u=some v)(h1:look fr t=some (.p bb))(hc:UQ cs (row bb xs tt))
  (hT:∀w,(isAgg T).run C.P w= .ok true w) (hz:∀w,(sizeOf T).run C.P w= .ok (J xs) w) (hk:K (.tuple #[v,.agg xs.toArray]) cs'):Vh C (bodyPost C.P fn (zn C.w0 C.S K)) e fr cs:=
 np he hs (λa w hf hi=>by
  have e1:=hf.at_ t _ h1
  have e2:=hf.at_ u _ h2
  simp only[Array.getD_eq_getD_getElem?]at e1 e2
  simp[results,h0,e1,e2,asAddr,gt hT hz hi hc]) hk
theorem retCC{t2 T2 b2 tt2:Nat}{ys:List Value}(he:e= .ret\/e= .normal)(hs:cs'.Sublist cs)(h0:fn.results= #[.cell t T,.cell t2 T2])(h1:look fr t=some (.p bb))(h2:look fr t2=some (.p b2))(hc:UQ cs (row bb xs tt))(hc2:UQ cs (row b2 ys tt2))
  (hT:∀w,(isAgg T).run C.P w= .ok true w) (hz:∀w,(sizeOf T).run C.P w= .ok (J xs) w) (hT2:∀w,(isAgg T2).run C.P w= .ok true w) (hz2:∀w,(sizeOf T2).run C.P w= .ok (J ys) w) (hk:K (.tuple #[.agg xs.toArray,.agg ys.toArray]) cs'):Vh C (bodyPost C.P fn (zn C.w0 C.S K)) e fr cs:=
 np he hs (λa w hf hi=>by
  have e1:=hf.at_ t _ h1
  have e2:=hf.at_ t2 _ h2
  simp only[Array.getD_eq_getD_getElem?]at e1 e2
  simp[results,h0,e1,e2,asAddr,gt hT hz hi hc,gt hT2 hz2 hi hc2]) hk
theorem ret3{s:Nat}{v' v2:Value}(he:e= .ret\/e= .normal)(hs:cs'.Sublist cs)(h0:fn.results= #[.tmp t,.tmp u,.tmp s])(h1:look fr t=some v)(h2:look fr u=some v')(h3:look fr s=some v2)(hk:K (.tuple #[v,v',v2]) cs'):Vh C (bodyPost C.P fn (zn C.w0 C.S K)) e fr cs:=
 np he hs (λa w hf _=>by
  have e1:=hf.at_ t _ h1
  have e2:=hf.at_ u _ h2
  have e3:=hf.at_ s _ h3
  simp_all [results]) hk
theorem ret4{s r:Nat}{v' v2 v3:Value}(he:e= .ret\/e= .normal)(hs:cs'.Sublist cs)(h0:fn.results= #[.tmp t,.tmp u,.tmp s,.tmp r])(h1:look fr t=some v)(h2:look fr u=some v')(h3:look fr s=some v2)(h4:look fr r=some v3)(hk:K (.tuple #[v,v',v2,v3]) cs'):Vh C (bodyPost C.P fn (zn C.w0 C.S K)) e fr cs:=
 np he hs (λa w hf _=>by
  have e1:=hf.at_ t _ h1
  have e2:=hf.at_ u _ h2
  have e3:=hf.at_ s _ h3
  have e4:=hf.at_ r _ h4
  simp_all [results]) hk
end
section
variable{C:Cx}{fr:Fr}{cs:List bH}{d:Option Tmp}{ty:TypeId}{pos:String}{af:Array Edge}{gd:Option (Nat×Bool)}{v:Value}{x y:Operand}{T:TypeId}{mk:bH->List bH}{g:Bool}
theorem Ju{bytes i n2 c2:Nat}{ad:Addr}{ys:List Value}(hx:ev fr x=some (.slice (sA bb) i c))(hin:i<=n)(hy:ev fr y=some (.slice (some ad) n2 c2))(hu:At cs (slv e 1 (sA bb) n c xs) mk)
  (ht:C.P.underlying T=some (.slice e)) (hel:FM C.P e 1 bytes=true) (hr:∀w,Inv C.w0 C.S cs w->UJ w 1 (some ad) n2 c2 ys) (h1:∀u∈ys,u.oneCell'=true) (hroom:i+n2<=c):
  Vx C ⟨d,.call {callee:= .builtin .append,args:= #[x,y],argTypes:= #[T,T]},ty,pos,af,gd⟩ fr cs true (λv cs'=>v= .slice (sA bb) (i+n2) c/\cs'=mk (slv e 1 (sA bb) (i+n2) c (xs.take i++ys))):=λa w hf hi next Q h=>by
 obtain⟨inf,z,hi0,hz,hsize,hzs,rfl,hsz⟩:=vj hel
 have hrd:=hr w hi
 have hyl:=hrd.len
 have hown:w.ownsRow 0 e 1 (.slice (sA bb) n c) n xs:=hi.get hu.has
 obtain⟨hl0,h2⟩:=hown
 rcases h2 with⟨hv,_⟩|⟨g',cap,cur,hv,hg0,hh,hnc,hcm,hcs,htk⟩
 .cases hv
 simp only[Value.slice.injEq,aW,Addr.mk.injEq,and_true,true_and]at hv
 obtain⟨rfl,rfl⟩:=hv
 simp only[Nat.mul_one]at hcs htk hyl hl0
 have jU:=run_append_room (P:=C.P) w T ty e inf ht hi0 bb i c cur hh ad n2 c2 ys Do (hrd.at_ ad I) h1 hroom Do
 rw[hsize,Nat.mul_one,hyl]at jU
 have hcl:J cur.toList=c:=by simpa using hcs
 have hk:cX [bb] w (w.setRow bb (cur.toList.take i++ys++cur.toList.drop (i+n2)).toArray):=⟨I,I,I,by simp_all,λj _ hj=>by
  grind [World.setRow]⟩
 have ho:(w.setRow bb (cur.toList.take i++ys++cur.toList.drop (i+n2)).toArray).ownsRow 0 e 1 (.slice (sA bb) (i+n2) c) (i+n2) (xs.take i++ys):=by
  refine⟨by grind,.inr ⟨bb,c,(cur.toList.take i++ys++cur.toList.drop (i+n2)).toArray,rfl,hg0,by grind [World.setRow],hroom,hcm,?_,?_⟩⟩
  .grind
  grind
 have hr':(execOp a.eval ⟨d,.call {callee:= .builtin .append,args:= #[x,y],argTypes:= #[T,T]},ty,pos,af,gd⟩).run C.P w= .ok (.value (.slice (sA bb) (i+n2) c)) (w.setRow bb (cur.toList.take i++ys++cur.toList.drop (i+n2)).toArray):=by
  exact Yt
 unfold Oper.wp
 rw[hr']
 refine h _ _ _ ⟨I,I⟩ (hi.upd (hu _) v6 (kI v6 ho λa ha=>?_)) (λe=>by cases e)
 grind [bH.bs,ab]
theorem xv(z:Value)(k:Nat):(Builtin.zeroCells #[z] k).toList=R9 k z:=by
 apply List.ext_getElem
 .simp[Builtin.zeroCells]
 grind [Builtin.zeroCells]
theorem Φ{k cc:Nat}{z:Value}(hx:ev fr x=some (.slice (some ⟨bb,o,none⟩) k cc))(hu:At cs (slv e 1 (sA bb) n c xs) mk)(ht:C.P.underlying T=some (.slice e))(hz:∀w,(zeroValue e).run C.P w= .ok z w)(hz1:z.cells= #[z])(hz2:z.oneCell'=true)(hno:n<=o)(hoc:o+k<=c):
  Vx C ⟨d,.call {callee:= .builtin .clear,args:= #[x],argTypes:= #[T]},ty,pos,af,gd⟩ fr cs true (λv cs'=>v= .tuple #[]/\cs'=mk (slv e 1 (sA bb) n c xs)):=λa w hf hi next Q h=>by
 have hown:w.ownsRow 0 e 1 (.slice (sA bb) n c) n xs:=hi.get hu.has
 obtain⟨hl0,h2⟩:=hown
 rcases h2 with⟨hv,_⟩|⟨g',cap,cur,hv,hg0,hh,hnc,hcm,hcs,htk⟩
 .cases hv
 simp only[Value.slice.injEq,aW,Addr.mk.injEq,and_true,true_and]at hv
 obtain⟨rfl,rfl⟩:=hv
 simp only[Nat.mul_one]at hcs htk
 have hst:=run_storeCells_at C.P bb o e (R9 k z) 0 cur w hh Do (λu hu=>by grind)
 simp only[Nat.add_zero,aB]at hst
 have hcl:J cur.toList=c:=by simpa using hcs
 have key:∃w',(Builtin.clear_ #[T] ty #[.slice (some ⟨bb,o,none⟩) k cc]).run C.P w= .ok (.tuple #[]) w'/\cX [bb] w w'/\w'.ownsRow 0 e 1 (.slice (sA bb) n c) n xs:=by
  cases k with
  |zero=>
   refine⟨w,by simp[Builtin.clear_,run_underlying ht],cX.refl _ _,⟨hl0,.inr ⟨bb,c,cur,rfl,hg0,hh,hnc,hcm,by omega,by grind⟩⟩⟩
  |succ k=>
   refine⟨w.setRow bb (cur.toList.take o++R9 (k+1) z++cur.toList.drop (o+(k+1))).toArray,?_,⟨I,I,I,by simp_all,λj _ hj=>?_⟩,⟨hl0,.inr ⟨bb,c,(cur.toList.take o++R9 (k+1) z++cur.toList.drop (o+(k+1))).toArray,I,hg0,?_,hnc,hcm,?_,?_⟩⟩⟩
   .simp_all [Builtin.clear_,xv,run_underlying]
   .exact vD
   .exact vD
   .grind
   grind
 obtain⟨w',jU,hk,ho⟩:=key
 have hr':(execOp a.eval ⟨d,.call {callee:= .builtin .clear,args:= #[x],argTypes:= #[T]},ty,pos,af,gd⟩).run C.P w= .ok (.value (.tuple #[])) w':=by
  simp[execOp,resolve,invoke,builtin,hf.ev hx,jU]
 unfold Oper.wp
 rw[hr']
 refine h _ _ _ ⟨I,I⟩ (hi.upd (hu _) v6 (kI v6 ho λa ha=>?_)) (λe=>by cases e)
 grind [bH.bs,ab]
variable{lo hi:Nat}{e:TypeId}
theorem kX{r:Nat}{lo? hi? :Option Operand}(hT:C.P.underlying T=some (.slice e))(hs:∀w,(sizeOf e).run C.P w= .ok sz w)(hx:Ev fr g x (.slice (some ⟨bb,o,none⟩) n c))
  (hlo:(lo? =none/\lo=0)\/∃l k,lo? =some l/\Ev fr g l (.int k (lo:Int))) (hhi:(hi? =none/\hi=n)\/∃l k,hi? =some l/\Ev fr g l (.int k (hi:Int))) (h1:lo<=hi) (h2:hi<=c) (h3:lo<c) (hr:o+lo*sz=r):
  UL C ⟨d,.slice T x lo? hi? none,ty,pos,af,gd⟩ fr g U4 (.slice (some ⟨bb,r,none⟩) (hi - lo) (c - lo)):=by
 subst hr
 have h:=xz (C:=C) (d:=d) (ty:=ty) (pos:=pos) (af:=af) (gd:=gd) (T:=T) (fr:=fr) (g:=g) hT hs hx hlo hhi h1 h2
 grind [Addr.add_lit]
theorem D9{r:Addr}{lo? hi? :Option Operand}(hT:C.P.underlying T=some (.slice e))(hs:∀w,(sizeOf e).run C.P w= .ok sz w)(hx:Ev fr g x (.slice A n c))
  (hlo:(lo? =none/\lo=0)\/∃l k,lo? =some l/\Ev fr g l (.int k (lo:Int))) (hhi:(hi? =none/\hi=n)\/∃l k,hi? =some l/\Ev fr g l (.int k (hi:Int))) (h1:lo<=hi) (h2:hi<=c) (hr:(some r:Oa)=(if c=lo then A else A.map (·.add (lo*sz)))):
  UL C ⟨d,.slice T x lo? hi? none,ty,pos,af,gd⟩ fr g U4 (.slice (some r) (hi - lo) (c - lo)):=by
 rw[hr]
 exact xz hT hs hx hlo hhi h1 h2
theorem Nw{mx:Nat}{l h m:Operand}{k k' k2:IntKind}(hT:C.P.underlying T=some (.slice e))(hs:∀w,(sizeOf e).run C.P w= .ok sz w)(hx:Ev fr g x (.slice A n c))
  (hlo:Ev fr g l (.int k (lo:Int))) (hhi:Ev fr g h (.int k' (hi:Int))) (hmx:Ev fr g m (.int k2 (mx:Int))) (h1:lo<=hi) (h2:hi<=mx) (h3:mx<=c):
  UL C ⟨d,.slice T x (some l) (some h) (some m),ty,pos,af,gd⟩ fr g U4 (.slice (if mx=lo then A else A.map (·.add (lo*sz))) (hi - lo) (mx - lo)):=λa w hf _ hg=>by
 have e1:=hlo.eval hf hg
 have e2:=hhi.eval hf hg
 have e3:=hmx.eval hf hg
 have hb:(Instr.sliceBounds true n c (some (.int k (lo:Int))) (some (.int k' (hi:Int))) (some (.int k2 (mx:Int)))).run C.P w= .ok (lo,hi,mx) w:=by
  simp[Instr.sliceBounds,Instr.sliceBound,asIntOf,h1,h2,h3]
 simp[execOp,hx.eval hf hg,e1,e2,e3,Instr.sliceAt,run_underlying hT,Instr.slice,hb,hs]
end
section
variable{C:Cx}{Q:kW}{fr:Fr}{cs:List bH}
variable{mk:bH->List bH}
theorem ig{e:Exit}{c c':bH}(hu:At cs c mk)(hb:c'.bs=c.bs)(hok:∀w,c.ok w->c'.ok w)(h:Vh C Q e fr (mk c')):Vh C Q e fr cs:=
 λa w hf hi=>h a w hf (hi.conv hu hb (hok w))
theorem mM{k:IntKind}{xs:Li}{x:Int}(h:(sl k e A (J (xs++[x])) c (xs++[x])).ok w):(sl k e A (J xs) c xs).ok w:=by
 grind [sl_cut,List.take_left]
theorem fg{d:Option Tmp}{ty:TypeId}{pos:String}{af:Array Edge}{gd:Option (Nat×Bool)}{x y:Operand}{T:TypeId}{ys:List Value}(he:ys=xs.take o++vs++xs.drop (o+J vs))(hT:∀w,(sizeOf T).run C.P w= .ok n w)(hx:ev fr x=some (.pointer (some ⟨bb,o,none⟩)))(hy:ev fr y=some (.agg vs.toArray))(h1:∀u∈vs,u.oneCell'=true)(hu:At cs (row bb xs t) mk)(hn:J vs=n)(ho:o+J vs<=J xs):
  Vx C ⟨d,.store T x y,ty,pos,af,gd⟩ fr cs true (λu cs'=>u=undef/\cs'=mk (row bb ys t)):=by
 subst he
 exact fN hT hx hy h1 hu hn ho
theorem Inv.TC{w':World}{cin:List bH}{cc:Nat}(h:Inv w0 S cs w)(hp:ga cin cs rest)(h2:UQ rest (slv e sz A n cc xs))(hk:cX (bK cin) w w'):UJ w' sz A n cc xs:=by
 have hc:=h.ok _ (hp.perm.symm.subset (List.mem_append_right _ h2.mem))
 refine de ((slv e sz A n cc xs).loc w w' (λb hb=>hk.block b ((slv e sz A n cc xs).lt w hc b hb) λhin=>?_) hc)
 have hn:=((hp.perm.flatMap_right bH.bs).nodup_iff).1 h.nodup
 grind [dm,h2.mem]
end
theorem gD(l:Li)(x:Int):(l++[x])[J l]? =some x:=by simp
theorem qQ{l:Li}(h:0<J l):∃m x,l=m++[x]:=⟨l.dropLast,l.getLast Do,(List.dropLast_concat_getLast _).symm⟩
theorem UJ.S4{w':World}{cin:List bH}{cc:Nat}(h:UJ w0 sz A n cc xs)(hi:Inv w0 [] cs w)(hp:ga cin cs rest)(hk:cX (bK cin) w w'):UJ w' sz A n cc xs:=
 ⟨h.len,h.cap,h.max,h.nil,λad e j u hu=>by
  have h1:=h.at_ ad e j u hu
  have hlt:=World.block_lt_of_cell? w0 _ h1
  refine(World.cell?_of_block ((hk.block _ (Nat.lt_of_lt_of_le hlt hi.S1.size) λhin=>?_).trans (hi.S1.block _ hlt cE))).trans h1
  obtain⟨c,hc,hb⟩:=dm.1 hin
  have hc':=hp.perm.symm.subset (List.mem_append_left _ hc)
  rcases hi.own _ (dm.2 ⟨c,hc',hb⟩)with h2|h2
  ·cases h2
  omega⟩
section
variable{C:Cx}{Q:kW}{fr:Fr}{cs:List bH}{ops:Array Oper}{rest:List Oper}{d:Nat}{op:Op}{ty:TypeId}{pos:String}{af:Array Edge}{v:Value}{g b:Bool}{x y:Code}{id:Nat}{K:Act->World->Prop}
variable{a:List bH}
theorem Zu{b:List bH}(h:a.Sublist b:=by(repeat (first|exact List.Sublist.slnil|refine List.Sublist.cons_cons _ ?_|refine List.Sublist.cons _ ?_))):a.Sublist b:=h
theorem Zh{c:bH}(h:UQ cs c:=by repeat (first|exact UQ.head _ _|apply UQ.tail)):UQ cs c:=h
theorem Zk{a b:α}(h:a=b:=by kernel_rfl):a=b:=h
theorem Zf{a b:Nat}(h:a=b:=by first|exact bA _|exact rfl):a=b:=h
theorem Za{c:bH}{mk:bH->List bH}(h:At cs c mk:=by repeat (first|exact aH|apply aT)):At cs c mk:=h
variable{c:List Value}
theorem Zp{a:List Value}{e:Value}(h:pH a n e c:=by(repeat (first|exact pH.zero _ _ _|apply pH.succ))):pH a n e c:=h
theorem Zb{a:List Value}{l:List (Nat×Value)}(h:fq a l c:=by(repeat (first|exact fq.nil _|(apply fq.cons;(repeat (first|exact pH.zero _ _ _|apply pH.succ)))))):fq a l c:=h
theorem Zd{c:bH}(h:V5 cs c a:=by repeat (first|exact V5.head _ _|apply V5.tail)):V5 cs c a:=h
theorem Zj{c:List bH}(h:zh a c:=by repeat (first|exact zh.nil _|(refine zh.cons (by repeat (first|exact V5.head _ _|apply V5.tail)) ?_))):zh a c:=h
theorem Zi{c e:List bH}(h:ga a c e:=by repeat (first|exact ga.nil _|(apply ga.cons;(repeat (first|exact V5.head _ _|apply V5.tail))))):ga a c e:=h
theorem Zl{a b:Int}(h:a=b:=by first|exact aN _ ⟨by omega,by omega⟩|exact rfl):a=b:=h
theorem Zs(h:WC C x (Exit.then (y.wp C.P Q) Q) fr cs):WC C (.seq x y) Q fr cs:=wc_seq h
theorem Zr{l:List Oper}(h:WL C l.toArray Q l fr cs):WC C (.region id l.toArray false) Q fr cs:=IZ h
theorem Zt(h:WC C y Q fr cs):Vh C (Exit.then (y.wp C.P Q) Q) .normal fr cs:=h
theorem Zn(h:Vh C Q .normal fr cs):WL C ops Q [] fr cs:=h
theorem Zc(h:Vh C Q .normal fr cs):WC C .skip Q fr cs:=Γ h
theorem Ze(h:Vh C Q .ret fr cs):WC C .ret Q fr cs:=wc_ret h
theorem Zw(h:Vh C Q .ret fr cs):Vh C (Exit.then K Q) .ret fr cs:=h
theorem Zo(h:Vh C Q .normal fr cs):Vh C (Exit.inBlock id Q) .normal fr cs:=h
theorem Zq(h:Vh C Q .ret fr cs):Vh C (Exit.inBlock id Q) .ret fr cs:=h
theorem Zx(h:WC C x (Exit.inBlock id Q) fr cs):WC C (.block id x) Q fr cs:=NF h
theorem Zv{x:Operand}{u:Value}(h:ev fr x=some u):Ev fr g x u:=oX h
theorem Zy(hy:UL C ⟨some d,op,ty,pos,af,none⟩ fr true U4 v)(h:WL C ops Q rest ((d,v)::fr) cs)(hd:Nat.blt d C.N=true:=by exact I):WL C ops Q (⟨some d,op,ty,pos,af,none⟩::rest) fr cs:=dW hy (λ_ _=>trivial) hd h
theorem Wl{j:Nat}(h1:(ops[j]?).bind (·.dst)=some e)(h2:look fr e=some (.bool b))(hy:UL C ⟨some d,op,ty,pos,af,some (j,true)⟩ fr b U4 v)(h:WL C ops Q rest ((d,bif b then v else undef)::fr) cs)(hd:Nat.blt d C.N=true:=by exact I):
  WL C ops Q (⟨some d,op,ty,pos,af,some (j,true)⟩::rest) fr cs:=i5 (bP h1 h2) hy (λ_ _=>trivial) hd h
theorem Wm{j:Nat}(h1:(ops[j]?).bind (·.dst)=some e)(h2:look fr e=some (.bool b))(hy:UL C ⟨some d,op,ty,pos,af,some (j,false)⟩ fr (!b) U4 v)(h:WL C ops Q rest ((d,bif !b then v else undef)::fr) cs)(hd:Nat.blt d C.N=true:=by exact I):
  WL C ops Q (⟨some d,op,ty,pos,af,some (j,false)⟩::rest) fr cs:=i5 (bU h1 h2) hy (λ_ _=>trivial) hd h
end
section
variable{C:Cx}{Q:kW}{fr:Fr}{cs:List bH}{ops:Array Oper}{rest:List Oper}{d:Nat}{op:Op}{ty T f:TypeId}{pos:String}{af:Array Edge}{j:Nat×Bool}{gd:Option (Nat×Bool)}{dd:Option Nat}{v:Value}{g p q:Bool}{x y:Operand}{St:Dr}{fuel:Nat}{listed:Array Bool}{bb r t i:Nat}{xs xs':List Value}{mk:bH->List bH}
theorem Vv(h:Ev fr g x v:=by first|exact cU rfl|exact oX rfl):Ev fr g x v:=h
theorem Zpa(h:∃u,ev fr y=some u/\(g=true->p=true->u= .bool q):=by first|exact Ki rfl (λ_=>I)|exact⟨_,rfl,λ_ _=>I⟩|exact pk_gyes rfl (λ_ _=>I)|exact⟨_,rfl,λe _=>by rw[e];rfl⟩):∃u,ev fr y=some u/\(g=true->p=true->u= .bool q):=h
theorem Zpo(h:∃u,ev fr y=some u/\(g=true->p=false->u= .bool q):=by first|exact Kj rfl (λ_=>I)|exact⟨_,rfl,λ_ _=>I⟩|exact pk_gno rfl (λ_ _=>I)|exact⟨_,rfl,λe _=>by rw[e];rfl⟩):∃u,ev fr y=some u/\(g=true->p=false->u= .bool q):=h
theorem Zya(h:UL C ⟨dd,op,ty,pos,af,gd⟩ fr g U4 v:=by first
 |(apply zt;exact Vv)
 |(apply Ef;exact Vv)
 |(apply oK;exact Vv;exact Vv;exact I)
 |(apply zr;exact Vv)
 |(apply Cd;exact Vv;exact Zpa)
 |(apply Nx;exact Vv;exact Zpo)
 |(apply kf;exact Vv;repeat (first|exact .zero _ _|apply Nth.succ))
 |(apply y_not;exact Vv;exact I)
 |(apply xB;exact Vv;exact Vv;exact I)
 |(apply XY;exact⟨_,I⟩;exact Vv)
 |(apply y_lss;exact Vv;exact Vv;exact I)
 |(apply Ya;exact Vv;exact Vv;exact I)
 |(apply y_leq;exact Vv;exact Vv;exact I)
 |(apply XZ;exact Vv;exact Vv;exact I)
 |(apply y_pnil;exact I;exact Vv)
 |(apply y_pnn;exact I;exact Vv)
 |(apply χ;exact I;exact Vv)
 |(apply y_eqlb;exact I;exact Vv;exact Vv;exact I)
 |(apply Ea;exact I;exact Vv;exact Vv;exact I)
 |(apply xA;exact Vv;exact Vv;exact I)
 |(apply m4;exact Vv;exact Vv;exact I)
 |(apply y_xor_;exact Vv;exact Vv;exact I)
 |exact tJ rfl rfl (λ_=>I) rfl rfl rfl Zb
 |exact Ed rfl rfl (λ_=>I) rfl (λ_=>I) rfl Zb):UL C ⟨dd,op,ty,pos,af,gd⟩ fr g U4 v:=h
theorem Zgd{o:Oper}(h:bM ops fr o g:=by first|exact bP rfl rfl|exact bU rfl rfl|exact fx rfl rfl):bM ops fr o g:=h
theorem XK{fr':Fr}(h:Wk fr' fr:=by((repeat' (refine Wk.cons ?_ ?_))<;>first|exact Wk.nil|exact rfl|exact trivial|exact RB rfl (by omega)|exact RB rfl (by simp))):Wk fr' fr:=h
theorem ZA(h:WL C ops Q rest ((d,v)::fr) cs)(hy:UL C ⟨some d,op,ty,pos,af,none⟩ fr true U4 v:=by exact Zya)(hd:Nat.blt d C.N=true:=by exact I):WL C ops Q (⟨some d,op,ty,pos,af,none⟩::rest) fr cs:=dW hy (λ_ _=>trivial) hd h
theorem ZB(h:WL C ops Q rest ((d,bif g then v else undef)::fr) cs)(hg:bM ops fr ⟨some d,op,ty,pos,af,some j⟩ g:=by exact Zgd)(hy:UL C ⟨some d,op,ty,pos,af,some j⟩ fr g U4 v:=by exact Zya)(hd:Nat.blt d C.N=true:=by exact I):
  WL C ops Q (⟨some d,op,ty,pos,af,some j⟩::rest) fr cs:=i5 hg hy (λ_ _=>trivial) hd h
theorem ZC(h:WL C ops Q rest ((d,v)::fr) cs)(hx:Ev fr true x (.pointer (some ⟨bb,r,none⟩)):=by exact Vv)(hT:∀w,(isAgg T).run C.P w= .ok false w:=by exact λ_=>I)(hc:UQ cs (row bb xs t):=by exact Zh)(hv:xs[r]? =some v:=by exact I)(hd:Nat.blt d C.N=true:=by exact I):
  WL C ops Q (⟨some d,.load T x,ty,pos,af,none⟩::rest) fr cs:=dW (bL hT hx) (cO hc hv) hd h
theorem ZD(h:WL C ops Q rest ((d,bif g then v else undef)::fr) cs)(hg:bM ops fr ⟨some d,.load T x,ty,pos,af,some j⟩ g:=by exact Zgd)(hx:Ev fr g x (.pointer (some ⟨bb,r,none⟩)):=by exact Vv)(hT:∀w,(isAgg T).run C.P w= .ok false w:=by exact λ_=>I)(hc:UQ cs (row bb xs t):=by exact Zh)(hv:xs[r]? =some v:=by exact I)(hd:Nat.blt d C.N=true:=by exact I):
  WL C ops Q (⟨some d,.load T x,ty,pos,af,some j⟩::rest) fr cs:=i5 hg (bL hT hx) (cO hc hv) hd h
theorem ZE(i:Nat)(h:WA C St ops Q fuel (listed.setIfInBounds i true) ((d,v)::fr) cs)(hi:ops[i]? =some ⟨some d,op,ty,pos,af,none⟩:=by exact I)(hy:UL C ⟨some d,op,ty,pos,af,none⟩ fr true U4 v:=by exact Zya)(hs:Region.noSelect ops=true:=by kernel_rfl)(hfree:Region.free .any ops listed i=true:=by kernel_rfl)(hr:(Region.ready .any ops listed).contains i=true:=by kernel_rfl)(hd:Nat.blt d C.N=true:=by exact I):
  WA C St ops Q (fuel+1) listed fr cs:=by grind [gC]
theorem ZF(i:Nat)(h:WA C St ops Q fuel (listed.setIfInBounds i true) ((d,bif g then v else undef)::fr) cs)(hi:ops[i]? =some ⟨some d,op,ty,pos,af,some j⟩:=by exact I)(hg:bM ops fr ⟨some d,op,ty,pos,af,some j⟩ g:=by exact Zgd)(hy:UL C ⟨some d,op,ty,pos,af,some j⟩ fr g U4 v:=by exact Zya)(hs:Region.noSelect ops=true:=by kernel_rfl)(hfree:Region.free .any ops listed i=true:=by kernel_rfl)(hr:(Region.ready .any ops listed).contains i=true:=by kernel_rfl)(hd:Nat.blt d C.N=true:=by exact I):
  WA C St ops Q (fuel+1) listed fr cs:=by grind [Ε]
theorem WB(n:Nat){o k:Nat}(h:WL C ops Q rest ((d,.pointer (some ⟨bb,r,none⟩))::fr) cs)(ho:ii C.P T k=some n:=by exact I)(hx:Ev fr true x (.pointer (some ⟨bb,o,none⟩)):=by exact Vv)(hr:o+n=r:=by exact Zf)(hd:Nat.blt d C.N=true:=by exact I):
  WL C ops Q (⟨some d,.fieldAddr T x k,ty,pos,af,none⟩::rest) fr cs:=dW (dq n ho hx hr) (λ_ _=>trivial) hd h
theorem υ(n:Nat){o k:Nat}(h:WL C ops Q rest ((d,bif g then .pointer (some ⟨bb,r,none⟩)else undef)::fr) cs)(hg:bM ops fr ⟨some d,.fieldAddr T x k,ty,pos,af,some j⟩ g:=by exact Zgd)(ho:ii C.P T k=some n:=by exact I)(hx:Ev fr g x (.pointer (some ⟨bb,o,none⟩)):=by exact Vv)(hr:o+n=r:=by exact Zf)(hd:Nat.blt d C.N=true:=by exact I):
  WL C ops Q (⟨some d,.fieldAddr T x k,ty,pos,af,some j⟩::rest) fr cs:=i5 hg (dq n ho hx hr) (λ_ _=>trivial) hd h
theorem Ld(i n:Nat){o k:Nat}(h:WA C St ops Q fuel (listed.setIfInBounds i true) ((d,.pointer (some ⟨bb,r,none⟩))::fr) cs)(hi:ops[i]? =some ⟨some d,.fieldAddr T x k,ty,pos,af,none⟩:=by exact I)(ho:ii C.P T k=some n:=by exact I)(hx:Ev fr true x (.pointer (some ⟨bb,o,none⟩)):=by exact Vv)(hr':o+n=r:=by exact Zf)(hs:Region.noSelect ops=true:=by kernel_rfl)(hfree:Region.free .any ops listed i=true:=by kernel_rfl)(hr:(Region.ready .any ops listed).contains i=true:=by kernel_rfl)(hd:Nat.blt d C.N=true:=by exact I):
  WA C St ops Q (fuel+1) listed fr cs:=gC i hi hs hfree hr (dq n ho hx hr') hd h
theorem τ(i n:Nat){o k:Nat}(h:WA C St ops Q fuel (listed.setIfInBounds i true) ((d,bif g then .pointer (some ⟨bb,r,none⟩)else undef)::fr) cs)(hi:ops[i]? =some ⟨some d,.fieldAddr T x k,ty,pos,af,some j⟩:=by exact I)(hg:bM ops fr ⟨some d,.fieldAddr T x k,ty,pos,af,some j⟩ g:=by exact Zgd)(ho:ii C.P T k=some n:=by exact I)(hx:Ev fr g x (.pointer (some ⟨bb,o,none⟩)):=by exact Vv)(hr':o+n=r:=by exact Zf)(hs:Region.noSelect ops=true:=by kernel_rfl)(hfree:Region.free .any ops listed i=true:=by kernel_rfl)(hr:(Region.ready .any ops listed).contains i=true:=by kernel_rfl)(hd:Nat.blt d C.N=true:=by exact I):
  WA C St ops Q (fuel+1) listed fr cs:=Ε i hi hs hfree hr hg (dq n ho hx hr') hd h
theorem ZG(i:Nat)(h:WA C St ops Q fuel (listed.setIfInBounds i true) ((d,v)::fr) cs)(hi:ops[i]? =some ⟨some d,.load T x,ty,pos,af,none⟩:=by exact I)(hx:Ev fr true x (.pointer (some ⟨bb,r,none⟩)):=by exact Vv)(hT:∀w,(isAgg T).run C.P w= .ok false w:=by exact λ_=>I)(hc:UQ cs (row bb xs t):=by exact Zh)(hv:xs[r]? =some v:=by exact I)
  (hs:Region.noSelect ops=true:=by kernel_rfl) (hfree:Region.free .any ops listed i=true:=by kernel_rfl) (hst:oS .any ops St.st listed i=true:=by kernel_rfl) (hr:(Region.ready .any ops listed).contains i=true:=by kernel_rfl) (hd:Nat.blt d C.N=true:=by exact I):WA C St ops Q (fuel+1) listed fr cs:=sx i hi hs hfree hst hr (bL hT hx) (cO hc hv) hd h
theorem ZI(i:Nat)(h:WA C St ops Q fuel (listed.setIfInBounds i true) ((d,.agg xs.toArray)::fr) cs)(hi:ops[i]? =some ⟨some d,.load T x,ty,pos,af,none⟩:=by exact I)(hx:Ev fr true x (.p bb):=by exact Vv)(hT:∀w,(isAgg T).run C.P w= .ok true w:=by exact λ_=>I)(hc:UQ cs (row bb xs t):=by exact Zh)(hz:∀w,(sizeOf T).run C.P w= .ok (J xs) w:=by exact λ_=>I)
  (hs:Region.noSelect ops=true:=by kernel_rfl) (hfree:Region.free .any ops listed i=true:=by kernel_rfl) (hst:oS .any ops St.st listed i=true:=by kernel_rfl) (hr:(Region.ready .any ops listed).contains i=true:=by kernel_rfl) (hd:Nat.blt d C.N=true:=by exact I):WA C St ops Q (fuel+1) listed fr cs:=by grind [Gk]
theorem ZL(h:WL C ops Q rest fr (mk (row bb xs' t)))(hT:∀w,(sizeOf T).run C.P w= .ok 1 w:=by exact λ_=>I)(hx:ev fr x=some (.pointer (some ⟨bb,r,none⟩)):=by exact I)(hy:ev fr y=some v:=by exact I)(h1:v.oneCell'=true:=by exact I)(hu:At cs (row bb xs t) mk:=by exact Za)(hs:pH xs r v xs':=by exact Zp):
  WL C ops Q (⟨none,.store T x y,ty,pos,af,none⟩::rest) fr cs:=et (mm hT hx hy h1 hu hs) Do
theorem ZM(h:WL C ops Q rest fr (mk (row bb xs' t)))(hx:ev fr x=some (.p bb):=by exact I)(hy:ev fr y=some (.agg xs'.toArray):=by exact I)(hT:∀w,(sizeOf T).run C.P w= .ok (J xs') w:=by exact λ_=>I)(h1:∀u∈xs',u.oneCell'=true:=by exact ka I)(hu:At cs (row bb xs t) mk:=by exact Za)(ho:J xs'=J xs:=by exact I):
  WL C ops Q (⟨none,.store T x y,ty,pos,af,none⟩::rest) fr cs:=et (cH hT hx hy h1 hu ho) Do
theorem ZN{z:Value}(h:∀b,WL C ops Q rest ((d,.p b)::fr) (cs++[row b xs T]))(hz:∀w,(zeroValue T).run C.P w= .ok z w:=by exact λ_=>I)(hzs:z.cells=xs.toArray:=by exact I)(hd:Nat.blt d C.N=true:=by exact I):
  WL C ops Q (⟨some d,.alloc T,ty,pos,af,none⟩::rest) fr cs:=gJ (tV hz hzs) hd Do
theorem ZO(h:∀b,WL C ops Q rest ((d,.p b)::fr) (cs++[row b xs T]))(hx:ev fr x=some v:=by exact I)(hv:v.cells=xs.toArray:=by exact I)(hd:Nat.blt d C.N=true:=by exact I):
  WL C ops Q (⟨some d,.box T x,ty,pos,af,none⟩::rest) fr cs:=gJ (t_box hx hv) hd Do
theorem ZP{z:Value}(h:∀b,WA C St ops Q fuel (listed.setIfInBounds i true) ((d,.p b)::fr) (cs++[row b xs T]))(hi:ops[i]? =some ⟨some d,.alloc T,ty,pos,af,none⟩:=by exact I)(hst:St.st i=false:=by exact I)(hz:∀w,(zeroValue T).run C.P w= .ok z w:=by exact λ_=>I)(hzs:z.cells=xs.toArray:=by exact I)(hd:Nat.blt d C.N=true:=by exact I):
  WI C St ops Q fuel listed i fr cs:=jX hi hst (tV hz hzs) (λe=>by cases e) hd Do
theorem ZQ(h:WA C St ops Q fuel (listed.setIfInBounds i true) fr (mk (row bb xs' t)))(hi:ops[i]? =some ⟨none,.store T x y,ty,pos,af,none⟩:=by exact I)(hst:St.st i=true:=by exact I)(hl:St.l0=[]:=by exact I)(hT:∀w,(sizeOf T).run C.P w= .ok 1 w:=by exact λ_=>I)(hx:ev fr x=some (.pointer (some ⟨bb,r,none⟩)):=by exact I)(hy:ev fr y=some v:=by exact I)(h1:v.oneCell'=true:=by exact I)(hu:At cs (row bb xs t) mk:=by exact Za)(hs:pH xs r v xs':=by exact Zp):
  WI C St ops Q fuel listed i fr cs:=ft hi hst (mm hT hx hy h1 hu hs) (λ_ _ _ _ _ _=>by rw[hl];exact λ_ h=>by cases h) Do
theorem ZR(h:WA C St ops Q fuel (listed.setIfInBounds i true) fr (mk (row bb xs' t)))(hi:ops[i]? =some ⟨none,.store T x y,ty,pos,af,none⟩:=by exact I)(hst:St.st i=true:=by exact I)(hl:St.l0=[]:=by exact I)(hx:ev fr x=some (.p bb):=by exact I)(hy:ev fr y=some (.agg xs'.toArray):=by exact I)(hT:∀w,(sizeOf T).run C.P w= .ok (J xs') w:=by exact λ_=>I)(h1:∀u∈xs',u.oneCell'=true:=by exact ka I)(hu:At cs (row bb xs t) mk:=by exact Za)(ho:J xs'=J xs:=by exact I):
  WI C St ops Q fuel listed i fr cs:=ft hi hst (cH hT hx hy h1 hu ho) (λ_ _ _ _ _ _=>by rw[hl];exact λ_ h=>by cases h) Do
variable{l:List Operand}{ats:Array TypeId}{K:Value->List bH->Prop}
theorem ZS(hc:∀w,Inv C.w0 C.S cs w->Uz C.P f vs w [] K)(h:∀v cs',(∃news,K v news/\cs'=cs++news)->WL C ops Q rest ((d,v)::fr) cs')(hl:evs fr l=some vs:=by exact I)(hf:∀args w,(callFunc f args).run C.P w= .ok (.enter f args) w:=by exact λ_ _=>I)(hd:Nat.blt d C.N=true:=by exact I):
  WL C ops Q (⟨some d,.call {callee:= .value (.func f),args:=l.toArray,argTypes:=ats},ty,pos,af,none⟩::rest) fr cs:=gJ (dQ hl hf hc) hd h
theorem ZT(hc:∀w,Inv C.w0 C.S cs w->Uz C.P f vs w [] K)(h:∀v cs',(∃news,K v news/\cs'=cs++news)->WA C St ops Q fuel (listed.setIfInBounds i true) ((d,v)::fr) cs')(hi:ops[i]? =some ⟨some d,.call {callee:= .value (.func f),args:=l.toArray,argTypes:=ats},ty,pos,af,none⟩:=by exact I)(hst:St.st i=false:=by exact I)(hl:evs fr l=some vs:=by exact I)(hf:∀args w,(callFunc f args).run C.P w= .ok (.enter f args) w:=by exact λ_ _=>I)(hd:Nat.blt d C.N=true:=by exact I):
  WI C St ops Q fuel listed i fr cs:=jX hi hst (dQ hl hf hc) (λe=>by cases e) hd h
end
end Go.Ink
namespace Go.Ink
open List renaming length→J
open IntKind renaming wrap→V9
open Go.RowKit Go.Proofs.Tryz
theorem kA{w:World}{sz n c:Nat}{A:Oa}{xs:List Value}(h:UJ w sz A n c xs):∃w,UJ w sz A n c xs:=⟨w,h⟩
def φ(P:Program)(k:Nat)(T:TypeId)(a b:Value):Prop:=∀w:World,(Op.equalIn k T a b).run P w= .ok true w
def XX(P:Program)(k:Nat)(xs ys:Array Value)(fs:List Field):Prop:=∀w:World,(Op.eqFields k xs ys fs).run P w= .ok true w
section
variable{P:Program}{k:Nat}{T:TypeId}
theorem XX.nil{xs ys:Array Value}:XX P k xs ys []:=λw=>I
theorem XX.cons{xs ys:Array Value}{f:Field}{fs:List Field}{a b:Value}(hn:f.name≠ "_")(ha:∀w,(part f.type xs f.offset).run P w= .ok a w)(hb:∀w,(part f.type ys f.offset).run P w= .ok b w)(he:φ P k f.type a b)(h:XX P k xs ys fs):XX P k xs ys (f::fs):=λw=>by
 simp only[Op.eqFields,if_pos hn,Sem.run_bind,ha w,hb w,Result.andThen_ok,he w,Bool.not_true,Bool.false_eq_true,if_false]
 exact h w
theorem φ.int{kd kd':IntKind}{a:Int}(h:P.underlying T=some (.int kd')):φ P (k+1) T (.int kd a) (.int kd a):=λw=>by
 rw[run_equalIn_int w k T kd kd' a a h,beq_self_eq_true]
theorem φ.bool{a:Bool}(h:P.underlying T=some .bool):φ P (k+1) T (.bool a) (.bool a):=λw=>by
 rw[run_equalIn_bool' w k T a a h,beq_self_eq_true]
theorem φ.struct{xs ys:Array Value}(h:P.underlying T=some (.struct (P.fieldsOf T)))(hp:P.stoodInHeld T=false)(hf:XX P k xs ys (P.fieldsOf T).toList):φ P (k+1) T (.agg xs) (.agg ys):=λw=>by
 rw[run_equalIn_struct w k T xs ys h hp]
 exact hf w
end
section
variable{C:Cx}{fr:Fr}{d:Option Nat}{T T':TypeId}{x y:Operand}{ty:TypeId}{pos:String}{af:Array Edge}{gd:Option (Nat×Bool)}{g:Bool}
theorem y_eqlT{xs ys:Array Value}(hm:C.P.eqGuardType C.P.depth T=false)(he:φ C.P 10000 T (.agg xs) (.agg ys))(hx:Ev fr g x (.agg xs))(hy:Ev fr g y (.agg ys)):UL C ⟨d,.binOp .eql T x y T',ty,pos,af,gd⟩ fr g U4 (.bool true):=λA w hf _ hg=>by
 exact Wx60_
end
def yy:List Nat->Nat->Bool
 |[],_=>false
 |y::l,x=>Nat.beq y x||yy l x
theorem mD{x:Nat}:∀{l:List Nat},yy l x=true<->x∈l
 :=by intro y1;induction y1<;>grind [yy,Nat.eq_of_beq_eq_true,Nat.beq_refl]
structure Sk where
 i:Nat
 k:Nat
 d:List Nat
 l:List Nat
 w:List Nat
def pZ(ops:Array Oper)(p:Nat×Nat):Sk:=
 match ops[p.1]? with
 |some o=>⟨p.1,p.2,o.dst.toList,o.looksAt ops,(o.after.toList.filter (Region.binds .any)).map (·.on)⟩
 |none=>⟨p.1,9,[],[],[]⟩
def xl(x y:Sk):Bool:=x.d.all (λd=> !yy y.l d&& !yy y.d d)&&y.d.all (λd=> !yy x.l d)
def XJ(st:Nat->Bool)(x:Sk):List Sk->List Nat->Bool
 |[],_=>true
 |r::rest,B=>bif r.w.any (λe=>Nat.beq e x.i||yy B e)then XJ st x rest (r.i::B)else xl x r&& !st r.i&&XJ st x rest B
def Mr(n:Nat)(st:Nat->Bool)(x:Sk)(rest:List Sk):Bool:=
 (x.w.all (λe=>Nat.blt e n&& !Nat.beq e x.i&&rest.all (λr=> !Nat.beq r.i e)))&&
 rest.all (λr=> !Nat.beq r.i x.i&&
  match x.k with
  |0=>yy r.w x.i||xl x r
  |1=>yy r.w x.i||(xl x r&& !st r.i)
  |2=>r.w.any (λe=>Nat.beq x.i e||rest.any (λq=>Nat.beq q.i e))
  |4=>true
  |_=>false)&&
 (!Nat.beq x.k 4||XJ st x rest [])
def Chk(n:Nat)(st:Nat->Bool):List Sk->Bool
 |[]=>true
 |x::rest=>Nat.beq x.k 3||(Mr n st x rest&&Chk n st rest)
structure XW(n:Nat)(listed:Array Bool)(l:List Nat):Prop where
 size:listed.size=n
 iff:∀j,listed.getD j true=false<->j∈l
theorem XW.step{n i:Nat}{listed:Array Bool}{l:List Nat}(h:XW n listed (i::l))(hn:i∉l):XW n (listed.setIfInBounds i true) l:=by
 refine⟨by simp[h.size],λj=>?_⟩
 have hi:=(h.iff i).2 cE
 by_cases e:i=j
 .simp_all
 have h1:=h.iff j
 simp only[Array.getD_eq_getD_getElem?,Array.getElem?_setIfInBounds_ne e]at h1|-
 grind
theorem XW.set{n:Nat}{listed:Array Bool}{l l':List Nat}(h:XW n listed l)(hs:∀j,j∈l<->j∈l'):XW n listed l':=⟨h.size,λj=>(h.iff j).trans (hs j)⟩
def ξ(ops:Array Oper)(x:Sk)(o:Oper):Prop:=x.d=o.dst.toList/\x.l=o.looksAt ops/\x.w=(o.after.toList.filter (Region.binds .any)).map (·.on)
theorem mv{ops:Array Oper}{p:Nat×Nat}{o:Oper}(h:ops[p.1]? =some o):(pZ ops p).i=p.1/\(pZ ops p).k=p.2/\ξ ops (pZ ops p) o:=by
 unfold pZ
 rw[h]
 exact⟨I,I,I,I,I⟩
theorem EE{ops:Array Oper}{p:Nat×Nat}:(pZ ops p).i=p.1:=by
 grind [pZ]
theorem ss{ops:Array Oper}{x y:Sk}{ox oy:Oper}(hx:ξ ops x ox)(hy:ξ ops y oy)(h:xl x y=true):ox.apart ops oy=true:=by
 obtain⟨hx1,hx2, -⟩:=hx
 obtain⟨hy1,hy2, -⟩:=hy
 grind [xl,mD,Oper.apart]
theorem lM{ops:Array Oper}{x:Sk}{o:Oper}(h:ξ ops x o){e:Nat}:e∈x.w<->∃z,z∈o.after/\Region.binds .any z=true/\z.on=e:=by
 rw[h.2.2]
 grind
theorem vu{st:Nat->Bool}{x:Sk}:∀(rest:List Sk) (B0:List Nat),XJ st x rest B0=true->∃B:List Nat,(∀b,b∈B0->b∈B)/\(∀r,r∈rest->r.i∉B->xl x r=true/\st r.i=false)/\(∀b,b∈B->b∈B0\/∃r,r∈rest/\r.i=b/\∃e,e∈r.w/\(e=x.i\/e∈B))
 |[],B0,_=>⟨B0,λ_ h=>h,(λr h=>by cases h),λb h=> .inl h⟩
 |r::rest,B0,h=>by
  unfold XJ at h
  cases hw:r.w.any (λe=>Nat.beq e x.i||yy B0 e)with
  |true=>
   rw[hw,ae]at h
   obtain⟨B,h1,h2,h3⟩:=vu rest _ h
   obtain⟨e,he,hx⟩:=List.any_eq_true.1 hw
   refine⟨B,λb hb=>h1 b (bo _ hb),λq hq hn=>?_,λb hb=>?_⟩
   .grind
   grind [mD,Nat.eq_of_beq_eq_true,List.mem_cons_of_mem]
  |false=>
   rw[hw,ac,aC,aC,Bool.not_eq_true']at h
   obtain⟨B,h1,h2,h3⟩:=vu rest _ h.2
   refine⟨B,h1,λq hq hn=>?_,λb hb=>?_⟩
   .grind
   grind
section
variable{P:Program}{ops:Array Oper}{Q:kW}{md:Region.Mode}{St:Dr}
theorem NK{listed:Array Bool}{i:Nat}(h0:listed.getD i true=false):¬(listed.getD i false=true):=by grind
theorem xD{i:Nat}{oi:Oper}{v:Value}{V:World->Prop}(B:List Nat)(hV:∀w w',zg w w'->V w->V w')(hi:ops[i]? =some oi)(hsel:∀(j:Nat) (o:Oper) cs b,ops[j]? =some o->o.op≠ .select cs b)
  (hQ:∀c a w,Q (.panic c) (a.put oi.dst v) w->Q (.panic c) a w):
  ∀(fuel:Nat) (listed:Array Bool) (a:Act) (w:World),
   (∀b,b∈B->listed.getD b true=false/\∀ob,ops[b]? =some ob->∃e∈ob.after,Region.binds md e=true/\(e.on=i\/e.on∈B))->
   (∀j oj,ops[j]? =some oj->j≠i->listed.getD j true=false->j∉B->oi.apart ops oj=true/\St.st j=false)->
   i∈Region.ready md ops listed->YieldsIf P ops V oi v a->V w->
   rT P md ops Q St fuel (listed.setIfInBounds i true) (a.put oi.dst v) w->rT P md ops Q St (fuel+1) listed a w:=by
 intro fuel
 induction fuel with
 |zero=>
  intro listed a w _ _ hr hy hS H
  refine⟨λh=>Do,λj hj=>?_⟩
  by_cases hji:j=i
  .exact QW
  have:=ready_mono hj hji
  rw[H.1]at this
  cases this
 |succ fuel ih=>
  intro listed a w hB hfree hr hy hS H
  refine⟨λh=>Do,λj hj=>?_⟩
  by_cases hji:j=i
  .exact QW
  have h1:=H.2 j (ready_mono hj hji)
  obtain⟨hjun,oj,hoj,hall⟩:=mem_ready.1 hj
  have hjB:j∉B:=λhm=>by
   grind [NK,mem_ready]
  obtain⟨hap,hst⟩:=hfree j oj hoj hji hjun hjB
  have h2:=wpOp_putIf hoj hap (λcs b=>hsel i oi cs b hi) (λcs b=>hsel j oj cs b hoj) hQ hy h1
  have hB':∀b,b∈B->(listed.setIfInBounds j true).getD b true=false/\∀ob,ops[b]? =some ob->∃e∈ob.after,Region.binds md e=true/\(e.on=i\/e.on∈B):=λb hb=>by
   refine⟨?_,(hB b hb).2⟩
   have hne:¬j=b:=λe=>hjB Do
   simp_all
  have hfree':∀k ok,ops[k]? =some ok->k≠i->(listed.setIfInBounds j true).getD k true=false->k∉B->oi.apart ops ok=true/\St.st k=false:=λk ok hk hki hun hno=>by
   refine hfree k ok hk hki ?_ hno
   by_cases hjk:j=k
   .grind
   simp_all
  grind [wpOp_mono,ready_mono,Array.setIfInBounds_comm]
end
section
variable{ops:Array Oper}{st:Nat->Bool}{i k:Nat}{s:List (Nat×Nat)}{listed:Array Bool}{oi:Oper}
theorem oA{j:Nat}(h:j∈s.map (·.1)):∃q,q∈s.map (pZ ops)/\q.i=j/\∀o,ops[j]? =some o->ξ ops q o:=by
 obtain⟨p,hp,rfl⟩:=List.mem_map.1 h
 exact⟨pZ ops p,List.mem_map.2 ⟨p,hp,I⟩,EE,λo ho=>(mv ho).2.2⟩
theorem ED{q:Sk}(h:q∈s.map (pZ ops)):q.i∈s.map (·.1):=by
 grind [EE]
theorem vt(hi:ops[i]? =some oi)(hL:XW ops.size listed (((i,k)::s).map (·.1)))(hc:Mr ops.size st (pZ ops (i,k)) (s.map (pZ ops))=true):i∈Region.ready .any ops listed:=by
 obtain⟨e1, -,hk⟩:=mv (p:=(i,k)) hi
 have e1:(pZ ops (i,k)).i=i:=e1
 simp only[Mr,aC,List.all_eq_true]at hc
 rw[mem_ready]
 refine⟨(hL.iff i).2 cE,oi,hi,λe he hb=>?_⟩
 obtain⟨⟨h1,h2⟩,h3⟩:=hc.1.1 e.on ((lM hk).2 ⟨e,he,hb,I⟩)
 have hlt:e.on<ops.size:=by simpa[Nat.blt_eq]using h1
 have hne:e.on≠i:=by
  intro h
  rw[e1,h]at h2
  simp at h2
 cases hg:listed.getD e.on true with
 |true=>
  grind [hL.size]
 |false=>
  have:=(hL.iff e.on).1 hg
  simp only[List.map_cons,aI,hne,false_or]at this
  obtain⟨q,hq,e3, -⟩:=oA (ops:=ops) this
  have:=h3 q hq
  simp_all
theorem DM(hc:Mr ops.size st (pZ ops (i,k)) (s.map (pZ ops))=true):i∉s.map (·.1):=λh=>by
 simp only[Mr,aC,List.all_eq_true]at hc
 obtain⟨q,hq,e3, -⟩:=oA (ops:=ops) h
 have:=(hc.1.2 q hq).1
 simp_all [EE]
theorem Qj(hi:ops[i]? =some oi)(hL:XW ops.size listed (((i,k)::s).map (·.1)))(hc:Mr ops.size st (pZ ops (i,k)) (s.map (pZ ops))=true)(hk:k=0\/k=1)(j:Nat)(oj:Oper)
  (hj:ops[j]? =some oj) (hne:j≠i) (hun:listed.getD j true=false) (hno:∀e∈oj.after,Region.binds .any e=true->e.on≠i):oi.apart ops oj=true/\(k=1->st j=false):=by
 have hjm:=(hL.iff j).1 hun
 simp only[List.map_cons,aI,hne,false_or]at hjm
 obtain⟨q,hq,e3,e4⟩:=oA (ops:=ops) hjm
 have hq4:=e4 oj hj
 obtain⟨e1,e2,hkx⟩:=mv (p:=(i,k)) hi
 simp only[Mr,aC,List.all_eq_true]at hc
 have h1:=(hc.1.2 q hq).2
 grind [yy,lM,mD,ss]
theorem Qi(hi:ops[i]? =some oi)(hL:XW ops.size listed (((i,2)::s).map (·.1)))(hc:Mr ops.size st (pZ ops (i,2)) (s.map (pZ ops))=true)(j:Nat)(hj:j∈Region.ready .any ops listed):j=i:=by
 obtain⟨hun,oj,hoj,hall⟩:=mem_ready.1 hj
 have hjm:=(hL.iff j).1 hun
 simp only[List.map_cons,aI]at hjm
 rcases hjm with h|hjm
 .exact h
 exfalso
 obtain⟨q,hq,e3,e4⟩:=oA (ops:=ops) hjm
 obtain⟨e1,e2,hkx⟩:=mv (p:=(i,2)) hi
 simp only[Mr,aC,List.all_eq_true]at hc
 have h1:=(hc.1.2 q hq).2
 rw[e2,e1]at h1
 obtain⟨e,he,h2⟩:=List.any_eq_true.1 h1
 obtain⟨z,z1,z2,z3⟩:=(lM (e4 oj hoj)).1 he
 have hz:=hall z z1 z2
 rw[z3]at hz
 have hin:e∈((i,2)::s).map (·.1):=by
  simp only[Bool.or_eq_true,List.any_eq_true]at h2
  rcases h2 with h2|⟨q2,hq2,h2⟩
  .simp_all
  grind [ED,Nat.eq_of_beq_eq_true]
 have hf:=(hL.iff e).2 hin
 grind
end
def WS(C:Cx)(St:Dr)(ops:Array Oper)(Q:kW)(s:List (Nat×Nat))(fr:Fr)(cs:List bH):Prop:=
 ∀fuel listed,J s<=fuel->XW ops.size listed (s.map (·.1))->Chk ops.size St.st (s.map (pZ ops))=true->Region.noSelect ops=true->WA C St ops Q fuel listed fr cs
def WSI(C:Cx)(St:Dr)(ops:Array Oper)(Q:kW)(i:Nat)(s:List (Nat×Nat))(fr:Fr)(cs:List bH):Prop:=
 ∀fuel listed,J s<=fuel->XW ops.size (listed.setIfInBounds i true) (s.map (·.1))->Chk ops.size St.st (s.map (pZ ops))=true->Region.noSelect ops=true->WI C St ops Q fuel listed i fr cs
section
variable{C:Cx}{Q:kW}{fr:Fr}{cs:List bH}{ops:Array Oper}{d:Nat}{op:Op}{ty:TypeId}{pos:String}{af:Array Edge}{gd:Option (Nat×Bool)}{V:World->Prop}{v:Value}{g:Bool}{St:Dr}{i:Nat}{s:List (Nat×Nat)}
def Sched(ops:Array Oper)(st:Nat->Bool)(s:List (Nat×Nat)):Bool:=
 Region.noSelect ops&&Nat.ble (J s) ops.size&&(List.range ops.size).all (λj=>yy (s.map (·.1)) j)&&s.all (λp=>Nat.blt p.1 ops.size)&&Chk ops.size st (s.map (pZ ops))
theorem ik{id:Nat}{l:List Oper}(St:Dr)(s:List (Nat×Nat))(hm:C.P.follows .mixedOrders=true)(hc:Sched l.toArray St.st s=true)(h:WS C St l.toArray Q s fr cs):WC C (.region id l.toArray true) Q fr cs:=by
 simp only[Sched,aC,List.all_eq_true,List.mem_range,mD,Nat.blt_eq,Nat.ble_eq]at hc
 obtain⟨⟨⟨⟨h1,h2⟩,h3⟩,h4⟩,h5⟩:=hc
 refine bN St hm (h _ _ O ⟨by simp,λj=>?_⟩ h5 h1)
 constructor
 .grind
 intro hj
 obtain⟨p,hp,rfl⟩:=List.mem_map.1 hj
 have:=h4 p hp
 simp_all
theorem kr(h:Vh C Q .normal fr cs):WS C St ops Q [] fr cs:=λfuel listed _ hL _ _=>I1 (by
 refine List.eq_nil_iff_forall_not_mem.2 λj hj=>?_
 have:=(hL.iff j).1 (mem_ready.1 hj).1
 cases this) h
theorem yW{x:Sk}{rest:List Sk}{n:Nat}{st:Nat->Bool}(h:Chk n st (x::rest)=true)(hk:x.k≠3):Mr n st x rest=true/\Chk n st rest=true:=by
 simp_all [Chk]
theorem Eg{k:Nat}(hk:k=0\/k=1)(hV:∀w w',zg w w'->V w->V w')(hi:ops[i]? =some ⟨some d,op,ty,pos,af,gd⟩)(hg:bM ops fr ⟨some d,op,ty,pos,af,gd⟩ g)(hy:UL C ⟨some d,op,ty,pos,af,gd⟩ fr g V v)
  (hcl:(∀w,V w)\/k=1\/(∀w w',(cells St.l0 w->cells St.l0 w')->V w->V w')) (hW:∀w,Inv C.w0 C.S cs w->V w) (hd:Nat.blt d C.N=true)
  (h:WS C St ops Q s ((d,bif g then v else undef)::fr) cs):WS C St ops Q ((i,k)::s) fr cs:=λfuel listed hf hL hc hn=>by
 obtain⟨e1,e2,e3⟩:=mv (p:=(i,k)) hi
 have hk3:(pZ ops (i,k)).k≠3:=by rw[e2];rcases hk with rfl|rfl;exact(by decide:(0:Nat)≠3);exact(by decide:(1:Nat)≠3)
 obtain⟨c1,c2⟩:=yW hc hk3
 have hL2:=hL.step (DM c1)
 obtain⟨fuel,rfl⟩:∃m,fuel=m+1:=⟨fuel - 1,by grind⟩
 have h2:=h fuel _ Do hL2 c2 hn
 exact λa w hfr hi'=>jp (V:=V) hV hi (Region.noSelect_spec hn) (λ_ _ _ h=>h) fuel listed a w
  (λj oj hj hne hun hno=>by
   grind [Qj])
  (vt hi hL c1) (i4 hg hy hfr) (hW w hi') (h2 _ w (hfr.put kP _) hi')
theorem qJ(hi:ops[i]? =some ⟨some d,op,ty,pos,af,gd⟩)(hg:bM ops fr ⟨some d,op,ty,pos,af,gd⟩ g)(hy:UL C ⟨some d,op,ty,pos,af,gd⟩ fr g U4 v)(hd:Nat.blt d C.N=true)
  (h:WS C St ops Q s ((d,bif g then v else undef)::fr) cs):WS C St ops Q ((i,0)::s) fr cs:=
 Eg (.inl rfl) (λ_ _ _ h=>h) hi hg hy (.inl λ_=>trivial) (λ_ _=>trivial) hd h
theorem dX(hi:ops[i]? =some ⟨some d,op,ty,pos,af,none⟩)(hy:UL C ⟨some d,op,ty,pos,af,none⟩ fr true U4 v)(hd:Nat.blt d C.N=true)
  (h:WS C St ops Q s ((d,v)::fr) cs):WS C St ops Q ((i,0)::s) fr cs:=qJ hi fT hy hd h
variable{l:List (Addr×Value)}
theorem NB(hi:ops[i]? =some ⟨some d,op,ty,pos,af,gd⟩)(hg:bM ops fr ⟨some d,op,ty,pos,af,gd⟩ g)(hy:UL C ⟨some d,op,ty,pos,af,gd⟩ fr g (cells l) v)(hV:∀w,Inv C.w0 C.S cs w->cells l w)(hd:Nat.blt d C.N=true)
  (h:WS C St ops Q s ((d,bif g then v else undef)::fr) cs):WS C St ops Q ((i,1)::s) fr cs:=
 Eg (.inr rfl) (λ_ _ hp h x hx=>hp _ _ (h x hx)) hi hg hy (.inr (.inl I)) hV hd h
theorem Cf(hi:ops[i]? =some ⟨some d,op,ty,pos,af,none⟩)(hy:UL C ⟨some d,op,ty,pos,af,none⟩ fr true (cells l) v)(hV:∀w,Inv C.w0 C.S cs w->cells l w)(hd:Nat.blt d C.N=true)
  (h:WS C St ops Q s ((d,v)::fr) cs):WS C St ops Q ((i,1)::s) fr cs:=NB hi fT hy hV hd h
variable{xs:List Value}
theorem qL{T:TypeId}{x:Operand}{bb t:Nat}(hi:ops[i]? =some ⟨some d,.load T x,ty,pos,af,none⟩)(hc:UQ cs (row bb xs t))(hT:∀w,(isAgg T).run C.P w= .ok true w)(hs:∀w,(sizeOf T).run C.P w= .ok (J xs) w)(hx:Ev fr true x (.p bb))(hd:Nat.blt d C.N=true)
  (h:WS C St ops Q s ((d,.agg xs.toArray)::fr) cs):WS C St ops Q ((i,1)::s) fr cs:=Cf hi (cj hT hs hx) (wT hc) hd h
theorem ws_l4(hi:ops[i]? =some ⟨some d,op,ty,pos,af,gd⟩)(hg:bM ops fr ⟨some d,op,ty,pos,af,gd⟩ g)(hy:UL C ⟨some d,op,ty,pos,af,gd⟩ fr g (cells l) v)(hV:∀w,Inv C.w0 C.S cs w->cells l w)(hd:Nat.blt d C.N=true)
  (h:WS C St ops Q s ((d,bif g then v else undef)::fr) cs):WS C St ops Q ((i,4)::s) fr cs:=λfuel listed hf hL hc hn=>by
 obtain⟨e1,e2,e3⟩:=mv (p:=(i,4)) hi
 have hk3:(pZ ops (i,4)).k≠3:=by rw[e2];exact(by decide:(4:Nat)≠3)
 obtain⟨c1,c2⟩:=yW hc hk3
 have hnew:=DM c1
 have hL2:=hL.step hnew
 have h4:XJ St.st (pZ ops (i,4)) (s.map (pZ ops)) []=true:=by
  have c3:=c1
  simp only[Mr,aC,e2]at c3
  simpa using c3.2
 obtain⟨B, -,b2,b3⟩:=vu _ _ h4
 obtain⟨fuel,rfl⟩:∃m,fuel=m+1:=⟨fuel - 1,by grind⟩
 have h2:=h fuel _ Do hL2 c2 hn
 have hin:∀b,b∈s.map (·.1)->listed.getD b true=false:=λb hb=>(hL.iff b).2 Do
 exact λa w hfr hi'=>xD (V:=cells l) B (λ_ _ hp h x hx=>hp _ _ (h x hx)) hi (Region.noSelect_spec hn) (λ_ _ _ h=>h) fuel listed a w
  (λb hb=>by
   rcases b3 b hb with h5|⟨r,hr,rfl,e,he,hx⟩
   ·cases h5
   obtain⟨p,hp,rfl⟩:=List.mem_map.1 hr
   refine⟨hin _ (ED (List.mem_map.2 ⟨p,hp,I⟩)),λob hob=>?_⟩
   rw[EE]at hob
   obtain⟨z,z1,z2,z3⟩:=(lM (mv hob).2.2).1 he
   grind)
  (λj oj hj hne hun hno=>by
   have hjm:=(hL.iff j).1 hun
   simp only[List.map_cons,aI,hne,false_or]at hjm
   obtain⟨q,hq,q3,q4⟩:=oA (ops:=ops) hjm
   grind [ss])
  (vt hi hL c1) (i4 hg hy hfr) (hV w hi') (h2 _ w (hfr.put kP _) hi')
theorem wh(hi:ops[i]? =some ⟨some d,op,ty,pos,af,none⟩)(hy:UL C ⟨some d,op,ty,pos,af,none⟩ fr true (cells l) v)(hV:∀w,Inv C.w0 C.S cs w->cells l w)(hd:Nat.blt d C.N=true)
  (h:WS C St ops Q s ((d,v)::fr) cs):WS C St ops Q ((i,4)::s) fr cs:=ws_l4 hi fT hy hV hd h
theorem Ce{T:TypeId}{x:Operand}{bb t:Nat}(hi:ops[i]? =some ⟨some d,.load T x,ty,pos,af,none⟩)(hc:UQ cs (row bb xs t))(hT:∀w,(isAgg T).run C.P w= .ok true w)(hs:∀w,(sizeOf T).run C.P w= .ok (J xs) w)(hx:Ev fr true x (.p bb))(hd:Nat.blt d C.N=true)
  (h:WS C St ops Q s ((d,.agg xs.toArray)::fr) cs):WS C St ops Q ((i,4)::s) fr cs:=wh hi (cj hT hs hx) (wT hc) hd h
theorem ws_1{oi:Oper}(hi:ops[i]? =some oi)(h:WSI C St ops Q i s fr cs):WS C St ops Q ((i,2)::s) fr cs:=λfuel listed hf hL hc hn=>by
 obtain⟨e1,e2,e3⟩:=mv (p:=(i,2)) hi
 have hk3:(pZ ops (i,2)).k≠3:=by rw[e2];exact(by decide:(2:Nat)≠3)
 obtain⟨c1,c2⟩:=yW hc hk3
 have hr:=vt hi hL c1
 obtain⟨fuel,rfl⟩:∃m,fuel=m+1:=⟨fuel - 1,by grind⟩
 have h2:=h fuel listed Do (hL.step (DM c1)) c2 hn
 exact λa w hfr hi'=>⟨λh0=>Do,λj hj=>by
  have:=Qi hi hL c1 j hj
  subst this
  exact h2 a w hfr hi'⟩
inductive XP (C:Cx) (St:Dr) (ops:Array Oper) (Q:kW) (fr:Fr) (cs:List bH):List (Nat×List (Nat×Nat))->Prop
 |nil:XP C St ops Q fr cs []
 |cons {i:Nat} {s:List (Nat×Nat)} {L:List (Nat×List (Nat×Nat))} (h:WSI C St ops Q i s fr cs) (t:XP C St ops Q fr cs L):XP C St ops Q fr cs ((i,s)::L)
theorem XP.get{L:List (Nat×List (Nat×Nat))}(h:XP C St ops Q fr cs L):∀p,p∈L->WSI C St ops Q p.1 p.2 fr cs:=by
 induction h with
 |nil=>grind
 |cons h _ ih=>
  grind
def Forks(ops:Array Oper)(st:Nat->Bool)(s:List (Nat×Nat))(L:List (Nat×List (Nat×Nat))):Bool:=
 (s.map (pZ ops)).all (λq=>yy (L.map (·.1)) q.i||q.w.any (λe=>yy (s.map (·.1)) e))&&
 L.all (λp=>Nat.blt (J p.2) (J s)&&yy (s.map (·.1)) p.1&& !yy (p.2.map (·.1)) p.1&&s.all (λq=>Nat.beq q.1 p.1||yy (p.2.map (·.1)) q.1)&&p.2.all (λq=>yy (s.map (·.1)) q.1)&&Chk ops.size st (p.2.map (pZ ops)))&&
 !L.isEmpty&&(L.all λp=>((pZ ops (p.1,0)).w.all λe=>Nat.blt e ops.size&& !yy (s.map (·.1)) e)&&Nat.blt p.1 ops.size)
end
structure St where
 pc:Int
 d:List Int
 r:List Int
 flags:Int
 Sy:Bool
 SJ:Bool
 ie:Bool
 root:Int
 vec:Int
 epc:Int
 SB:Int
 addr:Int
 SO:Bool
 eie:Bool
 count:Int
 halted:Bool
abbrev St.cells(s:St)(dv rv:Value):List Value:=
 [.w s.pc,dv,rv,.w s.flags,.bool s.Sy,.bool s.SJ,.bool s.ie,.w s.root,.w s.vec,.w s.epc,.w s.SB,.w s.addr,.bool s.SO,.bool s.eie,.int .u64 s.count,.bool s.halted]
def Va(b:Bool):Int:=bif b then 1 else 0
def St.zero:St:=⟨0,[],[],0,false,false,false,0,0,0,0,0,false,false,0,false⟩
def St.set(s:St)(reg v:Int):St×Bool:=
 bif reg==0 then({s with ie:=v !=0},true)else bif reg==1 then({s with SJ:=v !=0},true)else bif reg==2 then({s with root:=bits .andNot .u32 v 63},true)else bif reg==3 then({s with vec:=v},true)else
 bif reg==4 then({s with epc:=v},true)else bif reg==5 then({s with SB:=v},true)else bif reg==6 then({s with addr:=v},true)else bif reg==7 then({s with SO:=v !=0},true)else bif reg==8 then({s with eie:=v !=0},true)else
 bif reg==10 then({s with flags:=bits .and .u32 v 15},true)else(s,false)
def u32(x:Int):Prop:=0<=x/\x<=4294967295
def UO(l:Li):Prop:=∀x,x∈l->0<=x/\x<=255
section
attribute [local irreducible] UL bM
def St.Tb(s:St):List Int:=[Va s.ie,Va s.SJ,s.root,s.vec,s.epc,s.SB,s.addr,Va s.SO,Va s.eie,V9 .u32 s.count,s.flags]
end
end Go.Ink
namespace Go.Ink
open List renaming length→J, replicate→R9
open IntKind renaming wrap→V9
open Go.RowKit Go.Proofs.Tryz
variable{j:Nat}
structure dz(B ow pr:Li):Prop where
 b:J B=16384
 ow:J ow=256
 pr:J pr=4
section
attribute [local irreducible] UL bM
variable{n k:Nat}
structure ez where
 bp:Nat
 bt:Nat
 bf:Nat
 bg:Nat
 bm:Nat
 o:Nat
 n:Nat
 gw:List Int
 gB:List Int
 gp:List Int
def ez.oth(L:ez)(f:Nat):Bool:=match L.gw[f]? with|some x=>x != -1&&x !=(L.o:Int)|none=>false
structure Uy where
 data:List Int
 SD:List Bool
structure Cb where
 B:List Int
 ow:List Int
 pr:List Int
 fr:List Int
 gd:List Bool
structure dK(L:ez)(M:Uy)(k:Cb):Prop where
 pl:dz k.B k.ow k.pr
 o4:L.o<4
 n1:1<=L.n
 n64:L.n<=64
 fr:J k.fr=L.n
 gd:J k.gd=L.n
 dl:J M.data=L.n*64
 tl:J M.SD=64
 db:UO M.data
 SR:∀p,p<L.n->(k.fr[p]? =some (-1)/\∀j,j<64->M.data[p*64+j]? =some 0)\/(∃f:Nat,k.fr[p]? =some (f:Int)/\16<=f/\f<256/\k.ow[f]? =some (L.o:Int)/\∀j,j<64->k.B[f*64+j]? =M.data[p*64+j]?)
 inj:∀p q f:Nat,k.fr[p]? =some (f:Int)->k.fr[q]? =some (f:Int)->p=q
 held:∀f:Nat,f<256->(L.oth f=false/\k.ow[f]? =some (-1))\/(L.oth f=false/\k.ow[f]? =some (L.o:Int)/\∃p:Nat,k.fr[p]? =some (f:Int))\/(L.oth f=true/\k.ow[f]? =L.gw[f]? /\∀j,j<64->k.B[f*64+j]? =L.gB[f*64+j]?)
 prom:k.pr[L.o]? =some (L.n:Int)
 prs:k.pr=L.gp
 cap:L.n<=J ((List.range' 16 240).filter (λf=> !L.oth f))
section
variable{L:ez}{M:Uy}{k:Cb}
theorem dK.at_(h:dK L M k){a:Nat}(ha:a<L.n*64):∃b,M.data[a]? =some b/\0<=b/\b<=255:=by
 have hl:a<J M.data:=by rw[h.dl];exact ha
 refine⟨M.data[a],aj hl,h.db _ (List.getElem_mem hl)⟩
end
structure TE where
 valid:Bool
 vpn:Int
 pfn:Int
 bits:Int
def TE.zero:TE:=⟨false,0,0,0⟩
def TE.cells(e:TE):List Value:=[.bool e.valid,.w e.vpn,.w e.pfn,.w e.bits]
structure Tr where
 SB:Int
 addr:Int
abbrev Tr.cells(t:Tr):List Value:=[.i t.SB,.w t.addr]
abbrev Tr.v(t:Tr):Value:= .agg t.cells.toArray
end
end Go.Ink
namespace Go.Ink
open List renaming length→J
open IntKind renaming wrap→V9
open Go.RowKit
variable{a:Nat}
theorem Dc(ha:a<18446744073709551616):(BitVec.ofInt IntKind.u64.bits (a:Int)).toNat=a:=by rw[BitVec.toNat_ofInt];show((a:Int)%((18446744073709551616:Nat):Int)).toNat=a;omega
variable{b:Nat}
structure HI where
  op:Int
  rd:Int
  ra:Int
  rb:Int
  imm:Int
def HI.zero:HI:=⟨0,0,0,0,0⟩
structure HM where
  Tb:List Int
  words:List Int
  pc:Int
def kJ(op a b:Int):Int:=
  bif op==2 then a else bif op==3 then V9 .u64 (a+b)else bif op==4 then V9 .u64 (a - b)else bif op==5 then bits .and .u64 a b else bif op==6 then bits .or .u64 a b else bif op==7 then bits .xor .u64 a b else
  bif op==8 then V9 .u64 (a*2^(min b.toNat IntKind.u64.bits))else bif op==9 then a.fdiv (2^(min b.toNat IntKind.u64.bits))else bif op==10 then V9 .u64 (a*b)else
  bif op==11 then(bif b==0 then 0 else V9 .u64 (a.tdiv b))else bif op==12 then Va (decide (a<b))else Va (a==b)
abbrev rg(R:Li)(k:Int):Int:=R.getD k.toNat 0
def qk(R:Li)(i:HI):Int:=V9 .u64 (rg R i.ra+i.imm)
def V0(i:HI)(m:HM):Int×HM:=
  bif i.op==0 then(0,⟨m.Tb,m.words,m.pc+1⟩)else
  bif i.op==1 then(0,⟨m.Tb.set i.rd.toNat i.imm,m.words,m.pc+1⟩)else
  bif i.op==14||i.op==15 then
    (bif decide ((J m.words:Int)<=qk m.Tb i)then(4,m)else
     bif i.op==14 then(0,⟨m.Tb.set i.rd.toNat (m.words.getD (qk m.Tb i).toNat 0),m.words,m.pc+1⟩)
     else(0,⟨m.Tb,m.words.set (qk m.Tb i).toNat (V9 .u32 (rg m.Tb i.rb)),m.pc+1⟩))else
  bif i.op==16||i.op==17 then(0,⟨m.Tb,m.words,bif(rg m.Tb i.ra==0)==(i.op==16)then i.imm else m.pc+1⟩)else
  bif i.op==18 then(0,⟨m.Tb,m.words,i.imm⟩)else
  bif i.op==19 then(1,m)else(0,⟨m.Tb.set i.rd.toNat (kJ i.op (rg m.Tb i.ra) (rg m.Tb i.rb)),m.words,m.pc+1⟩)
def SW(C:List HI)(m:HM):Int×HM:=
  bif decide (m.pc<0)||decide ((J C:Int)<=m.pc)then(2,m)else V0 (C.getD m.pc.toNat HI.zero) m
def jU(C:List HI):Nat->HM->(Int×Int)×HM
  |0,m=>((5,0),m)
  |f+1,m=>bif(SW C m).1==0 then jU C f (SW C m).2 else bif(SW C m).1==1 then((1,(C.getD (SW C m).2.pc.toNat HI.zero).imm),(SW C m).2)else(((SW C m).1,0),(SW C m).2)
structure Uv(C:List HI)(k:Nat)(l:List HI)(R W:Li)(M:HM):Prop where
  at_:C.drop k=l
  rl:J R=16
  wl:J W=256
  ends:∃f,jU C f ⟨R,W,(k:Int)⟩=((1,1),M)
section
variable{C l:List HI}{k:Nat}{R W:Li}{M:HM}{i:HI}
theorem Uv.code(h:Uv C k (i::l) R W M):k<J C/\C.getD k HI.zero=i/\C.drop (k+1)=l:=by
  grind [h.at_,List.drop_eq_nil_of_le,List.drop_eq_getElem_cons,List.getElem?_eq_getElem]
theorem Uv.SW(h:Uv C k (i::l) R W M):SW C ⟨R,W,(k:Int)⟩=V0 i ⟨R,W,(k:Int)⟩:=by
  grind [h.code,Ink.SW,V0,HI.zero]
end
end Go.Ink
