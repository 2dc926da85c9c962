/- Lemmas. -/
import Derived.Test.YtgpahfcaecojgaaGreatDoorPaa
set_option linter.all false
set_option maxRecDepth 100000
set_option maxHeartbeats 4000000
namespace Go.Ink
open Go.RowKit
abbrev Fr:=List (Nat×Value)
def look:Fr->Nat->Option Value
 |[],_=>none
 |(k,v)::fr,t=>bif Nat.beq k t then some v else look fr t
structure ro(N:Nat)(fr:Fr)(a:Act):Prop where
 size:a.tmps.size=N
 defs:a.defers=[]
 at_:∀t v,look fr t=some v->a.tmps.getD t undef=v
theorem ro.put{N d:Nat}{fr:Fr}{a:Act}(h:ro N fr a)(hd:d<N)(v:Value):ro N ((d,v)::fr) (a.put (some d) v):=by
 refine⟨by simp[Act.put,h.size],h.defs,λt u hl=>?_⟩
 simp only[look]at hl
 by_cases e:d=t
 .simp_all [h.size,Act.put]
 have e':Nat.beq d t=false:=by cases h':Nat.beq d t with|false=>rfl|true=>simp_all
 rw[e']at hl
 simp only[ah]at hl
 have:=h.at_ t u hl
 simp_all [Act.put]
def ev(fr:Fr):Operand->Option Value
 | .tmp t=>look fr t
 | .const v=>some v
 | .global g=>some (.p g)
 | .func f=>some (.func (.func f) #[] #[])
theorem ro.ev{N:Nat}{fr:Fr}{a:Act}(h:ro N fr a){x:Operand}{v:Value}(he:ev fr x=some v):a.eval x=v:=by
 cases x with
 |tmp t=>exact h.at_ t v he
 |const u=>exact ay he
 |global g=>exact ay he
 |func f=>exact ay he
def Ev(fr:Fr)(g:Bool)(x:Operand)(v:Value):Prop:=∃u,ev fr x=some u/\(g=true->u=v)
theorem Ev.eval{N:Nat}{fr:Fr}{g:Bool}{a:Act}{x:Operand}{v:Value}(h:Ev fr g x v)(hf:ro N fr a)(hg:g=true):a.eval x=v:=by
 obtain⟨u,hu,e⟩:=h
 rw[<-e hg]
 exact hf.ev hu
def Wk(fr':Fr):Fr->Prop
 |[]=>True
 |(t,v)::fr=>look fr' t=some v/\Wk fr' fr
theorem Wk.look{fr':Fr}:∀{fr:Fr} {t:Nat} {v:Value},Wk fr' fr->look fr t=some v->Ink.look fr' t=some v
 |[],_,_,_,h=>by cases h
 |(k,u)::fr,t,v,hw,h=>by
  simp only[Ink.look]at h
  by_cases e:k=t
  .subst e
   simp only[Nat.beq_refl,ai,bo]at h
   subst h
   exact hw.1
  have e':Nat.beq k t=false:=by cases h':Nat.beq k t with|false=>rfl|true=>simp_all
  rw[e']at h
  exact Wk.look hw.2 h
theorem ro.weaken{N:Nat}{fr fr':Fr}{a:Act}(h:ro N fr' a)(hw:Wk fr' fr):ro N fr a:=
 ⟨h.size,h.defs,λt v hl=>h.at_ t v (hw.look hl)⟩
def ab:Option Addr->List Nat
 |some a=>[a.block]
 |none=>[]
inductive bJ where
 |row (b:Nat) (xs:List Value) (t:TypeId)
 |slv (e sz:Nat) (A:Oa) (n c:Nat) (xs:List Value)
 |gen (bs:List Nat) (ok:World->Prop) (loc:∀w w':World,(∀b,b∈bs->w'.heap[b]? =w.heap[b]?)->ok w->ok w') (lt:∀w:World,ok w->∀b,b∈bs->b<w.heap.size)
abbrev row(b:Nat)(xs:List Value)(t:TypeId):bJ:= .row b xs t
abbrev slv(e sz:Nat)(A:Oa)(n c:Nat)(xs:List Value):bJ:= .slv e sz A n c xs
def bJ.bs:bJ->List Nat
 | .row b _ _=>[b]
 | .slv _ _ A _ _ _=>ab A
 | .gen bs _ _ _=>bs
def bJ.ok:bJ->World->Prop
 | .row b xs t,w=>w.heap[b]? =some (.cells xs.toArray t (0,0))
 | .slv e sz A n c xs,w=>w.ownsRow 0 e sz (.slice A n c) n xs
 | .gen _ ok _ _,w=>ok w
theorem bJ.loc(c:bJ)(w w':World)(h:∀b,b∈c.bs->w'.heap[b]? =w.heap[b]?)(hk:c.ok w):c.ok w':=by
 match c,h,hk with
 | .row b xs t,h,hk=>
  show w'.heap[b]? =_
  rw[h b (by simp[bJ.bs])]
  exact hk
 | .slv e sz A n c xs,h,hk=>
  obtain⟨h1,h2⟩:=hk
  refine⟨h1,?_⟩
  grind [bJ.bs,ab]
 | .gen bs ok loc lt,h,hk=>exact loc w w' h hk
theorem bJ.lt(c:bJ)(w:World)(hk:c.ok w):∀b,b∈c.bs->b<w.heap.size:=by
 match c,hk with
 | .row b xs t,hk=>
  intro x hx
  simp only[bJ.bs,aC]at hx
  subst hx
  have hk:w.heap[x]? =_:=hk
  grind
 | .slv e sz A n c xs,hk=>
  intro b hb
  obtain⟨h1,h2⟩:=hk
  grind [bJ.bs,ab]
 | .gen bs ok loc lt,hk=>exact lt w hk
structure dc(S:List Nat)(w w':World):Prop where
 os:w'.os=w.os
 tape:w'.tape=w.tape
 output:w'.output=w.output
 size:w.heap.size<=w'.heap.size
 block:∀b,b<w.heap.size->b∉S->w'.heap[b]? =w.heap[b]?
theorem dc.refl(S:List Nat)(w:World):dc S w w:=⟨rfl,rfl,rfl,aL _,λ_ _ _=>rfl⟩
theorem dc.Xe{w w':World}(h:Below w.heap.size w w')(S:List Nat):dc S w w':=⟨h.os,h.tape,h.output,h.size,λb hb _=>h.block b hb⟩
theorem dc.below{w w':World}(h:dc [] w w'):Below w.heap.size w w':=⟨h.os,h.tape,h.output,h.size,λb hb=>h.block b hb cP⟩
def bK(cs:List bJ):List Nat:=cs.flatMap bJ.bs
structure Inv(w0:World)(S:List Nat)(cs:List bJ)(w:World):Prop where
 WB:dc S w0 w
 nodup:(bK cs).Nodup
 ok:∀c,c∈cs->c.ok w
 own:∀b,b∈bK cs->b∈S\/w0.heap.size<=b
theorem dj{cs:List bJ}{b:Nat}:b∈bK cs<->∃c,c∈cs/\b∈c.bs:=by grind [bK]
theorem Inv.lt{w0 w:World}{S:List Nat}{cs:List bJ}(h:Inv w0 S cs w):∀b,b∈bK cs->b<w.heap.size:=by
 intro b hb
 obtain⟨c,hc,hbc⟩:=dj.1 hb
 exact c.lt w (h.ok c hc) b hbc
theorem fm(xs ys:List bJ):bK (xs++ys)=bK xs++bK ys:=by simp[bK]
theorem eI(c:bJ)(ys:List bJ):bK (c::ys)=c.bs++bK ys:=by simp[bK]
theorem zC:bK []=[]:=rfl
theorem Inv.step{w0 w w':World}{S:List Nat}{cs cs' cin rest cout:List bJ}(h:Inv w0 S cs w)(hp:cs.Perm (cin++rest))(hp':cs'.Perm (cout++rest))
  (hk:dc (bK cin) w w') (hout:Inv w (bK cin) cout w'):Inv w0 S cs' w':=by
 have hpb:∀b,b∈bK cs<->b∈bK cin\/b∈bK rest:=λb=>by
  grind [dj]
 have hnd:(bK cin++bK rest).Nodup:=by
  rw[<-fm]
  exact((hp.flatMap_right bJ.bs).nodup_iff).1 h.nodup
 obtain⟨hn1,hn2,hn3⟩:=List.nodup_append.1 hnd
 have hlt:=h.lt
 have hrest:∀c,c∈rest->c.ok w':=λc hc=>by
  refine c.loc w w' (λb hb=>hk.block b ?_ ?_) (h.ok c (hp.mem_iff.2 (az.2 (.inr hc))))
  .exact hlt b ((hpb b).2 (.inr (dj.2 ⟨c,hc,hb⟩)))
  grind [dj]
 have hmem':∀c,c∈cs'<->c∈cout\/c∈rest:=λc=>by grind
 refine⟨⟨hk.os.trans h.WB.os,hk.tape.trans h.WB.tape,hk.output.trans h.WB.output,aK h.WB.size hk.size,λb hb hS=>?_⟩,?_,?_,?_⟩
 .refine(hk.block b (Nat.lt_of_lt_of_le hb h.WB.size) (λhin=>?_)).trans (h.WB.block b hb hS)
  rcases h.own b ((hpb b).2 (.inl hin))with h1|h1
  .exact hS h1
  omega
 .have:(bK cout++bK rest).Nodup:=by
   refine List.nodup_append.2 ⟨hout.nodup,hn2,λx hx y hy=>?_⟩
   rintro rfl
   rcases hout.own x hx with h1|h1
   .grind
   grind
  rw[<-fm]at this
  exact((hp'.flatMap_right bJ.bs).nodup_iff).2 this
 .intro c hc
  rcases(hmem' c).1 hc with hc|hc
  .exact hout.ok c hc
  grind
 intro b hb
 obtain⟨c,hc,hbc⟩:=dj.1 hb
 rcases(hmem' c).1 hc with hc|hc
 .rcases hout.own b (dj.2 ⟨c,hc,hbc⟩)with h1|h1
  .exact h.own b ((hpb b).2 (.inl h1))
  grind [h.WB.size]
 exact h.own b ((hpb b).2 (.inr (dj.2 ⟨c,hc,hbc⟩)))
theorem Inv.more{w0 w w':World}{S:List Nat}{cs news:List bJ}(h:Inv w0 S cs w)(hout:Inv w [] news w'):Inv w0 S (cs++news) w':=
 h.step (cin:=[]) (rest:=cs) (cout:=news) (List.Perm.refl _) List.perm_append_comm hout.WB hout
theorem lv{cs cs':List bJ}(h:cs'.Sublist cs):(bK cs').Sublist (bK cs):=by
 induction h with
 |slnil=>grind
 |cons c _ ih=>grind [eI]
 |cons_cons c _ ih=>grind [eI]
theorem Inv.drop{w0 w:World}{S:List Nat}{cs cs':List bJ}(h:Inv w0 S cs w)(hs:cs'.Sublist cs):Inv w0 S cs' w:=
 ⟨h.WB,(lv hs).nodup h.nodup,λc hc=>h.ok c (hs.subset hc),λb hb=>h.own b ((lv hs).subset hb)⟩
inductive Upd:List bJ->bJ->bJ->List bJ->Prop
 |head (c c':bJ) (cs:List bJ):Upd (c::cs) c c' (c'::cs)
 |tail (d:bJ) {cs cs':List bJ} {c c':bJ} (h:Upd cs c c' cs'):Upd (d::cs) c c' (d::cs')
theorem Upd.perm{cs cs':List bJ}{c c':bJ}(h:Upd cs c c' cs'):∃rest,cs.Perm ([c]++rest)/\cs'.Perm ([c']++rest)/\c∈cs:=by
 induction h with
 |head c c' cs=>exact⟨cs,.refl _,.refl _,by simp⟩
 |tail d _ ih=>
  obtain⟨rest,h1,h2,h3⟩:=ih
  exact⟨d::rest,(h1.cons d).trans (List.perm_middle (l₁:=[_])).symm,(h2.cons d).trans (List.perm_middle (l₁:=[_])).symm,List.mem_cons_of_mem _ h3⟩
theorem Inv.upd{w0 w w':World}{S:List Nat}{cs cs':List bJ}{c c':bJ}(h:Inv w0 S cs w)(hu:Upd cs c c' cs')(hk:dc c.bs w w')(hout:Inv w c.bs [c'] w'):Inv w0 S cs' w':=by
 obtain⟨rest,h1,h2,h3⟩:=hu.perm
 have e:bK [c]=c.bs:=by simp[bK]
 exact h.step h1 h2 bY bY
inductive Has:List bJ->bJ->Prop
 |head (c:bJ) (cs:List bJ):Has (c::cs) c
 |tail (d:bJ) {cs:List bJ} {c:bJ} (h:Has cs c):Has (d::cs) c
theorem Has.mem{cs:List bJ}{c:bJ}(h:Has cs c):c∈cs:=by
 induction h with
 |head=>simp
 |tail d _ ih=>grind
theorem Inv.get{w0 w:World}{S:List Nat}{cs:List bJ}{c:bJ}(h:Inv w0 S cs w)(hc:Has cs c):c.ok w:=h.ok c hc.mem
theorem Bu(w:World)(o:Obj):(w.alloc o).heap[w.heap.size]? =some o:=heap_alloc_new w o
theorem Inv.alloc{w0 w:World}{S:List Nat}{cs:List bJ}(h:Inv w0 S cs w)(xs:List Value)(t:TypeId):Inv w0 S (cs++[row w.heap.size xs t]) (w.alloc (.cells xs.toArray t)):=by
 refine h.more ⟨dc.Xe ((Below.refl _ _).alloc (aL _) _) _,by simp[bK,row,bJ.bs],?_,?_⟩
 .intro c hc
  simp only[aC]at hc
  subst hc
  exact Bu w _
 grind [bK,bJ.bs]
theorem Inv.drew{w0 w:World}{S:List Nat}{cs:List bJ}(h:Inv w0 S cs w):Inv w0 S cs w.drew:=
 ⟨⟨h.WB.os,h.WB.tape,h.WB.output,h.WB.size,h.WB.block⟩,h.nodup,λc hc=>c.loc w _ (λ_ _=>rfl) (h.ok c hc),h.own⟩
theorem Inv.cell{w0 w:World}{S:List Nat}{cs:List bJ}{b:Nat}{xs:List Value}{t:TypeId}(h:Inv w0 S cs w)(hc:Has cs (row b xs t))(j:Nat):w.cell? ⟨b,j,none⟩=xs[j]? :=by
 have:w.heap[b]? =some (.cells xs.toArray t (0,0)):=h.get hc
 simp[World.cell?,this]
theorem Inv.free{w0 w:World}{S:List Nat}{cs:List bJ}{b:Nat}{xs:List Value}{t:TypeId}(h:Inv w0 S cs w)(hc:Has cs (row b xs t))(j:Nat):w.frozen? ⟨b,j,none⟩=false:=by
 have:w.heap[b]? =some (.cells xs.toArray t (0,0)):=h.get hc
 simp[World.frozen?,this]
theorem Upd.has{cs cs':List bJ}{c c':bJ}(h:Upd cs c c' cs'):Has cs c:=by
 induction h with
 |head=>exact .head _ _
 |tail d _ ih=>exact .tail d ih
theorem Inv.set{w0 w:World}{S:List Nat}{cs cs':List bJ}{b:Nat}{xs:List Value}{t:TypeId}(h:Inv w0 S cs w)(j:Nat)(v:Value)(hu:Upd cs (row b xs t) (row b (xs.set j v) t) cs'):Inv w0 S cs' (w.setCell ⟨b,j,none⟩ v):=by
 have hg:w.heap[b]? =some (.cells xs.toArray t (0,0)):=h.get hu.has
 have hlt:b<w.heap.size:=(Array.getElem?_eq_some_iff.1 hg).1
 refine h.upd hu ⟨rfl,rfl,rfl,by simp_all,λk _ hk=>?_⟩ ⟨⟨rfl,rfl,rfl,by simp_all,λk _ hk=>?_⟩,by simp[bK,row,bJ.bs],?_,?_⟩
 .grind [Below.heap_setCell,bJ.bs]
 .grind [Below.heap_setCell,bJ.bs]
 .intro c hc
  simp only[aC]at hc
  subst hc
  show(w.setCell ⟨b,j,none⟩ v).heap[b]? =_
  grind [World.setCell]
 grind [bK,bJ.bs]
structure Cx where
 P:Program
 N:Nat
 w0:World
 S:List Nat
abbrev lF:=Exit->Act->World->Prop
def QOk(C:Cx)(Q:lF)(e:Exit)(fr:Fr)(cs:List bJ):Prop:=∀a w,ro C.N fr a->Inv C.w0 C.S cs w->Q e a w
def WC(C:Cx)(c:Code)(Q:lF)(fr:Fr)(cs:List bJ):Prop:=∀a w,ro C.N fr a->Inv C.w0 C.S cs w->c.wp C.P Q a w
def WL(C:Cx)(ops:Array Oper)(Q:lF)(rest:List Oper)(fr:Fr)(cs:List bJ):Prop:=∀a w,ro C.N fr a->Inv C.w0 C.S cs w->wpList C.P ops Q rest a w
section
variable {C:Cx} {Q:lF} {fr:Fr} {cs:List bJ} {x y c:Code} {id id':Nat} {K:Act->World->Prop}
theorem wc_seq(h:WC C x (Exit.then (y.wp C.P Q) Q) fr cs):WC C (.seq x y) Q fr cs:=λa w hf hi=>wp_seq (h a w hf hi)
theorem wc_skip(h:QOk C Q .normal fr cs):WC C .skip Q fr cs:=λa w hf hi=>wp_skip (h a w hf hi)
theorem wc_ret(h:QOk C Q .ret fr cs):WC C .ret Q fr cs:=λa w hf hi=>wp_ret (h a w hf hi)
theorem wc_exit(h:QOk C Q (.exit id) fr cs):WC C (.exit id) Q fr cs:=λa w hf hi=>wp_exit (h a w hf hi)
theorem QX(h:WC C c (Exit.inBlock id Q) fr cs):WC C (.block id c) Q fr cs:=λa w hf hi=>wp_block (h a w hf hi)
variable{o:Operand}
theorem EZ(b:Bool)(hc:ev fr o=some (.bool b))(ht:b=true->WC C x Q fr cs)(hf:b=false->WC C y Q fr cs):WC C (.cond o x y) Q fr cs:=
 λa w hfr hi=>wp_cond_split (hfr.ev hc) (λh=>ht h a w hfr hi) (λh=>hf h a w hfr hi)
theorem cn{b:Bool}(hc:ev fr o=some (.bool b))(hb:b=true)(h:WC C x Q fr cs):WC C (.cond o x y) Q fr cs:=by grind [EZ]
theorem cy{b:Bool}(hc:ev fr o=some (.bool b))(hb:b=false)(h:WC C y Q fr cs):WC C (.cond o x y) Q fr cs:=by grind [EZ]
theorem Ma{l:List Oper}(h:WL C l.toArray Q l fr cs):WC C (.region id l.toArray false) Q fr cs:=λa w hf hi=>wp_region_lit (h a w hf hi)
theorem wl_nil{ops:Array Oper}(h:QOk C Q .normal fr cs):WL C ops Q [] fr cs:=h
theorem q_then(h:WC C y Q fr cs):QOk C (Exit.then (y.wp C.P Q) Q) .normal fr cs:=h
theorem q_then_ret(h:QOk C Q .ret fr cs):QOk C (Exit.then K Q) .ret fr cs:=h
theorem Fs(h:QOk C Q (.exit id) fr cs):QOk C (Exit.then K Q) (.exit id) fr cs:=h
theorem q_block(h:QOk C Q .normal fr cs):QOk C (Exit.inBlock id Q) .normal fr cs:=h
theorem q_block_ret(h:QOk C Q .ret fr cs):QOk C (Exit.inBlock id Q) .ret fr cs:=h
theorem C6(he:Nat.beq id' id=true)(h:QOk C Q .normal fr cs):QOk C (Exit.inBlock id Q) (.exit id') fr cs:=λa w hf hi=>by
 simp only[Exit.inBlock,Nat.eq_of_beq_eq_true he,if_true]
 exact h a w hf hi
theorem AP(he:Nat.beq id' id=false)(h:QOk C Q (.exit id') fr cs):QOk C (Exit.inBlock id Q) (.exit id') fr cs:=λa w hf hi=>by
 have:id'≠id:=λe=>by simp_all
 simp only[Exit.inBlock,this,if_false]
 exact h a w hf hi
def Mid(C:Cx){σ:Type}(F:σ->Fr)(G:σ->List bJ)(ok:σ->Prop)(a:Act)(w:World):Prop:=∃s,ok s/\ro C.N (F s) a/\Inv C.w0 C.S (G s) w
variable{σ:Type}
theorem cL(F:σ->Fr)(G:σ->List bJ)(ok:σ->Prop)(h:WC C x (Exit.then (Mid C F G ok) Q) fr cs)(h':∀s,ok s->WC C y Q (F s) (G s)):WC C (.seq x y) Q fr cs:=
 λa w hf hi=>wp_seq (wp_mono (h a w hf hi) λe a' w' q=>by
  cases e with
  |normal=>obtain⟨s,ho,hf',hi'⟩:=q;exact h' s ho a' w' hf' hi'
  |_=>exact q)
theorem q_mid{F:σ->Fr}{G:σ->List bJ}{ok:σ->Prop}(s:σ)(ho:ok s)(hf:Wk fr (F s))(hg:(G s).Sublist cs):QOk C (Exit.then (Mid C F G ok) Q) .normal fr cs:=
 λ_ _ hfr hi=>⟨s,ho,hfr.weaken hf,hi.drop hg⟩
theorem wc_loop(F:σ->Fr)(G:σ->List bJ)(ok:σ->Prop)(μ:σ->Nat)(s0:σ)(h0:ok s0)(hf:Wk fr (F s0))(hg:(G s0).Sublist cs)
  (round:∀s,ok s->WC C c (Exit.then (Mid C F G λs'=>ok s'/\μ s'<μ s) Q) (F s) (G s)):WC C (.loop c) Q fr cs:=by
 have key:∀n s,μ s=n->ok s->∀a w,ro C.N (F s) a->Inv C.w0 C.S (G s) w->∀(b:Frame) (k:List Item) (cs':List Frame),
   ∃e a' w',Q e a' w'/\Arrives C.P (lone (b.at a (.code c:: .inLoop c::k)) cs' w) b k cs' e a' w':=by
  intro n
  induction n using Nat.strongRecOn with
  |_ n ih=>
   intro s hn hok a w hfr hi b k cs'
   obtain⟨e,a₁,w₁,hq,harr⟩:=round s hok a w hfr hi b (.inLoop c::k) cs'
   cases e with
   |normal=>
    obtain⟨s',⟨hok',hlt⟩,hf',hi'⟩:=hq
    obtain⟨e₂,a₂,w₂,hq₂,harr₂⟩:=ih (μ s') (hn▸hlt) s' rfl hok' a₁ w₁ hf' hi' b k cs'
    exact⟨e₂,a₂,w₂,hq₂,.of_steps (Steps.trans harr (.one step_inLoop)) harr₂⟩
   |exit id=>exact⟨_,a₁,w₁,hq,.pass (x:= .inLoop c) rfl (λ_ _=> .inl cP) harr⟩
   |goto l=>exact⟨_,a₁,w₁,hq,.pass (x:= .inLoop c) rfl (λ_ _=> .inl cP) harr⟩
   |ret=>exact⟨_,a₁,w₁,hq,.pass (x:= .inLoop c) rfl (λ_ _=> .inl cP) harr⟩
   |panic ch=>exact⟨_,a₁,w₁,hq,.pass (x:= .inLoop c) rfl (λ_ _=> .inl cP) harr⟩
   |outgrown=>exact⟨_,a₁,w₁,hq,.pass (x:= .inLoop c) rfl (λ_ _=> .inl cP) harr⟩
 intro a w hfr hi b k cs'
 obtain⟨e,a',w',hq,harr⟩:=key _ s0 rfl h0 a w (hfr.weaken hf) (hi.drop hg) b k cs'
 exact⟨e,a',w',hq,.of_steps (.one step_loop) harr⟩
end
def bN(ops:Array Oper)(fr:Fr)(o:Oper)(g:Bool):Prop:=∀N a,ro N fr a->Region.wanted o (yielded ops a.tmps)=g
theorem fE{ops:Array Oper}{fr:Fr}{d:Option Tmp}{op:Op}{ty:TypeId}{pos:String}{af:Array Edge}:bN ops fr ⟨d,op,ty,pos,af,none⟩ true:=λ_ _ _=>rfl
theorem yt{N:Nat}{ops:Array Oper}{fr:Fr}{a:Act}{j d:Nat}{v:Value}(hf:ro N fr a)(hd:(ops[j]?).bind (·.dst)=some d)(hl:look fr d=some v):
  yielded ops a.tmps j=(match v with| .bool b=>some b|_=>none):=by
 have h:=hf.at_ d v hl
 unfold yielded
 rw[hd]
 simp only[Option.bind_some]
 rw[Array.getD_eq_getD_getElem?]at h
 cases hg:a.tmps[d]? with
 |none=>rw[hg]at h;simp only[Option.getD_none]at h;subst h;rfl
 |some u=>rw[hg]at h;simp only[Option.getD_some]at h;subst h;cases u<;>rfl
theorem zk{ops:Array Oper}{fr:Fr}{dd:Option Tmp}{op:Op}{ty:TypeId}{pos:String}{af:Array Edge}{j d:Nat}{want b:Bool}
  (hd:(ops[j]?).bind (·.dst)=some d) (hl:look fr d=some (.bool b)):bN ops fr ⟨dd,op,ty,pos,af,some (j,want)⟩ (b==want):=λN a hf=>by
 unfold Region.wanted
 simp only[yt hf hd hl]
 grind
theorem bS{ops:Array Oper}{fr:Fr}{dd:Option Tmp}{op:Op}{ty:TypeId}{pos:String}{af:Array Edge}{j d:Nat}{b:Bool}
  (hd:(ops[j]?).bind (·.dst)=some d) (hl:look fr d=some (.bool b)):bN ops fr ⟨dd,op,ty,pos,af,some (j,true)⟩ b:=λN a hf=>by
 rw[zk hd hl N a hf]
 cases b<;>rfl
theorem bQ{ops:Array Oper}{fr:Fr}{dd:Option Tmp}{op:Op}{ty:TypeId}{pos:String}{af:Array Edge}{j d:Nat}{b:Bool}
  (hd:(ops[j]?).bind (·.dst)=some d) (hl:look fr d=some (.bool b)):bN ops fr ⟨dd,op,ty,pos,af,some (j,false)⟩ (!b):=λN a hf=>by
 rw[zk hd hl N a hf]
 grind
theorem df{ops:Array Oper}{fr:Fr}{dd:Option Tmp}{op:Op}{ty:TypeId}{pos:String}{af:Array Edge}{j d:Nat}{want b g:Bool}
  (hd:(ops[j]?).bind (·.dst)=some d) (hl:look fr d=some (bif g then .bool b else undef)):bN ops fr ⟨dd,op,ty,pos,af,some (j,want)⟩ (g&&(b==want)):=λN a hf=>by
 unfold Region.wanted
 simp only[yt hf hd hl]
 cases g<;>cases b<;>cases want<;>rfl
def OpY(C:Cx)(o:Oper)(fr:Fr)(g:Bool)(V:World->Prop)(v:Value):Prop:=
 ∀a w,ro C.N fr a->V w->g=true->(execOp a.eval o).run C.P w= .ok (.value v) w
def Any(_:World):Prop:=True
def cells(l:List (Addr×Value))(w:World):Prop:=∀x,x∈l->w.cell? x.1=some x.2
def zM(w w':World):Prop:=∀ad v,w.cell? ad=some v->w'.cell? ad=some v
def OpT(C:Cx)(o:Oper)(fr:Fr)(cs:List bJ)(st:Bool)(K:Value->List bJ->Prop):Prop:=
 ∀a w,ro C.N fr a->Inv C.w0 C.S cs w->∀(next:Act->World->Prop) (Q:lF),(∀v cs' w',K v cs'->Inv C.w0 C.S cs' w'->(st=false->zM w w')->next (a.put o.dst v) w')->o.wp C.P a w next Q
section
variable {C:Cx} {Q:lF} {fr:Fr} {cs:List bJ} {ops:Array Oper} {rest:List Oper} {d:Nat} {op:Op} {ty:TypeId} {pos:String} {af:Array Edge} {gd:Option (Nat×Bool)} {V:World->Prop} {v:Value} {g:Bool}
theorem dQ(hy:OpY C ⟨some d,op,ty,pos,af,none⟩ fr true V v)(hV:∀w,Inv C.w0 C.S cs w->V w)(hd:Nat.blt d C.N=true)(h:WL C ops Q rest ((d,v)::fr) cs):
  WL C ops Q (⟨some d,op,ty,pos,af,none⟩::rest) fr cs:=λa w hf hi=>by
 refine wpList_plain rfl λK hK=>?_
 unfold Oper.wp
 rw[hy a w hf (hV w hi) rfl]
 exact hK _ _ (h _ w (hf.put kS v) hi)
theorem gQ(hg:bN ops fr ⟨some d,op,ty,pos,af,gd⟩ g)(hy:OpY C ⟨some d,op,ty,pos,af,gd⟩ fr g V v)(hV:∀w,Inv C.w0 C.S cs w->V w)(hd:Nat.blt d C.N=true)
  (h:WL C ops Q rest ((d,bif g then v else undef)::fr) cs):WL C ops Q (⟨some d,op,ty,pos,af,gd⟩::rest) fr cs:=λa w hf hi=>by
 refine wpList_step λK hK=>?_
 rw[hg _ a hf]
 cases g with
 |true=>
  rw[if_pos rfl]
  unfold Oper.wp
  rw[hy a w hf (hV w hi) rfl]
  exact hK _ _ (h _ w (hf.put kS _) hi)
 |false=>
  rw[if_neg cP]
  exact hK _ _ (h _ w (hf.put kS _) hi)
variable{st:Bool}{K:Value->List bJ->Prop}
theorem fo(ht:OpT C ⟨some d,op,ty,pos,af,none⟩ fr cs st K)(hd:Nat.blt d C.N=true)(h:∀v cs',K v cs'->WL C ops Q rest ((d,v)::fr) cs'):
  WL C ops Q (⟨some d,op,ty,pos,af,none⟩::rest) fr cs:=λa w hf hi=>by
 refine wpList_plain rfl λK' hK=>ht a w hf hi _ _ λv cs' w' hk hi' _=>hK _ _ (h v cs' hk _ w' (hf.put kS v) hi')
theorem eT(ht:OpT C ⟨none,op,ty,pos,af,none⟩ fr cs st K)(h:∀v cs',K v cs'->WL C ops Q rest fr cs'):
  WL C ops Q (⟨none,op,ty,pos,af,none⟩::rest) fr cs:=λa w hf hi=>by
 refine wpList_plain rfl λK' hK=>ht a w hf hi _ _ λv cs' w' hk hi' _=>hK _ _ (h v cs' hk _ w' hf hi')
theorem io(hg:bN ops fr ⟨some d,op,ty,pos,af,gd⟩ g)(hf0:g=false)(hd:Nat.blt d C.N=true)(h:WL C ops Q rest ((d,undef)::fr) cs):WL C ops Q (⟨some d,op,ty,pos,af,gd⟩::rest) fr cs:=λa w hf hi=>by
 refine wpList_step λK hK=>?_
 rw[hg _ a hf,hf0,if_neg cP]
 exact hK _ _ (h _ w (hf.put kS _) hi)
theorem fF(hg:bN ops fr ⟨some d,op,ty,pos,af,gd⟩ g)(hg1:g=true)(ht:OpT C ⟨some d,op,ty,pos,af,gd⟩ fr cs st K)(hd:Nat.blt d C.N=true)(h:∀v cs',K v cs'->WL C ops Q rest ((d,v)::fr) cs'):
  WL C ops Q (⟨some d,op,ty,pos,af,gd⟩::rest) fr cs:=λa w hf hi=>by
 refine wpList_step λK' hK=>?_
 rw[hg _ a hf,hg1,if_pos rfl]
 exact ht a w hf hi _ _ λv cs' w' hk hi' _=>hK _ _ (h v cs' hk _ w' (hf.put kS v) hi')
end
structure Dr where
 st:Nat->Bool
 l0:List (Addr×Value)
section
variable {P:Program} {ops:Array Oper} {Q:lF} {md:Region.Mode} {St:Dr}
def sO(P:Program)(md:Region.Mode)(ops:Array Oper)(Q:lF)(St:Dr):Nat->Array Bool->Act->World->Prop
 |0,listed,a,w=>Region.ready md ops listed=[]/\Q .normal a w
 |fuel+1,listed,a,w=>
  (Region.ready md ops listed=[]->Q .normal a w)/\
  ∀i∈Region.ready md ops listed,wpOp P ops Q i (λa' w'=>((St.st i=false->zM w w')/\(cells St.l0 w->cells St.l0 w'))/\sO P md ops Q St fuel (listed.setIfInBounds i true) a' w') a w
theorem yu:∀(fuel:Nat) (listed:Array Bool) (a:Act) (w:World),sO P md ops Q St fuel listed a w->wpAny P md ops Q fuel listed a w
 |0,_,_,_,h=>h
 |fuel+1,_,_,_,h=>⟨h.1,λi hi=>wpOp_mono (λa' w' h'=>yu fuel _ a' w' h'.2) (h.2 i hi)⟩
theorem jo{i:Nat}{oi:Oper}{v:Value}{V:World->Prop}(hV:∀w w',zM w w'->V w->V w')(hi:ops[i]? =some oi)(hsel:∀(j:Nat) (o:Oper) cs b,ops[j]? =some o->o.op≠ .select cs b)
  (hQ:∀c a w,Q (.panic c) (a.put oi.dst v) w->Q (.panic c) a w):
  ∀(fuel:Nat) (listed:Array Bool) (a:Act) (w:World),
   (∀j oj,ops[j]? =some oj->j≠i->listed.getD j true=false->(∀e∈oj.after,Region.binds md e=true->e.on≠i)->oi.apart ops oj=true/\((∀w,V w)\/St.st j=false\/(∀w w',(cells St.l0 w->cells St.l0 w')->V w->V w')))->
   i∈Region.ready md ops listed->YieldsIf P ops V oi v a->V w->
   sO P md ops Q St fuel (listed.setIfInBounds i true) (a.put oi.dst v) w->sO P md ops Q St (fuel+1) listed a w:=by
 intro fuel
 induction fuel with
 |zero=>
  intro listed a w _ hr hy hS H
  refine⟨λh=>bY,λj hj=>?_⟩
  by_cases hji:j=i
  .exact UI
  have:=ready_mono hj hji
  rw[H.1]at this
  cases this
 |succ fuel ih=>
  intro listed a w hfree hr hy hS H
  refine⟨λh=>bY,λj hj=>?_⟩
  by_cases hji:j=i
  .exact UI
  have h1:=H.2 j (ready_mono hj hji)
  obtain⟨hjun,oj,hoj,hall⟩:=mem_ready.1 hj
  have hnot:∀e∈oj.after,Region.binds md e=true->e.on≠i:=λe he hb heq=>by
   grind [mem_ready]
  obtain⟨hap,hst⟩:=hfree j oj hoj hji hjun hnot
  have h2:=wpOp_putIf hoj hap (λcs b=>hsel i oi cs b hi) (λcs b=>hsel j oj cs b hoj) hQ hy h1
  have hfree':∀k ok,ops[k]? =some ok->k≠i->(listed.setIfInBounds j true).getD k true=false->
    (∀e∈ok.after,Region.binds md e=true->e.on≠i)->oi.apart ops ok=true/\((∀w,V w)\/St.st k=false\/(∀w w',(cells St.l0 w->cells St.l0 w')->V w->V w')):=λk ok hk hki hun hno=>by
   refine hfree k ok hk hki ?_ hno
   by_cases hjk:j=k
   .grind
   simp_all
  grind [wpOp_mono,ready_mono,Array.setIfInBounds_comm]
def pf(md:Region.Mode)(ops:Array Oper)(St:Nat->Bool)(listed:Array Bool)(i:Nat):Bool:=
 (List.range ops.size).all λj=>j==i||listed.getD j true|| !St j||match ops[j]? with
  |some oj=>oj.after.any (λe=>Region.binds md e&&e.on==i)
  |none=>true
theorem Fb{St:Nat->Bool}{i:Nat}{listed:Array Bool}(h:pf md ops St listed i=true)(j:Nat)(oj:Oper)
  (hj:ops[j]? =some oj) (hne:j≠i) (hun:listed.getD j true=false) (hno:∀e∈oj.after,Region.binds md e=true->e.on≠i):St j=false:=by
 grind [pf]
end
def WA(C:Cx)(St:Dr)(ops:Array Oper)(Q:lF)(fuel:Nat)(listed:Array Bool)(fr:Fr)(cs:List bJ):Prop:=
 ∀a w,ro C.N fr a->Inv C.w0 C.S cs w->sO C.P .any ops (NoPanic Q) St fuel listed a w
section
variable {C:Cx} {Q:lF} {fr:Fr} {cs:List bJ} {ops:Array Oper} {d:Nat} {op:Op} {ty:TypeId} {pos:String} {af:Array Edge} {gd:Option (Nat×Bool)} {V:World->Prop} {v:Value} {g:Bool}
 {St:Dr} {fuel:Nat} {listed:Array Bool}
theorem bU{id:Nat}{l:List Oper}(St:Dr)(hm:C.P.follows .mixedOrders=true)(h:WA C St l.toArray Q l.length (Array.replicate l.length false) fr cs):WC C (.region id l.toArray true) Q fr cs:=λa w hf hi=>by
 refine wp_region_noPanic (wp_region_any hm (yu (St:=St) _ _ _ _ ?_))
 have:=h a w.drew hf hi.drew
 simp_all
theorem i4(hg:bN ops fr ⟨some d,op,ty,pos,af,gd⟩ g)(hy:OpY C ⟨some d,op,ty,pos,af,gd⟩ fr g V v){a:Act}(hf:ro C.N fr a):
  YieldsIf C.P ops V ⟨some d,op,ty,pos,af,gd⟩ (bif g then v else undef) a:=by
 unfold YieldsIf
 rw[hg _ a hf]
 cases g with
 |true=>exact .inl ⟨rfl,λw hV=>hy a w hf hV rfl⟩
 |false=>grind
theorem JG(i:Nat)(hi:ops[i]? =some ⟨some d,op,ty,pos,af,gd⟩)(hs:Region.noSelect ops=true)(hfree:Region.free .any ops listed i=true)(hr:(Region.ready .any ops listed).contains i=true)
  (hg:bN ops fr ⟨some d,op,ty,pos,af,gd⟩ g) (hy:OpY C ⟨some d,op,ty,pos,af,gd⟩ fr g Any v) (hd:Nat.blt d C.N=true)
  (h:WA C St ops Q fuel (listed.setIfInBounds i true) ((d,bif g then v else undef)::fr) cs):WA C St ops Q (fuel+1) listed fr cs:=λa w hf hi'=>
 jo (V:=Any) (λ_ _ _ h=>h) hi (Region.noSelect_spec hs) (λ_ _ _ h=>h) fuel listed a w (λj oj hj hne hun hno=>⟨Region.free_spec hi hfree j oj hj hne hun hno,.inl λ_=>trivial⟩)
  bY (i4 hg hy hf) trivial (h _ w (hf.put kS _) hi')
theorem wa_l(i:Nat){l:List (Addr×Value)}(hi:ops[i]? =some ⟨some d,op,ty,pos,af,gd⟩)(hs:Region.noSelect ops=true)(hfree:Region.free .any ops listed i=true)(hst:pf .any ops St.st listed i=true)(hr:(Region.ready .any ops listed).contains i=true)
  (hg:bN ops fr ⟨some d,op,ty,pos,af,gd⟩ g) (hy:OpY C ⟨some d,op,ty,pos,af,gd⟩ fr g (cells l) v) (hV:∀w,Inv C.w0 C.S cs w->cells l w) (hd:Nat.blt d C.N=true)
  (h:WA C St ops Q fuel (listed.setIfInBounds i true) ((d,bif g then v else undef)::fr) cs):WA C St ops Q (fuel+1) listed fr cs:=λa w hf hi'=>
 jo (V:=cells l) (λ_ _ hp h x hx=>hp _ _ (h x hx)) hi (Region.noSelect_spec hs) (λ_ _ _ h=>h) fuel listed a w (λj oj hj hne hun hno=>⟨Region.free_spec hi hfree j oj hj hne hun hno,.inr (.inl (Fb hst j oj hj hne hun hno))⟩)
  bY (i4 hg hy hf) (hV w hi') (h _ w (hf.put kS _) hi')
theorem wa_lk(i:Nat){ad:Addr}(hi:ops[i]? =some ⟨some d,op,ty,pos,af,gd⟩)(hs:Region.noSelect ops=true)(hfree:Region.free .any ops listed i=true)(hr:(Region.ready .any ops listed).contains i=true)
  (hg:bN ops fr ⟨some d,op,ty,pos,af,gd⟩ g) (hy:OpY C ⟨some d,op,ty,pos,af,gd⟩ fr g (cells [(ad,v)]) v) (hm:(ad,v)∈St.l0) (hV:∀w,Inv C.w0 C.S cs w->cells St.l0 w) (hd:Nat.blt d C.N=true)
  (h:WA C St ops Q fuel (listed.setIfInBounds i true) ((d,bif g then v else undef)::fr) cs):WA C St ops Q (fuel+1) listed fr cs:=λa w hf hi'=>
 jo (V:=cells St.l0) (λ_ _ hp h x hx=>hp _ _ (h x hx)) hi (Region.noSelect_spec hs) (λ_ _ _ h=>h) fuel listed a w (λj oj hj hne hun hno=>⟨Region.free_spec hi hfree j oj hj hne hun hno,.inr (.inr λ_ _ h=>h)⟩)
  bY (i4 hg (λa w hf hV hg=>hy a w hf (λx hx=>by rw[aC]at hx;subst hx;exact hV _ hm) hg) hf) (hV w hi') (h _ w (hf.put kS _) hi')
theorem eu(i:Nat){ad:Addr}(hi:ops[i]? =some ⟨some d,op,ty,pos,af,none⟩)(hs:Region.noSelect ops=true)(hfree:Region.free .any ops listed i=true)(hr:(Region.ready .any ops listed).contains i=true)
  (hy:OpY C ⟨some d,op,ty,pos,af,none⟩ fr true (cells [(ad,v)]) v) (hm:(ad,v)∈St.l0) (hV:∀w,Inv C.w0 C.S cs w->cells St.l0 w) (hd:Nat.blt d C.N=true)
  (h:WA C St ops Q fuel (listed.setIfInBounds i true) ((d,v)::fr) cs):WA C St ops Q (fuel+1) listed fr cs:=wa_lk i hi hs hfree hr fE hy hm hV hd h
theorem Me(hr:Region.ready .any ops listed=[])(h:QOk C Q .normal fr cs):WA C St ops Q fuel listed fr cs:=λa w hf hi=>by
 cases fuel with
 |zero=>exact⟨hr,h a w hf hi⟩
 |succ n=>exact⟨λ_=>h a w hf hi,by grind⟩
end
section
variable {C:Cx} {fr:Fr} {cs:List bJ} {d:Option Tmp} {ty:TypeId} {pos:String} {af:Array Edge} {gd:Option (Nat×Bool)} {v:Value} {g:Bool} {x y z:Operand} {T T':TypeId} {k k':IntKind} {a b r:Int} {p q:Bool}
variable{u:Value}
theorem pk(h:ev fr x=some u):Ev fr g x u:=⟨u,h,λ_=>rfl⟩
theorem cA(h:ev fr x=some (bif g then u else undef)):Ev fr g x u:=⟨_,h,λe=>by rw[e];rfl⟩
theorem Vj(h:Ev fr g x v):OpY C ⟨d,.move x,ty,pos,af,gd⟩ fr g Any v:=λA w hf _ hg=>by
 simp[execOp,h.eval hf hg]
theorem GS(h:Ev fr g x v):OpY C ⟨d,.assign x,ty,pos,af,gd⟩ fr g Any v:=λA w hf _ hg=>by
 simp[execOp,h.eval hf hg]
theorem Ju(hc:Ev fr g x (.bool p))(hb:∃u,ev fr y=some u/\(g=true->p=true->u= .bool q)):OpY C ⟨d,.pick x y (.const (.bool false)),ty,pos,af,gd⟩ fr g Any (.bool (p&&q)):=λA w hf _ hg=>by
 obtain⟨u,hu,e⟩:=hb
 have h1:=hc.eval hf hg
 have h2:=hf.ev hu
 cases p with
 |true=>simp_all [execOp,asBool]
 |false=>
  have hk:A.eval (.const (.bool false))= .bool false:=rfl
  simp[execOp,h1,asBool,hk]
theorem y_or(hc:Ev fr g x (.bool p))(hb:∃u,ev fr y=some u/\(g=true->p=false->u= .bool q)):OpY C ⟨d,.pick x (.const (.bool true)) y,ty,pos,af,gd⟩ fr g Any (.bool (p||q)):=λA w hf _ hg=>by
 obtain⟨u,hu,e⟩:=hb
 have h1:=hc.eval hf hg
 have h2:=hf.ev hu
 cases p with
 |false=>simp_all [execOp,asBool]
 |true=>
  have hk:A.eval (.const (.bool true))= .bool true:=rfl
  simp[execOp,h1,asBool,hk]
theorem pk_yes(h:ev fr y=some (bif p then u else undef))(hu:p=true->u= .bool q):∃u,ev fr y=some u/\(g=true->p=true->u= .bool q):=by grind
theorem pk_no(h:ev fr y=some (bif !p then u else undef))(hu:p=false->u= .bool q):∃u,ev fr y=some u/\(g=true->p=false->u= .bool q):=by grind
theorem pk_gyes(h:ev fr y=some (bif(g&&(p==true))then u else undef))(hu:g=true->p=true->u= .bool q):∃u,ev fr y=some u/\(g=true->p=true->u= .bool q):=by grind
theorem pk_gno(h:ev fr y=some (bif(g&&(p==false))then u else undef))(hu:g=true->p=false->u= .bool q):∃u,ev fr y=some u/\(g=true->p=false->u= .bool q):=by grind
theorem nj{op:BinOp}(hx:Ev fr g x (.int k a))(hy:Ev fr g y (.int k' b))(h:∀w,(binOp op T (.int k a) (.int k' b)).run C.P w= .ok v w):OpY C ⟨d,.binOp op T x y T',ty,pos,af,gd⟩ fr g Any v:=λA w hf _ hg=>by
 have he:∀op,(eqGuard op T x y (.int k a) (.int k' b)).run C.P w= .ok () w:=λop=>by cases op<;>rfl
 simp[execOp,hx.eval hf hg,hy.eval hf hg,he,h]
theorem eK(hx:Ev fr g x (.int k a))(hy:Ev fr g y (.int k b))(hr:k.wrap (a+b)=r):OpY C ⟨d,.binOp .add T x y T',ty,pos,af,gd⟩ fr g Any (.int k r):=nj hx hy λw=>by simp[go_sem,Op.intArith,hr]
theorem i5(hx:Ev fr g x (.int k a))(hy:Ev fr g y (.int k b))(hr:k.wrap (a - b)=r):OpY C ⟨d,.binOp .sub T x y T',ty,pos,af,gd⟩ fr g Any (.int k r):=nj hx hy λw=>by simp[go_sem,Op.intArith,hr]
theorem jF(hx:Ev fr g x (.int k a))(hy:Ev fr g y (.int k b))(hr:k.wrap (a*b)=r):OpY C ⟨d,.binOp .mul T x y T',ty,pos,af,gd⟩ fr g Any (.int k r):=nj hx hy λw=>by simp[go_sem,Op.intArith,hr]
theorem mh(hx:Ev fr g x (.int k a))(hy:Ev fr g y (.int k b))(h0:b≠0)(hr:k.wrap (a.tdiv b)=r):OpY C ⟨d,.binOp .quo T x y T',ty,pos,af,gd⟩ fr g Any (.int k r):=nj hx hy λw=>by simp[go_sem,Op.intDiv,hr,h0]
theorem jm(hx:Ev fr g x (.int k a))(hy:Ev fr g y (.int k b))(h0:b≠0)(hr:a.tmod b=r):OpY C ⟨d,.binOp .rem T x y T',ty,pos,af,gd⟩ fr g Any (.int k r):=nj hx hy λw=>by simp[go_sem,Op.intDiv,hr,h0]
theorem sN(hx:Ev fr g x (.int k a))(hy:Ev fr g y (.int k b))(hr:bits .and k a b=r):OpY C ⟨d,.binOp .and T x y T',ty,pos,af,gd⟩ fr g Any (.int k r):=nj hx hy λw=>by subst hr;simp[go_sem,Op.intBits,bits]
theorem Ci(hx:Ev fr g x (.int k a))(hy:Ev fr g y (.int k b))(hr:bits .or k a b=r):OpY C ⟨d,.binOp .or T x y T',ty,pos,af,gd⟩ fr g Any (.int k r):=nj hx hy λw=>by subst hr;simp[go_sem,Op.intBits,bits]
theorem y_xor_(hx:Ev fr g x (.int k a))(hy:Ev fr g y (.int k b))(hr:bits .xor k a b=r):OpY C ⟨d,.binOp .xor T x y T',ty,pos,af,gd⟩ fr g Any (.int k r):=nj hx hy λw=>by subst hr;simp[go_sem,Op.intBits,bits]
theorem zR(hx:Ev fr g x (.int k a))(hy:Ev fr g y (.int k b))(hr:bits .andNot k a b=r):OpY C ⟨d,.binOp .andNot T x y T',ty,pos,af,gd⟩ fr g Any (.int k r):=nj hx hy λw=>by subst hr;simp[go_sem,Op.intBits,bits]
theorem Jq(hx:Ev fr g x (.int k a))(hy:Ev fr g y (.int k' b))(h0:0<=b)(hr:k.wrap (a*2^(min b.toNat k.bits))=r):OpY C ⟨d,.binOp .shl T x y T',ty,pos,af,gd⟩ fr g Any (.int k r):=nj hx hy λw=>by
 have:¬b<0:=by omega
 subst hr
 simp[binOp,Op.shift,this]
theorem lJ(hx:Ev fr g x (.int k a))(hy:Ev fr g y (.int k' b))(h0:0<=b)(hr:a.fdiv (2^(min b.toNat k.bits))=r):OpY C ⟨d,.binOp .shr T x y T',ty,pos,af,gd⟩ fr g Any (.int k r):=nj hx hy λw=>by
 have:¬b<0:=by omega
 subst hr
 simp[binOp,Op.shift,this]
theorem jn(hx:Ev fr g x (.int k a))(hy:Ev fr g y (.int k b))(hr:(a==b)=p):OpY C ⟨d,.binOp .eql T x y T',ty,pos,af,gd⟩ fr g Any (.bool p):=nj hx hy λw=>by subst hr;simp[go_sem]
theorem lK(hx:Ev fr g x (.int k a))(hy:Ev fr g y (.int k b))(hr:(a !=b)=p):OpY C ⟨d,.binOp .neq T x y T',ty,pos,af,gd⟩ fr g Any (.bool p):=nj hx hy λw=>by subst hr;simp[go_sem]
theorem y_lss(hx:Ev fr g x (.int k a))(hy:Ev fr g y (.int k b))(hr:decide (a<b)=p):OpY C ⟨d,.binOp .lss T x y T',ty,pos,af,gd⟩ fr g Any (.bool p):=nj hx hy λw=>by subst hr;simp[go_sem]
theorem LR(hx:Ev fr g x (.int k a))(hy:Ev fr g y (.int k b))(hr:decide (a<=b)=p):OpY C ⟨d,.binOp .leq T x y T',ty,pos,af,gd⟩ fr g Any (.bool p):=nj hx hy λw=>by subst hr;simp[go_sem]
theorem LU(hx:Ev fr g x (.int k a))(hy:Ev fr g y (.int k b))(hr:decide (b<a)=p):OpY C ⟨d,.binOp .gtr T x y T',ty,pos,af,gd⟩ fr g Any (.bool p):=nj hx hy λw=>by subst hr;simp[go_sem]
theorem y_geq(hx:Ev fr g x (.int k a))(hy:Ev fr g y (.int k b))(hr:decide (b<=a)=p):OpY C ⟨d,.binOp .geq T x y T',ty,pos,af,gd⟩ fr g Any (.bool p):=nj hx hy λw=>by subst hr;simp[go_sem]
theorem y_eqlb(hT:C.P.underlying T=some .bool){a b:Bool}(hx:Ev fr g x (.bool a))(hy:Ev fr g y (.bool b))(hr:(a==b)=p):OpY C ⟨d,.binOp .eql T x y T',ty,pos,af,gd⟩ fr g Any (.bool p):=λA w hf _ hg=>by
 subst hr
 simp[execOp,hx.eval hf hg,hy.eval hf hg,eqGuard,run_eql_bool w T a b hT]
theorem y_neqb(hT:C.P.underlying T=some .bool){a b:Bool}(hx:Ev fr g x (.bool a))(hy:Ev fr g y (.bool b))(hr:(a !=b)=p):OpY C ⟨d,.binOp .neq T x y T',ty,pos,af,gd⟩ fr g Any (.bool p):=λA w hf _ hg=>by
 subst hr
 simp[execOp,hx.eval hf hg,hy.eval hf hg,eqGuard,run_neq_bool w T a b hT,bne]
theorem y_not(hx:Ev fr g x (.bool p))(hr:(!p)=q):OpY C ⟨d,.unOp .not T x,ty,pos,af,gd⟩ fr g Any (.bool q):=λA w hf _ hg=>by
 subst hr
 simp[execOp,hx.eval hf hg,Op.unary]
theorem cU(hT:C.P.underlying T'=some (.int k'))(hS:(C.P.underlying T).isSome=true)(hx:Ev fr g x (.int k a))(hr:k'.wrap a=r):OpY C ⟨d,.convert T T' x,ty,pos,af,gd⟩ fr g Any (.int k' r):=λA w hf _ hg=>by
 obtain⟨s,hs⟩:=Option.isSome_iff_exists.mp hS
 subst hr
 simp[execOp,hx.eval hf hg,convert,run_underlying hT,run_underlying hs,Conv.intToInt]
variable{ad:Addr}
theorem Jr(hx:Ev fr g x (.pointer (some ad))):OpY C ⟨d,.nilCheck x,ty,pos,af,gd⟩ fr g Any (.pointer (some ad)):=λA w hf _ hg=>by
 simp[execOp,hx.eval hf hg]
def ik(P:Program)(T f:Nat):Option Nat:=match P.underlying T with
 |some (.struct fs)=>match fs[f]? with
  |some fd=>match P.info? fd.type with
   |some i=>bif Nat.beq i.size 0 then none else some fd.offset
   |none=>none
  |none=>none
 |_=>none
variable{bb o:Nat}
theorem eH{r:Nat}(n:Nat){f:Nat}(ho:ik C.P T f=some n)(hx:Ev fr g x (.pointer (some ⟨bb,o,none⟩)))(hr:o+n=r):OpY C ⟨d,.fieldAddr T x f,ty,pos,af,gd⟩ fr g Any (.pointer (some ⟨bb,r,none⟩)):=λA w hf _ hg=>by
 subst hr
 unfold ik at ho
 split at ho
 .rename_i fs hfs
  split at ho
  .rename_i fd hfd
   split at ho
   .rename_i i hi
    by_cases hz:i.size=0
    .simp[hz]at ho
    have hz':Nat.beq i.size 0=false:=by cases h':Nat.beq i.size 0 with|false=>rfl|true=>grind
    rw[hz']at ho
    simp only[ah,bo]at ho
    subst ho
    simp[execOp,hx.eval hf hg,Instr.fieldAt,run_underlying hfs,hfd,Instr.sureAddr,fieldPlace,sizeOf,typeInfo,hi,hz,Addr.add_lit]
   cases ho
  cases ho
 cases ho
variable{n c:Nat}
theorem y_len{A:Oa}(hT:∃e,C.P.underlying T=some (.slice e))(hx:Ev fr g x (.slice A n c)):OpY C ⟨d,.call {callee:= .builtin .len,args:= #[x],argTypes:= #[T]},ty,pos,af,gd⟩ fr g Any (.i n):=λa w hf _ hg=>by
 obtain⟨e,hT⟩:=hT
 simp[execOp,resolve,invoke,builtin,hx.eval hf hg,Builtin.len_,run_underlying hT,goInt]
theorem LV{i:Nat}{vs:Array Value}(hx:Ev fr g x (.tuple vs))(hi:vs[i]? =some v):OpY C ⟨d,.extract x i,ty,pos,af,gd⟩ fr g Any v:=λa w hf _ hg=>by
 simp[execOp,hx.eval hf hg,Instr.extract,hi]
inductive Nth:List Value->Nat->Value->Prop
 |zero (v:Value) (l:List Value):Nth (v::l) 0 v
 |succ (u:Value) {l:List Value} {n:Nat} {v:Value} (h:Nth l n v):Nth (u::l) (n+1) v
theorem Nth.at_{l:List Value}(h:Nth l n v):l[n]? =some v:=by
 induction h with
 |zero=>rfl
 |succ u _ ih=>grind
variable{vs:List Value}
theorem oz{i:Nat}(hx:Ev fr g x (.tuple vs.toArray))(hi:Nth vs i v):OpY C ⟨d,.extract x i,ty,pos,af,gd⟩ fr g Any v:=LV hx (by simpa using hi.at_)
variable{sz:Nat}
theorem ry{A:Oa}{lo hi:Nat}{e:TypeId}{lo? hi? :Option Operand}(hT:C.P.underlying T=some (.slice e))(hs:∀w,(sizeOf e).run C.P w= .ok sz w)(hx:Ev fr g x (.slice A n c))
  (hlo:(lo? =none/\lo=0)\/∃l k,lo? =some l/\Ev fr g l (.int k (lo:Int))) (hhi:(hi? =none/\hi=n)\/∃l k,hi? =some l/\Ev fr g l (.int k (hi:Int))) (h1:lo<=hi) (h2:hi<=c):
  OpY C ⟨d,.slice T x lo? hi? none,ty,pos,af,gd⟩ fr g Any (.slice (if c=lo then A else A.map (·.add (lo*sz))) (hi - lo) (c - lo)):=λa w hf _ hg=>by
 have hb:(Instr.sliceBounds true n c (lo?.map a.eval) (hi?.map a.eval) none).run C.P w= .ok (lo,hi,c) w:=by
  rcases hlo with⟨rfl,rfl⟩|⟨l,kl,rfl,hl⟩<;>rcases hhi with⟨rfl,rfl⟩|⟨h,kh,rfl,hh⟩
  .simp[Instr.sliceBounds]
  .have:=hh.eval hf hg
   simp[Instr.sliceBounds,Instr.sliceBound,asIntOf,this,h2]
  .have:=hl.eval hf hg
   simp[Instr.sliceBounds,Instr.sliceBound,asIntOf,this,h1]
  have:=hl.eval hf hg
  have:=hh.eval hf hg
  simp[Instr.sliceBounds,Instr.sliceBound,asIntOf, *]
 simp[execOp,hx.eval hf hg,Instr.sliceAt,run_underlying hT,Instr.slice,hb,hs]
theorem eC{A:Oa}(hi:Nat){i:Int}{e:TypeId}{sz:Nat}{l:Operand}(hT:C.P.underlying T=some (.slice e))(hs:∀w,(sizeOf e).run C.P w= .ok sz w)(hx:Ev fr g x (.slice A n c))
  (hy:Ev fr g l (.int k i)) (hj:g=true->i=(hi:Int)) (h2:g=true->hi<=c):OpY C ⟨d,.slice T x none (some l) none,ty,pos,af,gd⟩ fr g Any (.slice A hi c):=λa w hf _ hg=>by
 have h3:=hy.eval hf hg
 rw[hj hg]at h3
 have h4:=h2 hg
 have hb:(Instr.sliceBounds true n c none (some (.int k (hi:Int))) none).run C.P w= .ok (0,hi,c) w:=by
  simp[Instr.sliceBounds,Instr.sliceBound,asIntOf,h4]
 have hA:(if c=0 then A else A.map (·.add (0*sz)))=A:=by
  split
  .rfl
  simp[Addr.add]
 simp only[Nat.zero_mul]at hA
 simp[execOp,hx.eval hf hg,h3,Instr.sliceAt,run_underlying hT,Instr.slice,hb,hs,hA]
theorem cC{j:Nat}{i:Int}{e:Nat}(hT:C.P.underlying T=some (.slice e))(hs:∀w,(sizeOf e).run C.P w= .ok sz w)(hx:Ev fr g x (.slice (some ad) n c))(hy:Ev fr g y (.int k i))(hj:g=true->i=(j:Int))(h1:g=true->j<n):
  OpY C ⟨d,.indexAddr T x y,ty,pos,af,gd⟩ fr g Any (.pointer (some (ad.add (j*sz)))):=λa w hf _ hg=>by
 have h2:=h1 hg
 have h3:=hy.eval hf hg
 rw[hj hg]at h3
 simp[execOp,hx.eval hf hg,h3,Instr.indexAt,asIntOf,run_underlying hT,h2,hs]
theorem dz{j r:Nat}{i:Int}{e:Nat}(hT:C.P.underlying T=some (.array n e))(hs:∀w,(sizeOf e).run C.P w= .ok sz w)(hx:Ev fr g x (.pointer (some ⟨bb,o,none⟩)))(hy:Ev fr g y (.int k i))(hj:g=true->i=(j:Int))(h1:g=true->j<n)(hr:o+j*sz=r):
  OpY C ⟨d,.indexAddr T x y,ty,pos,af,gd⟩ fr g Any (.pointer (some ⟨bb,r,none⟩)):=λa w hf _ hg=>by
 subst hr
 have h2:=h1 hg
 have h3:=hy.eval hf hg
 rw[hj hg]at h3
 simp[execOp,hx.eval hf hg,h3,Instr.indexAt,Instr.sureAddr,asIntOf,run_underlying hT,h2,hs,Addr.add_lit]
theorem bM(hT:∀w,(isAgg T).run C.P w= .ok false w)(hx:Ev fr g x (.pointer (some ad))):OpY C ⟨d,.load T x,ty,pos,af,gd⟩ fr g (cells [(ad,v)]) v:=λa w hf hV hg=>by
 have:=hV (ad,v) cP
 simp only at this
 simp[execOp,hx.eval hf hg,Instr.loadAt,Instr.sureAddr,loadVar,hT,this]
def ee(ad:Addr):Nat->List Value->List (Addr×Value)
 |_,[]=>[]
 |i,v::vs=>(ad.add i,v)::ee ad (i+1) vs
theorem gJ{ad:Addr}:∀{vs:List Value} {i j:Nat} {v:Value},vs[j]? =some v->(ad.add (i+j),v)∈ee ad i vs
 |[],_,_,_,h=>by simp at h
 |u::vs,i,0,v,h=>by grind [ee]
 |u::vs,i,j+1,v,h=>by
  simp only[List.getElem?_cons_succ]at h
  have:=gJ (ad:=ad) (i:=i+1) h
  rw[show i+(j+1)=i+1+j by omega]
  exact List.mem_cons_of_mem _ this
theorem gE{ad:Addr}:∀{vs:List Value} {i:Nat} {x:Addr×Value},x∈ee ad i vs->∃j,vs[j]? =some x.2/\x.1=ad.add (i+j)
 |[],_,_,h=>by cases h
 |u::vs,i,x,h=>by
  rcases aJ.1 h with rfl|h
  .exact⟨0,by simp,by simp⟩
  obtain⟨j,h1,h2⟩:=gE h
  exact⟨j+1,by grind,by grind⟩
theorem bW(hT:∀w,(isAgg T).run C.P w= .ok true w)(hs:∀w,(sizeOf T).run C.P w= .ok vs.length w)(hx:Ev fr g x (.pointer (some ad))):
  OpY C ⟨d,.load T x,ty,pos,af,gd⟩ fr g (cells (ee ad 0 vs)) (.agg vs.toArray):=λa w hf hV hg=>by
 have h:=run_loadCells_list (P:=C.P) w ad vs (λj v hj=>by
  have:=hV _ (gJ (ad:=ad) (i:=0) hj)
  grind)
 simp[execOp,hx.eval hf hg,Instr.loadAt,Instr.sureAddr,loadVar,hT,hs,h]
variable{xs:List Value}
theorem cB{w0:World}{S:List Nat}{t:Nat}(hc:Has cs (row bb xs t))(hv:xs[o]? =some v):∀w,Inv w0 S cs w->cells [(⟨bb,o,none⟩,v)] w:=λw hi z hz=>by
 rw[aC]at hz
 subst hz
 simpa[hv]using hi.cell hc o
theorem cX{w0:World}{S:List Nat}{t:Nat}(hc:Has cs (row bb xs t))(hv:(xs.drop o).take vs.length=vs):∀w,Inv w0 S cs w->cells (ee ⟨bb,o,none⟩ 0 vs) w:=λw hi z hz=>by
 obtain⟨j,h1,h2⟩:=gE hz
 rw[h2,Addr.add_lit,hi.cell hc]
 grind
end
structure RdV(w:World)(sz:Nat)(A:Oa)(n c:Nat)(xs:List Value):Prop where
 len:xs.length=n*sz
 cap:n<=c
 max:c<=maxLen
 nil:A=none->n=0/\c=0
 at_:∀ad,A=some ad->∀j u,xs[j]? =some u->w.cell? (ad.add j)=some u
theorem Er(a:Addr)(n:Nat):(a.add n).block=a.block:=by grind [Addr.add]
theorem cu(a:Addr)(i j:Nat):(a.add i).add j=a.add (i+j):=by
 grind [Addr.add]
theorem RdV.old{w0 w:World}{S:List Nat}{cs:List bJ}{sz n c:Nat}{A:Oa}{xs:List Value}(h:RdV w0 sz A n c xs)(hi:Inv w0 S cs w)(hS:∀ad,A=some ad->ad.block∉S):RdV w sz A n c xs:=
 ⟨h.len,h.cap,h.max,h.nil,λad e j u hu=>by
  have h1:=h.at_ ad e j u hu
  refine(World.cell?_of_block (hi.WB.block _ (World.block_lt_of_cell? w0 _ h1) ?_)).trans h1
  grind [Er]⟩
theorem RdV.Wh{w0 w:World}{cs:List bJ}{sz n c:Nat}{A:Oa}{xs:List Value}(h:RdV w0 sz A n c xs)(hi:Inv w0 [] cs w):RdV w sz A n c xs:=h.old hi (λ_ _=>by simp)
theorem RdV.below{w w':World}{sz n c:Nat}{A:Oa}{xs:List Value}(h:RdV w sz A n c xs)(hb:Below w.heap.size w w'):RdV w' sz A n c xs:=
 ⟨h.len,h.cap,h.max,h.nil,λad e j u hu=>by
  have h1:=h.at_ ad e j u hu
  exact(World.cell?_of_block (hb.block _ (World.block_lt_of_cell? w _ h1))).trans h1⟩
theorem RdV.cut{w:World}{n c:Nat}{A:Oa}{xs:List Value}(h:RdV w 1 A n c xs){lo hi:Nat}(h1:lo<=hi)(h2:hi<=n):
  RdV w 1 (if c=lo then A else A.map (·.add (lo*1))) (hi - lo) (c - lo) ((xs.take hi).drop lo):=by
 have hl:=h.len
 have hc:=h.cap
 have hm:=h.max
 refine⟨by simp;omega,by omega,by omega,λe=>?_,λad e j u hu=>?_⟩
 .by_cases hcl:c=lo
  .omega
  rw[if_neg hcl]at e
  cases A with
  |none=>have:=h.nil rfl;omega
  |some a=>cases e
 rw[List.getElem?_drop,List.getElem?_take]at hu
 split at hu
 .rename_i hlt
  by_cases hcl:c=lo
  .omega
  rw[if_neg hcl]at e
  cases A with
  |none=>cases e
  |some a=>
   simp only[Option.map_some,bo,Nat.mul_one]at e
   subst e
   rw[cu]
   exact h.at_ a rfl _ u hu
 cases hu
theorem dx{w:World}{e sz n c:Nat}{A:Oa}{xs:List Value}(h:(slv e sz A n c xs).ok w):RdV w sz A n c xs:=by
 obtain⟨h1,h2⟩:=h
 have h0:w.ownsRow 0 e sz (.slice A n c) n xs:=⟨h1,h2⟩
 rcases h2 with⟨hv,hn⟩|⟨g,cap,cur,hv,hg,hh,hc,hm,r⟩
 .injection hv with hA hn' hc'
  subst hA hc'
  exact⟨h1,by omega,by simp,λ_=>⟨hn,rfl⟩,λad e=>by cases e⟩
 injection hv with hA hn' hc'
 subst hA hc'
 refine⟨h1,hc,hm,λe=>(by cases e),λad e j u hu=>?_⟩
 injection e with e
 subst e
 exact h0.cells (g:=g) rfl j u hu
theorem Inv.rd{w0 w:World}{S:List Nat}{cs:List bJ}{e sz n c:Nat}{A:Oa}{xs:List Value}(h:Inv w0 S cs w)(hc:Has cs (slv e sz A n c xs)):RdV w sz A n c xs:=dx (h.get hc)
theorem Rt{w:World}{e n c m:Nat}{A:Oa}{xs:List Value}(h:(slv e 1 A n c xs).ok w)(hm:m<=n):(slv e 1 A m c (xs.take m)).ok w:=by
 obtain⟨h1,h2⟩:=h
 refine⟨by simp;omega,?_⟩
 grind
def ints(k:IntKind)(xs:Li):List Value:=xs.map (Value.int k)
abbrev sl(k:IntKind)(e:Nat)(A:Oa)(n c:Nat)(xs:Li):bJ:=slv e 1 A n c (ints k xs)
abbrev Rd(w:World)(k:IntKind)(A:Oa)(n c:Nat)(xs:Li):Prop:=RdV w 1 A n c (ints k xs)
def At(cs:List bJ)(c:bJ)(mk:bJ->List bJ):Prop:=∀c',Upd cs c c' (mk c')
theorem aH{c:bJ}{cs:List bJ}:At (c::cs) c (λx=>x::cs):=λ_=> .head _ _ _
theorem aT{d c:bJ}{cs:List bJ}{mk:bJ->List bJ}(h:At cs c mk):At (d::cs) c (λx=>d::mk x):=λx=> .tail _ (h x)
theorem At.has{cs:List bJ}{c:bJ}{mk:bJ->List bJ}(h:At cs c mk):Has cs c:=(h c).has
theorem Inv.conv{w0 w:World}{S:List Nat}{cs:List bJ}{c c':bJ}{mk:bJ->List bJ}(h:Inv w0 S cs w)(hu:At cs c mk)(hb:c'.bs=c.bs)(hok:c.ok w->c'.ok w):Inv w0 S (mk c') w:=by
 have hc:=h.get hu.has
 refine h.upd (hu c') (dc.refl _ _) ⟨dc.refl _ _,?_,?_,?_⟩
 .obtain⟨rest,h1,_,_⟩:=(hu c').perm
  grind [bJ.bs,h.nodup,bK]
 .grind
 grind [bK]
theorem L3{C:Cx}{Q:lF}{fr:Fr}{cs:List bJ}{c c':bJ}{mk:bJ->List bJ}{ops:Array Oper}{l:List Oper}(hu:At cs c mk)(hb:c'.bs=c.bs)(hok:∀w,c.ok w->c'.ok w)(h:WL C ops Q l fr (mk c')):WL C ops Q l fr cs:=
 λa w hf hi=>h a w hf (hi.conv hu hb (hok w))
section
variable {C:Cx} {fr:Fr} {cs:List bJ} {d:Option Tmp} {ty:TypeId} {pos:String} {af:Array Edge} {gd:Option (Nat×Bool)} {v:Value} {x y:Operand} {T T':TypeId} {mk:bJ->List bJ}
theorem zM.alloc(w:World)(o:Obj):zM w (w.alloc o):=λad _ h=>(World.cell?_alloc_lt w _ ad (World.block_lt_of_cell? w ad h)).trans h
variable{w w':World}
theorem zM.Xk(h:dc [] w w'):zM w w':=λad v hv=>(World.cell?_of_block (h.block _ (World.block_lt_of_cell? w ad hv) cP)).trans hv
variable{z:Value}
theorem ls{zs:List Value}(hz:∀w,(zeroValue T).run C.P w= .ok z w)(hzs:z.cells=zs.toArray):
  OpT C ⟨d,.alloc T,ty,pos,af,gd⟩ fr cs false (λv cs'=>∃b,v= .p b/\cs'=cs++[row b zs T]):=λa w hf hi next Q h=>by
 have hr:(execOp a.eval ⟨d,.alloc T,ty,pos,af,gd⟩).run C.P w= .ok (.value (.p w.heap.size)) (w.alloc (.cells zs.toArray T)):=by
  simp[execOp,Instr.alloc,hz,newVar,newRow,hzs]
 unfold Oper.wp
 rw[hr]
 exact h _ _ _ ⟨_,rfl,rfl⟩ (hi.alloc zs T) (λ_=>zM.alloc w _)
variable{xs:List Value}
theorem t_box(hx:ev fr x=some v)(hv:v.cells=xs.toArray):
  OpT C ⟨d,.box T x,ty,pos,af,gd⟩ fr cs false (λv cs'=>∃b,v= .p b/\cs'=cs++[row b xs T]):=λa w hf hi next Q h=>by
 have hr:(execOp a.eval ⟨d,.box T x,ty,pos,af,gd⟩).run C.P w= .ok (.value (.p w.heap.size)) (w.alloc (.cells xs.toArray T)):=by
  simp[execOp,Instr.box,hf.ev hx,newVar,newRow,hv]
 unfold Oper.wp
 rw[hr]
 exact h _ _ _ ⟨_,rfl,rfl⟩ (hi.alloc xs T) (λ_=>zM.alloc w _)
inductive pT:List Value->Nat->Value->List Value->Prop
 |zero (u v:Value) (l:List Value):pT (u::l) 0 v (v::l)
 |succ (u:Value) {l l':List Value} {n:Nat} {v:Value} (h:pT l n v l'):pT (u::l) (n+1) v (u::l')
theorem pT.set{l l':List Value}{n:Nat}{v:Value}(h:pT l n v l'):l.set n v=l'/\n<l.length:=by
 induction h with
 |zero=>simp
 |succ u _ ih=>grind
theorem mm{bb o t:Nat}{xs':List Value}(hT:∀w,(sizeOf T).run C.P w= .ok 1 w)(hx:ev fr x=some (.pointer (some ⟨bb,o,none⟩)))(hy:ev fr y=some v)(h1:v.oneCell'=true)(hu:At cs (row bb xs t) mk)(hs:pT xs o v xs'):
  OpT C ⟨d,.store T x y,ty,pos,af,gd⟩ fr cs true (λu cs'=>u=undef/\cs'=mk (row bb xs' t)):=λa w hf hi next Q h=>by
 obtain⟨rfl,ho⟩:=hs.set
 have hc:=hi.cell hu.has o
 have hfz:=hi.free hu.has o
 have hcs:v.cells= #[v]:=by cases v<;>first|rfl|cases h1
 have hr:(execOp a.eval ⟨d,.store T x y,ty,pos,af,gd⟩).run C.P w= .ok .skip (w.setCell ⟨bb,o,none⟩ v):=by
  exact Wq438
 unfold Oper.wp
 rw[hr]
 exact h _ _ _ ⟨rfl,rfl⟩ (hi.set o v (hu _)) (λe=>by cases e)
variable{vs:List Value}
theorem cZ{bb t:Nat}(hT:∀w,(sizeOf T).run C.P w= .ok vs.length w)(hx:ev fr x=some (.p bb))(hy:ev fr y=some (.agg vs.toArray))(h1:∀u∈vs,u.oneCell'=true)(hu:At cs (row bb xs t) mk)(ho:vs.length=xs.length):
  OpT C ⟨d,.store T x y,ty,pos,af,gd⟩ fr cs true (λu cs'=>u=undef/\cs'=mk (row bb vs t)):=λa w hf hi next Q h=>by
 have hg:w.heap[bb]? =some (.cells xs.toArray t (0,0)):=hi.get hu.has
 have hst:=run_storeCells_at C.P bb 0 t vs 0 xs.toArray w hg (by simp[ho]) h1
 have e:((xs.toArray.toList.take (0+0)++vs++xs.toArray.toList.drop (0+0+vs.length)).toArray)=vs.toArray:=by simp[ho]
 rw[e]at hst
 have hr:(execOp a.eval ⟨d,.store T x y,ty,pos,af,gd⟩).run C.P w= .ok .skip (w.setRow bb vs.toArray):=by
  simp[execOp,hf.ev hx,hf.ev hy,Instr.storeAt,Instr.sureAddr,storeVar,hT,Value.cells,hst]
 have hsame:∀k,k≠bb->(w.setRow bb vs.toArray).heap[k]? =w.heap[k]? :=λk hk=>by
  exact xt
 have hsz:(w.setRow bb vs.toArray).heap.size=w.heap.size:=by simp[World.setRow]
 unfold Oper.wp
 rw[hr]
 refine h _ _ _ ⟨rfl,rfl⟩ (hi.upd (hu _) ⟨rfl,rfl,rfl,by omega,λk _ hk=>hsame k (by grind [bJ.bs])⟩ ⟨⟨rfl,rfl,rfl,by omega,λk _ hk=>hsame k (by grind [bJ.bs])⟩,by simp[bK,row,bJ.bs],?_,?_⟩) (λe=>by cases e)
 .intro c hc
  simp only[aC]at hc
  subst hc
  show(w.setRow bb vs.toArray).heap[bb]? =_
  exact xt
 grind [bK,bJ.bs]
variable{e sz n c:Nat}{A:Oa}
theorem jO{S:List Nat}(hk:dc S w w')(ho:w'.ownsRow 0 e sz (.slice A n c) n xs)(hb:∀a,A=some a->a.block∈S\/w.heap.size<=a.block):Inv w S [slv e sz A n c xs] w':=by
 refine⟨hk,?_,?_,?_⟩
 .cases A<;>simp[bK,slv,bJ.bs,ab]
 .intro c hc
  simp only[aC]at hc
  subst hc
  exact ho
 intro b hbb
 cases A with
 |none=>grind [bK,bJ.bs,ab]
 |some a=>
  grind [bK,bJ.bs,ab]
variable{P:Program}
theorem qp(w:World)(base:Nat)(t ty e:TypeId)(i:TypeInfo)(size:Nat)(ht:P.underlying t=some (.slice e))(hi:P.info? e=some i)
  (v:Value) (n:Nat) (xs:List Value) (hown:w.ownsRow base e size v n xs) (c:Nat):(Builtin.append_ #[t,t] ty #[v,.slice none 0 c]).run P w= .ok v w:=by
 rcases hown.2 with⟨rfl,rfl⟩|⟨g,cap,cur,rfl,_,_,hnc,_⟩
 .simp[Builtin.append_,run_underlying ht,sizeOf,typeInfo,hi,Builtin.lenOf,Builtin.firstCells]
 simp[Builtin.append_,run_underlying ht,sizeOf,typeInfo,hi,Builtin.lenOf,Builtin.firstCells,hnc,storeCells]
theorem qo(w:World)(t ty e:TypeId)(i:TypeInfo)(z:Value)(sz:Nat)(ht:P.underlying t=some (.slice e))(hi:P.info? e=some i)(hz:i.zero=some z)
  (hsize:i.size=sz) (hzs:z.cells.size=sz) (hsz:0<sz)
  (A:Oa) (n c:Nat) (xs:List Value) (hown:w.ownsRow 0 e sz (.slice A n c) n xs)
  (A2:Oa) (n2 c2:Nat) (ys:List Value) (hr:RdV w sz A2 n2 c2 ys) (h1:∀u∈ys,u.oneCell'=true)
  (h63:n+n2<=maxLen) (cI:(n+n2)*i.bytes<=140737488355328):
  ∃A' c' w',(Builtin.append_ #[t,t] ty #[.slice A n c,.slice A2 n2 c2]).run P w= .ok (.slice A' (n+n2) c') w'/\w'.ownsRow 0 e sz (.slice A' (n+n2) c') (n+n2) (xs++ys)/\w.grownBy w' ((Value.slice A n c).ownBlock)/\
   (A'.map Addr.block=A.map Addr.block\/A'.map Addr.block=some w.heap.size):=by
 obtain⟨hlen,hc,hm,hnil,hread⟩:=hr
 rcases A2 with _|ad
 .obtain⟨rfl,rfl⟩:=hnil rfl
  grind [qp,World.grownBy.refl]
 obtain⟨v',w',j0,h2,h3,_,h5⟩:=run_append_own_at (P:=P) w 0 t ty e i z sz i.bytes ht hi hz hsize rfl hzs hsz (.slice A n c) n xs hown ad n2 c2 ys hlen (hread ad rfl) h1 h63 cI (ap _)
 have hv:∃A' c',v'= .slice A' (n+n2) c':=by
  rcases h2.2 with⟨rfl,hn⟩|⟨g,cap,cur,rfl,_⟩
  .grind
  grind
 obtain⟨A',c',rfl⟩:=hv
 refine⟨A',c',w',j0,h2,h3,?_⟩
 rcases h5 with h5|h5
 .left;cases A'<;>cases A<;>simp_all [Value.ownBlock]
 right;cases A'<;>simp_all [Value.ownBlock]
theorem dc.Xd(h:w.grownBy w' ((Value.slice A n c).ownBlock)):dc (ab A) w w':=
 ⟨h.os,h.tape,h.output,h.size,λb hb hn=>h.block b hb (by cases A<;>simp[Value.ownBlock,ab]at hn|-;omega)⟩
def D9(P:Program)(e sz bytes:Nat):Bool:=match P.info? e with
 |some i=>match i.zero with
  |some z=>Nat.beq i.size sz&&Nat.beq z.cells.size sz&&Nat.beq i.bytes bytes&&Nat.blt 0 sz
  |none=>false
 |none=>false
variable{bytes:Nat}
theorem pG(h:D9 P e sz bytes=true):∃i z,P.info? e=some i/\i.zero=some z/\i.size=sz/\z.cells.size=sz/\i.bytes=bytes/\0<sz:=by
 grind [D9,Nat.blt_eq,Nat.eq_of_beq_eq_true]
variable{ys:List Value}
theorem bV{n2 c2:Nat}{A2:Oa}(hx:ev fr x=some (.slice A n c))(hy:ev fr y=some (.slice A2 n2 c2))(hu:At cs (slv e sz A n c xs) mk)
  (ht:C.P.underlying T=some (.slice e)) (hel:D9 C.P e sz bytes=true)
  (hr:∀w,Inv C.w0 C.S cs w->RdV w sz A2 n2 c2 ys) (h1:∀u∈ys,u.oneCell'=true) (h63:n+n2<=maxLen) (cI:(n+n2)*bytes<=140737488355328):
  OpT C ⟨d,.call {callee:= .builtin .append,args:= #[x,y],argTypes:= #[T,T]},ty,pos,af,gd⟩ fr cs true (λv cs'=>∃A' c',v= .slice A' (n+n2) c'/\cs'=mk (slv e sz A' (n+n2) c' (xs++ys))):=λa w hf hinv next Q h=>by
 obtain⟨i,z,hi,hz,hsize,hzs,rfl,hsz⟩:=pG hel
 have hown:w.ownsRow 0 e sz (.slice A n c) n xs:=hinv.get hu.has
 obtain⟨A',c',w',j0,h2,h3,h4⟩:=qo (P:=C.P) w T ty e i z sz ht hi hz hsize hzs hsz A n c xs hown A2 n2 c2 ys (hr w hinv) h1 h63 cI
 have hr':(execOp a.eval ⟨d,.call {callee:= .builtin .append,args:= #[x,y],argTypes:= #[T,T]},ty,pos,af,gd⟩).run C.P w= .ok (.value (.slice A' (n+n2) c')) w':=by
  exact Uz
 unfold Oper.wp
 rw[hr']
 have hk:=dc.Xd h3
 refine h _ _ _ ⟨A',c',rfl,rfl⟩ (hinv.upd (hu _) hk (jO hk h2 λa ha=>?_)) (λe=>by cases e)
 subst ha
 rcases h4 with h4|h4
 .cases A with
  |none=>simp at h4
  |some a0=>grind [bJ.bs,ab]
 grind
theorem CE{n2 c2:Nat}{A2:Oa}(hx:ev fr x=some (.slice none 0 0))(hy:ev fr y=some (.slice A2 n2 c2))
  (ht:C.P.underlying T=some (.slice e)) (hel:D9 C.P e sz bytes=true)
  (hr:∀w,Inv C.w0 C.S cs w->RdV w sz A2 n2 c2 ys) (h1:∀u∈ys,u.oneCell'=true) (h63:n2<=maxLen) (cI:n2*bytes<=140737488355328):
  OpT C ⟨d,.call {callee:= .builtin .append,args:= #[x,y],argTypes:= #[T,T]},ty,pos,af,gd⟩ fr cs false (λv cs'=>∃A' c',v= .slice A' n2 c'/\cs'=cs++[slv e sz A' n2 c' ys]):=λa w hf hinv next Q h=>by
 obtain⟨i,z,hi,hz,hsize,hzs,rfl,hsz⟩:=pG hel
 obtain⟨A',c',w',j0,h2,h3,h4⟩:=qo (P:=C.P) w T ty e i z sz ht hi hz hsize hzs hsz none 0 0 [] ⟨by simp,.inl ⟨rfl,rfl⟩⟩ A2 n2 c2 ys (hr w hinv) h1 Wq1 bY
 simp only[Nat.zero_add,aR]at j0 h2
 have hr':(execOp a.eval ⟨d,.call {callee:= .builtin .append,args:= #[x,y],argTypes:= #[T,T]},ty,pos,af,gd⟩).run C.P w= .ok (.value (.slice A' n2 c')) w':=by
  exact Uz
 unfold Oper.wp
 rw[hr']
 have hk:dc [] w w':=dc.Xd h3
 refine h _ _ _ ⟨A',c',rfl,rfl⟩ (hinv.more (jO hk h2 λa ha=>?_)) (λ_=>zM.Xk hk)
 grind
def evs(fr:Fr):List Operand->Option (List Value)
 |[]=>some []
 |x::l=>match ev fr x,evs fr l with
  |some v,some vs=>some (v::vs)
  |_,_=>none
theorem IN{N:Nat}{a:Act}(hf:ro N fr a):∀{l:List Operand} {vs:List Value},evs fr l=some vs->l.map a.eval=vs
 |[],vs,h=>by grind [evs]
 |x::l,vs,h=>by
  simp only[evs]at h
  split at h
  .rename_i u us hu hus
   simp only[bo]at h
   subst h
   simp[hf.ev hu,IN hf hus]
  cases h
def evP(fr:Fr):List (Nat×Operand)->Option (List (Nat×Value))
 |[]=>some []
 |(i,x)::l=>match ev fr x,evP fr l with
  |some v,some vs=>some ((i,v)::vs)
  |_,_=>none
theorem Pk{N:Nat}{a:Act}(hf:ro N fr a):∀{l:List (Nat×Operand)} {vs:List (Nat×Value)},evP fr l=some vs->l.map (λp=>(p.1,a.eval p.2))=vs
 |[],vs,h=>by grind [evP]
 |(i,x)::l,vs,h=>by
  simp only[evP]at h
  split at h
  .rename_i u us hu hus
   simp only[bo]at h
   subst h
   simp[hf.ev hu,Pk hf hus]
  cases h
theorem Pa(l:List Value):∀(j:Nat) (pre post:List Value),post.length=l.length->
  (l.zipIdx j).foldl (λ(cs:Array Value) (p:Value×Nat)=>cs.setIfInBounds (pre.length - j+p.2) p.1) (pre++post).toArray=(pre++l).toArray\/pre.length<j:=by
 induction l with
 |nil=>
  simp_all
 |cons v l ih=>
  intro j pre post h
  by_cases hj:pre.length<j
  .omega
  left
  cases post with
  |nil=>simp at h
  |cons q post=>
   simp only[List.zipIdx_cons,List.foldl_cons]
   have e1:((pre++q::post).toArray).setIfInBounds (pre.length - j+j) v=((pre++[v])++post).toArray:=by
    rw[show pre.length - j+j=pre.length by omega]
    simp
   grind
theorem Ph(sz:Nat):∀(l:List (Nat×Value)) (k:Nat) (pre post:List Value),l.map Prod.fst=List.range' k l.length->(∀p∈l,p.2.cells.size=sz)->pre.length=k*sz->post.length=l.length*sz->
  Instr.fill (λi=>some (i*sz,sz)) (pre++post).toArray l=some (pre++l.flatMap (λp=>p.2.cells.toList)).toArray
 |[],_,pre,post,_,_,_,h=>by
  simp_all [Instr.fill]
 |(i,v)::l,k,pre,post,hk,hs,hp,h=>by
  simp only[List.map_cons,aO,List.range'_succ,List.cons.injEq]at hk
  obtain⟨rfl,hk⟩:=hk
  have hv:=hs (i,v) cP
  simp only at hv
  simp only[aO,Nat.add_mul,Nat.one_mul]at h
  have hlen:¬(v.cells.size≠sz||decide (i*sz+v.cells.size>(pre++post).toArray.size))=true:=by
   simp only[hv,ne_eq,not_true_eq_false,decide_false,Bool.false_or,ac,List.size_toArray,aj,hp,h]
   omega
  simp only[Instr.fill]
  rw[if_neg Wq1]
  have hf:=Pa v.cells.toList 0 pre (post.take sz) (by simp[hv,h])
  have hf2:(v.cells.zipIdx.foldl (λcs (p:Value×Nat)=>cs.setIfInBounds (i*sz+p.2) p.1) (pre++post).toArray)=((pre++v.cells.toList)++post.drop sz).toArray:=by
   rw[<-Array.foldl_toList,Array.toList_zipIdx]
   have key:∀(m:List (Value×Nat)) (a:List Value),a.length=(pre++post.take sz).length->(∀p∈m,pre.length+p.2<a.length)->
     m.foldl (λ(cs:Array Value) (p:Value×Nat)=>cs.setIfInBounds (i*sz+p.2) p.1) (a++post.drop sz).toArray=((m.foldl (λ(cs:Array Value) (p:Value×Nat)=>cs.setIfInBounds (pre.length - 0+p.2) p.1) a.toArray).toList++post.drop sz).toArray:=by
    intro m
    induction m with
    |nil=>grind
    |cons p m ih=>
     intro a ha hm
     have hlt:=hm p cP
     simp only[List.foldl_cons]
     have e1:((a++post.drop sz).toArray).setIfInBounds (i*sz+p.2) p.1=((a.set (pre.length+p.2) p.1)++post.drop sz).toArray:=by
      rw[<-hp]
      simp[List.set_append_left _ _ hlt]
     have e2:(a.toArray).setIfInBounds (pre.length - 0+p.2) p.1=(a.set (pre.length+p.2) p.1).toArray:=by simp
     rw[e1,e2]
     exact ih _ bY (λq hq=>by grind)
   have h3:=key (v.cells.toList.zipIdx) (pre++post.take sz) rfl (λp hp'=>by
    grind)
   rw[aq,List.take_append_drop]at h3
   rw[h3]
   rcases hf with hf|hf
   .rw[hf]
   omega
  rw[hf2,Ph sz l (i+1) (pre++v.cells.toList) (post.drop sz) hk (λp hp'=>hs p (by simp[hp'])) bY (by simp[h])]
  simp
variable{prs:List (Nat×Value)}
theorem Fi{T:Nat}(ht:P.underlying T=some (.slice e))(hs:∀w,(sizeOf e).run P w= .ok sz w)(hz:∀w,(zeroValue e).run P w= .ok z w)
  (hn:prs.length=n) (hk:prs.map Prod.fst=List.range' 0 prs.length) (h1:∀p∈prs,p.2.cells.size=sz) (hb:n*sz<=16777216) (w:World):
  (Instr.buildSlice T n prs.toArray).run P w= .ok (.slice (sA w.heap.size) n n) (w.alloc (.cells (prs.flatMap (λp=>p.2.cells.toList)).toArray e)):=by
 have hlim:¬n*sz>2^24:=by
  have:(2:Nat)^24=16777216:=by decide
  omega
 have key:∀a:Array Value,a.size=n*sz->Instr.fill (λi=>some (i*sz,sz)) a prs=some (prs.flatMap (λp=>p.2.cells.toList)).toArray:=λa ha=>by
  have:=Ph sz prs 0 [] a.toList hk h1 cP bY
  simp_all
 simp only[Instr.buildSlice,Sem.run_bind,run_underlying ht,Result.andThen_ok,hs]
 simp_all [newRow,Sem.run_bind,Result.andThen_ok,Sem.run_pure]
variable{ps:List (Nat×Operand)}
theorem gZ(hp:evP fr ps=some prs)(ht:C.P.underlying T=some (.slice e))(hs:∀w,(sizeOf e).run C.P w= .ok sz w)(hz:∀w,(zeroValue e).run C.P w= .ok z w)
  (hk:(prs.map Prod.fst==List.range' 0 n&&prs.length==n&&prs.all (λp=>p.2.cells.size==sz))=true) (hb:(Nat.ble (n*sz) 16777216&&Nat.ble n 16777216)=true) (hvs:prs.flatMap (λp=>p.2.cells.toList)=vs):
  OpT C ⟨d,.buildSlice T n ps.toArray,ty,pos,af,gd⟩ fr cs false (λv cs'=>∃b,v= .slice (sA b) n n/\cs'=cs++[slv e sz (sA b) n n vs]):=λa w hf hinv next Q h=>by
 subst hvs
 simp only[au,beq_iff_eq,aQ]at hk
 obtain⟨⟨hk1,hk2⟩,hk3⟩:=hk
 obtain⟨hb',hbn⟩:n*sz<=16777216/\n<=16777216:=by simp_all
 have hr:=Fi (P:=C.P) ht hs hz hk2 bY hk3 hb' w
 have hl:(prs.flatMap (λp=>p.2.cells.toList)).length=n*sz:=by
  rw[<-hk2]
  clear hr hk1 hk2 hb hb' hp h
  induction prs with
  |nil=>simp
  |cons p l ih=>
   grind
 have hr':(execOp a.eval ⟨d,.buildSlice T n ps.toArray,ty,pos,af,gd⟩).run C.P w= .ok (.value (.slice (sA w.heap.size) n n)) (w.alloc (.cells (prs.flatMap (λp=>p.2.cells.toList)).toArray e)):=by
  have e1:ps.toArray.map (λp=>(p.1,a.eval p.2))=prs.toArray:=by simp[Pk hf hp]
  simp only[execOp]
  rw[show(ps.toArray.map λ(i,x)=>(i,a.eval x))=prs.toArray from e1]
  simp[hr]
 unfold Oper.wp
 rw[hr']
 refine h _ _ _ ⟨_,rfl,rfl⟩ (hinv.more (jO (dc.Xe ((Below.refl _ _).alloc (aL _) _) _) ⟨hl,.inr ⟨w.heap.size,n,_,rfl,ap _,heap_alloc_new w _,aL _,?_,by omega,aM bY⟩⟩ λa ha=>?_)) (λ_=>zM.alloc w _)
 .grind [maxLen]
 grind
theorem evs_len:∀{l:List Operand} {vs:List Value},Ink.evs fr l=some vs->vs.length=l.length
 :=by intro y1;induction y1<;>grind [Ink.evs]
theorem VP{fr:Fr}:∀{l:List (Nat×Operand)} {vs:List Value},Ink.evs fr (l.map Prod.snd)=some vs->evP fr l=some (List.zip (l.map Prod.fst) vs)
 |[],_,_=>by simp[evP]
 |(i,x)::l,vs,h=>by
  simp only[List.map_cons,Ink.evs]at h
  split at h
  .rename_i u us hu hus
   simp only[bo]at h
   subst h
   simp[evP,hu,VP hus]
  cases h
theorem ff(hp:Ink.evs fr (ps.map Prod.snd)=some vs)(ht:C.P.underlying T=some (.slice e))(hs:∀w,(sizeOf e).run C.P w= .ok 1 w)(hz:∀w,(zeroValue e).run C.P w= .ok z w)
  (hk:(ps.map Prod.fst==List.range' 0 n&&ps.length==n&&Nat.ble n 16777216)=true) (h1:vs.all (·.oneCell')=true):
  OpT C ⟨d,.buildSlice T n ps.toArray,ty,pos,af,gd⟩ fr cs false (λv cs'=>∃b,v= .slice (sA b) n n/\cs'=cs++[slv e 1 (sA b) n n vs]):=by
 simp only[au,beq_iff_eq]at hk
 obtain⟨⟨hk1,hk2⟩,hk3⟩:=hk
 have hl:vs.length=n:=by rw[evs_len hp,ax,hk2]
 have hcell:∀v∈vs,v.cells= #[v]:=λv hv=>by
  have:=aQ.1 h1 v hv
  cases v<;>first|rfl|cases this
 have hzip:(List.zip (ps.map Prod.fst) vs).map Prod.snd=vs:=List.map_snd_zip bY
 have hflat:(List.zip (ps.map Prod.fst) vs).flatMap (λp=>p.2.cells.toList)=vs:=by
  have:(List.zip (ps.map Prod.fst) vs).flatMap (λp=>p.2.cells.toList)=((List.zip (ps.map Prod.fst) vs).map Prod.snd).flatMap (λv=>v.cells.toList):=by simp[List.flatMap_map]
  rw[this,hzip]
  clear hp hl hzip this h1 hk1
  induction vs with
  |nil=>rfl
  |cons v vs ih=>
   grind
 refine gZ (prs:=List.zip (ps.map Prod.fst) vs) (VP hp) ht hs hz ?_ ?_ hflat
 .simp only[au,beq_iff_eq,aQ]
  refine⟨⟨?_,?_⟩,λp hp'=>?_⟩
  .grind [List.map_fst_zip]
  .grind
  grind
 grind
def Ctr(P:Program)(f:FuncId)(args:List Value)(w:World)(cin:List bJ)(K:Value->List bJ->Prop):Prop:=
 Calls P f args.toArray w (λe w'=>∃v cout,e= .returned v/\K v cout/\Inv w (bK cin) cout w')
theorem Ctr.mono{P:Program}{f:FuncId}{args:List Value}{w:World}{cin:List bJ}{K K':Value->List bJ->Prop}(h:Ctr P f args w cin K)(hk:∀v cout,K v cout->K' v cout):Ctr P f args w cin K':=
 Calls.mono h λ_ _ ⟨v,cout,he,h1,h2⟩=>⟨v,cout,he,hk _ _ h1,h2⟩
variable{f:FuncId}{l:List Operand}{ats:Array TypeId}{a:Act}
theorem Hj(hf:ro C.N fr a)(hl:evs fr l=some vs)(hc:∀args w,(callFunc f args).run C.P w= .ok (.enter f args) w):
  (execOp a.eval ⟨d,.call {callee:= .value (.func f),args:=l.toArray,argTypes:=ats},ty,pos,af,gd⟩).run C.P w= .ok (.enter f vs.toArray) w:=by
 simp[execOp,resolve,invoke,Deferred.ofValue,Act.eval,<-IN hf hl,hc]
variable{K:Value->List bJ->Prop}
theorem dh(hl:evs fr l=some vs)(hc:∀args w,(callFunc f args).run C.P w= .ok (.enter f args) w)
  (h:∀w,Inv C.w0 C.S cs w->Ctr C.P f vs w [] K):
  OpT C ⟨d,.call {callee:= .value (.func f),args:=l.toArray,argTypes:=ats},ty,pos,af,gd⟩ fr cs false (λv cs'=>∃news,K v news/\cs'=cs++news):=λa w hf hinv next Q hn=>by
 unfold Oper.wp
 rw[Hj hf hl hc]
 refine Calls.mono (h w hinv) λe w' hp=>?_
 obtain⟨v,cout,rfl,hk,hi⟩:=hp
 exact hn _ _ _ ⟨cout,hk,rfl⟩ (hinv.more hi) (λ_=>zM.Xk hi.WB)
inductive EvL (fr:Fr) (g:Bool):List Operand->List Value->Prop
 |nil:EvL fr g [] []
 |cons {x:Operand} {v:Value} {l:List Operand} {vs:List Value} (h:Ev fr g x v) (t:EvL fr g l vs):EvL fr g (x::l) (v::vs)
variable{g:Bool}
theorem EvL.ok{N:Nat}(hf:ro N fr a)(hg:g=true){l:List Operand}{vs:List Value}(h:EvL fr g l vs):l.map a.eval=vs:=by
 induction h with
 |nil=>rfl
 |cons h _ ih=>simp[h.eval hf hg,ih]
theorem VT{N:Nat}{v0:Value}{next:Act->World->Prop}{Q:lF}(hf:ro N fr a)(hg:g=true)(hl:EvL fr g l vs)(hc:∀args w,(callFunc f args).run C.P w= .ok (.enter f args) w)
  (h:Ctr C.P f vs w [] (λv cs=>v=v0/\cs=[])) (hn:∀w',dc [] w w'->next (a.put d v0) w'):
  (Oper.mk d (.call {callee:= .value (.func f),args:=l.toArray,argTypes:=ats}) ty pos af gd).wp C.P a w next Q:=by
 unfold Oper.wp
 have hr:(execOp a.eval ⟨d,.call {callee:= .value (.func f),args:=l.toArray,argTypes:=ats},ty,pos,af,gd⟩).run C.P w= .ok (.enter f vs.toArray) w:=by
  simp[execOp,resolve,invoke,Deferred.ofValue,Act.eval,<-hl.ok hf hg,hc]
 rw[hr]
 refine Calls.mono h λe w' hp=>?_
 obtain⟨v,cout,rfl,⟨rfl,rfl⟩,hi⟩:=hp
 exact hn w' hi.WB
theorem Inv.kept{w0:World}{S:List Nat}(hi:Inv w0 S cs w)(hk:dc [] w w'):Inv w0 S cs w':=by
 have:=hi.more (news:=[]) ⟨hk,by simp[bK],by simp,by simp[bK]⟩
 grind
theorem dE{d:Nat}{Q:lF}{ops:Array Oper}{rest:List Oper}{v0:Value}(hg:bN ops fr ⟨some d,.call {callee:= .value (.func f),args:=l.toArray,argTypes:=ats},ty,pos,af,gd⟩ g)(hl:EvL fr g l vs)
  (hc:∀args w,(callFunc f args).run C.P w= .ok (.enter f args) w) (h:g=true->∀w,Inv C.w0 C.S cs w->Ctr C.P f vs w [] (λv cs=>v=v0/\cs=[])) (hd:Nat.blt d C.N=true)
  (hn:WL C ops Q rest ((d,bif g then v0 else undef)::fr) cs):WL C ops Q (⟨some d,.call {callee:= .value (.func f),args:=l.toArray,argTypes:=ats},ty,pos,af,gd⟩::rest) fr cs:=λa w hf hi=>by
 refine wpList_step λK hK=>?_
 rw[hg _ a hf]
 cases g with
 |true=>
  rw[if_pos rfl]
  exact VT hf rfl hl hc (h rfl w hi) λw' hk=>hK _ _ (hn _ w' (hf.put kS _) (hi.kept hk))
 |false=>
  rw[if_neg cP]
  exact hK _ _ (hn _ w (hf.put kS _) hi)
theorem t_callN(cin rest:List bJ)(hl:evs fr l=some vs)(hc:∀args w,(callFunc f args).run C.P w= .ok (.enter f args) w)
  (hp:cs.Perm (cin++rest)) (h:∀w,Inv C.w0 C.S cs w->Ctr C.P f vs w cin K):
  OpT C ⟨d,.call {callee:= .value (.func f),args:=l.toArray,argTypes:=ats},ty,pos,af,gd⟩ fr cs true (λv cs'=>∃cout,K v cout/\cs'=cout++rest):=λa w hf hinv next Q hn=>by
 unfold Oper.wp
 rw[Hj hf hl hc]
 refine Calls.mono (h w hinv) λe w' hq=>?_
 obtain⟨v,cout,rfl,hk,hi⟩:=hq
 exact hn _ _ _ ⟨cout,hk,rfl⟩ (hinv.step hp (.refl _) hi.WB hi) (λe=>by cases e)
end
def Ce(w:World)(S:List Nat)(K:Value->List bJ->Prop)(e:Ending)(w':World):Prop:=∃v cout,e= .returned v/\K v cout/\Inv w S cout w'
def wB:Nat->List Value->Fr
 |_,[]=>[]
 |i,v::vs=>(i,v)::wB (i+1) vs
theorem wg:∀{vs:List Value} {i t:Nat} {v:Value},look (wB i vs) t=some v->∃j,t=i+j/\vs[j]? =some v
 |[],_,_,_,h=>by cases h
 |u::vs,i,t,v,h=>by
  simp only[wB,look]at h
  by_cases e:i=t
  .simp_all
  have e':Nat.beq i t=false:=by cases h':Nat.beq i t with|false=>rfl|true=>simp_all
  rw[e']at h
  obtain⟨j,h1,h2⟩:=wg h
  exact⟨j+1,by omega,by grind⟩
theorem O9{N:Nat}{vs:List Value}(h:vs.length<=N):ro N (wB 0 vs) {tmps:=vs.toArray++Array.replicate (N - vs.toArray.size) undef,defers:=[]}:=by
 refine⟨by simp;omega,rfl,λt v hl=>?_⟩
 obtain⟨j,e,hj⟩:=wg hl
 obtain rfl:t=j:=by omega
 have hlt:t<vs.length:=(ar.1 hj).1
 rw[ae hlt]at hj
 simp only[bo]at hj
 simp[Array.getElem?_append,hlt,hj]
theorem Inv.start(w:World):Inv w (bK []) [] w:=⟨dc.refl _ _,by simp[bK],by simp,by grind⟩
theorem Pc{P:Program}{f:FuncId}{fn:Func}{c:Code}{N:Nat}{args:List Value}{w:World}{cin:List bJ}{K:Value->List bJ->Prop}(hf:P.funcs[f]? =some fn)(hb:fn.body=some c)(hn:fn.ntmps=N)(hl:Nat.ble args.length N=true)
  (hi:Inv w (bK cin) cin w) (h:WC ⟨P,N,w,bK cin⟩ c (bodyPost P fn (Ce w (bK cin) K)) (wB 0 args) cin):Ctr P f args w cin K:=by
 subst hn
 exact calls_of_wp hf hb (h _ w (O9 kS) hi)
section
variable {C:Cx} {fr:Fr} {cs cs':List bJ} {fn:Func} {K:Value->List bJ->Prop}
variable{e:Exit}
theorem nG(he:e= .ret\/e= .normal){v:Value}(hs:cs'.Sublist cs)(hr:∀a w,ro C.N fr a->Inv C.w0 C.S cs w->(results fn a.tmps).run C.P w= .ok v w)(hk:K v cs'):QOk C (bodyPost C.P fn (Ce C.w0 C.S K)) e fr cs:=λa w hf hi=>by
 have:a.defers=[]/\∃v,(results fn a.tmps).run C.P w= .ok v w/\Ce C.w0 C.S K (.returned v) w:=⟨hf.defs,v,hr a w hf hi,v,cs',rfl,hk,hi.drop hs⟩
 rcases he with rfl|rfl<;>exact this
variable{t:Nat}{v:Value}
theorem LH(he:e= .ret\/e= .normal)(hs:cs'.Sublist cs)(h0:fn.results= #[.tmp t])(h1:look fr t=some v)(hk:K v cs'):QOk C (bodyPost C.P fn (Ce C.w0 C.S K)) e fr cs:=
 nG he hs (λa w hf _=>by rw[results_tmp h0,hf.at_ t v h1]) hk
theorem AH{u:Nat}{v':Value}(he:e= .ret\/e= .normal)(hs:cs'.Sublist cs)(h0:fn.results= #[.tmp t,.tmp u])(h1:look fr t=some v)(h2:look fr u=some v')(hk:K (.tuple #[v,v']) cs'):QOk C (bodyPost C.P fn (Ce C.w0 C.S K)) e fr cs:=
 nG he hs (λa w hf _=>by rw[results_tmp2 h0,hf.at_ t v h1,hf.at_ u v' h2]) hk
theorem jE(he:e= .ret\/e= .normal)(hs:cs'.Sublist cs)(h0:fn.results= #[])(hk:K (.tuple #[]) cs'):QOk C (bodyPost C.P fn (Ce C.w0 C.S K)) e fr cs:=
 nG he hs (λa w hf _=>by rw[results_none h0]) hk
variable{T bb:Nat}{xs:List Value}
theorem gz{w:World}(hT:∀w,(isAgg T).run C.P w= .ok true w)(hz:∀w,(sizeOf T).run C.P w= .ok xs.length w)(hi:Inv C.w0 C.S cs w)(hc:Has cs (row bb xs t)):(loadVar T ⟨bb,0,none⟩).run C.P w= .ok (.agg xs.toArray) w:=by
 have h:=run_loadCells_list (P:=C.P) w ⟨bb,0,none⟩ xs (λj v hj=>by
  rw[Addr.add_lit,hi.cell hc]
  grind)
 simp[loadVar,hT,hz,h]
theorem m8{tt:Nat}(he:e= .ret\/e= .normal)(hs:cs'.Sublist cs)(h0:fn.results= #[.cell t T])(h1:look fr t=some (.p bb))(hc:Has cs (row bb xs tt))
  (hT:∀w,(isAgg T).run C.P w= .ok true w) (hz:∀w,(sizeOf T).run C.P w= .ok xs.length w) (hk:K (.agg xs.toArray) cs'):QOk C (bodyPost C.P fn (Ce C.w0 C.S K)) e fr cs:=
 nG he hs (λa w hf hi=>by
  have e1:=hf.at_ t _ h1
  simp only[Array.getD_eq_getD_getElem?]at e1
  simp[results,h0,e1,asAddr,gz hT hz hi hc]) hk
theorem px{tt u:Nat}(he:e= .ret\/e= .normal)(hs:cs'.Sublist cs)(h0:fn.results= #[.cell t T,.tmp u])(h1:look fr t=some (.p bb))(h2:look fr u=some v)(hc:Has cs (row bb xs tt))
  (hT:∀w,(isAgg T).run C.P w= .ok true w) (hz:∀w,(sizeOf T).run C.P w= .ok xs.length w) (hk:K (.tuple #[.agg xs.toArray,v]) cs'):QOk C (bodyPost C.P fn (Ce C.w0 C.S K)) e fr cs:=
 nG he hs (λa w hf hi=>by
  have e1:=hf.at_ t _ h1
  have e2:=hf.at_ u _ h2
  simp only[Array.getD_eq_getD_getElem?]at e1 e2
  simp[results,h0,e1,e2,asAddr,gz hT hz hi hc]) hk
end
def WI(C:Cx)(St:Dr)(ops:Array Oper)(Q:lF)(fuel:Nat)(listed:Array Bool)(i:Nat)(fr:Fr)(cs:List bJ):Prop:=
 ∀a w,ro C.N fr a->Inv C.w0 C.S cs w->wpOp C.P ops (NoPanic Q) i (λa' w'=>((St.st i=false->zM w w')/\(cells St.l0 w->cells St.l0 w'))/\sO C.P .any ops (NoPanic Q) St fuel (listed.setIfInBounds i true) a' w') a w
section
variable {C:Cx} {Q:lF} {fr:Fr} {cs:List bJ} {ops:Array Oper} {d:Nat} {op:Op} {ty:TypeId} {pos:String} {af:Array Edge} {gd:Option (Nat×Bool)} {V:World->Prop} {v:Value} {g:Bool}
 {St:Dr} {fuel:Nat} {listed:Array Bool}
theorem cW(i:Nat)(hr:Region.ready .any ops listed=[i])(h:WI C St ops Q fuel listed i fr cs):WA C St ops Q (fuel+1) listed fr cs:=λa w hf hi=>
 ⟨λh0=>bY,λj hj=>by rw[hr,aC]at hj;subst hj;exact h a w hf hi⟩
theorem kW(i j:Nat)(hr:Region.ready .any ops listed=[i,j])(h:WI C St ops Q fuel listed i fr cs)(h':WI C St ops Q fuel listed j fr cs):WA C St ops Q (fuel+1) listed fr cs:=λa w hf hi=>
 ⟨λh0=>bY,λk hk=>by
  rw[hr]at hk
  simp only[aJ,List.not_mem_nil,or_false]at hk
  rcases hk with rfl|rfl
  ·exact h a w hf hi
  exact h' a w hf hi⟩
theorem wa_3(i j l:Nat)(hr:Region.ready .any ops listed=[i,j,l])(h:WI C St ops Q fuel listed i fr cs)(h':WI C St ops Q fuel listed j fr cs)(h'':WI C St ops Q fuel listed l fr cs):WA C St ops Q (fuel+1) listed fr cs:=λa w hf hi=>
 ⟨λh0=>bY,λk hk=>by
  rw[hr]at hk
  simp only[aJ,List.not_mem_nil,or_false]at hk
  rcases hk with rfl|rfl|rfl
  ·exact h a w hf hi
  ·exact h' a w hf hi
  exact h'' a w hf hi⟩
variable{i:Nat}{st:Bool}
theorem PE{w w':World}(hst:St.st i=st)(hp:st=false->zM w w')(hJ:st=true->cells St.l0 w'):(St.st i=false->zM w w')/\(cells St.l0 w->cells St.l0 w'):=by
 subst hst
 refine⟨hp,λh=>?_⟩
 cases hb:St.st i with
 |true=>exact hJ hb
 |false=>exact λx hx=>hp hb _ _ (h x hx)
variable{K:Value->List bJ->Prop}
theorem gX(hi:ops[i]? =some ⟨some d,op,ty,pos,af,none⟩)(hst:St.st i=st)
  (ht:OpT C ⟨some d,op,ty,pos,af,none⟩ fr cs st K) (hJ:st=true->∀v cs',K v cs'->∀w,Inv C.w0 C.S cs' w->cells St.l0 w) (hd:Nat.blt d C.N=true) (h:∀v cs',K v cs'->WA C St ops Q fuel (listed.setIfInBounds i true) ((d,v)::fr) cs'):WI C St ops Q fuel listed i fr cs:=λa w hf hi'=>by
 unfold wpOp
 rw[hi]
 simp only[Region.wanted,if_true]
 exact Wq413
theorem fy(hi:ops[i]? =some ⟨none,op,ty,pos,af,none⟩)(hst:St.st i=st)
  (ht:OpT C ⟨none,op,ty,pos,af,none⟩ fr cs st K) (hJ:st=true->∀v cs',K v cs'->∀w,Inv C.w0 C.S cs' w->cells St.l0 w) (h:∀v cs',K v cs'->WA C St ops Q fuel (listed.setIfInBounds i true) fr cs'):WI C St ops Q fuel listed i fr cs:=λa w hf hi'=>by
 unfold wpOp
 rw[hi]
 simp only[Region.wanted,if_true]
 exact .inl (ht a w hf hi' _ _ λv cs' w' hk hi2 hp=>⟨PE hst hp (λe=>hJ e v cs' hk w' hi2),h v cs' hk _ w' hf hi2⟩)
theorem p6(hi:ops[i]? =some ⟨some d,op,ty,pos,af,gd⟩)(hst:St.st i=st)
  (hg:bN ops fr ⟨some d,op,ty,pos,af,gd⟩ g) (hg1:g=true)
  (ht:OpT C ⟨some d,op,ty,pos,af,gd⟩ fr cs st K) (hJ:st=true->∀v cs',K v cs'->∀w,Inv C.w0 C.S cs' w->cells St.l0 w) (hd:Nat.blt d C.N=true) (h:∀v cs',K v cs'->WA C St ops Q fuel (listed.setIfInBounds i true) ((d,v)::fr) cs'):WI C St ops Q fuel listed i fr cs:=λa w hf hi'=>by
 unfold wpOp
 rw[hi]
 simp only[hg _ a hf,hg1,if_true]
 exact Wq413
theorem ur{f:FuncId}{l:List Operand}{vs:List Value}{ats:Array TypeId}{v0:Value}(hi:ops[i]? =some ⟨some d,.call {callee:= .value (.func f),args:=l.toArray,argTypes:=ats},ty,pos,af,gd⟩)
  (hg:bN ops fr ⟨some d,.call {callee:= .value (.func f),args:=l.toArray,argTypes:=ats},ty,pos,af,gd⟩ g) (hl:EvL fr g l vs)
  (hc:∀args w,(callFunc f args).run C.P w= .ok (.enter f args) w) (h:g=true->∀w,Inv C.w0 C.S cs w->Ctr C.P f vs w [] (λv cs=>v=v0/\cs=[])) (hd:Nat.blt d C.N=true)
  (hn:WA C St ops Q fuel (listed.setIfInBounds i true) ((d,bif g then v0 else undef)::fr) cs):WI C St ops Q fuel listed i fr cs:=λa w hf hi'=>by
 unfold wpOp
 rw[hi]
 simp only[hg _ a hf]
 cases g with
 |true=>
  rw[if_pos rfl]
  exact .inl (VT hf rfl hl hc (h rfl w hi') λw' hk=>⟨⟨λ_=>zM.Xk hk,λh x hx=>zM.Xk hk _ _ (h x hx)⟩,hn _ w' (hf.put kS _) (hi'.kept hk)⟩)
 |false=>
  rw[if_neg cP]
  exact Wq450
end
section
variable {C:Cx} {Q:lF} {fr:Fr} {cs:List bJ} {ops:Array Oper} {rest:List Oper} {d:Nat} {dd:Option Tmp} {ty:TypeId} {pos:String} {af:Array Edge} {gd:Option (Nat×Bool)} {v:Value} {g:Bool} {x y:Operand} {T:TypeId}
variable{St:Dr}{fuel:Nat}{listed:Array Bool}
theorem gR{op:Op}(i:Nat)(hi:ops[i]? =some ⟨some d,op,ty,pos,af,none⟩)(hs:Region.noSelect ops=true)(hfree:Region.free .any ops listed i=true)(hr:(Region.ready .any ops listed).contains i=true)
  (hy:OpY C ⟨some d,op,ty,pos,af,none⟩ fr true Any v) (hd:Nat.blt d C.N=true) (h:WA C St ops Q fuel (listed.setIfInBounds i true) ((d,v)::fr) cs):WA C St ops Q (fuel+1) listed fr cs:=
 JG i hi hs hfree hr fE hy hd h
theorem po{op:Op}(i:Nat){l:List (Addr×Value)}(hi:ops[i]? =some ⟨some d,op,ty,pos,af,none⟩)(hs:Region.noSelect ops=true)(hfree:Region.free .any ops listed i=true)(hst:pf .any ops St.st listed i=true)(hr:(Region.ready .any ops listed).contains i=true)
  (hy:OpY C ⟨some d,op,ty,pos,af,none⟩ fr true (cells l) v) (hV:∀w,Inv C.w0 C.S cs w->cells l w) (hd:Nat.blt d C.N=true) (h:WA C St ops Q fuel (listed.setIfInBounds i true) ((d,v)::fr) cs):WA C St ops Q (fuel+1) listed fr cs:=
 wa_l i hi hs hfree hst hr fE hy hV hd h
theorem wz(w:World)(S:List Nat)(e sz:Nat):Inv w S [slv e sz none 0 0 []] w:=jO (dc.refl _ _) ⟨by simp,.inl ⟨rfl,rfl⟩⟩ (λa h=>by cases h)
theorem cY(e sz:Nat){l:List Oper}(h:WL C ops Q l fr (cs++[slv e sz none 0 0 []])):WL C ops Q l fr cs:=λa w hf hi=>h a w hf (hi.more (wz w [] e sz))
theorem wc_nilc(e sz:Nat){c:Code}(h:WC C c Q fr (cs++[slv e sz none 0 0 []])):WC C c Q fr cs:=λa w hf hi=>h a w hf (hi.more (wz w [] e sz))
theorem Wk.cons{fr' fr:Fr}{t:Nat}{v:Value}(h:Ink.look fr' t=some v)(r:Wk fr' fr):Wk fr' ((t,v)::fr):=⟨h,r⟩
theorem Wk.nil{fr':Fr}:Wk fr' []:=trivial
variable{t:Nat}{k:IntKind}
theorem Vm{a b:Int}(h:look fr t=some (.int k a))(e:a=b):look fr t=some (.int k b):=by grind
variable{xs:Li}{j:Nat}
theorem mE(h:j<xs.length):(ints k xs)[j]? =some (.int k (xs[j]'h)):=by simp[ints,h]
theorem cN:∀u∈ints k xs,u.oneCell'=true:=by
 intro u hu
 obtain⟨x,_,rfl⟩:=aZ.1 hu
 rfl
theorem cj(xs ys:Li):ints k xs++ints k ys=ints k (xs++ys):=by simp[ints]
theorem dA(xs:Li):(ints k xs).length=xs.length:=by simp[ints]
theorem jx(xs:Li)(m:Nat):(ints k xs).take m=ints k (xs.take m):=by simp[ints]
theorem nX(xs:Li)(m:Nat):(ints k xs).drop m=ints k (xs.drop m):=by simp[ints]
variable{F:Prop}
theorem dU{l:List Oper}(hf:∀w,Inv C.w0 C.S cs w->F)(h:F->WL C ops Q l fr cs):WL C ops Q l fr cs:=λa w hfr hi=>h (hf w hi) a w hfr hi
theorem lp{c:Code}(hf:∀w,Inv C.w0 C.S cs w->F)(h:F->WC C c Q fr cs):WC C c Q fr cs:=λa w hfr hi=>h (hf w hi) a w hfr hi
theorem rB(hf:∀w,Inv C.w0 C.S cs w->F)(h:F->WA C St ops Q fuel listed fr cs):WA C St ops Q fuel listed fr cs:=λa w hfr hi=>h (hf w hi) a w hfr hi
variable{w:World}{e c:Nat}{A:Oa}
theorem sl_cut{m:Nat}(h:(sl k e A xs.length c xs).ok w):(sl k e A (xs.take m).length c (xs.take m)).ok w:=by
 have:=Rt (m:=(xs.take m).length) h bY
 grind [jx]
variable{xs:List Value}
theorem mQ(h:xs.all (·.oneCell')=true):∀u∈xs,u.oneCell'=true:=by grind
variable{ps:List (Nat×Operand)}{prs:List (Nat×Value)}
theorem GR(hp:evP fr ps=some prs)(hr:∀w,(Instr.build T prs.toArray).run C.P w= .ok v w):OpY C ⟨dd,.build T ps.toArray,ty,pos,af,gd⟩ fr g Any v:=λa w hf _ _=>by
 have e1:ps.toArray.map (λp=>(p.1,a.eval p.2))=prs.toArray:=by simp[Pk hf hp]
 simp_all [execOp]
def bw(place:Nat->Option (Nat×Nat)):List (Nat×Value)->Option (List (Nat×Value))
 |[]=>some []
 |(i,v)::rest=>match place i with
  |none=>none
  |some (off,size)=>bif Nat.beq v.cells.size size&&Nat.blt 0 size then
    match bw place rest with
    |some ws=>some ((v.cells.toList.zipIdx off).map (λp=>(p.2,p.1))++ws)
    |none=>none
   else none
inductive ft:List Value->List (Nat×Value)->List Value->Prop
 |nil (cs:List Value):ft cs [] cs
 |cons {cs cs' xs:List Value} {o:Nat} {v:Value} {ws:List (Nat×Value)} (h:pT cs o v cs') (t:ft cs' ws xs):ft cs ((o,v)::ws) xs
theorem ft.split:∀{us ws:List (Nat×Value)} {cs xs:List Value},ft cs (us++ws) xs->∃ms,ft cs us ms/\ft ms ws xs
 |[],_,cs,_,h=>⟨cs,.nil _,h⟩
 |(o,v)::us,ws,cs,xs,h=>by
  cases h with
  |cons h t=>
   obtain⟨ms,h1,h2⟩:=ft.split t
   exact⟨ms,.cons h h1,h2⟩
theorem ft.sets:∀{l:List Value} {j:Nat} {cs ms:List Value} (off:Nat),ft cs ((l.zipIdx j).map (λp=>(off+p.2,p.1))) ms->
  (l.zipIdx j).foldl (λ(cs:Array Value) (p:Value×Nat)=>cs.setIfInBounds (off+p.2) p.1) cs.toArray=ms.toArray/\ms.length=cs.length/\(l≠[]->off+j+l.length<=cs.length)
 |[],_,_,_,_,h=>by cases h;simp
 |v::l,j,cs,ms,off,h=>by
  simp only[List.zipIdx_cons,List.map_cons]at h
  cases h with
  |cons h t=>
   obtain⟨h1,h2⟩:=h.set
   obtain⟨e1,e2,e3⟩:=ft.sets off t
   refine⟨?_,by grind,λ_=>?_⟩
   .simp_all
   by_cases hn:l=[]
   .grind
   grind
theorem Gh{place:Nat->Option (Nat×Nat)}:∀{prs:List (Nat×Value)} {ws:List (Nat×Value)} {cs xs:List Value},bw place prs=some ws->ft cs ws xs->Instr.fill place cs.toArray prs=some xs.toArray
 |[],ws,cs,xs,h,hb=>by
  simp only[bw,bo]at h
  subst h
  cases hb
  rfl
 |(i,v)::rest,ws,cs,xs,h,hb=>by
  simp only[bw]at h
  cases hpl:place i with
  |none=>grind
  |some q=>
   obtain⟨off,size⟩:=q
   simp only[hpl]at h
   cases hc:(Nat.beq v.cells.size size&&Nat.blt 0 size)with
   |false=>grind
   |true=>
    simp only[hc,ai]at h
    cases hr:bw place rest with
    |none=>grind
    |some ws'=>
     simp only[hr,bo]at h
     subst h
     simp only[au,Nat.blt_eq]at hc
     have hsz:v.cells.size=size:=Nat.eq_of_beq_eq_true hc.1
     obtain⟨ms,h1,h2⟩:=ft.split hb
     have e0:(v.cells.toList.zipIdx off).map (λp=>(p.2,p.1))=(v.cells.toList.zipIdx 0).map (λp=>(off+p.2,p.1)):=by
      rw[List.zipIdx_eq_map_add]
      simp[List.map_map,Function.comp_def]
     rw[e0]at h1
     obtain⟨e1,e2,e3⟩:=ft.sets off h1
     have hne:v.cells.toList≠[]:=by
      intro hnil
      have:v.cells.size=0:=by rw[<-Array.length_toList,hnil];rfl
      omega
     have hle:=e3 hne
     simp only[Array.length_toList]at hle
     simp only[Instr.fill,hpl]
     rw[if_neg bY]
     rw[<-Array.foldl_toList,Array.toList_zipIdx,e1]
     exact Gh hr h2
def Hy(P:Program)(fs:Array Field)(i:Nat):Option (Nat×Nat):=match fs[i]? with
 |some f=>match P.info? f.type with
  |some fi=>some (f.offset,fi.size)
  |none=>none
 |none=>none
theorem Ay{P:Program}{α β:Type}{f:α->Sem β}{k:α->β}:∀{l:List α},(∀x∈l,(f x).run P w= .ok (k x) w)->(l.mapM f).run P w= .ok (l.map k) w
 :=by intro y1;induction y1<;>simp_all
variable{fs:Array Field}{z:Value}{zs:List Value}{ws:List (Nat×Value)}
theorem JZ{P:Program}(ht:P.underlying T=some (.struct fs))(hz:∀w,(zeroValue T).run P w= .ok z w)(hzs:z.cells=zs.toArray)
  (hf:fs.toList.all (λf=>(P.info? f.type).isSome)=true) (hw:bw (Hy P fs) prs=some ws) (hb:ft zs ws xs) (w:World):(Instr.build T prs.toArray).run P w= .ok (.agg xs.toArray) w:=by
 have hm:(fs.mapM λf=>(do pure (f.offset,<-sizeOf f.type):Sem (Nat×Nat))).run P w= .ok (fs.map λf=>(f.offset,((P.info? f.type).map (·.size)).getD 0)) w:=by
  rw[Array.mapM_eq_mapM_toList]
  have:=Ay (P:=P) (w:=w) (f:=λf:Field=>(do pure (f.offset,<-sizeOf f.type):Sem (Nat×Nat))) (k:=λf=>(f.offset,((P.info? f.type).map (·.size)).getD 0)) (l:=fs.toList) (λf hf'=>by
   have:=aQ.1 hf f hf'
   obtain⟨i,hi⟩:=Option.isSome_iff_exists.1 this
   simp[sizeOf,typeInfo,hi])
  rw[Sem.run_map,this]
  simp only[Result.andThen_ok]
  congr 1
  apply Array.ext'
  simp
 have hpl:∀i,(fs.map λf=>(f.offset,((P.info? f.type).map (·.size)).getD 0))[i]? =Hy P fs i:=λi=>by
  grind [Hy]
 have hfill:=Gh hw hb
 simp only[Instr.build,Sem.run_bind,hz,Result.andThen_ok,run_underlying ht,hm,hzs]
 simp_all
theorem EW(hp:evP fr ps=some prs)(ht:C.P.underlying T=some (.struct fs))(hz:∀w,(zeroValue T).run C.P w= .ok z w)(hzs:z.cells=zs.toArray)
  (hf:fs.toList.all (λf=>(C.P.info? f.type).isSome)=true) (hw:bw (Hy C.P fs) prs=some ws) (hb:ft zs ws xs):OpY C ⟨dd,.build T ps.toArray,ty,pos,af,gd⟩ fr g Any (.agg xs.toArray):=by grind [GR,JZ]
variable{n sz:Nat}
theorem GQ(hp:evP fr ps=some prs)(ht:C.P.underlying T=some (.array n e))(hz:∀w,(zeroValue T).run C.P w= .ok z w)(hzs:z.cells=zs.toArray)
  (hs:∀w,(sizeOf e).run C.P w= .ok sz w) (hw:bw (λi=>some (i*sz,sz)) prs=some ws) (hb:ft zs ws xs):OpY C ⟨dd,.build T ps.toArray,ty,pos,af,gd⟩ fr g Any (.agg xs.toArray):=
 GR hp (λw=>by
  have hfill:=Gh hw hb
  simp_all [Instr.build,Sem.run_bind,Result.andThen_ok,run_underlying])
theorem y_slnil{e:TypeId}(hT:C.P.underlying T=some (.slice e))(hx:Ev fr g x (.slice A n c)):OpY C ⟨dd,.binOp .eql T x (.const (.slice none 0 0)) T,ty,pos,af,gd⟩ fr g Any (.bool A.isNone):=λa w hf _ hg=>by
 have hk:a.eval (.const (.slice none 0 0))= .slice none 0 0:=rfl
 have he:(eqGuard .eql T x (.const (.slice none 0 0)) (.slice A n c) (.slice none 0 0)).run C.P w= .ok () w:=rfl
 simp[execOp,hx.eval hf hg,hk,he,Lib.run_eql_slice_nil (P:=C.P) w T e A n c 0 0 hT]
theorem y_pnil{p:Oa}{e:TypeId}(hT:C.P.underlying T=some (.pointer e))(hx:Ev fr g x (.pointer p)):OpY C ⟨dd,.binOp .eql T x (.const (.pointer none)) T,ty,pos,af,gd⟩ fr g Any (.bool p.isNone):=λa w hf _ hg=>by
 have hk:a.eval (.const (.pointer none))= .pointer none:=rfl
 have he:(eqGuard .eql T x (.const (.pointer none)) (.pointer p) (.pointer none)).run C.P w= .ok () w:=rfl
 have hr:(binOp .eql T (.pointer p) (.pointer none)).run C.P w= .ok (.bool p.isNone) w:=by
  have h:∀d:Nat,(Op.equalIn (d+1) T (.pointer p) (.pointer none)).run C.P w= .ok p.isNone w:=λd=>by
   cases p<;>simp[Op.equalIn,run_underlying hT,samePointer]
  simp only[binOp]
  simp[Op.equal,Op.maxDepth,h 9999]
 simp[execOp,hx.eval hf hg,hk,he,hr]
theorem y_pnn{p:Oa}{e:TypeId}(hT:C.P.underlying T=some (.pointer e))(hx:Ev fr g x (.pointer p)):OpY C ⟨dd,.binOp .neq T x (.const (.pointer none)) T,ty,pos,af,gd⟩ fr g Any (.bool p.isSome):=λa w hf _ hg=>by
 have hk:a.eval (.const (.pointer none))= .pointer none:=rfl
 have he:(eqGuard .neq T x (.const (.pointer none)) (.pointer p) (.pointer none)).run C.P w= .ok () w:=rfl
 have hr:(binOp .neq T (.pointer p) (.pointer none)).run C.P w= .ok (.bool p.isSome) w:=by
  have h:∀d:Nat,(Op.equalIn (d+1) T (.pointer p) (.pointer none)).run C.P w= .ok p.isNone w:=λd=>by
   cases p<;>simp[Op.equalIn,run_underlying hT,samePointer]
  simp only[binOp]
  simp[Op.equal,Op.maxDepth,h 9999]
 simp[execOp,hx.eval hf hg,hk,he,hr]
variable{w0:World}{S:List Nat}{bb:Nat}
theorem zh(hc:Has cs (row bb xs t)):∀w,Inv w0 S cs w->cells (ee ⟨bb,0,none⟩ 0 xs) w:=cX hc cP
theorem Jy(hc:Has cs (row bb xs t))(hT:∀w,(isAgg T).run C.P w= .ok true w)(hs:∀w,(sizeOf T).run C.P w= .ok xs.length w)(hx:Ev fr true x (.p bb))(hd:Nat.blt d C.N=true)
  (h:WL C ops Q rest ((d,.agg xs.toArray)::fr) cs):WL C ops Q (⟨some d,.load T x,ty,pos,af,none⟩::rest) fr cs:=dQ (bW hT hs hx) (zh hc) hd h
theorem mj(hg:bN ops fr ⟨some d,.load T x,ty,pos,af,gd⟩ g)(hc:Has cs (row bb xs t))(hT:∀w,(isAgg T).run C.P w= .ok true w)(hs:∀w,(sizeOf T).run C.P w= .ok xs.length w)(hx:Ev fr g x (.p bb))(hd:Nat.blt d C.N=true)
  (h:WL C ops Q rest ((d,bif g then .agg xs.toArray else undef)::fr) cs):WL C ops Q (⟨some d,.load T x,ty,pos,af,gd⟩::rest) fr cs:=gQ hg (bW hT hs hx) (zh hc) hd h
theorem JH(i:Nat)(hi:ops[i]? =some ⟨some d,.load T x,ty,pos,af,none⟩)(hsel:Region.noSelect ops=true)(hfree:Region.free .any ops listed i=true)(hst:pf .any ops St.st listed i=true)(hr:(Region.ready .any ops listed).contains i=true)
  (hc:Has cs (row bb xs t)) (hT:∀w,(isAgg T).run C.P w= .ok true w) (hs:∀w,(sizeOf T).run C.P w= .ok xs.length w) (hx:Ev fr true x (.p bb)) (hd:Nat.blt d C.N=true)
  (h:WA C St ops Q fuel (listed.setIfInBounds i true) ((d,.agg xs.toArray)::fr) cs):WA C St ops Q (fuel+1) listed fr cs:=po i hi hsel hfree hst hr (bW hT hs hx) (zh hc) hd h
theorem vx{ad:Addr}(hc:Has cs (slv e 1 (some ad) n c xs))(hv:xs[j]? =some v):∀w,Inv w0 S cs w->cells [(ad.add (j*1),v)] w:=λw hi z hz=>by
 rw[aC]at hz
 subst hz
 rw[Nat.mul_one]
 exact(hi.rd hc).at_ ad rfl j v hv
theorem dJ{ad:Addr}(h:RdV w0 1 (some ad) n c xs)(hv:xs[j]? =some v):∀w,Inv w0 [] cs w->cells [(ad.add (j*1),v)] w:=λw hi z hz=>by
 rw[aC]at hz
 subst hz
 rw[Nat.mul_one]
 exact(h.Wh hi).at_ ad rfl j v hv
theorem RdV.some_(h:RdV w sz A n c xs)(hn:0<n):∃ad,A=some ad:=by
 cases A with
 |none=>have:=(h.nil rfl).1;omega
 |some ad=>grind
end
section
open Go.ChangeShapes Go.WideShapes
def Arg(P:Program)(w:World)(t:TypeId)(cs:List Value):Prop:=
 ∃(H:Type) (enc:TypeId×Value->H) (base n:Nat) (x:DataW H×List MemPlace),DataW.trod enc P w base (λ_=>true) true n t cs=some x/\∀m∈x.1.weights P t,m<=reachBytes
def uW(P:Program)(w:World)(t:TypeId)(v:Value):Prop:=(∃r b,Value.okWide P w r b t v)/\Arg P w t v.cells.toList
section
variable {P:Program} {w:World} {t:TypeId} {cs:List Value} {v:Value}
theorem Arg.int{k:IntKind}(ht:P.underlying t=some (.int k))(h:Arg P w t cs):∃n,cs=[.int k n]/\(Lit.int k n).wf=true:=by
 obtain⟨H,enc,base,n,x,h,_⟩:=h
 grind [DataW.trod_int]
theorem Arg.bool(ht:P.underlying t=some .bool)(h:Arg P w t cs):∃b,cs=[.bool b]:=by
 obtain⟨H,enc,base,n,x,h,_⟩:=h
 grind [DataW.trod_bool]
theorem Arg.string(ht:P.underlying t=some .string)(h:Arg P w t cs):∃s,cs=[.string s]/\s.size<=140737488351232:=by
 obtain⟨H,enc,base,n,x,h,hw⟩:=h
 obtain⟨s,h1,h2,_⟩:=DataW.trod_string ht h
 refine⟨s,h1,?_⟩
 rw[h2]at hw
 have:=hw s.data.toList.length (List.mem_cons_self ..)
 have e:s.data.toList.length=s.size:=Array.length_toList
 rw[e]at this
 exact this
theorem Sz{H:Type}{ts:List TypeId}{ds:List (DataW H)}{B:Nat}(h:∀m∈DataW.weightsEach P ts ds,m<=B){j:Nat}{u:TypeId}{d:DataW H}(ht:ts[j]? =some u)(hd:ds[j]? =some d):∀m∈d.weights P u,m<=B:=
 λm hm=>h m (DataW.weights_mem_each ht hd m hm)
theorem NT{H:Type}{e:TypeId}:∀{ds:List (DataW H)} {j:Nat} {d:DataW H},ds[j]? =some d->∀m∈d.weights P e,m∈DataW.weightsAll P e ds
 :=by intro y1;induction y1<;>grind [DataW.weightsAll]
theorem Arg.struct{fs:Array Field}(ht:P.underlying t=some (.struct fs))(h:Arg P w t cs):cs.length=P.cellsOf t/\∀(i:Nat) (f:Field),fs[i]? =some f->Arg P w f.type ((cs.drop f.offset).take (P.cellsOf f.type)):=by
 obtain⟨H,enc,base,n,x,h,hw⟩:=h
 obtain⟨xs,n',rfl,rfl,hl,hlen,hf⟩:=DataW.trod_struct ht h
 refine⟨hl,λi f hi=>?_⟩
 have h1:=hf i f hi
 have hlt:i<fs.size:=(Array.getElem?_eq_some_iff.1 hi).1
 have hx:xs[i]? =some (xs[i]'(by omega)):=ae Wq1
 rw[hx]at h1
 refine⟨H,enc,base,n',_,h1,?_⟩
 have:(DataW.agg (xs.map (·.1)):DataW H).weights P t=DataW.weightsEach P (fs.toList.map (·.type)) (xs.map (·.1)):=by simp[DataW.weights,ht]
 rw[this]at hw
 exact Sz hw (j:=i) (by simp[hi]) (by simp[hx])
theorem Arg.slice{e:TypeId}(ht:P.underlying t=some (.slice e))(h:Arg P w t cs):
  cs=[.slice none 0 0]\/∃(a:Addr) (len cap:Nat),cs=[.slice (some a) len cap]/\len<=cap/\cap<=maxLen/\cap*P.bytesOf e<=140737488351232/\
   ∀i,i<cap->∃es base,w.cells? base (a.add (i*P.cellsOf e)) (P.cellsOf e)=some es/\Arg P w e es:=by
 obtain⟨H,enc,base,n,x,h,hw⟩:=h
 rcases DataW.trod_slice ht h with⟨h0,_⟩|⟨a,len,cap,elems,rest,n',rfl,rfl,rfl,_,hl,hm,hlen,hel,hsp,_⟩
 .grind
 obtain⟨hrl,hr⟩:=hsp rfl
 have hw':∀m∈((elems.map (·.1)).length+(rest.map (·.1)).length)*P.bytesOf e::(DataW.weightsAll P e (elems.map (·.1))++DataW.weightsAll P e (rest.map (·.1))),m<=reachBytes:=by
  have:(DataW.slice (elems.map (·.1)) (rest.map (·.1)):DataW H).weights P t=((elems.map (·.1)).length+(rest.map (·.1)).length)*P.bytesOf e::(DataW.weightsAll P e (elems.map (·.1))++DataW.weightsAll P e (rest.map (·.1))):=by simp[DataW.weights,ht]
  rw[<-this]
  exact hw
 refine .inr ⟨a,len,cap,rfl,hl,hm,?_,λi hi=>?_⟩
 .have:=hw' _ (List.mem_cons_self ..)
  simp only[ax,hlen,hrl]at this
  rw[show len+(cap - len)=cap by omega]at this
  exact this
 by_cases hlt:i<len
 .have h1:=hel i hlt
  have hx:elems[i]? =some (elems[i]'(by omega)):=ae Wq1
  rw[hx,Option.bind_eq_some_iff]at h1
  obtain⟨es,h2,h3⟩:=h1
  exact⟨es,_,h2,H,enc,base,n',_,h3,λm hm'=>hw' m (by
   simp only[aJ,az]
   exact .inr (.inl (NT (ds:=elems.map (·.1)) (j:=i) (by simp[hx]) m hm')))⟩
 have h1:=hr (i - len) Wq1
 rw[show len+(i - len)=i by omega]at h1
 have hx:rest[i - len]? =some (rest[i - len]'(by omega)):=ae Wq1
 rw[hx,Option.bind_eq_some_iff]at h1
 obtain⟨es,h2,h3⟩:=h1
 exact⟨es,_,h2,H,enc,base,n',_,h3,λm hm'=>hw' m (by
  simp only[aJ,az]
  exact .inr (.inr (NT (ds:=rest.map (·.1)) (j:=i - len) (by simp[hx]) m hm')))⟩
theorem Arg.ints{e:TypeId}{k:IntKind}(ht:P.underlying t=some (.slice e))(he:P.underlying e=some (.int k))(hc:P.cellsOf e=1)(h:Arg P w t cs):
  ∃(A:Oa) (c:Nat) (xs:Li),cs=[.slice A xs.length c]/\Rd w k A xs.length c xs/\c*P.bytesOf e<=140737488351232/\∀x,x∈xs->(Lit.int k x).wf=true:=by
 rcases h.slice ht with rfl|⟨a,len,cap,rfl,hl,hm,hb,hi⟩
 .exact⟨none,0,[],rfl,⟨rfl,aL _,by decide,λ_=>⟨rfl,rfl⟩,λ_ h=>by cases h⟩,by simp,λx hx=>by cases hx⟩
 have each:∀i:Nat,∃x:Int,i<cap->w.cell? (a.add i)=some (.int k x)/\(Lit.int k x).wf=true:=λi=>by
  by_cases hlt:i<cap
  .obtain⟨es,base,h1,h2⟩:=hi i hlt
   obtain⟨x,rfl,hw⟩:=h2.int he
   rw[hc,Nat.mul_one]at h1
   have:=(World.cells?_some h1).2.2 0 Wq1
   rw[Go.Ink.cu,Nat.add_zero]at this
   exact⟨x,λ_=>⟨by simpa using this,hw⟩⟩
  exact⟨0,λh=>absurd h hlt⟩
 obtain⟨f,hf⟩:=Classical.axiomOfChoice each
 refine⟨some a,cap,(List.range len).map f,by simp,⟨by simp[ints],by simpa using hl,hm,(λh=>by cases h),?_⟩,hb,?_⟩
 .intro ad e j u hu
  obtain rfl:a=ad:=by simpa using e
  simp only[ints,aX,List.map_map]at hu
  by_cases hj:j<len
  .rw[List.getElem?_range hj]at hu
   simp only[Option.map_some,bo]at hu
   rw[<-hu]
   exact(hf j Wq1).1
  rw[List.getElem?_eq_none gW]at hu
  simp at hu
 intro x hx
 simp only[aZ,List.mem_range]at hx
 obtain⟨i,hi',rfl⟩:=hx
 exact(hf i Wq1).2
theorem uW.int{k:IntKind}(ht:P.underlying t=some (.int k))(h:uW P w t v):∃n,v= .int k n/\(Lit.int k n).wf=true:=by
 obtain⟨⟨r,b,ho⟩,h⟩:=h
 obtain⟨n,rfl⟩:=okWide_int ht ho
 obtain⟨m,h1,h2⟩:=h.int ht
 grind [Value.cells]
theorem uW.bool(ht:P.underlying t=some .bool)(h:uW P w t v):∃b,v= .bool b:=by
 obtain⟨⟨r,b,ho⟩,h⟩:=h
 exact okWide_bool ht ho
theorem uW.string(ht:P.underlying t=some .string)(h:uW P w t v):∃s,v= .string s/\s.size<=140737488351232:=by
 obtain⟨⟨r,b,ho⟩,h⟩:=h
 obtain⟨n,rfl⟩:=okWide_string ht ho
 obtain⟨m,h1,h2⟩:=h.string ht
 grind [Value.cells]
theorem uW.ints{e:TypeId}{k:IntKind}(ht:P.underlying t=some (.slice e))(he:P.underlying e=some (.int k))(hc:P.cellsOf e=1)(h:uW P w t v):
  ∃(A:Oa) (c:Nat) (xs:Li),v= .slice A xs.length c/\Rd w k A xs.length c xs/\c*P.bytesOf e<=140737488351232/\∀x,x∈xs->(Lit.int k x).wf=true:=by
 obtain⟨⟨r,b,ho⟩,h⟩:=h
 obtain⟨a,l,c,rfl⟩:=okWide_slice ht ho
 obtain⟨A,c',xs,h1,h2⟩:=h.ints ht he hc
 grind [Value.cells]
theorem uW.struct{fs:Array Field}(ht:P.underlying t=some (.struct fs))(h:uW P w t v):∃cs:List Value,v= .agg cs.toArray/\cs.length=P.cellsOf t/\∀(i:Nat) (f:Field),fs[i]? =some f->Arg P w f.type ((cs.drop f.offset).take (P.cellsOf f.type)):=by
 obtain⟨⟨r,b,ho⟩,h⟩:=h
 obtain⟨⟨cs⟩,rfl,_⟩:=okWide_struct ht ho
 obtain⟨h1,h2⟩:=h.struct ht
 exact⟨cs,rfl,h1,h2⟩
end
def Args(P:Program)(w:World):List TypeId->List Value->Prop
 |[],vs=>vs=[]
 |t::ts,vs=>∃v r,vs=v::r/\uW P w t v/\Args P w ts r
theorem P8{H:Type}{enc:TypeId×Value->H}{P:Program}{W:World}{base:Nat}:∀{ts:List TypeId} {vs:List Value} {ds:List (DataW H)} {p:List MemPlace},DataW.TrodAll enc P W 0 (λ_=>true) true ts vs ds p->
  (∀(j:Nat) t v,ts[j]? =some t->vs[j]? =some v->Value.okWide P W .any base t v)->(∀m∈DataW.weightsEach P ts ds,m<=reachBytes)->Args P W ts vs
 |[],[],[],_,_,_,_=>rfl
 |[],_::_,_,_,h,_,_=>by simp[DataW.TrodAll]at h
 |[],[],_::_,_,h,_,_=>by simp[DataW.TrodAll]at h
 |_::_,[],_,_,h,_,_=>by simp[DataW.TrodAll]at h
 |_::_,_::_,[],_,h,_,_=>by simp[DataW.TrodAll]at h
 |t::ts,v::vs,d::ds,_,h,ho,hw=>by
  obtain⟨p,q,⟨n,hn⟩,h2,_⟩:=h
  refine⟨v,vs,rfl,⟨⟨_,_,ho 0 t v rfl rfl⟩,H,enc,0,n,_,hn,λm hm=>hw m ?_⟩,P8 h2 (λj t' v' h1 h2=>ho (j+1) t' v' h1 h2) (λm hm=>hw m ?_)⟩
  .grind [DataW.weightsEach]
  grind [DataW.weightsEach]
theorem qh{H:Type}{enc:TypeId×Value->H}{P:Program}(hl:laidOutB P=true){W W':World}(hb:Below W.heap.size W W'):∀{ts:List TypeId} {vs:List Value} {ds:List (DataW H)} {p:List MemPlace},
  ts.all (λt=>P.readableRec t&&decide (t<P.types.size))=true->DataW.TrodAll enc P W 0 (λ_=>true) true ts vs ds p->DataW.TrodAll enc P W' 0 (λb=>decide (b<W.heap.size)) true ts vs ds p
 |[],[],[],_,_,h=>h
 |[],_::_,_,_,_,h=>by simp[DataW.TrodAll]at h
 |[],[],_::_,_,_,h=>by simp[DataW.TrodAll]at h
 |_::_,[],_,_,_,h=>by simp[DataW.TrodAll]at h
 |_::_,_::_,[],_,_,h=>by simp[DataW.TrodAll]at h
 |t::ts,v::vs,d::ds,_,ha,h=>by
  obtain⟨p,q,h1,h2,rfl⟩:=h
  simp only[List.all_cons,au,ac]at ha
  obtain⟨⟨r1,r2⟩,r3⟩:=ha
  refine⟨p,q,Below.trod hl r1 r2 h1 hb ?_,qh hl hb r3 h2,rfl⟩
  obtain⟨m,hm⟩:=h1
  exact DataW.trod_lt m _ _ _ hm
theorem vd{H:Type}{enc:TypeId×Value->H}{P:Program}{W:World}{base:Nat}{sp:Nat->Bool}{hd:Bool}:∀{ts:List TypeId} {vs:List Value} {ds:List (DataW H)} {p:List MemPlace},DataW.TrodAll enc P W base sp hd ts vs ds p->ds.length=ts.length
 |[],[],[],_,_=>rfl
 |[],_::_,_,_,h=>by simp[DataW.TrodAll]at h
 |[],[],_::_,_,h=>by simp[DataW.TrodAll]at h
 |_::_,[],_,_,h=>by simp[DataW.TrodAll]at h
 |_::_,_::_,[],_,h=>by simp[DataW.TrodAll]at h
 |t::ts,v::vs,d::ds,_,h=>by
  obtain⟨p,q,h1,h2,rfl⟩:=h
  simp[vd h2]
end
section
variable {C:Cx} {Q:lF} {fr:Fr} {cs:List bJ} {ops:Array Oper} {d:Nat} {op:Op} {ty T:TypeId} {pos:String} {af:Array Edge} {gd:Option (Nat×Bool)} {V:World->Prop} {v:Value} {g:Bool} {x:Operand}
 {St:Dr} {fuel:Nat} {listed:Array Bool}
theorem wi_y{i:Nat}(hi:ops[i]? =some ⟨some d,op,ty,pos,af,gd⟩)(hg:bN ops fr ⟨some d,op,ty,pos,af,gd⟩ g)(hy:OpY C ⟨some d,op,ty,pos,af,gd⟩ fr g V v)(hV:∀w,Inv C.w0 C.S cs w->V w)(hd:Nat.blt d C.N=true)
  (hn:WA C St ops Q fuel (listed.setIfInBounds i true) ((d,bif g then v else undef)::fr) cs):WI C St ops Q fuel listed i fr cs:=λa w hf hi'=>by
 unfold wpOp
 rw[hi]
 simp only[hg _ a hf]
 cases g with
 |true=>
  rw[if_pos rfl]
  refine .inl ?_
  unfold Oper.wp
  rw[hy a w hf (hV w hi') rfl]
  exact Wq450
 |false=>
  rw[if_neg cP]
  exact Wq450
theorem JB{i:Nat}(hi:ops[i]? =some ⟨some d,op,ty,pos,af,none⟩)(hy:OpY C ⟨some d,op,ty,pos,af,none⟩ fr true V v)(hV:∀w,Inv C.w0 C.S cs w->V w)(hd:Nat.blt d C.N=true)
  (hn:WA C St ops Q fuel (listed.setIfInBounds i true) ((d,v)::fr) cs):WI C St ops Q fuel listed i fr cs:=wi_y hi fE hy hV hd hn
end
section
variable {C:Cx} {Q:lF} {fr:Fr} {cs:List bJ} {ops:Array Oper} {rest:List Oper} {d:Option Nat} {op:Op} {ty T T':TypeId} {pos:String} {af:Array Edge} {gd:Option (Nat×Bool)} {v:Value} {g p:Bool} {x y:Operand}
def Wy(A:Oa)(xs:List Value):List (Addr×Value):=match A with|none=>[]|some ad=>ee ad 0 xs
theorem RdV.Wy{w:World}{n c:Nat}{A:Oa}{xs:List Value}(h:RdV w 1 A n c xs):cells (Ink.Wy A xs) w:=by
 cases A with
 |none=>intro x hx;cases hx
 |some ad=>
  intro x hx
  obtain⟨j,h1,h2⟩:=gE hx
  rw[h2,Nat.zero_add]
  exact h.at_ ad rfl j _ h1
variable{n c e:Nat}{xs:Li}
theorem iL{A:Oa}(hS:C.P.underlying T=some (.slice e))(he:C.P.underlying e=some (.int .u8))(hD:C.P.underlying T'=some .string)(hx:Ev fr g x (.slice A n c))(hrd:∃w,Rd w .u8 A n c xs):
  OpY C ⟨d,.convert T T' x,ty,pos,af,gd⟩ fr g (cells (Wy A (ints .u8 xs))) (.string (strOfNums xs)):=λa w hf hV hg=>by
 obtain⟨w1,hrd⟩:=hrd
 have hn:xs.length=n:=by have:=hrd.len;rw[dA]at this;omega
 have h0:A=none->n=0:=λe=>(hrd.nil e).1
 have hr:(convert T T' (.slice A n c)).run C.P w= .ok (.string (strOfNums xs)) w:=by
  cases A with
  |none=>
   have e1:xs=[]:=by have:=h0 rfl;subst this;exact List.eq_nil_of_length_eq_zero hn
   subst e1
   exact run_convert_bytes_nil w T e hS he n c T' hD
  |some ad=>
   have hl:(loadCells ad n).run C.P w= .ok (xs.map (Value.int .u8)).toArray w:=by
    have:=run_loadCells_list (P:=C.P) w ad (xs.map (Value.int .u8)) (λj v hj=>by
     have h1:=hV (ad.add (0+j),v) (gJ (vs:=ints .u8 xs) hj)
     grind)
    simpa[hn]using this
   rw[run_convert_bytes_string w T T' e _ n c hS he hD,run_bytesToString w _ n c xs hl,foldl_push_bytes]
   simp[strOfNums]
 simp[execOp,hx.eval hf hg,hr]
theorem sM{a b:ByteArray}(hT:C.P.underlying T=some .string)(hx:Ev fr g x (.string a))(hy:Ev fr g y (.string b))(hr:(a.data.toList==b.data.toList)=p):OpY C ⟨d,.binOp .eql T x y T',ty,pos,af,gd⟩ fr g Any (.bool p):=λA w hf _ hg=>by
 subst hr
 rw[<-ByteArray.toList_eq a,<-ByteArray.toList_eq b]
 have:(binOp .eql T (.string a) (.string b)).run C.P w= .ok (.bool (a.toList==b.toList)) w:=rfl
 simp[execOp,hx.eval hf hg,hy.eval hf hg,this,eqGuard]
theorem LP{a b:ByteArray}(hT:C.P.underlying T=some .string)(hx:Ev fr g x (.string a))(hy:Ev fr g y (.string b))(hr:(a.data.toList !=b.data.toList)=p):OpY C ⟨d,.binOp .neq T x y T',ty,pos,af,gd⟩ fr g Any (.bool p):=λA w hf _ hg=>by
 subst hr
 rw[<-ByteArray.toList_eq a,<-ByteArray.toList_eq b]
 have:(binOp .neq T (.string a) (.string b)).run C.P w= .ok (.bool (a.toList !=b.toList)) w:=rfl
 simp[execOp,hx.eval hf hg,hy.eval hf hg,this,eqGuard]
theorem MS:∀{xs ys:Li},(∀n,n∈xs->0<=n/\n<=255)->(∀n,n∈ys->0<=n/\n<=255)->(strOfNums xs).data.toList=(strOfNums ys).data.toList->xs=ys
 |[],[],_,_,_=>rfl
 |[],_::_,_,_,h=>by simp[strOfNums_data]at h
 |_::_,[],_,_,h=>by simp[strOfNums_data]at h
 |x::xs,y::ys,hx,hy,h=>by
  simp only[strOfNums_data,List.map_cons,List.cons.injEq]at h
  have h1:=hx x cP
  have h2:=hy y cP
  have e:=congrArg UInt8.toNat h.1
  simp only[UInt8.toNat_ofNat']at e
  have:=MS (xs:=xs) (ys:=ys) (λn hn=>hx n (by simp[hn])) (λn hn=>hy n (by simp[hn])) h.2
  grind
theorem qk{ys:Li}(hx:∀n,n∈xs->0<=n/\n<=255)(hy:∀n,n∈ys->0<=n/\n<=255):((strOfNums xs).data.toList==(strOfNums ys).data.toList)=(xs==ys):=by
 grind [strOfNums,MS]
variable{bb t:Nat}{xs:List Value}
theorem i7{d:Nat}{St:Dr}{fuel:Nat}{listed:Array Bool}(i:Nat)(hi:ops[i]? =some ⟨some d,.load T x,ty,pos,af,gd⟩)(hsel:Region.noSelect ops=true)(hfree:Region.free .any ops listed i=true)(hst:pf .any ops St.st listed i=true)(hr:(Region.ready .any ops listed).contains i=true)
  (hg:bN ops fr ⟨some d,.load T x,ty,pos,af,gd⟩ g)
  (hc:Has cs (row bb xs t)) (hT:∀w,(isAgg T).run C.P w= .ok true w) (hs:∀w,(sizeOf T).run C.P w= .ok xs.length w) (hx:Ev fr g x (.p bb)) (hd:Nat.blt d C.N=true)
  (h:WA C St ops Q fuel (listed.setIfInBounds i true) ((d,bif g then .agg xs.toArray else undef)::fr) cs):WA C St ops Q (fuel+1) listed fr cs:=wa_l i hi hsel hfree hst hr hg (bW hT hs hx) (zh hc) hd h
variable{o:Nat}
theorem uw{mk:bJ->List bJ}(hT:∀w,(sizeOf T).run C.P w= .ok 1 w)(hx:ev fr x=some (.pointer (some ⟨bb,o,none⟩)))(hy:ev fr y=some v)(h1:v.oneCell'=true)(hu:At cs (slv e 1 (sA bb) n c xs) mk)(ho:o<n):
  OpT C ⟨d,.store T x y,ty,pos,af,gd⟩ fr cs true (λu cs'=>u=undef/\cs'=mk (slv e 1 (sA bb) n c (xs.set o v))):=λa w hf hi next Q h=>by
 have hown:w.ownsRow 0 e 1 (.slice (sA bb) n c) n xs:=hi.get hu.has
 have hlen:=hown.1
 have hc:w.cell? ⟨bb,o,none⟩=some (xs[o]'(by omega)):=by
  rw[hown.cellAt o Wq1]
  exact ae Wq1
 have hfz:w.frozen? ⟨bb,o,none⟩=false:=hown.frozenAt o
 have hcs:v.cells= #[v]:=by cases v<;>first|rfl|cases h1
 have hr:(execOp a.eval ⟨d,.store T x y,ty,pos,af,gd⟩).run C.P w= .ok .skip (w.setCell ⟨bb,o,none⟩ v):=by
  exact Wq429
 unfold Oper.wp
 rw[hr]
 obtain⟨h2,h3⟩:=hown.stored o v
 have hk:=dc.Xd (show w.grownBy (w.setCell ⟨bb,o,none⟩ v) (Value.slice (sA bb) n c).ownBlock from h3)
 refine h _ _ _ ⟨rfl,rfl⟩ (hi.upd (hu _) hk (jO hk h2 λa ha=>?_)) (λe=>by cases e)
 grind [bJ.bs,ab]
variable{j:Nat}{k:IntKind}{sz:Nat}
theorem cw{r:Nat}{i:Int}(hT:C.P.underlying T=some (.slice e))(hs:∀w,(sizeOf e).run C.P w= .ok sz w)(hx:Ev fr g x (.slice (some ⟨bb,o,none⟩) n c))(hy:Ev fr g y (.int k i))(hi:g=true->i=(j:Int))(hn:g=true->j<n)(hr:o+j*sz=r):
  OpY C ⟨d,.indexAddr T x y,ty,pos,af,gd⟩ fr g Any (.pointer (some ⟨bb,r,none⟩)):=by
 subst hr
 have h:=cC (C:=C) (d:=d) (ty:=ty) (pos:=pos) (af:=af) (gd:=gd) (T:=T) (fr:=fr) (g:=g) hT hs hx hy hi hn
 grind [Addr.add_lit]
variable{w0:World}{S:List Nat}
theorem dG(hc:Has cs (slv e 1 (sA bb) n c xs))(hv:xs[j]? =some v):∀w,Inv w0 S cs w->cells [(⟨bb,j,none⟩,v)] w:=λw hi z hz=>by
 rw[aC]at hz
 subst hz
 have:=(hi.rd hc).at_ _ rfl j v hv
 grind [Addr.add_lit]
theorem oG{ad:Addr}(h:∀w',dc S w0 w'->RdV w' 1 (some ad) n c xs)(hv:xs[j]? =some v):∀w,Inv w0 S cs w->cells [(ad.add (j*1),v)] w:=λw hi=>
 dJ (cs:=[]) (h w hi.WB) hv w ⟨dc.refl _ _,by simp[bK],(λ_ h=>by cases h),(λ_ h=>by simp[bK]at h)⟩
inductive Del:List bJ->bJ->List bJ->Prop
 |head (c:bJ) (cs:List bJ):Del (c::cs) c cs
 |tail (d:bJ) {cs rest:List bJ} {c:bJ} (h:Del cs c rest):Del (d::cs) c (d::rest)
inductive EL:List bJ->List bJ->Prop
 |nil (cs:List bJ):EL [] cs
 |cons {cs rest cs':List bJ} {c:bJ} (h:Del cs c rest) (r:EL cs' rest):EL (c::cs') cs
variable{c:bJ}
theorem Del.perm{rest:List bJ}(h:Del cs c rest):cs.Perm (c::rest):=by
 induction h with
 |head=>exact .refl _
 |tail d _ ih=>exact(ih.cons d).trans (.swap _ _ _)
theorem EL.perm{cs' cs:List bJ}(h:EL cs' cs):∃r,cs.Perm (cs'++r):=by
 induction h with
 |nil cs=>exact⟨cs,.refl _⟩
 |cons h _ ih=>
  obtain⟨r,ih⟩:=ih
  exact⟨r,h.perm.trans (ih.cons _)⟩
variable{w:World}
theorem Inv.pick{cs':List bJ}(h:Inv w0 S cs w)(hp:EL cs' cs):Inv w0 S cs' w:=by
 obtain⟨r,hr⟩:=hp.perm
 have h2:Inv w0 S (cs'++r) w:=⟨h.WB,((hr.flatMap_right bJ.bs).nodup_iff).1 h.nodup,λc hc=>h.ok c (hr.mem_iff.2 hc),λb hb=>by
  obtain⟨c,hc,hbc⟩:=dj.1 hb
  exact h.own b (dj.2 ⟨c,hr.mem_iff.2 hc,hbc⟩)⟩
 exact h2.drop (List.sublist_append_left _ _)
theorem eY(cs':List bJ){l:List Oper}(hp:EL cs' cs)(h:WL C ops Q l fr cs'):WL C ops Q l fr cs:=λa w hf hi=>h a w hf (hi.pick hp)
theorem bO(cs':List bJ){e:Exit}(hp:EL cs' cs)(h:QOk C Q e fr cs'):QOk C Q e fr cs:=λa w hf hi=>h a w hf (hi.pick hp)
theorem yS{σ:Type}{F:σ->Fr}{G:σ->List bJ}{ok:σ->Prop}(s:σ)(ho:ok s)(hf:Wk fr (F s))(hg:EL (G s) cs):QOk C (Exit.then (Mid C F G ok) Q) .normal fr cs:=
 λ_ _ hfr hi=>⟨s,ho,hfr.weaken hf,hi.pick hg⟩
theorem Inv.one(h:Inv w0 S cs w)(hc:Has cs c):Inv w (bK [c]) [c] w:=by
 refine⟨dc.refl _ _,?_,λc' h'=>?_,λb hb=> .inl hb⟩
 .have:([c]:List bJ).Sublist cs:=List.singleton_sublist.2 hc.mem
  exact(lv this).nodup h.nodup
 simp only[aC]at h'
 subst h'
 exact h.get hc
inductive EO:List bJ->bJ->bJ->Prop
 |l {cs:List bJ} {c:bJ} (d:bJ) (h:Has cs c):EO (d::cs) d c
 |r {cs:List bJ} {c:bJ} (d:bJ) (h:Has cs c):EO (d::cs) c d
 |t (d:bJ) {cs:List bJ} {c c':bJ} (h:EO cs c c'):EO (d::cs) c c'
variable{c':bJ}
theorem EO.fst(h:EO cs c c'):Has cs c:=by
 induction h with
 |l d h=>exact .head _ _
 |r d h=>exact .tail _ h
 |t d _ ih=>exact .tail _ ih
theorem EO.snd(h:EO cs c c'):Has cs c':=by
 induction h with
 |l d h=>exact .tail _ h
 |r d h=>exact .head _ _
 |t d _ ih=>exact .tail _ ih
theorem EO.disj(h:EO cs c c'):(bK cs).Nodup->∀b,b∈c.bs->b∉c'.bs:=by
 induction h with
 |l d h=>
  intro hn b hb hb'
  rw[eI]at hn
  exact(List.nodup_append.1 hn).2.2 b hb b (dj.2 ⟨_,h.mem,hb'⟩) rfl
 |r d h=>
  intro hn b hb hb'
  rw[eI]at hn
  exact(List.nodup_append.1 hn).2.2 b hb' b (dj.2 ⟨_,h.mem,hb⟩) rfl
 |t d _ ih=>
  grind [eI]
theorem Inv.rdK{w':World}{cc:Nat}{A:Oa}(h:Inv w0 S cs w)(h2:EO cs c (slv e sz A n cc xs))(hk:dc (bK [c]) w w'):RdV w' sz A n cc xs:=by
 have hc:=h.get h2.snd
 refine dx ((slv e sz A n cc xs).loc w w' (λb hb=>hk.block b ((slv e sz A n cc xs).lt w hc b hb) λhin=>?_) hc)
 have:b∈c.bs:=by simpa[bK]using hin
 exact h2.disj h.nodup b this hb
theorem RdV.oldK{w':World}{cc:Nat}{A:Oa}(h:RdV w0 sz A n cc xs)(hi:Inv w0 [] cs w)(hc:Has cs c)(hk:dc (bK [c]) w w'):RdV w' sz A n cc xs:=
 ⟨h.len,h.cap,h.max,h.nil,λad e j u hu=>by
  have h1:=h.at_ ad e j u hu
  have hlt:=World.block_lt_of_cell? w0 _ h1
  refine(World.cell?_of_block ((hk.block _ (Nat.lt_of_lt_of_le hlt hi.WB.size) λhin=>?_).trans (hi.WB.block _ hlt cP))).trans h1
  have:(ad.add j).block∈c.bs:=by simpa[bK]using hin
  rcases hi.own _ (dj.2 ⟨c,hc.mem,this⟩)with h2|h2
  ·cases h2
  omega⟩
def mU(bb:Nat)(xs:List Value):List (Addr×Value):=(xs.zipIdx).map λp=>(⟨bb,p.2,none⟩,p.1)
theorem dg(h:xs[o]? =some v):((⟨bb,o,none⟩:Addr),v)∈mU bb xs:=by
 simp only[mU,aZ]
 refine⟨(v,o),?_,rfl⟩
 grind
theorem bL(hc:Has cs (row bb xs t)):∀w,Inv w0 S cs w->cells (mU bb xs) w:=λw hi x hx=>by
 simp only[mU,aZ]at hx
 obtain⟨⟨u,o⟩,h1,rfl⟩:=hx
 rw[List.mk_mem_zipIdx_iff_getElem?]at h1
 rw[hi.cell hc]
 exact h1
theorem eh{l l':List (Addr×Value)}(h:∀w,Inv w0 S cs w->cells l w)(h':∀w,Inv w0 S cs w->cells l' w):∀w,Inv w0 S cs w->cells (l++l') w:=λw hi x hx=>
 (az.1 hx).elim (h w hi x) (h' w hi x)
theorem rz{o:Oper}{V:World->Prop}:OpY C o fr false V v:=λ_ _ _ _ h=>nomatch h
theorem cK{l:Li}{a:Int}(h:l[j]? =some a):(ints k l)[j]? =some (.int k a):=by simp[ints,h]
theorem mS{z:Value}{bytes:Nat}{kl kc:IntKind}{i1 i2:Int}(ht:C.P.underlying T=some (.slice e))(hinfo:(C.P.info? e).map (λi=>(i.zero,i.size,i.bytes))=some (some z,1,bytes))(hz1:z.cells= #[z])
  (hx:ev fr x=some (.int kl i1)) (hy:ev fr y=some (.int kc i2)) (h1:i1=(n:Int)) (h2:i2=(n:Int)) (cI:bytes*n<=281474976710656) (h63:n<=maxLen):
  OpT C ⟨d,.makeSlice T x y,ty,pos,af,gd⟩ fr cs false (λv cs'=>∃b,v= .slice (sA b) n n/\cs'=cs++[slv e 1 (sA b) n n (List.replicate n z)]):=λa w hf hi next Q h=>by
 subst h1 h2
 obtain⟨i,hi',hzz⟩:=Option.map_eq_some_iff.1 hinfo
 simp only[bA]at hzz
 obtain⟨hz,hs,hb⟩:=hzz
 obtain⟨w',j0,ho,hg⟩:=run_make_full (P:=C.P) w 0 T e i z 1 ht hi' hz hs kl kc n bY h63 Wq1
 have hr:(execOp a.eval ⟨d,.makeSlice T x y,ty,pos,af,gd⟩).run C.P w= .ok (.value (.slice (sA w.heap.size) n n)) w':=by
  simp[execOp,hf.ev hx,hf.ev hy,j0]
 unfold Oper.wp
 rw[hr]
 rw[hz1,Nat.mul_one,toList_madeCells_one]at ho
 have hk:dc [] w w':=⟨hg.os,hg.tape,hg.output,hg.size,λb hb _=>hg.block b hb cP⟩
 refine h _ _ _ ⟨_,rfl,rfl⟩ (hi.more (jO hk ho λa ha=>?_)) (λ_=>?_)
 .grind
 intro ad v hv
 exact(World.cell?_of_block (hk.block _ (World.block_lt_of_cell? w _ hv) cP)).trans hv
end
theorem Md{C:Cx}{Q:lF}{fr:Fr}{cs:List bJ}{ops:Array Oper}{St:Dr}{fuel:Nat}{listed:Array Bool}(e sz:Nat)(h:WA C St ops Q fuel listed fr (cs++[slv e sz none 0 0 []])):WA C St ops Q fuel listed fr cs:=λa w hf hi=>h a w hf (hi.more (wz w [] e sz))
theorem eM{w:World}{e n c:Nat}{A:Oa}{xs:List Value}(h:(slv e 1 A n c xs).ok w)(hn:0<n):∃b,A=some ⟨b,0,none⟩:=by
 rcases h.2 with⟨_,h'⟩|⟨g',cap',cur,h',_⟩
 .omega
 grind
def exC{α:Type}(bs:List Nat)(F:α->List bJ)(hb:∀a,bK (F a)=bs)(p:α->Prop):bJ:=
 .gen bs (λw=>∃a,p a/\(bK (F a)).Nodup/\∀c,c∈F a->c.ok w)
  (λw w' h ⟨a,h1,h2,h3⟩=>⟨a,h1,h2,λc hc=>c.loc w w' (λb hbc=>h b (by grind [dj])) (h3 c hc)⟩)
  (λw ⟨a,h1,h2,h3⟩ b hbb=>by
   rw[<-hb a]at hbb
   obtain⟨c,hc,hbc⟩:=dj.1 hbb
   exact c.lt w (h3 c hc) b hbc)
variable{w0 w:World}{S:List Nat}{cs:List bJ}
theorem Inv.perm{cs':List bJ}(h:Inv w0 S cs w)(hp:cs.Perm cs'):Inv w0 S cs' w:=
 ⟨h.WB,((hp.flatMap_right bJ.bs).nodup_iff).1 h.nodup,λc hc=>h.ok c (hp.mem_iff.2 hc),λb hb=>by
  obtain⟨c,hc,hbc⟩:=dj.1 hb
  exact h.own b (dj.2 ⟨c,hp.mem_iff.2 hc,hbc⟩)⟩
variable{α:Type}{rest:List bJ}{F:α->List bJ}{p:α->Prop}
theorem Inv.Xj{bs:List Nat}{hb:∀a,bK (F a)=bs}(h:Inv w0 S (exC bs F hb p::rest) w):∃a,p a/\Inv w0 S (F a++rest) w:=by
 obtain⟨a,h1,h2,h3⟩:=h.ok _ (List.mem_cons_self ..)
 have e:bK (F a++rest)=bK (exC bs F hb p::rest):=by rw[fm,eI,hb a];rfl
 refine⟨a,h1,h.WB,by rw[e];exact h.nodup,λc hc=>?_,by rw[e];exact h.own⟩
 rcases az.1 hc with hc|hc
 .grind
 exact h.ok c (List.mem_cons_of_mem _ hc)
theorem Inv.WT{bs:List Nat}{hb:∀a,bK (F a)=bs}(a:α)(hp:p a)(h:Inv w0 S (F a++rest) w):Inv w0 S (exC bs F hb p::rest) w:=by
 have e:bK (F a++rest)=bK (exC bs F hb p::rest):=by rw[fm,eI,hb a];rfl
 have hn:=h.nodup
 rw[fm]at hn
 refine⟨h.WB,by grind [h.nodup],λc hc=>?_,by rw[<-e];exact h.own⟩
 rcases aJ.1 hc with rfl|hc
 .exact⟨a,hp,(List.nodup_append.1 hn).1,λc hc=>h.ok c (az.2 (.inl hc))⟩
 exact h.ok c (az.2 (.inr hc))
inductive fe:List bJ->List bJ->List bJ->Prop
 |nil (cs:List bJ):fe [] cs cs
 |cons {cs rest r:List bJ} {c:bJ} {cs':List bJ} (h:Del cs c rest) (s:fe cs' rest r):fe (c::cs') cs r
theorem fe.perm{cs' cs r:List bJ}(h:fe cs' cs r):cs.Perm (cs'++r):=by
 induction h with
 |nil cs=>exact .refl _
 |cons h _ ih=>exact h.perm.trans (ih.cons _)
section
variable {C:Cx} {Q:lF} {fr:Fr} {cs:List bJ} {ops:Array Oper} {rest:List Oper} {x:Code} {α:Type} {bs:List Nat} {F:α->List bJ} {hb:∀a,bK (F a)=bs} {p:α->Prop} {r:List bJ}
theorem L1{l:List Oper}(hd:Del cs (exC bs F hb p) r)(h:∀a,p a->WL C ops Q l fr (F a++r)):WL C ops Q l fr cs:=λa w hf hi=>by
 obtain⟨a',h1,h2⟩:=(hi.perm hd.perm).Xj
 exact h a' h1 a w hf h2
theorem GV{l:List Oper}(a:α)(hp:p a)(hs:fe (F a) cs r)(h:WL C ops Q l fr (exC bs F hb p::r)):WL C ops Q l fr cs:=λA w hf hi=>h A w hf ((hi.perm hs.perm).WT a hp)
end
theorem exC_ok{bs:List Nat}{hb:∀a,bK (F a)=bs}(h:(exC bs F hb p).ok w):∃a,p a/\∀c,Has (F a) c->c.ok w:=by
 obtain⟨a,h1,_,h3⟩:=h
 exact⟨a,h1,λc hc=>h3 c hc.mem⟩
theorem ctr_E{P:Program}{f:FuncId}{args:List Value}{β:Type}{bs:List Nat}{hb:∀a,bK (F a)=bs}{F':β->List bJ}{hb':∀a,bK (F' a)=bs}{p':β->Prop}{K:Value->Prop}
  (hi:Inv w (bK [exC bs F hb p]) [exC bs F hb p] w) (h:∀a,p a->Inv w (bK (F a)) (F a) w->Ctr P f args w (F a) (λv cout=>K v/\∃a',p' a'/\cout=F' a')):Ctr P f args w [exC bs F hb p] (λv cout=>K v/\cout=[exC bs F' hb' p']):=by
 obtain⟨a,h1,h2⟩:=hi.Xj
 have e:bK [exC bs F hb p]=bK (F a):=by rw[eI,zC,aw,hb a];rfl
 rw[aw,e]at h2
 refine Calls.mono (h a h1 h2) ?_
 rintro en w' ⟨v,cout,rfl,⟨hk,a',hp',rfl⟩,hi'⟩
 refine⟨v,_,rfl,⟨hk,rfl⟩,?_⟩
 rw[e]
 exact Inv.WT (rest:=[]) a' hp' bY
theorem bJ.old{c:bJ}(h:c.ok w0)(hi:Inv w0 [] cs w):c.ok w:=c.loc w0 w (λb hb=>hi.WB.block b (c.lt w0 h b hb) cP) h
theorem bJ.oldK{c:bJ}(h:c.ok w0)(hi:Inv w0 S cs w)(hS:∀b,b∈c.bs->b∉S):c.ok w:=c.loc w0 w (λb hb=>hi.WB.block b (c.lt w0 h b hb) (hS b hb)) h
variable{bb o t:Nat}{xs:List Value}{v:Value}
theorem dr(h:(row bb xs t).ok w0)(hv:xs[o]? =some v):∀w,Inv w0 [] cs w->cells [(⟨bb,o,none⟩,v)] w:=λw hi z hz=>by
 rw[aC]at hz
 subst hz
 have h1:w.heap[bb]? =some (.cells xs.toArray t (0,0)):=bJ.old h hi
 simp[World.cell?,h1,hv]
variable{vs:List Value}
theorem uC(h:(row bb xs t).ok w0)(hv:(xs.drop o).take vs.length=vs):∀w,Inv w0 [] cs w->cells (ee ⟨bb,o,none⟩ 0 vs) w:=λw hi z hz=>by
 obtain⟨j,h1,h2⟩:=gE hz
 rw[h2,Addr.add_lit]
 have h3:w.heap[bb]? =some (.cells xs.toArray t (0,0)):=bJ.old h hi
 grind [World.cell?]
variable{e sz n c:Nat}{A:Oa}
theorem dM(h:(slv e sz A n c xs).ok w):RdV w sz A n c xs:=dx h
section
variable {C:Cx} {fr:Fr} {cs:List bJ} {d:Option Tmp} {ty:TypeId} {pos:String} {af:Array Edge} {gd:Option (Nat×Bool)} {v:Value} {x y:Operand} {T T':TypeId} {mk:bJ->List bJ} {g:Bool} {V:World->Prop}
theorem ij(hT:∀w,(sizeOf T).run C.P w= .ok 1 w)(hx:ev fr x=some (.pointer (some ⟨bb,o,none⟩)))(hy:ev fr y=some v)(h1:v.oneCell'=true)(hu:At cs (row bb xs t) mk)(ho:o<xs.length):
  OpT C ⟨d,.store T x y,ty,pos,af,gd⟩ fr cs true (λu cs'=>u=undef/\cs'=mk (row bb (xs.set o v) t)):=λa w hf hi next Q h=>by
 have hc:=hi.cell hu.has o
 have hfz:=hi.free hu.has o
 have hcs:v.cells= #[v]:=by cases v<;>first|rfl|cases h1
 have hr:(execOp a.eval ⟨d,.store T x y,ty,pos,af,gd⟩).run C.P w= .ok .skip (w.setCell ⟨bb,o,none⟩ v):=by
  exact Wq438
 unfold Oper.wp
 rw[hr]
 exact h _ _ _ ⟨rfl,rfl⟩ (hi.set o v (hu _)) (λe=>by cases e)
theorem kz(hT:∀w,(sizeOf T).run C.P w= .ok n w)(hx:ev fr x=some (.pointer (some ⟨bb,o,none⟩)))(hy:ev fr y=some (.agg vs.toArray))(h1:∀u∈vs,u.oneCell'=true)(hu:At cs (row bb xs t) mk)(hn:vs.length=n)(ho:o+vs.length<=xs.length):
  OpT C ⟨d,.store T x y,ty,pos,af,gd⟩ fr cs true (λu cs'=>u=undef/\cs'=mk (row bb (xs.take o++vs++xs.drop (o+vs.length)) t)):=λa w hf hi next Q h=>by
 subst hn
 have hg:w.heap[bb]? =some (.cells xs.toArray t (0,0)):=hi.get hu.has
 have hst:=run_storeCells_at C.P bb o t vs 0 xs.toArray w hg Wq1 h1
 simp only[Nat.add_zero]at hst
 have hr:(execOp a.eval ⟨d,.store T x y,ty,pos,af,gd⟩).run C.P w= .ok .skip (w.setRow bb (xs.take o++vs++xs.drop (o+vs.length)).toArray):=by
  simp[execOp,hf.ev hx,hf.ev hy,Instr.storeAt,Instr.sureAddr,storeVar,hT,Value.cells,hst]
 have hsame:∀(k:Nat) (cur:Array Value),k≠bb->(w.setRow bb cur).heap[k]? =w.heap[k]? :=λk cur hk=>by
  exact xt
 have hsz:∀cur,(w.setRow bb cur).heap.size=w.heap.size:=λcur=>by simp_all
 unfold Oper.wp
 rw[hr]
 refine h _ _ _ ⟨rfl,rfl⟩ (hi.upd (hu _) ⟨rfl,rfl,rfl,by grind,λk _ hk=>hsame k _ (by grind [bJ.bs])⟩ ⟨⟨rfl,rfl,rfl,by grind,λk _ hk=>hsame k _ (by grind [bJ.bs])⟩,by simp[bK,row,bJ.bs],?_,?_⟩) (λe=>by cases e)
 .intro c hc
  simp only[aC]at hc
  subst hc
  show(w.setRow bb _).heap[bb]? =_
  exact xt
 grind [bK,bJ.bs]
theorem GP{j:Nat}{i:Int}{k:IntKind}(hT:C.P.underlying T=some (.array n e))(he:∀w,(isAgg e).run C.P w= .ok false w)(hs:∀w,(sizeOf e).run C.P w= .ok 1 w)(hx:Ev fr g x (.agg vs.toArray))(hy:Ev fr g y (.int k i))(hi:g=true->i=(j:Int))(hj:g=true->j<n)(hv:g=true->vs[j]? =some v):
  OpY C ⟨d,.index T x y,ty,pos,af,gd⟩ fr g Any v:=λA w hf _ hg=>by
 have h1:=hx.eval hf hg
 have h2:=hy.eval hf hg
 rw[hi hg]at h2
 have h3:=hj hg
 have h4:=hv hg
 have hr:(Instr.index T (.agg vs.toArray) (.int k (j:Int))).run C.P w= .ok v w:=by
  simp[Instr.index,asIntOf,run_underlying hT,h3,hs,part,he,h4]
 simp_all [execOp]
theorem Jt{k:IntKind}{a b:Int}(hx:Ev fr g x (.int k a))(hy:Ev fr g y (.int k b)){r:Int}(hr:(if b>a then b else a)=r):OpY C ⟨d,.call {callee:= .builtin .max,args:= #[x,y],argTypes:= #[T,T']},ty,pos,af,gd⟩ fr g Any (.int k r):=λA w hf _ hg=>by
 subst hr
 simp[execOp,resolve,invoke,builtin,hx.eval hf hg,hy.eval hf hg,Builtin.max_,Builtin.max2]
theorem LN{P:Program}{z:Value}(h:(P.info? T).bind (·.zero)=some z):∀w,(zeroValue T).run P w= .ok z w:=λw=>by
 obtain⟨i,hi,hz⟩:=Option.bind_eq_some_iff.1 h
 simp[zeroValue,typeInfo,hi,hz]
theorem iK(hz:(C.P.info? T).bind (·.zero)=some (.agg vs.toArray))(hT:(∃fs,C.P.underlying T=some (.struct fs)/\fs.toList.all (λf=>(C.P.info? f.type).isSome)=true)\/∃n e s,C.P.underlying T=some (.array n e)/\∀w,(sizeOf e).run C.P w= .ok s w):
  OpY C ⟨d,.build T #[],ty,pos,af,gd⟩ fr g Any (.agg vs.toArray):=by
 rcases hT with⟨fs,hT,hf⟩|⟨n,e,s,hT,hs⟩
 .exact EW (ps:=[]) rfl hT (LN hz) rfl hf rfl (.nil _)
 exact GQ (ps:=[]) rfl hT (LN hz) rfl hs rfl (.nil _)
theorem MP{dLen dCap sLen sCap:Nat}{ys:List Value}(hx:ev fr x=some (.slice (some ⟨bb,o,none⟩) dLen dCap))(hy:ev fr y=some (.slice A sLen sCap))(hu:At cs (slv e 1 (sA bb) n c xs) mk)
  (ht:C.P.underlying T=some (.slice e)) (hs:(C.P.info? e).map (·.size)=some 1) (hr:∀w,Inv C.w0 C.S cs w->RdV w 1 A sLen sCap ys) (h1:∀u∈ys,u.oneCell'=true) (hfit:o+min sLen dLen<=n):
  OpT C ⟨d,.call {callee:= .builtin .copy,args:= #[x,y],argTypes:= #[T,T']},ty,pos,af,gd⟩ fr cs true (λv cs'=>v= .i (min sLen dLen:Nat)/\cs'=mk (slv e 1 (sA bb) n c (xs.take o++ys.take (min sLen dLen)++xs.drop (o+min sLen dLen)))):=λa w hf hi next Q h=>by
 have hrd:=hr w hi
 have hyl:=hrd.len
 have hown:w.ownsRow 0 e 1 (.slice (sA bb) n c) n xs:=hi.get hu.has
 have hxl:=hown.1
 obtain⟨hl0,h2⟩:=hown
 rcases h2 with⟨hv,_⟩|⟨g',cap,cur,hv,hg0,hh,hnc,hcm,hcs,htk⟩
 .cases hv
 simp only[Value.slice.injEq,bo,Addr.mk.injEq,and_true,true_and]at hv
 obtain⟨rfl,rfl⟩:=hv
 simp only[Nat.mul_one]at hl0 htk hcs hyl
 obtain⟨m,hm⟩:∃m,m=min sLen dLen:=⟨_,rfl⟩
 have hm':Nat.min sLen dLen=m:=by rw[hm]
 rw[<-hm]at hfit h
 have htl:(ys.take m).length=m:=by rw[aD];omega
 have hfinal:(cur.toList.take o++ys.take m++cur.toList.drop (o+(ys.take m).length)).take n=xs.take o++ys.take m++xs.drop (o+m):=by
  rw[htl,<-htk]
  have hcl:cur.toList.length=c:=by simpa using hcs
  apply List.ext_getElem?
  intro j
  simp only[List.getElem?_take,List.getElem?_append,aj,aD,List.getElem?_drop,htl]
  have e1:min o cur.toList.length=o:=by omega
  have e2:min o (min n cur.toList.length)=o:=by omega
  rw[e1,e2]
  by_cases hjn:j<n
  .grind
  grind
 have key:∃w',(Builtin.copy_ #[T,T'] ty #[.slice (some ⟨bb,o,none⟩) dLen dCap,.slice A sLen sCap]).run C.P w= .ok (goInt m) w'/\dc [bb] w w'/\w'.ownsRow 0 e 1 (.slice (sA bb) n c) n (xs.take o++ys.take m++xs.drop (o+m)):=by
  by_cases hm0:m=0
  .refine⟨w,?_,dc.refl _ _,?_⟩
   .grind [run_copy_none]
   rw[hm0]
   simp only[List.take_zero,aw,Nat.add_zero,List.take_append_drop]
   exact⟨by omega,.inr ⟨bb,c,cur,rfl,hg0,hh,hnc,hcm,by omega,by grind⟩⟩
  cases A with
  |none=>have:=(hrd.nil rfl).1;omega
  |some ad=>
   have hrow:=run_copy_row C.P w T T' ty e bb o dLen dCap ad sLen sCap cur e (ys.take m) ht hs hh Wq1 (λj v hj=>by
    rw[List.getElem?_take]at hj
    split at hj
    ·exact hrd.at_ ad rfl j v hj
    cases hj) Wq1 (λv hv=>h1 v (aB hv))
   rw[htl]at hrow
   rw[htl]at hfinal
   refine⟨_,hrow,⟨rfl,rfl,rfl,by simp[World.setRow],λk _ hk=>?_⟩,?_⟩
   .exact xt
   refine⟨?_,.inr ⟨bb,c,(cur.toList.take o++ys.take m++cur.toList.drop (o+m)).toArray,rfl,hg0,?_,hnc,hcm,?_,?_⟩⟩
   .grind
   .exact xt
   .grind
   grind
 obtain⟨w',j0,hk,ho⟩:=key
 have hr':(execOp a.eval ⟨d,.call {callee:= .builtin .copy,args:= #[x,y],argTypes:= #[T,T']},ty,pos,af,gd⟩).run C.P w= .ok (.value (goInt m)) w':=by
  exact Uz
 unfold Oper.wp
 rw[hr']
 refine h _ _ _ ⟨rfl,rfl⟩ (hi.upd (hu _) yp (jO yp ho λa ha=>?_)) (λe=>by cases e)
 grind [bJ.bs,ab]
theorem dN{f:FuncId}{l:List Operand}{ats:Array TypeId}{K:Value->List bJ->Prop}(cin:List bJ){rest:List bJ}(hl:evs fr l=some vs)(hc:∀args w,(callFunc f args).run C.P w= .ok (.enter f args) w)
  (hp:fe cin cs rest) (h:∀w,Inv C.w0 C.S cs w->Inv w (bK cin) cin w->Ctr C.P f vs w cin K):
  OpT C ⟨d,.call {callee:= .value (.func f),args:=l.toArray,argTypes:=ats},ty,pos,af,gd⟩ fr cs true (λv cs'=>∃cout,K v cout/\cs'=cout++rest):=
 t_callN cin rest hl hc hp.perm λw hi=>h w hi ⟨dc.refl _ _,by
  have:=((hp.perm.flatMap_right bJ.bs).nodup_iff).1 hi.nodup
  grind [bJ.bs,bK,fm],λc hc=>hi.ok c (hp.perm.mem_iff.2 (az.2 (.inl hc))),λb hb=> .inl hb⟩
end
section
variable {C:Cx} {fr:Fr} {cs cs':List bJ} {fn:Func} {K:Value->List bJ->Prop}
variable{e:Exit}{T tt u:Nat}
theorem retTC(he:e= .ret\/e= .normal)(hs:cs'.Sublist cs)(h0:fn.results= #[.tmp u,.cell t T])(h2:look fr u=some v)(h1:look fr t=some (.p bb))(hc:Has cs (row bb xs tt))
  (hT:∀w,(isAgg T).run C.P w= .ok true w) (hz:∀w,(sizeOf T).run C.P w= .ok xs.length w) (hk:K (.tuple #[v,.agg xs.toArray]) cs'):QOk C (bodyPost C.P fn (Ce C.w0 C.S K)) e fr cs:=
 nG he hs (λa w hf hi=>by
  have e1:=hf.at_ t _ h1
  have e2:=hf.at_ u _ h2
  simp only[Array.getD_eq_getD_getElem?]at e1 e2
  simp[results,h0,e1,e2,asAddr,gz hT hz hi hc]) hk
theorem retCC{t2 T2 b2 tt2:Nat}{ys:List Value}(he:e= .ret\/e= .normal)(hs:cs'.Sublist cs)(h0:fn.results= #[.cell t T,.cell t2 T2])(h1:look fr t=some (.p bb))(h2:look fr t2=some (.p b2))(hc:Has cs (row bb xs tt))(hc2:Has cs (row b2 ys tt2))
  (hT:∀w,(isAgg T).run C.P w= .ok true w) (hz:∀w,(sizeOf T).run C.P w= .ok xs.length w) (hT2:∀w,(isAgg T2).run C.P w= .ok true w) (hz2:∀w,(sizeOf T2).run C.P w= .ok ys.length w) (hk:K (.tuple #[.agg xs.toArray,.agg ys.toArray]) cs'):QOk C (bodyPost C.P fn (Ce C.w0 C.S K)) e fr cs:=
 nG he hs (λa w hf hi=>by
  have e1:=hf.at_ t _ h1
  have e2:=hf.at_ t2 _ h2
  simp only[Array.getD_eq_getD_getElem?]at e1 e2
  simp[results,h0,e1,e2,asAddr,gz hT hz hi hc,gz hT2 hz2 hi hc2]) hk
theorem ret3{s:Nat}{v' v2:Value}(he:e= .ret\/e= .normal)(hs:cs'.Sublist cs)(h0:fn.results= #[.tmp t,.tmp u,.tmp s])(h1:look fr t=some v)(h2:look fr u=some v')(h3:look fr s=some v2)(hk:K (.tuple #[v,v',v2]) cs'):QOk C (bodyPost C.P fn (Ce C.w0 C.S K)) e fr cs:=
 nG he hs (λa w hf _=>by
  have e1:=hf.at_ t _ h1
  have e2:=hf.at_ u _ h2
  have e3:=hf.at_ s _ h3
  simp_all [results]) hk
theorem ret4{s r:Nat}{v' v2 v3:Value}(he:e= .ret\/e= .normal)(hs:cs'.Sublist cs)(h0:fn.results= #[.tmp t,.tmp u,.tmp s,.tmp r])(h1:look fr t=some v)(h2:look fr u=some v')(h3:look fr s=some v2)(h4:look fr r=some v3)(hk:K (.tuple #[v,v',v2,v3]) cs'):QOk C (bodyPost C.P fn (Ce C.w0 C.S K)) e fr cs:=
 nG he hs (λa w hf _=>by
  have e1:=hf.at_ t _ h1
  have e2:=hf.at_ u _ h2
  have e3:=hf.at_ s _ h3
  have e4:=hf.at_ r _ h4
  simp_all [results]) hk
end
section
variable {C:Cx} {fr:Fr} {cs:List bJ} {d:Option Tmp} {ty:TypeId} {pos:String} {af:Array Edge} {gd:Option (Nat×Bool)} {v:Value} {x y:Operand} {T T':TypeId} {mk:bJ->List bJ} {g:Bool}
theorem MQ{bytes i n2 c2:Nat}{ad:Addr}{ys:List Value}(hx:ev fr x=some (.slice (sA bb) i c))(hin:i<=n)(hy:ev fr y=some (.slice (some ad) n2 c2))(hu:At cs (slv e 1 (sA bb) n c xs) mk)
  (ht:C.P.underlying T=some (.slice e)) (hel:D9 C.P e 1 bytes=true) (hr:∀w,Inv C.w0 C.S cs w->RdV w 1 (some ad) n2 c2 ys) (h1:∀u∈ys,u.oneCell'=true) (hroom:i+n2<=c):
  OpT C ⟨d,.call {callee:= .builtin .append,args:= #[x,y],argTypes:= #[T,T]},ty,pos,af,gd⟩ fr cs true (λv cs'=>v= .slice (sA bb) (i+n2) c/\cs'=mk (slv e 1 (sA bb) (i+n2) c (xs.take i++ys))):=λa w hf hi next Q h=>by
 obtain⟨inf,z,hi0,hz,hsize,hzs,rfl,hsz⟩:=pG hel
 have hrd:=hr w hi
 have hyl:=hrd.len
 have hown:w.ownsRow 0 e 1 (.slice (sA bb) n c) n xs:=hi.get hu.has
 obtain⟨hl0,h2⟩:=hown
 rcases h2 with⟨hv,_⟩|⟨g',cap,cur,hv,hg0,hh,hnc,hcm,hcs,htk⟩
 .cases hv
 simp only[Value.slice.injEq,bo,Addr.mk.injEq,and_true,true_and]at hv
 obtain⟨rfl,rfl⟩:=hv
 simp only[Nat.mul_one]at hcs htk hyl hl0
 have j0:=run_append_room (P:=C.P) w T ty e inf ht hi0 bb i c cur hh ad n2 c2 ys bY (hrd.at_ ad rfl) h1 hroom bY
 rw[hsize,Nat.mul_one,hyl]at j0
 have hcl:cur.toList.length=c:=by simpa using hcs
 have hk:dc [bb] w (w.setRow bb (cur.toList.take i++ys++cur.toList.drop (i+n2)).toArray):=⟨rfl,rfl,rfl,by simp_all,λj _ hj=>by
  grind [World.setRow]⟩
 have ho:(w.setRow bb (cur.toList.take i++ys++cur.toList.drop (i+n2)).toArray).ownsRow 0 e 1 (.slice (sA bb) (i+n2) c) (i+n2) (xs.take i++ys):=by
  refine⟨by grind,.inr ⟨bb,c,(cur.toList.take i++ys++cur.toList.drop (i+n2)).toArray,rfl,hg0,by grind [World.setRow],hroom,hcm,?_,?_⟩⟩
  .grind
  grind
 have hr':(execOp a.eval ⟨d,.call {callee:= .builtin .append,args:= #[x,y],argTypes:= #[T,T]},ty,pos,af,gd⟩).run C.P w= .ok (.value (.slice (sA bb) (i+n2) c)) (w.setRow bb (cur.toList.take i++ys++cur.toList.drop (i+n2)).toArray):=by
  exact Uz
 unfold Oper.wp
 rw[hr']
 refine h _ _ _ ⟨rfl,rfl⟩ (hi.upd (hu _) yp (jO yp ho λa ha=>?_)) (λe=>by cases e)
 grind [bJ.bs,ab]
theorem zO(z:Value)(k:Nat):(Builtin.zeroCells #[z] k).toList=List.replicate k z:=by
 apply List.ext_getElem
 .simp[Builtin.zeroCells]
 grind [Builtin.zeroCells]
theorem t_clear{k cc:Nat}{z:Value}(hx:ev fr x=some (.slice (some ⟨bb,o,none⟩) k cc))(hu:At cs (slv e 1 (sA bb) n c xs) mk)(ht:C.P.underlying T=some (.slice e))(hz:∀w,(zeroValue e).run C.P w= .ok z w)(hz1:z.cells= #[z])(hz2:z.oneCell'=true)(hno:n<=o)(hoc:o+k<=c):
  OpT C ⟨d,.call {callee:= .builtin .clear,args:= #[x],argTypes:= #[T]},ty,pos,af,gd⟩ fr cs true (λv cs'=>v= .tuple #[]/\cs'=mk (slv e 1 (sA bb) n c xs)):=λa w hf hi next Q h=>by
 have hown:w.ownsRow 0 e 1 (.slice (sA bb) n c) n xs:=hi.get hu.has
 obtain⟨hl0,h2⟩:=hown
 rcases h2 with⟨hv,_⟩|⟨g',cap,cur,hv,hg0,hh,hnc,hcm,hcs,htk⟩
 .cases hv
 simp only[Value.slice.injEq,bo,Addr.mk.injEq,and_true,true_and]at hv
 obtain⟨rfl,rfl⟩:=hv
 simp only[Nat.mul_one]at hcs htk
 have hst:=run_storeCells_at C.P bb o e (List.replicate k z) 0 cur w hh bY (λu hu=>by grind)
 simp only[Nat.add_zero,aI]at hst
 have hcl:cur.toList.length=c:=by simpa using hcs
 have key:∃w',(Builtin.clear_ #[T] ty #[.slice (some ⟨bb,o,none⟩) k cc]).run C.P w= .ok (.tuple #[]) w'/\dc [bb] w w'/\w'.ownsRow 0 e 1 (.slice (sA bb) n c) n xs:=by
  cases k with
  |zero=>
   refine⟨w,by simp[Builtin.clear_,run_underlying ht],dc.refl _ _,⟨hl0,.inr ⟨bb,c,cur,rfl,hg0,hh,hnc,hcm,by omega,by grind⟩⟩⟩
  |succ k=>
   refine⟨w.setRow bb (cur.toList.take o++List.replicate (k+1) z++cur.toList.drop (o+(k+1))).toArray,?_,⟨rfl,rfl,rfl,by simp_all,λj _ hj=>?_⟩,⟨hl0,.inr ⟨bb,c,(cur.toList.take o++List.replicate (k+1) z++cur.toList.drop (o+(k+1))).toArray,rfl,hg0,?_,hnc,hcm,?_,?_⟩⟩⟩
   .simp_all [Builtin.clear_,zO,run_underlying]
   .exact xt
   .exact xt
   .grind
   grind
 obtain⟨w',j0,hk,ho⟩:=key
 have hr':(execOp a.eval ⟨d,.call {callee:= .builtin .clear,args:= #[x],argTypes:= #[T]},ty,pos,af,gd⟩).run C.P w= .ok (.value (.tuple #[])) w':=by
  simp[execOp,resolve,invoke,builtin,hf.ev hx,j0]
 unfold Oper.wp
 rw[hr']
 refine h _ _ _ ⟨rfl,rfl⟩ (hi.upd (hu _) yp (jO yp ho λa ha=>?_)) (λe=>by cases e)
 grind [bJ.bs,ab]
variable{lo hi:Nat}{e:TypeId}
theorem mg{r:Nat}{lo? hi? :Option Operand}(hT:C.P.underlying T=some (.slice e))(hs:∀w,(sizeOf e).run C.P w= .ok sz w)(hx:Ev fr g x (.slice (some ⟨bb,o,none⟩) n c))
  (hlo:(lo? =none/\lo=0)\/∃l k,lo? =some l/\Ev fr g l (.int k (lo:Int))) (hhi:(hi? =none/\hi=n)\/∃l k,hi? =some l/\Ev fr g l (.int k (hi:Int))) (h1:lo<=hi) (h2:hi<=c) (h3:lo<c) (hr:o+lo*sz=r):
  OpY C ⟨d,.slice T x lo? hi? none,ty,pos,af,gd⟩ fr g Any (.slice (some ⟨bb,r,none⟩) (hi - lo) (c - lo)):=by
 subst hr
 have h:=ry (C:=C) (d:=d) (ty:=ty) (pos:=pos) (af:=af) (gd:=gd) (T:=T) (fr:=fr) (g:=g) hT hs hx hlo hhi h1 h2
 grind [Addr.add_lit]
theorem QQ{r:Addr}{lo? hi? :Option Operand}(hT:C.P.underlying T=some (.slice e))(hs:∀w,(sizeOf e).run C.P w= .ok sz w)(hx:Ev fr g x (.slice A n c))
  (hlo:(lo? =none/\lo=0)\/∃l k,lo? =some l/\Ev fr g l (.int k (lo:Int))) (hhi:(hi? =none/\hi=n)\/∃l k,hi? =some l/\Ev fr g l (.int k (hi:Int))) (h1:lo<=hi) (h2:hi<=c) (hr:(some r:Oa)=(if c=lo then A else A.map (·.add (lo*sz)))):
  OpY C ⟨d,.slice T x lo? hi? none,ty,pos,af,gd⟩ fr g Any (.slice (some r) (hi - lo) (c - lo)):=by
 rw[hr]
 exact ry hT hs hx hlo hhi h1 h2
theorem QR{mx:Nat}{l h m:Operand}{k k' k2:IntKind}(hT:C.P.underlying T=some (.slice e))(hs:∀w,(sizeOf e).run C.P w= .ok sz w)(hx:Ev fr g x (.slice A n c))
  (hlo:Ev fr g l (.int k (lo:Int))) (hhi:Ev fr g h (.int k' (hi:Int))) (hmx:Ev fr g m (.int k2 (mx:Int))) (h1:lo<=hi) (h2:hi<=mx) (h3:mx<=c):
  OpY C ⟨d,.slice T x (some l) (some h) (some m),ty,pos,af,gd⟩ fr g Any (.slice (if mx=lo then A else A.map (·.add (lo*sz))) (hi - lo) (mx - lo)):=λa w hf _ hg=>by
 have e1:=hlo.eval hf hg
 have e2:=hhi.eval hf hg
 have e3:=hmx.eval hf hg
 have hb:(Instr.sliceBounds true n c (some (.int k (lo:Int))) (some (.int k' (hi:Int))) (some (.int k2 (mx:Int)))).run C.P w= .ok (lo,hi,mx) w:=by
  simp[Instr.sliceBounds,Instr.sliceBound,asIntOf,h1,h2,h3]
 simp[execOp,hx.eval hf hg,e1,e2,e3,Instr.sliceAt,run_underlying hT,Instr.slice,hb,hs]
end
section
variable {C:Cx} {Q:lF} {fr:Fr} {cs:List bJ}
variable{mk:bJ->List bJ}
theorem lf{e:Exit}{c c':bJ}(hu:At cs c mk)(hb:c'.bs=c.bs)(hok:∀w,c.ok w->c'.ok w)(h:QOk C Q e fr (mk c')):QOk C Q e fr cs:=
 λa w hf hi=>h a w hf (hi.conv hu hb (hok w))
theorem Hb{k:IntKind}{xs:Li}{x:Int}(h:(sl k e A (xs++[x]).length c (xs++[x])).ok w):(sl k e A xs.length c xs).ok w:=by
 grind [sl_cut,List.take_left]
theorem gx{d:Option Tmp}{ty:TypeId}{pos:String}{af:Array Edge}{gd:Option (Nat×Bool)}{x y:Operand}{T:TypeId}{ys:List Value}(he:ys=xs.take o++vs++xs.drop (o+vs.length))(hT:∀w,(sizeOf T).run C.P w= .ok n w)(hx:ev fr x=some (.pointer (some ⟨bb,o,none⟩)))(hy:ev fr y=some (.agg vs.toArray))(h1:∀u∈vs,u.oneCell'=true)(hu:At cs (row bb xs t) mk)(hn:vs.length=n)(ho:o+vs.length<=xs.length):
  OpT C ⟨d,.store T x y,ty,pos,af,gd⟩ fr cs true (λu cs'=>u=undef/\cs'=mk (row bb ys t)):=by
 subst he
 exact kz hT hx hy h1 hu hn ho
theorem Inv.WZ{w':World}{cin:List bJ}{cc:Nat}(h:Inv w0 S cs w)(hp:fe cin cs rest)(h2:Has rest (slv e sz A n cc xs))(hk:dc (bK cin) w w'):RdV w' sz A n cc xs:=by
 have hc:=h.ok _ (hp.perm.symm.subset (List.mem_append_right _ h2.mem))
 refine dx ((slv e sz A n cc xs).loc w w' (λb hb=>hk.block b ((slv e sz A n cc xs).lt w hc b hb) λhin=>?_) hc)
 have hn:=((hp.perm.flatMap_right bJ.bs).nodup_iff).1 h.nodup
 grind [dj,h2.mem]
end
theorem ux(l:Li)(x:Int):(l++[x])[l.length]? =some x:=by simp
theorem vq{l:Li}(h:0<l.length):∃m x,l=m++[x]:=⟨l.dropLast,l.getLast bY,(List.dropLast_concat_getLast _).symm⟩
theorem RdV.Wm{w':World}{cin:List bJ}{cc:Nat}(h:RdV w0 sz A n cc xs)(hi:Inv w0 [] cs w)(hp:fe cin cs rest)(hk:dc (bK cin) w w'):RdV w' sz A n cc xs:=
 ⟨h.len,h.cap,h.max,h.nil,λad e j u hu=>by
  have h1:=h.at_ ad e j u hu
  have hlt:=World.block_lt_of_cell? w0 _ h1
  refine(World.cell?_of_block ((hk.block _ (Nat.lt_of_lt_of_le hlt hi.WB.size) λhin=>?_).trans (hi.WB.block _ hlt cP))).trans h1
  obtain⟨c,hc,hb⟩:=dj.1 hin
  have hc':=hp.perm.symm.subset (List.mem_append_left _ hc)
  rcases hi.own _ (dj.2 ⟨c,hc',hb⟩)with h2|h2
  ·cases h2
  omega⟩
section
variable {C:Cx} {Q:lF} {fr:Fr} {cs:List bJ} {ops:Array Oper} {rest:List Oper} {d:Nat} {op:Op} {ty T:TypeId} {pos:String} {af:Array Edge} {v:Value} {g b:Bool} {x y:Code} {id:Nat} {K:Act->World->Prop} {o:Operand}
variable{a:List bJ}
theorem Zu{b:List bJ}(h:a.Sublist b:=by(repeat (first|exact List.Sublist.slnil|refine List.Sublist.cons_cons _ ?_|refine List.Sublist.cons _ ?_))):a.Sublist b:=h
theorem Zh{c:bJ}(h:Has cs c:=by repeat (first|exact Has.head _ _|apply Has.tail)):Has cs c:=h
theorem Zk{a b:α}(h:a=b:=by kernel_rfl):a=b:=h
theorem Zf{a b:Nat}(h:a=b:=by first|exact Nat.zero_add _|exact rfl):a=b:=h
theorem Za{c:bJ}{mk:bJ->List bJ}(h:At cs c mk:=by repeat (first|exact aH|apply aT)):At cs c mk:=h
variable{c:List Value}
theorem Zp{a:List Value}{e:Value}(h:pT a n e c:=by(repeat (first|exact pT.zero _ _ _|apply pT.succ))):pT a n e c:=h
theorem Zb{a:List Value}{l:List (Nat×Value)}(h:ft a l c:=by(repeat (first|exact ft.nil _|(apply ft.cons;(repeat (first|exact pT.zero _ _ _|apply pT.succ)))))):ft a l c:=h
theorem Zd{c:bJ}(h:Del cs c a:=by repeat (first|exact Del.head _ _|apply Del.tail)):Del cs c a:=h
theorem Zj{c:List bJ}(h:EL a c:=by repeat (first|exact EL.nil _|(refine EL.cons (by repeat (first|exact Del.head _ _|apply Del.tail)) ?_))):EL a c:=h
theorem Zi{c e:List bJ}(h:fe a c e:=by repeat (first|exact fe.nil _|(apply fe.cons;(repeat (first|exact Del.head _ _|apply Del.tail))))):fe a c e:=h
theorem Zl{a b:Int}(h:a=b:=by first|exact bD _ ⟨by omega,by omega⟩|exact rfl):a=b:=h
theorem Zs(h:WC C x (Exit.then (y.wp C.P Q) Q) fr cs):WC C (.seq x y) Q fr cs:=wc_seq h
theorem Zr{l:List Oper}(h:WL C l.toArray Q l fr cs):WC C (.region id l.toArray false) Q fr cs:=Ma h
theorem Zt(h:WC C y Q fr cs):QOk C (Exit.then (y.wp C.P Q) Q) .normal fr cs:=h
theorem Zn(h:QOk C Q .normal fr cs):WL C ops Q [] fr cs:=h
theorem Zc(h:QOk C Q .normal fr cs):WC C .skip Q fr cs:=wc_skip h
theorem Ze(h:QOk C Q .ret fr cs):WC C .ret Q fr cs:=wc_ret h
theorem Zw(h:QOk C Q .ret fr cs):QOk C (Exit.then K Q) .ret fr cs:=h
theorem Zo(h:QOk C Q .normal fr cs):QOk C (Exit.inBlock id Q) .normal fr cs:=h
theorem Zq(h:QOk C Q .ret fr cs):QOk C (Exit.inBlock id Q) .ret fr cs:=h
theorem Zx(h:WC C x (Exit.inBlock id Q) fr cs):WC C (.block id x) Q fr cs:=QX h
theorem Zv{x:Operand}{u:Value}(h:ev fr x=some u):Ev fr g x u:=pk h
theorem Zy(hy:OpY C ⟨some d,op,ty,pos,af,none⟩ fr true Any v)(h:WL C ops Q rest ((d,v)::fr) cs)(hd:Nat.blt d C.N=true:=by exact rfl):WL C ops Q (⟨some d,op,ty,pos,af,none⟩::rest) fr cs:=dQ hy (λ_ _=>trivial) hd h
theorem Zyy{j:Nat}(h1:(ops[j]?).bind (·.dst)=some e)(h2:look fr e=some (.bool b))(hy:OpY C ⟨some d,op,ty,pos,af,some (j,true)⟩ fr b Any v)(h:WL C ops Q rest ((d,bif b then v else undef)::fr) cs)(hd:Nat.blt d C.N=true:=by exact rfl):
  WL C ops Q (⟨some d,op,ty,pos,af,some (j,true)⟩::rest) fr cs:=gQ (bS h1 h2) hy (λ_ _=>trivial) hd h
theorem Zyn{j:Nat}(h1:(ops[j]?).bind (·.dst)=some e)(h2:look fr e=some (.bool b))(hy:OpY C ⟨some d,op,ty,pos,af,some (j,false)⟩ fr (!b) Any v)(h:WL C ops Q rest ((d,bif !b then v else undef)::fr) cs)(hd:Nat.blt d C.N=true:=by exact rfl):
  WL C ops Q (⟨some d,op,ty,pos,af,some (j,false)⟩::rest) fr cs:=gQ (bQ h1 h2) hy (λ_ _=>trivial) hd h
end
section
variable {C:Cx} {Q:lF} {fr:Fr} {cs:List bJ} {ops:Array Oper} {rest:List Oper} {d:Nat} {op:Op} {ty T f:TypeId} {pos:String} {af:Array Edge} {j:Nat×Bool} {gd:Option (Nat×Bool)} {dd:Option Nat} {V:World->Prop} {v:Value} {g p q:Bool} {x y:Operand} {St:Dr} {fuel:Nat} {listed:Array Bool} {bb r t i:Nat} {xs xs':List Value} {mk:bJ->List bJ}
theorem Zev(h:Ev fr g x v:=by first|exact cA rfl|exact pk rfl):Ev fr g x v:=h
theorem Zpa(h:∃u,ev fr y=some u/\(g=true->p=true->u= .bool q):=by first|exact pk_yes rfl (λ_=>rfl)|exact⟨_,rfl,λ_ _=>rfl⟩|exact pk_gyes rfl (λ_ _=>rfl)|exact⟨_,rfl,λe _=>by rw[e];rfl⟩):∃u,ev fr y=some u/\(g=true->p=true->u= .bool q):=h
theorem Zpo(h:∃u,ev fr y=some u/\(g=true->p=false->u= .bool q):=by first|exact pk_no rfl (λ_=>rfl)|exact⟨_,rfl,λ_ _=>rfl⟩|exact pk_gno rfl (λ_ _=>rfl)|exact⟨_,rfl,λe _=>by rw[e];rfl⟩):∃u,ev fr y=some u/\(g=true->p=false->u= .bool q):=h
theorem Zya(h:OpY C ⟨dd,op,ty,pos,af,gd⟩ fr g Any v:=by first
 |(apply Vj;exact Zev)
 |(apply GS;exact Zev)
 |(apply jn;exact Zev;exact Zev;exact rfl)
 |(apply Jr;exact Zev)
 |(apply Ju;exact Zev;exact Zpa)
 |(apply y_or;exact Zev;exact Zpo)
 |(apply oz;exact Zev;repeat (first|exact .zero _ _|apply Nth.succ))
 |(apply y_not;exact Zev;exact rfl)
 |(apply lK;exact Zev;exact Zev;exact rfl)
 |(apply y_len;exact⟨_,rfl⟩;exact Zev)
 |(apply y_lss;exact Zev;exact Zev;exact rfl)
 |(apply y_geq;exact Zev;exact Zev;exact rfl)
 |(apply LR;exact Zev;exact Zev;exact rfl)
 |(apply LU;exact Zev;exact Zev;exact rfl)
 |(apply y_pnil;exact rfl;exact Zev)
 |(apply y_pnn;exact rfl;exact Zev)
 |(apply y_slnil;exact rfl;exact Zev)
 |(apply y_eqlb;exact rfl;exact Zev;exact Zev;exact rfl)
 |(apply y_neqb;exact rfl;exact Zev;exact Zev;exact rfl)
 |(apply Ci;exact Zev;exact Zev;exact rfl)
 |(apply sN;exact Zev;exact Zev;exact rfl)
 |(apply y_xor_;exact Zev;exact Zev;exact rfl)
 |exact EW rfl rfl (λ_=>rfl) rfl rfl rfl Zb
 |exact GQ rfl rfl (λ_=>rfl) rfl (λ_=>rfl) rfl Zb):OpY C ⟨dd,op,ty,pos,af,gd⟩ fr g Any v:=h
theorem Zgd{o:Oper}(h:bN ops fr o g:=by first|exact bS rfl rfl|exact bQ rfl rfl|exact df rfl rfl):bN ops fr o g:=h
theorem Zwk{fr':Fr}(h:Wk fr' fr:=by((repeat' (refine Wk.cons ?_ ?_))<;>first|exact Wk.nil|exact rfl|exact trivial|exact Vm rfl (by omega)|exact Vm rfl (by simp))):Wk fr' fr:=h
theorem ZA(h:WL C ops Q rest ((d,v)::fr) cs)(hy:OpY C ⟨some d,op,ty,pos,af,none⟩ fr true Any v:=by exact Zya)(hd:Nat.blt d C.N=true:=by exact rfl):WL C ops Q (⟨some d,op,ty,pos,af,none⟩::rest) fr cs:=dQ hy (λ_ _=>trivial) hd h
theorem ZB(h:WL C ops Q rest ((d,bif g then v else undef)::fr) cs)(hg:bN ops fr ⟨some d,op,ty,pos,af,some j⟩ g:=by exact Zgd)(hy:OpY C ⟨some d,op,ty,pos,af,some j⟩ fr g Any v:=by exact Zya)(hd:Nat.blt d C.N=true:=by exact rfl):
  WL C ops Q (⟨some d,op,ty,pos,af,some j⟩::rest) fr cs:=gQ hg hy (λ_ _=>trivial) hd h
theorem ZC(h:WL C ops Q rest ((d,v)::fr) cs)(hx:Ev fr true x (.pointer (some ⟨bb,r,none⟩)):=by exact Zev)(hT:∀w,(isAgg T).run C.P w= .ok false w:=by exact λ_=>rfl)(hc:Has cs (row bb xs t):=by exact Zh)(hv:xs[r]? =some v:=by exact rfl)(hd:Nat.blt d C.N=true:=by exact rfl):
  WL C ops Q (⟨some d,.load T x,ty,pos,af,none⟩::rest) fr cs:=dQ (bM hT hx) (cB hc hv) hd h
theorem ZD(h:WL C ops Q rest ((d,bif g then v else undef)::fr) cs)(hg:bN ops fr ⟨some d,.load T x,ty,pos,af,some j⟩ g:=by exact Zgd)(hx:Ev fr g x (.pointer (some ⟨bb,r,none⟩)):=by exact Zev)(hT:∀w,(isAgg T).run C.P w= .ok false w:=by exact λ_=>rfl)(hc:Has cs (row bb xs t):=by exact Zh)(hv:xs[r]? =some v:=by exact rfl)(hd:Nat.blt d C.N=true:=by exact rfl):
  WL C ops Q (⟨some d,.load T x,ty,pos,af,some j⟩::rest) fr cs:=gQ hg (bM hT hx) (cB hc hv) hd h
theorem ZE(i:Nat)(h:WA C St ops Q fuel (listed.setIfInBounds i true) ((d,v)::fr) cs)(hi:ops[i]? =some ⟨some d,op,ty,pos,af,none⟩:=by exact rfl)(hy:OpY C ⟨some d,op,ty,pos,af,none⟩ fr true Any v:=by exact Zya)(hs:Region.noSelect ops=true:=by kernel_rfl)(hfree:Region.free .any ops listed i=true:=by kernel_rfl)(hr:(Region.ready .any ops listed).contains i=true:=by kernel_rfl)(hd:Nat.blt d C.N=true:=by exact rfl):
  WA C St ops Q (fuel+1) listed fr cs:=by grind [gR]
theorem ZF(i:Nat)(h:WA C St ops Q fuel (listed.setIfInBounds i true) ((d,bif g then v else undef)::fr) cs)(hi:ops[i]? =some ⟨some d,op,ty,pos,af,some j⟩:=by exact rfl)(hg:bN ops fr ⟨some d,op,ty,pos,af,some j⟩ g:=by exact Zgd)(hy:OpY C ⟨some d,op,ty,pos,af,some j⟩ fr g Any v:=by exact Zya)(hs:Region.noSelect ops=true:=by kernel_rfl)(hfree:Region.free .any ops listed i=true:=by kernel_rfl)(hr:(Region.ready .any ops listed).contains i=true:=by kernel_rfl)(hd:Nat.blt d C.N=true:=by exact rfl):
  WA C St ops Q (fuel+1) listed fr cs:=by grind [JG]
theorem ZFa(n:Nat){o k:Nat}(h:WL C ops Q rest ((d,.pointer (some ⟨bb,r,none⟩))::fr) cs)(ho:ik C.P T k=some n:=by exact rfl)(hx:Ev fr true x (.pointer (some ⟨bb,o,none⟩)):=by exact Zev)(hr:o+n=r:=by exact Zf)(hd:Nat.blt d C.N=true:=by exact rfl):
  WL C ops Q (⟨some d,.fieldAddr T x k,ty,pos,af,none⟩::rest) fr cs:=dQ (eH n ho hx hr) (λ_ _=>trivial) hd h
theorem ZFb(n:Nat){o k:Nat}(h:WL C ops Q rest ((d,bif g then .pointer (some ⟨bb,r,none⟩)else undef)::fr) cs)(hg:bN ops fr ⟨some d,.fieldAddr T x k,ty,pos,af,some j⟩ g:=by exact Zgd)(ho:ik C.P T k=some n:=by exact rfl)(hx:Ev fr g x (.pointer (some ⟨bb,o,none⟩)):=by exact Zev)(hr:o+n=r:=by exact Zf)(hd:Nat.blt d C.N=true:=by exact rfl):
  WL C ops Q (⟨some d,.fieldAddr T x k,ty,pos,af,some j⟩::rest) fr cs:=gQ hg (eH n ho hx hr) (λ_ _=>trivial) hd h
theorem ZFe(i n:Nat){o k:Nat}(h:WA C St ops Q fuel (listed.setIfInBounds i true) ((d,.pointer (some ⟨bb,r,none⟩))::fr) cs)(hi:ops[i]? =some ⟨some d,.fieldAddr T x k,ty,pos,af,none⟩:=by exact rfl)(ho:ik C.P T k=some n:=by exact rfl)(hx:Ev fr true x (.pointer (some ⟨bb,o,none⟩)):=by exact Zev)(hr':o+n=r:=by exact Zf)(hs:Region.noSelect ops=true:=by kernel_rfl)(hfree:Region.free .any ops listed i=true:=by kernel_rfl)(hr:(Region.ready .any ops listed).contains i=true:=by kernel_rfl)(hd:Nat.blt d C.N=true:=by exact rfl):
  WA C St ops Q (fuel+1) listed fr cs:=gR i hi hs hfree hr (eH n ho hx hr') hd h
theorem ZFf(i n:Nat){o k:Nat}(h:WA C St ops Q fuel (listed.setIfInBounds i true) ((d,bif g then .pointer (some ⟨bb,r,none⟩)else undef)::fr) cs)(hi:ops[i]? =some ⟨some d,.fieldAddr T x k,ty,pos,af,some j⟩:=by exact rfl)(hg:bN ops fr ⟨some d,.fieldAddr T x k,ty,pos,af,some j⟩ g:=by exact Zgd)(ho:ik C.P T k=some n:=by exact rfl)(hx:Ev fr g x (.pointer (some ⟨bb,o,none⟩)):=by exact Zev)(hr':o+n=r:=by exact Zf)(hs:Region.noSelect ops=true:=by kernel_rfl)(hfree:Region.free .any ops listed i=true:=by kernel_rfl)(hr:(Region.ready .any ops listed).contains i=true:=by kernel_rfl)(hd:Nat.blt d C.N=true:=by exact rfl):
  WA C St ops Q (fuel+1) listed fr cs:=JG i hi hs hfree hr hg (eH n ho hx hr') hd h
theorem ZG(i:Nat)(h:WA C St ops Q fuel (listed.setIfInBounds i true) ((d,v)::fr) cs)(hi:ops[i]? =some ⟨some d,.load T x,ty,pos,af,none⟩:=by exact rfl)(hx:Ev fr true x (.pointer (some ⟨bb,r,none⟩)):=by exact Zev)(hT:∀w,(isAgg T).run C.P w= .ok false w:=by exact λ_=>rfl)(hc:Has cs (row bb xs t):=by exact Zh)(hv:xs[r]? =some v:=by exact rfl)
  (hs:Region.noSelect ops=true:=by kernel_rfl) (hfree:Region.free .any ops listed i=true:=by kernel_rfl) (hst:pf .any ops St.st listed i=true:=by kernel_rfl) (hr:(Region.ready .any ops listed).contains i=true:=by kernel_rfl) (hd:Nat.blt d C.N=true:=by exact rfl):WA C St ops Q (fuel+1) listed fr cs:=po i hi hs hfree hst hr (bM hT hx) (cB hc hv) hd h
theorem ZI(i:Nat)(h:WA C St ops Q fuel (listed.setIfInBounds i true) ((d,.agg xs.toArray)::fr) cs)(hi:ops[i]? =some ⟨some d,.load T x,ty,pos,af,none⟩:=by exact rfl)(hx:Ev fr true x (.p bb):=by exact Zev)(hT:∀w,(isAgg T).run C.P w= .ok true w:=by exact λ_=>rfl)(hc:Has cs (row bb xs t):=by exact Zh)(hz:∀w,(sizeOf T).run C.P w= .ok xs.length w:=by exact λ_=>rfl)
  (hs:Region.noSelect ops=true:=by kernel_rfl) (hfree:Region.free .any ops listed i=true:=by kernel_rfl) (hst:pf .any ops St.st listed i=true:=by kernel_rfl) (hr:(Region.ready .any ops listed).contains i=true:=by kernel_rfl) (hd:Nat.blt d C.N=true:=by exact rfl):WA C St ops Q (fuel+1) listed fr cs:=by grind [JH]
theorem ZL(h:WL C ops Q rest fr (mk (row bb xs' t)))(hT:∀w,(sizeOf T).run C.P w= .ok 1 w:=by exact λ_=>rfl)(hx:ev fr x=some (.pointer (some ⟨bb,r,none⟩)):=by exact rfl)(hy:ev fr y=some v:=by exact rfl)(h1:v.oneCell'=true:=by exact rfl)(hu:At cs (row bb xs t) mk:=by exact Za)(hs:pT xs r v xs':=by exact Zp):
  WL C ops Q (⟨none,.store T x y,ty,pos,af,none⟩::rest) fr cs:=eT (mm hT hx hy h1 hu hs) bY
theorem ZM(h:WL C ops Q rest fr (mk (row bb xs' t)))(hx:ev fr x=some (.p bb):=by exact rfl)(hy:ev fr y=some (.agg xs'.toArray):=by exact rfl)(hT:∀w,(sizeOf T).run C.P w= .ok xs'.length w:=by exact λ_=>rfl)(h1:∀u∈xs',u.oneCell'=true:=by exact mQ rfl)(hu:At cs (row bb xs t) mk:=by exact Za)(ho:xs'.length=xs.length:=by exact rfl):
  WL C ops Q (⟨none,.store T x y,ty,pos,af,none⟩::rest) fr cs:=eT (cZ hT hx hy h1 hu ho) bY
theorem ZN{z:Value}(h:∀b,WL C ops Q rest ((d,.p b)::fr) (cs++[row b xs T]))(hz:∀w,(zeroValue T).run C.P w= .ok z w:=by exact λ_=>rfl)(hzs:z.cells=xs.toArray:=by exact rfl)(hd:Nat.blt d C.N=true:=by exact rfl):
  WL C ops Q (⟨some d,.alloc T,ty,pos,af,none⟩::rest) fr cs:=fo (ls hz hzs) hd bY
theorem ZO(h:∀b,WL C ops Q rest ((d,.p b)::fr) (cs++[row b xs T]))(hx:ev fr x=some v:=by exact rfl)(hv:v.cells=xs.toArray:=by exact rfl)(hd:Nat.blt d C.N=true:=by exact rfl):
  WL C ops Q (⟨some d,.box T x,ty,pos,af,none⟩::rest) fr cs:=fo (t_box hx hv) hd bY
theorem ZP{z:Value}(h:∀b,WA C St ops Q fuel (listed.setIfInBounds i true) ((d,.p b)::fr) (cs++[row b xs T]))(hi:ops[i]? =some ⟨some d,.alloc T,ty,pos,af,none⟩:=by exact rfl)(hst:St.st i=false:=by exact rfl)(hz:∀w,(zeroValue T).run C.P w= .ok z w:=by exact λ_=>rfl)(hzs:z.cells=xs.toArray:=by exact rfl)(hd:Nat.blt d C.N=true:=by exact rfl):
  WI C St ops Q fuel listed i fr cs:=gX hi hst (ls hz hzs) (λe=>by cases e) hd bY
theorem ZQ(h:WA C St ops Q fuel (listed.setIfInBounds i true) fr (mk (row bb xs' t)))(hi:ops[i]? =some ⟨none,.store T x y,ty,pos,af,none⟩:=by exact rfl)(hst:St.st i=true:=by exact rfl)(hl:St.l0=[]:=by exact rfl)(hT:∀w,(sizeOf T).run C.P w= .ok 1 w:=by exact λ_=>rfl)(hx:ev fr x=some (.pointer (some ⟨bb,r,none⟩)):=by exact rfl)(hy:ev fr y=some v:=by exact rfl)(h1:v.oneCell'=true:=by exact rfl)(hu:At cs (row bb xs t) mk:=by exact Za)(hs:pT xs r v xs':=by exact Zp):
  WI C St ops Q fuel listed i fr cs:=fy hi hst (mm hT hx hy h1 hu hs) (λ_ _ _ _ _ _=>by rw[hl];exact λ_ h=>by cases h) bY
theorem ZR(h:WA C St ops Q fuel (listed.setIfInBounds i true) fr (mk (row bb xs' t)))(hi:ops[i]? =some ⟨none,.store T x y,ty,pos,af,none⟩:=by exact rfl)(hst:St.st i=true:=by exact rfl)(hl:St.l0=[]:=by exact rfl)(hx:ev fr x=some (.p bb):=by exact rfl)(hy:ev fr y=some (.agg xs'.toArray):=by exact rfl)(hT:∀w,(sizeOf T).run C.P w= .ok xs'.length w:=by exact λ_=>rfl)(h1:∀u∈xs',u.oneCell'=true:=by exact mQ rfl)(hu:At cs (row bb xs t) mk:=by exact Za)(ho:xs'.length=xs.length:=by exact rfl):
  WI C St ops Q fuel listed i fr cs:=fy hi hst (cZ hT hx hy h1 hu ho) (λ_ _ _ _ _ _=>by rw[hl];exact λ_ h=>by cases h) bY
variable{l:List Operand}{ats:Array TypeId}{K:Value->List bJ->Prop}
theorem ZS(hc:∀w,Inv C.w0 C.S cs w->Ctr C.P f vs w [] K)(h:∀v cs',(∃news,K v news/\cs'=cs++news)->WL C ops Q rest ((d,v)::fr) cs')(hl:evs fr l=some vs:=by exact rfl)(hf:∀args w,(callFunc f args).run C.P w= .ok (.enter f args) w:=by exact λ_ _=>rfl)(hd:Nat.blt d C.N=true:=by exact rfl):
  WL C ops Q (⟨some d,.call {callee:= .value (.func f),args:=l.toArray,argTypes:=ats},ty,pos,af,none⟩::rest) fr cs:=fo (dh hl hf hc) hd h
theorem ZT(hc:∀w,Inv C.w0 C.S cs w->Ctr C.P f vs w [] K)(h:∀v cs',(∃news,K v news/\cs'=cs++news)->WA C St ops Q fuel (listed.setIfInBounds i true) ((d,v)::fr) cs')(hi:ops[i]? =some ⟨some d,.call {callee:= .value (.func f),args:=l.toArray,argTypes:=ats},ty,pos,af,none⟩:=by exact rfl)(hst:St.st i=false:=by exact rfl)(hl:evs fr l=some vs:=by exact rfl)(hf:∀args w,(callFunc f args).run C.P w= .ok (.enter f args) w:=by exact λ_ _=>rfl)(hd:Nat.blt d C.N=true:=by exact rfl):
  WI C St ops Q fuel listed i fr cs:=gX hi hst (dh hl hf hc) (λe=>by cases e) hd h
end
section
variable {C:Cx} {Q:lF} {fr:Fr} {cs:List bJ} {ops:Array Oper} {x y z:Code} {id:Nat} {l:List Oper}
end
end Go.Ink
