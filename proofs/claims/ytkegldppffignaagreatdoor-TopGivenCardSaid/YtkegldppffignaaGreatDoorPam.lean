/- Lemmas. -/
import Derived.Test.YtkegldppffignaaGreatDoorPaa
import Derived.Test.YtkegldppffignaaGreatDoorPab
import Derived.Test.YtkegldppffignaaGreatDoorPai
import Derived.Test.YtkegldppffignaaGreatDoorPal
set_option linter.unusedSimpArgs false
set_option linter.unusedVariables false
set_option maxRecDepth 100000
set_option maxHeartbeats 4000000
namespace Go.Ink
open Go.RowKit
section
variable {n:Nat} {op nn:Int} {s:St} {U:Mmu} {d:Dev} {M:Mem} {R:Run}
theorem uO(h:d.lines)(k:Int)(v:Nat):(cO n M d k v).2.2.lines:=by
 have hz:0<=bits .and .u32 (v:Int) 255/\bits .and .u32 (v:Int) 255<=255:=by
  obtain⟨x,hx,hlt⟩:=MF (p:=(v:Int)) (m:=255) ⟨by decide,by decide⟩;omega
 unfold cO fO;refine bO (λq:Bool×Mem×Dev=>q.2.2.lines) ⟨h.mask⟩ ?_;refine bO (λq:Bool×Mem×Dev=>q.2.2.lines) ⟨hz⟩ ?_;refine bO (λq:Bool×Mem×Dev=>q.2.2.lines) ⟨h.mask⟩ ?_;refine bO (λq:Bool×Mem×Dev=>q.2.2.lines) ⟨h.mask⟩ ?_;refine bO (λq:Bool×Mem×Dev=>q.2.2.lines) ⟨h.mask⟩ ?_;refine bO (λq:Bool×Mem×Dev=>q.2.2.lines) ⟨h.mask⟩ ?_;refine bO (λq:Bool×Mem×Dev=>q.2.2.lines) ⟨h.mask⟩ ?_
 repeat (refine bO (λq:Bool×Mem×Dev=>q.2.2.lines) h ?_)
 exact h
theorem xA(h:d.lines)(k count:Int):(di d k count).2.lines:=by
 unfold di
 repeat (first|exact h|refine bO (λq:(Int×Bool)×Dev=>q.2.lines) ?_ ?_|exact⟨h.mask⟩)
theorem D1(h:d.lines)(va:Nat):(jZ n R U d va).d.lines:=by
 unfold jZ;refine bO (λm:gi=>m.d.lines) h ?_;exact bO (λm:gi=>m.d.lines) (xA h _ _) h
theorem Dx(h:d.lines)(va v:Nat):(jX n R U d va v).d.lines:=by
 unfold jX;refine bO (λm:gi=>m.d.lines) h ?_;exact bO (λm:gi=>m.d.lines) (uO h _ _) h
theorem AC{m:gi}(h:m.d.lines):(dM n op nn m).d.lines:=by
 unfold dM;refine bO (λm:gi=>m.d.lines) (D1 h _) ?_;refine bO (λm:gi=>m.d.lines) (Dx h _ _) ?_;refine bO (λm:gi=>m.d.lines) h ?_;refine bO (λm:gi=>m.d.lines) h ?_;refine bO (λm:gi=>m.d.lines) h ?_;refine bO (λm:gi=>m.d.lines) h ?_;refine bO (λm:gi=>m.d.lines) h ?_;refine bO (λm:gi=>m.d.lines) h ?_;refine bO (λm:gi=>m.d.lines) h ?_;refine bO (λm:gi=>m.d.lines) h ?_;refine bO (λm:gi=>m.d.lines) h ?_;exact bO (λm:gi=>m.d.lines) h h
theorem GJ(h:d.lines):(hH n s op nn U d).d.lines:=by
 unfold hH;cases dK op nn (eY s op)with
 |some R=>exact h
 |none=>exact bO (λm:gi=>m.d.lines) h (AC h)
theorem rZ(h:d.lines):(mq n s op nn U d).2.2.lines:=by
 unfold mq;refine bO (λq:Res×Mmu×Dev=>q.2.2.lines) h ?_;exact bO (λq:Res×Mmu×Dev=>q.2.2.lines) h (GJ h)
theorem qc(h:d.lines)(c:Int):(d.tick c).lines:=by
 unfold Dev.tick;exact bO Dev.lines h ⟨h.mask⟩
theorem JF(h:d.ok)(c:Int):(d.tick c).ok/\(d.tick c).out=d.out:=by
 unfold Dev.tick;exact bO (λq:Dev=>q.ok/\q.out=d.out) ⟨h,rfl⟩ ⟨⟨h.wf.re rfl rfl rfl rfl,gN .or d.M5 1,h.mask,u0,h.status⟩,rfl⟩
theorem nh{b:List Int}(hb:u8s b){op nn:Int}{z:Nat}(h:dw b=some ((op,nn),z)):u32 nn/\1<=z/\z<=5/\z<=b.length:=by
 cases b with
 |nil=>cases h
 |cons o l=>
  have hc:cA o=0\/cA o=1\/cA o=2\/cA o=5:=iL o;unfold dw at h;cases h1:(cA o==0)with
  |true=>simp only[h1,ac]at h;cases h
  |false=>
   simp only[h1,aa]at h;cases h2:decide ((l.length:Int)+1<cA o)with
   |true=>simp only[h2,ac]at h;cases h
   |false=>
    simp only[h2,aa,aU,aV]at h;obtain⟨⟨rfl,rfl⟩,rfl⟩:=h;have h1:=ne_of_beq_false h1;simp only[ah]at h2;obtain⟨r1,r2⟩:=xk (l:=l.take ((cA o).toNat - 1)) (λx hx=>hb x (bH _ (bj hx)));have hl:(l.take ((cA o).toNat - 1)).length<=4:=by rw[aB];omega
    have hp:(256^(l.take ((cA o).toNat - 1)).length:Nat)<=256^4:=Nat.pow_le_pow_right Wq5 hl;have e4:(256^4:Nat)=4294967296:=by decide
    refine⟨⟨r1,by omega⟩,by omega,by omega,?_⟩;rw[ak];omega
theorem mb(hM:M.ok n){p:Nat}{op nn:Int}{z:Nat}(h:cZ n M p=some ((op,nn),z)):u32 nn/\1<=z/\z<=5/\p/64<n/\p%64+z<=64:=by
 unfold cZ at h;cases h1:decide (p/64<n)with
 |false=>rw[h1]at h;cases h
 |true=>
  rw[h1,ac]at h;obtain⟨a,b,c,e⟩:=nh (λx hx=>hM.db x (List.mem_of_mem_drop (bj (List.mem_of_mem_drop hx)))) h;refine⟨a,b,c,by simpa using h1,?_⟩;rw[bI,aB]at e;omega
end
structure GOk(n:Nat)(s:St)(U:Mmu)(d:Dev):Prop where
 wf:s.wf
 right:s.right=true
 u:UOk n U
 dv:d.ok
 lines:d.lines
theorem nz(a b c:Int):IntKind.u64.wrap (IntKind.u64.wrap (a+b)+c)=IntKind.u64.wrap (a+(b+c)):=by
 rw[aQ,aQ,aQ];omega
section
variable {n:Nat} {s:St} {U:Mmu} {d:Dev}
theorem GF(h:s.wf):s.next.wf:=⟨h.pc,h.flags,h.root,h.vec,h.epc,h.MR,h.addr,by show 0<=IntKind.u64.wrap _/\IntKind.u64.wrap _<=_;rw[aQ];omega,h.d,h.r⟩
theorem BC(h:s.wf)(c:Int){a:Int}(ha:u32 a):(s.M3 c a).wf:=⟨h.vec,h.flags,h.root,h.vec,h.pc,gJ _,ha,h.count,h.d,h.r⟩
theorem FB(h:s.wf)(hr:s.right=true):(told s d).wf/\(told s d).right=true/\(told s d).count=s.count/\(told s d).halted=s.halted:=by
 unfold told;cases Hj d with
 |none=>exact⟨h,hr,rfl,rfl⟩
 |some k=>
  show(bif s.ie then s.M3 _ _ else s).wf/\(bif s.ie then s.M3 _ _ else s).right=true/\(bif s.ie then s.M3 _ _ else s).count=s.count/\(bif s.ie then s.M3 _ _ else s).halted=s.halted;cases s.ie with
  |true=>exact⟨BC h _ u0,hr,rfl,rfl⟩
  |false=>exact⟨h,hr,rfl,rfl⟩
structure BegOk(n:Nat)(s:St)(d:Dev)(b:zG):Prop where
 g:GOk n b.s b.u b.d
 place:u32 b.place
 out:b.d.out=d.out
 runs:b.runs=true->b.s.count=s.count/\b.s.halted=s.halted/\s.halted=false
 stays:b.runs=false->s.halted=false->b.s.count=IntKind.u64.wrap (s.count+1)/\b.s.halted=false
 held:s.halted=true->b=⟨s,0,false,b.u,b.d⟩
theorem nQ(h:GOk n s U d):BegOk n s d (dI n s U d):=by
 obtain⟨t1,t2⟩:=JF h.dv s.count;have t3:=qc h.lines s.count;obtain⟨w1,w2,w3,w4⟩:=FB (s:=s) (d:=d.tick s.count) h.wf h.right;cases hh:s.halted with
 |true=>
  rw[vR (by rw[hh,Bool.or_true])];exact⟨h,u0,rfl,λe=>(by cases e),λ_ e=>(by rw[hh]at e;cases e),λ_=>rfl⟩
 |false=>
  rw[vS (by rw[h.right,hh];rfl) rfl rfl];rw[hh]at w4;obtain⟨s1,hs1⟩:=Zgn (told s (d.tick s.count));rw[hs1]at w1 w2 w3 w4|-;unfold mf;have hpc:s1.pc.toNat<=4294967295:=by have:=w1.pc;unfold u32 at this;omega
  have p1:=oh h.u s1.space s1.pc.toNat 1;obtain⟨p2, -⟩:=jI n U s1.space s1.pc.toNat hpc 1;have p3:=qq n U s1.space s1.pc.toNat hpc 1;obtain⟨⟨⟨pl,⟨tc,ta⟩⟩,U1⟩,hq⟩:=Zgn (cP n U s1.space s1.pc.toNat 1);rw[hq]at p1 p2 p3|-;dsimp only at p1 p2 p3|-;cases htc:(tc !=0)with
  |true=>
   rw[ac];exact⟨⟨BC (GF w1) _ p3.1,w2,p1,t1,t3⟩,u0,t2,λe=>(by cases e),λ_ _=>⟨by show IntKind.u64.wrap (s1.count+1)=_;rw[w3],w4⟩,λe=>(by rw[hh]at e;cases e)⟩
  |false=>
   rw[aa];exact⟨⟨w1,w2,p1,t1,t3⟩,p2,t2,λ_=>⟨w3,w4.trans hh.symm,hh⟩,λe=>(by cases e),λe=>(by rw[hh]at e;cases e)⟩
structure I7(n k:Nat)(s:St)(d:Dev)(q:St×Mmu×Dev):Prop where
 g:GOk n q.1 q.2.1 q.2.2
 out:q.2.2.out.length<=d.out.length+k
 count:∃j:Nat,j<=k/\(1<=k->1<=j)/\q.1.count=IntKind.u64.wrap (s.count+(j:Int))
theorem yq(MY:Nat):∀(k:Nat) {s:St} (p:Nat) {U:Mmu} {d:Dev},GOk n s U d->I7 n k s d (dZ n MY k s p U d)
 |0,s,p,U,d,h=>⟨h,aM _,0,aM _,λe=>Wq1,by
   show s.count=IntKind.u64.wrap (s.count+0);have:=h.wf.count;rw[aQ];omega⟩
 |k+1,s,p,U,d,h=>by
  unfold dZ;cases hf:cZ n U.m p with
  |none=>exact⟨⟨BC (GF h.wf) _ u0,h.right,h.u,h.dv,h.lines⟩,by show d.out.length<=_;omega,1,by omega,λ_=>aM _,rfl⟩
  |some o=>
   obtain⟨⟨op,nn⟩,z⟩:=o;obtain⟨f1, -⟩:=mb h.u.m hf;have hg:=tU (op:=op) (nn:=nn) h.wf h.right f1 h.u h.dv;have hl:=rZ (n:=n) (op:=op) (nn:=nn) (s:=s) (U:=U) h.lines;obtain⟨⟨q,U1,d1⟩,hq⟩:=Zgn (mq n s op nn U d);rw[hq]at hg hl;obtain⟨g1,g2,g3,g4,g5,g6⟩:=hg;dsimp only at g1 g2 g3 g4 g5 g6 hl|-;rw[hq];dsimp only;cases jg op q MY s.pc with
   |false=>exact⟨⟨g1,g2,g4,g5,hl⟩,by show d1.out.length<=_;omega,1,by omega,λ_=>aM _,g3⟩
   |true=>
    obtain⟨r1,r2,j,r3,r4,r5⟩:=yq MY k ((p+z)%4294967296) (s:=q.s) (U:=U1) (d:=d1) ⟨g1,g2,g4,g5,hl⟩;refine⟨r1,by show _<=_;exact aW r2 Wq1,j+1,by omega,λ_=>by omega,?_⟩;show(dZ n MY k q.s ((p+z)%4294967296) U1 d1).1.count=_;rw[r5,g3,nz,show(1:Int)+(j:Int)=((j+1:Nat):Int) by omega]
theorem qI(h:GOk n s U d):I7 n 8 s d (cT n s U d)\/(s.halted=true/\(cT n s U d).1=s/\GOk n (cT n s U d).1 (cT n s U d).2.1 (cT n s U d).2.2/\(cT n s U d).2.2.out=d.out):=by
 have hb:=nQ h;unfold cT;obtain⟨b,hbe⟩:=Zgn (dI n s U d);rw[hbe]at hb|-;dsimp only;cases hr:b.runs with
 |true=>
  obtain⟨c1,c2,c3⟩:=hb.runs hr;have hq:=yq (b.place.toNat/64) 8 b.place.toNat hb.g;left;refine⟨hq.g,by have:=hq.out;rw[hb.out]at this;exact this,?_⟩;obtain⟨j,j1,j2,j3⟩:=hq.count;exact⟨j,j1,j2,by rw[<-c1];exact j3⟩
 |false=>
  cases hh:s.halted with
  |false=>
   obtain⟨c1,c2⟩:=hb.stays hr hh;left;exact⟨hb.g,by show b.d.out.length<=_;rw[hb.out];omega,1,by omega,λ_=>aM _,c1⟩
  |true=>
   right;have e:=hb.held hh;exact⟨rfl,by show b.s=s;rw[e],hb.g,hb.out⟩
theorem EF(h:GOk n s U d)(hh:s.halted=false):I7 n 8 s d (cT n s U d):=by
 rcases qI h with h1|⟨h1, -⟩
 .exact h1
 rw[hh]at h1;cases h1
end
theorem Aw{n MY k:Nat}{s:St}{p:Nat}{U:Mmu}{d:Dev}(h:cZ n U.m p=none):dZ n MY (k+1) s p U d=(s.next.M3 1 0,U,d):=by
 unfold dZ;rw[h]
theorem Au{n MY k:Nat}{s:St}{p:Nat}{U U1:Mmu}{d d1:Dev}{op nn:Int}{z:Nat}{q:Res}(h:cZ n U.m p=some ((op,nn),z))(hq:mq n s op nn U d=(q,U1,d1)):
  dZ n MY (k+1) s p U d=bif jg op q MY s.pc then dZ n MY k q.s ((p+z)%4294967296) U1 d1 else(q.s,U1,d1):=by
 rw[dZ,h];simp only[hq]
end Go.Ink
namespace Go.Proofs.YtkegldppffignaaGreatDoor
open Go.RowKit Go.Ink Go.Proofs.Tryz
attribute [local irreducible] OpY bS
abbrev guF(bu bb:Nat)(L:fu)(D:p8)(s:St)(X:kb)(Y:nw)(U:Mmu)(d:Dev):List bL:=slD s X.Ad X.cd::slR s X.Ar X.cr::ubF bu bb L D Y U d
theorem rest_ok(bu bb:Nat)(L:fu)(D:p8)(Y:nw)(s:St)(X:kb)(p:Nat)(hp:p<=4294967295)(M9:Nat)(hmost:M9<=1000)(U:Mmu)(d:Dev)(hG:GOk L.n s U d)(ho:d.out.length+M9<=1000000000)(w:World)(hi:Inv w (bM (guF bu bb L D s X Y U d)) (guF bu bb L D s X Y U d) w):
  Ctr prog 110 [sv s X.Ad X.cd X.Ar X.cr,.int .u32 (p:Int),.int .i64 (M9:Int),.pointer (some ⟨bu,0,none⟩),.pointer (some ⟨D.bs,0,none⟩)] w (guF bu bb L D s X Y U d)
   (λv cs=>∃X' Y',v=sv (dZ L.n (p/64) M9 s p U d).1 X'.Ad X'.cd X'.Ar X'.cr/\cs=guF bu bb L D (dZ L.n (p/64) M9 s p U d).1 X' Y' (dZ L.n (p/64) M9 s p U d).2.1 (dZ L.n (p/64) M9 s p U d).2.2):=by
 obtain⟨pg,hpg⟩:=Zgn (p/64);have hpq:IntKind.u32.wrap ((p:Int).tdiv 64)=(pg:Int):=by rw[bD Wq1,u32_wrap_id _ Wq1 Wq1];omega
 have hpgl:pg<=4294967295:=by omega
 rw[hpg];clear hpg;obtain⟨⟨s9,U9,d9⟩,hR⟩:=Zgn (dZ L.n pg M9 s p U d);rw[hR];have ho0:d.out.length<=d.out.length+0:=aM _;obtain⟨o0,hoo⟩:=Zgn (d.out.length);rw[hoo]at ho;refine bN func110 rfl ntmps110 rfl hi ?_;refine Z_2 ?_;refine ZO λb5=>?_;refine ZN λb10=>?_
 refine Z_5 ?_;refine Zy (kp (Zv rfl) (Zv rfl) Wq1 hpq) ?_;refine Zy (ce rfl rfl Zv0 Zl) ?_;refine Z_6 ?_;refine iT (row b5 (s.cells (.slice X.Ad s.d.length X.cd) (.slice X.Ar s.r.length X.cr)) 47::row b10 (St.zero.cells (.slice none 0 0) (.slice none 0 0)) 47::guF bu bb L D s X Y U d) Zj ?_;refine Z_5 ?_;refine cq (λq:Nat×St×kb×Nat×nw×Mmu×Dev=>[(1,.int .u32 (q.2.2.2.1:Int)),(3,.pointer (some ⟨bu,0,none⟩)),(4,.pointer (some ⟨D.bs,0,none⟩)),(5,.pointer (some ⟨b5,0,none⟩)),(10,.pointer (some ⟨b10,0,none⟩)),(11,.int .i64 (pg:Int)),(20,.int .i64 (M9:Int)),(21,.int .i64 (q.1:Int))]) (λq=>row b5 (q.2.1.cells (.slice q.2.2.1.Ad q.2.1.d.length q.2.2.1.cd) (.slice q.2.2.1.Ar q.2.1.r.length q.2.2.1.cr)) 47::row b10 (St.zero.cells (.slice none 0 0) (.slice none 0 0)) 47::guF bu bb L D q.2.1 q.2.2.1 q.2.2.2.2.1 q.2.2.2.2.2.1 q.2.2.2.2.2.2) (λq=>q.1<=M9/\q.2.2.2.1<=4294967295/\GOk L.n q.2.1 q.2.2.2.2.2.1 q.2.2.2.2.2.2/\q.2.2.2.2.2.2.out.length<=o0+q.1/\dZ L.n pg (M9 - q.1) q.2.1 q.2.2.2.1 q.2.2.2.2.2.1 q.2.2.2.2.2.2=(s9,U9,d9)) (λq=>M9 - q.1) (⟨0,s,X,p,Y,U,d⟩) ?_ ?_ ?_ ?_
 .exact⟨aq _,hp,hG,by show d.out.length<=o0+0;omega,hR⟩
 .exact Zwk
 .exact Zu
 rintro⟨j,s,X,p,Y,U,d⟩ ⟨hj,hp,hG,ho1,hRj⟩;dsimp only at hj hp hG ho1 hRj|-;refine Z_6 ?_;refine ZW ?_ ?_<;>intro hc3
 .simp only[aj]at hc3;obtain⟨k,hk⟩:∃k,M9 - j=k+1:=⟨M9 - j - 1,by omega⟩;rw[hk]at hRj;have HF:=Cy bu bb L U.m p hp;have hrn:=λ(op nn:Int) (z:Nat) h=>mb (n:=L.n) (M:=U.m) (p:=p) (op:=op) (nn:=nn) (z:=z) hG.u.m h
  have hN:=Aw (n:=L.n) (MY:=pg) (k:=k) (s:=s) (p:=p) (U:=U) (d:=d);have hS:=λ(op nn:Int) (z:Nat) (q:Res) (U1:Mmu) (d1:Dev) h hq=>Au (n:=L.n) (MY:=pg) (k:=k) (s:=s) (p:=p) (U:=U) (d:=d) (op:=op) (nn:=nn) (z:=z) (q:=q) (U1:=U1) (d1:=d1) h hq
  obtain⟨o,hfo⟩:=Zgn (cZ L.n U.m p);rw[hfo]at HF hN hS;rw[hfo]at hrn;obtain⟨hd16,hr16, -⟩:=St.fits hG.right;refine Z_8 ?_;refine ZSe (λw hi=>HF w (hi.get (show Has _ (Jd bu L.bm bb)from Zh)) (hi.get (show Has _ (eA L U.m)from Zh))) ?_;refine Z_4 ?_;refine ZN λb12=>?_
  refine ZM ?_;refine fE ?_;refine ZW ?_ ?_<;>intro hc5
  .obtain rfl:o=none:=(by cases o with|none=>rfl|some o=>cases hc5);rw[hN rfl,aV,aV]at hRj;obtain⟨rfl,rfl,rfl⟩:=hRj;refine Z_4 ?_;refine Zy (df Zv0 Zv0 rfl) ?_;refine Z_1 ?_;refine ZL ?_;refine Z_5 ?_;refine ZS (λw hi=>qb s.next X.Ad X.Ar X.cd X.cr 1 0 w (hi.NM (show Has _ (slD s X.Ad X.cd)from Zh) (show Has _ (slR s X.Ar X.cr)from Zh) (show s.d.length*4<=_ by omega) (show s.r.length*4<=_ by omega))) ?_;rintro _ _ ⟨_,⟨A3,c3,A4,c4,rfl,rfl⟩,rfl⟩;refine ZM ?_;refine Z_9 ?_;refine bP (row b10 ((s.next.M3 1 0).cells (.slice A3 s.d.length c3) (.slice A4 s.r.length c4)) 47::guF bu bb L D (s.next.M3 1 0) ⟨A3,c3,A4,c4⟩ Y U d) Zj ?_;refine mi (cs':=(guF bu bb L D (s.next.M3 1 0) ⟨A3,c3,A4,c4⟩ Y U d)) (.inl rfl) Zu rfl rfl Zh Zrf Zrf ?_;exact⟨⟨A3,c3,A4,c4⟩,Y,rfl,rfl⟩
  obtain⟨⟨⟨op,nn⟩,z⟩,rfl⟩:∃q,o=some q:=(by cases o with|none=>cases hc5|some o=>exact⟨o,rfl⟩);obtain⟨hnn,hz1,hz5, -⟩:=hrn op nn z rfl;have HD:=do_ok bu bb L D Y s X.Ad X.Ar X.cd X.cr op nn U d hG.wf hnn hG.u.t hG.dv.wf Wq1;have hg:=tU (op:=op) (nn:=nn) hG.wf hG.right hnn hG.u hG.dv;have hl:=rZ (n:=L.n) (op:=op) (nn:=nn) (s:=s) (U:=U) hG.lines;obtain⟨⟨q,U1,d1⟩,hq⟩:=Zgn (mq L.n s op nn U d);rw[hS op nn z q U1 d1 rfl hq]at hRj;rw[hq]at HD hg hl;obtain⟨g1,g2,g3,g4,g5,g6⟩:=hg;dsimp only at g1 g2 g3 g4 g5 g6 hl;have HX:=λX1 Ap cp w h=>GD op nn q X1 Ap cp pg s.pc g1.pc hG.wf.pc w h
  obtain⟨nx,hnx⟩:=Zgn (jg op q pg s.pc);rw[hnx]at HX hRj;refine Z_8 ?_;refine ZcL (ubF bu bb L D Y U d) (λw hi hin=>HD w hin (λw' hk=>hi.NL Zi (show Has _ (slD s X.Ad X.cd)from Zh) (show Has _ (slR s X.Ar X.cr)from Zh) Wq1 Wq1 hk)) ?_;rintro _ _ ⟨_,⟨X1,Y1,Ap,cp,rfl,rfl⟩,rfl⟩;refine ZN λb15=>?_
  refine ZM ?_;refine gR ?_;refine dN (cz (vs:=q.s.cells (.slice X1.Ad q.s.d.length X1.cd) (.slice X1.Ar q.s.r.length X1.cr)) Zrf Zrf Zv0) (cK Zh rfl) rfl ?_;refine ZM ?_;refine Z_6 ?_;refine Zy (ce rfl rfl (Zv rfl) (u32_wrap_id _ (by show 0<=(z:Int);omega) (by show(z:Int)<4294967296;omega))) ?_;refine Zy (df (Zv rfl) (Zv rfl) (show _=(((p+z)%4294967296:Nat):Int)from by show IntKind.u32.wrap ((p:Int)+(z:Int))=_;rw[aE];omega)) ?_;refine Z_9 ?_;refine ZSe (λw hi=>HX X1 Ap cp w (hi.rd (show Has _ (sl .i64 3 Ap q.MK.length cp q.MK)from Zh))) ?_;refine Z_3 ?_;refine ZW ?_ ?_<;>intro hc12
  .obtain rfl:nx=false:=(by cases nx with|false=>rfl|true=>cases hc12);rw[aa,aV,aV]at hRj;obtain⟨rfl,rfl,rfl⟩:=hRj;refine Z_9 ?_;refine ZM ?_;refine Z_3 ?_;refine bP (row b10 (q.s.cells (.slice X1.Ad q.s.d.length X1.cd) (.slice X1.Ar q.s.r.length X1.cr)) 47::guF bu bb L D q.s X1 Y1 U1 d1) Zj ?_;refine mi (cs':=(guF bu bb L D q.s X1 Y1 U1 d1)) (.inl rfl) Zu rfl rfl Zh Zrf Zrf ?_;exact⟨X1,Y1,rfl,rfl⟩
  obtain rfl:nx=true:=(by cases nx with|true=>rfl|false=>cases hc12);rw[ac]at hRj;refine Z_4 ?_;refine Wq8 ?_;refine bX ((⟨j+1,q.s,X1,(p+z)%4294967296,Y1,U1,d1⟩:Nat×St×kb×Nat×nw×Mmu×Dev)) ?_ ?_ ?_
  .exact⟨⟨show j+1<=M9 by omega,by show(p+z)%4294967296<=4294967295;omega,⟨g1,g2,g4,g5,hl⟩,by show d1.out.length<=o0+(j+1);omega,by show dZ L.n pg (M9 - (j+1)) q.s _ U1 d1=_;rw[show M9 - (j+1)=k by omega];exact hRj⟩,show M9 - (j+1)<M9 - j by omega⟩
  .exact Zwk
  exact Zj
 simp only[ah]at hc3;rw[show M9 - j=0 by omega]at hRj;simp only[dZ,aV]at hRj;obtain⟨rfl,rfl,rfl⟩:=hRj;refine Z_8 ?_;refine ZM ?_;refine Z_3 ?_;refine bP (row b10 (s.cells (.slice X.Ad s.d.length X.cd) (.slice X.Ar s.r.length X.cr)) 47::guF bu bb L D s X Y U d) Zj ?_;refine mi (cs':=(guF bu bb L D s X Y U d)) (.inl rfl) Zu rfl rfl Zh Zrf Zrf ?_;exact⟨X,Y,rfl,rfl⟩
end Go.Proofs.YtkegldppffignaaGreatDoor
namespace Go.Ink
open Go.RowKit
theorem EG{n:Nat}{s s1:St}{U U1:Mmu}{d d1:Dev}{pl:Int}(h:dI n s U d=⟨s1,pl,false,U1,d1⟩):cT n s U d=(s1,U1,d1):=by
 unfold cT;rw[h]
 rfl
theorem Bm{n:Nat}{s s1:St}{U U1:Mmu}{d d1:Dev}{pl:Nat}(h:dI n s U d=⟨s1,(pl:Int),true,U1,d1⟩):cT n s U d=dZ n (pl/64) 8 s1 pl U1 d1:=by
 unfold cT;rw[h]
 rfl
def eL(m from_:Int)(s:St):Bool:=decide (0<m)&& !s.halted&&decide (IntKind.u64.wrap (s.count - from_)<m)
def eW(n:Nat)(m:Int)(s:St)(U:Mmu)(d:Dev):St×Mmu×Dev:=kK n m s.count m.toNat (s,U,d)
theorem jn{n k:Nat}{m from_:Int}{q:St×Mmu×Dev}(h:eL m from_ q.1=false):kK n m from_ k q=q:=by
 cases k with
 |zero=>rfl
 |succ k=>
  show(bif eL m from_ q.1 then _ else q)=q;rw[h]
  rfl
theorem po{n k:Nat}{m from_:Int}{q:St×Mmu×Dev}(h:eL m from_ q.1=true):kK n m from_ (k+1) q=kK n m from_ k (cT n q.1 q.2.1 q.2.2):=by
 show(bif eL m from_ q.1 then _ else q)=_;rw[h]
 rfl
structure EK(n:Nat)(m from_:Int)(o0 i:Nat)(q:St×Mmu×Dev):Prop where
 g:GOk n q.1 q.2.1 q.2.2
 out:q.2.2.out.length<=o0+8*i
 cnt:∃c:Nat,IntKind.u64.wrap (q.1.count - from_)=(c:Int)/\i<=c/\c<=8*i/\(c:Int)<(bif decide (0<m)then m else 0)+8
theorem BP{n:Nat}{m from_:Int}(hm:m<=1000000){o0 i:Nat}(hi:i<=1000000){q:St×Mmu×Dev}(h:EK n m from_ o0 i q)(hc:eL m from_ q.1=true):EK n m from_ o0 (i+1) (cT n q.1 q.2.1 q.2.2)/\(i:Int)<m:=by
 obtain⟨h1,h2,c,h3,h4,h5,h6⟩:=h;simp only[eL,aL,aj,Bool.not_eq_true']at hc;obtain⟨⟨hm0,hh⟩,hlt⟩:=hc;rw[ax hm0,ac]at h6;obtain⟨b1,b2,j,b3,b4,b5⟩:=EF h1 hh;refine⟨⟨b1,by omega,c+j,?_,by omega,by omega,?_⟩,by omega⟩
 .rw[b5];rw[aQ]at h3|-;rw[aQ];omega
 rw[ax hm0,ac];omega
end Go.Ink
namespace Go.Proofs.YtkegldppffignaaGreatDoor
open Go.RowKit Go.Ink Go.Proofs.Tryz
attribute [local irreducible] OpY bS
theorem LO(bu bb:Nat)(L:fu)(D:p8)(Y:nw)(s:St)(Ad Ar:Option Addr)(cd cr:Nat)(U:Mmu)(d:Dev)(hG:GOk L.n s U d)(ho:d.out.length+8<=1000000000)(w:World)(hi:Inv w (bM (ubF bu bb L D Y U d)) (ubF bu bb L D Y U d) w)
  (h:∀w',dG (bM (ubF bu bb L D Y U d)) w w'->oJ w' s Ad Ar cd cr) (ht:∀w',dG (bM (ubF bu bb L D Y U d)) w w'->iG w'):
  Ctr prog 79 [sv s Ad cd Ar cr,.pointer (some ⟨bu,0,none⟩),.pointer (some ⟨D.bs,0,none⟩)] w (ubF bu bb L D Y U d)
   (λv cs=>∃X' Y',v=sv (cT L.n s U d).1 X'.Ad X'.cd X'.Ar X'.cr/\cs=guF bu bb L D (cT L.n s U d).1 X' Y' (cT L.n s U d).2.1 (cT L.n s U d).2.2):=by
 have HB:=CP bu bb L D Y s hG.wf Ad Ar cd cr U hG.u.t d (qc hG.lines _);have hb:=nQ hG;have hN:=λs1 U1 d1 pl h=>EG (n:=L.n) (s:=s) (s1:=s1) (U:=U) (U1:=U1) (d:=d) (d1:=d1) (pl:=pl) h
 have hY:=λs1 U1 d1 pl h=>Bm (n:=L.n) (s:=s) (s1:=s1) (U:=U) (U1:=U1) (d:=d) (d1:=d1) (pl:=pl) h
 obtain⟨⟨s1,pl,rn,U1,d1⟩,hbe⟩:=Zgn (dI L.n s U d);rw[hbe]at HB hb hN hY;obtain⟨hg1,hpl,hout, -, -, -⟩:=hb;dsimp only at hg1 hpl hout;obtain⟨pl,rfl⟩:∃m:Nat,pl=m:=ar hpl.1;have hpl2:=hpl.2;have HR:=λX w hi=>rest_ok bu bb L D Y s1 X pl Wq1 8 Wq5 U1 d1 hg1 (by rw[hout];exact ho) w hi
 obtain⟨⟨s9,U9,d9⟩,hR⟩:=Zgn (cT L.n s U d);rw[hR]at hN hY|-;refine bN func79 rfl ntmps79 rfl hi ?_;refine Z_2 ?_;refine ZO λb3=>?_;refine ZN λb6=>?_
 refine Z_7 ?_;refine ZcL (ubF bu bb L D Y U d) (λw hi hin=>HB w hin (λw' hk=>h w' (hi.Oi (λc hc=>by simp only[ubF,uF,lm,aS,aJ,aY]at hc|-;grind) hk)) (λw' hk=>ht w' (hi.Oi (λc hc=>by simp only[ubF,uF,lm,aS,aJ,aY]at hc|-;grind) hk))) ?_;rintro _ _ ⟨_,⟨X1,rfl,rfl⟩,rfl⟩;refine ZN λb7=>?_
 refine ZM ?_;refine dS ?_;refine ZW ?_ ?_<;>intro hc2
 .obtain rfl:rn=false:=(by cases rn with|false=>rfl|true=>cases hc2);have e:=hN s1 U1 d1 pl rfl;rw[aV,aV]at e;obtain⟨rfl,rfl,rfl⟩:=e;refine Z_3 ?_;refine dN (cz (vs:=s9.cells (.slice X1.Ad s9.d.length X1.cd) (.slice X1.Ar s9.r.length X1.cr)) Zrf Zrf Zv0) (cK Zh rfl) rfl ?_;refine ZM ?_;refine Z_4 ?_;refine bP (row b6 (s9.cells (.slice X1.Ad s9.d.length X1.cd) (.slice X1.Ar s9.r.length X1.cr)) 47::guF bu bb L D s9 X1 Y U9 d9) Zj ?_;refine mi (cs':=(guF bu bb L D s9 X1 Y U9 d9)) (.inl rfl) Zu rfl rfl Zh Zrf Zrf ?_;exact⟨X1,Y,rfl,rfl⟩
 obtain rfl:rn=true:=(by cases rn with|true=>rfl|false=>cases hc2);have e:=hY s1 U1 d1 pl rfl;rw[<-e]at HR;refine Z_5 ?_;refine dN (cz (vs:=s1.cells (.slice X1.Ad s1.d.length X1.cd) (.slice X1.Ar s1.r.length X1.cr)) Zrf Zrf Zv0) (cK Zh rfl) rfl ?_;refine Z_4 ?_;refine ZcL (guF bu bb L D s1 X1 Y U1 d1) (λw hi hin=>HR X1 w hin) ?_;rintro _ _ ⟨_,⟨X2,Y2,rfl,rfl⟩,rfl⟩;refine ZM ?_;refine Z_3 ?_;refine bP (row b6 (s9.cells (.slice X2.Ad s9.d.length X2.cd) (.slice X2.Ar s9.r.length X2.cr)) 47::guF bu bb L D s9 X2 Y2 U9 d9) Zj ?_;refine mi (cs':=(guF bu bb L D s9 X2 Y2 U9 d9)) (.inl rfl) Zu rfl rfl Zh Zrf Zrf ?_;exact⟨X2,Y2,rfl,rfl⟩
theorem run_ok(bu bb:Nat)(L:fu)(D:p8)(Y:nw)(s:St)(Ad Ar:Option Addr)(cd cr:Nat)(U:Mmu)(d:Dev)(hG:GOk L.n s U d)(m:Int)(hm0: -1000000<=m)(hm:m<=1000000)(ho:d.out.length+8*m.toNat+8<=1000000000)(w:World)(hi:Inv w (bM (ubF bu bb L D Y U d)) (ubF bu bb L D Y U d) w)
  (h:∀w',dG (bM (ubF bu bb L D Y U d)) w w'->oJ w' s Ad Ar cd cr) (ht:∀w',dG (bM (ubF bu bb L D Y U d)) w w'->iG w'):
  Ctr prog 46 [sv s Ad cd Ar cr,.pointer (some ⟨bu,0,none⟩),.pointer (some ⟨D.bs,0,none⟩),.int .i64 m] w (ubF bu bb L D Y U d)
   (λv cs=>∃X' Y',v=sv (eW L.n m s U d).1 X'.Ad X'.cd X'.Ar X'.cr/\cs=guF bu bb L D (eW L.n m s U d).1 X' Y' (eW L.n m s U d).2.1 (eW L.n m s U d).2.2):=by
 have HR2:=nF s;rw[hG.right]at HR2;obtain⟨hd16,hr16, -⟩:=St.fits hG.right;obtain⟨⟨s9,U9,d9⟩,hR⟩:=Zgn (eW L.n m s U d);rw[hR];have hR0:kK L.n m s.count (m.toNat - 0) (s,U,d)=(s9,U9,d9):=hR;have hk0:EK L.n m s.count d.out.length 0 (s,U,d):=⟨hG,aM _,0,by show IntKind.u64.wrap (s.count - s.count)=0;rw[Int.sub_self];rfl,aM _,aM _,by cases hd:decide (0<m)with|false=>(show(0:Int)<0+8;omega)|true=>(simp only[aj]at hd;show(0:Int)<m+8;omega)⟩;obtain⟨from_,hfr⟩:=Zgn (s.count);obtain⟨o0,hoo⟩:=Zgn (d.out.length);rw[hfr]at hR0 hk0;rw[hoo]at ho hk0;refine bN func46 rfl ntmps46 rfl hi ?_;refine Z_2 ?_;refine ZO λb4=>?_;refine ZN λb8=>?_
 refine Z_5 ?_;refine ZS (λw hi=>jv s Ad Ar cd cr w (h w hi.Nb)) ?_;rintro _ _ ⟨_,⟨A1,c1,A2,c2,rfl,rfl⟩,rfl⟩;refine ZM ?_;refine Z_6 ?_;refine ZSe (λw hi=>HR2 A1 A2 c1 c2 w) ?_;refine fE ?_;refine fS ?_;refine Z_4 ?_;refine iT (row b4 (s.cells (.slice A1 s.d.length c1) (.slice A2 s.r.length c2)) 47::row b8 (St.zero.cells (.slice none 0 0) (.slice none 0 0)) 47::guF bu bb L D s ⟨A1,c1,A2,c2⟩ Y U d) Zj ?_;refine Z_7 ?_;refine cq (λq:Nat×St×kb×nw×Mmu×Dev=>[(1,.pointer (some ⟨bu,0,none⟩)),(2,.pointer (some ⟨D.bs,0,none⟩)),(3,.int .i64 m),(4,.pointer (some ⟨b4,0,none⟩)),(8,.pointer (some ⟨b8,0,none⟩)),(9,.int .u64 from_)]) (λq=>row b4 (q.2.1.cells (.slice q.2.2.1.Ad q.2.1.d.length q.2.2.1.cd) (.slice q.2.2.1.Ar q.2.1.r.length q.2.2.1.cr)) 47::row b8 (St.zero.cells (.slice none 0 0) (.slice none 0 0)) 47::guF bu bb L D q.2.1 q.2.2.1 q.2.2.2.1 q.2.2.2.2.1 q.2.2.2.2.2) (λq=>EK L.n m from_ o0 q.1 (q.2.1,q.2.2.2.2.1,q.2.2.2.2.2)/\q.1<=m.toNat/\kK L.n m from_ (m.toNat - q.1) (q.2.1,q.2.2.2.2.1,q.2.2.2.2.2)=(s9,U9,d9)) (λq=>m.toNat - q.1) (⟨0,s,⟨A1,c1,A2,c2⟩,Y,U,d⟩) ?_ ?_ ?_ ?_
 .exact⟨hk0,aq _,hR0⟩
 .exact Zwk
 .exact Zu
 rintro⟨i,s,X,Y,U,d⟩ ⟨hk,him,hRi⟩;dsimp only at hk him hRi|-;have hrc:eL m from_ s=((decide (0<m)&& !s.halted)&&decide (IntKind.u64.wrap (s.count - from_)<m)):=rfl;refine gy ?_;refine Zyy rfl rfl (eE (dh rfl) (dh rfl) rfl) ?_;refine ZB ?_;refine Zyy rfl rfl (ce rfl rfl (dh rfl) (show _=(bif decide (0<m)then m else IntKind.u64.wrap m)from by cases hd:decide (0<m)with|false=>rfl|true=>(rw[ac,aQ];simp only[aj]at hd;omega))) ?_;refine Z_4 ?_;refine ZW ?_ ?_<;>intro hc5
 .have hc:eL m from_ s=true:=(by rw[hrc];revert hc5;cases decide (0<m)with|false=>(intro h;cases h)|true=>exact λh=>h);obtain⟨hk2,hilt⟩:=BP hm Wq1 hk hc;obtain⟨k,hkk⟩:∃k,m.toNat - i=k+1:=⟨m.toNat - i - 1,by omega⟩;rw[hkk,po hc]at hRi;obtain⟨hd16,hr16, -⟩:=St.fits hk.g.right;have hok:=hk.out;dsimp only at hok hd16 hr16;have HB:=LO bu bb L D Y s X.Ad X.Ar X.cd X.cr U d hk.g Wq1;obtain⟨⟨s2,U2,d2⟩,hq⟩:=Zgn (cT L.n s U d);dsimp only at hRi hk2;rw[hq]at HB hRi hk2;refine Z_7 ?_;refine ZcL (ubF bu bb L D Y U d) (λw hi hin=>HB w hin (λw' hk=>hi.NL Zi (show Has _ (slD s X.Ad X.cd)from Zh) (show Has _ (slR s X.Ar X.cr)from Zh) Wq1 Wq1 hk) (λw' hk=>ht w' (hi.Oi (λc hc=>by simp only[guF,ubF,uF,lm,aS,aJ,aY]at hc|-;grind) hk))) ?_;rintro _ _ ⟨_,⟨X2,Y2,rfl,rfl⟩,rfl⟩;refine ZM ?_;refine Z_2 ?_;refine bX ((⟨i+1,s2,X2,Y2,U2,d2⟩:Nat×St×kb×nw×Mmu×Dev)) ?_ ?_ ?_
  .exact⟨⟨hk2,show i+1<=m.toNat by omega,by show kK L.n m from_ (m.toNat - (i+1)) (s2,U2,d2)=_;rw[show m.toNat - (i+1)=k by omega];exact hRi⟩,show m.toNat - (i+1)<m.toNat - i by omega⟩
  .exact Zwk
  exact Zj
 have hc:eL m from_ s=false:=(by rw[hrc];revert hc5;cases decide (0<m)with|false=>exact λ_=>rfl|true=>exact λh=>h);rw[jn hc,aV,aV]at hRi;obtain⟨rfl,rfl,rfl⟩:=hRi;refine Z_8 ?_;refine ZM ?_;refine Z_3 ?_;refine bP (row b8 (s.cells (.slice X.Ad s.d.length X.cd) (.slice X.Ar s.r.length X.cr)) 47::guF bu bb L D s X Y U d) Zj ?_;refine mi (cs':=(guF bu bb L D s X Y U d)) (.inl rfl) Zu rfl rfl Zh Zrf Zrf ?_;exact⟨X,Y,rfl,rfl⟩
end Go.Proofs.YtkegldppffignaaGreatDoor
namespace Go.Ink
open Go.RowKit
def ImC(code:List II):Prop:=∀x,x∈code->0<=x.imm/\x.imm<=4294967295
structure mv(w:Lw):Prop where
 d:∀n,n∈w.d.l->II.in_ n w.code
 r:∀n,n∈w.r.l->II.in_ n w.code
 wf:WfC w.code
 ops:WfO w.code
 flags:w.flags= -1\/II.in_ w.flags w.code
 target:w.target= -1\/II.in_ w.target w.code
 imm:ImC w.code
theorem ImC.snoc{c:List II}{x:II}(h:ImC c)(hx:0<=x.imm/\x.imm<=4294967295):ImC (c++[x]):=λy hy=>by
 rcases aS.1 hy with h1|h1
 .exact h y h1
 rw[aK.1 h1];exact hx
theorem WfC.snoc{c:List II}{x:II}(h:WfC c)(hx:lr x=true->(0<=x.a/\x.a<c.length)/\(0<=x.b/\x.b<c.length)):WfC (c++[x]):=λi y hy hab=>by
 by_cases hi:i<c.length
 .rw[bG hi]at hy;exact h i y hy hab
 rw[bC Wq1]at hy;by_cases e:i - c.length=0
 .rw[e]at hy;obtain rfl:x=y:=by simpa using hy
  have:=hx hab;omega
 rw[List.getElem?_eq_none (by simp;omega)]at hy;cases hy
theorem WfO.snoc{c:List II}{x:II}(h:WfO c)(hx:(x.op=0\/x.op=1\/x.op=2)\/lr x=true):WfO (c++[x]):=λi y hy=>by
 by_cases hi:i<c.length
 .rw[bG hi]at hy;exact h i y hy
 rw[bC Wq1]at hy;by_cases e:i - c.length=0
 .rw[e]at hy;obtain rfl:x=y:=by simpa using hy
  exact hx
 rw[List.getElem?_eq_none (by simp;omega)]at hy;cases hy
theorem Gl{k:Int}(hk:k=1\/k=2){c:List II}{s:Sd}(h:∀n,n∈s.l->II.in_ n c)(hw:WfC c)(ho:WfO c)(hm_:ImC c):
  II.in_ (fj k c s).1 (fj k c s).2.1/\(∀n,n∈(fj k c s).2.2.l->II.in_ n (fj k c s).2.1)/\WfC (fj k c s).2.1/\WfO (fj k c s).2.1/\ImC (fj k c s).2.1/\∃e,(fj k c s).2.1=c++e:=by
 unfold fj;cases hl:s.l.getLast? with
 |some n=>
  obtain⟨m,hm⟩:∃m,s.l=m++[n]:=List.getLast?_eq_some_iff.1 hl;refine⟨h n (by rw[hm];simp),λj hj=>h j ?_,hw,ho,hm_,[],by simp⟩;rw[hm]at hj|-;simp at hj|-;exact Or.inl hj
 |none=>
  refine⟨mZ _ _,λj hj=>(by cases hj),hw.snoc (λhab=>?_),ho.snoc (Or.inl ?_),hm_.snoc (by show 0<=IntKind.u32.wrap s.MN/\IntKind.u32.wrap s.MN<=_;rw[aE];omega),_,rfl⟩
  .rcases hk with rfl|rfl<;>cases hab
  rcases hk with rfl|rfl
  .exact Or.inr (Or.inl rfl)
  exact Or.inr (Or.inr rfl)
theorem D9{c c':List II}{n:Int}(h:II.in_ n c)(he:∃e,c'=c++e):II.in_ n c':=by obtain⟨e,rfl⟩:=he;exact qY e h
theorem DS{c c':List II}{n:Int}(h:n= -1\/II.in_ n c)(he:∃e,c'=c++e):n= -1\/II.in_ n c':=h.imp id λh=>D9 h he
theorem mv.MP{w:Lw}(h:mv w):mv w.MP.2/\II.in_ w.MP.1 w.MP.2.code/\∃e,w.MP.2.code=w.code++e:=by
 obtain⟨h1,h2,h3,h4,h6,h5⟩:=Gl (k:=1) (Or.inl rfl) h.d h.wf h.ops h.imm;exact⟨⟨h2,λn hn=>D9 (h.r n hn) h5,h3,h4,DS h.flags h5,DS h.target h5,h6⟩,h1,h5⟩
theorem mv.Nn{w:Lw}(h:mv w):mv w.Nn.2/\II.in_ w.Nn.1 w.Nn.2.code/\∃e,w.Nn.2.code=w.code++e:=by
 obtain⟨h1,h2,h3,h4,h6,h5⟩:=Gl (k:=2) (Or.inr rfl) h.r h.wf h.ops h.imm;exact⟨⟨λn hn=>D9 (h.d n hn) h5,h2,h3,h4,DS h.flags h5,DS h.target h5,h6⟩,h1,h5⟩
theorem mv.pop2{w:Lw}(h:mv w):mv w.MP.2.MP.2/\II.in_ w.MP.1 w.MP.2.MP.2.code/\II.in_ w.MP.2.MP.1 w.MP.2.MP.2.code:=by
 obtain⟨h1,h2, -⟩:=h.MP;obtain⟨k1,k2,k3⟩:=h1.MP;exact⟨k1,D9 h2 k3,k2⟩
theorem mv.Nu{w:Lw}(h:mv w)(l:List Int)(hl:∀n,n∈l->II.in_ n w.code):mv (w.Nu l):=⟨λn hn=>by rcases aS.1 hn with q|q;exact h.d n q;exact hl n q,h.r,h.wf,h.ops,h.flags,h.target,h.imm⟩
theorem mv.N1{w:Lw}(h:mv w)(l:List Int)(hl:∀n,n∈l->II.in_ n w.code):mv (w.N1 l):=⟨h.d,λn hn=>by rcases aS.1 hn with q|q;exact h.r n q;exact hl n q,h.wf,h.ops,h.flags,h.target,h.imm⟩
theorem mv.add{w:Lw}(h:mv w)(op a b imm:Int)(him:0<=imm/\imm<=4294967295)(ho:op=0\/((op=3\/op=4)/\II.in_ a w.code/\II.in_ b w.code)):mv (w.add op a b imm)/\II.in_ w.here (w.add op a b imm).code:=by
 have he:∃e,(w.add op a b imm).code=w.code++e:=⟨_,rfl⟩;refine⟨⟨λn hn=>D9 (h.d n hn) he,λn hn=>D9 (h.r n hn) he,h.wf.snoc (λhab=>?_),h.ops.snoc ?_,DS h.flags he,DS h.target he,h.imm.snoc him⟩,mZ _ _⟩
 .rcases ho with rfl|⟨-,⟨a1,a2⟩,b1,b2⟩
  .cases hab
  exact⟨⟨a1,a2⟩,b1,b2⟩
 rcases ho with rfl|⟨rfl|rfl, -⟩
 .exact Or.inl (Or.inl rfl)
 .exact Or.inr rfl
 exact Or.inr rfl
theorem mv.MT{w:Lw}(h:mv w):mv w.MT:=⟨h.d,h.r,h.wf,h.ops,h.flags,h.target,h.imm⟩
theorem mv.wfl{w:Lw}(h:mv w){x:Int}(hx:II.in_ x w.code):mv (w.wfl x):=⟨h.d,h.r,h.wf,h.ops,Or.inr hx,h.target,h.imm⟩
theorem mv.wtg{w:Lw}(h:mv w){x:Int}(hx:II.in_ x w.code):mv (w.wtg x):=⟨h.d,h.r,h.wf,h.ops,h.flags,Or.inr hx,h.imm⟩
theorem mv.wbr{w:Lw}(h:mv w)(x:Int):mv (w.wbr x):=⟨h.d,h.r,h.wf,h.ops,h.flags,h.target,h.imm⟩
theorem Kv{op:Int}(hp:dB op=true){w:Lw}(h:mv w){n nx:Int}(hn:u32 n)(hnx:u32 nx):mv (w.one op n nx):=by
 refine mv.MT ?_;have sing:∀{c:List II} {x:Int},II.in_ x c->∀n,n∈[x]->II.in_ n c:=λhx n hn=>by rw[aK.1 hn];exact hx
 obtain⟨d1,d2,d3⟩:=h.MP;obtain⟨r1,r2,r3⟩:=h.Nn;obtain⟨p1,p2,p3⟩:=h.pop2;rcases pw hp with rfl|rfl|rfl|rfl|rfl|rfl|rfl|rfl|rfl|hr|hr|rfl|hr|rfl|rfl|rfl
 .exact h
 .exact(h.add 0 0 0 n hn (Or.inl rfl)).1.Nu _ (sing (h.add 0 0 0 n hn (Or.inl rfl)).2)
 .exact(h.add 0 0 0 n hn (Or.inl rfl)).1.Nu _ (sing (h.add 0 0 0 n hn (Or.inl rfl)).2)
 .exact d1.Nu _ (λn hn=>by simp at hn;rw[hn];exact d2)
 .exact d1
 .exact p1.Nu _ (λn hn=>by simp at hn;rcases hn with rfl|rfl<;>assumption)
 .exact p1.Nu _ (λn hn=>by simp at hn;rcases hn with h|h|h<;>rw[h]<;>assumption)
 .exact d1.N1 _ (sing d2)
 .exact r1.Nu _ (sing r2)
 .rw[lB (Or.inl hr)];unfold Lw.reckon;rw[show(op !=25)=true by simp;omega];obtain⟨a1,a2⟩:=p1.add 4 w.MP.2.MP.1 w.MP.1 op Wq1 (Or.inr ⟨Or.inr rfl,p3,p2⟩);obtain⟨b1,b2⟩:=(a1.wfl a2).add 3 w.MP.2.MP.1 w.MP.1 op Wq1 (Or.inr ⟨Or.inl rfl,qY _ p3,qY _ p2⟩);exact b1.Nu _ (sing b2)
 .rw[lB (Or.inr hr)];subst hr;obtain⟨a1,a2⟩:=p1.add 4 w.MP.2.MP.1 w.MP.1 25 Wq1 (Or.inr ⟨Or.inr rfl,p3,p2⟩);exact a1.wfl a2
 .exact h
 .have h5:op=33\/op=34\/op=35\/op=36\/op=37:=by omega
  rcases h5 with rfl|rfl|rfl|rfl|rfl<;>exact h.wbr _
 .exact(h.add 0 0 0 nx hnx (Or.inl rfl)).1.N1 _ (sing (h.add 0 0 0 nx hnx (Or.inl rfl)).2)
 .exact r1.wtg r2
 exact d1.wtg d2
def Lw.init:Lw:=⟨[],⟨[],0,0⟩,⟨[],0,0⟩, -1, -1,0⟩
def mS(pc:Int)(w:Lw):List (Int×Int)->Option (Int×Lw)
 |[]=>some (pc,w)
 |i::l=>bif(!fI i.1 i.2|| !dB i.1)||(fN i.1&& !l.isEmpty)then none else mS (IntKind.u32.wrap (pc+IntKind.u32.wrap (cA i.1))) (w.one i.1 i.2 (IntKind.u32.wrap (pc+IntKind.u32.wrap (cA i.1)))) l
def wW(nx:Int)(w:Lw)(i:Int×Int)(n:Nat):Pg:=
 ⟨w.code,w.d.MN,w.r.MN,w.d.high,w.r.high,w.d.l,w.r.l,w.flags,bif i.1==32||i.1==38 then IntKind.u32.wrap (nx+lI i.2)else nx,w.target,w.branch,bif i.1==32||i.1==38 then 0 else bif w.branch !=0 then IntKind.u32.wrap (nx+lI i.2)else 0,n,w.code.length⟩
def fJ(pc:Int)(l:List (Int×Int)):Option Pg:=
 bif decide ((l.length:Int)<1)||decide (8<(l.length:Int))then none else
 match mS pc Lw.init l with
 |none=>none
 |some (nx,w)=>some (cH (wW nx w (l.getLastD (0,0)) l.length))
theorem tf:mv Lw.init:=⟨λ_ h=>(by cases h),λ_ h=>(by cases h),λ_ _ h=>(by cases h),λ_ _ h=>(by cases h),Or.inl rfl,Or.inl rfl,λ_ h=>(by cases h)⟩
theorem lA{pc:Int}{w:Lw}{i:Int×Int}{l:List (Int×Int)}{q:Int×Lw}(h:mS pc w (i::l)=some q):
  fI i.1 i.2=true/\dB i.1=true/\(l≠[]->fN i.1=false)/\mS (IntKind.u32.wrap (pc+IntKind.u32.wrap (cA i.1))) (w.one i.1 i.2 (IntKind.u32.wrap (pc+IntKind.u32.wrap (cA i.1)))) l=some q:=by
 have h:(bif(!fI i.1 i.2|| !dB i.1)||(fN i.1&& !l.isEmpty)then none else mS (IntKind.u32.wrap (pc+IntKind.u32.wrap (cA i.1))) (w.one i.1 i.2 (IntKind.u32.wrap (pc+IntKind.u32.wrap (cA i.1)))) l)=some q:=h;cases hc:(!fI i.1 i.2|| !dB i.1)||(fN i.1&& !l.isEmpty)with
 |true=>rw[hc]at h;cases h
 |false=>
  rw[hc,aa]at h;simp only[bz,Bool.not_eq_false',Bool.and_eq_false_iff]at hc;refine⟨hc.1.1,hc.1.2,λhl=>?_,h⟩;rcases hc.2 with h1|h1
  .exact h1
  cases l with
  |nil=>exact absurd rfl hl
  |cons=>cases h1
theorem u5(x:Int):u32 (IntKind.u32.wrap x):=by unfold u32;rw[aE];omega
theorem rW:∀(l:List (Int×Int)) (pc:Int) (w:Lw) (q:Int×Lw),(∀i,i∈l->u32 i.2)->mS pc w l=some q->mv w->mv q.2/\fW w q.2/\(l≠[]->u32 q.1)
 |[],pc,w,q,_,h,hw=>by obtain rfl:(pc,w)=q:=ay h;exact⟨hw,fW.refl _,λe=>absurd rfl e⟩
 |i::l,pc,w,q,hu,h,hw=>by
  obtain⟨-,h2, -,h4⟩:=lA h;obtain⟨k1,k2,k3⟩:=rW l _ _ q (λj hj=>hu j (bH _ hj)) h4 (Kv h2 hw (hu i cE) (u5 _));refine⟨k1,(yC h2 w _ _).trans k2,λ_=>?_⟩;cases l with
  |nil=>obtain rfl:=ay h4;exact u5 _
  |cons j l=>exact k3 cE
theorem IV{b:Bool}{x y:Run}(hx:x.device=false)(hy:y.device=false):(bif b then x else y).device=false:=by cases b<;>assumption
section
variable {n:Nat} {op nn:Int} {s:St} {U:Mmu} {d:Dev}
theorem Gw(h:dB op=true):∃R:Run,R.device=false/\hH n s op nn U d=⟨R,U,d⟩/\yH s op nn=R:=by
 have hc:op=0\/op=1\/op=2\/op=3\/op=4\/op=5\/op=6\/op=7\/op=8\/op=16\/op=17\/op=18\/op=19\/op=20\/op=21\/op=22\/op=23\/op=25\/op=32\/op=33\/op=34\/op=35\/op=36\/op=37\/op=38\/op=39\/op=40:=by
  rcases jp h with h|h|h|h<;>omega
 rcases hc with rfl|rfl|rfl|rfl|rfl|rfl|rfl|rfl|rfl|rfl|rfl|rfl|rfl|rfl|rfl|rfl|rfl|rfl|rfl|rfl|rfl|rfl|rfl|rfl|rfl|rfl|rfl<;>
  first
  |exact⟨_,rfl,rfl,rfl⟩
  |exact⟨_,IV rfl rfl,rfl,rfl⟩
  |(refine⟨_,?_,rfl,rfl⟩;exact IV (b:=(iN _ (eY s _).pop.top (eY s _).top).2.2) (x:=(eY s _).pop.pop) (y:=(eY s _).pop.pop.wt ⟨5,0⟩) rfl rfl)
theorem BY(h:dB op=true)(hr:s.right=true):mq n s op nn U d=(doN s op nn,⟨U.m.calm,U.t⟩,d)/\(doN s op nn).device=false/\(doN s op nn).MK=[]:=by
 obtain⟨R,h1,h2,h3⟩:=Gw (n:=n) (s:=s) (nn:=nn) (U:=⟨U.m.calm,U.t⟩) (d:=d) h;unfold mq doN;rw[hr,h2,h3];simp only[Bool.not_true,aa];cases(eH s op nn !=0)with
 |true=>exact⟨rfl,rfl,rfl⟩
 |false=>
  simp only[aa];have e:rC s ⟨R,⟨U.m.calm,U.t⟩,d⟩=Mz s R:=by
   unfold rC Mz;rw[show ik U.m.calm.MS 64=[]from Dp]
  rw[e];unfold Mz;cases(R.M3.MR !=0)with
  |true=>exact⟨rfl,h1,rfl⟩
  |false=>exact⟨rfl,h1,rfl⟩
theorem AA(h:dB op=true)(hw:s.wf)(hr:s.right=true)(hnn:u32 nn)(hU:UOk n U)(hd:d.ok):(doN s op nn).s.wf/\(doN s op nn).s.right=true:=by
 have hg:=tU (op:=op) (nn:=nn) hw hr hnn hU hd;rw[(BY (n:=n) (nn:=nn) (U:=U) (d:=d) h hr).1]at hg;exact⟨hg.wf,hg.right⟩
end
inductive EN:List (Int×Int)->St->St->Prop
 |nil (s:St):EN [] s s
 |cons {op nn:Int} {l:List (Int×Int)} {s s1 s2:St} (hp:dB op=true) (hr:s.right=true) (h:doN s op nn=⟨s1,false,false,[]⟩) (hm:l≠[]->fN op=false/\s1.pc=ee s op) (k:EN l s1 s2):EN ((op,nn)::l) s s2
def MI(s s':St)(k:Nat):Prop:=s'=⟨s'.pc,s'.d,s'.r,s'.flags,s.MQ,s.MU,s.ie,s.root,s.vec,s.epc,s.MR,s.addr,s.M1,s.eie,IntKind.u64.wrap (s.count+k),s.halted⟩
theorem MI.trans{a b c:St}{j:Nat}(h:MI a b 1)(k:MI b c j):MI a c (j+1):=by
 unfold MI at h k|-;rw[h]at k;dsimp only at k;rw[k];have e:IntKind.u64.wrap (IntKind.u64.wrap (a.count+((1:Nat):Int))+(j:Int))=IntKind.u64.wrap (a.count+((j+1:Nat):Int)):=by simp only[aQ];omega
 rw[e]
theorem Iu{op:Int}(hp:dB op=true)(h:fN op=false):op<32:=by
 unfold fN at h;simp only[bz,Bool.and_eq_false_iff,ah]at h;rcases jp hp with q|q|q|q<;>omega
theorem Cd{n:Nat}{U:Mmu}{d:Dev}(hU:UOk n U)(hdv:d.ok){D R:List Int}{f0:Int}(hD:D.length<=16)(hR:R.length<=16):∀(l:List (Int×Int)) (s:St) (w:Lw) (q:Int×Lw),l≠[]->(∀i,i∈l->u32 i.2)->mS s.pc w l=some q->s.wf->s.right=true->
  LI D R w s.d s.r->FL D R f0 w s.flags->w.target= -1->w.branch=0->q.2.d.MN<=(D.length:Int)->q.2.r.MN<=(R.length:Int)->(D.length:Int)+q.2.d.high<=16->(R.length:Int)+q.2.r.high<=16->
  ∃s',EN l s s'/\s'.wf/\s'.right=true/\LI D R q.2 s'.d s'.r/\FL D R f0 q.2 s'.flags/\s'.pc=qK D R q.2 (l.getLastD (0,0)).1 (l.getLastD (0,0)).2 q.1 s'.flags/\MI s s' l.length/\(((l.getLastD (0,0)).1==32||(l.getLastD (0,0)).1==38)=true->q.2.branch=0)
 |[],_,_,_,hl,_,_,_,_,_,_,_,_,_,_,_,_=>absurd rfl hl
 |(op,nn)::l,s,w,q,hl,hu,h,hwf,hr,hli,hfl,htg,hbr,n1,n2,g1,g2=>by
  obtain⟨h1,h2,h3,h4⟩:=lA h;dsimp only at h1 h2 h3 h4;have hm:fW (w.one op nn (ee s op)) q.2:=by
   have:∀(l:List (Int×Int)) (pc:Int) (w:Lw) (q:Int×Lw),mS pc w l=some q->fW w q.2:=by
    intro l
    induction l with
    |nil=>intro pc w q h;obtain rfl:(pc,w)=q:=ay h;exact fW.refl _
    |cons i l ih=>intro pc w q h;obtain⟨-,h2, -,h4⟩:=lA h;exact(yC h2 w _ _).trans (ih _ _ _ h4)
   exact this l _ _ q h4
  have hnn:u32 nn:=hu (op,nn) cE;obtain⟨s1,hs⟩:=one_ok (nn:=nn) h2 h1 hr hli hfl hD hR htg hbr (Int.le_trans hm.nd n1) (Int.le_trans hm.nr n2) (by have:=hm.hd;omega) (by have:=hm.hr;omega);have hgo:=AA (nn:=nn) h2 hwf hr hnn hU hdv;rw[hs.did]at hgo;have hk1:MI s s1 1:=hs.rest;cases l with
  |nil=>
   obtain rfl:(ee s op,w.one op nn (ee s op))=q:=ay h4;exact⟨s1,.cons h2 hr hs.did (λe=>absurd rfl e) (.nil s1),hgo.1,hgo.2,hs.li,hs.fl,hs.pc,hk1,λhe=>(by
    have he:(op==32||op==38)=true:=he;simp only[Bool.or_eq_true,beq_iff_eq]at he;rcases he with rfl|rfl<;>exact hbr)⟩
  |cons j l=>
   have he:=h3 cE;have hlt:=Iu h2 he;obtain⟨t1,b1⟩:=hs.going hlt;have hpc:s1.pc=ee s op:=hs.pc.trans (sb b1 t1 (by
    have e1:(op==32)=false:=by simp;omega
    have e2:(op==38)=false:=by simp;omega
    rw[e1,e2];rfl))
   have h4:mS s1.pc (w.one op nn (ee s op)) (j::l)=some q:=by rw[hpc];exact h4
   obtain⟨s',c1,c2,c3,c4,c5,c6,c7,c8⟩:=Cd hU hdv hD hR (j::l) s1 (w.one op nn (ee s op)) q cE (λi hi=>hu i (bH _ hi)) h4 hgo.1 hgo.2 hs.li hs.fl t1 b1 n1 n2 g1 g2;exact⟨s',.cons h2 hr hs.did (λ_=>⟨he,hpc⟩) c1,c2,c3,c4,c5,c6,hk1.trans c7,c8⟩
end Go.Ink
