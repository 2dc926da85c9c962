/- Lemmas. -/
import Derived.Test.YtepfimeihngjoaaGreatDoorXay
import Derived.Test.YtepfimeihngjoaaGreatDoorXaz
import Derived.Test.YtepfimeihngjoaaGreatDoorXba
set_option linter.all false
set_option maxRecDepth 100000
set_option maxHeartbeats 4000000
namespace Go.Ink
open List renaming length→J, replicate→R9
open IntKind renaming wrap→V9
open Go.RowKit Go.Proofs.Tryz
section
attribute [local irreducible] Ve bN
variable{cs:List bJ}{n b:Nat}
variable{w:World}
variable{op:Int}
variable{p:Nat}
variable{nn:Int}
variable{R:UG}{U:UI}{d:UF}
section
variable{n:Nat}{op nn:Int}{R:UG}{U:UI}{d:UF}{c:Int}
theorem SH:oT n op nn (R.wc c) U d=(oT n op nn R U d).wc c:=by
 unfold oT;rw[OE,KA];cases cV op nn R with
 |some R'=>rfl
 |none=>
  simp only[Option.map_none];cases(bW op nn R).1 with
  |true=>rfl
  |false=>exact Pc
end
section
variable{n:Nat}{U:UI}{d:UF}
theorem Vc.act(h:Vc n U.m)(hd:d.wf){op nn:Int}{R:UG}(hw:∀x,x∈R.s.d->u32 x):Vc n (oT n op nn R U d).u.m:=by
 unfold oT;cases cV op nn R with
 |some R'=>exact h
 |none=>
  cases hr:(bW op nn R).1 with
  |true=>exact h
  |false=>
   rw[mK op nn R hr];exact h.other hd h.n64 hw
theorem Vc.do(h:Vc n U.m)(hd:d.wf){s:St}(hw:∀x,x∈s.d->u32 x)(op nn:Int):Vc n (ls n s op nn U d).2.1.m:=by
 unfold ls;refine bL (λq:WP×UI×UF=>Vc n q.2.1.m) h ?_;refine bL (λq:WP×UI×UF=>Vc n q.2.1.m) h.calm ?_;exact Vc.act (U:=⟨U.m.calm,U.t⟩) h.calm hd (R:=fm s op) hw
end
theorem Np(n:Nat)(op nn:Int)(R:UG)(U:UI)(d:UF):(oT n op nn R U d).r.s.count=R.s.count:=by
 have h:=SH (n:=n) (op:=op) (nn:=nn) (R:=R) (U:=U) (d:=d) (c:=R.s.count);rw[show R.wc R.s.count=R from I]at h;rw[h]
theorem MP{s x:St}{m:eu}(h:s.right=true)(hc:dQ s op nn=0)(hm:oT n op nn (runR s op) ⟨U.m.calm,U.t⟩ d=m)(hx:m.r.S3.SU=0->x=m.r.s):ls n s op nn U d=Qh s x m:=by
 have hw:nF n s op nn ⟨U.m.calm,U.t⟩ d=m.wc (V9 .u64 (s.count+1)):=by
  rw[mid_act,<-hm,<-SH]
  rfl
 have hcn:m.r.s.count=s.count:=by rw[<-hm,Np]
 have e:(dQ s op nn !=0)=false:=by rw[hc];rfl
 unfold ls Qh;rw[h];simp only[e,Bool.not_true,ac,hw];unfold Ej;cases ht:(m.r.S3.SU !=0)with
 |true=>simp only[ht,ah]
 |false=>
  have hx:=hx (by simpa using ht);subst hx;simp only[ht,ac];show(WP.mk (m.r.s.Ts (V9 .u64 (s.count+1))) false m.r.device (ee m.u.m.SX 64),m.u,m.d)=_;rw[<-hcn]
theorem OU(s:St)(hs:s.right=true)(hwf:s.wf)(K:gi)(bx n:Nat)(U:UI)(b bd:Nat)(Z:dJ)(d:UF)(hM:Vc n U.m)(hT:J U.t=16)(hd:d.wf)(ho:J d.out<=1000000000)(op nn:Int)(hnu:u32 nn)
  (Ad Ar:Oa) (cd cr:Nat) (w:World) (hi:Inv w (bM (VD K bx n U++eI b K.bm bd Z d)) (VD K bx n U++eI b K.bm bd Z d) w)
  (h:∀w',dc (bM (VD K bx n U++eI b K.bm bd Z d)) w w'->iL w' s Ad Ar cd cr):
  UW prog 120 [sv s Ad cd Ar cr,.agg #[.i op,.w nn],.p bx,.p b] w (VD K bx n U++eI b K.bm bd Z d)
   (λv cs=>∃X Z' Ap cp,v= .agg (iz (ls n s op nn U d).1 X Ap cp).toArray/\cs=R8 (ls n s op nn U d).1 X Ap cp++(VD K bx n (ls n s op nn U d).2.1++eI b K.bm bd Z' (ls n s op nn U d).2.2)):=by
 have HR:=Ds s Ad Ar cd cr;rw[hs]at HR;have HK:=DD s Ad Ar cd cr op nn hnu;have hbd:=(h w (dc.refl _ _)).hd;have hbr:=(h w (dc.refl _ _)).hr;obtain⟨hd16,hr16, -⟩:=St.fits hs;have HB:=Qr (n:=n) (s:=s) (op:=op) (nn:=nn) (U:=U) (d:=d) hs;have HG:=λhc m hm x hx=>MP (n:=n) (s:=s) (x:=x) (op:=op) (nn:=nn) (U:=U) (d:=d) (m:=m) hs hc hm hx
 have hck1:=Eo (s:=s) (op:=op) (nn:=nn);have hck2:=lv (s:=s) (op:=op) (n:=nn);obtain⟨ck,hck⟩:=Do (dQ s op nn);rw[hck]at HK HB HG hck1 hck2;have HZ:=oz op;have hMc:Vc n (UI.mk U.m.calm U.t).m:=hM.calm;obtain⟨R0,hR0⟩:=Do (runR s op);rw[hR0]at HG;unfold runR at hR0;obtain⟨sz,hsz⟩:=Do (cB op);rw[hsz]at HZ hR0;obtain⟨pc',hpc⟩:=Do (V9 .u32 (s.pc+V9 .u32 sz));rw[hpc]at hR0;obtain⟨D,hD⟩:=Do (ls n s op nn U d);rw[hD]at HB HG|-;refine Vb func120 ntmps120 hi ?_;refine An ?_;refine ZO λb4=>?_;refine ZO λb5=>?_
 refine ZN λb8=>?_
 refine UU ?_;refine UZ (λw hi=>HR w) ?_;refine rZ ?_;refine U8 ?_;refine iS ?_;refine UQ ?_;refine Vq (V6 K n U.m) (λw hi hin=>Hp K n U.m hM w hin) ?_;refine UU ?_;refine UZ (λw hi=>HK w (h w hi.To)) ?_;refine Zz ?_;rintro _ _ ⟨_,⟨A1,c1,A2,c2,rfl,rfl⟩,rfl⟩;refine ZA ?_;refine ZN λb11=>?_
 refine ZM ?_;refine An ?_;refine cj (λq:dz×St×dJ×eu=>[(2,.p bx),(4,.p b4),(8,.p b8),(9,.i q.2.2.2.r.S3.SU),(10,.w q.2.2.2.r.S3.addr),(11,.p b11)]) (λq=>Vv b11 q.1 q.2.1 q.2.2.2.r.device K bx n q.2.2.2.u b bd q.2.2.1 q.2.2.2.d++[row b4 (s.cells (.slice Ad (J s.d) cd) (.slice Ar (J s.r) cr)) 36,row b8 [.w 0,.slice none 0 0,.slice none 0 0,.w 0,.bool false,.bool false,.bool false,.w 0,.w 0,.w 0,.w 0,.w 0,.bool false,.bool false,.int .u64 0,.bool false,.bool false,.bool false,.slice none 0 0] 231]) (λq=>D=Qh s q.2.1 q.2.2.2/\Vc n q.2.2.2.u.m) ?_ ?_
 .refine UH ?_ ?_<;>intro hc7
  .have hck0:ck=0:=(by simpa using hc7);subst hR0;obtain⟨n1,n2⟩:=hck2 hck0;have HA:=λX w hin h=>Kz b11 X ⟨s.wpc pc',s.count,Tr.none,false⟩ K bx n ⟨U.m.calm,U.t⟩ b bd Z d hMc hT hd ho op nn s.pc (OO (hck1 hck0)) hnu hwf.d (show J s.d<=100000 by omega) (show J s.r<=100000 by omega) n1 n2 hwf.root rfl rfl rfl Ad Ar cd cr w hin h
   refine Zs (bQ (Vg [9]) Zk ?_);refine UE 0 0 ?_;refine ZG 1 ?_;refine UE 2 0 ?_;refine ZG 3 ?_;refine cP 4 Zk (V1 (λw hi=>HZ w) ?_);refine UR ?_;refine UY 5 I (cz I I py I) ?_;refine UY 6 I (dy py py hpc) ?_;refine UE 7 0 ?_;refine UE 8 0 ?_;refine kt ?_;refine iT ?_;refine UU ?_;refine dH (Vv b11 ⟨A1,c1,A2,c2⟩ (s.wpc pc') false K bx n ⟨U.m.calm,U.t⟩ b bd Z d) (λw hi hin=>HA ⟨A1,c1,A2,c2⟩ w hin (λw' hk=>h w' (hi.Ub (λc hc=>by simp only[Vv,VY,VD,V6,nD,eI,aJ,aI,aY]at hc|-;grind) hk))) ?_;rintro _ _ ⟨X',x',Z',rfl,rfl,hx'⟩;refine UU ?_;refine Vd ((⟨X',x',Z',oT n op nn ⟨s.wpc pc',s.count,Tr.none,false⟩ ⟨U.m.calm,U.t⟩ d⟩:dz×St×dJ×eu)) ⟨HG hck0 _ I _ hx',hMc.act hd hwf.d⟩
  refine Zc (Vd ((⟨⟨A1,c1,A2,c2⟩,s,Z,⟨⟨s,s.count,⟨ck,0⟩,false⟩,⟨U.m.calm,U.t⟩,d⟩⟩:dz×St×dJ×eu)) ⟨HB (by simpa using hc7),hMc⟩)
 rintro⟨X,x,Z',m⟩ ⟨hm,hmM⟩;dsimp only at hm hmM|-;refine VJ ?_ ?_<;>intro hc10
 .have he:Qh s x m=(⟨s.next.S3 m.r.S3.SU m.r.S3.addr,true,m.r.device,ee m.u.m.SX 64⟩,m.u,m.d):=(by unfold Qh;rw[tz hc10,hc10]);rw[he]at hm;subst hm;refine UQ ?_;refine Vl (λw hi=>ov s Ad Ar cd cr m.r.S3.SU m.r.S3.addr w (h w hi.To)) ?_;rintro _ _ ⟨A7,c7,A8,c8,rfl,rfl⟩;refine Wv ?_;refine eA (eo (ys:=iz ⟨s.S3 m.r.S3.SU m.r.S3.addr,false,m.r.device,[]⟩ ⟨A7,c7,A8,c8⟩ none 0) (n:=16) (vs:=(s.S3 m.r.S3.SU m.r.S3.addr).cells (.slice A7 (s.S3 m.r.S3.SU m.r.S3.addr).d.length c7) (.slice A8 (s.S3 m.r.S3.SU m.r.S3.addr).r.length c8)) I ir I I (jR I) Za I I9) ?_;refine UR ?_;refine UK ?_;refine ZL ?_;refine US ?_;refine kZ ?_;refine Wq341 ?_;rintro _ _ ⟨_,⟨Ap,cp,rfl,rfl⟩,rfl⟩;refine lx ?_;refine UQ ?_;refine oV ?_;refine bK ([row b8 (iz ⟨s.next.S3 m.r.S3.SU m.r.S3.addr,true,m.r.device,ee m.u.m.SX 64⟩ ⟨A7,c7,A8,c8⟩ Ap cp) 231]++(R8 ⟨s.next.S3 m.r.S3.SU m.r.S3.addr,true,m.r.device,ee m.u.m.SX 64⟩ ⟨A7,c7,A8,c8⟩ Ap cp++(VD K bx n m.u++eI b K.bm bd Z' m.d))) Zj (Wq370 ?_);exact⟨⟨A7,c7,A8,c8⟩,Z',Ap,cp,I,I⟩
 have he:Qh s x m=(⟨x.next,false,m.r.device,ee m.u.m.SX 64⟩,m.u,m.d):=(by unfold Qh;rw[lF hc10,hc10]);rw[he]at hm;subst hm;refine US ?_;refine kZ ?_;refine Wq341 ?_;rintro _ _ ⟨_,⟨Ap,cp,rfl,rfl⟩,rfl⟩;refine lx ?_;refine UQ ?_;refine oV ?_;refine bK ([row b8 (iz ⟨x.next,false,m.r.device,ee m.u.m.SX 64⟩ X Ap cp) 231]++(R8 ⟨x.next,false,m.r.device,ee m.u.m.SX 64⟩ X Ap cp++(VD K bx n m.u++eI b K.bm bd Z' m.d))) Zj (Wq370 ?_);exact⟨X,Z',Ap,cp,I,I⟩
end
end Go.Ink
namespace Go.Ink
open List renaming length→J
open IntKind renaming wrap→V9
open Go.RowKit Go.Proofs.Tryz
variable{m:Int}
variable{n:Nat}{s:St}{U:UI}{d:UF}
variable{s1:St}{d1:UF}
variable{k:Nat}
section
attribute [local irreducible] Ve bN
section
variable{n:Nat}{s:St}{U:UI}{d:UF}
theorem Ba(Tc:Nat):∀(k:Nat) {s:St} (p:Nat) {U:UI} {d:UF},VN n s U d->NT n k s d (dR n Tc k s p U d)
 |0,s,p,U,d,h=>⟨h,aK _,0,aK _,λe=>O,by
   show s.count=V9 .u64 (s.count+0);have:=h.wf.count;rw[aP];omega⟩
 |k+1,s,p,U,d,h=>by
  unfold dR;cases hf:dL n U.m p with
  |none=>exact⟨⟨JP (Se h.wf) _ u0,h.right,h.u,h.dv,h.lines⟩,by show J d.out<=_;omega,1,by omega,λ_=>aK _,I⟩
  |some o=>
   obtain⟨⟨op,nn⟩,z⟩:=o;obtain⟨f1, -⟩:=jz h.u.m hf;have hg:=pI (op:=op) (nn:=nn) h.wf h.right f1 h.u h.dv;have hl:=oM (n:=n) (op:=op) (nn:=nn) (s:=s) (U:=U) h.lines;obtain⟨⟨q,U1,d1⟩,hq⟩:=Do (ls n s op nn U d);rw[hq]at hg hl;obtain⟨g1,g2,g3,g4,g5,g6⟩:=hg;dsimp only at g1 g2 g3 g4 g5 g6 hl|-;rw[hq];dsimp only;cases jh op q Tc s.pc with
   |false=>exact⟨⟨g1,g2,g4,g5,hl⟩,by show J d1.out<=_;omega,1,by omega,λ_=>aK _,g3⟩
   |true=>
    obtain⟨r1,r2,j,r3,r4,r5⟩:=Ba Tc k ((p+z)%4294967296) (s:=q.s) (U:=U1) (d:=d1) ⟨g1,g2,g4,g5,hl⟩;refine⟨r1,by show _<=_;exact aN r2 O,j+1,by omega,λ_=>by omega,?_⟩;show(dR n Tc k q.s ((p+z)%4294967296) U1 d1).1.count=_;rw[r5,g3,lQ,show(1:Int)+(j:Int)=((j+1:Nat):Int) by omega]
theorem rS(h:VN n s U d):NT n 8 s d (cS n s U d)\/(s.halted=true/\(cS n s U d).1=s/\VN n (cS n s U d).1 (cS n s U d).2.1 (cS n s U d).2.2/\(cS n s U d).2.2.out=d.out):=by
 have hb:=kE h;unfold cS;obtain⟨b,hbe⟩:=Do (cI n s U d);rw[hbe]at hb|-;dsimp only;cases hr:b.runs with
 |true=>
  obtain⟨c1,c2,c3⟩:=hb.runs hr;have hq:=Ba (b.place.toNat/64) 8 b.place.toNat hb.g;left;refine⟨hq.g,by have:=hq.out;rw[hb.out]at this;exact this,?_⟩;obtain⟨j,j1,j2,j3⟩:=hq.count;exact⟨j,j1,j2,by rw[<-c1];exact j3⟩
 |false=>
  cases hh:s.halted with
  |false=>
   obtain⟨c1,c2⟩:=hb.stays hr hh;left;exact⟨hb.g,by show J b.d.out<=_;rw[hb.out];omega,1,by omega,λ_=>aK _,c1⟩
  |true=>
   right;have e:=hb.held hh;exact⟨I,by show b.s=s;rw[e],hb.g,hb.out⟩
theorem IN(h:VN n s U d)(hh:s.halted=false):NT n 8 s d (cS n s U d):=by
 rcases rS h with h1|⟨h1, -⟩
 .exact h1
 rw[hh]at h1;cases h1
end
theorem uV{Tc:Nat}{p:Nat}(h:dL n U.m p=none):dR n Tc (k+1) s p U d=(s.next.S3 1 0,U,d):=by
 unfold dR;rw[h]
variable{U1:UI}
theorem uU{Tc:Nat}{p:Nat}{op nn:Int}{z:Nat}{q:WP}(h:dL n U.m p=some ((op,nn),z))(hq:ls n s op nn U d=(q,U1,d1)):
  dR n Tc (k+1) s p U d=bif jh op q Tc s.pc then dR n Tc k q.s ((p+z)%4294967296) U1 d1 else(q.s,U1,d1):=by
 rw[dR,h];simp only[hq]
theorem x6{pl:Int}(h:cI n s U d=⟨s1,pl,false,U1,d1⟩):cS n s U d=(s1,U1,d1):=by
 unfold cS;rw[h]
 rfl
theorem wi{pl:Nat}(h:cI n s U d=⟨s1,(pl:Int),true,U1,d1⟩):cS n s U d=dR n (pl/64) 8 s1 pl U1 d1:=by
 unfold cS;rw[h]
 rfl
def eH(n:Nat)(m:Int)(s:St)(U:UI)(d:UF):St×UI×UF:=kJ n m s.count m.toNat (s,U,d)
variable{from_:Int}{q:St×UI×UF}
theorem kz(h:fH m from_ q.1=false):kJ n m from_ k q=q:=by
 cases k with
 |zero=>rfl
 |succ k=>
  show(bif fH m from_ q.1 then _ else q)=q;rw[h]
  rfl
theorem oq(h:fH m from_ q.1=true):kJ n m from_ (k+1) q=kJ n m from_ k (cS n q.1 q.2.1 q.2.2):=by
 show(bif fH m from_ q.1 then _ else q)=_;rw[h]
 rfl
theorem yO(hm:m<=1000000){o0 i:Nat}(hi:i<=1000000){q:St×UI×UF}(h:CJ n m from_ o0 i q)(hc:fH m from_ q.1=true):CJ n m from_ o0 (i+1) (cS n q.1 q.2.1 q.2.2)/\(i:Int)<m:=by
 obtain⟨h1,h2,c,h3,h4,h5,h6⟩:=h;simp only[fH,ay,ai,Bool.not_eq_true']at hc;obtain⟨⟨hm0,hh⟩,hlt⟩:=hc;rw[ap hm0,ah]at h6;obtain⟨b1,b2,j,b3,b4,b5⟩:=IN h1 hh;refine⟨⟨b1,by omega,c+j,?_,by omega,by omega,?_⟩,by omega⟩
 .rw[b5];rw[aP]at h3|-;rw[aP];omega
 rw[ap hm0,ah];omega
end
end Go.Ink
namespace Go.Ink
open List renaming length→J, replicate→R9
open IntKind renaming wrap→V9
open Go.RowKit Go.Proofs.Tryz
variable{rd v:Int}
variable{i:HI}{l:List HI}
section
attribute [local irreducible] Ve bN
variable{m:HM}
variable{C:List HI}
theorem hdo_one(h:(Wr i m).1=1):(Wr i m).2=m:=by
 grind [Wr,qs]
theorem Ir(h:(Te C m).1=1):(Te C m).2=m/\0<=m.pc/\m.pc<J C:=by
 grind [Te,hdo_one]
def Fg(s:St)(r:(Int×Int)×HM):St×Int:=bif r.1.1 !=1 then(s,0)else bif nq r.2.words then(oR r.2.words s,r.1.2)else(s,0)
def iE(C:List HI)(s:St):St×Int:=Fg s (ka C 4096 ⟨R9 16 0,TB s,0⟩)
theorem FQ{C:List HI}(hC:gt C):∀(f:Nat) (m:HM),0<=(ka C f m).1.2/\(ka C f m).1.2<=4294967295
 |0,m=>z32
 |f+1,m=>by
  show 0<=(bif(Te C m).1==0 then ka C f (Te C m).2 else bif(Te C m).1==1 then((1,(C.getD (Te C m).2.pc.toNat HI.zero).imm),(Te C m).2)else(((Te C m).1,0),(Te C m).2)).1.2/\(bif(Te C m).1==0 then ka C f (Te C m).2 else bif(Te C m).1==1 then((1,(C.getD (Te C m).2.pc.toNat HI.zero).imm),(Te C m).2)else(((Te C m).1,0),(Te C m).2)).1.2<=_;cases(Te C m).1==0 with
  |true=>exact FQ hC f _
  |false=>cases(Te C m).1==1 with
   |true=>
    show 0<=(C.getD (Te C m).2.pc.toNat HI.zero).imm/\(C.getD (Te C m).2.pc.toNat HI.zero).imm<=_;rw[aS];by_cases hl:(Te C m).2.pc.toNat<J C
    .rw[ak hl];exact(hC _ (List.getElem_mem hl)).imm
    rw[List.getElem?_eq_none O];exact⟨by decide,by decide⟩
   |false=>exact z32
theorem O3{s:St}(h:s.wf)(hr:s.right=true):We (TB s):=by
 obtain⟨h1,h2, -⟩:=St.fits hr;have hset:∀(W:Li) (k:Nat) (v:Int),We W->(0<=v/\v<=4294967295)->We (W.set k v):=λW k v hW hv x hx=>by
  rcases DY hx with q|q
  .exact hW x q
  omega
 have hlay:∀(W:Li) (f:Nat) (l:Li),We W->We l->∀k,We (kp W f l k):=λW f l hW hl k=>by
  induction k with
  |zero=>exact hW
  |succ k ih=>exact hset _ _ _ ih (iY hl k)
 have h0:We (R9 256 (0:Int)):=λx hx=>by grind
 have hd:We s.d:=λx hx=>h.d x hx
 have hrr:We s.r:=λx hx=>h.r x hx
 have a1:=hset _ 0 s.pc h0 h.pc;have a2:=hset _ 1 s.flags a1 h.flags
 grind [TB]
theorem hm0_of{R W:Li}(h0:J R=16)(h1:J W=256)(h2:r64 R)(h3:We W):HM.ok ⟨R,W,0⟩:=⟨h0,h1,h2,h3,Int.le_refl _⟩
theorem hm0_ok{s:St}(h:s.wf)(hr:s.right=true):HM.ok ⟨R9 16 0,TB s,0⟩:=
 hm0_of az (Fq s) (λx hx=>by grind) (O3 h hr)
theorem hrun_ok(hC:gt C):∀(f:Nat) (m:HM),m.ok->(ka C f m).2.ok
 :=by intro y1;induction y1<;>grind [FP,Te,ka]
theorem P3(bm bw:Nat)(Ac:Oa)(cc:Nat)(C:List HI)(hC:gt C)(steps:Nat)(hst:steps<=100000)(m:HM)(hm:m.ok):CI prog 192 [.p bm,.i steps] (hmF bm bw Ac cc C m) (λx cs=>∃n:Nat,x= .tuple #[.i (ka C steps m).1.1,.w (ka C steps m).1.2,.i n]/\cs=hmF bm bw Ac cc C (ka C steps m).2):=λw hi=>by
 have hcap:=(cY (hi.get (show Vk _ (W7 Ac cc C)from by repeat (first|exact .head _ _|apply Vk.tail)))).cap;have hmx:=(cY (hi.get (show Vk _ (W7 Ac cc C)from by repeat (first|exact .head _ _|apply Vk.tail)))).max;have hsome:=λh=>(cY (hi.get (show Vk _ (W7 Ac cc C)from by repeat (first|exact .head _ _|apply Vk.tail)))).some_ h
 simp only[maxLen]at hmx;obtain⟨⟨⟨how,im⟩,m9⟩,hq⟩:=Do (ka C steps m);rw[hq];have hq0:ka C (steps - 0) m=((how,im),m9):=hq;refine Vb func192 ntmps192 hi ?_;refine kF ?_;refine Vs (λq:Nat×HM=>[(0,.p bm),(1,.i steps),(7,.i (q.1:Int))]) (λq=>hmF bm bw Ac cc C q.2) (λq=>q.1<=steps/\q.2.ok/\ka C (steps - q.1) q.2=((how,im),m9)) (λq=>steps - q.1) (⟨0,m⟩) bZ ?_;rintro⟨k,m⟩ ⟨hk,hm,hE⟩;dsimp only at hk hm hE|-;have HS:=L6 bm bw Ac cc C hC m hm;have hm2:=FP hC hm;have hex:=Ir (C:=C) (m:=m);refine Wp ?_ ?_<;>intro hc2
 .simp only[ai]at hc2;obtain⟨f,hf⟩:∃f,steps - k=f+1:=⟨steps - k - 1,by omega⟩;rw[hf]at hE;have hE:(bif(Te C m).1==0 then ka C f (Te C m).2 else bif(Te C m).1==1 then((1,(C.getD (Te C m).2.pc.toNat HI.zero).imm),(Te C m).2)else(((Te C m).1,0),(Te C m).2))=((how,im),m9):=hE;obtain⟨⟨why,m2⟩,hsq⟩:=Do (Te C m);rw[hsq]at hE HS hm2 hex;dsimp only at hE hm2 hex;refine US ?_;refine Vq (hmF bm bw Ac cc C m) (λw hi hin=>HS w hin) ?_;refine nW ?_;refine ZW ?_ ?_<;>intro hc7
  .rw[hc7,ah]at hE;refine UU ?_;refine W8 ?_;refine VM ((⟨k+1,m2⟩:Nat×HM)) bZ
  rw[hc7,ac]at hE;refine UH ?_ ?_<;>intro hc8
  .rw[hc8,ah]at hE;obtain⟨he1,rfl⟩:=Prod.mk.inj hE;obtain⟨rfl,rfl⟩:=Prod.mk.inj he1;have hw1:why=1:=bZ;subst hw1;obtain⟨rfl,hp0,hpl⟩:=hex I;have hR:=hm.rl;obtain⟨p,hpe⟩:∃p:Nat,m2.pc=p:=aj hp0;rw[hpe]at hpl;have hx:C[p]? =some (C.getD p HI.zero):=bZ;rw[show m2.pc.toNat=p by omega];obtain⟨ad,rfl⟩:=hsome O;obtain⟨i,hie⟩:=Do (C.getD p HI.zero);rw[hie]at hx|-;refine Zs (bQ (Vg []) Zk ?_);refine CA ?_;refine UE 3 17 ?_;refine Vn 4 I (bO ir py) (cT Zh (hm_c hR)) ?_;refine qM ?_;refine UE 7 18 ?_;refine Vn 8 I (bO ir py) (cT Zh (YB hR)) ?_;refine UY 9 I (cZ (j:=p) I ir (Zv I) (Zv I) (λ_=>hpe) UL) ?_;refine UY 10 I (EI 4 I (Zv I) ((rW ad (p*5) 4))) ?_;refine Vn 11 I (bO ir (Zv I)) (λw hi z hz=>by rw[aX]at hz;subst hz;exact(hi.rd (UJ (W7 (some ad) cc C))).at_ ad I (p*5+4) (.w i.imm) (fw (f:=HI.cells) ir (i:=4) hx I)) ?_;refine r8 ?_;refine ZE 14 ?_;refine ZE 15 ?_;refine fh ?_;refine Va ?_;exact ω
  rw[hc8,ac]at hE;obtain⟨he1,rfl⟩:=Prod.mk.inj hE;obtain⟨rfl,rfl⟩:=Prod.mk.inj he1;refine oO ?_;exact ω
 simp only[aa]at hc2;obtain rfl:k=steps:=O;rw[Nat.sub_self]at hE;obtain⟨he1,rfl⟩:=Prod.mk.inj hE;obtain⟨rfl,rfl⟩:=Prod.mk.inj he1;refine Va ?_;refine Zy (CT (Zv I) (Zv I) (show _=((k:Nat):Int)from by omega)) ?_;refine UU ?_;exact ω
theorem BW(bm bw:Nat)(Ac:Oa)(n cc:Nat)(R W:Li)(pc:Int)(hR:J R=16)(hW:J W=256)(f k:Nat)(hf:f<=100)(hk:k<=16)(w:World)(h:(ge bm bw Ac n cc R pc).ok w)(h2:(Wb bw W).ok w):
  UW prog 245 [.p bm,.i f,.w k] w [] (λx cs=>∃A c,x= .slice A (J (ga W f k)) c/\cs=[sl .u32 32 A (J (ga W f k)) c (ga W f k)]):=by
 have hl:∀j,J (ga W f j)=j:=λj=>by simp[ga]
 have hsn:∀j,ga W f (j+1)=ga W f j++[W.getD (f+j) 0]:=λj=>by unfold ga;rw[List.range_succ,List.map_append];rfl
 refine UV func245 ntmps245 ?_;refine mv ?_;refine dB 32 1 (ZA ?_);refine wo ?_;refine UK ?_;refine Vs (λq:Nat×Option Addr×Nat=>[(0,.p bm),(1,.i f),(7,.slice q.2.1 (J (ga W f q.1)) q.2.2),(10,.i k),(11,.i (q.1:Int))]) (λq=>[sl .u32 32 q.2.1 (J (ga W f q.1)) q.2.2 (ga W f q.1)]) (λq=>q.1<=k) (λq=>k - q.1) (⟨0,none,0⟩) O ?_;rintro⟨j,A,c⟩ hj;dsimp only at hj|-;refine UH ?_ ?_<;>intro hc3
 .simp only[ai]at hc3;have hlj:=hl j;refine nW ?_;refine Zy (dy (Zv I) (Zv I) (show _=((f+j:Nat):Int)from by rw[aQ _ ⟨by omega,by omega⟩];omega)) ?_;refine UZ (λw hi=>FO bm bw Ac n cc R W pc hR hW (f+j) O w (bJ.old h hi) (bJ.old h2 hi)) ?_;refine jQ ?_;rintro _ _ ⟨b20,rfl,rfl⟩;refine gS (cC (e:=32) (sz:=1) (bytes:=4) I I Za I I (λw hi=>hi.rd (UJ (slv 32 1 (sA b20) 1 1 (ints .u32 [W.getD (f+j) 0])))) cR gD O) I ?_;rintro _ _ ⟨A2,c2,rfl,rfl⟩;rw[cy,<-hsn,show(ga W f j).length+1=J (ga W f (j+1)) by rw[hl,hl]];refine j5 ?_;refine VM ((⟨j+1,A2,c2⟩:Nat×Option Addr×Nat)) O
 simp only[aa]at hc3;obtain rfl:j=k:=by omega
 refine fR ?_;exact Nq
end
end Go.Ink
namespace Go.Ink
open List renaming length→J
open IntKind renaming wrap→V9
open Go.RowKit Go.Proofs.Tryz
section
attribute [local irreducible] Ve bN
variable{L:Lw}{n:Nat}
theorem lone_ok(b:Nat)(N:Int)(L:Lw)(X:Wq)(hs:L.sm 500)(op n next:Int):CI prog 228 [.p b,.agg #[.i op,.w n],.w next] (VL b N L X) (λ_ cs=>∃L' X',L'=L.one op n next/\cs=VL b N L' X'):=λw hi=>by
 have hgo:=sm_go hs op n next
 refine Vb func228 ntmps228 hi ?_;refine An ?_;refine ZO λb4=>?_;refine UN ?_;refine jf ?_;refine lO ?_;refine UE 2 14 ?_;refine ZE 3 ?_;refine ZE 4 ?_;refine UE 5 18 ?_;refine wU ?_;refine tC ?_;refine cj (λq:Lw×Wq=>[(0,.p b),(6,.pointer (some ⟨b,14,none⟩)),(7,.pointer (some ⟨b,18,none⟩))]) (λq=>VL b N q.1 q.2) (λq=>q.1=L.go op n next) ?_ ?_
 .refine Jm ?_;refine ZW ?_ ?_<;>intro hc3
  .refine bQ (WM [8,10,13] (m5 b4 [.i op,.w n])) Zk (qQ ?_);refine ZE 5 ?_;refine UE 6 1 ?_;refine eY 7 I Zk Zk Zk (bO ir py) (dx I) (bP (t:=51) Zh) I (pS 4 8 Zk ?_ ?_)
   .refine m4 ?_;refine gg ?_;refine Wq354 ?_;rintro _ _ ⟨_,⟨rfl,C2,A2,c2,hC2,rfl⟩,rfl⟩;exact Wx29_
   refine Wq354 ?_;rintro _ _ ⟨_,⟨rfl,C2,A2,c2,hC2,rfl⟩,rfl⟩;refine ZG 4 ?_;exact Wx29_
  refine VJ ?_ ?_<;>intro hc5
  .refine UK ?_;refine Ja ?_;rintro _ _ ⟨_,⟨rfl,C2,s2,A2,c2,hC2,hs2,rfl⟩,rfl⟩;refine gP ?_;refine jQ ?_;rintro _ _ ⟨b57,rfl,rfl⟩;have hbd:J s2.l<=600:=aN (jp hs hC2 hs2 0 0 0).dl O;refine gS (cC (n:=J s2.l) (e:=3) (sz:=1) (bytes:=8) I I Za I I (λw hi=>hi.rd (UJ (slv 3 1 (sA b57) 2 2 (ints .i64 [(fO 1 L.code L.d).1,(fO 1 L.code L.d).1])))) cR gD O) I ?_;rintro _ _ ⟨A9,c9,rfl,rfl⟩;rw[cy,show J s2.l+2=J (s2.l++[(fO 1 L.code L.d).1,(fO 1 L.code L.d).1]) by simp];refine jO ?_;refine An ?_;refine Vd (((⟨C2,⟨s2.l++[(fO 1 L.code L.d).1,(fO 1 L.code L.d).1],s2.S2,s2.high⟩,L.r,L.flags,L.target,L.branch⟩,⟨A2,c2,A9,c9,X.Ar,X.cr⟩):Lw×Wq)) ?_;dsimp only;subst hC2 hs2;unfold Lw.go;rw[hc3,hc5];rfl
  refine VJ ?_ ?_<;>intro hc8
  .refine UN ?_;refine Ja ?_;rintro _ _ ⟨_,⟨rfl,C2,s2,A2,c2,hC2,hs2,rfl⟩,rfl⟩;refine An ?_;refine Vd (((⟨C2,s2,L.r,L.flags,L.target,L.branch⟩,⟨A2,c2,X.Ad,X.cd,X.Ar,X.cr⟩):Lw×Wq)) ?_;dsimp only;subst hC2 hs2;unfold Lw.go;rw[hc3,hc5,hc8];rfl
  refine VJ ?_ ?_<;>intro hc10
  .refine UK ?_;refine Ja ?_;rintro _ _ ⟨_,⟨rfl,C2,s2,A2,c2,hC2,hs2,rfl⟩,rfl⟩;refine Wq127 ?_;rintro _ _ ⟨_,⟨rfl,C3,s3,A3,c3,hC3,hs3,rfl⟩,rfl⟩;refine gP ?_;refine jQ ?_;rintro _ _ ⟨b83,rfl,rfl⟩;have hbd:J s3.l<=600:=aN (jp (jp hs hC2 hs2 L.flags L.target L.branch) hC3 hs3 0 0 0).dl O;refine gS (cC (n:=J s3.l) (e:=3) (sz:=1) (bytes:=8) I I Za I I (λw hi=>hi.rd (UJ (slv 3 1 (sA b83) 2 2 (ints .i64 [(fO 1 L.code L.d).1,(fO 1 C2 s2).1])))) cR gD O) I ?_;rintro _ _ ⟨A9,c9,rfl,rfl⟩;rw[cy,show J s3.l+2=J (s3.l++[(fO 1 L.code L.d).1,(fO 1 C2 s2).1]) by simp];refine jO ?_;refine An ?_;refine Vd (((⟨C3,⟨s3.l++[(fO 1 L.code L.d).1,(fO 1 C2 s2).1],s3.S2,s3.high⟩,L.r,L.flags,L.target,L.branch⟩,⟨A3,c3,A9,c9,X.Ar,X.cr⟩):Lw×Wq)) ?_;dsimp only;subst hC3 hs3 hC2 hs2;unfold Lw.go;rw[hc3,hc5,hc8,hc10];rfl
  refine VJ ?_ ?_<;>intro hc14
  .refine UK ?_;refine Ja ?_;rintro _ _ ⟨_,⟨rfl,C2,s2,A2,c2,hC2,hs2,rfl⟩,rfl⟩;refine Wq127 ?_;rintro _ _ ⟨_,⟨rfl,C3,s3,A3,c3,hC3,hs3,rfl⟩,rfl⟩;refine fR ?_;refine jQ ?_;rintro _ _ ⟨b104,rfl,rfl⟩;have hbd:J s3.l<=600:=aN (jp (jp hs hC2 hs2 L.flags L.target L.branch) hC3 hs3 0 0 0).dl O;refine gS (cC (n:=J s3.l) (e:=3) (sz:=1) (bytes:=8) I I Za I I (λw hi=>hi.rd (UJ (slv 3 1 (sA b104) 3 3 (ints .i64 [(fO 1 C2 s2).1,(fO 1 L.code L.d).1,(fO 1 C2 s2).1])))) cR gD O) I ?_;rintro _ _ ⟨A9,c9,rfl,rfl⟩;rw[cy,show J s3.l+3=J (s3.l++[(fO 1 C2 s2).1,(fO 1 L.code L.d).1,(fO 1 C2 s2).1]) by simp];refine jO ?_;refine An ?_;refine Vd (((⟨C3,⟨s3.l++[(fO 1 C2 s2).1,(fO 1 L.code L.d).1,(fO 1 C2 s2).1],s3.S2,s3.high⟩,L.r,L.flags,L.target,L.branch⟩,⟨A3,c3,A9,c9,X.Ar,X.cr⟩):Lw×Wq)) ?_;dsimp only;subst hC3 hs3 hC2 hs2;unfold Lw.go;rw[hc3,hc5,hc8,hc10,hc14];rfl
  refine VJ ?_ ?_<;>intro hc18
  .refine bQ (Vg [7,9,12]) Zk (qQ ?_);refine qM ?_;refine pS 4 7 Zk ?_ ?_
   .refine m4 ?_;refine iK ?_;refine rX (VL b N L X) (λw hi hin=>tU b N L X (hs.mono O) w hin) ?_;rintro _ _ ⟨rfl,C2,s2,A2,c2,hC2,hs2,rfl⟩;exact Wx26_
   refine rX (VL b N L X) (λw hi hin=>tU b N L X (hs.mono O) w hin) ?_;rintro _ _ ⟨rfl,C2,s2,A2,c2,hC2,hs2,rfl⟩;refine ZG 4 ?_;exact Wx26_
  refine VJ ?_ ?_<;>intro hc20
  .refine bQ (Vg [7,9,12]) Zk (qQ ?_);refine qM ?_;refine pS 4 7 Zk ?_ ?_
   .refine m4 ?_;refine iK ?_;refine rX (VL b N L X) (λw hi hin=>zp b N L X (hs.mono O) w hin) ?_;rintro _ _ ⟨rfl,C2,s2,A2,c2,hC2,hs2,rfl⟩;refine gg ?_;exact Wq521
   refine rX (VL b N L X) (λw hi hin=>zp b N L X (hs.mono O) w hin) ?_;rintro _ _ ⟨rfl,C2,s2,A2,c2,hC2,hs2,rfl⟩;refine ZG 4 ?_;refine gg ?_;exact Wq521
  refine yh ?_ ?_<;>intro hc22
  .have hop:16<=op/\op<=25:=bZ;have hwop:V9 .u32 op=op:=(by rw[au];omega);refine UK ?_;refine Ja ?_;rintro _ _ ⟨_,⟨rfl,C2,s2,A2,c2,hC2,hs2,rfl⟩,rfl⟩;refine Wq127 ?_;rintro _ _ ⟨_,⟨rfl,C3,s3,A3,c3,hC3,hs3,rfl⟩,rfl⟩;refine eL ?_;refine Zy (cz I I py hwop) ?_;refine ZA ?_;refine dH (VL b N ⟨C3,s3,L.r,L.flags,L.target,L.branch⟩ ⟨A3,c3,X.Ad,X.cd,X.Ar,X.cr⟩) (λw hi hin=>vo b N ⟨C3,s3,L.r,L.flags,L.target,L.branch⟩ ⟨A3,c3,X.Ad,X.cd,X.Ar,X.cr⟩ ((jp (jp hs hC2 hs2 L.flags L.target L.branch) hC3 hs3 _ _ _).mono O) 4 0 (fO 1 C2 s2).1 (fO 1 L.code L.d).1 op w hin) ?_;rintro _ _ ⟨rfl,C4,A4,c4,hC4,rfl⟩;have h3:=jp (jp hs hC2 hs2 L.flags L.target L.branch) hC3 hs3 L.flags L.target L.branch;have h4:=xq h3 4 (fO 1 C2 s2).1 (fO 1 L.code L.d).1 op;have hs4:Lw.sm ⟨C4,s3,L.r,(J C3:Int),L.target,L.branch⟩ 1000:=(by refine⟨?_,(h3.mono (by omega:_<=1000)).dl,(h3.mono (by omega:_<=1000)).rl,(h3.mono (by omega:_<=1000)).dn,(h3.mono (by omega:_<=1000)).rn⟩;rw[hC4];exact aN h4.code O);refine UN ?_;refine ZL ?_;refine Wp ?_ ?_<;>intro hc26
   .refine bQ (Vg [11,13,16]) Zk (qQ ?_);refine qM ?_;refine ZE 7 ?_;refine ZE 8 ?_;refine UY 9 I (cz I I py hwop) ?_;refine ZE 10 ?_;refine pS 4 11 Zk ?_ ?_
    .refine m4 ?_;refine cP 11 Zk (Wq264 ?_);rintro _ _ ⟨_,⟨rfl,C5,A5,c5,hC5,rfl⟩,rfl⟩;refine cP 12 Zk (wW ?_);exact Wq432
    refine Wq264 ?_;rintro _ _ ⟨_,⟨rfl,C5,A5,c5,hC5,rfl⟩,rfl⟩;refine ZG 4 ?_;refine cP 12 Zk (wW ?_);exact Wq432
   refine An ?_;refine Vd (((⟨C4,s3,L.r,(J C3:Int),L.target,L.branch⟩,⟨A4,c4,X.Ad,X.cd,X.Ar,X.cr⟩):Lw×Wq)) ?_;dsimp only;subst hC4 hC3 hs3 hC2 hs2;exact Wq369
  refine VJ ?_ ?_<;>intro hc28
  .refine bQ (Vg [7,9,12]) Zk (qQ ?_);refine qM ?_;refine pS 4 7 Zk ?_ ?_
   .refine m4 ?_;refine iK ?_;refine rX (VL b N L X) (λw hi hin=>vn b N L X (hs.mono O) next w hin) ?_;rintro _ _ ⟨rfl,C2,A2,c2,hC2,rfl⟩;exact Wx93_
   refine rX (VL b N L X) (λw hi hin=>vn b N L X (hs.mono O) next w hin) ?_;rintro _ _ ⟨rfl,C2,A2,c2,hC2,rfl⟩;refine ZG 4 ?_;exact Wx93_
  refine VJ ?_ ?_<;>intro hc30
  .refine UK ?_;refine dH (VL b N L X) (λw hi hin=>zp b N L X (hs.mono O) w hin) ?_;rintro _ _ ⟨rfl,C2,s2,A2,c2,hC2,hs2,rfl⟩;refine UN ?_;refine ZL ?_;refine An ?_;refine Vd (((⟨C2,L.d,s2,L.flags,(fO 2 L.code L.r).1,L.branch⟩,⟨A2,c2,X.Ad,X.cd,X.Ar,X.cr⟩):Lw×Wq)) ?_;dsimp only;subst hC2 hs2;unfold Lw.go;rw[hc3,hc5,hc8,hc10,hc14,hc18,hc20,hc22,hc28,hc30];rfl
  refine VJ ?_ ?_<;>intro hc32
  .refine UK ?_;refine Ja ?_;rintro _ _ ⟨_,⟨rfl,C2,s2,A2,c2,hC2,hs2,rfl⟩,rfl⟩;refine UN ?_;refine ZL ?_;refine An ?_;refine Vd (((⟨C2,s2,L.r,L.flags,(fO 1 L.code L.d).1,L.branch⟩,⟨A2,c2,X.Ad,X.cd,X.Ar,X.cr⟩):Lw×Wq)) ?_;dsimp only;subst hC2 hs2;unfold Lw.go;rw[hc3,hc5,hc8,hc10,hc14,hc18,hc20,hc22,hc28,hc30,hc32];rfl
  refine yh ?_ ?_<;>intro hc34
  .refine UU ?_;refine ZL ?_;refine An ?_;refine Vd (((⟨L.code,L.d,L.r,L.flags,L.target,op⟩,X):Lw×Wq)) ?_;dsimp only;unfold Lw.go;rw[hc3,hc5,hc8,hc10,hc14,hc18,hc20,hc22,hc28,hc30,hc32,hc34];rfl
  refine An ?_;refine Vd (((L,X):Lw×Wq)) ?_;dsimp only;unfold Lw.go;grind
 rintro⟨L9,X9⟩ hL9;dsimp only at hL9|-;rw[<-hL9]at hgo;refine UN ?_;refine Ws (VL b N L9 X9) (λw hi hin=>Ll b N L9 X9 (hgo.mono O) w hin) ?_;rintro _ _ ⟨_,rfl,rfl⟩;refine UK ?_;refine Ws (VL b N ⟨L9.code,L9.d.top,L9.r,L9.flags,L9.target,L9.branch⟩ X9) (λw hi hin=>Lk b N ⟨L9.code,L9.d.top,L9.r,L9.flags,L9.target,L9.branch⟩ X9 ⟨(hgo.mono O).code,(hgo.mono O).dl,(hgo.mono O).rl,(hgo.mono O).dn,(hgo.mono O).rn⟩ w hin) ?_;rintro _ _ ⟨_,rfl,rfl⟩;refine Zn (io (cs':=VL b N L9.S5 X9) (.inr I) Zu I ?_);exact⟨L9.S5,X9,by unfold Lw.one;rw[hL9],rfl⟩
end
end Go.Ink
