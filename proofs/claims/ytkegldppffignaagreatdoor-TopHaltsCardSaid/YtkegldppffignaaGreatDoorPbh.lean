/- For every input the law TopHalts answers true and leaves every argument as it was; the table of math/bits is what the program's text lays (the card ties it); no other condition. -/
import Derived.Test.YtkegldppffignaaGreatDoorPaa
import Derived.Test.YtkegldppffignaaGreatDoorPab
import Derived.Test.YtkegldppffignaaGreatDoorPac
import Derived.Test.YtkegldppffignaaGreatDoorPaz
import Derived.Test.YtkegldppffignaaGreatDoorPba
import Derived.Test.YtkegldppffignaaGreatDoorPbb
import Derived.Test.YtkegldppffignaaGreatDoorRows
import Derived.JoinedOf
import Derived.Test.YtkegldppffignaaGreatDoorCards
import Derived.Test.YtkegldppffignaaGreatDoorTie
import Derived.SevenTiedAt
set_option linter.unusedSimpArgs false
set_option linter.unusedVariables false
set_option maxRecDepth 100000
set_option maxHeartbeats 4000000
namespace Go.Ink
open Go.RowKit
theorem JT(n:Nat){pc v fl c:Int}{d:List Int}(U:Mmu)(dv:Dev):(rC (SS pc d fl c) (hH n (SS pc d fl c) 1 v ⟨U.m.calm,U.t⟩ dv),(hH n (SS pc d fl c) 1 v ⟨U.m.calm,U.t⟩ dv).u,(hH n (SS pc d fl c) 1 v ⟨U.m.calm,U.t⟩ dv).d)=(⟨SS (IntKind.u32.wrap (pc+2)) (d++[v]) fl (w1 c),false,false,[]⟩,⟨U.m.calm,U.t⟩,dv):=by kernel_rfl
theorem ss_lit8(n:Nat){pc v fl c:Int}{d:List Int}(U:Mmu)(dv:Dev)(hd:d.length<16)(hf:fl<=15)(hv:v<=255):mq n (SS pc d fl c) 1 v U dv=(⟨SS (IntKind.u32.wrap (pc+2)) (d++[v]) fl (w1 c),false,false,[]⟩,⟨U.m.calm,U.t⟩,dv):=by
 have hc:eH (SS pc d fl c) 1 v=0:=by
  have h1:fI 1 v=true:=ax hv;unfold eH;rw[h1];exact(show(bif !true then(1:Int)else bif qt 1&& !(SS pc d fl c).MQ then 2 else bif(1:Int)==66&& !((SS pc d fl c).get v).2 then 1 else bif(1:Int)==67&& !((SS pc d fl c).set v 0).2 then 1 else iM (SS pc d fl c) (bY 1))=iM (SS pc d fl c) ((0,1),(0,0)) by kernel_rfl).trans (Aa (aq _) (by dsimp only;omega) rfl)
 rw[Et (dQ Wq1 hf) hc];exact JT n U dv
def halQ(M:Mem)(t:List TE)(dv:Dev)(i:Nat):Cfg:=
 if i=0 then(SS ((0:Nat):Int) [] 0 ((0:Nat):Int),⟨M,t⟩,dv)else if i=1 then(SS ((2:Nat):Int) [3] 0 ((1:Nat):Int),⟨M.calm,t⟩,dv)else({SS ((3:Nat):Int) [3] 0 ((2:Nat):Int)with halted:=true},⟨M.calm,t⟩,dv)
theorem K8{n:Nat}(hn:0<n){M:Mem}{t:List TE}{dv:Dev}{post:List Int}(hM:M.data=[1,3,69]++post)(ht:dv.timer=0):∀i,(halQ M t dv i).1.halted=false->Step n (halQ M t dv i) (halQ M t dv (i+1)):=λi hh=>by
 match i with
 |0=>
  have hf:cZ n M 0=some ((1,3),2):=xy (pre:=[]) (post:=69::post) ⟨by decide,by decide,.inr (.inl ⟨rfl,by decide⟩)⟩ (by rw[hM];rfl) rfl (by simpa using hn) Wq5;exact⟨rfl,rfl,rfl,ht,(show(0:Int)<=0 by decide),1,3,2,_,hf,ss_lit8 n (pc:=((0:Nat):Int)) (v:=3) (fl:=0) (c:=((0:Nat):Int)) (d:=[]) ⟨M,t⟩ dv cE Wq5 Wq5,rfl,λ_=>rfl⟩
 |1=>
  have hf:cZ n M.calm 2=some ((69,0),1):=xy (pre:=[1,3]) (post:=post) ⟨by decide,by decide,.inl ⟨rfl,rfl⟩⟩ (by show M.data=_;rw[hM];rfl) rfl (by simpa using hn) Wq5;exact⟨rfl,rfl,rfl,ht,(show(0:Int)<=2 by decide),69,0,1,_,hf,FZ n (pc:=((2:Nat):Int)) (fl:=0) (c:=((1:Nat):Int)) (d:=[3]) ⟨M.calm,t⟩ dv cE Wq5,rfl,λh=>by cases h⟩
 |i+2=>cases hh
theorem hal_run{n:Nat}(hn:0<n){M:Mem}{t:List TE}{dv:Dev}{post:List Int}(hM:M.data=[1,3,69]++post)(ht:dv.timer=0):eW n 50 St.new ⟨M,t⟩ dv=({SS 3 [3] 0 2 with halted:=true},⟨M.calm,t⟩,dv):=by
 obtain⟨j, -,h2,h3,h4, -⟩:=sM (T:=halQ M t dv) (c0:=0) (K8 hn hM ht) (λi hi=>by
  match i with
  |0=>rfl
  |1=>rfl
  |2=>rfl
  |i+3=>cases hi 2 Wq1) (m:=50) Wq5 (a:=0) (λl hl=>by omega)
 have e:eW n 50 St.new ⟨M,t⟩ dv=halQ M t dv j:=h2;rw[e]
 match j with
 |0=>rcases h4 with h4|h4;cases h4;simp at h4
 |1=>rcases h4 with h4|h4;cases h4;simp at h4
 |2=>rfl
 |j+3=>cases h3 2 Wq1
theorem H1{l:List Int}(hl:([1,3,69]++l).length<=4*64):∃sH:St,sH.halted=true/\sH.count=2/\sH.d.length=1/\eW 4 50 St.new ⟨Mem.load 4 ([1,3,69]++l),dz⟩ (Dev.init [])=(sH,⟨(Mem.load 4 ([1,3,69]++l)).calm,dz⟩,Dev.init []):=
 ⟨_,rfl,rfl,rfl,hal_run Wq5 (post:=l++List.replicate (4*64 - ([1,3,69]++l).length) 0) (by rw[Mem.Nt hl,ap]) rfl⟩
theorem pend_8{p:Int}(h:p=0\/p=2):(bits .and .u32 (bits .or .u32 p (lW [3])) 8 !=0)=true:=by
 rcases h with rfl|rfl<;>decide
theorem J0{n:Nat}{m:Int}{s:St}{U:Mmu}{d:Dev}(h:s.halted=true):eW n m s U d=(s,U,d):=by
 show kK n m s.count m.toNat (s,U,d)=_;cases m.toNat with
 |zero=>rfl
 |succ k=>unfold kK;dsimp only;rw[h];simp
theorem type0{d:Dev}(hi:d.inp=[])(hp:d.M5=0)(l:List Int):(d.M7 l).inp.length=d.Nd l/\((d.M7 l).M5=0\/(d.M7 l).M5=2):=by
 unfold Dev.M7;refine⟨?_,?_⟩
 .show(d.inp++l.take (d.Nd l)).length=_;rw[hi,aO,aB];unfold Dev.Nd;omega
 show(bif decide (0<d.Nd l)then bits .or .u32 d.M5 2 else d.M5)=0\/(bif decide (0<d.Nd l)then bits .or .u32 d.M5 2 else d.M5)=2;rw[hp];cases decide (0<d.Nd l)
 .exact .inl rfl
 exact .inr Wq5
theorem H3:eG [(1,3),(69,0)]=[1,3,69]:=by decide
end Go.Ink
namespace Go.Proofs.YtkegldppffignaaGreatDoor
open Go.RowKit Go.Ink Go.Proofs.Tryz
attribute [local irreducible] OpY bS
theorem zY(A B:Option Addr)(c e:Nat)(l:List xG)(b:List Int)(hb:u8s b)(n:Int)(w:World)(h:RdV w 5 A l.length c (l.flatMap xG.cells))(hl:∀a,a∈l->a.ok w)(h2:Rd w .u8 B b.length e b)(ht:iG w):
  Ctr prog 7 [.slice A l.length c,.slice B b.length e,.int .i64 n] w [] (λv cs=>v= .bool true/\cs=[]):=by
 have HI:=λw h hl=>Cj A none c 0 l 2 [] (λx hx=>by cases hx) w h hl (wV w .u8)
 have HC:=λA c w h=>o3 A c [(1,3),(69,0)] (show(2:Nat)<=1000 by decide) w h
 rw[H3,show([1,3,69]:List Int).length=3 from rfl]at HC;have HN:=λA c l hl hlu w hA=>lw 4 Wq5 Wq5 A none c 0 ([1,3,69]++l) [] hl hlu Wq5 (λx hx=>by cases hx) true w hA (wV w .u8)
 obtain⟨b2,hb2⟩:=Zgn (b.take 20);have h3:Rd w .u8 B (b.take 20).length e (b.take 20):=jo h2 20;have hbu:u8s (b.take 20):=λx hx=>hb x (bj hx)
 have hbl:(b.take 20).length<=20:=by rw[aB];omega
 have HK:=λw=>tW B e b 20 w h2.cap
 rw[hb2]at h3 hbu hbl HK;obtain⟨m,hm⟩:=Zgn (kM n 0 100);have hmr:=ke n 0 100 Wq5;rw[hm]at hmr;have HW:=λw=>hm▸kr n 0 100 w Wq5 Wq5 Wq5
 refine bN func7 rfl ntmps7 rfl (Inv.start w) ?_;refine Z_8 ?_;refine ZS (λw hi=>HI w (h.MZ hi) (λa ha=>⟨(hl a ha).v,(hl a ha).at_,(hl a ha).rd.MZ hi,(hl a ha).bs⟩)) ?_;rintro _ _ ⟨_,⟨A1,c1,E,E2,N,⟨hE1,⟨hn1,hn2⟩,hE2⟩,rfl,rfl⟩,rfl⟩;refine ZN λb7=>?_
 refine ZM ?_;refine Z_3 ?_;refine iR ⟨λj=>List.elem j [7,9],[]⟩ [(4,0),(5,4),(0,2),(1,2),(2,2),(3,2),(6,2),(7,2),(8,0),(9,2)] Zk Zk ?_;refine cW rfl (dT 0 rfl Zv0 Zf) rfl ?_;refine jB rfl (bQ Zrf Zv0) (cu Zh rfl) rfl ?_;refine fo rfl ?_;refine dO rfl rfl (cU rfl (λ_ _=>rfl) (λw hi=>j6 _ _ w)) ZJ rfl ?_;rintro _ _ ⟨_,⟨rfl,rfl⟩,rfl⟩;refine fo rfl ?_;refine dO rfl rfl (cU rfl (λ_ _=>rfl) (λw hi=>jG _ w)) ZJ rfl ?_;rintro _ _ ⟨_,⟨rfl,rfl⟩,rfl⟩;refine fo rfl ?_;refine dO rfl rfl (iw rfl rfl Zrf Zrf rfl rfl rfl) ZJ rfl ?_;rintro _ _ ⟨b16,rfl,rfl⟩;refine fo rfl ?_;refine dO rfl rfl (cU rfl (λ_ _=>rfl) (λw hi=>HC (some ⟨b16,0,none⟩) 2 w (hi.rd (show Has _ (slv 27 2 (some ⟨b16,0,none⟩) 2 2 ([((1:Int),(3:Int)),(69,0)].flatMap dR))from Zh)))) ZJ rfl ?_;rintro _ _ ⟨_,⟨A2,c2,rfl,rfl⟩,rfl⟩;refine fo rfl ?_;refine dO rfl rfl (cU rfl (λ_ _=>rfl) (λw hi=>tW A1 c1 (E.take (N*64)) 100 w (jo (hi.rd (show Has _ (sl .u8 5 A1 E.length c1 E)from Zh)) (N*64)).cap)) ZJ rfl ?_;rintro _ _ ⟨_,⟨rfl,rfl⟩,rfl⟩;have hq100:((E.take (N*64)).take 100).length<=100:=(by rw[aB];omega);refine fo rfl ?_;refine dO rfl rfl (cD (e:=5) (sz:=1) (bytes:=1) rfl rfl Za rfl rfl (λw hi=>(jo (jo (hi.rd (show Has _ (sl .u8 5 A1 E.length c1 E)from Zh)) (N*64)) 100)) cN gS Wq1) ZJ rfl ?_;rintro _ _ ⟨A3,c3,rfl,rfl⟩;rw[cj [1,3,69] ((E.take (N*64)).take 100),show 3+((E.take (N*64)).take 100).length=([1,3,69]++(E.take (N*64)).take 100).length by rw[ae];rfl];refine cW rfl (dT 0 rfl Zv0 Zf) rfl ?_;refine fo rfl ?_;refine eX rfl rfl (fq Zrf rfl rfl rfl Za Zp) ZJ ?_;rintro _ _ ⟨rfl,rfl⟩;refine eU ?_;refine Z_3 ?_;have hqu:u8s ((E.take (N*64)).take 100):=(λx hx=>hE1 x (bj (bj hx)));have hql:((E.take (N*64)).take 100).length<=100:=(by rw[aB];omega);obtain⟨q,hq⟩:=Zgn ((E.take (N*64)).take 100);rw[hq]at hqu hql|-;have hLl:([1,3,69]++q).length<=4*64:=(by rw[ae];show 3+q.length<=_;omega);have hLu:u8s ([1,3,69]++q):=Ff (λx hx=>by simp only[aJ,List.not_mem_nil,or_false]at hx;omega) hqu;obtain⟨sH,hh1,hh2,hh3,hh4⟩:=H1 hLl;have HNq:=λA c w hA=>HN A c q hLl hLu w hA
 obtain⟨L,hL⟩:=Zgn ([1,3,69]++q);rw[hL]at hh4 HNq|-;refine Z_1 ?_;refine ZL ?_;refine Z_4 ?_;refine dN (cz (vs:=[.slice A3 L.length c3,.slice none 0 0,.int .i64 4]) Zrf Zrf Zv0) (cK Zh rfl) rfl ?_;refine ZS (λw hi=>HNq A3 c3 w (hi.rd (show Has _ (sl .u8 5 A3 L.length c3 L)from Zh))) ?_;rintro _ _ ⟨_,⟨H,G,hBo,rfl,rfl⟩,rfl⟩;have hn4:H.L.n=4:=hBo.hn;have hG0:G.ok 4:=hBo.ok;have HR:=λw hi ht=>lf H G Wq1 (hn4.symm▸hG0) 50 Wq5 Wq5 (by rw[hBo.hd];decide) w hi ht
 rw[hn4,hBo.hs,hBo.hu,hBo.hd,hh4]at HR;dsimp only at HR;rw[hh2]at HR;clear hBo;refine iT (gsF H G) Zj ?_;refine dS ?_;refine fF (cy rfl rfl) rfl (dY (gsF H G) rfl (λ_ _=>rfl) Zi (λw hi hin=>HR w hin (λw' hk=>RdV.M6 ht hi Zi hk))) rfl ?_;rintro _ _ ⟨_,⟨⟨s2,X2,Y2,U2,d2,o2⟩,⟨hG2,hr2, -⟩,rfl,rfl⟩,rfl⟩;simp only[aV]at hr2;obtain⟨e1, -,e3⟩:=hr2;have hha:s2.halted=true:=(e1▸hh1);have hdl:s2.d.length=1:=(e1▸hh3);have ho2:d2.out=[]:=(by rw[e3];rfl);have hi2:d2.inp=[]:=(by rw[e3];rfl);have hp2:d2.M5=0:=(by rw[e3];rfl);have hg2:=hG2.g;dsimp only at hg2;obtain⟨hd16,hr16, -⟩:=St.fits hg2.right;have hI2:GIn d2:=⟨by rw[hi2];exact aq _⟩;obtain⟨g3,hI3⟩:=oX hg2 hI2 hbu;obtain⟨t1,t2⟩:=type0 hi2 hp2 b2;have ho3:(d2.M7 b2).out=[]:=ho2;have HI2:=pQ H ⟨s2,X2,Y2,U2,d2,o2⟩ hI2.i64 B e b2 Wq1;dsimp only at HI2;obtain⟨d3,hd3⟩:=Zgn (d2.M7 b2);obtain⟨N2,hN2⟩:=Zgn (d2.Nd b2);rw[hd3]at HI2 g3 hI3 t1 t2 ho3;rw[hN2]at HI2 t1;obtain⟨g4, -⟩:=DN g3 hI3 3;have hG4:∀Y,Gst.ok 4 ⟨s2,X2,Y,U2,d3.raise 3,o2⟩:=(λY=>⟨g4,hG2.e⟩);have p4:=pend_8 t2;have hV2:=hG2.view (by show u8s d2.out;rw[ho2];exact λx hx=>by cases hx);refine Z_4 ?_;refine fS ?_;refine Z_5 ?_;refine ZS (λw hi=>pJ H ⟨s2,X2,Y2,U2,d2,o2⟩ (hn4.symm▸hG2) (by show d2.out.length<=_;rw[ho2];exact aq _) w (hi.okS Zi)) ?_;rintro _ _ ⟨_,⟨V1,rfl,rfl⟩,rfl⟩;refine ZN λb9=>?_
 refine ZM ?_;refine Z_6 ?_;refine ZSe (λw hi=>HK w) ?_;refine ZcL (gsF H ⟨s2,X2,Y2,U2,d2,o2⟩) (λw hi hin=>HI2 w hin (λw' hk=>RdV.M6 h3 hi Zi hk)) ?_;rintro _ _ ⟨_,⟨Y3,rfl,rfl⟩,rfl⟩;refine jd ?_;refine jO ?_;rintro _ _ ⟨b46,rfl,rfl⟩;refine ZcM ([pF H.D.bi d3.M5 d3.mask]) (λw hi hin=>mX H.D.bi d3.M5 d3.mask (some ⟨b46,0,none⟩) 1 [3] cE w hin (λw' hk=>hi.NE Zi (show Has _ (slv 3 1 (some ⟨b46,0,none⟩) 1 1 (ints .i64 [3]))from Zh) hk)) ?_;have HR2:=λw hi ht=>lf H ⟨s2,X2,Y3,U2,d3.raise 3,o2⟩ Wq1 (hn4.symm▸hG4 Y3) m Wq1 Wq1 (by show d3.out.length+_+_<=_;rw[ho3];simp;omega) w hi ht
 dsimp only at HR2;rw[J0 hha]at HR2;dsimp only at HR2;rw[Int.sub_self]at HR2;refine Z_4 ?_;refine fF (cy rfl rfl) rfl (cU rfl (λ_ _=>rfl) (λw hi=>HW w)) rfl ?_;rintro _ _ ⟨_,⟨rfl,rfl⟩,rfl⟩;refine fF (cy rfl rfl) rfl (dY (gsF H ⟨s2,X2,Y3,U2,d3.raise 3,o2⟩) rfl (λ_ _=>rfl) Zi (λw hi hin=>HR2 w hin (λw' hk=>RdV.M6 ht hi Zi hk))) rfl ?_;rintro _ _ ⟨_,⟨⟨s5,X5,Y5,U5,d5,o5⟩,⟨hG5,hr5, -⟩,rfl,rfl⟩,rfl⟩;simp only[aV]at hr5;obtain⟨rfl,rfl,rfl⟩:=hr5;rw[hn4]at hG5;refine Z_4 ?_;refine fS ?_;refine Z_5 ?_;refine ZS (λw hi=>pJ H ⟨s5,X5,Y5,U5,d3.raise 3,o5⟩ (hn4.symm▸hG5) (by show d3.out.length<=_;rw[ho3];exact aq _) w (hi.okS Zi)) ?_;rintro _ _ ⟨_,⟨V2,rfl,rfl⟩,rfl⟩;refine ZN λb11=>?_
 refine ZM ?_;refine Z_5 ?_;refine dN (cz (vs:=s5.cells (.slice V1.X.Ad s5.d.length V1.X.cd) (.slice V1.X.Ar s5.r.length V1.X.cr)) Zrf Zrf Zv0) (cK (o:=0) Zh rfl) rfl ?_;refine Z_1 ?_;refine dN (cz (vs:=s5.cells (.slice V2.X.Ad s5.d.length V2.X.cd) (.slice V2.X.Ar s5.r.length V2.X.cr)) Zrf Zrf Zv0) (cK (o:=0) Zh rfl) rfl ?_;refine ZSe (λw hi=>yN s5 s5 V1.X.Ad V1.X.Ar V2.X.Ad V2.X.Ar V1.X.cd V1.X.cr V2.X.cd V2.X.cr w (hi.NM (show Has _ (slD s5 V1.X.Ad V1.X.cd)from Zh) (show Has _ (slR s5 V1.X.Ar V1.X.cr)from Zh) Wq1 Wq1) (hi.NM (show Has _ (slD s5 V2.X.Ad V2.X.cd)from Zh) (show Has _ (slR s5 V2.X.Ar V2.X.cr)from Zh) Wq1 Wq1)) ?_;rw[St.NZ];refine Z_3 ?_;refine dU (λw hi=>jf (hi.rd (show Has _ (b8 V1.Am V1.cm U5.m.data)from Zh))) (λhrd66=>?_);refine iu (bR rfl rfl) (je rfl rfl rfl (dh rfl) hrd66) (λw hi=>RdV.M8 (hi.rd (show Has _ (b8 V1.Am V1.cm U5.m.data)from Zh))) rfl ?_;refine Z_2 ?_;refine dU (λw hi=>jf (hi.rd (show Has _ (b8 V2.Am V2.cm U5.m.data)from Zh))) (λhrd69=>?_);refine iu (bR rfl rfl) (je rfl rfl rfl (dh rfl) hrd69) (λw hi=>RdV.M8 (hi.rd (show Has _ (b8 V2.Am V2.cm U5.m.data)from Zh))) rfl ?_;refine Zyy rfl rfl (my rfl (dh rfl) (dh rfl) (show _=true from(kQ hV2.m hV2.m).trans (beq_self_eq_true _))) ?_;refine Z_5 ?_;refine Zyy rfl rfl (jc (dh rfl) (Zv rfl) (show _=true from by show((d3.out.length:Int)==0)=true;rw[ho3];rfl)) ?_;refine Z_6 ?_;refine Zyy rfl rfl (jc (dh rfl) (dh rfl) (show _=true from by show((d3.inp.length:Int)==(N2:Int))=true;rw[t1];exact beq_self_eq_true _)) ?_;refine Z_2 ?_;refine ZFb 20 ?_;refine Z_2 ?_;refine Zyy rfl rfl (y_neq (dh rfl) (Zv rfl) (show _=true from p4)) ?_;refine Z_4 ?_;refine iu (bR rfl rfl) (bQ Zrf (dh rfl)) (cu Zh (congrArg (λb=>some (Value.bool b)) hha)) rfl ?_;refine Z_6 ?_;refine Zyy rfl rfl (jc (dh rfl) (Zv rfl) (show _=true from by show((s5.d.length:Int)==1)=true;rw[hdl];rfl)) ?_;refine Z_2 ?_;refine fF (bR rfl rfl) rfl (cU rfl (λ_ _=>rfl) (λw hi=>p5 w (ht.old hi))) rfl ?_;rintro _ _ ⟨_,⟨rfl,rfl⟩,rfl⟩;refine Z_5 ?_;refine Zra ?_;exact de
open Go
set_option maxRecDepth 100000 in
set_option maxHeartbeats 0 in
theorem uD:joinedFacts checked.prog 7 f7 Rows.topHaltsSpec Rows.topHaltsRow=true:=by
 unfold joinedFacts
 repeat refine andI ?_ Wq6
 as_aux_lemma=>kernel_rfl
set_option maxHeartbeats 0 in
theorem wx:f7.isInstance checked.prog Rows.topHaltsRow.origin Rows.topHaltsRow.targs:=of_decide_eq_true (by kernel_rfl)
set_option maxHeartbeats 0 in
theorem wu:f7.isWrapper checked.prog Rows.topHaltsRow.wrapper Rows.topHaltsRow.mainSum:=of_decide_eq_true (by kernel_rfl)
set_option maxHeartbeats 0 in
theorem uC:checked.prog.funcNamed Rows.topHaltsRow.func=some 7:=by kernel_rfl
theorem fa{W:World}(h:laidMetH prog Rows.topHaltsRow.laid W):iG W:=
 kj (t:=262) (e:=5) (Ni:=uy) h (MakeChecks.laidMetH_plain _ _ _ Wq6) rfl (g:=0) Wq6 Wq6 Wq6 Wq6 Wq6 rfl gS
theorem i7(os:Os)(args:Array Value):laidMetH prog Rows.topHaltsRow.laid ((World.doorLaid prog 400 os).forCall (λ_ _=>0) ⟨#[],args,[]⟩).memory:=
 laidMetH_of_parts3 (fuel:=8) (laidMet_of_run' 8 Wq6 Wq6) Wq6 Wq6
set_option maxRecDepth 100000 in
theorem sx(os:Os)(started:os.Started)(H:Type)(enc:TypeId×Value->H):
  ReturnsInHanded {} checked os 7 .any (λw args=>(Rows.topHaltsSpec.pre enc prog f7 [] false w args/\laidMetH prog Rows.topHaltsRow.laid w)/\sizedMet enc prog f7 (OpenSpec.ofChange Rows.topHaltsSpec) false w args) (Rows.topHaltsSpec.post enc prog f7 false true false false):=
 lz (C:=checked) (ts:=[79,22,3]) own0 started Wq6 func7
  (ChangeSpec.witness_shaped (enc:=enc) (C:=checked) (os:=os) (X:=λw _=>laidMetH prog Rows.topHaltsRow.laid w) false (World.doorLaid prog 400 os) #[.slice none 0 0,.slice none 0 0,.int .i64 0] 8 rfl (World.shaped_of_RefB Wq6 Wq6) Wq6 Wq6 Wq6 (i7 os _))
  rfl rfl rfl rfl (λds h=>by match ds,h with|[_,_,_],_=>rfl) AO Wq6 (λW vs h hx=>by
   have ht:=fa hx;obtain⟨v0,_,rfl,a0,v1,_,rfl,a1,v2,_,rfl,a2,rfl⟩:=h;obtain⟨A,c,l,rfl,hl,hr⟩:=yB a0;obtain⟨B,e,b,rfl,h1, -,hb⟩:=a1.ints (e:=5) (k:= .u8) rfl rfl rfl;obtain⟨n2,rfl,w2⟩:=a2.int (k:= .i64) rfl;exact nP (zY A B c e l b (λx hx=>Jo (hb x hx)) n2 W hl hr h1 ht))
set_option maxHeartbeats 0 in
theorem wv:Rows.TopHaltsSaid:=
 OpenClaim.holds_of_wide 7 f7 rfl rfl rfl rfl rfl rfl rfl ⟨rfl,rfl,rfl,rfl,rfl⟩ rfl rfl rfl rfl rfl uC func7 uD wx wu
  (λos started H enc _=>sx os started H enc)
set_option maxHeartbeats 0 in
theorem topHalts_holds:Rows.TopHaltsCardSaid:=
 Claim7.holds_tied_plain_at .later [] [.data] true Rows.topHaltsCard.stood.harness false
  wv (λ_ h=>by cases h) Wq6 (λ_ h=>by cases h) topHalts_row_tie rfl ⟨rfl,rfl⟩ Wq6 rfl
  (λf fn hf hfn=>by
   obtain rfl:f=7:=ay ((show prog.funcNamed "innkeeper/innkeepertop.TopHalts" =some 7 by as_aux_lemma=>kernel_rfl).symm.trans hf)|>.symm
   obtain rfl:fn=f7:=(ay (func7.symm.trans hfn)).symm;exact⟨by as_aux_lemma=>kernel_rfl,λj t ht=>by
    have hm:t∈f7.params.toList:=by simpa using Array.mem_of_getElem? ht
    have hall:(f7.params.toList.all λu=> !prog.wantsStandIn u)=true:=by as_aux_lemma=>kernel_rfl
    exact(show prog.wantsStandIn t=false by simpa using bo.1 hall t hm)⟩)
  Wq6
#print axioms topHalts_holds
end Go.Proofs.YtkegldppffignaaGreatDoor
