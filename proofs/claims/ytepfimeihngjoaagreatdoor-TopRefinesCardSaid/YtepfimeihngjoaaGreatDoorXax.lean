/- Lemmas. -/
import Derived.Test.YtepfimeihngjoaaGreatDoorXat
set_option linter.all false
set_option maxRecDepth 100000
set_option maxHeartbeats 4000000
namespace Go.Ink
open List renaming length→J, replicate→R9
open IntKind renaming wrap→V9
open Go.RowKit Go.Proofs.Tryz
section
attribute [local irreducible] Ve bN
section
variable(S:Wj)(l:List HI)(fix:Li)(X:VX)
theorem cone_ok(hl:J l<=12000)(n:Nat)(op dst xa xb imm:Int)(hn:n<J S.pl.reg)(hn2:n<J S.pl.slot)(hab:(op==3)=true\/(op==4)=true->∃na nb:Nat,xa=na/\xb=nb/\(na<J S.pl.reg/\na<J S.pl.slot)/\(nb<J S.pl.reg/\nb<J S.pl.slot))(w:World)(hi:Inv w (bM (UX S l fix X)) (UX S l fix X) w)(hK:∀w',dc (bM (UX S l fix X)) w w'->NX S w'):
  UW prog 234 [.p S.b,.i n,.agg #[.i op,.i dst,.i xa,.i xb,.w imm]] w (UX S l fix X) (λr9 cs=>∃l' X',l'=l++rA S.p.SW S.p.SZ S.pl n ⟨op,dst,xa,xb,imm⟩/\cs=UX S l' (fix) X'):=by
 have gA:=kq S.pl xa 7;have gB:=kq S.pl xb 8;have aA:=ud imm (eQ S.pl n 9) (eQ S.pl xa 7) (eQ S.pl xb 8);have fA:=Cb imm (eQ S.pl xa 7) (eQ S.pl xb 8);refine Vb func234 ntmps234 hi ?_;refine An ?_;refine ZO λb5=>?_;refine UU ?_;refine dH (UX S l fix X) (λw hi hin=>cto_ok S l fix X O n hn w hin (λw' hk=>hK w' (hi.TC Zi hk))) ?_;rintro _ _ ⟨rfl,l1,X1,hl1,rfl⟩;refine UN ?_;refine cj (λq:List HI×VX=>[(0,.p S.b),(1,.i n),(6,.i (eQ S.pl n 9))]) (λq=>UX S q.1 fix q.2) (λq=>J q.1<=J l+30/\q.1++jv S.pl n (eQ S.pl n 9)=l++rA S.p.SW S.p.SZ S.pl n ⟨op,dst,xa,xb,imm⟩) ?_ ?_
 .refine Ab ?_ ?_<;>intro hc3
  .refine UQ ?_;refine dH (UX S l1 fix X1) (λw hi hin=>mn S l1 fix X1 bZ (eQ S.pl n 9) imm w hin) ?_;rintro _ _ ⟨l2,X2,hl2,rfl⟩;refine An ?_;refine VM (((l2,X2):List HI×VX)) ⟨by grind,by simp only[hl1,hl2,rA,ah,ac,aw,aU,aR,aD,hc3]⟩
  refine UH ?_ ?_<;>intro hc5
  .refine Wq475 ?_;refine UE 5 1 ?_;refine Wq375 ?_;refine Γ ?_;refine jm I I (dh (UX S l1 fix X1) I (λ_ _=>I) Zi (λw hi hin=>Ct S l1 fix X1 bZ (eQ S.pl n 9) 14 (V9 .u32 (4+S.p.SW - 1 - imm)) w hin)) (λ_=>by rintro _ _ ⟨_,⟨l2,X2,hl2,rfl⟩,rfl⟩;exact bP (t:=366) Zh) I ?_;rintro _ _ ⟨_,⟨l2,X2,hl2,rfl⟩,rfl⟩;refine fh ?_;refine Zo (VM (((l2,X2):List HI×VX)) ⟨by grind,by simp only[hl1,hl2,rA,ah,ac,aw,aU,aR,aD,hc3,hc5]⟩)
  refine UH ?_ ?_<;>intro hc7
  .refine Wq475 ?_;refine UE 5 2 ?_;refine Wq375 ?_;refine Γ ?_;refine jm I I (dh (UX S l1 fix X1) I (λ_ _=>I) Zi (λw hi hin=>Ct S l1 fix X1 bZ (eQ S.pl n 9) 13 (V9 .u32 (20+S.p.SZ - 1 - imm)) w hin)) (λ_=>by rintro _ _ ⟨_,⟨l2,X2,hl2,rfl⟩,rfl⟩;exact bP (t:=366) Zh) I ?_;rintro _ _ ⟨_,⟨l2,X2,hl2,rfl⟩,rfl⟩;refine fh ?_;refine Zo (VM (((l2,X2):List HI×VX)) ⟨by grind,by simp only[hl1,hl2,rA,ah,ac,aw,aU,aR,aD,hc3,hc5,hc7]⟩)
  refine UH ?_ ?_<;>intro hc9
  .obtain⟨na,nb,rfl,rfl,⟨h1,h2⟩,h3,h4⟩:=hab (Or.inl hc9);refine Zs (bQ (WM [3,7] (m5 b5 [.i op,.i dst,.i na,.i nb,.w imm])) Zk ?_);refine ZE 0 ?_;refine UE 1 2 ?_;refine eY 2 I Zk Zk Zk (bO ir py) (dx I) (bP (t:=366) Zh) I (Wq177 ?_);rintro _ _ ⟨_,⟨rfl,l2,X2,hl2,rfl⟩,rfl⟩;refine Wq254 ?_;rintro _ _ ⟨_,⟨rfl,l3,X3,hl3,rfl⟩,rfl⟩;refine ZE 8 ?_;refine ZE 9 ?_;refine fh ?_;refine Va ?_;refine dH (UX S l3 fix X3) (λw hi hin=>M5 S l3 fix X3 bZ imm (eQ S.pl n 9) (eQ S.pl na 7) (eQ S.pl nb 8) w hin) ?_;rintro _ _ ⟨l4,X4,hl4,rfl⟩;refine An ?_;refine VM (((l4,X4):List HI×VX)) ⟨by grind,by simp only[hl1,hl2,hl3,hl4,rA,ah,ac,aw,aU,aR,aD,hc3,hc5,hc7,hc9]⟩
  refine UH ?_ ?_<;>intro hc12
  .obtain⟨na,nb,rfl,rfl,⟨h1,h2⟩,h3,h4⟩:=hab (Or.inr hc12);refine Zs (bQ (WM [3,7] (m5 b5 [.i op,.i dst,.i na,.i nb,.w imm])) Zk ?_);refine ZE 0 ?_;refine UE 1 2 ?_;refine eY 2 I Zk Zk Zk (bO ir py) (dx I) (bP (t:=366) Zh) I (Wq177 ?_);rintro _ _ ⟨_,⟨rfl,l2,X2,hl2,rfl⟩,rfl⟩;refine Wq254 ?_;rintro _ _ ⟨_,⟨rfl,l3,X3,hl3,rfl⟩,rfl⟩;refine ZE 8 ?_;refine ZE 9 ?_;refine fh ?_;refine Va ?_;refine dH (UX S l3 fix X3) (λw hi hin=>QF S l3 fix X3 bZ imm (eQ S.pl na 7) (eQ S.pl nb 8) w hin) ?_;rintro _ _ ⟨l4,X4,hl4,rfl⟩;refine UU ?_;refine wF ?_;rintro _ _ ⟨b93,rfl,rfl⟩;refine dH (UX S l4 fix X4) (λw hi hin=>lG S l4 fix X4 bZ [⟨2,eQ S.pl n 9,10,0,0⟩] (sA b93) 1 cJ w hin (λw' hk=>cY (hi.TM Zi (UJ (slv 370 5 (sA b93) 1 1 ([⟨2,eQ S.pl n 9,10,0,0⟩].flatMap HI.cells))) hk))) ?_;rintro _ _ ⟨l5,X5,hl5,rfl⟩;refine An ?_;refine VM (((l5,X5):List HI×VX)) ⟨by grind,by simp only[hl1,hl2,hl3,hl4,hl5,rA,ah,ac,aw,aU,aR,aD,hc3,hc5,hc7,hc9,hc12]⟩
  refine An ?_;refine VM (((l1,X1):List HI×VX)) ⟨by grind,by simp only[hl1,rA,ah,ac,aw,aU,aR,aD,hc3,hc5,hc7,hc9,hc12]⟩
 rintro⟨m9,s9⟩ ⟨hs8,hs9⟩;dsimp only at hs8 hs9|-;refine UK ?_;refine dH (UX S m9 fix s9) (λw hi hin=>QB S m9 fix s9 O n (eQ S.pl n 9) hn hn2 w hin (λw' hk=>hK w' (hi.TC Zi hk))) ?_;rintro _ _ ⟨l21,X21,hl21,rfl⟩;refine Zn (io (cs':=UX S l21 fix X21) (.inr I) Zu I ?_);exact⟨l21,X21,bZ,I⟩
end
section
variable(S:Wj)(l:List HI)(fix:Li)(X:VX)
theorem cend_ok(hl:J l<=10000)(hfl:0<=S.p.flags->∃n:Nat,S.p.flags=n/\n<J S.pl.reg/\n<J S.pl.slot)(htg:0<=S.p.target->∃n:Nat,S.p.target=n/\n<J S.pl.reg/\n<J S.pl.slot)(w:World)(hi:Inv w (bM (UX S l fix X)) (UX S l fix X) w)(hK:∀w',dc (bM (UX S l fix X)) w w'->NX S w'):
  UW prog 236 [.p S.b] w (UX S l fix X) (λr9 cs=>∃l' X',l'=l++tY S.p S.pl (J l)/\cs=UX S l' (fix) X'):=by
 have gF:=xR S.p S.pl;have gG:=kq S.pl S.p.flags 7;have gH:=kq S.pl S.p.target 7;refine Vb func236 ntmps236 hi ?_;refine cj (λq:List HI×VX=>[(0,.p S.b)]) (λq=>UX S q.1 fix q.2) (λq=>q.1=l++gY S.p S.pl) ?_ ?_
 .refine oU ?_ ?_<;>intro hc0
  .have hf:=hfl bZ;refine UN ?_;refine dH (UX S l fix X) (λw hi hin=>mn S l fix X O 11 15 w hin) ?_;rintro _ _ ⟨l1,X1,hl1,rfl⟩;refine gP ?_;refine dH (UX S l1 fix X1) (λw hi hin=>Gp S l1 fix X1 bZ S.p.flags 7 hf w hin (λw' hk=>hK w' (hi.TC Zi hk))) ?_;rintro _ _ ⟨rfl,l2,X2,hl2,rfl⟩;refine dH (UX S l2 fix X2) (λw hi hin=>gZ S l2 fix X2 bZ 5 11 11 (eQ S.pl S.p.flags 7) w hin) ?_;rintro _ _ ⟨l3,X3,hl3,rfl⟩;refine UK ?_;refine dH (UX S l3 fix X3) (λw hi hin=>x0 S l3 fix X3 bZ 15 1 11 w hin) ?_;rintro _ _ ⟨l4,X4,hl4,rfl⟩;refine Zn (VM (((l4,X4):List HI×VX)) ?_);simp only[hl1,hl2,hl3,hl4,gY,hc0,ah,ac,aw,aU,aR,aD]
  refine Zc (VM (((l,X):List HI×VX)) ?_);simp only[gY,hc0,ah,ac,aw,aU,aR,aD]
 rintro⟨m1,s1⟩ hm1;dsimp only at hm1|-;have bm1:J m1<=J l+4:=bZ;refine Va ?_;refine dH (UX S m1 fix s1) (λw hi hin=>mn S m1 fix s1 O 9 S.p.next w hin) ?_;rintro _ _ ⟨l11,X11,hl11,rfl⟩;refine An ?_;refine cj (λq:List HI×VX=>[(0,.p S.b)]) (λq=>UX S q.1 fix q.2) (λq=>q.1=l11++iJ S.p (J l11)) ?_ ?_
 .refine oU ?_ ?_<;>intro hc5
  .refine US ?_;refine UZ (λw hi=>PQ S.p.branch w) ?_;refine eL ?_;refine dH (UX S l11 fix X11) (λw hi hin=>Ct S l11 fix X11 bZ 11 15 1 w hin) ?_;rintro _ _ ⟨l12,X12,hl12,rfl⟩;refine UU ?_;refine dH (UX S l12 fix X12) (λw hi hin=>mn S l12 fix X12 bZ 12 (ib S.p.branch) w hin) ?_;rintro _ _ ⟨l13,X13,hl13,rfl⟩;refine UQ ?_;refine dH (UX S l13 fix X13) (λw hi hin=>gZ S l13 fix X13 bZ 5 11 11 12 w hin) ?_;rintro _ _ ⟨l14,X14,hl14,rfl⟩;refine UK ?_;have b14:J l14<=20000:=bZ;refine UQ ?_;refine mT ?_;refine mU ?_;refine ZA ?_;refine ZN λb4=>?_
   refine ZM ?_;refine An ?_;refine cj (λ_:Unit=>[(0,.p S.b),(4,.p b4)]) (λ_=>[row S.b (rR S (J l14) (J fix) X14) 362,W7 X14.Al X14.cl l14,sl .i64 3 X14.Af (J fix) X14.cf fix,row b4 [.i (bif j4 S.p.branch then 16 else 17),.i 0,.i 11,.i 0,.w (V9 .u32 ((J l14:Int)+2))] 370]) (λ_=>True) ?_ ?_
   .refine UH ?_ ?_<;>intro hc11
    .have hjs:j4 S.p.branch=false:=bZ;rw[hjs,ac];refine jO ?_;refine Zn (Vd (()) gh)
    have hjs:j4 S.p.branch=true:=bZ;rw[hjs,ah];refine Zc (Vd (()) gh)
   intro s hs;refine UK ?_;refine wF ?_;rintro _ _ ⟨b66,rfl,rfl⟩;refine dH (UX S l14 fix X14) (λw hi hin=>lG S l14 fix X14 O [⟨bif j4 S.p.branch then 16 else 17,0,11,0,V9 .u32 ((J l14:Int)+2)⟩] (sA b66) 1 cJ w hin (λw' hk=>cY (hi.TM Zi (UJ (slv 370 5 (sA b66) 1 1 ([⟨bif j4 S.p.branch then 16 else 17,0,11,0,V9 .u32 ((J l14:Int)+2)⟩].flatMap HI.cells))) hk))) ?_;rintro _ _ ⟨l15,X15,hl15,rfl⟩;refine U8 ?_;refine dH (UX S l15 fix X15) (λw hi hin=>mn S l15 fix X15 bZ 9 S.p.taken w hin) ?_;rintro _ _ ⟨l16,X16,hl16,rfl⟩;refine Zn (VM (((l16,X16):List HI×VX)) (br_eq hl12 hl13 hl14 hl15 hl16 hc5))
  refine Zc (VM (((l11,X11):List HI×VX)) ?_);simp only[hl11,iJ,hc5,ah,ac,aw,aU,aR,aD]
 rintro⟨m2,s2⟩ hm2;dsimp only at hm2|-;have gB:=wg S.p (J l11);have bm2:J m2<=J l+20:=bZ;refine cj (λq:List HI×VX=>[(0,.p S.b)]) (λq=>UX S q.1 fix q.2) (λq=>q.1=m2++jW S.p S.pl) ?_ ?_
 .refine oU ?_ ?_<;>intro hc15
  .have ht:=htg bZ;refine Va ?_;refine dH (UX S m2 fix s2) (λw hi hin=>Gp S m2 fix s2 O S.p.target 7 ht w hin (λw' hk=>hK w' (hi.TC Zi hk))) ?_;rintro _ _ ⟨rfl,l21,X21,hl21,rfl⟩;refine ZA ?_;refine wF ?_;rintro _ _ ⟨b90,rfl,rfl⟩;refine dH (UX S l21 fix X21) (λw hi hin=>lG S l21 fix X21 bZ [⟨2,9,eQ S.pl S.p.target 7,0,0⟩] (sA b90) 1 cJ w hin (λw' hk=>cY (hi.TM Zi (UJ (slv 370 5 (sA b90) 1 1 ([⟨2,9,eQ S.pl S.p.target 7,0,0⟩].flatMap HI.cells))) hk))) ?_;rintro _ _ ⟨l22,X22,hl22,rfl⟩;refine Zn (VM (((l22,X22):List HI×VX)) ?_);simp only[hl21,hl22,jW,hc15,ah,ac,aw,aU,aR,aD]
  refine Zc (VM (((m2,s2):List HI×VX)) ?_);simp only[jW,hc15,ah,ac,aw,aU,aR,aD]
 rintro⟨m3,s3⟩ hm3;dsimp only at hm3|-;have gT:=uE S.p S.pl;have bm3:J m3<=J l+30:=bZ;refine UN ?_;refine dH (UX S m3 fix s3) (λw hi hin=>x0 S m3 fix s3 O 15 0 9 w hin) ?_;rintro _ _ ⟨l31,X31,hl31,rfl⟩;refine eL ?_;refine mU ?_;refine dH (UX S l31 fix X31) (λw hi hin=>mn S l31 fix X31 bZ 11 (V9 .u32 S.p.count) w hin) ?_;rintro _ _ ⟨l32,X32,hl32,rfl⟩;refine UQ ?_;refine dH (UX S l32 fix X32) (λw hi hin=>x0 S l32 fix X32 bZ 15 36 11 w hin) ?_;rintro _ _ ⟨l33,X33,hl33,rfl⟩;refine UQ ?_;refine wF ?_;rintro _ _ ⟨b106,rfl,rfl⟩;refine dH (UX S l33 fix X33) (λw hi hin=>lG S l33 fix X33 bZ [⟨19,0,0,0,1⟩] (sA b106) 1 cJ w hin (λw' hk=>cY (hi.TM Zi (UJ (slv 370 5 (sA b106) 1 1 ([⟨19,0,0,0,1⟩].flatMap HI.cells))) hk))) ?_;rintro _ _ ⟨l34,X34,hl34,rfl⟩;refine Zn (io (cs':=UX S l34 fix X34) (.inr I) Zu I ?_);exact⟨l34,X34,(end_eq hm1 hl11 hm2 hm3 hl31 hl32 hl33 hl34),I⟩
end
variable{α:Type}{f:α->Bool}{l:List α}{k:Nat}{x:α}
theorem pY(a b:Int)(w:World):CW prog 337 [.i a,.i b] w (.bool (sS a b)):=by
 refine UV func337 ntmps337 ?_;refine wn ?_;refine Wl ?_;exact⟨by unfold sS;grind,rfl⟩
theorem Bc(w:World):CW prog 296 [.i 7] w (.bool true):=by
 refine UV func296 ntmps296 ?_;exact WW
theorem Qt(A:Oa)(c:Nat)(l:Li)(hl:J l<=100)(w:World)(h:Rd w .i64 A (J l) c l):CW prog 335 [.slice A (J l) c] w (.bool (vU l)):=by
 refine UV func335 ntmps335 ?_;refine kF ?_;refine Vs (λk:Nat=>[(5,.slice A (J l) c),(6,.i (J l)),(7,.i (k:Int))]) (λ_=>[]) (λk=>k<=J l/\(l.take k).all (λn=>decide (0<=n)&&decide (n<=16))=true) (λk=>J l - k) (0) bZ ?_;rintro k ⟨hk,ha⟩;refine UH ?_ ?_<;>intro hc2
 .simp only[ai]at hc2;obtain⟨ad,rfl⟩:=h.some_ O;obtain⟨x,hx⟩:∃x,l[k]? =some x:=⟨_,ak (show k<J l by omega)⟩;refine UU ?_;refine GA ?_;refine dZ (bO ir py) (dK h (cw hx)) I (Ab ?_ ?_)<;>intro hc4
  .have hf:(λn:Int=>decide (0<=n)&&decide (n<=16)) x=false:=bZ;refine nY ?_;exact⟨by unfold vU;grind,rfl⟩
  have hf:(λn:Int=>decide (0<=n)&&decide (n<=16)) x=true:=bZ;refine ii ?_;refine VM (k+1) ⟨⟨by omega,Gz hx ha hf⟩,by omega⟩
 simp only[aa]at hc2;obtain rfl:k=J l:=by omega
 rw[List.take_length]at ha;refine nY ?_;exact⟨by unfold vU;rw[ha],rfl⟩
theorem PY(p:Pg)(Q:Xu)(i:Nat)(x:II)(hx:p.code[i]? =some x)(him:0<=x.imm/\x.imm<=4294967295)(hd:0<=p.SW/\p.SW<=16)(hr:0<=p.SZ/\p.SZ<=16)(w:World)(h:U5 w 5 Q.Ac (J p.code) Q.cc (p.code.flatMap II.cells)):
  CW prog 336 [XP p Q,.i i] w (.bool (kO p.SW p.SZ i x)):=by
 have hil:i<J p.code:=by
  rcases Nat.lt_or_ge i (J p.code) with h9|h9
  .exact h9
  grind
 obtain⟨ad,had⟩:=h.some_ O;rw[had]at h;obtain⟨op,dst,xa,xb,imm⟩:=x;obtain⟨hi1,hi2⟩:=him;obtain⟨hd1,hd2⟩:=hd;obtain⟨hr1,hr2⟩:=hr;dsimp only at hi1 hi2;refine UV func336 ntmps336 ?_;refine An ?_;refine ZO λb2=>?_;refine Va ?_;refine Zy (iy (j:=i) had I ir py py ir (λ_=>hil)) ?_;refine dZ (bX (vs:=[.i op,.i dst,.i xa,.i xb,.w imm]) ir ir py) (fB h (λj v hj=>fw (f:=II.cells) ir (i:=j) hx hj)) I ?_;refine ZN λb5=>?_
 refine ZM ?_;refine yh ?_ ?_<;>intro hc2
 .refine wv ?_;exact⟨by simp only[kO,hc2,ah],rfl⟩
 refine US ?_;refine dC gj (.cons py (.cons py .nil)) (λ_ _=>I) (λhg w hi=>pY xa i w) I (UK ?_);refine dC (bS I I) (.cons (cO I) (.cons (cO I) .nil)) (λ_ _=>I) (λhg w hi=>pY xb i w) I (jS ?_);refine yh ?_ ?_<;>intro hc7
 .refine jP ?_;exact⟨by simp only[kO,hc2,hc7,ah,ac]<;>cases xa==0<;>cases xb==0<;>rfl,rfl⟩
 refine UH ?_ ?_<;>intro hc9
 .refine UU ?_;refine I4 ?_;refine An ?_;refine I4 ?_;refine fS ?_;exact⟨by simp only[kO,hc2,hc7,hc9,ah,ac]<;>cases xa==0<;>cases xb==0<;>cases decide (imm<p.SW)<;>rfl,rfl⟩
 refine UH ?_ ?_<;>intro hc11
 .refine UU ?_;refine I4 ?_;refine An ?_;refine I4 ?_;refine fS ?_;exact⟨by simp only[kO,hc2,hc7,hc9,hc11,ah,ac]<;>cases xa==0<;>cases xb==0<;>cases decide (imm<p.SZ)<;>rfl,rfl⟩
 refine UH ?_ ?_<;>intro hc13
 .refine Jm ?_;refine Wl ?_;exact⟨by simp only[kO,hc2,hc7,hc9,hc11,hc13,ah,ac]<;>cases sS xa i<;>cases sS xb i<;>cases decide (16<=imm)<;>cases decide (imm<=23)<;>rfl,rfl⟩
 refine UH ?_ ?_<;>intro hc15
 .refine jS ?_;refine UK ?_;refine Wl ?_;exact⟨by simp only[kO,hc2,hc7,hc9,hc11,hc13,hc15,ah,ac]<;>cases sS xa i<;>cases sS xb i<;>cases decide (16<=imm)<;>cases decide (imm<=23)<;>cases imm==25<;>rfl,rfl⟩
 refine jP ?_;exact⟨by simp only[kO,hc2,hc7,hc9,hc11,hc13,hc15,ah,ac],rfl⟩
theorem vu(p:Pg)(Q:Xu)(hf:tJ p)(w:World)(h:GC p Q w):CW prog 295 [XP p Q] w (.bool p.Tf):=by
 have hv1:(p.values !=(J p.code:Int))=false:=by rw[hf.Tv];simp
 have hv2:decide (64<p.values)=false:=by rw[hf.Tv];have:=hf.Tq;simp;omega
 have hv3:p.values=J p.code:=hf.Tv;have hm64:=hf.Tq;have hoD:=hf.S9;have hoR:=hf.Ta;have himm:=hf.imm;have hrc:=h.code;have hrD:=h.S9;have hrR:=h.Ta;refine UV func295 ntmps295 ?_;refine An ?_;refine ZO λb1=>?_;refine wn ?_;rw[hv1,hv2];refine Va ?_;refine gm (bR I I) I (ky I I ir ir I I) I ?_;rintro _ _ ⟨b28,rfl,rfl⟩;refine dC (bR I I) (.cons (cO I) .nil) (λ_ _=>I) (λhg w hi=>Qt (sA b28) 4 [p.SW,p.SZ,p.Tw,p.Tx] cJ w (hi.rd (UJ (slv 3 1 (sA b28) 4 4 (ints .i64 [p.SW,p.SZ,p.Tw,p.Tx]))))) I (uf ?_ ?_)<;>intro hc1
 .have hok:p.TJ=false:=(by unfold Pg.TJ;grind);refine wv ?_;exact⟨by unfold Pg.Tf;grind,rfl⟩
 have hok:p.TJ=true:=(by unfold Pg.TJ;grind);have hnn:(0<=p.SW/\p.SW<=16)/\(0<=p.SZ/\p.SZ<=16):=(by have:=hok;unfold Pg.TJ vU at this;grind);refine fR ?_;refine Vs (λk:Nat=>[(1,.p b1),(43,.slice Q.Ac (J p.code) Q.cc),(44,.i (J p.code)),(45,.i (k:Int))]) (λ_=>[row b1 (jZ p Q) 308]) (λk=>k<=J p.code/\jA p.SW p.SZ (p.code.take k) 0=true) (λk=>J p.code - k) (0) ⟨ax _,I⟩ ?_;rintro k ⟨hk,ha⟩;refine UH ?_ ?_<;>intro hc4
 .simp only[ai]at hc4;obtain⟨x,hx⟩:∃x,p.code[k]? =some x:=⟨_,ak (show k<J p.code by omega)⟩;refine kF ?_;refine UZ (λw hi=>PY p Q k x hx (himm x (aG hx)) hnn.1 hnn.2 w (hrc.Tb hi)) ?_;refine VP ?_ ?_<;>intro hc6
  .have hm:kO p.SW p.SZ (0+k) x=false:=bZ;refine nY ?_;exact⟨by unfold Pg.Tf;rw[ye _ 0 _ hx hm,bo,bH],rfl⟩
  have hm:kO p.SW p.SZ (0+k) x=true:=bZ;refine ii ?_;refine VM (k+1) ⟨⟨by omega,sQ _ 0 k hx ha hm⟩,by omega⟩
 simp only[aa]at hc4;obtain rfl:k=J p.code:=by omega
 rw[List.take_length]at ha;refine fR ?_;refine jQ ?_;rintro _ _ ⟨b57,rfl,rfl⟩;refine UQ ?_;refine Vs (λk:Nat=>[(1,.p b1),(57,.slice (sA b57) 2 2),(58,.i 2),(59,.i (k:Int))]) (λ_=>[row b1 (jZ p Q) 308,slv 23 1 (sA b57) 2 2 [.slice Q.Ad (J p.S9) Q.cd,.slice Q.Ar (J p.Ta) Q.cr]]) (λk=>k<=2/\([p.S9,p.Ta].take k).all (λl=>l.all λn=>sS n (J p.code))=true) (λk=>2 - k) (0) bZ ?_;rintro k2 ⟨hk2,ha2⟩;refine UH ?_ ?_<;>intro hc10
 .simp only[ai]at hc10;obtain⟨A1,c1,l1,hx1,hx2,hR1,hb1⟩:∃(A1:Oa) (c1:Nat) (l1:Li),[Value.slice Q.Ad (J p.S9) Q.cd,.slice Q.Ar (J p.Ta) Q.cr][k2]? =some (.slice A1 (J l1) c1)/\[p.S9,p.Ta][k2]? =some l1/\Rd w .i64 A1 (J l1) c1 l1/\J l1<=100:=bZ;refine Wq509 ?_;refine Vs (λk:Nat=>[(1,.p b1),(57,.slice (sA b57) 2 2),(58,.i 2),(59,.i (k2:Int)),(63,.slice A1 (J l1) c1),(64,.i (J l1)),(65,.i (k:Int))]) (λ_=>[row b1 (jZ p Q) 308,slv 23 1 (sA b57) 2 2 [.slice Q.Ad (J p.S9) Q.cd,.slice Q.Ar (J p.Ta) Q.cr]]) (λk=>k<=J l1/\(l1.take k).all (λn=>sS n (J p.code))=true) (λk=>J l1 - k) (0) bZ ?_;rintro k3 ⟨hk3,ha3⟩;refine UH ?_ ?_<;>intro hc13
  .simp only[ai]at hc13;obtain⟨ad,rfl⟩:=hR1.some_ O;obtain⟨x,hx⟩:∃x,l1[k3]? =some x:=⟨_,ak (show k3<J l1 by omega)⟩;refine UU ?_;refine Zy (cZ (j:=k3) I ir (Zv I) (Zv I) UL UL) ?_;refine dZ (bO ir py) (dK hR1 (cw hx)) I (Va ?_);refine UZ (λw hi=>pY x p.values w) ?_;refine VP ?_ ?_<;>intro hc15
   .have hm:sS x (J p.code)=false:=bZ;refine nW ?_;refine Wl ?_;exact⟨by have h9:=SF (f:=λl:List Int=>l.all λn=>sS n (J p.code)) hx2 (SF hx hm);unfold Pg.Tf;grind,rfl⟩
   have hm:sS x (J p.code)=true:=bZ;refine ii ?_;refine VM (k3+1) ⟨⟨by omega,Gz hx ha3 hm⟩,by omega⟩
  simp only[aa]at hc13;obtain rfl:k3=J l1:=by omega
  rw[List.take_length]at ha3;refine US ?_;refine W8 ?_;refine VM (k2+1) bZ
 simp only[aa]at hc10;obtain rfl:k2=2:=by omega
 refine oO ?_;refine dC (bS I I) (.cons (cO I) (.cons (cO I) .nil)) (λ_ _=>I) (λhg w hi=>pY p.flags p.values w) I (gP ?_);refine dC (fQ I I) (.cons (cO I) (.cons (cO I) .nil)) (λ_ _=>I) (λhg w hi=>pY p.target p.values w) I (Wh ?_ ?_)<;>intro hc19
 .refine wv ?_;exact⟨by have h9:p.TI=false:=(by unfold Pg.TI;grind);unfold Pg.Tf;grind,rfl⟩
 refine jS ?_;refine UU ?_;refine Wl ?_;exact⟨by have h9:p.TI=(p.branch==0||((decide (33<=p.branch)&&decide (p.branch<=37))&&p.target== -1)):=(by unfold Pg.TI;grind);simp only[List.take,List.all_cons,List.all_nil,Bool.and_true,ay]at ha2;unfold Pg.Tf;rw[hok,ha,ha2.1,ha2.2,h9];cases p.branch==0<;>cases decide (33<=p.branch)<;>cases decide (p.branch<=37)<;>cases p.target== -1<;>rfl,rfl⟩
theorem jL(h:l[k]? =some x):l.drop k=x::l.drop (k+1):=by
 grind [Nat.lt_or_ge,List.drop_eq_getElem_cons,List.getElem?_eq_getElem,Option.some.inj,List.getElem?_eq_none]
variable{n c:Nat}{xs:List Value}
theorem OW{w0:World}{S:List Nat}{cs:List bJ}{j:Nat}{ad:Addr}{v:Value}(h:∀w,Inv w0 S cs w->U5 w 1 (some ad) n c xs)(hv:xs[j]? =some v):∀w,Inv w0 S cs w->cells [(ad.add (j*1),v)] w:=λw hi z hz=>by
 rw[aX]at hz;subst hz;rw[Nat.mul_one];exact(h w hi).at_ ad I j v hv
theorem GC.Tb{p:Pg}{Q:Xu}{w0 w:World}{cs:List bJ}(h:GC p Q w0)(hi:Inv w0 [] cs w):GC p Q w:=⟨h.code.Tb hi,h.S9.Tb hi,h.Ta.Tb hi⟩
end
end Go.Ink
