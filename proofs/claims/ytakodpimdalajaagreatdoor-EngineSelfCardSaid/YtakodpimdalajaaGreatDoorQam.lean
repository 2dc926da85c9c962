/- Lemmas. -/
import Derived.Test.YtakodpimdalajaaGreatDoorQaa
import Derived.Test.YtakodpimdalajaaGreatDoorQab
import Derived.Test.YtakodpimdalajaaGreatDoorQah
import Derived.Test.YtakodpimdalajaaGreatDoorQal
set_option linter.unusedSimpArgs false
set_option linter.unusedVariables false
set_option maxRecDepth 100000
set_option maxHeartbeats 4000000
namespace Go.Proofs.YtakodpimdalajaaGreatDoor
open Go.RowKit Go.Ink Go.Proofs.Tryz
attribute [local irreducible] OpY bU
theorem hi_eq(i:HI):EqV prog 10000 298 (hiv i) (hiv i):=
 .struct rfl Zk (EqF.cons (by decide) Zrf Zrf (.int rfl) (EqF.cons (by decide) Zrf Zrf (.int rfl) (EqF.cons (by decide) Zrf Zrf (.int rfl) (EqF.cons (by decide) Zrf Zrf (.int rfl) (EqF.cons (by decide) Zrf Zrf (.int rfl) EqF.nil)))))
theorem Gl:prog.eqGuardType prog.depth 298=false:=by kernel_rfl
theorem GQ(i:HI)(w:World):Ctr prog 265 [hiv i] w [] (fun v cs=>v= .tuple #[hiv (eo i).1,.bool (eo i).2]∧cs=[]):=by
 refine bL func265 rfl ntmps265 rfl (Inv.start w) ?_;refine Z_2 ?_;refine ZO fun b1=>?_;refine ZN fun b2=>?_
 refine Z_8 ?_;refine ZN fun b4=>?_
 refine ZM ?_;refine gQ ?_;refine ZW ?_ ?_<;>intro hc3
 ·refine Z_6 ?_;refine ZM ?_;refine Z_4 ?_;refine dZ (cs':=[]) (.inl rfl) Zu rfl rfl rfl Zh Zrf Zrf ?_;refine⟨?_,rfl⟩;simp only[eo, *,ac,aa]
  try exact rfl
 refine Z_8 ?_;refine ZW ?_ ?_<;>intro hc4
 ·refine bX ⟨fun j=>List.elem j [5,7],[]⟩ Zk ?_;refine ZFe 0 1 ?_;refine ZG 1 ?_;refine ZFe 2 4 ?_;refine ZFe 4 1 ?_;refine jY 3 5 Zk ?_ ?_
  ·refine eK rfl (bO Zrf Zv0) (bS Zh rfl) rfl ?_;refine cw 5 Zk ?_;refine ZQ ?_;refine ZFe 6 4 ?_;refine cw 7 Zk ?_;refine ZQ ?_;refine bN Zk ?_;refine Z_5 ?_;refine ZM ?_;refine Z_4 ?_;refine dZ (cs':=[]) (.inl rfl) Zu rfl rfl rfl Zh Zrf Zrf ?_;refine⟨?_,rfl⟩;simp only[eo, *,ac,aa]
   try exact rfl
  refine ZQ ?_;refine ZG 3 ?_;refine ZFe 6 4 ?_;refine cw 7 Zk ?_;refine ZQ ?_;refine bN Zk ?_;refine Z_5 ?_;refine ZM ?_;refine Z_4 ?_;refine dZ (cs':=[]) (.inl rfl) Zu rfl rfl rfl Zh Zrf Zrf ?_;refine⟨?_,rfl⟩;simp only[eo, *,ac,aa]
  try exact rfl
 refine Z_8 ?_;refine ZW ?_ ?_<;>intro hc6
 ·refine bX ⟨fun j=>List.elem j [5,7],[]⟩ Zk ?_;refine ZFe 0 1 ?_;refine ZG 1 ?_;refine ZFe 2 2 ?_;refine ZFe 4 1 ?_;refine jY 3 5 Zk ?_ ?_
  ·refine eK rfl (bO Zrf Zv0) (bS Zh rfl) rfl ?_;refine cw 5 Zk ?_;refine ZQ ?_;refine ZFe 6 2 ?_;refine cw 7 Zk ?_;refine ZQ ?_;refine bN Zk ?_;refine Z_5 ?_;refine ZM ?_;refine Z_4 ?_;refine dZ (cs':=[]) (.inl rfl) Zu rfl rfl rfl Zh Zrf Zrf ?_;refine⟨?_,rfl⟩;simp only[eo, *,ac,aa]
   try exact rfl
  refine ZQ ?_;refine ZG 3 ?_;refine ZFe 6 2 ?_;refine cw 7 Zk ?_;refine ZQ ?_;refine bN Zk ?_;refine Z_5 ?_;refine ZM ?_;refine Z_4 ?_;refine dZ (cs':=[]) (.inl rfl) Zu rfl rfl rfl Zh Zrf Zrf ?_;refine⟨?_,rfl⟩;simp only[eo, *,ac,aa]
  try exact rfl
 refine jT ?_;refine ZW ?_ ?_<;>intro hc8
 ·refine bX ⟨fun j=>List.elem j [7,9,11],[]⟩ Zk ?_;refine ZFe 0 1 ?_;refine ZG 1 ?_;refine ZFe 2 2 ?_;refine ZFe 4 3 ?_;refine ZFe 6 1 ?_;refine wa_3 3 5 7 Zk ?_ ?_ ?_
  ·refine eK rfl (bO Zrf Zv0) (bS Zh rfl) rfl ?_;refine jY 5 7 Zk ?_ ?_
   ·refine eK rfl (bO Zrf Zv0) (bS Zh rfl) rfl ?_;refine cw 7 Zk ?_;refine ZQ ?_;refine ZFe 8 2 ?_;refine cw 9 Zk ?_;refine ZQ ?_;refine ZFe 10 3 ?_;refine cw 11 Zk ?_;refine ZQ ?_;refine bN Zk ?_;refine Z_5 ?_;refine ZM ?_;refine Z_4 ?_;refine dZ (cs':=[]) (.inl rfl) Zu rfl rfl rfl Zh Zrf Zrf ?_;refine⟨?_,rfl⟩;simp only[eo, *,ac,aa]
    try exact rfl
   refine ZQ ?_;refine ZFe 8 2 ?_;refine jY 5 9 Zk ?_ ?_
   ·refine eK rfl (bO Zrf Zv0) (bS Zh rfl) rfl ?_;refine cw 9 Zk ?_;refine ZQ ?_;refine ZFe 10 3 ?_;refine cw 11 Zk ?_;refine ZQ ?_;refine bN Zk ?_;refine Z_5 ?_;refine ZM ?_;refine Z_4 ?_;refine dZ (cs':=[]) (.inl rfl) Zu rfl rfl rfl Zh Zrf Zrf ?_;refine⟨?_,rfl⟩;simp only[eo, *,ac,aa]
    try exact rfl
   refine ZQ ?_;refine ZG 5 ?_;refine ZFe 10 3 ?_;refine cw 11 Zk ?_;refine ZQ ?_;refine bN Zk ?_;refine Z_5 ?_;refine ZM ?_;refine Z_4 ?_;refine dZ (cs':=[]) (.inl rfl) Zu rfl rfl rfl Zh Zrf Zrf ?_;refine⟨?_,rfl⟩;simp only[eo, *,ac,aa]
   try exact rfl
  ·refine eK rfl (bO Zrf Zv0) (bS Zh rfl) rfl ?_;refine jY 3 7 Zk ?_ ?_
   ·refine eK rfl (bO Zrf Zv0) (bS Zh rfl) rfl ?_;refine cw 7 Zk ?_;refine ZQ ?_;refine ZFe 8 2 ?_;refine cw 9 Zk ?_;refine ZQ ?_;refine ZFe 10 3 ?_;refine cw 11 Zk ?_;refine ZQ ?_;refine bN Zk ?_;refine Z_5 ?_;refine ZM ?_;refine Z_4 ?_;refine dZ (cs':=[]) (.inl rfl) Zu rfl rfl rfl Zh Zrf Zrf ?_;refine⟨?_,rfl⟩;simp only[eo, *,ac,aa]
    try exact rfl
   refine ZQ ?_;refine ZG 3 ?_;refine ZFe 8 2 ?_;refine cw 9 Zk ?_;refine ZQ ?_;refine ZFe 10 3 ?_;refine cw 11 Zk ?_;refine ZQ ?_;refine bN Zk ?_;refine Z_5 ?_;refine ZM ?_;refine Z_4 ?_;refine dZ (cs':=[]) (.inl rfl) Zu rfl rfl rfl Zh Zrf Zrf ?_;refine⟨?_,rfl⟩;simp only[eo, *,ac,aa]
   try exact rfl
  refine ZQ ?_;refine ZG 3 ?_;refine ZFe 8 2 ?_;refine jY 5 9 Zk ?_ ?_
  ·refine eK rfl (bO Zrf Zv0) (bS Zh rfl) rfl ?_;refine cw 9 Zk ?_;refine ZQ ?_;refine ZFe 10 3 ?_;refine cw 11 Zk ?_;refine ZQ ?_;refine bN Zk ?_;refine Z_5 ?_;refine ZM ?_;refine Z_4 ?_;refine dZ (cs':=[]) (.inl rfl) Zu rfl rfl rfl Zh Zrf Zrf ?_;refine⟨?_,rfl⟩;simp only[eo, *,ac,aa]
   try exact rfl
  refine ZQ ?_;refine ZG 5 ?_;refine ZFe 10 3 ?_;refine cw 11 Zk ?_;refine ZQ ?_;refine bN Zk ?_;refine Z_5 ?_;refine ZM ?_;refine Z_4 ?_;refine dZ (cs':=[]) (.inl rfl) Zu rfl rfl rfl Zh Zrf Zrf ?_;refine⟨?_,rfl⟩;simp only[eo, *,ac,aa]
  try exact rfl
 refine Z_8 ?_;refine ZW ?_ ?_<;>intro hc10
 ·refine bX ⟨fun j=>List.elem j [7,9,11],[]⟩ Zk ?_;refine ZFe 0 1 ?_;refine ZG 1 ?_;refine ZFe 2 2 ?_;refine ZFe 4 4 ?_;refine ZFe 6 1 ?_;refine wa_3 3 5 7 Zk ?_ ?_ ?_
  ·refine eK rfl (bO Zrf Zv0) (bS Zh rfl) rfl ?_;refine jY 5 7 Zk ?_ ?_
   ·refine eK rfl (bO Zrf Zv0) (bS Zh rfl) rfl ?_;refine cw 7 Zk ?_;refine ZQ ?_;refine ZFe 8 2 ?_;refine cw 9 Zk ?_;refine ZQ ?_;refine ZFe 10 4 ?_;refine cw 11 Zk ?_;refine ZQ ?_;refine bN Zk ?_;refine Z_5 ?_;refine ZM ?_;refine Z_4 ?_;refine dZ (cs':=[]) (.inl rfl) Zu rfl rfl rfl Zh Zrf Zrf ?_;refine⟨?_,rfl⟩;simp only[eo, *,ac,aa]
    try exact rfl
   refine ZQ ?_;refine ZFe 8 2 ?_;refine jY 5 9 Zk ?_ ?_
   ·refine eK rfl (bO Zrf Zv0) (bS Zh rfl) rfl ?_;refine cw 9 Zk ?_;refine ZQ ?_;refine ZFe 10 4 ?_;refine cw 11 Zk ?_;refine ZQ ?_;refine bN Zk ?_;refine Z_5 ?_;refine ZM ?_;refine Z_4 ?_;refine dZ (cs':=[]) (.inl rfl) Zu rfl rfl rfl Zh Zrf Zrf ?_;refine⟨?_,rfl⟩;simp only[eo, *,ac,aa]
    try exact rfl
   refine ZQ ?_;refine ZG 5 ?_;refine ZFe 10 4 ?_;refine cw 11 Zk ?_;refine ZQ ?_;refine bN Zk ?_;refine Z_5 ?_;refine ZM ?_;refine Z_4 ?_;refine dZ (cs':=[]) (.inl rfl) Zu rfl rfl rfl Zh Zrf Zrf ?_;refine⟨?_,rfl⟩;simp only[eo, *,ac,aa]
   try exact rfl
  ·refine eK rfl (bO Zrf Zv0) (bS Zh rfl) rfl ?_;refine jY 3 7 Zk ?_ ?_
   ·refine eK rfl (bO Zrf Zv0) (bS Zh rfl) rfl ?_;refine cw 7 Zk ?_;refine ZQ ?_;refine ZFe 8 2 ?_;refine cw 9 Zk ?_;refine ZQ ?_;refine ZFe 10 4 ?_;refine cw 11 Zk ?_;refine ZQ ?_;refine bN Zk ?_;refine Z_5 ?_;refine ZM ?_;refine Z_4 ?_;refine dZ (cs':=[]) (.inl rfl) Zu rfl rfl rfl Zh Zrf Zrf ?_;refine⟨?_,rfl⟩;simp only[eo, *,ac,aa]
    try exact rfl
   refine ZQ ?_;refine ZG 3 ?_;refine ZFe 8 2 ?_;refine cw 9 Zk ?_;refine ZQ ?_;refine ZFe 10 4 ?_;refine cw 11 Zk ?_;refine ZQ ?_;refine bN Zk ?_;refine Z_5 ?_;refine ZM ?_;refine Z_4 ?_;refine dZ (cs':=[]) (.inl rfl) Zu rfl rfl rfl Zh Zrf Zrf ?_;refine⟨?_,rfl⟩;simp only[eo, *,ac,aa]
   try exact rfl
  refine ZQ ?_;refine ZG 3 ?_;refine ZFe 8 2 ?_;refine jY 5 9 Zk ?_ ?_
  ·refine eK rfl (bO Zrf Zv0) (bS Zh rfl) rfl ?_;refine cw 9 Zk ?_;refine ZQ ?_;refine ZFe 10 4 ?_;refine cw 11 Zk ?_;refine ZQ ?_;refine bN Zk ?_;refine Z_5 ?_;refine ZM ?_;refine Z_4 ?_;refine dZ (cs':=[]) (.inl rfl) Zu rfl rfl rfl Zh Zrf Zrf ?_;refine⟨?_,rfl⟩;simp only[eo, *,ac,aa]
   try exact rfl
  refine ZQ ?_;refine ZG 5 ?_;refine ZFe 10 4 ?_;refine cw 11 Zk ?_;refine ZQ ?_;refine bN Zk ?_;refine Z_5 ?_;refine ZM ?_;refine Z_4 ?_;refine dZ (cs':=[]) (.inl rfl) Zu rfl rfl rfl Zh Zrf Zrf ?_;refine⟨?_,rfl⟩;simp only[eo, *,ac,aa]
  try exact rfl
 refine Z_8 ?_;refine ZW ?_ ?_<;>intro hc12
 ·refine bX ⟨fun j=>List.elem j [7,9,11],[]⟩ Zk ?_;refine ZFe 0 2 ?_;refine ZG 1 ?_;refine ZFe 2 3 ?_;refine ZFe 4 4 ?_;refine ZFe 6 2 ?_;refine wa_3 3 5 7 Zk ?_ ?_ ?_
  ·refine eK rfl (bO Zrf Zv0) (bS Zh rfl) rfl ?_;refine jY 5 7 Zk ?_ ?_
   ·refine eK rfl (bO Zrf Zv0) (bS Zh rfl) rfl ?_;refine cw 7 Zk ?_;refine ZQ ?_;refine ZFe 8 3 ?_;refine cw 9 Zk ?_;refine ZQ ?_;refine ZFe 10 4 ?_;refine cw 11 Zk ?_;refine ZQ ?_;refine bN Zk ?_;refine Z_5 ?_;refine ZM ?_;refine Z_4 ?_;refine dZ (cs':=[]) (.inl rfl) Zu rfl rfl rfl Zh Zrf Zrf ?_;refine⟨?_,rfl⟩;simp only[eo, *,ac,aa]
    try exact rfl
   refine ZQ ?_;refine ZFe 8 3 ?_;refine jY 5 9 Zk ?_ ?_
   ·refine eK rfl (bO Zrf Zv0) (bS Zh rfl) rfl ?_;refine cw 9 Zk ?_;refine ZQ ?_;refine ZFe 10 4 ?_;refine cw 11 Zk ?_;refine ZQ ?_;refine bN Zk ?_;refine Z_5 ?_;refine ZM ?_;refine Z_4 ?_;refine dZ (cs':=[]) (.inl rfl) Zu rfl rfl rfl Zh Zrf Zrf ?_;refine⟨?_,rfl⟩;simp only[eo, *,ac,aa]
    try exact rfl
   refine ZQ ?_;refine ZG 5 ?_;refine ZFe 10 4 ?_;refine cw 11 Zk ?_;refine ZQ ?_;refine bN Zk ?_;refine Z_5 ?_;refine ZM ?_;refine Z_4 ?_;refine dZ (cs':=[]) (.inl rfl) Zu rfl rfl rfl Zh Zrf Zrf ?_;refine⟨?_,rfl⟩;simp only[eo, *,ac,aa]
   try exact rfl
  ·refine eK rfl (bO Zrf Zv0) (bS Zh rfl) rfl ?_;refine jY 3 7 Zk ?_ ?_
   ·refine eK rfl (bO Zrf Zv0) (bS Zh rfl) rfl ?_;refine cw 7 Zk ?_;refine ZQ ?_;refine ZFe 8 3 ?_;refine cw 9 Zk ?_;refine ZQ ?_;refine ZFe 10 4 ?_;refine cw 11 Zk ?_;refine ZQ ?_;refine bN Zk ?_;refine Z_5 ?_;refine ZM ?_;refine Z_4 ?_;refine dZ (cs':=[]) (.inl rfl) Zu rfl rfl rfl Zh Zrf Zrf ?_;refine⟨?_,rfl⟩;simp only[eo, *,ac,aa]
    try exact rfl
   refine ZQ ?_;refine ZG 3 ?_;refine ZFe 8 3 ?_;refine cw 9 Zk ?_;refine ZQ ?_;refine ZFe 10 4 ?_;refine cw 11 Zk ?_;refine ZQ ?_;refine bN Zk ?_;refine Z_5 ?_;refine ZM ?_;refine Z_4 ?_;refine dZ (cs':=[]) (.inl rfl) Zu rfl rfl rfl Zh Zrf Zrf ?_;refine⟨?_,rfl⟩;simp only[eo, *,ac,aa]
   try exact rfl
  refine ZQ ?_;refine ZG 3 ?_;refine ZFe 8 3 ?_;refine jY 5 9 Zk ?_ ?_
  ·refine eK rfl (bO Zrf Zv0) (bS Zh rfl) rfl ?_;refine cw 9 Zk ?_;refine ZQ ?_;refine ZFe 10 4 ?_;refine cw 11 Zk ?_;refine ZQ ?_;refine bN Zk ?_;refine Z_5 ?_;refine ZM ?_;refine Z_4 ?_;refine dZ (cs':=[]) (.inl rfl) Zu rfl rfl rfl Zh Zrf Zrf ?_;refine⟨?_,rfl⟩;simp only[eo, *,ac,aa]
   try exact rfl
  refine ZQ ?_;refine ZG 5 ?_;refine ZFe 10 4 ?_;refine cw 11 Zk ?_;refine ZQ ?_;refine bN Zk ?_;refine Z_5 ?_;refine ZM ?_;refine Z_4 ?_;refine dZ (cs':=[]) (.inl rfl) Zu rfl rfl rfl Zh Zrf Zrf ?_;refine⟨?_,rfl⟩;simp only[eo, *,ac,aa]
  try exact rfl
 refine jT ?_;refine ZW ?_ ?_<;>intro hc14
 ·refine bX ⟨fun j=>List.elem j [5,7],[]⟩ Zk ?_;refine ZFe 0 2 ?_;refine ZG 1 ?_;refine ZFe 2 4 ?_;refine ZFe 4 2 ?_;refine jY 3 5 Zk ?_ ?_
  ·refine eK rfl (bO Zrf Zv0) (bS Zh rfl) rfl ?_;refine cw 5 Zk ?_;refine ZQ ?_;refine ZFe 6 4 ?_;refine cw 7 Zk ?_;refine ZQ ?_;refine bN Zk ?_;refine Z_5 ?_;refine ZM ?_;refine Z_4 ?_;refine dZ (cs':=[]) (.inl rfl) Zu rfl rfl rfl Zh Zrf Zrf ?_;refine⟨?_,rfl⟩;simp only[eo, *,ac,aa]
   try exact rfl
  refine ZQ ?_;refine ZG 3 ?_;refine ZFe 6 4 ?_;refine cw 7 Zk ?_;refine ZQ ?_;refine bN Zk ?_;refine Z_5 ?_;refine ZM ?_;refine Z_4 ?_;refine dZ (cs':=[]) (.inl rfl) Zu rfl rfl rfl Zh Zrf Zrf ?_;refine⟨?_,rfl⟩;simp only[eo, *,ac,aa]
  try exact rfl
 refine jT ?_;refine ZW ?_ ?_<;>intro hc16
 ·refine Z_4 ?_;refine ZL ?_;refine Z_6 ?_;refine ZM ?_;refine Z_4 ?_;refine dZ (cs':=[]) (.inl rfl) Zu rfl rfl rfl Zh Zrf Zrf ?_;refine⟨?_,rfl⟩;simp only[eo, *,ac,aa]
  try exact rfl
 refine Z_3 ?_;refine ZM ?_;refine Z_6 ?_;refine dZ (cs':=[]) (.inl rfl) Zu rfl rfl rfl Zh Zrf Zrf ?_;refine⟨?_,rfl⟩;simp only[eo, *,ac,aa]
 try exact rfl
theorem xV(n:Int)(w:World):Ctr prog 266 [.int .i64 n] w [] (fun v cs=>v= .bool (decide (0≤n)&&decide (n<16))∧cs=[]):=by
 refine bL func266 rfl ntmps266 rfl (Inv.start w) ?_;refine vg ?_;refine Zra ?_;exact⟨rfl,rfl⟩
theorem wq(i:HI)(h:i.I0)(w:World):Ctr prog 236 [hiv i] w [] (fun v cs=>v= .bool true∧cs=[]):=by
 have HA:=GQ i;rw[h.asked]at HA;have hreg:∀n:Int,0≤n∧n≤15→(decide (0≤n)&&decide (n<16))=true:=fun n hn=>by rw[aB hn.1,aB (show n<16 by omega)];rfl
 have e1:=hreg _ h.rd;have e2:=hreg _ h.ra;have e3:=hreg _ h.rb;have R1:=xV i.rd;have R2:=xV i.ra;have R3:=xV i.rb;rw[e1]at R1;rw[e2]at R2;rw[e3]at R3;refine bL func236 rfl ntmps236 rfl (Inv.start w) ?_;refine Z_2 ?_;refine ZO fun b1=>?_;refine Z_6 ?_;refine ZSe (fun w hi=>HA w) ?_;refine Z_3 ?_;refine ZN fun b3=>?_
 refine ZM ?_;refine Z_7 ?_;refine iM (cu rfl rfl) Zh Zrf Zrf (Zv rfl) rfl ?_;refine iM (cu rfl rfl) Zh Zrf Zrf (Zv rfl) rfl ?_;refine Zyy rfl rfl (y_eqlT Gl (hi_eq i) (dQ rfl) (dQ rfl)) ?_;refine Z_4 ?_;refine jm (cu rfl rfl) rfl (gU rfl (fun _ _=>rfl) (fun w hi=>R1 w)) rfl ?_;rintro _ _ ⟨_,⟨rfl,rfl⟩,rfl⟩;refine Z_4 ?_;refine jm (cu rfl rfl) rfl (gU rfl (fun _ _=>rfl) (fun w hi=>R2 w)) rfl ?_;rintro _ _ ⟨_,⟨rfl,rfl⟩,rfl⟩;refine Z_4 ?_;refine jm (cu rfl rfl) rfl (gU rfl (fun _ _=>rfl) (fun w hi=>R3 w)) rfl ?_;rintro _ _ ⟨_,⟨rfl,rfl⟩,rfl⟩;refine Z_5 ?_;refine Zra ?_;exact⟨rfl,rfl⟩
abbrev hiC(A:Option Addr)(c:Nat)(l:List HI):bJ:=slv 298 5 A l.length c (l.flatMap HI.cells)
theorem hi_snoc{A:Option Addr}{c:Nat}{l:List HI}{i:HI}:slv 298 5 A (l.length+1) c (l.flatMap HI.cells++i.cells)=hiC A c (l++[i]):=by
 show _=slv _ _ _ _ _ _;rw[ae,List.flatMap_append];simp
theorem yY(A:Option Addr)(c:Nat)(l:List HI)(hg:gc l)(hl:l.length≤100000)(w:World)(h:RdV w 5 A l.length c (l.flatMap HI.cells)):
  Ctr prog 175 [.slice A l.length c] w [] (fun v cs=>∃A' c',v= .tuple #[.slice A' (cJ l).length c',.int .i64 0]∧cs=[sl .u8 5 A' (cJ l).length c' (cJ l)]):=by
 refine bL func175 rfl ntmps175 rfl (Inv.start w) ?_;refine iG ?_;refine dC 5 1 ?_;refine Z_6 ?_;refine cG (fun q:Nat×Option Addr×Nat=>[(4,.slice q.2.1 (cJ (l.take q.1)).length q.2.2),(7,.slice A l.length c),(8,.int .i64 l.length),(9,.int .i64 (q.1:Int))]) (fun q=>[sl .u8 5 q.2.1 (cJ (l.take q.1)).length q.2.2 (cJ (l.take q.1))]) (fun q=>q.1≤l.length) (fun q=>l.length - q.1) (⟨0,none,0⟩) ?_ ?_ ?_ ?_
 ·exact ax _
 ·exact Zwk
 ·exact Zu
 rintro⟨k,A1,c1⟩ hk;dsimp only at hk⊢;refine Z_6 ?_;refine ZW ?_ ?_<;>intro hc3
 ·simp only[ap]at hc3;obtain⟨ad,rfl⟩:=h.some_ (by omega);obtain⟨i,hx⟩:∃i,l[k]? =some i:=⟨_,ao (show k<l.length by omega)⟩;have hgi:=hg i (aJ hx);have htk:l.take (k+1)=l.take k++[i]:=(by rw[List.take_add_one,hx];rfl);have hlk:(cJ (l.take k)).length≤800000:=(by rw[iU,aF];omega);obtain⟨o1,o2⟩:=hgi.op;obtain⟨a1,a2⟩:=hgi.rd;obtain⟨p1,p2⟩:=hgi.ra;obtain⟨q1,q2⟩:=hgi.rb;obtain⟨m1,m2⟩:=hgi.imm;have HR:=wq i hgi;have hbe:pS i=[i.op,i.rd,i.ra,i.rb,i.imm%256,i.imm/256%256,i.imm/65536%256,i.imm/16777216%256]:=rfl;have hbs:cJ (l.take (k+1))=cJ (l.take k)++pS i:=(by rw[htk,xW]);have hcl:i.cells=[.int .i64 i.op,.int .i64 i.rd,.int .i64 i.ra,.int .i64 i.rb,.int .u32 i.imm]:=rfl;obtain⟨op,rd,ra,rb,im⟩:=i;dsimp only at o1 o2 a1 a2 p1 p2 q1 q2 m1 m2 hbe hcl;refine Z_6 ?_;refine Zy (dx (j:=k) rfl Zrf (Zv rfl) (Zv rfl) (fun _=>by omega) (fun _=>by omega)) ?_;refine dX (cB (vs:=[.int .i64 op,.int .i64 rd,.int .i64 ra,.int .i64 rb,.int .u32 im]) Zrf Zrf Zv0) (fV h (fun j v hj=>fP (f:=HI.cells) Zrf (i:=j) hx hj)) rfl ?_;refine ZN fun b6=>?_
  refine ZM ?_;refine Z_6 ?_;refine ZSe (fun w hi=>HR w) ?_;refine Z_3 ?_;refine bV rfl (rfl) ?_;refine Z_6 ?_;refine Zy (ce rfl rfl (Zv rfl) (by first|exact IntWalk.u8_in _ ⟨by omega,by omega⟩|exact rfl)) ?_;refine Z_2 ?_;refine Zy (ce rfl rfl (Zv rfl) (by first|exact IntWalk.u8_in _ ⟨by omega,by omega⟩|exact rfl)) ?_;refine Z_2 ?_;refine Zy (ce rfl rfl (Zv rfl) (by first|exact IntWalk.u8_in _ ⟨by omega,by omega⟩|exact rfl)) ?_;refine Z_2 ?_;refine Zy (ce rfl rfl (Zv rfl) (by first|exact IntWalk.u8_in _ ⟨by omega,by omega⟩|exact rfl)) ?_;refine Z_2 ?_;refine Zy (ce rfl rfl (Zv rfl) (show IntKind.u8.wrap im=im%256 from by rw[IntKind.wrap_u8])) ?_;refine Z_2 ?_;refine Zy (jw (Zv rfl) (Zv rfl) (by omega) (show _=im/256 from by show im.fdiv 256=_;rw[Int.fdiv_eq_ediv_of_nonneg _ (by decide)])) ?_;refine Zy (ce rfl rfl (Zv rfl) (show IntKind.u8.wrap (im/256)=im/256%256 from by rw[IntKind.wrap_u8])) ?_;refine Z_2 ?_;refine Zy (jw (Zv rfl) (Zv rfl) (by omega) (show _=im/65536 from by show im.fdiv 65536=_;rw[Int.fdiv_eq_ediv_of_nonneg _ (by decide)])) ?_;refine Zy (ce rfl rfl (Zv rfl) (show IntKind.u8.wrap (im/65536)=im/65536%256 from by rw[IntKind.wrap_u8])) ?_;refine Z_2 ?_;refine Zy (jw (Zv rfl) (Zv rfl) (by omega) (show _=im/16777216 from by show im.fdiv 16777216=_;rw[Int.fdiv_eq_ediv_of_nonneg _ (by decide)])) ?_;refine Zy (ce rfl rfl (Zv rfl) (show IntKind.u8.wrap (im/16777216)=im/16777216%256 from by rw[IntKind.wrap_u8])) ?_;refine dJ (bZ rfl rfl Zrf Zrf rfl rfl) rfl ?_;rintro _ _ ⟨b44,rfl,rfl⟩;refine dJ (cW (e:=5) (sz:=1) (bytes:=1) rfl rfl Za rfl rfl (fun w hi=>hi.rd (show Has _ (slv 5 1 (some ⟨b44,0,none⟩) 8 8 (ints .u8 (pS ⟨op,rd,ra,rb,im⟩)))from Zh)) cY (by simp only[maxLen];omega) (by omega)) rfl ?_;rintro _ _ ⟨A2,c2,rfl,rfl⟩;rw[cH,←hbs,show(cJ (l.take k)).length+8=(cJ (l.take (k+1))).length from by rw[hbs,ae];rfl];refine Z_5 ?_;refine Zy (cy Zv0 Zv0 Zl) ?_;refine Z_2 ?_;refine cq ((⟨k+1,A2,c2⟩:Nat×Option Addr×Nat)) ?_ ?_ ?_
  ·exact⟨by omega,by omega⟩
  ·exact Zwk
  exact Zj
 simp only[aj]at hc3;obtain rfl:k=l.length:=by omega
 rw[bG];refine jT ?_;refine ft (cs':=[slv _ _ _ _ _ _]) (.inl rfl) Zu rfl rfl rfl ?_;exact⟨_,_,rfl,rfl⟩
end Go.Proofs.YtakodpimdalajaaGreatDoor
namespace Go.Ink
open Go.RowKit
def r64(l:List Int):Prop:=∀x,x∈l→0≤x∧x≤18446744073709551615
theorem qb{l:List Int}(h:r64 l)(n:Nat):0≤l.getD n 0∧l.getD n 0≤18446744073709551615:=by
 rw[aw];by_cases hn:n<l.length
 ·rw[ao hn];exact h _ (List.getElem_mem hn)
 rw[List.getElem?_eq_none (by omega)];exact⟨by decide,by decide⟩
structure HM.ok(m:HM):Prop where
 rl:m.Ix.length=16
 wl:m.words.length=256
 r:r64 m.Ix
 w:wds m.words
 pc:0≤m.pc
theorem xM{l:List Int}{n:Nat}{v x:Int}(h:x∈l.set n v):x∈l∨x=v:=List.mem_or_eq_of_mem_set h
theorem Ab{op a b:Int}(ha:0≤a∧a≤18446744073709551615)(hb:0≤b∧b≤18446744073709551615):0≤eN op a b∧eN op a b≤18446744073709551615:=by
 have hw:∀z:Int,0≤IntKind.u64.wrap z∧IntKind.u64.wrap z≤18446744073709551615:=fun z=>by rw[aU];omega
 have ht:∀c:Bool,0≤b2i c∧b2i c≤18446744073709551615:=fun c=>by cases c<;>decide
 obtain⟨x,rfl⟩:∃x:Nat,a=x:=ar ha.1;obtain⟨y,rfl⟩:∃y:Nat,b=y:=ar hb.1;have hx:x<18446744073709551616:=by omega
 have hy:y<18446744073709551616:=by omega
 have h1:x&&&y≤x:=Nat.and_le_left;have h2:x|||y<2^64:=Nat.or_lt_two_pow hx hy
 have h3:x^^^y<2^64:=Nat.xor_lt_two_pow hx hy;have bp:∀{c:Bool} {u v:Int},(0≤u∧u≤18446744073709551615)→(0≤v∧v≤18446744073709551615)→0≤(bif c then u else v)∧(bif c then u else v)≤18446744073709551615:=fun{c u v} h k=>by cases c;exact k;exact h
 have hsh:0≤(x:Int).fdiv (2^(min ((y:Int)).toNat IntKind.u64.bits))∧(x:Int).fdiv (2^(min ((y:Int)).toNat IntKind.u64.bits))≤18446744073709551615:=by
  rw[aQ,Int.fdiv_eq_ediv_of_nonneg _ (by exact Int.le_of_lt (Int.pow_pos (by decide)))];have e:((x:Int)/2^(min y IntKind.u64.bits))=((x/2^(min y IntKind.u64.bits):Nat):Int):=by simp
  have h4:x/2^(min y IntKind.u64.bits)≤x:=Nat.div_le_self _ _;rw[e];obtain⟨q,hq⟩:=Zgn (x/2^(min y IntKind.u64.bits));rw[hq]at h4⊢;omega
 unfold eN;exact bp ha (bp (hw _) (bp (hw _) (bp (by rw[Ek hx hy];omega) (bp (by rw[or64 hx hy];omega) (bp (by rw[zA hx hy];omega) (bp (hw _) (bp hsh (bp (hw _) (bp (bp ⟨by omega,by omega⟩ (hw _)) (bp (ht _) (ht _)))))))))))
theorem hdo_ok{i:HI}{m:HM}(hi:i.I0)(h:m.ok):(hdo i m).2.ok:=by
 have hset:∀(n:Nat) (v:Int),(0≤v∧v≤18446744073709551615)→HM.ok ⟨m.Ix.set n v,m.words,m.pc+1⟩:=fun n v hv=>
  ⟨by show(m.Ix.set n v).length=16;rw[aI,h.rl],h.wl,fun x hx=>by rcases xM hx with q|q;exact h.r x q;rw[q];exact hv,h.w,by have:=h.pc;show 0≤m.pc+1;omega⟩
 have hnx:HM.ok ⟨m.Ix,m.words,m.pc+1⟩:=⟨h.rl,h.wl,h.r,h.w,by have:=h.pc;show 0≤m.pc+1;omega⟩;obtain⟨i1,i2⟩:=hi.imm;unfold hdo;cases i.op==0 with
 |true=>exact hnx
 |false=>cases i.op==1 with
  |true=>exact hset _ _ ⟨i1,by omega⟩
  |false=>cases i.op==14||i.op==15 with
   |true=>
    cases decide ((m.words.length:Int)≤nX m.Ix i)with
    |true=>exact h
    |false=>cases i.op==14 with
     |true=>exact hset _ _ (by have:=iu h.w (nX m.Ix i).toNat;omega)
     |false=>exact⟨h.rl,by show(m.words.set _ _).length=256;rw[aI,h.wl],h.r,fun x hx=>by rcases xM hx with q|q;exact h.w x q;rw[q];exact Bf _,by have:=h.pc;show 0≤m.pc+1;omega⟩
   |false=>cases i.op==16||i.op==17 with
    |true=>
     refine⟨h.rl,h.wl,h.r,h.w,?_⟩;show 0≤(bif(rg m.Ix i.ra==0)==(i.op==16)then i.imm else m.pc+1);have:=h.pc;cases(rg m.Ix i.ra==0)==(i.op==16)with
     |true=>exact i1
     |false=>show 0≤m.pc+1;omega
    |false=>cases i.op==18 with
     |true=>exact⟨h.rl,h.wl,h.r,h.w,i1⟩
     |false=>cases i.op==19 with
      |true=>exact h
      |false=>exact hset _ _ (Ab (qb h.r _) (qb h.r _))
theorem yW{C:List HI}{m:HM}(hC:gc C)(h:m.ok):(Im C m).2.ok:=by
 unfold Im;cases hd:decide (m.pc<0)||decide ((C.length:Int)≤m.pc)with
 |true=>exact h
 |false=>
  simp only[bj,aj]at hd;have hlt:m.pc.toNat<C.length:=by omega
  refine hdo_ok (hC _ ?_) h;rw[aw,ao hlt];exact List.getElem_mem hlt
abbrev iT(R:List Int)(bw:Nat)(Ac:Option Addr)(n cc:Nat)(pc:Int):List Value:=ints .u64 R++[.slice (some ⟨bw,0,none⟩) 256 256,.slice Ac n cc,.int .i64 pc]
section
variable {R:List Int} {bw n cc:Nat} {Ac:Option Addr} {pc:Int}
theorem Hv(h:R.length=16):(iT R bw Ac n cc pc).length=19:=by simp[ints,h]
theorem hm_at(h:R.length=16)(k:Nat):(iT R bw Ac n cc pc)[16+k]? =[Value.slice (some ⟨bw,0,none⟩) 256 256,.slice Ac n cc,.int .i64 pc][k]? :=by
 rw[bF (by simp[ints,h]),cO,h];congr 1;omega
theorem Dq(h:R.length=16):(iT R bw Ac n cc pc)[16]? =some (.slice (some ⟨bw,0,none⟩) 256 256):=hm_at h 0
theorem hm_c(h:R.length=16):(iT R bw Ac n cc pc)[17]? =some (.slice Ac n cc):=hm_at h 1
theorem hm_p(h:R.length=16):(iT R bw Ac n cc pc)[18]? =some (.int .i64 pc):=hm_at h 2
theorem hm_r(h:R.length=16){k:Nat}(hk:k<16):(iT R bw Ac n cc pc)[k]? =some (.int .u64 (R.getD k 0)):=by
 rw[bD (by simp[ints,h];exact hk),qh (by omega),aw,ao (by omega)];rfl
theorem uQ(h:R.length=16){k:Nat}(hk:k<16)(v:Int):(iT R bw Ac n cc pc).set k (.int .u64 v)=iT (R.set k v) bw Ac n cc pc:=by
 show(ints .u64 R++_).set k _=ints .u64 (R.set k v)++_;rw[List.set_append_left _ _ (by simp[ints,h];exact hk)];simp[ints,List.map_set]
theorem iS(h:R.length=16)(p:Int):(iT R bw Ac n cc pc).set 18 (.int .i64 p)=iT R bw Ac n cc p:=by
 show(ints .u64 R++_).set 18 _=_;rw[List.set_append_right _ _ (by simp[ints,h]),cO,h];rfl
theorem hm_setc(h:R.length=16)(A:Option Addr)(m c:Nat):(iT R bw Ac n cc pc).set 17 (.slice A m c)=iT R bw A m c pc:=by
 show(ints .u64 R++_).set 17 _=_;rw[List.set_append_right _ _ (by simp[ints,h]),cO,h];rfl
end
end Go.Ink
namespace Go.Proofs.YtakodpimdalajaaGreatDoor
open Go.RowKit Go.Ink Go.Proofs.Tryz
attribute [local irreducible] OpY bU
theorem AL(A:Option Addr)(c:Nat)(i:HI)(hg:i.I0)(w:World)(h:Rd w .u8 A 8 c (pS i)):
  Ctr prog 237 [.slice A 8 c] w [] (fun v cs=>v= .tuple #[hiv i,.int .i64 0]∧cs=[]):=by
 obtain⟨ad,rfl⟩:=h.some_ (by decide);have HR:=wq i hg;obtain⟨o1,o2⟩:=hg.op;obtain⟨a1,a2⟩:=hg.rd;obtain⟨p1,p2⟩:=hg.ra;obtain⟨q1,q2⟩:=hg.rb;obtain⟨m1,m2⟩:=hg.imm;obtain⟨op,rd,ra,rb,im⟩:=i;dsimp only at o1 o2 a1 a2 p1 p2 q1 q2 m1 m2;obtain⟨m,rfl⟩:∃m:Nat,im=m:=ar m1;have hib:=Ge (show m<4294967296 by omega);have hbe:pS ⟨op,rd,ra,rb,(m:Int)⟩=[op,rd,ra,rb,((m%256:Nat):Int),((m/256%256:Nat):Int),((m/65536%256:Nat):Int),((m/16777216%256:Nat):Int)]:=rfl;rw[hbe]at h;refine bL func237 rfl ntmps237 rfl (Inv.start w) ?_;refine Z_2 ?_;refine ZN fun b2=>?_;refine eu ?_;refine bV rfl (rfl) ?_;refine Z_3 ?_;refine bX ⟨fun j=>List.elem j [40],[]⟩ Zk ?_;refine ZE 0 ?_;refine cN 1 rfl Zk Zk Zk (dx (j:=0) rfl Zrf (Zv rfl) (Zv rfl) (fun _=>by omega) (fun _=>by omega)) rfl ?_;refine eX 2 rfl Zk Zk Zk Zk (bO Zrf Zv0) (fN h (cZ (j:=0) rfl)) rfl ?_;refine cN 3 rfl Zk Zk Zk (ce rfl rfl Zv0 Zl) rfl ?_;refine ZE 4 ?_;refine cN 5 rfl Zk Zk Zk (dx (j:=1) rfl Zrf (Zv rfl) (Zv rfl) (fun _=>by omega) (fun _=>by omega)) rfl ?_;refine eX 6 rfl Zk Zk Zk Zk (bO Zrf Zv0) (fN h (cZ (j:=1) rfl)) rfl ?_;refine cN 7 rfl Zk Zk Zk (ce rfl rfl Zv0 Zl) rfl ?_;refine ZE 8 ?_;refine cN 9 rfl Zk Zk Zk (dx (j:=2) rfl Zrf (Zv rfl) (Zv rfl) (fun _=>by omega) (fun _=>by omega)) rfl ?_;refine eX 10 rfl Zk Zk Zk Zk (bO Zrf Zv0) (fN h (cZ (j:=2) rfl)) rfl ?_;refine cN 11 rfl Zk Zk Zk (ce rfl rfl Zv0 Zl) rfl ?_;refine ZE 12 ?_;refine cN 13 rfl Zk Zk Zk (dx (j:=3) rfl Zrf (Zv rfl) (Zv rfl) (fun _=>by omega) (fun _=>by omega)) rfl ?_;refine eX 14 rfl Zk Zk Zk Zk (bO Zrf Zv0) (fN h (cZ (j:=3) rfl)) rfl ?_;refine cN 15 rfl Zk Zk Zk (ce rfl rfl Zv0 Zl) rfl ?_;refine ZE 16 ?_;refine cN 17 rfl Zk Zk Zk (dx (j:=4) rfl Zrf (Zv rfl) (Zv rfl) (fun _=>by omega) (fun _=>by omega)) rfl ?_;refine eX 18 rfl Zk Zk Zk Zk (bO Zrf Zv0) (fN h (cZ (j:=4) rfl)) rfl ?_;refine cN 19 rfl Zk Zk Zk (ce rfl rfl (Zv rfl) (by first|exact IntWalk.u32_in _ ⟨by omega,by omega⟩|exact rfl)) rfl ?_;refine ZE 20 ?_;refine cN 21 rfl Zk Zk Zk (dx (j:=5) rfl Zrf (Zv rfl) (Zv rfl) (fun _=>by omega) (fun _=>by omega)) rfl ?_;refine eX 22 rfl Zk Zk Zk Zk (bO Zrf Zv0) (fN h (cZ (j:=5) rfl)) rfl ?_;refine cN 23 rfl Zk Zk Zk (ce rfl rfl (Zv rfl) (by first|exact IntWalk.u32_in _ ⟨by omega,by omega⟩|exact rfl)) rfl ?_;refine cN 24 rfl Zk Zk Zk (tS (Zv rfl) (Zv rfl) (by omega) rfl) rfl ?_;refine ZE 25 ?_;refine ZE 26 ?_;refine cN 27 rfl Zk Zk Zk (dx (j:=6) rfl Zrf (Zv rfl) (Zv rfl) (fun _=>by omega) (fun _=>by omega)) rfl ?_;refine eX 28 rfl Zk Zk Zk Zk (bO Zrf Zv0) (fN h (cZ (j:=6) rfl)) rfl ?_;refine cN 29 rfl Zk Zk Zk (ce rfl rfl (Zv rfl) (by first|exact IntWalk.u32_in _ ⟨by omega,by omega⟩|exact rfl)) rfl ?_;refine cN 30 rfl Zk Zk Zk (tS (Zv rfl) (Zv rfl) (by omega) rfl) rfl ?_;refine ZE 31 ?_;refine ZE 32 ?_;refine cN 33 rfl Zk Zk Zk (dx (j:=7) rfl Zrf (Zv rfl) (Zv rfl) (fun _=>by omega) (fun _=>by omega)) rfl ?_;refine eX 34 rfl Zk Zk Zk Zk (bO Zrf Zv0) (fN h (cZ (j:=7) rfl)) rfl ?_;refine cN 35 rfl Zk Zk Zk (ce rfl rfl (Zv rfl) (by first|exact IntWalk.u32_in _ ⟨by omega,by omega⟩|exact rfl)) rfl ?_;refine cN 36 rfl Zk Zk Zk (tS (Zv rfl) (Zv rfl) (by omega) rfl) rfl ?_;refine cN 37 rfl Zk Zk Zk (sb Zv0 Zv0 hib) rfl ?_;refine ZE 38 ?_;refine cw 39 Zk ?_;refine ZP fun b4=>?_
 refine cw 40 Zk ?_;refine ZR ?_;refine bN Zk ?_;refine Z_5 ?_;refine ZSe (fun w hi=>HR w) ?_;refine Z_3 ?_;refine bV rfl (rfl) ?_;refine Z_5 ?_;refine ZM ?_;refine Z_4 ?_;refine dZ (cs':=[]) (.inl rfl) Zu rfl rfl rfl Zh Zrf Zrf ?_;exact⟨rfl,rfl⟩
theorem hb_take(i:HI)(l:List HI):(cJ (i::l)).take 8=pS i:=by
 show(pS i++cJ l).take 8=_;exact List.take_left' rfl
theorem hb_drop(i:HI)(l:List HI):(cJ (i::l)).drop 8=cJ l:=by
 show(pS i++cJ l).drop 8=_;exact List.drop_left' rfl
theorem hall_ok(A:Option Addr)(c:Nat)(l:List HI)(hg:gc l)(hl:l.length≤100000)(w:World)(h:Rd w .u8 A (cJ l).length c (cJ l)):
  Ctr prog 179 [.slice A (cJ l).length c] w [] (fun v cs=>∃A' c',v= .tuple #[.slice A' l.length c',.int .i64 0]∧cs=[hiC A' c' l]):=by
 refine bL func179 rfl ntmps179 rfl (Inv.start w) ?_;refine Z_8 ?_;refine dC 298 5 ?_;refine Z_5 ?_;refine cG (fun q:Nat×(Option Addr×Nat)×(Option Addr×Nat)=>[(0,.slice q.2.1.1 (cJ (l.drop q.1)).length q.2.1.2),(4,.slice q.2.2.1 (l.take q.1).length q.2.2.2)]) (fun q=>[hiC q.2.2.1 q.2.2.2 (l.take q.1)]) (fun q=>q.1≤l.length∧Rd w .u8 q.2.1.1 (cJ (l.drop q.1)).length q.2.1.2 (cJ (l.drop q.1))) (fun q=>l.length - q.1) (⟨0,⟨A,c⟩,⟨none,0⟩⟩) ?_ ?_ ?_ ?_
 ·exact⟨ax _,h⟩
 ·exact Zwk
 ·exact Zu
 rintro⟨k,⟨A1,c1⟩,⟨A2,c2⟩⟩ ⟨hk,h1⟩;dsimp only at hk h1⊢;have hcap:=h1.cap;have hmx:=h1.max;simp only[maxLen]at hmx;have hlk:(l.take k).length=k:=(by rw[aF];omega);refine Z_8 ?_;refine ZW ?_ ?_<;>intro hc2
 ·simp only[ap]at hc2;have hkl:k<l.length:=(by rw[iU,bn]at hc2;omega);obtain⟨i,hx⟩:∃i,l[k]? =some i:=⟨_,ao hkl⟩;have hgi:=hg i (aJ hx);have htk:l.take (k+1)=l.take k++[i]:=(by rw[List.take_add_one,hx];rfl);have hdr:l.drop k=i::l.drop (k+1):=(by obtain⟨q1,q2⟩:=au.1 hx;rw[←q2];exact List.drop_eq_getElem_cons q1);have hn8:(cJ (l.drop k)).length=8+(cJ (l.drop (k+1))).length:=(by rw[hdr];show(pS i++_).length=_;rw[ae];rfl);have h2:=xB h1 8;rw[hdr,hb_take]at h2;have HD:=AL A1 c1 i hgi;have h3:=h1.cut (lo:=8) (hi:=(cJ (l.drop k)).length) (by omega) (aS _);have e3:((ints .u8 (cJ (l.drop k))).take (cJ (l.drop k)).length).drop 8=ints .u8 (cJ (l.drop (k+1))):=(by rw[List.take_of_length_le (by simp[ints]),hdr];show((cJ (i::l.drop (k+1))).map _).drop 8=_;rw[←List.map_drop,hb_drop];rfl);rw[e3,show(cJ (l.drop k)).length - 8=(cJ (l.drop (k+1))).length by omega]at h3;have htl:(l.take (k+1)).length=k+1:=(by rw[aF];omega);obtain⟨N,hN⟩:=Zgn ((cJ (l.drop k)).length);rw[hN]at hn8 h1 hcap⊢;refine Z_8 ?_;refine Zy (y_min (Zv rfl) (Zv rfl) (show _=((8:Nat):Int)from by split<;>omega)) ?_;refine Zy (gZ 8 rfl Zrf (Zv rfl) (Zv rfl) (fun _=>by first|rfl|omega) (fun _=>by omega)) ?_;refine ZSe (fun w hi=>HD w (h2.Iy hi)) ?_;refine Z_3 ?_;refine ZN fun b5=>?_
  refine ZM ?_;refine eJ ?_;refine bV rfl (rfl) ?_;refine Z_6 ?_;refine dJ (dh rfl rfl Zrf Zrf rfl rfl rfl) rfl ?_;rintro _ _ ⟨b24,rfl,rfl⟩;refine dJ (cW (e:=298) (sz:=5) (bytes:=40) rfl rfl Za rfl rfl (fun w hi=>hi.rd (show Has _ (slv 298 5 (some ⟨b24,0,none⟩) 1 1 i.cells)from Zh)) (iE rfl) (by simp only[maxLen];omega) (by omega)) rfl ?_;rintro _ _ ⟨A3,c3,rfl,rfl⟩;rw[hi_snoc,←htk,show(l.take k).length+1=(l.take (k+1)).length by omega];refine Z_5 ?_;refine Zy (tR (lo:=8) (hi:=N) rfl Zrf (Zv rfl) (.inr ⟨_,_,rfl,(Zv rfl)⟩) (.inl ⟨rfl,rfl⟩) (by omega) (by omega)) ?_;rw[show N - 8=(cJ (l.drop (k+1))).length from by omega];refine Z_3 ?_;refine ez ((⟨k+1,⟨if c1=8 then A1 else A1.map (·.add (8*1)),c1 - 8⟩,⟨A3,c3⟩⟩:Nat×(Option Addr×Nat)×(Option Addr×Nat))) ?_ ?_ ?_
  ·exact⟨⟨by omega,h3⟩,by omega⟩
  ·exact Zwk
  exact Zu
 simp only[aj]at hc2;obtain rfl:k=l.length:=(by rw[iU,bn]at hc2;omega);rw[bG];refine jT ?_;refine ft (cs':=[slv _ _ _ _ _ _]) (.inl rfl) Zu rfl rfl rfl ?_;exact⟨_,_,rfl,rfl⟩
theorem wn(b:Bool)(w:World):Ctr prog 267 [.bool b] w [] (fun v cs=>v= .int .u64 (b2i b)∧cs=[]):=by
 refine bL func267 rfl ntmps267 rfl (Inv.start w) ?_;refine eu ?_;refine ZW ?_ ?_<;>intro hc1
 ·subst hc1;refine Z_7 ?_;refine Zra ?_;exact⟨rfl,rfl⟩
 subst hc1;refine Z_8 ?_;refine Zra ?_;exact⟨rfl,rfl⟩
theorem AK(op a b:Int)(ha:0≤a∧a≤18446744073709551615)(hb:0≤b∧b≤18446744073709551615)(w:World):Ctr prog 238 [.int .i64 op,.int .u64 a,.int .u64 b] w [] (fun v cs=>v= .int .u64 (eN op a b)∧cs=[]):=by
 refine bL func238 rfl ntmps238 rfl (Inv.start w) ?_;refine w8 ?_;refine ZW ?_ ?_<;>intro hc2
 ·refine Z_9 ?_;refine Zra ?_;refine⟨?_,rfl⟩;simp only[eN, *,ac,aa]
 refine Z_6 ?_;refine ZW ?_ ?_<;>intro hc4
 ·refine Z_4 ?_;refine Zy (cy Zv0 Zv0 rfl) ?_;refine Z_6 ?_;refine Zra ?_;refine⟨?_,rfl⟩;simp only[eN, *,ac,aa]
 refine Z_6 ?_;refine ZW ?_ ?_<;>intro hc6
 ·refine Z_4 ?_;refine Zy (eT Zv0 Zv0 rfl) ?_;refine Z_6 ?_;refine Zra ?_;refine⟨?_,rfl⟩;simp only[eN, *,ac,aa]
 refine Z_6 ?_;refine ZW ?_ ?_<;>intro hc8
 ·refine eu ?_;refine Zra ?_;refine⟨?_,rfl⟩;simp only[eN, *,ac,aa]
 refine Z_6 ?_;refine ZW ?_ ?_<;>intro hc10
 ·refine eu ?_;refine Zra ?_;refine⟨?_,rfl⟩;simp only[eN, *,ac,aa]
 refine Z_6 ?_;refine ZW ?_ ?_<;>intro hc12
 ·refine eu ?_;refine Zra ?_;refine⟨?_,rfl⟩;simp only[eN, *,ac,aa]
 refine Z_6 ?_;refine ZW ?_ ?_<;>intro hc14
 ·refine Z_4 ?_;refine Zy (tS (Zv rfl) (Zv rfl) (by omega) rfl) ?_;refine Z_6 ?_;refine Zra ?_;refine⟨?_,rfl⟩;simp only[eN, *,ac,aa]
 refine Z_6 ?_;refine ZW ?_ ?_<;>intro hc16
 ·refine Z_4 ?_;refine Zy (jw (Zv rfl) (Zv rfl) (by omega) rfl) ?_;refine Z_6 ?_;refine Zra ?_;refine⟨?_,rfl⟩;simp only[eN, *,ac,aa]
 refine Z_6 ?_;refine ZW ?_ ?_<;>intro hc18
 ·refine Z_4 ?_;refine Zy (iH Zv0 Zv0 rfl) ?_;refine Z_6 ?_;refine Zra ?_;refine⟨?_,rfl⟩;simp only[eN, *,ac,aa]
 refine Z_6 ?_;refine ZW ?_ ?_<;>intro hc20
 ·refine Z_7 ?_;refine ZW ?_ ?_<;>intro hc21
  ·refine Z_9 ?_;refine Zra ?_;refine⟨?_,rfl⟩;simp only[eN, *,ac,aa]
  have hb0:b≠0:=ne_of_beq_false hc21;refine Z_6 ?_;refine Zy (kb (Zv rfl) (Zv rfl) (by omega) rfl) ?_;refine Z_6 ?_;refine Zra ?_;refine⟨?_,rfl⟩;simp only[eN, *,ac,aa]
 refine Z_6 ?_;refine ZW ?_ ?_<;>intro hc24
 ·refine Z_5 ?_;refine ZSe (fun w hi=>wn _ w) ?_;refine Z_6 ?_;refine Zra ?_;refine⟨?_,rfl⟩;simp only[eN, *,ac,aa]
 refine Z_8 ?_;refine ZSe (fun w hi=>wn _ w) ?_;refine Z_4 ?_;refine Zra ?_;refine⟨?_,rfl⟩;simp only[eN, *,ac,aa]
abbrev fF(bm bw:Nat)(Ac:Option Addr)(n cc:Nat)(R:List Int)(pc:Int):bJ:=row bm (iT R bw Ac n cc pc) 303
abbrev hwC(bw:Nat)(W:List Int):bJ:=sl .u32 22 (some ⟨bw,0,none⟩) 256 256 W
abbrev hmF(bm bw:Nat)(Ac:Option Addr)(cc:Nat)(C:List HI)(m:HM):List bJ:=[fF bm bw Ac C.length cc m.Ix m.pc,hwC bw m.words,hiC Ac cc C]
theorem hnew_ok(w:World):Ctr prog 131 [.int .i64 256] w [] (fun v cs=>∃bm bw,v= .tuple #[.pointer (some ⟨bm,0,none⟩),.int .i64 0]∧cs=[fF bm bw none 0 0 (List.replicate 16 0) 0,hwC bw (List.replicate 256 0)]):=by
 refine bL func131 rfl ntmps131 rfl (Inv.start w) ?_;refine vg ?_;refine bV rfl (rfl) ?_;refine Z_5 ?_;refine dJ (iJ (bytes:=4) (n:=256) rfl rfl rfl rfl rfl rfl rfl (by omega) (by simp only[maxLen];omega)) rfl ?_;rintro _ _ ⟨b11,rfl,rfl⟩;refine ZA ?_;refine ZO fun b13=>?_
 rw[jC];refine lp [fF b13 b11 none 0 0 (List.replicate 16 0) 0,hwC b11 (List.replicate 256 0)] Zj ?_;refine Z_5 ?_;refine ft (cs':=[row _ _ _,slv _ _ _ _ _ _]) (.inl rfl) Zu rfl rfl rfl ?_;exact⟨_,_,rfl,rfl⟩
section
variable (bm bw:Nat) (Ac:Option Addr) (n cc:Nat) (R W:List Int) (pc:Int)
theorem wm(hR:R.length=16)(w:World)(h:(fF bm bw Ac n cc R pc).ok w):Ctr prog 176 [.pointer (some ⟨bm,0,none⟩)] w [] (fun v cs=>v= .int .i64 256∧cs=[]):=by
 refine bL func176 rfl ntmps176 rfl (Inv.start w) ?_;refine eJ ?_;refine dX (bO Zrf Zv0) (dL h (Dq hR)) rfl ?_;refine Z_5 ?_;refine Zra ?_;exact⟨rfl,rfl⟩
theorem yV(hR:R.length=16)(hW:W.length=256)(k:Nat)(hk:k<256)(w:World)(h:(fF bm bw Ac n cc R pc).ok w)(h2:(hwC bw W).ok w):Ctr prog 181 [.pointer (some ⟨bm,0,none⟩),.int .i64 k] w [] (fun v cs=>v= .int .u32 (W.getD k 0)∧cs=[]):=by
 have hx:W[k]? =some (W.getD k 0):=by rw[aw,ao (by omega)];rfl
 refine bL func181 rfl ntmps181 rfl (Inv.start w) ?_;refine qo ?_;refine kK (cD rfl rfl) (bO Zrf (dQ rfl)) (dL h (Dq hR)) rfl ?_;refine Z_5 ?_;refine bV rfl ((by rw[aD (show¬(k:Int)<0 by omega),aD (show¬((256:Nat):Int)≤k by omega)];rfl)) ?_;refine Z_7 ?_;refine dX (bO Zrf Zv0) (dL h (Dq hR)) rfl ?_;refine ZA ?_;refine Zy (dx (j:=k) rfl Zrf (Zv rfl) (Zv rfl) (fun _=>by omega) (fun _=>by omega)) ?_;refine dX (bO Zrf Zv0) (fN (dm h2) (cZ hx)) rfl ?_;refine Z_4 ?_;refine Zra ?_;exact⟨rfl,rfl⟩
theorem oX(hR:R.length=16)(hW:W.length=256)(k:Nat)(hk:k<256)(v:Int)(w:World)(hi:Inv w (bK [fF bm bw Ac n cc R pc,hwC bw W]) [fF bm bw Ac n cc R pc,hwC bw W] w):
  Ctr prog 177 [.pointer (some ⟨bm,0,none⟩),.int .i64 k,.int .u32 v] w [fF bm bw Ac n cc R pc,hwC bw W] (fun x cs=>x= .bool true∧cs=[fF bm bw Ac n cc R pc,hwC bw (W.set k v)]):=by
 refine bL func177 rfl ntmps177 rfl hi ?_;refine qo ?_;refine kK (cD rfl rfl) (bO Zrf (dQ rfl)) (bS Zh (Dq hR)) rfl ?_;refine Z_5 ?_;refine bV rfl ((by rw[aD (show¬(k:Int)<0 by omega),aD (show¬((256:Nat):Int)≤k by omega)];rfl)) ?_;refine Z_7 ?_;refine dX (bO Zrf Zv0) (bS Zh (Dq hR)) rfl ?_;refine Z_2 ?_;refine Zy (cC (j:=k) (sz:=1) (r:=k) rfl Zrf (Zv rfl) (Zv rfl) (fun _=>by omega) (fun _=>by omega) (by omega)) ?_;refine dy (fL Zrf rfl rfl rfl Za (by omega)) ?_;rintro _ _ ⟨rfl,rfl⟩;rw[fX];refine Z_8 ?_;refine Zrb ([row _ _ _,slv _ _ _ _ _ _]) ?_;exact⟨rfl,rfl⟩
theorem Ds(hR:R.length=16)(hW:W.length=256)(f:Nat)(hf:f≤100)(A:Option Addr)(c:Nat)(l:List Int)(hl:l.length≤16)(w:World)(hi:Inv w (bK [fF bm bw Ac n cc R pc,hwC bw W]) [fF bm bw Ac n cc R pc,hwC bw W] w)
  (h:∀w',dR (bK [fF bm bw Ac n cc R pc,hwC bw W]) w w'→Rd w' .u32 A l.length c l):
  Ctr prog 178 [.pointer (some ⟨bm,0,none⟩),.int .i64 f,.slice A l.length c] w [fF bm bw Ac n cc R pc,hwC bw W] (fun x cs=>cs=[fF bm bw Ac n cc R pc,hwC bw (jr W f l 16)]):=by
 have h0:=h w (dR.refl _ _);refine bL func178 rfl ntmps178 rfl hi ?_;refine Z_6 ?_;refine cG (fun k:Nat=>[(0,.pointer (some ⟨bm,0,none⟩)),(1,.int .i64 f),(2,.slice A l.length c),(8,.int .i64 (k:Int))]) (fun k=>[fF bm bw Ac n cc R pc,hwC bw (jr W f l k)]) (fun k=>k≤16) (fun k=>16 - k) (0) ?_ ?_ ?_ ?_
 ·exact ax _
 ·exact Zwk
 ·exact Zu
 rintro k hk;have hlk:(jr W f l k).length=256:=(by rw[jF,hW]);refine Z_6 ?_;refine ZW ?_ ?_<;>intro hc1
 ·simp only[ap]at hc1;refine qo ?_;refine cS (fun _:Unit=>[(0,.pointer (some ⟨bm,0,none⟩)),(1,.int .i64 f),(2,.slice A l.length c),(6,.int .i64 (k:Int)),(7,.int .u32 (l.getD k 0)),(8,.int .i64 (k:Int))]) (fun _=>[fF bm bw Ac n cc R pc,hwC bw (jr W f l k)]) (fun _=>True) ?_ ?_
  ·refine Z_8 ?_;refine ZW ?_ ?_<;>intro hc4
   ·simp only[ap]at hc4;obtain⟨ad,rfl⟩:=h0.some_ (by omega);have hx:l[k]? =some (l.getD k 0):=(by rw[aw,ao (by omega)];rfl);refine Z_3 ?_;refine Zy (dx (j:=k) rfl Zrf (Zv rfl) (Zv rfl) (fun _=>by omega) (fun _=>by omega)) ?_;refine dX (bO Zrf Zv0) (jo h (cZ hx)) rfl ?_;refine Z_2 ?_;refine ez (()) ?_ ?_ ?_
    ·trivial
    ·exact Zwk
    exact Zu
   simp only[aj]at hc4;have e0:l.getD k 0=0:=(by rw[aw,List.getElem?_eq_none (by omega)];rfl);rw[e0];refine Zc ?_;refine ez (()) ?_ ?_ ?_
   ·trivial
   ·exact Zwk
   exact Zu
  rintro - -;refine Z_4 ?_;refine Zy (cy (Zv rfl) (Zv rfl) (show _=((f+k:Nat):Int)from by rw[IntWalk.i64_in _ ⟨by omega,by omega⟩];omega)) ?_;refine ZA ?_;refine ZcM ([fF bm bw Ac n cc R pc,hwC bw (jr W f l k)]) (fun w hi hin=>oX bm bw Ac n cc R (jr W f l k) pc hR hlk (f+k) (by omega) (l.getD k 0) w hin) ?_;refine Z_4 ?_;refine Zy (cy Zv0 Zv0 Zl) ?_;refine Z_2 ?_;refine ez (k+1) ?_ ?_ ?_
  ·exact⟨by omega,by omega⟩
  ·exact Zwk
  exact Zu
 simp only[aj]at hc1;obtain rfl:k=16:=by omega
 refine Z_4 ?_;refine fE (cs':=[row _ _ _,slv _ _ _ _ _ _]) (.inr rfl) Zu rfl ?_;exact rfl
end
theorem hput_ok(bm bw:Nat)(s:St)(hs:s.right=true)(hw:s.wf)(Ad Ar:Option Addr)(cd cr:Nat)(w:World)(hi:Inv w (bK [fF bm bw none 0 0 (List.replicate 16 0) 0,hwC bw (List.replicate 256 0)]) [fF bm bw none 0 0 (List.replicate 16 0) 0,hwC bw (List.replicate 256 0)] w)
  (h:∀w',dR (bK [fF bm bw none 0 0 (List.replicate 16 0) 0,hwC bw (List.replicate 256 0)]) w w'→px w' s Ad Ar cd cr):
  Ctr prog 132 [.pointer (some ⟨bm,0,none⟩),sv s Ad cd Ar cr] w [fF bm bw none 0 0 (List.replicate 16 0) 0,hwC bw (List.replicate 256 0)] (fun x cs=>x= .bool true∧cs=[fF bm bw none 0 0 (List.replicate 16 0) 0,hwC bw (IK s)]):=by
 have hR:(List.replicate 16 (0:Int)).length=16:=aM;obtain⟨R,hRe⟩:=Zgn (List.replicate 16 (0:Int));have hpw:IK s=(jr (jr (((((List.replicate 256 (0:Int)).set 0 s.pc).set 1 s.flags).set 2 (s.d.length:Int)).set 3 (s.r.length:Int)) 4 s.d 16) 20 s.r 16).set 36 0:=rfl;have hW0:(List.replicate 256 (0:Int)).length=256:=aM;obtain⟨W0,hWe⟩:=Zgn (List.replicate 256 (0:Int));rw[hWe]at hW0 hpw hi h⊢;rw[hRe]at hR hi h⊢;rw[hpw];obtain⟨hd16,hr16, -⟩:=St.fits hs;have HR:=nJ s;rw[hs]at HR;have hW1:(W0.set 0 s.pc).length=256:=by rw[aI,hW0]
 have hW2:((W0.set 0 s.pc).set 1 s.flags).length=256:=by rw[aI,hW1]
 have hW3:(((W0.set 0 s.pc).set 1 s.flags).set 2 (s.d.length:Int)).length=256:=by rw[aI,hW2]
 have hW4:((((W0.set 0 s.pc).set 1 s.flags).set 2 (s.d.length:Int)).set 3 (s.r.length:Int)).length=256:=by rw[aI,hW3]
 have HL1:=Ds bm bw none 0 0 R _ 0 hR hW4 4 (by decide) Ad cd s.d hd16;obtain⟨W4,hW4e⟩:=Zgn ((((W0.set 0 s.pc).set 1 s.flags).set 2 (s.d.length:Int)).set 3 (s.r.length:Int));rw[hW4e]at hW4 HL1⊢;have hW5:(jr W4 4 s.d 16).length=256:=by rw[jF,hW4]
 have HL2:=Ds bm bw none 0 0 R _ 0 hR hW5 20 (by decide) Ar cr s.r hr16;have hW6:(jr (jr W4 4 s.d 16) 20 s.r 16).length=256:=by rw[jF,hW5]
 refine bL func132 rfl ntmps132 rfl hi ?_;refine Z_2 ?_;refine ZO fun b3=>?_;refine eJ ?_;refine jm (cD rfl rfl) rfl (gU rfl (fun _ _=>rfl) (fun w hi=>wm bm bw none 0 0 R 0 hR w (hi.get Zh))) rfl ?_;rintro _ _ ⟨_,⟨rfl,rfl⟩,rfl⟩;refine Z_3 ?_;refine iM (cD rfl rfl) Zh Zrf Zrf (Zv rfl) rfl ?_;refine jm (cD rfl rfl) rfl (gU rfl (fun _ _=>rfl) (fun w hi=>HR Ad Ar cd cr w)) rfl ?_;rintro _ _ ⟨_,⟨rfl,rfl⟩,rfl⟩;refine Z_4 ?_;refine bV rfl (rfl) ?_;refine Z_7 ?_;refine ZcM ([fF bm bw none 0 0 R 0,hwC bw W0]) (fun w hi hin=>oX bm bw none 0 0 R W0 0 hR hW0 0 (by decide) s.pc w hin) ?_;refine Z_7 ?_;refine ZcM ([fF bm bw none 0 0 R 0,hwC bw (W0.set 0 s.pc)]) (fun w hi hin=>oX bm bw none 0 0 R _ 0 hR hW1 1 (by decide) s.flags w hin) ?_;refine Z_8 ?_;refine Zy (ce rfl rfl (Zv rfl) (by first|exact IntWalk.u32_in _ ⟨by omega,by omega⟩|exact rfl)) ?_;refine ZcM ([fF bm bw none 0 0 R 0,hwC bw ((W0.set 0 s.pc).set 1 s.flags)]) (fun w hi hin=>oX bm bw none 0 0 R _ 0 hR hW2 2 (by decide) (s.d.length:Int) w hin) ?_;refine Z_8 ?_;refine Zy (ce rfl rfl (Zv rfl) (by first|exact IntWalk.u32_in _ ⟨by omega,by omega⟩|exact rfl)) ?_;refine ZcM ([fF bm bw none 0 0 R 0,hwC bw (((W0.set 0 s.pc).set 1 s.flags).set 2 (s.d.length:Int))]) (fun w hi hin=>oX bm bw none 0 0 R _ 0 hR hW3 3 (by decide) (s.r.length:Int) w hin) ?_;rw[hW4e];refine Z_7 ?_;refine ZcL ([fF bm bw none 0 0 R 0,hwC bw W4]) (fun w hi hin=>HL1 w hin (fun w' hk=>(h w' (hi.past (fun c hc=>by simp only[aL,bh,or_false]at hc;rcases hc with rfl|rfl;exact Has.mem (show Has _ _ from Zh);exact Has.mem (show Has _ _ from Zh)) hk)).d)) ?_;rintro _ _ ⟨_,rfl,rfl⟩;refine Z_7 ?_;refine ZcL ([fF bm bw none 0 0 R 0,hwC bw (jr W4 4 s.d 16)]) (fun w hi hin=>HL2 w hin (fun w' hk=>(h w' (hi.past (fun c hc=>by simp only[aL,bh,or_false]at hc;rcases hc with rfl|rfl;exact Has.mem (show Has _ _ from Zh);exact Has.mem (show Has _ _ from Zh)) hk)).r)) ?_;rintro _ _ ⟨_,rfl,rfl⟩;refine Z_5 ?_;refine ZcM ([fF bm bw none 0 0 R 0,hwC bw (jr (jr W4 4 s.d 16) 20 s.r 16)]) (fun w hi hin=>oX bm bw none 0 0 R _ 0 hR hW6 36 (by decide) 0 w hin) ?_;refine Z_8 ?_;refine Zrb ([row _ _ _,slv _ _ _ _ _ _]) ?_;exact⟨rfl,rfl⟩
theorem Gk(bm bw:Nat)(R W:List Int)(hR:R.length=16)(A:Option Addr)(c:Nat)(C:List HI)(hg:gc C)(hl:C.length≤100000)(w:World)(hi:Inv w (bK [fF bm bw none 0 0 R 0,hwC bw W]) [fF bm bw none 0 0 R 0,hwC bw W] w)
  (h:∀w',dR (bK [fF bm bw none 0 0 R 0,hwC bw W]) w w'→Rd w' .u8 A (cJ C).length c (cJ C)):
  Ctr prog 133 [.pointer (some ⟨bm,0,none⟩),.slice A (cJ C).length c] w [fF bm bw none 0 0 R 0,hwC bw W] (fun x cs=>∃Ac cc,x= .int .i64 0∧cs=hmF bm bw Ac cc C ⟨R,W,0⟩):=by
 refine bL func133 rfl ntmps133 rfl hi ?_;refine Z_8 ?_;refine ZS (fun w hi=>hall_ok A c C hg hl w (h w hi.Iz)) ?_;rintro _ _ ⟨_,⟨Ac,cc,rfl,rfl⟩,rfl⟩;refine iG ?_;refine bV rfl (rfl) ?_;refine Z_9 ?_;refine dy (dF Zrf rfl rfl rfl Za (by rw[Hv hR];omega)) ?_;rintro _ _ ⟨rfl,rfl⟩;rw[hm_setc hR];refine Z_2 ?_;refine dy (dF Zrf rfl rfl rfl Za (by rw[Hv hR];omega)) ?_;rintro _ _ ⟨rfl,rfl⟩;rw[iS hR];refine Z_8 ?_;refine Zrb ([row _ _ _,slv _ _ _ _ _ _,slv _ _ _ _ _ _]) ?_;exact⟨Ac,cc,rfl,rfl⟩
theorem Dp(bm bw:Nat)(Ac:Option Addr)(cc:Nat)(C:List HI)(hC:gc C)(m:HM)(hm:m.ok)(w:World)(hi:Inv w (bK (hmF bm bw Ac cc C m)) (hmF bm bw Ac cc C m) w):
  Ctr prog 180 [.pointer (some ⟨bm,0,none⟩)] w (hmF bm bw Ac cc C m) (fun x cs=>x= .int .i64 (Im C m).1∧cs=hmF bm bw Ac cc C (Im C m).2):=by
 have hR:=hm.rl;have hW:=hm.wl;have hr:=hm.r;have hwd:=hm.w;have hp0:=hm.pc;obtain⟨R,W,pc⟩:=m;dsimp only at hR hW hr hwd hp0;obtain⟨p,rfl⟩:∃p:Nat,pc=p:=ar hp0;have hi:Inv w (bK [fF bm bw Ac C.length cc R (p:Int),hwC bw W,hiC Ac cc C]) [fF bm bw Ac C.length cc R (p:Int),hwC bw W,hiC Ac cc C] w:=hi
 change Ctr _ _ _ w [fF bm bw Ac C.length cc R (p:Int),hwC bw W,hiC Ac cc C] _
 have hcap:=(dm (hi.get (show Has _ (hiC Ac cc C)from by repeat (first|exact .head _ _|apply Has.tail)))).cap;have hmx:=(dm (hi.get (show Has _ (hiC Ac cc C)from by repeat (first|exact .head _ _|apply Has.tail)))).max;have hsome:=fun h=>(dm (hi.get (show Has _ (hiC Ac cc C)from by repeat (first|exact .head _ _|apply Has.tail)))).some_ h
 simp only[maxLen]at hmx;have hS:(Im C ⟨R,W,(p:Int)⟩)=bif decide ((p:Int)<0)||decide ((C.length:Int)≤(p:Int))then(2,⟨R,W,(p:Int)⟩)else hdo (C.getD p HI.zero) ⟨R,W,(p:Int)⟩:=rfl
 obtain⟨⟨why,m9⟩,hq⟩:=Zgn (Im C ⟨R,W,(p:Int)⟩);rw[hq]at hS⊢;refine bL func180 rfl ntmps180 rfl hi ?_;refine Z_7 ?_;refine bX ⟨fun j=>List.elem j [],[]⟩ Zk ?_;refine ZE 0 ?_;refine ZE 1 ?_;refine ZFe 2 18 ?_;refine eX 3 rfl Zk Zk Zk Zk (bO Zrf Zv0) (bS Zh (hm_p hR)) rfl ?_;refine ZE 4 ?_;refine ZE 5 ?_;refine ZF 6 ?_;refine ZF 7 ?_;refine ZFf 8 18 ?_;refine Bw 9 rfl Zk Zk Zk Zk (cD rfl rfl) (bO Zrf (dQ rfl)) (bS Zh (hm_p hR)) rfl ?_;refine ZF 10 ?_;refine ZF 11 ?_;refine ZFf 12 17 ?_;refine Bw 13 rfl Zk Zk Zk Zk (cD rfl rfl) (bO Zrf (dQ rfl)) (bS Zh (hm_c hR)) rfl ?_;refine ZF 14 ?_;refine ZF 15 ?_;refine ZE 16 ?_;refine bN Zk ?_;refine Zt ?_;refine ZW ?_ ?_<;>intro hc1
 ·rw[hc1,ac]at hS;obtain⟨rfl,rfl⟩:=Prod.mk.inj hS;refine Z_7 ?_;refine Zrb ([row _ _ _,slv _ _ _ _ _ _,slv _ _ _ _ _ _]) ?_;exact⟨rfl,rfl⟩
 rw[hc1,aa]at hS;have hpl:p<C.length:=(by simp at hc1;omega);obtain⟨i,hx⟩:∃i,C[p]? =some i:=⟨_,ao hpl⟩;rw[show C.getD p HI.zero=i by rw[aw,hx];rfl]at hS;have hg:=hC i (aJ hx);obtain⟨ad,rfl⟩:=hsome (by omega);obtain⟨rd1,rd2⟩:=hg.rd;obtain⟨ra1,ra2⟩:=hg.ra;obtain⟨rb1,rb2⟩:=hg.rb;obtain⟨im1,im2⟩:=hg.imm;obtain⟨op1,op2⟩:=hg.op;obtain⟨op,rd,ra,rb,im⟩:=i;dsimp only at rd1 rd2 ra1 ra2 rb1 rb2 im1 im2 op1 op2;obtain⟨rd,rfl⟩:∃k:Nat,rd=k:=ar rd1;obtain⟨ra,rfl⟩:∃k:Nat,ra=k:=ar ra1;obtain⟨rb,rfl⟩:∃k:Nat,rb=k:=ar rb1;have hd0:hdo ⟨op,(rd:Int),(ra:Int),(rb:Int),im⟩ ⟨R,W,(p:Int)⟩=(bif op==0 then(0,⟨R,W,(p:Int)+1⟩)else bif op==1 then(0,⟨R.set rd im,W,(p:Int)+1⟩)else bif op==14||op==15 then(bif decide ((W.length:Int)≤IntKind.u64.wrap (R.getD ra 0+im))then(4,⟨R,W,(p:Int)⟩)else bif op==14 then(0,⟨R.set rd (W.getD (IntKind.u64.wrap (R.getD ra 0+im)).toNat 0),W,(p:Int)+1⟩)else(0,⟨R,W.set (IntKind.u64.wrap (R.getD ra 0+im)).toNat (IntKind.u32.wrap (R.getD rb 0)),(p:Int)+1⟩))else bif op==16||op==17 then(0,⟨R,W,bif(R.getD ra 0==0)==(op==16)then im else(p:Int)+1⟩)else bif op==18 then(0,⟨R,W,im⟩)else bif op==19 then(1,⟨R,W,(p:Int)⟩)else(0,⟨R.set rd (eN op (R.getD ra 0) (R.getD rb 0)),W,(p:Int)+1⟩)):=rfl;rw[hd0,hW]at hS;have ea:=qb hr ra;have eb:=qb hr rb;obtain⟨a,hae⟩:=Zgn (R.getD ra 0);obtain⟨b,hbe⟩:=Zgn (R.getD rb 0);have hra:=hm_r (bw:=bw) (Ac:=some ad) (n:=C.length) (cc:=cc) (pc:=(p:Int)) hR (show ra<16 by omega);have hrb:=hm_r (bw:=bw) (Ac:=some ad) (n:=C.length) (cc:=cc) (pc:=(p:Int)) hR (show rb<16 by omega);rw[hae]at hS ea hra;rw[hbe]at hS eb hrb;have hpl2:IntKind.u64.wrap (a+im)=((IntKind.u64.wrap (a+im)).toNat:Nat):=(by rw[aU];omega);obtain⟨pl,hple⟩:∃k:Nat,(IntKind.u64.wrap (a+im)).toNat=k:=⟨_,rfl⟩;rw[hple]at hpl2;rw[hpl2,aQ]at hS;refine Z_3 ?_;refine bX ⟨fun j=>List.elem j [11],[]⟩ Zk ?_;refine ZE 0 ?_;refine ZE 1 ?_;refine ZFe 2 17 ?_;refine eX 3 rfl Zk Zk Zk Zk (bO Zrf Zv0) (bS Zh (hm_c hR)) rfl ?_;refine ZE 4 ?_;refine ZE 5 ?_;refine ZFe 6 18 ?_;refine eX 7 rfl Zk Zk Zk Zk (bO Zrf Zv0) (bS Zh (hm_p hR)) rfl ?_;refine cN 8 rfl Zk Zk Zk (dx (j:=p) rfl Zrf (Zv rfl) (Zv rfl) (fun _=>by omega) (fun _=>by omega)) rfl ?_;refine eX 9 rfl Zk Zk Zk Zk (cB (vs:=[.int .i64 op,.int .i64 rd,.int .i64 ra,.int .i64 rb,.int .u32 im]) Zrf Zrf Zv0) (B6 Zh (fun j v hj=>fP (f:=HI.cells) Zrf (i:=j) hx hj)) rfl ?_;refine cw 10 Zk ?_;refine ZP fun b3=>?_
 refine cw 11 Zk ?_;refine ZR ?_;refine bN Zk ?_;refine Z_2 ?_;refine bX ⟨fun j=>List.elem j [],[]⟩ Zk ?_;refine ZE 0 ?_;refine ZFe 1 2 ?_;refine ZG 2 ?_;refine ZE 3 ?_;refine ZFe 4 0 ?_;refine cN 5 rfl Zk Zk Zk (dw (j:=ra) (sz:=1) (r:=ra) rfl Zrf (Zv rfl) (Zv rfl) (fun _=>by omega) (fun _=>by omega) (by omega)) rfl ?_;refine eX 6 rfl Zk Zk Zk Zk (bO Zrf Zv0) (bS Zh hra) rfl ?_;refine ZE 7 ?_;refine ZFe 8 3 ?_;refine ZG 9 ?_;refine ZE 10 ?_;refine ZFe 11 0 ?_;refine cN 12 rfl Zk Zk Zk (dw (j:=rb) (sz:=1) (r:=rb) rfl Zrf (Zv rfl) (Zv rfl) (fun _=>by omega) (fun _=>by omega) (by omega)) rfl ?_;refine eX 13 rfl Zk Zk Zk Zk (bO Zrf Zv0) (bS Zh hrb) rfl ?_;refine ZE 14 ?_;refine ZE 15 ?_;refine bN Zk ?_;refine Z_6 ?_;refine Zy (ce rfl rfl (Zv rfl) (by first|exact IntWalk.u64_in _ ⟨by omega,by omega⟩|exact rfl)) ?_;refine Zy (cy Zv0 Zv0 hpl2) ?_;refine Z_8 ?_;refine dX (bO Zrf Zv0) (bS Zh (hm_p hR)) rfl ?_;refine Zy (cy Zv0 Zv0 Zl) ?_;refine vg ?_;refine ZW ?_ ?_<;>intro hc9
 ·rw[hc9,ac]at hS;obtain⟨rfl,rfl⟩:=Prod.mk.inj hS;refine Z_9 ?_;refine dy (dF Zrf rfl rfl rfl Za (by simp[ints,hR])) ?_;rintro _ _ ⟨rfl,rfl⟩;rw[iS (by simp[hR])];refine Z_8 ?_;refine Zrb ([row _ _ _,slv _ _ _ _ _ _,slv _ _ _ _ _ _]) ?_;exact⟨rfl,rfl⟩
 rw[hc9,aa]at hS;refine Z_6 ?_;refine ZW ?_ ?_<;>intro hc10
 ·rw[hc10,ac]at hS;obtain⟨rfl,rfl⟩:=Prod.mk.inj hS;refine bX ⟨fun j=>List.elem j [9],[]⟩ Zk ?_;refine ZE 0 ?_;refine ZFe 1 1 ?_;refine ZG 2 ?_;refine ZFe 3 4 ?_;refine ZG 4 ?_;refine cN 5 rfl Zk Zk Zk (ce rfl rfl (Zv rfl) (by first|exact IntWalk.u64_in _ ⟨by omega,by omega⟩|exact rfl)) rfl ?_;refine ZE 6 ?_;refine ZFe 7 0 ?_;refine cN 8 rfl Zk Zk Zk (dw (j:=rd) (sz:=1) (r:=rd) rfl Zrf (Zv rfl) (Zv rfl) (fun _=>by omega) (fun _=>by omega) (by omega)) rfl ?_;refine cw 9 Zk ?_;refine dz rfl rfl (dF Zrf rfl rfl rfl Za (by simp[ints,hR];omega)) ZJ ?_;rintro _ _ ⟨rfl,rfl⟩;rw[uQ hR (by omega)];refine bN Zk ?_;refine Z_8 ?_;refine dy (dF Zrf rfl rfl rfl Za (by simp[ints,hR])) ?_;rintro _ _ ⟨rfl,rfl⟩;rw[iS (by simp[hR])];refine Z_8 ?_;refine Zrb ([row _ _ _,slv _ _ _ _ _ _,slv _ _ _ _ _ _]) ?_;exact⟨rfl,rfl⟩
 rw[hc10,aa]at hS;refine Z_7 ?_;refine ZW ?_ ?_<;>intro hc12
 ·rw[show(op==14||op==15)=true from by rw[hc12];rfl,ac]at hS;refine Z_2 ?_;refine cn rfl (hc12) ?_;refine Z_7 ?_;refine dX (bO Zrf Zv0) (bS Zh (Dq hR)) rfl ?_;refine ZA ?_;refine Zy (ce rfl rfl (Zv rfl) (by first|exact IntWalk.u64_in _ ⟨by omega,by omega⟩|exact rfl)) ?_;refine Z_3 ?_;refine ZW ?_ ?_<;>intro hc14
  ·rw[hc14,ac]at hS;obtain⟨rfl,rfl⟩:=Prod.mk.inj hS;refine Z_9 ?_;refine Zrb ([row _ _ _,slv _ _ _ _ _ _,slv _ _ _ _ _ _]) ?_;exact⟨rfl,rfl⟩
  rw[hc14,aa]at hS;have hp256:pl<256:=(by simp at hc14;omega);have hxw:W[pl]? =some (W.getD pl 0):=(by rw[aw,ao (by omega)];rfl);have hwb:=iu hwd pl;obtain⟨x,hxe⟩:=Zgn (W.getD pl 0);rw[hxe]at hxw hwb hS;refine Z_9 ?_;refine ZW ?_ ?_<;>intro hc16
  ·rw[hc16,ac]at hS;obtain⟨rfl,rfl⟩:=Prod.mk.inj hS;refine bX ⟨fun j=>List.elem j [14],[]⟩ Zk ?_;refine ZE 0 ?_;refine ZFe 1 1 ?_;refine ZG 2 ?_;refine ZE 3 ?_;refine ZE 4 ?_;refine ZFe 5 16 ?_;refine eX 6 rfl Zk Zk Zk Zk (bO Zrf Zv0) (bS Zh (Dq hR)) rfl ?_;refine ZE 7 ?_;refine cN 8 rfl Zk Zk Zk (dx (j:=pl) rfl Zrf (Zv rfl) (Zv rfl) (fun _=>by omega) (fun _=>by omega)) rfl ?_;refine eX 9 rfl Zk Zk Zk Zk (bO Zrf Zv0) (oL Zh (cZ hxw)) rfl ?_;refine cN 10 rfl Zk Zk Zk (ce rfl rfl (Zv rfl) (by first|exact IntWalk.u64_in _ ⟨by omega,by omega⟩|exact rfl)) rfl ?_;refine ZE 11 ?_;refine ZFe 12 0 ?_;refine cN 13 rfl Zk Zk Zk (dw (j:=rd) (sz:=1) (r:=rd) rfl Zrf (Zv rfl) (Zv rfl) (fun _=>by omega) (fun _=>by omega) (by omega)) rfl ?_;refine cw 14 Zk ?_;refine dz rfl rfl (dF Zrf rfl rfl rfl Za (by simp[ints,hR];omega)) ZJ ?_;rintro _ _ ⟨rfl,rfl⟩;rw[uQ hR (by omega)];refine bN Zk ?_;refine Z_8 ?_;refine dy (dF Zrf rfl rfl rfl Za (by simp[ints,hR])) ?_;rintro _ _ ⟨rfl,rfl⟩;rw[iS (by simp[hR])];refine Z_8 ?_;refine Zrb ([row _ _ _,slv _ _ _ _ _ _,slv _ _ _ _ _ _]) ?_;exact⟨rfl,rfl⟩
  rw[hc16,aa]at hS;obtain⟨rfl,rfl⟩:=Prod.mk.inj hS;refine Z_4 ?_;refine dX (bO Zrf Zv0) (bS Zh (Dq hR)) rfl ?_;refine Z_2 ?_;refine Zy (ce rfl rfl (Zv rfl) (by first|exact IntWalk.u32_in _ ⟨by omega,by omega⟩|exact rfl)) ?_;refine Zy (cC (j:=pl) (sz:=1) (r:=pl) rfl Zrf (Zv rfl) (Zv rfl) (fun _=>by omega) (fun _=>by omega) (by omega)) ?_;refine dy (fL Zrf rfl rfl rfl Za (by omega)) ?_;rintro _ _ ⟨rfl,rfl⟩;rw[fX];refine Z_9 ?_;refine dy (dF Zrf rfl rfl rfl Za (by simp[ints,hR])) ?_;rintro _ _ ⟨rfl,rfl⟩;rw[iS (by simp[hR])];refine Z_8 ?_;refine Zrb ([row _ _ _,slv _ _ _ _ _ _,slv _ _ _ _ _ _]) ?_;exact⟨rfl,rfl⟩
 refine Z_5 ?_;refine ZW ?_ ?_<;>intro hc13
 ·rw[show(op==14||op==15)=true from by rw[hc12,hc13];rfl,ac]at hS;refine Z_7 ?_;refine dX (bO Zrf Zv0) (bS Zh (Dq hR)) rfl ?_;refine ZA ?_;refine Zy (ce rfl rfl (Zv rfl) (by first|exact IntWalk.u64_in _ ⟨by omega,by omega⟩|exact rfl)) ?_;refine Z_3 ?_;refine ZW ?_ ?_<;>intro hc14
  ·rw[hc14,ac]at hS;obtain⟨rfl,rfl⟩:=Prod.mk.inj hS;refine Z_9 ?_;refine Zrb ([row _ _ _,slv _ _ _ _ _ _,slv _ _ _ _ _ _]) ?_;exact⟨rfl,rfl⟩
  rw[hc14,aa]at hS;have hp256:pl<256:=(by simp at hc14;omega);have hxw:W[pl]? =some (W.getD pl 0):=(by rw[aw,ao (by omega)];rfl);have hwb:=iu hwd pl;obtain⟨x,hxe⟩:=Zgn (W.getD pl 0);rw[hxe]at hxw hwb hS;refine Z_9 ?_;refine ZW ?_ ?_<;>intro hc16
  ·rw[hc16,ac]at hS;obtain⟨rfl,rfl⟩:=Prod.mk.inj hS;refine bX ⟨fun j=>List.elem j [14],[]⟩ Zk ?_;refine ZE 0 ?_;refine ZFe 1 1 ?_;refine ZG 2 ?_;refine ZE 3 ?_;refine ZE 4 ?_;refine ZFe 5 16 ?_;refine eX 6 rfl Zk Zk Zk Zk (bO Zrf Zv0) (bS Zh (Dq hR)) rfl ?_;refine ZE 7 ?_;refine cN 8 rfl Zk Zk Zk (dx (j:=pl) rfl Zrf (Zv rfl) (Zv rfl) (fun _=>by omega) (fun _=>by omega)) rfl ?_;refine eX 9 rfl Zk Zk Zk Zk (bO Zrf Zv0) (oL Zh (cZ hxw)) rfl ?_;refine cN 10 rfl Zk Zk Zk (ce rfl rfl (Zv rfl) (by first|exact IntWalk.u64_in _ ⟨by omega,by omega⟩|exact rfl)) rfl ?_;refine ZE 11 ?_;refine ZFe 12 0 ?_;refine cN 13 rfl Zk Zk Zk (dw (j:=rd) (sz:=1) (r:=rd) rfl Zrf (Zv rfl) (Zv rfl) (fun _=>by omega) (fun _=>by omega) (by omega)) rfl ?_;refine cw 14 Zk ?_;refine dz rfl rfl (dF Zrf rfl rfl rfl Za (by simp[ints,hR];omega)) ZJ ?_;rintro _ _ ⟨rfl,rfl⟩;rw[uQ hR (by omega)];refine bN Zk ?_;refine Z_8 ?_;refine dy (dF Zrf rfl rfl rfl Za (by simp[ints,hR])) ?_;rintro _ _ ⟨rfl,rfl⟩;rw[iS (by simp[hR])];refine Z_8 ?_;refine Zrb ([row _ _ _,slv _ _ _ _ _ _,slv _ _ _ _ _ _]) ?_;exact⟨rfl,rfl⟩
  rw[hc16,aa]at hS;obtain⟨rfl,rfl⟩:=Prod.mk.inj hS;refine Z_4 ?_;refine dX (bO Zrf Zv0) (bS Zh (Dq hR)) rfl ?_;refine Z_2 ?_;refine Zy (ce rfl rfl (Zv rfl) (by first|exact IntWalk.u32_in _ ⟨by omega,by omega⟩|exact rfl)) ?_;refine Zy (cC (j:=pl) (sz:=1) (r:=pl) rfl Zrf (Zv rfl) (Zv rfl) (fun _=>by omega) (fun _=>by omega) (by omega)) ?_;refine dy (fL Zrf rfl rfl rfl Za (by omega)) ?_;rintro _ _ ⟨rfl,rfl⟩;rw[fX];refine Z_9 ?_;refine dy (dF Zrf rfl rfl rfl Za (by simp[ints,hR])) ?_;rintro _ _ ⟨rfl,rfl⟩;rw[iS (by simp[hR])];refine Z_8 ?_;refine Zrb ([row _ _ _,slv _ _ _ _ _ _,slv _ _ _ _ _ _]) ?_;exact⟨rfl,rfl⟩
 rw[show(op==14||op==15)=false from by rw[hc12,hc13];rfl,aa]at hS;refine Z_7 ?_;refine ZW ?_ ?_<;>intro hc19
 ·rw[show(op==16||op==17)=true from by rw[hc19];rfl,ac]at hS;refine Z_2 ?_;refine cn rfl (hc19) ?_;refine eJ ?_;refine ZW ?_ ?_<;>intro hc21
  ·rw[hc21,ac]at hS;obtain⟨rfl,rfl⟩:=Prod.mk.inj hS;refine Z_3 ?_;refine Zy (ce rfl rfl Zv0 Zl) ?_;refine eJ ?_;refine dy (dF Zrf rfl rfl rfl Za (by simp[ints,hR])) ?_;rintro _ _ ⟨rfl,rfl⟩;rw[iS (by simp[hR])];refine Z_8 ?_;refine Zrb ([row _ _ _,slv _ _ _ _ _ _,slv _ _ _ _ _ _]) ?_;exact⟨rfl,rfl⟩
  rw[hc21,aa]at hS;obtain⟨rfl,rfl⟩:=Prod.mk.inj hS;refine Z_9 ?_;refine dy (dF Zrf rfl rfl rfl Za (by simp[ints,hR])) ?_;rintro _ _ ⟨rfl,rfl⟩;rw[iS (by simp[hR])];refine Z_8 ?_;refine Zrb ([row _ _ _,slv _ _ _ _ _ _,slv _ _ _ _ _ _]) ?_;exact⟨rfl,rfl⟩
 refine Z_5 ?_;refine ZW ?_ ?_<;>intro hc20
 ·rw[show(op==16||op==17)=true from by rw[hc19,hc20];rfl,ac]at hS;refine eJ ?_;refine ZW ?_ ?_<;>intro hc21
  ·rw[hc21,ac]at hS;obtain⟨rfl,rfl⟩:=Prod.mk.inj hS;refine Z_3 ?_;refine Zy (ce rfl rfl Zv0 Zl) ?_;refine eJ ?_;refine dy (dF Zrf rfl rfl rfl Za (by simp[ints,hR])) ?_;rintro _ _ ⟨rfl,rfl⟩;rw[iS (by simp[hR])];refine Z_8 ?_;refine Zrb ([row _ _ _,slv _ _ _ _ _ _,slv _ _ _ _ _ _]) ?_;exact⟨rfl,rfl⟩
  rw[hc21,aa]at hS;obtain⟨rfl,rfl⟩:=Prod.mk.inj hS;refine Z_9 ?_;refine dy (dF Zrf rfl rfl rfl Za (by simp[ints,hR])) ?_;rintro _ _ ⟨rfl,rfl⟩;rw[iS (by simp[hR])];refine Z_8 ?_;refine Zrb ([row _ _ _,slv _ _ _ _ _ _,slv _ _ _ _ _ _]) ?_;exact⟨rfl,rfl⟩
 rw[show(op==16||op==17)=false from by rw[hc19,hc20];rfl,aa]at hS;refine Z_6 ?_;refine ZW ?_ ?_<;>intro hc23
 ·rw[hc23,ac]at hS;obtain⟨rfl,rfl⟩:=Prod.mk.inj hS;refine Z_3 ?_;refine Zy (ce rfl rfl Zv0 Zl) ?_;refine eJ ?_;refine dy (dF Zrf rfl rfl rfl Za (by simp[ints,hR])) ?_;rintro _ _ ⟨rfl,rfl⟩;rw[iS (by simp[hR])];refine Z_8 ?_;refine Zrb ([row _ _ _,slv _ _ _ _ _ _,slv _ _ _ _ _ _]) ?_;exact⟨rfl,rfl⟩
 rw[hc23,aa]at hS;refine Z_6 ?_;refine ZW ?_ ?_<;>intro hc25
 ·rw[hc25,ac]at hS;obtain⟨rfl,rfl⟩:=Prod.mk.inj hS;refine Z_8 ?_;refine Zrb ([row _ _ _,slv _ _ _ _ _ _,slv _ _ _ _ _ _]) ?_;exact⟨rfl,rfl⟩
 rw[hc25,aa]at hS;obtain⟨rfl,rfl⟩:=Prod.mk.inj hS;refine bX ⟨fun j=>List.elem j [11],[]⟩ Zk ?_;refine ZE 0 ?_;refine ZFe 1 1 ?_;refine ZG 2 ?_;refine ZFe 3 0 ?_;refine ZG 4 ?_;refine ZE 5 ?_;refine ZE 6 ?_;refine ZE 8 ?_;refine ZFe 9 0 ?_;refine cw 7 Zk ?_;refine ZT (fun w hi=>AK op a b ea eb w) ?_;rintro _ _ ⟨_,⟨rfl,rfl⟩,rfl⟩;refine cN 10 rfl Zk Zk Zk (dw (j:=rd) (sz:=1) (r:=rd) rfl Zrf (Zv rfl) (Zv rfl) (fun _=>by omega) (fun _=>by omega) (by omega)) rfl ?_;refine cw 11 Zk ?_;refine dz rfl rfl (dF Zrf rfl rfl rfl Za (by simp[ints,hR];omega)) ZJ ?_;rintro _ _ ⟨rfl,rfl⟩;rw[uQ hR (by omega)];refine bN Zk ?_;refine Z_8 ?_;refine dy (dF Zrf rfl rfl rfl Za (by simp[ints,hR])) ?_;rintro _ _ ⟨rfl,rfl⟩;rw[iS (by simp[hR])];refine Z_8 ?_;refine Zrb ([row _ _ _,slv _ _ _ _ _ _,slv _ _ _ _ _ _]) ?_;exact⟨rfl,rfl⟩
end Go.Proofs.YtakodpimdalajaaGreatDoor
namespace Go.Ink
open Go.RowKit
theorem hdo_one{i:HI}{m:HM}(h:(hdo i m).1=1):(hdo i m).2=m:=by
 unfold hdo at h⊢;cases h0:i.op==0 with
 |true=>rw[h0]at h;cases h
 |false=>cases h1:i.op==1 with
  |true=>rw[h0,h1]at h;cases h
  |false=>cases h2:i.op==14||i.op==15 with
   |true=>
    rw[h0,h1,h2]at h;simp only[ac,aa]at h⊢;cases h3:decide ((m.words.length:Int)≤nX m.Ix i)with
    |true=>rfl
    |false=>rw[h3]at h;cases h4:i.op==14<;>rw[h4]at h<;>cases h
   |false=>cases h5:i.op==16||i.op==17 with
    |true=>rw[h0,h1,h2,h5]at h;cases h
    |false=>cases h6:i.op==18 with
     |true=>rw[h0,h1,h2,h5,h6]at h;cases h
     |false=>cases h7:i.op==19 with
      |true=>rfl
      |false=>rw[h0,h1,h2,h5,h6,h7]at h;cases h
theorem AJ{C:List HI}{m:HM}(h:(Im C m).1=1):(Im C m).2=m∧0≤m.pc∧m.pc<C.length:=by
 unfold Im at h⊢;cases hd:decide (m.pc<0)||decide ((C.length:Int)≤m.pc)with
 |true=>rw[hd]at h;cases h
 |false=>
  rw[hd]at h;simp only[aa]at h⊢;have:=hdo_one h;simp only[bj,aj]at hd;exact⟨this,by omega,by omega⟩
def lx(W:List Int):Bool:= !((decide (16<W.getD 2 0)||decide (16<W.getD 3 0))||decide (15<W.getD 1 0))
def yD(s:St)(r:(Int×Int)×HM):St×Int:=bif r.1.1 !=1 then(s,0)else bif lx r.2.words then(mF r.2.words s,r.1.2)else(s,0)
def ia(C:List HI)(s:St):St×Int:=yD s (iR C 4096 ⟨List.replicate 16 0,IK s,0⟩)
theorem yX{C:List HI}(hC:gc C):∀(f:Nat) (m:HM),0≤(iR C f m).1.2∧(iR C f m).1.2≤4294967295
 |0,m=>z32
 |f+1,m=>by
  show 0≤(bif(Im C m).1==0 then iR C f (Im C m).2 else bif(Im C m).1==1 then((1,(C.getD (Im C m).2.pc.toNat HI.zero).imm),(Im C m).2)else(((Im C m).1,0),(Im C m).2)).1.2∧(bif(Im C m).1==0 then iR C f (Im C m).2 else bif(Im C m).1==1 then((1,(C.getD (Im C m).2.pc.toNat HI.zero).imm),(Im C m).2)else(((Im C m).1,0),(Im C m).2)).1.2≤_;cases(Im C m).1==0 with
  |true=>exact yX hC f _
  |false=>cases(Im C m).1==1 with
   |true=>
    show 0≤(C.getD (Im C m).2.pc.toNat HI.zero).imm∧(C.getD (Im C m).2.pc.toNat HI.zero).imm≤_;rw[aw];by_cases hl:(Im C m).2.pc.toNat<C.length
    ·rw[ao hl];exact(hC _ (List.getElem_mem hl)).imm
    rw[List.getElem?_eq_none (by omega)];exact⟨by decide,by decide⟩
   |false=>exact z32
theorem Fo{s:St}(h:s.wf)(hr:s.right=true):wds (IK s):=by
 obtain⟨h1,h2, -⟩:=St.fits hr;have hset:∀(W:List Int) (k:Nat) (v:Int),wds W→(0≤v∧v≤4294967295)→wds (W.set k v):=fun W k v hW hv x hx=>by
  rcases xM hx with q|q
  ·exact hW x q
  rw[q];exact hv
 have hlay:∀(W:List Int) (f:Nat) (l:List Int),wds W→wds l→∀k,wds (jr W f l k):=fun W f l hW hl k=>by
  induction k with
  |zero=>exact hW
  |succ k ih=>exact hset _ _ _ ih (iu hl k)
 have h0:wds (List.replicate 256 (0:Int)):=fun x hx=>by rw[(List.mem_replicate.1 hx).2];decide
 have hd:wds s.d:=fun x hx=>h.d x hx
 have hrr:wds s.r:=fun x hx=>h.r x hx
 have a1:=hset _ 0 s.pc h0 h.pc;have a2:=hset _ 1 s.flags a1 h.flags;have a3:=hset _ 2 (s.d.length:Int) a2 ⟨by omega,by omega⟩;have a4:=hset _ 3 (s.r.length:Int) a3 ⟨by omega,by omega⟩;have a5:=hlay _ 4 s.d a4 hd 16;have a6:=hlay _ 20 s.r a5 hrr 16;have a7:=hset _ 36 0 a6 ⟨by decide,by decide⟩;unfold IK;exact a7
theorem hm0_of{R W:List Int}(h0:R.length=16)(h1:W.length=256)(h2:r64 R)(h3:wds W):HM.ok ⟨R,W,0⟩:=⟨h0,h1,h2,h3,bE _⟩
theorem hm0_ok{s:St}(h:s.wf)(hr:s.right=true):HM.ok ⟨List.replicate 16 0,IK s,0⟩:=
 hm0_of aM (yH s) (fun x hx=>by rw[(List.mem_replicate.1 hx).2];decide) (Fo h hr)
theorem Dn{C:List HI}(hC:gc C):∀(f:Nat) (m:HM),m.ok→(iR C f m).2.ok
 |0,m,h=>h
 |f+1,m,h=>by
  have h1:=yW hC h;show(bif(Im C m).1==0 then iR C f (Im C m).2 else bif(Im C m).1==1 then _ else _).2.ok;cases(Im C m).1==0 with
  |true=>exact Dn hC f _ h1
  |false=>cases(Im C m).1==1 with
   |true=>exact h1
   |false=>exact h1
end Go.Ink
namespace Go.Proofs.YtakodpimdalajaaGreatDoor
open Go.RowKit Go.Ink Go.Proofs.Tryz
attribute [local irreducible] OpY bU
theorem Gj(bm bw:Nat)(Ac:Option Addr)(cc:Nat)(C:List HI)(hC:gc C)(steps:Nat)(hst:steps≤100000)(m:HM)(hm:m.ok)(w:World)(hi:Inv w (bK (hmF bm bw Ac cc C m)) (hmF bm bw Ac cc C m) w):
  Ctr prog 134 [.pointer (some ⟨bm,0,none⟩),.int .i64 steps] w (hmF bm bw Ac cc C m) (fun x cs=>∃n:Nat,x= .tuple #[.int .i64 (iR C steps m).1.1,.int .u32 (iR C steps m).1.2,.int .i64 n]∧cs=hmF bm bw Ac cc C (iR C steps m).2):=by
 have hcap:=(dm (hi.get (show Has _ (hiC Ac cc C)from by repeat (first|exact .head _ _|apply Has.tail)))).cap;have hmx:=(dm (hi.get (show Has _ (hiC Ac cc C)from by repeat (first|exact .head _ _|apply Has.tail)))).max;have hsome:=fun h=>(dm (hi.get (show Has _ (hiC Ac cc C)from by repeat (first|exact .head _ _|apply Has.tail)))).some_ h
 simp only[maxLen]at hmx;obtain⟨⟨⟨how,im⟩,m9⟩,hq⟩:=Zgn (iR C steps m);rw[hq];have hq0:iR C (steps - 0) m=((how,im),m9):=hq;refine bL func134 rfl ntmps134 rfl hi ?_;refine iG ?_;refine cG (fun q:Nat×HM=>[(0,.pointer (some ⟨bm,0,none⟩)),(1,.int .i64 steps),(7,.int .i64 (q.1:Int))]) (fun q=>hmF bm bw Ac cc C q.2) (fun q=>q.1≤steps∧q.2.ok∧iR C (steps - q.1) q.2=((how,im),m9)) (fun q=>steps - q.1) (⟨0,m⟩) ?_ ?_ ?_ ?_
 ·exact⟨ax _,hm,hq0⟩
 ·exact Zwk
 ·exact Zu
 rintro⟨k,m⟩ ⟨hk,hm,hE⟩;dsimp only at hk hm hE⊢;have HS:=Dp bm bw Ac cc C hC m hm;have hm2:=yW hC hm;have hex:=AJ (C:=C) (m:=m);refine Z_8 ?_;refine ZW ?_ ?_<;>intro hc2
 ·simp only[ap]at hc2;obtain⟨f,hf⟩:∃f,steps - k=f+1:=⟨steps - k - 1,by omega⟩;rw[hf]at hE;have hE:(bif(Im C m).1==0 then iR C f (Im C m).2 else bif(Im C m).1==1 then((1,(C.getD (Im C m).2.pc.toNat HI.zero).imm),(Im C m).2)else(((Im C m).1,0),(Im C m).2))=((how,im),m9):=hE;obtain⟨⟨why,m2⟩,hsq⟩:=Zgn (Im C m);rw[hsq]at hE HS hm2 hex;dsimp only at hE hm2 hex;refine Z_7 ?_;refine ZcM (hmF bm bw Ac cc C m) (fun w hi hin=>HS w hin) ?_;refine qo ?_;refine ZW ?_ ?_<;>intro hc7
  ·rw[hc7,ac]at hE;refine Z_6 ?_;refine Zy (cy Zv0 Zv0 Zl) ?_;refine Z_2 ?_;refine ez ((⟨k+1,m2⟩:Nat×HM)) ?_ ?_ ?_
   ·exact⟨⟨by omega,hm2,by show iR C (steps - (k+1)) m2=_;rw[show steps - (k+1)=f by omega];exact hE⟩,by show steps - (k+1)<steps - k;omega⟩
   ·exact Zwk
   exact Zu
  rw[hc7,aa]at hE;refine Z_6 ?_;refine ZW ?_ ?_<;>intro hc8
  ·rw[hc8,ac]at hE;obtain⟨he1,rfl⟩:=Prod.mk.inj hE;obtain⟨rfl,rfl⟩:=Prod.mk.inj he1;have hw1:why=1:=(by simpa using hc8);subst hw1;obtain⟨rfl,hp0,hpl⟩:=hex rfl;have hR:=hm.rl;obtain⟨p,hpe⟩:∃p:Nat,m2.pc=p:=ar hp0;rw[hpe]at hpl;have hx:C[p]? =some (C.getD p HI.zero):=(by rw[aw,ao (show p<C.length by omega)];rfl);rw[show m2.pc.toNat=p by omega];obtain⟨ad,rfl⟩:=hsome (by omega);obtain⟨i,hie⟩:=Zgn (C.getD p HI.zero);rw[hie]at hx⊢;refine Zs (bX ⟨fun j=>List.elem j [],[]⟩ Zk ?_);refine ZE 0 ?_;refine ZE 1 ?_;refine ZE 2 ?_;refine ZFe 3 17 ?_;refine eX 4 rfl Zk Zk Zk Zk (bO Zrf Zv0) (bS Zh (hm_c hR)) rfl ?_;refine ZE 5 ?_;refine ZE 6 ?_;refine ZFe 7 18 ?_;refine eX 8 rfl Zk Zk Zk Zk (bO Zrf Zv0) (bS Zh (hm_p hR)) rfl ?_;refine cN 9 rfl Zk Zk Zk (dx (j:=p) rfl Zrf (Zv rfl) (Zv rfl) (fun _=>hpe) (fun _=>by omega)) rfl ?_;refine cN 10 rfl Zk Zk Zk (EA 4 rfl (Zv rfl) ((pw ad (p*5) 4))) rfl ?_;refine eX 11 rfl Zk Zk Zk Zk (bO Zrf (Zv rfl)) (fun w hi z hz=>by rw[aN]at hz;subst hz;exact(hi.rd (show Has _ (hiC (some ad) cc C)from Zh)).at_ ad rfl (p*5+4) (.int .u32 i.imm) (fP (f:=HI.cells) Zrf (i:=4) hx rfl)) rfl ?_;refine ZE 12 ?_;refine ZE 13 ?_;refine ZE 14 ?_;refine ZE 15 ?_;refine bN Zk ?_;refine Z_8 ?_;refine sS (cs':=[row _ _ _,slv _ _ _ _ _ _,slv _ _ _ _ _ _]) (.inl rfl) Zu rfl rfl rfl rfl ?_;exact⟨_,rfl,rfl⟩
  rw[hc8,aa]at hE;obtain⟨he1,rfl⟩:=Prod.mk.inj hE;obtain⟨rfl,rfl⟩:=Prod.mk.inj he1;refine qn ?_;refine sS (cs':=[row _ _ _,slv _ _ _ _ _ _,slv _ _ _ _ _ _]) (.inl rfl) Zu rfl rfl rfl rfl ?_;exact⟨_,rfl,rfl⟩
 simp only[aj]at hc2;obtain rfl:k=steps:=(by omega);rw[Nat.sub_self]at hE;obtain⟨he1,rfl⟩:=Prod.mk.inj hE;obtain⟨rfl,rfl⟩:=Prod.mk.inj he1;refine Z_8 ?_;refine Zy (zz (Zv rfl) (Zv rfl) (show _=((k:Nat):Int)from by split<;>omega)) ?_;refine Z_6 ?_;refine sS (cs':=[row _ _ _,slv _ _ _ _ _ _,slv _ _ _ _ _ _]) (.inl rfl) Zu rfl rfl rfl rfl ?_;exact⟨_,rfl,rfl⟩
theorem wo(bm bw:Nat)(Ac:Option Addr)(n cc:Nat)(R W:List Int)(pc:Int)(hR:R.length=16)(hW:W.length=256)(f k:Nat)(hf:f≤100)(hk:k≤16)(w:World)(h:(fF bm bw Ac n cc R pc).ok w)(h2:(hwC bw W).ok w):
  Ctr prog 182 [.pointer (some ⟨bm,0,none⟩),.int .i64 f,.int .u32 k] w [] (fun x cs=>∃A c,x= .slice A (fS W f k).length c∧cs=[sl .u32 22 A (fS W f k).length c (fS W f k)]):=by
 have hl:∀j,(fS W f j).length=j:=fun j=>by simp[fS]
 have hsn:∀j,fS W f (j+1)=fS W f j++[W.getD (f+j) 0]:=fun j=>by unfold fS;rw[List.range_succ,List.map_append];rfl
 refine bL func182 rfl ntmps182 rfl (Inv.start w) ?_;refine jT ?_;refine dC 22 1 ?_;refine ZA ?_;refine Zy (ce rfl rfl Zv0 Zl) ?_;refine Z_4 ?_;refine cG (fun q:Nat×Option Addr×Nat=>[(0,.pointer (some ⟨bm,0,none⟩)),(1,.int .i64 f),(7,.slice q.2.1 (fS W f q.1).length q.2.2),(10,.int .i64 k),(11,.int .i64 (q.1:Int))]) (fun q=>[sl .u32 22 q.2.1 (fS W f q.1).length q.2.2 (fS W f q.1)]) (fun q=>q.1≤k) (fun q=>k - q.1) (⟨0,none,0⟩) ?_ ?_ ?_ ?_
 ·exact ax _
 ·exact Zwk
 ·exact Zu
 rintro⟨j,A,c⟩ hj;dsimp only at hj⊢;refine Z_6 ?_;refine ZW ?_ ?_<;>intro hc3
 ·simp only[ap]at hc3;have hlj:=hl j;refine qo ?_;refine Zy (cy (Zv rfl) (Zv rfl) (show _=((f+j:Nat):Int)from by rw[IntWalk.i64_in _ ⟨by omega,by omega⟩];omega)) ?_;refine ZSe (fun w hi=>yV bm bw Ac n cc R W pc hR hW (f+j) (by omega) w (bJ.old h hi) (bJ.old h2 hi)) ?_;refine dJ (bZ rfl rfl Zrf Zrf rfl rfl) rfl ?_;rintro _ _ ⟨b20,rfl,rfl⟩;refine dJ (cW (e:=22) (sz:=1) (bytes:=4) rfl rfl Za rfl rfl (fun w hi=>hi.rd (show Has _ (slv 22 1 (some ⟨b20,0,none⟩) 1 1 (ints .u32 [W.getD (f+j) 0]))from Zh)) cY (by simp only[maxLen];omega) (by omega)) rfl ?_;rintro _ _ ⟨A2,c2,rfl,rfl⟩;rw[cH,←hsn,show(fS W f j).length+1=(fS W f (j+1)).length by rw[hl,hl]];refine Z_5 ?_;refine Zy (cy Zv0 Zv0 Zl) ?_;refine Z_2 ?_;refine ez ((⟨j+1,A2,c2⟩:Nat×Option Addr×Nat)) ?_ ?_ ?_
  ·exact⟨by omega,by omega⟩
  ·exact Zwk
  exact Zu
 simp only[aj]at hc3;obtain rfl:j=k:=by omega
 refine gQ ?_;refine Zrb ([slv _ _ _ _ _ _]) ?_;exact⟨_,_,rfl,rfl⟩
theorem hget_ok(bm bw:Nat)(Ac:Option Addr)(n cc:Nat)(R W:List Int)(pc:Int)(hR:R.length=16)(hW:W.length=256)(hwd:wds W)(s:St)(Ad Ar:Option Addr)(cd cr:Nat)(w:World)(h:(fF bm bw Ac n cc R pc).ok w)(h2:(hwC bw W).ok w)(h3:px w s Ad Ar cd cr):
  Ctr prog 135 [.pointer (some ⟨bm,0,none⟩),sv s Ad cd Ar cr] w [] (fun x cs=>∃X:hI,x= .tuple #[sv (bif lx W then mF W s else s) X.Ad X.cd X.Ar X.cr,.bool (lx W)]∧cs=[slD (bif lx W then mF W s else s) X.Ad X.cd,slR (bif lx W then mF W s else s) X.Ar X.cr]):=by
 have HW:=yV bm bw Ac n cc R W pc hR hW;obtain⟨x2,e2,y2⟩:=lr hwd 2;obtain⟨x3,e3,y3⟩:=lr hwd 3;have y36:=iu hwd 36;obtain⟨x36,e36⟩:=Zgn (W.getD 36 0);have hgs:mF W s=⟨W.getD 0 0,fS W 4 x2,fS W 20 x3,W.getD 1 0,s.If,s.Il,s.ie,s.root,s.vec,s.epc,s.Ie,s.addr,s.Ip,s.eie,IntKind.u64.wrap (s.count+x36),s.halted⟩:=by unfold mF;rw[e2,e3,e36,aQ,aQ]
 have htk:lx W= !((decide (16<(x2:Int))||decide (16<(x3:Int)))||decide (15<W.getD 1 0)):=by unfold lx;rw[e2,e3]
 rw[e36]at y36;have W2:=HW 2 (by decide);have W3:=HW 3 (by decide);have W36:=HW 36 (by decide);rw[e2]at W2;rw[e3]at W3;rw[e36]at W36;obtain⟨b,hb⟩:=Zgn (lx W);rw[hb]at htk⊢;refine bL func135 rfl ntmps135 rfl (Inv.start w) ?_;refine Z_2 ?_;refine ZO fun b3=>?_;refine ZN fun b4=>?_
 refine Z_6 ?_;refine ZS (fun w hi=>jP s Ad Ar cd cr w (h3.Iy hi)) ?_;rintro _ _ ⟨_,⟨A1,c1,A2,c2,rfl,rfl⟩,rfl⟩;refine ZM ?_;refine Z_9 ?_;refine eH (cD rfl rfl) (.cons (dQ rfl) .nil) (fun _ _=>rfl) (fun hg w hi=>wm bm bw Ac n cc R pc hR w (bJ.old h hi)) rfl ?_;refine Z_4 ?_;refine eH (cD rfl rfl) (.cons (dQ rfl) (.cons Zv0 .nil)) (fun _ _=>rfl) (fun hg w hi=>W2 w (bJ.old h hi) (bJ.old h2 hi)) rfl ?_;refine Z_4 ?_;refine eH (cD rfl rfl) (.cons (dQ rfl) (.cons Zv0 .nil)) (fun _ _=>rfl) (fun hg w hi=>W3 w (bJ.old h hi) (bJ.old h2 hi)) rfl ?_;refine Z_4 ?_;refine eH (cD rfl rfl) (.cons (dQ rfl) (.cons (Zv rfl) .nil)) (fun _ _=>rfl) (fun hg w hi=>HW 1 (by decide) w (bJ.old h hi) (bJ.old h2 hi)) rfl ?_;refine Z_4 ?_;refine ZW ?_ ?_<;>intro hc2
 ·have hc:((decide (16<(x2:Int))||decide (16<(x3:Int)))||decide (15<W.getD 1 0))=true:=hc2;rw[hc]at htk;obtain rfl:b=false:=htk;refine Z_3 ?_;refine ZM ?_;refine Z_5 ?_;refine dZ (cs':=[slD s A1 c1,slR s A2 c2]) (.inl rfl) Zu rfl rfl rfl Zh Zrf Zrf ?_;exact⟨⟨A1,c1,A2,c2⟩,rfl,rfl⟩
 have hc:((decide (16<(x2:Int))||decide (16<(x3:Int)))||decide (15<W.getD 1 0))=false:=hc2;rw[hc]at htk;obtain rfl:b=true:=htk;simp only[bj,aj]at hc;have HT2:=wo bm bw Ac n cc R W pc hR hW 4 x2 (by decide) (by omega);have HT3:=wo bm bw Ac n cc R W pc hR hW 20 x3 (by decide) (by omega);rw[ac,hgs];refine Z_5 ?_;refine ZSe (fun w hi=>HW 0 (by decide) w (bJ.old h hi) (bJ.old h2 hi)) ?_;refine ZA ?_;refine ZSe (fun w hi=>HW 1 (by decide) w (bJ.old h hi) (bJ.old h2 hi)) ?_;refine Z_1 ?_;refine ZL ?_;refine Z_1 ?_;refine ZL ?_;refine Z_6 ?_;refine ZSe (fun w hi=>W2 w (bJ.old h hi) (bJ.old h2 hi)) ?_;refine ZS (fun w hi=>HT2 w (bJ.old h hi) (bJ.old h2 hi)) ?_;rintro _ _ ⟨_,⟨A3,c3,rfl,rfl⟩,rfl⟩;refine Z_2 ?_;refine ZSe (fun w hi=>W3 w (bJ.old h hi) (bJ.old h2 hi)) ?_;refine ZS (fun w hi=>HT3 w (bJ.old h hi) (bJ.old h2 hi)) ?_;rintro _ _ ⟨_,⟨A4,c4,rfl,rfl⟩,rfl⟩;refine Z_1 ?_;refine ZL ?_;refine Z_1 ?_;refine ZL ?_;refine Z_3 ?_;refine bX ⟨fun j=>List.elem j [7],[]⟩ Zk ?_;refine ZFe 0 14 ?_;refine ZG 1 ?_;refine ZE 2 ?_;refine cw 3 Zk ?_;refine ZT (fun w hi=>W36 w (bJ.old h hi) (bJ.old h2 hi)) ?_;rintro _ _ ⟨_,⟨rfl,rfl⟩,rfl⟩;refine cN 4 rfl Zk Zk Zk (ce rfl rfl (Zv rfl) (by first|exact IntWalk.u64_in _ ⟨by omega,by omega⟩|exact rfl)) rfl ?_;refine cN 5 rfl Zk Zk Zk (cy Zv0 Zv0 rfl) rfl ?_;refine ZFe 6 14 ?_;refine cw 7 Zk ?_;refine ZQ ?_;refine bN Zk ?_;refine Z_4 ?_;refine ZM ?_;refine Z_4 ?_;refine dZ (cs':=[sl .u32 22 A3 (fS W 4 x2).length c3 (fS W 4 x2),sl .u32 22 A4 (fS W 20 x3).length c4 (fS W 20 x3)]) (.inl rfl) Zu rfl rfl rfl Zh Zrf Zrf ?_;exact⟨⟨A3,c3,A4,c4⟩,rfl,rfl⟩
theorem erun_ok(A:Option Addr)(c:Nat)(C:List HI)(hC:gc C)(hl:C.length≤100000)(s:St)(hw:s.wf)(hs:s.right=true)(Ad Ar:Option Addr)(cd cr:Nat)(w:World)(h:Rd w .u8 A (cJ C).length c (cJ C))(h3:px w s Ad Ar cd cr):
  Ctr prog 96 [.slice A (cJ C).length c,sv s Ad cd Ar cr] w [] (fun x cs=>∃X:hI,x= .tuple #[sv (ia C s).1 X.Ad X.cd X.Ar X.cr,.int .i64 (ia C s).2]∧cs=[slD (ia C s).1 X.Ad X.cd,slR (ia C s).1 X.Ar X.cr]):=by
 have h0:=hm0_ok hw hs;have hm9:=Dn hC 4096 _ h0;have him:=yX hC 4096 ⟨List.replicate 16 0,IK s,0⟩;have hrc:ia C s=yD s (iR C 4096 ⟨List.replicate 16 0,IK s,0⟩):=rfl;obtain⟨W0,hW0⟩:=Zgn (IK s);have HP:=fun bm bw w hi h=>hput_ok bm bw s hs hw Ad Ar cd cr w hi h
 obtain⟨R0,hR0⟩:=Zgn (List.replicate 16 (0:Int));obtain⟨Z0,hZ0⟩:=Zgn (List.replicate 256 (0:Int));have HN:=hnew_ok;rw[hW0,hR0]at h0 hm9 hrc him;rw[hR0,hZ0]at HN HP;rw[hW0]at HP;have HR:=fun bm bw Ac cc w hi=>Gj bm bw Ac cc C hC 4096 (by decide) ⟨R0,W0,0⟩ h0 w hi
 obtain⟨⟨⟨how,im⟩,m9⟩,hq⟩:=Zgn (iR C 4096 ⟨R0,W0,0⟩);rw[hq]at HR hrc hm9 him;dsimp only at HR hrc hm9 him;have hre:yD s ((how,im),m9)=bif how !=1 then(s,0)else bif lx m9.words then(mF m9.words s,im)else(s,0):=rfl
 rw[hrc,hre];clear hrc hq hre;have hR16:R0.length=16:=h0.rl;have HG:=fun bm bw Ac cc w h1 h2 h3=>hget_ok bm bw Ac C.length cc m9.Ix m9.words m9.pc hm9.rl hm9.wl hm9.w s Ad Ar cd cr w h1 h2 h3
 obtain⟨tk,htk⟩:=Zgn (lx m9.words);obtain⟨s9,hs9⟩:=Zgn (mF m9.words s);rw[htk,hs9]at HG⊢;refine bL func96 rfl ntmps96 rfl (Inv.start w) ?_;refine Z_2 ?_;refine ZO fun b3=>?_;refine ZN fun b4=>?_
 refine Z_5 ?_;refine ZS (fun w hi=>HN w) ?_;rintro _ _ ⟨_,⟨bm,bw,rfl,rfl⟩,rfl⟩;refine iG ?_;refine iM (cD rfl rfl) Zh Zrf Zrf (Zv rfl) rfl ?_;refine jm (cD rfl rfl) rfl (dW ([fF bm bw none 0 0 R0 0,hwC bw Z0]) rfl (fun _ _=>rfl) Zi (fun w hi hin=>HP bm bw w hin (fun w' hk=>⟨RdV.Ir h3.d hi Zi hk,RdV.Ir h3.r hi Zi hk,h3.hd,h3.hr⟩))) rfl ?_;rintro _ _ ⟨_,⟨rfl,rfl⟩,rfl⟩;refine Z_5 ?_;refine jm (cD rfl rfl) rfl (dW ([fF bm bw none 0 0 R0 0,hwC bw W0]) rfl (fun _ _=>rfl) Zi (fun w hi hin=>Gk bm bw R0 W0 hR16 A c C hC hl w hin (fun w' hk=>RdV.Ir h hi Zi hk))) rfl ?_;rintro _ _ ⟨_,⟨Ac,cc,rfl,rfl⟩,rfl⟩;refine Z_4 ?_;refine bV rfl (rfl) ?_;refine Z_5 ?_;refine ZcL (hmF bm bw Ac cc C ⟨R0,W0,0⟩) (fun w hi hin=>HR bm bw Ac cc w hin) ?_;rintro _ _ ⟨_,⟨n,rfl,rfl⟩,rfl⟩;refine qn ?_;refine ZW ?_ ?_<;>intro hc5
 ·rw[hc5,ac];refine Z_3 ?_;refine ZS (fun w hi=>jP s Ad Ar cd cr w (h3.Iy hi)) ?_;rintro _ _ ⟨_,⟨A1,c1,A2,c2,rfl,rfl⟩,rfl⟩;refine ZM ?_;refine Z_5 ?_;refine dZ (cs':=[slD s A1 c1,slR s A2 c2]) (.inl rfl) Zu rfl rfl rfl Zh Zrf Zrf ?_;exact⟨⟨A1,c1,A2,c2⟩,rfl,rfl⟩
 rw[hc5,aa];refine Z_6 ?_;refine ZS (fun w hi=>HG bm bw Ac cc w (hi.get Zh) (hi.get Zh) (h3.Iy hi)) ?_;rintro _ _ ⟨_,⟨X,rfl,rfl⟩,rfl⟩;refine Z_3 ?_;refine ZN fun b11=>?_
 refine ZM ?_;refine eJ ?_;refine ZW ?_ ?_<;>intro hc8
 ·obtain rfl:tk=false:=(by cases tk with|false=>rfl|true=>cases hc8);refine Z_3 ?_;refine ZM ?_;refine Z_5 ?_;refine dZ (cs':=[slD s X.Ad X.cd,slR s X.Ar X.cr]) (.inl rfl) Zu rfl rfl rfl Zh Zrf Zrf ?_;exact⟨X,rfl,rfl⟩
 obtain rfl:tk=true:=(by cases tk with|true=>rfl|false=>cases hc8);refine Z_6 ?_;refine Zy (ce rfl rfl Zv0 Zl) ?_;refine ZM ?_;refine Z_4 ?_;refine dZ (cs':=[slD s9 X.Ad X.cd,slR s9 X.Ar X.cr]) (.inl rfl) Zu rfl rfl rfl Zh Zrf Zrf ?_;exact⟨X,rfl,rfl⟩
end Go.Proofs.YtakodpimdalajaaGreatDoor
namespace Go.Ink
open Go.RowKit
abbrev II.cells(x:II):List Value:=[.int .i64 x.op,.int .i64 x.dst,.int .i64 x.a,.int .i64 x.b,.int .u32 x.imm]
structure PAd where
 Ac:Option Addr
 cc:Nat
 Ad:Option Addr
 cd:Nat
 Ar:Option Addr
 cr:Nat
abbrev ji(p:Pg)(Q:PAd):List Value:=[.slice Q.Ac p.code.length Q.cc,.int .i64 p.Ia,.int .i64 p.Ib,.int .i64 p.IB,.int .i64 p.ID,.slice Q.Ad p.Ij.length Q.cd,.slice Q.Ar p.Ik.length Q.cr,.int .i64 p.flags,.int .u32 p.next,.int .i64 p.target,.int .i64 p.branch,.int .u32 p.taken,.int .i64 p.count,.int .i64 p.values]
abbrev pgv(p:Pg)(Q:PAd):Value:= .agg (ji p Q).toArray
structure CdS where
 b:Nat
 p:Pg
 Q:PAd
 pl:Pl
 Ag:Option Addr
 cg:Nat
 As:Option Addr
 cs:Nat
structure CAd where
 Al:Option Addr
 cl:Nat
 Af:Option Addr
 cf:Nat
abbrev m6(S:CdS)(n m:Nat)(X:CAd):List Value:=[.slice S.Q.Ac S.p.code.length S.Q.cc,.int .i64 S.p.Ia,.int .i64 S.p.Ib,.int .i64 S.p.IB,.int .i64 S.p.ID,.slice S.Q.Ad S.p.Ij.length S.Q.cd,.slice S.Q.Ar S.p.Ik.length S.Q.cr,.int .i64 S.p.flags,.int .u32 S.p.next,.int .i64 S.p.target,.int .i64 S.p.branch,.int .u32 S.p.taken,.int .i64 S.p.count,.int .i64 S.p.values,
 .slice S.Ag S.pl.reg.length S.cg,.slice S.As S.pl.slot.length S.cs,.int .i64 S.pl.IC,.slice X.Al n X.cl,.slice X.Af m X.cf]
theorem hi_one(l:List HI):∀u∈l.flatMap HI.cells,u.oneCell'=true:=fun u hu=>by
 obtain⟨i, -,h⟩:=List.mem_flatMap.1 hu;simp only[HI.cells,aL,bh,or_false]at h;rcases h with rfl|rfl|rfl|rfl|rfl<;>rfl
theorem hi_flat(a b:List HI):a.flatMap HI.cells++b.flatMap HI.cells=(a++b).flatMap HI.cells:=by simp
end Go.Ink
namespace Go.Proofs.YtakodpimdalajaaGreatDoor
open Go.RowKit Go.Ink Go.Proofs.Tryz
attribute [local irreducible] OpY bU
abbrev cdF(S:CdS)(l:List HI)(fix:List Int)(X:CAd):List bJ:=[row S.b (m6 S l.length fix.length X) 291,hiC X.Al X.cl l,sl .i64 3 X.Af fix.length X.cf fix]
structure Ex(S:CdS)(w:World):Prop where
 reg:Rd w .i64 S.Ag S.pl.reg.length S.cg S.pl.reg
 slot:Rd w .i64 S.As S.pl.slot.length S.cs S.pl.slot
 Ij:Rd w .i64 S.Q.Ad S.p.Ij.length S.Q.cd S.p.Ij
 Ik:Rd w .i64 S.Q.Ar S.p.Ik.length S.Q.cr S.p.Ik
 code:RdV w 5 S.Q.Ac S.p.code.length S.Q.cc (S.p.code.flatMap II.cells)
section
variable (S:CdS) (l:List HI) (fix:List Int) (X:CAd) (hl:l.length≤50000)
include hl in
theorem jQ(xs:List HI)(A:Option Addr)(c:Nat)(hx:xs.length≤50000)(w:World)(hi:Inv w (bK (cdF S l fix X)) (cdF S l fix X) w)(h:∀w',dR (bK (cdF S l fix X)) w w'→RdV w' 5 A xs.length c (xs.flatMap HI.cells)):
  Ctr prog 174 [.pointer (some ⟨S.b,0,none⟩),.slice A xs.length c] w (cdF S l fix X) (fun r9 cs=>∃l' X',l'=l++xs∧cs=cdF S l' fix X'):=by
 refine bL func174 rfl ntmps174 rfl hi ?_;refine Z_7 ?_;refine dJ (cW (e:=298) (sz:=5) (bytes:=40) rfl rfl Za rfl rfl (fun w hi=>(h w hi.Iz)) (hi_one xs) (by simp only[maxLen];omega) (by omega)) rfl ?_;rintro _ _ ⟨A2,c2,rfl,rfl⟩;rw[hi_flat,←ae];refine Z_2 ?_;refine ZL ?_;refine Zn (fE (cs':=cdF S (l++xs) fix ⟨A2,c2,X.Af,X.cf⟩) (.inr rfl) Zu rfl ?_);exact⟨_,_,rfl,rfl⟩
include hl in
theorem j8(rd v:Int)(w:World)(hi:Inv w (bK (cdF S l fix X)) (cdF S l fix X) w):
  Ctr prog 169 [.pointer (some ⟨S.b,0,none⟩),.int .i64 rd,.int .u32 v] w (cdF S l fix X) (fun r9 cs=>∃l' X',l'=l++[⟨1,rd,0,0,v⟩]∧cs=cdF S l' fix X'):=by
 refine bL func169 rfl ntmps169 rfl hi ?_;refine Z_5 ?_;refine dJ (dh rfl rfl Zrf Zrf rfl rfl rfl) rfl ?_;rintro _ _ ⟨b10,rfl,rfl⟩;refine ZcL (cdF S l fix X) (fun w hi hin=>jQ S l fix X hl [⟨1,rd,0,0,v⟩] (some ⟨b10,0,none⟩) 1 (by simp) w hin (fun w' hk=>dm (hi.IP Zi (show Has _ (slv 298 5 (some ⟨b10,0,none⟩) 1 1 ([⟨1,rd,0,0,v⟩].flatMap HI.cells))from Zh) hk))) ?_;rintro _ _ ⟨_,⟨_,X2,rfl,rfl⟩,rfl⟩;refine Zn (fE (cs':=cdF S (l++[⟨1,rd,0,0,v⟩]) fix X2) (.inr rfl) Zu rfl ?_);exact⟨_,_,rfl,rfl⟩
include hl in
theorem gK(o rd ra rb:Int)(w:World)(hi:Inv w (bK (cdF S l fix X)) (cdF S l fix X) w):
  Ctr prog 227 [.pointer (some ⟨S.b,0,none⟩),.int .i64 o,.int .i64 rd,.int .i64 ra,.int .i64 rb] w (cdF S l fix X) (fun r9 cs=>∃l' X',l'=l++[⟨o,rd,ra,rb,0⟩]∧cs=cdF S l' fix X'):=by
 refine bL func227 rfl ntmps227 rfl hi ?_;refine Z_7 ?_;refine dJ (dh rfl rfl Zrf Zrf rfl rfl rfl) rfl ?_;rintro _ _ ⟨b16,rfl,rfl⟩;refine ZcL (cdF S l fix X) (fun w hi hin=>jQ S l fix X hl [⟨o,rd,ra,rb,0⟩] (some ⟨b16,0,none⟩) 1 (by simp) w hin (fun w' hk=>dm (hi.IP Zi (show Has _ (slv 298 5 (some ⟨b16,0,none⟩) 1 1 ([⟨o,rd,ra,rb,0⟩].flatMap HI.cells))from Zh) hk))) ?_;rintro _ _ ⟨_,⟨_,X2,rfl,rfl⟩,rfl⟩;refine Zn (fE (cs':=cdF S (l++[⟨o,rd,ra,rb,0⟩]) fix X2) (.inr rfl) Zu rfl ?_);exact⟨_,_,rfl,rfl⟩
include hl in
theorem wP(rd ra v:Int)(w:World)(hi:Inv w (bK (cdF S l fix X)) (cdF S l fix X) w):
  Ctr prog 226 [.pointer (some ⟨S.b,0,none⟩),.int .i64 rd,.int .i64 ra,.int .u32 v] w (cdF S l fix X) (fun r9 cs=>∃l' X',l'=l++[⟨14,rd,ra,0,v⟩]∧cs=cdF S l' fix X'):=by
 refine bL func226 rfl ntmps226 rfl hi ?_;refine Z_6 ?_;refine dJ (dh rfl rfl Zrf Zrf rfl rfl rfl) rfl ?_;rintro _ _ ⟨b13,rfl,rfl⟩;refine ZcL (cdF S l fix X) (fun w hi hin=>jQ S l fix X hl [⟨14,rd,ra,0,v⟩] (some ⟨b13,0,none⟩) 1 (by simp) w hin (fun w' hk=>dm (hi.IP Zi (show Has _ (slv 298 5 (some ⟨b13,0,none⟩) 1 1 ([⟨14,rd,ra,0,v⟩].flatMap HI.cells))from Zh) hk))) ?_;rintro _ _ ⟨_,⟨_,X2,rfl,rfl⟩,rfl⟩;refine Zn (fE (cs':=cdF S (l++[⟨14,rd,ra,0,v⟩]) fix X2) (.inr rfl) Zu rfl ?_);exact⟨_,_,rfl,rfl⟩
include hl in
theorem tC(ra v rb:Int)(w:World)(hi:Inv w (bK (cdF S l fix X)) (cdF S l fix X) w):
  Ctr prog 234 [.pointer (some ⟨S.b,0,none⟩),.int .i64 ra,.int .u32 v,.int .i64 rb] w (cdF S l fix X) (fun r9 cs=>∃l' X',l'=l++[⟨15,0,ra,rb,v⟩]∧cs=cdF S l' fix X'):=by
 refine bL func234 rfl ntmps234 rfl hi ?_;refine Z_6 ?_;refine dJ (dh rfl rfl Zrf Zrf rfl rfl rfl) rfl ?_;rintro _ _ ⟨b13,rfl,rfl⟩;refine ZcL (cdF S l fix X) (fun w hi hin=>jQ S l fix X hl [⟨15,0,ra,rb,v⟩] (some ⟨b13,0,none⟩) 1 (by simp) w hin (fun w' hk=>dm (hi.IP Zi (show Has _ (slv 298 5 (some ⟨b13,0,none⟩) 1 1 ([⟨15,0,ra,rb,v⟩].flatMap HI.cells))from Zh) hk))) ?_;rintro _ _ ⟨_,⟨_,X2,rfl,rfl⟩,rfl⟩;refine Zn (fE (cs':=cdF S (l++[⟨15,0,ra,rb,v⟩]) fix X2) (.inr rfl) Zu rfl ?_);exact⟨_,_,rfl,rfl⟩
include hl in
theorem tB(r:Int)(hf:fix.length≤1000)(w:World)(hi:Inv w (bK (cdF S l fix X)) (cdF S l fix X) w):
  Ctr prog 228 [.pointer (some ⟨S.b,0,none⟩),.int .i64 r] w (cdF S l fix X) (fun r9 cs=>∃l' X',l'=l++[⟨17,0,r,0,0⟩]∧cs=cdF S l' (fix++[(l.length:Int)]) X'):=by
 refine bL func228 rfl ntmps228 rfl hi ?_;refine Zs (bX ⟨fun j=>List.elem j [11,14],[]⟩ Zk ?_);refine ZE 0 ?_;refine ZE 1 ?_;refine ZE 2 ?_;refine ZFe 3 18 ?_;refine ZG 4 ?_;refine ZE 5 ?_;refine ZE 6 ?_;refine ZFe 7 17 ?_;refine cw 8 Zk ?_;refine eK rfl (bO Zrf Zv0) (bS Zh rfl) rfl ?_;refine ZE 9 ?_;refine cw 10 Zk ?_;refine gn rfl rfl (bZ rfl rfl Zrf Zrf rfl rfl) ZJ rfl ?_;rintro _ _ ⟨b14,rfl,rfl⟩;refine cw 11 Zk ?_;refine gn rfl rfl (cW (e:=3) (sz:=1) (bytes:=8) rfl rfl Za rfl rfl (fun w hi=>hi.rd (show Has _ (slv 3 1 (some ⟨b14,0,none⟩) 1 1 (ints .i64 [(l.length:Int)]))from Zh)) cY (by simp only[maxLen];omega) (by omega)) ZJ rfl ?_;rintro _ _ ⟨A2,c2,rfl,rfl⟩;rw[cH,show fix.length+1=(fix++[(l.length:Int)]).length by simp];refine ZE 12 ?_;refine ZFe 13 18 ?_;refine cw 14 Zk ?_;refine ZQ ?_;refine bN Zk ?_;refine Z_5 ?_;refine dJ (dh rfl rfl Zrf Zrf rfl rfl rfl) rfl ?_;rintro _ _ ⟨b21,rfl,rfl⟩;refine ZcL (cdF S l (fix++[(l.length:Int)]) ⟨X.Al,X.cl,A2,c2⟩) (fun w hi hin=>jQ S l (fix++[(l.length:Int)]) ⟨X.Al,X.cl,A2,c2⟩ hl [⟨17,0,r,0,0⟩] (some ⟨b21,0,none⟩) 1 (by simp) w hin (fun w' hk=>dm (hi.IP Zi (show Has _ (slv 298 5 (some ⟨b21,0,none⟩) 1 1 ([⟨17,0,r,0,0⟩].flatMap HI.cells))from Zh) hk))) ?_;rintro _ _ ⟨_,⟨_,X2,rfl,rfl⟩,rfl⟩;refine Zn (fE (cs':=cdF S (l++[⟨17,0,r,0,0⟩]) (fix++[(l.length:Int)]) X2) (.inr rfl) Zu rfl ?_);exact⟨_,_,rfl,rfl⟩
end
end Go.Proofs.YtakodpimdalajaaGreatDoor
