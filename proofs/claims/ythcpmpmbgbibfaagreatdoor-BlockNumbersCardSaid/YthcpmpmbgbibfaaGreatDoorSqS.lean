/- A guest's parts and the document's are alike. -/
import Derived.Test.YthcpmpmbgbibfaaGreatDoorSqL
import Derived.Test.YthcpmpmbgbibfaaGreatDoorInkA
import Derived.Test.YthcpmpmbgbibfaaGreatDoorInkP
set_option linter.unusedSimpArgs false
set_option linter.unusedVariables false
set_option maxRecDepth 100000
namespace Go.Proofs.YthcpmpmbgbibfaaGreatDoor
open Go.RowKit Go.Ink
attribute [local irreducible] OpY GuardIs

theorem conout_ok (b : Nat) (Ao : Option Addr) (co : Nat) (o : List Int) (Ai : Option Addr) (ni ci : Nat) (ho : o.length ≤ 1000000000) (w : World) (h : (conC b Ao o.length co Ai ni ci).ok w) (h2 : (b8 Ao co o).ok w) :
  Ctr Tryz.prog 15 [.pointer (some ⟨b, 0, none⟩)] w [] (fun v cs => ∃ A' c', v = .slice A' o.length c' ∧ cs = [b8 A' c' o]) := by
 refine fn_ctr Tryz.func15 rfl Tryz.ntmps15 rfl (Inv.start w) ?_
 refine Zs (Zr (ZA ?_))
 refine Zn (Zt (Zs (Zr (ZA ?_))))
 refine ZA ?_
 refine ZFa 0 ?_
 refine wl_y (y_load (fun _ => rfl) (Zv rfl)) (old_row (by assumption) rfl) rfl ?_
 refine ZS (fun w hi => cloneb_ok Ao _ co o w (RdV.oldN (slv_rd h2) hi) (by omega)) ?_
 rintro _ _ ⟨_, ⟨A', c', rfl, rfl⟩, rfl⟩
 refine ZA ?_
 refine Zn (Zt (Ze (ret1 (cs' := [slv _ _ _ _ _ _]) (.inl rfl) Zu rfl rfl ?_)))
 exact ⟨_, _, rfl, rfl⟩
theorem conin_ok (b : Nat) (Ao : Option Addr) (no co : Nat) (Ai : Option Addr) (ci : Nat) (i : List Int) (ho : i.length ≤ 1000000000) (w : World) (h : (conC b Ao no co Ai i.length ci).ok w) (h2 : (b8 Ai ci i).ok w) :
  Ctr Tryz.prog 50 [.pointer (some ⟨b, 0, none⟩)] w [] (fun v cs => ∃ A' c', v = .slice A' i.length c' ∧ cs = [b8 A' c' i]) := by
 refine fn_ctr Tryz.func50 rfl Tryz.ntmps50 rfl (Inv.start w) ?_
 refine Zs (Zr (ZA ?_))
 refine Zn (Zt (Zs (Zr (ZA ?_))))
 refine ZA ?_
 refine ZFa 1 ?_
 refine wl_y (y_load (fun _ => rfl) (Zv rfl)) (old_row (by assumption) rfl) rfl ?_
 refine ZS (fun w hi => cloneb_ok Ai _ ci i w (RdV.oldN (slv_rd h2) hi) (by omega)) ?_
 rintro _ _ ⟨_, ⟨A', c', rfl, rfl⟩, rfl⟩
 refine ZA ?_
 refine Zn (Zt (Ze (ret1 (cs' := [slv _ _ _ _ _ _]) (.inl rfl) Zu rfl rfl ?_)))
 exact ⟨_, _, rfl, rfl⟩
theorem driall_ok (b bd : Nat) (l : List Int) (w : World) (h : (driC b bd).ok w) (h2 : (dskC bd l).ok w) :
  Ctr Tryz.prog 51 [.pointer (some ⟨b, 0, none⟩)] w [] (fun v cs => ∃ A' c', v = .slice A' 1024 c' ∧ cs = [sl .u8 5 A' 1024 c' l]) := by
 refine fn_ctr Tryz.func51 rfl Tryz.ntmps51 rfl (Inv.start w) ?_
 refine Zs (Zr (ZA ?_))
 refine Zn (Zt (Zs (Zr (ZA ?_))))
 refine ZA ?_
 refine ZFa 0 ?_
 refine wl_y (y_load (fun _ => rfl) (Zv rfl)) (old_row (by assumption) rfl) rfl ?_
 refine ZS (fun w hi => cloneb_ok (some ⟨bd, 0, none⟩) 1024 1024 l w (RdV.oldN (slv_rd h2) hi) (by decide)) ?_
 rintro _ _ ⟨_, ⟨A', c', rfl, rfl⟩, rfl⟩
 refine ZA ?_
 refine Zn (Zt (Ze (ret1 (cs' := [slv _ _ _ _ _ _]) (.inl rfl) Zu rfl rfl ?_)))
 exact ⟨_, _, rfl, rfl⟩
theorem entry_eq (e : TE) : EqV Tryz.prog 10000 114 e.v e.v :=
 .struct rfl Zk (EqF.cons (by decide) (fun _ => rfl) (fun _ => rfl) (.bool rfl) (EqF.cons (by decide) (fun _ => rfl) (fun _ => rfl) (.int rfl) (EqF.cons (by decide) (fun _ => rfl) (fun _ => rfl) (.int rfl) (EqF.cons (by decide) (fun _ => rfl) (fun _ => rfl) (.int rfl) EqF.nil))))
theorem entry_guard : Tryz.prog.eqGuardType Tryz.prog.depth 114 = false := by kernel_rfl
end Go.Proofs.YthcpmpmbgbibfaaGreatDoor
