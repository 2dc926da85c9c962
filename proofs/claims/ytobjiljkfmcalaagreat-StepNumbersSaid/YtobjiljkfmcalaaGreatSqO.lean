/- Rows of numbers that are the same; the law StepTwins. -/
import Derived.Test.YtobjiljkfmcalaaGreatSqL
import Derived.Test.YtobjiljkfmcalaaGreatInkA
import Derived.Test.YtobjiljkfmcalaaGreatInkC
set_option linter.unusedSimpArgs false
set_option linter.unusedVariables false
set_option maxRecDepth 100000
namespace Go.Ink
open Go.RowKit
end Go.Ink
namespace Go.Proofs.YtobjiljkfmcalaaGreat
open Go.RowKit Go.Ink
attribute [local irreducible] OpY GuardIs

theorem sameInts_ok (A B : Option Addr) (c e : Nat) (l : List Int) (w : World) (h : Rd w .i64 A l.length c l) (h2 : Rd w .i64 B l.length e l) :
  Ctr Tryz.prog 25 [.slice A l.length c, .slice B l.length e] w [] (fun v cs => v = .bool true ∧ cs = []) := by
 have hlm : l.length ≤ maxLen := Nat.le_trans h.cap h.max
 simp only [maxLen] at hlm
 refine fn_ctr Tryz.func25 rfl Tryz.ntmps25 rfl (Inv.start w) ?_
 refine Zs (Zr (ZA ?_))
 refine Zn (Zt (Zs (Zs (Zr (ZA ?_)))))
 iterate 3 refine ZA ?_
 refine Zy (y_neq (Zv rfl) (Zv rfl) (bne_self_eq_false _)) ?_
 refine Zn (Zt (wc_cond_f rfl (rfl) ?_))
 refine Zc (Zt (Zs (Zs (Zr (ZA ?_)))))
 refine Zn (Zt (Zx ?_))
 refine wc_loop (fun k : Nat => [(0, .slice A l.length c), (1, .slice B l.length e), (5, .int .i64 (k : Int))]) (fun _ => []) (fun k => k ≤ l.length) (fun k => l.length - k) (0) ?_ ?_ ?_ ?_
 ·exact Nat.zero_le _
 ·exact Zwk
 ·((repeat (first | exact List.Sublist.slnil | refine List.Sublist.cons_cons _ ?_ | refine List.Sublist.cons _ ?_)))
 rintro k hk
 refine Zs (Zs (Zr (ZA ?_)))
 iterate 3 refine ZA ?_
 refine Zn (Zt ?_)
 refine wc_cond _ rfl (fun hc4 => ?_) (fun hc4 => ?_)
 ·simp only [decide_eq_true_eq] at hc4
  have hkl : k < l.length := (by omega)
  obtain ⟨ad, rfl⟩ := h.some_ (by omega)
  obtain ⟨ae, rfl⟩ := h2.some_ (by omega)
  have hx : l[k]? = some (l[k]'hkl) := List.getElem?_eq_getElem hkl
  obtain ⟨x, hxx⟩ : ∃ x, l[k]'hkl = x := ⟨_, rfl⟩
  rw [hxx] at hx
  refine Zc (Zt (Zs (Zx (Zs (wc_draw ⟨fun j => List.elem j [], []⟩ Zk ?_)))))
  refine ZE 0 ?_
  refine ZE 1 ?_
  refine wa_yn 2 rfl Zk Zk Zk (y_index (j := k)  rfl (fun _ => rfl) (Zv rfl) (Zv rfl)  (fun _ => by omega) (fun _ => by omega)) rfl ?_
  refine wa_ln 3 rfl Zk Zk Zk Zk (y_load (fun _ => rfl) (Zv rfl)) (rd_cell h (ints_at hx)) rfl ?_
  refine ZE 4 ?_
  refine ZE 5 ?_
  refine wa_yn 6 rfl Zk Zk Zk (y_index (j := k)  rfl (fun _ => rfl) (Zv rfl) (Zv rfl)  (fun _ => by omega) (fun _ => by omega)) rfl ?_
  refine wa_ln 7 rfl Zk Zk Zk Zk (y_load (fun _ => rfl) (Zv rfl)) (rd_cell h2 (ints_at hx)) rfl ?_
  refine wa_yn 8 rfl Zk Zk Zk (y_neq (Zv rfl) (Zv rfl) (bne_self_eq_false x)) rfl ?_
  refine wa_done Zk ?_
  refine Zt (wc_cond_f rfl (rfl) ?_)
  refine Zc (Zo (Zt (Zr (ZA ?_))))
  refine Zy (y_add (Zv rfl) (Zv rfl) Zl) ?_
  refine ZA ?_
  refine Zn ?_
  refine q_mid (k + 1) ?_ ?_ ?_
  ·exact ⟨by omega, by omega⟩
  ·exact Zwk
  ((repeat (first | exact List.Sublist.slnil | refine List.Sublist.cons_cons _ ?_ | refine List.Sublist.cons _ ?_)))
 refine wc_exit ?_
 refine q_then_exit ?_
 refine q_then_exit ?_
 refine q_block_same rfl ?_
 refine Zt (Zs (Zr (ZA ?_)))
 refine Zn (Zt (Ze (ret1 (cs' := []) (.inl rfl) Zu rfl rfl ?_)))
 exact ⟨rfl, rfl⟩
end Go.Proofs.YtobjiljkfmcalaaGreat
