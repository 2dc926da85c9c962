/- The law StepPlays. -/
import Derived.Test.YtobjiljkfmcalaaGreatSsN
import Derived.Test.YtobjiljkfmcalaaGreatInkA
set_option linter.unusedSimpArgs false
set_option linter.unusedVariables false
set_option maxRecDepth 100000
namespace Go.Ink
open Go.RowKit
theorem MOk.init {n : Nat} {b : List Int} (h1 : 1 ≤ n) (h64 : n ≤ 64) (h : b.length ≤ n * 64) (hb : u8s b) : MOk n (Mem.init n b) :=
 ⟨init_ok h hb, h1, h64, fun j hj => by
  show (List.replicate 64 false).getD j false = false
  rw [List.getD_eq_getElem?_getD]
  cases hx : (List.replicate 64 false)[j]? with
  | none => rfl
  | some b => exact (List.mem_replicate.1 (List.mem_of_getElem? hx)).2⟩
end Go.Ink
namespace Go.Proofs.YtobjiljkfmcalaaGreat
open Go.RowKit Go.Ink
attribute [local irreducible] OpY GuardIs

theorem freshT_ok (A B : Option Addr) (c e n : Nat) (l k : List Int) (hn0 : 1 ≤ n) (hn : n ≤ 64) (hl : l.length ≤ n * 64) (hb : u8s l) (hk : k.length ≤ 1024) (w : World) (h : Rd w .u8 A l.length c l) (hB : Rd w .u8 B k.length e k) :
  Ctr Tryz.prog 12 [.slice A l.length c, .slice B k.length e, .int .i64 n] w []
  (fun v cs => ∃ F, F.L.n = n ∧ v = .pointer (some ⟨F.bw, 0, none⟩) ∧ cs = worldRow F :: (ubF F.bu F.bb F.L F.D ⟨none, 0, none, 0⟩ ⟨Mem.init n l, tflush⟩ (Dev.init k) ++ (rmF F.K n (Mem.init n l) ++ [refURow F.bx F.K.bm tflush] ++ refBF F.by_ F.K.bm F.bd ⟨none, 0, none, 0⟩ (Dev.init k)))) := by
 refine (fresh_ok A B c e n l k hn0 hn hl hb hk w h hB).mono ?_
 rintro v cs ⟨F, hF, rfl, rfl⟩
 refine ⟨F, hF, rfl, ?_⟩
 have e : (Mem.init n l).turned.take n = List.replicate n false := by show (List.replicate 64 false).take n = _; rw [List.take_replicate, Nat.min_eq_left hn]
 unfold worldR worldP rmF
 rw [hF, e]
 rfl
end Go.Proofs.YtobjiljkfmcalaaGreat
