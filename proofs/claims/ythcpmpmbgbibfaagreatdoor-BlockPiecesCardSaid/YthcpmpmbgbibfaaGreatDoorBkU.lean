/- The harness's image: bytes, a drive and a number of pages. -/
import Derived.Test.YthcpmpmbgbibfaaGreatDoorBkT
import Derived.Test.YthcpmpmbgbibfaaGreatDoorInkA
import Derived.Test.YthcpmpmbgbibfaaGreatDoorBkS
set_option linter.unusedSimpArgs false
set_option linter.unusedVariables false
set_option maxRecDepth 100000
namespace Go.Proofs.YthcpmpmbgbibfaaGreatDoor
open Go.RowKit Go.Ink
attribute [local irreducible] OpY GuardIs

set_option maxHeartbeats 2000000 in
theorem image_ok (A B : Option Addr) (c e : Nat) (l : List RawR) (pages : Int) (k : List Int) (hk : u8s k) (w : World) (h : RdV w 5 A l.length c (l.flatMap RawR.cells)) (hl : ∀ a, a ∈ l → a.ok w) (hB : Rd w .u8 B k.length e k) :
  Ctr Tryz.prog 8 [.slice A l.length c, .int .i64 pages, .slice B k.length e] w [] (fun v cs => ∃ (A' : Option Addr) (c' : Nat) (E E2 : List Int) (n : Nat), (u8s E ∧ (1 ≤ n ∧ n ≤ 16) ∧ (E.take (n * 64)).length ≤ n * 64) ∧ v = imgV A' c' (E.take (n * 64)) B e (k.take 1024) n ∧ cs = [sl .u8 5 A' E.length c' E]) := by
 have HP := fun w h hl => pieces_ok A c l w h hl
 obtain ⟨m, hm⟩ : ∃ m, within pages 0 15 = m := ⟨_, rfl⟩
 have hmr := within_rng pages 0 15 (by decide)
 rw [hm] at hmr
 have HW := fun w => hm ▸ within_ok pages 0 15 w (by decide) (by decide) (by decide)
 obtain ⟨n0, rfl⟩ : ∃ q : Nat, m = q := Int.eq_ofNat_of_zero_le hmr.1
 have HK := fun w => cut_ok B e k 1024 w hB.cap
 refine fn_ctr Tryz.func8 rfl Tryz.ntmps8 rfl (Inv.start w) ?_
 refine Zs (Zr (ZN fun b6 => ?_))
 refine Zn (Zt (Zs (Zr (ZA ?_))))
 refine ZS (fun w hi => HW w) ?_
 rintro _ _ ⟨_, ⟨rfl, rfl⟩, rfl⟩
 refine Zy (y_add (Zv rfl) (Zv rfl) (show _ = ((1 + n0 : Nat) : Int) from by rw [IntWalk.i64_in _ ⟨by omega, by omega⟩]; omega)) ?_
 refine ZA ?_
 refine Zn (Zt (Zs (Zr (ZA ?_))))
 refine ZS (fun w hi => HP w (h.oldN hi) (fun a ha => ⟨(hl a ha).v, (hl a ha).at_, (hl a ha).rd.oldN hi, (hl a ha).bs⟩)) ?_
 rintro _ _ ⟨_, ⟨A1, c1, E, ⟨hE1, hE2⟩, rfl, rfl⟩, rfl⟩
 refine ZA ?_
 refine Zy (y_mul (Zv rfl) (Zv rfl) (show _ = (((1 + n0) * 64 : Nat) : Int) from by rw [IntWalk.i64_in _ ⟨by omega, by omega⟩]; omega)) ?_
 refine ZS (fun w hi => cut_ok A1 c1 E ((1 + n0) * 64) w (hi.rd (show Has _ (sl .u8 5 A1 E.length c1 E) from Zh)).cap) ?_
 rintro _ _ ⟨_, ⟨rfl, rfl⟩, rfl⟩
 refine ZA ?_
 refine ZS (fun w hi => HK w) ?_
 rintro _ _ ⟨_, ⟨rfl, rfl⟩, rfl⟩
 iterate 2 refine ZA ?_
 refine ZM ?_
 refine Zn (Zt (Ze (qok_pick [row b6 [.slice A1 (E.take ((1 + n0) * 64)).length c1, .slice B (k.take 1024).length e, .int .i64 ((1 + n0 : Nat) : Int)] 25, sl .u8 5 A1 E.length c1 E] Zj ?_)))
 refine retC (cs' := [sl .u8 5 A1 E.length c1 E]) (.inl rfl) Zu rfl rfl Zh (fun _ => rfl) (fun _ => rfl) ?_
 exact ⟨A1, c1, E, [], 1 + n0, ⟨hE1, ⟨by omega, by omega⟩, by rw [List.length_take]; omega⟩, rfl, rfl⟩
end Go.Proofs.YthcpmpmbgbibfaaGreatDoor
