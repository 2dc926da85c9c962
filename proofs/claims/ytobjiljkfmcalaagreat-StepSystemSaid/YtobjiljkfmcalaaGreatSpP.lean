/- Instructions as bytes, and words of 32 bits. -/
import Derived.Test.YtobjiljkfmcalaaGreatSpO
import Derived.Test.YtobjiljkfmcalaaGreatInkS
set_option linter.unusedSimpArgs false
set_option linter.unusedVariables false
set_option maxRecDepth 100000
namespace Go.Ink
open Go.RowKit
def opOther (op : Int) : Bool := bif op == 16 then true else bif op == 17 then true else bif op == 18 then true else bif op == 19 then true else bif op == 20 then true else bif op == 21 then true else bif op == 22 then true else bif op == 23 then true else bif op == 24 then true else bif op == 25 then true else bif op == 48 then true else bif op == 49 then true else bif op == 50 then true else bif op == 51 then true else bif op == 52 then true else bif op == 53 then true else bif op == 64 then true else bif op == 65 then true else bif op == 66 then true else bif op == 67 then true else bif op == 68 then true else bif op == 69 then true else false
def opKnown (op : Int) : Bool := bif op == 0 then true else bif op == 1 then true else bif op == 2 then true else bif op == 3 then true else bif op == 4 then true else bif op == 5 then true else bif op == 6 then true else bif op == 7 then true else bif op == 8 then true else bif op == 32 then true else bif op == 33 then true else bif op == 34 then true else bif op == 35 then true else bif op == 36 then true else bif op == 37 then true else bif op == 38 then true else bif op == 39 then true else bif op == 40 then true else opOther op
def opSize (op : Int) : Int := bif op == 1 then 2 else bif op == 32 then 2 else bif op == 33 then 2 else bif op == 34 then 2 else bif op == 35 then 2 else bif op == 36 then 2 else bif op == 37 then 2 else bif op == 38 then 2 else bif op == 66 then 2 else bif op == 67 then 2 else bif op == 2 then 5 else bif !opKnown op then 0 else 1
def opRight (op n : Int) : Bool := bif opSize op == 0 then false else bif opSize op == 1 then n == 0 else bif opSize op == 2 then decide (n ≤ 255) else true
def opSuper (op : Int) : Bool := decide (65 ≤ op) && decide (op ≤ 69)
def flPlain (r : Int) : Int := bif bits .and .u32 r 2147483648 != 0 then bits .or .u32 (bif r == 0 then bits .or .u32 0 1 else 0) 2 else bif r == 0 then bits .or .u32 0 1 else 0
def arMoved (a b : Int) (up : Bool) : Int := bif decide (32 ≤ b) then 0 else bif up then IntKind.u32.wrap (a * 2 ^ (min b.toNat IntKind.u32.bits)) else a.fdiv (2 ^ (min b.toNat IntKind.u32.bits))
def flTail (a b r f : Int) (c : Bool) (o : Int) : Int := bif o != 0 then bits .or .u32 (bif c then bits .or .u32 f 4 else f) 8 else bif c then bits .or .u32 f 4 else f
def flLess (a b : Int) : Int := flTail a b 0 (flPlain (IntKind.u32.wrap (a - b))) (decide (a < b)) (bits .and .u32 (bits .and .u32 (bits .xor .u32 a b) (bits .xor .u32 a (IntKind.u32.wrap (a - b)))) 2147483648)
def flMore (a b : Int) : Int := flTail a b 0 (flPlain (IntKind.u32.wrap (a + b))) (decide (IntKind.u32.wrap (a + b) < a)) (bits .and .u32 (bits .and .u32 (bits .xor .u32 a (IntKind.u32.wrap (a + b))) (bits .xor .u32 b (IntKind.u32.wrap (a + b)))) 2147483648)
def arOf (r : Int) : Int × Int × Bool := (r, flPlain r, true)
def arDo (op a b : Int) : Int × Int × Bool :=
  bif op == 16 then (IntKind.u32.wrap (a + b), flMore a b, true) else bif op == 17 then (IntKind.u32.wrap (a - b), flLess a b, true) else bif op == 25 then (0, flLess a b, true) else bif op == 18 then arOf (bits .and .u32 a b) else bif op == 19 then arOf (bits .or .u32 a b) else bif op == 20 then arOf (bits .xor .u32 a b) else bif op == 21 then arOf (arMoved a b true) else bif op == 22 then arOf (arMoved a b false) else bif op == 23 then arOf (IntKind.u32.wrap (a * b)) else bif op == 24 then (bif b == 0 then (0, 0, false) else arOf (IntKind.u32.wrap (a.tdiv b))) else (0, 0, false)
def arHolds (op f : Int) : Bool × Bool := bif op == 33 then (bits .and .u32 f 1 != 0, true) else bif op == 34 then (bits .and .u32 f 1 == 0, true) else bif op == 35 then (bits .and .u32 f 4 != 0, true) else bif op == 36 then (bits .and .u32 f 2 != 0, true) else bif op == 37 then (bits .and .u32 f 8 != 0, true) else (false, false)
def arSign (b : Int) : Int := IntKind.u32.wrap (IntKind.i32.wrap (IntKind.i8.wrap b))
def opNeeds (op : Int) : (Nat × Nat) × (Nat × Nat) :=
  bif op == 1 then ((0, 1), (0, 0)) else bif op == 2 then ((0, 1), (0, 0)) else bif op == 66 then ((0, 1), (0, 0)) else bif op == 3 then ((1, 2), (0, 0)) else bif op == 4 then ((1, 0), (0, 0)) else bif op == 40 then ((1, 0), (0, 0)) else bif op == 67 then ((1, 0), (0, 0)) else bif op == 68 then ((1, 0), (0, 0)) else bif op == 5 then ((2, 2), (0, 0)) else bif op == 6 then ((2, 3), (0, 0)) else bif op == 7 then ((1, 0), (0, 1)) else bif op == 8 then ((0, 1), (1, 0)) else bif op == 16 then ((2, 1), (0, 0)) else bif op == 17 then ((2, 1), (0, 0)) else bif op == 18 then ((2, 1), (0, 0)) else bif op == 19 then ((2, 1), (0, 0)) else bif op == 20 then ((2, 1), (0, 0)) else bif op == 21 then ((2, 1), (0, 0)) else bif op == 22 then ((2, 1), (0, 0)) else bif op == 23 then ((2, 1), (0, 0)) else bif op == 24 then ((2, 1), (0, 0)) else bif op == 25 then ((2, 0), (0, 0)) else bif op == 49 then ((2, 0), (0, 0)) else bif op == 51 then ((2, 0), (0, 0)) else bif op == 53 then ((2, 0), (0, 0)) else bif op == 48 then ((1, 1), (0, 0)) else bif op == 50 then ((1, 1), (0, 0)) else bif op == 52 then ((1, 1), (0, 0)) else bif op == 38 then ((0, 0), (0, 1)) else bif op == 39 then ((0, 0), (1, 0)) else ((0, 0), (0, 0))
end Go.Ink
namespace Go.Proofs.YtobjiljkfmcalaaGreat
open Go.RowKit Go.Ink

theorem other_ok (op : Int) (w : World) : Ctr Tryz.prog 106 [.int .i64 op] w [] (fun v cs => (∃ s, v = .string s ∧ (s.data.toList == []) = !opOther op) ∧ cs = []) := by
  refine fn_ctr Tryz.func106 rfl Tryz.ntmps106 rfl (Inv.start w) ?_
  refine Zs (Zr (Zg rfl (Zn (Zt (Zs (Zs (Zr (Zm rfl (Zn (Zt (Zx (Zs (Zr (Zy (y_eql (Zv rfl) (Zv rfl) rfl) (Zg rfl (Zn (Zt ?_)))))))))))))))))
  refine wc_cond _ rfl (fun hc2 => ?_) (fun hc2 => ?_)
  · refine Zs (Zr (Zg rfl (Zn (Zt (Ze (Zq (Zw (ret1 (cs' := []) (.inl rfl) Zu rfl rfl ?_))))))))
    refine ⟨⟨_, rfl, ?_⟩, rfl⟩
    simp only [opOther, *, cond_true, cond_false]
    exact rfl
  refine Zs (Zr (Zy (y_eql (Zv rfl) (Zv rfl) rfl) (Zg rfl (Zn (Zt ?_)))))
  refine wc_cond _ rfl (fun hc4 => ?_) (fun hc4 => ?_)
  · refine Zs (Zr (Zg rfl (Zn (Zt (Ze (Zq (Zw (ret1 (cs' := []) (.inl rfl) Zu rfl rfl ?_))))))))
    refine ⟨⟨_, rfl, ?_⟩, rfl⟩
    simp only [opOther, *, cond_true, cond_false]
    exact rfl
  refine Zs (Zr (Zy (y_eql (Zv rfl) (Zv rfl) rfl) (Zg rfl (Zn (Zt ?_)))))
  refine wc_cond _ rfl (fun hc6 => ?_) (fun hc6 => ?_)
  · refine Zs (Zr (Zg rfl (Zn (Zt (Ze (Zq (Zw (ret1 (cs' := []) (.inl rfl) Zu rfl rfl ?_))))))))
    refine ⟨⟨_, rfl, ?_⟩, rfl⟩
    simp only [opOther, *, cond_true, cond_false]
    exact rfl
  refine Zs (Zr (Zy (y_eql (Zv rfl) (Zv rfl) rfl) (Zg rfl (Zn (Zt ?_)))))
  refine wc_cond _ rfl (fun hc8 => ?_) (fun hc8 => ?_)
  · refine Zs (Zr (Zg rfl (Zn (Zt (Ze (Zq (Zw (ret1 (cs' := []) (.inl rfl) Zu rfl rfl ?_))))))))
    refine ⟨⟨_, rfl, ?_⟩, rfl⟩
    simp only [opOther, *, cond_true, cond_false]
    exact rfl
  refine Zs (Zr (Zy (y_eql (Zv rfl) (Zv rfl) rfl) (Zg rfl (Zn (Zt ?_)))))
  refine wc_cond _ rfl (fun hc10 => ?_) (fun hc10 => ?_)
  · refine Zs (Zr (Zg rfl (Zn (Zt (Ze (Zq (Zw (ret1 (cs' := []) (.inl rfl) Zu rfl rfl ?_))))))))
    refine ⟨⟨_, rfl, ?_⟩, rfl⟩
    simp only [opOther, *, cond_true, cond_false]
    exact rfl
  refine Zs (Zr (Zy (y_eql (Zv rfl) (Zv rfl) rfl) (Zg rfl (Zn (Zt ?_)))))
  refine wc_cond _ rfl (fun hc12 => ?_) (fun hc12 => ?_)
  · refine Zs (Zr (Zg rfl (Zn (Zt (Ze (Zq (Zw (ret1 (cs' := []) (.inl rfl) Zu rfl rfl ?_))))))))
    refine ⟨⟨_, rfl, ?_⟩, rfl⟩
    simp only [opOther, *, cond_true, cond_false]
    exact rfl
  refine Zs (Zr (Zy (y_eql (Zv rfl) (Zv rfl) rfl) (Zg rfl (Zn (Zt ?_)))))
  refine wc_cond _ rfl (fun hc14 => ?_) (fun hc14 => ?_)
  · refine Zs (Zr (Zg rfl (Zn (Zt (Ze (Zq (Zw (ret1 (cs' := []) (.inl rfl) Zu rfl rfl ?_))))))))
    refine ⟨⟨_, rfl, ?_⟩, rfl⟩
    simp only [opOther, *, cond_true, cond_false]
    exact rfl
  refine Zs (Zr (Zy (y_eql (Zv rfl) (Zv rfl) rfl) (Zg rfl (Zn (Zt ?_)))))
  refine wc_cond _ rfl (fun hc16 => ?_) (fun hc16 => ?_)
  · refine Zs (Zr (Zg rfl (Zn (Zt (Ze (Zq (Zw (ret1 (cs' := []) (.inl rfl) Zu rfl rfl ?_))))))))
    refine ⟨⟨_, rfl, ?_⟩, rfl⟩
    simp only [opOther, *, cond_true, cond_false]
    exact rfl
  refine Zs (Zr (Zy (y_eql (Zv rfl) (Zv rfl) rfl) (Zg rfl (Zn (Zt ?_)))))
  refine wc_cond _ rfl (fun hc18 => ?_) (fun hc18 => ?_)
  · refine Zs (Zr (Zg rfl (Zn (Zt (Ze (Zq (Zw (ret1 (cs' := []) (.inl rfl) Zu rfl rfl ?_))))))))
    refine ⟨⟨_, rfl, ?_⟩, rfl⟩
    simp only [opOther, *, cond_true, cond_false]
    exact rfl
  refine Zs (Zr (Zy (y_eql (Zv rfl) (Zv rfl) rfl) (Zg rfl (Zn (Zt ?_)))))
  refine wc_cond _ rfl (fun hc20 => ?_) (fun hc20 => ?_)
  · refine Zs (Zr (Zg rfl (Zn (Zt (Ze (Zq (Zw (ret1 (cs' := []) (.inl rfl) Zu rfl rfl ?_))))))))
    refine ⟨⟨_, rfl, ?_⟩, rfl⟩
    simp only [opOther, *, cond_true, cond_false]
    exact rfl
  refine Zs (Zr (Zy (y_eql (Zv rfl) (Zv rfl) rfl) (Zg rfl (Zn (Zt ?_)))))
  refine wc_cond _ rfl (fun hc22 => ?_) (fun hc22 => ?_)
  · refine Zs (Zr (Zg rfl (Zn (Zt (Ze (Zq (Zw (ret1 (cs' := []) (.inl rfl) Zu rfl rfl ?_))))))))
    refine ⟨⟨_, rfl, ?_⟩, rfl⟩
    simp only [opOther, *, cond_true, cond_false]
    exact rfl
  refine Zs (Zr (Zy (y_eql (Zv rfl) (Zv rfl) rfl) (Zg rfl (Zn (Zt ?_)))))
  refine wc_cond _ rfl (fun hc24 => ?_) (fun hc24 => ?_)
  · refine Zs (Zr (Zg rfl (Zn (Zt (Ze (Zq (Zw (ret1 (cs' := []) (.inl rfl) Zu rfl rfl ?_))))))))
    refine ⟨⟨_, rfl, ?_⟩, rfl⟩
    simp only [opOther, *, cond_true, cond_false]
    exact rfl
  refine Zs (Zr (Zy (y_eql (Zv rfl) (Zv rfl) rfl) (Zg rfl (Zn (Zt ?_)))))
  refine wc_cond _ rfl (fun hc26 => ?_) (fun hc26 => ?_)
  · refine Zs (Zr (Zg rfl (Zn (Zt (Ze (Zq (Zw (ret1 (cs' := []) (.inl rfl) Zu rfl rfl ?_))))))))
    refine ⟨⟨_, rfl, ?_⟩, rfl⟩
    simp only [opOther, *, cond_true, cond_false]
    exact rfl
  refine Zs (Zr (Zy (y_eql (Zv rfl) (Zv rfl) rfl) (Zg rfl (Zn (Zt ?_)))))
  refine wc_cond _ rfl (fun hc28 => ?_) (fun hc28 => ?_)
  · refine Zs (Zr (Zg rfl (Zn (Zt (Ze (Zq (Zw (ret1 (cs' := []) (.inl rfl) Zu rfl rfl ?_))))))))
    refine ⟨⟨_, rfl, ?_⟩, rfl⟩
    simp only [opOther, *, cond_true, cond_false]
    exact rfl
  refine Zs (Zr (Zy (y_eql (Zv rfl) (Zv rfl) rfl) (Zg rfl (Zn (Zt ?_)))))
  refine wc_cond _ rfl (fun hc30 => ?_) (fun hc30 => ?_)
  · refine Zs (Zr (Zg rfl (Zn (Zt (Ze (Zq (Zw (ret1 (cs' := []) (.inl rfl) Zu rfl rfl ?_))))))))
    refine ⟨⟨_, rfl, ?_⟩, rfl⟩
    simp only [opOther, *, cond_true, cond_false]
    exact rfl
  refine Zs (Zr (Zy (y_eql (Zv rfl) (Zv rfl) rfl) (Zg rfl (Zn (Zt ?_)))))
  refine wc_cond _ rfl (fun hc32 => ?_) (fun hc32 => ?_)
  · refine Zs (Zr (Zg rfl (Zn (Zt (Ze (Zq (Zw (ret1 (cs' := []) (.inl rfl) Zu rfl rfl ?_))))))))
    refine ⟨⟨_, rfl, ?_⟩, rfl⟩
    simp only [opOther, *, cond_true, cond_false]
    exact rfl
  refine Zs (Zr (Zy (y_eql (Zv rfl) (Zv rfl) rfl) (Zg rfl (Zn (Zt ?_)))))
  refine wc_cond _ rfl (fun hc34 => ?_) (fun hc34 => ?_)
  · refine Zs (Zr (Zg rfl (Zn (Zt (Ze (Zq (Zw (ret1 (cs' := []) (.inl rfl) Zu rfl rfl ?_))))))))
    refine ⟨⟨_, rfl, ?_⟩, rfl⟩
    simp only [opOther, *, cond_true, cond_false]
    exact rfl
  refine Zs (Zr (Zy (y_eql (Zv rfl) (Zv rfl) rfl) (Zg rfl (Zn (Zt ?_)))))
  refine wc_cond _ rfl (fun hc36 => ?_) (fun hc36 => ?_)
  · refine Zs (Zr (Zg rfl (Zn (Zt (Ze (Zq (Zw (ret1 (cs' := []) (.inl rfl) Zu rfl rfl ?_))))))))
    refine ⟨⟨_, rfl, ?_⟩, rfl⟩
    simp only [opOther, *, cond_true, cond_false]
    exact rfl
  refine Zs (Zr (Zy (y_eql (Zv rfl) (Zv rfl) rfl) (Zg rfl (Zn (Zt ?_)))))
  refine wc_cond _ rfl (fun hc38 => ?_) (fun hc38 => ?_)
  · refine Zs (Zr (Zg rfl (Zn (Zt (Ze (Zq (Zw (ret1 (cs' := []) (.inl rfl) Zu rfl rfl ?_))))))))
    refine ⟨⟨_, rfl, ?_⟩, rfl⟩
    simp only [opOther, *, cond_true, cond_false]
    exact rfl
  refine Zs (Zr (Zy (y_eql (Zv rfl) (Zv rfl) rfl) (Zg rfl (Zn (Zt ?_)))))
  refine wc_cond _ rfl (fun hc40 => ?_) (fun hc40 => ?_)
  · refine Zs (Zr (Zg rfl (Zn (Zt (Ze (Zq (Zw (ret1 (cs' := []) (.inl rfl) Zu rfl rfl ?_))))))))
    refine ⟨⟨_, rfl, ?_⟩, rfl⟩
    simp only [opOther, *, cond_true, cond_false]
    exact rfl
  refine Zs (Zr (Zy (y_eql (Zv rfl) (Zv rfl) rfl) (Zg rfl (Zn (Zt ?_)))))
  refine wc_cond _ rfl (fun hc42 => ?_) (fun hc42 => ?_)
  · refine Zs (Zr (Zg rfl (Zn (Zt (Ze (Zq (Zw (ret1 (cs' := []) (.inl rfl) Zu rfl rfl ?_))))))))
    refine ⟨⟨_, rfl, ?_⟩, rfl⟩
    simp only [opOther, *, cond_true, cond_false]
    exact rfl
  refine Zs (Zr (Zy (y_eql (Zv rfl) (Zv rfl) rfl) (Zg rfl (Zn (Zt ?_)))))
  refine wc_cond _ rfl (fun hc44 => ?_) (fun hc44 => ?_)
  · refine Zs (Zr (Zg rfl (Zn (Zt (Ze (Zq (Zw (ret1 (cs' := []) (.inl rfl) Zu rfl rfl ?_))))))))
    refine ⟨⟨_, rfl, ?_⟩, rfl⟩
    simp only [opOther, *, cond_true, cond_false]
    exact rfl
  refine Zc (Zo (Zt (Zs (Zr (Zg rfl (Zn (Zt (Ze (ret1 (cs' := []) (.inl rfl) Zu rfl rfl ?_)))))))))
  refine ⟨⟨_, rfl, ?_⟩, rfl⟩
  simp only [opOther, *, cond_true, cond_false]
  exact rfl
theorem name_ok (op : Int) (w : World) : Ctr Tryz.prog 77 [.int .i64 op] w [] (fun v cs => (∃ s, v = .string s ∧ (s.data.toList == []) = !opKnown op) ∧ cs = []) := by
  refine fn_ctr Tryz.func77 rfl Tryz.ntmps77 rfl (Inv.start w) ?_
  refine Zs (Zr (Zg rfl (Zn (Zt (Zs (Zs (Zr (Zm rfl (Zn (Zt (Zx (Zs (Zr (Zy (y_eql (Zv rfl) (Zv rfl) rfl) (Zg rfl (Zn (Zt ?_)))))))))))))))))
  refine wc_cond _ rfl (fun hc2 => ?_) (fun hc2 => ?_)
  · refine Zs (Zr (Zg rfl (Zn (Zt (Ze (Zq (Zw (ret1 (cs' := []) (.inl rfl) Zu rfl rfl ?_))))))))
    refine ⟨⟨_, rfl, ?_⟩, rfl⟩
    simp only [opKnown, *, cond_true, cond_false]
    exact rfl
  refine Zs (Zr (Zy (y_eql (Zv rfl) (Zv rfl) rfl) (Zg rfl (Zn (Zt ?_)))))
  refine wc_cond _ rfl (fun hc4 => ?_) (fun hc4 => ?_)
  · refine Zs (Zr (Zg rfl (Zn (Zt (Ze (Zq (Zw (ret1 (cs' := []) (.inl rfl) Zu rfl rfl ?_))))))))
    refine ⟨⟨_, rfl, ?_⟩, rfl⟩
    simp only [opKnown, *, cond_true, cond_false]
    exact rfl
  refine Zs (Zr (Zy (y_eql (Zv rfl) (Zv rfl) rfl) (Zg rfl (Zn (Zt ?_)))))
  refine wc_cond _ rfl (fun hc6 => ?_) (fun hc6 => ?_)
  · refine Zs (Zr (Zg rfl (Zn (Zt (Ze (Zq (Zw (ret1 (cs' := []) (.inl rfl) Zu rfl rfl ?_))))))))
    refine ⟨⟨_, rfl, ?_⟩, rfl⟩
    simp only [opKnown, *, cond_true, cond_false]
    exact rfl
  refine Zs (Zr (Zy (y_eql (Zv rfl) (Zv rfl) rfl) (Zg rfl (Zn (Zt ?_)))))
  refine wc_cond _ rfl (fun hc8 => ?_) (fun hc8 => ?_)
  · refine Zs (Zr (Zg rfl (Zn (Zt (Ze (Zq (Zw (ret1 (cs' := []) (.inl rfl) Zu rfl rfl ?_))))))))
    refine ⟨⟨_, rfl, ?_⟩, rfl⟩
    simp only [opKnown, *, cond_true, cond_false]
    exact rfl
  refine Zs (Zr (Zy (y_eql (Zv rfl) (Zv rfl) rfl) (Zg rfl (Zn (Zt ?_)))))
  refine wc_cond _ rfl (fun hc10 => ?_) (fun hc10 => ?_)
  · refine Zs (Zr (Zg rfl (Zn (Zt (Ze (Zq (Zw (ret1 (cs' := []) (.inl rfl) Zu rfl rfl ?_))))))))
    refine ⟨⟨_, rfl, ?_⟩, rfl⟩
    simp only [opKnown, *, cond_true, cond_false]
    exact rfl
  refine Zs (Zr (Zy (y_eql (Zv rfl) (Zv rfl) rfl) (Zg rfl (Zn (Zt ?_)))))
  refine wc_cond _ rfl (fun hc12 => ?_) (fun hc12 => ?_)
  · refine Zs (Zr (Zg rfl (Zn (Zt (Ze (Zq (Zw (ret1 (cs' := []) (.inl rfl) Zu rfl rfl ?_))))))))
    refine ⟨⟨_, rfl, ?_⟩, rfl⟩
    simp only [opKnown, *, cond_true, cond_false]
    exact rfl
  refine Zs (Zr (Zy (y_eql (Zv rfl) (Zv rfl) rfl) (Zg rfl (Zn (Zt ?_)))))
  refine wc_cond _ rfl (fun hc14 => ?_) (fun hc14 => ?_)
  · refine Zs (Zr (Zg rfl (Zn (Zt (Ze (Zq (Zw (ret1 (cs' := []) (.inl rfl) Zu rfl rfl ?_))))))))
    refine ⟨⟨_, rfl, ?_⟩, rfl⟩
    simp only [opKnown, *, cond_true, cond_false]
    exact rfl
  refine Zs (Zr (Zy (y_eql (Zv rfl) (Zv rfl) rfl) (Zg rfl (Zn (Zt ?_)))))
  refine wc_cond _ rfl (fun hc16 => ?_) (fun hc16 => ?_)
  · refine Zs (Zr (Zg rfl (Zn (Zt (Ze (Zq (Zw (ret1 (cs' := []) (.inl rfl) Zu rfl rfl ?_))))))))
    refine ⟨⟨_, rfl, ?_⟩, rfl⟩
    simp only [opKnown, *, cond_true, cond_false]
    exact rfl
  refine Zs (Zr (Zy (y_eql (Zv rfl) (Zv rfl) rfl) (Zg rfl (Zn (Zt ?_)))))
  refine wc_cond _ rfl (fun hc18 => ?_) (fun hc18 => ?_)
  · refine Zs (Zr (Zg rfl (Zn (Zt (Ze (Zq (Zw (ret1 (cs' := []) (.inl rfl) Zu rfl rfl ?_))))))))
    refine ⟨⟨_, rfl, ?_⟩, rfl⟩
    simp only [opKnown, *, cond_true, cond_false]
    exact rfl
  refine Zs (Zr (Zy (y_eql (Zv rfl) (Zv rfl) rfl) (Zg rfl (Zn (Zt ?_)))))
  refine wc_cond _ rfl (fun hc20 => ?_) (fun hc20 => ?_)
  · refine Zs (Zr (Zg rfl (Zn (Zt (Ze (Zq (Zw (ret1 (cs' := []) (.inl rfl) Zu rfl rfl ?_))))))))
    refine ⟨⟨_, rfl, ?_⟩, rfl⟩
    simp only [opKnown, *, cond_true, cond_false]
    exact rfl
  refine Zs (Zr (Zy (y_eql (Zv rfl) (Zv rfl) rfl) (Zg rfl (Zn (Zt ?_)))))
  refine wc_cond _ rfl (fun hc22 => ?_) (fun hc22 => ?_)
  · refine Zs (Zr (Zg rfl (Zn (Zt (Ze (Zq (Zw (ret1 (cs' := []) (.inl rfl) Zu rfl rfl ?_))))))))
    refine ⟨⟨_, rfl, ?_⟩, rfl⟩
    simp only [opKnown, *, cond_true, cond_false]
    exact rfl
  refine Zs (Zr (Zy (y_eql (Zv rfl) (Zv rfl) rfl) (Zg rfl (Zn (Zt ?_)))))
  refine wc_cond _ rfl (fun hc24 => ?_) (fun hc24 => ?_)
  · refine Zs (Zr (Zg rfl (Zn (Zt (Ze (Zq (Zw (ret1 (cs' := []) (.inl rfl) Zu rfl rfl ?_))))))))
    refine ⟨⟨_, rfl, ?_⟩, rfl⟩
    simp only [opKnown, *, cond_true, cond_false]
    exact rfl
  refine Zs (Zr (Zy (y_eql (Zv rfl) (Zv rfl) rfl) (Zg rfl (Zn (Zt ?_)))))
  refine wc_cond _ rfl (fun hc26 => ?_) (fun hc26 => ?_)
  · refine Zs (Zr (Zg rfl (Zn (Zt (Ze (Zq (Zw (ret1 (cs' := []) (.inl rfl) Zu rfl rfl ?_))))))))
    refine ⟨⟨_, rfl, ?_⟩, rfl⟩
    simp only [opKnown, *, cond_true, cond_false]
    exact rfl
  refine Zs (Zr (Zy (y_eql (Zv rfl) (Zv rfl) rfl) (Zg rfl (Zn (Zt ?_)))))
  refine wc_cond _ rfl (fun hc28 => ?_) (fun hc28 => ?_)
  · refine Zs (Zr (Zg rfl (Zn (Zt (Ze (Zq (Zw (ret1 (cs' := []) (.inl rfl) Zu rfl rfl ?_))))))))
    refine ⟨⟨_, rfl, ?_⟩, rfl⟩
    simp only [opKnown, *, cond_true, cond_false]
    exact rfl
  refine Zs (Zr (Zy (y_eql (Zv rfl) (Zv rfl) rfl) (Zg rfl (Zn (Zt ?_)))))
  refine wc_cond _ rfl (fun hc30 => ?_) (fun hc30 => ?_)
  · refine Zs (Zr (Zg rfl (Zn (Zt (Ze (Zq (Zw (ret1 (cs' := []) (.inl rfl) Zu rfl rfl ?_))))))))
    refine ⟨⟨_, rfl, ?_⟩, rfl⟩
    simp only [opKnown, *, cond_true, cond_false]
    exact rfl
  refine Zs (Zr (Zy (y_eql (Zv rfl) (Zv rfl) rfl) (Zg rfl (Zn (Zt ?_)))))
  refine wc_cond _ rfl (fun hc32 => ?_) (fun hc32 => ?_)
  · refine Zs (Zr (Zg rfl (Zn (Zt (Ze (Zq (Zw (ret1 (cs' := []) (.inl rfl) Zu rfl rfl ?_))))))))
    refine ⟨⟨_, rfl, ?_⟩, rfl⟩
    simp only [opKnown, *, cond_true, cond_false]
    exact rfl
  refine Zs (Zr (Zy (y_eql (Zv rfl) (Zv rfl) rfl) (Zg rfl (Zn (Zt ?_)))))
  refine wc_cond _ rfl (fun hc34 => ?_) (fun hc34 => ?_)
  · refine Zs (Zr (Zg rfl (Zn (Zt (Ze (Zq (Zw (ret1 (cs' := []) (.inl rfl) Zu rfl rfl ?_))))))))
    refine ⟨⟨_, rfl, ?_⟩, rfl⟩
    simp only [opKnown, *, cond_true, cond_false]
    exact rfl
  refine Zs (Zr (Zy (y_eql (Zv rfl) (Zv rfl) rfl) (Zg rfl (Zn (Zt ?_)))))
  refine wc_cond _ rfl (fun hc36 => ?_) (fun hc36 => ?_)
  · refine Zs (Zr (Zg rfl (Zn (Zt (Ze (Zq (Zw (ret1 (cs' := []) (.inl rfl) Zu rfl rfl ?_))))))))
    refine ⟨⟨_, rfl, ?_⟩, rfl⟩
    simp only [opKnown, *, cond_true, cond_false]
    exact rfl
  refine Zc (Zo (Zt (Zs (Zr (Zm rfl (wl_t (t_call rfl (fun _ _ => rfl) (fun w hi => other_ok op w)) rfl ?_))))))
  rintro _ _ ⟨_, ⟨⟨s, rfl, hs⟩, rfl⟩, rfl⟩
  refine Zg rfl (Zn (Zt (Ze ?_)))
  have hz := hs
  refine ret1 (cs' := []) (.inl rfl) Zu rfl rfl ?_
  refine ⟨⟨_, rfl, ?_⟩, rfl⟩
  rw [hs]
  simp only [opKnown, *, cond_true, cond_false]
theorem size_ok (op : Int) (w : World) : Ctr Tryz.prog 44 [.int .i64 op] w [] (fun v cs => v = .int .i64 (opSize op) ∧ cs = []) := by
  refine fn_ctr Tryz.func44 rfl Tryz.ntmps44 rfl (Inv.start w) ?_
  refine Zs (Zr (Zg rfl (Zn (Zt (Zs (Zs (Zr (Zm rfl (Zn (Zt (Zx (Zs (Zs (Zr (Zy (y_eql (Zv rfl) (Zv rfl) rfl) (Zg rfl (Zn (Zt ?_))))))))))))))))))
  refine wc_cond _ rfl (fun hc2 => ?_) (fun hc2 => ?_)
  · refine Zc (Zt (wc_cond_t rfl (hc2) ?_))
    refine Zs (Zr (Zg rfl (Zn (Zt (Ze (Zq (Zw (ret1 (cs' := []) (.inl rfl) Zu rfl rfl ?_))))))))
    refine ⟨?_, rfl⟩
    simp only [opSize, *, cond_true, cond_false]
  refine Zs (Zr (Zy (y_eql (Zv rfl) (Zv rfl) rfl) (Zg rfl (Zn (Zt ?_)))))
  refine wc_cond _ rfl (fun hc3 => ?_) (fun hc3 => ?_)
  · refine Zc (Zt (wc_cond_t rfl (hc3) ?_))
    refine Zs (Zr (Zg rfl (Zn (Zt (Ze (Zq (Zw (ret1 (cs' := []) (.inl rfl) Zu rfl rfl ?_))))))))
    refine ⟨?_, rfl⟩
    simp only [opSize, *, cond_true, cond_false]
  refine Zs (Zr (Zy (y_eql (Zv rfl) (Zv rfl) rfl) (Zg rfl (Zn (Zt ?_)))))
  refine wc_cond _ rfl (fun hc4 => ?_) (fun hc4 => ?_)
  · refine Zc (Zt (wc_cond_t rfl (hc4) ?_))
    refine Zs (Zr (Zg rfl (Zn (Zt (Ze (Zq (Zw (ret1 (cs' := []) (.inl rfl) Zu rfl rfl ?_))))))))
    refine ⟨?_, rfl⟩
    simp only [opSize, *, cond_true, cond_false]
  refine Zs (Zr (Zy (y_eql (Zv rfl) (Zv rfl) rfl) (Zg rfl (Zn (Zt ?_)))))
  refine wc_cond _ rfl (fun hc5 => ?_) (fun hc5 => ?_)
  · refine Zc (Zt (wc_cond_t rfl (hc5) ?_))
    refine Zs (Zr (Zg rfl (Zn (Zt (Ze (Zq (Zw (ret1 (cs' := []) (.inl rfl) Zu rfl rfl ?_))))))))
    refine ⟨?_, rfl⟩
    simp only [opSize, *, cond_true, cond_false]
  refine Zs (Zr (Zy (y_eql (Zv rfl) (Zv rfl) rfl) (Zg rfl (Zn (Zt ?_)))))
  refine wc_cond _ rfl (fun hc6 => ?_) (fun hc6 => ?_)
  · refine Zc (Zt (wc_cond_t rfl (hc6) ?_))
    refine Zs (Zr (Zg rfl (Zn (Zt (Ze (Zq (Zw (ret1 (cs' := []) (.inl rfl) Zu rfl rfl ?_))))))))
    refine ⟨?_, rfl⟩
    simp only [opSize, *, cond_true, cond_false]
  refine Zs (Zr (Zy (y_eql (Zv rfl) (Zv rfl) rfl) (Zg rfl (Zn (Zt ?_)))))
  refine wc_cond _ rfl (fun hc7 => ?_) (fun hc7 => ?_)
  · refine Zc (Zt (wc_cond_t rfl (hc7) ?_))
    refine Zs (Zr (Zg rfl (Zn (Zt (Ze (Zq (Zw (ret1 (cs' := []) (.inl rfl) Zu rfl rfl ?_))))))))
    refine ⟨?_, rfl⟩
    simp only [opSize, *, cond_true, cond_false]
  refine Zs (Zr (Zy (y_eql (Zv rfl) (Zv rfl) rfl) (Zg rfl (Zn (Zt ?_)))))
  refine wc_cond _ rfl (fun hc8 => ?_) (fun hc8 => ?_)
  · refine Zc (Zt (wc_cond_t rfl (hc8) ?_))
    refine Zs (Zr (Zg rfl (Zn (Zt (Ze (Zq (Zw (ret1 (cs' := []) (.inl rfl) Zu rfl rfl ?_))))))))
    refine ⟨?_, rfl⟩
    simp only [opSize, *, cond_true, cond_false]
  refine Zs (Zr (Zy (y_eql (Zv rfl) (Zv rfl) rfl) (Zg rfl (Zn (Zt ?_)))))
  refine wc_cond _ rfl (fun hc9 => ?_) (fun hc9 => ?_)
  · refine Zc (Zt (wc_cond_t rfl (hc9) ?_))
    refine Zs (Zr (Zg rfl (Zn (Zt (Ze (Zq (Zw (ret1 (cs' := []) (.inl rfl) Zu rfl rfl ?_))))))))
    refine ⟨?_, rfl⟩
    simp only [opSize, *, cond_true, cond_false]
  refine Zs (Zr (Zy (y_eql (Zv rfl) (Zv rfl) rfl) (Zg rfl (Zn (Zt ?_)))))
  refine wc_cond _ rfl (fun hc10 => ?_) (fun hc10 => ?_)
  · refine Zc (Zt (wc_cond_t rfl (hc10) ?_))
    refine Zs (Zr (Zg rfl (Zn (Zt (Ze (Zq (Zw (ret1 (cs' := []) (.inl rfl) Zu rfl rfl ?_))))))))
    refine ⟨?_, rfl⟩
    simp only [opSize, *, cond_true, cond_false]
  refine Zr (Zy (y_eql (Zv rfl) (Zv rfl) rfl) (Zg rfl (Zn (Zt ?_))))
  refine wc_cond _ rfl (fun hc11 => ?_) (fun hc11 => ?_)
  · refine Zs (Zr (Zg rfl (Zn (Zt (Ze (Zq (Zw (ret1 (cs' := []) (.inl rfl) Zu rfl rfl ?_))))))))
    refine ⟨?_, rfl⟩
    simp only [opSize, *, cond_true, cond_false]
  refine Zs (Zr (Zy (y_eql (Zv rfl) (Zv rfl) rfl) (Zg rfl (Zn (Zt ?_)))))
  refine wc_cond _ rfl (fun hc13 => ?_) (fun hc13 => ?_)
  · refine Zs (Zr (Zg rfl (Zn (Zt (Ze (Zq (Zw (ret1 (cs' := []) (.inl rfl) Zu rfl rfl ?_))))))))
    refine ⟨?_, rfl⟩
    simp only [opSize, *, cond_true, cond_false]
  refine Zc (Zo (Zt (Zs (Zs (Zr (Zm rfl (wl_t (t_call rfl (fun _ _ => rfl) (fun w hi => name_ok op w)) rfl ?_)))))))
  rintro _ _ ⟨_, ⟨⟨s, rfl, hs⟩, rfl⟩, rfl⟩
  refine Zy (y_eqlS rfl (Zv rfl) (Zv rfl) hs) ?_
  refine Zn (Zt ?_)
  refine wc_cond _ rfl (fun hc15 => ?_) (fun hc15 => ?_)
  · refine Zs (Zr (Zg rfl (Zn (Zt (Ze (Zw (ret1 (cs' := []) (.inl rfl) Zu rfl rfl ?_)))))))
    refine ⟨?_, rfl⟩
    simp only [opSize, *, cond_true, cond_false]
  refine Zc (Zt (Zs (Zr (Zg rfl (Zn (Zt (Ze (ret1 (cs' := []) (.inl rfl) Zu rfl rfl ?_))))))))
  refine ⟨?_, rfl⟩
  simp only [opSize, *, cond_true, cond_false]
theorem gright_ok (op n : Int) (w : World) : Ctr Tryz.prog 49 [.agg #[.int .i64 op, .int .u32 n]] w [] (fun v cs => v = .bool (opRight op n) ∧ cs = []) := by
  refine fn_ctr Tryz.func49 rfl Tryz.ntmps49 rfl (Inv.start w) ?_
  refine Zs (Zr (wl_t (t_box rfl rfl) rfl ?_))
  rintro _ _ ⟨b1, rfl, rfl⟩
  refine Zg rfl (Zn (Zt (Zs (Zs (Zr (Zy (y_field 0 rfl (Zv rfl) Zf) ?_))))))
  refine Zz rfl ?_
  refine wl_t (t_call rfl (fun _ _ => rfl) (fun w hi => size_ok op w)) rfl ?_
  rintro _ _ ⟨_, ⟨rfl, rfl⟩, rfl⟩
  refine Zn (Zt (Zx (Zs (Zr (Zy (y_eql (Zv rfl) (Zv rfl) rfl) (Zg rfl (Zn (Zt ?_))))))))
  refine wc_cond _ rfl (fun hc2 => ?_) (fun hc2 => ?_)
  · refine Zs (Zr (Zg rfl (Zn (Zt (Ze (Zq (Zw (ret1 (cs' := []) (.inl rfl) Zu rfl rfl ?_))))))))
    refine ⟨?_, rfl⟩
    simp only [opRight, *, cond_true, cond_false]
  refine Zs (Zr (Zy (y_eql (Zv rfl) (Zv rfl) rfl) (Zg rfl (Zn (Zt ?_)))))
  refine wc_cond _ rfl (fun hc4 => ?_) (fun hc4 => ?_)
  · refine Zs (Zr (Zy (y_field 1 rfl (Zv rfl) Zf) ?_))
    refine Zz rfl ?_
    refine Zy (y_eql (Zv rfl) (Zv rfl) rfl) (Zg rfl (Zn (Zt (Ze (Zq (Zw (ret1 (cs' := []) (.inl rfl) Zu rfl rfl ?_)))))))
    refine ⟨?_, rfl⟩
    simp only [opRight, *, cond_true, cond_false]
  refine Zs (Zr (Zy (y_eql (Zv rfl) (Zv rfl) rfl) (Zg rfl (Zn (Zt ?_)))))
  refine wc_cond _ rfl (fun hc6 => ?_) (fun hc6 => ?_)
  · refine Zs (Zr (Zy (y_field 1 rfl (Zv rfl) Zf) ?_))
    refine Zz rfl ?_
    refine Zy (y_leq (Zv rfl) (Zv rfl) rfl) (Zg rfl (Zn (Zt (Ze (Zq (Zw (ret1 (cs' := []) (.inl rfl) Zu rfl rfl ?_)))))))
    refine ⟨?_, rfl⟩
    simp only [opRight, *, cond_true, cond_false]
  refine Zc (Zo (Zt (Zs (Zr (Zg rfl (Zn (Zt (Ze (ret1 (cs' := []) (.inl rfl) Zu rfl rfl ?_)))))))))
  refine ⟨?_, rfl⟩
  simp only [opRight, *, cond_true, cond_false]
theorem gsuper_ok (op : Int) (w : World) : Ctr Tryz.prog 50 [.int .i64 op] w [] (fun v cs => v = .bool (opSuper op) ∧ cs = []) := by
  refine fn_ctr Tryz.func50 rfl Tryz.ntmps50 rfl (Inv.start w) ?_
  refine Zs (Zr (Zg rfl (Zn (Zt (Zs (Zr (Zm rfl (Zy (y_geq (Zv rfl) (Zv rfl) rfl) (Zm rfl (Zyy rfl rfl (y_move (Zv rfl)) ?_))))))))))
  refine Zyy rfl rfl (y_leq (ev_g rfl) (Zv rfl) rfl) ?_
  refine Zy (y_and (Zv rfl) (pk_yes rfl (fun _ => rfl))) (Zg rfl (Zn (Zt (Ze (ret1 (cs' := []) (.inl rfl) Zu rfl rfl ?_)))))
  exact ⟨rfl, rfl⟩
theorem plain_ok (r : Int) (w : World) : Ctr Tryz.prog 110 [.int .u32 r] w [] (fun v cs => v = .int .u32 (flPlain r) ∧ cs = []) := by
  refine fn_ctr Tryz.func110 rfl Tryz.ntmps110 rfl (Inv.start w) ?_
  refine Zs (Zr (Zg rfl (Zn (Zt (Zs (Zr (Zg rfl (Zn (Zt (Zs (Zs (Zr (Zm rfl (Zy (y_eql (Zv rfl) (Zv rfl) rfl) (Zn (Zt ?_))))))))))))))))
  refine wc_cond _ rfl (fun hc2 => ?_) (fun hc2 => ?_)
  · refine Zr (Zm rfl (Zy (y_or_ (Zv rfl) (Zv rfl) rfl) ?_))
    refine Zg rfl (Zn (Zt (Zs (Zs (Zr (Zm rfl (Zy (y_and_ (Zv rfl) (Zv rfl) rfl) ?_)))))))
    refine Zy (y_neq (Zv rfl) (Zv rfl) rfl) (Zn (Zt ?_))
    refine wc_cond _ rfl (fun hc4 => ?_) (fun hc4 => ?_)
    · refine Zr (Zm rfl (Zy (y_or_ (Zv rfl) (Zv rfl) rfl) ?_))
      refine Zg rfl (Zn (Zt (Zs (Zr (Zm rfl (Zg rfl (Zn (Zt (Ze (ret1 (cs' := []) (.inl rfl) Zu rfl rfl ?_))))))))))
      refine ⟨?_, rfl⟩
      simp only [flPlain, *, cond_true, cond_false]
    refine Zc (Zt (Zs (Zr (Zm rfl (Zg rfl (Zn (Zt (Ze (ret1 (cs' := []) (.inl rfl) Zu rfl rfl ?_)))))))))
    refine ⟨?_, rfl⟩
    simp only [flPlain, *, cond_true, cond_false]
  refine Zc (Zt (Zs (Zs (Zr (Zm rfl (Zy (y_and_ (Zv rfl) (Zv rfl) rfl) ?_))))))
  refine Zy (y_neq (Zv rfl) (Zv rfl) rfl) (Zn (Zt ?_))
  refine wc_cond _ rfl (fun hc4 => ?_) (fun hc4 => ?_)
  · refine Zr (Zm rfl (Zy (y_or_ (Zv rfl) (Zv rfl) rfl) ?_))
    refine Zg rfl (Zn (Zt (Zs (Zr (Zm rfl (Zg rfl (Zn (Zt (Ze (ret1 (cs' := []) (.inl rfl) Zu rfl rfl ?_))))))))))
    refine ⟨?_, rfl⟩
    simp only [flPlain, *, cond_true, cond_false]
  refine Zc (Zt (Zs (Zr (Zm rfl (Zg rfl (Zn (Zt (Ze (ret1 (cs' := []) (.inl rfl) Zu rfl rfl ?_)))))))))
  refine ⟨?_, rfl⟩
  simp only [flPlain, *, cond_true, cond_false]
theorem moved_ok (a b : Int) (up : Bool) (hb : 0 ≤ b) (w : World) : Ctr Tryz.prog 109 [.int .u32 a, .int .u32 b, .bool up] w [] (fun v cs => v = .int .u32 (arMoved a b up) ∧ cs = []) := by
  refine fn_ctr Tryz.func109 rfl Tryz.ntmps109 rfl (Inv.start w) ?_
  refine Zs (Zr (Zg rfl (Zn (Zt (Zs (Zx (Zs (Zr (Zm rfl (Zy (y_geq (Zv rfl) (Zv rfl) rfl) (Zg rfl (Zn (Zt ?_)))))))))))))
  refine wc_cond _ rfl (fun hc1 => ?_) (fun hc1 => ?_)
  · refine Zs (Zr (Zg rfl (Zn (Zt (Ze (Zq (Zw (ret1 (cs' := []) (.inl rfl) Zu rfl rfl ?_))))))))
    refine ⟨?_, rfl⟩
    simp only [arMoved, *, cond_true, cond_false]
  refine Zs (Zr (Zm rfl (Zg rfl (Zn (Zt ?_)))))
  refine wc_cond _ rfl (fun hc3 => ?_) (fun hc3 => ?_)
  · refine Zs (Zr (Zm rfl (Zm rfl (Zy (y_shl (Zv rfl) (Zv rfl) (by omega) rfl) ?_))))
    refine Zg rfl (Zn (Zt (Ze (Zq (Zw (ret1 (cs' := []) (.inl rfl) Zu rfl rfl ?_))))))
    refine ⟨?_, rfl⟩
    simp only [arMoved, *, cond_true, cond_false]
  refine Zc (Zo (Zt (Zs (Zr (Zm rfl (Zm rfl (Zy (y_shr (Zv rfl) (Zv rfl) (by omega) rfl) ?_)))))))
  refine Zg rfl (Zn (Zt (Ze (ret1 (cs' := []) (.inl rfl) Zu rfl rfl ?_))))
  refine ⟨?_, rfl⟩
  simp only [arMoved, *, cond_true, cond_false]
theorem less_ok (a b : Int) (w : World) : Ctr Tryz.prog 108 [.int .u32 a, .int .u32 b] w [] (fun v cs => v = .int .u32 (flLess a b) ∧ cs = []) := by
  refine fn_ctr Tryz.func108 rfl Tryz.ntmps108 rfl (Inv.start w) ?_
  refine Zs (Zr (Zg rfl (Zn (Zt (Zs (Zr (Zm rfl (Zm rfl (Zy (y_sub (Zv rfl) (Zv rfl) rfl) ?_)))))))))
  refine Zg rfl (Zn (Zt (Zs (Zr (Zm rfl (wl_t (t_call rfl (fun _ _ => rfl) (fun w hi => plain_ok _ w)) rfl ?_))))))
  rintro _ _ ⟨_, ⟨rfl, rfl⟩, rfl⟩
  refine Zg rfl (Zn (Zt (Zs (Zs (Zr (Zm rfl (Zm rfl (Zy (y_lss (Zv rfl) (Zv rfl) rfl) (Zn (Zt ?_))))))))))
  refine wc_cond _ rfl (fun hc3 => ?_) (fun hc3 => ?_)
  · refine Zr (Zm rfl (Zy (y_or_ (Zv rfl) (Zv rfl) rfl) ?_))
    refine Zg rfl (Zn (Zt (Zs (Zs (Zr (Zm rfl (Zm rfl (Zy (y_xor_ (Zv rfl) (Zv rfl) rfl) ?_))))))))
    refine Zm rfl (Zm rfl (Zy (y_xor_ (Zv rfl) (Zv rfl) rfl) ?_))
    refine Zy (y_and_ (Zv rfl) (Zv rfl) rfl) ?_
    refine Zy (y_and_ (Zv rfl) (Zv rfl) rfl) ?_
    refine Zy (y_neq (Zv rfl) (Zv rfl) rfl) (Zn (Zt ?_))
    refine wc_cond _ rfl (fun hc5 => ?_) (fun hc5 => ?_)
    · refine Zr (Zm rfl (Zy (y_or_ (Zv rfl) (Zv rfl) rfl) ?_))
      refine Zg rfl (Zn (Zt (Zs (Zr (Zm rfl (Zg rfl (Zn (Zt (Ze (ret1 (cs' := []) (.inl rfl) Zu rfl rfl ?_))))))))))
      refine ⟨?_, rfl⟩
      simp only [flLess, flTail, *, cond_true, cond_false]
    refine Zc (Zt (Zs (Zr (Zm rfl (Zg rfl (Zn (Zt (Ze (ret1 (cs' := []) (.inl rfl) Zu rfl rfl ?_)))))))))
    refine ⟨?_, rfl⟩
    simp only [flLess, flTail, *, cond_true, cond_false]
  refine Zc (Zt (Zs (Zs (Zr (Zm rfl (Zm rfl (Zy (y_xor_ (Zv rfl) (Zv rfl) rfl) ?_)))))))
  refine Zm rfl (Zm rfl (Zy (y_xor_ (Zv rfl) (Zv rfl) rfl) ?_))
  refine Zy (y_and_ (Zv rfl) (Zv rfl) rfl) ?_
  refine Zy (y_and_ (Zv rfl) (Zv rfl) rfl) ?_
  refine Zy (y_neq (Zv rfl) (Zv rfl) rfl) (Zn (Zt ?_))
  refine wc_cond _ rfl (fun hc5 => ?_) (fun hc5 => ?_)
  · refine Zr (Zm rfl (Zy (y_or_ (Zv rfl) (Zv rfl) rfl) ?_))
    refine Zg rfl (Zn (Zt (Zs (Zr (Zm rfl (Zg rfl (Zn (Zt (Ze (ret1 (cs' := []) (.inl rfl) Zu rfl rfl ?_))))))))))
    refine ⟨?_, rfl⟩
    simp only [flLess, flTail, *, cond_true, cond_false]
  refine Zc (Zt (Zs (Zr (Zm rfl (Zg rfl (Zn (Zt (Ze (ret1 (cs' := []) (.inl rfl) Zu rfl rfl ?_)))))))))
  refine ⟨?_, rfl⟩
  simp only [flLess, flTail, *, cond_true, cond_false]
theorem more_ok (a b : Int) (w : World) : Ctr Tryz.prog 107 [.int .u32 a, .int .u32 b] w [] (fun v cs => v = .int .u32 (flMore a b) ∧ cs = []) := by
  refine fn_ctr Tryz.func107 rfl Tryz.ntmps107 rfl (Inv.start w) ?_
  refine Zs (Zr (Zg rfl (Zn (Zt (Zs (Zr (Zm rfl (Zm rfl (Zy (y_add (Zv rfl) (Zv rfl) rfl) ?_)))))))))
  refine Zg rfl (Zn (Zt (Zs (Zr (Zm rfl (wl_t (t_call rfl (fun _ _ => rfl) (fun w hi => plain_ok _ w)) rfl ?_))))))
  rintro _ _ ⟨_, ⟨rfl, rfl⟩, rfl⟩
  refine Zg rfl (Zn (Zt (Zs (Zs (Zr (Zm rfl (Zm rfl (Zy (y_lss (Zv rfl) (Zv rfl) rfl) (Zn (Zt ?_))))))))))
  refine wc_cond _ rfl (fun hc3 => ?_) (fun hc3 => ?_)
  · refine Zr (Zm rfl (Zy (y_or_ (Zv rfl) (Zv rfl) rfl) ?_))
    refine Zg rfl (Zn (Zt (Zs (Zs (Zr (Zm rfl (Zm rfl (Zy (y_xor_ (Zv rfl) (Zv rfl) rfl) ?_))))))))
    refine Zm rfl (Zm rfl (Zy (y_xor_ (Zv rfl) (Zv rfl) rfl) ?_))
    refine Zy (y_and_ (Zv rfl) (Zv rfl) rfl) ?_
    refine Zy (y_and_ (Zv rfl) (Zv rfl) rfl) ?_
    refine Zy (y_neq (Zv rfl) (Zv rfl) rfl) (Zn (Zt ?_))
    refine wc_cond _ rfl (fun hc5 => ?_) (fun hc5 => ?_)
    · refine Zr (Zm rfl (Zy (y_or_ (Zv rfl) (Zv rfl) rfl) ?_))
      refine Zg rfl (Zn (Zt (Zs (Zr (Zm rfl (Zg rfl (Zn (Zt (Ze (ret1 (cs' := []) (.inl rfl) Zu rfl rfl ?_))))))))))
      refine ⟨?_, rfl⟩
      simp only [flMore, flTail, *, cond_true, cond_false]
    refine Zc (Zt (Zs (Zr (Zm rfl (Zg rfl (Zn (Zt (Ze (ret1 (cs' := []) (.inl rfl) Zu rfl rfl ?_)))))))))
    refine ⟨?_, rfl⟩
    simp only [flMore, flTail, *, cond_true, cond_false]
  refine Zc (Zt (Zs (Zs (Zr (Zm rfl (Zm rfl (Zy (y_xor_ (Zv rfl) (Zv rfl) rfl) ?_)))))))
  refine Zm rfl (Zm rfl (Zy (y_xor_ (Zv rfl) (Zv rfl) rfl) ?_))
  refine Zy (y_and_ (Zv rfl) (Zv rfl) rfl) ?_
  refine Zy (y_and_ (Zv rfl) (Zv rfl) rfl) ?_
  refine Zy (y_neq (Zv rfl) (Zv rfl) rfl) (Zn (Zt ?_))
  refine wc_cond _ rfl (fun hc5 => ?_) (fun hc5 => ?_)
  · refine Zr (Zm rfl (Zy (y_or_ (Zv rfl) (Zv rfl) rfl) ?_))
    refine Zg rfl (Zn (Zt (Zs (Zr (Zm rfl (Zg rfl (Zn (Zt (Ze (ret1 (cs' := []) (.inl rfl) Zu rfl rfl ?_))))))))))
    refine ⟨?_, rfl⟩
    simp only [flMore, flTail, *, cond_true, cond_false]
  refine Zc (Zt (Zs (Zr (Zm rfl (Zg rfl (Zn (Zt (Ze (ret1 (cs' := []) (.inl rfl) Zu rfl rfl ?_)))))))))
  refine ⟨?_, rfl⟩
  simp only [flMore, flTail, *, cond_true, cond_false]
theorem ado_ok (op a b : Int) (hb : 0 ≤ b) (w : World) : Ctr Tryz.prog 82 [.int .i64 op, .int .u32 a, .int .u32 b] w [] (fun v cs => v = .tuple #[.int .u32 (arDo op a b).1, .int .u32 (arDo op a b).2.1, .bool (arDo op a b).2.2] ∧ cs = []) := by
  refine fn_ctr Tryz.func82 rfl Tryz.ntmps82 rfl (Inv.start w) ?_
  refine Zs (Zr (Zg rfl (Zg rfl (Zg rfl (Zn (Zt (Zs (Zr (Zg rfl (Zn (Zt (Zs (Zs (Zr (Zm rfl (Zn (Zt (Zx (Zs (Zr (Zy (y_eql (Zv rfl) (Zv rfl) rfl) (Zg rfl (Zn ?_)))))))))))))))))))))))
  refine Zt ?_
  refine wc_cond _ rfl (fun hc4 => ?_) (fun hc4 => ?_)
  · refine Zs (Zr (Zm rfl (Zm rfl (Zy (y_add (Zv rfl) (Zv rfl) rfl) ?_))))
    refine Zm rfl (Zm rfl (wl_t (t_call rfl (fun _ _ => rfl) (fun w hi => more_ok a b w)) rfl ?_))
    rintro _ _ ⟨_, ⟨rfl, rfl⟩, rfl⟩
    refine Zg rfl (Zg rfl (Zg rfl (Zn (Zt (Ze (Zq (Zw (ret3 (cs' := []) (.inl rfl) Zu rfl rfl rfl rfl ?_))))))))
    refine ⟨?_, rfl⟩
    simp only [arDo, arOf, *, cond_true, cond_false]
  refine Zs (Zr (Zy (y_eql (Zv rfl) (Zv rfl) rfl) (Zg rfl (Zn (Zt ?_)))))
  refine wc_cond _ rfl (fun hc6 => ?_) (fun hc6 => ?_)
  · refine Zs (Zr (Zm rfl (Zm rfl (Zy (y_sub (Zv rfl) (Zv rfl) rfl) ?_))))
    refine Zm rfl (Zm rfl (wl_t (t_call rfl (fun _ _ => rfl) (fun w hi => less_ok a b w)) rfl ?_))
    rintro _ _ ⟨_, ⟨rfl, rfl⟩, rfl⟩
    refine Zg rfl (Zg rfl (Zg rfl (Zn (Zt (Ze (Zq (Zw (ret3 (cs' := []) (.inl rfl) Zu rfl rfl rfl rfl ?_))))))))
    refine ⟨?_, rfl⟩
    simp only [arDo, arOf, *, cond_true, cond_false]
  refine Zs (Zr (Zy (y_eql (Zv rfl) (Zv rfl) rfl) (Zg rfl (Zn (Zt ?_)))))
  refine wc_cond _ rfl (fun hc8 => ?_) (fun hc8 => ?_)
  · refine Zs (Zr (Zm rfl (Zm rfl (wl_t (t_call rfl (fun _ _ => rfl) (fun w hi => less_ok a b w)) rfl ?_))))
    rintro _ _ ⟨_, ⟨rfl, rfl⟩, rfl⟩
    refine Zg rfl (Zg rfl (Zg rfl (Zn (Zt (Ze (Zq (Zw (ret3 (cs' := []) (.inl rfl) Zu rfl rfl rfl rfl ?_))))))))
    refine ⟨?_, rfl⟩
    simp only [arDo, arOf, *, cond_true, cond_false]
  refine Zs (Zr (Zy (y_eql (Zv rfl) (Zv rfl) rfl) (Zg rfl (Zn (Zt ?_)))))
  refine wc_cond _ rfl (fun hc10 => ?_) (fun hc10 => ?_)
  · refine Zr (Zm rfl (Zm rfl (Zy (y_and_ (Zv rfl) (Zv rfl) rfl) ?_)))
    refine Zg rfl (Zn (Zo (Zt (Zs (Zr (Zm rfl (Zm rfl (wl_t (t_call rfl (fun _ _ => rfl) (fun w hi => plain_ok _ w)) rfl ?_))))))))
    rintro _ _ ⟨_, ⟨rfl, rfl⟩, rfl⟩
    refine Zg rfl (Zg rfl (Zg rfl (Zn (Zt (Ze (ret3 (cs' := []) (.inl rfl) Zu rfl rfl rfl rfl ?_))))))
    refine ⟨?_, rfl⟩
    simp only [arDo, arOf, *, cond_true, cond_false]
  refine Zs (Zr (Zy (y_eql (Zv rfl) (Zv rfl) rfl) (Zg rfl (Zn (Zt ?_)))))
  refine wc_cond _ rfl (fun hc12 => ?_) (fun hc12 => ?_)
  · refine Zr (Zm rfl (Zm rfl (Zy (y_or_ (Zv rfl) (Zv rfl) rfl) ?_)))
    refine Zg rfl (Zn (Zo (Zt (Zs (Zr (Zm rfl (Zm rfl (wl_t (t_call rfl (fun _ _ => rfl) (fun w hi => plain_ok _ w)) rfl ?_))))))))
    rintro _ _ ⟨_, ⟨rfl, rfl⟩, rfl⟩
    refine Zg rfl (Zg rfl (Zg rfl (Zn (Zt (Ze (ret3 (cs' := []) (.inl rfl) Zu rfl rfl rfl rfl ?_))))))
    refine ⟨?_, rfl⟩
    simp only [arDo, arOf, *, cond_true, cond_false]
  refine Zs (Zr (Zy (y_eql (Zv rfl) (Zv rfl) rfl) (Zg rfl (Zn (Zt ?_)))))
  refine wc_cond _ rfl (fun hc14 => ?_) (fun hc14 => ?_)
  · refine Zr (Zm rfl (Zm rfl (Zy (y_xor_ (Zv rfl) (Zv rfl) rfl) ?_)))
    refine Zg rfl (Zn (Zo (Zt (Zs (Zr (Zm rfl (Zm rfl (wl_t (t_call rfl (fun _ _ => rfl) (fun w hi => plain_ok _ w)) rfl ?_))))))))
    rintro _ _ ⟨_, ⟨rfl, rfl⟩, rfl⟩
    refine Zg rfl (Zg rfl (Zg rfl (Zn (Zt (Ze (ret3 (cs' := []) (.inl rfl) Zu rfl rfl rfl rfl ?_))))))
    refine ⟨?_, rfl⟩
    simp only [arDo, arOf, *, cond_true, cond_false]
  refine Zs (Zr (Zy (y_eql (Zv rfl) (Zv rfl) rfl) (Zg rfl (Zn (Zt ?_)))))
  refine wc_cond _ rfl (fun hc16 => ?_) (fun hc16 => ?_)
  · refine Zr (Zm rfl (Zm rfl (wl_t (t_call rfl (fun _ _ => rfl) (fun w hi => moved_ok a b _ hb w)) rfl ?_)))
    rintro _ _ ⟨_, ⟨rfl, rfl⟩, rfl⟩
    refine Zg rfl (Zn (Zo (Zt (Zs (Zr (Zm rfl (Zm rfl (wl_t (t_call rfl (fun _ _ => rfl) (fun w hi => plain_ok _ w)) rfl ?_))))))))
    rintro _ _ ⟨_, ⟨rfl, rfl⟩, rfl⟩
    refine Zg rfl (Zg rfl (Zg rfl (Zn (Zt (Ze (ret3 (cs' := []) (.inl rfl) Zu rfl rfl rfl rfl ?_))))))
    refine ⟨?_, rfl⟩
    simp only [arDo, arOf, *, cond_true, cond_false]
  refine Zs (Zr (Zy (y_eql (Zv rfl) (Zv rfl) rfl) (Zg rfl (Zn (Zt ?_)))))
  refine wc_cond _ rfl (fun hc18 => ?_) (fun hc18 => ?_)
  · refine Zr (Zm rfl (Zm rfl (wl_t (t_call rfl (fun _ _ => rfl) (fun w hi => moved_ok a b _ hb w)) rfl ?_)))
    rintro _ _ ⟨_, ⟨rfl, rfl⟩, rfl⟩
    refine Zg rfl (Zn (Zo (Zt (Zs (Zr (Zm rfl (Zm rfl (wl_t (t_call rfl (fun _ _ => rfl) (fun w hi => plain_ok _ w)) rfl ?_))))))))
    rintro _ _ ⟨_, ⟨rfl, rfl⟩, rfl⟩
    refine Zg rfl (Zg rfl (Zg rfl (Zn (Zt (Ze (ret3 (cs' := []) (.inl rfl) Zu rfl rfl rfl rfl ?_))))))
    refine ⟨?_, rfl⟩
    simp only [arDo, arOf, *, cond_true, cond_false]
  refine Zs (Zr (Zy (y_eql (Zv rfl) (Zv rfl) rfl) (Zg rfl (Zn (Zt ?_)))))
  refine wc_cond _ rfl (fun hc20 => ?_) (fun hc20 => ?_)
  · refine Zr (Zm rfl (Zm rfl (Zy (y_mul (Zv rfl) (Zv rfl) rfl) ?_)))
    refine Zg rfl (Zn (Zo (Zt (Zs (Zr (Zm rfl (Zm rfl (wl_t (t_call rfl (fun _ _ => rfl) (fun w hi => plain_ok _ w)) rfl ?_))))))))
    rintro _ _ ⟨_, ⟨rfl, rfl⟩, rfl⟩
    refine Zg rfl (Zg rfl (Zg rfl (Zn (Zt (Ze (ret3 (cs' := []) (.inl rfl) Zu rfl rfl rfl rfl ?_))))))
    refine ⟨?_, rfl⟩
    simp only [arDo, arOf, *, cond_true, cond_false]
  refine Zs (Zr (Zy (y_eql (Zv rfl) (Zv rfl) rfl) (Zg rfl (Zn (Zt ?_)))))
  refine wc_cond _ rfl (fun hc22 => ?_) (fun hc22 => ?_)
  · refine Zs (Zs (Zr (Zm rfl (Zy (y_eql (Zv rfl) (Zv rfl) rfl) (Zn (Zt ?_))))))
    refine wc_cond _ rfl (fun hc23 => ?_) (fun hc23 => ?_)
    · refine Zs (Zr (Zg rfl (Zg rfl (Zg rfl (Zn (Zt (Ze (Zw (Zq (Zw (ret3 (cs' := []) (.inl rfl) Zu rfl rfl rfl rfl ?_)))))))))))
      refine ⟨?_, rfl⟩
      simp only [arDo, arOf, *, cond_true, cond_false]
    have hb0 : b ≠ 0 := by simpa using hc23
    refine Zc (Zt (Zr (Zm rfl (Zm rfl (Zy (y_quo (Zv rfl) (Zv rfl) (by omega) (by first | exact IntWalk.u32_quo _ _ ⟨by omega, by omega, by omega⟩ | exact rfl)) ?_)))))
    refine Zg rfl (Zn (Zo (Zt (Zs (Zr (Zm rfl (Zm rfl (wl_t (t_call rfl (fun _ _ => rfl) (fun w hi => plain_ok _ w)) rfl ?_))))))))
    rintro _ _ ⟨_, ⟨rfl, rfl⟩, rfl⟩
    refine Zg rfl (Zg rfl (Zg rfl (Zn (Zt (Ze (ret3 (cs' := []) (.inl rfl) Zu rfl rfl rfl rfl ?_))))))
    refine ⟨?_, rfl⟩
    simp only [arDo, arOf, *, cond_true, cond_false]
  refine Zs (Zr (Zg rfl (Zg rfl (Zg rfl (Zn (Zt (Ze (Zq (Zw (ret3 (cs' := []) (.inl rfl) Zu rfl rfl rfl rfl ?_))))))))))
  refine ⟨?_, rfl⟩
  simp only [arDo, arOf, *, cond_true, cond_false]
theorem holds_ok (op f : Int) (w : World) : Ctr Tryz.prog 84 [.int .i64 op, .int .u32 f] w [] (fun v cs => v = .tuple #[.bool (arHolds op f).1, .bool (arHolds op f).2] ∧ cs = []) := by
  refine fn_ctr Tryz.func84 rfl Tryz.ntmps84 rfl (Inv.start w) ?_
  refine Zs (Zr (Zg rfl (Zg rfl (Zn (Zt (Zs (Zs (Zr (Zm rfl (Zn (Zt (Zx (Zs (Zr (Zy (y_eql (Zv rfl) (Zv rfl) rfl) (Zg rfl (Zn (Zt ?_))))))))))))))))))
  refine wc_cond _ rfl (fun hc2 => ?_) (fun hc2 => ?_)
  · refine Zs (Zr (Zm rfl (Zy (y_and_ (Zv rfl) (Zv rfl) rfl) ?_)))
    refine Zy (y_neq (Zv rfl) (Zv rfl) rfl) (Zg rfl (Zg rfl (Zn (Zt (Ze (Zq (Zw (ret2 (cs' := []) (.inl rfl) Zu rfl rfl rfl ?_))))))))
    refine ⟨?_, rfl⟩
    simp only [arHolds, *, cond_true, cond_false]
  refine Zs (Zr (Zy (y_eql (Zv rfl) (Zv rfl) rfl) (Zg rfl (Zn (Zt ?_)))))
  refine wc_cond _ rfl (fun hc4 => ?_) (fun hc4 => ?_)
  · refine Zs (Zr (Zm rfl (Zy (y_and_ (Zv rfl) (Zv rfl) rfl) ?_)))
    refine Zy (y_eql (Zv rfl) (Zv rfl) rfl) (Zg rfl (Zg rfl (Zn (Zt (Ze (Zq (Zw (ret2 (cs' := []) (.inl rfl) Zu rfl rfl rfl ?_))))))))
    refine ⟨?_, rfl⟩
    simp only [arHolds, *, cond_true, cond_false]
  refine Zs (Zr (Zy (y_eql (Zv rfl) (Zv rfl) rfl) (Zg rfl (Zn (Zt ?_)))))
  refine wc_cond _ rfl (fun hc6 => ?_) (fun hc6 => ?_)
  · refine Zs (Zr (Zm rfl (Zy (y_and_ (Zv rfl) (Zv rfl) rfl) ?_)))
    refine Zy (y_neq (Zv rfl) (Zv rfl) rfl) (Zg rfl (Zg rfl (Zn (Zt (Ze (Zq (Zw (ret2 (cs' := []) (.inl rfl) Zu rfl rfl rfl ?_))))))))
    refine ⟨?_, rfl⟩
    simp only [arHolds, *, cond_true, cond_false]
  refine Zs (Zr (Zy (y_eql (Zv rfl) (Zv rfl) rfl) (Zg rfl (Zn (Zt ?_)))))
  refine wc_cond _ rfl (fun hc8 => ?_) (fun hc8 => ?_)
  · refine Zs (Zr (Zm rfl (Zy (y_and_ (Zv rfl) (Zv rfl) rfl) ?_)))
    refine Zy (y_neq (Zv rfl) (Zv rfl) rfl) (Zg rfl (Zg rfl (Zn (Zt (Ze (Zq (Zw (ret2 (cs' := []) (.inl rfl) Zu rfl rfl rfl ?_))))))))
    refine ⟨?_, rfl⟩
    simp only [arHolds, *, cond_true, cond_false]
  refine Zs (Zr (Zy (y_eql (Zv rfl) (Zv rfl) rfl) (Zg rfl (Zn (Zt ?_)))))
  refine wc_cond _ rfl (fun hc10 => ?_) (fun hc10 => ?_)
  · refine Zs (Zr (Zm rfl (Zy (y_and_ (Zv rfl) (Zv rfl) rfl) ?_)))
    refine Zy (y_neq (Zv rfl) (Zv rfl) rfl) (Zg rfl (Zg rfl (Zn (Zt (Ze (Zq (Zw (ret2 (cs' := []) (.inl rfl) Zu rfl rfl rfl ?_))))))))
    refine ⟨?_, rfl⟩
    simp only [arHolds, *, cond_true, cond_false]
  refine Zc (Zo (Zt (Zs (Zr (Zg rfl (Zg rfl (Zn (Zt (Ze (ret2 (cs' := []) (.inl rfl) Zu rfl rfl rfl ?_))))))))))
  refine ⟨?_, rfl⟩
  simp only [arHolds, *, cond_true, cond_false]
theorem sign_ok (b : Int) (w : World) : Ctr Tryz.prog 81 [.int .u32 b] w [] (fun v cs => v = .int .u32 (arSign b) ∧ cs = []) := by
  refine fn_ctr Tryz.func81 rfl Tryz.ntmps81 rfl (Inv.start w) ?_
  refine Zs (Zr (Zg rfl (Zn (Zt (Zs (Zr (Zm rfl (Zy (y_conv rfl rfl (Zv rfl) rfl) ?_))))))))
  refine Zy (y_conv rfl rfl (Zv rfl) rfl) ?_
  refine Zy (y_conv rfl rfl (Zv rfl) rfl) ?_
  refine Zg rfl (Zn (Zt (Ze (ret1 (cs' := []) (.inl rfl) Zu rfl rfl ?_))))
  exact ⟨rfl, rfl⟩
theorem needs_ok (op : Int) (w : World) : Ctr Tryz.prog 17 [.int .i64 op] w [] (fun v cs => v = .tuple #[.int .i64 ((opNeeds op).1.1 : Nat), .int .i64 ((opNeeds op).1.2 : Nat), .int .i64 ((opNeeds op).2.1 : Nat), .int .i64 ((opNeeds op).2.2 : Nat)] ∧ cs = []) := by
  refine fn_ctr Tryz.func17 rfl Tryz.ntmps17 rfl (Inv.start w) ?_
  refine Zs (Zr (Zg rfl (Zg rfl (Zg rfl (Zg rfl (Zn (Zt (Zs (Zs (Zr (Zm rfl (Zn (Zt (Zx (Zs (Zs (Zr (Zy (y_eql (Zv rfl) (Zv rfl) rfl) (Zg rfl (Zn (Zt ?_)))))))))))))))))))))
  refine wc_cond _ rfl (fun hc2 => ?_) (fun hc2 => ?_)
  · refine Zc (Zt (wc_cond_t rfl (hc2) ?_))
    refine Zs (Zr (Zg rfl (Zg rfl (Zg rfl (Zg rfl (Zn (Zt (Ze (Zq (Zw (ret4 (cs' := []) (.inl rfl) Zu rfl rfl rfl rfl rfl ?_)))))))))))
    refine ⟨?_, rfl⟩
    simp only [opNeeds, *, cond_true, cond_false]
    exact rfl
  refine Zs (Zr (Zy (y_eql (Zv rfl) (Zv rfl) rfl) (Zg rfl (Zn (Zt ?_)))))
  refine wc_cond _ rfl (fun hc3 => ?_) (fun hc3 => ?_)
  · refine Zc (Zt (wc_cond_t rfl (hc3) ?_))
    refine Zs (Zr (Zg rfl (Zg rfl (Zg rfl (Zg rfl (Zn (Zt (Ze (Zq (Zw (ret4 (cs' := []) (.inl rfl) Zu rfl rfl rfl rfl rfl ?_)))))))))))
    refine ⟨?_, rfl⟩
    simp only [opNeeds, *, cond_true, cond_false]
    exact rfl
  refine Zr (Zy (y_eql (Zv rfl) (Zv rfl) rfl) (Zg rfl (Zn (Zt ?_))))
  refine wc_cond _ rfl (fun hc4 => ?_) (fun hc4 => ?_)
  · refine Zs (Zr (Zg rfl (Zg rfl (Zg rfl (Zg rfl (Zn (Zt (Ze (Zq (Zw (ret4 (cs' := []) (.inl rfl) Zu rfl rfl rfl rfl rfl ?_)))))))))))
    refine ⟨?_, rfl⟩
    simp only [opNeeds, *, cond_true, cond_false]
    exact rfl
  refine Zs (Zr (Zy (y_eql (Zv rfl) (Zv rfl) rfl) (Zg rfl (Zn (Zt ?_)))))
  refine wc_cond _ rfl (fun hc6 => ?_) (fun hc6 => ?_)
  · refine Zs (Zr (Zg rfl (Zg rfl (Zg rfl (Zg rfl (Zn (Zt (Ze (Zq (Zw (ret4 (cs' := []) (.inl rfl) Zu rfl rfl rfl rfl rfl ?_)))))))))))
    refine ⟨?_, rfl⟩
    simp only [opNeeds, *, cond_true, cond_false]
    exact rfl
  refine Zs (Zs (Zr (Zy (y_eql (Zv rfl) (Zv rfl) rfl) (Zg rfl (Zn (Zt ?_))))))
  refine wc_cond _ rfl (fun hc8 => ?_) (fun hc8 => ?_)
  · refine Zc (Zt (wc_cond_t rfl (hc8) ?_))
    refine Zs (Zr (Zg rfl (Zg rfl (Zg rfl (Zg rfl (Zn (Zt (Ze (Zq (Zw (ret4 (cs' := []) (.inl rfl) Zu rfl rfl rfl rfl rfl ?_)))))))))))
    refine ⟨?_, rfl⟩
    simp only [opNeeds, *, cond_true, cond_false]
    exact rfl
  refine Zs (Zr (Zy (y_eql (Zv rfl) (Zv rfl) rfl) (Zg rfl (Zn (Zt ?_)))))
  refine wc_cond _ rfl (fun hc9 => ?_) (fun hc9 => ?_)
  · refine Zc (Zt (wc_cond_t rfl (hc9) ?_))
    refine Zs (Zr (Zg rfl (Zg rfl (Zg rfl (Zg rfl (Zn (Zt (Ze (Zq (Zw (ret4 (cs' := []) (.inl rfl) Zu rfl rfl rfl rfl rfl ?_)))))))))))
    refine ⟨?_, rfl⟩
    simp only [opNeeds, *, cond_true, cond_false]
    exact rfl
  refine Zs (Zr (Zy (y_eql (Zv rfl) (Zv rfl) rfl) (Zg rfl (Zn (Zt ?_)))))
  refine wc_cond _ rfl (fun hc10 => ?_) (fun hc10 => ?_)
  · refine Zc (Zt (wc_cond_t rfl (hc10) ?_))
    refine Zs (Zr (Zg rfl (Zg rfl (Zg rfl (Zg rfl (Zn (Zt (Ze (Zq (Zw (ret4 (cs' := []) (.inl rfl) Zu rfl rfl rfl rfl rfl ?_)))))))))))
    refine ⟨?_, rfl⟩
    simp only [opNeeds, *, cond_true, cond_false]
    exact rfl
  refine Zr (Zy (y_eql (Zv rfl) (Zv rfl) rfl) (Zg rfl (Zn (Zt ?_))))
  refine wc_cond _ rfl (fun hc11 => ?_) (fun hc11 => ?_)
  · refine Zs (Zr (Zg rfl (Zg rfl (Zg rfl (Zg rfl (Zn (Zt (Ze (Zq (Zw (ret4 (cs' := []) (.inl rfl) Zu rfl rfl rfl rfl rfl ?_)))))))))))
    refine ⟨?_, rfl⟩
    simp only [opNeeds, *, cond_true, cond_false]
    exact rfl
  refine Zs (Zr (Zy (y_eql (Zv rfl) (Zv rfl) rfl) (Zg rfl (Zn (Zt ?_)))))
  refine wc_cond _ rfl (fun hc13 => ?_) (fun hc13 => ?_)
  · refine Zs (Zr (Zg rfl (Zg rfl (Zg rfl (Zg rfl (Zn (Zt (Ze (Zq (Zw (ret4 (cs' := []) (.inl rfl) Zu rfl rfl rfl rfl rfl ?_)))))))))))
    refine ⟨?_, rfl⟩
    simp only [opNeeds, *, cond_true, cond_false]
    exact rfl
  refine Zs (Zr (Zy (y_eql (Zv rfl) (Zv rfl) rfl) (Zg rfl (Zn (Zt ?_)))))
  refine wc_cond _ rfl (fun hc15 => ?_) (fun hc15 => ?_)
  · refine Zs (Zr (Zg rfl (Zg rfl (Zg rfl (Zg rfl (Zn (Zt (Ze (Zq (Zw (ret4 (cs' := []) (.inl rfl) Zu rfl rfl rfl rfl rfl ?_)))))))))))
    refine ⟨?_, rfl⟩
    simp only [opNeeds, *, cond_true, cond_false]
    exact rfl
  refine Zs (Zr (Zy (y_eql (Zv rfl) (Zv rfl) rfl) (Zg rfl (Zn (Zt ?_)))))
  refine wc_cond _ rfl (fun hc17 => ?_) (fun hc17 => ?_)
  · refine Zs (Zr (Zg rfl (Zg rfl (Zg rfl (Zg rfl (Zn (Zt (Ze (Zq (Zw (ret4 (cs' := []) (.inl rfl) Zu rfl rfl rfl rfl rfl ?_)))))))))))
    refine ⟨?_, rfl⟩
    simp only [opNeeds, *, cond_true, cond_false]
    exact rfl
  refine Zs (Zr (Zy (y_eql (Zv rfl) (Zv rfl) rfl) (Zg rfl (Zn (Zt ?_)))))
  refine wc_cond _ rfl (fun hc19 => ?_) (fun hc19 => ?_)
  · refine Zs (Zr (Zg rfl (Zg rfl (Zg rfl (Zg rfl (Zn (Zt (Ze (Zq (Zw (ret4 (cs' := []) (.inl rfl) Zu rfl rfl rfl rfl rfl ?_)))))))))))
    refine ⟨?_, rfl⟩
    simp only [opNeeds, *, cond_true, cond_false]
    exact rfl
  refine Zs (Zs (Zr (Zy (y_eql (Zv rfl) (Zv rfl) rfl) (Zg rfl (Zn (Zt ?_))))))
  refine wc_cond _ rfl (fun hc21 => ?_) (fun hc21 => ?_)
  · refine Zc (Zt (wc_cond_t rfl (hc21) ?_))
    refine Zs (Zr (Zg rfl (Zg rfl (Zg rfl (Zg rfl (Zn (Zt (Ze (Zq (Zw (ret4 (cs' := []) (.inl rfl) Zu rfl rfl rfl rfl rfl ?_)))))))))))
    refine ⟨?_, rfl⟩
    simp only [opNeeds, *, cond_true, cond_false]
    exact rfl
  refine Zs (Zr (Zy (y_eql (Zv rfl) (Zv rfl) rfl) (Zg rfl (Zn (Zt ?_)))))
  refine wc_cond _ rfl (fun hc22 => ?_) (fun hc22 => ?_)
  · refine Zc (Zt (wc_cond_t rfl (hc22) ?_))
    refine Zs (Zr (Zg rfl (Zg rfl (Zg rfl (Zg rfl (Zn (Zt (Ze (Zq (Zw (ret4 (cs' := []) (.inl rfl) Zu rfl rfl rfl rfl rfl ?_)))))))))))
    refine ⟨?_, rfl⟩
    simp only [opNeeds, *, cond_true, cond_false]
    exact rfl
  refine Zs (Zr (Zy (y_eql (Zv rfl) (Zv rfl) rfl) (Zg rfl (Zn (Zt ?_)))))
  refine wc_cond _ rfl (fun hc23 => ?_) (fun hc23 => ?_)
  · refine Zc (Zt (wc_cond_t rfl (hc23) ?_))
    refine Zs (Zr (Zg rfl (Zg rfl (Zg rfl (Zg rfl (Zn (Zt (Ze (Zq (Zw (ret4 (cs' := []) (.inl rfl) Zu rfl rfl rfl rfl rfl ?_)))))))))))
    refine ⟨?_, rfl⟩
    simp only [opNeeds, *, cond_true, cond_false]
    exact rfl
  refine Zs (Zr (Zy (y_eql (Zv rfl) (Zv rfl) rfl) (Zg rfl (Zn (Zt ?_)))))
  refine wc_cond _ rfl (fun hc24 => ?_) (fun hc24 => ?_)
  · refine Zc (Zt (wc_cond_t rfl (hc24) ?_))
    refine Zs (Zr (Zg rfl (Zg rfl (Zg rfl (Zg rfl (Zn (Zt (Ze (Zq (Zw (ret4 (cs' := []) (.inl rfl) Zu rfl rfl rfl rfl rfl ?_)))))))))))
    refine ⟨?_, rfl⟩
    simp only [opNeeds, *, cond_true, cond_false]
    exact rfl
  refine Zs (Zr (Zy (y_eql (Zv rfl) (Zv rfl) rfl) (Zg rfl (Zn (Zt ?_)))))
  refine wc_cond _ rfl (fun hc25 => ?_) (fun hc25 => ?_)
  · refine Zc (Zt (wc_cond_t rfl (hc25) ?_))
    refine Zs (Zr (Zg rfl (Zg rfl (Zg rfl (Zg rfl (Zn (Zt (Ze (Zq (Zw (ret4 (cs' := []) (.inl rfl) Zu rfl rfl rfl rfl rfl ?_)))))))))))
    refine ⟨?_, rfl⟩
    simp only [opNeeds, *, cond_true, cond_false]
    exact rfl
  refine Zs (Zr (Zy (y_eql (Zv rfl) (Zv rfl) rfl) (Zg rfl (Zn (Zt ?_)))))
  refine wc_cond _ rfl (fun hc26 => ?_) (fun hc26 => ?_)
  · refine Zc (Zt (wc_cond_t rfl (hc26) ?_))
    refine Zs (Zr (Zg rfl (Zg rfl (Zg rfl (Zg rfl (Zn (Zt (Ze (Zq (Zw (ret4 (cs' := []) (.inl rfl) Zu rfl rfl rfl rfl rfl ?_)))))))))))
    refine ⟨?_, rfl⟩
    simp only [opNeeds, *, cond_true, cond_false]
    exact rfl
  refine Zs (Zr (Zy (y_eql (Zv rfl) (Zv rfl) rfl) (Zg rfl (Zn (Zt ?_)))))
  refine wc_cond _ rfl (fun hc27 => ?_) (fun hc27 => ?_)
  · refine Zc (Zt (wc_cond_t rfl (hc27) ?_))
    refine Zs (Zr (Zg rfl (Zg rfl (Zg rfl (Zg rfl (Zn (Zt (Ze (Zq (Zw (ret4 (cs' := []) (.inl rfl) Zu rfl rfl rfl rfl rfl ?_)))))))))))
    refine ⟨?_, rfl⟩
    simp only [opNeeds, *, cond_true, cond_false]
    exact rfl
  refine Zs (Zr (Zy (y_eql (Zv rfl) (Zv rfl) rfl) (Zg rfl (Zn (Zt ?_)))))
  refine wc_cond _ rfl (fun hc28 => ?_) (fun hc28 => ?_)
  · refine Zc (Zt (wc_cond_t rfl (hc28) ?_))
    refine Zs (Zr (Zg rfl (Zg rfl (Zg rfl (Zg rfl (Zn (Zt (Ze (Zq (Zw (ret4 (cs' := []) (.inl rfl) Zu rfl rfl rfl rfl rfl ?_)))))))))))
    refine ⟨?_, rfl⟩
    simp only [opNeeds, *, cond_true, cond_false]
    exact rfl
  refine Zr (Zy (y_eql (Zv rfl) (Zv rfl) rfl) (Zg rfl (Zn (Zt ?_))))
  refine wc_cond _ rfl (fun hc29 => ?_) (fun hc29 => ?_)
  · refine Zs (Zr (Zg rfl (Zg rfl (Zg rfl (Zg rfl (Zn (Zt (Ze (Zq (Zw (ret4 (cs' := []) (.inl rfl) Zu rfl rfl rfl rfl rfl ?_)))))))))))
    refine ⟨?_, rfl⟩
    simp only [opNeeds, *, cond_true, cond_false]
    exact rfl
  refine Zs (Zs (Zr (Zy (y_eql (Zv rfl) (Zv rfl) rfl) (Zg rfl (Zn (Zt ?_))))))
  refine wc_cond _ rfl (fun hc31 => ?_) (fun hc31 => ?_)
  · refine Zc (Zt (wc_cond_t rfl (hc31) ?_))
    refine Zs (Zr (Zg rfl (Zg rfl (Zg rfl (Zg rfl (Zn (Zt (Ze (Zq (Zw (ret4 (cs' := []) (.inl rfl) Zu rfl rfl rfl rfl rfl ?_)))))))))))
    refine ⟨?_, rfl⟩
    simp only [opNeeds, *, cond_true, cond_false]
    exact rfl
  refine Zs (Zr (Zy (y_eql (Zv rfl) (Zv rfl) rfl) (Zg rfl (Zn (Zt ?_)))))
  refine wc_cond _ rfl (fun hc32 => ?_) (fun hc32 => ?_)
  · refine Zc (Zt (wc_cond_t rfl (hc32) ?_))
    refine Zs (Zr (Zg rfl (Zg rfl (Zg rfl (Zg rfl (Zn (Zt (Ze (Zq (Zw (ret4 (cs' := []) (.inl rfl) Zu rfl rfl rfl rfl rfl ?_)))))))))))
    refine ⟨?_, rfl⟩
    simp only [opNeeds, *, cond_true, cond_false]
    exact rfl
  refine Zs (Zr (Zy (y_eql (Zv rfl) (Zv rfl) rfl) (Zg rfl (Zn (Zt ?_)))))
  refine wc_cond _ rfl (fun hc33 => ?_) (fun hc33 => ?_)
  · refine Zc (Zt (wc_cond_t rfl (hc33) ?_))
    refine Zs (Zr (Zg rfl (Zg rfl (Zg rfl (Zg rfl (Zn (Zt (Ze (Zq (Zw (ret4 (cs' := []) (.inl rfl) Zu rfl rfl rfl rfl rfl ?_)))))))))))
    refine ⟨?_, rfl⟩
    simp only [opNeeds, *, cond_true, cond_false]
    exact rfl
  refine Zr (Zy (y_eql (Zv rfl) (Zv rfl) rfl) (Zg rfl (Zn (Zt ?_))))
  refine wc_cond _ rfl (fun hc34 => ?_) (fun hc34 => ?_)
  · refine Zs (Zr (Zg rfl (Zg rfl (Zg rfl (Zg rfl (Zn (Zt (Ze (Zq (Zw (ret4 (cs' := []) (.inl rfl) Zu rfl rfl rfl rfl rfl ?_)))))))))))
    refine ⟨?_, rfl⟩
    simp only [opNeeds, *, cond_true, cond_false]
    exact rfl
  refine Zs (Zs (Zr (Zy (y_eql (Zv rfl) (Zv rfl) rfl) (Zg rfl (Zn (Zt ?_))))))
  refine wc_cond _ rfl (fun hc36 => ?_) (fun hc36 => ?_)
  · refine Zc (Zt (wc_cond_t rfl (hc36) ?_))
    refine Zs (Zr (Zg rfl (Zg rfl (Zg rfl (Zg rfl (Zn (Zt (Ze (Zq (Zw (ret4 (cs' := []) (.inl rfl) Zu rfl rfl rfl rfl rfl ?_)))))))))))
    refine ⟨?_, rfl⟩
    simp only [opNeeds, *, cond_true, cond_false]
    exact rfl
  refine Zs (Zr (Zy (y_eql (Zv rfl) (Zv rfl) rfl) (Zg rfl (Zn (Zt ?_)))))
  refine wc_cond _ rfl (fun hc37 => ?_) (fun hc37 => ?_)
  · refine Zc (Zt (wc_cond_t rfl (hc37) ?_))
    refine Zs (Zr (Zg rfl (Zg rfl (Zg rfl (Zg rfl (Zn (Zt (Ze (Zq (Zw (ret4 (cs' := []) (.inl rfl) Zu rfl rfl rfl rfl rfl ?_)))))))))))
    refine ⟨?_, rfl⟩
    simp only [opNeeds, *, cond_true, cond_false]
    exact rfl
  refine Zr (Zy (y_eql (Zv rfl) (Zv rfl) rfl) (Zg rfl (Zn (Zt ?_))))
  refine wc_cond _ rfl (fun hc38 => ?_) (fun hc38 => ?_)
  · refine Zs (Zr (Zg rfl (Zg rfl (Zg rfl (Zg rfl (Zn (Zt (Ze (Zq (Zw (ret4 (cs' := []) (.inl rfl) Zu rfl rfl rfl rfl rfl ?_)))))))))))
    refine ⟨?_, rfl⟩
    simp only [opNeeds, *, cond_true, cond_false]
    exact rfl
  refine Zs (Zr (Zy (y_eql (Zv rfl) (Zv rfl) rfl) (Zg rfl (Zn (Zt ?_)))))
  refine wc_cond _ rfl (fun hc40 => ?_) (fun hc40 => ?_)
  · refine Zs (Zr (Zg rfl (Zg rfl (Zg rfl (Zg rfl (Zn (Zt (Ze (Zq (Zw (ret4 (cs' := []) (.inl rfl) Zu rfl rfl rfl rfl rfl ?_)))))))))))
    refine ⟨?_, rfl⟩
    simp only [opNeeds, *, cond_true, cond_false]
    exact rfl
  refine Zs (Zr (Zy (y_eql (Zv rfl) (Zv rfl) rfl) (Zg rfl (Zn (Zt ?_)))))
  refine wc_cond _ rfl (fun hc42 => ?_) (fun hc42 => ?_)
  · refine Zs (Zr (Zg rfl (Zg rfl (Zg rfl (Zg rfl (Zn (Zt (Ze (Zq (Zw (ret4 (cs' := []) (.inl rfl) Zu rfl rfl rfl rfl rfl ?_)))))))))))
    refine ⟨?_, rfl⟩
    simp only [opNeeds, *, cond_true, cond_false]
    exact rfl
  refine Zc (Zo (Zt (Zs (Zr (Zg rfl (Zg rfl (Zg rfl (Zg rfl (Zn (Zt (Ze (ret4 (cs' := []) (.inl rfl) Zu rfl rfl rfl rfl rfl ?_))))))))))))
  refine ⟨?_, rfl⟩
  simp only [opNeeds, *, cond_true, cond_false]
  exact rfl
end Go.Proofs.YtobjiljkfmcalaaGreat
