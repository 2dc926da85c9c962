/- A block, as it is meant: its beginning, what is fetched, what ends it. No program in sight. -/
import Derived.Test.YthcpmpmbgbibfaaGreatDoorSqL
import Derived.Test.YthcpmpmbgbibfaaGreatDoorSqT
set_option linter.unusedSimpArgs false
set_option linter.unusedVariables false
set_option maxRecDepth 100000
namespace Go.Ink
open Go.RowKit
def tzTab : List Int := [0, 1, 28, 2, 29, 14, 24, 3, 30, 22, 20, 15, 25, 17, 4, 8, 31, 27, 13, 23, 21, 19, 16, 7, 26, 12, 18, 6, 11, 5, 10, 9]
/-- The lowest line of so many from k on. -/
def lowFrom (b : Nat) : Nat → Nat → Option Nat
  | _, 0 => none
  | k, m + 1 => bif b / 2 ^ k % 2 == 1 then some k else lowFrom b (k + 1) m
def lowOf (b : Nat) : Option Nat := lowFrom b 0 8
def tzAnd (x : Int) : Int := bits .and .u32 x (IntKind.u32.wrap (0 - x))
def tzMul (x : Int) : Int := IntKind.u32.wrap (tzAnd x * 125613361)
def tzShr (x : Int) : Int := (tzMul x).fdiv (2 ^ (min (Int.toNat 27) IntKind.u32.bits))
def tzSay (x : Nat) : Bool := x == 0 || match lowOf x with
  | some k => decide (0 ≤ tzShr x) && decide (tzShr x < 32) && (tzTab[(tzShr x).toNat]? == some (k : Int)) && decide (k < 8)
  | none => false
theorem tz_all : (List.range 256).all tzSay = true := by decide +kernel
theorem tz_fact {x : Nat} (h0 : 0 < x) (h : x < 256) : ∃ k j : Nat, lowOf x = some k ∧ k < 8 ∧ tzShr x = (j : Int) ∧ j < 32 ∧ tzTab[j]? = some (k : Int) := by
  have h1 := List.all_eq_true.1 tz_all x (List.mem_range.2 h)
  have e : (x == 0) = false := by simp; omega
  unfold tzSay at h1
  rw [e, Bool.false_or] at h1
  cases hl : lowOf x with
  | none => rw [hl] at h1; cases h1
  | some k =>
    rw [hl] at h1
    simp only [Bool.and_eq_true, decide_eq_true_eq, beq_iff_eq] at h1
    obtain ⟨⟨⟨h2, h3⟩, h4⟩, h5⟩ := h1
    exact ⟨k, (tzShr x).toNat, rfl, h5, by omega, by omega, h4⟩
theorem low_zero : lowOf 0 = none := by decide
/-- Which line is told, if any. -/
def irqOf (d : Dev) : Option Nat := lowOf (bits .and .u32 d.pend d.mask).toNat
def Dev.tick (d : Dev) (count : Int) : Dev := bif (d.timer == 0) || decide (IntKind.u32.wrap count < d.timer) then d else { d with timer := 0, pend := bits .or .u32 d.pend 1 }
def told (s : St) (d : Dev) : St := match irqOf d with
  | some k => bif s.ie then s.trap ((16 + k : Nat) : Int) 0 else s
  | none => s
structure Begun where
  s : St
  place : Int
  runs : Bool
  u : Mmu
  d : Dev
def St.space (s : St) : Sp := ⟨s.paging, s.super, s.root.toNat⟩
def beginGo (n : Nat) (s : St) (U : Mmu) (d : Dev) : Begun :=
  let q := placeTo n U s.space s.pc.toNat 1
  bif q.1.2.cause != 0 then ⟨s.next.trap q.1.2.cause q.1.2.addr, 0, false, q.2, d⟩ else ⟨s, q.1.1, true, q.2, d⟩
def beginTo (n : Nat) (s : St) (U : Mmu) (d : Dev) : Begun :=
  bif !s.right || s.halted then ⟨s, 0, false, U, d⟩ else beginGo n (told s (d.tick s.count)) U (d.tick s.count)
/-- The bytes behind an operation, as a number. -/
def leOf : List Int → Int
  | [] => 0
  | b :: l => b + 256 * leOf l
def decodeOf (b : List Int) : Option ((Int × Int) × Nat) :=
  match b with
  | [] => none
  | op :: l => bif opSize op == 0 then none else bif decide ((l.length : Int) + 1 < opSize op) then none else some ((op, leOf (l.take ((opSize op).toNat - 1))), (opSize op).toNat)
def fetchOf (n : Nat) (M : Mem) (p : Nat) : Option ((Int × Int) × Nat) :=
  bif decide (p / 64 < n) then decodeOf (((M.data.drop (p / 64 * 64)).take 64).drop (p % 64)) else none
def endsOp (op : Int) : Bool := (decide (32 ≤ op) && decide (op ≤ 40)) || (decide (64 ≤ op) && decide (op ≤ 69))
def nextOf (op : Int) (r : Res) (page was : Int) : Bool := bif endsOp op || r.trapped || r.device || r.s.halted || r.pages.contains page then false else (r.s.pc / 64 == was / 64)
def restTo (n : Nat) (page : Nat) : Nat → St → Nat → Mmu → Dev → St × Mmu × Dev
  | 0, s, _, U, d => (s, U, d)
  | k + 1, s, p, U, d => match fetchOf n U.m p with
    | none => (s.next.trap 1 0, U, d)
    | some ((op, nn), sz) =>
      let q := doTo n s op nn U d
      bif nextOf op q.1 page s.pc then restTo n page k q.1.s ((p + sz) % 4294967296) q.2.1 q.2.2 else (q.1.s, q.2.1, q.2.2)
def blockTo (n : Nat) (s : St) (U : Mmu) (d : Dev) : St × Mmu × Dev :=
  let b := beginTo n s U d
  bif b.runs then restTo n (b.place.toNat / 64) 8 b.s b.place.toNat b.u b.d else (b.s, b.u, b.d)
def runGo (n : Nat) (m : Int) (from_ : Int) : Nat → St × Mmu × Dev → St × Mmu × Dev
  | 0, q => q
  | k + 1, q => bif decide (0 < m) && !q.1.halted && decide (IntKind.u64.wrap (q.1.count - from_) < m) then runGo n m from_ k (blockTo n q.1 q.2.1 q.2.2) else q
end Go.Ink
