/- The plain operations: what each yields. Nothing of the program. -/
import Derived.Test.YtobjiljkfmcalaaGreatInkD
namespace Go.Ink
open Go.RowKit

section
variable {C : Cx} {fr : Fr} {cs : List Chunk} {d : Option Tmp} {ty : TypeId} {pos : String} {af : Array Edge} {gd : Option (Nat × Bool)} {v : Value} {g : Bool} {x y z : Operand} {T T' : TypeId} {k k' : IntKind} {a b r : Int} {p q : Bool}

theorem ev_rfl {u : Value} (h : ev fr x = some u) : Ev fr g x u := ⟨u, h, fun _ => rfl⟩
/-- An operand that was made under the same guard. -/
theorem ev_g {u : Value} (h : ev fr x = some (bif g then u else undef)) : Ev fr g x u := ⟨_, h, fun e => by rw [e]; rfl⟩

theorem y_move (h : Ev fr g x v) : OpY C ⟨d, .move x, ty, pos, af, gd⟩ fr g Any v := fun A w hf _ hg => by
  simp [execOp, h.eval hf hg]
theorem y_assign (h : Ev fr g x v) : OpY C ⟨d, .assign x, ty, pos, af, gd⟩ fr g Any v := fun A w hf _ hg => by
  simp [execOp, h.eval hf hg]
/-- 'a && b': what b has come to is looked at only where a holds. -/
theorem y_and (hc : Ev fr g x (.bool p)) (hb : ∃ u, ev fr y = some u ∧ (g = true → p = true → u = .bool q)) : OpY C ⟨d, .pick x y (.const (.bool false)), ty, pos, af, gd⟩ fr g Any (.bool (p && q)) := fun A w hf _ hg => by
  obtain ⟨u, hu, e⟩ := hb
  have h1 := hc.eval hf hg
  have h2 := hf.ev hu
  cases p with
  | true => rw [e hg rfl] at h2; simp [execOp, h1, h2, asBool]
  | false =>
    have hk : A.eval (.const (.bool false)) = .bool false := rfl
    simp [execOp, h1, asBool, hk]
theorem y_or (hc : Ev fr g x (.bool p)) (hb : ∃ u, ev fr y = some u ∧ (g = true → p = false → u = .bool q)) : OpY C ⟨d, .pick x (.const (.bool true)) y, ty, pos, af, gd⟩ fr g Any (.bool (p || q)) := fun A w hf _ hg => by
  obtain ⟨u, hu, e⟩ := hb
  have h1 := hc.eval hf hg
  have h2 := hf.ev hu
  cases p with
  | false => rw [e hg rfl] at h2; simp [execOp, h1, h2, asBool]
  | true =>
    have hk : A.eval (.const (.bool true)) = .bool true := rfl
    simp [execOp, h1, asBool, hk]
theorem pk_yes {u : Value} (h : ev fr y = some (bif p then u else undef)) (hu : p = true → u = .bool q) : ∃ u, ev fr y = some u ∧ (g = true → p = true → u = .bool q) := ⟨_, h, fun _ e => by rw [hu e, e]; rfl⟩
theorem pk_no {u : Value} (h : ev fr y = some (bif !p then u else undef)) (hu : p = false → u = .bool q) : ∃ u, ev fr y = some u ∧ (g = true → p = false → u = .bool q) := ⟨_, h, fun _ e => by rw [hu e, e]; rfl⟩
theorem pk_gyes {u : Value} (h : ev fr y = some (bif (g && (p == true)) then u else undef)) (hu : g = true → p = true → u = .bool q) : ∃ u, ev fr y = some u ∧ (g = true → p = true → u = .bool q) := ⟨_, h, fun e0 e => by rw [hu e0 e, e0, e]; rfl⟩
theorem pk_gno {u : Value} (h : ev fr y = some (bif (g && (p == false)) then u else undef)) (hu : g = true → p = false → u = .bool q) : ∃ u, ev fr y = some u ∧ (g = true → p = false → u = .bool q) := ⟨_, h, fun e0 e => by rw [hu e0 e, e0, e]; rfl⟩

/-! ### integers -/
theorem y_int {op : BinOp} (hx : Ev fr g x (.int k a)) (hy : Ev fr g y (.int k' b)) (h : ∀ w, (binOp op T (.int k a) (.int k' b)).run C.P w = .ok v w) : OpY C ⟨d, .binOp op T x y T', ty, pos, af, gd⟩ fr g Any v := fun A w hf _ hg => by
  have he : ∀ op, (eqGuard op T x y (.int k a) (.int k' b)).run C.P w = .ok () w := fun op => by cases op <;> rfl
  simp [execOp, hx.eval hf hg, hy.eval hf hg, he, h]
theorem y_add (hx : Ev fr g x (.int k a)) (hy : Ev fr g y (.int k b)) (hr : k.wrap (a + b) = r) : OpY C ⟨d, .binOp .add T x y T', ty, pos, af, gd⟩ fr g Any (.int k r) := y_int hx hy fun w => by simp [go_sem, Op.intArith, hr]
theorem y_sub (hx : Ev fr g x (.int k a)) (hy : Ev fr g y (.int k b)) (hr : k.wrap (a - b) = r) : OpY C ⟨d, .binOp .sub T x y T', ty, pos, af, gd⟩ fr g Any (.int k r) := y_int hx hy fun w => by simp [go_sem, Op.intArith, hr]
theorem y_mul (hx : Ev fr g x (.int k a)) (hy : Ev fr g y (.int k b)) (hr : k.wrap (a * b) = r) : OpY C ⟨d, .binOp .mul T x y T', ty, pos, af, gd⟩ fr g Any (.int k r) := y_int hx hy fun w => by simp [go_sem, Op.intArith, hr]
theorem y_quo (hx : Ev fr g x (.int k a)) (hy : Ev fr g y (.int k b)) (h0 : b ≠ 0) (hr : k.wrap (a.tdiv b) = r) : OpY C ⟨d, .binOp .quo T x y T', ty, pos, af, gd⟩ fr g Any (.int k r) := y_int hx hy fun w => by simp [go_sem, Op.intDiv, hr, h0]
theorem y_rem (hx : Ev fr g x (.int k a)) (hy : Ev fr g y (.int k b)) (h0 : b ≠ 0) (hr : a.tmod b = r) : OpY C ⟨d, .binOp .rem T x y T', ty, pos, af, gd⟩ fr g Any (.int k r) := y_int hx hy fun w => by simp [go_sem, Op.intDiv, hr, h0]
theorem y_and_ (hx : Ev fr g x (.int k a)) (hy : Ev fr g y (.int k b)) (hr : bits .and k a b = r) : OpY C ⟨d, .binOp .and T x y T', ty, pos, af, gd⟩ fr g Any (.int k r) := y_int hx hy fun w => by subst hr; simp [go_sem, Op.intBits, bits]
theorem y_or_ (hx : Ev fr g x (.int k a)) (hy : Ev fr g y (.int k b)) (hr : bits .or k a b = r) : OpY C ⟨d, .binOp .or T x y T', ty, pos, af, gd⟩ fr g Any (.int k r) := y_int hx hy fun w => by subst hr; simp [go_sem, Op.intBits, bits]
theorem y_xor_ (hx : Ev fr g x (.int k a)) (hy : Ev fr g y (.int k b)) (hr : bits .xor k a b = r) : OpY C ⟨d, .binOp .xor T x y T', ty, pos, af, gd⟩ fr g Any (.int k r) := y_int hx hy fun w => by subst hr; simp [go_sem, Op.intBits, bits]
theorem y_andNot (hx : Ev fr g x (.int k a)) (hy : Ev fr g y (.int k b)) (hr : bits .andNot k a b = r) : OpY C ⟨d, .binOp .andNot T x y T', ty, pos, af, gd⟩ fr g Any (.int k r) := y_int hx hy fun w => by subst hr; simp [go_sem, Op.intBits, bits]
theorem y_shl (hx : Ev fr g x (.int k a)) (hy : Ev fr g y (.int k' b)) (h0 : 0 ≤ b) (hr : k.wrap (a * 2 ^ (min b.toNat k.bits)) = r) : OpY C ⟨d, .binOp .shl T x y T', ty, pos, af, gd⟩ fr g Any (.int k r) := y_int hx hy fun w => by
  have : ¬ b < 0 := by omega
  subst hr
  simp [binOp, Op.shift, this]
theorem y_shr (hx : Ev fr g x (.int k a)) (hy : Ev fr g y (.int k' b)) (h0 : 0 ≤ b) (hr : a.fdiv (2 ^ (min b.toNat k.bits)) = r) : OpY C ⟨d, .binOp .shr T x y T', ty, pos, af, gd⟩ fr g Any (.int k r) := y_int hx hy fun w => by
  have : ¬ b < 0 := by omega
  subst hr
  simp [binOp, Op.shift, this]
theorem y_eql (hx : Ev fr g x (.int k a)) (hy : Ev fr g y (.int k b)) (hr : (a == b) = p) : OpY C ⟨d, .binOp .eql T x y T', ty, pos, af, gd⟩ fr g Any (.bool p) := y_int hx hy fun w => by subst hr; simp [go_sem]
theorem y_neq (hx : Ev fr g x (.int k a)) (hy : Ev fr g y (.int k b)) (hr : (a != b) = p) : OpY C ⟨d, .binOp .neq T x y T', ty, pos, af, gd⟩ fr g Any (.bool p) := y_int hx hy fun w => by subst hr; simp [go_sem]
theorem y_lss (hx : Ev fr g x (.int k a)) (hy : Ev fr g y (.int k b)) (hr : decide (a < b) = p) : OpY C ⟨d, .binOp .lss T x y T', ty, pos, af, gd⟩ fr g Any (.bool p) := y_int hx hy fun w => by subst hr; simp [go_sem]
theorem y_leq (hx : Ev fr g x (.int k a)) (hy : Ev fr g y (.int k b)) (hr : decide (a ≤ b) = p) : OpY C ⟨d, .binOp .leq T x y T', ty, pos, af, gd⟩ fr g Any (.bool p) := y_int hx hy fun w => by subst hr; simp [go_sem]
theorem y_gtr (hx : Ev fr g x (.int k a)) (hy : Ev fr g y (.int k b)) (hr : decide (b < a) = p) : OpY C ⟨d, .binOp .gtr T x y T', ty, pos, af, gd⟩ fr g Any (.bool p) := y_int hx hy fun w => by subst hr; simp [go_sem]
theorem y_geq (hx : Ev fr g x (.int k a)) (hy : Ev fr g y (.int k b)) (hr : decide (b ≤ a) = p) : OpY C ⟨d, .binOp .geq T x y T', ty, pos, af, gd⟩ fr g Any (.bool p) := y_int hx hy fun w => by subst hr; simp [go_sem]
theorem y_eqlb (hT : C.P.underlying T = some .bool) {a b : Bool} (hx : Ev fr g x (.bool a)) (hy : Ev fr g y (.bool b)) (hr : (a == b) = p) : OpY C ⟨d, .binOp .eql T x y T', ty, pos, af, gd⟩ fr g Any (.bool p) := fun A w hf _ hg => by
  subst hr
  simp [execOp, hx.eval hf hg, hy.eval hf hg, eqGuard, run_eql_bool w T a b hT]
theorem y_neqb (hT : C.P.underlying T = some .bool) {a b : Bool} (hx : Ev fr g x (.bool a)) (hy : Ev fr g y (.bool b)) (hr : (a != b) = p) : OpY C ⟨d, .binOp .neq T x y T', ty, pos, af, gd⟩ fr g Any (.bool p) := fun A w hf _ hg => by
  subst hr
  simp [execOp, hx.eval hf hg, hy.eval hf hg, eqGuard, run_neq_bool w T a b hT, bne]
theorem y_not (hx : Ev fr g x (.bool p)) (hr : (!p) = q) : OpY C ⟨d, .unOp .not T x, ty, pos, af, gd⟩ fr g Any (.bool q) := fun A w hf _ hg => by
  subst hr
  simp [execOp, hx.eval hf hg, Op.unary]
theorem y_conv (hT : C.P.underlying T' = some (.int k')) (hS : (C.P.underlying T).isSome = true) (hx : Ev fr g x (.int k a)) (hr : k'.wrap a = r) : OpY C ⟨d, .convert T T' x, ty, pos, af, gd⟩ fr g Any (.int k' r) := fun A w hf _ hg => by
  obtain ⟨s, hs⟩ := Option.isSome_iff_exists.mp hS
  subst hr
  simp [execOp, hx.eval hf hg, convert, run_underlying hT, run_underlying hs, Conv.intToInt]

/-! ### places -/
theorem y_nil {ad : Addr} (hx : Ev fr g x (.pointer (some ad))) : OpY C ⟨d, .nilCheck x, ty, pos, af, gd⟩ fr g Any (.pointer (some ad)) := fun A w hf _ hg => by
  simp [execOp, hx.eval hf hg]
def fieldOff (P : Program) (T f : Nat) : Option Nat := match P.underlying T with
  | some (.struct fs) => match fs[f]? with
    | some fd => match P.info? fd.type with
      | some i => bif Nat.beq i.size 0 then none else some fd.offset
      | none => none
    | none => none
  | _ => none
theorem y_field {bb o r : Nat} (n : Nat) {f : Nat} (ho : fieldOff C.P T f = some n) (hx : Ev fr g x (.pointer (some ⟨bb, o, none⟩))) (hr : o + n = r) : OpY C ⟨d, .fieldAddr T x f, ty, pos, af, gd⟩ fr g Any (.pointer (some ⟨bb, r, none⟩)) := fun A w hf _ hg => by
  subst hr
  unfold fieldOff at ho
  split at ho
  · rename_i fs hfs
    split at ho
    · rename_i fd hfd
      split at ho
      · rename_i i hi
        by_cases hz : i.size = 0
        · simp [hz] at ho
        have hz' : Nat.beq i.size 0 = false := by cases h' : Nat.beq i.size 0 with | false => rfl | true => exact absurd (Nat.eq_of_beq_eq_true h') hz
        rw [hz'] at ho
        simp only [cond_false, Option.some.injEq] at ho
        subst ho
        simp [execOp, hx.eval hf hg, Instr.fieldAt, run_underlying hfs, hfd, Instr.sureAddr, fieldPlace, sizeOf, typeInfo, hi, hz, Addr.add_lit]
      cases ho
    cases ho
  cases ho

/-! ### slices, aggregates -/
theorem y_len {A : Option Addr} {n c : Nat} (hT : ∃ e, C.P.underlying T = some (.slice e)) (hx : Ev fr g x (.slice A n c)) : OpY C ⟨d, .call { callee := .builtin .len, args := #[x], argTypes := #[T] }, ty, pos, af, gd⟩ fr g Any (.int .i64 n) := fun a w hf _ hg => by
  obtain ⟨e, hT⟩ := hT
  simp [execOp, resolve, invoke, builtin, hx.eval hf hg, Builtin.len_, run_underlying hT, goInt]
theorem y_lenS {s : ByteArray} (hT : C.P.underlying T = some .string) (hx : Ev fr g x (.string s)) : OpY C ⟨d, .call { callee := .builtin .len, args := #[x], argTypes := #[T] }, ty, pos, af, gd⟩ fr g Any (.int .i64 s.size) := fun a w hf _ hg => by
  simp [execOp, resolve, invoke, builtin, hx.eval hf hg, Builtin.len_, run_underlying hT, goInt]
theorem y_extract {i : Nat} {vs : Array Value} (hx : Ev fr g x (.tuple vs)) (hi : vs[i]? = some v) : OpY C ⟨d, .extract x i, ty, pos, af, gd⟩ fr g Any v := fun a w hf _ hg => by
  simp [execOp, hx.eval hf hg, Instr.extract, hi]
inductive Nth : List Value → Nat → Value → Prop
  | zero (v : Value) (l : List Value) : Nth (v :: l) 0 v
  | succ (u : Value) {l : List Value} {n : Nat} {v : Value} (h : Nth l n v) : Nth (u :: l) (n + 1) v
theorem Nth.at_ {l : List Value} {n : Nat} {v : Value} (h : Nth l n v) : l[n]? = some v := by
  induction h with
  | zero => rfl
  | succ u _ ih => simpa using ih
theorem y_extractN {i : Nat} {vs : List Value} (hx : Ev fr g x (.tuple vs.toArray)) (hi : Nth vs i v) : OpY C ⟨d, .extract x i, ty, pos, af, gd⟩ fr g Any v := y_extract hx (by simpa using hi.at_)
/-- A slice of a slice. -/
theorem y_slice {A : Option Addr} {n c lo hi : Nat} {e : TypeId} {sz : Nat} {lo? hi? : Option Operand} (hT : C.P.underlying T = some (.slice e)) (hs : ∀ w, (sizeOf e).run C.P w = .ok sz w) (hx : Ev fr g x (.slice A n c))
    (hlo : (lo? = none ∧ lo = 0) ∨ ∃ l k, lo? = some l ∧ Ev fr g l (.int k (lo : Int))) (hhi : (hi? = none ∧ hi = n) ∨ ∃ l k, hi? = some l ∧ Ev fr g l (.int k (hi : Int))) (h1 : lo ≤ hi) (h2 : hi ≤ c) :
    OpY C ⟨d, .slice T x lo? hi? none, ty, pos, af, gd⟩ fr g Any (.slice (if c = lo then A else A.map (·.add (lo * sz))) (hi - lo) (c - lo)) := fun a w hf _ hg => by
  have hb : (Instr.sliceBounds true n c (lo?.map a.eval) (hi?.map a.eval) none).run C.P w = .ok (lo, hi, c) w := by
    rcases hlo with ⟨rfl, rfl⟩ | ⟨l, kl, rfl, hl⟩ <;> rcases hhi with ⟨rfl, rfl⟩ | ⟨h, kh, rfl, hh⟩
    · simp [Instr.sliceBounds]
    · have := hh.eval hf hg
      simp [Instr.sliceBounds, Instr.sliceBound, asIntOf, this, h2]
    · have := hl.eval hf hg
      simp [Instr.sliceBounds, Instr.sliceBound, asIntOf, this, h1]
    have := hl.eval hf hg
    have := hh.eval hf hg
    simp [Instr.sliceBounds, Instr.sliceBound, asIntOf, *]
  simp [execOp, hx.eval hf hg, Instr.sliceAt, run_underlying hT, Instr.slice, hb, hs]
theorem y_slice0 {A : Option Addr} {n c : Nat} (hi : Nat) {i : Int} {e : TypeId} {sz : Nat} {l : Operand} (hT : C.P.underlying T = some (.slice e)) (hs : ∀ w, (sizeOf e).run C.P w = .ok sz w) (hx : Ev fr g x (.slice A n c))
    (hy : Ev fr g l (.int k i)) (hj : g = true → i = (hi : Int)) (h2 : g = true → hi ≤ c) : OpY C ⟨d, .slice T x none (some l) none, ty, pos, af, gd⟩ fr g Any (.slice A hi c) := fun a w hf _ hg => by
  have h3 := hy.eval hf hg
  rw [hj hg] at h3
  have h4 := h2 hg
  have hb : (Instr.sliceBounds true n c none (some (.int k (hi : Int))) none).run C.P w = .ok (0, hi, c) w := by
    simp [Instr.sliceBounds, Instr.sliceBound, asIntOf, h4]
  have hA : (if c = 0 then A else A.map (·.add (0 * sz))) = A := by
    split
    · rfl
    cases A <;> simp [Addr.add]
  simp only [Nat.zero_mul] at hA
  simp [execOp, hx.eval hf hg, h3, Instr.sliceAt, run_underlying hT, Instr.slice, hb, hs, hA]
/-- The place of a slice's element. -/
theorem y_index {ad : Addr} {n c j : Nat} {i : Int} {e sz : Nat} (hT : C.P.underlying T = some (.slice e)) (hs : ∀ w, (sizeOf e).run C.P w = .ok sz w) (hx : Ev fr g x (.slice (some ad) n c)) (hy : Ev fr g y (.int k i)) (hj : g = true → i = (j : Int)) (h1 : g = true → j < n) :
    OpY C ⟨d, .indexAddr T x y, ty, pos, af, gd⟩ fr g Any (.pointer (some (ad.add (j * sz)))) := fun a w hf _ hg => by
  have h2 := h1 hg
  have h3 := hy.eval hf hg
  rw [hj hg] at h3
  simp [execOp, hx.eval hf hg, h3, Instr.indexAt, asIntOf, run_underlying hT, h2, hs]
/-- The place of an array's element. -/
theorem y_indexA {bb o n j r : Nat} {i : Int} {e sz : Nat} (hT : C.P.underlying T = some (.array n e)) (hs : ∀ w, (sizeOf e).run C.P w = .ok sz w) (hx : Ev fr g x (.pointer (some ⟨bb, o, none⟩))) (hy : Ev fr g y (.int k i)) (hj : g = true → i = (j : Int)) (h1 : g = true → j < n) (hr : o + j * sz = r) :
    OpY C ⟨d, .indexAddr T x y, ty, pos, af, gd⟩ fr g Any (.pointer (some ⟨bb, r, none⟩)) := fun a w hf _ hg => by
  subst hr
  have h2 := h1 hg
  have h3 := hy.eval hf hg
  rw [hj hg] at h3
  simp [execOp, hx.eval hf hg, h3, Instr.indexAt, Instr.sureAddr, asIntOf, run_underlying hT, h2, hs, Addr.add_lit]

/-! ### loads -/
theorem y_load {ad : Addr} (hT : ∀ w, (isAgg T).run C.P w = .ok false w) (hx : Ev fr g x (.pointer (some ad))) : OpY C ⟨d, .load T x, ty, pos, af, gd⟩ fr g (cells [(ad, v)]) v := fun a w hf hV hg => by
  have := hV (ad, v) (by simp)
  simp only at this
  simp [execOp, hx.eval hf hg, Instr.loadAt, Instr.sureAddr, loadVar, hT, this]
def cellsFrom (ad : Addr) : Nat → List Value → List (Addr × Value)
  | _, [] => []
  | i, v :: vs => (ad.add i, v) :: cellsFrom ad (i + 1) vs
theorem cellsFrom_mem {ad : Addr} : ∀ {vs : List Value} {i j : Nat} {v : Value}, vs[j]? = some v → (ad.add (i + j), v) ∈ cellsFrom ad i vs
  | [], _, _, _, h => by simp at h
  | u :: vs, i, 0, v, h => by simp at h; subst h; simp [cellsFrom]
  | u :: vs, i, j + 1, v, h => by
    simp only [List.getElem?_cons_succ] at h
    have := cellsFrom_mem (ad := ad) (i := i + 1) h
    rw [show i + (j + 1) = i + 1 + j by omega]
    exact List.mem_cons_of_mem _ this
theorem mem_cellsFrom {ad : Addr} : ∀ {vs : List Value} {i : Nat} {x : Addr × Value}, x ∈ cellsFrom ad i vs → ∃ j, vs[j]? = some x.2 ∧ x.1 = ad.add (i + j)
  | [], _, _, h => by cases h
  | u :: vs, i, x, h => by
    rcases List.mem_cons.1 h with rfl | h
    · exact ⟨0, by simp, by simp⟩
    obtain ⟨j, h1, h2⟩ := mem_cellsFrom h
    exact ⟨j + 1, by simpa using h1, by rw [h2, show i + 1 + j = i + (j + 1) by omega]⟩
theorem y_loadN {ad : Addr} {vs : List Value} (hT : ∀ w, (isAgg T).run C.P w = .ok true w) (hs : ∀ w, (sizeOf T).run C.P w = .ok vs.length w) (hx : Ev fr g x (.pointer (some ad))) :
    OpY C ⟨d, .load T x, ty, pos, af, gd⟩ fr g (cells (cellsFrom ad 0 vs)) (.agg vs.toArray) := fun a w hf hV hg => by
  have h := run_loadCells_list (P := C.P) w ad vs (fun j v hj => by
    have := hV _ (cellsFrom_mem (ad := ad) (i := 0) hj)
    simpa using this)
  simp [execOp, hx.eval hf hg, Instr.loadAt, Instr.sureAddr, loadVar, hT, hs, h]
/-- What a row gives. -/
theorem row_cell {w0 : World} {S : List Nat} {bb o t : Nat} {xs : List Value} (hc : Has cs (row bb xs t)) (hv : xs[o]? = some v) : ∀ w, Inv w0 S cs w → cells [(⟨bb, o, none⟩, v)] w := fun w hi z hz => by
  rw [List.mem_singleton] at hz
  subst hz
  simpa [hv] using hi.cell hc o
theorem row_cells {w0 : World} {S : List Nat} {bb o t : Nat} {xs vs : List Value} (hc : Has cs (row bb xs t)) (hv : (xs.drop o).take vs.length = vs) : ∀ w, Inv w0 S cs w → cells (cellsFrom ⟨bb, o, none⟩ 0 vs) w := fun w hi z hz => by
  obtain ⟨j, h1, h2⟩ := mem_cellsFrom hz
  rw [h2, Addr.add_lit, hi.cell hc]
  have hj : j < vs.length := (List.getElem?_eq_some_iff.1 h1).1
  rw [← h1, ← hv, List.getElem?_take]
  rw [if_pos hj, List.getElem?_drop]
  simp
/-- What has stood since the call began, and is nobody's to turn. -/
theorem old_cell {w0 : World} {S : List Nat} {ad : Addr} (h : w0.cell? ad = some v) (hS : ad.block ∉ S) : ∀ w, Inv w0 S cs w → cells [(ad, v)] w := fun w hi z hz => by
  rw [List.mem_singleton] at hz
  subst hz
  exact (World.cell?_of_block (hi.keep.block ad.block (World.block_lt_of_cell? w0 ad h) hS)).trans h
end
end Go.Ink
