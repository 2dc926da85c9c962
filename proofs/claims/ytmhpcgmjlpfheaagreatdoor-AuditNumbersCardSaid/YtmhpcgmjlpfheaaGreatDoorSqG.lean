/- What holds of a guest's parts from instruction to instruction. No program in sight. -/
import Derived.Test.YtmhpcgmjlpfheaaGreatDoorSqAll
set_option linter.unusedSimpArgs false
set_option linter.unusedVariables false
set_option maxRecDepth 100000
namespace Go.Ink
open Go.RowKit
theorem u0 : u32 0 := ⟨by decide, by decide⟩
theorem u1 : u32 1 := ⟨by decide, by decide⟩
theorem wrap_u32 (a : Int) : u32 (IntKind.u32.wrap a) := by
  unfold u32
  rw [IntKind.wrap_u32]
  omega
theorem u32_nat {n : Nat} (h : n ≤ 4294967295) : u32 (n : Int) := ⟨by omega, by omega⟩
/-! memory -/
structure Mem.ok (n : Nat) (M : Mem) : Prop where
  dl : M.data.length = n * 64
  db : u8s M.data
  tl : M.turned.length = 64
theorem u8s_set {l : List Int} (h : u8s l) {a : Nat} {b : Int} (hb : 0 ≤ b ∧ b ≤ 255) : u8s (l.set a b) := fun x hx => by
  rcases List.mem_or_eq_of_mem_set hx with h1 | h1
  · exact h x h1
  rw [h1]; exact hb
theorem Mem.ok.put {n : Nat} {M : Mem} (h : M.ok n) (a : Nat) {b : Int} (hb : 0 ≤ b ∧ b ≤ 255) : (M.put a b).ok n :=
  ⟨by show (M.data.set _ _).length = _; rw [List.length_set]; exact h.dl, u8s_set h.db hb, by show (M.turned.set _ _).length = _; rw [List.length_set]; exact h.tl⟩
theorem Mem.ok.putTo {n : Nat} {M : Mem} (h : M.ok n) (a : Nat) (v : Int) : ∀ k, (M.putTo a v k).ok n
  | 0 => h
  | k + 1 => (Mem.ok.putTo h a v k).put _ (wbyte_rng v k)
theorem Mem.ok.putsTo {n : Nat} {M : Mem} (h : M.ok n) (l : List Int) (v : Int) : ∀ k, (putsTo M l v k).ok n
  | 0 => h
  | k + 1 => (Mem.ok.putsTo h l v k).put _ (wbyte_rng v k)
theorem Mem.ok.fill {n : Nat} {M : Mem} (h : M.ok n) (a : Nat) {l : List Int} (hl : u8s l) : ∀ k, (M.fill a l k).ok n
  | 0 => h
  | k + 1 => (Mem.ok.fill h a hl k).put _ (gB_rng hl k)
theorem Mem.ok.calm {n : Nat} {M : Mem} (h : M.ok n) : M.calm.ok n := ⟨h.dl, h.db, List.length_replicate⟩
theorem init_ok {n : Nat} {b : List Int} (h : b.length ≤ n * 64) (hb : u8s b) : (Mem.init n b).ok n := by
  refine ⟨by simp [Mem.init]; omega, fun x hx => ?_, List.length_replicate⟩
  rcases List.mem_append.1 hx with hx | hx
  · exact hb x hx
  rw [List.eq_of_mem_replicate hx]; decide
theorem walkTo_okM {n : Nat} {M : Mem} (h : M.ok n) (root va : Nat) (kind : Int) (super : Bool) : (walkTo n M root va kind super).2.ok n := by
  unfold walkTo
  refine cond_all (fun q : (TE × Tr) × Mem => q.2.ok n) h ?_
  cases lookUp n M.data root va with
  | none => exact h
  | some q =>
    obtain ⟨a, l⟩ := q
    refine cond_all (fun q : (TE × Tr) × Mem => q.2.ok n) h ?_
    exact cond_all (fun q : Mem => q.ok n) (h.putTo _ _ 4) h
/-! what is told of an address -/
def TrU (t : Tr) : Prop := u32 t.addr ∧ 0 ≤ t.cause ∧ t.cause ≤ 255
theorem tr10 {a : Int} (h : u32 a) : TrU ⟨10, a⟩ := ⟨h, by show (0 : Int) ≤ 10; decide, by show (10 : Int) ≤ 255; decide⟩
theorem trN : TrU Tr.none := ⟨u0, by decide, by decide⟩
theorem tr11 : TrU ⟨11, 0⟩ := ⟨u0, by decide, by decide⟩
theorem fault_rng (kind : Int) : 0 ≤ fault kind ∧ fault kind ≤ 255 := by
  unfold fault
  refine cond_all (fun x : Int => 0 ≤ x ∧ x ≤ 255) (by decide) ?_
  refine cond_all (fun x : Int => 0 ≤ x ∧ x ≤ 255) (by decide) ?_
  exact cond_all (fun x : Int => 0 ≤ x ∧ x ≤ 255) (by decide) (by decide)
theorem walkTo_tr (n : Nat) (M : Mem) (root va : Nat) (hva : va ≤ 4294967295) (kind : Int) (super : Bool) : TrU (walkTo n M root va kind super).1.2 := by
  have hv := u32_nat hva
  have hf := fault_rng kind
  unfold walkTo
  refine cond_all (fun q : (TE × Tr) × Mem => TrU q.1.2) (tr10 hv) ?_
  cases lookUp n M.data root va with
  | none => exact ⟨hv, hf⟩
  | some q =>
    obtain ⟨a, l⟩ := q
    refine cond_all (fun q : (TE × Tr) × Mem => TrU q.1.2) ⟨hv, hf⟩ ?_
    exact trN
structure UOk (n : Nat) (U : Mmu) : Prop where
  m : U.m.ok n
  t : U.t.length = 16
theorem turnedTo_okM {n : Nat} {U : Mmu} (h : U.m.ok n) (s : Sp) (va : Nat) (kind : Int) : (turnedTo n U s va kind).2.m.ok n := by
  have hw := walkTo_okM h s.root va kind s.super
  unfold turnedTo
  refine cond_all (fun q : (Int × Tr) × Mmu => q.2.m.ok n) h ?_
  refine cond_all (fun q : (Int × Tr) × Mmu => q.2.m.ok n) h ?_
  exact cond_all (fun q : (Int × Tr) × Mmu => q.2.m.ok n) hw hw
theorem turnedTo_tr (n : Nat) (U : Mmu) (s : Sp) (va : Nat) (hva : va ≤ 4294967295) (kind : Int) : TrU (turnedTo n U s va kind).1.2 := by
  have hw := walkTo_tr n U.m s.root va hva kind s.super
  have h0 := trN
  unfold turnedTo
  refine cond_all (fun q : (Int × Tr) × Mmu => TrU q.1.2) h0 ?_
  refine cond_all (fun q : (Int × Tr) × Mmu => TrU q.1.2) h0 ?_
  exact cond_all (fun q : (Int × Tr) × Mmu => TrU q.1.2) hw hw
theorem placeTo_okU {n : Nat} {U : Mmu} (h : UOk n U) (s : Sp) (va : Nat) (kind : Int) : UOk n (placeTo n U s va kind).2 := by
  refine ⟨?_, (placeTo_len n U s va kind).trans h.t⟩
  have hw := turnedTo_okM h.m s va kind
  unfold placeTo
  refine cond_all (fun q : (Int × Tr) × Mmu => q.2.m.ok n) h.m ?_
  refine cond_all (fun q : (Int × Tr) × Mmu => q.2.m.ok n) hw ?_
  exact cond_all (fun q : (Int × Tr) × Mmu => q.2.m.ok n) hw hw
theorem placeTo_tr (n : Nat) (U : Mmu) (s : Sp) (va : Nat) (hva : va ≤ 4294967295) (kind : Int) : TrU (placeTo n U s va kind).1.2 := by
  have hw := turnedTo_tr n U s va hva kind
  have h1 : TrU ⟨10, va⟩ := (tr10 (u32_nat hva))
  unfold placeTo
  refine cond_all (fun q : (Int × Tr) × Mmu => TrU q.1.2) h1 ?_
  refine cond_all (fun q : (Int × Tr) × Mmu => TrU q.1.2) hw ?_
  exact cond_all (fun q : (Int × Tr) × Mmu => TrU q.1.2) hw h1
theorem spanEnd_u (a b : Int) (va k : Nat) (t : Tr) (U : Mmu) : (spanEnd a b va k t U).2 = U := by
  unfold spanEnd
  refine cond_all (fun q : (List Int × Tr) × Mmu => q.2 = U) rfl ?_
  exact cond_all (fun q : (List Int × Tr) × Mmu => q.2 = U) rfl rfl
theorem spanEnd_tr (a b : Int) {va : Nat} (hva : va ≤ 4294967295) (k : Nat) {t : Tr} (ht : TrU t) (U : Mmu) : TrU (spanEnd a b va k t U).1.2 := by
  unfold spanEnd
  refine cond_all (fun q : (List Int × Tr) × Mmu => TrU q.1.2) (tr10 (u32_nat hva)) ?_
  exact cond_all (fun q : (List Int × Tr) × Mmu => TrU q.1.2) (tr10 (u32_nat (nextPage_le va))) ht
theorem spanTo_okU {n : Nat} {U : Mmu} (h : UOk n U) (s : Sp) (va k : Nat) (kind : Int) : UOk n (spanTo n U s va k kind).2 := by
  have h1 := placeTo_okU h s va kind
  have h2 := placeTo_okU h1 s (nextPage va) kind
  unfold spanTo span1
  refine cond_all (fun q : (List Int × Tr) × Mmu => UOk n q.2) h1 ?_
  refine cond_all (fun q : (List Int × Tr) × Mmu => UOk n q.2) ?_ (by rw [spanEnd_u]; exact h1)
  unfold span2
  exact cond_all (fun q : (List Int × Tr) × Mmu => UOk n q.2) h2 (by rw [spanEnd_u]; exact h2)
theorem spanTo_tr (n : Nat) (U : Mmu) (s : Sp) (va k : Nat) (hva : va ≤ 4294967295) (kind : Int) : TrU (spanTo n U s va k kind).1.2 := by
  have h1 := placeTo_tr n U s va hva kind
  have h2 := placeTo_tr n (placeTo n U s va kind).2 s (nextPage va) (nextPage_le va) kind
  unfold spanTo span1
  refine cond_all (fun q : (List Int × Tr) × Mmu => TrU q.1.2) h1 ?_
  refine cond_all (fun q : (List Int × Tr) × Mmu => TrU q.1.2) ?_ (spanEnd_tr _ _ hva _ h1 _)
  unfold span2
  exact cond_all (fun q : (List Int × Tr) × Mmu => TrU q.1.2) h2 (spanEnd_tr _ _ hva _ h2 _)
theorem loadTo_u32 {n : Nat} {U : Mmu} (h : UOk n U) (s : Sp) (va : Nat) {k : Nat} (hk : k ≤ 4) : u32 (loadTo n U s va k).1.1 := by
  have h1 := spanTo_okU h s va k 2
  have h2 := placeVal_rng h1.m.db (spanTo n U s va k 2).1.1
  have h3 : (spanTo n U s va k 2).1.1.length ≤ 4 := Nat.le_trans spanTo_len hk
  show u32 (placeVal _ _)
  generalize placeVal (spanTo n U s va k 2).2.m.data (spanTo n U s va k 2).1.1 = v at h2
  generalize (spanTo n U s va k 2).1.1.length = m at h2 h3
  obtain rfl | rfl | rfl | rfl | rfl : m = 0 ∨ m = 1 ∨ m = 2 ∨ m = 3 ∨ m = 4 := by omega
  all_goals (refine ⟨h2.1, ?_⟩; simp at h2; omega)
theorem storeTo_okU {n : Nat} {U : Mmu} (h : UOk n U) (s : Sp) (va k : Nat) (v : Int) : UOk n (storeTo n U s va k v).2 := by
  have h1 := spanTo_okU h s va k 3
  exact ⟨h1.m.putsTo _ _ _, h1.t⟩
/-! devices -/
structure Dev.ok (d : Dev) : Prop where
  wf : d.wf
  pend : u32 d.pend
  mask : u32 d.mask
  timer : u32 d.timer
  status : u32 d.status
theorem Dev.wf.re {d d' : Dev} (h : d.wf) (h1 : d'.inp = d.inp) (h2 : d'.disk = d.disk) (h3 : d'.sector = d.sector) (h4 : d'.place = d.place) : d'.wf :=
  ⟨h1 ▸ h.inpb, h2 ▸ h.disk, h2 ▸ h.diskb, h3 ▸ h.sector, h4 ▸ h.place, h1 ▸ h.inp⟩
theorem Dev.init_ok {l : List Int} (h : l.length ≤ 1024) (hb : u8s l) : (Dev.init l).ok := ⟨init_wf h hb, u0, u0, u0, u0⟩
theorem gB_u32 {l : List Int} (h : u8s l) (a : Nat) : u32 (gB l a) := by have := gB_rng h a; exact ⟨this.1, by omega⟩
theorem devLoad_ok {d : Dev} (h : d.ok) (k count : Int) : u32 (devLoad d k count).1.1 ∧ (devLoad d k count).2.ok ∧ (devLoad d k count).2.out = d.out := by
  have hi := h.wf.inp
  unfold devLoad
  refine cond_all (fun q : (Int × Bool) × Dev => u32 q.1.1 ∧ q.2.ok ∧ q.2.out = d.out) ⟨h.pend, h, rfl⟩ ?_
  refine cond_all (fun q : (Int × Bool) × Dev => u32 q.1.1 ∧ q.2.ok ∧ q.2.out = d.out) ⟨h.mask, h, rfl⟩ ?_
  refine cond_all (fun q : (Int × Bool) × Dev => u32 q.1.1 ∧ q.2.ok ∧ q.2.out = d.out) ⟨h.timer, h, rfl⟩ ?_
  refine cond_all (fun q : (Int × Bool) × Dev => u32 q.1.1 ∧ q.2.ok ∧ q.2.out = d.out) ⟨wrap_u32 _, h, rfl⟩ ?_
  refine cond_all (fun q : (Int × Bool) × Dev => u32 q.1.1 ∧ q.2.ok ∧ q.2.out = d.out) ⟨u0, h, rfl⟩ ?_
  refine cond_all (fun q : (Int × Bool) × Dev => u32 q.1.1 ∧ q.2.ok ∧ q.2.out = d.out) ⟨u0, h, rfl⟩ ?_
  refine cond_all (fun q : (Int × Bool) × Dev => u32 q.1.1 ∧ q.2.ok ∧ q.2.out = d.out) ⟨gB_u32 h.wf.inpb 0, ⟨⟨fun x hx => h.wf.inpb x (List.mem_of_mem_tail hx), h.wf.disk, h.wf.diskb, h.wf.sector, h.wf.place, by show d.inp.tail.length ≤ _; rw [List.length_tail]; omega⟩, h.pend, h.mask, h.timer, h.status⟩, rfl⟩ ?_
  refine cond_all (fun q : (Int × Bool) × Dev => u32 q.1.1 ∧ q.2.ok ∧ q.2.out = d.out) ⟨u32_nat (by omega), h, rfl⟩ ?_
  refine cond_all (fun q : (Int × Bool) × Dev => u32 q.1.1 ∧ q.2.ok ∧ q.2.out = d.out) ⟨u32_nat h.wf.sector, h, rfl⟩ ?_
  refine cond_all (fun q : (Int × Bool) × Dev => u32 q.1.1 ∧ q.2.ok ∧ q.2.out = d.out) ⟨u32_nat h.wf.place, h, rfl⟩ ?_
  refine cond_all (fun q : (Int × Bool) × Dev => u32 q.1.1 ∧ q.2.ok ∧ q.2.out = d.out) ⟨h.status, h, rfl⟩ ?_
  exact ⟨u0, h, rfl⟩
theorem driveDo_ok {n : Nat} {M : Mem} (h : M.ok n) {disk : List Int} (hl : disk.length = 1024) (hb : u8s disk) (sector a cmd : Nat) : (driveDo n M disk sector a cmd).2.1.ok n ∧ (driveDo n M disk sector a cmd).2.2.length = 1024 ∧ u8s (driveDo n M disk sector a cmd).2.2 := by
  unfold driveDo
  cases hk : (!driveOk n sector a) with
  | true => exact ⟨h, hl, hb⟩
  | false =>
    have hk' : driveOk n sector a = true := by simpa using hk
    simp only [driveOk, Bool.not_eq_true', Bool.or_eq_false_iff, decide_eq_false_iff_not, bne_eq_false_iff_eq] at hk'
    obtain ⟨⟨h1, h2⟩, h3⟩ := hk'
    have hdl := h.dl
    simp only [cond_false]
    refine cond_all (fun q : Bool × Mem × List Int => q.2.1.ok n ∧ q.2.2.length = 1024 ∧ u8s q.2.2) ⟨h.fill _ (fun x hx => hb x (List.mem_of_mem_drop (List.mem_of_mem_take hx))) _, hl, hb⟩ ?_
    refine cond_all (fun q : Bool × Mem × List Int => q.2.1.ok n ∧ q.2.2.length = 1024 ∧ u8s q.2.2) ⟨h, ?_, fun x hx => ?_⟩ ⟨h, hl, hb⟩
    · simp only [List.length_append, List.length_take, List.length_drop, hl, hdl]
      omega
    rcases List.mem_append.1 hx with hx | hx
    · rcases List.mem_append.1 hx with hx | hx
      · exact hb x (List.mem_of_mem_take hx)
      exact h.db x (List.mem_of_mem_drop (List.mem_of_mem_take hx))
    exact hb x (List.mem_of_mem_drop hx)
theorem devStore_ok {n : Nat} {M : Mem} (hm : M.ok n) {d : Dev} (h : d.ok) (k : Int) {v : Nat} (hv : v ≤ 4294967295) : (devStore n M d k v).2.1.ok n ∧ (devStore n M d k v).2.2.ok ∧ (devStore n M d k v).2.2.out.length ≤ d.out.length + 1 := by
  have hD := driveDo_ok hm h.wf.disk h.wf.diskb d.sector d.place v
  have hvu := u32_nat hv
  have h0 : M.ok n ∧ d.ok ∧ d.out.length ≤ d.out.length + 1 := ⟨hm, h, by omega⟩
  unfold devStore
  refine cond_all (fun q : Bool × Mem × Dev => q.2.1.ok n ∧ q.2.2.ok ∧ q.2.2.out.length ≤ d.out.length + 1) ⟨hm, ⟨h.wf.re rfl rfl rfl rfl, bits_u32 .andNot d.pend v, h.mask, h.timer, h.status⟩, Nat.le_succ _⟩ ?_
  refine cond_all (fun q : Bool × Mem × Dev => q.2.1.ok n ∧ q.2.2.ok ∧ q.2.2.out.length ≤ d.out.length + 1) ⟨hm, ⟨h.wf.re rfl rfl rfl rfl, h.pend, bits_u32 .and v 255, h.timer, h.status⟩, Nat.le_succ _⟩ ?_
  refine cond_all (fun q : Bool × Mem × Dev => q.2.1.ok n ∧ q.2.2.ok ∧ q.2.2.out.length ≤ d.out.length + 1) ⟨hm, ⟨h.wf.re rfl rfl rfl rfl, h.pend, h.mask, hvu, h.status⟩, Nat.le_succ _⟩ ?_
  refine cond_all (fun q : Bool × Mem × Dev => q.2.1.ok n ∧ q.2.2.ok ∧ q.2.2.out.length ≤ d.out.length + 1) ⟨hm, ⟨⟨h.wf.inpb, h.wf.disk, h.wf.diskb, h.wf.sector, h.wf.place, h.wf.inp⟩, h.pend, h.mask, h.timer, h.status⟩, by simp⟩ ?_
  refine cond_all (fun q : Bool × Mem × Dev => q.2.1.ok n ∧ q.2.2.ok ∧ q.2.2.out.length ≤ d.out.length + 1) ⟨hm, ⟨⟨h.wf.inpb, h.wf.disk, h.wf.diskb, hv, h.wf.place, h.wf.inp⟩, h.pend, h.mask, h.timer, h.status⟩, Nat.le_succ _⟩ ?_
  refine cond_all (fun q : Bool × Mem × Dev => q.2.1.ok n ∧ q.2.2.ok ∧ q.2.2.out.length ≤ d.out.length + 1) ⟨hm, ⟨⟨h.wf.inpb, h.wf.disk, h.wf.diskb, h.wf.sector, hv, h.wf.inp⟩, h.pend, h.mask, h.timer, h.status⟩, Nat.le_succ _⟩ ?_
  refine cond_all (fun q : Bool × Mem × Dev => q.2.1.ok n ∧ q.2.2.ok ∧ q.2.2.out.length ≤ d.out.length + 1) ⟨hD.1, ⟨⟨h.wf.inpb, hD.2.1, hD.2.2, h.wf.sector, h.wf.place, h.wf.inp⟩, bits_u32 .or d.pend (linesOf [2]), h.mask, h.timer, cond_all u32 u0 u1⟩, Nat.le_succ _⟩ ?_
  refine cond_all (fun q : Bool × Mem × Dev => q.2.1.ok n ∧ q.2.2.ok ∧ q.2.2.out.length ≤ d.out.length + 1) h0 ?_
  refine cond_all (fun q : Bool × Mem × Dev => q.2.1.ok n ∧ q.2.2.ok ∧ q.2.2.out.length ≤ d.out.length + 1) h0 ?_
  refine cond_all (fun q : Bool × Mem × Dev => q.2.1.ok n ∧ q.2.2.ok ∧ q.2.2.out.length ≤ d.out.length + 1) h0 ?_
  exact cond_all (fun q : Bool × Mem × Dev => q.2.1.ok n ∧ q.2.2.ok ∧ q.2.2.out.length ≤ d.out.length + 1) h0 h0
end Go.Ink
