/- A guest's memory: what the frames, the table and the memory's own row come to. No program in sight. -/
import Derived.Test.YtobjiljkfmcalaaGreatSpM
set_option linter.unusedSimpArgs false
set_option linter.unusedVariables false
set_option maxRecDepth 100000
namespace Go.Ink
open Go.RowKit
/-- Where a memory's parts lie; whose it is, and of how many pages. -/
structure MLoc where
  bp : Nat
  bt : Nat
  bf : Nat
  bg : Nat
  bm : Nat
  o : Nat
  n : Nat
/-- Bytes, and which pages were written. -/
structure Mem where
  data : List Int
  turned : List Bool
structure MemK where
  B : List Int
  ow : List Int
  pr : List Int
  fr : List Int
  gd : List Bool
structure MemRep (L : MLoc) (M : Mem) (k : MemK) : Prop where
  pl : PoolLen k.B k.ow k.pr
  o4 : L.o < 4
  n1 : 1 ≤ L.n
  n64 : L.n ≤ 64
  fr : k.fr.length = L.n
  gd : k.gd.length = L.n
  dl : M.data.length = L.n * 64
  tl : M.turned.length = 64
  db : u8s M.data
  page : ∀ p, p < L.n → (k.fr[p]? = some (-1) ∧ ∀ j, j < 64 → M.data[p * 64 + j]? = some 0) ∨ (∃ f : Nat, k.fr[p]? = some (f : Int) ∧ 16 ≤ f ∧ f < 256 ∧ k.ow[f]? = some (L.o : Int) ∧ ∀ j, j < 64 → k.B[f * 64 + j]? = M.data[p * 64 + j]?)
  inj : ∀ p q f : Nat, k.fr[p]? = some (f : Int) → k.fr[q]? = some (f : Int) → p = q
  held : ∀ f : Nat, f < 256 → k.ow[f]? = some (-1) ∨ (k.ow[f]? = some (L.o : Int) ∧ ∃ p : Nat, k.fr[p]? = some (f : Int))
  prom : k.pr[L.o]? = some (L.n : Int)
def Mem.put (M : Mem) (a : Nat) (b : Int) : Mem := ⟨M.data.set a b, M.turned.set (a / 64) true⟩
def Mem.calm (M : Mem) : Mem := ⟨M.data, List.replicate 64 false⟩

theorem nodup_len : ∀ (n : Nat) (l : List Nat), l.Nodup → (∀ x, x ∈ l → x < n) → l.length ≤ n
  | 0, l, _, h => by
    cases l with
    | nil => simp
    | cons x l => have := h x (by simp); omega
  | n + 1, l, hn, h => by
    by_cases hm : n ∈ l
    · have h1 := nodup_len n (l.erase n) (hn.erase n) (fun x hx => by
        have h2 := (hn.mem_erase_iff).1 hx
        have h3 := h x h2.2
        have := h2.1
        omega)
      rw [List.length_erase_of_mem hm] at h1
      omega
    have h1 := nodup_len n l hn (fun x hx => by
      have h3 := h x hx
      have : x ≠ n := fun e => hm (e ▸ hx)
      omega)
    omega
section
variable {L : MLoc} {M : Mem} {k : MemK}
/-- A frame's page. -/
theorem idx_of {l : List Int} {f : Int} (h : f ∈ l) : l[l.idxOf f]? = some f := by
  have hlt : l.idxOf f < l.length := List.idxOf_lt_length_of_mem h
  rw [List.getElem?_eq_getElem hlt, List.getElem_idxOf]
theorem idx_nodup {l : List Int} : ∀ {fs : List Nat}, fs.Nodup → (∀ f, f ∈ fs → ((f : Nat) : Int) ∈ l) → (fs.map fun f : Nat => l.idxOf (f : Int)).Nodup
  | [], _, _ => by simp
  | f :: fs, hn, h => by
    simp only [List.map_cons, List.nodup_cons] at hn ⊢
    refine ⟨fun hm => ?_, idx_nodup hn.2 (fun g hg => h g (by simp [hg]))⟩
    obtain ⟨g, hg, he⟩ := List.mem_map.1 hm
    have h1 := idx_of (h g (by simp [hg]))
    have h2 := idx_of (h f (by simp))
    rw [he, h2] at h1
    have : f = g := by have := Option.some.inj h1; omega
    exact hn.1 (this ▸ hg)
theorem mem_fr {l : List Int} {p : Nat} {v : Int} (h : l[p]? = some v) : v ∈ l := List.mem_of_getElem? h
/-- While a page has no frame fewer frames are held than there are pages. -/
theorem MemRep.heldLt (h : MemRep L M k) {p : Nat} (hp : k.fr[p]? = some (-1)) : (heldTo k.ow L.o 256).length < L.n := by
  unfold heldTo
  rw [List.length_map]
  obtain ⟨fs, hfs⟩ : ∃ fs, (List.range 256).filter (fun f => k.ow[f]? == some (L.o : Int)) = fs := ⟨_, rfl⟩
  rw [hfs]
  have hmem : ∀ f, f ∈ fs → ((f : Nat) : Int) ∈ k.fr := fun f hf => by
    rw [← hfs, List.mem_filter, List.mem_range] at hf
    rcases h.held f hf.1 with h1 | ⟨_, q, hq⟩
    · rw [h1] at hf
      have := hf.2
      simp at this
    exact mem_fr hq
  have hnd : fs.Nodup := by rw [← hfs]; exact List.filter_sublist.nodup List.nodup_range
  have h1 := idx_nodup hnd hmem
  have hpl : p < L.n := by have := (List.getElem?_eq_some_iff.1 hp).1; rw [h.fr] at this; exact this
  have h2 := nodup_len L.n (p :: fs.map fun f : Nat => k.fr.idxOf (f : Int)) (List.nodup_cons.2 ⟨fun hm => by
    obtain ⟨f, hf, he⟩ := List.mem_map.1 hm
    have := idx_of (hmem f hf)
    rw [he, hp] at this
    have := Option.some.inj this
    omega, h1⟩) (fun x hx => by
    rcases List.mem_cons.1 hx with rfl | hx
    · exact hpl
    obtain ⟨f, hf, rfl⟩ := List.mem_map.1 hx
    have := List.idxOf_lt_length_of_mem (hmem f hf)
    rw [h.fr] at this
    exact this)
  simp only [List.length_cons, List.length_map] at h2
  omega
/-- There is a frame that nobody holds. -/
theorem MemRep.free (h : MemRep L M k) : ∃ f, 16 ≤ f ∧ f < 256 ∧ k.ow[f]? = some (-1) := by
  apply Classical.byContradiction
  intro hno
  have hmem : ∀ f, f ∈ List.range' 16 240 → ((f : Nat) : Int) ∈ k.fr := fun f hf => by
    rw [List.mem_range'_1] at hf
    rcases h.held f (by omega) with h1 | ⟨_, q, hq⟩
    · exact absurd ⟨f, hf.1, by omega, h1⟩ hno
    exact mem_fr hq
  have h1 := idx_nodup (List.nodup_range' (s := 16) (n := 240)) hmem
  have h2 := nodup_len L.n _ h1 (fun x hx => by
    obtain ⟨f, hf, rfl⟩ := List.mem_map.1 hx
    have := List.idxOf_lt_length_of_mem (hmem f hf)
    rw [h.fr] at this
    exact this)
  rw [List.length_map, List.length_range'] at h2
  have := h.n64
  omega
theorem MemRep.at_ (h : MemRep L M k) {a : Nat} (ha : a < L.n * 64) : ∃ b, M.data[a]? = some b ∧ 0 ≤ b ∧ b ≤ 255 := by
  have hl : a < M.data.length := by rw [h.dl]; exact ha
  refine ⟨M.data[a], List.getElem?_eq_getElem hl, h.db _ (List.getElem_mem hl)⟩
/-- A byte of a page that has a frame. -/
theorem MemRep.putF (h : MemRep L M k) {p j f : Nat} {b : Int} (hj : j < 64) (hb : 0 ≤ b ∧ b ≤ 255) (hf : k.fr[p]? = some (f : Int)) : MemRep L (M.put (p * 64 + j) b) { k with B := k.B.set (f * 64 + j) b } := by
  have hpl : p < L.n := by have := (List.getElem?_eq_some_iff.1 hf).1; rw [h.fr] at this; exact this
  have hBl := h.pl.b
  have hf256 : f < 256 := by
    rcases h.page p hpl with ⟨h1, _⟩ | ⟨f', h1, h2, h3, _⟩
    · rw [hf] at h1; have := Option.some.inj h1; omega
    rw [hf] at h1; have := Option.some.inj h1; omega
  refine ⟨⟨by rw [List.length_set]; exact h.pl.b, h.pl.ow, h.pl.pr⟩, h.o4, h.n1, h.n64, h.fr, h.gd, by show (M.data.set _ _).length = _; rw [List.length_set]; exact h.dl, by show (M.turned.set _ _).length = _; rw [List.length_set]; exact h.tl, ?_, ?_, h.inj, h.held, h.prom⟩
  · intro x hx
    rcases List.mem_or_eq_of_mem_set hx with h1 | h1
    · exact h.db x h1
    rw [h1]; exact hb
  intro q hq
  show (k.fr[q]? = some (-1) ∧ ∀ i, i < 64 → (M.data.set (p * 64 + j) b)[q * 64 + i]? = some 0) ∨ (∃ g : Nat, k.fr[q]? = some (g : Int) ∧ 16 ≤ g ∧ g < 256 ∧ k.ow[g]? = some (L.o : Int) ∧ ∀ i, i < 64 → (k.B.set (f * 64 + j) b)[g * 64 + i]? = (M.data.set (p * 64 + j) b)[q * 64 + i]?)
  rcases h.page q hq with ⟨h1, h2⟩ | ⟨g, h1, h2, h3, h4, h5⟩
  · left
    have hne : q ≠ p := by rintro rfl; rw [hf] at h1; have := Option.some.inj h1; omega
    refine ⟨h1, fun i hi => ?_⟩
    rw [List.getElem?_set_ne (by omega)]
    exact h2 i hi
  right
  refine ⟨g, h1, h2, h3, h4, fun i hi => ?_⟩
  by_cases hqp : q = p
  · subst hqp
    have hg : g = f := by rw [hf] at h1; have := Option.some.inj h1; omega
    subst hg
    rw [List.getElem?_set, List.getElem?_set]
    by_cases hij : j = i
    · subst hij
      have hdl := h.dl
      rw [if_pos rfl, if_pos rfl, if_pos (by omega), if_pos (by rw [hdl]; omega)]
    rw [if_neg (by omega), if_neg (by omega)]
    exact h5 i hi
  have hgf : g ≠ f := by
    rintro rfl
    exact hqp (h.inj q p g h1 hf)
  rw [List.getElem?_set_ne (by omega), List.getElem?_set_ne (by omega)]
  exact h5 i hi
/-- A page without a frame is given one. -/
theorem MemRep.map (h : MemRep L M k) {p f : Nat} (hp : p < L.n) (hf : k.fr[p]? = some (-1)) (h16 : 16 ≤ f) (h256 : f < 256) (hw : k.ow[f]? = some (-1)) : MemRep L M { k with B := zeroFrame k.B f, ow := k.ow.set f L.o, fr := k.fr.set p f } := by
  have hBl := h.pl.b
  have howl := h.pl.ow
  have hfl := h.fr
  have hnof : ∀ q : Nat, k.fr[q]? ≠ some (f : Int) := fun q hq => by
    have hql : q < L.n := by have := (List.getElem?_eq_some_iff.1 hq).1; rw [h.fr] at this; exact this
    rcases h.page q hql with ⟨h1, _⟩ | ⟨g, h1, _, _, h4, _⟩
    · rw [hq] at h1; have := Option.some.inj h1; omega
    rw [hq] at h1
    have : g = f := by have := Option.some.inj h1; omega
    subst this
    rw [hw] at h4
    have := Option.some.inj h4
    omega
  have hz : ∀ j, j < 64 → M.data[p * 64 + j]? = some 0 := by
    rcases h.page p hp with ⟨_, h2⟩ | ⟨g, h1, _⟩
    · exact h2
    rw [hf] at h1; have := Option.some.inj h1; omega
  refine ⟨⟨zeroFrame_len hBl h256, by rw [List.length_set]; exact h.pl.ow, h.pl.pr⟩, h.o4, h.n1, h.n64, by show (k.fr.set _ _).length = _; rw [List.length_set]; exact h.fr, h.gd, h.dl, h.tl, h.db, ?_, ?_, ?_, h.prom⟩
  · intro q hq
    show ((k.fr.set p (f : Int))[q]? = some (-1) ∧ ∀ i, i < 64 → M.data[q * 64 + i]? = some 0) ∨ (∃ g : Nat, (k.fr.set p (f : Int))[q]? = some (g : Int) ∧ 16 ≤ g ∧ g < 256 ∧ (k.ow.set f (L.o : Int))[g]? = some (L.o : Int) ∧ ∀ i, i < 64 → (zeroFrame k.B f)[g * 64 + i]? = M.data[q * 64 + i]?)
    by_cases hqp : q = p
    · subst hqp
      right
      refine ⟨f, by rw [List.getElem?_set, if_pos rfl, if_pos (by omega)], h16, h256, by rw [List.getElem?_set, if_pos rfl, if_pos (by omega)], fun i hi => ?_⟩
      rw [zeroFrame_in hBl h256 hi, hz i hi]
    rw [List.getElem?_set_ne (by omega)]
    rcases h.page q hq with h1 | ⟨g, h1, h2, h3, h4, h5⟩
    · exact .inl h1
    right
    have hgf : g ≠ f := by rintro rfl; exact hnof q h1
    refine ⟨g, h1, h2, h3, by rw [List.getElem?_set_ne (by omega)]; exact h4, fun i hi => ?_⟩
    rw [zeroFrame_out hBl h256 (by omega)]
    exact h5 i hi
  · intro a b g ha hb
    show a = b
    change (k.fr.set p (f : Int))[a]? = _ at ha
    change (k.fr.set p (f : Int))[b]? = _ at hb
    by_cases hap : a = p
    · by_cases hbp : b = p
      · omega
      subst hap
      rw [List.getElem?_set, if_pos rfl, if_pos (by omega)] at ha
      rw [List.getElem?_set_ne (by omega)] at hb
      have : f = g := by have := Option.some.inj ha; omega
      subst this
      exact absurd hb (hnof b)
    by_cases hbp : b = p
    · subst hbp
      rw [List.getElem?_set, if_pos rfl, if_pos (by omega)] at hb
      rw [List.getElem?_set_ne (by omega)] at ha
      have : f = g := by have := Option.some.inj hb; omega
      subst this
      exact absurd ha (hnof a)
    rw [List.getElem?_set_ne (by omega)] at ha hb
    exact h.inj a b g ha hb
  intro g hg
  show (k.ow.set f (L.o : Int))[g]? = some (-1) ∨ ((k.ow.set f (L.o : Int))[g]? = some (L.o : Int) ∧ ∃ q : Nat, (k.fr.set p (f : Int))[q]? = some (g : Int))
  by_cases hgf : g = f
  · subst hgf
    right
    exact ⟨by rw [List.getElem?_set, if_pos rfl, if_pos (by omega)], p, by rw [List.getElem?_set, if_pos rfl, if_pos (by omega)]⟩
  rw [List.getElem?_set_ne (by omega)]
  rcases h.held g hg with h1 | ⟨h1, q, hq⟩
  · exact .inl h1
  right
  refine ⟨h1, q, ?_⟩
  have : q ≠ p := by rintro rfl; rw [hf] at hq; have := Option.some.inj hq; omega
  rw [List.getElem?_set_ne (by omega)]
  exact hq
/-- A 0 is put into a page without a frame. -/
theorem MemRep.put0 (h : MemRep L M k) {p j : Nat} (hj : j < 64) (hp : p < L.n) (hf : k.fr[p]? = some (-1)) : MemRep L (M.put (p * 64 + j) 0) k := by
  have hz : M.data[p * 64 + j]? = some 0 := by
    rcases h.page p hp with ⟨_, h2⟩ | ⟨g, h1, _⟩
    · exact h2 j hj
    rw [hf] at h1; have := Option.some.inj h1; omega
  have e : M.data.set (p * 64 + j) 0 = M.data := by
    apply List.ext_getElem?
    intro i
    rw [List.getElem?_set]
    split
    · rename_i hi; subst hi
      have := (List.getElem?_eq_some_iff.1 hz).1
      rw [if_pos this, hz]
    rfl
  unfold Mem.put
  rw [e]
  exact ⟨h.pl, h.o4, h.n1, h.n64, h.fr, h.gd, h.dl, by show (M.turned.set _ _).length = _; rw [List.length_set]; exact h.tl, h.db, h.page, h.inj, h.held, h.prom⟩
theorem MemRep.calm (h : MemRep L M k) : MemRep L M.calm k := ⟨h.pl, h.o4, h.n1, h.n64, h.fr, h.gd, h.dl, List.length_replicate, h.db, h.page, h.inj, h.held, h.prom⟩
end
/-- A new memory. -/
def Mem.new (n : Nat) : Mem := ⟨List.replicate (n * 64) 0, List.replicate 64 false⟩
theorem MemRep.new {L : MLoc} (ho : L.o < 4) (h1 : 1 ≤ L.n) (h64 : L.n ≤ 64) : MemRep L (Mem.new L.n) ⟨List.replicate 16384 0, List.replicate 256 (-1), (List.replicate 4 (-1)).set L.o L.n, List.replicate L.n (-1), List.replicate L.n false⟩ := by
  refine ⟨⟨List.length_replicate, List.length_replicate, by rw [List.length_set]; rfl⟩, ho, h1, h64, List.length_replicate, List.length_replicate, List.length_replicate, List.length_replicate, ?_, ?_, ?_, ?_, ?_⟩
  · intro x hx
    have := List.eq_of_mem_replicate hx
    omega
  · intro p hp
    left
    refine ⟨by rw [List.getElem?_replicate, if_pos hp], fun j hj => ?_⟩
    show (List.replicate (L.n * 64) (0 : Int))[p * 64 + j]? = _
    rw [List.getElem?_replicate, if_pos (by omega)]
  · intro p q f hp
    change (List.replicate L.n (-1 : Int))[p]? = _ at hp
    rw [List.getElem?_replicate] at hp
    split at hp
    · have := Option.some.inj hp; omega
    cases hp
  · intro f hf
    left
    show (List.replicate 256 (-1 : Int))[f]? = _
    rw [List.getElem?_replicate, if_pos hf]
  show ((List.replicate 4 (-1 : Int)).set L.o (L.n : Int))[L.o]? = _
  rw [List.getElem?_set, if_pos rfl, if_pos (by simpa using ho)]
end Go.Ink
