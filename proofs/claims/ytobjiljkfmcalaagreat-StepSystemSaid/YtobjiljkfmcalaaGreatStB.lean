/- Clone, Copy, Trap, Return. -/
import Derived.Test.YtobjiljkfmcalaaGreatStA
import Derived.Test.YtobjiljkfmcalaaGreatInkS
set_option linter.unusedSimpArgs false
set_option linter.unusedVariables false
set_option maxRecDepth 100000
namespace Go.Proofs.YtobjiljkfmcalaaGreat
open Go.RowKit Go.Ink

theorem clone_ok (A : Option Addr) (n c : Nat) (xs : List Int) (w : World) (h : Rd w .u32 A n c xs) (hn : n * 4 ≤ 140737488355328) : Ctr Tryz.prog 76 [.slice A n c] w [] (fun v cs => ∃ A' c', v = .slice A' n c' ∧ cs = [sl .u32 22 A' n c' xs]) := by
  refine fn_ctr Tryz.func76 rfl Tryz.ntmps76 rfl (Inv.start w) ?_
  refine Zs (Zr (Zg rfl (Zn (Zt (Zs (Zs (Zr (Zm rfl (Zy (y_slnil rfl (Zv rfl)) (Zn (Zt ?_)))))))))))
  refine wc_cond _ rfl (fun hc1 => ?_) (fun hc1 => ?_)
  · obtain rfl : A = none := by simpa using hc1
    obtain ⟨rfl, rfl⟩ := h.nil rfl
    obtain rfl : xs = [] := by have := h.len; simpa [ints] using this
    refine Zs (Zr (wl_nilc 22 1 ?_))
    refine Zg rfl (Zn (Zt (Ze (Zw (ret1 (cs' := [slv _ _ _ _ _ _]) (.inl rfl) Zu rfl rfl ?_)))))
    exact ⟨_, _, rfl, rfl⟩
  refine Zc (Zt (Zs (Zr (wl_t (t_buildSl1 rfl rfl (fun _ => rfl) (fun _ => rfl) rfl rfl) rfl ?_))))
  rintro _ _ ⟨b5, rfl, rfl⟩
  refine Zm rfl (wl_t (t_append (e := 22) (sz := 1) (bytes := 4) rfl rfl Za rfl rfl (fun w hi => h.oldN hi) ints_one (by simp only [maxLen]; omega) (by omega)) rfl ?_)
  rintro _ _ ⟨A', c', rfl, rfl⟩
  simp only [Nat.zero_add, List.nil_append]
  refine Zg rfl (Zn (Zt (Ze (ret1 (cs' := [slv _ _ _ _ _ _]) (.inl rfl) Zu rfl rfl ?_))))
  exact ⟨_, _, rfl, rfl⟩

/-- A state and its two stacks, as they are read. -/
structure RdSt (w : World) (s : St) (Ad Ar : Option Addr) (cd cr : Nat) : Prop where
  d : Rd w .u32 Ad s.d.length cd s.d
  r : Rd w .u32 Ar s.r.length cr s.r
  hd : s.d.length * 4 ≤ 140737488355328
  hr : s.r.length * 4 ≤ 140737488355328
theorem RdSt.oldN {w0 w : World} {cs : List Chunk} {s : St} {Ad Ar : Option Addr} {cd cr : Nat} (h : RdSt w0 s Ad Ar cd cr) (hi : Inv w0 [] cs w) : RdSt w s Ad Ar cd cr := ⟨h.d.oldN hi, h.r.oldN hi, h.hd, h.hr⟩
abbrev sv (s : St) (Ad : Option Addr) (cd : Nat) (Ar : Option Addr) (cr : Nat) : Value := .agg (s.cells (.slice Ad s.d.length cd) (.slice Ar s.r.length cr)).toArray
abbrev slD (s : St) (A : Option Addr) (c : Nat) : Chunk := sl .u32 22 A s.d.length c s.d
abbrev slR (s : St) (A : Option Addr) (c : Nat) : Chunk := sl .u32 22 A s.r.length c s.r
/-- A state of the call's own. -/
def OwnSt (s : St) (v : Value) (cs : List Chunk) : Prop := ∃ Ad cd Ar cr, v = sv s Ad cd Ar cr ∧ cs = [slD s Ad cd, slR s Ar cr]
theorem _root_.Go.Ink.Inv.rdSt {w0 w : World} {S : List Nat} {cs : List Chunk} {s : St} {Ad Ar : Option Addr} {cd cr : Nat} (hi : Inv w0 S cs w) (h1 : Has cs (slD s Ad cd)) (h2 : Has cs (slR s Ar cr)) (hd : s.d.length * 4 ≤ 140737488355328) (hr : s.r.length * 4 ≤ 140737488355328) : RdSt w s Ad Ar cd cr :=
  ⟨hi.rd h1, hi.rd h2, hd, hr⟩

theorem copy_ok (s : St) (Ad Ar : Option Addr) (cd cr : Nat) (w : World) (h : RdSt w s Ad Ar cd cr) : Ctr Tryz.prog 40 [sv s Ad cd Ar cr] w [] (OwnSt s) := by
  refine fn_ctr Tryz.func40 rfl Tryz.ntmps40 rfl (Inv.start w) ?_
  refine Zs (Zr (wl_t (t_box rfl rfl) rfl ?_))
  rintro _ _ ⟨b1, rfl, rfl⟩
  refine wl_t (t_alloc (fun _ => rfl) rfl) rfl ?_
  rintro _ _ ⟨b2, rfl, rfl⟩
  refine Zn (Zt (Zs (wc_draw ⟨fun j => List.elem j [7, 9], []⟩ Zk ?_)))
  refine wa_yn 0 rfl Zk Zk Zk (y_field 1 rfl (Zv rfl) Zf) rfl ?_
  refine wa_ln 1 rfl Zk Zk Zk Zk (y_load (fun _ => rfl) (Zv rfl)) (row_cell Zh rfl) rfl ?_
  refine wa_yn 3 rfl Zk Zk Zk (y_field 2 rfl (Zv rfl) Zf) rfl ?_
  refine wa_ln 4 rfl Zk Zk Zk Zk (y_load (fun _ => rfl) (Zv rfl)) (row_cell Zh rfl) rfl ?_
  refine wa_1 2 Zk ?_
  refine wi_t rfl rfl (t_call rfl (fun _ _ => rfl) (fun w hi => clone_ok Ad _ cd s.d w (h.d.oldN hi) h.hd)) (fun _ _ _ _ _ _ _ h => by cases h) rfl ?_
  rintro _ _ ⟨_, ⟨A1, c1, rfl, rfl⟩, rfl⟩
  refine wa_yn 6 rfl Zk Zk Zk (y_field 1 rfl (Zv rfl) Zf) rfl ?_
  refine wa_1 5 Zk ?_
  refine wi_t rfl rfl (t_call rfl (fun _ _ => rfl) (fun w hi => clone_ok Ar _ cr s.r w (h.r.oldN hi) h.hr)) (fun _ _ _ _ _ _ _ h => by cases h) rfl ?_
  rintro _ _ ⟨_, ⟨A2, c2, rfl, rfl⟩, rfl⟩
  refine wa_1 7 Zk ?_
  refine wi_t0 rfl rfl (t_store (fun _ => rfl) rfl rfl rfl Za Zp) (fun _ _ _ _ _ _ _ h => by cases h) ?_
  rintro _ _ ⟨rfl, rfl⟩
  refine wa_yn 8 rfl Zk Zk Zk (y_field 2 rfl (Zv rfl) Zf) rfl ?_
  refine wa_1 9 Zk ?_
  refine wi_t0 rfl rfl (t_store (fun _ => rfl) rfl rfl rfl Za Zp) (fun _ _ _ _ _ _ _ h => by cases h) ?_
  rintro _ _ ⟨rfl, rfl⟩
  refine wa_done Zk ?_
  refine Zt (Zs (Zr (wl_loadRow Zh (fun _ => rfl) (fun _ => rfl) (Zv rfl) rfl ?_)))
  refine wl_t0 (t_storeN (fun _ => rfl) rfl rfl (allT rfl) Za (by exact rfl)) ?_
  rintro _ _ ⟨rfl, rfl⟩
  refine Zn (Zt (Ze (retC (cs' := [slv _ _ _ _ _ _, slv _ _ _ _ _ _]) (.inl rfl) Zu rfl rfl Zh (fun _ => rfl) (fun _ => rfl) ?_)))
  exact ⟨_, _, _, _, rfl, rfl⟩
end Go.Proofs.YtobjiljkfmcalaaGreat
