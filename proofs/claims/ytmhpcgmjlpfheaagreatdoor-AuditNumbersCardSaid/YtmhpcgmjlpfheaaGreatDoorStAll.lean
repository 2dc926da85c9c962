/- Joined: StM StA StB StC StD StE StF StS StO. -/
import Derived.Test.YtmhpcgmjlpfheaaGreatDoorInkA
import Derived.Test.YtmhpcgmjlpfheaaGreatDoorInkA
import Derived.Test.YtmhpcgmjlpfheaaGreatDoorProg
import Derived.Test.YtmhpcgmjlpfheaaGreatDoorRows
/- A guest's registers as plain data, and what is done to them. No program in sight. -/
namespace Go.Ink
open Go.RowKit

structure St where
 pc : Int
 d : List Int
 r : List Int
 flags : Int
 super : Bool
 paging : Bool
 ie : Bool
 root : Int
 vec : Int
 epc : Int
 cause : Int
 addr : Int
 esuper : Bool
 eie : Bool
 count : Int
 halted : Bool

abbrev St.cells (s : St) (dv rv : Value) : List Value :=
 [.int .u32 s.pc, dv, rv, .int .u32 s.flags, .bool s.super, .bool s.paging, .bool s.ie, .int .u32 s.root, .int .u32 s.vec, .int .u32 s.epc, .int .u32 s.cause, .int .u32 s.addr, .bool s.esuper, .bool s.eie, .int .u64 s.count, .bool s.halted]
def b2i (b : Bool) : Int := bif b then 1 else 0
def within (n lo hi : Int) : Int := lo + n % (hi - lo + 1)
def St.zero : St := ⟨0, [], [], 0, false, false, false, 0, 0, 0, 0, 0, false, false, 0, false⟩
def St.new : St := { St.zero with super := true }
def St.trap (s : St) (cause addr : Int) : St :=
 { s with epc := s.pc, cause := IntKind.u32.wrap cause, addr := addr, esuper := s.super, eie := s.ie, super := true, ie := false, pc := s.vec }
def St.back (s : St) : St := { s with pc := s.epc, super := s.esuper, ie := s.eie }
def St.get (s : St) (reg : Int) : Int × Bool :=
 bif reg == 0 then (b2i s.ie, true) else bif reg == 1 then (b2i s.paging, true) else bif reg == 2 then (s.root, true) else bif reg == 3 then (s.vec, true) else bif reg == 4 then (s.epc, true) else
 bif reg == 5 then (s.cause, true) else bif reg == 6 then (s.addr, true) else bif reg == 7 then (b2i s.esuper, true) else bif reg == 8 then (b2i s.eie, true) else bif reg == 9 then (IntKind.u32.wrap s.count, true) else
 bif reg == 10 then (s.flags, true) else (0, false)
def St.set (s : St) (reg v : Int) : St × Bool :=
 bif reg == 0 then ({ s with ie := v != 0 }, true) else bif reg == 1 then ({ s with paging := v != 0 }, true) else bif reg == 2 then ({ s with root := bits .andNot .u32 v 63 }, true) else bif reg == 3 then ({ s with vec := v }, true) else
 bif reg == 4 then ({ s with epc := v }, true) else bif reg == 5 then ({ s with cause := v }, true) else bif reg == 6 then ({ s with addr := v }, true) else bif reg == 7 then ({ s with esuper := v != 0 }, true) else bif reg == 8 then ({ s with eie := v != 0 }, true) else
 bif reg == 10 then ({ s with flags := bits .and .u32 v 15 }, true) else (s, false)
/-- The same ones: in the order of the program's test. -/
def St.same (a b : St) : Bool :=
 (((a.d == b.d) && (a.r == b.r)) && ((((((((a.pc == b.pc) && (a.flags == b.flags)) && (a.super == b.super)) && (a.paging == b.paging)) && (a.ie == b.ie)) && (a.root == b.root)) && (a.vec == b.vec))) && (((((a.epc == b.epc) && (a.cause == b.cause)) && (a.addr == b.addr)) && (a.esuper == b.esuper)) && (a.eie == b.eie))) && (a.count == b.count) && (a.halted == b.halted)
def St.right (s : St) : Bool := decide ((s.d.length : Int) ≤ 16) && decide ((s.r.length : Int) ≤ 16) && decide (s.flags ≤ 15)
/-- The numbers are ones of their kinds. -/
def u32 (x : Int) : Prop := 0 ≤ x ∧ x ≤ 4294967295
/-- Bytes. -/
def u8s (l : List Int) : Prop := ∀ x, x ∈ l → 0 ≤ x ∧ x ≤ 255
structure St.wf (s : St) : Prop where
 pc : u32 s.pc
 flags : u32 s.flags
 root : u32 s.root
 vec : u32 s.vec
 epc : u32 s.epc
 cause : u32 s.cause
 addr : u32 s.addr
 count : 0 ≤ s.count ∧ s.count ≤ 18446744073709551615
 d : ∀ x, x ∈ s.d → u32 x
 r : ∀ x, x ∈ s.r → u32 x
end Go.Ink
/- The small functions: number, Within, Clone, Copy. -/
set_option linter.unusedSimpArgs false
set_option linter.unusedVariables false
set_option maxRecDepth 100000
namespace Go.Proofs.YtmhpcgmjlpfheaaGreatDoor
open Go.RowKit Go.Ink
attribute [local irreducible] OpY GuardIs

theorem number_ok (b : Bool) (w : World) : Ctr Tryz.prog 228 [.bool b] w [] (fun v cs => v = .int .u32 (b2i b) ∧ cs = []) := by
 refine fn_ctr Tryz.func228 rfl Tryz.ntmps228 rfl (Inv.start w) ?_
 refine Zs (Zr (ZA ?_))
 refine Zn (Zt (Zs (Zs (Zr (ZA ?_)))))
 refine Zn (Zt ?_)
 refine wc_cond _ rfl (fun hc1 => ?_) (fun hc1 => ?_)
 ·subst hc1
  refine Zs (Zr (ZA ?_))
  refine Zn (Zt (Ze (Zw (ret1 (cs' := []) (.inl rfl) Zu rfl rfl ?_))))
  exact ⟨rfl, rfl⟩
 subst hc1
 refine Zc (Zt (Zs (Zr (ZA ?_))))
 refine Zn (Zt (Ze (ret1 (cs' := []) (.inl rfl) Zu rfl rfl ?_)))
 exact ⟨rfl, rfl⟩

end Go.Proofs.YtmhpcgmjlpfheaaGreatDoor
/- Clone, Copy, Trap, Return. -/
set_option linter.unusedSimpArgs false
set_option linter.unusedVariables false
set_option maxRecDepth 100000
namespace Go.Proofs.YtmhpcgmjlpfheaaGreatDoor
open Go.RowKit Go.Ink
attribute [local irreducible] OpY GuardIs

theorem clone_ok (A : Option Addr) (n c : Nat) (xs : List Int) (w : World) (h : Rd w .u32 A n c xs) (hn : n * 4 ≤ 140737488355328) : Ctr Tryz.prog 95 [.slice A n c] w [] (fun v cs => ∃ A' c', v = .slice A' n c' ∧ cs = [sl .u32 24 A' n c' xs]) := by
 refine fn_ctr Tryz.func95 rfl Tryz.ntmps95 rfl (Inv.start w) ?_
 refine Zs (Zr (ZA ?_))
 refine Zn (Zt (Zs (Zs (Zr (ZA ?_)))))
 refine ZA ?_
 refine Zn (Zt ?_)
 refine wc_cond _ rfl (fun hc1 => ?_) (fun hc1 => ?_)
 ·obtain rfl : A = none := by simpa using hc1
  obtain ⟨rfl, rfl⟩ := h.nil rfl
  obtain rfl : xs = [] := by have := h.len; simpa [ints] using this
  refine Zs (Zr (wl_nilc 24 1 ?_))
  refine ZA ?_
  refine Zn (Zt (Ze (Zw (ret1 (cs' := [slv _ _ _ _ _ _]) (.inl rfl) Zu rfl rfl ?_))))
  exact ⟨_, _, rfl, rfl⟩
 refine Zc (Zt (Zs (Zr (wl_t (t_buildSl1 rfl rfl (fun _ => rfl) (fun _ => rfl) rfl rfl) rfl ?_))))
 rintro _ _ ⟨b5, rfl, rfl⟩
 refine ZA ?_
 refine wl_t (t_append (e := 24) (sz := 1) (bytes := 4) rfl rfl Za rfl rfl (fun w hi => h.oldN hi) ints_one (by simp only [maxLen]; omega) (by omega)) rfl ?_
 rintro _ _ ⟨A', c', rfl, rfl⟩
 simp only [Nat.zero_add, List.nil_append]
 refine ZA ?_
 refine Zn (Zt (Ze (ret1 (cs' := [slv _ _ _ _ _ _]) (.inl rfl) Zu rfl rfl ?_)))
 exact ⟨_, _, rfl, rfl⟩

/-- A state and its two stacks, as they are read. -/
structure RdSt (w : World) (s : St) (Ad Ar : Option Addr) (cd cr : Nat) : Prop where
 d : Rd w .u32 Ad s.d.length cd s.d
 r : Rd w .u32 Ar s.r.length cr s.r
 hd : s.d.length * 4 ≤ 140737488355328
 hr : s.r.length * 4 ≤ 140737488355328
theorem RdSt.oldN {w0 w : World} {cs : List Chunk} {s : St} {Ad Ar : Option Addr} {cd cr : Nat} (h : RdSt w0 s Ad Ar cd cr) (hi : Inv w0 [] cs w) : RdSt w s Ad Ar cd cr := ⟨h.d.oldN hi, h.r.oldN hi, h.hd, h.hr⟩
abbrev sv (s : St) (Ad : Option Addr) (cd : Nat) (Ar : Option Addr) (cr : Nat) : Value := .agg (s.cells (.slice Ad s.d.length cd) (.slice Ar s.r.length cr)).toArray
abbrev slD (s : St) (A : Option Addr) (c : Nat) : Chunk := sl .u32 24 A s.d.length c s.d
abbrev slR (s : St) (A : Option Addr) (c : Nat) : Chunk := sl .u32 24 A s.r.length c s.r
/-- A state of the call's own. -/
def OwnSt (s : St) (v : Value) (cs : List Chunk) : Prop := ∃ Ad cd Ar cr, v = sv s Ad cd Ar cr ∧ cs = [slD s Ad cd, slR s Ar cr]
theorem _root_.Go.Ink.Inv.rdSt {w0 w : World} {S : List Nat} {cs : List Chunk} {s : St} {Ad Ar : Option Addr} {cd cr : Nat} (hi : Inv w0 S cs w) (h1 : Has cs (slD s Ad cd)) (h2 : Has cs (slR s Ar cr)) (hd : s.d.length * 4 ≤ 140737488355328) (hr : s.r.length * 4 ≤ 140737488355328) : RdSt w s Ad Ar cd cr :=
 ⟨hi.rd h1, hi.rd h2, hd, hr⟩

theorem copy_ok (s : St) (Ad Ar : Option Addr) (cd cr : Nat) (w : World) (h : RdSt w s Ad Ar cd cr) : Ctr Tryz.prog 79 [sv s Ad cd Ar cr] w [] (OwnSt s) := by
 refine fn_ctr Tryz.func79 rfl Tryz.ntmps79 rfl (Inv.start w) ?_
 refine Zs (Zr (ZO fun b1 => ?_))
 refine ZN fun b2 => ?_
 refine Zn (Zt (Zs (wc_draw ⟨fun j => List.elem j [7, 9], []⟩ Zk ?_)))
 refine ZFe 0 1 ?_
 refine ZG 1 ?_
 refine ZFe 3 2 ?_
 refine ZG 4 ?_
 refine wa_1 2 Zk ?_
 refine ZT (fun w hi => clone_ok Ad _ cd s.d w (h.d.oldN hi) h.hd) ?_
 rintro _ _ ⟨_, ⟨A1, c1, rfl, rfl⟩, rfl⟩
 refine ZFe 6 1 ?_
 refine wa_1 5 Zk ?_
 refine ZT (fun w hi => clone_ok Ar _ cr s.r w (h.r.oldN hi) h.hr) ?_
 rintro _ _ ⟨_, ⟨A2, c2, rfl, rfl⟩, rfl⟩
 refine wa_1 7 Zk ?_
 refine ZQ ?_
 refine ZFe 8 2 ?_
 refine wa_1 9 Zk ?_
 refine ZQ ?_
 refine wa_done Zk ?_
 refine Zt (Zs (Zr (wl_loadRow Zh (fun _ => rfl) (fun _ => rfl) (Zv rfl) rfl ?_)))
 refine ZM ?_
 refine Zn (Zt (Ze (retC (cs' := [slv _ _ _ _ _ _, slv _ _ _ _ _ _]) (.inl rfl) Zu rfl rfl Zh (fun _ => rfl) (fun _ => rfl) ?_)))
 exact ⟨_, _, _, _, rfl, rfl⟩
end Go.Proofs.YtmhpcgmjlpfheaaGreatDoor
/- Trap, Return, New, Get, Set, Right. -/
set_option linter.unusedSimpArgs false
set_option linter.unusedVariables false
set_option maxRecDepth 100000
namespace Go.Proofs.YtmhpcgmjlpfheaaGreatDoor
open Go.RowKit Go.Ink
attribute [local irreducible] OpY GuardIs

theorem trap_ok (s : St) (Ad Ar : Option Addr) (cd cr : Nat) (cause addr : Int) (w : World) (h : RdSt w s Ad Ar cd cr) : Ctr Tryz.prog 118 [sv s Ad cd Ar cr, .int .i64 cause, .int .u32 addr] w [] (OwnSt (s.trap cause addr)) := by
 refine fn_ctr Tryz.func118 rfl Tryz.ntmps118 rfl (Inv.start w) ?_
 refine Zs (Zr (ZO fun b3 => ?_))
 refine ZN fun b6 => ?_
 refine Zn (Zt (Zs (Zr (wl_loadRow Zh (fun _ => rfl) (fun _ => rfl) (Zv rfl) rfl ?_))))
 refine ZS (fun w hi => copy_ok s Ad Ar cd cr w (h.oldN hi)) ?_
 rintro _ _ ⟨_, ⟨A1, c1, A2, c2, rfl, rfl⟩, rfl⟩
 refine ZM ?_
 refine Zn (Zt (Zs (Zr (ZFa 0 ?_))))
 refine ZC ?_
 refine ZA ?_
 refine Zy (y_conv rfl rfl (Zv rfl) rfl) ?_
 refine ZA ?_
 refine ZFa 4 ?_
 refine ZC ?_
 refine ZFa 6 ?_
 refine ZC ?_
 refine ZFa 9 ?_
 refine ZL ?_
 refine ZFa 10 ?_
 refine ZL ?_
 refine ZFa 11 ?_
 refine ZL ?_
 refine ZFa 12 ?_
 refine ZL ?_
 refine ZFa 13 ?_
 refine ZL ?_
 refine Zn (Zt (Zs (Zr (ZFa 8 ?_))))
 refine ZC ?_
 refine ZFa 4 ?_
 refine ZL ?_
 refine ZFa 6 ?_
 refine ZL ?_
 refine ZFa 0 ?_
 refine ZL ?_
 refine Zn (Zt (Zs (Zr (wl_loadRow Zh (fun _ => rfl) (fun _ => rfl) (Zv rfl) rfl ?_))))
 refine ZM ?_
 refine Zn (Zt (Ze (retC (cs' := [slv _ _ _ _ _ _, slv _ _ _ _ _ _]) (.inl rfl) Zu rfl rfl Zh (fun _ => rfl) (fun _ => rfl) ?_)))
 exact ⟨_, _, _, _, rfl, rfl⟩
theorem return_ok (s : St) (Ad Ar : Option Addr) (cd cr : Nat) (w : World) (h : RdSt w s Ad Ar cd cr) : Ctr Tryz.prog 194 [sv s Ad cd Ar cr] w [] (OwnSt s.back) := by
 refine fn_ctr Tryz.func194 rfl Tryz.ntmps194 rfl (Inv.start w) ?_
 refine Zs (Zr (ZO fun b1 => ?_))
 refine ZN fun b2 => ?_
 refine Zn (Zt (Zs (Zr (wl_loadRow Zh (fun _ => rfl) (fun _ => rfl) (Zv rfl) rfl ?_))))
 refine ZS (fun w hi => copy_ok s Ad Ar cd cr w (h.oldN hi)) ?_
 rintro _ _ ⟨_, ⟨A1, c1, A2, c2, rfl, rfl⟩, rfl⟩
 refine ZM ?_
 refine Zn (Zt (Zs (Zr (ZFa 9 ?_))))
 refine ZC ?_
 refine ZFa 12 ?_
 refine ZC ?_
 refine ZFa 13 ?_
 refine ZC ?_
 refine ZFa 0 ?_
 refine ZL ?_
 refine ZFa 4 ?_
 refine ZL ?_
 refine ZFa 6 ?_
 refine ZL ?_
 refine Zn (Zt (Zs (Zr (wl_loadRow Zh (fun _ => rfl) (fun _ => rfl) (Zv rfl) rfl ?_))))
 refine ZM ?_
 refine Zn (Zt (Ze (retC (cs' := [slv _ _ _ _ _ _, slv _ _ _ _ _ _]) (.inl rfl) Zu rfl rfl Zh (fun _ => rfl) (fun _ => rfl) ?_)))
 exact ⟨_, _, _, _, rfl, rfl⟩
theorem new_ok (w : World) : Ctr Tryz.prog 34 [] w [] (fun v cs => v = sv St.new none 0 none 0 ∧ cs = []) := by
 refine fn_ctr Tryz.func34 rfl Tryz.ntmps34 rfl (Inv.start w) ?_
 refine Zs (Zr (ZN fun b0 => ?_))
 refine Zn (Zt (Zs (Zr (ZA ?_))))
 refine ZM ?_
 refine Zn (Zt (Ze (retC (cs' := []) (.inl rfl) Zu rfl rfl Zh (fun _ => rfl) (fun _ => rfl) ?_)))
 exact ⟨rfl, rfl⟩
theorem get_ok (s : St) (dv rv : Value) (reg : Int) (w : World) : Ctr Tryz.prog 181 [.agg (s.cells dv rv).toArray, .int .i64 reg] w [] (fun v cs => v = .tuple #[.int .u32 (s.get reg).1, .bool (s.get reg).2] ∧ cs = []) := by
 refine fn_ctr Tryz.func181 rfl Tryz.ntmps181 rfl (Inv.start w) ?_
 refine Zs (Zr (ZO fun b2 => ?_))
 iterate 2 refine ZA ?_
 refine Zn (Zt (Zs (Zs (Zr (ZA ?_)))))
 refine Zn (Zt (Zx (Zs (Zr (ZA ?_)))))
 refine ZA ?_
 refine Zn (Zt ?_)
 refine wc_cond _ rfl (fun hc2 => ?_) (fun hc2 => ?_)
 ·refine Zs (Zr (ZFa 6 ?_))
  refine ZC ?_
  refine ZS (fun w hi => number_ok _ w) ?_
  rintro _ _ ⟨_, ⟨rfl, rfl⟩, rfl⟩
  iterate 2 refine ZA ?_
  refine Zn (Zt (Ze (Zq (Zw (ret2 (cs' := []) (.inl rfl) Zu rfl rfl rfl ?_)))))
  refine ⟨?_, rfl⟩
  simp only [St.get, *, cond_true, cond_false]
 refine Zs (Zr (ZA ?_))
 refine ZA ?_
 refine Zn (Zt ?_)
 refine wc_cond _ rfl (fun hc4 => ?_) (fun hc4 => ?_)
 ·refine Zs (Zr (ZFa 5 ?_))
  refine ZC ?_
  refine ZS (fun w hi => number_ok _ w) ?_
  rintro _ _ ⟨_, ⟨rfl, rfl⟩, rfl⟩
  iterate 2 refine ZA ?_
  refine Zn (Zt (Ze (Zq (Zw (ret2 (cs' := []) (.inl rfl) Zu rfl rfl rfl ?_)))))
  refine ⟨?_, rfl⟩
  simp only [St.get, *, cond_true, cond_false]
 refine Zs (Zr (ZA ?_))
 refine ZA ?_
 refine Zn (Zt ?_)
 refine wc_cond _ rfl (fun hc6 => ?_) (fun hc6 => ?_)
 ·refine Zs (Zr (ZFa 7 ?_))
  refine ZC ?_
  iterate 2 refine ZA ?_
  refine Zn (Zt (Ze (Zq (Zw (ret2 (cs' := []) (.inl rfl) Zu rfl rfl rfl ?_)))))
  refine ⟨?_, rfl⟩
  simp only [St.get, *, cond_true, cond_false]
 refine Zs (Zr (ZA ?_))
 refine ZA ?_
 refine Zn (Zt ?_)
 refine wc_cond _ rfl (fun hc8 => ?_) (fun hc8 => ?_)
 ·refine Zs (Zr (ZFa 8 ?_))
  refine ZC ?_
  iterate 2 refine ZA ?_
  refine Zn (Zt (Ze (Zq (Zw (ret2 (cs' := []) (.inl rfl) Zu rfl rfl rfl ?_)))))
  refine ⟨?_, rfl⟩
  simp only [St.get, *, cond_true, cond_false]
 refine Zs (Zr (ZA ?_))
 refine ZA ?_
 refine Zn (Zt ?_)
 refine wc_cond _ rfl (fun hc10 => ?_) (fun hc10 => ?_)
 ·refine Zs (Zr (ZFa 9 ?_))
  refine ZC ?_
  iterate 2 refine ZA ?_
  refine Zn (Zt (Ze (Zq (Zw (ret2 (cs' := []) (.inl rfl) Zu rfl rfl rfl ?_)))))
  refine ⟨?_, rfl⟩
  simp only [St.get, *, cond_true, cond_false]
 refine Zs (Zr (ZA ?_))
 refine ZA ?_
 refine Zn (Zt ?_)
 refine wc_cond _ rfl (fun hc12 => ?_) (fun hc12 => ?_)
 ·refine Zs (Zr (ZFa 10 ?_))
  refine ZC ?_
  iterate 2 refine ZA ?_
  refine Zn (Zt (Ze (Zq (Zw (ret2 (cs' := []) (.inl rfl) Zu rfl rfl rfl ?_)))))
  refine ⟨?_, rfl⟩
  simp only [St.get, *, cond_true, cond_false]
 refine Zs (Zr (ZA ?_))
 refine ZA ?_
 refine Zn (Zt ?_)
 refine wc_cond _ rfl (fun hc14 => ?_) (fun hc14 => ?_)
 ·refine Zs (Zr (ZFa 11 ?_))
  refine ZC ?_
  iterate 2 refine ZA ?_
  refine Zn (Zt (Ze (Zq (Zw (ret2 (cs' := []) (.inl rfl) Zu rfl rfl rfl ?_)))))
  refine ⟨?_, rfl⟩
  simp only [St.get, *, cond_true, cond_false]
 refine Zs (Zr (ZA ?_))
 refine ZA ?_
 refine Zn (Zt ?_)
 refine wc_cond _ rfl (fun hc16 => ?_) (fun hc16 => ?_)
 ·refine Zs (Zr (ZFa 12 ?_))
  refine ZC ?_
  refine ZS (fun w hi => number_ok _ w) ?_
  rintro _ _ ⟨_, ⟨rfl, rfl⟩, rfl⟩
  iterate 2 refine ZA ?_
  refine Zn (Zt (Ze (Zq (Zw (ret2 (cs' := []) (.inl rfl) Zu rfl rfl rfl ?_)))))
  refine ⟨?_, rfl⟩
  simp only [St.get, *, cond_true, cond_false]
 refine Zs (Zr (ZA ?_))
 refine ZA ?_
 refine Zn (Zt ?_)
 refine wc_cond _ rfl (fun hc18 => ?_) (fun hc18 => ?_)
 ·refine Zs (Zr (ZFa 13 ?_))
  refine ZC ?_
  refine ZS (fun w hi => number_ok _ w) ?_
  rintro _ _ ⟨_, ⟨rfl, rfl⟩, rfl⟩
  iterate 2 refine ZA ?_
  refine Zn (Zt (Ze (Zq (Zw (ret2 (cs' := []) (.inl rfl) Zu rfl rfl rfl ?_)))))
  refine ⟨?_, rfl⟩
  simp only [St.get, *, cond_true, cond_false]
 refine Zs (Zr (ZA ?_))
 refine ZA ?_
 refine Zn (Zt ?_)
 refine wc_cond _ rfl (fun hc20 => ?_) (fun hc20 => ?_)
 ·refine Zs (Zr (ZFa 14 ?_))
  refine ZC ?_
  refine Zy (y_conv rfl rfl (Zv rfl) rfl) ?_
  iterate 2 refine ZA ?_
  refine Zn (Zt (Ze (Zq (Zw (ret2 (cs' := []) (.inl rfl) Zu rfl rfl rfl ?_)))))
  refine ⟨?_, rfl⟩
  simp only [St.get, *, cond_true, cond_false]
 refine Zs (Zr (ZA ?_))
 refine ZA ?_
 refine Zn (Zt ?_)
 refine wc_cond _ rfl (fun hc22 => ?_) (fun hc22 => ?_)
 ·refine Zs (Zr (ZFa 3 ?_))
  refine ZC ?_
  iterate 2 refine ZA ?_
  refine Zn (Zt (Ze (Zq (Zw (ret2 (cs' := []) (.inl rfl) Zu rfl rfl rfl ?_)))))
  refine ⟨?_, rfl⟩
  simp only [St.get, *, cond_true, cond_false]
 refine Zc (Zo (Zt (Zs (Zr (ZA ?_)))))
 refine ZA ?_
 refine Zn (Zt (Ze (ret2 (cs' := []) (.inl rfl) Zu rfl rfl rfl ?_)))
 refine ⟨?_, rfl⟩
 simp only [St.get, *, cond_true, cond_false]
theorem set_ok (s : St) (Ad Ar : Option Addr) (cd cr : Nat) (reg v : Int) (w : World) (h : RdSt w s Ad Ar cd cr) : Ctr Tryz.prog 182 [sv s Ad cd Ar cr, .int .i64 reg, .int .u32 v] w []
  (fun x cs => ∃ Ad' cd' Ar' cr', x = .tuple #[sv (s.set reg v).1 Ad' cd' Ar' cr', .bool (s.set reg v).2] ∧ cs = [slD s Ad' cd', slR s Ar' cr']) := by
 refine fn_ctr Tryz.func182 rfl Tryz.ntmps182 rfl (Inv.start w) ?_
 refine Zs (Zr (ZO fun b3 => ?_))
 refine ZN fun b6 => ?_
 refine ZA ?_
 refine Zn (Zt (Zs (Zr (wl_loadRow Zh (fun _ => rfl) (fun _ => rfl) (Zv rfl) rfl ?_))))
 refine ZS (fun w hi => copy_ok s Ad Ar cd cr w (h.oldN hi)) ?_
 rintro _ _ ⟨_, ⟨A1, c1, A2, c2, rfl, rfl⟩, rfl⟩
 refine ZM ?_
 refine Zn (Zt (Zs (Zs (Zr (ZA ?_)))))
 refine Zn (Zt (Zx (Zs (Zr (ZA ?_)))))
 refine ZA ?_
 refine Zn (Zt ?_)
 refine wc_cond _ rfl (fun hc4 => ?_) (fun hc4 => ?_)
 ·refine Zr (ZA ?_)
  refine ZA ?_
  refine ZFa 6 ?_
  refine ZL ?_
  refine Zn (Zo (Zt (Zs (Zr (wl_loadRow Zh (fun _ => rfl) (fun _ => rfl) (Zv rfl) rfl ?_)))))
  refine ZM ?_
  refine ZA ?_
  refine Zn (Zt (Ze (retC1 (cs' := [slv _ _ _ _ _ _, slv _ _ _ _ _ _]) (.inl rfl) Zu rfl rfl rfl Zh (fun _ => rfl) (fun _ => rfl) ?_)))
  refine ⟨A1, c1, A2, c2, ?_, rfl⟩
  clear h
  simp only [St.set, *, cond_true, cond_false]
 refine Zs (Zr (ZA ?_))
 refine ZA ?_
 refine Zn (Zt ?_)
 refine wc_cond _ rfl (fun hc6 => ?_) (fun hc6 => ?_)
 ·refine Zr (ZA ?_)
  refine ZA ?_
  refine ZFa 5 ?_
  refine ZL ?_
  refine Zn (Zo (Zt (Zs (Zr (wl_loadRow Zh (fun _ => rfl) (fun _ => rfl) (Zv rfl) rfl ?_)))))
  refine ZM ?_
  refine ZA ?_
  refine Zn (Zt (Ze (retC1 (cs' := [slv _ _ _ _ _ _, slv _ _ _ _ _ _]) (.inl rfl) Zu rfl rfl rfl Zh (fun _ => rfl) (fun _ => rfl) ?_)))
  refine ⟨A1, c1, A2, c2, ?_, rfl⟩
  clear h
  simp only [St.set, *, cond_true, cond_false]
 refine Zs (Zr (ZA ?_))
 refine ZA ?_
 refine Zn (Zt ?_)
 refine wc_cond _ rfl (fun hc8 => ?_) (fun hc8 => ?_)
 ·refine Zr (ZA ?_)
  refine Zy (y_andNot (Zv rfl) (Zv rfl) rfl) ?_
  refine ZFa 7 ?_
  refine ZL ?_
  refine Zn (Zo (Zt (Zs (Zr (wl_loadRow Zh (fun _ => rfl) (fun _ => rfl) (Zv rfl) rfl ?_)))))
  refine ZM ?_
  refine ZA ?_
  refine Zn (Zt (Ze (retC1 (cs' := [slv _ _ _ _ _ _, slv _ _ _ _ _ _]) (.inl rfl) Zu rfl rfl rfl Zh (fun _ => rfl) (fun _ => rfl) ?_)))
  refine ⟨A1, c1, A2, c2, ?_, rfl⟩
  clear h
  simp only [St.set, *, cond_true, cond_false]
 refine Zs (Zr (ZA ?_))
 refine ZA ?_
 refine Zn (Zt ?_)
 refine wc_cond _ rfl (fun hc10 => ?_) (fun hc10 => ?_)
 ·refine Zr (ZA ?_)
  refine ZFa 8 ?_
  refine ZL ?_
  refine Zn (Zo (Zt (Zs (Zr (wl_loadRow Zh (fun _ => rfl) (fun _ => rfl) (Zv rfl) rfl ?_)))))
  refine ZM ?_
  refine ZA ?_
  refine Zn (Zt (Ze (retC1 (cs' := [slv _ _ _ _ _ _, slv _ _ _ _ _ _]) (.inl rfl) Zu rfl rfl rfl Zh (fun _ => rfl) (fun _ => rfl) ?_)))
  refine ⟨A1, c1, A2, c2, ?_, rfl⟩
  clear h
  simp only [St.set, *, cond_true, cond_false]
 refine Zs (Zr (ZA ?_))
 refine ZA ?_
 refine Zn (Zt ?_)
 refine wc_cond _ rfl (fun hc12 => ?_) (fun hc12 => ?_)
 ·refine Zr (ZA ?_)
  refine ZFa 9 ?_
  refine ZL ?_
  refine Zn (Zo (Zt (Zs (Zr (wl_loadRow Zh (fun _ => rfl) (fun _ => rfl) (Zv rfl) rfl ?_)))))
  refine ZM ?_
  refine ZA ?_
  refine Zn (Zt (Ze (retC1 (cs' := [slv _ _ _ _ _ _, slv _ _ _ _ _ _]) (.inl rfl) Zu rfl rfl rfl Zh (fun _ => rfl) (fun _ => rfl) ?_)))
  refine ⟨A1, c1, A2, c2, ?_, rfl⟩
  clear h
  simp only [St.set, *, cond_true, cond_false]
 refine Zs (Zr (ZA ?_))
 refine ZA ?_
 refine Zn (Zt ?_)
 refine wc_cond _ rfl (fun hc14 => ?_) (fun hc14 => ?_)
 ·refine Zr (ZA ?_)
  refine ZFa 10 ?_
  refine ZL ?_
  refine Zn (Zo (Zt (Zs (Zr (wl_loadRow Zh (fun _ => rfl) (fun _ => rfl) (Zv rfl) rfl ?_)))))
  refine ZM ?_
  refine ZA ?_
  refine Zn (Zt (Ze (retC1 (cs' := [slv _ _ _ _ _ _, slv _ _ _ _ _ _]) (.inl rfl) Zu rfl rfl rfl Zh (fun _ => rfl) (fun _ => rfl) ?_)))
  refine ⟨A1, c1, A2, c2, ?_, rfl⟩
  clear h
  simp only [St.set, *, cond_true, cond_false]
 refine Zs (Zr (ZA ?_))
 refine ZA ?_
 refine Zn (Zt ?_)
 refine wc_cond _ rfl (fun hc16 => ?_) (fun hc16 => ?_)
 ·refine Zr (ZA ?_)
  refine ZFa 11 ?_
  refine ZL ?_
  refine Zn (Zo (Zt (Zs (Zr (wl_loadRow Zh (fun _ => rfl) (fun _ => rfl) (Zv rfl) rfl ?_)))))
  refine ZM ?_
  refine ZA ?_
  refine Zn (Zt (Ze (retC1 (cs' := [slv _ _ _ _ _ _, slv _ _ _ _ _ _]) (.inl rfl) Zu rfl rfl rfl Zh (fun _ => rfl) (fun _ => rfl) ?_)))
  refine ⟨A1, c1, A2, c2, ?_, rfl⟩
  clear h
  simp only [St.set, *, cond_true, cond_false]
 refine Zs (Zr (ZA ?_))
 refine ZA ?_
 refine Zn (Zt ?_)
 refine wc_cond _ rfl (fun hc18 => ?_) (fun hc18 => ?_)
 ·refine Zr (ZA ?_)
  refine ZA ?_
  refine ZFa 12 ?_
  refine ZL ?_
  refine Zn (Zo (Zt (Zs (Zr (wl_loadRow Zh (fun _ => rfl) (fun _ => rfl) (Zv rfl) rfl ?_)))))
  refine ZM ?_
  refine ZA ?_
  refine Zn (Zt (Ze (retC1 (cs' := [slv _ _ _ _ _ _, slv _ _ _ _ _ _]) (.inl rfl) Zu rfl rfl rfl Zh (fun _ => rfl) (fun _ => rfl) ?_)))
  refine ⟨A1, c1, A2, c2, ?_, rfl⟩
  clear h
  simp only [St.set, *, cond_true, cond_false]
 refine Zs (Zr (ZA ?_))
 refine ZA ?_
 refine Zn (Zt ?_)
 refine wc_cond _ rfl (fun hc20 => ?_) (fun hc20 => ?_)
 ·refine Zr (ZA ?_)
  refine ZA ?_
  refine ZFa 13 ?_
  refine ZL ?_
  refine Zn (Zo (Zt (Zs (Zr (wl_loadRow Zh (fun _ => rfl) (fun _ => rfl) (Zv rfl) rfl ?_)))))
  refine ZM ?_
  refine ZA ?_
  refine Zn (Zt (Ze (retC1 (cs' := [slv _ _ _ _ _ _, slv _ _ _ _ _ _]) (.inl rfl) Zu rfl rfl rfl Zh (fun _ => rfl) (fun _ => rfl) ?_)))
  refine ⟨A1, c1, A2, c2, ?_, rfl⟩
  clear h
  simp only [St.set, *, cond_true, cond_false]
 refine Zs (Zr (ZA ?_))
 refine ZA ?_
 refine Zn (Zt ?_)
 refine wc_cond _ rfl (fun hc22 => ?_) (fun hc22 => ?_)
 ·refine Zr (ZA ?_)
  refine ZA ?_
  refine ZFa 3 ?_
  refine ZL ?_
  refine Zn (Zo (Zt (Zs (Zr (wl_loadRow Zh (fun _ => rfl) (fun _ => rfl) (Zv rfl) rfl ?_)))))
  refine ZM ?_
  refine ZA ?_
  refine Zn (Zt (Ze (retC1 (cs' := [slv _ _ _ _ _ _, slv _ _ _ _ _ _]) (.inl rfl) Zu rfl rfl rfl Zh (fun _ => rfl) (fun _ => rfl) ?_)))
  refine ⟨A1, c1, A2, c2, ?_, rfl⟩
  clear h
  simp only [St.set, *, cond_true, cond_false]
 refine Zs (Zr (wl_loadRow Zh (fun _ => rfl) (fun _ => rfl) (Zv rfl) rfl ?_))
 refine ZM ?_
 refine ZA ?_
 refine Zn (Zt (Ze (Zq (Zw (retC1 (cs' := [slv _ _ _ _ _ _, slv _ _ _ _ _ _]) (.inl rfl) Zu rfl rfl rfl Zh (fun _ => rfl) (fun _ => rfl) ?_)))))
 refine ⟨A1, c1, A2, c2, ?_, rfl⟩
 clear h
 simp only [St.set, *, cond_true, cond_false]
theorem right_ok (s : St) (Ad Ar : Option Addr) (cd cr : Nat) (w : World) : Ctr Tryz.prog 84 [sv s Ad cd Ar cr] w [] (fun v cs => v = .bool s.right ∧ cs = []) := by
 refine fn_ctr Tryz.func84 rfl Tryz.ntmps84 rfl (Inv.start w) ?_
 refine Zs (Zr (ZO fun b1 => ?_))
 refine ZA ?_
 refine Zn (Zt (Zs (Zr (ZFa 1 ?_))))
 refine ZC ?_
 iterate 3 refine ZA ?_
 refine ZFb 2 ?_
 refine ZD ?_
 iterate 2 refine ZB ?_
 iterate 2 refine ZA ?_
 refine ZFb 3 ?_
 refine ZD ?_
 refine ZB ?_
 iterate 2 refine ZA ?_
 refine Zn (Zt (Ze (ret1 (cs' := []) (.inl rfl) Zu rfl rfl ?_)))
 exact ⟨rfl, rfl⟩
end Go.Proofs.YtmhpcgmjlpfheaaGreatDoor
/- The reference's Copy, same, Same; Trim. -/
set_option linter.unusedSimpArgs false
set_option linter.unusedVariables false
set_option maxRecDepth 100000
namespace Go.Proofs.YtmhpcgmjlpfheaaGreatDoor
open Go.RowKit Go.Ink
attribute [local irreducible] OpY GuardIs

theorem refcopy_ok (s : St) (Ad Ar : Option Addr) (cd cr : Nat) (w : World) (h : RdSt w s Ad Ar cd cr) : Ctr Tryz.prog 17 [sv s Ad cd Ar cr] w [] (OwnSt s) := by
 have hd := h.hd
 have hr := h.hr
 refine fn_ctr Tryz.func17 rfl Tryz.ntmps17 rfl (Inv.start w) ?_
 refine Zs (Zr (ZO fun b1 => ?_))
 refine ZN fun b2 => ?_
 refine Zn (Zt (Zs (Zr (wl_t (t_buildSl1 rfl rfl (fun _ => rfl) (fun _ => rfl) rfl rfl) rfl ?_))))
 rintro _ _ ⟨b3, rfl, rfl⟩
 refine ZFa 1 ?_
 refine ZC ?_
 refine wl_t (t_append (e := 24) (sz := 1) (bytes := 4) rfl rfl Za rfl rfl (fun w hi => h.d.oldN hi) ints_one (by simp only [maxLen]; omega) (by omega)) rfl ?_
 rintro _ _ ⟨A1, c1, rfl, rfl⟩
 simp only [Nat.zero_add, List.nil_append]
 refine ZFa 1 ?_
 refine ZL ?_
 refine Zn (Zt (Zs (Zr (wl_t (t_buildSl1 rfl rfl (fun _ => rfl) (fun _ => rfl) rfl rfl) rfl ?_))))
 rintro _ _ ⟨b8, rfl, rfl⟩
 refine ZFa 2 ?_
 refine ZC ?_
 refine wl_t (t_append (e := 24) (sz := 1) (bytes := 4) rfl rfl Za rfl rfl (fun w hi => h.r.oldN hi) ints_one (by simp only [maxLen]; omega) (by omega)) rfl ?_
 rintro _ _ ⟨A2, c2, rfl, rfl⟩
 simp only [Nat.zero_add, List.nil_append]
 refine ZFa 2 ?_
 refine ZL ?_
 refine Zn (Zt (Zs (Zr (wl_loadRow Zh (fun _ => rfl) (fun _ => rfl) (Zv rfl) rfl ?_))))
 refine ZM ?_
 refine Zn (Zt (Ze (retC (cs' := [slv _ _ _ _ _ _, slv _ _ _ _ _ _]) (.inl rfl) Zu rfl rfl Zh (fun _ => rfl) (fun _ => rfl) ?_)))
 exact ⟨A1, c1, A2, c2, rfl, rfl⟩

theorem rsame_ok (A A2 : Option Addr) (c c2 : Nat) (xs ys : List Int) (w : World) (h : Rd w .u32 A xs.length c xs) (h2 : Rd w .u32 A2 ys.length c2 ys) :
  Ctr Tryz.prog 46 [.slice A xs.length c, .slice A2 ys.length c2] w [] (fun v cs => v = .bool (xs == ys) ∧ cs = []) := by
 have hm := h.max
 have hc := h.cap
 unfold maxLen at hm
 refine fn_ctr Tryz.func46 rfl Tryz.ntmps46 rfl (Inv.start w) ?_
 refine Zs (Zr (ZA ?_))
 refine Zn (Zt (Zs (Zs (Zr (ZA ?_)))))
 iterate 4 refine ZA ?_
 refine Zn (Zt ?_)
 refine wc_cond _ rfl (fun hc1 => ?_) (fun hc1 => ?_)
 ·have hne : (xs == ys) = false := by rw [beq_eq_false_iff_ne]; rintro rfl; simp at hc1
  refine Zs (Zr (ZA ?_))
  refine Zn (Zt (Ze (Zw (ret1 (cs' := []) (.inl rfl) Zu rfl rfl ?_))))
  exact ⟨by rw [hne], rfl⟩
 have hlen : xs.length = ys.length := by (have : (xs.length : Int) = ys.length := by simpa using hc1); omega
 refine Zc (Zt (Zs (Zs (Zr (ZA ?_)))))
 refine Zn (Zt (Zx ?_))
 refine wc_loop (fun k : Nat => [(5, .int .i64 (k : Int)), (0, .slice A xs.length c), (1, .slice A2 ys.length c2)]) (fun _ => []) (fun k => k ≤ xs.length ∧ xs.take k = ys.take k) (fun k => xs.length - k) (0) ?_ ?_ ?_ ?_
 ·exact ⟨Nat.zero_le _, rfl⟩
 ·exact Zwk
 ·((repeat (first | exact List.Sublist.slnil | refine List.Sublist.cons_cons _ ?_ | refine List.Sublist.cons _ ?_)))
 rintro k ⟨hk, he⟩
 refine Zs (Zs (Zr (ZA ?_)))
 iterate 3 refine ZA ?_
 refine Zn (Zt ?_)
 refine wc_cond _ rfl (fun hc4 => ?_) (fun hc4 => ?_)
 ·simp only [decide_eq_true_eq] at hc4
  obtain ⟨ad, rfl⟩ := h.some_ (by omega)
  obtain ⟨ad2, rfl⟩ := h2.some_ (by omega)
  refine Zc (Zt (Zs (Zx (Zs (wc_draw ⟨fun j => List.elem j [], []⟩ Zk ?_)))))
  refine ZE 0 ?_
  refine ZE 1 ?_
  refine wa_yn 2 rfl Zk Zk Zk (y_index  rfl (fun _ => rfl) (Zv rfl) (Zv rfl)  (fun _ => rfl) (fun _ => by omega)) rfl ?_
  refine wa_ln 3 rfl Zk Zk Zk Zk (y_load (fun _ => rfl) (Zv rfl)) (rd_cell h (ints_get (show k < xs.length by omega))) rfl ?_
  refine ZE 4 ?_
  refine ZE 5 ?_
  refine wa_yn 6 rfl Zk Zk Zk (y_index  rfl (fun _ => rfl) (Zv rfl) (Zv rfl)  (fun _ => rfl) (fun _ => by omega)) rfl ?_
  refine wa_ln 7 rfl Zk Zk Zk Zk (y_load (fun _ => rfl) (Zv rfl)) (rd_cell h2 (ints_get (show k < ys.length by omega))) rfl ?_
  refine ZE 8 ?_
  refine wa_done Zk ?_
  refine Zt ?_
  refine wc_cond _ rfl (fun hc6 => ?_) (fun hc6 => ?_)
  ·have hne : (xs == ys) = false := by rw [beq_eq_false_iff_ne]; rintro rfl; simp at hc6
   refine Zs (Zr (ZA ?_))
   refine Zn (Zt (Ze (Zq (Zw (Zw (Zq (Zw (ret1 (cs' := []) (.inl rfl) Zu rfl rfl ?_))))))))
   exact ⟨by rw [hne], rfl⟩
  have heq : xs[k]'(by omega) = ys[k]'(by omega) := by simpa using hc6
  refine Zc (Zo (Zt (Zr (ZA ?_))))
  refine Zy (y_add (Zv rfl) (Zv rfl) Zl) ?_
  refine ZA ?_
  refine Zn ?_
  refine q_mid (k + 1) ?_ ?_ ?_
  ·refine ⟨⟨by omega, ?_⟩, by omega⟩; rw [List.take_succ_eq_append_getElem (by omega), List.take_succ_eq_append_getElem (by omega), he, heq]
  ·exact Zwk
  ((repeat (first | exact List.Sublist.slnil | refine List.Sublist.cons_cons _ ?_ | refine List.Sublist.cons _ ?_)))
 simp only [decide_eq_false_iff_not] at hc4
 refine wc_exit ?_
 refine q_then_exit ?_
 refine q_then_exit ?_
 refine q_block_same rfl ?_
 refine Zt (Zs (Zr (ZA ?_)))
 refine Zn (Zt (Ze (ret1 (cs' := []) (.inl rfl) Zu rfl rfl ?_)))
 refine ⟨?_, rfl⟩
 have hkk : k = xs.length := by omega
 subst hkk
 rw [List.take_length] at he
 rw [he, hlen, List.take_length]
 simp
end Go.Proofs.YtmhpcgmjlpfheaaGreatDoor
/- The reference's Same; Trim; known. -/
set_option linter.unusedSimpArgs false
set_option linter.unusedVariables false
set_option maxRecDepth 100000
namespace Go.Ink
/-- The reference's test, in its order. -/
def St.rsame (a b : St) : Bool :=
 (((((((((((((((a.pc == b.pc) && (a.d == b.d)) && (a.r == b.r)) && (a.flags == b.flags)) && (a.super == b.super)) && (a.paging == b.paging)) && (a.ie == b.ie)) && (a.root == b.root)) && (a.vec == b.vec)) && (a.epc == b.epc)) && (a.cause == b.cause)) && (a.addr == b.addr)) && (a.esuper == b.esuper)) && (a.eie == b.eie)) && (a.count == b.count)) && (a.halted == b.halted)
theorem St.rsame_iff (a b : St) : a.rsame b = true ↔ a = b := by
 unfold St.rsame
 constructor
 ·intro h
  simp only [Bool.and_eq_true, beq_iff_eq] at h
  obtain ⟨⟨⟨⟨⟨⟨⟨⟨⟨⟨⟨⟨⟨⟨⟨h1, h2⟩, h3⟩, h4⟩, h5⟩, h6⟩, h7⟩, h8⟩, h9⟩, h10⟩, h11⟩, h12⟩, h13⟩, h14⟩, h15⟩, h16⟩ := h
  cases a; cases b; simp_all
 rintro rfl
 simp
theorem St.rsame_self (a : St) : a.rsame a = true := (St.rsame_iff a a).2 rfl
def St.trim (s : St) : St := { s with d := s.d.take 16, r := s.r.take 16, flags := s.flags % 16, count := s.count % 1099511627776 }
end Go.Ink
namespace Go.Proofs.YtmhpcgmjlpfheaaGreatDoor
open Go.RowKit Go.Ink
attribute [local irreducible] OpY GuardIs

set_option maxRecDepth 100000 in
theorem rSame_ok (s t : St) (Ad Ar Bd Br : Option Addr) (cd cr ed er : Nat) (w : World) (h : RdSt w s Ad Ar cd cr) (h2 : RdSt w t Bd Br ed er) :
  Ctr Tryz.prog 27 [sv s Ad cd Ar cr, sv t Bd ed Br er] w [] (fun v cs => v = .bool (s.rsame t) ∧ cs = []) := by
 refine fn_ctr Tryz.func27 rfl Tryz.ntmps27 rfl (Inv.start w) ?_
 refine Zs (Zr (ZO fun b2 => ?_))
 refine ZO fun b3 => ?_
 refine ZA ?_
 refine Zn (Zt (Zs (Zr (ZFa 0 ?_))))
 refine ZC ?_
 refine ZFa 0 ?_
 refine ZC ?_
 iterate 2 refine ZA ?_
 refine ZFb 1 ?_
 refine ZD ?_
 refine ZFb 1 ?_
 refine ZD ?_
 refine wl_callg (guard_yes rfl rfl) (.cons (ev_g rfl) (.cons (ev_g rfl) .nil)) (fun _ _ => rfl) (fun hg w hi => rsame_ok Ad Bd cd ed s.d t.d w (h.d.oldN hi) (h2.d.oldN hi)) rfl ?_
 iterate 2 refine ZA ?_
 refine ZFb 2 ?_
 refine ZD ?_
 refine ZFb 2 ?_
 refine ZD ?_
 refine wl_callg (guard_yes rfl rfl) (.cons (ev_g rfl) (.cons (ev_g rfl) .nil)) (fun _ _ => rfl) (fun hg w hi => rsame_ok Ar Br cr er s.r t.r w (h.r.oldN hi) (h2.r.oldN hi)) rfl ?_
 iterate 2 refine ZA ?_
 refine ZFb 3 ?_
 refine ZD ?_
 refine ZFb 3 ?_
 refine ZD ?_
 refine ZB ?_
 iterate 2 refine ZA ?_
 refine ZFb 4 ?_
 refine ZD ?_
 refine ZFb 4 ?_
 refine ZD ?_
 refine ZB ?_
 iterate 2 refine ZA ?_
 refine ZFb 5 ?_
 refine ZD ?_
 refine ZFb 5 ?_
 refine ZD ?_
 refine ZB ?_
 iterate 2 refine ZA ?_
 refine ZFb 6 ?_
 refine ZD ?_
 refine ZFb 6 ?_
 refine ZD ?_
 refine ZB ?_
 iterate 2 refine ZA ?_
 refine ZFb 7 ?_
 refine ZD ?_
 refine ZFb 7 ?_
 refine ZD ?_
 refine ZB ?_
 iterate 2 refine ZA ?_
 refine ZFb 8 ?_
 refine ZD ?_
 refine ZFb 8 ?_
 refine ZD ?_
 refine ZB ?_
 iterate 2 refine ZA ?_
 refine ZFb 9 ?_
 refine ZD ?_
 refine ZFb 9 ?_
 refine ZD ?_
 refine ZB ?_
 iterate 2 refine ZA ?_
 refine ZFb 10 ?_
 refine ZD ?_
 refine ZFb 10 ?_
 refine ZD ?_
 refine ZB ?_
 iterate 2 refine ZA ?_
 refine ZFb 11 ?_
 refine ZD ?_
 refine ZFb 11 ?_
 refine ZD ?_
 refine ZB ?_
 iterate 2 refine ZA ?_
 refine ZFb 12 ?_
 refine ZD ?_
 refine ZFb 12 ?_
 refine ZD ?_
 refine ZB ?_
 iterate 2 refine ZA ?_
 refine ZFb 13 ?_
 refine ZD ?_
 refine ZFb 13 ?_
 refine ZD ?_
 refine ZB ?_
 iterate 2 refine ZA ?_
 refine ZFb 14 ?_
 refine ZD ?_
 refine ZFb 14 ?_
 refine ZD ?_
 refine ZB ?_
 iterate 2 refine ZA ?_
 refine ZFb 15 ?_
 refine ZD ?_
 refine ZFb 15 ?_
 refine ZD ?_
 refine ZB ?_
 iterate 2 refine ZA ?_
 refine Zn (Zt (Ze (ret1 (cs' := []) (.inl rfl) Zu rfl rfl ?_)))
 exact ⟨rfl, rfl⟩

theorem trim_ok (s : St) (hs : s.wf) (Ad Ar : Option Addr) (cd cr : Nat) (w : World) (h : RdSt w s Ad Ar cd cr) : Ctr Tryz.prog 9 [sv s Ad cd Ar cr] w [] (OwnSt s.trim) := by
 obtain ⟨f1, f2⟩ := hs.flags
 obtain ⟨c1, c2⟩ := hs.count
 have hcd := h.d.cap
 have hcr := h.r.cap
 refine fn_ctr Tryz.func9 rfl Tryz.ntmps9 rfl (Inv.start w) ?_
 refine Zs (Zr (ZO fun b1 => ?_))
 refine ZN fun b2 => ?_
 refine Zn (Zt (Zs (Zr (wl_loadRow Zh (fun _ => rfl) (fun _ => rfl) (Zv rfl) rfl ?_))))
 refine ZS (fun w hi => refcopy_ok s Ad Ar cd cr w (h.oldN hi)) ?_
 rintro _ _ ⟨_, ⟨A1, c1', A2, c2', rfl, rfl⟩, rfl⟩
 refine wl_fact (fun w hi => (hi.rd (show Has _ (slD s A1 c1') from Zh)).cap) (fun hcap1 => ?_)
 refine wl_fact (fun w hi => (hi.rd (show Has _ (slR s A2 c2') from Zh)).cap) (fun hcap2 => ?_)
 refine ZM ?_
 refine Zn (Zt (Zs (Zs (Zr (ZFa 1 ?_)))))
 refine ZC ?_
 iterate 2 refine ZA ?_
 refine Zn (Zt ?_)
 refine wc_cond _ rfl (fun hc2 => ?_) (fun hc2 => ?_)
 ·simp only [decide_eq_true_eq] at hc2
  refine Zr (ZFa 1 ?_)
  refine ZC ?_
  refine Zy (y_slice0 16 rfl (fun _ => rfl) (Zv rfl) (Zv rfl) (fun _ => by first | rfl | omega) (fun _ => by omega)) ?_
  refine ZFa 1 ?_
  refine ZL ?_
  refine Zn (Zt (Zs (Zs (Zr (wl_conv (c := slD s A1 c1') (c' := slD s.trim A1 c1') Za rfl (fun w h => sl_cut h) ?_)))))
  refine ZFa 2 ?_
  refine ZC ?_
  iterate 2 refine ZA ?_
  refine Zn (Zt ?_)
  refine wc_cond _ rfl (fun hc4 => ?_) (fun hc4 => ?_)
  ·simp only [decide_eq_true_eq] at hc4
   refine Zr (ZFa 2 ?_)
   refine ZC ?_
   refine Zy (y_slice0 16 rfl (fun _ => rfl) (Zv rfl) (Zv rfl) (fun _ => by first | rfl | omega) (fun _ => by omega)) ?_
   refine ZFa 2 ?_
   refine ZL ?_
   refine Zn (Zt (Zs (Zr (wl_conv (c := slR s A2 c2') (c' := slR s.trim A2 c2') Za rfl (fun w h => sl_cut h) ?_))))
   refine ZFa 3 ?_
   refine ZC ?_
   refine Zy (y_rem (Zv rfl) (Zv rfl) (by omega) (by first | exact IntWalk.rem_in _ _ (by omega) | exact rfl)) ?_
   refine ZFa 3 ?_
   refine ZL ?_
   refine Zn (Zt (Zs (Zr (ZFa 14 ?_))))
   refine ZC ?_
   refine Zy (y_rem (Zv rfl) (Zv rfl) (by omega) (by first | exact IntWalk.rem_in _ _ (by omega) | exact rfl)) ?_
   refine ZFa 14 ?_
   refine ZL ?_
   refine Zn (Zt (Zs (Zr (wl_loadRow Zh (fun _ => rfl) (fun _ => rfl) (Zv rfl) rfl ?_))))
   refine ZM ?_
   refine Zn (Zt (Ze (retC (cs' := [slD s.trim A1 c1', slR s.trim A2 c2']) (.inl rfl) Zu rfl rfl Zh (fun _ => rfl) (fun _ => rfl) ?_)))
   have e1 : s.trim.d.length = 16 := by simp [St.trim]; omega
   have e2 : s.trim.r.length = 16 := by simp [St.trim]; omega
   refine ⟨A1, c1', A2, c2', ?_, rfl⟩
   unfold sv
   rw [e1, e2]
   rfl
  simp only [decide_eq_false_iff_not] at hc4
  refine Zc (Zt (Zs (Zr (wl_conv (c := slR s A2 c2') (c' := slR s.trim A2 c2') Za rfl (fun w h => sl_cut h) ?_))))
  refine ZFa 3 ?_
  refine ZC ?_
  refine Zy (y_rem (Zv rfl) (Zv rfl) (by omega) (by first | exact IntWalk.rem_in _ _ (by omega) | exact rfl)) ?_
  refine ZFa 3 ?_
  refine ZL ?_
  refine Zn (Zt (Zs (Zr (ZFa 14 ?_))))
  refine ZC ?_
  refine Zy (y_rem (Zv rfl) (Zv rfl) (by omega) (by first | exact IntWalk.rem_in _ _ (by omega) | exact rfl)) ?_
  refine ZFa 14 ?_
  refine ZL ?_
  refine Zn (Zt (Zs (Zr (wl_loadRow Zh (fun _ => rfl) (fun _ => rfl) (Zv rfl) rfl ?_))))
  refine ZM ?_
  refine Zn (Zt (Ze (retC (cs' := [slD s.trim A1 c1', slR s.trim A2 c2']) (.inl rfl) Zu rfl rfl Zh (fun _ => rfl) (fun _ => rfl) ?_)))
  have e1 : s.trim.d.length = 16 := by simp [St.trim]; omega
  have e2 : s.trim.r.length = s.r.length := by simp [St.trim]; omega
  refine ⟨A1, c1', A2, c2', ?_, rfl⟩
  unfold sv
  rw [e1, e2]
  rfl
 simp only [decide_eq_false_iff_not] at hc2
 refine Zc (Zt (Zs (Zs (Zr (wl_conv (c := slD s A1 c1') (c' := slD s.trim A1 c1') Za rfl (fun w h => sl_cut h) ?_)))))
 refine ZFa 2 ?_
 refine ZC ?_
 iterate 2 refine ZA ?_
 refine Zn (Zt ?_)
 refine wc_cond _ rfl (fun hc4 => ?_) (fun hc4 => ?_)
 ·simp only [decide_eq_true_eq] at hc4
  refine Zr (ZFa 2 ?_)
  refine ZC ?_
  refine Zy (y_slice0 16 rfl (fun _ => rfl) (Zv rfl) (Zv rfl) (fun _ => by first | rfl | omega) (fun _ => by omega)) ?_
  refine ZFa 2 ?_
  refine ZL ?_
  refine Zn (Zt (Zs (Zr (wl_conv (c := slR s A2 c2') (c' := slR s.trim A2 c2') Za rfl (fun w h => sl_cut h) ?_))))
  refine ZFa 3 ?_
  refine ZC ?_
  refine Zy (y_rem (Zv rfl) (Zv rfl) (by omega) (by first | exact IntWalk.rem_in _ _ (by omega) | exact rfl)) ?_
  refine ZFa 3 ?_
  refine ZL ?_
  refine Zn (Zt (Zs (Zr (ZFa 14 ?_))))
  refine ZC ?_
  refine Zy (y_rem (Zv rfl) (Zv rfl) (by omega) (by first | exact IntWalk.rem_in _ _ (by omega) | exact rfl)) ?_
  refine ZFa 14 ?_
  refine ZL ?_
  refine Zn (Zt (Zs (Zr (wl_loadRow Zh (fun _ => rfl) (fun _ => rfl) (Zv rfl) rfl ?_))))
  refine ZM ?_
  refine Zn (Zt (Ze (retC (cs' := [slD s.trim A1 c1', slR s.trim A2 c2']) (.inl rfl) Zu rfl rfl Zh (fun _ => rfl) (fun _ => rfl) ?_)))
  have e1 : s.trim.d.length = s.d.length := by simp [St.trim]; omega
  have e2 : s.trim.r.length = 16 := by simp [St.trim]; omega
  refine ⟨A1, c1', A2, c2', ?_, rfl⟩
  unfold sv
  rw [e1, e2]
  rfl
 simp only [decide_eq_false_iff_not] at hc4
 refine Zc (Zt (Zs (Zr (wl_conv (c := slR s A2 c2') (c' := slR s.trim A2 c2') Za rfl (fun w h => sl_cut h) ?_))))
 refine ZFa 3 ?_
 refine ZC ?_
 refine Zy (y_rem (Zv rfl) (Zv rfl) (by omega) (by first | exact IntWalk.rem_in _ _ (by omega) | exact rfl)) ?_
 refine ZFa 3 ?_
 refine ZL ?_
 refine Zn (Zt (Zs (Zr (ZFa 14 ?_))))
 refine ZC ?_
 refine Zy (y_rem (Zv rfl) (Zv rfl) (by omega) (by first | exact IntWalk.rem_in _ _ (by omega) | exact rfl)) ?_
 refine ZFa 14 ?_
 refine ZL ?_
 refine Zn (Zt (Zs (Zr (wl_loadRow Zh (fun _ => rfl) (fun _ => rfl) (Zv rfl) rfl ?_))))
 refine ZM ?_
 refine Zn (Zt (Ze (retC (cs' := [slD s.trim A1 c1', slR s.trim A2 c2']) (.inl rfl) Zu rfl rfl Zh (fun _ => rfl) (fun _ => rfl) ?_)))
 have e1 : s.trim.d.length = s.d.length := by simp [St.trim]; omega
 have e2 : s.trim.r.length = s.r.length := by simp [St.trim]; omega
 refine ⟨A1, c1', A2, c2', ?_, rfl⟩
 unfold sv
 rw [e1, e2]
 rfl

theorem RdSt.nil_ (w : World) {s : St} (hd : s.d = []) (hr : s.r = []) : RdSt w s none none 0 0 := by
 obtain ⟨pc, d, r, f3, f4, f5, f6, f7, f8, f9, f10, f11, f12, f13, f14, f15⟩ := s
 simp only at hd hr
 subst hd hr
 exact ⟨⟨rfl, by simp, by simp, by simp, by simp⟩, ⟨rfl, by simp, by simp, by simp, by simp⟩, by simp, by simp⟩
end Go.Proofs.YtmhpcgmjlpfheaaGreatDoor
/- What the registers come to: plain facts. No program in sight. -/
set_option linter.unusedSimpArgs false
set_option linter.unusedVariables false
set_option maxRecDepth 100000
namespace Go.Ink
open Go.RowKit
theorem within_rng (n lo hi : Int) (h : lo ≤ hi) : lo ≤ within n lo hi ∧ within n lo hi ≤ hi := by
 unfold within
 have h1 := Int.emod_nonneg n (show hi - lo + 1 ≠ 0 by omega)
 have h2 := Int.emod_lt_of_pos n (show 0 < hi - lo + 1 by omega)
 omega
theorem and15 (v : Int) (h : u32 v) : bits .and .u32 v 15 = v % 16 := by
 obtain ⟨h0, h1⟩ := h
 obtain ⟨n, rfl⟩ := Int.eq_ofNat_of_zero_le h0
 have e1 : (BitVec.ofInt 32 (n : Int)).toNat = n := by rw [BitVec.ofInt_natCast, BitVec.toNat_ofNat]; exact Nat.mod_eq_of_lt (by omega)
 have e2 : n &&& 15 = n % 16 := Nat.and_two_pow_sub_one_eq_mod n 4
 show IntKind.u32.wrap (((BitVec.ofInt 32 (n : Int)) &&& (BitVec.ofInt 32 15)).toNat : Int) = _
 rw [BitVec.toNat_and, e1, show (BitVec.ofInt 32 15).toNat = 15 from rfl, e2]
 rw [IntKind.wrap_u32]
 omega
theorem and63 (n : Nat) (h : n < 4294967296) : n &&& 4294967232 = n - n % 64 := by
 have h1 : n &&& 4294967232 = (n / 64) * 64 := by
  apply Nat.eq_of_testBit_eq
  intro i
  have e : (4294967232 : Nat) = (2 ^ 26 - 1) * 2 ^ 6 := by decide
  rw [e, Nat.testBit_and, show (n / 64) * 64 = (n / 2 ^ 6) * 2 ^ 6 from rfl]
  rw [Nat.testBit_mul_two_pow, Nat.testBit_mul_two_pow, Nat.testBit_two_pow_sub_one, Nat.testBit_div_two_pow]
  by_cases hi : 6 ≤ i
  ·simp only [hi, decide_true, Bool.true_and, show i - 6 + 6 = i by omega]
   by_cases h26 : i - 6 < 26
   ·simp [h26]
   have : n.testBit i = false := Nat.testBit_lt_two_pow (Nat.lt_of_lt_of_le h (by
    have : 2 ^ 32 ≤ 2 ^ i := Nat.pow_le_pow_right (by omega) (by omega)
    have e : (2 : Nat) ^ 32 = 4294967296 := by decide
    omega))
   simp [this]
  simp [hi]
 rw [h1]
 omega
theorem andNot63 (v : Int) (h : u32 v) : bits .andNot .u32 v 63 = IntKind.u32.wrap (v - v % 64) := by
 obtain ⟨h0, h1⟩ := h
 obtain ⟨n, rfl⟩ := Int.eq_ofNat_of_zero_le h0
 have e1 : (BitVec.ofInt 32 (n : Int)).toNat = n := by rw [BitVec.ofInt_natCast, BitVec.toNat_ofNat]; exact Nat.mod_eq_of_lt (by omega)
 show IntKind.u32.wrap (((BitVec.ofInt 32 (n : Int)) &&& ~~~ (BitVec.ofInt 32 63)).toNat : Int) = _
 rw [BitVec.toNat_and, e1, show (~~~ (BitVec.ofInt 32 63)).toNat = 4294967232 from by decide, and63 n (by omega)]
 congr 1
 omega
def w01 (v : Int) : Int := bif v != 0 then 1 else 0
/-- What a register holds behind a set. -/
def wantR (x v : Int) : Int :=
 bif x == 0 then w01 v else bif x == 1 then w01 v else bif x == 7 then w01 v else bif x == 8 then w01 v else bif x == 2 then IntKind.u32.wrap (v - v % 64) else bif x == 10 then v % 16 else v
theorem St.reg_cases {x : Int} (h : 0 ≤ x ∧ x ≤ 10) : x = 0 ∨ x = 1 ∨ x = 2 ∨ x = 3 ∨ x = 4 ∨ x = 5 ∨ x = 6 ∨ x = 7 ∨ x = 8 ∨ x = 9 ∨ x = 10 := by omega
theorem St.set_there (s : St) {x : Int} (v : Int) (h : 0 ≤ x ∧ x ≤ 10) : (s.set x v).2 = (x != 9) := by
 rcases St.reg_cases h with rfl | rfl | rfl | rfl | rfl | rfl | rfl | rfl | rfl | rfl | rfl <;> rfl
theorem St.get_there (s : St) {x : Int} (h : 0 ≤ x ∧ x ≤ 10) : (s.get x).2 = true := by
 rcases St.reg_cases h with rfl | rfl | rfl | rfl | rfl | rfl | rfl | rfl | rfl | rfl | rfl <;> rfl
theorem St.get_other (s : St) {x y : Int} (v : Int) (h : 0 ≤ x ∧ x ≤ 10) (h' : 0 ≤ y ∧ y ≤ 10) (hne : x ≠ y) : (s.get y).1 = ((s.set x v).1.get y).1 := by
 rcases St.reg_cases h with rfl | rfl | rfl | rfl | rfl | rfl | rfl | rfl | rfl | rfl | rfl <;>
  rcases St.reg_cases h' with rfl | rfl | rfl | rfl | rfl | rfl | rfl | rfl | rfl | rfl | rfl <;> first | rfl | exact absurd rfl hne
theorem b2i_bne (v : Int) : b2i (v != 0) = w01 v := rfl
theorem St.get_set (s : St) {x : Int} (v : Int) (h : 0 ≤ x ∧ x ≤ 10) (h9 : x ≠ 9) (hv : u32 v) : ((s.set x v).1.get x).1 = wantR x v := by
 rcases St.reg_cases h with rfl | rfl | rfl | rfl | rfl | rfl | rfl | rfl | rfl | rfl | rfl
 ·rfl
 ·rfl
 ·show bits .andNot .u32 v 63 = IntKind.u32.wrap (v - v % 64); exact andNot63 v hv
 ·rfl
 ·rfl
 ·rfl
 ·rfl
 ·rfl
 ·rfl
 ·exact absurd rfl h9
 show bits .and .u32 v 15 = v % 16; exact and15 v hv
theorem St.get_none (s : St) {x : Int} (h : x < 0 ∨ 10 < x) : (s.get x).2 = false := by
 unfold St.get
 have e : ∀ k : Int, 0 ≤ k → k ≤ 10 → (x == k) = false := fun k _ _ => by rw [beq_eq_false_iff_ne]; omega
 simp only [e 0 (by omega) (by omega), e 1 (by omega) (by omega), e 2 (by omega) (by omega), e 3 (by omega) (by omega), e 4 (by omega) (by omega), e 5 (by omega) (by omega), e 6 (by omega) (by omega), e 7 (by omega) (by omega), e 8 (by omega) (by omega), e 9 (by omega) (by omega), e 10 (by omega) (by omega), cond_false]
theorem bne_f {a b : Int} (h : a = b) : (a != b) = false := by simp [h]
theorem bneb_f {a b : Bool} (h : a = b) : (a != b) = false := by simp [h]
end Go.Ink
/- The reference's Right, bit, word, Trap, Return, Get, Set. -/
set_option linter.unusedSimpArgs false
set_option linter.unusedVariables false
set_option maxRecDepth 100000
namespace Go.Ink
open Go.RowKit
def St.regs (s : St) : List Int := [b2i s.ie, b2i s.paging, s.root, s.vec, s.epc, s.cause, s.addr, b2i s.esuper, b2i s.eie, IntKind.u32.wrap s.count, s.flags]
theorem St.regs_at (s : St) {reg : Int} (h : 0 ≤ reg ∧ reg ≤ 10) : s.regs[reg.toNat]? = some (s.get reg).1 := by
 rcases St.reg_cases h with rfl | rfl | rfl | rfl | rfl | rfl | rfl | rfl | rfl | rfl | rfl <;> rfl
theorem St.right_lt (s : St) : ((decide ((s.d.length : Int) ≤ 16) && decide ((s.r.length : Int) ≤ 16)) && decide (s.flags < 16)) = s.right := by
 unfold St.right
 congr 1
 exact decide_eq_decide.2 (by omega)
theorem mul64 (v : Int) (h : u32 v) : IntKind.u32.wrap (IntKind.u32.wrap (v.tdiv 64) * 64) = bits .andNot .u32 v 63 := by
 obtain ⟨h0, h1⟩ := h
 rw [andNot63 v ⟨h0, h1⟩]
 congr 1
 rw [Int.tdiv_eq_ediv_of_nonneg h0, IntKind.wrap_u32]
 omega
theorem St.get_none1 (s : St) {x : Int} (h : x < 0 ∨ 10 < x) : (s.get x).1 = 0 := by
 unfold St.get
 have e : ∀ k : Int, 0 ≤ k → k ≤ 10 → (x == k) = false := fun k _ _ => by rw [beq_eq_false_iff_ne]; omega
 simp only [e 0 (by omega) (by omega), e 1 (by omega) (by omega), e 2 (by omega) (by omega), e 3 (by omega) (by omega), e 4 (by omega) (by omega), e 5 (by omega) (by omega), e 6 (by omega) (by omega), e 7 (by omega) (by omega), e 8 (by omega) (by omega), e 9 (by omega) (by omega), e 10 (by omega) (by omega), cond_false]
theorem rem16 (v : Int) (h : u32 v) : v.tmod 16 = bits .and .u32 v 15 := by
 rw [and15 v h, Int.tmod_eq_emod_of_nonneg h.1]
end Go.Ink
namespace Go.Proofs.YtmhpcgmjlpfheaaGreatDoor
open Go.RowKit Go.Ink
attribute [local irreducible] OpY GuardIs

end Go.Proofs.YtmhpcgmjlpfheaaGreatDoor
/- A guest's registers among the arguments, opened; and the row's frame at this program. -/
set_option linter.unusedSimpArgs false
set_option linter.unusedVariables false
set_option maxRecDepth 100000
namespace Go.Proofs.YtmhpcgmjlpfheaaGreatDoor
open Go.RowKit Go.Ink
attribute [local irreducible] OpY GuardIs

theorem own0 : ownKnob Tryz.prog.godebug = none := by kernel_rfl
theorem laid0 : laidOutB Tryz.prog = true := by kernel_rfl
theorem wf_u32 {n : Int} (h : (Lit.int .u32 n).wf = true) : u32 n := by
 simp only [Lit.wf, Bool.and_eq_true, decide_eq_true_eq] at h
 have h1 : IntKind.u32.min = 0 := rfl
 have h2 : IntKind.u32.max = 4294967295 := rfl
 rw [h1, h2] at h
 exact h
theorem wf_u64 {n : Int} (h : (Lit.int .u64 n).wf = true) : 0 ≤ n ∧ n ≤ 18446744073709551615 := by
 simp only [Lit.wf, Bool.and_eq_true, decide_eq_true_eq] at h
 have h1 : IntKind.u64.min = 0 := rfl
 have h2 : IntKind.u64.max = 18446744073709551615 := rfl
 rw [h1, h2] at h
 exact h
theorem wf_i64 {n : Int} (h : (Lit.int .i64 n).wf = true) : -9223372036854775808 ≤ n ∧ n ≤ 9223372036854775807 := by
 simp only [Lit.wf, Bool.and_eq_true, decide_eq_true_eq] at h
 have h1 : IntKind.i64.min = -9223372036854775808 := rfl
 have h2 : IntKind.i64.max = 9223372036854775807 := rfl
 rw [h1, h2] at h
 exact h
theorem arg1 {W : World} {t : TypeId} {k : IntKind} {c : Value} (ht : Tryz.prog.underlying t = some (.int k)) (h : Arg Tryz.prog W t [c]) : ∃ n, c = .int k n ∧ (Lit.int k n).wf = true := by
 obtain ⟨n, h1, h2⟩ := h.int ht
 exact ⟨n, by simpa using h1, h2⟩
theorem arg1b {W : World} {t : TypeId} {c : Value} (ht : Tryz.prog.underlying t = some .bool) (h : Arg Tryz.prog W t [c]) : ∃ n, c = .bool n := by
 obtain ⟨n, h1⟩ := h.bool ht
 exact ⟨n, by simpa using h1⟩

set_option maxRecDepth 100000 in
theorem open_state {W : World} {v : Value} (h : ArgV Tryz.prog W 28 v) : ∃ s Ad cd Ar cr, v = sv s Ad cd Ar cr ∧ s.wf ∧ RdSt W s Ad Ar cd cr := by
 obtain ⟨cs, rfl, hl, hf⟩ := h.struct rfl
 have hl : cs.length = 16 := hl
 match cs, hl with
 | [c0, c1, c2, c3, c4, c5, c6, c7, c8, c9, c10, c11, c12, c13, c14, c15], _ =>
  have k0 : Arg Tryz.prog W _ [c0] := hf 0 _ rfl
  have k1 : Arg Tryz.prog W _ [c1] := hf 1 _ rfl
  have k2 : Arg Tryz.prog W _ [c2] := hf 2 _ rfl
  have k3 : Arg Tryz.prog W _ [c3] := hf 3 _ rfl
  have k4 : Arg Tryz.prog W _ [c4] := hf 4 _ rfl
  have k5 : Arg Tryz.prog W _ [c5] := hf 5 _ rfl
  have k6 : Arg Tryz.prog W _ [c6] := hf 6 _ rfl
  have k7 : Arg Tryz.prog W _ [c7] := hf 7 _ rfl
  have k8 : Arg Tryz.prog W _ [c8] := hf 8 _ rfl
  have k9 : Arg Tryz.prog W _ [c9] := hf 9 _ rfl
  have k10 : Arg Tryz.prog W _ [c10] := hf 10 _ rfl
  have k11 : Arg Tryz.prog W _ [c11] := hf 11 _ rfl
  have k12 : Arg Tryz.prog W _ [c12] := hf 12 _ rfl
  have k13 : Arg Tryz.prog W _ [c13] := hf 13 _ rfl
  have k14 : Arg Tryz.prog W _ [c14] := hf 14 _ rfl
  have k15 : Arg Tryz.prog W _ [c15] := hf 15 _ rfl
  obtain ⟨n0, rfl, m0⟩ := arg1 rfl k0
  obtain ⟨A1, d1, x1, e1, r1, b1, z1⟩ := k1.ints (e := 24) (k := .u32) rfl rfl rfl
  obtain rfl : c1 = _ := by simpa using e1
  obtain ⟨A2, d2, x2, e2, r2, b2, z2⟩ := k2.ints (e := 24) (k := .u32) rfl rfl rfl
  obtain rfl : c2 = _ := by simpa using e2
  obtain ⟨n3, rfl, m3⟩ := arg1 rfl k3
  obtain ⟨n4, rfl⟩ := arg1b rfl k4
  obtain ⟨n5, rfl⟩ := arg1b rfl k5
  obtain ⟨n6, rfl⟩ := arg1b rfl k6
  obtain ⟨n7, rfl, m7⟩ := arg1 rfl k7
  obtain ⟨n8, rfl, m8⟩ := arg1 rfl k8
  obtain ⟨n9, rfl, m9⟩ := arg1 rfl k9
  obtain ⟨n10, rfl, m10⟩ := arg1 rfl k10
  obtain ⟨n11, rfl, m11⟩ := arg1 rfl k11
  obtain ⟨n12, rfl⟩ := arg1b rfl k12
  obtain ⟨n13, rfl⟩ := arg1b rfl k13
  obtain ⟨n14, rfl, m14⟩ := arg1 rfl k14
  obtain ⟨n15, rfl⟩ := arg1b rfl k15
  have hb : Tryz.prog.bytesOf 24 = 4 := by kernel_rfl
  rw [hb] at b1 b2
  refine ⟨⟨n0, x1, x2, n3, n4, n5, n6, n7, n8, n9, n10, n11, n12, n13, n14, n15⟩, A1, d1, A2, d2, rfl, ⟨wf_u32 m0, wf_u32 m3, wf_u32 m7, wf_u32 m8, wf_u32 m9, wf_u32 m10, wf_u32 m11, wf_u64 m14, fun x hx => wf_u32 (z1 x hx), fun x hx => wf_u32 (z2 x hx)⟩, r1, r2, ?_, ?_⟩
  ·have := r1.cap; show x1.length * 4 ≤ _; omega
  have := r2.cap; show x2.length * 4 ≤ _; omega

theorem ctr_true {f : FuncId} {args : List Value} {w : World} (h : Ctr Tryz.prog f args w [] (fun v cs => v = .bool true ∧ cs = [])) : Calls Tryz.prog f args.toArray w fun e w' => e = .returned (.bool true) ∧ Below w.heap.size w w' :=
 Calls.mono h fun _ _ ⟨_, _, he, ⟨h1, h2⟩, hi⟩ => ⟨by rw [he, h1], hi.keep.below⟩
end Go.Proofs.YtmhpcgmjlpfheaaGreatDoor
