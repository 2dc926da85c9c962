/- An instruction that is being done: its stacks. -/
import Derived.Test.YtobjiljkfmcalaaGreatSpP
import Derived.Test.YtobjiljkfmcalaaGreatInkS
import Derived.Test.YtobjiljkfmcalaaGreatInkJ
import Derived.Test.YtobjiljkfmcalaaGreatStC
set_option linter.unusedSimpArgs false
set_option linter.unusedVariables false
set_option maxRecDepth 100000
namespace Go.Ink
open Go.RowKit
structure Run where
  s : St
  count : Int
  trap : Tr
  device : Bool
abbrev Run.wd (R : Run) (l : List Int) : Run := ⟨⟨R.s.pc, l, R.s.r, R.s.flags, R.s.super, R.s.paging, R.s.ie, R.s.root, R.s.vec, R.s.epc, R.s.cause, R.s.addr, R.s.esuper, R.s.eie, R.s.count, R.s.halted⟩, R.count, R.trap, R.device⟩
abbrev Run.wr (R : Run) (l : List Int) : Run := ⟨⟨R.s.pc, R.s.d, l, R.s.flags, R.s.super, R.s.paging, R.s.ie, R.s.root, R.s.vec, R.s.epc, R.s.cause, R.s.addr, R.s.esuper, R.s.eie, R.s.count, R.s.halted⟩, R.count, R.trap, R.device⟩
abbrev Run.wt (R : Run) (t : Tr) : Run := ⟨R.s, R.count, t, R.device⟩
/-- Where the stacks lie. -/
structure SAdr where
  Ad : Option Addr
  cd : Nat
  Ar : Option Addr
  cr : Nat
structure RLoc where
  br : Nat
  u : Option Addr
  b : Option Addr
end Go.Ink
namespace Go.Proofs.YtobjiljkfmcalaaGreat
open Go.RowKit Go.Ink

abbrev runRow (K : RLoc) (X : SAdr) (R : Run) : Chunk := row K.br [.int .u32 R.s.pc, .slice X.Ad R.s.d.length X.cd, .slice X.Ar R.s.r.length X.cr, .int .u32 R.s.flags, .bool R.s.super, .bool R.s.paging, .bool R.s.ie, .int .u32 R.s.root, .int .u32 R.s.vec, .int .u32 R.s.epc, .int .u32 R.s.cause, .int .u32 R.s.addr, .bool R.s.esuper, .bool R.s.eie, .int .u64 R.s.count, .bool R.s.halted, .int .u64 R.count, .pointer K.u, .pointer K.b, .int .i64 R.trap.cause, .int .u32 R.trap.addr, .bool R.device] 98
abbrev runF (K : RLoc) (X : SAdr) (R : Run) : List Chunk := [runRow K X R, slD R.s X.Ad X.cd, slR R.s X.Ar X.cr]
theorem pop_ok (K : RLoc) (X : SAdr) (R : Run) (l : List Int) (x : Int) (w : World) (hi : Inv w (blocks (runF K X (R.wd (l ++ [x])))) (runF K X (R.wd (l ++ [x]))) w) :
    Ctr Tryz.prog 79 [.pointer (some ⟨K.br, 0, none⟩)] w (runF K X (R.wd (l ++ [x]))) (fun v cs => v = .int .u32 x ∧ cs = runF K X (R.wd l)) := by
  have hrd := slvok_rd (hi.get (.tail _ (.head _ _)))
  have hcap : (l ++ [x]).length ≤ X.cd := hrd.cap
  have hmax := hrd.max
  simp only [maxLen] at hmax
  have hlen : (l ++ [x]).length = l.length + 1 := by simp
  obtain ⟨Ad, cd, Ar, cr⟩ := X
  obtain ⟨bd, rfl⟩ := slv_some (hi.get (.tail _ (.head _ _))) (show 0 < (l ++ [x]).length by omega)
  have hcap : (l ++ [x]).length ≤ cd := hcap
  have hdl : (R.wd (l ++ [x])).s.d.length = l.length + 1 := hlen
  have hmax : cd ≤ _ := hmax
  refine fn_ctr Tryz.func79 rfl Tryz.ntmps79 rfl hi ?_
  refine Zs (Zr (Zg rfl (Zn (Zt (Zs (Zr (Zm rfl (Zy (y_nil (Zv rfl)) (Zy (y_field 0 rfl (Zv rfl) Zf) ?_)))))))))
  refine Zy (y_field 1 rfl (Zv rfl) Zf) ?_
  refine Zz rfl ?_
  refine Zy (y_len ⟨_, rfl⟩ (Zv rfl)) ?_
  refine Zy (y_sub (Zv rfl) (Zv rfl) (show _ = (l.length : Int) from by rw [hlen]; exact IntWalk.i64_in _ ⟨by omega, by omega⟩ |>.trans (by omega))) ?_
  refine Zg rfl (Zn (Zt (Zs (Zr (Zm rfl (Zy (y_nil (Zv rfl)) (Zy (y_field 0 rfl (Zv rfl) Zf) ?_)))))))
  refine Zy (y_field 1 rfl (Zv rfl) Zf) ?_
  refine Zz rfl ?_
  refine Zm rfl (Zy (y_indexR (j := l.length) (sz := 1) (r := l.length) rfl (fun _ => rfl) (Zv rfl) (Zv rfl) (fun _ => by omega) (fun _ => by omega) (by omega)) ?_)
  refine wl_y (y_load (fun _ => rfl) (Zv rfl)) (sl_cellR Zh (ints_at (snoc_get l x))) rfl ?_
  refine Zg rfl (Zn (Zt (Zs (Zr (Zm rfl (Zm rfl (Zy (y_nil (Zv rfl)) (Zy (y_field 0 rfl (Zv rfl) Zf) ?_))))))))
  refine Zy (y_field 1 rfl (Zv rfl) Zf) ?_
  refine Zz rfl ?_
  refine Zm rfl (Zy (y_slice0 (l.length) rfl (fun _ => rfl) (Zv rfl) (Zv rfl) (fun _ => by first | rfl | omega) (fun _ => by omega)) ?_)
  refine Zy (y_nil (Zv rfl)) (Zy (y_field 0 rfl (Zv rfl) Zf) ?_)
  refine Zy (y_field 1 rfl (Zv rfl) Zf) ?_
  refine wl_t0 (t_store (fun _ => rfl) rfl rfl rfl Za Zp) ?_
  rintro _ _ ⟨rfl, rfl⟩
  refine Zn (Zt (Zs (Zr (Zm rfl (Zg rfl (Zn (Zt (Ze (qok_conv (c := slD (R.wd (l ++ [x])).s (some ⟨bd, 0, none⟩) cd) (c' := slD (R.wd l).s (some ⟨bd, 0, none⟩) cd) Za rfl (fun w h => sl_pop h) ?_)))))))))
  refine ret1 (cs' := [row _ _ _, slv _ _ _ _ _ _, slv _ _ _ _ _ _]) (.inl rfl) Zu rfl rfl ?_
  exact ⟨rfl, rfl⟩
theorem popr_ok (K : RLoc) (X : SAdr) (R : Run) (l : List Int) (x : Int) (w : World) (hi : Inv w (blocks (runF K X (R.wr (l ++ [x])))) (runF K X (R.wr (l ++ [x]))) w) :
    Ctr Tryz.prog 80 [.pointer (some ⟨K.br, 0, none⟩)] w (runF K X (R.wr (l ++ [x]))) (fun v cs => v = .int .u32 x ∧ cs = runF K X (R.wr l)) := by
  have hrd := slvok_rd (hi.get (.tail _ (.tail _ (.head _ _))))
  have hcap : (l ++ [x]).length ≤ X.cr := hrd.cap
  have hmax := hrd.max
  simp only [maxLen] at hmax
  have hlen : (l ++ [x]).length = l.length + 1 := by simp
  obtain ⟨Ad, cd, Ar, cr⟩ := X
  obtain ⟨bd, rfl⟩ := slv_some (hi.get (.tail _ (.tail _ (.head _ _)))) (show 0 < (l ++ [x]).length by omega)
  have hcap : (l ++ [x]).length ≤ cr := hcap
  have hdl : (R.wr (l ++ [x])).s.r.length = l.length + 1 := hlen
  have hmax : cr ≤ _ := hmax
  refine fn_ctr Tryz.func80 rfl Tryz.ntmps80 rfl hi ?_
  refine Zs (Zr (Zg rfl (Zn (Zt (Zs (Zr (Zm rfl (Zy (y_nil (Zv rfl)) (Zy (y_field 0 rfl (Zv rfl) Zf) ?_)))))))))
  refine Zy (y_field 2 rfl (Zv rfl) Zf) ?_
  refine Zz rfl ?_
  refine Zy (y_len ⟨_, rfl⟩ (Zv rfl)) ?_
  refine Zy (y_sub (Zv rfl) (Zv rfl) (show _ = (l.length : Int) from by rw [hlen]; exact IntWalk.i64_in _ ⟨by omega, by omega⟩ |>.trans (by omega))) ?_
  refine Zg rfl (Zn (Zt (Zs (Zr (Zm rfl (Zy (y_nil (Zv rfl)) (Zy (y_field 0 rfl (Zv rfl) Zf) ?_)))))))
  refine Zy (y_field 2 rfl (Zv rfl) Zf) ?_
  refine Zz rfl ?_
  refine Zm rfl (Zy (y_indexR (j := l.length) (sz := 1) (r := l.length) rfl (fun _ => rfl) (Zv rfl) (Zv rfl) (fun _ => by omega) (fun _ => by omega) (by omega)) ?_)
  refine wl_y (y_load (fun _ => rfl) (Zv rfl)) (sl_cellR Zh (ints_at (snoc_get l x))) rfl ?_
  refine Zg rfl (Zn (Zt (Zs (Zr (Zm rfl (Zm rfl (Zy (y_nil (Zv rfl)) (Zy (y_field 0 rfl (Zv rfl) Zf) ?_))))))))
  refine Zy (y_field 2 rfl (Zv rfl) Zf) ?_
  refine Zz rfl ?_
  refine Zm rfl (Zy (y_slice0 (l.length) rfl (fun _ => rfl) (Zv rfl) (Zv rfl) (fun _ => by first | rfl | omega) (fun _ => by omega)) ?_)
  refine Zy (y_nil (Zv rfl)) (Zy (y_field 0 rfl (Zv rfl) Zf) ?_)
  refine Zy (y_field 2 rfl (Zv rfl) Zf) ?_
  refine wl_t0 (t_store (fun _ => rfl) rfl rfl rfl Za Zp) ?_
  rintro _ _ ⟨rfl, rfl⟩
  refine Zn (Zt (Zs (Zr (Zm rfl (Zg rfl (Zn (Zt (Ze (qok_conv (c := slR (R.wr (l ++ [x])).s (some ⟨bd, 0, none⟩) cr) (c' := slR (R.wr l).s (some ⟨bd, 0, none⟩) cr) Za rfl (fun w h => sl_pop h) ?_)))))))))
  refine ret1 (cs' := [row _ _ _, slv _ _ _ _ _ _, slv _ _ _ _ _ _]) (.inl rfl) Zu rfl rfl ?_
  exact ⟨rfl, rfl⟩
theorem push_ok (K : RLoc) (X : SAdr) (R : Run) (A : Option Addr) (n c : Nat) (ys : List Int) (hs : R.s.d.length + n ≤ 1000000) (w : World) (hi : Inv w (blocks (runF K X R)) (runF K X R) w) (h : ∀ w', Keep (blocks (runF K X R)) w w' → Rd w' .u32 A n c ys) :
    Ctr Tryz.prog 78 [.pointer (some ⟨K.br, 0, none⟩), .slice A n c] w (runF K X R) (fun v cs => ∃ A' c', v = .tuple #[] ∧ cs = runF K ⟨A', c', X.Ar, X.cr⟩ (R.wd (R.s.d ++ ys))) := by
  have hl : n = ys.length := by have := (h w (Keep.refl _ _)).len; rw [ints_length] at this; omega
  subst hl
  refine fn_ctr Tryz.func78 rfl Tryz.ntmps78 rfl hi ?_
  refine Zr (Zm rfl (Zm rfl (Zy (y_nil (Zv rfl)) (Zy (y_field 0 rfl (Zv rfl) Zf) ?_))))
  refine Zy (y_field 1 rfl (Zv rfl) Zf) ?_
  refine Zz rfl ?_
  refine Zm rfl (wl_t (t_append (e := 22) (sz := 1) (bytes := 4) rfl rfl Za rfl rfl (fun w hi => h w hi.keep) ints_one (by simp only [maxLen]; omega) (by omega)) rfl ?_)
  rintro _ _ ⟨A', c', rfl, rfl⟩
  refine Zy (y_nil (Zv rfl)) (Zy (y_field 0 rfl (Zv rfl) Zf) ?_)
  refine Zy (y_field 1 rfl (Zv rfl) Zf) ?_
  refine wl_t0 (t_store (fun _ => rfl) rfl rfl rfl Za Zp) ?_
  rintro _ _ ⟨rfl, rfl⟩
  refine Zn (ret0 (cs' := [row _ _ _, slv _ _ _ _ _ _, slv _ _ _ _ _ _]) (.inr rfl) Zu rfl ?_)
  exact ⟨A', c', rfl, by simp only [runF, runRow, slD, slR, List.length_append, ints_append]⟩
theorem fail_ok (K : RLoc) (X : SAdr) (R : Run) (cause addr : Int) (w : World) (hi : Inv w (blocks (runF K X R)) (runF K X R) w) :
    Ctr Tryz.prog 83 [.pointer (some ⟨K.br, 0, none⟩), .int .i64 cause, .int .u32 addr] w (runF K X R) (fun v cs => v = .tuple #[] ∧ cs = runF K X (R.wt ⟨cause, addr⟩)) := by
  refine fn_ctr Tryz.func83 rfl Tryz.ntmps83 rfl hi ?_
  refine Zr (Zm rfl (Zm rfl (Zm rfl (Zy (y_build rfl rfl (fun _ => rfl) rfl rfl rfl Zb) ?_))))
  refine Zy (y_nil (Zv rfl)) (Zy (y_field 19 rfl (Zv rfl) Zf) ?_)
  refine wl_t0 (t_storeRN (n := 2) (vs := [.int .i64 cause, .int .u32 addr]) (fun _ => rfl) rfl rfl (allT rfl) Za rfl (by simp only [List.length_cons, List.length_nil]; omega)) ?_
  rintro _ _ ⟨rfl, rfl⟩
  refine Zn (ret0 (cs' := [row _ _ _, slv _ _ _ _ _ _, slv _ _ _ _ _ _]) (.inr rfl) Zu rfl ?_)
  exact ⟨rfl, rfl⟩
theorem space_ok (K : RLoc) (X : SAdr) (R : Run) (w : World) (h : (runRow K X R).ok w) :
    Ctr Tryz.prog 117 [.pointer (some ⟨K.br, 0, none⟩)] w [] (fun v cs => v = .agg #[.bool R.s.paging, .bool R.s.super, .int .u32 R.s.root] ∧ cs = []) := by
  refine fn_ctr Tryz.func117 rfl Tryz.ntmps117 rfl (Inv.start w) ?_
  refine Zs (Zr (wl_t (t_alloc (fun _ => rfl) rfl) rfl ?_))
  rintro _ _ ⟨b2, rfl, rfl⟩
  refine Zn (Zt (Zs (wc_draw ⟨fun j => List.elem j [16], []⟩ Zk ?_)))
  refine wa_yn 0 rfl Zk Zk Zk (y_move (Zv rfl)) rfl ?_
  refine wa_yn 1 rfl Zk Zk Zk (y_nil (Zv rfl)) rfl ?_
  refine wa_yn 2 rfl Zk Zk Zk (y_field 0 rfl (Zv rfl) Zf) rfl ?_
  refine wa_yn 3 rfl Zk Zk Zk (y_field 5 rfl (Zv rfl) Zf) rfl ?_
  refine wa_ln 4 rfl Zk Zk Zk Zk (y_load (fun _ => rfl) (Zv rfl)) (old_row (by assumption) rfl) rfl ?_
  refine wa_yn 5 rfl Zk Zk Zk (y_move (Zv rfl)) rfl ?_
  refine wa_yn 6 rfl Zk Zk Zk (y_nil (Zv rfl)) rfl ?_
  refine wa_yn 7 rfl Zk Zk Zk (y_field 0 rfl (Zv rfl) Zf) rfl ?_
  refine wa_yn 8 rfl Zk Zk Zk (y_field 4 rfl (Zv rfl) Zf) rfl ?_
  refine wa_ln 9 rfl Zk Zk Zk Zk (y_load (fun _ => rfl) (Zv rfl)) (old_row (by assumption) rfl) rfl ?_
  refine wa_yn 10 rfl Zk Zk Zk (y_move (Zv rfl)) rfl ?_
  refine wa_yn 11 rfl Zk Zk Zk (y_nil (Zv rfl)) rfl ?_
  refine wa_yn 12 rfl Zk Zk Zk (y_field 0 rfl (Zv rfl) Zf) rfl ?_
  refine wa_yn 13 rfl Zk Zk Zk (y_field 7 rfl (Zv rfl) Zf) rfl ?_
  refine wa_ln 14 rfl Zk Zk Zk Zk (y_load (fun _ => rfl) (Zv rfl)) (old_row (by assumption) rfl) rfl ?_
  refine wa_yn 15 rfl Zk Zk Zk (y_build rfl rfl (fun _ => rfl) rfl rfl rfl Zb) rfl ?_
  refine wa_1 16 Zk ?_
  refine wi_t0 rfl rfl (t_storeN (fun _ => rfl) rfl rfl (allT rfl) Za (by exact rfl)) (fun _ _ _ _ _ _ _ h => by cases h) ?_
  rintro _ _ ⟨rfl, rfl⟩
  refine wa_done Zk ?_
  refine Zt (Ze (retC (cs' := []) (.inl rfl) Zu rfl rfl Zh (fun _ => rfl) (fun _ => rfl) ?_))
  exact ⟨rfl, rfl⟩
end Go.Proofs.YtobjiljkfmcalaaGreat
