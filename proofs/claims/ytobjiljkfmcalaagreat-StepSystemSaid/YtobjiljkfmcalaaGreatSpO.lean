/- The bus. -/
import Derived.Test.YtobjiljkfmcalaaGreatSpN
import Derived.Test.YtobjiljkfmcalaaGreatInkS
set_option linter.unusedSimpArgs false
set_option linter.unusedVariables false
set_option maxRecDepth 100000
namespace Go.Ink
open Go.RowKit
/-- A guest's devices. -/
structure Dev where
  pend : Int
  mask : Int
  timer : Int
  out : List Int
  inp : List Int
  disk : List Int
  sector : Nat
  place : Nat
  status : Int
structure DLoc where
  bs : Nat
  bi : Nat
  bti : Nat
  bcn : Nat
  bdr : Nat
  bdk : Nat
/-- Where what grows lies. -/
structure DAdr where
  Ao : Option Addr
  co : Nat
  Ai : Option Addr
  ci : Nat
structure Dev.wf (d : Dev) : Prop where
  inpb : u8s d.inp
  disk : d.disk.length = 1024
  diskb : u8s d.disk
  sector : d.sector ≤ 4294967295
  place : d.place ≤ 4294967295
  inp : d.inp.length ≤ 1000000000
def devK (a : Nat) : Int := IntKind.u32.wrap ((a : Int) - 32768)
def devLoad (d : Dev) (k count : Int) : (Int × Bool) × Dev :=
  bif k == 0 then ((d.pend, true), d) else bif k == 4 then ((d.mask, true), d) else bif k == 8 then ((d.timer, true), d) else bif k == 12 then ((IntKind.u32.wrap count, true), d) else
  bif k == 16 then ((0, true), d) else bif k == 40 then ((0, true), d) else bif k == 20 then ((gB d.inp 0, true), { d with inp := d.inp.tail }) else bif k == 24 then (((d.inp.length : Int), true), d) else
  bif k == 32 then (((d.sector : Int), true), d) else bif k == 36 then (((d.place : Int), true), d) else bif k == 44 then ((d.status, true), d) else ((0, false), d)
def devCmd (n : Nat) (M : Mem) (d : Dev) (v : Nat) : Mem × Dev :=
  ((driveDo n M d.disk d.sector d.place v).2.1, { d with disk := (driveDo n M d.disk d.sector d.place v).2.2, status := bif (driveDo n M d.disk d.sector d.place v).1 then 0 else 1, pend := bits .or .u32 d.pend (linesOf [2]) })
def devStore (n : Nat) (M : Mem) (d : Dev) (k : Int) (v : Nat) : Bool × Mem × Dev :=
  bif k == 0 then (true, M, { d with pend := bits .andNot .u32 d.pend v }) else bif k == 4 then (true, M, { d with mask := bits .and .u32 v 255 }) else bif k == 8 then (true, M, { d with timer := v }) else
  bif k == 16 then (true, M, { d with out := d.out ++ [IntKind.u8.wrap v] }) else bif k == 32 then (true, M, { d with sector := v }) else bif k == 36 then (true, M, { d with place := v }) else
  bif k == 40 then (true, devCmd n M d v) else bif k == 12 then (true, M, d) else bif k == 20 then (true, M, d) else bif k == 24 then (true, M, d) else bif k == 44 then (true, M, d) else (false, M, d)
end Go.Ink
namespace Go.Proofs.YtobjiljkfmcalaaGreat
open Go.RowKit Go.Ink

abbrev busRow (D : DLoc) (bm : Nat) (d : Dev) : Chunk := row D.bs [.pointer (some ⟨D.bi, 0, none⟩), .pointer (some ⟨D.bti, 0, none⟩), .pointer (some ⟨D.bcn, 0, none⟩), .pointer (some ⟨D.bdr, 0, none⟩), .pointer (some ⟨bm, 0, none⟩), .int .u32 (d.sector : Int), .int .u32 (d.place : Int), .int .u32 d.status] 59
abbrev busF (D : DLoc) (bm : Nat) (X : DAdr) (d : Dev) : List Chunk := [busRow D bm d, irqC D.bi d.pend d.mask, timC D.bti d.timer, conC D.bcn X.Ao d.out.length X.co X.Ai d.inp.length X.ci, b8 X.Ao X.co d.out, b8 X.Ai X.ci d.inp, driC D.bdr D.bdk, dskC D.bdk d.disk]
set_option maxHeartbeats 1000000 in
theorem busload_ok (D : DLoc) (bm : Nat) (X : DAdr) (d : Dev) (hd : d.wf) (a : Nat) (count : Int) (w : World) (hi : Inv w (blocks (busF D bm X d)) (busF D bm X d) w) :
    Ctr Tryz.prog 112 [.pointer (some ⟨D.bs, 0, none⟩), .int .u32 a, .int .u64 count] w (busF D bm X d) (fun v cs => ∃ X', v = .tuple #[.int .u32 (devLoad d (devK a) count).1.1, .bool (devLoad d (devK a) count).1.2] ∧ cs = busF D bm X' (devLoad d (devK a) count).2) := by
  have hinp := hd.inp
  have hgb : IntKind.u32.wrap (gB d.inp 0) = gB d.inp 0 := by have := gB_rng hd.inpb 0; exact u32_wrap_id _ (by omega) (by omega)
  obtain ⟨k, hk⟩ : ∃ k, devK a = k := ⟨_, rfl⟩
  rw [hk]
  unfold devK at hk
  refine fn_ctr Tryz.func112 rfl Tryz.ntmps112 rfl hi ?_
  refine Zs (Zr (Zg rfl (Zg rfl (Zn (Zt (Zs (Zs (Zr (Zm rfl (Zy (y_sub (Zv rfl) (Zv rfl) hk) ?_))))))))))
  refine Zn (Zt (Zx (Zs (Zr (Zy (y_eql (Zv rfl) (Zv rfl) rfl) (Zg rfl (Zn (Zt ?_))))))))
  refine wc_cond _ rfl (fun hc2 => ?_) (fun hc2 => ?_)
  · refine Zs (Zr (Zm rfl (Zy (y_nil (Zv rfl)) (Zy (y_field 0 rfl (Zv rfl) Zf) ?_))))
    refine Zz rfl ?_
    refine wl_t (t_call rfl (fun _ _ => rfl) (fun w hi => pending_ok D.bi d.pend d.mask w (hi.get Zh))) rfl ?_
    rintro _ _ ⟨_, ⟨rfl, rfl⟩, rfl⟩
    refine Zg rfl (Zg rfl (Zn (Zt (Ze (Zq (Zw (ret2 (cs' := [row _ _ _, row _ _ _, row _ _ _, row _ _ _, slv _ _ _ _ _ _, slv _ _ _ _ _ _, row _ _ _, slv _ _ _ _ _ _]) (.inl rfl) Zu rfl rfl rfl ?_)))))))
    refine ⟨X, ?_, ?_⟩
    · simp only [devLoad, *, cond_true, cond_false]
    simp only [devLoad, *, cond_true, cond_false]
  refine Zs (Zr (Zy (y_eql (Zv rfl) (Zv rfl) rfl) (Zg rfl (Zn (Zt ?_)))))
  refine wc_cond _ rfl (fun hc4 => ?_) (fun hc4 => ?_)
  · refine Zs (Zr (Zm rfl (Zy (y_nil (Zv rfl)) (Zy (y_field 0 rfl (Zv rfl) Zf) ?_))))
    refine Zz rfl ?_
    refine wl_t (t_call rfl (fun _ _ => rfl) (fun w hi => mask_ok D.bi d.pend d.mask w (hi.get Zh))) rfl ?_
    rintro _ _ ⟨_, ⟨rfl, rfl⟩, rfl⟩
    refine Zg rfl (Zg rfl (Zn (Zt (Ze (Zq (Zw (ret2 (cs' := [row _ _ _, row _ _ _, row _ _ _, row _ _ _, slv _ _ _ _ _ _, slv _ _ _ _ _ _, row _ _ _, slv _ _ _ _ _ _]) (.inl rfl) Zu rfl rfl rfl ?_)))))))
    refine ⟨X, ?_, ?_⟩
    · simp only [devLoad, *, cond_true, cond_false]
    simp only [devLoad, *, cond_true, cond_false]
  refine Zs (Zr (Zy (y_eql (Zv rfl) (Zv rfl) rfl) (Zg rfl (Zn (Zt ?_)))))
  refine wc_cond _ rfl (fun hc6 => ?_) (fun hc6 => ?_)
  · refine Zs (Zr (Zm rfl (Zy (y_nil (Zv rfl)) (Zy (y_field 1 rfl (Zv rfl) Zf) ?_))))
    refine Zz rfl ?_
    refine wl_t (t_call rfl (fun _ _ => rfl) (fun w hi => timat_ok D.bti d.timer w (hi.get Zh))) rfl ?_
    rintro _ _ ⟨_, ⟨rfl, rfl⟩, rfl⟩
    refine Zg rfl (Zg rfl (Zn (Zt (Ze (Zq (Zw (ret2 (cs' := [row _ _ _, row _ _ _, row _ _ _, row _ _ _, slv _ _ _ _ _ _, slv _ _ _ _ _ _, row _ _ _, slv _ _ _ _ _ _]) (.inl rfl) Zu rfl rfl rfl ?_)))))))
    refine ⟨X, ?_, ?_⟩
    · simp only [devLoad, *, cond_true, cond_false]
    simp only [devLoad, *, cond_true, cond_false]
  refine Zs (Zr (Zy (y_eql (Zv rfl) (Zv rfl) rfl) (Zg rfl (Zn (Zt ?_)))))
  refine wc_cond _ rfl (fun hc8 => ?_) (fun hc8 => ?_)
  · refine Zs (Zr (Zm rfl (Zy (y_conv rfl rfl (Zv rfl) rfl) ?_)))
    refine Zg rfl (Zg rfl (Zn (Zt (Ze (Zq (Zw (ret2 (cs' := [row _ _ _, row _ _ _, row _ _ _, row _ _ _, slv _ _ _ _ _ _, slv _ _ _ _ _ _, row _ _ _, slv _ _ _ _ _ _]) (.inl rfl) Zu rfl rfl rfl ?_)))))))
    refine ⟨X, ?_, ?_⟩
    · simp only [devLoad, *, cond_true, cond_false]
    simp only [devLoad, *, cond_true, cond_false]
  refine Zs (Zs (Zr (Zy (y_eql (Zv rfl) (Zv rfl) rfl) (Zg rfl (Zn (Zt ?_))))))
  refine wc_cond _ rfl (fun hc10 => ?_) (fun hc10 => ?_)
  · refine Zc (Zt (wc_cond_t rfl (hc10) ?_))
    refine Zs (Zr (Zg rfl (Zg rfl (Zn (Zt (Ze (Zq (Zw (ret2 (cs' := [row _ _ _, row _ _ _, row _ _ _, row _ _ _, slv _ _ _ _ _ _, slv _ _ _ _ _ _, row _ _ _, slv _ _ _ _ _ _]) (.inl rfl) Zu rfl rfl rfl ?_)))))))))
    refine ⟨X, ?_, ?_⟩
    · simp only [devLoad, *, cond_true, cond_false]
    simp only [devLoad, *, cond_true, cond_false]
  refine Zr (Zy (y_eql (Zv rfl) (Zv rfl) rfl) (Zg rfl (Zn (Zt ?_))))
  refine wc_cond _ rfl (fun hc11 => ?_) (fun hc11 => ?_)
  · refine Zs (Zr (Zg rfl (Zg rfl (Zn (Zt (Ze (Zq (Zw (ret2 (cs' := [row _ _ _, row _ _ _, row _ _ _, row _ _ _, slv _ _ _ _ _ _, slv _ _ _ _ _ _, row _ _ _, slv _ _ _ _ _ _]) (.inl rfl) Zu rfl rfl rfl ?_)))))))))
    refine ⟨X, ?_, ?_⟩
    · simp only [devLoad, *, cond_true, cond_false]
    simp only [devLoad, *, cond_true, cond_false]
  refine Zs (Zr (Zy (y_eql (Zv rfl) (Zv rfl) rfl) (Zg rfl (Zn (Zt ?_)))))
  refine wc_cond _ rfl (fun hc13 => ?_) (fun hc13 => ?_)
  · refine Zs (Zr (Zm rfl (Zy (y_nil (Zv rfl)) (Zy (y_field 2 rfl (Zv rfl) Zf) ?_))))
    refine Zz rfl ?_
    refine wl_t (t_callS ([conC D.bcn X.Ao d.out.length X.co X.Ai d.inp.length X.ci, b8 X.Ai X.ci d.inp]) rfl (fun _ _ => rfl) Zi (fun w hi hin => cread_ok D.bcn X.Ao d.out.length X.co X.Ai X.ci d.inp hinp w hin)) rfl ?_
    rintro _ _ ⟨_, ⟨Ai', ci', rfl, rfl⟩, rfl⟩
    refine Zy (y_conv rfl rfl (Zv rfl) (show IntKind.u32.wrap (gB d.inp 0) = gB d.inp 0 from hgb)) ?_
    refine Zg rfl (Zg rfl (Zn (Zt (Ze (Zq (Zw (qok_pick (busF D bm ⟨X.Ao, X.co, Ai', ci'⟩ { d with inp := d.inp.tail }) Zj ?_)))))))
    refine ret2 (cs' := [row _ _ _, row _ _ _, row _ _ _, row _ _ _, slv _ _ _ _ _ _, slv _ _ _ _ _ _, row _ _ _, slv _ _ _ _ _ _]) (.inl rfl) Zu rfl rfl rfl ?_
    refine ⟨⟨X.Ao, X.co, Ai', ci'⟩, ?_, ?_⟩
    · simp only [devLoad, *, cond_true, cond_false]
    simp only [devLoad, *, cond_true, cond_false]
  refine Zs (Zr (Zy (y_eql (Zv rfl) (Zv rfl) rfl) (Zg rfl (Zn (Zt ?_)))))
  refine wc_cond _ rfl (fun hc15 => ?_) (fun hc15 => ?_)
  · refine Zs (Zr (Zm rfl (Zy (y_nil (Zv rfl)) (Zy (y_field 2 rfl (Zv rfl) Zf) ?_))))
    refine Zz rfl ?_
    refine wl_t (t_call rfl (fun _ _ => rfl) (fun w hi => cwaits_ok D.bcn X.Ao d.out.length X.co X.Ai d.inp.length X.ci w (hi.get Zh))) rfl ?_
    rintro _ _ ⟨_, ⟨rfl, rfl⟩, rfl⟩
    refine Zy (y_conv rfl rfl (Zv rfl) (u32_wrap_id _ (by omega) (by omega))) ?_
    refine Zg rfl (Zg rfl (Zn (Zt (Ze (Zq (Zw (ret2 (cs' := [row _ _ _, row _ _ _, row _ _ _, row _ _ _, slv _ _ _ _ _ _, slv _ _ _ _ _ _, row _ _ _, slv _ _ _ _ _ _]) (.inl rfl) Zu rfl rfl rfl ?_)))))))
    refine ⟨X, ?_, ?_⟩
    · simp only [devLoad, *, cond_true, cond_false]
    simp only [devLoad, *, cond_true, cond_false]
  refine Zs (Zr (Zy (y_eql (Zv rfl) (Zv rfl) rfl) (Zg rfl (Zn (Zt ?_)))))
  refine wc_cond _ rfl (fun hc17 => ?_) (fun hc17 => ?_)
  · refine Zs (Zr (Zm rfl (Zy (y_nil (Zv rfl)) (Zy (y_field 5 rfl (Zv rfl) Zf) ?_))))
    refine Zz rfl ?_
    refine Zg rfl (Zg rfl (Zn (Zt (Ze (Zq (Zw (ret2 (cs' := [row _ _ _, row _ _ _, row _ _ _, row _ _ _, slv _ _ _ _ _ _, slv _ _ _ _ _ _, row _ _ _, slv _ _ _ _ _ _]) (.inl rfl) Zu rfl rfl rfl ?_)))))))
    refine ⟨X, ?_, ?_⟩
    · simp only [devLoad, *, cond_true, cond_false]
    simp only [devLoad, *, cond_true, cond_false]
  refine Zs (Zr (Zy (y_eql (Zv rfl) (Zv rfl) rfl) (Zg rfl (Zn (Zt ?_)))))
  refine wc_cond _ rfl (fun hc19 => ?_) (fun hc19 => ?_)
  · refine Zs (Zr (Zm rfl (Zy (y_nil (Zv rfl)) (Zy (y_field 6 rfl (Zv rfl) Zf) ?_))))
    refine Zz rfl ?_
    refine Zg rfl (Zg rfl (Zn (Zt (Ze (Zq (Zw (ret2 (cs' := [row _ _ _, row _ _ _, row _ _ _, row _ _ _, slv _ _ _ _ _ _, slv _ _ _ _ _ _, row _ _ _, slv _ _ _ _ _ _]) (.inl rfl) Zu rfl rfl rfl ?_)))))))
    refine ⟨X, ?_, ?_⟩
    · simp only [devLoad, *, cond_true, cond_false]
    simp only [devLoad, *, cond_true, cond_false]
  refine Zs (Zr (Zy (y_eql (Zv rfl) (Zv rfl) rfl) (Zg rfl (Zn (Zt ?_)))))
  refine wc_cond _ rfl (fun hc21 => ?_) (fun hc21 => ?_)
  · refine Zs (Zr (Zm rfl (Zy (y_nil (Zv rfl)) (Zy (y_field 7 rfl (Zv rfl) Zf) ?_))))
    refine Zz rfl ?_
    refine Zg rfl (Zg rfl (Zn (Zt (Ze (Zq (Zw (ret2 (cs' := [row _ _ _, row _ _ _, row _ _ _, row _ _ _, slv _ _ _ _ _ _, slv _ _ _ _ _ _, row _ _ _, slv _ _ _ _ _ _]) (.inl rfl) Zu rfl rfl rfl ?_)))))))
    refine ⟨X, ?_, ?_⟩
    · simp only [devLoad, *, cond_true, cond_false]
    simp only [devLoad, *, cond_true, cond_false]
  refine Zc (Zo (Zt (Zs (Zr (Zg rfl (Zg rfl (Zn (Zt (Ze (ret2 (cs' := [row _ _ _, row _ _ _, row _ _ _, row _ _ _, slv _ _ _ _ _ _, slv _ _ _ _ _ _, row _ _ _, slv _ _ _ _ _ _]) (.inl rfl) Zu rfl rfl rfl ?_))))))))))
  refine ⟨X, ?_, ?_⟩
  · simp only [devLoad, *, cond_true, cond_false]
  simp only [devLoad, *, cond_true, cond_false]
set_option maxHeartbeats 1000000 in
theorem busstore_ok (D : DLoc) (L : MLoc) (M : Mem) (X : DAdr) (d : Dev) (hd : d.wf) (ho : d.out.length ≤ 1000000000) (a v : Nat) (count : Int) (w : World) (hi : Inv w (blocks (busF D L.bm X d ++ [memC L M])) (busF D L.bm X d ++ [memC L M]) w) :
    Ctr Tryz.prog 114 [.pointer (some ⟨D.bs, 0, none⟩), .int .u32 a, .int .u32 v, .int .u64 count] w (busF D L.bm X d ++ [memC L M]) (fun x cs => ∃ X', x = .bool (devStore L.n M d (devK a) v).1 ∧ cs = busF D L.bm X' (devStore L.n M d (devK a) v).2.2 ++ [memC L (devStore L.n M d (devK a) v).2.1]) := by
  obtain ⟨k, hk⟩ : ∃ k, devK a = k := ⟨_, rfl⟩
  rw [hk]
  unfold devK at hk
  refine fn_ctr Tryz.func114 rfl Tryz.ntmps114 rfl hi ?_
  refine Zs (Zr (Zg rfl (Zn (Zt (Zs (Zs (Zr (Zm rfl (Zy (y_sub (Zv rfl) (Zv rfl) hk) ?_)))))))))
  refine Zn (Zt (Zx (Zs (Zr (Zy (y_eql (Zv rfl) (Zv rfl) rfl) (Zg rfl (Zn (Zt ?_))))))))
  refine wc_cond _ rfl (fun hc3 => ?_) (fun hc3 => ?_)
  · refine Zr (Zm rfl (Zy (y_nil (Zv rfl)) (Zy (y_field 0 rfl (Zv rfl) Zf) ?_)))
    refine Zz rfl ?_
    refine Zm rfl (wl_t (t_callS ([irqC D.bi d.pend d.mask]) rfl (fun _ _ => rfl) Zi (fun w hi hin => iclear_ok D.bi d.pend d.mask v w hin)) rfl ?_)
    rintro _ _ ⟨_, ⟨rfl, rfl⟩, rfl⟩
    refine Zn (Zo (Zt (Zs (Zr (Zg rfl (Zn (Zt (Ze (qok_pick (busF D L.bm X { d with pend := bits .andNot .u32 d.pend v } ++ [memC L M]) Zj ?_)))))))))
    refine ret1 (cs' := [row _ _ _, row _ _ _, row _ _ _, row _ _ _, slv _ _ _ _ _ _, slv _ _ _ _ _ _, row _ _ _, slv _ _ _ _ _ _, exC _ _ _ _]) (.inl rfl) Zu rfl rfl ?_
    refine ⟨X, ?_, ?_⟩
    · simp only [devStore, devCmd, *, cond_true, cond_false] <;> exact rfl
    simp only [devStore, devCmd, *, cond_true, cond_false] <;> exact rfl
  refine Zs (Zr (Zy (y_eql (Zv rfl) (Zv rfl) rfl) (Zg rfl (Zn (Zt ?_)))))
  refine wc_cond _ rfl (fun hc5 => ?_) (fun hc5 => ?_)
  · refine Zr (Zm rfl (Zy (y_nil (Zv rfl)) (Zy (y_field 0 rfl (Zv rfl) Zf) ?_)))
    refine Zz rfl ?_
    refine Zm rfl (wl_t (t_callS ([irqC D.bi d.pend d.mask]) rfl (fun _ _ => rfl) Zi (fun w hi hin => isetmask_ok D.bi d.pend d.mask v w hin)) rfl ?_)
    rintro _ _ ⟨_, ⟨rfl, rfl⟩, rfl⟩
    refine Zn (Zo (Zt (Zs (Zr (Zg rfl (Zn (Zt (Ze (qok_pick (busF D L.bm X { d with mask := bits .and .u32 v 255 } ++ [memC L M]) Zj ?_)))))))))
    refine ret1 (cs' := [row _ _ _, row _ _ _, row _ _ _, row _ _ _, slv _ _ _ _ _ _, slv _ _ _ _ _ _, row _ _ _, slv _ _ _ _ _ _, exC _ _ _ _]) (.inl rfl) Zu rfl rfl ?_
    refine ⟨X, ?_, ?_⟩
    · simp only [devStore, devCmd, *, cond_true, cond_false] <;> exact rfl
    simp only [devStore, devCmd, *, cond_true, cond_false] <;> exact rfl
  refine Zs (Zr (Zy (y_eql (Zv rfl) (Zv rfl) rfl) (Zg rfl (Zn (Zt ?_)))))
  refine wc_cond _ rfl (fun hc7 => ?_) (fun hc7 => ?_)
  · refine Zr (Zm rfl (Zy (y_nil (Zv rfl)) (Zy (y_field 1 rfl (Zv rfl) Zf) ?_)))
    refine Zz rfl ?_
    refine Zm rfl (wl_t (t_callS ([timC D.bti d.timer]) rfl (fun _ _ => rfl) Zi (fun w hi hin => tset_ok D.bti d.timer v w hin)) rfl ?_)
    rintro _ _ ⟨_, ⟨rfl, rfl⟩, rfl⟩
    refine Zn (Zo (Zt (Zs (Zr (Zg rfl (Zn (Zt (Ze (qok_pick (busF D L.bm X { d with timer := v } ++ [memC L M]) Zj ?_)))))))))
    refine ret1 (cs' := [row _ _ _, row _ _ _, row _ _ _, row _ _ _, slv _ _ _ _ _ _, slv _ _ _ _ _ _, row _ _ _, slv _ _ _ _ _ _, exC _ _ _ _]) (.inl rfl) Zu rfl rfl ?_
    refine ⟨X, ?_, ?_⟩
    · simp only [devStore, devCmd, *, cond_true, cond_false] <;> exact rfl
    simp only [devStore, devCmd, *, cond_true, cond_false] <;> exact rfl
  refine Zs (Zr (Zy (y_eql (Zv rfl) (Zv rfl) rfl) (Zg rfl (Zn (Zt ?_)))))
  refine wc_cond _ rfl (fun hc9 => ?_) (fun hc9 => ?_)
  · refine Zr (Zm rfl (Zy (y_nil (Zv rfl)) (Zy (y_field 2 rfl (Zv rfl) Zf) ?_)))
    refine Zz rfl ?_
    refine Zm rfl (Zy (y_conv rfl rfl (Zv rfl) rfl) ?_)
    refine wl_t (t_callS ([conC D.bcn X.Ao d.out.length X.co X.Ai d.inp.length X.ci, b8 X.Ao X.co d.out]) rfl (fun _ _ => rfl) Zi (fun w hi hin => cwrite_ok D.bcn X.Ao X.co d.out X.Ai d.inp.length X.ci (IntKind.u8.wrap v) ho w hin)) rfl ?_
    rintro _ _ ⟨_, ⟨Ao', co', rfl, rfl⟩, rfl⟩
    refine Zn (Zo (Zt (Zs (Zr (Zg rfl (Zn (Zt (Ze (qok_pick (busF D L.bm ⟨Ao', co', X.Ai, X.ci⟩ { d with out := d.out ++ [IntKind.u8.wrap v] } ++ [memC L M]) Zj ?_)))))))))
    refine ret1 (cs' := [row _ _ _, row _ _ _, row _ _ _, row _ _ _, slv _ _ _ _ _ _, slv _ _ _ _ _ _, row _ _ _, slv _ _ _ _ _ _, exC _ _ _ _]) (.inl rfl) Zu rfl rfl ?_
    refine ⟨⟨Ao', co', X.Ai, X.ci⟩, ?_, ?_⟩
    · simp only [devStore, *, cond_true, cond_false] <;> exact rfl
    simp only [devStore, *, cond_true, cond_false] <;> exact rfl
  refine Zs (Zr (Zy (y_eql (Zv rfl) (Zv rfl) rfl) (Zg rfl (Zn (Zt ?_)))))
  refine wc_cond _ rfl (fun hc11 => ?_) (fun hc11 => ?_)
  · refine Zr (Zm rfl (Zm rfl (Zy (y_nil (Zv rfl)) (Zy (y_field 5 rfl (Zv rfl) Zf) ?_))))
    refine wl_t0 (t_store (fun _ => rfl) rfl rfl rfl Za Zp) ?_
    rintro _ _ ⟨rfl, rfl⟩
    refine Zn (Zo (Zt (Zs (Zr (Zg rfl (Zn (Zt (Ze (ret1 (cs' := [row _ _ _, row _ _ _, row _ _ _, row _ _ _, slv _ _ _ _ _ _, slv _ _ _ _ _ _, row _ _ _, slv _ _ _ _ _ _, exC _ _ _ _]) (.inl rfl) Zu rfl rfl ?_)))))))))
    refine ⟨X, ?_, ?_⟩
    · simp only [devStore, devCmd, *, cond_true, cond_false] <;> exact rfl
    simp only [devStore, devCmd, *, cond_true, cond_false] <;> exact rfl
  refine Zs (Zr (Zy (y_eql (Zv rfl) (Zv rfl) rfl) (Zg rfl (Zn (Zt ?_)))))
  refine wc_cond _ rfl (fun hc13 => ?_) (fun hc13 => ?_)
  · refine Zr (Zm rfl (Zm rfl (Zy (y_nil (Zv rfl)) (Zy (y_field 6 rfl (Zv rfl) Zf) ?_))))
    refine wl_t0 (t_store (fun _ => rfl) rfl rfl rfl Za Zp) ?_
    rintro _ _ ⟨rfl, rfl⟩
    refine Zn (Zo (Zt (Zs (Zr (Zg rfl (Zn (Zt (Ze (ret1 (cs' := [row _ _ _, row _ _ _, row _ _ _, row _ _ _, slv _ _ _ _ _ _, slv _ _ _ _ _ _, row _ _ _, slv _ _ _ _ _ _, exC _ _ _ _]) (.inl rfl) Zu rfl rfl ?_)))))))))
    refine ⟨X, ?_, ?_⟩
    · simp only [devStore, devCmd, *, cond_true, cond_false] <;> exact rfl
    simp only [devStore, devCmd, *, cond_true, cond_false] <;> exact rfl
  refine Zs (Zr (Zy (y_eql (Zv rfl) (Zv rfl) rfl) (Zg rfl (Zn (Zt ?_)))))
  refine wc_cond _ rfl (fun hc15 => ?_) (fun hc15 => ?_)
  · refine Zs (Zr (Zm rfl (Zy (y_nil (Zv rfl)) (Zy (y_field 7 rfl (Zv rfl) Zf) ?_))))
    refine wl_t0 (t_store (fun _ => rfl) rfl rfl rfl Za Zp) ?_
    rintro _ _ ⟨rfl, rfl⟩
    refine Zn (Zt (Zs (Zs (wc_draw ⟨fun j => List.elem j [17], []⟩ Zk ?_))))
    refine wa_yn 0 rfl Zk Zk Zk (y_move (Zv rfl)) rfl ?_
    refine wa_yn 1 rfl Zk Zk Zk (y_nil (Zv rfl)) rfl ?_
    refine wa_yn 2 rfl Zk Zk Zk (y_field 3 rfl (Zv rfl) Zf) rfl ?_
    refine wa_ln 3 rfl Zk Zk Zk Zk (y_load (fun _ => rfl) (Zv rfl)) (row_cell Zh rfl) rfl ?_
    refine wa_yn 4 rfl Zk Zk Zk (y_move (Zv rfl)) rfl ?_
    refine wa_yn 5 rfl Zk Zk Zk (y_nil (Zv rfl)) rfl ?_
    refine wa_yn 6 rfl Zk Zk Zk (y_field 4 rfl (Zv rfl) Zf) rfl ?_
    refine wa_ln 7 rfl Zk Zk Zk Zk (y_load (fun _ => rfl) (Zv rfl)) (row_cell Zh rfl) rfl ?_
    refine wa_yn 8 rfl Zk Zk Zk (y_move (Zv rfl)) rfl ?_
    refine wa_yn 9 rfl Zk Zk Zk (y_nil (Zv rfl)) rfl ?_
    refine wa_yn 10 rfl Zk Zk Zk (y_field 5 rfl (Zv rfl) Zf) rfl ?_
    refine wa_ln 11 rfl Zk Zk Zk Zk (y_load (fun _ => rfl) (Zv rfl)) (row_cell Zh rfl) rfl ?_
    refine wa_yn 12 rfl Zk Zk Zk (y_move (Zv rfl)) rfl ?_
    refine wa_yn 13 rfl Zk Zk Zk (y_nil (Zv rfl)) rfl ?_
    refine wa_yn 14 rfl Zk Zk Zk (y_field 6 rfl (Zv rfl) Zf) rfl ?_
    refine wa_ln 15 rfl Zk Zk Zk Zk (y_load (fun _ => rfl) (Zv rfl)) (row_cell Zh rfl) rfl ?_
    refine wa_yn 16 rfl Zk Zk Zk (y_move (Zv rfl)) rfl ?_
    refine wa_1 17 Zk ?_
    refine wi_t rfl rfl (t_callS ([driC D.bdr D.bdk, dskC D.bdk d.disk, memC L M]) rfl (fun _ _ => rfl) Zi (fun w hi hin => drido_ok D.bdr D.bdk L M d.disk hd.disk hd.diskb d.sector d.place v hd.sector hd.place w hin)) (fun _ _ _ _ _ _ _ h => by cases h) rfl ?_
    rintro _ _ ⟨_, ⟨rfl, rfl⟩, rfl⟩
    refine wa_done Zk ?_
    refine Zt ?_
    refine wc_cond _ rfl (fun hc17 => ?_) (fun hc17 => ?_)
    · refine Zr (Zm rfl (Zy (y_nil (Zv rfl)) (Zy (y_field 7 rfl (Zv rfl) Zf) ?_)))
      refine wl_t0 (t_store (fun _ => rfl) rfl rfl rfl Za Zp) ?_
      rintro _ _ ⟨rfl, rfl⟩
      refine Zn (Zt (Zr (Zm rfl (Zy (y_nil (Zv rfl)) (Zy (y_field 0 rfl (Zv rfl) Zf) ?_)))))
      refine Zz rfl ?_
      refine wl_t (t_buildSl1 rfl rfl (fun _ => rfl) (fun _ => rfl) rfl rfl) rfl ?_
      rintro _ _ ⟨b86, rfl, rfl⟩
      refine wl_t (t_callS ([irqC D.bi d.pend d.mask]) rfl (fun _ _ => rfl) Zi (fun w hi hin => iraise_ok D.bi d.pend d.mask (some ⟨b86, 0, none⟩) 1 [2] (by simp) w hin (fun w' hk => hi.rdK (show Has2 _ (irqC D.bi d.pend d.mask) (slv 3 1 (some ⟨b86, 0, none⟩) 1 1 [.int .i64 2]) from (by repeat (first | (refine .l _ ?_; repeat (first | exact .head _ _ | apply Has.tail)) | (refine .r _ ?_; repeat (first | exact .head _ _ | apply Has.tail)) | apply Has2.t))) hk))) rfl ?_
      rintro _ _ ⟨_, ⟨rfl, rfl⟩, rfl⟩
      refine Zn (Zo (Zt (Zs (Zr (Zg rfl (Zn (Zt (Ze (qok_pick (busF D L.bm X { d with disk := (driveDo L.n M d.disk d.sector d.place v).2.2, status := 0, pend := bits .or .u32 d.pend (linesOf [2]) } ++ [memC L (driveDo L.n M d.disk d.sector d.place v).2.1]) Zj ?_)))))))))
      refine ret1 (cs' := [row _ _ _, row _ _ _, row _ _ _, row _ _ _, slv _ _ _ _ _ _, slv _ _ _ _ _ _, row _ _ _, slv _ _ _ _ _ _, exC _ _ _ _]) (.inl rfl) Zu rfl rfl ?_
      refine ⟨X, ?_, ?_⟩
      · simp only [devStore, devCmd, *, cond_true, cond_false] <;> exact rfl
      simp only [devStore, devCmd, *, cond_true, cond_false] <;> exact rfl
    refine Zc (Zt (Zr (Zm rfl (Zy (y_nil (Zv rfl)) (Zy (y_field 0 rfl (Zv rfl) Zf) ?_)))))
    refine Zz rfl ?_
    refine wl_t (t_buildSl1 rfl rfl (fun _ => rfl) (fun _ => rfl) rfl rfl) rfl ?_
    rintro _ _ ⟨b86, rfl, rfl⟩
    refine wl_t (t_callS ([irqC D.bi d.pend d.mask]) rfl (fun _ _ => rfl) Zi (fun w hi hin => iraise_ok D.bi d.pend d.mask (some ⟨b86, 0, none⟩) 1 [2] (by simp) w hin (fun w' hk => hi.rdK (show Has2 _ (irqC D.bi d.pend d.mask) (slv 3 1 (some ⟨b86, 0, none⟩) 1 1 [.int .i64 2]) from (by repeat (first | (refine .l _ ?_; repeat (first | exact .head _ _ | apply Has.tail)) | (refine .r _ ?_; repeat (first | exact .head _ _ | apply Has.tail)) | apply Has2.t))) hk))) rfl ?_
    rintro _ _ ⟨_, ⟨rfl, rfl⟩, rfl⟩
    refine Zn (Zo (Zt (Zs (Zr (Zg rfl (Zn (Zt (Ze (qok_pick (busF D L.bm X { d with disk := (driveDo L.n M d.disk d.sector d.place v).2.2, status := 1, pend := bits .or .u32 d.pend (linesOf [2]) } ++ [memC L (driveDo L.n M d.disk d.sector d.place v).2.1]) Zj ?_)))))))))
    refine ret1 (cs' := [row _ _ _, row _ _ _, row _ _ _, row _ _ _, slv _ _ _ _ _ _, slv _ _ _ _ _ _, row _ _ _, slv _ _ _ _ _ _, exC _ _ _ _]) (.inl rfl) Zu rfl rfl ?_
    refine ⟨X, ?_, ?_⟩
    · simp only [devStore, devCmd, *, cond_true, cond_false] <;> exact rfl
    simp only [devStore, devCmd, *, cond_true, cond_false] <;> exact rfl
  refine Zs (Zs (Zr (Zy (y_eql (Zv rfl) (Zv rfl) rfl) (Zg rfl (Zn (Zt ?_))))))
  refine wc_cond _ rfl (fun hc20 => ?_) (fun hc20 => ?_)
  · refine Zc (Zt (wc_cond_t rfl (hc20) ?_))
    refine Zc (Zo (Zt (Zs (Zr (Zg rfl (Zn (Zt (Ze (ret1 (cs' := [row _ _ _, row _ _ _, row _ _ _, row _ _ _, slv _ _ _ _ _ _, slv _ _ _ _ _ _, row _ _ _, slv _ _ _ _ _ _, exC _ _ _ _]) (.inl rfl) Zu rfl rfl ?_)))))))))
    refine ⟨X, ?_, ?_⟩
    · simp only [devStore, devCmd, *, cond_true, cond_false] <;> exact rfl
    simp only [devStore, devCmd, *, cond_true, cond_false] <;> exact rfl
  refine Zs (Zr (Zy (y_eql (Zv rfl) (Zv rfl) rfl) (Zg rfl (Zn (Zt ?_)))))
  refine wc_cond _ rfl (fun hc21 => ?_) (fun hc21 => ?_)
  · refine Zc (Zt (wc_cond_t rfl (hc21) ?_))
    refine Zc (Zo (Zt (Zs (Zr (Zg rfl (Zn (Zt (Ze (ret1 (cs' := [row _ _ _, row _ _ _, row _ _ _, row _ _ _, slv _ _ _ _ _ _, slv _ _ _ _ _ _, row _ _ _, slv _ _ _ _ _ _, exC _ _ _ _]) (.inl rfl) Zu rfl rfl ?_)))))))))
    refine ⟨X, ?_, ?_⟩
    · simp only [devStore, devCmd, *, cond_true, cond_false] <;> exact rfl
    simp only [devStore, devCmd, *, cond_true, cond_false] <;> exact rfl
  refine Zs (Zr (Zy (y_eql (Zv rfl) (Zv rfl) rfl) (Zg rfl (Zn (Zt ?_)))))
  refine wc_cond _ rfl (fun hc22 => ?_) (fun hc22 => ?_)
  · refine Zc (Zt (wc_cond_t rfl (hc22) ?_))
    refine Zc (Zo (Zt (Zs (Zr (Zg rfl (Zn (Zt (Ze (ret1 (cs' := [row _ _ _, row _ _ _, row _ _ _, row _ _ _, slv _ _ _ _ _ _, slv _ _ _ _ _ _, row _ _ _, slv _ _ _ _ _ _, exC _ _ _ _]) (.inl rfl) Zu rfl rfl ?_)))))))))
    refine ⟨X, ?_, ?_⟩
    · simp only [devStore, devCmd, *, cond_true, cond_false] <;> exact rfl
    simp only [devStore, devCmd, *, cond_true, cond_false] <;> exact rfl
  refine Zr (Zy (y_eql (Zv rfl) (Zv rfl) rfl) (Zg rfl (Zn (Zt ?_))))
  refine wc_cond _ rfl (fun hc23 => ?_) (fun hc23 => ?_)
  · refine Zc (Zo (Zt (Zs (Zr (Zg rfl (Zn (Zt (Ze (ret1 (cs' := [row _ _ _, row _ _ _, row _ _ _, row _ _ _, slv _ _ _ _ _ _, slv _ _ _ _ _ _, row _ _ _, slv _ _ _ _ _ _, exC _ _ _ _]) (.inl rfl) Zu rfl rfl ?_)))))))))
    refine ⟨X, ?_, ?_⟩
    · simp only [devStore, devCmd, *, cond_true, cond_false] <;> exact rfl
    simp only [devStore, devCmd, *, cond_true, cond_false] <;> exact rfl
  refine Zs (Zr (Zg rfl (Zn (Zt (Ze (Zq (Zw (ret1 (cs' := [row _ _ _, row _ _ _, row _ _ _, row _ _ _, slv _ _ _ _ _ _, slv _ _ _ _ _ _, row _ _ _, slv _ _ _ _ _ _, exC _ _ _ _]) (.inl rfl) Zu rfl rfl ?_))))))))
  refine ⟨X, ?_, ?_⟩
  · simp only [devStore, devCmd, *, cond_true, cond_false] <;> exact rfl
  simp only [devStore, devCmd, *, cond_true, cond_false] <;> exact rfl
end Go.Proofs.YtobjiljkfmcalaaGreat
