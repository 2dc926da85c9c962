/- The drive's command; the bus. -/
import Derived.Test.YtobjiljkfmcalaaGreatSpL
import Derived.Test.YtobjiljkfmcalaaGreatInkS
set_option linter.unusedSimpArgs false
set_option linter.unusedVariables false
set_option maxRecDepth 100000
namespace Go.Ink
open Go.RowKit
theorem natBeq (n k : Nat) : ((n : Int) == ((k : Nat) : Int)) = (n == k) := by rw [Bool.eq_iff_iff]; simp; omega
theorem natBne (n k : Nat) : ((n : Int) != ((k : Nat) : Int)) = (n != k) := by rw [Bool.eq_iff_iff]; simp; omega
theorem drive_cond (n sector a : Nat) : (((false || decide ((16 : Int) ≤ sector)) || (((a % 64 : Nat) : Int) != ((0 : Nat) : Int))) || decide (((n * 64 : Nat) : Int) ≤ a)) = !driveOk n sector a := by
  unfold driveOk
  rw [Bool.not_not, Bool.false_or, natBne, show decide ((16 : Int) ≤ sector) = decide (16 ≤ sector) from decide_eq_decide.2 (by omega), show decide (((n * 64 : Nat) : Int) ≤ a) = decide (n * 64 ≤ a) from decide_eq_decide.2 (by omega)]
theorem disk_rd {w : World} {bk sector : Nat} {disk : List Int} (h : RdV w 1 (some ⟨bk, 0, none⟩) 1024 1024 (ints .u8 disk)) (hs : sector < 16) : Rd w .u8 (some ⟨bk, sector * 64, none⟩) 64 (1024 - sector * 64) ((disk.drop (sector * 64)).take 64) := by
  have h1 := h.cut (lo := sector * 64) (hi := sector * 64 + 64) (by omega) (by omega)
  rw [if_neg (by omega), Option.map_some, Addr.add_lit, Nat.mul_one, Nat.zero_add, ints_take, ints_drop, show sector * 64 + 64 - sector * 64 = 64 by omega, List.drop_take, show sector * 64 + 64 - sector * 64 = 64 by omega] at h1
  exact h1
end Go.Ink
namespace Go.Proofs.YtobjiljkfmcalaaGreat
open Go.RowKit Go.Ink

set_option maxHeartbeats 1000000 in
theorem drido_ok (bd bk : Nat) (L : MLoc) (M : Mem) (disk : List Int) (hk : disk.length = 1024) (hkb : u8s disk) (sector a cmd : Nat) (hs : sector ≤ 4294967295) (ha : a ≤ 4294967295) (w : World) (hi : Inv w (blocks [driC bd bk, dskC bk disk, memC L M]) [driC bd bk, dskC bk disk, memC L M] w) :
    Ctr Tryz.prog 139 [.pointer (some ⟨bd, 0, none⟩), .pointer (some ⟨L.bm, 0, none⟩), .int .u32 sector, .int .u32 a, .int .u32 cmd] w [driC bd bk, dskC bk disk, memC L M] (fun v cs => v = .bool (driveDo L.n M disk sector a cmd).1 ∧ cs = [driC bd bk, dskC bk (driveDo L.n M disk sector a cmd).2.2, memC L (driveDo L.n M disk sector a cmd).2.1]) := by
  obtain ⟨n1, n64, hdl, hdb, htl⟩ := mem_n (hi.ok (memC L M) (by simp))
  refine fn_ctr Tryz.func139 rfl Tryz.ntmps139 rfl hi ?_
  refine Zs (Zr (Zg rfl (Zn (Zt (Zs (Zs (Zr (Zm rfl (Zy (y_pnil rfl (Zv rfl)) (Zm rfl (Zyn rfl rfl (y_move (Zv rfl)) ?_)))))))))))
  refine Zyn rfl rfl (y_geq (ev_g rfl) (Zv rfl) rfl) ?_
  refine Zy (y_or (Zv rfl) (pk_no rfl (fun _ => rfl))) (Zm rfl (Zyn rfl rfl (y_move (Zv rfl)) ?_))
  refine Zyn rfl rfl (y_rem (ev_g rfl) (Zv rfl) (by omega) (show _ = ((a % 64 : Nat) : Int) from by rw [Int.tmod_eq_emod_of_nonneg (by omega)]; omega)) ?_
  refine Zyn rfl rfl (y_neq (ev_g rfl) (Zv rfl) rfl) ?_
  refine Zy (y_or (Zv rfl) (pk_no rfl (fun _ => rfl))) (Zm rfl (Zyn rfl rfl (y_move (Zv rfl)) ?_))
  refine Zyn rfl rfl (y_move (Zv rfl)) ?_
  refine wl_callg (guard_no rfl rfl) (.cons (ev_g rfl) .nil) (fun _ _ => rfl) (fun hg w hi => rsize_ok L M w (hi.get (show Has _ (memC L M) from Zh))) rfl ?_
  refine Zyn rfl rfl (y_geq (ev_g rfl) (ev_g rfl) rfl) ?_
  refine Zy (y_or (Zv rfl) (pk_no rfl (fun _ => rfl))) (Zn (Zt ?_))
  refine wc_cond _ rfl (fun hc1 => ?_) (fun hc1 => ?_)
  · have hno : driveOk L.n sector a = false := by (have h2 := (drive_cond L.n sector a).symm.trans hc1; simpa using h2)
    have hdo : driveDo L.n M disk sector a cmd = (false, M, disk) := by (unfold driveDo; rw [hno]; rfl)
    rw [hdo]
    refine Zs (Zr (Zg rfl (Zn (Zt (Ze (Zw (ret1 (cs' := [row _ _ _, slv _ _ _ _ _ _, exC _ _ _ _]) (.inl rfl) Zu rfl rfl ?_)))))))
    exact ⟨rfl, rfl⟩
  have hyes : driveOk L.n sector a = true := by (have h2 := (drive_cond L.n sector a).symm.trans hc1; simpa using h2)
  have hf : sector < 16 ∧ a % 64 = 0 ∧ a < L.n * 64 := by (unfold driveOk at hyes; simp only [Bool.not_eq_true', Bool.or_eq_false_iff, decide_eq_false_iff_not, bne_eq_false_iff_eq] at hyes; omega)
  obtain ⟨s16, am, an⟩ := hf
  have hdo : driveDo L.n M disk sector a cmd = bif cmd == 1 then (true, M.fill (a / 64 * 64) ((disk.drop (sector * 64)).take 64) 64, disk) else bif cmd == 2 then (true, M, disk.take (sector * 64) ++ (M.data.drop (a / 64 * 64)).take 64 ++ disk.drop (sector * 64 + 64)) else (false, M, disk) := by (unfold driveDo; rw [hyes]; rfl)
  rw [hdo]
  have hsl : ((disk.drop (sector * 64)).take 64).length = 64 := by (rw [List.length_take, List.length_drop]; omega)
  refine Zc (Zt (Zs (Zr (Zm rfl (Zy (y_nil (Zv rfl)) (Zy (y_field 0 rfl (Zv rfl) Zf) ?_))))))
  refine Zz rfl ?_
  refine Zm rfl (Zy (y_mul (Zv rfl) (Zv rfl) (show _ = ((sector * 64 : Nat) : Int) from (u32_wrap_id _ (by omega) (by omega)).trans (by omega))) ?_)
  refine Zm rfl (Zy (y_add (Zv rfl) (Zv rfl) (show _ = ((sector + 1 : Nat) : Int) from (u32_wrap_id _ (by omega) (by omega)).trans (by omega))) ?_)
  refine Zy (y_mul (Zv rfl) (Zv rfl) (show _ = ((sector * 64 + 64 : Nat) : Int) from (u32_wrap_id _ (by omega) (by omega)).trans (by omega))) ?_
  refine Zy (y_sliceS (sz := 1) (lo := sector * 64) (hi := sector * 64 + 64) (r := sector * 64) rfl (fun _ => rfl) (Zv rfl) (.inr ⟨_, _, rfl, (Zv rfl)⟩) (.inr ⟨_, _, rfl, (Zv rfl)⟩) (by omega) (by omega) (by omega) (by omega)) ?_
  refine Zg rfl (Zn (Zt (Zs (Zr (Zm rfl (Zy (y_quo (Zv rfl) (Zv rfl) (by omega) (show _ = ((a / 64 : Nat) : Int) from by rw [Int.tdiv_eq_ediv_of_nonneg (by omega), u32_wrap_id _ (by omega) (by omega)]; omega)) ?_))))))
  refine Zy (y_conv rfl rfl (Zv rfl) Zl) ?_
  refine Zg rfl (Zn (Zt (Zs (Zs (Zr ?_)))))
  rw [show sector * 64 + 64 - sector * 64 = 64 by omega]
  refine Zm rfl (Zn (Zt (Zx (Zs (Zr (Zy (y_eql (Zv rfl) (Zv rfl) rfl) (Zg rfl (Zn (Zt ?_)))))))))
  refine wc_cond _ rfl (fun hc6 => ?_) (fun hc6 => ?_)
  · have hcm : (cmd == 1) = true := (natBeq cmd 1).symm.trans hc6
    rw [hcm]
    simp only [cond_true]
    refine Zs (Zr (Zm rfl (Zm rfl (Zm rfl ?_))))
    refine wl_t (t_callS ([memC L M]) rfl (fun _ _ => rfl) Zi (fun w hi hin => rputpage_ok L M (a / 64) (by omega) (some ⟨bk, sector * 64, none⟩) (1024 - sector * 64) ((disk.drop (sector * 64)).take 64) hsl (fun x hx => hkb x (List.mem_of_mem_drop (List.mem_of_mem_take hx))) w hin (fun w' hk => disk_rd (hi.rdK (show Has2 _ (memC L M) (dskC bk disk) from (by repeat (first | (refine .l _ ?_; repeat (first | exact .head _ _ | apply Has.tail)) | (refine .r _ ?_; repeat (first | exact .head _ _ | apply Has.tail)) | apply Has2.t))) hk) s16))) rfl ?_
    rintro _ _ ⟨_, ⟨rfl, rfl⟩, rfl⟩
    refine Zg rfl (Zn (Zt (Ze (Zq (Zw (qok_pick [driC bd bk, dskC bk disk, memC L (M.fill (a / 64 * 64) ((disk.drop (sector * 64)).take 64) 64)] Zj ?_))))))
    refine ret1 (cs' := [row _ _ _, slv _ _ _ _ _ _, exC _ _ _ _]) (.inl rfl) Zu rfl rfl ?_
    exact ⟨rfl, rfl⟩
  have hcm : (cmd == 1) = false := (natBeq cmd 1).symm.trans hc6
  rw [hcm]
  simp only [cond_false]
  refine Zs (Zr (Zy (y_eql (Zv rfl) (Zv rfl) rfl) (Zg rfl (Zn (Zt ?_)))))
  refine wc_cond _ rfl (fun hc8 => ?_) (fun hc8 => ?_)
  · have hcm2 : (cmd == 2) = true := (natBeq cmd 2).symm.trans hc8
    rw [hcm2]
    simp only [cond_true]
    refine Zs (Zr (Zm rfl (Zm rfl (wl_t (t_call rfl (fun _ _ => rfl) (fun w hi => rpage_ok L M (a / 64) (by omega) w (hi.get (show Has _ (memC L M) from Zh)))) rfl ?_))))
    rintro _ _ ⟨_, ⟨bq, rfl, rfl⟩, rfl⟩
    refine Zm rfl (Zy (y_extractN (Zv rfl) (.zero _ _)) (Zy (y_extractN (Zv rfl) (.succ _ (.zero _ _))) (Zg rfl (Zg rfl (Zn (Zt (Zs (Zr (Zm rfl (Zm rfl (wl_t (t_copy rfl rfl Za rfl rfl (fun w hi => hi.rd (show Has _ (sl .u8 5 (some ⟨bq, 0, none⟩) 64 64 ((M.data.drop (a / 64 * 64)).take 64)) from Zh)) ints_one (by omega)) rfl ?_)))))))))))
    rintro _ _ ⟨rfl, rfl⟩
    rw [show (ints .u8 disk).take (sector * 64) ++ (ints .u8 ((M.data.drop (a / 64 * 64)).take 64)).take (min 64 64) ++ (ints .u8 disk).drop (sector * 64 + min 64 64) = ints .u8 (disk.take (sector * 64) ++ (M.data.drop (a / 64 * 64)).take 64 ++ disk.drop (sector * 64 + 64)) from by (rw [Nat.min_self, ints_take, ints_take, ints_drop, ints_append, ints_append, List.take_take, Nat.min_self])]
    refine Zn (Zt (Zs (Zr (Zm rfl (Zg rfl (Zn (Zt (Ze (Zq (Zw (ret1 (cs' := [row _ _ _, slv _ _ _ _ _ _, exC _ _ _ _]) (.inl rfl) Zu rfl rfl ?_)))))))))))
    exact ⟨rfl, rfl⟩
  have hcm2 : (cmd == 2) = false := (natBeq cmd 2).symm.trans hc8
  rw [hcm2]
  simp only [cond_false]
  refine Zc (Zo (Zt (Zs (Zr (Zg rfl (Zn (Zt (Ze (ret1 (cs' := [row _ _ _, slv _ _ _ _ _ _, exC _ _ _ _]) (.inl rfl) Zu rfl rfl ?_)))))))))
  exact ⟨rfl, rfl⟩
end Go.Proofs.YtobjiljkfmcalaaGreat
