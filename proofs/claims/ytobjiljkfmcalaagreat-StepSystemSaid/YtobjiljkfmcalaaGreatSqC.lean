/- A guest's parts as they begin. -/
import Derived.Test.YtobjiljkfmcalaaGreatSqB
import Derived.Test.YtobjiljkfmcalaaGreatInkS
import Derived.Test.YtobjiljkfmcalaaGreatInkK
set_option linter.unusedSimpArgs false
set_option linter.unusedVariables false
set_option maxRecDepth 100000
namespace Go.Ink
open Go.RowKit
def Dev.init (disk : List Int) : Dev := ⟨0, 0, 0, [], [], diskOf disk, 0, 0, 0⟩
end Go.Ink
namespace Go.Proofs.YtobjiljkfmcalaaGreat
open Go.RowKit Go.Ink

theorem RdSt.oldKs {w0 w w' : World} {cs cin rest : List Chunk} {s : St} {Ad Ar : Option Addr} {cd cr : Nat} (h : RdSt w0 s Ad Ar cd cr) (hi : Inv w0 [] cs w) (hp : Split cin cs rest) (hk : Keep (blocks cin) w w') : RdSt w' s Ad Ar cd cr :=
  ⟨RdV.oldKs h.d hi hp hk, RdV.oldKs h.r hi hp hk, h.hd, h.hr⟩
theorem _root_.Go.Ink.Inv.rdStKs {w0 w w' : World} {S : List Nat} {cs cin rest : List Chunk} {s : St} {Ad Ar : Option Addr} {cd cr : Nat} (hi : Inv w0 S cs w) (hp : Split cin cs rest) (h1 : Has rest (slD s Ad cd)) (h2 : Has rest (slR s Ar cr)) (hd : s.d.length * 4 ≤ 140737488355328) (hr : s.r.length * 4 ≤ 140737488355328) (hk : Keep (blocks cin) w w') : RdSt w' s Ad Ar cd cr :=
  ⟨hi.rdKs hp h1 hk, hi.rdKs hp h2 hk, hd, hr⟩
theorem busnew_ok (bm : Nat) (A : Option Addr) (c : Nat) (l : List Int) (hl : l.length ≤ 1024) (w : World) (h : Rd w .u8 A l.length c l) : Ctr Tryz.prog 33 [.pointer (some ⟨bm, 0, none⟩), .slice A l.length c] w []
    (fun v cs => ∃ D, v = .tuple #[.pointer (some ⟨D.bs, 0, none⟩), .int .i64 0] ∧ cs = busF D bm ⟨none, 0, none, 0⟩ (Dev.init l)) := by
  obtain ⟨dd, hdd⟩ : ∃ dd, diskOf l = dd := ⟨_, rfl⟩
  unfold Dev.init
  rw [hdd]
  have HD := fun w (hi : Rd w .u8 A l.length c l) => drinew_ok A c l hl w hi
  rw [hdd] at HD
  refine fn_ctr Tryz.func33 rfl Tryz.ntmps33 rfl (Inv.start w) ?_
  refine Zs (Zr (Zg rfl (Zg rfl (Zn (Zt (Zs (Zs (Zr (Zm rfl (Zy (y_pnil rfl (Zv rfl)) (Zn (Zt (wc_cond_f rfl (rfl) ?_)))))))))))))
  refine Zc (Zt (Zs (Zr (Zm rfl (wl_t (t_call rfl (fun _ _ => rfl) (fun w hi => HD w (h.oldN hi))) rfl ?_)))))
  rintro _ _ ⟨_, ⟨bdr, bdk, rfl, rfl⟩, rfl⟩
  refine Zm rfl (Zy (y_extractN (Zv rfl) (.zero _ _)) (Zy (y_extractN (Zv rfl) (.succ _ (.zero _ _))) (Zg rfl (Zg rfl (Zn (Zt (Zs (Zs (Zr (Zm rfl (Zy (y_neq (Zv rfl) (Zv rfl) rfl) (Zn (Zt (wc_cond_f rfl (rfl) ?_))))))))))))))
  refine Zc (Zt (Zs (Zr (wl_t (t_call rfl (fun _ _ => rfl) (fun w hi => irqnew_ok w)) rfl ?_))))
  rintro _ _ ⟨_, ⟨bi, rfl, rfl⟩, rfl⟩
  refine wl_t (t_call rfl (fun _ _ => rfl) (fun w hi => timnew_ok w)) rfl ?_
  rintro _ _ ⟨_, ⟨bti, rfl, rfl⟩, rfl⟩
  refine wl_t (t_call rfl (fun _ _ => rfl) (fun w hi => connew_ok w)) rfl ?_
  rintro _ _ ⟨_, ⟨bcn, rfl, rfl⟩, rfl⟩
  refine Zm rfl (Zm rfl (Zy (y_build rfl rfl (fun _ => rfl) rfl rfl rfl Zb) ?_))
  refine wl_t (t_box rfl rfl) rfl ?_
  rintro _ _ ⟨b24, rfl, rfl⟩
  refine Zg rfl (wl_nilc 5 1 ?_)
  refine wl_nilc 5 1 ?_
  refine Zg rfl (Zn (Zt (Ze (qok_pick (busF ⟨b24, bi, bti, bcn, bdr, bdk⟩ bm ⟨none, 0, none, 0⟩ ⟨0, 0, 0, [], [], dd, 0, 0, 0⟩) Zj ?_))))
  refine ret2 (cs' := [row _ _ _, row _ _ _, row _ _ _, row _ _ _, slv _ _ _ _ _ _, slv _ _ _ _ _ _, row _ _ _, slv _ _ _ _ _ _]) (.inl rfl) Zu rfl rfl rfl ?_
  exact ⟨⟨b24, bi, bti, bcn, bdr, bdk⟩, rfl, rfl⟩
set_option maxHeartbeats 1000000 in
theorem memory_ok (A : Option Addr) (c n : Nat) (l : List Int) (hn0 : 1 ≤ n) (hn : n ≤ 64) (hl : l.length ≤ n * 64) (hb : u8s l) (w : World) (h : Rd w .u8 A l.length c l) : Ctr Tryz.prog 31 [.slice A l.length c, .int .i64 n] w []
    (fun v cs => ∃ L, L.n = n ∧ v = .pointer (some ⟨L.bm, 0, none⟩) ∧ cs = [memC L (Mem.init n l)]) := by
  have HN := fun bp w (hi : Inv w (blocks [poolC bp (List.replicate 16384 0) (List.replicate 256 (-1)) (List.replicate 4 (-1))]) [poolC bp (List.replicate 16384 0) (List.replicate 256 (-1)) (List.replicate 4 (-1))] w) => nnew_ok bp (List.replicate 16384 0) (List.replicate 256 (-1)) (List.replicate 4 (-1)) ⟨List.length_replicate, List.length_replicate, rfl⟩ 0 n (by decide) hn0 hn rfl (by rw [show sumTo (List.replicate 4 (-1)) 4 = 0 from rfl]; omega) (by intro x hx; rw [List.eq_of_mem_replicate hx]; decide) w hi
  have HE := Mem.init_eq hl
  refine fn_ctr Tryz.func31 rfl Tryz.ntmps31 rfl (Inv.start w) ?_
  refine Zs (Zr (Zg rfl (Zn (Zt (Zs (Zr (wl_t (t_call rfl (fun _ _ => rfl) (fun w hi => fnew_ok w)) rfl ?_)))))))
  rintro _ _ ⟨_, ⟨bp, rfl, rfl⟩, rfl⟩
  refine Zg rfl (Zn (Zt (Zs (Zs (Zr (Zm rfl (Zy (y_pnil rfl (Zv rfl)) (Zn (Zt (wc_cond_f rfl (rfl) ?_))))))))))
  refine Zc (Zt (Zs (Zr (Zm rfl (Zm rfl (wl_t (t_callS ([poolC bp (List.replicate 16384 0) (List.replicate 256 (-1)) (List.replicate 4 (-1))]) rfl (fun _ _ => rfl) Zi (fun w hi hin => HN bp w hin)) rfl ?_))))))
  rintro _ _ ⟨_, ⟨bt, bf, bg, rfl, rfl⟩, rfl⟩
  refine Zm rfl (Zy (y_extractN (Zv rfl) (.zero _ _)) (Zy (y_extractN (Zv rfl) (.succ _ (.zero _ _))) (Zg rfl (Zg rfl (Zn (Zt (Zs (Zs (Zr (Zm rfl (Zy (y_pnil rfl (Zv rfl)) (Zm rfl (Zyn rfl rfl (y_move (Zv rfl)) ?_)))))))))))))
  refine Zyn rfl rfl (y_neq (ev_g rfl) (Zv rfl) rfl) ?_
  refine Zy (y_or (Zv rfl) (pk_no rfl (fun _ => rfl))) (Zn (Zt (wc_cond_f rfl (rfl) ?_)))
  refine Zc (Zt (Zs (Zr (Zm rfl (Zm rfl (wl_t (t_call rfl (fun _ _ => rfl) (fun w hi => rnew_ok bp bt w)) rfl ?_))))))
  rintro _ _ ⟨_, ⟨bm, rfl, rfl⟩, rfl⟩
  refine Zm rfl (Zy (y_extractN (Zv rfl) (.zero _ _)) (Zy (y_extractN (Zv rfl) (.succ _ (.zero _ _))) (Zg rfl (Zg rfl (Zn (Zt (Zs (Zs (Zr (wl_close (bs := [bp, bt, bf, bg, bm]) (F := memF ⟨bp, bt, bf, bg, bm, 0, n⟩ (List.replicate 64 false)) (hb := fun _ => rfl) (p := MemRep ⟨bp, bt, bf, bg, bm, 0, n⟩ (Mem.new n)) ⟨List.replicate 16384 0, List.replicate 256 (-1), (List.replicate 4 (-1)).set 0 n, List.replicate n (-1), List.replicate n false⟩ (MemRep.new (L := ⟨bp, bt, bf, bg, bm, 0, n⟩) (show (0 : Nat) < 4 by decide) hn0 hn) Zi ?_))))))))))
  refine Zm rfl (Zy (y_pnil rfl (Zv rfl)) (Zm rfl (Zyn rfl rfl (y_move (Zv rfl)) ?_)))
  refine Zyn rfl rfl (y_neq (ev_g rfl) (Zv rfl) rfl) ?_
  refine Zy (y_or (Zv rfl) (pk_no rfl (fun _ => rfl))) (Zm rfl (Zyn rfl rfl (y_move (Zv rfl)) ?_))
  refine Zyn rfl rfl (y_move (Zv rfl)) ?_
  refine wl_tg (guard_no rfl rfl) rfl (t_callS ([memC ⟨bp, bt, bf, bg, bm, 0, n⟩ (Mem.new n)]) rfl (fun _ _ => rfl) Zi (fun w hi hin => rload_ok ⟨bp, bt, bf, bg, bm, 0, n⟩ (Mem.new n) A c l hl hb w hin (fun w' hk => RdV.oldKs h hi Zi hk))) rfl ?_
  rintro _ _ ⟨_, ⟨rfl, rfl⟩, rfl⟩
  refine Zyn rfl rfl (y_neq (ev_g rfl) (Zv rfl) rfl) ?_
  refine Zy (y_or (Zv rfl) (pk_no rfl (fun _ => rfl))) (Zn (Zt (wc_cond_f rfl (rfl) ?_)))
  refine Zc (Zt (Zs (Zr (Zm rfl (wl_t (t_callS ([memC ⟨bp, bt, bf, bg, bm, 0, n⟩ ((Mem.new n).fill 0 l l.length)]) rfl (fun _ _ => rfl) Zi (fun w hi hin => rcalm_ok ⟨bp, bt, bf, bg, bm, 0, n⟩ ((Mem.new n).fill 0 l l.length) w hin)) rfl ?_)))))
  rintro _ _ ⟨_, ⟨rfl, rfl⟩, rfl⟩
  rw [HE]
  refine Zn (Zt (Zs (Zr (Zm rfl (Zg rfl (Zn (Zt (Ze (ret1 (cs' := [exC _ _ _ _]) (.inl rfl) Zu rfl rfl ?_)))))))))
  exact ⟨⟨bp, bt, bf, bg, bm, 0, n⟩, rfl, rfl, rfl⟩
structure _root_.Go.Ink.RMLoc where
  bm : Nat
  bB : Nat
  bT : Nat
abbrev refMF (K : RMLoc) (n : Nat) (data : List Int) (tu : List Bool) : List Chunk := [row K.bm [.slice (some ⟨K.bB, 0, none⟩) (n * 64) (n * 64), .slice (some ⟨K.bT, 0, none⟩) n n] 87, sl .u8 5 (some ⟨K.bB, 0, none⟩) (n * 64) (n * 64) data, slv 4 1 (some ⟨K.bT, 0, none⟩) n n (bools tu)]
abbrev refURow (bx bm : Nat) (T : List TE) : Chunk := row bx (.pointer (some ⟨bm, 0, none⟩) :: tlbCells T) 117
abbrev refBF (b bm bd : Nat) (Y : DAdr) (d : Dev) : List Chunk := [row b [.pointer (some ⟨bm, 0, none⟩), .int .u32 d.pend, .int .u32 d.mask, .int .u32 d.timer, .slice Y.Ao d.out.length Y.co, .slice Y.Ai d.inp.length Y.ci, .slice (some ⟨bd, 0, none⟩) 1024 1024, .int .u32 (d.sector : Int), .int .u32 (d.place : Int), .int .u32 d.status] 119, b8 Y.Ao Y.co d.out, b8 Y.Ai Y.ci d.inp, dskC bd d.disk]
theorem ref8new_ok (n : Nat) (hn : n ≤ 64) (w : World) : Ctr Tryz.prog 34 [.int .i64 n] w [] (fun v cs => ∃ K, v = .pointer (some ⟨K.bm, 0, none⟩) ∧ cs = refMF K n (List.replicate (n * 64) 0) (List.replicate n false)) := by
  refine fn_ctr Tryz.func34 rfl Tryz.ntmps34 rfl (Inv.start w) ?_
  refine Zs (Zr (Zg rfl (Zn (Zt (Zs (wc_draw ⟨fun j => List.elem j [], []⟩ Zk ?_))))))
  refine wa_yn 0 rfl Zk Zk Zk (y_move (Zv rfl)) rfl ?_
  refine wa_yn 1 rfl Zk Zk Zk (y_mul (Zv rfl) (Zv rfl) (show _ = ((n * 64 : Nat) : Int) from IntWalk.i64_in _ ⟨by omega, by omega⟩ |>.trans (by omega))) rfl ?_
  refine wa_yn 3 rfl Zk Zk Zk (y_move (Zv rfl)) rfl ?_
  refine wa_2 2 4 Zk ?_ ?_
  · refine wi_t rfl rfl (t_make (bytes := 1) (n := n * 64) rfl rfl rfl rfl rfl rfl rfl (by omega) (by simp only [maxLen]; omega)) (fun _ _ _ _ _ _ _ h => by cases h) rfl ?_
    rintro _ _ ⟨bB, rfl, rfl⟩
    refine wa_1 4 Zk ?_
    refine wi_t rfl rfl (t_make (bytes := 1) (n := n) rfl rfl rfl rfl rfl rfl rfl (by omega) (by simp only [maxLen]; omega)) (fun _ _ _ _ _ _ _ h => by cases h) rfl ?_
    rintro _ _ ⟨bT, rfl, rfl⟩
    refine wa_yn 5 rfl Zk Zk Zk (y_build rfl rfl (fun _ => rfl) rfl rfl rfl Zb) rfl ?_
    refine wa_1 6 Zk ?_
    refine wi_t rfl rfl (t_box rfl rfl) (fun _ _ _ _ _ _ _ h => by cases h) rfl ?_
    rintro _ _ ⟨b9, rfl, rfl⟩
    refine wa_yn 7 rfl Zk Zk Zk (y_assign (Zv rfl)) rfl ?_
    refine wa_done Zk ?_
    refine Zt (Ze ?_)
    rw [rep_int, rep_bool]
    refine qok_pick (refMF ⟨b9, bB, bT⟩ n (List.replicate (n * 64) 0) (List.replicate n false)) Zj ?_
    refine ret1 (cs' := [row _ _ _, slv _ _ _ _ _ _, slv _ _ _ _ _ _]) (.inl rfl) Zu rfl rfl ?_
    exact ⟨⟨b9, bB, bT⟩, rfl, rfl⟩
  refine wi_t rfl rfl (t_make (bytes := 1) (n := n) rfl rfl rfl rfl rfl rfl rfl (by omega) (by simp only [maxLen]; omega)) (fun _ _ _ _ _ _ _ h => by cases h) rfl ?_
  rintro _ _ ⟨bT, rfl, rfl⟩
  refine wa_1 2 Zk ?_
  refine wi_t rfl rfl (t_make (bytes := 1) (n := n * 64) rfl rfl rfl rfl rfl rfl rfl (by omega) (by simp only [maxLen]; omega)) (fun _ _ _ _ _ _ _ h => by cases h) rfl ?_
  rintro _ _ ⟨bB, rfl, rfl⟩
  refine wa_yn 5 rfl Zk Zk Zk (y_build rfl rfl (fun _ => rfl) rfl rfl rfl Zb) rfl ?_
  refine wa_1 6 Zk ?_
  refine wi_t rfl rfl (t_box rfl rfl) (fun _ _ _ _ _ _ _ h => by cases h) rfl ?_
  rintro _ _ ⟨b9, rfl, rfl⟩
  refine wa_yn 7 rfl Zk Zk Zk (y_assign (Zv rfl)) rfl ?_
  refine wa_done Zk ?_
  refine Zt (Ze ?_)
  rw [rep_int, rep_bool]
  refine qok_pick (refMF ⟨b9, bB, bT⟩ n (List.replicate (n * 64) 0) (List.replicate n false)) Zj ?_
  refine ret1 (cs' := [row _ _ _, slv _ _ _ _ _ _, slv _ _ _ _ _ _]) (.inl rfl) Zu rfl rfl ?_
  exact ⟨⟨b9, bB, bT⟩, rfl, rfl⟩
theorem ref10new_ok (bm : Nat) (w : World) : Ctr Tryz.prog 35 [.pointer (some ⟨bm, 0, none⟩)] w [] (fun v cs => ∃ bx, v = .pointer (some ⟨bx, 0, none⟩) ∧ cs = [refURow bx bm tflush]) := by
  refine fn_ctr Tryz.func35 rfl Tryz.ntmps35 rfl (Inv.start w) ?_
  refine Zs (Zr (Zg rfl (Zn (Zt (Zs (Zr (Zm rfl (Zy (y_build rfl rfl (fun _ => rfl) rfl rfl rfl Zb) ?_))))))))
  refine wl_t (t_box rfl rfl) rfl ?_
  rintro _ _ ⟨b5, rfl, rfl⟩
  refine Zg rfl (Zn (Zt (Ze (ret1 (cs' := [row _ _ _]) (.inl rfl) Zu rfl rfl ?_))))
  exact ⟨_, rfl, rfl⟩
theorem ref15new_ok (bm : Nat) (A : Option Addr) (c : Nat) (l : List Int) (hl : l.length ≤ 1024) (w : World) (h : Rd w .u8 A l.length c l) : Ctr Tryz.prog 36 [.pointer (some ⟨bm, 0, none⟩), .slice A l.length c] w []
    (fun v cs => ∃ b bd, v = .pointer (some ⟨b, 0, none⟩) ∧ cs = refBF b bm bd ⟨none, 0, none, 0⟩ (Dev.init l)) := by
  refine fn_ctr Tryz.func36 rfl Tryz.ntmps36 rfl (Inv.start w) ?_
  refine Zs (Zr (Zg rfl (Zn (Zt (Zs (Zr (wl_t (t_make (bytes := 1) (n := 1024) rfl rfl rfl rfl rfl rfl rfl (by omega) (by simp only [maxLen]; omega)) rfl ?_)))))))
  rintro _ _ ⟨bd, rfl, rfl⟩
  rw [rep_int]
  refine Zg rfl (Zn (Zt (Zs (Zr (Zm rfl (Zm rfl (wl_t (t_copy rfl rfl Za rfl rfl (fun w hi => h.oldN hi) ints_one (by omega)) rfl ?_)))))))
  rintro _ _ ⟨rfl, rfl⟩
  have hd : (ints .u8 (List.replicate 1024 0)).take 0 ++ (ints .u8 l).take (min l.length 1024) ++ (ints .u8 (List.replicate 1024 0)).drop (0 + min l.length 1024) = ints .u8 (diskOf l) := by (rw [Nat.min_eq_left hl, ints_take, ints_take, ints_drop, List.take_zero, List.take_length, Nat.zero_add, List.drop_replicate]; simp [ints, diskOf])
  rw [hd]
  refine Zn (Zt (Zs (Zr (Zm rfl (Zm rfl (Zy (y_build rfl rfl (fun _ => rfl) rfl rfl rfl Zb) ?_))))))
  refine wl_t (t_box rfl rfl) rfl ?_
  rintro _ _ ⟨b13, rfl, rfl⟩
  refine wl_nilc 5 1 ?_
  refine wl_nilc 5 1 ?_
  refine Zg rfl (Zn (Zt (Ze (qok_pick (refBF b13 bm bd ⟨none, 0, none, 0⟩ (Dev.init l)) Zj ?_))))
  refine ret1 (cs' := [row _ _ _, slv _ _ _ _ _ _, slv _ _ _ _ _ _, slv _ _ _ _ _ _]) (.inl rfl) Zu rfl rfl ?_
  exact ⟨b13, bd, rfl, rfl⟩
end Go.Proofs.YtobjiljkfmcalaaGreat
