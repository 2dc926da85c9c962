/- A guest's parts, and the document's, as they begin. -/
import Derived.Test.YtobjiljkfmcalaaGreatSqC
import Derived.Test.YtobjiljkfmcalaaGreatInkS
import Derived.Test.YtobjiljkfmcalaaGreatStE
set_option linter.unusedSimpArgs false
set_option linter.unusedVariables false
set_option maxRecDepth 100000
namespace Go.Ink
open Go.RowKit
/-- Where all that fresh makes lies. -/
structure FLoc where
  bw : Nat
  bu : Nat
  bb : Nat
  L : MLoc
  D : DLoc
  K : RMLoc
  bx : Nat
  by_ : Nat
  bd : Nat
def refData (n : Nat) (b : List Int) : List Int := b ++ List.replicate (n * 64 - b.length) 0
end Go.Ink
namespace Go.Proofs.YtobjiljkfmcalaaGreat
open Go.RowKit Go.Ink

abbrev worldRow (F : FLoc) : Chunk := row F.bw [.pointer (some ⟨F.bu, 0, none⟩), .pointer (some ⟨F.D.bs, 0, none⟩), .pointer (some ⟨F.L.bm, 0, none⟩), .pointer (some ⟨F.bx, 0, none⟩), .pointer (some ⟨F.by_, 0, none⟩)] 45
/-- The program's parts. -/
abbrev worldP (F : FLoc) (Y : DAdr) (U : Mmu) (d : Dev) : List Chunk := ubF F.bu F.bb F.L F.D Y U d
/-- The document's parts. -/
abbrev worldR (F : FLoc) (Y : DAdr) (data : List Int) (tu : List Bool) (T : List TE) (d : Dev) : List Chunk := refMF F.K F.L.n data tu ++ [refURow F.bx F.K.bm T] ++ refBF F.by_ F.K.bm F.bd Y d
set_option maxHeartbeats 1000000 in
theorem fresh_ok (A B : Option Addr) (c e n : Nat) (l k : List Int) (hn0 : 1 ≤ n) (hn : n ≤ 64) (hl : l.length ≤ n * 64) (hb : u8s l) (hk : k.length ≤ 1024) (w : World) (h : Rd w .u8 A l.length c l) (hB : Rd w .u8 B k.length e k) :
    Ctr Tryz.prog 12 [.slice A l.length c, .slice B k.length e, .int .i64 n] w []
    (fun v cs => ∃ F, F.L.n = n ∧ v = .pointer (some ⟨F.bw, 0, none⟩) ∧ cs = worldRow F :: (worldP F ⟨none, 0, none, 0⟩ ⟨Mem.init n l, tflush⟩ (Dev.init k) ++ worldR F ⟨none, 0, none, 0⟩ (refData n l) (List.replicate n false) tflush (Dev.init k))) := by
  obtain ⟨M, hM⟩ : ∃ M, Mem.init n l = M := ⟨_, rfl⟩
  obtain ⟨d, hd⟩ : ∃ d, Dev.init k = d := ⟨_, rfl⟩
  have H1 := fun w h => memory_ok A c n l hn0 hn hl hb w h
  have H2 := fun bm w h => busnew_ok bm B e k hk w h
  have H3 := fun bm w h => ref15new_ok bm B e k hk w h
  rw [hd] at H2 H3 ⊢
  rw [hM] at H1 ⊢
  refine fn_ctr Tryz.func12 rfl Tryz.ntmps12 rfl (Inv.start w) ?_
  refine Zs (Zr (Zg rfl (Zn (Zt (Zs (Zr (Zm rfl (Zm rfl (wl_t (t_call rfl (fun _ _ => rfl) (fun w hi => H1 w (h.oldN hi))) rfl ?_)))))))))
  rintro _ _ ⟨_, ⟨L, rfl, rfl, rfl⟩, rfl⟩
  refine Zg rfl (Zn (Zt (Zs (Zs (Zr (Zm rfl (Zy (y_pnil rfl (Zv rfl)) (Zn (Zt (wc_cond_f rfl (rfl) ?_))))))))))
  refine Zc (Zt (Zs (Zr (Zm rfl (wl_t (t_call rfl (fun _ _ => rfl) (fun w hi => mmunew_ok L.bm w)) rfl ?_)))))
  rintro _ _ ⟨_, ⟨bu, bb, rfl, rfl⟩, rfl⟩
  refine Zm rfl (Zy (y_extractN (Zv rfl) (.zero _ _)) (Zy (y_extractN (Zv rfl) (.succ _ (.zero _ _))) (Zg rfl (Zg rfl (Zn (Zt (Zs (Zr (Zm rfl (Zm rfl (wl_t (t_call rfl (fun _ _ => rfl) (fun w hi => H2 L.bm w (hB.oldN hi))) rfl ?_)))))))))))
  rintro _ _ ⟨_, ⟨D, rfl, rfl⟩, rfl⟩
  refine Zm rfl (Zy (y_extractN (Zv rfl) (.zero _ _)) (Zy (y_extractN (Zv rfl) (.succ _ (.zero _ _))) (Zg rfl (Zg rfl (Zn (Zt (Zs (Zs (Zr (Zm rfl (Zy (y_pnil rfl (Zv rfl)) (Zm rfl (Zyn rfl rfl (y_move (Zv rfl)) ?_)))))))))))))
  refine Zyn rfl rfl (y_pnil rfl (ev_g rfl)) ?_
  refine Zy (y_or (Zv rfl) (pk_no rfl (fun _ => rfl))) (Zm rfl (Zyn rfl rfl (y_move (Zv rfl)) ?_))
  refine Zyn rfl rfl (y_neq (ev_g rfl) (Zv rfl) rfl) ?_
  refine Zy (y_or (Zv rfl) (pk_no rfl (fun _ => rfl))) (Zm rfl (Zyn rfl rfl (y_move (Zv rfl)) ?_))
  refine Zyn rfl rfl (y_neq (ev_g rfl) (Zv rfl) rfl) ?_
  refine Zy (y_or (Zv rfl) (pk_no rfl (fun _ => rfl))) (Zn (Zt (wc_cond_f rfl (rfl) ?_)))
  refine Zc (Zt (Zs (Zr (Zm rfl (wl_t (t_call rfl (fun _ _ => rfl) (fun w hi => ref8new_ok L.n hn w)) rfl ?_)))))
  rintro _ _ ⟨_, ⟨K, rfl, rfl⟩, rfl⟩
  refine Zg rfl (Zn (Zt (Zs (Zr (Zm rfl (Zy (y_nil (Zv rfl)) (Zy (y_field 0 rfl (Zv rfl) Zf) ?_)))))))
  refine Zz rfl ?_
  refine Zm rfl (wl_t (t_copy rfl rfl Za rfl rfl (fun w hi => h.oldN hi) ints_one (by omega)) rfl ?_)
  rintro _ _ ⟨rfl, rfl⟩
  have hd2 : (ints .u8 (List.replicate (L.n * 64) 0)).take 0 ++ (ints .u8 l).take (min l.length (L.n * 64)) ++ (ints .u8 (List.replicate (L.n * 64) 0)).drop (0 + min l.length (L.n * 64)) = ints .u8 (refData L.n l) := by (rw [Nat.min_eq_left hl, ints_take, ints_take, ints_drop, List.take_zero, List.take_length, Nat.zero_add, List.drop_replicate]; simp [ints, refData])
  rw [hd2]
  refine Zn (Zt (Zs (Zr (Zm rfl (Zm rfl (Zm rfl (Zm rfl (wl_t (t_call rfl (fun _ _ => rfl) (fun w hi => ref10new_ok K.bm w)) rfl ?_))))))))
  rintro _ _ ⟨_, ⟨bx, rfl, rfl⟩, rfl⟩
  refine Zm rfl (Zm rfl (wl_t (t_call rfl (fun _ _ => rfl) (fun w hi => H3 K.bm w (hB.oldN hi))) rfl ?_))
  rintro _ _ ⟨_, ⟨by_, bd, rfl, rfl⟩, rfl⟩
  refine Zy (y_build rfl rfl (fun _ => rfl) rfl rfl rfl Zb) ?_
  refine wl_t (t_box rfl rfl) rfl ?_
  rintro _ _ ⟨b60, rfl, rfl⟩
  refine Zg rfl (Zn (Zt (Ze (qok_pick (worldRow ⟨b60, bu, bb, L, D, K, bx, by_, bd⟩ :: (worldP ⟨b60, bu, bb, L, D, K, bx, by_, bd⟩ ⟨none, 0, none, 0⟩ ⟨M, tflush⟩ d ++ worldR ⟨b60, bu, bb, L, D, K, bx, by_, bd⟩ ⟨none, 0, none, 0⟩ (refData L.n l) (List.replicate L.n false) tflush d)) Zj ?_))))
  refine ret1 (cs' := [row _ _ _, row _ _ _, exC _ _ _ _, row _ _ _, row _ _ _, row _ _ _, row _ _ _, row _ _ _, slv _ _ _ _ _ _, slv _ _ _ _ _ _, row _ _ _, slv _ _ _ _ _ _, row _ _ _, slv _ _ _ _ _ _, slv _ _ _ _ _ _, row _ _ _, row _ _ _, slv _ _ _ _ _ _, slv _ _ _ _ _ _, slv _ _ _ _ _ _]) (.inl rfl) Zu rfl rfl ?_
  exact ⟨⟨b60, bu, bb, L, D, K, bx, by_, bd⟩, rfl, rfl, rfl⟩
end Go.Proofs.YtobjiljkfmcalaaGreat
