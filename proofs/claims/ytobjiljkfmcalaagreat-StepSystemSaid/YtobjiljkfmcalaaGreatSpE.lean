/- A guest's memory: size, bytes, words, pages. -/
import Derived.Test.YtobjiljkfmcalaaGreatSpD
set_option linter.unusedSimpArgs false
set_option linter.unusedVariables false
set_option maxRecDepth 100000
namespace Go.Ink
open Go.RowKit
def gB (d : List Int) (a : Nat) : Int := d.getD a 0
theorem gB_at {d : List Int} {a : Nat} (h : a < d.length) : d[a]? = some (gB d a) := by simp [gB, h]
theorem gB_rng {d : List Int} (h : u8s d) (a : Nat) : 0 ≤ gB d a ∧ gB d a ≤ 255 := by
  unfold gB
  by_cases hl : a < d.length
  · rw [List.getD_eq_getElem?_getD, List.getElem?_eq_getElem hl]; exact h _ (List.getElem_mem hl)
  · rw [List.getD_eq_getElem?_getD, List.getElem?_eq_none (by omega)]; simp
/-- Four bytes as a word, the low one first; as far as the k-th from above. -/
def wFrom (d : List Int) (a : Nat) : Nat → Int
  | 0 => 0
  | k + 1 => wFrom d a k * 256 + gB d (a + (3 - k))
def wordAt (d : List Int) (a : Nat) : Int := gB d a + 256 * gB d (a + 1) + 65536 * gB d (a + 2) + 16777216 * gB d (a + 3)
theorem wFrom_four (d : List Int) (a : Nat) : wFrom d a 4 = wordAt d a := by
  simp [wFrom, wordAt]
  omega
theorem wFrom_rng {d : List Int} (h : u8s d) (a : Nat) : ∀ k, 0 ≤ wFrom d a k ∧ wFrom d a k < 256 ^ k
  | 0 => by simp [wFrom]
  | k + 1 => by
    have h1 := wFrom_rng h a k
    have h2 := gB_rng h (a + (3 - k))
    simp only [wFrom, Int.pow_succ]
    omega
theorem wordAt_u32 {d : List Int} (h : u8s d) (a : Nat) : u32 (wordAt d a) := by
  have h1 := gB_rng h a
  have h2 := gB_rng h (a + 1)
  have h3 := gB_rng h (a + 2)
  have h4 := gB_rng h (a + 3)
  unfold wordAt
  exact ⟨by omega, by omega⟩
theorem wFrom_step {d : List Int} (h : u8s d) (a : Nat) {k : Nat} (hk : k < 4) : bits .or .u32 (IntKind.u32.wrap (wFrom d a k * 2 ^ (min (8 : Int).toNat IntKind.u32.bits))) (gB d (a + (3 - k))) = wFrom d a (k + 1) := by
  have h1 := wFrom_rng h a k
  have h2 := gB_rng h (a + (3 - k))
  simp only [wFrom]
  generalize wFrom d a k = v at h1
  have hv : 0 ≤ v ∧ v < 16777216 := by
    obtain rfl | rfl | rfl | rfl : k = 0 ∨ k = 1 ∨ k = 2 ∨ k = 3 := by omega
    all_goals (simp at h1; omega)
  have e1 : (2 : Int) ^ (min (8 : Int).toNat IntKind.u32.bits) = 256 := rfl
  rw [e1, u32_wrap_id _ (by omega) (by omega)]
  exact bits_join .u32 32 (by decide) wraps_u32 8 (v * 256) _ (by omega) (by omega) (by omega) (by omega) (by omega) (by omega)
/-- The k-th byte of a word. -/
def wbyte (v : Int) (k : Nat) : Int := v / 256 ^ k % 256
theorem wbyte_rng (v : Int) (k : Nat) : 0 ≤ wbyte v k ∧ wbyte v k ≤ 255 := by unfold wbyte; omega
theorem wbyte_shr (v : Int) {k : Nat} (hk : k < 4) : IntKind.u8.wrap (v.fdiv (2 ^ (min (IntKind.u32.wrap (8 * (k : Int))).toNat IntKind.u32.bits))) = wbyte v k := by
  have e : ∀ n : Nat, v.fdiv (2 ^ n) = v / 2 ^ n := fun n => Int.fdiv_eq_ediv_of_nonneg v (by exact Int.le_of_lt (Int.pow_pos (by decide)))
  rw [e, IntKind.wrap_u8]
  unfold wbyte
  obtain rfl | rfl | rfl | rfl : k = 0 ∨ k = 1 ∨ k = 2 ∨ k = 3 := by omega
  all_goals rfl
/-- So many bytes of a word are put. -/
def Mem.putTo (M : Mem) (a : Nat) (v : Int) : Nat → Mem
  | 0 => M
  | k + 1 => (Mem.putTo M a v k).put (a + k) (wbyte v k)
def Mem.putW (M : Mem) (a : Nat) (v : Int) : Mem := M.putTo a v 4
/-- Bytes are put, one behind the other. -/
def Mem.fill (M : Mem) (a : Nat) (l : List Int) : Nat → Mem
  | 0 => M
  | k + 1 => (Mem.fill M a l k).put (a + k) (gB l k)
theorem put_dl (M : Mem) (a : Nat) (b : Int) : (M.put a b).data.length = M.data.length := by simp [Mem.put]
theorem putTo_dl (M : Mem) (a : Nat) (v : Int) : ∀ k, (M.putTo a v k).data.length = M.data.length
  | 0 => rfl
  | k + 1 => by rw [Mem.putTo, put_dl, putTo_dl]
theorem fill_dl (M : Mem) (a : Nat) (l : List Int) : ∀ k, (M.fill a l k).data.length = M.data.length
  | 0 => rfl
  | k + 1 => by rw [Mem.fill, put_dl, fill_dl]
end Go.Ink
namespace Go.Proofs.YtobjiljkfmcalaaGreat
open Go.RowKit Go.Ink

theorem rsize_ok (L : MLoc) (M : Mem) (w : World) (h : (memC L M).ok w) : Ctr Tryz.prog 54 [.pointer (some ⟨L.bm, 0, none⟩)] w [] (fun v cs => v = .int .u32 (L.n * 64 : Nat) ∧ cs = []) := by
  obtain ⟨k, hr, h1, h2, h3, h4⟩ := mem_ok h
  have n64 := hr.n64
  refine fn_ctr Tryz.func54 rfl Tryz.ntmps54 rfl (Inv.start w) ?_
  refine wc_seq ?_
  refine wc_region ?_
  refine wl_y (y_assign (ev_rfl rfl)) (fun _ _ => trivial) rfl ?_
  refine wl_nil ?_
  refine q_then ?_
  refine wc_seq ?_
  refine wc_region ?_
  refine wl_y (y_move (ev_rfl rfl)) (fun _ _ => trivial) rfl ?_
  refine wl_y (y_nil (ev_rfl rfl)) (fun _ _ => trivial) rfl ?_
  refine wl_y (y_field 1 rfl (ev_rfl rfl) (by first | exact Nat.zero_add _ | exact rfl)) (fun _ _ => trivial) rfl ?_
  refine wl_y (y_load (fun _ => rfl) (ev_rfl rfl)) (old_row (by assumption) rfl) rfl ?_
  refine wl_t (t_call rfl (fun _ _ => rfl) (fun w hi => pages_ok L.bt L.bp L.o L.bf L.bg L.n w (Chunk.old h2 hi))) rfl ?_
  rintro _ _ ⟨_, ⟨rfl, rfl⟩, rfl⟩
  refine wl_y (y_conv rfl rfl (ev_rfl rfl) rfl) (fun _ _ => trivial) rfl ?_
  refine wl_y (y_mul (ev_rfl rfl) (ev_rfl rfl) (show IntKind.u32.wrap ((IntKind.u32.wrap (L.n : Int)) * 64) = ((L.n * 64 : Nat) : Int) by rw [u32_wrap_id (L.n : Int) (by omega) (by omega), u32_wrap_id _ (by omega) (by omega)]; omega)) (fun _ _ => trivial) rfl ?_
  refine wl_y (y_assign (ev_rfl rfl)) (fun _ _ => trivial) rfl ?_
  refine wl_nil ?_
  refine q_then ?_
  refine wc_ret ?_
  refine ret1 (cs' := []) (.inl rfl) (by ((repeat (first | exact List.Sublist.slnil | refine List.Sublist.cons_cons _ ?_ | refine List.Sublist.cons _ ?_)))) rfl rfl ?_
  exact ⟨rfl, rfl⟩
theorem split_ok (a : Nat) (ha : a ≤ 4294967295) (w : World) : Ctr Tryz.prog 93 [.int .u32 a] w [] (fun v cs => v = .tuple #[.int .i64 (a / 64 : Nat), .int .i64 (a % 64 : Nat)] ∧ cs = []) := by
  refine fn_ctr Tryz.func93 rfl Tryz.ntmps93 rfl (Inv.start w) ?_
  refine wc_seq ?_
  refine wc_region ?_
  refine wl_y (y_assign (ev_rfl rfl)) (fun _ _ => trivial) rfl ?_
  refine wl_y (y_assign (ev_rfl rfl)) (fun _ _ => trivial) rfl ?_
  refine wl_nil ?_
  refine q_then ?_
  refine wc_seq ?_
  refine wc_region ?_
  refine wl_y (y_move (ev_rfl rfl)) (fun _ _ => trivial) rfl ?_
  refine wl_y (y_quo (ev_rfl rfl) (ev_rfl rfl) (by omega) (show _ = ((a / 64 : Nat) : Int) from by rw [Int.tdiv_eq_ediv_of_nonneg (by omega), u32_wrap_id _ (by omega) (by omega)]; omega)) (fun _ _ => trivial) rfl ?_
  refine wl_y (y_conv rfl rfl (ev_rfl rfl) (by first | exact IntWalk.i64_in _ ⟨by omega, by omega⟩ | exact rfl)) (fun _ _ => trivial) rfl ?_
  refine wl_y (y_move (ev_rfl rfl)) (fun _ _ => trivial) rfl ?_
  refine wl_y (y_rem (ev_rfl rfl) (ev_rfl rfl) (by omega) (show _ = ((a % 64 : Nat) : Int) from by rw [Int.tmod_eq_emod_of_nonneg (by omega)]; omega)) (fun _ _ => trivial) rfl ?_
  refine wl_y (y_conv rfl rfl (ev_rfl rfl) (by first | exact IntWalk.i64_in _ ⟨by omega, by omega⟩ | exact rfl)) (fun _ _ => trivial) rfl ?_
  refine wl_y (y_assign (ev_rfl rfl)) (fun _ _ => trivial) rfl ?_
  refine wl_y (y_assign (ev_rfl rfl)) (fun _ _ => trivial) rfl ?_
  refine wl_nil ?_
  refine q_then ?_
  refine wc_ret ?_
  refine ret2 (cs' := []) (.inl rfl) (by ((repeat (first | exact List.Sublist.slnil | refine List.Sublist.cons_cons _ ?_ | refine List.Sublist.cons _ ?_)))) rfl rfl rfl ?_
  exact ⟨rfl, rfl⟩
theorem ris_ok (L : MLoc) (M : Mem) (a n : Nat) (ha : a ≤ 4294967295) (hn : n ≤ 1000) (w : World) (h : (memC L M).ok w) : Ctr Tryz.prog 129 [.pointer (some ⟨L.bm, 0, none⟩), .int .u32 a, .int .i64 n] w [] (fun v cs => v = .bool (decide (a + n ≤ L.n * 64)) ∧ cs = []) := by
  obtain ⟨k, hr, _⟩ := mem_ok h
  have n64 := hr.n64
  refine fn_ctr Tryz.func129 rfl Tryz.ntmps129 rfl (Inv.start w) ?_
  refine wc_seq ?_
  refine wc_region ?_
  refine wl_y (y_assign (ev_rfl rfl)) (fun _ _ => trivial) rfl ?_
  refine wl_nil ?_
  refine q_then ?_
  refine wc_seq ?_
  refine wc_region ?_
  refine wl_y (y_move (ev_rfl rfl)) (fun _ _ => trivial) rfl ?_
  refine wl_y (y_conv rfl rfl (ev_rfl rfl) (by first | exact IntWalk.u64_in _ ⟨by omega, by omega⟩ | exact rfl)) (fun _ _ => trivial) rfl ?_
  refine wl_y (y_move (ev_rfl rfl)) (fun _ _ => trivial) rfl ?_
  refine wl_y (y_conv rfl rfl (ev_rfl rfl) (by first | exact IntWalk.u64_in _ ⟨by omega, by omega⟩ | exact rfl)) (fun _ _ => trivial) rfl ?_
  refine wl_y (y_add (ev_rfl rfl) (ev_rfl rfl) (IntWalk.u64_in _ ⟨by omega, by omega⟩)) (fun _ _ => trivial) rfl ?_
  refine wl_y (y_move (ev_rfl rfl)) (fun _ _ => trivial) rfl ?_
  refine wl_t (t_call rfl (fun _ _ => rfl) (fun w hi => rsize_ok L M w (Chunk.old h hi))) rfl ?_
  rintro _ _ ⟨_, ⟨rfl, rfl⟩, rfl⟩
  refine wl_y (y_conv rfl rfl (ev_rfl rfl) (by first | exact IntWalk.u64_in _ ⟨by omega, by omega⟩ | exact rfl)) (fun _ _ => trivial) rfl ?_
  refine wl_y (y_leq (ev_rfl rfl) (ev_rfl rfl) rfl) (fun _ _ => trivial) rfl ?_
  refine wl_y (y_assign (ev_rfl rfl)) (fun _ _ => trivial) rfl ?_
  refine wl_nil ?_
  refine q_then ?_
  refine wc_ret ?_
  refine ret1 (cs' := []) (.inl rfl) (by ((repeat (first | exact List.Sublist.slnil | refine List.Sublist.cons_cons _ ?_ | refine List.Sublist.cons _ ?_)))) rfl rfl ?_
  rw [show decide ((a : Int) + n ≤ ((L.n * 64 : Nat) : Int)) = decide (a + n ≤ L.n * 64) from decide_eq_decide.2 (by omega)]
  exact ⟨rfl, rfl⟩
theorem frameOf_nat (f : Nat) : frameOf (f : Int) = .tuple #[.int .i64 f, .bool true] := by
  unfold frameOf
  rw [show ((f : Int) == -1) = false by rw [beq_eq_false_iff_ne]; omega]
  rfl
theorem rget_ok (L : MLoc) (M : Mem) (a : Nat) (ha : a < L.n * 64) (w : World) (h : (memC L M).ok w) : Ctr Tryz.prog 55 [.pointer (some ⟨L.bm, 0, none⟩), .int .u32 a] w [] (fun v cs => v = .int .u8 (gB M.data a) ∧ cs = []) := by
  obtain ⟨k, hr, h1, h2, h3, h4⟩ := mem_ok h
  have n64 := hr.n64
  have hp : a / 64 < L.n := by omega
  have hj : a % 64 < 64 := by omega
  have hdl := hr.dl
  have hda : M.data[a / 64 * 64 + a % 64]? = some (gB M.data a) := by rw [show a / 64 * 64 + a % 64 = a by omega]; exact gB_at (by omega)
  rcases hr.page (a / 64) hp with ⟨f1, f2⟩ | ⟨f, f1, f2, f3, f4, f5⟩
  · have hz : gB M.data a = 0 := by have := f2 (a % 64) hj; rw [hda] at this; exact Option.some.inj this
    rw [hz]
    refine fn_ctr Tryz.func55 rfl Tryz.ntmps55 rfl (Inv.start w) ?_
    refine wc_seq ?_
    refine wc_region ?_
    refine wl_y (y_assign (ev_rfl rfl)) (fun _ _ => trivial) rfl ?_
    refine wl_nil ?_
    refine q_then ?_
    refine wc_seq ?_
    refine wc_region ?_
    refine wl_y (y_move (ev_rfl rfl)) (fun _ _ => trivial) rfl ?_
    refine wl_t (t_call rfl (fun _ _ => rfl) (fun w hi => split_ok a (by omega) w)) rfl ?_
    rintro _ _ ⟨_, ⟨rfl, rfl⟩, rfl⟩
    refine wl_y (y_move (ev_rfl rfl)) (fun _ _ => trivial) rfl ?_
    refine wl_y (y_extractN (ev_rfl rfl) (.zero _ _)) (fun _ _ => trivial) rfl ?_
    refine wl_y (y_extractN (ev_rfl rfl) (.succ _ (.zero _ _))) (fun _ _ => trivial) rfl ?_
    refine wl_y (y_assign (ev_rfl rfl)) (fun _ _ => trivial) rfl ?_
    refine wl_y (y_assign (ev_rfl rfl)) (fun _ _ => trivial) rfl ?_
    refine wl_nil ?_
    refine q_then ?_
    refine wc_seq ?_
    refine wc_region ?_
    refine wl_y (y_move (ev_rfl rfl)) (fun _ _ => trivial) rfl ?_
    refine wl_y (y_nil (ev_rfl rfl)) (fun _ _ => trivial) rfl ?_
    refine wl_y (y_field 1 rfl (ev_rfl rfl) (by first | exact Nat.zero_add _ | exact rfl)) (fun _ _ => trivial) rfl ?_
    refine wl_y (y_load (fun _ => rfl) (ev_rfl rfl)) (old_row (by assumption) rfl) rfl ?_
    refine wl_y (y_move (ev_rfl rfl)) (fun _ _ => trivial) rfl ?_
    refine wl_t (t_call rfl (fun _ _ => rfl) (fun w hi => tframe_ok L.bt L.bp L.o L.bf L.bg L.n (a / 64) k.fr (-1) hp f1 w (Chunk.old h2 hi) (Chunk.old h3 hi))) rfl ?_
    rintro _ _ ⟨_, ⟨rfl, rfl⟩, rfl⟩
    refine wl_y (y_move (ev_rfl rfl)) (fun _ _ => trivial) rfl ?_
    refine wl_y (y_extractN (ev_rfl rfl) (.zero _ _)) (fun _ _ => trivial) rfl ?_
    refine wl_y (y_extractN (ev_rfl rfl) (.succ _ (.zero _ _))) (fun _ _ => trivial) rfl ?_
    refine wl_y (y_assign (ev_rfl rfl)) (fun _ _ => trivial) rfl ?_
    refine wl_y (y_assign (ev_rfl rfl)) (fun _ _ => trivial) rfl ?_
    refine wl_nil ?_
    refine q_then ?_
    refine wc_seq ?_
    refine wc_seq ?_
    refine wc_region ?_
    refine wl_y (y_move (ev_rfl rfl)) (fun _ _ => trivial) rfl ?_
    refine wl_y (y_not (ev_rfl rfl) rfl) (fun _ _ => trivial) rfl ?_
    refine wl_nil ?_
    refine q_then ?_
    refine wc_cond_t rfl (rfl) ?_
    refine wc_seq ?_
    refine wc_region ?_
    refine wl_y (y_assign (ev_rfl rfl)) (fun _ _ => trivial) rfl ?_
    refine wl_nil ?_
    refine q_then ?_
    refine wc_ret ?_
    refine q_then_ret ?_
    refine ret1 (cs' := []) (.inl rfl) (by ((repeat (first | exact List.Sublist.slnil | refine List.Sublist.cons_cons _ ?_ | refine List.Sublist.cons _ ?_)))) rfl rfl ?_
    exact ⟨rfl, rfl⟩
  · have hb : k.B[f * 64 + a % 64]? = some (gB M.data a) := by rw [f5 _ hj, hda]
    refine fn_ctr Tryz.func55 rfl Tryz.ntmps55 rfl (Inv.start w) ?_
    refine wc_seq ?_
    refine wc_region ?_
    refine wl_y (y_assign (ev_rfl rfl)) (fun _ _ => trivial) rfl ?_
    refine wl_nil ?_
    refine q_then ?_
    refine wc_seq ?_
    refine wc_region ?_
    refine wl_y (y_move (ev_rfl rfl)) (fun _ _ => trivial) rfl ?_
    refine wl_t (t_call rfl (fun _ _ => rfl) (fun w hi => split_ok a (by omega) w)) rfl ?_
    rintro _ _ ⟨_, ⟨rfl, rfl⟩, rfl⟩
    refine wl_y (y_move (ev_rfl rfl)) (fun _ _ => trivial) rfl ?_
    refine wl_y (y_extractN (ev_rfl rfl) (.zero _ _)) (fun _ _ => trivial) rfl ?_
    refine wl_y (y_extractN (ev_rfl rfl) (.succ _ (.zero _ _))) (fun _ _ => trivial) rfl ?_
    refine wl_y (y_assign (ev_rfl rfl)) (fun _ _ => trivial) rfl ?_
    refine wl_y (y_assign (ev_rfl rfl)) (fun _ _ => trivial) rfl ?_
    refine wl_nil ?_
    refine q_then ?_
    refine wc_seq ?_
    refine wc_region ?_
    refine wl_y (y_move (ev_rfl rfl)) (fun _ _ => trivial) rfl ?_
    refine wl_y (y_nil (ev_rfl rfl)) (fun _ _ => trivial) rfl ?_
    refine wl_y (y_field 1 rfl (ev_rfl rfl) (by first | exact Nat.zero_add _ | exact rfl)) (fun _ _ => trivial) rfl ?_
    refine wl_y (y_load (fun _ => rfl) (ev_rfl rfl)) (old_row (by assumption) rfl) rfl ?_
    refine wl_y (y_move (ev_rfl rfl)) (fun _ _ => trivial) rfl ?_
    refine wl_t (t_call rfl (fun _ _ => rfl) (fun w hi => tframe_ok L.bt L.bp L.o L.bf L.bg L.n (a / 64) k.fr f hp f1 w (Chunk.old h2 hi) (Chunk.old h3 hi))) rfl ?_
    rintro _ _ ⟨_, ⟨rfl, rfl⟩, rfl⟩
    rw [frameOf_nat]
    refine wl_y (y_move (ev_rfl rfl)) (fun _ _ => trivial) rfl ?_
    refine wl_y (y_extractN (ev_rfl rfl) (.zero _ _)) (fun _ _ => trivial) rfl ?_
    refine wl_y (y_extractN (ev_rfl rfl) (.succ _ (.zero _ _))) (fun _ _ => trivial) rfl ?_
    refine wl_y (y_assign (ev_rfl rfl)) (fun _ _ => trivial) rfl ?_
    refine wl_y (y_assign (ev_rfl rfl)) (fun _ _ => trivial) rfl ?_
    refine wl_nil ?_
    refine q_then ?_
    refine wc_seq ?_
    refine wc_seq ?_
    refine wc_region ?_
    refine wl_y (y_move (ev_rfl rfl)) (fun _ _ => trivial) rfl ?_
    refine wl_y (y_not (ev_rfl rfl) rfl) (fun _ _ => trivial) rfl ?_
    refine wl_nil ?_
    refine q_then ?_
    refine wc_cond_f rfl (rfl) ?_
    refine wc_skip ?_
    refine q_then ?_
    refine wc_seq ?_
    refine wc_region ?_
    refine wl_y (y_move (ev_rfl rfl)) (fun _ _ => trivial) rfl ?_
    refine wl_y (y_nil (ev_rfl rfl)) (fun _ _ => trivial) rfl ?_
    refine wl_y (y_field 0 rfl (ev_rfl rfl) (by first | exact Nat.zero_add _ | exact rfl)) (fun _ _ => trivial) rfl ?_
    refine wl_y (y_load (fun _ => rfl) (ev_rfl rfl)) (old_row (by assumption) rfl) rfl ?_
    refine wl_y (y_move (ev_rfl rfl)) (fun _ _ => trivial) rfl ?_
    refine wl_y (y_move (ev_rfl rfl)) (fun _ _ => trivial) rfl ?_
    refine wl_t (t_call rfl (fun _ _ => rfl) (fun w hi => pbyte_ok L.bp k.B k.ow k.pr hr.pl f (a % 64) L.o _ f2 f3 f4 (by omega) hj hb w (Chunk.old h1 hi))) rfl ?_
    rintro _ _ ⟨_, ⟨rfl, rfl⟩, rfl⟩
    refine wl_y (y_move (ev_rfl rfl)) (fun _ _ => trivial) rfl ?_
    refine wl_y (y_extractN (ev_rfl rfl) (.zero _ _)) (fun _ _ => trivial) rfl ?_
    refine wl_y (y_extractN (ev_rfl rfl) (.succ _ (.zero _ _))) (fun _ _ => trivial) rfl ?_
    refine wl_y (y_assign (ev_rfl rfl)) (fun _ _ => trivial) rfl ?_
    refine wl_y (y_assign (ev_rfl rfl)) (fun _ _ => trivial) rfl ?_
    refine wl_nil ?_
    refine q_then ?_
    refine wc_seq ?_
    refine wc_region ?_
    refine wl_y (y_move (ev_rfl rfl)) (fun _ _ => trivial) rfl ?_
    refine wl_y (y_assign (ev_rfl rfl)) (fun _ _ => trivial) rfl ?_
    refine wl_nil ?_
    refine q_then ?_
    refine wc_ret ?_
    refine ret1 (cs' := []) (.inl rfl) (by ((repeat (first | exact List.Sublist.slnil | refine List.Sublist.cons_cons _ ?_ | refine List.Sublist.cons _ ?_)))) rfl rfl ?_
    exact ⟨rfl, rfl⟩
theorem rput_in (L : MLoc) (M : Mem) (a : Nat) (ha : a < L.n * 64) (b : Int) (hb : 0 ≤ b ∧ b ≤ 255) (w : World) (k : MemK) (hr : MemRep L M k) (hi : Inv w (blocks (memF L M.turned k)) (memF L M.turned k) w) :
    Ctr Tryz.prog 105 [.pointer (some ⟨L.bm, 0, none⟩), .int .u32 a, .int .u8 b] w (memF L M.turned k) (fun v cs => v = .bool true ∧ ∃ k', MemRep L (M.put a b) k' ∧ cs = memF L (M.put a b).turned k') := by
  have n64 := hr.n64
  have o4 := hr.o4
  have hp : a / 64 < L.n := by omega
  have hj : a % 64 < 64 := by omega
  have hdl := hr.dl
  have htl := hr.tl
  have ea : a / 64 * 64 + a % 64 = a := by omega
  obtain ⟨hb0, hb1⟩ := hb
  have his : ∀ w0 S w, Inv w0 S (memF L M.turned k) w → (memC L M).ok w := fun w0 S w hi => (hi.closeE (rest := []) (bs := [L.bp, L.bt, L.bf, L.bg, L.bm]) (F := memF L M.turned) (hb := fun _ => rfl) (p := MemRep L M) k hr).ok _ (List.mem_cons_self ..)
  rcases hr.page (a / 64) hp with ⟨f1, f2⟩ | ⟨f, f1, f2, f3, f4, f5⟩
  · by_cases hb0' : b = 0
    · subst hb0'
      have hfin := hr.put0 hj hp f1
      rw [ea] at hfin
      refine fn_ctr Tryz.func105 rfl Tryz.ntmps105 rfl hi ?_
      unfold memF at his ⊢
      refine wc_seq ?_
      refine wc_region ?_
      refine wl_y (y_assign (ev_rfl rfl)) (fun _ _ => trivial) rfl ?_
      refine wl_nil ?_
      refine q_then ?_
      refine wc_seq ?_
      refine wc_seq ?_
      refine wc_region ?_
      refine wl_y (y_move (ev_rfl rfl)) (fun _ _ => trivial) rfl ?_
      refine wl_y (y_move (ev_rfl rfl)) (fun _ _ => trivial) rfl ?_
      refine wl_t (t_call rfl (fun _ _ => rfl) (fun w hi => ris_ok L M a 1 (by omega) (by omega) w (his _ _ w hi))) rfl ?_
      rintro _ _ ⟨_, ⟨rfl, rfl⟩, rfl⟩
      rw [decide_eq_true (show a + 1 ≤ L.n * 64 by omega)]
      refine wl_y (y_not (ev_rfl rfl) rfl) (fun _ _ => trivial) rfl ?_
      refine wl_nil ?_
      refine q_then ?_
      refine wc_cond_f rfl (rfl) ?_
      refine wc_skip ?_
      refine q_then ?_
      refine wc_seq ?_
      refine wc_region ?_
      refine wl_y (y_move (ev_rfl rfl)) (fun _ _ => trivial) rfl ?_
      refine wl_t (t_call rfl (fun _ _ => rfl) (fun w hi => split_ok a (by omega) w)) rfl ?_
      rintro _ _ ⟨_, ⟨rfl, rfl⟩, rfl⟩
      refine wl_y (y_move (ev_rfl rfl)) (fun _ _ => trivial) rfl ?_
      refine wl_y (y_extractN (ev_rfl rfl) (.zero _ _)) (fun _ _ => trivial) rfl ?_
      refine wl_y (y_extractN (ev_rfl rfl) (.succ _ (.zero _ _))) (fun _ _ => trivial) rfl ?_
      refine wl_y (y_assign (ev_rfl rfl)) (fun _ _ => trivial) rfl ?_
      refine wl_y (y_assign (ev_rfl rfl)) (fun _ _ => trivial) rfl ?_
      refine wl_nil ?_
      refine q_then ?_
      refine wc_seq ?_
      refine wc_region ?_
      refine wl_y (y_move (ev_rfl rfl)) (fun _ _ => trivial) rfl ?_
      refine wl_y (y_nil (ev_rfl rfl)) (fun _ _ => trivial) rfl ?_
      refine wl_y (y_field 1 rfl (ev_rfl rfl) (by first | exact Nat.zero_add _ | exact rfl)) (fun _ _ => trivial) rfl ?_
      refine wl_y (y_load (fun _ => rfl) (ev_rfl rfl)) (row_cell (by repeat (first | exact .head _ _ | apply Has.tail)) rfl) rfl ?_
      refine wl_y (y_move (ev_rfl rfl)) (fun _ _ => trivial) rfl ?_
      refine wl_t (t_call rfl (fun _ _ => rfl) (fun w hi => tframe_ok L.bt L.bp L.o L.bf L.bg L.n (a / 64) k.fr (-1) hp f1 w (hi.get (by repeat (first | exact .head _ _ | apply Has.tail))) (hi.get (by repeat (first | exact .head _ _ | apply Has.tail))))) rfl ?_
      rintro _ _ ⟨_, ⟨rfl, rfl⟩, rfl⟩
      refine wl_y (y_move (ev_rfl rfl)) (fun _ _ => trivial) rfl ?_
      refine wl_y (y_extractN (ev_rfl rfl) (.zero _ _)) (fun _ _ => trivial) rfl ?_
      refine wl_y (y_extractN (ev_rfl rfl) (.succ _ (.zero _ _))) (fun _ _ => trivial) rfl ?_
      refine wl_y (y_assign (ev_rfl rfl)) (fun _ _ => trivial) rfl ?_
      refine wl_y (y_assign (ev_rfl rfl)) (fun _ _ => trivial) rfl ?_
      refine wl_nil ?_
      refine q_then ?_
      refine wc_seq ?_
      refine wc_seq ?_
      refine wc_region ?_
      refine wl_y (y_move (ev_rfl rfl)) (fun _ _ => trivial) rfl ?_
      refine wl_y (y_not (ev_rfl rfl) rfl) (fun _ _ => trivial) rfl ?_
      refine wl_y (y_move (ev_rfl rfl)) (fun _ _ => trivial) rfl ?_
      refine wl_yg (guard_yes rfl rfl) (y_move (ev_rfl rfl)) (fun _ _ => trivial) rfl ?_
      refine wl_yg (guard_yes rfl rfl) (y_neq (ev_g rfl) (ev_rfl rfl) rfl) (fun _ _ => trivial) rfl ?_
      refine wl_y (y_and (ev_rfl rfl) (pk_yes rfl (fun _ => rfl))) (fun _ _ => trivial) rfl ?_
      refine wl_nil ?_
      refine q_then ?_
      refine wc_cond_f rfl (rfl) ?_
      refine wc_skip ?_
      refine q_then ?_
      refine wc_seq ?_
      refine wc_region ?_
      refine wl_y (y_move (ev_rfl rfl)) (fun _ _ => trivial) rfl ?_
      refine wl_y (y_move (ev_rfl rfl)) (fun _ _ => trivial) rfl ?_
      refine wl_y (y_nil (ev_rfl rfl)) (fun _ _ => trivial) rfl ?_
      refine wl_y (y_field 2 rfl (ev_rfl rfl) (by first | exact Nat.zero_add _ | exact rfl)) (fun _ _ => trivial) rfl ?_
      refine wl_y (y_indexA (j := (a / 64)) (sz := 1) (r := 2 + a / 64) rfl (fun _ => rfl) (ev_rfl rfl) (ev_rfl rfl) (fun _ => by omega) (fun _ => by omega) (by omega)) (fun _ _ => trivial) rfl ?_
      refine wl_t0 (t_storeR (fun _ => rfl) rfl rfl rfl (by repeat (first | exact aH | apply aT)) (by rw [memCells_len htl]; omega)) ?_
      rintro _ _ ⟨rfl, rfl⟩
      rw [memCells_set (by omega)]
      refine wl_nil ?_
      refine q_then ?_
      refine wc_seq ?_
      refine wc_region ?_
      refine wl_y (y_move (ev_rfl rfl)) (fun _ _ => trivial) rfl ?_
      refine wl_y (y_not (ev_rfl rfl) rfl) (fun _ _ => trivial) rfl ?_
      refine wl_y (y_move (ev_rfl rfl)) (fun _ _ => trivial) rfl ?_
      refine wl_yg (guard_no rfl rfl) (y_move (ev_rfl rfl)) (fun _ _ => trivial) rfl ?_
      refine wl_yg (guard_no rfl rfl) (y_nil (ev_g rfl)) (fun _ _ => trivial) rfl ?_
      refine wl_yg (guard_no rfl rfl) (y_field 0 rfl (ev_g rfl) (by first | exact Nat.zero_add _ | exact rfl)) (fun _ _ => trivial) rfl ?_
      refine wl_yg (guard_no rfl rfl) (y_load (fun _ => rfl) (ev_g rfl)) (row_cell (by repeat (first | exact .head _ _ | apply Has.tail)) rfl) rfl ?_
      refine wl_yg (guard_no rfl rfl) (y_move (ev_rfl rfl)) (fun _ _ => trivial) rfl ?_
      refine wl_yg (guard_no rfl rfl) (y_move (ev_rfl rfl)) (fun _ _ => trivial) rfl ?_
      refine wl_yg (guard_no rfl rfl) (y_move (ev_rfl rfl)) (fun _ _ => trivial) rfl ?_
      refine wl_skip (guard_no rfl rfl) rfl rfl ?_
      refine wl_y (y_or (q := false) (ev_rfl rfl) ⟨_, rfl, fun _ e => by simp at e⟩) (fun _ _ => trivial) rfl ?_
      refine wl_y (y_assign (ev_rfl rfl)) (fun _ _ => trivial) rfl ?_
      refine wl_nil ?_
      refine q_then ?_
      refine wc_ret ?_
      refine ret1 (cs' := [row _ _ _, row _ _ _, slv _ _ _ _ _ _, slv _ _ _ _ _ _, row _ _ _]) (.inl rfl) (by ((repeat (first | exact List.Sublist.slnil | refine List.Sublist.cons_cons _ ?_ | refine List.Sublist.cons _ ?_)))) rfl rfl ?_
      exact ⟨rfl, k, hfin, rfl⟩
    · obtain ⟨f0, g1, g2, g3⟩ := hr.free
      refine fn_ctr Tryz.func105 rfl Tryz.ntmps105 rfl hi ?_
      unfold memF at his ⊢
      refine wc_seq ?_
      refine wc_region ?_
      refine wl_y (y_assign (ev_rfl rfl)) (fun _ _ => trivial) rfl ?_
      refine wl_nil ?_
      refine q_then ?_
      refine wc_seq ?_
      refine wc_seq ?_
      refine wc_region ?_
      refine wl_y (y_move (ev_rfl rfl)) (fun _ _ => trivial) rfl ?_
      refine wl_y (y_move (ev_rfl rfl)) (fun _ _ => trivial) rfl ?_
      refine wl_t (t_call rfl (fun _ _ => rfl) (fun w hi => ris_ok L M a 1 (by omega) (by omega) w (his _ _ w hi))) rfl ?_
      rintro _ _ ⟨_, ⟨rfl, rfl⟩, rfl⟩
      rw [decide_eq_true (show a + 1 ≤ L.n * 64 by omega)]
      refine wl_y (y_not (ev_rfl rfl) rfl) (fun _ _ => trivial) rfl ?_
      refine wl_nil ?_
      refine q_then ?_
      refine wc_cond_f rfl (rfl) ?_
      refine wc_skip ?_
      refine q_then ?_
      refine wc_seq ?_
      refine wc_region ?_
      refine wl_y (y_move (ev_rfl rfl)) (fun _ _ => trivial) rfl ?_
      refine wl_t (t_call rfl (fun _ _ => rfl) (fun w hi => split_ok a (by omega) w)) rfl ?_
      rintro _ _ ⟨_, ⟨rfl, rfl⟩, rfl⟩
      refine wl_y (y_move (ev_rfl rfl)) (fun _ _ => trivial) rfl ?_
      refine wl_y (y_extractN (ev_rfl rfl) (.zero _ _)) (fun _ _ => trivial) rfl ?_
      refine wl_y (y_extractN (ev_rfl rfl) (.succ _ (.zero _ _))) (fun _ _ => trivial) rfl ?_
      refine wl_y (y_assign (ev_rfl rfl)) (fun _ _ => trivial) rfl ?_
      refine wl_y (y_assign (ev_rfl rfl)) (fun _ _ => trivial) rfl ?_
      refine wl_nil ?_
      refine q_then ?_
      refine wc_seq ?_
      refine wc_region ?_
      refine wl_y (y_move (ev_rfl rfl)) (fun _ _ => trivial) rfl ?_
      refine wl_y (y_nil (ev_rfl rfl)) (fun _ _ => trivial) rfl ?_
      refine wl_y (y_field 1 rfl (ev_rfl rfl) (by first | exact Nat.zero_add _ | exact rfl)) (fun _ _ => trivial) rfl ?_
      refine wl_y (y_load (fun _ => rfl) (ev_rfl rfl)) (row_cell (by repeat (first | exact .head _ _ | apply Has.tail)) rfl) rfl ?_
      refine wl_y (y_move (ev_rfl rfl)) (fun _ _ => trivial) rfl ?_
      refine wl_t (t_call rfl (fun _ _ => rfl) (fun w hi => tframe_ok L.bt L.bp L.o L.bf L.bg L.n (a / 64) k.fr (-1) hp f1 w (hi.get (by repeat (first | exact .head _ _ | apply Has.tail))) (hi.get (by repeat (first | exact .head _ _ | apply Has.tail))))) rfl ?_
      rintro _ _ ⟨_, ⟨rfl, rfl⟩, rfl⟩
      refine wl_y (y_move (ev_rfl rfl)) (fun _ _ => trivial) rfl ?_
      refine wl_y (y_extractN (ev_rfl rfl) (.zero _ _)) (fun _ _ => trivial) rfl ?_
      refine wl_y (y_extractN (ev_rfl rfl) (.succ _ (.zero _ _))) (fun _ _ => trivial) rfl ?_
      refine wl_y (y_assign (ev_rfl rfl)) (fun _ _ => trivial) rfl ?_
      refine wl_y (y_assign (ev_rfl rfl)) (fun _ _ => trivial) rfl ?_
      refine wl_nil ?_
      refine q_then ?_
      refine wc_seq ?_
      refine wc_seq ?_
      refine wc_region ?_
      refine wl_y (y_move (ev_rfl rfl)) (fun _ _ => trivial) rfl ?_
      refine wl_y (y_not (ev_rfl rfl) rfl) (fun _ _ => trivial) rfl ?_
      refine wl_y (y_move (ev_rfl rfl)) (fun _ _ => trivial) rfl ?_
      refine wl_yg (guard_yes rfl rfl) (y_move (ev_rfl rfl)) (fun _ _ => trivial) rfl ?_
      refine wl_yg (guard_yes rfl rfl) (y_neq (ev_g rfl) (ev_rfl rfl) rfl) (fun _ _ => trivial) rfl ?_
      refine wl_y (y_and (ev_rfl rfl) (pk_yes rfl (fun _ => rfl))) (fun _ _ => trivial) rfl ?_
      refine wl_nil ?_
      refine q_then ?_
      refine wc_cond_t rfl ((by rw [show (b != 0) = true by simp [hb0']]; rfl)) ?_
      refine wc_seq ?_
      refine wc_region ?_
      refine wl_y (y_assign (ev_rfl rfl)) (fun _ _ => trivial) rfl ?_
      refine wl_nil ?_
      refine q_then ?_
      refine wc_seq ?_
      refine wc_seq ?_
      refine wc_region ?_
      refine wl_y (y_move (ev_rfl rfl)) (fun _ _ => trivial) rfl ?_
      refine wl_y (y_nil (ev_rfl rfl)) (fun _ _ => trivial) rfl ?_
      refine wl_y (y_field 66 rfl (ev_rfl rfl) (by first | exact Nat.zero_add _ | exact rfl)) (fun _ _ => trivial) rfl ?_
      refine wl_y (y_load (fun _ => rfl) (ev_rfl rfl)) (row_cell (o := 66) (by repeat (first | exact .head _ _ | apply Has.tail)) (memCells_closed htl)) rfl ?_
      refine wl_nil ?_
      refine q_then ?_
      refine wc_cond_f rfl (rfl) ?_
      refine wc_skip ?_
      refine q_then ?_
      refine wc_seq ?_
      refine wc_seq ?_
      refine wc_region ?_
      refine wl_y (y_move (ev_rfl rfl)) (fun _ _ => trivial) rfl ?_
      refine wl_y (y_nil (ev_rfl rfl)) (fun _ _ => trivial) rfl ?_
      refine wl_y (y_field 1 rfl (ev_rfl rfl) (by first | exact Nat.zero_add _ | exact rfl)) (fun _ _ => trivial) rfl ?_
      refine wl_y (y_load (fun _ => rfl) (ev_rfl rfl)) (row_cell (by repeat (first | exact .head _ _ | apply Has.tail)) rfl) rfl ?_
      refine wl_y (y_move (ev_rfl rfl)) (fun _ _ => trivial) rfl ?_
      refine wl_t (t_callS ([tabRow L.bt L.bp L.o L.bf L.bg L.n, frC L.bf L.n k.fr, poolC L.bp k.B k.ow k.pr]) rfl (fun _ _ => rfl) (by repeat (first | exact .nil _ | (apply Split.cons; (repeat (first | exact .head _ _ | apply Del.tail))))) (fun w hi hin => tmap_ok L.bt L.bp L.o L.bf L.bg L.n (a / 64) k.B k.ow k.pr k.fr hr.pl o4 hr.prom (hr.heldLt f1) f0 g1 g2 g3 hp f1 w hin)) rfl ?_
      rintro _ _ ⟨_, ⟨f, m1, m2, m3, rfl, rfl⟩, rfl⟩
      have hmap := hr.map hp f1 m1 m2 m3
      have hfin := hmap.putF (j := a % 64) (b := b) (f := f) hj ⟨hb0, hb1⟩ (show (k.fr.set (a / 64) (f : Int))[a / 64]? = _ by rw [List.getElem?_set, if_pos rfl, if_pos (by rw [hr.fr]; exact hp)])
      rw [ea] at hfin
      have hpl' := hmap.pl
      refine wl_y (y_move (ev_rfl rfl)) (fun _ _ => trivial) rfl ?_
      refine wl_y (y_extractN (ev_rfl rfl) (.zero _ _)) (fun _ _ => trivial) rfl ?_
      refine wl_y (y_extractN (ev_rfl rfl) (.succ _ (.zero _ _))) (fun _ _ => trivial) rfl ?_
      refine wl_y (y_assign (ev_rfl rfl)) (fun _ _ => trivial) rfl ?_
      refine wl_y (y_assign (ev_rfl rfl)) (fun _ _ => trivial) rfl ?_
      refine wl_nil ?_
      refine q_then ?_
      refine wc_seq ?_
      refine wc_region ?_
      refine wl_y (y_move (ev_rfl rfl)) (fun _ _ => trivial) rfl ?_
      refine wl_y (y_neq (ev_rfl rfl) (ev_rfl rfl) rfl) (fun _ _ => trivial) rfl ?_
      refine wl_nil ?_
      refine q_then ?_
      refine wc_cond_f rfl (rfl) ?_
      refine wc_skip ?_
      refine q_then ?_
      refine wc_region ?_
      refine wl_y (y_assign (ev_rfl rfl)) (fun _ _ => trivial) rfl ?_
      refine wl_nil ?_
      refine q_then ?_
      refine wc_seq ?_
      refine wc_region ?_
      refine wl_y (y_move (ev_rfl rfl)) (fun _ _ => trivial) rfl ?_
      refine wl_y (y_move (ev_rfl rfl)) (fun _ _ => trivial) rfl ?_
      refine wl_y (y_nil (ev_rfl rfl)) (fun _ _ => trivial) rfl ?_
      refine wl_y (y_field 2 rfl (ev_rfl rfl) (by first | exact Nat.zero_add _ | exact rfl)) (fun _ _ => trivial) rfl ?_
      refine wl_y (y_indexA (j := (a / 64)) (sz := 1) (r := 2 + a / 64) rfl (fun _ => rfl) (ev_rfl rfl) (ev_rfl rfl) (fun _ => by omega) (fun _ => by omega) (by omega)) (fun _ _ => trivial) rfl ?_
      refine wl_t0 (t_storeR (fun _ => rfl) rfl rfl rfl (by repeat (first | exact aH | apply aT)) (by rw [memCells_len htl]; omega)) ?_
      rintro _ _ ⟨rfl, rfl⟩
      rw [memCells_set (by omega)]
      refine wl_nil ?_
      refine q_then ?_
      refine wc_seq ?_
      refine wc_region ?_
      refine wl_y (y_move (ev_rfl rfl)) (fun _ _ => trivial) rfl ?_
      refine wl_y (y_not (ev_rfl rfl) rfl) (fun _ _ => trivial) rfl ?_
      refine wl_y (y_move (ev_rfl rfl)) (fun _ _ => trivial) rfl ?_
      refine wl_yg (guard_no rfl rfl) (y_move (ev_rfl rfl)) (fun _ _ => trivial) rfl ?_
      refine wl_yg (guard_no rfl rfl) (y_nil (ev_g rfl)) (fun _ _ => trivial) rfl ?_
      refine wl_yg (guard_no rfl rfl) (y_field 0 rfl (ev_g rfl) (by first | exact Nat.zero_add _ | exact rfl)) (fun _ _ => trivial) rfl ?_
      refine wl_yg (guard_no rfl rfl) (y_load (fun _ => rfl) (ev_g rfl)) (row_cell (by repeat (first | exact .head _ _ | apply Has.tail)) rfl) rfl ?_
      refine wl_yg (guard_no rfl rfl) (y_move (ev_rfl rfl)) (fun _ _ => trivial) rfl ?_
      refine wl_yg (guard_no rfl rfl) (y_move (ev_rfl rfl)) (fun _ _ => trivial) rfl ?_
      refine wl_yg (guard_no rfl rfl) (y_move (ev_rfl rfl)) (fun _ _ => trivial) rfl ?_
      refine wl_tg (guard_no rfl rfl) rfl (t_callS ([poolC L.bp (zeroFrame k.B f) (k.ow.set f L.o) k.pr]) rfl (fun _ _ => rfl) (by repeat (first | exact .nil _ | (apply Split.cons; (repeat (first | exact .head _ _ | apply Del.tail))))) (fun w hi hin => pput_ok L.bp (zeroFrame k.B f) (k.ow.set f L.o) k.pr hpl' f (a % 64) L.o b m1 m2 (show (k.ow.set f (L.o : Int))[f]? = some (L.o : Int) by rw [List.getElem?_set, if_pos rfl, if_pos (by rw [hr.pl.ow]; exact m2)]) (by omega) hj w hin)) rfl ?_
      rintro _ _ ⟨_, ⟨rfl, rfl⟩, rfl⟩
      refine wl_y (y_or (ev_rfl rfl) (pk_no rfl (fun _ => rfl))) (fun _ _ => trivial) rfl ?_
      refine wl_y (y_assign (ev_rfl rfl)) (fun _ _ => trivial) rfl ?_
      refine wl_nil ?_
      refine q_then ?_
      refine wc_ret ?_
      refine qok_pick [poolC L.bp ((zeroFrame k.B f).set (f * 64 + a % 64) b) (k.ow.set f L.o) k.pr, tabRow L.bt L.bp L.o L.bf L.bg L.n, frC L.bf L.n (k.fr.set (a / 64) f), gdC L.bg L.n k.gd, memRow L (M.turned.set (a / 64) true)] (by repeat (first | exact .nil _ | (refine .cons (by repeat (first | exact .head _ _ | apply Del.tail)) ?_))) ?_
      refine ret1 (cs' := [row _ _ _, row _ _ _, slv _ _ _ _ _ _, slv _ _ _ _ _ _, row _ _ _]) (.inl rfl) (by ((repeat (first | exact List.Sublist.slnil | refine List.Sublist.cons_cons _ ?_ | refine List.Sublist.cons _ ?_)))) rfl rfl ?_
      exact ⟨rfl, _, hfin, rfl⟩
  · have hfin := hr.putF (j := a % 64) (b := b) hj ⟨hb0, hb1⟩ f1
    rw [ea] at hfin
    refine fn_ctr Tryz.func105 rfl Tryz.ntmps105 rfl hi ?_
    unfold memF at his ⊢
    refine wc_seq ?_
    refine wc_region ?_
    refine wl_y (y_assign (ev_rfl rfl)) (fun _ _ => trivial) rfl ?_
    refine wl_nil ?_
    refine q_then ?_
    refine wc_seq ?_
    refine wc_seq ?_
    refine wc_region ?_
    refine wl_y (y_move (ev_rfl rfl)) (fun _ _ => trivial) rfl ?_
    refine wl_y (y_move (ev_rfl rfl)) (fun _ _ => trivial) rfl ?_
    refine wl_t (t_call rfl (fun _ _ => rfl) (fun w hi => ris_ok L M a 1 (by omega) (by omega) w (his _ _ w hi))) rfl ?_
    rintro _ _ ⟨_, ⟨rfl, rfl⟩, rfl⟩
    rw [decide_eq_true (show a + 1 ≤ L.n * 64 by omega)]
    refine wl_y (y_not (ev_rfl rfl) rfl) (fun _ _ => trivial) rfl ?_
    refine wl_nil ?_
    refine q_then ?_
    refine wc_cond_f rfl (rfl) ?_
    refine wc_skip ?_
    refine q_then ?_
    refine wc_seq ?_
    refine wc_region ?_
    refine wl_y (y_move (ev_rfl rfl)) (fun _ _ => trivial) rfl ?_
    refine wl_t (t_call rfl (fun _ _ => rfl) (fun w hi => split_ok a (by omega) w)) rfl ?_
    rintro _ _ ⟨_, ⟨rfl, rfl⟩, rfl⟩
    refine wl_y (y_move (ev_rfl rfl)) (fun _ _ => trivial) rfl ?_
    refine wl_y (y_extractN (ev_rfl rfl) (.zero _ _)) (fun _ _ => trivial) rfl ?_
    refine wl_y (y_extractN (ev_rfl rfl) (.succ _ (.zero _ _))) (fun _ _ => trivial) rfl ?_
    refine wl_y (y_assign (ev_rfl rfl)) (fun _ _ => trivial) rfl ?_
    refine wl_y (y_assign (ev_rfl rfl)) (fun _ _ => trivial) rfl ?_
    refine wl_nil ?_
    refine q_then ?_
    refine wc_seq ?_
    refine wc_region ?_
    refine wl_y (y_move (ev_rfl rfl)) (fun _ _ => trivial) rfl ?_
    refine wl_y (y_nil (ev_rfl rfl)) (fun _ _ => trivial) rfl ?_
    refine wl_y (y_field 1 rfl (ev_rfl rfl) (by first | exact Nat.zero_add _ | exact rfl)) (fun _ _ => trivial) rfl ?_
    refine wl_y (y_load (fun _ => rfl) (ev_rfl rfl)) (row_cell (by repeat (first | exact .head _ _ | apply Has.tail)) rfl) rfl ?_
    refine wl_y (y_move (ev_rfl rfl)) (fun _ _ => trivial) rfl ?_
    refine wl_t (t_call rfl (fun _ _ => rfl) (fun w hi => tframe_ok L.bt L.bp L.o L.bf L.bg L.n (a / 64) k.fr f hp f1 w (hi.get (by repeat (first | exact .head _ _ | apply Has.tail))) (hi.get (by repeat (first | exact .head _ _ | apply Has.tail))))) rfl ?_
    rintro _ _ ⟨_, ⟨rfl, rfl⟩, rfl⟩
    rw [frameOf_nat]
    refine wl_y (y_move (ev_rfl rfl)) (fun _ _ => trivial) rfl ?_
    refine wl_y (y_extractN (ev_rfl rfl) (.zero _ _)) (fun _ _ => trivial) rfl ?_
    refine wl_y (y_extractN (ev_rfl rfl) (.succ _ (.zero _ _))) (fun _ _ => trivial) rfl ?_
    refine wl_y (y_assign (ev_rfl rfl)) (fun _ _ => trivial) rfl ?_
    refine wl_y (y_assign (ev_rfl rfl)) (fun _ _ => trivial) rfl ?_
    refine wl_nil ?_
    refine q_then ?_
    refine wc_seq ?_
    refine wc_seq ?_
    refine wc_region ?_
    refine wl_y (y_move (ev_rfl rfl)) (fun _ _ => trivial) rfl ?_
    refine wl_y (y_not (ev_rfl rfl) rfl) (fun _ _ => trivial) rfl ?_
    refine wl_y (y_move (ev_rfl rfl)) (fun _ _ => trivial) rfl ?_
    refine wl_yg (guard_yes rfl rfl) (y_move (ev_rfl rfl)) (fun _ _ => trivial) rfl ?_
    refine wl_yg (guard_yes rfl rfl) (y_neq (ev_g rfl) (ev_rfl rfl) rfl) (fun _ _ => trivial) rfl ?_
    refine wl_y (y_and (ev_rfl rfl) (pk_yes rfl (fun _ => rfl))) (fun _ _ => trivial) rfl ?_
    refine wl_nil ?_
    refine q_then ?_
    refine wc_cond_f rfl (rfl) ?_
    refine wc_skip ?_
    refine q_then ?_
    refine wc_seq ?_
    refine wc_region ?_
    refine wl_y (y_move (ev_rfl rfl)) (fun _ _ => trivial) rfl ?_
    refine wl_y (y_move (ev_rfl rfl)) (fun _ _ => trivial) rfl ?_
    refine wl_y (y_nil (ev_rfl rfl)) (fun _ _ => trivial) rfl ?_
    refine wl_y (y_field 2 rfl (ev_rfl rfl) (by first | exact Nat.zero_add _ | exact rfl)) (fun _ _ => trivial) rfl ?_
    refine wl_y (y_indexA (j := (a / 64)) (sz := 1) (r := 2 + a / 64) rfl (fun _ => rfl) (ev_rfl rfl) (ev_rfl rfl) (fun _ => by omega) (fun _ => by omega) (by omega)) (fun _ _ => trivial) rfl ?_
    refine wl_t0 (t_storeR (fun _ => rfl) rfl rfl rfl (by repeat (first | exact aH | apply aT)) (by rw [memCells_len htl]; omega)) ?_
    rintro _ _ ⟨rfl, rfl⟩
    rw [memCells_set (by omega)]
    refine wl_nil ?_
    refine q_then ?_
    refine wc_seq ?_
    refine wc_region ?_
    refine wl_y (y_move (ev_rfl rfl)) (fun _ _ => trivial) rfl ?_
    refine wl_y (y_not (ev_rfl rfl) rfl) (fun _ _ => trivial) rfl ?_
    refine wl_y (y_move (ev_rfl rfl)) (fun _ _ => trivial) rfl ?_
    refine wl_yg (guard_no rfl rfl) (y_move (ev_rfl rfl)) (fun _ _ => trivial) rfl ?_
    refine wl_yg (guard_no rfl rfl) (y_nil (ev_g rfl)) (fun _ _ => trivial) rfl ?_
    refine wl_yg (guard_no rfl rfl) (y_field 0 rfl (ev_g rfl) (by first | exact Nat.zero_add _ | exact rfl)) (fun _ _ => trivial) rfl ?_
    refine wl_yg (guard_no rfl rfl) (y_load (fun _ => rfl) (ev_g rfl)) (row_cell (by repeat (first | exact .head _ _ | apply Has.tail)) rfl) rfl ?_
    refine wl_yg (guard_no rfl rfl) (y_move (ev_rfl rfl)) (fun _ _ => trivial) rfl ?_
    refine wl_yg (guard_no rfl rfl) (y_move (ev_rfl rfl)) (fun _ _ => trivial) rfl ?_
    refine wl_yg (guard_no rfl rfl) (y_move (ev_rfl rfl)) (fun _ _ => trivial) rfl ?_
    refine wl_tg (guard_no rfl rfl) rfl (t_callS ([poolC L.bp k.B k.ow k.pr]) rfl (fun _ _ => rfl) (by repeat (first | exact .nil _ | (apply Split.cons; (repeat (first | exact .head _ _ | apply Del.tail))))) (fun w hi hin => pput_ok L.bp k.B k.ow k.pr hr.pl f (a % 64) L.o b f2 f3 f4 (by omega) hj w hin)) rfl ?_
    rintro _ _ ⟨_, ⟨rfl, rfl⟩, rfl⟩
    refine wl_y (y_or (ev_rfl rfl) (pk_no rfl (fun _ => rfl))) (fun _ _ => trivial) rfl ?_
    refine wl_y (y_assign (ev_rfl rfl)) (fun _ _ => trivial) rfl ?_
    refine wl_nil ?_
    refine q_then ?_
    refine wc_ret ?_
    refine qok_pick [poolC L.bp (k.B.set (f * 64 + a % 64) b) k.ow k.pr, tabRow L.bt L.bp L.o L.bf L.bg L.n, frC L.bf L.n k.fr, gdC L.bg L.n k.gd, memRow L (M.turned.set (a / 64) true)] (by repeat (first | exact .nil _ | (refine .cons (by repeat (first | exact .head _ _ | apply Del.tail)) ?_))) ?_
    refine ret1 (cs' := [row _ _ _, row _ _ _, slv _ _ _ _ _ _, slv _ _ _ _ _ _, row _ _ _]) (.inl rfl) (by ((repeat (first | exact List.Sublist.slnil | refine List.Sublist.cons_cons _ ?_ | refine List.Sublist.cons _ ?_)))) rfl rfl ?_
    exact ⟨rfl, _, hfin, rfl⟩
end Go.Proofs.YtobjiljkfmcalaaGreat
