/- A guest's memory: the walks. -/
import Derived.Test.YtobjiljkfmcalaaGreatSpB
import Derived.Test.YtobjiljkfmcalaaGreatSpC
import Derived.Lib.EndianBits
set_option linter.unusedSimpArgs false
set_option linter.unusedVariables false
set_option maxRecDepth 100000
namespace Go.Proofs.YtobjiljkfmcalaaGreat
open Go.RowKit Go.Ink

def memCells (L : MLoc) (tu : List Bool) : List Value := .pointer (some ⟨L.bp, 0, none⟩) :: .pointer (some ⟨L.bt, 0, none⟩) :: (bools tu ++ [.bool false])
abbrev memRow (L : MLoc) (tu : List Bool) : Chunk := row L.bm (memCells L tu) 139
theorem memCells_tu {L : MLoc} {tu : List Bool} {j : Nat} {b : Bool} (h : tu[j]? = some b) : (memCells L tu)[2 + j]? = some (.bool b) := by
  have hj := (List.getElem?_eq_some_iff.1 h).1
  unfold memCells
  rw [show 2 + j = j + 1 + 1 by omega, List.getElem?_cons_succ, List.getElem?_cons_succ, List.getElem?_append_left (by rw [bools_len]; exact hj)]
  exact bools_at h
theorem memCells_closed {L : MLoc} {tu : List Bool} (h : tu.length = 64) : (memCells L tu)[66]? = some (.bool false) := by
  unfold memCells
  rw [List.getElem?_cons_succ, List.getElem?_cons_succ, List.getElem?_append_right (by rw [bools_len]; omega), bools_len, h]
  rfl
theorem memCells_len {L : MLoc} {tu : List Bool} (h : tu.length = 64) : (memCells L tu).length = 67 := by simp [memCells, bools_len, h]
theorem memCells_set {L : MLoc} {tu : List Bool} {j : Nat} (hj : j < tu.length) (b : Bool) : (memCells L tu).set (2 + j) (.bool b) = memCells L (tu.set j b) := by
  unfold memCells
  rw [show 2 + j = j + 1 + 1 by omega, List.set_cons_succ, List.set_cons_succ, List.set_append_left _ _ (by rw [bools_len]; exact hj), bools_set]
theorem memCells_tus {L : MLoc} {tu : List Bool} : ((memCells L tu).drop 2).take (bools tu).length = bools tu := by
  unfold memCells
  simp
theorem memCells_calm {L : MLoc} {tu : List Bool} (h : tu.length = 64) : (memCells L tu).take 2 ++ List.replicate 64 (Value.bool false) ++ (memCells L tu).drop (2 + 64) = memCells L (List.replicate 64 false) := by
  unfold memCells
  have : (bools tu).length = 64 := by rw [bools_len, h]
  rw [rep_bool]
  simp [this]
/-- A memory's blocks. -/
def memF (L : MLoc) (tu : List Bool) (k : MemK) : List Chunk := [poolC L.bp k.B k.ow k.pr, tabRow L.bt L.bp L.o L.bf L.bg L.n, frC L.bf L.n k.fr, gdC L.bg L.n k.gd, memRow L tu]
abbrev memC (L : MLoc) (M : Mem) : Chunk := exC [L.bp, L.bt, L.bf, L.bg, L.bm] (memF L M.turned) (fun _ => rfl) (MemRep L M)
theorem mem_ok {L : MLoc} {M : Mem} {w : World} (h : (memC L M).ok w) : ∃ k, MemRep L M k ∧ (poolC L.bp k.B k.ow k.pr).ok w ∧ (tabRow L.bt L.bp L.o L.bf L.bg L.n).ok w ∧ (frC L.bf L.n k.fr).ok w ∧ (memRow L M.turned).ok w := by
  obtain ⟨k, h1, h2⟩ := exC_ok h
  exact ⟨k, h1, h2 _ (.head _ _), h2 _ (.tail _ (.head _ _)), h2 _ (.tail _ (.tail _ (.head _ _))), h2 _ (.tail _ (.tail _ (.tail _ (.tail _ (.head _ _)))))⟩

/-! ### the table -/
theorem pages_ok (bt bp o bf bg n : Nat) (w : World) (h : (tabRow bt bp o bf bg n).ok w) : Ctr Tryz.prog 92 [.pointer (some ⟨bt, 0, none⟩)] w [] (fun v cs => v = .int .i64 n ∧ cs = []) := by
  refine fn_ctr Tryz.func92 rfl Tryz.ntmps92 rfl (Inv.start w) ?_
  refine wc_seq ?_
  refine wc_region ?_
  refine wl_y (y_assign (ev_rfl rfl)) (fun _ _ => trivial) rfl ?_
  refine wl_nil ?_
  refine q_then ?_
  refine wc_seq ?_
  refine wc_region ?_
  refine wl_y (y_move (ev_rfl rfl)) (fun _ _ => trivial) rfl ?_
  refine wl_y (y_nil (ev_rfl rfl)) (fun _ _ => trivial) rfl ?_
  refine wl_y (y_field 2 rfl (ev_rfl rfl) (by first | exact Nat.zero_add _ | exact rfl)) (fun _ _ => trivial) rfl ?_
  refine wl_y (y_load (fun _ => rfl) (ev_rfl rfl)) (old_row (by assumption) rfl) rfl ?_
  refine wl_y (y_len ⟨_, rfl⟩ (ev_rfl rfl)) (fun _ _ => trivial) rfl ?_
  refine wl_y (y_assign (ev_rfl rfl)) (fun _ _ => trivial) rfl ?_
  refine wl_nil ?_
  refine q_then ?_
  refine wc_ret ?_
  refine ret1 (cs' := []) (.inl rfl) (by ((repeat (first | exact List.Sublist.slnil | refine List.Sublist.cons_cons _ ?_ | refine List.Sublist.cons _ ?_)))) rfl rfl ?_
  exact ⟨rfl, rfl⟩
theorem tis_ok (bt bp o bf bg n p : Nat) (w : World) (h : (tabRow bt bp o bf bg n).ok w) : Ctr Tryz.prog 121 [.pointer (some ⟨bt, 0, none⟩), .int .i64 p] w [] (fun v cs => v = .bool (decide (p < n)) ∧ cs = []) := by
  refine fn_ctr Tryz.func121 rfl Tryz.ntmps121 rfl (Inv.start w) ?_
  refine wc_seq ?_
  refine wc_region ?_
  refine wl_y (y_assign (ev_rfl rfl)) (fun _ _ => trivial) rfl ?_
  refine wl_nil ?_
  refine q_then ?_
  refine wc_seq ?_
  refine wc_region ?_
  refine wl_y (y_move (ev_rfl rfl)) (fun _ _ => trivial) rfl ?_
  refine wl_y (y_geq (ev_rfl rfl) (ev_rfl rfl) rfl) (fun _ _ => trivial) rfl ?_
  refine wl_y (y_move (ev_rfl rfl)) (fun _ _ => trivial) rfl ?_
  refine wl_yg (guard_yes rfl rfl) (y_move (ev_rfl rfl)) (fun _ _ => trivial) rfl ?_
  refine wl_yg (guard_yes rfl rfl) (y_move (ev_rfl rfl)) (fun _ _ => trivial) rfl ?_
  refine wl_yg (guard_yes rfl rfl) (y_nil (ev_g rfl)) (fun _ _ => trivial) rfl ?_
  refine wl_yg (guard_yes rfl rfl) (y_field 2 rfl (ev_g rfl) (by first | exact Nat.zero_add _ | exact rfl)) (fun _ _ => trivial) rfl ?_
  refine wl_yg (guard_yes rfl rfl) (y_load (fun _ => rfl) (ev_g rfl)) (old_row (by assumption) rfl) rfl ?_
  refine wl_yg (guard_yes rfl rfl) (y_len ⟨_, rfl⟩ (ev_g rfl)) (fun _ _ => trivial) rfl ?_
  refine wl_yg (guard_yes rfl rfl) (y_lss (ev_g rfl) (ev_g rfl) rfl) (fun _ _ => trivial) rfl ?_
  refine wl_y (y_and (ev_rfl rfl) (pk_yes rfl (fun _ => rfl))) (fun _ _ => trivial) rfl ?_
  refine wl_y (y_assign (ev_rfl rfl)) (fun _ _ => trivial) rfl ?_
  refine wl_nil ?_
  refine q_then ?_
  refine wc_ret ?_
  refine ret1 (cs' := []) (.inl rfl) (by ((repeat (first | exact List.Sublist.slnil | refine List.Sublist.cons_cons _ ?_ | refine List.Sublist.cons _ ?_)))) rfl rfl ?_
  rw [decide_eq_true (show (0 : Int) ≤ p by omega), show decide ((p : Int) < n) = decide (p < n) from decide_eq_decide.2 (by omega)]
  exact ⟨rfl, rfl⟩
/-- What a page's frame is told as. -/
def frameOf (f : Int) : Value := bif f == -1 then .tuple #[.int .i64 0, .bool false] else .tuple #[.int .i64 f, .bool true]
theorem tframe_ok (bt bp o bf bg n p : Nat) (fr : List Int) (f : Int) (hp : p < n) (hf : fr[p]? = some f) (w : World) (h : (tabRow bt bp o bf bg n).ok w) (h2 : (frC bf n fr).ok w) :
    Ctr Tryz.prog 94 [.pointer (some ⟨bt, 0, none⟩), .int .i64 p] w [] (fun v cs => v = frameOf f ∧ cs = []) := by
  have hrd := slvok_rd h2
  refine fn_ctr Tryz.func94 rfl Tryz.ntmps94 rfl (Inv.start w) ?_
  refine wc_seq ?_
  refine wc_region ?_
  refine wl_y (y_assign (ev_rfl rfl)) (fun _ _ => trivial) rfl ?_
  refine wl_y (y_assign (ev_rfl rfl)) (fun _ _ => trivial) rfl ?_
  refine wl_nil ?_
  refine q_then ?_
  refine wc_seq ?_
  refine wc_seq ?_
  refine wc_region ?_
  refine wl_y (y_move (ev_rfl rfl)) (fun _ _ => trivial) rfl ?_
  refine wl_y (y_move (ev_rfl rfl)) (fun _ _ => trivial) rfl ?_
  refine wl_t (t_call rfl (fun _ _ => rfl) (fun w hi => tis_ok bt bp o bf bg n p w (Chunk.old h hi))) rfl ?_
  rintro _ _ ⟨_, ⟨rfl, rfl⟩, rfl⟩
  rw [decide_eq_true hp]
  refine wl_y (y_not (ev_rfl rfl) rfl) (fun _ _ => trivial) rfl ?_
  refine wl_y (y_move (ev_rfl rfl)) (fun _ _ => trivial) rfl ?_
  refine wl_yg (guard_no rfl rfl) (y_move (ev_rfl rfl)) (fun _ _ => trivial) rfl ?_
  refine wl_yg (guard_no rfl rfl) (y_nil (ev_g rfl)) (fun _ _ => trivial) rfl ?_
  refine wl_yg (guard_no rfl rfl) (y_field 2 rfl (ev_g rfl) (by first | exact Nat.zero_add _ | exact rfl)) (fun _ _ => trivial) rfl ?_
  refine wl_yg (guard_no rfl rfl) (y_load (fun _ => rfl) (ev_g rfl)) (old_row (by assumption) rfl) rfl ?_
  refine wl_yg (guard_no rfl rfl) (y_move (ev_rfl rfl)) (fun _ _ => trivial) rfl ?_
  refine wl_yg (guard_no rfl rfl) (y_index (j := p)  rfl (fun _ => rfl) (ev_g rfl) (ev_g rfl)  (fun _ => by omega) (fun _ => by omega)) (fun _ _ => trivial) rfl ?_
  refine wl_yg (guard_no rfl rfl) (y_load (fun _ => rfl) (ev_g rfl)) (rd_cell hrd (ints_at hf)) rfl ?_
  refine wl_yg (guard_no rfl rfl) (y_eql (ev_g rfl) (ev_rfl rfl) rfl) (fun _ _ => trivial) rfl ?_
  refine wl_y (y_or (ev_rfl rfl) (pk_no rfl (fun _ => rfl))) (fun _ _ => trivial) rfl ?_
  refine wl_nil ?_
  refine q_then ?_
  refine wc_cond _ rfl (fun hc1 => ?_) (fun hc1 => ?_)
  · have hc : (f == -1) = true := hc1
    simp only [frameOf, hc, cond_true]
    refine wc_seq ?_
    refine wc_region ?_
    refine wl_y (y_assign (ev_rfl rfl)) (fun _ _ => trivial) rfl ?_
    refine wl_y (y_assign (ev_rfl rfl)) (fun _ _ => trivial) rfl ?_
    refine wl_nil ?_
    refine q_then ?_
    refine wc_ret ?_
    refine q_then_ret ?_
    refine ret2 (cs' := []) (.inl rfl) (by ((repeat (first | exact List.Sublist.slnil | refine List.Sublist.cons_cons _ ?_ | refine List.Sublist.cons _ ?_)))) rfl rfl rfl ?_
    exact ⟨rfl, rfl⟩
  · have hc : (f == -1) = false := hc1
    simp only [frameOf, hc, cond_false]
    refine wc_skip ?_
    refine q_then ?_
    refine wc_seq ?_
    refine wc_region ?_
    refine wl_y (y_move (ev_rfl rfl)) (fun _ _ => trivial) rfl ?_
    refine wl_y (y_nil (ev_rfl rfl)) (fun _ _ => trivial) rfl ?_
    refine wl_y (y_field 2 rfl (ev_rfl rfl) (by first | exact Nat.zero_add _ | exact rfl)) (fun _ _ => trivial) rfl ?_
    refine wl_y (y_load (fun _ => rfl) (ev_rfl rfl)) (old_row (by assumption) rfl) rfl ?_
    refine wl_y (y_move (ev_rfl rfl)) (fun _ _ => trivial) rfl ?_
    refine wl_y (y_index (j := p)  rfl (fun _ => rfl) (ev_rfl rfl) (ev_rfl rfl)  (fun _ => by omega) (fun _ => by omega)) (fun _ _ => trivial) rfl ?_
    refine wl_y (y_load (fun _ => rfl) (ev_rfl rfl)) (rd_cell hrd (ints_at hf)) rfl ?_
    refine wl_y (y_assign (ev_rfl rfl)) (fun _ _ => trivial) rfl ?_
    refine wl_y (y_assign (ev_rfl rfl)) (fun _ _ => trivial) rfl ?_
    refine wl_nil ?_
    refine q_then ?_
    refine wc_ret ?_
    refine ret2 (cs' := []) (.inl rfl) (by ((repeat (first | exact List.Sublist.slnil | refine List.Sublist.cons_cons _ ?_ | refine List.Sublist.cons _ ?_)))) rfl rfl rfl ?_
    exact ⟨rfl, rfl⟩
/-- A page without a frame is given one. -/
theorem tmap_ok (bt bp o bf bg n p : Nat) (B ow pr fr : List Int) (hl : PoolLen B ow pr) (ho : o < 4) (hn : pr[o]? = some (n : Int)) (hlt : (heldTo ow o 256).length < n) (f0 : Nat) (h16 : 16 ≤ f0) (h256 : f0 < 256) (hf0 : ow[f0]? = some (-1)) (hp : p < n) (hf : fr[p]? = some (-1)) (w : World)
    (hi : Inv w (blocks [tabRow bt bp o bf bg n, frC bf n fr, poolC bp B ow pr]) [tabRow bt bp o bf bg n, frC bf n fr, poolC bp B ow pr] w) :
    Ctr Tryz.prog 130 [.pointer (some ⟨bt, 0, none⟩), .int .i64 p] w [tabRow bt bp o bf bg n, frC bf n fr, poolC bp B ow pr] (fun v cs => ∃ f : Nat, 16 ≤ f ∧ f < 256 ∧ ow[f]? = some (-1) ∧ v = .tuple #[.int .i64 f, .int .i64 0] ∧ cs = [poolC bp (zeroFrame B f) (ow.set f o) pr, tabRow bt bp o bf bg n, frC bf n (fr.set p f)]) := by
  refine fn_ctr Tryz.func130 rfl Tryz.ntmps130 rfl hi ?_
  refine wc_seq ?_
  refine wc_region ?_
  refine wl_y (y_assign (ev_rfl rfl)) (fun _ _ => trivial) rfl ?_
  refine wl_y (y_assign (ev_rfl rfl)) (fun _ _ => trivial) rfl ?_
  refine wl_nil ?_
  refine q_then ?_
  refine wc_seq ?_
  refine wc_seq ?_
  refine wc_region ?_
  refine wl_y (y_move (ev_rfl rfl)) (fun _ _ => trivial) rfl ?_
  refine wl_y (y_move (ev_rfl rfl)) (fun _ _ => trivial) rfl ?_
  refine wl_t (t_call rfl (fun _ _ => rfl) (fun w hi => tis_ok bt bp o bf bg n p w (hi.get (by repeat (first | exact .head _ _ | apply Has.tail))))) rfl ?_
  rintro _ _ ⟨_, ⟨rfl, rfl⟩, rfl⟩
  rw [decide_eq_true hp]
  refine wl_y (y_not (ev_rfl rfl) rfl) (fun _ _ => trivial) rfl ?_
  refine wl_nil ?_
  refine q_then ?_
  refine wc_cond_f rfl (rfl) ?_
  refine wc_skip ?_
  refine q_then ?_
  refine wc_seq ?_
  refine wc_seq ?_
  refine wc_region ?_
  refine wl_y (y_move (ev_rfl rfl)) (fun _ _ => trivial) rfl ?_
  refine wl_y (y_move (ev_rfl rfl)) (fun _ _ => trivial) rfl ?_
  refine wl_t (t_call rfl (fun _ _ => rfl) (fun w hi => tframe_ok bt bp o bf bg n p fr (-1) hp hf w (hi.get (by repeat (first | exact .head _ _ | apply Has.tail))) (hi.get (by repeat (first | exact .head _ _ | apply Has.tail))))) rfl ?_
  rintro _ _ ⟨_, ⟨rfl, rfl⟩, rfl⟩
  refine wl_y (y_move (ev_rfl rfl)) (fun _ _ => trivial) rfl ?_
  refine wl_y (y_extractN (ev_rfl rfl) (.zero _ _)) (fun _ _ => trivial) rfl ?_
  refine wl_y (y_extractN (ev_rfl rfl) (.succ _ (.zero _ _))) (fun _ _ => trivial) rfl ?_
  refine wl_y (y_assign (ev_rfl rfl)) (fun _ _ => trivial) rfl ?_
  refine wl_y (y_assign (ev_rfl rfl)) (fun _ _ => trivial) rfl ?_
  refine wl_nil ?_
  refine q_then ?_
  refine wc_seq ?_
  refine wc_region ?_
  refine wl_y (y_move (ev_rfl rfl)) (fun _ _ => trivial) rfl ?_
  refine wl_nil ?_
  refine q_then ?_
  refine wc_cond_f rfl (rfl) ?_
  refine wc_skip ?_
  refine q_then ?_
  refine wc_seq ?_
  refine wc_draw ⟨fun j => List.elem j [8], []⟩ (by kernel_rfl) ?_
  refine wa_yn 0 rfl (by kernel_rfl) (by kernel_rfl) (by kernel_rfl) (y_move (ev_rfl rfl)) rfl ?_
  refine wa_yn 1 rfl (by kernel_rfl) (by kernel_rfl) (by kernel_rfl) (y_nil (ev_rfl rfl)) rfl ?_
  refine wa_yn 2 rfl (by kernel_rfl) (by kernel_rfl) (by kernel_rfl) (y_field 0 rfl (ev_rfl rfl) (by first | exact Nat.zero_add _ | exact rfl)) rfl ?_
  refine wa_ln 3 rfl (by kernel_rfl) (by kernel_rfl) (by kernel_rfl) (by kernel_rfl) (y_load (fun _ => rfl) (ev_rfl rfl)) (row_cell (by repeat (first | exact .head _ _ | apply Has.tail)) rfl) rfl ?_
  refine wa_yn 4 rfl (by kernel_rfl) (by kernel_rfl) (by kernel_rfl) (y_move (ev_rfl rfl)) rfl ?_
  refine wa_yn 5 rfl (by kernel_rfl) (by kernel_rfl) (by kernel_rfl) (y_nil (ev_rfl rfl)) rfl ?_
  refine wa_yn 6 rfl (by kernel_rfl) (by kernel_rfl) (by kernel_rfl) (y_field 1 rfl (ev_rfl rfl) (by first | exact Nat.zero_add _ | exact rfl)) rfl ?_
  refine wa_ln 7 rfl (by kernel_rfl) (by kernel_rfl) (by kernel_rfl) (by kernel_rfl) (y_load (fun _ => rfl) (ev_rfl rfl)) (row_cell (by repeat (first | exact .head _ _ | apply Has.tail)) rfl) rfl ?_
  refine wa_1 8 (by kernel_rfl) ?_
  refine wi_t rfl rfl (t_callS ([poolC bp B ow pr]) rfl (fun _ _ => rfl) (by repeat (first | exact .nil _ | (apply Split.cons; (repeat (first | exact .head _ _ | apply Del.tail))))) (fun w hi hin => take_ok bp B ow pr hl o ho n hn (by omega) f0 h16 h256 hf0 w hin)) (fun _ _ _ _ _ _ _ h => by cases h) rfl ?_
  rintro _ _ ⟨_, ⟨f, hf1, hf2, hf3, rfl, rfl⟩, rfl⟩
  refine wa_yn 9 rfl (by kernel_rfl) (by kernel_rfl) (by kernel_rfl) (y_move (ev_rfl rfl)) rfl ?_
  refine wa_yn 10 rfl (by kernel_rfl) (by kernel_rfl) (by kernel_rfl) (y_extractN (ev_rfl rfl) (.zero _ _)) rfl ?_
  refine wa_yn 11 rfl (by kernel_rfl) (by kernel_rfl) (by kernel_rfl) (y_extractN (ev_rfl rfl) (.succ _ (.zero _ _))) rfl ?_
  refine wa_yn 12 rfl (by kernel_rfl) (by kernel_rfl) (by kernel_rfl) (y_assign (ev_rfl rfl)) rfl ?_
  refine wa_yn 13 rfl (by kernel_rfl) (by kernel_rfl) (by kernel_rfl) (y_assign (ev_rfl rfl)) rfl ?_
  refine wa_done (by kernel_rfl) ?_
  refine q_then ?_
  refine wc_seq ?_
  refine wc_seq ?_
  refine wc_region ?_
  refine wl_y (y_move (ev_rfl rfl)) (fun _ _ => trivial) rfl ?_
  refine wl_y (y_eql (ev_rfl rfl) (ev_rfl rfl) rfl) (fun _ _ => trivial) rfl ?_
  refine wl_nil ?_
  refine q_then ?_
  refine wc_cond_t rfl (rfl) ?_
  refine wc_region ?_
  refine wl_y (y_move (ev_rfl rfl)) (fun _ _ => trivial) rfl ?_
  refine wl_y (y_nil (ev_rfl rfl)) (fun _ _ => trivial) rfl ?_
  refine wl_y (y_field 2 rfl (ev_rfl rfl) (by first | exact Nat.zero_add _ | exact rfl)) (fun _ _ => trivial) rfl ?_
  refine wl_y (y_load (fun _ => rfl) (ev_rfl rfl)) (row_cell (by repeat (first | exact .head _ _ | apply Has.tail)) rfl) rfl ?_
  refine wl_y (y_move (ev_rfl rfl)) (fun _ _ => trivial) rfl ?_
  refine wl_y (y_move (ev_rfl rfl)) (fun _ _ => trivial) rfl ?_
  refine wl_y (y_indexR (j := p) (sz := 1) (r := p) rfl (fun _ => rfl) (ev_rfl rfl) (ev_rfl rfl) (fun _ => by omega) (fun _ => by omega) (by omega)) (fun _ _ => trivial) rfl ?_
  refine wl_t0 (t_storeS (fun _ => rfl) rfl rfl rfl (by repeat (first | exact aH | apply aT)) (by omega)) ?_
  rintro _ _ ⟨rfl, rfl⟩
  rw [ints_set']
  refine wl_nil ?_
  refine q_then ?_
  refine wc_seq ?_
  refine wc_region ?_
  refine wl_y (y_move (ev_rfl rfl)) (fun _ _ => trivial) rfl ?_
  refine wl_y (y_move (ev_rfl rfl)) (fun _ _ => trivial) rfl ?_
  refine wl_y (y_assign (ev_rfl rfl)) (fun _ _ => trivial) rfl ?_
  refine wl_y (y_assign (ev_rfl rfl)) (fun _ _ => trivial) rfl ?_
  refine wl_nil ?_
  refine q_then ?_
  refine wc_ret ?_
  refine ret2 (cs' := [row _ _ _, row _ _ _, slv _ _ _ _ _ _]) (.inl rfl) (by ((repeat (first | exact List.Sublist.slnil | refine List.Sublist.cons_cons _ ?_ | refine List.Sublist.cons _ ?_)))) rfl rfl rfl ?_
  exact ⟨f, hf1, hf2, hf3, rfl, rfl⟩
end Go.Proofs.YtobjiljkfmcalaaGreat
