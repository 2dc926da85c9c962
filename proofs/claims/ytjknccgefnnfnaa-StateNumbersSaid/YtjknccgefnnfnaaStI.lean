/- word, Encode, Equal, Same. -/
import Derived.Test.YtjknccgefnnfnaaInkG
import Derived.Test.YtjknccgefnnfnaaStF
set_option linter.unusedSimpArgs false
set_option linter.unusedVariables false
namespace Go.Ink
open Go.RowKit
/-- A number's four bytes, the low one first. -/
def le4 (v : Int) : List Int := [v % 256, v / 256 % 256, v / 65536 % 256, v / 16777216 % 256]
def words (l : List Int) : List Int := l.flatMap le4
theorem le4_len (a : List Int) (v : Int) : a.length + 4 = (a ++ le4 v).length := by simp [le4]
theorem le4_ints (a : List Int) (v : Int) : ints .u8 a ++ [Value.int .u8 (v % 256), .int .u8 (v / 256 % 256), .int .u8 (v / 65536 % 256), .int .u8 (v / 16777216 % 256)] = ints .u8 (a ++ le4 v) := ints_append a (le4 v)
theorem words_nil : words [] = [] := rfl
theorem words_append (a b : List Int) : words (a ++ b) = words a ++ words b := by simp [words]
theorem words_len : ∀ l : List Int, (words l).length = l.length * 4
  | [] => rfl
  | x :: l => by
    have := words_len l
    simp only [words] at this
    simp [words, le4, this]
    omega
theorem words_byte (l : List Int) : ∀ n, n ∈ words l → 0 ≤ n ∧ n ≤ 255 := by
  intro n hn
  simp only [words, List.mem_flatMap, le4] at hn
  obtain ⟨v, _, hv⟩ := hn
  simp at hv
  omega
theorem u8_wrap (a : Int) : IntKind.u8.wrap a = a % 256 := by rw [IntKind.wrap_u8]
theorem u32_wrap (a : Int) : IntKind.u32.wrap a = a % 4294967296 := by rw [IntKind.wrap_u32]
theorem shr_eq (a : Int) (n : Nat) : a.fdiv (2 ^ n) = a / 2 ^ n := Int.fdiv_eq_ediv_of_nonneg a (by exact Int.le_of_lt (Int.pow_pos (by decide)))
theorem shr8 (a : Int) : a.fdiv (2 ^ (min (8 : Int).toNat IntKind.u32.bits)) = a / 256 := shr_eq a 8
theorem shr16 (a : Int) : a.fdiv (2 ^ (min (16 : Int).toNat IntKind.u32.bits)) = a / 65536 := shr_eq a 16
theorem shr24 (a : Int) : a.fdiv (2 ^ (min (24 : Int).toNat IntKind.u32.bits)) = a / 16777216 := shr_eq a 24
theorem shr32 (a : Int) : a.fdiv (2 ^ (min (32 : Int).toNat IntKind.u64.bits)) = a / 4294967296 := shr_eq a 32
def St.truths (s : St) : Int := b2i s.super + b2i s.paging * 2 + b2i s.ie * 4 + b2i s.esuper * 8 + b2i s.eie * 16 + b2i s.halted * 32
def St.enc (s : St) : List Int :=
  (words [s.pc, s.d.length] ++ words s.d ++ words [(s.r.length : Int)] ++ words s.r ++ words [s.flags] ++ [s.truths]) ++ words [s.root, s.vec, s.epc, s.cause, s.addr, s.count % 4294967296, s.count / 4294967296]
theorem truths_bits : ∀ x1 x2 x3 x4 x5 x6 : Bool, bits .or .u32 (bits .or .u32 (bits .or .u32 (bits .or .u32 (bits .or .u32 (IntKind.u32.wrap (b2i x1 * 1)) (IntKind.u32.wrap (b2i x2 * 2))) (IntKind.u32.wrap (b2i x3 * 4))) (IntKind.u32.wrap (b2i x4 * 8))) (IntKind.u32.wrap (b2i x5 * 16))) (IntKind.u32.wrap (b2i x6 * 32)) =
    b2i x1 + b2i x2 * 2 + b2i x3 * 4 + b2i x4 * 8 + b2i x5 * 16 + b2i x6 * 32 := by decide +kernel
theorem St.truths_rng (s : St) : 0 ≤ s.truths ∧ s.truths ≤ 63 := by
  unfold St.truths
  cases s.super <;> cases s.paging <;> cases s.ie <;> cases s.esuper <;> cases s.eie <;> cases s.halted <;> decide
theorem St.enc_byte (s : St) : ∀ n, n ∈ s.enc → 0 ≤ n ∧ n ≤ 255 := by
  intro n hn
  have ht := s.truths_rng
  simp only [St.enc, List.mem_append, List.mem_singleton] at hn
  rcases hn with (((((h | h) | h) | h) | h) | h) | h
  all_goals first | exact words_byte _ n h | omega
def St.encOf (s : St) : List Int := bif s.right then s.enc else []
def St.encE (s : St) : Int := bif s.right then 0 else 12
end Go.Ink
namespace Go.Proofs.Ytjknccgefnnfnaa
open Go.RowKit Go.Ink

theorem word_aux (A A2 : Option Addr) (c c2 : Nat) (bs xs : List Int) (w : World) (hi : Inv w (blocks [sl .u8 5 A (bs ++ words (xs.take 0)).length c (bs ++ words (xs.take 0))]) [sl .u8 5 A (bs ++ words (xs.take 0)).length c (bs ++ words (xs.take 0))] w) (h2 : ∀ w', Keep (blocks [sl .u8 5 A (bs ++ words (xs.take 0)).length c (bs ++ words (xs.take 0))]) w w' → Rd w' .u32 A2 xs.length c2 xs)
    (hb : bs.length + xs.length * 4 ≤ 140737488355328) :
    Ctr Try.prog 29 [.slice A (bs ++ words (xs.take 0)).length c, .slice A2 xs.length c2] w [sl .u8 5 A (bs ++ words (xs.take 0)).length c (bs ++ words (xs.take 0))] (fun v cs => ∃ A' c', v = .slice A' (bs ++ words xs).length c' ∧ cs = [sl .u8 5 A' (bs ++ words xs).length c' (bs ++ words xs)]) := by
  have h2w := h2 w (Keep.refl _ _)
  have hm := h2w.max
  have hc := h2w.cap
  unfold maxLen at hm
  refine fn_ctr Try.func29 rfl Try.ntmps29 rfl hi ?_
  refine wc_seq ?_
  refine wc_region ?_
  refine wl_y (y_assign (ev_rfl rfl)) (fun _ _ => trivial) rfl ?_
  refine wl_nil ?_
  refine q_then ?_
  refine wc_seq ?_
  refine wc_seq ?_
  refine wc_region ?_
  refine wl_y (y_move (ev_rfl rfl)) (fun _ _ => trivial) rfl ?_
  refine wl_y (y_len ⟨_, rfl⟩ (ev_rfl rfl)) (fun _ _ => trivial) rfl ?_
  refine wl_y (y_move (ev_rfl rfl)) (fun _ _ => trivial) rfl ?_
  refine wl_nil ?_
  refine q_then ?_
  refine wc_block ?_
  refine wc_loop (fun s : Nat × Option Addr × Nat => [(0, .slice s.2.1 (bs ++ words (xs.take s.1)).length s.2.2), (7, .slice A2 xs.length c2), (8, .int .i64 xs.length), (9, .int .i64 s.1)]) (fun s => [sl .u8 5 s.2.1 (bs ++ words (xs.take s.1)).length s.2.2 (bs ++ words (xs.take s.1))]) (fun s => s.1 ≤ xs.length) (fun s => xs.length - s.1) ((0, A, c)) ?_ ?_ ?_ ?_
  · exact Nat.zero_le _
  · ((repeat' (refine Wk.cons ?_ ?_)) <;> first | exact Wk.nil | exact rfl | exact trivial | exact wk_num rfl (by omega) | exact wk_num rfl (by simp))
  · ((repeat (first | exact List.Sublist.slnil | refine List.Sublist.cons_cons _ ?_ | refine List.Sublist.cons _ ?_)))
  · rintro ⟨k, A1, c1⟩ hk
    simp only at hk
    dsimp only
    refine wc_seq ?_
    refine wc_region ?_
    refine wl_y (y_lss (ev_rfl rfl) (ev_rfl rfl) rfl) (fun _ _ => trivial) rfl ?_
    refine wl_nil ?_
    refine q_then ?_
    refine wc_seq ?_
    refine wc_cond _ rfl (fun hc2 => ?_) (fun hc2 => ?_)
    · simp only [decide_eq_true_eq] at hc2
      obtain ⟨ad2, rfl⟩ := h2w.some_ (by omega)
      have hlk : (bs ++ words (xs.take k)).length = bs.length + k * 4 := by rw [List.length_append, words_len, List.length_take]; omega
      refine wc_skip ?_
      refine q_then ?_
      refine wc_seq ?_
      refine wc_block ?_
      refine wc_seq ?_
      refine wc_region ?_
      refine wl_y (y_index (j := k)  rfl (fun _ => rfl) (ev_rfl rfl) (ev_rfl rfl)  (fun _ => by omega) (fun _ => by omega)) (fun _ _ => trivial) rfl ?_
      refine wl_y (y_load (fun _ => rfl) (ev_rfl rfl)) (rd_cellK h2 (ints_get (show k < xs.length by omega))) rfl ?_
      refine wl_y (y_assign (ev_rfl rfl)) (fun _ _ => trivial) rfl ?_
      refine wl_nil ?_
      refine q_then ?_
      refine wc_region ?_
      refine wl_y (y_move (ev_rfl rfl)) (fun _ _ => trivial) rfl ?_
      refine wl_y (y_move (ev_rfl rfl)) (fun _ _ => trivial) rfl ?_
      refine wl_y (y_conv rfl rfl (ev_rfl rfl) (u8_wrap _)) (fun _ _ => trivial) rfl ?_
      refine wl_y (y_move (ev_rfl rfl)) (fun _ _ => trivial) rfl ?_
      refine wl_y (y_shr (ev_rfl rfl) (ev_rfl rfl) (by omega) (shr8 _)) (fun _ _ => trivial) rfl ?_
      refine wl_y (y_conv rfl rfl (ev_rfl rfl) (u8_wrap _)) (fun _ _ => trivial) rfl ?_
      refine wl_y (y_move (ev_rfl rfl)) (fun _ _ => trivial) rfl ?_
      refine wl_y (y_shr (ev_rfl rfl) (ev_rfl rfl) (by omega) (shr16 _)) (fun _ _ => trivial) rfl ?_
      refine wl_y (y_conv rfl rfl (ev_rfl rfl) (u8_wrap _)) (fun _ _ => trivial) rfl ?_
      refine wl_y (y_move (ev_rfl rfl)) (fun _ _ => trivial) rfl ?_
      refine wl_y (y_shr (ev_rfl rfl) (ev_rfl rfl) (by omega) (shr24 _)) (fun _ _ => trivial) rfl ?_
      refine wl_y (y_conv rfl rfl (ev_rfl rfl) (u8_wrap _)) (fun _ _ => trivial) rfl ?_
      refine wl_t (t_buildSl1 rfl rfl (fun _ => rfl) (fun _ => rfl) rfl rfl) rfl ?_
      rintro _ _ ⟨b25, rfl, rfl⟩
      refine wl_t (t_append (e := 5) (sz := 1) (bytes := 1) rfl rfl (by first | exact atC0 | exact atC1 | exact atC2 | exact atC3 | exact atC4 | exact atC5 | exact atC6 | exact atC7 | exact atC8 | exact atC9 | exact atC10 | exact atC11 | exact atC12 | exact atC13 | exact atC14 | exact atC15 | exact atC16 | exact atC17 | exact atC18 | exact atC19 | exact atC20 | exact atC21 | exact atC22 | exact atC23) rfl rfl (fun w hi => hi.rd (.tail _ (.head _ _))) (allT rfl) (by simp only [maxLen]; omega) (by omega)) rfl ?_
      rintro _ _ ⟨A3, c3, rfl, rfl⟩
      have hnx : words (xs.take (k + 1)) = words (xs.take k) ++ le4 (xs[k]'(by omega)) := by rw [List.take_succ_eq_append_getElem (by omega), words_append]; simp [words]
      have e1 : (bs ++ words (xs.take k)).length + 4 = (bs ++ words (xs.take (k + 1))).length := by rw [hnx, ← List.append_assoc]; exact le4_len _ _
      have e2 : ints .u8 (bs ++ words (xs.take k)) ++ [Value.int .u8 ((xs[k]'(by omega)) % 256), .int .u8 ((xs[k]'(by omega)) / 256 % 256), .int .u8 ((xs[k]'(by omega)) / 65536 % 256), .int .u8 ((xs[k]'(by omega)) / 16777216 % 256)] = ints .u8 (bs ++ words (xs.take (k + 1))) := by rw [hnx, ← List.append_assoc]; exact le4_ints _ _
      rw [e1, e2]
      refine wl_y (y_assign (ev_rfl rfl)) (fun _ _ => trivial) rfl ?_
      refine wl_nil ?_
      refine q_block ?_
      refine q_then ?_
      refine wc_region ?_
      refine wl_y (y_add (ev_rfl rfl) (ev_rfl rfl) (by first | exact IntWalk.i64_in _ ⟨by omega, by omega⟩ | exact rfl)) (fun _ _ => trivial) rfl ?_
      refine wl_y (y_move (ev_rfl rfl)) (fun _ _ => trivial) rfl ?_
      refine wl_nil ?_
      refine q_mid ((k + 1, A3, c3)) ?_ ?_ ?_
      · exact ⟨by show k + 1 ≤ xs.length; omega, by show xs.length - (k + 1) < xs.length - k; omega⟩
      · ((repeat' (refine Wk.cons ?_ ?_)) <;> first | exact Wk.nil | exact rfl | exact trivial | exact wk_num rfl (by omega) | exact wk_num rfl (by simp))
      · ((repeat (first | exact List.Sublist.slnil | refine List.Sublist.cons_cons _ ?_ | refine List.Sublist.cons _ ?_)))
    · simp only [decide_eq_false_iff_not] at hc2
      obtain rfl : k = xs.length := by omega
      simp only [List.take_length]
      refine wc_exit ?_
      refine q_then_exit ?_
      refine q_then_exit ?_
      refine q_block_same rfl ?_
      refine q_then ?_
      refine wc_seq ?_
      refine wc_region ?_
      refine wl_y (y_move (ev_rfl rfl)) (fun _ _ => trivial) rfl ?_
      refine wl_y (y_assign (ev_rfl rfl)) (fun _ _ => trivial) rfl ?_
      refine wl_nil ?_
      refine q_then ?_
      refine wc_ret ?_
      refine ret1 (cs' := [sl _ _ _ _ _ _]) (.inl rfl) (by ((repeat (first | exact List.Sublist.slnil | refine List.Sublist.cons_cons _ ?_ | refine List.Sublist.cons _ ?_)))) rfl rfl ?_
      exact ⟨_, _, rfl, rfl⟩
theorem word_ok (A A2 : Option Addr) (c c2 : Nat) (bs xs : List Int) (w : World) (hi : Inv w (blocks [sl .u8 5 A bs.length c bs]) [sl .u8 5 A bs.length c bs] w) (h2 : ∀ w', Keep (blocks [sl .u8 5 A bs.length c bs]) w w' → Rd w' .u32 A2 xs.length c2 xs)
    (hb : bs.length + xs.length * 4 ≤ 140737488355328) :
    Ctr Try.prog 29 [.slice A bs.length c, .slice A2 xs.length c2] w [sl .u8 5 A bs.length c bs] (fun v cs => ∃ A' c', v = .slice A' (bs ++ words xs).length c' ∧ cs = [sl .u8 5 A' (bs ++ words xs).length c' (bs ++ words xs)]) := by
  have e : bs ++ words (xs.take 0) = bs := by simp [words]
  have := word_aux A A2 c c2 bs xs w (by rw [e]; exact hi) (by rw [e]; exact h2) hb
  rw [e] at this
  exact this
theorem word_ok1 (A A2 : Option Addr) (c c2 : Nat) (bs xs : List Int) (w : World) (hi : Inv w (blocks [sl .u8 5 A bs.length c bs]) [sl .u8 5 A bs.length c bs] w) (h2 : ∀ w', Keep (blocks [sl .u8 5 A bs.length c bs]) w w' → Rd w' .u32 A2 xs.length c2 xs)
    (hb : bs.length + xs.length * 4 ≤ 140737488355328) :
    Ctr Try.prog 29 [.slice A bs.length c, .slice A2 xs.length c2] w [sl .u8 5 A bs.length c bs] (fun v cs => ∃ c', cs = [c'] ∧ ∃ A' cc, v = .slice A' (bs ++ words xs).length cc ∧ c' = sl .u8 5 A' (bs ++ words xs).length cc (bs ++ words xs)) :=
  (word_ok A A2 c c2 bs xs w hi h2 hb).mono fun _ _ ⟨A', cc, h1, h2⟩ => ⟨_, h2, A', cc, h1, rfl⟩
theorem one_len (a : List Int) (v : Int) : a.length + 1 = (a ++ [v]).length := by simp
theorem one_ints (a : List Int) (v : Int) : ints .u8 a ++ [Value.int .u8 v] = ints .u8 (a ++ [v]) := ints_append a [v]
theorem St.right_le {s : St} (h : s.right = true) : s.d.length ≤ 16 ∧ s.r.length ≤ 16 ∧ s.flags ≤ 15 := by
  simp only [St.right, Bool.and_eq_true, decide_eq_true_eq] at h
  omega
abbrev _root_.Go.Ink.St.e1 (s : St) : List Int := words [s.pc, s.d.length]
abbrev _root_.Go.Ink.St.e2 (s : St) : List Int := s.e1 ++ words s.d
abbrev _root_.Go.Ink.St.e3 (s : St) : List Int := s.e2 ++ words [(s.r.length : Int)]
abbrev _root_.Go.Ink.St.e4 (s : St) : List Int := s.e3 ++ words s.r
abbrev _root_.Go.Ink.St.e5 (s : St) : List Int := s.e4 ++ words [s.flags]
set_option maxRecDepth 100000 in
set_option maxHeartbeats 2000000 in
theorem encode_ok (s : St) (hs : s.wf) (Ad Ar : Option Addr) (cd cr : Nat) (w : World) (h : RdSt w s Ad Ar cd cr) :
    Ctr Try.prog 19 [sv s Ad cd Ar cr] w [] (fun v cs => ∃ A c, v = .tuple #[.slice A s.encOf.length c, .int .i64 s.encE] ∧ cs = [sl .u8 5 A s.encOf.length c s.encOf]) := by
  obtain ⟨q1, q2⟩ := hs.count
  refine fn_ctr Try.func19 rfl Try.ntmps19 rfl (Inv.start w) ?_
  refine wc_seq ?_
  refine wc_region ?_
  refine wl_t (t_box rfl rfl) rfl ?_
  rintro _ _ ⟨b1, rfl, rfl⟩
  refine wl_y (y_assign (ev_rfl rfl)) (fun _ _ => trivial) rfl ?_
  refine wl_y (y_assign (ev_rfl rfl)) (fun _ _ => trivial) rfl ?_
  refine wl_nil ?_
  refine q_then ?_
  refine wc_seq ?_
  refine wc_seq ?_
  refine wc_region ?_
  refine wl_loadRow (by first | exact hasC0 | exact hasC1 | exact hasC2 | exact hasC3 | exact hasC4 | exact hasC5 | exact hasC6 | exact hasC7 | exact hasC8 | exact hasC9 | exact hasC10 | exact hasC11 | exact hasC12 | exact hasC13 | exact hasC14 | exact hasC15 | exact hasC16 | exact hasC17 | exact hasC18 | exact hasC19 | exact hasC20 | exact hasC21 | exact hasC22 | exact hasC23) (fun _ => rfl) (fun _ => rfl) (ev_rfl rfl) rfl ?_
  refine wl_t (t_call rfl (fun _ _ => rfl) (fun w hi => right_ok s Ad Ar cd cr w)) rfl ?_
  rintro _ _ ⟨_, ⟨rfl, rfl⟩, rfl⟩
  refine wl_y (y_not (ev_rfl rfl) rfl) (fun _ _ => trivial) rfl ?_
  refine wl_nil ?_
  refine q_then ?_
  refine wc_cond _ rfl (fun hc1 => ?_) (fun hc1 => ?_)
  · have hr : s.right = false := by simpa using hc1
    have he : s.encOf = [] := by simp [St.encOf, hr]
    have he2 : s.encE = 12 := by simp [St.encE, hr]
    refine wc_seq ?_
    refine wc_region ?_
    refine wl_nilc 5 1 ?_
    refine wl_y (y_assign (ev_rfl rfl)) (fun _ _ => trivial) rfl ?_
    refine wl_y (y_assign (ev_rfl rfl)) (fun _ _ => trivial) rfl ?_
    refine wl_nil ?_
    refine q_then ?_
    refine wc_ret ?_
    refine q_then_ret ?_
    refine ret2 (cs' := [slv _ _ _ _ _ _]) (.inl rfl) (by ((repeat (first | exact List.Sublist.slnil | refine List.Sublist.cons_cons _ ?_ | refine List.Sublist.cons _ ?_)))) rfl rfl rfl ?_
    rw [he, he2]
    exact ⟨_, _, rfl, rfl⟩
  · have hr : s.right = true := by simpa using hc1
    have he : s.encOf = s.enc := by simp [St.encOf, hr]
    have he2 : s.encE = 0 := by simp [St.encE, hr]
    obtain ⟨d16, r16, fl15⟩ := St.right_le hr
    refine wc_skip ?_
    refine q_then ?_
    refine wc_seq ?_
    refine wc_region ?_
    refine wl_nilc 5 1 ?_
    refine wl_y (y_field 0 rfl (ev_rfl rfl) (by first | exact Nat.zero_add _ | exact rfl)) (fun _ _ => trivial) rfl ?_
    refine wl_y (y_load (fun _ => rfl) (ev_rfl rfl)) (row_cell (by first | exact hasC0 | exact hasC1 | exact hasC2 | exact hasC3 | exact hasC4 | exact hasC5 | exact hasC6 | exact hasC7 | exact hasC8 | exact hasC9 | exact hasC10 | exact hasC11 | exact hasC12 | exact hasC13 | exact hasC14 | exact hasC15 | exact hasC16 | exact hasC17 | exact hasC18 | exact hasC19 | exact hasC20 | exact hasC21 | exact hasC22 | exact hasC23) rfl) rfl ?_
    refine wl_y (y_field 1 rfl (ev_rfl rfl) (by first | exact Nat.zero_add _ | exact rfl)) (fun _ _ => trivial) rfl ?_
    refine wl_y (y_load (fun _ => rfl) (ev_rfl rfl)) (row_cell (by first | exact hasC0 | exact hasC1 | exact hasC2 | exact hasC3 | exact hasC4 | exact hasC5 | exact hasC6 | exact hasC7 | exact hasC8 | exact hasC9 | exact hasC10 | exact hasC11 | exact hasC12 | exact hasC13 | exact hasC14 | exact hasC15 | exact hasC16 | exact hasC17 | exact hasC18 | exact hasC19 | exact hasC20 | exact hasC21 | exact hasC22 | exact hasC23) rfl) rfl ?_
    refine wl_y (y_len ⟨_, rfl⟩ (ev_rfl rfl)) (fun _ _ => trivial) rfl ?_
    refine wl_y (y_conv rfl rfl (ev_rfl rfl) (by first | exact IntWalk.u32_in _ ⟨by omega, by omega⟩ | exact rfl)) (fun _ _ => trivial) rfl ?_
    refine wl_t (t_buildSl1 rfl rfl (fun _ => rfl) (fun _ => rfl) rfl rfl) rfl ?_
    rintro _ _ ⟨b15, rfl, rfl⟩
    refine wl_t (t_call1s rfl (fun _ _ => rfl) (by first | exact atC0 | exact atC1 | exact atC2 | exact atC3 | exact atC4 | exact atC5 | exact atC6 | exact atC7 | exact atC8 | exact atC9 | exact atC10 | exact atC11 | exact atC12 | exact atC13 | exact atC14 | exact atC15 | exact atC16 | exact atC17 | exact atC18 | exact atC19 | exact atC20 | exact atC21 | exact atC22 | exact atC23) (fun w hi => (word_ok1 none _ 0 _ [] [s.pc, (s.d.length : Int)] w (hi.one (by first | exact hasC0 | exact hasC1 | exact hasC2 | exact hasC3 | exact hasC4 | exact hasC5 | exact hasC6 | exact hasC7 | exact hasC8 | exact hasC9 | exact hasC10 | exact hasC11 | exact hasC12 | exact hasC13 | exact hasC14 | exact hasC15 | exact hasC16 | exact hasC17 | exact hasC18 | exact hasC19 | exact hasC20 | exact hasC21 | exact hasC22 | exact hasC23)) (fun w' hk => hi.rdK (by repeat (first | exact .l _ (by first | exact hasC0 | exact hasC1 | exact hasC2 | exact hasC3 | exact hasC4 | exact hasC5 | exact hasC6 | exact hasC7 | exact hasC8 | exact hasC9 | exact hasC10 | exact hasC11 | exact hasC12 | exact hasC13 | exact hasC14 | exact hasC15 | exact hasC16 | exact hasC17 | exact hasC18 | exact hasC19 | exact hasC20 | exact hasC21 | exact hasC22 | exact hasC23) | exact .r _ (by first | exact hasC0 | exact hasC1 | exact hasC2 | exact hasC3 | exact hasC4 | exact hasC5 | exact hasC6 | exact hasC7 | exact hasC8 | exact hasC9 | exact hasC10 | exact hasC11 | exact hasC12 | exact hasC13 | exact hasC14 | exact hasC15 | exact hasC16 | exact hasC17 | exact hasC18 | exact hasC19 | exact hasC20 | exact hasC21 | exact hasC22 | exact hasC23) | refine .t _ ?_)) hk) (by simp)))) rfl ?_
    rintro _ _ ⟨_, ⟨A1, c1, rfl, rfl⟩, rfl⟩
    refine wl_y (y_assign (ev_rfl rfl)) (fun _ _ => trivial) rfl ?_
    refine wl_nil ?_
    refine q_then ?_
    refine wc_seq_mid (fun q : Option Addr × Nat => [(1, .pointer (some ⟨b1, 0, none⟩)), (4, .slice q.1 s.e3.length q.2)]) (fun q => [row b1 (s.cells (.slice Ad s.d.length cd) (.slice Ar s.r.length cr)) 26, sl .u8 5 q.1 s.e3.length q.2 s.e3]) (fun _ => True) ?_ ?_
    · refine wc_draw ⟨fun j => List.elem j [3, 9], []⟩ (by kernel_rfl) ?_
      refine wa_yn 0 rfl (by kernel_rfl) (by kernel_rfl) (by kernel_rfl) (y_move (ev_rfl rfl)) rfl ?_
      refine wa_yn 1 rfl (by kernel_rfl) (by kernel_rfl) (by kernel_rfl) (y_field 1 rfl (ev_rfl rfl) (by first | exact Nat.zero_add _ | exact rfl)) rfl ?_
      refine wa_yn 4 rfl (by kernel_rfl) (by kernel_rfl) (by kernel_rfl) (y_field 2 rfl (ev_rfl rfl) (by first | exact Nat.zero_add _ | exact rfl)) rfl ?_
      refine wa_2 2 5 (by kernel_rfl) ?_ ?_
      · refine wi_yn rfl (y_load (fun _ => rfl) (ev_rfl rfl)) (row_cell (by first | exact hasC0 | exact hasC1 | exact hasC2 | exact hasC3 | exact hasC4 | exact hasC5 | exact hasC6 | exact hasC7 | exact hasC8 | exact hasC9 | exact hasC10 | exact hasC11 | exact hasC12 | exact hasC13 | exact hasC14 | exact hasC15 | exact hasC16 | exact hasC17 | exact hasC18 | exact hasC19 | exact hasC20 | exact hasC21 | exact hasC22 | exact hasC23) rfl) rfl ?_
        refine wa_2 3 5 (by kernel_rfl) ?_ ?_
        · refine wi_t rfl rfl (t_call1s rfl (fun _ _ => rfl) (by first | exact atC0 | exact atC1 | exact atC2 | exact atC3 | exact atC4 | exact atC5 | exact atC6 | exact atC7 | exact atC8 | exact atC9 | exact atC10 | exact atC11 | exact atC12 | exact atC13 | exact atC14 | exact atC15 | exact atC16 | exact atC17 | exact atC18 | exact atC19 | exact atC20 | exact atC21 | exact atC22 | exact atC23) (fun w hi => (word_ok1 A1 Ad c1 cd s.e1 s.d w (hi.one (by first | exact hasC0 | exact hasC1 | exact hasC2 | exact hasC3 | exact hasC4 | exact hasC5 | exact hasC6 | exact hasC7 | exact hasC8 | exact hasC9 | exact hasC10 | exact hasC11 | exact hasC12 | exact hasC13 | exact hasC14 | exact hasC15 | exact hasC16 | exact hasC17 | exact hasC18 | exact hasC19 | exact hasC20 | exact hasC21 | exact hasC22 | exact hasC23)) (fun w' hk => h.d.oldK hi (by first | exact hasC0 | exact hasC1 | exact hasC2 | exact hasC3 | exact hasC4 | exact hasC5 | exact hasC6 | exact hasC7 | exact hasC8 | exact hasC9 | exact hasC10 | exact hasC11 | exact hasC12 | exact hasC13 | exact hasC14 | exact hasC15 | exact hasC16 | exact hasC17 | exact hasC18 | exact hasC19 | exact hasC20 | exact hasC21 | exact hasC22 | exact hasC23) hk) (by simp only [List.length_append, words_len, List.length_cons, List.length_nil]; omega)))) (fun _ _ _ _ _ _ _ h => by cases h) rfl ?_
          rintro _ _ ⟨_, ⟨A2, c2, rfl, rfl⟩, rfl⟩
          refine wa_1 5 (by kernel_rfl) ?_
          refine wi_yn rfl (y_load (fun _ => rfl) (ev_rfl rfl)) (row_cell (by first | exact hasC0 | exact hasC1 | exact hasC2 | exact hasC3 | exact hasC4 | exact hasC5 | exact hasC6 | exact hasC7 | exact hasC8 | exact hasC9 | exact hasC10 | exact hasC11 | exact hasC12 | exact hasC13 | exact hasC14 | exact hasC15 | exact hasC16 | exact hasC17 | exact hasC18 | exact hasC19 | exact hasC20 | exact hasC21 | exact hasC22 | exact hasC23) rfl) rfl ?_
          refine wa_yn 6 rfl (by kernel_rfl) (by kernel_rfl) (by kernel_rfl) (y_len ⟨_, rfl⟩ (ev_rfl rfl)) rfl ?_
          refine wa_yn 7 rfl (by kernel_rfl) (by kernel_rfl) (by kernel_rfl) (y_conv rfl rfl (ev_rfl rfl) (by first | exact IntWalk.u32_in _ ⟨by omega, by omega⟩ | exact rfl)) rfl ?_
          refine wa_1 8 (by kernel_rfl) ?_
          refine wi_t rfl rfl (t_buildSl1 rfl rfl (fun _ => rfl) (fun _ => rfl) rfl rfl) (fun _ _ _ _ _ _ _ h => by cases h) rfl ?_
          rintro _ _ ⟨b25, rfl, rfl⟩
          refine wa_1 9 (by kernel_rfl) ?_
          refine wi_t rfl rfl (t_call1s rfl (fun _ _ => rfl) (by first | exact atC0 | exact atC1 | exact atC2 | exact atC3 | exact atC4 | exact atC5 | exact atC6 | exact atC7 | exact atC8 | exact atC9 | exact atC10 | exact atC11 | exact atC12 | exact atC13 | exact atC14 | exact atC15 | exact atC16 | exact atC17 | exact atC18 | exact atC19 | exact atC20 | exact atC21 | exact atC22 | exact atC23) (fun w hi => (word_ok1 A2 _ c2 _ s.e2 [(s.r.length : Int)] w (hi.one (by first | exact hasC0 | exact hasC1 | exact hasC2 | exact hasC3 | exact hasC4 | exact hasC5 | exact hasC6 | exact hasC7 | exact hasC8 | exact hasC9 | exact hasC10 | exact hasC11 | exact hasC12 | exact hasC13 | exact hasC14 | exact hasC15 | exact hasC16 | exact hasC17 | exact hasC18 | exact hasC19 | exact hasC20 | exact hasC21 | exact hasC22 | exact hasC23)) (fun w' hk => hi.rdK (by repeat (first | exact .l _ (by first | exact hasC0 | exact hasC1 | exact hasC2 | exact hasC3 | exact hasC4 | exact hasC5 | exact hasC6 | exact hasC7 | exact hasC8 | exact hasC9 | exact hasC10 | exact hasC11 | exact hasC12 | exact hasC13 | exact hasC14 | exact hasC15 | exact hasC16 | exact hasC17 | exact hasC18 | exact hasC19 | exact hasC20 | exact hasC21 | exact hasC22 | exact hasC23) | exact .r _ (by first | exact hasC0 | exact hasC1 | exact hasC2 | exact hasC3 | exact hasC4 | exact hasC5 | exact hasC6 | exact hasC7 | exact hasC8 | exact hasC9 | exact hasC10 | exact hasC11 | exact hasC12 | exact hasC13 | exact hasC14 | exact hasC15 | exact hasC16 | exact hasC17 | exact hasC18 | exact hasC19 | exact hasC20 | exact hasC21 | exact hasC22 | exact hasC23) | refine .t _ ?_)) hk) (by simp only [List.length_append, words_len, List.length_cons, List.length_nil]; omega)))) (fun _ _ _ _ _ _ _ h => by cases h) rfl ?_
          rintro _ _ ⟨_, ⟨A3, c3, rfl, rfl⟩, rfl⟩
          refine wa_yn 10 rfl (by kernel_rfl) (by kernel_rfl) (by kernel_rfl) (y_assign (ev_rfl rfl)) rfl ?_
          refine wa_done (by kernel_rfl) ?_
          refine q_mid ((A3, c3)) ?_ ?_ ?_
          · trivial
          · ((repeat' (refine Wk.cons ?_ ?_)) <;> first | exact Wk.nil | exact rfl | exact trivial | exact wk_num rfl (by omega) | exact wk_num rfl (by simp))
          · ((repeat (first | exact List.Sublist.slnil | refine List.Sublist.cons_cons _ ?_ | refine List.Sublist.cons _ ?_)))
        · refine wi_yn rfl (y_load (fun _ => rfl) (ev_rfl rfl)) (row_cell (by first | exact hasC0 | exact hasC1 | exact hasC2 | exact hasC3 | exact hasC4 | exact hasC5 | exact hasC6 | exact hasC7 | exact hasC8 | exact hasC9 | exact hasC10 | exact hasC11 | exact hasC12 | exact hasC13 | exact hasC14 | exact hasC15 | exact hasC16 | exact hasC17 | exact hasC18 | exact hasC19 | exact hasC20 | exact hasC21 | exact hasC22 | exact hasC23) rfl) rfl ?_
          refine wa_yn 6 rfl (by kernel_rfl) (by kernel_rfl) (by kernel_rfl) (y_len ⟨_, rfl⟩ (ev_rfl rfl)) rfl ?_
          refine wa_yn 7 rfl (by kernel_rfl) (by kernel_rfl) (by kernel_rfl) (y_conv rfl rfl (ev_rfl rfl) (by first | exact IntWalk.u32_in _ ⟨by omega, by omega⟩ | exact rfl)) rfl ?_
          refine wa_2 3 8 (by kernel_rfl) ?_ ?_
          · refine wi_t rfl rfl (t_call1s rfl (fun _ _ => rfl) (by first | exact atC0 | exact atC1 | exact atC2 | exact atC3 | exact atC4 | exact atC5 | exact atC6 | exact atC7 | exact atC8 | exact atC9 | exact atC10 | exact atC11 | exact atC12 | exact atC13 | exact atC14 | exact atC15 | exact atC16 | exact atC17 | exact atC18 | exact atC19 | exact atC20 | exact atC21 | exact atC22 | exact atC23) (fun w hi => (word_ok1 A1 Ad c1 cd s.e1 s.d w (hi.one (by first | exact hasC0 | exact hasC1 | exact hasC2 | exact hasC3 | exact hasC4 | exact hasC5 | exact hasC6 | exact hasC7 | exact hasC8 | exact hasC9 | exact hasC10 | exact hasC11 | exact hasC12 | exact hasC13 | exact hasC14 | exact hasC15 | exact hasC16 | exact hasC17 | exact hasC18 | exact hasC19 | exact hasC20 | exact hasC21 | exact hasC22 | exact hasC23)) (fun w' hk => h.d.oldK hi (by first | exact hasC0 | exact hasC1 | exact hasC2 | exact hasC3 | exact hasC4 | exact hasC5 | exact hasC6 | exact hasC7 | exact hasC8 | exact hasC9 | exact hasC10 | exact hasC11 | exact hasC12 | exact hasC13 | exact hasC14 | exact hasC15 | exact hasC16 | exact hasC17 | exact hasC18 | exact hasC19 | exact hasC20 | exact hasC21 | exact hasC22 | exact hasC23) hk) (by simp only [List.length_append, words_len, List.length_cons, List.length_nil]; omega)))) (fun _ _ _ _ _ _ _ h => by cases h) rfl ?_
            rintro _ _ ⟨_, ⟨A2, c2, rfl, rfl⟩, rfl⟩
            refine wa_1 8 (by kernel_rfl) ?_
            refine wi_t rfl rfl (t_buildSl1 rfl rfl (fun _ => rfl) (fun _ => rfl) rfl rfl) (fun _ _ _ _ _ _ _ h => by cases h) rfl ?_
            rintro _ _ ⟨b25, rfl, rfl⟩
            refine wa_1 9 (by kernel_rfl) ?_
            refine wi_t rfl rfl (t_call1s rfl (fun _ _ => rfl) (by first | exact atC0 | exact atC1 | exact atC2 | exact atC3 | exact atC4 | exact atC5 | exact atC6 | exact atC7 | exact atC8 | exact atC9 | exact atC10 | exact atC11 | exact atC12 | exact atC13 | exact atC14 | exact atC15 | exact atC16 | exact atC17 | exact atC18 | exact atC19 | exact atC20 | exact atC21 | exact atC22 | exact atC23) (fun w hi => (word_ok1 A2 _ c2 _ s.e2 [(s.r.length : Int)] w (hi.one (by first | exact hasC0 | exact hasC1 | exact hasC2 | exact hasC3 | exact hasC4 | exact hasC5 | exact hasC6 | exact hasC7 | exact hasC8 | exact hasC9 | exact hasC10 | exact hasC11 | exact hasC12 | exact hasC13 | exact hasC14 | exact hasC15 | exact hasC16 | exact hasC17 | exact hasC18 | exact hasC19 | exact hasC20 | exact hasC21 | exact hasC22 | exact hasC23)) (fun w' hk => hi.rdK (by repeat (first | exact .l _ (by first | exact hasC0 | exact hasC1 | exact hasC2 | exact hasC3 | exact hasC4 | exact hasC5 | exact hasC6 | exact hasC7 | exact hasC8 | exact hasC9 | exact hasC10 | exact hasC11 | exact hasC12 | exact hasC13 | exact hasC14 | exact hasC15 | exact hasC16 | exact hasC17 | exact hasC18 | exact hasC19 | exact hasC20 | exact hasC21 | exact hasC22 | exact hasC23) | exact .r _ (by first | exact hasC0 | exact hasC1 | exact hasC2 | exact hasC3 | exact hasC4 | exact hasC5 | exact hasC6 | exact hasC7 | exact hasC8 | exact hasC9 | exact hasC10 | exact hasC11 | exact hasC12 | exact hasC13 | exact hasC14 | exact hasC15 | exact hasC16 | exact hasC17 | exact hasC18 | exact hasC19 | exact hasC20 | exact hasC21 | exact hasC22 | exact hasC23) | refine .t _ ?_)) hk) (by simp only [List.length_append, words_len, List.length_cons, List.length_nil]; omega)))) (fun _ _ _ _ _ _ _ h => by cases h) rfl ?_
            rintro _ _ ⟨_, ⟨A3, c3, rfl, rfl⟩, rfl⟩
            refine wa_yn 10 rfl (by kernel_rfl) (by kernel_rfl) (by kernel_rfl) (y_assign (ev_rfl rfl)) rfl ?_
            refine wa_done (by kernel_rfl) ?_
            refine q_mid ((A3, c3)) ?_ ?_ ?_
            · trivial
            · ((repeat' (refine Wk.cons ?_ ?_)) <;> first | exact Wk.nil | exact rfl | exact trivial | exact wk_num rfl (by omega) | exact wk_num rfl (by simp))
            · ((repeat (first | exact List.Sublist.slnil | refine List.Sublist.cons_cons _ ?_ | refine List.Sublist.cons _ ?_)))
          · refine wi_t rfl rfl (t_buildSl1 rfl rfl (fun _ => rfl) (fun _ => rfl) rfl rfl) (fun _ _ _ _ _ _ _ h => by cases h) rfl ?_
            rintro _ _ ⟨b25, rfl, rfl⟩
            refine wa_1 3 (by kernel_rfl) ?_
            refine wi_t rfl rfl (t_call1s rfl (fun _ _ => rfl) (by first | exact atC0 | exact atC1 | exact atC2 | exact atC3 | exact atC4 | exact atC5 | exact atC6 | exact atC7 | exact atC8 | exact atC9 | exact atC10 | exact atC11 | exact atC12 | exact atC13 | exact atC14 | exact atC15 | exact atC16 | exact atC17 | exact atC18 | exact atC19 | exact atC20 | exact atC21 | exact atC22 | exact atC23) (fun w hi => (word_ok1 A1 Ad c1 cd s.e1 s.d w (hi.one (by first | exact hasC0 | exact hasC1 | exact hasC2 | exact hasC3 | exact hasC4 | exact hasC5 | exact hasC6 | exact hasC7 | exact hasC8 | exact hasC9 | exact hasC10 | exact hasC11 | exact hasC12 | exact hasC13 | exact hasC14 | exact hasC15 | exact hasC16 | exact hasC17 | exact hasC18 | exact hasC19 | exact hasC20 | exact hasC21 | exact hasC22 | exact hasC23)) (fun w' hk => h.d.oldK hi (by first | exact hasC0 | exact hasC1 | exact hasC2 | exact hasC3 | exact hasC4 | exact hasC5 | exact hasC6 | exact hasC7 | exact hasC8 | exact hasC9 | exact hasC10 | exact hasC11 | exact hasC12 | exact hasC13 | exact hasC14 | exact hasC15 | exact hasC16 | exact hasC17 | exact hasC18 | exact hasC19 | exact hasC20 | exact hasC21 | exact hasC22 | exact hasC23) hk) (by simp only [List.length_append, words_len, List.length_cons, List.length_nil]; omega)))) (fun _ _ _ _ _ _ _ h => by cases h) rfl ?_
            rintro _ _ ⟨_, ⟨A2, c2, rfl, rfl⟩, rfl⟩
            refine wa_1 9 (by kernel_rfl) ?_
            refine wi_t rfl rfl (t_call1s rfl (fun _ _ => rfl) (by first | exact atC0 | exact atC1 | exact atC2 | exact atC3 | exact atC4 | exact atC5 | exact atC6 | exact atC7 | exact atC8 | exact atC9 | exact atC10 | exact atC11 | exact atC12 | exact atC13 | exact atC14 | exact atC15 | exact atC16 | exact atC17 | exact atC18 | exact atC19 | exact atC20 | exact atC21 | exact atC22 | exact atC23) (fun w hi => (word_ok1 A2 _ c2 _ s.e2 [(s.r.length : Int)] w (hi.one (by first | exact hasC0 | exact hasC1 | exact hasC2 | exact hasC3 | exact hasC4 | exact hasC5 | exact hasC6 | exact hasC7 | exact hasC8 | exact hasC9 | exact hasC10 | exact hasC11 | exact hasC12 | exact hasC13 | exact hasC14 | exact hasC15 | exact hasC16 | exact hasC17 | exact hasC18 | exact hasC19 | exact hasC20 | exact hasC21 | exact hasC22 | exact hasC23)) (fun w' hk => hi.rdK (by repeat (first | exact .l _ (by first | exact hasC0 | exact hasC1 | exact hasC2 | exact hasC3 | exact hasC4 | exact hasC5 | exact hasC6 | exact hasC7 | exact hasC8 | exact hasC9 | exact hasC10 | exact hasC11 | exact hasC12 | exact hasC13 | exact hasC14 | exact hasC15 | exact hasC16 | exact hasC17 | exact hasC18 | exact hasC19 | exact hasC20 | exact hasC21 | exact hasC22 | exact hasC23) | exact .r _ (by first | exact hasC0 | exact hasC1 | exact hasC2 | exact hasC3 | exact hasC4 | exact hasC5 | exact hasC6 | exact hasC7 | exact hasC8 | exact hasC9 | exact hasC10 | exact hasC11 | exact hasC12 | exact hasC13 | exact hasC14 | exact hasC15 | exact hasC16 | exact hasC17 | exact hasC18 | exact hasC19 | exact hasC20 | exact hasC21 | exact hasC22 | exact hasC23) | refine .t _ ?_)) hk) (by simp only [List.length_append, words_len, List.length_cons, List.length_nil]; omega)))) (fun _ _ _ _ _ _ _ h => by cases h) rfl ?_
            rintro _ _ ⟨_, ⟨A3, c3, rfl, rfl⟩, rfl⟩
            refine wa_yn 10 rfl (by kernel_rfl) (by kernel_rfl) (by kernel_rfl) (y_assign (ev_rfl rfl)) rfl ?_
            refine wa_done (by kernel_rfl) ?_
            refine q_mid ((A3, c3)) ?_ ?_ ?_
            · trivial
            · ((repeat' (refine Wk.cons ?_ ?_)) <;> first | exact Wk.nil | exact rfl | exact trivial | exact wk_num rfl (by omega) | exact wk_num rfl (by simp))
            · ((repeat (first | exact List.Sublist.slnil | refine List.Sublist.cons_cons _ ?_ | refine List.Sublist.cons _ ?_)))
      · refine wi_yn rfl (y_load (fun _ => rfl) (ev_rfl rfl)) (row_cell (by first | exact hasC0 | exact hasC1 | exact hasC2 | exact hasC3 | exact hasC4 | exact hasC5 | exact hasC6 | exact hasC7 | exact hasC8 | exact hasC9 | exact hasC10 | exact hasC11 | exact hasC12 | exact hasC13 | exact hasC14 | exact hasC15 | exact hasC16 | exact hasC17 | exact hasC18 | exact hasC19 | exact hasC20 | exact hasC21 | exact hasC22 | exact hasC23) rfl) rfl ?_
        refine wa_yn 6 rfl (by kernel_rfl) (by kernel_rfl) (by kernel_rfl) (y_len ⟨_, rfl⟩ (ev_rfl rfl)) rfl ?_
        refine wa_yn 7 rfl (by kernel_rfl) (by kernel_rfl) (by kernel_rfl) (y_conv rfl rfl (ev_rfl rfl) (by first | exact IntWalk.u32_in _ ⟨by omega, by omega⟩ | exact rfl)) rfl ?_
        refine wa_2 2 8 (by kernel_rfl) ?_ ?_
        · refine wi_yn rfl (y_load (fun _ => rfl) (ev_rfl rfl)) (row_cell (by first | exact hasC0 | exact hasC1 | exact hasC2 | exact hasC3 | exact hasC4 | exact hasC5 | exact hasC6 | exact hasC7 | exact hasC8 | exact hasC9 | exact hasC10 | exact hasC11 | exact hasC12 | exact hasC13 | exact hasC14 | exact hasC15 | exact hasC16 | exact hasC17 | exact hasC18 | exact hasC19 | exact hasC20 | exact hasC21 | exact hasC22 | exact hasC23) rfl) rfl ?_
          refine wa_2 3 8 (by kernel_rfl) ?_ ?_
          · refine wi_t rfl rfl (t_call1s rfl (fun _ _ => rfl) (by first | exact atC0 | exact atC1 | exact atC2 | exact atC3 | exact atC4 | exact atC5 | exact atC6 | exact atC7 | exact atC8 | exact atC9 | exact atC10 | exact atC11 | exact atC12 | exact atC13 | exact atC14 | exact atC15 | exact atC16 | exact atC17 | exact atC18 | exact atC19 | exact atC20 | exact atC21 | exact atC22 | exact atC23) (fun w hi => (word_ok1 A1 Ad c1 cd s.e1 s.d w (hi.one (by first | exact hasC0 | exact hasC1 | exact hasC2 | exact hasC3 | exact hasC4 | exact hasC5 | exact hasC6 | exact hasC7 | exact hasC8 | exact hasC9 | exact hasC10 | exact hasC11 | exact hasC12 | exact hasC13 | exact hasC14 | exact hasC15 | exact hasC16 | exact hasC17 | exact hasC18 | exact hasC19 | exact hasC20 | exact hasC21 | exact hasC22 | exact hasC23)) (fun w' hk => h.d.oldK hi (by first | exact hasC0 | exact hasC1 | exact hasC2 | exact hasC3 | exact hasC4 | exact hasC5 | exact hasC6 | exact hasC7 | exact hasC8 | exact hasC9 | exact hasC10 | exact hasC11 | exact hasC12 | exact hasC13 | exact hasC14 | exact hasC15 | exact hasC16 | exact hasC17 | exact hasC18 | exact hasC19 | exact hasC20 | exact hasC21 | exact hasC22 | exact hasC23) hk) (by simp only [List.length_append, words_len, List.length_cons, List.length_nil]; omega)))) (fun _ _ _ _ _ _ _ h => by cases h) rfl ?_
            rintro _ _ ⟨_, ⟨A2, c2, rfl, rfl⟩, rfl⟩
            refine wa_1 8 (by kernel_rfl) ?_
            refine wi_t rfl rfl (t_buildSl1 rfl rfl (fun _ => rfl) (fun _ => rfl) rfl rfl) (fun _ _ _ _ _ _ _ h => by cases h) rfl ?_
            rintro _ _ ⟨b25, rfl, rfl⟩
            refine wa_1 9 (by kernel_rfl) ?_
            refine wi_t rfl rfl (t_call1s rfl (fun _ _ => rfl) (by first | exact atC0 | exact atC1 | exact atC2 | exact atC3 | exact atC4 | exact atC5 | exact atC6 | exact atC7 | exact atC8 | exact atC9 | exact atC10 | exact atC11 | exact atC12 | exact atC13 | exact atC14 | exact atC15 | exact atC16 | exact atC17 | exact atC18 | exact atC19 | exact atC20 | exact atC21 | exact atC22 | exact atC23) (fun w hi => (word_ok1 A2 _ c2 _ s.e2 [(s.r.length : Int)] w (hi.one (by first | exact hasC0 | exact hasC1 | exact hasC2 | exact hasC3 | exact hasC4 | exact hasC5 | exact hasC6 | exact hasC7 | exact hasC8 | exact hasC9 | exact hasC10 | exact hasC11 | exact hasC12 | exact hasC13 | exact hasC14 | exact hasC15 | exact hasC16 | exact hasC17 | exact hasC18 | exact hasC19 | exact hasC20 | exact hasC21 | exact hasC22 | exact hasC23)) (fun w' hk => hi.rdK (by repeat (first | exact .l _ (by first | exact hasC0 | exact hasC1 | exact hasC2 | exact hasC3 | exact hasC4 | exact hasC5 | exact hasC6 | exact hasC7 | exact hasC8 | exact hasC9 | exact hasC10 | exact hasC11 | exact hasC12 | exact hasC13 | exact hasC14 | exact hasC15 | exact hasC16 | exact hasC17 | exact hasC18 | exact hasC19 | exact hasC20 | exact hasC21 | exact hasC22 | exact hasC23) | exact .r _ (by first | exact hasC0 | exact hasC1 | exact hasC2 | exact hasC3 | exact hasC4 | exact hasC5 | exact hasC6 | exact hasC7 | exact hasC8 | exact hasC9 | exact hasC10 | exact hasC11 | exact hasC12 | exact hasC13 | exact hasC14 | exact hasC15 | exact hasC16 | exact hasC17 | exact hasC18 | exact hasC19 | exact hasC20 | exact hasC21 | exact hasC22 | exact hasC23) | refine .t _ ?_)) hk) (by simp only [List.length_append, words_len, List.length_cons, List.length_nil]; omega)))) (fun _ _ _ _ _ _ _ h => by cases h) rfl ?_
            rintro _ _ ⟨_, ⟨A3, c3, rfl, rfl⟩, rfl⟩
            refine wa_yn 10 rfl (by kernel_rfl) (by kernel_rfl) (by kernel_rfl) (y_assign (ev_rfl rfl)) rfl ?_
            refine wa_done (by kernel_rfl) ?_
            refine q_mid ((A3, c3)) ?_ ?_ ?_
            · trivial
            · ((repeat' (refine Wk.cons ?_ ?_)) <;> first | exact Wk.nil | exact rfl | exact trivial | exact wk_num rfl (by omega) | exact wk_num rfl (by simp))
            · ((repeat (first | exact List.Sublist.slnil | refine List.Sublist.cons_cons _ ?_ | refine List.Sublist.cons _ ?_)))
          · refine wi_t rfl rfl (t_buildSl1 rfl rfl (fun _ => rfl) (fun _ => rfl) rfl rfl) (fun _ _ _ _ _ _ _ h => by cases h) rfl ?_
            rintro _ _ ⟨b25, rfl, rfl⟩
            refine wa_1 3 (by kernel_rfl) ?_
            refine wi_t rfl rfl (t_call1s rfl (fun _ _ => rfl) (by first | exact atC0 | exact atC1 | exact atC2 | exact atC3 | exact atC4 | exact atC5 | exact atC6 | exact atC7 | exact atC8 | exact atC9 | exact atC10 | exact atC11 | exact atC12 | exact atC13 | exact atC14 | exact atC15 | exact atC16 | exact atC17 | exact atC18 | exact atC19 | exact atC20 | exact atC21 | exact atC22 | exact atC23) (fun w hi => (word_ok1 A1 Ad c1 cd s.e1 s.d w (hi.one (by first | exact hasC0 | exact hasC1 | exact hasC2 | exact hasC3 | exact hasC4 | exact hasC5 | exact hasC6 | exact hasC7 | exact hasC8 | exact hasC9 | exact hasC10 | exact hasC11 | exact hasC12 | exact hasC13 | exact hasC14 | exact hasC15 | exact hasC16 | exact hasC17 | exact hasC18 | exact hasC19 | exact hasC20 | exact hasC21 | exact hasC22 | exact hasC23)) (fun w' hk => h.d.oldK hi (by first | exact hasC0 | exact hasC1 | exact hasC2 | exact hasC3 | exact hasC4 | exact hasC5 | exact hasC6 | exact hasC7 | exact hasC8 | exact hasC9 | exact hasC10 | exact hasC11 | exact hasC12 | exact hasC13 | exact hasC14 | exact hasC15 | exact hasC16 | exact hasC17 | exact hasC18 | exact hasC19 | exact hasC20 | exact hasC21 | exact hasC22 | exact hasC23) hk) (by simp only [List.length_append, words_len, List.length_cons, List.length_nil]; omega)))) (fun _ _ _ _ _ _ _ h => by cases h) rfl ?_
            rintro _ _ ⟨_, ⟨A2, c2, rfl, rfl⟩, rfl⟩
            refine wa_1 9 (by kernel_rfl) ?_
            refine wi_t rfl rfl (t_call1s rfl (fun _ _ => rfl) (by first | exact atC0 | exact atC1 | exact atC2 | exact atC3 | exact atC4 | exact atC5 | exact atC6 | exact atC7 | exact atC8 | exact atC9 | exact atC10 | exact atC11 | exact atC12 | exact atC13 | exact atC14 | exact atC15 | exact atC16 | exact atC17 | exact atC18 | exact atC19 | exact atC20 | exact atC21 | exact atC22 | exact atC23) (fun w hi => (word_ok1 A2 _ c2 _ s.e2 [(s.r.length : Int)] w (hi.one (by first | exact hasC0 | exact hasC1 | exact hasC2 | exact hasC3 | exact hasC4 | exact hasC5 | exact hasC6 | exact hasC7 | exact hasC8 | exact hasC9 | exact hasC10 | exact hasC11 | exact hasC12 | exact hasC13 | exact hasC14 | exact hasC15 | exact hasC16 | exact hasC17 | exact hasC18 | exact hasC19 | exact hasC20 | exact hasC21 | exact hasC22 | exact hasC23)) (fun w' hk => hi.rdK (by repeat (first | exact .l _ (by first | exact hasC0 | exact hasC1 | exact hasC2 | exact hasC3 | exact hasC4 | exact hasC5 | exact hasC6 | exact hasC7 | exact hasC8 | exact hasC9 | exact hasC10 | exact hasC11 | exact hasC12 | exact hasC13 | exact hasC14 | exact hasC15 | exact hasC16 | exact hasC17 | exact hasC18 | exact hasC19 | exact hasC20 | exact hasC21 | exact hasC22 | exact hasC23) | exact .r _ (by first | exact hasC0 | exact hasC1 | exact hasC2 | exact hasC3 | exact hasC4 | exact hasC5 | exact hasC6 | exact hasC7 | exact hasC8 | exact hasC9 | exact hasC10 | exact hasC11 | exact hasC12 | exact hasC13 | exact hasC14 | exact hasC15 | exact hasC16 | exact hasC17 | exact hasC18 | exact hasC19 | exact hasC20 | exact hasC21 | exact hasC22 | exact hasC23) | refine .t _ ?_)) hk) (by simp only [List.length_append, words_len, List.length_cons, List.length_nil]; omega)))) (fun _ _ _ _ _ _ _ h => by cases h) rfl ?_
            rintro _ _ ⟨_, ⟨A3, c3, rfl, rfl⟩, rfl⟩
            refine wa_yn 10 rfl (by kernel_rfl) (by kernel_rfl) (by kernel_rfl) (y_assign (ev_rfl rfl)) rfl ?_
            refine wa_done (by kernel_rfl) ?_
            refine q_mid ((A3, c3)) ?_ ?_ ?_
            · trivial
            · ((repeat' (refine Wk.cons ?_ ?_)) <;> first | exact Wk.nil | exact rfl | exact trivial | exact wk_num rfl (by omega) | exact wk_num rfl (by simp))
            · ((repeat (first | exact List.Sublist.slnil | refine List.Sublist.cons_cons _ ?_ | refine List.Sublist.cons _ ?_)))
        · refine wi_t rfl rfl (t_buildSl1 rfl rfl (fun _ => rfl) (fun _ => rfl) rfl rfl) (fun _ _ _ _ _ _ _ h => by cases h) rfl ?_
          rintro _ _ ⟨b25, rfl, rfl⟩
          refine wa_1 2 (by kernel_rfl) ?_
          refine wi_yn rfl (y_load (fun _ => rfl) (ev_rfl rfl)) (row_cell (by first | exact hasC0 | exact hasC1 | exact hasC2 | exact hasC3 | exact hasC4 | exact hasC5 | exact hasC6 | exact hasC7 | exact hasC8 | exact hasC9 | exact hasC10 | exact hasC11 | exact hasC12 | exact hasC13 | exact hasC14 | exact hasC15 | exact hasC16 | exact hasC17 | exact hasC18 | exact hasC19 | exact hasC20 | exact hasC21 | exact hasC22 | exact hasC23) rfl) rfl ?_
          refine wa_1 3 (by kernel_rfl) ?_
          refine wi_t rfl rfl (t_call1s rfl (fun _ _ => rfl) (by first | exact atC0 | exact atC1 | exact atC2 | exact atC3 | exact atC4 | exact atC5 | exact atC6 | exact atC7 | exact atC8 | exact atC9 | exact atC10 | exact atC11 | exact atC12 | exact atC13 | exact atC14 | exact atC15 | exact atC16 | exact atC17 | exact atC18 | exact atC19 | exact atC20 | exact atC21 | exact atC22 | exact atC23) (fun w hi => (word_ok1 A1 Ad c1 cd s.e1 s.d w (hi.one (by first | exact hasC0 | exact hasC1 | exact hasC2 | exact hasC3 | exact hasC4 | exact hasC5 | exact hasC6 | exact hasC7 | exact hasC8 | exact hasC9 | exact hasC10 | exact hasC11 | exact hasC12 | exact hasC13 | exact hasC14 | exact hasC15 | exact hasC16 | exact hasC17 | exact hasC18 | exact hasC19 | exact hasC20 | exact hasC21 | exact hasC22 | exact hasC23)) (fun w' hk => h.d.oldK hi (by first | exact hasC0 | exact hasC1 | exact hasC2 | exact hasC3 | exact hasC4 | exact hasC5 | exact hasC6 | exact hasC7 | exact hasC8 | exact hasC9 | exact hasC10 | exact hasC11 | exact hasC12 | exact hasC13 | exact hasC14 | exact hasC15 | exact hasC16 | exact hasC17 | exact hasC18 | exact hasC19 | exact hasC20 | exact hasC21 | exact hasC22 | exact hasC23) hk) (by simp only [List.length_append, words_len, List.length_cons, List.length_nil]; omega)))) (fun _ _ _ _ _ _ _ h => by cases h) rfl ?_
          rintro _ _ ⟨_, ⟨A2, c2, rfl, rfl⟩, rfl⟩
          refine wa_1 9 (by kernel_rfl) ?_
          refine wi_t rfl rfl (t_call1s rfl (fun _ _ => rfl) (by first | exact atC0 | exact atC1 | exact atC2 | exact atC3 | exact atC4 | exact atC5 | exact atC6 | exact atC7 | exact atC8 | exact atC9 | exact atC10 | exact atC11 | exact atC12 | exact atC13 | exact atC14 | exact atC15 | exact atC16 | exact atC17 | exact atC18 | exact atC19 | exact atC20 | exact atC21 | exact atC22 | exact atC23) (fun w hi => (word_ok1 A2 _ c2 _ s.e2 [(s.r.length : Int)] w (hi.one (by first | exact hasC0 | exact hasC1 | exact hasC2 | exact hasC3 | exact hasC4 | exact hasC5 | exact hasC6 | exact hasC7 | exact hasC8 | exact hasC9 | exact hasC10 | exact hasC11 | exact hasC12 | exact hasC13 | exact hasC14 | exact hasC15 | exact hasC16 | exact hasC17 | exact hasC18 | exact hasC19 | exact hasC20 | exact hasC21 | exact hasC22 | exact hasC23)) (fun w' hk => hi.rdK (by repeat (first | exact .l _ (by first | exact hasC0 | exact hasC1 | exact hasC2 | exact hasC3 | exact hasC4 | exact hasC5 | exact hasC6 | exact hasC7 | exact hasC8 | exact hasC9 | exact hasC10 | exact hasC11 | exact hasC12 | exact hasC13 | exact hasC14 | exact hasC15 | exact hasC16 | exact hasC17 | exact hasC18 | exact hasC19 | exact hasC20 | exact hasC21 | exact hasC22 | exact hasC23) | exact .r _ (by first | exact hasC0 | exact hasC1 | exact hasC2 | exact hasC3 | exact hasC4 | exact hasC5 | exact hasC6 | exact hasC7 | exact hasC8 | exact hasC9 | exact hasC10 | exact hasC11 | exact hasC12 | exact hasC13 | exact hasC14 | exact hasC15 | exact hasC16 | exact hasC17 | exact hasC18 | exact hasC19 | exact hasC20 | exact hasC21 | exact hasC22 | exact hasC23) | refine .t _ ?_)) hk) (by simp only [List.length_append, words_len, List.length_cons, List.length_nil]; omega)))) (fun _ _ _ _ _ _ _ h => by cases h) rfl ?_
          rintro _ _ ⟨_, ⟨A3, c3, rfl, rfl⟩, rfl⟩
          refine wa_yn 10 rfl (by kernel_rfl) (by kernel_rfl) (by kernel_rfl) (y_assign (ev_rfl rfl)) rfl ?_
          refine wa_done (by kernel_rfl) ?_
          refine q_mid ((A3, c3)) ?_ ?_ ?_
          · trivial
          · ((repeat' (refine Wk.cons ?_ ?_)) <;> first | exact Wk.nil | exact rfl | exact trivial | exact wk_num rfl (by omega) | exact wk_num rfl (by simp))
          · ((repeat (first | exact List.Sublist.slnil | refine List.Sublist.cons_cons _ ?_ | refine List.Sublist.cons _ ?_)))
    · rintro ⟨A3, c3⟩ -
      dsimp only
      refine wc_seq_mid (fun q : Option Addr × Nat => [(1, .pointer (some ⟨b1, 0, none⟩)), (4, .slice q.1 s.e5.length q.2)]) (fun q => [row b1 (s.cells (.slice Ad s.d.length cd) (.slice Ar s.r.length cr)) 26, sl .u8 5 q.1 s.e5.length q.2 s.e5]) (fun _ => True) ?_ ?_
      · refine wc_draw ⟨fun j => List.elem j [3, 7], []⟩ (by kernel_rfl) ?_
        refine wa_yn 0 rfl (by kernel_rfl) (by kernel_rfl) (by kernel_rfl) (y_move (ev_rfl rfl)) rfl ?_
        refine wa_yn 1 rfl (by kernel_rfl) (by kernel_rfl) (by kernel_rfl) (y_field 2 rfl (ev_rfl rfl) (by first | exact Nat.zero_add _ | exact rfl)) rfl ?_
        refine wa_yn 4 rfl (by kernel_rfl) (by kernel_rfl) (by kernel_rfl) (y_field 3 rfl (ev_rfl rfl) (by first | exact Nat.zero_add _ | exact rfl)) rfl ?_
        refine wa_2 2 5 (by kernel_rfl) ?_ ?_
        · refine wi_yn rfl (y_load (fun _ => rfl) (ev_rfl rfl)) (row_cell (by first | exact hasC0 | exact hasC1 | exact hasC2 | exact hasC3 | exact hasC4 | exact hasC5 | exact hasC6 | exact hasC7 | exact hasC8 | exact hasC9 | exact hasC10 | exact hasC11 | exact hasC12 | exact hasC13 | exact hasC14 | exact hasC15 | exact hasC16 | exact hasC17 | exact hasC18 | exact hasC19 | exact hasC20 | exact hasC21 | exact hasC22 | exact hasC23) rfl) rfl ?_
          refine wa_2 3 5 (by kernel_rfl) ?_ ?_
          · refine wi_t rfl rfl (t_call1s rfl (fun _ _ => rfl) (by first | exact atC0 | exact atC1 | exact atC2 | exact atC3 | exact atC4 | exact atC5 | exact atC6 | exact atC7 | exact atC8 | exact atC9 | exact atC10 | exact atC11 | exact atC12 | exact atC13 | exact atC14 | exact atC15 | exact atC16 | exact atC17 | exact atC18 | exact atC19 | exact atC20 | exact atC21 | exact atC22 | exact atC23) (fun w hi => (word_ok1 A3 Ar c3 cr s.e3 s.r w (hi.one (by first | exact hasC0 | exact hasC1 | exact hasC2 | exact hasC3 | exact hasC4 | exact hasC5 | exact hasC6 | exact hasC7 | exact hasC8 | exact hasC9 | exact hasC10 | exact hasC11 | exact hasC12 | exact hasC13 | exact hasC14 | exact hasC15 | exact hasC16 | exact hasC17 | exact hasC18 | exact hasC19 | exact hasC20 | exact hasC21 | exact hasC22 | exact hasC23)) (fun w' hk => h.r.oldK hi (by first | exact hasC0 | exact hasC1 | exact hasC2 | exact hasC3 | exact hasC4 | exact hasC5 | exact hasC6 | exact hasC7 | exact hasC8 | exact hasC9 | exact hasC10 | exact hasC11 | exact hasC12 | exact hasC13 | exact hasC14 | exact hasC15 | exact hasC16 | exact hasC17 | exact hasC18 | exact hasC19 | exact hasC20 | exact hasC21 | exact hasC22 | exact hasC23) hk) (by simp only [List.length_append, words_len, List.length_cons, List.length_nil]; omega)))) (fun _ _ _ _ _ _ _ h => by cases h) rfl ?_
            rintro _ _ ⟨_, ⟨A4, c4, rfl, rfl⟩, rfl⟩
            refine wa_1 5 (by kernel_rfl) ?_
            refine wi_yn rfl (y_load (fun _ => rfl) (ev_rfl rfl)) (row_cell (by first | exact hasC0 | exact hasC1 | exact hasC2 | exact hasC3 | exact hasC4 | exact hasC5 | exact hasC6 | exact hasC7 | exact hasC8 | exact hasC9 | exact hasC10 | exact hasC11 | exact hasC12 | exact hasC13 | exact hasC14 | exact hasC15 | exact hasC16 | exact hasC17 | exact hasC18 | exact hasC19 | exact hasC20 | exact hasC21 | exact hasC22 | exact hasC23) rfl) rfl ?_
            refine wa_1 6 (by kernel_rfl) ?_
            refine wi_t rfl rfl (t_buildSl1 rfl rfl (fun _ => rfl) (fun _ => rfl) rfl rfl) (fun _ _ _ _ _ _ _ h => by cases h) rfl ?_
            rintro _ _ ⟨b33, rfl, rfl⟩
            refine wa_1 7 (by kernel_rfl) ?_
            refine wi_t rfl rfl (t_call1s rfl (fun _ _ => rfl) (by first | exact atC0 | exact atC1 | exact atC2 | exact atC3 | exact atC4 | exact atC5 | exact atC6 | exact atC7 | exact atC8 | exact atC9 | exact atC10 | exact atC11 | exact atC12 | exact atC13 | exact atC14 | exact atC15 | exact atC16 | exact atC17 | exact atC18 | exact atC19 | exact atC20 | exact atC21 | exact atC22 | exact atC23) (fun w hi => (word_ok1 A4 _ c4 _ s.e4 [s.flags] w (hi.one (by first | exact hasC0 | exact hasC1 | exact hasC2 | exact hasC3 | exact hasC4 | exact hasC5 | exact hasC6 | exact hasC7 | exact hasC8 | exact hasC9 | exact hasC10 | exact hasC11 | exact hasC12 | exact hasC13 | exact hasC14 | exact hasC15 | exact hasC16 | exact hasC17 | exact hasC18 | exact hasC19 | exact hasC20 | exact hasC21 | exact hasC22 | exact hasC23)) (fun w' hk => hi.rdK (by repeat (first | exact .l _ (by first | exact hasC0 | exact hasC1 | exact hasC2 | exact hasC3 | exact hasC4 | exact hasC5 | exact hasC6 | exact hasC7 | exact hasC8 | exact hasC9 | exact hasC10 | exact hasC11 | exact hasC12 | exact hasC13 | exact hasC14 | exact hasC15 | exact hasC16 | exact hasC17 | exact hasC18 | exact hasC19 | exact hasC20 | exact hasC21 | exact hasC22 | exact hasC23) | exact .r _ (by first | exact hasC0 | exact hasC1 | exact hasC2 | exact hasC3 | exact hasC4 | exact hasC5 | exact hasC6 | exact hasC7 | exact hasC8 | exact hasC9 | exact hasC10 | exact hasC11 | exact hasC12 | exact hasC13 | exact hasC14 | exact hasC15 | exact hasC16 | exact hasC17 | exact hasC18 | exact hasC19 | exact hasC20 | exact hasC21 | exact hasC22 | exact hasC23) | refine .t _ ?_)) hk) (by simp only [List.length_append, words_len, List.length_cons, List.length_nil]; omega)))) (fun _ _ _ _ _ _ _ h => by cases h) rfl ?_
            rintro _ _ ⟨_, ⟨A5, c5, rfl, rfl⟩, rfl⟩
            refine wa_yn 8 rfl (by kernel_rfl) (by kernel_rfl) (by kernel_rfl) (y_assign (ev_rfl rfl)) rfl ?_
            refine wa_done (by kernel_rfl) ?_
            refine q_mid ((A5, c5)) ?_ ?_ ?_
            · trivial
            · ((repeat' (refine Wk.cons ?_ ?_)) <;> first | exact Wk.nil | exact rfl | exact trivial | exact wk_num rfl (by omega) | exact wk_num rfl (by simp))
            · ((repeat (first | exact List.Sublist.slnil | refine List.Sublist.cons_cons _ ?_ | refine List.Sublist.cons _ ?_)))
          · refine wi_yn rfl (y_load (fun _ => rfl) (ev_rfl rfl)) (row_cell (by first | exact hasC0 | exact hasC1 | exact hasC2 | exact hasC3 | exact hasC4 | exact hasC5 | exact hasC6 | exact hasC7 | exact hasC8 | exact hasC9 | exact hasC10 | exact hasC11 | exact hasC12 | exact hasC13 | exact hasC14 | exact hasC15 | exact hasC16 | exact hasC17 | exact hasC18 | exact hasC19 | exact hasC20 | exact hasC21 | exact hasC22 | exact hasC23) rfl) rfl ?_
            refine wa_2 3 6 (by kernel_rfl) ?_ ?_
            · refine wi_t rfl rfl (t_call1s rfl (fun _ _ => rfl) (by first | exact atC0 | exact atC1 | exact atC2 | exact atC3 | exact atC4 | exact atC5 | exact atC6 | exact atC7 | exact atC8 | exact atC9 | exact atC10 | exact atC11 | exact atC12 | exact atC13 | exact atC14 | exact atC15 | exact atC16 | exact atC17 | exact atC18 | exact atC19 | exact atC20 | exact atC21 | exact atC22 | exact atC23) (fun w hi => (word_ok1 A3 Ar c3 cr s.e3 s.r w (hi.one (by first | exact hasC0 | exact hasC1 | exact hasC2 | exact hasC3 | exact hasC4 | exact hasC5 | exact hasC6 | exact hasC7 | exact hasC8 | exact hasC9 | exact hasC10 | exact hasC11 | exact hasC12 | exact hasC13 | exact hasC14 | exact hasC15 | exact hasC16 | exact hasC17 | exact hasC18 | exact hasC19 | exact hasC20 | exact hasC21 | exact hasC22 | exact hasC23)) (fun w' hk => h.r.oldK hi (by first | exact hasC0 | exact hasC1 | exact hasC2 | exact hasC3 | exact hasC4 | exact hasC5 | exact hasC6 | exact hasC7 | exact hasC8 | exact hasC9 | exact hasC10 | exact hasC11 | exact hasC12 | exact hasC13 | exact hasC14 | exact hasC15 | exact hasC16 | exact hasC17 | exact hasC18 | exact hasC19 | exact hasC20 | exact hasC21 | exact hasC22 | exact hasC23) hk) (by simp only [List.length_append, words_len, List.length_cons, List.length_nil]; omega)))) (fun _ _ _ _ _ _ _ h => by cases h) rfl ?_
              rintro _ _ ⟨_, ⟨A4, c4, rfl, rfl⟩, rfl⟩
              refine wa_1 6 (by kernel_rfl) ?_
              refine wi_t rfl rfl (t_buildSl1 rfl rfl (fun _ => rfl) (fun _ => rfl) rfl rfl) (fun _ _ _ _ _ _ _ h => by cases h) rfl ?_
              rintro _ _ ⟨b33, rfl, rfl⟩
              refine wa_1 7 (by kernel_rfl) ?_
              refine wi_t rfl rfl (t_call1s rfl (fun _ _ => rfl) (by first | exact atC0 | exact atC1 | exact atC2 | exact atC3 | exact atC4 | exact atC5 | exact atC6 | exact atC7 | exact atC8 | exact atC9 | exact atC10 | exact atC11 | exact atC12 | exact atC13 | exact atC14 | exact atC15 | exact atC16 | exact atC17 | exact atC18 | exact atC19 | exact atC20 | exact atC21 | exact atC22 | exact atC23) (fun w hi => (word_ok1 A4 _ c4 _ s.e4 [s.flags] w (hi.one (by first | exact hasC0 | exact hasC1 | exact hasC2 | exact hasC3 | exact hasC4 | exact hasC5 | exact hasC6 | exact hasC7 | exact hasC8 | exact hasC9 | exact hasC10 | exact hasC11 | exact hasC12 | exact hasC13 | exact hasC14 | exact hasC15 | exact hasC16 | exact hasC17 | exact hasC18 | exact hasC19 | exact hasC20 | exact hasC21 | exact hasC22 | exact hasC23)) (fun w' hk => hi.rdK (by repeat (first | exact .l _ (by first | exact hasC0 | exact hasC1 | exact hasC2 | exact hasC3 | exact hasC4 | exact hasC5 | exact hasC6 | exact hasC7 | exact hasC8 | exact hasC9 | exact hasC10 | exact hasC11 | exact hasC12 | exact hasC13 | exact hasC14 | exact hasC15 | exact hasC16 | exact hasC17 | exact hasC18 | exact hasC19 | exact hasC20 | exact hasC21 | exact hasC22 | exact hasC23) | exact .r _ (by first | exact hasC0 | exact hasC1 | exact hasC2 | exact hasC3 | exact hasC4 | exact hasC5 | exact hasC6 | exact hasC7 | exact hasC8 | exact hasC9 | exact hasC10 | exact hasC11 | exact hasC12 | exact hasC13 | exact hasC14 | exact hasC15 | exact hasC16 | exact hasC17 | exact hasC18 | exact hasC19 | exact hasC20 | exact hasC21 | exact hasC22 | exact hasC23) | refine .t _ ?_)) hk) (by simp only [List.length_append, words_len, List.length_cons, List.length_nil]; omega)))) (fun _ _ _ _ _ _ _ h => by cases h) rfl ?_
              rintro _ _ ⟨_, ⟨A5, c5, rfl, rfl⟩, rfl⟩
              refine wa_yn 8 rfl (by kernel_rfl) (by kernel_rfl) (by kernel_rfl) (y_assign (ev_rfl rfl)) rfl ?_
              refine wa_done (by kernel_rfl) ?_
              refine q_mid ((A5, c5)) ?_ ?_ ?_
              · trivial
              · ((repeat' (refine Wk.cons ?_ ?_)) <;> first | exact Wk.nil | exact rfl | exact trivial | exact wk_num rfl (by omega) | exact wk_num rfl (by simp))
              · ((repeat (first | exact List.Sublist.slnil | refine List.Sublist.cons_cons _ ?_ | refine List.Sublist.cons _ ?_)))
            · refine wi_t rfl rfl (t_buildSl1 rfl rfl (fun _ => rfl) (fun _ => rfl) rfl rfl) (fun _ _ _ _ _ _ _ h => by cases h) rfl ?_
              rintro _ _ ⟨b33, rfl, rfl⟩
              refine wa_1 3 (by kernel_rfl) ?_
              refine wi_t rfl rfl (t_call1s rfl (fun _ _ => rfl) (by first | exact atC0 | exact atC1 | exact atC2 | exact atC3 | exact atC4 | exact atC5 | exact atC6 | exact atC7 | exact atC8 | exact atC9 | exact atC10 | exact atC11 | exact atC12 | exact atC13 | exact atC14 | exact atC15 | exact atC16 | exact atC17 | exact atC18 | exact atC19 | exact atC20 | exact atC21 | exact atC22 | exact atC23) (fun w hi => (word_ok1 A3 Ar c3 cr s.e3 s.r w (hi.one (by first | exact hasC0 | exact hasC1 | exact hasC2 | exact hasC3 | exact hasC4 | exact hasC5 | exact hasC6 | exact hasC7 | exact hasC8 | exact hasC9 | exact hasC10 | exact hasC11 | exact hasC12 | exact hasC13 | exact hasC14 | exact hasC15 | exact hasC16 | exact hasC17 | exact hasC18 | exact hasC19 | exact hasC20 | exact hasC21 | exact hasC22 | exact hasC23)) (fun w' hk => h.r.oldK hi (by first | exact hasC0 | exact hasC1 | exact hasC2 | exact hasC3 | exact hasC4 | exact hasC5 | exact hasC6 | exact hasC7 | exact hasC8 | exact hasC9 | exact hasC10 | exact hasC11 | exact hasC12 | exact hasC13 | exact hasC14 | exact hasC15 | exact hasC16 | exact hasC17 | exact hasC18 | exact hasC19 | exact hasC20 | exact hasC21 | exact hasC22 | exact hasC23) hk) (by simp only [List.length_append, words_len, List.length_cons, List.length_nil]; omega)))) (fun _ _ _ _ _ _ _ h => by cases h) rfl ?_
              rintro _ _ ⟨_, ⟨A4, c4, rfl, rfl⟩, rfl⟩
              refine wa_1 7 (by kernel_rfl) ?_
              refine wi_t rfl rfl (t_call1s rfl (fun _ _ => rfl) (by first | exact atC0 | exact atC1 | exact atC2 | exact atC3 | exact atC4 | exact atC5 | exact atC6 | exact atC7 | exact atC8 | exact atC9 | exact atC10 | exact atC11 | exact atC12 | exact atC13 | exact atC14 | exact atC15 | exact atC16 | exact atC17 | exact atC18 | exact atC19 | exact atC20 | exact atC21 | exact atC22 | exact atC23) (fun w hi => (word_ok1 A4 _ c4 _ s.e4 [s.flags] w (hi.one (by first | exact hasC0 | exact hasC1 | exact hasC2 | exact hasC3 | exact hasC4 | exact hasC5 | exact hasC6 | exact hasC7 | exact hasC8 | exact hasC9 | exact hasC10 | exact hasC11 | exact hasC12 | exact hasC13 | exact hasC14 | exact hasC15 | exact hasC16 | exact hasC17 | exact hasC18 | exact hasC19 | exact hasC20 | exact hasC21 | exact hasC22 | exact hasC23)) (fun w' hk => hi.rdK (by repeat (first | exact .l _ (by first | exact hasC0 | exact hasC1 | exact hasC2 | exact hasC3 | exact hasC4 | exact hasC5 | exact hasC6 | exact hasC7 | exact hasC8 | exact hasC9 | exact hasC10 | exact hasC11 | exact hasC12 | exact hasC13 | exact hasC14 | exact hasC15 | exact hasC16 | exact hasC17 | exact hasC18 | exact hasC19 | exact hasC20 | exact hasC21 | exact hasC22 | exact hasC23) | exact .r _ (by first | exact hasC0 | exact hasC1 | exact hasC2 | exact hasC3 | exact hasC4 | exact hasC5 | exact hasC6 | exact hasC7 | exact hasC8 | exact hasC9 | exact hasC10 | exact hasC11 | exact hasC12 | exact hasC13 | exact hasC14 | exact hasC15 | exact hasC16 | exact hasC17 | exact hasC18 | exact hasC19 | exact hasC20 | exact hasC21 | exact hasC22 | exact hasC23) | refine .t _ ?_)) hk) (by simp only [List.length_append, words_len, List.length_cons, List.length_nil]; omega)))) (fun _ _ _ _ _ _ _ h => by cases h) rfl ?_
              rintro _ _ ⟨_, ⟨A5, c5, rfl, rfl⟩, rfl⟩
              refine wa_yn 8 rfl (by kernel_rfl) (by kernel_rfl) (by kernel_rfl) (y_assign (ev_rfl rfl)) rfl ?_
              refine wa_done (by kernel_rfl) ?_
              refine q_mid ((A5, c5)) ?_ ?_ ?_
              · trivial
              · ((repeat' (refine Wk.cons ?_ ?_)) <;> first | exact Wk.nil | exact rfl | exact trivial | exact wk_num rfl (by omega) | exact wk_num rfl (by simp))
              · ((repeat (first | exact List.Sublist.slnil | refine List.Sublist.cons_cons _ ?_ | refine List.Sublist.cons _ ?_)))
        · refine wi_yn rfl (y_load (fun _ => rfl) (ev_rfl rfl)) (row_cell (by first | exact hasC0 | exact hasC1 | exact hasC2 | exact hasC3 | exact hasC4 | exact hasC5 | exact hasC6 | exact hasC7 | exact hasC8 | exact hasC9 | exact hasC10 | exact hasC11 | exact hasC12 | exact hasC13 | exact hasC14 | exact hasC15 | exact hasC16 | exact hasC17 | exact hasC18 | exact hasC19 | exact hasC20 | exact hasC21 | exact hasC22 | exact hasC23) rfl) rfl ?_
          refine wa_2 2 6 (by kernel_rfl) ?_ ?_
          · refine wi_yn rfl (y_load (fun _ => rfl) (ev_rfl rfl)) (row_cell (by first | exact hasC0 | exact hasC1 | exact hasC2 | exact hasC3 | exact hasC4 | exact hasC5 | exact hasC6 | exact hasC7 | exact hasC8 | exact hasC9 | exact hasC10 | exact hasC11 | exact hasC12 | exact hasC13 | exact hasC14 | exact hasC15 | exact hasC16 | exact hasC17 | exact hasC18 | exact hasC19 | exact hasC20 | exact hasC21 | exact hasC22 | exact hasC23) rfl) rfl ?_
            refine wa_2 3 6 (by kernel_rfl) ?_ ?_
            · refine wi_t rfl rfl (t_call1s rfl (fun _ _ => rfl) (by first | exact atC0 | exact atC1 | exact atC2 | exact atC3 | exact atC4 | exact atC5 | exact atC6 | exact atC7 | exact atC8 | exact atC9 | exact atC10 | exact atC11 | exact atC12 | exact atC13 | exact atC14 | exact atC15 | exact atC16 | exact atC17 | exact atC18 | exact atC19 | exact atC20 | exact atC21 | exact atC22 | exact atC23) (fun w hi => (word_ok1 A3 Ar c3 cr s.e3 s.r w (hi.one (by first | exact hasC0 | exact hasC1 | exact hasC2 | exact hasC3 | exact hasC4 | exact hasC5 | exact hasC6 | exact hasC7 | exact hasC8 | exact hasC9 | exact hasC10 | exact hasC11 | exact hasC12 | exact hasC13 | exact hasC14 | exact hasC15 | exact hasC16 | exact hasC17 | exact hasC18 | exact hasC19 | exact hasC20 | exact hasC21 | exact hasC22 | exact hasC23)) (fun w' hk => h.r.oldK hi (by first | exact hasC0 | exact hasC1 | exact hasC2 | exact hasC3 | exact hasC4 | exact hasC5 | exact hasC6 | exact hasC7 | exact hasC8 | exact hasC9 | exact hasC10 | exact hasC11 | exact hasC12 | exact hasC13 | exact hasC14 | exact hasC15 | exact hasC16 | exact hasC17 | exact hasC18 | exact hasC19 | exact hasC20 | exact hasC21 | exact hasC22 | exact hasC23) hk) (by simp only [List.length_append, words_len, List.length_cons, List.length_nil]; omega)))) (fun _ _ _ _ _ _ _ h => by cases h) rfl ?_
              rintro _ _ ⟨_, ⟨A4, c4, rfl, rfl⟩, rfl⟩
              refine wa_1 6 (by kernel_rfl) ?_
              refine wi_t rfl rfl (t_buildSl1 rfl rfl (fun _ => rfl) (fun _ => rfl) rfl rfl) (fun _ _ _ _ _ _ _ h => by cases h) rfl ?_
              rintro _ _ ⟨b33, rfl, rfl⟩
              refine wa_1 7 (by kernel_rfl) ?_
              refine wi_t rfl rfl (t_call1s rfl (fun _ _ => rfl) (by first | exact atC0 | exact atC1 | exact atC2 | exact atC3 | exact atC4 | exact atC5 | exact atC6 | exact atC7 | exact atC8 | exact atC9 | exact atC10 | exact atC11 | exact atC12 | exact atC13 | exact atC14 | exact atC15 | exact atC16 | exact atC17 | exact atC18 | exact atC19 | exact atC20 | exact atC21 | exact atC22 | exact atC23) (fun w hi => (word_ok1 A4 _ c4 _ s.e4 [s.flags] w (hi.one (by first | exact hasC0 | exact hasC1 | exact hasC2 | exact hasC3 | exact hasC4 | exact hasC5 | exact hasC6 | exact hasC7 | exact hasC8 | exact hasC9 | exact hasC10 | exact hasC11 | exact hasC12 | exact hasC13 | exact hasC14 | exact hasC15 | exact hasC16 | exact hasC17 | exact hasC18 | exact hasC19 | exact hasC20 | exact hasC21 | exact hasC22 | exact hasC23)) (fun w' hk => hi.rdK (by repeat (first | exact .l _ (by first | exact hasC0 | exact hasC1 | exact hasC2 | exact hasC3 | exact hasC4 | exact hasC5 | exact hasC6 | exact hasC7 | exact hasC8 | exact hasC9 | exact hasC10 | exact hasC11 | exact hasC12 | exact hasC13 | exact hasC14 | exact hasC15 | exact hasC16 | exact hasC17 | exact hasC18 | exact hasC19 | exact hasC20 | exact hasC21 | exact hasC22 | exact hasC23) | exact .r _ (by first | exact hasC0 | exact hasC1 | exact hasC2 | exact hasC3 | exact hasC4 | exact hasC5 | exact hasC6 | exact hasC7 | exact hasC8 | exact hasC9 | exact hasC10 | exact hasC11 | exact hasC12 | exact hasC13 | exact hasC14 | exact hasC15 | exact hasC16 | exact hasC17 | exact hasC18 | exact hasC19 | exact hasC20 | exact hasC21 | exact hasC22 | exact hasC23) | refine .t _ ?_)) hk) (by simp only [List.length_append, words_len, List.length_cons, List.length_nil]; omega)))) (fun _ _ _ _ _ _ _ h => by cases h) rfl ?_
              rintro _ _ ⟨_, ⟨A5, c5, rfl, rfl⟩, rfl⟩
              refine wa_yn 8 rfl (by kernel_rfl) (by kernel_rfl) (by kernel_rfl) (y_assign (ev_rfl rfl)) rfl ?_
              refine wa_done (by kernel_rfl) ?_
              refine q_mid ((A5, c5)) ?_ ?_ ?_
              · trivial
              · ((repeat' (refine Wk.cons ?_ ?_)) <;> first | exact Wk.nil | exact rfl | exact trivial | exact wk_num rfl (by omega) | exact wk_num rfl (by simp))
              · ((repeat (first | exact List.Sublist.slnil | refine List.Sublist.cons_cons _ ?_ | refine List.Sublist.cons _ ?_)))
            · refine wi_t rfl rfl (t_buildSl1 rfl rfl (fun _ => rfl) (fun _ => rfl) rfl rfl) (fun _ _ _ _ _ _ _ h => by cases h) rfl ?_
              rintro _ _ ⟨b33, rfl, rfl⟩
              refine wa_1 3 (by kernel_rfl) ?_
              refine wi_t rfl rfl (t_call1s rfl (fun _ _ => rfl) (by first | exact atC0 | exact atC1 | exact atC2 | exact atC3 | exact atC4 | exact atC5 | exact atC6 | exact atC7 | exact atC8 | exact atC9 | exact atC10 | exact atC11 | exact atC12 | exact atC13 | exact atC14 | exact atC15 | exact atC16 | exact atC17 | exact atC18 | exact atC19 | exact atC20 | exact atC21 | exact atC22 | exact atC23) (fun w hi => (word_ok1 A3 Ar c3 cr s.e3 s.r w (hi.one (by first | exact hasC0 | exact hasC1 | exact hasC2 | exact hasC3 | exact hasC4 | exact hasC5 | exact hasC6 | exact hasC7 | exact hasC8 | exact hasC9 | exact hasC10 | exact hasC11 | exact hasC12 | exact hasC13 | exact hasC14 | exact hasC15 | exact hasC16 | exact hasC17 | exact hasC18 | exact hasC19 | exact hasC20 | exact hasC21 | exact hasC22 | exact hasC23)) (fun w' hk => h.r.oldK hi (by first | exact hasC0 | exact hasC1 | exact hasC2 | exact hasC3 | exact hasC4 | exact hasC5 | exact hasC6 | exact hasC7 | exact hasC8 | exact hasC9 | exact hasC10 | exact hasC11 | exact hasC12 | exact hasC13 | exact hasC14 | exact hasC15 | exact hasC16 | exact hasC17 | exact hasC18 | exact hasC19 | exact hasC20 | exact hasC21 | exact hasC22 | exact hasC23) hk) (by simp only [List.length_append, words_len, List.length_cons, List.length_nil]; omega)))) (fun _ _ _ _ _ _ _ h => by cases h) rfl ?_
              rintro _ _ ⟨_, ⟨A4, c4, rfl, rfl⟩, rfl⟩
              refine wa_1 7 (by kernel_rfl) ?_
              refine wi_t rfl rfl (t_call1s rfl (fun _ _ => rfl) (by first | exact atC0 | exact atC1 | exact atC2 | exact atC3 | exact atC4 | exact atC5 | exact atC6 | exact atC7 | exact atC8 | exact atC9 | exact atC10 | exact atC11 | exact atC12 | exact atC13 | exact atC14 | exact atC15 | exact atC16 | exact atC17 | exact atC18 | exact atC19 | exact atC20 | exact atC21 | exact atC22 | exact atC23) (fun w hi => (word_ok1 A4 _ c4 _ s.e4 [s.flags] w (hi.one (by first | exact hasC0 | exact hasC1 | exact hasC2 | exact hasC3 | exact hasC4 | exact hasC5 | exact hasC6 | exact hasC7 | exact hasC8 | exact hasC9 | exact hasC10 | exact hasC11 | exact hasC12 | exact hasC13 | exact hasC14 | exact hasC15 | exact hasC16 | exact hasC17 | exact hasC18 | exact hasC19 | exact hasC20 | exact hasC21 | exact hasC22 | exact hasC23)) (fun w' hk => hi.rdK (by repeat (first | exact .l _ (by first | exact hasC0 | exact hasC1 | exact hasC2 | exact hasC3 | exact hasC4 | exact hasC5 | exact hasC6 | exact hasC7 | exact hasC8 | exact hasC9 | exact hasC10 | exact hasC11 | exact hasC12 | exact hasC13 | exact hasC14 | exact hasC15 | exact hasC16 | exact hasC17 | exact hasC18 | exact hasC19 | exact hasC20 | exact hasC21 | exact hasC22 | exact hasC23) | exact .r _ (by first | exact hasC0 | exact hasC1 | exact hasC2 | exact hasC3 | exact hasC4 | exact hasC5 | exact hasC6 | exact hasC7 | exact hasC8 | exact hasC9 | exact hasC10 | exact hasC11 | exact hasC12 | exact hasC13 | exact hasC14 | exact hasC15 | exact hasC16 | exact hasC17 | exact hasC18 | exact hasC19 | exact hasC20 | exact hasC21 | exact hasC22 | exact hasC23) | refine .t _ ?_)) hk) (by simp only [List.length_append, words_len, List.length_cons, List.length_nil]; omega)))) (fun _ _ _ _ _ _ _ h => by cases h) rfl ?_
              rintro _ _ ⟨_, ⟨A5, c5, rfl, rfl⟩, rfl⟩
              refine wa_yn 8 rfl (by kernel_rfl) (by kernel_rfl) (by kernel_rfl) (y_assign (ev_rfl rfl)) rfl ?_
              refine wa_done (by kernel_rfl) ?_
              refine q_mid ((A5, c5)) ?_ ?_ ?_
              · trivial
              · ((repeat' (refine Wk.cons ?_ ?_)) <;> first | exact Wk.nil | exact rfl | exact trivial | exact wk_num rfl (by omega) | exact wk_num rfl (by simp))
              · ((repeat (first | exact List.Sublist.slnil | refine List.Sublist.cons_cons _ ?_ | refine List.Sublist.cons _ ?_)))
          · refine wi_t rfl rfl (t_buildSl1 rfl rfl (fun _ => rfl) (fun _ => rfl) rfl rfl) (fun _ _ _ _ _ _ _ h => by cases h) rfl ?_
            rintro _ _ ⟨b33, rfl, rfl⟩
            refine wa_1 2 (by kernel_rfl) ?_
            refine wi_yn rfl (y_load (fun _ => rfl) (ev_rfl rfl)) (row_cell (by first | exact hasC0 | exact hasC1 | exact hasC2 | exact hasC3 | exact hasC4 | exact hasC5 | exact hasC6 | exact hasC7 | exact hasC8 | exact hasC9 | exact hasC10 | exact hasC11 | exact hasC12 | exact hasC13 | exact hasC14 | exact hasC15 | exact hasC16 | exact hasC17 | exact hasC18 | exact hasC19 | exact hasC20 | exact hasC21 | exact hasC22 | exact hasC23) rfl) rfl ?_
            refine wa_1 3 (by kernel_rfl) ?_
            refine wi_t rfl rfl (t_call1s rfl (fun _ _ => rfl) (by first | exact atC0 | exact atC1 | exact atC2 | exact atC3 | exact atC4 | exact atC5 | exact atC6 | exact atC7 | exact atC8 | exact atC9 | exact atC10 | exact atC11 | exact atC12 | exact atC13 | exact atC14 | exact atC15 | exact atC16 | exact atC17 | exact atC18 | exact atC19 | exact atC20 | exact atC21 | exact atC22 | exact atC23) (fun w hi => (word_ok1 A3 Ar c3 cr s.e3 s.r w (hi.one (by first | exact hasC0 | exact hasC1 | exact hasC2 | exact hasC3 | exact hasC4 | exact hasC5 | exact hasC6 | exact hasC7 | exact hasC8 | exact hasC9 | exact hasC10 | exact hasC11 | exact hasC12 | exact hasC13 | exact hasC14 | exact hasC15 | exact hasC16 | exact hasC17 | exact hasC18 | exact hasC19 | exact hasC20 | exact hasC21 | exact hasC22 | exact hasC23)) (fun w' hk => h.r.oldK hi (by first | exact hasC0 | exact hasC1 | exact hasC2 | exact hasC3 | exact hasC4 | exact hasC5 | exact hasC6 | exact hasC7 | exact hasC8 | exact hasC9 | exact hasC10 | exact hasC11 | exact hasC12 | exact hasC13 | exact hasC14 | exact hasC15 | exact hasC16 | exact hasC17 | exact hasC18 | exact hasC19 | exact hasC20 | exact hasC21 | exact hasC22 | exact hasC23) hk) (by simp only [List.length_append, words_len, List.length_cons, List.length_nil]; omega)))) (fun _ _ _ _ _ _ _ h => by cases h) rfl ?_
            rintro _ _ ⟨_, ⟨A4, c4, rfl, rfl⟩, rfl⟩
            refine wa_1 7 (by kernel_rfl) ?_
            refine wi_t rfl rfl (t_call1s rfl (fun _ _ => rfl) (by first | exact atC0 | exact atC1 | exact atC2 | exact atC3 | exact atC4 | exact atC5 | exact atC6 | exact atC7 | exact atC8 | exact atC9 | exact atC10 | exact atC11 | exact atC12 | exact atC13 | exact atC14 | exact atC15 | exact atC16 | exact atC17 | exact atC18 | exact atC19 | exact atC20 | exact atC21 | exact atC22 | exact atC23) (fun w hi => (word_ok1 A4 _ c4 _ s.e4 [s.flags] w (hi.one (by first | exact hasC0 | exact hasC1 | exact hasC2 | exact hasC3 | exact hasC4 | exact hasC5 | exact hasC6 | exact hasC7 | exact hasC8 | exact hasC9 | exact hasC10 | exact hasC11 | exact hasC12 | exact hasC13 | exact hasC14 | exact hasC15 | exact hasC16 | exact hasC17 | exact hasC18 | exact hasC19 | exact hasC20 | exact hasC21 | exact hasC22 | exact hasC23)) (fun w' hk => hi.rdK (by repeat (first | exact .l _ (by first | exact hasC0 | exact hasC1 | exact hasC2 | exact hasC3 | exact hasC4 | exact hasC5 | exact hasC6 | exact hasC7 | exact hasC8 | exact hasC9 | exact hasC10 | exact hasC11 | exact hasC12 | exact hasC13 | exact hasC14 | exact hasC15 | exact hasC16 | exact hasC17 | exact hasC18 | exact hasC19 | exact hasC20 | exact hasC21 | exact hasC22 | exact hasC23) | exact .r _ (by first | exact hasC0 | exact hasC1 | exact hasC2 | exact hasC3 | exact hasC4 | exact hasC5 | exact hasC6 | exact hasC7 | exact hasC8 | exact hasC9 | exact hasC10 | exact hasC11 | exact hasC12 | exact hasC13 | exact hasC14 | exact hasC15 | exact hasC16 | exact hasC17 | exact hasC18 | exact hasC19 | exact hasC20 | exact hasC21 | exact hasC22 | exact hasC23) | refine .t _ ?_)) hk) (by simp only [List.length_append, words_len, List.length_cons, List.length_nil]; omega)))) (fun _ _ _ _ _ _ _ h => by cases h) rfl ?_
            rintro _ _ ⟨_, ⟨A5, c5, rfl, rfl⟩, rfl⟩
            refine wa_yn 8 rfl (by kernel_rfl) (by kernel_rfl) (by kernel_rfl) (y_assign (ev_rfl rfl)) rfl ?_
            refine wa_done (by kernel_rfl) ?_
            refine q_mid ((A5, c5)) ?_ ?_ ?_
            · trivial
            · ((repeat' (refine Wk.cons ?_ ?_)) <;> first | exact Wk.nil | exact rfl | exact trivial | exact wk_num rfl (by omega) | exact wk_num rfl (by simp))
            · ((repeat (first | exact List.Sublist.slnil | refine List.Sublist.cons_cons _ ?_ | refine List.Sublist.cons _ ?_)))
      · rintro ⟨A5, c5⟩ -
        dsimp only
        refine wc_seq ?_
        refine wc_draw ⟨fun j => List.elem j [], []⟩ (by kernel_rfl) ?_
        refine wa_yn 0 rfl (by kernel_rfl) (by kernel_rfl) (by kernel_rfl) (y_field 4 rfl (ev_rfl rfl) (by first | exact Nat.zero_add _ | exact rfl)) rfl ?_
        refine wa_ln 1 rfl (by kernel_rfl) (by kernel_rfl) (by kernel_rfl) (by kernel_rfl) (y_load (fun _ => rfl) (ev_rfl rfl)) (row_cell (by first | exact hasC0 | exact hasC1 | exact hasC2 | exact hasC3 | exact hasC4 | exact hasC5 | exact hasC6 | exact hasC7 | exact hasC8 | exact hasC9 | exact hasC10 | exact hasC11 | exact hasC12 | exact hasC13 | exact hasC14 | exact hasC15 | exact hasC16 | exact hasC17 | exact hasC18 | exact hasC19 | exact hasC20 | exact hasC21 | exact hasC22 | exact hasC23) rfl) rfl ?_
        refine wa_yn 4 rfl (by kernel_rfl) (by kernel_rfl) (by kernel_rfl) (y_field 5 rfl (ev_rfl rfl) (by first | exact Nat.zero_add _ | exact rfl)) rfl ?_
        refine wa_ln 5 rfl (by kernel_rfl) (by kernel_rfl) (by kernel_rfl) (by kernel_rfl) (y_load (fun _ => rfl) (ev_rfl rfl)) (row_cell (by first | exact hasC0 | exact hasC1 | exact hasC2 | exact hasC3 | exact hasC4 | exact hasC5 | exact hasC6 | exact hasC7 | exact hasC8 | exact hasC9 | exact hasC10 | exact hasC11 | exact hasC12 | exact hasC13 | exact hasC14 | exact hasC15 | exact hasC16 | exact hasC17 | exact hasC18 | exact hasC19 | exact hasC20 | exact hasC21 | exact hasC22 | exact hasC23) rfl) rfl ?_
        refine wa_yn 9 rfl (by kernel_rfl) (by kernel_rfl) (by kernel_rfl) (y_field 6 rfl (ev_rfl rfl) (by first | exact Nat.zero_add _ | exact rfl)) rfl ?_
        refine wa_ln 10 rfl (by kernel_rfl) (by kernel_rfl) (by kernel_rfl) (by kernel_rfl) (y_load (fun _ => rfl) (ev_rfl rfl)) (row_cell (by first | exact hasC0 | exact hasC1 | exact hasC2 | exact hasC3 | exact hasC4 | exact hasC5 | exact hasC6 | exact hasC7 | exact hasC8 | exact hasC9 | exact hasC10 | exact hasC11 | exact hasC12 | exact hasC13 | exact hasC14 | exact hasC15 | exact hasC16 | exact hasC17 | exact hasC18 | exact hasC19 | exact hasC20 | exact hasC21 | exact hasC22 | exact hasC23) rfl) rfl ?_
        refine wa_yn 14 rfl (by kernel_rfl) (by kernel_rfl) (by kernel_rfl) (y_field 12 rfl (ev_rfl rfl) (by first | exact Nat.zero_add _ | exact rfl)) rfl ?_
        refine wa_ln 15 rfl (by kernel_rfl) (by kernel_rfl) (by kernel_rfl) (by kernel_rfl) (y_load (fun _ => rfl) (ev_rfl rfl)) (row_cell (by first | exact hasC0 | exact hasC1 | exact hasC2 | exact hasC3 | exact hasC4 | exact hasC5 | exact hasC6 | exact hasC7 | exact hasC8 | exact hasC9 | exact hasC10 | exact hasC11 | exact hasC12 | exact hasC13 | exact hasC14 | exact hasC15 | exact hasC16 | exact hasC17 | exact hasC18 | exact hasC19 | exact hasC20 | exact hasC21 | exact hasC22 | exact hasC23) rfl) rfl ?_
        refine wa_yn 19 rfl (by kernel_rfl) (by kernel_rfl) (by kernel_rfl) (y_field 13 rfl (ev_rfl rfl) (by first | exact Nat.zero_add _ | exact rfl)) rfl ?_
        refine wa_ln 20 rfl (by kernel_rfl) (by kernel_rfl) (by kernel_rfl) (by kernel_rfl) (y_load (fun _ => rfl) (ev_rfl rfl)) (row_cell (by first | exact hasC0 | exact hasC1 | exact hasC2 | exact hasC3 | exact hasC4 | exact hasC5 | exact hasC6 | exact hasC7 | exact hasC8 | exact hasC9 | exact hasC10 | exact hasC11 | exact hasC12 | exact hasC13 | exact hasC14 | exact hasC15 | exact hasC16 | exact hasC17 | exact hasC18 | exact hasC19 | exact hasC20 | exact hasC21 | exact hasC22 | exact hasC23) rfl) rfl ?_
        refine wa_yn 24 rfl (by kernel_rfl) (by kernel_rfl) (by kernel_rfl) (y_field 15 rfl (ev_rfl rfl) (by first | exact Nat.zero_add _ | exact rfl)) rfl ?_
        refine wa_ln 25 rfl (by kernel_rfl) (by kernel_rfl) (by kernel_rfl) (by kernel_rfl) (y_load (fun _ => rfl) (ev_rfl rfl)) (row_cell (by first | exact hasC0 | exact hasC1 | exact hasC2 | exact hasC3 | exact hasC4 | exact hasC5 | exact hasC6 | exact hasC7 | exact hasC8 | exact hasC9 | exact hasC10 | exact hasC11 | exact hasC12 | exact hasC13 | exact hasC14 | exact hasC15 | exact hasC16 | exact hasC17 | exact hasC18 | exact hasC19 | exact hasC20 | exact hasC21 | exact hasC22 | exact hasC23) rfl) rfl ?_
        refine wa_1 2 (by kernel_rfl) ?_
        refine wi_t rfl rfl (t_call rfl (fun _ _ => rfl) (fun w hi => number_ok _ w)) (fun _ _ _ _ _ _ _ h => by cases h) rfl ?_
        rintro _ _ ⟨_, ⟨rfl, rfl⟩, rfl⟩
        refine wa_yn 3 rfl (by kernel_rfl) (by kernel_rfl) (by kernel_rfl) (y_mul (ev_rfl rfl) (ev_rfl rfl) rfl) rfl ?_
        refine wa_1 6 (by kernel_rfl) ?_
        refine wi_t rfl rfl (t_call rfl (fun _ _ => rfl) (fun w hi => number_ok _ w)) (fun _ _ _ _ _ _ _ h => by cases h) rfl ?_
        rintro _ _ ⟨_, ⟨rfl, rfl⟩, rfl⟩
        refine wa_yn 7 rfl (by kernel_rfl) (by kernel_rfl) (by kernel_rfl) (y_mul (ev_rfl rfl) (ev_rfl rfl) rfl) rfl ?_
        refine wa_yn 8 rfl (by kernel_rfl) (by kernel_rfl) (by kernel_rfl) (y_or_ (ev_rfl rfl) (ev_rfl rfl) rfl) rfl ?_
        refine wa_1 11 (by kernel_rfl) ?_
        refine wi_t rfl rfl (t_call rfl (fun _ _ => rfl) (fun w hi => number_ok _ w)) (fun _ _ _ _ _ _ _ h => by cases h) rfl ?_
        rintro _ _ ⟨_, ⟨rfl, rfl⟩, rfl⟩
        refine wa_yn 12 rfl (by kernel_rfl) (by kernel_rfl) (by kernel_rfl) (y_mul (ev_rfl rfl) (ev_rfl rfl) rfl) rfl ?_
        refine wa_yn 13 rfl (by kernel_rfl) (by kernel_rfl) (by kernel_rfl) (y_or_ (ev_rfl rfl) (ev_rfl rfl) rfl) rfl ?_
        refine wa_1 16 (by kernel_rfl) ?_
        refine wi_t rfl rfl (t_call rfl (fun _ _ => rfl) (fun w hi => number_ok _ w)) (fun _ _ _ _ _ _ _ h => by cases h) rfl ?_
        rintro _ _ ⟨_, ⟨rfl, rfl⟩, rfl⟩
        refine wa_yn 17 rfl (by kernel_rfl) (by kernel_rfl) (by kernel_rfl) (y_mul (ev_rfl rfl) (ev_rfl rfl) rfl) rfl ?_
        refine wa_yn 18 rfl (by kernel_rfl) (by kernel_rfl) (by kernel_rfl) (y_or_ (ev_rfl rfl) (ev_rfl rfl) rfl) rfl ?_
        refine wa_1 21 (by kernel_rfl) ?_
        refine wi_t rfl rfl (t_call rfl (fun _ _ => rfl) (fun w hi => number_ok _ w)) (fun _ _ _ _ _ _ _ h => by cases h) rfl ?_
        rintro _ _ ⟨_, ⟨rfl, rfl⟩, rfl⟩
        refine wa_yn 22 rfl (by kernel_rfl) (by kernel_rfl) (by kernel_rfl) (y_mul (ev_rfl rfl) (ev_rfl rfl) rfl) rfl ?_
        refine wa_yn 23 rfl (by kernel_rfl) (by kernel_rfl) (by kernel_rfl) (y_or_ (ev_rfl rfl) (ev_rfl rfl) rfl) rfl ?_
        refine wa_1 26 (by kernel_rfl) ?_
        refine wi_t rfl rfl (t_call rfl (fun _ _ => rfl) (fun w hi => number_ok _ w)) (fun _ _ _ _ _ _ _ h => by cases h) rfl ?_
        rintro _ _ ⟨_, ⟨rfl, rfl⟩, rfl⟩
        refine wa_yn 27 rfl (by kernel_rfl) (by kernel_rfl) (by kernel_rfl) (y_mul (ev_rfl rfl) (ev_rfl rfl) rfl) rfl ?_
        refine wa_yn 28 rfl (by kernel_rfl) (by kernel_rfl) (by kernel_rfl) (y_or_ (ev_rfl rfl) (ev_rfl rfl) (truths_bits s.super s.paging s.ie s.esuper s.eie s.halted)) rfl ?_
        refine wa_yn 29 rfl (by kernel_rfl) (by kernel_rfl) (by kernel_rfl) (y_assign (ev_rfl rfl)) rfl ?_
        refine wa_done (by kernel_rfl) ?_
        refine q_then ?_
        refine wc_seq ?_
        refine wc_region ?_
        refine wl_y (y_move (ev_rfl rfl)) (fun _ _ => trivial) rfl ?_
        refine wl_y (y_move (ev_rfl rfl)) (fun _ _ => trivial) rfl ?_
        refine wl_y (y_conv rfl rfl (ev_rfl rfl) (show IntKind.u8.wrap s.truths = s.truths by rw [u8_wrap]; have := s.truths_rng; omega)) (fun _ _ => trivial) rfl ?_
        refine wl_t (t_buildSl1 rfl rfl (fun _ => rfl) (fun _ => rfl) rfl rfl) rfl ?_
        rintro _ _ ⟨b67, rfl, rfl⟩
        have l5 : s.e5.length ≤ 200 := by simp only [List.length_append, words_len, List.length_cons, List.length_nil]; omega
        refine wl_t (t_append (e := 5) (sz := 1) (bytes := 1) rfl rfl (by first | exact atC0 | exact atC1 | exact atC2 | exact atC3 | exact atC4 | exact atC5 | exact atC6 | exact atC7 | exact atC8 | exact atC9 | exact atC10 | exact atC11 | exact atC12 | exact atC13 | exact atC14 | exact atC15 | exact atC16 | exact atC17 | exact atC18 | exact atC19 | exact atC20 | exact atC21 | exact atC22 | exact atC23) rfl rfl (fun w hi => hi.rd (by first | exact hasC0 | exact hasC1 | exact hasC2 | exact hasC3 | exact hasC4 | exact hasC5 | exact hasC6 | exact hasC7 | exact hasC8 | exact hasC9 | exact hasC10 | exact hasC11 | exact hasC12 | exact hasC13 | exact hasC14 | exact hasC15 | exact hasC16 | exact hasC17 | exact hasC18 | exact hasC19 | exact hasC20 | exact hasC21 | exact hasC22 | exact hasC23)) (allT rfl) (by simp only [maxLen]; omega) (by omega)) rfl ?_
        rintro _ _ ⟨A6, c6, rfl, rfl⟩
        rw [one_len s.e5 s.truths, one_ints s.e5 s.truths]
        refine wl_y (y_assign (ev_rfl rfl)) (fun _ _ => trivial) rfl ?_
        refine wl_nil ?_
        refine q_then ?_
        refine wc_seq ?_
        refine wc_region ?_
        refine wl_y (y_move (ev_rfl rfl)) (fun _ _ => trivial) rfl ?_
        refine wl_y (y_field 7 rfl (ev_rfl rfl) (by first | exact Nat.zero_add _ | exact rfl)) (fun _ _ => trivial) rfl ?_
        refine wl_y (y_load (fun _ => rfl) (ev_rfl rfl)) (row_cell (by first | exact hasC0 | exact hasC1 | exact hasC2 | exact hasC3 | exact hasC4 | exact hasC5 | exact hasC6 | exact hasC7 | exact hasC8 | exact hasC9 | exact hasC10 | exact hasC11 | exact hasC12 | exact hasC13 | exact hasC14 | exact hasC15 | exact hasC16 | exact hasC17 | exact hasC18 | exact hasC19 | exact hasC20 | exact hasC21 | exact hasC22 | exact hasC23) rfl) rfl ?_
        refine wl_y (y_field 8 rfl (ev_rfl rfl) (by first | exact Nat.zero_add _ | exact rfl)) (fun _ _ => trivial) rfl ?_
        refine wl_y (y_load (fun _ => rfl) (ev_rfl rfl)) (row_cell (by first | exact hasC0 | exact hasC1 | exact hasC2 | exact hasC3 | exact hasC4 | exact hasC5 | exact hasC6 | exact hasC7 | exact hasC8 | exact hasC9 | exact hasC10 | exact hasC11 | exact hasC12 | exact hasC13 | exact hasC14 | exact hasC15 | exact hasC16 | exact hasC17 | exact hasC18 | exact hasC19 | exact hasC20 | exact hasC21 | exact hasC22 | exact hasC23) rfl) rfl ?_
        refine wl_y (y_field 9 rfl (ev_rfl rfl) (by first | exact Nat.zero_add _ | exact rfl)) (fun _ _ => trivial) rfl ?_
        refine wl_y (y_load (fun _ => rfl) (ev_rfl rfl)) (row_cell (by first | exact hasC0 | exact hasC1 | exact hasC2 | exact hasC3 | exact hasC4 | exact hasC5 | exact hasC6 | exact hasC7 | exact hasC8 | exact hasC9 | exact hasC10 | exact hasC11 | exact hasC12 | exact hasC13 | exact hasC14 | exact hasC15 | exact hasC16 | exact hasC17 | exact hasC18 | exact hasC19 | exact hasC20 | exact hasC21 | exact hasC22 | exact hasC23) rfl) rfl ?_
        refine wl_y (y_field 10 rfl (ev_rfl rfl) (by first | exact Nat.zero_add _ | exact rfl)) (fun _ _ => trivial) rfl ?_
        refine wl_y (y_load (fun _ => rfl) (ev_rfl rfl)) (row_cell (by first | exact hasC0 | exact hasC1 | exact hasC2 | exact hasC3 | exact hasC4 | exact hasC5 | exact hasC6 | exact hasC7 | exact hasC8 | exact hasC9 | exact hasC10 | exact hasC11 | exact hasC12 | exact hasC13 | exact hasC14 | exact hasC15 | exact hasC16 | exact hasC17 | exact hasC18 | exact hasC19 | exact hasC20 | exact hasC21 | exact hasC22 | exact hasC23) rfl) rfl ?_
        refine wl_y (y_field 11 rfl (ev_rfl rfl) (by first | exact Nat.zero_add _ | exact rfl)) (fun _ _ => trivial) rfl ?_
        refine wl_y (y_load (fun _ => rfl) (ev_rfl rfl)) (row_cell (by first | exact hasC0 | exact hasC1 | exact hasC2 | exact hasC3 | exact hasC4 | exact hasC5 | exact hasC6 | exact hasC7 | exact hasC8 | exact hasC9 | exact hasC10 | exact hasC11 | exact hasC12 | exact hasC13 | exact hasC14 | exact hasC15 | exact hasC16 | exact hasC17 | exact hasC18 | exact hasC19 | exact hasC20 | exact hasC21 | exact hasC22 | exact hasC23) rfl) rfl ?_
        refine wl_y (y_field 14 rfl (ev_rfl rfl) (by first | exact Nat.zero_add _ | exact rfl)) (fun _ _ => trivial) rfl ?_
        refine wl_y (y_load (fun _ => rfl) (ev_rfl rfl)) (row_cell (by first | exact hasC0 | exact hasC1 | exact hasC2 | exact hasC3 | exact hasC4 | exact hasC5 | exact hasC6 | exact hasC7 | exact hasC8 | exact hasC9 | exact hasC10 | exact hasC11 | exact hasC12 | exact hasC13 | exact hasC14 | exact hasC15 | exact hasC16 | exact hasC17 | exact hasC18 | exact hasC19 | exact hasC20 | exact hasC21 | exact hasC22 | exact hasC23) rfl) rfl ?_
        refine wl_y (y_conv rfl rfl (ev_rfl rfl) (u32_wrap _)) (fun _ _ => trivial) rfl ?_
        refine wl_y (y_field 14 rfl (ev_rfl rfl) (by first | exact Nat.zero_add _ | exact rfl)) (fun _ _ => trivial) rfl ?_
        refine wl_y (y_load (fun _ => rfl) (ev_rfl rfl)) (row_cell (by first | exact hasC0 | exact hasC1 | exact hasC2 | exact hasC3 | exact hasC4 | exact hasC5 | exact hasC6 | exact hasC7 | exact hasC8 | exact hasC9 | exact hasC10 | exact hasC11 | exact hasC12 | exact hasC13 | exact hasC14 | exact hasC15 | exact hasC16 | exact hasC17 | exact hasC18 | exact hasC19 | exact hasC20 | exact hasC21 | exact hasC22 | exact hasC23) rfl) rfl ?_
        refine wl_y (y_shr (ev_rfl rfl) (ev_rfl rfl) (by omega) (shr32 _)) (fun _ _ => trivial) rfl ?_
        refine wl_y (y_conv rfl rfl (ev_rfl rfl) (by first | exact IntWalk.u32_in _ ⟨by omega, by omega⟩ | exact rfl)) (fun _ _ => trivial) rfl ?_
        refine wl_t (t_buildSl1 rfl rfl (fun _ => rfl) (fun _ => rfl) rfl rfl) rfl ?_
        rintro _ _ ⟨b87, rfl, rfl⟩
        refine wl_t (t_call1s rfl (fun _ _ => rfl) (by first | exact atC0 | exact atC1 | exact atC2 | exact atC3 | exact atC4 | exact atC5 | exact atC6 | exact atC7 | exact atC8 | exact atC9 | exact atC10 | exact atC11 | exact atC12 | exact atC13 | exact atC14 | exact atC15 | exact atC16 | exact atC17 | exact atC18 | exact atC19 | exact atC20 | exact atC21 | exact atC22 | exact atC23) (fun w hi => (word_ok1 A6 _ c6 _ (s.e5 ++ [s.truths]) [s.root, s.vec, s.epc, s.cause, s.addr, s.count % 4294967296, s.count / 4294967296] w (hi.one (by first | exact hasC0 | exact hasC1 | exact hasC2 | exact hasC3 | exact hasC4 | exact hasC5 | exact hasC6 | exact hasC7 | exact hasC8 | exact hasC9 | exact hasC10 | exact hasC11 | exact hasC12 | exact hasC13 | exact hasC14 | exact hasC15 | exact hasC16 | exact hasC17 | exact hasC18 | exact hasC19 | exact hasC20 | exact hasC21 | exact hasC22 | exact hasC23)) (fun w' hk => hi.rdK (by repeat (first | exact .l _ (by first | exact hasC0 | exact hasC1 | exact hasC2 | exact hasC3 | exact hasC4 | exact hasC5 | exact hasC6 | exact hasC7 | exact hasC8 | exact hasC9 | exact hasC10 | exact hasC11 | exact hasC12 | exact hasC13 | exact hasC14 | exact hasC15 | exact hasC16 | exact hasC17 | exact hasC18 | exact hasC19 | exact hasC20 | exact hasC21 | exact hasC22 | exact hasC23) | exact .r _ (by first | exact hasC0 | exact hasC1 | exact hasC2 | exact hasC3 | exact hasC4 | exact hasC5 | exact hasC6 | exact hasC7 | exact hasC8 | exact hasC9 | exact hasC10 | exact hasC11 | exact hasC12 | exact hasC13 | exact hasC14 | exact hasC15 | exact hasC16 | exact hasC17 | exact hasC18 | exact hasC19 | exact hasC20 | exact hasC21 | exact hasC22 | exact hasC23) | refine .t _ ?_)) hk) (by simp only [List.length_append, words_len, List.length_cons, List.length_nil]; omega)))) rfl ?_
        rintro _ _ ⟨_, ⟨A7, c7, rfl, rfl⟩, rfl⟩
        refine wl_y (y_assign (ev_rfl rfl)) (fun _ _ => trivial) rfl ?_
        refine wl_y (y_assign (ev_rfl rfl)) (fun _ _ => trivial) rfl ?_
        refine wl_nil ?_
        refine q_then ?_
        refine wc_ret ?_
        refine ret2 (cs' := [sl _ _ _ _ _ _]) (.inl rfl) (by ((repeat (first | exact List.Sublist.slnil | refine List.Sublist.cons_cons _ ?_ | refine List.Sublist.cons _ ?_)))) rfl rfl rfl ?_
        rw [he, he2]
        exact ⟨_, _, rfl, rfl⟩
end Go.Proofs.Ytjknccgefnnfnaa
