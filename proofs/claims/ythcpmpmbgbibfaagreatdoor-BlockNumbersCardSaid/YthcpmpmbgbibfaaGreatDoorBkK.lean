/- The law's guest: the program's parts and the document's; some of the runs. -/
import Derived.Test.YthcpmpmbgbibfaaGreatDoorBkJ
import Derived.Test.YthcpmpmbgbibfaaGreatDoorInkA
set_option linter.unusedSimpArgs false
set_option linter.unusedVariables false
set_option maxRecDepth 100000
namespace Go.Ink
open Go.RowKit
structure GLoc where
 bw : Nat
 bu : Nat
 bb : Nat
 L : MLoc
 D : DLoc
 bg : Nat
 K : RMLoc
 bx : Nat
 by_ : Nat
 bd : Nat
theorem new_wf : St.new.wf := ⟨u0, u0, u0, u0, u0, u0, u0, ⟨Int.le_refl _, show (0 : Int) ≤ 18446744073709551615 by decide⟩, fun x hx => (by cases hx), fun x hx => by cases hx⟩
theorem fresh_gok {n : Nat} {l k : List Int} (hl : l.length ≤ n * 64) (hb : u8s l) (hk : k.length ≤ 1024) (hkb : u8s k) : GOk n St.new ⟨Mem.init n l, tflush⟩ (Dev.init k) :=
 ⟨new_wf, rfl, ⟨init_ok hl hb, tflush_len⟩, Dev.init_ok hk hkb, ⟨Int.le_refl _, show (0 : Int) ≤ 255 by decide⟩⟩
theorem known_code : codeOf [(1, 1), (69, 0)] = [1, 1, 69] := by decide
def knownSay (q : St × Mmu × Dev) : Bool := q.1.halted && (q.1.count == 2) && (q.1.d == [1])
theorem known_run : knownSay (runTo 1 9 St.new ⟨Mem.init 1 [1, 1, 69], tflush⟩ (Dev.init [])) = true := by decide +kernel
end Go.Ink
namespace Go.Proofs.YthcpmpmbgbibfaaGreatDoor
open Go.RowKit Go.Ink
attribute [local irreducible] OpY GuardIs

theorem newmem18_ok (A : Option Addr) (c n : Nat) (l : List Int) (hn : n ≤ 64) (hl : l.length ≤ n * 64) (w : World) (h : Rd w .u8 A l.length c l) :
  Ctr Tryz.prog 81 [.int .i64 n, .slice A l.length c] w [] (fun v cs => ∃ K, v = .pointer (some ⟨K.bm, 0, none⟩) ∧ cs = refMF K n (refData n l) (List.replicate n false)) := by
 refine fn_ctr Tryz.func81 rfl Tryz.ntmps81 rfl (Inv.start w) ?_
 refine Zs (Zr (ZA ?_))
 refine Zn (Zt (Zs (Zr (ZA ?_))))
 refine ZS (fun w hi => ref8new_ok n hn w) ?_
 rintro _ _ ⟨_, ⟨K, rfl, rfl⟩, rfl⟩
 refine ZA ?_
 refine Zn (Zt (Zs (Zr (ZA ?_))))
 refine ZA ?_
 refine ZFa 0 ?_
 refine ZC ?_
 refine ZA ?_
 refine wl_t (t_copy rfl rfl Za rfl rfl (fun w hi => h.oldN hi) ints_one (by omega)) rfl ?_
 rintro _ _ ⟨rfl, rfl⟩
 have hd2 : (ints .u8 (List.replicate (n * 64) 0)).take 0 ++ (ints .u8 l).take (min l.length (n * 64)) ++ (ints .u8 (List.replicate (n * 64) 0)).drop (0 + min l.length (n * 64)) = ints .u8 (refData n l) := (by rw [Nat.min_eq_left hl]; simp [ints, refData, List.take_of_length_le])
 rw [hd2]
 refine Zn (Zt (Zs (Zr (ZA ?_))))
 refine ZA ?_
 refine Zn (Zt (Ze (ret1 (cs' := (refMF K n (refData n l) (List.replicate n false))) (.inl rfl) Zu rfl rfl ?_)))
 exact ⟨K, rfl, rfl⟩
abbrev imgV (A : Option Addr) (c : Nat) (l : List Int) (B : Option Addr) (e : Nat) (k : List Int) (n : Nat) : Value := .agg #[.slice A l.length c, .slice B k.length e, .int .i64 (n : Int)]
abbrev g18Row (F : GLoc) (s : St) : Chunk := row F.bg (s.cells (.slice none 0 0) (.slice none 0 0) ++ [.pointer (some ⟨F.bx, 0, none⟩), .pointer (some ⟨F.by_, 0, none⟩)]) 58
abbrev w18Row (F : GLoc) (s : St) : Chunk := row F.bw ([.pointer (some ⟨F.bu, 0, none⟩), .pointer (some ⟨F.D.bs, 0, none⟩), .pointer (some ⟨F.L.bm, 0, none⟩)] ++ (s.cells (.slice none 0 0) (.slice none 0 0) ++ [.pointer (some ⟨F.bg, 0, none⟩)])) 41
abbrev r18F (F : GLoc) (n : Nat) (Z : DAdr) (data : List Int) (tu : List Bool) (T : List TE) (d : Dev) : List Chunk := refMF F.K n data tu ++ [refURow F.bx F.K.bm T] ++ refBF F.by_ F.K.bm F.bd Z d
set_option maxHeartbeats 1000000 in
theorem ref18new_ok (A B : Option Addr) (c e n : Nat) (l k : List Int) (hn : n ≤ 64) (hl : l.length ≤ n * 64) (hk : k.length ≤ 1024) (w : World) (h : Rd w .u8 A l.length c l) (hB : Rd w .u8 B k.length e k) :
  Ctr Tryz.prog 33 [imgV A c l B e k n] w [] (fun v cs => ∃ bg K bx by_ bd, v = .pointer (some ⟨bg, 0, none⟩) ∧ cs = row bg (St.new.cells (.slice none 0 0) (.slice none 0 0) ++ [.pointer (some ⟨bx, 0, none⟩), .pointer (some ⟨by_, 0, none⟩)]) 58 :: (refMF K n (refData n l) (List.replicate n false) ++ [refURow bx K.bm tflush] ++ refBF by_ K.bm bd ⟨none, 0, none, 0⟩ (Dev.init k))) := by
 have H1 := fun w h => newmem18_ok A c n l hn hl w h
 have H3 := fun bm w h => ref15new_ok bm B e k hk w h
 obtain ⟨d, hd⟩ : ∃ d, Dev.init k = d := ⟨_, rfl⟩
 obtain ⟨data, hda⟩ : ∃ d, refData n l = d := ⟨_, rfl⟩
 obtain ⟨tu, htu⟩ : ∃ d, List.replicate n false = d := ⟨_, rfl⟩
 rw [hd] at H3 ⊢
 rw [hda, htu] at H1 ⊢
 refine fn_ctr Tryz.func33 rfl Tryz.ntmps33 rfl (Inv.start w) ?_
 refine Zs (Zr (ZO fun b1 => ?_))
 refine ZA ?_
 refine Zn (Zt (Zs (Zr (ZFa 2 ?_))))
 refine ZC ?_
 refine ZFa 0 ?_
 refine ZC ?_
 refine ZS (fun w hi => H1 w (h.oldN hi)) ?_
 rintro _ _ ⟨_, ⟨K, rfl, rfl⟩, rfl⟩
 refine ZS (fun w hi => ref10new_ok K.bm w) ?_
 rintro _ _ ⟨_, ⟨bx, rfl, rfl⟩, rfl⟩
 refine ZA ?_
 refine Zn (Zt (Zs (wc_draw ⟨fun j => List.elem j [], []⟩ Zk ?_)))
 refine ZE 0 ?_
 refine ZE 1 ?_
 refine ZE 2 ?_
 refine ZE 3 ?_
 refine ZFe 4 0 ?_
 refine ZG 5 ?_
 refine ZFe 6 1 ?_
 refine ZG 7 ?_
 refine wa_1 8 Zk ?_
 refine ZT (fun w hi => H3 K.bm w (hB.oldN hi)) ?_
 rintro _ _ ⟨_, ⟨by_, bd, rfl, rfl⟩, rfl⟩
 refine ZE 9 ?_
 refine wa_1 10 Zk ?_
 refine wi_t rfl rfl (t_box rfl rfl) (fun _ _ _ _ _ _ _ h => by cases h) rfl ?_
 rintro _ _ ⟨b20, rfl, rfl⟩
 refine ZE 11 ?_
 refine wa_done Zk ?_
 refine Zt (Ze (qok_pick (row b20 (St.new.cells (.slice none 0 0) (.slice none 0 0) ++ [.pointer (some ⟨bx, 0, none⟩), .pointer (some ⟨by_, 0, none⟩)]) 58 :: (refMF K n data tu ++ [refURow bx K.bm tflush] ++ refBF by_ K.bm bd ⟨none, 0, none, 0⟩ d)) Zj ?_))
 refine ret1 (cs' := (row b20 (St.new.cells (.slice none 0 0) (.slice none 0 0) ++ [.pointer (some ⟨bx, 0, none⟩), .pointer (some ⟨by_, 0, none⟩)]) 58 :: (refMF K n data tu ++ [refURow bx K.bm tflush] ++ refBF by_ K.bm bd ⟨none, 0, none, 0⟩ d))) (.inl rfl) Zu rfl rfl ?_
 exact ⟨b20, K, bx, by_, bd, rfl, rfl⟩
abbrev fr18 (F : GLoc) (n : Nat) (l k : List Int) : List Chunk := w18Row F St.new :: g18Row F St.new :: (ubF F.bu F.bb F.L F.D ⟨none, 0, none, 0⟩ ⟨Mem.init n l, tflush⟩ (Dev.init k) ++ r18F F n ⟨none, 0, none, 0⟩ (refData n l) (List.replicate n false) tflush (Dev.init k))
set_option maxHeartbeats 1000000 in
theorem fresh18_ok (A B : Option Addr) (c e n : Nat) (l k : List Int) (hn0 : 1 ≤ n) (hn : n ≤ 64) (hl : l.length ≤ n * 64) (hb : u8s l) (hk : k.length ≤ 1024) (w : World) (h : Rd w .u8 A l.length c l) (hB : Rd w .u8 B k.length e k) :
  Ctr Tryz.prog 9 [imgV A c l B e k n] w [] (fun v cs => ∃ F, F.L.n = n ∧ v = .pointer (some ⟨F.bw, 0, none⟩) ∧ cs = fr18 F n l k) := by
 have H1 := fun w h => memory_ok A c n l hn0 hn hl hb w h
 have H2 := fun bm w h => busnew_ok bm B e k hk w h
 have H3 := fun w h hB => ref18new_ok A B c e n l k hn hl hk w h hB
 unfold fr18
 obtain ⟨M, hM⟩ : ∃ M, Mem.init n l = M := ⟨_, rfl⟩
 obtain ⟨d, hd⟩ : ∃ d, Dev.init k = d := ⟨_, rfl⟩
 obtain ⟨data, hda⟩ : ∃ d, refData n l = d := ⟨_, rfl⟩
 obtain ⟨tu, htu⟩ : ∃ d, List.replicate n false = d := ⟨_, rfl⟩
 rw [hM] at H1 ⊢
 rw [hd] at H2 H3 ⊢
 rw [hda, htu] at H3 ⊢
 refine fn_ctr Tryz.func9 rfl Tryz.ntmps9 rfl (Inv.start w) ?_
 refine Zs (Zr (ZO fun b1 => ?_))
 refine ZA ?_
 refine Zn (Zt (Zs (Zr (ZFa 0 ?_))))
 refine ZC ?_
 refine ZFa 2 ?_
 refine ZC ?_
 refine ZS (fun w hi => H1 w (h.oldN hi)) ?_
 rintro _ _ ⟨_, ⟨L, hL, rfl, rfl⟩, rfl⟩
 refine ZA ?_
 refine Zn (Zt (Zs (Zs (Zr (ZA ?_)))))
 refine ZA ?_
 refine Zn (Zt (wc_cond_f rfl (rfl) ?_))
 refine Zc (Zt (Zs (Zr (ZA ?_))))
 refine ZS (fun w hi => mmunew_ok L.bm w) ?_
 rintro _ _ ⟨_, ⟨bu, bb, rfl, rfl⟩, rfl⟩
 iterate 5 refine ZA ?_
 refine Zn (Zt (Zs (Zr (ZA ?_))))
 refine ZFa 1 ?_
 refine ZC ?_
 refine ZS (fun w hi => H2 L.bm w (hB.oldN hi)) ?_
 rintro _ _ ⟨_, ⟨D, rfl, rfl⟩, rfl⟩
 iterate 5 refine ZA ?_
 refine Zn (Zt (Zs (Zs (Zr (ZA ?_)))))
 iterate 2 refine ZA ?_
 iterate 2 refine ZB ?_
 iterate 2 refine ZA ?_
 iterate 2 refine ZB ?_
 iterate 2 refine ZA ?_
 iterate 2 refine ZB ?_
 refine ZA ?_
 refine Zn (Zt (wc_cond_f rfl (rfl) ?_))
 refine Zc (Zt (Zs (wc_draw ⟨fun j => List.elem j [], []⟩ Zk ?_)))
 refine ZE 0 ?_
 refine ZE 1 ?_
 refine ZE 2 ?_
 refine ZI 4 ?_
 refine wa_1 3 Zk ?_
 refine ZT (fun w hi => new_ok w) ?_
 rintro _ _ ⟨_, ⟨rfl, rfl⟩, rfl⟩
 refine wa_1 5 Zk ?_
 refine ZT (fun w hi => H3 w (h.oldN hi) (hB.oldN hi)) ?_
 rintro _ _ ⟨_, ⟨bg, K, bx, by_, bd, rfl, rfl⟩, rfl⟩
 refine ZE 6 ?_
 refine wa_1 7 Zk ?_
 refine wi_t rfl rfl (t_box rfl rfl) (fun _ _ _ _ _ _ _ h => by cases h) rfl ?_
 rintro _ _ ⟨b48, rfl, rfl⟩
 refine ZE 8 ?_
 refine wa_done Zk ?_
 refine Zt (Ze (qok_pick (w18Row ⟨b48, bu, bb, L, D, bg, K, bx, by_, bd⟩ St.new :: g18Row ⟨b48, bu, bb, L, D, bg, K, bx, by_, bd⟩ St.new :: (ubF bu bb L D ⟨none, 0, none, 0⟩ ⟨M, tflush⟩ d ++ r18F ⟨b48, bu, bb, L, D, bg, K, bx, by_, bd⟩ n ⟨none, 0, none, 0⟩ data tu tflush d)) Zj ?_))
 refine ret1 (cs' := (w18Row ⟨b48, bu, bb, L, D, bg, K, bx, by_, bd⟩ St.new :: g18Row ⟨b48, bu, bb, L, D, bg, K, bx, by_, bd⟩ St.new :: (ubF bu bb L D ⟨none, 0, none, 0⟩ ⟨M, tflush⟩ d ++ r18F ⟨b48, bu, bb, L, D, bg, K, bx, by_, bd⟩ n ⟨none, 0, none, 0⟩ data tu tflush d))) (.inl rfl) Zu rfl rfl ?_
 exact ⟨⟨b48, bu, bb, L, D, bg, K, bx, by_, bd⟩, hL, rfl, rfl⟩
end Go.Proofs.YthcpmpmbgbibfaaGreatDoor
