/- Layer 13: fetched, the same, few; of its own. -/
import Derived.Test.YtfknhbgghpbkpaaAr3
namespace Go.Proofs.Ytfknhbgghpbkpaa
open Go.RowKit Cal Go.Proofs.YtfknhbgghpbkpaaW.PrintWords
theorem word_c (cap : Int) (l : List Blk) (A : Option Addr) (c : Nat) (a : Int) (w : World) (hC : kBlk.C w A l.length l) (ha : I64 a) : Calls Try.prog 77 #[.agg #[.int .i64 cap, .slice A l.length c], .int .i64 a] w fun e w' =>
    ∃ i q : Int, e = .returned (.tuple #[.int .i64 i, .int .i64 q]) ∧ Below w.heap.size w w' ∧ (mMay cap l = false ∨ (mMay cap l = true ∧ ofM l a = -1 ∧ i = -1 ∧ q = 0) ∨ ∃ n m : Nat, mMay cap l = true ∧ i = (n : Int) ∧ q = (m : Int) ∧ WordAt l a n m) := by
  cases hm : mMay cap l with
  | false => exact (word_some cap l A c a w hC).mono fun e w' ⟨i, q, h1, h2⟩ => ⟨i, q, h1, h2, .inl rfl⟩
  | true =>
    refine (word_any cap l A c a w hC hm ha).mono fun e w' ⟨i, q, h1, h2, h3⟩ => ⟨i, q, h1, h2, .inr ?_⟩
    rcases h3 with ⟨h3, h4, h5⟩ | ⟨n, m, h3, h4, h5⟩
    · exact .inl ⟨rfl, h3, h4, h5⟩
    · exact .inr ⟨n, m, rfl, h3, h4, h5⟩
theorem of_c (cap : Int) (l : List Blk) (A : Option Addr) (c : Nat) (a : Int) (w : World) (hC : kBlk.C w A l.length l) (ha : I64 a) : Calls Try.prog 78 #[.agg #[.int .i64 cap, .slice A l.length c], .int .i64 a] w fun e w' =>
    ∃ i q : Int, e = .returned (.int .i64 i) ∧ Below w.heap.size w w' ∧ (mMay cap l = false ∨ (mMay cap l = true ∧ ofM l a = -1 ∧ i = -1 ∧ q = 0) ∨ ∃ n m : Nat, mMay cap l = true ∧ i = (n : Int) ∧ q = (m : Int) ∧ WordAt l a n m) := by
  cases hm : mMay cap l with
  | false => exact (of_some cap l A c a w hC).mono fun e w' ⟨i, h1, h2⟩ => ⟨i, 0, h1, h2, .inl rfl⟩
  | true =>
    refine (of_any cap l A c a w hC hm ha).mono fun e w' ⟨h1, h2⟩ => ?_
    rcases ofM_cases l a with ho | ⟨n, m, ho⟩
    · exact ⟨-1, 0, by rw [h1, ho], h2, .inr (.inl ⟨rfl, ho, rfl, rfl⟩)⟩
    · exact ⟨(n : Int), (m : Int), by rw [h1, ho.of], h2, .inr (.inr ⟨n, m, rfl, rfl, rfl, ho⟩)⟩

theorem fetch_any (cap : Int) (l : List Blk) (A : Option Addr) (c : Nat) (a : Int) (w : World) (hC : kBlk.C w A l.length l) (hsm : ∀ j, (l.getD j Blk.z).w.length ≤ 1000000) (ha : I64 a) : Calls Try.prog 23 #[.agg #[.int .i64 cap, .slice A l.length c], .int .i64 a] w fun e w' => e = .returned (.tuple #[.int .u64 (fetchM cap l a).1, .int .i64 (fetchM cap l a).2.1, .bool (fetchM cap l a).2.2]) ∧ Below w.heap.size w w' := by
  have M := Mem.refl w
  have hmx := C_max hC
  obtain ⟨ha0, ha1⟩ := id ha
  refine calls_tc (N := 37) (args := [.agg #[.int .i64 cap, .slice A l.length c], .int .i64 a]) Try.func23 rfl rfl rfl ?_
  refine tc_seq (tc_region ?_)
  refine nw M 2 #[.int .i64 cap, .slice A l.length c] 24 fun b1 w2 M3 => ?_
  refine sg 3 [1, 2] [(1, .int .i64 a), (2, .pointer (some ⟨b1, 0, none⟩))] ?_
  refine to_end rfl (tn_code (tc_seq (tc_region ?_)))
  refine la M3 0 10 #[.int .i64 cap, .slice A l.length c] (hu := Try.underlying24) ?_
  refine sg 1 [2, 10, 11] [(2, .pointer (some ⟨b1, 0, none⟩)), (10, .agg #[.int .i64 cap, .slice A l.length c]), (11, .int .i64 a)] ?_
  refine ce 12 (word_c cap l A c a _ (C_up M3 hC) ha) fun e4 w5 h6 => ?_
  obtain ⟨i7, q8, rfl, hb11, hc9⟩ := h6
  have M10 := M3.call hb11
  refine ⟨_, rfl, ?_⟩
  rcases hc9 with hm | ⟨hm, ho, rfl, rfl⟩ | ⟨n, q, hm, rfl, rfl, hw⟩
  · refine sg 5 [2, 7, 8] [(2, .pointer (some ⟨b1, 0, none⟩)), (7, .int .i64 i7), (8, .int .i64 q8)] ?_
    refine to_end rfl (tn_code (tc_seq (tc_seq (tc_region ?_))))
    refine la M10 0 15 #[.int .i64 cap, .slice A l.length c] (hu := Try.underlying24) ?_
    refine cb M10 16 (may13_any cap l A c _ (C_up M10 hC) hsm) fun w12 hb14 M13 => ?_
    refine sg 2 [2, 7, 8, 18] [(2, .pointer (some ⟨b1, 0, none⟩)), (7, .int .i64 i7), (8, .int .i64 q8), (18, .bool (!(mMay cap l)))] ?_
    rw [hm]
    refine sg 3 [2, 7, 8, 21] [(2, .pointer (some ⟨b1, 0, none⟩)), (7, .int .i64 i7), (8, .int .i64 q8), (21, .bool true)] ?_
    refine to_end rfl (tn_code (tc_cond_t (fun _ => rfl) (tc_seq (tc_region ?_))))
    refine sg 3 [4, 5, 6] [(4, .int .u64 0), (5, .int .i64 0), (6, .bool false)] ?_
    refine to_end rfl (tn_code (tc_ret ?_))
    refine tr_tmp3 rfl rfl rfl rfl ?_
    have he : fetchM cap l a = (0, 0, false) := fetch_no (.inl hm)
    exact ⟨by rw [he], M13.below⟩
  · refine sg 5 [2, 7, 8] [(2, .pointer (some ⟨b1, 0, none⟩)), (7, .int .i64 (-1)), (8, .int .i64 0)] ?_
    refine to_end rfl (tn_code (tc_seq (tc_seq (tc_region ?_))))
    refine la M10 0 15 #[.int .i64 cap, .slice A l.length c] (hu := Try.underlying24) ?_
    refine cb M10 16 (may13_any cap l A c _ (C_up M10 hC) hsm) fun w15 hb17 M16 => ?_
    refine sg 2 [2, 7, 8, 18] [(2, .pointer (some ⟨b1, 0, none⟩)), (7, .int .i64 (-1)), (8, .int .i64 0), (18, .bool (!(mMay cap l)))] ?_
    rw [hm]
    refine sg 3 [2, 7, 8, 21] [(2, .pointer (some ⟨b1, 0, none⟩)), (7, .int .i64 (-1)), (8, .int .i64 0), (21, .bool true)] ?_
    refine to_end rfl (tn_code (tc_cond_t (fun _ => rfl) (tc_seq (tc_region ?_))))
    refine sg 3 [4, 5, 6] [(4, .int .u64 0), (5, .int .i64 0), (6, .bool false)] ?_
    refine to_end rfl (tn_code (tc_ret ?_))
    refine tr_tmp3 rfl rfl rfl rfl ?_
    have he : fetchM cap l a = (0, 0, false) := fetch_no (.inr ho)
    exact ⟨by rw [he], M16.below⟩
  · obtain ⟨hwn, hwq, hwa, hwo⟩ := hw
    have hsn := hsm n
    refine sg 5 [2, 7, 8] [(2, .pointer (some ⟨b1, 0, none⟩)), (7, .int .i64 (n : Int)), (8, .int .i64 (q : Int))] ?_
    refine to_end rfl (tn_code (tc_seq (tc_seq (tc_region ?_))))
    refine la M10 0 15 #[.int .i64 cap, .slice A l.length c] (hu := Try.underlying24) ?_
    refine cb M10 16 (may13_any cap l A c _ (C_up M10 hC) hsm) fun w18 hb20 M19 => ?_
    refine sg 2 [2, 7, 8, 18] [(2, .pointer (some ⟨b1, 0, none⟩)), (7, .int .i64 (n : Int)), (8, .int .i64 (q : Int)), (18, .bool (!(mMay cap l)))] ?_
    rw [hm]
    refine sg 3 [2, 7, 8, 21] [(2, .pointer (some ⟨b1, 0, none⟩)), (7, .int .i64 (n : Int)), (8, .int .i64 (q : Int)), (21, .bool (decide ((n : Int) < 0)))] ?_
    refine to_end rfl (tn_code ?_)
    have ht21 : (decide ((n : Int) < 0) : Bool) = false := decide_eq_false (by omega)
    have ht21p := of_decide_eq_false ht21
    rw [ht21]
    refine tc_cond_f (fun _ => rfl) (tc_skip (tn_code (tc_seq ?_)))
    refine tc_drawL (fun w' => Mem w w' ([blk b1 #[.int .i64 cap, .slice A l.length c] 24])) [] (by kernel_rfl) ?_
    have M23 := M19.draw
    refine ty_take 0 22 (.pointer (some ⟨b1, 1, none⟩)) (pok_cont pok_body) ?_ M23 (fun _ _ _ => by kernel_rfl)
    refine ty_take 1 23 (.slice A l.length c) (pok_cont pok_body) ?_ M23 (fun _ M' _ => rl M' 0)
    refine ty_take 2 24 (.int .i64 (n : Int)) (pok_cont pok_body) ?_ M23 (fun _ _ _ => by kernel_rfl)
    obtain ⟨ad24, rfl⟩ := C_some hC (k := n) (by omega)
    refine ty_take 3 25 (.pointer (some (ad24.add (n * 3)))) (pok_cont pok_body) ?_ M23 (fun _ _ _ => ri (ad := ad24) (n := l.length) (c := c) n 3 (by omega) Try.underlying22)
    refine ty_take 4 26 (.pointer (some ((ad24.add (n * 3)).add 2))) (pok_cont pok_body) ?_ M23 (fun _ _ _ => by kernel_rfl)
    obtain ⟨cs27, hk25, hc26⟩ := C_cell hC Blk.z n (by omega)
    obtain ⟨A28, c29, rfl, hl30, hC31⟩ := kBlk_open hk25
    refine ty_take 5 27 (.slice A28 (l.getD n Blk.z).w.length c29) (pok_cont pok_body) ?_ M23 (fun _ M' _ => re (cell_up M' (hc26 2 _ rfl)))
    refine ty_take 6 28 (.int .i64 (q : Int)) (pok_cont pok_body) ?_ M23 (fun _ _ _ => by kernel_rfl)
    obtain ⟨ad32, rfl⟩ := C_some hC31 (k := q) (by omega)
    refine ty_take 7 29 (.pointer (some (ad32.add (q * 1)))) (pok_cont pok_body) ?_ M23 (fun _ _ _ => ri (ad := ad32) (n := (l.getD n Blk.z).w.length) (c := c29) q 1 (by omega) Try.underlying25)
    obtain ⟨cs35, hk33, hc34⟩ := C_cell hC31 (0 : Int) q (by omega)
    obtain rfl := kW_open hk33
    refine ty_take 8 30 (.int .u64 ((l.getD n Blk.z).w.getD q (0 : Int))) (pok_cont pok_body) ?_ M23 (fun _ M' _ => re (cell_up M' (hc34 0 _ rfl)))
    refine ty_take 9 31 (.pointer (some ⟨b1, 1, none⟩)) (pok_cont pok_body) ?_ M23 (fun _ _ _ => by kernel_rfl)
    refine ty_take 10 32 (.slice (some ad24) l.length c) (pok_cont pok_body) ?_ M23 (fun _ M' _ => rl M' 0)
    refine ty_take 11 33 (.int .i64 (n : Int)) (pok_cont pok_body) ?_ M23 (fun _ _ _ => by kernel_rfl)
    refine ty_take 12 34 (.pointer (some (ad24.add (n * 3)))) (pok_cont pok_body) ?_ M23 (fun _ _ _ => ri (ad := ad24) (n := l.length) (c := c) n 3 (by omega) Try.underlying22)
    refine ty_take 13 35 (.pointer (some (ad24.add (n * 3)))) (pok_cont pok_body) ?_ M23 (fun _ _ _ => by kernel_rfl)
    refine ty_take 14 36 (.int .i64 (l.getD n Blk.z).id) (pok_cont pok_body) ?_ M23 (fun _ M' _ => re (cell_up M' (hc26 0 _ rfl)))
    refine ty_take 15 4 (.int .u64 ((l.getD n Blk.z).w.getD q (0 : Int))) (pok_cont pok_body) ?_ M23 (fun _ _ _ => by kernel_rfl)
    refine ty_take 16 5 (.int .i64 (l.getD n Blk.z).id) (pok_cont pok_body) ?_ M23 (fun _ _ _ => by kernel_rfl)
    refine ty_take 17 6 (.bool true) (pok_cont pok_body) ?_ M23 (fun _ _ _ => by kernel_rfl)
    refine ty_endL ?_
    refine tn_code (tc_ret ?_)
    refine tr_tmp3 rfl rfl rfl rfl ?_
    have he := fetch_at hm ⟨hwn, hwq, hwa, hwo⟩
    exact ⟨by rw [he], M23.below⟩

set_option linter.unusedSimpArgs false in
theorem rfetch_any (cap : Int) (l : List Blk) (A : Option Addr) (c : Nat) (a : Int) (w : World) (hC : kBlk.C w A l.length l) (hsm : ∀ j, (l.getD j Blk.z).w.length ≤ 1000000) (ha : I64 a) : Calls Try.prog 24 #[.agg #[.int .i64 cap, .slice A l.length c], .int .i64 a] w fun e w' => e = .returned (.tuple #[.int .u64 (fetchM cap l a).1, .int .i64 (fetchM cap l a).2.1, .bool (fetchM cap l a).2.2]) ∧ Below w.heap.size w w' := by
  have M := Mem.refl w
  have hmx := C_max hC
  obtain ⟨ha0, ha1⟩ := id ha
  refine calls_tc (N := 42) (args := [.agg #[.int .i64 cap, .slice A l.length c], .int .i64 a]) Try.func24 rfl rfl rfl ?_
  refine tc_seq (tc_region ?_)
  refine nw M 2 #[.int .i64 cap, .slice A l.length c] 24 fun b1 w2 M3 => ?_
  refine sg 3 [1, 2] [(1, .int .i64 a), (2, .pointer (some ⟨b1, 0, none⟩))] ?_
  refine to_end rfl (tn_code (tc_seq (tc_region ?_)))
  refine la M3 0 9 #[.int .i64 cap, .slice A l.length c] (hu := Try.underlying24) ?_
  refine cb M3 10 (rmay13_any cap l A c _ (C_up M3 hC) hsm) fun w4 hb6 M5 => ?_
  refine sg 1 [1, 2, 7] [(1, .int .i64 a), (2, .pointer (some ⟨b1, 0, none⟩)), (7, .bool (mMay cap l))] ?_
  refine to_end rfl (tn_code (tc_seq (tc_region ?_)))
  refine la M5 0 11 #[.int .i64 cap, .slice A l.length c] (hu := Try.underlying24) ?_
  refine sg 1 [1, 2, 7, 11, 12] [(1, .int .i64 a), (2, .pointer (some ⟨b1, 0, none⟩)), (7, .bool (mMay cap l)), (11, .agg #[.int .i64 cap, .slice A l.length c]), (12, .int .i64 a)] ?_
  refine ce 13 (of_c cap l A c a _ (C_up M5 hC) ha) fun e7 w8 h9 => ?_
  obtain ⟨i10, q11, rfl, hb14, hc12⟩ := h9
  have M13 := M5.call hb14
  refine ⟨_, rfl, ?_⟩
  rcases hc12 with hm | ⟨hm, ho, rfl, rfl⟩ | ⟨n, q, hm, rfl, rfl, hw⟩
  · refine sg 1 [1, 2, 7, 8] [(1, .int .i64 a), (2, .pointer (some ⟨b1, 0, none⟩)), (7, .bool (mMay cap l)), (8, .int .i64 i10)] ?_
    refine to_end rfl (tn_code (tc_seq (tc_seq (tc_region ?_))))
    refine sg 3 [1, 2, 8, 16] [(1, .int .i64 a), (2, .pointer (some ⟨b1, 0, none⟩)), (8, .int .i64 i10), (16, .bool (!(mMay cap l)))] ?_
    rw [hm]
    refine sg 3 [1, 2, 8, 19] [(1, .int .i64 a), (2, .pointer (some ⟨b1, 0, none⟩)), (8, .int .i64 i10), (19, .bool true)] ?_
    refine to_end rfl (tn_code (tc_cond_t (fun _ => rfl) (tc_seq (tc_region ?_))))
    refine sg 3 [4, 5, 6] [(4, .int .u64 0), (5, .int .i64 0), (6, .bool false)] ?_
    refine to_end rfl (tn_code (tc_ret ?_))
    refine tr_tmp3 rfl rfl rfl rfl ?_
    have he : fetchM cap l a = (0, 0, false) := fetch_no (.inl hm)
    exact ⟨by rw [he], M13.below⟩
  · refine sg 1 [1, 2, 7, 8] [(1, .int .i64 a), (2, .pointer (some ⟨b1, 0, none⟩)), (7, .bool (mMay cap l)), (8, .int .i64 (-1))] ?_
    refine to_end rfl (tn_code (tc_seq (tc_seq (tc_region ?_))))
    refine sg 3 [1, 2, 8, 16] [(1, .int .i64 a), (2, .pointer (some ⟨b1, 0, none⟩)), (8, .int .i64 (-1)), (16, .bool (!(mMay cap l)))] ?_
    rw [hm]
    refine sg 3 [1, 2, 8, 19] [(1, .int .i64 a), (2, .pointer (some ⟨b1, 0, none⟩)), (8, .int .i64 (-1)), (19, .bool true)] ?_
    refine to_end rfl (tn_code (tc_cond_t (fun _ => rfl) (tc_seq (tc_region ?_))))
    refine sg 3 [4, 5, 6] [(4, .int .u64 0), (5, .int .i64 0), (6, .bool false)] ?_
    refine to_end rfl (tn_code (tc_ret ?_))
    refine tr_tmp3 rfl rfl rfl rfl ?_
    have he : fetchM cap l a = (0, 0, false) := fetch_no (.inr ho)
    exact ⟨by rw [he], M13.below⟩
  · obtain ⟨hwn, hwq, hwa, hwo⟩ := hw
    have hsn := hsm n
    refine sg 1 [1, 2, 7, 8] [(1, .int .i64 a), (2, .pointer (some ⟨b1, 0, none⟩)), (7, .bool (mMay cap l)), (8, .int .i64 (n : Int))] ?_
    refine to_end rfl (tn_code (tc_seq (tc_seq (tc_region ?_))))
    refine sg 3 [1, 2, 8, 16] [(1, .int .i64 a), (2, .pointer (some ⟨b1, 0, none⟩)), (8, .int .i64 (n : Int)), (16, .bool (!(mMay cap l)))] ?_
    rw [hm]
    refine sg 3 [1, 2, 8, 19] [(1, .int .i64 a), (2, .pointer (some ⟨b1, 0, none⟩)), (8, .int .i64 (n : Int)), (19, .bool (decide ((n : Int) < 0)))] ?_
    refine to_end rfl (tn_code ?_)
    have ht15 : (decide ((n : Int) < 0) : Bool) = false := decide_eq_false (by omega)
    have ht15p := of_decide_eq_false ht15
    rw [ht15]
    refine tc_cond_f (fun _ => rfl) (tc_skip (tn_code (tc_seq ?_)))
    refine tc_drawL (fun w' => Mem w w' ([blk b1 #[.int .i64 cap, .slice A l.length c] 24])) [] (by kernel_rfl) ?_
    have M17 := M13.draw
    refine ty_take 0 20 (.pointer (some ⟨b1, 1, none⟩)) (pok_cont pok_body) ?_ M17 (fun _ _ _ => by kernel_rfl)
    refine ty_take 1 21 (.slice A l.length c) (pok_cont pok_body) ?_ M17 (fun _ M' _ => rl M' 0)
    refine ty_take 2 22 (.int .i64 (n : Int)) (pok_cont pok_body) ?_ M17 (fun _ _ _ => by kernel_rfl)
    obtain ⟨ad18, rfl⟩ := C_some hC (k := n) (by omega)
    refine ty_take 3 23 (.pointer (some (ad18.add (n * 3)))) (pok_cont pok_body) ?_ M17 (fun _ _ _ => ri (ad := ad18) (n := l.length) (c := c) n 3 (by omega) Try.underlying22)
    refine ty_take 4 24 (.pointer (some ((ad18.add (n * 3)).add 2))) (pok_cont pok_body) ?_ M17 (fun _ _ _ => by kernel_rfl)
    obtain ⟨cs21, hk19, hc20⟩ := C_cell hC Blk.z n (by omega)
    obtain ⟨A22, c23, rfl, hl24, hC25⟩ := kBlk_open hk19
    refine ty_take 5 25 (.slice A22 (l.getD n Blk.z).w.length c23) (pok_cont pok_body) ?_ M17 (fun _ M' _ => re (cell_up M' (hc20 2 _ rfl)))
    refine ty_take 6 26 (.int .i64 a) (pok_cont pok_body) ?_ M17 (fun _ _ _ => by kernel_rfl)
    refine ty_take 7 27 (.pointer (some ⟨b1, 1, none⟩)) (pok_cont pok_body) ?_ M17 (fun _ _ _ => by kernel_rfl)
    refine ty_take 8 28 (.slice (some ad18) l.length c) (pok_cont pok_body) ?_ M17 (fun _ M' _ => rl M' 0)
    refine ty_take 9 29 (.int .i64 (n : Int)) (pok_cont pok_body) ?_ M17 (fun _ _ _ => by kernel_rfl)
    refine ty_take 10 30 (.pointer (some (ad18.add (n * 3)))) (pok_cont pok_body) ?_ M17 (fun _ _ _ => ri (ad := ad18) (n := l.length) (c := c) n 3 (by omega) Try.underlying22)
    refine ty_take 11 31 (.pointer (some ((ad18.add (n * 3)).add 1))) (pok_cont pok_body) ?_ M17 (fun _ _ _ => by kernel_rfl)
    refine ty_take 12 32 (.int .i64 (l.getD n Blk.z).pos) (pok_cont pok_body) ?_ M17 (fun _ M' _ => re (cell_up M' (hc20 1 _ rfl)))
    refine ty_take 13 33 (.int .i64 (IntKind.wrap .i64 (a - (l.getD n Blk.z).pos))) (pok_cont pok_body) ?_ M17 (fun _ _ _ => by kernel_rfl)
    rw [show IntKind.wrap .i64 (a - (l.getD n Blk.z).pos) = (q : Int) from by rw [wr_i64 (by omega) (by omega)]; omega]
    obtain ⟨ad26, rfl⟩ := C_some hC25 (k := q) (by omega)
    refine ty_take 14 34 (.pointer (some (ad26.add (q * 1)))) (pok_cont pok_body) ?_ M17 (fun _ _ _ => ri (ad := ad26) (n := (l.getD n Blk.z).w.length) (c := c23) q 1 (by omega) Try.underlying25)
    obtain ⟨cs29, hk27, hc28⟩ := C_cell hC25 (0 : Int) q (by omega)
    obtain rfl := kW_open hk27
    refine ty_take 15 35 (.int .u64 ((l.getD n Blk.z).w.getD q (0 : Int))) (pok_cont pok_body) ?_ M17 (fun _ M' _ => re (cell_up M' (hc28 0 _ rfl)))
    refine ty_take 16 36 (.pointer (some ⟨b1, 1, none⟩)) (pok_cont pok_body) ?_ M17 (fun _ _ _ => by kernel_rfl)
    refine ty_take 17 37 (.slice (some ad18) l.length c) (pok_cont pok_body) ?_ M17 (fun _ M' _ => rl M' 0)
    refine ty_take 18 38 (.int .i64 (n : Int)) (pok_cont pok_body) ?_ M17 (fun _ _ _ => by kernel_rfl)
    refine ty_take 19 39 (.pointer (some (ad18.add (n * 3)))) (pok_cont pok_body) ?_ M17 (fun _ _ _ => ri (ad := ad18) (n := l.length) (c := c) n 3 (by omega) Try.underlying22)
    refine ty_take 20 40 (.pointer (some (ad18.add (n * 3)))) (pok_cont pok_body) ?_ M17 (fun _ _ _ => by kernel_rfl)
    refine ty_take 21 41 (.int .i64 (l.getD n Blk.z).id) (pok_cont pok_body) ?_ M17 (fun _ M' _ => re (cell_up M' (hc20 0 _ rfl)))
    refine ty_take 22 4 (.int .u64 ((l.getD n Blk.z).w.getD q (0 : Int))) (pok_cont pok_body) ?_ M17 (fun _ _ _ => by kernel_rfl)
    refine ty_take 23 5 (.int .i64 (l.getD n Blk.z).id) (pok_cont pok_body) ?_ M17 (fun _ _ _ => by kernel_rfl)
    refine ty_take 24 6 (.bool true) (pok_cont pok_body) ?_ M17 (fun _ _ _ => by kernel_rfl)
    refine ty_endL ?_
    refine tn_code (tc_ret ?_)
    refine tr_tmp3 rfl rfl rfl rfl ?_
    have he := fetch_at hm ⟨hwn, hwq, hwa, hwo⟩
    exact ⟨by rw [he], M17.below⟩

set_option linter.unusedSimpArgs false in
theorem same13_any (cap : Int) (A : Option Addr) (c : Nat) (xs : List Blk) (cap' : Int) (A' : Option Addr) (c' : Nat) (ys : List Blk) (w : World) (hC : kBlk.C w A xs.length xs) (hD : kBlk.C w A' ys.length ys) : Calls Try.prog 20 #[.agg #[.int .i64 cap, .slice A xs.length c], .agg #[.int .i64 cap', .slice A' ys.length c']] w fun e w' => e = .returned (.bool (decide (cap = cap' ∧ xs = ys))) ∧ Below w.heap.size w w' := by
  have M := Mem.refl w
  have hmx := C_max hC
  refine calls_tc (N := 79) (args := [.agg #[.int .i64 cap, .slice A xs.length c], .agg #[.int .i64 cap', .slice A' ys.length c']]) Try.func20 rfl rfl rfl ?_
  refine tc_seq (tc_region ?_)
  refine nw M 2 #[.int .i64 cap, .slice A xs.length c] 24 fun b1 w2 M3 => ?_
  refine nw M3 3 #[.int .i64 cap', .slice A' ys.length c'] 24 fun b4 w5 M6 => ?_
  refine sg 1 [2, 3] [(2, .pointer (some ⟨b1, 0, none⟩)), (3, .pointer (some ⟨b4, 0, none⟩))] ?_
  refine to_end rfl (tn_code (tc_seq (tc_seq (tc_region ?_))))
  refine join (fr' := [(2, .pointer (some ⟨b1, 0, none⟩)), (3, .pointer (some ⟨b4, 0, none⟩)), (22, .bool ((cap != cap') || ((xs.length : Int) != (ys.length : Int))))]) (fun hj_ => ?_) ?_
  · refine sg 1 [2, 3, 9] [(2, .pointer (some ⟨b1, 0, none⟩)), (3, .pointer (some ⟨b4, 0, none⟩)), (9, .pointer (some ⟨b1, 0, none⟩))] ?_
    refine ld M6 1 10 (.int .i64 cap) ?_
    refine sg 1 [2, 3, 10, 11] [(2, .pointer (some ⟨b1, 0, none⟩)), (3, .pointer (some ⟨b4, 0, none⟩)), (10, .int .i64 cap), (11, .pointer (some ⟨b4, 0, none⟩))] ?_
    refine ld M6 0 12 (.int .i64 cap') ?_
    refine sg 2 [2, 3, 14] [(2, .pointer (some ⟨b1, 0, none⟩)), (3, .pointer (some ⟨b4, 0, none⟩)), (14, .bool (cap != cap'))] ?_
    rcases bdi (cap != cap' : Bool) with h7 | h7
    · have h7p := bne_eq_false_iff_eq.1 h7
      rw [h7]
      refine sg 1 [2, 3, 14, 15] [(2, .pointer (some ⟨b1, 0, none⟩)), (3, .pointer (some ⟨b4, 0, none⟩)), (14, .bool false), (15, .pointer (some ⟨b1, 1, none⟩))] ?_
      refine ld M6 1 16 (.slice A xs.length c) ?_
      refine sg 2 [2, 3, 14, 17, 18] [(2, .pointer (some ⟨b1, 0, none⟩)), (3, .pointer (some ⟨b4, 0, none⟩)), (14, .bool false), (17, .int .i64 (xs.length : Int)), (18, .pointer (some ⟨b4, 1, none⟩))] ?_
      refine ld M6 0 19 (.slice A' ys.length c') ?_
      refine sg 3 [2, 3, 22] [(2, .pointer (some ⟨b1, 0, none⟩)), (3, .pointer (some ⟨b4, 0, none⟩)), (22, .bool ((xs.length : Int) != (ys.length : Int)))] ?_
      refine to_end rfl ?_
      rw [show ((cap != cap') || ((xs.length : Int) != (ys.length : Int)) : Bool) = ((xs.length : Int) != (ys.length : Int)) from by (simp only [h7, Bool.true_or, Bool.false_or, Bool.or_true, Bool.or_false, Bool.true_and, Bool.false_and, Bool.and_true, Bool.and_false, Bool.not_true, Bool.not_false, cond_true, cond_false, if_true, reduceIte]) <;> rfl] at hj_
      exact hj_.sub (Sub.cons rfl (Sub.cons rfl (Sub.cons rfl (Sub.nil _))))
    · have h7p := bne_iff_ne.1 h7
      rw [h7]
      refine sg 8 [2, 3, 22] [(2, .pointer (some ⟨b1, 0, none⟩)), (3, .pointer (some ⟨b4, 0, none⟩)), (22, .bool true)] ?_
      refine to_end rfl ?_
      rw [show ((cap != cap') || ((xs.length : Int) != (ys.length : Int)) : Bool) = true from by (simp only [h7, Bool.true_or, Bool.false_or, Bool.or_true, Bool.or_false, Bool.true_and, Bool.false_and, Bool.and_true, Bool.and_false, Bool.not_true, Bool.not_false, cond_true, cond_false, if_true, reduceIte]) <;> rfl] at hj_
      exact hj_.sub (Sub.cons rfl (Sub.cons rfl (Sub.cons rfl (Sub.nil _))))
  refine tn_code ?_
  refine tc_cond (b := (cap != cap') || ((xs.length : Int) != (ys.length : Int))) (fun _ => rfl) (fun h8 => ?_) (fun h8 => ?_)
  · have h8p := h8
    simp only [Bool.or_eq_true, Bool.and_eq_true, Bool.or_eq_false_iff, Bool.and_eq_false_iff, decide_eq_true_eq, decide_eq_false_iff_not, beq_iff_eq, bne_iff_ne, beq_eq_false_iff_ne, bne_eq_false_iff_eq, Bool.not_eq_true', Bool.not_eq_false', ne_eq] at h8p
    refine tc_seq (tc_region ?_)
    refine sg 1 [4] [(4, .bool false)] ?_
    refine to_end rfl (tn_code (tc_ret ?_))
    refine tr_tmp rfl rfl ?_
    exact ⟨congrArg Ending.returned (congrArg Value.bool (by rw [eq_comm, decide_eq_false_iff_not]; rintro ⟨he_, hf_⟩; subst he_ hf_; simp at h8)), M6.below⟩
  · have h8p := h8
    simp only [Bool.or_eq_true, Bool.and_eq_true, Bool.or_eq_false_iff, Bool.and_eq_false_iff, decide_eq_true_eq, decide_eq_false_iff_not, beq_iff_eq, bne_iff_ne, beq_eq_false_iff_ne, bne_eq_false_iff_eq, Bool.not_eq_true', Bool.not_eq_false', ne_eq] at h8p
    refine tc_skip (tn_code (tc_seq (tc_seq (tc_region ?_))))
    refine sg 1 [2, 3, 5] [(2, .pointer (some ⟨b1, 0, none⟩)), (3, .pointer (some ⟨b4, 0, none⟩)), (5, .int .i64 0)] ?_
    refine to_end rfl (tn_code (tc_block ?_))
    refine tc_loop (σ := Nat) (fun k11 => [(2, .pointer (some ⟨b1, 0, none⟩)), (3, .pointer (some ⟨b4, 0, none⟩)), (5, .int .i64 (k11 : Int))]) (fun k11 w' => k11 ≤ xs.length ∧ (∀ j, j < k11 → xs.getD j Blk.z = ys.getD j Blk.z) ∧ Mem w w' [blk b4 #[.int .i64 cap', .slice A' ys.length c'] 24, blk b1 #[.int .i64 cap, .slice A xs.length c] 24]) (fun k11 => xs.length - k11) 0 (Sub.cons rfl (Sub.cons rfl (Sub.cons rfl (Sub.nil _)))) ⟨Nat.zero_le _, fun j hj => absurd hj (Nat.not_lt_zero _), M6⟩ ?_
    rintro k11 w14 ⟨hk12, hi13, M15⟩
    refine tc_seq (tc_seq (tc_region ?_))
    refine sg 2 [2, 3, 5, 23, 24] [(2, .pointer (some ⟨b1, 0, none⟩)), (3, .pointer (some ⟨b4, 0, none⟩)), (5, .int .i64 (k11 : Int)), (23, .int .i64 (k11 : Int)), (24, .pointer (some ⟨b1, 1, none⟩))] ?_
    refine ld M15 1 25 (.slice A xs.length c) ?_
    refine sg 2 [2, 3, 5, 27] [(2, .pointer (some ⟨b1, 0, none⟩)), (3, .pointer (some ⟨b4, 0, none⟩)), (5, .int .i64 (k11 : Int)), (27, .bool (decide ((k11 : Int) < (xs.length : Int))))] ?_
    refine to_end rfl (tn_code ?_)
    refine tc_cond (b := decide ((k11 : Int) < (xs.length : Int))) (fun _ => rfl) (fun h16 => ?_) (fun h16 => ?_)
    · have h16p := of_decide_eq_true h16
      refine tc_skip (tn_code (tc_seq (tc_block (tc_seq (tc_region ?_)))))
      refine sg 1 [2, 3, 5, 30] [(2, .pointer (some ⟨b1, 0, none⟩)), (3, .pointer (some ⟨b4, 0, none⟩)), (5, .int .i64 (k11 : Int)), (30, .pointer (some ⟨b1, 1, none⟩))] ?_
      refine ld M15 1 31 (.slice A xs.length c) ?_
      refine sg 1 [2, 3, 5, 31, 32] [(2, .pointer (some ⟨b1, 0, none⟩)), (3, .pointer (some ⟨b4, 0, none⟩)), (5, .int .i64 (k11 : Int)), (31, .slice A xs.length c), (32, .int .i64 (k11 : Int))] ?_
      obtain ⟨ad17, rfl⟩ := C_some hC (k := k11) (by omega)
      refine ix (ad := ad17) (n := xs.length) (c := c) 33 k11 3 (by omega) Try.underlying22 ?_
      obtain ⟨cs20, hk18, hc19⟩ := C_cell hC Blk.z k11 (by omega)
      obtain ⟨A21, c22, rfl, hl23, hC24⟩ := kBlk_open hk18
      refine lea 34 #[.int .i64 (xs.getD k11 Blk.z).id, .int .i64 (xs.getD k11 Blk.z).pos, .slice A21 (xs.getD k11 Blk.z).w.length c22] (fun j u hj => cell_up M15 (hc19 j u hj)) (hu := Try.underlying103) ?_
      refine nw M15 6 #[.int .i64 0, .int .i64 0, .slice none 0 0] 103 fun b25 w26 M27 => ?_
      refine sa M27 0 #[.int .i64 (xs.getD k11 Blk.z).id, .int .i64 (xs.getD k11 Blk.z).pos, .slice A21 (xs.getD k11 Blk.z).w.length c22] fun w28 M29 => ?_
      refine to_end rfl (tn_code (tc_seq (tc_region ?_)))
      refine sg 1 [2, 3, 5, 6, 35] [(2, .pointer (some ⟨b1, 0, none⟩)), (3, .pointer (some ⟨b4, 0, none⟩)), (5, .int .i64 (k11 : Int)), (6, .pointer (some ⟨b25, 0, none⟩)), (35, .pointer (some ⟨b4, 1, none⟩))] ?_
      refine ld M29 1 36 (.slice A' ys.length c') ?_
      refine sg 1 [2, 3, 5, 6, 36, 37] [(2, .pointer (some ⟨b1, 0, none⟩)), (3, .pointer (some ⟨b4, 0, none⟩)), (5, .int .i64 (k11 : Int)), (6, .pointer (some ⟨b25, 0, none⟩)), (36, .slice A' ys.length c'), (37, .int .i64 (k11 : Int))] ?_
      obtain ⟨ad30, rfl⟩ := C_some hD (k := k11) (by omega)
      refine ix (ad := ad30) (n := ys.length) (c := c') 38 k11 3 (by omega) Try.underlying22 ?_
      obtain ⟨cs33, hk31, hc32⟩ := C_cell hD Blk.z k11 (by omega)
      obtain ⟨A34, c35, rfl, hl36, hC37⟩ := kBlk_open hk31
      refine lea 39 #[.int .i64 (ys.getD k11 Blk.z).id, .int .i64 (ys.getD k11 Blk.z).pos, .slice A34 (ys.getD k11 Blk.z).w.length c35] (fun j u hj => cell_up M29 (hc32 j u hj)) (hu := Try.underlying103) ?_
      refine nw M29 7 #[.int .i64 0, .int .i64 0, .slice none 0 0] 103 fun b38 w39 M40 => ?_
      refine sa M40 0 #[.int .i64 (ys.getD k11 Blk.z).id, .int .i64 (ys.getD k11 Blk.z).pos, .slice A34 (ys.getD k11 Blk.z).w.length c35] fun w41 M42 => ?_
      refine to_end rfl (tn_code (tc_seq (tc_seq (tc_region ?_))))
      refine join (fr' := [(2, .pointer (some ⟨b1, 0, none⟩)), (3, .pointer (some ⟨b4, 0, none⟩)), (5, .int .i64 (k11 : Int)), (6, .pointer (some ⟨b25, 0, none⟩)), (7, .pointer (some ⟨b38, 0, none⟩)), (60, .bool ((((xs.getD k11 Blk.z).id != (ys.getD k11 Blk.z).id) || ((xs.getD k11 Blk.z).pos != (ys.getD k11 Blk.z).pos)) || (((xs.getD k11 Blk.z).w.length : Int) != ((ys.getD k11 Blk.z).w.length : Int))))]) (fun hj_ => ?_) ?_
      · refine sg 1 [2, 3, 5, 6, 7, 40] [(2, .pointer (some ⟨b1, 0, none⟩)), (3, .pointer (some ⟨b4, 0, none⟩)), (5, .int .i64 (k11 : Int)), (6, .pointer (some ⟨b25, 0, none⟩)), (7, .pointer (some ⟨b38, 0, none⟩)), (40, .pointer (some ⟨b25, 0, none⟩))] ?_
        refine ld M42 1 41 (.int .i64 (xs.getD k11 Blk.z).id) ?_
        refine sg 1 [2, 3, 5, 6, 7, 41, 42] [(2, .pointer (some ⟨b1, 0, none⟩)), (3, .pointer (some ⟨b4, 0, none⟩)), (5, .int .i64 (k11 : Int)), (6, .pointer (some ⟨b25, 0, none⟩)), (7, .pointer (some ⟨b38, 0, none⟩)), (41, .int .i64 (xs.getD k11 Blk.z).id), (42, .pointer (some ⟨b38, 0, none⟩))] ?_
        refine ld M42 0 43 (.int .i64 (ys.getD k11 Blk.z).id) ?_
        refine sg 2 [2, 3, 5, 6, 7, 45] [(2, .pointer (some ⟨b1, 0, none⟩)), (3, .pointer (some ⟨b4, 0, none⟩)), (5, .int .i64 (k11 : Int)), (6, .pointer (some ⟨b25, 0, none⟩)), (7, .pointer (some ⟨b38, 0, none⟩)), (45, .bool ((xs.getD k11 Blk.z).id != (ys.getD k11 Blk.z).id))] ?_
        rcases bdi ((xs.getD k11 Blk.z).id != (ys.getD k11 Blk.z).id : Bool) with h43 | h43
        · have h43p := bne_eq_false_iff_eq.1 h43
          rw [h43]
          refine sg 1 [2, 3, 5, 6, 7, 45, 46] [(2, .pointer (some ⟨b1, 0, none⟩)), (3, .pointer (some ⟨b4, 0, none⟩)), (5, .int .i64 (k11 : Int)), (6, .pointer (some ⟨b25, 0, none⟩)), (7, .pointer (some ⟨b38, 0, none⟩)), (45, .bool false), (46, .pointer (some ⟨b25, 1, none⟩))] ?_
          refine ld M42 1 47 (.int .i64 (xs.getD k11 Blk.z).pos) ?_
          refine sg 1 [2, 3, 5, 6, 7, 45, 47, 48] [(2, .pointer (some ⟨b1, 0, none⟩)), (3, .pointer (some ⟨b4, 0, none⟩)), (5, .int .i64 (k11 : Int)), (6, .pointer (some ⟨b25, 0, none⟩)), (7, .pointer (some ⟨b38, 0, none⟩)), (45, .bool false), (47, .int .i64 (xs.getD k11 Blk.z).pos), (48, .pointer (some ⟨b38, 1, none⟩))] ?_
          refine ld M42 0 49 (.int .i64 (ys.getD k11 Blk.z).pos) ?_
          refine sg 3 [2, 3, 5, 6, 7, 52] [(2, .pointer (some ⟨b1, 0, none⟩)), (3, .pointer (some ⟨b4, 0, none⟩)), (5, .int .i64 (k11 : Int)), (6, .pointer (some ⟨b25, 0, none⟩)), (7, .pointer (some ⟨b38, 0, none⟩)), (52, .bool ((xs.getD k11 Blk.z).pos != (ys.getD k11 Blk.z).pos))] ?_
          rcases bdi ((xs.getD k11 Blk.z).pos != (ys.getD k11 Blk.z).pos : Bool) with h44 | h44
          · have h44p := bne_eq_false_iff_eq.1 h44
            rw [h44]
            refine sg 1 [2, 3, 5, 6, 7, 52, 53] [(2, .pointer (some ⟨b1, 0, none⟩)), (3, .pointer (some ⟨b4, 0, none⟩)), (5, .int .i64 (k11 : Int)), (6, .pointer (some ⟨b25, 0, none⟩)), (7, .pointer (some ⟨b38, 0, none⟩)), (52, .bool false), (53, .pointer (some ⟨b25, 2, none⟩))] ?_
            refine ld M42 1 54 (.slice A21 (xs.getD k11 Blk.z).w.length c22) ?_
            refine sg 2 [2, 3, 5, 6, 7, 52, 55, 56] [(2, .pointer (some ⟨b1, 0, none⟩)), (3, .pointer (some ⟨b4, 0, none⟩)), (5, .int .i64 (k11 : Int)), (6, .pointer (some ⟨b25, 0, none⟩)), (7, .pointer (some ⟨b38, 0, none⟩)), (52, .bool false), (55, .int .i64 ((xs.getD k11 Blk.z).w.length : Int)), (56, .pointer (some ⟨b38, 2, none⟩))] ?_
            refine ld M42 0 57 (.slice A34 (ys.getD k11 Blk.z).w.length c35) ?_
            refine sg 3 [2, 3, 5, 6, 7, 60] [(2, .pointer (some ⟨b1, 0, none⟩)), (3, .pointer (some ⟨b4, 0, none⟩)), (5, .int .i64 (k11 : Int)), (6, .pointer (some ⟨b25, 0, none⟩)), (7, .pointer (some ⟨b38, 0, none⟩)), (60, .bool (((xs.getD k11 Blk.z).w.length : Int) != ((ys.getD k11 Blk.z).w.length : Int)))] ?_
            refine to_end rfl ?_
            rw [show ((((xs.getD k11 Blk.z).id != (ys.getD k11 Blk.z).id) || ((xs.getD k11 Blk.z).pos != (ys.getD k11 Blk.z).pos)) || (((xs.getD k11 Blk.z).w.length : Int) != ((ys.getD k11 Blk.z).w.length : Int)) : Bool) = (((xs.getD k11 Blk.z).w.length : Int) != ((ys.getD k11 Blk.z).w.length : Int)) from by (simp only [h43, h44, Bool.true_or, Bool.false_or, Bool.or_true, Bool.or_false, Bool.true_and, Bool.false_and, Bool.and_true, Bool.and_false, Bool.not_true, Bool.not_false, cond_true, cond_false, if_true, reduceIte]) <;> rfl] at hj_
            exact hj_.sub (Sub.cons rfl (Sub.cons rfl (Sub.cons rfl (Sub.cons rfl (Sub.cons rfl (Sub.cons rfl (Sub.nil _)))))))
          · have h44p := bne_iff_ne.1 h44
            rw [h44]
            refine sg 8 [2, 3, 5, 6, 7, 60] [(2, .pointer (some ⟨b1, 0, none⟩)), (3, .pointer (some ⟨b4, 0, none⟩)), (5, .int .i64 (k11 : Int)), (6, .pointer (some ⟨b25, 0, none⟩)), (7, .pointer (some ⟨b38, 0, none⟩)), (60, .bool true)] ?_
            refine to_end rfl ?_
            rw [show ((((xs.getD k11 Blk.z).id != (ys.getD k11 Blk.z).id) || ((xs.getD k11 Blk.z).pos != (ys.getD k11 Blk.z).pos)) || (((xs.getD k11 Blk.z).w.length : Int) != ((ys.getD k11 Blk.z).w.length : Int)) : Bool) = true from by (simp only [h43, h44, Bool.true_or, Bool.false_or, Bool.or_true, Bool.or_false, Bool.true_and, Bool.false_and, Bool.and_true, Bool.and_false, Bool.not_true, Bool.not_false, cond_true, cond_false, if_true, reduceIte]) <;> rfl] at hj_
            exact hj_.sub (Sub.cons rfl (Sub.cons rfl (Sub.cons rfl (Sub.cons rfl (Sub.cons rfl (Sub.cons rfl (Sub.nil _)))))))
        · have h43p := bne_iff_ne.1 h43
          rw [h43]
          refine sg 15 [2, 3, 5, 6, 7, 60] [(2, .pointer (some ⟨b1, 0, none⟩)), (3, .pointer (some ⟨b4, 0, none⟩)), (5, .int .i64 (k11 : Int)), (6, .pointer (some ⟨b25, 0, none⟩)), (7, .pointer (some ⟨b38, 0, none⟩)), (60, .bool true)] ?_
          refine to_end rfl ?_
          rw [show ((((xs.getD k11 Blk.z).id != (ys.getD k11 Blk.z).id) || ((xs.getD k11 Blk.z).pos != (ys.getD k11 Blk.z).pos)) || (((xs.getD k11 Blk.z).w.length : Int) != ((ys.getD k11 Blk.z).w.length : Int)) : Bool) = true from by (simp only [h43, Bool.true_or, Bool.false_or, Bool.or_true, Bool.or_false, Bool.true_and, Bool.false_and, Bool.and_true, Bool.and_false, Bool.not_true, Bool.not_false, cond_true, cond_false, if_true, reduceIte]) <;> rfl] at hj_
          exact hj_.sub (Sub.cons rfl (Sub.cons rfl (Sub.cons rfl (Sub.cons rfl (Sub.cons rfl (Sub.cons rfl (Sub.nil _)))))))
      refine tn_code ?_
      refine tc_cond (b := (((xs.getD k11 Blk.z).id != (ys.getD k11 Blk.z).id) || ((xs.getD k11 Blk.z).pos != (ys.getD k11 Blk.z).pos)) || (((xs.getD k11 Blk.z).w.length : Int) != ((ys.getD k11 Blk.z).w.length : Int))) (fun _ => rfl) (fun h45 => ?_) (fun h45 => ?_)
      · have h45p := h45
        simp only [Bool.or_eq_true, Bool.and_eq_true, Bool.or_eq_false_iff, Bool.and_eq_false_iff, decide_eq_true_eq, decide_eq_false_iff_not, beq_iff_eq, bne_iff_ne, beq_eq_false_iff_ne, bne_eq_false_iff_eq, Bool.not_eq_true', Bool.not_eq_false', ne_eq] at h45p
        refine tc_seq (tc_region ?_)
        refine sg 1 [4] [(4, .bool false)] ?_
        refine to_end rfl (tn_code (tc_ret ?_))
        refine tr_tmp rfl rfl ?_
        exact ⟨congrArg Ending.returned (congrArg Value.bool (by rw [eq_comm, decide_eq_false_iff_not]; rintro ⟨he_, hf_⟩; subst he_ hf_; simp at h45)), M42.below⟩
      · have h45p := h45
        simp only [Bool.or_eq_true, Bool.and_eq_true, Bool.or_eq_false_iff, Bool.and_eq_false_iff, decide_eq_true_eq, decide_eq_false_iff_not, beq_iff_eq, bne_iff_ne, beq_eq_false_iff_ne, bne_eq_false_iff_eq, Bool.not_eq_true', Bool.not_eq_false', ne_eq] at h45p
        refine tc_skip (tn_code (tc_seq (tc_region ?_)))
        refine sg 1 [2, 3, 5, 6, 7, 8] [(2, .pointer (some ⟨b1, 0, none⟩)), (3, .pointer (some ⟨b4, 0, none⟩)), (5, .int .i64 (k11 : Int)), (6, .pointer (some ⟨b25, 0, none⟩)), (7, .pointer (some ⟨b38, 0, none⟩)), (8, .int .i64 0)] ?_
        refine to_end rfl (tn_code (tc_block ?_))
        have hmk := blk_max hC k11
        refine tc_loop (σ := Nat) (fun k48 => [(2, .pointer (some ⟨b1, 0, none⟩)), (3, .pointer (some ⟨b4, 0, none⟩)), (5, .int .i64 (k11 : Int)), (6, .pointer (some ⟨b25, 0, none⟩)), (7, .pointer (some ⟨b38, 0, none⟩)), (8, .int .i64 (k48 : Int))]) (fun k48 w' => k48 ≤ (xs.getD k11 Blk.z).w.length ∧ (∀ j, j < k48 → (xs.getD k11 Blk.z).w.getD j 0 = (ys.getD k11 Blk.z).w.getD j 0) ∧ Mem w w' [blk b38 #[.int .i64 (ys.getD k11 Blk.z).id, .int .i64 (ys.getD k11 Blk.z).pos, .slice A34 (ys.getD k11 Blk.z).w.length c35] 103, blk b25 #[.int .i64 (xs.getD k11 Blk.z).id, .int .i64 (xs.getD k11 Blk.z).pos, .slice A21 (xs.getD k11 Blk.z).w.length c22] 103, blk b4 #[.int .i64 cap', .slice (some ad30) ys.length c'] 24, blk b1 #[.int .i64 cap, .slice (some ad17) xs.length c] 24]) (fun k48 => (xs.getD k11 Blk.z).w.length - k48) 0 (Sub.cons rfl (Sub.cons rfl (Sub.cons rfl (Sub.cons rfl (Sub.cons rfl (Sub.cons rfl (Sub.nil _))))))) ⟨Nat.zero_le _, fun j hj => absurd hj (Nat.not_lt_zero _), M42⟩ ?_
        rintro k48 w51 ⟨hk49, hi50, M52⟩
        refine tc_seq (tc_seq (tc_region ?_))
        refine sg 2 [2, 3, 5, 6, 7, 8, 61, 62] [(2, .pointer (some ⟨b1, 0, none⟩)), (3, .pointer (some ⟨b4, 0, none⟩)), (5, .int .i64 (k11 : Int)), (6, .pointer (some ⟨b25, 0, none⟩)), (7, .pointer (some ⟨b38, 0, none⟩)), (8, .int .i64 (k48 : Int)), (61, .int .i64 (k48 : Int)), (62, .pointer (some ⟨b25, 2, none⟩))] ?_
        refine ld M52 1 63 (.slice A21 (xs.getD k11 Blk.z).w.length c22) ?_
        refine sg 2 [2, 3, 5, 6, 7, 8, 65] [(2, .pointer (some ⟨b1, 0, none⟩)), (3, .pointer (some ⟨b4, 0, none⟩)), (5, .int .i64 (k11 : Int)), (6, .pointer (some ⟨b25, 0, none⟩)), (7, .pointer (some ⟨b38, 0, none⟩)), (8, .int .i64 (k48 : Int)), (65, .bool (decide ((k48 : Int) < ((xs.getD k11 Blk.z).w.length : Int))))] ?_
        refine to_end rfl (tn_code ?_)
        refine tc_cond (b := decide ((k48 : Int) < ((xs.getD k11 Blk.z).w.length : Int))) (fun _ => rfl) (fun h53 => ?_) (fun h53 => ?_)
        · have h53p := of_decide_eq_true h53
          refine tc_skip (tn_code (tc_seq (tc_block (tc_seq ?_))))
          refine tc_drawL (fun w' => Mem w w' ([blk b38 #[.int .i64 (ys.getD k11 Blk.z).id, .int .i64 (ys.getD k11 Blk.z).pos, .slice A34 (ys.getD k11 Blk.z).w.length c35] 103, blk b25 #[.int .i64 (xs.getD k11 Blk.z).id, .int .i64 (xs.getD k11 Blk.z).pos, .slice A21 (xs.getD k11 Blk.z).w.length c22] 103, blk b4 #[.int .i64 cap', .slice (some ad30) ys.length c'] 24, blk b1 #[.int .i64 cap, .slice (some ad17) xs.length c] 24])) [] (by kernel_rfl) ?_
          have M54 := M52.draw
          refine ty_take 0 68 (.pointer (some ⟨b25, 2, none⟩)) (pok_cont pok_body) ?_ M54 (fun _ _ _ => by kernel_rfl)
          refine ty_take 1 69 (.slice A21 (xs.getD k11 Blk.z).w.length c22) (pok_cont pok_body) ?_ M54 (fun _ M' _ => rl M' 1)
          refine ty_take 2 70 (.int .i64 (k48 : Int)) (pok_cont pok_body) ?_ M54 (fun _ _ _ => by kernel_rfl)
          obtain ⟨ad55, rfl⟩ := C_some hC24 (k := k48) (by omega)
          refine ty_take 3 71 (.pointer (some (ad55.add (k48 * 1)))) (pok_cont pok_body) ?_ M54 (fun _ _ _ => ri (ad := ad55) (n := (xs.getD k11 Blk.z).w.length) (c := c22) k48 1 (by omega) Try.underlying25)
          obtain ⟨cs58, hk56, hc57⟩ := C_cell hC24 (0 : Int) k48 (by omega)
          obtain rfl := kW_open hk56
          refine ty_take 4 72 (.int .u64 ((xs.getD k11 Blk.z).w.getD k48 (0 : Int))) (pok_cont pok_body) ?_ M54 (fun _ M' _ => re (cell_up M' (hc57 0 _ rfl)))
          refine ty_take 5 73 (.pointer (some ⟨b38, 2, none⟩)) (pok_cont pok_body) ?_ M54 (fun _ _ _ => by kernel_rfl)
          refine ty_take 6 74 (.slice A34 (ys.getD k11 Blk.z).w.length c35) (pok_cont pok_body) ?_ M54 (fun _ M' _ => rl M' 0)
          refine ty_take 7 75 (.int .i64 (k48 : Int)) (pok_cont pok_body) ?_ M54 (fun _ _ _ => by kernel_rfl)
          obtain ⟨ad59, rfl⟩ := C_some hC37 (k := k48) (by omega)
          refine ty_take 8 76 (.pointer (some (ad59.add (k48 * 1)))) (pok_cont pok_body) ?_ M54 (fun _ _ _ => ri (ad := ad59) (n := (ys.getD k11 Blk.z).w.length) (c := c35) k48 1 (by omega) Try.underlying25)
          obtain ⟨cs62, hk60, hc61⟩ := C_cell hC37 (0 : Int) k48 (by omega)
          obtain rfl := kW_open hk60
          refine ty_take 9 77 (.int .u64 ((ys.getD k11 Blk.z).w.getD k48 (0 : Int))) (pok_cont pok_body) ?_ M54 (fun _ M' _ => re (cell_up M' (hc61 0 _ rfl)))
          refine ty_take 10 78 (.bool (((xs.getD k11 Blk.z).w.getD k48 (0 : Int)) != ((ys.getD k11 Blk.z).w.getD k48 (0 : Int)))) (pok_cont pok_body) ?_ M54 (fun _ _ _ => by kernel_rfl)
          refine ty_endL ?_
          refine tn_code ?_
          refine tc_cond (b := ((xs.getD k11 Blk.z).w.getD k48 (0 : Int)) != ((ys.getD k11 Blk.z).w.getD k48 (0 : Int))) (fun _ => rfl) (fun h63 => ?_) (fun h63 => ?_)
          · have h63p := bne_iff_ne.1 h63
            refine tc_seq (tc_region ?_)
            refine sg 1 [4] [(4, .bool false)] ?_
            refine to_end rfl (tn_code (tc_ret ?_))
            refine tr_tmp rfl rfl ?_
            exact ⟨congrArg Ending.returned (congrArg Value.bool (by rw [eq_comm, decide_eq_false_iff_not]; rintro ⟨he_, hf_⟩; subst he_ hf_; simp at h63)), M54.below⟩
          · have h63p := bne_eq_false_iff_eq.1 h63
            refine tc_skip (tn_blk (tn_code (tc_region ?_)))
            refine sg 3 [2, 3, 5, 6, 7, 8] [(2, .pointer (some ⟨b1, 0, none⟩)), (3, .pointer (some ⟨b4, 0, none⟩)), (5, .int .i64 (k11 : Int)), (6, .pointer (some ⟨b25, 0, none⟩)), (7, .pointer (some ⟨b38, 0, none⟩)), (8, .int .i64 (IntKind.wrap .i64 ((k48 : Int) + 1)))] ?_
            rw [show IntKind.wrap .i64 ((k48 : Int) + 1) = (((k48 + 1) : Nat) : Int) from wr_nat k48 1 (by omega)]
            refine to_end rfl ?_
            exact tn_back (k48 + 1) (Sub.cons rfl (Sub.cons rfl (Sub.cons rfl (Sub.cons rfl (Sub.cons rfl (Sub.cons rfl (Sub.nil _))))))) ⟨by omega, ext_step hi50 (bne_eq_false_iff_eq.1 h63), M54⟩ (by omega)
        · have h53p := of_decide_eq_false h53
          refine tc_exitK (k' := _) rfl (tn_blk (tn_code (tc_region ?_)))
          refine sg 3 [2, 3, 5] [(2, .pointer (some ⟨b1, 0, none⟩)), (3, .pointer (some ⟨b4, 0, none⟩)), (5, .int .i64 (IntKind.wrap .i64 ((k11 : Int) + 1)))] ?_
          rw [show IntKind.wrap .i64 ((k11 : Int) + 1) = (((k11 + 1) : Nat) : Int) from wr_nat k11 1 (by omega)]
          refine to_end rfl ?_
          have M64 := M52.drop 1
          have M65 := M64.drop 0
          exact tn_back (k11 + 1) (Sub.cons rfl (Sub.cons rfl (Sub.cons rfl (Sub.nil _)))) ⟨by omega, ext_step hi13 (blk_ext (by omega) (by omega) (ext_getD 0 (by omega) (fun j hj => hi50 j (by omega)))), M65⟩ (by omega)
    · have h16p := of_decide_eq_false h16
      refine tc_exitK (k' := _) rfl (tn_code (tc_seq (tc_region ?_)))
      refine sg 1 [4] [(4, .bool true)] ?_
      refine to_end rfl (tn_code (tc_ret ?_))
      refine tr_tmp rfl rfl ?_
      exact ⟨congrArg Ending.returned (congrArg Value.bool (by rw [eq_comm, decide_eq_true_iff]; exact ⟨by omega, ext_getD Blk.z (by omega) (fun j hj => hi13 j (by omega))⟩)), M15.below⟩

set_option linter.unusedSimpArgs false in
theorem few13_any (cap : Int) (l : List Blk) (A : Option Addr) (c : Nat) (w : World) (hC : kBlk.C w A l.length l) : Calls Try.prog 16 #[.agg #[.int .i64 cap, .slice A l.length c]] w fun e w' => e = .returned (.bool (fewM l)) ∧ Below w.heap.size w w' := by
  have M := Mem.refl w
  have hmx := C_max hC
  refine calls_tc (N := 28) (args := [.agg #[.int .i64 cap, .slice A l.length c]]) Try.func16 rfl rfl rfl ?_
  refine tc_seq (tc_region ?_)
  refine nw M 1 #[.int .i64 cap, .slice A l.length c] 24 fun b1 w2 M3 => ?_
  refine sg 1 [1] [(1, .pointer (some ⟨b1, 0, none⟩))] ?_
  refine to_end rfl (tn_code (tc_seq (tc_region ?_)))
  refine sg 1 [1, 5] [(1, .pointer (some ⟨b1, 0, none⟩)), (5, .pointer (some ⟨b1, 1, none⟩))] ?_
  refine ld M3 0 6 (.slice A l.length c) ?_
  refine sg 3 [1, 3] [(1, .pointer (some ⟨b1, 0, none⟩)), (3, .bool (decide ((l.length : Int) ≤ 40)))] ?_
  refine to_end rfl (tn_code (tc_seq (tc_seq (tc_region ?_))))
  refine sg 1 [1, 3, 4] [(1, .pointer (some ⟨b1, 0, none⟩)), (3, .bool (decide ((l.length : Int) ≤ 40))), (4, .int .i64 0)] ?_
  refine to_end rfl (tn_code (tc_block ?_))
  refine tc_loop (σ := Nat × Bool) (fun s_ => match s_ with | (i4, sm5) => [(1, .pointer (some ⟨b1, 0, none⟩)), (4, .int .i64 (i4 : Int)), (3, .bool sm5)]) (fun s_ w' => match s_ with | (i4, sm5) => (i4 ≤ l.length ∧ sm5 = fewMTo l i4) ∧ Mem w w' ([blk b1 #[.int .i64 cap, .slice A l.length c] 24])) (fun s_ => match s_ with | (i4, sm5) => l.length - i4) (0, decide ((l.length : Int) ≤ 40)) (Sub.cons rfl (Sub.cons rfl (Sub.cons rfl (Sub.nil _)))) ⟨⟨Nat.zero_le _, (fewMTo_zero l).symm⟩, M3⟩ ?_
  rintro ⟨i4, sm5⟩ w7 ⟨hi9, M8⟩
  obtain ⟨hq1, hq2⟩ := hi9
  refine tc_seq (tc_seq (tc_region ?_))
  refine join (fr' := [(1, .pointer (some ⟨b1, 0, none⟩)), (4, .int .i64 (i4 : Int)), (3, .bool sm5), (16, .bool ((decide ((i4 : Int) < (l.length : Int))) && sm5))]) (fun hj_ => ?_) ?_
  · refine sg 2 [1, 4, 3, 9, 10] [(1, .pointer (some ⟨b1, 0, none⟩)), (4, .int .i64 (i4 : Int)), (3, .bool sm5), (9, .int .i64 (i4 : Int)), (10, .pointer (some ⟨b1, 1, none⟩))] ?_
    refine ld M8 0 11 (.slice A l.length c) ?_
    refine sg 3 [1, 4, 3, 14] [(1, .pointer (some ⟨b1, 0, none⟩)), (4, .int .i64 (i4 : Int)), (3, .bool sm5), (14, .bool (decide ((i4 : Int) < (l.length : Int))))] ?_
    rcases bdi (decide ((i4 : Int) < (l.length : Int)) : Bool) with h10 | h10
    · have h10p := of_decide_eq_false h10
      rw [h10]
      refine sg 2 [1, 4, 3, 16] [(1, .pointer (some ⟨b1, 0, none⟩)), (4, .int .i64 (i4 : Int)), (3, .bool sm5), (16, .bool false)] ?_
      refine to_end rfl ?_
      rw [show ((decide ((i4 : Int) < (l.length : Int))) && sm5 : Bool) = false from by (simp only [h10, Bool.true_or, Bool.false_or, Bool.or_true, Bool.or_false, Bool.true_and, Bool.false_and, Bool.and_true, Bool.and_false, Bool.not_true, Bool.not_false, cond_true, cond_false, if_true, reduceIte]) <;> rfl] at hj_
      exact hj_.sub (Sub.cons rfl (Sub.cons rfl (Sub.cons rfl (Sub.cons rfl (Sub.nil _)))))
    · have h10p := of_decide_eq_true h10
      rw [h10]
      refine sg 2 [1, 4, 3, 16] [(1, .pointer (some ⟨b1, 0, none⟩)), (4, .int .i64 (i4 : Int)), (3, .bool sm5), (16, .bool sm5)] ?_
      refine to_end rfl ?_
      rw [show ((decide ((i4 : Int) < (l.length : Int))) && sm5 : Bool) = sm5 from by (simp only [h10, Bool.true_or, Bool.false_or, Bool.or_true, Bool.or_false, Bool.true_and, Bool.false_and, Bool.and_true, Bool.and_false, Bool.not_true, Bool.not_false, cond_true, cond_false, if_true, reduceIte]) <;> rfl] at hj_
      exact hj_.sub (Sub.cons rfl (Sub.cons rfl (Sub.cons rfl (Sub.cons rfl (Sub.nil _)))))
  refine tn_code ?_
  refine tc_cond (b := (decide ((i4 : Int) < (l.length : Int))) && sm5) (fun _ => rfl) (fun h11 => ?_) (fun h11 => ?_)
  · have h11p := h11
    simp only [Bool.or_eq_true, Bool.and_eq_true, Bool.or_eq_false_iff, Bool.and_eq_false_iff, decide_eq_true_eq, decide_eq_false_iff_not, beq_iff_eq, bne_iff_ne, beq_eq_false_iff_ne, bne_eq_false_iff_eq, Bool.not_eq_true', Bool.not_eq_false', ne_eq] at h11p
    refine tc_skip (tn_code (tc_seq (tc_block (tc_region ?_))))
    refine sg 1 [1, 4, 19] [(1, .pointer (some ⟨b1, 0, none⟩)), (4, .int .i64 (i4 : Int)), (19, .pointer (some ⟨b1, 1, none⟩))] ?_
    refine ld M8 0 20 (.slice A l.length c) ?_
    refine sg 1 [1, 4, 20, 21] [(1, .pointer (some ⟨b1, 0, none⟩)), (4, .int .i64 (i4 : Int)), (20, .slice A l.length c), (21, .int .i64 (i4 : Int))] ?_
    obtain ⟨ad12, rfl⟩ := C_some hC (k := i4) (by omega)
    refine ix (ad := ad12) (n := l.length) (c := c) 22 i4 3 (by omega) Try.underlying22 ?_
    refine sg 1 [1, 4, 23] [(1, .pointer (some ⟨b1, 0, none⟩)), (4, .int .i64 (i4 : Int)), (23, .pointer (some ((ad12.add (i4 * 3)).add 2)))] ?_
    obtain ⟨cs15, hk13, hc14⟩ := C_cell hC Blk.z i4 (by omega)
    obtain ⟨A16, c17, rfl, hl18, hC19⟩ := kBlk_open hk13
    refine le 24 (.slice A16 (l.getD i4 Blk.z).w.length c17) (cell_up M8 (hc14 2 _ rfl)) ?_
    refine sg 3 [1, 4, 3] [(1, .pointer (some ⟨b1, 0, none⟩)), (4, .int .i64 (i4 : Int)), (3, .bool (decide (((l.getD i4 Blk.z).w.length : Int) ≤ 700)))] ?_
    refine to_end rfl (tn_blk (tn_code (tc_region ?_)))
    refine sg 3 [1, 4, 3] [(1, .pointer (some ⟨b1, 0, none⟩)), (4, .int .i64 (IntKind.wrap .i64 ((i4 : Int) + 1))), (3, .bool (decide (((l.getD i4 Blk.z).w.length : Int) ≤ 700)))] ?_
    rw [show IntKind.wrap .i64 ((i4 : Int) + 1) = (((i4 + 1) : Nat) : Int) from wr_nat i4 1 (by omega)]
    refine to_end rfl ?_
    rw [fewMTo_step (l := l) (k := i4) (by omega) (by rw [← hq2]; have h_ := h11p; exact h_.2)]
    exact tn_back (s := (i4, sm5)) (i4 + 1, fewMTo l (i4 + 1)) (Sub.cons rfl (Sub.cons rfl (Sub.cons rfl (Sub.nil _)))) ⟨⟨by omega, rfl⟩, M8⟩ (by simp only; omega)
  · have h11p := h11
    simp only [Bool.or_eq_true, Bool.and_eq_true, Bool.or_eq_false_iff, Bool.and_eq_false_iff, decide_eq_true_eq, decide_eq_false_iff_not, beq_iff_eq, bne_iff_ne, beq_eq_false_iff_ne, bne_eq_false_iff_eq, Bool.not_eq_true', Bool.not_eq_false', ne_eq] at h11p
    refine tc_exitK (k' := _) rfl (tn_code (tc_seq (tc_region ?_)))
    refine sg 2 [2] [(2, .bool sm5)] ?_
    refine to_end rfl (tn_code (tc_ret ?_))
    refine tr_tmp rfl rfl ?_
    refine ⟨congrArg Ending.returned (congrArg Value.bool ?_), M8.below⟩
    rcases bdi sm5 with h_ | h_
    · rw [h_]; exact (fewMTo_no (k := i4) (by rw [← hq2]; exact h_)).symm
    · rw [hq2]; exact fewMTo_all (by rw [h_] at h11; simp only [Bool.and_true, decide_eq_false_iff_not] at h11; omega)

theorem rown13_any (cap : Int) (l : List Blk) (A : Option Addr) (c : Nat) (w : World) (hC : kBlk.C w A l.length l) (hsm : ∀ j, (l.getD j Blk.z).w.length ≤ 1000000) (hlm : l.length ≤ 1000000) : Calls Try.prog 17 #[.agg #[.int .i64 cap, .slice A l.length c]] w fun e w' => ∃ A' c' vs, e = .returned (.agg #[.int .i64 cap, .slice A' l.length c']) ∧ Mem w w' [row (kRawG 2) 103 (.slice A' vs.length c') vs, star (codesG SB vs l)] ∧ rawGOk SB vs l := by
  have M := Mem.refl w
  have hmx := C_max hC
  refine calls_tc (N := 41) (args := [.agg #[.int .i64 cap, .slice A l.length c]]) Try.func17 rfl rfl rfl ?_
  refine tc_seq (tc_region ?_)
  refine nw M 1 #[.int .i64 cap, .slice A l.length c] 24 fun b1 w2 M3 => ?_
  refine nw M3 2 #[.int .i64 0, .slice none 0 0] 24 fun b4 w5 M6 => ?_
  refine to_end rfl (tn_code (tc_seq (tc_region ?_)))
  refine sg 1 [1, 2, 5] [(1, .pointer (some ⟨b1, 0, none⟩)), (2, .pointer (some ⟨b4, 0, none⟩)), (5, .pointer (some ⟨b1, 0, none⟩))] ?_
  refine ld M6 1 6 (.int .i64 cap) ?_
  refine sg 1 [1, 2, 7] [(1, .pointer (some ⟨b1, 0, none⟩)), (2, .pointer (some ⟨b4, 0, none⟩)), (7, .agg #[.int .i64 cap, .slice none 0 0])] ?_
  refine nw M6 3 #[.int .i64 0, .slice none 0 0] 24 fun b7 w8 M9 => ?_
  refine sa M9 0 #[.int .i64 cap, .slice none 0 0] fun w10 M11 => ?_
  refine to_end rfl (tn_code (tc_seq (tc_seq (tc_region ?_))))
  refine sg 1 [1, 2, 3, 4] [(1, .pointer (some ⟨b1, 0, none⟩)), (2, .pointer (some ⟨b4, 0, none⟩)), (3, .pointer (some ⟨b7, 0, none⟩)), (4, .int .i64 0)] ?_
  refine to_end rfl (tn_code (tc_block ?_))
  have M12 := Mem.star (A := codesG SB [] []) M11
  have M13 := M12.nilrow (kRawG 2) 103
  refine tc_loop (σ := Nat × List RawG × Option Addr × Nat) (fun s_ => match s_ with | (k14, vs15, A16, c17) => [(1, .pointer (some ⟨b1, 0, none⟩)), (2, .pointer (some ⟨b4, 0, none⟩)), (3, .pointer (some ⟨b7, 0, none⟩)), (4, .int .i64 (k14 : Int))]) (fun s_ w' => match s_ with | (k14, vs15, A16, c17) => (k14 ≤ l.length ∧ rawGOk SB vs15 (List.take k14 l)) ∧ Mem w w' ([row (kRawG 2) 103 (.slice A16 vs15.length c17) vs15, star (codesG SB vs15 (List.take k14 l)), blk b7 #[.int .i64 cap, .slice A16 vs15.length c17] 24, blk b4 #[.int .i64 0, .slice none 0 0] 24, blk b1 #[.int .i64 cap, .slice A l.length c] 24])) (fun s_ => match s_ with | (k14, vs15, A16, c17) => l.length - k14) (0, [], none, 0) (Sub.cons rfl (Sub.cons rfl (Sub.cons rfl (Sub.cons rfl (Sub.nil _))))) ⟨⟨Nat.zero_le _, rawGOk_nil⟩, M13⟩ ?_
  rintro ⟨k14, vs15, A16, c17⟩ w22 ⟨hi24, M23⟩
  obtain ⟨hq1, hq2⟩ := hi24
  refine tc_seq (tc_seq (tc_region ?_))
  refine sg 2 [1, 2, 3, 4, 8, 9] [(1, .pointer (some ⟨b1, 0, none⟩)), (2, .pointer (some ⟨b4, 0, none⟩)), (3, .pointer (some ⟨b7, 0, none⟩)), (4, .int .i64 (k14 : Int)), (8, .int .i64 (k14 : Int)), (9, .pointer (some ⟨b1, 1, none⟩))] ?_
  refine ld M23 4 10 (.slice A l.length c) ?_
  refine sg 2 [1, 2, 3, 4, 12] [(1, .pointer (some ⟨b1, 0, none⟩)), (2, .pointer (some ⟨b4, 0, none⟩)), (3, .pointer (some ⟨b7, 0, none⟩)), (4, .int .i64 (k14 : Int)), (12, .bool (decide ((k14 : Int) < (l.length : Int))))] ?_
  refine to_end rfl (tn_code ?_)
  refine tc_cond (b := decide ((k14 : Int) < (l.length : Int))) (fun _ => rfl) (fun h25 => ?_) (fun h25 => ?_)
  · have h25p := of_decide_eq_true h25
    refine tc_skip (tn_code (tc_seq (tc_block ?_)))
    refine tc_drawL (fun w' => Mem w w' ([star (codesG SB vs15 (List.take k14 l)), blk b7 #[.int .i64 cap, .slice A16 vs15.length c17] 24, blk b4 #[.int .i64 0, .slice none 0 0] 24, blk b1 #[.int .i64 cap, .slice A l.length c] 24])) [25] (by kernel_rfl) ?_
    have M26 := M23.draw
    refine ty_take 0 15 (.pointer (some ⟨b7, 1, none⟩)) (pok_cont pok_body) ?_ (M26.drop 0) (fun _ _ _ => by kernel_rfl)
    refine ty_take 1 16 (.slice A16 vs15.length c17) (pok_cont pok_body) ?_ (M26.drop 0) (fun _ M' _ => rl M' 1)
    refine ty_take 2 17 (.pointer (some ⟨b1, 1, none⟩)) (pok_cont pok_body) ?_ (M26.drop 0) (fun _ _ _ => by kernel_rfl)
    refine ty_take 3 18 (.slice A l.length c) (pok_cont pok_body) ?_ (M26.drop 0) (fun _ M' _ => rl M' 3)
    refine ty_take 4 19 (.int .i64 (k14 : Int)) (pok_cont pok_body) ?_ (M26.drop 0) (fun _ _ _ => by kernel_rfl)
    obtain ⟨ad27, rfl⟩ := C_some hC (k := k14) (by omega)
    refine ty_take 5 20 (.pointer (some (ad27.add (k14 * 3)))) (pok_cont pok_body) ?_ (M26.drop 0) (fun _ _ _ => ri (ad := ad27) (n := l.length) (c := c) k14 3 (by omega) Try.underlying22)
    refine ty_take 6 21 (.pointer (some (ad27.add (k14 * 3)))) (pok_cont pok_body) ?_ (M26.drop 0) (fun _ _ _ => by kernel_rfl)
    obtain ⟨cs30, hk28, hc29⟩ := C_cell hC Blk.z k14 (by omega)
    obtain ⟨A31, c32, rfl, hl33, hC34⟩ := kBlk_open hk28
    refine ty_take 7 22 (.int .i64 (l.getD k14 Blk.z).id) (pok_cont pok_body) ?_ (M26.drop 0) (fun _ M' _ => re (cell_up M' (hc29 0 _ rfl)))
    refine ty_take 8 23 (.pointer (some ⟨b1, 1, none⟩)) (pok_cont pok_body) ?_ (M26.drop 0) (fun _ _ _ => by kernel_rfl)
    refine ty_take 9 24 (.slice (some ad27) l.length c) (pok_cont pok_body) ?_ (M26.drop 0) (fun _ M' _ => rl M' 3)
    refine ty_take 10 25 (.int .i64 (k14 : Int)) (pok_cont pok_body) ?_ (M26.drop 0) (fun _ _ _ => by kernel_rfl)
    refine ty_take 11 26 (.pointer (some (ad27.add (k14 * 3)))) (pok_cont pok_body) ?_ (M26.drop 0) (fun _ _ _ => ri (ad := ad27) (n := l.length) (c := c) k14 3 (by omega) Try.underlying22)
    refine ty_take 12 27 (.pointer (some ((ad27.add (k14 * 3)).add 1))) (pok_cont pok_body) ?_ (M26.drop 0) (fun _ _ _ => by kernel_rfl)
    refine ty_take 13 28 (.int .i64 (l.getD k14 Blk.z).pos) (pok_cont pok_body) ?_ (M26.drop 0) (fun _ M' _ => re (cell_up M' (hc29 1 _ rfl)))
    refine ty_take 14 29 (.pointer (some ⟨b1, 1, none⟩)) (pok_cont pok_body) ?_ (M26.drop 0) (fun _ _ _ => by kernel_rfl)
    refine ty_take 15 30 (.slice (some ad27) l.length c) (pok_cont pok_body) ?_ (M26.drop 0) (fun _ M' _ => rl M' 3)
    refine ty_take 16 31 (.int .i64 (k14 : Int)) (pok_cont pok_body) ?_ (M26.drop 0) (fun _ _ _ => by kernel_rfl)
    refine ty_take 17 32 (.pointer (some (ad27.add (k14 * 3)))) (pok_cont pok_body) ?_ (M26.drop 0) (fun _ _ _ => ri (ad := ad27) (n := l.length) (c := c) k14 3 (by omega) Try.underlying22)
    refine ty_take 18 33 (.pointer (some ((ad27.add (k14 * 3)).add 2))) (pok_cont pok_body) ?_ (M26.drop 0) (fun _ _ _ => by kernel_rfl)
    refine ty_take 19 34 (.slice A31 (l.getD k14 Blk.z).w.length c32) (pok_cont pok_body) ?_ (M26.drop 0) (fun _ M' _ => re (cell_up M' (hc29 2 _ rfl)))
    refine ty_all (rs := [20]) (te_one ?_)
    have M35 := M26.nilrow kW 26
    refine te_apC (z := .int .u64 0) (bytes := 8) (c := c32) M35 35 flatW (C_up M35 hC34) Try.underlying25 ?_ (fun _ _ _ M_ _ _ => ((M_.drop 1).drop 0)) fun A36 c37 w38 M39 => ?_
    · have hz := hsm k14; have hvz := hq2.1; rw [List.length_take] at hvz; simp only [List.length_append, List.length_nil, List.length_cons]; omega
    refine ty_take 21 36 (.agg #[.int .i64 (l.getD k14 Blk.z).id, .int .i64 (l.getD k14 Blk.z).pos, .slice A36 ([] ++ (l.getD k14 Blk.z).w).length c37]) (pok_cont pok_body) ?_ ((M39.drop 1).drop 0) (fun _ _ _ => by kernel_rfl)
    refine ty_all (rs := [22]) (te_one ?_)
    have M43 := M39.flat (d := kRawG 2) (x := (([.int .i64 (l.getD k14 Blk.z).id, .int .i64 (l.getD k14 Blk.z).pos], A36, ([] ++ (l.getD k14 Blk.z).w).length, c37) : RawG)) (cs := [.int .i64 (l.getD k14 Blk.z).id, .int .i64 (l.getD k14 Blk.z).pos, .slice A36 ([] ++ (l.getD k14 Blk.z).w).length c37]) (rawB_M _ _ _ _ _ _)
    refine te_bs1 (x := (([.int .i64 (l.getD k14 Blk.z).id, .int .i64 (l.getD k14 Blk.z).pos], A36, ([] ++ (l.getD k14 Blk.z).w).length, c37) : RawG)) (cs := #[.int .i64 (l.getD k14 Blk.z).id, .int .i64 (l.getD k14 Blk.z).pos, .slice A36 ([] ++ (l.getD k14 Blk.z).w).length c37]) M43 37 103 (fun _ _ M_ _ _ => (((M_.drop 2).drop 1).drop 0)) fun b40 w41 M42 => ?_
    refine ty_all (rs := [23]) (te_one ?_)
    have M48 := M42.front 2 rfl
    refine te_ap (z := .agg #[.int .i64 0, .int .i64 0, .slice none 0 0]) (bytes := 40) M48 38 Try.underlying22 ?_ (fun _ _ _ M_ _ _ => ((M_.drop 1).drop 0)) fun A44 c45 w46 M47 => ?_
    · have hz := hsm k14; have hvz := hq2.1; rw [List.length_take] at hvz; simp only [List.length_append, List.length_nil, List.length_cons]; omega
    refine ty_take 24 39 (.pointer (some ⟨b7, 1, none⟩)) (pok_cont pok_body) ?_ ((M47.drop 1).drop 0) (fun _ _ _ => by kernel_rfl)
    refine ty_all (rs := [25]) (te_one ?_)
    refine te_st M47 3 #[.int .i64 cap, .slice A44 (vs15 ++ [(([.int .i64 (l.getD k14 Blk.z).id, .int .i64 (l.getD k14 Blk.z).pos], A36, ([] ++ (l.getD k14 Blk.z).w).length, c37) : RawG)]).length c45] (fun _ _ h_ _ => absurd (by decide) h_) fun w49 M50 => ?_
    refine ty_endL ?_
    refine tn_blk (tn_code (tc_region ?_))
    refine sg 3 [1, 2, 3, 4] [(1, .pointer (some ⟨b1, 0, none⟩)), (2, .pointer (some ⟨b4, 0, none⟩)), (3, .pointer (some ⟨b7, 0, none⟩)), (4, .int .i64 (IntKind.wrap .i64 ((k14 : Int) + 1)))] ?_
    rw [show IntKind.wrap .i64 ((k14 : Int) + 1) = (((k14 + 1) : Nat) : Int) from wr_nat k14 1 (by omega)]
    refine to_end rfl ?_
    have M51 := M50.front 1 rfl
    have M52 := M51.front 2 rfl
    have M53 := codesG_more (S := SB) (v := (([.int .i64 (l.getD k14 Blk.z).id, .int .i64 (l.getD k14 Blk.z).pos], A36, ([] ++ (l.getD k14 Blk.z).w).length, c37) : RawG)) (f := (l.getD k14 Blk.z)) (by rw [hq2.1]) M52
    rw [← take_step Blk.z l (by omega)] at M53
    have M54 := M53.front 4 rfl
    have M55 := M54.front 4 rfl
    have M56 := M55.front 4 rfl
    have M57 := M56.front 3 rfl
    have M58 := M57.front 4 rfl
    exact tn_back (s := (k14, vs15, A16, c17)) (k14 + 1, (vs15 ++ [(([.int .i64 (l.getD k14 Blk.z).id, .int .i64 (l.getD k14 Blk.z).pos], A36, ([] ++ (l.getD k14 Blk.z).w).length, c37) : RawG)]), A44, c45) (Sub.cons rfl (Sub.cons rfl (Sub.cons rfl (Sub.cons rfl (Sub.nil _))))) ⟨⟨by omega, by rw [take_step Blk.z l (by omega)]; exact rawGOk_snoc hq2 rfl rfl⟩, M58⟩ (by simp only; omega)
  · have h25p := of_decide_eq_false h25
    refine tc_exitK (k' := _) rfl (tn_code (tc_seq (tc_region ?_)))
    refine la M23 2 40 #[.int .i64 cap, .slice A16 vs15.length c17] (hu := Try.underlying24) ?_
    refine sa M23 3 #[.int .i64 cap, .slice A16 vs15.length c17] fun w59 M60 => ?_
    refine to_end rfl (tn_code (tc_ret ?_))
    refine tr_cell M60 3 rfl rfl rfl Try.underlying24 rfl (by kernel_rfl) ?_
    have M62 := M60.drop 4
    have M63 := M62.drop 3
    have M64 := M63.drop 2
    have hl : List.take k14 l = l := List.take_of_length_le (by omega)
    rw [hl] at hq2
    have M61 := M64
    rw [hl] at M61
    exact ⟨_, _, vs15, by rw [← hq2.1], M61, hq2⟩

theorem clone_rawb (A : Option Addr) (c : Nat) (xs : List RawG) (w : World) (hC : (kRawG 2).C w A xs.length xs) (hl : xs.length ≤ 1000000) : Calls Try.prog 119 #[.slice A xs.length c] w fun e w' => ∃ A' c', e = .returned (.slice A' xs.length c') ∧ Mem w w' [row (kRawG 2) 103 (.slice A' xs.length c') xs] := by
  have M := Mem.refl w
  refine calls_tc (N := 8) (args := [.slice A xs.length c]) Try.func119 rfl rfl rfl ?_
  refine tc_seq (tc_region ?_)
  refine sg 1 [0] [(0, .slice A xs.length c)] ?_
  refine to_end rfl (tn_code (tc_seq (tc_seq (tc_region ?_))))
  refine sg 1 [0, 3] [(0, .slice A xs.length c), (3, .slice A xs.length c)] ?_
  rcases A with _ | ad
  · refine sg 1 [0, 4] [(0, .slice none xs.length c), (4, .bool true)] ?_
    refine to_end rfl (tn_code (tc_cond_t (fun _ => rfl) (tc_seq (tc_region ?_))))
    refine sg 1 [2] [(2, .slice none 0 0)] ?_
    refine to_end rfl (tn_code (tc_ret ?_))
    refine tr_tmp rfl rfl ?_
    have h0 : xs = [] := C_none hC
    subst h0
    exact ⟨none, 0, rfl, (M).nilrow (kRawG 2) 103⟩
  · refine sg 1 [0, 4] [(0, .slice (some ad) xs.length c), (4, .bool false)] ?_
    refine to_end rfl (tn_code (tc_cond_f (fun _ => rfl) (tc_skip (tn_code (tc_seq (tc_region ?_))))))
    refine bsF M 5 (kRawG 2) 103 ([] : List RawG) #[] (Reps.none _ _) (Nat.le_of_ble_eq_true rfl) fun b1 w2 M3 => ?_
    refine sg 1 [5, 6] [(5, .slice (some ⟨b1, 0, none⟩) 0 0), (6, .slice (some ad) xs.length c)] ?_
    refine apC (z := .agg #[.int .i64 0, .int .i64 0, .slice none 0 0]) (bytes := 40) (c := c) M3 7 (flatRawG 2) (C_up M3 hC) Try.underlying22 ?_ fun A4 c5 w6 M7 => ?_
    · simp only [List.length_nil]; omega
    refine sg 1 [2] [(2, .slice A4 ([] ++ xs).length c5)] ?_
    refine to_end rfl (tn_code (tc_ret ?_))
    refine tr_tmp rfl rfl ?_
    exact ⟨_, _, rfl, M7⟩

theorem clone_w (A : Option Addr) (c : Nat) (xs : List Int) (w : World) (hC : kW.C w A xs.length xs) (hl : xs.length ≤ 1000000) : Calls Try.prog 74 #[.slice A xs.length c] w fun e w' => ∃ A' c', e = .returned (.slice A' xs.length c') ∧ Mem w w' [row kW 26 (.slice A' xs.length c') xs] := by
  have M := Mem.refl w
  refine calls_tc (N := 8) (args := [.slice A xs.length c]) Try.func74 rfl rfl rfl ?_
  refine tc_seq (tc_region ?_)
  refine sg 1 [0] [(0, .slice A xs.length c)] ?_
  refine to_end rfl (tn_code (tc_seq (tc_seq (tc_region ?_))))
  refine sg 1 [0, 3] [(0, .slice A xs.length c), (3, .slice A xs.length c)] ?_
  rcases A with _ | ad
  · refine sg 1 [0, 4] [(0, .slice none xs.length c), (4, .bool true)] ?_
    refine to_end rfl (tn_code (tc_cond_t (fun _ => rfl) (tc_seq (tc_region ?_))))
    refine sg 1 [2] [(2, .slice none 0 0)] ?_
    refine to_end rfl (tn_code (tc_ret ?_))
    refine tr_tmp rfl rfl ?_
    have h0 : xs = [] := C_none hC
    subst h0
    exact ⟨none, 0, rfl, (M).nilrow kW 26⟩
  · refine sg 1 [0, 4] [(0, .slice (some ad) xs.length c), (4, .bool false)] ?_
    refine to_end rfl (tn_code (tc_cond_f (fun _ => rfl) (tc_skip (tn_code (tc_seq (tc_region ?_))))))
    refine bsF M 5 kW 26 ([] : List Int) #[] (Reps.none _ _) (Nat.le_of_ble_eq_true rfl) fun b1 w2 M3 => ?_
    refine sg 1 [5, 6] [(5, .slice (some ⟨b1, 0, none⟩) 0 0), (6, .slice (some ad) xs.length c)] ?_
    refine apC (z := .int .u64 0) (bytes := 8) (c := c) M3 7 flatW (C_up M3 hC) Try.underlying25 ?_ fun A4 c5 w6 M7 => ?_
    · simp only [List.length_nil]; omega
    refine sg 1 [2] [(2, .slice A4 ([] ++ xs).length c5)] ?_
    refine to_end rfl (tn_code (tc_ret ?_))
    refine tr_tmp rfl rfl ?_
    exact ⟨_, _, rfl, M7⟩
end Go.Proofs.Ytfknhbgghpbkpaa
