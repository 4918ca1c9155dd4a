/- Layer 13, the program: own, put, drop, patch. -/
import Derived.Test.YtfknhbgghpbkpaaArN
namespace Go.Proofs.Ytfknhbgghpbkpaa
open Go.RowKit Cal Go.Proofs.YtfknhbgghpbkpaaW.PrintWords
theorem own13_any (cap : Int) (l : List Blk) (A : Option Addr) (c : Nat) (w : World) (hC : kBlk.C w A l.length l) (hsm : ∀ j, (l.getD j Blk.z).w.length ≤ 1000000) (hlm : l.length ≤ 1000000) : Calls Try.prog 73 #[.agg #[.int .i64 cap, .slice A l.length c]] w fun e w' => ∃ A' c' vs, e = .returned (.agg #[.int .i64 cap, .slice A' l.length c']) ∧ Mem w w' [row (kRawG 2) 103 (.slice A' vs.length c') vs, star (codesG SB vs l)] ∧ rawGOk SB vs l := by
  have M := Mem.refl w
  have hmx := C_max hC
  obtain ⟨vs0, hvl0, hvC0, hvr0⟩ := raw_ofG (S := SB) hC
  refine calls_tc (N := 27) (args := [.agg #[.int .i64 cap, .slice A l.length c]]) Try.func73 rfl rfl rfl ?_
  refine tc_seq (tc_region ?_)
  refine nw M 1 #[.int .i64 cap, .slice A l.length c] 24 fun b1 w2 M3 => ?_
  refine nw M3 2 #[.int .i64 0, .slice none 0 0] 24 fun b4 w5 M6 => ?_
  refine to_end rfl (tn_code (tc_seq (tc_region ?_)))
  refine sg 1 [1, 2, 5] [(1, .pointer (some ⟨b1, 0, none⟩)), (2, .pointer (some ⟨b4, 0, none⟩)), (5, .pointer (some ⟨b1, 1, none⟩))] ?_
  refine ld M6 1 6 (.slice A l.length c) ?_
  have hcl7 := clone_rawb A c vs0 w5 (C_up M6 hvC0) (by omega)
  rw [hvl0] at hcl7
  refine ce 7 hcl7 fun e8 w9 h10 => ?_
  obtain ⟨A11, c12, rfl, hM13⟩ := h10
  have M14 := M6.join hM13
  refine ⟨_, rfl, ?_⟩
  refine sg 1 [1, 2, 7, 8] [(1, .pointer (some ⟨b1, 0, none⟩)), (2, .pointer (some ⟨b4, 0, none⟩)), (7, .slice A11 l.length c12), (8, .pointer (some ⟨b1, 1, none⟩))] ?_
  refine st M14 2 #[.int .i64 cap, .slice A11 l.length c12] fun w15 M16 => ?_
  refine to_end rfl (tn_code (tc_seq (tc_seq (tc_region ?_))))
  refine sg 1 [1, 2, 9] [(1, .pointer (some ⟨b1, 0, none⟩)), (2, .pointer (some ⟨b4, 0, none⟩)), (9, .pointer (some ⟨b1, 1, none⟩))] ?_
  refine ld M16 2 10 (.slice A11 l.length c12) ?_
  refine sg 2 [1, 2, 10, 11, 12] [(1, .pointer (some ⟨b1, 0, none⟩)), (2, .pointer (some ⟨b4, 0, none⟩)), (10, .slice A11 l.length c12), (11, .int .i64 (l.length : Int)), (12, .int .i64 0)] ?_
  refine to_end rfl (tn_code (tc_block ?_))
  have M17 := Mem.star (A := codesG SB (List.take 0 vs0) (List.take 0 l)) M16
  refine tc_loop (σ := Nat × List RawG) (fun s_ => match s_ with | (k18, us19) => [(1, .pointer (some ⟨b1, 0, none⟩)), (2, .pointer (some ⟨b4, 0, none⟩)), (10, .slice A11 l.length c12), (11, .int .i64 (l.length : Int)), (12, .int .i64 (k18 : Int))]) (fun s_ w' => match s_ with | (k18, us19) => (OwnI l vs0 us19 k18) ∧ Mem w w' ([star (codesG SB (List.take k18 us19) (List.take k18 l)), row (kRawG 2) 103 (.slice A11 l.length c12) us19, blk b4 #[.int .i64 0, .slice none 0 0] 24, blk b1 #[.int .i64 cap, .slice A11 l.length c12] 24])) (fun s_ => match s_ with | (k18, us19) => l.length - k18) (0, vs0) (Sub.cons rfl (Sub.cons rfl (Sub.cons rfl (Sub.cons rfl (Sub.cons rfl (Sub.nil _)))))) ⟨⟨Nat.zero_le _, raw_ok hvl0 hvr0, fun _ _ _ => rfl⟩, M17⟩ ?_
  rintro ⟨k18, us19⟩ w23 ⟨hi25, M24⟩
  have hq1 := hi25
  have hul := hq1.ok.1
  have hqle := hq1.le
  refine tc_seq (tc_region ?_)
  refine sg 1 [1, 2, 10, 11, 12, 13] [(1, .pointer (some ⟨b1, 0, none⟩)), (2, .pointer (some ⟨b4, 0, none⟩)), (10, .slice A11 l.length c12), (11, .int .i64 (l.length : Int)), (12, .int .i64 (k18 : Int)), (13, .bool (decide ((k18 : Int) < (l.length : Int))))] ?_
  refine to_end rfl (tn_code (tc_seq ?_))
  refine tc_cond (b := decide ((k18 : Int) < (l.length : Int))) (fun _ => rfl) (fun h26 => ?_) (fun h26 => ?_)
  · have h26p := of_decide_eq_true h26
    refine tc_skip (tn_code (tc_seq (tc_block (tc_seq (tc_region ?_)))))
    refine sg 1 [1, 2, 10, 11, 12, 14] [(1, .pointer (some ⟨b1, 0, none⟩)), (2, .pointer (some ⟨b4, 0, none⟩)), (10, .slice A11 l.length c12), (11, .int .i64 (l.length : Int)), (12, .int .i64 (k18 : Int)), (14, .int .i64 (k18 : Int))] ?_
    obtain ⟨ad27, rfl⟩ := C_some (M24.row_C 1 rfl) (k := k18) (by omega)
    refine ix (ad := ad27) (n := l.length) (c := c12) 15 k18 3 (by omega) Try.underlying22 ?_
    obtain ⟨A28, c29, hv30⟩ := raw_at hq1.ok (j := k18) (by omega)
    have ho31 := own_C hv30 (hq1.rest k18 (Nat.le_refl _) (by omega)) (hvr0 k18 (by omega))
    have hsmk := hsm k18
    obtain ⟨cs32, hk33, hc34⟩ := C_cell (M24.row_C 1 rfl) rawG0 k18 (by omega)
    rw [hv30] at hk33
    obtain ⟨rfl, _, _⟩ := hk33
    refine lea 16 #[.int .i64 (l.getD k18 Blk.z).id, .int .i64 (l.getD k18 Blk.z).pos, .slice A28 (l.getD k18 Blk.z).w.length c29] hc34 (hu := Try.underlying103) ?_
    refine nw M24 4 #[.int .i64 0, .int .i64 0, .slice none 0 0] 103 fun b35 w36 M37 => ?_
    refine sg 1 [1, 2, 10, 11, 12, 16, 4, 3] [(1, .pointer (some ⟨b1, 0, none⟩)), (2, .pointer (some ⟨b4, 0, none⟩)), (10, .slice (some ad27) l.length c12), (11, .int .i64 (l.length : Int)), (12, .int .i64 (k18 : Int)), (16, .agg #[.int .i64 (l.getD k18 Blk.z).id, .int .i64 (l.getD k18 Blk.z).pos, .slice A28 (l.getD k18 Blk.z).w.length c29]), (4, .pointer (some ⟨b35, 0, none⟩)), (3, .int .i64 (k18 : Int))] ?_
    refine sa M37 0 #[.int .i64 (l.getD k18 Blk.z).id, .int .i64 (l.getD k18 Blk.z).pos, .slice A28 (l.getD k18 Blk.z).w.length c29] fun w38 M39 => ?_
    refine to_end rfl (tn_code ?_)
    refine tc_drawL (fun w' => Mem w w' ([blk b35 #[.int .i64 (l.getD k18 Blk.z).id, .int .i64 (l.getD k18 Blk.z).pos, .slice A28 (l.getD k18 Blk.z).w.length c29] 103, star (codesG SB (List.take k18 us19) (List.take k18 l)), row (kRawG 2) 103 (.slice (some ad27) l.length c12) us19, blk b4 #[.int .i64 0, .slice none 0 0] 24, blk b1 #[.int .i64 cap, .slice (some ad27) l.length c12] 24])) [8] (by kernel_rfl) ?_
    have M41 := M39.draw
    refine ty_take 0 17 (.pointer (some ⟨b1, 1, none⟩)) (pok_cont pok_body) ?_ M41 (fun _ _ _ => by kernel_rfl)
    refine ty_take 1 18 (.slice (some ad27) l.length c12) (pok_cont pok_body) ?_ M41 (fun _ M' _ => rl M' 4)
    refine ty_take 2 19 (.int .i64 (k18 : Int)) (pok_cont pok_body) ?_ M41 (fun _ _ _ => by kernel_rfl)
    refine ty_take 3 20 (.pointer (some ⟨b35, 2, none⟩)) (pok_cont pok_body) ?_ M41 (fun _ _ _ => by kernel_rfl)
    refine ty_take 4 21 (.slice A28 (l.getD k18 Blk.z).w.length c29) (pok_cont pok_body) ?_ M41 (fun _ M' _ => rl M' 0)
    refine ty_all (rs := [5]) (te_one ?_)
    refine te_ce 22 (clone_w A28 c29 (l.getD k18 Blk.z).w _ (C_up M41 ho31.1) (by omega)) fun e45 w46 h47 => ?_
    obtain ⟨A42, c43, rfl, hM44⟩ := h47
    have M48 := M41.join hM44
    refine ⟨_, rfl, fun _ _ => (M48.drop 0), ?_⟩
    refine ty_take 6 23 (.pointer (some (ad27.add (k18 * 3)))) (pok_cont pok_body) ?_ (M48.drop 0) (fun _ _ _ => ri (ad := ad27) (n := l.length) (c := c12) k18 3 (by omega) Try.underlying22)
    refine ty_take 7 24 (.pointer (some ((ad27.add (k18 * 3)).add 2))) (pok_cont pok_body) ?_ (M48.drop 0) (fun _ _ _ => by kernel_rfl)
    refine ty_all (rs := [8]) (te_one ?_)
    have M49 := M48.flat (d := kRawG 2) (x := (([.int .i64 (l.getD k18 Blk.z).id, .int .i64 (l.getD k18 Blk.z).pos], A42, (l.getD k18 Blk.z).w.length, c43) : RawG)) (cs := [.int .i64 (l.getD k18 Blk.z).id, .int .i64 (l.getD k18 Blk.z).pos, .slice A42 (l.getD k18 Blk.z).w.length c43]) (rawB_M _ _ _ _ _ _)
    have M52 := M49.front 4 rfl
    refine te_rset1 (x := (([.int .i64 (l.getD k18 Blk.z).id, .int .i64 (l.getD k18 Blk.z).pos], A42, (l.getD k18 Blk.z).w.length, c43) : RawG)) (v := (.slice A42 (l.getD k18 Blk.z).w.length c43)) M52 rawG0 k18 2 (by omega) (by decide) (fun cs hc => by rw [hv30] at hc; obtain ⟨rfl, _, _⟩ := hc; rfl) (fun _ _ h_ _ => absurd (by decide) h_) fun w50 M51 => ?_
    refine ty_endL ?_
    refine tn_blk (tn_code (tc_region ?_))
    refine sg 2 [1, 2, 10, 11, 12] [(1, .pointer (some ⟨b1, 0, none⟩)), (2, .pointer (some ⟨b4, 0, none⟩)), (10, .slice (some ad27) l.length c12), (11, .int .i64 (l.length : Int)), (12, .int .i64 (IntKind.wrap .i64 ((k18 : Int) + 1)))] ?_
    rw [show IntKind.wrap .i64 ((k18 : Int) + 1) = (((k18 + 1) : Nat) : Int) from wr_nat k18 1 (by omega)]
    refine to_end rfl ?_
    have M53 := M51.front 1 rfl
    have M54 := M53.front 3 rfl
    have M55 := codesG_more (S := SB) (v := (([.int .i64 (l.getD k18 Blk.z).id, .int .i64 (l.getD k18 Blk.z).pos], A42, (l.getD k18 Blk.z).w.length, c43) : RawG)) (f := (l.getD k18 Blk.z)) (by simp only [List.length_take]; omega) M54
    rw [← take_step Blk.z l (by omega), ← set_take (us := us19) (v := (([.int .i64 (l.getD k18 Blk.z).id, .int .i64 (l.getD k18 Blk.z).pos], A42, (l.getD k18 Blk.z).w.length, c43) : RawG)) (by omega)] at M55
    have M56 := M55.drop 2
    exact tn_back (s := (k18, us19)) (k18 + 1, us19.set k18 (([.int .i64 (l.getD k18 Blk.z).id, .int .i64 (l.getD k18 Blk.z).pos], A42, (l.getD k18 Blk.z).w.length, c43) : RawG)) (Sub.cons rfl (Sub.cons rfl (Sub.cons rfl (Sub.cons rfl (Sub.cons rfl (Sub.nil _)))))) ⟨owni_step hq1 (by omega) rfl rfl, M56⟩ (by simp only; omega)
  · have h26p := of_decide_eq_false h26
    refine tc_exitK (k' := _) rfl (tn_code (tc_seq (tc_region ?_)))
    refine la M24 3 26 #[.int .i64 cap, .slice A11 l.length c12] (hu := Try.underlying24) ?_
    refine sa M24 2 #[.int .i64 cap, .slice A11 l.length c12] fun w57 M58 => ?_
    refine to_end rfl (tn_code (tc_ret ?_))
    refine tr_cell M58 2 rfl rfl rfl Try.underlying24 rfl (by kernel_rfl) ?_
    have M60 := M58.drop 3
    have M61 := M60.drop 2
    have M62 := M61.front 1 rfl
    have hM := M62
    rw [List.take_of_length_le (show l.length ≤ k18 by omega), List.take_of_length_le (show us19.length ≤ k18 by omega)] at hM
    rw [← hul] at hM
    exact ⟨_, _, us19, by rw [← hul], hM, hq1.ok⟩

theorem patch_any (cap : Int) (l : List Blk) (A : Option Addr) (c : Nat) (a v : Int) (w : World) (hC : kBlk.C w A l.length l) (hcl : l.length ≤ c) (hsm : ∀ j, (l.getD j Blk.z).w.length ≤ 1000000) (hlm : l.length ≤ 1000000) (ha : I64 a) : Calls Try.prog 25 #[.agg #[.int .i64 cap, .slice A l.length c], .int .i64 a, .int .u64 v] w fun e w' => ∃ A' c', e = .returned (.tuple #[.agg #[.int .i64 (patchM cap l a v).1.1, .slice A' (patchM cap l a v).1.2.length c'], .int .i64 (patchM cap l a v).2]) ∧ Mem w w' [rdE kBlk A' (patchM cap l a v).1.2] ∧ (patchM cap l a v).1.2.length ≤ c' := by
  have M := Mem.refl w
  have hmx := C_max hC
  obtain ⟨ha0, ha1⟩ := id ha
  refine calls_tc (N := 37) (args := [.agg #[.int .i64 cap, .slice A l.length c], .int .i64 a, .int .u64 v]) Try.func25 rfl rfl rfl ?_
  refine tc_seq (tc_region ?_)
  refine nw M 3 #[.int .i64 cap, .slice A l.length c] 24 fun b1 w2 M3 => ?_
  refine nw M3 6 #[.int .i64 0, .slice none 0 0] 24 fun b4 w5 M6 => ?_
  refine sg 1 [1, 2, 3, 6] [(1, .int .i64 a), (2, .int .u64 v), (3, .pointer (some ⟨b1, 0, none⟩)), (6, .pointer (some ⟨b4, 0, none⟩))] ?_
  refine to_end rfl (tn_code (tc_seq (tc_region ?_)))
  refine la M6 1 11 #[.int .i64 cap, .slice A l.length c] (hu := Try.underlying24) ?_
  refine sg 1 [2, 3, 6, 11, 12] [(2, .int .u64 v), (3, .pointer (some ⟨b1, 0, none⟩)), (6, .pointer (some ⟨b4, 0, none⟩)), (11, .agg #[.int .i64 cap, .slice A l.length c]), (12, .int .i64 a)] ?_
  refine ce 13 (word_c cap l A c a _ (C_up M6 hC) ha) fun e7 w8 h9 => ?_
  obtain ⟨i10, q11, rfl, hb14, hc12⟩ := h9
  have M13 := M6.call hb14
  refine ⟨_, rfl, ?_⟩
  rcases hc12 with hm | ⟨hm, ho, rfl, rfl⟩ | ⟨n, q, hm, rfl, rfl, hw⟩
  · refine sg 5 [2, 3, 6, 8, 9] [(2, .int .u64 v), (3, .pointer (some ⟨b1, 0, none⟩)), (6, .pointer (some ⟨b4, 0, none⟩)), (8, .int .i64 i10), (9, .int .i64 q11)] ?_
    refine to_end rfl (tn_code (tc_seq (tc_block (tc_seq (tc_region ?_)))))
    refine la M13 1 17 #[.int .i64 cap, .slice A l.length c] (hu := Try.underlying24) ?_
    refine cb M13 18 (may13_any cap l A c _ (C_up M13 hC) hsm) fun w15 hb17 M16 => ?_
    refine sg 2 [2, 3, 6, 8, 9, 16] [(2, .int .u64 v), (3, .pointer (some ⟨b1, 0, none⟩)), (6, .pointer (some ⟨b4, 0, none⟩)), (8, .int .i64 i10), (9, .int .i64 q11), (16, .bool (!(mMay cap l)))] ?_
    refine to_end rfl (tn_code ?_)
    rw [hm]
    refine tc_cond_t (fun _ => rfl) (tc_seq (tc_region ?_))
    refine sg 1 [6, 20] [(6, .pointer (some ⟨b4, 0, none⟩)), (20, .agg #[.int .i64 0, .slice none 0 0])] ?_
    refine sa M16 0 #[.int .i64 0, .slice none 0 0] fun w18 M19 => ?_
    refine sg 1 [6, 7] [(6, .pointer (some ⟨b4, 0, none⟩)), (7, .int .i64 1)] ?_
    refine to_end rfl (tn_code (tc_ret ?_))
    refine tr_cell_tmp M19 0 rfl rfl rfl rfl Try.underlying24 rfl (by kernel_rfl) ?_
    have he20 : patchM cap l a v = ((0, []), 1) := patch_no hm
    have M21 := ((((M19.drop 1).drop 0)).nilrow kBlk 103).rd_row
    rw [he20]
    exact ⟨none, 0, rfl, M21, Nat.le_refl _⟩
  · refine sg 5 [2, 3, 6, 8, 9] [(2, .int .u64 v), (3, .pointer (some ⟨b1, 0, none⟩)), (6, .pointer (some ⟨b4, 0, none⟩)), (8, .int .i64 (-1)), (9, .int .i64 0)] ?_
    refine to_end rfl (tn_code (tc_seq (tc_block (tc_seq (tc_region ?_)))))
    refine la M13 1 17 #[.int .i64 cap, .slice A l.length c] (hu := Try.underlying24) ?_
    refine cb M13 18 (may13_any cap l A c _ (C_up M13 hC) hsm) fun w22 hb24 M23 => ?_
    refine sg 2 [2, 3, 6, 8, 9, 16] [(2, .int .u64 v), (3, .pointer (some ⟨b1, 0, none⟩)), (6, .pointer (some ⟨b4, 0, none⟩)), (8, .int .i64 (-1)), (9, .int .i64 0), (16, .bool (!(mMay cap l)))] ?_
    refine to_end rfl (tn_code ?_)
    rw [hm]
    refine tc_cond_f (fun _ => rfl) (tc_seq (tc_region ?_))
    refine sg 3 [2, 3, 6, 8, 9, 21] [(2, .int .u64 v), (3, .pointer (some ⟨b1, 0, none⟩)), (6, .pointer (some ⟨b4, 0, none⟩)), (8, .int .i64 (-1)), (9, .int .i64 0), (21, .bool true)] ?_
    refine to_end rfl (tn_code (tc_cond_t (fun _ => rfl) (tc_seq (tc_region ?_))))
    refine sg 1 [6, 24] [(6, .pointer (some ⟨b4, 0, none⟩)), (24, .agg #[.int .i64 0, .slice none 0 0])] ?_
    refine sa M23 0 #[.int .i64 0, .slice none 0 0] fun w25 M26 => ?_
    refine sg 1 [6, 7] [(6, .pointer (some ⟨b4, 0, none⟩)), (7, .int .i64 3)] ?_
    refine to_end rfl (tn_code (tc_ret ?_))
    refine tr_cell_tmp M26 0 rfl rfl rfl rfl Try.underlying24 rfl (by kernel_rfl) ?_
    have he27 : patchM cap l a v = ((0, []), 3) := patch_out hm ho
    have M28 := ((((M26.drop 1).drop 0)).nilrow kBlk 103).rd_row
    rw [he27]
    exact ⟨none, 0, rfl, M28, Nat.le_refl _⟩
  · obtain ⟨hwn, hwq, hwa, hwo⟩ := hw
    have hsn := hsm n
    refine sg 5 [2, 3, 6, 8, 9] [(2, .int .u64 v), (3, .pointer (some ⟨b1, 0, none⟩)), (6, .pointer (some ⟨b4, 0, none⟩)), (8, .int .i64 (n : Int)), (9, .int .i64 (q : Int))] ?_
    refine to_end rfl (tn_code (tc_seq (tc_block (tc_seq (tc_region ?_)))))
    refine la M13 1 17 #[.int .i64 cap, .slice A l.length c] (hu := Try.underlying24) ?_
    refine cb M13 18 (may13_any cap l A c _ (C_up M13 hC) hsm) fun w29 hb31 M30 => ?_
    refine sg 2 [2, 3, 6, 8, 9, 16] [(2, .int .u64 v), (3, .pointer (some ⟨b1, 0, none⟩)), (6, .pointer (some ⟨b4, 0, none⟩)), (8, .int .i64 (n : Int)), (9, .int .i64 (q : Int)), (16, .bool (!(mMay cap l)))] ?_
    refine to_end rfl (tn_code ?_)
    rw [hm]
    refine tc_cond_f (fun _ => rfl) (tc_seq (tc_region ?_))
    refine sg 3 [2, 3, 6, 8, 9, 21] [(2, .int .u64 v), (3, .pointer (some ⟨b1, 0, none⟩)), (6, .pointer (some ⟨b4, 0, none⟩)), (8, .int .i64 (n : Int)), (9, .int .i64 (q : Int)), (21, .bool (decide ((n : Int) < 0)))] ?_
    refine to_end rfl (tn_code ?_)
    have ht32 : (decide ((n : Int) < 0) : Bool) = false := decide_eq_false (by omega)
    have ht32p := of_decide_eq_false ht32
    rw [ht32]
    refine tc_cond_f (fun _ => rfl) (tc_skip (tn_blk (tn_code (tc_seq (tc_region ?_)))))
    refine la M30 1 25 #[.int .i64 cap, .slice A l.length c] (hu := Try.underlying24) ?_
    refine ce 26 (own13_any cap l A c _ (C_up M30 hC) hsm hlm) fun e39 w40 h41 => ?_
    obtain ⟨A33, c34, vs35, rfl, hM36, hok37⟩ := h41
    rw [hok37.1] at hM36
    have hvl := hok37.1
    have M38 := M30.join hM36
    have hvn : vs35.length = l.length := hok37.1
    refine ⟨_, rfl, ?_⟩
    refine sa M38 3 #[.int .i64 cap, .slice A33 l.length c34] fun w42 M43 => ?_
    refine to_end rfl (tn_code (tc_seq (tc_region ?_)))
    refine sg 1 [2, 3, 6, 8, 9, 27] [(2, .int .u64 v), (3, .pointer (some ⟨b1, 0, none⟩)), (6, .pointer (some ⟨b4, 0, none⟩)), (8, .int .i64 (n : Int)), (9, .int .i64 (q : Int)), (27, .pointer (some ⟨b1, 1, none⟩))] ?_
    refine ld M43 3 28 (.slice A33 l.length c34) ?_
    refine sg 1 [2, 3, 6, 9, 28, 29] [(2, .int .u64 v), (3, .pointer (some ⟨b1, 0, none⟩)), (6, .pointer (some ⟨b4, 0, none⟩)), (9, .int .i64 (q : Int)), (28, .slice A33 l.length c34), (29, .int .i64 (n : Int))] ?_
    obtain ⟨ad44, rfl⟩ := C_some (M43.row_C 0 rfl) (k := n) (by omega)
    refine ix (ad := ad44) (n := l.length) (c := c34) 30 n 3 (by omega) Try.underlying22 ?_
    refine sg 1 [2, 3, 6, 9, 31] [(2, .int .u64 v), (3, .pointer (some ⟨b1, 0, none⟩)), (6, .pointer (some ⟨b4, 0, none⟩)), (9, .int .i64 (q : Int)), (31, .pointer (some ((ad44.add (n * 3)).add 2)))] ?_
    obtain ⟨A45, c46, hv47⟩ := raw_at hok37 (j := n) (by omega)
    obtain ⟨cs48, hk49, hc50⟩ := C_cell (M43.row_C 0 rfl) rawG0 n (by rw [hvn]; omega)
    rw [hv47] at hk49
    obtain ⟨rfl, _, _⟩ := hk49
    refine le 32 (.slice A45 (l.getD n Blk.z).w.length c46) (hc50 2 _ rfl) ?_
    refine sg 2 [3, 6, 32, 33, 34] [(3, .pointer (some ⟨b1, 0, none⟩)), (6, .pointer (some ⟨b4, 0, none⟩)), (32, .slice A45 (l.getD n Blk.z).w.length c46), (33, .int .i64 (q : Int)), (34, .int .u64 v)] ?_
    obtain ⟨ad54, rfl⟩ := C_some (codeB_C hok37 (by omega) hv47 ((((M43.drop 3).drop 2).drop 0))).1 (k := q) (by omega)
    refine ix (ad := ad54) (n := (l.getD n Blk.z).w.length) (c := c46) 35 q 1 (by omega) Try.underlying25 ?_
    have M55 := M43.front 1 rfl
    refine csetG M55 v n q hok37 (by omega) (by omega) hv47 fun w56 M57 => ?_
    refine to_end rfl (tn_code (tc_seq (tc_region ?_)))
    refine la M57 3 36 #[.int .i64 cap, .slice (some ad44) l.length c34] (hu := Try.underlying24) ?_
    refine sa M57 2 #[.int .i64 cap, .slice (some ad44) l.length c34] fun w58 M59 => ?_
    refine sg 1 [6, 7] [(6, .pointer (some ⟨b4, 0, none⟩)), (7, .int .i64 0)] ?_
    refine to_end rfl (tn_code (tc_ret ?_))
    refine tr_cell_tmp M59 2 rfl rfl rfl rfl Try.underlying24 rfl (by kernel_rfl) ?_
    have M60 := M59.drop 3
    have M61 := M60.drop 2
    have M62 := M61.front 1 rfl
    have he := patch_at (v := v) hm ⟨hwn, hwq, hwa, hwo⟩
    rw [he]
    have M63 := Mem.rd_apart (setW_ok n q v hok37) M62
    have hcc := M62.row_cap 0 rfl
    exact ⟨_, _, by simp only [setW_len]; rfl, M63, by simp only [setW_len]; omega⟩

theorem drop_any (cap : Int) (l : List Blk) (A : Option Addr) (c : Nat) (id : Int) (w : World) (hC : kBlk.C w A l.length l) (hcl : l.length ≤ c) (hsm : ∀ j, (l.getD j Blk.z).w.length ≤ 1000000) (hlm : l.length ≤ 1000000) : Calls Try.prog 21 #[.agg #[.int .i64 cap, .slice A l.length c], .int .i64 id] w fun e w' => ∃ A' c', e = .returned (.tuple #[.agg #[.int .i64 (dropM cap l id).1.1, .slice A' (dropM cap l id).1.2.length c'], .int .i64 (dropM cap l id).2]) ∧ Mem w w' [rdE kBlk A' (dropM cap l id).1.2] ∧ (dropM cap l id).1.2.length ≤ c' := by
  have M := Mem.refl w
  have hmx := C_max hC
  refine calls_tc (N := 34) (args := [.agg #[.int .i64 cap, .slice A l.length c], .int .i64 id]) Try.func21 rfl rfl rfl ?_
  refine tc_seq (tc_region ?_)
  refine nw M 2 #[.int .i64 cap, .slice A l.length c] 24 fun b1 w2 M3 => ?_
  refine nw M3 4 #[.int .i64 0, .slice none 0 0] 24 fun b4 w5 M6 => ?_
  refine sg 1 [1, 2, 4] [(1, .int .i64 id), (2, .pointer (some ⟨b1, 0, none⟩)), (4, .pointer (some ⟨b4, 0, none⟩))] ?_
  refine to_end rfl (tn_code (tc_seq (tc_region ?_)))
  refine la M6 1 7 #[.int .i64 cap, .slice A l.length c] (hu := Try.underlying24) ?_
  refine sg 1 [2, 4, 7, 8] [(2, .pointer (some ⟨b1, 0, none⟩)), (4, .pointer (some ⟨b4, 0, none⟩)), (7, .agg #[.int .i64 cap, .slice A l.length c]), (8, .int .i64 id)] ?_
  have hs7 := at_any cap l A c id w5 (C_up M6 hC)
  rcases idM_cases l id with ho | ⟨n, ho, hwn⟩
  · rw [ho] at hs7
    refine cb M6 9 hs7 fun w8 hb10 M9 => ?_
    refine sg 1 [2, 4, 6] [(2, .pointer (some ⟨b1, 0, none⟩)), (4, .pointer (some ⟨b4, 0, none⟩)), (6, .int .i64 (-1))] ?_
    refine to_end rfl (tn_code (tc_seq (tc_block (tc_seq (tc_region ?_)))))
    refine la M9 1 11 #[.int .i64 cap, .slice A l.length c] (hu := Try.underlying24) ?_
    refine cb M9 12 (may13_any cap l A c _ (C_up M9 hC) hsm) fun w11 hb13 M12 => ?_
    refine sg 2 [2, 4, 6, 10] [(2, .pointer (some ⟨b1, 0, none⟩)), (4, .pointer (some ⟨b4, 0, none⟩)), (6, .int .i64 (-1)), (10, .bool (!(mMay cap l)))] ?_
    refine to_end rfl (tn_code ?_)
    rcases h14 : (mMay cap l : Bool) with _ | _
    · refine tc_cond_t (fun _ => rfl) (tc_seq (tc_region ?_))
      refine sg 1 [4, 14] [(4, .pointer (some ⟨b4, 0, none⟩)), (14, .agg #[.int .i64 0, .slice none 0 0])] ?_
      refine sa M12 0 #[.int .i64 0, .slice none 0 0] fun w15 M16 => ?_
      refine sg 1 [4, 5] [(4, .pointer (some ⟨b4, 0, none⟩)), (5, .int .i64 1)] ?_
      refine to_end rfl (tn_code (tc_ret ?_))
      refine tr_cell_tmp M16 0 rfl rfl rfl rfl Try.underlying24 rfl (by kernel_rfl) ?_
      have he17 : dropM cap l id = ((0, []), 1) := drop_no h14
      have M18 := ((((M16.drop 1).drop 0)).nilrow kBlk 103).rd_row
      rw [he17]
      exact ⟨none, 0, rfl, M18, Nat.le_refl _⟩
    · refine tc_cond_f (fun _ => rfl) (tc_seq (tc_region ?_))
      refine sg 3 [2, 4, 6, 15] [(2, .pointer (some ⟨b1, 0, none⟩)), (4, .pointer (some ⟨b4, 0, none⟩)), (6, .int .i64 (-1)), (15, .bool true)] ?_
      refine to_end rfl (tn_code (tc_cond_t (fun _ => rfl) (tc_seq (tc_region ?_))))
      refine sg 1 [4, 18] [(4, .pointer (some ⟨b4, 0, none⟩)), (18, .agg #[.int .i64 0, .slice none 0 0])] ?_
      refine sa M12 0 #[.int .i64 0, .slice none 0 0] fun w19 M20 => ?_
      refine sg 1 [4, 5] [(4, .pointer (some ⟨b4, 0, none⟩)), (5, .int .i64 3)] ?_
      refine to_end rfl (tn_code (tc_ret ?_))
      refine tr_cell_tmp M20 0 rfl rfl rfl rfl Try.underlying24 rfl (by kernel_rfl) ?_
      have he21 : dropM cap l id = ((0, []), 3) := drop_out h14 ho
      have M22 := ((((M20.drop 1).drop 0)).nilrow kBlk 103).rd_row
      rw [he21]
      exact ⟨none, 0, rfl, M22, Nat.le_refl _⟩
  · rw [ho] at hs7
    refine cb M6 9 hs7 fun w23 hb25 M24 => ?_
    refine sg 1 [2, 4, 6] [(2, .pointer (some ⟨b1, 0, none⟩)), (4, .pointer (some ⟨b4, 0, none⟩)), (6, .int .i64 (n : Int))] ?_
    refine to_end rfl (tn_code (tc_seq (tc_block (tc_seq (tc_region ?_)))))
    refine la M24 1 11 #[.int .i64 cap, .slice A l.length c] (hu := Try.underlying24) ?_
    refine cb M24 12 (may13_any cap l A c _ (C_up M24 hC) hsm) fun w26 hb28 M27 => ?_
    refine sg 2 [2, 4, 6, 10] [(2, .pointer (some ⟨b1, 0, none⟩)), (4, .pointer (some ⟨b4, 0, none⟩)), (6, .int .i64 (n : Int)), (10, .bool (!(mMay cap l)))] ?_
    refine to_end rfl (tn_code ?_)
    rcases h29 : (mMay cap l : Bool) with _ | _
    · refine tc_cond_t (fun _ => rfl) (tc_seq (tc_region ?_))
      refine sg 1 [4, 14] [(4, .pointer (some ⟨b4, 0, none⟩)), (14, .agg #[.int .i64 0, .slice none 0 0])] ?_
      refine sa M27 0 #[.int .i64 0, .slice none 0 0] fun w30 M31 => ?_
      refine sg 1 [4, 5] [(4, .pointer (some ⟨b4, 0, none⟩)), (5, .int .i64 1)] ?_
      refine to_end rfl (tn_code (tc_ret ?_))
      refine tr_cell_tmp M31 0 rfl rfl rfl rfl Try.underlying24 rfl (by kernel_rfl) ?_
      have he32 : dropM cap l id = ((0, []), 1) := drop_no h29
      have M33 := ((((M31.drop 1).drop 0)).nilrow kBlk 103).rd_row
      rw [he32]
      exact ⟨none, 0, rfl, M33, Nat.le_refl _⟩
    · refine tc_cond_f (fun _ => rfl) (tc_seq (tc_region ?_))
      refine sg 3 [2, 4, 6, 15] [(2, .pointer (some ⟨b1, 0, none⟩)), (4, .pointer (some ⟨b4, 0, none⟩)), (6, .int .i64 (n : Int)), (15, .bool (decide ((n : Int) < 0)))] ?_
      refine to_end rfl (tn_code ?_)
      have ht34 : (decide ((n : Int) < 0) : Bool) = false := decide_eq_false (by omega)
      have ht34p := of_decide_eq_false ht34
      rw [ht34]
      refine tc_cond_f (fun _ => rfl) (tc_skip (tn_blk (tn_code (tc_seq (tc_region ?_)))))
      refine la M27 1 19 #[.int .i64 cap, .slice A l.length c] (hu := Try.underlying24) ?_
      refine ce 20 (own13_any cap l A c _ (C_up M27 hC) hsm hlm) fun e41 w42 h43 => ?_
      obtain ⟨A35, c36, vs37, he44, hM38, hok39⟩ := h43
      rw [← hok39.1] at he44
      subst he44
      have hvn : vs37.length = l.length := hok39.1
      have M40 := M27.join hM38
      refine ⟨_, rfl, ?_⟩
      refine sa M40 3 #[.int .i64 cap, .slice A35 vs37.length c36] fun w45 M46 => ?_
      refine to_end rfl (tn_code (tc_seq ?_))
      refine tc_drawL (fun w' => Mem w w' ([star (codesG SB vs37 l), blk b4 #[.int .i64 0, .slice none 0 0] 24, blk b1 #[.int .i64 cap, .slice A35 vs37.length c36] 24])) [12] (by kernel_rfl) ?_
      have M50 := M46.draw
      refine ty_take 0 21 (.pointer (some ⟨b1, 1, none⟩)) (pok_cont pok_body) ?_ (M50.drop 0) (fun _ _ _ => by kernel_rfl)
      refine ty_take 1 22 (.slice A35 vs37.length c36) (pok_cont pok_body) ?_ (M50.drop 0) (fun _ M' _ => rl M' 2)
      refine ty_take 2 23 (.int .i64 (n : Int)) (pok_cont pok_body) ?_ (M50.drop 0) (fun _ _ _ => by kernel_rfl)
      refine ty_take 3 24 (.int .i64 (n : Int)) (pok_cont pok_body) ?_ (M50.drop 0) (fun _ _ _ => by kernel_rfl)
      obtain ⟨hr51, hA52⟩ := cut3 (P := Try.prog) (d := (kRawG 2)) (xs := vs37) Try.underlying22 (by kernel_rfl) A35 vs37 c36 n (by omega) (M50.row_cap 0 rfl)
      refine ty_take 4 25 (.slice A35 (vs37.take n).length (vs37.take n).length) (pok_cont pok_body) ?_ (M50.drop 0) (fun w' _ _ => exec_slice3 rfl rfl rfl rfl (hr51 w'))
      refine ty_take 5 26 (.pointer (some ⟨b1, 1, none⟩)) (pok_cont pok_body) ?_ (M50.drop 0) (fun _ _ _ => by kernel_rfl)
      refine ty_take 6 27 (.slice A35 vs37.length c36) (pok_cont pok_body) ?_ (M50.drop 0) (fun _ M' _ => rl M' 2)
      refine ty_take 7 28 (.int .i64 (n : Int)) (pok_cont pok_body) ?_ (M50.drop 0) (fun _ _ _ => by kernel_rfl)
      refine ty_take 8 29 (.int .i64 (IntKind.wrap .i64 ((n : Int) + 1))) (pok_cont pok_body) ?_ (M50.drop 0) (fun _ _ _ => by kernel_rfl)
      rw [show IntKind.wrap .i64 ((n : Int) + 1) = (((n + 1) : Nat) : Int) from wr_nat n 1 (by omega)]
      obtain ⟨A53, hr54, hA55, hle56⟩ := cutf (P := Try.prog) (d := (kRawG 2)) Try.underlying22 (by kernel_rfl) A35 vs37 c36 (n + 1) .i64 (by omega) (M50.row_cap 0 rfl)
      refine ty_take 9 30 (.slice A53 (vs37.drop (n + 1)).length (c36 - (n + 1))) (pok_cont pok_body) ?_ (M50.drop 0) (fun w' _ _ => exec_slice rfl rfl rfl rfl (hr54 w'))
      refine ty_all (rs := [10]) (te_one ?_)
      have hD62 := hA55 _ (M50.row_C 0 rfl)
      refine te_apR (z := .agg #[.int .i64 0, .int .i64 0, .slice none 0 0]) (h := n) (c2 := (c36 - (n + 1))) M50 31 (flatRawG 2) (by omega) hD62 Try.underlying22 40 ?_ (fun _ _ _ M_ _ _ => (M_.drop 0)) fun A57 c58 w59 M60 hc61 => ?_
      · simp only [List.length_take, List.length_drop, List.length_append, List.length_cons, List.length_nil]; omega
      refine ty_take 11 32 (.pointer (some ⟨b1, 1, none⟩)) (pok_cont pok_body) ?_ (M60.drop 0) (fun _ _ _ => by kernel_rfl)
      refine ty_all (rs := [12]) (te_one ?_)
      refine te_st M60 3 #[.int .i64 cap, .slice A57 ((vs37.take n) ++ (vs37.drop (n + 1))).length c58] (fun _ _ h_ _ => absurd (by decide) h_) fun w63 M64 => ?_
      refine ty_endL ?_
      refine tn_code (tc_seq (tc_region ?_))
      refine la M64 3 33 #[.int .i64 cap, .slice A57 ((vs37.take n) ++ (vs37.drop (n + 1))).length c58] (hu := Try.underlying24) ?_
      refine sa M64 2 #[.int .i64 cap, .slice A57 ((vs37.take n) ++ (vs37.drop (n + 1))).length c58] fun w65 M66 => ?_
      refine sg 1 [4, 5] [(4, .pointer (some ⟨b4, 0, none⟩)), (5, .int .i64 0)] ?_
      refine to_end rfl (tn_code (tc_ret ?_))
      refine tr_cell_tmp M66 2 rfl rfl rfl rfl Try.underlying24 rfl (by kernel_rfl) ?_
      have M67 := M66.drop 3
      have M68 := M67.drop 2
      have he := drop_at h29 ho
      rw [he]
      have M69 := M68
      rw [take_drop_erase] at M69
      have M70 := Mem.rd_apartR (rawGOk_del n hok39) (codesG_del n hok39.1 M69.swap).swap
      have hcc := hc61
      rw [take_drop_erase] at hcc
      exact ⟨_, _, by rw [take_drop_erase, erase_len (by omega), hvn, ← erase_len (by omega)], M70, by rw [erase_len (by omega)] at hcc ⊢; omega⟩
end Go.Proofs.Ytfknhbgghpbkpaa
