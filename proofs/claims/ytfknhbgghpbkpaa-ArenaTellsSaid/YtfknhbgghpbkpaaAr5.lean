/- Layer 13, the document: put, drop, patch. -/
import Derived.Test.YtfknhbgghpbkpaaArM
namespace Go.Proofs.Ytfknhbgghpbkpaa
open Go.RowKit Cal Go.Proofs.YtfknhbgghpbkpaaW.PrintWords
theorem rpatch_any (cap : Int) (l : List Blk) (A : Option Addr) (c : Nat) (a v : Int) (w : World) (hC : kBlk.C w A l.length l) (hcl : l.length ≤ c) (hsm : ∀ j, (l.getD j Blk.z).w.length ≤ 1000000) (hlm : l.length ≤ 1000000) (ha : I64 a) : Calls Try.prog 26 #[.agg #[.int .i64 cap, .slice A l.length c], .int .i64 a, .int .u64 v] w fun e w' => ∃ A' c', e = .returned (.tuple #[.agg #[.int .i64 (patchM cap l a v).1.1, .slice A' (patchM cap l a v).1.2.length c'], .int .i64 (patchM cap l a v).2]) ∧ Mem w w' [rdE kBlk A' (patchM cap l a v).1.2] ∧ (patchM cap l a v).1.2.length ≤ c' := by
  have M := Mem.refl w
  have hmx := C_max hC
  obtain ⟨ha0, ha1⟩ := id ha
  refine calls_tc (N := 41) (args := [.agg #[.int .i64 cap, .slice A l.length c], .int .i64 a, .int .u64 v]) Try.func26 rfl rfl rfl ?_
  refine tc_seq (tc_region ?_)
  refine nw M 3 #[.int .i64 cap, .slice A l.length c] 24 fun b1 w2 M3 => ?_
  refine nw M3 6 #[.int .i64 0, .slice none 0 0] 24 fun b4 w5 M6 => ?_
  refine sg 1 [1, 2, 3, 6] [(1, .int .i64 a), (2, .int .u64 v), (3, .pointer (some ⟨b1, 0, none⟩)), (6, .pointer (some ⟨b4, 0, none⟩))] ?_
  refine to_end rfl (tn_code (tc_seq (tc_region ?_)))
  refine la M6 1 11 #[.int .i64 cap, .slice A l.length c] (hu := Try.underlying24) ?_
  refine cb M6 12 (rmay13_any cap l A c _ (C_up M6 hC) hsm) fun w7 hb9 M8 => ?_
  refine sg 1 [1, 2, 3, 6, 8] [(1, .int .i64 a), (2, .int .u64 v), (3, .pointer (some ⟨b1, 0, none⟩)), (6, .pointer (some ⟨b4, 0, none⟩)), (8, .bool (mMay cap l))] ?_
  refine to_end rfl (tn_code (tc_seq (tc_seq (tc_region ?_))))
  refine sg 2 [1, 2, 3, 6, 14] [(1, .int .i64 a), (2, .int .u64 v), (3, .pointer (some ⟨b1, 0, none⟩)), (6, .pointer (some ⟨b4, 0, none⟩)), (14, .bool (!(mMay cap l)))] ?_
  refine to_end rfl (tn_code ?_)
  rcases h10 : (mMay cap l : Bool) with _ | _
  · refine tc_cond_t (fun _ => rfl) (tc_seq (tc_region ?_))
    refine sg 1 [6, 15] [(6, .pointer (some ⟨b4, 0, none⟩)), (15, .agg #[.int .i64 0, .slice none 0 0])] ?_
    refine sa M8 0 #[.int .i64 0, .slice none 0 0] fun w11 M12 => ?_
    refine sg 1 [6, 7] [(6, .pointer (some ⟨b4, 0, none⟩)), (7, .int .i64 1)] ?_
    refine to_end rfl (tn_code (tc_ret ?_))
    refine tr_cell_tmp M12 0 rfl rfl rfl rfl Try.underlying24 rfl (by kernel_rfl) ?_
    have he13 : patchM cap l a v = ((0, []), 1) := patch_no h10
    have M14 := ((((M12.drop 1).drop 0)).nilrow kBlk 103).rd_row
    rw [he13]
    exact ⟨none, 0, rfl, M14, Nat.le_refl _⟩
  · refine tc_cond_f (fun _ => rfl) (tc_skip (tn_code (tc_seq (tc_region ?_))))
    refine la M8 1 16 #[.int .i64 cap, .slice A l.length c] (hu := Try.underlying24) ?_
    refine sg 1 [1, 2, 3, 6, 16, 17] [(1, .int .i64 a), (2, .int .u64 v), (3, .pointer (some ⟨b1, 0, none⟩)), (6, .pointer (some ⟨b4, 0, none⟩)), (16, .agg #[.int .i64 cap, .slice A l.length c]), (17, .int .i64 a)] ?_
    refine ce 18 (of_c cap l A c a _ (C_up M8 hC) ha) fun e15 w16 h17 => ?_
    obtain ⟨i18, q19, rfl, hb22, hc20⟩ := h17
    have M21 := M8.call hb22
    refine ⟨_, rfl, ?_⟩
    rcases hc20 with hm | ⟨hm, ho, rfl, rfl⟩ | ⟨n, q, hm, rfl, rfl, hw⟩
    · exact absurd hm (by rw [h10]; decide)
    · refine sg 1 [1, 2, 3, 6, 9] [(1, .int .i64 a), (2, .int .u64 v), (3, .pointer (some ⟨b1, 0, none⟩)), (6, .pointer (some ⟨b4, 0, none⟩)), (9, .int .i64 (-1))] ?_
      refine to_end rfl (tn_code (tc_seq (tc_seq (tc_region ?_))))
      refine sg 2 [1, 2, 3, 6, 9, 20] [(1, .int .i64 a), (2, .int .u64 v), (3, .pointer (some ⟨b1, 0, none⟩)), (6, .pointer (some ⟨b4, 0, none⟩)), (9, .int .i64 (-1)), (20, .bool true)] ?_
      refine to_end rfl (tn_code (tc_cond_t (fun _ => rfl) (tc_seq (tc_region ?_))))
      refine sg 1 [6, 21] [(6, .pointer (some ⟨b4, 0, none⟩)), (21, .agg #[.int .i64 0, .slice none 0 0])] ?_
      refine sa M21 0 #[.int .i64 0, .slice none 0 0] fun w23 M24 => ?_
      refine sg 1 [6, 7] [(6, .pointer (some ⟨b4, 0, none⟩)), (7, .int .i64 3)] ?_
      refine to_end rfl (tn_code (tc_ret ?_))
      refine tr_cell_tmp M24 0 rfl rfl rfl rfl Try.underlying24 rfl (by kernel_rfl) ?_
      have he25 : patchM cap l a v = ((0, []), 3) := patch_out hm ho
      have M26 := ((((M24.drop 1).drop 0)).nilrow kBlk 103).rd_row
      rw [he25]
      exact ⟨none, 0, rfl, M26, Nat.le_refl _⟩
    · obtain ⟨hwn, hwq, hwa, hwo⟩ := hw
      have hsn := hsm n
      refine sg 1 [1, 2, 3, 6, 9] [(1, .int .i64 a), (2, .int .u64 v), (3, .pointer (some ⟨b1, 0, none⟩)), (6, .pointer (some ⟨b4, 0, none⟩)), (9, .int .i64 (n : Int))] ?_
      refine to_end rfl (tn_code (tc_seq (tc_seq (tc_region ?_))))
      refine sg 2 [1, 2, 3, 6, 9, 20] [(1, .int .i64 a), (2, .int .u64 v), (3, .pointer (some ⟨b1, 0, none⟩)), (6, .pointer (some ⟨b4, 0, none⟩)), (9, .int .i64 (n : Int)), (20, .bool (decide ((n : Int) < 0)))] ?_
      refine to_end rfl (tn_code ?_)
      have ht27 : (decide ((n : Int) < 0) : Bool) = false := decide_eq_false (by omega)
      have ht27p := of_decide_eq_false ht27
      rw [ht27]
      refine tc_cond_f (fun _ => rfl) (tc_skip (tn_code (tc_seq (tc_region ?_))))
      refine la M21 1 22 #[.int .i64 cap, .slice A l.length c] (hu := Try.underlying24) ?_
      refine ce 23 (rown13_any cap l A c _ (C_up M21 hC) hsm hlm) fun e34 w35 h36 => ?_
      obtain ⟨A28, c29, vs30, rfl, hM31, hok32⟩ := h36
      rw [hok32.1] at hM31
      have hvl := hok32.1
      have M33 := M21.join hM31
      have hvn : vs30.length = l.length := hok32.1
      refine ⟨_, rfl, ?_⟩
      refine nw M33 10 #[.int .i64 0, .slice none 0 0] 24 fun b37 w38 M39 => ?_
      refine sa M39 0 #[.int .i64 cap, .slice A28 l.length c29] fun w40 M41 => ?_
      refine to_end rfl (tn_code (tc_seq ?_))
      refine tc_drawL (fun w' => Mem w w' ([blk b37 #[.int .i64 cap, .slice A28 l.length c29] 24, row (kRawG 2) 103 (.slice A28 l.length c29) vs30, star (codesG SB vs30 l), blk b4 #[.int .i64 0, .slice none 0 0] 24, blk b1 #[.int .i64 cap, .slice A l.length c] 24])) [16] (by kernel_rfl) ?_
      have M46 := M41.draw
      refine ty_take 0 24 (.pointer (some ⟨b37, 1, none⟩)) (pok_cont pok_body) ?_ M46 (fun _ _ _ => by kernel_rfl)
      refine ty_take 1 25 (.slice A28 l.length c29) (pok_cont pok_body) ?_ M46 (fun _ M' _ => rl M' 0)
      refine ty_take 2 26 (.int .i64 (n : Int)) (pok_cont pok_body) ?_ M46 (fun _ _ _ => by kernel_rfl)
      obtain ⟨ad47, rfl⟩ := C_some (M46.row_C 1 rfl) (k := n) (by omega)
      refine ty_take 3 27 (.pointer (some (ad47.add (n * 3)))) (pok_cont pok_body) ?_ M46 (fun _ _ _ => ri (ad := ad47) (n := l.length) (c := c29) n 3 (by omega) Try.underlying22)
      refine ty_take 4 28 (.pointer (some ((ad47.add (n * 3)).add 2))) (pok_cont pok_body) ?_ M46 (fun _ _ _ => by kernel_rfl)
      obtain ⟨A48, c49, hv50⟩ := raw_at hok32 (j := n) (by omega)
      refine ty_take 5 29 (.slice A48 (l.getD n Blk.z).w.length c49) (pok_cont pok_body) ?_ M46 (fun _ M' _ => by obtain ⟨cs_, hk_, hc_⟩ := C_cell (M'.row_C 1 rfl) rawG0 n (by rw [hvn]; omega); rw [hv50] at hk_; obtain ⟨rfl, _, _⟩ := hk_; exact re (hc_ 2 _ rfl))
      refine ty_take 6 30 (.int .i64 a) (pok_cont pok_body) ?_ M46 (fun _ _ _ => by kernel_rfl)
      refine ty_take 7 31 (.pointer (some ⟨b1, 1, none⟩)) (pok_cont pok_body) ?_ M46 (fun _ _ _ => by kernel_rfl)
      refine ty_take 8 32 (.slice A l.length c) (pok_cont pok_body) ?_ M46 (fun _ M' _ => rl M' 4)
      refine ty_take 9 33 (.int .i64 (n : Int)) (pok_cont pok_body) ?_ M46 (fun _ _ _ => by kernel_rfl)
      obtain ⟨ad51, rfl⟩ := C_some hC (k := n) (by omega)
      refine ty_take 10 34 (.pointer (some (ad51.add (n * 3)))) (pok_cont pok_body) ?_ M46 (fun _ _ _ => ri (ad := ad51) (n := l.length) (c := c) n 3 (by omega) Try.underlying22)
      refine ty_take 11 35 (.pointer (some ((ad51.add (n * 3)).add 1))) (pok_cont pok_body) ?_ M46 (fun _ _ _ => by kernel_rfl)
      obtain ⟨cs54, hk52, hc53⟩ := C_cell hC Blk.z n (by omega)
      obtain ⟨A55, c56, rfl, hl57, hC58⟩ := kBlk_open hk52
      refine ty_take 12 36 (.int .i64 (l.getD n Blk.z).pos) (pok_cont pok_body) ?_ M46 (fun _ M' _ => re (cell_up M' (hc53 1 _ rfl)))
      refine ty_take 13 37 (.int .i64 (IntKind.wrap .i64 (a - (l.getD n Blk.z).pos))) (pok_cont pok_body) ?_ M46 (fun _ _ _ => by kernel_rfl)
      rw [show IntKind.wrap .i64 (a - (l.getD n Blk.z).pos) = (q : Int) from by rw [wr_i64 (by omega) (by omega)]; omega]
      refine ty_take 14 38 (.int .u64 v) (pok_cont pok_body) ?_ M46 (fun _ _ _ => by kernel_rfl)
      obtain ⟨ad59, rfl⟩ := C_some (codeB_C hok32 (by omega) hv50 (((((M46.drop 4).drop 3).drop 1).drop 0))).1 (k := q) (by omega)
      refine ty_take 15 39 (.pointer (some (ad59.add (q * 1)))) (pok_cont pok_body) ?_ M46 (fun _ _ _ => ri (ad := ad59) (n := (l.getD n Blk.z).w.length) (c := c49) q 1 (by omega) Try.underlying25)
      refine ty_all (rs := [16]) (te_one ?_)
      have M60 := M46.front 2 rfl
      refine te_csetG M60 v n q hok32 (by omega) (by omega) hv50 (fun _ _ h_ _ => absurd (by decide) h_) fun w61 M62 => ?_
      refine ty_endL ?_
      refine tn_code (tc_seq (tc_region ?_))
      refine la M62 1 40 #[.int .i64 cap, .slice (some ad47) l.length c29] (hu := Try.underlying24) ?_
      refine sa M62 3 #[.int .i64 cap, .slice (some ad47) l.length c29] fun w63 M64 => ?_
      refine sg 1 [6, 7] [(6, .pointer (some ⟨b4, 0, none⟩)), (7, .int .i64 0)] ?_
      refine to_end rfl (tn_code (tc_ret ?_))
      refine tr_cell_tmp M64 3 rfl rfl rfl rfl Try.underlying24 rfl (by kernel_rfl) ?_
      have M65 := M64.drop 4
      have M66 := M65.drop 3
      have M67 := M66.drop 1
      have M68 := M67.front 1 rfl
      have he := patch_at (v := v) hm ⟨hwn, hwq, hwa, hwo⟩
      rw [he]
      have M69 := Mem.rd_apart (setW_ok n q v hok32) M68
      have hcc := M68.row_cap 0 rfl
      exact ⟨_, _, by simp only [setW_len]; rfl, M69, by simp only [setW_len]; omega⟩

theorem rdrop_any (cap : Int) (l : List Blk) (A : Option Addr) (c : Nat) (id : Int) (w : World) (hC : kBlk.C w A l.length l) (hcl : l.length ≤ c) (hsm : ∀ j, (l.getD j Blk.z).w.length ≤ 1000000) (hlm : l.length ≤ 1000000) : Calls Try.prog 22 #[.agg #[.int .i64 cap, .slice A l.length c], .int .i64 id] w fun e w' => ∃ A' c', e = .returned (.tuple #[.agg #[.int .i64 (dropM cap l id).1.1, .slice A' (dropM cap l id).1.2.length c'], .int .i64 (dropM cap l id).2]) ∧ Mem w w' [rdE kBlk A' (dropM cap l id).1.2] ∧ (dropM cap l id).1.2.length ≤ c' := by
  have M := Mem.refl w
  have hmx := C_max hC
  refine calls_tc (N := 34) (args := [.agg #[.int .i64 cap, .slice A l.length c], .int .i64 id]) Try.func22 rfl rfl rfl ?_
  refine tc_seq (tc_region ?_)
  refine nw M 2 #[.int .i64 cap, .slice A l.length c] 24 fun b1 w2 M3 => ?_
  refine nw M3 4 #[.int .i64 0, .slice none 0 0] 24 fun b4 w5 M6 => ?_
  refine sg 1 [1, 2, 4] [(1, .int .i64 id), (2, .pointer (some ⟨b1, 0, none⟩)), (4, .pointer (some ⟨b4, 0, none⟩))] ?_
  refine to_end rfl (tn_code (tc_seq (tc_region ?_)))
  refine la M6 1 9 #[.int .i64 cap, .slice A l.length c] (hu := Try.underlying24) ?_
  refine cb M6 10 (rmay13_any cap l A c _ (C_up M6 hC) hsm) fun w7 hb9 M8 => ?_
  refine sg 1 [1, 2, 4, 6] [(1, .int .i64 id), (2, .pointer (some ⟨b1, 0, none⟩)), (4, .pointer (some ⟨b4, 0, none⟩)), (6, .bool (mMay cap l))] ?_
  refine to_end rfl (tn_code (tc_seq (tc_seq (tc_region ?_))))
  refine sg 2 [1, 2, 4, 12] [(1, .int .i64 id), (2, .pointer (some ⟨b1, 0, none⟩)), (4, .pointer (some ⟨b4, 0, none⟩)), (12, .bool (!(mMay cap l)))] ?_
  refine to_end rfl (tn_code ?_)
  rcases h10 : (mMay cap l : Bool) with _ | _
  · refine tc_cond_t (fun _ => rfl) (tc_seq (tc_region ?_))
    refine sg 1 [4, 13] [(4, .pointer (some ⟨b4, 0, none⟩)), (13, .agg #[.int .i64 0, .slice none 0 0])] ?_
    refine sa M8 0 #[.int .i64 0, .slice none 0 0] fun w11 M12 => ?_
    refine sg 1 [4, 5] [(4, .pointer (some ⟨b4, 0, none⟩)), (5, .int .i64 1)] ?_
    refine to_end rfl (tn_code (tc_ret ?_))
    refine tr_cell_tmp M12 0 rfl rfl rfl rfl Try.underlying24 rfl (by kernel_rfl) ?_
    have he13 : dropM cap l id = ((0, []), 1) := drop_no h10
    have M14 := ((((M12.drop 1).drop 0)).nilrow kBlk 103).rd_row
    rw [he13]
    exact ⟨none, 0, rfl, M14, Nat.le_refl _⟩
  · refine tc_cond_f (fun _ => rfl) (tc_skip (tn_code (tc_seq (tc_region ?_))))
    refine la M8 1 14 #[.int .i64 cap, .slice A l.length c] (hu := Try.underlying24) ?_
    refine sg 1 [2, 4, 14, 15] [(2, .pointer (some ⟨b1, 0, none⟩)), (4, .pointer (some ⟨b4, 0, none⟩)), (14, .agg #[.int .i64 cap, .slice A l.length c]), (15, .int .i64 id)] ?_
    have hs15 := rfind_any cap l A c id w7 (C_up M8 hC)
    rcases idM_cases l id with ho | ⟨n, ho, hwn⟩
    · rw [ho] at hs15
      refine cb M8 16 hs15 fun w16 hb18 M17 => ?_
      refine sg 1 [2, 4, 7] [(2, .pointer (some ⟨b1, 0, none⟩)), (4, .pointer (some ⟨b4, 0, none⟩)), (7, .int .i64 (-1))] ?_
      refine to_end rfl (tn_code (tc_seq (tc_seq (tc_region ?_))))
      refine sg 2 [2, 4, 7, 18] [(2, .pointer (some ⟨b1, 0, none⟩)), (4, .pointer (some ⟨b4, 0, none⟩)), (7, .int .i64 (-1)), (18, .bool true)] ?_
      refine to_end rfl (tn_code (tc_cond_t (fun _ => rfl) (tc_seq (tc_region ?_))))
      refine sg 1 [4, 19] [(4, .pointer (some ⟨b4, 0, none⟩)), (19, .agg #[.int .i64 0, .slice none 0 0])] ?_
      refine sa M17 0 #[.int .i64 0, .slice none 0 0] fun w19 M20 => ?_
      refine sg 1 [4, 5] [(4, .pointer (some ⟨b4, 0, none⟩)), (5, .int .i64 3)] ?_
      refine to_end rfl (tn_code (tc_ret ?_))
      refine tr_cell_tmp M20 0 rfl rfl rfl rfl Try.underlying24 rfl (by kernel_rfl) ?_
      have he21 : dropM cap l id = ((0, []), 3) := drop_out h10 ho
      have M22 := ((((M20.drop 1).drop 0)).nilrow kBlk 103).rd_row
      rw [he21]
      exact ⟨none, 0, rfl, M22, Nat.le_refl _⟩
    · rw [ho] at hs15
      refine cb M8 16 hs15 fun w23 hb25 M24 => ?_
      refine sg 1 [2, 4, 7] [(2, .pointer (some ⟨b1, 0, none⟩)), (4, .pointer (some ⟨b4, 0, none⟩)), (7, .int .i64 (n : Int))] ?_
      refine to_end rfl (tn_code (tc_seq (tc_seq (tc_region ?_))))
      refine sg 2 [2, 4, 7, 18] [(2, .pointer (some ⟨b1, 0, none⟩)), (4, .pointer (some ⟨b4, 0, none⟩)), (7, .int .i64 (n : Int)), (18, .bool (decide ((n : Int) < 0)))] ?_
      refine to_end rfl (tn_code ?_)
      have ht26 : (decide ((n : Int) < 0) : Bool) = false := decide_eq_false (by omega)
      have ht26p := of_decide_eq_false ht26
      rw [ht26]
      refine tc_cond_f (fun _ => rfl) (tc_skip (tn_code (tc_seq (tc_region ?_))))
      refine la M24 1 20 #[.int .i64 cap, .slice A l.length c] (hu := Try.underlying24) ?_
      refine ce 21 (rown13_any cap l A c _ (C_up M24 hC) hsm hlm) fun e33 w34 h35 => ?_
      obtain ⟨A27, c28, vs29, he36, hM30, hok31⟩ := h35
      rw [← hok31.1] at he36
      subst he36
      have hvn : vs29.length = l.length := hok31.1
      have M32 := M24.join hM30
      refine ⟨_, rfl, ?_⟩
      refine nw M32 8 #[.int .i64 0, .slice none 0 0] 24 fun b37 w38 M39 => ?_
      refine sa M39 0 #[.int .i64 cap, .slice A27 vs29.length c28] fun w40 M41 => ?_
      refine to_end rfl (tn_code (tc_seq ?_))
      refine tc_drawL (fun w' => Mem w w' ([blk b37 #[.int .i64 cap, .slice A27 vs29.length c28] 24, star (codesG SB vs29 l), blk b4 #[.int .i64 0, .slice none 0 0] 24, blk b1 #[.int .i64 cap, .slice A l.length c] 24])) [11] (by kernel_rfl) ?_
      have M46 := M41.draw
      refine ty_take 0 22 (.pointer (some ⟨b37, 1, none⟩)) (pok_cont pok_body) ?_ (M46.drop 1) (fun _ _ _ => by kernel_rfl)
      refine ty_take 1 23 (.slice A27 vs29.length c28) (pok_cont pok_body) ?_ (M46.drop 1) (fun _ M' _ => rl M' 0)
      refine ty_take 2 24 (.int .i64 (n : Int)) (pok_cont pok_body) ?_ (M46.drop 1) (fun _ _ _ => by kernel_rfl)
      obtain ⟨hr48, hA49, hle50⟩ := cuttA (P := Try.prog) (d := (kRawG 2)) Try.underlying22 (by kernel_rfl) A27 vs29 c28 n .i64 (by omega) (M46.row_cap 1 rfl)
      refine ty_take 3 25 (.slice A27 (vs29.take n).length c28) (pok_cont pok_body) ?_ (M46.drop 1) (fun w' _ _ => exec_slice rfl rfl rfl rfl (hr48 w'))
      refine ty_take 4 26 (.pointer (some ⟨b37, 1, none⟩)) (pok_cont pok_body) ?_ (M46.drop 1) (fun _ _ _ => by kernel_rfl)
      refine ty_take 5 27 (.slice A27 vs29.length c28) (pok_cont pok_body) ?_ (M46.drop 1) (fun _ M' _ => rl M' 0)
      refine ty_take 6 28 (.int .i64 (n : Int)) (pok_cont pok_body) ?_ (M46.drop 1) (fun _ _ _ => by kernel_rfl)
      refine ty_take 7 29 (.int .i64 (IntKind.wrap .i64 ((n : Int) + 1))) (pok_cont pok_body) ?_ (M46.drop 1) (fun _ _ _ => by kernel_rfl)
      rw [show IntKind.wrap .i64 ((n : Int) + 1) = (((n + 1) : Nat) : Int) from wr_nat n 1 (by omega)]
      obtain ⟨A51, hr52, hA53, hle54⟩ := cutf (P := Try.prog) (d := (kRawG 2)) Try.underlying22 (by kernel_rfl) A27 vs29 c28 (n + 1) .i64 (by omega) (M46.row_cap 1 rfl)
      refine ty_take 8 30 (.slice A51 (vs29.drop (n + 1)).length (c28 - (n + 1))) (pok_cont pok_body) ?_ (M46.drop 1) (fun w' _ _ => exec_slice rfl rfl rfl rfl (hr52 w'))
      refine ty_all (rs := [9]) (te_one ?_)
      have M57 := M46.front 1 rfl
      have hD55 := hA53 _ (M57.row_C 0 rfl)
      have M56 := M57.rowtakeL n (by omega)
      refine te_apC (z := .agg #[.int .i64 0, .int .i64 0, .slice none 0 0]) (bytes := 40) (c := (c28 - (n + 1))) M56 31 (flatRawG 2) hD55 Try.underlying22 ?_ (fun _ _ _ M_ _ _ => (M_.drop 0)) fun A58 c59 w60 M61 => ?_
      · simp only [List.length_take, List.length_drop]; omega
      refine ty_take 10 32 (.pointer (some ⟨b37, 1, none⟩)) (pok_cont pok_body) ?_ (M61.drop 0) (fun _ _ _ => by kernel_rfl)
      refine ty_all (rs := [11]) (te_one ?_)
      refine te_st M61 1 #[.int .i64 cap, .slice A58 ((vs29.take n) ++ (vs29.drop (n + 1))).length c59] (fun _ _ h_ _ => absurd (by decide) h_) fun w62 M63 => ?_
      refine ty_endL ?_
      refine tn_code (tc_seq (tc_region ?_))
      refine la M63 1 33 #[.int .i64 cap, .slice A58 ((vs29.take n) ++ (vs29.drop (n + 1))).length c59] (hu := Try.underlying24) ?_
      refine sa M63 3 #[.int .i64 cap, .slice A58 ((vs29.take n) ++ (vs29.drop (n + 1))).length c59] fun w64 M65 => ?_
      refine sg 1 [4, 5] [(4, .pointer (some ⟨b4, 0, none⟩)), (5, .int .i64 0)] ?_
      refine to_end rfl (tn_code (tc_ret ?_))
      refine tr_cell_tmp M65 3 rfl rfl rfl rfl Try.underlying24 rfl (by kernel_rfl) ?_
      have M67 := M65.drop 4
      have M68 := M67.drop 3
      have M69 := M68.drop 1
      have he := drop_at h10 ho
      rw [he]
      have M70 := M69
      rw [take_drop_erase] at M70
      have M71 := Mem.rd_apart (rawGOk_del n hok31) (codesG_del n hok31.1 M70.swap).swap
      have hcc := M70.row_cap 0 rfl
      exact ⟨_, _, by rw [take_drop_erase, erase_len (by omega), hvn, ← erase_len (by omega)], M71, by rw [erase_len (by omega)] at hcc ⊢; omega⟩

set_option linter.unusedSimpArgs false in
theorem rput13_any (cap : Int) (l : List Blk) (A : Option Addr) (c : Nat) (id a : Int) (Aw : Option Addr) (cws : Nat) (ws : List Int) (w : World) (hC : kBlk.C w A l.length l) (hcl : l.length ≤ c) (hsm : ∀ j, (l.getD j Blk.z).w.length ≤ 1000000) (hlm : l.length ≤ 1000000) (hW : kW.C w Aw ws.length ws) (hcw : ws.length ≤ cws) (hwl : ws.length ≤ 1000000) : Calls Try.prog 19 #[.agg #[.int .i64 cap, .slice A l.length c], .int .i64 id, .int .i64 a, .slice Aw ws.length cws] w fun e w' => ∃ A' c', e = .returned (.tuple #[.agg #[.int .i64 (putM cap l id a ws).1.1, .slice A' (putM cap l id a ws).1.2.length c'], .int .i64 (putM cap l id a ws).2]) ∧ Mem w w' [rdE kBlk A' (putM cap l id a ws).1.2] ∧ (putM cap l id a ws).1.2.length ≤ c' := by
  have M := Mem.refl w
  have hmx := C_max hC
  refine calls_tc (N := 99) (args := [.agg #[.int .i64 cap, .slice A l.length c], .int .i64 id, .int .i64 a, .slice Aw ws.length cws]) Try.func19 rfl rfl rfl ?_
  refine tc_seq (tc_region ?_)
  refine nw M 4 #[.int .i64 cap, .slice A l.length c] 24 fun b1 w2 M3 => ?_
  refine nw M3 8 #[.int .i64 0, .slice none 0 0] 24 fun b4 w5 M6 => ?_
  refine sg 1 [1, 2, 3, 4, 8] [(1, .int .i64 id), (2, .int .i64 a), (3, .slice Aw ws.length cws), (4, .pointer (some ⟨b1, 0, none⟩)), (8, .pointer (some ⟨b4, 0, none⟩))] ?_
  refine to_end rfl (tn_code (tc_seq (tc_region ?_)))
  refine la M6 1 15 #[.int .i64 cap, .slice A l.length c] (hu := Try.underlying24) ?_
  refine cb M6 16 (rmay13_any cap l A c _ (C_up M6 hC) hsm) fun w7 hb9 M8 => ?_
  refine sg 1 [1, 2, 3, 4, 8, 10] [(1, .int .i64 id), (2, .int .i64 a), (3, .slice Aw ws.length cws), (4, .pointer (some ⟨b1, 0, none⟩)), (8, .pointer (some ⟨b4, 0, none⟩)), (10, .bool (mMay cap l))] ?_
  refine to_end rfl (tn_code (tc_seq (tc_seq (tc_region ?_))))
  refine join (fr' := [(1, .int .i64 id), (2, .int .i64 a), (3, .slice Aw ws.length cws), (4, .pointer (some ⟨b1, 0, none⟩)), (8, .pointer (some ⟨b4, 0, none⟩)), (27, .bool (((!(mMay cap l)) || (decide (id < 1))) || (decide ((ws.length : Int) < 1))))]) (fun hj_ => ?_) ?_
  · refine sg 3 [1, 2, 3, 4, 8, 19] [(1, .int .i64 id), (2, .int .i64 a), (3, .slice Aw ws.length cws), (4, .pointer (some ⟨b1, 0, none⟩)), (8, .pointer (some ⟨b4, 0, none⟩)), (19, .bool (!(mMay cap l)))] ?_
    rcases bdi (mMay cap l : Bool) with h10 | h10
    · rw [h10]
      refine sg 8 [1, 2, 3, 4, 8, 27] [(1, .int .i64 id), (2, .int .i64 a), (3, .slice Aw ws.length cws), (4, .pointer (some ⟨b1, 0, none⟩)), (8, .pointer (some ⟨b4, 0, none⟩)), (27, .bool true)] ?_
      refine to_end rfl ?_
      rw [show (((!(mMay cap l)) || (decide (id < 1))) || (decide ((ws.length : Int) < 1)) : Bool) = true from by (simp only [h10, Bool.true_or, Bool.false_or, Bool.or_true, Bool.or_false, Bool.true_and, Bool.false_and, Bool.and_true, Bool.and_false, Bool.not_true, Bool.not_false, cond_true, cond_false, if_true, reduceIte]) <;> rfl] at hj_
      exact hj_.sub (Sub.cons rfl (Sub.cons rfl (Sub.cons rfl (Sub.cons rfl (Sub.cons rfl (Sub.cons rfl (Sub.nil _)))))))
    · rw [h10]
      refine sg 4 [1, 2, 3, 4, 8, 23] [(1, .int .i64 id), (2, .int .i64 a), (3, .slice Aw ws.length cws), (4, .pointer (some ⟨b1, 0, none⟩)), (8, .pointer (some ⟨b4, 0, none⟩)), (23, .bool (decide (id < 1)))] ?_
      rcases bdi (decide (id < 1) : Bool) with h11 | h11
      · have h11p := of_decide_eq_false h11
        rw [h11]
        refine sg 4 [1, 2, 3, 4, 8, 27] [(1, .int .i64 id), (2, .int .i64 a), (3, .slice Aw ws.length cws), (4, .pointer (some ⟨b1, 0, none⟩)), (8, .pointer (some ⟨b4, 0, none⟩)), (27, .bool (decide ((ws.length : Int) < 1)))] ?_
        refine to_end rfl ?_
        rw [show (((!(mMay cap l)) || (decide (id < 1))) || (decide ((ws.length : Int) < 1)) : Bool) = (decide ((ws.length : Int) < 1)) from by (simp only [h10, h11, Bool.true_or, Bool.false_or, Bool.or_true, Bool.or_false, Bool.true_and, Bool.false_and, Bool.and_true, Bool.and_false, Bool.not_true, Bool.not_false, cond_true, cond_false, if_true, reduceIte]) <;> rfl] at hj_
        exact hj_.sub (Sub.cons rfl (Sub.cons rfl (Sub.cons rfl (Sub.cons rfl (Sub.cons rfl (Sub.cons rfl (Sub.nil _)))))))
      · have h11p := of_decide_eq_true h11
        rw [h11]
        refine sg 4 [1, 2, 3, 4, 8, 27] [(1, .int .i64 id), (2, .int .i64 a), (3, .slice Aw ws.length cws), (4, .pointer (some ⟨b1, 0, none⟩)), (8, .pointer (some ⟨b4, 0, none⟩)), (27, .bool true)] ?_
        refine to_end rfl ?_
        rw [show (((!(mMay cap l)) || (decide (id < 1))) || (decide ((ws.length : Int) < 1)) : Bool) = true from by (simp only [h10, h11, Bool.true_or, Bool.false_or, Bool.or_true, Bool.or_false, Bool.true_and, Bool.false_and, Bool.and_true, Bool.and_false, Bool.not_true, Bool.not_false, cond_true, cond_false, if_true, reduceIte]) <;> rfl] at hj_
        exact hj_.sub (Sub.cons rfl (Sub.cons rfl (Sub.cons rfl (Sub.cons rfl (Sub.cons rfl (Sub.cons rfl (Sub.nil _)))))))
  refine tn_code ?_
  refine tc_cond (b := ((!(mMay cap l)) || (decide (id < 1))) || (decide ((ws.length : Int) < 1))) (fun _ => rfl) (fun h12 => ?_) (fun h12 => ?_)
  · have h12p := h12
    simp only [Bool.or_eq_true, Bool.and_eq_true, Bool.or_eq_false_iff, Bool.and_eq_false_iff, decide_eq_true_eq, decide_eq_false_iff_not, beq_iff_eq, bne_iff_ne, beq_eq_false_iff_ne, bne_eq_false_iff_eq, Bool.not_eq_true', Bool.not_eq_false', ne_eq] at h12p
    refine tc_seq (tc_region ?_)
    refine sg 1 [8, 28] [(8, .pointer (some ⟨b4, 0, none⟩)), (28, .agg #[.int .i64 0, .slice none 0 0])] ?_
    refine sa M8 0 #[.int .i64 0, .slice none 0 0] fun w13 M14 => ?_
    refine sg 1 [8, 9] [(8, .pointer (some ⟨b4, 0, none⟩)), (9, .int .i64 1)] ?_
    refine to_end rfl (tn_code (tc_ret ?_))
    refine tr_cell_tmp M14 0 rfl rfl rfl rfl Try.underlying24 rfl (by kernel_rfl) ?_
    have he15 : putM cap l id a ws = ((0, []), 1) := put_no (by have h_ := h12p; rcases h_ with (h_ | h_) | h_; exact .inl h_; exact .inr (.inl (by omega)); exact .inr (.inr (by omega)))
    have M16 := ((((M14.drop 1).drop 0)).nilrow kBlk 103).rd_row
    rw [he15]
    exact ⟨none, 0, rfl, M16, Nat.le_refl _⟩
  · have h12p := h12
    simp only [Bool.or_eq_true, Bool.and_eq_true, Bool.or_eq_false_iff, Bool.and_eq_false_iff, decide_eq_true_eq, decide_eq_false_iff_not, beq_iff_eq, bne_iff_ne, beq_eq_false_iff_ne, bne_eq_false_iff_eq, Bool.not_eq_true', Bool.not_eq_false', ne_eq] at h12p
    refine tc_skip (tn_code (tc_seq (tc_seq (tc_region ?_))))
    refine la M8 1 29 #[.int .i64 cap, .slice A l.length c] (hu := Try.underlying24) ?_
    refine sg 1 [1, 2, 3, 4, 8, 29, 30] [(1, .int .i64 id), (2, .int .i64 a), (3, .slice Aw ws.length cws), (4, .pointer (some ⟨b1, 0, none⟩)), (8, .pointer (some ⟨b4, 0, none⟩)), (29, .agg #[.int .i64 cap, .slice A l.length c]), (30, .int .i64 id)] ?_
    refine cb M8 31 (rfind_any cap l A c id _ (C_up M8 hC)) fun w17 hb19 M18 => ?_
    refine sg 2 [1, 2, 3, 4, 8, 33] [(1, .int .i64 id), (2, .int .i64 a), (3, .slice Aw ws.length cws), (4, .pointer (some ⟨b1, 0, none⟩)), (8, .pointer (some ⟨b4, 0, none⟩)), (33, .bool (decide ((idM l id) ≥ 0)))] ?_
    rcases h20 : (decide ((idM l id) ≥ 0) : Bool) with _ | _
    · have h20p := of_decide_eq_false h20
      refine la M18 1 34 #[.int .i64 cap, .slice A l.length c] (hu := Try.underlying24) ?_
      refine sg 3 [1, 2, 3, 4, 8, 33, 34, 35, 37] [(1, .int .i64 id), (2, .int .i64 a), (3, .slice Aw ws.length cws), (4, .pointer (some ⟨b1, 0, none⟩)), (8, .pointer (some ⟨b4, 0, none⟩)), (33, .bool false), (34, .agg #[.int .i64 cap, .slice A l.length c]), (35, .int .i64 a), (37, .int .i64 (ws.length : Int))] ?_
      refine cb M18 38 (free_any cap l A c a (ws.length : Int) _ (C_up M18 hC) (by have h_ := h12p; exact h_.1.1)) fun w21 hb23 M22 => ?_
      refine sg 2 [1, 2, 3, 4, 8, 40] [(1, .int .i64 id), (2, .int .i64 a), (3, .slice Aw ws.length cws), (4, .pointer (some ⟨b1, 0, none⟩)), (8, .pointer (some ⟨b4, 0, none⟩)), (40, .bool (!(freeM cap l a (ws.length : Int))))] ?_
      refine to_end rfl (tn_code ?_)
      rcases h24 : (freeM cap l a (ws.length : Int) : Bool) with _ | _
      · refine tc_cond_t (fun _ => rfl) (tc_seq (tc_region ?_))
        refine sg 1 [8, 41] [(8, .pointer (some ⟨b4, 0, none⟩)), (41, .agg #[.int .i64 0, .slice none 0 0])] ?_
        refine sa M22 0 #[.int .i64 0, .slice none 0 0] fun w25 M26 => ?_
        refine sg 1 [8, 9] [(8, .pointer (some ⟨b4, 0, none⟩)), (9, .int .i64 4)] ?_
        refine to_end rfl (tn_code (tc_ret ?_))
        refine tr_cell_tmp M26 0 rfl rfl rfl rfl Try.underlying24 rfl (by kernel_rfl) ?_
        have he27 : putM cap l id a ws = ((0, []), 4) := put_full (by have h_ := h12p; rintro (h1_ | h1_ | h1_); rw [h_.1.1] at h1_; cases h1_; omega; omega) (.inr h24)
        have M28 := ((((M26.drop 1).drop 0)).nilrow kBlk 103).rd_row
        rw [he27]
        exact ⟨none, 0, rfl, M28, Nat.le_refl _⟩
      · refine tc_cond_f (fun _ => rfl) (tc_skip (tn_code (tc_seq (tc_region ?_))))
        refine la M22 1 42 #[.int .i64 cap, .slice A l.length c] (hu := Try.underlying24) ?_
        refine ce 43 (rown13_any cap l A c _ (C_up M22 hC) hsm hlm) fun e35 w36 h37 => ?_
        obtain ⟨A29, c30, vs31, he38, hM32, hok33⟩ := h37
        rw [← hok33.1] at he38
        subst he38
        have hvn : vs31.length = l.length := hok33.1
        have M34 := M22.join hM32
        refine ⟨_, rfl, ?_⟩
        refine nw M34 11 #[.int .i64 0, .slice none 0 0] 24 fun b39 w40 M41 => ?_
        refine sa M41 0 #[.int .i64 cap, .slice A29 vs31.length c30] fun w42 M43 => ?_
        refine to_end rfl (tn_code (tc_seq (tc_region ?_)))
        refine sg 1 [1, 2, 3, 8, 11, 44] [(1, .int .i64 id), (2, .int .i64 a), (3, .slice Aw ws.length cws), (8, .pointer (some ⟨b4, 0, none⟩)), (11, .pointer (some ⟨b39, 0, none⟩)), (44, .pointer (some ⟨b1, 0, none⟩))] ?_
        refine ld M43 4 45 (.int .i64 cap) ?_
        refine sg 1 [1, 2, 3, 8, 11, 46] [(1, .int .i64 id), (2, .int .i64 a), (3, .slice Aw ws.length cws), (8, .pointer (some ⟨b4, 0, none⟩)), (11, .pointer (some ⟨b39, 0, none⟩)), (46, .agg #[.int .i64 cap, .slice none 0 0])] ?_
        refine nw M43 12 #[.int .i64 0, .slice none 0 0] 24 fun b44 w45 M46 => ?_
        refine sa M46 0 #[.int .i64 cap, .slice none 0 0] fun w47 M48 => ?_
        refine to_end rfl (tn_code (tc_seq (tc_region ?_)))
        refine sg 1 [1, 2, 3, 8, 11, 12, 13] [(1, .int .i64 id), (2, .int .i64 a), (3, .slice Aw ws.length cws), (8, .pointer (some ⟨b4, 0, none⟩)), (11, .pointer (some ⟨b39, 0, none⟩)), (12, .pointer (some ⟨b44, 0, none⟩)), (13, .bool false)] ?_
        refine to_end rfl (tn_code (tc_seq (tc_seq (tc_region ?_))))
        refine sg 1 [1, 2, 3, 8, 11, 12, 13, 14] [(1, .int .i64 id), (2, .int .i64 a), (3, .slice Aw ws.length cws), (8, .pointer (some ⟨b4, 0, none⟩)), (11, .pointer (some ⟨b39, 0, none⟩)), (12, .pointer (some ⟨b44, 0, none⟩)), (13, .bool false), (14, .int .i64 0)] ?_
        refine to_end rfl (tn_code (tc_block ?_))
        have M49 := M48.emp.nilrow (kRawG 2) 103
        refine tc_loop (σ := Nat × Nat × Bool × Option Addr × Nat × Option Addr × Nat) (fun s_ => match s_ with | (i51, q52, dn53, A54, c55, A56, c57) => [(1, .int .i64 id), (2, .int .i64 a), (3, .slice Aw ws.length cws), (8, .pointer (some ⟨b4, 0, none⟩)), (11, .pointer (some ⟨b39, 0, none⟩)), (12, .pointer (some ⟨b44, 0, none⟩)), (14, .int .i64 (i51 : Int)), (13, .bool dn53)]) (fun s_ w' => match s_ with | (i51, q52, dn53, A54, c55, A56, c57) => (PutI l a i51 q52 dn53) ∧ Mem w w' ([row (kRawG 2) 103 (.slice A54 (usF vs31 (([.int .i64 id, .int .i64 a], A56, ws.length, c57) : RawG) i51 q52 dn53).length c55) (usF vs31 (([.int .i64 id, .int .i64 a], A56, ws.length, c57) : RawG) i51 q52 dn53), putE dn53 A56 c57 ws, blk b44 #[.int .i64 cap, .slice A54 (usF vs31 (([.int .i64 id, .int .i64 a], A56, ws.length, c57) : RawG) i51 q52 dn53).length c55] 24, blk b39 #[.int .i64 cap, .slice A29 vs31.length c30] 24, row (kRawG 2) 103 (.slice A29 vs31.length c30) vs31, star (codesG SB vs31 l), blk b4 #[.int .i64 0, .slice none 0 0] 24, blk b1 #[.int .i64 cap, .slice A l.length c] 24])) (fun s_ => match s_ with | (i51, q52, dn53, A54, c55, A56, c57) => l.length + 1 - i51) (0, 0, false, none, 0, none, 0) (Sub.cons rfl (Sub.cons rfl (Sub.cons rfl (Sub.cons rfl (Sub.cons rfl (Sub.cons rfl (Sub.cons rfl (Sub.cons rfl (Sub.nil _))))))))) ⟨puti0 l a, M49⟩ ?_
        rintro ⟨i51, q52, dn53, A54, c55, A56, c57⟩ w64 ⟨hi66, M65⟩
        have hq1 := hi66
        have hqle := hq1.le
        rcases dn53 with _ | _
        · obtain ⟨hqn, hqp⟩ := hq1.no rfl
          have M67 : Mem w w64 ([row (kRawG 2) 103 (.slice A54 (List.take i51 vs31).length c55) (List.take i51 vs31), putE false A56 c57 ws, blk b44 #[.int .i64 cap, .slice A54 (List.take i51 vs31).length c55] 24, blk b39 #[.int .i64 cap, .slice A29 vs31.length c30] 24, row (kRawG 2) 103 (.slice A29 vs31.length c30) vs31, star (codesG SB vs31 l), blk b4 #[.int .i64 0, .slice none 0 0] 24, blk b1 #[.int .i64 cap, .slice A l.length c] 24]) := M65
          refine tc_seq (tc_seq (tc_region ?_))
          refine sg 2 [1, 2, 3, 8, 11, 12, 14, 13, 47, 48] [(1, .int .i64 id), (2, .int .i64 a), (3, .slice Aw ws.length cws), (8, .pointer (some ⟨b4, 0, none⟩)), (11, .pointer (some ⟨b39, 0, none⟩)), (12, .pointer (some ⟨b44, 0, none⟩)), (14, .int .i64 (i51 : Int)), (13, .bool false), (47, .int .i64 (i51 : Int)), (48, .pointer (some ⟨b39, 1, none⟩))] ?_
          refine ld M67 3 49 (.slice A29 vs31.length c30) ?_
          refine sg 2 [1, 2, 3, 8, 11, 12, 14, 13, 51] [(1, .int .i64 id), (2, .int .i64 a), (3, .slice Aw ws.length cws), (8, .pointer (some ⟨b4, 0, none⟩)), (11, .pointer (some ⟨b39, 0, none⟩)), (12, .pointer (some ⟨b44, 0, none⟩)), (14, .int .i64 (i51 : Int)), (13, .bool false), (51, .bool (decide ((i51 : Int) ≤ (vs31.length : Int))))] ?_
          refine to_end rfl (tn_code ?_)
          have ht68 : (decide ((i51 : Int) ≤ (vs31.length : Int)) : Bool) = true := decide_eq_true (by omega)
          have ht68p := of_decide_eq_true ht68
          rw [ht68]
          refine tc_cond_t (fun _ => rfl) (tc_skip (tn_code (tc_seq (tc_block (tc_seq (tc_seq (tc_region ?_)))))))
          refine join (fr' := [(1, .int .i64 id), (2, .int .i64 a), (3, .slice Aw ws.length cws), (8, .pointer (some ⟨b4, 0, none⟩)), (11, .pointer (some ⟨b39, 0, none⟩)), (12, .pointer (some ⟨b44, 0, none⟩)), (14, .int .i64 (i51 : Int)), (13, .bool false), (72, .bool (((i51 : Int) == (vs31.length : Int)) || (decide ((l.getD i51 Blk.z).pos > a))))]) (fun hj_ => ?_) ?_
          · refine sg 5 [1, 2, 3, 8, 11, 12, 14, 13, 56, 57, 58] [(1, .int .i64 id), (2, .int .i64 a), (3, .slice Aw ws.length cws), (8, .pointer (some ⟨b4, 0, none⟩)), (11, .pointer (some ⟨b39, 0, none⟩)), (12, .pointer (some ⟨b44, 0, none⟩)), (14, .int .i64 (i51 : Int)), (13, .bool false), (56, .bool true), (57, .int .i64 (i51 : Int)), (58, .pointer (some ⟨b39, 1, none⟩))] ?_
            refine ld M67 3 59 (.slice A29 vs31.length c30) ?_
            refine sg 3 [1, 2, 3, 8, 11, 12, 14, 13, 56, 62] [(1, .int .i64 id), (2, .int .i64 a), (3, .slice Aw ws.length cws), (8, .pointer (some ⟨b4, 0, none⟩)), (11, .pointer (some ⟨b39, 0, none⟩)), (12, .pointer (some ⟨b44, 0, none⟩)), (14, .int .i64 (i51 : Int)), (13, .bool false), (56, .bool true), (62, .bool ((i51 : Int) == (vs31.length : Int)))] ?_
            rcases bdi ((i51 : Int) == (vs31.length : Int) : Bool) with h69 | h69
            · have h69p := beq_eq_false_iff_ne.1 h69
              rw [h69]
              refine sg 1 [1, 2, 3, 8, 11, 12, 14, 13, 56, 62, 63] [(1, .int .i64 id), (2, .int .i64 a), (3, .slice Aw ws.length cws), (8, .pointer (some ⟨b4, 0, none⟩)), (11, .pointer (some ⟨b39, 0, none⟩)), (12, .pointer (some ⟨b44, 0, none⟩)), (14, .int .i64 (i51 : Int)), (13, .bool false), (56, .bool true), (62, .bool false), (63, .pointer (some ⟨b39, 1, none⟩))] ?_
              refine ld M67 3 64 (.slice A29 vs31.length c30) ?_
              refine sg 1 [1, 2, 3, 8, 11, 12, 14, 13, 56, 62, 64, 65] [(1, .int .i64 id), (2, .int .i64 a), (3, .slice Aw ws.length cws), (8, .pointer (some ⟨b4, 0, none⟩)), (11, .pointer (some ⟨b39, 0, none⟩)), (12, .pointer (some ⟨b44, 0, none⟩)), (14, .int .i64 (i51 : Int)), (13, .bool false), (56, .bool true), (62, .bool false), (64, .slice A29 vs31.length c30), (65, .int .i64 (i51 : Int))] ?_
              obtain ⟨ad70, rfl⟩ := C_some (M67.row_C 4 rfl) (k := i51) (by omega)
              refine ix (ad := ad70) (n := vs31.length) (c := c30) 66 i51 3 (by omega) Try.underlying22 ?_
              refine sg 1 [1, 2, 3, 8, 11, 12, 14, 13, 56, 62, 67] [(1, .int .i64 id), (2, .int .i64 a), (3, .slice Aw ws.length cws), (8, .pointer (some ⟨b4, 0, none⟩)), (11, .pointer (some ⟨b39, 0, none⟩)), (12, .pointer (some ⟨b44, 0, none⟩)), (14, .int .i64 (i51 : Int)), (13, .bool false), (56, .bool true), (62, .bool false), (67, .pointer (some ((ad70.add (i51 * 3)).add 1)))] ?_
              obtain ⟨A71, c72, hv73⟩ := raw_at hok33 (j := i51) (by omega)
              obtain ⟨cs74, hk75, hc76⟩ := C_cell (M67.row_C 4 rfl) rawG0 i51 (by omega)
              rw [hv73] at hk75
              obtain ⟨rfl, _, _⟩ := hk75
              refine le 68 (.int .i64 (l.getD i51 Blk.z).pos) (hc76 1 _ rfl) ?_
              refine sg 4 [1, 2, 3, 8, 11, 12, 14, 13, 72] [(1, .int .i64 id), (2, .int .i64 a), (3, .slice Aw ws.length cws), (8, .pointer (some ⟨b4, 0, none⟩)), (11, .pointer (some ⟨b39, 0, none⟩)), (12, .pointer (some ⟨b44, 0, none⟩)), (14, .int .i64 (i51 : Int)), (13, .bool false), (72, .bool (decide ((l.getD i51 Blk.z).pos > a)))] ?_
              refine to_end rfl ?_
              rw [show (((i51 : Int) == (vs31.length : Int)) || (decide ((l.getD i51 Blk.z).pos > a)) : Bool) = (decide ((l.getD i51 Blk.z).pos > a)) from by (simp only [h69, Bool.true_or, Bool.false_or, Bool.or_true, Bool.or_false, Bool.true_and, Bool.false_and, Bool.and_true, Bool.and_false, Bool.not_true, Bool.not_false, cond_true, cond_false, if_true, reduceIte]) <;> rfl] at hj_
              exact hj_.sub (Sub.cons rfl (Sub.cons rfl (Sub.cons rfl (Sub.cons rfl (Sub.cons rfl (Sub.cons rfl (Sub.cons rfl (Sub.cons rfl (Sub.cons rfl (Sub.nil _))))))))))
            · have h69p := beq_iff_eq.1 h69
              rw [h69]
              refine sg 10 [1, 2, 3, 8, 11, 12, 14, 13, 72] [(1, .int .i64 id), (2, .int .i64 a), (3, .slice Aw ws.length cws), (8, .pointer (some ⟨b4, 0, none⟩)), (11, .pointer (some ⟨b39, 0, none⟩)), (12, .pointer (some ⟨b44, 0, none⟩)), (14, .int .i64 (i51 : Int)), (13, .bool false), (72, .bool true)] ?_
              refine to_end rfl ?_
              rw [show (((i51 : Int) == (vs31.length : Int)) || (decide ((l.getD i51 Blk.z).pos > a)) : Bool) = true from by (simp only [h69, Bool.true_or, Bool.false_or, Bool.or_true, Bool.or_false, Bool.true_and, Bool.false_and, Bool.and_true, Bool.and_false, Bool.not_true, Bool.not_false, cond_true, cond_false, if_true, reduceIte]) <;> rfl] at hj_
              exact hj_.sub (Sub.cons rfl (Sub.cons rfl (Sub.cons rfl (Sub.cons rfl (Sub.cons rfl (Sub.cons rfl (Sub.cons rfl (Sub.cons rfl (Sub.cons rfl (Sub.nil _))))))))))
          refine tn_code ?_
          refine tc_cond (b := ((i51 : Int) == (vs31.length : Int)) || (decide ((l.getD i51 Blk.z).pos > a))) (fun _ => rfl) (fun h77 => ?_) (fun h77 => ?_)
          · have h77p := h77
            simp only [Bool.or_eq_true, Bool.and_eq_true, Bool.or_eq_false_iff, Bool.and_eq_false_iff, decide_eq_true_eq, decide_eq_false_iff_not, beq_iff_eq, bne_iff_ne, beq_eq_false_iff_ne, bne_eq_false_iff_eq, Bool.not_eq_true', Bool.not_eq_false', ne_eq] at h77p
            refine tc_seq ?_
            refine tc_drawL (fun w' => Mem w w' ([putE false A56 c57 ws, blk b44 #[.int .i64 cap, .slice A54 (List.take i51 vs31).length c55] 24, blk b39 #[.int .i64 cap, .slice A29 vs31.length c30] 24, row (kRawG 2) 103 (.slice A29 vs31.length c30) vs31, star (codesG SB vs31 l), blk b4 #[.int .i64 0, .slice none 0 0] 24, blk b1 #[.int .i64 cap, .slice A l.length c] 24])) [10] (by kernel_rfl) ?_
            have M78 := M67.draw
            refine ty_take 0 73 (.pointer (some ⟨b44, 1, none⟩)) (pok_cont pok_body) ?_ (M78.drop 0) (fun _ _ _ => by kernel_rfl)
            refine ty_take 1 74 (.slice A54 (List.take i51 vs31).length c55) (pok_cont pok_body) ?_ (M78.drop 0) (fun _ M' _ => rl M' 1)
            refine ty_take 2 75 (.int .i64 id) (pok_cont pok_body) ?_ (M78.drop 0) (fun _ _ _ => by kernel_rfl)
            refine ty_take 3 76 (.int .i64 a) (pok_cont pok_body) ?_ (M78.drop 0) (fun _ _ _ => by kernel_rfl)
            refine ty_take 4 77 (.slice Aw ws.length cws) (pok_cont pok_body) ?_ (M78.drop 0) (fun _ _ _ => by kernel_rfl)
            refine ty_all (rs := [5]) (te_one ?_)
            have M79 := M78.nilrow kW 26
            refine te_apC (z := .int .u64 0) (bytes := 8) (c := cws) M79 78 flatW (C_up M79 hW) Try.underlying25 ?_ (fun _ _ _ M_ _ _ => ((M_.drop 1).drop 0)) fun A80 c81 w82 M83 => ?_
            · have hul := us_len (vs := vs31) (x := (([.int .i64 id, .int .i64 a], A56, ws.length, c57) : RawG)) (i := i51) (q := q52) (dn := true); simp only [List.length_append, List.length_nil, List.length_cons, List.length_take] at hul ⊢; omega
            refine ty_take 6 79 (.agg #[.int .i64 id, .int .i64 a, .slice A80 ([] ++ ws).length c81]) (pok_cont pok_body) ?_ ((M83.drop 1).drop 0) (fun _ _ _ => by kernel_rfl)
            refine ty_all (rs := [7]) (te_one ?_)
            have M87 := M83.flat (d := kRawG 2) (x := (([.int .i64 id, .int .i64 a], A80, ([] ++ ws).length, c81) : RawG)) (cs := [.int .i64 id, .int .i64 a, .slice A80 ([] ++ ws).length c81]) (rawB_M _ _ _ _ _ _)
            refine te_bs1 (x := (([.int .i64 id, .int .i64 a], A80, ([] ++ ws).length, c81) : RawG)) (cs := #[.int .i64 id, .int .i64 a, .slice A80 ([] ++ ws).length c81]) M87 80 103 (fun _ _ M_ _ _ => (((M_.drop 2).drop 1).drop 0)) fun b84 w85 M86 => ?_
            refine ty_all (rs := [8]) (te_one ?_)
            have M92 := M86.front 2 rfl
            refine te_ap (z := .agg #[.int .i64 0, .int .i64 0, .slice none 0 0]) (bytes := 40) M92 81 Try.underlying22 ?_ (fun _ _ _ M_ _ _ => ((M_.drop 1).drop 0)) fun A88 c89 w90 M91 => ?_
            · have hul := us_len (vs := vs31) (x := (([.int .i64 id, .int .i64 a], A56, ws.length, c57) : RawG)) (i := i51) (q := q52) (dn := true); simp only [List.length_append, List.length_nil, List.length_cons, List.length_take] at hul ⊢; omega
            refine ty_take 9 82 (.pointer (some ⟨b44, 1, none⟩)) (pok_cont pok_body) ?_ ((M91.drop 1).drop 0) (fun _ _ _ => by kernel_rfl)
            refine ty_all (rs := [10]) (te_one ?_)
            refine te_st M91 3 #[.int .i64 cap, .slice A88 ((List.take i51 vs31) ++ [(([.int .i64 id, .int .i64 a], A80, ([] ++ ws).length, c81) : RawG)]).length c89] (fun _ _ h_ _ => absurd (by decide) h_) fun w93 M94 => ?_
            refine ty_endL ?_
            refine tn_code (tc_region ?_)
            refine sg 1 [1, 2, 3, 8, 11, 12, 14, 13] [(1, .int .i64 id), (2, .int .i64 a), (3, .slice Aw ws.length cws), (8, .pointer (some ⟨b4, 0, none⟩)), (11, .pointer (some ⟨b39, 0, none⟩)), (12, .pointer (some ⟨b44, 0, none⟩)), (14, .int .i64 (i51 : Int)), (13, .bool true)] ?_
            refine to_end rfl (tn_code (tc_seq (tc_region ?_)))
            refine sg 2 [1, 2, 3, 8, 11, 12, 14, 13, 83, 84] [(1, .int .i64 id), (2, .int .i64 a), (3, .slice Aw ws.length cws), (8, .pointer (some ⟨b4, 0, none⟩)), (11, .pointer (some ⟨b39, 0, none⟩)), (12, .pointer (some ⟨b44, 0, none⟩)), (14, .int .i64 (i51 : Int)), (13, .bool true), (83, .int .i64 (i51 : Int)), (84, .pointer (some ⟨b39, 1, none⟩))] ?_
            refine ld M94 4 85 (.slice A29 vs31.length c30) ?_
            refine sg 2 [1, 2, 3, 8, 11, 12, 14, 13, 87] [(1, .int .i64 id), (2, .int .i64 a), (3, .slice Aw ws.length cws), (8, .pointer (some ⟨b4, 0, none⟩)), (11, .pointer (some ⟨b39, 0, none⟩)), (12, .pointer (some ⟨b44, 0, none⟩)), (14, .int .i64 (i51 : Int)), (13, .bool true), (87, .bool (decide ((i51 : Int) < (vs31.length : Int))))] ?_
            refine to_end rfl (tn_code ?_)
            refine tc_cond (b := decide ((i51 : Int) < (vs31.length : Int))) (fun _ => rfl) (fun h95 => ?_) (fun h95 => ?_)
            · have h95p := of_decide_eq_true h95
              refine tc_drawL (fun w' => Mem w w' ([row kW 26 (.slice A80 ([] ++ ws).length c81) ([] ++ ws), putE false A56 c57 ws, blk b44 #[.int .i64 cap, .slice A88 ((List.take i51 vs31) ++ [(([.int .i64 id, .int .i64 a], A80, ([] ++ ws).length, c81) : RawG)]).length c89] 24, blk b39 #[.int .i64 cap, .slice A29 vs31.length c30] 24, row (kRawG 2) 103 (.slice A29 vs31.length c30) vs31, star (codesG SB vs31 l), blk b4 #[.int .i64 0, .slice none 0 0] 24, blk b1 #[.int .i64 cap, .slice A l.length c] 24])) [10] (by kernel_rfl) ?_
              have M98 := M94.draw
              refine ty_take 0 88 (.pointer (some ⟨b44, 1, none⟩)) (pok_cont pok_body) ?_ (M98.drop 0) (fun _ _ _ => by kernel_rfl)
              refine ty_take 1 89 (.slice A88 ((List.take i51 vs31) ++ [(([.int .i64 id, .int .i64 a], A80, ([] ++ ws).length, c81) : RawG)]).length c89) (pok_cont pok_body) ?_ (M98.drop 0) (fun _ M' _ => rl M' 2)
              refine ty_take 2 90 (.pointer (some ⟨b39, 1, none⟩)) (pok_cont pok_body) ?_ (M98.drop 0) (fun _ _ _ => by kernel_rfl)
              refine ty_take 3 91 (.slice A29 vs31.length c30) (pok_cont pok_body) ?_ (M98.drop 0) (fun _ M' _ => rl M' 3)
              refine ty_take 4 92 (.int .i64 (i51 : Int)) (pok_cont pok_body) ?_ (M98.drop 0) (fun _ _ _ => by kernel_rfl)
              obtain ⟨ad99, rfl⟩ := C_some (M98.row_C 5 rfl) (k := i51) (by omega)
              refine ty_take 5 93 (.pointer (some (ad99.add (i51 * 3)))) (pok_cont pok_body) ?_ (M98.drop 0) (fun _ _ _ => ri (ad := ad99) (n := vs31.length) (c := c30) i51 3 (by omega) Try.underlying22)
              obtain ⟨A100, c101, hv102⟩ := raw_at hok33 (j := i51) (by omega)
              refine ty_take 6 94 (.agg #[.int .i64 (l.getD i51 Blk.z).id, .int .i64 (l.getD i51 Blk.z).pos, .slice A100 (l.getD i51 Blk.z).w.length c101]) (pok_cont pok_body) ?_ (M98.drop 0) (fun _ M' _ => by obtain ⟨cs_, hk_, hc_⟩ := C_cell (M'.row_C 4 rfl) rawG0 i51 (by omega); rw [hv102] at hk_; obtain ⟨rfl, _, _⟩ := hk_; exact rea (vs := #[.int .i64 (l.getD i51 Blk.z).id, .int .i64 (l.getD i51 Blk.z).pos, .slice A100 (l.getD i51 Blk.z).w.length c101]) hc_ Try.underlying103)
              refine ty_all (rs := [7]) (te_one ?_)
              have M106 := M98.flat (d := kRawG 2) (x := (([.int .i64 (l.getD i51 Blk.z).id, .int .i64 (l.getD i51 Blk.z).pos], A100, (l.getD i51 Blk.z).w.length, c101) : RawG)) (cs := [.int .i64 (l.getD i51 Blk.z).id, .int .i64 (l.getD i51 Blk.z).pos, .slice A100 (l.getD i51 Blk.z).w.length c101]) (rawB_M _ _ _ _ _ _)
              refine te_bs1 (x := (([.int .i64 (l.getD i51 Blk.z).id, .int .i64 (l.getD i51 Blk.z).pos], A100, (l.getD i51 Blk.z).w.length, c101) : RawG)) (cs := #[.int .i64 (l.getD i51 Blk.z).id, .int .i64 (l.getD i51 Blk.z).pos, .slice A100 (l.getD i51 Blk.z).w.length c101]) M106 95 103 (fun _ _ M_ _ _ => ((M_.drop 1).drop 0)) fun b103 w104 M105 => ?_
              refine ty_all (rs := [8]) (te_one ?_)
              have M111 := M105.front 1 rfl
              refine te_ap (z := .agg #[.int .i64 0, .int .i64 0, .slice none 0 0]) (bytes := 40) M111 96 Try.underlying22 ?_ (fun _ _ _ M_ _ _ => (M_.drop 0)) fun A107 c108 w109 M110 => ?_
              · have hul := us_len (vs := vs31) (x := (([.int .i64 id, .int .i64 a], A56, ws.length, c57) : RawG)) (i := i51) (q := q52) (dn := true); simp only [List.length_append, List.length_nil, List.length_cons, List.length_take] at hul ⊢; omega
              refine ty_take 9 97 (.pointer (some ⟨b44, 1, none⟩)) (pok_cont pok_body) ?_ (M110.drop 0) (fun _ _ _ => by kernel_rfl)
              refine ty_all (rs := [10]) (te_one ?_)
              refine te_st M110 3 #[.int .i64 cap, .slice A107 (((List.take i51 vs31) ++ [(([.int .i64 id, .int .i64 a], A80, ([] ++ ws).length, c81) : RawG)]) ++ [(([.int .i64 (l.getD i51 Blk.z).id, .int .i64 (l.getD i51 Blk.z).pos], A100, (l.getD i51 Blk.z).w.length, c101) : RawG)]).length c108] (fun _ _ h_ _ => absurd (by decide) h_) fun w112 M113 => ?_
              refine ty_endL ?_
              refine tn_blk (tn_code (tc_region ?_))
              refine sg 3 [1, 2, 3, 8, 11, 12, 14, 13] [(1, .int .i64 id), (2, .int .i64 a), (3, .slice Aw ws.length cws), (8, .pointer (some ⟨b4, 0, none⟩)), (11, .pointer (some ⟨b39, 0, none⟩)), (12, .pointer (some ⟨b44, 0, none⟩)), (14, .int .i64 (IntKind.wrap .i64 ((i51 : Int) + 1))), (13, .bool true)] ?_
              rw [show IntKind.wrap .i64 ((i51 : Int) + 1) = (((i51 + 1) : Nat) : Int) from wr_nat i51 1 (by omega)]
              refine to_end rfl ?_
              have M115 := M113.drop 2
              have hs114 : (((List.take i51 vs31) ++ [(([.int .i64 id, .int .i64 a], A80, ([] ++ ws).length, c81) : RawG)]) ++ [(([.int .i64 (l.getD i51 Blk.z).id, .int .i64 (l.getD i51 Blk.z).pos], A100, (l.getD i51 Blk.z).w.length, c101) : RawG)]) = usF vs31 (([.int .i64 id, .int .i64 a], A80, ws.length, c81) : RawG) (i51 + 1) i51 true := us_b (by omega) hv102
              have hm_ := M115
              rw [hs114] at hm_
              exact tn_back (s := (i51, q52, false, A54, c55, A56, c57)) (i51 + 1, i51, true, A107, c108, A80, c81) (Sub.cons rfl (Sub.cons rfl (Sub.cons rfl (Sub.cons rfl (Sub.cons rfl (Sub.cons rfl (Sub.cons rfl (Sub.cons rfl (Sub.nil _))))))))) ⟨puti_in hq1 (fun h_ => by omega), hm_⟩ (by simp only; omega)
            · have h95p := of_decide_eq_false h95
              refine tc_skip (tn_blk (tn_code (tc_region ?_)))
              refine sg 3 [1, 2, 3, 8, 11, 12, 14, 13] [(1, .int .i64 id), (2, .int .i64 a), (3, .slice Aw ws.length cws), (8, .pointer (some ⟨b4, 0, none⟩)), (11, .pointer (some ⟨b39, 0, none⟩)), (12, .pointer (some ⟨b44, 0, none⟩)), (14, .int .i64 (IntKind.wrap .i64 ((i51 : Int) + 1))), (13, .bool true)] ?_
              rw [show IntKind.wrap .i64 ((i51 : Int) + 1) = (((i51 + 1) : Nat) : Int) from wr_nat i51 1 (by omega)]
              refine to_end rfl ?_
              have M117 := M94.drop 2
              have hs116 : ((List.take i51 vs31) ++ [(([.int .i64 id, .int .i64 a], A80, ([] ++ ws).length, c81) : RawG)]) = usF vs31 (([.int .i64 id, .int .i64 a], A80, ws.length, c81) : RawG) (i51 + 1) i51 true := us_c (by omega)
              have hm_ := M117
              rw [hs116] at hm_
              exact tn_back (s := (i51, q52, false, A54, c55, A56, c57)) (i51 + 1, i51, true, A88, c89, A80, c81) (Sub.cons rfl (Sub.cons rfl (Sub.cons rfl (Sub.cons rfl (Sub.cons rfl (Sub.cons rfl (Sub.cons rfl (Sub.cons rfl (Sub.nil _))))))))) ⟨puti_in hq1 (fun h_ => by omega), hm_⟩ (by simp only; omega)
          · have h77p := h77
            simp only [Bool.or_eq_true, Bool.and_eq_true, Bool.or_eq_false_iff, Bool.and_eq_false_iff, decide_eq_true_eq, decide_eq_false_iff_not, beq_iff_eq, bne_iff_ne, beq_eq_false_iff_ne, bne_eq_false_iff_eq, Bool.not_eq_true', Bool.not_eq_false', ne_eq] at h77p
            refine tc_skip (tn_code (tc_seq (tc_region ?_)))
            refine sg 2 [1, 2, 3, 8, 11, 12, 14, 13, 83, 84] [(1, .int .i64 id), (2, .int .i64 a), (3, .slice Aw ws.length cws), (8, .pointer (some ⟨b4, 0, none⟩)), (11, .pointer (some ⟨b39, 0, none⟩)), (12, .pointer (some ⟨b44, 0, none⟩)), (14, .int .i64 (i51 : Int)), (13, .bool false), (83, .int .i64 (i51 : Int)), (84, .pointer (some ⟨b39, 1, none⟩))] ?_
            refine ld M67 3 85 (.slice A29 vs31.length c30) ?_
            refine sg 2 [1, 2, 3, 8, 11, 12, 14, 13, 87] [(1, .int .i64 id), (2, .int .i64 a), (3, .slice Aw ws.length cws), (8, .pointer (some ⟨b4, 0, none⟩)), (11, .pointer (some ⟨b39, 0, none⟩)), (12, .pointer (some ⟨b44, 0, none⟩)), (14, .int .i64 (i51 : Int)), (13, .bool false), (87, .bool (decide ((i51 : Int) < (vs31.length : Int))))] ?_
            refine to_end rfl (tn_code ?_)
            refine tc_cond (b := decide ((i51 : Int) < (vs31.length : Int))) (fun _ => rfl) (fun h118 => ?_) (fun h118 => ?_)
            · have h118p := of_decide_eq_true h118
              refine tc_drawL (fun w' => Mem w w' ([putE false A56 c57 ws, blk b44 #[.int .i64 cap, .slice A54 (List.take i51 vs31).length c55] 24, blk b39 #[.int .i64 cap, .slice A29 vs31.length c30] 24, row (kRawG 2) 103 (.slice A29 vs31.length c30) vs31, star (codesG SB vs31 l), blk b4 #[.int .i64 0, .slice none 0 0] 24, blk b1 #[.int .i64 cap, .slice A l.length c] 24])) [10] (by kernel_rfl) ?_
              have M119 := M67.draw
              refine ty_take 0 88 (.pointer (some ⟨b44, 1, none⟩)) (pok_cont pok_body) ?_ (M119.drop 0) (fun _ _ _ => by kernel_rfl)
              refine ty_take 1 89 (.slice A54 (List.take i51 vs31).length c55) (pok_cont pok_body) ?_ (M119.drop 0) (fun _ M' _ => rl M' 1)
              refine ty_take 2 90 (.pointer (some ⟨b39, 1, none⟩)) (pok_cont pok_body) ?_ (M119.drop 0) (fun _ _ _ => by kernel_rfl)
              refine ty_take 3 91 (.slice A29 vs31.length c30) (pok_cont pok_body) ?_ (M119.drop 0) (fun _ M' _ => rl M' 2)
              refine ty_take 4 92 (.int .i64 (i51 : Int)) (pok_cont pok_body) ?_ (M119.drop 0) (fun _ _ _ => by kernel_rfl)
              obtain ⟨ad120, rfl⟩ := C_some (M119.row_C 4 rfl) (k := i51) (by omega)
              refine ty_take 5 93 (.pointer (some (ad120.add (i51 * 3)))) (pok_cont pok_body) ?_ (M119.drop 0) (fun _ _ _ => ri (ad := ad120) (n := vs31.length) (c := c30) i51 3 (by omega) Try.underlying22)
              obtain ⟨A121, c122, hv123⟩ := raw_at hok33 (j := i51) (by omega)
              refine ty_take 6 94 (.agg #[.int .i64 (l.getD i51 Blk.z).id, .int .i64 (l.getD i51 Blk.z).pos, .slice A121 (l.getD i51 Blk.z).w.length c122]) (pok_cont pok_body) ?_ (M119.drop 0) (fun _ M' _ => by obtain ⟨cs_, hk_, hc_⟩ := C_cell (M'.row_C 3 rfl) rawG0 i51 (by omega); rw [hv123] at hk_; obtain ⟨rfl, _, _⟩ := hk_; exact rea (vs := #[.int .i64 (l.getD i51 Blk.z).id, .int .i64 (l.getD i51 Blk.z).pos, .slice A121 (l.getD i51 Blk.z).w.length c122]) hc_ Try.underlying103)
              refine ty_all (rs := [7]) (te_one ?_)
              have M127 := M119.flat (d := kRawG 2) (x := (([.int .i64 (l.getD i51 Blk.z).id, .int .i64 (l.getD i51 Blk.z).pos], A121, (l.getD i51 Blk.z).w.length, c122) : RawG)) (cs := [.int .i64 (l.getD i51 Blk.z).id, .int .i64 (l.getD i51 Blk.z).pos, .slice A121 (l.getD i51 Blk.z).w.length c122]) (rawB_M _ _ _ _ _ _)
              refine te_bs1 (x := (([.int .i64 (l.getD i51 Blk.z).id, .int .i64 (l.getD i51 Blk.z).pos], A121, (l.getD i51 Blk.z).w.length, c122) : RawG)) (cs := #[.int .i64 (l.getD i51 Blk.z).id, .int .i64 (l.getD i51 Blk.z).pos, .slice A121 (l.getD i51 Blk.z).w.length c122]) M127 95 103 (fun _ _ M_ _ _ => ((M_.drop 1).drop 0)) fun b124 w125 M126 => ?_
              refine ty_all (rs := [8]) (te_one ?_)
              have M132 := M126.front 1 rfl
              refine te_ap (z := .agg #[.int .i64 0, .int .i64 0, .slice none 0 0]) (bytes := 40) M132 96 Try.underlying22 ?_ (fun _ _ _ M_ _ _ => (M_.drop 0)) fun A128 c129 w130 M131 => ?_
              · have hul := us_len (vs := vs31) (x := (([.int .i64 id, .int .i64 a], A56, ws.length, c57) : RawG)) (i := i51) (q := q52) (dn := true); simp only [List.length_append, List.length_nil, List.length_cons, List.length_take] at hul ⊢; omega
              refine ty_take 9 97 (.pointer (some ⟨b44, 1, none⟩)) (pok_cont pok_body) ?_ (M131.drop 0) (fun _ _ _ => by kernel_rfl)
              refine ty_all (rs := [10]) (te_one ?_)
              refine te_st M131 2 #[.int .i64 cap, .slice A128 ((List.take i51 vs31) ++ [(([.int .i64 (l.getD i51 Blk.z).id, .int .i64 (l.getD i51 Blk.z).pos], A121, (l.getD i51 Blk.z).w.length, c122) : RawG)]).length c129] (fun _ _ h_ _ => absurd (by decide) h_) fun w133 M134 => ?_
              refine ty_endL ?_
              refine tn_blk (tn_code (tc_region ?_))
              refine sg 3 [1, 2, 3, 8, 11, 12, 14, 13] [(1, .int .i64 id), (2, .int .i64 a), (3, .slice Aw ws.length cws), (8, .pointer (some ⟨b4, 0, none⟩)), (11, .pointer (some ⟨b39, 0, none⟩)), (12, .pointer (some ⟨b44, 0, none⟩)), (14, .int .i64 (IntKind.wrap .i64 ((i51 : Int) + 1))), (13, .bool false)] ?_
              rw [show IntKind.wrap .i64 ((i51 : Int) + 1) = (((i51 + 1) : Nat) : Int) from wr_nat i51 1 (by omega)]
              refine to_end rfl ?_
              have hs135 : ((List.take i51 vs31) ++ [(([.int .i64 (l.getD i51 Blk.z).id, .int .i64 (l.getD i51 Blk.z).pos], A121, (l.getD i51 Blk.z).w.length, c122) : RawG)]) = usF vs31 (([.int .i64 id, .int .i64 a], A56, ws.length, c57) : RawG) (i51 + 1) q52 false := by show _ = List.take (i51 + 1) vs31; rw [take_step rawG0 vs31 (by omega), hv123]
              have hm_ := M134
              rw [hs135] at hm_
              exact tn_back (s := (i51, q52, false, A54, c55, A56, c57)) (i51 + 1, q52, false, A128, c129, A56, c57) (Sub.cons rfl (Sub.cons rfl (Sub.cons rfl (Sub.cons rfl (Sub.cons rfl (Sub.cons rfl (Sub.cons rfl (Sub.cons rfl (Sub.nil _))))))))) ⟨puti_go hq1 (by omega) (by omega), hm_⟩ (by simp only; omega)
            · have h118p := of_decide_eq_false h118
              refine tc_skip (tn_blk (tn_code (tc_region ?_)))
              refine sg 3 [1, 2, 3, 8, 11, 12, 14, 13] [(1, .int .i64 id), (2, .int .i64 a), (3, .slice Aw ws.length cws), (8, .pointer (some ⟨b4, 0, none⟩)), (11, .pointer (some ⟨b39, 0, none⟩)), (12, .pointer (some ⟨b44, 0, none⟩)), (14, .int .i64 (IntKind.wrap .i64 ((i51 : Int) + 1))), (13, .bool false)] ?_
              rw [show IntKind.wrap .i64 ((i51 : Int) + 1) = (((i51 + 1) : Nat) : Int) from wr_nat i51 1 (by omega)]
              refine to_end rfl ?_
              exfalso
              omega
        · obtain ⟨hqi, hqn, hqp, hqg⟩ := hq1.yes rfl
          have M137 : Mem w w64 ([row (kRawG 2) 103 (.slice A54 (usF vs31 (([.int .i64 id, .int .i64 a], A56, ws.length, c57) : RawG) i51 q52 true).length c55) (usF vs31 (([.int .i64 id, .int .i64 a], A56, ws.length, c57) : RawG) i51 q52 true), putE true A56 c57 ws, blk b44 #[.int .i64 cap, .slice A54 (usF vs31 (([.int .i64 id, .int .i64 a], A56, ws.length, c57) : RawG) i51 q52 true).length c55] 24, blk b39 #[.int .i64 cap, .slice A29 vs31.length c30] 24, row (kRawG 2) 103 (.slice A29 vs31.length c30) vs31, star (codesG SB vs31 l), blk b4 #[.int .i64 0, .slice none 0 0] 24, blk b1 #[.int .i64 cap, .slice A l.length c] 24]) := M65
          refine tc_seq (tc_seq (tc_region ?_))
          refine sg 2 [1, 2, 3, 8, 11, 12, 14, 13, 47, 48] [(1, .int .i64 id), (2, .int .i64 a), (3, .slice Aw ws.length cws), (8, .pointer (some ⟨b4, 0, none⟩)), (11, .pointer (some ⟨b39, 0, none⟩)), (12, .pointer (some ⟨b44, 0, none⟩)), (14, .int .i64 (i51 : Int)), (13, .bool true), (47, .int .i64 (i51 : Int)), (48, .pointer (some ⟨b39, 1, none⟩))] ?_
          refine ld M137 3 49 (.slice A29 vs31.length c30) ?_
          refine sg 2 [1, 2, 3, 8, 11, 12, 14, 13, 51] [(1, .int .i64 id), (2, .int .i64 a), (3, .slice Aw ws.length cws), (8, .pointer (some ⟨b4, 0, none⟩)), (11, .pointer (some ⟨b39, 0, none⟩)), (12, .pointer (some ⟨b44, 0, none⟩)), (14, .int .i64 (i51 : Int)), (13, .bool true), (51, .bool (decide ((i51 : Int) ≤ (vs31.length : Int))))] ?_
          refine to_end rfl (tn_code ?_)
          refine tc_cond (b := decide ((i51 : Int) ≤ (vs31.length : Int))) (fun _ => rfl) (fun h138 => ?_) (fun h138 => ?_)
          · have h138p := of_decide_eq_true h138
            refine tc_skip (tn_code (tc_seq (tc_block (tc_seq (tc_seq (tc_region ?_))))))
            refine sg 19 [1, 2, 3, 8, 11, 12, 14, 13, 72] [(1, .int .i64 id), (2, .int .i64 a), (3, .slice Aw ws.length cws), (8, .pointer (some ⟨b4, 0, none⟩)), (11, .pointer (some ⟨b39, 0, none⟩)), (12, .pointer (some ⟨b44, 0, none⟩)), (14, .int .i64 (i51 : Int)), (13, .bool true), (72, .bool false)] ?_
            refine to_end rfl (tn_code (tc_cond_f (fun _ => rfl) (tc_skip (tn_code (tc_seq (tc_region ?_))))))
            refine sg 2 [1, 2, 3, 8, 11, 12, 14, 13, 83, 84] [(1, .int .i64 id), (2, .int .i64 a), (3, .slice Aw ws.length cws), (8, .pointer (some ⟨b4, 0, none⟩)), (11, .pointer (some ⟨b39, 0, none⟩)), (12, .pointer (some ⟨b44, 0, none⟩)), (14, .int .i64 (i51 : Int)), (13, .bool true), (83, .int .i64 (i51 : Int)), (84, .pointer (some ⟨b39, 1, none⟩))] ?_
            refine ld M137 3 85 (.slice A29 vs31.length c30) ?_
            refine sg 2 [1, 2, 3, 8, 11, 12, 14, 13, 87] [(1, .int .i64 id), (2, .int .i64 a), (3, .slice Aw ws.length cws), (8, .pointer (some ⟨b4, 0, none⟩)), (11, .pointer (some ⟨b39, 0, none⟩)), (12, .pointer (some ⟨b44, 0, none⟩)), (14, .int .i64 (i51 : Int)), (13, .bool true), (87, .bool (decide ((i51 : Int) < (vs31.length : Int))))] ?_
            refine to_end rfl (tn_code ?_)
            refine tc_cond (b := decide ((i51 : Int) < (vs31.length : Int))) (fun _ => rfl) (fun h139 => ?_) (fun h139 => ?_)
            · have h139p := of_decide_eq_true h139
              refine tc_drawL (fun w' => Mem w w' ([putE true A56 c57 ws, blk b44 #[.int .i64 cap, .slice A54 (usF vs31 (([.int .i64 id, .int .i64 a], A56, ws.length, c57) : RawG) i51 q52 true).length c55] 24, blk b39 #[.int .i64 cap, .slice A29 vs31.length c30] 24, row (kRawG 2) 103 (.slice A29 vs31.length c30) vs31, star (codesG SB vs31 l), blk b4 #[.int .i64 0, .slice none 0 0] 24, blk b1 #[.int .i64 cap, .slice A l.length c] 24])) [10] (by kernel_rfl) ?_
              have M140 := M137.draw
              refine ty_take 0 88 (.pointer (some ⟨b44, 1, none⟩)) (pok_cont pok_body) ?_ (M140.drop 0) (fun _ _ _ => by kernel_rfl)
              refine ty_take 1 89 (.slice A54 (usF vs31 (([.int .i64 id, .int .i64 a], A56, ws.length, c57) : RawG) i51 q52 true).length c55) (pok_cont pok_body) ?_ (M140.drop 0) (fun _ M' _ => rl M' 1)
              refine ty_take 2 90 (.pointer (some ⟨b39, 1, none⟩)) (pok_cont pok_body) ?_ (M140.drop 0) (fun _ _ _ => by kernel_rfl)
              refine ty_take 3 91 (.slice A29 vs31.length c30) (pok_cont pok_body) ?_ (M140.drop 0) (fun _ M' _ => rl M' 2)
              refine ty_take 4 92 (.int .i64 (i51 : Int)) (pok_cont pok_body) ?_ (M140.drop 0) (fun _ _ _ => by kernel_rfl)
              obtain ⟨ad141, rfl⟩ := C_some (M140.row_C 4 rfl) (k := i51) (by omega)
              refine ty_take 5 93 (.pointer (some (ad141.add (i51 * 3)))) (pok_cont pok_body) ?_ (M140.drop 0) (fun _ _ _ => ri (ad := ad141) (n := vs31.length) (c := c30) i51 3 (by omega) Try.underlying22)
              obtain ⟨A142, c143, hv144⟩ := raw_at hok33 (j := i51) (by omega)
              refine ty_take 6 94 (.agg #[.int .i64 (l.getD i51 Blk.z).id, .int .i64 (l.getD i51 Blk.z).pos, .slice A142 (l.getD i51 Blk.z).w.length c143]) (pok_cont pok_body) ?_ (M140.drop 0) (fun _ M' _ => by obtain ⟨cs_, hk_, hc_⟩ := C_cell (M'.row_C 3 rfl) rawG0 i51 (by omega); rw [hv144] at hk_; obtain ⟨rfl, _, _⟩ := hk_; exact rea (vs := #[.int .i64 (l.getD i51 Blk.z).id, .int .i64 (l.getD i51 Blk.z).pos, .slice A142 (l.getD i51 Blk.z).w.length c143]) hc_ Try.underlying103)
              refine ty_all (rs := [7]) (te_one ?_)
              have M148 := M140.flat (d := kRawG 2) (x := (([.int .i64 (l.getD i51 Blk.z).id, .int .i64 (l.getD i51 Blk.z).pos], A142, (l.getD i51 Blk.z).w.length, c143) : RawG)) (cs := [.int .i64 (l.getD i51 Blk.z).id, .int .i64 (l.getD i51 Blk.z).pos, .slice A142 (l.getD i51 Blk.z).w.length c143]) (rawB_M _ _ _ _ _ _)
              refine te_bs1 (x := (([.int .i64 (l.getD i51 Blk.z).id, .int .i64 (l.getD i51 Blk.z).pos], A142, (l.getD i51 Blk.z).w.length, c143) : RawG)) (cs := #[.int .i64 (l.getD i51 Blk.z).id, .int .i64 (l.getD i51 Blk.z).pos, .slice A142 (l.getD i51 Blk.z).w.length c143]) M148 95 103 (fun _ _ M_ _ _ => ((M_.drop 1).drop 0)) fun b145 w146 M147 => ?_
              refine ty_all (rs := [8]) (te_one ?_)
              have M153 := M147.front 1 rfl
              refine te_ap (z := .agg #[.int .i64 0, .int .i64 0, .slice none 0 0]) (bytes := 40) M153 96 Try.underlying22 ?_ (fun _ _ _ M_ _ _ => (M_.drop 0)) fun A149 c150 w151 M152 => ?_
              · have hul := us_len (vs := vs31) (x := (([.int .i64 id, .int .i64 a], A56, ws.length, c57) : RawG)) (i := i51) (q := q52) (dn := true); simp only [List.length_append, List.length_nil, List.length_cons, List.length_take] at hul ⊢; omega
              refine ty_take 9 97 (.pointer (some ⟨b44, 1, none⟩)) (pok_cont pok_body) ?_ (M152.drop 0) (fun _ _ _ => by kernel_rfl)
              refine ty_all (rs := [10]) (te_one ?_)
              refine te_st M152 2 #[.int .i64 cap, .slice A149 ((usF vs31 (([.int .i64 id, .int .i64 a], A56, ws.length, c57) : RawG) i51 q52 true) ++ [(([.int .i64 (l.getD i51 Blk.z).id, .int .i64 (l.getD i51 Blk.z).pos], A142, (l.getD i51 Blk.z).w.length, c143) : RawG)]).length c150] (fun _ _ h_ _ => absurd (by decide) h_) fun w154 M155 => ?_
              refine ty_endL ?_
              refine tn_blk (tn_code (tc_region ?_))
              refine sg 3 [1, 2, 3, 8, 11, 12, 14, 13] [(1, .int .i64 id), (2, .int .i64 a), (3, .slice Aw ws.length cws), (8, .pointer (some ⟨b4, 0, none⟩)), (11, .pointer (some ⟨b39, 0, none⟩)), (12, .pointer (some ⟨b44, 0, none⟩)), (14, .int .i64 (IntKind.wrap .i64 ((i51 : Int) + 1))), (13, .bool true)] ?_
              rw [show IntKind.wrap .i64 ((i51 : Int) + 1) = (((i51 + 1) : Nat) : Int) from wr_nat i51 1 (by omega)]
              refine to_end rfl ?_
              have hs156 : ((usF vs31 (([.int .i64 id, .int .i64 a], A56, ws.length, c57) : RawG) i51 q52 true) ++ [(([.int .i64 (l.getD i51 Blk.z).id, .int .i64 (l.getD i51 Blk.z).pos], A142, (l.getD i51 Blk.z).w.length, c143) : RawG)]) = usF vs31 (([.int .i64 id, .int .i64 a], A56, ws.length, c57) : RawG) (i51 + 1) q52 true := us_d (by omega) (by omega) hv144
              have hm_ := M155
              rw [hs156] at hm_
              exact tn_back (s := (i51, q52, true, A54, c55, A56, c57)) (i51 + 1, q52, true, A149, c150, A56, c57) (Sub.cons rfl (Sub.cons rfl (Sub.cons rfl (Sub.cons rfl (Sub.cons rfl (Sub.cons rfl (Sub.cons rfl (Sub.cons rfl (Sub.nil _))))))))) ⟨puti_on hq1 (by omega), hm_⟩ (by simp only; omega)
            · have h139p := of_decide_eq_false h139
              refine tc_skip (tn_blk (tn_code (tc_region ?_)))
              refine sg 3 [1, 2, 3, 8, 11, 12, 14, 13] [(1, .int .i64 id), (2, .int .i64 a), (3, .slice Aw ws.length cws), (8, .pointer (some ⟨b4, 0, none⟩)), (11, .pointer (some ⟨b39, 0, none⟩)), (12, .pointer (some ⟨b44, 0, none⟩)), (14, .int .i64 (IntKind.wrap .i64 ((i51 : Int) + 1))), (13, .bool true)] ?_
              rw [show IntKind.wrap .i64 ((i51 : Int) + 1) = (((i51 + 1) : Nat) : Int) from wr_nat i51 1 (by omega)]
              refine to_end rfl ?_
              have hs157 : (usF vs31 (([.int .i64 id, .int .i64 a], A56, ws.length, c57) : RawG) i51 q52 true) = usF vs31 (([.int .i64 id, .int .i64 a], A56, ws.length, c57) : RawG) (i51 + 1) q52 true := us_e (by omega)
              have hm_ := M137
              rw [hs157] at hm_
              exact tn_back (s := (i51, q52, true, A54, c55, A56, c57)) (i51 + 1, q52, true, A54, c55, A56, c57) (Sub.cons rfl (Sub.cons rfl (Sub.cons rfl (Sub.cons rfl (Sub.cons rfl (Sub.cons rfl (Sub.cons rfl (Sub.cons rfl (Sub.nil _))))))))) ⟨puti_on hq1 (by omega), hm_⟩ (by simp only; omega)
          · have h138p := of_decide_eq_false h138
            refine tc_exitK (k' := _) rfl (tn_code (tc_seq (tc_region ?_)))
            refine la M137 2 98 #[.int .i64 cap, .slice A54 (usF vs31 (([.int .i64 id, .int .i64 a], A56, ws.length, c57) : RawG) i51 q52 true).length c55] (hu := Try.underlying24) ?_
            refine sa M137 6 #[.int .i64 cap, .slice A54 (usF vs31 (([.int .i64 id, .int .i64 a], A56, ws.length, c57) : RawG) i51 q52 true).length c55] fun w158 M159 => ?_
            refine sg 1 [8, 9] [(8, .pointer (some ⟨b4, 0, none⟩)), (9, .int .i64 0)] ?_
            refine to_end rfl (tn_code (tc_ret ?_))
            refine tr_cell_tmp M159 6 rfl rfl rfl rfl Try.underlying24 rfl (by kernel_rfl) ?_
            have M160 := M159.drop 7
            have M161 := M160.drop 6
            have M162 := M161.drop 4
            have M163 := M162.drop 3
            have M164 := M163.drop 2
            have M165 := M164.front 2 rfl
            have M166 := M165.front 2 rfl
            have M167 := codesG_ins (S := SB) (v := (([.int .i64 id, .int .i64 a], A56, ws.length, c57) : RawG)) (f := (⟨id, a, ws⟩ : Blk)) q52 hok33.1 M166
            have M168 := M167.swap
            rw [us_end (by omega)] at M168
            have hcc := M168.row_cap 0 rfl
            have he := put_in (cap := cap) (id := id) (ws := ws) (by have h_ := h12p; exact h_.1.1) (by omega) (by omega) (by omega) h24 hqn hqp (fun h_ => by have h2_ := hqg h_; omega)
            rw [he]
            have hln : (vs31.take q52 ++ (([.int .i64 id, .int .i64 a], A56, ws.length, c57) : RawG) :: vs31.drop q52).length = l.length + 1 := by simp only [List.length_append, List.length_cons, List.length_take, List.length_drop]; omega
            rw [hln] at hcc
            exact ⟨_, _, by rw [us_end (by omega), hln, ← ins_len (b := (⟨id, a, ws⟩ : Blk)) hqn], Mem.rd_apart (rawGOk_ins q52 hok33 rfl rfl) M168, by rw [ins_len hqn]; exact hcc⟩
    · have h20p := of_decide_eq_true h20
      refine sg 7 [1, 2, 3, 4, 8, 40] [(1, .int .i64 id), (2, .int .i64 a), (3, .slice Aw ws.length cws), (4, .pointer (some ⟨b1, 0, none⟩)), (8, .pointer (some ⟨b4, 0, none⟩)), (40, .bool true)] ?_
      refine to_end rfl (tn_code (tc_cond_t (fun _ => rfl) (tc_seq (tc_region ?_))))
      refine sg 1 [8, 41] [(8, .pointer (some ⟨b4, 0, none⟩)), (41, .agg #[.int .i64 0, .slice none 0 0])] ?_
      refine sa M18 0 #[.int .i64 0, .slice none 0 0] fun w170 M171 => ?_
      refine sg 1 [8, 9] [(8, .pointer (some ⟨b4, 0, none⟩)), (9, .int .i64 4)] ?_
      refine to_end rfl (tn_code (tc_ret ?_))
      refine tr_cell_tmp M171 0 rfl rfl rfl rfl Try.underlying24 rfl (by kernel_rfl) ?_
      have he172 : putM cap l id a ws = ((0, []), 4) := put_full (by have h_ := h12p; rintro (h1_ | h1_ | h1_); rw [h_.1.1] at h1_; cases h1_; omega; omega) (.inl (by omega))
      have M173 := ((((M171.drop 1).drop 0)).nilrow kBlk 103).rd_row
      rw [he172]
      exact ⟨none, 0, rfl, M173, Nat.le_refl _⟩
end Go.Proofs.Ytfknhbgghpbkpaa
