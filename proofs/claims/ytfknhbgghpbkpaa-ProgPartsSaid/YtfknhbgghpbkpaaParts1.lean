/- The law ProgParts: its walk. -/
import Derived.Test.YtfknhbgghpbkpaaMix
namespace Go.Proofs.Ytfknhbgghpbkpaa
open Go.RowKit Cal Go.Proofs.YtfknhbgghpbkpaaW.PrintWords
theorem parts_any (p : List Fn) (f : Fn) (A : Option Addr) (c : Nat) (Af : Option Addr) (cf : Nat) (w : World) (hC : kFn.C w A p.length p) (hF : kInst.C w Af f.code.length f.code) (hcf : f.code.length ≤ cf) : Calls Try.prog 7 #[.agg #[.slice A p.length c], .agg #[.int .i64 f.args, .slice Af f.code.length cf]] w fun e w' => e = .returned (.bool true) ∧ Below w.heap.size w w' := by
  have M := Mem.refl w
  have hmx := C_max hC
  refine calls_tc (N := 105) (args := [.agg #[.slice A p.length c], .agg #[.int .i64 f.args, .slice Af f.code.length cf]]) Try.func7 rfl rfl rfl ?_
  refine tc_seq (tc_region ?_)
  refine nw M 2 #[.slice A p.length c] 45 fun b1 w2 M3 => ?_
  refine nw M3 3 #[.int .i64 f.args, .slice Af f.code.length cf] 57 fun b4 w5 M6 => ?_
  refine sg 1 [2, 3] [(2, .pointer (some ⟨b1, 0, none⟩)), (3, .pointer (some ⟨b4, 0, none⟩))] ?_
  refine to_end rfl (tn_code (tc_seq (tc_region ?_)))
  refine cb M6 12 (awake_any _) fun w7 hb9 M8 => ?_
  refine sg 1 [2, 3, 5] [(2, .pointer (some ⟨b1, 0, none⟩)), (3, .pointer (some ⟨b4, 0, none⟩)), (5, .bool true)] ?_
  refine to_end rfl (tn_code (tc_seq (tc_region ?_)))
  refine la M8 1 13 #[.slice A p.length c] (hu := Try.underlying45) ?_
  refine cb M8 14 (few_any p A c _ (C_up M8 hC)) fun w10 hb12 M11 => ?_
  refine sg 1 [2, 3, 5, 6] [(2, .pointer (some ⟨b1, 0, none⟩)), (3, .pointer (some ⟨b4, 0, none⟩)), (5, .bool true), (6, .bool (fewB p))] ?_
  refine to_end rfl (tn_code (tc_seq (tc_seq (tc_region ?_))))
  refine sg 7 [2, 3, 5, 21] [(2, .pointer (some ⟨b1, 0, none⟩)), (3, .pointer (some ⟨b4, 0, none⟩)), (5, .bool true), (21, .bool (!(fewB p)))] ?_
  rcases h13 : (fewB p : Bool) with _ | _
  · refine sg 5 [2, 3, 5, 26] [(2, .pointer (some ⟨b1, 0, none⟩)), (3, .pointer (some ⟨b4, 0, none⟩)), (5, .bool true), (26, .bool true)] ?_
    refine to_end rfl (tn_code (tc_cond_t (fun _ => rfl) (tc_seq (tc_region ?_))))
    refine sg 2 [4] [(4, .bool true)] ?_
    refine to_end rfl (tn_code (tc_ret ?_))
    refine tr_tmp rfl rfl ?_
    exact ⟨rfl, M11.below⟩
  · refine sg 1 [2, 3, 5, 21, 22] [(2, .pointer (some ⟨b1, 0, none⟩)), (3, .pointer (some ⟨b4, 0, none⟩)), (5, .bool true), (21, .bool false), (22, .pointer (some ⟨b4, 1, none⟩))] ?_
    refine ld M11 0 23 (.slice Af f.code.length cf) ?_
    refine sg 3 [2, 3, 5, 26] [(2, .pointer (some ⟨b1, 0, none⟩)), (3, .pointer (some ⟨b4, 0, none⟩)), (5, .bool true), (26, .bool (decide ((f.code.length : Int) > 80)))] ?_
    refine to_end rfl (tn_code ?_)
    refine tc_cond (b := decide ((f.code.length : Int) > 80)) (fun _ => rfl) (fun h14 => ?_) (fun h14 => ?_)
    · have h14p := of_decide_eq_true h14
      refine tc_seq (tc_region ?_)
      refine sg 2 [4] [(4, .bool true)] ?_
      refine to_end rfl (tn_code (tc_ret ?_))
      refine tr_tmp rfl rfl ?_
      exact ⟨rfl, M11.below⟩
    · have h14p := of_decide_eq_false h14
      refine tc_skip (tn_code (tc_seq (tc_region ?_)))
      refine la M11 1 28 #[.slice A p.length c] (hu := Try.underlying45) ?_
      refine ce 29 (own_any p A c _ (C_up M11 hC) h13) fun e15 w16 h17 => ?_
      obtain ⟨A18, c19, rfl, hM20⟩ := h17
      have M21 := M11.join hM20
      refine ⟨_, rfl, ?_⟩
      have M22 := mix_row M21
      refine nw M22 7 #[.slice none 0 0] 45 fun b23 w24 M25 => ?_
      refine sa M25 0 #[.slice A18 p.length c19] fun w26 M27 => ?_
      refine to_end rfl (tn_code (tc_seq (tc_region ?_)))
      refine sg 1 [2, 3, 7, 30] [(2, .pointer (some ⟨b1, 0, none⟩)), (3, .pointer (some ⟨b4, 0, none⟩)), (7, .pointer (some ⟨b23, 0, none⟩)), (30, .pointer (some ⟨b23, 0, none⟩))] ?_
      refine ld M27 0 31 (.slice A18 p.length c19) ?_
      refine la M27 2 32 #[.int .i64 f.args, .slice Af f.code.length cf] (hu := Try.underlying57) ?_
      have M31 := M27.flat (d := kMix) (x := (Sum.inr (f.args, Af, f.code.length, cf) : MixE)) (cs := [.int .i64 f.args, .slice Af f.code.length cf]) (fun _ => rfl)
      refine bs1 (x := (Sum.inr (f.args, Af, f.code.length, cf) : MixE)) (cs := #[.int .i64 f.args, .slice Af f.code.length cf]) M31 33 57 fun b28 w29 M30 => ?_
      have M36 := M30.front 2 rfl
      refine ap (z := .agg #[.int .i64 0, .slice none 0 0]) (bytes := 32) M36 34 Try.underlying43 ?_ fun A32 c33 w34 M35 => ?_
      · have h_ := (fewB_bd h13).1; simp only [List.length_append, List.length_map, List.length_cons, List.length_nil]; omega
      have hql37 : ((p.map Sum.inl) ++ [(Sum.inr (f.args, Af, f.code.length, cf) : MixE)]).length = (p ++ [f]).length := by simp
      rw [hql37] at M35 ⊢
      refine sg 1 [2, 7, 34, 35] [(2, .pointer (some ⟨b1, 0, none⟩)), (7, .pointer (some ⟨b23, 0, none⟩)), (34, .slice A32 (p ++ [f]).length c33), (35, .pointer (some ⟨b23, 0, none⟩))] ?_
      refine st M35 1 #[.slice A32 (p ++ [f]).length c33] fun w38 M39 => ?_
      refine to_end rfl (tn_code (tc_seq (tc_region ?_)))
      refine la M39 3 37 #[.slice A p.length c] (hu := Try.underlying45) ?_
      rcases h40 : (progMay p : Bool) with _ | _
      · refine cb M39 38 (put_prog_not p A c _ (C_up M39 hC) h40) fun w41 hb43 M42 => ?_
        refine sg 5 [2, 7, 8, 9] [(2, .pointer (some ⟨b1, 0, none⟩)), (7, .pointer (some ⟨b23, 0, none⟩)), (8, .slice none 0 0), (9, .int .i64 1)] ?_
        refine to_end rfl (tn_code (tc_seq (tc_region ?_)))
        refine la M42 1 42 #[.slice A32 (p ++ [f]).length c33] (hu := Try.underlying45) ?_
        rcases h44 : (progMay (p ++ [f]) : Bool) with _ | _
        · refine cb M42 43 (put_prog_not (p ++ [f]) A32 c33 _ (parts_C (M42.row_C 0 rfl) (C_up M42 hF) hcf) h44) fun w45 hb47 M46 => ?_
          refine sg 5 [2, 7, 8, 9, 10, 11] [(2, .pointer (some ⟨b1, 0, none⟩)), (7, .pointer (some ⟨b23, 0, none⟩)), (8, .slice none 0 0), (9, .int .i64 1), (10, .slice none 0 0), (11, .int .i64 1)] ?_
          refine to_end rfl (tn_code (tc_seq (tc_seq (tc_region ?_))))
          refine sg 6 [2, 7, 8, 9, 10, 11, 51] [(2, .pointer (some ⟨b1, 0, none⟩)), (7, .pointer (some ⟨b23, 0, none⟩)), (8, .slice none 0 0), (9, .int .i64 1), (10, .slice none 0 0), (11, .int .i64 1), (51, .bool true)] ?_
          refine to_end rfl (tn_code (tc_cond_t (fun _ => rfl) (tc_seq (tc_region ?_))))
          refine sg 4 [11, 54, 55] [(11, .int .i64 1), (54, .bool false), (55, .pointer (some ⟨b1, 0, none⟩))] ?_
          refine ld M46 3 56 (.slice A p.length c) ?_
          refine sg 4 [11, 60] [(11, .int .i64 1), (60, .bool ((p.length : Int) == 0))] ?_
          rcases h48 : ((p.length : Int) == 0 : Bool) with _ | _
          · have h48p := beq_eq_false_iff_ne.1 h48
            refine sg 4 [4] [(4, .bool true)] ?_
            refine to_end rfl (tn_code (tc_ret ?_))
            refine tr_tmp rfl rfl ?_
            exact ⟨rfl, M46.below⟩
          · have h48p := beq_iff_eq.1 h48
            refine sg 4 [4] [(4, .bool true)] ?_
            refine to_end rfl (tn_code (tc_ret ?_))
            refine tr_tmp rfl rfl ?_
            exact ⟨rfl, M46.below⟩
        · refine ce 43 (put_prog (p ++ [f]) A32 c33 _ (parts_C (M42.row_C 0 rfl) (C_up M42 hF) hcf) h44) fun e49 w50 h51 => ?_
          obtain ⟨A52, c53, rfl, hM54⟩ := h51
          have M55 := M42.join hM54
          refine ⟨_, rfl, ?_⟩
          refine sg 5 [2, 7, 8, 9, 10, 11] [(2, .pointer (some ⟨b1, 0, none⟩)), (7, .pointer (some ⟨b23, 0, none⟩)), (8, .slice none 0 0), (9, .int .i64 1), (10, .slice A52 (progBytes (p ++ [f])).length c53), (11, .int .i64 0)] ?_
          refine to_end rfl (tn_code (tc_seq (tc_seq (tc_region ?_))))
          refine sg 6 [2, 7, 8, 9, 10, 11, 51] [(2, .pointer (some ⟨b1, 0, none⟩)), (7, .pointer (some ⟨b23, 0, none⟩)), (8, .slice none 0 0), (9, .int .i64 1), (10, .slice A52 (progBytes (p ++ [f])).length c53), (11, .int .i64 0), (51, .bool true)] ?_
          refine to_end rfl (tn_code (tc_cond_t (fun _ => rfl) (tc_seq (tc_region ?_))))
          refine sg 4 [11, 54, 55] [(11, .int .i64 0), (54, .bool false), (55, .pointer (some ⟨b1, 0, none⟩))] ?_
          refine ld M55 4 56 (.slice A p.length c) ?_
          refine sg 4 [11, 60] [(11, .int .i64 0), (60, .bool ((p.length : Int) == 0))] ?_
          rcases h56 : ((p.length : Int) == 0 : Bool) with _ | _
          · have h56p := beq_eq_false_iff_ne.1 h56
            refine sg 4 [4] [(4, .bool false)] ?_
            refine to_end rfl (tn_code (tc_ret ?_))
            refine tr_tmp rfl rfl ?_
            exact ⟨congrArg Ending.returned (congrArg Value.bool (by have h_ := parts_may h44 (by have hz_ := beq_eq_false_iff_ne.1 h56; omega); rw [h40] at h_; cases h_)), M55.below⟩
          · have h56p := beq_iff_eq.1 h56
            refine sg 4 [4] [(4, .bool true)] ?_
            refine to_end rfl (tn_code (tc_ret ?_))
            refine tr_tmp rfl rfl ?_
            exact ⟨rfl, M55.below⟩
      · refine ce 38 (put_prog p A c _ (C_up M39 hC) h40) fun e57 w58 h59 => ?_
        obtain ⟨A60, c61, rfl, hM62⟩ := h59
        have M63 := M39.join hM62
        refine ⟨_, rfl, ?_⟩
        refine sg 5 [2, 7, 8, 9] [(2, .pointer (some ⟨b1, 0, none⟩)), (7, .pointer (some ⟨b23, 0, none⟩)), (8, .slice A60 (progBytes p).length c61), (9, .int .i64 0)] ?_
        refine to_end rfl (tn_code (tc_seq (tc_region ?_)))
        refine la M63 2 42 #[.slice A32 (p ++ [f]).length c33] (hu := Try.underlying45) ?_
        rcases h64 : (progMay (p ++ [f]) : Bool) with _ | _
        · refine cb M63 43 (put_prog_not (p ++ [f]) A32 c33 _ (parts_C (M63.row_C 1 rfl) (C_up M63 hF) hcf) h64) fun w65 hb67 M66 => ?_
          refine sg 5 [2, 7, 8, 9, 10, 11] [(2, .pointer (some ⟨b1, 0, none⟩)), (7, .pointer (some ⟨b23, 0, none⟩)), (8, .slice A60 (progBytes p).length c61), (9, .int .i64 0), (10, .slice none 0 0), (11, .int .i64 1)] ?_
          refine to_end rfl (tn_code (tc_seq (tc_seq (tc_region ?_))))
          refine sg 6 [2, 7, 8, 9, 10, 11, 51] [(2, .pointer (some ⟨b1, 0, none⟩)), (7, .pointer (some ⟨b23, 0, none⟩)), (8, .slice A60 (progBytes p).length c61), (9, .int .i64 0), (10, .slice none 0 0), (11, .int .i64 1), (51, .bool true)] ?_
          refine to_end rfl (tn_code (tc_cond_t (fun _ => rfl) (tc_seq (tc_region ?_))))
          refine sg 13 [4] [(4, .bool true)] ?_
          refine to_end rfl (tn_code (tc_ret ?_))
          refine tr_tmp rfl rfl ?_
          exact ⟨rfl, M66.below⟩
        · refine ce 43 (put_prog (p ++ [f]) A32 c33 _ (parts_C (M63.row_C 1 rfl) (C_up M63 hF) hcf) h64) fun e68 w69 h70 => ?_
          obtain ⟨A71, c72, rfl, hM73⟩ := h70
          have M74 := M63.join hM73
          refine ⟨_, rfl, ?_⟩
          refine sg 5 [2, 7, 8, 9, 10, 11] [(2, .pointer (some ⟨b1, 0, none⟩)), (7, .pointer (some ⟨b23, 0, none⟩)), (8, .slice A60 (progBytes p).length c61), (9, .int .i64 0), (10, .slice A71 (progBytes (p ++ [f])).length c72), (11, .int .i64 0)] ?_
          refine to_end rfl (tn_code (tc_seq (tc_seq (tc_region ?_))))
          refine sg 6 [2, 7, 8, 9, 10, 11, 51] [(2, .pointer (some ⟨b1, 0, none⟩)), (7, .pointer (some ⟨b23, 0, none⟩)), (8, .slice A60 (progBytes p).length c61), (9, .int .i64 0), (10, .slice A71 (progBytes (p ++ [f])).length c72), (11, .int .i64 0), (51, .bool false)] ?_
          refine to_end rfl (tn_code (tc_cond_f (fun _ => rfl) (tc_skip (tn_code (tc_seq (tc_seq (tc_region ?_)))))))
          refine sg 3 [2, 7, 8, 10, 66] [(2, .pointer (some ⟨b1, 0, none⟩)), (7, .pointer (some ⟨b23, 0, none⟩)), (8, .slice A60 (progBytes p).length c61), (10, .slice A71 (progBytes (p ++ [f])).length c72), (66, .bool (decide (((progBytes p).length : Int) < 3)))] ?_
          refine to_end rfl (tn_code ?_)
          have ht75 : (decide (((progBytes p).length : Int) < 3) : Bool) = false := decide_eq_false (by have h_ := progBytes_len p; omega)
          have ht75p := of_decide_eq_false ht75
          rw [ht75]
          refine tc_cond_f (fun _ => rfl) (tc_skip (tn_code (tc_seq ?_)))
          refine tc_drawL (fun w' => Mem w w' ([row kB 5 (.slice A71 (progBytes (p ++ [f])).length c72) (progBytes (p ++ [f])), row kB 5 (.slice A60 (progBytes p).length c61) (progBytes p), row kMix 57 (.slice A32 (p ++ [f]).length c33) ((p.map Sum.inl) ++ [(Sum.inr (f.args, Af, f.code.length, cf) : MixE)]), blk b23 #[.slice A32 (p ++ [f]).length c33] 45, blk b4 #[.int .i64 f.args, .slice Af f.code.length cf] 57, blk b1 #[.slice A p.length c] 45])) [] (by kernel_rfl) ?_
          have M82 := M74.draw
          refine ty_take 0 67 (.pointer (some ⟨b23, 0, none⟩)) (pok_cont pok_body) ?_ M82 (fun _ _ _ => by kernel_rfl)
          refine ty_take 1 68 (.slice A32 (p ++ [f]).length c33) (pok_cont pok_body) ?_ M82 (fun _ M' _ => rl M' 3)
          refine ty_take 2 69 (.int .i64 ((p ++ [f]).length : Int)) (pok_cont pok_body) ?_ M82 (fun _ _ _ => by kernel_rfl)
          refine ty_take 3 70 (.bool (decide (((p ++ [f]).length : Int) ≤ 8))) (pok_cont pok_body) ?_ M82 (fun _ _ _ => by kernel_rfl)
          refine ty_take 4 71 (.bool (decide (((p ++ [f]).length : Int) ≤ 8))) (pok_cont pok_body) ?_ M82 (fun _ _ _ => by kernel_rfl)
          have ht83 : (decide (((p ++ [f]).length : Int) ≤ 8) : Bool) = true := decide_eq_true (by have h_ := (progMay_bd h64).2.1; omega)
          have ht83p := of_decide_eq_true ht83
          rw [ht83]
          refine ty_take 5 72 (.slice A71 (progBytes (p ++ [f])).length c72) (pok_cont pok_body) ?_ M82 (fun _ _ _ => by kernel_rfl)
          refine ty_take 6 73 (.int .i64 ((progBytes (p ++ [f])).length : Int)) (pok_cont pok_body) ?_ M82 (fun _ _ _ => by kernel_rfl)
          refine ty_take 7 74 (.slice A60 (progBytes p).length c61) (pok_cont pok_body) ?_ M82 (fun _ _ _ => by kernel_rfl)
          refine ty_take 8 75 (.int .i64 ((progBytes p).length : Int)) (pok_cont pok_body) ?_ M82 (fun _ _ _ => by kernel_rfl)
          refine ty_take 9 76 (.bool (decide (((progBytes (p ++ [f])).length : Int) > ((progBytes p).length : Int)))) (pok_cont pok_body) ?_ M82 (fun _ _ _ => by kernel_rfl)
          refine ty_take 10 77 (.bool (decide (((progBytes (p ++ [f])).length : Int) > ((progBytes p).length : Int)))) (pok_cont pok_body) ?_ M82 (fun _ _ _ => by kernel_rfl)
          refine ty_take 11 78 (.bool (decide (((progBytes (p ++ [f])).length : Int) > ((progBytes p).length : Int)))) (pok_cont pok_body) ?_ M82 (fun _ _ _ => by kernel_rfl)
          have ht84 : (decide (((progBytes (p ++ [f])).length : Int) > ((progBytes p).length : Int)) : Bool) = true := decide_eq_true (by have h_ := parts_len p f; have h2_ := fnBytes_pos f; omega)
          have ht84p := of_decide_eq_true ht84
          rw [ht84]
          refine ty_take 12 79 (.slice A71 (progBytes (p ++ [f])).length c72) (pok_cont pok_body) ?_ M82 (fun _ _ _ => by kernel_rfl)
          obtain ⟨ad85, rfl⟩ := C_some (M82.row_C 0 rfl) (k := 2) (by first | omega | (have h_ := progBytes_len p; have h2_ := parts_len p f; omega))
          refine ty_take 13 80 (.pointer (some (ad85.add (2 * 1)))) (pok_cont pok_body) ?_ M82 (fun _ _ _ => ri (ad := ad85) (n := (progBytes (p ++ [f])).length) (c := c72) 2 1 (by first | omega | (have h_ := progBytes_len p; have h2_ := parts_len p f; omega)) Try.underlying71)
          have hb86 : 0 ≤ ((progBytes (p ++ [f])).getD 2 0) ∧ ((progBytes (p ++ [f])).getD 2 0) < 256 := by rw [progBytes_2]; omega
          refine ty_take 14 81 (.int .u8 ((progBytes (p ++ [f])).getD 2 0)) (pok_cont pok_body) ?_ M82 (fun _ M' _ => by obtain ⟨cs_, hk_, hc_⟩ := C_cell (M'.row_C 0 rfl) (0 : Int) 2 (by first | omega | (have h_ := progBytes_len p; have h2_ := parts_len p f; omega)); obtain rfl := kB_open hk_; exact re (hc_ 0 _ rfl))
          refine ty_take 15 82 (.int .i64 (IntKind.wrap .i64 ((progBytes (p ++ [f])).getD 2 0))) (pok_cont pok_body) ?_ M82 (fun _ _ _ => by kernel_rfl)
          rw [wr_i64 (x := ((progBytes (p ++ [f])).getD 2 0)) (by omega) (by omega)]
          refine ty_take 16 83 (.slice A60 (progBytes p).length c61) (pok_cont pok_body) ?_ M82 (fun _ _ _ => by kernel_rfl)
          obtain ⟨ad87, rfl⟩ := C_some (M82.row_C 1 rfl) (k := 2) (by first | omega | (have h_ := progBytes_len p; have h2_ := parts_len p f; omega))
          refine ty_take 17 84 (.pointer (some (ad87.add (2 * 1)))) (pok_cont pok_body) ?_ M82 (fun _ _ _ => ri (ad := ad87) (n := (progBytes p).length) (c := c61) 2 1 (by first | omega | (have h_ := progBytes_len p; have h2_ := parts_len p f; omega)) Try.underlying71)
          have hb88 : 0 ≤ ((progBytes p).getD 2 0) ∧ ((progBytes p).getD 2 0) < 256 := by rw [progBytes_2]; omega
          refine ty_take 18 85 (.int .u8 ((progBytes p).getD 2 0)) (pok_cont pok_body) ?_ M82 (fun _ M' _ => by obtain ⟨cs_, hk_, hc_⟩ := C_cell (M'.row_C 1 rfl) (0 : Int) 2 (by first | omega | (have h_ := progBytes_len p; have h2_ := parts_len p f; omega)); obtain rfl := kB_open hk_; exact re (hc_ 0 _ rfl))
          refine ty_take 19 86 (.int .i64 (IntKind.wrap .i64 ((progBytes p).getD 2 0))) (pok_cont pok_body) ?_ M82 (fun _ _ _ => by kernel_rfl)
          rw [wr_i64 (x := ((progBytes p).getD 2 0)) (by omega) (by omega)]
          refine ty_take 20 87 (.int .i64 (IntKind.wrap .i64 (((progBytes p).getD 2 0) + 1))) (pok_cont pok_body) ?_ M82 (fun _ _ _ => by kernel_rfl)
          rw [wr_i64 (x := ((progBytes p).getD 2 0) + 1) (by omega) (by omega)]
          refine ty_take 21 88 (.bool (((progBytes (p ++ [f])).getD 2 0) == (((progBytes p).getD 2 0) + 1))) (pok_cont pok_body) ?_ M82 (fun _ _ _ => by kernel_rfl)
          refine ty_take 22 89 (.bool (((progBytes (p ++ [f])).getD 2 0) == (((progBytes p).getD 2 0) + 1))) (pok_cont pok_body) ?_ M82 (fun _ _ _ => by kernel_rfl)
          refine ty_take 23 90 (.bool (((progBytes (p ++ [f])).getD 2 0) == (((progBytes p).getD 2 0) + 1))) (pok_cont pok_body) ?_ M82 (fun _ _ _ => by kernel_rfl)
          have ht89 : (((progBytes (p ++ [f])).getD 2 0) == (((progBytes p).getD 2 0) + 1) : Bool) = true := beq_iff_eq.2 (parts_2 (progMay_bd h64).2.1)
          have ht89p := beq_iff_eq.1 ht89
          rw [ht89]
          refine ty_take 24 91 (.slice (some ad87) (progBytes p).length c61) (pok_cont pok_body) ?_ M82 (fun _ _ _ => by kernel_rfl)
          obtain ⟨A90, hr91, hA92, hle93⟩ := cutf (P := Try.prog) (d := kB) Try.underlying71 (by kernel_rfl) (some ad87) (progBytes p) c61 3 .i64 (by have h_ := progBytes_len p; have h2_ := parts_len p f; omega) (M82.row_cap 1 rfl)
          refine ty_take 25 92 (.slice A90 ((progBytes p).drop 3).length (c61 - 3)) (pok_cont pok_body) ?_ M82 (fun w' _ _ => exec_slice rfl rfl rfl rfl (hr91 w'))
          refine ty_take 26 93 (.slice (some ad85) (progBytes (p ++ [f])).length c72) (pok_cont pok_body) ?_ M82 (fun _ _ _ => by kernel_rfl)
          refine ty_take 27 94 (.slice (some ad87) (progBytes p).length c61) (pok_cont pok_body) ?_ M82 (fun _ _ _ => by kernel_rfl)
          refine ty_take 28 95 (.int .i64 ((progBytes p).length : Int)) (pok_cont pok_body) ?_ M82 (fun _ _ _ => by kernel_rfl)
          obtain ⟨A94, hr95, hA96, hle97⟩ := cutm (P := Try.prog) (d := kB) Try.underlying71 (by kernel_rfl) (some ad85) (progBytes (p ++ [f])) c72 3 (progBytes p).length .i64 .i64 (by have h_ := progBytes_len p; have h2_ := parts_len p f; omega) (by have h_ := progBytes_len p; have h2_ := parts_len p f; omega) (M82.row_cap 0 rfl)
          refine ty_take 29 96 (.slice A94 (((progBytes (p ++ [f])).take (progBytes p).length).drop 3).length (c72 - 3)) (pok_cont pok_body) ?_ M82 (fun w' _ _ => exec_slice rfl rfl rfl rfl (hr95 w'))
          refine ty_all (rs := [30]) (te_one ?_)
          refine te_cb M82 97 (bytes_any A90 (c61 - 3) ((progBytes p).drop 3) A94 (c72 - 3) (((progBytes (p ++ [f])).take (progBytes p).length).drop 3) _ (hA92 _ (M82.row_C 1 rfl)) (hA96 _ (M82.row_C 0 rfl))) (fun _ hb _ M' => M'.call hb) fun w98 hb100 M99 => ?_
          refine ty_take 31 98 (.bool (decide (((progBytes p).drop 3) = (((progBytes (p ++ [f])).take (progBytes p).length).drop 3)))) (pok_cont pok_body) ?_ M99 (fun _ _ _ => by kernel_rfl)
          refine ty_take 32 99 (.bool (decide (((progBytes p).drop 3) = (((progBytes (p ++ [f])).take (progBytes p).length).drop 3)))) (pok_cont pok_body) ?_ M99 (fun _ _ _ => by kernel_rfl)
          have ht101 : (decide (((progBytes p).drop 3) = (((progBytes (p ++ [f])).take (progBytes p).length).drop 3)) : Bool) = true := decide_eq_true (parts_bytes p f)
          have ht101p := of_decide_eq_true ht101
          rw [ht101]
          refine ty_take 33 100 (.agg #[.slice A p.length c]) (pok_cont pok_body) ?_ M99 (fun _ M' _ => rla M' 5 (vs := #[.slice A p.length c]) Try.underlying45)
          refine ty_take 34 101 (.agg #[.slice A32 (p ++ [f]).length c33]) (pok_cont pok_body) ?_ M99 (fun _ M' _ => rla M' 3 (vs := #[.slice A32 (p ++ [f]).length c33]) Try.underlying45)
          refine ty_all (rs := [35]) (te_one ?_)
          refine te_cb M99 102 (psame_any A c p A32 c33 (p ++ [f]) _ (C_up M99 hC) (parts_C (M99.row_C 2 rfl) (C_up M99 hF) hcf)) (fun _ hb _ M' => M'.call hb) fun w102 hb104 M103 => ?_
          refine ty_take 36 103 (.bool (!(decide (p = (p ++ [f]))))) (pok_cont pok_body) ?_ M103 (fun _ _ _ => by kernel_rfl)
          refine ty_take 37 104 (.bool (!(decide (p = (p ++ [f]))))) (pok_cont pok_body) ?_ M103 (fun _ _ _ => by kernel_rfl)
          refine ty_take 38 4 (.bool (!(decide (p = (p ++ [f]))))) (pok_cont pok_body) ?_ M103 (fun _ _ _ => by kernel_rfl)
          refine ty_endL ?_
          refine tn_code (tc_ret ?_)
          refine tr_tmp rfl rfl ?_
          have ht105 : (decide (p = (p ++ [f])) : Bool) = false := parts_same p f
          have ht105p := of_decide_eq_false ht105
          exact ⟨congrArg Ending.returned (congrArg Value.bool (by rw [ht105]; rfl)), M103.below⟩
end Go.Proofs.Ytfknhbgghpbkpaa
