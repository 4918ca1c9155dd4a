/- The functions of inst and prog that tell what may be: what they come to. -/
import Derived.Test.YtfknhbgghpbkpaaInst0
namespace Go.Proofs.Ytfknhbgghpbkpaa
open Go.RowKit Cal
theorem in_any (n h : Int) (w : World) : Calls Try.prog 153 #[.int .i64 n, .int .i64 h] w fun e w' => e = .returned (.bool (inB n h)) ∧ Below w.heap.size w w' := by
  have M := Mem.refl w
  refine calls_tc (N := 12) (args := [.int .i64 n, .int .i64 h]) Try.func153 rfl rfl rfl ?_
  refine tc_seq (tc_region ?_)
  refine sg 1 [0, 1] [(0, .int .i64 n), (1, .int .i64 h)] ?_
  refine to_end rfl (tn_code (tc_seq (tc_region ?_)))
  refine sg 3 [0, 1, 7] [(0, .int .i64 n), (1, .int .i64 h), (7, .bool (decide (n ≥ 0)))] ?_
  rcases h1 : (decide (n ≥ 0)) with _ | _
  · have h1p := of_decide_eq_false h1
    refine sg 5 [4] [(4, .bool false)] ?_
    refine to_end rfl (tn_code (tc_ret ?_))
    refine tr_tmp rfl rfl ?_
    exact ⟨congrArg Ending.returned (congrArg Value.bool (by simp [inB, h1])), M.below⟩
  · have h1p := of_decide_eq_true h1
    refine sg 5 [4] [(4, .bool (decide (n < h)))] ?_
    refine to_end rfl (tn_code (tc_ret ?_))
    refine tr_tmp rfl rfl ?_
    exact ⟨congrArg Ending.returned (congrArg Value.bool (by simp [inB, h1])), M.below⟩

theorem rules_any (w : World) : Calls Try.prog 154 #[] w fun e w' => e = .returned (.agg rulesV) ∧ Below w.heap.size w w' := by
  have M := Mem.refl w
  refine calls_tc (N := 10) (args := []) Try.func154 rfl rfl rfl ?_
  refine tc_seq (tc_region ?_)
  refine nw M 0 zerosV 209 fun b1 w2 M3 => ?_
  refine to_end rfl (tn_code (tc_seq (tc_region ?_)))
  refine sg 9 [0, 9] [(0, .pointer (some ⟨b1, 0, none⟩)), (9, .agg #[.int .i64 11, .bool true, .bool true, .int .i64 0, .bool true, .int .i64 5, .bool true, .bool true, .int .i64 65535, .bool true, .int .i64 1, .bool true, .bool true, .int .i64 0, .bool true, .int .i64 1, .bool true, .bool true, .int .i64 0, .bool true, .int .i64 1, .bool true, .bool true, .int .i64 0, .bool true, .int .i64 1, .bool false, .bool false, .int .i64 0, .bool true, .int .i64 1, .bool false, .bool false, .int .i64 0, .bool true, .int .i64 1, .bool false, .bool false, .int .i64 0, .bool false])] ?_
  refine sa M3 0 #[.int .i64 11, .bool true, .bool true, .int .i64 0, .bool true, .int .i64 5, .bool true, .bool true, .int .i64 65535, .bool true, .int .i64 1, .bool true, .bool true, .int .i64 0, .bool true, .int .i64 1, .bool true, .bool true, .int .i64 0, .bool true, .int .i64 1, .bool true, .bool true, .int .i64 0, .bool true, .int .i64 1, .bool false, .bool false, .int .i64 0, .bool true, .int .i64 1, .bool false, .bool false, .int .i64 0, .bool true, .int .i64 1, .bool false, .bool false, .int .i64 0, .bool false] fun w4 M5 => ?_
  refine to_end rfl (tn_code (tc_ret ?_))
  refine tr_cell M5 0 rfl rfl rfl Try.underlying209 rfl (by kernel_rfl) ?_
  exact ⟨rfl, M5.below⟩

theorem may_any (x : Inst) (w : World) : Calls Try.prog 123 #[.agg x.cs] w fun e w' => e = .returned (.bool (instMay x)) ∧ Below w.heap.size w w' := by
  have M := Mem.refl w
  have hro := rOff_bd x.op
  refine calls_tc (N := 90) (args := [.agg x.cs]) Try.func123 rfl rfl rfl ?_
  refine tc_seq (tc_region ?_)
  refine nw M 1 x.cs 65 fun b1 w2 M3 => ?_
  refine sg 1 [1] [(1, .pointer (some ⟨b1, 0, none⟩))] ?_
  refine to_end rfl (tn_code (tc_seq (tc_seq (tc_region ?_))))
  refine sg 1 [1, 5] [(1, .pointer (some ⟨b1, 0, none⟩)), (5, .pointer (some ⟨b1, 0, none⟩))] ?_
  refine ld M3 0 6 (.int .i64 x.op) ?_
  refine cb M3 7 (in_any x.op 8 _) fun w4 hb6 M5 => ?_
  refine sg 2 [1, 9] [(1, .pointer (some ⟨b1, 0, none⟩)), (9, .bool (!(inB x.op 8)))] ?_
  rcases h7 : (inB x.op 8) with _ | _
  · refine sg 11 [1, 20] [(1, .pointer (some ⟨b1, 0, none⟩)), (20, .bool true)] ?_
    refine to_end rfl (tn_code (tc_cond_t (fun _ => rfl) (tc_seq (tc_region ?_))))
    refine sg 1 [2] [(2, .bool false)] ?_
    refine to_end rfl (tn_code (tc_ret ?_))
    refine tr_tmp rfl rfl ?_
    exact ⟨congrArg Ending.returned (congrArg Value.bool (by simp [instMay, nop, h7])), M5.below⟩
  · refine sg 1 [1, 9, 10] [(1, .pointer (some ⟨b1, 0, none⟩)), (9, .bool false), (10, .pointer (some ⟨b1, 2, none⟩))] ?_
    refine ld M5 0 11 (.int .i64 x.dst) ?_
    refine cb M5 12 (in_any x.dst 8 _) fun w8 hb10 M9 => ?_
    refine sg 3 [1, 15] [(1, .pointer (some ⟨b1, 0, none⟩)), (15, .bool (!(inB x.dst 8)))] ?_
    rcases h11 : (inB x.dst 8) with _ | _
    · refine sg 5 [1, 20] [(1, .pointer (some ⟨b1, 0, none⟩)), (20, .bool true)] ?_
      refine to_end rfl (tn_code (tc_cond_t (fun _ => rfl) (tc_seq (tc_region ?_))))
      refine sg 1 [2] [(2, .bool false)] ?_
      refine to_end rfl (tn_code (tc_ret ?_))
      refine tr_tmp rfl rfl ?_
      exact ⟨congrArg Ending.returned (congrArg Value.bool (by simp [instMay, nop, h7, h11])), M9.below⟩
    · refine sg 1 [1, 15, 16] [(1, .pointer (some ⟨b1, 0, none⟩)), (15, .bool false), (16, .pointer (some ⟨b1, 3, none⟩))] ?_
      refine ld M9 0 17 (.int .i64 x.src) ?_
      refine cb M9 18 (in_any x.src 8 _) fun w12 hb14 M13 => ?_
      refine sg 2 [1, 20] [(1, .pointer (some ⟨b1, 0, none⟩)), (20, .bool (!(inB x.src 8)))] ?_
      refine to_end rfl (tn_code ?_)
      rcases h15 : (inB x.src 8) with _ | _
      · refine tc_cond_t (fun _ => rfl) (tc_seq (tc_region ?_))
        refine sg 1 [2] [(2, .bool false)] ?_
        refine to_end rfl (tn_code (tc_ret ?_))
        refine tr_tmp rfl rfl ?_
        exact ⟨congrArg Ending.returned (congrArg Value.bool (by simp [instMay, nop, h7, h11, h15])), M13.below⟩
      · refine tc_cond_f (fun _ => rfl) (tc_skip (tn_code (tc_seq ?_)))
        refine tc_draw (σ := Nat) (fun b17 => [(1, .pointer (some ⟨b1, 0, none⟩)), (3, .pointer (some ⟨b17, 0, none⟩))]) (fun b17 w' => Mem w w' [blk b17 #[.int .i64 (rFns x.op), .bool (rDst x.op), .bool (rDst x.op), .int .i64 (rOff x.op), .bool (rImm x.op)] 208, blk b1 x.cs 65]) (fun w' => Mem w w' [blk b1 x.cs 65]) [] (by kernel_rfl) ?_ ?_
        · have M18 := M13.draw
          refine ty_take 1 22 (.pointer (some ⟨b1, 0, none⟩)) (pok_then pok_body) ?_ M18 (fun _ _ _ => by kernel_rfl)
          refine ty_take 2 23 (.int .i64 x.op) (pok_then pok_body) ?_ M18 (fun _ M' _ => rl M' 0)
          refine ty_all (rs := [0, 4]) (te_cons ?_ (te_one ?_))
          · refine te_cb M18 21 (rules_any _) (fun _ hb _ M' => M'.call hb) fun w19 hb21 M20 => ?_
            refine ty_take 3 24 (.agg #[.int .i64 (rFns x.op), .bool (rDst x.op), .bool (rDst x.op), .int .i64 (rOff x.op), .bool (rImm x.op)]) (pok_then pok_body) ?_ M20 (fun w' _ _ => rx (idx_rules x.op h7 w'))
            refine ty_all (rs := [4]) (te_one ?_)
            refine te_new M20 3 #[.int .i64 0, .bool false, .bool false, .int .i64 0, .bool false] 208 (fun _ hb _ M' => M'.call hb) fun b22 w23 M24 => ?_
            refine ty_all (rs := [5]) (te_one ?_)
            refine te_sa M24 0 #[.int .i64 (rFns x.op), .bool (rDst x.op), .bool (rDst x.op), .int .i64 (rOff x.op), .bool (rImm x.op)] (fun _ M' _ _ => M'.tail) fun w25 M26 => ?_
            exact ty_end b22 (Sub.cons rfl (Sub.cons rfl (Sub.nil _))) M26
          · refine te_new M18 3 #[.int .i64 0, .bool false, .bool false, .int .i64 0, .bool false] 208 (fun _ hb _ M' => M'.call hb) fun b27 w28 M29 => ?_
            refine ty_all (rs := [0]) (te_one ?_)
            refine te_cb M29 21 (rules_any _) (fun _ hb _ M' => M'.call hb) fun w30 hb32 M31 => ?_
            refine ty_take 3 24 (.agg #[.int .i64 (rFns x.op), .bool (rDst x.op), .bool (rDst x.op), .int .i64 (rOff x.op), .bool (rImm x.op)]) (pok_then pok_body) ?_ M31.tail (fun w' _ _ => rx (idx_rules x.op h7 w'))
            refine ty_all (rs := [5]) (te_one ?_)
            refine te_sa M31 0 #[.int .i64 (rFns x.op), .bool (rDst x.op), .bool (rDst x.op), .int .i64 (rOff x.op), .bool (rImm x.op)] (fun _ M' _ _ => M'.tail) fun w33 M34 => ?_
            exact ty_end b27 (Sub.cons rfl (Sub.cons rfl (Sub.nil _))) M34
        · rintro b17 w35 M36
          refine tn_code (tc_seq (tc_seq (tc_region ?_)))
          refine sg 1 [1, 3, 25] [(1, .pointer (some ⟨b1, 0, none⟩)), (3, .pointer (some ⟨b17, 0, none⟩)), (25, .pointer (some ⟨b1, 0, none⟩))] ?_
          refine ld M36 1 26 (.int .i64 x.op) ?_
          refine sg 2 [1, 3, 28] [(1, .pointer (some ⟨b1, 0, none⟩)), (3, .pointer (some ⟨b17, 0, none⟩)), (28, .bool (x.op == 1))] ?_
          rcases h37 : (x.op == 1) with _ | _
          · have h37p := beq_eq_false_iff_ne.1 h37
            refine sg 4 [1, 3, 32] [(1, .pointer (some ⟨b1, 0, none⟩)), (3, .pointer (some ⟨b17, 0, none⟩)), (32, .bool false)] ?_
            refine to_end rfl (tn_code (tc_cond_f (fun _ => rfl) (tc_skip (tn_code (tc_seq (tc_region ?_))))))
            refine sg 1 [1, 3, 36] [(1, .pointer (some ⟨b1, 0, none⟩)), (3, .pointer (some ⟨b17, 0, none⟩)), (36, .pointer (some ⟨b1, 1, none⟩))] ?_
            refine ld M36 1 37 (.int .i64 x.fn) ?_
            refine sg 1 [1, 3, 37, 38] [(1, .pointer (some ⟨b1, 0, none⟩)), (3, .pointer (some ⟨b17, 0, none⟩)), (37, .int .i64 x.fn), (38, .pointer (some ⟨b17, 0, none⟩))] ?_
            refine ld M36 0 39 (.int .i64 (rFns x.op)) ?_
            refine cb M36 40 (in_any x.fn (rFns x.op) _) fun w38 hb40 M39 => ?_
            refine sg 1 [1, 3, 41] [(1, .pointer (some ⟨b1, 0, none⟩)), (3, .pointer (some ⟨b17, 0, none⟩)), (41, .bool (inB x.fn (rFns x.op)))] ?_
            rcases h41 : (inB x.fn (rFns x.op)) with _ | _
            · refine sg 35 [1, 4] [(1, .pointer (some ⟨b1, 0, none⟩)), (4, .bool false)] ?_
              refine to_end rfl (tn_code (tc_seq (tc_seq (tc_region ?_))))
              refine sg 1 [1, 4, 76] [(1, .pointer (some ⟨b1, 0, none⟩)), (4, .bool false), (76, .pointer (some ⟨b1, 4, none⟩))] ?_
              refine ld M39 1 77 (.bool x.reg) ?_
              refine to_end rfl (tn_code ?_)
              refine tc_cond (b := x.reg) (fun _ => rfl) (fun h42 => ?_) (fun h42 => ?_)
              · refine tc_seq (tc_region ?_)
                refine sg 7 [2] [(2, .bool false)] ?_
                refine to_end rfl (tn_code (tc_ret ?_))
                refine tr_tmp rfl rfl ?_
                exact ⟨congrArg Ending.returned (congrArg Value.bool (by simp [instMay, nop, h7, h11, h15, h37, h41, h42])), M39.below⟩
              · refine tc_skip (tn_code (tc_seq (tc_region ?_)))
                refine sg 7 [2] [(2, .bool false)] ?_
                refine to_end rfl (tn_code (tc_ret ?_))
                refine tr_tmp rfl rfl ?_
                exact ⟨congrArg Ending.returned (congrArg Value.bool (by simp [instMay, nop, h7, h11, h15, h37, h41, h42])), M39.below⟩
            · refine sg 1 [1, 3, 41, 42] [(1, .pointer (some ⟨b1, 0, none⟩)), (3, .pointer (some ⟨b17, 0, none⟩)), (41, .bool true), (42, .pointer (some ⟨b1, 5, none⟩))] ?_
              refine ld M39 1 43 (.int .i64 x.off) ?_
              refine sg 1 [1, 3, 41, 43, 44] [(1, .pointer (some ⟨b1, 0, none⟩)), (3, .pointer (some ⟨b17, 0, none⟩)), (41, .bool true), (43, .int .i64 x.off), (44, .pointer (some ⟨b17, 3, none⟩))] ?_
              refine ld M39 0 45 (.int .i64 (rOff x.op)) ?_
              refine sg 1 [1, 3, 41, 43, 46] [(1, .pointer (some ⟨b1, 0, none⟩)), (3, .pointer (some ⟨b17, 0, none⟩)), (41, .bool true), (43, .int .i64 x.off), (46, .int .i64 (IntKind.wrap .i64 ((rOff x.op) + 1)))] ?_
              rw [wr_i64 (x := (rOff x.op) + 1) (by omega) (by omega)]
              refine cb M39 47 (in_any x.off ((rOff x.op) + 1) _) fun w43 hb45 M44 => ?_
              refine sg 2 [1, 3, 49] [(1, .pointer (some ⟨b1, 0, none⟩)), (3, .pointer (some ⟨b17, 0, none⟩)), (49, .bool (inB x.off ((rOff x.op) + 1)))] ?_
              rcases h46 : (inB x.off ((rOff x.op) + 1)) with _ | _
              · refine sg 27 [1, 4] [(1, .pointer (some ⟨b1, 0, none⟩)), (4, .bool false)] ?_
                refine to_end rfl (tn_code (tc_seq (tc_seq (tc_region ?_))))
                refine sg 1 [1, 4, 76] [(1, .pointer (some ⟨b1, 0, none⟩)), (4, .bool false), (76, .pointer (some ⟨b1, 4, none⟩))] ?_
                refine ld M44 1 77 (.bool x.reg) ?_
                refine to_end rfl (tn_code ?_)
                refine tc_cond (b := x.reg) (fun _ => rfl) (fun h47 => ?_) (fun h47 => ?_)
                · refine tc_seq (tc_region ?_)
                  refine sg 7 [2] [(2, .bool false)] ?_
                  refine to_end rfl (tn_code (tc_ret ?_))
                  refine tr_tmp rfl rfl ?_
                  exact ⟨congrArg Ending.returned (congrArg Value.bool (by simp [instMay, nop, h7, h11, h15, h37, h41, h46, h47])), M44.below⟩
                · refine tc_skip (tn_code (tc_seq (tc_region ?_)))
                  refine sg 7 [2] [(2, .bool false)] ?_
                  refine to_end rfl (tn_code (tc_ret ?_))
                  refine tr_tmp rfl rfl ?_
                  exact ⟨congrArg Ending.returned (congrArg Value.bool (by simp [instMay, nop, h7, h11, h15, h37, h41, h46, h47])), M44.below⟩
              · refine sg 1 [1, 3, 49, 50] [(1, .pointer (some ⟨b1, 0, none⟩)), (3, .pointer (some ⟨b17, 0, none⟩)), (49, .bool true), (50, .pointer (some ⟨b17, 1, none⟩))] ?_
                refine ld M44 0 51 (.bool (rDst x.op)) ?_
                refine sg 1 [1, 3, 49, 52] [(1, .pointer (some ⟨b1, 0, none⟩)), (3, .pointer (some ⟨b17, 0, none⟩)), (49, .bool true), (52, .bool (rDst x.op))] ?_
                rcases h48 : (rDst x.op) with _ | _
                · refine sg 1 [1, 3, 49, 52, 53] [(1, .pointer (some ⟨b1, 0, none⟩)), (3, .pointer (some ⟨b17, 0, none⟩)), (49, .bool true), (52, .bool false), (53, .pointer (some ⟨b1, 2, none⟩))] ?_
                  refine ld M44 1 54 (.int .i64 x.dst) ?_
                  refine sg 4 [1, 3, 58] [(1, .pointer (some ⟨b1, 0, none⟩)), (3, .pointer (some ⟨b17, 0, none⟩)), (58, .bool (x.dst == 0))] ?_
                  rcases h49 : (x.dst == 0) with _ | _
                  · have h49p := beq_eq_false_iff_ne.1 h49
                    refine sg 18 [1, 4] [(1, .pointer (some ⟨b1, 0, none⟩)), (4, .bool false)] ?_
                    refine to_end rfl (tn_code (tc_seq (tc_seq (tc_region ?_))))
                    refine sg 1 [1, 4, 76] [(1, .pointer (some ⟨b1, 0, none⟩)), (4, .bool false), (76, .pointer (some ⟨b1, 4, none⟩))] ?_
                    refine ld M44 1 77 (.bool x.reg) ?_
                    refine to_end rfl (tn_code ?_)
                    refine tc_cond (b := x.reg) (fun _ => rfl) (fun h50 => ?_) (fun h50 => ?_)
                    · refine tc_seq (tc_region ?_)
                      refine sg 7 [2] [(2, .bool false)] ?_
                      refine to_end rfl (tn_code (tc_ret ?_))
                      refine tr_tmp rfl rfl ?_
                      exact ⟨congrArg Ending.returned (congrArg Value.bool (by simp [instMay, nop, h7, h11, h15, h37, h41, h46, h48, h49, h50])), M44.below⟩
                    · refine tc_skip (tn_code (tc_seq (tc_region ?_)))
                      refine sg 7 [2] [(2, .bool false)] ?_
                      refine to_end rfl (tn_code (tc_ret ?_))
                      refine tr_tmp rfl rfl ?_
                      exact ⟨congrArg Ending.returned (congrArg Value.bool (by simp [instMay, nop, h7, h11, h15, h37, h41, h46, h48, h49, h50])), M44.below⟩
                  · have h49p := beq_iff_eq.1 h49
                    refine sg 1 [1, 3, 58, 59] [(1, .pointer (some ⟨b1, 0, none⟩)), (3, .pointer (some ⟨b17, 0, none⟩)), (58, .bool true), (59, .pointer (some ⟨b17, 2, none⟩))] ?_
                    refine ld M44 0 60 (.bool (rDst x.op)) ?_
                    refine sg 1 [1, 3, 58, 61] [(1, .pointer (some ⟨b1, 0, none⟩)), (3, .pointer (some ⟨b17, 0, none⟩)), (58, .bool true), (61, .bool (rDst x.op))] ?_
                    rw [h48]
                    refine sg 1 [1, 3, 58, 61, 62] [(1, .pointer (some ⟨b1, 0, none⟩)), (3, .pointer (some ⟨b17, 0, none⟩)), (58, .bool true), (61, .bool false), (62, .pointer (some ⟨b1, 4, none⟩))] ?_
                    refine ld M44 1 63 (.bool x.reg) ?_
                    refine sg 4 [1, 3, 67] [(1, .pointer (some ⟨b1, 0, none⟩)), (3, .pointer (some ⟨b17, 0, none⟩)), (67, .bool (!x.reg))] ?_
                    rcases h51 : (x.reg) with _ | _
                    · refine sg 1 [1, 67, 68] [(1, .pointer (some ⟨b1, 0, none⟩)), (67, .bool true), (68, .pointer (some ⟨b17, 4, none⟩))] ?_
                      refine ld M44 0 69 (.bool (rImm x.op)) ?_
                      refine sg 1 [1, 67, 70] [(1, .pointer (some ⟨b1, 0, none⟩)), (67, .bool true), (70, .bool (rImm x.op))] ?_
                      rcases h52 : (rImm x.op) with _ | _
                      · refine sg 1 [1, 67, 70, 71] [(1, .pointer (some ⟨b1, 0, none⟩)), (67, .bool true), (70, .bool false), (71, .pointer (some ⟨b1, 6, none⟩))] ?_
                        refine ld M44 1 72 (.int .u32 x.imm) ?_
                        refine sg 4 [1, 4] [(1, .pointer (some ⟨b1, 0, none⟩)), (4, .bool (x.imm == 0))] ?_
                        refine to_end rfl (tn_code (tc_seq (tc_seq (tc_region ?_))))
                        refine sg 1 [1, 4, 76] [(1, .pointer (some ⟨b1, 0, none⟩)), (4, .bool (x.imm == 0)), (76, .pointer (some ⟨b1, 4, none⟩))] ?_
                        refine ld M44 1 77 (.bool x.reg) ?_
                        refine to_end rfl (tn_code ?_)
                        rw [h51]
                        refine tc_cond_f (fun _ => rfl) (tc_skip (tn_code (tc_seq (tc_region ?_))))
                        refine sg 2 [1, 85] [(1, .pointer (some ⟨b1, 0, none⟩)), (85, .bool (x.imm == 0))] ?_
                        rcases h53 : (x.imm == 0) with _ | _
                        · have h53p := beq_eq_false_iff_ne.1 h53
                          refine sg 5 [2] [(2, .bool false)] ?_
                          refine to_end rfl (tn_code (tc_ret ?_))
                          refine tr_tmp rfl rfl ?_
                          exact ⟨congrArg Ending.returned (congrArg Value.bool (by simp [instMay, nop, h7, h11, h15, h37, h41, h46, h48, h49, h51, h52, h53])), M44.below⟩
                        · have h53p := beq_iff_eq.1 h53
                          refine sg 1 [85, 86] [(85, .bool true), (86, .pointer (some ⟨b1, 3, none⟩))] ?_
                          refine ld M44 1 87 (.int .i64 x.src) ?_
                          refine sg 3 [2] [(2, .bool (x.src == 0))] ?_
                          refine to_end rfl (tn_code (tc_ret ?_))
                          refine tr_tmp rfl rfl ?_
                          exact ⟨congrArg Ending.returned (congrArg Value.bool (by simp [instMay, nop, h7, h11, h15, h37, h41, h46, h48, h49, h51, h52, h53])), M44.below⟩
                      · refine sg 6 [1, 4] [(1, .pointer (some ⟨b1, 0, none⟩)), (4, .bool true)] ?_
                        refine to_end rfl (tn_code (tc_seq (tc_seq (tc_region ?_))))
                        refine sg 1 [1, 4, 76] [(1, .pointer (some ⟨b1, 0, none⟩)), (4, .bool true), (76, .pointer (some ⟨b1, 4, none⟩))] ?_
                        refine ld M44 1 77 (.bool x.reg) ?_
                        refine to_end rfl (tn_code ?_)
                        rw [h51]
                        refine tc_cond_f (fun _ => rfl) (tc_skip (tn_code (tc_seq (tc_region ?_))))
                        refine sg 3 [85, 86] [(85, .bool true), (86, .pointer (some ⟨b1, 3, none⟩))] ?_
                        refine ld M44 1 87 (.int .i64 x.src) ?_
                        refine sg 3 [2] [(2, .bool (x.src == 0))] ?_
                        refine to_end rfl (tn_code (tc_ret ?_))
                        refine tr_tmp rfl rfl ?_
                        exact ⟨congrArg Ending.returned (congrArg Value.bool (by simp [instMay, nop, h7, h11, h15, h37, h41, h46, h48, h49, h51, h52])), M44.below⟩
                    · refine sg 9 [1, 4] [(1, .pointer (some ⟨b1, 0, none⟩)), (4, .bool false)] ?_
                      refine to_end rfl (tn_code (tc_seq (tc_seq (tc_region ?_))))
                      refine sg 1 [1, 4, 76] [(1, .pointer (some ⟨b1, 0, none⟩)), (4, .bool false), (76, .pointer (some ⟨b1, 4, none⟩))] ?_
                      refine ld M44 1 77 (.bool x.reg) ?_
                      refine to_end rfl (tn_code ?_)
                      rw [h51]
                      refine tc_cond_t (fun _ => rfl) (tc_seq (tc_region ?_))
                      refine sg 7 [2] [(2, .bool false)] ?_
                      refine to_end rfl (tn_code (tc_ret ?_))
                      refine tr_tmp rfl rfl ?_
                      exact ⟨congrArg Ending.returned (congrArg Value.bool (by simp [instMay, nop, h7, h11, h15, h37, h41, h46, h48, h49, h51])), M44.below⟩
                · refine sg 7 [1, 3, 58, 59] [(1, .pointer (some ⟨b1, 0, none⟩)), (3, .pointer (some ⟨b17, 0, none⟩)), (58, .bool true), (59, .pointer (some ⟨b17, 2, none⟩))] ?_
                  refine ld M44 0 60 (.bool (rDst x.op)) ?_
                  refine sg 1 [1, 3, 58, 61] [(1, .pointer (some ⟨b1, 0, none⟩)), (3, .pointer (some ⟨b17, 0, none⟩)), (58, .bool true), (61, .bool (rDst x.op))] ?_
                  rw [h48]
                  refine sg 7 [1, 67, 68] [(1, .pointer (some ⟨b1, 0, none⟩)), (67, .bool true), (68, .pointer (some ⟨b17, 4, none⟩))] ?_
                  refine ld M44 0 69 (.bool (rImm x.op)) ?_
                  refine sg 1 [1, 67, 70] [(1, .pointer (some ⟨b1, 0, none⟩)), (67, .bool true), (70, .bool (rImm x.op))] ?_
                  rcases h54 : (rImm x.op) with _ | _
                  · refine sg 1 [1, 67, 70, 71] [(1, .pointer (some ⟨b1, 0, none⟩)), (67, .bool true), (70, .bool false), (71, .pointer (some ⟨b1, 6, none⟩))] ?_
                    refine ld M44 1 72 (.int .u32 x.imm) ?_
                    refine sg 4 [1, 4] [(1, .pointer (some ⟨b1, 0, none⟩)), (4, .bool (x.imm == 0))] ?_
                    refine to_end rfl (tn_code (tc_seq (tc_seq (tc_region ?_))))
                    refine sg 1 [1, 4, 76] [(1, .pointer (some ⟨b1, 0, none⟩)), (4, .bool (x.imm == 0)), (76, .pointer (some ⟨b1, 4, none⟩))] ?_
                    refine ld M44 1 77 (.bool x.reg) ?_
                    refine to_end rfl (tn_code ?_)
                    refine tc_cond (b := x.reg) (fun _ => rfl) (fun h55 => ?_) (fun h55 => ?_)
                    · refine tc_seq (tc_region ?_)
                      refine sg 2 [1, 79] [(1, .pointer (some ⟨b1, 0, none⟩)), (79, .bool (x.imm == 0))] ?_
                      rcases h56 : (x.imm == 0) with _ | _
                      · have h56p := beq_eq_false_iff_ne.1 h56
                        refine sg 5 [2] [(2, .bool false)] ?_
                        refine to_end rfl (tn_code (tc_ret ?_))
                        refine tr_tmp rfl rfl ?_
                        exact ⟨congrArg Ending.returned (congrArg Value.bool (by simp [instMay, nop, h7, h11, h15, h37, h41, h46, h48, h54, h55, h56])), M44.below⟩
                      · have h56p := beq_iff_eq.1 h56
                        refine sg 1 [79, 80] [(79, .bool true), (80, .pointer (some ⟨b1, 6, none⟩))] ?_
                        refine ld M44 1 81 (.int .u32 x.imm) ?_
                        refine sg 3 [2] [(2, .bool (x.imm == 0))] ?_
                        refine to_end rfl (tn_code (tc_ret ?_))
                        refine tr_tmp rfl rfl ?_
                        exact ⟨congrArg Ending.returned (congrArg Value.bool (by simp [instMay, nop, h7, h11, h15, h37, h41, h46, h48, h54, h55, h56])), M44.below⟩
                    · refine tc_skip (tn_code (tc_seq (tc_region ?_)))
                      refine sg 2 [1, 85] [(1, .pointer (some ⟨b1, 0, none⟩)), (85, .bool (x.imm == 0))] ?_
                      rcases h57 : (x.imm == 0) with _ | _
                      · have h57p := beq_eq_false_iff_ne.1 h57
                        refine sg 5 [2] [(2, .bool false)] ?_
                        refine to_end rfl (tn_code (tc_ret ?_))
                        refine tr_tmp rfl rfl ?_
                        exact ⟨congrArg Ending.returned (congrArg Value.bool (by simp [instMay, nop, h7, h11, h15, h37, h41, h46, h48, h54, h55, h57])), M44.below⟩
                      · have h57p := beq_iff_eq.1 h57
                        refine sg 1 [85, 86] [(85, .bool true), (86, .pointer (some ⟨b1, 3, none⟩))] ?_
                        refine ld M44 1 87 (.int .i64 x.src) ?_
                        refine sg 3 [2] [(2, .bool (x.src == 0))] ?_
                        refine to_end rfl (tn_code (tc_ret ?_))
                        refine tr_tmp rfl rfl ?_
                        exact ⟨congrArg Ending.returned (congrArg Value.bool (by simp [instMay, nop, h7, h11, h15, h37, h41, h46, h48, h54, h55, h57])), M44.below⟩
                  · refine sg 6 [1, 4] [(1, .pointer (some ⟨b1, 0, none⟩)), (4, .bool true)] ?_
                    refine to_end rfl (tn_code (tc_seq (tc_seq (tc_region ?_))))
                    refine sg 1 [1, 4, 76] [(1, .pointer (some ⟨b1, 0, none⟩)), (4, .bool true), (76, .pointer (some ⟨b1, 4, none⟩))] ?_
                    refine ld M44 1 77 (.bool x.reg) ?_
                    refine to_end rfl (tn_code ?_)
                    refine tc_cond (b := x.reg) (fun _ => rfl) (fun h58 => ?_) (fun h58 => ?_)
                    · refine tc_seq (tc_region ?_)
                      refine sg 3 [79, 80] [(79, .bool true), (80, .pointer (some ⟨b1, 6, none⟩))] ?_
                      refine ld M44 1 81 (.int .u32 x.imm) ?_
                      refine sg 3 [2] [(2, .bool (x.imm == 0))] ?_
                      refine to_end rfl (tn_code (tc_ret ?_))
                      refine tr_tmp rfl rfl ?_
                      exact ⟨congrArg Ending.returned (congrArg Value.bool (by simp [instMay, nop, h7, h11, h15, h37, h41, h46, h48, h54, h58])), M44.below⟩
                    · refine tc_skip (tn_code (tc_seq (tc_region ?_)))
                      refine sg 3 [85, 86] [(85, .bool true), (86, .pointer (some ⟨b1, 3, none⟩))] ?_
                      refine ld M44 1 87 (.int .i64 x.src) ?_
                      refine sg 3 [2] [(2, .bool (x.src == 0))] ?_
                      refine to_end rfl (tn_code (tc_ret ?_))
                      refine tr_tmp rfl rfl ?_
                      exact ⟨congrArg Ending.returned (congrArg Value.bool (by simp [instMay, nop, h7, h11, h15, h37, h41, h46, h48, h54, h58])), M44.below⟩
          · have h37p := beq_iff_eq.1 h37
            refine sg 1 [1, 3, 28, 29] [(1, .pointer (some ⟨b1, 0, none⟩)), (3, .pointer (some ⟨b17, 0, none⟩)), (28, .bool true), (29, .pointer (some ⟨b1, 1, none⟩))] ?_
            refine ld M36 1 30 (.int .i64 x.fn) ?_
            refine sg 2 [1, 3, 32] [(1, .pointer (some ⟨b1, 0, none⟩)), (3, .pointer (some ⟨b17, 0, none⟩)), (32, .bool (x.fn == 0))] ?_
            refine to_end rfl (tn_code ?_)
            refine tc_cond (b := x.fn == 0) (fun _ => rfl) (fun h59 => ?_) (fun h59 => ?_)
            · have h59p := beq_iff_eq.1 h59
              refine tc_region ?_
              refine sg 1 [1, 3, 33] [(1, .pointer (some ⟨b1, 0, none⟩)), (3, .pointer (some ⟨b17, 0, none⟩)), (33, .pointer (some ⟨b17, 1, none⟩))] ?_
              refine st M36 0 #[.int .i64 (rFns x.op), .bool false, .bool (rDst x.op), .int .i64 (rOff x.op), .bool (rImm x.op)] fun w60 M61 => ?_
              refine sg 1 [1, 3, 34] [(1, .pointer (some ⟨b1, 0, none⟩)), (3, .pointer (some ⟨b17, 0, none⟩)), (34, .pointer (some ⟨b17, 2, none⟩))] ?_
              refine st M61 0 #[.int .i64 (rFns x.op), .bool false, .bool false, .int .i64 (rOff x.op), .bool (rImm x.op)] fun w62 M63 => ?_
              refine sg 1 [1, 3, 35] [(1, .pointer (some ⟨b1, 0, none⟩)), (3, .pointer (some ⟨b17, 0, none⟩)), (35, .pointer (some ⟨b17, 4, none⟩))] ?_
              refine st M63 0 #[.int .i64 (rFns x.op), .bool false, .bool false, .int .i64 (rOff x.op), .bool false] fun w64 M65 => ?_
              refine to_end rfl (tn_code (tc_seq (tc_region ?_)))
              refine sg 1 [1, 3, 36] [(1, .pointer (some ⟨b1, 0, none⟩)), (3, .pointer (some ⟨b17, 0, none⟩)), (36, .pointer (some ⟨b1, 1, none⟩))] ?_
              refine ld M65 1 37 (.int .i64 x.fn) ?_
              refine sg 1 [1, 3, 37, 38] [(1, .pointer (some ⟨b1, 0, none⟩)), (3, .pointer (some ⟨b17, 0, none⟩)), (37, .int .i64 x.fn), (38, .pointer (some ⟨b17, 0, none⟩))] ?_
              refine ld M65 0 39 (.int .i64 (rFns x.op)) ?_
              refine cb M65 40 (in_any x.fn (rFns x.op) _) fun w66 hb68 M67 => ?_
              refine sg 1 [1, 3, 41] [(1, .pointer (some ⟨b1, 0, none⟩)), (3, .pointer (some ⟨b17, 0, none⟩)), (41, .bool (inB x.fn (rFns x.op)))] ?_
              rcases h69 : (inB x.fn (rFns x.op)) with _ | _
              · refine sg 35 [1, 4] [(1, .pointer (some ⟨b1, 0, none⟩)), (4, .bool false)] ?_
                refine to_end rfl (tn_code (tc_seq (tc_seq (tc_region ?_))))
                refine sg 1 [1, 4, 76] [(1, .pointer (some ⟨b1, 0, none⟩)), (4, .bool false), (76, .pointer (some ⟨b1, 4, none⟩))] ?_
                refine ld M67 1 77 (.bool x.reg) ?_
                refine to_end rfl (tn_code ?_)
                refine tc_cond (b := x.reg) (fun _ => rfl) (fun h70 => ?_) (fun h70 => ?_)
                · refine tc_seq (tc_region ?_)
                  refine sg 7 [2] [(2, .bool false)] ?_
                  refine to_end rfl (tn_code (tc_ret ?_))
                  refine tr_tmp rfl rfl ?_
                  exact ⟨congrArg Ending.returned (congrArg Value.bool (by simp [instMay, nop, h7, h11, h15, h37, h59, h69, h70])), M67.below⟩
                · refine tc_skip (tn_code (tc_seq (tc_region ?_)))
                  refine sg 7 [2] [(2, .bool false)] ?_
                  refine to_end rfl (tn_code (tc_ret ?_))
                  refine tr_tmp rfl rfl ?_
                  exact ⟨congrArg Ending.returned (congrArg Value.bool (by simp [instMay, nop, h7, h11, h15, h37, h59, h69, h70])), M67.below⟩
              · refine sg 1 [1, 3, 41, 42] [(1, .pointer (some ⟨b1, 0, none⟩)), (3, .pointer (some ⟨b17, 0, none⟩)), (41, .bool true), (42, .pointer (some ⟨b1, 5, none⟩))] ?_
                refine ld M67 1 43 (.int .i64 x.off) ?_
                refine sg 1 [1, 3, 41, 43, 44] [(1, .pointer (some ⟨b1, 0, none⟩)), (3, .pointer (some ⟨b17, 0, none⟩)), (41, .bool true), (43, .int .i64 x.off), (44, .pointer (some ⟨b17, 3, none⟩))] ?_
                refine ld M67 0 45 (.int .i64 (rOff x.op)) ?_
                refine sg 1 [1, 3, 41, 43, 46] [(1, .pointer (some ⟨b1, 0, none⟩)), (3, .pointer (some ⟨b17, 0, none⟩)), (41, .bool true), (43, .int .i64 x.off), (46, .int .i64 (IntKind.wrap .i64 ((rOff x.op) + 1)))] ?_
                rw [wr_i64 (x := (rOff x.op) + 1) (by omega) (by omega)]
                refine cb M67 47 (in_any x.off ((rOff x.op) + 1) _) fun w71 hb73 M72 => ?_
                refine sg 2 [1, 3, 49] [(1, .pointer (some ⟨b1, 0, none⟩)), (3, .pointer (some ⟨b17, 0, none⟩)), (49, .bool (inB x.off ((rOff x.op) + 1)))] ?_
                rcases h74 : (inB x.off ((rOff x.op) + 1)) with _ | _
                · refine sg 27 [1, 4] [(1, .pointer (some ⟨b1, 0, none⟩)), (4, .bool false)] ?_
                  refine to_end rfl (tn_code (tc_seq (tc_seq (tc_region ?_))))
                  refine sg 1 [1, 4, 76] [(1, .pointer (some ⟨b1, 0, none⟩)), (4, .bool false), (76, .pointer (some ⟨b1, 4, none⟩))] ?_
                  refine ld M72 1 77 (.bool x.reg) ?_
                  refine to_end rfl (tn_code ?_)
                  refine tc_cond (b := x.reg) (fun _ => rfl) (fun h75 => ?_) (fun h75 => ?_)
                  · refine tc_seq (tc_region ?_)
                    refine sg 7 [2] [(2, .bool false)] ?_
                    refine to_end rfl (tn_code (tc_ret ?_))
                    refine tr_tmp rfl rfl ?_
                    exact ⟨congrArg Ending.returned (congrArg Value.bool (by simp [instMay, nop, h7, h11, h15, h37, h59, h69, h74, h75])), M72.below⟩
                  · refine tc_skip (tn_code (tc_seq (tc_region ?_)))
                    refine sg 7 [2] [(2, .bool false)] ?_
                    refine to_end rfl (tn_code (tc_ret ?_))
                    refine tr_tmp rfl rfl ?_
                    exact ⟨congrArg Ending.returned (congrArg Value.bool (by simp [instMay, nop, h7, h11, h15, h37, h59, h69, h74, h75])), M72.below⟩
                · refine sg 1 [1, 3, 49, 50] [(1, .pointer (some ⟨b1, 0, none⟩)), (3, .pointer (some ⟨b17, 0, none⟩)), (49, .bool true), (50, .pointer (some ⟨b17, 1, none⟩))] ?_
                  refine ld M72 0 51 (.bool false) ?_
                  refine sg 2 [1, 3, 49, 52, 53] [(1, .pointer (some ⟨b1, 0, none⟩)), (3, .pointer (some ⟨b17, 0, none⟩)), (49, .bool true), (52, .bool false), (53, .pointer (some ⟨b1, 2, none⟩))] ?_
                  refine ld M72 1 54 (.int .i64 x.dst) ?_
                  refine sg 4 [1, 3, 58] [(1, .pointer (some ⟨b1, 0, none⟩)), (3, .pointer (some ⟨b17, 0, none⟩)), (58, .bool (x.dst == 0))] ?_
                  rcases h76 : (x.dst == 0) with _ | _
                  · have h76p := beq_eq_false_iff_ne.1 h76
                    refine sg 18 [1, 4] [(1, .pointer (some ⟨b1, 0, none⟩)), (4, .bool false)] ?_
                    refine to_end rfl (tn_code (tc_seq (tc_seq (tc_region ?_))))
                    refine sg 1 [1, 4, 76] [(1, .pointer (some ⟨b1, 0, none⟩)), (4, .bool false), (76, .pointer (some ⟨b1, 4, none⟩))] ?_
                    refine ld M72 1 77 (.bool x.reg) ?_
                    refine to_end rfl (tn_code ?_)
                    refine tc_cond (b := x.reg) (fun _ => rfl) (fun h77 => ?_) (fun h77 => ?_)
                    · refine tc_seq (tc_region ?_)
                      refine sg 7 [2] [(2, .bool false)] ?_
                      refine to_end rfl (tn_code (tc_ret ?_))
                      refine tr_tmp rfl rfl ?_
                      exact ⟨congrArg Ending.returned (congrArg Value.bool (by simp [instMay, nop, h7, h11, h15, h37, h59, h69, h74, h76, h77])), M72.below⟩
                    · refine tc_skip (tn_code (tc_seq (tc_region ?_)))
                      refine sg 7 [2] [(2, .bool false)] ?_
                      refine to_end rfl (tn_code (tc_ret ?_))
                      refine tr_tmp rfl rfl ?_
                      exact ⟨congrArg Ending.returned (congrArg Value.bool (by simp [instMay, nop, h7, h11, h15, h37, h59, h69, h74, h76, h77])), M72.below⟩
                  · have h76p := beq_iff_eq.1 h76
                    refine sg 1 [1, 3, 58, 59] [(1, .pointer (some ⟨b1, 0, none⟩)), (3, .pointer (some ⟨b17, 0, none⟩)), (58, .bool true), (59, .pointer (some ⟨b17, 2, none⟩))] ?_
                    refine ld M72 0 60 (.bool false) ?_
                    refine sg 2 [1, 3, 58, 61, 62] [(1, .pointer (some ⟨b1, 0, none⟩)), (3, .pointer (some ⟨b17, 0, none⟩)), (58, .bool true), (61, .bool false), (62, .pointer (some ⟨b1, 4, none⟩))] ?_
                    refine ld M72 1 63 (.bool x.reg) ?_
                    refine sg 4 [1, 3, 67] [(1, .pointer (some ⟨b1, 0, none⟩)), (3, .pointer (some ⟨b17, 0, none⟩)), (67, .bool (!x.reg))] ?_
                    rcases h78 : (x.reg) with _ | _
                    · refine sg 1 [1, 67, 68] [(1, .pointer (some ⟨b1, 0, none⟩)), (67, .bool true), (68, .pointer (some ⟨b17, 4, none⟩))] ?_
                      refine ld M72 0 69 (.bool false) ?_
                      refine sg 2 [1, 67, 70, 71] [(1, .pointer (some ⟨b1, 0, none⟩)), (67, .bool true), (70, .bool false), (71, .pointer (some ⟨b1, 6, none⟩))] ?_
                      refine ld M72 1 72 (.int .u32 x.imm) ?_
                      refine sg 4 [1, 4] [(1, .pointer (some ⟨b1, 0, none⟩)), (4, .bool (x.imm == 0))] ?_
                      refine to_end rfl (tn_code (tc_seq (tc_seq (tc_region ?_))))
                      refine sg 1 [1, 4, 76] [(1, .pointer (some ⟨b1, 0, none⟩)), (4, .bool (x.imm == 0)), (76, .pointer (some ⟨b1, 4, none⟩))] ?_
                      refine ld M72 1 77 (.bool x.reg) ?_
                      refine to_end rfl (tn_code ?_)
                      rw [h78]
                      refine tc_cond_f (fun _ => rfl) (tc_skip (tn_code (tc_seq (tc_region ?_))))
                      refine sg 2 [1, 85] [(1, .pointer (some ⟨b1, 0, none⟩)), (85, .bool (x.imm == 0))] ?_
                      rcases h79 : (x.imm == 0) with _ | _
                      · have h79p := beq_eq_false_iff_ne.1 h79
                        refine sg 5 [2] [(2, .bool false)] ?_
                        refine to_end rfl (tn_code (tc_ret ?_))
                        refine tr_tmp rfl rfl ?_
                        exact ⟨congrArg Ending.returned (congrArg Value.bool (by simp [instMay, nop, h7, h11, h15, h37, h59, h69, h74, h76, h78, h79])), M72.below⟩
                      · have h79p := beq_iff_eq.1 h79
                        refine sg 1 [85, 86] [(85, .bool true), (86, .pointer (some ⟨b1, 3, none⟩))] ?_
                        refine ld M72 1 87 (.int .i64 x.src) ?_
                        refine sg 3 [2] [(2, .bool (x.src == 0))] ?_
                        refine to_end rfl (tn_code (tc_ret ?_))
                        refine tr_tmp rfl rfl ?_
                        exact ⟨congrArg Ending.returned (congrArg Value.bool (by simp [instMay, nop, h7, h11, h15, h37, h59, h69, h74, h76, h78, h79])), M72.below⟩
                    · refine sg 9 [1, 4] [(1, .pointer (some ⟨b1, 0, none⟩)), (4, .bool false)] ?_
                      refine to_end rfl (tn_code (tc_seq (tc_seq (tc_region ?_))))
                      refine sg 1 [1, 4, 76] [(1, .pointer (some ⟨b1, 0, none⟩)), (4, .bool false), (76, .pointer (some ⟨b1, 4, none⟩))] ?_
                      refine ld M72 1 77 (.bool x.reg) ?_
                      refine to_end rfl (tn_code ?_)
                      rw [h78]
                      refine tc_cond_t (fun _ => rfl) (tc_seq (tc_region ?_))
                      refine sg 7 [2] [(2, .bool false)] ?_
                      refine to_end rfl (tn_code (tc_ret ?_))
                      refine tr_tmp rfl rfl ?_
                      exact ⟨congrArg Ending.returned (congrArg Value.bool (by simp [instMay, nop, h7, h11, h15, h37, h59, h69, h74, h76, h78])), M72.below⟩
            · have h59p := beq_eq_false_iff_ne.1 h59
              refine tc_skip (tn_code (tc_seq (tc_region ?_)))
              refine sg 1 [1, 3, 36] [(1, .pointer (some ⟨b1, 0, none⟩)), (3, .pointer (some ⟨b17, 0, none⟩)), (36, .pointer (some ⟨b1, 1, none⟩))] ?_
              refine ld M36 1 37 (.int .i64 x.fn) ?_
              refine sg 1 [1, 3, 37, 38] [(1, .pointer (some ⟨b1, 0, none⟩)), (3, .pointer (some ⟨b17, 0, none⟩)), (37, .int .i64 x.fn), (38, .pointer (some ⟨b17, 0, none⟩))] ?_
              refine ld M36 0 39 (.int .i64 (rFns x.op)) ?_
              refine cb M36 40 (in_any x.fn (rFns x.op) _) fun w80 hb82 M81 => ?_
              refine sg 1 [1, 3, 41] [(1, .pointer (some ⟨b1, 0, none⟩)), (3, .pointer (some ⟨b17, 0, none⟩)), (41, .bool (inB x.fn (rFns x.op)))] ?_
              rcases h83 : (inB x.fn (rFns x.op)) with _ | _
              · refine sg 35 [1, 4] [(1, .pointer (some ⟨b1, 0, none⟩)), (4, .bool false)] ?_
                refine to_end rfl (tn_code (tc_seq (tc_seq (tc_region ?_))))
                refine sg 1 [1, 4, 76] [(1, .pointer (some ⟨b1, 0, none⟩)), (4, .bool false), (76, .pointer (some ⟨b1, 4, none⟩))] ?_
                refine ld M81 1 77 (.bool x.reg) ?_
                refine to_end rfl (tn_code ?_)
                refine tc_cond (b := x.reg) (fun _ => rfl) (fun h84 => ?_) (fun h84 => ?_)
                · refine tc_seq (tc_region ?_)
                  refine sg 7 [2] [(2, .bool false)] ?_
                  refine to_end rfl (tn_code (tc_ret ?_))
                  refine tr_tmp rfl rfl ?_
                  exact ⟨congrArg Ending.returned (congrArg Value.bool (by simp [instMay, nop, h7, h11, h15, h37, h59, h83, h84])), M81.below⟩
                · refine tc_skip (tn_code (tc_seq (tc_region ?_)))
                  refine sg 7 [2] [(2, .bool false)] ?_
                  refine to_end rfl (tn_code (tc_ret ?_))
                  refine tr_tmp rfl rfl ?_
                  exact ⟨congrArg Ending.returned (congrArg Value.bool (by simp [instMay, nop, h7, h11, h15, h37, h59, h83, h84])), M81.below⟩
              · refine sg 1 [1, 3, 41, 42] [(1, .pointer (some ⟨b1, 0, none⟩)), (3, .pointer (some ⟨b17, 0, none⟩)), (41, .bool true), (42, .pointer (some ⟨b1, 5, none⟩))] ?_
                refine ld M81 1 43 (.int .i64 x.off) ?_
                refine sg 1 [1, 3, 41, 43, 44] [(1, .pointer (some ⟨b1, 0, none⟩)), (3, .pointer (some ⟨b17, 0, none⟩)), (41, .bool true), (43, .int .i64 x.off), (44, .pointer (some ⟨b17, 3, none⟩))] ?_
                refine ld M81 0 45 (.int .i64 (rOff x.op)) ?_
                refine sg 1 [1, 3, 41, 43, 46] [(1, .pointer (some ⟨b1, 0, none⟩)), (3, .pointer (some ⟨b17, 0, none⟩)), (41, .bool true), (43, .int .i64 x.off), (46, .int .i64 (IntKind.wrap .i64 ((rOff x.op) + 1)))] ?_
                rw [wr_i64 (x := (rOff x.op) + 1) (by omega) (by omega)]
                refine cb M81 47 (in_any x.off ((rOff x.op) + 1) _) fun w85 hb87 M86 => ?_
                refine sg 2 [1, 3, 49] [(1, .pointer (some ⟨b1, 0, none⟩)), (3, .pointer (some ⟨b17, 0, none⟩)), (49, .bool (inB x.off ((rOff x.op) + 1)))] ?_
                rcases h88 : (inB x.off ((rOff x.op) + 1)) with _ | _
                · refine sg 27 [1, 4] [(1, .pointer (some ⟨b1, 0, none⟩)), (4, .bool false)] ?_
                  refine to_end rfl (tn_code (tc_seq (tc_seq (tc_region ?_))))
                  refine sg 1 [1, 4, 76] [(1, .pointer (some ⟨b1, 0, none⟩)), (4, .bool false), (76, .pointer (some ⟨b1, 4, none⟩))] ?_
                  refine ld M86 1 77 (.bool x.reg) ?_
                  refine to_end rfl (tn_code ?_)
                  refine tc_cond (b := x.reg) (fun _ => rfl) (fun h89 => ?_) (fun h89 => ?_)
                  · refine tc_seq (tc_region ?_)
                    refine sg 7 [2] [(2, .bool false)] ?_
                    refine to_end rfl (tn_code (tc_ret ?_))
                    refine tr_tmp rfl rfl ?_
                    exact ⟨congrArg Ending.returned (congrArg Value.bool (by simp [instMay, nop, h7, h11, h15, h37, h59, h83, h88, h89])), M86.below⟩
                  · refine tc_skip (tn_code (tc_seq (tc_region ?_)))
                    refine sg 7 [2] [(2, .bool false)] ?_
                    refine to_end rfl (tn_code (tc_ret ?_))
                    refine tr_tmp rfl rfl ?_
                    exact ⟨congrArg Ending.returned (congrArg Value.bool (by simp [instMay, nop, h7, h11, h15, h37, h59, h83, h88, h89])), M86.below⟩
                · refine sg 1 [1, 3, 49, 50] [(1, .pointer (some ⟨b1, 0, none⟩)), (3, .pointer (some ⟨b17, 0, none⟩)), (49, .bool true), (50, .pointer (some ⟨b17, 1, none⟩))] ?_
                  refine ld M86 0 51 (.bool (rDst x.op)) ?_
                  refine sg 1 [1, 3, 49, 52] [(1, .pointer (some ⟨b1, 0, none⟩)), (3, .pointer (some ⟨b17, 0, none⟩)), (49, .bool true), (52, .bool (rDst x.op))] ?_
                  rcases h90 : (rDst x.op) with _ | _
                  · refine sg 1 [1, 3, 49, 52, 53] [(1, .pointer (some ⟨b1, 0, none⟩)), (3, .pointer (some ⟨b17, 0, none⟩)), (49, .bool true), (52, .bool false), (53, .pointer (some ⟨b1, 2, none⟩))] ?_
                    refine ld M86 1 54 (.int .i64 x.dst) ?_
                    refine sg 4 [1, 3, 58] [(1, .pointer (some ⟨b1, 0, none⟩)), (3, .pointer (some ⟨b17, 0, none⟩)), (58, .bool (x.dst == 0))] ?_
                    rcases h91 : (x.dst == 0) with _ | _
                    · have h91p := beq_eq_false_iff_ne.1 h91
                      refine sg 18 [1, 4] [(1, .pointer (some ⟨b1, 0, none⟩)), (4, .bool false)] ?_
                      refine to_end rfl (tn_code (tc_seq (tc_seq (tc_region ?_))))
                      refine sg 1 [1, 4, 76] [(1, .pointer (some ⟨b1, 0, none⟩)), (4, .bool false), (76, .pointer (some ⟨b1, 4, none⟩))] ?_
                      refine ld M86 1 77 (.bool x.reg) ?_
                      refine to_end rfl (tn_code ?_)
                      refine tc_cond (b := x.reg) (fun _ => rfl) (fun h92 => ?_) (fun h92 => ?_)
                      · refine tc_seq (tc_region ?_)
                        refine sg 7 [2] [(2, .bool false)] ?_
                        refine to_end rfl (tn_code (tc_ret ?_))
                        refine tr_tmp rfl rfl ?_
                        exact ⟨congrArg Ending.returned (congrArg Value.bool (by simp [instMay, nop, h7, h11, h15, h37, h59, h83, h88, h90, h91, h92])), M86.below⟩
                      · refine tc_skip (tn_code (tc_seq (tc_region ?_)))
                        refine sg 7 [2] [(2, .bool false)] ?_
                        refine to_end rfl (tn_code (tc_ret ?_))
                        refine tr_tmp rfl rfl ?_
                        exact ⟨congrArg Ending.returned (congrArg Value.bool (by simp [instMay, nop, h7, h11, h15, h37, h59, h83, h88, h90, h91, h92])), M86.below⟩
                    · have h91p := beq_iff_eq.1 h91
                      refine sg 1 [1, 3, 58, 59] [(1, .pointer (some ⟨b1, 0, none⟩)), (3, .pointer (some ⟨b17, 0, none⟩)), (58, .bool true), (59, .pointer (some ⟨b17, 2, none⟩))] ?_
                      refine ld M86 0 60 (.bool (rDst x.op)) ?_
                      refine sg 1 [1, 3, 58, 61] [(1, .pointer (some ⟨b1, 0, none⟩)), (3, .pointer (some ⟨b17, 0, none⟩)), (58, .bool true), (61, .bool (rDst x.op))] ?_
                      rw [h90]
                      refine sg 1 [1, 3, 58, 61, 62] [(1, .pointer (some ⟨b1, 0, none⟩)), (3, .pointer (some ⟨b17, 0, none⟩)), (58, .bool true), (61, .bool false), (62, .pointer (some ⟨b1, 4, none⟩))] ?_
                      refine ld M86 1 63 (.bool x.reg) ?_
                      refine sg 4 [1, 3, 67] [(1, .pointer (some ⟨b1, 0, none⟩)), (3, .pointer (some ⟨b17, 0, none⟩)), (67, .bool (!x.reg))] ?_
                      rcases h93 : (x.reg) with _ | _
                      · refine sg 1 [1, 67, 68] [(1, .pointer (some ⟨b1, 0, none⟩)), (67, .bool true), (68, .pointer (some ⟨b17, 4, none⟩))] ?_
                        refine ld M86 0 69 (.bool (rImm x.op)) ?_
                        refine sg 1 [1, 67, 70] [(1, .pointer (some ⟨b1, 0, none⟩)), (67, .bool true), (70, .bool (rImm x.op))] ?_
                        rcases h94 : (rImm x.op) with _ | _
                        · refine sg 1 [1, 67, 70, 71] [(1, .pointer (some ⟨b1, 0, none⟩)), (67, .bool true), (70, .bool false), (71, .pointer (some ⟨b1, 6, none⟩))] ?_
                          refine ld M86 1 72 (.int .u32 x.imm) ?_
                          refine sg 4 [1, 4] [(1, .pointer (some ⟨b1, 0, none⟩)), (4, .bool (x.imm == 0))] ?_
                          refine to_end rfl (tn_code (tc_seq (tc_seq (tc_region ?_))))
                          refine sg 1 [1, 4, 76] [(1, .pointer (some ⟨b1, 0, none⟩)), (4, .bool (x.imm == 0)), (76, .pointer (some ⟨b1, 4, none⟩))] ?_
                          refine ld M86 1 77 (.bool x.reg) ?_
                          refine to_end rfl (tn_code ?_)
                          rw [h93]
                          refine tc_cond_f (fun _ => rfl) (tc_skip (tn_code (tc_seq (tc_region ?_))))
                          refine sg 2 [1, 85] [(1, .pointer (some ⟨b1, 0, none⟩)), (85, .bool (x.imm == 0))] ?_
                          rcases h95 : (x.imm == 0) with _ | _
                          · have h95p := beq_eq_false_iff_ne.1 h95
                            refine sg 5 [2] [(2, .bool false)] ?_
                            refine to_end rfl (tn_code (tc_ret ?_))
                            refine tr_tmp rfl rfl ?_
                            exact ⟨congrArg Ending.returned (congrArg Value.bool (by simp [instMay, nop, h7, h11, h15, h37, h59, h83, h88, h90, h91, h93, h94, h95])), M86.below⟩
                          · have h95p := beq_iff_eq.1 h95
                            refine sg 1 [85, 86] [(85, .bool true), (86, .pointer (some ⟨b1, 3, none⟩))] ?_
                            refine ld M86 1 87 (.int .i64 x.src) ?_
                            refine sg 3 [2] [(2, .bool (x.src == 0))] ?_
                            refine to_end rfl (tn_code (tc_ret ?_))
                            refine tr_tmp rfl rfl ?_
                            exact ⟨congrArg Ending.returned (congrArg Value.bool (by simp [instMay, nop, h7, h11, h15, h37, h59, h83, h88, h90, h91, h93, h94, h95])), M86.below⟩
                        · refine sg 6 [1, 4] [(1, .pointer (some ⟨b1, 0, none⟩)), (4, .bool true)] ?_
                          refine to_end rfl (tn_code (tc_seq (tc_seq (tc_region ?_))))
                          refine sg 1 [1, 4, 76] [(1, .pointer (some ⟨b1, 0, none⟩)), (4, .bool true), (76, .pointer (some ⟨b1, 4, none⟩))] ?_
                          refine ld M86 1 77 (.bool x.reg) ?_
                          refine to_end rfl (tn_code ?_)
                          rw [h93]
                          refine tc_cond_f (fun _ => rfl) (tc_skip (tn_code (tc_seq (tc_region ?_))))
                          refine sg 3 [85, 86] [(85, .bool true), (86, .pointer (some ⟨b1, 3, none⟩))] ?_
                          refine ld M86 1 87 (.int .i64 x.src) ?_
                          refine sg 3 [2] [(2, .bool (x.src == 0))] ?_
                          refine to_end rfl (tn_code (tc_ret ?_))
                          refine tr_tmp rfl rfl ?_
                          exact ⟨congrArg Ending.returned (congrArg Value.bool (by simp [instMay, nop, h7, h11, h15, h37, h59, h83, h88, h90, h91, h93, h94])), M86.below⟩
                      · refine sg 9 [1, 4] [(1, .pointer (some ⟨b1, 0, none⟩)), (4, .bool false)] ?_
                        refine to_end rfl (tn_code (tc_seq (tc_seq (tc_region ?_))))
                        refine sg 1 [1, 4, 76] [(1, .pointer (some ⟨b1, 0, none⟩)), (4, .bool false), (76, .pointer (some ⟨b1, 4, none⟩))] ?_
                        refine ld M86 1 77 (.bool x.reg) ?_
                        refine to_end rfl (tn_code ?_)
                        rw [h93]
                        refine tc_cond_t (fun _ => rfl) (tc_seq (tc_region ?_))
                        refine sg 7 [2] [(2, .bool false)] ?_
                        refine to_end rfl (tn_code (tc_ret ?_))
                        refine tr_tmp rfl rfl ?_
                        exact ⟨congrArg Ending.returned (congrArg Value.bool (by simp [instMay, nop, h7, h11, h15, h37, h59, h83, h88, h90, h91, h93])), M86.below⟩
                  · refine sg 7 [1, 3, 58, 59] [(1, .pointer (some ⟨b1, 0, none⟩)), (3, .pointer (some ⟨b17, 0, none⟩)), (58, .bool true), (59, .pointer (some ⟨b17, 2, none⟩))] ?_
                    refine ld M86 0 60 (.bool (rDst x.op)) ?_
                    refine sg 1 [1, 3, 58, 61] [(1, .pointer (some ⟨b1, 0, none⟩)), (3, .pointer (some ⟨b17, 0, none⟩)), (58, .bool true), (61, .bool (rDst x.op))] ?_
                    rw [h90]
                    refine sg 7 [1, 67, 68] [(1, .pointer (some ⟨b1, 0, none⟩)), (67, .bool true), (68, .pointer (some ⟨b17, 4, none⟩))] ?_
                    refine ld M86 0 69 (.bool (rImm x.op)) ?_
                    refine sg 1 [1, 67, 70] [(1, .pointer (some ⟨b1, 0, none⟩)), (67, .bool true), (70, .bool (rImm x.op))] ?_
                    rcases h96 : (rImm x.op) with _ | _
                    · refine sg 1 [1, 67, 70, 71] [(1, .pointer (some ⟨b1, 0, none⟩)), (67, .bool true), (70, .bool false), (71, .pointer (some ⟨b1, 6, none⟩))] ?_
                      refine ld M86 1 72 (.int .u32 x.imm) ?_
                      refine sg 4 [1, 4] [(1, .pointer (some ⟨b1, 0, none⟩)), (4, .bool (x.imm == 0))] ?_
                      refine to_end rfl (tn_code (tc_seq (tc_seq (tc_region ?_))))
                      refine sg 1 [1, 4, 76] [(1, .pointer (some ⟨b1, 0, none⟩)), (4, .bool (x.imm == 0)), (76, .pointer (some ⟨b1, 4, none⟩))] ?_
                      refine ld M86 1 77 (.bool x.reg) ?_
                      refine to_end rfl (tn_code ?_)
                      refine tc_cond (b := x.reg) (fun _ => rfl) (fun h97 => ?_) (fun h97 => ?_)
                      · refine tc_seq (tc_region ?_)
                        refine sg 2 [1, 79] [(1, .pointer (some ⟨b1, 0, none⟩)), (79, .bool (x.imm == 0))] ?_
                        rcases h98 : (x.imm == 0) with _ | _
                        · have h98p := beq_eq_false_iff_ne.1 h98
                          refine sg 5 [2] [(2, .bool false)] ?_
                          refine to_end rfl (tn_code (tc_ret ?_))
                          refine tr_tmp rfl rfl ?_
                          exact ⟨congrArg Ending.returned (congrArg Value.bool (by simp [instMay, nop, h7, h11, h15, h37, h59, h83, h88, h90, h96, h97, h98])), M86.below⟩
                        · have h98p := beq_iff_eq.1 h98
                          refine sg 1 [79, 80] [(79, .bool true), (80, .pointer (some ⟨b1, 6, none⟩))] ?_
                          refine ld M86 1 81 (.int .u32 x.imm) ?_
                          refine sg 3 [2] [(2, .bool (x.imm == 0))] ?_
                          refine to_end rfl (tn_code (tc_ret ?_))
                          refine tr_tmp rfl rfl ?_
                          exact ⟨congrArg Ending.returned (congrArg Value.bool (by simp [instMay, nop, h7, h11, h15, h37, h59, h83, h88, h90, h96, h97, h98])), M86.below⟩
                      · refine tc_skip (tn_code (tc_seq (tc_region ?_)))
                        refine sg 2 [1, 85] [(1, .pointer (some ⟨b1, 0, none⟩)), (85, .bool (x.imm == 0))] ?_
                        rcases h99 : (x.imm == 0) with _ | _
                        · have h99p := beq_eq_false_iff_ne.1 h99
                          refine sg 5 [2] [(2, .bool false)] ?_
                          refine to_end rfl (tn_code (tc_ret ?_))
                          refine tr_tmp rfl rfl ?_
                          exact ⟨congrArg Ending.returned (congrArg Value.bool (by simp [instMay, nop, h7, h11, h15, h37, h59, h83, h88, h90, h96, h97, h99])), M86.below⟩
                        · have h99p := beq_iff_eq.1 h99
                          refine sg 1 [85, 86] [(85, .bool true), (86, .pointer (some ⟨b1, 3, none⟩))] ?_
                          refine ld M86 1 87 (.int .i64 x.src) ?_
                          refine sg 3 [2] [(2, .bool (x.src == 0))] ?_
                          refine to_end rfl (tn_code (tc_ret ?_))
                          refine tr_tmp rfl rfl ?_
                          exact ⟨congrArg Ending.returned (congrArg Value.bool (by simp [instMay, nop, h7, h11, h15, h37, h59, h83, h88, h90, h96, h97, h99])), M86.below⟩
                    · refine sg 6 [1, 4] [(1, .pointer (some ⟨b1, 0, none⟩)), (4, .bool true)] ?_
                      refine to_end rfl (tn_code (tc_seq (tc_seq (tc_region ?_))))
                      refine sg 1 [1, 4, 76] [(1, .pointer (some ⟨b1, 0, none⟩)), (4, .bool true), (76, .pointer (some ⟨b1, 4, none⟩))] ?_
                      refine ld M86 1 77 (.bool x.reg) ?_
                      refine to_end rfl (tn_code ?_)
                      refine tc_cond (b := x.reg) (fun _ => rfl) (fun h100 => ?_) (fun h100 => ?_)
                      · refine tc_seq (tc_region ?_)
                        refine sg 3 [79, 80] [(79, .bool true), (80, .pointer (some ⟨b1, 6, none⟩))] ?_
                        refine ld M86 1 81 (.int .u32 x.imm) ?_
                        refine sg 3 [2] [(2, .bool (x.imm == 0))] ?_
                        refine to_end rfl (tn_code (tc_ret ?_))
                        refine tr_tmp rfl rfl ?_
                        exact ⟨congrArg Ending.returned (congrArg Value.bool (by simp [instMay, nop, h7, h11, h15, h37, h59, h83, h88, h90, h96, h100])), M86.below⟩
                      · refine tc_skip (tn_code (tc_seq (tc_region ?_)))
                        refine sg 3 [85, 86] [(85, .bool true), (86, .pointer (some ⟨b1, 3, none⟩))] ?_
                        refine ld M86 1 87 (.int .i64 x.src) ?_
                        refine sg 3 [2] [(2, .bool (x.src == 0))] ?_
                        refine to_end rfl (tn_code (tc_ret ?_))
                        refine tr_tmp rfl rfl ?_
                        exact ⟨congrArg Ending.returned (congrArg Value.bool (by simp [instMay, nop, h7, h11, h15, h37, h59, h83, h88, h90, h96, h100])), M86.below⟩

theorem fineOff_any (x : Inst) (w : World) : Calls Try.prog 133 #[.agg x.cs] w fun e w' => e = .returned (.bool (!instMay x)) ∧ Below w.heap.size w w' := by
  have M := Mem.refl w
  refine calls_tc (N := 6) (args := [.agg x.cs]) Try.func133 rfl rfl rfl ?_
  refine tc_seq (tc_region ?_)
  refine nw M 1 x.cs 65 fun b1 w2 M3 => ?_
  refine sg 1 [1] [(1, .pointer (some ⟨b1, 0, none⟩))] ?_
  refine to_end rfl (tn_code (tc_seq (tc_region ?_)))
  refine la M3 0 3 x.cs (hu := Try.underlying65) ?_
  refine cb M3 4 (may_any x _) fun w4 hb6 M5 => ?_
  refine sg 2 [2] [(2, .bool (!(instMay x)))] ?_
  refine to_end rfl (tn_code (tc_ret ?_))
  refine tr_tmp rfl rfl ?_
  exact ⟨congrArg Ending.returned (congrArg Value.bool (rfl)), M5.below⟩

theorem mayOff_any (x : Inst) (w : World) : Calls Try.prog 122 #[.agg x.cs] w fun e w' => e = .returned (.bool (!instMay x)) ∧ Below w.heap.size w w' := by
  have M := Mem.refl w
  refine calls_tc (N := 6) (args := [.agg x.cs]) Try.func122 rfl rfl rfl ?_
  refine tc_seq (tc_region ?_)
  refine nw M 1 x.cs 65 fun b1 w2 M3 => ?_
  refine sg 1 [1] [(1, .pointer (some ⟨b1, 0, none⟩))] ?_
  refine to_end rfl (tn_code (tc_seq (tc_region ?_)))
  refine la M3 0 3 x.cs (hu := Try.underlying65) ?_
  refine cb M3 4 (may_any x _) fun w4 hb6 M5 => ?_
  refine sg 2 [2] [(2, .bool (!(instMay x)))] ?_
  refine to_end rfl (tn_code (tc_ret ?_))
  refine tr_tmp rfl rfl ?_
  exact ⟨congrArg Ending.returned (congrArg Value.bool (rfl)), M5.below⟩

set_option linter.unusedVariables false in
theorem idx_fine (A : Option Addr) (c : Nat) (xs : List Inst) (w : World) (hC : kInst.C w A xs.length xs) : Calls Try.prog 152 #[.slice A xs.length c, .func (.func 133) #[] #[]] w fun e w' => e = .returned (.int .i64 (idxF (fun x => !instMay x) xs)) ∧ Below w.heap.size w w' := by
  have M := Mem.refl w
  have hmax := C_max hC
  refine calls_tc (N := 19) (args := [.slice A xs.length c, .func (.func 133) #[] #[]]) Try.func152 rfl rfl rfl ?_
  refine tc_seq (tc_region ?_)
  refine sg 1 [0, 1] [(0, .slice A xs.length c), (1, .func (.func 133) #[] #[])] ?_
  refine to_end rfl (tn_code (tc_seq (tc_seq (tc_region ?_))))
  refine sg 3 [0, 1, 7, 8] [(0, .slice A xs.length c), (1, .func (.func 133) #[] #[]), (7, .int .i64 (xs.length : Int)), (8, .int .i64 0)] ?_
  refine to_end rfl (tn_code (tc_block ?_))
  refine tc_loop (σ := Nat) (fun k1 => [(0, .slice A xs.length c), (1, .func (.func 133) #[] #[]), (7, .int .i64 (xs.length : Int)), (8, .int .i64 (k1 : Int))]) (fun k1 w' => k1 ≤ xs.length ∧ (∀ j, j < k1 → (fun x => !instMay x) (xs.getD j Inst.z) = false) ∧ Mem w w' []) (fun k1 => xs.length - k1) 0 (Sub.cons rfl (Sub.cons rfl (Sub.cons rfl (Sub.cons rfl (Sub.nil _))))) ⟨Nat.zero_le _, fun j hj => absurd hj (Nat.not_lt_zero _), M⟩ ?_
  rintro k1 w4 ⟨hk2, hi3, M5⟩
  refine tc_seq (tc_region ?_)
  refine sg 1 [0, 1, 7, 8, 9] [(0, .slice A xs.length c), (1, .func (.func 133) #[] #[]), (7, .int .i64 (xs.length : Int)), (8, .int .i64 (k1 : Int)), (9, .bool (decide ((k1 : Int) < (xs.length : Int))))] ?_
  refine to_end rfl (tn_code (tc_seq ?_))
  refine tc_cond (b := decide ((k1 : Int) < (xs.length : Int))) (fun _ => rfl) (fun h6 => ?_) (fun h6 => ?_)
  · have h6p := of_decide_eq_true h6
    refine tc_skip (tn_code (tc_seq (tc_block (tc_seq (tc_region ?_)))))
    refine sg 2 [0, 1, 7, 8, 5] [(0, .slice A xs.length c), (1, .func (.func 133) #[] #[]), (7, .int .i64 (xs.length : Int)), (8, .int .i64 (k1 : Int)), (5, .int .i64 (k1 : Int))] ?_
    refine to_end rfl (tn_code (tc_seq (tc_region ?_)))
    refine sg 3 [0, 1, 7, 8, 5, 11, 12, 13] [(0, .slice A xs.length c), (1, .func (.func 133) #[] #[]), (7, .int .i64 (xs.length : Int)), (8, .int .i64 (k1 : Int)), (5, .int .i64 (k1 : Int)), (11, .func (.func 133) #[] #[]), (12, .slice A xs.length c), (13, .int .i64 (k1 : Int))] ?_
    obtain ⟨ad7, rfl⟩ := C_some hC (k := k1) (by omega)
    refine ix (ad := ad7) (n := xs.length) (c := c) 14 k1 7 (by omega) Try.underlying55 ?_
    obtain ⟨cs10, hk8, hc9⟩ := C_cell hC Inst.z k1 (by omega)
    obtain rfl := kInst_open hk8
    refine lea 15 ((xs.getD k1 Inst.z).cs) (fun j u hj => cell_up M5 (hc9 j u hj)) (hu := Try.underlying65) ?_
    refine cb M5 16 (fineOff_any (xs.getD k1 Inst.z) _) fun w11 hb13 M12 => ?_
    refine to_end rfl (tn_code ?_)
    rcases h14 : (instMay (xs.getD k1 Inst.z)) with _ | _
    · refine tc_cond_t (fun _ => rfl) (tc_seq (tc_region ?_))
      refine sg 2 [4] [(4, .int .i64 (k1 : Int))] ?_
      refine to_end rfl (tn_code (tc_ret ?_))
      refine tr_tmp rfl rfl ?_
      exact ⟨congrArg Ending.returned (congrArg (Value.int .i64) (idxF_at (p := fun x => !instMay x) (z := Inst.z) (by omega) hi3 (by show (!_) = _; rw [h14]; rfl))), M12.below⟩
    · refine tc_cond_f (fun _ => rfl) (tc_skip (tn_blk (tn_code (tc_region ?_))))
      refine sg 2 [0, 1, 7, 8] [(0, .slice (some ad7) xs.length c), (1, .func (.func 133) #[] #[]), (7, .int .i64 (xs.length : Int)), (8, .int .i64 (IntKind.wrap .i64 ((k1 : Int) + 1)))] ?_
      rw [show IntKind.wrap .i64 ((k1 : Int) + 1) = (((k1 + 1) : Nat) : Int) from wr_nat k1 1 (by omega)]
      refine to_end rfl ?_
      exact tn_back (k1 + 1) (Sub.cons rfl (Sub.cons rfl (Sub.cons rfl (Sub.cons rfl (Sub.nil _))))) ⟨by omega, step_no (p := fun x => !instMay x) (z := Inst.z) hi3 (by show (!_) = _; rw [h14]; rfl), M12⟩ (by omega)
  · have h6p := of_decide_eq_false h6
    refine tc_exitK (k' := _) rfl (tn_code (tc_seq (tc_region ?_)))
    refine sg 1 [4] [(4, .int .i64 (-1))] ?_
    refine to_end rfl (tn_code (tc_ret ?_))
    refine tr_tmp rfl rfl ?_
    exact ⟨congrArg Ending.returned (congrArg (Value.int .i64) (idxF_no (p := fun x => !instMay x) (z := Inst.z) (fun j hj => hi3 j (by omega)))), M5.below⟩

theorem has_fine (A : Option Addr) (c : Nat) (xs : List Inst) (w : World) (hC : kInst.C w A xs.length xs) : Calls Try.prog 121 #[.slice A xs.length c, .func (.func 133) #[] #[]] w fun e w' => e = .returned (.bool (xs.any (fun x => !instMay x))) ∧ Below w.heap.size w w' := by
  have M := Mem.refl w
  refine calls_tc (N := 9) (args := [.slice A xs.length c, .func (.func 133) #[] #[]]) Try.func121 rfl rfl rfl ?_
  refine tc_seq (tc_region ?_)
  refine sg 1 [0, 1] [(0, .slice A xs.length c), (1, .func (.func 133) #[] #[])] ?_
  refine to_end rfl (tn_code (tc_seq (tc_region ?_)))
  refine sg 2 [5, 6] [(5, .slice A xs.length c), (6, .func (.func 133) #[] #[])] ?_
  refine cb M 7 (idx_fine A c xs _ (C_up M hC)) fun w1 hb3 M2 => ?_
  refine sg 2 [4] [(4, .bool (decide ((idxF (fun x => !instMay x) xs) ≥ 0)))] ?_
  refine to_end rfl (tn_code (tc_ret ?_))
  refine tr_tmp rfl rfl ?_
  exact ⟨congrArg Ending.returned (congrArg Value.bool (idxF_ge _ _)), M2.below⟩

set_option linter.unusedVariables false in
theorem idx_cmay (A : Option Addr) (c : Nat) (xs : List Inst) (w : World) (hC : kInst.C w A xs.length xs) : Calls Try.prog 152 #[.slice A xs.length c, .func (.func 122) #[] #[]] w fun e w' => e = .returned (.int .i64 (idxF (fun x => !instMay x) xs)) ∧ Below w.heap.size w w' := by
  have M := Mem.refl w
  have hmax := C_max hC
  refine calls_tc (N := 19) (args := [.slice A xs.length c, .func (.func 122) #[] #[]]) Try.func152 rfl rfl rfl ?_
  refine tc_seq (tc_region ?_)
  refine sg 1 [0, 1] [(0, .slice A xs.length c), (1, .func (.func 122) #[] #[])] ?_
  refine to_end rfl (tn_code (tc_seq (tc_seq (tc_region ?_))))
  refine sg 3 [0, 1, 7, 8] [(0, .slice A xs.length c), (1, .func (.func 122) #[] #[]), (7, .int .i64 (xs.length : Int)), (8, .int .i64 0)] ?_
  refine to_end rfl (tn_code (tc_block ?_))
  refine tc_loop (σ := Nat) (fun k1 => [(0, .slice A xs.length c), (1, .func (.func 122) #[] #[]), (7, .int .i64 (xs.length : Int)), (8, .int .i64 (k1 : Int))]) (fun k1 w' => k1 ≤ xs.length ∧ (∀ j, j < k1 → (fun x => !instMay x) (xs.getD j Inst.z) = false) ∧ Mem w w' []) (fun k1 => xs.length - k1) 0 (Sub.cons rfl (Sub.cons rfl (Sub.cons rfl (Sub.cons rfl (Sub.nil _))))) ⟨Nat.zero_le _, fun j hj => absurd hj (Nat.not_lt_zero _), M⟩ ?_
  rintro k1 w4 ⟨hk2, hi3, M5⟩
  refine tc_seq (tc_region ?_)
  refine sg 1 [0, 1, 7, 8, 9] [(0, .slice A xs.length c), (1, .func (.func 122) #[] #[]), (7, .int .i64 (xs.length : Int)), (8, .int .i64 (k1 : Int)), (9, .bool (decide ((k1 : Int) < (xs.length : Int))))] ?_
  refine to_end rfl (tn_code (tc_seq ?_))
  refine tc_cond (b := decide ((k1 : Int) < (xs.length : Int))) (fun _ => rfl) (fun h6 => ?_) (fun h6 => ?_)
  · have h6p := of_decide_eq_true h6
    refine tc_skip (tn_code (tc_seq (tc_block (tc_seq (tc_region ?_)))))
    refine sg 2 [0, 1, 7, 8, 5] [(0, .slice A xs.length c), (1, .func (.func 122) #[] #[]), (7, .int .i64 (xs.length : Int)), (8, .int .i64 (k1 : Int)), (5, .int .i64 (k1 : Int))] ?_
    refine to_end rfl (tn_code (tc_seq (tc_region ?_)))
    refine sg 3 [0, 1, 7, 8, 5, 11, 12, 13] [(0, .slice A xs.length c), (1, .func (.func 122) #[] #[]), (7, .int .i64 (xs.length : Int)), (8, .int .i64 (k1 : Int)), (5, .int .i64 (k1 : Int)), (11, .func (.func 122) #[] #[]), (12, .slice A xs.length c), (13, .int .i64 (k1 : Int))] ?_
    obtain ⟨ad7, rfl⟩ := C_some hC (k := k1) (by omega)
    refine ix (ad := ad7) (n := xs.length) (c := c) 14 k1 7 (by omega) Try.underlying55 ?_
    obtain ⟨cs10, hk8, hc9⟩ := C_cell hC Inst.z k1 (by omega)
    obtain rfl := kInst_open hk8
    refine lea 15 ((xs.getD k1 Inst.z).cs) (fun j u hj => cell_up M5 (hc9 j u hj)) (hu := Try.underlying65) ?_
    refine cb M5 16 (mayOff_any (xs.getD k1 Inst.z) _) fun w11 hb13 M12 => ?_
    refine to_end rfl (tn_code ?_)
    rcases h14 : (instMay (xs.getD k1 Inst.z)) with _ | _
    · refine tc_cond_t (fun _ => rfl) (tc_seq (tc_region ?_))
      refine sg 2 [4] [(4, .int .i64 (k1 : Int))] ?_
      refine to_end rfl (tn_code (tc_ret ?_))
      refine tr_tmp rfl rfl ?_
      exact ⟨congrArg Ending.returned (congrArg (Value.int .i64) (idxF_at (p := fun x => !instMay x) (z := Inst.z) (by omega) hi3 (by show (!_) = _; rw [h14]; rfl))), M12.below⟩
    · refine tc_cond_f (fun _ => rfl) (tc_skip (tn_blk (tn_code (tc_region ?_))))
      refine sg 2 [0, 1, 7, 8] [(0, .slice (some ad7) xs.length c), (1, .func (.func 122) #[] #[]), (7, .int .i64 (xs.length : Int)), (8, .int .i64 (IntKind.wrap .i64 ((k1 : Int) + 1)))] ?_
      rw [show IntKind.wrap .i64 ((k1 : Int) + 1) = (((k1 + 1) : Nat) : Int) from wr_nat k1 1 (by omega)]
      refine to_end rfl ?_
      exact tn_back (k1 + 1) (Sub.cons rfl (Sub.cons rfl (Sub.cons rfl (Sub.cons rfl (Sub.nil _))))) ⟨by omega, step_no (p := fun x => !instMay x) (z := Inst.z) hi3 (by show (!_) = _; rw [h14]; rfl), M12⟩ (by omega)
  · have h6p := of_decide_eq_false h6
    refine tc_exitK (k' := _) rfl (tn_code (tc_seq (tc_region ?_)))
    refine sg 1 [4] [(4, .int .i64 (-1))] ?_
    refine to_end rfl (tn_code (tc_ret ?_))
    refine tr_tmp rfl rfl ?_
    exact ⟨congrArg Ending.returned (congrArg (Value.int .i64) (idxF_no (p := fun x => !instMay x) (z := Inst.z) (fun j hj => hi3 j (by omega)))), M5.below⟩

theorem has_cmay (A : Option Addr) (c : Nat) (xs : List Inst) (w : World) (hC : kInst.C w A xs.length xs) : Calls Try.prog 121 #[.slice A xs.length c, .func (.func 122) #[] #[]] w fun e w' => e = .returned (.bool (xs.any (fun x => !instMay x))) ∧ Below w.heap.size w w' := by
  have M := Mem.refl w
  refine calls_tc (N := 9) (args := [.slice A xs.length c, .func (.func 122) #[] #[]]) Try.func121 rfl rfl rfl ?_
  refine tc_seq (tc_region ?_)
  refine sg 1 [0, 1] [(0, .slice A xs.length c), (1, .func (.func 122) #[] #[])] ?_
  refine to_end rfl (tn_code (tc_seq (tc_region ?_)))
  refine sg 2 [5, 6] [(5, .slice A xs.length c), (6, .func (.func 122) #[] #[])] ?_
  refine cb M 7 (idx_cmay A c xs _ (C_up M hC)) fun w1 hb3 M2 => ?_
  refine sg 2 [4] [(4, .bool (decide ((idxF (fun x => !instMay x) xs) ≥ 0)))] ?_
  refine to_end rfl (tn_code (tc_ret ?_))
  refine tr_tmp rfl rfl ?_
  exact ⟨congrArg Ending.returned (congrArg Value.bool (idxF_ge _ _)), M2.below⟩

theorem fine_any (x : Fn) (A : Option Addr) (c : Nat) (w : World) (hC : kInst.C w A x.code.length x.code) : Calls Try.prog 98 #[.agg #[.int .i64 x.args, .slice A x.code.length c]] w fun e w' => e = .returned (.bool (fnMay x)) ∧ Below w.heap.size w w' := by
  have M := Mem.refl w
  refine calls_tc (N := 31) (args := [.agg #[.int .i64 x.args, .slice A x.code.length c]]) Try.func98 rfl rfl rfl ?_
  refine tc_seq (tc_region ?_)
  refine nw M 1 #[.int .i64 x.args, .slice A x.code.length c] 57 fun b1 w2 M3 => ?_
  refine sg 1 [1] [(1, .pointer (some ⟨b1, 0, none⟩))] ?_
  refine to_end rfl (tn_code (tc_seq (tc_region ?_)))
  refine sg 1 [1, 3] [(1, .pointer (some ⟨b1, 0, none⟩)), (3, .func (.func 133) #[] #[])] ?_
  refine to_end rfl (tn_code (tc_seq (tc_region ?_)))
  refine sg 1 [1, 3, 4] [(1, .pointer (some ⟨b1, 0, none⟩)), (3, .func (.func 133) #[] #[]), (4, .pointer (some ⟨b1, 0, none⟩))] ?_
  refine ld M3 0 5 (.int .i64 x.args) ?_
  refine sg 2 [1, 3, 7] [(1, .pointer (some ⟨b1, 0, none⟩)), (3, .func (.func 133) #[] #[]), (7, .bool (decide (x.args ≥ 0)))] ?_
  rcases h4 : (decide (x.args ≥ 0)) with _ | _
  · have h4p := of_decide_eq_false h4
    refine sg 24 [2] [(2, .bool false)] ?_
    refine to_end rfl (tn_code (tc_ret ?_))
    refine tr_tmp rfl rfl ?_
    exact ⟨congrArg Ending.returned (congrArg Value.bool (by rw [Bool.eq_iff_iff]; simp [fnMay]; omega)), M3.below⟩
  · have h4p := of_decide_eq_true h4
    refine sg 1 [1, 3, 7, 8] [(1, .pointer (some ⟨b1, 0, none⟩)), (3, .func (.func 133) #[] #[]), (7, .bool true), (8, .pointer (some ⟨b1, 0, none⟩))] ?_
    refine ld M3 0 9 (.int .i64 x.args) ?_
    refine sg 3 [1, 3, 12] [(1, .pointer (some ⟨b1, 0, none⟩)), (3, .func (.func 133) #[] #[]), (12, .bool (decide (x.args ≤ 4)))] ?_
    rcases h5 : (decide (x.args ≤ 4)) with _ | _
    · have h5p := of_decide_eq_false h5
      refine sg 19 [2] [(2, .bool false)] ?_
      refine to_end rfl (tn_code (tc_ret ?_))
      refine tr_tmp rfl rfl ?_
      exact ⟨congrArg Ending.returned (congrArg Value.bool (by rw [Bool.eq_iff_iff]; simp [fnMay]; omega)), M3.below⟩
    · have h5p := of_decide_eq_true h5
      refine sg 1 [1, 3, 12, 13] [(1, .pointer (some ⟨b1, 0, none⟩)), (3, .func (.func 133) #[] #[]), (12, .bool true), (13, .pointer (some ⟨b1, 1, none⟩))] ?_
      refine ld M3 0 14 (.slice A x.code.length c) ?_
      refine sg 4 [1, 3, 18] [(1, .pointer (some ⟨b1, 0, none⟩)), (3, .func (.func 133) #[] #[]), (18, .bool (decide ((x.code.length : Int) > 0)))] ?_
      rcases h6 : (decide ((x.code.length : Int) > 0)) with _ | _
      · have h6p := of_decide_eq_false h6
        refine sg 13 [2] [(2, .bool false)] ?_
        refine to_end rfl (tn_code (tc_ret ?_))
        refine tr_tmp rfl rfl ?_
        exact ⟨congrArg Ending.returned (congrArg Value.bool (by rw [Bool.eq_iff_iff]; simp [fnMay]; omega)), M3.below⟩
      · have h6p := of_decide_eq_true h6
        refine sg 1 [1, 3, 18, 19] [(1, .pointer (some ⟨b1, 0, none⟩)), (3, .func (.func 133) #[] #[]), (18, .bool true), (19, .pointer (some ⟨b1, 1, none⟩))] ?_
        refine ld M3 0 20 (.slice A x.code.length c) ?_
        refine sg 4 [1, 3, 24] [(1, .pointer (some ⟨b1, 0, none⟩)), (3, .func (.func 133) #[] #[]), (24, .bool (decide ((x.code.length : Int) ≤ 64)))] ?_
        rcases h7 : (decide ((x.code.length : Int) ≤ 64)) with _ | _
        · have h7p := of_decide_eq_false h7
          refine sg 7 [2] [(2, .bool false)] ?_
          refine to_end rfl (tn_code (tc_ret ?_))
          refine tr_tmp rfl rfl ?_
          exact ⟨congrArg Ending.returned (congrArg Value.bool (by rw [Bool.eq_iff_iff]; simp [fnMay]; omega)), M3.below⟩
        · have h7p := of_decide_eq_true h7
          refine sg 1 [3, 24, 25] [(3, .func (.func 133) #[] #[]), (24, .bool true), (25, .pointer (some ⟨b1, 1, none⟩))] ?_
          refine ld M3 0 26 (.slice A x.code.length c) ?_
          refine sg 1 [24, 26, 27] [(24, .bool true), (26, .slice A x.code.length c), (27, .func (.func 133) #[] #[])] ?_
          refine cb M3 28 (has_fine A c x.code _ (C_up M3 hC)) fun w8 hb10 M9 => ?_
          refine sg 3 [2] [(2, .bool (!(x.code.any (fun x => !instMay x))))] ?_
          refine to_end rfl (tn_code (tc_ret ?_))
          refine tr_tmp rfl rfl ?_
          exact ⟨congrArg Ending.returned (congrArg Value.bool (by rw [not_any_not, Bool.eq_iff_iff]; simp [fnMay]; intro _; omega)), M9.below⟩

theorem mayNot_any (x : Fn) (A : Option Addr) (c : Nat) (w : World) (hC : kInst.C w A x.code.length x.code) : Calls Try.prog 102 #[.agg #[.int .i64 x.args, .slice A x.code.length c]] w fun e w' => e = .returned (.bool (!fnMay x)) ∧ Below w.heap.size w w' := by
  have M := Mem.refl w
  refine calls_tc (N := 6) (args := [.agg #[.int .i64 x.args, .slice A x.code.length c]]) Try.func102 rfl rfl rfl ?_
  refine tc_seq (tc_region ?_)
  refine nw M 1 #[.int .i64 x.args, .slice A x.code.length c] 57 fun b1 w2 M3 => ?_
  refine sg 1 [1] [(1, .pointer (some ⟨b1, 0, none⟩))] ?_
  refine to_end rfl (tn_code (tc_seq (tc_region ?_)))
  refine la M3 0 3 #[.int .i64 x.args, .slice A x.code.length c] (hu := Try.underlying57) ?_
  refine cb M3 4 (fine_any x A c _ (C_up M3 hC)) fun w4 hb6 M5 => ?_
  refine sg 2 [2] [(2, .bool (!(fnMay x)))] ?_
  refine to_end rfl (tn_code (tc_ret ?_))
  refine tr_tmp rfl rfl ?_
  exact ⟨congrArg Ending.returned (congrArg Value.bool (rfl)), M5.below⟩

set_option linter.unusedVariables false in
theorem idx_pmay (A : Option Addr) (c : Nat) (xs : List Fn) (w : World) (hC : kFn.C w A xs.length xs) : Calls Try.prog 134 #[.slice A xs.length c, .func (.func 102) #[] #[]] w fun e w' => e = .returned (.int .i64 (idxF (fun x => !fnMay x) xs)) ∧ Below w.heap.size w w' := by
  have M := Mem.refl w
  have hmax := C_max hC
  refine calls_tc (N := 19) (args := [.slice A xs.length c, .func (.func 102) #[] #[]]) Try.func134 rfl rfl rfl ?_
  refine tc_seq (tc_region ?_)
  refine sg 1 [0, 1] [(0, .slice A xs.length c), (1, .func (.func 102) #[] #[])] ?_
  refine to_end rfl (tn_code (tc_seq (tc_seq (tc_region ?_))))
  refine sg 3 [0, 1, 7, 8] [(0, .slice A xs.length c), (1, .func (.func 102) #[] #[]), (7, .int .i64 (xs.length : Int)), (8, .int .i64 0)] ?_
  refine to_end rfl (tn_code (tc_block ?_))
  refine tc_loop (σ := Nat) (fun k1 => [(0, .slice A xs.length c), (1, .func (.func 102) #[] #[]), (7, .int .i64 (xs.length : Int)), (8, .int .i64 (k1 : Int))]) (fun k1 w' => k1 ≤ xs.length ∧ (∀ j, j < k1 → (fun x => !fnMay x) (xs.getD j Fn.z) = false) ∧ Mem w w' []) (fun k1 => xs.length - k1) 0 (Sub.cons rfl (Sub.cons rfl (Sub.cons rfl (Sub.cons rfl (Sub.nil _))))) ⟨Nat.zero_le _, fun j hj => absurd hj (Nat.not_lt_zero _), M⟩ ?_
  rintro k1 w4 ⟨hk2, hi3, M5⟩
  refine tc_seq (tc_region ?_)
  refine sg 1 [0, 1, 7, 8, 9] [(0, .slice A xs.length c), (1, .func (.func 102) #[] #[]), (7, .int .i64 (xs.length : Int)), (8, .int .i64 (k1 : Int)), (9, .bool (decide ((k1 : Int) < (xs.length : Int))))] ?_
  refine to_end rfl (tn_code (tc_seq ?_))
  refine tc_cond (b := decide ((k1 : Int) < (xs.length : Int))) (fun _ => rfl) (fun h6 => ?_) (fun h6 => ?_)
  · have h6p := of_decide_eq_true h6
    refine tc_skip (tn_code (tc_seq (tc_block (tc_seq (tc_region ?_)))))
    refine sg 2 [0, 1, 7, 8, 5] [(0, .slice A xs.length c), (1, .func (.func 102) #[] #[]), (7, .int .i64 (xs.length : Int)), (8, .int .i64 (k1 : Int)), (5, .int .i64 (k1 : Int))] ?_
    refine to_end rfl (tn_code (tc_seq (tc_region ?_)))
    refine sg 3 [0, 1, 7, 8, 5, 11, 12, 13] [(0, .slice A xs.length c), (1, .func (.func 102) #[] #[]), (7, .int .i64 (xs.length : Int)), (8, .int .i64 (k1 : Int)), (5, .int .i64 (k1 : Int)), (11, .func (.func 102) #[] #[]), (12, .slice A xs.length c), (13, .int .i64 (k1 : Int))] ?_
    obtain ⟨ad7, rfl⟩ := C_some hC (k := k1) (by omega)
    refine ix (ad := ad7) (n := xs.length) (c := c) 14 k1 2 (by omega) Try.underlying43 ?_
    obtain ⟨cs10, hk8, hc9⟩ := C_cell hC Fn.z k1 (by omega)
    obtain ⟨A11, c12, rfl, hl13, hC14⟩ := kFn_open hk8
    refine lea 15 #[.int .i64 ((xs.getD k1 Fn.z).args), .slice A11 ((xs.getD k1 Fn.z).code.length) c12] (fun j u hj => cell_up M5 (hc9 j u hj)) (hu := Try.underlying57) ?_
    refine cb M5 16 (mayNot_any (xs.getD k1 Fn.z) A11 c12 _ (C_up M5 hC14)) fun w15 hb17 M16 => ?_
    refine to_end rfl (tn_code ?_)
    rcases h18 : (fnMay (xs.getD k1 Fn.z)) with _ | _
    · refine tc_cond_t (fun _ => rfl) (tc_seq (tc_region ?_))
      refine sg 2 [4] [(4, .int .i64 (k1 : Int))] ?_
      refine to_end rfl (tn_code (tc_ret ?_))
      refine tr_tmp rfl rfl ?_
      exact ⟨congrArg Ending.returned (congrArg (Value.int .i64) (idxF_at (p := fun x => !fnMay x) (z := Fn.z) (by omega) hi3 (by show (!_) = _; rw [h18]; rfl))), M16.below⟩
    · refine tc_cond_f (fun _ => rfl) (tc_skip (tn_blk (tn_code (tc_region ?_))))
      refine sg 2 [0, 1, 7, 8] [(0, .slice (some ad7) xs.length c), (1, .func (.func 102) #[] #[]), (7, .int .i64 (xs.length : Int)), (8, .int .i64 (IntKind.wrap .i64 ((k1 : Int) + 1)))] ?_
      rw [show IntKind.wrap .i64 ((k1 : Int) + 1) = (((k1 + 1) : Nat) : Int) from wr_nat k1 1 (by omega)]
      refine to_end rfl ?_
      exact tn_back (k1 + 1) (Sub.cons rfl (Sub.cons rfl (Sub.cons rfl (Sub.cons rfl (Sub.nil _))))) ⟨by omega, step_no (p := fun x => !fnMay x) (z := Fn.z) hi3 (by show (!_) = _; rw [h18]; rfl), M16⟩ (by omega)
  · have h6p := of_decide_eq_false h6
    refine tc_exitK (k' := _) rfl (tn_code (tc_seq (tc_region ?_)))
    refine sg 1 [4] [(4, .int .i64 (-1))] ?_
    refine to_end rfl (tn_code (tc_ret ?_))
    refine tr_tmp rfl rfl ?_
    exact ⟨congrArg Ending.returned (congrArg (Value.int .i64) (idxF_no (p := fun x => !fnMay x) (z := Fn.z) (fun j hj => hi3 j (by omega)))), M5.below⟩

theorem has_pmay (A : Option Addr) (c : Nat) (xs : List Fn) (w : World) (hC : kFn.C w A xs.length xs) : Calls Try.prog 101 #[.slice A xs.length c, .func (.func 102) #[] #[]] w fun e w' => e = .returned (.bool (xs.any (fun x => !fnMay x))) ∧ Below w.heap.size w w' := by
  have M := Mem.refl w
  refine calls_tc (N := 9) (args := [.slice A xs.length c, .func (.func 102) #[] #[]]) Try.func101 rfl rfl rfl ?_
  refine tc_seq (tc_region ?_)
  refine sg 1 [0, 1] [(0, .slice A xs.length c), (1, .func (.func 102) #[] #[])] ?_
  refine to_end rfl (tn_code (tc_seq (tc_region ?_)))
  refine sg 2 [5, 6] [(5, .slice A xs.length c), (6, .func (.func 102) #[] #[])] ?_
  refine cb M 7 (idx_pmay A c xs _ (C_up M hC)) fun w1 hb3 M2 => ?_
  refine sg 2 [4] [(4, .bool (decide ((idxF (fun x => !fnMay x) xs) ≥ 0)))] ?_
  refine to_end rfl (tn_code (tc_ret ?_))
  refine tr_tmp rfl rfl ?_
  exact ⟨congrArg Ending.returned (congrArg Value.bool (idxF_ge _ _)), M2.below⟩

theorem pmay_any (p : List Fn) (A : Option Addr) (c : Nat) (w : World) (hC : kFn.C w A p.length p) : Calls Try.prog 52 #[.agg #[.slice A p.length c]] w fun e w' => e = .returned (.bool (progMay p)) ∧ Below w.heap.size w w' := by
  have M := Mem.refl w
  refine calls_tc (N := 25) (args := [.agg #[.slice A p.length c]]) Try.func52 rfl rfl rfl ?_
  refine tc_seq (tc_region ?_)
  refine nw M 1 #[.slice A p.length c] 45 fun b1 w2 M3 => ?_
  refine sg 1 [1] [(1, .pointer (some ⟨b1, 0, none⟩))] ?_
  refine to_end rfl (tn_code (tc_seq (tc_seq (tc_region ?_))))
  refine sg 1 [1, 3] [(1, .pointer (some ⟨b1, 0, none⟩)), (3, .pointer (some ⟨b1, 0, none⟩))] ?_
  refine ld M3 0 4 (.slice A p.length c) ?_
  refine sg 3 [1, 7] [(1, .pointer (some ⟨b1, 0, none⟩)), (7, .bool ((p.length : Int) == 0))] ?_
  rcases h4 : ((p.length : Int) == 0) with _ | _
  · have h4p := beq_eq_false_iff_ne.1 h4
    refine sg 1 [1, 7, 8] [(1, .pointer (some ⟨b1, 0, none⟩)), (7, .bool false), (8, .pointer (some ⟨b1, 0, none⟩))] ?_
    refine ld M3 0 9 (.slice A p.length c) ?_
    refine sg 4 [1, 13] [(1, .pointer (some ⟨b1, 0, none⟩)), (13, .bool (decide ((p.length : Int) > 8)))] ?_
    rcases h5 : (decide ((p.length : Int) > 8)) with _ | _
    · have h5p := of_decide_eq_false h5
      refine sg 1 [1, 13, 14] [(1, .pointer (some ⟨b1, 0, none⟩)), (13, .bool false), (14, .pointer (some ⟨b1, 0, none⟩))] ?_
      refine ld M3 0 15 (.slice A p.length c) ?_
      obtain ⟨ad6, rfl⟩ := C_some hC (k := 0) (by omega)
      refine ix (ad := ad6) (n := p.length) (c := c) 16 0 2 (by omega) Try.underlying43 ?_
      refine sg 1 [1, 13, 17] [(1, .pointer (some ⟨b1, 0, none⟩)), (13, .bool false), (17, .pointer (some (ad6.add (0 * 2))))] ?_
      obtain ⟨cs9, hk7, hc8⟩ := C_cell hC Fn.z 0 (by omega)
      obtain ⟨A10, c11, rfl, hl12, hC13⟩ := kFn_open hk7
      refine le 18 (.int .i64 ((p.getD 0 Fn.z).args)) (cell_up M3 (hc8 0 _ rfl)) ?_
      refine sg 2 [1, 20] [(1, .pointer (some ⟨b1, 0, none⟩)), (20, .bool (((p.getD 0 Fn.z).args) != 0))] ?_
      refine to_end rfl (tn_code ?_)
      refine tc_cond (b := ((p.getD 0 Fn.z).args) != 0) (fun _ => rfl) (fun h14 => ?_) (fun h14 => ?_)
      · have h14p := bne_iff_ne.1 h14
        refine tc_seq (tc_region ?_)
        refine sg 1 [2] [(2, .bool false)] ?_
        refine to_end rfl (tn_code (tc_ret ?_))
        refine tr_tmp rfl rfl ?_
        exact ⟨congrArg Ending.returned (congrArg Value.bool (by (try simp only [List.getD_eq_getElem?_getD] at *); rw [Bool.eq_iff_iff]; simp [progMay]; omega)), M3.below⟩
      · have h14p := bne_eq_false_iff_eq.1 h14
        refine tc_skip (tn_code (tc_seq (tc_region ?_)))
        refine sg 1 [21] [(21, .pointer (some ⟨b1, 0, none⟩))] ?_
        refine ld M3 0 22 (.slice (some ad6) p.length c) ?_
        refine cb M3 23 (has_pmay (some ad6) c p _ (C_up M3 hC)) fun w15 hb17 M16 => ?_
        refine sg 2 [2] [(2, .bool (!(p.any (fun x => !fnMay x))))] ?_
        refine to_end rfl (tn_code (tc_ret ?_))
        refine tr_tmp rfl rfl ?_
        exact ⟨congrArg Ending.returned (congrArg Value.bool (by simp only [List.getD_eq_getElem?_getD] at *; rw [not_any_not, Bool.eq_iff_iff]; simp [progMay]; omega)), M16.below⟩
    · have h5p := of_decide_eq_true h5
      refine sg 7 [1, 20] [(1, .pointer (some ⟨b1, 0, none⟩)), (20, .bool true)] ?_
      refine to_end rfl (tn_code (tc_cond_t (fun _ => rfl) (tc_seq (tc_region ?_))))
      refine sg 1 [2] [(2, .bool false)] ?_
      refine to_end rfl (tn_code (tc_ret ?_))
      refine tr_tmp rfl rfl ?_
      exact ⟨congrArg Ending.returned (congrArg Value.bool (by (try simp only [List.getD_eq_getElem?_getD] at *); rw [Bool.eq_iff_iff]; simp [progMay]; omega)), M3.below⟩
  · have h4p := beq_iff_eq.1 h4
    refine sg 13 [1, 20] [(1, .pointer (some ⟨b1, 0, none⟩)), (20, .bool true)] ?_
    refine to_end rfl (tn_code (tc_cond_t (fun _ => rfl) (tc_seq (tc_region ?_))))
    refine sg 1 [2] [(2, .bool false)] ?_
    refine to_end rfl (tn_code (tc_ret ?_))
    refine tr_tmp rfl rfl ?_
    exact ⟨congrArg Ending.returned (congrArg Value.bool (by (try simp only [List.getD_eq_getElem?_getD] at *); rw [Bool.eq_iff_iff]; simp [progMay]; omega)), M3.below⟩
end Go.Proofs.Ytfknhbgghpbkpaa
