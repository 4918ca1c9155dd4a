/- The document's answers of layers 2 and 3: their walks. -/
import Derived.Test.YtfknhbgghpbkpaaTell0
namespace Go.Proofs.Ytfknhbgghpbkpaa
open Go.RowKit Cal Go.Proofs.YtfknhbgghpbkpaaW.PrintWords
set_option linter.unusedSimpArgs false in
theorem may2_any (x : Inst) (w : World) : Calls Try.prog 135 #[.agg x.cs] w fun e w' => e = .returned (.bool (instMay x)) ∧ Below w.heap.size w w' := by
  have M := Mem.refl w
  refine calls_tc (N := 146) (args := [.agg x.cs]) Try.func135 rfl rfl rfl ?_
  refine tc_seq (tc_region ?_)
  refine nw M 1 x.cs 65 fun b1 w2 M3 => ?_
  refine sg 1 [1] [(1, .pointer (some ⟨b1, 0, none⟩))] ?_
  refine to_end rfl (tn_code (tc_seq (tc_seq (tc_region ?_))))
  refine join (fr' := [(1, .pointer (some ⟨b1, 0, none⟩)), (46, .bool (((((((((decide (x.op < 0)) || (decide (x.op > 7))) || (decide (x.dst < 0))) || (decide (x.dst > 7))) || (decide (x.src < 0))) || (decide (x.src > 7))) || (decide (x.fn < 0))) || (decide (x.off < 0))) || (decide (x.off > 65535))))]) (fun hj_ => ?_) ?_
  · refine sg 1 [1, 4] [(1, .pointer (some ⟨b1, 0, none⟩)), (4, .pointer (some ⟨b1, 0, none⟩))] ?_
    refine ld M3 0 5 (.int .i64 x.op) ?_
    refine sg 2 [1, 7] [(1, .pointer (some ⟨b1, 0, none⟩)), (7, .bool (decide (x.op < 0)))] ?_
    rcases bdi (decide (x.op < 0) : Bool) with h4 | h4
    · have h4p := of_decide_eq_false h4
      rw [h4]
      refine sg 1 [1, 7, 8] [(1, .pointer (some ⟨b1, 0, none⟩)), (7, .bool false), (8, .pointer (some ⟨b1, 0, none⟩))] ?_
      refine ld M3 0 9 (.int .i64 x.op) ?_
      refine sg 3 [1, 12] [(1, .pointer (some ⟨b1, 0, none⟩)), (12, .bool (decide (x.op > 7)))] ?_
      rcases bdi (decide (x.op > 7) : Bool) with h5 | h5
      · have h5p := of_decide_eq_false h5
        rw [h5]
        refine sg 1 [1, 12, 13] [(1, .pointer (some ⟨b1, 0, none⟩)), (12, .bool false), (13, .pointer (some ⟨b1, 2, none⟩))] ?_
        refine ld M3 0 14 (.int .i64 x.dst) ?_
        refine sg 3 [1, 17] [(1, .pointer (some ⟨b1, 0, none⟩)), (17, .bool (decide (x.dst < 0)))] ?_
        rcases bdi (decide (x.dst < 0) : Bool) with h6 | h6
        · have h6p := of_decide_eq_false h6
          rw [h6]
          refine sg 1 [1, 17, 18] [(1, .pointer (some ⟨b1, 0, none⟩)), (17, .bool false), (18, .pointer (some ⟨b1, 2, none⟩))] ?_
          refine ld M3 0 19 (.int .i64 x.dst) ?_
          refine sg 3 [1, 22] [(1, .pointer (some ⟨b1, 0, none⟩)), (22, .bool (decide (x.dst > 7)))] ?_
          rcases bdi (decide (x.dst > 7) : Bool) with h7 | h7
          · have h7p := of_decide_eq_false h7
            rw [h7]
            refine sg 1 [1, 22, 23] [(1, .pointer (some ⟨b1, 0, none⟩)), (22, .bool false), (23, .pointer (some ⟨b1, 3, none⟩))] ?_
            refine ld M3 0 24 (.int .i64 x.src) ?_
            refine sg 3 [1, 27] [(1, .pointer (some ⟨b1, 0, none⟩)), (27, .bool (decide (x.src < 0)))] ?_
            rcases bdi (decide (x.src < 0) : Bool) with h8 | h8
            · have h8p := of_decide_eq_false h8
              rw [h8]
              refine sg 1 [1, 27, 28] [(1, .pointer (some ⟨b1, 0, none⟩)), (27, .bool false), (28, .pointer (some ⟨b1, 3, none⟩))] ?_
              refine ld M3 0 29 (.int .i64 x.src) ?_
              refine sg 3 [1, 32] [(1, .pointer (some ⟨b1, 0, none⟩)), (32, .bool (decide (x.src > 7)))] ?_
              rcases bdi (decide (x.src > 7) : Bool) with h9 | h9
              · have h9p := of_decide_eq_false h9
                rw [h9]
                refine sg 1 [1, 32, 33] [(1, .pointer (some ⟨b1, 0, none⟩)), (32, .bool false), (33, .pointer (some ⟨b1, 1, none⟩))] ?_
                refine ld M3 0 34 (.int .i64 x.fn) ?_
                refine sg 3 [1, 37] [(1, .pointer (some ⟨b1, 0, none⟩)), (37, .bool (decide (x.fn < 0)))] ?_
                rcases bdi (decide (x.fn < 0) : Bool) with h10 | h10
                · have h10p := of_decide_eq_false h10
                  rw [h10]
                  refine sg 1 [1, 37, 38] [(1, .pointer (some ⟨b1, 0, none⟩)), (37, .bool false), (38, .pointer (some ⟨b1, 5, none⟩))] ?_
                  refine ld M3 0 39 (.int .i64 x.off) ?_
                  refine sg 3 [1, 42] [(1, .pointer (some ⟨b1, 0, none⟩)), (42, .bool (decide (x.off < 0)))] ?_
                  rcases bdi (decide (x.off < 0) : Bool) with h11 | h11
                  · have h11p := of_decide_eq_false h11
                    rw [h11]
                    refine sg 1 [1, 42, 43] [(1, .pointer (some ⟨b1, 0, none⟩)), (42, .bool false), (43, .pointer (some ⟨b1, 5, none⟩))] ?_
                    refine ld M3 0 44 (.int .i64 x.off) ?_
                    refine sg 2 [1, 46] [(1, .pointer (some ⟨b1, 0, none⟩)), (46, .bool (decide (x.off > 65535)))] ?_
                    refine to_end rfl ?_
                    rw [show (((((((((decide (x.op < 0)) || (decide (x.op > 7))) || (decide (x.dst < 0))) || (decide (x.dst > 7))) || (decide (x.src < 0))) || (decide (x.src > 7))) || (decide (x.fn < 0))) || (decide (x.off < 0))) || (decide (x.off > 65535)) : Bool) = (decide (x.off > 65535)) from by (simp only [h4, h5, h6, h7, h8, h9, h10, h11, Bool.true_or, Bool.false_or, Bool.or_true, Bool.or_false, Bool.true_and, Bool.false_and, Bool.and_true, Bool.and_false, Bool.not_true, Bool.not_false, cond_true, cond_false, if_true, reduceIte]) <;> rfl] at hj_
                    exact hj_.sub (Sub.cons rfl (Sub.cons rfl (Sub.nil _)))
                  · have h11p := of_decide_eq_true h11
                    rw [h11]
                    refine sg 4 [1, 46] [(1, .pointer (some ⟨b1, 0, none⟩)), (46, .bool true)] ?_
                    refine to_end rfl ?_
                    rw [show (((((((((decide (x.op < 0)) || (decide (x.op > 7))) || (decide (x.dst < 0))) || (decide (x.dst > 7))) || (decide (x.src < 0))) || (decide (x.src > 7))) || (decide (x.fn < 0))) || (decide (x.off < 0))) || (decide (x.off > 65535)) : Bool) = true from by (simp only [h4, h5, h6, h7, h8, h9, h10, h11, Bool.true_or, Bool.false_or, Bool.or_true, Bool.or_false, Bool.true_and, Bool.false_and, Bool.and_true, Bool.and_false, Bool.not_true, Bool.not_false, cond_true, cond_false, if_true, reduceIte]) <;> rfl] at hj_
                    exact hj_.sub (Sub.cons rfl (Sub.cons rfl (Sub.nil _)))
                · have h10p := of_decide_eq_true h10
                  rw [h10]
                  refine sg 9 [1, 46] [(1, .pointer (some ⟨b1, 0, none⟩)), (46, .bool true)] ?_
                  refine to_end rfl ?_
                  rw [show (((((((((decide (x.op < 0)) || (decide (x.op > 7))) || (decide (x.dst < 0))) || (decide (x.dst > 7))) || (decide (x.src < 0))) || (decide (x.src > 7))) || (decide (x.fn < 0))) || (decide (x.off < 0))) || (decide (x.off > 65535)) : Bool) = true from by (simp only [h4, h5, h6, h7, h8, h9, h10, Bool.true_or, Bool.false_or, Bool.or_true, Bool.or_false, Bool.true_and, Bool.false_and, Bool.and_true, Bool.and_false, Bool.not_true, Bool.not_false, cond_true, cond_false, if_true, reduceIte]) <;> rfl] at hj_
                  exact hj_.sub (Sub.cons rfl (Sub.cons rfl (Sub.nil _)))
              · have h9p := of_decide_eq_true h9
                rw [h9]
                refine sg 14 [1, 46] [(1, .pointer (some ⟨b1, 0, none⟩)), (46, .bool true)] ?_
                refine to_end rfl ?_
                rw [show (((((((((decide (x.op < 0)) || (decide (x.op > 7))) || (decide (x.dst < 0))) || (decide (x.dst > 7))) || (decide (x.src < 0))) || (decide (x.src > 7))) || (decide (x.fn < 0))) || (decide (x.off < 0))) || (decide (x.off > 65535)) : Bool) = true from by (simp only [h4, h5, h6, h7, h8, h9, Bool.true_or, Bool.false_or, Bool.or_true, Bool.or_false, Bool.true_and, Bool.false_and, Bool.and_true, Bool.and_false, Bool.not_true, Bool.not_false, cond_true, cond_false, if_true, reduceIte]) <;> rfl] at hj_
                exact hj_.sub (Sub.cons rfl (Sub.cons rfl (Sub.nil _)))
            · have h8p := of_decide_eq_true h8
              rw [h8]
              refine sg 19 [1, 46] [(1, .pointer (some ⟨b1, 0, none⟩)), (46, .bool true)] ?_
              refine to_end rfl ?_
              rw [show (((((((((decide (x.op < 0)) || (decide (x.op > 7))) || (decide (x.dst < 0))) || (decide (x.dst > 7))) || (decide (x.src < 0))) || (decide (x.src > 7))) || (decide (x.fn < 0))) || (decide (x.off < 0))) || (decide (x.off > 65535)) : Bool) = true from by (simp only [h4, h5, h6, h7, h8, Bool.true_or, Bool.false_or, Bool.or_true, Bool.or_false, Bool.true_and, Bool.false_and, Bool.and_true, Bool.and_false, Bool.not_true, Bool.not_false, cond_true, cond_false, if_true, reduceIte]) <;> rfl] at hj_
              exact hj_.sub (Sub.cons rfl (Sub.cons rfl (Sub.nil _)))
          · have h7p := of_decide_eq_true h7
            rw [h7]
            refine sg 24 [1, 46] [(1, .pointer (some ⟨b1, 0, none⟩)), (46, .bool true)] ?_
            refine to_end rfl ?_
            rw [show (((((((((decide (x.op < 0)) || (decide (x.op > 7))) || (decide (x.dst < 0))) || (decide (x.dst > 7))) || (decide (x.src < 0))) || (decide (x.src > 7))) || (decide (x.fn < 0))) || (decide (x.off < 0))) || (decide (x.off > 65535)) : Bool) = true from by (simp only [h4, h5, h6, h7, Bool.true_or, Bool.false_or, Bool.or_true, Bool.or_false, Bool.true_and, Bool.false_and, Bool.and_true, Bool.and_false, Bool.not_true, Bool.not_false, cond_true, cond_false, if_true, reduceIte]) <;> rfl] at hj_
            exact hj_.sub (Sub.cons rfl (Sub.cons rfl (Sub.nil _)))
        · have h6p := of_decide_eq_true h6
          rw [h6]
          refine sg 29 [1, 46] [(1, .pointer (some ⟨b1, 0, none⟩)), (46, .bool true)] ?_
          refine to_end rfl ?_
          rw [show (((((((((decide (x.op < 0)) || (decide (x.op > 7))) || (decide (x.dst < 0))) || (decide (x.dst > 7))) || (decide (x.src < 0))) || (decide (x.src > 7))) || (decide (x.fn < 0))) || (decide (x.off < 0))) || (decide (x.off > 65535)) : Bool) = true from by (simp only [h4, h5, h6, Bool.true_or, Bool.false_or, Bool.or_true, Bool.or_false, Bool.true_and, Bool.false_and, Bool.and_true, Bool.and_false, Bool.not_true, Bool.not_false, cond_true, cond_false, if_true, reduceIte]) <;> rfl] at hj_
          exact hj_.sub (Sub.cons rfl (Sub.cons rfl (Sub.nil _)))
      · have h5p := of_decide_eq_true h5
        rw [h5]
        refine sg 34 [1, 46] [(1, .pointer (some ⟨b1, 0, none⟩)), (46, .bool true)] ?_
        refine to_end rfl ?_
        rw [show (((((((((decide (x.op < 0)) || (decide (x.op > 7))) || (decide (x.dst < 0))) || (decide (x.dst > 7))) || (decide (x.src < 0))) || (decide (x.src > 7))) || (decide (x.fn < 0))) || (decide (x.off < 0))) || (decide (x.off > 65535)) : Bool) = true from by (simp only [h4, h5, Bool.true_or, Bool.false_or, Bool.or_true, Bool.or_false, Bool.true_and, Bool.false_and, Bool.and_true, Bool.and_false, Bool.not_true, Bool.not_false, cond_true, cond_false, if_true, reduceIte]) <;> rfl] at hj_
        exact hj_.sub (Sub.cons rfl (Sub.cons rfl (Sub.nil _)))
    · have h4p := of_decide_eq_true h4
      rw [h4]
      refine sg 39 [1, 46] [(1, .pointer (some ⟨b1, 0, none⟩)), (46, .bool true)] ?_
      refine to_end rfl ?_
      rw [show (((((((((decide (x.op < 0)) || (decide (x.op > 7))) || (decide (x.dst < 0))) || (decide (x.dst > 7))) || (decide (x.src < 0))) || (decide (x.src > 7))) || (decide (x.fn < 0))) || (decide (x.off < 0))) || (decide (x.off > 65535)) : Bool) = true from by (simp only [h4, Bool.true_or, Bool.false_or, Bool.or_true, Bool.or_false, Bool.true_and, Bool.false_and, Bool.and_true, Bool.and_false, Bool.not_true, Bool.not_false, cond_true, cond_false, if_true, reduceIte]) <;> rfl] at hj_
      exact hj_.sub (Sub.cons rfl (Sub.cons rfl (Sub.nil _)))
  refine tn_code ?_
  refine tc_cond (b := ((((((((decide (x.op < 0)) || (decide (x.op > 7))) || (decide (x.dst < 0))) || (decide (x.dst > 7))) || (decide (x.src < 0))) || (decide (x.src > 7))) || (decide (x.fn < 0))) || (decide (x.off < 0))) || (decide (x.off > 65535))) (fun _ => rfl) (fun h12 => ?_) (fun h12 => ?_)
  · have h12p := h12
    simp only [Bool.or_eq_true, Bool.and_eq_true, Bool.or_eq_false_iff, Bool.and_eq_false_iff, decide_eq_true_eq, decide_eq_false_iff_not, beq_iff_eq, bne_iff_ne, beq_eq_false_iff_ne, bne_eq_false_iff_eq, Bool.not_eq_true', Bool.not_eq_false', ne_eq] at h12p
    refine tc_seq (tc_region ?_)
    refine sg 1 [2] [(2, .bool false)] ?_
    refine to_end rfl (tn_code (tc_ret ?_))
    refine tr_tmp rfl rfl ?_
    refine ⟨congrArg Ending.returned (congrArg Value.bool ?_), M3.below⟩
    rw [Bool.eq_iff_iff, instMay_iff]
    simp only [Bool.or_eq_true, Bool.and_eq_true, Bool.or_eq_false_iff, Bool.and_eq_false_iff, decide_eq_true_eq, decide_eq_false_iff_not, beq_iff_eq, bne_iff_ne, beq_eq_false_iff_ne, bne_eq_false_iff_eq, Bool.not_eq_true', Bool.not_eq_false', ne_eq, Bool.false_eq_true, false_iff] at *
    cases hr_ : x.reg <;> simp only [hr_, Bool.false_eq_true, Bool.true_eq_false, false_and, and_false, true_and, and_true, false_or, or_false, true_or, or_true, not_true, not_false_iff, false_implies, true_implies] at * <;> omega
  · have h12p := h12
    simp only [Bool.or_eq_true, Bool.and_eq_true, Bool.or_eq_false_iff, Bool.and_eq_false_iff, decide_eq_true_eq, decide_eq_false_iff_not, beq_iff_eq, bne_iff_ne, beq_eq_false_iff_ne, bne_eq_false_iff_eq, Bool.not_eq_true', Bool.not_eq_false', ne_eq] at h12p
    refine tc_skip (tn_code (tc_seq (tc_seq (tc_region ?_))))
    refine join (fr' := [(1, .pointer (some ⟨b1, 0, none⟩)), (74, .bool ((((x.op == 0) && (decide (x.fn > 10))) || ((x.op == 1) && (decide (x.fn > 4)))) || ((decide (x.op > 1)) && (decide (x.fn > 0)))))]) (fun hj_ => ?_) ?_
    · refine sg 1 [1, 47] [(1, .pointer (some ⟨b1, 0, none⟩)), (47, .pointer (some ⟨b1, 0, none⟩))] ?_
      refine ld M3 0 48 (.int .i64 x.op) ?_
      refine sg 2 [1, 50] [(1, .pointer (some ⟨b1, 0, none⟩)), (50, .bool (x.op == 0))] ?_
      rcases bdi (x.op == 0 : Bool) with h13 | h13
      · have h13p := beq_eq_false_iff_ne.1 h13
        rw [h13]
        refine sg 6 [1, 55, 56] [(1, .pointer (some ⟨b1, 0, none⟩)), (55, .bool false), (56, .pointer (some ⟨b1, 0, none⟩))] ?_
        refine ld M3 0 57 (.int .i64 x.op) ?_
        refine sg 2 [1, 55, 59] [(1, .pointer (some ⟨b1, 0, none⟩)), (55, .bool false), (59, .bool (x.op == 1))] ?_
        rcases bdi (x.op == 1 : Bool) with h14 | h14
        · have h14p := beq_eq_false_iff_ne.1 h14
          rw [h14]
          refine sg 7 [1, 65, 66] [(1, .pointer (some ⟨b1, 0, none⟩)), (65, .bool false), (66, .pointer (some ⟨b1, 0, none⟩))] ?_
          refine ld M3 0 67 (.int .i64 x.op) ?_
          refine sg 2 [1, 65, 69] [(1, .pointer (some ⟨b1, 0, none⟩)), (65, .bool false), (69, .bool (decide (x.op > 1)))] ?_
          rcases bdi (decide (x.op > 1) : Bool) with h15 | h15
          · have h15p := of_decide_eq_false h15
            rw [h15]
            refine sg 5 [1, 74] [(1, .pointer (some ⟨b1, 0, none⟩)), (74, .bool false)] ?_
            refine to_end rfl ?_
            rw [show ((((x.op == 0) && (decide (x.fn > 10))) || ((x.op == 1) && (decide (x.fn > 4)))) || ((decide (x.op > 1)) && (decide (x.fn > 0))) : Bool) = false from by (simp only [h13, h14, h15, Bool.true_or, Bool.false_or, Bool.or_true, Bool.or_false, Bool.true_and, Bool.false_and, Bool.and_true, Bool.and_false, Bool.not_true, Bool.not_false, cond_true, cond_false, if_true, reduceIte]) <;> rfl] at hj_
            exact hj_.sub (Sub.cons rfl (Sub.cons rfl (Sub.nil _)))
          · have h15p := of_decide_eq_true h15
            rw [h15]
            refine sg 1 [1, 65, 69, 70] [(1, .pointer (some ⟨b1, 0, none⟩)), (65, .bool false), (69, .bool true), (70, .pointer (some ⟨b1, 1, none⟩))] ?_
            refine ld M3 0 71 (.int .i64 x.fn) ?_
            refine sg 3 [1, 74] [(1, .pointer (some ⟨b1, 0, none⟩)), (74, .bool (decide (x.fn > 0)))] ?_
            refine to_end rfl ?_
            rw [show ((((x.op == 0) && (decide (x.fn > 10))) || ((x.op == 1) && (decide (x.fn > 4)))) || ((decide (x.op > 1)) && (decide (x.fn > 0))) : Bool) = (decide (x.fn > 0)) from by (simp only [h13, h14, h15, Bool.true_or, Bool.false_or, Bool.or_true, Bool.or_false, Bool.true_and, Bool.false_and, Bool.and_true, Bool.and_false, Bool.not_true, Bool.not_false, cond_true, cond_false, if_true, reduceIte]) <;> rfl] at hj_
            exact hj_.sub (Sub.cons rfl (Sub.cons rfl (Sub.nil _)))
        · have h14p := beq_iff_eq.1 h14
          rw [h14]
          refine sg 1 [1, 55, 59, 60] [(1, .pointer (some ⟨b1, 0, none⟩)), (55, .bool false), (59, .bool true), (60, .pointer (some ⟨b1, 1, none⟩))] ?_
          refine ld M3 0 61 (.int .i64 x.fn) ?_
          refine sg 4 [1, 65] [(1, .pointer (some ⟨b1, 0, none⟩)), (65, .bool (decide (x.fn > 4)))] ?_
          rcases bdi (decide (x.fn > 4) : Bool) with h16 | h16
          · have h16p := of_decide_eq_false h16
            rw [h16]
            refine sg 1 [1, 65, 66] [(1, .pointer (some ⟨b1, 0, none⟩)), (65, .bool false), (66, .pointer (some ⟨b1, 0, none⟩))] ?_
            refine ld M3 0 67 (.int .i64 x.op) ?_
            refine sg 2 [1, 65, 69] [(1, .pointer (some ⟨b1, 0, none⟩)), (65, .bool false), (69, .bool (decide (x.op > 1)))] ?_
            rcases bdi (decide (x.op > 1) : Bool) with h17 | h17
            · have h17p := of_decide_eq_false h17
              rw [h17]
              refine sg 5 [1, 74] [(1, .pointer (some ⟨b1, 0, none⟩)), (74, .bool false)] ?_
              refine to_end rfl ?_
              rw [show ((((x.op == 0) && (decide (x.fn > 10))) || ((x.op == 1) && (decide (x.fn > 4)))) || ((decide (x.op > 1)) && (decide (x.fn > 0))) : Bool) = false from by (simp only [h13, h14, h16, h17, Bool.true_or, Bool.false_or, Bool.or_true, Bool.or_false, Bool.true_and, Bool.false_and, Bool.and_true, Bool.and_false, Bool.not_true, Bool.not_false, cond_true, cond_false, if_true, reduceIte]) <;> rfl] at hj_
              exact hj_.sub (Sub.cons rfl (Sub.cons rfl (Sub.nil _)))
            · have h17p := of_decide_eq_true h17
              rw [h17]
              refine sg 1 [1, 65, 69, 70] [(1, .pointer (some ⟨b1, 0, none⟩)), (65, .bool false), (69, .bool true), (70, .pointer (some ⟨b1, 1, none⟩))] ?_
              refine ld M3 0 71 (.int .i64 x.fn) ?_
              refine sg 3 [1, 74] [(1, .pointer (some ⟨b1, 0, none⟩)), (74, .bool (decide (x.fn > 0)))] ?_
              refine to_end rfl ?_
              rw [show ((((x.op == 0) && (decide (x.fn > 10))) || ((x.op == 1) && (decide (x.fn > 4)))) || ((decide (x.op > 1)) && (decide (x.fn > 0))) : Bool) = (decide (x.fn > 0)) from by (simp only [h13, h14, h16, h17, Bool.true_or, Bool.false_or, Bool.or_true, Bool.or_false, Bool.true_and, Bool.false_and, Bool.and_true, Bool.and_false, Bool.not_true, Bool.not_false, cond_true, cond_false, if_true, reduceIte]) <;> rfl] at hj_
              exact hj_.sub (Sub.cons rfl (Sub.cons rfl (Sub.nil _)))
          · have h16p := of_decide_eq_true h16
            rw [h16]
            refine sg 9 [1, 74] [(1, .pointer (some ⟨b1, 0, none⟩)), (74, .bool true)] ?_
            refine to_end rfl ?_
            rw [show ((((x.op == 0) && (decide (x.fn > 10))) || ((x.op == 1) && (decide (x.fn > 4)))) || ((decide (x.op > 1)) && (decide (x.fn > 0))) : Bool) = true from by (simp only [h13, h14, h16, Bool.true_or, Bool.false_or, Bool.or_true, Bool.or_false, Bool.true_and, Bool.false_and, Bool.and_true, Bool.and_false, Bool.not_true, Bool.not_false, cond_true, cond_false, if_true, reduceIte]) <;> rfl] at hj_
            exact hj_.sub (Sub.cons rfl (Sub.cons rfl (Sub.nil _)))
      · have h13p := beq_iff_eq.1 h13
        rw [h13]
        refine sg 1 [1, 50, 51] [(1, .pointer (some ⟨b1, 0, none⟩)), (50, .bool true), (51, .pointer (some ⟨b1, 1, none⟩))] ?_
        refine ld M3 0 52 (.int .i64 x.fn) ?_
        refine sg 3 [1, 55] [(1, .pointer (some ⟨b1, 0, none⟩)), (55, .bool (decide (x.fn > 10)))] ?_
        rcases bdi (decide (x.fn > 10) : Bool) with h18 | h18
        · have h18p := of_decide_eq_false h18
          rw [h18]
          refine sg 1 [1, 55, 56] [(1, .pointer (some ⟨b1, 0, none⟩)), (55, .bool false), (56, .pointer (some ⟨b1, 0, none⟩))] ?_
          refine ld M3 0 57 (.int .i64 x.op) ?_
          refine sg 2 [1, 55, 59] [(1, .pointer (some ⟨b1, 0, none⟩)), (55, .bool false), (59, .bool (x.op == 1))] ?_
          rcases bdi (x.op == 1 : Bool) with h19 | h19
          · have h19p := beq_eq_false_iff_ne.1 h19
            rw [h19]
            refine sg 7 [1, 65, 66] [(1, .pointer (some ⟨b1, 0, none⟩)), (65, .bool false), (66, .pointer (some ⟨b1, 0, none⟩))] ?_
            refine ld M3 0 67 (.int .i64 x.op) ?_
            refine sg 2 [1, 65, 69] [(1, .pointer (some ⟨b1, 0, none⟩)), (65, .bool false), (69, .bool (decide (x.op > 1)))] ?_
            rcases bdi (decide (x.op > 1) : Bool) with h20 | h20
            · have h20p := of_decide_eq_false h20
              rw [h20]
              refine sg 5 [1, 74] [(1, .pointer (some ⟨b1, 0, none⟩)), (74, .bool false)] ?_
              refine to_end rfl ?_
              rw [show ((((x.op == 0) && (decide (x.fn > 10))) || ((x.op == 1) && (decide (x.fn > 4)))) || ((decide (x.op > 1)) && (decide (x.fn > 0))) : Bool) = false from by (simp only [h13, h18, h19, h20, Bool.true_or, Bool.false_or, Bool.or_true, Bool.or_false, Bool.true_and, Bool.false_and, Bool.and_true, Bool.and_false, Bool.not_true, Bool.not_false, cond_true, cond_false, if_true, reduceIte]) <;> rfl] at hj_
              exact hj_.sub (Sub.cons rfl (Sub.cons rfl (Sub.nil _)))
            · have h20p := of_decide_eq_true h20
              rw [h20]
              refine sg 1 [1, 65, 69, 70] [(1, .pointer (some ⟨b1, 0, none⟩)), (65, .bool false), (69, .bool true), (70, .pointer (some ⟨b1, 1, none⟩))] ?_
              refine ld M3 0 71 (.int .i64 x.fn) ?_
              refine sg 3 [1, 74] [(1, .pointer (some ⟨b1, 0, none⟩)), (74, .bool (decide (x.fn > 0)))] ?_
              refine to_end rfl ?_
              rw [show ((((x.op == 0) && (decide (x.fn > 10))) || ((x.op == 1) && (decide (x.fn > 4)))) || ((decide (x.op > 1)) && (decide (x.fn > 0))) : Bool) = (decide (x.fn > 0)) from by (simp only [h13, h18, h19, h20, Bool.true_or, Bool.false_or, Bool.or_true, Bool.or_false, Bool.true_and, Bool.false_and, Bool.and_true, Bool.and_false, Bool.not_true, Bool.not_false, cond_true, cond_false, if_true, reduceIte]) <;> rfl] at hj_
              exact hj_.sub (Sub.cons rfl (Sub.cons rfl (Sub.nil _)))
          · have h19p := beq_iff_eq.1 h19
            rw [h19]
            refine sg 1 [1, 55, 59, 60] [(1, .pointer (some ⟨b1, 0, none⟩)), (55, .bool false), (59, .bool true), (60, .pointer (some ⟨b1, 1, none⟩))] ?_
            refine ld M3 0 61 (.int .i64 x.fn) ?_
            refine sg 4 [1, 65] [(1, .pointer (some ⟨b1, 0, none⟩)), (65, .bool (decide (x.fn > 4)))] ?_
            rcases bdi (decide (x.fn > 4) : Bool) with h21 | h21
            · have h21p := of_decide_eq_false h21
              rw [h21]
              refine sg 1 [1, 65, 66] [(1, .pointer (some ⟨b1, 0, none⟩)), (65, .bool false), (66, .pointer (some ⟨b1, 0, none⟩))] ?_
              refine ld M3 0 67 (.int .i64 x.op) ?_
              refine sg 2 [1, 65, 69] [(1, .pointer (some ⟨b1, 0, none⟩)), (65, .bool false), (69, .bool (decide (x.op > 1)))] ?_
              rcases bdi (decide (x.op > 1) : Bool) with h22 | h22
              · have h22p := of_decide_eq_false h22
                rw [h22]
                refine sg 5 [1, 74] [(1, .pointer (some ⟨b1, 0, none⟩)), (74, .bool false)] ?_
                refine to_end rfl ?_
                rw [show ((((x.op == 0) && (decide (x.fn > 10))) || ((x.op == 1) && (decide (x.fn > 4)))) || ((decide (x.op > 1)) && (decide (x.fn > 0))) : Bool) = false from by (simp only [h13, h18, h19, h21, h22, Bool.true_or, Bool.false_or, Bool.or_true, Bool.or_false, Bool.true_and, Bool.false_and, Bool.and_true, Bool.and_false, Bool.not_true, Bool.not_false, cond_true, cond_false, if_true, reduceIte]) <;> rfl] at hj_
                exact hj_.sub (Sub.cons rfl (Sub.cons rfl (Sub.nil _)))
              · have h22p := of_decide_eq_true h22
                rw [h22]
                refine sg 1 [1, 65, 69, 70] [(1, .pointer (some ⟨b1, 0, none⟩)), (65, .bool false), (69, .bool true), (70, .pointer (some ⟨b1, 1, none⟩))] ?_
                refine ld M3 0 71 (.int .i64 x.fn) ?_
                refine sg 3 [1, 74] [(1, .pointer (some ⟨b1, 0, none⟩)), (74, .bool (decide (x.fn > 0)))] ?_
                refine to_end rfl ?_
                rw [show ((((x.op == 0) && (decide (x.fn > 10))) || ((x.op == 1) && (decide (x.fn > 4)))) || ((decide (x.op > 1)) && (decide (x.fn > 0))) : Bool) = (decide (x.fn > 0)) from by (simp only [h13, h18, h19, h21, h22, Bool.true_or, Bool.false_or, Bool.or_true, Bool.or_false, Bool.true_and, Bool.false_and, Bool.and_true, Bool.and_false, Bool.not_true, Bool.not_false, cond_true, cond_false, if_true, reduceIte]) <;> rfl] at hj_
                exact hj_.sub (Sub.cons rfl (Sub.cons rfl (Sub.nil _)))
            · have h21p := of_decide_eq_true h21
              rw [h21]
              refine sg 9 [1, 74] [(1, .pointer (some ⟨b1, 0, none⟩)), (74, .bool true)] ?_
              refine to_end rfl ?_
              rw [show ((((x.op == 0) && (decide (x.fn > 10))) || ((x.op == 1) && (decide (x.fn > 4)))) || ((decide (x.op > 1)) && (decide (x.fn > 0))) : Bool) = true from by (simp only [h13, h18, h19, h21, Bool.true_or, Bool.false_or, Bool.or_true, Bool.or_false, Bool.true_and, Bool.false_and, Bool.and_true, Bool.and_false, Bool.not_true, Bool.not_false, cond_true, cond_false, if_true, reduceIte]) <;> rfl] at hj_
              exact hj_.sub (Sub.cons rfl (Sub.cons rfl (Sub.nil _)))
        · have h18p := of_decide_eq_true h18
          rw [h18]
          refine sg 19 [1, 74] [(1, .pointer (some ⟨b1, 0, none⟩)), (74, .bool true)] ?_
          refine to_end rfl ?_
          rw [show ((((x.op == 0) && (decide (x.fn > 10))) || ((x.op == 1) && (decide (x.fn > 4)))) || ((decide (x.op > 1)) && (decide (x.fn > 0))) : Bool) = true from by (simp only [h13, h18, Bool.true_or, Bool.false_or, Bool.or_true, Bool.or_false, Bool.true_and, Bool.false_and, Bool.and_true, Bool.and_false, Bool.not_true, Bool.not_false, cond_true, cond_false, if_true, reduceIte]) <;> rfl] at hj_
          exact hj_.sub (Sub.cons rfl (Sub.cons rfl (Sub.nil _)))
    refine tn_code ?_
    refine tc_cond (b := (((x.op == 0) && (decide (x.fn > 10))) || ((x.op == 1) && (decide (x.fn > 4)))) || ((decide (x.op > 1)) && (decide (x.fn > 0)))) (fun _ => rfl) (fun h23 => ?_) (fun h23 => ?_)
    · have h23p := h23
      simp only [Bool.or_eq_true, Bool.and_eq_true, Bool.or_eq_false_iff, Bool.and_eq_false_iff, decide_eq_true_eq, decide_eq_false_iff_not, beq_iff_eq, bne_iff_ne, beq_eq_false_iff_ne, bne_eq_false_iff_eq, Bool.not_eq_true', Bool.not_eq_false', ne_eq] at h23p
      refine tc_seq (tc_region ?_)
      refine sg 1 [2] [(2, .bool false)] ?_
      refine to_end rfl (tn_code (tc_ret ?_))
      refine tr_tmp rfl rfl ?_
      refine ⟨congrArg Ending.returned (congrArg Value.bool ?_), M3.below⟩
      rw [Bool.eq_iff_iff, instMay_iff]
      simp only [Bool.or_eq_true, Bool.and_eq_true, Bool.or_eq_false_iff, Bool.and_eq_false_iff, decide_eq_true_eq, decide_eq_false_iff_not, beq_iff_eq, bne_iff_ne, beq_eq_false_iff_ne, bne_eq_false_iff_eq, Bool.not_eq_true', Bool.not_eq_false', ne_eq, Bool.false_eq_true, false_iff] at *
      cases hr_ : x.reg <;> simp only [hr_, Bool.false_eq_true, Bool.true_eq_false, false_and, and_false, true_and, and_true, false_or, or_false, true_or, or_true, not_true, not_false_iff, false_implies, true_implies] at * <;> omega
    · have h23p := h23
      simp only [Bool.or_eq_true, Bool.and_eq_true, Bool.or_eq_false_iff, Bool.and_eq_false_iff, decide_eq_true_eq, decide_eq_false_iff_not, beq_iff_eq, bne_iff_ne, beq_eq_false_iff_ne, bne_eq_false_iff_eq, Bool.not_eq_true', Bool.not_eq_false', ne_eq] at h23p
      refine tc_skip (tn_code (tc_seq (tc_seq (tc_region ?_))))
      refine join (fr' := [(1, .pointer (some ⟨b1, 0, none⟩)), (101, .bool (((x.reg && (x.imm != 0)) || ((!x.reg) && (x.src != 0))) || ((x.op != 1) && (x.off != 0))))]) (fun hj_ => ?_) ?_
      · refine sg 1 [1, 75] [(1, .pointer (some ⟨b1, 0, none⟩)), (75, .pointer (some ⟨b1, 4, none⟩))] ?_
        refine ld M3 0 76 (.bool x.reg) ?_
        refine sg 1 [1, 77] [(1, .pointer (some ⟨b1, 0, none⟩)), (77, .bool x.reg)] ?_
        rcases bdi (x.reg : Bool) with h24 | h24
        · rw [h24]
          refine sg 6 [1, 82, 83] [(1, .pointer (some ⟨b1, 0, none⟩)), (82, .bool false), (83, .pointer (some ⟨b1, 4, none⟩))] ?_
          refine ld M3 0 84 (.bool x.reg) ?_
          refine sg 2 [1, 82, 86] [(1, .pointer (some ⟨b1, 0, none⟩)), (82, .bool false), (86, .bool (!x.reg))] ?_
          rw [h24]
          refine sg 1 [1, 82, 86, 87] [(1, .pointer (some ⟨b1, 0, none⟩)), (82, .bool false), (86, .bool true), (87, .pointer (some ⟨b1, 3, none⟩))] ?_
          refine ld M3 0 88 (.int .i64 x.src) ?_
          refine sg 4 [1, 92] [(1, .pointer (some ⟨b1, 0, none⟩)), (92, .bool (x.src != 0))] ?_
          rcases bdi (x.src != 0 : Bool) with h25 | h25
          · have h25p := bne_eq_false_iff_eq.1 h25
            rw [h25]
            refine sg 1 [1, 92, 93] [(1, .pointer (some ⟨b1, 0, none⟩)), (92, .bool false), (93, .pointer (some ⟨b1, 0, none⟩))] ?_
            refine ld M3 0 94 (.int .i64 x.op) ?_
            refine sg 2 [1, 92, 96] [(1, .pointer (some ⟨b1, 0, none⟩)), (92, .bool false), (96, .bool (x.op != 1))] ?_
            rcases bdi (x.op != 1 : Bool) with h26 | h26
            · have h26p := bne_eq_false_iff_eq.1 h26
              rw [h26]
              refine sg 5 [1, 101] [(1, .pointer (some ⟨b1, 0, none⟩)), (101, .bool false)] ?_
              refine to_end rfl ?_
              rw [show (((x.reg && (x.imm != 0)) || ((!x.reg) && (x.src != 0))) || ((x.op != 1) && (x.off != 0)) : Bool) = false from by (simp only [h24, h25, h26, Bool.true_or, Bool.false_or, Bool.or_true, Bool.or_false, Bool.true_and, Bool.false_and, Bool.and_true, Bool.and_false, Bool.not_true, Bool.not_false, cond_true, cond_false, if_true, reduceIte]) <;> rfl] at hj_
              exact hj_.sub (Sub.cons rfl (Sub.cons rfl (Sub.nil _)))
            · have h26p := bne_iff_ne.1 h26
              rw [h26]
              refine sg 1 [1, 92, 96, 97] [(1, .pointer (some ⟨b1, 0, none⟩)), (92, .bool false), (96, .bool true), (97, .pointer (some ⟨b1, 5, none⟩))] ?_
              refine ld M3 0 98 (.int .i64 x.off) ?_
              refine sg 3 [1, 101] [(1, .pointer (some ⟨b1, 0, none⟩)), (101, .bool (x.off != 0))] ?_
              refine to_end rfl ?_
              rw [show (((x.reg && (x.imm != 0)) || ((!x.reg) && (x.src != 0))) || ((x.op != 1) && (x.off != 0)) : Bool) = (x.off != 0) from by (simp only [h24, h25, h26, Bool.true_or, Bool.false_or, Bool.or_true, Bool.or_false, Bool.true_and, Bool.false_and, Bool.and_true, Bool.and_false, Bool.not_true, Bool.not_false, cond_true, cond_false, if_true, reduceIte]) <;> rfl] at hj_
              exact hj_.sub (Sub.cons rfl (Sub.cons rfl (Sub.nil _)))
          · have h25p := bne_iff_ne.1 h25
            rw [h25]
            refine sg 9 [1, 101] [(1, .pointer (some ⟨b1, 0, none⟩)), (101, .bool true)] ?_
            refine to_end rfl ?_
            rw [show (((x.reg && (x.imm != 0)) || ((!x.reg) && (x.src != 0))) || ((x.op != 1) && (x.off != 0)) : Bool) = true from by (simp only [h24, h25, Bool.true_or, Bool.false_or, Bool.or_true, Bool.or_false, Bool.true_and, Bool.false_and, Bool.and_true, Bool.and_false, Bool.not_true, Bool.not_false, cond_true, cond_false, if_true, reduceIte]) <;> rfl] at hj_
            exact hj_.sub (Sub.cons rfl (Sub.cons rfl (Sub.nil _)))
        · rw [h24]
          refine sg 1 [1, 77, 78] [(1, .pointer (some ⟨b1, 0, none⟩)), (77, .bool true), (78, .pointer (some ⟨b1, 6, none⟩))] ?_
          refine ld M3 0 79 (.int .u32 x.imm) ?_
          refine sg 3 [1, 82] [(1, .pointer (some ⟨b1, 0, none⟩)), (82, .bool (x.imm != 0))] ?_
          rcases bdi (x.imm != 0 : Bool) with h27 | h27
          · have h27p := bne_eq_false_iff_eq.1 h27
            rw [h27]
            refine sg 1 [1, 82, 83] [(1, .pointer (some ⟨b1, 0, none⟩)), (82, .bool false), (83, .pointer (some ⟨b1, 4, none⟩))] ?_
            refine ld M3 0 84 (.bool x.reg) ?_
            refine sg 2 [1, 82, 86] [(1, .pointer (some ⟨b1, 0, none⟩)), (82, .bool false), (86, .bool (!x.reg))] ?_
            rw [h24]
            refine sg 7 [1, 92, 93] [(1, .pointer (some ⟨b1, 0, none⟩)), (92, .bool false), (93, .pointer (some ⟨b1, 0, none⟩))] ?_
            refine ld M3 0 94 (.int .i64 x.op) ?_
            refine sg 2 [1, 92, 96] [(1, .pointer (some ⟨b1, 0, none⟩)), (92, .bool false), (96, .bool (x.op != 1))] ?_
            rcases bdi (x.op != 1 : Bool) with h28 | h28
            · have h28p := bne_eq_false_iff_eq.1 h28
              rw [h28]
              refine sg 5 [1, 101] [(1, .pointer (some ⟨b1, 0, none⟩)), (101, .bool false)] ?_
              refine to_end rfl ?_
              rw [show (((x.reg && (x.imm != 0)) || ((!x.reg) && (x.src != 0))) || ((x.op != 1) && (x.off != 0)) : Bool) = false from by (simp only [h24, h27, h28, Bool.true_or, Bool.false_or, Bool.or_true, Bool.or_false, Bool.true_and, Bool.false_and, Bool.and_true, Bool.and_false, Bool.not_true, Bool.not_false, cond_true, cond_false, if_true, reduceIte]) <;> rfl] at hj_
              exact hj_.sub (Sub.cons rfl (Sub.cons rfl (Sub.nil _)))
            · have h28p := bne_iff_ne.1 h28
              rw [h28]
              refine sg 1 [1, 92, 96, 97] [(1, .pointer (some ⟨b1, 0, none⟩)), (92, .bool false), (96, .bool true), (97, .pointer (some ⟨b1, 5, none⟩))] ?_
              refine ld M3 0 98 (.int .i64 x.off) ?_
              refine sg 3 [1, 101] [(1, .pointer (some ⟨b1, 0, none⟩)), (101, .bool (x.off != 0))] ?_
              refine to_end rfl ?_
              rw [show (((x.reg && (x.imm != 0)) || ((!x.reg) && (x.src != 0))) || ((x.op != 1) && (x.off != 0)) : Bool) = (x.off != 0) from by (simp only [h24, h27, h28, Bool.true_or, Bool.false_or, Bool.or_true, Bool.or_false, Bool.true_and, Bool.false_and, Bool.and_true, Bool.and_false, Bool.not_true, Bool.not_false, cond_true, cond_false, if_true, reduceIte]) <;> rfl] at hj_
              exact hj_.sub (Sub.cons rfl (Sub.cons rfl (Sub.nil _)))
          · have h27p := bne_iff_ne.1 h27
            rw [h27]
            refine sg 19 [1, 101] [(1, .pointer (some ⟨b1, 0, none⟩)), (101, .bool true)] ?_
            refine to_end rfl ?_
            rw [show (((x.reg && (x.imm != 0)) || ((!x.reg) && (x.src != 0))) || ((x.op != 1) && (x.off != 0)) : Bool) = true from by (simp only [h24, h27, Bool.true_or, Bool.false_or, Bool.or_true, Bool.or_false, Bool.true_and, Bool.false_and, Bool.and_true, Bool.and_false, Bool.not_true, Bool.not_false, cond_true, cond_false, if_true, reduceIte]) <;> rfl] at hj_
            exact hj_.sub (Sub.cons rfl (Sub.cons rfl (Sub.nil _)))
      refine tn_code ?_
      refine tc_cond (b := ((x.reg && (x.imm != 0)) || ((!x.reg) && (x.src != 0))) || ((x.op != 1) && (x.off != 0))) (fun _ => rfl) (fun h29 => ?_) (fun h29 => ?_)
      · have h29p := h29
        simp only [Bool.or_eq_true, Bool.and_eq_true, Bool.or_eq_false_iff, Bool.and_eq_false_iff, decide_eq_true_eq, decide_eq_false_iff_not, beq_iff_eq, bne_iff_ne, beq_eq_false_iff_ne, bne_eq_false_iff_eq, Bool.not_eq_true', Bool.not_eq_false', ne_eq] at h29p
        refine tc_seq (tc_region ?_)
        refine sg 1 [2] [(2, .bool false)] ?_
        refine to_end rfl (tn_code (tc_ret ?_))
        refine tr_tmp rfl rfl ?_
        refine ⟨congrArg Ending.returned (congrArg Value.bool ?_), M3.below⟩
        rw [Bool.eq_iff_iff, instMay_iff]
        simp only [Bool.or_eq_true, Bool.and_eq_true, Bool.or_eq_false_iff, Bool.and_eq_false_iff, decide_eq_true_eq, decide_eq_false_iff_not, beq_iff_eq, bne_iff_ne, beq_eq_false_iff_ne, bne_eq_false_iff_eq, Bool.not_eq_true', Bool.not_eq_false', ne_eq, Bool.false_eq_true, false_iff] at *
        cases hr_ : x.reg <;> simp only [hr_, Bool.false_eq_true, Bool.true_eq_false, false_and, and_false, true_and, and_true, false_or, or_false, true_or, or_true, not_true, not_false_iff, false_implies, true_implies] at * <;> omega
      · have h29p := h29
        simp only [Bool.or_eq_true, Bool.and_eq_true, Bool.or_eq_false_iff, Bool.and_eq_false_iff, decide_eq_true_eq, decide_eq_false_iff_not, beq_iff_eq, bne_iff_ne, beq_eq_false_iff_ne, bne_eq_false_iff_eq, Bool.not_eq_true', Bool.not_eq_false', ne_eq] at h29p
        refine tc_skip (tn_code (tc_seq (tc_region ?_)))
        refine join (fr' := [(1, .pointer (some ⟨b1, 0, none⟩)), (3, .bool (((x.dst == 0) && (x.src == 0)) && (!x.reg)))]) (fun hj_ => ?_) ?_
        · refine sg 1 [1, 102] [(1, .pointer (some ⟨b1, 0, none⟩)), (102, .pointer (some ⟨b1, 2, none⟩))] ?_
          refine ld M3 0 103 (.int .i64 x.dst) ?_
          refine sg 2 [1, 105] [(1, .pointer (some ⟨b1, 0, none⟩)), (105, .bool (x.dst == 0))] ?_
          rcases bdi (x.dst == 0 : Bool) with h30 | h30
          · have h30p := beq_eq_false_iff_ne.1 h30
            rw [h30]
            refine sg 10 [1, 3] [(1, .pointer (some ⟨b1, 0, none⟩)), (3, .bool false)] ?_
            refine to_end rfl ?_
            rw [show (((x.dst == 0) && (x.src == 0)) && (!x.reg) : Bool) = false from by (simp only [h30, Bool.true_or, Bool.false_or, Bool.or_true, Bool.or_false, Bool.true_and, Bool.false_and, Bool.and_true, Bool.and_false, Bool.not_true, Bool.not_false, cond_true, cond_false, if_true, reduceIte]) <;> rfl] at hj_
            exact hj_.sub (Sub.cons rfl (Sub.cons rfl (Sub.nil _)))
          · have h30p := beq_iff_eq.1 h30
            rw [h30]
            refine sg 1 [1, 105, 106] [(1, .pointer (some ⟨b1, 0, none⟩)), (105, .bool true), (106, .pointer (some ⟨b1, 3, none⟩))] ?_
            refine ld M3 0 107 (.int .i64 x.src) ?_
            refine sg 3 [1, 110] [(1, .pointer (some ⟨b1, 0, none⟩)), (110, .bool (x.src == 0))] ?_
            rcases bdi (x.src == 0 : Bool) with h31 | h31
            · have h31p := beq_eq_false_iff_ne.1 h31
              rw [h31]
              refine sg 5 [1, 3] [(1, .pointer (some ⟨b1, 0, none⟩)), (3, .bool false)] ?_
              refine to_end rfl ?_
              rw [show (((x.dst == 0) && (x.src == 0)) && (!x.reg) : Bool) = false from by (simp only [h30, h31, Bool.true_or, Bool.false_or, Bool.or_true, Bool.or_false, Bool.true_and, Bool.false_and, Bool.and_true, Bool.and_false, Bool.not_true, Bool.not_false, cond_true, cond_false, if_true, reduceIte]) <;> rfl] at hj_
              exact hj_.sub (Sub.cons rfl (Sub.cons rfl (Sub.nil _)))
            · have h31p := beq_iff_eq.1 h31
              rw [h31]
              refine sg 1 [1, 110, 111] [(1, .pointer (some ⟨b1, 0, none⟩)), (110, .bool true), (111, .pointer (some ⟨b1, 4, none⟩))] ?_
              refine ld M3 0 112 (.bool x.reg) ?_
              refine sg 3 [1, 3] [(1, .pointer (some ⟨b1, 0, none⟩)), (3, .bool (!x.reg))] ?_
              refine to_end rfl ?_
              rw [show (((x.dst == 0) && (x.src == 0)) && (!x.reg) : Bool) = (!x.reg) from by (simp only [h30, h31, Bool.true_or, Bool.false_or, Bool.or_true, Bool.or_false, Bool.true_and, Bool.false_and, Bool.and_true, Bool.and_false, Bool.not_true, Bool.not_false, cond_true, cond_false, if_true, reduceIte]) <;> rfl] at hj_
              exact hj_.sub (Sub.cons rfl (Sub.cons rfl (Sub.nil _)))
        refine tn_code (tc_seq (tc_seq (tc_region ?_)))
        refine join (fr' := [(1, .pointer (some ⟨b1, 0, none⟩)), (3, .bool (((x.dst == 0) && (x.src == 0)) && (!x.reg))), (131, .bool (((x.op == 1) && (x.fn == 0)) && ((!(((x.dst == 0) && (x.src == 0)) && (!x.reg))) || (x.imm != 0))))]) (fun hj_ => ?_) ?_
        · refine sg 1 [1, 3, 115] [(1, .pointer (some ⟨b1, 0, none⟩)), (3, .bool (((x.dst == 0) && (x.src == 0)) && (!x.reg))), (115, .pointer (some ⟨b1, 0, none⟩))] ?_
          refine ld M3 0 116 (.int .i64 x.op) ?_
          refine sg 2 [1, 3, 118] [(1, .pointer (some ⟨b1, 0, none⟩)), (3, .bool (((x.dst == 0) && (x.src == 0)) && (!x.reg))), (118, .bool (x.op == 1))] ?_
          rcases bdi (x.op == 1 : Bool) with h32 | h32
          · have h32p := beq_eq_false_iff_ne.1 h32
            rw [h32]
            refine sg 13 [1, 3, 131] [(1, .pointer (some ⟨b1, 0, none⟩)), (3, .bool (((x.dst == 0) && (x.src == 0)) && (!x.reg))), (131, .bool false)] ?_
            refine to_end rfl ?_
            rw [show (((x.op == 1) && (x.fn == 0)) && ((!(((x.dst == 0) && (x.src == 0)) && (!x.reg))) || (x.imm != 0)) : Bool) = false from by (simp only [h32, Bool.true_or, Bool.false_or, Bool.or_true, Bool.or_false, Bool.true_and, Bool.false_and, Bool.and_true, Bool.and_false, Bool.not_true, Bool.not_false, cond_true, cond_false, if_true, reduceIte]) <;> rfl] at hj_
            exact hj_.sub (Sub.cons rfl (Sub.cons rfl (Sub.cons rfl (Sub.nil _))))
          · have h32p := beq_iff_eq.1 h32
            rw [h32]
            refine sg 1 [1, 3, 118, 119] [(1, .pointer (some ⟨b1, 0, none⟩)), (3, .bool (((x.dst == 0) && (x.src == 0)) && (!x.reg))), (118, .bool true), (119, .pointer (some ⟨b1, 1, none⟩))] ?_
            refine ld M3 0 120 (.int .i64 x.fn) ?_
            refine sg 3 [1, 3, 123] [(1, .pointer (some ⟨b1, 0, none⟩)), (3, .bool (((x.dst == 0) && (x.src == 0)) && (!x.reg))), (123, .bool (x.fn == 0))] ?_
            rcases bdi (x.fn == 0 : Bool) with h33 | h33
            · have h33p := beq_eq_false_iff_ne.1 h33
              rw [h33]
              refine sg 8 [1, 3, 131] [(1, .pointer (some ⟨b1, 0, none⟩)), (3, .bool (((x.dst == 0) && (x.src == 0)) && (!x.reg))), (131, .bool false)] ?_
              refine to_end rfl ?_
              rw [show (((x.op == 1) && (x.fn == 0)) && ((!(((x.dst == 0) && (x.src == 0)) && (!x.reg))) || (x.imm != 0)) : Bool) = false from by (simp only [h32, h33, Bool.true_or, Bool.false_or, Bool.or_true, Bool.or_false, Bool.true_and, Bool.false_and, Bool.and_true, Bool.and_false, Bool.not_true, Bool.not_false, cond_true, cond_false, if_true, reduceIte]) <;> rfl] at hj_
              exact hj_.sub (Sub.cons rfl (Sub.cons rfl (Sub.cons rfl (Sub.nil _))))
            · have h33p := beq_iff_eq.1 h33
              rw [h33]
              refine sg 3 [1, 3, 123, 126] [(1, .pointer (some ⟨b1, 0, none⟩)), (3, .bool (((x.dst == 0) && (x.src == 0)) && (!x.reg))), (123, .bool true), (126, .bool (!(((x.dst == 0) && (x.src == 0)) && (!x.reg))))] ?_
              rcases bdi (((x.dst == 0) && (x.src == 0)) && (!x.reg) : Bool) with h34 | h34
              · have h34p := h34
                simp only [Bool.or_eq_true, Bool.and_eq_true, Bool.or_eq_false_iff, Bool.and_eq_false_iff, decide_eq_true_eq, decide_eq_false_iff_not, beq_iff_eq, bne_iff_ne, beq_eq_false_iff_ne, bne_eq_false_iff_eq, Bool.not_eq_true', Bool.not_eq_false', ne_eq] at h34p
                rw [h34]
                refine sg 5 [1, 3, 131] [(1, .pointer (some ⟨b1, 0, none⟩)), (3, .bool false), (131, .bool true)] ?_
                refine to_end rfl ?_
                rw [show (((x.op == 1) && (x.fn == 0)) && ((!(((x.dst == 0) && (x.src == 0)) && (!x.reg))) || (x.imm != 0)) : Bool) = true from by (simp only [h32, h33, h34, Bool.true_or, Bool.false_or, Bool.or_true, Bool.or_false, Bool.true_and, Bool.false_and, Bool.and_true, Bool.and_false, Bool.not_true, Bool.not_false, cond_true, cond_false, if_true, reduceIte]) <;> rfl] at hj_
                rw [show (((x.dst == 0) && (x.src == 0)) && (!x.reg) : Bool) = false from by (simp only [h34, Bool.true_or, Bool.false_or, Bool.or_true, Bool.or_false, Bool.true_and, Bool.false_and, Bool.and_true, Bool.and_false, Bool.not_true, Bool.not_false, cond_true, cond_false, if_true, reduceIte]) <;> rfl] at hj_
                exact hj_.sub (Sub.cons rfl (Sub.cons rfl (Sub.cons rfl (Sub.nil _))))
              · have h34p := h34
                simp only [Bool.or_eq_true, Bool.and_eq_true, Bool.or_eq_false_iff, Bool.and_eq_false_iff, decide_eq_true_eq, decide_eq_false_iff_not, beq_iff_eq, bne_iff_ne, beq_eq_false_iff_ne, bne_eq_false_iff_eq, Bool.not_eq_true', Bool.not_eq_false', ne_eq] at h34p
                rw [h34]
                refine sg 1 [1, 3, 123, 126, 127] [(1, .pointer (some ⟨b1, 0, none⟩)), (3, .bool true), (123, .bool true), (126, .bool false), (127, .pointer (some ⟨b1, 6, none⟩))] ?_
                refine ld M3 0 128 (.int .u32 x.imm) ?_
                refine sg 3 [1, 3, 131] [(1, .pointer (some ⟨b1, 0, none⟩)), (3, .bool true), (131, .bool (x.imm != 0))] ?_
                refine to_end rfl ?_
                rw [show (((x.op == 1) && (x.fn == 0)) && ((!(((x.dst == 0) && (x.src == 0)) && (!x.reg))) || (x.imm != 0)) : Bool) = (x.imm != 0) from by (simp only [h32, h33, h34, Bool.true_or, Bool.false_or, Bool.or_true, Bool.or_false, Bool.true_and, Bool.false_and, Bool.and_true, Bool.and_false, Bool.not_true, Bool.not_false, cond_true, cond_false, if_true, reduceIte]) <;> rfl] at hj_
                rw [show (((x.dst == 0) && (x.src == 0)) && (!x.reg) : Bool) = true from by (simp only [h34, Bool.true_or, Bool.false_or, Bool.or_true, Bool.or_false, Bool.true_and, Bool.false_and, Bool.and_true, Bool.and_false, Bool.not_true, Bool.not_false, cond_true, cond_false, if_true, reduceIte]) <;> rfl] at hj_
                exact hj_.sub (Sub.cons rfl (Sub.cons rfl (Sub.cons rfl (Sub.nil _))))
        refine tn_code ?_
        refine tc_cond (b := ((x.op == 1) && (x.fn == 0)) && ((!(((x.dst == 0) && (x.src == 0)) && (!x.reg))) || (x.imm != 0))) (fun _ => rfl) (fun h35 => ?_) (fun h35 => ?_)
        · have h35p := h35
          simp only [Bool.or_eq_true, Bool.and_eq_true, Bool.or_eq_false_iff, Bool.and_eq_false_iff, decide_eq_true_eq, decide_eq_false_iff_not, beq_iff_eq, bne_iff_ne, beq_eq_false_iff_ne, bne_eq_false_iff_eq, Bool.not_eq_true', Bool.not_eq_false', ne_eq] at h35p
          refine tc_seq (tc_region ?_)
          refine sg 1 [2] [(2, .bool false)] ?_
          refine to_end rfl (tn_code (tc_ret ?_))
          refine tr_tmp rfl rfl ?_
          refine ⟨congrArg Ending.returned (congrArg Value.bool ?_), M3.below⟩
          rw [Bool.eq_iff_iff, instMay_iff]
          simp only [Bool.or_eq_true, Bool.and_eq_true, Bool.or_eq_false_iff, Bool.and_eq_false_iff, decide_eq_true_eq, decide_eq_false_iff_not, beq_iff_eq, bne_iff_ne, beq_eq_false_iff_ne, bne_eq_false_iff_eq, Bool.not_eq_true', Bool.not_eq_false', ne_eq, Bool.false_eq_true, false_iff] at *
          cases hr_ : x.reg <;> simp only [hr_, Bool.false_eq_true, Bool.true_eq_false, false_and, and_false, true_and, and_true, false_or, or_false, true_or, or_true, not_true, not_false_iff, false_implies, true_implies] at * <;> omega
        · have h35p := h35
          simp only [Bool.or_eq_true, Bool.and_eq_true, Bool.or_eq_false_iff, Bool.and_eq_false_iff, decide_eq_true_eq, decide_eq_false_iff_not, beq_iff_eq, bne_iff_ne, beq_eq_false_iff_ne, bne_eq_false_iff_eq, Bool.not_eq_true', Bool.not_eq_false', ne_eq] at h35p
          refine tc_skip (tn_code (tc_seq (tc_seq (tc_region ?_))))
          refine join (fr' := [(1, .pointer (some ⟨b1, 0, none⟩)), (3, .bool (((x.dst == 0) && (x.src == 0)) && (!x.reg))), (139, .bool ((x.op == 7) && (x.imm != 0)))]) (fun hj_ => ?_) ?_
          · refine sg 1 [1, 3, 132] [(1, .pointer (some ⟨b1, 0, none⟩)), (3, .bool (((x.dst == 0) && (x.src == 0)) && (!x.reg))), (132, .pointer (some ⟨b1, 0, none⟩))] ?_
            refine ld M3 0 133 (.int .i64 x.op) ?_
            refine sg 2 [1, 3, 135] [(1, .pointer (some ⟨b1, 0, none⟩)), (3, .bool (((x.dst == 0) && (x.src == 0)) && (!x.reg))), (135, .bool (x.op == 7))] ?_
            rcases bdi (x.op == 7 : Bool) with h36 | h36
            · have h36p := beq_eq_false_iff_ne.1 h36
              rw [h36]
              refine sg 4 [1, 3, 139] [(1, .pointer (some ⟨b1, 0, none⟩)), (3, .bool (((x.dst == 0) && (x.src == 0)) && (!x.reg))), (139, .bool false)] ?_
              refine to_end rfl ?_
              rw [show ((x.op == 7) && (x.imm != 0) : Bool) = false from by (simp only [h36, Bool.true_or, Bool.false_or, Bool.or_true, Bool.or_false, Bool.true_and, Bool.false_and, Bool.and_true, Bool.and_false, Bool.not_true, Bool.not_false, cond_true, cond_false, if_true, reduceIte]) <;> rfl] at hj_
              exact hj_.sub (Sub.cons rfl (Sub.cons rfl (Sub.cons rfl (Sub.nil _))))
            · have h36p := beq_iff_eq.1 h36
              rw [h36]
              refine sg 1 [1, 3, 135, 136] [(1, .pointer (some ⟨b1, 0, none⟩)), (3, .bool (((x.dst == 0) && (x.src == 0)) && (!x.reg))), (135, .bool true), (136, .pointer (some ⟨b1, 6, none⟩))] ?_
              refine ld M3 0 137 (.int .u32 x.imm) ?_
              refine sg 2 [1, 3, 139] [(1, .pointer (some ⟨b1, 0, none⟩)), (3, .bool (((x.dst == 0) && (x.src == 0)) && (!x.reg))), (139, .bool (x.imm != 0))] ?_
              refine to_end rfl ?_
              rw [show ((x.op == 7) && (x.imm != 0) : Bool) = (x.imm != 0) from by (simp only [h36, Bool.true_or, Bool.false_or, Bool.or_true, Bool.or_false, Bool.true_and, Bool.false_and, Bool.and_true, Bool.and_false, Bool.not_true, Bool.not_false, cond_true, cond_false, if_true, reduceIte]) <;> rfl] at hj_
              exact hj_.sub (Sub.cons rfl (Sub.cons rfl (Sub.cons rfl (Sub.nil _))))
          refine tn_code ?_
          refine tc_cond (b := (x.op == 7) && (x.imm != 0)) (fun _ => rfl) (fun h37 => ?_) (fun h37 => ?_)
          · have h37p := h37
            simp only [Bool.or_eq_true, Bool.and_eq_true, Bool.or_eq_false_iff, Bool.and_eq_false_iff, decide_eq_true_eq, decide_eq_false_iff_not, beq_iff_eq, bne_iff_ne, beq_eq_false_iff_ne, bne_eq_false_iff_eq, Bool.not_eq_true', Bool.not_eq_false', ne_eq] at h37p
            refine tc_seq (tc_region ?_)
            refine sg 1 [2] [(2, .bool false)] ?_
            refine to_end rfl (tn_code (tc_ret ?_))
            refine tr_tmp rfl rfl ?_
            refine ⟨congrArg Ending.returned (congrArg Value.bool ?_), M3.below⟩
            rw [Bool.eq_iff_iff, instMay_iff]
            simp only [Bool.or_eq_true, Bool.and_eq_true, Bool.or_eq_false_iff, Bool.and_eq_false_iff, decide_eq_true_eq, decide_eq_false_iff_not, beq_iff_eq, bne_iff_ne, beq_eq_false_iff_ne, bne_eq_false_iff_eq, Bool.not_eq_true', Bool.not_eq_false', ne_eq, Bool.false_eq_true, false_iff] at *
            cases hr_ : x.reg <;> simp only [hr_, Bool.false_eq_true, Bool.true_eq_false, false_and, and_false, true_and, and_true, false_or, or_false, true_or, or_true, not_true, not_false_iff, false_implies, true_implies] at * <;> omega
          · have h37p := h37
            simp only [Bool.or_eq_true, Bool.and_eq_true, Bool.or_eq_false_iff, Bool.and_eq_false_iff, decide_eq_true_eq, decide_eq_false_iff_not, beq_iff_eq, bne_iff_ne, beq_eq_false_iff_ne, bne_eq_false_iff_eq, Bool.not_eq_true', Bool.not_eq_false', ne_eq] at h37p
            refine tc_skip (tn_code (tc_seq (tc_region ?_)))
            refine join (fr' := [(2, .bool ((decide (x.op < 5)) || (((x.dst == 0) && (x.src == 0)) && (!x.reg))))]) (fun hj_ => ?_) ?_
            · refine sg 1 [3, 140] [(3, .bool (((x.dst == 0) && (x.src == 0)) && (!x.reg))), (140, .pointer (some ⟨b1, 0, none⟩))] ?_
              refine ld M3 0 141 (.int .i64 x.op) ?_
              refine sg 2 [3, 143] [(3, .bool (((x.dst == 0) && (x.src == 0)) && (!x.reg))), (143, .bool (decide (x.op < 5)))] ?_
              rcases bdi (decide (x.op < 5) : Bool) with h38 | h38
              · have h38p := of_decide_eq_false h38
                rw [h38]
                refine sg 3 [2] [(2, .bool (((x.dst == 0) && (x.src == 0)) && (!x.reg)))] ?_
                refine to_end rfl ?_
                rw [show ((decide (x.op < 5)) || (((x.dst == 0) && (x.src == 0)) && (!x.reg)) : Bool) = (((x.dst == 0) && (x.src == 0)) && (!x.reg)) from by (simp only [h38, Bool.true_or, Bool.false_or, Bool.or_true, Bool.or_false, Bool.true_and, Bool.false_and, Bool.and_true, Bool.and_false, Bool.not_true, Bool.not_false, cond_true, cond_false, if_true, reduceIte]) <;> rfl] at hj_
                exact hj_.sub (Sub.cons rfl (Sub.nil _))
              · have h38p := of_decide_eq_true h38
                rw [h38]
                refine sg 3 [2] [(2, .bool true)] ?_
                refine to_end rfl ?_
                rw [show ((decide (x.op < 5)) || (((x.dst == 0) && (x.src == 0)) && (!x.reg)) : Bool) = true from by (simp only [h38, Bool.true_or, Bool.false_or, Bool.or_true, Bool.or_false, Bool.true_and, Bool.false_and, Bool.and_true, Bool.and_false, Bool.not_true, Bool.not_false, cond_true, cond_false, if_true, reduceIte]) <;> rfl] at hj_
                exact hj_.sub (Sub.cons rfl (Sub.nil _))
            refine tn_code (tc_ret ?_)
            refine tr_tmp rfl rfl ?_
            refine ⟨congrArg Ending.returned (congrArg Value.bool ?_), M3.below⟩
            rw [Bool.eq_iff_iff, instMay_iff]
            simp only [Bool.or_eq_true, Bool.and_eq_true, Bool.or_eq_false_iff, Bool.and_eq_false_iff, decide_eq_true_eq, decide_eq_false_iff_not, beq_iff_eq, bne_iff_ne, beq_eq_false_iff_ne, bne_eq_false_iff_eq, Bool.not_eq_true', Bool.not_eq_false', ne_eq, Bool.false_eq_true, false_iff] at *
            cases hr_ : x.reg <;> simp only [hr_, Bool.false_eq_true, Bool.true_eq_false, false_and, and_false, true_and, and_true, false_or, or_false, true_or, or_true, not_true, not_false_iff, false_implies, true_implies] at * <;> omega

theorem put2_any (x : Inst) (w : World) (hm : instMay x = true) (hi : 0 ≤ x.imm ∧ x.imm < 4294967296) : Calls Try.prog 103 #[.agg x.cs] w fun e w' => ∃ A c, e = .returned (.tuple #[.slice A (instBytes x).length c, .int .i64 0]) ∧ Mem w w' [row kB 5 (.slice A (instBytes x).length c) (instBytes x)] := by
  have M := Mem.refl w
  have hbd := may_bd hm
  refine calls_tc (N := 55) (args := [.agg x.cs]) Try.func103 rfl rfl rfl ?_
  refine tc_seq (tc_region ?_)
  refine nw M 1 x.cs 65 fun b1 w2 M3 => ?_
  refine sg 2 [1] [(1, .pointer (some ⟨b1, 0, none⟩))] ?_
  refine to_end rfl (tn_code (tc_seq (tc_region ?_)))
  refine la M3 0 7 x.cs (hu := Try.underlying65) ?_
  refine cb M3 8 (may2_any x _) fun w4 hb6 M5 => ?_
  refine sg 1 [1, 4] [(1, .pointer (some ⟨b1, 0, none⟩)), (4, .bool (instMay x))] ?_
  refine to_end rfl (tn_code (tc_seq (tc_seq (tc_region ?_))))
  refine sg 2 [1, 10] [(1, .pointer (some ⟨b1, 0, none⟩)), (10, .bool (!(instMay x)))] ?_
  refine to_end rfl (tn_code ?_)
  rw [hm]
  refine tc_cond_f (fun _ => rfl) (tc_skip (tn_code (tc_seq (tc_region ?_))))
  refine sg 1 [1, 5] [(1, .pointer (some ⟨b1, 0, none⟩)), (5, .int .i64 0)] ?_
  refine to_end rfl (tn_code (tc_seq (tc_seq (tc_region ?_))))
  refine sg 1 [1, 5, 11] [(1, .pointer (some ⟨b1, 0, none⟩)), (5, .int .i64 0), (11, .pointer (some ⟨b1, 4, none⟩))] ?_
  refine ld M5 0 12 (.bool x.reg) ?_
  refine to_end rfl (tn_code ?_)
  refine tc_cond (b := x.reg) (fun _ => rfl) (fun h7 => ?_) (fun h7 => ?_)
  · refine tc_region ?_
    refine sg 1 [1, 5] [(1, .pointer (some ⟨b1, 0, none⟩)), (5, .int .i64 128)] ?_
    refine to_end rfl (tn_code (tc_seq (tc_region ?_)))
    refine sg 1 [1, 5, 13] [(1, .pointer (some ⟨b1, 0, none⟩)), (5, .int .i64 128), (13, .pointer (some ⟨b1, 6, none⟩))] ?_
    refine ld M5 0 14 (.int .u32 x.imm) ?_
    refine sg 2 [1, 5, 6] [(1, .pointer (some ⟨b1, 0, none⟩)), (5, .int .i64 128), (6, .int .i64 (IntKind.wrap .i64 x.imm))] ?_
    rw [wr_i64 (x := x.imm) (by omega) (by omega)]
    refine to_end rfl (tn_code (tc_seq (tc_region ?_)))
    refine sg 1 [1, 5, 6, 16] [(1, .pointer (some ⟨b1, 0, none⟩)), (5, .int .i64 128), (6, .int .i64 x.imm), (16, .pointer (some ⟨b1, 0, none⟩))] ?_
    refine ld M5 0 17 (.int .i64 x.op) ?_
    refine sg 2 [1, 5, 6, 18, 19] [(1, .pointer (some ⟨b1, 0, none⟩)), (5, .int .i64 128), (6, .int .i64 x.imm), (18, .int .i64 (IntKind.wrap .i64 (16 * x.op))), (19, .pointer (some ⟨b1, 1, none⟩))] ?_
    rw [wr_i64 (x := 16 * x.op) (by omega) (by omega)]
    refine ld M5 0 20 (.int .i64 x.fn) ?_
    refine sg 4 [1, 6, 22, 23, 24] [(1, .pointer (some ⟨b1, 0, none⟩)), (6, .int .i64 x.imm), (22, .int .u8 (IntKind.wrap .u8 (IntKind.wrap .i64 ((16 * x.op) + x.fn)))), (23, .int .i64 128), (24, .pointer (some ⟨b1, 2, none⟩))] ?_
    rw [wr_i64 (x := (16 * x.op) + x.fn) (by omega) (by omega)]
    rw [wr8 ((16 * x.op) + x.fn)]
    refine ld M5 0 25 (.int .i64 x.dst) ?_
    refine sg 3 [1, 6, 22, 27, 28] [(1, .pointer (some ⟨b1, 0, none⟩)), (6, .int .i64 x.imm), (22, .int .u8 (((16 * x.op) + x.fn) % 256)), (27, .int .i64 (IntKind.wrap .i64 (128 + (IntKind.wrap .i64 (8 * x.dst))))), (28, .pointer (some ⟨b1, 3, none⟩))] ?_
    rw [wr_i64 (x := 8 * x.dst) (by omega) (by omega)]
    rw [wr_i64 (x := 128 + (8 * x.dst)) (by omega) (by omega)]
    refine ld M5 0 29 (.int .i64 x.src) ?_
    refine sg 3 [1, 6, 22, 31, 32] [(1, .pointer (some ⟨b1, 0, none⟩)), (6, .int .i64 x.imm), (22, .int .u8 (((16 * x.op) + x.fn) % 256)), (31, .int .u8 (IntKind.wrap .u8 (IntKind.wrap .i64 ((128 + (8 * x.dst)) + x.src)))), (32, .pointer (some ⟨b1, 5, none⟩))] ?_
    rw [wr_i64 (x := (128 + (8 * x.dst)) + x.src) (by omega) (by omega)]
    rw [wr8 ((128 + (8 * x.dst)) + x.src)]
    refine ld M5 0 33 (.int .i64 x.off) ?_
    refine sg 3 [6, 22, 31, 35, 36] [(6, .int .i64 x.imm), (22, .int .u8 (((16 * x.op) + x.fn) % 256)), (31, .int .u8 (((128 + (8 * x.dst)) + x.src) % 256)), (35, .int .u8 (IntKind.wrap .u8 (IntKind.wrap .i64 (Int.tdiv x.off 256)))), (36, .pointer (some ⟨b1, 5, none⟩))] ?_
    rw [quo_pos (x := x.off) (c := 256) (by omega) (by omega) (by decide)]
    rw [wr8 (x.off / 256)]
    refine ld M5 0 37 (.int .i64 x.off) ?_
    refine sg 16 [22, 31, 35, 39, 42, 46, 50, 53] [(22, .int .u8 (((16 * x.op) + x.fn) % 256)), (31, .int .u8 (((128 + (8 * x.dst)) + x.src) % 256)), (35, .int .u8 ((x.off / 256) % 256)), (39, .int .u8 (IntKind.wrap .u8 (Int.tmod x.off 256))), (42, .int .u8 (IntKind.wrap .u8 (IntKind.wrap .i64 (Int.tdiv x.imm 16777216)))), (46, .int .u8 (IntKind.wrap .u8 (Int.tmod (IntKind.wrap .i64 (Int.tdiv x.imm 65536)) 256))), (50, .int .u8 (IntKind.wrap .u8 (Int.tmod (IntKind.wrap .i64 (Int.tdiv x.imm 256)) 256))), (53, .int .u8 (IntKind.wrap .u8 (Int.tmod x.imm 256)))] ?_
    rw [show Int.tmod x.off 256 = x.off % 256 from Int.tmod_eq_emod_of_nonneg (by omega)]
    rw [wr8 (x.off % 256)]
    rw [quo_pos (x := x.imm) (c := 16777216) (by omega) (by omega) (by decide)]
    rw [wr8 (x.imm / 16777216)]
    rw [quo_pos (x := x.imm) (c := 65536) (by omega) (by omega) (by decide)]
    rw [show Int.tmod (x.imm / 65536) 256 = (x.imm / 65536) % 256 from Int.tmod_eq_emod_of_nonneg (by omega)]
    rw [wr8 ((x.imm / 65536) % 256)]
    rw [quo_pos (x := x.imm) (c := 256) (by omega) (by omega) (by decide)]
    rw [show Int.tmod (x.imm / 256) 256 = (x.imm / 256) % 256 from Int.tmod_eq_emod_of_nonneg (by omega)]
    rw [wr8 ((x.imm / 256) % 256)]
    rw [show Int.tmod x.imm 256 = x.imm % 256 from Int.tmod_eq_emod_of_nonneg (by omega)]
    rw [wr8 (x.imm % 256)]
    refine bsF M5 54 kB 5 ([(((16 * x.op) + x.fn) % 256), (((128 + (8 * x.dst)) + x.src) % 256), ((x.off / 256) % 256), ((x.off % 256) % 256), ((x.imm / 16777216) % 256), (((x.imm / 65536) % 256) % 256), (((x.imm / 256) % 256) % 256), ((x.imm % 256) % 256)] : List Int) #[.int .u8 (((16 * x.op) + x.fn) % 256), .int .u8 (((128 + (8 * x.dst)) + x.src) % 256), .int .u8 ((x.off / 256) % 256), .int .u8 ((x.off % 256) % 256), .int .u8 ((x.imm / 16777216) % 256), .int .u8 (((x.imm / 65536) % 256) % 256), .int .u8 (((x.imm / 256) % 256) % 256), .int .u8 ((x.imm % 256) % 256)] (repB [(((16 * x.op) + x.fn) % 256), (((128 + (8 * x.dst)) + x.src) % 256), ((x.off / 256) % 256), ((x.off % 256) % 256), ((x.imm / 16777216) % 256), (((x.imm / 65536) % 256) % 256), (((x.imm / 256) % 256) % 256), ((x.imm % 256) % 256)]) (Nat.le_of_ble_eq_true rfl) fun b8 w9 M10 => ?_
    refine sg 2 [2, 3] [(2, .slice (some ⟨b8, 0, none⟩) 8 8), (3, .int .i64 0)] ?_
    refine to_end rfl (tn_code (tc_ret ?_))
    refine tr_tmp2 rfl rfl rfl ?_
    have hl11 : [(((16 * x.op) + x.fn) % 256), (((128 + (8 * x.dst)) + x.src) % 256), ((x.off / 256) % 256), ((x.off % 256) % 256), ((x.imm / 16777216) % 256), (((x.imm / 65536) % 256) % 256), (((x.imm / 256) % 256) % 256), ((x.imm % 256) % 256)] = instBytes x := by
      simp only [instBytes, h7, List.cons.injEq, and_true, eq_self, if_true, Bool.false_eq_true, if_false]
      refine ⟨?_, ?_, ?_, ?_, ?_, ?_, ?_, ?_⟩ <;> first | omega | trivial
    have M12 := (M10.drop 1)
    rw [hl11] at M12
    exact ⟨_, _, rfl, M12⟩
  · refine tc_skip (tn_code (tc_seq (tc_region ?_)))
    refine sg 1 [1, 5, 13] [(1, .pointer (some ⟨b1, 0, none⟩)), (5, .int .i64 0), (13, .pointer (some ⟨b1, 6, none⟩))] ?_
    refine ld M5 0 14 (.int .u32 x.imm) ?_
    refine sg 2 [1, 5, 6] [(1, .pointer (some ⟨b1, 0, none⟩)), (5, .int .i64 0), (6, .int .i64 (IntKind.wrap .i64 x.imm))] ?_
    rw [wr_i64 (x := x.imm) (by omega) (by omega)]
    refine to_end rfl (tn_code (tc_seq (tc_region ?_)))
    refine sg 1 [1, 5, 6, 16] [(1, .pointer (some ⟨b1, 0, none⟩)), (5, .int .i64 0), (6, .int .i64 x.imm), (16, .pointer (some ⟨b1, 0, none⟩))] ?_
    refine ld M5 0 17 (.int .i64 x.op) ?_
    refine sg 2 [1, 5, 6, 18, 19] [(1, .pointer (some ⟨b1, 0, none⟩)), (5, .int .i64 0), (6, .int .i64 x.imm), (18, .int .i64 (IntKind.wrap .i64 (16 * x.op))), (19, .pointer (some ⟨b1, 1, none⟩))] ?_
    rw [wr_i64 (x := 16 * x.op) (by omega) (by omega)]
    refine ld M5 0 20 (.int .i64 x.fn) ?_
    refine sg 4 [1, 6, 22, 23, 24] [(1, .pointer (some ⟨b1, 0, none⟩)), (6, .int .i64 x.imm), (22, .int .u8 (IntKind.wrap .u8 (IntKind.wrap .i64 ((16 * x.op) + x.fn)))), (23, .int .i64 0), (24, .pointer (some ⟨b1, 2, none⟩))] ?_
    rw [wr_i64 (x := (16 * x.op) + x.fn) (by omega) (by omega)]
    rw [wr8 ((16 * x.op) + x.fn)]
    refine ld M5 0 25 (.int .i64 x.dst) ?_
    refine sg 3 [1, 6, 22, 27, 28] [(1, .pointer (some ⟨b1, 0, none⟩)), (6, .int .i64 x.imm), (22, .int .u8 (((16 * x.op) + x.fn) % 256)), (27, .int .i64 (IntKind.wrap .i64 (0 + (IntKind.wrap .i64 (8 * x.dst))))), (28, .pointer (some ⟨b1, 3, none⟩))] ?_
    rw [wr_i64 (x := 8 * x.dst) (by omega) (by omega)]
    rw [wr_i64 (x := 0 + (8 * x.dst)) (by omega) (by omega)]
    refine ld M5 0 29 (.int .i64 x.src) ?_
    refine sg 3 [1, 6, 22, 31, 32] [(1, .pointer (some ⟨b1, 0, none⟩)), (6, .int .i64 x.imm), (22, .int .u8 (((16 * x.op) + x.fn) % 256)), (31, .int .u8 (IntKind.wrap .u8 (IntKind.wrap .i64 ((0 + (8 * x.dst)) + x.src)))), (32, .pointer (some ⟨b1, 5, none⟩))] ?_
    rw [wr_i64 (x := (0 + (8 * x.dst)) + x.src) (by omega) (by omega)]
    rw [wr8 ((0 + (8 * x.dst)) + x.src)]
    refine ld M5 0 33 (.int .i64 x.off) ?_
    refine sg 3 [6, 22, 31, 35, 36] [(6, .int .i64 x.imm), (22, .int .u8 (((16 * x.op) + x.fn) % 256)), (31, .int .u8 (((0 + (8 * x.dst)) + x.src) % 256)), (35, .int .u8 (IntKind.wrap .u8 (IntKind.wrap .i64 (Int.tdiv x.off 256)))), (36, .pointer (some ⟨b1, 5, none⟩))] ?_
    rw [quo_pos (x := x.off) (c := 256) (by omega) (by omega) (by decide)]
    rw [wr8 (x.off / 256)]
    refine ld M5 0 37 (.int .i64 x.off) ?_
    refine sg 16 [22, 31, 35, 39, 42, 46, 50, 53] [(22, .int .u8 (((16 * x.op) + x.fn) % 256)), (31, .int .u8 (((0 + (8 * x.dst)) + x.src) % 256)), (35, .int .u8 ((x.off / 256) % 256)), (39, .int .u8 (IntKind.wrap .u8 (Int.tmod x.off 256))), (42, .int .u8 (IntKind.wrap .u8 (IntKind.wrap .i64 (Int.tdiv x.imm 16777216)))), (46, .int .u8 (IntKind.wrap .u8 (Int.tmod (IntKind.wrap .i64 (Int.tdiv x.imm 65536)) 256))), (50, .int .u8 (IntKind.wrap .u8 (Int.tmod (IntKind.wrap .i64 (Int.tdiv x.imm 256)) 256))), (53, .int .u8 (IntKind.wrap .u8 (Int.tmod x.imm 256)))] ?_
    rw [show Int.tmod x.off 256 = x.off % 256 from Int.tmod_eq_emod_of_nonneg (by omega)]
    rw [wr8 (x.off % 256)]
    rw [quo_pos (x := x.imm) (c := 16777216) (by omega) (by omega) (by decide)]
    rw [wr8 (x.imm / 16777216)]
    rw [quo_pos (x := x.imm) (c := 65536) (by omega) (by omega) (by decide)]
    rw [show Int.tmod (x.imm / 65536) 256 = (x.imm / 65536) % 256 from Int.tmod_eq_emod_of_nonneg (by omega)]
    rw [wr8 ((x.imm / 65536) % 256)]
    rw [quo_pos (x := x.imm) (c := 256) (by omega) (by omega) (by decide)]
    rw [show Int.tmod (x.imm / 256) 256 = (x.imm / 256) % 256 from Int.tmod_eq_emod_of_nonneg (by omega)]
    rw [wr8 ((x.imm / 256) % 256)]
    rw [show Int.tmod x.imm 256 = x.imm % 256 from Int.tmod_eq_emod_of_nonneg (by omega)]
    rw [wr8 (x.imm % 256)]
    refine bsF M5 54 kB 5 ([(((16 * x.op) + x.fn) % 256), (((0 + (8 * x.dst)) + x.src) % 256), ((x.off / 256) % 256), ((x.off % 256) % 256), ((x.imm / 16777216) % 256), (((x.imm / 65536) % 256) % 256), (((x.imm / 256) % 256) % 256), ((x.imm % 256) % 256)] : List Int) #[.int .u8 (((16 * x.op) + x.fn) % 256), .int .u8 (((0 + (8 * x.dst)) + x.src) % 256), .int .u8 ((x.off / 256) % 256), .int .u8 ((x.off % 256) % 256), .int .u8 ((x.imm / 16777216) % 256), .int .u8 (((x.imm / 65536) % 256) % 256), .int .u8 (((x.imm / 256) % 256) % 256), .int .u8 ((x.imm % 256) % 256)] (repB [(((16 * x.op) + x.fn) % 256), (((0 + (8 * x.dst)) + x.src) % 256), ((x.off / 256) % 256), ((x.off % 256) % 256), ((x.imm / 16777216) % 256), (((x.imm / 65536) % 256) % 256), (((x.imm / 256) % 256) % 256), ((x.imm % 256) % 256)]) (Nat.le_of_ble_eq_true rfl) fun b13 w14 M15 => ?_
    refine sg 2 [2, 3] [(2, .slice (some ⟨b13, 0, none⟩) 8 8), (3, .int .i64 0)] ?_
    refine to_end rfl (tn_code (tc_ret ?_))
    refine tr_tmp2 rfl rfl rfl ?_
    have hl16 : [(((16 * x.op) + x.fn) % 256), (((0 + (8 * x.dst)) + x.src) % 256), ((x.off / 256) % 256), ((x.off % 256) % 256), ((x.imm / 16777216) % 256), (((x.imm / 65536) % 256) % 256), (((x.imm / 256) % 256) % 256), ((x.imm % 256) % 256)] = instBytes x := by
      simp only [instBytes, h7, List.cons.injEq, and_true, eq_self, if_true, Bool.false_eq_true, if_false]
      refine ⟨?_, ?_, ?_, ?_, ?_, ?_, ?_, ?_⟩ <;> first | omega | trivial
    have M17 := (M15.drop 1)
    rw [hl16] at M17
    exact ⟨_, _, rfl, M17⟩

theorem get2_any (A : Option Addr) (c : Nat) (bs : List Int) (w : World) (hC : kB.C w A bs.length bs) (hc : bs.length ≤ c) (hb : ∀ x ∈ bs, isB x) : Calls Try.prog 105 #[.slice A bs.length c] w fun e w' => e = .returned (.tuple #[.agg (instGet bs).1.cs, .int .i64 (instGet bs).2]) ∧ Below w.heap.size w w' := by
  have M := Mem.refl w
  obtain ⟨b0l, b0h⟩ := isB_getD hb 0
  obtain ⟨b1l, b1h⟩ := isB_getD hb 1
  obtain ⟨b2l, b2h⟩ := isB_getD hb 2
  obtain ⟨b3l, b3h⟩ := isB_getD hb 3
  obtain ⟨b4l, b4h⟩ := isB_getD hb 4
  obtain ⟨b5l, b5h⟩ := isB_getD hb 5
  obtain ⟨b6l, b6h⟩ := isB_getD hb 6
  obtain ⟨b7l, b7h⟩ := isB_getD hb 7
  refine calls_tc (N := 74) (args := [.slice A bs.length c]) Try.func105 rfl rfl rfl ?_
  refine tc_seq (tc_region ?_)
  refine nw M 2 #[.int .i64 0, .int .i64 0, .int .i64 0, .int .i64 0, .bool false, .int .i64 0, .int .u32 0] 65 fun b1 w2 M3 => ?_
  refine sg 1 [0, 2] [(0, .slice A bs.length c), (2, .pointer (some ⟨b1, 0, none⟩))] ?_
  refine to_end rfl (tn_code (tc_seq (tc_seq (tc_region ?_))))
  refine sg 3 [0, 2, 9] [(0, .slice A bs.length c), (2, .pointer (some ⟨b1, 0, none⟩)), (9, .bool ((bs.length : Int) != 8))] ?_
  refine to_end rfl (tn_code ?_)
  refine tc_cond (b := (bs.length : Int) != 8) (fun _ => rfl) (fun h4 => ?_) (fun h4 => ?_)
  · have h4p := bne_iff_ne.1 h4
    refine tc_seq (tc_region ?_)
    refine sg 1 [2, 10] [(2, .pointer (some ⟨b1, 0, none⟩)), (10, .agg #[.int .i64 0, .int .i64 0, .int .i64 0, .int .i64 0, .bool false, .int .i64 0, .int .u32 0])] ?_
    refine sa M3 0 #[.int .i64 0, .int .i64 0, .int .i64 0, .int .i64 0, .bool false, .int .i64 0, .int .u32 0] fun w5 M6 => ?_
    refine sg 1 [2, 3] [(2, .pointer (some ⟨b1, 0, none⟩)), (3, .int .i64 7)] ?_
    refine to_end rfl (tn_code (tc_ret ?_))
    refine tr_cell_tmp M6 0 rfl rfl rfl rfl Try.underlying65 rfl (by kernel_rfl) ?_
    have hg : instGet bs = (Inst.z, 7) := if_neg (fun h_ => by have h1 := h_.1; omega)
    exact ⟨by rw [hg]; rfl, M6.below⟩
  · have h4p := bne_eq_false_iff_eq.1 h4
    refine tc_skip (tn_code (tc_seq (tc_region ?_)))
    refine sg 1 [0, 2, 11] [(0, .slice A bs.length c), (2, .pointer (some ⟨b1, 0, none⟩)), (11, .slice A bs.length c)] ?_
    obtain ⟨ad7, rfl⟩ := C_some hC (k := 1) (by omega)
    refine ix (ad := ad7) (n := bs.length) (c := c) 12 1 1 (by omega) Try.underlying71 ?_
    obtain ⟨cs10, hk8, hc9⟩ := C_cell hC (0 : Int) 1 (by omega)
    obtain rfl := kB_open hk8
    refine le 13 (.int .u8 (bs.getD 1 (0 : Int))) (cell_up M3 (hc9 0 _ rfl)) ?_
    refine sg 2 [0, 2, 4] [(0, .slice (some ad7) bs.length c), (2, .pointer (some ⟨b1, 0, none⟩)), (4, .int .i64 (IntKind.wrap .i64 (bs.getD 1 (0 : Int))))] ?_
    rw [wr_i64 (x := (bs.getD 1 (0 : Int))) (by omega) (by omega)]
    refine to_end rfl (tn_code (tc_seq ?_))
    refine tc_drawL (fun w' => Mem w w' ([blk b1 #[.int .i64 0, .int .i64 0, .int .i64 0, .int .i64 0, .bool false, .int .i64 0, .int .u32 0] 65])) [] (by kernel_rfl) ?_
    have M12 := M3.draw
    refine ty_take 0 15 (.slice (some ad7) bs.length c) (pok_cont pok_body) ?_ M12 (fun _ _ _ => by kernel_rfl)
    refine ty_take 1 16 (.pointer (some (ad7.add (0 * 1)))) (pok_cont pok_body) ?_ M12 (fun _ _ _ => ri (ad := ad7) (n := bs.length) (c := c) 0 1 (by omega) Try.underlying71)
    obtain ⟨cs15, hk13, hc14⟩ := C_cell hC (0 : Int) 0 (by omega)
    obtain rfl := kB_open hk13
    refine ty_take 2 17 (.int .u8 (bs.getD 0 (0 : Int))) (pok_cont pok_body) ?_ M12 (fun _ M' _ => re (cell_up M' (hc14 0 _ rfl)))
    refine ty_take 3 18 (.int .i64 (IntKind.wrap .i64 (bs.getD 0 (0 : Int)))) (pok_cont pok_body) ?_ M12 (fun _ _ _ => by kernel_rfl)
    rw [wr_i64 (x := (bs.getD 0 (0 : Int))) (by omega) (by omega)]
    refine ty_take 4 19 (.int .i64 (IntKind.wrap .i64 (Int.tdiv (bs.getD 0 (0 : Int)) 16))) (pok_cont pok_body) ?_ M12 (fun _ _ _ => by kernel_rfl)
    rw [quo_pos (x := (bs.getD 0 (0 : Int))) (c := 16) (by omega) (by omega) (by decide)]
    refine ty_take 5 20 (.slice (some ad7) bs.length c) (pok_cont pok_body) ?_ M12 (fun _ _ _ => by kernel_rfl)
    refine ty_take 6 21 (.pointer (some (ad7.add (0 * 1)))) (pok_cont pok_body) ?_ M12 (fun _ _ _ => ri (ad := ad7) (n := bs.length) (c := c) 0 1 (by omega) Try.underlying71)
    refine ty_take 7 22 (.int .u8 (bs.getD 0 (0 : Int))) (pok_cont pok_body) ?_ M12 (fun _ M' _ => re (cell_up M' (hc14 0 _ rfl)))
    refine ty_take 8 23 (.int .i64 (IntKind.wrap .i64 (bs.getD 0 (0 : Int)))) (pok_cont pok_body) ?_ M12 (fun _ _ _ => by kernel_rfl)
    rw [wr_i64 (x := (bs.getD 0 (0 : Int))) (by omega) (by omega)]
    refine ty_take 9 24 (.int .i64 (Int.tmod (bs.getD 0 (0 : Int)) 16)) (pok_cont pok_body) ?_ M12 (fun _ _ _ => by kernel_rfl)
    rw [show Int.tmod (bs.getD 0 (0 : Int)) 16 = (bs.getD 0 (0 : Int)) % 16 from Int.tmod_eq_emod_of_nonneg (by omega)]
    refine ty_take 10 25 (.int .i64 (bs.getD 1 (0 : Int))) (pok_cont pok_body) ?_ M12 (fun _ _ _ => by kernel_rfl)
    refine ty_take 11 26 (.bool (decide ((bs.getD 1 (0 : Int)) ≥ 128))) (pok_cont pok_body) ?_ M12 (fun _ _ _ => by kernel_rfl)
    refine ty_take 12 27 (.int .i64 (bs.getD 1 (0 : Int))) (pok_cont pok_body) ?_ M12 (fun _ _ _ => by kernel_rfl)
    refine ty_take 13 28 (.int .i64 (Int.tmod (bs.getD 1 (0 : Int)) 128)) (pok_cont pok_body) ?_ M12 (fun _ _ _ => by kernel_rfl)
    rw [show Int.tmod (bs.getD 1 (0 : Int)) 128 = (bs.getD 1 (0 : Int)) % 128 from Int.tmod_eq_emod_of_nonneg (by omega)]
    refine ty_take 14 29 (.int .i64 (IntKind.wrap .i64 (Int.tdiv ((bs.getD 1 (0 : Int)) % 128) 8))) (pok_cont pok_body) ?_ M12 (fun _ _ _ => by kernel_rfl)
    rw [quo_pos (x := ((bs.getD 1 (0 : Int)) % 128)) (c := 8) (by omega) (by omega) (by decide)]
    refine ty_take 15 30 (.int .i64 (bs.getD 1 (0 : Int))) (pok_cont pok_body) ?_ M12 (fun _ _ _ => by kernel_rfl)
    refine ty_take 16 31 (.int .i64 (Int.tmod (bs.getD 1 (0 : Int)) 8)) (pok_cont pok_body) ?_ M12 (fun _ _ _ => by kernel_rfl)
    rw [show Int.tmod (bs.getD 1 (0 : Int)) 8 = (bs.getD 1 (0 : Int)) % 8 from Int.tmod_eq_emod_of_nonneg (by omega)]
    refine ty_take 17 32 (.agg #[.int .i64 ((bs.getD 0 (0 : Int)) / 16), .int .i64 ((bs.getD 0 (0 : Int)) % 16), .int .i64 (((bs.getD 1 (0 : Int)) % 128) / 8), .int .i64 ((bs.getD 1 (0 : Int)) % 8), .bool (decide ((bs.getD 1 (0 : Int)) ≥ 128)), .int .i64 0, .int .u32 0]) (pok_cont pok_body) ?_ M12 (fun _ _ _ => by kernel_rfl)
    refine ty_all (rs := [18]) (te_one ?_)
    refine te_new M12 5 #[.int .i64 0, .int .i64 0, .int .i64 0, .int .i64 0, .bool false, .int .i64 0, .int .u32 0] 65 (fun _ hb _ M' => M'.call hb) fun b16 w17 M18 => ?_
    refine ty_all (rs := [19]) (te_one ?_)
    refine te_sa M18 0 #[.int .i64 ((bs.getD 0 (0 : Int)) / 16), .int .i64 ((bs.getD 0 (0 : Int)) % 16), .int .i64 (((bs.getD 1 (0 : Int)) % 128) / 8), .int .i64 ((bs.getD 1 (0 : Int)) % 8), .bool (decide ((bs.getD 1 (0 : Int)) ≥ 128)), .int .i64 0, .int .u32 0] (fun _ M_ _ _ => (M_.drop 0)) fun w19 M20 => ?_
    refine ty_endL ?_
    refine tn_code (tc_seq ?_)
    refine tc_drawL (fun w' => Mem w w' ([blk b16 #[.int .i64 ((bs.getD 0 (0 : Int)) / 16), .int .i64 ((bs.getD 0 (0 : Int)) % 16), .int .i64 (((bs.getD 1 (0 : Int)) % 128) / 8), .int .i64 ((bs.getD 1 (0 : Int)) % 8), .bool (decide ((bs.getD 1 (0 : Int)) ≥ 128)), .int .i64 0, .int .u32 0] 65, blk b1 #[.int .i64 0, .int .i64 0, .int .i64 0, .int .i64 0, .bool false, .int .i64 0, .int .u32 0] 65])) [11] (by kernel_rfl) ?_
    have M22 := M20.draw
    refine ty_take 0 33 (.slice (some ad7) bs.length c) (pok_cont pok_body) ?_ M22 (fun _ _ _ => by kernel_rfl)
    refine ty_take 1 34 (.pointer (some (ad7.add (2 * 1)))) (pok_cont pok_body) ?_ M22 (fun _ _ _ => ri (ad := ad7) (n := bs.length) (c := c) 2 1 (by omega) Try.underlying71)
    obtain ⟨cs25, hk23, hc24⟩ := C_cell hC (0 : Int) 2 (by omega)
    obtain rfl := kB_open hk23
    refine ty_take 2 35 (.int .u8 (bs.getD 2 (0 : Int))) (pok_cont pok_body) ?_ M22 (fun _ M' _ => re (cell_up M' (hc24 0 _ rfl)))
    refine ty_take 3 36 (.int .i64 (IntKind.wrap .i64 (bs.getD 2 (0 : Int)))) (pok_cont pok_body) ?_ M22 (fun _ _ _ => by kernel_rfl)
    rw [wr_i64 (x := (bs.getD 2 (0 : Int))) (by omega) (by omega)]
    refine ty_take 4 37 (.int .i64 (IntKind.wrap .i64 (256 * (bs.getD 2 (0 : Int))))) (pok_cont pok_body) ?_ M22 (fun _ _ _ => by kernel_rfl)
    rw [wr_i64 (x := 256 * (bs.getD 2 (0 : Int))) (by omega) (by omega)]
    refine ty_take 5 38 (.slice (some ad7) bs.length c) (pok_cont pok_body) ?_ M22 (fun _ _ _ => by kernel_rfl)
    refine ty_take 6 39 (.pointer (some (ad7.add (3 * 1)))) (pok_cont pok_body) ?_ M22 (fun _ _ _ => ri (ad := ad7) (n := bs.length) (c := c) 3 1 (by omega) Try.underlying71)
    obtain ⟨cs28, hk26, hc27⟩ := C_cell hC (0 : Int) 3 (by omega)
    obtain rfl := kB_open hk26
    refine ty_take 7 40 (.int .u8 (bs.getD 3 (0 : Int))) (pok_cont pok_body) ?_ M22 (fun _ M' _ => re (cell_up M' (hc27 0 _ rfl)))
    refine ty_take 8 41 (.int .i64 (IntKind.wrap .i64 (bs.getD 3 (0 : Int)))) (pok_cont pok_body) ?_ M22 (fun _ _ _ => by kernel_rfl)
    rw [wr_i64 (x := (bs.getD 3 (0 : Int))) (by omega) (by omega)]
    refine ty_take 9 42 (.int .i64 (IntKind.wrap .i64 ((256 * (bs.getD 2 (0 : Int))) + (bs.getD 3 (0 : Int))))) (pok_cont pok_body) ?_ M22 (fun _ _ _ => by kernel_rfl)
    rw [wr_i64 (x := (256 * (bs.getD 2 (0 : Int))) + (bs.getD 3 (0 : Int))) (by omega) (by omega)]
    refine ty_take 10 43 (.pointer (some ⟨b16, 5, none⟩)) (pok_cont pok_body) ?_ M22 (fun _ _ _ => by kernel_rfl)
    refine ty_all (rs := [11]) (te_one ?_)
    refine te_st M22 0 #[.int .i64 ((bs.getD 0 (0 : Int)) / 16), .int .i64 ((bs.getD 0 (0 : Int)) % 16), .int .i64 (((bs.getD 1 (0 : Int)) % 128) / 8), .int .i64 ((bs.getD 1 (0 : Int)) % 8), .bool (decide ((bs.getD 1 (0 : Int)) ≥ 128)), .int .i64 ((256 * (bs.getD 2 (0 : Int))) + (bs.getD 3 (0 : Int))), .int .u32 0] (fun _ _ h_ _ => absurd (by decide) h_) fun w29 M30 => ?_
    refine ty_endL ?_
    refine tn_code (tc_seq ?_)
    refine tc_drawL (fun w' => Mem w w' ([blk b16 #[.int .i64 ((bs.getD 0 (0 : Int)) / 16), .int .i64 ((bs.getD 0 (0 : Int)) % 16), .int .i64 (((bs.getD 1 (0 : Int)) % 128) / 8), .int .i64 ((bs.getD 1 (0 : Int)) % 8), .bool (decide ((bs.getD 1 (0 : Int)) ≥ 128)), .int .i64 ((256 * (bs.getD 2 (0 : Int))) + (bs.getD 3 (0 : Int))), .int .u32 0] 65, blk b1 #[.int .i64 0, .int .i64 0, .int .i64 0, .int .i64 0, .bool false, .int .i64 0, .int .u32 0] 65])) [24] (by kernel_rfl) ?_
    have M31 := M30.draw
    refine ty_take 0 44 (.slice (some ad7) bs.length c) (pok_cont pok_body) ?_ M31 (fun _ _ _ => by kernel_rfl)
    refine ty_take 1 45 (.pointer (some (ad7.add (4 * 1)))) (pok_cont pok_body) ?_ M31 (fun _ _ _ => ri (ad := ad7) (n := bs.length) (c := c) 4 1 (by omega) Try.underlying71)
    obtain ⟨cs34, hk32, hc33⟩ := C_cell hC (0 : Int) 4 (by omega)
    obtain rfl := kB_open hk32
    refine ty_take 2 46 (.int .u8 (bs.getD 4 (0 : Int))) (pok_cont pok_body) ?_ M31 (fun _ M' _ => re (cell_up M' (hc33 0 _ rfl)))
    refine ty_take 3 47 (.int .i64 (IntKind.wrap .i64 (bs.getD 4 (0 : Int)))) (pok_cont pok_body) ?_ M31 (fun _ _ _ => by kernel_rfl)
    rw [wr_i64 (x := (bs.getD 4 (0 : Int))) (by omega) (by omega)]
    refine ty_take 4 48 (.int .i64 (IntKind.wrap .i64 (16777216 * (bs.getD 4 (0 : Int))))) (pok_cont pok_body) ?_ M31 (fun _ _ _ => by kernel_rfl)
    rw [wr_i64 (x := 16777216 * (bs.getD 4 (0 : Int))) (by omega) (by omega)]
    refine ty_take 5 49 (.slice (some ad7) bs.length c) (pok_cont pok_body) ?_ M31 (fun _ _ _ => by kernel_rfl)
    refine ty_take 6 50 (.pointer (some (ad7.add (5 * 1)))) (pok_cont pok_body) ?_ M31 (fun _ _ _ => ri (ad := ad7) (n := bs.length) (c := c) 5 1 (by omega) Try.underlying71)
    obtain ⟨cs37, hk35, hc36⟩ := C_cell hC (0 : Int) 5 (by omega)
    obtain rfl := kB_open hk35
    refine ty_take 7 51 (.int .u8 (bs.getD 5 (0 : Int))) (pok_cont pok_body) ?_ M31 (fun _ M' _ => re (cell_up M' (hc36 0 _ rfl)))
    refine ty_take 8 52 (.int .i64 (IntKind.wrap .i64 (bs.getD 5 (0 : Int)))) (pok_cont pok_body) ?_ M31 (fun _ _ _ => by kernel_rfl)
    rw [wr_i64 (x := (bs.getD 5 (0 : Int))) (by omega) (by omega)]
    refine ty_take 9 53 (.int .i64 (IntKind.wrap .i64 (65536 * (bs.getD 5 (0 : Int))))) (pok_cont pok_body) ?_ M31 (fun _ _ _ => by kernel_rfl)
    rw [wr_i64 (x := 65536 * (bs.getD 5 (0 : Int))) (by omega) (by omega)]
    refine ty_take 10 54 (.int .i64 (IntKind.wrap .i64 ((16777216 * (bs.getD 4 (0 : Int))) + (65536 * (bs.getD 5 (0 : Int)))))) (pok_cont pok_body) ?_ M31 (fun _ _ _ => by kernel_rfl)
    rw [wr_i64 (x := (16777216 * (bs.getD 4 (0 : Int))) + (65536 * (bs.getD 5 (0 : Int)))) (by omega) (by omega)]
    refine ty_take 11 55 (.slice (some ad7) bs.length c) (pok_cont pok_body) ?_ M31 (fun _ _ _ => by kernel_rfl)
    refine ty_take 12 56 (.pointer (some (ad7.add (6 * 1)))) (pok_cont pok_body) ?_ M31 (fun _ _ _ => ri (ad := ad7) (n := bs.length) (c := c) 6 1 (by omega) Try.underlying71)
    obtain ⟨cs40, hk38, hc39⟩ := C_cell hC (0 : Int) 6 (by omega)
    obtain rfl := kB_open hk38
    refine ty_take 13 57 (.int .u8 (bs.getD 6 (0 : Int))) (pok_cont pok_body) ?_ M31 (fun _ M' _ => re (cell_up M' (hc39 0 _ rfl)))
    refine ty_take 14 58 (.int .i64 (IntKind.wrap .i64 (bs.getD 6 (0 : Int)))) (pok_cont pok_body) ?_ M31 (fun _ _ _ => by kernel_rfl)
    rw [wr_i64 (x := (bs.getD 6 (0 : Int))) (by omega) (by omega)]
    refine ty_take 15 59 (.int .i64 (IntKind.wrap .i64 (256 * (bs.getD 6 (0 : Int))))) (pok_cont pok_body) ?_ M31 (fun _ _ _ => by kernel_rfl)
    rw [wr_i64 (x := 256 * (bs.getD 6 (0 : Int))) (by omega) (by omega)]
    refine ty_take 16 60 (.int .i64 (IntKind.wrap .i64 (((16777216 * (bs.getD 4 (0 : Int))) + (65536 * (bs.getD 5 (0 : Int)))) + (256 * (bs.getD 6 (0 : Int)))))) (pok_cont pok_body) ?_ M31 (fun _ _ _ => by kernel_rfl)
    rw [wr_i64 (x := ((16777216 * (bs.getD 4 (0 : Int))) + (65536 * (bs.getD 5 (0 : Int)))) + (256 * (bs.getD 6 (0 : Int)))) (by omega) (by omega)]
    refine ty_take 17 61 (.slice (some ad7) bs.length c) (pok_cont pok_body) ?_ M31 (fun _ _ _ => by kernel_rfl)
    refine ty_take 18 62 (.pointer (some (ad7.add (7 * 1)))) (pok_cont pok_body) ?_ M31 (fun _ _ _ => ri (ad := ad7) (n := bs.length) (c := c) 7 1 (by omega) Try.underlying71)
    obtain ⟨cs43, hk41, hc42⟩ := C_cell hC (0 : Int) 7 (by omega)
    obtain rfl := kB_open hk41
    refine ty_take 19 63 (.int .u8 (bs.getD 7 (0 : Int))) (pok_cont pok_body) ?_ M31 (fun _ M' _ => re (cell_up M' (hc42 0 _ rfl)))
    refine ty_take 20 64 (.int .i64 (IntKind.wrap .i64 (bs.getD 7 (0 : Int)))) (pok_cont pok_body) ?_ M31 (fun _ _ _ => by kernel_rfl)
    rw [wr_i64 (x := (bs.getD 7 (0 : Int))) (by omega) (by omega)]
    refine ty_take 21 65 (.int .i64 (IntKind.wrap .i64 ((((16777216 * (bs.getD 4 (0 : Int))) + (65536 * (bs.getD 5 (0 : Int)))) + (256 * (bs.getD 6 (0 : Int)))) + (bs.getD 7 (0 : Int))))) (pok_cont pok_body) ?_ M31 (fun _ _ _ => by kernel_rfl)
    rw [wr_i64 (x := (((16777216 * (bs.getD 4 (0 : Int))) + (65536 * (bs.getD 5 (0 : Int)))) + (256 * (bs.getD 6 (0 : Int)))) + (bs.getD 7 (0 : Int))) (by omega) (by omega)]
    refine ty_take 22 66 (.int .u32 (IntKind.wrap .u32 ((((16777216 * (bs.getD 4 (0 : Int))) + (65536 * (bs.getD 5 (0 : Int)))) + (256 * (bs.getD 6 (0 : Int)))) + (bs.getD 7 (0 : Int))))) (pok_cont pok_body) ?_ M31 (fun _ _ _ => by kernel_rfl)
    rw [wr_u32 (x := ((((16777216 * (bs.getD 4 (0 : Int))) + (65536 * (bs.getD 5 (0 : Int)))) + (256 * (bs.getD 6 (0 : Int)))) + (bs.getD 7 (0 : Int)))) (by omega) (by omega)]
    refine ty_take 23 67 (.pointer (some ⟨b16, 6, none⟩)) (pok_cont pok_body) ?_ M31 (fun _ _ _ => by kernel_rfl)
    refine ty_all (rs := [24]) (te_one ?_)
    refine te_st M31 0 #[.int .i64 ((bs.getD 0 (0 : Int)) / 16), .int .i64 ((bs.getD 0 (0 : Int)) % 16), .int .i64 (((bs.getD 1 (0 : Int)) % 128) / 8), .int .i64 ((bs.getD 1 (0 : Int)) % 8), .bool (decide ((bs.getD 1 (0 : Int)) ≥ 128)), .int .i64 ((256 * (bs.getD 2 (0 : Int))) + (bs.getD 3 (0 : Int))), .int .u32 ((((16777216 * (bs.getD 4 (0 : Int))) + (65536 * (bs.getD 5 (0 : Int)))) + (256 * (bs.getD 6 (0 : Int)))) + (bs.getD 7 (0 : Int)))] (fun _ _ h_ _ => absurd (by decide) h_) fun w44 M45 => ?_
    refine ty_endL ?_
    refine tn_code (tc_seq (tc_region ?_))
    refine la M45 0 68 #[.int .i64 ((bs.getD 0 (0 : Int)) / 16), .int .i64 ((bs.getD 0 (0 : Int)) % 16), .int .i64 (((bs.getD 1 (0 : Int)) % 128) / 8), .int .i64 ((bs.getD 1 (0 : Int)) % 8), .bool (decide ((bs.getD 1 (0 : Int)) ≥ 128)), .int .i64 ((256 * (bs.getD 2 (0 : Int))) + (bs.getD 3 (0 : Int))), .int .u32 ((((16777216 * (bs.getD 4 (0 : Int))) + (65536 * (bs.getD 5 (0 : Int)))) + (256 * (bs.getD 6 (0 : Int)))) + (bs.getD 7 (0 : Int)))] (hu := Try.underlying65) ?_
    refine cb M45 69 (may2_any ⟨((bs.getD 0 (0 : Int)) / 16), ((bs.getD 0 (0 : Int)) % 16), (((bs.getD 1 (0 : Int)) % 128) / 8), ((bs.getD 1 (0 : Int)) % 8), decide ((bs.getD 1 (0 : Int)) ≥ 128), ((256 * (bs.getD 2 (0 : Int))) + (bs.getD 3 (0 : Int))), ((((16777216 * (bs.getD 4 (0 : Int))) + (65536 * (bs.getD 5 (0 : Int)))) + (256 * (bs.getD 6 (0 : Int)))) + (bs.getD 7 (0 : Int)))⟩ _) fun w46 hb48 M47 => ?_
    refine sg 1 [2, 5, 6] [(2, .pointer (some ⟨b1, 0, none⟩)), (5, .pointer (some ⟨b16, 0, none⟩)), (6, .bool (instMay ⟨((bs.getD 0 (0 : Int)) / 16), ((bs.getD 0 (0 : Int)) % 16), (((bs.getD 1 (0 : Int)) % 128) / 8), ((bs.getD 1 (0 : Int)) % 8), decide ((bs.getD 1 (0 : Int)) ≥ 128), ((256 * (bs.getD 2 (0 : Int))) + (bs.getD 3 (0 : Int))), ((((16777216 * (bs.getD 4 (0 : Int))) + (65536 * (bs.getD 5 (0 : Int)))) + (256 * (bs.getD 6 (0 : Int)))) + (bs.getD 7 (0 : Int)))⟩))] ?_
    refine to_end rfl (tn_code (tc_seq (tc_seq (tc_region ?_))))
    refine sg 2 [2, 5, 71] [(2, .pointer (some ⟨b1, 0, none⟩)), (5, .pointer (some ⟨b16, 0, none⟩)), (71, .bool (!(instMay ⟨((bs.getD 0 (0 : Int)) / 16), ((bs.getD 0 (0 : Int)) % 16), (((bs.getD 1 (0 : Int)) % 128) / 8), ((bs.getD 1 (0 : Int)) % 8), decide ((bs.getD 1 (0 : Int)) ≥ 128), ((256 * (bs.getD 2 (0 : Int))) + (bs.getD 3 (0 : Int))), ((((16777216 * (bs.getD 4 (0 : Int))) + (65536 * (bs.getD 5 (0 : Int)))) + (256 * (bs.getD 6 (0 : Int)))) + (bs.getD 7 (0 : Int)))⟩)))] ?_
    refine to_end rfl (tn_code ?_)
    rcases h49 : (instMay ⟨((bs.getD 0 (0 : Int)) / 16), ((bs.getD 0 (0 : Int)) % 16), (((bs.getD 1 (0 : Int)) % 128) / 8), ((bs.getD 1 (0 : Int)) % 8), decide ((bs.getD 1 (0 : Int)) ≥ 128), ((256 * (bs.getD 2 (0 : Int))) + (bs.getD 3 (0 : Int))), ((((16777216 * (bs.getD 4 (0 : Int))) + (65536 * (bs.getD 5 (0 : Int)))) + (256 * (bs.getD 6 (0 : Int)))) + (bs.getD 7 (0 : Int)))⟩ : Bool) with _ | _
    · refine tc_cond_t (fun _ => rfl) (tc_seq (tc_region ?_))
      refine sg 1 [2, 72] [(2, .pointer (some ⟨b1, 0, none⟩)), (72, .agg #[.int .i64 0, .int .i64 0, .int .i64 0, .int .i64 0, .bool false, .int .i64 0, .int .u32 0])] ?_
      refine sa M47 1 #[.int .i64 0, .int .i64 0, .int .i64 0, .int .i64 0, .bool false, .int .i64 0, .int .u32 0] fun w50 M51 => ?_
      refine sg 1 [2, 3] [(2, .pointer (some ⟨b1, 0, none⟩)), (3, .int .i64 7)] ?_
      refine to_end rfl (tn_code (tc_ret ?_))
      refine tr_cell_tmp M51 1 rfl rfl rfl rfl Try.underlying65 rfl (by kernel_rfl) ?_
      have hg := instGet_eq (bs := bs) (by omega) hb
      rw [if_neg (by rw [h49]; decide)] at hg
      exact ⟨by rw [hg]; rfl, M51.below⟩
    · refine tc_cond_f (fun _ => rfl) (tc_skip (tn_code (tc_seq (tc_region ?_))))
      refine la M47 0 73 #[.int .i64 ((bs.getD 0 (0 : Int)) / 16), .int .i64 ((bs.getD 0 (0 : Int)) % 16), .int .i64 (((bs.getD 1 (0 : Int)) % 128) / 8), .int .i64 ((bs.getD 1 (0 : Int)) % 8), .bool (decide ((bs.getD 1 (0 : Int)) ≥ 128)), .int .i64 ((256 * (bs.getD 2 (0 : Int))) + (bs.getD 3 (0 : Int))), .int .u32 ((((16777216 * (bs.getD 4 (0 : Int))) + (65536 * (bs.getD 5 (0 : Int)))) + (256 * (bs.getD 6 (0 : Int)))) + (bs.getD 7 (0 : Int)))] (hu := Try.underlying65) ?_
      refine sa M47 1 #[.int .i64 ((bs.getD 0 (0 : Int)) / 16), .int .i64 ((bs.getD 0 (0 : Int)) % 16), .int .i64 (((bs.getD 1 (0 : Int)) % 128) / 8), .int .i64 ((bs.getD 1 (0 : Int)) % 8), .bool (decide ((bs.getD 1 (0 : Int)) ≥ 128)), .int .i64 ((256 * (bs.getD 2 (0 : Int))) + (bs.getD 3 (0 : Int))), .int .u32 ((((16777216 * (bs.getD 4 (0 : Int))) + (65536 * (bs.getD 5 (0 : Int)))) + (256 * (bs.getD 6 (0 : Int)))) + (bs.getD 7 (0 : Int)))] fun w52 M53 => ?_
      refine sg 1 [2, 3] [(2, .pointer (some ⟨b1, 0, none⟩)), (3, .int .i64 0)] ?_
      refine to_end rfl (tn_code (tc_ret ?_))
      refine tr_cell_tmp M53 1 rfl rfl rfl rfl Try.underlying65 rfl (by kernel_rfl) ?_
      have hg := instGet_eq (bs := bs) (by omega) hb
      rw [if_pos h49] at hg
      exact ⟨by rw [hg]; rfl, M53.below⟩

set_option linter.unusedSimpArgs false in
theorem code_any (x : Fn) (A : Option Addr) (c : Nat) (w : World) (hC : kInst.C w A x.code.length x.code) : Calls Try.prog 106 #[.agg #[.int .i64 x.args, .slice A x.code.length c]] w fun e w' => e = .returned (.bool (fnMay ⟨0, x.code⟩)) ∧ Below w.heap.size w w' := by
  have M := Mem.refl w
  have hmx := C_max hC
  refine calls_tc (N := 30) (args := [.agg #[.int .i64 x.args, .slice A x.code.length c]]) Try.func106 rfl rfl rfl ?_
  refine tc_seq (tc_region ?_)
  refine nw M 1 #[.int .i64 x.args, .slice A x.code.length c] 57 fun b1 w2 M3 => ?_
  refine sg 1 [1] [(1, .pointer (some ⟨b1, 0, none⟩))] ?_
  refine to_end rfl (tn_code (tc_seq (tc_seq (tc_region ?_))))
  refine sg 1 [1, 3] [(1, .pointer (some ⟨b1, 0, none⟩)), (3, .int .i64 0)] ?_
  refine to_end rfl (tn_code (tc_block ?_))
  refine tc_loop (σ := Nat) (fun k5 => [(1, .pointer (some ⟨b1, 0, none⟩)), (3, .int .i64 (k5 : Int))]) (fun k5 w' => k5 ≤ x.code.length ∧ (∀ j, j < k5 → instMay (x.code.getD j Inst.z) = true) ∧ Mem w w' [blk b1 #[.int .i64 x.args, .slice A x.code.length c] 57]) (fun k5 => x.code.length - k5) 0 (Sub.cons rfl (Sub.cons rfl (Sub.nil _))) ⟨Nat.zero_le _, fun j hj => absurd hj (Nat.not_lt_zero _), M3⟩ ?_
  rintro k5 w8 ⟨hk6, hi7, M9⟩
  refine tc_seq (tc_seq (tc_region ?_))
  refine sg 2 [1, 3, 5, 6] [(1, .pointer (some ⟨b1, 0, none⟩)), (3, .int .i64 (k5 : Int)), (5, .int .i64 (k5 : Int)), (6, .pointer (some ⟨b1, 1, none⟩))] ?_
  refine ld M9 0 7 (.slice A x.code.length c) ?_
  refine sg 2 [1, 3, 9] [(1, .pointer (some ⟨b1, 0, none⟩)), (3, .int .i64 (k5 : Int)), (9, .bool (decide ((k5 : Int) < (x.code.length : Int))))] ?_
  refine to_end rfl (tn_code ?_)
  refine tc_cond (b := decide ((k5 : Int) < (x.code.length : Int))) (fun _ => rfl) (fun h10 => ?_) (fun h10 => ?_)
  · have h10p := of_decide_eq_true h10
    refine tc_skip (tn_code (tc_seq (tc_block (tc_seq (tc_region ?_)))))
    refine sg 1 [1, 3, 12] [(1, .pointer (some ⟨b1, 0, none⟩)), (3, .int .i64 (k5 : Int)), (12, .pointer (some ⟨b1, 1, none⟩))] ?_
    refine ld M9 0 13 (.slice A x.code.length c) ?_
    refine sg 1 [1, 3, 13, 14] [(1, .pointer (some ⟨b1, 0, none⟩)), (3, .int .i64 (k5 : Int)), (13, .slice A x.code.length c), (14, .int .i64 (k5 : Int))] ?_
    obtain ⟨ad11, rfl⟩ := C_some hC (k := k5) (by omega)
    refine ix (ad := ad11) (n := x.code.length) (c := c) 15 k5 7 (by omega) Try.underlying55 ?_
    obtain ⟨cs14, hk12, hc13⟩ := C_cell hC Inst.z k5 (by omega)
    obtain rfl := kInst_open hk12
    refine lea 16 (x.code.getD k5 Inst.z).cs (fun j u hj => cell_up M9 (hc13 j u hj)) (hu := Try.underlying65) ?_
    refine cb M9 17 (may2_any (x.code.getD k5 Inst.z) _) fun w15 hb17 M16 => ?_
    refine sg 1 [1, 3, 4] [(1, .pointer (some ⟨b1, 0, none⟩)), (3, .int .i64 (k5 : Int)), (4, .bool (instMay (x.code.getD k5 Inst.z)))] ?_
    refine to_end rfl (tn_code (tc_seq (tc_region ?_)))
    refine sg 2 [1, 3, 19] [(1, .pointer (some ⟨b1, 0, none⟩)), (3, .int .i64 (k5 : Int)), (19, .bool (!(instMay (x.code.getD k5 Inst.z))))] ?_
    refine to_end rfl (tn_code ?_)
    rcases h18 : (instMay (x.code.getD k5 Inst.z) : Bool) with _ | _
    · refine tc_cond_t (fun _ => rfl) (tc_seq (tc_region ?_))
      refine sg 1 [2] [(2, .bool false)] ?_
      refine to_end rfl (tn_code (tc_ret ?_))
      refine tr_tmp rfl rfl ?_
      exact ⟨congrArg Ending.returned (congrArg Value.bool (code_no (by omega) h18)), M16.below⟩
    · refine tc_cond_f (fun _ => rfl) (tc_skip (tn_blk (tn_code (tc_region ?_))))
      refine sg 3 [1, 3] [(1, .pointer (some ⟨b1, 0, none⟩)), (3, .int .i64 (IntKind.wrap .i64 ((k5 : Int) + 1)))] ?_
      rw [show IntKind.wrap .i64 ((k5 : Int) + 1) = (((k5 + 1) : Nat) : Int) from wr_nat k5 1 (by omega)]
      refine to_end rfl ?_
      exact tn_back (k5 + 1) (Sub.cons rfl (Sub.cons rfl (Sub.nil _))) ⟨by omega, all_step hi7 h18, M16⟩ (by omega)
  · have h10p := of_decide_eq_false h10
    refine tc_exitK (k' := _) rfl (tn_code (tc_seq (tc_region ?_)))
    refine join (fr' := [(2, .bool ((decide ((x.code.length : Int) ≥ 1)) && (decide ((x.code.length : Int) ≤ 64))))]) (fun hj_ => ?_) ?_
    · refine sg 1 [1, 20] [(1, .pointer (some ⟨b1, 0, none⟩)), (20, .pointer (some ⟨b1, 1, none⟩))] ?_
      refine ld M9 0 21 (.slice A x.code.length c) ?_
      refine sg 3 [1, 24] [(1, .pointer (some ⟨b1, 0, none⟩)), (24, .bool (decide ((x.code.length : Int) ≥ 1)))] ?_
      rcases bdi (decide ((x.code.length : Int) ≥ 1) : Bool) with h19 | h19
      · have h19p := of_decide_eq_false h19
        rw [h19]
        refine sg 6 [2] [(2, .bool false)] ?_
        refine to_end rfl ?_
        rw [show ((decide ((x.code.length : Int) ≥ 1)) && (decide ((x.code.length : Int) ≤ 64)) : Bool) = false from by (simp only [h19, Bool.true_or, Bool.false_or, Bool.or_true, Bool.or_false, Bool.true_and, Bool.false_and, Bool.and_true, Bool.and_false, Bool.not_true, Bool.not_false, cond_true, cond_false, if_true, reduceIte]) <;> rfl] at hj_
        exact hj_.sub (Sub.cons rfl (Sub.nil _))
      · have h19p := of_decide_eq_true h19
        rw [h19]
        refine sg 1 [24, 25] [(24, .bool true), (25, .pointer (some ⟨b1, 1, none⟩))] ?_
        refine ld M9 0 26 (.slice A x.code.length c) ?_
        refine sg 4 [2] [(2, .bool (decide ((x.code.length : Int) ≤ 64)))] ?_
        refine to_end rfl ?_
        rw [show ((decide ((x.code.length : Int) ≥ 1)) && (decide ((x.code.length : Int) ≤ 64)) : Bool) = (decide ((x.code.length : Int) ≤ 64)) from by (simp only [h19, Bool.true_or, Bool.false_or, Bool.or_true, Bool.or_false, Bool.true_and, Bool.false_and, Bool.and_true, Bool.and_false, Bool.not_true, Bool.not_false, cond_true, cond_false, if_true, reduceIte]) <;> rfl] at hj_
        exact hj_.sub (Sub.cons rfl (Sub.nil _))
    refine tn_code (tc_ret ?_)
    refine tr_tmp rfl rfl ?_
    exact ⟨congrArg Ending.returned (congrArg Value.bool (code_yes (k := k5) (by omega) hi7)), M9.below⟩

set_option linter.unusedSimpArgs false in
theorem rmay_any (p : List Fn) (A : Option Addr) (c : Nat) (w : World) (hC : kFn.C w A p.length p) : Calls Try.prog 57 #[.agg #[.slice A p.length c]] w fun e w' => e = .returned (.bool (progMay p)) ∧ Below w.heap.size w w' := by
  have M := Mem.refl w
  have hmx := C_max hC
  refine calls_tc (N := 61) (args := [.agg #[.slice A p.length c]]) Try.func57 rfl rfl rfl ?_
  refine tc_seq (tc_region ?_)
  refine nw M 1 #[.slice A p.length c] 45 fun b1 w2 M3 => ?_
  refine sg 1 [1] [(1, .pointer (some ⟨b1, 0, none⟩))] ?_
  refine to_end rfl (tn_code (tc_seq (tc_seq (tc_region ?_))))
  refine sg 1 [1, 3] [(1, .pointer (some ⟨b1, 0, none⟩)), (3, .int .i64 0)] ?_
  refine to_end rfl (tn_code (tc_block ?_))
  refine tc_loop (σ := Nat) (fun k5 => [(1, .pointer (some ⟨b1, 0, none⟩)), (3, .int .i64 (k5 : Int))]) (fun k5 w' => k5 ≤ p.length ∧ (∀ j, j < k5 → mayAt p j) ∧ Mem w w' [blk b1 #[.slice A p.length c] 45]) (fun k5 => p.length - k5) 0 (Sub.cons rfl (Sub.cons rfl (Sub.nil _))) ⟨Nat.zero_le _, fun j hj => absurd hj (Nat.not_lt_zero _), M3⟩ ?_
  rintro k5 w8 ⟨hk6, hi7, M9⟩
  refine tc_seq (tc_seq (tc_region ?_))
  refine sg 2 [1, 3, 5, 6] [(1, .pointer (some ⟨b1, 0, none⟩)), (3, .int .i64 (k5 : Int)), (5, .int .i64 (k5 : Int)), (6, .pointer (some ⟨b1, 0, none⟩))] ?_
  refine ld M9 0 7 (.slice A p.length c) ?_
  refine sg 2 [1, 3, 9] [(1, .pointer (some ⟨b1, 0, none⟩)), (3, .int .i64 (k5 : Int)), (9, .bool (decide ((k5 : Int) < (p.length : Int))))] ?_
  refine to_end rfl (tn_code ?_)
  refine tc_cond (b := decide ((k5 : Int) < (p.length : Int))) (fun _ => rfl) (fun h10 => ?_) (fun h10 => ?_)
  · have h10p := of_decide_eq_true h10
    refine tc_skip (tn_code (tc_seq (tc_block (tc_seq (tc_region ?_)))))
    refine sg 1 [1, 3, 12] [(1, .pointer (some ⟨b1, 0, none⟩)), (3, .int .i64 (k5 : Int)), (12, .pointer (some ⟨b1, 0, none⟩))] ?_
    refine ld M9 0 13 (.slice A p.length c) ?_
    refine sg 1 [1, 3, 13, 14] [(1, .pointer (some ⟨b1, 0, none⟩)), (3, .int .i64 (k5 : Int)), (13, .slice A p.length c), (14, .int .i64 (k5 : Int))] ?_
    obtain ⟨ad11, rfl⟩ := C_some hC (k := k5) (by omega)
    refine ix (ad := ad11) (n := p.length) (c := c) 15 k5 2 (by omega) Try.underlying43 ?_
    obtain ⟨cs14, hk12, hc13⟩ := C_cell hC Fn.z k5 (by omega)
    obtain ⟨A15, c16, rfl, hl17, hC18⟩ := kFn_open hk12
    refine lea 16 #[.int .i64 (p.getD k5 Fn.z).args, .slice A15 (p.getD k5 Fn.z).code.length c16] (fun j u hj => cell_up M9 (hc13 j u hj)) (hu := Try.underlying57) ?_
    refine cb M9 17 (code_any (p.getD k5 Fn.z) A15 c16 _ (C_up M9 hC18)) fun w19 hb21 M20 => ?_
    refine sg 1 [1, 3, 4] [(1, .pointer (some ⟨b1, 0, none⟩)), (3, .int .i64 (k5 : Int)), (4, .bool (fnMay ⟨0, (p.getD k5 Fn.z).code⟩))] ?_
    refine to_end rfl (tn_code (tc_seq (tc_region ?_)))
    refine join (fr' := [(1, .pointer (some ⟨b1, 0, none⟩)), (3, .int .i64 (k5 : Int)), (50, .bool ((((!(fnMay ⟨0, (p.getD k5 Fn.z).code⟩)) || (decide ((p.getD k5 Fn.z).args < 0))) || (decide ((p.getD k5 Fn.z).args > 4))) || (((k5 : Int) == 0) && ((p.getD k5 Fn.z).args != 0))))]) (fun hj_ => ?_) ?_
    · refine sg 3 [1, 3, 20] [(1, .pointer (some ⟨b1, 0, none⟩)), (3, .int .i64 (k5 : Int)), (20, .bool (!(fnMay ⟨0, (p.getD k5 Fn.z).code⟩)))] ?_
      rcases bdi (fnMay ⟨0, (p.getD k5 Fn.z).code⟩ : Bool) with h22 | h22
      · rw [h22]
        refine sg 30 [1, 3, 50] [(1, .pointer (some ⟨b1, 0, none⟩)), (3, .int .i64 (k5 : Int)), (50, .bool true)] ?_
        refine to_end rfl ?_
        rw [show ((((!(fnMay ⟨0, (p.getD k5 Fn.z).code⟩)) || (decide ((p.getD k5 Fn.z).args < 0))) || (decide ((p.getD k5 Fn.z).args > 4))) || (((k5 : Int) == 0) && ((p.getD k5 Fn.z).args != 0)) : Bool) = true from by (simp only [h22, Bool.true_or, Bool.false_or, Bool.or_true, Bool.or_false, Bool.true_and, Bool.false_and, Bool.and_true, Bool.and_false, Bool.not_true, Bool.not_false, cond_true, cond_false, if_true, reduceIte]) <;> rfl] at hj_
        exact hj_.sub (Sub.cons rfl (Sub.cons rfl (Sub.cons rfl (Sub.nil _))))
      · rw [h22]
        refine sg 1 [1, 3, 20, 21] [(1, .pointer (some ⟨b1, 0, none⟩)), (3, .int .i64 (k5 : Int)), (20, .bool false), (21, .pointer (some ⟨b1, 0, none⟩))] ?_
        refine ld M20 0 22 (.slice (some ad11) p.length c) ?_
        refine sg 1 [1, 3, 20, 22, 23] [(1, .pointer (some ⟨b1, 0, none⟩)), (3, .int .i64 (k5 : Int)), (20, .bool false), (22, .slice (some ad11) p.length c), (23, .int .i64 (k5 : Int))] ?_
        refine ix (ad := ad11) (n := p.length) (c := c) 24 k5 2 (by omega) Try.underlying43 ?_
        refine sg 1 [1, 3, 20, 25] [(1, .pointer (some ⟨b1, 0, none⟩)), (3, .int .i64 (k5 : Int)), (20, .bool false), (25, .pointer (some (ad11.add (k5 * 2))))] ?_
        refine le 26 (.int .i64 (p.getD k5 Fn.z).args) (cell_up M20 (hc13 0 _ rfl)) ?_
        refine sg 3 [1, 3, 29] [(1, .pointer (some ⟨b1, 0, none⟩)), (3, .int .i64 (k5 : Int)), (29, .bool (decide ((p.getD k5 Fn.z).args < 0)))] ?_
        rcases bdi (decide ((p.getD k5 Fn.z).args < 0) : Bool) with h23 | h23
        · have h23p := of_decide_eq_false h23
          rw [h23]
          refine sg 1 [1, 3, 29, 30] [(1, .pointer (some ⟨b1, 0, none⟩)), (3, .int .i64 (k5 : Int)), (29, .bool false), (30, .pointer (some ⟨b1, 0, none⟩))] ?_
          refine ld M20 0 31 (.slice (some ad11) p.length c) ?_
          refine sg 1 [1, 3, 29, 31, 32] [(1, .pointer (some ⟨b1, 0, none⟩)), (3, .int .i64 (k5 : Int)), (29, .bool false), (31, .slice (some ad11) p.length c), (32, .int .i64 (k5 : Int))] ?_
          refine ix (ad := ad11) (n := p.length) (c := c) 33 k5 2 (by omega) Try.underlying43 ?_
          refine sg 1 [1, 3, 29, 34] [(1, .pointer (some ⟨b1, 0, none⟩)), (3, .int .i64 (k5 : Int)), (29, .bool false), (34, .pointer (some (ad11.add (k5 * 2))))] ?_
          refine le 35 (.int .i64 (p.getD k5 Fn.z).args) (cell_up M20 (hc13 0 _ rfl)) ?_
          refine sg 3 [1, 3, 38] [(1, .pointer (some ⟨b1, 0, none⟩)), (3, .int .i64 (k5 : Int)), (38, .bool (decide ((p.getD k5 Fn.z).args > 4)))] ?_
          rcases bdi (decide ((p.getD k5 Fn.z).args > 4) : Bool) with h24 | h24
          · have h24p := of_decide_eq_false h24
            rw [h24]
            refine sg 3 [1, 3, 38, 41] [(1, .pointer (some ⟨b1, 0, none⟩)), (3, .int .i64 (k5 : Int)), (38, .bool false), (41, .bool ((k5 : Int) == 0))] ?_
            rcases bdi ((k5 : Int) == 0 : Bool) with h25 | h25
            · have h25p := beq_eq_false_iff_ne.1 h25
              rw [h25]
              refine sg 9 [1, 3, 50] [(1, .pointer (some ⟨b1, 0, none⟩)), (3, .int .i64 (k5 : Int)), (50, .bool false)] ?_
              refine to_end rfl ?_
              rw [show ((((!(fnMay ⟨0, (p.getD k5 Fn.z).code⟩)) || (decide ((p.getD k5 Fn.z).args < 0))) || (decide ((p.getD k5 Fn.z).args > 4))) || (((k5 : Int) == 0) && ((p.getD k5 Fn.z).args != 0)) : Bool) = false from by (simp only [h22, h23, h24, h25, Bool.true_or, Bool.false_or, Bool.or_true, Bool.or_false, Bool.true_and, Bool.false_and, Bool.and_true, Bool.and_false, Bool.not_true, Bool.not_false, cond_true, cond_false, if_true, reduceIte]) <;> rfl] at hj_
              exact hj_.sub (Sub.cons rfl (Sub.cons rfl (Sub.cons rfl (Sub.nil _))))
            · have h25p := beq_iff_eq.1 h25
              rw [h25]
              refine sg 1 [1, 3, 38, 41, 42] [(1, .pointer (some ⟨b1, 0, none⟩)), (3, .int .i64 (k5 : Int)), (38, .bool false), (41, .bool true), (42, .pointer (some ⟨b1, 0, none⟩))] ?_
              refine ld M20 0 43 (.slice (some ad11) p.length c) ?_
              refine sg 1 [1, 3, 38, 41, 43, 44] [(1, .pointer (some ⟨b1, 0, none⟩)), (3, .int .i64 (k5 : Int)), (38, .bool false), (41, .bool true), (43, .slice (some ad11) p.length c), (44, .int .i64 (k5 : Int))] ?_
              refine ix (ad := ad11) (n := p.length) (c := c) 45 k5 2 (by omega) Try.underlying43 ?_
              refine sg 1 [1, 3, 38, 41, 46] [(1, .pointer (some ⟨b1, 0, none⟩)), (3, .int .i64 (k5 : Int)), (38, .bool false), (41, .bool true), (46, .pointer (some (ad11.add (k5 * 2))))] ?_
              refine le 47 (.int .i64 (p.getD k5 Fn.z).args) (cell_up M20 (hc13 0 _ rfl)) ?_
              refine sg 3 [1, 3, 50] [(1, .pointer (some ⟨b1, 0, none⟩)), (3, .int .i64 (k5 : Int)), (50, .bool ((p.getD k5 Fn.z).args != 0))] ?_
              refine to_end rfl ?_
              rw [show ((((!(fnMay ⟨0, (p.getD k5 Fn.z).code⟩)) || (decide ((p.getD k5 Fn.z).args < 0))) || (decide ((p.getD k5 Fn.z).args > 4))) || (((k5 : Int) == 0) && ((p.getD k5 Fn.z).args != 0)) : Bool) = ((p.getD k5 Fn.z).args != 0) from by (simp only [h22, h23, h24, h25, Bool.true_or, Bool.false_or, Bool.or_true, Bool.or_false, Bool.true_and, Bool.false_and, Bool.and_true, Bool.and_false, Bool.not_true, Bool.not_false, cond_true, cond_false, if_true, reduceIte]) <;> rfl] at hj_
              exact hj_.sub (Sub.cons rfl (Sub.cons rfl (Sub.cons rfl (Sub.nil _))))
          · have h24p := of_decide_eq_true h24
            rw [h24]
            refine sg 12 [1, 3, 50] [(1, .pointer (some ⟨b1, 0, none⟩)), (3, .int .i64 (k5 : Int)), (50, .bool true)] ?_
            refine to_end rfl ?_
            rw [show ((((!(fnMay ⟨0, (p.getD k5 Fn.z).code⟩)) || (decide ((p.getD k5 Fn.z).args < 0))) || (decide ((p.getD k5 Fn.z).args > 4))) || (((k5 : Int) == 0) && ((p.getD k5 Fn.z).args != 0)) : Bool) = true from by (simp only [h22, h23, h24, Bool.true_or, Bool.false_or, Bool.or_true, Bool.or_false, Bool.true_and, Bool.false_and, Bool.and_true, Bool.and_false, Bool.not_true, Bool.not_false, cond_true, cond_false, if_true, reduceIte]) <;> rfl] at hj_
            exact hj_.sub (Sub.cons rfl (Sub.cons rfl (Sub.cons rfl (Sub.nil _))))
        · have h23p := of_decide_eq_true h23
          rw [h23]
          refine sg 21 [1, 3, 50] [(1, .pointer (some ⟨b1, 0, none⟩)), (3, .int .i64 (k5 : Int)), (50, .bool true)] ?_
          refine to_end rfl ?_
          rw [show ((((!(fnMay ⟨0, (p.getD k5 Fn.z).code⟩)) || (decide ((p.getD k5 Fn.z).args < 0))) || (decide ((p.getD k5 Fn.z).args > 4))) || (((k5 : Int) == 0) && ((p.getD k5 Fn.z).args != 0)) : Bool) = true from by (simp only [h22, h23, Bool.true_or, Bool.false_or, Bool.or_true, Bool.or_false, Bool.true_and, Bool.false_and, Bool.and_true, Bool.and_false, Bool.not_true, Bool.not_false, cond_true, cond_false, if_true, reduceIte]) <;> rfl] at hj_
          exact hj_.sub (Sub.cons rfl (Sub.cons rfl (Sub.cons rfl (Sub.nil _))))
    refine tn_code ?_
    refine tc_cond (b := (((!(fnMay ⟨0, (p.getD k5 Fn.z).code⟩)) || (decide ((p.getD k5 Fn.z).args < 0))) || (decide ((p.getD k5 Fn.z).args > 4))) || (((k5 : Int) == 0) && ((p.getD k5 Fn.z).args != 0))) (fun _ => rfl) (fun h26 => ?_) (fun h26 => ?_)
    · have h26p := h26
      simp only [Bool.or_eq_true, Bool.and_eq_true, Bool.or_eq_false_iff, Bool.and_eq_false_iff, decide_eq_true_eq, decide_eq_false_iff_not, beq_iff_eq, bne_iff_ne, beq_eq_false_iff_ne, bne_eq_false_iff_eq, Bool.not_eq_true', Bool.not_eq_false', ne_eq] at h26p
      refine tc_seq (tc_region ?_)
      refine sg 1 [2] [(2, .bool false)] ?_
      refine to_end rfl (tn_code (tc_ret ?_))
      refine tr_tmp rfl rfl ?_
      exact ⟨congrArg Ending.returned (congrArg Value.bool (rmay_no (k := k5) (by omega) (mayE_t h26))), M20.below⟩
    · have h26p := h26
      simp only [Bool.or_eq_true, Bool.and_eq_true, Bool.or_eq_false_iff, Bool.and_eq_false_iff, decide_eq_true_eq, decide_eq_false_iff_not, beq_iff_eq, bne_iff_ne, beq_eq_false_iff_ne, bne_eq_false_iff_eq, Bool.not_eq_true', Bool.not_eq_false', ne_eq] at h26p
      refine tc_skip (tn_blk (tn_code (tc_region ?_)))
      refine sg 3 [1, 3] [(1, .pointer (some ⟨b1, 0, none⟩)), (3, .int .i64 (IntKind.wrap .i64 ((k5 : Int) + 1)))] ?_
      rw [show IntKind.wrap .i64 ((k5 : Int) + 1) = (((k5 + 1) : Nat) : Int) from wr_nat k5 1 (by omega)]
      refine to_end rfl ?_
      exact tn_back (k5 + 1) (Sub.cons rfl (Sub.cons rfl (Sub.nil _))) ⟨by omega, pmay_step hi7 (mayE_f h26), M20⟩ (by omega)
  · have h10p := of_decide_eq_false h10
    refine tc_exitK (k' := _) rfl (tn_code (tc_seq (tc_region ?_)))
    refine join (fr' := [(2, .bool ((decide ((p.length : Int) ≥ 1)) && (decide ((p.length : Int) ≤ 8))))]) (fun hj_ => ?_) ?_
    · refine sg 1 [1, 51] [(1, .pointer (some ⟨b1, 0, none⟩)), (51, .pointer (some ⟨b1, 0, none⟩))] ?_
      refine ld M9 0 52 (.slice A p.length c) ?_
      refine sg 3 [1, 55] [(1, .pointer (some ⟨b1, 0, none⟩)), (55, .bool (decide ((p.length : Int) ≥ 1)))] ?_
      rcases bdi (decide ((p.length : Int) ≥ 1) : Bool) with h27 | h27
      · have h27p := of_decide_eq_false h27
        rw [h27]
        refine sg 6 [2] [(2, .bool false)] ?_
        refine to_end rfl ?_
        rw [show ((decide ((p.length : Int) ≥ 1)) && (decide ((p.length : Int) ≤ 8)) : Bool) = false from by (simp only [h27, Bool.true_or, Bool.false_or, Bool.or_true, Bool.or_false, Bool.true_and, Bool.false_and, Bool.and_true, Bool.and_false, Bool.not_true, Bool.not_false, cond_true, cond_false, if_true, reduceIte]) <;> rfl] at hj_
        exact hj_.sub (Sub.cons rfl (Sub.nil _))
      · have h27p := of_decide_eq_true h27
        rw [h27]
        refine sg 1 [55, 56] [(55, .bool true), (56, .pointer (some ⟨b1, 0, none⟩))] ?_
        refine ld M9 0 57 (.slice A p.length c) ?_
        refine sg 4 [2] [(2, .bool (decide ((p.length : Int) ≤ 8)))] ?_
        refine to_end rfl ?_
        rw [show ((decide ((p.length : Int) ≥ 1)) && (decide ((p.length : Int) ≤ 8)) : Bool) = (decide ((p.length : Int) ≤ 8)) from by (simp only [h27, Bool.true_or, Bool.false_or, Bool.or_true, Bool.or_false, Bool.true_and, Bool.false_and, Bool.and_true, Bool.and_false, Bool.not_true, Bool.not_false, cond_true, cond_false, if_true, reduceIte]) <;> rfl] at hj_
        exact hj_.sub (Sub.cons rfl (Sub.nil _))
    refine tn_code (tc_ret ?_)
    refine tr_tmp rfl rfl ?_
    exact ⟨congrArg Ending.returned (congrArg Value.bool (rmay_yes (k := k5) (by omega) hi7)), M9.below⟩
end Go.Proofs.Ytfknhbgghpbkpaa
