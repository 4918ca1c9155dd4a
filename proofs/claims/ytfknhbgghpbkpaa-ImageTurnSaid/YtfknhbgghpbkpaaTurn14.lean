/- The law ImageTurn: its walk. -/
import Derived.Test.YtfknhbgghpbkpaaImgN
namespace Go.Proofs.Ytfknhbgghpbkpaa
open Go.RowKit Cal Go.Proofs.YtfknhbgghpbkpaaW.PrintWords
theorem door_u64 (a : Int) : 0 ≤ doorW a ∧ doorW a < 18446744073709551616 := by
  by_cases h : 0 ≤ a ∧ a ≤ 1023
  · have he : doorW a = 6192449487634432 + a * 4294967296 := congrArg Prod.fst (door_eq h.1 h.2)
    rw [he]; omega
  · have : putW ⟨1, 0, 0, 0, false, 0, 0⟩ a = (0, 1) := putW_no (by omega)
    unfold doorW; rw [this]; decide

set_option linter.unusedSimpArgs false in
theorem turnlaw_any (cap : Int) (l : List Blk) (A : Option Addr) (c : Nat) (base fn att other : Int) (w : World) (hC : kBlk.C w A l.length l) (hcl : l.length ≤ c) (ho64 : I64 other) : Calls Try.prog 11 #[.agg #[.int .i64 cap, .slice A l.length c], .int .i64 base, .int .i64 fn, .int .i64 att, .int .i64 other] w fun e w' => e = .returned (.bool true) ∧ Below w.heap.size w w' := by
  have M := Mem.refl w
  have hmx := C_max hC
  refine calls_tc (N := 164) (args := [.agg #[.int .i64 cap, .slice A l.length c], .int .i64 base, .int .i64 fn, .int .i64 att, .int .i64 other]) Try.func11 rfl rfl rfl ?_
  refine tc_seq (tc_region ?_)
  refine nw M 5 #[.int .i64 cap, .slice A l.length c] 24 fun b1 w2 M3 => ?_
  refine sg 1 [1, 2, 3, 4, 5] [(1, .int .i64 base), (2, .int .i64 fn), (3, .int .i64 att), (4, .int .i64 other), (5, .pointer (some ⟨b1, 0, none⟩))] ?_
  refine to_end rfl (tn_code (tc_seq (tc_region ?_)))
  refine cb M3 30 (awake14_any _) fun w4 hb6 M5 => ?_
  refine sg 1 [1, 2, 3, 4, 5, 11] [(1, .int .i64 base), (2, .int .i64 fn), (3, .int .i64 att), (4, .int .i64 other), (5, .pointer (some ⟨b1, 0, none⟩)), (11, .bool true)] ?_
  refine to_end rfl (tn_code (tc_seq (tc_region ?_)))
  refine la M5 0 31 #[.int .i64 cap, .slice A l.length c] (hu := Try.underlying24) ?_
  refine cb M5 32 (few13_any cap l A c _ (C_up M5 hC)) fun w7 hb9 M8 => ?_
  refine sg 1 [1, 2, 3, 4, 5, 11, 12] [(1, .int .i64 base), (2, .int .i64 fn), (3, .int .i64 att), (4, .int .i64 other), (5, .pointer (some ⟨b1, 0, none⟩)), (11, .bool true), (12, .bool (fewM l))] ?_
  refine to_end rfl (tn_code (tc_seq (tc_seq (tc_region ?_))))
  refine join (fr' := [(1, .int .i64 base), (2, .int .i64 fn), (3, .int .i64 att), (4, .int .i64 other), (5, .pointer (some ⟨b1, 0, none⟩)), (11, .bool true), (53, .bool ((((!(fewM l)) || (decide (base < 0))) || (decide (base > 2000))) || (other == (IntKind.wrap .i64 (base + fn)))))]) (fun hj_ => ?_) ?_
  · refine sg 7 [1, 2, 3, 4, 5, 11, 39] [(1, .int .i64 base), (2, .int .i64 fn), (3, .int .i64 att), (4, .int .i64 other), (5, .pointer (some ⟨b1, 0, none⟩)), (11, .bool true), (39, .bool (!(fewM l)))] ?_
    rcases bdi (fewM l : Bool) with h10 | h10
    · rw [h10]
      refine sg 14 [1, 2, 3, 4, 5, 11, 53] [(1, .int .i64 base), (2, .int .i64 fn), (3, .int .i64 att), (4, .int .i64 other), (5, .pointer (some ⟨b1, 0, none⟩)), (11, .bool true), (53, .bool true)] ?_
      refine to_end rfl ?_
      rw [show ((((!(fewM l)) || (decide (base < 0))) || (decide (base > 2000))) || (other == (IntKind.wrap .i64 (base + fn))) : Bool) = true from by (simp only [h10, Bool.true_or, Bool.false_or, Bool.or_true, Bool.or_false, Bool.true_and, Bool.false_and, Bool.and_true, Bool.and_false, Bool.not_true, Bool.not_false, cond_true, cond_false, if_true, reduceIte]) <;> rfl] at hj_
      exact hj_.sub (Sub.cons rfl (Sub.cons rfl (Sub.cons rfl (Sub.cons rfl (Sub.cons rfl (Sub.cons rfl (Sub.cons rfl (Sub.nil _))))))))
    · rw [h10]
      refine sg 4 [1, 2, 3, 4, 5, 11, 43] [(1, .int .i64 base), (2, .int .i64 fn), (3, .int .i64 att), (4, .int .i64 other), (5, .pointer (some ⟨b1, 0, none⟩)), (11, .bool true), (43, .bool (decide (base < 0)))] ?_
      rcases bdi (decide (base < 0) : Bool) with h11 | h11
      · have h11p := of_decide_eq_false h11
        rw [h11]
        refine sg 4 [1, 2, 3, 4, 5, 11, 47] [(1, .int .i64 base), (2, .int .i64 fn), (3, .int .i64 att), (4, .int .i64 other), (5, .pointer (some ⟨b1, 0, none⟩)), (11, .bool true), (47, .bool (decide (base > 2000)))] ?_
        rcases bdi (decide (base > 2000) : Bool) with h12 | h12
        · have h12p := of_decide_eq_false h12
          rw [h12]
          refine sg 6 [1, 2, 3, 4, 5, 11, 53] [(1, .int .i64 base), (2, .int .i64 fn), (3, .int .i64 att), (4, .int .i64 other), (5, .pointer (some ⟨b1, 0, none⟩)), (11, .bool true), (53, .bool (other == (IntKind.wrap .i64 (base + fn))))] ?_
          refine to_end rfl ?_
          rw [show ((((!(fewM l)) || (decide (base < 0))) || (decide (base > 2000))) || (other == (IntKind.wrap .i64 (base + fn))) : Bool) = (other == (IntKind.wrap .i64 (base + fn))) from by (simp only [h10, h11, h12, Bool.true_or, Bool.false_or, Bool.or_true, Bool.or_false, Bool.true_and, Bool.false_and, Bool.and_true, Bool.and_false, Bool.not_true, Bool.not_false, cond_true, cond_false, if_true, reduceIte]) <;> rfl] at hj_
          exact hj_.sub (Sub.cons rfl (Sub.cons rfl (Sub.cons rfl (Sub.cons rfl (Sub.cons rfl (Sub.cons rfl (Sub.cons rfl (Sub.nil _))))))))
        · have h12p := of_decide_eq_true h12
          rw [h12]
          refine sg 6 [1, 2, 3, 4, 5, 11, 53] [(1, .int .i64 base), (2, .int .i64 fn), (3, .int .i64 att), (4, .int .i64 other), (5, .pointer (some ⟨b1, 0, none⟩)), (11, .bool true), (53, .bool true)] ?_
          refine to_end rfl ?_
          rw [show ((((!(fewM l)) || (decide (base < 0))) || (decide (base > 2000))) || (other == (IntKind.wrap .i64 (base + fn))) : Bool) = true from by (simp only [h10, h11, h12, Bool.true_or, Bool.false_or, Bool.or_true, Bool.or_false, Bool.true_and, Bool.false_and, Bool.and_true, Bool.and_false, Bool.not_true, Bool.not_false, cond_true, cond_false, if_true, reduceIte]) <;> rfl] at hj_
          exact hj_.sub (Sub.cons rfl (Sub.cons rfl (Sub.cons rfl (Sub.cons rfl (Sub.cons rfl (Sub.cons rfl (Sub.cons rfl (Sub.nil _))))))))
      · have h11p := of_decide_eq_true h11
        rw [h11]
        refine sg 10 [1, 2, 3, 4, 5, 11, 53] [(1, .int .i64 base), (2, .int .i64 fn), (3, .int .i64 att), (4, .int .i64 other), (5, .pointer (some ⟨b1, 0, none⟩)), (11, .bool true), (53, .bool true)] ?_
        refine to_end rfl ?_
        rw [show ((((!(fewM l)) || (decide (base < 0))) || (decide (base > 2000))) || (other == (IntKind.wrap .i64 (base + fn))) : Bool) = true from by (simp only [h10, h11, Bool.true_or, Bool.false_or, Bool.or_true, Bool.or_false, Bool.true_and, Bool.false_and, Bool.and_true, Bool.and_false, Bool.not_true, Bool.not_false, cond_true, cond_false, if_true, reduceIte]) <;> rfl] at hj_
        exact hj_.sub (Sub.cons rfl (Sub.cons rfl (Sub.cons rfl (Sub.cons rfl (Sub.cons rfl (Sub.cons rfl (Sub.cons rfl (Sub.nil _))))))))
  refine tn_code ?_
  refine tc_cond (b := (((!(fewM l)) || (decide (base < 0))) || (decide (base > 2000))) || (other == (IntKind.wrap .i64 (base + fn)))) (fun _ => rfl) (fun h13 => ?_) (fun h13 => ?_)
  · have h13p := h13
    simp only [Bool.or_eq_true, Bool.and_eq_true, Bool.or_eq_false_iff, Bool.and_eq_false_iff, decide_eq_true_eq, decide_eq_false_iff_not, beq_iff_eq, bne_iff_ne, beq_eq_false_iff_ne, bne_eq_false_iff_eq, Bool.not_eq_true', Bool.not_eq_false', ne_eq] at h13p
    refine tc_seq (tc_region ?_)
    refine sg 2 [10] [(10, .bool true)] ?_
    refine to_end rfl (tn_code (tc_ret ?_))
    refine tr_tmp rfl rfl ?_
    exact ⟨rfl, M8.below⟩
  · have h13p := h13
    simp only [Bool.or_eq_true, Bool.and_eq_true, Bool.or_eq_false_iff, Bool.and_eq_false_iff, decide_eq_true_eq, decide_eq_false_iff_not, beq_iff_eq, bne_iff_ne, beq_eq_false_iff_ne, bne_eq_false_iff_eq, Bool.not_eq_true', Bool.not_eq_false', ne_eq] at h13p
    refine tc_skip (tn_code (tc_seq (tc_region ?_)))
    refine la M8 0 56 #[.int .i64 cap, .slice A l.length c] (hu := Try.underlying24) ?_
    refine sg 3 [1, 2, 3, 4, 5, 56, 57, 58, 59] [(1, .int .i64 base), (2, .int .i64 fn), (3, .int .i64 att), (4, .int .i64 other), (5, .pointer (some ⟨b1, 0, none⟩)), (56, .agg #[.int .i64 cap, .slice A l.length c]), (57, .int .i64 base), (58, .int .i64 fn), (59, .int .i64 att)] ?_
    have hg_ := h13p
    have hfew : fewM l = true := by first | exact hg_.1.1.1 | exact hg_.1.1.1.1 | exact hg_.1
    have hsm := few_sm hfew
    have hlm := few_len hfew
    refine ce 60 (turn_any cap l A c base fn att _ (C_up M8 hC) hcl hsm hlm (by omega)) fun e18 w19 h20 => ?_
    obtain ⟨A14, c15, rfl, hM16, hc17⟩ := h20
    have M21 := M8.join hM16
    refine ⟨_, rfl, ?_⟩
    refine sg 3 [1, 2, 3, 4, 5, 61, 62] [(1, .int .i64 base), (2, .int .i64 fn), (3, .int .i64 att), (4, .int .i64 other), (5, .pointer (some ⟨b1, 0, none⟩)), (61, .agg #[.int .i64 (turnM cap l base fn att).1.1, .slice A14 (turnM cap l base fn att).1.2.length c15]), (62, .int .i64 (turnM cap l base fn att).2)] ?_
    refine nw M21 13 #[.int .i64 0, .slice none 0 0] 24 fun b22 w23 M24 => ?_
    refine sa M24 0 #[.int .i64 (turnM cap l base fn att).1.1, .slice A14 (turnM cap l base fn att).1.2.length c15] fun w25 M26 => ?_
    refine sg 1 [1, 2, 3, 4, 5, 13, 14] [(1, .int .i64 base), (2, .int .i64 fn), (3, .int .i64 att), (4, .int .i64 other), (5, .pointer (some ⟨b1, 0, none⟩)), (13, .pointer (some ⟨b22, 0, none⟩)), (14, .int .i64 (turnM cap l base fn att).2)] ?_
    refine to_end rfl (tn_code (tc_seq (tc_region ?_)))
    refine la M26 2 64 #[.int .i64 cap, .slice A l.length c] (hu := Try.underlying24) ?_
    refine sg 3 [1, 2, 3, 4, 5, 13, 14, 64, 67] [(1, .int .i64 base), (2, .int .i64 fn), (3, .int .i64 att), (4, .int .i64 other), (5, .pointer (some ⟨b1, 0, none⟩)), (13, .pointer (some ⟨b22, 0, none⟩)), (14, .int .i64 (turnM cap l base fn att).2), (64, .agg #[.int .i64 cap, .slice A l.length c]), (67, .int .i64 (IntKind.wrap .i64 (base + fn)))] ?_
    refine cb M26 68 (fetch_any cap l A c (IntKind.wrap .i64 (base + fn)) _ (C_up M26 hC) hsm (wrap_I64 _)) fun w27 hb29 M28 => ?_
    refine sg 7 [1, 2, 3, 4, 5, 13, 14, 16, 17] [(1, .int .i64 base), (2, .int .i64 fn), (3, .int .i64 att), (4, .int .i64 other), (5, .pointer (some ⟨b1, 0, none⟩)), (13, .pointer (some ⟨b22, 0, none⟩)), (14, .int .i64 (turnM cap l base fn att).2), (16, .int .i64 (fetchM cap l (IntKind.wrap .i64 (base + fn))).2.1), (17, .bool (fetchM cap l (IntKind.wrap .i64 (base + fn))).2.2)] ?_
    refine to_end rfl (tn_code (tc_seq (tc_seq (tc_region ?_))))
    refine sg 2 [1, 2, 3, 4, 5, 13, 16, 17, 73] [(1, .int .i64 base), (2, .int .i64 fn), (3, .int .i64 att), (4, .int .i64 other), (5, .pointer (some ⟨b1, 0, none⟩)), (13, .pointer (some ⟨b22, 0, none⟩)), (16, .int .i64 (fetchM cap l (IntKind.wrap .i64 (base + fn))).2.1), (17, .bool (fetchM cap l (IntKind.wrap .i64 (base + fn))).2.2), (73, .bool ((turnM cap l base fn att).2 != 0))] ?_
    refine to_end rfl (tn_code ?_)
    refine tc_cond (b := (turnM cap l base fn att).2 != 0) (fun _ => rfl) (fun h30 => ?_) (fun h30 => ?_)
    · have h30p := bne_iff_ne.1 h30
      refine tc_seq (tc_region ?_)
      refine join (fr' := [(10, .bool (((((!(fetchM cap l (IntKind.wrap .i64 (base + fn))).2.2) || (decide (fn < 0))) || (decide (fn > 7))) || (decide (att < 0))) || (decide (att > 1023))))]) (fun hj_ => ?_) ?_
      · refine sg 3 [2, 3, 76] [(2, .int .i64 fn), (3, .int .i64 att), (76, .bool (!(fetchM cap l (IntKind.wrap .i64 (base + fn))).2.2))] ?_
        rcases bdi ((fetchM cap l (IntKind.wrap .i64 (base + fn))).2.2 : Bool) with h31 | h31
        · rw [h31]
          refine sg 16 [10] [(10, .bool true)] ?_
          refine to_end rfl ?_
          rw [show (((((!(fetchM cap l (IntKind.wrap .i64 (base + fn))).2.2) || (decide (fn < 0))) || (decide (fn > 7))) || (decide (att < 0))) || (decide (att > 1023)) : Bool) = true from by (simp only [h31, Bool.true_or, Bool.false_or, Bool.or_true, Bool.or_false, Bool.true_and, Bool.false_and, Bool.and_true, Bool.and_false, Bool.not_true, Bool.not_false, cond_true, cond_false, if_true, reduceIte]) <;> rfl] at hj_
          exact hj_.sub (Sub.cons rfl (Sub.nil _))
        · rw [h31]
          refine sg 4 [2, 3, 80] [(2, .int .i64 fn), (3, .int .i64 att), (80, .bool (decide (fn < 0)))] ?_
          rcases bdi (decide (fn < 0) : Bool) with h32 | h32
          · have h32p := of_decide_eq_false h32
            rw [h32]
            refine sg 4 [3, 84] [(3, .int .i64 att), (84, .bool (decide (fn > 7)))] ?_
            rcases bdi (decide (fn > 7) : Bool) with h33 | h33
            · have h33p := of_decide_eq_false h33
              rw [h33]
              refine sg 4 [3, 88] [(3, .int .i64 att), (88, .bool (decide (att < 0)))] ?_
              rcases bdi (decide (att < 0) : Bool) with h34 | h34
              · have h34p := of_decide_eq_false h34
                rw [h34]
                refine sg 4 [10] [(10, .bool (decide (att > 1023)))] ?_
                refine to_end rfl ?_
                rw [show (((((!(fetchM cap l (IntKind.wrap .i64 (base + fn))).2.2) || (decide (fn < 0))) || (decide (fn > 7))) || (decide (att < 0))) || (decide (att > 1023)) : Bool) = (decide (att > 1023)) from by (simp only [h31, h32, h33, h34, Bool.true_or, Bool.false_or, Bool.or_true, Bool.or_false, Bool.true_and, Bool.false_and, Bool.and_true, Bool.and_false, Bool.not_true, Bool.not_false, cond_true, cond_false, if_true, reduceIte]) <;> rfl] at hj_
                exact hj_.sub (Sub.cons rfl (Sub.nil _))
              · have h34p := of_decide_eq_true h34
                rw [h34]
                refine sg 4 [10] [(10, .bool true)] ?_
                refine to_end rfl ?_
                rw [show (((((!(fetchM cap l (IntKind.wrap .i64 (base + fn))).2.2) || (decide (fn < 0))) || (decide (fn > 7))) || (decide (att < 0))) || (decide (att > 1023)) : Bool) = true from by (simp only [h31, h32, h33, h34, Bool.true_or, Bool.false_or, Bool.or_true, Bool.or_false, Bool.true_and, Bool.false_and, Bool.and_true, Bool.and_false, Bool.not_true, Bool.not_false, cond_true, cond_false, if_true, reduceIte]) <;> rfl] at hj_
                exact hj_.sub (Sub.cons rfl (Sub.nil _))
            · have h33p := of_decide_eq_true h33
              rw [h33]
              refine sg 8 [10] [(10, .bool true)] ?_
              refine to_end rfl ?_
              rw [show (((((!(fetchM cap l (IntKind.wrap .i64 (base + fn))).2.2) || (decide (fn < 0))) || (decide (fn > 7))) || (decide (att < 0))) || (decide (att > 1023)) : Bool) = true from by (simp only [h31, h32, h33, Bool.true_or, Bool.false_or, Bool.or_true, Bool.or_false, Bool.true_and, Bool.false_and, Bool.and_true, Bool.and_false, Bool.not_true, Bool.not_false, cond_true, cond_false, if_true, reduceIte]) <;> rfl] at hj_
              exact hj_.sub (Sub.cons rfl (Sub.nil _))
          · have h32p := of_decide_eq_true h32
            rw [h32]
            refine sg 12 [10] [(10, .bool true)] ?_
            refine to_end rfl ?_
            rw [show (((((!(fetchM cap l (IntKind.wrap .i64 (base + fn))).2.2) || (decide (fn < 0))) || (decide (fn > 7))) || (decide (att < 0))) || (decide (att > 1023)) : Bool) = true from by (simp only [h31, h32, Bool.true_or, Bool.false_or, Bool.or_true, Bool.or_false, Bool.true_and, Bool.false_and, Bool.and_true, Bool.and_false, Bool.not_true, Bool.not_false, cond_true, cond_false, if_true, reduceIte]) <;> rfl] at hj_
            exact hj_.sub (Sub.cons rfl (Sub.nil _))
      refine tn_code (tc_ret ?_)
      refine tr_tmp rfl rfl ?_
      -- V ((((!(fetchM cap l (IntKind.wrap .i64 (base + fn))).2.2) || (decide (fn < 0))) || (decide (fn > 7))) || (decide (att < 0))) || (decide (att > 1023))
      -- (((!(fewM l)) || (decide (base < 0))) || (decide (base > 2000))) || (other == (IntKind.wrap .i64 (base + fn))) ('false', 'h13')
      -- (turnM cap l base fn att).2 != 0 ('true', 'h30')
      exact ⟨congrArg Ending.returned (congrArg Value.bool (by have h_ := turn_err (bne_iff_ne.1 h30); by_cases hfn : fn < 0 ∨ fn > 7; (rcases hfn with h1_ | h1_ <;> simp [h1_]); have hwr : IntKind.wrap .i64 (base + fn) = base + fn := wr_i64 (by omega) (by omega); rw [hwr]; rcases h_ with h_ | h_ | h_ | h_ | h_ <;> simp [h_])), M28.below⟩
    · have h30p := bne_eq_false_iff_eq.1 h30
      refine tc_skip (tn_code (tc_seq (tc_region ?_)))
      refine la M28 0 93 #[.int .i64 (turnM cap l base fn att).1.1, .slice A14 (turnM cap l base fn att).1.2.length c15] (hu := Try.underlying24) ?_
      refine sg 3 [3, 4, 5, 13, 16, 17, 93, 96] [(3, .int .i64 att), (4, .int .i64 other), (5, .pointer (some ⟨b1, 0, none⟩)), (13, .pointer (some ⟨b22, 0, none⟩)), (16, .int .i64 (fetchM cap l (IntKind.wrap .i64 (base + fn))).2.1), (17, .bool (fetchM cap l (IntKind.wrap .i64 (base + fn))).2.2), (93, .agg #[.int .i64 (turnM cap l base fn att).1.1, .slice A14 (turnM cap l base fn att).1.2.length c15]), (96, .int .i64 (IntKind.wrap .i64 (base + fn)))] ?_
      obtain ⟨hr1, hr2, hr3, hr4⟩ := turn_ok (bne_eq_false_iff_eq.1 h30)
      have hwr : IntKind.wrap .i64 (base + fn) = base + fn := wr_i64 (by omega) (by omega)
      have hsf := fetch_any (turnM cap l base fn att).1.1 (turnM cap l base fn att).1.2 A14 c15 (IntKind.wrap .i64 (base + fn)) w27 (M28.rd_C 1 rfl) (turn_sm hsm) (wrap_I64 _)
      rw [show fetchM (turnM cap l base fn att).1.1 (turnM cap l base fn att).1.2 (IntKind.wrap .i64 (base + fn)) = (doorW att, (fetchM cap l (base + fn)).2.1, true) from (by rw [hwr]; exact hr3)] at hsf
      dsimp only at hsf
      refine cb M28 97 hsf fun w35 hb37 M36 => ?_
      refine sg 7 [3, 4, 5, 13, 16, 17, 18, 19, 20] [(3, .int .i64 att), (4, .int .i64 other), (5, .pointer (some ⟨b1, 0, none⟩)), (13, .pointer (some ⟨b22, 0, none⟩)), (16, .int .i64 (fetchM cap l (IntKind.wrap .i64 (base + fn))).2.1), (17, .bool (fetchM cap l (IntKind.wrap .i64 (base + fn))).2.2), (18, .int .u64 (doorW att)), (19, .int .i64 (fetchM cap l (base + fn)).2.1), (20, .bool true)] ?_
      refine to_end rfl (tn_code (tc_seq (tc_region ?_)))
      refine sg 1 [3, 4, 5, 13, 16, 17, 19, 20, 102] [(3, .int .i64 att), (4, .int .i64 other), (5, .pointer (some ⟨b1, 0, none⟩)), (13, .pointer (some ⟨b22, 0, none⟩)), (16, .int .i64 (fetchM cap l (IntKind.wrap .i64 (base + fn))).2.1), (17, .bool (fetchM cap l (IntKind.wrap .i64 (base + fn))).2.2), (19, .int .i64 (fetchM cap l (base + fn)).2.1), (20, .bool true), (102, .int .u64 (doorW att))] ?_
      refine cb M36 103 (by have h_ := wget_any (doorW att) w35 (door_u64 att); rw [get_door (by omega) (by omega)] at h_; exact h_) fun w38 hb40 M39 => ?_
      refine sg 4 [3, 4, 5, 13, 16, 17, 19, 20, 104, 105, 106] [(3, .int .i64 att), (4, .int .i64 other), (5, .pointer (some ⟨b1, 0, none⟩)), (13, .pointer (some ⟨b22, 0, none⟩)), (16, .int .i64 (fetchM cap l (IntKind.wrap .i64 (base + fn))).2.1), (17, .bool (fetchM cap l (IntKind.wrap .i64 (base + fn))).2.2), (19, .int .i64 (fetchM cap l (base + fn)).2.1), (20, .bool true), (104, .agg #[.int .i64 1, .int .i64 0, .int .i64 0, .int .i64 0, .bool false, .int .i64 0, .int .u32 0]), (105, .int .i64 att), (106, .int .i64 0)] ?_
      refine nw M39 21 #[.int .i64 0, .int .i64 0, .int .i64 0, .int .i64 0, .bool false, .int .i64 0, .int .u32 0] 65 fun b41 w42 M43 => ?_
      refine sa M43 0 #[.int .i64 1, .int .i64 0, .int .i64 0, .int .i64 0, .bool false, .int .i64 0, .int .u32 0] fun w44 M45 => ?_
      refine sg 2 [3, 4, 5, 13, 16, 17, 19, 20, 21, 22, 23] [(3, .int .i64 att), (4, .int .i64 other), (5, .pointer (some ⟨b1, 0, none⟩)), (13, .pointer (some ⟨b22, 0, none⟩)), (16, .int .i64 (fetchM cap l (IntKind.wrap .i64 (base + fn))).2.1), (17, .bool (fetchM cap l (IntKind.wrap .i64 (base + fn))).2.2), (19, .int .i64 (fetchM cap l (base + fn)).2.1), (20, .bool true), (21, .pointer (some ⟨b41, 0, none⟩)), (22, .int .i64 att), (23, .int .i64 0)] ?_
      refine to_end rfl (tn_code (tc_seq (tc_region ?_)))
      refine la M45 3 108 #[.int .i64 cap, .slice A l.length c] (hu := Try.underlying24) ?_
      refine sg 1 [3, 4, 13, 16, 17, 19, 20, 21, 22, 23, 108, 109] [(3, .int .i64 att), (4, .int .i64 other), (13, .pointer (some ⟨b22, 0, none⟩)), (16, .int .i64 (fetchM cap l (IntKind.wrap .i64 (base + fn))).2.1), (17, .bool (fetchM cap l (IntKind.wrap .i64 (base + fn))).2.2), (19, .int .i64 (fetchM cap l (base + fn)).2.1), (20, .bool true), (21, .pointer (some ⟨b41, 0, none⟩)), (22, .int .i64 att), (23, .int .i64 0), (108, .agg #[.int .i64 cap, .slice A l.length c]), (109, .int .i64 other)] ?_
      refine cb M45 110 (fetch_any cap l A c other _ (C_up M45 hC) hsm ho64) fun w46 hb48 M47 => ?_
      refine sg 7 [3, 4, 13, 16, 17, 19, 20, 21, 22, 23, 24, 25, 26] [(3, .int .i64 att), (4, .int .i64 other), (13, .pointer (some ⟨b22, 0, none⟩)), (16, .int .i64 (fetchM cap l (IntKind.wrap .i64 (base + fn))).2.1), (17, .bool (fetchM cap l (IntKind.wrap .i64 (base + fn))).2.2), (19, .int .i64 (fetchM cap l (base + fn)).2.1), (20, .bool true), (21, .pointer (some ⟨b41, 0, none⟩)), (22, .int .i64 att), (23, .int .i64 0), (24, .int .u64 (fetchM cap l (other)).1), (25, .int .i64 (fetchM cap l (other)).2.1), (26, .bool (fetchM cap l (other)).2.2)] ?_
      refine to_end rfl (tn_code (tc_seq (tc_region ?_)))
      refine la M47 1 115 #[.int .i64 (turnM cap l base fn att).1.1, .slice A14 (turnM cap l base fn att).1.2.length c15] (hu := Try.underlying24) ?_
      refine sg 1 [3, 16, 17, 19, 20, 21, 22, 23, 24, 25, 26, 115, 116] [(3, .int .i64 att), (16, .int .i64 (fetchM cap l (IntKind.wrap .i64 (base + fn))).2.1), (17, .bool (fetchM cap l (IntKind.wrap .i64 (base + fn))).2.2), (19, .int .i64 (fetchM cap l (base + fn)).2.1), (20, .bool true), (21, .pointer (some ⟨b41, 0, none⟩)), (22, .int .i64 att), (23, .int .i64 0), (24, .int .u64 (fetchM cap l (other)).1), (25, .int .i64 (fetchM cap l (other)).2.1), (26, .bool (fetchM cap l (other)).2.2), (115, .agg #[.int .i64 (turnM cap l base fn att).1.1, .slice A14 (turnM cap l base fn att).1.2.length c15]), (116, .int .i64 other)] ?_
      refine cb M47 117 (by have h_ := fetch_any (turnM cap l base fn att).1.1 (turnM cap l base fn att).1.2 A14 c15 other w46 (M47.rd_C 2 rfl) (turn_sm hsm) ho64; rw [hr4 other (by have h3_ := hg_; omega)] at h_; exact h_) fun w49 hb51 M50 => ?_
      refine sg 7 [3, 16, 17, 19, 20, 21, 22, 23, 24, 25, 26, 27, 28, 29] [(3, .int .i64 att), (16, .int .i64 (fetchM cap l (IntKind.wrap .i64 (base + fn))).2.1), (17, .bool (fetchM cap l (IntKind.wrap .i64 (base + fn))).2.2), (19, .int .i64 (fetchM cap l (base + fn)).2.1), (20, .bool true), (21, .pointer (some ⟨b41, 0, none⟩)), (22, .int .i64 att), (23, .int .i64 0), (24, .int .u64 (fetchM cap l (other)).1), (25, .int .i64 (fetchM cap l (other)).2.1), (26, .bool (fetchM cap l (other)).2.2), (27, .int .u64 (fetchM cap l (other)).1), (28, .int .i64 (fetchM cap l (other)).2.1), (29, .bool (fetchM cap l (other)).2.2)] ?_
      refine to_end rfl (tn_code (tc_seq (tc_region ?_)))
      refine sg 2 [3, 16, 19, 20, 21, 22, 23, 24, 25, 26, 27, 28, 29, 122] [(3, .int .i64 att), (16, .int .i64 (fetchM cap l (IntKind.wrap .i64 (base + fn))).2.1), (19, .int .i64 (fetchM cap l (base + fn)).2.1), (20, .bool true), (21, .pointer (some ⟨b41, 0, none⟩)), (22, .int .i64 att), (23, .int .i64 0), (24, .int .u64 (fetchM cap l (other)).1), (25, .int .i64 (fetchM cap l (other)).2.1), (26, .bool (fetchM cap l (other)).2.2), (27, .int .u64 (fetchM cap l (other)).1), (28, .int .i64 (fetchM cap l (other)).2.1), (29, .bool (fetchM cap l (other)).2.2), (122, .bool (fetchM cap l (IntKind.wrap .i64 (base + fn))).2.2)] ?_
      have ht52 : ((fetchM cap l (IntKind.wrap .i64 (base + fn))).2.2 : Bool) = true := by rw [hwr]; exact hr2
      rw [ht52]
      refine sg 8 [3, 21, 22, 23, 24, 25, 26, 27, 28, 29, 130] [(3, .int .i64 att), (21, .pointer (some ⟨b41, 0, none⟩)), (22, .int .i64 att), (23, .int .i64 0), (24, .int .u64 (fetchM cap l (other)).1), (25, .int .i64 (fetchM cap l (other)).2.1), (26, .bool (fetchM cap l (other)).2.2), (27, .int .u64 (fetchM cap l (other)).1), (28, .int .i64 (fetchM cap l (other)).2.1), (29, .bool (fetchM cap l (other)).2.2), (130, .bool ((fetchM cap l (base + fn)).2.1 == (fetchM cap l (IntKind.wrap .i64 (base + fn))).2.1))] ?_
      have ht53 : ((fetchM cap l (base + fn)).2.1 == (fetchM cap l (IntKind.wrap .i64 (base + fn))).2.1 : Bool) = true := by rw [hwr]; exact beq_self_eq_true _
      have ht53p := beq_iff_eq.1 ht53
      rw [ht53]
      refine sg 5 [3, 21, 22, 24, 25, 26, 27, 28, 29, 134, 135] [(3, .int .i64 att), (21, .pointer (some ⟨b41, 0, none⟩)), (22, .int .i64 att), (24, .int .u64 (fetchM cap l (other)).1), (25, .int .i64 (fetchM cap l (other)).2.1), (26, .bool (fetchM cap l (other)).2.2), (27, .int .u64 (fetchM cap l (other)).1), (28, .int .i64 (fetchM cap l (other)).2.1), (29, .bool (fetchM cap l (other)).2.2), (134, .bool true), (135, .pointer (some ⟨b41, 0, none⟩))] ?_
      refine ld M50 0 136 (.int .i64 1) ?_
      refine sg 4 [3, 22, 24, 25, 26, 27, 28, 29, 139, 140] [(3, .int .i64 att), (22, .int .i64 att), (24, .int .u64 (fetchM cap l (other)).1), (25, .int .i64 (fetchM cap l (other)).2.1), (26, .bool (fetchM cap l (other)).2.2), (27, .int .u64 (fetchM cap l (other)).1), (28, .int .i64 (fetchM cap l (other)).2.1), (29, .bool (fetchM cap l (other)).2.2), (139, .bool true), (140, .pointer (some ⟨b41, 1, none⟩))] ?_
      refine ld M50 0 141 (.int .i64 0) ?_
      refine sg 8 [24, 25, 26, 27, 28, 29, 149] [(24, .int .u64 (fetchM cap l (other)).1), (25, .int .i64 (fetchM cap l (other)).2.1), (26, .bool (fetchM cap l (other)).2.2), (27, .int .u64 (fetchM cap l (other)).1), (28, .int .i64 (fetchM cap l (other)).2.1), (29, .bool (fetchM cap l (other)).2.2), (149, .bool (att == att))] ?_
      have ht54 : (att == att : Bool) = true := beq_self_eq_true _
      have ht54p := beq_iff_eq.1 ht54
      rw [ht54]
      refine sg 5 [25, 26, 28, 29, 154] [(25, .int .i64 (fetchM cap l (other)).2.1), (26, .bool (fetchM cap l (other)).2.2), (28, .int .i64 (fetchM cap l (other)).2.1), (29, .bool (fetchM cap l (other)).2.2), (154, .bool ((fetchM cap l (other)).1 == (fetchM cap l (other)).1))] ?_
      have ht55 : ((fetchM cap l (other)).1 == (fetchM cap l (other)).1 : Bool) = true := beq_self_eq_true _
      have ht55p := beq_iff_eq.1 ht55
      rw [ht55]
      refine sg 5 [26, 29, 159] [(26, .bool (fetchM cap l (other)).2.2), (29, .bool (fetchM cap l (other)).2.2), (159, .bool ((fetchM cap l (other)).2.1 == (fetchM cap l (other)).2.1))] ?_
      have ht56 : ((fetchM cap l (other)).2.1 == (fetchM cap l (other)).2.1 : Bool) = true := beq_self_eq_true _
      have ht56p := beq_iff_eq.1 ht56
      rw [ht56]
      refine sg 5 [10] [(10, .bool ((fetchM cap l (other)).2.2 == (fetchM cap l (other)).2.2))] ?_
      refine to_end rfl (tn_code (tc_ret ?_))
      refine tr_tmp rfl rfl ?_
      have ht57 : ((fetchM cap l (other)).2.2 == (fetchM cap l (other)).2.2 : Bool) = true := beq_self_eq_true _
      have ht57p := beq_iff_eq.1 ht57
      exact ⟨congrArg Ending.returned (congrArg Value.bool (by first | exact ht57 | (rw [ht57]; rfl))), M50.below⟩
end Go.Proofs.Ytfknhbgghpbkpaa
