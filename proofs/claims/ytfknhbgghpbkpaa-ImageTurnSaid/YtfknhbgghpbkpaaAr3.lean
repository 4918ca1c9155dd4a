/- Layer 13: what is found, and left; what may be. -/
import Derived.Test.YtfknhbgghpbkpaaAr2
namespace Go.Proofs.Ytfknhbgghpbkpaa
open Go.RowKit Cal Go.Proofs.YtfknhbgghpbkpaaW.PrintWords
set_option linter.unusedSimpArgs false in
theorem rfindg_any (cap : Int) (l : List Blk) (A : Option Addr) (c : Nat) (n : Int) (w : World) (hC : kBlk.C w A l.length l) (hsm : ∀ j, (l.getD j Blk.z).w.length ≤ 1000000) (hcp : cap ≤ 9223372036854775807) : Calls Try.prog 28 #[.agg #[.int .i64 cap, .slice A l.length c], .int .i64 n] w fun e w' => e = .returned (.tuple #[.int .i64 (rFindM cap l n).1, .bool (rFindM cap l n).2]) ∧ Below w.heap.size w w' := by
  have M := Mem.refl w
  have hmx := C_max hC
  refine calls_tc (N := 28) (args := [.agg #[.int .i64 cap, .slice A l.length c], .int .i64 n]) Try.func28 rfl rfl rfl ?_
  refine tc_seq (tc_region ?_)
  refine nw M 2 #[.int .i64 cap, .slice A l.length c] 24 fun b1 w2 M3 => ?_
  refine sg 2 [1, 2] [(1, .int .i64 n), (2, .pointer (some ⟨b1, 0, none⟩))] ?_
  refine to_end rfl (tn_code (tc_seq (tc_region ?_)))
  refine la M3 0 8 #[.int .i64 cap, .slice A l.length c] (hu := Try.underlying24) ?_
  refine cb M3 9 (rmay13_any cap l A c _ (C_up M3 hC) hsm) fun w4 hb6 M5 => ?_
  refine sg 1 [1, 2, 6] [(1, .int .i64 n), (2, .pointer (some ⟨b1, 0, none⟩)), (6, .bool (mMay cap l))] ?_
  refine to_end rfl (tn_code (tc_seq (tc_seq (tc_region ?_))))
  refine sg 1 [1, 2, 6, 7] [(1, .int .i64 n), (2, .pointer (some ⟨b1, 0, none⟩)), (6, .bool (mMay cap l)), (7, .int .i64 0)] ?_
  refine to_end rfl (tn_code (tc_block ?_))
  refine tc_loop (σ := Nat) (fun k8 => [(1, .int .i64 n), (2, .pointer (some ⟨b1, 0, none⟩)), (6, .bool (mMay cap l)), (7, .int .i64 (k8 : Int))]) (fun k8 w' => k8 ≤ cap.toNat ∧ (∀ j, j < k8 → freeM cap l (j : Int) n = false) ∧ Mem w w' [blk b1 #[.int .i64 cap, .slice A l.length c] 24]) (fun k8 => cap.toNat - k8) 0 (Sub.cons rfl (Sub.cons rfl (Sub.cons rfl (Sub.cons rfl (Sub.nil _))))) ⟨Nat.zero_le _, fun j hj => absurd hj (Nat.not_lt_zero _), M5⟩ ?_
  rintro k8 w11 ⟨hk9, hi10, M12⟩
  refine tc_seq (tc_seq (tc_region ?_))
  refine join (fr' := [(1, .int .i64 n), (2, .pointer (some ⟨b1, 0, none⟩)), (6, .bool (mMay cap l)), (7, .int .i64 (k8 : Int)), (20, .bool (((decide ((k8 : Int) < cap)) && (mMay cap l)) && (decide (n ≥ 1))))]) (fun hj_ => ?_) ?_
  · refine sg 2 [1, 2, 6, 7, 10, 11] [(1, .int .i64 n), (2, .pointer (some ⟨b1, 0, none⟩)), (6, .bool (mMay cap l)), (7, .int .i64 (k8 : Int)), (10, .int .i64 (k8 : Int)), (11, .pointer (some ⟨b1, 0, none⟩))] ?_
    refine ld M12 0 12 (.int .i64 cap) ?_
    refine sg 2 [1, 2, 6, 7, 14] [(1, .int .i64 n), (2, .pointer (some ⟨b1, 0, none⟩)), (6, .bool (mMay cap l)), (7, .int .i64 (k8 : Int)), (14, .bool (decide ((k8 : Int) < cap)))] ?_
    rcases bdi (decide ((k8 : Int) < cap) : Bool) with h13 | h13
    · have h13p := of_decide_eq_false h13
      rw [h13]
      refine sg 6 [1, 2, 6, 7, 20] [(1, .int .i64 n), (2, .pointer (some ⟨b1, 0, none⟩)), (6, .bool (mMay cap l)), (7, .int .i64 (k8 : Int)), (20, .bool false)] ?_
      refine to_end rfl ?_
      rw [show (((decide ((k8 : Int) < cap)) && (mMay cap l)) && (decide (n ≥ 1)) : Bool) = false from by (simp only [h13, Bool.true_or, Bool.false_or, Bool.or_true, Bool.or_false, Bool.true_and, Bool.false_and, Bool.and_true, Bool.and_false, Bool.not_true, Bool.not_false, cond_true, cond_false, if_true, reduceIte]) <;> rfl] at hj_
      exact hj_.sub (Sub.cons rfl (Sub.cons rfl (Sub.cons rfl (Sub.cons rfl (Sub.cons rfl (Sub.nil _))))))
    · have h13p := of_decide_eq_true h13
      rw [h13]
      refine sg 3 [1, 2, 6, 7, 17] [(1, .int .i64 n), (2, .pointer (some ⟨b1, 0, none⟩)), (6, .bool (mMay cap l)), (7, .int .i64 (k8 : Int)), (17, .bool (mMay cap l))] ?_
      rcases bdi (mMay cap l : Bool) with h14 | h14
      · rw [h14]
        refine sg 3 [1, 2, 6, 7, 20] [(1, .int .i64 n), (2, .pointer (some ⟨b1, 0, none⟩)), (6, .bool false), (7, .int .i64 (k8 : Int)), (20, .bool false)] ?_
        refine to_end rfl ?_
        rw [show (((decide ((k8 : Int) < cap)) && (mMay cap l)) && (decide (n ≥ 1)) : Bool) = false from by (simp only [h13, h14, Bool.true_or, Bool.false_or, Bool.or_true, Bool.or_false, Bool.true_and, Bool.false_and, Bool.and_true, Bool.and_false, Bool.not_true, Bool.not_false, cond_true, cond_false, if_true, reduceIte]) <;> rfl] at hj_
        rw [show (mMay cap l : Bool) = false from by (simp only [h14, Bool.true_or, Bool.false_or, Bool.or_true, Bool.or_false, Bool.true_and, Bool.false_and, Bool.and_true, Bool.and_false, Bool.not_true, Bool.not_false, cond_true, cond_false, if_true, reduceIte]) <;> rfl] at hj_
        exact hj_.sub (Sub.cons rfl (Sub.cons rfl (Sub.cons rfl (Sub.cons rfl (Sub.cons rfl (Sub.nil _))))))
      · rw [h14]
        refine sg 3 [1, 2, 6, 7, 20] [(1, .int .i64 n), (2, .pointer (some ⟨b1, 0, none⟩)), (6, .bool true), (7, .int .i64 (k8 : Int)), (20, .bool (decide (n ≥ 1)))] ?_
        refine to_end rfl ?_
        rw [show (((decide ((k8 : Int) < cap)) && (mMay cap l)) && (decide (n ≥ 1)) : Bool) = (decide (n ≥ 1)) from by (simp only [h13, h14, Bool.true_or, Bool.false_or, Bool.or_true, Bool.or_false, Bool.true_and, Bool.false_and, Bool.and_true, Bool.and_false, Bool.not_true, Bool.not_false, cond_true, cond_false, if_true, reduceIte]) <;> rfl] at hj_
        rw [show (mMay cap l : Bool) = true from by (simp only [h14, Bool.true_or, Bool.false_or, Bool.or_true, Bool.or_false, Bool.true_and, Bool.false_and, Bool.and_true, Bool.and_false, Bool.not_true, Bool.not_false, cond_true, cond_false, if_true, reduceIte]) <;> rfl] at hj_
        exact hj_.sub (Sub.cons rfl (Sub.cons rfl (Sub.cons rfl (Sub.cons rfl (Sub.cons rfl (Sub.nil _))))))
  refine tn_code ?_
  refine tc_cond (b := ((decide ((k8 : Int) < cap)) && (mMay cap l)) && (decide (n ≥ 1))) (fun _ => rfl) (fun h15 => ?_) (fun h15 => ?_)
  · have h15p := h15
    simp only [Bool.or_eq_true, Bool.and_eq_true, Bool.or_eq_false_iff, Bool.and_eq_false_iff, decide_eq_true_eq, decide_eq_false_iff_not, beq_iff_eq, bne_iff_ne, beq_eq_false_iff_ne, bne_eq_false_iff_eq, Bool.not_eq_true', Bool.not_eq_false', ne_eq] at h15p
    refine tc_skip (tn_code (tc_seq (tc_block (tc_seq (tc_region ?_)))))
    refine la M12 0 23 #[.int .i64 cap, .slice A l.length c] (hu := Try.underlying24) ?_
    refine sg 2 [1, 2, 6, 7, 23, 24, 25] [(1, .int .i64 n), (2, .pointer (some ⟨b1, 0, none⟩)), (6, .bool (mMay cap l)), (7, .int .i64 (k8 : Int)), (23, .agg #[.int .i64 cap, .slice A l.length c]), (24, .int .i64 (k8 : Int)), (25, .int .i64 n)] ?_
    refine cb M12 26 (free_any cap l A c (k8 : Int) n _ (C_up M12 hC) (by have h_ := h15p; exact h_.1.2)) fun w16 hb18 M17 => ?_
    refine to_end rfl (tn_code ?_)
    refine tc_cond (b := freeM cap l (k8 : Int) n) (fun _ => rfl) (fun h19 => ?_) (fun h19 => ?_)
    · refine tc_seq (tc_region ?_)
      refine sg 3 [4, 5] [(4, .int .i64 (k8 : Int)), (5, .bool true)] ?_
      refine to_end rfl (tn_code (tc_ret ?_))
      refine tr_tmp2 rfl rfl rfl ?_
      have he := rfind_at (n := n) (k := k8) (by have h_ := h15p; exact h_.1.2) (by omega) (by omega) hi10 h19
      exact ⟨by rw [he], M17.below⟩
    · refine tc_skip (tn_blk (tn_code (tc_region ?_)))
      refine sg 3 [1, 2, 6, 7] [(1, .int .i64 n), (2, .pointer (some ⟨b1, 0, none⟩)), (6, .bool (mMay cap l)), (7, .int .i64 (IntKind.wrap .i64 ((k8 : Int) + 1)))] ?_
      rw [show IntKind.wrap .i64 ((k8 : Int) + 1) = (((k8 + 1) : Nat) : Int) from wr_nat k8 1 (by omega)]
      refine to_end rfl ?_
      exact tn_back (k8 + 1) (Sub.cons rfl (Sub.cons rfl (Sub.cons rfl (Sub.cons rfl (Sub.nil _))))) ⟨by omega, ff_step hi10 h19, M17⟩ (by omega)
  · have h15p := h15
    simp only [Bool.or_eq_true, Bool.and_eq_true, Bool.or_eq_false_iff, Bool.and_eq_false_iff, decide_eq_true_eq, decide_eq_false_iff_not, beq_iff_eq, bne_iff_ne, beq_eq_false_iff_ne, bne_eq_false_iff_eq, Bool.not_eq_true', Bool.not_eq_false', ne_eq] at h15p
    refine tc_exitK (k' := _) rfl (tn_code (tc_seq (tc_region ?_)))
    refine sg 2 [4, 5] [(4, .int .i64 0), (5, .bool false)] ?_
    refine to_end rfl (tn_code (tc_ret ?_))
    refine tr_tmp2 rfl rfl rfl ?_
    have he := rfind_no (k := k8) h15 hi10
    exact ⟨by rw [he], M12.below⟩

set_option linter.unusedSimpArgs false in
theorem rleft_any (cap : Int) (l : List Blk) (A : Option Addr) (c : Nat) (w : World) (hC : kBlk.C w A l.length l) (hsm : ∀ j, (l.getD j Blk.z).w.length ≤ 1000000) (hcp : cap ≤ 9223372036854775807) : Calls Try.prog 32 #[.agg #[.int .i64 cap, .slice A l.length c]] w fun e w' => e = .returned (.int .i64 (rLeftM cap l)) ∧ Below w.heap.size w w' := by
  have M := Mem.refl w
  have hmx := C_max hC
  refine calls_tc (N := 24) (args := [.agg #[.int .i64 cap, .slice A l.length c]]) Try.func32 rfl rfl rfl ?_
  refine tc_seq (tc_region ?_)
  refine nw M 1 #[.int .i64 cap, .slice A l.length c] 24 fun b1 w2 M3 => ?_
  refine sg 1 [1] [(1, .pointer (some ⟨b1, 0, none⟩))] ?_
  refine to_end rfl (tn_code (tc_seq (tc_region ?_)))
  refine sg 1 [1, 3] [(1, .pointer (some ⟨b1, 0, none⟩)), (3, .int .i64 0)] ?_
  refine to_end rfl (tn_code (tc_seq (tc_region ?_)))
  refine la M3 0 6 #[.int .i64 cap, .slice A l.length c] (hu := Try.underlying24) ?_
  refine cb M3 7 (rmay13_any cap l A c _ (C_up M3 hC) hsm) fun w4 hb6 M5 => ?_
  refine sg 1 [1, 3, 4] [(1, .pointer (some ⟨b1, 0, none⟩)), (3, .int .i64 0), (4, .bool (mMay cap l))] ?_
  refine to_end rfl (tn_code (tc_seq (tc_seq (tc_region ?_))))
  refine sg 1 [1, 3, 4, 5] [(1, .pointer (some ⟨b1, 0, none⟩)), (3, .int .i64 0), (4, .bool (mMay cap l)), (5, .int .i64 0)] ?_
  refine to_end rfl (tn_code (tc_block ?_))
  refine tc_loop (σ := Nat) (fun s_ => match s_ with | k7 => [(1, .pointer (some ⟨b1, 0, none⟩)), (4, .bool (mMay cap l)), (5, .int .i64 (k7 : Int)), (3, .int .i64 (leftF l k7 : Int))]) (fun s_ w' => match s_ with | k7 => (k7 ≤ cap.toNat ∧ (0 < k7 → mMay cap l = true)) ∧ Mem w w' ([blk b1 #[.int .i64 cap, .slice A l.length c] 24])) (fun s_ => match s_ with | k7 => cap.toNat - k7) 0 (Sub.cons rfl (Sub.cons rfl (Sub.cons rfl (Sub.cons rfl (Sub.nil _))))) ⟨⟨Nat.zero_le _, fun h => absurd h (Nat.lt_irrefl _)⟩, M5⟩ ?_
  rintro k7 w9 ⟨hi11, M10⟩
  obtain ⟨hq1, hq2⟩ := hi11
  have hll := leftF_le l k7
  refine tc_seq (tc_seq (tc_region ?_))
  refine join (fr' := [(1, .pointer (some ⟨b1, 0, none⟩)), (4, .bool (mMay cap l)), (5, .int .i64 (k7 : Int)), (3, .int .i64 (leftF l k7 : Int)), (14, .bool ((decide ((k7 : Int) < cap)) && (mMay cap l)))]) (fun hj_ => ?_) ?_
  · refine sg 2 [1, 4, 5, 3, 8, 9] [(1, .pointer (some ⟨b1, 0, none⟩)), (4, .bool (mMay cap l)), (5, .int .i64 (k7 : Int)), (3, .int .i64 (leftF l k7 : Int)), (8, .int .i64 (k7 : Int)), (9, .pointer (some ⟨b1, 0, none⟩))] ?_
    refine ld M10 0 10 (.int .i64 cap) ?_
    refine sg 2 [1, 4, 5, 3, 12] [(1, .pointer (some ⟨b1, 0, none⟩)), (4, .bool (mMay cap l)), (5, .int .i64 (k7 : Int)), (3, .int .i64 (leftF l k7 : Int)), (12, .bool (decide ((k7 : Int) < cap)))] ?_
    rcases bdi (decide ((k7 : Int) < cap) : Bool) with h12 | h12
    · have h12p := of_decide_eq_false h12
      rw [h12]
      refine sg 2 [1, 4, 5, 3, 14] [(1, .pointer (some ⟨b1, 0, none⟩)), (4, .bool (mMay cap l)), (5, .int .i64 (k7 : Int)), (3, .int .i64 (leftF l k7 : Int)), (14, .bool false)] ?_
      refine to_end rfl ?_
      rw [show ((decide ((k7 : Int) < cap)) && (mMay cap l) : Bool) = false from by (simp only [h12, Bool.true_or, Bool.false_or, Bool.or_true, Bool.or_false, Bool.true_and, Bool.false_and, Bool.and_true, Bool.and_false, Bool.not_true, Bool.not_false, cond_true, cond_false, if_true, reduceIte]) <;> rfl] at hj_
      exact hj_.sub (Sub.cons rfl (Sub.cons rfl (Sub.cons rfl (Sub.cons rfl (Sub.cons rfl (Sub.nil _))))))
    · have h12p := of_decide_eq_true h12
      rw [h12]
      refine sg 2 [1, 4, 5, 3, 14] [(1, .pointer (some ⟨b1, 0, none⟩)), (4, .bool (mMay cap l)), (5, .int .i64 (k7 : Int)), (3, .int .i64 (leftF l k7 : Int)), (14, .bool (mMay cap l))] ?_
      refine to_end rfl ?_
      rw [show ((decide ((k7 : Int) < cap)) && (mMay cap l) : Bool) = (mMay cap l) from by (simp only [h12, Bool.true_or, Bool.false_or, Bool.or_true, Bool.or_false, Bool.true_and, Bool.false_and, Bool.and_true, Bool.and_false, Bool.not_true, Bool.not_false, cond_true, cond_false, if_true, reduceIte]) <;> rfl] at hj_
      exact hj_.sub (Sub.cons rfl (Sub.cons rfl (Sub.cons rfl (Sub.cons rfl (Sub.cons rfl (Sub.nil _))))))
  refine tn_code ?_
  refine tc_cond (b := (decide ((k7 : Int) < cap)) && (mMay cap l)) (fun _ => rfl) (fun h13 => ?_) (fun h13 => ?_)
  · have h13p := h13
    simp only [Bool.or_eq_true, Bool.and_eq_true, Bool.or_eq_false_iff, Bool.and_eq_false_iff, decide_eq_true_eq, decide_eq_false_iff_not, beq_iff_eq, bne_iff_ne, beq_eq_false_iff_ne, bne_eq_false_iff_eq, Bool.not_eq_true', Bool.not_eq_false', ne_eq] at h13p
    refine tc_skip (tn_code (tc_seq (tc_block (tc_seq (tc_region ?_)))))
    refine la M10 0 17 #[.int .i64 cap, .slice A l.length c] (hu := Try.underlying24) ?_
    refine sg 1 [1, 4, 5, 3, 17, 18] [(1, .pointer (some ⟨b1, 0, none⟩)), (4, .bool (mMay cap l)), (5, .int .i64 (k7 : Int)), (3, .int .i64 (leftF l k7 : Int)), (17, .agg #[.int .i64 cap, .slice A l.length c]), (18, .int .i64 (k7 : Int))] ?_
    refine cb M10 19 (of_any cap l A c (k7 : Int) _ (C_up M10 hC) (by have h_ := h13p; exact h_.2) (by unfold I64; omega)) fun w14 hb16 M15 => ?_
    refine sg 1 [1, 4, 5, 3, 20] [(1, .pointer (some ⟨b1, 0, none⟩)), (4, .bool (mMay cap l)), (5, .int .i64 (k7 : Int)), (3, .int .i64 (leftF l k7 : Int)), (20, .bool (decide ((ofM l (k7 : Int)) < 0)))] ?_
    refine to_end rfl (tn_code ?_)
    refine tc_cond (b := decide ((ofM l (k7 : Int)) < 0)) (fun _ => rfl) (fun h17 => ?_) (fun h17 => ?_)
    · have h17p := of_decide_eq_true h17
      refine tc_region ?_
      refine sg 3 [1, 4, 5, 3] [(1, .pointer (some ⟨b1, 0, none⟩)), (4, .bool (mMay cap l)), (5, .int .i64 (k7 : Int)), (3, .int .i64 (IntKind.wrap .i64 ((leftF l k7 : Int) + 1)))] ?_
      rw [show IntKind.wrap .i64 ((leftF l k7 : Int) + 1) = ((((leftF l k7) + 1) : Nat) : Int) from wr_nat (leftF l k7) 1 (by omega)]
      refine to_end rfl (tn_blk (tn_code (tc_region ?_)))
      refine sg 3 [1, 4, 5, 3] [(1, .pointer (some ⟨b1, 0, none⟩)), (4, .bool (mMay cap l)), (5, .int .i64 (IntKind.wrap .i64 ((k7 : Int) + 1))), (3, .int .i64 ((((leftF l k7) + 1) : Nat) : Int))] ?_
      rw [show IntKind.wrap .i64 ((k7 : Int) + 1) = (((k7 + 1) : Nat) : Int) from wr_nat k7 1 (by omega)]
      refine to_end rfl ?_
      have hlf := leftF_yes (l := l) (k := k7) (by omega)
      exact tn_back (s := k7) (k7 + 1) (Sub.cons rfl (Sub.cons rfl (Sub.cons rfl (Sub.cons (by first | rw [hlf]; rfl | (rw [hlf]) | exact congrArg (fun x : Nat => some (Value.int .i64 (x : Int))) hlf.symm) (Sub.nil _))))) ⟨⟨by omega, fun _ => (by have h_ := h13p; exact h_.2)⟩, M15⟩ (by simp only; omega)
    · have h17p := of_decide_eq_false h17
      refine tc_skip (tn_blk (tn_code (tc_region ?_)))
      refine sg 3 [1, 4, 5, 3] [(1, .pointer (some ⟨b1, 0, none⟩)), (4, .bool (mMay cap l)), (5, .int .i64 (IntKind.wrap .i64 ((k7 : Int) + 1))), (3, .int .i64 (leftF l k7 : Int))] ?_
      rw [show IntKind.wrap .i64 ((k7 : Int) + 1) = (((k7 + 1) : Nat) : Int) from wr_nat k7 1 (by omega)]
      refine to_end rfl ?_
      have hlf := leftF_no (l := l) (k := k7) (by omega)
      exact tn_back (s := k7) (k7 + 1) (Sub.cons rfl (Sub.cons rfl (Sub.cons rfl (Sub.cons (by first | rw [hlf]; rfl | (rw [hlf]) | exact congrArg (fun x : Nat => some (Value.int .i64 (x : Int))) hlf.symm) (Sub.nil _))))) ⟨⟨by omega, fun _ => (by have h_ := h13p; exact h_.2)⟩, M15⟩ (by simp only; omega)
  · have h13p := h13
    simp only [Bool.or_eq_true, Bool.and_eq_true, Bool.or_eq_false_iff, Bool.and_eq_false_iff, decide_eq_true_eq, decide_eq_false_iff_not, beq_iff_eq, bne_iff_ne, beq_eq_false_iff_ne, bne_eq_false_iff_eq, Bool.not_eq_true', Bool.not_eq_false', ne_eq] at h13p
    refine tc_exitK (k' := _) rfl (tn_code (tc_seq (tc_region ?_)))
    refine sg 2 [2] [(2, .int .i64 (leftF l k7 : Int))] ?_
    refine to_end rfl (tn_code (tc_ret ?_))
    refine tr_tmp rfl rfl ?_
    exact ⟨congrArg Ending.returned (congrArg (Value.int .i64) (rleft_eq h13 hq1 hq2)), M10.below⟩

set_option linter.unusedSimpArgs false in
theorem may13_any (cap : Int) (l : List Blk) (A : Option Addr) (c : Nat) (w : World) (hC : kBlk.C w A l.length l) (hsm : ∀ j, (l.getD j Blk.z).w.length ≤ 1000000) : Calls Try.prog 33 #[.agg #[.int .i64 cap, .slice A l.length c]] w fun e w' => e = .returned (.bool (mMay cap l)) ∧ Below w.heap.size w w' := by
  have M := Mem.refl w
  have hmx := C_max hC
  have hnw := newM_iff cap
  refine calls_tc (N := 69) (args := [.agg #[.int .i64 cap, .slice A l.length c]]) Try.func33 rfl rfl rfl ?_
  refine tc_seq (tc_region ?_)
  refine nw M 1 #[.int .i64 cap, .slice A l.length c] 24 fun b1 w2 M3 => ?_
  refine sg 1 [1] [(1, .pointer (some ⟨b1, 0, none⟩))] ?_
  refine to_end rfl (tn_code (tc_seq (tc_seq (tc_region ?_))))
  refine sg 1 [1, 9] [(1, .pointer (some ⟨b1, 0, none⟩)), (9, .pointer (some ⟨b1, 0, none⟩))] ?_
  refine ld M3 0 10 (.int .i64 cap) ?_
  refine cb M3 11 (new_any cap _) fun w4 hb6 M5 => ?_
  refine sg 3 [1, 12, 13] [(1, .pointer (some ⟨b1, 0, none⟩)), (12, .agg #[.int .i64 (newM cap).1, .slice none 0 0]), (13, .int .i64 (newM cap).2)] ?_
  refine nw M5 3 #[.int .i64 0, .slice none 0 0] 24 fun b7 w8 M9 => ?_
  refine sa M9 0 #[.int .i64 (newM cap).1, .slice none 0 0] fun w10 M11 => ?_
  refine sg 1 [1, 4] [(1, .pointer (some ⟨b1, 0, none⟩)), (4, .int .i64 (newM cap).2)] ?_
  refine to_end rfl (tn_code (tc_seq (tc_region ?_)))
  refine sg 2 [1, 15] [(1, .pointer (some ⟨b1, 0, none⟩)), (15, .bool ((newM cap).2 != 0))] ?_
  refine to_end rfl (tn_code ?_)
  refine tc_cond (b := (newM cap).2 != 0) (fun _ => rfl) (fun h12 => ?_) (fun h12 => ?_)
  · have h12p := bne_iff_ne.1 h12
    refine tc_seq (tc_region ?_)
    refine sg 1 [2] [(2, .bool false)] ?_
    refine to_end rfl (tn_code (tc_ret ?_))
    refine tr_tmp rfl rfl ?_
    exact ⟨congrArg Ending.returned (congrArg Value.bool (may_cap13 (by omega))), M11.below⟩
  · have h12p := bne_eq_false_iff_eq.1 h12
    refine tc_skip (tn_code (tc_seq (tc_region ?_)))
    refine sg 1 [1, 5] [(1, .pointer (some ⟨b1, 0, none⟩)), (5, .int .i64 0)] ?_
    refine to_end rfl (tn_code (tc_seq (tc_seq (tc_region ?_))))
    refine sg 1 [1, 5, 16] [(1, .pointer (some ⟨b1, 0, none⟩)), (5, .int .i64 0), (16, .pointer (some ⟨b1, 1, none⟩))] ?_
    refine ld M11 1 17 (.slice A l.length c) ?_
    refine sg 2 [1, 5, 17, 18, 19] [(1, .pointer (some ⟨b1, 0, none⟩)), (5, .int .i64 0), (17, .slice A l.length c), (18, .int .i64 (l.length : Int)), (19, .int .i64 0)] ?_
    refine to_end rfl (tn_code (tc_block ?_))
    refine tc_loop (σ := Nat) (fun k15 => [(1, .pointer (some ⟨b1, 0, none⟩)), (17, .slice A l.length c), (18, .int .i64 (l.length : Int)), (19, .int .i64 (k15 : Int)), (5, .int .i64 (lastP l k15))]) (fun k15 w' => k15 ≤ l.length ∧ (∀ j, j < k15 → okAt cap l j) ∧ Mem w w' [blk b7 #[.int .i64 (newM cap).1, .slice none 0 0] 24, blk b1 #[.int .i64 cap, .slice A l.length c] 24]) (fun k15 => l.length - k15) 0 (Sub.cons rfl (Sub.cons rfl (Sub.cons rfl (Sub.cons rfl (Sub.cons rfl (Sub.nil _)))))) ⟨Nat.zero_le _, fun j hj => absurd hj (Nat.not_lt_zero _), M11⟩ ?_
    rintro k15 w18 ⟨hk16, hi17, M19⟩
    have hlm := hsm k15
    have hlb := lastP_bd (k := k15) (by omega) hi17
    refine tc_seq (tc_region ?_)
    refine sg 1 [1, 17, 18, 19, 5, 20] [(1, .pointer (some ⟨b1, 0, none⟩)), (17, .slice A l.length c), (18, .int .i64 (l.length : Int)), (19, .int .i64 (k15 : Int)), (5, .int .i64 (lastP l k15)), (20, .bool (decide ((k15 : Int) < (l.length : Int))))] ?_
    refine to_end rfl (tn_code (tc_seq ?_))
    refine tc_cond (b := decide ((k15 : Int) < (l.length : Int))) (fun _ => rfl) (fun h20 => ?_) (fun h20 => ?_)
    · have h20p := of_decide_eq_true h20
      refine tc_skip (tn_code (tc_seq (tc_block (tc_seq (tc_region ?_)))))
      refine sg 1 [1, 17, 18, 19, 5, 21] [(1, .pointer (some ⟨b1, 0, none⟩)), (17, .slice A l.length c), (18, .int .i64 (l.length : Int)), (19, .int .i64 (k15 : Int)), (5, .int .i64 (lastP l k15)), (21, .int .i64 (k15 : Int))] ?_
      obtain ⟨ad21, rfl⟩ := C_some hC (k := k15) (by omega)
      refine ix (ad := ad21) (n := l.length) (c := c) 22 k15 3 (by omega) Try.underlying22 ?_
      obtain ⟨cs24, hk22, hc23⟩ := C_cell hC Blk.z k15 (by omega)
      obtain ⟨A25, c26, rfl, hl27, hC28⟩ := kBlk_open hk22
      refine lea 23 #[.int .i64 (l.getD k15 Blk.z).id, .int .i64 (l.getD k15 Blk.z).pos, .slice A25 (l.getD k15 Blk.z).w.length c26] (fun j u hj => cell_up M19 (hc23 j u hj)) (hu := Try.underlying103) ?_
      refine nw M19 7 #[.int .i64 0, .int .i64 0, .slice none 0 0] 103 fun b29 w30 M31 => ?_
      refine sg 1 [1, 17, 18, 19, 5, 23, 7, 6] [(1, .pointer (some ⟨b1, 0, none⟩)), (17, .slice (some ad21) l.length c), (18, .int .i64 (l.length : Int)), (19, .int .i64 (k15 : Int)), (5, .int .i64 (lastP l k15)), (23, .agg #[.int .i64 (l.getD k15 Blk.z).id, .int .i64 (l.getD k15 Blk.z).pos, .slice A25 (l.getD k15 Blk.z).w.length c26]), (7, .pointer (some ⟨b29, 0, none⟩)), (6, .int .i64 (k15 : Int))] ?_
      refine sa M31 0 #[.int .i64 (l.getD k15 Blk.z).id, .int .i64 (l.getD k15 Blk.z).pos, .slice A25 (l.getD k15 Blk.z).w.length c26] fun w32 M33 => ?_
      refine to_end rfl (tn_code (tc_seq (tc_seq (tc_region ?_))))
      refine sg 1 [1, 17, 18, 19, 5, 7, 6, 24] [(1, .pointer (some ⟨b1, 0, none⟩)), (17, .slice (some ad21) l.length c), (18, .int .i64 (l.length : Int)), (19, .int .i64 (k15 : Int)), (5, .int .i64 (lastP l k15)), (7, .pointer (some ⟨b29, 0, none⟩)), (6, .int .i64 (k15 : Int)), (24, .pointer (some ⟨b29, 0, none⟩))] ?_
      refine ld M33 0 25 (.int .i64 (l.getD k15 Blk.z).id) ?_
      refine sg 2 [1, 17, 18, 19, 5, 7, 6, 27] [(1, .pointer (some ⟨b1, 0, none⟩)), (17, .slice (some ad21) l.length c), (18, .int .i64 (l.length : Int)), (19, .int .i64 (k15 : Int)), (5, .int .i64 (lastP l k15)), (7, .pointer (some ⟨b29, 0, none⟩)), (6, .int .i64 (k15 : Int)), (27, .bool (decide ((l.getD k15 Blk.z).id < 1)))] ?_
      rcases h34 : (decide ((l.getD k15 Blk.z).id < 1) : Bool) with _ | _
      · have h34p := of_decide_eq_false h34
        refine la M33 2 28 #[.int .i64 cap, .slice (some ad21) l.length c] (hu := Try.underlying24) ?_
        refine sg 1 [1, 17, 18, 19, 5, 7, 6, 27, 28, 29] [(1, .pointer (some ⟨b1, 0, none⟩)), (17, .slice (some ad21) l.length c), (18, .int .i64 (l.length : Int)), (19, .int .i64 (k15 : Int)), (5, .int .i64 (lastP l k15)), (7, .pointer (some ⟨b29, 0, none⟩)), (6, .int .i64 (k15 : Int)), (27, .bool false), (28, .agg #[.int .i64 cap, .slice (some ad21) l.length c]), (29, .pointer (some ⟨b29, 0, none⟩))] ?_
        refine ld M33 0 30 (.int .i64 (l.getD k15 Blk.z).id) ?_
        refine cb M33 31 (at_any cap l (some ad21) c (l.getD k15 Blk.z).id _ (C_up M33 hC)) fun w35 hb37 M36 => ?_
        refine sg 4 [1, 17, 18, 19, 5, 7, 35] [(1, .pointer (some ⟨b1, 0, none⟩)), (17, .slice (some ad21) l.length c), (18, .int .i64 (l.length : Int)), (19, .int .i64 (k15 : Int)), (5, .int .i64 (lastP l k15)), (7, .pointer (some ⟨b29, 0, none⟩)), (35, .bool ((idM l (l.getD k15 Blk.z).id) != (k15 : Int)))] ?_
        rcases h38 : ((idM l (l.getD k15 Blk.z).id) != (k15 : Int) : Bool) with _ | _
        · have h38p := bne_eq_false_iff_eq.1 h38
          refine sg 1 [1, 17, 18, 19, 5, 7, 35, 36] [(1, .pointer (some ⟨b1, 0, none⟩)), (17, .slice (some ad21) l.length c), (18, .int .i64 (l.length : Int)), (19, .int .i64 (k15 : Int)), (5, .int .i64 (lastP l k15)), (7, .pointer (some ⟨b29, 0, none⟩)), (35, .bool false), (36, .pointer (some ⟨b29, 2, none⟩))] ?_
          refine ld M36 0 37 (.slice A25 (l.getD k15 Blk.z).w.length c26) ?_
          refine sg 4 [1, 17, 18, 19, 5, 7, 41] [(1, .pointer (some ⟨b1, 0, none⟩)), (17, .slice (some ad21) l.length c), (18, .int .i64 (l.length : Int)), (19, .int .i64 (k15 : Int)), (5, .int .i64 (lastP l k15)), (7, .pointer (some ⟨b29, 0, none⟩)), (41, .bool (((l.getD k15 Blk.z).w.length : Int) == 0))] ?_
          rcases h39 : (((l.getD k15 Blk.z).w.length : Int) == 0 : Bool) with _ | _
          · have h39p := beq_eq_false_iff_ne.1 h39
            refine sg 1 [1, 17, 18, 19, 5, 7, 41, 42] [(1, .pointer (some ⟨b1, 0, none⟩)), (17, .slice (some ad21) l.length c), (18, .int .i64 (l.length : Int)), (19, .int .i64 (k15 : Int)), (5, .int .i64 (lastP l k15)), (7, .pointer (some ⟨b29, 0, none⟩)), (41, .bool false), (42, .pointer (some ⟨b29, 1, none⟩))] ?_
            refine ld M36 0 43 (.int .i64 (l.getD k15 Blk.z).pos) ?_
            refine sg 4 [1, 17, 18, 19, 7, 47] [(1, .pointer (some ⟨b1, 0, none⟩)), (17, .slice (some ad21) l.length c), (18, .int .i64 (l.length : Int)), (19, .int .i64 (k15 : Int)), (7, .pointer (some ⟨b29, 0, none⟩)), (47, .bool (decide ((l.getD k15 Blk.z).pos < (lastP l k15))))] ?_
            rcases h40 : (decide ((l.getD k15 Blk.z).pos < (lastP l k15)) : Bool) with _ | _
            · have h40p := of_decide_eq_false h40
              refine sg 1 [1, 17, 18, 19, 7, 47, 48] [(1, .pointer (some ⟨b1, 0, none⟩)), (17, .slice (some ad21) l.length c), (18, .int .i64 (l.length : Int)), (19, .int .i64 (k15 : Int)), (7, .pointer (some ⟨b29, 0, none⟩)), (47, .bool false), (48, .pointer (some ⟨b29, 2, none⟩))] ?_
              refine ld M36 0 49 (.slice A25 (l.getD k15 Blk.z).w.length c26) ?_
              refine sg 2 [1, 17, 18, 19, 7, 47, 50, 51] [(1, .pointer (some ⟨b1, 0, none⟩)), (17, .slice (some ad21) l.length c), (18, .int .i64 (l.length : Int)), (19, .int .i64 (k15 : Int)), (7, .pointer (some ⟨b29, 0, none⟩)), (47, .bool false), (50, .int .i64 ((l.getD k15 Blk.z).w.length : Int)), (51, .pointer (some ⟨b1, 0, none⟩))] ?_
              refine ld M36 2 52 (.int .i64 cap) ?_
              refine sg 3 [1, 17, 18, 19, 7, 55] [(1, .pointer (some ⟨b1, 0, none⟩)), (17, .slice (some ad21) l.length c), (18, .int .i64 (l.length : Int)), (19, .int .i64 (k15 : Int)), (7, .pointer (some ⟨b29, 0, none⟩)), (55, .bool (decide (((l.getD k15 Blk.z).w.length : Int) > cap)))] ?_
              rcases h41 : (decide (((l.getD k15 Blk.z).w.length : Int) > cap) : Bool) with _ | _
              · have h41p := of_decide_eq_false h41
                refine sg 1 [1, 17, 18, 19, 7, 55, 56] [(1, .pointer (some ⟨b1, 0, none⟩)), (17, .slice (some ad21) l.length c), (18, .int .i64 (l.length : Int)), (19, .int .i64 (k15 : Int)), (7, .pointer (some ⟨b29, 0, none⟩)), (55, .bool false), (56, .pointer (some ⟨b29, 1, none⟩))] ?_
                refine ld M36 0 57 (.int .i64 (l.getD k15 Blk.z).pos) ?_
                refine sg 1 [1, 17, 18, 19, 7, 55, 57, 58] [(1, .pointer (some ⟨b1, 0, none⟩)), (17, .slice (some ad21) l.length c), (18, .int .i64 (l.length : Int)), (19, .int .i64 (k15 : Int)), (7, .pointer (some ⟨b29, 0, none⟩)), (55, .bool false), (57, .int .i64 (l.getD k15 Blk.z).pos), (58, .pointer (some ⟨b1, 0, none⟩))] ?_
                refine ld M36 2 59 (.int .i64 cap) ?_
                refine sg 1 [1, 17, 18, 19, 7, 55, 57, 59, 60] [(1, .pointer (some ⟨b1, 0, none⟩)), (17, .slice (some ad21) l.length c), (18, .int .i64 (l.length : Int)), (19, .int .i64 (k15 : Int)), (7, .pointer (some ⟨b29, 0, none⟩)), (55, .bool false), (57, .int .i64 (l.getD k15 Blk.z).pos), (59, .int .i64 cap), (60, .pointer (some ⟨b29, 2, none⟩))] ?_
                refine ld M36 0 61 (.slice A25 (l.getD k15 Blk.z).w.length c26) ?_
                refine sg 2 [1, 17, 18, 19, 7, 55, 57, 63] [(1, .pointer (some ⟨b1, 0, none⟩)), (17, .slice (some ad21) l.length c), (18, .int .i64 (l.length : Int)), (19, .int .i64 (k15 : Int)), (7, .pointer (some ⟨b29, 0, none⟩)), (55, .bool false), (57, .int .i64 (l.getD k15 Blk.z).pos), (63, .int .i64 (IntKind.wrap .i64 (cap - ((l.getD k15 Blk.z).w.length : Int))))] ?_
                rw [wr_i64 (x := cap - ((l.getD k15 Blk.z).w.length : Int)) (by omega) (by omega)]
                refine sg 2 [1, 17, 18, 19, 7, 65] [(1, .pointer (some ⟨b1, 0, none⟩)), (17, .slice (some ad21) l.length c), (18, .int .i64 (l.length : Int)), (19, .int .i64 (k15 : Int)), (7, .pointer (some ⟨b29, 0, none⟩)), (65, .bool (decide ((l.getD k15 Blk.z).pos > (cap - ((l.getD k15 Blk.z).w.length : Int)))))] ?_
                refine to_end rfl (tn_code ?_)
                refine tc_cond (b := decide ((l.getD k15 Blk.z).pos > (cap - ((l.getD k15 Blk.z).w.length : Int)))) (fun _ => rfl) (fun h42 => ?_) (fun h42 => ?_)
                · have h42p := of_decide_eq_true h42
                  refine tc_seq (tc_region ?_)
                  refine sg 1 [2] [(2, .bool false)] ?_
                  refine to_end rfl (tn_code (tc_ret ?_))
                  refine tr_tmp rfl rfl ?_
                  exact ⟨congrArg Ending.returned (congrArg Value.bool (may_no13 (k := k15) (by omega) (by intro ho; have hlq := okAt_last ho; obtain ⟨o1, o2, o3, o4, o5, o6, o7⟩ := ho; omega))), M36.below⟩
                · have h42p := of_decide_eq_false h42
                  refine tc_skip (tn_code (tc_region ?_))
                  refine la M36 0 66 #[.int .i64 (l.getD k15 Blk.z).id, .int .i64 (l.getD k15 Blk.z).pos, .slice A25 (l.getD k15 Blk.z).w.length c26] (hu := Try.underlying103) ?_
                  refine cb M36 67 (end_any (l.getD k15 Blk.z) A25 c26 _ ⟨by omega, by omega⟩ (by omega)) fun w43 hb45 M44 => ?_
                  refine sg 1 [1, 17, 18, 19, 5] [(1, .pointer (some ⟨b1, 0, none⟩)), (17, .slice (some ad21) l.length c), (18, .int .i64 (l.length : Int)), (19, .int .i64 (k15 : Int)), (5, .int .i64 (l.getD k15 Blk.z).fin)] ?_
                  refine to_end rfl (tn_blk (tn_code (tc_region ?_)))
                  refine sg 2 [1, 17, 18, 19, 5] [(1, .pointer (some ⟨b1, 0, none⟩)), (17, .slice (some ad21) l.length c), (18, .int .i64 (l.length : Int)), (19, .int .i64 (IntKind.wrap .i64 ((k15 : Int) + 1))), (5, .int .i64 (l.getD k15 Blk.z).fin)] ?_
                  rw [show IntKind.wrap .i64 ((k15 : Int) + 1) = (((k15 + 1) : Nat) : Int) from wr_nat k15 1 (by omega)]
                  refine to_end rfl ?_
                  have M46 := M44.drop 0
                  rw [show (l.getD k15 Blk.z).fin = (lastP l (k15 + 1)) from lastP_next l k15]
                  exact tn_back (k15 + 1) (Sub.cons rfl (Sub.cons rfl (Sub.cons rfl (Sub.cons rfl (Sub.cons rfl (Sub.nil _)))))) ⟨by omega, okAt_step hi17 (okAt_mk (by omega) (by omega) (by omega) (bne_eq_false_iff_eq.1 h38) (by omega) (by omega) (by omega) (by omega)), M46⟩ (by omega)
              · have h41p := of_decide_eq_true h41
                refine sg 10 [1, 17, 18, 19, 7, 65] [(1, .pointer (some ⟨b1, 0, none⟩)), (17, .slice (some ad21) l.length c), (18, .int .i64 (l.length : Int)), (19, .int .i64 (k15 : Int)), (7, .pointer (some ⟨b29, 0, none⟩)), (65, .bool true)] ?_
                refine to_end rfl (tn_code (tc_cond_t (fun _ => rfl) (tc_seq (tc_region ?_))))
                refine sg 1 [2] [(2, .bool false)] ?_
                refine to_end rfl (tn_code (tc_ret ?_))
                refine tr_tmp rfl rfl ?_
                exact ⟨congrArg Ending.returned (congrArg Value.bool (may_no13 (k := k15) (by omega) (by intro ho; have hlq := okAt_last ho; obtain ⟨o1, o2, o3, o4, o5, o6, o7⟩ := ho; omega))), M36.below⟩
            · have h40p := of_decide_eq_true h40
              refine sg 18 [1, 17, 18, 19, 7, 65] [(1, .pointer (some ⟨b1, 0, none⟩)), (17, .slice (some ad21) l.length c), (18, .int .i64 (l.length : Int)), (19, .int .i64 (k15 : Int)), (7, .pointer (some ⟨b29, 0, none⟩)), (65, .bool true)] ?_
              refine to_end rfl (tn_code (tc_cond_t (fun _ => rfl) (tc_seq (tc_region ?_))))
              refine sg 1 [2] [(2, .bool false)] ?_
              refine to_end rfl (tn_code (tc_ret ?_))
              refine tr_tmp rfl rfl ?_
              exact ⟨congrArg Ending.returned (congrArg Value.bool (may_no13 (k := k15) (by omega) (by intro ho; have hlq := okAt_last ho; obtain ⟨o1, o2, o3, o4, o5, o6, o7⟩ := ho; omega))), M36.below⟩
          · have h39p := beq_iff_eq.1 h39
            refine sg 24 [1, 17, 18, 19, 7, 65] [(1, .pointer (some ⟨b1, 0, none⟩)), (17, .slice (some ad21) l.length c), (18, .int .i64 (l.length : Int)), (19, .int .i64 (k15 : Int)), (7, .pointer (some ⟨b29, 0, none⟩)), (65, .bool true)] ?_
            refine to_end rfl (tn_code (tc_cond_t (fun _ => rfl) (tc_seq (tc_region ?_))))
            refine sg 1 [2] [(2, .bool false)] ?_
            refine to_end rfl (tn_code (tc_ret ?_))
            refine tr_tmp rfl rfl ?_
            exact ⟨congrArg Ending.returned (congrArg Value.bool (may_no13 (k := k15) (by omega) (by intro ho; have hlq := okAt_last ho; obtain ⟨o1, o2, o3, o4, o5, o6, o7⟩ := ho; omega))), M36.below⟩
        · have h38p := bne_iff_ne.1 h38
          refine sg 30 [1, 17, 18, 19, 7, 65] [(1, .pointer (some ⟨b1, 0, none⟩)), (17, .slice (some ad21) l.length c), (18, .int .i64 (l.length : Int)), (19, .int .i64 (k15 : Int)), (7, .pointer (some ⟨b29, 0, none⟩)), (65, .bool true)] ?_
          refine to_end rfl (tn_code (tc_cond_t (fun _ => rfl) (tc_seq (tc_region ?_))))
          refine sg 1 [2] [(2, .bool false)] ?_
          refine to_end rfl (tn_code (tc_ret ?_))
          refine tr_tmp rfl rfl ?_
          exact ⟨congrArg Ending.returned (congrArg Value.bool (may_no13 (k := k15) (by omega) (by intro ho; exact bne_iff_ne.1 h38 ((idM_self (by omega)).2 ho.2.2.2.2.2.2)))), M36.below⟩
      · have h34p := of_decide_eq_true h34
        refine sg 38 [1, 17, 18, 19, 7, 65] [(1, .pointer (some ⟨b1, 0, none⟩)), (17, .slice (some ad21) l.length c), (18, .int .i64 (l.length : Int)), (19, .int .i64 (k15 : Int)), (7, .pointer (some ⟨b29, 0, none⟩)), (65, .bool true)] ?_
        refine to_end rfl (tn_code (tc_cond_t (fun _ => rfl) (tc_seq (tc_region ?_))))
        refine sg 1 [2] [(2, .bool false)] ?_
        refine to_end rfl (tn_code (tc_ret ?_))
        refine tr_tmp rfl rfl ?_
        exact ⟨congrArg Ending.returned (congrArg Value.bool (may_no13 (k := k15) (by omega) (by intro ho; have hlq := okAt_last ho; obtain ⟨o1, o2, o3, o4, o5, o6, o7⟩ := ho; omega))), M33.below⟩
    · have h20p := of_decide_eq_false h20
      refine tc_exitK (k' := _) rfl (tn_code (tc_seq (tc_region ?_)))
      refine sg 1 [2] [(2, .bool true)] ?_
      refine to_end rfl (tn_code (tc_ret ?_))
      refine tr_tmp rfl rfl ?_
      exact ⟨congrArg Ending.returned (congrArg Value.bool (may_yes13 (k := k15) (by omega) (by omega) (by omega) hi17)), M19.below⟩

set_option linter.unusedSimpArgs false in
theorem word_any (cap : Int) (l : List Blk) (A : Option Addr) (c : Nat) (a : Int) (w : World) (hC : kBlk.C w A l.length l) (hm : mMay cap l = true) (ha : I64 a) : Calls Try.prog 77 #[.agg #[.int .i64 cap, .slice A l.length c], .int .i64 a] w fun e w' => ∃ i q : Int, e = .returned (.tuple #[.int .i64 i, .int .i64 q]) ∧ Below w.heap.size w w' ∧ ((ofM l a = -1 ∧ i = -1 ∧ q = 0) ∨ ∃ n m : Nat, i = (n : Int) ∧ q = (m : Int) ∧ WordAt l a n m) := by
  have M := Mem.refl w
  have hmx := C_max hC
  obtain ⟨ha0, ha1⟩ := ha
  refine calls_tc (N := 32) (args := [.agg #[.int .i64 cap, .slice A l.length c], .int .i64 a]) Try.func77 rfl rfl rfl ?_
  refine tc_seq (tc_region ?_)
  refine nw M 2 #[.int .i64 cap, .slice A l.length c] 24 fun b1 w2 M3 => ?_
  refine sg 2 [1, 2] [(1, .int .i64 a), (2, .pointer (some ⟨b1, 0, none⟩))] ?_
  refine to_end rfl (tn_code (tc_seq (tc_seq (tc_region ?_))))
  refine sg 1 [1, 8] [(1, .int .i64 a), (8, .pointer (some ⟨b1, 1, none⟩))] ?_
  refine ld M3 0 9 (.slice A l.length c) ?_
  refine sg 2 [1, 9, 10, 11] [(1, .int .i64 a), (9, .slice A l.length c), (10, .int .i64 (l.length : Int)), (11, .int .i64 0)] ?_
  refine to_end rfl (tn_code (tc_block ?_))
  refine tc_loop (σ := Nat) (fun k5 => [(1, .int .i64 a), (9, .slice A l.length c), (10, .int .i64 (l.length : Int)), (11, .int .i64 (k5 : Int))]) (fun k5 w' => k5 ≤ l.length ∧ (∀ j, j < k5 → (inBlk a) (l.getD j Blk.z) = false) ∧ Mem w w' [blk b1 #[.int .i64 cap, .slice A l.length c] 24]) (fun k5 => l.length - k5) 0 (Sub.cons rfl (Sub.cons rfl (Sub.cons rfl (Sub.cons rfl (Sub.nil _))))) ⟨Nat.zero_le _, fun j hj => absurd hj (Nat.not_lt_zero _), M3⟩ ?_
  rintro k5 w8 ⟨hk6, hi7, M9⟩
  have hpb := pos_bd hm k5
  refine tc_seq (tc_region ?_)
  refine sg 1 [1, 9, 10, 11, 12] [(1, .int .i64 a), (9, .slice A l.length c), (10, .int .i64 (l.length : Int)), (11, .int .i64 (k5 : Int)), (12, .bool (decide ((k5 : Int) < (l.length : Int))))] ?_
  refine to_end rfl (tn_code (tc_seq ?_))
  refine tc_cond (b := decide ((k5 : Int) < (l.length : Int))) (fun _ => rfl) (fun h10 => ?_) (fun h10 => ?_)
  · have h10p := of_decide_eq_true h10
    refine tc_skip (tn_code (tc_seq (tc_block (tc_seq (tc_region ?_)))))
    refine sg 1 [1, 9, 10, 11, 13] [(1, .int .i64 a), (9, .slice A l.length c), (10, .int .i64 (l.length : Int)), (11, .int .i64 (k5 : Int)), (13, .int .i64 (k5 : Int))] ?_
    obtain ⟨ad11, rfl⟩ := C_some hC (k := k5) (by omega)
    refine ix (ad := ad11) (n := l.length) (c := c) 14 k5 3 (by omega) Try.underlying22 ?_
    obtain ⟨cs14, hk12, hc13⟩ := C_cell hC Blk.z k5 (by omega)
    obtain ⟨A15, c16, rfl, hl17, hC18⟩ := kBlk_open hk12
    refine lea 15 #[.int .i64 (l.getD k5 Blk.z).id, .int .i64 (l.getD k5 Blk.z).pos, .slice A15 (l.getD k5 Blk.z).w.length c16] (fun j u hj => cell_up M9 (hc13 j u hj)) (hu := Try.underlying103) ?_
    refine nw M9 7 #[.int .i64 0, .int .i64 0, .slice none 0 0] 103 fun b19 w20 M21 => ?_
    refine sg 1 [1, 9, 10, 11, 15, 7, 6] [(1, .int .i64 a), (9, .slice (some ad11) l.length c), (10, .int .i64 (l.length : Int)), (11, .int .i64 (k5 : Int)), (15, .agg #[.int .i64 (l.getD k5 Blk.z).id, .int .i64 (l.getD k5 Blk.z).pos, .slice A15 (l.getD k5 Blk.z).w.length c16]), (7, .pointer (some ⟨b19, 0, none⟩)), (6, .int .i64 (k5 : Int))] ?_
    refine sa M21 0 #[.int .i64 (l.getD k5 Blk.z).id, .int .i64 (l.getD k5 Blk.z).pos, .slice A15 (l.getD k5 Blk.z).w.length c16] fun w22 M23 => ?_
    refine to_end rfl (tn_code (tc_seq (tc_region ?_)))
    refine sg 2 [1, 9, 10, 11, 7, 6, 16, 17] [(1, .int .i64 a), (9, .slice (some ad11) l.length c), (10, .int .i64 (l.length : Int)), (11, .int .i64 (k5 : Int)), (7, .pointer (some ⟨b19, 0, none⟩)), (6, .int .i64 (k5 : Int)), (16, .int .i64 a), (17, .pointer (some ⟨b19, 1, none⟩))] ?_
    refine ld M23 0 18 (.int .i64 (l.getD k5 Blk.z).pos) ?_
    refine sg 2 [1, 9, 10, 11, 7, 6, 20] [(1, .int .i64 a), (9, .slice (some ad11) l.length c), (10, .int .i64 (l.length : Int)), (11, .int .i64 (k5 : Int)), (7, .pointer (some ⟨b19, 0, none⟩)), (6, .int .i64 (k5 : Int)), (20, .bool (decide (a ≥ (l.getD k5 Blk.z).pos)))] ?_
    rcases h24 : (decide (a ≥ (l.getD k5 Blk.z).pos) : Bool) with _ | _
    · have h24p := of_decide_eq_false h24
      refine sg 5 [1, 9, 10, 11, 7, 6, 25] [(1, .int .i64 a), (9, .slice (some ad11) l.length c), (10, .int .i64 (l.length : Int)), (11, .int .i64 (k5 : Int)), (7, .pointer (some ⟨b19, 0, none⟩)), (6, .int .i64 (k5 : Int)), (25, .bool false)] ?_
      refine to_end rfl (tn_code (tc_cond_f (fun _ => rfl) (tc_skip (tn_blk (tn_code (tc_region ?_))))))
      refine sg 2 [1, 9, 10, 11] [(1, .int .i64 a), (9, .slice (some ad11) l.length c), (10, .int .i64 (l.length : Int)), (11, .int .i64 (IntKind.wrap .i64 ((k5 : Int) + 1)))] ?_
      rw [show IntKind.wrap .i64 ((k5 : Int) + 1) = (((k5 + 1) : Nat) : Int) from wr_nat k5 1 (by omega)]
      refine to_end rfl ?_
      have M25 := M23.drop 0
      exact tn_back (k5 + 1) (Sub.cons rfl (Sub.cons rfl (Sub.cons rfl (Sub.cons rfl (Sub.nil _))))) ⟨by omega, step_no (p := (inBlk a)) (z := Blk.z) hi7 (by unfold inBlk; rw [Bool.and_eq_false_iff]; simp only [decide_eq_false_iff_not]; omega), M25⟩ (by omega)
    · have h24p := of_decide_eq_true h24
      refine sg 1 [1, 9, 10, 11, 7, 6, 20, 21] [(1, .int .i64 a), (9, .slice (some ad11) l.length c), (10, .int .i64 (l.length : Int)), (11, .int .i64 (k5 : Int)), (7, .pointer (some ⟨b19, 0, none⟩)), (6, .int .i64 (k5 : Int)), (20, .bool true), (21, .int .i64 a)] ?_
      refine la M23 0 22 #[.int .i64 (l.getD k5 Blk.z).id, .int .i64 (l.getD k5 Blk.z).pos, .slice A15 (l.getD k5 Blk.z).w.length c16] (hu := Try.underlying103) ?_
      refine cb M23 23 (end_any (l.getD k5 Blk.z) A15 c16 _ ⟨by omega, by omega⟩ (by omega)) fun w26 hb28 M27 => ?_
      refine sg 2 [1, 9, 10, 11, 7, 6, 25] [(1, .int .i64 a), (9, .slice (some ad11) l.length c), (10, .int .i64 (l.length : Int)), (11, .int .i64 (k5 : Int)), (7, .pointer (some ⟨b19, 0, none⟩)), (6, .int .i64 (k5 : Int)), (25, .bool (decide (a < (l.getD k5 Blk.z).fin)))] ?_
      refine to_end rfl (tn_code ?_)
      refine tc_cond (b := decide (a < (l.getD k5 Blk.z).fin)) (fun _ => rfl) (fun h29 => ?_) (fun h29 => ?_)
      · have h29p := of_decide_eq_true h29
        refine tc_seq ?_
        refine tc_drawL (fun w' => Mem w w' ([blk b19 #[.int .i64 (l.getD k5 Blk.z).id, .int .i64 (l.getD k5 Blk.z).pos, .slice A15 (l.getD k5 Blk.z).w.length c16] 103, blk b1 #[.int .i64 cap, .slice (some ad11) l.length c] 24])) [] (by kernel_rfl) ?_
        have M31 := M27.draw
        refine ty_take 0 26 (.int .i64 (k5 : Int)) (pok_cont pok_body) ?_ M31 (fun _ _ _ => by kernel_rfl)
        refine ty_take 1 27 (.int .i64 a) (pok_cont pok_body) ?_ M31 (fun _ _ _ => by kernel_rfl)
        refine ty_take 2 28 (.pointer (some ⟨b19, 1, none⟩)) (pok_cont pok_body) ?_ M31 (fun _ _ _ => by kernel_rfl)
        refine ty_take 3 29 (.int .i64 (l.getD k5 Blk.z).pos) (pok_cont pok_body) ?_ M31 (fun _ M' _ => rl M' 0)
        refine ty_take 4 30 (.int .i64 (IntKind.wrap .i64 (a - (l.getD k5 Blk.z).pos))) (pok_cont pok_body) ?_ M31 (fun _ _ _ => by kernel_rfl)
        rw [wr_i64 (x := a - (l.getD k5 Blk.z).pos) (by omega) (by omega)]
        refine ty_take 5 4 (.int .i64 (k5 : Int)) (pok_cont pok_body) ?_ M31 (fun _ _ _ => by kernel_rfl)
        refine ty_take 6 5 (.int .i64 (a - (l.getD k5 Blk.z).pos)) (pok_cont pok_body) ?_ M31 (fun _ _ _ => by kernel_rfl)
        refine ty_endL ?_
        refine tn_code (tc_ret ?_)
        refine tr_tmp2 rfl rfl rfl ?_
        have ho : ofM l a = (k5 : Int) := (idxF_at (p := (inBlk a)) (z := Blk.z) (by omega) hi7 (by unfold inBlk; rw [Bool.and_eq_true]; simp only [decide_eq_true_eq]; omega)).symm
        have hfn : (l.getD k5 Blk.z).fin = (l.getD k5 Blk.z).pos + (l.getD k5 Blk.z).w.length := rfl
        exact ⟨_, _, rfl, M31.below, .inr ⟨k5, (a - (l.getD k5 Blk.z).pos).toNat, rfl, by omega, ⟨by omega, by omega, by omega, ho⟩⟩⟩
      · have h29p := of_decide_eq_false h29
        refine tc_skip (tn_blk (tn_code (tc_region ?_)))
        refine sg 2 [1, 9, 10, 11] [(1, .int .i64 a), (9, .slice (some ad11) l.length c), (10, .int .i64 (l.length : Int)), (11, .int .i64 (IntKind.wrap .i64 ((k5 : Int) + 1)))] ?_
        rw [show IntKind.wrap .i64 ((k5 : Int) + 1) = (((k5 + 1) : Nat) : Int) from wr_nat k5 1 (by omega)]
        refine to_end rfl ?_
        have M32 := M27.drop 0
        exact tn_back (k5 + 1) (Sub.cons rfl (Sub.cons rfl (Sub.cons rfl (Sub.cons rfl (Sub.nil _))))) ⟨by omega, step_no (p := (inBlk a)) (z := Blk.z) hi7 (by unfold inBlk; rw [Bool.and_eq_false_iff]; simp only [decide_eq_false_iff_not]; omega), M32⟩ (by omega)
  · have h10p := of_decide_eq_false h10
    refine tc_exitK (k' := _) rfl (tn_code (tc_seq (tc_region ?_)))
    refine sg 2 [4, 5] [(4, .int .i64 (-1)), (5, .int .i64 0)] ?_
    refine to_end rfl (tn_code (tc_ret ?_))
    refine tr_tmp2 rfl rfl rfl ?_
    have ho : ofM l a = -1 := (idxF_no (p := (inBlk a)) (z := Blk.z) (fun j hj => hi7 j (by omega))).symm
    exact ⟨_, _, rfl, M9.below, .inl ⟨ho, rfl, rfl⟩⟩

set_option linter.unusedSimpArgs false in
theorem word_some (cap : Int) (l : List Blk) (A : Option Addr) (c : Nat) (a : Int) (w : World) (hC : kBlk.C w A l.length l) : Calls Try.prog 77 #[.agg #[.int .i64 cap, .slice A l.length c], .int .i64 a] w fun e w' => ∃ i q : Int, e = .returned (.tuple #[.int .i64 i, .int .i64 q]) ∧ Below w.heap.size w w' := by
  have M := Mem.refl w
  have hmx := C_max hC
  refine calls_tc (N := 32) (args := [.agg #[.int .i64 cap, .slice A l.length c], .int .i64 a]) Try.func77 rfl rfl rfl ?_
  refine tc_seq (tc_region ?_)
  refine nw M 2 #[.int .i64 cap, .slice A l.length c] 24 fun b1 w2 M3 => ?_
  refine sg 2 [1, 2] [(1, .int .i64 a), (2, .pointer (some ⟨b1, 0, none⟩))] ?_
  refine to_end rfl (tn_code (tc_seq (tc_seq (tc_region ?_))))
  refine sg 1 [1, 8] [(1, .int .i64 a), (8, .pointer (some ⟨b1, 1, none⟩))] ?_
  refine ld M3 0 9 (.slice A l.length c) ?_
  refine sg 2 [1, 9, 10, 11] [(1, .int .i64 a), (9, .slice A l.length c), (10, .int .i64 (l.length : Int)), (11, .int .i64 0)] ?_
  refine to_end rfl (tn_code (tc_block ?_))
  refine tc_loop (σ := Nat) (fun k5 => [(1, .int .i64 a), (9, .slice A l.length c), (10, .int .i64 (l.length : Int)), (11, .int .i64 (k5 : Int))]) (fun k5 w' => k5 ≤ l.length ∧ True ∧ Mem w w' [blk b1 #[.int .i64 cap, .slice A l.length c] 24]) (fun k5 => l.length - k5) 0 (Sub.cons rfl (Sub.cons rfl (Sub.cons rfl (Sub.cons rfl (Sub.nil _))))) ⟨Nat.zero_le _, trivial, M3⟩ ?_
  rintro k5 w8 ⟨hk6, hi7, M9⟩
  refine tc_seq (tc_region ?_)
  refine sg 1 [1, 9, 10, 11, 12] [(1, .int .i64 a), (9, .slice A l.length c), (10, .int .i64 (l.length : Int)), (11, .int .i64 (k5 : Int)), (12, .bool (decide ((k5 : Int) < (l.length : Int))))] ?_
  refine to_end rfl (tn_code (tc_seq ?_))
  refine tc_cond (b := decide ((k5 : Int) < (l.length : Int))) (fun _ => rfl) (fun h10 => ?_) (fun h10 => ?_)
  · have h10p := of_decide_eq_true h10
    refine tc_skip (tn_code (tc_seq (tc_block (tc_seq (tc_region ?_)))))
    refine sg 1 [1, 9, 10, 11, 13] [(1, .int .i64 a), (9, .slice A l.length c), (10, .int .i64 (l.length : Int)), (11, .int .i64 (k5 : Int)), (13, .int .i64 (k5 : Int))] ?_
    obtain ⟨ad11, rfl⟩ := C_some hC (k := k5) (by omega)
    refine ix (ad := ad11) (n := l.length) (c := c) 14 k5 3 (by omega) Try.underlying22 ?_
    obtain ⟨cs14, hk12, hc13⟩ := C_cell hC Blk.z k5 (by omega)
    obtain ⟨A15, c16, rfl, hl17, hC18⟩ := kBlk_open hk12
    refine lea 15 #[.int .i64 (l.getD k5 Blk.z).id, .int .i64 (l.getD k5 Blk.z).pos, .slice A15 (l.getD k5 Blk.z).w.length c16] (fun j u hj => cell_up M9 (hc13 j u hj)) (hu := Try.underlying103) ?_
    refine nw M9 7 #[.int .i64 0, .int .i64 0, .slice none 0 0] 103 fun b19 w20 M21 => ?_
    refine sg 1 [1, 9, 10, 11, 15, 7, 6] [(1, .int .i64 a), (9, .slice (some ad11) l.length c), (10, .int .i64 (l.length : Int)), (11, .int .i64 (k5 : Int)), (15, .agg #[.int .i64 (l.getD k5 Blk.z).id, .int .i64 (l.getD k5 Blk.z).pos, .slice A15 (l.getD k5 Blk.z).w.length c16]), (7, .pointer (some ⟨b19, 0, none⟩)), (6, .int .i64 (k5 : Int))] ?_
    refine sa M21 0 #[.int .i64 (l.getD k5 Blk.z).id, .int .i64 (l.getD k5 Blk.z).pos, .slice A15 (l.getD k5 Blk.z).w.length c16] fun w22 M23 => ?_
    refine to_end rfl (tn_code (tc_seq (tc_region ?_)))
    refine sg 2 [1, 9, 10, 11, 7, 6, 16, 17] [(1, .int .i64 a), (9, .slice (some ad11) l.length c), (10, .int .i64 (l.length : Int)), (11, .int .i64 (k5 : Int)), (7, .pointer (some ⟨b19, 0, none⟩)), (6, .int .i64 (k5 : Int)), (16, .int .i64 a), (17, .pointer (some ⟨b19, 1, none⟩))] ?_
    refine ld M23 0 18 (.int .i64 (l.getD k5 Blk.z).pos) ?_
    refine sg 2 [1, 9, 10, 11, 7, 6, 20] [(1, .int .i64 a), (9, .slice (some ad11) l.length c), (10, .int .i64 (l.length : Int)), (11, .int .i64 (k5 : Int)), (7, .pointer (some ⟨b19, 0, none⟩)), (6, .int .i64 (k5 : Int)), (20, .bool (decide (a ≥ (l.getD k5 Blk.z).pos)))] ?_
    rcases h24 : (decide (a ≥ (l.getD k5 Blk.z).pos) : Bool) with _ | _
    · have h24p := of_decide_eq_false h24
      refine sg 5 [1, 9, 10, 11, 7, 6, 25] [(1, .int .i64 a), (9, .slice (some ad11) l.length c), (10, .int .i64 (l.length : Int)), (11, .int .i64 (k5 : Int)), (7, .pointer (some ⟨b19, 0, none⟩)), (6, .int .i64 (k5 : Int)), (25, .bool false)] ?_
      refine to_end rfl (tn_code (tc_cond_f (fun _ => rfl) (tc_skip (tn_blk (tn_code (tc_region ?_))))))
      refine sg 2 [1, 9, 10, 11] [(1, .int .i64 a), (9, .slice (some ad11) l.length c), (10, .int .i64 (l.length : Int)), (11, .int .i64 (IntKind.wrap .i64 ((k5 : Int) + 1)))] ?_
      rw [show IntKind.wrap .i64 ((k5 : Int) + 1) = (((k5 + 1) : Nat) : Int) from wr_nat k5 1 (by omega)]
      refine to_end rfl ?_
      have M25 := M23.drop 0
      exact tn_back (k5 + 1) (Sub.cons rfl (Sub.cons rfl (Sub.cons rfl (Sub.cons rfl (Sub.nil _))))) ⟨by omega, trivial, M25⟩ (by omega)
    · have h24p := of_decide_eq_true h24
      refine sg 1 [1, 9, 10, 11, 7, 6, 20, 21] [(1, .int .i64 a), (9, .slice (some ad11) l.length c), (10, .int .i64 (l.length : Int)), (11, .int .i64 (k5 : Int)), (7, .pointer (some ⟨b19, 0, none⟩)), (6, .int .i64 (k5 : Int)), (20, .bool true), (21, .int .i64 a)] ?_
      refine la M23 0 22 #[.int .i64 (l.getD k5 Blk.z).id, .int .i64 (l.getD k5 Blk.z).pos, .slice A15 (l.getD k5 Blk.z).w.length c16] (hu := Try.underlying103) ?_
      refine cb M23 23 (end_some (l.getD k5 Blk.z) A15 c16 _) fun w26 hb28 M27 => ?_
      refine sg 2 [1, 9, 10, 11, 7, 6, 25] [(1, .int .i64 a), (9, .slice (some ad11) l.length c), (10, .int .i64 (l.length : Int)), (11, .int .i64 (k5 : Int)), (7, .pointer (some ⟨b19, 0, none⟩)), (6, .int .i64 (k5 : Int)), (25, .bool (decide (a < (IntKind.wrap .i64 ((l.getD k5 Blk.z).pos + ((l.getD k5 Blk.z).w.length : Int))))))] ?_
      refine to_end rfl (tn_code ?_)
      refine tc_cond (b := decide (a < (IntKind.wrap .i64 ((l.getD k5 Blk.z).pos + ((l.getD k5 Blk.z).w.length : Int))))) (fun _ => rfl) (fun h29 => ?_) (fun h29 => ?_)
      · have h29p := of_decide_eq_true h29
        refine tc_seq ?_
        refine tc_drawL (fun w' => Mem w w' ([blk b19 #[.int .i64 (l.getD k5 Blk.z).id, .int .i64 (l.getD k5 Blk.z).pos, .slice A15 (l.getD k5 Blk.z).w.length c16] 103, blk b1 #[.int .i64 cap, .slice (some ad11) l.length c] 24])) [] (by kernel_rfl) ?_
        have M31 := M27.draw
        refine ty_take 0 26 (.int .i64 (k5 : Int)) (pok_cont pok_body) ?_ M31 (fun _ _ _ => by kernel_rfl)
        refine ty_take 1 27 (.int .i64 a) (pok_cont pok_body) ?_ M31 (fun _ _ _ => by kernel_rfl)
        refine ty_take 2 28 (.pointer (some ⟨b19, 1, none⟩)) (pok_cont pok_body) ?_ M31 (fun _ _ _ => by kernel_rfl)
        refine ty_take 3 29 (.int .i64 (l.getD k5 Blk.z).pos) (pok_cont pok_body) ?_ M31 (fun _ M' _ => rl M' 0)
        refine ty_take 4 30 (.int .i64 (IntKind.wrap .i64 (a - (l.getD k5 Blk.z).pos))) (pok_cont pok_body) ?_ M31 (fun _ _ _ => by kernel_rfl)
        refine ty_take 5 4 (.int .i64 (k5 : Int)) (pok_cont pok_body) ?_ M31 (fun _ _ _ => by kernel_rfl)
        refine ty_take 6 5 (.int .i64 (IntKind.wrap .i64 (a - (l.getD k5 Blk.z).pos))) (pok_cont pok_body) ?_ M31 (fun _ _ _ => by kernel_rfl)
        refine ty_endL ?_
        refine tn_code (tc_ret ?_)
        refine tr_tmp2 rfl rfl rfl ?_
        exact ⟨_, _, rfl, M31.below⟩
      · have h29p := of_decide_eq_false h29
        refine tc_skip (tn_blk (tn_code (tc_region ?_)))
        refine sg 2 [1, 9, 10, 11] [(1, .int .i64 a), (9, .slice (some ad11) l.length c), (10, .int .i64 (l.length : Int)), (11, .int .i64 (IntKind.wrap .i64 ((k5 : Int) + 1)))] ?_
        rw [show IntKind.wrap .i64 ((k5 : Int) + 1) = (((k5 + 1) : Nat) : Int) from wr_nat k5 1 (by omega)]
        refine to_end rfl ?_
        have M32 := M27.drop 0
        exact tn_back (k5 + 1) (Sub.cons rfl (Sub.cons rfl (Sub.cons rfl (Sub.cons rfl (Sub.nil _))))) ⟨by omega, trivial, M32⟩ (by omega)
  · have h10p := of_decide_eq_false h10
    refine tc_exitK (k' := _) rfl (tn_code (tc_seq (tc_region ?_)))
    refine sg 2 [4, 5] [(4, .int .i64 (-1)), (5, .int .i64 0)] ?_
    refine to_end rfl (tn_code (tc_ret ?_))
    refine tr_tmp2 rfl rfl rfl ?_
    exact ⟨_, _, rfl, M9.below⟩
end Go.Proofs.Ytfknhbgghpbkpaa
