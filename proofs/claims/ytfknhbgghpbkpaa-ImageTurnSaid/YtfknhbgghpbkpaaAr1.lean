/- Layer 13, the document's answer: what may be. -/
import Derived.Test.YtfknhbgghpbkpaaAr0
import Derived.Test.YtfknhbgghpbkpaaInst8
namespace Go.Proofs.Ytfknhbgghpbkpaa
open Go.RowKit Cal Go.Proofs.YtfknhbgghpbkpaaW.PrintWords
set_option linter.unusedSimpArgs false in
theorem new_any (cap : Int) (w : World) : Calls Try.prog 29 #[.int .i64 cap] w fun e w' => e = .returned (.tuple #[.agg #[.int .i64 (newM cap).1, .slice none 0 0], .int .i64 (newM cap).2]) ∧ Below w.heap.size w w' := by
  have M := Mem.refl w
  refine calls_tc (N := 13) (args := [.int .i64 cap]) Try.func29 rfl rfl rfl ?_
  refine tc_seq (tc_region ?_)
  refine nw M 2 #[.int .i64 0, .slice none 0 0] 24 fun b1 w2 M3 => ?_
  refine sg 1 [0, 2] [(0, .int .i64 cap), (2, .pointer (some ⟨b1, 0, none⟩))] ?_
  refine to_end rfl (tn_code (tc_seq (tc_seq (tc_region ?_))))
  refine join (fr' := [(0, .int .i64 cap), (2, .pointer (some ⟨b1, 0, none⟩)), (9, .bool ((decide (cap < 0)) || (decide (cap > 1024))))]) (fun hj_ => ?_) ?_
  · refine sg 3 [0, 2, 6] [(0, .int .i64 cap), (2, .pointer (some ⟨b1, 0, none⟩)), (6, .bool (decide (cap < 0)))] ?_
    rcases bdi (decide (cap < 0) : Bool) with h4 | h4
    · have h4p := of_decide_eq_false h4
      rw [h4]
      refine sg 3 [0, 2, 9] [(0, .int .i64 cap), (2, .pointer (some ⟨b1, 0, none⟩)), (9, .bool (decide (cap > 1024)))] ?_
      refine to_end rfl ?_
      rw [show ((decide (cap < 0)) || (decide (cap > 1024)) : Bool) = (decide (cap > 1024)) from by (simp only [h4, Bool.true_or, Bool.false_or, Bool.or_true, Bool.or_false, Bool.true_and, Bool.false_and, Bool.and_true, Bool.and_false, Bool.not_true, Bool.not_false, cond_true, cond_false, if_true, reduceIte]) <;> rfl] at hj_
      exact hj_.sub (Sub.cons rfl (Sub.cons rfl (Sub.cons rfl (Sub.nil _))))
    · have h4p := of_decide_eq_true h4
      rw [h4]
      refine sg 3 [0, 2, 9] [(0, .int .i64 cap), (2, .pointer (some ⟨b1, 0, none⟩)), (9, .bool true)] ?_
      refine to_end rfl ?_
      rw [show ((decide (cap < 0)) || (decide (cap > 1024)) : Bool) = true from by (simp only [h4, Bool.true_or, Bool.false_or, Bool.or_true, Bool.or_false, Bool.true_and, Bool.false_and, Bool.and_true, Bool.and_false, Bool.not_true, Bool.not_false, cond_true, cond_false, if_true, reduceIte]) <;> rfl] at hj_
      exact hj_.sub (Sub.cons rfl (Sub.cons rfl (Sub.cons rfl (Sub.nil _))))
  refine tn_code ?_
  refine tc_cond (b := (decide (cap < 0)) || (decide (cap > 1024))) (fun _ => rfl) (fun h5 => ?_) (fun h5 => ?_)
  · have h5p := h5
    simp only [Bool.or_eq_true, Bool.and_eq_true, Bool.or_eq_false_iff, Bool.and_eq_false_iff, decide_eq_true_eq, decide_eq_false_iff_not, beq_iff_eq, bne_iff_ne, beq_eq_false_iff_ne, bne_eq_false_iff_eq, Bool.not_eq_true', Bool.not_eq_false', ne_eq] at h5p
    refine tc_seq (tc_region ?_)
    refine sg 1 [2, 10] [(2, .pointer (some ⟨b1, 0, none⟩)), (10, .agg #[.int .i64 0, .slice none 0 0])] ?_
    refine sa M3 0 #[.int .i64 0, .slice none 0 0] fun w6 M7 => ?_
    refine sg 1 [2, 3] [(2, .pointer (some ⟨b1, 0, none⟩)), (3, .int .i64 1)] ?_
    refine to_end rfl (tn_code (tc_ret ?_))
    refine tr_cell_tmp M7 0 rfl rfl rfl rfl Try.underlying24 rfl (by kernel_rfl) ?_
    exact ⟨congrArg Ending.returned (by unfold newM; rw [if_neg (by omega)]), M7.below⟩
  · have h5p := h5
    simp only [Bool.or_eq_true, Bool.and_eq_true, Bool.or_eq_false_iff, Bool.and_eq_false_iff, decide_eq_true_eq, decide_eq_false_iff_not, beq_iff_eq, bne_iff_ne, beq_eq_false_iff_ne, bne_eq_false_iff_eq, Bool.not_eq_true', Bool.not_eq_false', ne_eq] at h5p
    refine tc_skip (tn_code (tc_seq (tc_region ?_)))
    refine sg 2 [2, 12] [(2, .pointer (some ⟨b1, 0, none⟩)), (12, .agg #[.int .i64 cap, .slice none 0 0])] ?_
    refine sa M3 0 #[.int .i64 cap, .slice none 0 0] fun w8 M9 => ?_
    refine sg 1 [2, 3] [(2, .pointer (some ⟨b1, 0, none⟩)), (3, .int .i64 0)] ?_
    refine to_end rfl (tn_code (tc_ret ?_))
    refine tr_cell_tmp M9 0 rfl rfl rfl rfl Try.underlying24 rfl (by kernel_rfl) ?_
    exact ⟨congrArg Ending.returned (by unfold newM; rw [if_pos (by omega)]), M9.below⟩

set_option linter.unusedSimpArgs false in
theorem rnew_any (cap : Int) (w : World) : Calls Try.prog 30 #[.int .i64 cap] w fun e w' => e = .returned (.tuple #[.agg #[.int .i64 (newM cap).1, .slice none 0 0], .int .i64 (newM cap).2]) ∧ Below w.heap.size w w' := by
  have M := Mem.refl w
  refine calls_tc (N := 13) (args := [.int .i64 cap]) Try.func30 rfl rfl rfl ?_
  refine tc_seq (tc_region ?_)
  refine nw M 2 #[.int .i64 0, .slice none 0 0] 24 fun b1 w2 M3 => ?_
  refine sg 1 [0, 2] [(0, .int .i64 cap), (2, .pointer (some ⟨b1, 0, none⟩))] ?_
  refine to_end rfl (tn_code (tc_seq (tc_seq (tc_region ?_))))
  refine join (fr' := [(0, .int .i64 cap), (2, .pointer (some ⟨b1, 0, none⟩)), (9, .bool ((decide (cap < 0)) || (decide (cap > 1024))))]) (fun hj_ => ?_) ?_
  · refine sg 3 [0, 2, 6] [(0, .int .i64 cap), (2, .pointer (some ⟨b1, 0, none⟩)), (6, .bool (decide (cap < 0)))] ?_
    rcases bdi (decide (cap < 0) : Bool) with h4 | h4
    · have h4p := of_decide_eq_false h4
      rw [h4]
      refine sg 3 [0, 2, 9] [(0, .int .i64 cap), (2, .pointer (some ⟨b1, 0, none⟩)), (9, .bool (decide (cap > 1024)))] ?_
      refine to_end rfl ?_
      rw [show ((decide (cap < 0)) || (decide (cap > 1024)) : Bool) = (decide (cap > 1024)) from by (simp only [h4, Bool.true_or, Bool.false_or, Bool.or_true, Bool.or_false, Bool.true_and, Bool.false_and, Bool.and_true, Bool.and_false, Bool.not_true, Bool.not_false, cond_true, cond_false, if_true, reduceIte]) <;> rfl] at hj_
      exact hj_.sub (Sub.cons rfl (Sub.cons rfl (Sub.cons rfl (Sub.nil _))))
    · have h4p := of_decide_eq_true h4
      rw [h4]
      refine sg 3 [0, 2, 9] [(0, .int .i64 cap), (2, .pointer (some ⟨b1, 0, none⟩)), (9, .bool true)] ?_
      refine to_end rfl ?_
      rw [show ((decide (cap < 0)) || (decide (cap > 1024)) : Bool) = true from by (simp only [h4, Bool.true_or, Bool.false_or, Bool.or_true, Bool.or_false, Bool.true_and, Bool.false_and, Bool.and_true, Bool.and_false, Bool.not_true, Bool.not_false, cond_true, cond_false, if_true, reduceIte]) <;> rfl] at hj_
      exact hj_.sub (Sub.cons rfl (Sub.cons rfl (Sub.cons rfl (Sub.nil _))))
  refine tn_code ?_
  refine tc_cond (b := (decide (cap < 0)) || (decide (cap > 1024))) (fun _ => rfl) (fun h5 => ?_) (fun h5 => ?_)
  · have h5p := h5
    simp only [Bool.or_eq_true, Bool.and_eq_true, Bool.or_eq_false_iff, Bool.and_eq_false_iff, decide_eq_true_eq, decide_eq_false_iff_not, beq_iff_eq, bne_iff_ne, beq_eq_false_iff_ne, bne_eq_false_iff_eq, Bool.not_eq_true', Bool.not_eq_false', ne_eq] at h5p
    refine tc_seq (tc_region ?_)
    refine sg 1 [2, 10] [(2, .pointer (some ⟨b1, 0, none⟩)), (10, .agg #[.int .i64 0, .slice none 0 0])] ?_
    refine sa M3 0 #[.int .i64 0, .slice none 0 0] fun w6 M7 => ?_
    refine sg 1 [2, 3] [(2, .pointer (some ⟨b1, 0, none⟩)), (3, .int .i64 1)] ?_
    refine to_end rfl (tn_code (tc_ret ?_))
    refine tr_cell_tmp M7 0 rfl rfl rfl rfl Try.underlying24 rfl (by kernel_rfl) ?_
    exact ⟨congrArg Ending.returned (by unfold newM; rw [if_neg (by omega)]), M7.below⟩
  · have h5p := h5
    simp only [Bool.or_eq_true, Bool.and_eq_true, Bool.or_eq_false_iff, Bool.and_eq_false_iff, decide_eq_true_eq, decide_eq_false_iff_not, beq_iff_eq, bne_iff_ne, beq_eq_false_iff_ne, bne_eq_false_iff_eq, Bool.not_eq_true', Bool.not_eq_false', ne_eq] at h5p
    refine tc_skip (tn_code (tc_seq (tc_region ?_)))
    refine sg 2 [2, 12] [(2, .pointer (some ⟨b1, 0, none⟩)), (12, .agg #[.int .i64 cap, .slice none 0 0])] ?_
    refine sa M3 0 #[.int .i64 cap, .slice none 0 0] fun w8 M9 => ?_
    refine sg 1 [2, 3] [(2, .pointer (some ⟨b1, 0, none⟩)), (3, .int .i64 0)] ?_
    refine to_end rfl (tn_code (tc_ret ?_))
    refine tr_cell_tmp M9 0 rfl rfl rfl rfl Try.underlying24 rfl (by kernel_rfl) ?_
    exact ⟨congrArg Ending.returned (by unfold newM; rw [if_pos (by omega)]), M9.below⟩

set_option linter.unusedSimpArgs false in
theorem rmay13_any (cap : Int) (l : List Blk) (A : Option Addr) (c : Nat) (w : World) (hC : kBlk.C w A l.length l) (hsm : ∀ j, (l.getD j Blk.z).w.length ≤ 1000000) : Calls Try.prog 34 #[.agg #[.int .i64 cap, .slice A l.length c]] w fun e w' => e = .returned (.bool (mMay cap l)) ∧ Below w.heap.size w w' := by
  have M := Mem.refl w
  have hmx := C_max hC
  refine calls_tc (N := 93) (args := [.agg #[.int .i64 cap, .slice A l.length c]]) Try.func34 rfl rfl rfl ?_
  refine tc_seq (tc_region ?_)
  refine nw M 1 #[.int .i64 cap, .slice A l.length c] 24 fun b1 w2 M3 => ?_
  refine sg 1 [1] [(1, .pointer (some ⟨b1, 0, none⟩))] ?_
  refine to_end rfl (tn_code (tc_seq (tc_seq (tc_region ?_))))
  refine join (fr' := [(1, .pointer (some ⟨b1, 0, none⟩)), (13, .bool ((decide (cap < 0)) || (decide (cap > 1024))))]) (fun hj_ => ?_) ?_
  · refine sg 1 [1, 6] [(1, .pointer (some ⟨b1, 0, none⟩)), (6, .pointer (some ⟨b1, 0, none⟩))] ?_
    refine ld M3 0 7 (.int .i64 cap) ?_
    refine sg 2 [1, 9] [(1, .pointer (some ⟨b1, 0, none⟩)), (9, .bool (decide (cap < 0)))] ?_
    rcases bdi (decide (cap < 0) : Bool) with h4 | h4
    · have h4p := of_decide_eq_false h4
      rw [h4]
      refine sg 1 [1, 9, 10] [(1, .pointer (some ⟨b1, 0, none⟩)), (9, .bool false), (10, .pointer (some ⟨b1, 0, none⟩))] ?_
      refine ld M3 0 11 (.int .i64 cap) ?_
      refine sg 2 [1, 13] [(1, .pointer (some ⟨b1, 0, none⟩)), (13, .bool (decide (cap > 1024)))] ?_
      refine to_end rfl ?_
      rw [show ((decide (cap < 0)) || (decide (cap > 1024)) : Bool) = (decide (cap > 1024)) from by (simp only [h4, Bool.true_or, Bool.false_or, Bool.or_true, Bool.or_false, Bool.true_and, Bool.false_and, Bool.and_true, Bool.and_false, Bool.not_true, Bool.not_false, cond_true, cond_false, if_true, reduceIte]) <;> rfl] at hj_
      exact hj_.sub (Sub.cons rfl (Sub.cons rfl (Sub.nil _)))
    · have h4p := of_decide_eq_true h4
      rw [h4]
      refine sg 4 [1, 13] [(1, .pointer (some ⟨b1, 0, none⟩)), (13, .bool true)] ?_
      refine to_end rfl ?_
      rw [show ((decide (cap < 0)) || (decide (cap > 1024)) : Bool) = true from by (simp only [h4, Bool.true_or, Bool.false_or, Bool.or_true, Bool.or_false, Bool.true_and, Bool.false_and, Bool.and_true, Bool.and_false, Bool.not_true, Bool.not_false, cond_true, cond_false, if_true, reduceIte]) <;> rfl] at hj_
      exact hj_.sub (Sub.cons rfl (Sub.cons rfl (Sub.nil _)))
  refine tn_code ?_
  refine tc_cond (b := (decide (cap < 0)) || (decide (cap > 1024))) (fun _ => rfl) (fun h5 => ?_) (fun h5 => ?_)
  · have h5p := h5
    simp only [Bool.or_eq_true, Bool.and_eq_true, Bool.or_eq_false_iff, Bool.and_eq_false_iff, decide_eq_true_eq, decide_eq_false_iff_not, beq_iff_eq, bne_iff_ne, beq_eq_false_iff_ne, bne_eq_false_iff_eq, Bool.not_eq_true', Bool.not_eq_false', ne_eq] at h5p
    refine tc_seq (tc_region ?_)
    refine sg 1 [2] [(2, .bool false)] ?_
    refine to_end rfl (tn_code (tc_ret ?_))
    refine tr_tmp rfl rfl ?_
    exact ⟨congrArg Ending.returned (congrArg Value.bool (may_cap13 (by omega))), M3.below⟩
  · have h5p := h5
    simp only [Bool.or_eq_true, Bool.and_eq_true, Bool.or_eq_false_iff, Bool.and_eq_false_iff, decide_eq_true_eq, decide_eq_false_iff_not, beq_iff_eq, bne_iff_ne, beq_eq_false_iff_ne, bne_eq_false_iff_eq, Bool.not_eq_true', Bool.not_eq_false', ne_eq] at h5p
    refine tc_skip (tn_code (tc_seq (tc_seq (tc_region ?_))))
    refine sg 1 [1, 3] [(1, .pointer (some ⟨b1, 0, none⟩)), (3, .int .i64 0)] ?_
    refine to_end rfl (tn_code (tc_block ?_))
    refine tc_loop (σ := Nat) (fun k7 => [(1, .pointer (some ⟨b1, 0, none⟩)), (3, .int .i64 (k7 : Int))]) (fun k7 w' => k7 ≤ l.length ∧ (∀ j, j < k7 → okAt cap l j) ∧ Mem w w' [blk b1 #[.int .i64 cap, .slice A l.length c] 24]) (fun k7 => l.length - k7) 0 (Sub.cons rfl (Sub.cons rfl (Sub.nil _))) ⟨Nat.zero_le _, fun j hj => absurd hj (Nat.not_lt_zero _), M3⟩ ?_
    rintro k7 w10 ⟨hk8, hi9, M11⟩
    have hlm := hsm k7
    have hlp := hsm (k7 - 1)
    have hpv : 0 < k7 → 0 ≤ (l.getD (k7 - 1) Blk.z).pos ∧ (l.getD (k7 - 1) Blk.z).pos ≤ 1024 := fun h0_ => by obtain ⟨o1, o2, o3, o4, o5, o6, o7⟩ := hi9 (k7 - 1) (by omega); omega
    refine tc_seq (tc_seq (tc_region ?_))
    refine sg 2 [1, 3, 14, 15] [(1, .pointer (some ⟨b1, 0, none⟩)), (3, .int .i64 (k7 : Int)), (14, .int .i64 (k7 : Int)), (15, .pointer (some ⟨b1, 1, none⟩))] ?_
    refine ld M11 0 16 (.slice A l.length c) ?_
    refine sg 2 [1, 3, 18] [(1, .pointer (some ⟨b1, 0, none⟩)), (3, .int .i64 (k7 : Int)), (18, .bool (decide ((k7 : Int) < (l.length : Int))))] ?_
    refine to_end rfl (tn_code ?_)
    refine tc_cond (b := decide ((k7 : Int) < (l.length : Int))) (fun _ => rfl) (fun h12 => ?_) (fun h12 => ?_)
    · have h12p := of_decide_eq_true h12
      refine tc_skip (tn_code (tc_seq (tc_block (tc_seq (tc_region ?_)))))
      refine sg 1 [1, 3, 21] [(1, .pointer (some ⟨b1, 0, none⟩)), (3, .int .i64 (k7 : Int)), (21, .pointer (some ⟨b1, 1, none⟩))] ?_
      refine ld M11 0 22 (.slice A l.length c) ?_
      refine sg 1 [1, 3, 22, 23] [(1, .pointer (some ⟨b1, 0, none⟩)), (3, .int .i64 (k7 : Int)), (22, .slice A l.length c), (23, .int .i64 (k7 : Int))] ?_
      obtain ⟨ad13, rfl⟩ := C_some hC (k := k7) (by omega)
      refine ix (ad := ad13) (n := l.length) (c := c) 24 k7 3 (by omega) Try.underlying22 ?_
      obtain ⟨cs16, hk14, hc15⟩ := C_cell hC Blk.z k7 (by omega)
      obtain ⟨A17, c18, rfl, hl19, hC20⟩ := kBlk_open hk14
      refine lea 25 #[.int .i64 (l.getD k7 Blk.z).id, .int .i64 (l.getD k7 Blk.z).pos, .slice A17 (l.getD k7 Blk.z).w.length c18] (fun j u hj => cell_up M11 (hc15 j u hj)) (hu := Try.underlying103) ?_
      refine nw M11 4 #[.int .i64 0, .int .i64 0, .slice none 0 0] 103 fun b21 w22 M23 => ?_
      refine sa M23 0 #[.int .i64 (l.getD k7 Blk.z).id, .int .i64 (l.getD k7 Blk.z).pos, .slice A17 (l.getD k7 Blk.z).w.length c18] fun w24 M25 => ?_
      refine to_end rfl (tn_code (tc_seq (tc_seq (tc_region ?_))))
      refine join (fr' := [(1, .pointer (some ⟨b1, 0, none⟩)), (3, .int .i64 (k7 : Int)), (4, .pointer (some ⟨b21, 0, none⟩)), (55, .bool (((((decide ((l.getD k7 Blk.z).id < 1)) || (decide (((l.getD k7 Blk.z).w.length : Int) < 1))) || (decide ((l.getD k7 Blk.z).pos < 0))) || (decide ((l.getD k7 Blk.z).pos > 1024))) || (decide (((l.getD k7 Blk.z).pos + ((l.getD k7 Blk.z).w.length : Int)) > cap))))]) (fun hj_ => ?_) ?_
      · refine sg 1 [1, 3, 4, 26] [(1, .pointer (some ⟨b1, 0, none⟩)), (3, .int .i64 (k7 : Int)), (4, .pointer (some ⟨b21, 0, none⟩)), (26, .pointer (some ⟨b21, 0, none⟩))] ?_
        refine ld M25 0 27 (.int .i64 (l.getD k7 Blk.z).id) ?_
        refine sg 2 [1, 3, 4, 29] [(1, .pointer (some ⟨b1, 0, none⟩)), (3, .int .i64 (k7 : Int)), (4, .pointer (some ⟨b21, 0, none⟩)), (29, .bool (decide ((l.getD k7 Blk.z).id < 1)))] ?_
        rcases bdi (decide ((l.getD k7 Blk.z).id < 1) : Bool) with h26 | h26
        · have h26p := of_decide_eq_false h26
          rw [h26]
          refine sg 1 [1, 3, 4, 29, 30] [(1, .pointer (some ⟨b1, 0, none⟩)), (3, .int .i64 (k7 : Int)), (4, .pointer (some ⟨b21, 0, none⟩)), (29, .bool false), (30, .pointer (some ⟨b21, 2, none⟩))] ?_
          refine ld M25 0 31 (.slice A17 (l.getD k7 Blk.z).w.length c18) ?_
          refine sg 4 [1, 3, 4, 35] [(1, .pointer (some ⟨b1, 0, none⟩)), (3, .int .i64 (k7 : Int)), (4, .pointer (some ⟨b21, 0, none⟩)), (35, .bool (decide (((l.getD k7 Blk.z).w.length : Int) < 1)))] ?_
          rcases bdi (decide (((l.getD k7 Blk.z).w.length : Int) < 1) : Bool) with h27 | h27
          · have h27p := of_decide_eq_false h27
            rw [h27]
            refine sg 1 [1, 3, 4, 35, 36] [(1, .pointer (some ⟨b1, 0, none⟩)), (3, .int .i64 (k7 : Int)), (4, .pointer (some ⟨b21, 0, none⟩)), (35, .bool false), (36, .pointer (some ⟨b21, 1, none⟩))] ?_
            refine ld M25 0 37 (.int .i64 (l.getD k7 Blk.z).pos) ?_
            refine sg 3 [1, 3, 4, 40] [(1, .pointer (some ⟨b1, 0, none⟩)), (3, .int .i64 (k7 : Int)), (4, .pointer (some ⟨b21, 0, none⟩)), (40, .bool (decide ((l.getD k7 Blk.z).pos < 0)))] ?_
            rcases bdi (decide ((l.getD k7 Blk.z).pos < 0) : Bool) with h28 | h28
            · have h28p := of_decide_eq_false h28
              rw [h28]
              refine sg 1 [1, 3, 4, 40, 41] [(1, .pointer (some ⟨b1, 0, none⟩)), (3, .int .i64 (k7 : Int)), (4, .pointer (some ⟨b21, 0, none⟩)), (40, .bool false), (41, .pointer (some ⟨b21, 1, none⟩))] ?_
              refine ld M25 0 42 (.int .i64 (l.getD k7 Blk.z).pos) ?_
              refine sg 3 [1, 3, 4, 45] [(1, .pointer (some ⟨b1, 0, none⟩)), (3, .int .i64 (k7 : Int)), (4, .pointer (some ⟨b21, 0, none⟩)), (45, .bool (decide ((l.getD k7 Blk.z).pos > 1024)))] ?_
              rcases bdi (decide ((l.getD k7 Blk.z).pos > 1024) : Bool) with h29 | h29
              · have h29p := of_decide_eq_false h29
                rw [h29]
                refine sg 1 [1, 3, 4, 45, 46] [(1, .pointer (some ⟨b1, 0, none⟩)), (3, .int .i64 (k7 : Int)), (4, .pointer (some ⟨b21, 0, none⟩)), (45, .bool false), (46, .pointer (some ⟨b21, 1, none⟩))] ?_
                refine ld M25 0 47 (.int .i64 (l.getD k7 Blk.z).pos) ?_
                refine sg 1 [1, 3, 4, 45, 47, 48] [(1, .pointer (some ⟨b1, 0, none⟩)), (3, .int .i64 (k7 : Int)), (4, .pointer (some ⟨b21, 0, none⟩)), (45, .bool false), (47, .int .i64 (l.getD k7 Blk.z).pos), (48, .pointer (some ⟨b21, 2, none⟩))] ?_
                refine ld M25 0 49 (.slice A17 (l.getD k7 Blk.z).w.length c18) ?_
                refine sg 3 [1, 3, 4, 45, 51, 52] [(1, .pointer (some ⟨b1, 0, none⟩)), (3, .int .i64 (k7 : Int)), (4, .pointer (some ⟨b21, 0, none⟩)), (45, .bool false), (51, .int .i64 (IntKind.wrap .i64 ((l.getD k7 Blk.z).pos + ((l.getD k7 Blk.z).w.length : Int)))), (52, .pointer (some ⟨b1, 0, none⟩))] ?_
                rw [wr_i64 (x := (l.getD k7 Blk.z).pos + ((l.getD k7 Blk.z).w.length : Int)) (by omega) (by omega)]
                refine ld M25 1 53 (.int .i64 cap) ?_
                refine sg 2 [1, 3, 4, 55] [(1, .pointer (some ⟨b1, 0, none⟩)), (3, .int .i64 (k7 : Int)), (4, .pointer (some ⟨b21, 0, none⟩)), (55, .bool (decide (((l.getD k7 Blk.z).pos + ((l.getD k7 Blk.z).w.length : Int)) > cap)))] ?_
                refine to_end rfl ?_
                rw [show (((((decide ((l.getD k7 Blk.z).id < 1)) || (decide (((l.getD k7 Blk.z).w.length : Int) < 1))) || (decide ((l.getD k7 Blk.z).pos < 0))) || (decide ((l.getD k7 Blk.z).pos > 1024))) || (decide (((l.getD k7 Blk.z).pos + ((l.getD k7 Blk.z).w.length : Int)) > cap)) : Bool) = (decide (((l.getD k7 Blk.z).pos + ((l.getD k7 Blk.z).w.length : Int)) > cap)) from by (simp only [h26, h27, h28, h29, Bool.true_or, Bool.false_or, Bool.or_true, Bool.or_false, Bool.true_and, Bool.false_and, Bool.and_true, Bool.and_false, Bool.not_true, Bool.not_false, cond_true, cond_false, if_true, reduceIte]) <;> rfl] at hj_
                exact hj_.sub (Sub.cons rfl (Sub.cons rfl (Sub.cons rfl (Sub.cons rfl (Sub.nil _)))))
              · have h29p := of_decide_eq_true h29
                rw [h29]
                refine sg 10 [1, 3, 4, 55] [(1, .pointer (some ⟨b1, 0, none⟩)), (3, .int .i64 (k7 : Int)), (4, .pointer (some ⟨b21, 0, none⟩)), (55, .bool true)] ?_
                refine to_end rfl ?_
                rw [show (((((decide ((l.getD k7 Blk.z).id < 1)) || (decide (((l.getD k7 Blk.z).w.length : Int) < 1))) || (decide ((l.getD k7 Blk.z).pos < 0))) || (decide ((l.getD k7 Blk.z).pos > 1024))) || (decide (((l.getD k7 Blk.z).pos + ((l.getD k7 Blk.z).w.length : Int)) > cap)) : Bool) = true from by (simp only [h26, h27, h28, h29, Bool.true_or, Bool.false_or, Bool.or_true, Bool.or_false, Bool.true_and, Bool.false_and, Bool.and_true, Bool.and_false, Bool.not_true, Bool.not_false, cond_true, cond_false, if_true, reduceIte]) <;> rfl] at hj_
                exact hj_.sub (Sub.cons rfl (Sub.cons rfl (Sub.cons rfl (Sub.cons rfl (Sub.nil _)))))
            · have h28p := of_decide_eq_true h28
              rw [h28]
              refine sg 15 [1, 3, 4, 55] [(1, .pointer (some ⟨b1, 0, none⟩)), (3, .int .i64 (k7 : Int)), (4, .pointer (some ⟨b21, 0, none⟩)), (55, .bool true)] ?_
              refine to_end rfl ?_
              rw [show (((((decide ((l.getD k7 Blk.z).id < 1)) || (decide (((l.getD k7 Blk.z).w.length : Int) < 1))) || (decide ((l.getD k7 Blk.z).pos < 0))) || (decide ((l.getD k7 Blk.z).pos > 1024))) || (decide (((l.getD k7 Blk.z).pos + ((l.getD k7 Blk.z).w.length : Int)) > cap)) : Bool) = true from by (simp only [h26, h27, h28, Bool.true_or, Bool.false_or, Bool.or_true, Bool.or_false, Bool.true_and, Bool.false_and, Bool.and_true, Bool.and_false, Bool.not_true, Bool.not_false, cond_true, cond_false, if_true, reduceIte]) <;> rfl] at hj_
              exact hj_.sub (Sub.cons rfl (Sub.cons rfl (Sub.cons rfl (Sub.cons rfl (Sub.nil _)))))
          · have h27p := of_decide_eq_true h27
            rw [h27]
            refine sg 20 [1, 3, 4, 55] [(1, .pointer (some ⟨b1, 0, none⟩)), (3, .int .i64 (k7 : Int)), (4, .pointer (some ⟨b21, 0, none⟩)), (55, .bool true)] ?_
            refine to_end rfl ?_
            rw [show (((((decide ((l.getD k7 Blk.z).id < 1)) || (decide (((l.getD k7 Blk.z).w.length : Int) < 1))) || (decide ((l.getD k7 Blk.z).pos < 0))) || (decide ((l.getD k7 Blk.z).pos > 1024))) || (decide (((l.getD k7 Blk.z).pos + ((l.getD k7 Blk.z).w.length : Int)) > cap)) : Bool) = true from by (simp only [h26, h27, Bool.true_or, Bool.false_or, Bool.or_true, Bool.or_false, Bool.true_and, Bool.false_and, Bool.and_true, Bool.and_false, Bool.not_true, Bool.not_false, cond_true, cond_false, if_true, reduceIte]) <;> rfl] at hj_
            exact hj_.sub (Sub.cons rfl (Sub.cons rfl (Sub.cons rfl (Sub.cons rfl (Sub.nil _)))))
        · have h26p := of_decide_eq_true h26
          rw [h26]
          refine sg 26 [1, 3, 4, 55] [(1, .pointer (some ⟨b1, 0, none⟩)), (3, .int .i64 (k7 : Int)), (4, .pointer (some ⟨b21, 0, none⟩)), (55, .bool true)] ?_
          refine to_end rfl ?_
          rw [show (((((decide ((l.getD k7 Blk.z).id < 1)) || (decide (((l.getD k7 Blk.z).w.length : Int) < 1))) || (decide ((l.getD k7 Blk.z).pos < 0))) || (decide ((l.getD k7 Blk.z).pos > 1024))) || (decide (((l.getD k7 Blk.z).pos + ((l.getD k7 Blk.z).w.length : Int)) > cap)) : Bool) = true from by (simp only [h26, Bool.true_or, Bool.false_or, Bool.or_true, Bool.or_false, Bool.true_and, Bool.false_and, Bool.and_true, Bool.and_false, Bool.not_true, Bool.not_false, cond_true, cond_false, if_true, reduceIte]) <;> rfl] at hj_
          exact hj_.sub (Sub.cons rfl (Sub.cons rfl (Sub.cons rfl (Sub.cons rfl (Sub.nil _)))))
      refine tn_code ?_
      refine tc_cond (b := ((((decide ((l.getD k7 Blk.z).id < 1)) || (decide (((l.getD k7 Blk.z).w.length : Int) < 1))) || (decide ((l.getD k7 Blk.z).pos < 0))) || (decide ((l.getD k7 Blk.z).pos > 1024))) || (decide (((l.getD k7 Blk.z).pos + ((l.getD k7 Blk.z).w.length : Int)) > cap))) (fun _ => rfl) (fun h30 => ?_) (fun h30 => ?_)
      · have h30p := h30
        simp only [Bool.or_eq_true, Bool.and_eq_true, Bool.or_eq_false_iff, Bool.and_eq_false_iff, decide_eq_true_eq, decide_eq_false_iff_not, beq_iff_eq, bne_iff_ne, beq_eq_false_iff_ne, bne_eq_false_iff_eq, Bool.not_eq_true', Bool.not_eq_false', ne_eq] at h30p
        refine tc_seq (tc_region ?_)
        refine sg 1 [2] [(2, .bool false)] ?_
        refine to_end rfl (tn_code (tc_ret ?_))
        refine tr_tmp rfl rfl ?_
        exact ⟨congrArg Ending.returned (congrArg Value.bool (may_no13 (k := k7) (by omega) (by rintro ⟨o1, o2, o3, o4, o5, o6, o7⟩; omega))), M25.below⟩
      · have h30p := h30
        simp only [Bool.or_eq_true, Bool.and_eq_true, Bool.or_eq_false_iff, Bool.and_eq_false_iff, decide_eq_true_eq, decide_eq_false_iff_not, beq_iff_eq, bne_iff_ne, beq_eq_false_iff_ne, bne_eq_false_iff_eq, Bool.not_eq_true', Bool.not_eq_false', ne_eq] at h30p
        refine tc_skip (tn_code (tc_seq (tc_seq ?_)))
        refine tc_drawL (fun w' => Mem w w' ([blk b21 #[.int .i64 (l.getD k7 Blk.z).id, .int .i64 (l.getD k7 Blk.z).pos, .slice A17 (l.getD k7 Blk.z).w.length c18] 103, blk b1 #[.int .i64 cap, .slice (some ad13) l.length c] 24])) [] (by kernel_rfl) ?_
        have M32 := M25.draw
        refine ty_take 0 56 (.int .i64 (k7 : Int)) (pok_cont pok_body) ?_ M32 (fun _ _ _ => by kernel_rfl)
        refine ty_take 1 57 (.bool (decide ((k7 : Int) > 0))) (pok_cont pok_body) ?_ M32 (fun _ _ _ => by kernel_rfl)
        refine ty_take 2 58 (.bool (decide ((k7 : Int) > 0))) (pok_cont pok_body) ?_ M32 (fun _ _ _ => by kernel_rfl)
        rcases h33 : (decide ((k7 : Int) > 0) : Bool) with _ | _
        · have h33p := of_decide_eq_false h33
          refine ty_pass 3 59 (pok_cont pok_body) ?_ M32
          refine ty_pass 4 60 (pok_cont pok_body) ?_ M32
          refine ty_pass 5 61 (pok_cont pok_body) ?_ M32
          refine ty_pass 6 62 (pok_cont pok_body) ?_ M32
          refine ty_pass 7 63 (pok_cont pok_body) ?_ M32
          refine ty_pass 8 64 (pok_cont pok_body) ?_ M32
          refine ty_pass 9 65 (pok_cont pok_body) ?_ M32
          refine ty_pass 10 66 (pok_cont pok_body) ?_ M32
          refine ty_pass 11 67 (pok_cont pok_body) ?_ M32
          refine ty_pass 12 68 (pok_cont pok_body) ?_ M32
          refine ty_pass 13 69 (pok_cont pok_body) ?_ M32
          refine ty_pass 14 70 (pok_cont pok_body) ?_ M32
          refine ty_pass 15 71 (pok_cont pok_body) ?_ M32
          refine ty_pass 16 72 (pok_cont pok_body) ?_ M32
          refine ty_pass 17 73 (pok_cont pok_body) ?_ M32
          refine ty_pass 18 74 (pok_cont pok_body) ?_ M32
          refine ty_pass 19 75 (pok_cont pok_body) ?_ M32
          refine ty_pass 20 76 (pok_cont pok_body) ?_ M32
          refine ty_pass 21 77 (pok_cont pok_body) ?_ M32
          refine ty_take 22 78 (.bool false) (pok_cont pok_body) ?_ M32 (fun _ _ _ => by kernel_rfl)
          refine ty_endL ?_
          refine tn_code (tc_cond_f (fun _ => rfl) (tc_skip (tn_code (tc_seq (tc_region ?_)))))
          refine sg 1 [1, 3, 4, 5] [(1, .pointer (some ⟨b1, 0, none⟩)), (3, .int .i64 (k7 : Int)), (4, .pointer (some ⟨b21, 0, none⟩)), (5, .int .i64 0)] ?_
          refine to_end rfl (tn_code (tc_block ?_))
          refine tc_loop (σ := Nat) (fun k34 => [(1, .pointer (some ⟨b1, 0, none⟩)), (3, .int .i64 (k7 : Int)), (4, .pointer (some ⟨b21, 0, none⟩)), (5, .int .i64 (k34 : Int))]) (fun k34 w' => k34 ≤ k7 ∧ (∀ j, j < k34 → (l.getD j Blk.z).id ≠ (l.getD k7 Blk.z).id) ∧ Mem w w' [blk b21 #[.int .i64 (l.getD k7 Blk.z).id, .int .i64 (l.getD k7 Blk.z).pos, .slice A17 (l.getD k7 Blk.z).w.length c18] 103, blk b1 #[.int .i64 cap, .slice (some ad13) l.length c] 24]) (fun k34 => k7 - k34) 0 (Sub.cons rfl (Sub.cons rfl (Sub.cons rfl (Sub.cons rfl (Sub.nil _))))) ⟨Nat.zero_le _, fun j hj => absurd hj (Nat.not_lt_zero _), M32⟩ ?_
          rintro k34 w37 ⟨hk35, hi36, M38⟩
          refine tc_seq (tc_seq (tc_region ?_))
          refine sg 3 [1, 3, 4, 5, 81] [(1, .pointer (some ⟨b1, 0, none⟩)), (3, .int .i64 (k7 : Int)), (4, .pointer (some ⟨b21, 0, none⟩)), (5, .int .i64 (k34 : Int)), (81, .bool (decide ((k34 : Int) < (k7 : Int))))] ?_
          refine to_end rfl (tn_code ?_)
          refine tc_cond (b := decide ((k34 : Int) < (k7 : Int))) (fun _ => rfl) (fun h39 => ?_) (fun h39 => ?_)
          · have h39p := of_decide_eq_true h39
            refine tc_skip (tn_code (tc_seq (tc_block (tc_seq ?_))))
            refine tc_drawL (fun w' => Mem w w' ([blk b21 #[.int .i64 (l.getD k7 Blk.z).id, .int .i64 (l.getD k7 Blk.z).pos, .slice A17 (l.getD k7 Blk.z).w.length c18] 103, blk b1 #[.int .i64 cap, .slice (some ad13) l.length c] 24])) [] (by kernel_rfl) ?_
            have M40 := M38.draw
            refine ty_take 0 84 (.pointer (some ⟨b1, 1, none⟩)) (pok_cont pok_body) ?_ M40 (fun _ _ _ => by kernel_rfl)
            refine ty_take 1 85 (.slice (some ad13) l.length c) (pok_cont pok_body) ?_ M40 (fun _ M' _ => rl M' 1)
            refine ty_take 2 86 (.int .i64 (k34 : Int)) (pok_cont pok_body) ?_ M40 (fun _ _ _ => by kernel_rfl)
            refine ty_take 3 87 (.pointer (some (ad13.add (k34 * 3)))) (pok_cont pok_body) ?_ M40 (fun _ _ _ => ri (ad := ad13) (n := l.length) (c := c) k34 3 (by omega) Try.underlying22)
            refine ty_take 4 88 (.pointer (some (ad13.add (k34 * 3)))) (pok_cont pok_body) ?_ M40 (fun _ _ _ => by kernel_rfl)
            obtain ⟨cs43, hk41, hc42⟩ := C_cell hC Blk.z k34 (by omega)
            obtain ⟨A44, c45, rfl, hl46, hC47⟩ := kBlk_open hk41
            refine ty_take 5 89 (.int .i64 (l.getD k34 Blk.z).id) (pok_cont pok_body) ?_ M40 (fun _ M' _ => re (cell_up M' (hc42 0 _ rfl)))
            refine ty_take 6 90 (.pointer (some ⟨b21, 0, none⟩)) (pok_cont pok_body) ?_ M40 (fun _ _ _ => by kernel_rfl)
            refine ty_take 7 91 (.int .i64 (l.getD k7 Blk.z).id) (pok_cont pok_body) ?_ M40 (fun _ M' _ => rl M' 0)
            refine ty_take 8 92 (.bool ((l.getD k34 Blk.z).id == (l.getD k7 Blk.z).id)) (pok_cont pok_body) ?_ M40 (fun _ _ _ => by kernel_rfl)
            refine ty_endL ?_
            refine tn_code ?_
            refine tc_cond (b := (l.getD k34 Blk.z).id == (l.getD k7 Blk.z).id) (fun _ => rfl) (fun h48 => ?_) (fun h48 => ?_)
            · have h48p := beq_iff_eq.1 h48
              refine tc_seq (tc_region ?_)
              refine sg 1 [2] [(2, .bool false)] ?_
              refine to_end rfl (tn_code (tc_ret ?_))
              refine tr_tmp rfl rfl ?_
              exact ⟨congrArg Ending.returned (congrArg Value.bool (may_no13 (k := k7) (by omega) (by rintro ⟨o1, o2, o3, o4, o5, o6, o7⟩; exact o7 _ (by omega) (beq_iff_eq.1 h48)))), M40.below⟩
            · have h48p := beq_eq_false_iff_ne.1 h48
              refine tc_skip (tn_blk (tn_code (tc_region ?_)))
              refine sg 3 [1, 3, 4, 5] [(1, .pointer (some ⟨b1, 0, none⟩)), (3, .int .i64 (k7 : Int)), (4, .pointer (some ⟨b21, 0, none⟩)), (5, .int .i64 (IntKind.wrap .i64 ((k34 : Int) + 1)))] ?_
              rw [show IntKind.wrap .i64 ((k34 : Int) + 1) = (((k34 + 1) : Nat) : Int) from wr_nat k34 1 (by omega)]
              refine to_end rfl ?_
              exact tn_back (k34 + 1) (Sub.cons rfl (Sub.cons rfl (Sub.cons rfl (Sub.cons rfl (Sub.nil _))))) ⟨by omega, ne_step hi36 (beq_eq_false_iff_ne.1 h48), M40⟩ (by omega)
          · have h39p := of_decide_eq_false h39
            refine tc_exitK (k' := _) rfl (tn_blk (tn_code (tc_region ?_)))
            refine sg 3 [1, 3] [(1, .pointer (some ⟨b1, 0, none⟩)), (3, .int .i64 (IntKind.wrap .i64 ((k7 : Int) + 1)))] ?_
            rw [show IntKind.wrap .i64 ((k7 : Int) + 1) = (((k7 + 1) : Nat) : Int) from wr_nat k7 1 (by omega)]
            refine to_end rfl ?_
            have M49 := M38.drop 0
            exact tn_back (k7 + 1) (Sub.cons rfl (Sub.cons rfl (Sub.nil _))) ⟨by omega, okAt_step hi9 ⟨by omega, by omega, by omega, by omega, by omega, fun h0_ => by omega, fun k_ hk_ => hi36 k_ (by omega)⟩, M49⟩ (by omega)
        · have h33p := of_decide_eq_true h33
          refine ty_take 3 59 (.pointer (some ⟨b21, 1, none⟩)) (pok_cont pok_body) ?_ M32 (fun _ _ _ => by kernel_rfl)
          refine ty_take 4 60 (.int .i64 (l.getD k7 Blk.z).pos) (pok_cont pok_body) ?_ M32 (fun _ M' _ => rl M' 0)
          refine ty_take 5 61 (.pointer (some ⟨b1, 1, none⟩)) (pok_cont pok_body) ?_ M32 (fun _ _ _ => by kernel_rfl)
          refine ty_take 6 62 (.slice (some ad13) l.length c) (pok_cont pok_body) ?_ M32 (fun _ M' _ => rl M' 1)
          refine ty_take 7 63 (.int .i64 (k7 : Int)) (pok_cont pok_body) ?_ M32 (fun _ _ _ => by kernel_rfl)
          refine ty_take 8 64 (.int .i64 (IntKind.wrap .i64 ((k7 : Int) - 1))) (pok_cont pok_body) ?_ M32 (fun _ _ _ => by kernel_rfl)
          rw [show IntKind.wrap .i64 ((k7 : Int) - 1) = (((k7 - 1) : Nat) : Int) from by rw [wr_i64 (by omega) (by omega)]; omega]
          refine ty_take 9 65 (.pointer (some (ad13.add ((k7 - 1) * 3)))) (pok_cont pok_body) ?_ M32 (fun _ _ _ => ri (ad := ad13) (n := l.length) (c := c) (k7 - 1) 3 (by omega) Try.underlying22)
          refine ty_take 10 66 (.pointer (some ((ad13.add ((k7 - 1) * 3)).add 1))) (pok_cont pok_body) ?_ M32 (fun _ _ _ => by kernel_rfl)
          obtain ⟨cs52, hk50, hc51⟩ := C_cell hC Blk.z (k7 - 1) (by omega)
          obtain ⟨A53, c54, rfl, hl55, hC56⟩ := kBlk_open hk50
          refine ty_take 11 67 (.int .i64 (l.getD (k7 - 1) Blk.z).pos) (pok_cont pok_body) ?_ M32 (fun _ M' _ => re (cell_up M' (hc51 1 _ rfl)))
          refine ty_take 12 68 (.pointer (some ⟨b1, 1, none⟩)) (pok_cont pok_body) ?_ M32 (fun _ _ _ => by kernel_rfl)
          refine ty_take 13 69 (.slice (some ad13) l.length c) (pok_cont pok_body) ?_ M32 (fun _ M' _ => rl M' 1)
          refine ty_take 14 70 (.int .i64 (k7 : Int)) (pok_cont pok_body) ?_ M32 (fun _ _ _ => by kernel_rfl)
          refine ty_take 15 71 (.int .i64 (IntKind.wrap .i64 ((k7 : Int) - 1))) (pok_cont pok_body) ?_ M32 (fun _ _ _ => by kernel_rfl)
          rw [show IntKind.wrap .i64 ((k7 : Int) - 1) = (((k7 - 1) : Nat) : Int) from by rw [wr_i64 (by omega) (by omega)]; omega]
          refine ty_take 16 72 (.pointer (some (ad13.add ((k7 - 1) * 3)))) (pok_cont pok_body) ?_ M32 (fun _ _ _ => ri (ad := ad13) (n := l.length) (c := c) (k7 - 1) 3 (by omega) Try.underlying22)
          refine ty_take 17 73 (.pointer (some ((ad13.add ((k7 - 1) * 3)).add 2))) (pok_cont pok_body) ?_ M32 (fun _ _ _ => by kernel_rfl)
          refine ty_take 18 74 (.slice A53 (l.getD (k7 - 1) Blk.z).w.length c54) (pok_cont pok_body) ?_ M32 (fun _ M' _ => re (cell_up M' (hc51 2 _ rfl)))
          refine ty_take 19 75 (.int .i64 ((l.getD (k7 - 1) Blk.z).w.length : Int)) (pok_cont pok_body) ?_ M32 (fun _ _ _ => by kernel_rfl)
          refine ty_take 20 76 (.int .i64 (IntKind.wrap .i64 ((l.getD (k7 - 1) Blk.z).pos + ((l.getD (k7 - 1) Blk.z).w.length : Int)))) (pok_cont pok_body) ?_ M32 (fun _ _ _ => by kernel_rfl)
          rw [wr_i64 (x := (l.getD (k7 - 1) Blk.z).pos + ((l.getD (k7 - 1) Blk.z).w.length : Int)) (by omega) (by omega)]
          refine ty_take 21 77 (.bool (decide ((l.getD k7 Blk.z).pos < ((l.getD (k7 - 1) Blk.z).pos + ((l.getD (k7 - 1) Blk.z).w.length : Int))))) (pok_cont pok_body) ?_ M32 (fun _ _ _ => by kernel_rfl)
          refine ty_take 22 78 (.bool (decide ((l.getD k7 Blk.z).pos < ((l.getD (k7 - 1) Blk.z).pos + ((l.getD (k7 - 1) Blk.z).w.length : Int))))) (pok_cont pok_body) ?_ M32 (fun _ _ _ => by kernel_rfl)
          refine ty_endL ?_
          refine tn_code ?_
          refine tc_cond (b := decide ((l.getD k7 Blk.z).pos < ((l.getD (k7 - 1) Blk.z).pos + ((l.getD (k7 - 1) Blk.z).w.length : Int)))) (fun _ => rfl) (fun h57 => ?_) (fun h57 => ?_)
          · have h57p := of_decide_eq_true h57
            refine tc_seq (tc_region ?_)
            refine sg 1 [2] [(2, .bool false)] ?_
            refine to_end rfl (tn_code (tc_ret ?_))
            refine tr_tmp rfl rfl ?_
            exact ⟨congrArg Ending.returned (congrArg Value.bool (may_no13 (k := k7) (by omega) (by rintro ⟨o1, o2, o3, o4, o5, o6, o7⟩; omega))), M32.below⟩
          · have h57p := of_decide_eq_false h57
            refine tc_skip (tn_code (tc_seq (tc_region ?_)))
            refine sg 1 [1, 3, 4, 5] [(1, .pointer (some ⟨b1, 0, none⟩)), (3, .int .i64 (k7 : Int)), (4, .pointer (some ⟨b21, 0, none⟩)), (5, .int .i64 0)] ?_
            refine to_end rfl (tn_code (tc_block ?_))
            refine tc_loop (σ := Nat) (fun k58 => [(1, .pointer (some ⟨b1, 0, none⟩)), (3, .int .i64 (k7 : Int)), (4, .pointer (some ⟨b21, 0, none⟩)), (5, .int .i64 (k58 : Int))]) (fun k58 w' => k58 ≤ k7 ∧ (∀ j, j < k58 → (l.getD j Blk.z).id ≠ (l.getD k7 Blk.z).id) ∧ Mem w w' [blk b21 #[.int .i64 (l.getD k7 Blk.z).id, .int .i64 (l.getD k7 Blk.z).pos, .slice A17 (l.getD k7 Blk.z).w.length c18] 103, blk b1 #[.int .i64 cap, .slice (some ad13) l.length c] 24]) (fun k58 => k7 - k58) 0 (Sub.cons rfl (Sub.cons rfl (Sub.cons rfl (Sub.cons rfl (Sub.nil _))))) ⟨Nat.zero_le _, fun j hj => absurd hj (Nat.not_lt_zero _), M32⟩ ?_
            rintro k58 w61 ⟨hk59, hi60, M62⟩
            refine tc_seq (tc_seq (tc_region ?_))
            refine sg 3 [1, 3, 4, 5, 81] [(1, .pointer (some ⟨b1, 0, none⟩)), (3, .int .i64 (k7 : Int)), (4, .pointer (some ⟨b21, 0, none⟩)), (5, .int .i64 (k58 : Int)), (81, .bool (decide ((k58 : Int) < (k7 : Int))))] ?_
            refine to_end rfl (tn_code ?_)
            refine tc_cond (b := decide ((k58 : Int) < (k7 : Int))) (fun _ => rfl) (fun h63 => ?_) (fun h63 => ?_)
            · have h63p := of_decide_eq_true h63
              refine tc_skip (tn_code (tc_seq (tc_block (tc_seq ?_))))
              refine tc_drawL (fun w' => Mem w w' ([blk b21 #[.int .i64 (l.getD k7 Blk.z).id, .int .i64 (l.getD k7 Blk.z).pos, .slice A17 (l.getD k7 Blk.z).w.length c18] 103, blk b1 #[.int .i64 cap, .slice (some ad13) l.length c] 24])) [] (by kernel_rfl) ?_
              have M64 := M62.draw
              refine ty_take 0 84 (.pointer (some ⟨b1, 1, none⟩)) (pok_cont pok_body) ?_ M64 (fun _ _ _ => by kernel_rfl)
              refine ty_take 1 85 (.slice (some ad13) l.length c) (pok_cont pok_body) ?_ M64 (fun _ M' _ => rl M' 1)
              refine ty_take 2 86 (.int .i64 (k58 : Int)) (pok_cont pok_body) ?_ M64 (fun _ _ _ => by kernel_rfl)
              refine ty_take 3 87 (.pointer (some (ad13.add (k58 * 3)))) (pok_cont pok_body) ?_ M64 (fun _ _ _ => ri (ad := ad13) (n := l.length) (c := c) k58 3 (by omega) Try.underlying22)
              refine ty_take 4 88 (.pointer (some (ad13.add (k58 * 3)))) (pok_cont pok_body) ?_ M64 (fun _ _ _ => by kernel_rfl)
              obtain ⟨cs67, hk65, hc66⟩ := C_cell hC Blk.z k58 (by omega)
              obtain ⟨A68, c69, rfl, hl70, hC71⟩ := kBlk_open hk65
              refine ty_take 5 89 (.int .i64 (l.getD k58 Blk.z).id) (pok_cont pok_body) ?_ M64 (fun _ M' _ => re (cell_up M' (hc66 0 _ rfl)))
              refine ty_take 6 90 (.pointer (some ⟨b21, 0, none⟩)) (pok_cont pok_body) ?_ M64 (fun _ _ _ => by kernel_rfl)
              refine ty_take 7 91 (.int .i64 (l.getD k7 Blk.z).id) (pok_cont pok_body) ?_ M64 (fun _ M' _ => rl M' 0)
              refine ty_take 8 92 (.bool ((l.getD k58 Blk.z).id == (l.getD k7 Blk.z).id)) (pok_cont pok_body) ?_ M64 (fun _ _ _ => by kernel_rfl)
              refine ty_endL ?_
              refine tn_code ?_
              refine tc_cond (b := (l.getD k58 Blk.z).id == (l.getD k7 Blk.z).id) (fun _ => rfl) (fun h72 => ?_) (fun h72 => ?_)
              · have h72p := beq_iff_eq.1 h72
                refine tc_seq (tc_region ?_)
                refine sg 1 [2] [(2, .bool false)] ?_
                refine to_end rfl (tn_code (tc_ret ?_))
                refine tr_tmp rfl rfl ?_
                exact ⟨congrArg Ending.returned (congrArg Value.bool (may_no13 (k := k7) (by omega) (by rintro ⟨o1, o2, o3, o4, o5, o6, o7⟩; exact o7 _ (by omega) (beq_iff_eq.1 h72)))), M64.below⟩
              · have h72p := beq_eq_false_iff_ne.1 h72
                refine tc_skip (tn_blk (tn_code (tc_region ?_)))
                refine sg 3 [1, 3, 4, 5] [(1, .pointer (some ⟨b1, 0, none⟩)), (3, .int .i64 (k7 : Int)), (4, .pointer (some ⟨b21, 0, none⟩)), (5, .int .i64 (IntKind.wrap .i64 ((k58 : Int) + 1)))] ?_
                rw [show IntKind.wrap .i64 ((k58 : Int) + 1) = (((k58 + 1) : Nat) : Int) from wr_nat k58 1 (by omega)]
                refine to_end rfl ?_
                exact tn_back (k58 + 1) (Sub.cons rfl (Sub.cons rfl (Sub.cons rfl (Sub.cons rfl (Sub.nil _))))) ⟨by omega, ne_step hi60 (beq_eq_false_iff_ne.1 h72), M64⟩ (by omega)
            · have h63p := of_decide_eq_false h63
              refine tc_exitK (k' := _) rfl (tn_blk (tn_code (tc_region ?_)))
              refine sg 3 [1, 3] [(1, .pointer (some ⟨b1, 0, none⟩)), (3, .int .i64 (IntKind.wrap .i64 ((k7 : Int) + 1)))] ?_
              rw [show IntKind.wrap .i64 ((k7 : Int) + 1) = (((k7 + 1) : Nat) : Int) from wr_nat k7 1 (by omega)]
              refine to_end rfl ?_
              have M73 := M62.drop 0
              exact tn_back (k7 + 1) (Sub.cons rfl (Sub.cons rfl (Sub.nil _))) ⟨by omega, okAt_step hi9 ⟨by omega, by omega, by omega, by omega, by omega, fun h0_ => by omega, fun k_ hk_ => hi60 k_ (by omega)⟩, M73⟩ (by omega)
    · have h12p := of_decide_eq_false h12
      refine tc_exitK (k' := _) rfl (tn_code (tc_seq (tc_region ?_)))
      refine sg 1 [2] [(2, .bool true)] ?_
      refine to_end rfl (tn_code (tc_ret ?_))
      refine tr_tmp rfl rfl ?_
      exact ⟨congrArg Ending.returned (congrArg Value.bool (may_yes13 (k := k7) (by omega) (by omega) (by omega) hi9)), M11.below⟩
end Go.Proofs.Ytfknhbgghpbkpaa
