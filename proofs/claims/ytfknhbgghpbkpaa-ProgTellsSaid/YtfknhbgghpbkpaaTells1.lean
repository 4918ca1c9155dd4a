/- The law ProgTells: its walk. -/
import Derived.Test.YtfknhbgghpbkpaaTell2
namespace Go.Proofs.Ytfknhbgghpbkpaa
open Go.RowKit Cal Go.Proofs.YtfknhbgghpbkpaaW.PrintWords
set_option linter.unusedSimpArgs false in
theorem tellslaw_any (p : List Fn) (bs : List Int) (i : Int) (f : Fn) (A : Option Addr) (c : Nat) (Ab : Option Addr) (cbs : Nat) (Af : Option Addr) (cf : Nat) (w : World) (hC : kFn.C w A p.length p) (hcp : p.length ≤ c) (hop : ∀ g ∈ p, g.ok) (hB : kB.C w Ab bs.length bs) (hcb : bs.length ≤ cbs) (hb : ∀ x ∈ bs, isB x) (hF : kInst.C w Af f.code.length f.code) (hcf : f.code.length ≤ cf) : Calls Try.prog 10 #[.agg #[.slice A p.length c], .slice Ab bs.length cbs, .int .i64 i, .agg #[.int .i64 f.args, .slice Af f.code.length cf]] w fun e w' => e = .returned (.bool true) ∧ Below w.heap.size w w' := by
  have M := Mem.refl w
  have hmx := C_max hC
  refine calls_tc (N := 136) (args := [.agg #[.slice A p.length c], .slice Ab bs.length cbs, .int .i64 i, .agg #[.int .i64 f.args, .slice Af f.code.length cf]]) Try.func10 rfl rfl rfl ?_
  refine tc_seq (tc_region ?_)
  refine nw M 4 #[.slice A p.length c] 45 fun b1 w2 M3 => ?_
  refine nw M3 7 #[.int .i64 f.args, .slice Af f.code.length cf] 57 fun b4 w5 M6 => ?_
  refine sg 1 [1, 2, 4, 7] [(1, .slice Ab bs.length cbs), (2, .int .i64 i), (4, .pointer (some ⟨b1, 0, none⟩)), (7, .pointer (some ⟨b4, 0, none⟩))] ?_
  refine to_end rfl (tn_code (tc_seq (tc_region ?_)))
  refine cb M6 27 (awake_any _) fun w7 hb9 M8 => ?_
  refine sg 1 [1, 2, 4, 7, 9] [(1, .slice Ab bs.length cbs), (2, .int .i64 i), (4, .pointer (some ⟨b1, 0, none⟩)), (7, .pointer (some ⟨b4, 0, none⟩)), (9, .bool true)] ?_
  refine to_end rfl (tn_code (tc_seq (tc_region ?_)))
  refine la M8 1 28 #[.slice A p.length c] (hu := Try.underlying45) ?_
  refine cb M8 29 (few_any p A c _ (C_up M8 hC)) fun w10 hb12 M11 => ?_
  refine sg 1 [1, 2, 4, 7, 9, 10] [(1, .slice Ab bs.length cbs), (2, .int .i64 i), (4, .pointer (some ⟨b1, 0, none⟩)), (7, .pointer (some ⟨b4, 0, none⟩)), (9, .bool true), (10, .bool (fewB p))] ?_
  refine to_end rfl (tn_code (tc_seq (tc_seq (tc_region ?_))))
  refine join (fr' := [(1, .slice Ab bs.length cbs), (2, .int .i64 i), (4, .pointer (some ⟨b1, 0, none⟩)), (7, .pointer (some ⟨b4, 0, none⟩)), (9, .bool true), (46, .bool (((!(fewB p)) || (decide ((f.code.length : Int) > 80))) || (decide ((bs.length : Int) > 5000))))]) (fun hj_ => ?_) ?_
  · refine sg 7 [1, 2, 4, 7, 9, 36] [(1, .slice Ab bs.length cbs), (2, .int .i64 i), (4, .pointer (some ⟨b1, 0, none⟩)), (7, .pointer (some ⟨b4, 0, none⟩)), (9, .bool true), (36, .bool (!(fewB p)))] ?_
    rcases bdi (fewB p : Bool) with h13 | h13
    · rw [h13]
      refine sg 10 [1, 2, 4, 7, 9, 46] [(1, .slice Ab bs.length cbs), (2, .int .i64 i), (4, .pointer (some ⟨b1, 0, none⟩)), (7, .pointer (some ⟨b4, 0, none⟩)), (9, .bool true), (46, .bool true)] ?_
      refine to_end rfl ?_
      rw [show (((!(fewB p)) || (decide ((f.code.length : Int) > 80))) || (decide ((bs.length : Int) > 5000)) : Bool) = true from by (simp only [h13, Bool.true_or, Bool.false_or, Bool.or_true, Bool.or_false, Bool.true_and, Bool.false_and, Bool.and_true, Bool.and_false, Bool.not_true, Bool.not_false, cond_true, cond_false, if_true, reduceIte]) <;> rfl] at hj_
      exact hj_.sub (Sub.cons rfl (Sub.cons rfl (Sub.cons rfl (Sub.cons rfl (Sub.cons rfl (Sub.cons rfl (Sub.nil _)))))))
    · rw [h13]
      refine sg 1 [1, 2, 4, 7, 9, 36, 37] [(1, .slice Ab bs.length cbs), (2, .int .i64 i), (4, .pointer (some ⟨b1, 0, none⟩)), (7, .pointer (some ⟨b4, 0, none⟩)), (9, .bool true), (36, .bool false), (37, .pointer (some ⟨b4, 1, none⟩))] ?_
      refine ld M11 0 38 (.slice Af f.code.length cf) ?_
      refine sg 4 [1, 2, 4, 7, 9, 42] [(1, .slice Ab bs.length cbs), (2, .int .i64 i), (4, .pointer (some ⟨b1, 0, none⟩)), (7, .pointer (some ⟨b4, 0, none⟩)), (9, .bool true), (42, .bool (decide ((f.code.length : Int) > 80)))] ?_
      rcases bdi (decide ((f.code.length : Int) > 80) : Bool) with h14 | h14
      · have h14p := of_decide_eq_false h14
        rw [h14]
        refine sg 4 [1, 2, 4, 7, 9, 46] [(1, .slice Ab bs.length cbs), (2, .int .i64 i), (4, .pointer (some ⟨b1, 0, none⟩)), (7, .pointer (some ⟨b4, 0, none⟩)), (9, .bool true), (46, .bool (decide ((bs.length : Int) > 5000)))] ?_
        refine to_end rfl ?_
        rw [show (((!(fewB p)) || (decide ((f.code.length : Int) > 80))) || (decide ((bs.length : Int) > 5000)) : Bool) = (decide ((bs.length : Int) > 5000)) from by (simp only [h13, h14, Bool.true_or, Bool.false_or, Bool.or_true, Bool.or_false, Bool.true_and, Bool.false_and, Bool.and_true, Bool.and_false, Bool.not_true, Bool.not_false, cond_true, cond_false, if_true, reduceIte]) <;> rfl] at hj_
        exact hj_.sub (Sub.cons rfl (Sub.cons rfl (Sub.cons rfl (Sub.cons rfl (Sub.cons rfl (Sub.cons rfl (Sub.nil _)))))))
      · have h14p := of_decide_eq_true h14
        rw [h14]
        refine sg 4 [1, 2, 4, 7, 9, 46] [(1, .slice Ab bs.length cbs), (2, .int .i64 i), (4, .pointer (some ⟨b1, 0, none⟩)), (7, .pointer (some ⟨b4, 0, none⟩)), (9, .bool true), (46, .bool true)] ?_
        refine to_end rfl ?_
        rw [show (((!(fewB p)) || (decide ((f.code.length : Int) > 80))) || (decide ((bs.length : Int) > 5000)) : Bool) = true from by (simp only [h13, h14, Bool.true_or, Bool.false_or, Bool.or_true, Bool.or_false, Bool.true_and, Bool.false_and, Bool.and_true, Bool.and_false, Bool.not_true, Bool.not_false, cond_true, cond_false, if_true, reduceIte]) <;> rfl] at hj_
        exact hj_.sub (Sub.cons rfl (Sub.cons rfl (Sub.cons rfl (Sub.cons rfl (Sub.cons rfl (Sub.cons rfl (Sub.nil _)))))))
  refine tn_code ?_
  refine tc_cond (b := ((!(fewB p)) || (decide ((f.code.length : Int) > 80))) || (decide ((bs.length : Int) > 5000))) (fun _ => rfl) (fun h15 => ?_) (fun h15 => ?_)
  · have h15p := h15
    simp only [Bool.or_eq_true, Bool.and_eq_true, Bool.or_eq_false_iff, Bool.and_eq_false_iff, decide_eq_true_eq, decide_eq_false_iff_not, beq_iff_eq, bne_iff_ne, beq_eq_false_iff_ne, bne_eq_false_iff_eq, Bool.not_eq_true', Bool.not_eq_false', ne_eq] at h15p
    refine tc_seq (tc_region ?_)
    refine sg 2 [8] [(8, .bool true)] ?_
    refine to_end rfl (tn_code (tc_ret ?_))
    refine tr_tmp rfl rfl ?_
    exact ⟨rfl, M11.below⟩
  · have h15p := h15
    simp only [Bool.or_eq_true, Bool.and_eq_true, Bool.or_eq_false_iff, Bool.and_eq_false_iff, decide_eq_true_eq, decide_eq_false_iff_not, beq_iff_eq, bne_iff_ne, beq_eq_false_iff_ne, bne_eq_false_iff_eq, Bool.not_eq_true', Bool.not_eq_false', ne_eq] at h15p
    refine tc_skip (tn_code (tc_seq (tc_region ?_)))
    refine la M11 1 48 #[.slice A p.length c] (hu := Try.underlying45) ?_
    refine ce 49 (own_any p A c _ (C_up M11 hC) (by have h_ := h15p; exact h_.1.1)) fun e16 w17 h18 => ?_
    obtain ⟨A19, c20, rfl, hM21⟩ := h18
    have M22 := M11.join hM21
    refine ⟨_, rfl, ?_⟩
    refine nw M22 11 #[.slice none 0 0] 45 fun b23 w24 M25 => ?_
    refine sa M25 0 #[.slice A19 p.length c20] fun w26 M27 => ?_
    refine to_end rfl (tn_code (tc_seq (tc_region ?_)))
    refine la M27 3 51 #[.slice A p.length c] (hu := Try.underlying45) ?_
    rcases h28 : (progMay p : Bool) with _ | _
    · refine cb M27 52 (put_prog_not p A c w26 (C_up M27 hC) h28) fun w29 hb31 M30 => ?_
      refine sg 5 [1, 2, 4, 7, 11, 12, 13] [(1, .slice Ab bs.length cbs), (2, .int .i64 i), (4, .pointer (some ⟨b1, 0, none⟩)), (7, .pointer (some ⟨b4, 0, none⟩)), (11, .pointer (some ⟨b23, 0, none⟩)), (12, .slice none 0 0), (13, .int .i64 1)] ?_
      refine to_end rfl (tn_code (tc_seq (tc_region ?_)))
      refine la M30 3 56 #[.slice A p.length c] (hu := Try.underlying45) ?_
      refine cb M30 57 (rput_prog_not p A c _ (C_up M30 hC) h28) fun w32 hb34 M33 => ?_
      refine sg 5 [1, 2, 4, 7, 11, 12, 13, 14, 15] [(1, .slice Ab bs.length cbs), (2, .int .i64 i), (4, .pointer (some ⟨b1, 0, none⟩)), (7, .pointer (some ⟨b4, 0, none⟩)), (11, .pointer (some ⟨b23, 0, none⟩)), (12, .slice none 0 0), (13, .int .i64 1), (14, .slice none 0 0), (15, .int .i64 1)] ?_
      refine to_end rfl (tn_code (tc_seq (tc_region ?_)))
      refine sg 2 [1, 2, 4, 7, 11, 13, 15, 60, 61] [(1, .slice Ab bs.length cbs), (2, .int .i64 i), (4, .pointer (some ⟨b1, 0, none⟩)), (7, .pointer (some ⟨b4, 0, none⟩)), (11, .pointer (some ⟨b23, 0, none⟩)), (13, .int .i64 1), (15, .int .i64 1), (60, .slice none 0 0), (61, .slice none 0 0)] ?_
      refine cb M33 62 (bytes_any none 0 ([] : List Int) none 0 ([] : List Int) _ (Kd.C_nil _ _) (Kd.C_nil _ _)) fun w35 hb37 M36 => ?_
      refine sg 1 [1, 2, 4, 7, 11, 13, 15, 63] [(1, .slice Ab bs.length cbs), (2, .int .i64 i), (4, .pointer (some ⟨b1, 0, none⟩)), (7, .pointer (some ⟨b4, 0, none⟩)), (11, .pointer (some ⟨b23, 0, none⟩)), (13, .int .i64 1), (15, .int .i64 1), (63, .bool (decide (([] : List Int) = ([] : List Int))))] ?_
      have ht38 : (decide (([] : List Int) = ([] : List Int)) : Bool) = true := decide_eq_true rfl
      have ht38p := of_decide_eq_true ht38
      rw [ht38]
      refine sg 5 [1, 2, 4, 7, 11, 16] [(1, .slice Ab bs.length cbs), (2, .int .i64 i), (4, .pointer (some ⟨b1, 0, none⟩)), (7, .pointer (some ⟨b4, 0, none⟩)), (11, .pointer (some ⟨b23, 0, none⟩)), (16, .bool true)] ?_
      refine to_end rfl (tn_code (tc_seq (tc_region ?_)))
      refine sg 1 [1, 2, 4, 7, 11, 16, 69] [(1, .slice Ab bs.length cbs), (2, .int .i64 i), (4, .pointer (some ⟨b1, 0, none⟩)), (7, .pointer (some ⟨b4, 0, none⟩)), (11, .pointer (some ⟨b23, 0, none⟩)), (16, .bool true), (69, .slice Ab bs.length cbs)] ?_
      refine ce 70 (get_prog Ab cbs bs _ (C_up M36 hB) hcb hb) fun e39 w40 h41 => ?_
      obtain ⟨A42, c43, rfl, hM44⟩ := h41
      have M45 := M36.join hM44
      refine ⟨_, rfl, ?_⟩
      refine sg 3 [1, 2, 4, 7, 11, 16, 71, 72] [(1, .slice Ab bs.length cbs), (2, .int .i64 i), (4, .pointer (some ⟨b1, 0, none⟩)), (7, .pointer (some ⟨b4, 0, none⟩)), (11, .pointer (some ⟨b23, 0, none⟩)), (16, .bool true), (71, .agg #[.slice A42 (progGet bs).1.length c43]), (72, .int .i64 (progGet bs).2)] ?_
      refine nw M45 17 #[.slice none 0 0] 45 fun b46 w47 M48 => ?_
      refine sa M48 0 #[.slice A42 (progGet bs).1.length c43] fun w49 M50 => ?_
      refine sg 1 [1, 2, 4, 7, 11, 16, 17, 18] [(1, .slice Ab bs.length cbs), (2, .int .i64 i), (4, .pointer (some ⟨b1, 0, none⟩)), (7, .pointer (some ⟨b4, 0, none⟩)), (11, .pointer (some ⟨b23, 0, none⟩)), (16, .bool true), (17, .pointer (some ⟨b46, 0, none⟩)), (18, .int .i64 (progGet bs).2)] ?_
      refine to_end rfl (tn_code (tc_seq (tc_region ?_)))
      refine sg 1 [2, 4, 7, 11, 16, 17, 18, 74] [(2, .int .i64 i), (4, .pointer (some ⟨b1, 0, none⟩)), (7, .pointer (some ⟨b4, 0, none⟩)), (11, .pointer (some ⟨b23, 0, none⟩)), (16, .bool true), (17, .pointer (some ⟨b46, 0, none⟩)), (18, .int .i64 (progGet bs).2), (74, .slice Ab bs.length cbs)] ?_
      refine ce 75 (rget_prog Ab cbs bs _ (C_up M50 hB) hcb hb (by have h_ := h15p; omega)) fun e51 w52 h53 => ?_
      obtain ⟨A54, c55, rfl, hM56⟩ := h53
      have M57 := M50.join hM56
      refine ⟨_, rfl, ?_⟩
      refine sg 3 [2, 4, 7, 11, 16, 17, 18, 76, 77] [(2, .int .i64 i), (4, .pointer (some ⟨b1, 0, none⟩)), (7, .pointer (some ⟨b4, 0, none⟩)), (11, .pointer (some ⟨b23, 0, none⟩)), (16, .bool true), (17, .pointer (some ⟨b46, 0, none⟩)), (18, .int .i64 (progGet bs).2), (76, .agg #[.slice A54 (progGet bs).1.length c55]), (77, .int .i64 (progGet bs).2)] ?_
      refine nw M57 19 #[.slice none 0 0] 45 fun b58 w59 M60 => ?_
      refine sa M60 0 #[.slice A54 (progGet bs).1.length c55] fun w61 M62 => ?_
      refine sg 1 [2, 4, 7, 11, 16, 17, 18, 19, 20] [(2, .int .i64 i), (4, .pointer (some ⟨b1, 0, none⟩)), (7, .pointer (some ⟨b4, 0, none⟩)), (11, .pointer (some ⟨b23, 0, none⟩)), (16, .bool true), (17, .pointer (some ⟨b46, 0, none⟩)), (18, .int .i64 (progGet bs).2), (19, .pointer (some ⟨b58, 0, none⟩)), (20, .int .i64 (progGet bs).2)] ?_
      refine to_end rfl (tn_code (tc_seq (tc_region ?_)))
      refine la M62 2 78 #[.slice A42 (progGet bs).1.length c43] (hu := Try.underlying45) ?_
      refine la M62 0 79 #[.slice A54 (progGet bs).1.length c55] (hu := Try.underlying45) ?_
      refine cb M62 80 (rsame_any A42 c43 (progGet bs).1 A54 c55 (progGet bs).1 _ (M62.row_C 3 rfl) (M62.row_C 1 rfl)) fun w63 hb65 M64 => ?_
      refine sg 1 [2, 4, 7, 11, 16, 17, 18, 20, 81] [(2, .int .i64 i), (4, .pointer (some ⟨b1, 0, none⟩)), (7, .pointer (some ⟨b4, 0, none⟩)), (11, .pointer (some ⟨b23, 0, none⟩)), (16, .bool true), (17, .pointer (some ⟨b46, 0, none⟩)), (18, .int .i64 (progGet bs).2), (20, .int .i64 (progGet bs).2), (81, .bool (decide ((progGet bs).1 = (progGet bs).1)))] ?_
      have ht66 : (decide ((progGet bs).1 = (progGet bs).1) : Bool) = true := decide_eq_true rfl
      have ht66p := of_decide_eq_true ht66
      rw [ht66]
      refine sg 5 [2, 4, 7, 11, 16, 17, 21] [(2, .int .i64 i), (4, .pointer (some ⟨b1, 0, none⟩)), (7, .pointer (some ⟨b4, 0, none⟩)), (11, .pointer (some ⟨b23, 0, none⟩)), (16, .bool true), (17, .pointer (some ⟨b46, 0, none⟩)), (21, .bool ((progGet bs).2 == (progGet bs).2))] ?_
      refine to_end rfl (tn_code (tc_seq (tc_region ?_)))
      refine la M64 7 87 #[.slice A p.length c] (hu := Try.underlying45) ?_
      refine sg 1 [2, 4, 7, 11, 16, 17, 21, 87, 88] [(2, .int .i64 i), (4, .pointer (some ⟨b1, 0, none⟩)), (7, .pointer (some ⟨b4, 0, none⟩)), (11, .pointer (some ⟨b23, 0, none⟩)), (16, .bool true), (17, .pointer (some ⟨b46, 0, none⟩)), (21, .bool ((progGet bs).2 == (progGet bs).2)), (87, .agg #[.slice A p.length c]), (88, .int .i64 i)] ?_
      refine la M64 6 89 #[.int .i64 f.args, .slice Af f.code.length cf] (hu := Try.underlying57) ?_
      refine ce 90 (swap_any p i f A c Af cf _ (C_up M64 hC) (C_up M64 hF) hcf) fun e67 w68 h69 => ?_
      obtain ⟨A70, c71, rfl, hM72⟩ := h69
      have M73 := M64.join hM72
      refine ⟨_, rfl, ?_⟩
      refine sg 3 [2, 4, 7, 11, 16, 17, 21, 91, 92] [(2, .int .i64 i), (4, .pointer (some ⟨b1, 0, none⟩)), (7, .pointer (some ⟨b4, 0, none⟩)), (11, .pointer (some ⟨b23, 0, none⟩)), (16, .bool true), (17, .pointer (some ⟨b46, 0, none⟩)), (21, .bool ((progGet bs).2 == (progGet bs).2)), (91, .agg #[.slice A70 (swapOf p i f).1.length c71]), (92, .int .i64 (swapOf p i f).2)] ?_
      refine nw M73 22 #[.slice none 0 0] 45 fun b74 w75 M76 => ?_
      refine sa M76 0 #[.slice A70 (swapOf p i f).1.length c71] fun w77 M78 => ?_
      refine sg 1 [2, 4, 7, 11, 16, 17, 21, 22, 23] [(2, .int .i64 i), (4, .pointer (some ⟨b1, 0, none⟩)), (7, .pointer (some ⟨b4, 0, none⟩)), (11, .pointer (some ⟨b23, 0, none⟩)), (16, .bool true), (17, .pointer (some ⟨b46, 0, none⟩)), (21, .bool ((progGet bs).2 == (progGet bs).2)), (22, .pointer (some ⟨b74, 0, none⟩)), (23, .int .i64 (swapOf p i f).2)] ?_
      refine to_end rfl (tn_code (tc_seq (tc_region ?_)))
      refine la M78 9 94 #[.slice A p.length c] (hu := Try.underlying45) ?_
      refine sg 1 [4, 7, 11, 16, 17, 21, 22, 23, 94, 95] [(4, .pointer (some ⟨b1, 0, none⟩)), (7, .pointer (some ⟨b4, 0, none⟩)), (11, .pointer (some ⟨b23, 0, none⟩)), (16, .bool true), (17, .pointer (some ⟨b46, 0, none⟩)), (21, .bool ((progGet bs).2 == (progGet bs).2)), (22, .pointer (some ⟨b74, 0, none⟩)), (23, .int .i64 (swapOf p i f).2), (94, .agg #[.slice A p.length c]), (95, .int .i64 i)] ?_
      refine la M78 8 96 #[.int .i64 f.args, .slice Af f.code.length cf] (hu := Try.underlying57) ?_
      refine ce 97 (rswap_any p i f A c Af cf _ (C_up M78 hC) (C_up M78 hF) hcf) fun e79 w80 h81 => ?_
      obtain ⟨A82, c83, rfl, hM84⟩ := h81
      have M85 := M78.join hM84
      refine ⟨_, rfl, ?_⟩
      refine sg 3 [4, 11, 16, 17, 21, 22, 23, 98, 99] [(4, .pointer (some ⟨b1, 0, none⟩)), (11, .pointer (some ⟨b23, 0, none⟩)), (16, .bool true), (17, .pointer (some ⟨b46, 0, none⟩)), (21, .bool ((progGet bs).2 == (progGet bs).2)), (22, .pointer (some ⟨b74, 0, none⟩)), (23, .int .i64 (swapOf p i f).2), (98, .agg #[.slice A82 (swapOf p i f).1.length c83]), (99, .int .i64 (swapOf p i f).2)] ?_
      refine nw M85 24 #[.slice none 0 0] 45 fun b86 w87 M88 => ?_
      refine sa M88 0 #[.slice A82 (swapOf p i f).1.length c83] fun w89 M90 => ?_
      refine sg 1 [4, 11, 16, 17, 21, 22, 23, 24, 25] [(4, .pointer (some ⟨b1, 0, none⟩)), (11, .pointer (some ⟨b23, 0, none⟩)), (16, .bool true), (17, .pointer (some ⟨b46, 0, none⟩)), (21, .bool ((progGet bs).2 == (progGet bs).2)), (22, .pointer (some ⟨b74, 0, none⟩)), (23, .int .i64 (swapOf p i f).2), (24, .pointer (some ⟨b86, 0, none⟩)), (25, .int .i64 (swapOf p i f).2)] ?_
      refine to_end rfl (tn_code (tc_seq (tc_region ?_)))
      refine la M90 2 100 #[.slice A70 (swapOf p i f).1.length c71] (hu := Try.underlying45) ?_
      refine la M90 0 101 #[.slice A82 (swapOf p i f).1.length c83] (hu := Try.underlying45) ?_
      refine cb M90 102 (rsame_any A70 c71 (swapOf p i f).1 A82 c83 (swapOf p i f).1 _ (M90.row_C 3 rfl) (M90.row_C 1 rfl)) fun w91 hb93 M92 => ?_
      refine sg 1 [4, 11, 16, 17, 21, 23, 25, 103] [(4, .pointer (some ⟨b1, 0, none⟩)), (11, .pointer (some ⟨b23, 0, none⟩)), (16, .bool true), (17, .pointer (some ⟨b46, 0, none⟩)), (21, .bool ((progGet bs).2 == (progGet bs).2)), (23, .int .i64 (swapOf p i f).2), (25, .int .i64 (swapOf p i f).2), (103, .bool (decide ((swapOf p i f).1 = (swapOf p i f).1)))] ?_
      have ht94 : (decide ((swapOf p i f).1 = (swapOf p i f).1) : Bool) = true := decide_eq_true rfl
      have ht94p := of_decide_eq_true ht94
      rw [ht94]
      refine sg 5 [4, 11, 16, 17, 21, 26] [(4, .pointer (some ⟨b1, 0, none⟩)), (11, .pointer (some ⟨b23, 0, none⟩)), (16, .bool true), (17, .pointer (some ⟨b46, 0, none⟩)), (21, .bool ((progGet bs).2 == (progGet bs).2)), (26, .bool ((swapOf p i f).2 == (swapOf p i f).2))] ?_
      refine to_end rfl (tn_code (tc_seq ?_))
      refine tc_drawL (fun w' => Mem w w' ([blk b86 #[.slice A82 (swapOf p i f).1.length c83] 45, row kFn 57 (.slice A82 (swapOf p i f).1.length c83) (swapOf p i f).1, blk b74 #[.slice A70 (swapOf p i f).1.length c71] 45, row kFn 57 (.slice A70 (swapOf p i f).1.length c71) (swapOf p i f).1, blk b58 #[.slice A54 (progGet bs).1.length c55] 45, row kFn 57 (.slice A54 (progGet bs).1.length c55) (progGet bs).1, blk b46 #[.slice A42 (progGet bs).1.length c43] 45, row kFn 57 (.slice A42 (progGet bs).1.length c43) (progGet bs).1, blk b23 #[.slice A19 p.length c20] 45, row kFn 57 (.slice A19 p.length c20) p, blk b4 #[.int .i64 f.args, .slice Af f.code.length cf] 57, blk b1 #[.slice A p.length c] 45])) [] (by kernel_rfl) ?_
      have M107 := M92.draw
      refine ty_take 0 108 (.bool true) (pok_cont pok_body) ?_ M107 (fun _ _ _ => by kernel_rfl)
      refine ty_take 1 109 (.bool true) (pok_cont pok_body) ?_ M107 (fun _ _ _ => by kernel_rfl)
      refine ty_take 2 110 (.bool ((progGet bs).2 == (progGet bs).2)) (pok_cont pok_body) ?_ M107 (fun _ _ _ => by kernel_rfl)
      refine ty_take 3 111 (.bool ((progGet bs).2 == (progGet bs).2)) (pok_cont pok_body) ?_ M107 (fun _ _ _ => by kernel_rfl)
      refine ty_take 4 112 (.bool ((progGet bs).2 == (progGet bs).2)) (pok_cont pok_body) ?_ M107 (fun _ _ _ => by kernel_rfl)
      have ht108 : ((progGet bs).2 == (progGet bs).2 : Bool) = true := beq_self_eq_true _
      have ht108p := beq_iff_eq.1 ht108
      rw [ht108]
      refine ty_take 5 113 (.bool ((swapOf p i f).2 == (swapOf p i f).2)) (pok_cont pok_body) ?_ M107 (fun _ _ _ => by kernel_rfl)
      refine ty_take 6 114 (.bool ((swapOf p i f).2 == (swapOf p i f).2)) (pok_cont pok_body) ?_ M107 (fun _ _ _ => by kernel_rfl)
      refine ty_take 7 115 (.bool ((swapOf p i f).2 == (swapOf p i f).2)) (pok_cont pok_body) ?_ M107 (fun _ _ _ => by kernel_rfl)
      have ht109 : ((swapOf p i f).2 == (swapOf p i f).2 : Bool) = true := beq_self_eq_true _
      have ht109p := beq_iff_eq.1 ht109
      rw [ht109]
      refine ty_take 8 116 (.agg #[.slice A p.length c]) (pok_cont pok_body) ?_ M107 (fun _ M' _ => rla M' 11 (vs := #[.slice A p.length c]) Try.underlying45)
      refine ty_take 9 117 (.agg #[.slice A19 p.length c20]) (pok_cont pok_body) ?_ M107 (fun _ M' _ => rla M' 8 (vs := #[.slice A19 p.length c20]) Try.underlying45)
      refine ty_all (rs := [10]) (te_one ?_)
      refine te_cb M107 118 (rsame_any A c p A19 c20 p _ (C_up M107 hC) (M107.row_C 9 rfl)) (fun _ hb _ M' => M'.call hb) fun w110 hb112 M111 => ?_
      refine ty_take 11 119 (.bool (decide (p = p))) (pok_cont pok_body) ?_ M111 (fun _ _ _ => by kernel_rfl)
      refine ty_take 12 120 (.bool (decide (p = p))) (pok_cont pok_body) ?_ M111 (fun _ _ _ => by kernel_rfl)
      have ht113 : (decide (p = p) : Bool) = true := decide_eq_true rfl
      have ht113p := of_decide_eq_true ht113
      rw [ht113]
      refine ty_take 13 121 (.agg #[.slice A p.length c]) (pok_cont pok_body) ?_ M111 (fun _ M' _ => rla M' 11 (vs := #[.slice A p.length c]) Try.underlying45)
      refine ty_take 15 123 (.agg #[.slice A p.length c]) (pok_cont pok_body) ?_ M111 (fun _ M' _ => rla M' 11 (vs := #[.slice A p.length c]) Try.underlying45)
      refine ty_all (rs := [14]) (te_one ?_)
      refine te_cb M111 122 (pmay_any p A c _ (C_up M111 hC)) (fun _ hb _ M' => M'.call hb) fun w114 hb116 M115 => ?_
      refine ty_all (rs := [16]) (te_one ?_)
      refine te_cb M115 124 (rmay_any p A c w114 (C_up M115 hC)) (fun _ hb _ M' => M'.call hb) fun w117 hb119 M118 => ?_
      refine ty_take 17 125 (.bool ((progMay p) == (progMay p))) (pok_cont pok_body) ?_ M118 (fun _ _ _ => by kernel_rfl)
      refine ty_take 18 126 (.bool ((progMay p) == (progMay p))) (pok_cont pok_body) ?_ M118 (fun _ _ _ => by kernel_rfl)
      refine ty_take 19 127 (.bool ((progMay p) == (progMay p))) (pok_cont pok_body) ?_ M118 (fun _ _ _ => by kernel_rfl)
      have ht120 : ((progMay p) == (progMay p) : Bool) = true := beq_self_eq_true _
      have ht120p := beq_iff_eq.1 ht120
      rw [ht120]
      refine ty_take 20 128 (.agg #[.slice A p.length c]) (pok_cont pok_body) ?_ M118 (fun _ M' _ => rla M' 11 (vs := #[.slice A p.length c]) Try.underlying45)
      refine ty_take 21 129 (.agg #[.slice A42 (progGet bs).1.length c43]) (pok_cont pok_body) ?_ M118 (fun _ M' _ => rla M' 6 (vs := #[.slice A42 (progGet bs).1.length c43]) Try.underlying45)
      refine ty_take 23 131 (.agg #[.slice A p.length c]) (pok_cont pok_body) ?_ M118 (fun _ M' _ => rla M' 11 (vs := #[.slice A p.length c]) Try.underlying45)
      refine ty_take 24 132 (.agg #[.slice A42 (progGet bs).1.length c43]) (pok_cont pok_body) ?_ M118 (fun _ M' _ => rla M' 6 (vs := #[.slice A42 (progGet bs).1.length c43]) Try.underlying45)
      refine ty_all (rs := [22]) (te_one ?_)
      refine te_cb M118 130 (psame_any A c p A42 c43 (progGet bs).1 w117 (C_up M118 hC) (M118.row_C 7 rfl)) (fun _ hb _ M' => M'.call hb) fun w121 hb123 M122 => ?_
      refine ty_all (rs := [25]) (te_one ?_)
      refine te_cb M122 133 (rsame_any A c p A42 c43 (progGet bs).1 _ (C_up M122 hC) (M122.row_C 7 rfl)) (fun _ hb _ M' => M'.call hb) fun w124 hb126 M125 => ?_
      refine ty_take 26 134 (.bool ((decide (p = (progGet bs).1)) == (decide (p = (progGet bs).1)))) (pok_cont pok_body) ?_ M125 (fun _ _ _ => by kernel_rfl)
      refine ty_take 27 135 (.bool ((decide (p = (progGet bs).1)) == (decide (p = (progGet bs).1)))) (pok_cont pok_body) ?_ M125 (fun _ _ _ => by kernel_rfl)
      refine ty_take 28 8 (.bool ((decide (p = (progGet bs).1)) == (decide (p = (progGet bs).1)))) (pok_cont pok_body) ?_ M125 (fun _ _ _ => by kernel_rfl)
      refine ty_endL ?_
      refine tn_code (tc_ret ?_)
      refine tr_tmp rfl rfl ?_
      have ht127 : ((decide (p = (progGet bs).1)) == (decide (p = (progGet bs).1)) : Bool) = true := beq_self_eq_true _
      have ht127p := beq_iff_eq.1 ht127
      exact ⟨congrArg Ending.returned (congrArg Value.bool (by first | exact ht127 | (rw [ht127]; rfl))), M125.below⟩
    · refine ce 52 (put_prog p A c w26 (C_up M27 hC) h28) fun e128 w129 h130 => ?_
      obtain ⟨A131, c132, rfl, hM133⟩ := h130
      have M134 := M27.join hM133
      refine ⟨_, rfl, ?_⟩
      refine sg 5 [1, 2, 4, 7, 11, 12, 13] [(1, .slice Ab bs.length cbs), (2, .int .i64 i), (4, .pointer (some ⟨b1, 0, none⟩)), (7, .pointer (some ⟨b4, 0, none⟩)), (11, .pointer (some ⟨b23, 0, none⟩)), (12, .slice A131 (progBytes p).length c132), (13, .int .i64 0)] ?_
      refine to_end rfl (tn_code (tc_seq (tc_region ?_)))
      refine la M134 4 56 #[.slice A p.length c] (hu := Try.underlying45) ?_
      refine ce 57 (rput_prog p A c _ (C_up M134 hC) h28 hop) fun e135 w136 h137 => ?_
      obtain ⟨A138, c139, rfl, hM140⟩ := h137
      have M141 := M134.join hM140
      refine ⟨_, rfl, ?_⟩
      refine sg 5 [1, 2, 4, 7, 11, 12, 13, 14, 15] [(1, .slice Ab bs.length cbs), (2, .int .i64 i), (4, .pointer (some ⟨b1, 0, none⟩)), (7, .pointer (some ⟨b4, 0, none⟩)), (11, .pointer (some ⟨b23, 0, none⟩)), (12, .slice A131 (progBytes p).length c132), (13, .int .i64 0), (14, .slice A138 (progBytes p).length c139), (15, .int .i64 0)] ?_
      refine to_end rfl (tn_code (tc_seq (tc_region ?_)))
      refine sg 2 [1, 2, 4, 7, 11, 13, 15, 60, 61] [(1, .slice Ab bs.length cbs), (2, .int .i64 i), (4, .pointer (some ⟨b1, 0, none⟩)), (7, .pointer (some ⟨b4, 0, none⟩)), (11, .pointer (some ⟨b23, 0, none⟩)), (13, .int .i64 0), (15, .int .i64 0), (60, .slice A131 (progBytes p).length c132), (61, .slice A138 (progBytes p).length c139)] ?_
      refine cb M141 62 (bytes_any A131 c132 (progBytes p) A138 c139 (progBytes p) _ (M141.row_C 1 rfl) (M141.row_C 0 rfl)) fun w142 hb144 M143 => ?_
      refine sg 1 [1, 2, 4, 7, 11, 13, 15, 63] [(1, .slice Ab bs.length cbs), (2, .int .i64 i), (4, .pointer (some ⟨b1, 0, none⟩)), (7, .pointer (some ⟨b4, 0, none⟩)), (11, .pointer (some ⟨b23, 0, none⟩)), (13, .int .i64 0), (15, .int .i64 0), (63, .bool (decide ((progBytes p) = (progBytes p))))] ?_
      have ht145 : (decide ((progBytes p) = (progBytes p)) : Bool) = true := decide_eq_true rfl
      have ht145p := of_decide_eq_true ht145
      rw [ht145]
      refine sg 5 [1, 2, 4, 7, 11, 16] [(1, .slice Ab bs.length cbs), (2, .int .i64 i), (4, .pointer (some ⟨b1, 0, none⟩)), (7, .pointer (some ⟨b4, 0, none⟩)), (11, .pointer (some ⟨b23, 0, none⟩)), (16, .bool true)] ?_
      refine to_end rfl (tn_code (tc_seq (tc_region ?_)))
      refine sg 1 [1, 2, 4, 7, 11, 16, 69] [(1, .slice Ab bs.length cbs), (2, .int .i64 i), (4, .pointer (some ⟨b1, 0, none⟩)), (7, .pointer (some ⟨b4, 0, none⟩)), (11, .pointer (some ⟨b23, 0, none⟩)), (16, .bool true), (69, .slice Ab bs.length cbs)] ?_
      refine ce 70 (get_prog Ab cbs bs _ (C_up M143 hB) hcb hb) fun e146 w147 h148 => ?_
      obtain ⟨A149, c150, rfl, hM151⟩ := h148
      have M152 := M143.join hM151
      refine ⟨_, rfl, ?_⟩
      refine sg 3 [1, 2, 4, 7, 11, 16, 71, 72] [(1, .slice Ab bs.length cbs), (2, .int .i64 i), (4, .pointer (some ⟨b1, 0, none⟩)), (7, .pointer (some ⟨b4, 0, none⟩)), (11, .pointer (some ⟨b23, 0, none⟩)), (16, .bool true), (71, .agg #[.slice A149 (progGet bs).1.length c150]), (72, .int .i64 (progGet bs).2)] ?_
      refine nw M152 17 #[.slice none 0 0] 45 fun b153 w154 M155 => ?_
      refine sa M155 0 #[.slice A149 (progGet bs).1.length c150] fun w156 M157 => ?_
      refine sg 1 [1, 2, 4, 7, 11, 16, 17, 18] [(1, .slice Ab bs.length cbs), (2, .int .i64 i), (4, .pointer (some ⟨b1, 0, none⟩)), (7, .pointer (some ⟨b4, 0, none⟩)), (11, .pointer (some ⟨b23, 0, none⟩)), (16, .bool true), (17, .pointer (some ⟨b153, 0, none⟩)), (18, .int .i64 (progGet bs).2)] ?_
      refine to_end rfl (tn_code (tc_seq (tc_region ?_)))
      refine sg 1 [2, 4, 7, 11, 16, 17, 18, 74] [(2, .int .i64 i), (4, .pointer (some ⟨b1, 0, none⟩)), (7, .pointer (some ⟨b4, 0, none⟩)), (11, .pointer (some ⟨b23, 0, none⟩)), (16, .bool true), (17, .pointer (some ⟨b153, 0, none⟩)), (18, .int .i64 (progGet bs).2), (74, .slice Ab bs.length cbs)] ?_
      refine ce 75 (rget_prog Ab cbs bs _ (C_up M157 hB) hcb hb (by have h_ := h15p; omega)) fun e158 w159 h160 => ?_
      obtain ⟨A161, c162, rfl, hM163⟩ := h160
      have M164 := M157.join hM163
      refine ⟨_, rfl, ?_⟩
      refine sg 3 [2, 4, 7, 11, 16, 17, 18, 76, 77] [(2, .int .i64 i), (4, .pointer (some ⟨b1, 0, none⟩)), (7, .pointer (some ⟨b4, 0, none⟩)), (11, .pointer (some ⟨b23, 0, none⟩)), (16, .bool true), (17, .pointer (some ⟨b153, 0, none⟩)), (18, .int .i64 (progGet bs).2), (76, .agg #[.slice A161 (progGet bs).1.length c162]), (77, .int .i64 (progGet bs).2)] ?_
      refine nw M164 19 #[.slice none 0 0] 45 fun b165 w166 M167 => ?_
      refine sa M167 0 #[.slice A161 (progGet bs).1.length c162] fun w168 M169 => ?_
      refine sg 1 [2, 4, 7, 11, 16, 17, 18, 19, 20] [(2, .int .i64 i), (4, .pointer (some ⟨b1, 0, none⟩)), (7, .pointer (some ⟨b4, 0, none⟩)), (11, .pointer (some ⟨b23, 0, none⟩)), (16, .bool true), (17, .pointer (some ⟨b153, 0, none⟩)), (18, .int .i64 (progGet bs).2), (19, .pointer (some ⟨b165, 0, none⟩)), (20, .int .i64 (progGet bs).2)] ?_
      refine to_end rfl (tn_code (tc_seq (tc_region ?_)))
      refine la M169 2 78 #[.slice A149 (progGet bs).1.length c150] (hu := Try.underlying45) ?_
      refine la M169 0 79 #[.slice A161 (progGet bs).1.length c162] (hu := Try.underlying45) ?_
      refine cb M169 80 (rsame_any A149 c150 (progGet bs).1 A161 c162 (progGet bs).1 _ (M169.row_C 3 rfl) (M169.row_C 1 rfl)) fun w170 hb172 M171 => ?_
      refine sg 1 [2, 4, 7, 11, 16, 17, 18, 20, 81] [(2, .int .i64 i), (4, .pointer (some ⟨b1, 0, none⟩)), (7, .pointer (some ⟨b4, 0, none⟩)), (11, .pointer (some ⟨b23, 0, none⟩)), (16, .bool true), (17, .pointer (some ⟨b153, 0, none⟩)), (18, .int .i64 (progGet bs).2), (20, .int .i64 (progGet bs).2), (81, .bool (decide ((progGet bs).1 = (progGet bs).1)))] ?_
      have ht173 : (decide ((progGet bs).1 = (progGet bs).1) : Bool) = true := decide_eq_true rfl
      have ht173p := of_decide_eq_true ht173
      rw [ht173]
      refine sg 5 [2, 4, 7, 11, 16, 17, 21] [(2, .int .i64 i), (4, .pointer (some ⟨b1, 0, none⟩)), (7, .pointer (some ⟨b4, 0, none⟩)), (11, .pointer (some ⟨b23, 0, none⟩)), (16, .bool true), (17, .pointer (some ⟨b153, 0, none⟩)), (21, .bool ((progGet bs).2 == (progGet bs).2))] ?_
      refine to_end rfl (tn_code (tc_seq (tc_region ?_)))
      refine la M171 9 87 #[.slice A p.length c] (hu := Try.underlying45) ?_
      refine sg 1 [2, 4, 7, 11, 16, 17, 21, 87, 88] [(2, .int .i64 i), (4, .pointer (some ⟨b1, 0, none⟩)), (7, .pointer (some ⟨b4, 0, none⟩)), (11, .pointer (some ⟨b23, 0, none⟩)), (16, .bool true), (17, .pointer (some ⟨b153, 0, none⟩)), (21, .bool ((progGet bs).2 == (progGet bs).2)), (87, .agg #[.slice A p.length c]), (88, .int .i64 i)] ?_
      refine la M171 8 89 #[.int .i64 f.args, .slice Af f.code.length cf] (hu := Try.underlying57) ?_
      refine ce 90 (swap_any p i f A c Af cf _ (C_up M171 hC) (C_up M171 hF) hcf) fun e174 w175 h176 => ?_
      obtain ⟨A177, c178, rfl, hM179⟩ := h176
      have M180 := M171.join hM179
      refine ⟨_, rfl, ?_⟩
      refine sg 3 [2, 4, 7, 11, 16, 17, 21, 91, 92] [(2, .int .i64 i), (4, .pointer (some ⟨b1, 0, none⟩)), (7, .pointer (some ⟨b4, 0, none⟩)), (11, .pointer (some ⟨b23, 0, none⟩)), (16, .bool true), (17, .pointer (some ⟨b153, 0, none⟩)), (21, .bool ((progGet bs).2 == (progGet bs).2)), (91, .agg #[.slice A177 (swapOf p i f).1.length c178]), (92, .int .i64 (swapOf p i f).2)] ?_
      refine nw M180 22 #[.slice none 0 0] 45 fun b181 w182 M183 => ?_
      refine sa M183 0 #[.slice A177 (swapOf p i f).1.length c178] fun w184 M185 => ?_
      refine sg 1 [2, 4, 7, 11, 16, 17, 21, 22, 23] [(2, .int .i64 i), (4, .pointer (some ⟨b1, 0, none⟩)), (7, .pointer (some ⟨b4, 0, none⟩)), (11, .pointer (some ⟨b23, 0, none⟩)), (16, .bool true), (17, .pointer (some ⟨b153, 0, none⟩)), (21, .bool ((progGet bs).2 == (progGet bs).2)), (22, .pointer (some ⟨b181, 0, none⟩)), (23, .int .i64 (swapOf p i f).2)] ?_
      refine to_end rfl (tn_code (tc_seq (tc_region ?_)))
      refine la M185 11 94 #[.slice A p.length c] (hu := Try.underlying45) ?_
      refine sg 1 [4, 7, 11, 16, 17, 21, 22, 23, 94, 95] [(4, .pointer (some ⟨b1, 0, none⟩)), (7, .pointer (some ⟨b4, 0, none⟩)), (11, .pointer (some ⟨b23, 0, none⟩)), (16, .bool true), (17, .pointer (some ⟨b153, 0, none⟩)), (21, .bool ((progGet bs).2 == (progGet bs).2)), (22, .pointer (some ⟨b181, 0, none⟩)), (23, .int .i64 (swapOf p i f).2), (94, .agg #[.slice A p.length c]), (95, .int .i64 i)] ?_
      refine la M185 10 96 #[.int .i64 f.args, .slice Af f.code.length cf] (hu := Try.underlying57) ?_
      refine ce 97 (rswap_any p i f A c Af cf _ (C_up M185 hC) (C_up M185 hF) hcf) fun e186 w187 h188 => ?_
      obtain ⟨A189, c190, rfl, hM191⟩ := h188
      have M192 := M185.join hM191
      refine ⟨_, rfl, ?_⟩
      refine sg 3 [4, 11, 16, 17, 21, 22, 23, 98, 99] [(4, .pointer (some ⟨b1, 0, none⟩)), (11, .pointer (some ⟨b23, 0, none⟩)), (16, .bool true), (17, .pointer (some ⟨b153, 0, none⟩)), (21, .bool ((progGet bs).2 == (progGet bs).2)), (22, .pointer (some ⟨b181, 0, none⟩)), (23, .int .i64 (swapOf p i f).2), (98, .agg #[.slice A189 (swapOf p i f).1.length c190]), (99, .int .i64 (swapOf p i f).2)] ?_
      refine nw M192 24 #[.slice none 0 0] 45 fun b193 w194 M195 => ?_
      refine sa M195 0 #[.slice A189 (swapOf p i f).1.length c190] fun w196 M197 => ?_
      refine sg 1 [4, 11, 16, 17, 21, 22, 23, 24, 25] [(4, .pointer (some ⟨b1, 0, none⟩)), (11, .pointer (some ⟨b23, 0, none⟩)), (16, .bool true), (17, .pointer (some ⟨b153, 0, none⟩)), (21, .bool ((progGet bs).2 == (progGet bs).2)), (22, .pointer (some ⟨b181, 0, none⟩)), (23, .int .i64 (swapOf p i f).2), (24, .pointer (some ⟨b193, 0, none⟩)), (25, .int .i64 (swapOf p i f).2)] ?_
      refine to_end rfl (tn_code (tc_seq (tc_region ?_)))
      refine la M197 2 100 #[.slice A177 (swapOf p i f).1.length c178] (hu := Try.underlying45) ?_
      refine la M197 0 101 #[.slice A189 (swapOf p i f).1.length c190] (hu := Try.underlying45) ?_
      refine cb M197 102 (rsame_any A177 c178 (swapOf p i f).1 A189 c190 (swapOf p i f).1 _ (M197.row_C 3 rfl) (M197.row_C 1 rfl)) fun w198 hb200 M199 => ?_
      refine sg 1 [4, 11, 16, 17, 21, 23, 25, 103] [(4, .pointer (some ⟨b1, 0, none⟩)), (11, .pointer (some ⟨b23, 0, none⟩)), (16, .bool true), (17, .pointer (some ⟨b153, 0, none⟩)), (21, .bool ((progGet bs).2 == (progGet bs).2)), (23, .int .i64 (swapOf p i f).2), (25, .int .i64 (swapOf p i f).2), (103, .bool (decide ((swapOf p i f).1 = (swapOf p i f).1)))] ?_
      have ht201 : (decide ((swapOf p i f).1 = (swapOf p i f).1) : Bool) = true := decide_eq_true rfl
      have ht201p := of_decide_eq_true ht201
      rw [ht201]
      refine sg 5 [4, 11, 16, 17, 21, 26] [(4, .pointer (some ⟨b1, 0, none⟩)), (11, .pointer (some ⟨b23, 0, none⟩)), (16, .bool true), (17, .pointer (some ⟨b153, 0, none⟩)), (21, .bool ((progGet bs).2 == (progGet bs).2)), (26, .bool ((swapOf p i f).2 == (swapOf p i f).2))] ?_
      refine to_end rfl (tn_code (tc_seq ?_))
      refine tc_drawL (fun w' => Mem w w' ([blk b193 #[.slice A189 (swapOf p i f).1.length c190] 45, row kFn 57 (.slice A189 (swapOf p i f).1.length c190) (swapOf p i f).1, blk b181 #[.slice A177 (swapOf p i f).1.length c178] 45, row kFn 57 (.slice A177 (swapOf p i f).1.length c178) (swapOf p i f).1, blk b165 #[.slice A161 (progGet bs).1.length c162] 45, row kFn 57 (.slice A161 (progGet bs).1.length c162) (progGet bs).1, blk b153 #[.slice A149 (progGet bs).1.length c150] 45, row kFn 57 (.slice A149 (progGet bs).1.length c150) (progGet bs).1, row kB 5 (.slice A138 (progBytes p).length c139) (progBytes p), row kB 5 (.slice A131 (progBytes p).length c132) (progBytes p), blk b23 #[.slice A19 p.length c20] 45, row kFn 57 (.slice A19 p.length c20) p, blk b4 #[.int .i64 f.args, .slice Af f.code.length cf] 57, blk b1 #[.slice A p.length c] 45])) [] (by kernel_rfl) ?_
      have M216 := M199.draw
      refine ty_take 0 108 (.bool true) (pok_cont pok_body) ?_ M216 (fun _ _ _ => by kernel_rfl)
      refine ty_take 1 109 (.bool true) (pok_cont pok_body) ?_ M216 (fun _ _ _ => by kernel_rfl)
      refine ty_take 2 110 (.bool ((progGet bs).2 == (progGet bs).2)) (pok_cont pok_body) ?_ M216 (fun _ _ _ => by kernel_rfl)
      refine ty_take 3 111 (.bool ((progGet bs).2 == (progGet bs).2)) (pok_cont pok_body) ?_ M216 (fun _ _ _ => by kernel_rfl)
      refine ty_take 4 112 (.bool ((progGet bs).2 == (progGet bs).2)) (pok_cont pok_body) ?_ M216 (fun _ _ _ => by kernel_rfl)
      have ht217 : ((progGet bs).2 == (progGet bs).2 : Bool) = true := beq_self_eq_true _
      have ht217p := beq_iff_eq.1 ht217
      rw [ht217]
      refine ty_take 5 113 (.bool ((swapOf p i f).2 == (swapOf p i f).2)) (pok_cont pok_body) ?_ M216 (fun _ _ _ => by kernel_rfl)
      refine ty_take 6 114 (.bool ((swapOf p i f).2 == (swapOf p i f).2)) (pok_cont pok_body) ?_ M216 (fun _ _ _ => by kernel_rfl)
      refine ty_take 7 115 (.bool ((swapOf p i f).2 == (swapOf p i f).2)) (pok_cont pok_body) ?_ M216 (fun _ _ _ => by kernel_rfl)
      have ht218 : ((swapOf p i f).2 == (swapOf p i f).2 : Bool) = true := beq_self_eq_true _
      have ht218p := beq_iff_eq.1 ht218
      rw [ht218]
      refine ty_take 8 116 (.agg #[.slice A p.length c]) (pok_cont pok_body) ?_ M216 (fun _ M' _ => rla M' 13 (vs := #[.slice A p.length c]) Try.underlying45)
      refine ty_take 9 117 (.agg #[.slice A19 p.length c20]) (pok_cont pok_body) ?_ M216 (fun _ M' _ => rla M' 10 (vs := #[.slice A19 p.length c20]) Try.underlying45)
      refine ty_all (rs := [10]) (te_one ?_)
      refine te_cb M216 118 (rsame_any A c p A19 c20 p _ (C_up M216 hC) (M216.row_C 11 rfl)) (fun _ hb _ M' => M'.call hb) fun w219 hb221 M220 => ?_
      refine ty_take 11 119 (.bool (decide (p = p))) (pok_cont pok_body) ?_ M220 (fun _ _ _ => by kernel_rfl)
      refine ty_take 12 120 (.bool (decide (p = p))) (pok_cont pok_body) ?_ M220 (fun _ _ _ => by kernel_rfl)
      have ht222 : (decide (p = p) : Bool) = true := decide_eq_true rfl
      have ht222p := of_decide_eq_true ht222
      rw [ht222]
      refine ty_take 13 121 (.agg #[.slice A p.length c]) (pok_cont pok_body) ?_ M220 (fun _ M' _ => rla M' 13 (vs := #[.slice A p.length c]) Try.underlying45)
      refine ty_take 15 123 (.agg #[.slice A p.length c]) (pok_cont pok_body) ?_ M220 (fun _ M' _ => rla M' 13 (vs := #[.slice A p.length c]) Try.underlying45)
      refine ty_all (rs := [14]) (te_one ?_)
      refine te_cb M220 122 (pmay_any p A c _ (C_up M220 hC)) (fun _ hb _ M' => M'.call hb) fun w223 hb225 M224 => ?_
      refine ty_all (rs := [16]) (te_one ?_)
      refine te_cb M224 124 (rmay_any p A c w223 (C_up M224 hC)) (fun _ hb _ M' => M'.call hb) fun w226 hb228 M227 => ?_
      refine ty_take 17 125 (.bool ((progMay p) == (progMay p))) (pok_cont pok_body) ?_ M227 (fun _ _ _ => by kernel_rfl)
      refine ty_take 18 126 (.bool ((progMay p) == (progMay p))) (pok_cont pok_body) ?_ M227 (fun _ _ _ => by kernel_rfl)
      refine ty_take 19 127 (.bool ((progMay p) == (progMay p))) (pok_cont pok_body) ?_ M227 (fun _ _ _ => by kernel_rfl)
      have ht229 : ((progMay p) == (progMay p) : Bool) = true := beq_self_eq_true _
      have ht229p := beq_iff_eq.1 ht229
      rw [ht229]
      refine ty_take 20 128 (.agg #[.slice A p.length c]) (pok_cont pok_body) ?_ M227 (fun _ M' _ => rla M' 13 (vs := #[.slice A p.length c]) Try.underlying45)
      refine ty_take 21 129 (.agg #[.slice A149 (progGet bs).1.length c150]) (pok_cont pok_body) ?_ M227 (fun _ M' _ => rla M' 6 (vs := #[.slice A149 (progGet bs).1.length c150]) Try.underlying45)
      refine ty_take 23 131 (.agg #[.slice A p.length c]) (pok_cont pok_body) ?_ M227 (fun _ M' _ => rla M' 13 (vs := #[.slice A p.length c]) Try.underlying45)
      refine ty_take 24 132 (.agg #[.slice A149 (progGet bs).1.length c150]) (pok_cont pok_body) ?_ M227 (fun _ M' _ => rla M' 6 (vs := #[.slice A149 (progGet bs).1.length c150]) Try.underlying45)
      refine ty_all (rs := [22]) (te_one ?_)
      refine te_cb M227 130 (psame_any A c p A149 c150 (progGet bs).1 w226 (C_up M227 hC) (M227.row_C 7 rfl)) (fun _ hb _ M' => M'.call hb) fun w230 hb232 M231 => ?_
      refine ty_all (rs := [25]) (te_one ?_)
      refine te_cb M231 133 (rsame_any A c p A149 c150 (progGet bs).1 _ (C_up M231 hC) (M231.row_C 7 rfl)) (fun _ hb _ M' => M'.call hb) fun w233 hb235 M234 => ?_
      refine ty_take 26 134 (.bool ((decide (p = (progGet bs).1)) == (decide (p = (progGet bs).1)))) (pok_cont pok_body) ?_ M234 (fun _ _ _ => by kernel_rfl)
      refine ty_take 27 135 (.bool ((decide (p = (progGet bs).1)) == (decide (p = (progGet bs).1)))) (pok_cont pok_body) ?_ M234 (fun _ _ _ => by kernel_rfl)
      refine ty_take 28 8 (.bool ((decide (p = (progGet bs).1)) == (decide (p = (progGet bs).1)))) (pok_cont pok_body) ?_ M234 (fun _ _ _ => by kernel_rfl)
      refine ty_endL ?_
      refine tn_code (tc_ret ?_)
      refine tr_tmp rfl rfl ?_
      have ht236 : ((decide (p = (progGet bs).1)) == (decide (p = (progGet bs).1)) : Bool) = true := beq_self_eq_true _
      have ht236p := beq_iff_eq.1 ht236
      exact ⟨congrArg Ending.returned (congrArg Value.bool (by first | exact ht236 | (rw [ht236]; rfl))), M234.below⟩
end Go.Proofs.Ytfknhbgghpbkpaa
