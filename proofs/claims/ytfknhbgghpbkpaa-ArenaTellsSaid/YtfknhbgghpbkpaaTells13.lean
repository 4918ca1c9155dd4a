/- The law ArenaTells: its walk. -/
import Derived.Test.YtfknhbgghpbkpaaAr9
namespace Go.Proofs.Ytfknhbgghpbkpaa
open Go.RowKit Cal Go.Proofs.YtfknhbgghpbkpaaW.PrintWords
set_option linter.unusedSimpArgs false in
theorem tells13_any (cap : Int) (l : List Blk) (A : Option Addr) (c : Nat) (id a : Int) (Aw : Option Addr) (cws : Nat) (ws : List Int) (v : Int) (w : World) (hC : kBlk.C w A l.length l) (hcl : l.length ≤ c) (hcp : cap ≤ 9223372036854775807) (ha : I64 a) (hW : kW.C w Aw ws.length ws) (hcw : ws.length ≤ cws) : Calls Try.prog 3 #[.agg #[.int .i64 cap, .slice A l.length c], .int .i64 id, .int .i64 a, .slice Aw ws.length cws, .int .u64 v] w fun e w' => e = .returned (.bool true) ∧ Below w.heap.size w w' := by
  have M := Mem.refl w
  have hmx := C_max hC
  have hmw := C_max hW
  refine calls_tc (N := 229) (args := [.agg #[.int .i64 cap, .slice A l.length c], .int .i64 id, .int .i64 a, .slice Aw ws.length cws, .int .u64 v]) Try.func3 rfl rfl rfl ?_
  refine tc_seq (tc_region ?_)
  refine nw M 5 #[.int .i64 cap, .slice A l.length c] 24 fun b1 w2 M3 => ?_
  refine sg 1 [1, 2, 3, 4, 5] [(1, .int .i64 id), (2, .int .i64 a), (3, .slice Aw ws.length cws), (4, .int .u64 v), (5, .pointer (some ⟨b1, 0, none⟩))] ?_
  refine to_end rfl (tn_code (tc_seq (tc_region ?_)))
  refine cb M3 45 (awake13_any _) fun w4 hb6 M5 => ?_
  refine sg 1 [1, 2, 3, 4, 5, 11] [(1, .int .i64 id), (2, .int .i64 a), (3, .slice Aw ws.length cws), (4, .int .u64 v), (5, .pointer (some ⟨b1, 0, none⟩)), (11, .bool true)] ?_
  refine to_end rfl (tn_code (tc_seq (tc_region ?_)))
  refine la M5 0 46 #[.int .i64 cap, .slice A l.length c] (hu := Try.underlying24) ?_
  refine cb M5 47 (few13_any cap l A c _ (C_up M5 hC)) fun w7 hb9 M8 => ?_
  refine sg 1 [1, 2, 3, 4, 5, 11, 12] [(1, .int .i64 id), (2, .int .i64 a), (3, .slice Aw ws.length cws), (4, .int .u64 v), (5, .pointer (some ⟨b1, 0, none⟩)), (11, .bool true), (12, .bool (fewM l))] ?_
  refine to_end rfl (tn_code (tc_seq (tc_seq (tc_region ?_))))
  refine join (fr' := [(1, .int .i64 id), (2, .int .i64 a), (3, .slice Aw ws.length cws), (4, .int .u64 v), (5, .pointer (some ⟨b1, 0, none⟩)), (11, .bool true), (58, .bool ((!(fewM l)) || (decide ((ws.length : Int) > 1100))))]) (fun hj_ => ?_) ?_
  · refine sg 7 [1, 2, 3, 4, 5, 11, 54] [(1, .int .i64 id), (2, .int .i64 a), (3, .slice Aw ws.length cws), (4, .int .u64 v), (5, .pointer (some ⟨b1, 0, none⟩)), (11, .bool true), (54, .bool (!(fewM l)))] ?_
    rcases bdi (fewM l : Bool) with h10 | h10
    · rw [h10]
      refine sg 4 [1, 2, 3, 4, 5, 11, 58] [(1, .int .i64 id), (2, .int .i64 a), (3, .slice Aw ws.length cws), (4, .int .u64 v), (5, .pointer (some ⟨b1, 0, none⟩)), (11, .bool true), (58, .bool true)] ?_
      refine to_end rfl ?_
      rw [show ((!(fewM l)) || (decide ((ws.length : Int) > 1100)) : Bool) = true from by (simp only [h10, Bool.true_or, Bool.false_or, Bool.or_true, Bool.or_false, Bool.true_and, Bool.false_and, Bool.and_true, Bool.and_false, Bool.not_true, Bool.not_false, cond_true, cond_false, if_true, reduceIte]) <;> rfl] at hj_
      exact hj_.sub (Sub.cons rfl (Sub.cons rfl (Sub.cons rfl (Sub.cons rfl (Sub.cons rfl (Sub.cons rfl (Sub.cons rfl (Sub.nil _))))))))
    · rw [h10]
      refine sg 4 [1, 2, 3, 4, 5, 11, 58] [(1, .int .i64 id), (2, .int .i64 a), (3, .slice Aw ws.length cws), (4, .int .u64 v), (5, .pointer (some ⟨b1, 0, none⟩)), (11, .bool true), (58, .bool (decide ((ws.length : Int) > 1100)))] ?_
      refine to_end rfl ?_
      rw [show ((!(fewM l)) || (decide ((ws.length : Int) > 1100)) : Bool) = (decide ((ws.length : Int) > 1100)) from by (simp only [h10, Bool.true_or, Bool.false_or, Bool.or_true, Bool.or_false, Bool.true_and, Bool.false_and, Bool.and_true, Bool.and_false, Bool.not_true, Bool.not_false, cond_true, cond_false, if_true, reduceIte]) <;> rfl] at hj_
      exact hj_.sub (Sub.cons rfl (Sub.cons rfl (Sub.cons rfl (Sub.cons rfl (Sub.cons rfl (Sub.cons rfl (Sub.cons rfl (Sub.nil _))))))))
  refine tn_code ?_
  refine tc_cond (b := (!(fewM l)) || (decide ((ws.length : Int) > 1100))) (fun _ => rfl) (fun h11 => ?_) (fun h11 => ?_)
  · have h11p := h11
    simp only [Bool.or_eq_true, Bool.and_eq_true, Bool.or_eq_false_iff, Bool.and_eq_false_iff, decide_eq_true_eq, decide_eq_false_iff_not, beq_iff_eq, bne_iff_ne, beq_eq_false_iff_ne, bne_eq_false_iff_eq, Bool.not_eq_true', Bool.not_eq_false', ne_eq] at h11p
    refine tc_seq (tc_region ?_)
    refine sg 2 [10] [(10, .bool true)] ?_
    refine to_end rfl (tn_code (tc_ret ?_))
    refine tr_tmp rfl rfl ?_
    exact ⟨rfl, M8.below⟩
  · have h11p := h11
    simp only [Bool.or_eq_true, Bool.and_eq_true, Bool.or_eq_false_iff, Bool.and_eq_false_iff, decide_eq_true_eq, decide_eq_false_iff_not, beq_iff_eq, bne_iff_ne, beq_eq_false_iff_ne, bne_eq_false_iff_eq, Bool.not_eq_true', Bool.not_eq_false', ne_eq] at h11p
    refine tc_skip (tn_code (tc_seq (tc_region ?_)))
    refine la M8 0 60 #[.int .i64 cap, .slice A l.length c] (hu := Try.underlying24) ?_
    have hfew : fewM l = true := by have h_ := h11p; exact h_.1
    have hsm := few_sm hfew
    have hlm := few_len hfew
    have hwl : ws.length ≤ 1000000 := by omega
    refine ce 61 (rown13_any cap l A c _ (C_up M8 hC) hsm hlm) fun e18 w19 h20 => ?_
    obtain ⟨A12, c13, vs14, rfl, hM15, hok16⟩ := h20
    have M17 := M8.join (Mem.rd_apart hok16 hM15)
    refine ⟨_, rfl, ?_⟩
    refine nw M17 13 #[.int .i64 0, .slice none 0 0] 24 fun b22 w23 M24 => ?_
    refine sa M24 0 #[.int .i64 cap, .slice A12 l.length c13] fun w25 M26 => ?_
    refine to_end rfl (tn_code (tc_seq (tc_region ?_)))
    refine la M26 2 63 #[.int .i64 cap, .slice A l.length c] (hu := Try.underlying24) ?_
    refine sg 3 [1, 2, 3, 4, 5, 13, 63, 64, 65, 66] [(1, .int .i64 id), (2, .int .i64 a), (3, .slice Aw ws.length cws), (4, .int .u64 v), (5, .pointer (some ⟨b1, 0, none⟩)), (13, .pointer (some ⟨b22, 0, none⟩)), (63, .agg #[.int .i64 cap, .slice A l.length c]), (64, .int .i64 id), (65, .int .i64 a), (66, .slice Aw ws.length cws)] ?_
    refine ce 67 (put13_any cap l A c id a Aw cws ws _ (C_up M26 hC) hcl hsm hlm (C_up M26 hW) hcw hwl) fun e31 w32 h33 => ?_
    obtain ⟨A27, c28, rfl, hM29, hc30⟩ := h33
    have M34 := M26.join hM29
    refine ⟨_, rfl, ?_⟩
    refine sg 3 [1, 2, 3, 4, 5, 13, 68, 69] [(1, .int .i64 id), (2, .int .i64 a), (3, .slice Aw ws.length cws), (4, .int .u64 v), (5, .pointer (some ⟨b1, 0, none⟩)), (13, .pointer (some ⟨b22, 0, none⟩)), (68, .agg #[.int .i64 (putM cap l id a ws).1.1, .slice A27 (putM cap l id a ws).1.2.length c28]), (69, .int .i64 (putM cap l id a ws).2)] ?_
    refine nw M34 14 #[.int .i64 0, .slice none 0 0] 24 fun b35 w36 M37 => ?_
    refine sa M37 0 #[.int .i64 (putM cap l id a ws).1.1, .slice A27 (putM cap l id a ws).1.2.length c28] fun w38 M39 => ?_
    refine sg 1 [1, 2, 3, 4, 5, 13, 14, 15] [(1, .int .i64 id), (2, .int .i64 a), (3, .slice Aw ws.length cws), (4, .int .u64 v), (5, .pointer (some ⟨b1, 0, none⟩)), (13, .pointer (some ⟨b22, 0, none⟩)), (14, .pointer (some ⟨b35, 0, none⟩)), (15, .int .i64 (putM cap l id a ws).2)] ?_
    refine to_end rfl (tn_code (tc_seq (tc_region ?_)))
    refine la M39 4 71 #[.int .i64 cap, .slice A l.length c] (hu := Try.underlying24) ?_
    refine sg 3 [1, 2, 3, 4, 5, 13, 14, 15, 71, 72, 73, 74] [(1, .int .i64 id), (2, .int .i64 a), (3, .slice Aw ws.length cws), (4, .int .u64 v), (5, .pointer (some ⟨b1, 0, none⟩)), (13, .pointer (some ⟨b22, 0, none⟩)), (14, .pointer (some ⟨b35, 0, none⟩)), (15, .int .i64 (putM cap l id a ws).2), (71, .agg #[.int .i64 cap, .slice A l.length c]), (72, .int .i64 id), (73, .int .i64 a), (74, .slice Aw ws.length cws)] ?_
    refine ce 75 (rput13_any cap l A c id a Aw cws ws _ (C_up M39 hC) hcl hsm hlm (C_up M39 hW) hcw hwl) fun e44 w45 h46 => ?_
    obtain ⟨A40, c41, rfl, hM42, hc43⟩ := h46
    have M47 := M39.join hM42
    refine ⟨_, rfl, ?_⟩
    refine sg 3 [1, 2, 3, 4, 5, 13, 14, 15, 76, 77] [(1, .int .i64 id), (2, .int .i64 a), (3, .slice Aw ws.length cws), (4, .int .u64 v), (5, .pointer (some ⟨b1, 0, none⟩)), (13, .pointer (some ⟨b22, 0, none⟩)), (14, .pointer (some ⟨b35, 0, none⟩)), (15, .int .i64 (putM cap l id a ws).2), (76, .agg #[.int .i64 (putM cap l id a ws).1.1, .slice A40 (putM cap l id a ws).1.2.length c41]), (77, .int .i64 (putM cap l id a ws).2)] ?_
    refine nw M47 16 #[.int .i64 0, .slice none 0 0] 24 fun b48 w49 M50 => ?_
    refine sa M50 0 #[.int .i64 (putM cap l id a ws).1.1, .slice A40 (putM cap l id a ws).1.2.length c41] fun w51 M52 => ?_
    refine sg 1 [1, 2, 3, 4, 5, 13, 14, 15, 16, 17] [(1, .int .i64 id), (2, .int .i64 a), (3, .slice Aw ws.length cws), (4, .int .u64 v), (5, .pointer (some ⟨b1, 0, none⟩)), (13, .pointer (some ⟨b22, 0, none⟩)), (14, .pointer (some ⟨b35, 0, none⟩)), (15, .int .i64 (putM cap l id a ws).2), (16, .pointer (some ⟨b48, 0, none⟩)), (17, .int .i64 (putM cap l id a ws).2)] ?_
    refine to_end rfl (tn_code (tc_seq (tc_region ?_)))
    refine la M52 2 78 #[.int .i64 (putM cap l id a ws).1.1, .slice A27 (putM cap l id a ws).1.2.length c28] (hu := Try.underlying24) ?_
    refine la M52 0 79 #[.int .i64 (putM cap l id a ws).1.1, .slice A40 (putM cap l id a ws).1.2.length c41] (hu := Try.underlying24) ?_
    refine cb M52 80 (same13_any (putM cap l id a ws).1.1 A27 c28 (putM cap l id a ws).1.2 (putM cap l id a ws).1.1 A40 c41 (putM cap l id a ws).1.2 _ (M52.rd_C 3 rfl) (M52.rd_C 1 rfl)) fun w53 hb55 M54 => ?_
    refine sg 1 [1, 2, 3, 4, 5, 13, 15, 17, 81] [(1, .int .i64 id), (2, .int .i64 a), (3, .slice Aw ws.length cws), (4, .int .u64 v), (5, .pointer (some ⟨b1, 0, none⟩)), (13, .pointer (some ⟨b22, 0, none⟩)), (15, .int .i64 (putM cap l id a ws).2), (17, .int .i64 (putM cap l id a ws).2), (81, .bool (decide ((putM cap l id a ws).1.1 = (putM cap l id a ws).1.1 ∧ (putM cap l id a ws).1.2 = (putM cap l id a ws).1.2)))] ?_
    have ht56 : (decide ((putM cap l id a ws).1.1 = (putM cap l id a ws).1.1 ∧ (putM cap l id a ws).1.2 = (putM cap l id a ws).1.2) : Bool) = true := decide_eq_true ⟨rfl, rfl⟩
    have ht56p := of_decide_eq_true ht56
    rw [ht56]
    refine sg 5 [1, 2, 3, 4, 5, 13, 18] [(1, .int .i64 id), (2, .int .i64 a), (3, .slice Aw ws.length cws), (4, .int .u64 v), (5, .pointer (some ⟨b1, 0, none⟩)), (13, .pointer (some ⟨b22, 0, none⟩)), (18, .bool ((putM cap l id a ws).2 == (putM cap l id a ws).2))] ?_
    refine to_end rfl (tn_code (tc_seq (tc_region ?_)))
    refine la M54 6 87 #[.int .i64 cap, .slice A l.length c] (hu := Try.underlying24) ?_
    refine sg 1 [1, 2, 3, 4, 5, 13, 18, 87, 88] [(1, .int .i64 id), (2, .int .i64 a), (3, .slice Aw ws.length cws), (4, .int .u64 v), (5, .pointer (some ⟨b1, 0, none⟩)), (13, .pointer (some ⟨b22, 0, none⟩)), (18, .bool ((putM cap l id a ws).2 == (putM cap l id a ws).2)), (87, .agg #[.int .i64 cap, .slice A l.length c]), (88, .int .i64 id)] ?_
    refine ce 89 (drop_any cap l A c id _ (C_up M54 hC) hcl hsm hlm) fun e61 w62 h63 => ?_
    obtain ⟨A57, c58, rfl, hM59, hc60⟩ := h63
    have M64 := M54.join hM59
    refine ⟨_, rfl, ?_⟩
    refine sg 3 [1, 2, 3, 4, 5, 13, 18, 90, 91] [(1, .int .i64 id), (2, .int .i64 a), (3, .slice Aw ws.length cws), (4, .int .u64 v), (5, .pointer (some ⟨b1, 0, none⟩)), (13, .pointer (some ⟨b22, 0, none⟩)), (18, .bool ((putM cap l id a ws).2 == (putM cap l id a ws).2)), (90, .agg #[.int .i64 (dropM cap l id).1.1, .slice A57 (dropM cap l id).1.2.length c58]), (91, .int .i64 (dropM cap l id).2)] ?_
    refine nw M64 19 #[.int .i64 0, .slice none 0 0] 24 fun b65 w66 M67 => ?_
    refine sa M67 0 #[.int .i64 (dropM cap l id).1.1, .slice A57 (dropM cap l id).1.2.length c58] fun w68 M69 => ?_
    refine sg 1 [1, 2, 3, 4, 5, 13, 18, 19, 20] [(1, .int .i64 id), (2, .int .i64 a), (3, .slice Aw ws.length cws), (4, .int .u64 v), (5, .pointer (some ⟨b1, 0, none⟩)), (13, .pointer (some ⟨b22, 0, none⟩)), (18, .bool ((putM cap l id a ws).2 == (putM cap l id a ws).2)), (19, .pointer (some ⟨b65, 0, none⟩)), (20, .int .i64 (dropM cap l id).2)] ?_
    refine to_end rfl (tn_code (tc_seq (tc_region ?_)))
    refine la M69 8 93 #[.int .i64 cap, .slice A l.length c] (hu := Try.underlying24) ?_
    refine sg 1 [2, 3, 4, 5, 13, 18, 19, 20, 93, 94] [(2, .int .i64 a), (3, .slice Aw ws.length cws), (4, .int .u64 v), (5, .pointer (some ⟨b1, 0, none⟩)), (13, .pointer (some ⟨b22, 0, none⟩)), (18, .bool ((putM cap l id a ws).2 == (putM cap l id a ws).2)), (19, .pointer (some ⟨b65, 0, none⟩)), (20, .int .i64 (dropM cap l id).2), (93, .agg #[.int .i64 cap, .slice A l.length c]), (94, .int .i64 id)] ?_
    refine ce 95 (rdrop_any cap l A c id _ (C_up M69 hC) hcl hsm hlm) fun e74 w75 h76 => ?_
    obtain ⟨A70, c71, rfl, hM72, hc73⟩ := h76
    have M77 := M69.join hM72
    refine ⟨_, rfl, ?_⟩
    refine sg 3 [2, 3, 4, 5, 13, 18, 19, 20, 96, 97] [(2, .int .i64 a), (3, .slice Aw ws.length cws), (4, .int .u64 v), (5, .pointer (some ⟨b1, 0, none⟩)), (13, .pointer (some ⟨b22, 0, none⟩)), (18, .bool ((putM cap l id a ws).2 == (putM cap l id a ws).2)), (19, .pointer (some ⟨b65, 0, none⟩)), (20, .int .i64 (dropM cap l id).2), (96, .agg #[.int .i64 (dropM cap l id).1.1, .slice A70 (dropM cap l id).1.2.length c71]), (97, .int .i64 (dropM cap l id).2)] ?_
    refine nw M77 21 #[.int .i64 0, .slice none 0 0] 24 fun b78 w79 M80 => ?_
    refine sa M80 0 #[.int .i64 (dropM cap l id).1.1, .slice A70 (dropM cap l id).1.2.length c71] fun w81 M82 => ?_
    refine sg 1 [2, 3, 4, 5, 13, 18, 19, 20, 21, 22] [(2, .int .i64 a), (3, .slice Aw ws.length cws), (4, .int .u64 v), (5, .pointer (some ⟨b1, 0, none⟩)), (13, .pointer (some ⟨b22, 0, none⟩)), (18, .bool ((putM cap l id a ws).2 == (putM cap l id a ws).2)), (19, .pointer (some ⟨b65, 0, none⟩)), (20, .int .i64 (dropM cap l id).2), (21, .pointer (some ⟨b78, 0, none⟩)), (22, .int .i64 (dropM cap l id).2)] ?_
    refine to_end rfl (tn_code (tc_seq (tc_region ?_)))
    refine la M82 2 98 #[.int .i64 (dropM cap l id).1.1, .slice A57 (dropM cap l id).1.2.length c58] (hu := Try.underlying24) ?_
    refine la M82 0 99 #[.int .i64 (dropM cap l id).1.1, .slice A70 (dropM cap l id).1.2.length c71] (hu := Try.underlying24) ?_
    refine cb M82 100 (same13_any (dropM cap l id).1.1 A57 c58 (dropM cap l id).1.2 (dropM cap l id).1.1 A70 c71 (dropM cap l id).1.2 _ (M82.rd_C 3 rfl) (M82.rd_C 1 rfl)) fun w83 hb85 M84 => ?_
    refine sg 1 [2, 3, 4, 5, 13, 18, 20, 22, 101] [(2, .int .i64 a), (3, .slice Aw ws.length cws), (4, .int .u64 v), (5, .pointer (some ⟨b1, 0, none⟩)), (13, .pointer (some ⟨b22, 0, none⟩)), (18, .bool ((putM cap l id a ws).2 == (putM cap l id a ws).2)), (20, .int .i64 (dropM cap l id).2), (22, .int .i64 (dropM cap l id).2), (101, .bool (decide ((dropM cap l id).1.1 = (dropM cap l id).1.1 ∧ (dropM cap l id).1.2 = (dropM cap l id).1.2)))] ?_
    have ht86 : (decide ((dropM cap l id).1.1 = (dropM cap l id).1.1 ∧ (dropM cap l id).1.2 = (dropM cap l id).1.2) : Bool) = true := decide_eq_true ⟨rfl, rfl⟩
    have ht86p := of_decide_eq_true ht86
    rw [ht86]
    refine sg 5 [2, 3, 4, 5, 13, 18, 23] [(2, .int .i64 a), (3, .slice Aw ws.length cws), (4, .int .u64 v), (5, .pointer (some ⟨b1, 0, none⟩)), (13, .pointer (some ⟨b22, 0, none⟩)), (18, .bool ((putM cap l id a ws).2 == (putM cap l id a ws).2)), (23, .bool ((dropM cap l id).2 == (dropM cap l id).2))] ?_
    refine to_end rfl (tn_code (tc_seq (tc_region ?_)))
    refine la M84 10 107 #[.int .i64 cap, .slice A l.length c] (hu := Try.underlying24) ?_
    refine sg 1 [2, 3, 4, 5, 13, 18, 23, 107, 108] [(2, .int .i64 a), (3, .slice Aw ws.length cws), (4, .int .u64 v), (5, .pointer (some ⟨b1, 0, none⟩)), (13, .pointer (some ⟨b22, 0, none⟩)), (18, .bool ((putM cap l id a ws).2 == (putM cap l id a ws).2)), (23, .bool ((dropM cap l id).2 == (dropM cap l id).2)), (107, .agg #[.int .i64 cap, .slice A l.length c]), (108, .int .i64 a)] ?_
    refine cb M84 109 (fetch_any cap l A c a _ (C_up M84 hC) hsm ha) fun w87 hb89 M88 => ?_
    refine sg 7 [2, 3, 4, 5, 13, 18, 23, 24, 25, 26] [(2, .int .i64 a), (3, .slice Aw ws.length cws), (4, .int .u64 v), (5, .pointer (some ⟨b1, 0, none⟩)), (13, .pointer (some ⟨b22, 0, none⟩)), (18, .bool ((putM cap l id a ws).2 == (putM cap l id a ws).2)), (23, .bool ((dropM cap l id).2 == (dropM cap l id).2)), (24, .int .u64 (fetchM cap l a).1), (25, .int .i64 (fetchM cap l a).2.1), (26, .bool (fetchM cap l a).2.2)] ?_
    refine to_end rfl (tn_code (tc_seq (tc_region ?_)))
    refine la M88 10 114 #[.int .i64 cap, .slice A l.length c] (hu := Try.underlying24) ?_
    refine sg 1 [2, 3, 4, 5, 13, 18, 23, 24, 25, 26, 114, 115] [(2, .int .i64 a), (3, .slice Aw ws.length cws), (4, .int .u64 v), (5, .pointer (some ⟨b1, 0, none⟩)), (13, .pointer (some ⟨b22, 0, none⟩)), (18, .bool ((putM cap l id a ws).2 == (putM cap l id a ws).2)), (23, .bool ((dropM cap l id).2 == (dropM cap l id).2)), (24, .int .u64 (fetchM cap l a).1), (25, .int .i64 (fetchM cap l a).2.1), (26, .bool (fetchM cap l a).2.2), (114, .agg #[.int .i64 cap, .slice A l.length c]), (115, .int .i64 a)] ?_
    refine cb M88 116 (rfetch_any cap l A c a _ (C_up M88 hC) hsm ha) fun w90 hb92 M91 => ?_
    refine sg 7 [2, 3, 4, 5, 13, 18, 23, 24, 25, 26, 27, 28, 29] [(2, .int .i64 a), (3, .slice Aw ws.length cws), (4, .int .u64 v), (5, .pointer (some ⟨b1, 0, none⟩)), (13, .pointer (some ⟨b22, 0, none⟩)), (18, .bool ((putM cap l id a ws).2 == (putM cap l id a ws).2)), (23, .bool ((dropM cap l id).2 == (dropM cap l id).2)), (24, .int .u64 (fetchM cap l a).1), (25, .int .i64 (fetchM cap l a).2.1), (26, .bool (fetchM cap l a).2.2), (27, .int .u64 (fetchM cap l a).1), (28, .int .i64 (fetchM cap l a).2.1), (29, .bool (fetchM cap l a).2.2)] ?_
    refine to_end rfl (tn_code (tc_seq (tc_region ?_)))
    refine sg 4 [2, 3, 4, 5, 13, 18, 23, 25, 26, 28, 29, 123] [(2, .int .i64 a), (3, .slice Aw ws.length cws), (4, .int .u64 v), (5, .pointer (some ⟨b1, 0, none⟩)), (13, .pointer (some ⟨b22, 0, none⟩)), (18, .bool ((putM cap l id a ws).2 == (putM cap l id a ws).2)), (23, .bool ((dropM cap l id).2 == (dropM cap l id).2)), (25, .int .i64 (fetchM cap l a).2.1), (26, .bool (fetchM cap l a).2.2), (28, .int .i64 (fetchM cap l a).2.1), (29, .bool (fetchM cap l a).2.2), (123, .bool ((fetchM cap l a).1 == (fetchM cap l a).1))] ?_
    have ht93 : ((fetchM cap l a).1 == (fetchM cap l a).1 : Bool) = true := beq_self_eq_true _
    have ht93p := beq_iff_eq.1 ht93
    rw [ht93]
    refine sg 5 [2, 3, 4, 5, 13, 18, 23, 26, 29, 128] [(2, .int .i64 a), (3, .slice Aw ws.length cws), (4, .int .u64 v), (5, .pointer (some ⟨b1, 0, none⟩)), (13, .pointer (some ⟨b22, 0, none⟩)), (18, .bool ((putM cap l id a ws).2 == (putM cap l id a ws).2)), (23, .bool ((dropM cap l id).2 == (dropM cap l id).2)), (26, .bool (fetchM cap l a).2.2), (29, .bool (fetchM cap l a).2.2), (128, .bool ((fetchM cap l a).2.1 == (fetchM cap l a).2.1))] ?_
    have ht94 : ((fetchM cap l a).2.1 == (fetchM cap l a).2.1 : Bool) = true := beq_self_eq_true _
    have ht94p := beq_iff_eq.1 ht94
    rw [ht94]
    refine sg 5 [2, 3, 4, 5, 13, 18, 23, 30] [(2, .int .i64 a), (3, .slice Aw ws.length cws), (4, .int .u64 v), (5, .pointer (some ⟨b1, 0, none⟩)), (13, .pointer (some ⟨b22, 0, none⟩)), (18, .bool ((putM cap l id a ws).2 == (putM cap l id a ws).2)), (23, .bool ((dropM cap l id).2 == (dropM cap l id).2)), (30, .bool ((fetchM cap l a).2.2 == (fetchM cap l a).2.2))] ?_
    refine to_end rfl (tn_code (tc_seq (tc_region ?_)))
    refine la M91 10 134 #[.int .i64 cap, .slice A l.length c] (hu := Try.underlying24) ?_
    refine sg 2 [2, 3, 4, 5, 13, 18, 23, 30, 134, 135, 136] [(2, .int .i64 a), (3, .slice Aw ws.length cws), (4, .int .u64 v), (5, .pointer (some ⟨b1, 0, none⟩)), (13, .pointer (some ⟨b22, 0, none⟩)), (18, .bool ((putM cap l id a ws).2 == (putM cap l id a ws).2)), (23, .bool ((dropM cap l id).2 == (dropM cap l id).2)), (30, .bool ((fetchM cap l a).2.2 == (fetchM cap l a).2.2)), (134, .agg #[.int .i64 cap, .slice A l.length c]), (135, .int .i64 a), (136, .int .u64 v)] ?_
    refine ce 137 (patch_any cap l A c a v _ (C_up M91 hC) hcl hsm hlm ha) fun e99 w100 h101 => ?_
    obtain ⟨A95, c96, rfl, hM97, hc98⟩ := h101
    have M102 := M91.join hM97
    refine ⟨_, rfl, ?_⟩
    refine sg 3 [2, 3, 4, 5, 13, 18, 23, 30, 138, 139] [(2, .int .i64 a), (3, .slice Aw ws.length cws), (4, .int .u64 v), (5, .pointer (some ⟨b1, 0, none⟩)), (13, .pointer (some ⟨b22, 0, none⟩)), (18, .bool ((putM cap l id a ws).2 == (putM cap l id a ws).2)), (23, .bool ((dropM cap l id).2 == (dropM cap l id).2)), (30, .bool ((fetchM cap l a).2.2 == (fetchM cap l a).2.2)), (138, .agg #[.int .i64 (patchM cap l a v).1.1, .slice A95 (patchM cap l a v).1.2.length c96]), (139, .int .i64 (patchM cap l a v).2)] ?_
    refine nw M102 31 #[.int .i64 0, .slice none 0 0] 24 fun b103 w104 M105 => ?_
    refine sa M105 0 #[.int .i64 (patchM cap l a v).1.1, .slice A95 (patchM cap l a v).1.2.length c96] fun w106 M107 => ?_
    refine sg 1 [2, 3, 4, 5, 13, 18, 23, 30, 31, 32] [(2, .int .i64 a), (3, .slice Aw ws.length cws), (4, .int .u64 v), (5, .pointer (some ⟨b1, 0, none⟩)), (13, .pointer (some ⟨b22, 0, none⟩)), (18, .bool ((putM cap l id a ws).2 == (putM cap l id a ws).2)), (23, .bool ((dropM cap l id).2 == (dropM cap l id).2)), (30, .bool ((fetchM cap l a).2.2 == (fetchM cap l a).2.2)), (31, .pointer (some ⟨b103, 0, none⟩)), (32, .int .i64 (patchM cap l a v).2)] ?_
    refine to_end rfl (tn_code (tc_seq (tc_region ?_)))
    refine la M107 12 141 #[.int .i64 cap, .slice A l.length c] (hu := Try.underlying24) ?_
    refine sg 2 [2, 3, 5, 13, 18, 23, 30, 31, 32, 141, 142, 143] [(2, .int .i64 a), (3, .slice Aw ws.length cws), (5, .pointer (some ⟨b1, 0, none⟩)), (13, .pointer (some ⟨b22, 0, none⟩)), (18, .bool ((putM cap l id a ws).2 == (putM cap l id a ws).2)), (23, .bool ((dropM cap l id).2 == (dropM cap l id).2)), (30, .bool ((fetchM cap l a).2.2 == (fetchM cap l a).2.2)), (31, .pointer (some ⟨b103, 0, none⟩)), (32, .int .i64 (patchM cap l a v).2), (141, .agg #[.int .i64 cap, .slice A l.length c]), (142, .int .i64 a), (143, .int .u64 v)] ?_
    refine ce 144 (rpatch_any cap l A c a v _ (C_up M107 hC) hcl hsm hlm ha) fun e112 w113 h114 => ?_
    obtain ⟨A108, c109, rfl, hM110, hc111⟩ := h114
    have M115 := M107.join hM110
    refine ⟨_, rfl, ?_⟩
    refine sg 3 [2, 3, 5, 13, 18, 23, 30, 31, 32, 145, 146] [(2, .int .i64 a), (3, .slice Aw ws.length cws), (5, .pointer (some ⟨b1, 0, none⟩)), (13, .pointer (some ⟨b22, 0, none⟩)), (18, .bool ((putM cap l id a ws).2 == (putM cap l id a ws).2)), (23, .bool ((dropM cap l id).2 == (dropM cap l id).2)), (30, .bool ((fetchM cap l a).2.2 == (fetchM cap l a).2.2)), (31, .pointer (some ⟨b103, 0, none⟩)), (32, .int .i64 (patchM cap l a v).2), (145, .agg #[.int .i64 (patchM cap l a v).1.1, .slice A108 (patchM cap l a v).1.2.length c109]), (146, .int .i64 (patchM cap l a v).2)] ?_
    refine nw M115 33 #[.int .i64 0, .slice none 0 0] 24 fun b116 w117 M118 => ?_
    refine sa M118 0 #[.int .i64 (patchM cap l a v).1.1, .slice A108 (patchM cap l a v).1.2.length c109] fun w119 M120 => ?_
    refine sg 1 [2, 3, 5, 13, 18, 23, 30, 31, 32, 33, 34] [(2, .int .i64 a), (3, .slice Aw ws.length cws), (5, .pointer (some ⟨b1, 0, none⟩)), (13, .pointer (some ⟨b22, 0, none⟩)), (18, .bool ((putM cap l id a ws).2 == (putM cap l id a ws).2)), (23, .bool ((dropM cap l id).2 == (dropM cap l id).2)), (30, .bool ((fetchM cap l a).2.2 == (fetchM cap l a).2.2)), (31, .pointer (some ⟨b103, 0, none⟩)), (32, .int .i64 (patchM cap l a v).2), (33, .pointer (some ⟨b116, 0, none⟩)), (34, .int .i64 (patchM cap l a v).2)] ?_
    refine to_end rfl (tn_code (tc_seq (tc_region ?_)))
    refine la M120 2 147 #[.int .i64 (patchM cap l a v).1.1, .slice A95 (patchM cap l a v).1.2.length c96] (hu := Try.underlying24) ?_
    refine la M120 0 148 #[.int .i64 (patchM cap l a v).1.1, .slice A108 (patchM cap l a v).1.2.length c109] (hu := Try.underlying24) ?_
    refine cb M120 149 (same13_any (patchM cap l a v).1.1 A95 c96 (patchM cap l a v).1.2 (patchM cap l a v).1.1 A108 c109 (patchM cap l a v).1.2 _ (M120.rd_C 3 rfl) (M120.rd_C 1 rfl)) fun w121 hb123 M122 => ?_
    refine sg 1 [2, 3, 5, 13, 18, 23, 30, 32, 34, 150] [(2, .int .i64 a), (3, .slice Aw ws.length cws), (5, .pointer (some ⟨b1, 0, none⟩)), (13, .pointer (some ⟨b22, 0, none⟩)), (18, .bool ((putM cap l id a ws).2 == (putM cap l id a ws).2)), (23, .bool ((dropM cap l id).2 == (dropM cap l id).2)), (30, .bool ((fetchM cap l a).2.2 == (fetchM cap l a).2.2)), (32, .int .i64 (patchM cap l a v).2), (34, .int .i64 (patchM cap l a v).2), (150, .bool (decide ((patchM cap l a v).1.1 = (patchM cap l a v).1.1 ∧ (patchM cap l a v).1.2 = (patchM cap l a v).1.2)))] ?_
    have ht124 : (decide ((patchM cap l a v).1.1 = (patchM cap l a v).1.1 ∧ (patchM cap l a v).1.2 = (patchM cap l a v).1.2) : Bool) = true := decide_eq_true ⟨rfl, rfl⟩
    have ht124p := of_decide_eq_true ht124
    rw [ht124]
    refine sg 5 [2, 3, 5, 13, 18, 23, 30, 35] [(2, .int .i64 a), (3, .slice Aw ws.length cws), (5, .pointer (some ⟨b1, 0, none⟩)), (13, .pointer (some ⟨b22, 0, none⟩)), (18, .bool ((putM cap l id a ws).2 == (putM cap l id a ws).2)), (23, .bool ((dropM cap l id).2 == (dropM cap l id).2)), (30, .bool ((fetchM cap l a).2.2 == (fetchM cap l a).2.2)), (35, .bool ((patchM cap l a v).2 == (patchM cap l a v).2))] ?_
    refine to_end rfl (tn_code (tc_seq (tc_region ?_)))
    refine la M122 14 156 #[.int .i64 cap, .slice A l.length c] (hu := Try.underlying24) ?_
    refine sg 2 [2, 3, 5, 13, 18, 23, 30, 35, 156, 158] [(2, .int .i64 a), (3, .slice Aw ws.length cws), (5, .pointer (some ⟨b1, 0, none⟩)), (13, .pointer (some ⟨b22, 0, none⟩)), (18, .bool ((putM cap l id a ws).2 == (putM cap l id a ws).2)), (23, .bool ((dropM cap l id).2 == (dropM cap l id).2)), (30, .bool ((fetchM cap l a).2.2 == (fetchM cap l a).2.2)), (35, .bool ((patchM cap l a v).2 == (patchM cap l a v).2)), (156, .agg #[.int .i64 cap, .slice A l.length c]), (158, .int .i64 (ws.length : Int))] ?_
    refine cb M122 159 (by have h_ := find_any cap l A c (ws.length : Int) w121 (C_up M122 hC) hsm; simp only [find_eq] at h_; exact h_) fun w125 hb127 M126 => ?_
    refine sg 5 [2, 3, 5, 13, 18, 23, 30, 35, 36, 37] [(2, .int .i64 a), (3, .slice Aw ws.length cws), (5, .pointer (some ⟨b1, 0, none⟩)), (13, .pointer (some ⟨b22, 0, none⟩)), (18, .bool ((putM cap l id a ws).2 == (putM cap l id a ws).2)), (23, .bool ((dropM cap l id).2 == (dropM cap l id).2)), (30, .bool ((fetchM cap l a).2.2 == (fetchM cap l a).2.2)), (35, .bool ((patchM cap l a v).2 == (patchM cap l a v).2)), (36, .int .i64 (rFindM cap l (ws.length : Int)).1), (37, .bool (rFindM cap l (ws.length : Int)).2)] ?_
    refine to_end rfl (tn_code (tc_seq (tc_region ?_)))
    refine la M126 14 163 #[.int .i64 cap, .slice A l.length c] (hu := Try.underlying24) ?_
    refine sg 2 [2, 5, 13, 18, 23, 30, 35, 36, 37, 163, 165] [(2, .int .i64 a), (5, .pointer (some ⟨b1, 0, none⟩)), (13, .pointer (some ⟨b22, 0, none⟩)), (18, .bool ((putM cap l id a ws).2 == (putM cap l id a ws).2)), (23, .bool ((dropM cap l id).2 == (dropM cap l id).2)), (30, .bool ((fetchM cap l a).2.2 == (fetchM cap l a).2.2)), (35, .bool ((patchM cap l a v).2 == (patchM cap l a v).2)), (36, .int .i64 (rFindM cap l (ws.length : Int)).1), (37, .bool (rFindM cap l (ws.length : Int)).2), (163, .agg #[.int .i64 cap, .slice A l.length c]), (165, .int .i64 (ws.length : Int))] ?_
    refine cb M126 166 (by have h_ := rfindg_any cap l A c (ws.length : Int) w125 (C_up M126 hC) hsm hcp; exact h_) fun w128 hb130 M129 => ?_
    refine sg 5 [2, 5, 13, 18, 23, 30, 35, 36, 37, 38, 39] [(2, .int .i64 a), (5, .pointer (some ⟨b1, 0, none⟩)), (13, .pointer (some ⟨b22, 0, none⟩)), (18, .bool ((putM cap l id a ws).2 == (putM cap l id a ws).2)), (23, .bool ((dropM cap l id).2 == (dropM cap l id).2)), (30, .bool ((fetchM cap l a).2.2 == (fetchM cap l a).2.2)), (35, .bool ((patchM cap l a v).2 == (patchM cap l a v).2)), (36, .int .i64 (rFindM cap l (ws.length : Int)).1), (37, .bool (rFindM cap l (ws.length : Int)).2), (38, .int .i64 (rFindM cap l (ws.length : Int)).1), (39, .bool (rFindM cap l (ws.length : Int)).2)] ?_
    refine to_end rfl (tn_code (tc_seq (tc_region ?_)))
    refine sg 1 [2, 5, 13, 18, 23, 30, 35, 36, 37, 38, 39, 170] [(2, .int .i64 a), (5, .pointer (some ⟨b1, 0, none⟩)), (13, .pointer (some ⟨b22, 0, none⟩)), (18, .bool ((putM cap l id a ws).2 == (putM cap l id a ws).2)), (23, .bool ((dropM cap l id).2 == (dropM cap l id).2)), (30, .bool ((fetchM cap l a).2.2 == (fetchM cap l a).2.2)), (35, .bool ((patchM cap l a v).2 == (patchM cap l a v).2)), (36, .int .i64 (rFindM cap l (ws.length : Int)).1), (37, .bool (rFindM cap l (ws.length : Int)).2), (38, .int .i64 (rFindM cap l (ws.length : Int)).1), (39, .bool (rFindM cap l (ws.length : Int)).2), (170, .int .i64 a)] ?_
    refine cb M129 171 (new_any a _) fun w131 hb133 M132 => ?_
    refine sg 3 [2, 5, 13, 18, 23, 30, 35, 36, 37, 38, 39, 172, 173] [(2, .int .i64 a), (5, .pointer (some ⟨b1, 0, none⟩)), (13, .pointer (some ⟨b22, 0, none⟩)), (18, .bool ((putM cap l id a ws).2 == (putM cap l id a ws).2)), (23, .bool ((dropM cap l id).2 == (dropM cap l id).2)), (30, .bool ((fetchM cap l a).2.2 == (fetchM cap l a).2.2)), (35, .bool ((patchM cap l a v).2 == (patchM cap l a v).2)), (36, .int .i64 (rFindM cap l (ws.length : Int)).1), (37, .bool (rFindM cap l (ws.length : Int)).2), (38, .int .i64 (rFindM cap l (ws.length : Int)).1), (39, .bool (rFindM cap l (ws.length : Int)).2), (172, .agg #[.int .i64 (newM a).1, .slice none 0 0]), (173, .int .i64 (newM a).2)] ?_
    refine nw M132 40 #[.int .i64 0, .slice none 0 0] 24 fun b134 w135 M136 => ?_
    refine sa M136 0 #[.int .i64 (newM a).1, .slice none 0 0] fun w137 M138 => ?_
    refine sg 1 [2, 5, 13, 18, 23, 30, 35, 36, 37, 38, 39, 40, 41] [(2, .int .i64 a), (5, .pointer (some ⟨b1, 0, none⟩)), (13, .pointer (some ⟨b22, 0, none⟩)), (18, .bool ((putM cap l id a ws).2 == (putM cap l id a ws).2)), (23, .bool ((dropM cap l id).2 == (dropM cap l id).2)), (30, .bool ((fetchM cap l a).2.2 == (fetchM cap l a).2.2)), (35, .bool ((patchM cap l a v).2 == (patchM cap l a v).2)), (36, .int .i64 (rFindM cap l (ws.length : Int)).1), (37, .bool (rFindM cap l (ws.length : Int)).2), (38, .int .i64 (rFindM cap l (ws.length : Int)).1), (39, .bool (rFindM cap l (ws.length : Int)).2), (40, .pointer (some ⟨b134, 0, none⟩)), (41, .int .i64 (newM a).2)] ?_
    refine to_end rfl (tn_code (tc_seq (tc_region ?_)))
    refine sg 1 [5, 13, 18, 23, 30, 35, 36, 37, 38, 39, 40, 41, 175] [(5, .pointer (some ⟨b1, 0, none⟩)), (13, .pointer (some ⟨b22, 0, none⟩)), (18, .bool ((putM cap l id a ws).2 == (putM cap l id a ws).2)), (23, .bool ((dropM cap l id).2 == (dropM cap l id).2)), (30, .bool ((fetchM cap l a).2.2 == (fetchM cap l a).2.2)), (35, .bool ((patchM cap l a v).2 == (patchM cap l a v).2)), (36, .int .i64 (rFindM cap l (ws.length : Int)).1), (37, .bool (rFindM cap l (ws.length : Int)).2), (38, .int .i64 (rFindM cap l (ws.length : Int)).1), (39, .bool (rFindM cap l (ws.length : Int)).2), (40, .pointer (some ⟨b134, 0, none⟩)), (41, .int .i64 (newM a).2), (175, .int .i64 a)] ?_
    refine cb M138 176 (rnew_any a _) fun w139 hb141 M140 => ?_
    refine sg 3 [5, 13, 18, 23, 30, 35, 36, 37, 38, 39, 40, 41, 177, 178] [(5, .pointer (some ⟨b1, 0, none⟩)), (13, .pointer (some ⟨b22, 0, none⟩)), (18, .bool ((putM cap l id a ws).2 == (putM cap l id a ws).2)), (23, .bool ((dropM cap l id).2 == (dropM cap l id).2)), (30, .bool ((fetchM cap l a).2.2 == (fetchM cap l a).2.2)), (35, .bool ((patchM cap l a v).2 == (patchM cap l a v).2)), (36, .int .i64 (rFindM cap l (ws.length : Int)).1), (37, .bool (rFindM cap l (ws.length : Int)).2), (38, .int .i64 (rFindM cap l (ws.length : Int)).1), (39, .bool (rFindM cap l (ws.length : Int)).2), (40, .pointer (some ⟨b134, 0, none⟩)), (41, .int .i64 (newM a).2), (177, .agg #[.int .i64 (newM a).1, .slice none 0 0]), (178, .int .i64 (newM a).2)] ?_
    refine nw M140 42 #[.int .i64 0, .slice none 0 0] 24 fun b142 w143 M144 => ?_
    refine sa M144 0 #[.int .i64 (newM a).1, .slice none 0 0] fun w145 M146 => ?_
    refine sg 1 [5, 13, 18, 23, 30, 35, 36, 37, 38, 39, 40, 41, 42, 43] [(5, .pointer (some ⟨b1, 0, none⟩)), (13, .pointer (some ⟨b22, 0, none⟩)), (18, .bool ((putM cap l id a ws).2 == (putM cap l id a ws).2)), (23, .bool ((dropM cap l id).2 == (dropM cap l id).2)), (30, .bool ((fetchM cap l a).2.2 == (fetchM cap l a).2.2)), (35, .bool ((patchM cap l a v).2 == (patchM cap l a v).2)), (36, .int .i64 (rFindM cap l (ws.length : Int)).1), (37, .bool (rFindM cap l (ws.length : Int)).2), (38, .int .i64 (rFindM cap l (ws.length : Int)).1), (39, .bool (rFindM cap l (ws.length : Int)).2), (40, .pointer (some ⟨b134, 0, none⟩)), (41, .int .i64 (newM a).2), (42, .pointer (some ⟨b142, 0, none⟩)), (43, .int .i64 (newM a).2)] ?_
    refine to_end rfl (tn_code (tc_seq (tc_region ?_)))
    refine la M146 1 179 #[.int .i64 (newM a).1, .slice none 0 0] (hu := Try.underlying24) ?_
    refine la M146 0 180 #[.int .i64 (newM a).1, .slice none 0 0] (hu := Try.underlying24) ?_
    refine cb M146 181 (same13_any (newM a).1 none 0 ([] : List Blk) (newM a).1 none 0 ([] : List Blk) _ (Kd.C_nil _ _) (Kd.C_nil _ _)) fun w147 hb149 M148 => ?_
    refine sg 1 [5, 13, 18, 23, 30, 35, 36, 37, 38, 39, 41, 43, 182] [(5, .pointer (some ⟨b1, 0, none⟩)), (13, .pointer (some ⟨b22, 0, none⟩)), (18, .bool ((putM cap l id a ws).2 == (putM cap l id a ws).2)), (23, .bool ((dropM cap l id).2 == (dropM cap l id).2)), (30, .bool ((fetchM cap l a).2.2 == (fetchM cap l a).2.2)), (35, .bool ((patchM cap l a v).2 == (patchM cap l a v).2)), (36, .int .i64 (rFindM cap l (ws.length : Int)).1), (37, .bool (rFindM cap l (ws.length : Int)).2), (38, .int .i64 (rFindM cap l (ws.length : Int)).1), (39, .bool (rFindM cap l (ws.length : Int)).2), (41, .int .i64 (newM a).2), (43, .int .i64 (newM a).2), (182, .bool (decide ((newM a).1 = (newM a).1 ∧ ([] : List Blk) = ([] : List Blk))))] ?_
    have ht150 : (decide ((newM a).1 = (newM a).1 ∧ ([] : List Blk) = ([] : List Blk)) : Bool) = true := decide_eq_true ⟨rfl, rfl⟩
    have ht150p := of_decide_eq_true ht150
    rw [ht150]
    refine sg 5 [5, 13, 18, 23, 30, 35, 36, 37, 38, 39, 44] [(5, .pointer (some ⟨b1, 0, none⟩)), (13, .pointer (some ⟨b22, 0, none⟩)), (18, .bool ((putM cap l id a ws).2 == (putM cap l id a ws).2)), (23, .bool ((dropM cap l id).2 == (dropM cap l id).2)), (30, .bool ((fetchM cap l a).2.2 == (fetchM cap l a).2.2)), (35, .bool ((patchM cap l a v).2 == (patchM cap l a v).2)), (36, .int .i64 (rFindM cap l (ws.length : Int)).1), (37, .bool (rFindM cap l (ws.length : Int)).2), (38, .int .i64 (rFindM cap l (ws.length : Int)).1), (39, .bool (rFindM cap l (ws.length : Int)).2), (44, .bool ((newM a).2 == (newM a).2))] ?_
    refine to_end rfl (tn_code (tc_seq ?_))
    refine tc_drawL (fun w' => Mem w w' ([blk b142 #[.int .i64 (newM a).1, .slice none 0 0] 24, blk b134 #[.int .i64 (newM a).1, .slice none 0 0] 24, blk b116 #[.int .i64 (patchM cap l a v).1.1, .slice A108 (patchM cap l a v).1.2.length c109] 24, rdE kBlk A108 (patchM cap l a v).1.2, blk b103 #[.int .i64 (patchM cap l a v).1.1, .slice A95 (patchM cap l a v).1.2.length c96] 24, rdE kBlk A95 (patchM cap l a v).1.2, blk b78 #[.int .i64 (dropM cap l id).1.1, .slice A70 (dropM cap l id).1.2.length c71] 24, rdE kBlk A70 (dropM cap l id).1.2, blk b65 #[.int .i64 (dropM cap l id).1.1, .slice A57 (dropM cap l id).1.2.length c58] 24, rdE kBlk A57 (dropM cap l id).1.2, blk b48 #[.int .i64 (putM cap l id a ws).1.1, .slice A40 (putM cap l id a ws).1.2.length c41] 24, rdE kBlk A40 (putM cap l id a ws).1.2, blk b35 #[.int .i64 (putM cap l id a ws).1.1, .slice A27 (putM cap l id a ws).1.2.length c28] 24, rdE kBlk A27 (putM cap l id a ws).1.2, blk b22 #[.int .i64 cap, .slice A12 l.length c13] 24, rdE kBlk A12 l, blk b1 #[.int .i64 cap, .slice A l.length c] 24])) [] (by kernel_rfl) ?_
    have M168 := M148.draw
    refine ty_take 0 187 (.bool ((putM cap l id a ws).2 == (putM cap l id a ws).2)) (pok_cont pok_body) ?_ M168 (fun _ _ _ => by kernel_rfl)
    refine ty_take 1 188 (.bool ((putM cap l id a ws).2 == (putM cap l id a ws).2)) (pok_cont pok_body) ?_ M168 (fun _ _ _ => by kernel_rfl)
    have ht169 : ((putM cap l id a ws).2 == (putM cap l id a ws).2 : Bool) = true := beq_self_eq_true _
    have ht169p := beq_iff_eq.1 ht169
    rw [ht169]
    refine ty_take 2 189 (.bool ((dropM cap l id).2 == (dropM cap l id).2)) (pok_cont pok_body) ?_ M168 (fun _ _ _ => by kernel_rfl)
    refine ty_take 3 190 (.bool ((dropM cap l id).2 == (dropM cap l id).2)) (pok_cont pok_body) ?_ M168 (fun _ _ _ => by kernel_rfl)
    refine ty_take 4 191 (.bool ((dropM cap l id).2 == (dropM cap l id).2)) (pok_cont pok_body) ?_ M168 (fun _ _ _ => by kernel_rfl)
    have ht170 : ((dropM cap l id).2 == (dropM cap l id).2 : Bool) = true := beq_self_eq_true _
    have ht170p := beq_iff_eq.1 ht170
    rw [ht170]
    refine ty_take 5 192 (.bool ((fetchM cap l a).2.2 == (fetchM cap l a).2.2)) (pok_cont pok_body) ?_ M168 (fun _ _ _ => by kernel_rfl)
    refine ty_take 6 193 (.bool ((fetchM cap l a).2.2 == (fetchM cap l a).2.2)) (pok_cont pok_body) ?_ M168 (fun _ _ _ => by kernel_rfl)
    refine ty_take 7 194 (.bool ((fetchM cap l a).2.2 == (fetchM cap l a).2.2)) (pok_cont pok_body) ?_ M168 (fun _ _ _ => by kernel_rfl)
    have ht171 : ((fetchM cap l a).2.2 == (fetchM cap l a).2.2 : Bool) = true := beq_self_eq_true _
    have ht171p := beq_iff_eq.1 ht171
    rw [ht171]
    refine ty_take 8 195 (.bool ((patchM cap l a v).2 == (patchM cap l a v).2)) (pok_cont pok_body) ?_ M168 (fun _ _ _ => by kernel_rfl)
    refine ty_take 9 196 (.bool ((patchM cap l a v).2 == (patchM cap l a v).2)) (pok_cont pok_body) ?_ M168 (fun _ _ _ => by kernel_rfl)
    refine ty_take 10 197 (.bool ((patchM cap l a v).2 == (patchM cap l a v).2)) (pok_cont pok_body) ?_ M168 (fun _ _ _ => by kernel_rfl)
    have ht172 : ((patchM cap l a v).2 == (patchM cap l a v).2 : Bool) = true := beq_self_eq_true _
    have ht172p := beq_iff_eq.1 ht172
    rw [ht172]
    refine ty_take 11 198 (.int .i64 (rFindM cap l (ws.length : Int)).1) (pok_cont pok_body) ?_ M168 (fun _ _ _ => by kernel_rfl)
    refine ty_take 12 199 (.int .i64 (rFindM cap l (ws.length : Int)).1) (pok_cont pok_body) ?_ M168 (fun _ _ _ => by kernel_rfl)
    refine ty_take 13 200 (.bool ((rFindM cap l (ws.length : Int)).1 == (rFindM cap l (ws.length : Int)).1)) (pok_cont pok_body) ?_ M168 (fun _ _ _ => by kernel_rfl)
    refine ty_take 14 201 (.bool ((rFindM cap l (ws.length : Int)).1 == (rFindM cap l (ws.length : Int)).1)) (pok_cont pok_body) ?_ M168 (fun _ _ _ => by kernel_rfl)
    refine ty_take 15 202 (.bool ((rFindM cap l (ws.length : Int)).1 == (rFindM cap l (ws.length : Int)).1)) (pok_cont pok_body) ?_ M168 (fun _ _ _ => by kernel_rfl)
    have ht173 : ((rFindM cap l (ws.length : Int)).1 == (rFindM cap l (ws.length : Int)).1 : Bool) = true := beq_self_eq_true _
    have ht173p := beq_iff_eq.1 ht173
    rw [ht173]
    refine ty_take 16 203 (.bool (rFindM cap l (ws.length : Int)).2) (pok_cont pok_body) ?_ M168 (fun _ _ _ => by kernel_rfl)
    refine ty_take 17 204 (.bool (rFindM cap l (ws.length : Int)).2) (pok_cont pok_body) ?_ M168 (fun _ _ _ => by kernel_rfl)
    refine ty_take 18 205 (.bool ((rFindM cap l (ws.length : Int)).2 == (rFindM cap l (ws.length : Int)).2)) (pok_cont pok_body) ?_ M168 (fun _ _ _ => by kernel_rfl)
    refine ty_take 19 206 (.bool ((rFindM cap l (ws.length : Int)).2 == (rFindM cap l (ws.length : Int)).2)) (pok_cont pok_body) ?_ M168 (fun _ _ _ => by kernel_rfl)
    refine ty_take 20 207 (.bool ((rFindM cap l (ws.length : Int)).2 == (rFindM cap l (ws.length : Int)).2)) (pok_cont pok_body) ?_ M168 (fun _ _ _ => by kernel_rfl)
    have ht174 : ((rFindM cap l (ws.length : Int)).2 == (rFindM cap l (ws.length : Int)).2 : Bool) = true := beq_self_eq_true _
    have ht174p := beq_iff_eq.1 ht174
    rw [ht174]
    refine ty_take 21 208 (.bool ((newM a).2 == (newM a).2)) (pok_cont pok_body) ?_ M168 (fun _ _ _ => by kernel_rfl)
    refine ty_take 22 209 (.bool ((newM a).2 == (newM a).2)) (pok_cont pok_body) ?_ M168 (fun _ _ _ => by kernel_rfl)
    refine ty_take 23 210 (.bool ((newM a).2 == (newM a).2)) (pok_cont pok_body) ?_ M168 (fun _ _ _ => by kernel_rfl)
    have ht175 : ((newM a).2 == (newM a).2 : Bool) = true := beq_self_eq_true _
    have ht175p := beq_iff_eq.1 ht175
    rw [ht175]
    refine ty_take 24 211 (.agg #[.int .i64 cap, .slice A l.length c]) (pok_cont pok_body) ?_ M168 (fun _ M' _ => rla M' 16 (vs := #[.int .i64 cap, .slice A l.length c]) Try.underlying24)
    refine ty_take 25 212 (.agg #[.int .i64 cap, .slice A12 l.length c13]) (pok_cont pok_body) ?_ M168 (fun _ M' _ => rla M' 14 (vs := #[.int .i64 cap, .slice A12 l.length c13]) Try.underlying24)
    refine ty_all (rs := [26]) (te_one ?_)
    refine te_cb M168 213 (same13_any cap A c l cap A12 c13 l _ (C_up M168 hC) (M168.rd_C 15 rfl)) (fun _ hb _ M' => M'.call hb) fun w176 hb178 M177 => ?_
    refine ty_take 27 214 (.bool (decide (cap = cap ∧ l = l))) (pok_cont pok_body) ?_ M177 (fun _ _ _ => by kernel_rfl)
    refine ty_take 28 215 (.bool (decide (cap = cap ∧ l = l))) (pok_cont pok_body) ?_ M177 (fun _ _ _ => by kernel_rfl)
    have ht179 : (decide (cap = cap ∧ l = l) : Bool) = true := decide_eq_true ⟨rfl, rfl⟩
    have ht179p := of_decide_eq_true ht179
    rw [ht179]
    refine ty_take 29 216 (.agg #[.int .i64 cap, .slice A l.length c]) (pok_cont pok_body) ?_ M177 (fun _ M' _ => rla M' 16 (vs := #[.int .i64 cap, .slice A l.length c]) Try.underlying24)
    refine ty_take 31 218 (.agg #[.int .i64 cap, .slice A l.length c]) (pok_cont pok_body) ?_ M177 (fun _ M' _ => rla M' 16 (vs := #[.int .i64 cap, .slice A l.length c]) Try.underlying24)
    refine ty_all (rs := [30]) (te_one ?_)
    refine te_cb M177 217 (by have h_ := left_any cap l A c w176 (C_up M177 hC) hsm; simp only [left_eq] at h_; exact h_) (fun _ hb _ M' => M'.call hb) fun w180 hb182 M181 => ?_
    refine ty_all (rs := [32]) (te_one ?_)
    refine te_cb M181 219 (by have h_ := rleft_any cap l A c w180 (C_up M181 hC) hsm hcp; exact h_) (fun _ hb _ M' => M'.call hb) fun w183 hb185 M184 => ?_
    refine ty_take 33 220 (.bool ((rLeftM cap l) == (rLeftM cap l))) (pok_cont pok_body) ?_ M184 (fun _ _ _ => by kernel_rfl)
    refine ty_take 34 221 (.bool ((rLeftM cap l) == (rLeftM cap l))) (pok_cont pok_body) ?_ M184 (fun _ _ _ => by kernel_rfl)
    refine ty_take 35 222 (.bool ((rLeftM cap l) == (rLeftM cap l))) (pok_cont pok_body) ?_ M184 (fun _ _ _ => by kernel_rfl)
    have ht186 : ((rLeftM cap l) == (rLeftM cap l) : Bool) = true := beq_self_eq_true _
    have ht186p := beq_iff_eq.1 ht186
    rw [ht186]
    refine ty_take 36 223 (.agg #[.int .i64 cap, .slice A l.length c]) (pok_cont pok_body) ?_ M184 (fun _ M' _ => rla M' 16 (vs := #[.int .i64 cap, .slice A l.length c]) Try.underlying24)
    refine ty_take 38 225 (.agg #[.int .i64 cap, .slice A l.length c]) (pok_cont pok_body) ?_ M184 (fun _ M' _ => rla M' 16 (vs := #[.int .i64 cap, .slice A l.length c]) Try.underlying24)
    refine ty_all (rs := [37]) (te_one ?_)
    refine te_cb M184 224 (may13_any cap l A c _ (C_up M184 hC) hsm) (fun _ hb _ M' => M'.call hb) fun w187 hb189 M188 => ?_
    refine ty_all (rs := [39]) (te_one ?_)
    refine te_cb M188 226 (rmay13_any cap l A c _ (C_up M188 hC) hsm) (fun _ hb _ M' => M'.call hb) fun w190 hb192 M191 => ?_
    refine ty_take 40 227 (.bool ((mMay cap l) == (mMay cap l))) (pok_cont pok_body) ?_ M191 (fun _ _ _ => by kernel_rfl)
    refine ty_take 41 228 (.bool ((mMay cap l) == (mMay cap l))) (pok_cont pok_body) ?_ M191 (fun _ _ _ => by kernel_rfl)
    refine ty_take 42 10 (.bool ((mMay cap l) == (mMay cap l))) (pok_cont pok_body) ?_ M191 (fun _ _ _ => by kernel_rfl)
    refine ty_endL ?_
    refine tn_code (tc_ret ?_)
    refine tr_tmp rfl rfl ?_
    have ht193 : ((mMay cap l) == (mMay cap l) : Bool) = true := beq_self_eq_true _
    have ht193p := beq_iff_eq.1 ht193
    exact ⟨congrArg Ending.returned (congrArg Value.bool (by first | exact ht193 | (rw [ht193]; rfl))), M191.below⟩
end Go.Proofs.Ytfknhbgghpbkpaa
