/- Layer 13: awake. -/
import Derived.Test.YtfknhbgghpbkpaaArO
namespace Go.Proofs.Ytfknhbgghpbkpaa
open Go.RowKit Cal Go.Proofs.YtfknhbgghpbkpaaW.PrintWords
theorem awake13_any (w : World) : Calls Try.prog 15 #[] w fun e w' => e = .returned (.bool true) ∧ Below w.heap.size w w' := by
  have M := Mem.refl w
  refine calls_tc (N := 54) (args := []) Try.func15 rfl rfl rfl ?_
  refine tc_seq (tc_region ?_)
  refine sg 1 [] [] ?_
  refine to_end rfl (tn_code (tc_seq (tc_region ?_)))
  refine cb M 8 (by have h_ := new_any 10 w; rw [show newM 10 = (10, 0) from by decide] at h_; exact h_) fun w1 hb3 M2 => ?_
  refine sg 3 [9, 10] [(9, .agg #[.int .i64 10, .slice none 0 0]), (10, .int .i64 0)] ?_
  refine nw M2 1 #[.int .i64 0, .slice none 0 0] 24 fun b4 w5 M6 => ?_
  refine sa M6 0 #[.int .i64 10, .slice none 0 0] fun w7 M8 => ?_
  refine sg 1 [1, 2] [(1, .pointer (some ⟨b4, 0, none⟩)), (2, .int .i64 0)] ?_
  refine to_end rfl (tn_code (tc_seq ?_))
  refine tc_drawL (fun w' => Mem w w' ([])) [] (by kernel_rfl) ?_
  have M10 := M8.draw
  refine ty_all (rs := [0, 1]) (te_cons ?_ (te_one ?_))
  · refine te_la M10 0 12 #[.int .i64 10, .slice none 0 0] ?_ Try.underlying24
    refine ty_all (rs := [1]) (te_one ?_)
    refine te_mk M10 13 4 kW 0 (.int .u64 0) 8 Try.underlying25 (by omega) (fun _ _ => rfl) (fun _ _ M_ _ _ => ((M_.drop 1).drop 0)) fun b11 w12 M13 => ?_
    refine ty_all (rs := [2]) (te_one ?_)
    have hs14 := put13_any 10 ([] : List Blk) none 0 1 0 (some ⟨b11, 0, none⟩) 4 (List.replicate 4 (0 : Int)) w12 (Kd.C_nil _ _) (Nat.le_refl _) sm_nil (by decide) (M13.row_C 0 rfl) (by simp) (by simp)
    rw [aw_put1] at hs14
    dsimp only at hs14
    refine te_ce 14 hs14 fun e19 w20 h21 => ?_
    obtain ⟨A15, c16, rfl, hM17, hc18⟩ := h21
    have M22 := M13.join hM17
    refine ⟨_, rfl, fun _ _ => (((M22.drop 2).drop 1).drop 0), ?_⟩
    refine ty_take 3 11 (.tuple #[.agg #[.int .i64 10, .slice A15 aw1.length c16], .int .i64 0]) (pok_cont pok_body) ?_ (((M22.drop 2).drop 1).drop 0) (fun _ _ _ => by kernel_rfl)
    refine ty_take 4 15 (.agg #[.int .i64 10, .slice A15 aw1.length c16]) (pok_cont pok_body) ?_ (((M22.drop 2).drop 1).drop 0) (fun _ _ _ => by kernel_rfl)
    refine ty_take 5 16 (.int .i64 0) (pok_cont pok_body) ?_ (((M22.drop 2).drop 1).drop 0) (fun _ _ _ => by kernel_rfl)
    refine ty_all (rs := [6]) (te_one ?_)
    refine te_sa M22 2 #[.int .i64 10, .slice A15 aw1.length c16] (fun _ M_ _ _ => (((M_.drop 2).drop 1).drop 0)) fun w23 M24 => ?_
    refine ty_take 7 3 (.int .i64 0) (pok_cont pok_body) ?_ (((M24.drop 2).drop 1).drop 0) (fun _ _ _ => by kernel_rfl)
    refine ty_endL ?_
    refine tn_code (tc_seq ?_)
    refine tc_drawL (fun w' => Mem w w' ([rdE kBlk A15 aw1, row kW 26 (.slice (some ⟨b11, 0, none⟩) 4 4) (List.replicate 4 (0 : Int))])) [] (by kernel_rfl) ?_
    have M27 := M24.draw
    refine ty_all (rs := [0, 1]) (te_cons ?_ (te_one ?_))
    · refine te_la M27 2 18 #[.int .i64 10, .slice A15 aw1.length c16] ?_ Try.underlying24
      refine ty_all (rs := [1]) (te_one ?_)
      refine te_mk M27 19 2 kW 0 (.int .u64 0) 8 Try.underlying25 (by omega) (fun _ _ => rfl) (fun _ _ M_ _ _ => ((M_.drop 3).drop 0)) fun b28 w29 M30 => ?_
      refine ty_all (rs := [2]) (te_one ?_)
      have hs31 := put13_any 10 aw1 A15 c16 2 6 (some ⟨b28, 0, none⟩) 2 (List.replicate 2 (0 : Int)) w29 (M30.rd_C 1 rfl) hc18 sm_aw1 (by decide) (M30.row_C 0 rfl) (by simp) (by simp)
      rw [aw_put2] at hs31
      dsimp only at hs31
      refine te_ce 20 hs31 fun e36 w37 h38 => ?_
      obtain ⟨A32, c33, rfl, hM34, hc35⟩ := h38
      have M39 := M30.join hM34
      refine ⟨_, rfl, fun _ _ => (((M39.drop 4).drop 1).drop 0), ?_⟩
      refine ty_take 3 17 (.tuple #[.agg #[.int .i64 10, .slice A32 aw2.length c33], .int .i64 0]) (pok_cont pok_body) ?_ (((M39.drop 4).drop 1).drop 0) (fun _ _ _ => by kernel_rfl)
      refine ty_take 4 21 (.agg #[.int .i64 10, .slice A32 aw2.length c33]) (pok_cont pok_body) ?_ (((M39.drop 4).drop 1).drop 0) (fun _ _ _ => by kernel_rfl)
      refine ty_take 5 22 (.int .i64 0) (pok_cont pok_body) ?_ (((M39.drop 4).drop 1).drop 0) (fun _ _ _ => by kernel_rfl)
      refine ty_all (rs := [6]) (te_one ?_)
      refine te_sa M39 4 #[.int .i64 10, .slice A32 aw2.length c33] (fun _ M_ _ _ => (((M_.drop 4).drop 1).drop 0)) fun w40 M41 => ?_
      refine ty_take 7 4 (.int .i64 0) (pok_cont pok_body) ?_ (((M41.drop 4).drop 1).drop 0) (fun _ _ _ => by kernel_rfl)
      refine ty_endL ?_
      refine tn_code (tc_seq (tc_region ?_))
      refine la M41 4 24 #[.int .i64 10, .slice A32 aw2.length c33] (hu := Try.underlying24) ?_
      refine cb M41 25 (by have h_ := find_any 10 aw2 A32 c33 2 w40 (M41.rd_C 0 rfl) sm_aw2; rw [aw_find] at h_; exact h_) fun w42 hb44 M43 => ?_
      refine sg 5 [1, 2, 3, 4, 5, 6] [(1, .pointer (some ⟨b4, 0, none⟩)), (2, .int .i64 0), (3, .int .i64 0), (4, .int .i64 0), (5, .int .i64 4), (6, .bool true)] ?_
      refine to_end rfl (tn_code (tc_seq (tc_region ?_)))
      refine sg 18 [1, 45] [(1, .pointer (some ⟨b4, 0, none⟩)), (45, .bool true)] ?_
      refine la M43 4 46 #[.int .i64 10, .slice A32 aw2.length c33] (hu := Try.underlying24) ?_
      refine cb M43 47 (by have h_ := left_any 10 aw2 A32 c33 w42 (M43.rd_C 0 rfl) sm_aw2; rw [aw_left] at h_; exact h_) fun w45 hb47 M46 => ?_
      refine sg 3 [1, 50] [(1, .pointer (some ⟨b4, 0, none⟩)), (50, .bool true)] ?_
      refine la M46 4 51 #[.int .i64 10, .slice A32 aw2.length c33] (hu := Try.underlying24) ?_
      refine cb M46 52 (by have h_ := may13_any 10 aw2 A32 c33 w45 (M46.rd_C 0 rfl) sm_aw2; rw [aw_may13] at h_; exact h_) fun w48 hb50 M49 => ?_
      refine sg 2 [0] [(0, .bool true)] ?_
      refine to_end rfl (tn_code (tc_ret ?_))
      refine tr_tmp rfl rfl ?_
      exact ⟨congrArg Ending.returned (congrArg Value.bool (rfl)), M49.below⟩
    · refine te_mk M27 19 2 kW 0 (.int .u64 0) 8 Try.underlying25 (by omega) (fun _ _ => rfl) (fun _ _ M_ _ _ => ((M_.drop 3).drop 0)) fun b51 w52 M53 => ?_
      refine ty_all (rs := [0]) (te_one ?_)
      refine te_la M53 3 18 #[.int .i64 10, .slice A15 aw1.length c16] ?_ Try.underlying24
      refine ty_all (rs := [2]) (te_one ?_)
      have hs54 := put13_any 10 aw1 A15 c16 2 6 (some ⟨b51, 0, none⟩) 2 (List.replicate 2 (0 : Int)) w52 (M53.rd_C 1 rfl) hc18 sm_aw1 (by decide) (M53.row_C 0 rfl) (by simp) (by simp)
      rw [aw_put2] at hs54
      dsimp only at hs54
      refine te_ce 20 hs54 fun e59 w60 h61 => ?_
      obtain ⟨A55, c56, rfl, hM57, hc58⟩ := h61
      have M62 := M53.join hM57
      refine ⟨_, rfl, fun _ _ => (((M62.drop 4).drop 1).drop 0), ?_⟩
      refine ty_take 3 17 (.tuple #[.agg #[.int .i64 10, .slice A55 aw2.length c56], .int .i64 0]) (pok_cont pok_body) ?_ (((M62.drop 4).drop 1).drop 0) (fun _ _ _ => by kernel_rfl)
      refine ty_take 4 21 (.agg #[.int .i64 10, .slice A55 aw2.length c56]) (pok_cont pok_body) ?_ (((M62.drop 4).drop 1).drop 0) (fun _ _ _ => by kernel_rfl)
      refine ty_take 5 22 (.int .i64 0) (pok_cont pok_body) ?_ (((M62.drop 4).drop 1).drop 0) (fun _ _ _ => by kernel_rfl)
      refine ty_all (rs := [6]) (te_one ?_)
      refine te_sa M62 4 #[.int .i64 10, .slice A55 aw2.length c56] (fun _ M_ _ _ => (((M_.drop 4).drop 1).drop 0)) fun w63 M64 => ?_
      refine ty_take 7 4 (.int .i64 0) (pok_cont pok_body) ?_ (((M64.drop 4).drop 1).drop 0) (fun _ _ _ => by kernel_rfl)
      refine ty_endL ?_
      refine tn_code (tc_seq (tc_region ?_))
      refine la M64 4 24 #[.int .i64 10, .slice A55 aw2.length c56] (hu := Try.underlying24) ?_
      refine cb M64 25 (by have h_ := find_any 10 aw2 A55 c56 2 w63 (M64.rd_C 0 rfl) sm_aw2; rw [aw_find] at h_; exact h_) fun w65 hb67 M66 => ?_
      refine sg 5 [1, 2, 3, 4, 5, 6] [(1, .pointer (some ⟨b4, 0, none⟩)), (2, .int .i64 0), (3, .int .i64 0), (4, .int .i64 0), (5, .int .i64 4), (6, .bool true)] ?_
      refine to_end rfl (tn_code (tc_seq (tc_region ?_)))
      refine sg 18 [1, 45] [(1, .pointer (some ⟨b4, 0, none⟩)), (45, .bool true)] ?_
      refine la M66 4 46 #[.int .i64 10, .slice A55 aw2.length c56] (hu := Try.underlying24) ?_
      refine cb M66 47 (by have h_ := left_any 10 aw2 A55 c56 w65 (M66.rd_C 0 rfl) sm_aw2; rw [aw_left] at h_; exact h_) fun w68 hb70 M69 => ?_
      refine sg 3 [1, 50] [(1, .pointer (some ⟨b4, 0, none⟩)), (50, .bool true)] ?_
      refine la M69 4 51 #[.int .i64 10, .slice A55 aw2.length c56] (hu := Try.underlying24) ?_
      refine cb M69 52 (by have h_ := may13_any 10 aw2 A55 c56 w68 (M69.rd_C 0 rfl) sm_aw2; rw [aw_may13] at h_; exact h_) fun w71 hb73 M72 => ?_
      refine sg 2 [0] [(0, .bool true)] ?_
      refine to_end rfl (tn_code (tc_ret ?_))
      refine tr_tmp rfl rfl ?_
      exact ⟨congrArg Ending.returned (congrArg Value.bool (rfl)), M72.below⟩
  · refine te_mk M10 13 4 kW 0 (.int .u64 0) 8 Try.underlying25 (by omega) (fun _ _ => rfl) (fun _ _ M_ _ _ => ((M_.drop 1).drop 0)) fun b74 w75 M76 => ?_
    refine ty_all (rs := [0]) (te_one ?_)
    refine te_la M76 1 12 #[.int .i64 10, .slice none 0 0] ?_ Try.underlying24
    refine ty_all (rs := [2]) (te_one ?_)
    have hs77 := put13_any 10 ([] : List Blk) none 0 1 0 (some ⟨b74, 0, none⟩) 4 (List.replicate 4 (0 : Int)) w75 (Kd.C_nil _ _) (Nat.le_refl _) sm_nil (by decide) (M76.row_C 0 rfl) (by simp) (by simp)
    rw [aw_put1] at hs77
    dsimp only at hs77
    refine te_ce 14 hs77 fun e82 w83 h84 => ?_
    obtain ⟨A78, c79, rfl, hM80, hc81⟩ := h84
    have M85 := M76.join hM80
    refine ⟨_, rfl, fun _ _ => (((M85.drop 2).drop 1).drop 0), ?_⟩
    refine ty_take 3 11 (.tuple #[.agg #[.int .i64 10, .slice A78 aw1.length c79], .int .i64 0]) (pok_cont pok_body) ?_ (((M85.drop 2).drop 1).drop 0) (fun _ _ _ => by kernel_rfl)
    refine ty_take 4 15 (.agg #[.int .i64 10, .slice A78 aw1.length c79]) (pok_cont pok_body) ?_ (((M85.drop 2).drop 1).drop 0) (fun _ _ _ => by kernel_rfl)
    refine ty_take 5 16 (.int .i64 0) (pok_cont pok_body) ?_ (((M85.drop 2).drop 1).drop 0) (fun _ _ _ => by kernel_rfl)
    refine ty_all (rs := [6]) (te_one ?_)
    refine te_sa M85 2 #[.int .i64 10, .slice A78 aw1.length c79] (fun _ M_ _ _ => (((M_.drop 2).drop 1).drop 0)) fun w86 M87 => ?_
    refine ty_take 7 3 (.int .i64 0) (pok_cont pok_body) ?_ (((M87.drop 2).drop 1).drop 0) (fun _ _ _ => by kernel_rfl)
    refine ty_endL ?_
    refine tn_code (tc_seq ?_)
    refine tc_drawL (fun w' => Mem w w' ([rdE kBlk A78 aw1, row kW 26 (.slice (some ⟨b74, 0, none⟩) 4 4) (List.replicate 4 (0 : Int))])) [] (by kernel_rfl) ?_
    have M90 := M87.draw
    refine ty_all (rs := [0, 1]) (te_cons ?_ (te_one ?_))
    · refine te_la M90 2 18 #[.int .i64 10, .slice A78 aw1.length c79] ?_ Try.underlying24
      refine ty_all (rs := [1]) (te_one ?_)
      refine te_mk M90 19 2 kW 0 (.int .u64 0) 8 Try.underlying25 (by omega) (fun _ _ => rfl) (fun _ _ M_ _ _ => ((M_.drop 3).drop 0)) fun b91 w92 M93 => ?_
      refine ty_all (rs := [2]) (te_one ?_)
      have hs94 := put13_any 10 aw1 A78 c79 2 6 (some ⟨b91, 0, none⟩) 2 (List.replicate 2 (0 : Int)) w92 (M93.rd_C 1 rfl) hc81 sm_aw1 (by decide) (M93.row_C 0 rfl) (by simp) (by simp)
      rw [aw_put2] at hs94
      dsimp only at hs94
      refine te_ce 20 hs94 fun e99 w100 h101 => ?_
      obtain ⟨A95, c96, rfl, hM97, hc98⟩ := h101
      have M102 := M93.join hM97
      refine ⟨_, rfl, fun _ _ => (((M102.drop 4).drop 1).drop 0), ?_⟩
      refine ty_take 3 17 (.tuple #[.agg #[.int .i64 10, .slice A95 aw2.length c96], .int .i64 0]) (pok_cont pok_body) ?_ (((M102.drop 4).drop 1).drop 0) (fun _ _ _ => by kernel_rfl)
      refine ty_take 4 21 (.agg #[.int .i64 10, .slice A95 aw2.length c96]) (pok_cont pok_body) ?_ (((M102.drop 4).drop 1).drop 0) (fun _ _ _ => by kernel_rfl)
      refine ty_take 5 22 (.int .i64 0) (pok_cont pok_body) ?_ (((M102.drop 4).drop 1).drop 0) (fun _ _ _ => by kernel_rfl)
      refine ty_all (rs := [6]) (te_one ?_)
      refine te_sa M102 4 #[.int .i64 10, .slice A95 aw2.length c96] (fun _ M_ _ _ => (((M_.drop 4).drop 1).drop 0)) fun w103 M104 => ?_
      refine ty_take 7 4 (.int .i64 0) (pok_cont pok_body) ?_ (((M104.drop 4).drop 1).drop 0) (fun _ _ _ => by kernel_rfl)
      refine ty_endL ?_
      refine tn_code (tc_seq (tc_region ?_))
      refine la M104 4 24 #[.int .i64 10, .slice A95 aw2.length c96] (hu := Try.underlying24) ?_
      refine cb M104 25 (by have h_ := find_any 10 aw2 A95 c96 2 w103 (M104.rd_C 0 rfl) sm_aw2; rw [aw_find] at h_; exact h_) fun w105 hb107 M106 => ?_
      refine sg 5 [1, 2, 3, 4, 5, 6] [(1, .pointer (some ⟨b4, 0, none⟩)), (2, .int .i64 0), (3, .int .i64 0), (4, .int .i64 0), (5, .int .i64 4), (6, .bool true)] ?_
      refine to_end rfl (tn_code (tc_seq (tc_region ?_)))
      refine sg 18 [1, 45] [(1, .pointer (some ⟨b4, 0, none⟩)), (45, .bool true)] ?_
      refine la M106 4 46 #[.int .i64 10, .slice A95 aw2.length c96] (hu := Try.underlying24) ?_
      refine cb M106 47 (by have h_ := left_any 10 aw2 A95 c96 w105 (M106.rd_C 0 rfl) sm_aw2; rw [aw_left] at h_; exact h_) fun w108 hb110 M109 => ?_
      refine sg 3 [1, 50] [(1, .pointer (some ⟨b4, 0, none⟩)), (50, .bool true)] ?_
      refine la M109 4 51 #[.int .i64 10, .slice A95 aw2.length c96] (hu := Try.underlying24) ?_
      refine cb M109 52 (by have h_ := may13_any 10 aw2 A95 c96 w108 (M109.rd_C 0 rfl) sm_aw2; rw [aw_may13] at h_; exact h_) fun w111 hb113 M112 => ?_
      refine sg 2 [0] [(0, .bool true)] ?_
      refine to_end rfl (tn_code (tc_ret ?_))
      refine tr_tmp rfl rfl ?_
      exact ⟨congrArg Ending.returned (congrArg Value.bool (rfl)), M112.below⟩
    · refine te_mk M90 19 2 kW 0 (.int .u64 0) 8 Try.underlying25 (by omega) (fun _ _ => rfl) (fun _ _ M_ _ _ => ((M_.drop 3).drop 0)) fun b114 w115 M116 => ?_
      refine ty_all (rs := [0]) (te_one ?_)
      refine te_la M116 3 18 #[.int .i64 10, .slice A78 aw1.length c79] ?_ Try.underlying24
      refine ty_all (rs := [2]) (te_one ?_)
      have hs117 := put13_any 10 aw1 A78 c79 2 6 (some ⟨b114, 0, none⟩) 2 (List.replicate 2 (0 : Int)) w115 (M116.rd_C 1 rfl) hc81 sm_aw1 (by decide) (M116.row_C 0 rfl) (by simp) (by simp)
      rw [aw_put2] at hs117
      dsimp only at hs117
      refine te_ce 20 hs117 fun e122 w123 h124 => ?_
      obtain ⟨A118, c119, rfl, hM120, hc121⟩ := h124
      have M125 := M116.join hM120
      refine ⟨_, rfl, fun _ _ => (((M125.drop 4).drop 1).drop 0), ?_⟩
      refine ty_take 3 17 (.tuple #[.agg #[.int .i64 10, .slice A118 aw2.length c119], .int .i64 0]) (pok_cont pok_body) ?_ (((M125.drop 4).drop 1).drop 0) (fun _ _ _ => by kernel_rfl)
      refine ty_take 4 21 (.agg #[.int .i64 10, .slice A118 aw2.length c119]) (pok_cont pok_body) ?_ (((M125.drop 4).drop 1).drop 0) (fun _ _ _ => by kernel_rfl)
      refine ty_take 5 22 (.int .i64 0) (pok_cont pok_body) ?_ (((M125.drop 4).drop 1).drop 0) (fun _ _ _ => by kernel_rfl)
      refine ty_all (rs := [6]) (te_one ?_)
      refine te_sa M125 4 #[.int .i64 10, .slice A118 aw2.length c119] (fun _ M_ _ _ => (((M_.drop 4).drop 1).drop 0)) fun w126 M127 => ?_
      refine ty_take 7 4 (.int .i64 0) (pok_cont pok_body) ?_ (((M127.drop 4).drop 1).drop 0) (fun _ _ _ => by kernel_rfl)
      refine ty_endL ?_
      refine tn_code (tc_seq (tc_region ?_))
      refine la M127 4 24 #[.int .i64 10, .slice A118 aw2.length c119] (hu := Try.underlying24) ?_
      refine cb M127 25 (by have h_ := find_any 10 aw2 A118 c119 2 w126 (M127.rd_C 0 rfl) sm_aw2; rw [aw_find] at h_; exact h_) fun w128 hb130 M129 => ?_
      refine sg 5 [1, 2, 3, 4, 5, 6] [(1, .pointer (some ⟨b4, 0, none⟩)), (2, .int .i64 0), (3, .int .i64 0), (4, .int .i64 0), (5, .int .i64 4), (6, .bool true)] ?_
      refine to_end rfl (tn_code (tc_seq (tc_region ?_)))
      refine sg 18 [1, 45] [(1, .pointer (some ⟨b4, 0, none⟩)), (45, .bool true)] ?_
      refine la M129 4 46 #[.int .i64 10, .slice A118 aw2.length c119] (hu := Try.underlying24) ?_
      refine cb M129 47 (by have h_ := left_any 10 aw2 A118 c119 w128 (M129.rd_C 0 rfl) sm_aw2; rw [aw_left] at h_; exact h_) fun w131 hb133 M132 => ?_
      refine sg 3 [1, 50] [(1, .pointer (some ⟨b4, 0, none⟩)), (50, .bool true)] ?_
      refine la M132 4 51 #[.int .i64 10, .slice A118 aw2.length c119] (hu := Try.underlying24) ?_
      refine cb M132 52 (by have h_ := may13_any 10 aw2 A118 c119 w131 (M132.rd_C 0 rfl) sm_aw2; rw [aw_may13] at h_; exact h_) fun w134 hb136 M135 => ?_
      refine sg 2 [0] [(0, .bool true)] ?_
      refine to_end rfl (tn_code (tc_ret ?_))
      refine tr_tmp rfl rfl ?_
      exact ⟨congrArg Ending.returned (congrArg Value.bool (rfl)), M135.below⟩
end Go.Proofs.Ytfknhbgghpbkpaa
