/- The law ProgSwap: its walk. -/
import Derived.Test.YtfknhbgghpbkpaaSwapLaw
import Derived.Test.YtfknhbgghpbkpaaOpen
namespace Go.Proofs.Ytfknhbgghpbkpaa
open Go.RowKit Cal Go.Proofs.YtfknhbgghpbkpaaW.PrintWords
theorem swaplaw_any (p : List Fn) (i : Int) (f : Fn) (A : Option Addr) (c : Nat) (Af : Option Addr) (cf : Nat) (w : World) (hi : I64 i) (hC : kFn.C w A p.length p) (hcp : p.length ≤ c) (hF : kInst.C w Af f.code.length f.code) (hcf : f.code.length ≤ cf) : Calls Try.prog 9 #[.agg #[.slice A p.length c], .int .i64 i, .agg #[.int .i64 f.args, .slice Af f.code.length cf]] w fun e w' => e = .returned (.bool true) ∧ Below w.heap.size w w' := by
  have M := Mem.refl w
  have hmx := C_max hC
  refine calls_tc (N := 140) (args := [.agg #[.slice A p.length c], .int .i64 i, .agg #[.int .i64 f.args, .slice Af f.code.length cf]]) Try.func9 rfl rfl rfl ?_
  refine tc_seq (tc_region ?_)
  refine nw M 3 #[.slice A p.length c] 45 fun b1 w2 M3 => ?_
  refine nw M3 5 #[.int .i64 f.args, .slice Af f.code.length cf] 57 fun b4 w5 M6 => ?_
  refine sg 1 [1, 3, 5] [(1, .int .i64 i), (3, .pointer (some ⟨b1, 0, none⟩)), (5, .pointer (some ⟨b4, 0, none⟩))] ?_
  refine to_end rfl (tn_code (tc_seq (tc_region ?_)))
  refine cb M6 16 (awake_any _) fun w7 hb9 M8 => ?_
  refine sg 1 [1, 3, 5, 7] [(1, .int .i64 i), (3, .pointer (some ⟨b1, 0, none⟩)), (5, .pointer (some ⟨b4, 0, none⟩)), (7, .bool true)] ?_
  refine to_end rfl (tn_code (tc_seq (tc_region ?_)))
  refine la M8 1 17 #[.slice A p.length c] (hu := Try.underlying45) ?_
  refine cb M8 18 (few_any p A c _ (C_up M8 hC)) fun w10 hb12 M11 => ?_
  refine sg 1 [1, 3, 5, 7, 8] [(1, .int .i64 i), (3, .pointer (some ⟨b1, 0, none⟩)), (5, .pointer (some ⟨b4, 0, none⟩)), (7, .bool true), (8, .bool (fewB p))] ?_
  refine to_end rfl (tn_code (tc_seq (tc_seq (tc_region ?_))))
  refine sg 7 [1, 3, 5, 7, 25] [(1, .int .i64 i), (3, .pointer (some ⟨b1, 0, none⟩)), (5, .pointer (some ⟨b4, 0, none⟩)), (7, .bool true), (25, .bool (!(fewB p)))] ?_
  rcases h13 : (fewB p : Bool) with _ | _
  · refine sg 5 [1, 3, 5, 7, 30] [(1, .int .i64 i), (3, .pointer (some ⟨b1, 0, none⟩)), (5, .pointer (some ⟨b4, 0, none⟩)), (7, .bool true), (30, .bool true)] ?_
    refine to_end rfl (tn_code (tc_cond_t (fun _ => rfl) (tc_seq (tc_region ?_))))
    refine sg 2 [6] [(6, .bool true)] ?_
    refine to_end rfl (tn_code (tc_ret ?_))
    refine tr_tmp rfl rfl ?_
    exact ⟨rfl, M11.below⟩
  · refine sg 1 [1, 3, 5, 7, 25, 26] [(1, .int .i64 i), (3, .pointer (some ⟨b1, 0, none⟩)), (5, .pointer (some ⟨b4, 0, none⟩)), (7, .bool true), (25, .bool false), (26, .pointer (some ⟨b4, 1, none⟩))] ?_
    refine ld M11 0 27 (.slice Af f.code.length cf) ?_
    refine sg 3 [1, 3, 5, 7, 30] [(1, .int .i64 i), (3, .pointer (some ⟨b1, 0, none⟩)), (5, .pointer (some ⟨b4, 0, none⟩)), (7, .bool true), (30, .bool (decide ((f.code.length : Int) > 80)))] ?_
    refine to_end rfl (tn_code ?_)
    refine tc_cond (b := decide ((f.code.length : Int) > 80)) (fun _ => rfl) (fun h14 => ?_) (fun h14 => ?_)
    · have h14p := of_decide_eq_true h14
      refine tc_seq (tc_region ?_)
      refine sg 2 [6] [(6, .bool true)] ?_
      refine to_end rfl (tn_code (tc_ret ?_))
      refine tr_tmp rfl rfl ?_
      exact ⟨rfl, M11.below⟩
    · have h14p := of_decide_eq_false h14
      refine tc_skip (tn_code (tc_seq (tc_region ?_)))
      refine la M11 1 33 #[.slice A p.length c] (hu := Try.underlying45) ?_
      refine sg 1 [1, 3, 5, 33, 34] [(1, .int .i64 i), (3, .pointer (some ⟨b1, 0, none⟩)), (5, .pointer (some ⟨b4, 0, none⟩)), (33, .agg #[.slice A p.length c]), (34, .int .i64 i)] ?_
      refine la M11 0 35 #[.int .i64 f.args, .slice Af f.code.length cf] (hu := Try.underlying57) ?_
      rcases swap_cases p i f with ⟨k, hk, he⟩ | ⟨n, rfl, hn, hp, hf, ha, he⟩
      · have hs18 := swap_any p i f A c Af cf w10 (C_up M11 hC) (C_up M11 hF) hcf
        rw [he] at hs18
        refine ce 36 (hs18) fun e19 w20 h21 => ?_
        obtain ⟨A22, c23, rfl, hM24⟩ := h21
        have M25 := M11.join hM24
        refine ⟨_, rfl, ?_⟩
        refine sg 3 [1, 3, 5, 37, 38] [(1, .int .i64 i), (3, .pointer (some ⟨b1, 0, none⟩)), (5, .pointer (some ⟨b4, 0, none⟩)), (37, .agg #[.slice A22 ([] : List Fn).length c23]), (38, .int .i64 k)] ?_
        refine nw M25 9 #[.slice none 0 0] 45 fun b26 w27 M28 => ?_
        refine sa M28 0 #[.slice A22 ([] : List Fn).length c23] fun w29 M30 => ?_
        refine sg 1 [1, 3, 5, 9, 10] [(1, .int .i64 i), (3, .pointer (some ⟨b1, 0, none⟩)), (5, .pointer (some ⟨b4, 0, none⟩)), (9, .pointer (some ⟨b26, 0, none⟩)), (10, .int .i64 k)] ?_
        refine to_end rfl (tn_code (tc_seq (tc_seq (tc_region ?_))))
        refine sg 2 [1, 3, 5, 9, 40] [(1, .int .i64 i), (3, .pointer (some ⟨b1, 0, none⟩)), (5, .pointer (some ⟨b4, 0, none⟩)), (9, .pointer (some ⟨b26, 0, none⟩)), (40, .bool (k != 0))] ?_
        refine to_end rfl (tn_code ?_)
        have ht31 : (k != 0 : Bool) = true := bne_iff_ne.2 hk
        have ht31p := bne_iff_ne.1 ht31
        rw [ht31]
        refine tc_cond_t (fun _ => rfl) (tc_seq (tc_region ?_))
        refine sg 1 [41] [(41, .pointer (some ⟨b26, 0, none⟩))] ?_
        refine ld M30 0 42 (.slice A22 ([] : List Fn).length c23) ?_
        refine sg 3 [6] [(6, .bool ((([] : List Fn).length : Int) == 0))] ?_
        refine to_end rfl (tn_code (tc_ret ?_))
        refine tr_tmp rfl rfl ?_
        have ht32 : ((([] : List Fn).length : Int) == 0 : Bool) = true := rfl
        have ht32p := beq_iff_eq.1 ht32
        exact ⟨congrArg Ending.returned (congrArg Value.bool (by first | exact ht32 | (rw [ht32]; rfl))), M30.below⟩
      · have hs33 := swap_any p (n : Int) f A c Af cf w10 (C_up M11 hC) (C_up M11 hF) hcf
        rw [he] at hs33
        refine ce 36 (hs33) fun e34 w35 h36 => ?_
        obtain ⟨A37, c38, rfl, hM39⟩ := h36
        have M40 := M11.join hM39
        refine ⟨_, rfl, ?_⟩
        refine sg 3 [1, 3, 5, 37, 38] [(1, .int .i64 (n : Int)), (3, .pointer (some ⟨b1, 0, none⟩)), (5, .pointer (some ⟨b4, 0, none⟩)), (37, .agg #[.slice A37 (p.set n f).length c38]), (38, .int .i64 0)] ?_
        refine nw M40 9 #[.slice none 0 0] 45 fun b41 w42 M43 => ?_
        refine sa M43 0 #[.slice A37 (p.set n f).length c38] fun w44 M45 => ?_
        refine sg 1 [1, 3, 5, 9, 10] [(1, .int .i64 (n : Int)), (3, .pointer (some ⟨b1, 0, none⟩)), (5, .pointer (some ⟨b4, 0, none⟩)), (9, .pointer (some ⟨b41, 0, none⟩)), (10, .int .i64 0)] ?_
        refine to_end rfl (tn_code (tc_seq (tc_seq (tc_region ?_))))
        refine sg 2 [1, 3, 5, 9, 40] [(1, .int .i64 (n : Int)), (3, .pointer (some ⟨b1, 0, none⟩)), (5, .pointer (some ⟨b4, 0, none⟩)), (9, .pointer (some ⟨b41, 0, none⟩)), (40, .bool false)] ?_
        refine to_end rfl (tn_code (tc_cond_f (fun _ => rfl) (tc_skip (tn_code (tc_seq (tc_seq ?_))))))
        refine tc_drawL (fun w' => Mem w w' ([blk b41 #[.slice A37 (p.set n f).length c38] 45, row kFn 57 (.slice A37 (p.set n f).length c38) (p.set n f), blk b4 #[.int .i64 f.args, .slice Af f.code.length cf] 57, blk b1 #[.slice A p.length c] 45])) [] (by kernel_rfl) ?_
        have M50 := M45.draw
        refine ty_take 0 45 (.int .i64 (n : Int)) (pok_cont pok_body) ?_ M50 (fun _ _ _ => by kernel_rfl)
        refine ty_take 1 46 (.bool (decide ((n : Int) < 0))) (pok_cont pok_body) ?_ M50 (fun _ _ _ => by kernel_rfl)
        refine ty_take 2 47 (.bool (decide ((n : Int) < 0))) (pok_cont pok_body) ?_ M50 (fun _ _ _ => by kernel_rfl)
        have ht51 : (decide ((n : Int) < 0) : Bool) = false := decide_eq_false (by omega)
        have ht51p := of_decide_eq_false ht51
        rw [ht51]
        refine ty_take 3 48 (.int .i64 (n : Int)) (pok_cont pok_body) ?_ M50 (fun _ _ _ => by kernel_rfl)
        refine ty_take 4 49 (.pointer (some ⟨b1, 0, none⟩)) (pok_cont pok_body) ?_ M50 (fun _ _ _ => by kernel_rfl)
        refine ty_take 5 50 (.slice A p.length c) (pok_cont pok_body) ?_ M50 (fun _ M' _ => rl M' 3)
        refine ty_take 6 51 (.int .i64 (p.length : Int)) (pok_cont pok_body) ?_ M50 (fun _ _ _ => by kernel_rfl)
        refine ty_take 7 52 (.bool (decide ((n : Int) ≥ (p.length : Int)))) (pok_cont pok_body) ?_ M50 (fun _ _ _ => by kernel_rfl)
        refine ty_take 8 53 (.bool (decide ((n : Int) ≥ (p.length : Int)))) (pok_cont pok_body) ?_ M50 (fun _ _ _ => by kernel_rfl)
        refine ty_take 9 54 (.bool (decide ((n : Int) ≥ (p.length : Int)))) (pok_cont pok_body) ?_ M50 (fun _ _ _ => by kernel_rfl)
        have ht52 : (decide ((n : Int) ≥ (p.length : Int)) : Bool) = false := decide_eq_false (by omega)
        have ht52p := of_decide_eq_false ht52
        rw [ht52]
        refine ty_take 10 55 (.pointer (some ⟨b41, 0, none⟩)) (pok_cont pok_body) ?_ M50 (fun _ _ _ => by kernel_rfl)
        refine ty_take 11 56 (.slice A37 (p.set n f).length c38) (pok_cont pok_body) ?_ M50 (fun _ M' _ => rl M' 0)
        refine ty_take 12 57 (.int .i64 ((p.set n f).length : Int)) (pok_cont pok_body) ?_ M50 (fun _ _ _ => by kernel_rfl)
        refine ty_take 13 58 (.pointer (some ⟨b1, 0, none⟩)) (pok_cont pok_body) ?_ M50 (fun _ _ _ => by kernel_rfl)
        refine ty_take 14 59 (.slice A p.length c) (pok_cont pok_body) ?_ M50 (fun _ M' _ => rl M' 3)
        refine ty_take 15 60 (.int .i64 (p.length : Int)) (pok_cont pok_body) ?_ M50 (fun _ _ _ => by kernel_rfl)
        refine ty_take 16 61 (.bool (((p.set n f).length : Int) != (p.length : Int))) (pok_cont pok_body) ?_ M50 (fun _ _ _ => by kernel_rfl)
        refine ty_take 17 62 (.bool (((p.set n f).length : Int) != (p.length : Int))) (pok_cont pok_body) ?_ M50 (fun _ _ _ => by kernel_rfl)
        refine ty_take 18 63 (.bool (((p.set n f).length : Int) != (p.length : Int))) (pok_cont pok_body) ?_ M50 (fun _ _ _ => by kernel_rfl)
        have ht53 : (((p.set n f).length : Int) != (p.length : Int) : Bool) = false := bne_eq_false_iff_eq.2 (by rw [List.length_set])
        have ht53p := bne_eq_false_iff_eq.1 ht53
        rw [ht53]
        refine ty_take 19 64 (.pointer (some ⟨b1, 0, none⟩)) (pok_cont pok_body) ?_ M50 (fun _ _ _ => by kernel_rfl)
        refine ty_take 20 65 (.slice A p.length c) (pok_cont pok_body) ?_ M50 (fun _ M' _ => rl M' 3)
        refine ty_take 21 66 (.int .i64 (n : Int)) (pok_cont pok_body) ?_ M50 (fun _ _ _ => by kernel_rfl)
        obtain ⟨ad54, rfl⟩ := C_some hC (k := n) (by first | omega | (rw [List.length_set]; omega))
        refine ty_take 22 67 (.pointer (some (ad54.add (n * 2)))) (pok_cont pok_body) ?_ M50 (fun _ _ _ => ri (ad := ad54) (n := p.length) (c := c) n 2 (by first | omega | (rw [List.length_set]; omega)) Try.underlying43)
        refine ty_take 23 68 (.pointer (some (ad54.add (n * 2)))) (pok_cont pok_body) ?_ M50 (fun _ _ _ => by kernel_rfl)
        obtain ⟨cs57, hk55, hc56⟩ := C_cell hC Fn.z n (by omega)
        obtain ⟨A58, c59, rfl, hl60, hC61⟩ := kFn_open hk55
        refine ty_take 24 69 (.int .i64 (p.getD n Fn.z).args) (pok_cont pok_body) ?_ M50 (fun _ M' _ => re (cell_up M' (hc56 0 _ rfl)))
        refine ty_take 25 70 (.pointer (some ⟨b4, 0, none⟩)) (pok_cont pok_body) ?_ M50 (fun _ _ _ => by kernel_rfl)
        refine ty_take 26 71 (.int .i64 f.args) (pok_cont pok_body) ?_ M50 (fun _ M' _ => rl M' 2)
        refine ty_take 27 72 (.bool ((p.getD n Fn.z).args != f.args)) (pok_cont pok_body) ?_ M50 (fun _ _ _ => by kernel_rfl)
        refine ty_take 28 73 (.bool ((p.getD n Fn.z).args != f.args)) (pok_cont pok_body) ?_ M50 (fun _ _ _ => by kernel_rfl)
        refine ty_endL ?_
        refine tn_code ?_
        have ht62 : ((p.getD n Fn.z).args != f.args : Bool) = false := bne_eq_false_iff_eq.2 ha
        have ht62p := bne_eq_false_iff_eq.1 ht62
        rw [ht62]
        refine tc_cond_f (fun _ => rfl) (tc_skip (tn_code (tc_seq ?_)))
        refine tc_drawL (fun w' => Mem w w' ([blk b41 #[.slice A37 (p.set n f).length c38] 45, row kFn 57 (.slice A37 (p.set n f).length c38) (p.set n f), blk b4 #[.int .i64 f.args, .slice Af f.code.length cf] 57, blk b1 #[.slice (some ad54) p.length c] 45])) [] (by kernel_rfl) ?_
        have M63 := M50.draw
        refine ty_take 0 75 (.agg #[.slice A37 (p.set n f).length c38]) (pok_cont pok_body) ?_ M63 (fun _ M' _ => rla M' 0 (vs := #[.slice A37 (p.set n f).length c38]) Try.underlying45)
        refine ty_take 1 76 (.int .i64 (n : Int)) (pok_cont pok_body) ?_ M63 (fun _ _ _ => by kernel_rfl)
        refine ty_take 2 77 (.pointer (some ⟨b1, 0, none⟩)) (pok_cont pok_body) ?_ M63 (fun _ _ _ => by kernel_rfl)
        refine ty_take 3 78 (.slice (some ad54) p.length c) (pok_cont pok_body) ?_ M63 (fun _ M' _ => rl M' 3)
        refine ty_take 4 79 (.int .i64 (n : Int)) (pok_cont pok_body) ?_ M63 (fun _ _ _ => by kernel_rfl)
        refine ty_take 5 80 (.pointer (some (ad54.add (n * 2)))) (pok_cont pok_body) ?_ M63 (fun _ _ _ => ri (ad := ad54) (n := p.length) (c := c) n 2 (by first | omega | (rw [List.length_set]; omega)) Try.underlying43)
        refine ty_take 6 81 (.agg #[.int .i64 (p.getD n Fn.z).args, .slice A58 (p.getD n Fn.z).code.length c59]) (pok_cont pok_body) ?_ M63 (fun _ M' _ => rea (vs := #[.int .i64 (p.getD n Fn.z).args, .slice A58 (p.getD n Fn.z).code.length c59]) (fun j u hj => cell_up M' (hc56 j u hj)) Try.underlying57)
        refine ty_all (rs := [7, 11]) (te_cons ?_ (te_one ?_))
        · have hs64 := swap_any (p.set n f) (n : Int) (p.getD n Fn.z) A37 c38 A58 c59 ((w44.drew).drew) (M63.row_C 1 rfl) (C_up M63 hC61) hl60
          rw [swap_back hp hf hn ha] at hs64
          refine te_ce 82 (hs64) fun e65 w66 h67 => ?_
          obtain ⟨A68, c69, rfl, hM70⟩ := h67
          have M71 := M63.join hM70
          refine ⟨_, rfl, fun _ _ => (M71.drop 0), ?_⟩
          refine ty_take 8 74 (.tuple #[.agg #[.slice A68 p.length c69], .int .i64 0]) (pok_cont pok_body) ?_ (M71.drop 0) (fun _ _ _ => by kernel_rfl)
          refine ty_take 9 83 (.agg #[.slice A68 p.length c69]) (pok_cont pok_body) ?_ (M71.drop 0) (fun _ _ _ => by kernel_rfl)
          refine ty_take 10 84 (.int .i64 0) (pok_cont pok_body) ?_ (M71.drop 0) (fun _ _ _ => by kernel_rfl)
          refine ty_all (rs := [11]) (te_one ?_)
          refine te_new M71 11 #[.slice none 0 0] 45 (fun _ hb _ M' => M'.call hb) fun b72 w73 M74 => ?_
          refine ty_all (rs := [12]) (te_one ?_)
          refine te_sa M74 0 #[.slice A68 p.length c69] (fun _ M_ _ _ => ((M_.drop 1).drop 0)) fun w75 M76 => ?_
          refine ty_take 13 12 (.int .i64 0) (pok_cont pok_body) ?_ ((M76.drop 1).drop 0) (fun _ _ _ => by kernel_rfl)
          refine ty_endL ?_
          refine tn_code (tc_seq ?_)
          refine tc_drawL (fun w' => Mem w w' ([blk b72 #[.slice A68 p.length c69] 45, row kFn 57 (.slice A68 p.length c69) p, blk b41 #[.slice A37 (p.set n f).length c38] 45, row kFn 57 (.slice A37 (p.set n f).length c38) (p.set n f), blk b4 #[.int .i64 f.args, .slice Af f.code.length cf] 57, blk b1 #[.slice (some ad54) p.length c] 45])) [] (by kernel_rfl) ?_
          have M79 := M76.draw
          refine ty_take 0 85 (.pointer (some ⟨b41, 0, none⟩)) (pok_cont pok_body) ?_ M79 (fun _ _ _ => by kernel_rfl)
          refine ty_take 1 86 (.slice A37 (p.set n f).length c38) (pok_cont pok_body) ?_ M79 (fun _ M' _ => rl M' 2)
          refine ty_take 2 87 (.int .i64 (n : Int)) (pok_cont pok_body) ?_ M79 (fun _ _ _ => by kernel_rfl)
          refine ty_take 3 88 (.int .i64 (n : Int)) (pok_cont pok_body) ?_ M79 (fun _ _ _ => by kernel_rfl)
          refine ty_take 4 89 (.int .i64 (IntKind.wrap .i64 ((n : Int) + 1))) (pok_cont pok_body) ?_ M79 (fun _ _ _ => by kernel_rfl)
          rw [show IntKind.wrap .i64 ((n : Int) + 1) = (((n + 1) : Nat) : Int) from wr_nat n 1 (by omega)]
          obtain ⟨A80, hr81, hA82, hle83⟩ := cutm (P := Try.prog) (d := kFn) Try.underlying43 (by kernel_rfl) A37 (p.set n f) c38 n (n + 1) .i64 .i64 (by first | omega | (rw [List.length_set]; omega)) (by first | omega | (rw [List.length_set]; omega)) (M79.row_cap 3 rfl)
          refine ty_take 5 90 (.slice A80 (((p.set n f).take (n + 1)).drop n).length (c38 - n)) (pok_cont pok_body) ?_ M79 (fun w' _ _ => exec_slice rfl rfl rfl rfl (hr81 w'))
          refine ty_take 6 91 (.agg #[.slice A80 (((p.set n f).take (n + 1)).drop n).length (c38 - n)]) (pok_cont pok_body) ?_ M79 (fun _ _ _ => by kernel_rfl)
          refine ty_take 7 92 (.agg #[.int .i64 f.args, .slice Af f.code.length cf]) (pok_cont pok_body) ?_ M79 (fun _ M' _ => rla M' 4 (vs := #[.int .i64 f.args, .slice Af f.code.length cf]) Try.underlying57)
          refine ty_all (rs := [8]) (te_one ?_)
          have M87 := M79.flat (d := kMix) (x := (Sum.inr (f.args, Af, f.code.length, cf) : MixE)) (cs := [.int .i64 f.args, .slice Af f.code.length cf]) (fun _ => rfl)
          refine te_bs1 (x := (Sum.inr (f.args, Af, f.code.length, cf) : MixE)) (cs := #[.int .i64 f.args, .slice Af f.code.length cf]) M87 93 57 (fun _ _ M_ _ _ => (M_.drop 0)) fun b84 w85 M86 => ?_
          refine ty_take 9 94 (.agg #[.slice (some ⟨b84, 0, none⟩) 1 1]) (pok_cont pok_body) ?_ (M86.drop 0) (fun _ _ _ => by kernel_rfl)
          refine ty_all (rs := [10]) (te_one ?_)
          refine te_cb M86 95 (rsame_any A80 (c38 - n) (((p.set n f).take (n + 1)).drop n) (some ⟨b84, 0, none⟩) 1 [f] _ (hA82 _ (M86.row_C 4 rfl)) (one_C (M86.row_C 0 rfl) (C_up M86 hF) hcf)) (fun _ hb _ M' => M'.call hb) fun w88 hb90 M89 => ?_
          refine ty_take 11 13 (.bool (decide ((((p.set n f).take (n + 1)).drop n) = [f]))) (pok_cont pok_body) ?_ (M89.drop 0) (fun _ _ _ => by kernel_rfl)
          refine ty_endL ?_
          refine tn_code (tc_seq ?_)
          refine tc_drawL (fun w' => Mem w w' ([row kMix 57 (.slice (some ⟨b84, 0, none⟩) 1 1) [(Sum.inr (f.args, Af, f.code.length, cf) : MixE)], blk b72 #[.slice A68 p.length c69] 45, row kFn 57 (.slice A68 p.length c69) p, blk b41 #[.slice A37 (p.set n f).length c38] 45, row kFn 57 (.slice A37 (p.set n f).length c38) (p.set n f), blk b4 #[.int .i64 f.args, .slice Af f.code.length cf] 57, blk b1 #[.slice (some ad54) p.length c] 45])) [] (by kernel_rfl) ?_
          have M92 := M89.draw
          refine ty_take 0 96 (.pointer (some ⟨b41, 0, none⟩)) (pok_cont pok_body) ?_ M92 (fun _ _ _ => by kernel_rfl)
          refine ty_take 1 97 (.slice A37 (p.set n f).length c38) (pok_cont pok_body) ?_ M92 (fun _ M' _ => rl M' 3)
          refine ty_take 2 98 (.int .i64 (n : Int)) (pok_cont pok_body) ?_ M92 (fun _ _ _ => by kernel_rfl)
          obtain ⟨A93, hr94, hA95, hle96⟩ := cutt (P := Try.prog) (d := kFn) Try.underlying43 (by kernel_rfl) A37 (p.set n f) c38 n .i64 (by first | omega | (rw [List.length_set]; omega)) (M92.row_cap 4 rfl)
          refine ty_take 3 99 (.slice A93 ((p.set n f).take n).length c38) (pok_cont pok_body) ?_ M92 (fun w' _ _ => exec_slice rfl rfl rfl rfl (hr94 w'))
          refine ty_take 4 100 (.agg #[.slice A93 ((p.set n f).take n).length c38]) (pok_cont pok_body) ?_ M92 (fun _ _ _ => by kernel_rfl)
          refine ty_take 5 101 (.pointer (some ⟨b1, 0, none⟩)) (pok_cont pok_body) ?_ M92 (fun _ _ _ => by kernel_rfl)
          refine ty_take 6 102 (.slice (some ad54) p.length c) (pok_cont pok_body) ?_ M92 (fun _ M' _ => rl M' 6)
          refine ty_take 7 103 (.int .i64 (n : Int)) (pok_cont pok_body) ?_ M92 (fun _ _ _ => by kernel_rfl)
          obtain ⟨A97, hr98, hA99, hle100⟩ := cutt (P := Try.prog) (d := kFn) Try.underlying43 (by kernel_rfl) (some ad54) p c n .i64 (by first | omega | (rw [List.length_set]; omega)) hcp
          refine ty_take 8 104 (.slice A97 (p.take n).length c) (pok_cont pok_body) ?_ M92 (fun w' _ _ => exec_slice rfl rfl rfl rfl (hr98 w'))
          refine ty_take 9 105 (.agg #[.slice A97 (p.take n).length c]) (pok_cont pok_body) ?_ M92 (fun _ _ _ => by kernel_rfl)
          refine ty_all (rs := [10]) (te_one ?_)
          refine te_cb M92 106 (rsame_any A93 c38 ((p.set n f).take n) A97 c (p.take n) _ (hA95 _ (M92.row_C 4 rfl)) (hA99 _ (C_up M92 hC))) (fun _ hb _ M' => M'.call hb) fun w101 hb103 M102 => ?_
          refine ty_take 11 14 (.bool (decide (((p.set n f).take n) = (p.take n)))) (pok_cont pok_body) ?_ M102 (fun _ _ _ => by kernel_rfl)
          refine ty_endL ?_
          refine tn_code (tc_seq ?_)
          refine tc_drawL (fun w' => Mem w w' ([row kMix 57 (.slice (some ⟨b84, 0, none⟩) 1 1) [(Sum.inr (f.args, Af, f.code.length, cf) : MixE)], blk b72 #[.slice A68 p.length c69] 45, row kFn 57 (.slice A68 p.length c69) p, blk b41 #[.slice A37 (p.set n f).length c38] 45, row kFn 57 (.slice A37 (p.set n f).length c38) (p.set n f), blk b4 #[.int .i64 f.args, .slice Af f.code.length cf] 57, blk b1 #[.slice (some ad54) p.length c] 45])) [] (by kernel_rfl) ?_
          have M104 := M102.draw
          refine ty_take 0 107 (.pointer (some ⟨b41, 0, none⟩)) (pok_cont pok_body) ?_ M104 (fun _ _ _ => by kernel_rfl)
          refine ty_take 1 108 (.slice A37 (p.set n f).length c38) (pok_cont pok_body) ?_ M104 (fun _ M' _ => rl M' 3)
          refine ty_take 2 109 (.int .i64 (n : Int)) (pok_cont pok_body) ?_ M104 (fun _ _ _ => by kernel_rfl)
          refine ty_take 3 110 (.int .i64 (IntKind.wrap .i64 ((n : Int) + 1))) (pok_cont pok_body) ?_ M104 (fun _ _ _ => by kernel_rfl)
          rw [show IntKind.wrap .i64 ((n : Int) + 1) = (((n + 1) : Nat) : Int) from wr_nat n 1 (by omega)]
          obtain ⟨A105, hr106, hA107, hle108⟩ := cutf (P := Try.prog) (d := kFn) Try.underlying43 (by kernel_rfl) A37 (p.set n f) c38 (n + 1) .i64 (by first | omega | (rw [List.length_set]; omega)) (M104.row_cap 4 rfl)
          refine ty_take 4 111 (.slice A105 ((p.set n f).drop (n + 1)).length (c38 - (n + 1))) (pok_cont pok_body) ?_ M104 (fun w' _ _ => exec_slice rfl rfl rfl rfl (hr106 w'))
          refine ty_take 5 112 (.agg #[.slice A105 ((p.set n f).drop (n + 1)).length (c38 - (n + 1))]) (pok_cont pok_body) ?_ M104 (fun _ _ _ => by kernel_rfl)
          refine ty_take 6 113 (.pointer (some ⟨b1, 0, none⟩)) (pok_cont pok_body) ?_ M104 (fun _ _ _ => by kernel_rfl)
          refine ty_take 7 114 (.slice (some ad54) p.length c) (pok_cont pok_body) ?_ M104 (fun _ M' _ => rl M' 6)
          refine ty_take 8 115 (.int .i64 (n : Int)) (pok_cont pok_body) ?_ M104 (fun _ _ _ => by kernel_rfl)
          refine ty_take 9 116 (.int .i64 (IntKind.wrap .i64 ((n : Int) + 1))) (pok_cont pok_body) ?_ M104 (fun _ _ _ => by kernel_rfl)
          rw [show IntKind.wrap .i64 ((n : Int) + 1) = (((n + 1) : Nat) : Int) from wr_nat n 1 (by omega)]
          obtain ⟨A109, hr110, hA111, hle112⟩ := cutf (P := Try.prog) (d := kFn) Try.underlying43 (by kernel_rfl) (some ad54) p c (n + 1) .i64 (by first | omega | (rw [List.length_set]; omega)) hcp
          refine ty_take 10 117 (.slice A109 (p.drop (n + 1)).length (c - (n + 1))) (pok_cont pok_body) ?_ M104 (fun w' _ _ => exec_slice rfl rfl rfl rfl (hr110 w'))
          refine ty_take 11 118 (.agg #[.slice A109 (p.drop (n + 1)).length (c - (n + 1))]) (pok_cont pok_body) ?_ M104 (fun _ _ _ => by kernel_rfl)
          refine ty_all (rs := [12]) (te_one ?_)
          refine te_cb M104 119 (rsame_any A105 (c38 - (n + 1)) ((p.set n f).drop (n + 1)) A109 (c - (n + 1)) (p.drop (n + 1)) _ (hA107 _ (M104.row_C 4 rfl)) (hA111 _ (C_up M104 hC))) (fun _ hb _ M' => M'.call hb) fun w113 hb115 M114 => ?_
          refine ty_take 13 15 (.bool (decide (((p.set n f).drop (n + 1)) = (p.drop (n + 1))))) (pok_cont pok_body) ?_ M114 (fun _ _ _ => by kernel_rfl)
          refine ty_endL ?_
          refine tn_code (tc_seq (tc_region ?_))
          refine sg 6 [3, 9, 11, 14, 15, 125] [(3, .pointer (some ⟨b1, 0, none⟩)), (9, .pointer (some ⟨b41, 0, none⟩)), (11, .pointer (some ⟨b72, 0, none⟩)), (14, .bool (decide (((p.set n f).take n) = (p.take n)))), (15, .bool (decide (((p.set n f).drop (n + 1)) = (p.drop (n + 1))))), (125, .bool (decide ((((p.set n f).take (n + 1)).drop n) = [f])))] ?_
          have ht116 : (decide ((((p.set n f).take (n + 1)).drop n) = [f]) : Bool) = true := decide_eq_true (cut_own hn)
          have ht116p := of_decide_eq_true ht116
          rw [ht116]
          refine sg 3 [3, 9, 11, 15, 128] [(3, .pointer (some ⟨b1, 0, none⟩)), (9, .pointer (some ⟨b41, 0, none⟩)), (11, .pointer (some ⟨b72, 0, none⟩)), (15, .bool (decide (((p.set n f).drop (n + 1)) = (p.drop (n + 1))))), (128, .bool (decide (((p.set n f).take n) = (p.take n))))] ?_
          have ht117 : (decide (((p.set n f).take n) = (p.take n)) : Bool) = true := decide_eq_true (cut_low p f n)
          have ht117p := of_decide_eq_true ht117
          rw [ht117]
          refine sg 3 [3, 9, 11, 131] [(3, .pointer (some ⟨b1, 0, none⟩)), (9, .pointer (some ⟨b41, 0, none⟩)), (11, .pointer (some ⟨b72, 0, none⟩)), (131, .bool (decide (((p.set n f).drop (n + 1)) = (p.drop (n + 1)))))] ?_
          have ht118 : (decide (((p.set n f).drop (n + 1)) = (p.drop (n + 1))) : Bool) = true := decide_eq_true (cut_high p f n)
          have ht118p := of_decide_eq_true ht118
          rw [ht118]
          refine la M114 1 132 #[.slice A68 p.length c69] (hu := Try.underlying45) ?_
          refine la M114 6 133 #[.slice (some ad54) p.length c] (hu := Try.underlying45) ?_
          refine cb M114 134 (rsame_any A68 c69 p (some ad54) c p _ (M114.row_C 2 rfl) (C_up M114 hC)) fun w119 hb121 M120 => ?_
          refine sg 2 [9, 136] [(9, .pointer (some ⟨b41, 0, none⟩)), (136, .bool (decide (p = p)))] ?_
          have ht122 : (decide (p = p) : Bool) = true := decide_eq_true rfl
          have ht122p := of_decide_eq_true ht122
          rw [ht122]
          refine la M120 3 137 #[.slice A37 (p.set n f).length c38] (hu := Try.underlying45) ?_
          refine cb M120 138 (pmay_any (p.set n f) A37 c38 _ (M120.row_C 4 rfl)) fun w123 hb125 M124 => ?_
          refine sg 2 [6] [(6, .bool (progMay (p.set n f)))] ?_
          refine to_end rfl (tn_code (tc_ret ?_))
          refine tr_tmp rfl rfl ?_
          have ht126 : (progMay (p.set n f) : Bool) = true := set_may hp hf hn ha
          exact ⟨congrArg Ending.returned (congrArg Value.bool (by first | exact ht126 | (rw [ht126]; rfl))), M124.below⟩
        · refine te_new M63 11 #[.slice none 0 0] 45 (fun _ hb _ M' => M'.call hb) fun b127 w128 M129 => ?_
          refine ty_all (rs := [7]) (te_one ?_)
          have hs130 := swap_any (p.set n f) (n : Int) (p.getD n Fn.z) A37 c38 A58 c59 w128 (M129.row_C 2 rfl) (C_up M129 hC61) hl60
          rw [swap_back hp hf hn ha] at hs130
          refine te_ce 82 (hs130) fun e131 w132 h133 => ?_
          obtain ⟨A134, c135, rfl, hM136⟩ := h133
          have M137 := M129.join hM136
          refine ⟨_, rfl, fun _ _ => ((M137.drop 1).drop 0), ?_⟩
          refine ty_take 8 74 (.tuple #[.agg #[.slice A134 p.length c135], .int .i64 0]) (pok_cont pok_body) ?_ ((M137.drop 1).drop 0) (fun _ _ _ => by kernel_rfl)
          refine ty_take 9 83 (.agg #[.slice A134 p.length c135]) (pok_cont pok_body) ?_ ((M137.drop 1).drop 0) (fun _ _ _ => by kernel_rfl)
          refine ty_take 10 84 (.int .i64 0) (pok_cont pok_body) ?_ ((M137.drop 1).drop 0) (fun _ _ _ => by kernel_rfl)
          refine ty_all (rs := [12]) (te_one ?_)
          refine te_sa M137 1 #[.slice A134 p.length c135] (fun _ M_ _ _ => ((M_.drop 1).drop 0)) fun w138 M139 => ?_
          refine ty_take 13 12 (.int .i64 0) (pok_cont pok_body) ?_ ((M139.drop 1).drop 0) (fun _ _ _ => by kernel_rfl)
          refine ty_endL ?_
          refine tn_code (tc_seq ?_)
          refine tc_drawL (fun w' => Mem w w' ([row kFn 57 (.slice A134 p.length c135) p, blk b127 #[.slice A134 p.length c135] 45, blk b41 #[.slice A37 (p.set n f).length c38] 45, row kFn 57 (.slice A37 (p.set n f).length c38) (p.set n f), blk b4 #[.int .i64 f.args, .slice Af f.code.length cf] 57, blk b1 #[.slice (some ad54) p.length c] 45])) [] (by kernel_rfl) ?_
          have M142 := M139.draw
          refine ty_take 0 85 (.pointer (some ⟨b41, 0, none⟩)) (pok_cont pok_body) ?_ M142 (fun _ _ _ => by kernel_rfl)
          refine ty_take 1 86 (.slice A37 (p.set n f).length c38) (pok_cont pok_body) ?_ M142 (fun _ M' _ => rl M' 2)
          refine ty_take 2 87 (.int .i64 (n : Int)) (pok_cont pok_body) ?_ M142 (fun _ _ _ => by kernel_rfl)
          refine ty_take 3 88 (.int .i64 (n : Int)) (pok_cont pok_body) ?_ M142 (fun _ _ _ => by kernel_rfl)
          refine ty_take 4 89 (.int .i64 (IntKind.wrap .i64 ((n : Int) + 1))) (pok_cont pok_body) ?_ M142 (fun _ _ _ => by kernel_rfl)
          rw [show IntKind.wrap .i64 ((n : Int) + 1) = (((n + 1) : Nat) : Int) from wr_nat n 1 (by omega)]
          obtain ⟨A143, hr144, hA145, hle146⟩ := cutm (P := Try.prog) (d := kFn) Try.underlying43 (by kernel_rfl) A37 (p.set n f) c38 n (n + 1) .i64 .i64 (by first | omega | (rw [List.length_set]; omega)) (by first | omega | (rw [List.length_set]; omega)) (M142.row_cap 3 rfl)
          refine ty_take 5 90 (.slice A143 (((p.set n f).take (n + 1)).drop n).length (c38 - n)) (pok_cont pok_body) ?_ M142 (fun w' _ _ => exec_slice rfl rfl rfl rfl (hr144 w'))
          refine ty_take 6 91 (.agg #[.slice A143 (((p.set n f).take (n + 1)).drop n).length (c38 - n)]) (pok_cont pok_body) ?_ M142 (fun _ _ _ => by kernel_rfl)
          refine ty_take 7 92 (.agg #[.int .i64 f.args, .slice Af f.code.length cf]) (pok_cont pok_body) ?_ M142 (fun _ M' _ => rla M' 4 (vs := #[.int .i64 f.args, .slice Af f.code.length cf]) Try.underlying57)
          refine ty_all (rs := [8]) (te_one ?_)
          have M150 := M142.flat (d := kMix) (x := (Sum.inr (f.args, Af, f.code.length, cf) : MixE)) (cs := [.int .i64 f.args, .slice Af f.code.length cf]) (fun _ => rfl)
          refine te_bs1 (x := (Sum.inr (f.args, Af, f.code.length, cf) : MixE)) (cs := #[.int .i64 f.args, .slice Af f.code.length cf]) M150 93 57 (fun _ _ M_ _ _ => (M_.drop 0)) fun b147 w148 M149 => ?_
          refine ty_take 9 94 (.agg #[.slice (some ⟨b147, 0, none⟩) 1 1]) (pok_cont pok_body) ?_ (M149.drop 0) (fun _ _ _ => by kernel_rfl)
          refine ty_all (rs := [10]) (te_one ?_)
          refine te_cb M149 95 (rsame_any A143 (c38 - n) (((p.set n f).take (n + 1)).drop n) (some ⟨b147, 0, none⟩) 1 [f] _ (hA145 _ (M149.row_C 4 rfl)) (one_C (M149.row_C 0 rfl) (C_up M149 hF) hcf)) (fun _ hb _ M' => M'.call hb) fun w151 hb153 M152 => ?_
          refine ty_take 11 13 (.bool (decide ((((p.set n f).take (n + 1)).drop n) = [f]))) (pok_cont pok_body) ?_ (M152.drop 0) (fun _ _ _ => by kernel_rfl)
          refine ty_endL ?_
          refine tn_code (tc_seq ?_)
          refine tc_drawL (fun w' => Mem w w' ([row kMix 57 (.slice (some ⟨b147, 0, none⟩) 1 1) [(Sum.inr (f.args, Af, f.code.length, cf) : MixE)], row kFn 57 (.slice A134 p.length c135) p, blk b127 #[.slice A134 p.length c135] 45, blk b41 #[.slice A37 (p.set n f).length c38] 45, row kFn 57 (.slice A37 (p.set n f).length c38) (p.set n f), blk b4 #[.int .i64 f.args, .slice Af f.code.length cf] 57, blk b1 #[.slice (some ad54) p.length c] 45])) [] (by kernel_rfl) ?_
          have M155 := M152.draw
          refine ty_take 0 96 (.pointer (some ⟨b41, 0, none⟩)) (pok_cont pok_body) ?_ M155 (fun _ _ _ => by kernel_rfl)
          refine ty_take 1 97 (.slice A37 (p.set n f).length c38) (pok_cont pok_body) ?_ M155 (fun _ M' _ => rl M' 3)
          refine ty_take 2 98 (.int .i64 (n : Int)) (pok_cont pok_body) ?_ M155 (fun _ _ _ => by kernel_rfl)
          obtain ⟨A156, hr157, hA158, hle159⟩ := cutt (P := Try.prog) (d := kFn) Try.underlying43 (by kernel_rfl) A37 (p.set n f) c38 n .i64 (by first | omega | (rw [List.length_set]; omega)) (M155.row_cap 4 rfl)
          refine ty_take 3 99 (.slice A156 ((p.set n f).take n).length c38) (pok_cont pok_body) ?_ M155 (fun w' _ _ => exec_slice rfl rfl rfl rfl (hr157 w'))
          refine ty_take 4 100 (.agg #[.slice A156 ((p.set n f).take n).length c38]) (pok_cont pok_body) ?_ M155 (fun _ _ _ => by kernel_rfl)
          refine ty_take 5 101 (.pointer (some ⟨b1, 0, none⟩)) (pok_cont pok_body) ?_ M155 (fun _ _ _ => by kernel_rfl)
          refine ty_take 6 102 (.slice (some ad54) p.length c) (pok_cont pok_body) ?_ M155 (fun _ M' _ => rl M' 6)
          refine ty_take 7 103 (.int .i64 (n : Int)) (pok_cont pok_body) ?_ M155 (fun _ _ _ => by kernel_rfl)
          obtain ⟨A160, hr161, hA162, hle163⟩ := cutt (P := Try.prog) (d := kFn) Try.underlying43 (by kernel_rfl) (some ad54) p c n .i64 (by first | omega | (rw [List.length_set]; omega)) hcp
          refine ty_take 8 104 (.slice A160 (p.take n).length c) (pok_cont pok_body) ?_ M155 (fun w' _ _ => exec_slice rfl rfl rfl rfl (hr161 w'))
          refine ty_take 9 105 (.agg #[.slice A160 (p.take n).length c]) (pok_cont pok_body) ?_ M155 (fun _ _ _ => by kernel_rfl)
          refine ty_all (rs := [10]) (te_one ?_)
          refine te_cb M155 106 (rsame_any A156 c38 ((p.set n f).take n) A160 c (p.take n) _ (hA158 _ (M155.row_C 4 rfl)) (hA162 _ (C_up M155 hC))) (fun _ hb _ M' => M'.call hb) fun w164 hb166 M165 => ?_
          refine ty_take 11 14 (.bool (decide (((p.set n f).take n) = (p.take n)))) (pok_cont pok_body) ?_ M165 (fun _ _ _ => by kernel_rfl)
          refine ty_endL ?_
          refine tn_code (tc_seq ?_)
          refine tc_drawL (fun w' => Mem w w' ([row kMix 57 (.slice (some ⟨b147, 0, none⟩) 1 1) [(Sum.inr (f.args, Af, f.code.length, cf) : MixE)], row kFn 57 (.slice A134 p.length c135) p, blk b127 #[.slice A134 p.length c135] 45, blk b41 #[.slice A37 (p.set n f).length c38] 45, row kFn 57 (.slice A37 (p.set n f).length c38) (p.set n f), blk b4 #[.int .i64 f.args, .slice Af f.code.length cf] 57, blk b1 #[.slice (some ad54) p.length c] 45])) [] (by kernel_rfl) ?_
          have M167 := M165.draw
          refine ty_take 0 107 (.pointer (some ⟨b41, 0, none⟩)) (pok_cont pok_body) ?_ M167 (fun _ _ _ => by kernel_rfl)
          refine ty_take 1 108 (.slice A37 (p.set n f).length c38) (pok_cont pok_body) ?_ M167 (fun _ M' _ => rl M' 3)
          refine ty_take 2 109 (.int .i64 (n : Int)) (pok_cont pok_body) ?_ M167 (fun _ _ _ => by kernel_rfl)
          refine ty_take 3 110 (.int .i64 (IntKind.wrap .i64 ((n : Int) + 1))) (pok_cont pok_body) ?_ M167 (fun _ _ _ => by kernel_rfl)
          rw [show IntKind.wrap .i64 ((n : Int) + 1) = (((n + 1) : Nat) : Int) from wr_nat n 1 (by omega)]
          obtain ⟨A168, hr169, hA170, hle171⟩ := cutf (P := Try.prog) (d := kFn) Try.underlying43 (by kernel_rfl) A37 (p.set n f) c38 (n + 1) .i64 (by first | omega | (rw [List.length_set]; omega)) (M167.row_cap 4 rfl)
          refine ty_take 4 111 (.slice A168 ((p.set n f).drop (n + 1)).length (c38 - (n + 1))) (pok_cont pok_body) ?_ M167 (fun w' _ _ => exec_slice rfl rfl rfl rfl (hr169 w'))
          refine ty_take 5 112 (.agg #[.slice A168 ((p.set n f).drop (n + 1)).length (c38 - (n + 1))]) (pok_cont pok_body) ?_ M167 (fun _ _ _ => by kernel_rfl)
          refine ty_take 6 113 (.pointer (some ⟨b1, 0, none⟩)) (pok_cont pok_body) ?_ M167 (fun _ _ _ => by kernel_rfl)
          refine ty_take 7 114 (.slice (some ad54) p.length c) (pok_cont pok_body) ?_ M167 (fun _ M' _ => rl M' 6)
          refine ty_take 8 115 (.int .i64 (n : Int)) (pok_cont pok_body) ?_ M167 (fun _ _ _ => by kernel_rfl)
          refine ty_take 9 116 (.int .i64 (IntKind.wrap .i64 ((n : Int) + 1))) (pok_cont pok_body) ?_ M167 (fun _ _ _ => by kernel_rfl)
          rw [show IntKind.wrap .i64 ((n : Int) + 1) = (((n + 1) : Nat) : Int) from wr_nat n 1 (by omega)]
          obtain ⟨A172, hr173, hA174, hle175⟩ := cutf (P := Try.prog) (d := kFn) Try.underlying43 (by kernel_rfl) (some ad54) p c (n + 1) .i64 (by first | omega | (rw [List.length_set]; omega)) hcp
          refine ty_take 10 117 (.slice A172 (p.drop (n + 1)).length (c - (n + 1))) (pok_cont pok_body) ?_ M167 (fun w' _ _ => exec_slice rfl rfl rfl rfl (hr173 w'))
          refine ty_take 11 118 (.agg #[.slice A172 (p.drop (n + 1)).length (c - (n + 1))]) (pok_cont pok_body) ?_ M167 (fun _ _ _ => by kernel_rfl)
          refine ty_all (rs := [12]) (te_one ?_)
          refine te_cb M167 119 (rsame_any A168 (c38 - (n + 1)) ((p.set n f).drop (n + 1)) A172 (c - (n + 1)) (p.drop (n + 1)) _ (hA170 _ (M167.row_C 4 rfl)) (hA174 _ (C_up M167 hC))) (fun _ hb _ M' => M'.call hb) fun w176 hb178 M177 => ?_
          refine ty_take 13 15 (.bool (decide (((p.set n f).drop (n + 1)) = (p.drop (n + 1))))) (pok_cont pok_body) ?_ M177 (fun _ _ _ => by kernel_rfl)
          refine ty_endL ?_
          refine tn_code (tc_seq (tc_region ?_))
          refine sg 6 [3, 9, 11, 14, 15, 125] [(3, .pointer (some ⟨b1, 0, none⟩)), (9, .pointer (some ⟨b41, 0, none⟩)), (11, .pointer (some ⟨b127, 0, none⟩)), (14, .bool (decide (((p.set n f).take n) = (p.take n)))), (15, .bool (decide (((p.set n f).drop (n + 1)) = (p.drop (n + 1))))), (125, .bool (decide ((((p.set n f).take (n + 1)).drop n) = [f])))] ?_
          have ht179 : (decide ((((p.set n f).take (n + 1)).drop n) = [f]) : Bool) = true := decide_eq_true (cut_own hn)
          have ht179p := of_decide_eq_true ht179
          rw [ht179]
          refine sg 3 [3, 9, 11, 15, 128] [(3, .pointer (some ⟨b1, 0, none⟩)), (9, .pointer (some ⟨b41, 0, none⟩)), (11, .pointer (some ⟨b127, 0, none⟩)), (15, .bool (decide (((p.set n f).drop (n + 1)) = (p.drop (n + 1))))), (128, .bool (decide (((p.set n f).take n) = (p.take n))))] ?_
          have ht180 : (decide (((p.set n f).take n) = (p.take n)) : Bool) = true := decide_eq_true (cut_low p f n)
          have ht180p := of_decide_eq_true ht180
          rw [ht180]
          refine sg 3 [3, 9, 11, 131] [(3, .pointer (some ⟨b1, 0, none⟩)), (9, .pointer (some ⟨b41, 0, none⟩)), (11, .pointer (some ⟨b127, 0, none⟩)), (131, .bool (decide (((p.set n f).drop (n + 1)) = (p.drop (n + 1)))))] ?_
          have ht181 : (decide (((p.set n f).drop (n + 1)) = (p.drop (n + 1))) : Bool) = true := decide_eq_true (cut_high p f n)
          have ht181p := of_decide_eq_true ht181
          rw [ht181]
          refine la M177 2 132 #[.slice A134 p.length c135] (hu := Try.underlying45) ?_
          refine la M177 6 133 #[.slice (some ad54) p.length c] (hu := Try.underlying45) ?_
          refine cb M177 134 (rsame_any A134 c135 p (some ad54) c p _ (M177.row_C 1 rfl) (C_up M177 hC)) fun w182 hb184 M183 => ?_
          refine sg 2 [9, 136] [(9, .pointer (some ⟨b41, 0, none⟩)), (136, .bool (decide (p = p)))] ?_
          have ht185 : (decide (p = p) : Bool) = true := decide_eq_true rfl
          have ht185p := of_decide_eq_true ht185
          rw [ht185]
          refine la M183 3 137 #[.slice A37 (p.set n f).length c38] (hu := Try.underlying45) ?_
          refine cb M183 138 (pmay_any (p.set n f) A37 c38 _ (M183.row_C 4 rfl)) fun w186 hb188 M187 => ?_
          refine sg 2 [6] [(6, .bool (progMay (p.set n f)))] ?_
          refine to_end rfl (tn_code (tc_ret ?_))
          refine tr_tmp rfl rfl ?_
          have ht189 : (progMay (p.set n f) : Bool) = true := set_may hp hf hn ha
          exact ⟨congrArg Ending.returned (congrArg Value.bool (by first | exact ht189 | (rw [ht189]; rfl))), M187.below⟩
end Go.Proofs.Ytfknhbgghpbkpaa
