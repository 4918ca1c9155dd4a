/- What is compared. -/
import Derived.Test.YtfknhbgghpbkpaaSame0
namespace Go.Proofs.Ytfknhbgghpbkpaa
open Go.RowKit Cal Go.Proofs.YtfknhbgghpbkpaaW.PrintWords
theorem bytes_any (A : Option Addr) (c : Nat) (xs : List Int) (A' : Option Addr) (c' : Nat) (ys : List Int) (w : World) (hC : kB.C w A xs.length xs) (hD : kB.C w A' ys.length ys) : Calls Try.prog 48 #[.slice A xs.length c, .slice A' ys.length c'] w fun e w' => e = .returned (.bool (decide (xs = ys))) ∧ Below w.heap.size w w' := by
  have M := Mem.refl w
  have hmx := C_max hC
  refine calls_tc (N := 26) (args := [.slice A xs.length c, .slice A' ys.length c']) Try.func48 rfl rfl rfl ?_
  refine tc_seq (tc_region ?_)
  refine sg 1 [0, 1] [(0, .slice A xs.length c), (1, .slice A' ys.length c')] ?_
  refine to_end rfl (tn_code (tc_seq (tc_seq (tc_region ?_))))
  refine sg 5 [0, 1, 10] [(0, .slice A xs.length c), (1, .slice A' ys.length c'), (10, .bool ((xs.length : Int) != (ys.length : Int)))] ?_
  refine to_end rfl (tn_code ?_)
  refine tc_cond (b := (xs.length : Int) != (ys.length : Int)) (fun _ => rfl) (fun h1 => ?_) (fun h1 => ?_)
  · have h1p := bne_iff_ne.1 h1
    refine tc_seq (tc_region ?_)
    refine sg 1 [4] [(4, .bool false)] ?_
    refine to_end rfl (tn_code (tc_ret ?_))
    refine tr_tmp rfl rfl ?_
    exact ⟨congrArg Ending.returned (congrArg Value.bool (by rw [eq_comm, decide_eq_false_iff_not]; intro he_; rw [he_] at h1p; exact h1p rfl)), M.below⟩
  · have h1p := bne_eq_false_iff_eq.1 h1
    refine tc_skip (tn_code (tc_seq (tc_seq (tc_region ?_))))
    refine sg 1 [0, 1, 5] [(0, .slice A xs.length c), (1, .slice A' ys.length c'), (5, .int .i64 0)] ?_
    refine to_end rfl (tn_code (tc_block ?_))
    refine tc_loop (σ := Nat) (fun k2 => [(0, .slice A xs.length c), (1, .slice A' ys.length c'), (5, .int .i64 (k2 : Int))]) (fun k2 w' => k2 ≤ xs.length ∧ (∀ j, j < k2 → xs.getD j (0 : Int) = ys.getD j (0 : Int)) ∧ Mem w w' []) (fun k2 => xs.length - k2) 0 (Sub.cons rfl (Sub.cons rfl (Sub.cons rfl (Sub.nil _)))) ⟨Nat.zero_le _, fun j hj => absurd hj (Nat.not_lt_zero _), M⟩ ?_
    rintro k2 w5 ⟨hk3, hi4, M6⟩
    refine tc_seq (tc_seq (tc_region ?_))
    refine sg 4 [0, 1, 5, 14] [(0, .slice A xs.length c), (1, .slice A' ys.length c'), (5, .int .i64 (k2 : Int)), (14, .bool (decide ((k2 : Int) < (xs.length : Int))))] ?_
    refine to_end rfl (tn_code ?_)
    refine tc_cond (b := decide ((k2 : Int) < (xs.length : Int))) (fun _ => rfl) (fun h7 => ?_) (fun h7 => ?_)
    · have h7p := of_decide_eq_true h7
      refine tc_skip (tn_code (tc_seq (tc_block (tc_seq ?_))))
      refine tc_drawL (fun w' => Mem w w' ([])) [] (by kernel_rfl) ?_
      have M8 := M6.draw
      refine ty_take 0 17 (.slice A xs.length c) (pok_cont pok_body) ?_ M8 (fun _ _ _ => by kernel_rfl)
      refine ty_take 1 18 (.int .i64 (k2 : Int)) (pok_cont pok_body) ?_ M8 (fun _ _ _ => by kernel_rfl)
      obtain ⟨ad9, rfl⟩ := C_some hC (k := k2) (by omega)
      refine ty_take 2 19 (.pointer (some (ad9.add (k2 * 1)))) (pok_cont pok_body) ?_ M8 (fun _ _ _ => ri (ad := ad9) (n := xs.length) (c := c) k2 1 (by omega) Try.underlying71)
      obtain ⟨cs12, hk10, hc11⟩ := C_cell hC (0 : Int) k2 (by omega)
      obtain rfl := kB_open hk10
      refine ty_take 3 20 (.int .u8 (xs.getD k2 (0 : Int))) (pok_cont pok_body) ?_ M8 (fun _ M' _ => re (cell_up M' (hc11 0 _ rfl)))
      refine ty_take 4 21 (.slice A' ys.length c') (pok_cont pok_body) ?_ M8 (fun _ _ _ => by kernel_rfl)
      refine ty_take 5 22 (.int .i64 (k2 : Int)) (pok_cont pok_body) ?_ M8 (fun _ _ _ => by kernel_rfl)
      obtain ⟨ad13, rfl⟩ := C_some hD (k := k2) (by omega)
      refine ty_take 6 23 (.pointer (some (ad13.add (k2 * 1)))) (pok_cont pok_body) ?_ M8 (fun _ _ _ => ri (ad := ad13) (n := ys.length) (c := c') k2 1 (by omega) Try.underlying71)
      obtain ⟨cs16, hk14, hc15⟩ := C_cell hD (0 : Int) k2 (by omega)
      obtain rfl := kB_open hk14
      refine ty_take 7 24 (.int .u8 (ys.getD k2 (0 : Int))) (pok_cont pok_body) ?_ M8 (fun _ M' _ => re (cell_up M' (hc15 0 _ rfl)))
      refine ty_take 8 25 (.bool ((xs.getD k2 (0 : Int)) != (ys.getD k2 (0 : Int)))) (pok_cont pok_body) ?_ M8 (fun _ _ _ => by kernel_rfl)
      refine ty_endL ?_
      refine tn_code ?_
      refine tc_cond (b := (xs.getD k2 (0 : Int)) != (ys.getD k2 (0 : Int))) (fun _ => rfl) (fun h17 => ?_) (fun h17 => ?_)
      · have h17p := bne_iff_ne.1 h17
        refine tc_seq (tc_region ?_)
        refine sg 1 [4] [(4, .bool false)] ?_
        refine to_end rfl (tn_code (tc_ret ?_))
        refine tr_tmp rfl rfl ?_
        exact ⟨congrArg Ending.returned (congrArg Value.bool (by rw [eq_comm, decide_eq_false_iff_not]; intro he_; rw [he_] at h17; simp at h17)), M8.below⟩
      · have h17p := bne_eq_false_iff_eq.1 h17
        refine tc_skip (tn_blk (tn_code (tc_region ?_)))
        refine sg 3 [0, 1, 5] [(0, .slice (some ad9) xs.length c), (1, .slice (some ad13) ys.length c'), (5, .int .i64 (IntKind.wrap .i64 ((k2 : Int) + 1)))] ?_
        rw [show IntKind.wrap .i64 ((k2 : Int) + 1) = (((k2 + 1) : Nat) : Int) from wr_nat k2 1 (by omega)]
        refine to_end rfl ?_
        exact tn_back (k2 + 1) (Sub.cons rfl (Sub.cons rfl (Sub.cons rfl (Sub.nil _)))) ⟨by omega, ext_step hi4 (bne_eq_false_iff_eq.1 h17), M8⟩ (by omega)
    · have h7p := of_decide_eq_false h7
      refine tc_exitK (k' := _) rfl (tn_code (tc_seq (tc_region ?_)))
      refine sg 1 [4] [(4, .bool true)] ?_
      refine to_end rfl (tn_code (tc_ret ?_))
      refine tr_tmp rfl rfl ?_
      exact ⟨congrArg Ending.returned (congrArg Value.bool (by rw [eq_comm, decide_eq_true_iff]; exact ext_getD (0 : Int) (by omega) (fun j hj => hi4 j (by omega)))), M6.below⟩

theorem few_any (p : List Fn) (A : Option Addr) (c : Nat) (w : World) (hC : kFn.C w A p.length p) : Calls Try.prog 36 #[.agg #[.slice A p.length c]] w fun e w' => e = .returned (.bool (fewB p)) ∧ Below w.heap.size w w' := by
  have M := Mem.refl w
  have hmx := C_max hC
  refine calls_tc (N := 28) (args := [.agg #[.slice A p.length c]]) Try.func36 rfl rfl rfl ?_
  refine tc_seq (tc_region ?_)
  refine nw M 1 #[.slice A p.length c] 45 fun b1 w2 M3 => ?_
  refine sg 1 [1] [(1, .pointer (some ⟨b1, 0, none⟩))] ?_
  refine to_end rfl (tn_code (tc_seq (tc_region ?_)))
  refine sg 1 [1, 5] [(1, .pointer (some ⟨b1, 0, none⟩)), (5, .pointer (some ⟨b1, 0, none⟩))] ?_
  refine ld M3 0 6 (.slice A p.length c) ?_
  refine sg 3 [1, 3] [(1, .pointer (some ⟨b1, 0, none⟩)), (3, .bool (decide ((p.length : Int) ≤ 12)))] ?_
  refine to_end rfl (tn_code (tc_seq (tc_seq (tc_region ?_))))
  refine sg 1 [1, 3, 4] [(1, .pointer (some ⟨b1, 0, none⟩)), (3, .bool (decide ((p.length : Int) ≤ 12))), (4, .int .i64 0)] ?_
  refine to_end rfl (tn_code (tc_block ?_))
  refine tc_loop (σ := Nat × Bool) (fun s_ => match s_ with | (i4, sm5) => [(1, .pointer (some ⟨b1, 0, none⟩)), (4, .int .i64 (i4 : Int)), (3, .bool sm5)]) (fun s_ w' => match s_ with | (i4, sm5) => (i4 ≤ p.length ∧ sm5 = fewTo p i4) ∧ Mem w w' ([blk b1 #[.slice A p.length c] 45])) (fun s_ => match s_ with | (i4, sm5) => p.length - i4) (0, decide ((p.length : Int) ≤ 12)) (Sub.cons rfl (Sub.cons rfl (Sub.cons rfl (Sub.nil _)))) ⟨⟨Nat.zero_le _, (fewTo_zero p).symm⟩, M3⟩ ?_
  rintro ⟨i4, sm5⟩ w7 ⟨hi9, M8⟩
  obtain ⟨hq1, hq2⟩ := hi9
  refine tc_seq (tc_seq (tc_region ?_))
  refine sg 2 [1, 4, 3, 9, 10] [(1, .pointer (some ⟨b1, 0, none⟩)), (4, .int .i64 (i4 : Int)), (3, .bool sm5), (9, .int .i64 (i4 : Int)), (10, .pointer (some ⟨b1, 0, none⟩))] ?_
  refine ld M8 0 11 (.slice A p.length c) ?_
  refine sg 3 [1, 4, 3, 14] [(1, .pointer (some ⟨b1, 0, none⟩)), (4, .int .i64 (i4 : Int)), (3, .bool sm5), (14, .bool (decide ((i4 : Int) < (p.length : Int))))] ?_
  rcases h10 : (decide ((i4 : Int) < (p.length : Int)) : Bool) with _ | _
  · have h10p := of_decide_eq_false h10
    refine sg 2 [1, 4, 3, 16] [(1, .pointer (some ⟨b1, 0, none⟩)), (4, .int .i64 (i4 : Int)), (3, .bool sm5), (16, .bool false)] ?_
    refine to_end rfl (tn_code (tc_cond_f (fun _ => rfl) (tc_exitK (k' := _) rfl (tn_code (tc_seq (tc_region ?_))))))
    refine sg 2 [2] [(2, .bool sm5)] ?_
    refine to_end rfl (tn_code (tc_ret ?_))
    refine tr_tmp rfl rfl ?_
    exact ⟨congrArg Ending.returned (congrArg Value.bool (by rw [hq2]; exact fewTo_all (by omega))), M8.below⟩
  · have h10p := of_decide_eq_true h10
    refine sg 2 [1, 4, 3, 16] [(1, .pointer (some ⟨b1, 0, none⟩)), (4, .int .i64 (i4 : Int)), (3, .bool sm5), (16, .bool sm5)] ?_
    refine to_end rfl (tn_code ?_)
    refine tc_cond (b := sm5) (fun _ => rfl) (fun h11 => ?_) (fun h11 => ?_)
    · refine tc_skip (tn_code (tc_seq (tc_block (tc_region ?_))))
      refine sg 1 [1, 4, 19] [(1, .pointer (some ⟨b1, 0, none⟩)), (4, .int .i64 (i4 : Int)), (19, .pointer (some ⟨b1, 0, none⟩))] ?_
      refine ld M8 0 20 (.slice A p.length c) ?_
      refine sg 1 [1, 4, 20, 21] [(1, .pointer (some ⟨b1, 0, none⟩)), (4, .int .i64 (i4 : Int)), (20, .slice A p.length c), (21, .int .i64 (i4 : Int))] ?_
      obtain ⟨ad12, rfl⟩ := C_some hC (k := i4) (by omega)
      refine ix (ad := ad12) (n := p.length) (c := c) 22 i4 2 (by omega) Try.underlying43 ?_
      refine sg 1 [1, 4, 23] [(1, .pointer (some ⟨b1, 0, none⟩)), (4, .int .i64 (i4 : Int)), (23, .pointer (some ((ad12.add (i4 * 2)).add 1)))] ?_
      obtain ⟨cs15, hk13, hc14⟩ := C_cell hC Fn.z i4 (by omega)
      obtain ⟨A16, c17, rfl, hl18, hC19⟩ := kFn_open hk13
      refine le 24 (.slice A16 (p.getD i4 Fn.z).code.length c17) (cell_up M8 (hc14 1 _ rfl)) ?_
      refine sg 3 [1, 4, 3] [(1, .pointer (some ⟨b1, 0, none⟩)), (4, .int .i64 (i4 : Int)), (3, .bool (decide (((p.getD i4 Fn.z).code.length : Int) ≤ 80)))] ?_
      refine to_end rfl (tn_blk (tn_code (tc_region ?_)))
      refine sg 3 [1, 4, 3] [(1, .pointer (some ⟨b1, 0, none⟩)), (4, .int .i64 (IntKind.wrap .i64 ((i4 : Int) + 1))), (3, .bool (decide (((p.getD i4 Fn.z).code.length : Int) ≤ 80)))] ?_
      rw [show IntKind.wrap .i64 ((i4 : Int) + 1) = (((i4 + 1) : Nat) : Int) from wr_nat i4 1 (by omega)]
      refine to_end rfl ?_
      rw [fewTo_step (p := p) (k := i4) (by omega) (by rw [← hq2]; exact h11)]
      exact tn_back (s := (i4, sm5)) (i4 + 1, fewTo p (i4 + 1)) (Sub.cons rfl (Sub.cons rfl (Sub.cons rfl (Sub.nil _)))) ⟨⟨by omega, rfl⟩, M8⟩ (by simp only; omega)
    · refine tc_exitK (k' := _) rfl (tn_code (tc_seq (tc_region ?_)))
      refine sg 2 [2] [(2, .bool sm5)] ?_
      refine to_end rfl (tn_code (tc_ret ?_))
      refine tr_tmp rfl rfl ?_
      exact ⟨congrArg Ending.returned (congrArg Value.bool (by first | (rw [h11]; exact (fewTo_no (k := i4) (by rw [← hq2]; exact h11)).symm) | exact (fewTo_no (k := i4) (by rw [← hq2]; exact h11)).symm)), M8.below⟩

theorem equal_inst (A : Option Addr) (c : Nat) (xs : List Inst) (A' : Option Addr) (c' : Nat) (ys : List Inst) (w : World) (hC : kInst.C w A xs.length xs) (hD : kInst.C w A' ys.length ys) : Calls Try.prog 97 #[.slice A xs.length c, .slice A' ys.length c'] w fun e w' => e = .returned (.bool (decide (xs = ys))) ∧ Below w.heap.size w w' := by
  have M := Mem.refl w
  have hmx := C_max hC
  refine calls_tc (N := 26) (args := [.slice A xs.length c, .slice A' ys.length c']) Try.func97 rfl rfl rfl ?_
  refine tc_seq (tc_region ?_)
  refine sg 1 [0, 1] [(0, .slice A xs.length c), (1, .slice A' ys.length c')] ?_
  refine to_end rfl (tn_code (tc_seq (tc_seq (tc_region ?_))))
  refine sg 5 [0, 1, 10] [(0, .slice A xs.length c), (1, .slice A' ys.length c'), (10, .bool ((xs.length : Int) != (ys.length : Int)))] ?_
  refine to_end rfl (tn_code ?_)
  refine tc_cond (b := (xs.length : Int) != (ys.length : Int)) (fun _ => rfl) (fun h1 => ?_) (fun h1 => ?_)
  · have h1p := bne_iff_ne.1 h1
    refine tc_seq (tc_region ?_)
    refine sg 1 [4] [(4, .bool false)] ?_
    refine to_end rfl (tn_code (tc_ret ?_))
    refine tr_tmp rfl rfl ?_
    exact ⟨congrArg Ending.returned (congrArg Value.bool (by rw [eq_comm, decide_eq_false_iff_not]; intro he_; rw [he_] at h1p; exact h1p rfl)), M.below⟩
  · have h1p := bne_eq_false_iff_eq.1 h1
    refine tc_skip (tn_code (tc_seq (tc_seq (tc_region ?_))))
    refine sg 3 [0, 1, 12, 13] [(0, .slice A xs.length c), (1, .slice A' ys.length c'), (12, .int .i64 (xs.length : Int)), (13, .int .i64 0)] ?_
    refine to_end rfl (tn_code (tc_block ?_))
    refine tc_loop (σ := Nat) (fun k2 => [(0, .slice A xs.length c), (1, .slice A' ys.length c'), (12, .int .i64 (xs.length : Int)), (13, .int .i64 (k2 : Int))]) (fun k2 w' => k2 ≤ xs.length ∧ (∀ j, j < k2 → xs.getD j Inst.z = ys.getD j Inst.z) ∧ Mem w w' []) (fun k2 => xs.length - k2) 0 (Sub.cons rfl (Sub.cons rfl (Sub.cons rfl (Sub.cons rfl (Sub.nil _))))) ⟨Nat.zero_le _, fun j hj => absurd hj (Nat.not_lt_zero _), M⟩ ?_
    rintro k2 w5 ⟨hk3, hi4, M6⟩
    refine tc_seq (tc_region ?_)
    refine sg 1 [0, 1, 12, 13, 14] [(0, .slice A xs.length c), (1, .slice A' ys.length c'), (12, .int .i64 (xs.length : Int)), (13, .int .i64 (k2 : Int)), (14, .bool (decide ((k2 : Int) < (xs.length : Int))))] ?_
    refine to_end rfl (tn_code (tc_seq ?_))
    refine tc_cond (b := decide ((k2 : Int) < (xs.length : Int))) (fun _ => rfl) (fun h7 => ?_) (fun h7 => ?_)
    · have h7p := of_decide_eq_true h7
      refine tc_skip (tn_code (tc_seq (tc_block (tc_seq (tc_region ?_)))))
      refine sg 2 [0, 1, 12, 13, 5] [(0, .slice A xs.length c), (1, .slice A' ys.length c'), (12, .int .i64 (xs.length : Int)), (13, .int .i64 (k2 : Int)), (5, .int .i64 (k2 : Int))] ?_
      refine to_end rfl (tn_code (tc_seq ?_))
      refine tc_drawL (fun w' => Mem w w' ([])) [] (by kernel_rfl) ?_
      have M8 := M6.draw
      refine ty_take 0 16 (.slice A xs.length c) (pok_cont pok_body) ?_ M8 (fun _ _ _ => by kernel_rfl)
      refine ty_take 1 17 (.int .i64 (k2 : Int)) (pok_cont pok_body) ?_ M8 (fun _ _ _ => by kernel_rfl)
      obtain ⟨ad9, rfl⟩ := C_some hC (k := k2) (by omega)
      refine ty_take 2 18 (.pointer (some (ad9.add (k2 * 7)))) (pok_cont pok_body) ?_ M8 (fun _ _ _ => ri (ad := ad9) (n := xs.length) (c := c) k2 7 (by omega) Try.underlying55)
      obtain ⟨cs12, hk10, hc11⟩ := C_cell hC Inst.z k2 (by omega)
      obtain rfl := kInst_open hk10
      refine ty_take 3 19 (.agg (xs.getD k2 Inst.z).cs) (pok_cont pok_body) ?_ M8 (fun _ M' _ => rea (vs := (xs.getD k2 Inst.z).cs) (fun j u hj => cell_up M' (hc11 j u hj)) Try.underlying65)
      refine ty_take 4 20 (.slice A' ys.length c') (pok_cont pok_body) ?_ M8 (fun _ _ _ => by kernel_rfl)
      refine ty_take 5 21 (.int .i64 (k2 : Int)) (pok_cont pok_body) ?_ M8 (fun _ _ _ => by kernel_rfl)
      obtain ⟨ad13, rfl⟩ := C_some hD (k := k2) (by omega)
      refine ty_take 6 22 (.pointer (some (ad13.add (k2 * 7)))) (pok_cont pok_body) ?_ M8 (fun _ _ _ => ri (ad := ad13) (n := ys.length) (c := c') k2 7 (by omega) Try.underlying55)
      obtain ⟨cs16, hk14, hc15⟩ := C_cell hD Inst.z k2 (by omega)
      obtain rfl := kInst_open hk14
      refine ty_take 7 23 (.agg (ys.getD k2 Inst.z).cs) (pok_cont pok_body) ?_ M8 (fun _ M' _ => rea (vs := (ys.getD k2 Inst.z).cs) (fun j u hj => cell_up M' (hc15 j u hj)) Try.underlying65)
      refine ty_take 8 24 (.bool (!(decide ((xs.getD k2 Inst.z) = (ys.getD k2 Inst.z))))) (pok_cont pok_body) ?_ M8 (fun w' _ _ => rq (neq_inst (xs.getD k2 Inst.z) (ys.getD k2 Inst.z) w') (by kernel_rfl))
      refine ty_endL ?_
      refine tn_code ?_
      rcases h17 : (decide ((xs.getD k2 Inst.z) = (ys.getD k2 Inst.z)) : Bool) with _ | _
      · have h17p := of_decide_eq_false h17
        refine tc_cond_t (fun _ => rfl) (tc_seq (tc_region ?_))
        refine sg 1 [4] [(4, .bool false)] ?_
        refine to_end rfl (tn_code (tc_ret ?_))
        refine tr_tmp rfl rfl ?_
        exact ⟨congrArg Ending.returned (congrArg Value.bool (by rw [eq_comm, decide_eq_false_iff_not]; intro he_; rw [he_] at h17; simp at h17)), M8.below⟩
      · have h17p := of_decide_eq_true h17
        refine tc_cond_f (fun _ => rfl) (tc_skip (tn_blk (tn_code (tc_region ?_))))
        refine sg 2 [0, 1, 12, 13] [(0, .slice (some ad9) xs.length c), (1, .slice (some ad13) ys.length c'), (12, .int .i64 (xs.length : Int)), (13, .int .i64 (IntKind.wrap .i64 ((k2 : Int) + 1)))] ?_
        rw [show IntKind.wrap .i64 ((k2 : Int) + 1) = (((k2 + 1) : Nat) : Int) from wr_nat k2 1 (by omega)]
        refine to_end rfl ?_
        exact tn_back (k2 + 1) (Sub.cons rfl (Sub.cons rfl (Sub.cons rfl (Sub.cons rfl (Sub.nil _))))) ⟨by omega, ext_step hi4 (of_decide_eq_true h17), M8⟩ (by omega)
    · have h7p := of_decide_eq_false h7
      refine tc_exitK (k' := _) rfl (tn_code (tc_seq (tc_region ?_)))
      refine sg 1 [4] [(4, .bool true)] ?_
      refine to_end rfl (tn_code (tc_ret ?_))
      refine tr_tmp rfl rfl ?_
      exact ⟨congrArg Ending.returned (congrArg Value.bool (by rw [eq_comm, decide_eq_true_iff]; exact ext_getD Inst.z (by omega) (fun j hj => hi4 j (by omega)))), M6.below⟩

theorem same1_any (f g : Fn) (A : Option Addr) (c : Nat) (A' : Option Addr) (c' : Nat) (w : World) (hC : kInst.C w A f.code.length f.code) (hD : kInst.C w A' g.code.length g.code) : Calls Try.prog 96 #[.agg #[.int .i64 f.args, .slice A f.code.length c], .agg #[.int .i64 g.args, .slice A' g.code.length c']] w fun e w' => e = .returned (.bool (decide (f = g))) ∧ Below w.heap.size w w' := by
  have M := Mem.refl w
  refine calls_tc (N := 17) (args := [.agg #[.int .i64 f.args, .slice A f.code.length c], .agg #[.int .i64 g.args, .slice A' g.code.length c']]) Try.func96 rfl rfl rfl ?_
  refine tc_seq (tc_region ?_)
  refine nw M 2 #[.int .i64 f.args, .slice A f.code.length c] 57 fun b1 w2 M3 => ?_
  refine nw M3 3 #[.int .i64 g.args, .slice A' g.code.length c'] 57 fun b4 w5 M6 => ?_
  refine sg 1 [2, 3] [(2, .pointer (some ⟨b1, 0, none⟩)), (3, .pointer (some ⟨b4, 0, none⟩))] ?_
  refine to_end rfl (tn_code (tc_seq (tc_region ?_)))
  refine sg 1 [2, 3, 5] [(2, .pointer (some ⟨b1, 0, none⟩)), (3, .pointer (some ⟨b4, 0, none⟩)), (5, .pointer (some ⟨b1, 0, none⟩))] ?_
  refine ld M6 1 6 (.int .i64 f.args) ?_
  refine sg 1 [2, 3, 6, 7] [(2, .pointer (some ⟨b1, 0, none⟩)), (3, .pointer (some ⟨b4, 0, none⟩)), (6, .int .i64 f.args), (7, .pointer (some ⟨b4, 0, none⟩))] ?_
  refine ld M6 0 8 (.int .i64 g.args) ?_
  refine sg 2 [2, 3, 10] [(2, .pointer (some ⟨b1, 0, none⟩)), (3, .pointer (some ⟨b4, 0, none⟩)), (10, .bool (f.args == g.args))] ?_
  rcases h7 : (f.args == g.args : Bool) with _ | _
  · have h7p := beq_eq_false_iff_ne.1 h7
    refine sg 7 [4] [(4, .bool false)] ?_
    refine to_end rfl (tn_code (tc_ret ?_))
    refine tr_tmp rfl rfl ?_
    exact ⟨congrArg Ending.returned (congrArg Value.bool (by cases f; cases g; simp only [Fn.mk.injEq] at *; simp_all)), M6.below⟩
  · have h7p := beq_iff_eq.1 h7
    refine sg 1 [3, 10, 11] [(3, .pointer (some ⟨b4, 0, none⟩)), (10, .bool true), (11, .pointer (some ⟨b1, 1, none⟩))] ?_
    refine ld M6 1 12 (.slice A f.code.length c) ?_
    refine sg 1 [10, 12, 13] [(10, .bool true), (12, .slice A f.code.length c), (13, .pointer (some ⟨b4, 1, none⟩))] ?_
    refine ld M6 0 14 (.slice A' g.code.length c') ?_
    refine cb M6 15 (equal_inst A c f.code A' c' g.code _ (C_up M6 hC) (C_up M6 hD)) fun w8 hb10 M9 => ?_
    refine sg 2 [4] [(4, .bool (decide (f.code = g.code)))] ?_
    refine to_end rfl (tn_code (tc_ret ?_))
    refine tr_tmp rfl rfl ?_
    exact ⟨congrArg Ending.returned (congrArg Value.bool (by cases f; cases g; simp only [Fn.mk.injEq] at *; simp_all)), M9.below⟩

theorem eqfunc_any (A : Option Addr) (c : Nat) (xs : List Fn) (A' : Option Addr) (c' : Nat) (ys : List Fn) (w : World) (hC : kFn.C w A xs.length xs) (hD : kFn.C w A' ys.length ys) : Calls Try.prog 95 #[.slice A xs.length c, .slice A' ys.length c', .func (.func 96) #[] #[]] w fun e w' => e = .returned (.bool (decide (xs = ys))) ∧ Below w.heap.size w w' := by
  have M := Mem.refl w
  have hmx := C_max hC
  refine calls_tc (N := 32) (args := [.slice A xs.length c, .slice A' ys.length c', .func (.func 96) #[] #[]]) Try.func95 rfl rfl rfl ?_
  refine tc_seq (tc_region ?_)
  refine sg 1 [0, 1, 2] [(0, .slice A xs.length c), (1, .slice A' ys.length c'), (2, .func (.func 96) #[] #[])] ?_
  refine to_end rfl (tn_code (tc_seq (tc_seq (tc_region ?_))))
  refine sg 5 [0, 1, 2, 14] [(0, .slice A xs.length c), (1, .slice A' ys.length c'), (2, .func (.func 96) #[] #[]), (14, .bool ((xs.length : Int) != (ys.length : Int)))] ?_
  refine to_end rfl (tn_code ?_)
  refine tc_cond (b := (xs.length : Int) != (ys.length : Int)) (fun _ => rfl) (fun h1 => ?_) (fun h1 => ?_)
  · have h1p := bne_iff_ne.1 h1
    refine tc_seq (tc_region ?_)
    refine sg 1 [6] [(6, .bool false)] ?_
    refine to_end rfl (tn_code (tc_ret ?_))
    refine tr_tmp rfl rfl ?_
    exact ⟨congrArg Ending.returned (congrArg Value.bool (by rw [eq_comm, decide_eq_false_iff_not]; intro he_; rw [he_] at h1p; exact h1p rfl)), M.below⟩
  · have h1p := bne_eq_false_iff_eq.1 h1
    refine tc_skip (tn_code (tc_seq (tc_seq (tc_region ?_))))
    refine sg 3 [1, 2, 15, 16, 17] [(1, .slice A' ys.length c'), (2, .func (.func 96) #[] #[]), (15, .slice A xs.length c), (16, .int .i64 (xs.length : Int)), (17, .int .i64 0)] ?_
    refine to_end rfl (tn_code (tc_block ?_))
    refine tc_loop (σ := Nat) (fun k2 => [(1, .slice A' ys.length c'), (2, .func (.func 96) #[] #[]), (15, .slice A xs.length c), (16, .int .i64 (xs.length : Int)), (17, .int .i64 (k2 : Int))]) (fun k2 w' => k2 ≤ xs.length ∧ (∀ j, j < k2 → xs.getD j Fn.z = ys.getD j Fn.z) ∧ Mem w w' []) (fun k2 => xs.length - k2) 0 (Sub.cons rfl (Sub.cons rfl (Sub.cons rfl (Sub.cons rfl (Sub.cons rfl (Sub.nil _)))))) ⟨Nat.zero_le _, fun j hj => absurd hj (Nat.not_lt_zero _), M⟩ ?_
    rintro k2 w5 ⟨hk3, hi4, M6⟩
    refine tc_seq (tc_region ?_)
    refine sg 1 [1, 2, 15, 16, 17, 18] [(1, .slice A' ys.length c'), (2, .func (.func 96) #[] #[]), (15, .slice A xs.length c), (16, .int .i64 (xs.length : Int)), (17, .int .i64 (k2 : Int)), (18, .bool (decide ((k2 : Int) < (xs.length : Int))))] ?_
    refine to_end rfl (tn_code (tc_seq ?_))
    refine tc_cond (b := decide ((k2 : Int) < (xs.length : Int))) (fun _ => rfl) (fun h7 => ?_) (fun h7 => ?_)
    · have h7p := of_decide_eq_true h7
      refine tc_skip (tn_code (tc_seq (tc_block (tc_seq (tc_region ?_)))))
      refine sg 1 [1, 2, 15, 16, 17, 19] [(1, .slice A' ys.length c'), (2, .func (.func 96) #[] #[]), (15, .slice A xs.length c), (16, .int .i64 (xs.length : Int)), (17, .int .i64 (k2 : Int)), (19, .int .i64 (k2 : Int))] ?_
      obtain ⟨ad8, rfl⟩ := C_some hC (k := k2) (by omega)
      refine ix (ad := ad8) (n := xs.length) (c := c) 20 k2 2 (by omega) Try.underlying43 ?_
      obtain ⟨cs11, hk9, hc10⟩ := C_cell hC Fn.z k2 (by omega)
      obtain ⟨A12, c13, rfl, hl14, hC15⟩ := kFn_open hk9
      refine lea 21 #[.int .i64 (xs.getD k2 Fn.z).args, .slice A12 (xs.getD k2 Fn.z).code.length c13] (fun j u hj => cell_up M6 (hc10 j u hj)) (hu := Try.underlying57) ?_
      refine nw M6 8 #[.int .i64 0, .slice none 0 0] 57 fun b16 w17 M18 => ?_
      refine sg 1 [1, 2, 15, 16, 17, 21, 8, 7] [(1, .slice A' ys.length c'), (2, .func (.func 96) #[] #[]), (15, .slice (some ad8) xs.length c), (16, .int .i64 (xs.length : Int)), (17, .int .i64 (k2 : Int)), (21, .agg #[.int .i64 (xs.getD k2 Fn.z).args, .slice A12 (xs.getD k2 Fn.z).code.length c13]), (8, .pointer (some ⟨b16, 0, none⟩)), (7, .int .i64 (k2 : Int))] ?_
      refine sa M18 0 #[.int .i64 (xs.getD k2 Fn.z).args, .slice A12 (xs.getD k2 Fn.z).code.length c13] fun w19 M20 => ?_
      refine to_end rfl (tn_code (tc_seq (tc_region ?_)))
      refine sg 2 [1, 2, 15, 16, 17, 8, 22, 23] [(1, .slice A' ys.length c'), (2, .func (.func 96) #[] #[]), (15, .slice (some ad8) xs.length c), (16, .int .i64 (xs.length : Int)), (17, .int .i64 (k2 : Int)), (8, .pointer (some ⟨b16, 0, none⟩)), (22, .slice A' ys.length c'), (23, .int .i64 (k2 : Int))] ?_
      obtain ⟨ad21, rfl⟩ := C_some hD (k := k2) (by omega)
      refine ix (ad := ad21) (n := ys.length) (c := c') 24 k2 2 (by omega) Try.underlying43 ?_
      obtain ⟨cs24, hk22, hc23⟩ := C_cell hD Fn.z k2 (by omega)
      obtain ⟨A25, c26, rfl, hl27, hC28⟩ := kFn_open hk22
      refine lea 25 #[.int .i64 (ys.getD k2 Fn.z).args, .slice A25 (ys.getD k2 Fn.z).code.length c26] (fun j u hj => cell_up M20 (hc23 j u hj)) (hu := Try.underlying57) ?_
      refine nw M20 9 #[.int .i64 0, .slice none 0 0] 57 fun b29 w30 M31 => ?_
      refine sa M31 0 #[.int .i64 (ys.getD k2 Fn.z).args, .slice A25 (ys.getD k2 Fn.z).code.length c26] fun w32 M33 => ?_
      refine to_end rfl (tn_code (tc_seq (tc_region ?_)))
      refine sg 1 [1, 2, 15, 16, 17, 8, 9, 26] [(1, .slice (some ad21) ys.length c'), (2, .func (.func 96) #[] #[]), (15, .slice (some ad8) xs.length c), (16, .int .i64 (xs.length : Int)), (17, .int .i64 (k2 : Int)), (8, .pointer (some ⟨b16, 0, none⟩)), (9, .pointer (some ⟨b29, 0, none⟩)), (26, .func (.func 96) #[] #[])] ?_
      refine la M33 1 27 #[.int .i64 (xs.getD k2 Fn.z).args, .slice A12 (xs.getD k2 Fn.z).code.length c13] (hu := Try.underlying57) ?_
      refine la M33 0 28 #[.int .i64 (ys.getD k2 Fn.z).args, .slice A25 (ys.getD k2 Fn.z).code.length c26] (hu := Try.underlying57) ?_
      refine cb M33 29 (same1_any (xs.getD k2 Fn.z) (ys.getD k2 Fn.z) A12 c13 A25 c26 _ (C_up M33 hC15) (C_up M33 hC28)) fun w34 hb36 M35 => ?_
      refine sg 1 [1, 2, 15, 16, 17, 30] [(1, .slice (some ad21) ys.length c'), (2, .func (.func 96) #[] #[]), (15, .slice (some ad8) xs.length c), (16, .int .i64 (xs.length : Int)), (17, .int .i64 (k2 : Int)), (30, .bool (!(decide ((xs.getD k2 Fn.z) = (ys.getD k2 Fn.z)))))] ?_
      refine to_end rfl (tn_code ?_)
      rcases h37 : (decide ((xs.getD k2 Fn.z) = (ys.getD k2 Fn.z)) : Bool) with _ | _
      · have h37p := of_decide_eq_false h37
        refine tc_cond_t (fun _ => rfl) (tc_seq (tc_region ?_))
        refine sg 1 [6] [(6, .bool false)] ?_
        refine to_end rfl (tn_code (tc_ret ?_))
        refine tr_tmp rfl rfl ?_
        exact ⟨congrArg Ending.returned (congrArg Value.bool (by rw [eq_comm, decide_eq_false_iff_not]; intro he_; rw [he_] at h37; simp at h37)), M35.below⟩
      · have h37p := of_decide_eq_true h37
        refine tc_cond_f (fun _ => rfl) (tc_skip (tn_blk (tn_code (tc_region ?_))))
        refine sg 2 [1, 2, 15, 16, 17] [(1, .slice (some ad21) ys.length c'), (2, .func (.func 96) #[] #[]), (15, .slice (some ad8) xs.length c), (16, .int .i64 (xs.length : Int)), (17, .int .i64 (IntKind.wrap .i64 ((k2 : Int) + 1)))] ?_
        rw [show IntKind.wrap .i64 ((k2 : Int) + 1) = (((k2 + 1) : Nat) : Int) from wr_nat k2 1 (by omega)]
        refine to_end rfl ?_
        have M38 := M35.drop 1
        have M39 := M38.drop 0
        exact tn_back (k2 + 1) (Sub.cons rfl (Sub.cons rfl (Sub.cons rfl (Sub.cons rfl (Sub.cons rfl (Sub.nil _)))))) ⟨by omega, ext_step hi4 (of_decide_eq_true h37), M39⟩ (by omega)
    · have h7p := of_decide_eq_false h7
      refine tc_exitK (k' := _) rfl (tn_code (tc_seq (tc_region ?_)))
      refine sg 1 [6] [(6, .bool true)] ?_
      refine to_end rfl (tn_code (tc_ret ?_))
      refine tr_tmp rfl rfl ?_
      exact ⟨congrArg Ending.returned (congrArg Value.bool (by rw [eq_comm, decide_eq_true_iff]; exact ext_getD Fn.z (by omega) (fun j hj => hi4 j (by omega)))), M6.below⟩

theorem psame_any (A : Option Addr) (c : Nat) (xs : List Fn) (A' : Option Addr) (c' : Nat) (ys : List Fn) (w : World) (hC : kFn.C w A xs.length xs) (hD : kFn.C w A' ys.length ys) : Calls Try.prog 49 #[.agg #[.slice A xs.length c], .agg #[.slice A' ys.length c']] w fun e w' => e = .returned (.bool (decide (xs = ys))) ∧ Below w.heap.size w w' := by
  have M := Mem.refl w
  refine calls_tc (N := 10) (args := [.agg #[.slice A xs.length c], .agg #[.slice A' ys.length c']]) Try.func49 rfl rfl rfl ?_
  refine tc_seq (tc_region ?_)
  refine nw M 2 #[.slice A xs.length c] 45 fun b1 w2 M3 => ?_
  refine nw M3 3 #[.slice A' ys.length c'] 45 fun b4 w5 M6 => ?_
  refine sg 1 [2, 3] [(2, .pointer (some ⟨b1, 0, none⟩)), (3, .pointer (some ⟨b4, 0, none⟩))] ?_
  refine to_end rfl (tn_code (tc_seq (tc_region ?_)))
  refine sg 1 [3, 5] [(3, .pointer (some ⟨b4, 0, none⟩)), (5, .pointer (some ⟨b1, 0, none⟩))] ?_
  refine ld M6 1 6 (.slice A xs.length c) ?_
  refine sg 1 [6, 7] [(6, .slice A xs.length c), (7, .pointer (some ⟨b4, 0, none⟩))] ?_
  refine ld M6 0 8 (.slice A' ys.length c') ?_
  refine cb M6 9 (eqfunc_any A c xs A' c' ys _ (C_up M6 hC) (C_up M6 hD)) fun w7 hb9 M8 => ?_
  refine sg 1 [4] [(4, .bool (decide (xs = ys)))] ?_
  refine to_end rfl (tn_code (tc_ret ?_))
  refine tr_tmp rfl rfl ?_
  exact ⟨congrArg Ending.returned (congrArg Value.bool (rfl)), M8.below⟩
end Go.Proofs.Ytfknhbgghpbkpaa
