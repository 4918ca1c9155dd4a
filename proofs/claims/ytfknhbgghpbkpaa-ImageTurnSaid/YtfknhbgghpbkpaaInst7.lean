/- Same, Clone. -/
import Derived.Test.YtfknhbgghpbkpaaSet2
namespace Go.Proofs.Ytfknhbgghpbkpaa
open Go.RowKit Cal Go.Proofs.YtfknhbgghpbkpaaW.PrintWords
theorem fn_ext {f g : Fn} (h1 : f.args = g.args) (h2 : f.code = g.code) : f = g := by cases f; cases g; simp_all
theorem fn_max {w : World} {A : Option Addr} {n : Nat} {p : List Fn} (h : kFn.C w A n p) (j : Nat) : (p.getD j Fn.z).code.length ≤ 9223372036854775807 := by
  by_cases hj : j < p.length
  · have hn := h.1
    obtain ⟨ad, e, hc⟩ := h.2.2 (by omega)
    obtain ⟨cs, h1, h2, h3⟩ := hc j (p.getD j Fn.z) (by simp [hj])
    obtain ⟨A1, c1, rfl, hl, hC⟩ := kFn_open h2
    exact hC.2.1
  · have e : p.getD j Fn.z = Fn.z := by simp [List.getElem?_eq_none (show p.length ≤ j by omega)]
    rw [e]; simp [Fn.z]
theorem C_none {α : Type} {d : Kd α} {w : World} {xs : List α} (h : d.C w none xs.length xs) : xs = [] := by
  rcases Nat.eq_zero_or_pos xs.length with h0 | h0
  · exact List.eq_nil_of_length_eq_zero h0
  · obtain ⟨ad, e, _⟩ := h.2.2 h0
    cases e
theorem repRaw (xs : List (Int × Option Addr × Nat × Nat)) (h : xs = [] := by rfl) : Reps (fun x c => ∀ w' ok, kRaw.M w' 0 ok x c) kRaw.sz xs [] := by
  subst h; exact Reps.none _ _
theorem rsame_any (A : Option Addr) (c : Nat) (xs : List Fn) (A' : Option Addr) (c' : Nat) (ys : List Fn) (w : World) (hC : kFn.C w A xs.length xs) (hD : kFn.C w A' ys.length ys) : Calls Try.prog 51 #[.agg #[.slice A xs.length c], .agg #[.slice A' ys.length c']] w fun e w' => e = .returned (.bool (decide (xs = ys))) ∧ Below w.heap.size w w' := by
  have M := Mem.refl w
  have hmx := C_max hC
  have hmc : ∀ j, (xs.getD j Fn.z).code.length ≤ 9223372036854775807 := fn_max hC
  refine calls_tc (N := 65) (args := [.agg #[.slice A xs.length c], .agg #[.slice A' ys.length c']]) Try.func51 rfl rfl rfl ?_
  refine tc_seq (tc_region ?_)
  refine nw M 2 #[.slice A xs.length c] 45 fun b1 w2 M3 => ?_
  refine nw M3 3 #[.slice A' ys.length c'] 45 fun b4 w5 M6 => ?_
  refine sg 1 [2, 3] [(2, .pointer (some ⟨b1, 0, none⟩)), (3, .pointer (some ⟨b4, 0, none⟩))] ?_
  refine to_end rfl (tn_code (tc_seq (tc_seq (tc_region ?_))))
  refine sg 1 [2, 3, 9] [(2, .pointer (some ⟨b1, 0, none⟩)), (3, .pointer (some ⟨b4, 0, none⟩)), (9, .pointer (some ⟨b1, 0, none⟩))] ?_
  refine ld M6 1 10 (.slice A xs.length c) ?_
  refine sg 2 [2, 3, 11, 12] [(2, .pointer (some ⟨b1, 0, none⟩)), (3, .pointer (some ⟨b4, 0, none⟩)), (11, .int .i64 (xs.length : Int)), (12, .pointer (some ⟨b4, 0, none⟩))] ?_
  refine ld M6 0 13 (.slice A' ys.length c') ?_
  refine sg 2 [2, 3, 15] [(2, .pointer (some ⟨b1, 0, none⟩)), (3, .pointer (some ⟨b4, 0, none⟩)), (15, .bool ((xs.length : Int) != (ys.length : Int)))] ?_
  refine to_end rfl (tn_code ?_)
  refine tc_cond (b := (xs.length : Int) != (ys.length : Int)) (fun _ => rfl) (fun h7 => ?_) (fun h7 => ?_)
  · have h7p := bne_iff_ne.1 h7
    refine tc_seq (tc_region ?_)
    refine sg 1 [4] [(4, .bool false)] ?_
    refine to_end rfl (tn_code (tc_ret ?_))
    refine tr_tmp rfl rfl ?_
    exact ⟨congrArg Ending.returned (congrArg Value.bool (by rw [eq_comm, decide_eq_false_iff_not]; intro he_; rw [he_] at h7p; exact h7p rfl)), M6.below⟩
  · have h7p := bne_eq_false_iff_eq.1 h7
    refine tc_skip (tn_code (tc_seq (tc_seq (tc_region ?_))))
    refine sg 1 [2, 3, 5] [(2, .pointer (some ⟨b1, 0, none⟩)), (3, .pointer (some ⟨b4, 0, none⟩)), (5, .int .i64 0)] ?_
    refine to_end rfl (tn_code (tc_block ?_))
    refine tc_loop (σ := Nat) (fun k10 => [(2, .pointer (some ⟨b1, 0, none⟩)), (3, .pointer (some ⟨b4, 0, none⟩)), (5, .int .i64 (k10 : Int))]) (fun k10 w' => k10 ≤ xs.length ∧ (∀ j, j < k10 → xs.getD j Fn.z = ys.getD j Fn.z) ∧ Mem w w' [blk b4 #[.slice A' ys.length c'] 45, blk b1 #[.slice A xs.length c] 45]) (fun k10 => xs.length - k10) 0 (Sub.cons rfl (Sub.cons rfl (Sub.cons rfl (Sub.nil _)))) ⟨Nat.zero_le _, fun j hj => absurd hj (Nat.not_lt_zero _), M6⟩ ?_
    rintro k10 w13 ⟨hk11, hi12, M14⟩
    refine tc_seq (tc_seq (tc_region ?_))
    refine sg 2 [2, 3, 5, 16, 17] [(2, .pointer (some ⟨b1, 0, none⟩)), (3, .pointer (some ⟨b4, 0, none⟩)), (5, .int .i64 (k10 : Int)), (16, .int .i64 (k10 : Int)), (17, .pointer (some ⟨b1, 0, none⟩))] ?_
    refine ld M14 1 18 (.slice A xs.length c) ?_
    refine sg 2 [2, 3, 5, 20] [(2, .pointer (some ⟨b1, 0, none⟩)), (3, .pointer (some ⟨b4, 0, none⟩)), (5, .int .i64 (k10 : Int)), (20, .bool (decide ((k10 : Int) < (xs.length : Int))))] ?_
    refine to_end rfl (tn_code ?_)
    refine tc_cond (b := decide ((k10 : Int) < (xs.length : Int))) (fun _ => rfl) (fun h15 => ?_) (fun h15 => ?_)
    · have h15p := of_decide_eq_true h15
      refine tc_skip (tn_code (tc_seq (tc_block (tc_seq (tc_region ?_)))))
      refine sg 1 [2, 3, 5, 23] [(2, .pointer (some ⟨b1, 0, none⟩)), (3, .pointer (some ⟨b4, 0, none⟩)), (5, .int .i64 (k10 : Int)), (23, .pointer (some ⟨b1, 0, none⟩))] ?_
      refine ld M14 1 24 (.slice A xs.length c) ?_
      refine sg 1 [2, 3, 5, 24, 25] [(2, .pointer (some ⟨b1, 0, none⟩)), (3, .pointer (some ⟨b4, 0, none⟩)), (5, .int .i64 (k10 : Int)), (24, .slice A xs.length c), (25, .int .i64 (k10 : Int))] ?_
      obtain ⟨ad16, rfl⟩ := C_some hC (k := k10) (by omega)
      refine ix (ad := ad16) (n := xs.length) (c := c) 26 k10 2 (by omega) Try.underlying43 ?_
      obtain ⟨cs19, hk17, hc18⟩ := C_cell hC Fn.z k10 (by omega)
      obtain ⟨A20, c21, rfl, hl22, hC23⟩ := kFn_open hk17
      refine lea 27 #[.int .i64 (xs.getD k10 Fn.z).args, .slice A20 (xs.getD k10 Fn.z).code.length c21] (fun j u hj => cell_up M14 (hc18 j u hj)) (hu := Try.underlying57) ?_
      refine nw M14 6 #[.int .i64 0, .slice none 0 0] 57 fun b24 w25 M26 => ?_
      refine sa M26 0 #[.int .i64 (xs.getD k10 Fn.z).args, .slice A20 (xs.getD k10 Fn.z).code.length c21] fun w27 M28 => ?_
      refine to_end rfl (tn_code (tc_seq (tc_region ?_)))
      refine sg 1 [2, 3, 5, 6, 28] [(2, .pointer (some ⟨b1, 0, none⟩)), (3, .pointer (some ⟨b4, 0, none⟩)), (5, .int .i64 (k10 : Int)), (6, .pointer (some ⟨b24, 0, none⟩)), (28, .pointer (some ⟨b4, 0, none⟩))] ?_
      refine ld M28 1 29 (.slice A' ys.length c') ?_
      refine sg 1 [2, 3, 5, 6, 29, 30] [(2, .pointer (some ⟨b1, 0, none⟩)), (3, .pointer (some ⟨b4, 0, none⟩)), (5, .int .i64 (k10 : Int)), (6, .pointer (some ⟨b24, 0, none⟩)), (29, .slice A' ys.length c'), (30, .int .i64 (k10 : Int))] ?_
      obtain ⟨ad29, rfl⟩ := C_some hD (k := k10) (by omega)
      refine ix (ad := ad29) (n := ys.length) (c := c') 31 k10 2 (by omega) Try.underlying43 ?_
      obtain ⟨cs32, hk30, hc31⟩ := C_cell hD Fn.z k10 (by omega)
      obtain ⟨A33, c34, rfl, hl35, hC36⟩ := kFn_open hk30
      refine lea 32 #[.int .i64 (ys.getD k10 Fn.z).args, .slice A33 (ys.getD k10 Fn.z).code.length c34] (fun j u hj => cell_up M28 (hc31 j u hj)) (hu := Try.underlying57) ?_
      refine nw M28 7 #[.int .i64 0, .slice none 0 0] 57 fun b37 w38 M39 => ?_
      refine sa M39 0 #[.int .i64 (ys.getD k10 Fn.z).args, .slice A33 (ys.getD k10 Fn.z).code.length c34] fun w40 M41 => ?_
      refine to_end rfl (tn_code (tc_seq (tc_seq (tc_region ?_))))
      refine sg 1 [2, 3, 5, 6, 7, 33] [(2, .pointer (some ⟨b1, 0, none⟩)), (3, .pointer (some ⟨b4, 0, none⟩)), (5, .int .i64 (k10 : Int)), (6, .pointer (some ⟨b24, 0, none⟩)), (7, .pointer (some ⟨b37, 0, none⟩)), (33, .pointer (some ⟨b24, 0, none⟩))] ?_
      refine ld M41 1 34 (.int .i64 (xs.getD k10 Fn.z).args) ?_
      refine sg 1 [2, 3, 5, 6, 7, 34, 35] [(2, .pointer (some ⟨b1, 0, none⟩)), (3, .pointer (some ⟨b4, 0, none⟩)), (5, .int .i64 (k10 : Int)), (6, .pointer (some ⟨b24, 0, none⟩)), (7, .pointer (some ⟨b37, 0, none⟩)), (34, .int .i64 (xs.getD k10 Fn.z).args), (35, .pointer (some ⟨b37, 0, none⟩))] ?_
      refine ld M41 0 36 (.int .i64 (ys.getD k10 Fn.z).args) ?_
      refine sg 2 [2, 3, 5, 6, 7, 38] [(2, .pointer (some ⟨b1, 0, none⟩)), (3, .pointer (some ⟨b4, 0, none⟩)), (5, .int .i64 (k10 : Int)), (6, .pointer (some ⟨b24, 0, none⟩)), (7, .pointer (some ⟨b37, 0, none⟩)), (38, .bool ((xs.getD k10 Fn.z).args != (ys.getD k10 Fn.z).args))] ?_
      rcases h42 : ((xs.getD k10 Fn.z).args != (ys.getD k10 Fn.z).args : Bool) with _ | _
      · have h42p := bne_eq_false_iff_eq.1 h42
        refine sg 1 [2, 3, 5, 6, 7, 38, 39] [(2, .pointer (some ⟨b1, 0, none⟩)), (3, .pointer (some ⟨b4, 0, none⟩)), (5, .int .i64 (k10 : Int)), (6, .pointer (some ⟨b24, 0, none⟩)), (7, .pointer (some ⟨b37, 0, none⟩)), (38, .bool false), (39, .pointer (some ⟨b24, 1, none⟩))] ?_
        refine ld M41 1 40 (.slice A20 (xs.getD k10 Fn.z).code.length c21) ?_
        refine sg 2 [2, 3, 5, 6, 7, 38, 41, 42] [(2, .pointer (some ⟨b1, 0, none⟩)), (3, .pointer (some ⟨b4, 0, none⟩)), (5, .int .i64 (k10 : Int)), (6, .pointer (some ⟨b24, 0, none⟩)), (7, .pointer (some ⟨b37, 0, none⟩)), (38, .bool false), (41, .int .i64 ((xs.getD k10 Fn.z).code.length : Int)), (42, .pointer (some ⟨b37, 1, none⟩))] ?_
        refine ld M41 0 43 (.slice A33 (ys.getD k10 Fn.z).code.length c34) ?_
        refine sg 3 [2, 3, 5, 6, 7, 46] [(2, .pointer (some ⟨b1, 0, none⟩)), (3, .pointer (some ⟨b4, 0, none⟩)), (5, .int .i64 (k10 : Int)), (6, .pointer (some ⟨b24, 0, none⟩)), (7, .pointer (some ⟨b37, 0, none⟩)), (46, .bool (((xs.getD k10 Fn.z).code.length : Int) != ((ys.getD k10 Fn.z).code.length : Int)))] ?_
        refine to_end rfl (tn_code ?_)
        refine tc_cond (b := ((xs.getD k10 Fn.z).code.length : Int) != ((ys.getD k10 Fn.z).code.length : Int)) (fun _ => rfl) (fun h43 => ?_) (fun h43 => ?_)
        · have h43p := bne_iff_ne.1 h43
          refine tc_seq (tc_region ?_)
          refine sg 1 [4] [(4, .bool false)] ?_
          refine to_end rfl (tn_code (tc_ret ?_))
          refine tr_tmp rfl rfl ?_
          exact ⟨congrArg Ending.returned (congrArg Value.bool (by rw [eq_comm, decide_eq_false_iff_not]; intro he_; subst he_; simp at h43)), M41.below⟩
        · have h43p := bne_eq_false_iff_eq.1 h43
          refine tc_skip (tn_code (tc_seq (tc_region ?_)))
          refine sg 1 [2, 3, 5, 6, 7, 8] [(2, .pointer (some ⟨b1, 0, none⟩)), (3, .pointer (some ⟨b4, 0, none⟩)), (5, .int .i64 (k10 : Int)), (6, .pointer (some ⟨b24, 0, none⟩)), (7, .pointer (some ⟨b37, 0, none⟩)), (8, .int .i64 0)] ?_
          refine to_end rfl (tn_code (tc_block ?_))
          have hmk := hmc k10
          refine tc_loop (σ := Nat) (fun k46 => [(2, .pointer (some ⟨b1, 0, none⟩)), (3, .pointer (some ⟨b4, 0, none⟩)), (5, .int .i64 (k10 : Int)), (6, .pointer (some ⟨b24, 0, none⟩)), (7, .pointer (some ⟨b37, 0, none⟩)), (8, .int .i64 (k46 : Int))]) (fun k46 w' => k46 ≤ (xs.getD k10 Fn.z).code.length ∧ (∀ j, j < k46 → (xs.getD k10 Fn.z).code.getD j Inst.z = (ys.getD k10 Fn.z).code.getD j Inst.z) ∧ Mem w w' [blk b37 #[.int .i64 (ys.getD k10 Fn.z).args, .slice A33 (ys.getD k10 Fn.z).code.length c34] 57, blk b24 #[.int .i64 (xs.getD k10 Fn.z).args, .slice A20 (xs.getD k10 Fn.z).code.length c21] 57, blk b4 #[.slice (some ad29) ys.length c'] 45, blk b1 #[.slice (some ad16) xs.length c] 45]) (fun k46 => (xs.getD k10 Fn.z).code.length - k46) 0 (Sub.cons rfl (Sub.cons rfl (Sub.cons rfl (Sub.cons rfl (Sub.cons rfl (Sub.cons rfl (Sub.nil _))))))) ⟨Nat.zero_le _, fun j hj => absurd hj (Nat.not_lt_zero _), M41⟩ ?_
          rintro k46 w49 ⟨hk47, hi48, M50⟩
          refine tc_seq (tc_seq (tc_region ?_))
          refine sg 2 [2, 3, 5, 6, 7, 8, 47, 48] [(2, .pointer (some ⟨b1, 0, none⟩)), (3, .pointer (some ⟨b4, 0, none⟩)), (5, .int .i64 (k10 : Int)), (6, .pointer (some ⟨b24, 0, none⟩)), (7, .pointer (some ⟨b37, 0, none⟩)), (8, .int .i64 (k46 : Int)), (47, .int .i64 (k46 : Int)), (48, .pointer (some ⟨b24, 1, none⟩))] ?_
          refine ld M50 1 49 (.slice A20 (xs.getD k10 Fn.z).code.length c21) ?_
          refine sg 2 [2, 3, 5, 6, 7, 8, 51] [(2, .pointer (some ⟨b1, 0, none⟩)), (3, .pointer (some ⟨b4, 0, none⟩)), (5, .int .i64 (k10 : Int)), (6, .pointer (some ⟨b24, 0, none⟩)), (7, .pointer (some ⟨b37, 0, none⟩)), (8, .int .i64 (k46 : Int)), (51, .bool (decide ((k46 : Int) < ((xs.getD k10 Fn.z).code.length : Int))))] ?_
          refine to_end rfl (tn_code ?_)
          refine tc_cond (b := decide ((k46 : Int) < ((xs.getD k10 Fn.z).code.length : Int))) (fun _ => rfl) (fun h51 => ?_) (fun h51 => ?_)
          · have h51p := of_decide_eq_true h51
            refine tc_skip (tn_code (tc_seq (tc_block (tc_seq ?_))))
            refine tc_drawL (fun w' => Mem w w' ([blk b37 #[.int .i64 (ys.getD k10 Fn.z).args, .slice A33 (ys.getD k10 Fn.z).code.length c34] 57, blk b24 #[.int .i64 (xs.getD k10 Fn.z).args, .slice A20 (xs.getD k10 Fn.z).code.length c21] 57, blk b4 #[.slice (some ad29) ys.length c'] 45, blk b1 #[.slice (some ad16) xs.length c] 45])) [] (by kernel_rfl) ?_
            have M52 := M50.draw
            refine ty_take 0 54 (.pointer (some ⟨b24, 1, none⟩)) (pok_cont pok_body) ?_ M52 (fun _ _ _ => by kernel_rfl)
            refine ty_take 1 55 (.slice A20 (xs.getD k10 Fn.z).code.length c21) (pok_cont pok_body) ?_ M52 (fun _ M' _ => rl M' 1)
            refine ty_take 2 56 (.int .i64 (k46 : Int)) (pok_cont pok_body) ?_ M52 (fun _ _ _ => by kernel_rfl)
            obtain ⟨ad53, rfl⟩ := C_some hC23 (k := k46) (by omega)
            refine ty_take 3 57 (.pointer (some (ad53.add (k46 * 7)))) (pok_cont pok_body) ?_ M52 (fun _ _ _ => ri (ad := ad53) (n := (xs.getD k10 Fn.z).code.length) (c := c21) k46 7 (by omega) Try.underlying55)
            obtain ⟨cs56, hk54, hc55⟩ := C_cell hC23 Inst.z k46 (by omega)
            obtain rfl := kInst_open hk54
            refine ty_take 4 58 (.agg ((xs.getD k10 Fn.z).code.getD k46 Inst.z).cs) (pok_cont pok_body) ?_ M52 (fun _ M' _ => rea (vs := ((xs.getD k10 Fn.z).code.getD k46 Inst.z).cs) (fun j u hj => cell_up M' (hc55 j u hj)) Try.underlying65)
            refine ty_take 5 59 (.pointer (some ⟨b37, 1, none⟩)) (pok_cont pok_body) ?_ M52 (fun _ _ _ => by kernel_rfl)
            refine ty_take 6 60 (.slice A33 (ys.getD k10 Fn.z).code.length c34) (pok_cont pok_body) ?_ M52 (fun _ M' _ => rl M' 0)
            refine ty_take 7 61 (.int .i64 (k46 : Int)) (pok_cont pok_body) ?_ M52 (fun _ _ _ => by kernel_rfl)
            obtain ⟨ad57, rfl⟩ := C_some hC36 (k := k46) (by omega)
            refine ty_take 8 62 (.pointer (some (ad57.add (k46 * 7)))) (pok_cont pok_body) ?_ M52 (fun _ _ _ => ri (ad := ad57) (n := (ys.getD k10 Fn.z).code.length) (c := c34) k46 7 (by omega) Try.underlying55)
            obtain ⟨cs60, hk58, hc59⟩ := C_cell hC36 Inst.z k46 (by omega)
            obtain rfl := kInst_open hk58
            refine ty_take 9 63 (.agg ((ys.getD k10 Fn.z).code.getD k46 Inst.z).cs) (pok_cont pok_body) ?_ M52 (fun _ M' _ => rea (vs := ((ys.getD k10 Fn.z).code.getD k46 Inst.z).cs) (fun j u hj => cell_up M' (hc59 j u hj)) Try.underlying65)
            refine ty_take 10 64 (.bool (!(decide (((xs.getD k10 Fn.z).code.getD k46 Inst.z) = ((ys.getD k10 Fn.z).code.getD k46 Inst.z))))) (pok_cont pok_body) ?_ M52 (fun w' _ _ => rq (neq_inst ((xs.getD k10 Fn.z).code.getD k46 Inst.z) ((ys.getD k10 Fn.z).code.getD k46 Inst.z) w') (by kernel_rfl))
            refine ty_endL ?_
            refine tn_code ?_
            rcases h61 : (decide (((xs.getD k10 Fn.z).code.getD k46 Inst.z) = ((ys.getD k10 Fn.z).code.getD k46 Inst.z)) : Bool) with _ | _
            · have h61p := of_decide_eq_false h61
              refine tc_cond_t (fun _ => rfl) (tc_seq (tc_region ?_))
              refine sg 1 [4] [(4, .bool false)] ?_
              refine to_end rfl (tn_code (tc_ret ?_))
              refine tr_tmp rfl rfl ?_
              exact ⟨congrArg Ending.returned (congrArg Value.bool (by rw [eq_comm, decide_eq_false_iff_not]; intro he_; subst he_; simp at h61)), M52.below⟩
            · have h61p := of_decide_eq_true h61
              refine tc_cond_f (fun _ => rfl) (tc_skip (tn_blk (tn_code (tc_region ?_))))
              refine sg 3 [2, 3, 5, 6, 7, 8] [(2, .pointer (some ⟨b1, 0, none⟩)), (3, .pointer (some ⟨b4, 0, none⟩)), (5, .int .i64 (k10 : Int)), (6, .pointer (some ⟨b24, 0, none⟩)), (7, .pointer (some ⟨b37, 0, none⟩)), (8, .int .i64 (IntKind.wrap .i64 ((k46 : Int) + 1)))] ?_
              rw [show IntKind.wrap .i64 ((k46 : Int) + 1) = (((k46 + 1) : Nat) : Int) from wr_nat k46 1 (by omega)]
              refine to_end rfl ?_
              exact tn_back (k46 + 1) (Sub.cons rfl (Sub.cons rfl (Sub.cons rfl (Sub.cons rfl (Sub.cons rfl (Sub.cons rfl (Sub.nil _))))))) ⟨by omega, ext_step hi48 (of_decide_eq_true h61), M52⟩ (by omega)
          · have h51p := of_decide_eq_false h51
            refine tc_exitK (k' := _) rfl (tn_blk (tn_code (tc_region ?_)))
            refine sg 3 [2, 3, 5] [(2, .pointer (some ⟨b1, 0, none⟩)), (3, .pointer (some ⟨b4, 0, none⟩)), (5, .int .i64 (IntKind.wrap .i64 ((k10 : Int) + 1)))] ?_
            rw [show IntKind.wrap .i64 ((k10 : Int) + 1) = (((k10 + 1) : Nat) : Int) from wr_nat k10 1 (by omega)]
            refine to_end rfl ?_
            have M62 := M50.drop 1
            have M63 := M62.drop 0
            exact tn_back (k10 + 1) (Sub.cons rfl (Sub.cons rfl (Sub.cons rfl (Sub.nil _)))) ⟨by omega, ext_step hi12 (fn_ext (bne_eq_false_iff_eq.1 h42) (ext_getD Inst.z (by omega) (fun j hj => hi48 j (by omega)))), M63⟩ (by omega)
      · have h42p := bne_iff_ne.1 h42
        refine sg 8 [2, 3, 5, 6, 7, 46] [(2, .pointer (some ⟨b1, 0, none⟩)), (3, .pointer (some ⟨b4, 0, none⟩)), (5, .int .i64 (k10 : Int)), (6, .pointer (some ⟨b24, 0, none⟩)), (7, .pointer (some ⟨b37, 0, none⟩)), (46, .bool true)] ?_
        refine to_end rfl (tn_code (tc_cond_t (fun _ => rfl) (tc_seq (tc_region ?_))))
        refine sg 1 [4] [(4, .bool false)] ?_
        refine to_end rfl (tn_code (tc_ret ?_))
        refine tr_tmp rfl rfl ?_
        exact ⟨congrArg Ending.returned (congrArg Value.bool (by rw [eq_comm, decide_eq_false_iff_not]; intro he_; subst he_; simp at h42)), M41.below⟩
    · have h15p := of_decide_eq_false h15
      refine tc_exitK (k' := _) rfl (tn_code (tc_seq (tc_region ?_)))
      refine sg 1 [4] [(4, .bool true)] ?_
      refine to_end rfl (tn_code (tc_ret ?_))
      refine tr_tmp rfl rfl ?_
      exact ⟨congrArg Ending.returned (congrArg Value.bool (by rw [eq_comm, decide_eq_true_iff]; exact ext_getD Fn.z (by omega) (fun j hj => hi12 j (by omega)))), M14.below⟩

theorem clone_inst (A : Option Addr) (c : Nat) (xs : List Inst) (w : World) (hC : kInst.C w A xs.length xs) (hl : xs.length ≤ 1000000) : Calls Try.prog 100 #[.slice A xs.length c] w fun e w' => ∃ A' c', e = .returned (.slice A' xs.length c') ∧ Mem w w' [row kInst 65 (.slice A' xs.length c') xs] := by
  have M := Mem.refl w
  refine calls_tc (N := 8) (args := [.slice A xs.length c]) Try.func100 rfl rfl rfl ?_
  refine tc_seq (tc_region ?_)
  refine sg 1 [0] [(0, .slice A xs.length c)] ?_
  refine to_end rfl (tn_code (tc_seq (tc_seq (tc_region ?_))))
  refine sg 1 [0, 3] [(0, .slice A xs.length c), (3, .slice A xs.length c)] ?_
  rcases A with _ | ad
  · refine sg 1 [0, 4] [(0, .slice none xs.length c), (4, .bool true)] ?_
    refine to_end rfl (tn_code (tc_cond_t (fun _ => rfl) (tc_seq (tc_region ?_))))
    refine sg 1 [2] [(2, .slice none 0 0)] ?_
    refine to_end rfl (tn_code (tc_ret ?_))
    refine tr_tmp rfl rfl ?_
    have h0 : xs = [] := C_none hC
    subst h0
    exact ⟨none, 0, rfl, (M).nilrow kInst 65⟩
  · refine sg 1 [0, 4] [(0, .slice (some ad) xs.length c), (4, .bool false)] ?_
    refine to_end rfl (tn_code (tc_cond_f (fun _ => rfl) (tc_skip (tn_code (tc_seq (tc_region ?_))))))
    refine bsF M 5 kInst 65 ([] : List Inst) #[] (Reps.none _ _) (Nat.le_of_ble_eq_true rfl) fun b1 w2 M3 => ?_
    refine sg 1 [5, 6] [(5, .slice (some ⟨b1, 0, none⟩) 0 0), (6, .slice (some ad) xs.length c)] ?_
    refine apC (z := .agg Inst.z.cs) (bytes := 56) (c := c) M3 7 flatInst (C_up M3 hC) Try.underlying55 ?_ fun A4 c5 w6 M7 => ?_
    · simp only [List.length_nil]; omega
    refine sg 1 [2] [(2, .slice A4 ([] ++ xs).length c5)] ?_
    refine to_end rfl (tn_code (tc_ret ?_))
    refine tr_tmp rfl rfl ?_
    exact ⟨_, _, rfl, M7⟩

theorem clone_raw (A : Option Addr) (c : Nat) (vs : List (Int × Option Addr × Nat × Nat)) (w : World) (hC : kRaw.C w A vs.length vs) (hl : vs.length ≤ 1000000) : Calls Try.prog 99 #[.slice A vs.length c] w fun e w' => ∃ A' c', e = .returned (.slice A' vs.length c') ∧ Mem w w' [row kRaw 57 (.slice A' vs.length c') vs] := by
  have M := Mem.refl w
  refine calls_tc (N := 8) (args := [.slice A vs.length c]) Try.func99 rfl rfl rfl ?_
  refine tc_seq (tc_region ?_)
  refine sg 1 [0] [(0, .slice A vs.length c)] ?_
  refine to_end rfl (tn_code (tc_seq (tc_seq (tc_region ?_))))
  refine sg 1 [0, 3] [(0, .slice A vs.length c), (3, .slice A vs.length c)] ?_
  rcases A with _ | ad
  · refine sg 1 [0, 4] [(0, .slice none vs.length c), (4, .bool true)] ?_
    refine to_end rfl (tn_code (tc_cond_t (fun _ => rfl) (tc_seq (tc_region ?_))))
    refine sg 1 [2] [(2, .slice none 0 0)] ?_
    refine to_end rfl (tn_code (tc_ret ?_))
    refine tr_tmp rfl rfl ?_
    have h0 : vs = [] := C_none hC
    subst h0
    exact ⟨none, 0, rfl, (M).nilrow kRaw 57⟩
  · refine sg 1 [0, 4] [(0, .slice (some ad) vs.length c), (4, .bool false)] ?_
    refine to_end rfl (tn_code (tc_cond_f (fun _ => rfl) (tc_skip (tn_code (tc_seq (tc_region ?_))))))
    refine bsF M 5 kRaw 57 ([] : List (Int × Option Addr × Nat × Nat)) #[] (Reps.none _ _) (Nat.le_of_ble_eq_true rfl) fun b1 w2 M3 => ?_
    refine sg 1 [5, 6] [(5, .slice (some ⟨b1, 0, none⟩) 0 0), (6, .slice (some ad) vs.length c)] ?_
    refine apC (z := .agg #[.int .i64 0, .slice none 0 0]) (bytes := 32) (c := c) M3 7 flatRaw (C_up M3 hC) Try.underlying43 ?_ fun A4 c5 w6 M7 => ?_
    · simp only [List.length_nil]; omega
    refine sg 1 [2] [(2, .slice A4 ([] ++ vs).length c5)] ?_
    refine to_end rfl (tn_code (tc_ret ?_))
    refine tr_tmp rfl rfl ?_
    exact ⟨_, _, rfl, M7⟩
end Go.Proofs.Ytfknhbgghpbkpaa
