/- Layer 13: where things are. -/
import Derived.Test.YtfknhbgghpbkpaaAr1
import Derived.Test.YtfknhbgghpbkpaaOpen
namespace Go.Proofs.Ytfknhbgghpbkpaa
open Go.RowKit Cal Go.Proofs.YtfknhbgghpbkpaaW.PrintWords
theorem end_any (b : Blk) (A : Option Addr) (c : Nat) (w : World) (h0 : 0 ≤ b.pos ∧ b.pos ≤ 1000000) (h1 : b.w.length ≤ 1000000) : Calls Try.prog 79 #[.agg #[.int .i64 b.id, .int .i64 b.pos, .slice A b.w.length c]] w fun e w' => e = .returned (.int .i64 b.fin) ∧ Below w.heap.size w w' := by
  have M := Mem.refl w
  refine calls_tc (N := 9) (args := [.agg #[.int .i64 b.id, .int .i64 b.pos, .slice A b.w.length c]]) Try.func79 rfl rfl rfl ?_
  refine tc_seq (tc_region ?_)
  refine nw M 1 #[.int .i64 b.id, .int .i64 b.pos, .slice A b.w.length c] 103 fun b1 w2 M3 => ?_
  refine sg 1 [1] [(1, .pointer (some ⟨b1, 0, none⟩))] ?_
  refine to_end rfl (tn_code (tc_seq (tc_region ?_)))
  refine sg 1 [1, 3] [(1, .pointer (some ⟨b1, 0, none⟩)), (3, .pointer (some ⟨b1, 1, none⟩))] ?_
  refine ld M3 0 4 (.int .i64 b.pos) ?_
  refine sg 1 [4, 5] [(4, .int .i64 b.pos), (5, .pointer (some ⟨b1, 2, none⟩))] ?_
  refine ld M3 0 6 (.slice A b.w.length c) ?_
  refine sg 3 [2] [(2, .int .i64 (IntKind.wrap .i64 (b.pos + (b.w.length : Int))))] ?_
  rw [wr_i64 (x := b.pos + (b.w.length : Int)) (by omega) (by omega)]
  refine to_end rfl (tn_code (tc_ret ?_))
  refine tr_tmp rfl rfl ?_
  exact ⟨congrArg Ending.returned (rfl), M3.below⟩

theorem end_some (b : Blk) (A : Option Addr) (c : Nat) (w : World) : Calls Try.prog 79 #[.agg #[.int .i64 b.id, .int .i64 b.pos, .slice A b.w.length c]] w fun e w' => e = .returned (.int .i64 (IntKind.wrap .i64 (b.pos + (b.w.length : Int)))) ∧ Below w.heap.size w w' := by
  have M := Mem.refl w
  refine calls_tc (N := 9) (args := [.agg #[.int .i64 b.id, .int .i64 b.pos, .slice A b.w.length c]]) Try.func79 rfl rfl rfl ?_
  refine tc_seq (tc_region ?_)
  refine nw M 1 #[.int .i64 b.id, .int .i64 b.pos, .slice A b.w.length c] 103 fun b1 w2 M3 => ?_
  refine sg 1 [1] [(1, .pointer (some ⟨b1, 0, none⟩))] ?_
  refine to_end rfl (tn_code (tc_seq (tc_region ?_)))
  refine sg 1 [1, 3] [(1, .pointer (some ⟨b1, 0, none⟩)), (3, .pointer (some ⟨b1, 1, none⟩))] ?_
  refine ld M3 0 4 (.int .i64 b.pos) ?_
  refine sg 1 [4, 5] [(4, .int .i64 b.pos), (5, .pointer (some ⟨b1, 2, none⟩))] ?_
  refine ld M3 0 6 (.slice A b.w.length c) ?_
  refine sg 3 [2] [(2, .int .i64 (IntKind.wrap .i64 (b.pos + (b.w.length : Int))))] ?_
  refine to_end rfl (tn_code (tc_ret ?_))
  refine tr_tmp rfl rfl ?_
  exact ⟨congrArg Ending.returned (rfl), M3.below⟩

theorem at1_any (b : Blk) (A : Option Addr) (c : Nat) (p : Nat) (t : TypeId) (id : Int) (w : World) (hp : w.heap[p]? = some (.cells #[.int .i64 id] t (0, 0))) : Calls Try.prog 117 #[.agg #[.int .i64 b.id, .int .i64 b.pos, .slice A b.w.length c], .pointer (some ⟨p, 0, none⟩)] w fun e w' => e = .returned (.bool (b.id == id)) ∧ Below w.heap.size w w' := by
  have M := Mem.refl w
  refine calls_tc (N := 8) (args := [.agg #[.int .i64 b.id, .int .i64 b.pos, .slice A b.w.length c], .pointer (some ⟨p, 0, none⟩)]) Try.func117 rfl rfl rfl ?_
  refine tc_seq (tc_region ?_)
  refine nw M 2 #[.int .i64 b.id, .int .i64 b.pos, .slice A b.w.length c] 103 fun b1 w2 M3 => ?_
  refine sg 1 [1, 2] [(1, .pointer (some ⟨p, 0, none⟩)), (2, .pointer (some ⟨b1, 0, none⟩))] ?_
  refine to_end rfl (tn_code (tc_seq (tc_region ?_)))
  refine sg 1 [1, 4] [(1, .pointer (some ⟨p, 0, none⟩)), (4, .pointer (some ⟨b1, 0, none⟩))] ?_
  refine ld M3 0 5 (.int .i64 b.id) ?_
  refine le 6 (.int .i64 id) (cell_up M3 ((blk_cell hp 0).trans rfl)) ?_
  refine sg 2 [3] [(3, .bool (b.id == id))] ?_
  refine to_end rfl (tn_code (tc_ret ?_))
  refine tr_tmp rfl rfl ?_
  exact ⟨congrArg Ending.returned (congrArg Value.bool (rfl)), M3.below⟩

theorem idx_at (A : Option Addr) (c : Nat) (l : List Blk) (p : Nat) (t : TypeId) (id : Int) (w : World) (hC : kBlk.C w A l.length l) (hp : w.heap[p]? = some (.cells #[.int .i64 id] t (0, 0))) : Calls Try.prog 116 #[.slice A l.length c, .func (.func 117) #[] #[.pointer (some ⟨p, 0, none⟩)]] w fun e w' => e = .returned (.int .i64 (idM l id)) ∧ Below w.heap.size w w' := by
  have M := Mem.refl w
  have hmx := C_max hC
  refine calls_tc (N := 19) (args := [.slice A l.length c, .func (.func 117) #[] #[.pointer (some ⟨p, 0, none⟩)]]) Try.func116 rfl rfl rfl ?_
  refine tc_seq (tc_region ?_)
  refine sg 1 [0, 1] [(0, .slice A l.length c), (1, .func (.func 117) #[] #[.pointer (some ⟨p, 0, none⟩)])] ?_
  refine to_end rfl (tn_code (tc_seq (tc_seq (tc_region ?_))))
  refine sg 3 [0, 1, 7, 8] [(0, .slice A l.length c), (1, .func (.func 117) #[] #[.pointer (some ⟨p, 0, none⟩)]), (7, .int .i64 (l.length : Int)), (8, .int .i64 0)] ?_
  refine to_end rfl (tn_code (tc_block ?_))
  refine tc_loop (σ := Nat) (fun k1 => [(0, .slice A l.length c), (1, .func (.func 117) #[] #[.pointer (some ⟨p, 0, none⟩)]), (7, .int .i64 (l.length : Int)), (8, .int .i64 (k1 : Int))]) (fun k1 w' => k1 ≤ l.length ∧ (∀ j, j < k1 → (fun b => b.id == id) (l.getD j Blk.z) = false) ∧ Mem w w' []) (fun k1 => l.length - k1) 0 (Sub.cons rfl (Sub.cons rfl (Sub.cons rfl (Sub.cons rfl (Sub.nil _))))) ⟨Nat.zero_le _, fun j hj => absurd hj (Nat.not_lt_zero _), M⟩ ?_
  rintro k1 w4 ⟨hk2, hi3, M5⟩
  refine tc_seq (tc_region ?_)
  refine sg 1 [0, 1, 7, 8, 9] [(0, .slice A l.length c), (1, .func (.func 117) #[] #[.pointer (some ⟨p, 0, none⟩)]), (7, .int .i64 (l.length : Int)), (8, .int .i64 (k1 : Int)), (9, .bool (decide ((k1 : Int) < (l.length : Int))))] ?_
  refine to_end rfl (tn_code (tc_seq ?_))
  refine tc_cond (b := decide ((k1 : Int) < (l.length : Int))) (fun _ => rfl) (fun h6 => ?_) (fun h6 => ?_)
  · have h6p := of_decide_eq_true h6
    refine tc_skip (tn_code (tc_seq (tc_block (tc_seq (tc_region ?_)))))
    refine sg 2 [0, 1, 7, 8, 5] [(0, .slice A l.length c), (1, .func (.func 117) #[] #[.pointer (some ⟨p, 0, none⟩)]), (7, .int .i64 (l.length : Int)), (8, .int .i64 (k1 : Int)), (5, .int .i64 (k1 : Int))] ?_
    refine to_end rfl (tn_code (tc_seq (tc_region ?_)))
    refine sg 3 [0, 1, 7, 8, 5, 11, 12, 13] [(0, .slice A l.length c), (1, .func (.func 117) #[] #[.pointer (some ⟨p, 0, none⟩)]), (7, .int .i64 (l.length : Int)), (8, .int .i64 (k1 : Int)), (5, .int .i64 (k1 : Int)), (11, .func (.func 117) #[] #[.pointer (some ⟨p, 0, none⟩)]), (12, .slice A l.length c), (13, .int .i64 (k1 : Int))] ?_
    obtain ⟨ad7, rfl⟩ := C_some hC (k := k1) (by omega)
    refine ix (ad := ad7) (n := l.length) (c := c) 14 k1 3 (by omega) Try.underlying22 ?_
    obtain ⟨cs10, hk8, hc9⟩ := C_cell hC Blk.z k1 (by omega)
    obtain ⟨A11, c12, rfl, hl13, hC14⟩ := kBlk_open hk8
    refine lea 15 #[.int .i64 (l.getD k1 Blk.z).id, .int .i64 (l.getD k1 Blk.z).pos, .slice A11 (l.getD k1 Blk.z).w.length c12] (fun j u hj => cell_up M5 (hc9 j u hj)) (hu := Try.underlying103) ?_
    refine cb M5 16 (at1_any (l.getD k1 Blk.z) A11 c12 p t id _ (below_heap M5.below hp)) fun w15 hb17 M16 => ?_
    refine to_end rfl (tn_code ?_)
    refine tc_cond (b := (l.getD k1 Blk.z).id == id) (fun _ => rfl) (fun h18 => ?_) (fun h18 => ?_)
    · have h18p := beq_iff_eq.1 h18
      refine tc_seq (tc_region ?_)
      refine sg 2 [4] [(4, .int .i64 (k1 : Int))] ?_
      refine to_end rfl (tn_code (tc_ret ?_))
      refine tr_tmp rfl rfl ?_
      exact ⟨congrArg Ending.returned (congrArg (Value.int .i64) (idxF_at (p := (fun b => b.id == id)) (z := Blk.z) (by omega) hi3 h18)), M16.below⟩
    · have h18p := beq_eq_false_iff_ne.1 h18
      refine tc_skip (tn_blk (tn_code (tc_region ?_)))
      refine sg 2 [0, 1, 7, 8] [(0, .slice (some ad7) l.length c), (1, .func (.func 117) #[] #[.pointer (some ⟨p, 0, none⟩)]), (7, .int .i64 (l.length : Int)), (8, .int .i64 (IntKind.wrap .i64 ((k1 : Int) + 1)))] ?_
      rw [show IntKind.wrap .i64 ((k1 : Int) + 1) = (((k1 + 1) : Nat) : Int) from wr_nat k1 1 (by omega)]
      refine to_end rfl ?_
      exact tn_back (k1 + 1) (Sub.cons rfl (Sub.cons rfl (Sub.cons rfl (Sub.cons rfl (Sub.nil _))))) ⟨by omega, step_no (p := (fun b => b.id == id)) (z := Blk.z) hi3 h18, M16⟩ (by omega)
  · have h6p := of_decide_eq_false h6
    refine tc_exitK (k' := _) rfl (tn_code (tc_seq (tc_region ?_)))
    refine sg 1 [4] [(4, .int .i64 (-1))] ?_
    refine to_end rfl (tn_code (tc_ret ?_))
    refine tr_tmp rfl rfl ?_
    exact ⟨congrArg Ending.returned (congrArg (Value.int .i64) (idxF_no (p := (fun b => b.id == id)) (z := Blk.z) (fun j hj => hi3 j (by omega)))), M5.below⟩

theorem at_any (cap : Int) (l : List Blk) (A : Option Addr) (c : Nat) (id : Int) (w : World) (hC : kBlk.C w A l.length l) : Calls Try.prog 71 #[.agg #[.int .i64 cap, .slice A l.length c], .int .i64 id] w fun e w' => e = .returned (.int .i64 (idM l id)) ∧ Below w.heap.size w w' := by
  have M := Mem.refl w
  have hmx := C_max hC
  refine calls_tc (N := 9) (args := [.agg #[.int .i64 cap, .slice A l.length c], .int .i64 id]) Try.func71 rfl rfl rfl ?_
  refine tc_seq (tc_region ?_)
  refine nw M 2 #[.int .i64 cap, .slice A l.length c] 24 fun b1 w2 M3 => ?_
  refine nw M3 3 #[.int .i64 id] 3 fun b4 w5 M6 => ?_
  refine sg 1 [2, 3] [(2, .pointer (some ⟨b1, 0, none⟩)), (3, .pointer (some ⟨b4, 0, none⟩))] ?_
  refine to_end rfl (tn_code (tc_seq (tc_region ?_)))
  refine sg 1 [3, 5] [(3, .pointer (some ⟨b4, 0, none⟩)), (5, .pointer (some ⟨b1, 1, none⟩))] ?_
  refine ld M6 1 6 (.slice A l.length c) ?_
  refine sg 1 [6, 7] [(6, .slice A l.length c), (7, .func (.func 117) #[] #[.pointer (some ⟨b4, 0, none⟩)])] ?_
  refine cb M6 8 (idx_at A c l b4 _ id _ (C_up M6 hC) (M6.blk_at 0 rfl)) fun w7 hb9 M8 => ?_
  refine sg 1 [4] [(4, .int .i64 (idM l id))] ?_
  refine to_end rfl (tn_code (tc_ret ?_))
  refine tr_tmp rfl rfl ?_
  exact ⟨congrArg Ending.returned (rfl), M8.below⟩

theorem rfind_any (cap : Int) (l : List Blk) (A : Option Addr) (c : Nat) (id : Int) (w : World) (hC : kBlk.C w A l.length l) : Calls Try.prog 75 #[.agg #[.int .i64 cap, .slice A l.length c], .int .i64 id] w fun e w' => e = .returned (.int .i64 (idM l id)) ∧ Below w.heap.size w w' := by
  have M := Mem.refl w
  have hmx := C_max hC
  refine calls_tc (N := 22) (args := [.agg #[.int .i64 cap, .slice A l.length c], .int .i64 id]) Try.func75 rfl rfl rfl ?_
  refine tc_seq (tc_region ?_)
  refine nw M 2 #[.int .i64 cap, .slice A l.length c] 24 fun b1 w2 M3 => ?_
  refine sg 1 [1, 2] [(1, .int .i64 id), (2, .pointer (some ⟨b1, 0, none⟩))] ?_
  refine to_end rfl (tn_code (tc_seq (tc_seq (tc_region ?_))))
  refine sg 1 [1, 2, 5] [(1, .int .i64 id), (2, .pointer (some ⟨b1, 0, none⟩)), (5, .int .i64 0)] ?_
  refine to_end rfl (tn_code (tc_block ?_))
  refine tc_loop (σ := Nat) (fun k5 => [(1, .int .i64 id), (2, .pointer (some ⟨b1, 0, none⟩)), (5, .int .i64 (k5 : Int))]) (fun k5 w' => k5 ≤ l.length ∧ (∀ j, j < k5 → (fun b => b.id == id) (l.getD j Blk.z) = false) ∧ Mem w w' [blk b1 #[.int .i64 cap, .slice A l.length c] 24]) (fun k5 => l.length - k5) 0 (Sub.cons rfl (Sub.cons rfl (Sub.cons rfl (Sub.nil _)))) ⟨Nat.zero_le _, fun j hj => absurd hj (Nat.not_lt_zero _), M3⟩ ?_
  rintro k5 w8 ⟨hk6, hi7, M9⟩
  refine tc_seq (tc_seq (tc_region ?_))
  refine sg 2 [1, 2, 5, 6, 7] [(1, .int .i64 id), (2, .pointer (some ⟨b1, 0, none⟩)), (5, .int .i64 (k5 : Int)), (6, .int .i64 (k5 : Int)), (7, .pointer (some ⟨b1, 1, none⟩))] ?_
  refine ld M9 0 8 (.slice A l.length c) ?_
  refine sg 2 [1, 2, 5, 10] [(1, .int .i64 id), (2, .pointer (some ⟨b1, 0, none⟩)), (5, .int .i64 (k5 : Int)), (10, .bool (decide ((k5 : Int) < (l.length : Int))))] ?_
  refine to_end rfl (tn_code ?_)
  refine tc_cond (b := decide ((k5 : Int) < (l.length : Int))) (fun _ => rfl) (fun h10 => ?_) (fun h10 => ?_)
  · have h10p := of_decide_eq_true h10
    refine tc_skip (tn_code (tc_seq (tc_block (tc_seq (tc_region ?_)))))
    refine sg 1 [1, 2, 5, 13] [(1, .int .i64 id), (2, .pointer (some ⟨b1, 0, none⟩)), (5, .int .i64 (k5 : Int)), (13, .pointer (some ⟨b1, 1, none⟩))] ?_
    refine ld M9 0 14 (.slice A l.length c) ?_
    refine sg 1 [1, 2, 5, 14, 15] [(1, .int .i64 id), (2, .pointer (some ⟨b1, 0, none⟩)), (5, .int .i64 (k5 : Int)), (14, .slice A l.length c), (15, .int .i64 (k5 : Int))] ?_
    obtain ⟨ad11, rfl⟩ := C_some hC (k := k5) (by omega)
    refine ix (ad := ad11) (n := l.length) (c := c) 16 k5 3 (by omega) Try.underlying22 ?_
    refine sg 1 [1, 2, 5, 17] [(1, .int .i64 id), (2, .pointer (some ⟨b1, 0, none⟩)), (5, .int .i64 (k5 : Int)), (17, .pointer (some (ad11.add (k5 * 3))))] ?_
    obtain ⟨cs14, hk12, hc13⟩ := C_cell hC Blk.z k5 (by omega)
    obtain ⟨A15, c16, rfl, hl17, hC18⟩ := kBlk_open hk12
    refine le 18 (.int .i64 (l.getD k5 Blk.z).id) (cell_up M9 (hc13 0 _ rfl)) ?_
    refine sg 2 [1, 2, 5, 20] [(1, .int .i64 id), (2, .pointer (some ⟨b1, 0, none⟩)), (5, .int .i64 (k5 : Int)), (20, .bool ((l.getD k5 Blk.z).id == id))] ?_
    refine to_end rfl (tn_code ?_)
    refine tc_cond (b := (l.getD k5 Blk.z).id == id) (fun _ => rfl) (fun h19 => ?_) (fun h19 => ?_)
    · have h19p := beq_iff_eq.1 h19
      refine tc_seq (tc_region ?_)
      refine sg 2 [4] [(4, .int .i64 (k5 : Int))] ?_
      refine to_end rfl (tn_code (tc_ret ?_))
      refine tr_tmp rfl rfl ?_
      exact ⟨congrArg Ending.returned (congrArg (Value.int .i64) (idxF_at (p := (fun b => b.id == id)) (z := Blk.z) (by omega) hi7 h19)), M9.below⟩
    · have h19p := beq_eq_false_iff_ne.1 h19
      refine tc_skip (tn_blk (tn_code (tc_region ?_)))
      refine sg 3 [1, 2, 5] [(1, .int .i64 id), (2, .pointer (some ⟨b1, 0, none⟩)), (5, .int .i64 (IntKind.wrap .i64 ((k5 : Int) + 1)))] ?_
      rw [show IntKind.wrap .i64 ((k5 : Int) + 1) = (((k5 + 1) : Nat) : Int) from wr_nat k5 1 (by omega)]
      refine to_end rfl ?_
      exact tn_back (k5 + 1) (Sub.cons rfl (Sub.cons rfl (Sub.cons rfl (Sub.nil _)))) ⟨by omega, step_no (p := (fun b => b.id == id)) (z := Blk.z) hi7 h19, M9⟩ (by omega)
  · have h10p := of_decide_eq_false h10
    refine tc_exitK (k' := _) rfl (tn_code (tc_seq (tc_region ?_)))
    refine sg 1 [4] [(4, .int .i64 (-1))] ?_
    refine to_end rfl (tn_code (tc_ret ?_))
    refine tr_tmp rfl rfl ?_
    exact ⟨congrArg Ending.returned (congrArg (Value.int .i64) (idxF_no (p := (fun b => b.id == id)) (z := Blk.z) (fun j hj => hi7 j (by omega)))), M9.below⟩

set_option linter.unusedSimpArgs false in
theorem of_any (cap : Int) (l : List Blk) (A : Option Addr) (c : Nat) (a : Int) (w : World) (hC : kBlk.C w A l.length l) (hm : mMay cap l = true) (ha : I64 a) : Calls Try.prog 78 #[.agg #[.int .i64 cap, .slice A l.length c], .int .i64 a] w fun e w' => e = .returned (.int .i64 (ofM l a)) ∧ Below w.heap.size w w' := by
  have M := Mem.refl w
  have hmx := C_max hC
  obtain ⟨ha0, ha1⟩ := ha
  refine calls_tc (N := 40) (args := [.agg #[.int .i64 cap, .slice A l.length c], .int .i64 a]) Try.func78 rfl rfl rfl ?_
  refine tc_seq (tc_region ?_)
  refine nw M 2 #[.int .i64 cap, .slice A l.length c] 24 fun b1 w2 M3 => ?_
  refine sg 1 [1, 2] [(1, .int .i64 a), (2, .pointer (some ⟨b1, 0, none⟩))] ?_
  refine to_end rfl (tn_code (tc_seq (tc_seq (tc_region ?_))))
  refine sg 1 [1, 2, 5] [(1, .int .i64 a), (2, .pointer (some ⟨b1, 0, none⟩)), (5, .int .i64 0)] ?_
  refine to_end rfl (tn_code (tc_block ?_))
  refine tc_loop (σ := Nat) (fun k5 => [(1, .int .i64 a), (2, .pointer (some ⟨b1, 0, none⟩)), (5, .int .i64 (k5 : Int))]) (fun k5 w' => k5 ≤ l.length ∧ (∀ j, j < k5 → (inBlk a) (l.getD j Blk.z) = false) ∧ Mem w w' [blk b1 #[.int .i64 cap, .slice A l.length c] 24]) (fun k5 => l.length - k5) 0 (Sub.cons rfl (Sub.cons rfl (Sub.cons rfl (Sub.nil _)))) ⟨Nat.zero_le _, fun j hj => absurd hj (Nat.not_lt_zero _), M3⟩ ?_
  rintro k5 w8 ⟨hk6, hi7, M9⟩
  have hpb := pos_bd hm k5
  refine tc_seq (tc_seq (tc_region ?_))
  refine sg 2 [1, 2, 5, 6, 7] [(1, .int .i64 a), (2, .pointer (some ⟨b1, 0, none⟩)), (5, .int .i64 (k5 : Int)), (6, .int .i64 (k5 : Int)), (7, .pointer (some ⟨b1, 1, none⟩))] ?_
  refine ld M9 0 8 (.slice A l.length c) ?_
  refine sg 2 [1, 2, 5, 10] [(1, .int .i64 a), (2, .pointer (some ⟨b1, 0, none⟩)), (5, .int .i64 (k5 : Int)), (10, .bool (decide ((k5 : Int) < (l.length : Int))))] ?_
  refine to_end rfl (tn_code ?_)
  refine tc_cond (b := decide ((k5 : Int) < (l.length : Int))) (fun _ => rfl) (fun h10 => ?_) (fun h10 => ?_)
  · have h10p := of_decide_eq_true h10
    refine tc_skip (tn_code (tc_seq (tc_block (tc_seq ?_))))
    refine tc_drawL (fun w' => Mem w w' ([blk b1 #[.int .i64 cap, .slice A l.length c] 24])) [] (by kernel_rfl) ?_
    have M11 := M9.draw
    refine ty_take 0 13 (.int .i64 a) (pok_cont pok_body) ?_ M11 (fun _ _ _ => by kernel_rfl)
    refine ty_take 1 14 (.pointer (some ⟨b1, 1, none⟩)) (pok_cont pok_body) ?_ M11 (fun _ _ _ => by kernel_rfl)
    refine ty_take 2 15 (.slice A l.length c) (pok_cont pok_body) ?_ M11 (fun _ M' _ => rl M' 0)
    refine ty_take 3 16 (.int .i64 (k5 : Int)) (pok_cont pok_body) ?_ M11 (fun _ _ _ => by kernel_rfl)
    obtain ⟨ad12, rfl⟩ := C_some hC (k := k5) (by omega)
    refine ty_take 4 17 (.pointer (some (ad12.add (k5 * 3)))) (pok_cont pok_body) ?_ M11 (fun _ _ _ => ri (ad := ad12) (n := l.length) (c := c) k5 3 (by omega) Try.underlying22)
    refine ty_take 5 18 (.pointer (some ((ad12.add (k5 * 3)).add 1))) (pok_cont pok_body) ?_ M11 (fun _ _ _ => by kernel_rfl)
    obtain ⟨cs15, hk13, hc14⟩ := C_cell hC Blk.z k5 (by omega)
    obtain ⟨A16, c17, rfl, hl18, hC19⟩ := kBlk_open hk13
    refine ty_take 6 19 (.int .i64 (l.getD k5 Blk.z).pos) (pok_cont pok_body) ?_ M11 (fun _ M' _ => re (cell_up M' (hc14 1 _ rfl)))
    refine ty_take 7 20 (.bool (decide (a ≥ (l.getD k5 Blk.z).pos))) (pok_cont pok_body) ?_ M11 (fun _ _ _ => by kernel_rfl)
    refine ty_take 8 21 (.bool (decide (a ≥ (l.getD k5 Blk.z).pos))) (pok_cont pok_body) ?_ M11 (fun _ _ _ => by kernel_rfl)
    rcases h20 : (decide (a ≥ (l.getD k5 Blk.z).pos) : Bool) with _ | _
    · have h20p := of_decide_eq_false h20
      refine ty_pass 9 22 (pok_cont pok_body) ?_ M11
      refine ty_pass 10 23 (pok_cont pok_body) ?_ M11
      refine ty_pass 11 24 (pok_cont pok_body) ?_ M11
      refine ty_pass 12 25 (pok_cont pok_body) ?_ M11
      refine ty_pass 13 26 (pok_cont pok_body) ?_ M11
      refine ty_pass 14 27 (pok_cont pok_body) ?_ M11
      refine ty_pass 15 28 (pok_cont pok_body) ?_ M11
      refine ty_pass 16 29 (pok_cont pok_body) ?_ M11
      refine ty_pass 17 30 (pok_cont pok_body) ?_ M11
      refine ty_pass 18 31 (pok_cont pok_body) ?_ M11
      refine ty_pass 19 32 (pok_cont pok_body) ?_ M11
      refine ty_pass 20 33 (pok_cont pok_body) ?_ M11
      refine ty_pass 21 34 (pok_cont pok_body) ?_ M11
      refine ty_pass 22 35 (pok_cont pok_body) ?_ M11
      refine ty_pass 23 36 (pok_cont pok_body) ?_ M11
      refine ty_pass 24 37 (pok_cont pok_body) ?_ M11
      refine ty_take 25 38 (.bool false) (pok_cont pok_body) ?_ M11 (fun _ _ _ => by kernel_rfl)
      refine ty_endL ?_
      refine tn_code (tc_cond_f (fun _ => rfl) (tc_skip (tn_blk (tn_code (tc_region ?_)))))
      refine sg 3 [1, 2, 5] [(1, .int .i64 a), (2, .pointer (some ⟨b1, 0, none⟩)), (5, .int .i64 (IntKind.wrap .i64 ((k5 : Int) + 1)))] ?_
      rw [show IntKind.wrap .i64 ((k5 : Int) + 1) = (((k5 + 1) : Nat) : Int) from wr_nat k5 1 (by omega)]
      refine to_end rfl ?_
      exact tn_back (k5 + 1) (Sub.cons rfl (Sub.cons rfl (Sub.cons rfl (Sub.nil _)))) ⟨by omega, step_no (p := (inBlk a)) (z := Blk.z) hi7 (by unfold inBlk Blk.fin; rw [Bool.and_eq_false_iff]; simp only [decide_eq_false_iff_not]; omega), M11⟩ (by omega)
    · have h20p := of_decide_eq_true h20
      refine ty_take 9 22 (.int .i64 a) (pok_cont pok_body) ?_ M11 (fun _ _ _ => by kernel_rfl)
      refine ty_take 10 23 (.pointer (some ⟨b1, 1, none⟩)) (pok_cont pok_body) ?_ M11 (fun _ _ _ => by kernel_rfl)
      refine ty_take 11 24 (.slice (some ad12) l.length c) (pok_cont pok_body) ?_ M11 (fun _ M' _ => rl M' 0)
      refine ty_take 12 25 (.int .i64 (k5 : Int)) (pok_cont pok_body) ?_ M11 (fun _ _ _ => by kernel_rfl)
      refine ty_take 13 26 (.pointer (some (ad12.add (k5 * 3)))) (pok_cont pok_body) ?_ M11 (fun _ _ _ => ri (ad := ad12) (n := l.length) (c := c) k5 3 (by omega) Try.underlying22)
      refine ty_take 14 27 (.pointer (some ((ad12.add (k5 * 3)).add 1))) (pok_cont pok_body) ?_ M11 (fun _ _ _ => by kernel_rfl)
      refine ty_take 15 28 (.int .i64 (l.getD k5 Blk.z).pos) (pok_cont pok_body) ?_ M11 (fun _ M' _ => re (cell_up M' (hc14 1 _ rfl)))
      refine ty_take 16 29 (.int .i64 (IntKind.wrap .i64 (a - (l.getD k5 Blk.z).pos))) (pok_cont pok_body) ?_ M11 (fun _ _ _ => by kernel_rfl)
      rw [wr_i64 (x := a - (l.getD k5 Blk.z).pos) (by omega) (by omega)]
      refine ty_take 17 30 (.pointer (some ⟨b1, 1, none⟩)) (pok_cont pok_body) ?_ M11 (fun _ _ _ => by kernel_rfl)
      refine ty_take 18 31 (.slice (some ad12) l.length c) (pok_cont pok_body) ?_ M11 (fun _ M' _ => rl M' 0)
      refine ty_take 19 32 (.int .i64 (k5 : Int)) (pok_cont pok_body) ?_ M11 (fun _ _ _ => by kernel_rfl)
      refine ty_take 20 33 (.pointer (some (ad12.add (k5 * 3)))) (pok_cont pok_body) ?_ M11 (fun _ _ _ => ri (ad := ad12) (n := l.length) (c := c) k5 3 (by omega) Try.underlying22)
      refine ty_take 21 34 (.pointer (some ((ad12.add (k5 * 3)).add 2))) (pok_cont pok_body) ?_ M11 (fun _ _ _ => by kernel_rfl)
      refine ty_take 22 35 (.slice A16 (l.getD k5 Blk.z).w.length c17) (pok_cont pok_body) ?_ M11 (fun _ M' _ => re (cell_up M' (hc14 2 _ rfl)))
      refine ty_take 23 36 (.int .i64 ((l.getD k5 Blk.z).w.length : Int)) (pok_cont pok_body) ?_ M11 (fun _ _ _ => by kernel_rfl)
      refine ty_take 24 37 (.bool (decide ((a - (l.getD k5 Blk.z).pos) < ((l.getD k5 Blk.z).w.length : Int)))) (pok_cont pok_body) ?_ M11 (fun _ _ _ => by kernel_rfl)
      refine ty_take 25 38 (.bool (decide ((a - (l.getD k5 Blk.z).pos) < ((l.getD k5 Blk.z).w.length : Int)))) (pok_cont pok_body) ?_ M11 (fun _ _ _ => by kernel_rfl)
      refine ty_endL ?_
      refine tn_code ?_
      refine tc_cond (b := decide ((a - (l.getD k5 Blk.z).pos) < ((l.getD k5 Blk.z).w.length : Int))) (fun _ => rfl) (fun h21 => ?_) (fun h21 => ?_)
      · have h21p := of_decide_eq_true h21
        refine tc_seq (tc_region ?_)
        refine sg 2 [4] [(4, .int .i64 (k5 : Int))] ?_
        refine to_end rfl (tn_code (tc_ret ?_))
        refine tr_tmp rfl rfl ?_
        exact ⟨congrArg Ending.returned (congrArg (Value.int .i64) (idxF_at (p := (inBlk a)) (z := Blk.z) (by omega) hi7 (by unfold inBlk Blk.fin; rw [Bool.and_eq_true]; simp only [decide_eq_true_eq]; omega))), M11.below⟩
      · have h21p := of_decide_eq_false h21
        refine tc_skip (tn_blk (tn_code (tc_region ?_)))
        refine sg 3 [1, 2, 5] [(1, .int .i64 a), (2, .pointer (some ⟨b1, 0, none⟩)), (5, .int .i64 (IntKind.wrap .i64 ((k5 : Int) + 1)))] ?_
        rw [show IntKind.wrap .i64 ((k5 : Int) + 1) = (((k5 + 1) : Nat) : Int) from wr_nat k5 1 (by omega)]
        refine to_end rfl ?_
        exact tn_back (k5 + 1) (Sub.cons rfl (Sub.cons rfl (Sub.cons rfl (Sub.nil _)))) ⟨by omega, step_no (p := (inBlk a)) (z := Blk.z) hi7 (by unfold inBlk Blk.fin; rw [Bool.and_eq_false_iff]; simp only [decide_eq_false_iff_not]; omega), M11⟩ (by omega)
  · have h10p := of_decide_eq_false h10
    refine tc_exitK (k' := _) rfl (tn_code (tc_seq (tc_region ?_)))
    refine sg 1 [4] [(4, .int .i64 (-1))] ?_
    refine to_end rfl (tn_code (tc_ret ?_))
    refine tr_tmp rfl rfl ?_
    exact ⟨congrArg Ending.returned (congrArg (Value.int .i64) (idxF_no (p := (inBlk a)) (z := Blk.z) (fun j hj => hi7 j (by omega)))), M9.below⟩

set_option linter.unusedSimpArgs false in
theorem of_some (cap : Int) (l : List Blk) (A : Option Addr) (c : Nat) (a : Int) (w : World) (hC : kBlk.C w A l.length l) : Calls Try.prog 78 #[.agg #[.int .i64 cap, .slice A l.length c], .int .i64 a] w fun e w' => ∃ i : Int, e = .returned (.int .i64 i) ∧ Below w.heap.size w w' := by
  have M := Mem.refl w
  have hmx := C_max hC
  refine calls_tc (N := 40) (args := [.agg #[.int .i64 cap, .slice A l.length c], .int .i64 a]) Try.func78 rfl rfl rfl ?_
  refine tc_seq (tc_region ?_)
  refine nw M 2 #[.int .i64 cap, .slice A l.length c] 24 fun b1 w2 M3 => ?_
  refine sg 1 [1, 2] [(1, .int .i64 a), (2, .pointer (some ⟨b1, 0, none⟩))] ?_
  refine to_end rfl (tn_code (tc_seq (tc_seq (tc_region ?_))))
  refine sg 1 [1, 2, 5] [(1, .int .i64 a), (2, .pointer (some ⟨b1, 0, none⟩)), (5, .int .i64 0)] ?_
  refine to_end rfl (tn_code (tc_block ?_))
  refine tc_loop (σ := Nat) (fun k5 => [(1, .int .i64 a), (2, .pointer (some ⟨b1, 0, none⟩)), (5, .int .i64 (k5 : Int))]) (fun k5 w' => k5 ≤ l.length ∧ True ∧ Mem w w' [blk b1 #[.int .i64 cap, .slice A l.length c] 24]) (fun k5 => l.length - k5) 0 (Sub.cons rfl (Sub.cons rfl (Sub.cons rfl (Sub.nil _)))) ⟨Nat.zero_le _, trivial, M3⟩ ?_
  rintro k5 w8 ⟨hk6, hi7, M9⟩
  refine tc_seq (tc_seq (tc_region ?_))
  refine sg 2 [1, 2, 5, 6, 7] [(1, .int .i64 a), (2, .pointer (some ⟨b1, 0, none⟩)), (5, .int .i64 (k5 : Int)), (6, .int .i64 (k5 : Int)), (7, .pointer (some ⟨b1, 1, none⟩))] ?_
  refine ld M9 0 8 (.slice A l.length c) ?_
  refine sg 2 [1, 2, 5, 10] [(1, .int .i64 a), (2, .pointer (some ⟨b1, 0, none⟩)), (5, .int .i64 (k5 : Int)), (10, .bool (decide ((k5 : Int) < (l.length : Int))))] ?_
  refine to_end rfl (tn_code ?_)
  refine tc_cond (b := decide ((k5 : Int) < (l.length : Int))) (fun _ => rfl) (fun h10 => ?_) (fun h10 => ?_)
  · have h10p := of_decide_eq_true h10
    refine tc_skip (tn_code (tc_seq (tc_block (tc_seq ?_))))
    refine tc_drawL (fun w' => Mem w w' ([blk b1 #[.int .i64 cap, .slice A l.length c] 24])) [] (by kernel_rfl) ?_
    have M11 := M9.draw
    refine ty_take 0 13 (.int .i64 a) (pok_cont pok_body) ?_ M11 (fun _ _ _ => by kernel_rfl)
    refine ty_take 1 14 (.pointer (some ⟨b1, 1, none⟩)) (pok_cont pok_body) ?_ M11 (fun _ _ _ => by kernel_rfl)
    refine ty_take 2 15 (.slice A l.length c) (pok_cont pok_body) ?_ M11 (fun _ M' _ => rl M' 0)
    refine ty_take 3 16 (.int .i64 (k5 : Int)) (pok_cont pok_body) ?_ M11 (fun _ _ _ => by kernel_rfl)
    obtain ⟨ad12, rfl⟩ := C_some hC (k := k5) (by omega)
    refine ty_take 4 17 (.pointer (some (ad12.add (k5 * 3)))) (pok_cont pok_body) ?_ M11 (fun _ _ _ => ri (ad := ad12) (n := l.length) (c := c) k5 3 (by omega) Try.underlying22)
    refine ty_take 5 18 (.pointer (some ((ad12.add (k5 * 3)).add 1))) (pok_cont pok_body) ?_ M11 (fun _ _ _ => by kernel_rfl)
    obtain ⟨cs15, hk13, hc14⟩ := C_cell hC Blk.z k5 (by omega)
    obtain ⟨A16, c17, rfl, hl18, hC19⟩ := kBlk_open hk13
    refine ty_take 6 19 (.int .i64 (l.getD k5 Blk.z).pos) (pok_cont pok_body) ?_ M11 (fun _ M' _ => re (cell_up M' (hc14 1 _ rfl)))
    refine ty_take 7 20 (.bool (decide (a ≥ (l.getD k5 Blk.z).pos))) (pok_cont pok_body) ?_ M11 (fun _ _ _ => by kernel_rfl)
    refine ty_take 8 21 (.bool (decide (a ≥ (l.getD k5 Blk.z).pos))) (pok_cont pok_body) ?_ M11 (fun _ _ _ => by kernel_rfl)
    rcases h20 : (decide (a ≥ (l.getD k5 Blk.z).pos) : Bool) with _ | _
    · have h20p := of_decide_eq_false h20
      refine ty_pass 9 22 (pok_cont pok_body) ?_ M11
      refine ty_pass 10 23 (pok_cont pok_body) ?_ M11
      refine ty_pass 11 24 (pok_cont pok_body) ?_ M11
      refine ty_pass 12 25 (pok_cont pok_body) ?_ M11
      refine ty_pass 13 26 (pok_cont pok_body) ?_ M11
      refine ty_pass 14 27 (pok_cont pok_body) ?_ M11
      refine ty_pass 15 28 (pok_cont pok_body) ?_ M11
      refine ty_pass 16 29 (pok_cont pok_body) ?_ M11
      refine ty_pass 17 30 (pok_cont pok_body) ?_ M11
      refine ty_pass 18 31 (pok_cont pok_body) ?_ M11
      refine ty_pass 19 32 (pok_cont pok_body) ?_ M11
      refine ty_pass 20 33 (pok_cont pok_body) ?_ M11
      refine ty_pass 21 34 (pok_cont pok_body) ?_ M11
      refine ty_pass 22 35 (pok_cont pok_body) ?_ M11
      refine ty_pass 23 36 (pok_cont pok_body) ?_ M11
      refine ty_pass 24 37 (pok_cont pok_body) ?_ M11
      refine ty_take 25 38 (.bool false) (pok_cont pok_body) ?_ M11 (fun _ _ _ => by kernel_rfl)
      refine ty_endL ?_
      refine tn_code (tc_cond_f (fun _ => rfl) (tc_skip (tn_blk (tn_code (tc_region ?_)))))
      refine sg 3 [1, 2, 5] [(1, .int .i64 a), (2, .pointer (some ⟨b1, 0, none⟩)), (5, .int .i64 (IntKind.wrap .i64 ((k5 : Int) + 1)))] ?_
      rw [show IntKind.wrap .i64 ((k5 : Int) + 1) = (((k5 + 1) : Nat) : Int) from wr_nat k5 1 (by omega)]
      refine to_end rfl ?_
      exact tn_back (k5 + 1) (Sub.cons rfl (Sub.cons rfl (Sub.cons rfl (Sub.nil _)))) ⟨by omega, trivial, M11⟩ (by omega)
    · have h20p := of_decide_eq_true h20
      refine ty_take 9 22 (.int .i64 a) (pok_cont pok_body) ?_ M11 (fun _ _ _ => by kernel_rfl)
      refine ty_take 10 23 (.pointer (some ⟨b1, 1, none⟩)) (pok_cont pok_body) ?_ M11 (fun _ _ _ => by kernel_rfl)
      refine ty_take 11 24 (.slice (some ad12) l.length c) (pok_cont pok_body) ?_ M11 (fun _ M' _ => rl M' 0)
      refine ty_take 12 25 (.int .i64 (k5 : Int)) (pok_cont pok_body) ?_ M11 (fun _ _ _ => by kernel_rfl)
      refine ty_take 13 26 (.pointer (some (ad12.add (k5 * 3)))) (pok_cont pok_body) ?_ M11 (fun _ _ _ => ri (ad := ad12) (n := l.length) (c := c) k5 3 (by omega) Try.underlying22)
      refine ty_take 14 27 (.pointer (some ((ad12.add (k5 * 3)).add 1))) (pok_cont pok_body) ?_ M11 (fun _ _ _ => by kernel_rfl)
      refine ty_take 15 28 (.int .i64 (l.getD k5 Blk.z).pos) (pok_cont pok_body) ?_ M11 (fun _ M' _ => re (cell_up M' (hc14 1 _ rfl)))
      refine ty_take 16 29 (.int .i64 (IntKind.wrap .i64 (a - (l.getD k5 Blk.z).pos))) (pok_cont pok_body) ?_ M11 (fun _ _ _ => by kernel_rfl)
      refine ty_take 17 30 (.pointer (some ⟨b1, 1, none⟩)) (pok_cont pok_body) ?_ M11 (fun _ _ _ => by kernel_rfl)
      refine ty_take 18 31 (.slice (some ad12) l.length c) (pok_cont pok_body) ?_ M11 (fun _ M' _ => rl M' 0)
      refine ty_take 19 32 (.int .i64 (k5 : Int)) (pok_cont pok_body) ?_ M11 (fun _ _ _ => by kernel_rfl)
      refine ty_take 20 33 (.pointer (some (ad12.add (k5 * 3)))) (pok_cont pok_body) ?_ M11 (fun _ _ _ => ri (ad := ad12) (n := l.length) (c := c) k5 3 (by omega) Try.underlying22)
      refine ty_take 21 34 (.pointer (some ((ad12.add (k5 * 3)).add 2))) (pok_cont pok_body) ?_ M11 (fun _ _ _ => by kernel_rfl)
      refine ty_take 22 35 (.slice A16 (l.getD k5 Blk.z).w.length c17) (pok_cont pok_body) ?_ M11 (fun _ M' _ => re (cell_up M' (hc14 2 _ rfl)))
      refine ty_take 23 36 (.int .i64 ((l.getD k5 Blk.z).w.length : Int)) (pok_cont pok_body) ?_ M11 (fun _ _ _ => by kernel_rfl)
      refine ty_take 24 37 (.bool (decide ((IntKind.wrap .i64 (a - (l.getD k5 Blk.z).pos)) < ((l.getD k5 Blk.z).w.length : Int)))) (pok_cont pok_body) ?_ M11 (fun _ _ _ => by kernel_rfl)
      refine ty_take 25 38 (.bool (decide ((IntKind.wrap .i64 (a - (l.getD k5 Blk.z).pos)) < ((l.getD k5 Blk.z).w.length : Int)))) (pok_cont pok_body) ?_ M11 (fun _ _ _ => by kernel_rfl)
      refine ty_endL ?_
      refine tn_code ?_
      refine tc_cond (b := decide ((IntKind.wrap .i64 (a - (l.getD k5 Blk.z).pos)) < ((l.getD k5 Blk.z).w.length : Int))) (fun _ => rfl) (fun h21 => ?_) (fun h21 => ?_)
      · have h21p := of_decide_eq_true h21
        refine tc_seq (tc_region ?_)
        refine sg 2 [4] [(4, .int .i64 (k5 : Int))] ?_
        refine to_end rfl (tn_code (tc_ret ?_))
        refine tr_tmp rfl rfl ?_
        exact ⟨_, rfl, M11.below⟩
      · have h21p := of_decide_eq_false h21
        refine tc_skip (tn_blk (tn_code (tc_region ?_)))
        refine sg 3 [1, 2, 5] [(1, .int .i64 a), (2, .pointer (some ⟨b1, 0, none⟩)), (5, .int .i64 (IntKind.wrap .i64 ((k5 : Int) + 1)))] ?_
        rw [show IntKind.wrap .i64 ((k5 : Int) + 1) = (((k5 + 1) : Nat) : Int) from wr_nat k5 1 (by omega)]
        refine to_end rfl ?_
        exact tn_back (k5 + 1) (Sub.cons rfl (Sub.cons rfl (Sub.cons rfl (Sub.nil _)))) ⟨by omega, trivial, M11⟩ (by omega)
  · have h10p := of_decide_eq_false h10
    refine tc_exitK (k' := _) rfl (tn_code (tc_seq (tc_region ?_)))
    refine sg 1 [4] [(4, .int .i64 (-1))] ?_
    refine to_end rfl (tn_code (tc_ret ?_))
    refine tr_tmp rfl rfl ?_
    exact ⟨_, rfl, M9.below⟩

set_option linter.unusedSimpArgs false in
theorem free_any (cap : Int) (l : List Blk) (A : Option Addr) (c : Nat) (a n : Int) (w : World) (hC : kBlk.C w A l.length l) (hm : mMay cap l = true) : Calls Try.prog 76 #[.agg #[.int .i64 cap, .slice A l.length c], .int .i64 a, .int .i64 n] w fun e w' => e = .returned (.bool (freeM cap l a n)) ∧ Below w.heap.size w w' := by
  have M := Mem.refl w
  have hmx := C_max hC
  have hcb := (mMay_iff.1 hm)
  have hc0 := hcb.1
  have hc1 := hcb.2.1
  clear hcb
  refine calls_tc (N := 35) (args := [.agg #[.int .i64 cap, .slice A l.length c], .int .i64 a, .int .i64 n]) Try.func76 rfl rfl rfl ?_
  refine tc_seq (tc_region ?_)
  refine nw M 3 #[.int .i64 cap, .slice A l.length c] 24 fun b1 w2 M3 => ?_
  refine sg 1 [1, 2, 3] [(1, .int .i64 a), (2, .int .i64 n), (3, .pointer (some ⟨b1, 0, none⟩))] ?_
  refine to_end rfl (tn_code (tc_seq (tc_seq (tc_region ?_))))
  refine join (fr' := [(1, .int .i64 a), (2, .int .i64 n), (3, .pointer (some ⟨b1, 0, none⟩)), (23, .bool (((decide (a < 0)) || (decide (a > cap))) || (decide (n > (cap - a)))))]) (fun hj_ => ?_) ?_
  · refine sg 3 [1, 2, 3, 10] [(1, .int .i64 a), (2, .int .i64 n), (3, .pointer (some ⟨b1, 0, none⟩)), (10, .bool (decide (a < 0)))] ?_
    rcases bdi (decide (a < 0) : Bool) with h4 | h4
    · have h4p := of_decide_eq_false h4
      rw [h4]
      refine sg 2 [1, 2, 3, 10, 11, 12] [(1, .int .i64 a), (2, .int .i64 n), (3, .pointer (some ⟨b1, 0, none⟩)), (10, .bool false), (11, .int .i64 a), (12, .pointer (some ⟨b1, 0, none⟩))] ?_
      refine ld M3 0 13 (.int .i64 cap) ?_
      refine sg 3 [1, 2, 3, 16] [(1, .int .i64 a), (2, .int .i64 n), (3, .pointer (some ⟨b1, 0, none⟩)), (16, .bool (decide (a > cap)))] ?_
      rcases bdi (decide (a > cap) : Bool) with h5 | h5
      · have h5p := of_decide_eq_false h5
        rw [h5]
        refine sg 2 [1, 2, 3, 16, 17, 18] [(1, .int .i64 a), (2, .int .i64 n), (3, .pointer (some ⟨b1, 0, none⟩)), (16, .bool false), (17, .int .i64 n), (18, .pointer (some ⟨b1, 0, none⟩))] ?_
        refine ld M3 0 19 (.int .i64 cap) ?_
        refine sg 2 [1, 2, 3, 16, 17, 21] [(1, .int .i64 a), (2, .int .i64 n), (3, .pointer (some ⟨b1, 0, none⟩)), (16, .bool false), (17, .int .i64 n), (21, .int .i64 (IntKind.wrap .i64 (cap - a)))] ?_
        rw [wr_i64 (x := cap - a) (by omega) (by omega)]
        refine sg 2 [1, 2, 3, 23] [(1, .int .i64 a), (2, .int .i64 n), (3, .pointer (some ⟨b1, 0, none⟩)), (23, .bool (decide (n > (cap - a))))] ?_
        refine to_end rfl ?_
        rw [show (((decide (a < 0)) || (decide (a > cap))) || (decide (n > (cap - a))) : Bool) = (decide (n > (cap - a))) from by (simp only [h4, h5, Bool.true_or, Bool.false_or, Bool.or_true, Bool.or_false, Bool.true_and, Bool.false_and, Bool.and_true, Bool.and_false, Bool.not_true, Bool.not_false, cond_true, cond_false, if_true, reduceIte]) <;> rfl] at hj_
        exact hj_.sub (Sub.cons rfl (Sub.cons rfl (Sub.cons rfl (Sub.cons rfl (Sub.nil _)))))
      · have h5p := of_decide_eq_true h5
        rw [h5]
        refine sg 7 [1, 2, 3, 23] [(1, .int .i64 a), (2, .int .i64 n), (3, .pointer (some ⟨b1, 0, none⟩)), (23, .bool true)] ?_
        refine to_end rfl ?_
        rw [show (((decide (a < 0)) || (decide (a > cap))) || (decide (n > (cap - a))) : Bool) = true from by (simp only [h4, h5, Bool.true_or, Bool.false_or, Bool.or_true, Bool.or_false, Bool.true_and, Bool.false_and, Bool.and_true, Bool.and_false, Bool.not_true, Bool.not_false, cond_true, cond_false, if_true, reduceIte]) <;> rfl] at hj_
        exact hj_.sub (Sub.cons rfl (Sub.cons rfl (Sub.cons rfl (Sub.cons rfl (Sub.nil _)))))
    · have h4p := of_decide_eq_true h4
      rw [h4]
      refine sg 13 [1, 2, 3, 23] [(1, .int .i64 a), (2, .int .i64 n), (3, .pointer (some ⟨b1, 0, none⟩)), (23, .bool true)] ?_
      refine to_end rfl ?_
      rw [show (((decide (a < 0)) || (decide (a > cap))) || (decide (n > (cap - a))) : Bool) = true from by (simp only [h4, Bool.true_or, Bool.false_or, Bool.or_true, Bool.or_false, Bool.true_and, Bool.false_and, Bool.and_true, Bool.and_false, Bool.not_true, Bool.not_false, cond_true, cond_false, if_true, reduceIte]) <;> rfl] at hj_
      exact hj_.sub (Sub.cons rfl (Sub.cons rfl (Sub.cons rfl (Sub.cons rfl (Sub.nil _)))))
  refine tn_code ?_
  refine tc_cond (b := ((decide (a < 0)) || (decide (a > cap))) || (decide (n > (cap - a)))) (fun _ => rfl) (fun h6 => ?_) (fun h6 => ?_)
  · have h6p := h6
    simp only [Bool.or_eq_true, Bool.and_eq_true, Bool.or_eq_false_iff, Bool.and_eq_false_iff, decide_eq_true_eq, decide_eq_false_iff_not, beq_iff_eq, bne_iff_ne, beq_eq_false_iff_ne, bne_eq_false_iff_eq, Bool.not_eq_true', Bool.not_eq_false', ne_eq] at h6p
    refine tc_seq (tc_region ?_)
    refine sg 1 [6] [(6, .bool false)] ?_
    refine to_end rfl (tn_code (tc_ret ?_))
    refine tr_tmp rfl rfl ?_
    exact ⟨congrArg Ending.returned (congrArg Value.bool (free_out (by omega))), M3.below⟩
  · have h6p := h6
    simp only [Bool.or_eq_true, Bool.and_eq_true, Bool.or_eq_false_iff, Bool.and_eq_false_iff, decide_eq_true_eq, decide_eq_false_iff_not, beq_iff_eq, bne_iff_ne, beq_eq_false_iff_ne, bne_eq_false_iff_eq, Bool.not_eq_true', Bool.not_eq_false', ne_eq] at h6p
    refine tc_skip (tn_code (tc_seq (tc_seq (tc_region ?_))))
    refine sg 1 [1, 2, 3, 7] [(1, .int .i64 a), (2, .int .i64 n), (3, .pointer (some ⟨b1, 0, none⟩)), (7, .int .i64 0)] ?_
    refine to_end rfl (tn_code (tc_block ?_))
    have hnn : n = ((n.toNat : Nat) : Int) ∨ n ≤ 0 := by omega
    refine tc_loop (σ := Nat) (fun k8 => [(1, .int .i64 a), (2, .int .i64 n), (3, .pointer (some ⟨b1, 0, none⟩)), (7, .int .i64 (k8 : Int))]) (fun k8 w' => k8 ≤ n.toNat ∧ (∀ j, j < k8 → ofM l (a + (j : Nat)) < 0) ∧ Mem w w' [blk b1 #[.int .i64 cap, .slice A l.length c] 24]) (fun k8 => n.toNat - k8) 0 (Sub.cons rfl (Sub.cons rfl (Sub.cons rfl (Sub.cons rfl (Sub.nil _))))) ⟨Nat.zero_le _, fun j hj => absurd hj (Nat.not_lt_zero _), M3⟩ ?_
    rintro k8 w11 ⟨hk9, hi10, M12⟩
    refine tc_seq (tc_seq (tc_region ?_))
    refine sg 3 [1, 2, 3, 7, 26] [(1, .int .i64 a), (2, .int .i64 n), (3, .pointer (some ⟨b1, 0, none⟩)), (7, .int .i64 (k8 : Int)), (26, .bool (decide ((k8 : Int) < n)))] ?_
    refine to_end rfl (tn_code ?_)
    refine tc_cond (b := decide ((k8 : Int) < n)) (fun _ => rfl) (fun h13 => ?_) (fun h13 => ?_)
    · have h13p := of_decide_eq_true h13
      refine tc_skip (tn_code (tc_seq (tc_block (tc_seq (tc_region ?_)))))
      refine la M12 0 29 #[.int .i64 cap, .slice A l.length c] (hu := Try.underlying24) ?_
      refine sg 3 [1, 2, 3, 7, 29, 32] [(1, .int .i64 a), (2, .int .i64 n), (3, .pointer (some ⟨b1, 0, none⟩)), (7, .int .i64 (k8 : Int)), (29, .agg #[.int .i64 cap, .slice A l.length c]), (32, .int .i64 (IntKind.wrap .i64 (a + (k8 : Int))))] ?_
      rw [wr_i64 (x := a + (k8 : Int)) (by omega) (by omega)]
      refine cb M12 33 (of_any cap l A c (a + (k8 : Int)) _ (C_up M12 hC) hm (by unfold I64; omega)) fun w14 hb16 M15 => ?_
      refine sg 1 [1, 2, 3, 7, 34] [(1, .int .i64 a), (2, .int .i64 n), (3, .pointer (some ⟨b1, 0, none⟩)), (7, .int .i64 (k8 : Int)), (34, .bool (decide ((ofM l (a + (k8 : Int))) ≥ 0)))] ?_
      refine to_end rfl (tn_code ?_)
      refine tc_cond (b := decide ((ofM l (a + (k8 : Int))) ≥ 0)) (fun _ => rfl) (fun h17 => ?_) (fun h17 => ?_)
      · have h17p := of_decide_eq_true h17
        refine tc_seq (tc_region ?_)
        refine sg 1 [6] [(6, .bool false)] ?_
        refine to_end rfl (tn_code (tc_ret ?_))
        refine tr_tmp rfl rfl ?_
        exact ⟨congrArg Ending.returned (congrArg Value.bool (free_no (k := k8) (by omega) h17p)), M15.below⟩
      · have h17p := of_decide_eq_false h17
        refine tc_skip (tn_blk (tn_code (tc_region ?_)))
        refine sg 3 [1, 2, 3, 7] [(1, .int .i64 a), (2, .int .i64 n), (3, .pointer (some ⟨b1, 0, none⟩)), (7, .int .i64 (IntKind.wrap .i64 ((k8 : Int) + 1)))] ?_
        rw [show IntKind.wrap .i64 ((k8 : Int) + 1) = (((k8 + 1) : Nat) : Int) from wr_nat k8 1 (by omega)]
        refine to_end rfl ?_
        exact tn_back (k8 + 1) (Sub.cons rfl (Sub.cons rfl (Sub.cons rfl (Sub.cons rfl (Sub.nil _))))) ⟨by omega, lt_step hi10 (by have h_ := h17p; omega), M15⟩ (by omega)
    · have h13p := of_decide_eq_false h13
      refine tc_exitK (k' := _) rfl (tn_code (tc_seq (tc_region ?_)))
      refine sg 1 [6] [(6, .bool true)] ?_
      refine to_end rfl (tn_code (tc_ret ?_))
      refine tr_tmp rfl rfl ?_
      exact ⟨congrArg Ending.returned (congrArg Value.bool (free_yes (k := k8) (by omega) (by omega) (by omega) (by omega) hi10)), M12.below⟩
end Go.Proofs.Ytfknhbgghpbkpaa
