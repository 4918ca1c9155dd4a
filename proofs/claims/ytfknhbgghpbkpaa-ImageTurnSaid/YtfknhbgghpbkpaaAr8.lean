/- Layer 13, the program: put. -/
import Derived.Test.YtfknhbgghpbkpaaArL
import Derived.Test.YtfknhbgghpbkpaaAr7
namespace Go.Proofs.Ytfknhbgghpbkpaa
open Go.RowKit Cal Go.Proofs.YtfknhbgghpbkpaaW.PrintWords
theorem pos_lt {l : List Blk} {a : Int} {k : Nat} (h : ∀ j, j < k → (l.getD j Blk.z).pos < a) (e : (l.getD k Blk.z).pos < a) : ∀ j, j < k + 1 → (l.getD j Blk.z).pos < a := fun j hj => by
  rcases Nat.lt_succ_iff_lt_or_eq.1 hj with h1 | h1
  · exact h j h1
  · subst h1; exact e

set_option linter.unusedSimpArgs false in
theorem put13_any (cap : Int) (l : List Blk) (A : Option Addr) (c : Nat) (id a : Int) (Aw : Option Addr) (cws : Nat) (ws : List Int) (w : World) (hC : kBlk.C w A l.length l) (hcl : l.length ≤ c) (hsm : ∀ j, (l.getD j Blk.z).w.length ≤ 1000000) (hlm : l.length ≤ 1000000) (hW : kW.C w Aw ws.length ws) (hcw : ws.length ≤ cws) (hwl : ws.length ≤ 1000000) : Calls Try.prog 18 #[.agg #[.int .i64 cap, .slice A l.length c], .int .i64 id, .int .i64 a, .slice Aw ws.length cws] w fun e w' => ∃ A' c', e = .returned (.tuple #[.agg #[.int .i64 (putM cap l id a ws).1.1, .slice A' (putM cap l id a ws).1.2.length c'], .int .i64 (putM cap l id a ws).2]) ∧ Mem w w' [rdE kBlk A' (putM cap l id a ws).1.2] ∧ (putM cap l id a ws).1.2.length ≤ c' := by
  have M := Mem.refl w
  have hmx := C_max hC
  refine calls_tcQ (N := 100) (args := [.agg #[.int .i64 cap, .slice A l.length c], .int .i64 id, .int .i64 a, .slice Aw ws.length cws]) Try.func18 rfl rfl rfl ?_
  refine tc_seq (tc_region ?_)
  refine nw M 4 #[.int .i64 cap, .slice A l.length c] 24 fun b1 w2 M3 => ?_
  refine nw M3 6 #[.int .i64 a] 3 fun b4 w5 M6 => ?_
  refine nw M6 7 #[.slice Aw ws.length cws] 25 fun b7 w8 M9 => ?_
  refine nw M9 8 #[.int .i64 0, .slice none 0 0] 24 fun b10 w11 M12 => ?_
  refine sg 1 [1, 4, 6, 7, 8] [(1, .int .i64 id), (4, .pointer (some ⟨b1, 0, none⟩)), (6, .pointer (some ⟨b4, 0, none⟩)), (7, .pointer (some ⟨b7, 0, none⟩)), (8, .pointer (some ⟨b10, 0, none⟩))] ?_
  refine to_end rfl (tn_code (tc_seq (tc_seq (tc_region ?_))))
  refine la M12 3 15 #[.int .i64 cap, .slice A l.length c] (hu := Try.underlying24) ?_
  refine cb M12 16 (may13_any cap l A c _ (C_up M12 hC) hsm) fun w13 hb15 M14 => ?_
  refine sg 2 [1, 4, 6, 7, 8, 18] [(1, .int .i64 id), (4, .pointer (some ⟨b1, 0, none⟩)), (6, .pointer (some ⟨b4, 0, none⟩)), (7, .pointer (some ⟨b7, 0, none⟩)), (8, .pointer (some ⟨b10, 0, none⟩)), (18, .bool (!(mMay cap l)))] ?_
  rcases h16 : (mMay cap l : Bool) with _ | _
  · refine sg 8 [1, 4, 6, 7, 8, 26] [(1, .int .i64 id), (4, .pointer (some ⟨b1, 0, none⟩)), (6, .pointer (some ⟨b4, 0, none⟩)), (7, .pointer (some ⟨b7, 0, none⟩)), (8, .pointer (some ⟨b10, 0, none⟩)), (26, .bool true)] ?_
    refine to_end rfl (tn_code (tc_cond_t (fun _ => rfl) (tc_seq (tc_region ?_))))
    refine sg 1 [8, 27] [(8, .pointer (some ⟨b10, 0, none⟩)), (27, .agg #[.int .i64 0, .slice none 0 0])] ?_
    refine sa M14 0 #[.int .i64 0, .slice none 0 0] fun w17 M18 => ?_
    refine sg 1 [8, 9] [(8, .pointer (some ⟨b10, 0, none⟩)), (9, .int .i64 1)] ?_
    refine to_end rfl (tn_code (tc_ret ?_))
    refine tr_nom ?_
    refine tr_cell_tmp M18 0 rfl rfl rfl rfl Try.underlying24 rfl (by kernel_rfl) ?_
    have he : putM cap l id a ws = ((0, []), 1) := put_no (.inl h16)
    have M19 := ((((((M18.drop 3).drop 2).drop 1).drop 0)).nilrow kBlk 103).rd_row
    rw [he]
    exact ⟨none, 0, rfl, M19, Nat.le_refl _⟩
  · refine sg 4 [1, 4, 6, 7, 8, 22] [(1, .int .i64 id), (4, .pointer (some ⟨b1, 0, none⟩)), (6, .pointer (some ⟨b4, 0, none⟩)), (7, .pointer (some ⟨b7, 0, none⟩)), (8, .pointer (some ⟨b10, 0, none⟩)), (22, .bool (decide (id < 1)))] ?_
    rcases h20 : (decide (id < 1) : Bool) with _ | _
    · have h20p := of_decide_eq_false h20
      refine ld M14 1 23 (.slice Aw ws.length cws) ?_
      refine sg 3 [1, 4, 6, 7, 8, 26] [(1, .int .i64 id), (4, .pointer (some ⟨b1, 0, none⟩)), (6, .pointer (some ⟨b4, 0, none⟩)), (7, .pointer (some ⟨b7, 0, none⟩)), (8, .pointer (some ⟨b10, 0, none⟩)), (26, .bool ((ws.length : Int) == 0))] ?_
      refine to_end rfl (tn_code ?_)
      refine tc_cond (b := (ws.length : Int) == 0) (fun _ => rfl) (fun h21 => ?_) (fun h21 => ?_)
      · have h21p := beq_iff_eq.1 h21
        refine tc_seq (tc_region ?_)
        refine sg 1 [8, 27] [(8, .pointer (some ⟨b10, 0, none⟩)), (27, .agg #[.int .i64 0, .slice none 0 0])] ?_
        refine sa M14 0 #[.int .i64 0, .slice none 0 0] fun w22 M23 => ?_
        refine sg 1 [8, 9] [(8, .pointer (some ⟨b10, 0, none⟩)), (9, .int .i64 1)] ?_
        refine to_end rfl (tn_code (tc_ret ?_))
        refine tr_nom ?_
        refine tr_cell_tmp M23 0 rfl rfl rfl rfl Try.underlying24 rfl (by kernel_rfl) ?_
        have he : putM cap l id a ws = ((0, []), 1) := put_no (.inr (.inr (by omega)))
        have M24 := ((((((M23.drop 3).drop 2).drop 1).drop 0)).nilrow kBlk 103).rd_row
        rw [he]
        exact ⟨none, 0, rfl, M24, Nat.le_refl _⟩
      · have h21p := beq_eq_false_iff_ne.1 h21
        refine tc_skip (tn_code (tc_seq (tc_region ?_)))
        refine la M14 3 28 #[.int .i64 cap, .slice A l.length c] (hu := Try.underlying24) ?_
        refine sg 1 [1, 4, 6, 7, 8, 28, 29] [(1, .int .i64 id), (4, .pointer (some ⟨b1, 0, none⟩)), (6, .pointer (some ⟨b4, 0, none⟩)), (7, .pointer (some ⟨b7, 0, none⟩)), (8, .pointer (some ⟨b10, 0, none⟩)), (28, .agg #[.int .i64 cap, .slice A l.length c]), (29, .int .i64 id)] ?_
        refine cb M14 30 (at_any cap l A c id _ (C_up M14 hC)) fun w25 hb27 M26 => ?_
        refine sg 2 [1, 4, 6, 7, 8, 10] [(1, .int .i64 id), (4, .pointer (some ⟨b1, 0, none⟩)), (6, .pointer (some ⟨b4, 0, none⟩)), (7, .pointer (some ⟨b7, 0, none⟩)), (8, .pointer (some ⟨b10, 0, none⟩)), (10, .bool (decide ((idM l id) < 0)))] ?_
        refine to_end rfl (tn_code (tc_seq (tc_region ?_)))
        refine nw M26 11 #[.bool false] 4 fun b28 w29 M30 => ?_
        refine st M30 0 #[.bool false] fun w31 M32 => ?_
        refine to_end rfl (tn_code (tc_seq (tc_seq (tc_region ?_))))
        refine la M32 4 32 #[.int .i64 cap, .slice A l.length c] (hu := Try.underlying24) ?_
        refine ce 33 (gaps_any cap l A c _) fun e33 w34 h35 => ?_
        obtain ⟨b36, rfl, hM37⟩ := h35
        have M38 := M32.join hM37
        refine ⟨_, rfl, ?_⟩
        refine to_end rfl (tn_code (tc_block ?_))
        have hx_b28 := M38.ends 1 rfl
        refine tc_range (α := Int × Int) (e0 := fun x => .int .i64 x.1) (e1 := fun x => .int .i64 x.2) (fun k => k = b28) (fun s_ => [blk b36 #[.int .i64 cap, .slice A l.length c] 24, blk b28 #[.bool (anyG a (ws.length : Int) s_)] 4, blk b10 #[.int .i64 0, .slice none 0 0] 24, blk b7 #[.slice Aw ws.length cws] 25, blk b4 #[.int .i64 a] 3, blk b1 #[.int .i64 cap, .slice A l.length c] 24]) (fun s_ => [blk b36 #[.int .i64 cap, .slice A l.length c] 24, blk b28 #[.bool (anyG a (ws.length : Int) s_)] 4, blk b10 #[.int .i64 0, .slice none 0 0] 24, blk b7 #[.slice Aw ws.length cws] 25, blk b4 #[.int .i64 a] 3, blk b1 #[.int .i64 cap, .slice A l.length c] 24]) (fun s_ => True) (fun s_ => False) (fun x45 => [(1, .int .i64 id), (4, .pointer (some ⟨b1, 0, none⟩)), (6, .pointer (some ⟨b4, 0, none⟩)), (7, .pointer (some ⟨b7, 0, none⟩)), (8, .pointer (some ⟨b10, 0, none⟩)), (10, .bool (decide ((idM l id) < 0))), (11, .pointer (some ⟨b28, 0, none⟩)), (12, .int .i64 x45.1), (13, .int .i64 x45.2)]) M38 trivial
          (by intro k_ hk_; rcases hk_ with rfl <;> omega)
          (by intro _; rfl) (by intro _ _; kernel_rfl) (gaps1_seq cap l A c b36 (fun k => k = b28) w w34 hC h16 M38.below (M38.blk_at 0 rfl) (fun k_ hk_ => by rw [show k_ = b28 from hk_]; exact ⟨by omega, ne_blk (M38.blk_at 1 rfl) (M38.blk_at 0 rfl) (by simp), by omega⟩)) rfl rfl ?_ ?_ ?_ ?_
        · intro lv_ x45 W_
          refine tci_seq (tci_region (fun _ _ h => h) ?_)
          refine sg 1 [1, 4, 6, 7, 8, 10, 11, 35, 12] [(1, .int .i64 id), (4, .pointer (some ⟨b1, 0, none⟩)), (6, .pointer (some ⟨b4, 0, none⟩)), (7, .pointer (some ⟨b7, 0, none⟩)), (8, .pointer (some ⟨b10, 0, none⟩)), (10, .bool (decide ((idM l id) < 0))), (11, .pointer (some ⟨b28, 0, none⟩)), (35, .int .i64 x45.2), (12, .int .i64 x45.1)] ?_
          refine to_end rfl (tn_i (tni_code (tci_region (fun _ _ h => h) ?_)))
          refine sg 1 [1, 4, 6, 7, 8, 10, 11, 12, 13] [(1, .int .i64 id), (4, .pointer (some ⟨b1, 0, none⟩)), (6, .pointer (some ⟨b4, 0, none⟩)), (7, .pointer (some ⟨b7, 0, none⟩)), (8, .pointer (some ⟨b10, 0, none⟩)), (10, .bool (decide ((idM l id) < 0))), (11, .pointer (some ⟨b28, 0, none⟩)), (12, .int .i64 x45.1), (13, .int .i64 x45.2)] ?_
          refine to_end rfl (tn_i ?_)
          exact tni_inv fun j_ a_ h_ => ⟨rfl, j_, h_⟩
        · intro lv_ s_ x45 W47 U46 hp_ hl_
          refine tci_block (tci_region (fun _ _ h => h) ?_)
          refine ld (U46.mem) 1 36 (.bool (anyG a (ws.length : Int) s_)) ?_
          refine sg 1 [1, 4, 6, 7, 8, 10, 11, 12, 13, 37] [(1, .int .i64 id), (4, .pointer (some ⟨b1, 0, none⟩)), (6, .pointer (some ⟨b4, 0, none⟩)), (7, .pointer (some ⟨b7, 0, none⟩)), (8, .pointer (some ⟨b10, 0, none⟩)), (10, .bool (decide ((idM l id) < 0))), (11, .pointer (some ⟨b28, 0, none⟩)), (12, .int .i64 x45.1), (13, .int .i64 x45.2), (37, .bool (anyG a (ws.length : Int) s_))] ?_
          rcases h48 : ((anyG a (ws.length : Int) s_) : Bool) with _ | _
          · rw [h48] at U46
            refine ld (U46.mem) 4 38 (.int .i64 a) ?_
            refine sg 3 [1, 4, 6, 7, 8, 10, 11, 13, 37, 41] [(1, .int .i64 id), (4, .pointer (some ⟨b1, 0, none⟩)), (6, .pointer (some ⟨b4, 0, none⟩)), (7, .pointer (some ⟨b7, 0, none⟩)), (8, .pointer (some ⟨b10, 0, none⟩)), (10, .bool (decide ((idM l id) < 0))), (11, .pointer (some ⟨b28, 0, none⟩)), (13, .int .i64 x45.2), (37, .bool false), (41, .bool (decide (a ≥ x45.1)))] ?_
            rcases h49 : (decide (a ≥ x45.1) : Bool) with _ | _
            · have h49p := of_decide_eq_false h49
              refine sg 13 [1, 4, 6, 7, 8, 10, 11, 54] [(1, .int .i64 id), (4, .pointer (some ⟨b1, 0, none⟩)), (6, .pointer (some ⟨b4, 0, none⟩)), (7, .pointer (some ⟨b7, 0, none⟩)), (8, .pointer (some ⟨b10, 0, none⟩)), (10, .bool (decide ((idM l id) < 0))), (11, .pointer (some ⟨b28, 0, none⟩)), (54, .bool false)] ?_
              refine stU U46 1 #[.bool false] rfl fun w50 U51 => ?_
              refine to_end rfl (tn_i (tni_blk ?_))
              have U52 : MU w w34.heap.size (fun k => k = b28) W47 w50 ([blk b36 #[.int .i64 cap, .slice A l.length c] 24, blk b28 #[.bool (anyG a (ws.length : Int) (s_ ++ [x45]))] 4, blk b10 #[.int .i64 0, .slice none 0 0] 24, blk b7 #[.slice Aw ws.length cws] 25, blk b4 #[.int .i64 a] 3, blk b1 #[.int .i64 cap, .slice A l.length c] 24]) := by rw [show anyG a (ws.length : Int) (s_ ++ [x45]) = false from by rw [anyG_snoc]; unfold fits; simp only [h48, h49, Bool.true_or, Bool.false_or, Bool.true_and, Bool.false_and, Bool.and_false, Bool.or_false]]; exact U51
              exact tni_go (by intro k_ hk_; rcases hk_ with rfl <;> omega) U52 trivial
            · have h49p := of_decide_eq_true h49
              refine ld (U46.mem) 4 42 (.int .i64 a) ?_
              refine sg 4 [1, 4, 6, 7, 8, 10, 11, 13, 37, 46] [(1, .int .i64 id), (4, .pointer (some ⟨b1, 0, none⟩)), (6, .pointer (some ⟨b4, 0, none⟩)), (7, .pointer (some ⟨b7, 0, none⟩)), (8, .pointer (some ⟨b10, 0, none⟩)), (10, .bool (decide ((idM l id) < 0))), (11, .pointer (some ⟨b28, 0, none⟩)), (13, .int .i64 x45.2), (37, .bool false), (46, .bool (decide (a < x45.2)))] ?_
              rcases h53 : (decide (a < x45.2) : Bool) with _ | _
              · have h53p := of_decide_eq_false h53
                refine sg 8 [1, 4, 6, 7, 8, 10, 11, 54] [(1, .int .i64 id), (4, .pointer (some ⟨b1, 0, none⟩)), (6, .pointer (some ⟨b4, 0, none⟩)), (7, .pointer (some ⟨b7, 0, none⟩)), (8, .pointer (some ⟨b10, 0, none⟩)), (10, .bool (decide ((idM l id) < 0))), (11, .pointer (some ⟨b28, 0, none⟩)), (54, .bool false)] ?_
                refine stU U46 1 #[.bool false] rfl fun w54 U55 => ?_
                refine to_end rfl (tn_i (tni_blk ?_))
                have U56 : MU w w34.heap.size (fun k => k = b28) W47 w54 ([blk b36 #[.int .i64 cap, .slice A l.length c] 24, blk b28 #[.bool (anyG a (ws.length : Int) (s_ ++ [x45]))] 4, blk b10 #[.int .i64 0, .slice none 0 0] 24, blk b7 #[.slice Aw ws.length cws] 25, blk b4 #[.int .i64 a] 3, blk b1 #[.int .i64 cap, .slice A l.length c] 24]) := by rw [show anyG a (ws.length : Int) (s_ ++ [x45]) = false from by rw [anyG_snoc]; unfold fits; simp only [h48, h49, h53, Bool.true_or, Bool.false_or, Bool.true_and, Bool.false_and, Bool.and_false, Bool.or_false]]; exact U55
                exact tni_go (by intro k_ hk_; rcases hk_ with rfl <;> omega) U56 trivial
              · have h53p := of_decide_eq_true h53
                refine ld (U46.mem) 3 47 (.slice Aw ws.length cws) ?_
                refine sg 2 [1, 4, 6, 7, 8, 10, 11, 37, 46, 48, 49] [(1, .int .i64 id), (4, .pointer (some ⟨b1, 0, none⟩)), (6, .pointer (some ⟨b4, 0, none⟩)), (7, .pointer (some ⟨b7, 0, none⟩)), (8, .pointer (some ⟨b10, 0, none⟩)), (10, .bool (decide ((idM l id) < 0))), (11, .pointer (some ⟨b28, 0, none⟩)), (37, .bool false), (46, .bool true), (48, .int .i64 (ws.length : Int)), (49, .int .i64 x45.2)] ?_
                refine ld (U46.mem) 4 50 (.int .i64 a) ?_
                refine sg 4 [1, 4, 6, 7, 8, 10, 11, 54] [(1, .int .i64 id), (4, .pointer (some ⟨b1, 0, none⟩)), (6, .pointer (some ⟨b4, 0, none⟩)), (7, .pointer (some ⟨b7, 0, none⟩)), (8, .pointer (some ⟨b10, 0, none⟩)), (10, .bool (decide ((idM l id) < 0))), (11, .pointer (some ⟨b28, 0, none⟩)), (54, .bool (decide ((ws.length : Int) ≤ (IntKind.wrap .i64 (x45.2 - a)))))] ?_
                refine stU U46 1 #[.bool (decide ((ws.length : Int) ≤ (IntKind.wrap .i64 (x45.2 - a))))] rfl fun w57 U58 => ?_
                refine to_end rfl (tn_i (tni_blk ?_))
                have U59 : MU w w34.heap.size (fun k => k = b28) W47 w57 ([blk b36 #[.int .i64 cap, .slice A l.length c] 24, blk b28 #[.bool (anyG a (ws.length : Int) (s_ ++ [x45]))] 4, blk b10 #[.int .i64 0, .slice none 0 0] 24, blk b7 #[.slice Aw ws.length cws] 25, blk b4 #[.int .i64 a] 3, blk b1 #[.int .i64 cap, .slice A l.length c] 24]) := by rw [show anyG a (ws.length : Int) (s_ ++ [x45]) = decide ((ws.length : Int) ≤ (IntKind.wrap .i64 (x45.2 - a))) from by rw [anyG_snoc]; unfold fits; simp only [h48, h49, h53, Bool.true_or, Bool.false_or, Bool.true_and, Bool.false_and, Bool.and_false, Bool.or_false]]; exact U58
                exact tni_go (by intro k_ hk_; rcases hk_ with rfl <;> omega) U59 trivial
          · rw [h48] at U46
            refine sg 17 [1, 4, 6, 7, 8, 10, 11, 54] [(1, .int .i64 id), (4, .pointer (some ⟨b1, 0, none⟩)), (6, .pointer (some ⟨b4, 0, none⟩)), (7, .pointer (some ⟨b7, 0, none⟩)), (8, .pointer (some ⟨b10, 0, none⟩)), (10, .bool (decide ((idM l id) < 0))), (11, .pointer (some ⟨b28, 0, none⟩)), (54, .bool true)] ?_
            refine stU U46 1 #[.bool true] rfl fun w60 U61 => ?_
            refine to_end rfl (tn_i (tni_blk ?_))
            have U62 : MU w w34.heap.size (fun k => k = b28) W47 w60 ([blk b36 #[.int .i64 cap, .slice A l.length c] 24, blk b28 #[.bool (anyG a (ws.length : Int) (s_ ++ [x45]))] 4, blk b10 #[.int .i64 0, .slice none 0 0] 24, blk b7 #[.slice Aw ws.length cws] 25, blk b4 #[.int .i64 a] 3, blk b1 #[.int .i64 cap, .slice A l.length c] 24]) := by rw [show anyG a (ws.length : Int) (s_ ++ [x45]) = true from by rw [anyG_snoc]; unfold fits; simp only [h48, Bool.true_or, Bool.false_or, Bool.true_and, Bool.false_and, Bool.and_false, Bool.or_false]]; exact U61
            exact tni_go (by intro k_ hk_; rcases hk_ with rfl <;> omega) U62 trivial
        · intro D63 xs64 w65 hS_ hp_ M66
          have hxs_ : xs64 = gapsF cap l := hS_
          refine tn_blk (tn_code (tc_seq (tc_seq (tc_region ?_))))
          refine join (fr' := [(1, .int .i64 id), (4, .pointer (some ⟨b1, 0, none⟩)), (6, .pointer (some ⟨b4, 0, none⟩)), (7, .pointer (some ⟨b7, 0, none⟩)), (8, .pointer (some ⟨b10, 0, none⟩)), (60, .bool ((!(decide ((idM l id) < 0))) || (!(anyG a (ws.length : Int) xs64))))]) (fun hj_ => ?_) ?_
          · refine sg 3 [1, 4, 6, 7, 8, 11, 57] [(1, .int .i64 id), (4, .pointer (some ⟨b1, 0, none⟩)), (6, .pointer (some ⟨b4, 0, none⟩)), (7, .pointer (some ⟨b7, 0, none⟩)), (8, .pointer (some ⟨b10, 0, none⟩)), (11, .pointer (some ⟨b28, 0, none⟩)), (57, .bool (!(decide ((idM l id) < 0))))] ?_
            rcases bdi (decide ((idM l id) < 0) : Bool) with h67 | h67
            · have h67p := of_decide_eq_false h67
              rw [h67]
              refine sg 3 [1, 4, 6, 7, 8, 60] [(1, .int .i64 id), (4, .pointer (some ⟨b1, 0, none⟩)), (6, .pointer (some ⟨b4, 0, none⟩)), (7, .pointer (some ⟨b7, 0, none⟩)), (8, .pointer (some ⟨b10, 0, none⟩)), (60, .bool true)] ?_
              refine to_end rfl ?_
              rw [show ((!(decide ((idM l id) < 0))) || (!(anyG a (ws.length : Int) xs64)) : Bool) = true from by (simp only [h67, Bool.true_or, Bool.false_or, Bool.or_true, Bool.or_false, Bool.true_and, Bool.false_and, Bool.and_true, Bool.and_false, Bool.not_true, Bool.not_false, cond_true, cond_false, if_true, reduceIte]) <;> rfl] at hj_
              exact hj_.sub (Sub.cons rfl (Sub.cons rfl (Sub.cons rfl (Sub.cons rfl (Sub.cons rfl (Sub.cons rfl (Sub.nil _)))))))
            · have h67p := of_decide_eq_true h67
              rw [h67]
              refine ld M66 2 58 (.bool (anyG a (ws.length : Int) xs64)) ?_
              refine sg 2 [1, 4, 6, 7, 8, 60] [(1, .int .i64 id), (4, .pointer (some ⟨b1, 0, none⟩)), (6, .pointer (some ⟨b4, 0, none⟩)), (7, .pointer (some ⟨b7, 0, none⟩)), (8, .pointer (some ⟨b10, 0, none⟩)), (60, .bool (!(anyG a (ws.length : Int) xs64)))] ?_
              refine to_end rfl ?_
              rw [show ((!(decide ((idM l id) < 0))) || (!(anyG a (ws.length : Int) xs64)) : Bool) = (!(anyG a (ws.length : Int) xs64)) from by (simp only [h67, Bool.true_or, Bool.false_or, Bool.or_true, Bool.or_false, Bool.true_and, Bool.false_and, Bool.and_true, Bool.and_false, Bool.not_true, Bool.not_false, cond_true, cond_false, if_true, reduceIte]) <;> rfl] at hj_
              exact hj_.sub (Sub.cons rfl (Sub.cons rfl (Sub.cons rfl (Sub.cons rfl (Sub.cons rfl (Sub.cons rfl (Sub.nil _)))))))
          refine tn_code ?_
          refine tc_cond (b := (!(decide ((idM l id) < 0))) || (!(anyG a (ws.length : Int) xs64))) (fun _ => rfl) (fun h68 => ?_) (fun h68 => ?_)
          · have h68p := h68
            simp only [Bool.or_eq_true, Bool.and_eq_true, Bool.or_eq_false_iff, Bool.and_eq_false_iff, decide_eq_true_eq, decide_eq_false_iff_not, beq_iff_eq, bne_iff_ne, beq_eq_false_iff_ne, bne_eq_false_iff_eq, Bool.not_eq_true', Bool.not_eq_false', ne_eq] at h68p
            refine tc_seq (tc_region ?_)
            refine sg 1 [8, 61] [(8, .pointer (some ⟨b10, 0, none⟩)), (61, .agg #[.int .i64 0, .slice none 0 0])] ?_
            refine sa M66 3 #[.int .i64 0, .slice none 0 0] fun w69 M70 => ?_
            refine sg 1 [8, 9] [(8, .pointer (some ⟨b10, 0, none⟩)), (9, .int .i64 4)] ?_
            refine to_end rfl (tn_code (tc_ret ?_))
            refine tr_mark M70 0 rfl fun w71 M72 => ?_
            refine tr_cell_tmp M72 2 rfl rfl rfl rfl Try.underlying24 rfl (by kernel_rfl) ?_
            have he : putM cap l id a ws = ((0, []), 4) := put_full (by rintro (h1_ | h1_ | h1_); rw [h16] at h1_; cases h1_; omega; omega) (by have h2_ := h68p; rcases h2_ with h_ | h_; exact .inl (by omega); exact .inr (by rw [← anyG_free h16 (by omega), ← hxs_]; exact h_))
            have M73 := ((((((((M72.drop 5).drop 4).drop 3).drop 2).drop 1).drop 0)).nilrow kBlk 103).rd_row
            rw [he]
            exact ⟨none, 0, rfl, M73, Nat.le_refl _⟩
          · have h68p := h68
            simp only [Bool.or_eq_true, Bool.and_eq_true, Bool.or_eq_false_iff, Bool.and_eq_false_iff, decide_eq_true_eq, decide_eq_false_iff_not, beq_iff_eq, bne_iff_ne, beq_eq_false_iff_ne, bne_eq_false_iff_eq, Bool.not_eq_true', Bool.not_eq_false', ne_eq] at h68p
            refine tc_skip (tn_code (tc_seq (tc_region ?_)))
            refine la M66 6 62 #[.int .i64 cap, .slice A l.length c] (hu := Try.underlying24) ?_
            refine ce 63 (own13_any cap l A c _ (C_up M66 hC) hsm hlm) fun e80 w81 h82 => ?_
            obtain ⟨A74, c75, vs76, he83, hM77, hok78⟩ := h82
            rw [← hok78.1] at he83
            subst he83
            have hvn : vs76.length = l.length := hok78.1
            have M79 := M66.join hM77
            refine ⟨_, rfl, ?_⟩
            refine sa M79 8 #[.int .i64 cap, .slice A74 vs76.length c75] fun w84 M85 => ?_
            refine to_end rfl (tn_code (tc_seq (tc_region ?_)))
            refine sg 1 [1, 4, 6, 7, 8, 14] [(1, .int .i64 id), (4, .pointer (some ⟨b1, 0, none⟩)), (6, .pointer (some ⟨b4, 0, none⟩)), (7, .pointer (some ⟨b7, 0, none⟩)), (8, .pointer (some ⟨b10, 0, none⟩)), (14, .int .i64 0)] ?_
            refine to_end rfl (tn_code (tc_seq (tc_block ?_)))
            refine tc_loop (σ := Nat) (fun s_ => match s_ with | k86 => [(1, .int .i64 id), (4, .pointer (some ⟨b1, 0, none⟩)), (6, .pointer (some ⟨b4, 0, none⟩)), (7, .pointer (some ⟨b7, 0, none⟩)), (8, .pointer (some ⟨b10, 0, none⟩)), (14, .int .i64 (k86 : Int))]) (fun s_ w' => match s_ with | k86 => (k86 ≤ l.length ∧ (∀ j, j < k86 → (l.getD j Blk.z).pos < a)) ∧ Mem w w' ([row (kRawG 2) 103 (.slice A74 vs76.length c75) vs76, star (codesG SB vs76 l), dfr D63, blk b36 #[.int .i64 cap, .slice A l.length c] 24, blk b28 #[.bool (anyG a (ws.length : Int) xs64)] 4, blk b10 #[.int .i64 0, .slice none 0 0] 24, blk b7 #[.slice Aw ws.length cws] 25, blk b4 #[.int .i64 a] 3, blk b1 #[.int .i64 cap, .slice A74 vs76.length c75] 24])) (fun s_ => match s_ with | k86 => l.length - k86) 0 (Sub.cons rfl (Sub.cons rfl (Sub.cons rfl (Sub.cons rfl (Sub.cons rfl (Sub.cons rfl (Sub.nil _))))))) ⟨⟨Nat.zero_le _, fun j hj => absurd hj (Nat.not_lt_zero _)⟩, M85⟩ ?_
            rintro k86 w88 ⟨hi90, M89⟩
            obtain ⟨hq1, hq2⟩ := hi90
            refine tc_seq (tc_seq ?_)
            refine tc_drawL (fun w' => Mem w w' ([row (kRawG 2) 103 (.slice A74 vs76.length c75) vs76, star (codesG SB vs76 l), dfr D63, blk b36 #[.int .i64 cap, .slice A l.length c] 24, blk b28 #[.bool (anyG a (ws.length : Int) xs64)] 4, blk b10 #[.int .i64 0, .slice none 0 0] 24, blk b7 #[.slice Aw ws.length cws] 25, blk b4 #[.int .i64 a] 3, blk b1 #[.int .i64 cap, .slice A74 vs76.length c75] 24])) [] (by kernel_rfl) ?_
            have M91 := M89.draw
            refine ty_take 0 64 (.int .i64 (k86 : Int)) (pok_cont pok_bodyQ) ?_ M91 (fun _ _ _ => by kernel_rfl)
            refine ty_take 1 65 (.pointer (some ⟨b1, 1, none⟩)) (pok_cont pok_bodyQ) ?_ M91 (fun _ _ _ => by kernel_rfl)
            refine ty_take 2 66 (.slice A74 vs76.length c75) (pok_cont pok_bodyQ) ?_ M91 (fun _ M' _ => rl M' 8)
            refine ty_take 3 67 (.int .i64 (vs76.length : Int)) (pok_cont pok_bodyQ) ?_ M91 (fun _ _ _ => by kernel_rfl)
            refine ty_take 4 68 (.bool (decide ((k86 : Int) < (vs76.length : Int)))) (pok_cont pok_bodyQ) ?_ M91 (fun _ _ _ => by kernel_rfl)
            refine ty_take 5 69 (.bool (decide ((k86 : Int) < (vs76.length : Int)))) (pok_cont pok_bodyQ) ?_ M91 (fun _ _ _ => by kernel_rfl)
            rcases h92 : (decide ((k86 : Int) < (vs76.length : Int)) : Bool) with _ | _
            · have h92p := of_decide_eq_false h92
              refine ty_pass 6 70 (pok_cont pok_bodyQ) ?_ M91
              refine ty_pass 7 71 (pok_cont pok_bodyQ) ?_ M91
              refine ty_pass 8 72 (pok_cont pok_bodyQ) ?_ M91
              refine ty_pass 9 73 (pok_cont pok_bodyQ) ?_ M91
              refine ty_pass 10 74 (pok_cont pok_bodyQ) ?_ M91
              refine ty_pass 11 75 (pok_cont pok_bodyQ) ?_ M91
              refine ty_pass 12 76 (pok_cont pok_bodyQ) ?_ M91
              refine ty_pass 13 77 (pok_cont pok_bodyQ) ?_ M91
              refine ty_take 14 78 (.bool false) (pok_cont pok_bodyQ) ?_ M91 (fun _ _ _ => by kernel_rfl)
              refine ty_endL ?_
              refine tn_code (tc_cond_f (fun _ => rfl) (tc_exitK (k' := _) rfl (tn_code (tc_seq ?_))))
              refine tc_drawL (fun w' => Mem w w' ([star (codesG SB vs76 l), dfr D63, blk b36 #[.int .i64 cap, .slice A l.length c] 24, blk b28 #[.bool (anyG a (ws.length : Int) xs64)] 4, blk b10 #[.int .i64 0, .slice none 0 0] 24, blk b7 #[.slice Aw ws.length cws] 25, blk b4 #[.int .i64 a] 3, blk b1 #[.int .i64 cap, .slice A74 vs76.length c75] 24])) [18] (by kernel_rfl) ?_
              have M93 := M91.draw
              refine ty_take 0 81 (.pointer (some ⟨b1, 1, none⟩)) (pok_cont pok_bodyQ) ?_ (M93.drop 0) (fun _ _ _ => by kernel_rfl)
              refine ty_take 1 82 (.slice A74 vs76.length c75) (pok_cont pok_bodyQ) ?_ (M93.drop 0) (fun _ M' _ => rl M' 7)
              refine ty_take 2 83 (.int .i64 (k86 : Int)) (pok_cont pok_bodyQ) ?_ (M93.drop 0) (fun _ _ _ => by kernel_rfl)
              refine ty_take 3 84 (.int .i64 (k86 : Int)) (pok_cont pok_bodyQ) ?_ (M93.drop 0) (fun _ _ _ => by kernel_rfl)
              obtain ⟨hr94, hA95⟩ := cut3 (P := Try.prog) (d := (kRawG 2)) (xs := vs76) Try.underlying22 (by kernel_rfl) A74 vs76 c75 k86 (by omega) (M93.row_cap 0 rfl)
              refine ty_take 4 85 (.slice A74 (vs76.take k86).length (vs76.take k86).length) (pok_cont pok_bodyQ) ?_ (M93.drop 0) (fun w' _ _ => exec_slice3 rfl rfl rfl rfl (hr94 w'))
              refine ty_take 5 86 (.int .i64 id) (pok_cont pok_bodyQ) ?_ (M93.drop 0) (fun _ _ _ => by kernel_rfl)
              refine ty_take 6 87 (.int .i64 a) (pok_cont pok_bodyQ) ?_ (M93.drop 0) (fun _ M' _ => rl M' 6)
              refine ty_take 7 88 (.slice Aw ws.length cws) (pok_cont pok_bodyQ) ?_ (M93.drop 0) (fun _ M' _ => rl M' 5)
              refine ty_take 11 92 (.pointer (some ⟨b1, 1, none⟩)) (pok_cont pok_bodyQ) ?_ (M93.drop 0) (fun _ _ _ => by kernel_rfl)
              refine ty_take 12 93 (.slice A74 vs76.length c75) (pok_cont pok_bodyQ) ?_ (M93.drop 0) (fun _ M' _ => rl M' 7)
              refine ty_take 13 94 (.int .i64 (k86 : Int)) (pok_cont pok_bodyQ) ?_ (M93.drop 0) (fun _ _ _ => by kernel_rfl)
              obtain ⟨A96, hr97, hA98, hle99⟩ := cutf (P := Try.prog) (d := (kRawG 2)) Try.underlying22 (by kernel_rfl) A74 vs76 c75 k86 .i64 (by omega) (M93.row_cap 0 rfl)
              refine ty_take 14 95 (.slice A96 (vs76.drop k86).length (c75 - k86)) (pok_cont pok_bodyQ) ?_ (M93.drop 0) (fun w' _ _ => exec_slice rfl rfl rfl rfl (hr97 w'))
              refine ty_all (rs := [8]) (te_one ?_)
              refine te_ce 89 (clone_w Aw cws ws _ (C_up M93 hW) (by omega)) fun e103 w104 h105 => ?_
              obtain ⟨A100, c101, rfl, hM102⟩ := h105
              have M106 := M93.join hM102
              refine ⟨_, rfl, fun _ _ => ((M106.drop 1).drop 0), ?_⟩
              refine ty_take 9 90 (.agg #[.int .i64 id, .int .i64 a, .slice A100 ws.length c101]) (pok_cont pok_bodyQ) ?_ ((M106.drop 1).drop 0) (fun _ _ _ => by kernel_rfl)
              refine ty_all (rs := [10]) (te_one ?_)
              have M110 := M106.flat (d := kRawG 2) (x := (([.int .i64 id, .int .i64 a], A100, ws.length, c101) : RawG)) (cs := [.int .i64 id, .int .i64 a, .slice A100 ws.length c101]) (rawB_M _ _ _ _ _ _)
              refine te_bs1 (x := (([.int .i64 id, .int .i64 a], A100, ws.length, c101) : RawG)) (cs := #[.int .i64 id, .int .i64 a, .slice A100 ws.length c101]) M110 91 103 (fun _ _ M_ _ _ => (((M_.drop 2).drop 1).drop 0)) fun b107 w108 M109 => ?_
              refine ty_all (rs := [15]) (te_one ?_)
              refine te_apC (z := .agg #[.int .i64 0, .int .i64 0, .slice none 0 0]) (bytes := 40) (c := (c75 - k86)) M109 96 (flatRawG 2) (hA98 _ (M109.row_C 2 rfl)) Try.underlying22 ?_ (fun _ _ _ M_ _ _ => (((M_.drop 2).drop 1).drop 0)) fun A111 c112 w113 M114 => ?_
              · simp only [List.length_append, List.length_cons, List.length_nil, List.length_take, List.length_drop]; omega
              refine ty_all (rs := [16]) (te_one ?_)
              have M115 := M114.front 2 rfl
              have hD121 := M115.row_C 1 rfl
              refine te_apR (z := .agg #[.int .i64 0, .int .i64 0, .slice none 0 0]) (h := k86) (c2 := c112) M115 97 (flatRawG 2) (by omega) hD121 Try.underlying22 40 ?_ (fun _ _ _ M_ _ _ => (((M_.drop 2).drop 1).drop 0)) fun A116 c117 w118 M119 hc120 => ?_
              · simp only [List.length_take, List.length_drop, List.length_append, List.length_cons, List.length_nil]; omega
              refine ty_take 17 98 (.pointer (some ⟨b1, 1, none⟩)) (pok_cont pok_bodyQ) ?_ (((M119.drop 2).drop 1).drop 0) (fun _ _ _ => by kernel_rfl)
              refine ty_all (rs := [18]) (te_one ?_)
              refine te_st M119 10 #[.int .i64 cap, .slice A116 ((vs76.take k86) ++ ([(([.int .i64 id, .int .i64 a], A100, ws.length, c101) : RawG)] ++ (vs76.drop k86))).length c117] (fun _ _ h_ _ => absurd (by decide) h_) fun w122 M123 => ?_
              refine ty_endL ?_
              refine tn_code (tc_seq (tc_region ?_))
              refine la M123 10 99 #[.int .i64 cap, .slice A116 ((vs76.take k86) ++ ([(([.int .i64 id, .int .i64 a], A100, ws.length, c101) : RawG)] ++ (vs76.drop k86))).length c117] (hu := Try.underlying24) ?_
              refine sa M123 7 #[.int .i64 cap, .slice A116 ((vs76.take k86) ++ ([(([.int .i64 id, .int .i64 a], A100, ws.length, c101) : RawG)] ++ (vs76.drop k86))).length c117] fun w124 M125 => ?_
              refine sg 1 [8, 9] [(8, .pointer (some ⟨b10, 0, none⟩)), (9, .int .i64 0)] ?_
              refine to_end rfl (tn_code (tc_ret ?_))
              refine tr_mark M125 4 rfl fun w126 M127 => ?_
              refine tr_cell_tmp M127 6 rfl rfl rfl rfl Try.underlying24 rfl (by kernel_rfl) ?_
              have M129 := M127.drop 9
              have M130 := M129.drop 8
              have M131 := M130.drop 7
              have M132 := M131.drop 6
              have M133 := M132.drop 5
              have M134 := M133.drop 4
              have M135 := M134.drop 1
              have M136 := M135.front 2 rfl
              have M137 := M136.front 2 rfl
              have M138 := codesG_ins (S := SB) (v := (([.int .i64 id, .int .i64 a], A100, ws.length, c101) : RawG)) (f := (⟨id, a, ws⟩ : Blk)) k86 hok78.1 M137
              have M139 := M138.swap
              obtain ⟨hE1, hE2⟩ := _root_.id h68p
              have he := put_in (cap := cap) (id := id) (ws := ws) (q := k86) h16 (by omega) (by omega) (by omega) (by rw [← anyG_free h16 (by omega), ← hxs_]; exact hE2) (by omega) (fun j hj => Int.le_of_lt (hq2 j hj)) (fun h_ => by omega)
              rw [he]
              have hln : (vs76.take k86 ++ ([(([.int .i64 id, .int .i64 a], A100, ws.length, c101) : RawG)] ++ vs76.drop k86)).length = l.length + 1 := by simp only [List.length_append, List.length_cons, List.length_take, List.length_drop, List.length_nil]; omega
              have hcc := hc120
              rw [hln] at hcc
              exact ⟨_, _, by rw [hln, ← ins_len (b := (⟨id, a, ws⟩ : Blk)) (l := l) (q := k86) (by omega)], Mem.rd_apartR (rawGOk_ins k86 hok78 rfl rfl) M139, by rw [ins_len (by omega)]; exact hcc⟩
            · have h92p := of_decide_eq_true h92
              refine ty_take 6 70 (.pointer (some ⟨b1, 1, none⟩)) (pok_cont pok_bodyQ) ?_ M91 (fun _ _ _ => by kernel_rfl)
              refine ty_take 7 71 (.slice A74 vs76.length c75) (pok_cont pok_bodyQ) ?_ M91 (fun _ M' _ => rl M' 8)
              refine ty_take 8 72 (.int .i64 (k86 : Int)) (pok_cont pok_bodyQ) ?_ M91 (fun _ _ _ => by kernel_rfl)
              obtain ⟨ad140, rfl⟩ := C_some (M91.row_C 0 rfl) (k := k86) (by omega)
              refine ty_take 9 73 (.pointer (some (ad140.add (k86 * 3)))) (pok_cont pok_bodyQ) ?_ M91 (fun _ _ _ => ri (ad := ad140) (n := vs76.length) (c := c75) k86 3 (by omega) Try.underlying22)
              refine ty_take 10 74 (.pointer (some ((ad140.add (k86 * 3)).add 1))) (pok_cont pok_bodyQ) ?_ M91 (fun _ _ _ => by kernel_rfl)
              obtain ⟨A141, c142, hv143⟩ := raw_at hok78 (j := k86) (by omega)
              refine ty_take 11 75 (.int .i64 (l.getD k86 Blk.z).pos) (pok_cont pok_bodyQ) ?_ M91 (fun _ M' _ => by obtain ⟨cs_, hk_, hc_⟩ := C_cell (M'.row_C 0 rfl) rawG0 k86 (by omega); rw [hv143] at hk_; obtain ⟨rfl, _, _⟩ := hk_; exact re (hc_ 1 _ rfl))
              refine ty_take 12 76 (.int .i64 a) (pok_cont pok_bodyQ) ?_ M91 (fun _ M' _ => rl M' 7)
              refine ty_take 13 77 (.bool (decide ((l.getD k86 Blk.z).pos < a))) (pok_cont pok_bodyQ) ?_ M91 (fun _ _ _ => by kernel_rfl)
              refine ty_take 14 78 (.bool (decide ((l.getD k86 Blk.z).pos < a))) (pok_cont pok_bodyQ) ?_ M91 (fun _ _ _ => by kernel_rfl)
              refine ty_endL ?_
              refine tn_code ?_
              refine tc_cond (b := decide ((l.getD k86 Blk.z).pos < a)) (fun _ => rfl) (fun h144 => ?_) (fun h144 => ?_)
              · have h144p := of_decide_eq_true h144
                refine tc_skip (tn_code (tc_block (tc_region ?_)))
                refine sg 3 [1, 4, 6, 7, 8, 14] [(1, .int .i64 id), (4, .pointer (some ⟨b1, 0, none⟩)), (6, .pointer (some ⟨b4, 0, none⟩)), (7, .pointer (some ⟨b7, 0, none⟩)), (8, .pointer (some ⟨b10, 0, none⟩)), (14, .int .i64 (IntKind.wrap .i64 ((k86 : Int) + 1)))] ?_
                rw [show IntKind.wrap .i64 ((k86 : Int) + 1) = (((k86 + 1) : Nat) : Int) from wr_nat k86 1 (by omega)]
                refine to_end rfl (tn_blk ?_)
                exact tn_back (s := k86) (k86 + 1) (Sub.cons rfl (Sub.cons rfl (Sub.cons rfl (Sub.cons rfl (Sub.cons rfl (Sub.cons rfl (Sub.nil _))))))) ⟨⟨by omega, pos_lt hq2 (by omega)⟩, M91⟩ (by simp only; omega)
              · have h144p := of_decide_eq_false h144
                refine tc_exitK (k' := _) rfl (tn_code (tc_seq ?_))
                refine tc_drawL (fun w' => Mem w w' ([star (codesG SB vs76 l), dfr D63, blk b36 #[.int .i64 cap, .slice A l.length c] 24, blk b28 #[.bool (anyG a (ws.length : Int) xs64)] 4, blk b10 #[.int .i64 0, .slice none 0 0] 24, blk b7 #[.slice Aw ws.length cws] 25, blk b4 #[.int .i64 a] 3, blk b1 #[.int .i64 cap, .slice (some ad140) vs76.length c75] 24])) [18] (by kernel_rfl) ?_
                have M145 := M91.draw
                refine ty_take 0 81 (.pointer (some ⟨b1, 1, none⟩)) (pok_cont pok_bodyQ) ?_ (M145.drop 0) (fun _ _ _ => by kernel_rfl)
                refine ty_take 1 82 (.slice (some ad140) vs76.length c75) (pok_cont pok_bodyQ) ?_ (M145.drop 0) (fun _ M' _ => rl M' 7)
                refine ty_take 2 83 (.int .i64 (k86 : Int)) (pok_cont pok_bodyQ) ?_ (M145.drop 0) (fun _ _ _ => by kernel_rfl)
                refine ty_take 3 84 (.int .i64 (k86 : Int)) (pok_cont pok_bodyQ) ?_ (M145.drop 0) (fun _ _ _ => by kernel_rfl)
                obtain ⟨hr146, hA147⟩ := cut3 (P := Try.prog) (d := (kRawG 2)) (xs := vs76) Try.underlying22 (by kernel_rfl) (some ad140) vs76 c75 k86 (by omega) (M145.row_cap 0 rfl)
                refine ty_take 4 85 (.slice (some ad140) (vs76.take k86).length (vs76.take k86).length) (pok_cont pok_bodyQ) ?_ (M145.drop 0) (fun w' _ _ => exec_slice3 rfl rfl rfl rfl (hr146 w'))
                refine ty_take 5 86 (.int .i64 id) (pok_cont pok_bodyQ) ?_ (M145.drop 0) (fun _ _ _ => by kernel_rfl)
                refine ty_take 6 87 (.int .i64 a) (pok_cont pok_bodyQ) ?_ (M145.drop 0) (fun _ M' _ => rl M' 6)
                refine ty_take 7 88 (.slice Aw ws.length cws) (pok_cont pok_bodyQ) ?_ (M145.drop 0) (fun _ M' _ => rl M' 5)
                refine ty_take 11 92 (.pointer (some ⟨b1, 1, none⟩)) (pok_cont pok_bodyQ) ?_ (M145.drop 0) (fun _ _ _ => by kernel_rfl)
                refine ty_take 12 93 (.slice (some ad140) vs76.length c75) (pok_cont pok_bodyQ) ?_ (M145.drop 0) (fun _ M' _ => rl M' 7)
                refine ty_take 13 94 (.int .i64 (k86 : Int)) (pok_cont pok_bodyQ) ?_ (M145.drop 0) (fun _ _ _ => by kernel_rfl)
                obtain ⟨A148, hr149, hA150, hle151⟩ := cutf (P := Try.prog) (d := (kRawG 2)) Try.underlying22 (by kernel_rfl) (some ad140) vs76 c75 k86 .i64 (by omega) (M145.row_cap 0 rfl)
                refine ty_take 14 95 (.slice A148 (vs76.drop k86).length (c75 - k86)) (pok_cont pok_bodyQ) ?_ (M145.drop 0) (fun w' _ _ => exec_slice rfl rfl rfl rfl (hr149 w'))
                refine ty_all (rs := [8]) (te_one ?_)
                refine te_ce 89 (clone_w Aw cws ws _ (C_up M145 hW) (by omega)) fun e155 w156 h157 => ?_
                obtain ⟨A152, c153, rfl, hM154⟩ := h157
                have M158 := M145.join hM154
                refine ⟨_, rfl, fun _ _ => ((M158.drop 1).drop 0), ?_⟩
                refine ty_take 9 90 (.agg #[.int .i64 id, .int .i64 a, .slice A152 ws.length c153]) (pok_cont pok_bodyQ) ?_ ((M158.drop 1).drop 0) (fun _ _ _ => by kernel_rfl)
                refine ty_all (rs := [10]) (te_one ?_)
                have M162 := M158.flat (d := kRawG 2) (x := (([.int .i64 id, .int .i64 a], A152, ws.length, c153) : RawG)) (cs := [.int .i64 id, .int .i64 a, .slice A152 ws.length c153]) (rawB_M _ _ _ _ _ _)
                refine te_bs1 (x := (([.int .i64 id, .int .i64 a], A152, ws.length, c153) : RawG)) (cs := #[.int .i64 id, .int .i64 a, .slice A152 ws.length c153]) M162 91 103 (fun _ _ M_ _ _ => (((M_.drop 2).drop 1).drop 0)) fun b159 w160 M161 => ?_
                refine ty_all (rs := [15]) (te_one ?_)
                refine te_apC (z := .agg #[.int .i64 0, .int .i64 0, .slice none 0 0]) (bytes := 40) (c := (c75 - k86)) M161 96 (flatRawG 2) (hA150 _ (M161.row_C 2 rfl)) Try.underlying22 ?_ (fun _ _ _ M_ _ _ => (((M_.drop 2).drop 1).drop 0)) fun A163 c164 w165 M166 => ?_
                · simp only [List.length_append, List.length_cons, List.length_nil, List.length_take, List.length_drop]; omega
                refine ty_all (rs := [16]) (te_one ?_)
                have M167 := M166.front 2 rfl
                have hD173 := M167.row_C 1 rfl
                refine te_apR (z := .agg #[.int .i64 0, .int .i64 0, .slice none 0 0]) (h := k86) (c2 := c164) M167 97 (flatRawG 2) (by omega) hD173 Try.underlying22 40 ?_ (fun _ _ _ M_ _ _ => (((M_.drop 2).drop 1).drop 0)) fun A168 c169 w170 M171 hc172 => ?_
                · simp only [List.length_take, List.length_drop, List.length_append, List.length_cons, List.length_nil]; omega
                refine ty_take 17 98 (.pointer (some ⟨b1, 1, none⟩)) (pok_cont pok_bodyQ) ?_ (((M171.drop 2).drop 1).drop 0) (fun _ _ _ => by kernel_rfl)
                refine ty_all (rs := [18]) (te_one ?_)
                refine te_st M171 10 #[.int .i64 cap, .slice A168 ((vs76.take k86) ++ ([(([.int .i64 id, .int .i64 a], A152, ws.length, c153) : RawG)] ++ (vs76.drop k86))).length c169] (fun _ _ h_ _ => absurd (by decide) h_) fun w174 M175 => ?_
                refine ty_endL ?_
                refine tn_code (tc_seq (tc_region ?_))
                refine la M175 10 99 #[.int .i64 cap, .slice A168 ((vs76.take k86) ++ ([(([.int .i64 id, .int .i64 a], A152, ws.length, c153) : RawG)] ++ (vs76.drop k86))).length c169] (hu := Try.underlying24) ?_
                refine sa M175 7 #[.int .i64 cap, .slice A168 ((vs76.take k86) ++ ([(([.int .i64 id, .int .i64 a], A152, ws.length, c153) : RawG)] ++ (vs76.drop k86))).length c169] fun w176 M177 => ?_
                refine sg 1 [8, 9] [(8, .pointer (some ⟨b10, 0, none⟩)), (9, .int .i64 0)] ?_
                refine to_end rfl (tn_code (tc_ret ?_))
                refine tr_mark M177 4 rfl fun w178 M179 => ?_
                refine tr_cell_tmp M179 6 rfl rfl rfl rfl Try.underlying24 rfl (by kernel_rfl) ?_
                have M181 := M179.drop 9
                have M182 := M181.drop 8
                have M183 := M182.drop 7
                have M184 := M183.drop 6
                have M185 := M184.drop 5
                have M186 := M185.drop 4
                have M187 := M186.drop 1
                have M188 := M187.front 2 rfl
                have M189 := M188.front 2 rfl
                have M190 := codesG_ins (S := SB) (v := (([.int .i64 id, .int .i64 a], A152, ws.length, c153) : RawG)) (f := (⟨id, a, ws⟩ : Blk)) k86 hok78.1 M189
                have M191 := M190.swap
                obtain ⟨hE1, hE2⟩ := _root_.id h68p
                have he := put_in (cap := cap) (id := id) (ws := ws) (q := k86) h16 (by omega) (by omega) (by omega) (by rw [← anyG_free h16 (by omega), ← hxs_]; exact hE2) (by omega) (fun j hj => Int.le_of_lt (hq2 j hj)) (fun h_ => by omega)
                rw [he]
                have hln : (vs76.take k86 ++ ([(([.int .i64 id, .int .i64 a], A152, ws.length, c153) : RawG)] ++ vs76.drop k86)).length = l.length + 1 := by simp only [List.length_append, List.length_cons, List.length_take, List.length_drop, List.length_nil]; omega
                have hcc := hc172
                rw [hln] at hcc
                exact ⟨_, _, by rw [hln, ← ins_len (b := (⟨id, a, ws⟩ : Blk)) (l := l) (q := k86) (by omega)], Mem.rd_apartR (rawGOk_ins k86 hok78 rfl rfl) M191, by rw [ins_len (by omega)]; exact hcc⟩
        · exact fun _ _ _ _ h_ _ => h_.elim
    · have h20p := of_decide_eq_true h20
      refine sg 4 [1, 4, 6, 7, 8, 26] [(1, .int .i64 id), (4, .pointer (some ⟨b1, 0, none⟩)), (6, .pointer (some ⟨b4, 0, none⟩)), (7, .pointer (some ⟨b7, 0, none⟩)), (8, .pointer (some ⟨b10, 0, none⟩)), (26, .bool true)] ?_
      refine to_end rfl (tn_code (tc_cond_t (fun _ => rfl) (tc_seq (tc_region ?_))))
      refine sg 1 [8, 27] [(8, .pointer (some ⟨b10, 0, none⟩)), (27, .agg #[.int .i64 0, .slice none 0 0])] ?_
      refine sa M14 0 #[.int .i64 0, .slice none 0 0] fun w192 M193 => ?_
      refine sg 1 [8, 9] [(8, .pointer (some ⟨b10, 0, none⟩)), (9, .int .i64 1)] ?_
      refine to_end rfl (tn_code (tc_ret ?_))
      refine tr_nom ?_
      refine tr_cell_tmp M193 0 rfl rfl rfl rfl Try.underlying24 rfl (by kernel_rfl) ?_
      have he : putM cap l id a ws = ((0, []), 1) := put_no (.inr (.inl (by omega)))
      have M194 := ((((((M193.drop 3).drop 2).drop 1).drop 0)).nilrow kBlk 103).rd_row
      rw [he]
      exact ⟨none, 0, rfl, M194, Nat.le_refl _⟩
end Go.Proofs.Ytfknhbgghpbkpaa
