/- Layer 13, the program: the gaps, what is found, what is left. -/
import Derived.Test.YtfknhbgghpbkpaaArG2
import Derived.Test.YtfknhbgghpbkpaaAr6
namespace Go.Proofs.Ytfknhbgghpbkpaa
open Go.RowKit Cal Go.Proofs.YtfknhbgghpbkpaaW.PrintWords
theorem gaps_any (cap : Int) (l : List Blk) (A : Option Addr) (c : Nat) (w : World) : Calls Try.prog 72 #[.agg #[.int .i64 cap, .slice A l.length c]] w fun e w' => ∃ b, e = .returned (.func (.func 118) #[] #[.pointer (some ⟨b, 0, none⟩)]) ∧ Mem w w' [blk b #[.int .i64 cap, .slice A l.length c] 24] := by
  have M := Mem.refl w
  refine calls_tc (N := 4) (args := [.agg #[.int .i64 cap, .slice A l.length c]]) Try.func72 rfl rfl rfl ?_
  refine tc_seq (tc_region ?_)
  refine nw M 1 #[.int .i64 cap, .slice A l.length c] 24 fun b1 w2 M3 => ?_
  refine sg 1 [1] [(1, .pointer (some ⟨b1, 0, none⟩))] ?_
  refine to_end rfl (tn_code (tc_seq (tc_region ?_)))
  refine sg 2 [2] [(2, .func (.func 118) #[] #[.pointer (some ⟨b1, 0, none⟩)])] ?_
  refine to_end rfl (tn_code (tc_ret ?_))
  refine tr_tmp rfl rfl ?_
  exact ⟨_, rfl, M3⟩

set_option linter.unusedSimpArgs false in
theorem find_any (cap : Int) (l : List Blk) (A : Option Addr) (c : Nat) (n : Int) (w : World) (hC : kBlk.C w A l.length l) (hsm : ∀ j, (l.getD j Blk.z).w.length ≤ 1000000) : Calls Try.prog 27 #[.agg #[.int .i64 cap, .slice A l.length c], .int .i64 n] w fun e w' => e = .returned (.tuple #[.int .i64 (findM cap l n).1, .bool (findM cap l n).2]) ∧ Below w.heap.size w w' := by
  have M := Mem.refl w
  have hmx := C_max hC
  refine calls_tcQ (N := 25) (args := [.agg #[.int .i64 cap, .slice A l.length c], .int .i64 n]) Try.func27 rfl rfl rfl ?_
  refine tc_seq (tc_region ?_)
  refine nw M 2 #[.int .i64 cap, .slice A l.length c] 24 fun b1 w2 M3 => ?_
  refine nw M3 3 #[.int .i64 n] 3 fun b4 w5 M6 => ?_
  refine nw M6 4 #[.int .i64 0] 3 fun b7 w8 M9 => ?_
  refine nw M9 5 #[.bool false] 4 fun b10 w11 M12 => ?_
  refine to_end rfl (tn_code (tc_seq (tc_seq (tc_region ?_))))
  refine la M12 3 8 #[.int .i64 cap, .slice A l.length c] (hu := Try.underlying24) ?_
  refine cb M12 9 (may13_any cap l A c _ (C_up M12 hC) hsm) fun w13 hb15 M14 => ?_
  refine sg 2 [2, 3, 4, 5, 11] [(2, .pointer (some ⟨b1, 0, none⟩)), (3, .pointer (some ⟨b4, 0, none⟩)), (4, .pointer (some ⟨b7, 0, none⟩)), (5, .pointer (some ⟨b10, 0, none⟩)), (11, .bool (!(mMay cap l)))] ?_
  rcases h16 : (mMay cap l : Bool) with _ | _
  · refine sg 3 [2, 3, 4, 5, 14] [(2, .pointer (some ⟨b1, 0, none⟩)), (3, .pointer (some ⟨b4, 0, none⟩)), (4, .pointer (some ⟨b7, 0, none⟩)), (5, .pointer (some ⟨b10, 0, none⟩)), (14, .bool true)] ?_
    refine to_end rfl (tn_code (tc_cond_t (fun _ => rfl) (tc_seq (tc_region ?_))))
    refine st M14 1 #[.int .i64 0] fun w17 M18 => ?_
    refine st M18 0 #[.bool false] fun w19 M20 => ?_
    refine to_end rfl (tn_code (tc_ret ?_))
    refine tr_nom ?_
    refine tr_cell_cell M20 1 0 rfl rfl rfl rfl rfl rfl rfl (by kernel_rfl) (by kernel_rfl) ?_
    have he := findM_no (n := n) (.inl h16)
    exact ⟨by first | (rw [he]; done) | (rw [he]; rfl), M20.below⟩
  · refine ld M14 2 12 (.int .i64 n) ?_
    refine sg 2 [2, 3, 4, 5, 14] [(2, .pointer (some ⟨b1, 0, none⟩)), (3, .pointer (some ⟨b4, 0, none⟩)), (4, .pointer (some ⟨b7, 0, none⟩)), (5, .pointer (some ⟨b10, 0, none⟩)), (14, .bool (decide (n < 1)))] ?_
    refine to_end rfl (tn_code ?_)
    refine tc_cond (b := decide (n < 1)) (fun _ => rfl) (fun h21 => ?_) (fun h21 => ?_)
    · have h21p := of_decide_eq_true h21
      refine tc_seq (tc_region ?_)
      refine st M14 1 #[.int .i64 0] fun w22 M23 => ?_
      refine st M23 0 #[.bool false] fun w24 M25 => ?_
      refine to_end rfl (tn_code (tc_ret ?_))
      refine tr_nom ?_
      refine tr_cell_cell M25 1 0 rfl rfl rfl rfl rfl rfl rfl (by kernel_rfl) (by kernel_rfl) ?_
      have he := findM_no (cap := cap) (l := l) (n := n) (.inr (by omega))
      exact ⟨by first | (rw [he]; done) | (rw [he]; rfl), M25.below⟩
    · have h21p := of_decide_eq_false h21
      refine tc_skip (tn_code (tc_seq (tc_seq (tc_region ?_))))
      refine la M14 3 15 #[.int .i64 cap, .slice A l.length c] (hu := Try.underlying24) ?_
      refine ce 16 (gaps_any cap l A c _) fun e26 w27 h28 => ?_
      obtain ⟨b29, rfl, hM30⟩ := h28
      have M31 := M14.join hM30
      refine ⟨_, rfl, ?_⟩
      refine to_end rfl (tn_code (tc_block ?_))
      have hx_b7 := M31.ends 2 rfl
      have hx_b10 := M31.ends 1 rfl
      refine tc_range (α := Int × Int) (e0 := fun x => .int .i64 x.1) (e1 := fun x => .int .i64 x.2) (fun k => k = b7 ∨ k = b10) (fun s_ => [blk b29 #[.int .i64 cap, .slice A l.length c] 24, blk b10 #[.bool false] 4, blk b7 #[.int .i64 0] 3, blk b4 #[.int .i64 n] 3, blk b1 #[.int .i64 cap, .slice A l.length c] 24]) (fun s_ => [blk b29 #[.int .i64 cap, .slice A l.length c] 24, blk b10 #[.bool true] 4, blk b7 #[.int .i64 (lastG s_).1] 3, blk b4 #[.int .i64 n] 3, blk b1 #[.int .i64 cap, .slice A l.length c] 24]) (fun s_ => noG n s_) (fun s_ => hitG n s_) (fun x37 => [(3, .pointer (some ⟨b4, 0, none⟩)), (4, .pointer (some ⟨b7, 0, none⟩)), (5, .pointer (some ⟨b10, 0, none⟩)), (6, .int .i64 x37.1), (7, .int .i64 x37.2)]) M31 (noG_nil n)
        (by intro k_ hk_; rcases hk_ with rfl | rfl <;> omega)
        (by intro _; rfl) (by intro _ _; kernel_rfl) (gaps1_seq cap l A c b29 (fun k => k = b7 ∨ k = b10) w w27 hC h16 M31.below (M31.blk_at 0 rfl) (fun k_ hk_ => hk_.elim (fun e_ => by rw [show k_ = b7 from e_]; exact ⟨by omega, ne_blk (M31.blk_at 2 rfl) (M31.blk_at 0 rfl) (by simp), by omega⟩) (fun e_ => by rw [show k_ = b10 from e_]; exact ⟨by omega, ne_blk (M31.blk_at 1 rfl) (M31.blk_at 0 rfl) (by simp), by omega⟩))) rfl rfl ?_ ?_ ?_ ?_
      · intro lv_ x37 W_
        refine tci_seq (tci_region (fun _ _ h => h) ?_)
        refine sg 1 [3, 4, 5, 18, 6] [(3, .pointer (some ⟨b4, 0, none⟩)), (4, .pointer (some ⟨b7, 0, none⟩)), (5, .pointer (some ⟨b10, 0, none⟩)), (18, .int .i64 x37.2), (6, .int .i64 x37.1)] ?_
        refine to_end rfl (tn_i (tni_code (tci_region (fun _ _ h => h) ?_)))
        refine sg 1 [3, 4, 5, 6, 7] [(3, .pointer (some ⟨b4, 0, none⟩)), (4, .pointer (some ⟨b7, 0, none⟩)), (5, .pointer (some ⟨b10, 0, none⟩)), (6, .int .i64 x37.1), (7, .int .i64 x37.2)] ?_
        refine to_end rfl (tn_i ?_)
        exact tni_inv fun j_ a_ h_ => ⟨rfl, j_, h_⟩
      · intro lv_ s_ x37 W39 U38 hp_ hl_
        refine tci_block (tci_seq (tci_region (fun _ _ h => h) ?_))
        refine sg 3 [3, 4, 5, 6, 21] [(3, .pointer (some ⟨b4, 0, none⟩)), (4, .pointer (some ⟨b7, 0, none⟩)), (5, .pointer (some ⟨b10, 0, none⟩)), (6, .int .i64 x37.1), (21, .int .i64 (IntKind.wrap .i64 (x37.2 - x37.1)))] ?_
        refine ld (U38.mem) 3 22 (.int .i64 n) ?_
        refine sg 1 [3, 4, 5, 6, 23] [(3, .pointer (some ⟨b4, 0, none⟩)), (4, .pointer (some ⟨b7, 0, none⟩)), (5, .pointer (some ⟨b10, 0, none⟩)), (6, .int .i64 x37.1), (23, .bool (decide ((IntKind.wrap .i64 (x37.2 - x37.1)) ≥ n)))] ?_
        refine to_end rfl (tn_i (tni_code ?_))
        refine tci_cond (b := decide ((IntKind.wrap .i64 (x37.2 - x37.1)) ≥ n)) (fun _ => rfl) (fun h40 => ?_) (fun h40 => ?_)
        · have h40p := of_decide_eq_true h40
          refine tci_seq (tci_region (fun _ _ h => h) ?_)
          refine sg 1 [4, 5, 24] [(4, .pointer (some ⟨b7, 0, none⟩)), (5, .pointer (some ⟨b10, 0, none⟩)), (24, .int .i64 x37.1)] ?_
          refine stU U38 2 #[.int .i64 x37.1] (.inl rfl) fun w41 U42 => ?_
          refine stU U42 1 #[.bool true] (.inr rfl) fun w43 U44 => ?_
          refine to_end rfl (tn_i (tni_code (tci_ret ?_)))
          have U45 : MU w w27.heap.size (fun k => k = b7 ∨ k = b10) W39 w43 ([blk b29 #[.int .i64 cap, .slice A l.length c] 24, blk b10 #[.bool true] 4, blk b7 #[.int .i64 (lastG (s_ ++ [x37])).1] 3, blk b4 #[.int .i64 n] 3, blk b1 #[.int .i64 cap, .slice A l.length c] 24]) := by rw [lastG_snoc]; exact U44
          exact tri_out (by intro k_ hk_; rcases hk_ with rfl | rfl <;> omega) U45 ⟨_, _, rfl, hp_, h40⟩
        · have h40p := of_decide_eq_false h40
          refine tci_skip (tni_blk ?_)
          have U46 : MU w w27.heap.size (fun k => k = b7 ∨ k = b10) W39 W39 ([blk b29 #[.int .i64 cap, .slice A l.length c] 24, blk b10 #[.bool false] 4, blk b7 #[.int .i64 0] 3, blk b4 #[.int .i64 n] 3, blk b1 #[.int .i64 cap, .slice A l.length c] 24]) := U38
          exact tni_go (by intro k_ hk_; rcases hk_ with rfl | rfl <;> omega) U46 (noG_snoc hp_ h40)
      · intro D47 xs48 w49 hS_ hp_ M50
        have hxs_ : xs48 = gapsF cap l := hS_
        refine tn_blk (tn_code (tc_seq (tc_region ?_)))
        refine st M50 3 #[.int .i64 0] fun w51 M52 => ?_
        refine st M52 2 #[.bool false] fun w53 M54 => ?_
        refine to_end rfl (tn_code (tc_ret ?_))
        refine tr_mark M54 0 rfl fun w55 M56 => ?_
        refine tr_cell_cell M56 2 1 rfl rfl rfl rfl rfl rfl rfl (by kernel_rfl) (by kernel_rfl) ?_
        have he := findM_none (n := n) (by rw [← hxs_]; exact hp_)
        exact ⟨by first | (rw [he]; done) | (rw [he]; rfl), M56.below⟩
      · intro D57 xs58 w59 hS_ hp_ M60
        refine tc_ret ?_
        refine tr_mark M60 0 rfl fun w61 M62 => ?_
        refine tr_cell_cell M62 2 1 rfl rfl rfl rfl rfl rfl rfl (by kernel_rfl) (by kernel_rfl) ?_
        have he := findM_hit (n := n) h16 (by omega) hS_ hp_
        exact ⟨by first | (rw [he]; done) | (rw [he]; rfl), M62.below⟩

set_option linter.unusedSimpArgs false in
theorem left_any (cap : Int) (l : List Blk) (A : Option Addr) (c : Nat) (w : World) (hC : kBlk.C w A l.length l) (hsm : ∀ j, (l.getD j Blk.z).w.length ≤ 1000000) : Calls Try.prog 31 #[.agg #[.int .i64 cap, .slice A l.length c]] w fun e w' => e = .returned (.int .i64 (leftM cap l)) ∧ Below w.heap.size w w' := by
  have M := Mem.refl w
  have hmx := C_max hC
  refine calls_tcQ (N := 19) (args := [.agg #[.int .i64 cap, .slice A l.length c]]) Try.func31 rfl rfl rfl ?_
  refine tc_seq (tc_region ?_)
  refine nw M 1 #[.int .i64 cap, .slice A l.length c] 24 fun b1 w2 M3 => ?_
  refine sg 1 [1] [(1, .pointer (some ⟨b1, 0, none⟩))] ?_
  refine to_end rfl (tn_code (tc_seq (tc_seq (tc_region ?_))))
  refine la M3 0 6 #[.int .i64 cap, .slice A l.length c] (hu := Try.underlying24) ?_
  refine cb M3 7 (may13_any cap l A c _ (C_up M3 hC) hsm) fun w4 hb6 M5 => ?_
  refine sg 1 [1, 8] [(1, .pointer (some ⟨b1, 0, none⟩)), (8, .bool (!(mMay cap l)))] ?_
  refine to_end rfl (tn_code ?_)
  rcases h7 : (mMay cap l : Bool) with _ | _
  · refine tc_cond_t (fun _ => rfl) (tc_seq (tc_region ?_))
    refine sg 1 [2] [(2, .int .i64 0)] ?_
    refine to_end rfl (tn_code (tc_ret ?_))
    refine tr_nom ?_
    refine tr_tmp rfl rfl ?_
    have he : leftM cap l = 0 := if_neg (by rw [h7]; decide)
    exact ⟨by first | (rw [he]; done) | (rw [he]; rfl), M5.below⟩
  · refine tc_cond_f (fun _ => rfl) (tc_skip (tn_code (tc_seq (tc_region ?_))))
    refine nw M5 3 #[.int .i64 0] 3 fun b8 w9 M10 => ?_
    refine st M10 0 #[.int .i64 0] fun w11 M12 => ?_
    refine to_end rfl (tn_code (tc_seq (tc_seq (tc_region ?_))))
    refine la M12 1 9 #[.int .i64 cap, .slice A l.length c] (hu := Try.underlying24) ?_
    refine ce 10 (gaps_any cap l A c _) fun e13 w14 h15 => ?_
    obtain ⟨b16, rfl, hM17⟩ := h15
    have M18 := M12.join hM17
    refine ⟨_, rfl, ?_⟩
    refine to_end rfl (tn_code (tc_block ?_))
    have hx_b8 := M18.ends 1 rfl
    refine tc_range (α := Int × Int) (e0 := fun x => .int .i64 x.1) (e1 := fun x => .int .i64 x.2) (fun k => k = b8) (fun s_ => [blk b16 #[.int .i64 cap, .slice A l.length c] 24, blk b8 #[.int .i64 (sumG s_)] 3, blk b1 #[.int .i64 cap, .slice A l.length c] 24]) (fun s_ => [blk b16 #[.int .i64 cap, .slice A l.length c] 24, blk b8 #[.int .i64 (sumG s_)] 3, blk b1 #[.int .i64 cap, .slice A l.length c] 24]) (fun s_ => True) (fun s_ => False) (fun x22 => [(3, .pointer (some ⟨b8, 0, none⟩)), (4, .int .i64 x22.1), (5, .int .i64 x22.2)]) M18 trivial
      (by intro k_ hk_; rcases hk_ with rfl <;> omega)
      (by intro _; rfl) (by intro _ _; kernel_rfl) (gaps1_seq cap l A c b16 (fun k => k = b8) w w14 hC h7 M18.below (M18.blk_at 0 rfl) (fun k_ hk_ => by rw [show k_ = b8 from hk_]; exact ⟨by omega, ne_blk (M18.blk_at 1 rfl) (M18.blk_at 0 rfl) (by simp), by omega⟩)) rfl rfl ?_ ?_ ?_ ?_
    · intro lv_ x22 W_
      refine tci_seq (tci_region (fun _ _ h => h) ?_)
      refine sg 1 [3, 12, 4] [(3, .pointer (some ⟨b8, 0, none⟩)), (12, .int .i64 x22.2), (4, .int .i64 x22.1)] ?_
      refine to_end rfl (tn_i (tni_code (tci_region (fun _ _ h => h) ?_)))
      refine sg 1 [3, 4, 5] [(3, .pointer (some ⟨b8, 0, none⟩)), (4, .int .i64 x22.1), (5, .int .i64 x22.2)] ?_
      refine to_end rfl (tn_i ?_)
      exact tni_inv fun j_ a_ h_ => ⟨rfl, j_, h_⟩
    · intro lv_ s_ x22 W24 U23 hp_ hl_
      refine tci_block (tci_region (fun _ _ h => h) ?_)
      refine ld (U23.mem) 1 13 (.int .i64 (sumG s_)) ?_
      refine sg 4 [3, 17] [(3, .pointer (some ⟨b8, 0, none⟩)), (17, .int .i64 (IntKind.wrap .i64 ((sumG s_) + (IntKind.wrap .i64 (x22.2 - x22.1)))))] ?_
      refine stU U23 1 #[.int .i64 (IntKind.wrap .i64 ((sumG s_) + (IntKind.wrap .i64 (x22.2 - x22.1))))] rfl fun w25 U26 => ?_
      refine to_end rfl (tn_i (tni_blk ?_))
      have U27 : MU w w14.heap.size (fun k => k = b8) W24 w25 ([blk b16 #[.int .i64 cap, .slice A l.length c] 24, blk b8 #[.int .i64 (sumG (s_ ++ [x22]))] 3, blk b1 #[.int .i64 cap, .slice A l.length c] 24]) := by rw [sumG_snoc]; exact U26
      exact tni_go (by intro k_ hk_; rcases hk_ with rfl <;> omega) U27 trivial
    · intro D28 xs29 w30 hS_ hp_ M31
      have hxs_ : xs29 = gapsF cap l := hS_
      refine tn_blk (tn_code (tc_seq (tc_region ?_)))
      refine ld M31 2 18 (.int .i64 (sumG xs29)) ?_
      refine sg 1 [2] [(2, .int .i64 (sumG xs29))] ?_
      refine to_end rfl (tn_code (tc_ret ?_))
      refine tr_mark M31 0 rfl fun w32 M33 => ?_
      refine tr_tmp rfl rfl ?_
      have he : leftM cap l = sumG xs29 := by rw [hxs_]; exact if_pos h7
      exact ⟨by first | (rw [he]; done) | (rw [he]; rfl), M33.below⟩
    · exact fun _ _ _ _ h_ _ => h_.elim
end Go.Proofs.Ytfknhbgghpbkpaa
