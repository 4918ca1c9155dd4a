/- Swap. -/
import Derived.Test.YtfknhbgghpbkpaaInst7
namespace Go.Proofs.Ytfknhbgghpbkpaa
open Go.RowKit Cal Go.Proofs.YtfknhbgghpbkpaaW.PrintWords
theorem kFn_mix {x : Fn} {cs : List Value} {wr w : World} {L : List Ent} (M : Mem wr w (owns kFn 0 x cs :: L)) : Mem wr w (owns kMix 0 (Sum.inl x : MixE) cs :: L) := M.imp fun _ _ h => h
theorem set_code_le {p : List Fn} {f : Fn} {n k : Nat} (h : ∀ g ∈ p, fnMay g = true) (hf : fnMay ⟨0, f.code⟩ = true) : ((p.set n f).getD k Fn.z).code.length ≤ 1000000 := by
  have hfb : f.code.length ≤ 64 := (fnMay_bd hf).2.2.2.1
  by_cases hk : k < (p.set n f).length
  · have hm := at_mem Fn.z hk
    rcases List.mem_or_eq_of_mem_set hm with h1 | h1
    · have := (fnMay_bd (h _ h1)).2.2.2.1; omega
    · rw [h1]; omega
  · have e : (p.set n f).getD k Fn.z = Fn.z := by simp [List.getElem?_eq_none (show (p.set n f).length ≤ k by omega)]
    rw [e]; simp [Fn.z]
theorem swap_any (p : List Fn) (i : Int) (f : Fn) (A : Option Addr) (c : Nat) (Af : Option Addr) (cf : Nat) (w : World) (hC : kFn.C w A p.length p) (hF : kInst.C w Af f.code.length f.code) (hcf : f.code.length ≤ cf) : Calls Try.prog 50 #[.agg #[.slice A p.length c], .int .i64 i, .agg #[.int .i64 f.args, .slice Af f.code.length cf]] w fun e w' => ∃ A' c', e = .returned (.tuple #[.agg #[.slice A' (swapOf p i f).1.length c'], .int .i64 (swapOf p i f).2]) ∧ Mem w w' [row kFn 57 (.slice A' (swapOf p i f).1.length c') (swapOf p i f).1] := by
  have M := Mem.refl w
  have hmx := C_max hC
  obtain ⟨vs0, hvl0, hvC0, hvr0⟩ := raw_of hC
  refine calls_tc (N := 72) (args := [.agg #[.slice A p.length c], .int .i64 i, .agg #[.int .i64 f.args, .slice Af f.code.length cf]]) Try.func50 rfl rfl rfl ?_
  refine tc_seq (tc_region ?_)
  refine nw M 3 #[.slice A p.length c] 45 fun b1 w2 M3 => ?_
  refine nw M3 5 #[.int .i64 f.args, .slice Af f.code.length cf] 57 fun b4 w5 M6 => ?_
  refine nw M6 6 #[.slice none 0 0] 45 fun b7 w8 M9 => ?_
  refine sg 1 [1, 3, 5, 6] [(1, .int .i64 i), (3, .pointer (some ⟨b1, 0, none⟩)), (5, .pointer (some ⟨b4, 0, none⟩)), (6, .pointer (some ⟨b7, 0, none⟩))] ?_
  refine to_end rfl (tn_code (tc_seq (tc_region ?_)))
  refine la M9 1 11 #[.int .i64 f.args, .slice Af f.code.length cf] (hu := Try.underlying57) ?_
  refine nw M9 8 #[.int .i64 0, .slice none 0 0] 57 fun b10 w11 M12 => ?_
  refine sa M12 0 #[.int .i64 f.args, .slice Af f.code.length cf] fun w13 M14 => ?_
  refine to_end rfl (tn_code (tc_seq (tc_region ?_)))
  refine sg 1 [1, 3, 5, 6, 8, 12] [(1, .int .i64 i), (3, .pointer (some ⟨b1, 0, none⟩)), (5, .pointer (some ⟨b4, 0, none⟩)), (6, .pointer (some ⟨b7, 0, none⟩)), (8, .pointer (some ⟨b10, 0, none⟩)), (12, .pointer (some ⟨b10, 0, none⟩))] ?_
  refine st M14 0 #[.int .i64 0, .slice Af f.code.length cf] fun w15 M16 => ?_
  refine to_end rfl (tn_code (tc_seq (tc_block (tc_seq (tc_seq (tc_region ?_))))))
  refine la M16 3 14 #[.slice A p.length c] (hu := Try.underlying45) ?_
  refine cb M16 15 (pmay_any p A c _ (C_up M16 hC)) fun w17 hb19 M18 => ?_
  refine sg 2 [1, 3, 5, 6, 8, 13] [(1, .int .i64 i), (3, .pointer (some ⟨b1, 0, none⟩)), (5, .pointer (some ⟨b4, 0, none⟩)), (6, .pointer (some ⟨b7, 0, none⟩)), (8, .pointer (some ⟨b10, 0, none⟩)), (13, .bool (!(progMay p)))] ?_
  refine to_end rfl (tn_code ?_)
  rcases h20 : (progMay p : Bool) with _ | _
  · refine tc_cond_t (fun _ => rfl) (tc_skip (tn_code (tc_cond_t (fun _ => rfl) (tc_seq (tc_region ?_)))))
    refine sg 1 [6, 20] [(6, .pointer (some ⟨b7, 0, none⟩)), (20, .agg #[.slice none 0 0])] ?_
    refine sa M18 1 #[.slice none 0 0] fun w21 M22 => ?_
    refine sg 1 [6, 7] [(6, .pointer (some ⟨b7, 0, none⟩)), (7, .int .i64 1)] ?_
    refine to_end rfl (tn_code (tc_ret ?_))
    refine tr_cell_tmp M22 1 rfl rfl rfl rfl Try.underlying45 rfl (by kernel_rfl) ?_
    have he : swapOf p i f = ([], 1) := if_pos (.inl h20)
    rw [he]
    exact ⟨none, 0, rfl, (((((M22.drop 3).drop 2).drop 1).drop 0)).nilrow kFn 57⟩
  · refine tc_cond_f (fun _ => rfl) (tc_region ?_)
    refine la M18 0 17 #[.int .i64 0, .slice Af f.code.length cf] (hu := Try.underlying57) ?_
    refine cb M18 18 (fine_any ⟨0, f.code⟩ Af cf _ (C_up M18 hF)) fun w23 hb25 M24 => ?_
    refine sg 2 [1, 3, 5, 6, 13] [(1, .int .i64 i), (3, .pointer (some ⟨b1, 0, none⟩)), (5, .pointer (some ⟨b4, 0, none⟩)), (6, .pointer (some ⟨b7, 0, none⟩)), (13, .bool (!(fnMay ⟨0, f.code⟩)))] ?_
    refine to_end rfl (tn_code ?_)
    rcases h26 : (fnMay ⟨0, f.code⟩ : Bool) with _ | _
    · refine tc_cond_t (fun _ => rfl) (tc_seq (tc_region ?_))
      refine sg 1 [6, 20] [(6, .pointer (some ⟨b7, 0, none⟩)), (20, .agg #[.slice none 0 0])] ?_
      refine sa M24 1 #[.slice none 0 0] fun w27 M28 => ?_
      refine sg 1 [6, 7] [(6, .pointer (some ⟨b7, 0, none⟩)), (7, .int .i64 1)] ?_
      refine to_end rfl (tn_code (tc_ret ?_))
      refine tr_cell_tmp M28 1 rfl rfl rfl rfl Try.underlying45 rfl (by kernel_rfl) ?_
      have he : swapOf p i f = ([], 1) := if_pos (.inr h26)
      rw [he]
      exact ⟨none, 0, rfl, (((((M28.drop 3).drop 2).drop 1).drop 0)).nilrow kFn 57⟩
    · refine tc_cond_f (fun _ => rfl) (tc_seq (tc_region ?_))
      refine sg 3 [1, 3, 5, 6, 24] [(1, .int .i64 i), (3, .pointer (some ⟨b1, 0, none⟩)), (5, .pointer (some ⟨b4, 0, none⟩)), (6, .pointer (some ⟨b7, 0, none⟩)), (24, .bool (decide (i < 0)))] ?_
      rcases h29 : (decide (i < 0) : Bool) with _ | _
      · have h29p := of_decide_eq_false h29
        refine sg 2 [1, 3, 5, 6, 24, 25, 26] [(1, .int .i64 i), (3, .pointer (some ⟨b1, 0, none⟩)), (5, .pointer (some ⟨b4, 0, none⟩)), (6, .pointer (some ⟨b7, 0, none⟩)), (24, .bool false), (25, .int .i64 i), (26, .pointer (some ⟨b1, 0, none⟩))] ?_
        refine ld M24 3 27 (.slice A p.length c) ?_
        refine sg 4 [1, 3, 5, 6, 21] [(1, .int .i64 i), (3, .pointer (some ⟨b1, 0, none⟩)), (5, .pointer (some ⟨b4, 0, none⟩)), (6, .pointer (some ⟨b7, 0, none⟩)), (21, .bool (decide (i ≥ (p.length : Int))))] ?_
        refine to_end rfl (tn_code ?_)
        refine tc_cond (b := decide (i ≥ (p.length : Int))) (fun _ => rfl) (fun h30 => ?_) (fun h30 => ?_)
        · have h30p := of_decide_eq_true h30
          refine tc_seq (tc_region ?_)
          refine sg 1 [6, 31] [(6, .pointer (some ⟨b7, 0, none⟩)), (31, .agg #[.slice none 0 0])] ?_
          refine sa M24 1 #[.slice none 0 0] fun w31 M32 => ?_
          refine sg 1 [6, 7] [(6, .pointer (some ⟨b7, 0, none⟩)), (7, .int .i64 3)] ?_
          refine to_end rfl (tn_code (tc_ret ?_))
          refine tr_cell_tmp M32 1 rfl rfl rfl rfl Try.underlying45 rfl (by kernel_rfl) ?_
          have he : swapOf p i f = ([], 3) := (if_neg (by rw [h20, h26]; simp)).trans (if_pos (by omega))
          rw [he]
          exact ⟨none, 0, rfl, (((((M32.drop 3).drop 2).drop 1).drop 0)).nilrow kFn 57⟩
        · have h30p := of_decide_eq_false h30
          refine tc_seq ?_
          refine tc_drawL (fun w' => Mem w w' ([blk b10 #[.int .i64 0, .slice Af f.code.length cf] 57, blk b7 #[.slice none 0 0] 45, blk b4 #[.int .i64 f.args, .slice Af f.code.length cf] 57, blk b1 #[.slice A p.length c] 45])) [] (by kernel_rfl) ?_
          have M37 := M24.draw
          refine ty_take 0 33 (.pointer (some ⟨b1, 0, none⟩)) (pok_cont pok_body) ?_ M37 (fun _ _ _ => by kernel_rfl)
          refine ty_take 1 34 (.slice A p.length c) (pok_cont pok_body) ?_ M37 (fun _ M' _ => rl M' 3)
          refine ty_take 2 35 (.int .i64 i) (pok_cont pok_body) ?_ M37 (fun _ _ _ => by kernel_rfl)
          obtain ⟨n38, rfl⟩ := Int.eq_ofNat_of_zero_le (show 0 ≤ i by omega)
          obtain ⟨ad39, rfl⟩ := C_some hC (k := n38) (by first | omega | (simp only [List.length_map]; omega))
          refine ty_take 3 36 (.pointer (some (ad39.add (n38 * 2)))) (pok_cont pok_body) ?_ M37 (fun _ _ _ => ri (ad := ad39) (n := p.length) (c := c) n38 2 (by first | omega | (simp only [List.length_map]; omega)) Try.underlying43)
          refine ty_take 4 37 (.pointer (some (ad39.add (n38 * 2)))) (pok_cont pok_body) ?_ M37 (fun _ _ _ => by kernel_rfl)
          obtain ⟨cs42, hk40, hc41⟩ := C_cell hC Fn.z n38 (by omega)
          obtain ⟨A43, c44, rfl, hl45, hC46⟩ := kFn_open hk40
          refine ty_take 5 38 (.int .i64 (p.getD n38 Fn.z).args) (pok_cont pok_body) ?_ M37 (fun _ M' _ => re (cell_up M' (hc41 0 _ rfl)))
          refine ty_take 6 39 (.pointer (some ⟨b4, 0, none⟩)) (pok_cont pok_body) ?_ M37 (fun _ _ _ => by kernel_rfl)
          refine ty_take 7 40 (.int .i64 f.args) (pok_cont pok_body) ?_ M37 (fun _ M' _ => rl M' 2)
          refine ty_take 8 41 (.bool ((p.getD n38 Fn.z).args != f.args)) (pok_cont pok_body) ?_ M37 (fun _ _ _ => by kernel_rfl)
          refine ty_take 9 32 (.bool ((p.getD n38 Fn.z).args != f.args)) (pok_cont pok_body) ?_ M37 (fun _ _ _ => by kernel_rfl)
          refine ty_endL ?_
          refine tn_code ?_
          refine tc_cond (b := (p.getD n38 Fn.z).args != f.args) (fun _ => rfl) (fun h47 => ?_) (fun h47 => ?_)
          · have h47p := bne_iff_ne.1 h47
            refine tc_seq (tc_region ?_)
            refine sg 1 [6, 42] [(6, .pointer (some ⟨b7, 0, none⟩)), (42, .agg #[.slice none 0 0])] ?_
            refine sa M37 1 #[.slice none 0 0] fun w48 M49 => ?_
            refine sg 1 [6, 7] [(6, .pointer (some ⟨b7, 0, none⟩)), (7, .int .i64 9)] ?_
            refine to_end rfl (tn_code (tc_ret ?_))
            refine tr_cell_tmp M49 1 rfl rfl rfl rfl Try.underlying45 rfl (by kernel_rfl) ?_
            have he : swapOf p (n38 : Int) f = ([], 9) := (if_neg (by rw [h20, h26]; simp)).trans ((if_neg (by omega)).trans (if_pos (by have h_ := bne_iff_ne.1 h47; simpa using h_)))
            rw [he]
            exact ⟨none, 0, rfl, (((((M49.drop 3).drop 2).drop 1).drop 0)).nilrow kFn 57⟩
          · have h47p := bne_eq_false_iff_eq.1 h47
            refine tc_skip (tn_blk (tn_code (tc_seq (tc_region ?_))))
            refine sg 1 [1, 5, 6, 43] [(1, .int .i64 (n38 : Int)), (5, .pointer (some ⟨b4, 0, none⟩)), (6, .pointer (some ⟨b7, 0, none⟩)), (43, .pointer (some ⟨b1, 0, none⟩))] ?_
            refine ld M37 3 44 (.slice (some ad39) p.length c) ?_
            have hcl50 := clone_raw (some ad39) c vs0 (w23.drew) (C_up M37 hvC0) (by have h_ := (progMay_bd h20).2.1; omega)
            rw [hvl0] at hcl50
            refine ce 45 hcl50 fun e51 w52 h53 => ?_
            obtain ⟨A54, c55, rfl, hM56⟩ := h53
            have M58 := raw_row (M37.join hM56)
            refine ⟨_, rfl, ?_⟩
            refine sg 1 [1, 5, 6, 46] [(1, .int .i64 (n38 : Int)), (5, .pointer (some ⟨b4, 0, none⟩)), (6, .pointer (some ⟨b7, 0, none⟩)), (46, .agg #[.slice A54 p.length c55])] ?_
            refine nw M58 9 #[.slice none 0 0] 45 fun b59 w60 M61 => ?_
            refine sa M61 0 #[.slice A54 p.length c55] fun w62 M63 => ?_
            refine to_end rfl (tn_code (tc_seq (tc_region ?_)))
            refine sg 1 [1, 5, 6, 9, 47] [(1, .int .i64 (n38 : Int)), (5, .pointer (some ⟨b4, 0, none⟩)), (6, .pointer (some ⟨b7, 0, none⟩)), (9, .pointer (some ⟨b59, 0, none⟩)), (47, .pointer (some ⟨b59, 0, none⟩))] ?_
            refine ld M63 0 48 (.slice A54 p.length c55) ?_
            refine sg 1 [5, 6, 9, 48, 49] [(5, .pointer (some ⟨b4, 0, none⟩)), (6, .pointer (some ⟨b7, 0, none⟩)), (9, .pointer (some ⟨b59, 0, none⟩)), (48, .slice A54 p.length c55), (49, .int .i64 (n38 : Int))] ?_
            refine la M63 4 50 #[.int .i64 f.args, .slice Af f.code.length cf] (hu := Try.underlying57) ?_
            obtain ⟨ad64, rfl⟩ := C_some (M63.row_C 1 rfl) (k := n38) (by first | omega | (simp only [List.length_map]; omega))
            refine ix (ad := ad64) (n := p.length) (c := c55) 51 n38 2 (by first | omega | (simp only [List.length_map]; omega)) Try.underlying43 ?_
            have M65 := M63.flat (d := kMix) (x := (Sum.inr (f.args, Af, f.code.length, cf) : MixE)) (cs := [.int .i64 f.args, .slice Af f.code.length cf]) (fun _ => rfl)
            have M66 := M65.front 2 rfl
            refine rset (x := (Sum.inr (f.args, Af, f.code.length, cf) : MixE)) (vs := #[.int .i64 f.args, .slice Af f.code.length cf]) M66 MixE.z n38 (by first | omega | (simp only [List.length_map]; omega)) fun w67 M68 => ?_
            refine to_end rfl (tn_code (tc_seq (tc_seq (tc_region ?_))))
            refine sg 1 [6, 9, 52] [(6, .pointer (some ⟨b7, 0, none⟩)), (9, .pointer (some ⟨b59, 0, none⟩)), (52, .pointer (some ⟨b59, 0, none⟩))] ?_
            refine ld M68 1 53 (.slice (some ad64) p.length c55) ?_
            refine sg 2 [6, 9, 54, 55] [(6, .pointer (some ⟨b7, 0, none⟩)), (9, .pointer (some ⟨b59, 0, none⟩)), (54, .int .i64 (p.length : Int)), (55, .int .i64 0)] ?_
            refine to_end rfl (tn_code (tc_block ?_))
            have hm0 : ((vs0.map Sum.inr).set n38 (Sum.inr (f.args, Af, f.code.length, cf) : MixE)) = mixAt (p.set n38 f) (vs0.set n38 (f.args, Af, f.code.length, cf)) 0 := by rw [mixAt_zero, List.map_set]
            have hlp : (p.set n38 f).length = p.length := by rw [List.length_set]
            have hl1 : (vs0.set n38 (f.args, Af, f.code.length, cf)).length = (p.set n38 f).length := by rw [List.length_set, List.length_set, hvl0]
            have hR := mixR_set (v := (f.args, Af, f.code.length, cf)) (f := f) (i := n38) hvl0 hvr0 ⟨rfl, rfl, hcf, hF⟩
            rw [hm0] at M68
            refine tc_loop (σ := Nat) (fun s_ => match s_ with | k69 => [(6, .pointer (some ⟨b7, 0, none⟩)), (9, .pointer (some ⟨b59, 0, none⟩)), (54, .int .i64 (p.length : Int)), (55, .int .i64 (k69 : Int))]) (fun s_ w' => match s_ with | k69 => (k69 ≤ p.length) ∧ Mem w w' ([row kMix 57 (.slice (some ad64) p.length c55) (mixAt (p.set n38 f) (vs0.set n38 (f.args, Af, f.code.length, cf)) k69), blk b59 #[.slice (some ad64) p.length c55] 45, blk b10 #[.int .i64 0, .slice Af f.code.length cf] 57, blk b7 #[.slice none 0 0] 45, blk b4 #[.int .i64 f.args, .slice Af f.code.length cf] 57, blk b1 #[.slice (some ad39) p.length c] 45])) (fun s_ => match s_ with | k69 => p.length - k69) 0 (Sub.cons rfl (Sub.cons rfl (Sub.cons rfl (Sub.cons rfl (Sub.nil _))))) ⟨Nat.zero_le _, M68⟩ ?_
            rintro k69 w72 ⟨hi74, M73⟩
            refine tc_seq (tc_region ?_)
            refine sg 1 [6, 9, 54, 55, 56] [(6, .pointer (some ⟨b7, 0, none⟩)), (9, .pointer (some ⟨b59, 0, none⟩)), (54, .int .i64 (p.length : Int)), (55, .int .i64 (k69 : Int)), (56, .bool (decide ((k69 : Int) < (p.length : Int))))] ?_
            refine to_end rfl (tn_code (tc_seq ?_))
            refine tc_cond (b := decide ((k69 : Int) < (p.length : Int))) (fun _ => rfl) (fun h75 => ?_) (fun h75 => ?_)
            · have h75p := of_decide_eq_true h75
              refine tc_skip (tn_code (tc_seq (tc_block (tc_seq (tc_region ?_)))))
              refine sg 2 [6, 9, 54, 55, 10] [(6, .pointer (some ⟨b7, 0, none⟩)), (9, .pointer (some ⟨b59, 0, none⟩)), (54, .int .i64 (p.length : Int)), (55, .int .i64 (k69 : Int)), (10, .int .i64 (k69 : Int))] ?_
              refine to_end rfl (tn_code ?_)
              refine tc_drawL (fun w' => Mem w w' ([row kMix 57 (.slice (some ad64) p.length c55) (mixAt (p.set n38 f) (vs0.set n38 (f.args, Af, f.code.length, cf)) k69), blk b59 #[.slice (some ad64) p.length c55] 45, blk b10 #[.int .i64 0, .slice Af f.code.length cf] 57, blk b7 #[.slice none 0 0] 45, blk b4 #[.int .i64 f.args, .slice Af f.code.length cf] 57, blk b1 #[.slice (some ad39) p.length c] 45])) [12] (by kernel_rfl) ?_
              have M76 := M73.draw
              refine ty_take 0 58 (.pointer (some ⟨b59, 0, none⟩)) (pok_cont pok_body) ?_ M76 (fun _ _ _ => by kernel_rfl)
              refine ty_take 1 59 (.slice (some ad64) p.length c55) (pok_cont pok_body) ?_ M76 (fun _ M' _ => rl M' 1)
              refine ty_take 2 60 (.int .i64 (k69 : Int)) (pok_cont pok_body) ?_ M76 (fun _ _ _ => by kernel_rfl)
              refine ty_take 3 61 (.pointer (some ⟨b59, 0, none⟩)) (pok_cont pok_body) ?_ M76 (fun _ _ _ => by kernel_rfl)
              refine ty_take 4 62 (.slice (some ad64) p.length c55) (pok_cont pok_body) ?_ M76 (fun _ M' _ => rl M' 1)
              refine ty_take 5 63 (.int .i64 (k69 : Int)) (pok_cont pok_body) ?_ M76 (fun _ _ _ => by kernel_rfl)
              refine ty_take 6 64 (.pointer (some (ad64.add (k69 * 2)))) (pok_cont pok_body) ?_ M76 (fun _ _ _ => ri (ad := ad64) (n := p.length) (c := c55) k69 2 (by first | omega | (simp only [List.length_map]; omega)) Try.underlying43)
              refine ty_take 7 65 (.pointer (some ((ad64.add (k69 * 2)).add 1))) (pok_cont pok_body) ?_ M76 (fun _ _ _ => by kernel_rfl)
              refine ty_all (rs := [8]) (te_one ?_)
              obtain ⟨cs77, hk78, hc79⟩ := C_cell (M76.row_C 0 rfl) MixE.z k69 (by rw [mixAt_len hl1 (by omega)]; omega)
              rw [mixAt_get hl1 (by omega)] at hk78
              have hR81 := hR k69 (by omega)
              rcases hv80 : ((vs0.set n38 (f.args, Af, f.code.length, cf)).getD k69 rawZ) with ⟨a0, A0, n0, c0⟩
              rw [hv80] at hk78 hR81
              obtain ⟨hr1, hr2, hr3, hr4⟩ := hR81
              have hr1 : a0 = ((p.set n38 f).getD k69 Fn.z).args := hr1
              have hr2 : n0 = ((p.set n38 f).getD k69 Fn.z).code.length := hr2
              subst hr1 hr2
              obtain rfl : cs77 = [.int .i64 ((p.set n38 f).getD k69 Fn.z).args, .slice A0 ((p.set n38 f).getD k69 Fn.z).code.length c0] := hk78
              have hcl82 : ((p.set n38 f).getD k69 Fn.z).code.length ≤ 1000000 := set_code_le (progMay_bd h20).2.2.2 h26
              refine te_le 66 (.slice A0 ((p.set n38 f).getD k69 Fn.z).code.length c0) (hc79 1 _ rfl) ?_
              refine ty_all (rs := [9]) (te_one ?_)
              refine te_ce 67 (clone_inst A0 c0 ((p.set n38 f).getD k69 Fn.z).code _ (C_up M76 hr4) hcl82) fun e83 w84 h85 => ?_
              obtain ⟨A86, c87, rfl, hM88⟩ := h85
              have M89 := M76.join hM88
              refine ⟨_, rfl, fun _ _ => (M89.drop 0), ?_⟩
              refine ty_take 10 68 (.pointer (some (ad64.add (k69 * 2)))) (pok_cont pok_body) ?_ (M89.drop 0) (fun _ _ _ => ri (ad := ad64) (n := p.length) (c := c55) k69 2 (by first | omega | (simp only [List.length_map]; omega)) Try.underlying43)
              refine ty_take 11 69 (.pointer (some ((ad64.add (k69 * 2)).add 1))) (pok_cont pok_body) ?_ (M89.drop 0) (fun _ _ _ => by kernel_rfl)
              refine ty_all (rs := [12]) (te_one ?_)
              have M90 := kFn_mix (kFn_M (x := ((p.set n38 f).getD k69 Fn.z)) M89)
              have M93 := M90.front 1 rfl
              refine te_rset1 (x := (Sum.inl ((p.set n38 f).getD k69 Fn.z) : MixE)) (v := (.slice A86 ((p.set n38 f).getD k69 Fn.z).code.length c87)) M93 MixE.z k69 1 (by rw [mixAt_len hl1 (by omega)]; omega) (by decide) (fun cs hc => by rw [mixAt_get hl1 (by omega), hv80] at hc; rw [show cs = MixE.out _ from hc]; rfl) (fun _ _ h_ _ => absurd (by decide) h_) fun w91 M92 => ?_
              refine ty_endL ?_
              refine tn_blk (tn_code (tc_region ?_))
              refine sg 2 [6, 9, 54, 55] [(6, .pointer (some ⟨b7, 0, none⟩)), (9, .pointer (some ⟨b59, 0, none⟩)), (54, .int .i64 (p.length : Int)), (55, .int .i64 (IntKind.wrap .i64 ((k69 : Int) + 1)))] ?_
              rw [show IntKind.wrap .i64 ((k69 : Int) + 1) = (((k69 + 1) : Nat) : Int) from wr_nat k69 1 (by omega)]
              refine to_end rfl ?_
              have hs94 : ((mixAt (p.set n38 f) (vs0.set n38 (f.args, Af, f.code.length, cf)) k69).set k69 (Sum.inl ((p.set n38 f).getD k69 Fn.z))) = mixAt (p.set n38 f) (vs0.set n38 (f.args, Af, f.code.length, cf)) (k69 + 1) := mixAt_set hl1 (by omega)
              rw [hs94] at M92
              exact tn_back (s := k69) (k69 + 1) (Sub.cons rfl (Sub.cons rfl (Sub.cons rfl (Sub.cons rfl (Sub.nil _))))) ⟨by omega, M92⟩ (by simp only; omega)
            · have h75p := of_decide_eq_false h75
              refine tc_exitK (k' := _) rfl (tn_code (tc_seq (tc_region ?_)))
              refine la M73 1 71 #[.slice (some ad64) p.length c55] (hu := Try.underlying45) ?_
              refine sa M73 3 #[.slice (some ad64) p.length c55] fun w95 M96 => ?_
              refine sg 1 [6, 7] [(6, .pointer (some ⟨b7, 0, none⟩)), (7, .int .i64 0)] ?_
              refine to_end rfl (tn_code (tc_ret ?_))
              refine tr_cell_tmp M96 3 rfl rfl rfl rfl Try.underlying45 rfl (by kernel_rfl) ?_
              have he : swapOf p (n38 : Int) f = (p.set n38 f, 0) := (if_neg (by rw [h20, h26]; simp)).trans ((if_neg (by omega)).trans (if_neg (by have h_ := bne_eq_false_iff_eq.1 h47; simpa using h_)))
              have M97 := (((((M96.drop 5).drop 4).drop 3).drop 2).drop 1)
              rw [mixAt_all hl1 (by omega)] at M97
              have M98 := mix_all M97
              rw [he]
              simp only [List.length_set]
              exact ⟨_, _, rfl, M98⟩
      · have h29p := of_decide_eq_true h29
        refine sg 7 [1, 3, 5, 6, 21] [(1, .int .i64 i), (3, .pointer (some ⟨b1, 0, none⟩)), (5, .pointer (some ⟨b4, 0, none⟩)), (6, .pointer (some ⟨b7, 0, none⟩)), (21, .bool true)] ?_
        refine to_end rfl (tn_code (tc_cond_t (fun _ => rfl) (tc_seq (tc_region ?_))))
        refine sg 1 [6, 31] [(6, .pointer (some ⟨b7, 0, none⟩)), (31, .agg #[.slice none 0 0])] ?_
        refine sa M24 1 #[.slice none 0 0] fun w99 M100 => ?_
        refine sg 1 [6, 7] [(6, .pointer (some ⟨b7, 0, none⟩)), (7, .int .i64 3)] ?_
        refine to_end rfl (tn_code (tc_ret ?_))
        refine tr_cell_tmp M100 1 rfl rfl rfl rfl Try.underlying45 rfl (by kernel_rfl) ?_
        have he : swapOf p i f = ([], 3) := (if_neg (by rw [h20, h26]; simp)).trans (if_pos (by omega))
        rw [he]
        exact ⟨none, 0, rfl, (((((M100.drop 3).drop 2).drop 1).drop 0)).nilrow kFn 57⟩
end Go.Proofs.Ytfknhbgghpbkpaa
