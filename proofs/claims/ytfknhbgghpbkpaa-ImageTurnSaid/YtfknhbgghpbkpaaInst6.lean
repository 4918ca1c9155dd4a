/- Own, awake. -/
import Derived.Test.YtfknhbgghpbkpaaInst5
namespace Go.Proofs.Ytfknhbgghpbkpaa
open Go.RowKit Cal Go.Proofs.YtfknhbgghpbkpaaW.PrintWords
theorem take_step {α : Type} (z : α) (xs : List α) {k : Nat} (hk : k < xs.length) : xs.take (k + 1) = xs.take k ++ [xs.getD k z] := by
  have e : xs.getD k z = xs[k] := by simp [hk]
  rw [e, List.take_succ_eq_append_getElem hk]
def awP : List Fn := [⟨0, [⟨7, 0, 0, 0, false, 0, 0⟩]⟩]
def awB : List Int := [88, 86, 1, 0, 1, 112, 0, 0, 0, 0, 0, 0, 0]
theorem aw_put : progBytes awP = awB := by decide
theorem aw_may : progMay awP = true := by decide
set_option maxRecDepth 100000 in
theorem aw_get : progGet awB = (awP, 0) := by decide
theorem aw_bytes : decide (awB = [88, 86, 1, 0, 1, 112, 0, 0, 0, 0, 0, 0, 0]) = true := by decide
theorem aw_len : ((awP.length : Int) == 1) = true := by decide
theorem get_aw (A : Option Addr) (c : Nat) (w : World) (hC : kB.C w A awB.length awB) (hc : awB.length ≤ c) : Calls Try.prog 54 #[.slice A awB.length c] w fun e w' =>
    ∃ A' c', e = .returned (.tuple #[.agg #[.slice A' awP.length c'], .int .i64 0]) ∧ Mem w w' [row kFn 57 (.slice A' awP.length c') awP] := by
  have h := get_prog A c awB w hC hc (by unfold isB; decide)
  rw [aw_get] at h
  exact h
theorem own_any (p : List Fn) (A : Option Addr) (c : Nat) (w : World) (hC : kFn.C w A p.length p) (hfew : fewB p = true) : Calls Try.prog 46 #[.agg #[.slice A p.length c]] w fun e w' => ∃ A' c', e = .returned (.agg #[.slice A' p.length c']) ∧ Mem w w' [row kFn 57 (.slice A' p.length c') p] := by
  have M := Mem.refl w
  have hmx := C_max hC
  have hfw := fewB_bd hfew
  refine calls_tc (N := 32) (args := [.agg #[.slice A p.length c]]) Try.func46 rfl rfl rfl ?_
  refine tc_seq (tc_region ?_)
  refine nw M 1 #[.slice A p.length c] 45 fun b1 w2 M3 => ?_
  refine nw M3 2 #[.slice none 0 0] 45 fun b4 w5 M6 => ?_
  refine to_end rfl (tn_code (tc_seq (tc_region ?_)))
  refine nw M6 3 #[.slice none 0 0] 45 fun b7 w8 M9 => ?_
  refine to_end rfl (tn_code (tc_seq (tc_seq (tc_region ?_))))
  refine sg 1 [1, 2, 3, 4] [(1, .pointer (some ⟨b1, 0, none⟩)), (2, .pointer (some ⟨b4, 0, none⟩)), (3, .pointer (some ⟨b7, 0, none⟩)), (4, .int .i64 0)] ?_
  refine to_end rfl (tn_code (tc_block ?_))
  have M10 := M9.nilrow kFn 57
  refine tc_loop (σ := Nat × Option Addr × Nat) (fun s_ => match s_ with | (k15, A16, c17) => [(1, .pointer (some ⟨b1, 0, none⟩)), (2, .pointer (some ⟨b4, 0, none⟩)), (3, .pointer (some ⟨b7, 0, none⟩)), (4, .int .i64 (k15 : Int))]) (fun s_ w' => match s_ with | (k15, A16, c17) => k15 ≤ p.length ∧ True ∧ Mem w w' ([row kFn 57 (.slice A16 (List.take k15 p).length c17) (List.take k15 p), blk b7 #[.slice A16 (List.take k15 p).length c17] 45, blk b4 #[.slice none 0 0] 45, blk b1 #[.slice A p.length c] 45])) (fun s_ => p.length - s_.1) (0, none, 0) (Sub.cons rfl (Sub.cons rfl (Sub.cons rfl (Sub.cons rfl (Sub.nil _))))) ⟨Nat.zero_le _, trivial, M10⟩ ?_
  rintro ⟨k15, A16, c17⟩ w20 ⟨hk18, hi19, M21⟩
  refine tc_seq (tc_seq (tc_region ?_))
  refine sg 2 [1, 2, 3, 4, 5, 6] [(1, .pointer (some ⟨b1, 0, none⟩)), (2, .pointer (some ⟨b4, 0, none⟩)), (3, .pointer (some ⟨b7, 0, none⟩)), (4, .int .i64 (k15 : Int)), (5, .int .i64 (k15 : Int)), (6, .pointer (some ⟨b1, 0, none⟩))] ?_
  refine ld M21 3 7 (.slice A p.length c) ?_
  refine sg 2 [1, 2, 3, 4, 9] [(1, .pointer (some ⟨b1, 0, none⟩)), (2, .pointer (some ⟨b4, 0, none⟩)), (3, .pointer (some ⟨b7, 0, none⟩)), (4, .int .i64 (k15 : Int)), (9, .bool (decide ((k15 : Int) < (p.length : Int))))] ?_
  refine to_end rfl (tn_code ?_)
  refine tc_cond (b := decide ((k15 : Int) < (p.length : Int))) (fun _ => rfl) (fun h22 => ?_) (fun h22 => ?_)
  · have h22p := of_decide_eq_true h22
    refine tc_skip (tn_code (tc_seq (tc_block ?_)))
    refine tc_drawL (fun w' => Mem w w' ([blk b7 #[.slice A16 (List.take k15 p).length c17] 45, blk b4 #[.slice none 0 0] 45, blk b1 #[.slice A p.length c] 45])) [19] (by kernel_rfl) ?_
    have M23 := M21.draw
    refine ty_take 0 12 (.pointer (some ⟨b7, 0, none⟩)) (pok_cont pok_body) ?_ (M23.drop 0) (fun _ _ _ => by kernel_rfl)
    refine ty_take 1 13 (.slice A16 (List.take k15 p).length c17) (pok_cont pok_body) ?_ (M23.drop 0) (fun _ M' _ => rl M' 0)
    refine ty_take 2 14 (.pointer (some ⟨b1, 0, none⟩)) (pok_cont pok_body) ?_ (M23.drop 0) (fun _ _ _ => by kernel_rfl)
    refine ty_take 3 15 (.slice A p.length c) (pok_cont pok_body) ?_ (M23.drop 0) (fun _ M' _ => rl M' 2)
    refine ty_take 4 16 (.int .i64 (k15 : Int)) (pok_cont pok_body) ?_ (M23.drop 0) (fun _ _ _ => by kernel_rfl)
    obtain ⟨ad24, rfl⟩ := C_some hC (k := k15) (by omega)
    refine ty_take 5 17 (.pointer (some (ad24.add (k15 * 2)))) (pok_cont pok_body) ?_ (M23.drop 0) (fun _ _ _ => ri (ad := ad24) (n := p.length) (c := c) k15 2 (by omega) Try.underlying43)
    refine ty_take 6 18 (.pointer (some (ad24.add (k15 * 2)))) (pok_cont pok_body) ?_ (M23.drop 0) (fun _ _ _ => by kernel_rfl)
    obtain ⟨cs27, hk25, hc26⟩ := C_cell hC Fn.z k15 (by omega)
    obtain ⟨A28, c29, rfl, hl30, hC31⟩ := kFn_open hk25
    refine ty_take 7 19 (.int .i64 (p.getD k15 Fn.z).args) (pok_cont pok_body) ?_ (M23.drop 0) (fun _ M' _ => re (cell_up M' (hc26 0 _ rfl)))
    refine ty_take 8 20 (.pointer (some ⟨b1, 0, none⟩)) (pok_cont pok_body) ?_ (M23.drop 0) (fun _ _ _ => by kernel_rfl)
    refine ty_take 9 21 (.slice (some ad24) p.length c) (pok_cont pok_body) ?_ (M23.drop 0) (fun _ M' _ => rl M' 2)
    refine ty_take 10 22 (.int .i64 (k15 : Int)) (pok_cont pok_body) ?_ (M23.drop 0) (fun _ _ _ => by kernel_rfl)
    refine ty_take 11 23 (.pointer (some (ad24.add (k15 * 2)))) (pok_cont pok_body) ?_ (M23.drop 0) (fun _ _ _ => ri (ad := ad24) (n := p.length) (c := c) k15 2 (by omega) Try.underlying43)
    refine ty_take 12 24 (.pointer (some ((ad24.add (k15 * 2)).add 1))) (pok_cont pok_body) ?_ (M23.drop 0) (fun _ _ _ => by kernel_rfl)
    refine ty_take 13 25 (.slice A28 (p.getD k15 Fn.z).code.length c29) (pok_cont pok_body) ?_ (M23.drop 0) (fun _ M' _ => re (cell_up M' (hc26 1 _ rfl)))
    refine ty_all (rs := [14]) (te_one ?_)
    have M32 := M23.nilrow kInst 65
    refine te_apC (z := .agg Inst.z.cs) (bytes := 56) (c := c29) M32 26 flatInst (C_up M32 hC31) Try.underlying55 ?_ (fun _ _ _ M_ _ _ => ((M_.drop 1).drop 0)) fun A33 c34 w35 M36 => ?_
    · have hz := hfw.2 _ (at_mem Fn.z (k := k15) (by omega)); simp only [List.length_append, List.length_nil, List.length_cons, List.length_take]; omega
    refine ty_take 15 27 (.agg #[.int .i64 (p.getD k15 Fn.z).args, .slice A33 ([] ++ (p.getD k15 Fn.z).code).length c34]) (pok_cont pok_body) ?_ ((M36.drop 1).drop 0) (fun _ _ _ => by kernel_rfl)
    refine ty_all (rs := [16]) (te_one ?_)
    have M40 := kFn_M (x := (⟨(p.getD k15 Fn.z).args, ([] ++ (p.getD k15 Fn.z).code)⟩ : Fn)) M36
    refine te_bs1 (x := (⟨(p.getD k15 Fn.z).args, ([] ++ (p.getD k15 Fn.z).code)⟩ : Fn)) (cs := #[.int .i64 (p.getD k15 Fn.z).args, .slice A33 ([] ++ (p.getD k15 Fn.z).code).length c34]) M40 28 57 (fun _ _ M_ _ _ => ((M_.drop 1).drop 0)) fun b37 w38 M39 => ?_
    refine ty_all (rs := [17]) (te_one ?_)
    have M45 := M39.front 1 rfl
    refine te_ap (z := .agg #[.int .i64 0, .slice none 0 0]) (bytes := 32) M45 29 Try.underlying43 ?_ (fun _ _ _ M_ _ _ => (M_.drop 0)) fun A41 c42 w43 M44 => ?_
    · have hz := hfw.2 _ (at_mem Fn.z (k := k15) (by omega)); simp only [List.length_append, List.length_nil, List.length_cons, List.length_take]; omega
    refine ty_take 18 30 (.pointer (some ⟨b7, 0, none⟩)) (pok_cont pok_body) ?_ (M44.drop 0) (fun _ _ _ => by kernel_rfl)
    refine ty_all (rs := [19]) (te_one ?_)
    refine te_st M44 1 #[.slice A41 ((List.take k15 p) ++ [(⟨(p.getD k15 Fn.z).args, ([] ++ (p.getD k15 Fn.z).code)⟩ : Fn)]).length c42] (fun _ _ h_ _ => absurd (by decide) h_) fun w46 M47 => ?_
    refine ty_endL ?_
    refine tn_blk (tn_code (tc_region ?_))
    refine sg 3 [1, 2, 3, 4] [(1, .pointer (some ⟨b1, 0, none⟩)), (2, .pointer (some ⟨b4, 0, none⟩)), (3, .pointer (some ⟨b7, 0, none⟩)), (4, .int .i64 (IntKind.wrap .i64 ((k15 : Int) + 1)))] ?_
    rw [show IntKind.wrap .i64 ((k15 : Int) + 1) = (((k15 + 1) : Nat) : Int) from wr_nat k15 1 (by omega)]
    refine to_end rfl ?_
    have hs48 : ((List.take k15 p) ++ [(⟨(p.getD k15 Fn.z).args, ([] ++ (p.getD k15 Fn.z).code)⟩ : Fn)]) = (List.take (k15 + 1) p) := by rw [take_step Fn.z _ (by omega)]; rfl
    exact tn_back ((k15 + 1), A41, c42) (Sub.cons rfl (Sub.cons rfl (Sub.cons rfl (Sub.cons rfl (Sub.nil _))))) ⟨by omega, trivial, (by rw [← hs48]; exact M47)⟩ (by omega)
  · have h22p := of_decide_eq_false h22
    refine tc_exitK (k' := _) rfl (tn_code (tc_seq (tc_region ?_)))
    refine la M21 1 31 #[.slice A16 (List.take k15 p).length c17] (hu := Try.underlying45) ?_
    refine sa M21 2 #[.slice A16 (List.take k15 p).length c17] fun w49 M50 => ?_
    refine to_end rfl (tn_code (tc_ret ?_))
    refine tr_cell M50 2 rfl rfl rfl Try.underlying45 rfl (by kernel_rfl) ?_
    have hl : List.take k15 p = p := List.take_of_length_le (by omega)
    have M51 := (((M50.drop 3).drop 2).drop 1)
    exact ⟨A16, c17, by rw [hl], hl ▸ M51⟩

theorem awake_any (w : World) : Calls Try.prog 45 #[] w fun e w' => e = .returned (.bool true) ∧ Below w.heap.size w w' := by
  have M := Mem.refl w
  refine calls_tc (N := 40) (args := []) Try.func45 rfl rfl rfl ?_
  refine tc_seq (tc_region ?_)
  refine sg 1 [] [] ?_
  refine to_end rfl (tn_code (tc_seq (tc_region ?_)))
  refine sg 1 [6] [(6, .agg #[.int .i64 7, .int .i64 0, .int .i64 0, .int .i64 0, .bool false, .int .i64 0, .int .u32 0])] ?_
  have M4 := M.flat (d := kInst) (x := (⟨7, 0, 0, 0, false, 0, 0⟩ : Inst)) (cs := (#[.int .i64 7, .int .i64 0, .int .i64 0, .int .i64 0, .bool false, .int .i64 0, .int .u32 0] : Array Value).toList) (kInst_M _ _)
  refine bs1 (x := (⟨7, 0, 0, 0, false, 0, 0⟩ : Inst)) (cs := #[.int .i64 7, .int .i64 0, .int .i64 0, .int .i64 0, .bool false, .int .i64 0, .int .u32 0]) M4 7 65 fun b1 w2 M3 => ?_
  refine sg 1 [8] [(8, .agg #[.int .i64 0, .slice (some ⟨b1, 0, none⟩) 1 1])] ?_
  have M8 := kFn_M (x := (⟨0, [(⟨7, 0, 0, 0, false, 0, 0⟩ : Inst)]⟩ : Fn)) M3
  refine bs1 (x := (⟨0, [(⟨7, 0, 0, 0, false, 0, 0⟩ : Inst)]⟩ : Fn)) (cs := #[.int .i64 0, .slice (some ⟨b1, 0, none⟩) 1 1]) M8 9 57 fun b5 w6 M7 => ?_
  refine sg 1 [10] [(10, .agg #[.slice (some ⟨b5, 0, none⟩) 1 1])] ?_
  refine ce 11 (put_prog awP (some ⟨b5, 0, none⟩) 1 _ (M7.row_C 0 rfl) aw_may) fun e9 w10 h11 => ?_
  obtain ⟨A12, c13, rfl, hM14⟩ := h11
  have M15 := M7.join hM14
  refine ⟨_, rfl, ?_⟩
  refine sg 5 [1, 2] [(1, .slice A12 awB.length c13), (2, .int .i64 0)] ?_
  refine to_end rfl (tn_code (tc_seq (tc_region ?_)))
  refine sg 1 [1, 2, 15] [(1, .slice A12 awB.length c13), (2, .int .i64 0), (15, .slice A12 awB.length c13)] ?_
  refine ce 16 (get_aw A12 c13 _ (M15.row_C 0 rfl) (M15.row_cap 0 rfl)) fun e16 w17 h18 => ?_
  obtain ⟨A19, c20, rfl, hM21⟩ := h18
  have M22 := M15.join hM21
  refine ⟨_, rfl, ?_⟩
  refine sg 3 [1, 2, 17, 18] [(1, .slice A12 awB.length c13), (2, .int .i64 0), (17, .agg #[.slice A19 awP.length c20]), (18, .int .i64 0)] ?_
  refine nw M22 3 #[.slice none 0 0] 45 fun b23 w24 M25 => ?_
  refine sa M25 0 #[.slice A19 awP.length c20] fun w26 M27 => ?_
  refine sg 1 [1, 2, 3, 4] [(1, .slice A12 awB.length c13), (2, .int .i64 0), (3, .pointer (some ⟨b23, 0, none⟩)), (4, .int .i64 0)] ?_
  refine to_end rfl (tn_code (tc_seq (tc_region ?_)))
  refine sg 8 [3, 25, 26] [(3, .pointer (some ⟨b23, 0, none⟩)), (25, .bool true), (26, .slice A12 awB.length c13)] ?_
  refine bsF M27 27 kB 5 ([88, 86, 1, 0, 1, 112, 0, 0, 0, 0, 0, 0, 0] : List Int) #[.int .u8 88, .int .u8 86, .int .u8 1, .int .u8 0, .int .u8 1, .int .u8 112, .int .u8 0, .int .u8 0, .int .u8 0, .int .u8 0, .int .u8 0, .int .u8 0, .int .u8 0] (repB [88, 86, 1, 0, 1, 112, 0, 0, 0, 0, 0, 0, 0]) (Nat.le_of_ble_eq_true rfl) fun b28 w29 M30 => ?_
  refine cb M30 28 (bytes_any A12 c13 awB (some ⟨b28, 0, none⟩) 13 [88, 86, 1, 0, 1, 112, 0, 0, 0, 0, 0, 0, 0] _ (M30.row_C 3 rfl) (M30.row_C 0 rfl)) fun w31 hb33 M32 => ?_
  refine sg 2 [3, 30] [(3, .pointer (some ⟨b23, 0, none⟩)), (30, .bool (decide (awB = [88, 86, 1, 0, 1, 112, 0, 0, 0, 0, 0, 0, 0])))] ?_
  rw [aw_bytes]
  refine sg 1 [3, 30, 31] [(3, .pointer (some ⟨b23, 0, none⟩)), (30, .bool true), (31, .pointer (some ⟨b23, 0, none⟩))] ?_
  refine ld M32 1 32 (.slice A19 awP.length c20) ?_
  refine sg 4 [3, 36] [(3, .pointer (some ⟨b23, 0, none⟩)), (36, .bool ((awP.length : Int) == 1))] ?_
  rw [aw_len]
  refine la M32 1 37 #[.slice A19 awP.length c20] (hu := Try.underlying45) ?_
  refine cb M32 38 (pmay_any awP A19 c20 _ (M32.row_C 2 rfl)) fun w34 hb36 M35 => ?_
  refine sg 2 [0] [(0, .bool (progMay awP))] ?_
  refine to_end rfl (tn_code (tc_ret ?_))
  refine tr_tmp rfl rfl ?_
  exact ⟨congrArg Ending.returned (congrArg Value.bool (rfl)), M35.below⟩
end Go.Proofs.Ytfknhbgghpbkpaa
