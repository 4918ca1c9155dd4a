/- Own, its codes apart. -/
import Derived.Test.YtfknhbgghpbkpaaApart
namespace Go.Proofs.Ytfknhbgghpbkpaa
open Go.RowKit Cal Go.Proofs.YtfknhbgghpbkpaaW.PrintWords
theorem own_apart (p : List Fn) (A : Option Addr) (c : Nat) (w : World) (hC : kFn.C w A p.length p) (hfew : fewB p = true) : Calls Try.prog 46 #[.agg #[.slice A p.length c]] w fun e w' => ∃ A' c' vs, e = .returned (.agg #[.slice A' p.length c']) ∧ Mem w w' [row kRaw 57 (.slice A' vs.length c') vs, star (codes vs p)] ∧ rawOk vs p := by
  have M := Mem.refl w
  have hmx := C_max hC
  have hfw := fewB_bd hfew
  refine calls_tc (N := 32) (args := [.agg #[.slice A p.length c]]) Try.func46 rfl rfl rfl ?_
  refine tc_seq (tc_region ?_)
  refine nw M 1 #[.slice A p.length c] 45 fun b1 w2 M3 => ?_
  refine nw M3 2 #[.slice none 0 0] 45 fun b4 w5 M6 => ?_
  refine to_end rfl (tn_code (tc_seq (tc_region ?_)))
  refine nw M6 3 #[.slice none 0 0] 45 fun b7 w8 M9 => ?_
  refine to_end rfl (tn_code (tc_seq (tc_seq (tc_region ?_))))
  refine sg 1 [1, 2, 3, 4] [(1, .pointer (some ⟨b1, 0, none⟩)), (2, .pointer (some ⟨b4, 0, none⟩)), (3, .pointer (some ⟨b7, 0, none⟩)), (4, .int .i64 0)] ?_
  refine to_end rfl (tn_code (tc_block ?_))
  have M10 := Mem.star (A := codes [] []) M9
  have M11 := M10.nilrow kRaw 57
  refine tc_loop (σ := Nat × List Raw × Option Addr × Nat) (fun s_ => match s_ with | (k12, vs13, A14, c15) => [(1, .pointer (some ⟨b1, 0, none⟩)), (2, .pointer (some ⟨b4, 0, none⟩)), (3, .pointer (some ⟨b7, 0, none⟩)), (4, .int .i64 (k12 : Int))]) (fun s_ w' => match s_ with | (k12, vs13, A14, c15) => (k12 ≤ p.length ∧ rawOk vs13 (List.take k12 p)) ∧ Mem w w' ([row kRaw 57 (.slice A14 vs13.length c15) vs13, star (codes vs13 (List.take k12 p)), blk b7 #[.slice A14 vs13.length c15] 45, blk b4 #[.slice none 0 0] 45, blk b1 #[.slice A p.length c] 45])) (fun s_ => match s_ with | (k12, vs13, A14, c15) => p.length - k12) (0, [], none, 0) (Sub.cons rfl (Sub.cons rfl (Sub.cons rfl (Sub.cons rfl (Sub.nil _))))) ⟨⟨Nat.zero_le _, rawOk_nil⟩, M11⟩ ?_
  rintro ⟨k12, vs13, A14, c15⟩ w20 ⟨hi22, M21⟩
  obtain ⟨hq1, hq2⟩ := hi22
  refine tc_seq (tc_seq (tc_region ?_))
  refine sg 2 [1, 2, 3, 4, 5, 6] [(1, .pointer (some ⟨b1, 0, none⟩)), (2, .pointer (some ⟨b4, 0, none⟩)), (3, .pointer (some ⟨b7, 0, none⟩)), (4, .int .i64 (k12 : Int)), (5, .int .i64 (k12 : Int)), (6, .pointer (some ⟨b1, 0, none⟩))] ?_
  refine ld M21 4 7 (.slice A p.length c) ?_
  refine sg 2 [1, 2, 3, 4, 9] [(1, .pointer (some ⟨b1, 0, none⟩)), (2, .pointer (some ⟨b4, 0, none⟩)), (3, .pointer (some ⟨b7, 0, none⟩)), (4, .int .i64 (k12 : Int)), (9, .bool (decide ((k12 : Int) < (p.length : Int))))] ?_
  refine to_end rfl (tn_code ?_)
  refine tc_cond (b := decide ((k12 : Int) < (p.length : Int))) (fun _ => rfl) (fun h23 => ?_) (fun h23 => ?_)
  · have h23p := of_decide_eq_true h23
    refine tc_skip (tn_code (tc_seq (tc_block ?_)))
    refine tc_drawL (fun w' => Mem w w' ([star (codes vs13 (List.take k12 p)), blk b7 #[.slice A14 vs13.length c15] 45, blk b4 #[.slice none 0 0] 45, blk b1 #[.slice A p.length c] 45])) [19] (by kernel_rfl) ?_
    have M24 := M21.draw
    refine ty_take 0 12 (.pointer (some ⟨b7, 0, none⟩)) (pok_cont pok_body) ?_ (M24.drop 0) (fun _ _ _ => by kernel_rfl)
    refine ty_take 1 13 (.slice A14 vs13.length c15) (pok_cont pok_body) ?_ (M24.drop 0) (fun _ M' _ => rl M' 1)
    refine ty_take 2 14 (.pointer (some ⟨b1, 0, none⟩)) (pok_cont pok_body) ?_ (M24.drop 0) (fun _ _ _ => by kernel_rfl)
    refine ty_take 3 15 (.slice A p.length c) (pok_cont pok_body) ?_ (M24.drop 0) (fun _ M' _ => rl M' 3)
    refine ty_take 4 16 (.int .i64 (k12 : Int)) (pok_cont pok_body) ?_ (M24.drop 0) (fun _ _ _ => by kernel_rfl)
    obtain ⟨ad25, rfl⟩ := C_some hC (k := k12) (by omega)
    refine ty_take 5 17 (.pointer (some (ad25.add (k12 * 2)))) (pok_cont pok_body) ?_ (M24.drop 0) (fun _ _ _ => ri (ad := ad25) (n := p.length) (c := c) k12 2 (by omega) Try.underlying43)
    refine ty_take 6 18 (.pointer (some (ad25.add (k12 * 2)))) (pok_cont pok_body) ?_ (M24.drop 0) (fun _ _ _ => by kernel_rfl)
    obtain ⟨cs28, hk26, hc27⟩ := C_cell hC Fn.z k12 (by omega)
    obtain ⟨A29, c30, rfl, hl31, hC32⟩ := kFn_open hk26
    refine ty_take 7 19 (.int .i64 (p.getD k12 Fn.z).args) (pok_cont pok_body) ?_ (M24.drop 0) (fun _ M' _ => re (cell_up M' (hc27 0 _ rfl)))
    refine ty_take 8 20 (.pointer (some ⟨b1, 0, none⟩)) (pok_cont pok_body) ?_ (M24.drop 0) (fun _ _ _ => by kernel_rfl)
    refine ty_take 9 21 (.slice (some ad25) p.length c) (pok_cont pok_body) ?_ (M24.drop 0) (fun _ M' _ => rl M' 3)
    refine ty_take 10 22 (.int .i64 (k12 : Int)) (pok_cont pok_body) ?_ (M24.drop 0) (fun _ _ _ => by kernel_rfl)
    refine ty_take 11 23 (.pointer (some (ad25.add (k12 * 2)))) (pok_cont pok_body) ?_ (M24.drop 0) (fun _ _ _ => ri (ad := ad25) (n := p.length) (c := c) k12 2 (by omega) Try.underlying43)
    refine ty_take 12 24 (.pointer (some ((ad25.add (k12 * 2)).add 1))) (pok_cont pok_body) ?_ (M24.drop 0) (fun _ _ _ => by kernel_rfl)
    refine ty_take 13 25 (.slice A29 (p.getD k12 Fn.z).code.length c30) (pok_cont pok_body) ?_ (M24.drop 0) (fun _ M' _ => re (cell_up M' (hc27 1 _ rfl)))
    refine ty_all (rs := [14]) (te_one ?_)
    have M33 := M24.nilrow kInst 65
    refine te_apC (z := .agg Inst.z.cs) (bytes := 56) (c := c30) M33 26 flatInst (C_up M33 hC32) Try.underlying55 ?_ (fun _ _ _ M_ _ _ => ((M_.drop 1).drop 0)) fun A34 c35 w36 M37 => ?_
    · have hz := hfw.2 _ (at_mem Fn.z (k := k12) (by omega)); have hvz := hq2.1; rw [List.length_take] at hvz; simp only [List.length_append, List.length_nil, List.length_cons]; omega
    refine ty_take 15 27 (.agg #[.int .i64 (p.getD k12 Fn.z).args, .slice A34 ([] ++ (p.getD k12 Fn.z).code).length c35]) (pok_cont pok_body) ?_ ((M37.drop 1).drop 0) (fun _ _ _ => by kernel_rfl)
    refine ty_all (rs := [16]) (te_one ?_)
    have M41 := M37.flat (d := kRaw) (x := (((p.getD k12 Fn.z).args, A34, ([] ++ (p.getD k12 Fn.z).code).length, c35) : Raw)) (cs := [.int .i64 (p.getD k12 Fn.z).args, .slice A34 ([] ++ (p.getD k12 Fn.z).code).length c35]) (by intro _; rfl)
    refine te_bs1 (x := (((p.getD k12 Fn.z).args, A34, ([] ++ (p.getD k12 Fn.z).code).length, c35) : Raw)) (cs := #[.int .i64 (p.getD k12 Fn.z).args, .slice A34 ([] ++ (p.getD k12 Fn.z).code).length c35]) M41 28 57 (fun _ _ M_ _ _ => (((M_.drop 2).drop 1).drop 0)) fun b38 w39 M40 => ?_
    refine ty_all (rs := [17]) (te_one ?_)
    have M46 := M40.front 2 rfl
    refine te_ap (z := .agg #[.int .i64 0, .slice none 0 0]) (bytes := 32) M46 29 Try.underlying43 ?_ (fun _ _ _ M_ _ _ => ((M_.drop 1).drop 0)) fun A42 c43 w44 M45 => ?_
    · have hz := hfw.2 _ (at_mem Fn.z (k := k12) (by omega)); have hvz := hq2.1; rw [List.length_take] at hvz; simp only [List.length_append, List.length_nil, List.length_cons]; omega
    refine ty_take 18 30 (.pointer (some ⟨b7, 0, none⟩)) (pok_cont pok_body) ?_ ((M45.drop 1).drop 0) (fun _ _ _ => by kernel_rfl)
    refine ty_all (rs := [19]) (te_one ?_)
    refine te_st M45 3 #[.slice A42 (vs13 ++ [(((p.getD k12 Fn.z).args, A34, ([] ++ (p.getD k12 Fn.z).code).length, c35) : Raw)]).length c43] (fun _ _ h_ _ => absurd (by decide) h_) fun w47 M48 => ?_
    refine ty_endL ?_
    refine tn_blk (tn_code (tc_region ?_))
    refine sg 3 [1, 2, 3, 4] [(1, .pointer (some ⟨b1, 0, none⟩)), (2, .pointer (some ⟨b4, 0, none⟩)), (3, .pointer (some ⟨b7, 0, none⟩)), (4, .int .i64 (IntKind.wrap .i64 ((k12 : Int) + 1)))] ?_
    rw [show IntKind.wrap .i64 ((k12 : Int) + 1) = (((k12 + 1) : Nat) : Int) from wr_nat k12 1 (by omega)]
    refine to_end rfl ?_
    have M49 := M48.front 1 rfl
    have M50 := M49.front 2 rfl
    have M51 := codes_more (v := (((p.getD k12 Fn.z).args, A34, ([] ++ (p.getD k12 Fn.z).code).length, c35) : Raw)) (f := (p.getD k12 Fn.z)) (by rw [hq2.1]) M50
    rw [← take_step Fn.z p (by omega)] at M51
    have M52 := M51.front 4 rfl
    have M53 := M52.front 4 rfl
    have M54 := M53.front 4 rfl
    have M55 := M54.front 3 rfl
    have M56 := M55.front 4 rfl
    exact tn_back (s := (k12, vs13, A14, c15)) (k12 + 1, (vs13 ++ [(((p.getD k12 Fn.z).args, A34, ([] ++ (p.getD k12 Fn.z).code).length, c35) : Raw)]), A42, c43) (Sub.cons rfl (Sub.cons rfl (Sub.cons rfl (Sub.cons rfl (Sub.nil _))))) ⟨⟨by omega, by rw [take_step Fn.z p (by omega)]; exact rawOk_snoc hq2 rfl rfl⟩, M56⟩ (by simp only; omega)
  · have h23p := of_decide_eq_false h23
    refine tc_exitK (k' := _) rfl (tn_code (tc_seq (tc_region ?_)))
    refine la M21 2 31 #[.slice A14 vs13.length c15] (hu := Try.underlying45) ?_
    refine sa M21 3 #[.slice A14 vs13.length c15] fun w57 M58 => ?_
    refine to_end rfl (tn_code (tc_ret ?_))
    refine tr_cell M58 3 rfl rfl rfl Try.underlying45 rfl (by kernel_rfl) ?_
    have M60 := M58.drop 4
    have M61 := M60.drop 3
    have M62 := M61.drop 2
    have hl : List.take k12 p = p := List.take_of_length_le (by omega)
    rw [hl] at hq2
    have M59 := M62
    rw [hl] at M59
    exact ⟨_, _, vs13, by rw [← hq2.1], M59, hq2⟩
end Go.Proofs.Ytfknhbgghpbkpaa
