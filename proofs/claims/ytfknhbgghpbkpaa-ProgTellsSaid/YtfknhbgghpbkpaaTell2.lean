/- The document's answers of layer 3: their walks. -/
import Derived.Test.YtfknhbgghpbkpaaTellA
namespace Go.Proofs.Ytfknhbgghpbkpaa
open Go.RowKit Cal Go.Proofs.YtfknhbgghpbkpaaW.PrintWords
theorem rput_prog (p : List Fn) (A : Option Addr) (c : Nat) (w : World) (hC : kFn.C w A p.length p) (hm : progMay p = true) (hop : ∀ f ∈ p, f.ok) : Calls Try.prog 53 #[.agg #[.slice A p.length c]] w fun e w' => ∃ A' c', e = .returned (.tuple #[.slice A' (progBytes p).length c', .int .i64 0]) ∧ Mem w w' [row kB 5 (.slice A' (progBytes p).length c') (progBytes p)] := by
  have M := Mem.refl w
  have hb := progMay_bd hm
  refine calls_tc (N := 72) (args := [.agg #[.slice A p.length c]]) Try.func53 rfl rfl rfl ?_
  refine tc_seq (tc_region ?_)
  refine nw M 1 #[.slice A p.length c] 45 fun b1 w2 M3 => ?_
  refine sg 2 [1] [(1, .pointer (some ⟨b1, 0, none⟩))] ?_
  refine to_end rfl (tn_code (tc_seq (tc_region ?_)))
  refine la M3 0 10 #[.slice A p.length c] (hu := Try.underlying45) ?_
  refine cb M3 11 (rmay_any p A c w2 (C_up M3 hC)) fun w4 hb6 M5 => ?_
  refine sg 1 [1, 4] [(1, .pointer (some ⟨b1, 0, none⟩)), (4, .bool (progMay p))] ?_
  refine to_end rfl (tn_code (tc_seq (tc_seq (tc_region ?_))))
  refine sg 2 [1, 13] [(1, .pointer (some ⟨b1, 0, none⟩)), (13, .bool (!(progMay p)))] ?_
  refine to_end rfl (tn_code ?_)
  rw [hm]
  refine tc_cond_f (fun _ => rfl) (tc_skip (tn_code (tc_seq (tc_region ?_))))
  refine sg 1 [1, 14] [(1, .pointer (some ⟨b1, 0, none⟩)), (14, .pointer (some ⟨b1, 0, none⟩))] ?_
  refine ld M5 0 15 (.slice A p.length c) ?_
  refine sg 2 [1, 17] [(1, .pointer (some ⟨b1, 0, none⟩)), (17, .int .u8 (IntKind.wrap .u8 (p.length : Int)))] ?_
  rw [wr8 (p.length : Int)]
  refine bsF M5 18 kB 5 ([88, 86, ((p.length : Int) % 256)] : List Int) #[.int .u8 88, .int .u8 86, .int .u8 ((p.length : Int) % 256)] (repB [88, 86, ((p.length : Int) % 256)]) (Nat.le_of_ble_eq_true rfl) fun b7 w8 M9 => ?_
  refine sg 1 [1, 5] [(1, .pointer (some ⟨b1, 0, none⟩)), (5, .slice (some ⟨b7, 0, none⟩) 3 3)] ?_
  refine to_end rfl (tn_code (tc_seq (tc_seq (tc_region ?_))))
  refine sg 1 [1, 5, 6] [(1, .pointer (some ⟨b1, 0, none⟩)), (5, .slice (some ⟨b7, 0, none⟩) 3 3), (6, .int .i64 0)] ?_
  refine to_end rfl (tn_code (tc_block ?_))
  have h12 : [88, 86, ((p.length : Int) % 256)] = ([88, 86, ((p.length : Int) % 256)] ++ (List.take 0 p).flatMap fnBytes) := by simp
  refine tc_loop (σ := Nat × Option Addr × Nat) (fun s_ => match s_ with | (k13, A14, c15) => [(1, .pointer (some ⟨b1, 0, none⟩)), (5, .slice A14 ([88, 86, ((p.length : Int) % 256)] ++ (List.take k13 p).flatMap fnBytes).length c15), (6, .int .i64 (k13 : Int))]) (fun s_ w' => match s_ with | (k13, A14, c15) => k13 ≤ p.length ∧ True ∧ Mem w w' ([row kB 5 (.slice A14 ([88, 86, ((p.length : Int) % 256)] ++ (List.take k13 p).flatMap fnBytes).length c15) ([88, 86, ((p.length : Int) % 256)] ++ (List.take k13 p).flatMap fnBytes), blk b1 #[.slice A p.length c] 45])) (fun s_ => p.length - s_.1) (0, (some ⟨b7, 0, none⟩), 3) (Sub.cons rfl (Sub.cons (by rw [← h12]; rfl) (Sub.cons rfl (Sub.nil _)))) ⟨Nat.zero_le _, trivial, (by rw [← h12]; exact M9)⟩ ?_
  rintro ⟨k13, A14, c15⟩ w18 ⟨hk16, hi17, M19⟩
  refine tc_seq (tc_seq (tc_region ?_))
  refine sg 2 [1, 5, 6, 19, 20] [(1, .pointer (some ⟨b1, 0, none⟩)), (5, .slice A14 ([88, 86, ((p.length : Int) % 256)] ++ (List.take k13 p).flatMap fnBytes).length c15), (6, .int .i64 (k13 : Int)), (19, .int .i64 (k13 : Int)), (20, .pointer (some ⟨b1, 0, none⟩))] ?_
  refine ld M19 1 21 (.slice A p.length c) ?_
  refine sg 2 [1, 5, 6, 23] [(1, .pointer (some ⟨b1, 0, none⟩)), (5, .slice A14 ([88, 86, ((p.length : Int) % 256)] ++ (List.take k13 p).flatMap fnBytes).length c15), (6, .int .i64 (k13 : Int)), (23, .bool (decide ((k13 : Int) < (p.length : Int))))] ?_
  refine to_end rfl (tn_code ?_)
  refine tc_cond (b := decide ((k13 : Int) < (p.length : Int))) (fun _ => rfl) (fun h20 => ?_) (fun h20 => ?_)
  · have h20p := of_decide_eq_true h20
    refine tc_skip (tn_code (tc_seq (tc_block (tc_seq ?_))))
    refine tc_drawL (fun w' => Mem w w' ([blk b1 #[.slice A p.length c] 45])) [] (by kernel_rfl) ?_
    have M21 := M19.draw
    refine ty_take 0 26 (.slice A14 ([88, 86, ((p.length : Int) % 256)] ++ (List.take k13 p).flatMap fnBytes).length c15) (pok_cont pok_body) ?_ (M21.drop 0) (fun _ _ _ => by kernel_rfl)
    refine ty_take 1 27 (.pointer (some ⟨b1, 0, none⟩)) (pok_cont pok_body) ?_ (M21.drop 0) (fun _ _ _ => by kernel_rfl)
    refine ty_take 2 28 (.slice A p.length c) (pok_cont pok_body) ?_ (M21.drop 0) (fun _ M' _ => rl M' 0)
    refine ty_take 3 29 (.int .i64 (k13 : Int)) (pok_cont pok_body) ?_ (M21.drop 0) (fun _ _ _ => by kernel_rfl)
    obtain ⟨ad22, rfl⟩ := C_some hC (k := k13) (by omega)
    refine ty_take 4 30 (.pointer (some (ad22.add (k13 * 2)))) (pok_cont pok_body) ?_ (M21.drop 0) (fun _ _ _ => ri (ad := ad22) (n := p.length) (c := c) k13 2 (by omega) Try.underlying43)
    refine ty_take 5 31 (.pointer (some (ad22.add (k13 * 2)))) (pok_cont pok_body) ?_ (M21.drop 0) (fun _ _ _ => by kernel_rfl)
    obtain ⟨cs25, hk23, hc24⟩ := C_cell hC Fn.z k13 (by omega)
    obtain ⟨A26, c27, rfl, hl28, hC29⟩ := kFn_open hk23
    refine ty_take 6 32 (.int .i64 (p.getD k13 Fn.z).args) (pok_cont pok_body) ?_ (M21.drop 0) (fun _ M' _ => re (cell_up M' (hc24 0 _ rfl)))
    refine ty_take 7 33 (.int .u8 (IntKind.wrap .u8 (p.getD k13 Fn.z).args)) (pok_cont pok_body) ?_ (M21.drop 0) (fun _ _ _ => by kernel_rfl)
    rw [wr8 (p.getD k13 Fn.z).args]
    refine ty_take 8 34 (.pointer (some ⟨b1, 0, none⟩)) (pok_cont pok_body) ?_ (M21.drop 0) (fun _ _ _ => by kernel_rfl)
    refine ty_take 9 35 (.slice (some ad22) p.length c) (pok_cont pok_body) ?_ (M21.drop 0) (fun _ M' _ => rl M' 0)
    refine ty_take 10 36 (.int .i64 (k13 : Int)) (pok_cont pok_body) ?_ (M21.drop 0) (fun _ _ _ => by kernel_rfl)
    refine ty_take 11 37 (.pointer (some (ad22.add (k13 * 2)))) (pok_cont pok_body) ?_ (M21.drop 0) (fun _ _ _ => ri (ad := ad22) (n := p.length) (c := c) k13 2 (by omega) Try.underlying43)
    refine ty_take 12 38 (.pointer (some ((ad22.add (k13 * 2)).add 1))) (pok_cont pok_body) ?_ (M21.drop 0) (fun _ _ _ => by kernel_rfl)
    refine ty_take 13 39 (.slice A26 (p.getD k13 Fn.z).code.length c27) (pok_cont pok_body) ?_ (M21.drop 0) (fun _ M' _ => re (cell_up M' (hc24 1 _ rfl)))
    refine ty_take 14 40 (.int .i64 ((p.getD k13 Fn.z).code.length : Int)) (pok_cont pok_body) ?_ (M21.drop 0) (fun _ _ _ => by kernel_rfl)
    refine ty_take 15 41 (.int .u8 (IntKind.wrap .u8 ((p.getD k13 Fn.z).code.length : Int))) (pok_cont pok_body) ?_ (M21.drop 0) (fun _ _ _ => by kernel_rfl)
    rw [wr8 ((p.getD k13 Fn.z).code.length : Int)]
    refine ty_all (rs := [16]) (te_one ?_)
    refine te_bsF M21 42 kB 5 ([((p.getD k13 Fn.z).args % 256), (((p.getD k13 Fn.z).code.length : Int) % 256)] : List Int) #[.int .u8 ((p.getD k13 Fn.z).args % 256), .int .u8 (((p.getD k13 Fn.z).code.length : Int) % 256)] (repB [((p.getD k13 Fn.z).args % 256), (((p.getD k13 Fn.z).code.length : Int) % 256)]) (Nat.le_of_ble_eq_true rfl) (fun _ _ M_ _ _ => ((M_.drop 1).drop 0)) fun b30 w31 M32 => ?_
    refine ty_all (rs := [17]) (te_one ?_)
    have M37 := M32.front 1 rfl
    refine te_ap (z := .int .u8 0) (bytes := 1) M37 43 Try.underlying71 ?_ (fun _ _ _ M_ _ _ => (M_.drop 0)) fun A33 c34 w35 M36 => ?_
    · have hz := take_len (f := fnBytes) (l := p) (B := 514) k13 (fun f hf => fnBytes_len (hb.2.2.2 f hf)); simp only [List.length_append, List.length_cons, List.length_nil, instBytes_len]; omega
    refine ty_take 18 5 (.slice A33 (([88, 86, ((p.length : Int) % 256)] ++ (List.take k13 p).flatMap fnBytes) ++ [((p.getD k13 Fn.z).args % 256), (((p.getD k13 Fn.z).code.length : Int) % 256)]).length c34) (pok_cont pok_body) ?_ (M36.drop 0) (fun _ _ _ => by kernel_rfl)
    refine ty_endL ?_
    refine tn_code (tc_seq (tc_region ?_))
    refine sg 1 [1, 5, 6, 7] [(1, .pointer (some ⟨b1, 0, none⟩)), (5, .slice A33 (([88, 86, ((p.length : Int) % 256)] ++ (List.take k13 p).flatMap fnBytes) ++ [((p.getD k13 Fn.z).args % 256), (((p.getD k13 Fn.z).code.length : Int) % 256)]).length c34), (6, .int .i64 (k13 : Int)), (7, .int .i64 0)] ?_
    refine to_end rfl (tn_code (tc_block ?_))
    have hcl := fnMay_bd (hb.2.2.2 _ (at_mem Fn.z (k := k13) (by omega)))
    have h39 : (([88, 86, ((p.length : Int) % 256)] ++ (List.take k13 p).flatMap fnBytes) ++ [((p.getD k13 Fn.z).args % 256), (((p.getD k13 Fn.z).code.length : Int) % 256)]) = ((([88, 86, ((p.length : Int) % 256)] ++ (List.take k13 p).flatMap fnBytes) ++ [((p.getD k13 Fn.z).args % 256), (((p.getD k13 Fn.z).code.length : Int) % 256)]) ++ (List.take 0 (p.getD k13 Fn.z).code).flatMap instBytes) := by simp
    refine tc_loop (σ := Nat × Option Addr × Nat) (fun s_ => match s_ with | (k40, A41, c42) => [(1, .pointer (some ⟨b1, 0, none⟩)), (6, .int .i64 (k13 : Int)), (5, .slice A41 ((([88, 86, ((p.length : Int) % 256)] ++ (List.take k13 p).flatMap fnBytes) ++ [((p.getD k13 Fn.z).args % 256), (((p.getD k13 Fn.z).code.length : Int) % 256)]) ++ (List.take k40 (p.getD k13 Fn.z).code).flatMap instBytes).length c42), (7, .int .i64 (k40 : Int))]) (fun s_ w' => match s_ with | (k40, A41, c42) => k40 ≤ (p.getD k13 Fn.z).code.length ∧ True ∧ Mem w w' ([row kB 5 (.slice A41 ((([88, 86, ((p.length : Int) % 256)] ++ (List.take k13 p).flatMap fnBytes) ++ [((p.getD k13 Fn.z).args % 256), (((p.getD k13 Fn.z).code.length : Int) % 256)]) ++ (List.take k40 (p.getD k13 Fn.z).code).flatMap instBytes).length c42) ((([88, 86, ((p.length : Int) % 256)] ++ (List.take k13 p).flatMap fnBytes) ++ [((p.getD k13 Fn.z).args % 256), (((p.getD k13 Fn.z).code.length : Int) % 256)]) ++ (List.take k40 (p.getD k13 Fn.z).code).flatMap instBytes), blk b1 #[.slice (some ad22) p.length c] 45])) (fun s_ => (p.getD k13 Fn.z).code.length - s_.1) (0, A33, c34) (Sub.cons rfl (Sub.cons rfl (Sub.cons (by rw [← h39]; rfl) (Sub.cons rfl (Sub.nil _))))) ⟨Nat.zero_le _, trivial, (by rw [← h39]; exact M36)⟩ ?_
    rintro ⟨k40, A41, c42⟩ w45 ⟨hk43, hi44, M46⟩
    refine tc_seq (tc_seq (tc_region ?_))
    refine sg 2 [1, 6, 5, 7, 44, 45] [(1, .pointer (some ⟨b1, 0, none⟩)), (6, .int .i64 (k13 : Int)), (5, .slice A41 ((([88, 86, ((p.length : Int) % 256)] ++ (List.take k13 p).flatMap fnBytes) ++ [((p.getD k13 Fn.z).args % 256), (((p.getD k13 Fn.z).code.length : Int) % 256)]) ++ (List.take k40 (p.getD k13 Fn.z).code).flatMap instBytes).length c42), (7, .int .i64 (k40 : Int)), (44, .int .i64 (k40 : Int)), (45, .pointer (some ⟨b1, 0, none⟩))] ?_
    refine ld M46 1 46 (.slice (some ad22) p.length c) ?_
    refine sg 1 [1, 6, 5, 7, 44, 46, 47] [(1, .pointer (some ⟨b1, 0, none⟩)), (6, .int .i64 (k13 : Int)), (5, .slice A41 ((([88, 86, ((p.length : Int) % 256)] ++ (List.take k13 p).flatMap fnBytes) ++ [((p.getD k13 Fn.z).args % 256), (((p.getD k13 Fn.z).code.length : Int) % 256)]) ++ (List.take k40 (p.getD k13 Fn.z).code).flatMap instBytes).length c42), (7, .int .i64 (k40 : Int)), (44, .int .i64 (k40 : Int)), (46, .slice (some ad22) p.length c), (47, .int .i64 (k13 : Int))] ?_
    refine ix (ad := ad22) (n := p.length) (c := c) 48 k13 2 (by omega) Try.underlying43 ?_
    refine sg 1 [1, 6, 5, 7, 44, 49] [(1, .pointer (some ⟨b1, 0, none⟩)), (6, .int .i64 (k13 : Int)), (5, .slice A41 ((([88, 86, ((p.length : Int) % 256)] ++ (List.take k13 p).flatMap fnBytes) ++ [((p.getD k13 Fn.z).args % 256), (((p.getD k13 Fn.z).code.length : Int) % 256)]) ++ (List.take k40 (p.getD k13 Fn.z).code).flatMap instBytes).length c42), (7, .int .i64 (k40 : Int)), (44, .int .i64 (k40 : Int)), (49, .pointer (some ((ad22.add (k13 * 2)).add 1)))] ?_
    refine le 50 (.slice A26 (p.getD k13 Fn.z).code.length c27) (cell_up M46 (hc24 1 _ rfl)) ?_
    refine sg 2 [1, 6, 5, 7, 52] [(1, .pointer (some ⟨b1, 0, none⟩)), (6, .int .i64 (k13 : Int)), (5, .slice A41 ((([88, 86, ((p.length : Int) % 256)] ++ (List.take k13 p).flatMap fnBytes) ++ [((p.getD k13 Fn.z).args % 256), (((p.getD k13 Fn.z).code.length : Int) % 256)]) ++ (List.take k40 (p.getD k13 Fn.z).code).flatMap instBytes).length c42), (7, .int .i64 (k40 : Int)), (52, .bool (decide ((k40 : Int) < ((p.getD k13 Fn.z).code.length : Int))))] ?_
    refine to_end rfl (tn_code ?_)
    refine tc_cond (b := decide ((k40 : Int) < ((p.getD k13 Fn.z).code.length : Int))) (fun _ => rfl) (fun h47 => ?_) (fun h47 => ?_)
    · have h47p := of_decide_eq_true h47
      refine tc_skip (tn_code (tc_seq (tc_block (tc_seq (tc_region ?_)))))
      refine sg 1 [1, 6, 5, 7, 56] [(1, .pointer (some ⟨b1, 0, none⟩)), (6, .int .i64 (k13 : Int)), (5, .slice A41 ((([88, 86, ((p.length : Int) % 256)] ++ (List.take k13 p).flatMap fnBytes) ++ [((p.getD k13 Fn.z).args % 256), (((p.getD k13 Fn.z).code.length : Int) % 256)]) ++ (List.take k40 (p.getD k13 Fn.z).code).flatMap instBytes).length c42), (7, .int .i64 (k40 : Int)), (56, .pointer (some ⟨b1, 0, none⟩))] ?_
      refine ld M46 1 57 (.slice (some ad22) p.length c) ?_
      refine sg 1 [1, 6, 5, 7, 57, 58] [(1, .pointer (some ⟨b1, 0, none⟩)), (6, .int .i64 (k13 : Int)), (5, .slice A41 ((([88, 86, ((p.length : Int) % 256)] ++ (List.take k13 p).flatMap fnBytes) ++ [((p.getD k13 Fn.z).args % 256), (((p.getD k13 Fn.z).code.length : Int) % 256)]) ++ (List.take k40 (p.getD k13 Fn.z).code).flatMap instBytes).length c42), (7, .int .i64 (k40 : Int)), (57, .slice (some ad22) p.length c), (58, .int .i64 (k13 : Int))] ?_
      refine ix (ad := ad22) (n := p.length) (c := c) 59 k13 2 (by omega) Try.underlying43 ?_
      refine sg 1 [1, 6, 5, 7, 60] [(1, .pointer (some ⟨b1, 0, none⟩)), (6, .int .i64 (k13 : Int)), (5, .slice A41 ((([88, 86, ((p.length : Int) % 256)] ++ (List.take k13 p).flatMap fnBytes) ++ [((p.getD k13 Fn.z).args % 256), (((p.getD k13 Fn.z).code.length : Int) % 256)]) ++ (List.take k40 (p.getD k13 Fn.z).code).flatMap instBytes).length c42), (7, .int .i64 (k40 : Int)), (60, .pointer (some ((ad22.add (k13 * 2)).add 1)))] ?_
      refine le 61 (.slice A26 (p.getD k13 Fn.z).code.length c27) (cell_up M46 (hc24 1 _ rfl)) ?_
      refine sg 1 [1, 6, 5, 7, 61, 62] [(1, .pointer (some ⟨b1, 0, none⟩)), (6, .int .i64 (k13 : Int)), (5, .slice A41 ((([88, 86, ((p.length : Int) % 256)] ++ (List.take k13 p).flatMap fnBytes) ++ [((p.getD k13 Fn.z).args % 256), (((p.getD k13 Fn.z).code.length : Int) % 256)]) ++ (List.take k40 (p.getD k13 Fn.z).code).flatMap instBytes).length c42), (7, .int .i64 (k40 : Int)), (61, .slice A26 (p.getD k13 Fn.z).code.length c27), (62, .int .i64 (k40 : Int))] ?_
      obtain ⟨ad48, rfl⟩ := C_some hC29 (k := k40) (by omega)
      refine ix (ad := ad48) (n := (p.getD k13 Fn.z).code.length) (c := c27) 63 k40 7 (by omega) Try.underlying55 ?_
      obtain ⟨cs51, hk49, hc50⟩ := C_cell hC29 Inst.z k40 (by omega)
      obtain rfl := kInst_open hk49
      refine lea 64 ((p.getD k13 Fn.z).code.getD k40 Inst.z).cs (fun j u hj => cell_up M46 (hc50 j u hj)) (hu := Try.underlying65) ?_
      refine ce 65 (put2_any ((p.getD k13 Fn.z).code.getD k40 Inst.z) _ (hcl.2.2.2.2 _ (at_mem Inst.z (by omega))) (imm_ok hop (by omega) (by omega))) fun e52 w53 h54 => ?_
      obtain ⟨A55, c56, rfl, hM57⟩ := h54
      have M58 := M46.join hM57
      refine ⟨_, rfl, ?_⟩
      refine sg 5 [1, 6, 5, 7, 8] [(1, .pointer (some ⟨b1, 0, none⟩)), (6, .int .i64 (k13 : Int)), (5, .slice A41 ((([88, 86, ((p.length : Int) % 256)] ++ (List.take k13 p).flatMap fnBytes) ++ [((p.getD k13 Fn.z).args % 256), (((p.getD k13 Fn.z).code.length : Int) % 256)]) ++ (List.take k40 (p.getD k13 Fn.z).code).flatMap instBytes).length c42), (7, .int .i64 (k40 : Int)), (8, .slice A55 (instBytes ((p.getD k13 Fn.z).code.getD k40 Inst.z)).length c56)] ?_
      refine to_end rfl (tn_code (tc_region ?_))
      refine sg 2 [1, 6, 7, 68, 69] [(1, .pointer (some ⟨b1, 0, none⟩)), (6, .int .i64 (k13 : Int)), (7, .int .i64 (k40 : Int)), (68, .slice A41 ((([88, 86, ((p.length : Int) % 256)] ++ (List.take k13 p).flatMap fnBytes) ++ [((p.getD k13 Fn.z).args % 256), (((p.getD k13 Fn.z).code.length : Int) % 256)]) ++ (List.take k40 (p.getD k13 Fn.z).code).flatMap instBytes).length c42), (69, .slice A55 (instBytes ((p.getD k13 Fn.z).code.getD k40 Inst.z)).length c56)] ?_
      have M63 := M58.front 1 rfl
      refine ap (z := .int .u8 0) (bytes := 1) M63 70 Try.underlying71 ?_ fun A59 c60 w61 M62 => ?_
      · have hz := take_len (f := fnBytes) (l := p) (B := 514) k13 (fun f hf => fnBytes_len (hb.2.2.2 f hf)); have hz2 := take_len (f := instBytes) (l := (p.getD k13 Fn.z).code) (B := 8) k40 (fun x _ => by simp [instBytes]); simp only [List.length_append, List.length_cons, List.length_nil, instBytes_len]; omega
      refine sg 1 [1, 6, 7, 5] [(1, .pointer (some ⟨b1, 0, none⟩)), (6, .int .i64 (k13 : Int)), (7, .int .i64 (k40 : Int)), (5, .slice A59 (((([88, 86, ((p.length : Int) % 256)] ++ (List.take k13 p).flatMap fnBytes) ++ [((p.getD k13 Fn.z).args % 256), (((p.getD k13 Fn.z).code.length : Int) % 256)]) ++ (List.take k40 (p.getD k13 Fn.z).code).flatMap instBytes) ++ (instBytes ((p.getD k13 Fn.z).code.getD k40 Inst.z))).length c60)] ?_
      refine to_end rfl (tn_blk (tn_code (tc_region ?_)))
      refine sg 3 [1, 6, 7, 5] [(1, .pointer (some ⟨b1, 0, none⟩)), (6, .int .i64 (k13 : Int)), (7, .int .i64 (IntKind.wrap .i64 ((k40 : Int) + 1))), (5, .slice A59 (((([88, 86, ((p.length : Int) % 256)] ++ (List.take k13 p).flatMap fnBytes) ++ [((p.getD k13 Fn.z).args % 256), (((p.getD k13 Fn.z).code.length : Int) % 256)]) ++ (List.take k40 (p.getD k13 Fn.z).code).flatMap instBytes) ++ (instBytes ((p.getD k13 Fn.z).code.getD k40 Inst.z))).length c60)] ?_
      rw [show IntKind.wrap .i64 ((k40 : Int) + 1) = (((k40 + 1) : Nat) : Int) from wr_nat k40 1 (by omega)]
      refine to_end rfl ?_
      have hs64 : (((([88, 86, ((p.length : Int) % 256)] ++ (List.take k13 p).flatMap fnBytes) ++ [((p.getD k13 Fn.z).args % 256), (((p.getD k13 Fn.z).code.length : Int) % 256)]) ++ (List.take k40 (p.getD k13 Fn.z).code).flatMap instBytes) ++ (instBytes ((p.getD k13 Fn.z).code.getD k40 Inst.z))) = ((([88, 86, ((p.length : Int) % 256)] ++ (List.take k13 p).flatMap fnBytes) ++ [((p.getD k13 Fn.z).args % 256), (((p.getD k13 Fn.z).code.length : Int) % 256)]) ++ (List.take (k40 + 1) (p.getD k13 Fn.z).code).flatMap instBytes) := by rw [fm_step _ _ Inst.z _ (by omega), ← List.append_assoc]
      exact tn_back ((k40 + 1), A59, c60) (Sub.cons rfl (Sub.cons rfl (Sub.cons (by rw [← hs64]; rfl) (Sub.cons rfl (Sub.nil _))))) ⟨by omega, trivial, (by rw [← hs64]; exact M62)⟩ (by omega)
    · have h47p := of_decide_eq_false h47
      refine tc_exitK (k' := _) rfl (tn_blk (tn_code (tc_region ?_)))
      refine sg 3 [1, 6, 5] [(1, .pointer (some ⟨b1, 0, none⟩)), (6, .int .i64 (IntKind.wrap .i64 ((k13 : Int) + 1))), (5, .slice A41 ((([88, 86, ((p.length : Int) % 256)] ++ (List.take k13 p).flatMap fnBytes) ++ [((p.getD k13 Fn.z).args % 256), (((p.getD k13 Fn.z).code.length : Int) % 256)]) ++ (List.take k40 (p.getD k13 Fn.z).code).flatMap instBytes).length c42)] ?_
      rw [show IntKind.wrap .i64 ((k13 : Int) + 1) = (((k13 + 1) : Nat) : Int) from wr_nat k13 1 (by omega)]
      refine to_end rfl ?_
      have hs65 : ((([88, 86, ((p.length : Int) % 256)] ++ (List.take k13 p).flatMap fnBytes) ++ [((p.getD k13 Fn.z).args % 256), (((p.getD k13 Fn.z).code.length : Int) % 256)]) ++ (List.take k40 (p.getD k13 Fn.z).code).flatMap instBytes) = ([88, 86, ((p.length : Int) % 256)] ++ (List.take (k13 + 1) p).flatMap fnBytes) := by rw [List.take_of_length_le (by omega : (p.getD k13 Fn.z).code.length ≤ k40), fm_step _ _ Fn.z _ (by omega)]; simp [fnBytes]
      exact tn_back ((k13 + 1), A41, c42) (Sub.cons rfl (Sub.cons (by rw [← hs65]; rfl) (Sub.cons rfl (Sub.nil _)))) ⟨by omega, trivial, (by rw [← hs65]; exact M46)⟩ (by omega)
  · have h20p := of_decide_eq_false h20
    refine tc_exitK (k' := _) rfl (tn_code (tc_seq (tc_region ?_)))
    refine sg 3 [2, 3] [(2, .slice A14 ([88, 86, ((p.length : Int) % 256)] ++ (List.take k13 p).flatMap fnBytes).length c15), (3, .int .i64 0)] ?_
    refine to_end rfl (tn_code (tc_ret ?_))
    refine tr_tmp2 rfl rfl rfl ?_
    have M66 := M19.drop 1
    have hl67 : ([88, 86, ((p.length : Int) % 256)] ++ (List.take k13 p).flatMap fnBytes) = progBytes p := by rw [List.take_of_length_le (by omega)]; rfl
    rw [← hl67]
    exact ⟨_, _, rfl, M66⟩

theorem rput_prog_not (p : List Fn) (A : Option Addr) (c : Nat) (w : World) (hC : kFn.C w A p.length p) (hm : progMay p = false) : Calls Try.prog 53 #[.agg #[.slice A p.length c]] w fun e w' => e = .returned (.tuple #[.slice none 0 0, .int .i64 1]) ∧ Below w.heap.size w w' := by
  have M := Mem.refl w
  refine calls_tc (N := 72) (args := [.agg #[.slice A p.length c]]) Try.func53 rfl rfl rfl ?_
  refine tc_seq (tc_region ?_)
  refine nw M 1 #[.slice A p.length c] 45 fun b1 w2 M3 => ?_
  refine sg 2 [1] [(1, .pointer (some ⟨b1, 0, none⟩))] ?_
  refine to_end rfl (tn_code (tc_seq (tc_region ?_)))
  refine la M3 0 10 #[.slice A p.length c] (hu := Try.underlying45) ?_
  refine cb M3 11 (rmay_any p A c w2 (C_up M3 hC)) fun w4 hb6 M5 => ?_
  refine sg 1 [1, 4] [(1, .pointer (some ⟨b1, 0, none⟩)), (4, .bool (progMay p))] ?_
  refine to_end rfl (tn_code (tc_seq (tc_seq (tc_region ?_))))
  refine sg 2 [1, 13] [(1, .pointer (some ⟨b1, 0, none⟩)), (13, .bool (!(progMay p)))] ?_
  refine to_end rfl (tn_code ?_)
  rw [hm]
  refine tc_cond_t (fun _ => rfl) (tc_seq (tc_region ?_))
  refine sg 2 [2, 3] [(2, .slice none 0 0), (3, .int .i64 1)] ?_
  refine to_end rfl (tn_code (tc_ret ?_))
  refine tr_tmp2 rfl rfl rfl ?_
  exact ⟨congrArg Ending.returned (rfl), M5.below⟩

set_option linter.unusedSimpArgs false in
theorem rget_prog (A : Option Addr) (c : Nat) (bs : List Int) (w : World) (hC : kB.C w A bs.length bs) (hc : bs.length ≤ c) (hb : ∀ x ∈ bs, isB x) (hbl : bs.length ≤ 1000000) : Calls Try.prog 55 #[.slice A bs.length c] w fun e w' => ∃ A' c', e = .returned (.tuple #[.agg #[.slice A' (progGet bs).1.length c'], .int .i64 (progGet bs).2]) ∧ Mem w w' [row kFn 57 (.slice A' (progGet bs).1.length c') (progGet bs).1] := by
  have M := Mem.refl w
  obtain ⟨b0l, b0h⟩ := isB_getD hb 0
  obtain ⟨b1l, b1h⟩ := isB_getD hb 1
  refine calls_tc (N := 106) (args := [.slice A bs.length c]) Try.func55 rfl rfl rfl ?_
  refine tc_seq (tc_region ?_)
  refine nw M 2 #[.slice none 0 0] 45 fun b1 w2 M3 => ?_
  refine sg 1 [0, 2] [(0, .slice A bs.length c), (2, .pointer (some ⟨b1, 0, none⟩))] ?_
  refine to_end rfl (tn_code (tc_seq (tc_seq (tc_region ?_))))
  refine join (fr' := [(0, .slice A bs.length c), (2, .pointer (some ⟨b1, 0, none⟩)), (27, .bool (((decide ((bs.length : Int) < 3)) || ((bs.getD 0 (0 : Int)) != 88)) || ((bs.getD 1 (0 : Int)) != 86)))]) (fun hj_ => ?_) ?_
  · refine sg 4 [0, 2, 16] [(0, .slice A bs.length c), (2, .pointer (some ⟨b1, 0, none⟩)), (16, .bool (decide ((bs.length : Int) < 3)))] ?_
    rcases bdi (decide ((bs.length : Int) < 3) : Bool) with h4 | h4
    · have h4p := of_decide_eq_false h4
      rw [h4]
      refine sg 1 [0, 2, 16, 17] [(0, .slice A bs.length c), (2, .pointer (some ⟨b1, 0, none⟩)), (16, .bool false), (17, .slice A bs.length c)] ?_
      obtain ⟨ad5, rfl⟩ := C_some hC (k := 0) (by omega)
      refine ix (ad := ad5) (n := bs.length) (c := c) 18 0 1 (by omega) Try.underlying71 ?_
      obtain ⟨cs8, hk6, hc7⟩ := C_cell hC (0 : Int) 0 (by omega)
      obtain rfl := kB_open hk6
      refine le 19 (.int .u8 (bs.getD 0 (0 : Int))) (cell_up M3 (hc7 0 _ rfl)) ?_
      refine sg 3 [0, 2, 22] [(0, .slice (some ad5) bs.length c), (2, .pointer (some ⟨b1, 0, none⟩)), (22, .bool ((bs.getD 0 (0 : Int)) != 88))] ?_
      rcases bdi ((bs.getD 0 (0 : Int)) != 88 : Bool) with h9 | h9
      · have h9p := bne_eq_false_iff_eq.1 h9
        rw [h9]
        refine sg 1 [0, 2, 22, 23] [(0, .slice (some ad5) bs.length c), (2, .pointer (some ⟨b1, 0, none⟩)), (22, .bool false), (23, .slice (some ad5) bs.length c)] ?_
        refine ix (ad := ad5) (n := bs.length) (c := c) 24 1 1 (by omega) Try.underlying71 ?_
        obtain ⟨cs12, hk10, hc11⟩ := C_cell hC (0 : Int) 1 (by omega)
        obtain rfl := kB_open hk10
        refine le 25 (.int .u8 (bs.getD 1 (0 : Int))) (cell_up M3 (hc11 0 _ rfl)) ?_
        refine sg 2 [0, 2, 27] [(0, .slice (some ad5) bs.length c), (2, .pointer (some ⟨b1, 0, none⟩)), (27, .bool ((bs.getD 1 (0 : Int)) != 86))] ?_
        refine to_end rfl ?_
        rw [show (((decide ((bs.length : Int) < 3)) || ((bs.getD 0 (0 : Int)) != 88)) || ((bs.getD 1 (0 : Int)) != 86) : Bool) = ((bs.getD 1 (0 : Int)) != 86) from by (simp only [h4, h9, Bool.true_or, Bool.false_or, Bool.or_true, Bool.or_false, Bool.true_and, Bool.false_and, Bool.and_true, Bool.and_false, Bool.not_true, Bool.not_false, cond_true, cond_false, if_true, reduceIte]) <;> rfl] at hj_
        exact hj_.sub (Sub.cons rfl (Sub.cons rfl (Sub.cons rfl (Sub.nil _))))
      · have h9p := bne_iff_ne.1 h9
        rw [h9]
        refine sg 5 [0, 2, 27] [(0, .slice (some ad5) bs.length c), (2, .pointer (some ⟨b1, 0, none⟩)), (27, .bool true)] ?_
        refine to_end rfl ?_
        rw [show (((decide ((bs.length : Int) < 3)) || ((bs.getD 0 (0 : Int)) != 88)) || ((bs.getD 1 (0 : Int)) != 86) : Bool) = true from by (simp only [h4, h9, Bool.true_or, Bool.false_or, Bool.or_true, Bool.or_false, Bool.true_and, Bool.false_and, Bool.and_true, Bool.and_false, Bool.not_true, Bool.not_false, cond_true, cond_false, if_true, reduceIte]) <;> rfl] at hj_
        exact hj_.sub (Sub.cons rfl (Sub.cons rfl (Sub.cons rfl (Sub.nil _))))
    · have h4p := of_decide_eq_true h4
      rw [h4]
      refine sg 11 [0, 2, 27] [(0, .slice A bs.length c), (2, .pointer (some ⟨b1, 0, none⟩)), (27, .bool true)] ?_
      refine to_end rfl ?_
      rw [show (((decide ((bs.length : Int) < 3)) || ((bs.getD 0 (0 : Int)) != 88)) || ((bs.getD 1 (0 : Int)) != 86) : Bool) = true from by (simp only [h4, Bool.true_or, Bool.false_or, Bool.or_true, Bool.or_false, Bool.true_and, Bool.false_and, Bool.and_true, Bool.and_false, Bool.not_true, Bool.not_false, cond_true, cond_false, if_true, reduceIte]) <;> rfl] at hj_
      exact hj_.sub (Sub.cons rfl (Sub.cons rfl (Sub.cons rfl (Sub.nil _))))
  refine tn_code ?_
  refine tc_cond (b := ((decide ((bs.length : Int) < 3)) || ((bs.getD 0 (0 : Int)) != 88)) || ((bs.getD 1 (0 : Int)) != 86)) (fun _ => rfl) (fun h13 => ?_) (fun h13 => ?_)
  · have h13p := h13
    simp only [Bool.or_eq_true, Bool.and_eq_true, Bool.or_eq_false_iff, Bool.and_eq_false_iff, decide_eq_true_eq, decide_eq_false_iff_not, beq_iff_eq, bne_iff_ne, beq_eq_false_iff_ne, bne_eq_false_iff_eq, Bool.not_eq_true', Bool.not_eq_false', ne_eq] at h13p
    refine tc_seq (tc_region ?_)
    refine sg 1 [2, 28] [(2, .pointer (some ⟨b1, 0, none⟩)), (28, .agg #[.slice none 0 0])] ?_
    refine sa M3 0 #[.slice none 0 0] fun w14 M15 => ?_
    refine sg 1 [2, 3] [(2, .pointer (some ⟨b1, 0, none⟩)), (3, .int .i64 7)] ?_
    refine to_end rfl (tn_code (tc_ret ?_))
    refine tr_cell_tmp M15 0 rfl rfl rfl rfl Try.underlying45 rfl (by kernel_rfl) ?_
    have he : progGet bs = ([], 7) := head_no (fun h_ => by obtain ⟨h1_, h2_, h3_⟩ := h_; have h4_ := h13p; omega)
    have M16 := ((M15.drop 0)).nilrow kFn 57
    rw [he]
    exact ⟨none, 0, rfl, M16⟩
  · have h13p := h13
    simp only [Bool.or_eq_true, Bool.and_eq_true, Bool.or_eq_false_iff, Bool.and_eq_false_iff, decide_eq_true_eq, decide_eq_false_iff_not, beq_iff_eq, bne_iff_ne, beq_eq_false_iff_ne, bne_eq_false_iff_eq, Bool.not_eq_true', Bool.not_eq_false', ne_eq] at h13p
    refine tc_skip (tn_code (tc_seq (tc_region ?_)))
    refine nw M3 4 #[.slice none 0 0] 45 fun b17 w18 M19 => ?_
    refine to_end rfl (tn_code (tc_seq (tc_region ?_)))
    refine sg 1 [0, 2, 4, 5] [(0, .slice A bs.length c), (2, .pointer (some ⟨b1, 0, none⟩)), (4, .pointer (some ⟨b17, 0, none⟩)), (5, .int .i64 3)] ?_
    refine to_end rfl (tn_code (tc_seq (tc_seq (tc_region ?_))))
    refine sg 1 [0, 2, 4, 5, 6] [(0, .slice A bs.length c), (2, .pointer (some ⟨b1, 0, none⟩)), (4, .pointer (some ⟨b17, 0, none⟩)), (5, .int .i64 3), (6, .int .i64 0)] ?_
    refine to_end rfl (tn_code (tc_block ?_))
    have hhd : HeadOk bs := ⟨by omega, by omega, by omega⟩
    obtain ⟨b2l, b2h⟩ := isB_getD hb 2
    have hnf : nFns bs = (bs.getD 2 0).toNat := rfl
    have M20 := M19.nilrow kFn 57
    refine tc_loop (σ := Nat × List Fn × Nat × Option Addr × Nat) (fun s_ => match s_ with | (i21, acc22, at23, A24, c25) => [(0, .slice A bs.length c), (2, .pointer (some ⟨b1, 0, none⟩)), (4, .pointer (some ⟨b17, 0, none⟩)), (6, .int .i64 (i21 : Int)), (5, .int .i64 (at23 : Int))]) (fun s_ w' => match s_ with | (i21, acc22, at23, A24, c25) => (OutG bs i21 acc22 at23) ∧ Mem w w' ([row kFn 57 (.slice A24 acc22.length c25) acc22, blk b17 #[.slice A24 acc22.length c25] 45, blk b1 #[.slice none 0 0] 45])) (fun s_ => match s_ with | (i21, acc22, at23, A24, c25) => nFns bs - i21) (0, [], 3, none, 0) (Sub.cons rfl (Sub.cons rfl (Sub.cons rfl (Sub.cons rfl (Sub.cons rfl (Sub.nil _)))))) ⟨out_zero hhd, M20⟩ ?_
    rintro ⟨i21, acc22, at23, A24, c25⟩ w29 ⟨hi31, M30⟩
    have hq1 := hi31
    have hqf := hq1.fit
    have hql := hq1.len
    have hqle := hq1.le
    obtain ⟨bal, bah⟩ := isB_getD hb at23
    obtain ⟨bbl, bbh⟩ := isB_getD hb (at23 + 1)
    refine tc_seq (tc_seq (tc_region ?_))
    refine sg 2 [0, 2, 4, 6, 5, 29, 30] [(0, .slice A bs.length c), (2, .pointer (some ⟨b1, 0, none⟩)), (4, .pointer (some ⟨b17, 0, none⟩)), (6, .int .i64 (i21 : Int)), (5, .int .i64 (at23 : Int)), (29, .int .i64 (i21 : Int)), (30, .slice A bs.length c)] ?_
    obtain ⟨ad32, rfl⟩ := C_some hC (k := 2) (by omega)
    refine ix (ad := ad32) (n := bs.length) (c := c) 31 2 1 (by omega) Try.underlying71 ?_
    obtain ⟨cs35, hk33, hc34⟩ := C_cell hC (0 : Int) 2 (by omega)
    obtain rfl := kB_open hk33
    refine le 32 (.int .u8 (bs.getD 2 (0 : Int))) (cell_up M30 (hc34 0 _ rfl)) ?_
    refine sg 1 [0, 2, 4, 6, 5, 29, 33] [(0, .slice (some ad32) bs.length c), (2, .pointer (some ⟨b1, 0, none⟩)), (4, .pointer (some ⟨b17, 0, none⟩)), (6, .int .i64 (i21 : Int)), (5, .int .i64 (at23 : Int)), (29, .int .i64 (i21 : Int)), (33, .int .i64 (IntKind.wrap .i64 (bs.getD 2 (0 : Int))))] ?_
    rw [wr_i64 (x := (bs.getD 2 (0 : Int))) (by omega) (by omega)]
    refine sg 1 [0, 2, 4, 6, 5, 34] [(0, .slice (some ad32) bs.length c), (2, .pointer (some ⟨b1, 0, none⟩)), (4, .pointer (some ⟨b17, 0, none⟩)), (6, .int .i64 (i21 : Int)), (5, .int .i64 (at23 : Int)), (34, .bool (decide ((i21 : Int) < (bs.getD 2 (0 : Int)))))] ?_
    refine to_end rfl (tn_code ?_)
    refine tc_cond (b := decide ((i21 : Int) < (bs.getD 2 (0 : Int)))) (fun _ => rfl) (fun h36 => ?_) (fun h36 => ?_)
    · have h36p := of_decide_eq_true h36
      refine tc_skip (tn_code (tc_seq (tc_block (tc_seq (tc_seq (tc_region ?_))))))
      refine sg 4 [0, 2, 4, 6, 5, 38, 40] [(0, .slice (some ad32) bs.length c), (2, .pointer (some ⟨b1, 0, none⟩)), (4, .pointer (some ⟨b17, 0, none⟩)), (6, .int .i64 (i21 : Int)), (5, .int .i64 (at23 : Int)), (38, .int .i64 (IntKind.wrap .i64 ((at23 : Int) + 2))), (40, .int .i64 (bs.length : Int))] ?_
      rw [show IntKind.wrap .i64 ((at23 : Int) + 2) = (((at23 + 2) : Nat) : Int) from wr_nat at23 2 (by omega)]
      refine sg 1 [0, 2, 4, 6, 5, 41] [(0, .slice (some ad32) bs.length c), (2, .pointer (some ⟨b1, 0, none⟩)), (4, .pointer (some ⟨b17, 0, none⟩)), (6, .int .i64 (i21 : Int)), (5, .int .i64 (at23 : Int)), (41, .bool (decide ((((at23 + 2) : Nat) : Int) > (bs.length : Int))))] ?_
      refine to_end rfl (tn_code ?_)
      refine tc_cond (b := decide ((((at23 + 2) : Nat) : Int) > (bs.length : Int))) (fun _ => rfl) (fun h37 => ?_) (fun h37 => ?_)
      · have h37p := of_decide_eq_true h37
        refine tc_seq (tc_region ?_)
        refine sg 1 [2, 42] [(2, .pointer (some ⟨b1, 0, none⟩)), (42, .agg #[.slice none 0 0])] ?_
        refine sa M30 2 #[.slice none 0 0] fun w38 M39 => ?_
        refine sg 1 [2, 3] [(2, .pointer (some ⟨b1, 0, none⟩)), (3, .int .i64 7)] ?_
        refine to_end rfl (tn_code (tc_ret ?_))
        refine tr_cell_tmp M39 2 rfl rfl rfl rfl Try.underlying45 rfl (by kernel_rfl) ?_
        have he : progGet bs = ([], 7) := out_short hq1 (by omega) (by omega)
        have M40 := ((((M39.drop 2).drop 1).drop 0)).nilrow kFn 57
        rw [he]
        exact ⟨none, 0, rfl, M40⟩
      · have h37p := of_decide_eq_false h37
        refine tc_skip (tn_code (tc_seq (tc_region ?_)))
        refine sg 2 [0, 2, 4, 6, 5, 43, 44] [(0, .slice (some ad32) bs.length c), (2, .pointer (some ⟨b1, 0, none⟩)), (4, .pointer (some ⟨b17, 0, none⟩)), (6, .int .i64 (i21 : Int)), (5, .int .i64 (at23 : Int)), (43, .slice (some ad32) bs.length c), (44, .int .i64 (at23 : Int))] ?_
        refine ix (ad := ad32) (n := bs.length) (c := c) 45 at23 1 (by omega) Try.underlying71 ?_
        obtain ⟨cs43, hk41, hc42⟩ := C_cell hC (0 : Int) at23 (by omega)
        obtain rfl := kB_open hk41
        refine le 46 (.int .u8 (bs.getD at23 (0 : Int))) (cell_up M30 (hc42 0 _ rfl)) ?_
        refine sg 2 [0, 2, 4, 6, 5, 48] [(0, .slice (some ad32) bs.length c), (2, .pointer (some ⟨b1, 0, none⟩)), (4, .pointer (some ⟨b17, 0, none⟩)), (6, .int .i64 (i21 : Int)), (5, .int .i64 (at23 : Int)), (48, .agg #[.int .i64 (IntKind.wrap .i64 (bs.getD at23 (0 : Int))), .slice none 0 0])] ?_
        rw [wr_i64 (x := (bs.getD at23 (0 : Int))) (by omega) (by omega)]
        refine nw M30 7 #[.int .i64 0, .slice none 0 0] 57 fun b44 w45 M46 => ?_
        refine sa M46 0 #[.int .i64 (bs.getD at23 (0 : Int)), .slice none 0 0] fun w47 M48 => ?_
        refine to_end rfl (tn_code (tc_seq (tc_region ?_)))
        refine sg 3 [0, 2, 4, 6, 5, 7, 49, 51] [(0, .slice (some ad32) bs.length c), (2, .pointer (some ⟨b1, 0, none⟩)), (4, .pointer (some ⟨b17, 0, none⟩)), (6, .int .i64 (i21 : Int)), (5, .int .i64 (at23 : Int)), (7, .pointer (some ⟨b44, 0, none⟩)), (49, .slice (some ad32) bs.length c), (51, .int .i64 (IntKind.wrap .i64 ((at23 : Int) + 1)))] ?_
        rw [show IntKind.wrap .i64 ((at23 : Int) + 1) = (((at23 + 1) : Nat) : Int) from wr_nat at23 1 (by omega)]
        refine ix (ad := ad32) (n := bs.length) (c := c) 52 (at23 + 1) 1 (by omega) Try.underlying71 ?_
        obtain ⟨cs51, hk49, hc50⟩ := C_cell hC (0 : Int) (at23 + 1) (by omega)
        obtain rfl := kB_open hk49
        refine le 53 (.int .u8 (bs.getD (at23 + 1) (0 : Int))) (cell_up M48 (hc50 0 _ rfl)) ?_
        refine sg 2 [0, 2, 4, 6, 5, 7, 8] [(0, .slice (some ad32) bs.length c), (2, .pointer (some ⟨b1, 0, none⟩)), (4, .pointer (some ⟨b17, 0, none⟩)), (6, .int .i64 (i21 : Int)), (5, .int .i64 (at23 : Int)), (7, .pointer (some ⟨b44, 0, none⟩)), (8, .int .i64 (IntKind.wrap .i64 (bs.getD (at23 + 1) (0 : Int))))] ?_
        rw [wr_i64 (x := (bs.getD (at23 + 1) (0 : Int))) (by omega) (by omega)]
        refine to_end rfl (tn_code (tc_seq (tc_region ?_)))
        refine sg 3 [0, 2, 4, 6, 5, 7, 8] [(0, .slice (some ad32) bs.length c), (2, .pointer (some ⟨b1, 0, none⟩)), (4, .pointer (some ⟨b17, 0, none⟩)), (6, .int .i64 (i21 : Int)), (5, .int .i64 (IntKind.wrap .i64 ((at23 : Int) + 2))), (7, .pointer (some ⟨b44, 0, none⟩)), (8, .int .i64 (bs.getD (at23 + 1) (0 : Int)))] ?_
        rw [show IntKind.wrap .i64 ((at23 : Int) + 2) = (((at23 + 2) : Nat) : Int) from wr_nat at23 2 (by omega)]
        refine to_end rfl (tn_code (tc_seq (tc_seq (tc_region ?_))))
        refine sg 1 [0, 2, 4, 6, 5, 7, 8, 9] [(0, .slice (some ad32) bs.length c), (2, .pointer (some ⟨b1, 0, none⟩)), (4, .pointer (some ⟨b17, 0, none⟩)), (6, .int .i64 (i21 : Int)), (5, .int .i64 (((at23 + 2) : Nat) : Int)), (7, .pointer (some ⟨b44, 0, none⟩)), (8, .int .i64 (bs.getD (at23 + 1) (0 : Int))), (9, .int .i64 0)] ?_
        refine to_end rfl (tn_code (tc_block ?_))
        obtain ⟨bml, bmh⟩ := isB_getD hb (at23 + 1)
        have hni : nIns bs at23 = (bs.getD (at23 + 1) 0).toNat := rfl
        have M52 := M48.nilrow kInst 65
        refine tc_loop (σ := Nat × List Inst × Nat × Option Addr × Nat) (fun s_ => match s_ with | (k53, acc54, at55, A56, c57) => [(0, .slice (some ad32) bs.length c), (2, .pointer (some ⟨b1, 0, none⟩)), (4, .pointer (some ⟨b17, 0, none⟩)), (6, .int .i64 (i21 : Int)), (7, .pointer (some ⟨b44, 0, none⟩)), (8, .int .i64 (bs.getD (at23 + 1) (0 : Int))), (9, .int .i64 (k53 : Int)), (5, .int .i64 (at55 : Int))]) (fun s_ w' => match s_ with | (k53, acc54, at55, A56, c57) => (InG bs at23 k53 acc54 at55) ∧ Mem w w' ([row kInst 65 (.slice A56 acc54.length c57) acc54, blk b44 #[.int .i64 (bs.getD at23 (0 : Int)), .slice A56 acc54.length c57] 57, row kFn 57 (.slice A24 acc22.length c25) acc22, blk b17 #[.slice A24 acc22.length c25] 45, blk b1 #[.slice none 0 0] 45])) (fun s_ => match s_ with | (k53, acc54, at55, A56, c57) => nIns bs at23 - k53) (0, [], at23 + 2, none, 0) (Sub.cons rfl (Sub.cons rfl (Sub.cons rfl (Sub.cons rfl (Sub.cons rfl (Sub.cons rfl (Sub.cons rfl (Sub.cons rfl (Sub.nil _))))))))) ⟨in_zero (by omega), M52⟩ ?_
        rintro ⟨k53, acc54, at55, A56, c57⟩ w60 ⟨hi62, M61⟩
        have hj1 := hi62
        have hjf := hj1.fit
        have hjl := hj1.len
        have hjle := hj1.le
        refine tc_seq (tc_seq (tc_region ?_))
        refine sg 3 [0, 2, 4, 6, 7, 8, 9, 5, 59] [(0, .slice (some ad32) bs.length c), (2, .pointer (some ⟨b1, 0, none⟩)), (4, .pointer (some ⟨b17, 0, none⟩)), (6, .int .i64 (i21 : Int)), (7, .pointer (some ⟨b44, 0, none⟩)), (8, .int .i64 (bs.getD (at23 + 1) (0 : Int))), (9, .int .i64 (k53 : Int)), (5, .int .i64 (at55 : Int)), (59, .bool (decide ((k53 : Int) < (bs.getD (at23 + 1) (0 : Int)))))] ?_
        refine to_end rfl (tn_code ?_)
        refine tc_cond (b := decide ((k53 : Int) < (bs.getD (at23 + 1) (0 : Int)))) (fun _ => rfl) (fun h63 => ?_) (fun h63 => ?_)
        · have h63p := of_decide_eq_true h63
          refine tc_skip (tn_code (tc_seq (tc_block (tc_seq (tc_seq (tc_region ?_))))))
          refine sg 4 [0, 2, 4, 6, 7, 8, 9, 5, 63, 65] [(0, .slice (some ad32) bs.length c), (2, .pointer (some ⟨b1, 0, none⟩)), (4, .pointer (some ⟨b17, 0, none⟩)), (6, .int .i64 (i21 : Int)), (7, .pointer (some ⟨b44, 0, none⟩)), (8, .int .i64 (bs.getD (at23 + 1) (0 : Int))), (9, .int .i64 (k53 : Int)), (5, .int .i64 (at55 : Int)), (63, .int .i64 (IntKind.wrap .i64 ((at55 : Int) + 8))), (65, .int .i64 (bs.length : Int))] ?_
          rw [show IntKind.wrap .i64 ((at55 : Int) + 8) = (((at55 + 8) : Nat) : Int) from wr_nat at55 8 (by omega)]
          refine sg 1 [0, 2, 4, 6, 7, 8, 9, 5, 66] [(0, .slice (some ad32) bs.length c), (2, .pointer (some ⟨b1, 0, none⟩)), (4, .pointer (some ⟨b17, 0, none⟩)), (6, .int .i64 (i21 : Int)), (7, .pointer (some ⟨b44, 0, none⟩)), (8, .int .i64 (bs.getD (at23 + 1) (0 : Int))), (9, .int .i64 (k53 : Int)), (5, .int .i64 (at55 : Int)), (66, .bool (decide ((((at55 + 8) : Nat) : Int) > (bs.length : Int))))] ?_
          refine to_end rfl (tn_code ?_)
          refine tc_cond (b := decide ((((at55 + 8) : Nat) : Int) > (bs.length : Int))) (fun _ => rfl) (fun h64 => ?_) (fun h64 => ?_)
          · have h64p := of_decide_eq_true h64
            refine tc_seq (tc_region ?_)
            refine sg 1 [2, 67] [(2, .pointer (some ⟨b1, 0, none⟩)), (67, .agg #[.slice none 0 0])] ?_
            refine sa M61 4 #[.slice none 0 0] fun w65 M66 => ?_
            refine sg 1 [2, 3] [(2, .pointer (some ⟨b1, 0, none⟩)), (3, .int .i64 7)] ?_
            refine to_end rfl (tn_code (tc_ret ?_))
            refine tr_cell_tmp M66 4 rfl rfl rfl rfl Try.underlying45 rfl (by kernel_rfl) ?_
            have he : progGet bs = ([], 7) := out_bad hq1 (by omega) (in_short hj1 (by omega) (by omega))
            have M67 := ((((((M66.drop 4).drop 3).drop 2).drop 1).drop 0)).nilrow kFn 57
            rw [he]
            exact ⟨none, 0, rfl, M67⟩
          · have h64p := of_decide_eq_false h64
            refine tc_skip (tn_code (tc_seq (tc_region ?_)))
            refine sg 4 [0, 2, 4, 6, 7, 8, 9, 5, 69, 70, 72] [(0, .slice (some ad32) bs.length c), (2, .pointer (some ⟨b1, 0, none⟩)), (4, .pointer (some ⟨b17, 0, none⟩)), (6, .int .i64 (i21 : Int)), (7, .pointer (some ⟨b44, 0, none⟩)), (8, .int .i64 (bs.getD (at23 + 1) (0 : Int))), (9, .int .i64 (k53 : Int)), (5, .int .i64 (at55 : Int)), (69, .slice (some ad32) bs.length c), (70, .int .i64 (at55 : Int)), (72, .int .i64 (IntKind.wrap .i64 ((at55 : Int) + 8)))] ?_
            rw [show IntKind.wrap .i64 ((at55 : Int) + 8) = (((at55 + 8) : Nat) : Int) from wr_nat at55 8 (by omega)]
            refine slm _ hC 73 at55 (at55 + 8) (by omega) (by omega) hc Try.underlying71 fun A68 hC69 hle70 => ?_
            refine cb M61 74 (get2_any A68 (c - at55) ((bs.take (at55 + 8)).drop at55) _ (C_up M61 hC69) hle70 (fun x hx => hb x (List.mem_of_mem_take (List.mem_of_mem_drop hx)))) fun w71 hb73 M72 => ?_
            refine sg 3 [0, 2, 4, 6, 7, 8, 9, 5, 75, 76] [(0, .slice (some ad32) bs.length c), (2, .pointer (some ⟨b1, 0, none⟩)), (4, .pointer (some ⟨b17, 0, none⟩)), (6, .int .i64 (i21 : Int)), (7, .pointer (some ⟨b44, 0, none⟩)), (8, .int .i64 (bs.getD (at23 + 1) (0 : Int))), (9, .int .i64 (k53 : Int)), (5, .int .i64 (at55 : Int)), (75, .agg (instGet ((bs.take (at55 + 8)).drop at55)).1.cs), (76, .int .i64 (instGet ((bs.take (at55 + 8)).drop at55)).2)] ?_
            refine nw M72 10 #[.int .i64 0, .int .i64 0, .int .i64 0, .int .i64 0, .bool false, .int .i64 0, .int .u32 0] 65 fun b74 w75 M76 => ?_
            refine sa M76 0 (instGet ((bs.take (at55 + 8)).drop at55)).1.cs fun w77 M78 => ?_
            refine sg 1 [0, 2, 4, 6, 7, 8, 9, 5, 10, 11] [(0, .slice (some ad32) bs.length c), (2, .pointer (some ⟨b1, 0, none⟩)), (4, .pointer (some ⟨b17, 0, none⟩)), (6, .int .i64 (i21 : Int)), (7, .pointer (some ⟨b44, 0, none⟩)), (8, .int .i64 (bs.getD (at23 + 1) (0 : Int))), (9, .int .i64 (k53 : Int)), (5, .int .i64 (at55 : Int)), (10, .pointer (some ⟨b74, 0, none⟩)), (11, .int .i64 (instGet ((bs.take (at55 + 8)).drop at55)).2)] ?_
            refine to_end rfl (tn_code (tc_seq (tc_seq (tc_region ?_))))
            refine sg 2 [0, 2, 4, 6, 7, 8, 9, 5, 10, 78] [(0, .slice (some ad32) bs.length c), (2, .pointer (some ⟨b1, 0, none⟩)), (4, .pointer (some ⟨b17, 0, none⟩)), (6, .int .i64 (i21 : Int)), (7, .pointer (some ⟨b44, 0, none⟩)), (8, .int .i64 (bs.getD (at23 + 1) (0 : Int))), (9, .int .i64 (k53 : Int)), (5, .int .i64 (at55 : Int)), (10, .pointer (some ⟨b74, 0, none⟩)), (78, .bool ((instGet ((bs.take (at55 + 8)).drop at55)).2 != 0))] ?_
            refine to_end rfl (tn_code ?_)
            refine tc_cond (b := (instGet ((bs.take (at55 + 8)).drop at55)).2 != 0) (fun _ => rfl) (fun h79 => ?_) (fun h79 => ?_)
            · have h79p := bne_iff_ne.1 h79
              refine tc_seq (tc_region ?_)
              refine sg 1 [2, 79] [(2, .pointer (some ⟨b1, 0, none⟩)), (79, .agg #[.slice none 0 0])] ?_
              refine sa M78 5 #[.slice none 0 0] fun w80 M81 => ?_
              refine sg 1 [2, 3] [(2, .pointer (some ⟨b1, 0, none⟩)), (3, .int .i64 7)] ?_
              refine to_end rfl (tn_code (tc_ret ?_))
              refine tr_cell_tmp M81 5 rfl rfl rfl rfl Try.underlying45 rfl (by kernel_rfl) ?_
              have he : progGet bs = ([], 7) := out_bad hq1 (by omega) (in_err hj1 (by omega) (by omega) (bne_iff_ne.1 h79))
              have M82 := (((((((M81.drop 5).drop 4).drop 3).drop 2).drop 1).drop 0)).nilrow kFn 57
              rw [he]
              exact ⟨none, 0, rfl, M82⟩
            · have h79p := bne_eq_false_iff_eq.1 h79
              refine tc_skip (tn_code (tc_seq (tc_region ?_)))
              refine sg 1 [0, 2, 4, 6, 7, 8, 9, 5, 10, 80] [(0, .slice (some ad32) bs.length c), (2, .pointer (some ⟨b1, 0, none⟩)), (4, .pointer (some ⟨b17, 0, none⟩)), (6, .int .i64 (i21 : Int)), (7, .pointer (some ⟨b44, 0, none⟩)), (8, .int .i64 (bs.getD (at23 + 1) (0 : Int))), (9, .int .i64 (k53 : Int)), (5, .int .i64 (at55 : Int)), (10, .pointer (some ⟨b74, 0, none⟩)), (80, .pointer (some ⟨b44, 1, none⟩))] ?_
              refine ld M78 2 81 (.slice A56 acc54.length c57) ?_
              refine la M78 0 82 (instGet ((bs.take (at55 + 8)).drop at55)).1.cs (hu := Try.underlying65) ?_
              have M86 := M78.flat (d := kInst) (x := ((instGet ((bs.take (at55 + 8)).drop at55)).1 : Inst)) (cs := ((instGet ((bs.take (at55 + 8)).drop at55)).1.cs : Array Value).toList) (kInst_M _ _)
              refine bs1 (x := ((instGet ((bs.take (at55 + 8)).drop at55)).1 : Inst)) (cs := (instGet ((bs.take (at55 + 8)).drop at55)).1.cs) M86 83 65 fun b83 w84 M85 => ?_
              have M91 := M85.front 2 rfl
              refine ap (z := .agg Inst.z.cs) (bytes := 56) M91 84 Try.underlying55 ?_ fun A87 c88 w89 M90 => ?_
              · simp only [List.length_append, List.length_cons, List.length_nil]; omega
              refine sg 1 [0, 2, 4, 6, 7, 8, 9, 5, 84, 85] [(0, .slice (some ad32) bs.length c), (2, .pointer (some ⟨b1, 0, none⟩)), (4, .pointer (some ⟨b17, 0, none⟩)), (6, .int .i64 (i21 : Int)), (7, .pointer (some ⟨b44, 0, none⟩)), (8, .int .i64 (bs.getD (at23 + 1) (0 : Int))), (9, .int .i64 (k53 : Int)), (5, .int .i64 (at55 : Int)), (84, .slice A87 (acc54 ++ [((instGet ((bs.take (at55 + 8)).drop at55)).1 : Inst)]).length c88), (85, .pointer (some ⟨b44, 1, none⟩))] ?_
              refine st M90 2 #[.int .i64 (bs.getD at23 (0 : Int)), .slice A87 (acc54 ++ [((instGet ((bs.take (at55 + 8)).drop at55)).1 : Inst)]).length c88] fun w92 M93 => ?_
              refine to_end rfl (tn_code (tc_region ?_))
              refine sg 3 [0, 2, 4, 6, 7, 8, 9, 5] [(0, .slice (some ad32) bs.length c), (2, .pointer (some ⟨b1, 0, none⟩)), (4, .pointer (some ⟨b17, 0, none⟩)), (6, .int .i64 (i21 : Int)), (7, .pointer (some ⟨b44, 0, none⟩)), (8, .int .i64 (bs.getD (at23 + 1) (0 : Int))), (9, .int .i64 (k53 : Int)), (5, .int .i64 (IntKind.wrap .i64 ((at55 : Int) + 8)))] ?_
              rw [show IntKind.wrap .i64 ((at55 : Int) + 8) = (((at55 + 8) : Nat) : Int) from wr_nat at55 8 (by omega)]
              refine to_end rfl (tn_blk (tn_code (tc_region ?_)))
              refine sg 3 [0, 2, 4, 6, 7, 8, 9, 5] [(0, .slice (some ad32) bs.length c), (2, .pointer (some ⟨b1, 0, none⟩)), (4, .pointer (some ⟨b17, 0, none⟩)), (6, .int .i64 (i21 : Int)), (7, .pointer (some ⟨b44, 0, none⟩)), (8, .int .i64 (bs.getD (at23 + 1) (0 : Int))), (9, .int .i64 (IntKind.wrap .i64 ((k53 : Int) + 1))), (5, .int .i64 (((at55 + 8) : Nat) : Int))] ?_
              rw [show IntKind.wrap .i64 ((k53 : Int) + 1) = (((k53 + 1) : Nat) : Int) from wr_nat k53 1 (by omega)]
              refine to_end rfl ?_
              have M94 := M93.drop 1
              exact tn_back (s := (k53, acc54, at55, A56, c57)) (k53 + 1, (acc54 ++ [((instGet ((bs.take (at55 + 8)).drop at55)).1 : Inst)]), at55 + 8, A87, c88) (Sub.cons rfl (Sub.cons rfl (Sub.cons rfl (Sub.cons rfl (Sub.cons rfl (Sub.cons rfl (Sub.cons rfl (Sub.cons rfl (Sub.nil _))))))))) ⟨in_step hj1 (by omega) (by omega) (bne_eq_false_iff_eq.1 h79), M94⟩ (by simp only; omega)
        · have h63p := of_decide_eq_false h63
          refine tc_exitK (k' := _) rfl (tn_code (tc_region ?_))
          refine sg 1 [0, 2, 4, 6, 7, 5, 88] [(0, .slice (some ad32) bs.length c), (2, .pointer (some ⟨b1, 0, none⟩)), (4, .pointer (some ⟨b17, 0, none⟩)), (6, .int .i64 (i21 : Int)), (7, .pointer (some ⟨b44, 0, none⟩)), (5, .int .i64 (at55 : Int)), (88, .pointer (some ⟨b17, 0, none⟩))] ?_
          refine ld M61 3 89 (.slice A24 acc22.length c25) ?_
          refine la M61 1 90 #[.int .i64 (bs.getD at23 (0 : Int)), .slice A56 acc54.length c57] (hu := Try.underlying57) ?_
          have M98 := kFn_M (x := (⟨(bs.getD at23 (0 : Int)), acc54⟩ : Fn)) M61
          refine bs1 (x := (⟨(bs.getD at23 (0 : Int)), acc54⟩ : Fn)) (cs := #[.int .i64 (bs.getD at23 (0 : Int)), .slice A56 acc54.length c57]) M98 91 57 fun b95 w96 M97 => ?_
          have M103 := M97.front 2 rfl
          refine ap (z := .agg #[.int .i64 0, .slice none 0 0]) (bytes := 32) M103 92 Try.underlying43 ?_ fun A99 c100 w101 M102 => ?_
          · simp only [List.length_append, List.length_cons, List.length_nil]; omega
          refine sg 1 [0, 2, 4, 6, 5, 92, 93] [(0, .slice (some ad32) bs.length c), (2, .pointer (some ⟨b1, 0, none⟩)), (4, .pointer (some ⟨b17, 0, none⟩)), (6, .int .i64 (i21 : Int)), (5, .int .i64 (at55 : Int)), (92, .slice A99 (acc22 ++ [(⟨(bs.getD at23 (0 : Int)), acc54⟩ : Fn)]).length c100), (93, .pointer (some ⟨b17, 0, none⟩))] ?_
          refine st M102 2 #[.slice A99 (acc22 ++ [(⟨(bs.getD at23 (0 : Int)), acc54⟩ : Fn)]).length c100] fun w104 M105 => ?_
          refine to_end rfl (tn_blk (tn_code (tc_region ?_)))
          refine sg 3 [0, 2, 4, 6, 5] [(0, .slice (some ad32) bs.length c), (2, .pointer (some ⟨b1, 0, none⟩)), (4, .pointer (some ⟨b17, 0, none⟩)), (6, .int .i64 (IntKind.wrap .i64 ((i21 : Int) + 1))), (5, .int .i64 (at55 : Int))] ?_
          rw [show IntKind.wrap .i64 ((i21 : Int) + 1) = (((i21 + 1) : Nat) : Int) from wr_nat i21 1 (by omega)]
          refine to_end rfl ?_
          have M106 := M105.drop 1
          exact tn_back (s := (i21, acc22, at23, A24, c25)) (i21 + 1, (acc22 ++ [(⟨(bs.getD at23 (0 : Int)), acc54⟩ : Fn)]), at55, A99, c100) (Sub.cons rfl (Sub.cons rfl (Sub.cons rfl (Sub.cons rfl (Sub.cons rfl (Sub.nil _)))))) ⟨out_step hq1 (by omega) hj1 (by omega), M106⟩ (by simp only; omega)
    · have h36p := of_decide_eq_false h36
      refine tc_exitK (k' := _) rfl (tn_code (tc_seq (tc_region ?_)))
      refine la M30 1 94 #[.slice A24 acc22.length c25] (hu := Try.underlying45) ?_
      refine cb M30 95 (rmay_any acc22 A24 c25 w29 (M30.row_C 0 rfl)) fun w107 hb109 M108 => ?_
      refine sg 1 [0, 2, 4, 5, 12] [(0, .slice (some ad32) bs.length c), (2, .pointer (some ⟨b1, 0, none⟩)), (4, .pointer (some ⟨b17, 0, none⟩)), (5, .int .i64 (at23 : Int)), (12, .bool (progMay acc22))] ?_
      refine to_end rfl (tn_code (tc_seq (tc_seq (tc_region ?_))))
      refine join (fr' := [(2, .pointer (some ⟨b1, 0, none⟩)), (4, .pointer (some ⟨b17, 0, none⟩)), (103, .bool ((!(progMay acc22)) || ((at23 : Int) != (bs.length : Int))))]) (fun hj_ => ?_) ?_
      · refine sg 3 [0, 2, 4, 5, 98] [(0, .slice (some ad32) bs.length c), (2, .pointer (some ⟨b1, 0, none⟩)), (4, .pointer (some ⟨b17, 0, none⟩)), (5, .int .i64 (at23 : Int)), (98, .bool (!(progMay acc22)))] ?_
        rcases bdi (progMay acc22 : Bool) with h110 | h110
        · rw [h110]
          refine sg 5 [2, 4, 103] [(2, .pointer (some ⟨b1, 0, none⟩)), (4, .pointer (some ⟨b17, 0, none⟩)), (103, .bool true)] ?_
          refine to_end rfl ?_
          rw [show ((!(progMay acc22)) || ((at23 : Int) != (bs.length : Int)) : Bool) = true from by (simp only [h110, Bool.true_or, Bool.false_or, Bool.or_true, Bool.or_false, Bool.true_and, Bool.false_and, Bool.and_true, Bool.and_false, Bool.not_true, Bool.not_false, cond_true, cond_false, if_true, reduceIte]) <;> rfl] at hj_
          exact hj_.sub (Sub.cons rfl (Sub.cons rfl (Sub.cons rfl (Sub.nil _))))
        · rw [h110]
          refine sg 5 [2, 4, 103] [(2, .pointer (some ⟨b1, 0, none⟩)), (4, .pointer (some ⟨b17, 0, none⟩)), (103, .bool ((at23 : Int) != (bs.length : Int)))] ?_
          refine to_end rfl ?_
          rw [show ((!(progMay acc22)) || ((at23 : Int) != (bs.length : Int)) : Bool) = ((at23 : Int) != (bs.length : Int)) from by (simp only [h110, Bool.true_or, Bool.false_or, Bool.or_true, Bool.or_false, Bool.true_and, Bool.false_and, Bool.and_true, Bool.and_false, Bool.not_true, Bool.not_false, cond_true, cond_false, if_true, reduceIte]) <;> rfl] at hj_
          exact hj_.sub (Sub.cons rfl (Sub.cons rfl (Sub.cons rfl (Sub.nil _))))
      refine tn_code ?_
      refine tc_cond (b := (!(progMay acc22)) || ((at23 : Int) != (bs.length : Int))) (fun _ => rfl) (fun h111 => ?_) (fun h111 => ?_)
      · have h111p := h111
        simp only [Bool.or_eq_true, Bool.and_eq_true, Bool.or_eq_false_iff, Bool.and_eq_false_iff, decide_eq_true_eq, decide_eq_false_iff_not, beq_iff_eq, bne_iff_ne, beq_eq_false_iff_ne, bne_eq_false_iff_eq, Bool.not_eq_true', Bool.not_eq_false', ne_eq] at h111p
        refine tc_seq (tc_region ?_)
        refine sg 1 [2, 104] [(2, .pointer (some ⟨b1, 0, none⟩)), (104, .agg #[.slice none 0 0])] ?_
        refine sa M108 2 #[.slice none 0 0] fun w112 M113 => ?_
        refine sg 1 [2, 3] [(2, .pointer (some ⟨b1, 0, none⟩)), (3, .int .i64 7)] ?_
        refine to_end rfl (tn_code (tc_ret ?_))
        refine tr_cell_tmp M113 2 rfl rfl rfl rfl Try.underlying45 rfl (by kernel_rfl) ?_
        have he := out_end hq1 (by omega)
        rw [if_neg (by rintro ⟨h1_, h2_⟩; have h_ := h111p; rw [h1_] at h_; rcases h_ with h_ | h_; cases h_; omega)] at he
        have M114 := ((((M113.drop 2).drop 1).drop 0)).nilrow kFn 57
        rw [he]
        exact ⟨none, 0, rfl, M114⟩
      · have h111p := h111
        simp only [Bool.or_eq_true, Bool.and_eq_true, Bool.or_eq_false_iff, Bool.and_eq_false_iff, decide_eq_true_eq, decide_eq_false_iff_not, beq_iff_eq, bne_iff_ne, beq_eq_false_iff_ne, bne_eq_false_iff_eq, Bool.not_eq_true', Bool.not_eq_false', ne_eq] at h111p
        refine tc_skip (tn_code (tc_seq (tc_region ?_)))
        refine la M108 1 105 #[.slice A24 acc22.length c25] (hu := Try.underlying45) ?_
        refine sa M108 2 #[.slice A24 acc22.length c25] fun w115 M116 => ?_
        refine sg 1 [2, 3] [(2, .pointer (some ⟨b1, 0, none⟩)), (3, .int .i64 0)] ?_
        refine to_end rfl (tn_code (tc_ret ?_))
        refine tr_cell_tmp M116 2 rfl rfl rfl rfl Try.underlying45 rfl (by kernel_rfl) ?_
        have he := out_end hq1 (by omega)
        rw [if_pos (by have h_ := h111p; exact ⟨h_.1, by omega⟩)] at he
        rw [he]
        exact ⟨_, _, rfl, ((M116.drop 2).drop 1)⟩

set_option linter.unusedSimpArgs false in
theorem rswap_any (p : List Fn) (i : Int) (f : Fn) (A : Option Addr) (c : Nat) (Af : Option Addr) (cf : Nat) (w : World) (hC : kFn.C w A p.length p) (hF : kInst.C w Af f.code.length f.code) (hcf : f.code.length ≤ cf) : Calls Try.prog 56 #[.agg #[.slice A p.length c], .int .i64 i, .agg #[.int .i64 f.args, .slice Af f.code.length cf]] w fun e w' => ∃ A' c', e = .returned (.tuple #[.agg #[.slice A' (swapOf p i f).1.length c'], .int .i64 (swapOf p i f).2]) ∧ Mem w w' [row kFn 57 (.slice A' (swapOf p i f).1.length c') (swapOf p i f).1] := by
  have M := Mem.refl w
  have hmx := C_max hC
  refine calls_tc (N := 55) (args := [.agg #[.slice A p.length c], .int .i64 i, .agg #[.int .i64 f.args, .slice Af f.code.length cf]]) Try.func56 rfl rfl rfl ?_
  refine tc_seq (tc_region ?_)
  refine nw M 3 #[.slice A p.length c] 45 fun b1 w2 M3 => ?_
  refine nw M3 5 #[.int .i64 f.args, .slice Af f.code.length cf] 57 fun b4 w5 M6 => ?_
  refine nw M6 6 #[.slice none 0 0] 45 fun b7 w8 M9 => ?_
  refine sg 1 [1, 3, 5, 6] [(1, .int .i64 i), (3, .pointer (some ⟨b1, 0, none⟩)), (5, .pointer (some ⟨b4, 0, none⟩)), (6, .pointer (some ⟨b7, 0, none⟩))] ?_
  refine to_end rfl (tn_code (tc_seq (tc_region ?_)))
  refine la M9 2 11 #[.slice A p.length c] (hu := Try.underlying45) ?_
  refine cb M9 12 (rmay_any p A c w8 (C_up M9 hC)) fun w10 hb12 M11 => ?_
  refine sg 1 [1, 3, 5, 6, 8] [(1, .int .i64 i), (3, .pointer (some ⟨b1, 0, none⟩)), (5, .pointer (some ⟨b4, 0, none⟩)), (6, .pointer (some ⟨b7, 0, none⟩)), (8, .bool (progMay p))] ?_
  refine to_end rfl (tn_code (tc_seq (tc_region ?_)))
  refine la M11 1 13 #[.int .i64 f.args, .slice Af f.code.length cf] (hu := Try.underlying57) ?_
  refine cb M11 14 (code_any f Af cf _ (C_up M11 hF)) fun w13 hb15 M14 => ?_
  refine sg 1 [1, 3, 5, 6, 8, 9] [(1, .int .i64 i), (3, .pointer (some ⟨b1, 0, none⟩)), (5, .pointer (some ⟨b4, 0, none⟩)), (6, .pointer (some ⟨b7, 0, none⟩)), (8, .bool (progMay p)), (9, .bool (fnMay ⟨0, f.code⟩))] ?_
  refine to_end rfl (tn_code (tc_seq (tc_seq (tc_region ?_))))
  refine join (fr' := [(1, .int .i64 i), (3, .pointer (some ⟨b1, 0, none⟩)), (5, .pointer (some ⟨b4, 0, none⟩)), (6, .pointer (some ⟨b7, 0, none⟩)), (20, .bool ((!(progMay p)) || (!(fnMay ⟨0, f.code⟩))))]) (fun hj_ => ?_) ?_
  · refine sg 3 [1, 3, 5, 6, 9, 17] [(1, .int .i64 i), (3, .pointer (some ⟨b1, 0, none⟩)), (5, .pointer (some ⟨b4, 0, none⟩)), (6, .pointer (some ⟨b7, 0, none⟩)), (9, .bool (fnMay ⟨0, f.code⟩)), (17, .bool (!(progMay p)))] ?_
    rcases bdi (progMay p : Bool) with h16 | h16
    · rw [h16]
      refine sg 3 [1, 3, 5, 6, 20] [(1, .int .i64 i), (3, .pointer (some ⟨b1, 0, none⟩)), (5, .pointer (some ⟨b4, 0, none⟩)), (6, .pointer (some ⟨b7, 0, none⟩)), (20, .bool true)] ?_
      refine to_end rfl ?_
      rw [show ((!(progMay p)) || (!(fnMay ⟨0, f.code⟩)) : Bool) = true from by (simp only [h16, Bool.true_or, Bool.false_or, Bool.or_true, Bool.or_false, Bool.true_and, Bool.false_and, Bool.and_true, Bool.and_false, Bool.not_true, Bool.not_false, cond_true, cond_false, if_true, reduceIte]) <;> rfl] at hj_
      exact hj_.sub (Sub.cons rfl (Sub.cons rfl (Sub.cons rfl (Sub.cons rfl (Sub.cons rfl (Sub.nil _))))))
    · rw [h16]
      refine sg 3 [1, 3, 5, 6, 20] [(1, .int .i64 i), (3, .pointer (some ⟨b1, 0, none⟩)), (5, .pointer (some ⟨b4, 0, none⟩)), (6, .pointer (some ⟨b7, 0, none⟩)), (20, .bool (!(fnMay ⟨0, f.code⟩)))] ?_
      refine to_end rfl ?_
      rw [show ((!(progMay p)) || (!(fnMay ⟨0, f.code⟩)) : Bool) = (!(fnMay ⟨0, f.code⟩)) from by (simp only [h16, Bool.true_or, Bool.false_or, Bool.or_true, Bool.or_false, Bool.true_and, Bool.false_and, Bool.and_true, Bool.and_false, Bool.not_true, Bool.not_false, cond_true, cond_false, if_true, reduceIte]) <;> rfl] at hj_
      exact hj_.sub (Sub.cons rfl (Sub.cons rfl (Sub.cons rfl (Sub.cons rfl (Sub.cons rfl (Sub.nil _))))))
  refine tn_code ?_
  refine tc_cond (b := (!(progMay p)) || (!(fnMay ⟨0, f.code⟩))) (fun _ => rfl) (fun h17 => ?_) (fun h17 => ?_)
  · have h17p := h17
    simp only [Bool.or_eq_true, Bool.and_eq_true, Bool.or_eq_false_iff, Bool.and_eq_false_iff, decide_eq_true_eq, decide_eq_false_iff_not, beq_iff_eq, bne_iff_ne, beq_eq_false_iff_ne, bne_eq_false_iff_eq, Bool.not_eq_true', Bool.not_eq_false', ne_eq] at h17p
    refine tc_seq (tc_region ?_)
    refine sg 1 [6, 21] [(6, .pointer (some ⟨b7, 0, none⟩)), (21, .agg #[.slice none 0 0])] ?_
    refine sa M14 0 #[.slice none 0 0] fun w18 M19 => ?_
    refine sg 1 [6, 7] [(6, .pointer (some ⟨b7, 0, none⟩)), (7, .int .i64 1)] ?_
    refine to_end rfl (tn_code (tc_ret ?_))
    refine tr_cell_tmp M19 0 rfl rfl rfl rfl Try.underlying45 rfl (by kernel_rfl) ?_
    have he : swapOf p i f = ([], 1) := if_pos (by have h_ := h17p; rcases h_ with h_ | h_ <;> simp_all)
    rw [he]
    exact ⟨none, 0, rfl, ((((M19.drop 2).drop 1).drop 0)).nilrow kFn 57⟩
  · have h17p := h17
    simp only [Bool.or_eq_true, Bool.and_eq_true, Bool.or_eq_false_iff, Bool.and_eq_false_iff, decide_eq_true_eq, decide_eq_false_iff_not, beq_iff_eq, bne_iff_ne, beq_eq_false_iff_ne, bne_eq_false_iff_eq, Bool.not_eq_true', Bool.not_eq_false', ne_eq] at h17p
    refine tc_skip (tn_code (tc_seq (tc_seq (tc_region ?_))))
    refine join (fr' := [(1, .int .i64 i), (3, .pointer (some ⟨b1, 0, none⟩)), (5, .pointer (some ⟨b4, 0, none⟩)), (6, .pointer (some ⟨b7, 0, none⟩)), (30, .bool ((decide (i < 0)) || (decide (i ≥ (p.length : Int)))))]) (fun hj_ => ?_) ?_
    · refine sg 3 [1, 3, 5, 6, 24] [(1, .int .i64 i), (3, .pointer (some ⟨b1, 0, none⟩)), (5, .pointer (some ⟨b4, 0, none⟩)), (6, .pointer (some ⟨b7, 0, none⟩)), (24, .bool (decide (i < 0)))] ?_
      rcases bdi (decide (i < 0) : Bool) with h20 | h20
      · have h20p := of_decide_eq_false h20
        rw [h20]
        refine sg 2 [1, 3, 5, 6, 24, 25, 26] [(1, .int .i64 i), (3, .pointer (some ⟨b1, 0, none⟩)), (5, .pointer (some ⟨b4, 0, none⟩)), (6, .pointer (some ⟨b7, 0, none⟩)), (24, .bool false), (25, .int .i64 i), (26, .pointer (some ⟨b1, 0, none⟩))] ?_
        refine ld M14 2 27 (.slice A p.length c) ?_
        refine sg 3 [1, 3, 5, 6, 30] [(1, .int .i64 i), (3, .pointer (some ⟨b1, 0, none⟩)), (5, .pointer (some ⟨b4, 0, none⟩)), (6, .pointer (some ⟨b7, 0, none⟩)), (30, .bool (decide (i ≥ (p.length : Int))))] ?_
        refine to_end rfl ?_
        rw [show ((decide (i < 0)) || (decide (i ≥ (p.length : Int))) : Bool) = (decide (i ≥ (p.length : Int))) from by (simp only [h20, Bool.true_or, Bool.false_or, Bool.or_true, Bool.or_false, Bool.true_and, Bool.false_and, Bool.and_true, Bool.and_false, Bool.not_true, Bool.not_false, cond_true, cond_false, if_true, reduceIte]) <;> rfl] at hj_
        exact hj_.sub (Sub.cons rfl (Sub.cons rfl (Sub.cons rfl (Sub.cons rfl (Sub.cons rfl (Sub.nil _))))))
      · have h20p := of_decide_eq_true h20
        rw [h20]
        refine sg 6 [1, 3, 5, 6, 30] [(1, .int .i64 i), (3, .pointer (some ⟨b1, 0, none⟩)), (5, .pointer (some ⟨b4, 0, none⟩)), (6, .pointer (some ⟨b7, 0, none⟩)), (30, .bool true)] ?_
        refine to_end rfl ?_
        rw [show ((decide (i < 0)) || (decide (i ≥ (p.length : Int))) : Bool) = true from by (simp only [h20, Bool.true_or, Bool.false_or, Bool.or_true, Bool.or_false, Bool.true_and, Bool.false_and, Bool.and_true, Bool.and_false, Bool.not_true, Bool.not_false, cond_true, cond_false, if_true, reduceIte]) <;> rfl] at hj_
        exact hj_.sub (Sub.cons rfl (Sub.cons rfl (Sub.cons rfl (Sub.cons rfl (Sub.cons rfl (Sub.nil _))))))
    refine tn_code ?_
    refine tc_cond (b := (decide (i < 0)) || (decide (i ≥ (p.length : Int)))) (fun _ => rfl) (fun h21 => ?_) (fun h21 => ?_)
    · have h21p := h21
      simp only [Bool.or_eq_true, Bool.and_eq_true, Bool.or_eq_false_iff, Bool.and_eq_false_iff, decide_eq_true_eq, decide_eq_false_iff_not, beq_iff_eq, bne_iff_ne, beq_eq_false_iff_ne, bne_eq_false_iff_eq, Bool.not_eq_true', Bool.not_eq_false', ne_eq] at h21p
      refine tc_seq (tc_region ?_)
      refine sg 1 [6, 31] [(6, .pointer (some ⟨b7, 0, none⟩)), (31, .agg #[.slice none 0 0])] ?_
      refine sa M14 0 #[.slice none 0 0] fun w22 M23 => ?_
      refine sg 1 [6, 7] [(6, .pointer (some ⟨b7, 0, none⟩)), (7, .int .i64 3)] ?_
      refine to_end rfl (tn_code (tc_ret ?_))
      refine tr_cell_tmp M23 0 rfl rfl rfl rfl Try.underlying45 rfl (by kernel_rfl) ?_
      have he : swapOf p i f = ([], 3) := (if_neg (by have h_ := h17p; rintro (h1_ | h1_) <;> simp_all)).trans (if_pos (by omega))
      rw [he]
      exact ⟨none, 0, rfl, ((((M23.drop 2).drop 1).drop 0)).nilrow kFn 57⟩
    · have h21p := h21
      simp only [Bool.or_eq_true, Bool.and_eq_true, Bool.or_eq_false_iff, Bool.and_eq_false_iff, decide_eq_true_eq, decide_eq_false_iff_not, beq_iff_eq, bne_iff_ne, beq_eq_false_iff_ne, bne_eq_false_iff_eq, Bool.not_eq_true', Bool.not_eq_false', ne_eq] at h21p
      refine tc_skip (tn_code (tc_seq (tc_seq ?_)))
      refine tc_drawL (fun w' => Mem w w' ([blk b7 #[.slice none 0 0] 45, blk b4 #[.int .i64 f.args, .slice Af f.code.length cf] 57, blk b1 #[.slice A p.length c] 45])) [] (by kernel_rfl) ?_
      have M27 := M14.draw
      refine ty_take 0 32 (.pointer (some ⟨b1, 0, none⟩)) (pok_cont pok_body) ?_ M27 (fun _ _ _ => by kernel_rfl)
      refine ty_take 1 33 (.slice A p.length c) (pok_cont pok_body) ?_ M27 (fun _ M' _ => rl M' 2)
      refine ty_take 2 34 (.int .i64 i) (pok_cont pok_body) ?_ M27 (fun _ _ _ => by kernel_rfl)
      obtain ⟨n28, rfl⟩ := Int.eq_ofNat_of_zero_le (show 0 ≤ i by omega)
      obtain ⟨ad29, rfl⟩ := C_some hC (k := n28) (by omega)
      refine ty_take 3 35 (.pointer (some (ad29.add (n28 * 2)))) (pok_cont pok_body) ?_ M27 (fun _ _ _ => ri (ad := ad29) (n := p.length) (c := c) n28 2 (by omega) Try.underlying43)
      refine ty_take 4 36 (.pointer (some (ad29.add (n28 * 2)))) (pok_cont pok_body) ?_ M27 (fun _ _ _ => by kernel_rfl)
      obtain ⟨cs32, hk30, hc31⟩ := C_cell hC Fn.z n28 (by omega)
      obtain ⟨A33, c34, rfl, hl35, hC36⟩ := kFn_open hk30
      refine ty_take 5 37 (.int .i64 (p.getD n28 Fn.z).args) (pok_cont pok_body) ?_ M27 (fun _ M' _ => re (cell_up M' (hc31 0 _ rfl)))
      refine ty_take 6 38 (.pointer (some ⟨b4, 0, none⟩)) (pok_cont pok_body) ?_ M27 (fun _ _ _ => by kernel_rfl)
      refine ty_take 7 39 (.int .i64 f.args) (pok_cont pok_body) ?_ M27 (fun _ M' _ => rl M' 1)
      refine ty_take 8 40 (.bool ((p.getD n28 Fn.z).args != f.args)) (pok_cont pok_body) ?_ M27 (fun _ _ _ => by kernel_rfl)
      refine ty_endL ?_
      refine tn_code ?_
      refine tc_cond (b := (p.getD n28 Fn.z).args != f.args) (fun _ => rfl) (fun h37 => ?_) (fun h37 => ?_)
      · have h37p := bne_iff_ne.1 h37
        refine tc_seq (tc_region ?_)
        refine sg 1 [6, 41] [(6, .pointer (some ⟨b7, 0, none⟩)), (41, .agg #[.slice none 0 0])] ?_
        refine sa M27 0 #[.slice none 0 0] fun w38 M39 => ?_
        refine sg 1 [6, 7] [(6, .pointer (some ⟨b7, 0, none⟩)), (7, .int .i64 9)] ?_
        refine to_end rfl (tn_code (tc_ret ?_))
        refine tr_cell_tmp M39 0 rfl rfl rfl rfl Try.underlying45 rfl (by kernel_rfl) ?_
        have he : swapOf p (n28 : Int) f = ([], 9) := (if_neg (by have h_ := h17p; rintro (h1_ | h1_) <;> simp_all)).trans ((if_neg (by omega)).trans (if_pos (by have h_ := bne_iff_ne.1 h37; simpa using h_)))
        rw [he]
        exact ⟨none, 0, rfl, ((((M39.drop 2).drop 1).drop 0)).nilrow kFn 57⟩
      · have h37p := bne_eq_false_iff_eq.1 h37
        refine tc_skip (tn_code (tc_seq (tc_region ?_)))
        refine la M27 2 42 #[.slice (some ad29) p.length c] (hu := Try.underlying45) ?_
        refine ce 43 (own_any p (some ad29) c _ (C_up M27 hC) (few_of_may (by have h_ := h17p; exact h_.1))) fun e40 w41 h42 => ?_
        obtain ⟨A43, c44, rfl, hM45⟩ := h42
        have M46 := M27.join hM45
        refine ⟨_, rfl, ?_⟩
        refine nw M46 10 #[.slice none 0 0] 45 fun b47 w48 M49 => ?_
        refine sa M49 0 #[.slice A43 p.length c44] fun w50 M51 => ?_
        refine to_end rfl (tn_code (tc_seq ?_))
        refine tc_drawL (fun w' => Mem w w' ([blk b47 #[.slice A43 p.length c44] 45, row kFn 57 (.slice A43 p.length c44) p, blk b7 #[.slice none 0 0] 45, blk b4 #[.int .i64 f.args, .slice Af f.code.length cf] 57, blk b1 #[.slice (some ad29) p.length c] 45])) [10] (by kernel_rfl) ?_
        have M54 := M51.draw
        refine ty_take 0 44 (.pointer (some ⟨b47, 0, none⟩)) (pok_cont pok_body) ?_ M54 (fun _ _ _ => by kernel_rfl)
        refine ty_take 1 45 (.slice A43 p.length c44) (pok_cont pok_body) ?_ M54 (fun _ M' _ => rl M' 0)
        refine ty_take 2 46 (.int .i64 (n28 : Int)) (pok_cont pok_body) ?_ M54 (fun _ _ _ => by kernel_rfl)
        refine ty_take 3 47 (.pointer (some ⟨b4, 0, none⟩)) (pok_cont pok_body) ?_ M54 (fun _ _ _ => by kernel_rfl)
        refine ty_take 4 48 (.int .i64 f.args) (pok_cont pok_body) ?_ M54 (fun _ M' _ => rl M' 3)
        refine ty_take 5 49 (.pointer (some ⟨b4, 1, none⟩)) (pok_cont pok_body) ?_ M54 (fun _ _ _ => by kernel_rfl)
        refine ty_take 6 50 (.slice Af f.code.length cf) (pok_cont pok_body) ?_ M54 (fun _ M' _ => rl M' 3)
        refine ty_all (rs := [7]) (te_one ?_)
        have M55 := M54.nilrow kInst 65
        refine te_apC (z := .agg Inst.z.cs) (bytes := 56) (c := cf) M55 51 flatInst (C_up M55 hF) Try.underlying55 ?_ (fun _ _ _ M_ _ _ => (M_.drop 0)) fun A56 c57 w58 M59 => ?_
        · have h_ := (fnMay_bd (f := ⟨0, f.code⟩) (by have h_ := h17p; exact h_.2)).2.2.2.1; simp only [List.length_append, List.length_cons, List.length_nil]; have h2_ : f.code.length ≤ 64 := h_; omega
        refine ty_take 8 52 (.agg #[.int .i64 f.args, .slice A56 ([] ++ f.code).length c57]) (pok_cont pok_body) ?_ (M59.drop 0) (fun _ _ _ => by kernel_rfl)
        obtain ⟨ad60, rfl⟩ := C_some (M59.row_C 2 rfl) (k := n28) (by omega)
        refine ty_take 9 53 (.pointer (some (ad60.add (n28 * 2)))) (pok_cont pok_body) ?_ (M59.drop 0) (fun _ _ _ => ri (ad := ad60) (n := p.length) (c := c44) n28 2 (by omega) Try.underlying43)
        refine ty_all (rs := [10]) (te_one ?_)
        have M61 := kFn_M (x := (⟨f.args, ([] ++ f.code)⟩ : Fn)) M59
        have M62 := M61.front 2 rfl
        refine te_rset (x := (⟨f.args, ([] ++ f.code)⟩ : Fn)) (vs := #[.int .i64 f.args, .slice A56 ([] ++ f.code).length c57]) M62 Fn.z n28 (by omega) (fun _ _ h_ _ => absurd (by decide) h_) fun w63 M64 => ?_
        refine ty_endL ?_
        refine tn_code (tc_seq (tc_region ?_))
        refine la M64 1 54 #[.slice (some ad60) p.length c44] (hu := Try.underlying45) ?_
        refine sa M64 2 #[.slice (some ad60) p.length c44] fun w65 M66 => ?_
        refine sg 1 [6, 7] [(6, .pointer (some ⟨b7, 0, none⟩)), (7, .int .i64 0)] ?_
        refine to_end rfl (tn_code (tc_ret ?_))
        refine tr_cell_tmp M66 2 rfl rfl rfl rfl Try.underlying45 rfl (by kernel_rfl) ?_
        have he : swapOf p (n28 : Int) f = (p.set n28 f, 0) := (if_neg (by have h_ := h17p; rintro (h1_ | h1_) <;> simp_all)).trans ((if_neg (by omega)).trans (if_neg (by have h_ := bne_eq_false_iff_eq.1 h37; simpa using h_)))
        have hx68 : (p.set n28 (⟨f.args, ([] ++ f.code)⟩ : Fn)) = p.set n28 f := by simp
        have M67 := ((((M66.drop 4).drop 3).drop 2).drop 1)
        rw [hx68] at M67
        rw [he]
        simp only [List.length_set]
        exact ⟨_, _, rfl, M67⟩
end Go.Proofs.Ytfknhbgghpbkpaa
