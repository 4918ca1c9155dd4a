/- The law ProgSame: its walk. -/
import Derived.Test.YtfknhbgghpbkpaaSameSet
namespace Go.Proofs.Ytfknhbgghpbkpaa
open Go.RowKit Cal Go.Proofs.YtfknhbgghpbkpaaW.PrintWords
theorem samelaw_any (p : List Fn) (i k : Int) (x : Inst) (A : Option Addr) (c : Nat) (w : World) (hC : kFn.C w A p.length p) (hcp : p.length ≤ c) (hop : ∀ f ∈ p, f.ok) (hox : x.ok) : Calls Try.prog 8 #[.agg #[.slice A p.length c], .int .i64 i, .int .i64 k, .agg x.cs] w fun e w' => e = .returned (.bool true) ∧ Below w.heap.size w w' := by
  have M := Mem.refl w
  have hmx := C_max hC
  refine calls_tc (N := 124) (args := [.agg #[.slice A p.length c], .int .i64 i, .int .i64 k, .agg x.cs]) Try.func8 rfl rfl rfl ?_
  refine tc_seq (tc_region ?_)
  refine nw M 4 #[.slice A p.length c] 45 fun b1 w2 M3 => ?_
  refine nw M3 7 x.cs 65 fun b4 w5 M6 => ?_
  refine sg 1 [1, 2, 4, 7] [(1, .int .i64 i), (2, .int .i64 k), (4, .pointer (some ⟨b1, 0, none⟩)), (7, .pointer (some ⟨b4, 0, none⟩))] ?_
  refine to_end rfl (tn_code (tc_seq (tc_region ?_)))
  refine cb M6 17 (awake_any _) fun w7 hb9 M8 => ?_
  refine sg 1 [1, 2, 4, 7, 9] [(1, .int .i64 i), (2, .int .i64 k), (4, .pointer (some ⟨b1, 0, none⟩)), (7, .pointer (some ⟨b4, 0, none⟩)), (9, .bool true)] ?_
  refine to_end rfl (tn_code (tc_seq (tc_region ?_)))
  refine la M8 1 18 #[.slice A p.length c] (hu := Try.underlying45) ?_
  refine cb M8 19 (few_any p A c _ (C_up M8 hC)) fun w10 hb12 M11 => ?_
  refine sg 1 [1, 2, 4, 7, 9, 10] [(1, .int .i64 i), (2, .int .i64 k), (4, .pointer (some ⟨b1, 0, none⟩)), (7, .pointer (some ⟨b4, 0, none⟩)), (9, .bool true), (10, .bool (fewB p))] ?_
  refine to_end rfl (tn_code (tc_seq (tc_seq ?_)))
  refine tc_drawL (fun w' => Mem w w' ([blk b4 x.cs 65, blk b1 #[.slice A p.length c] 45])) [] (by kernel_rfl) ?_
  have M15 := M11.draw
  refine ty_take 0 20 (.bool true) (pok_cont pok_body) ?_ M15 (fun _ _ _ => by kernel_rfl)
  refine ty_take 1 21 (.bool false) (pok_cont pok_body) ?_ M15 (fun _ _ _ => by kernel_rfl)
  refine ty_take 2 22 (.bool false) (pok_cont pok_body) ?_ M15 (fun _ _ _ => by kernel_rfl)
  refine ty_take 3 23 (.bool (fewB p)) (pok_cont pok_body) ?_ M15 (fun _ _ _ => by kernel_rfl)
  refine ty_take 4 24 (.bool (!(fewB p))) (pok_cont pok_body) ?_ M15 (fun _ _ _ => by kernel_rfl)
  refine ty_take 5 25 (.bool (!(fewB p))) (pok_cont pok_body) ?_ M15 (fun _ _ _ => by kernel_rfl)
  refine ty_take 6 26 (.bool (!(fewB p))) (pok_cont pok_body) ?_ M15 (fun _ _ _ => by kernel_rfl)
  rcases h16 : (fewB p : Bool) with _ | _
  · refine ty_pass 7 27 (pok_cont pok_body) ?_ M15
    refine ty_pass 8 28 (pok_cont pok_body) ?_ M15
    refine ty_take 9 29 (.bool true) (pok_cont pok_body) ?_ M15 (fun _ _ _ => by kernel_rfl)
    refine ty_take 10 30 (.bool true) (pok_cont pok_body) ?_ M15 (fun _ _ _ => by kernel_rfl)
    refine ty_pass 11 31 (pok_cont pok_body) ?_ M15
    refine ty_pass 12 32 (pok_cont pok_body) ?_ M15
    refine ty_pass 13 33 (pok_cont pok_body) ?_ M15
    refine ty_pass 14 34 (pok_cont pok_body) ?_ M15
    refine ty_pass 15 35 (pok_cont pok_body) ?_ M15
    refine ty_take 16 36 (.bool true) (pok_cont pok_body) ?_ M15 (fun _ _ _ => by kernel_rfl)
    refine ty_take 17 37 (.bool true) (pok_cont pok_body) ?_ M15 (fun _ _ _ => by kernel_rfl)
    refine ty_pass 18 38 (pok_cont pok_body) ?_ M15
    refine ty_pass 19 39 (pok_cont pok_body) ?_ M15
    refine ty_take 20 40 (.bool true) (pok_cont pok_body) ?_ M15 (fun _ _ _ => by kernel_rfl)
    refine ty_take 21 41 (.bool true) (pok_cont pok_body) ?_ M15 (fun _ _ _ => by kernel_rfl)
    refine ty_pass 22 42 (pok_cont pok_body) ?_ M15
    refine ty_pass 23 43 (pok_cont pok_body) ?_ M15
    refine ty_pass 24 44 (pok_cont pok_body) ?_ M15
    refine ty_pass 25 45 (pok_cont pok_body) ?_ M15
    refine ty_pass 26 46 (pok_cont pok_body) ?_ M15
    refine ty_pass 27 47 (pok_cont pok_body) ?_ M15
    refine ty_pass 28 48 (pok_cont pok_body) ?_ M15
    refine ty_pass 29 49 (pok_cont pok_body) ?_ M15
    refine ty_pass 30 50 (pok_cont pok_body) ?_ M15
    refine ty_take 31 51 (.bool true) (pok_cont pok_body) ?_ M15 (fun _ _ _ => by kernel_rfl)
    refine ty_take 32 52 (.bool true) (pok_cont pok_body) ?_ M15 (fun _ _ _ => by kernel_rfl)
    refine ty_pass 33 53 (pok_cont pok_body) ?_ M15
    refine ty_pass 34 54 (pok_cont pok_body) ?_ M15
    refine ty_pass 35 55 (pok_cont pok_body) ?_ M15
    refine ty_pass 36 56 (pok_cont pok_body) ?_ M15
    refine ty_pass 37 57 (pok_cont pok_body) ?_ M15
    refine ty_pass 38 58 (pok_cont pok_body) ?_ M15
    refine ty_pass 39 59 (pok_cont pok_body) ?_ M15
    refine ty_pass 40 60 (pok_cont pok_body) ?_ M15
    refine ty_pass 41 61 (pok_cont pok_body) ?_ M15
    refine ty_pass 42 62 (pok_cont pok_body) ?_ M15
    refine ty_pass 43 63 (pok_cont pok_body) ?_ M15
    refine ty_take 44 64 (.bool true) (pok_cont pok_body) ?_ M15 (fun _ _ _ => by kernel_rfl)
    refine ty_endL ?_
    refine tn_code (tc_cond_t (fun _ => rfl) (tc_seq (tc_region ?_)))
    refine sg 2 [8] [(8, .bool true)] ?_
    refine to_end rfl (tn_code (tc_ret ?_))
    refine tr_tmp rfl rfl ?_
    exact ⟨rfl, M15.below⟩
  · refine ty_take 7 27 (.int .i64 i) (pok_cont pok_body) ?_ M15 (fun _ _ _ => by kernel_rfl)
    refine ty_take 8 28 (.bool (decide (i < 0))) (pok_cont pok_body) ?_ M15 (fun _ _ _ => by kernel_rfl)
    refine ty_take 9 29 (.bool (decide (i < 0))) (pok_cont pok_body) ?_ M15 (fun _ _ _ => by kernel_rfl)
    refine ty_take 10 30 (.bool (decide (i < 0))) (pok_cont pok_body) ?_ M15 (fun _ _ _ => by kernel_rfl)
    rcases h17 : (decide (i < 0) : Bool) with _ | _
    · have h17p := of_decide_eq_false h17
      refine ty_take 11 31 (.int .i64 i) (pok_cont pok_body) ?_ M15 (fun _ _ _ => by kernel_rfl)
      refine ty_take 12 32 (.pointer (some ⟨b1, 0, none⟩)) (pok_cont pok_body) ?_ M15 (fun _ _ _ => by kernel_rfl)
      refine ty_take 13 33 (.slice A p.length c) (pok_cont pok_body) ?_ M15 (fun _ M' _ => rl M' 1)
      refine ty_take 14 34 (.int .i64 (p.length : Int)) (pok_cont pok_body) ?_ M15 (fun _ _ _ => by kernel_rfl)
      refine ty_take 15 35 (.bool (decide (i ≥ (p.length : Int)))) (pok_cont pok_body) ?_ M15 (fun _ _ _ => by kernel_rfl)
      refine ty_take 16 36 (.bool (decide (i ≥ (p.length : Int)))) (pok_cont pok_body) ?_ M15 (fun _ _ _ => by kernel_rfl)
      refine ty_take 17 37 (.bool (decide (i ≥ (p.length : Int)))) (pok_cont pok_body) ?_ M15 (fun _ _ _ => by kernel_rfl)
      rcases h18 : (decide (i ≥ (p.length : Int)) : Bool) with _ | _
      · have h18p := of_decide_eq_false h18
        refine ty_take 18 38 (.int .i64 k) (pok_cont pok_body) ?_ M15 (fun _ _ _ => by kernel_rfl)
        refine ty_take 19 39 (.bool (decide (k < 0))) (pok_cont pok_body) ?_ M15 (fun _ _ _ => by kernel_rfl)
        refine ty_take 20 40 (.bool (decide (k < 0))) (pok_cont pok_body) ?_ M15 (fun _ _ _ => by kernel_rfl)
        refine ty_take 21 41 (.bool (decide (k < 0))) (pok_cont pok_body) ?_ M15 (fun _ _ _ => by kernel_rfl)
        rcases h19 : (decide (k < 0) : Bool) with _ | _
        · have h19p := of_decide_eq_false h19
          refine ty_take 22 42 (.int .i64 k) (pok_cont pok_body) ?_ M15 (fun _ _ _ => by kernel_rfl)
          refine ty_take 23 43 (.pointer (some ⟨b1, 0, none⟩)) (pok_cont pok_body) ?_ M15 (fun _ _ _ => by kernel_rfl)
          refine ty_take 24 44 (.slice A p.length c) (pok_cont pok_body) ?_ M15 (fun _ M' _ => rl M' 1)
          refine ty_take 25 45 (.int .i64 i) (pok_cont pok_body) ?_ M15 (fun _ _ _ => by kernel_rfl)
          obtain ⟨n20, rfl⟩ := Int.eq_ofNat_of_zero_le (show 0 ≤ i by omega)
          obtain ⟨ad21, rfl⟩ := C_some hC (k := n20) (by omega)
          refine ty_take 26 46 (.pointer (some (ad21.add (n20 * 2)))) (pok_cont pok_body) ?_ M15 (fun _ _ _ => ri (ad := ad21) (n := p.length) (c := c) n20 2 (by omega) Try.underlying43)
          refine ty_take 27 47 (.pointer (some ((ad21.add (n20 * 2)).add 1))) (pok_cont pok_body) ?_ M15 (fun _ _ _ => by kernel_rfl)
          obtain ⟨cs24, hk22, hc23⟩ := C_cell hC Fn.z n20 (by omega)
          obtain ⟨A25, c26, rfl, hl27, hC28⟩ := kFn_open hk22
          refine ty_take 28 48 (.slice A25 (p.getD n20 Fn.z).code.length c26) (pok_cont pok_body) ?_ M15 (fun _ M' _ => re (cell_up M' (hc23 1 _ rfl)))
          refine ty_take 29 49 (.int .i64 ((p.getD n20 Fn.z).code.length : Int)) (pok_cont pok_body) ?_ M15 (fun _ _ _ => by kernel_rfl)
          refine ty_take 30 50 (.bool (decide (k ≥ ((p.getD n20 Fn.z).code.length : Int)))) (pok_cont pok_body) ?_ M15 (fun _ _ _ => by kernel_rfl)
          refine ty_take 31 51 (.bool (decide (k ≥ ((p.getD n20 Fn.z).code.length : Int)))) (pok_cont pok_body) ?_ M15 (fun _ _ _ => by kernel_rfl)
          refine ty_take 32 52 (.bool (decide (k ≥ ((p.getD n20 Fn.z).code.length : Int)))) (pok_cont pok_body) ?_ M15 (fun _ _ _ => by kernel_rfl)
          rcases h29 : (decide (k ≥ ((p.getD n20 Fn.z).code.length : Int)) : Bool) with _ | _
          · have h29p := of_decide_eq_false h29
            refine ty_take 33 53 (.pointer (some ⟨b1, 0, none⟩)) (pok_cont pok_body) ?_ M15 (fun _ _ _ => by kernel_rfl)
            refine ty_take 34 54 (.slice (some ad21) p.length c) (pok_cont pok_body) ?_ M15 (fun _ M' _ => rl M' 1)
            refine ty_take 35 55 (.int .i64 (n20 : Int)) (pok_cont pok_body) ?_ M15 (fun _ _ _ => by kernel_rfl)
            refine ty_take 36 56 (.pointer (some (ad21.add (n20 * 2)))) (pok_cont pok_body) ?_ M15 (fun _ _ _ => ri (ad := ad21) (n := p.length) (c := c) n20 2 (by omega) Try.underlying43)
            refine ty_take 37 57 (.pointer (some ((ad21.add (n20 * 2)).add 1))) (pok_cont pok_body) ?_ M15 (fun _ _ _ => by kernel_rfl)
            refine ty_take 38 58 (.slice A25 (p.getD n20 Fn.z).code.length c26) (pok_cont pok_body) ?_ M15 (fun _ M' _ => re (cell_up M' (hc23 1 _ rfl)))
            refine ty_take 39 59 (.int .i64 k) (pok_cont pok_body) ?_ M15 (fun _ _ _ => by kernel_rfl)
            obtain ⟨n30, rfl⟩ := Int.eq_ofNat_of_zero_le (show 0 ≤ k by omega)
            obtain ⟨ad31, rfl⟩ := C_some hC28 (k := n30) (by omega)
            refine ty_take 40 60 (.pointer (some (ad31.add (n30 * 7)))) (pok_cont pok_body) ?_ M15 (fun _ _ _ => ri (ad := ad31) (n := (p.getD n20 Fn.z).code.length) (c := c26) n30 7 (by omega) Try.underlying55)
            obtain ⟨cs34, hk32, hc33⟩ := C_cell hC28 Inst.z n30 (by omega)
            obtain rfl := kInst_open hk32
            refine ty_take 41 61 (.agg ((p.getD n20 Fn.z).code.getD n30 Inst.z).cs) (pok_cont pok_body) ?_ M15 (fun _ M' _ => rea (vs := ((p.getD n20 Fn.z).code.getD n30 Inst.z).cs) (fun j u hj => cell_up M' (hc33 j u hj)) Try.underlying65)
            refine ty_take 42 62 (.agg x.cs) (pok_cont pok_body) ?_ M15 (fun _ M' _ => rla M' 0 (vs := x.cs) Try.underlying65)
            refine ty_take 43 63 (.bool (decide (((p.getD n20 Fn.z).code.getD n30 Inst.z) = x))) (pok_cont pok_body) ?_ M15 (fun w' _ _ => rq (eql_inst ((p.getD n20 Fn.z).code.getD n30 Inst.z) x w') (by kernel_rfl))
            refine ty_take 44 64 (.bool (decide (((p.getD n20 Fn.z).code.getD n30 Inst.z) = x))) (pok_cont pok_body) ?_ M15 (fun _ _ _ => by kernel_rfl)
            refine ty_endL ?_
            refine tn_code ?_
            refine tc_cond (b := decide (((p.getD n20 Fn.z).code.getD n30 Inst.z) = x)) (fun _ => rfl) (fun h35 => ?_) (fun h35 => ?_)
            · have h35p := of_decide_eq_true h35
              refine tc_seq (tc_region ?_)
              refine sg 2 [8] [(8, .bool true)] ?_
              refine to_end rfl (tn_code (tc_ret ?_))
              refine tr_tmp rfl rfl ?_
              exact ⟨rfl, M15.below⟩
            · have h35p := of_decide_eq_false h35
              refine tc_skip (tn_code (tc_seq (tc_region ?_)))
              refine la M15 1 66 #[.slice (some ad21) p.length c] (hu := Try.underlying45) ?_
              refine ce 67 (own_apart p (some ad21) c _ (C_up M15 hC) h16) fun e42 w43 h44 => ?_
              obtain ⟨A36, c37, vs38, rfl, hM39, hok40⟩ := h44
              rw [hok40.1] at hM39
              have hvl_ := hok40.1
              have M41 := M15.join hM39
              refine ⟨_, rfl, ?_⟩
              refine nw M41 11 #[.slice none 0 0] 45 fun b45 w46 M47 => ?_
              refine sa M47 0 #[.slice A36 p.length c37] fun w48 M49 => ?_
              refine to_end rfl (tn_code (tc_seq ?_))
              refine tc_drawL (fun w' => Mem w w' ([blk b45 #[.slice A36 p.length c37] 45, row kRaw 57 (.slice A36 p.length c37) vs38, star (codes vs38 p), blk b4 x.cs 65, blk b1 #[.slice (some ad21) p.length c] 45])) [9] (by kernel_rfl) ?_
              have M52 := M49.draw
              refine ty_take 0 68 (.pointer (some ⟨b45, 0, none⟩)) (pok_cont pok_body) ?_ M52 (fun _ _ _ => by kernel_rfl)
              refine ty_take 1 69 (.slice A36 p.length c37) (pok_cont pok_body) ?_ M52 (fun _ M' _ => rl M' 0)
              refine ty_take 2 70 (.int .i64 (n20 : Int)) (pok_cont pok_body) ?_ M52 (fun _ _ _ => by kernel_rfl)
              obtain ⟨ad53, rfl⟩ := C_some (M52.row_C 1 rfl) (k := n20) (by omega)
              refine ty_take 3 71 (.pointer (some (ad53.add (n20 * 2)))) (pok_cont pok_body) ?_ M52 (fun _ _ _ => ri (ad := ad53) (n := p.length) (c := c37) n20 2 (by omega) Try.underlying43)
              refine ty_take 4 72 (.pointer (some ((ad53.add (n20 * 2)).add 1))) (pok_cont pok_body) ?_ M52 (fun _ _ _ => by kernel_rfl)
              refine ty_take 6 74 (.int .i64 (n30 : Int)) (pok_cont pok_body) ?_ M52 (fun _ _ _ => by kernel_rfl)
              refine ty_take 7 75 (.agg x.cs) (pok_cont pok_body) ?_ M52 (fun _ M' _ => rla M' 3 (vs := x.cs) Try.underlying65)
              refine ty_all (rs := [5]) (te_one ?_)
              obtain ⟨cs54, hk55, hc56⟩ := C_cell (M52.row_C 1 rfl) rawZ n20 (by rw [hok40.1]; omega)
              have hcc59 := code_C hok40.1 (by omega : n20 < p.length) (((((M52.drop 4).drop 3).drop 1).drop 0))
              have hva := (hok40.2 n20 (by omega)).2
              obtain ⟨ad58, hAd⟩ := C_some hcc59.1 (k := 0) (by omega)
              obtain rfl : cs54 = MixE.out (vs38.getD n20 rawZ) := hk55
              unfold MixE.out at hc56
              rw [hAd, hva] at hc56
              refine te_le 73 (.slice (some ad58) (p.getD n20 Fn.z).code.length (vs38.getD n20 rawZ).2.2.2) (hc56 1 _ rfl) ?_
              refine ty_take 8 76 (.pointer (some (ad58.add (n30 * 7)))) (pok_cont pok_body) ?_ M52 (fun _ _ _ => ri (ad := ad58) (n := (p.getD n20 Fn.z).code.length) (c := (vs38.getD n20 rawZ).2.2.2) n30 7 (by omega) Try.underlying55)
              refine ty_all (rs := [9]) (te_one ?_)
              have M60 := M52.front 2 rfl
              refine te_cset M60 x n20 n30 hok40.1 (by omega) (by omega) hAd (fun _ _ h_ _ => absurd (by decide) h_) fun w61 M62 => ?_
              have M63 := M62.front 2 rfl
              have hokq : rawOk vs38 (setI p n20 n30 x) := rawOk_set hok40 rfl (by simp)
              refine ty_endL ?_
              refine tn_code (tc_seq (tc_region ?_))
              refine la M63 4 78 #[.slice (some ad21) p.length c] (hu := Try.underlying45) ?_
              rcases h64 : (progMay p : Bool) with _ | _
              · refine cb M63 79 (put_prog_not p (some ad21) c w61 (C_up M63 hC) h64) fun w65 hb67 M66 => ?_
                refine sg 5 [4, 11, 12, 13] [(4, .pointer (some ⟨b1, 0, none⟩)), (11, .pointer (some ⟨b45, 0, none⟩)), (12, .slice none 0 0), (13, .int .i64 1)] ?_
                refine to_end rfl (tn_code (tc_seq (tc_region ?_)))
                refine la M66 2 83 #[.slice (some ad53) p.length c37] (hu := Try.underlying45) ?_
                rcases h68 : (progMay (setI p n20 n30 x) : Bool) with _ | _
                · refine cb M66 84 (by have h_ := put_prog_not (setI p n20 n30 x) (some ad53) c37 w65 (apart_C hokq (M66)) h68; rw [show (setI p n20 n30 x).length = p.length by simp [setI]] at h_; exact h_) fun w69 hb71 M70 => ?_
                  refine sg 5 [4, 11, 12, 13, 14, 15] [(4, .pointer (some ⟨b1, 0, none⟩)), (11, .pointer (some ⟨b45, 0, none⟩)), (12, .slice none 0 0), (13, .int .i64 1), (14, .slice none 0 0), (15, .int .i64 1)] ?_
                  refine to_end rfl (tn_code (tc_seq (tc_region ?_)))
                  refine sg 20 [4, 11, 16] [(4, .pointer (some ⟨b1, 0, none⟩)), (11, .pointer (some ⟨b45, 0, none⟩)), (16, .bool true)] ?_
                  refine to_end rfl (tn_code (tc_seq (tc_region ?_)))
                  refine la M70 4 106 #[.slice (some ad21) p.length c] (hu := Try.underlying45) ?_
                  refine la M70 4 107 #[.slice (some ad21) p.length c] (hu := Try.underlying45) ?_
                  refine cb M70 108 (psame_any (some ad21) c p (some ad21) c p w69 (C_up M70 hC) (C_up M70 hC)) fun w72 hb74 M73 => ?_
                  refine sg 1 [4, 11, 16, 109] [(4, .pointer (some ⟨b1, 0, none⟩)), (11, .pointer (some ⟨b45, 0, none⟩)), (16, .bool true), (109, .bool (decide (p = p)))] ?_
                  have ht75 : (decide (p = p) : Bool) = true := decide_eq_true rfl
                  have ht75p := of_decide_eq_true ht75
                  rw [ht75]
                  refine la M73 4 110 #[.slice (some ad21) p.length c] (hu := Try.underlying45) ?_
                  refine la M73 2 111 #[.slice (some ad53) p.length c37] (hu := Try.underlying45) ?_
                  refine cb M73 112 (by have h_ := psame_any (some ad21) c p (some ad53) c37 (setI p n20 n30 x) w72 (C_up M73 hC) (apart_C hokq (M73)); rw [show (setI p n20 n30 x).length = p.length by simp [setI]] at h_; exact h_) fun w76 hb78 M77 => ?_
                  refine sg 3 [4, 11, 16, 115] [(4, .pointer (some ⟨b1, 0, none⟩)), (11, .pointer (some ⟨b45, 0, none⟩)), (16, .bool true), (115, .bool (!(decide (p = (setI p n20 n30 x)))))] ?_
                  have ht79 : (decide (p = (setI p n20 n30 x)) : Bool) = false := decide_eq_false (setI_other (by omega) (by omega) (of_decide_eq_false h35))
                  have ht79p := of_decide_eq_false ht79
                  rw [ht79]
                  refine la M77 2 116 #[.slice (some ad53) p.length c37] (hu := Try.underlying45) ?_
                  refine la M77 4 117 #[.slice (some ad21) p.length c] (hu := Try.underlying45) ?_
                  refine cb M77 118 (by have h_ := psame_any (some ad53) c37 (setI p n20 n30 x) (some ad21) c p w76 (apart_C hokq (M77)) (C_up M77 hC); rw [show (setI p n20 n30 x).length = p.length by simp [setI]] at h_; exact h_) fun w80 hb82 M81 => ?_
                  refine sg 3 [16, 121] [(16, .bool true), (121, .bool (!(decide ((setI p n20 n30 x) = p))))] ?_
                  have ht83 : (decide ((setI p n20 n30 x) = p) : Bool) = false := decide_eq_false (fun h_ => setI_other (by omega) (by omega) (of_decide_eq_false h35) h_.symm)
                  have ht83p := of_decide_eq_false ht83
                  rw [ht83]
                  refine sg 3 [8] [(8, .bool true)] ?_
                  refine to_end rfl (tn_code (tc_ret ?_))
                  refine tr_tmp rfl rfl ?_
                  exact ⟨rfl, M81.below⟩
                · refine ce 84 (by have h_ := put_prog (setI p n20 n30 x) (some ad53) c37 w65 (apart_C hokq (M66)) h68; rw [show (setI p n20 n30 x).length = p.length by simp [setI]] at h_; exact h_) fun e84 w85 h86 => ?_
                  obtain ⟨A87, c88, rfl, hM89⟩ := h86
                  have M90 := M66.join hM89
                  refine ⟨_, rfl, ?_⟩
                  refine sg 5 [4, 11, 12, 13, 14, 15] [(4, .pointer (some ⟨b1, 0, none⟩)), (11, .pointer (some ⟨b45, 0, none⟩)), (12, .slice none 0 0), (13, .int .i64 1), (14, .slice A87 (progBytes (setI p n20 n30 x)).length c88), (15, .int .i64 0)] ?_
                  refine to_end rfl (tn_code (tc_seq (tc_region ?_)))
                  refine sg 20 [4, 11, 16] [(4, .pointer (some ⟨b1, 0, none⟩)), (11, .pointer (some ⟨b45, 0, none⟩)), (16, .bool true)] ?_
                  refine to_end rfl (tn_code (tc_seq (tc_region ?_)))
                  refine la M90 5 106 #[.slice (some ad21) p.length c] (hu := Try.underlying45) ?_
                  refine la M90 5 107 #[.slice (some ad21) p.length c] (hu := Try.underlying45) ?_
                  refine cb M90 108 (psame_any (some ad21) c p (some ad21) c p w85 (C_up M90 hC) (C_up M90 hC)) fun w91 hb93 M92 => ?_
                  refine sg 1 [4, 11, 16, 109] [(4, .pointer (some ⟨b1, 0, none⟩)), (11, .pointer (some ⟨b45, 0, none⟩)), (16, .bool true), (109, .bool (decide (p = p)))] ?_
                  have ht94 : (decide (p = p) : Bool) = true := decide_eq_true rfl
                  have ht94p := of_decide_eq_true ht94
                  rw [ht94]
                  refine la M92 5 110 #[.slice (some ad21) p.length c] (hu := Try.underlying45) ?_
                  refine la M92 3 111 #[.slice (some ad53) p.length c37] (hu := Try.underlying45) ?_
                  refine cb M92 112 (by have h_ := psame_any (some ad21) c p (some ad53) c37 (setI p n20 n30 x) w91 (C_up M92 hC) (apart_C hokq (M92.tail)); rw [show (setI p n20 n30 x).length = p.length by simp [setI]] at h_; exact h_) fun w95 hb97 M96 => ?_
                  refine sg 3 [4, 11, 16, 115] [(4, .pointer (some ⟨b1, 0, none⟩)), (11, .pointer (some ⟨b45, 0, none⟩)), (16, .bool true), (115, .bool (!(decide (p = (setI p n20 n30 x)))))] ?_
                  have ht98 : (decide (p = (setI p n20 n30 x)) : Bool) = false := decide_eq_false (setI_other (by omega) (by omega) (of_decide_eq_false h35))
                  have ht98p := of_decide_eq_false ht98
                  rw [ht98]
                  refine la M96 3 116 #[.slice (some ad53) p.length c37] (hu := Try.underlying45) ?_
                  refine la M96 5 117 #[.slice (some ad21) p.length c] (hu := Try.underlying45) ?_
                  refine cb M96 118 (by have h_ := psame_any (some ad53) c37 (setI p n20 n30 x) (some ad21) c p w95 (apart_C hokq (M96.tail)) (C_up M96 hC); rw [show (setI p n20 n30 x).length = p.length by simp [setI]] at h_; exact h_) fun w99 hb101 M100 => ?_
                  refine sg 3 [16, 121] [(16, .bool true), (121, .bool (!(decide ((setI p n20 n30 x) = p))))] ?_
                  have ht102 : (decide ((setI p n20 n30 x) = p) : Bool) = false := decide_eq_false (fun h_ => setI_other (by omega) (by omega) (of_decide_eq_false h35) h_.symm)
                  have ht102p := of_decide_eq_false ht102
                  rw [ht102]
                  refine sg 3 [8] [(8, .bool true)] ?_
                  refine to_end rfl (tn_code (tc_ret ?_))
                  refine tr_tmp rfl rfl ?_
                  exact ⟨rfl, M100.below⟩
              · refine ce 79 (put_prog p (some ad21) c w61 (C_up M63 hC) h64) fun e103 w104 h105 => ?_
                obtain ⟨A106, c107, rfl, hM108⟩ := h105
                have M109 := M63.join hM108
                refine ⟨_, rfl, ?_⟩
                refine sg 5 [4, 11, 12, 13] [(4, .pointer (some ⟨b1, 0, none⟩)), (11, .pointer (some ⟨b45, 0, none⟩)), (12, .slice A106 (progBytes p).length c107), (13, .int .i64 0)] ?_
                refine to_end rfl (tn_code (tc_seq (tc_region ?_)))
                refine la M109 3 83 #[.slice (some ad53) p.length c37] (hu := Try.underlying45) ?_
                rcases h110 : (progMay (setI p n20 n30 x) : Bool) with _ | _
                · refine cb M109 84 (by have h_ := put_prog_not (setI p n20 n30 x) (some ad53) c37 w104 (apart_C hokq (M109.tail)) h110; rw [show (setI p n20 n30 x).length = p.length by simp [setI]] at h_; exact h_) fun w111 hb113 M112 => ?_
                  refine sg 5 [4, 11, 12, 13, 14, 15] [(4, .pointer (some ⟨b1, 0, none⟩)), (11, .pointer (some ⟨b45, 0, none⟩)), (12, .slice A106 (progBytes p).length c107), (13, .int .i64 0), (14, .slice none 0 0), (15, .int .i64 1)] ?_
                  refine to_end rfl (tn_code (tc_seq (tc_region ?_)))
                  refine sg 20 [4, 11, 16] [(4, .pointer (some ⟨b1, 0, none⟩)), (11, .pointer (some ⟨b45, 0, none⟩)), (16, .bool true)] ?_
                  refine to_end rfl (tn_code (tc_seq (tc_region ?_)))
                  refine la M112 5 106 #[.slice (some ad21) p.length c] (hu := Try.underlying45) ?_
                  refine la M112 5 107 #[.slice (some ad21) p.length c] (hu := Try.underlying45) ?_
                  refine cb M112 108 (psame_any (some ad21) c p (some ad21) c p w111 (C_up M112 hC) (C_up M112 hC)) fun w114 hb116 M115 => ?_
                  refine sg 1 [4, 11, 16, 109] [(4, .pointer (some ⟨b1, 0, none⟩)), (11, .pointer (some ⟨b45, 0, none⟩)), (16, .bool true), (109, .bool (decide (p = p)))] ?_
                  have ht117 : (decide (p = p) : Bool) = true := decide_eq_true rfl
                  have ht117p := of_decide_eq_true ht117
                  rw [ht117]
                  refine la M115 5 110 #[.slice (some ad21) p.length c] (hu := Try.underlying45) ?_
                  refine la M115 3 111 #[.slice (some ad53) p.length c37] (hu := Try.underlying45) ?_
                  refine cb M115 112 (by have h_ := psame_any (some ad21) c p (some ad53) c37 (setI p n20 n30 x) w114 (C_up M115 hC) (apart_C hokq (M115.tail)); rw [show (setI p n20 n30 x).length = p.length by simp [setI]] at h_; exact h_) fun w118 hb120 M119 => ?_
                  refine sg 3 [4, 11, 16, 115] [(4, .pointer (some ⟨b1, 0, none⟩)), (11, .pointer (some ⟨b45, 0, none⟩)), (16, .bool true), (115, .bool (!(decide (p = (setI p n20 n30 x)))))] ?_
                  have ht121 : (decide (p = (setI p n20 n30 x)) : Bool) = false := decide_eq_false (setI_other (by omega) (by omega) (of_decide_eq_false h35))
                  have ht121p := of_decide_eq_false ht121
                  rw [ht121]
                  refine la M119 3 116 #[.slice (some ad53) p.length c37] (hu := Try.underlying45) ?_
                  refine la M119 5 117 #[.slice (some ad21) p.length c] (hu := Try.underlying45) ?_
                  refine cb M119 118 (by have h_ := psame_any (some ad53) c37 (setI p n20 n30 x) (some ad21) c p w118 (apart_C hokq (M119.tail)) (C_up M119 hC); rw [show (setI p n20 n30 x).length = p.length by simp [setI]] at h_; exact h_) fun w122 hb124 M123 => ?_
                  refine sg 3 [16, 121] [(16, .bool true), (121, .bool (!(decide ((setI p n20 n30 x) = p))))] ?_
                  have ht125 : (decide ((setI p n20 n30 x) = p) : Bool) = false := decide_eq_false (fun h_ => setI_other (by omega) (by omega) (of_decide_eq_false h35) h_.symm)
                  have ht125p := of_decide_eq_false ht125
                  rw [ht125]
                  refine sg 3 [8] [(8, .bool true)] ?_
                  refine to_end rfl (tn_code (tc_ret ?_))
                  refine tr_tmp rfl rfl ?_
                  exact ⟨rfl, M123.below⟩
                · refine ce 84 (by have h_ := put_prog (setI p n20 n30 x) (some ad53) c37 w104 (apart_C hokq (M109.tail)) h110; rw [show (setI p n20 n30 x).length = p.length by simp [setI]] at h_; exact h_) fun e126 w127 h128 => ?_
                  obtain ⟨A129, c130, rfl, hM131⟩ := h128
                  have M132 := M109.join hM131
                  refine ⟨_, rfl, ?_⟩
                  refine sg 5 [4, 11, 12, 13, 14, 15] [(4, .pointer (some ⟨b1, 0, none⟩)), (11, .pointer (some ⟨b45, 0, none⟩)), (12, .slice A106 (progBytes p).length c107), (13, .int .i64 0), (14, .slice A129 (progBytes (setI p n20 n30 x)).length c130), (15, .int .i64 0)] ?_
                  refine to_end rfl (tn_code (tc_seq (tc_region ?_)))
                  refine sg 9 [4, 11, 12, 14, 93, 94, 95] [(4, .pointer (some ⟨b1, 0, none⟩)), (11, .pointer (some ⟨b45, 0, none⟩)), (12, .slice A106 (progBytes p).length c107), (14, .slice A129 (progBytes (setI p n20 n30 x)).length c130), (93, .bool false), (94, .slice A106 (progBytes p).length c107), (95, .slice A129 (progBytes (setI p n20 n30 x)).length c130)] ?_
                  refine cb M132 96 (bytes_any A106 c107 (progBytes p) A129 c130 (progBytes (setI p n20 n30 x)) _ (M132.row_C 1 rfl) (M132.row_C 0 rfl)) fun w133 hb135 M134 => ?_
                  refine sg 2 [4, 11, 12, 14, 93, 98] [(4, .pointer (some ⟨b1, 0, none⟩)), (11, .pointer (some ⟨b45, 0, none⟩)), (12, .slice A106 (progBytes p).length c107), (14, .slice A129 (progBytes (setI p n20 n30 x)).length c130), (93, .bool false), (98, .bool (!(decide ((progBytes p) = (progBytes (setI p n20 n30 x))))))] ?_
                  have ht136 : (decide ((progBytes p) = (progBytes (setI p n20 n30 x))) : Bool) = false := decide_eq_false (setI_ne (by omega) (by omega) (of_decide_eq_false h35) h64 h110 hop hox)
                  have ht136p := of_decide_eq_false ht136
                  rw [ht136]
                  refine sg 8 [4, 11, 16] [(4, .pointer (some ⟨b1, 0, none⟩)), (11, .pointer (some ⟨b45, 0, none⟩)), (16, .bool (((progBytes p).length : Int) == ((progBytes (setI p n20 n30 x)).length : Int)))] ?_
                  refine to_end rfl (tn_code (tc_seq (tc_region ?_)))
                  refine la M134 6 106 #[.slice (some ad21) p.length c] (hu := Try.underlying45) ?_
                  refine la M134 6 107 #[.slice (some ad21) p.length c] (hu := Try.underlying45) ?_
                  refine cb M134 108 (psame_any (some ad21) c p (some ad21) c p w133 (C_up M134 hC) (C_up M134 hC)) fun w137 hb139 M138 => ?_
                  refine sg 1 [4, 11, 16, 109] [(4, .pointer (some ⟨b1, 0, none⟩)), (11, .pointer (some ⟨b45, 0, none⟩)), (16, .bool (((progBytes p).length : Int) == ((progBytes (setI p n20 n30 x)).length : Int))), (109, .bool (decide (p = p)))] ?_
                  have ht140 : (decide (p = p) : Bool) = true := decide_eq_true rfl
                  have ht140p := of_decide_eq_true ht140
                  rw [ht140]
                  refine la M138 6 110 #[.slice (some ad21) p.length c] (hu := Try.underlying45) ?_
                  refine la M138 4 111 #[.slice (some ad53) p.length c37] (hu := Try.underlying45) ?_
                  refine cb M138 112 (by have h_ := psame_any (some ad21) c p (some ad53) c37 (setI p n20 n30 x) w137 (C_up M138 hC) (apart_C hokq (M138.tail.tail)); rw [show (setI p n20 n30 x).length = p.length by simp [setI]] at h_; exact h_) fun w141 hb143 M142 => ?_
                  refine sg 3 [4, 11, 16, 115] [(4, .pointer (some ⟨b1, 0, none⟩)), (11, .pointer (some ⟨b45, 0, none⟩)), (16, .bool (((progBytes p).length : Int) == ((progBytes (setI p n20 n30 x)).length : Int))), (115, .bool (!(decide (p = (setI p n20 n30 x)))))] ?_
                  have ht144 : (decide (p = (setI p n20 n30 x)) : Bool) = false := decide_eq_false (setI_other (by omega) (by omega) (of_decide_eq_false h35))
                  have ht144p := of_decide_eq_false ht144
                  rw [ht144]
                  refine la M142 4 116 #[.slice (some ad53) p.length c37] (hu := Try.underlying45) ?_
                  refine la M142 6 117 #[.slice (some ad21) p.length c] (hu := Try.underlying45) ?_
                  refine cb M142 118 (by have h_ := psame_any (some ad53) c37 (setI p n20 n30 x) (some ad21) c p w141 (apart_C hokq (M142.tail.tail)) (C_up M142 hC); rw [show (setI p n20 n30 x).length = p.length by simp [setI]] at h_; exact h_) fun w145 hb147 M146 => ?_
                  refine sg 3 [16, 121] [(16, .bool (((progBytes p).length : Int) == ((progBytes (setI p n20 n30 x)).length : Int))), (121, .bool (!(decide ((setI p n20 n30 x) = p))))] ?_
                  have ht148 : (decide ((setI p n20 n30 x) = p) : Bool) = false := decide_eq_false (fun h_ => setI_other (by omega) (by omega) (of_decide_eq_false h35) h_.symm)
                  have ht148p := of_decide_eq_false ht148
                  rw [ht148]
                  refine sg 3 [8] [(8, .bool (((progBytes p).length : Int) == ((progBytes (setI p n20 n30 x)).length : Int)))] ?_
                  refine to_end rfl (tn_code (tc_ret ?_))
                  refine tr_tmp rfl rfl ?_
                  have ht149 : (((progBytes p).length : Int) == ((progBytes (setI p n20 n30 x)).length : Int) : Bool) = true := beq_iff_eq.2 (by rw [setI_len])
                  have ht149p := beq_iff_eq.1 ht149
                  exact ⟨congrArg Ending.returned (congrArg Value.bool (by first | exact ht149 | (rw [ht149]; rfl))), M146.below⟩
          · have h29p := of_decide_eq_true h29
            refine ty_pass 33 53 (pok_cont pok_body) ?_ M15
            refine ty_pass 34 54 (pok_cont pok_body) ?_ M15
            refine ty_pass 35 55 (pok_cont pok_body) ?_ M15
            refine ty_pass 36 56 (pok_cont pok_body) ?_ M15
            refine ty_pass 37 57 (pok_cont pok_body) ?_ M15
            refine ty_pass 38 58 (pok_cont pok_body) ?_ M15
            refine ty_pass 39 59 (pok_cont pok_body) ?_ M15
            refine ty_pass 40 60 (pok_cont pok_body) ?_ M15
            refine ty_pass 41 61 (pok_cont pok_body) ?_ M15
            refine ty_pass 42 62 (pok_cont pok_body) ?_ M15
            refine ty_pass 43 63 (pok_cont pok_body) ?_ M15
            refine ty_take 44 64 (.bool true) (pok_cont pok_body) ?_ M15 (fun _ _ _ => by kernel_rfl)
            refine ty_endL ?_
            refine tn_code (tc_cond_t (fun _ => rfl) (tc_seq (tc_region ?_)))
            refine sg 2 [8] [(8, .bool true)] ?_
            refine to_end rfl (tn_code (tc_ret ?_))
            refine tr_tmp rfl rfl ?_
            exact ⟨rfl, M15.below⟩
        · have h19p := of_decide_eq_true h19
          refine ty_pass 22 42 (pok_cont pok_body) ?_ M15
          refine ty_pass 23 43 (pok_cont pok_body) ?_ M15
          refine ty_pass 24 44 (pok_cont pok_body) ?_ M15
          refine ty_pass 25 45 (pok_cont pok_body) ?_ M15
          refine ty_pass 26 46 (pok_cont pok_body) ?_ M15
          refine ty_pass 27 47 (pok_cont pok_body) ?_ M15
          refine ty_pass 28 48 (pok_cont pok_body) ?_ M15
          refine ty_pass 29 49 (pok_cont pok_body) ?_ M15
          refine ty_pass 30 50 (pok_cont pok_body) ?_ M15
          refine ty_take 31 51 (.bool true) (pok_cont pok_body) ?_ M15 (fun _ _ _ => by kernel_rfl)
          refine ty_take 32 52 (.bool true) (pok_cont pok_body) ?_ M15 (fun _ _ _ => by kernel_rfl)
          refine ty_pass 33 53 (pok_cont pok_body) ?_ M15
          refine ty_pass 34 54 (pok_cont pok_body) ?_ M15
          refine ty_pass 35 55 (pok_cont pok_body) ?_ M15
          refine ty_pass 36 56 (pok_cont pok_body) ?_ M15
          refine ty_pass 37 57 (pok_cont pok_body) ?_ M15
          refine ty_pass 38 58 (pok_cont pok_body) ?_ M15
          refine ty_pass 39 59 (pok_cont pok_body) ?_ M15
          refine ty_pass 40 60 (pok_cont pok_body) ?_ M15
          refine ty_pass 41 61 (pok_cont pok_body) ?_ M15
          refine ty_pass 42 62 (pok_cont pok_body) ?_ M15
          refine ty_pass 43 63 (pok_cont pok_body) ?_ M15
          refine ty_take 44 64 (.bool true) (pok_cont pok_body) ?_ M15 (fun _ _ _ => by kernel_rfl)
          refine ty_endL ?_
          refine tn_code (tc_cond_t (fun _ => rfl) (tc_seq (tc_region ?_)))
          refine sg 2 [8] [(8, .bool true)] ?_
          refine to_end rfl (tn_code (tc_ret ?_))
          refine tr_tmp rfl rfl ?_
          exact ⟨rfl, M15.below⟩
      · have h18p := of_decide_eq_true h18
        refine ty_pass 18 38 (pok_cont pok_body) ?_ M15
        refine ty_pass 19 39 (pok_cont pok_body) ?_ M15
        refine ty_take 20 40 (.bool true) (pok_cont pok_body) ?_ M15 (fun _ _ _ => by kernel_rfl)
        refine ty_take 21 41 (.bool true) (pok_cont pok_body) ?_ M15 (fun _ _ _ => by kernel_rfl)
        refine ty_pass 22 42 (pok_cont pok_body) ?_ M15
        refine ty_pass 23 43 (pok_cont pok_body) ?_ M15
        refine ty_pass 24 44 (pok_cont pok_body) ?_ M15
        refine ty_pass 25 45 (pok_cont pok_body) ?_ M15
        refine ty_pass 26 46 (pok_cont pok_body) ?_ M15
        refine ty_pass 27 47 (pok_cont pok_body) ?_ M15
        refine ty_pass 28 48 (pok_cont pok_body) ?_ M15
        refine ty_pass 29 49 (pok_cont pok_body) ?_ M15
        refine ty_pass 30 50 (pok_cont pok_body) ?_ M15
        refine ty_take 31 51 (.bool true) (pok_cont pok_body) ?_ M15 (fun _ _ _ => by kernel_rfl)
        refine ty_take 32 52 (.bool true) (pok_cont pok_body) ?_ M15 (fun _ _ _ => by kernel_rfl)
        refine ty_pass 33 53 (pok_cont pok_body) ?_ M15
        refine ty_pass 34 54 (pok_cont pok_body) ?_ M15
        refine ty_pass 35 55 (pok_cont pok_body) ?_ M15
        refine ty_pass 36 56 (pok_cont pok_body) ?_ M15
        refine ty_pass 37 57 (pok_cont pok_body) ?_ M15
        refine ty_pass 38 58 (pok_cont pok_body) ?_ M15
        refine ty_pass 39 59 (pok_cont pok_body) ?_ M15
        refine ty_pass 40 60 (pok_cont pok_body) ?_ M15
        refine ty_pass 41 61 (pok_cont pok_body) ?_ M15
        refine ty_pass 42 62 (pok_cont pok_body) ?_ M15
        refine ty_pass 43 63 (pok_cont pok_body) ?_ M15
        refine ty_take 44 64 (.bool true) (pok_cont pok_body) ?_ M15 (fun _ _ _ => by kernel_rfl)
        refine ty_endL ?_
        refine tn_code (tc_cond_t (fun _ => rfl) (tc_seq (tc_region ?_)))
        refine sg 2 [8] [(8, .bool true)] ?_
        refine to_end rfl (tn_code (tc_ret ?_))
        refine tr_tmp rfl rfl ?_
        exact ⟨rfl, M15.below⟩
    · have h17p := of_decide_eq_true h17
      refine ty_pass 11 31 (pok_cont pok_body) ?_ M15
      refine ty_pass 12 32 (pok_cont pok_body) ?_ M15
      refine ty_pass 13 33 (pok_cont pok_body) ?_ M15
      refine ty_pass 14 34 (pok_cont pok_body) ?_ M15
      refine ty_pass 15 35 (pok_cont pok_body) ?_ M15
      refine ty_take 16 36 (.bool true) (pok_cont pok_body) ?_ M15 (fun _ _ _ => by kernel_rfl)
      refine ty_take 17 37 (.bool true) (pok_cont pok_body) ?_ M15 (fun _ _ _ => by kernel_rfl)
      refine ty_pass 18 38 (pok_cont pok_body) ?_ M15
      refine ty_pass 19 39 (pok_cont pok_body) ?_ M15
      refine ty_take 20 40 (.bool true) (pok_cont pok_body) ?_ M15 (fun _ _ _ => by kernel_rfl)
      refine ty_take 21 41 (.bool true) (pok_cont pok_body) ?_ M15 (fun _ _ _ => by kernel_rfl)
      refine ty_pass 22 42 (pok_cont pok_body) ?_ M15
      refine ty_pass 23 43 (pok_cont pok_body) ?_ M15
      refine ty_pass 24 44 (pok_cont pok_body) ?_ M15
      refine ty_pass 25 45 (pok_cont pok_body) ?_ M15
      refine ty_pass 26 46 (pok_cont pok_body) ?_ M15
      refine ty_pass 27 47 (pok_cont pok_body) ?_ M15
      refine ty_pass 28 48 (pok_cont pok_body) ?_ M15
      refine ty_pass 29 49 (pok_cont pok_body) ?_ M15
      refine ty_pass 30 50 (pok_cont pok_body) ?_ M15
      refine ty_take 31 51 (.bool true) (pok_cont pok_body) ?_ M15 (fun _ _ _ => by kernel_rfl)
      refine ty_take 32 52 (.bool true) (pok_cont pok_body) ?_ M15 (fun _ _ _ => by kernel_rfl)
      refine ty_pass 33 53 (pok_cont pok_body) ?_ M15
      refine ty_pass 34 54 (pok_cont pok_body) ?_ M15
      refine ty_pass 35 55 (pok_cont pok_body) ?_ M15
      refine ty_pass 36 56 (pok_cont pok_body) ?_ M15
      refine ty_pass 37 57 (pok_cont pok_body) ?_ M15
      refine ty_pass 38 58 (pok_cont pok_body) ?_ M15
      refine ty_pass 39 59 (pok_cont pok_body) ?_ M15
      refine ty_pass 40 60 (pok_cont pok_body) ?_ M15
      refine ty_pass 41 61 (pok_cont pok_body) ?_ M15
      refine ty_pass 42 62 (pok_cont pok_body) ?_ M15
      refine ty_pass 43 63 (pok_cont pok_body) ?_ M15
      refine ty_take 44 64 (.bool true) (pok_cont pok_body) ?_ M15 (fun _ _ _ => by kernel_rfl)
      refine ty_endL ?_
      refine tn_code (tc_cond_t (fun _ => rfl) (tc_seq (tc_region ?_)))
      refine sg 2 [8] [(8, .bool true)] ?_
      refine to_end rfl (tn_code (tc_ret ?_))
      refine tr_tmp rfl rfl ?_
      exact ⟨rfl, M15.below⟩
end Go.Proofs.Ytfknhbgghpbkpaa
