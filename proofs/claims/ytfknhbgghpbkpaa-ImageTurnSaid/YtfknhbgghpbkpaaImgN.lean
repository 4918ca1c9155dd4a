/- Several texts in one. -/
import Derived.Test.YtfknhbgghpbkpaaImgM
import Derived.Test.YtfknhbgghpbkpaaArO
/- What a turned door is. -/
namespace Go.Proofs.Ytfknhbgghpbkpaa
open Go.RowKit Cal Go.Proofs.YtfknhbgghpbkpaaW.PrintWords
def turnM (cap : Int) (l : List Blk) (base fn att : Int) : (Int × List Blk) × Int := if fn < 0 ∨ fn ≥ 8 ∨ att < 0 ∨ att > 1023 then ((0, []), 1) else patchM cap l (base + fn) (doorW att)
theorem turn_no {cap : Int} {l : List Blk} {base fn att : Int} (h : fn < 0 ∨ fn ≥ 8 ∨ att < 0 ∨ att > 1023) : turnM cap l base fn att = ((0, []), 1) := by unfold turnM; rw [if_pos h]
theorem turn_yes {cap : Int} {l : List Blk} {base fn att : Int} (h : ¬ (fn < 0 ∨ fn ≥ 8 ∨ att < 0 ∨ att > 1023)) : turnM cap l base fn att = patchM cap l (base + fn) (doorW att) := by unfold turnM; rw [if_neg h]
end Go.Proofs.Ytfknhbgghpbkpaa

/- Layer 14: Turn. -/
namespace Go.Proofs.Ytfknhbgghpbkpaa
open Go.RowKit Cal Go.Proofs.YtfknhbgghpbkpaaW.PrintWords
theorem turn_any (cap : Int) (l : List Blk) (A : Option Addr) (c : Nat) (base fn att : Int) (w : World) (hC : kBlk.C w A l.length l) (hcl : l.length ≤ c) (hsm : ∀ j, (l.getD j Blk.z).w.length ≤ 1000000) (hlm : l.length ≤ 1000000) (hb : 0 ≤ base ∧ base ≤ 100000) : Calls Try.prog 58 #[.agg #[.int .i64 cap, .slice A l.length c], .int .i64 base, .int .i64 fn, .int .i64 att] w fun e w' => ∃ A' c', e = .returned (.tuple #[.agg #[.int .i64 (turnM cap l base fn att).1.1, .slice A' (turnM cap l base fn att).1.2.length c'], .int .i64 (turnM cap l base fn att).2]) ∧ Mem w w' [rdE kBlk A' (turnM cap l base fn att).1.2] ∧ (turnM cap l base fn att).1.2.length ≤ c' := by
  have M := Mem.refl w
  have hmx := C_max hC
  refine calls_tc (N := 34) (args := [.agg #[.int .i64 cap, .slice A l.length c], .int .i64 base, .int .i64 fn, .int .i64 att]) Try.func58 rfl rfl rfl ?_
  refine tc_seq (tc_region ?_)
  refine nw M 4 #[.int .i64 cap, .slice A l.length c] 24 fun b1 w2 M3 => ?_
  refine nw M3 8 #[.int .i64 0, .slice none 0 0] 24 fun b4 w5 M6 => ?_
  refine sg 1 [1, 2, 3, 4, 8] [(1, .int .i64 base), (2, .int .i64 fn), (3, .int .i64 att), (4, .pointer (some ⟨b1, 0, none⟩)), (8, .pointer (some ⟨b4, 0, none⟩))] ?_
  refine to_end rfl (tn_code (tc_seq (tc_seq (tc_region ?_))))
  refine sg 3 [1, 2, 3, 4, 8, 12] [(1, .int .i64 base), (2, .int .i64 fn), (3, .int .i64 att), (4, .pointer (some ⟨b1, 0, none⟩)), (8, .pointer (some ⟨b4, 0, none⟩)), (12, .bool (decide (fn < 0)))] ?_
  rcases h7 : (decide (fn < 0) : Bool) with _ | _
  · have h7p := of_decide_eq_false h7
    refine sg 4 [1, 2, 3, 4, 8, 16] [(1, .int .i64 base), (2, .int .i64 fn), (3, .int .i64 att), (4, .pointer (some ⟨b1, 0, none⟩)), (8, .pointer (some ⟨b4, 0, none⟩)), (16, .bool (decide (fn ≥ 8)))] ?_
    rcases h8 : (decide (fn ≥ 8) : Bool) with _ | _
    · have h8p := of_decide_eq_false h8
      refine sg 4 [1, 2, 3, 4, 8, 20] [(1, .int .i64 base), (2, .int .i64 fn), (3, .int .i64 att), (4, .pointer (some ⟨b1, 0, none⟩)), (8, .pointer (some ⟨b4, 0, none⟩)), (20, .bool (decide (att < 0)))] ?_
      rcases h9 : (decide (att < 0) : Bool) with _ | _
      · have h9p := of_decide_eq_false h9
        refine sg 3 [1, 2, 3, 4, 8, 23] [(1, .int .i64 base), (2, .int .i64 fn), (3, .int .i64 att), (4, .pointer (some ⟨b1, 0, none⟩)), (8, .pointer (some ⟨b4, 0, none⟩)), (23, .bool (decide (att > 1023)))] ?_
        refine to_end rfl (tn_code ?_)
        refine tc_cond (b := decide (att > 1023)) (fun _ => rfl) (fun h10 => ?_) (fun h10 => ?_)
        · have h10p := of_decide_eq_true h10
          refine tc_seq (tc_region ?_)
          refine sg 1 [8, 24] [(8, .pointer (some ⟨b4, 0, none⟩)), (24, .agg #[.int .i64 0, .slice none 0 0])] ?_
          refine sa M6 0 #[.int .i64 0, .slice none 0 0] fun w11 M12 => ?_
          refine sg 1 [8, 9] [(8, .pointer (some ⟨b4, 0, none⟩)), (9, .int .i64 1)] ?_
          refine to_end rfl (tn_code (tc_ret ?_))
          refine tr_cell_tmp M12 0 rfl rfl rfl rfl Try.underlying24 rfl (by kernel_rfl) ?_
          have he : turnM cap l base fn att = ((0, []), 1) := turn_no (by omega)
          have M13 := ((((M12.drop 1).drop 0)).nilrow kBlk 103).rd_row
          rw [he]
          exact ⟨none, 0, rfl, M13, Nat.le_refl _⟩
        · have h10p := of_decide_eq_false h10
          refine tc_skip (tn_code (tc_seq ?_))
          refine tc_drawL (fun w' => Mem w w' ([blk b1 #[.int .i64 cap, .slice A l.length c] 24])) [] (by kernel_rfl) ?_
          have M16 := M6.draw
          refine ty_take 0 25 (.agg #[.int .i64 cap, .slice A l.length c]) (pok_cont pok_body) ?_ (M16.drop 0) (fun _ M' _ => rla M' 0 (vs := #[.int .i64 cap, .slice A l.length c]) Try.underlying24)
          refine ty_take 1 26 (.int .i64 base) (pok_cont pok_body) ?_ (M16.drop 0) (fun _ _ _ => by kernel_rfl)
          refine ty_take 2 27 (.int .i64 fn) (pok_cont pok_body) ?_ (M16.drop 0) (fun _ _ _ => by kernel_rfl)
          refine ty_take 3 28 (.int .i64 (IntKind.wrap .i64 (base + fn))) (pok_cont pok_body) ?_ (M16.drop 0) (fun _ _ _ => by kernel_rfl)
          rw [wr_i64 (x := base + fn) (by omega) (by omega)]
          refine ty_take 4 29 (.int .i64 att) (pok_cont pok_body) ?_ (M16.drop 0) (fun _ _ _ => by kernel_rfl)
          refine ty_all (rs := [5]) (te_one ?_)
          refine te_cb M16 30 (door_any att _) (fun _ hb _ M' => M'.call hb) fun w17 hb19 M18 => ?_
          refine ty_all (rs := [6]) (te_one ?_)
          refine te_ce 31 (patch_any cap l A c (base + fn) (doorW att) _ (C_up M18 hC) hcl hsm hlm (by unfold I64; omega)) fun e24 w25 h26 => ?_
          obtain ⟨A20, c21, rfl, hM22, hc23⟩ := h26
          have M27 := M18.join hM22
          refine ⟨_, rfl, fun _ _ => ((M27.drop 1).drop 0), ?_⟩
          refine ty_take 7 32 (.agg #[.int .i64 (patchM cap l (base + fn) (doorW att)).1.1, .slice A20 (patchM cap l (base + fn) (doorW att)).1.2.length c21]) (pok_cont pok_body) ?_ ((M27.drop 1).drop 0) (fun _ _ _ => by kernel_rfl)
          refine ty_take 8 33 (.int .i64 (patchM cap l (base + fn) (doorW att)).2) (pok_cont pok_body) ?_ ((M27.drop 1).drop 0) (fun _ _ _ => by kernel_rfl)
          refine ty_all (rs := [9]) (te_one ?_)
          refine te_sa M27 1 #[.int .i64 (patchM cap l (base + fn) (doorW att)).1.1, .slice A20 (patchM cap l (base + fn) (doorW att)).1.2.length c21] (fun _ M_ _ _ => ((M_.drop 1).drop 0)) fun w28 M29 => ?_
          refine ty_take 10 9 (.int .i64 (patchM cap l (base + fn) (doorW att)).2) (pok_cont pok_body) ?_ ((M29.drop 1).drop 0) (fun _ _ _ => by kernel_rfl)
          refine ty_endL ?_
          refine tn_code (tc_ret ?_)
          refine tr_cell_tmp M29 1 rfl rfl rfl rfl Try.underlying24 rfl (by kernel_rfl) ?_
          have he : turnM cap l base fn att = _ := turn_yes (by omega)
          rw [he]
          exact ⟨_, _, rfl, ((M29.drop 2).drop 1), hc23⟩
      · have h9p := of_decide_eq_true h9
        refine sg 3 [1, 2, 3, 4, 8, 23] [(1, .int .i64 base), (2, .int .i64 fn), (3, .int .i64 att), (4, .pointer (some ⟨b1, 0, none⟩)), (8, .pointer (some ⟨b4, 0, none⟩)), (23, .bool true)] ?_
        refine to_end rfl (tn_code (tc_cond_t (fun _ => rfl) (tc_seq (tc_region ?_))))
        refine sg 1 [8, 24] [(8, .pointer (some ⟨b4, 0, none⟩)), (24, .agg #[.int .i64 0, .slice none 0 0])] ?_
        refine sa M6 0 #[.int .i64 0, .slice none 0 0] fun w30 M31 => ?_
        refine sg 1 [8, 9] [(8, .pointer (some ⟨b4, 0, none⟩)), (9, .int .i64 1)] ?_
        refine to_end rfl (tn_code (tc_ret ?_))
        refine tr_cell_tmp M31 0 rfl rfl rfl rfl Try.underlying24 rfl (by kernel_rfl) ?_
        have he : turnM cap l base fn att = ((0, []), 1) := turn_no (by omega)
        have M32 := ((((M31.drop 1).drop 0)).nilrow kBlk 103).rd_row
        rw [he]
        exact ⟨none, 0, rfl, M32, Nat.le_refl _⟩
    · have h8p := of_decide_eq_true h8
      refine sg 7 [1, 2, 3, 4, 8, 23] [(1, .int .i64 base), (2, .int .i64 fn), (3, .int .i64 att), (4, .pointer (some ⟨b1, 0, none⟩)), (8, .pointer (some ⟨b4, 0, none⟩)), (23, .bool true)] ?_
      refine to_end rfl (tn_code (tc_cond_t (fun _ => rfl) (tc_seq (tc_region ?_))))
      refine sg 1 [8, 24] [(8, .pointer (some ⟨b4, 0, none⟩)), (24, .agg #[.int .i64 0, .slice none 0 0])] ?_
      refine sa M6 0 #[.int .i64 0, .slice none 0 0] fun w33 M34 => ?_
      refine sg 1 [8, 9] [(8, .pointer (some ⟨b4, 0, none⟩)), (9, .int .i64 1)] ?_
      refine to_end rfl (tn_code (tc_ret ?_))
      refine tr_cell_tmp M34 0 rfl rfl rfl rfl Try.underlying24 rfl (by kernel_rfl) ?_
      have he : turnM cap l base fn att = ((0, []), 1) := turn_no (by omega)
      have M35 := ((((M34.drop 1).drop 0)).nilrow kBlk 103).rd_row
      rw [he]
      exact ⟨none, 0, rfl, M35, Nat.le_refl _⟩
  · have h7p := of_decide_eq_true h7
    refine sg 11 [1, 2, 3, 4, 8, 23] [(1, .int .i64 base), (2, .int .i64 fn), (3, .int .i64 att), (4, .pointer (some ⟨b1, 0, none⟩)), (8, .pointer (some ⟨b4, 0, none⟩)), (23, .bool true)] ?_
    refine to_end rfl (tn_code (tc_cond_t (fun _ => rfl) (tc_seq (tc_region ?_))))
    refine sg 1 [8, 24] [(8, .pointer (some ⟨b4, 0, none⟩)), (24, .agg #[.int .i64 0, .slice none 0 0])] ?_
    refine sa M6 0 #[.int .i64 0, .slice none 0 0] fun w36 M37 => ?_
    refine sg 1 [8, 9] [(8, .pointer (some ⟨b4, 0, none⟩)), (9, .int .i64 1)] ?_
    refine to_end rfl (tn_code (tc_ret ?_))
    refine tr_cell_tmp M37 0 rfl rfl rfl rfl Try.underlying24 rfl (by kernel_rfl) ?_
    have he : turnM cap l base fn att = ((0, []), 1) := turn_no (by omega)
    have M38 := ((((M37.drop 1).drop 0)).nilrow kBlk 103).rd_row
    rw [he]
    exact ⟨none, 0, rfl, M38, Nat.le_refl _⟩
end Go.Proofs.Ytfknhbgghpbkpaa

/- Layer 14: what is awake, in numbers. -/
namespace Go.Proofs.Ytfknhbgghpbkpaa
open Go.RowKit Cal Go.Proofs.YtfknhbgghpbkpaaW.PrintWords
theorem repIL : ∀ (xs : List Inst), Reps (fun x c => ∀ w' ok, kInst.M w' 0 ok x c) kInst.sz xs (xs.flatMap fun x => x.cs.toList)
  | [] => Reps.none _ _
  | x :: xs => by
    obtain ⟨h1, h2⟩ := repIL xs
    refine ⟨?_, fun j p hj w' ok => ?_⟩
    · simp only [List.flatMap_cons, List.length_append, List.length_cons]
      rw [h1]
      show 7 + xs.length * 7 = (xs.length + 1) * 7
      omega
    · match j with
      | 0 =>
        simp only [List.getElem?_cons_zero, Option.some.injEq] at hj
        subst hj
        exact kInst_M x w' ok
      | j + 1 =>
        have := h2 j p (by simpa using hj) w' ok
        have e : ((x :: xs).flatMap fun x => x.cs.toList).drop ((j + 1) * kInst.sz) = (xs.flatMap fun x => x.cs.toList).drop (j * kInst.sz) := by
          show (x.cs.toList ++ xs.flatMap fun x => x.cs.toList).drop ((j + 1) * 7) = (xs.flatMap fun x => x.cs.toList).drop (j * 7)
          rw [show (j + 1) * 7 = 7 + j * 7 by omega, ← List.drop_drop]
          rfl
        rw [e]; exact this
def i14a : Inst := ⟨0, 0, 0, 0, false, 0, 5⟩
def i14b : Inst := ⟨7, 0, 0, 0, false, 0, 0⟩
def aw14 : List Fn := [⟨0, [i14a, i14b]⟩]
def aw14w : List Int := [6192496732274688, 5, 10977524091715584]
theorem aw14_img : imageI aw14 10 = (aw14w, 0) := by decide +kernel
theorem aw14_size : sizeI aw14 = 3 := by decide +kernel
theorem aw14_ok : ∀ f ∈ aw14, f.ok := by
  intro f hf
  rw [List.mem_singleton.1 hf]
  refine ⟨by unfold I64; decide, fun x hx => ?_⟩
  rcases List.mem_cons.1 hx with rfl | hx
  · unfold Inst.ok I64; decide
  · rw [List.mem_singleton.1 hx]; unfold Inst.ok I64; decide
theorem door11 : putW ⟨1, 0, 0, 0, false, 0, 0⟩ 11 = (6192496732274688, 0) := by decide +kernel
end Go.Proofs.Ytfknhbgghpbkpaa

/- Layer 14: awake. -/
namespace Go.Proofs.Ytfknhbgghpbkpaa
open Go.RowKit Cal Go.Proofs.YtfknhbgghpbkpaaW.PrintWords
theorem awake14_any (w : World) : Calls Try.prog 41 #[] w fun e w' => e = .returned (.bool true) ∧ Below w.heap.size w w' := by
  have M := Mem.refl w
  refine calls_tc (N := 47) (args := []) Try.func41 rfl rfl rfl ?_
  refine tc_seq (tc_region ?_)
  refine sg 1 [] [] ?_
  refine to_end rfl (tn_code (tc_seq (tc_region ?_)))
  refine sg 2 [6, 7] [(6, .agg #[.int .i64 0, .int .i64 0, .int .i64 0, .int .i64 0, .bool false, .int .i64 0, .int .u32 5]), (7, .agg #[.int .i64 7, .int .i64 0, .int .i64 0, .int .i64 0, .bool false, .int .i64 0, .int .u32 0])] ?_
  refine bsF M 8 kInst 65 ([⟨0, 0, 0, 0, false, 0, 5⟩, ⟨7, 0, 0, 0, false, 0, 0⟩] : List Inst) #[.int .i64 0, .int .i64 0, .int .i64 0, .int .i64 0, .bool false, .int .i64 0, .int .u32 5, .int .i64 7, .int .i64 0, .int .i64 0, .int .i64 0, .bool false, .int .i64 0, .int .u32 0] (repIL [⟨0, 0, 0, 0, false, 0, 5⟩, ⟨7, 0, 0, 0, false, 0, 0⟩]) (Nat.le_of_ble_eq_true rfl) fun b1 w2 M3 => ?_
  refine sg 1 [9] [(9, .agg #[.int .i64 0, .slice (some ⟨b1, 0, none⟩) 2 2])] ?_
  have M7 := kFn_M (x := (⟨0, [⟨0, 0, 0, 0, false, 0, 5⟩, ⟨7, 0, 0, 0, false, 0, 0⟩]⟩ : Fn)) M3
  refine bs1 (x := (⟨0, [⟨0, 0, 0, 0, false, 0, 5⟩, ⟨7, 0, 0, 0, false, 0, 0⟩]⟩ : Fn)) (cs := #[.int .i64 0, .slice (some ⟨b1, 0, none⟩) 2 2]) M7 10 57 fun b4 w5 M6 => ?_
  refine sg 1 [11] [(11, .agg #[.slice (some ⟨b4, 0, none⟩) 1 1])] ?_
  refine nw M6 1 #[.slice none 0 0] 45 fun b8 w9 M10 => ?_
  refine sa M10 0 #[.slice (some ⟨b4, 0, none⟩) 1 1] fun w11 M12 => ?_
  refine to_end rfl (tn_code (tc_seq (tc_region ?_)))
  refine la M12 0 13 #[.slice (some ⟨b4, 0, none⟩) 1 1] (hu := Try.underlying45) ?_
  have hs13 := make_any aw14 (some ⟨b4, 0, none⟩) 1 10 w11 (M12.row_C 1 rfl) aw14_ok
  rw [aw14_img] at hs13
  dsimp only at hs13
  refine ce 14 (hs13) fun e14 w15 h16 => ?_
  obtain ⟨A17, c18, rfl, hM19⟩ := h16
  have M20 := M12.join hM19
  refine ⟨_, rfl, ?_⟩
  refine sg 5 [1, 2, 3] [(1, .pointer (some ⟨b8, 0, none⟩)), (2, .slice A17 aw14w.length c18), (3, .int .i64 0)] ?_
  refine to_end rfl (tn_code (tc_seq (tc_region ?_)))
  refine sg 1 [1, 2, 3, 18] [(1, .pointer (some ⟨b8, 0, none⟩)), (2, .slice A17 aw14w.length c18), (3, .int .i64 0), (18, .agg #[.int .i64 1, .int .i64 0, .int .i64 0, .int .i64 0, .bool false, .int .i64 0, .int .u32 0])] ?_
  refine cb M20 19 (by have h_ := iput_any ⟨1, 0, 0, 0, false, 0, 0⟩ 11 w15 (by constructor <;> decide); rw [door11] at h_; exact h_) fun w21 hb23 M22 => ?_
  refine sg 5 [1, 2, 3, 4] [(1, .pointer (some ⟨b8, 0, none⟩)), (2, .slice A17 aw14w.length c18), (3, .int .i64 0), (4, .int .u64 6192496732274688)] ?_
  refine to_end rfl (tn_code (tc_seq (tc_region ?_)))
  refine sg 8 [1, 2, 4, 29] [(1, .pointer (some ⟨b8, 0, none⟩)), (2, .slice A17 aw14w.length c18), (4, .int .u64 6192496732274688), (29, .bool ((aw14w.length : Int) == 3))] ?_
  have ht24 : ((aw14w.length : Int) == 3 : Bool) = true := rfl
  have ht24p := beq_iff_eq.1 ht24
  rw [ht24]
  refine sg 1 [1, 2, 4, 29, 30] [(1, .pointer (some ⟨b8, 0, none⟩)), (2, .slice A17 aw14w.length c18), (4, .int .u64 6192496732274688), (29, .bool true), (30, .slice A17 aw14w.length c18)] ?_
  obtain ⟨ad25, rfl⟩ := C_some (M22.row_C 0 rfl) (k := 0) (by decide)
  refine ix (ad := ad25) (n := aw14w.length) (c := c18) 31 0 1 (by decide) Try.underlying25 ?_
  obtain ⟨cs28, hk26, hc27⟩ := C_cell (M22.row_C 0 rfl) (0 : Int) 0 (by decide)
  obtain rfl := kW_open hk26
  refine le 32 (.int .u64 (aw14w.getD 0 (0 : Int))) (hc27 0 _ rfl) ?_
  refine sg 4 [1, 2, 36] [(1, .pointer (some ⟨b8, 0, none⟩)), (2, .slice (some ad25) aw14w.length c18), (36, .bool ((aw14w.getD 0 (0 : Int)) == 6192496732274688))] ?_
  have ht29 : ((aw14w.getD 0 (0 : Int)) == 6192496732274688 : Bool) = true := rfl
  have ht29p := beq_iff_eq.1 ht29
  rw [ht29]
  refine sg 1 [1, 36, 37] [(1, .pointer (some ⟨b8, 0, none⟩)), (36, .bool true), (37, .slice (some ad25) aw14w.length c18)] ?_
  refine ix (ad := ad25) (n := aw14w.length) (c := c18) 38 1 1 (by decide) Try.underlying25 ?_
  obtain ⟨cs32, hk30, hc31⟩ := C_cell (M22.row_C 0 rfl) (0 : Int) 1 (by decide)
  obtain rfl := kW_open hk30
  refine le 39 (.int .u64 (aw14w.getD 1 (0 : Int))) (hc31 0 _ rfl) ?_
  refine sg 3 [1, 42] [(1, .pointer (some ⟨b8, 0, none⟩)), (42, .bool ((aw14w.getD 1 (0 : Int)) == 5))] ?_
  have ht33 : ((aw14w.getD 1 (0 : Int)) == 5 : Bool) = true := rfl
  have ht33p := beq_iff_eq.1 ht33
  rw [ht33]
  refine la M22 1 43 #[.slice (some ⟨b4, 0, none⟩) 1 1] (hu := Try.underlying45) ?_
  refine cb M22 44 (by have h_ := size_any aw14 (some ⟨b4, 0, none⟩) 1 w21 (M22.row_C 2 rfl); rw [aw14_size] at h_; exact h_) fun w34 hb36 M35 => ?_
  refine sg 3 [0] [(0, .bool true)] ?_
  refine to_end rfl (tn_code (tc_ret ?_))
  refine tr_tmp rfl rfl ?_
  exact ⟨congrArg Ending.returned (congrArg Value.bool (rfl)), M35.below⟩
end Go.Proofs.Ytfknhbgghpbkpaa

/- The plain law of a turned door. -/
namespace Go.Proofs.Ytfknhbgghpbkpaa
open Go.RowKit Cal Go.Proofs.YtfknhbgghpbkpaaW.PrintWords
theorem wrap_I64 (z : Int) : I64 (IntKind.wrap .i64 z) := by
  have e : IntKind.wrap .i64 z = if z % 18446744073709551616 ≥ 9223372036854775808 then z % 18446744073709551616 - 18446744073709551616 else z % 18446744073709551616 := by simp [IntKind.wrap, IntKind.bits, IntKind.signed]
  unfold I64
  rw [e]
  by_cases h : z % 18446744073709551616 ≥ 9223372036854775808
  · rw [if_pos h]; omega
  · rw [if_neg h]; omega
theorem setW_at {l : List Blk} {n q : Nat} {v : Int} (j : Nat) : (setW l n q v).getD j Blk.z = if n = j ∧ n < l.length then ⟨(l.getD n Blk.z).id, (l.getD n Blk.z).pos, (l.getD n Blk.z).w.set q v⟩ else l.getD j Blk.z := by
  unfold setW
  by_cases h : n = j
  · subst h
    by_cases hn : n < l.length
    · rw [if_pos ⟨rfl, hn⟩, getD_set_eq hn]
    · rw [if_neg (fun h => hn h.2), List.set_eq_of_length_le (by omega)]
  · rw [if_neg (fun h' => h h'.1), getD_set_ne h]
theorem setW_head {l : List Blk} {n q : Nat} {v : Int} (j : Nat) : ((setW l n q v).getD j Blk.z).id = (l.getD j Blk.z).id ∧ ((setW l n q v).getD j Blk.z).pos = (l.getD j Blk.z).pos ∧ ((setW l n q v).getD j Blk.z).w.length = (l.getD j Blk.z).w.length := by
  rw [setW_at]
  split
  · rename_i h; obtain ⟨rfl, _⟩ := h; simp
  · exact ⟨rfl, rfl, rfl⟩
theorem setW_may {cap : Int} {l : List Blk} {n q : Nat} {v : Int} (h : mMay cap l = true) : mMay cap (setW l n q v) = true := by
  rw [mMay_iff] at h ⊢
  refine ⟨h.1, h.2.1, fun j hj => ?_⟩
  rw [setW_len] at hj
  obtain ⟨o1, o2, o3, o4, o5, o6, o7⟩ := h.2.2 j hj
  obtain ⟨a1, a2, a3⟩ := setW_head (l := l) (n := n) (q := q) (v := v) j
  obtain ⟨b1, b2, b3⟩ := setW_head (l := l) (n := n) (q := q) (v := v) (j - 1)
  unfold okAt
  rw [a1, a2, a3, b2, b3]
  exact ⟨o1, o2, o3, o4, o5, o6, fun k hk => by rw [(setW_head (l := l) (n := n) (q := q) (v := v) k).1]; exact o7 k hk⟩
theorem ofM_eq {l l' : List Blk} (hl : l'.length = l.length) (h : ∀ j a, inBlk a (l'.getD j Blk.z) = inBlk a (l.getD j Blk.z)) (a : Int) : ofM l' a = ofM l a := by
  rcases ofM_cases l a with ho | ⟨n, q, ho⟩
  · rw [ho]
    exact (idxF_no (p := inBlk a) (z := Blk.z) fun j hj => by
      rw [h]; exact ofM_free.1 (show ofM l a < 0 by rw [ho]; decide) j (by omega)).symm
  · rw [ho.of]
    refine (idxF_at (p := inBlk a) (z := Blk.z) (by rw [hl]; exact ho.lt) (fun j hj => ?_) ?_).symm
    · rw [h]
      have h1 := ho.of
      unfold ofM idxF at h1
      split at h1
      · rename_i i hi
        rw [List.findIdx?_eq_some_iff_getElem] at hi
        obtain ⟨hlt, _, hno⟩ := hi
        obtain rfl : i = n := by omega
        have := hno j hj
        rw [show l.getD j Blk.z = l[j]'(by omega) by simp [show j < l.length by omega]]
        simpa using this
      · omega
    · rw [h, inBlk_iff]
      have := ho.eq
      have := ho.qt
      unfold Blk.fin
      omega
theorem setW_of {l : List Blk} {n q : Nat} {v a : Int} : ofM (setW l n q v) a = ofM l a := ofM_eq (setW_len _ _ _ _) (fun j a => by
  obtain ⟨a1, a2, a3⟩ := setW_head (l := l) (n := n) (q := q) (v := v) j
  unfold inBlk Blk.fin
  rw [a2, a3]) a
theorem turn_err {cap : Int} {l : List Blk} {base fn att : Int} (h : (turnM cap l base fn att).2 ≠ 0) : (fetchM cap l (base + fn)).2.2 = false ∨ fn < 0 ∨ fn > 7 ∨ att < 0 ∨ att > 1023 := by
  by_cases hg : fn < 0 ∨ fn ≥ 8 ∨ att < 0 ∨ att > 1023
  · right; omega
  · left
    rw [turn_yes hg] at h
    cases hm : mMay cap l with
    | false => rw [fetch_no (.inl hm)]
    | true =>
      rcases ofM_cases l (base + fn) with ho | ⟨n, q, ho⟩
      · rw [fetch_no (.inr ho)]
      · rw [patch_at hm ho] at h; exact absurd rfl h
theorem turn_ok {cap : Int} {l : List Blk} {base fn att : Int} (h : (turnM cap l base fn att).2 = 0) : (0 ≤ fn ∧ fn ≤ 7 ∧ 0 ≤ att ∧ att ≤ 1023) ∧ (fetchM cap l (base + fn)).2.2 = true ∧
    fetchM (turnM cap l base fn att).1.1 (turnM cap l base fn att).1.2 (base + fn) = (doorW att, (fetchM cap l (base + fn)).2.1, true) ∧ ∀ o, o ≠ base + fn → fetchM (turnM cap l base fn att).1.1 (turnM cap l base fn att).1.2 o = fetchM cap l o := by
  by_cases hg : fn < 0 ∨ fn ≥ 8 ∨ att < 0 ∨ att > 1023
  · rw [turn_no hg] at h; cases h
  · have ht := turn_yes (cap := cap) (l := l) (base := base) hg
    rw [ht] at h ⊢
    cases hm : mMay cap l with
    | false => rw [patch_no hm] at h; cases h
    | true =>
      rcases ofM_cases l (base + fn) with ho | ⟨n, q, ho⟩
      · rw [patch_out hm ho] at h; cases h
      · rw [patch_at hm ho]
        have hm2 := setW_may (n := n) (q := q) (v := doorW att) hm
        have hw : WordAt (setW l n q (doorW att)) (base + fn) n q := ⟨by rw [setW_len]; exact ho.lt, by rw [(setW_head n).2.2]; exact ho.qt, by rw [(setW_head n).2.1]; exact ho.eq, by rw [setW_of]; exact ho.of⟩
        refine ⟨by omega, by rw [fetch_at hm ho], ?_, fun o hne => ?_⟩
        · show fetchM cap (setW l n q (doorW att)) (base + fn) = _
          rw [fetch_at hm2 hw, fetch_at hm ho, setW_at, if_pos ⟨rfl, ho.lt⟩]
          show (((l.getD n Blk.z).w.set q (doorW att)).getD q 0, _, true) = _
          rw [getD_set_eq ho.qt]
        · show fetchM cap (setW l n q (doorW att)) o = _
          rcases ofM_cases l o with h1 | ⟨n2, q2, h1⟩
          · rw [fetch_no (.inr h1), fetch_no (.inr (by rw [setW_of]; exact h1))]
          · have hw2 : WordAt (setW l n q (doorW att)) o n2 q2 := ⟨by rw [setW_len]; exact h1.lt, by rw [(setW_head n2).2.2]; exact h1.qt, by rw [(setW_head n2).2.1]; exact h1.eq, by rw [setW_of]; exact h1.of⟩
            rw [fetch_at hm2 hw2, fetch_at hm h1, setW_at]
            split
            · rename_i h2
              obtain ⟨rfl, _⟩ := h2
              have hq : q ≠ q2 := fun e => hne (by have := ho.eq; have := h1.eq; subst e; omega)
              simp [List.getElem?_set_ne hq]
            · rfl
theorem turn_sm {cap : Int} {l : List Blk} {base fn att : Int} (hs : ∀ j, (l.getD j Blk.z).w.length ≤ 1000000) : ∀ j, ((turnM cap l base fn att).1.2.getD j Blk.z).w.length ≤ 1000000 := by
  intro j
  unfold turnM patchM
  split
  · exact sm_nil j
  · split
    · exact sm_nil j
    · split
      · exact sm_nil j
      · show ((setW l _ _ _).getD j Blk.z).w.length ≤ 1000000
        rw [(setW_head j).2.2]; exact hs j
theorem codeN_door : codeN ⟨1, 0, 0, 0, false, 0, 0⟩ = (22, true) := by decide +kernel
theorem patT_22 : patT.getD 22 patZ = (1, 0, false) := by decide +kernel
theorem door_eq {att : Int} (h0 : 0 ≤ att) (h1 : att ≤ 1023) : putW ⟨1, 0, 0, 0, false, 0, 0⟩ att = (6192449487634432 + att * 4294967296, 0) := by
  rw [putW_yes (by rw [codeN_door]) h0 h1 (.inr rfl), codeN_door]
  simp
theorem get_door {att : Int} (h0 : 0 ≤ att) (h1 : att ≤ 1023) : getW (doorW att) = (⟨1, 0, 0, 0, false, 0, 0⟩, att, 0) := by
  have he : doorW att = 6192449487634432 + att * 4294967296 := congrArg Prod.fst (door_eq h0 h1)
  have hp : wPat (doorW att) = (1, 0, false) := by
    unfold wPat
    rw [he, show ((6192449487634432 + att * 4294967296) / 281474976710656).toNat = 22 by omega, patT_22]
  have hi : wInst (doorW att) = ⟨1, 0, 0, 0, false, 0, 0⟩ := by
    unfold wInst
    rw [hp, he, show (6192449487634432 + att * 4294967296) / 35184372088832 % 8 = 0 by omega, show (6192449487634432 + att * 4294967296) / 4398046511104 % 8 = 0 by omega, show (6192449487634432 + att * 4294967296) % 4294967296 = 0 by omega]
  have ht : wTo (doorW att) = att := by unfold wTo; rw [he]; omega
  rw [getW_yes (by rw [he]; omega) (by rw [hi, ht, door_eq h0 h1]) (by rw [hi, ht]; rfl), hi, ht]
end Go.Proofs.Ytfknhbgghpbkpaa
