/- The reader. -/
import Derived.Test.YtfknhbgghpbkpaaRd
namespace Go.Proofs.Ytfknhbgghpbkpaa
open Go.RowKit Cal Go.Proofs.YtfknhbgghpbkpaaW.PrintWords
theorem bePart (b : Nat) (A : Option Addr) (c : Nat) (bs : List Int) (l h : Nat) (w : World) (hblk : w.heap[b]? = some (.cells #[.slice A bs.length c] 71 (0, 0))) (hC : kB.C w A bs.length bs) (hc : bs.length ≤ c) (hlh : l ≤ h) (hh : h ≤ bs.length) (hb : ∀ x ∈ bs, isB x) (hn : h - l ≤ 4) (hmx : h ≤ 1000) : Calls Try.prog 163 #[.int .i64 (l : Int), .int .i64 (h : Int), .pointer (some ⟨b, 0, none⟩)] w fun e w' => e = .returned (.int .i64 (beP bs l h)) ∧ Below w.heap.size w w' := by
  have M := Mem.refl w
  have hys : ∀ x ∈ ((bs.take h).drop l), isB x := fun x hx => hb x (List.mem_of_mem_take (List.mem_of_mem_drop hx))
  have hyl : ((bs.take h).drop l).length = h - l := by rw [List.length_drop, List.length_take]; omega
  have h4 : ((bs.take h).drop l).length ≤ 4 := by omega
  refine calls_tc (N := 25) (args := [.int .i64 (l : Int), .int .i64 (h : Int), .pointer (some ⟨b, 0, none⟩)]) Try.func163 rfl rfl rfl ?_
  refine tc_seq (tc_region ?_)
  refine sg 1 [0, 1, 2] [(0, .int .i64 (l : Int)), (1, .int .i64 (h : Int)), (2, .pointer (some ⟨b, 0, none⟩))] ?_
  refine to_end rfl (tn_code (tc_seq (tc_region ?_)))
  refine sg 1 [0, 1, 2, 6] [(0, .int .i64 (l : Int)), (1, .int .i64 (h : Int)), (2, .pointer (some ⟨b, 0, none⟩)), (6, .int .i64 0)] ?_
  refine to_end rfl (tn_code (tc_seq (tc_seq (tc_region ?_))))
  refine le 9 (.slice A bs.length c) (cell_up M ((blk_cell hblk 0).trans rfl)) ?_
  refine sg 2 [6, 9, 10, 11] [(6, .int .i64 0), (9, .slice A bs.length c), (10, .int .i64 (l : Int)), (11, .int .i64 (h : Int))] ?_
  refine slm _ hC 12 l h (by omega) (by omega) hc Try.underlying71 fun A1 hC2 hle3 => ?_
  refine sg 2 [6, 12, 13, 14] [(6, .int .i64 0), (12, .slice A1 ((bs.take h).drop l).length (c - l)), (13, .int .i64 (((bs.take h).drop l).length : Int)), (14, .int .i64 0)] ?_
  refine to_end rfl (tn_code (tc_block ?_))
  refine tc_loop (σ := Nat) (fun k4 => [(12, .slice A1 ((bs.take h).drop l).length (c - l)), (13, .int .i64 (((bs.take h).drop l).length : Int)), (14, .int .i64 (k4 : Int)), (6, .int .i64 (beN (List.take k4 ((bs.take h).drop l))))]) (fun k4 w' => k4 ≤ ((bs.take h).drop l).length ∧ True ∧ Mem w w' []) (fun k4 => ((bs.take h).drop l).length - k4) 0 (Sub.cons rfl (Sub.cons rfl (Sub.cons rfl (Sub.cons rfl (Sub.nil _))))) ⟨Nat.zero_le _, trivial, M⟩ ?_
  rintro k4 w7 ⟨hk5, hi6, M8⟩
  have hbt := beN_take hys h4 k4
  refine tc_seq (tc_region ?_)
  refine sg 1 [12, 13, 14, 6, 15] [(12, .slice A1 ((bs.take h).drop l).length (c - l)), (13, .int .i64 (((bs.take h).drop l).length : Int)), (14, .int .i64 (k4 : Int)), (6, .int .i64 (beN (List.take k4 ((bs.take h).drop l)))), (15, .bool (decide ((k4 : Int) < (((bs.take h).drop l).length : Int))))] ?_
  refine to_end rfl (tn_code (tc_seq ?_))
  refine tc_cond (b := decide ((k4 : Int) < (((bs.take h).drop l).length : Int))) (fun _ => rfl) (fun h9 => ?_) (fun h9 => ?_)
  · have h9p := of_decide_eq_true h9
    refine tc_skip (tn_code (tc_seq (tc_block (tc_seq (tc_region ?_)))))
    obtain ⟨ad10, rfl⟩ := C_some hC2 (k := k4) (by omega)
    refine ix (ad := ad10) (n := ((bs.take h).drop l).length) (c := (c - l)) 16 k4 1 (by omega) Try.underlying71 ?_
    obtain ⟨cs13, hk11, hc12⟩ := C_cell hC2 (0 : Int) k4 (by omega)
    obtain rfl := kB_open hk11
    refine le 17 (.int .u8 (((bs.take h).drop l).getD k4 (0 : Int))) (cell_up M8 (hc12 0 _ rfl)) ?_
    have hb14 : 0 ≤ ((bs.take h).drop l).getD k4 0 ∧ ((bs.take h).drop l).getD k4 0 < 256 := isB_at hys k4 (by omega)
    refine sg 1 [12, 13, 14, 6, 8] [(12, .slice (some ad10) ((bs.take h).drop l).length (c - l)), (13, .int .i64 (((bs.take h).drop l).length : Int)), (14, .int .i64 (k4 : Int)), (6, .int .i64 (beN (List.take k4 ((bs.take h).drop l)))), (8, .int .u8 (((bs.take h).drop l).getD k4 (0 : Int)))] ?_
    refine to_end rfl (tn_code (tc_region ?_))
    refine sg 6 [12, 13, 14, 6] [(12, .slice (some ad10) ((bs.take h).drop l).length (c - l)), (13, .int .i64 (((bs.take h).drop l).length : Int)), (14, .int .i64 (k4 : Int)), (6, .int .i64 (bits .or .i64 (IntKind.wrap .i64 ((beN (List.take k4 ((bs.take h).drop l))) * 256)) (IntKind.wrap .i64 (((bs.take h).drop l).getD k4 (0 : Int)))))] ?_
    rw [wr_i64 (x := (beN (List.take k4 ((bs.take h).drop l))) * 256) (by omega) (by omega)]
    rw [wr_i64 (x := (((bs.take h).drop l).getD k4 (0 : Int))) (by omega) (by omega)]
    rw [or_low (a := (beN (List.take k4 ((bs.take h).drop l)))) (c := (((bs.take h).drop l).getD k4 (0 : Int))) (by omega) (by omega) (by omega) (by omega)]
    refine to_end rfl (tn_blk (tn_code (tc_region ?_)))
    refine sg 2 [12, 13, 14, 6] [(12, .slice (some ad10) ((bs.take h).drop l).length (c - l)), (13, .int .i64 (((bs.take h).drop l).length : Int)), (14, .int .i64 (IntKind.wrap .i64 ((k4 : Int) + 1))), (6, .int .i64 (((beN (List.take k4 ((bs.take h).drop l))) * 256) + (((bs.take h).drop l).getD k4 (0 : Int))))] ?_
    rw [show IntKind.wrap .i64 ((k4 : Int) + 1) = (((k4 + 1) : Nat) : Int) from wr_nat k4 1 (by omega)]
    refine to_end rfl ?_
    rw [show (((beN (List.take k4 ((bs.take h).drop l))) * 256) + (((bs.take h).drop l).getD k4 (0 : Int))) = (beN (List.take (k4 + 1) ((bs.take h).drop l))) from (beN_step ((bs.take h).drop l) k4 (by omega)).symm]
    exact tn_back (k4 + 1) (Sub.cons rfl (Sub.cons rfl (Sub.cons rfl (Sub.cons rfl (Sub.nil _))))) ⟨by omega, trivial, M8⟩ (by omega)
  · have h9p := of_decide_eq_false h9
    refine tc_exitK (k' := _) rfl (tn_code (tc_seq (tc_region ?_)))
    refine sg 2 [5] [(5, .int .i64 (beN (List.take k4 ((bs.take h).drop l))))] ?_
    refine to_end rfl (tn_code (tc_ret ?_))
    refine tr_tmp rfl rfl ?_
    exact ⟨congrArg Ending.returned (by rw [List.take_of_length_le (by omega)]; rfl), M8.below⟩

theorem iget_any (A : Option Addr) (c : Nat) (bs : List Int) (w : World) (hC : kB.C w A bs.length bs) (hc : bs.length ≤ c) (hb : ∀ x ∈ bs, isB x) : Calls Try.prog 136 #[.slice A bs.length c] w fun e w' => e = .returned (.tuple #[.agg (instGet bs).1.cs, .int .i64 (instGet bs).2]) ∧ Below w.heap.size w w' := by
  have M := Mem.refl w
  have p0 := beP_bd hb 0 1 1 (by decide) (by decide)
  have p1 := beP_bd hb 1 2 1 (by decide) (by decide)
  have p2 := beP_bd hb 2 4 2 (by decide) (by decide)
  have p4 := beP_bd hb 4 8 4 (by decide) (by decide)
  simp only [show (256 : Int) ^ 1 = 256 from rfl, show (256 : Int) ^ 2 = 65536 from rfl, show (256 : Int) ^ 4 = 4294967296 from rfl] at p0 p1 p2 p4
  refine calls_tc (N := 40) (args := [.slice A bs.length c]) Try.func136 rfl rfl rfl ?_
  refine tc_seq (tc_region ?_)
  refine nw M 1 #[.slice A bs.length c] 71 fun b1 w2 M3 => ?_
  refine nw M3 2 #[.int .i64 0, .int .i64 0, .int .i64 0, .int .i64 0, .bool false, .int .i64 0, .int .u32 0] 65 fun b4 w5 M6 => ?_
  refine sg 1 [1, 2] [(1, .pointer (some ⟨b1, 0, none⟩)), (2, .pointer (some ⟨b4, 0, none⟩))] ?_
  refine to_end rfl (tn_code (tc_seq (tc_seq (tc_region ?_))))
  refine ld M6 1 8 (.slice A bs.length c) ?_
  refine sg 2 [1, 2, 10] [(1, .pointer (some ⟨b1, 0, none⟩)), (2, .pointer (some ⟨b4, 0, none⟩)), (10, .bool ((bs.length : Int) != 8))] ?_
  refine to_end rfl (tn_code ?_)
  refine tc_cond (b := (bs.length : Int) != 8) (fun _ => rfl) (fun h7 => ?_) (fun h7 => ?_)
  · have h7p := bne_iff_ne.1 h7
    refine tc_seq (tc_region ?_)
    refine sg 1 [2, 11] [(2, .pointer (some ⟨b4, 0, none⟩)), (11, .agg #[.int .i64 0, .int .i64 0, .int .i64 0, .int .i64 0, .bool false, .int .i64 0, .int .u32 0])] ?_
    refine sa M6 0 #[.int .i64 0, .int .i64 0, .int .i64 0, .int .i64 0, .bool false, .int .i64 0, .int .u32 0] fun w8 M9 => ?_
    refine sg 1 [2, 3] [(2, .pointer (some ⟨b4, 0, none⟩)), (3, .int .i64 7)] ?_
    refine to_end rfl (tn_code (tc_ret ?_))
    refine tr_cell_tmp M9 0 rfl rfl rfl rfl Try.underlying65 rfl (by kernel_rfl) ?_
    have hg : instGet bs = (Inst.z, 7) := if_neg (fun h_ => by have h1 := h_.1; omega)
    exact ⟨by rw [hg]; rfl, M9.below⟩
  · have h7p := bne_eq_false_iff_eq.1 h7
    refine tc_skip (tn_code (tc_seq (tc_region ?_)))
    refine sg 2 [2, 4] [(2, .pointer (some ⟨b4, 0, none⟩)), (4, .func (.func 163) #[] #[.pointer (some ⟨b1, 0, none⟩)])] ?_
    refine to_end rfl (tn_code (tc_seq (tc_region ?_)))
    refine sg 1 [2, 4, 13] [(2, .pointer (some ⟨b4, 0, none⟩)), (4, .func (.func 163) #[] #[.pointer (some ⟨b1, 0, none⟩)]), (13, .func (.func 163) #[] #[.pointer (some ⟨b1, 0, none⟩)])] ?_
    refine cb M6 14 (bePart _ A c bs 0 1 _ (M6.blk_at 1 rfl) (C_up M6 hC) hc (by omega) (by omega) hb (by omega) (by omega)) fun w10 hb12 M11 => ?_
    refine sg 1 [2, 4, 14, 15] [(2, .pointer (some ⟨b4, 0, none⟩)), (4, .func (.func 163) #[] #[.pointer (some ⟨b1, 0, none⟩)]), (14, .int .i64 (beP bs 0 1)), (15, .func (.func 163) #[] #[.pointer (some ⟨b1, 0, none⟩)])] ?_
    refine cb M11 16 (bePart _ A c bs 1 2 _ (M11.blk_at 1 rfl) (C_up M11 hC) hc (by omega) (by omega) hb (by omega) (by omega)) fun w13 hb15 M14 => ?_
    refine sg 2 [2, 4, 5, 6] [(2, .pointer (some ⟨b4, 0, none⟩)), (4, .func (.func 163) #[] #[.pointer (some ⟨b1, 0, none⟩)]), (5, .int .i64 (beP bs 0 1)), (6, .int .i64 (beP bs 1 2))] ?_
    refine to_end rfl (tn_code (tc_seq (tc_region ?_)))
    refine sg 6 [2, 4, 6, 18, 20, 22] [(2, .pointer (some ⟨b4, 0, none⟩)), (4, .func (.func 163) #[] #[.pointer (some ⟨b1, 0, none⟩)]), (6, .int .i64 (beP bs 1 2)), (18, .int .i64 (IntKind.wrap .i64 (Int.tdiv (beP bs 0 1) 16))), (20, .int .i64 (Int.tmod (beP bs 0 1) 16)), (22, .int .i64 (bits .and .i64 (beP bs 1 2) 128))] ?_
    rw [quo_pos (x := (beP bs 0 1)) (c := 16) (by omega) (by omega) (by decide)]
    rw [show Int.tmod (beP bs 0 1) 16 = (beP bs 0 1) % 16 from Int.tmod_eq_emod_of_nonneg (by omega)]
    rw [and128 (r := (beP bs 1 2)) (by omega) (by omega)]
    refine sg 7 [2, 4, 18, 20, 23, 26, 28, 29] [(2, .pointer (some ⟨b4, 0, none⟩)), (4, .func (.func 163) #[] #[.pointer (some ⟨b1, 0, none⟩)]), (18, .int .i64 ((beP bs 0 1) / 16)), (20, .int .i64 ((beP bs 0 1) % 16)), (23, .bool (((beP bs 1 2) / 128 * 128) != 0)), (26, .int .i64 (Int.fdiv (bits .andNot .i64 (beP bs 1 2) 128) 8)), (28, .int .i64 (bits .and .i64 (beP bs 1 2) 7)), (29, .func (.func 163) #[] #[.pointer (some ⟨b1, 0, none⟩)])] ?_
    rw [andNot128 (r := (beP bs 1 2)) (by omega) (by omega)]
    rw [show Int.fdiv ((beP bs 1 2) % 128) 8 = ((beP bs 1 2) % 128) / 8 from Int.fdiv_eq_ediv_of_nonneg _ (by decide)]
    rw [and7 (r := (beP bs 1 2)) (by omega) (by omega)]
    refine cb M14 30 (bePart _ A c bs 2 4 _ (M14.blk_at 1 rfl) (C_up M14 hC) hc (by omega) (by omega) hb (by omega) (by omega)) fun w16 hb18 M17 => ?_
    refine sg 1 [2, 18, 20, 23, 26, 28, 30, 31] [(2, .pointer (some ⟨b4, 0, none⟩)), (18, .int .i64 ((beP bs 0 1) / 16)), (20, .int .i64 ((beP bs 0 1) % 16)), (23, .bool (((beP bs 1 2) / 128 * 128) != 0)), (26, .int .i64 (((beP bs 1 2) % 128) / 8)), (28, .int .i64 ((beP bs 1 2) % 8)), (30, .int .i64 (beP bs 2 4)), (31, .func (.func 163) #[] #[.pointer (some ⟨b1, 0, none⟩)])] ?_
    refine cb M17 32 (bePart _ A c bs 4 8 _ (M17.blk_at 1 rfl) (C_up M17 hC) hc (by omega) (by omega) hb (by omega) (by omega)) fun w19 hb21 M20 => ?_
    refine sg 2 [2, 34] [(2, .pointer (some ⟨b4, 0, none⟩)), (34, .agg #[.int .i64 ((beP bs 0 1) / 16), .int .i64 ((beP bs 0 1) % 16), .int .i64 (((beP bs 1 2) % 128) / 8), .int .i64 ((beP bs 1 2) % 8), .bool (((beP bs 1 2) / 128 * 128) != 0), .int .i64 (beP bs 2 4), .int .u32 (IntKind.wrap .u32 (beP bs 4 8))])] ?_
    rw [wr_u32 (x := (beP bs 4 8)) (by omega) (by omega)]
    refine nw M20 7 #[.int .i64 0, .int .i64 0, .int .i64 0, .int .i64 0, .bool false, .int .i64 0, .int .u32 0] 65 fun b22 w23 M24 => ?_
    refine sa M24 0 #[.int .i64 ((beP bs 0 1) / 16), .int .i64 ((beP bs 0 1) % 16), .int .i64 (((beP bs 1 2) % 128) / 8), .int .i64 ((beP bs 1 2) % 8), .bool (((beP bs 1 2) / 128 * 128) != 0), .int .i64 (beP bs 2 4), .int .u32 (beP bs 4 8)] fun w25 M26 => ?_
    refine to_end rfl (tn_code (tc_seq (tc_seq (tc_region ?_))))
    refine la M26 0 35 #[.int .i64 ((beP bs 0 1) / 16), .int .i64 ((beP bs 0 1) % 16), .int .i64 (((beP bs 1 2) % 128) / 8), .int .i64 ((beP bs 1 2) % 8), .bool (((beP bs 1 2) / 128 * 128) != 0), .int .i64 (beP bs 2 4), .int .u32 (beP bs 4 8)] (hu := Try.underlying65) ?_
    refine cb M26 36 (may_any ⟨((beP bs 0 1) / 16), ((beP bs 0 1) % 16), (((beP bs 1 2) % 128) / 8), ((beP bs 1 2) % 8), ((beP bs 1 2) / 128 * 128) != 0, (beP bs 2 4), (beP bs 4 8)⟩ _) fun w27 hb29 M28 => ?_
    refine sg 1 [2, 7, 37] [(2, .pointer (some ⟨b4, 0, none⟩)), (7, .pointer (some ⟨b22, 0, none⟩)), (37, .bool (!(instMay ⟨((beP bs 0 1) / 16), ((beP bs 0 1) % 16), (((beP bs 1 2) % 128) / 8), ((beP bs 1 2) % 8), ((beP bs 1 2) / 128 * 128) != 0, (beP bs 2 4), (beP bs 4 8)⟩)))] ?_
    refine to_end rfl (tn_code ?_)
    rcases h30 : (instMay ⟨((beP bs 0 1) / 16), ((beP bs 0 1) % 16), (((beP bs 1 2) % 128) / 8), ((beP bs 1 2) % 8), ((beP bs 1 2) / 128 * 128) != 0, (beP bs 2 4), (beP bs 4 8)⟩ : Bool) with _ | _
    · refine tc_cond_t (fun _ => rfl) (tc_seq (tc_region ?_))
      refine sg 1 [2, 38] [(2, .pointer (some ⟨b4, 0, none⟩)), (38, .agg #[.int .i64 0, .int .i64 0, .int .i64 0, .int .i64 0, .bool false, .int .i64 0, .int .u32 0])] ?_
      refine sa M28 1 #[.int .i64 0, .int .i64 0, .int .i64 0, .int .i64 0, .bool false, .int .i64 0, .int .u32 0] fun w31 M32 => ?_
      refine sg 1 [2, 3] [(2, .pointer (some ⟨b4, 0, none⟩)), (3, .int .i64 7)] ?_
      refine to_end rfl (tn_code (tc_ret ?_))
      refine tr_cell_tmp M32 1 rfl rfl rfl rfl Try.underlying65 rfl (by kernel_rfl) ?_
      have hg : instGet bs = (Inst.z, 7) := if_neg (fun h_ => by have h1 := h_.2; rw [show instMay (instOf bs) = false from h30] at h1; cases h1)
      exact ⟨by rw [hg]; rfl, M32.below⟩
    · refine tc_cond_f (fun _ => rfl) (tc_skip (tn_code (tc_seq (tc_region ?_))))
      refine la M28 0 39 #[.int .i64 ((beP bs 0 1) / 16), .int .i64 ((beP bs 0 1) % 16), .int .i64 (((beP bs 1 2) % 128) / 8), .int .i64 ((beP bs 1 2) % 8), .bool (((beP bs 1 2) / 128 * 128) != 0), .int .i64 (beP bs 2 4), .int .u32 (beP bs 4 8)] (hu := Try.underlying65) ?_
      refine sa M28 1 #[.int .i64 ((beP bs 0 1) / 16), .int .i64 ((beP bs 0 1) % 16), .int .i64 (((beP bs 1 2) % 128) / 8), .int .i64 ((beP bs 1 2) % 8), .bool (((beP bs 1 2) / 128 * 128) != 0), .int .i64 (beP bs 2 4), .int .u32 (beP bs 4 8)] fun w33 M34 => ?_
      refine sg 1 [2, 3] [(2, .pointer (some ⟨b4, 0, none⟩)), (3, .int .i64 0)] ?_
      refine to_end rfl (tn_code (tc_ret ?_))
      refine tr_cell_tmp M34 1 rfl rfl rfl rfl Try.underlying65 rfl (by kernel_rfl) ?_
      have hg : instGet bs = (instOf bs, 0) := if_pos ⟨by omega, h30⟩
      exact ⟨by rw [hg]; rfl, M34.below⟩

theorem take_any {wr : World} {L : List Ent} (b : Nat) (A : Option Addr) (c : Nat) (s : RS) (w : World) (M : Mem wr w (blk b #[.slice A s.1.length c, .bool s.2] 150 :: L)) (hC : kB.C wr A s.1.length s.1) (hc : s.1.length ≤ c) (n : Nat) (hn : n ≤ 8) : Calls Try.prog 137 #[.pointer (some ⟨b, 0, none⟩), .int .i64 (n : Int)] w fun e w' => ∃ A' c' A2 c2, e = .returned (.slice A' (rdTake n s).1.length c') ∧ Mem wr w' (blk b #[.slice A2 (rdTake n s).2.1.length c2, .bool (rdTake n s).2.2] 150 :: L) ∧ kB.C w' A' (rdTake n s).1.length (rdTake n s).1 ∧ kB.C wr A2 (rdTake n s).2.1.length (rdTake n s).2.1 ∧ (rdTake n s).2.1.length ≤ c2 ∧ (rdTake n s).1.length ≤ c' := by
  refine calls_tc (N := 44) (args := [.pointer (some ⟨b, 0, none⟩), .int .i64 (n : Int)]) Try.func137 rfl rfl rfl ?_
  refine tc_seq (tc_region ?_)
  refine sg 1 [0, 1] [(0, .pointer (some ⟨b, 0, none⟩)), (1, .int .i64 (n : Int))] ?_
  refine to_end rfl (tn_code (tc_seq (tc_seq (tc_region ?_))))
  refine sg 4 [0, 1, 6, 9] [(0, .pointer (some ⟨b, 0, none⟩)), (1, .int .i64 (n : Int)), (6, .pointer (some ⟨b, 0, none⟩)), (9, .pointer (some ⟨b, 1, none⟩))] ?_
  refine ld M 0 10 (.bool s.2) ?_
  refine sg 1 [0, 1, 6, 11] [(0, .pointer (some ⟨b, 0, none⟩)), (1, .int .i64 (n : Int)), (6, .pointer (some ⟨b, 0, none⟩)), (11, .bool s.2)] ?_
  rcases h1 : (s.2 : Bool) with _ | _
  · refine sg 3 [0, 1, 6, 11, 14] [(0, .pointer (some ⟨b, 0, none⟩)), (1, .int .i64 (n : Int)), (6, .pointer (some ⟨b, 0, none⟩)), (11, .bool false), (14, .pointer (some ⟨b, 0, none⟩))] ?_
    refine ld M 0 15 (.slice A s.1.length c) ?_
    refine sg 6 [0, 1, 19, 21] [(0, .pointer (some ⟨b, 0, none⟩)), (1, .int .i64 (n : Int)), (19, .bool (decide ((s.1.length : Int) < (n : Int)))), (21, .pointer (some ⟨b, 1, none⟩))] ?_
    refine st M 0 #[.slice A s.1.length c, .bool (decide ((s.1.length : Int) < (n : Int)))] fun w2 M3 => ?_
    refine to_end rfl (tn_code (tc_seq (tc_region ?_)))
    refine sg 3 [0, 1, 24] [(0, .pointer (some ⟨b, 0, none⟩)), (1, .int .i64 (n : Int)), (24, .pointer (some ⟨b, 1, none⟩))] ?_
    refine ld M3 0 25 (.bool (decide ((s.1.length : Int) < (n : Int)))) ?_
    refine to_end rfl (tn_code ?_)
    refine tc_cond (b := decide ((s.1.length : Int) < (n : Int))) (fun _ => rfl) (fun h4 => ?_) (fun h4 => ?_)
    · have h4p := of_decide_eq_true h4
      rw [h4] at M3
      refine tc_seq (tc_region ?_)
      refine sg 1 [26] [(26, .int .i64 (n : Int))] ?_
      refine mk M3 27 n kB 0 (.int .u8 0) 1 Try.underlying71 (by omega) (fun _ _ => rfl) fun b5 w6 M7 => ?_
      refine sg 1 [4] [(4, .slice (some ⟨b5, 0, none⟩) n n)] ?_
      refine to_end rfl (tn_code (tc_ret ?_))
      refine tr_tmp rfl rfl ?_
      have hr : rdTake n s = (List.replicate n 0, (s.1, true)) := if_pos (.inr (by omega))
      have hz := M7.row_C 0 rfl
      rw [hr]
      refine ⟨(some ⟨b5, 0, none⟩), n, _, _, by rw [List.length_replicate], (M7.drop 0), ?_, hC, hc, by simp⟩
      simpa using hz
    · have h4p := of_decide_eq_false h4
      rw [h4] at M3
      refine tc_skip (tn_code (tc_seq (tc_region ?_)))
      refine sg 3 [0, 1, 30] [(0, .pointer (some ⟨b, 0, none⟩)), (1, .int .i64 (n : Int)), (30, .pointer (some ⟨b, 0, none⟩))] ?_
      refine ld M3 0 31 (.slice A s.1.length c) ?_
      refine sg 1 [0, 1, 31, 32] [(0, .pointer (some ⟨b, 0, none⟩)), (1, .int .i64 (n : Int)), (31, .slice A s.1.length c), (32, .int .i64 (n : Int))] ?_
      refine slt _ hC 33 n (by omega) hc Try.underlying71 fun hC9 hle10 => ?_
      refine sg 1 [0, 1, 5] [(0, .pointer (some ⟨b, 0, none⟩)), (1, .int .i64 (n : Int)), (5, .slice A (s.1.take n).length c)] ?_
      refine to_end rfl (tn_code (tc_seq (tc_region ?_)))
      refine sg 4 [1, 5, 34, 37] [(1, .int .i64 (n : Int)), (5, .slice A (s.1.take n).length c), (34, .pointer (some ⟨b, 0, none⟩)), (37, .pointer (some ⟨b, 0, none⟩))] ?_
      refine ld M3 0 38 (.slice A s.1.length c) ?_
      refine sg 1 [5, 34, 38, 39] [(5, .slice A (s.1.take n).length c), (34, .pointer (some ⟨b, 0, none⟩)), (38, .slice A s.1.length c), (39, .int .i64 (n : Int))] ?_
      refine slf _ hC 40 n (by omega) hc Try.underlying71 fun A11 hC12 hle13 => ?_
      refine sg 2 [5, 40, 42] [(5, .slice A (s.1.take n).length c), (40, .slice A11 (s.1.drop n).length (c - n)), (42, .pointer (some ⟨b, 0, none⟩))] ?_
      refine st M3 0 #[.slice A11 (s.1.drop n).length (c - n), .bool false] fun w14 M15 => ?_
      refine to_end rfl (tn_code (tc_seq (tc_region ?_)))
      refine sg 2 [4] [(4, .slice A (s.1.take n).length c)] ?_
      refine to_end rfl (tn_code (tc_ret ?_))
      refine tr_tmp rfl rfl ?_
      have hr : rdTake n s = (s.1.take n, (s.1.drop n, false)) := if_neg (by rw [h1]; simp; omega)
      rw [hr]
      exact ⟨_, _, _, _, rfl, M15, C_up M15 hC9, hC12, hle13, hle10⟩
  · refine sg 10 [0, 1, 19, 21] [(0, .pointer (some ⟨b, 0, none⟩)), (1, .int .i64 (n : Int)), (19, .bool true), (21, .pointer (some ⟨b, 1, none⟩))] ?_
    refine st M 0 #[.slice A s.1.length c, .bool true] fun w16 M17 => ?_
    refine to_end rfl (tn_code (tc_seq (tc_region ?_)))
    refine sg 3 [0, 1, 24] [(0, .pointer (some ⟨b, 0, none⟩)), (1, .int .i64 (n : Int)), (24, .pointer (some ⟨b, 1, none⟩))] ?_
    refine ld M17 0 25 (.bool true) ?_
    refine to_end rfl (tn_code (tc_cond_t (fun _ => rfl) (tc_seq (tc_region ?_))))
    refine sg 1 [26] [(26, .int .i64 (n : Int))] ?_
    refine mk M17 27 n kB 0 (.int .u8 0) 1 Try.underlying71 (by omega) (fun _ _ => rfl) fun b18 w19 M20 => ?_
    refine sg 1 [4] [(4, .slice (some ⟨b18, 0, none⟩) n n)] ?_
    refine to_end rfl (tn_code (tc_ret ?_))
    refine tr_tmp rfl rfl ?_
    have hr : rdTake n s = (List.replicate n 0, (s.1, true)) := if_pos (.inl h1)
    have hz := M20.row_C 0 rfl
    rw [hr]
    refine ⟨(some ⟨b18, 0, none⟩), n, _, _, by rw [List.length_replicate], (M20.drop 0), ?_, hC, hc, by simp⟩
    simpa using hz

theorem part_int {wr : World} {L : List Ent} (b : Nat) (A : Option Addr) (c : Nat) (s : RS) (w : World) (M : Mem wr w (blk b #[.slice A s.1.length c, .bool s.2] 150 :: L)) (hC : kB.C wr A s.1.length s.1) (hc : s.1.length ≤ c) (ho : rsOk s) (z : Int) : Calls Try.prog 104 #[.pointer (some ⟨b, 0, none⟩), .iface 3 (.int .i64 z)] w fun e w' => ∃ A2 c2, e = .returned (.iface 3 (.int .i64 (rdInt s).1)) ∧ Mem wr w' (blk b #[.slice A2 (rdInt s).2.1.length c2, .bool (rdInt s).2.2] 150 :: L) ∧ kB.C wr A2 (rdInt s).2.1.length (rdInt s).2.1 ∧ (rdInt s).2.1.length ≤ c2 := by
  refine calls_tc (N := 81) (args := [.pointer (some ⟨b, 0, none⟩), .iface 3 (.int .i64 z)]) Try.func104 rfl rfl rfl ?_
  refine tc_seq (tc_region ?_)
  refine sg 1 [0, 1] [(0, .pointer (some ⟨b, 0, none⟩)), (1, .iface 3 (.int .i64 z))] ?_
  refine to_end rfl (tn_code (tc_seq (tc_seq (tc_region ?_))))
  refine sg 1 [0, 11] [(0, .pointer (some ⟨b, 0, none⟩)), (11, .iface 3 (.int .i64 z))] ?_
  refine to_end rfl (tn_code (tc_block (tc_seq (tc_region ?_))))
  refine sg 3 [0, 11, 13] [(0, .pointer (some ⟨b, 0, none⟩)), (11, .iface 3 (.int .i64 z)), (13, .bool false)] ?_
  refine to_end rfl (tn_code (tc_cond_f (fun _ => rfl) (tc_seq (tc_region ?_))))
  refine sg 3 [0, 35] [(0, .pointer (some ⟨b, 0, none⟩)), (35, .bool false)] ?_
  refine to_end rfl (tn_code (tc_cond_f (fun _ => rfl) (tc_skip (tn_blk (tn_code (tc_seq (tc_region ?_)))))))
  refine sg 1 [75] [(75, .pointer (some ⟨b, 0, none⟩))] ?_
  refine ce 76 (take_any b A c s _ M hC hc 1 (by omega)) fun e10 w11 h12 => ?_
  obtain ⟨A1, c2, A3, c4, rfl, M5, hn6, hC7, hl8, hl9⟩ := h12
  refine ⟨_, rfl, ?_⟩
  obtain ⟨ad13, rfl⟩ := C_some hn6 (k := 0) (by first | omega | (rw [rdTake_len]; decide))
  refine ix (ad := ad13) (n := (rdTake 1 s).1.length) (c := c2) 77 0 1 (by first | omega | (rw [rdTake_len]; decide)) Try.underlying71 ?_
  obtain ⟨cs16, hk14, hc15⟩ := C_cell hn6 (0 : Int) 0 (by first | omega | (rw [rdTake_len]; decide))
  obtain rfl := kB_open hk14
  refine le 78 (.int .u8 ((rdTake 1 s).1.getD 0 (0 : Int))) (hc15 0 _ rfl) ?_
  have hb17 : 0 ≤ (rdTake 1 s).1.getD 0 0 ∧ (rdTake 1 s).1.getD 0 0 < 256 := isB_at (rdTake_isB 1 ho) 0 (by rw [rdTake_len]; decide)
  refine sg 3 [4] [(4, .iface 3 (.int .i64 (IntKind.wrap .i64 ((rdTake 1 s).1.getD 0 (0 : Int)))))] ?_
  rw [wr_i64 (x := ((rdTake 1 s).1.getD 0 (0 : Int))) (by omega) (by omega)]
  refine to_end rfl (tn_code (tc_ret ?_))
  refine tr_tmp rfl rfl ?_
  exact ⟨_, _, rfl, M5, hC7, hl8⟩

theorem part_inst {wr : World} {L : List Ent} (b : Nat) (A : Option Addr) (c : Nat) (s : RS) (w : World) (M : Mem wr w (blk b #[.slice A s.1.length c, .bool s.2] 150 :: L)) (hC : kB.C wr A s.1.length s.1) (hc : s.1.length ≤ c) (ho : rsOk s) (z : Inst) : Calls Try.prog 104 #[.pointer (some ⟨b, 0, none⟩), .iface 65 (.agg z.cs)] w fun e w' => ∃ A2 c2, e = .returned (.iface 65 (.agg (rdInst s).1.cs)) ∧ Mem wr w' (blk b #[.slice A2 (rdInst s).2.1.length c2, .bool (rdInst s).2.2] 150 :: L) ∧ kB.C wr A2 (rdInst s).2.1.length (rdInst s).2.1 ∧ (rdInst s).2.1.length ≤ c2 := by
  refine calls_tc (N := 81) (args := [.pointer (some ⟨b, 0, none⟩), .iface 65 (.agg z.cs)]) Try.func104 rfl rfl rfl ?_
  refine tc_seq (tc_region ?_)
  refine sg 1 [0, 1] [(0, .pointer (some ⟨b, 0, none⟩)), (1, .iface 65 (.agg z.cs))] ?_
  refine to_end rfl (tn_code (tc_seq (tc_seq (tc_region ?_))))
  refine sg 1 [0, 11] [(0, .pointer (some ⟨b, 0, none⟩)), (11, .iface 65 (.agg z.cs))] ?_
  refine to_end rfl (tn_code (tc_block (tc_seq (tc_region ?_))))
  refine sg 3 [0, 11, 13] [(0, .pointer (some ⟨b, 0, none⟩)), (11, .iface 65 (.agg z.cs)), (13, .bool true)] ?_
  refine to_end rfl (tn_code (tc_cond_t (fun _ => rfl) (tc_seq (tc_region ?_))))
  refine sg 1 [0, 16] [(0, .pointer (some ⟨b, 0, none⟩)), (16, .pointer (some ⟨b, 0, none⟩))] ?_
  refine ce 17 (take_any b A c s _ M hC hc 8 (by omega)) fun e10 w11 h12 => ?_
  obtain ⟨A1, c2, A3, c4, rfl, M5, hn6, hC7, hl8, hl9⟩ := h12
  refine ⟨_, rfl, ?_⟩
  refine cb M5 18 (iget_any A1 c2 (rdTake 8 s).1 _ hn6 hl9 (rdTake_isB 8 ho)) fun w13 hb15 M14 => ?_
  refine sg 3 [0, 19, 20] [(0, .pointer (some ⟨b, 0, none⟩)), (19, .agg (instGet (rdTake 8 s).1).1.cs), (20, .int .i64 (instGet (rdTake 8 s).1).2)] ?_
  refine nw M14 5 #[.int .i64 0, .int .i64 0, .int .i64 0, .int .i64 0, .bool false, .int .i64 0, .int .u32 0] 65 fun b16 w17 M18 => ?_
  refine sa M18 0 (instGet (rdTake 8 s).1).1.cs fun w19 M20 => ?_
  refine sg 1 [0, 5, 6] [(0, .pointer (some ⟨b, 0, none⟩)), (5, .pointer (some ⟨b16, 0, none⟩)), (6, .int .i64 (instGet (rdTake 8 s).1).2)] ?_
  refine to_end rfl (tn_code (tc_seq (tc_region ?_)))
  refine sg 4 [5, 6, 21, 24] [(5, .pointer (some ⟨b16, 0, none⟩)), (6, .int .i64 (instGet (rdTake 8 s).1).2), (21, .pointer (some ⟨b, 0, none⟩)), (24, .pointer (some ⟨b, 1, none⟩))] ?_
  refine ld M20 1 25 (.bool (rdTake 8 s).2.2) ?_
  refine sg 1 [5, 6, 21, 26] [(5, .pointer (some ⟨b16, 0, none⟩)), (6, .int .i64 (instGet (rdTake 8 s).1).2), (21, .pointer (some ⟨b, 0, none⟩)), (26, .bool (rdTake 8 s).2.2)] ?_
  rcases h21 : ((rdTake 8 s).2.2 : Bool) with _ | _
  · refine sg 5 [5, 29, 31] [(5, .pointer (some ⟨b16, 0, none⟩)), (29, .bool ((instGet (rdTake 8 s).1).2 != 0)), (31, .pointer (some ⟨b, 1, none⟩))] ?_
    refine st M20 1 #[.slice A3 (rdTake 8 s).2.1.length c4, .bool ((instGet (rdTake 8 s).1).2 != 0)] fun w22 M23 => ?_
    refine to_end rfl (tn_code (tc_seq (tc_region ?_)))
    refine la M23 0 32 (instGet (rdTake 8 s).1).1.cs (hu := Try.underlying65) ?_
    refine sg 2 [4] [(4, .iface 65 (.agg (instGet (rdTake 8 s).1).1.cs))] ?_
    refine to_end rfl (tn_code (tc_ret ?_))
    refine tr_tmp rfl rfl ?_
    have hq24 : (rdInst s).2.2 = ((instGet (rdTake 8 s).1).2 != 0) := by simp [rdInst, h21]
    rw [hq24]
    exact ⟨_, _, rfl, (M23.drop 0), hC7, hl8⟩
  · refine sg 5 [5, 29, 31] [(5, .pointer (some ⟨b16, 0, none⟩)), (29, .bool true), (31, .pointer (some ⟨b, 1, none⟩))] ?_
    refine st M20 1 #[.slice A3 (rdTake 8 s).2.1.length c4, .bool true] fun w25 M26 => ?_
    refine to_end rfl (tn_code (tc_seq (tc_region ?_)))
    refine la M26 0 32 (instGet (rdTake 8 s).1).1.cs (hu := Try.underlying65) ?_
    refine sg 2 [4] [(4, .iface 65 (.agg (instGet (rdTake 8 s).1).1.cs))] ?_
    refine to_end rfl (tn_code (tc_ret ?_))
    refine tr_tmp rfl rfl ?_
    have hq27 : (rdInst s).2.2 = (true) := by simp [rdInst, h21]
    rw [hq27]
    exact ⟨_, _, rfl, (M26.drop 0), hC7, hl8⟩

theorem part_fn {wr : World} {L : List Ent} (b : Nat) (A : Option Addr) (c : Nat) (s : RS) (w : World) (M : Mem wr w (blk b #[.slice A s.1.length c, .bool s.2] 150 :: L)) (hC : kB.C wr A s.1.length s.1) (hc : s.1.length ≤ c) (ho : rsOk s) : Calls Try.prog 104 #[.pointer (some ⟨b, 0, none⟩), .iface 57 (.agg #[.int .i64 0, .slice none 0 0])] w fun e w' => ∃ A2 c2 Ac cc, e = .returned (.iface 57 (.agg #[.int .i64 (rdFn s).1.args, .slice Ac (rdFn s).1.code.length cc])) ∧ Mem wr w' (row kInst 65 (.slice Ac (rdFn s).1.code.length cc) (rdFn s).1.code :: blk b #[.slice A2 (rdFn s).2.1.length c2, .bool (rdFn s).2.2] 150 :: L) ∧ kB.C wr A2 (rdFn s).2.1.length (rdFn s).2.1 ∧ (rdFn s).2.1.length ≤ c2 := by
  refine calls_tc (N := 81) (args := [.pointer (some ⟨b, 0, none⟩), .iface 57 (.agg #[.int .i64 0, .slice none 0 0])]) Try.func104 rfl rfl rfl ?_
  refine tc_seq (tc_region ?_)
  refine sg 1 [0, 1] [(0, .pointer (some ⟨b, 0, none⟩)), (1, .iface 57 (.agg #[.int .i64 0, .slice none 0 0]))] ?_
  refine to_end rfl (tn_code (tc_seq (tc_seq (tc_region ?_))))
  refine sg 1 [0, 11] [(0, .pointer (some ⟨b, 0, none⟩)), (11, .iface 57 (.agg #[.int .i64 0, .slice none 0 0]))] ?_
  refine to_end rfl (tn_code (tc_block (tc_seq (tc_region ?_))))
  refine sg 3 [0, 11, 13] [(0, .pointer (some ⟨b, 0, none⟩)), (11, .iface 57 (.agg #[.int .i64 0, .slice none 0 0])), (13, .bool false)] ?_
  refine to_end rfl (tn_code (tc_cond_f (fun _ => rfl) (tc_seq (tc_region ?_))))
  refine sg 3 [0, 35] [(0, .pointer (some ⟨b, 0, none⟩)), (35, .bool true)] ?_
  refine to_end rfl (tn_code (tc_cond_t (fun _ => rfl) (tc_seq (tc_region ?_))))
  refine sg 1 [0, 37] [(0, .pointer (some ⟨b, 0, none⟩)), (37, .pointer (some ⟨b, 0, none⟩))] ?_
  refine ce 38 (take_any b A c s _ M hC hc 1 (by omega)) fun e10 w11 h12 => ?_
  obtain ⟨A1, c2, A3, c4, rfl, M5, hn6, hC7, hl8, hl9⟩ := h12
  refine ⟨_, rfl, ?_⟩
  obtain ⟨ad13, rfl⟩ := C_some hn6 (k := 0) (by first | omega | (rw [rdTake_len]; decide))
  refine ix (ad := ad13) (n := (rdTake 1 s).1.length) (c := c2) 39 0 1 (by first | omega | (rw [rdTake_len]; decide)) Try.underlying71 ?_
  obtain ⟨cs16, hk14, hc15⟩ := C_cell hn6 (0 : Int) 0 (by first | omega | (rw [rdTake_len]; decide))
  obtain rfl := kB_open hk14
  refine le 40 (.int .u8 ((rdTake 1 s).1.getD 0 (0 : Int))) (hc15 0 _ rfl) ?_
  have hb17 : 0 ≤ (rdTake 1 s).1.getD 0 0 ∧ (rdTake 1 s).1.getD 0 0 < 256 := isB_at (rdTake_isB 1 ho) 0 (by rw [rdTake_len]; decide)
  refine sg 2 [0, 42] [(0, .pointer (some ⟨b, 0, none⟩)), (42, .agg #[.int .i64 (IntKind.wrap .i64 ((rdTake 1 s).1.getD 0 (0 : Int))), .slice none 0 0])] ?_
  rw [wr_i64 (x := ((rdTake 1 s).1.getD 0 (0 : Int))) (by omega) (by omega)]
  refine nw M5 7 #[.int .i64 0, .slice none 0 0] 57 fun b18 w19 M20 => ?_
  refine sa M20 0 #[.int .i64 ((rdTake 1 s).1.getD 0 (0 : Int)), .slice none 0 0] fun w21 M22 => ?_
  refine to_end rfl (tn_code (tc_seq (tc_seq (tc_region ?_))))
  refine sg 1 [0, 7, 43] [(0, .pointer (some ⟨b, 0, none⟩)), (7, .pointer (some ⟨b18, 0, none⟩)), (43, .pointer (some ⟨b, 0, none⟩))] ?_
  have M23 := M22.front 1 rfl
  refine ce 44 (take_any b A3 c4 (rdTake 1 s).2 _ M23 hC7 hl8 1 (by omega)) fun e33 w34 h35 => ?_
  obtain ⟨A24, c25, A26, c27, rfl, M28, hn29, hC30, hl31, hl32⟩ := h35
  refine ⟨_, rfl, ?_⟩
  obtain ⟨ad36, rfl⟩ := C_some hn29 (k := 0) (by first | omega | (rw [rdTake_len]; decide))
  refine ix (ad := ad36) (n := (rdTake 1 (rdTake 1 s).2).1.length) (c := c25) 45 0 1 (by first | omega | (rw [rdTake_len]; decide)) Try.underlying71 ?_
  obtain ⟨cs39, hk37, hc38⟩ := C_cell hn29 (0 : Int) 0 (by first | omega | (rw [rdTake_len]; decide))
  obtain rfl := kB_open hk37
  refine le 46 (.int .u8 ((rdTake 1 (rdTake 1 s).2).1.getD 0 (0 : Int))) (hc38 0 _ rfl) ?_
  have hb40 : 0 ≤ (rdTake 1 (rdTake 1 s).2).1.getD 0 0 ∧ (rdTake 1 (rdTake 1 s).2).1.getD 0 0 < 256 := isB_at (rdTake_isB 1 (rdTake_ok 1 ho)) 0 (by rw [rdTake_len]; decide)
  refine sg 2 [0, 7, 8] [(0, .pointer (some ⟨b, 0, none⟩)), (7, .pointer (some ⟨b18, 0, none⟩)), (8, .int .i64 (IntKind.wrap .i64 ((rdTake 1 (rdTake 1 s).2).1.getD 0 (0 : Int))))] ?_
  rw [wr_i64 (x := ((rdTake 1 (rdTake 1 s).2).1.getD 0 (0 : Int))) (by omega) (by omega)]
  refine to_end rfl (tn_code (tc_block ?_))
  have M41 := M28.nilrow kInst 65
  refine tc_loop (σ := Nat × List Inst × RS × Option Addr × Nat × Option Addr × Nat) (fun s_ => match s_ with | (n42, acc43, q44, A45, c46, A47, c48) => [(0, .pointer (some ⟨b, 0, none⟩)), (7, .pointer (some ⟨b18, 0, none⟩)), (8, .int .i64 (n42 : Int))]) (fun s_ w' => match s_ with | (n42, acc43, q44, A45, c46, A47, c48) => (rdCode n42 acc43 q44 = rdCode (Int.toNat ((rdTake 1 (rdTake 1 s).2).1.getD 0 (0 : Int))) [] (rdTake 1 (rdTake 1 s).2).2 ∧ acc43.length + n42 ≤ 255 ∧ rsOk q44 ∧ kB.C wr A47 q44.1.length q44.1 ∧ q44.1.length ≤ c48) ∧ Mem wr w' (row kInst 65 (.slice A45 acc43.length c46) acc43 :: blk b #[.slice A47 q44.1.length c48, .bool q44.2] 150 :: blk b18 #[.int .i64 ((rdTake 1 s).1.getD 0 (0 : Int)), .slice A45 acc43.length c46] 57 :: L)) (fun s_ => match s_ with | (n42, acc43, q44, A45, c46, A47, c48) => n42) (Int.toNat ((rdTake 1 (rdTake 1 s).2).1.getD 0 (0 : Int)), [], (rdTake 1 (rdTake 1 s).2).2, none, 0, A26, c27) (Sub.cons rfl (Sub.cons rfl (Sub.cons (by rw [Int.toNat_of_nonneg (by omega)]; rfl) (Sub.nil _)))) ⟨⟨rfl, by simp only [List.length_nil]; omega, rdTake_ok 1 (rdTake_ok 1 ho), hC30, hl31⟩, M41⟩ ?_
  rintro ⟨n42, acc43, q44, A45, c46, A47, c48⟩ w51 ⟨hi53, M52⟩
  obtain ⟨hq1, hq2, hqo, hqC, hql⟩ := hi53
  refine tc_seq (tc_seq (tc_region ?_))
  refine sg 3 [0, 7, 8, 50] [(0, .pointer (some ⟨b, 0, none⟩)), (7, .pointer (some ⟨b18, 0, none⟩)), (8, .int .i64 (n42 : Int)), (50, .bool (decide ((n42 : Int) > 0)))] ?_
  rcases h54 : (decide ((n42 : Int) > 0) : Bool) with _ | _
  · have h54p := of_decide_eq_false h54
    refine sg 6 [0, 7, 8, 56] [(0, .pointer (some ⟨b, 0, none⟩)), (7, .pointer (some ⟨b18, 0, none⟩)), (8, .int .i64 (n42 : Int)), (56, .bool false)] ?_
    refine to_end rfl (tn_code (tc_cond_f (fun _ => rfl) (tc_exitK (k' := _) rfl (tn_code (tc_seq (tc_region ?_))))))
    refine la M52 2 73 #[.int .i64 ((rdTake 1 s).1.getD 0 (0 : Int)), .slice A45 acc43.length c46] (hu := Try.underlying57) ?_
    refine sg 2 [4] [(4, .iface 57 (.agg #[.int .i64 ((rdTake 1 s).1.getD 0 (0 : Int)), .slice A45 acc43.length c46]))] ?_
    refine to_end rfl (tn_code (tc_ret ?_))
    refine tr_tmp rfl rfl ?_
    have M55 := M52.drop 2
    have hs : rdCode n42 acc43 q44 = (acc43, q44) := rdCode_stop (.inl (by omega))
    have hf : rdFn s = (⟨((rdTake 1 s).1.getD 0 0), acc43⟩, q44) := by unfold rdFn rdInt; simp only; rw [← hq1, hs]
    rw [hf]
    exact ⟨_, _, _, _, rfl, M55, hqC, hql⟩
  · have h54p := of_decide_eq_true h54
    refine sg 3 [0, 7, 8, 50, 53] [(0, .pointer (some ⟨b, 0, none⟩)), (7, .pointer (some ⟨b18, 0, none⟩)), (8, .int .i64 (n42 : Int)), (50, .bool true), (53, .pointer (some ⟨b, 1, none⟩))] ?_
    refine ld M52 1 54 (.bool q44.2) ?_
    refine sg 2 [0, 7, 8, 56] [(0, .pointer (some ⟨b, 0, none⟩)), (7, .pointer (some ⟨b18, 0, none⟩)), (8, .int .i64 (n42 : Int)), (56, .bool (!q44.2))] ?_
    refine to_end rfl (tn_code ?_)
    rcases h56 : (q44.2 : Bool) with _ | _
    · refine tc_cond_t (fun _ => rfl) (tc_skip (tn_code (tc_seq (tc_block (tc_seq (tc_region ?_))))))
      refine sg 3 [0, 7, 8, 60, 62] [(0, .pointer (some ⟨b, 0, none⟩)), (7, .pointer (some ⟨b18, 0, none⟩)), (8, .int .i64 (n42 : Int)), (60, .pointer (some ⟨b, 0, none⟩)), (62, .iface 65 (.agg #[.int .i64 0, .int .i64 0, .int .i64 0, .int .i64 0, .bool false, .int .i64 0, .int .u32 0]))] ?_
      have M57 := M52.front 1 rfl
      refine ce 63 (part_inst b A47 c48 q44 _ M57 hqC hql hqo ⟨0, 0, 0, 0, false, 0, 0⟩) fun e63 w64 h65 => ?_
      obtain ⟨A58, c59, rfl, M60, hC61, hl62⟩ := h65
      refine ⟨_, rfl, ?_⟩
      refine sg 4 [0, 7, 8, 65, 66] [(0, .pointer (some ⟨b, 0, none⟩)), (7, .pointer (some ⟨b18, 0, none⟩)), (8, .int .i64 (n42 : Int)), (65, .agg (rdInst q44).1.cs), (66, .bool true)] ?_
      refine nw M60 9 #[.int .i64 0, .int .i64 0, .int .i64 0, .int .i64 0, .bool false, .int .i64 0, .int .u32 0] 65 fun b66 w67 M68 => ?_
      refine sa M68 0 (rdInst q44).1.cs fun w69 M70 => ?_
      refine sg 1 [0, 7, 8, 9] [(0, .pointer (some ⟨b, 0, none⟩)), (7, .pointer (some ⟨b18, 0, none⟩)), (8, .int .i64 (n42 : Int)), (9, .pointer (some ⟨b66, 0, none⟩))] ?_
      refine to_end rfl (tn_code (tc_region ?_))
      refine sg 1 [0, 7, 8, 9, 67] [(0, .pointer (some ⟨b, 0, none⟩)), (7, .pointer (some ⟨b18, 0, none⟩)), (8, .int .i64 (n42 : Int)), (9, .pointer (some ⟨b66, 0, none⟩)), (67, .pointer (some ⟨b18, 1, none⟩))] ?_
      refine ld M70 3 68 (.slice A45 acc43.length c46) ?_
      refine la M70 0 69 (rdInst q44).1.cs (hu := Try.underlying65) ?_
      have M74 := M70.flat (d := kInst) (x := ((rdInst q44).1 : Inst)) (cs := ((rdInst q44).1.cs : Array Value).toList) (kInst_M _ _)
      refine bs1 (x := ((rdInst q44).1 : Inst)) (cs := (rdInst q44).1.cs) M74 70 65 fun b71 w72 M73 => ?_
      have M79 := M73.front 3 rfl
      refine ap (z := .agg Inst.z.cs) (bytes := 56) M79 71 Try.underlying55 ?_ fun A75 c76 w77 M78 => ?_
      · simp only [List.length_append, List.length_cons, List.length_nil, List.length_take]; omega
      refine sg 1 [0, 7, 8, 71, 72] [(0, .pointer (some ⟨b, 0, none⟩)), (7, .pointer (some ⟨b18, 0, none⟩)), (8, .int .i64 (n42 : Int)), (71, .slice A75 (acc43 ++ [((rdInst q44).1 : Inst)]).length c76), (72, .pointer (some ⟨b18, 1, none⟩))] ?_
      refine st M78 3 #[.int .i64 ((rdTake 1 s).1.getD 0 (0 : Int)), .slice A75 (acc43 ++ [((rdInst q44).1 : Inst)]).length c76] fun w80 M81 => ?_
      refine to_end rfl (tn_blk (tn_code (tc_region ?_)))
      refine sg 3 [0, 7, 8] [(0, .pointer (some ⟨b, 0, none⟩)), (7, .pointer (some ⟨b18, 0, none⟩)), (8, .int .i64 (IntKind.wrap .i64 ((n42 : Int) - 1)))] ?_
      rw [wr_i64 (x := (n42 : Int) - 1) (by omega) (by omega)]
      refine to_end rfl ?_
      have M82 := M81.drop 1
      rw [show ((n42 : Int) - 1) = ((n42 - 1 : Nat) : Int) by omega]
      exact tn_back (s := (n42, acc43, q44, A45, c46, A47, c48)) (n42 - 1, (acc43 ++ [((rdInst q44).1 : Inst)]), (rdInst q44).2, A75, c76, A58, c59) (Sub.cons rfl (Sub.cons rfl (Sub.cons rfl (Sub.nil _)))) ⟨⟨by rw [← rdCode_go (by omega) h56]; exact hq1, by simp only [List.length_append, List.length_singleton]; omega, rdInst_ok hqo, hC61, hl62⟩, M82⟩ (by simp only; omega)
    · refine tc_cond_f (fun _ => rfl) (tc_exitK (k' := _) rfl (tn_code (tc_seq (tc_region ?_))))
      refine la M52 2 73 #[.int .i64 ((rdTake 1 s).1.getD 0 (0 : Int)), .slice A45 acc43.length c46] (hu := Try.underlying57) ?_
      refine sg 2 [4] [(4, .iface 57 (.agg #[.int .i64 ((rdTake 1 s).1.getD 0 (0 : Int)), .slice A45 acc43.length c46]))] ?_
      refine to_end rfl (tn_code (tc_ret ?_))
      refine tr_tmp rfl rfl ?_
      have M83 := M52.drop 2
      have hs : rdCode n42 acc43 q44 = (acc43, q44) := rdCode_stop (.inr h56)
      have hf : rdFn s = (⟨((rdTake 1 s).1.getD 0 0), acc43⟩, q44) := by unfold rdFn rdInt; simp only; rw [← hq1, hs]
      rw [hf]
      exact ⟨_, _, _, _, rfl, M83, hqC, hql⟩

theorem get_prog (A : Option Addr) (c : Nat) (bs : List Int) (w : World) (hC : kB.C w A bs.length bs) (hc : bs.length ≤ c) (hb : ∀ x ∈ bs, isB x) : Calls Try.prog 54 #[.slice A bs.length c] w fun e w' => ∃ A' c', e = .returned (.tuple #[.agg #[.slice A' (progGet bs).1.length c'], .int .i64 (progGet bs).2]) ∧ Mem w w' [row kFn 57 (.slice A' (progGet bs).1.length c') (progGet bs).1] := by
  have M := Mem.refl w
  refine calls_tc (N := 74) (args := [.slice A bs.length c]) Try.func54 rfl rfl rfl ?_
  refine tc_seq (tc_region ?_)
  refine nw M 2 #[.slice none 0 0] 45 fun b1 w2 M3 => ?_
  refine sg 1 [0, 2] [(0, .slice A bs.length c), (2, .pointer (some ⟨b1, 0, none⟩))] ?_
  refine to_end rfl (tn_code (tc_seq (tc_region ?_)))
  refine sg 2 [2, 9] [(2, .pointer (some ⟨b1, 0, none⟩)), (9, .agg #[.slice A bs.length c, .bool false])] ?_
  refine nw M3 10 #[.slice A bs.length c, .bool false] 150 fun b4 w5 M6 => ?_
  refine sg 1 [2, 4] [(2, .pointer (some ⟨b1, 0, none⟩)), (4, .pointer (some ⟨b4, 0, none⟩))] ?_
  refine to_end rfl (tn_code (tc_seq (tc_region ?_)))
  refine sg 2 [2, 4, 11, 12] [(2, .pointer (some ⟨b1, 0, none⟩)), (4, .pointer (some ⟨b4, 0, none⟩)), (11, .pointer (some ⟨b4, 0, none⟩)), (12, .iface 3 (.int .i64 0))] ?_
  refine ce 13 (part_int b4 A c (bs, false) _ M6 hC hc hb 0) fun e12 w13 h14 => ?_
  obtain ⟨A7, c8, rfl, M9, hC10, hl11⟩ := h14
  refine ⟨_, rfl, ?_⟩
  have hb15 := rdInt_bd (s := (bs, false)) hb
  refine sg 3 [2, 4, 16] [(2, .pointer (some ⟨b1, 0, none⟩)), (4, .pointer (some ⟨b4, 0, none⟩)), (16, .bool ((rdInt (bs, false)).1 == 88))] ?_
  rcases h16 : ((rdInt (bs, false)).1 == 88 : Bool) with _ | _
  · have h16p := beq_eq_false_iff_ne.1 h16
    refine sg 7 [2, 4, 5] [(2, .pointer (some ⟨b1, 0, none⟩)), (4, .pointer (some ⟨b4, 0, none⟩)), (5, .bool false)] ?_
    refine to_end rfl (tn_code (tc_seq (tc_region ?_)))
    refine nw M9 6 #[.slice none 0 0] 45 fun b17 w18 M19 => ?_
    refine to_end rfl (tn_code (tc_seq (tc_seq (tc_region ?_))))
    refine sg 2 [2, 4, 5, 6, 23, 24] [(2, .pointer (some ⟨b1, 0, none⟩)), (4, .pointer (some ⟨b4, 0, none⟩)), (5, .bool false), (6, .pointer (some ⟨b17, 0, none⟩)), (23, .pointer (some ⟨b4, 0, none⟩)), (24, .iface 3 (.int .i64 0))] ?_
    have M20 := M19.front 1 rfl
    refine ce 25 (part_int b4 A7 c8 (rdInt (bs, false)).2 _ M20 hC10 hl11 (rdInt_ok hb) 0) fun e26 w27 h28 => ?_
    obtain ⟨A21, c22, rfl, M23, hC24, hl25⟩ := h28
    refine ⟨_, rfl, ?_⟩
    have hb29 := rdInt_bd (s := (rdInt (bs, false)).2) (rdInt_ok hb)
    refine sg 2 [2, 4, 5, 6, 7] [(2, .pointer (some ⟨b1, 0, none⟩)), (4, .pointer (some ⟨b4, 0, none⟩)), (5, .bool false), (6, .pointer (some ⟨b17, 0, none⟩)), (7, .int .i64 (rdInt (rdInt (bs, false)).2).1)] ?_
    refine to_end rfl (tn_code (tc_block ?_))
    have M30 := M23.nilrow kFn 57
    have hh := hdr_no h16
    refine tc_loop (σ := Nat × List Fn × RS × Option Addr × Nat × Option Addr × Nat) (fun s_ => match s_ with | (n31, acc32, q33, A34, c35, A36, c37) => [(2, .pointer (some ⟨b1, 0, none⟩)), (4, .pointer (some ⟨b4, 0, none⟩)), (5, .bool false), (6, .pointer (some ⟨b17, 0, none⟩)), (7, .int .i64 (n31 : Int))]) (fun s_ w' => match s_ with | (n31, acc32, q33, A34, c35, A36, c37) => (rdFns n31 acc32 q33 = rdFns (Int.toNat (rdInt (rdInt (bs, false)).2).1) [] (rdInt (rdInt (bs, false)).2).2 ∧ acc32.length + n31 ≤ 255 ∧ rsOk q33 ∧ kB.C w A36 q33.1.length q33.1 ∧ q33.1.length ≤ c37) ∧ Mem w w' ([row kFn 57 (.slice A34 acc32.length c35) acc32, blk b4 #[.slice A36 q33.1.length c37, .bool q33.2] 150, blk b17 #[.slice A34 acc32.length c35] 45, blk b1 #[.slice none 0 0] 45])) (fun s_ => match s_ with | (n31, acc32, q33, A34, c35, A36, c37) => n31) ((Int.toNat (rdInt (rdInt (bs, false)).2).1), [], (rdInt (rdInt (bs, false)).2).2, none, 0, A21, c22) (Sub.cons rfl (Sub.cons rfl (Sub.cons rfl (Sub.cons rfl (Sub.cons (by rw [Int.toNat_of_nonneg (by omega)]; rfl) (Sub.nil _)))))) ⟨⟨rfl, by simp only [List.length_nil]; omega, (rdInt_ok (rdInt_ok hb)), hC24, hl25⟩, M30⟩ ?_
    rintro ⟨n31, acc32, q33, A34, c35, A36, c37⟩ w42 ⟨hi44, M43⟩
    obtain ⟨hq1, hq2, hqo, hqC, hql⟩ := hi44
    refine tc_seq (tc_seq (tc_region ?_))
    refine sg 3 [2, 4, 5, 6, 7, 29] [(2, .pointer (some ⟨b1, 0, none⟩)), (4, .pointer (some ⟨b4, 0, none⟩)), (5, .bool false), (6, .pointer (some ⟨b17, 0, none⟩)), (7, .int .i64 (n31 : Int)), (29, .bool (decide ((n31 : Int) > 0)))] ?_
    rcases h45 : (decide ((n31 : Int) > 0) : Bool) with _ | _
    · have h45p := of_decide_eq_false h45
      refine sg 9 [2, 4, 5, 6, 7, 38] [(2, .pointer (some ⟨b1, 0, none⟩)), (4, .pointer (some ⟨b4, 0, none⟩)), (5, .bool false), (6, .pointer (some ⟨b17, 0, none⟩)), (7, .int .i64 (n31 : Int)), (38, .bool false)] ?_
      refine to_end rfl (tn_code (tc_cond_f (fun _ => rfl) (tc_exitK (k' := _) rfl (tn_code (tc_seq (tc_seq (tc_region ?_)))))))
      refine sg 21 [2, 6, 71] [(2, .pointer (some ⟨b1, 0, none⟩)), (6, .pointer (some ⟨b17, 0, none⟩)), (71, .bool true)] ?_
      refine to_end rfl (tn_code (tc_cond_t (fun _ => rfl) (tc_seq (tc_region ?_))))
      refine sg 1 [2, 72] [(2, .pointer (some ⟨b1, 0, none⟩)), (72, .agg #[.slice none 0 0])] ?_
      refine sa M43 3 #[.slice none 0 0] fun w46 M47 => ?_
      refine sg 1 [2, 3] [(2, .pointer (some ⟨b1, 0, none⟩)), (3, .int .i64 7)] ?_
      refine to_end rfl (tn_code (tc_ret ?_))
      refine tr_cell_tmp M47 3 rfl rfl rfl rfl Try.underlying45 rfl (by kernel_rfl) ?_
      have he : progGet bs = ([], 7) := get_no (by rw [hh])
      have M48 := (((((M47.drop 3).drop 2).drop 1).drop 0)).nilrow kFn 57
      rw [he]
      exact ⟨none, 0, rfl, M48⟩
    · have h45p := of_decide_eq_true h45
      refine sg 9 [2, 4, 5, 6, 7, 38] [(2, .pointer (some ⟨b1, 0, none⟩)), (4, .pointer (some ⟨b4, 0, none⟩)), (5, .bool false), (6, .pointer (some ⟨b17, 0, none⟩)), (7, .int .i64 (n31 : Int)), (38, .bool false)] ?_
      refine to_end rfl (tn_code (tc_cond_f (fun _ => rfl) (tc_exitK (k' := _) rfl (tn_code (tc_seq (tc_seq (tc_region ?_)))))))
      refine sg 21 [2, 6, 71] [(2, .pointer (some ⟨b1, 0, none⟩)), (6, .pointer (some ⟨b17, 0, none⟩)), (71, .bool true)] ?_
      refine to_end rfl (tn_code (tc_cond_t (fun _ => rfl) (tc_seq (tc_region ?_))))
      refine sg 1 [2, 72] [(2, .pointer (some ⟨b1, 0, none⟩)), (72, .agg #[.slice none 0 0])] ?_
      refine sa M43 3 #[.slice none 0 0] fun w49 M50 => ?_
      refine sg 1 [2, 3] [(2, .pointer (some ⟨b1, 0, none⟩)), (3, .int .i64 7)] ?_
      refine to_end rfl (tn_code (tc_ret ?_))
      refine tr_cell_tmp M50 3 rfl rfl rfl rfl Try.underlying45 rfl (by kernel_rfl) ?_
      have he : progGet bs = ([], 7) := get_no (by rw [hh])
      have M51 := (((((M50.drop 3).drop 2).drop 1).drop 0)).nilrow kFn 57
      rw [he]
      exact ⟨none, 0, rfl, M51⟩
  · have h16p := beq_iff_eq.1 h16
    refine sg 2 [2, 4, 16, 17, 18] [(2, .pointer (some ⟨b1, 0, none⟩)), (4, .pointer (some ⟨b4, 0, none⟩)), (16, .bool true), (17, .pointer (some ⟨b4, 0, none⟩)), (18, .iface 3 (.int .i64 0))] ?_
    refine ce 19 (part_int b4 A7 c8 (rdInt (bs, false)).2 _ M9 hC10 hl11 (rdInt_ok hb) 0) fun e57 w58 h59 => ?_
    obtain ⟨A52, c53, rfl, M54, hC55, hl56⟩ := h59
    refine ⟨_, rfl, ?_⟩
    have hb60 := rdInt_bd (s := (rdInt (bs, false)).2) (rdInt_ok hb)
    refine sg 4 [2, 4, 5] [(2, .pointer (some ⟨b1, 0, none⟩)), (4, .pointer (some ⟨b4, 0, none⟩)), (5, .bool ((rdInt (rdInt (bs, false)).2).1 == 86))] ?_
    refine to_end rfl (tn_code (tc_seq (tc_region ?_)))
    refine nw M54 6 #[.slice none 0 0] 45 fun b61 w62 M63 => ?_
    refine to_end rfl (tn_code (tc_seq (tc_seq (tc_region ?_))))
    refine sg 2 [2, 4, 5, 6, 23, 24] [(2, .pointer (some ⟨b1, 0, none⟩)), (4, .pointer (some ⟨b4, 0, none⟩)), (5, .bool ((rdInt (rdInt (bs, false)).2).1 == 86)), (6, .pointer (some ⟨b61, 0, none⟩)), (23, .pointer (some ⟨b4, 0, none⟩)), (24, .iface 3 (.int .i64 0))] ?_
    have M64 := M63.front 1 rfl
    refine ce 25 (part_int b4 A52 c53 (rdInt (rdInt (bs, false)).2).2 _ M64 hC55 hl56 (rdInt_ok (rdInt_ok hb)) 0) fun e70 w71 h72 => ?_
    obtain ⟨A65, c66, rfl, M67, hC68, hl69⟩ := h72
    refine ⟨_, rfl, ?_⟩
    have hb73 := rdInt_bd (s := (rdInt (rdInt (bs, false)).2).2) (rdInt_ok (rdInt_ok hb))
    refine sg 2 [2, 4, 5, 6, 7] [(2, .pointer (some ⟨b1, 0, none⟩)), (4, .pointer (some ⟨b4, 0, none⟩)), (5, .bool ((rdInt (rdInt (bs, false)).2).1 == 86)), (6, .pointer (some ⟨b61, 0, none⟩)), (7, .int .i64 (rdInt (rdInt (rdInt (bs, false)).2).2).1)] ?_
    refine to_end rfl (tn_code (tc_block ?_))
    have M74 := M67.nilrow kFn 57
    have hh := hdr_one h16
    refine tc_loop (σ := Nat × List Fn × RS × Option Addr × Nat × Option Addr × Nat) (fun s_ => match s_ with | (n75, acc76, q77, A78, c79, A80, c81) => [(2, .pointer (some ⟨b1, 0, none⟩)), (4, .pointer (some ⟨b4, 0, none⟩)), (5, .bool ((rdInt (rdInt (bs, false)).2).1 == 86)), (6, .pointer (some ⟨b61, 0, none⟩)), (7, .int .i64 (n75 : Int))]) (fun s_ w' => match s_ with | (n75, acc76, q77, A78, c79, A80, c81) => (rdFns n75 acc76 q77 = rdFns (Int.toNat (rdInt (rdInt (rdInt (bs, false)).2).2).1) [] (rdInt (rdInt (rdInt (bs, false)).2).2).2 ∧ acc76.length + n75 ≤ 255 ∧ rsOk q77 ∧ kB.C w A80 q77.1.length q77.1 ∧ q77.1.length ≤ c81) ∧ Mem w w' ([row kFn 57 (.slice A78 acc76.length c79) acc76, blk b4 #[.slice A80 q77.1.length c81, .bool q77.2] 150, blk b61 #[.slice A78 acc76.length c79] 45, blk b1 #[.slice none 0 0] 45])) (fun s_ => match s_ with | (n75, acc76, q77, A78, c79, A80, c81) => n75) ((Int.toNat (rdInt (rdInt (rdInt (bs, false)).2).2).1), [], (rdInt (rdInt (rdInt (bs, false)).2).2).2, none, 0, A65, c66) (Sub.cons rfl (Sub.cons rfl (Sub.cons rfl (Sub.cons rfl (Sub.cons (by rw [Int.toNat_of_nonneg (by omega)]; rfl) (Sub.nil _)))))) ⟨⟨rfl, by simp only [List.length_nil]; omega, (rdInt_ok (rdInt_ok (rdInt_ok hb))), hC68, hl69⟩, M74⟩ ?_
    rintro ⟨n75, acc76, q77, A78, c79, A80, c81⟩ w86 ⟨hi88, M87⟩
    obtain ⟨hq1, hq2, hqo, hqC, hql⟩ := hi88
    refine tc_seq (tc_seq (tc_region ?_))
    refine sg 3 [2, 4, 5, 6, 7, 29] [(2, .pointer (some ⟨b1, 0, none⟩)), (4, .pointer (some ⟨b4, 0, none⟩)), (5, .bool ((rdInt (rdInt (bs, false)).2).1 == 86)), (6, .pointer (some ⟨b61, 0, none⟩)), (7, .int .i64 (n75 : Int)), (29, .bool (decide ((n75 : Int) > 0)))] ?_
    rcases h89 : (decide ((n75 : Int) > 0) : Bool) with _ | _
    · have h89p := of_decide_eq_false h89
      refine sg 9 [2, 4, 5, 6, 7, 38] [(2, .pointer (some ⟨b1, 0, none⟩)), (4, .pointer (some ⟨b4, 0, none⟩)), (5, .bool ((rdInt (rdInt (bs, false)).2).1 == 86)), (6, .pointer (some ⟨b61, 0, none⟩)), (7, .int .i64 (n75 : Int)), (38, .bool false)] ?_
      refine to_end rfl (tn_code (tc_cond_f (fun _ => rfl) (tc_exitK (k' := _) rfl (tn_code (tc_seq (tc_seq (tc_region ?_)))))))
      refine sg 3 [2, 4, 6, 53] [(2, .pointer (some ⟨b1, 0, none⟩)), (4, .pointer (some ⟨b4, 0, none⟩)), (6, .pointer (some ⟨b61, 0, none⟩)), (53, .bool (!((rdInt (rdInt (bs, false)).2).1 == 86)))] ?_
      rcases h90 : ((rdInt (rdInt (bs, false)).2).1 == 86 : Bool) with _ | _
      · have h90p := beq_eq_false_iff_ne.1 h90
        refine sg 18 [2, 6, 71] [(2, .pointer (some ⟨b1, 0, none⟩)), (6, .pointer (some ⟨b61, 0, none⟩)), (71, .bool true)] ?_
        refine to_end rfl (tn_code (tc_cond_t (fun _ => rfl) (tc_seq (tc_region ?_))))
        refine sg 1 [2, 72] [(2, .pointer (some ⟨b1, 0, none⟩)), (72, .agg #[.slice none 0 0])] ?_
        refine sa M87 3 #[.slice none 0 0] fun w91 M92 => ?_
        refine sg 1 [2, 3] [(2, .pointer (some ⟨b1, 0, none⟩)), (3, .int .i64 7)] ?_
        refine to_end rfl (tn_code (tc_ret ?_))
        refine tr_cell_tmp M92 3 rfl rfl rfl rfl Try.underlying45 rfl (by kernel_rfl) ?_
        have he : progGet bs = ([], 7) := get_no (by rw [hh]; exact h90)
        have M93 := (((((M92.drop 3).drop 2).drop 1).drop 0)).nilrow kFn 57
        rw [he]
        exact ⟨none, 0, rfl, M93⟩
      · have h90p := beq_iff_eq.1 h90
        refine sg 3 [2, 4, 6, 53, 56] [(2, .pointer (some ⟨b1, 0, none⟩)), (4, .pointer (some ⟨b4, 0, none⟩)), (6, .pointer (some ⟨b61, 0, none⟩)), (53, .bool false), (56, .pointer (some ⟨b4, 1, none⟩))] ?_
        refine ld M87 1 57 (.bool q77.2) ?_
        refine sg 2 [2, 4, 6, 59] [(2, .pointer (some ⟨b1, 0, none⟩)), (4, .pointer (some ⟨b4, 0, none⟩)), (6, .pointer (some ⟨b61, 0, none⟩)), (59, .bool q77.2)] ?_
        rcases h94 : (q77.2 : Bool) with _ | _
        · refine sg 3 [2, 6, 59, 62] [(2, .pointer (some ⟨b1, 0, none⟩)), (6, .pointer (some ⟨b61, 0, none⟩)), (59, .bool false), (62, .pointer (some ⟨b4, 0, none⟩))] ?_
          refine ld M87 1 63 (.slice A80 q77.1.length c81) ?_
          refine sg 4 [2, 6, 67] [(2, .pointer (some ⟨b1, 0, none⟩)), (6, .pointer (some ⟨b61, 0, none⟩)), (67, .bool (decide ((q77.1.length : Int) > 0)))] ?_
          rcases h95 : (decide ((q77.1.length : Int) > 0) : Bool) with _ | _
          · have h95p := of_decide_eq_false h95
            refine la M87 2 68 #[.slice A78 acc76.length c79] (hu := Try.underlying45) ?_
            refine cb M87 69 (pmay_any acc76 A78 c79 _ (M87.row_C 0 rfl)) fun w96 hb98 M97 => ?_
            refine sg 2 [2, 6, 71] [(2, .pointer (some ⟨b1, 0, none⟩)), (6, .pointer (some ⟨b61, 0, none⟩)), (71, .bool (!(progMay acc76)))] ?_
            refine to_end rfl (tn_code ?_)
            rcases h99 : (progMay acc76 : Bool) with _ | _
            · refine tc_cond_t (fun _ => rfl) (tc_seq (tc_region ?_))
              refine sg 1 [2, 72] [(2, .pointer (some ⟨b1, 0, none⟩)), (72, .agg #[.slice none 0 0])] ?_
              refine sa M97 3 #[.slice none 0 0] fun w100 M101 => ?_
              refine sg 1 [2, 3] [(2, .pointer (some ⟨b1, 0, none⟩)), (3, .int .i64 7)] ?_
              refine to_end rfl (tn_code (tc_ret ?_))
              refine tr_cell_tmp M101 3 rfl rfl rfl rfl Try.underlying45 rfl (by kernel_rfl) ?_
              have he := get_end (bs := bs) (acc := acc76) (q := q77) (by rw [hh]; exact h90) (by rw [hh]; simp only; rw [← hq1]; exact rdFns_stop (.inl (by omega)))
              rw [if_neg (by rw [h99]; simp)] at he
              have M102 := (((((M101.drop 3).drop 2).drop 1).drop 0)).nilrow kFn 57
              rw [he]
              exact ⟨none, 0, rfl, M102⟩
            · refine tc_cond_f (fun _ => rfl) (tc_skip (tn_code (tc_seq (tc_region ?_))))
              refine la M97 2 73 #[.slice A78 acc76.length c79] (hu := Try.underlying45) ?_
              refine sa M97 3 #[.slice A78 acc76.length c79] fun w103 M104 => ?_
              refine sg 1 [2, 3] [(2, .pointer (some ⟨b1, 0, none⟩)), (3, .int .i64 0)] ?_
              refine to_end rfl (tn_code (tc_ret ?_))
              refine tr_cell_tmp M104 3 rfl rfl rfl rfl Try.underlying45 rfl (by kernel_rfl) ?_
              have he := get_end (bs := bs) (acc := acc76) (q := q77) (by rw [hh]; exact h90) (by rw [hh]; simp only; rw [← hq1]; exact rdFns_stop (.inl (by omega)))
              have hem : q77.1 = [] := List.eq_nil_of_length_eq_zero (by omega)
              rw [if_pos (by rw [h94, hem, h99]; rfl)] at he
              rw [he]
              exact ⟨_, _, rfl, (((M104.drop 3).drop 2).drop 1)⟩
          · have h95p := of_decide_eq_true h95
            refine sg 4 [2, 6, 71] [(2, .pointer (some ⟨b1, 0, none⟩)), (6, .pointer (some ⟨b61, 0, none⟩)), (71, .bool true)] ?_
            refine to_end rfl (tn_code (tc_cond_t (fun _ => rfl) (tc_seq (tc_region ?_))))
            refine sg 1 [2, 72] [(2, .pointer (some ⟨b1, 0, none⟩)), (72, .agg #[.slice none 0 0])] ?_
            refine sa M87 3 #[.slice none 0 0] fun w105 M106 => ?_
            refine sg 1 [2, 3] [(2, .pointer (some ⟨b1, 0, none⟩)), (3, .int .i64 7)] ?_
            refine to_end rfl (tn_code (tc_ret ?_))
            refine tr_cell_tmp M106 3 rfl rfl rfl rfl Try.underlying45 rfl (by kernel_rfl) ?_
            have he := get_end (bs := bs) (acc := acc76) (q := q77) (by rw [hh]; exact h90) (by rw [hh]; simp only; rw [← hq1]; exact rdFns_stop (.inl (by omega)))
            have hne : q77.1.isEmpty = false := by rw [List.isEmpty_eq_false_iff]; exact List.ne_nil_of_length_pos (by omega)
            rw [if_neg (by rw [hne]; simp)] at he
            have M107 := (((((M106.drop 3).drop 2).drop 1).drop 0)).nilrow kFn 57
            rw [he]
            exact ⟨none, 0, rfl, M107⟩
        · refine sg 12 [2, 6, 71] [(2, .pointer (some ⟨b1, 0, none⟩)), (6, .pointer (some ⟨b61, 0, none⟩)), (71, .bool true)] ?_
          refine to_end rfl (tn_code (tc_cond_t (fun _ => rfl) (tc_seq (tc_region ?_))))
          refine sg 1 [2, 72] [(2, .pointer (some ⟨b1, 0, none⟩)), (72, .agg #[.slice none 0 0])] ?_
          refine sa M87 3 #[.slice none 0 0] fun w108 M109 => ?_
          refine sg 1 [2, 3] [(2, .pointer (some ⟨b1, 0, none⟩)), (3, .int .i64 7)] ?_
          refine to_end rfl (tn_code (tc_ret ?_))
          refine tr_cell_tmp M109 3 rfl rfl rfl rfl Try.underlying45 rfl (by kernel_rfl) ?_
          have he := get_end (bs := bs) (acc := acc76) (q := q77) (by rw [hh]; exact h90) (by rw [hh]; simp only; rw [← hq1]; exact rdFns_stop (.inr h94))
          rw [if_neg (by rw [h94]; simp)] at he
          have M110 := (((((M109.drop 3).drop 2).drop 1).drop 0)).nilrow kFn 57
          rw [he]
          exact ⟨none, 0, rfl, M110⟩
    · have h89p := of_decide_eq_true h89
      refine sg 3 [2, 4, 5, 6, 7, 32] [(2, .pointer (some ⟨b1, 0, none⟩)), (4, .pointer (some ⟨b4, 0, none⟩)), (5, .bool ((rdInt (rdInt (bs, false)).2).1 == 86)), (6, .pointer (some ⟨b61, 0, none⟩)), (7, .int .i64 (n75 : Int)), (32, .bool ((rdInt (rdInt (bs, false)).2).1 == 86))] ?_
      rcases h111 : ((rdInt (rdInt (bs, false)).2).1 == 86 : Bool) with _ | _
      · have h111p := beq_eq_false_iff_ne.1 h111
        refine sg 6 [2, 4, 5, 6, 7, 38] [(2, .pointer (some ⟨b1, 0, none⟩)), (4, .pointer (some ⟨b4, 0, none⟩)), (5, .bool false), (6, .pointer (some ⟨b61, 0, none⟩)), (7, .int .i64 (n75 : Int)), (38, .bool false)] ?_
        refine to_end rfl (tn_code (tc_cond_f (fun _ => rfl) (tc_exitK (k' := _) rfl (tn_code (tc_seq (tc_seq (tc_region ?_)))))))
        refine sg 21 [2, 6, 71] [(2, .pointer (some ⟨b1, 0, none⟩)), (6, .pointer (some ⟨b61, 0, none⟩)), (71, .bool true)] ?_
        refine to_end rfl (tn_code (tc_cond_t (fun _ => rfl) (tc_seq (tc_region ?_))))
        refine sg 1 [2, 72] [(2, .pointer (some ⟨b1, 0, none⟩)), (72, .agg #[.slice none 0 0])] ?_
        refine sa M87 3 #[.slice none 0 0] fun w112 M113 => ?_
        refine sg 1 [2, 3] [(2, .pointer (some ⟨b1, 0, none⟩)), (3, .int .i64 7)] ?_
        refine to_end rfl (tn_code (tc_ret ?_))
        refine tr_cell_tmp M113 3 rfl rfl rfl rfl Try.underlying45 rfl (by kernel_rfl) ?_
        have he : progGet bs = ([], 7) := get_no (by rw [hh]; exact h111)
        have M114 := (((((M113.drop 3).drop 2).drop 1).drop 0)).nilrow kFn 57
        rw [he]
        exact ⟨none, 0, rfl, M114⟩
      · have h111p := beq_iff_eq.1 h111
        refine sg 3 [2, 4, 5, 6, 7, 32, 35] [(2, .pointer (some ⟨b1, 0, none⟩)), (4, .pointer (some ⟨b4, 0, none⟩)), (5, .bool true), (6, .pointer (some ⟨b61, 0, none⟩)), (7, .int .i64 (n75 : Int)), (32, .bool true), (35, .pointer (some ⟨b4, 1, none⟩))] ?_
        refine ld M87 1 36 (.bool q77.2) ?_
        refine sg 2 [2, 4, 5, 6, 7, 38] [(2, .pointer (some ⟨b1, 0, none⟩)), (4, .pointer (some ⟨b4, 0, none⟩)), (5, .bool true), (6, .pointer (some ⟨b61, 0, none⟩)), (7, .int .i64 (n75 : Int)), (38, .bool (!q77.2))] ?_
        refine to_end rfl (tn_code ?_)
        rcases h115 : (q77.2 : Bool) with _ | _
        · refine tc_cond_t (fun _ => rfl) (tc_skip (tn_code (tc_seq (tc_block ?_))))
          refine tc_drawL (fun w' => Mem w w' ([blk b61 #[.slice A78 acc76.length c79] 45, blk b1 #[.slice none 0 0] 45])) [10] (by kernel_rfl) ?_
          have M116 := M87.draw
          refine ty_take 0 41 (.pointer (some ⟨b61, 0, none⟩)) (pok_cont pok_body) ?_ ((M116.drop 1).drop 0) (fun _ _ _ => by kernel_rfl)
          refine ty_take 1 42 (.slice A78 acc76.length c79) (pok_cont pok_body) ?_ ((M116.drop 1).drop 0) (fun _ M' _ => rl M' 0)
          refine ty_take 2 43 (.pointer (some ⟨b4, 0, none⟩)) (pok_cont pok_body) ?_ ((M116.drop 1).drop 0) (fun _ _ _ => by kernel_rfl)
          refine ty_take 3 44 (.agg #[.int .i64 0, .slice none 0 0]) (pok_cont pok_body) ?_ ((M116.drop 1).drop 0) (fun _ _ _ => by kernel_rfl)
          refine ty_take 4 45 (.iface 57 (.agg #[.int .i64 0, .slice none 0 0])) (pok_cont pok_body) ?_ ((M116.drop 1).drop 0) (fun _ _ _ => by kernel_rfl)
          refine ty_all (rs := [5]) (te_one ?_)
          have M117 := M116.front 1 rfl
          refine te_ce 46 (part_fn b4 A80 c81 q77 _ M117 hqC hql hqo ) fun e125 w126 h127 => ?_
          obtain ⟨A118, c119, A123, c124, rfl, M120, hC121, hl122⟩ := h127
          refine ⟨_, rfl, fun _ _ => (((M120.drop 2).drop 1).drop 0), ?_⟩
          refine ty_take 6 47 (.agg #[.int .i64 (rdFn q77).1.args, .slice A123 (rdFn q77).1.code.length c124]) (pok_cont pok_body) ?_ (((M120.drop 2).drop 1).drop 0) (fun _ _ _ => by kernel_rfl)
          refine ty_all (rs := [7]) (te_one ?_)
          have M131 := kFn_M (x := (⟨(rdFn q77).1.args, (rdFn q77).1.code⟩ : Fn)) M120
          refine te_bs1 (x := (⟨(rdFn q77).1.args, (rdFn q77).1.code⟩ : Fn)) (cs := #[.int .i64 (rdFn q77).1.args, .slice A123 (rdFn q77).1.code.length c124]) M131 48 57 (fun _ _ M_ _ _ => (((M_.drop 2).drop 1).drop 0)) fun b128 w129 M130 => ?_
          refine ty_all (rs := [8]) (te_one ?_)
          have M136 := M130.front 2 rfl
          refine te_ap (z := .agg #[.int .i64 0, .slice none 0 0]) (bytes := 32) M136 49 Try.underlying43 ?_ (fun _ _ _ M_ _ _ => ((M_.drop 1).drop 0)) fun A132 c133 w134 M135 => ?_
          · simp only [List.length_append, List.length_cons, List.length_nil, List.length_take]; omega
          refine ty_take 9 50 (.pointer (some ⟨b61, 0, none⟩)) (pok_cont pok_body) ?_ ((M135.drop 1).drop 0) (fun _ _ _ => by kernel_rfl)
          refine ty_all (rs := [10]) (te_one ?_)
          refine te_st M135 2 #[.slice A132 (acc76 ++ [(⟨(rdFn q77).1.args, (rdFn q77).1.code⟩ : Fn)]).length c133] (fun _ _ h_ _ => absurd (by decide) h_) fun w137 M138 => ?_
          refine ty_endL ?_
          refine tn_blk (tn_code (tc_region ?_))
          refine sg 3 [2, 4, 5, 6, 7] [(2, .pointer (some ⟨b1, 0, none⟩)), (4, .pointer (some ⟨b4, 0, none⟩)), (5, .bool true), (6, .pointer (some ⟨b61, 0, none⟩)), (7, .int .i64 (IntKind.wrap .i64 ((n75 : Int) - 1)))] ?_
          rw [wr_i64 (x := (n75 : Int) - 1) (by omega) (by omega)]
          refine to_end rfl ?_
          rw [show ((n75 : Int) - 1) = ((n75 - 1 : Nat) : Int) by omega]
          exact tn_back (s := (n75, acc76, q77, A78, c79, A80, c81)) (n75 - 1, (acc76 ++ [(⟨(rdFn q77).1.args, (rdFn q77).1.code⟩ : Fn)]), (rdFn q77).2, A132, c133, A118, c119) (Sub.cons rfl (Sub.cons rfl (Sub.cons rfl (Sub.cons rfl (Sub.cons rfl (Sub.nil _)))))) ⟨⟨by rw [← rdFns_go (by omega) h115]; exact hq1, by simp only [List.length_append, List.length_singleton]; omega, rdFn_ok hqo, hC121, hl122⟩, M138⟩ (by simp only; omega)
        · refine tc_cond_f (fun _ => rfl) (tc_exitK (k' := _) rfl (tn_code (tc_seq (tc_seq (tc_region ?_)))))
          refine sg 6 [2, 4, 6, 53, 56] [(2, .pointer (some ⟨b1, 0, none⟩)), (4, .pointer (some ⟨b4, 0, none⟩)), (6, .pointer (some ⟨b61, 0, none⟩)), (53, .bool false), (56, .pointer (some ⟨b4, 1, none⟩))] ?_
          refine ld M87 1 57 (.bool q77.2) ?_
          refine sg 2 [2, 4, 6, 59] [(2, .pointer (some ⟨b1, 0, none⟩)), (4, .pointer (some ⟨b4, 0, none⟩)), (6, .pointer (some ⟨b61, 0, none⟩)), (59, .bool q77.2)] ?_
          rw [h115]
          refine sg 12 [2, 6, 71] [(2, .pointer (some ⟨b1, 0, none⟩)), (6, .pointer (some ⟨b61, 0, none⟩)), (71, .bool true)] ?_
          refine to_end rfl (tn_code (tc_cond_t (fun _ => rfl) (tc_seq (tc_region ?_))))
          refine sg 1 [2, 72] [(2, .pointer (some ⟨b1, 0, none⟩)), (72, .agg #[.slice none 0 0])] ?_
          refine sa M87 3 #[.slice none 0 0] fun w139 M140 => ?_
          refine sg 1 [2, 3] [(2, .pointer (some ⟨b1, 0, none⟩)), (3, .int .i64 7)] ?_
          refine to_end rfl (tn_code (tc_ret ?_))
          refine tr_cell_tmp M140 3 rfl rfl rfl rfl Try.underlying45 rfl (by kernel_rfl) ?_
          have he := get_end (bs := bs) (acc := acc76) (q := q77) (by rw [hh]; exact h111) (by rw [hh]; simp only; rw [← hq1]; exact rdFns_stop (.inr h115))
          rw [if_neg (by rw [h115]; simp)] at he
          have M141 := (((((M140.drop 3).drop 2).drop 1).drop 0)).nilrow kFn 57
          rw [he]
          exact ⟨none, 0, rfl, M141⟩
end Go.Proofs.Ytfknhbgghpbkpaa
