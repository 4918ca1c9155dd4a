/- Instructions as bytes. -/
import Derived.Test.YtfknhbgghpbkpaaBase2
import Derived.Test.YtfknhbgghpbkpaaInst1
namespace Go.Proofs.Ytfknhbgghpbkpaa
open Go.RowKit Cal Go.Proofs.YtfknhbgghpbkpaaW.PrintWords
theorem or128_0 : ∀ r : Fin 128, bits .or .u8 ((r.val : Nat) : Int) 128 = ((r.val : Nat) : Int) + 128 := by decide
theorem or128 {r : Int} (h0 : 0 ≤ r) (h1 : r < 128) : bits .or .u8 r 128 = r + 128 := by
  have := or128_0 ⟨r.toNat, by omega⟩
  simpa [Int.toNat_of_nonneg h0] using this
theorem put_any (x : Inst) (w : World) (hm : instMay x = true) : Calls Try.prog 132 #[.agg x.cs] w fun e w' => ∃ A c, e = .returned (.tuple #[.slice A (instBytes x).length c, .int .i64 0]) ∧ Mem w w' [row kB 5 (.slice A (instBytes x).length c) (instBytes x)] := by
  have M := Mem.refl w
  have hbd := may_bd hm
  refine calls_tc (N := 50) (args := [.agg x.cs]) Try.func132 rfl rfl rfl ?_
  refine tc_seq (tc_region ?_)
  refine nw M 1 x.cs 65 fun b1 w2 M3 => ?_
  refine sg 2 [1] [(1, .pointer (some ⟨b1, 0, none⟩))] ?_
  refine to_end rfl (tn_code (tc_seq (tc_seq (tc_region ?_))))
  refine la M3 0 7 x.cs (hu := Try.underlying65) ?_
  refine cb M3 8 (may_any x _) fun w4 hb6 M5 => ?_
  refine sg 1 [1, 9] [(1, .pointer (some ⟨b1, 0, none⟩)), (9, .bool (!(instMay x)))] ?_
  refine to_end rfl (tn_code ?_)
  rw [hm]
  refine tc_cond_f (fun _ => rfl) (tc_skip (tn_code (tc_seq (tc_region ?_))))
  refine sg 1 [1, 10] [(1, .pointer (some ⟨b1, 0, none⟩)), (10, .pointer (some ⟨b1, 2, none⟩))] ?_
  refine ld M5 0 11 (.int .i64 x.dst) ?_
  refine sg 2 [1, 12, 13] [(1, .pointer (some ⟨b1, 0, none⟩)), (12, .int .i64 (IntKind.wrap .i64 (8 * x.dst))), (13, .pointer (some ⟨b1, 3, none⟩))] ?_
  rw [wr_i64 (x := 8 * x.dst) (by omega) (by omega)]
  refine ld M5 0 14 (.int .i64 x.src) ?_
  refine sg 3 [1, 4] [(1, .pointer (some ⟨b1, 0, none⟩)), (4, .int .u8 (IntKind.wrap .u8 (IntKind.wrap .i64 ((8 * x.dst) + x.src))))] ?_
  rw [wr_i64 (x := (8 * x.dst) + x.src) (by omega) (by omega)]
  rw [wr_u8 (x := ((8 * x.dst) + x.src)) (by omega) (by omega)]
  refine to_end rfl (tn_code (tc_seq (tc_seq (tc_region ?_))))
  refine sg 1 [1, 4, 17] [(1, .pointer (some ⟨b1, 0, none⟩)), (4, .int .u8 ((8 * x.dst) + x.src)), (17, .pointer (some ⟨b1, 4, none⟩))] ?_
  refine ld M5 0 18 (.bool x.reg) ?_
  refine to_end rfl (tn_code ?_)
  refine tc_cond (b := x.reg) (fun _ => rfl) (fun h7 => ?_) (fun h7 => ?_)
  · refine tc_region ?_
    refine sg 3 [1, 4] [(1, .pointer (some ⟨b1, 0, none⟩)), (4, .int .u8 (bits .or .u8 ((8 * x.dst) + x.src) 128))] ?_
    rw [or128 (r := ((8 * x.dst) + x.src)) (by omega) (by omega)]
    refine to_end rfl (tn_code (tc_seq (tc_region ?_)))
    refine sg 1 [1, 4, 21] [(1, .pointer (some ⟨b1, 0, none⟩)), (4, .int .u8 (((8 * x.dst) + x.src) + 128)), (21, .pointer (some ⟨b1, 0, none⟩))] ?_
    refine ld M5 0 22 (.int .i64 x.op) ?_
    refine sg 2 [1, 4, 23, 24] [(1, .pointer (some ⟨b1, 0, none⟩)), (4, .int .u8 (((8 * x.dst) + x.src) + 128)), (23, .int .i64 (IntKind.wrap .i64 (16 * x.op))), (24, .pointer (some ⟨b1, 1, none⟩))] ?_
    rw [wr_i64 (x := 16 * x.op) (by omega) (by omega)]
    refine ld M5 0 25 (.int .i64 x.fn) ?_
    refine sg 4 [1, 27, 28, 29] [(1, .pointer (some ⟨b1, 0, none⟩)), (27, .int .u8 (IntKind.wrap .u8 (IntKind.wrap .i64 ((16 * x.op) + x.fn)))), (28, .int .u8 (((8 * x.dst) + x.src) + 128)), (29, .pointer (some ⟨b1, 5, none⟩))] ?_
    rw [wr_i64 (x := (16 * x.op) + x.fn) (by omega) (by omega)]
    rw [wr_u8 (x := ((16 * x.op) + x.fn)) (by omega) (by omega)]
    refine ld M5 0 30 (.int .i64 x.off) ?_
    refine sg 3 [1, 27, 28, 32, 33] [(1, .pointer (some ⟨b1, 0, none⟩)), (27, .int .u8 ((16 * x.op) + x.fn)), (28, .int .u8 (((8 * x.dst) + x.src) + 128)), (32, .int .u8 (IntKind.wrap .u8 (Int.fdiv x.off 256))), (33, .pointer (some ⟨b1, 5, none⟩))] ?_
    rw [show Int.fdiv x.off 256 = x.off / 256 from Int.fdiv_eq_ediv_of_nonneg _ (by decide)]
    rw [wr_u8 (x := (x.off / 256)) (by omega) (by omega)]
    refine ld M5 0 34 (.int .i64 x.off) ?_
    refine sg 1 [1, 27, 28, 32, 35] [(1, .pointer (some ⟨b1, 0, none⟩)), (27, .int .u8 ((16 * x.op) + x.fn)), (28, .int .u8 (((8 * x.dst) + x.src) + 128)), (32, .int .u8 (x.off / 256)), (35, .int .u8 (IntKind.wrap .u8 x.off))] ?_
    rw [wr8 x.off]
    refine bsF M5 36 kB 5 ([((16 * x.op) + x.fn), (((8 * x.dst) + x.src) + 128), (x.off / 256), (x.off % 256)] : List Int) #[.int .u8 ((16 * x.op) + x.fn), .int .u8 (((8 * x.dst) + x.src) + 128), .int .u8 (x.off / 256), .int .u8 (x.off % 256)] (repB [((16 * x.op) + x.fn), (((8 * x.dst) + x.src) + 128), (x.off / 256), (x.off % 256)]) (Nat.le_of_ble_eq_true rfl) fun b8 w9 M10 => ?_
    refine sg 1 [1, 5] [(1, .pointer (some ⟨b1, 0, none⟩)), (5, .slice (some ⟨b8, 0, none⟩) 4 4)] ?_
    refine to_end rfl (tn_code (tc_seq (tc_seq (tc_region ?_))))
    refine sg 1 [1, 5, 6] [(1, .pointer (some ⟨b1, 0, none⟩)), (5, .slice (some ⟨b8, 0, none⟩) 4 4), (6, .int .i64 24)] ?_
    refine to_end rfl (tn_code (tc_block ?_))
    refine tc_loop (σ := Nat × Option Addr × Nat) (fun s_ => match s_ with | (k13, A14, c15) => [(1, .pointer (some ⟨b1, 0, none⟩)), (5, .slice A14 (([((16 * x.op) + x.fn), (((8 * x.dst) + x.src) + 128), (x.off / 256), (x.off % 256)] ++ List.take k13 [x.imm / 16777216 % 256, x.imm / 65536 % 256, x.imm / 256 % 256, x.imm / 1 % 256]).length) c15), (6, .int .i64 (24 - 8 * ((k13 : Nat) : Int)))]) (fun s_ w' => match s_ with | (k13, A14, c15) => k13 ≤ 4 ∧ True ∧ Mem w w' ([row kB 5 (.slice A14 (([((16 * x.op) + x.fn), (((8 * x.dst) + x.src) + 128), (x.off / 256), (x.off % 256)] ++ List.take k13 [x.imm / 16777216 % 256, x.imm / 65536 % 256, x.imm / 256 % 256, x.imm / 1 % 256]).length) c15) ([((16 * x.op) + x.fn), (((8 * x.dst) + x.src) + 128), (x.off / 256), (x.off % 256)] ++ List.take k13 [x.imm / 16777216 % 256, x.imm / 65536 % 256, x.imm / 256 % 256, x.imm / 1 % 256]), blk b1 x.cs 65])) (fun s_ => 4 - s_.1) (0, (some ⟨b8, 0, none⟩), 4) (Sub.cons rfl (Sub.cons rfl (Sub.cons rfl (Sub.nil _)))) ⟨Nat.zero_le _, trivial, M10⟩ ?_
    rintro ⟨k13, A14, c15⟩ w18 ⟨hk16, hi17, M19⟩
    rcases (show k13 = 0 ∨ k13 = 1 ∨ k13 = 2 ∨ k13 = 3 ∨ k13 = 4 by omega) with rfl | rfl | rfl | rfl | rfl
    · refine tc_sub (fr' := [(1, .pointer (some ⟨b1, 0, none⟩)), (5, .slice A14 (([((16 * x.op) + x.fn), (((8 * x.dst) + x.src) + 128), (x.off / 256), (x.off % 256)] ++ List.take 0 [x.imm / 16777216 % 256, x.imm / 65536 % 256, x.imm / 256 % 256, x.imm / 1 % 256]).length) c15), (6, .int .i64 24)]) (Sub.cons rfl (Sub.cons rfl (Sub.cons rfl (Sub.nil _)))) ?_
      refine tc_seq (tc_seq (tc_region ?_))
      refine sg 2 [1, 5, 6, 38] [(1, .pointer (some ⟨b1, 0, none⟩)), (5, .slice A14 (([((16 * x.op) + x.fn), (((8 * x.dst) + x.src) + 128), (x.off / 256), (x.off % 256)] ++ List.take 0 [x.imm / 16777216 % 256, x.imm / 65536 % 256, x.imm / 256 % 256, x.imm / 1 % 256]).length) c15), (6, .int .i64 24), (38, .bool true)] ?_
      refine to_end rfl (tn_code (tc_cond_t (fun _ => rfl) (tc_skip (tn_code (tc_seq (tc_block (tc_region ?_)))))))
      refine sg 2 [1, 6, 41, 42] [(1, .pointer (some ⟨b1, 0, none⟩)), (6, .int .i64 24), (41, .slice A14 (([((16 * x.op) + x.fn), (((8 * x.dst) + x.src) + 128), (x.off / 256), (x.off % 256)] ++ List.take 0 [x.imm / 16777216 % 256, x.imm / 65536 % 256, x.imm / 256 % 256, x.imm / 1 % 256]).length) c15), (42, .pointer (some ⟨b1, 6, none⟩))] ?_
      refine ld M19 1 43 (.int .u32 x.imm) ?_
      refine sg 3 [1, 6, 41, 46] [(1, .pointer (some ⟨b1, 0, none⟩)), (6, .int .i64 24), (41, .slice A14 (([((16 * x.op) + x.fn), (((8 * x.dst) + x.src) + 128), (x.off / 256), (x.off % 256)] ++ List.take 0 [x.imm / 16777216 % 256, x.imm / 65536 % 256, x.imm / 256 % 256, x.imm / 1 % 256]).length) c15), (46, .int .u8 (IntKind.wrap .u8 (Int.fdiv x.imm 16777216)))] ?_
      rw [show Int.fdiv x.imm 16777216 = x.imm / 16777216 from Int.fdiv_eq_ediv_of_nonneg _ (by decide)]
      rw [wr8 (x.imm / 16777216)]
      refine bsF M19 47 kB 5 ([((x.imm / 16777216) % 256)] : List Int) #[.int .u8 ((x.imm / 16777216) % 256)] (repB [((x.imm / 16777216) % 256)]) (Nat.le_of_ble_eq_true rfl) fun b20 w21 M22 => ?_
      have M27 := M22.front 1 rfl
      refine ap (z := .int .u8 0) (bytes := 1) M27 48 Try.underlying71 ?_ fun A23 c24 w25 M26 => ?_
      · simp only [List.length_append, List.length_cons, List.length_nil, List.length_take]; omega
      refine sg 1 [1, 6, 5] [(1, .pointer (some ⟨b1, 0, none⟩)), (6, .int .i64 24), (5, .slice A23 ((([((16 * x.op) + x.fn), (((8 * x.dst) + x.src) + 128), (x.off / 256), (x.off % 256)] ++ List.take 0 [x.imm / 16777216 % 256, x.imm / 65536 % 256, x.imm / 256 % 256, x.imm / 1 % 256]) ++ [((x.imm / 16777216) % 256)]).length) c24)] ?_
      refine to_end rfl (tn_blk (tn_code (tc_region ?_)))
      refine sg 3 [1, 6, 5] [(1, .pointer (some ⟨b1, 0, none⟩)), (6, .int .i64 16), (5, .slice A23 ((([((16 * x.op) + x.fn), (((8 * x.dst) + x.src) + 128), (x.off / 256), (x.off % 256)] ++ List.take 0 [x.imm / 16777216 % 256, x.imm / 65536 % 256, x.imm / 256 % 256, x.imm / 1 % 256]) ++ [((x.imm / 16777216) % 256)]).length) c24)] ?_
      refine to_end rfl ?_
      exact tn_back (1, A23, c24) (Sub.cons rfl (Sub.cons rfl (Sub.cons rfl (Sub.nil _)))) ⟨by omega, trivial, M26⟩ (by omega)
    · refine tc_sub (fr' := [(1, .pointer (some ⟨b1, 0, none⟩)), (5, .slice A14 (([((16 * x.op) + x.fn), (((8 * x.dst) + x.src) + 128), (x.off / 256), (x.off % 256)] ++ List.take 1 [x.imm / 16777216 % 256, x.imm / 65536 % 256, x.imm / 256 % 256, x.imm / 1 % 256]).length) c15), (6, .int .i64 16)]) (Sub.cons rfl (Sub.cons rfl (Sub.cons rfl (Sub.nil _)))) ?_
      refine tc_seq (tc_seq (tc_region ?_))
      refine sg 2 [1, 5, 6, 38] [(1, .pointer (some ⟨b1, 0, none⟩)), (5, .slice A14 (([((16 * x.op) + x.fn), (((8 * x.dst) + x.src) + 128), (x.off / 256), (x.off % 256)] ++ List.take 1 [x.imm / 16777216 % 256, x.imm / 65536 % 256, x.imm / 256 % 256, x.imm / 1 % 256]).length) c15), (6, .int .i64 16), (38, .bool true)] ?_
      refine to_end rfl (tn_code (tc_cond_t (fun _ => rfl) (tc_skip (tn_code (tc_seq (tc_block (tc_region ?_)))))))
      refine sg 2 [1, 6, 41, 42] [(1, .pointer (some ⟨b1, 0, none⟩)), (6, .int .i64 16), (41, .slice A14 (([((16 * x.op) + x.fn), (((8 * x.dst) + x.src) + 128), (x.off / 256), (x.off % 256)] ++ List.take 1 [x.imm / 16777216 % 256, x.imm / 65536 % 256, x.imm / 256 % 256, x.imm / 1 % 256]).length) c15), (42, .pointer (some ⟨b1, 6, none⟩))] ?_
      refine ld M19 1 43 (.int .u32 x.imm) ?_
      refine sg 3 [1, 6, 41, 46] [(1, .pointer (some ⟨b1, 0, none⟩)), (6, .int .i64 16), (41, .slice A14 (([((16 * x.op) + x.fn), (((8 * x.dst) + x.src) + 128), (x.off / 256), (x.off % 256)] ++ List.take 1 [x.imm / 16777216 % 256, x.imm / 65536 % 256, x.imm / 256 % 256, x.imm / 1 % 256]).length) c15), (46, .int .u8 (IntKind.wrap .u8 (Int.fdiv x.imm 65536)))] ?_
      rw [show Int.fdiv x.imm 65536 = x.imm / 65536 from Int.fdiv_eq_ediv_of_nonneg _ (by decide)]
      rw [wr8 (x.imm / 65536)]
      refine bsF M19 47 kB 5 ([((x.imm / 65536) % 256)] : List Int) #[.int .u8 ((x.imm / 65536) % 256)] (repB [((x.imm / 65536) % 256)]) (Nat.le_of_ble_eq_true rfl) fun b28 w29 M30 => ?_
      have M35 := M30.front 1 rfl
      refine ap (z := .int .u8 0) (bytes := 1) M35 48 Try.underlying71 ?_ fun A31 c32 w33 M34 => ?_
      · simp only [List.length_append, List.length_cons, List.length_nil, List.length_take]; omega
      refine sg 1 [1, 6, 5] [(1, .pointer (some ⟨b1, 0, none⟩)), (6, .int .i64 16), (5, .slice A31 ((([((16 * x.op) + x.fn), (((8 * x.dst) + x.src) + 128), (x.off / 256), (x.off % 256)] ++ List.take 1 [x.imm / 16777216 % 256, x.imm / 65536 % 256, x.imm / 256 % 256, x.imm / 1 % 256]) ++ [((x.imm / 65536) % 256)]).length) c32)] ?_
      refine to_end rfl (tn_blk (tn_code (tc_region ?_)))
      refine sg 3 [1, 6, 5] [(1, .pointer (some ⟨b1, 0, none⟩)), (6, .int .i64 8), (5, .slice A31 ((([((16 * x.op) + x.fn), (((8 * x.dst) + x.src) + 128), (x.off / 256), (x.off % 256)] ++ List.take 1 [x.imm / 16777216 % 256, x.imm / 65536 % 256, x.imm / 256 % 256, x.imm / 1 % 256]) ++ [((x.imm / 65536) % 256)]).length) c32)] ?_
      refine to_end rfl ?_
      exact tn_back (2, A31, c32) (Sub.cons rfl (Sub.cons rfl (Sub.cons rfl (Sub.nil _)))) ⟨by omega, trivial, M34⟩ (by omega)
    · refine tc_sub (fr' := [(1, .pointer (some ⟨b1, 0, none⟩)), (5, .slice A14 (([((16 * x.op) + x.fn), (((8 * x.dst) + x.src) + 128), (x.off / 256), (x.off % 256)] ++ List.take 2 [x.imm / 16777216 % 256, x.imm / 65536 % 256, x.imm / 256 % 256, x.imm / 1 % 256]).length) c15), (6, .int .i64 8)]) (Sub.cons rfl (Sub.cons rfl (Sub.cons rfl (Sub.nil _)))) ?_
      refine tc_seq (tc_seq (tc_region ?_))
      refine sg 2 [1, 5, 6, 38] [(1, .pointer (some ⟨b1, 0, none⟩)), (5, .slice A14 (([((16 * x.op) + x.fn), (((8 * x.dst) + x.src) + 128), (x.off / 256), (x.off % 256)] ++ List.take 2 [x.imm / 16777216 % 256, x.imm / 65536 % 256, x.imm / 256 % 256, x.imm / 1 % 256]).length) c15), (6, .int .i64 8), (38, .bool true)] ?_
      refine to_end rfl (tn_code (tc_cond_t (fun _ => rfl) (tc_skip (tn_code (tc_seq (tc_block (tc_region ?_)))))))
      refine sg 2 [1, 6, 41, 42] [(1, .pointer (some ⟨b1, 0, none⟩)), (6, .int .i64 8), (41, .slice A14 (([((16 * x.op) + x.fn), (((8 * x.dst) + x.src) + 128), (x.off / 256), (x.off % 256)] ++ List.take 2 [x.imm / 16777216 % 256, x.imm / 65536 % 256, x.imm / 256 % 256, x.imm / 1 % 256]).length) c15), (42, .pointer (some ⟨b1, 6, none⟩))] ?_
      refine ld M19 1 43 (.int .u32 x.imm) ?_
      refine sg 3 [1, 6, 41, 46] [(1, .pointer (some ⟨b1, 0, none⟩)), (6, .int .i64 8), (41, .slice A14 (([((16 * x.op) + x.fn), (((8 * x.dst) + x.src) + 128), (x.off / 256), (x.off % 256)] ++ List.take 2 [x.imm / 16777216 % 256, x.imm / 65536 % 256, x.imm / 256 % 256, x.imm / 1 % 256]).length) c15), (46, .int .u8 (IntKind.wrap .u8 (Int.fdiv x.imm 256)))] ?_
      rw [show Int.fdiv x.imm 256 = x.imm / 256 from Int.fdiv_eq_ediv_of_nonneg _ (by decide)]
      rw [wr8 (x.imm / 256)]
      refine bsF M19 47 kB 5 ([((x.imm / 256) % 256)] : List Int) #[.int .u8 ((x.imm / 256) % 256)] (repB [((x.imm / 256) % 256)]) (Nat.le_of_ble_eq_true rfl) fun b36 w37 M38 => ?_
      have M43 := M38.front 1 rfl
      refine ap (z := .int .u8 0) (bytes := 1) M43 48 Try.underlying71 ?_ fun A39 c40 w41 M42 => ?_
      · simp only [List.length_append, List.length_cons, List.length_nil, List.length_take]; omega
      refine sg 1 [1, 6, 5] [(1, .pointer (some ⟨b1, 0, none⟩)), (6, .int .i64 8), (5, .slice A39 ((([((16 * x.op) + x.fn), (((8 * x.dst) + x.src) + 128), (x.off / 256), (x.off % 256)] ++ List.take 2 [x.imm / 16777216 % 256, x.imm / 65536 % 256, x.imm / 256 % 256, x.imm / 1 % 256]) ++ [((x.imm / 256) % 256)]).length) c40)] ?_
      refine to_end rfl (tn_blk (tn_code (tc_region ?_)))
      refine sg 3 [1, 6, 5] [(1, .pointer (some ⟨b1, 0, none⟩)), (6, .int .i64 0), (5, .slice A39 ((([((16 * x.op) + x.fn), (((8 * x.dst) + x.src) + 128), (x.off / 256), (x.off % 256)] ++ List.take 2 [x.imm / 16777216 % 256, x.imm / 65536 % 256, x.imm / 256 % 256, x.imm / 1 % 256]) ++ [((x.imm / 256) % 256)]).length) c40)] ?_
      refine to_end rfl ?_
      exact tn_back (3, A39, c40) (Sub.cons rfl (Sub.cons rfl (Sub.cons rfl (Sub.nil _)))) ⟨by omega, trivial, M42⟩ (by omega)
    · refine tc_sub (fr' := [(1, .pointer (some ⟨b1, 0, none⟩)), (5, .slice A14 (([((16 * x.op) + x.fn), (((8 * x.dst) + x.src) + 128), (x.off / 256), (x.off % 256)] ++ List.take 3 [x.imm / 16777216 % 256, x.imm / 65536 % 256, x.imm / 256 % 256, x.imm / 1 % 256]).length) c15), (6, .int .i64 0)]) (Sub.cons rfl (Sub.cons rfl (Sub.cons rfl (Sub.nil _)))) ?_
      refine tc_seq (tc_seq (tc_region ?_))
      refine sg 2 [1, 5, 6, 38] [(1, .pointer (some ⟨b1, 0, none⟩)), (5, .slice A14 (([((16 * x.op) + x.fn), (((8 * x.dst) + x.src) + 128), (x.off / 256), (x.off % 256)] ++ List.take 3 [x.imm / 16777216 % 256, x.imm / 65536 % 256, x.imm / 256 % 256, x.imm / 1 % 256]).length) c15), (6, .int .i64 0), (38, .bool true)] ?_
      refine to_end rfl (tn_code (tc_cond_t (fun _ => rfl) (tc_skip (tn_code (tc_seq (tc_block (tc_region ?_)))))))
      refine sg 2 [1, 6, 41, 42] [(1, .pointer (some ⟨b1, 0, none⟩)), (6, .int .i64 0), (41, .slice A14 (([((16 * x.op) + x.fn), (((8 * x.dst) + x.src) + 128), (x.off / 256), (x.off % 256)] ++ List.take 3 [x.imm / 16777216 % 256, x.imm / 65536 % 256, x.imm / 256 % 256, x.imm / 1 % 256]).length) c15), (42, .pointer (some ⟨b1, 6, none⟩))] ?_
      refine ld M19 1 43 (.int .u32 x.imm) ?_
      refine sg 3 [1, 6, 41, 46] [(1, .pointer (some ⟨b1, 0, none⟩)), (6, .int .i64 0), (41, .slice A14 (([((16 * x.op) + x.fn), (((8 * x.dst) + x.src) + 128), (x.off / 256), (x.off % 256)] ++ List.take 3 [x.imm / 16777216 % 256, x.imm / 65536 % 256, x.imm / 256 % 256, x.imm / 1 % 256]).length) c15), (46, .int .u8 (IntKind.wrap .u8 (Int.fdiv x.imm 1)))] ?_
      rw [show Int.fdiv x.imm 1 = x.imm / 1 from Int.fdiv_eq_ediv_of_nonneg _ (by decide)]
      rw [wr8 (x.imm / 1)]
      refine bsF M19 47 kB 5 ([((x.imm / 1) % 256)] : List Int) #[.int .u8 ((x.imm / 1) % 256)] (repB [((x.imm / 1) % 256)]) (Nat.le_of_ble_eq_true rfl) fun b44 w45 M46 => ?_
      have M51 := M46.front 1 rfl
      refine ap (z := .int .u8 0) (bytes := 1) M51 48 Try.underlying71 ?_ fun A47 c48 w49 M50 => ?_
      · simp only [List.length_append, List.length_cons, List.length_nil, List.length_take]; omega
      refine sg 1 [1, 6, 5] [(1, .pointer (some ⟨b1, 0, none⟩)), (6, .int .i64 0), (5, .slice A47 ((([((16 * x.op) + x.fn), (((8 * x.dst) + x.src) + 128), (x.off / 256), (x.off % 256)] ++ List.take 3 [x.imm / 16777216 % 256, x.imm / 65536 % 256, x.imm / 256 % 256, x.imm / 1 % 256]) ++ [((x.imm / 1) % 256)]).length) c48)] ?_
      refine to_end rfl (tn_blk (tn_code (tc_region ?_)))
      refine sg 3 [1, 6, 5] [(1, .pointer (some ⟨b1, 0, none⟩)), (6, .int .i64 (-8)), (5, .slice A47 ((([((16 * x.op) + x.fn), (((8 * x.dst) + x.src) + 128), (x.off / 256), (x.off % 256)] ++ List.take 3 [x.imm / 16777216 % 256, x.imm / 65536 % 256, x.imm / 256 % 256, x.imm / 1 % 256]) ++ [((x.imm / 1) % 256)]).length) c48)] ?_
      refine to_end rfl ?_
      exact tn_back (4, A47, c48) (Sub.cons rfl (Sub.cons rfl (Sub.cons rfl (Sub.nil _)))) ⟨by omega, trivial, M50⟩ (by omega)
    · refine tc_sub (fr' := [(1, .pointer (some ⟨b1, 0, none⟩)), (5, .slice A14 (([((16 * x.op) + x.fn), (((8 * x.dst) + x.src) + 128), (x.off / 256), (x.off % 256)] ++ List.take 4 [x.imm / 16777216 % 256, x.imm / 65536 % 256, x.imm / 256 % 256, x.imm / 1 % 256]).length) c15), (6, .int .i64 (-8))]) (Sub.cons rfl (Sub.cons rfl (Sub.cons rfl (Sub.nil _)))) ?_
      refine tc_seq (tc_seq (tc_region ?_))
      refine sg 2 [1, 5, 6, 38] [(1, .pointer (some ⟨b1, 0, none⟩)), (5, .slice A14 (([((16 * x.op) + x.fn), (((8 * x.dst) + x.src) + 128), (x.off / 256), (x.off % 256)] ++ List.take 4 [x.imm / 16777216 % 256, x.imm / 65536 % 256, x.imm / 256 % 256, x.imm / 1 % 256]).length) c15), (6, .int .i64 (-8)), (38, .bool false)] ?_
      refine to_end rfl (tn_code (tc_cond_f (fun _ => rfl) (tc_exitK (k' := _) rfl (tn_code (tc_seq (tc_region ?_))))))
      refine sg 3 [2, 3] [(2, .slice A14 (([((16 * x.op) + x.fn), (((8 * x.dst) + x.src) + 128), (x.off / 256), (x.off % 256)] ++ List.take 4 [x.imm / 16777216 % 256, x.imm / 65536 % 256, x.imm / 256 % 256, x.imm / 1 % 256]).length) c15), (3, .int .i64 0)] ?_
      refine to_end rfl (tn_code (tc_ret ?_))
      refine tr_tmp2 rfl rfl rfl ?_
      have hl52 : ([((16 * x.op) + x.fn), (((8 * x.dst) + x.src) + 128), (x.off / 256), (x.off % 256)] ++ List.take 4 [x.imm / 16777216 % 256, x.imm / 65536 % 256, x.imm / 256 % 256, x.imm / 1 % 256]) = instBytes x := by simp [instBytes, h7]
      have M53 := (M19.drop 1)
      rw [hl52] at ⊢
      exact ⟨_, _, rfl, hl52 ▸ M53⟩
  · refine tc_skip (tn_code (tc_seq (tc_region ?_)))
    refine sg 1 [1, 4, 21] [(1, .pointer (some ⟨b1, 0, none⟩)), (4, .int .u8 ((8 * x.dst) + x.src)), (21, .pointer (some ⟨b1, 0, none⟩))] ?_
    refine ld M5 0 22 (.int .i64 x.op) ?_
    refine sg 2 [1, 4, 23, 24] [(1, .pointer (some ⟨b1, 0, none⟩)), (4, .int .u8 ((8 * x.dst) + x.src)), (23, .int .i64 (IntKind.wrap .i64 (16 * x.op))), (24, .pointer (some ⟨b1, 1, none⟩))] ?_
    rw [wr_i64 (x := 16 * x.op) (by omega) (by omega)]
    refine ld M5 0 25 (.int .i64 x.fn) ?_
    refine sg 4 [1, 27, 28, 29] [(1, .pointer (some ⟨b1, 0, none⟩)), (27, .int .u8 (IntKind.wrap .u8 (IntKind.wrap .i64 ((16 * x.op) + x.fn)))), (28, .int .u8 ((8 * x.dst) + x.src)), (29, .pointer (some ⟨b1, 5, none⟩))] ?_
    rw [wr_i64 (x := (16 * x.op) + x.fn) (by omega) (by omega)]
    rw [wr_u8 (x := ((16 * x.op) + x.fn)) (by omega) (by omega)]
    refine ld M5 0 30 (.int .i64 x.off) ?_
    refine sg 3 [1, 27, 28, 32, 33] [(1, .pointer (some ⟨b1, 0, none⟩)), (27, .int .u8 ((16 * x.op) + x.fn)), (28, .int .u8 ((8 * x.dst) + x.src)), (32, .int .u8 (IntKind.wrap .u8 (Int.fdiv x.off 256))), (33, .pointer (some ⟨b1, 5, none⟩))] ?_
    rw [show Int.fdiv x.off 256 = x.off / 256 from Int.fdiv_eq_ediv_of_nonneg _ (by decide)]
    rw [wr_u8 (x := (x.off / 256)) (by omega) (by omega)]
    refine ld M5 0 34 (.int .i64 x.off) ?_
    refine sg 1 [1, 27, 28, 32, 35] [(1, .pointer (some ⟨b1, 0, none⟩)), (27, .int .u8 ((16 * x.op) + x.fn)), (28, .int .u8 ((8 * x.dst) + x.src)), (32, .int .u8 (x.off / 256)), (35, .int .u8 (IntKind.wrap .u8 x.off))] ?_
    rw [wr8 x.off]
    refine bsF M5 36 kB 5 ([((16 * x.op) + x.fn), ((8 * x.dst) + x.src), (x.off / 256), (x.off % 256)] : List Int) #[.int .u8 ((16 * x.op) + x.fn), .int .u8 ((8 * x.dst) + x.src), .int .u8 (x.off / 256), .int .u8 (x.off % 256)] (repB [((16 * x.op) + x.fn), ((8 * x.dst) + x.src), (x.off / 256), (x.off % 256)]) (Nat.le_of_ble_eq_true rfl) fun b54 w55 M56 => ?_
    refine sg 1 [1, 5] [(1, .pointer (some ⟨b1, 0, none⟩)), (5, .slice (some ⟨b54, 0, none⟩) 4 4)] ?_
    refine to_end rfl (tn_code (tc_seq (tc_seq (tc_region ?_))))
    refine sg 1 [1, 5, 6] [(1, .pointer (some ⟨b1, 0, none⟩)), (5, .slice (some ⟨b54, 0, none⟩) 4 4), (6, .int .i64 24)] ?_
    refine to_end rfl (tn_code (tc_block ?_))
    refine tc_loop (σ := Nat × Option Addr × Nat) (fun s_ => match s_ with | (k59, A60, c61) => [(1, .pointer (some ⟨b1, 0, none⟩)), (5, .slice A60 (([((16 * x.op) + x.fn), ((8 * x.dst) + x.src), (x.off / 256), (x.off % 256)] ++ List.take k59 [x.imm / 16777216 % 256, x.imm / 65536 % 256, x.imm / 256 % 256, x.imm / 1 % 256]).length) c61), (6, .int .i64 (24 - 8 * ((k59 : Nat) : Int)))]) (fun s_ w' => match s_ with | (k59, A60, c61) => k59 ≤ 4 ∧ True ∧ Mem w w' ([row kB 5 (.slice A60 (([((16 * x.op) + x.fn), ((8 * x.dst) + x.src), (x.off / 256), (x.off % 256)] ++ List.take k59 [x.imm / 16777216 % 256, x.imm / 65536 % 256, x.imm / 256 % 256, x.imm / 1 % 256]).length) c61) ([((16 * x.op) + x.fn), ((8 * x.dst) + x.src), (x.off / 256), (x.off % 256)] ++ List.take k59 [x.imm / 16777216 % 256, x.imm / 65536 % 256, x.imm / 256 % 256, x.imm / 1 % 256]), blk b1 x.cs 65])) (fun s_ => 4 - s_.1) (0, (some ⟨b54, 0, none⟩), 4) (Sub.cons rfl (Sub.cons rfl (Sub.cons rfl (Sub.nil _)))) ⟨Nat.zero_le _, trivial, M56⟩ ?_
    rintro ⟨k59, A60, c61⟩ w64 ⟨hk62, hi63, M65⟩
    rcases (show k59 = 0 ∨ k59 = 1 ∨ k59 = 2 ∨ k59 = 3 ∨ k59 = 4 by omega) with rfl | rfl | rfl | rfl | rfl
    · refine tc_sub (fr' := [(1, .pointer (some ⟨b1, 0, none⟩)), (5, .slice A60 (([((16 * x.op) + x.fn), ((8 * x.dst) + x.src), (x.off / 256), (x.off % 256)] ++ List.take 0 [x.imm / 16777216 % 256, x.imm / 65536 % 256, x.imm / 256 % 256, x.imm / 1 % 256]).length) c61), (6, .int .i64 24)]) (Sub.cons rfl (Sub.cons rfl (Sub.cons rfl (Sub.nil _)))) ?_
      refine tc_seq (tc_seq (tc_region ?_))
      refine sg 2 [1, 5, 6, 38] [(1, .pointer (some ⟨b1, 0, none⟩)), (5, .slice A60 (([((16 * x.op) + x.fn), ((8 * x.dst) + x.src), (x.off / 256), (x.off % 256)] ++ List.take 0 [x.imm / 16777216 % 256, x.imm / 65536 % 256, x.imm / 256 % 256, x.imm / 1 % 256]).length) c61), (6, .int .i64 24), (38, .bool true)] ?_
      refine to_end rfl (tn_code (tc_cond_t (fun _ => rfl) (tc_skip (tn_code (tc_seq (tc_block (tc_region ?_)))))))
      refine sg 2 [1, 6, 41, 42] [(1, .pointer (some ⟨b1, 0, none⟩)), (6, .int .i64 24), (41, .slice A60 (([((16 * x.op) + x.fn), ((8 * x.dst) + x.src), (x.off / 256), (x.off % 256)] ++ List.take 0 [x.imm / 16777216 % 256, x.imm / 65536 % 256, x.imm / 256 % 256, x.imm / 1 % 256]).length) c61), (42, .pointer (some ⟨b1, 6, none⟩))] ?_
      refine ld M65 1 43 (.int .u32 x.imm) ?_
      refine sg 3 [1, 6, 41, 46] [(1, .pointer (some ⟨b1, 0, none⟩)), (6, .int .i64 24), (41, .slice A60 (([((16 * x.op) + x.fn), ((8 * x.dst) + x.src), (x.off / 256), (x.off % 256)] ++ List.take 0 [x.imm / 16777216 % 256, x.imm / 65536 % 256, x.imm / 256 % 256, x.imm / 1 % 256]).length) c61), (46, .int .u8 (IntKind.wrap .u8 (Int.fdiv x.imm 16777216)))] ?_
      rw [show Int.fdiv x.imm 16777216 = x.imm / 16777216 from Int.fdiv_eq_ediv_of_nonneg _ (by decide)]
      rw [wr8 (x.imm / 16777216)]
      refine bsF M65 47 kB 5 ([((x.imm / 16777216) % 256)] : List Int) #[.int .u8 ((x.imm / 16777216) % 256)] (repB [((x.imm / 16777216) % 256)]) (Nat.le_of_ble_eq_true rfl) fun b66 w67 M68 => ?_
      have M73 := M68.front 1 rfl
      refine ap (z := .int .u8 0) (bytes := 1) M73 48 Try.underlying71 ?_ fun A69 c70 w71 M72 => ?_
      · simp only [List.length_append, List.length_cons, List.length_nil, List.length_take]; omega
      refine sg 1 [1, 6, 5] [(1, .pointer (some ⟨b1, 0, none⟩)), (6, .int .i64 24), (5, .slice A69 ((([((16 * x.op) + x.fn), ((8 * x.dst) + x.src), (x.off / 256), (x.off % 256)] ++ List.take 0 [x.imm / 16777216 % 256, x.imm / 65536 % 256, x.imm / 256 % 256, x.imm / 1 % 256]) ++ [((x.imm / 16777216) % 256)]).length) c70)] ?_
      refine to_end rfl (tn_blk (tn_code (tc_region ?_)))
      refine sg 3 [1, 6, 5] [(1, .pointer (some ⟨b1, 0, none⟩)), (6, .int .i64 16), (5, .slice A69 ((([((16 * x.op) + x.fn), ((8 * x.dst) + x.src), (x.off / 256), (x.off % 256)] ++ List.take 0 [x.imm / 16777216 % 256, x.imm / 65536 % 256, x.imm / 256 % 256, x.imm / 1 % 256]) ++ [((x.imm / 16777216) % 256)]).length) c70)] ?_
      refine to_end rfl ?_
      exact tn_back (1, A69, c70) (Sub.cons rfl (Sub.cons rfl (Sub.cons rfl (Sub.nil _)))) ⟨by omega, trivial, M72⟩ (by omega)
    · refine tc_sub (fr' := [(1, .pointer (some ⟨b1, 0, none⟩)), (5, .slice A60 (([((16 * x.op) + x.fn), ((8 * x.dst) + x.src), (x.off / 256), (x.off % 256)] ++ List.take 1 [x.imm / 16777216 % 256, x.imm / 65536 % 256, x.imm / 256 % 256, x.imm / 1 % 256]).length) c61), (6, .int .i64 16)]) (Sub.cons rfl (Sub.cons rfl (Sub.cons rfl (Sub.nil _)))) ?_
      refine tc_seq (tc_seq (tc_region ?_))
      refine sg 2 [1, 5, 6, 38] [(1, .pointer (some ⟨b1, 0, none⟩)), (5, .slice A60 (([((16 * x.op) + x.fn), ((8 * x.dst) + x.src), (x.off / 256), (x.off % 256)] ++ List.take 1 [x.imm / 16777216 % 256, x.imm / 65536 % 256, x.imm / 256 % 256, x.imm / 1 % 256]).length) c61), (6, .int .i64 16), (38, .bool true)] ?_
      refine to_end rfl (tn_code (tc_cond_t (fun _ => rfl) (tc_skip (tn_code (tc_seq (tc_block (tc_region ?_)))))))
      refine sg 2 [1, 6, 41, 42] [(1, .pointer (some ⟨b1, 0, none⟩)), (6, .int .i64 16), (41, .slice A60 (([((16 * x.op) + x.fn), ((8 * x.dst) + x.src), (x.off / 256), (x.off % 256)] ++ List.take 1 [x.imm / 16777216 % 256, x.imm / 65536 % 256, x.imm / 256 % 256, x.imm / 1 % 256]).length) c61), (42, .pointer (some ⟨b1, 6, none⟩))] ?_
      refine ld M65 1 43 (.int .u32 x.imm) ?_
      refine sg 3 [1, 6, 41, 46] [(1, .pointer (some ⟨b1, 0, none⟩)), (6, .int .i64 16), (41, .slice A60 (([((16 * x.op) + x.fn), ((8 * x.dst) + x.src), (x.off / 256), (x.off % 256)] ++ List.take 1 [x.imm / 16777216 % 256, x.imm / 65536 % 256, x.imm / 256 % 256, x.imm / 1 % 256]).length) c61), (46, .int .u8 (IntKind.wrap .u8 (Int.fdiv x.imm 65536)))] ?_
      rw [show Int.fdiv x.imm 65536 = x.imm / 65536 from Int.fdiv_eq_ediv_of_nonneg _ (by decide)]
      rw [wr8 (x.imm / 65536)]
      refine bsF M65 47 kB 5 ([((x.imm / 65536) % 256)] : List Int) #[.int .u8 ((x.imm / 65536) % 256)] (repB [((x.imm / 65536) % 256)]) (Nat.le_of_ble_eq_true rfl) fun b74 w75 M76 => ?_
      have M81 := M76.front 1 rfl
      refine ap (z := .int .u8 0) (bytes := 1) M81 48 Try.underlying71 ?_ fun A77 c78 w79 M80 => ?_
      · simp only [List.length_append, List.length_cons, List.length_nil, List.length_take]; omega
      refine sg 1 [1, 6, 5] [(1, .pointer (some ⟨b1, 0, none⟩)), (6, .int .i64 16), (5, .slice A77 ((([((16 * x.op) + x.fn), ((8 * x.dst) + x.src), (x.off / 256), (x.off % 256)] ++ List.take 1 [x.imm / 16777216 % 256, x.imm / 65536 % 256, x.imm / 256 % 256, x.imm / 1 % 256]) ++ [((x.imm / 65536) % 256)]).length) c78)] ?_
      refine to_end rfl (tn_blk (tn_code (tc_region ?_)))
      refine sg 3 [1, 6, 5] [(1, .pointer (some ⟨b1, 0, none⟩)), (6, .int .i64 8), (5, .slice A77 ((([((16 * x.op) + x.fn), ((8 * x.dst) + x.src), (x.off / 256), (x.off % 256)] ++ List.take 1 [x.imm / 16777216 % 256, x.imm / 65536 % 256, x.imm / 256 % 256, x.imm / 1 % 256]) ++ [((x.imm / 65536) % 256)]).length) c78)] ?_
      refine to_end rfl ?_
      exact tn_back (2, A77, c78) (Sub.cons rfl (Sub.cons rfl (Sub.cons rfl (Sub.nil _)))) ⟨by omega, trivial, M80⟩ (by omega)
    · refine tc_sub (fr' := [(1, .pointer (some ⟨b1, 0, none⟩)), (5, .slice A60 (([((16 * x.op) + x.fn), ((8 * x.dst) + x.src), (x.off / 256), (x.off % 256)] ++ List.take 2 [x.imm / 16777216 % 256, x.imm / 65536 % 256, x.imm / 256 % 256, x.imm / 1 % 256]).length) c61), (6, .int .i64 8)]) (Sub.cons rfl (Sub.cons rfl (Sub.cons rfl (Sub.nil _)))) ?_
      refine tc_seq (tc_seq (tc_region ?_))
      refine sg 2 [1, 5, 6, 38] [(1, .pointer (some ⟨b1, 0, none⟩)), (5, .slice A60 (([((16 * x.op) + x.fn), ((8 * x.dst) + x.src), (x.off / 256), (x.off % 256)] ++ List.take 2 [x.imm / 16777216 % 256, x.imm / 65536 % 256, x.imm / 256 % 256, x.imm / 1 % 256]).length) c61), (6, .int .i64 8), (38, .bool true)] ?_
      refine to_end rfl (tn_code (tc_cond_t (fun _ => rfl) (tc_skip (tn_code (tc_seq (tc_block (tc_region ?_)))))))
      refine sg 2 [1, 6, 41, 42] [(1, .pointer (some ⟨b1, 0, none⟩)), (6, .int .i64 8), (41, .slice A60 (([((16 * x.op) + x.fn), ((8 * x.dst) + x.src), (x.off / 256), (x.off % 256)] ++ List.take 2 [x.imm / 16777216 % 256, x.imm / 65536 % 256, x.imm / 256 % 256, x.imm / 1 % 256]).length) c61), (42, .pointer (some ⟨b1, 6, none⟩))] ?_
      refine ld M65 1 43 (.int .u32 x.imm) ?_
      refine sg 3 [1, 6, 41, 46] [(1, .pointer (some ⟨b1, 0, none⟩)), (6, .int .i64 8), (41, .slice A60 (([((16 * x.op) + x.fn), ((8 * x.dst) + x.src), (x.off / 256), (x.off % 256)] ++ List.take 2 [x.imm / 16777216 % 256, x.imm / 65536 % 256, x.imm / 256 % 256, x.imm / 1 % 256]).length) c61), (46, .int .u8 (IntKind.wrap .u8 (Int.fdiv x.imm 256)))] ?_
      rw [show Int.fdiv x.imm 256 = x.imm / 256 from Int.fdiv_eq_ediv_of_nonneg _ (by decide)]
      rw [wr8 (x.imm / 256)]
      refine bsF M65 47 kB 5 ([((x.imm / 256) % 256)] : List Int) #[.int .u8 ((x.imm / 256) % 256)] (repB [((x.imm / 256) % 256)]) (Nat.le_of_ble_eq_true rfl) fun b82 w83 M84 => ?_
      have M89 := M84.front 1 rfl
      refine ap (z := .int .u8 0) (bytes := 1) M89 48 Try.underlying71 ?_ fun A85 c86 w87 M88 => ?_
      · simp only [List.length_append, List.length_cons, List.length_nil, List.length_take]; omega
      refine sg 1 [1, 6, 5] [(1, .pointer (some ⟨b1, 0, none⟩)), (6, .int .i64 8), (5, .slice A85 ((([((16 * x.op) + x.fn), ((8 * x.dst) + x.src), (x.off / 256), (x.off % 256)] ++ List.take 2 [x.imm / 16777216 % 256, x.imm / 65536 % 256, x.imm / 256 % 256, x.imm / 1 % 256]) ++ [((x.imm / 256) % 256)]).length) c86)] ?_
      refine to_end rfl (tn_blk (tn_code (tc_region ?_)))
      refine sg 3 [1, 6, 5] [(1, .pointer (some ⟨b1, 0, none⟩)), (6, .int .i64 0), (5, .slice A85 ((([((16 * x.op) + x.fn), ((8 * x.dst) + x.src), (x.off / 256), (x.off % 256)] ++ List.take 2 [x.imm / 16777216 % 256, x.imm / 65536 % 256, x.imm / 256 % 256, x.imm / 1 % 256]) ++ [((x.imm / 256) % 256)]).length) c86)] ?_
      refine to_end rfl ?_
      exact tn_back (3, A85, c86) (Sub.cons rfl (Sub.cons rfl (Sub.cons rfl (Sub.nil _)))) ⟨by omega, trivial, M88⟩ (by omega)
    · refine tc_sub (fr' := [(1, .pointer (some ⟨b1, 0, none⟩)), (5, .slice A60 (([((16 * x.op) + x.fn), ((8 * x.dst) + x.src), (x.off / 256), (x.off % 256)] ++ List.take 3 [x.imm / 16777216 % 256, x.imm / 65536 % 256, x.imm / 256 % 256, x.imm / 1 % 256]).length) c61), (6, .int .i64 0)]) (Sub.cons rfl (Sub.cons rfl (Sub.cons rfl (Sub.nil _)))) ?_
      refine tc_seq (tc_seq (tc_region ?_))
      refine sg 2 [1, 5, 6, 38] [(1, .pointer (some ⟨b1, 0, none⟩)), (5, .slice A60 (([((16 * x.op) + x.fn), ((8 * x.dst) + x.src), (x.off / 256), (x.off % 256)] ++ List.take 3 [x.imm / 16777216 % 256, x.imm / 65536 % 256, x.imm / 256 % 256, x.imm / 1 % 256]).length) c61), (6, .int .i64 0), (38, .bool true)] ?_
      refine to_end rfl (tn_code (tc_cond_t (fun _ => rfl) (tc_skip (tn_code (tc_seq (tc_block (tc_region ?_)))))))
      refine sg 2 [1, 6, 41, 42] [(1, .pointer (some ⟨b1, 0, none⟩)), (6, .int .i64 0), (41, .slice A60 (([((16 * x.op) + x.fn), ((8 * x.dst) + x.src), (x.off / 256), (x.off % 256)] ++ List.take 3 [x.imm / 16777216 % 256, x.imm / 65536 % 256, x.imm / 256 % 256, x.imm / 1 % 256]).length) c61), (42, .pointer (some ⟨b1, 6, none⟩))] ?_
      refine ld M65 1 43 (.int .u32 x.imm) ?_
      refine sg 3 [1, 6, 41, 46] [(1, .pointer (some ⟨b1, 0, none⟩)), (6, .int .i64 0), (41, .slice A60 (([((16 * x.op) + x.fn), ((8 * x.dst) + x.src), (x.off / 256), (x.off % 256)] ++ List.take 3 [x.imm / 16777216 % 256, x.imm / 65536 % 256, x.imm / 256 % 256, x.imm / 1 % 256]).length) c61), (46, .int .u8 (IntKind.wrap .u8 (Int.fdiv x.imm 1)))] ?_
      rw [show Int.fdiv x.imm 1 = x.imm / 1 from Int.fdiv_eq_ediv_of_nonneg _ (by decide)]
      rw [wr8 (x.imm / 1)]
      refine bsF M65 47 kB 5 ([((x.imm / 1) % 256)] : List Int) #[.int .u8 ((x.imm / 1) % 256)] (repB [((x.imm / 1) % 256)]) (Nat.le_of_ble_eq_true rfl) fun b90 w91 M92 => ?_
      have M97 := M92.front 1 rfl
      refine ap (z := .int .u8 0) (bytes := 1) M97 48 Try.underlying71 ?_ fun A93 c94 w95 M96 => ?_
      · simp only [List.length_append, List.length_cons, List.length_nil, List.length_take]; omega
      refine sg 1 [1, 6, 5] [(1, .pointer (some ⟨b1, 0, none⟩)), (6, .int .i64 0), (5, .slice A93 ((([((16 * x.op) + x.fn), ((8 * x.dst) + x.src), (x.off / 256), (x.off % 256)] ++ List.take 3 [x.imm / 16777216 % 256, x.imm / 65536 % 256, x.imm / 256 % 256, x.imm / 1 % 256]) ++ [((x.imm / 1) % 256)]).length) c94)] ?_
      refine to_end rfl (tn_blk (tn_code (tc_region ?_)))
      refine sg 3 [1, 6, 5] [(1, .pointer (some ⟨b1, 0, none⟩)), (6, .int .i64 (-8)), (5, .slice A93 ((([((16 * x.op) + x.fn), ((8 * x.dst) + x.src), (x.off / 256), (x.off % 256)] ++ List.take 3 [x.imm / 16777216 % 256, x.imm / 65536 % 256, x.imm / 256 % 256, x.imm / 1 % 256]) ++ [((x.imm / 1) % 256)]).length) c94)] ?_
      refine to_end rfl ?_
      exact tn_back (4, A93, c94) (Sub.cons rfl (Sub.cons rfl (Sub.cons rfl (Sub.nil _)))) ⟨by omega, trivial, M96⟩ (by omega)
    · refine tc_sub (fr' := [(1, .pointer (some ⟨b1, 0, none⟩)), (5, .slice A60 (([((16 * x.op) + x.fn), ((8 * x.dst) + x.src), (x.off / 256), (x.off % 256)] ++ List.take 4 [x.imm / 16777216 % 256, x.imm / 65536 % 256, x.imm / 256 % 256, x.imm / 1 % 256]).length) c61), (6, .int .i64 (-8))]) (Sub.cons rfl (Sub.cons rfl (Sub.cons rfl (Sub.nil _)))) ?_
      refine tc_seq (tc_seq (tc_region ?_))
      refine sg 2 [1, 5, 6, 38] [(1, .pointer (some ⟨b1, 0, none⟩)), (5, .slice A60 (([((16 * x.op) + x.fn), ((8 * x.dst) + x.src), (x.off / 256), (x.off % 256)] ++ List.take 4 [x.imm / 16777216 % 256, x.imm / 65536 % 256, x.imm / 256 % 256, x.imm / 1 % 256]).length) c61), (6, .int .i64 (-8)), (38, .bool false)] ?_
      refine to_end rfl (tn_code (tc_cond_f (fun _ => rfl) (tc_exitK (k' := _) rfl (tn_code (tc_seq (tc_region ?_))))))
      refine sg 3 [2, 3] [(2, .slice A60 (([((16 * x.op) + x.fn), ((8 * x.dst) + x.src), (x.off / 256), (x.off % 256)] ++ List.take 4 [x.imm / 16777216 % 256, x.imm / 65536 % 256, x.imm / 256 % 256, x.imm / 1 % 256]).length) c61), (3, .int .i64 0)] ?_
      refine to_end rfl (tn_code (tc_ret ?_))
      refine tr_tmp2 rfl rfl rfl ?_
      have hl98 : ([((16 * x.op) + x.fn), ((8 * x.dst) + x.src), (x.off / 256), (x.off % 256)] ++ List.take 4 [x.imm / 16777216 % 256, x.imm / 65536 % 256, x.imm / 256 % 256, x.imm / 1 % 256]) = instBytes x := by simp [instBytes, h7]
      have M99 := (M65.drop 1)
      rw [hl98] at ⊢
      exact ⟨_, _, rfl, hl98 ▸ M99⟩

theorem put_not (x : Inst) (w : World) (hm : instMay x = false) : Calls Try.prog 132 #[.agg x.cs] w fun e w' => e = .returned (.tuple #[.slice none 0 0, .int .i64 1]) ∧ Below w.heap.size w w' := by
  have M := Mem.refl w
  refine calls_tc (N := 50) (args := [.agg x.cs]) Try.func132 rfl rfl rfl ?_
  refine tc_seq (tc_region ?_)
  refine nw M 1 x.cs 65 fun b1 w2 M3 => ?_
  refine sg 2 [1] [(1, .pointer (some ⟨b1, 0, none⟩))] ?_
  refine to_end rfl (tn_code (tc_seq (tc_seq (tc_region ?_))))
  refine la M3 0 7 x.cs (hu := Try.underlying65) ?_
  refine cb M3 8 (may_any x _) fun w4 hb6 M5 => ?_
  refine sg 1 [1, 9] [(1, .pointer (some ⟨b1, 0, none⟩)), (9, .bool (!(instMay x)))] ?_
  refine to_end rfl (tn_code ?_)
  rw [hm]
  refine tc_cond_t (fun _ => rfl) (tc_seq (tc_region ?_))
  refine sg 2 [2, 3] [(2, .slice none 0 0), (3, .int .i64 1)] ?_
  refine to_end rfl (tn_code (tc_ret ?_))
  refine tr_tmp2 rfl rfl rfl ?_
  exact ⟨congrArg Ending.returned (rfl), M5.below⟩
end Go.Proofs.Ytfknhbgghpbkpaa
