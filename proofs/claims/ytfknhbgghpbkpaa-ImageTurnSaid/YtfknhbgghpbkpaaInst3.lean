/- Programs as bytes. -/
import Derived.Test.YtfknhbgghpbkpaaParts
namespace Go.Proofs.Ytfknhbgghpbkpaa
open Go.RowKit Cal Go.Proofs.YtfknhbgghpbkpaaW.PrintWords
theorem putL {wr : World} {L : List Ent} (A0 : Option Addr) (c0 : Nat) (xs : List Int) (A : Option Addr) (c : Nat) (ps : List Part) (w : World) (M : Mem wr w (row kB 5 (.slice A0 xs.length c0) xs :: row kPart 20 (.slice A ps.length c) ps :: L)) (hl : ∀ p ∈ ps, p.leaf) (hb : xs.length + 8 * ps.length ≤ 1099511627776) : Calls Try.prog 94 #[.slice A0 xs.length c0, .slice A ps.length c] w fun e w' => ∃ A' c', e = .returned (.slice A' (xs ++ ps.flatMap Part.bytes).length c') ∧ Mem wr w' (row kB 5 (.slice A' (xs ++ ps.flatMap Part.bytes).length c') (xs ++ ps.flatMap Part.bytes) :: row kPart 20 (.slice A ps.length c) ps :: L) := by
  refine calls_tc (N := 77) (args := [.slice A0 xs.length c0, .slice A ps.length c]) Try.func94 rfl rfl rfl ?_
  refine tc_seq (tc_region ?_)
  refine sg 1 [0, 1] [(0, .slice A0 xs.length c0), (1, .slice A ps.length c)] ?_
  refine to_end rfl (tn_code (tc_seq (tc_seq (tc_region ?_))))
  refine sg 3 [0, 15, 16, 17] [(0, .slice A0 xs.length c0), (15, .slice A ps.length c), (16, .int .i64 (ps.length : Int)), (17, .int .i64 0)] ?_
  refine to_end rfl (tn_code (tc_block ?_))
  have h1 : xs = (xs ++ (List.take 0 ps).flatMap Part.bytes) := by simp
  refine tc_loop (σ := Nat × Option Addr × Nat) (fun s_ => match s_ with | (k2, A3, c4) => [(15, .slice A ps.length c), (16, .int .i64 (ps.length : Int)), (0, .slice A3 ((xs ++ (List.take k2 ps).flatMap Part.bytes).length) c4), (17, .int .i64 (k2 : Int))]) (fun s_ w' => match s_ with | (k2, A3, c4) => k2 ≤ ps.length ∧ True ∧ Mem wr w' (row kB 5 (.slice A3 ((xs ++ (List.take k2 ps).flatMap Part.bytes).length) c4) (xs ++ (List.take k2 ps).flatMap Part.bytes) :: row kPart 20 (.slice A ps.length c) ps :: L)) (fun s_ => ps.length - s_.1) (0, A0, c0) (Sub.cons rfl (Sub.cons rfl (Sub.cons (by rw [← h1]; rfl) (Sub.cons rfl (Sub.nil _))))) ⟨Nat.zero_le _, trivial, (by rw [← h1]; exact M)⟩ ?_
  rintro ⟨k2, A3, c4⟩ w7 ⟨hk5, hi6, M8⟩
  refine tc_seq (tc_region ?_)
  refine sg 1 [15, 16, 0, 17, 18] [(15, .slice A ps.length c), (16, .int .i64 (ps.length : Int)), (0, .slice A3 ((xs ++ (List.take k2 ps).flatMap Part.bytes).length) c4), (17, .int .i64 (k2 : Int)), (18, .bool (decide ((k2 : Int) < (ps.length : Int))))] ?_
  refine to_end rfl (tn_code (tc_seq ?_))
  refine tc_cond (b := decide ((k2 : Int) < (ps.length : Int))) (fun _ => rfl) (fun h9 => ?_) (fun h9 => ?_)
  · have h9p := of_decide_eq_true h9
    refine tc_skip (tn_code (tc_seq (tc_block (tc_seq (tc_region ?_)))))
    obtain ⟨ad10, rfl⟩ := C_some (M8.row_C 1 rfl) (k := k2) (by omega)
    refine ix (ad := ad10) (n := ps.length) (c := c) 19 k2 1 (by omega) Try.underlying195 ?_
    obtain ⟨cs13, hk11, hc12⟩ := C_cell (M8.row_C 1 rfl) Part.z k2 (by omega)
    obtain rfl := kPart_open hk11
    refine le 20 ((ps.getD k2 Part.z).v) (hc12 0 _ rfl) ?_
    have hlf14 := leaf_at hl (k := k2) (by omega)
    rcases hp15 : ps.getD k2 Part.z with n | n | x | ⟨a, A', n, c'⟩
    · rw [hp15] at hlf14
      refine sg 1 [15, 16, 0, 17, 6] [(15, .slice (some ad10) ps.length c), (16, .int .i64 (ps.length : Int)), (0, .slice A3 ((xs ++ (List.take k2 ps).flatMap Part.bytes).length) c4), (17, .int .i64 (k2 : Int)), (6, .iface 3 (.int .i64 n))] ?_
      refine to_end rfl (tn_code (tc_seq (tc_region ?_)))
      refine sg 1 [15, 16, 0, 17, 21] [(15, .slice (some ad10) ps.length c), (16, .int .i64 (ps.length : Int)), (0, .slice A3 ((xs ++ (List.take k2 ps).flatMap Part.bytes).length) c4), (17, .int .i64 (k2 : Int)), (21, .iface 3 (.int .i64 n))] ?_
      refine to_end rfl (tn_code (tc_block (tc_seq (tc_region ?_))))
      refine sg 3 [15, 16, 0, 17, 21, 23, 24] [(15, .slice (some ad10) ps.length c), (16, .int .i64 (ps.length : Int)), (0, .slice A3 ((xs ++ (List.take k2 ps).flatMap Part.bytes).length) c4), (17, .int .i64 (k2 : Int)), (21, .iface 3 (.int .i64 n)), (23, .bool true), (24, .int .i64 n)] ?_
      refine to_end rfl (tn_code (tc_cond_t (fun _ => rfl) (tc_seq (tc_region ?_))))
      refine sg 1 [15, 16, 0, 17, 7] [(15, .slice (some ad10) ps.length c), (16, .int .i64 (ps.length : Int)), (0, .slice A3 ((xs ++ (List.take k2 ps).flatMap Part.bytes).length) c4), (17, .int .i64 (k2 : Int)), (7, .int .i64 n)] ?_
      refine to_end rfl (tn_code (tc_region ?_))
      refine sg 3 [15, 16, 17, 25, 27] [(15, .slice (some ad10) ps.length c), (16, .int .i64 (ps.length : Int)), (17, .int .i64 (k2 : Int)), (25, .slice A3 ((xs ++ (List.take k2 ps).flatMap Part.bytes).length) c4), (27, .int .u8 (IntKind.wrap .u8 n))] ?_
      rw [wr8 n]
      refine bsF M8 28 kB 5 ([(n % 256)] : List Int) #[.int .u8 (n % 256)] (repB [(n % 256)]) (Nat.le_of_ble_eq_true rfl) fun b16 w17 M18 => ?_
      have M23 := M18.front 1 rfl
      refine ap (z := .int .u8 0) (bytes := 1) M23 29 Try.underlying71 ?_ fun A19 c20 w21 M22 => ?_
      · have hz := take_len (f := Part.bytes) (l := ps) (B := 8) k2 (fun p _ => leaf_len p); simp only [List.length_append, List.length_cons, List.length_nil, instBytes_len]; omega
      refine sg 1 [15, 16, 17, 0] [(15, .slice (some ad10) ps.length c), (16, .int .i64 (ps.length : Int)), (17, .int .i64 (k2 : Int)), (0, .slice A19 (((xs ++ (List.take k2 ps).flatMap Part.bytes) ++ [(n % 256)]).length) c20)] ?_
      refine to_end rfl (tn_blk (tn_blk (tn_code (tc_region ?_))))
      refine sg 2 [15, 16, 17, 0] [(15, .slice (some ad10) ps.length c), (16, .int .i64 (ps.length : Int)), (17, .int .i64 (IntKind.wrap .i64 ((k2 : Int) + 1))), (0, .slice A19 (((xs ++ (List.take k2 ps).flatMap Part.bytes) ++ [(n % 256)]).length) c20)] ?_
      rw [show IntKind.wrap .i64 ((k2 : Int) + 1) = (((k2 + 1) : Nat) : Int) from wr_nat k2 1 (by omega)]
      refine to_end rfl ?_
      have hs24 : ((xs ++ (List.take k2 ps).flatMap Part.bytes) ++ [(n % 256)]) = (xs ++ (List.take (k2 + 1) ps).flatMap Part.bytes) := by rw [fm_step _ _ Part.z _ (by omega), hp15, ← List.append_assoc]; rfl
      exact tn_back ((k2 + 1), A19, c20) (Sub.cons rfl (Sub.cons rfl (Sub.cons (by rw [← hs24]; rfl) (Sub.cons rfl (Sub.nil _))))) ⟨by omega, trivial, (by rw [← hs24]; exact M22)⟩ (by omega)
    · rw [hp15] at hlf14
      refine sg 1 [15, 16, 0, 17, 6] [(15, .slice (some ad10) ps.length c), (16, .int .i64 (ps.length : Int)), (0, .slice A3 ((xs ++ (List.take k2 ps).flatMap Part.bytes).length) c4), (17, .int .i64 (k2 : Int)), (6, .iface 21 (.int .i32 n))] ?_
      refine to_end rfl (tn_code (tc_seq (tc_region ?_)))
      refine sg 1 [15, 16, 0, 17, 21] [(15, .slice (some ad10) ps.length c), (16, .int .i64 (ps.length : Int)), (0, .slice A3 ((xs ++ (List.take k2 ps).flatMap Part.bytes).length) c4), (17, .int .i64 (k2 : Int)), (21, .iface 21 (.int .i32 n))] ?_
      refine to_end rfl (tn_code (tc_block (tc_seq (tc_region ?_))))
      refine sg 3 [15, 16, 0, 17, 21, 23, 24] [(15, .slice (some ad10) ps.length c), (16, .int .i64 (ps.length : Int)), (0, .slice A3 ((xs ++ (List.take k2 ps).flatMap Part.bytes).length) c4), (17, .int .i64 (k2 : Int)), (21, .iface 21 (.int .i32 n)), (23, .bool false), (24, .int .i64 0)] ?_
      refine to_end rfl (tn_code (tc_cond_f (fun _ => rfl) (tc_seq (tc_region ?_))))
      refine sg 3 [15, 16, 0, 17, 21, 31, 32] [(15, .slice (some ad10) ps.length c), (16, .int .i64 (ps.length : Int)), (0, .slice A3 ((xs ++ (List.take k2 ps).flatMap Part.bytes).length) c4), (17, .int .i64 (k2 : Int)), (21, .iface 21 (.int .i32 n)), (31, .bool true), (32, .int .i32 n)] ?_
      refine to_end rfl (tn_code (tc_cond_t (fun _ => rfl) (tc_seq (tc_region ?_))))
      refine sg 1 [15, 16, 0, 17, 8] [(15, .slice (some ad10) ps.length c), (16, .int .i64 (ps.length : Int)), (0, .slice A3 ((xs ++ (List.take k2 ps).flatMap Part.bytes).length) c4), (17, .int .i64 (k2 : Int)), (8, .int .i32 n)] ?_
      refine to_end rfl (tn_code (tc_region ?_))
      refine sg 3 [15, 16, 17, 33, 35] [(15, .slice (some ad10) ps.length c), (16, .int .i64 (ps.length : Int)), (17, .int .i64 (k2 : Int)), (33, .slice A3 ((xs ++ (List.take k2 ps).flatMap Part.bytes).length) c4), (35, .int .u8 (IntKind.wrap .u8 n))] ?_
      rw [wr8 n]
      refine bsF M8 36 kB 5 ([(n % 256)] : List Int) #[.int .u8 (n % 256)] (repB [(n % 256)]) (Nat.le_of_ble_eq_true rfl) fun b25 w26 M27 => ?_
      have M32 := M27.front 1 rfl
      refine ap (z := .int .u8 0) (bytes := 1) M32 37 Try.underlying71 ?_ fun A28 c29 w30 M31 => ?_
      · have hz := take_len (f := Part.bytes) (l := ps) (B := 8) k2 (fun p _ => leaf_len p); simp only [List.length_append, List.length_cons, List.length_nil, instBytes_len]; omega
      refine sg 1 [15, 16, 17, 0] [(15, .slice (some ad10) ps.length c), (16, .int .i64 (ps.length : Int)), (17, .int .i64 (k2 : Int)), (0, .slice A28 (((xs ++ (List.take k2 ps).flatMap Part.bytes) ++ [(n % 256)]).length) c29)] ?_
      refine to_end rfl (tn_blk (tn_blk (tn_code (tc_region ?_))))
      refine sg 2 [15, 16, 17, 0] [(15, .slice (some ad10) ps.length c), (16, .int .i64 (ps.length : Int)), (17, .int .i64 (IntKind.wrap .i64 ((k2 : Int) + 1))), (0, .slice A28 (((xs ++ (List.take k2 ps).flatMap Part.bytes) ++ [(n % 256)]).length) c29)] ?_
      rw [show IntKind.wrap .i64 ((k2 : Int) + 1) = (((k2 + 1) : Nat) : Int) from wr_nat k2 1 (by omega)]
      refine to_end rfl ?_
      have hs33 : ((xs ++ (List.take k2 ps).flatMap Part.bytes) ++ [(n % 256)]) = (xs ++ (List.take (k2 + 1) ps).flatMap Part.bytes) := by rw [fm_step _ _ Part.z _ (by omega), hp15, ← List.append_assoc]; rfl
      exact tn_back ((k2 + 1), A28, c29) (Sub.cons rfl (Sub.cons rfl (Sub.cons (by rw [← hs33]; rfl) (Sub.cons rfl (Sub.nil _))))) ⟨by omega, trivial, (by rw [← hs33]; exact M31)⟩ (by omega)
    · rw [hp15] at hlf14
      refine sg 1 [15, 16, 0, 17, 6] [(15, .slice (some ad10) ps.length c), (16, .int .i64 (ps.length : Int)), (0, .slice A3 ((xs ++ (List.take k2 ps).flatMap Part.bytes).length) c4), (17, .int .i64 (k2 : Int)), (6, .iface 65 (.agg x.cs))] ?_
      refine to_end rfl (tn_code (tc_seq (tc_region ?_)))
      refine sg 1 [15, 16, 0, 17, 21] [(15, .slice (some ad10) ps.length c), (16, .int .i64 (ps.length : Int)), (0, .slice A3 ((xs ++ (List.take k2 ps).flatMap Part.bytes).length) c4), (17, .int .i64 (k2 : Int)), (21, .iface 65 (.agg x.cs))] ?_
      refine to_end rfl (tn_code (tc_block (tc_seq (tc_region ?_))))
      refine sg 3 [15, 16, 0, 17, 21, 23, 24] [(15, .slice (some ad10) ps.length c), (16, .int .i64 (ps.length : Int)), (0, .slice A3 ((xs ++ (List.take k2 ps).flatMap Part.bytes).length) c4), (17, .int .i64 (k2 : Int)), (21, .iface 65 (.agg x.cs)), (23, .bool false), (24, .int .i64 0)] ?_
      refine to_end rfl (tn_code (tc_cond_f (fun _ => rfl) (tc_seq (tc_region ?_))))
      refine sg 3 [15, 16, 0, 17, 21, 31, 32] [(15, .slice (some ad10) ps.length c), (16, .int .i64 (ps.length : Int)), (0, .slice A3 ((xs ++ (List.take k2 ps).flatMap Part.bytes).length) c4), (17, .int .i64 (k2 : Int)), (21, .iface 65 (.agg x.cs)), (31, .bool false), (32, .int .i32 0)] ?_
      refine to_end rfl (tn_code (tc_cond_f (fun _ => rfl) (tc_seq (tc_region ?_))))
      refine sg 3 [15, 16, 0, 17, 21, 39, 40] [(15, .slice (some ad10) ps.length c), (16, .int .i64 (ps.length : Int)), (0, .slice A3 ((xs ++ (List.take k2 ps).flatMap Part.bytes).length) c4), (17, .int .i64 (k2 : Int)), (21, .iface 65 (.agg x.cs)), (39, .bool true), (40, .agg x.cs)] ?_
      refine to_end rfl (tn_code (tc_cond_t (fun _ => rfl) (tc_seq (tc_region ?_))))
      refine nw M8 9 #[.int .i64 0, .int .i64 0, .int .i64 0, .int .i64 0, .bool false, .int .i64 0, .int .u32 0] 65 fun b34 w35 M36 => ?_
      refine sa M36 0 x.cs fun w37 M38 => ?_
      refine to_end rfl (tn_code (tc_seq (tc_region ?_)))
      refine la M38 0 42 x.cs (hu := Try.underlying65) ?_
      refine ce 43 (put_any x _ hlf14) fun e39 w40 h41 => ?_
      obtain ⟨A42, c43, rfl, hM44⟩ := h41
      have M45 := M38.join hM44
      refine ⟨_, rfl, ?_⟩
      refine sg 5 [15, 16, 0, 17, 10] [(15, .slice (some ad10) ps.length c), (16, .int .i64 (ps.length : Int)), (0, .slice A3 ((xs ++ (List.take k2 ps).flatMap Part.bytes).length) c4), (17, .int .i64 (k2 : Int)), (10, .slice A42 ((instBytes x).length) c43)] ?_
      refine to_end rfl (tn_code (tc_region ?_))
      refine sg 2 [15, 16, 17, 46, 47] [(15, .slice (some ad10) ps.length c), (16, .int .i64 (ps.length : Int)), (17, .int .i64 (k2 : Int)), (46, .slice A3 ((xs ++ (List.take k2 ps).flatMap Part.bytes).length) c4), (47, .slice A42 ((instBytes x).length) c43)] ?_
      have M50 := M45.front 2 rfl
      refine ap (z := .int .u8 0) (bytes := 1) M50 48 Try.underlying71 ?_ fun A46 c47 w48 M49 => ?_
      · have hz := take_len (f := Part.bytes) (l := ps) (B := 8) k2 (fun p _ => leaf_len p); simp only [List.length_append, List.length_cons, List.length_nil, instBytes_len]; omega
      refine sg 1 [15, 16, 17, 0] [(15, .slice (some ad10) ps.length c), (16, .int .i64 (ps.length : Int)), (17, .int .i64 (k2 : Int)), (0, .slice A46 (((xs ++ (List.take k2 ps).flatMap Part.bytes) ++ (instBytes x)).length) c47)] ?_
      refine to_end rfl (tn_blk (tn_blk (tn_code (tc_region ?_))))
      refine sg 2 [15, 16, 17, 0] [(15, .slice (some ad10) ps.length c), (16, .int .i64 (ps.length : Int)), (17, .int .i64 (IntKind.wrap .i64 ((k2 : Int) + 1))), (0, .slice A46 (((xs ++ (List.take k2 ps).flatMap Part.bytes) ++ (instBytes x)).length) c47)] ?_
      rw [show IntKind.wrap .i64 ((k2 : Int) + 1) = (((k2 + 1) : Nat) : Int) from wr_nat k2 1 (by omega)]
      refine to_end rfl ?_
      have M51 := M49.drop 1
      have hs52 : ((xs ++ (List.take k2 ps).flatMap Part.bytes) ++ (instBytes x)) = (xs ++ (List.take (k2 + 1) ps).flatMap Part.bytes) := by rw [fm_step _ _ Part.z _ (by omega), hp15, ← List.append_assoc]; rfl
      exact tn_back ((k2 + 1), A46, c47) (Sub.cons rfl (Sub.cons rfl (Sub.cons (by rw [← hs52]; rfl) (Sub.cons rfl (Sub.nil _))))) ⟨by omega, trivial, (by rw [← hs52]; exact M51)⟩ (by omega)
    · rw [hp15] at hlf14
      exact hlf14.elim
  · have h9p := of_decide_eq_false h9
    refine tc_exitK (k' := _) rfl (tn_code (tc_seq (tc_region ?_)))
    refine sg 2 [4] [(4, .slice A3 ((xs ++ (List.take k2 ps).flatMap Part.bytes).length) c4)] ?_
    refine to_end rfl (tn_code (tc_ret ?_))
    refine tr_tmp rfl rfl ?_
    have hl53 : (xs ++ (List.take k2 ps).flatMap Part.bytes) = xs ++ ps.flatMap Part.bytes := by rw [List.take_of_length_le (by omega)]
    rw [← hl53]
    exact ⟨_, _, rfl, M8⟩

theorem putF {wr : World} {L : List Ent} (A0 : Option Addr) (c0 : Nat) (xs : List Int) (A : Option Addr) (c : Nat) (f : Fn) (AC : Option Addr) (cc : Nat) (w : World) (M : Mem wr w (row kB 5 (.slice A0 xs.length c0) xs :: row kPart 20 (.slice A 1 c) [Part.fn f.args AC f.code.length cc] :: L)) (hC : kInst.C wr AC f.code.length f.code) (hf : fnMay f = true) (hx : xs.length ≤ 1000000) : Calls Try.prog 94 #[.slice A0 xs.length c0, .slice A 1 c] w fun e w' => ∃ A' c', e = .returned (.slice A' (xs ++ fnBytes f).length c') ∧ Mem wr w' (row kB 5 (.slice A' (xs ++ fnBytes f).length c') (xs ++ fnBytes f) :: row kPart 20 (.slice A 1 c) [Part.fn f.args AC f.code.length cc] :: L) := by
  have hb := fnMay_bd hf
  refine calls_tc (N := 77) (args := [.slice A0 xs.length c0, .slice A 1 c]) Try.func94 rfl rfl rfl ?_
  refine tc_seq (tc_region ?_)
  refine sg 1 [0, 1] [(0, .slice A0 xs.length c0), (1, .slice A 1 c)] ?_
  refine to_end rfl (tn_code (tc_seq (tc_seq (tc_region ?_))))
  refine sg 3 [0, 15, 16, 17] [(0, .slice A0 xs.length c0), (15, .slice A 1 c), (16, .int .i64 1), (17, .int .i64 0)] ?_
  refine to_end rfl (tn_code (tc_block ?_))
  have h1 : xs = (xs ++ (List.take 0 [f]).flatMap fnBytes) := by simp
  refine tc_loop (σ := Nat × Option Addr × Nat) (fun s_ => match s_ with | (k2, A3, c4) => [(15, .slice A 1 c), (16, .int .i64 1), (0, .slice A3 ((xs ++ (List.take k2 [f]).flatMap fnBytes).length) c4), (17, .int .i64 (k2 : Int))]) (fun s_ w' => match s_ with | (k2, A3, c4) => k2 ≤ 1 ∧ True ∧ Mem wr w' (row kB 5 (.slice A3 ((xs ++ (List.take k2 [f]).flatMap fnBytes).length) c4) (xs ++ (List.take k2 [f]).flatMap fnBytes) :: row kPart 20 (.slice A 1 c) [Part.fn f.args AC f.code.length cc] :: L)) (fun s_ => 1 - s_.1) (0, A0, c0) (Sub.cons rfl (Sub.cons rfl (Sub.cons (by rw [← h1]; rfl) (Sub.cons rfl (Sub.nil _))))) ⟨Nat.zero_le _, trivial, (by rw [← h1]; exact M)⟩ ?_
  rintro ⟨k2, A3, c4⟩ w7 ⟨hk5, hi6, M8⟩
  rcases (show k2 = 0 ∨ k2 = 1 by omega) with rfl | rfl
  · refine tc_sub (fr' := [(15, .slice A 1 c), (16, .int .i64 1), (0, .slice A3 ((xs ++ (List.take 0 [f]).flatMap fnBytes).length) c4), (17, .int .i64 0)]) (Sub.cons rfl (Sub.cons rfl (Sub.cons rfl (Sub.cons rfl (Sub.nil _))))) ?_
    refine tc_seq (tc_region ?_)
    refine sg 1 [15, 16, 0, 17, 18] [(15, .slice A 1 c), (16, .int .i64 1), (0, .slice A3 ((xs ++ (List.take 0 [f]).flatMap fnBytes).length) c4), (17, .int .i64 0), (18, .bool true)] ?_
    refine to_end rfl (tn_code (tc_seq (tc_cond_t (fun _ => rfl) (tc_skip (tn_code (tc_seq (tc_block (tc_seq (tc_region ?_)))))))))
    obtain ⟨ad9, rfl⟩ := C_some (M8.row_C 1 rfl) (k := 0) (by first | omega | simp)
    refine ix (ad := ad9) (n := 1) (c := c) 19 0 1 (by omega) Try.underlying195 ?_
    obtain ⟨cs12, hk10, hc11⟩ := C_cell (M8.row_C 1 rfl) Part.z 0 (by first | omega | simp)
    obtain rfl := kPart_open hk10
    refine le 20 (([Part.fn f.args AC f.code.length cc].getD 0 Part.z).v) (hc11 0 _ rfl) ?_
    refine sg 1 [15, 16, 0, 17, 6] [(15, .slice (some ad9) 1 c), (16, .int .i64 1), (0, .slice A3 ((xs ++ (List.take 0 [f]).flatMap fnBytes).length) c4), (17, .int .i64 0), (6, .iface 57 (.agg #[.int .i64 f.args, .slice AC f.code.length cc]))] ?_
    refine to_end rfl (tn_code (tc_seq (tc_region ?_)))
    refine sg 1 [15, 16, 0, 17, 21] [(15, .slice (some ad9) 1 c), (16, .int .i64 1), (0, .slice A3 ((xs ++ (List.take 0 [f]).flatMap fnBytes).length) c4), (17, .int .i64 0), (21, .iface 57 (.agg #[.int .i64 f.args, .slice AC f.code.length cc]))] ?_
    refine to_end rfl (tn_code (tc_block (tc_seq (tc_region ?_))))
    refine sg 3 [15, 16, 0, 17, 21, 23, 24] [(15, .slice (some ad9) 1 c), (16, .int .i64 1), (0, .slice A3 ((xs ++ (List.take 0 [f]).flatMap fnBytes).length) c4), (17, .int .i64 0), (21, .iface 57 (.agg #[.int .i64 f.args, .slice AC f.code.length cc])), (23, .bool false), (24, .int .i64 0)] ?_
    refine to_end rfl (tn_code (tc_cond_f (fun _ => rfl) (tc_seq (tc_region ?_))))
    refine sg 3 [15, 16, 0, 17, 21, 31, 32] [(15, .slice (some ad9) 1 c), (16, .int .i64 1), (0, .slice A3 ((xs ++ (List.take 0 [f]).flatMap fnBytes).length) c4), (17, .int .i64 0), (21, .iface 57 (.agg #[.int .i64 f.args, .slice AC f.code.length cc])), (31, .bool false), (32, .int .i32 0)] ?_
    refine to_end rfl (tn_code (tc_cond_f (fun _ => rfl) (tc_seq (tc_region ?_))))
    refine sg 3 [15, 16, 0, 17, 21, 39, 40] [(15, .slice (some ad9) 1 c), (16, .int .i64 1), (0, .slice A3 ((xs ++ (List.take 0 [f]).flatMap fnBytes).length) c4), (17, .int .i64 0), (21, .iface 57 (.agg #[.int .i64 f.args, .slice AC f.code.length cc])), (39, .bool false), (40, .agg #[.int .i64 0, .int .i64 0, .int .i64 0, .int .i64 0, .bool false, .int .i64 0, .int .u32 0])] ?_
    refine to_end rfl (tn_code (tc_cond_f (fun _ => rfl) (tc_seq (tc_region ?_))))
    refine sg 3 [15, 16, 0, 17, 50, 51] [(15, .slice (some ad9) 1 c), (16, .int .i64 1), (0, .slice A3 ((xs ++ (List.take 0 [f]).flatMap fnBytes).length) c4), (17, .int .i64 0), (50, .bool true), (51, .agg #[.int .i64 f.args, .slice AC f.code.length cc])] ?_
    refine to_end rfl (tn_code (tc_cond_t (fun _ => rfl) (tc_seq (tc_region ?_))))
    refine nw M8 12 #[.int .i64 0, .slice none 0 0] 57 fun b13 w14 M15 => ?_
    refine sa M15 0 #[.int .i64 f.args, .slice AC f.code.length cc] fun w16 M17 => ?_
    refine to_end rfl (tn_code (tc_seq (tc_region ?_)))
    refine sg 2 [15, 16, 17, 12, 52, 53] [(15, .slice (some ad9) 1 c), (16, .int .i64 1), (17, .int .i64 0), (12, .pointer (some ⟨b13, 0, none⟩)), (52, .slice A3 ((xs ++ (List.take 0 [f]).flatMap fnBytes).length) c4), (53, .pointer (some ⟨b13, 0, none⟩))] ?_
    refine ld M17 0 54 (.int .i64 f.args) ?_
    refine sg 2 [15, 16, 17, 12, 52, 55, 56] [(15, .slice (some ad9) 1 c), (16, .int .i64 1), (17, .int .i64 0), (12, .pointer (some ⟨b13, 0, none⟩)), (52, .slice A3 ((xs ++ (List.take 0 [f]).flatMap fnBytes).length) c4), (55, .iface 3 (.int .i64 f.args)), (56, .pointer (some ⟨b13, 1, none⟩))] ?_
    refine ld M17 0 57 (.slice AC f.code.length cc) ?_
    refine sg 2 [15, 16, 17, 12, 52, 55, 59] [(15, .slice (some ad9) 1 c), (16, .int .i64 1), (17, .int .i64 0), (12, .pointer (some ⟨b13, 0, none⟩)), (52, .slice A3 ((xs ++ (List.take 0 [f]).flatMap fnBytes).length) c4), (55, .iface 3 (.int .i64 f.args)), (59, .iface 3 (.int .i64 (f.code.length : Int)))] ?_
    refine bsF M17 60 kPart 20 ([Part.int f.args, Part.int (f.code.length : Int)] : List Part) #[.iface 3 (.int .i64 f.args), .iface 3 (.int .i64 (f.code.length : Int))] (repPart [Part.int f.args, Part.int (f.code.length : Int)]) (Nat.le_of_ble_eq_true rfl) fun b18 w19 M20 => ?_
    have M21 := M20.front 2 rfl
    refine ce 61 (putL A3 c4 (xs ++ (List.take 0 [f]).flatMap fnBytes) (some ⟨b18, 0, none⟩) 2 [Part.int f.args, Part.int (f.code.length : Int)] _ M21 (by simp [Part.leaf]) (by have hz := take_len (f := instBytes) (l := f.code) (B := 8) 0 (fun x _ => by simp [instBytes]); simp only [List.length_append, List.length_cons, List.length_nil, List.flatMap_cons, List.flatMap_nil, List.take_succ_cons, List.take_zero, Part.bytes]; omega)) fun e22 w23 h24 => ?_
    obtain ⟨A25, c26, rfl, M27⟩ := h24
    refine ⟨_, rfl, ?_⟩
    refine sg 1 [15, 16, 17, 12, 0] [(15, .slice (some ad9) 1 c), (16, .int .i64 1), (17, .int .i64 0), (12, .pointer (some ⟨b13, 0, none⟩)), (0, .slice A25 (((xs ++ (List.take 0 [f]).flatMap fnBytes) ++ [Part.int f.args, Part.int (f.code.length : Int)].flatMap Part.bytes).length) c26)] ?_
    refine to_end rfl (tn_code (tc_seq (tc_region ?_)))
    refine sg 1 [15, 16, 17, 0, 62] [(15, .slice (some ad9) 1 c), (16, .int .i64 1), (17, .int .i64 0), (0, .slice A25 (((xs ++ (List.take 0 [f]).flatMap fnBytes) ++ [Part.int f.args, Part.int (f.code.length : Int)].flatMap Part.bytes).length) c26), (62, .pointer (some ⟨b13, 1, none⟩))] ?_
    refine ld M27 2 63 (.slice AC f.code.length cc) ?_
    refine sg 2 [15, 16, 17, 0, 63, 64, 65] [(15, .slice (some ad9) 1 c), (16, .int .i64 1), (17, .int .i64 0), (0, .slice A25 (((xs ++ (List.take 0 [f]).flatMap fnBytes) ++ [Part.int f.args, Part.int (f.code.length : Int)].flatMap Part.bytes).length) c26), (63, .slice AC f.code.length cc), (64, .int .i64 (f.code.length : Int)), (65, .int .i64 0)] ?_
    refine to_end rfl (tn_code (tc_block ?_))
    have h31 : ((xs ++ (List.take 0 [f]).flatMap fnBytes) ++ [Part.int f.args, Part.int (f.code.length : Int)].flatMap Part.bytes) = (((xs ++ (List.take 0 [f]).flatMap fnBytes) ++ [Part.int f.args, Part.int (f.code.length : Int)].flatMap Part.bytes) ++ (List.take 0 f.code).flatMap instBytes) := by simp
    refine tc_loop (σ := Nat × Option Addr × Nat) (fun s_ => match s_ with | (k32, A33, c34) => [(15, .slice (some ad9) 1 c), (16, .int .i64 1), (17, .int .i64 0), (63, .slice AC f.code.length cc), (64, .int .i64 (f.code.length : Int)), (0, .slice A33 ((((xs ++ (List.take 0 [f]).flatMap fnBytes) ++ [Part.int f.args, Part.int (f.code.length : Int)].flatMap Part.bytes) ++ (List.take k32 f.code).flatMap instBytes).length) c34), (65, .int .i64 (k32 : Int))]) (fun s_ w' => match s_ with | (k32, A33, c34) => k32 ≤ f.code.length ∧ True ∧ Mem wr w' (row kB 5 (.slice A33 ((((xs ++ (List.take 0 [f]).flatMap fnBytes) ++ [Part.int f.args, Part.int (f.code.length : Int)].flatMap Part.bytes) ++ (List.take k32 f.code).flatMap instBytes).length) c34) (((xs ++ (List.take 0 [f]).flatMap fnBytes) ++ [Part.int f.args, Part.int (f.code.length : Int)].flatMap Part.bytes) ++ (List.take k32 f.code).flatMap instBytes) :: row kPart 20 (.slice (some ⟨b18, 0, none⟩) 2 2) [Part.int f.args, Part.int (f.code.length : Int)] :: blk b13 #[.int .i64 f.args, .slice AC f.code.length cc] 57 :: row kPart 20 (.slice (some ad9) 1 c) [Part.fn f.args AC f.code.length cc] :: L)) (fun s_ => f.code.length - s_.1) (0, A25, c26) (Sub.cons rfl (Sub.cons rfl (Sub.cons rfl (Sub.cons rfl (Sub.cons rfl (Sub.cons (by rw [← h31]; rfl) (Sub.cons rfl (Sub.nil _)))))))) ⟨Nat.zero_le _, trivial, (by rw [← h31]; exact M27)⟩ ?_
    rintro ⟨k32, A33, c34⟩ w37 ⟨hk35, hi36, M38⟩
    refine tc_seq (tc_region ?_)
    refine sg 1 [15, 16, 17, 63, 64, 0, 65, 66] [(15, .slice (some ad9) 1 c), (16, .int .i64 1), (17, .int .i64 0), (63, .slice AC f.code.length cc), (64, .int .i64 (f.code.length : Int)), (0, .slice A33 ((((xs ++ (List.take 0 [f]).flatMap fnBytes) ++ [Part.int f.args, Part.int (f.code.length : Int)].flatMap Part.bytes) ++ (List.take k32 f.code).flatMap instBytes).length) c34), (65, .int .i64 (k32 : Int)), (66, .bool (decide ((k32 : Int) < (f.code.length : Int))))] ?_
    refine to_end rfl (tn_code (tc_seq ?_))
    refine tc_cond (b := decide ((k32 : Int) < (f.code.length : Int))) (fun _ => rfl) (fun h39 => ?_) (fun h39 => ?_)
    · have h39p := of_decide_eq_true h39
      refine tc_skip (tn_code (tc_seq (tc_block (tc_seq (tc_region ?_)))))
      obtain ⟨ad40, rfl⟩ := C_some hC (k := k32) (by omega)
      refine ix (ad := ad40) (n := f.code.length) (c := cc) 67 k32 7 (by omega) Try.underlying55 ?_
      obtain ⟨cs43, hk41, hc42⟩ := C_cell hC Inst.z k32 (by omega)
      obtain rfl := kInst_open hk41
      refine lea 68 ((f.code.getD k32 Inst.z).cs) (fun j u hj => cell_up M38 (hc42 j u hj)) (hu := Try.underlying65) ?_
      refine nw M38 14 #[.int .i64 0, .int .i64 0, .int .i64 0, .int .i64 0, .bool false, .int .i64 0, .int .u32 0] 65 fun b44 w45 M46 => ?_
      refine sa M46 0 ((f.code.getD k32 Inst.z).cs) fun w47 M48 => ?_
      refine to_end rfl (tn_code (tc_region ?_))
      refine sg 1 [15, 16, 17, 63, 64, 65, 14, 69] [(15, .slice (some ad9) 1 c), (16, .int .i64 1), (17, .int .i64 0), (63, .slice (some ad40) f.code.length cc), (64, .int .i64 (f.code.length : Int)), (65, .int .i64 (k32 : Int)), (14, .pointer (some ⟨b44, 0, none⟩)), (69, .slice A33 ((((xs ++ (List.take 0 [f]).flatMap fnBytes) ++ [Part.int f.args, Part.int (f.code.length : Int)].flatMap Part.bytes) ++ (List.take k32 f.code).flatMap instBytes).length) c34)] ?_
      refine la M48 0 70 ((f.code.getD k32 Inst.z).cs) (hu := Try.underlying65) ?_
      refine sg 1 [15, 16, 17, 63, 64, 65, 69, 71] [(15, .slice (some ad9) 1 c), (16, .int .i64 1), (17, .int .i64 0), (63, .slice (some ad40) f.code.length cc), (64, .int .i64 (f.code.length : Int)), (65, .int .i64 (k32 : Int)), (69, .slice A33 ((((xs ++ (List.take 0 [f]).flatMap fnBytes) ++ [Part.int f.args, Part.int (f.code.length : Int)].flatMap Part.bytes) ++ (List.take k32 f.code).flatMap instBytes).length) c34), (71, .iface 65 (.agg ((f.code.getD k32 Inst.z).cs)))] ?_
      refine bsF M48 72 kPart 20 ([Part.inst (f.code.getD k32 Inst.z)] : List Part) #[.iface 65 (.agg ((f.code.getD k32 Inst.z).cs))] (repPart [Part.inst (f.code.getD k32 Inst.z)]) (Nat.le_of_ble_eq_true rfl) fun b49 w50 M51 => ?_
      have M52 := M51.front 2 rfl
      refine ce 73 (putL A33 c34 (((xs ++ (List.take 0 [f]).flatMap fnBytes) ++ [Part.int f.args, Part.int (f.code.length : Int)].flatMap Part.bytes) ++ (List.take k32 f.code).flatMap instBytes) (some ⟨b49, 0, none⟩) 1 [Part.inst (f.code.getD k32 Inst.z)] _ M52 (fun p hp => by simp only [List.mem_singleton] at hp; subst hp; exact hb.2.2.2.2 _ (at_mem _ (by omega))) (by have hz := take_len (f := instBytes) (l := f.code) (B := 8) k32 (fun x _ => by simp [instBytes]); simp only [List.length_append, List.length_cons, List.length_nil, List.flatMap_cons, List.flatMap_nil, List.take_succ_cons, List.take_zero, Part.bytes]; omega)) fun e53 w54 h55 => ?_
      obtain ⟨A56, c57, rfl, M58⟩ := h55
      refine ⟨_, rfl, ?_⟩
      refine sg 1 [15, 16, 17, 63, 64, 65, 0] [(15, .slice (some ad9) 1 c), (16, .int .i64 1), (17, .int .i64 0), (63, .slice (some ad40) f.code.length cc), (64, .int .i64 (f.code.length : Int)), (65, .int .i64 (k32 : Int)), (0, .slice A56 (((((xs ++ (List.take 0 [f]).flatMap fnBytes) ++ [Part.int f.args, Part.int (f.code.length : Int)].flatMap Part.bytes) ++ (List.take k32 f.code).flatMap instBytes) ++ [Part.inst (f.code.getD k32 Inst.z)].flatMap Part.bytes).length) c57)] ?_
      refine to_end rfl (tn_blk (tn_code (tc_region ?_)))
      refine sg 2 [15, 16, 17, 63, 64, 65, 0] [(15, .slice (some ad9) 1 c), (16, .int .i64 1), (17, .int .i64 0), (63, .slice (some ad40) f.code.length cc), (64, .int .i64 (f.code.length : Int)), (65, .int .i64 (IntKind.wrap .i64 ((k32 : Int) + 1))), (0, .slice A56 (((((xs ++ (List.take 0 [f]).flatMap fnBytes) ++ [Part.int f.args, Part.int (f.code.length : Int)].flatMap Part.bytes) ++ (List.take k32 f.code).flatMap instBytes) ++ [Part.inst (f.code.getD k32 Inst.z)].flatMap Part.bytes).length) c57)] ?_
      rw [show IntKind.wrap .i64 ((k32 : Int) + 1) = (((k32 + 1) : Nat) : Int) from wr_nat k32 1 (by omega)]
      refine to_end rfl ?_
      have M59 := M58.drop 2
      have M60 := M59.drop 1
      have hs61 : ((((xs ++ (List.take 0 [f]).flatMap fnBytes) ++ [Part.int f.args, Part.int (f.code.length : Int)].flatMap Part.bytes) ++ (List.take k32 f.code).flatMap instBytes) ++ [Part.inst (f.code.getD k32 Inst.z)].flatMap Part.bytes) = (((xs ++ (List.take 0 [f]).flatMap fnBytes) ++ [Part.int f.args, Part.int (f.code.length : Int)].flatMap Part.bytes) ++ (List.take (k32 + 1) f.code).flatMap instBytes) := by rw [fm_step _ _ Inst.z _ (by omega), ← List.append_assoc]; rfl
      exact tn_back ((k32 + 1), A56, c57) (Sub.cons rfl (Sub.cons rfl (Sub.cons rfl (Sub.cons rfl (Sub.cons rfl (Sub.cons (by rw [← hs61]; rfl) (Sub.cons rfl (Sub.nil _)))))))) ⟨by omega, trivial, (by rw [← hs61]; exact M60)⟩ (by omega)
    · have h39p := of_decide_eq_false h39
      refine tc_exitK (k' := _) rfl (tn_blk (tn_blk (tn_code (tc_region ?_))))
      refine sg 2 [15, 16, 17, 0] [(15, .slice (some ad9) 1 c), (16, .int .i64 1), (17, .int .i64 1), (0, .slice A33 ((((xs ++ (List.take 0 [f]).flatMap fnBytes) ++ [Part.int f.args, Part.int (f.code.length : Int)].flatMap Part.bytes) ++ (List.take k32 f.code).flatMap instBytes).length) c34)] ?_
      refine to_end rfl ?_
      have M62 := M38.drop 2
      have M63 := M62.drop 1
      have hs64 : (((xs ++ (List.take 0 [f]).flatMap fnBytes) ++ [Part.int f.args, Part.int (f.code.length : Int)].flatMap Part.bytes) ++ (List.take k32 f.code).flatMap instBytes) = (xs ++ (List.take 1 [f]).flatMap fnBytes) := by rw [List.take_of_length_le (by omega : f.code.length ≤ k32)]; simp [fnBytes, Part.bytes]
      exact tn_back (1, A33, c34) (Sub.cons rfl (Sub.cons rfl (Sub.cons (by rw [← hs64]; rfl) (Sub.cons rfl (Sub.nil _))))) ⟨by omega, trivial, (by rw [← hs64]; exact M63)⟩ (by omega)
  · refine tc_sub (fr' := [(15, .slice A 1 c), (16, .int .i64 1), (0, .slice A3 ((xs ++ (List.take 1 [f]).flatMap fnBytes).length) c4), (17, .int .i64 1)]) (Sub.cons rfl (Sub.cons rfl (Sub.cons rfl (Sub.cons rfl (Sub.nil _))))) ?_
    refine tc_seq (tc_region ?_)
    refine sg 1 [15, 16, 0, 17, 18] [(15, .slice A 1 c), (16, .int .i64 1), (0, .slice A3 ((xs ++ (List.take 1 [f]).flatMap fnBytes).length) c4), (17, .int .i64 1), (18, .bool false)] ?_
    refine to_end rfl (tn_code (tc_seq (tc_cond_f (fun _ => rfl) (tc_exitK (k' := _) rfl (tn_code (tc_seq (tc_region ?_)))))))
    refine sg 2 [4] [(4, .slice A3 ((xs ++ (List.take 1 [f]).flatMap fnBytes).length) c4)] ?_
    refine to_end rfl (tn_code (tc_ret ?_))
    refine tr_tmp rfl rfl ?_
    have hl65 : (xs ++ (List.take 1 [f]).flatMap fnBytes) = xs ++ fnBytes f := by simp
    rw [← hl65]
    exact ⟨_, _, rfl, M8⟩

theorem put_prog (p : List Fn) (A : Option Addr) (c : Nat) (w : World) (hC : kFn.C w A p.length p) (hm : progMay p = true) : Calls Try.prog 47 #[.agg #[.slice A p.length c]] w fun e w' => ∃ A' c', e = .returned (.tuple #[.slice A' (progBytes p).length c', .int .i64 0]) ∧ Mem w w' [row kB 5 (.slice A' (progBytes p).length c') (progBytes p)] := by
  have M := Mem.refl w
  have hb := progMay_bd hm
  refine calls_tc (N := 32) (args := [.agg #[.slice A p.length c]]) Try.func47 rfl rfl rfl ?_
  refine tc_seq (tc_region ?_)
  refine nw M 1 #[.slice A p.length c] 45 fun b1 w2 M3 => ?_
  refine sg 2 [1] [(1, .pointer (some ⟨b1, 0, none⟩))] ?_
  refine to_end rfl (tn_code (tc_seq (tc_seq (tc_region ?_))))
  refine la M3 0 7 #[.slice A p.length c] (hu := Try.underlying45) ?_
  refine cb M3 8 (pmay_any p A c _ (C_up M3 hC)) fun w4 hb6 M5 => ?_
  refine sg 1 [1, 9] [(1, .pointer (some ⟨b1, 0, none⟩)), (9, .bool (!(progMay p)))] ?_
  refine to_end rfl (tn_code ?_)
  rw [hm]
  refine tc_cond_f (fun _ => rfl) (tc_skip (tn_code (tc_seq (tc_region ?_))))
  refine sg 3 [1, 10, 11, 12] [(1, .pointer (some ⟨b1, 0, none⟩)), (10, .iface 21 (.int .i32 88)), (11, .iface 21 (.int .i32 86)), (12, .pointer (some ⟨b1, 0, none⟩))] ?_
  refine ld M5 0 13 (.slice A p.length c) ?_
  refine sg 2 [1, 10, 11, 15] [(1, .pointer (some ⟨b1, 0, none⟩)), (10, .iface 21 (.int .i32 88)), (11, .iface 21 (.int .i32 86)), (15, .iface 3 (.int .i64 (p.length : Int)))] ?_
  refine bsF M5 16 kPart 20 ([Part.rune 88, Part.rune 86, Part.int (p.length : Int)] : List Part) #[.iface 21 (.int .i32 88), .iface 21 (.int .i32 86), .iface 3 (.int .i64 (p.length : Int))] (repPart [Part.rune 88, Part.rune 86, Part.int (p.length : Int)]) (Nat.le_of_ble_eq_true rfl) fun b7 w8 M9 => ?_
  have M10 := M9.nilrow kB 5
  have M11 := M10.front 1 rfl
  have M12 := M11.front 1 rfl
  refine ce 17 (putL none 0 [] (some ⟨b7, 0, none⟩) 3 [Part.rune 88, Part.rune 86, Part.int (p.length : Int)] _ M12 (by simp [Part.leaf]) (by simp)) fun e13 w14 h15 => ?_
  obtain ⟨A16, c17, rfl, M18⟩ := h15
  refine ⟨_, rfl, ?_⟩
  refine sg 1 [1, 4] [(1, .pointer (some ⟨b1, 0, none⟩)), (4, .slice A16 (([] ++ [Part.rune 88, Part.rune 86, Part.int (p.length : Int)].flatMap Part.bytes).length) c17)] ?_
  refine to_end rfl (tn_code (tc_seq (tc_seq (tc_region ?_))))
  refine sg 1 [4, 18] [(4, .slice A16 (([] ++ [Part.rune 88, Part.rune 86, Part.int (p.length : Int)].flatMap Part.bytes).length) c17), (18, .pointer (some ⟨b1, 0, none⟩))] ?_
  refine ld M18 2 19 (.slice A p.length c) ?_
  refine sg 2 [4, 19, 20, 21] [(4, .slice A16 (([] ++ [Part.rune 88, Part.rune 86, Part.int (p.length : Int)].flatMap Part.bytes).length) c17), (19, .slice A p.length c), (20, .int .i64 (p.length : Int)), (21, .int .i64 0)] ?_
  refine to_end rfl (tn_code (tc_block ?_))
  have h22 : ([] ++ [Part.rune 88, Part.rune 86, Part.int (p.length : Int)].flatMap Part.bytes) = (([] ++ [Part.rune 88, Part.rune 86, Part.int (p.length : Int)].flatMap Part.bytes) ++ (List.take 0 p).flatMap fnBytes) := by simp
  refine tc_loop (σ := Nat × Option Addr × Nat) (fun s_ => match s_ with | (k23, A24, c25) => [(19, .slice A p.length c), (20, .int .i64 (p.length : Int)), (4, .slice A24 ((([] ++ [Part.rune 88, Part.rune 86, Part.int (p.length : Int)].flatMap Part.bytes) ++ (List.take k23 p).flatMap fnBytes).length) c25), (21, .int .i64 (k23 : Int))]) (fun s_ w' => match s_ with | (k23, A24, c25) => k23 ≤ p.length ∧ True ∧ Mem w w' ([row kB 5 (.slice A24 ((([] ++ [Part.rune 88, Part.rune 86, Part.int (p.length : Int)].flatMap Part.bytes) ++ (List.take k23 p).flatMap fnBytes).length) c25) (([] ++ [Part.rune 88, Part.rune 86, Part.int (p.length : Int)].flatMap Part.bytes) ++ (List.take k23 p).flatMap fnBytes), row kPart 20 (.slice (some ⟨b7, 0, none⟩) 3 3) [Part.rune 88, Part.rune 86, Part.int (p.length : Int)], blk b1 #[.slice A p.length c] 45])) (fun s_ => p.length - s_.1) (0, A16, c17) (Sub.cons rfl (Sub.cons rfl (Sub.cons (by rw [← h22]; rfl) (Sub.cons rfl (Sub.nil _))))) ⟨Nat.zero_le _, trivial, (by rw [← h22]; exact M18)⟩ ?_
  rintro ⟨k23, A24, c25⟩ w28 ⟨hk26, hi27, M29⟩
  refine tc_seq (tc_region ?_)
  refine sg 1 [19, 20, 4, 21, 22] [(19, .slice A p.length c), (20, .int .i64 (p.length : Int)), (4, .slice A24 ((([] ++ [Part.rune 88, Part.rune 86, Part.int (p.length : Int)].flatMap Part.bytes) ++ (List.take k23 p).flatMap fnBytes).length) c25), (21, .int .i64 (k23 : Int)), (22, .bool (decide ((k23 : Int) < (p.length : Int))))] ?_
  refine to_end rfl (tn_code (tc_seq ?_))
  refine tc_cond (b := decide ((k23 : Int) < (p.length : Int))) (fun _ => rfl) (fun h30 => ?_) (fun h30 => ?_)
  · have h30p := of_decide_eq_true h30
    refine tc_skip (tn_code (tc_seq (tc_block (tc_seq (tc_region ?_)))))
    obtain ⟨ad31, rfl⟩ := C_some hC (k := k23) (by omega)
    refine ix (ad := ad31) (n := p.length) (c := c) 23 k23 2 (by omega) Try.underlying43 ?_
    obtain ⟨cs34, hk32, hc33⟩ := C_cell hC Fn.z k23 (by omega)
    obtain ⟨A35, c36, rfl, hl37, hC38⟩ := kFn_open hk32
    refine lea 24 #[.int .i64 ((p.getD k23 Fn.z).args), .slice A35 ((p.getD k23 Fn.z).code.length) c36] (fun j u hj => cell_up M29 (hc33 j u hj)) (hu := Try.underlying57) ?_
    refine nw M29 6 #[.int .i64 0, .slice none 0 0] 57 fun b39 w40 M41 => ?_
    refine sa M41 0 #[.int .i64 ((p.getD k23 Fn.z).args), .slice A35 ((p.getD k23 Fn.z).code.length) c36] fun w42 M43 => ?_
    refine to_end rfl (tn_code (tc_region ?_))
    refine sg 1 [19, 20, 21, 6, 25] [(19, .slice (some ad31) p.length c), (20, .int .i64 (p.length : Int)), (21, .int .i64 (k23 : Int)), (6, .pointer (some ⟨b39, 0, none⟩)), (25, .slice A24 ((([] ++ [Part.rune 88, Part.rune 86, Part.int (p.length : Int)].flatMap Part.bytes) ++ (List.take k23 p).flatMap fnBytes).length) c25)] ?_
    refine la M43 0 26 #[.int .i64 ((p.getD k23 Fn.z).args), .slice A35 ((p.getD k23 Fn.z).code.length) c36] (hu := Try.underlying57) ?_
    refine sg 1 [19, 20, 21, 25, 27] [(19, .slice (some ad31) p.length c), (20, .int .i64 (p.length : Int)), (21, .int .i64 (k23 : Int)), (25, .slice A24 ((([] ++ [Part.rune 88, Part.rune 86, Part.int (p.length : Int)].flatMap Part.bytes) ++ (List.take k23 p).flatMap fnBytes).length) c25), (27, .iface 57 (.agg #[.int .i64 ((p.getD k23 Fn.z).args), .slice A35 ((p.getD k23 Fn.z).code.length) c36]))] ?_
    refine bsF M43 28 kPart 20 ([Part.fn ((p.getD k23 Fn.z).args) A35 ((p.getD k23 Fn.z).code.length) c36] : List Part) #[.iface 57 (.agg #[.int .i64 ((p.getD k23 Fn.z).args), .slice A35 ((p.getD k23 Fn.z).code.length) c36])] (repPart [Part.fn ((p.getD k23 Fn.z).args) A35 ((p.getD k23 Fn.z).code.length) c36]) (Nat.le_of_ble_eq_true rfl) fun b44 w45 M46 => ?_
    have M47 := M46.front 2 rfl
    refine ce 29 (putF A24 c25 (([] ++ [Part.rune 88, Part.rune 86, Part.int (p.length : Int)].flatMap Part.bytes) ++ (List.take k23 p).flatMap fnBytes) (some ⟨b44, 0, none⟩) 1 (p.getD k23 Fn.z) A35 c36 _ M47 hC38 (hb.2.2.2 _ (at_mem _ (by omega))) (by have hz := take_len (f := fnBytes) (l := p) (B := 514) k23 (fun f hf => fnBytes_len (hb.2.2.2 f hf)); simp only [List.length_append, List.length_cons, List.length_nil, List.flatMap_cons, List.flatMap_nil, Part.bytes]; omega)) fun e48 w49 h50 => ?_
    obtain ⟨A51, c52, rfl, M53⟩ := h50
    refine ⟨_, rfl, ?_⟩
    refine sg 1 [19, 20, 21, 4] [(19, .slice (some ad31) p.length c), (20, .int .i64 (p.length : Int)), (21, .int .i64 (k23 : Int)), (4, .slice A51 (((([] ++ [Part.rune 88, Part.rune 86, Part.int (p.length : Int)].flatMap Part.bytes) ++ (List.take k23 p).flatMap fnBytes) ++ fnBytes (p.getD k23 Fn.z)).length) c52)] ?_
    refine to_end rfl (tn_blk (tn_code (tc_region ?_)))
    refine sg 2 [19, 20, 21, 4] [(19, .slice (some ad31) p.length c), (20, .int .i64 (p.length : Int)), (21, .int .i64 (IntKind.wrap .i64 ((k23 : Int) + 1))), (4, .slice A51 (((([] ++ [Part.rune 88, Part.rune 86, Part.int (p.length : Int)].flatMap Part.bytes) ++ (List.take k23 p).flatMap fnBytes) ++ fnBytes (p.getD k23 Fn.z)).length) c52)] ?_
    rw [show IntKind.wrap .i64 ((k23 : Int) + 1) = (((k23 + 1) : Nat) : Int) from wr_nat k23 1 (by omega)]
    refine to_end rfl ?_
    have M54 := M53.drop 2
    have M55 := M54.drop 1
    have hs56 : ((([] ++ [Part.rune 88, Part.rune 86, Part.int (p.length : Int)].flatMap Part.bytes) ++ (List.take k23 p).flatMap fnBytes) ++ fnBytes (p.getD k23 Fn.z)) = (([] ++ [Part.rune 88, Part.rune 86, Part.int (p.length : Int)].flatMap Part.bytes) ++ (List.take (k23 + 1) p).flatMap fnBytes) := by rw [fm_step _ _ Fn.z _ (by omega), ← List.append_assoc]
    exact tn_back ((k23 + 1), A51, c52) (Sub.cons rfl (Sub.cons rfl (Sub.cons (by rw [← hs56]; rfl) (Sub.cons rfl (Sub.nil _))))) ⟨by omega, trivial, (by rw [← hs56]; exact M55)⟩ (by omega)
  · have h30p := of_decide_eq_false h30
    refine tc_exitK (k' := _) rfl (tn_code (tc_seq (tc_region ?_)))
    refine sg 3 [2, 3] [(2, .slice A24 ((([] ++ [Part.rune 88, Part.rune 86, Part.int (p.length : Int)].flatMap Part.bytes) ++ (List.take k23 p).flatMap fnBytes).length) c25), (3, .int .i64 0)] ?_
    refine to_end rfl (tn_code (tc_ret ?_))
    refine tr_tmp2 rfl rfl rfl ?_
    have M57 := M29.drop 2
    have M58 := M57.drop 1
    have hl59 : (([] ++ [Part.rune 88, Part.rune 86, Part.int (p.length : Int)].flatMap Part.bytes) ++ (List.take k23 p).flatMap fnBytes) = progBytes p := by rw [List.take_of_length_le (by omega)]; simp [progBytes, Part.bytes]
    rw [← hl59]
    exact ⟨_, _, rfl, M58⟩

theorem put_prog_not (p : List Fn) (A : Option Addr) (c : Nat) (w : World) (hC : kFn.C w A p.length p) (hm : progMay p = false) : Calls Try.prog 47 #[.agg #[.slice A p.length c]] w fun e w' => e = .returned (.tuple #[.slice none 0 0, .int .i64 1]) ∧ Below w.heap.size w w' := by
  have M := Mem.refl w
  refine calls_tc (N := 32) (args := [.agg #[.slice A p.length c]]) Try.func47 rfl rfl rfl ?_
  refine tc_seq (tc_region ?_)
  refine nw M 1 #[.slice A p.length c] 45 fun b1 w2 M3 => ?_
  refine sg 2 [1] [(1, .pointer (some ⟨b1, 0, none⟩))] ?_
  refine to_end rfl (tn_code (tc_seq (tc_seq (tc_region ?_))))
  refine la M3 0 7 #[.slice A p.length c] (hu := Try.underlying45) ?_
  refine cb M3 8 (pmay_any p A c _ (C_up M3 hC)) fun w4 hb6 M5 => ?_
  refine sg 1 [1, 9] [(1, .pointer (some ⟨b1, 0, none⟩)), (9, .bool (!(progMay p)))] ?_
  refine to_end rfl (tn_code ?_)
  rw [hm]
  refine tc_cond_t (fun _ => rfl) (tc_seq (tc_region ?_))
  refine sg 2 [2, 3] [(2, .slice none 0 0), (3, .int .i64 1)] ?_
  refine to_end rfl (tn_code (tc_ret ?_))
  refine tr_tmp2 rfl rfl rfl ?_
  exact ⟨congrArg Ending.returned (rfl), M5.below⟩
end Go.Proofs.Ytfknhbgghpbkpaa
