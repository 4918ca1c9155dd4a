/- The iterator of the gaps keeps its contract. -/
import Derived.Test.YtfknhbgghpbkpaaArG
namespace Go.Proofs.Ytfknhbgghpbkpaa
open Go.RowKit Cal Go.Proofs.YtfknhbgghpbkpaaW.PrintWords
abbrev encG (x : Int × Int) : Array Value := #[.int .i64 x.1, .int .i64 x.2]
theorem gaps1_seq (cap : Int) (l : List Blk) (A : Option Addr) (c b : Nat) (X : Nat → Prop) (wr w0 : World) (hC : kBlk.C wr A l.length l) (hm : mMay cap l = true) (hbe : Below wr.heap.size wr w0) (hb0 : w0.heap[b]? = some (.cells #[.int .i64 cap, .slice A l.length c] 24 (0, 0))) (hX : ∀ k, X k → wr.heap.size ≤ k ∧ k ≠ b ∧ k < w0.heap.size) :
    SeqStopsK (rF none) 2 Try.prog 118 #[.pointer (some ⟨b, 0, none⟩)] encG (KB w0.heap.size X) (fun s => s = gapsF cap l) (fun s => s <+: gapsF cap l) (l.length + 1) w0 := by
  intro lp J Jx W hW hJ hJx hY h0
  show CallsIn (rF none) 2 Try.prog 118 ([.func (.yield lp) #[] #[], .pointer (some ⟨b, 0, none⟩)] : List Value).toArray W _
  have hmx := C_max hC
  have G0 : GI wr w0.heap.size b #[.int .i64 cap, .slice A l.length c] 24 J [] W := ⟨below_then hbe hbe.size hW, hW.size, below_heap hW hb0, h0⟩
  refine calls_tci (N := 37) Try.func118 rfl rfl rfl ?_
  have hQ : ∀ (fn : Func) a w, ¬ bodyPost Try.prog fn (fun e W' => (∃ v, e = .returned v) ∧ ((∃ xs, xs = gapsF cap l ∧ J xs W') ∨ ∃ pre, pre <+: gapsF cap l ∧ Jx pre W')) .outgrown a w := fun fn a w h => by
    obtain ⟨⟨v, hv⟩, _⟩ := h
    cases hv
  refine tci_seq (tci_region (hQ _) ?_)
  refine sg 1 [0, 1, 3] [(0, .func (.yield lp) #[] #[]), (1, .pointer (some ⟨b, 0, none⟩)), (3, .int .i64 0)] ?_
  refine to_end rfl (tn_i (tni_code (tci_seq (tci_seq (tci_region (hQ _) ?_)))))
  refine sg 1 [0, 1, 3, 6] [(0, .func (.yield lp) #[] #[]), (1, .pointer (some ⟨b, 0, none⟩)), (3, .int .i64 0), (6, .pointer (some ⟨b, 1, none⟩))] ?_
  refine le 7 (.slice A l.length c) ((blk_cell G0.bx 1).trans rfl) ?_
  refine sg 2 [0, 1, 3, 7, 8, 9] [(0, .func (.yield lp) #[] #[]), (1, .pointer (some ⟨b, 0, none⟩)), (3, .int .i64 0), (7, .slice A l.length c), (8, .int .i64 (l.length : Int)), (9, .int .i64 0)] ?_
  refine to_end rfl (tn_i (tni_code (tci_block ?_)))
  refine tci_loop (σ := Nat) (fun k1 => [(0, .func (.yield lp) #[] #[]), (1, .pointer (some ⟨b, 0, none⟩)), (7, .slice A l.length c), (8, .int .i64 (l.length : Int)), (9, .int .i64 (k1 : Int)), (3, .int .i64 (lastP l k1))]) (fun k1 w' => k1 ≤ l.length ∧ GI wr w0.heap.size b #[.int .i64 cap, .slice A l.length c] 24 J (gapsTo l k1) w' ∧ W.heap.size ≤ w'.heap.size) (fun k1 => l.length - k1) 0 (Sub.cons rfl (Sub.cons rfl (Sub.cons rfl (Sub.cons rfl (Sub.cons rfl (Sub.cons rfl (Sub.nil _))))))) ⟨Nat.zero_le _, G0, Nat.le_refl _⟩ ?_
  rintro k1 w4 ⟨hk2, G, hsz⟩
  have M5 := Mem.refl w4
  have hC4 : kBlk.C w4 A l.length l := Kd.C_below hC G.be
  refine tci_seq (tci_region (hQ _) ?_)
  refine sg 1 [0, 1, 7, 8, 9, 3, 10] [(0, .func (.yield lp) #[] #[]), (1, .pointer (some ⟨b, 0, none⟩)), (7, .slice A l.length c), (8, .int .i64 (l.length : Int)), (9, .int .i64 (k1 : Int)), (3, .int .i64 (lastP l k1)), (10, .bool (decide ((k1 : Int) < (l.length : Int))))] ?_
  refine to_end rfl (tn_i (tni_code (tci_seq ?_)))
  refine tci_cond (b := decide ((k1 : Int) < (l.length : Int))) (fun _ => rfl) (fun h6 => ?_) (fun h6 => ?_)
  · have h6p := of_decide_eq_true h6
    have hbd := pos_bd hm k1
    refine tci_skip (tni_code (tci_seq (tci_block (tci_seq (tci_region (hQ _) ?_)))))
    obtain ⟨ad7, rfl⟩ := C_some hC (k := k1) (by omega)
    refine ix (ad := ad7) (n := l.length) (c := c) 11 k1 3 (by omega) Try.underlying22 ?_
    obtain ⟨cs10, hk8, hc9⟩ := C_cell hC4 Blk.z k1 (by omega)
    obtain ⟨A11, c12, rfl, hl13, hC14⟩ := kBlk_open hk8
    refine lea 12 #[.int .i64 (l.getD k1 Blk.z).id, .int .i64 (l.getD k1 Blk.z).pos, .slice A11 (l.getD k1 Blk.z).w.length c12] (fun j u hj => cell_up M5 (hc9 j u hj)) (hu := Try.underlying103) ?_
    refine nw M5 5 #[.int .i64 0, .int .i64 0, .slice none 0 0] 103 fun b15 w16 M17 => ?_
    refine sa M17 0 #[.int .i64 (l.getD k1 Blk.z).id, .int .i64 (l.getD k1 Blk.z).pos, .slice A11 (l.getD k1 Blk.z).w.length c12] fun w18 M19 => ?_
    refine to_end rfl (tn_i (tni_code (tci_seq (tci_seq (tci_regionY ?_)))))
    refine sgi 1 [0, 1, 7, 8, 9, 3, 5, 13] [(0, .func (.yield lp) #[] #[]), (1, .pointer (some ⟨b, 0, none⟩)), (7, .slice (some ad7) l.length c), (8, .int .i64 (l.length : Int)), (9, .int .i64 (k1 : Int)), (3, .int .i64 (lastP l k1)), (5, .pointer (some ⟨b15, 0, none⟩)), (13, .pointer (some ⟨b15, 1, none⟩))] ?_
    refine ldi M19 0 14 (.int .i64 (l.getD k1 Blk.z).pos) ?_
    refine sgi 3 [0, 1, 7, 8, 9, 3, 5, 17] [(0, .func (.yield lp) #[] #[]), (1, .pointer (some ⟨b, 0, none⟩)), (7, .slice (some ad7) l.length c), (8, .int .i64 (l.length : Int)), (9, .int .i64 (k1 : Int)), (3, .int .i64 (lastP l k1)), (5, .pointer (some ⟨b15, 0, none⟩)), (17, .bool (decide ((l.getD k1 Blk.z).pos > (lastP l k1))))] ?_
    rcases h20 : (decide ((l.getD k1 Blk.z).pos > (lastP l k1)) : Bool) with _ | _
    · have h20p := of_decide_eq_false h20
      refine sgi 7 [0, 1, 7, 8, 9, 5, 24] [(0, .func (.yield lp) #[] #[]), (1, .pointer (some ⟨b, 0, none⟩)), (7, .slice (some ad7) l.length c), (8, .int .i64 (l.length : Int)), (9, .int .i64 (k1 : Int)), (5, .pointer (some ⟨b15, 0, none⟩)), (24, .bool false)] ?_
      refine toi_end rfl (tni_code (tci_cond_f (fun _ => rfl) (tci_skip (tni_code (tci_region (hQ _) ?_)))))
      refine la M19 0 25 #[.int .i64 (l.getD k1 Blk.z).id, .int .i64 (l.getD k1 Blk.z).pos, .slice A11 (l.getD k1 Blk.z).w.length c12] (hu := Try.underlying103) ?_
      refine cb M19 26 (end_any (l.getD k1 Blk.z) A11 c12 _ ⟨by omega, by omega⟩ (by omega)) fun w21 hb23 M22 => ?_
      refine sg 1 [0, 1, 7, 8, 9, 3] [(0, .func (.yield lp) #[] #[]), (1, .pointer (some ⟨b, 0, none⟩)), (7, .slice (some ad7) l.length c), (8, .int .i64 (l.length : Int)), (9, .int .i64 (k1 : Int)), (3, .int .i64 (l.getD k1 Blk.z).fin)] ?_
      refine to_end rfl (tn_i (tni_blk (tni_code (tci_region (hQ _) ?_))))
      refine sg 2 [0, 1, 7, 8, 9, 3] [(0, .func (.yield lp) #[] #[]), (1, .pointer (some ⟨b, 0, none⟩)), (7, .slice (some ad7) l.length c), (8, .int .i64 (l.length : Int)), (9, .int .i64 (IntKind.wrap .i64 ((k1 : Int) + 1))), (3, .int .i64 (l.getD k1 Blk.z).fin)] ?_
      rw [show IntKind.wrap .i64 ((k1 : Int) + 1) = (((k1 + 1) : Nat) : Int) from wr_nat k1 1 (by omega)]
      refine to_end rfl (tn_i ?_)
      rw [show (l.getD k1 Blk.z).fin = (lastP l (k1 + 1)) from lastP_next l k1]
      exact tni_back (k1 + 1) (Sub.cons rfl (Sub.cons rfl (Sub.cons rfl (Sub.cons rfl (Sub.cons rfl (Sub.cons rfl (Sub.nil _))))))) ⟨by omega, by rw [gapsTo_no h20p]; exact G.call hJ M22.below, Nat.le_trans hsz M22.below.size⟩ (by omega)
    · have h20p := of_decide_eq_true h20
      have G2 := G.call hJ M19.below
      have hpl := gapsTo_len l k1
      refine sgi 3 [0, 1, 7, 8, 9, 5, 17, 18, 19, 20] [(0, .func (.yield lp) #[] #[]), (1, .pointer (some ⟨b, 0, none⟩)), (7, .slice (some ad7) l.length c), (8, .int .i64 (l.length : Int)), (9, .int .i64 (k1 : Int)), (5, .pointer (some ⟨b15, 0, none⟩)), (17, .bool true), (18, .func (.yield lp) #[] #[]), (19, .int .i64 (lastP l k1)), (20, .pointer (some ⟨b15, 1, none⟩))] ?_
      refine ldi M19 0 21 (.int .i64 (l.getD k1 Blk.z).pos) ?_
      refine toi_yield (l := lp) (args := #[.int .i64 (lastP l k1), .int .i64 (l.getD k1 Blk.z).pos]) 22 (hY _ (lastP l k1, (l.getD k1 Blk.z).pos) _ G2.j (by omega)) (fun e w' he => ?_)
      rw [← gapsTo_yes h20p] at he
      rcases he with ⟨rfl, hj, hkb⟩ | ⟨rfl, hj⟩
      · refine ⟨_, rfl, ?_⟩
        have G3 := G2.round (fun k hk => ⟨(hX k hk).1, (hX k hk).2.1⟩) hbe.size hkb hj
        have h15 := M19.blk_at 0 rfl
        have hb15 : w4.heap.size ≤ b15 := by obtain ⟨S, hS, he⟩ := M19.get 0 rfl; exact (hS b15 he.1).1
        have h15' := hkb.cells b15 _ h15 rfl (fun hx => by have := (hX b15 hx).2.2; have := G.n0; omega)
        refine sgi 2 [0, 1, 7, 8, 9, 5, 24] [(0, .func (.yield lp) #[] #[]), (1, .pointer (some ⟨b, 0, none⟩)), (7, .slice (some ad7) l.length c), (8, .int .i64 (l.length : Int)), (9, .int .i64 (k1 : Int)), (5, .pointer (some ⟨b15, 0, none⟩)), (24, .bool false)] ?_
        refine toi_end rfl (tni_code ?_)
        refine tci_cond_f (fun _ => rfl) (tci_skip (tni_code (tci_region (hQ _) ?_)))
        refine lea 25 #[.int .i64 (l.getD k1 Blk.z).id, .int .i64 (l.getD k1 Blk.z).pos, .slice A11 (l.getD k1 Blk.z).w.length c12] (a := ⟨b15, 0, none⟩) (cs := [.int .i64 (l.getD k1 Blk.z).id, .int .i64 (l.getD k1 Blk.z).pos, .slice A11 (l.getD k1 Blk.z).w.length c12]) (fun j u hj => by rw [add0]; exact (blk_cell h15' j).trans (by simpa using hj)) (hu := Try.underlying103) ?_
        refine cb (Mem.refl w') 26 (end_any (l.getD k1 Blk.z) A11 c12 _ ⟨by omega, by omega⟩ (by omega)) fun w26 hb28 M27 => ?_
        refine sg 1 [0, 1, 7, 8, 9, 3] [(0, .func (.yield lp) #[] #[]), (1, .pointer (some ⟨b, 0, none⟩)), (7, .slice (some ad7) l.length c), (8, .int .i64 (l.length : Int)), (9, .int .i64 (k1 : Int)), (3, .int .i64 (l.getD k1 Blk.z).fin)] ?_
        refine to_end rfl (tn_i (tni_blk (tni_code (tci_region (hQ _) ?_))))
        refine sg 2 [0, 1, 7, 8, 9, 3] [(0, .func (.yield lp) #[] #[]), (1, .pointer (some ⟨b, 0, none⟩)), (7, .slice (some ad7) l.length c), (8, .int .i64 (l.length : Int)), (9, .int .i64 (IntKind.wrap .i64 ((k1 : Int) + 1))), (3, .int .i64 (l.getD k1 Blk.z).fin)] ?_
        rw [show IntKind.wrap .i64 ((k1 : Int) + 1) = (((k1 + 1) : Nat) : Int) from wr_nat k1 1 (by omega)]
        refine to_end rfl (tn_i ?_)
        rw [show (l.getD k1 Blk.z).fin = (lastP l (k1 + 1)) from lastP_next l k1]
        exact tni_back (k1 + 1) (Sub.cons rfl (Sub.cons rfl (Sub.cons rfl (Sub.cons rfl (Sub.cons rfl (Sub.cons rfl (Sub.nil _))))))) ⟨by omega, G3.call hJ M27.below, Nat.le_trans hsz (Nat.le_trans M19.below.size (Nat.le_trans hkb.size M27.below.size))⟩ (by omega)
      · refine ⟨_, rfl, ?_⟩
        refine sgi 2 [24] [(24, .bool true)] ?_
        refine toi_end rfl (tni_code ?_)
        refine tci_cond_t (fun _ => rfl) (tci_ret ?_)
        exact fun j a ha => ⟨ha.defers, _, run_res0 rfl, ⟨_, rfl⟩, .inr ⟨_, gapsTo_F (by omega), hj⟩⟩
  · have h6p := of_decide_eq_false h6
    have hkl : k1 = l.length := by omega
    subst hkl
    have hpl := gapsTo_len l l.length
    refine tci_exitK (k' := _) rfl (tni_code (tci_seq (tci_region (hQ _) ?_)))
    refine sg 2 [0, 1, 3, 28, 29] [(0, .func (.yield lp) #[] #[]), (1, .pointer (some ⟨b, 0, none⟩)), (3, .int .i64 (lastP l l.length)), (28, .int .i64 (lastP l l.length)), (29, .pointer (some ⟨b, 0, none⟩))] ?_
    refine le 30 (.int .i64 cap) ((blk_cell G.bx 0).trans rfl) ?_
    refine sg 1 [0, 1, 3, 31] [(0, .func (.yield lp) #[] #[]), (1, .pointer (some ⟨b, 0, none⟩)), (3, .int .i64 (lastP l l.length)), (31, .bool (decide ((lastP l l.length) < cap)))] ?_
    refine to_end rfl (tn_i (tni_code ?_))
    refine tci_cond (b := decide ((lastP l l.length) < cap)) (fun _ => rfl) (fun h30 => ?_) (fun h30 => ?_)
    · have h30p := of_decide_eq_true h30
      have hF : gapsF cap l = gapsTo l l.length ++ [(lastP l l.length, cap)] := by rw [gapsF, if_pos h30p]
      refine tci_regionY ?_
      refine sgi 3 [32, 33, 34] [(32, .func (.yield lp) #[] #[]), (33, .int .i64 (lastP l l.length)), (34, .pointer (some ⟨b, 0, none⟩))] ?_
      refine lei 35 (.int .i64 cap) ((blk_cell G.bx 0).trans rfl) ?_
      refine toi_yield (l := lp) (args := #[.int .i64 (lastP l l.length), .int .i64 cap]) 36 (hY _ (lastP l l.length, cap) _ G.j (by omega)) (fun e w' he => ?_)
      rw [← hF] at he
      rcases he with ⟨rfl, hj, hkb⟩ | ⟨rfl, hj⟩
      · refine ⟨_, rfl, ?_⟩
        refine toi_end rfl ?_
        exact fun j a ha => ⟨ha.defers, _, run_res0 rfl, ⟨_, rfl⟩, .inl ⟨_, rfl, hj⟩⟩
      · refine ⟨_, rfl, ?_⟩
        refine toi_end rfl ?_
        exact fun j a ha => ⟨ha.defers, _, run_res0 rfl, ⟨_, rfl⟩, .inr ⟨_, List.prefix_refl _, hj⟩⟩
    · have h30p := of_decide_eq_false h30
      have hF : gapsF cap l = gapsTo l l.length := by rw [gapsF, if_neg h30p, List.append_nil]
      refine tci_skip ?_
      exact fun j a ha => ⟨ha.defers, _, run_res0 rfl, ⟨_, rfl⟩, .inl ⟨_, rfl, by rw [hF]; exact G.j⟩⟩
end Go.Proofs.Ytfknhbgghpbkpaa
