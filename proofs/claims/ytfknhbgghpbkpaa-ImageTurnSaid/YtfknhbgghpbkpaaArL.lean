/- The laws of the gaps: what the program makes of them is what the document asks address by address. -/
import Derived.Test.YtfknhbgghpbkpaaArG2
namespace Go.Proofs.Ytfknhbgghpbkpaa
open Go.RowKit Cal Go.Proofs.YtfknhbgghpbkpaaW.PrintWords
theorem ofM_free {l : List Blk} {a : Int} : ofM l a < 0 ↔ ∀ j, j < l.length → inBlk a (l.getD j Blk.z) = false := by
  constructor
  · intro h j hj
    rcases hb : inBlk a (l.getD j Blk.z) with _ | _
    · rfl
    · exfalso
      unfold ofM idxF at h
      split at h
      · omega
      · rename_i hn
        rw [List.findIdx?_eq_none_iff] at hn
        have := hn _ (at_mem Blk.z hj)
        rw [hb] at this; cases this
  · intro h
    have := idxF_no (p := inBlk a) (z := Blk.z) h
    unfold ofM; omega
theorem inBlk_iff {a : Int} {b : Blk} : inBlk a b = true ↔ b.pos ≤ a ∧ a < b.fin := by
  unfold inBlk
  rw [Bool.and_eq_true]; simp only [decide_eq_true_eq]
theorem inBlk_no {a : Int} {b : Blk} : inBlk a b = false ↔ a < b.pos ∨ b.fin ≤ a := by
  unfold inBlk
  rw [Bool.and_eq_false_iff]; simp only [decide_eq_false_iff_not]; omega
section
variable {cap : Int} {l : List Blk}
theorem may_at (hm : mMay cap l = true) {j : Nat} (hj : j < l.length) : 0 ≤ (l.getD j Blk.z).pos ∧ (l.getD j Blk.z).pos < (l.getD j Blk.z).fin ∧ (l.getD j Blk.z).fin ≤ cap ∧ lastP l j ≤ (l.getD j Blk.z).pos := by
  have ho := (mMay_iff.1 hm).2.2 j hj
  have hl := okAt_last ho
  obtain ⟨o1, o2, o3, o4, o5, o6, o7⟩ := ho
  unfold Blk.fin
  omega
theorem may_cap (hm : mMay cap l = true) : 0 ≤ cap ∧ cap ≤ 1024 := ⟨(mMay_iff.1 hm).1, (mMay_iff.1 hm).2.1⟩
theorem lastP_mono (hm : mMay cap l = true) {i : Nat} : ∀ m, i + m ≤ l.length → lastP l i ≤ lastP l (i + m)
  | 0, _ => Int.le_refl _
  | m + 1, h => by
    have h1 := lastP_mono hm m (show i + m ≤ l.length by omega)
    have h2 := may_at hm (show i + m < l.length by omega)
    have h3 := lastP_next l (i + m)
    show lastP l i ≤ lastP l (i + m + 1)
    omega
theorem lastP_le (hm : mMay cap l = true) {i j : Nat} (h : i ≤ j) (hj : j ≤ l.length) : lastP l i ≤ lastP l j := by
  have := lastP_mono hm (i := i) (j - i) (by omega)
  rw [show i + (j - i) = j by omega] at this
  exact this
theorem lastP_zero (l : List Blk) : lastP l 0 = 0 := rfl
theorem lastP_rng (hm : mMay cap l = true) {i : Nat} (hi : i ≤ l.length) : 0 ≤ lastP l i ∧ lastP l i ≤ cap := by
  have h0 := lastP_le hm (Nat.zero_le i) hi
  rw [lastP_zero] at h0
  refine ⟨h0, ?_⟩
  cases i with
  | zero => rw [lastP_zero]; exact (may_cap hm).1
  | succ i => rw [← lastP_next]; exact (may_at hm (by omega)).2.2.1
/-- The end of the j-th gap. -/
def endX (cap : Int) (l : List Blk) (j : Nat) : Int := if j < l.length then (l.getD j Blk.z).pos else cap
theorem mem_gapsTo {g : Int × Int} : ∀ {k : Nat}, g ∈ gapsTo l k ↔ ∃ j, j < k ∧ lastP l j < (l.getD j Blk.z).pos ∧ g = (lastP l j, (l.getD j Blk.z).pos)
  | 0 => ⟨fun h => (by cases h), fun ⟨j, h, _⟩ => absurd h (Nat.not_lt_zero _)⟩
  | k + 1 => by
    rw [gapsTo, List.mem_append, mem_gapsTo]
    constructor
    · rintro (⟨j, h1, h2⟩ | h)
      · exact ⟨j, by omega, h2⟩
      · split at h
        · rename_i hp; exact ⟨k, by omega, hp, List.mem_singleton.1 h⟩
        · cases h
    · rintro ⟨j, h1, h2, h3⟩
      rcases Nat.lt_succ_iff_lt_or_eq.1 h1 with h4 | h4
      · exact .inl ⟨j, h4, h2, h3⟩
      · subst h4; right; rw [if_pos h2, h3]; exact List.mem_singleton.2 rfl
theorem mem_gapsF {g : Int × Int} : g ∈ gapsF cap l ↔ ∃ j, j ≤ l.length ∧ lastP l j < endX cap l j ∧ g = (lastP l j, endX cap l j) := by
  unfold gapsF
  rw [List.mem_append, mem_gapsTo]
  constructor
  · rintro (⟨j, h1, h2, h3⟩ | h)
    · exact ⟨j, by omega, by unfold endX; rw [if_pos h1]; exact h2, by unfold endX; rw [if_pos h1]; exact h3⟩
    · split at h
      · rename_i hp
        exact ⟨l.length, Nat.le_refl _, by unfold endX; rw [if_neg (by omega)]; exact hp, by unfold endX; rw [if_neg (by omega)]; exact List.mem_singleton.1 h⟩
      · cases h
  · rintro ⟨j, h1, h2, h3⟩
    unfold endX at h2 h3
    by_cases hj : j < l.length
    · rw [if_pos hj] at h2 h3; exact .inl ⟨j, hj, h2, h3⟩
    · rw [if_neg hj] at h2 h3
      obtain rfl : j = l.length := by omega
      right; rw [if_pos h2, h3]; exact List.mem_singleton.2 rfl
theorem endX_cap (hm : mMay cap l = true) (j : Nat) : endX cap l j ≤ cap := by
  unfold endX
  split
  · rename_i h; have := may_at hm h; omega
  · exact Int.le_refl _
/-- Within a gap no address is of a block. -/
theorem gap_free (hm : mMay cap l = true) {j : Nat} (hj : j ≤ l.length) {x : Int} (h1 : lastP l j ≤ x) (h2 : x < endX cap l j) : ofM l x < 0 := ofM_free.2 fun i hi => inBlk_no.2 (by
  rcases Nat.lt_or_ge i j with h | h
  · right
    have := lastP_le hm (show i + 1 ≤ j by omega) hj
    rw [← lastP_next] at this
    omega
  · left
    have hjl : j < l.length := by omega
    unfold endX at h2
    rw [if_pos hjl] at h2
    have h3 := lastP_le hm h (show i ≤ l.length by omega)
    have h4 := may_at hm hi
    rcases Nat.eq_or_lt_of_le h with h5 | h5
    · subst h5; omega
    · have h6 := lastP_le hm (show j + 1 ≤ i by omega) (show i ≤ l.length by omega)
      rw [← lastP_next] at h6
      have h7 := may_at hm hjl
      omega)
/-- Its end is of a block, or the end of all. -/
theorem gap_end (hm : mMay cap l = true) {j : Nat} (hj : j ≤ l.length) : ¬ (ofM l (endX cap l j) < 0 ∧ endX cap l j < cap) := by
  rintro ⟨h1, h2⟩
  unfold endX at h1 h2
  split at h1
  · rename_i h
    have := ofM_free.1 h1 j h
    rw [inBlk_no] at this
    have := may_at hm h
    omega
  · rename_i h
    rw [if_neg h] at h2; omega
/-- A free address is in a gap. -/
theorem free_gap (hm : mMay cap l = true) {x : Int} (h0 : 0 ≤ x) (h1 : x < cap) (hf : ofM l x < 0) : ∃ j, j ≤ l.length ∧ lastP l j ≤ x ∧ x < endX cap l j := by
  have key : ∀ k, k ≤ l.length → (∃ j, j < k ∧ lastP l j ≤ x ∧ x < endX cap l j) ∨ lastP l k ≤ x := by
    intro k
    induction k with
    | zero => exact fun _ => .inr h0
    | succ k ih =>
      intro hk
      rcases ih (by omega) with ⟨j, h2, h3⟩ | h2
      · exact .inl ⟨j, by omega, h3⟩
      · have hb := ofM_free.1 hf k (by omega)
        rw [inBlk_no] at hb
        rcases hb with hb | hb
        · exact .inl ⟨k, by omega, h2, by unfold endX; rw [if_pos (by omega)]; exact hb⟩
        · right; rw [← lastP_next]; exact hb
  rcases key l.length (Nat.le_refl _) with ⟨j, h2, h3⟩ | h2
  · exact ⟨j, by omega, h3⟩
  · exact ⟨l.length, Nat.le_refl _, h2, by unfold endX; rw [if_neg (by omega)]; exact h1⟩
/-- n addresses from a on are free: they lie in one gap. -/
theorem free_iff (hm : mMay cap l = true) {a n : Int} (hn : 1 ≤ n) : freeM cap l a n = true ↔ ∃ g ∈ gapsF cap l, g.1 ≤ a ∧ a + n ≤ g.2 := by
  have hcap := may_cap hm
  unfold freeM
  rw [Bool.and_eq_true, List.all_eq_true]
  simp only [decide_eq_true_eq, List.mem_range]
  constructor
  · rintro ⟨⟨h1, h2, h3⟩, hall⟩
    have h0 := hall 0 (by omega)
    rw [show a + ((0 : Nat) : Int) = a by omega] at h0
    obtain ⟨j, hj, h4, h5⟩ := free_gap hm h1 (by omega) h0
    refine ⟨(lastP l j, endX cap l j), mem_gapsF.2 ⟨j, hj, by omega, rfl⟩, h4, ?_⟩
    show a + n ≤ endX cap l j
    rcases Int.lt_or_le (endX cap l j) (a + n) with h6 | h6
    · exfalso
      have h7 := hall (endX cap l j - a).toNat (by omega)
      rw [show a + (((endX cap l j - a).toNat : Nat) : Int) = endX cap l j by omega] at h7
      exact gap_end hm hj ⟨h7, by omega⟩
    · exact h6
  · rintro ⟨g, hg, h1, h2⟩
    obtain ⟨j, hj, h3, rfl⟩ := mem_gapsF.1 hg
    have h1 : lastP l j ≤ a := h1
    have h2 : a + n ≤ endX cap l j := h2
    have h4 := lastP_rng hm hj
    have h5 := endX_cap hm j
    exact ⟨⟨by omega, by omega, by omega⟩, fun k hk => gap_free hm hj (by omega) (by omega)⟩
theorem gap_bd (hm : mMay cap l = true) {g : Int × Int} (hg : g ∈ gapsF cap l) : 0 ≤ g.1 ∧ g.1 < g.2 ∧ g.2 ≤ cap ∧ cap ≤ 1024 := by
  obtain ⟨j, hj, h3, rfl⟩ := mem_gapsF.1 hg
  have h4 := lastP_rng hm hj
  have h5 := endX_cap hm j
  have h6 := may_cap hm
  exact ⟨h4.1, h3, h5, h6.2⟩
theorem anyG_iff {a n : Int} : ∀ {s : List (Int × Int)}, anyG a n s = s.any (fits a n) := by
  intro s
  unfold anyG
  have key : ∀ (s : List (Int × Int)) (b : Bool), s.foldl (fun b x => b || fits a n x) b = (b || s.any (fits a n)) := by
    intro s
    induction s with
    | nil => intro b; simp
    | cons x s ih => intro b; rw [List.foldl_cons, ih, List.any_cons, Bool.or_assoc]
  rw [key]; simp
/-- Whether one fits: as the document asks. -/
theorem anyG_free (hm : mMay cap l = true) {a n : Int} (hn : 1 ≤ n) : anyG a n (gapsF cap l) = freeM cap l a n := by
  rw [anyG_iff, Bool.eq_iff_iff, free_iff hm hn, List.any_eq_true]
  constructor
  · rintro ⟨g, hg, h⟩
    have hb := gap_bd hm hg
    unfold fits at h
    simp only [Bool.and_eq_true, decide_eq_true_eq] at h
    rw [wr_i64 (by omega) (by omega)] at h
    exact ⟨g, hg, by omega, by omega⟩
  · rintro ⟨g, hg, h1, h2⟩
    have hb := gap_bd hm hg
    refine ⟨g, hg, ?_⟩
    unfold fits
    simp only [Bool.and_eq_true, decide_eq_true_eq]
    rw [wr_i64 (by omega) (by omega)]
    omega
theorem fitG_iff (hm : mMay cap l = true) {g : Int × Int} (hg : g ∈ gapsF cap l) {n : Int} : fitG n g = true ↔ g.1 + n ≤ g.2 := by
  have hb := gap_bd hm hg
  unfold fitG
  rw [decide_eq_true_eq, wr_i64 (by omega) (by omega)]
  omega
theorem gaps_sorted (hm : mMay cap l = true) : (gapsF cap l).Pairwise fun g h => g.1 ≤ h.1 := by
  have key : ∀ k, k ≤ l.length → (gapsTo l k).Pairwise fun g h => g.1 ≤ h.1 := by
    intro k
    induction k with
    | zero => exact fun _ => List.Pairwise.nil
    | succ k ih =>
      intro hk
      rw [gapsTo, List.pairwise_append]
      refine ⟨ih (by omega), by split <;> simp, fun g hg h hh => ?_⟩
      obtain ⟨j, h1, h2, rfl⟩ := mem_gapsTo.1 hg
      split at hh
      · rw [List.mem_singleton.1 hh]; exact lastP_le hm (by omega) (by omega)
      · cases hh
  unfold gapsF
  rw [List.pairwise_append]
  refine ⟨key _ (Nat.le_refl _), by split <;> simp, fun g hg h hh => ?_⟩
  obtain ⟨j, h1, h2, rfl⟩ := mem_gapsTo.1 hg
  split at hh
  · rw [List.mem_singleton.1 hh]; exact lastP_le hm (by omega) (by omega)
  · cases hh
/-- The first that fits: as the document finds it. -/
theorem find_eq (cap : Int) (l : List Blk) (n : Int) : findM cap l n = rFindM cap l n := by
  by_cases hc : mMay cap l = true ∧ 1 ≤ n
  · obtain ⟨hm, hn⟩ := hc
    cases hf : (gapsF cap l).find? (fitG n) with
    | none =>
      have h0 : findM cap l n = (0, false) := by unfold findM; rw [if_pos ⟨hm, hn⟩, hf]
      rw [h0]
      unfold rFindM
      rw [if_pos ⟨hm, hn⟩]
      refine (rFindF_no _ 0 fun j _ _ => ?_).symm
      rw [← Bool.not_eq_true, free_iff hm hn]
      rintro ⟨g, hg, h1, h2⟩
      have := List.find?_eq_none.1 hf g hg
      exact this ((fitG_iff hm hg).2 (by omega))
    | some g =>
      have h0 : findM cap l n = (g.1, true) := by unfold findM; rw [if_pos ⟨hm, hn⟩, hf]
      rw [h0]
      have hg := List.mem_of_find?_eq_some hf
      have hb := gap_bd hm hg
      have hfit := (fitG_iff hm hg).1 (List.find?_some hf)
      have hk : g.1 = ((g.1.toNat : Nat) : Int) := by omega
      have := rfind_at (cap := cap) (l := l) (n := n) (k := g.1.toNat) hm hn (by omega) (fun j hj => ?_) (by rw [← hk, free_iff hm hn]; exact ⟨g, hg, Int.le_refl _, hfit⟩)
      · rw [this, ← hk]
      · rw [← Bool.not_eq_true, free_iff hm hn]
        rintro ⟨g', hg', h1, h2⟩
        have hfit' := (fitG_iff hm hg').2 (show g'.1 + n ≤ g'.2 by omega)
        obtain ⟨h3, u1, u2, h4, h5⟩ := List.find?_eq_some_iff_append.1 hf
        rw [h4] at hg'
        rcases List.mem_append.1 hg' with h6 | h6
        · have := h5 g' h6
          rw [hfit'] at this; cases this
        · rcases List.mem_cons.1 h6 with h7 | h7
          · subst h7; omega
          · have hs := gaps_sorted hm
            rw [h4, List.pairwise_append, List.pairwise_cons] at hs
            have := hs.2.1.1 g' h7
            omega
  · unfold findM rFindM
    rw [if_neg hc, if_neg hc]
theorem leftF_free (l : List Blk) (p : Nat) : ∀ m, (∀ x : Nat, p ≤ x → x < p + m → ofM l (x : Int) < 0) → leftF l (p + m) = leftF l p + m
  | 0, _ => rfl
  | m + 1, h => by
    rw [← Nat.add_assoc, leftF_yes (h (p + m) (by omega) (by omega)), leftF_free l p m fun x h1 h2 => h x h1 (by omega)]; omega
theorem leftF_occ (l : List Blk) (p : Nat) : ∀ m, (∀ x : Nat, p ≤ x → x < p + m → ¬ ofM l (x : Int) < 0) → leftF l (p + m) = leftF l p
  | 0, _ => rfl
  | m + 1, h => by
    rw [← Nat.add_assoc, leftF_no (h (p + m) (by omega) (by omega)), leftF_occ l p m fun x h1 h2 => h x h1 (by omega)]
theorem left_gap (hm : mMay cap l = true) {j : Nat} (hj : j ≤ l.length) (hle : lastP l j ≤ endX cap l j) : (leftF l (endX cap l j).toNat : Int) = leftF l (lastP l j).toNat + (endX cap l j - lastP l j) := by
  have hr := lastP_rng hm hj
  have := leftF_free l (lastP l j).toNat (endX cap l j - lastP l j).toNat fun x h1 h2 => gap_free hm hj (by omega) (by omega)
  rw [show (lastP l j).toNat + (endX cap l j - lastP l j).toNat = (endX cap l j).toNat by omega] at this
  omega
theorem left_blk (hm : mMay cap l = true) {j : Nat} (hj : j < l.length) : leftF l (lastP l (j + 1)).toNat = leftF l (endX cap l j).toNat := by
  have hb := may_at hm hj
  have he : endX cap l j = (l.getD j Blk.z).pos := by unfold endX; rw [if_pos hj]
  rw [he, ← lastP_next]
  have := leftF_occ l (l.getD j Blk.z).pos.toNat ((l.getD j Blk.z).fin - (l.getD j Blk.z).pos).toNat fun x h1 h2 hf => by
    have := ofM_free.1 hf j hj
    rw [inBlk_no] at this
    omega
  rw [show (l.getD j Blk.z).pos.toNat + ((l.getD j Blk.z).fin - (l.getD j Blk.z).pos).toNat = (l.getD j Blk.z).fin.toNat by omega] at this
  exact this
theorem sum_gapsTo (hm : mMay cap l = true) : ∀ k, k ≤ l.length → sumG (gapsTo l k) = (leftF l (lastP l k).toNat : Int)
  | 0, _ => rfl
  | k + 1, h => by
    have ih := sum_gapsTo hm k (by omega)
    have hb := may_at hm (show k < l.length by omega)
    have he : endX cap l k = (l.getD k Blk.z).pos := by unfold endX; rw [if_pos (by omega)]
    have h1 := left_gap hm (show k ≤ l.length by omega) (by omega)
    have h2 := left_blk hm (show k < l.length by omega)
    have h3 := leftF_le l (endX cap l k).toNat
    have h4 := endX_cap hm k
    have h5 := may_cap hm
    have h6 := lastP_rng hm (show k ≤ l.length by omega)
    rw [h2]
    by_cases hp : (l.getD k Blk.z).pos > lastP l k
    · rw [gapsTo_yes hp, sumG_snoc, ih]
      show IntKind.wrap .i64 (_ + IntKind.wrap .i64 ((l.getD k Blk.z).pos - lastP l k)) = _
      rw [wr_i64 (x := (l.getD k Blk.z).pos - lastP l k) (by omega) (by omega), wr_i64 (by omega) (by omega)]
      omega
    · rw [gapsTo_no hp, ih]
      omega
theorem left_eq (cap : Int) (l : List Blk) : leftM cap l = rLeftM cap l := by
  by_cases hm : mMay cap l = true
  · unfold leftM
    rw [if_pos hm]
    have hr : rLeftM cap l = (leftF l cap.toNat : Int) := by unfold rLeftM; rw [if_pos hm]; rfl
    rw [hr]
    have h1 := sum_gapsTo hm l.length (Nat.le_refl _)
    have he : endX cap l l.length = cap := by unfold endX; rw [if_neg (by omega)]
    have h6 := lastP_rng hm (Nat.le_refl l.length)
    have h2 := left_gap hm (Nat.le_refl l.length) (by omega)
    have h3 := leftF_le l (endX cap l l.length).toNat
    have h5 := may_cap hm
    rw [he] at h2 h3
    unfold gapsF
    split
    · rename_i hlt
      rw [sumG_snoc, h1]
      show IntKind.wrap .i64 (_ + IntKind.wrap .i64 (cap - lastP l l.length)) = _
      rw [wr_i64 (x := cap - lastP l l.length) (by omega) (by omega), wr_i64 (by omega) (by omega)]
      omega
    · rw [List.append_nil, h1]
      omega
  · unfold leftM rLeftM
    rw [if_neg hm, if_neg hm]
end
end Go.Proofs.Ytfknhbgghpbkpaa
