/- The plain law of ProgSwap. -/
import Derived.Test.YtfknhbgghpbkpaaInst8
namespace Go.Proofs.Ytfknhbgghpbkpaa
open Go.RowKit Cal Go.Proofs.YtfknhbgghpbkpaaW.PrintWords
theorem swap_cases (p : List Fn) (i : Int) (f : Fn) : (∃ k : Int, k ≠ 0 ∧ swapOf p i f = ([], k)) ∨ ∃ n : Nat, i = (n : Int) ∧ n < p.length ∧ progMay p = true ∧ fnMay ⟨0, f.code⟩ = true ∧ (p.getD n Fn.z).args = f.args ∧ swapOf p i f = (p.set n f, 0) := by
  unfold swapOf
  split
  · exact .inl ⟨1, by decide, rfl⟩
  · rename_i h1
    split
    · exact .inl ⟨3, by decide, rfl⟩
    · rename_i h2
      split
      · exact .inl ⟨9, by decide, rfl⟩
      · rename_i h3
        simp only [not_or, Bool.not_eq_false] at h1
        refine .inr ⟨i.toNat, by omega, by omega, h1.1, h1.2, by simpa using h3, rfl⟩
theorem fnMay_args {f : Fn} (h : fnMay ⟨0, f.code⟩ = true) (h0 : 0 ≤ f.args) (h4 : f.args ≤ 4) : fnMay f = true := by
  simp only [fnMay, Bool.and_eq_true, decide_eq_true_eq] at h ⊢
  exact ⟨⟨⟨⟨h0, h4⟩, h.1.1.2⟩, h.1.2⟩, h.2⟩
theorem fnMay_zero {f : Fn} (h : fnMay f = true) : fnMay ⟨0, f.code⟩ = true := by
  simp only [fnMay, Bool.and_eq_true, decide_eq_true_eq] at h ⊢
  exact ⟨⟨⟨⟨by decide, by decide⟩, h.1.1.2⟩, h.1.2⟩, h.2⟩
theorem set_may {p : List Fn} {f : Fn} {n : Nat} (hp : progMay p = true) (hf : fnMay ⟨0, f.code⟩ = true) (hn : n < p.length) (ha : (p.getD n Fn.z).args = f.args) : progMay (p.set n f) = true := by
  have hb := progMay_bd hp
  have hg := fnMay_bd (hb.2.2.2 _ (at_mem Fn.z hn))
  have hff : fnMay f = true := fnMay_args hf (by omega) (by omega)
  simp only [progMay, Bool.and_eq_true, decide_eq_true_eq, List.all_eq_true, beq_iff_eq, List.length_set]
  refine ⟨⟨⟨hb.1, hb.2.1⟩, ?_⟩, fun g hg => ?_⟩
  · by_cases h0 : n = 0
    · subst h0
      have e : (p.set 0 f).getD 0 Fn.z = f := by simp [hn]
      rw [e, ← ha]; exact hb.2.2.1
    · have e : (p.set n f).getD 0 Fn.z = p.getD 0 Fn.z := by simp [List.getElem?_set_ne h0]
      rw [e]; exact hb.2.2.1
  · rcases List.mem_or_eq_of_mem_set hg with h1 | h1
    · exact hb.2.2.2 g h1
    · rw [h1]; exact hff
theorem swap_back {p : List Fn} {f : Fn} {n : Nat} (hp : progMay p = true) (hf : fnMay ⟨0, f.code⟩ = true) (hn : n < p.length) (ha : (p.getD n Fn.z).args = f.args) : swapOf (p.set n f) (n : Int) (p.getD n Fn.z) = (p, 0) := by
  have h1 := set_may hp hf hn ha
  have h2 := fnMay_zero ((progMay_bd hp).2.2.2 _ (at_mem Fn.z hn))
  have e1 : (p.set n f).getD n Fn.z = f := by simp [hn]
  have e2 : (p.set n f).set n (p.getD n Fn.z) = p := by
    rw [List.set_set]
    have : p.getD n Fn.z = p[n] := by simp [hn]
    rw [this]; exact List.set_getElem_self hn
  refine (if_neg (by rw [h1, h2]; simp)).trans ((if_neg (by rw [List.length_set]; omega)).trans ((if_neg ?_).trans ?_))
  · rw [Int.toNat_natCast, e1, ha]; simp
  · rw [Int.toNat_natCast, e2]
theorem cut_own {p : List Fn} {f : Fn} {n : Nat} (hn : n < p.length) : ((p.set n f).take (n + 1)).drop n = [f] := by
  have h : n < (p.set n f).length := by rw [List.length_set]; exact hn
  rw [List.take_succ_eq_append_getElem h, List.drop_left' (by rw [List.length_take]; omega)]
  simp
theorem cut_low (p : List Fn) (f : Fn) (n : Nat) : (p.set n f).take n = p.take n := by
  rw [List.take_set]
  exact List.set_eq_of_length_le (by rw [List.length_take]; omega)
theorem cut_high (p : List Fn) (f : Fn) (n : Nat) : (p.set n f).drop (n + 1) = p.drop (n + 1) := List.drop_set_of_lt (by omega)
theorem one_C {w : World} {A Af : Option Addr} {f : Fn} {cf : Nat} (h : kMix.C w A [(Sum.inr (f.args, Af, f.code.length, cf) : MixE)].length [Sum.inr (f.args, Af, f.code.length, cf)]) (hF : kInst.C w Af f.code.length f.code) (hcf : f.code.length ≤ cf) : kFn.C w A [f].length [f] :=
  mix_C h rfl fun j hj => by
    obtain rfl : j = 0 := by simp at hj; exact hj
    exact ⟨rfl, rfl, hcf, hF⟩
end Go.Proofs.Ytfknhbgghpbkpaa
